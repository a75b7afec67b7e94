/- Joined of: Gen36, Gen39, Gen9, Gen61, R1j, Ve, Gen62, Syc, Gen91, Sl, In, Gen90, Rf, Fl. -/
import Derived.Test.YtaldbfflkpgfoaaGreatDoorPartD
import Derived.Test.YtaldbfflkpgfoaaGreatDoorPartB
import Derived.Test.YtaldbfflkpgfoaaGreatDoorPartA
import Derived.Test.YtaldbfflkpgfoaaGreatDoorPartC
import Derived.RangeFuncFrom
import Derived.RangeFuncWrites
import Derived.RangeFuncMany
import Derived.RangeFuncLeaves
import Derived.RangeFuncCalls
import Derived.RangeFuncBound
import Derived.TacticsIn
import Derived.LoopNIn
import Derived.RangeFuncNested
/- Printed by a program of the prover's:rational.read at the texts of rationals. -/
namespace Go.Proofs.YtaldbfflkpgfoaaGreatDoor
open Go.RowKit

set_option maxRecDepth 100000 in
set_option maxHeartbeats 1000000 in
theorem read_w {k:Nat} (q:Rat) (hq:Sz k q.num∧Sz k (q.den:Int)) (_hk:k≤20000) (aB:64≤k) (most:Int) (_hlong:((ratL q).length:Int)≤most) (w:World) (hm:Mx w) (hw:q.den=1):
    Calls Tryz.prog 120 #[(.string ⟨(ratL (q):List UInt8).toArray⟩),(.int .i64 (most))] w fun e w'=>(∃ c0 c1 c2 c3,e=.returned (.tuple #[.agg #[c0,c1,c2,c3],.int .i64 0])∧IsRat w' k c0 c1 c2 c3 q)∧Gr w w':=by
 have hl:decide (most<((ratL q).length:Int))=false:=by simp;omega
 go_enter Tryz.func120,Tryz.ntmps120
 have hB:=Gr.refl w
 refine wp_seq_k (fun K1 k1=>?_)
 refine rg [0,1] ?_
 refine se ?_
 refine ea 36 #[(.bool false),(.slice none 0 0),(.bool false),(.slice none 0 0)] 4 hB fun b2 w2 g2 L2 o2 q2 hB=>?_
 simp only [p3,p4]
 refine sv 5 (.int .i64 0) ?_
 refine sq_nil ?_
 refine k1 _ _ ?_
 try clear k1 K1
 refine wp_seq_k (fun K3 k3=>?_)
 refine rg [0,1] ?_
 refine sv 13 (.string ⟨(ratL (q):List UInt8).toArray⟩) ?_
 refine sv 6 (.string ⟨(ratL (q):List UInt8).toArray⟩) ?_
 refine sq_nil ?_
 refine k3 _ _ ?_
 try clear k3 K3
 refine wp_seq_k (fun K4 k4=>?_)
 refine rg [0,1,2,3,4,5,6,7,8] ?_
 refine sv 15 (.string ⟨(ratL (q):List UInt8).toArray⟩) ?_
 refine se ?_
 refine ec 16 (cut_w q hq.1 hq.2 (by omega) hw (hm.gr hB)) ?_
 rintro e5 w5 ⟨rfl,g5⟩
 refine ⟨_,rfl,?_⟩
 replace hB:=hB.trans g5
 simp only [p3,p4]
 refine sv 14 (.tuple #[(.string ⟨(Lib.itoa (q.num):List UInt8).toArray⟩),(.string ⟨([]:List UInt8).toArray⟩),(.bool false)]) ?_
 refine sv 17 (.string ⟨(Lib.itoa (q.num):List UInt8).toArray⟩) ?_
 refine sv 18 (.string ⟨([]:List UInt8).toArray⟩) ?_
 refine sv 19 (.bool false) ?_
 refine sv 7 (.string ⟨(Lib.itoa (q.num):List UInt8).toArray⟩) ?_
 refine sv 8 (.string ⟨([]:List UInt8).toArray⟩) ?_
 refine sv 9 (.bool false) ?_
 refine sq_nil ?_
 refine k4 _ _ ?_
 try clear k4 K4
 refine wp_seq_k (fun K6 k6=>?_)
 refine wp_block ?_
 refine wp_seq_k (fun K7 k7=>?_)
 refine rg [0,1,2,3,4] ?_
 refine sv 21 (.string ⟨(ratL (q):List UInt8).toArray⟩) ?_
 refine sv 22 (.int .i64 (((ratL (q)).length:Int))) ?_
 refine sv 23 (.int .i64 (most)) ?_
 refine sw 24 (.bool false) rfl (RunV.bool (x:=decide (most<((ratL (q)).length:Int))) (rvk (by kernel_rfl)) hl) ?_
 refine sv 20 (.bool false) ?_
 refine sq_nil ?_
 refine k7 _ _ ?_
 try clear k7 K7
 refine wp_cond_false rfl ?_
 refine wp_seq_k (fun K8 k8=>?_)
 refine rg [0,1,2,3,4,5,6,7,8,9,10,11,12] ?_
 refine sv 27 (.string ⟨(Lib.itoa (q.num):List UInt8).toArray⟩) ?_
 refine se ?_
 refine ec 28 (trimprefix_minus (q.num) _) ?_
 rintro e9 w9 ⟨rfl,g9⟩
 refine ⟨_,rfl,?_⟩
 replace hB:=hB.trans g9
 simp only [p3,p4]
 refine se ?_
 refine ec 29 (rdigits_n q.num hq.1 (by omega) _) ?_
 rintro aI aP ⟨rfl,ax⟩
 refine ⟨_,rfl,?_⟩
 replace hB:=hB.trans ax
 simp only [p3,p4]
 refine sv 30 (.bool false) ?_
 refine sv 31 (.bool false) ?_
 refine sv 32 (.bool false) ?_
 refine sv 33 (.bool false) ?_
 refine ss 34 ?_
 refine ss 35 ?_
 refine ss 36 ?_
 refine sv 37 (.bool false) ?_
 refine sv 38 (.bool false) ?_
 refine sv 26 (.bool false) ?_
 refine sq_nil ?_
 refine k8 _ _ ?_
 try clear k8 K8
 refine wp_cond_false rfl ?_
 refine wp_seq_k (fun ay al=>?_)
 refine rg [0,1,2,3,4,5,6] ?_
 refine sv 41 (.bool false) ?_
 refine sv 42 (.bool false) ?_
 refine ss 43 ?_
 refine ss 44 ?_
 refine ss 45 ?_
 refine sv 46 (.bool false) ?_
 refine sv 40 (.bool false) ?_
 refine sq_nil ?_
 refine al _ _ ?_
 try clear al ay
 refine wp_cond_false rfl ?_
 refine wp_skip ?_
 refine k6 _ _ ?_
 try clear k6 K6
 refine wp_seq_k (fun aC au=>?_)
 refine rg [0,1,2,3,4,5,6,7] ?_
 refine sv 49 (.string ⟨(Lib.itoa (q.num):List UInt8).toArray⟩) ?_
 refine se ?_
 refine ec 50 (parse_i (q.num) hq.1 (by omega) _) ?_
 rintro e13 aN ⟨⟨ab,aa,rfl,ac⟩,ap⟩
 refine ⟨_,rfl,?_⟩
 replace hB:=hB.trans ap
 simp only [p3,p4]
 refine sv 48 (.tuple #[(.agg #[ab,aa]),(.int .i64 0)]) ?_
 refine sv 51 (.agg #[ab,aa]) ?_
 refine sv 52 (.int .i64 0) ?_
 refine se ?_
 refine ea 34 #[(.bool false),(.slice none 0 0)] 10 hB fun aQ aO av af aH aE hB=>?_
 replace L2:=L2.gr (g5.trans (g9.trans (ax.trans ap)))
 have ad:=L2.ne aH
 simp only [p3,p4]
 refine se ?_
 refine es 34 0 (.agg #[ab,aa]) [ab,aa] #[ab,aa] af hB aE ⟨ac.one0,ac.one1,trivial⟩ fun aL ae ai af hB=>?_
 refine sv 11 (.int .i64 0) ?_
 refine sq_nil ?_
 refine au _ _ ?_
 try clear au aC
 refine wp_seq_k (fun aD ar=>?_)
 refine wp_seq_k (fun aF aq=>?_)
 refine rg [0,1] ?_
 refine sv 53 (.int .i64 0) ?_
 refine sv 54 (.bool false) ?_
 refine sq_nil ?_
 refine aq _ _ ?_
 try clear aq aF
 refine wp_cond_false rfl ?_
 refine wp_skip ?_
 refine ar _ _ ?_
 try clear ar aD
 refine wp_seq_k (fun aK aM=>?_)
 refine wp_seq_k (fun az ak=>?_)
 refine rg [0,1] ?_
 refine sv 56 (.bool false) ?_
 refine sv 57 (.bool true) ?_
 refine sq_nil ?_
 refine ak _ _ ?_
 try clear ak az
 refine wp_cond_true rfl ?_
 refine wp_seq_k (fun aG aw=>?_)
 refine rg [0,1,2,3] ?_
 refine sw 58 (.agg #[ab,aa]) rfl (rl 34 0 [ab,aa] af) ?_
 refine sv 59 (.agg #[ab,aa,(.bool false),(.slice none 0 0)]) ?_
 refine se ?_
 replace L2:=ae.lc (L2.gr av) ad
 refine es 36 0 (.agg #[ab,aa,(.bool false),(.slice none 0 0)]) [ab,aa,(.bool false),(.slice none 0 0)] #[ab,aa,(.bool false),(.slice none 0 0)] L2 hB q2 ⟨ac.one0,ac.one1,rfl,rfl,trivial⟩ fun aJ aA aj L2 hB=>?_
 refine sv 5 (.int .i64 0) ?_
 refine sq_nil ?_
 refine aw _ _ ?_
 try clear aw aG
 refine wp_ret ?_
 simp only [Exit.then]
 refine bodyPost_ret (v:=(.tuple #[(.agg #[ab,aa,(.bool false),(.slice none 0 0)]),(.int .i64 0)])) (ret_cell_tmp' _ _ _ rfl rfl L2 (by kernel_rfl) rfl) rfl ⟨?_,hB⟩
 have ah:=av.kp.trans (ai.trans aj)
 replace ac:=ac.kp ah
 exact ⟨_,_,_,_,rfl,by have:=IsRat.int ac aB;rw [rat_int hw] at this;exact this⟩

set_option maxRecDepth 100000 in
set_option maxHeartbeats 1000000 in
theorem read_f {k:Nat} (q:Rat) (hq:Sz k q.num∧Sz k (q.den:Int)) (_hk:k≤20000) (a9:64≤k) (most:Int) (_hlong:((ratL q).length:Int)≤most) (w:World) (hm:Mx w) (hw:¬ q.den=1):
    Calls Tryz.prog 120 #[(.string ⟨(ratL (q):List UInt8).toArray⟩),(.int .i64 (most))] w fun e w'=>(∃ c0 c1 c2 c3,e=.returned (.tuple #[.agg #[c0,c1,c2,c3],.int .i64 0])∧IsRat w' k c0 c1 c2 c3 q)∧Gr w w':=by
 have hl:decide (most<((ratL q).length:Int))=false:=by simp;omega
 have h1:(sgn ((q.den:Int) - 1)==(0:Int))=false:=by rw [beq_eq_false_iff_ne];exact fun e=>hw (by have:=sgn_eq_zero.1 e;omega)
 have h2:(sgn ((Int.gcd (q.num) ((q.den:Int)):Int) - 1) !=(0:Int))=false:=by rw [rat_coprime];rfl
 go_enter Tryz.func120,Tryz.ntmps120
 have hB:=Gr.refl w
 refine wp_seq_k (fun K1 k1=>?_)
 refine rg [0,1] ?_
 refine se ?_
 refine ea 36 #[(.bool false),(.slice none 0 0),(.bool false),(.slice none 0 0)] 4 hB fun b2 w2 g2 L2 o2 q2 hB=>?_
 simp only [p3,p4]
 refine sv 5 (.int .i64 0) ?_
 refine sq_nil ?_
 refine k1 _ _ ?_
 try clear k1 K1
 refine wp_seq_k (fun K3 k3=>?_)
 refine rg [0,1] ?_
 refine sv 13 (.string ⟨(ratL (q):List UInt8).toArray⟩) ?_
 refine sv 6 (.string ⟨(ratL (q):List UInt8).toArray⟩) ?_
 refine sq_nil ?_
 refine k3 _ _ ?_
 try clear k3 K3
 refine wp_seq_k (fun K4 k4=>?_)
 refine rg [0,1,2,3,4,5,6,7,8] ?_
 refine sv 15 (.string ⟨(ratL (q):List UInt8).toArray⟩) ?_
 refine se ?_
 refine ec 16 (cut_f q hq.1 hq.2 (by omega) hw (hm.gr hB)) ?_
 rintro e5 w5 ⟨rfl,g5⟩
 refine ⟨_,rfl,?_⟩
 replace hB:=hB.trans g5
 simp only [p3,p4]
 refine sv 14 (.tuple #[(.string ⟨(Lib.itoa (q.num):List UInt8).toArray⟩),(.string ⟨(Lib.itoa ((q.den:Int)):List UInt8).toArray⟩),(.bool true)]) ?_
 refine sv 17 (.string ⟨(Lib.itoa (q.num):List UInt8).toArray⟩) ?_
 refine sv 18 (.string ⟨(Lib.itoa ((q.den:Int)):List UInt8).toArray⟩) ?_
 refine sv 19 (.bool true) ?_
 refine sv 7 (.string ⟨(Lib.itoa (q.num):List UInt8).toArray⟩) ?_
 refine sv 8 (.string ⟨(Lib.itoa ((q.den:Int)):List UInt8).toArray⟩) ?_
 refine sv 9 (.bool true) ?_
 refine sq_nil ?_
 refine k4 _ _ ?_
 try clear k4 K4
 refine wp_seq_k (fun K6 k6=>?_)
 refine wp_block ?_
 refine wp_seq_k (fun K7 k7=>?_)
 refine rg [0,1,2,3,4] ?_
 refine sv 21 (.string ⟨(ratL (q):List UInt8).toArray⟩) ?_
 refine sv 22 (.int .i64 (((ratL (q)).length:Int))) ?_
 refine sv 23 (.int .i64 (most)) ?_
 refine sw 24 (.bool false) rfl (RunV.bool (x:=decide (most<((ratL (q)).length:Int))) (rvk (by kernel_rfl)) hl) ?_
 refine sv 20 (.bool false) ?_
 refine sq_nil ?_
 refine k7 _ _ ?_
 try clear k7 K7
 refine wp_cond_false rfl ?_
 refine wp_seq_k (fun K8 k8=>?_)
 refine rg [0,1,2,3,4,5,6,7,8,9,10,11,12] ?_
 refine sv 27 (.string ⟨(Lib.itoa (q.num):List UInt8).toArray⟩) ?_
 refine se ?_
 refine ec 28 (trimprefix_minus (q.num) _) ?_
 rintro e9 w9 ⟨rfl,g9⟩
 refine ⟨_,rfl,?_⟩
 replace hB:=hB.trans g9
 simp only [p3,p4]
 refine se ?_
 refine ec 29 (rdigits_n q.num hq.1 (by omega) _) ?_
 rintro bz bM ⟨rfl,aX⟩
 refine ⟨_,rfl,?_⟩
 replace hB:=hB.trans aX
 simp only [p3,p4]
 refine sv 30 (.bool false) ?_
 refine sv 31 (.bool false) ?_
 refine sv 32 (.bool true) ?_
 refine sv 33 (.bool true) ?_
 refine sv 34 (.string ⟨(Lib.itoa ((q.den:Int)):List UInt8).toArray⟩) ?_
 refine se ?_
 refine ec 35 (rdigits_d q.den hq.2 (by omega) _) ?_
 rintro e11 bn ⟨rfl,aO⟩
 refine ⟨_,rfl,?_⟩
 replace hB:=hB.trans aO
 simp only [p3,p4]
 refine sv 36 (.bool false) ?_
 refine sv 37 (.bool false) ?_
 refine sv 38 (.bool false) ?_
 refine sv 26 (.bool false) ?_
 refine sq_nil ?_
 refine k8 _ _ ?_
 try clear k8 K8
 refine wp_cond_false rfl ?_
 refine wp_seq_k (fun bd aQ=>?_)
 refine rg [0,1,2,3,4,5,6] ?_
 refine sv 41 (.bool true) ?_
 refine sv 42 (.bool true) ?_
 refine sv 43 (.string ⟨(Lib.itoa ((q.den:Int)):List UInt8).toArray⟩) ?_
 refine se ?_
 refine ec 44 (trim_zero_d q.den hq.2 q.den_pos (by omega) _) ?_
 rintro e13 bK ⟨⟨aN,rfl,aH⟩,aM⟩
 refine ⟨_,rfl,?_⟩
 replace hB:=hB.trans aM
 simp only [p3,p4]
 refine sw 45 (.bool false) rfl (RunV.bool (x:=((aN)==([]:List UInt8))) (rv_seq 9 9 _ _ (aN) ([]) rfl rfl rfl) aH) ?_
 refine sv 46 (.bool false) ?_
 refine sv 40 (.bool false) ?_
 refine sq_nil ?_
 refine aQ _ _ ?_
 try clear aQ bd
 refine wp_cond_false rfl ?_
 refine wp_skip ?_
 refine k6 _ _ ?_
 try clear k6 K6
 refine wp_seq_k (fun a4 aL=>?_)
 refine rg [0,1,2,3,4,5,6,7] ?_
 refine sv 49 (.string ⟨(Lib.itoa (q.num):List UInt8).toArray⟩) ?_
 refine se ?_
 refine ec 50 (parse_i (q.num) hq.1 (by omega) _) ?_
 rintro bp bG ⟨⟨ae,af,rfl,aj⟩,aU⟩
 refine ⟨_,rfl,?_⟩
 replace hB:=hB.trans aU
 simp only [p3,p4]
 refine sv 48 (.tuple #[(.agg #[ae,af]),(.int .i64 0)]) ?_
 refine sv 51 (.agg #[ae,af]) ?_
 refine sv 52 (.int .i64 0) ?_
 refine se ?_
 refine ea 34 #[(.bool false),(.slice none 0 0)] 10 hB fun a3 bE aZ aa bj a5 hB=>?_
 replace L2:=L2.gr (g5.trans (g9.trans (aX.trans (aO.trans (aM.trans aU)))))
 have al:=L2.ne bj
 simp only [p3,p4]
 refine se ?_
 refine es 34 0 (.agg #[ae,af]) [ae,af] #[ae,af] aa hB a5 ⟨aj.one0,aj.one1,trivial⟩ fun bx aD aE aa hB=>?_
 refine sv 11 (.int .i64 0) ?_
 refine sq_nil ?_
 refine aL _ _ ?_
 try clear aL a4
 refine wp_seq_k (fun bg aV=>?_)
 refine wp_seq_k (fun a2 aJ=>?_)
 refine rg [0,1] ?_
 refine sv 53 (.int .i64 0) ?_
 refine sv 54 (.bool false) ?_
 refine sq_nil ?_
 refine aJ _ _ ?_
 try clear aJ a2
 refine wp_cond_false rfl ?_
 refine wp_skip ?_
 refine aV _ _ ?_
 try clear aV bg
 refine wp_seq_k (fun bi aW=>?_)
 refine wp_seq_k (fun a7 aP=>?_)
 refine rg [0,1] ?_
 refine sv 56 (.bool true) ?_
 refine sv 57 (.bool false) ?_
 refine sq_nil ?_
 refine aP _ _ ?_
 try clear aP a7
 refine wp_cond_false rfl ?_
 refine wp_skip ?_
 refine aW _ _ ?_
 try clear aW bi
 refine wp_seq_k (fun a0 aR=>?_)
 refine rg [0,1,2,3,4,5,6,7] ?_
 refine sv 61 (.string ⟨(Lib.itoa ((q.den:Int)):List UInt8).toArray⟩) ?_
 refine se ?_
 refine ec 62 (parse_i ((q.den:Int)) hq.2 (by omega) _) ?_
 rintro e23 bF ⟨⟨ac,ad,rfl,ai⟩,aA⟩
 refine ⟨_,rfl,?_⟩
 replace hB:=hB.trans aA
 simp only [p3,p4]
 refine sv 60 (.tuple #[(.agg #[ac,ad]),(.int .i64 0)]) ?_
 refine sv 63 (.agg #[ac,ad]) ?_
 refine sv 64 (.int .i64 0) ?_
 refine se ?_
 refine ea 34 #[(.bool false),(.slice none 0 0)] 12 hB fun a6 bN aB ab aT bc hB=>?_
 replace L2:=(aD.lc (L2.gr aZ) al).gr aA
 have ap:=L2.ne aT
 replace aa:=aa.gr aA
 have ak:=aa.ne aT
 simp only [p3,p4]
 refine se ?_
 refine es 34 0 (.agg #[ac,ad]) [ac,ad] #[ac,ad] ab hB bc ⟨ai.one0,ai.one1,trivial⟩ fun bb av az ab hB=>?_
 refine sv 11 (.int .i64 0) ?_
 refine sq_nil ?_
 refine aR _ _ ?_
 try clear aR a0
 refine wp_seq_k (fun a8 aS=>?_)
 refine wp_seq_k (fun bf aY=>?_)
 have ah:=Gr.drew bb
 replace hB:=hB.trans ah
 replace aa:=(av.lc (aa.gr aB) ak).gr ah
 replace ab:=ab.gr ah
 refine wp_region_ord (fun w'=>Lc w' a3 #[ae,af] 34∧Lc w' a6 #[ac,ad] 34) [(true,0),(true,1),(true,2),(true,3),(false,4),(false,5),(true,6),(true,7),(true,8),(true,9),(true,10),(false,11),(false,12),(false,13),(true,14),(true,15)] (by kernel_rfl) (by kernel_rfl) (by kernel_rfl) (by decide) (fun _ _ _ _ _ h=>h) ⟨aa,ab⟩ ?_
 refine ov 65 (.int .i64 0) ?_
 refine ov 66 (.bool false) ?_
 refine ov 67 (.bool false) ?_
 refine ow 68 (.agg #[ac,ad]) rfl (fun w' hS=>(rl 34 0 [ac,ad] hS.2)) ?_
 refine oe ?_
 refine ec 69 (one_i _) ?_
 rintro bA bm ⟨⟨bq,bJ,rfl,a1⟩,aq⟩
 refine ⟨_,rfl,?_⟩
 replace hB:=hB.trans aq
 replace aa:=aa.gr aq
 replace ab:=ab.gr aq
 refine ⟨⟨aa,ab⟩,?_⟩
 simp only [p3,p4]
 refine oe ?_
 have aF:=aB.kp.trans (az.trans (ah.kp.trans aq.kp))
 replace ai:=ai.kp aF
 refine ec 70 (compare_i ai a1 (by omega) (by omega)) ?_
 rintro bH bB ⟨rfl,ar⟩
 refine ⟨_,rfl,?_⟩
 replace hB:=hB.trans ar
 replace aa:=aa.gr ar
 replace ab:=ab.gr ar
 refine ⟨⟨aa,ab⟩,?_⟩
 simp only [p3,p4]
 refine ow 71 (.bool false) rfl (fun w' hS=>(RunV.bool (x:=(sgn ((q.den:Int) - 1)==(0:Int))) (rvk (by kernel_rfl)) h1)) ?_
 refine ov 72 (.bool false) ?_
 refine ov 73 (.bool false) ?_
 refine ow 74 (.agg #[ae,af]) rfl (fun w' hS=>(rl 34 0 [ae,af] hS.1)) ?_
 refine ow 75 (.agg #[ac,ad]) rfl (fun w' hS=>(rl 34 0 [ac,ad] hS.2)) ?_
 refine oe ?_
 have aC:=aZ.kp.trans (aE.trans (aA.kp.trans (aB.kp.trans (az.trans (ah.kp.trans (aq.kp.trans ar.kp))))))
 replace aj:=aj.kp aC
 replace ai:=ai.kp ar.kp
 refine ec 76 (gcd_i aj ai (by omega)) ?_
 rintro bv bw ⟨⟨bu,bQ,rfl,aI⟩,ax⟩
 refine ⟨_,rfl,?_⟩
 replace hB:=hB.trans ax
 replace aa:=aa.gr ax
 replace ab:=ab.gr ax
 refine ⟨⟨aa,ab⟩,?_⟩
 simp only [p3,p4]
 refine oe ?_
 refine ec 77 (one_i _) ?_
 rintro bP bO ⟨⟨bL,bC,rfl,bh⟩,au⟩
 refine ⟨_,rfl,?_⟩
 replace hB:=hB.trans au
 replace aa:=aa.gr au
 replace ab:=ab.gr au
 refine ⟨⟨aa,ab⟩,?_⟩
 simp only [p3,p4]
 refine oe ?_
 replace aI:=aI.kp au.kp
 refine ec 78 (compare_i aI bh (by omega) (by omega)) ?_
 rintro bD bo ⟨rfl,ay⟩
 refine ⟨_,rfl,?_⟩
 replace hB:=hB.trans ay
 replace aa:=aa.gr ay
 replace ab:=ab.gr ay
 refine ⟨⟨aa,ab⟩,?_⟩
 simp only [p3,p4]
 refine ow 79 (.bool false) rfl (fun w' hS=>(RunV.bool (x:=(sgn ((Int.gcd (q.num) ((q.den:Int)):Int) - 1) !=(0:Int))) (rvk (by kernel_rfl)) h2)) ?_
 refine ov 80 (.bool false) ?_
 refine ord_nil ?_
 refine aY _ _ ?_
 try clear aY bf
 refine wp_cond_false rfl ?_
 refine wp_skip ?_
 refine aS _ _ ?_
 try clear aS a8
 refine wp_seq_k (fun ba aK=>?_)
 refine rg [0,1,2,3,4] ?_
 refine sw 82 (.agg #[ae,af]) rfl (rl 34 0 [ae,af] aa) ?_
 refine sw 83 (.agg #[ac,ad]) rfl (rl 34 0 [ac,ad] ab) ?_
 refine sv 84 (.agg #[ae,af,ac,ad]) ?_
 refine se ?_
 replace L2:=(av.lc (L2.gr aB) ap).gr (ah.trans (aq.trans (ar.trans (ax.trans (au.trans ay)))))
 refine es 36 0 (.agg #[ae,af,ac,ad]) [ae,af,ac,ad] #[ae,af,ac,ad] L2 hB q2 ⟨aj.one0,aj.one1,ai.one0,ai.one1,trivial⟩ fun bt bk aG L2 hB=>?_
 refine sv 5 (.int .i64 0) ?_
 refine sq_nil ?_
 refine aK _ _ ?_
 try clear aK ba
 refine wp_ret ?_
 refine bodyPost_ret (v:=(.tuple #[(.agg #[ae,af,ac,ad]),(.int .i64 0)])) (ret_cell_tmp' _ _ _ rfl rfl L2 (by kernel_rfl) rfl) rfl ⟨?_,hB⟩
 have aw:=ax.kp.trans (au.kp.trans (ay.kp.trans aG))
 replace aj:=aj.kp aw
 replace ai:=ai.kp aw
 exact ⟨_,_,_,_,rfl,isRat_parts aj ai a9⟩

theorem read_q {k:Nat} (q:Rat) (hq:Sz k q.num∧Sz k (q.den:Int)) (hk:k≤20000) (h64:64≤k) (most:Int) (hlong:((ratL q).length:Int)≤most) (w:World) (hm:Mx w):
  Calls Tryz.prog 120 #[(.string ⟨(ratL (q):List UInt8).toArray⟩),(.int .i64 (most))] w fun e w'=>(∃ c0 c1 c2 c3,e=.returned (.tuple #[.agg #[c0,c1,c2,c3],.int .i64 0])∧IsRat w' k c0 c1 c2 c3 q)∧Gr w w':=by
 by_cases hw:q.den=1
 ·exact read_w q hq hk h64 most hlong w hm hw
 ·exact read_f q hq hk h64 most hlong w hm hw

set_option maxRecDepth 100000 in
set_option maxHeartbeats 1000000 in
theorem parse_q {k:Nat} (q:Rat) (hq:Sz k q.num∧Sz k (q.den:Int)) (hk:k≤20000) (af:64≤k) (_hlong:((ratL q).length:Int)≤400) (w:World) (hm:Mx w):
    Calls Tryz.prog 94 #[(.string ⟨(ratL (q):List UInt8).toArray⟩)] w fun e w'=>(∃ c0 c1 c2 c3,e=.returned (.tuple #[.agg #[c0,c1,c2,c3],.int .i64 0])∧IsRat w' k c0 c1 c2 c3 q)∧Gr w w':=by
 go_enter Tryz.func94,Tryz.ntmps94
 have hB:=Gr.refl w
 refine wp_seq_k (fun K1 k1=>?_)
 refine rg [0,1] ?_
 refine se ?_
 refine ea 36 #[(.bool false),(.slice none 0 0),(.bool false),(.slice none 0 0)] 2 hB fun b2 w2 g2 L2 o2 q2 hB=>?_
 simp only [p3,p4]
 refine sv 3 (.int .i64 0) ?_
 refine sq_nil ?_
 refine k1 _ _ ?_
 try clear k1 K1
 refine wp_seq_k (fun K3 k3=>?_)
 refine rg [0,1,2,3,4,5] ?_
 refine sv 4 (.string ⟨(ratL (q):List UInt8).toArray⟩) ?_
 refine se ?_
 refine ec 5 (read_q q hq hk af 400 (by omega) _ (hm.gr hB)) ?_
 rintro e4 w4 ⟨⟨ab,aa,ac,ad,rfl,h4⟩,g4⟩
 refine ⟨_,rfl,?_⟩
 replace hB:=hB.trans g4
 simp only [p3,p4]
 refine sv 6 (.agg #[ab,aa,ac,ad]) ?_
 refine sv 7 (.int .i64 0) ?_
 refine se ?_
 replace L2:=L2.gr g4
 refine es 36 0 (.agg #[ab,aa,ac,ad]) [ab,aa,ac,ad] #[ab,aa,ac,ad] L2 hB q2 ⟨h4.one0,h4.one1,h4.one2,h4.one3,trivial⟩ fun w5 ah ae L2 hB=>?_
 refine sv 3 (.int .i64 0) ?_
 refine sq_nil ?_
 refine k3 _ _ ?_
 try clear k3 K3
 refine wp_ret ?_
 refine bodyPost_ret (v:=(.tuple #[(.agg #[ab,aa,ac,ad]),(.int .i64 0)])) (ret_cell_tmp' _ _ _ rfl rfl L2 (by kernel_rfl) rfl) rfl ⟨?_,hB⟩
 replace h4:=h4.kp ae
 exact ⟨_,_,_,_,rfl,h4⟩

set_option maxRecDepth 100000 in
set_option maxHeartbeats 1000000 in
theorem readr_q {k:Nat} (q:Rat) (hq:Sz k q.num∧Sz k (q.den:Int)) (hk:k≤20000) (af:64≤k) (_hlong:((ratL q).length:Int)≤65536) (w:World) (hm:Mx w):
    Calls Tryz.prog 107 #[(.string ⟨(ratL (q):List UInt8).toArray⟩)] w fun e w'=>(∃ c0 c1 c2 c3,e=.returned (.tuple #[.agg #[c0,c1,c2,c3],.int .i64 0])∧IsRat w' k c0 c1 c2 c3 q)∧Gr w w':=by
 go_enter Tryz.func107,Tryz.ntmps107
 have hB:=Gr.refl w
 refine wp_seq_k (fun K1 k1=>?_)
 refine rg [0,1] ?_
 refine se ?_
 refine ea 36 #[(.bool false),(.slice none 0 0),(.bool false),(.slice none 0 0)] 2 hB fun b2 w2 g2 L2 o2 q2 hB=>?_
 simp only [p3,p4]
 refine sv 3 (.int .i64 0) ?_
 refine sq_nil ?_
 refine k1 _ _ ?_
 try clear k1 K1
 refine wp_seq_k (fun K3 k3=>?_)
 refine rg [0,1,2,3,4,5] ?_
 refine sv 4 (.string ⟨(ratL (q):List UInt8).toArray⟩) ?_
 refine se ?_
 refine ec 5 (read_q q hq hk af 65536 (by omega) _ (hm.gr hB)) ?_
 rintro e4 w4 ⟨⟨ab,aa,ac,ad,rfl,h4⟩,g4⟩
 refine ⟨_,rfl,?_⟩
 replace hB:=hB.trans g4
 simp only [p3,p4]
 refine sv 6 (.agg #[ab,aa,ac,ad]) ?_
 refine sv 7 (.int .i64 0) ?_
 refine se ?_
 replace L2:=L2.gr g4
 refine es 36 0 (.agg #[ab,aa,ac,ad]) [ab,aa,ac,ad] #[ab,aa,ac,ad] L2 hB q2 ⟨h4.one0,h4.one1,h4.one2,h4.one3,trivial⟩ fun w5 ah ae L2 hB=>?_
 refine sv 3 (.int .i64 0) ?_
 refine sq_nil ?_
 refine k3 _ _ ?_
 try clear k3 K3
 refine wp_ret ?_
 refine bodyPost_ret (v:=(.tuple #[(.agg #[ab,aa,ac,ad]),(.int .i64 0)])) (ret_cell_tmp' _ _ _ rfl rfl L2 (by kernel_rfl) rfl) rfl ⟨?_,hB⟩
 replace h4:=h4.kp ae
 exact ⟨_,_,_,_,rfl,h4⟩

end Go.Proofs.YtaldbfflkpgfoaaGreatDoor
/- Printed by a program of the prover's:what the laws of chapter 02 take. -/
namespace Go.Proofs.YtaldbfflkpgfoaaGreatDoor
open Go.RowKit

set_option maxRecDepth 100000 in
set_option maxHeartbeats 1000000 in
theorem div_a {k m:Nat} {u0 u1 u2 u3 v0 v1 v2 v3:Value} {a b:Rat} {w:World} (ha:IsRat w k u0 u1 u2 u3 a) (hb:IsRat w m v0 v1 v2 v3 b) (_hk:k+m≤100000) (h0:b.num≠0):
    Calls Tryz.prog 58 #[(.agg #[u0,u1,u2,u3]),(.agg #[v0,v1,v2,v3])] w fun e w'=>(∃ c0 c1 c2 c3,e=.returned (.tuple #[.agg #[c0,c1,c2,c3],.int .i64 0])∧IsRat w' (k+m) c0 c1 c2 c3 (a/b))∧Gr w w':=by
 have hka:=ha.big
 have hkb:=hb.big
 have he:(sgn (b).num==(0:Int))=false:=by rw [beq_eq_false_iff_ne];exact fun e=>h0 (sgn_eq_zero.1 e)
 go_enter Tryz.func58,Tryz.ntmps58
 have hB:=Gr.refl w
 refine wp_seq_k (fun K1 k1=>?_)
 refine rg [0,1,2,3] ?_
 refine se ?_
 refine eb 36 #[u0,u1,u2,u3] 2 hB fun b2 w2 g2 L2 o2 q2 hB=>?_
 simp only [p3,p4]
 refine se ?_
 refine eb 36 #[v0,v1,v2,v3] 3 hB fun b3 w3 g3 L3 o3 q3 hB=>?_
 simp only [p3,p4]
 refine se ?_
 refine ea 36 #[(.bool false),(.slice none 0 0),(.bool false),(.slice none 0 0)] 4 hB fun b4 w4 g4 L4 o4 q4 hB=>?_
 replace L2:=L2.gr g3
 have ah:=L2.ne o4
 have aj:=L3.ne o4
 simp only [p3,p4]
 refine sv 5 (.int .i64 0) ?_
 refine sq_nil ?_
 refine k1 _ _ ?_
 try clear k1 K1
 refine wp_seq_k (fun K5 k5=>?_)
 refine wp_seq_k (fun K6 k6=>?_)
 refine rg [0,1,2] ?_
 replace L3:=L3.gr g4
 refine sw 6 (.agg #[v0,v1,v2,v3]) rfl (rl 36 0 [v0,v1,v2,v3] L3) ?_
 refine se ?_
 have aB:=g2.kp.trans (g3.kp.trans g4.kp)
 replace hb:=hb.kp aB
 refine ec 7 (sign_r hb) ?_
 rintro e7 w7 ⟨rfl,g7⟩
 refine ⟨_,rfl,?_⟩
 replace hB:=hB.trans g7
 simp only [p3,p4]
 refine sw 8 (.bool false) rfl (RunV.bool (x:=(sgn (b).num==(0:Int))) (rvk (by kernel_rfl)) he) ?_
 refine sq_nil ?_
 refine k6 _ _ ?_
 try clear k6 K6
 refine wp_cond_false rfl ?_
 refine wp_skip ?_
 refine k5 _ _ ?_
 try clear k5 K5
 refine wp_seq_k (fun K9 k9=>?_)
 have aa:=Gr.drew w7
 replace hB:=hB.trans aa
 replace L2:=L2.gr (g4.trans (g7.trans aa))
 replace L3:=L3.gr (g7.trans aa)
 refine wp_region_ord (fun w'=>Lc w' b2 #[u0,u1,u2,u3] 36∧Lc w' b3 #[v0,v1,v2,v3] 36) [(true,0),(true,1),(true,2),(true,5),(true,7),(true,8),(false,3),(false,4),(false,6),(false,9),(false,10),(false,11),(true,12)] (by kernel_rfl) (by kernel_rfl) (by kernel_rfl) (by decide) (fun _ _ _ _ _ h=>h) ⟨L2,L3⟩ ?_
 refine ov 10 (.pointer (some ⟨b2,0,none⟩)) ?_
 refine ow 11 (.agg #[u0,u1]) rfl (fun w' hS=>(rl 34 0 [u0,u1] hS.1)) ?_
 refine ow 12 (.agg #[v0,v1,v2,v3]) rfl (fun w' hS=>(rl 36 0 [v0,v1,v2,v3] hS.2)) ?_
 refine ow 15 (.agg #[u0,u1,u2,u3]) rfl (fun w' hS=>(rl 36 0 [u0,u1,u2,u3] hS.1)) ?_
 refine ov 17 (.pointer (some ⟨b3,0,none⟩)) ?_
 refine ow 18 (.agg #[v0,v1]) rfl (fun w' hS=>(rl 34 0 [v0,v1] hS.2)) ?_
 refine oe ?_
 have aw:=g7.kp.trans aa.kp
 replace hb:=hb.kp aw
 refine ec 13 (den_i hb) ?_
 rintro aP aF ⟨⟨aO,aH,rfl,aA⟩,ae⟩
 refine ⟨_,rfl,?_⟩
 replace hB:=hB.trans ae
 replace L2:=L2.gr ae
 replace L3:=L3.gr ae
 refine ⟨⟨L2,L3⟩,?_⟩
 simp only [p3,p4]
 refine oe ?_
 have au:=g2.kp.trans (g3.kp.trans (g4.kp.trans (g7.kp.trans (aa.kp.trans ae.kp))))
 replace ha:=ha.kp au
 refine ec 14 (mul_i ha.num aA (by omega)) ?_
 rintro e32 aQ ⟨⟨aS,aK,rfl,ax⟩,ac⟩
 refine ⟨_,rfl,?_⟩
 replace hB:=hB.trans ac
 replace L2:=L2.gr ac
 replace L3:=L3.gr ac
 refine ⟨⟨L2,L3⟩,?_⟩
 simp only [p3,p4]
 refine oe ?_
 replace ha:=ha.kp ac.kp
 refine ec 16 (den_i ha) ?_
 rintro aU aT ⟨⟨aE,aR,rfl,aC⟩,ad⟩
 refine ⟨_,rfl,?_⟩
 replace hB:=hB.trans ad
 replace L2:=L2.gr ad
 replace L3:=L3.gr ad
 refine ⟨⟨L2,L3⟩,?_⟩
 simp only [p3,p4]
 refine oe ?_
 have az:=ae.kp.trans (ac.kp.trans ad.kp)
 replace hb:=hb.kp az
 refine ec 19 (mul_i aC hb.num (by omega)) ?_
 rintro aN aG ⟨⟨aM,aJ,rfl,aD⟩,ai⟩
 refine ⟨_,rfl,?_⟩
 replace hB:=hB.trans ai
 replace L2:=L2.gr ai
 replace L3:=L3.gr ai
 refine ⟨⟨L2,L3⟩,?_⟩
 simp only [p3,p4]
 refine oe ?_
 have ay:=ad.kp.trans ai.kp
 replace ax:=ax.kp ay
 refine ec 20 (reduced_a (k+m) ax aD (Int.mul_ne_zero (Int.ne_of_gt (Int.natCast_pos.2 a.den_pos)) h0) (by omega) (by omega) (by omega) (by omega)) ?_
 rintro aI aL ⟨⟨aq,ap,al,ar,rfl,ab⟩,ak⟩
 refine ⟨_,rfl,?_⟩
 replace hB:=hB.trans ak
 replace L2:=L2.gr ak
 replace L3:=L3.gr ak
 refine ⟨⟨L2,L3⟩,?_⟩
 simp only [p3,p4]
 refine oe ?_
 replace L4:=L4.gr (g7.trans (aa.trans (ae.trans (ac.trans (ad.trans (ai.trans ak))))))
 refine es 36 0 (.agg #[aq,ap,al,ar]) [aq,ap,al,ar] #[aq,ap,al,ar] L4 hB q4 ⟨ab.one0,ab.one1,ab.one2,ab.one3,trivial⟩ fun aV af av L4 hB=>?_
 replace L2:=af.lc L2 ah
 replace L3:=af.lc L3 aj
 refine ⟨⟨L2,L3⟩,?_⟩
 refine ov 5 (.int .i64 0) ?_
 refine ord_nil ?_
 refine k9 _ _ ?_
 try clear k9 K9
 refine wp_ret ?_
 refine bodyPost_ret (v:=(.tuple #[(.agg #[aq,ap,al,ar]),(.int .i64 0)])) (ret_cell_tmp' _ _ _ rfl rfl L4 (by kernel_rfl) rfl) rfl ⟨?_,hB⟩
 replace ab:=ab.kp av
 exact ⟨_,_,_,_,rfl,by rw [← rat_div];exact ab⟩

set_option maxRecDepth 100000 in
set_option maxHeartbeats 1000000 in
theorem div_0 {k m:Nat} {u0 u1 u2 u3 v0 v1 v2 v3:Value} {a b:Rat} {w:World} (_ha:IsRat w k u0 u1 u2 u3 a) (hb:IsRat w m v0 v1 v2 v3 b) (h0:b.num=0):
    Calls Tryz.prog 58 #[(.agg #[u0,u1,u2,u3]),(.agg #[v0,v1,v2,v3])] w fun e w'=>e=.returned (.tuple #[.agg #[.bool false,.slice none 0 0,.bool false,.slice none 0 0],.int .i64 19])∧Gr w w':=by
 have he:(sgn (b).num==(0:Int))=true:=by rw [h0];rfl
 go_enter Tryz.func58,Tryz.ntmps58
 have hB:=Gr.refl w
 refine wp_seq_k (fun K1 k1=>?_)
 refine rg [0,1,2,3] ?_
 refine se ?_
 refine eb 36 #[u0,u1,u2,u3] 2 hB fun b2 w2 g2 L2 o2 q2 hB=>?_
 simp only [p3,p4]
 refine se ?_
 refine eb 36 #[v0,v1,v2,v3] 3 hB fun b3 w3 g3 L3 o3 q3 hB=>?_
 simp only [p3,p4]
 refine se ?_
 refine ea 36 #[(.bool false),(.slice none 0 0),(.bool false),(.slice none 0 0)] 4 hB fun b4 w4 g4 L4 o4 q4 hB=>?_
 simp only [p3,p4]
 refine sv 5 (.int .i64 0) ?_
 refine sq_nil ?_
 refine k1 _ _ ?_
 try clear k1 K1
 refine wp_seq_k (fun K5 k5=>?_)
 refine wp_seq_k (fun K6 k6=>?_)
 refine rg [0,1,2] ?_
 replace L3:=L3.gr g4
 refine sw 6 (.agg #[v0,v1,v2,v3]) rfl (rl 36 0 [v0,v1,v2,v3] L3) ?_
 refine se ?_
 have aa:=g2.kp.trans (g3.kp.trans g4.kp)
 replace hb:=hb.kp aa
 refine ec 7 (sign_r hb) ?_
 rintro e7 w7 ⟨rfl,g7⟩
 refine ⟨_,rfl,?_⟩
 replace hB:=hB.trans g7
 simp only [p3,p4]
 refine sw 8 (.bool true) rfl (RunV.bool (x:=(sgn (b).num==(0:Int))) (rvk (by kernel_rfl)) he) ?_
 refine sq_nil ?_
 refine k6 _ _ ?_
 try clear k6 K6
 refine wp_cond_true rfl ?_
 refine wp_seq_k (fun K9 k9=>?_)
 refine rg [0,1,2] ?_
 refine sv 9 (.agg #[(.bool false),(.slice none 0 0),(.bool false),(.slice none 0 0)]) ?_
 refine se ?_
 replace L4:=L4.gr g7
 refine es 36 0 (.agg #[(.bool false),(.slice none 0 0),(.bool false),(.slice none 0 0)]) [(.bool false),(.slice none 0 0),(.bool false),(.slice none 0 0)] #[(.bool false),(.slice none 0 0),(.bool false),(.slice none 0 0)] L4 hB q4 ⟨rfl,rfl,rfl,rfl,trivial⟩ fun ad ac ab L4 hB=>?_
 refine sv 5 (.int .i64 19) ?_
 refine sq_nil ?_
 refine k9 _ _ ?_
 try clear k9 K9
 refine wp_ret ?_
 simp only [Exit.then]
 refine bodyPost_ret (v:=(.tuple #[(.agg #[(.bool false),(.slice none 0 0),(.bool false),(.slice none 0 0)]),(.int .i64 19)])) (ret_cell_tmp' _ _ _ rfl rfl L4 (by kernel_rfl) rfl) rfl ⟨?_,hB⟩
 exact rfl

set_option maxRecDepth 100000 in
set_option maxHeartbeats 1000000 in
theorem r2_div {k m:Nat} (a b:Rat) (ha:Sz k a.num∧Sz k (a.den:Int)) (hb:Sz m b.num∧Sz m (b.den:Int)) (h0:b.num≠0) (_hk:k+m≤19998) (w:World):
    Calls Tryz.prog 64 #[(.string ⟨(ratL (a):List UInt8).toArray⟩),(.string ⟨(ratL (b):List UInt8).toArray⟩)] w fun e w'=>e=.returned (.string ⟨(ratL (a/b)).toArray⟩)∧Gr w w':=by
 go_enter Tryz.func64,Tryz.ntmps64
 have hB:=Gr.refl w
 refine wp_seq_k (fun K1 k1=>?_)
 refine rg [0] ?_
 refine sv 4 (.string ⟨([]:List UInt8).toArray⟩) ?_
 refine sq_nil ?_
 refine k1 _ _ ?_
 try clear k1 K1
 refine wp_seq_k (fun K2 k2=>?_)
 refine rg [0,1,2,3,4,5,6] ?_
 refine sv 10 (.string ⟨(ratL (a):List UInt8).toArray⟩) ?_
 refine se ?_
 refine ec 11 (r2_parts_q a ha.1 ha.2 (by omega) _) ?_
 rintro e3 w3 ⟨rfl,g3⟩
 refine ⟨_,rfl,?_⟩
 replace hB:=hB.trans g3
 simp only [p3,p4]
 refine sv 9 (.tuple #[(.string ⟨(Lib.itoa (a.num):List UInt8).toArray⟩),(.string ⟨(Lib.itoa ((a.den:Int)):List UInt8).toArray⟩)]) ?_
 refine sv 12 (.string ⟨(Lib.itoa (a.num):List UInt8).toArray⟩) ?_
 refine sv 13 (.string ⟨(Lib.itoa ((a.den:Int)):List UInt8).toArray⟩) ?_
 refine sv 5 (.string ⟨(Lib.itoa (a.num):List UInt8).toArray⟩) ?_
 refine sv 6 (.string ⟨(Lib.itoa ((a.den:Int)):List UInt8).toArray⟩) ?_
 refine sq_nil ?_
 refine k2 _ _ ?_
 try clear k2 K2
 refine wp_seq_k (fun K4 k4=>?_)
 refine rg [0,1,2,3,4,5,6] ?_
 refine sv 15 (.string ⟨(ratL (b):List UInt8).toArray⟩) ?_
 refine se ?_
 refine ec 16 (r2_parts_q b hb.1 hb.2 (by omega) _) ?_
 rintro e5 w5 ⟨rfl,g5⟩
 refine ⟨_,rfl,?_⟩
 replace hB:=hB.trans g5
 simp only [p3,p4]
 refine sv 14 (.tuple #[(.string ⟨(Lib.itoa (b.num):List UInt8).toArray⟩),(.string ⟨(Lib.itoa ((b.den:Int)):List UInt8).toArray⟩)]) ?_
 refine sv 17 (.string ⟨(Lib.itoa (b.num):List UInt8).toArray⟩) ?_
 refine sv 18 (.string ⟨(Lib.itoa ((b.den:Int)):List UInt8).toArray⟩) ?_
 refine sv 7 (.string ⟨(Lib.itoa (b.num):List UInt8).toArray⟩) ?_
 refine sv 8 (.string ⟨(Lib.itoa ((b.den:Int)):List UInt8).toArray⟩) ?_
 refine sq_nil ?_
 refine k4 _ _ ?_
 try clear k4 K4
 refine wp_seq_k (fun K6 k6=>?_)
 refine rg [0,1,2,3,4,5,6,7] ?_
 refine sv 19 (.string ⟨(Lib.itoa (a.num):List UInt8).toArray⟩) ?_
 refine sv 20 (.string ⟨(Lib.itoa ((b.den:Int)):List UInt8).toArray⟩) ?_
 refine se ?_
 refine ec 21 (r1_mul (a.num) ((b.den:Int)) ha.1 hb.2 (by omega) _) ?_
 rintro e7 w7 ⟨rfl,g7⟩
 refine ⟨_,rfl,?_⟩
 replace hB:=hB.trans g7
 simp only [p3,p4]
 refine sv 22 (.string ⟨(Lib.itoa ((a.den:Int)):List UInt8).toArray⟩) ?_
 refine sv 23 (.string ⟨(Lib.itoa (b.num):List UInt8).toArray⟩) ?_
 refine se ?_
 refine ec 24 (r1_mul ((a.den:Int)) (b.num) ha.2 hb.1 (by omega) _) ?_
 rintro e8 w8 ⟨rfl,g8⟩
 refine ⟨_,rfl,?_⟩
 replace hB:=hB.trans g8
 simp only [p3,p4]
 refine se ?_
 refine ec 25 (r2_text_q (a.num*(b.den:Int)) ((a.den:Int)*b.num) _ rfl (ha.1.mul hb.2) ((ha.2.mul hb.1).mono (by omega)) (Int.mul_ne_zero (Int.ne_of_gt (den_pos_i a)) h0) (by omega) _) ?_
 rintro e9 w9 ⟨rfl,g9⟩
 refine ⟨_,rfl,?_⟩
 replace hB:=hB.trans g9
 simp only [p3,p4]
 refine sv 4 (.string ⟨(ratL (Rat.divInt (a.num*(b.den:Int)) ((a.den:Int)*b.num)):List UInt8).toArray⟩) ?_
 refine sq_nil ?_
 refine k6 _ _ ?_
 try clear k6 K6
 refine wp_ret ?_
 refine bodyPost_ret (v:=(.string ⟨(ratL (Rat.divInt (a.num*(b.den:Int)) ((a.den:Int)*b.num)):List UInt8).toArray⟩)) (ret_tmp rfl rfl) rfl ⟨?_,hB⟩
 exact (by rw [rat_div])

end Go.Proofs.YtaldbfflkpgfoaaGreatDoor
/- Printed by a program of the prover's:Primitive,AxisOf. -/
namespace Go.Proofs.YtaldbfflkpgfoaaGreatDoor
open Go.RowKit

end Go.Proofs.YtaldbfflkpgfoaaGreatDoor
/- Printed by a program of the prover's:the rest of package vector. -/
namespace Go.Proofs.YtaldbfflkpgfoaaGreatDoor
open Go.RowKit

set_option maxRecDepth 100000 in
set_option maxHeartbeats 1000000 in
theorem vpoint_v {k:Nat} {aa ae ai ah al ak af ap aj ac ab ad:Value} {a1 a2 a3:Rat} {w:World} (au:IsRat w k aa ae ai ah a1) (aq:IsRat w k al ak af ap a2) (ar:IsRat w k aj ac ab ad a3) (_hk:k≤25000) (ht:Tab w):
    Calls Tryz.prog 44 #[(.agg #[aa,ae,ai,ah,al,ak,af,ap,aj,ac,ab,ad])] w fun e w'=>e=.returned (.agg #[.string ⟨(ratL (a1)).toArray⟩,.string ⟨(ratL (a2)).toArray⟩,.string ⟨(ratL (a3)).toArray⟩])∧Gr w w':=by
 go_enter Tryz.func44,Tryz.ntmps44
 have hB:=Gr.refl w
 refine wp_seq_k (fun K1 k1=>?_)
 refine rg [0,1] ?_
 refine se ?_
 refine eb 38 #[aa,ae,ai,ah,al,ak,af,ap,aj,ac,ab,ad] 1 hB fun b2 w2 g2 L2 o2 q2 hB=>?_
 simp only [p3,p4]
 refine se ?_
 refine ea 25 #[(.string ⟨([]:List UInt8).toArray⟩),(.string ⟨([]:List UInt8).toArray⟩),(.string ⟨([]:List UInt8).toArray⟩)] 2 hB fun b3 w3 g3 L3 o3 q3 hB=>?_
 simp only [p3,p4]
 refine sq_nil ?_
 refine k1 _ _ ?_
 try clear k1 K1
 refine wp_seq_k (fun K4 k4=>?_)
 refine rg [0] ?_
 refine se ?_
 refine ea 25 #[(.string ⟨([]:List UInt8).toArray⟩),(.string ⟨([]:List UInt8).toArray⟩),(.string ⟨([]:List UInt8).toArray⟩)] 3 hB fun b5 w5 g5 L5 o5 q5 hB=>?_
 replace L2:=L2.gr g3
 have av:=L3.ne o5
 simp only [p3,p4]
 refine sq_nil ?_
 refine k4 _ _ ?_
 try clear k4 K4
 refine wp_seq_k (fun K6 k6=>?_)
 refine wp_seq_k (fun K7 k7=>?_)
 refine rg [0,1] ?_
 replace L2:=L2.gr g5
 refine sw 6 (.agg #[aa,ae,ai,ah,al,ak,af,ap,aj,ac,ab,ad]) rfl (rl 38 0 [aa,ae,ai,ah,al,ak,af,ap,aj,ac,ab,ad] L2) ?_
 refine sv 7 (.int .i64 0) ?_
 refine sq_nil ?_
 refine k7 _ _ ?_
 try clear k7 K7
 refine wp_block ?_
 refine wp_loop_rounds 4 ?_
 show Code.wp _ _ _ _ _
 refine wp_seq_k (fun K8 k8=>?_)
 refine rg [0] ?_
 refine sv 8 (.bool true) ?_
 refine sq_nil ?_
 refine k8 _ _ ?_
 try clear k8 K8
 refine wp_seq_k (fun K9 k9=>?_)
 refine wp_cond_true rfl ?_
 refine wp_skip ?_
 refine k9 _ _ ?_
 try clear k9 K9
 refine wp_seq_k (fun bv bd=>?_)
 refine wp_block ?_
 refine wp_seq_k (fun bj a5=>?_)
 refine rg [0,1,2,3,4] ?_
 refine sv 9 (.int .i64 0) ?_
 refine sv 10 (.agg #[aa,ae,ai,ah]) ?_
 refine se ?_
 refine ea 36 #[(.bool false),(.slice none 0 0),(.bool false),(.slice none 0 0)] 5 hB fun bE bS aE aP bc q12 hB=>?_
 replace L3:=L3.gr g5
 have aB:=L3.ne bc
 have ax:=L5.ne bc
 simp only [p3,p4]
 refine sv 4 (.int .i64 0) ?_
 refine se ?_
 refine es 36 0 (.agg #[aa,ae,ai,ah]) [aa,ae,ai,ah] #[aa,ae,ai,ah] aP hB q12 ⟨au.one0,au.one1,au.one2,au.one3,trivial⟩ fun bO aG aA aP hB=>?_
 refine sq_nil ?_
 refine a5 _ _ ?_
 try clear a5 bj
 refine rg [0,1,2,3,4] ?_
 refine sv 11 (.int .i64 0) ?_
 refine sw 12 (.agg #[aa,ae,ai,ah]) rfl (rl 36 0 [aa,ae,ai,ah] aP) ?_
 refine se ?_
 have aY:=g2.kp.trans (g3.kp.trans (g5.kp.trans (aE.kp.trans aA)))
 replace au:=au.kp aY
 refine ec 13 (number_r au (by omega) (ht.gr hB)) ?_
 rintro bM bP ⟨rfl,aF⟩
 refine ⟨_,rfl,?_⟩
 replace hB:=hB.trans aF
 simp only [p3,p4]
 refine sv 14 (.pointer (some ⟨b5,0,none⟩)) ?_
 refine se ?_
 replace L5:=(aG.lc (L5.gr aE) ax).gr aF
 refine es 23 0 (.string ⟨(ratL (a1):List UInt8).toArray⟩) [(.string ⟨(ratL (a1):List UInt8).toArray⟩)] #[(.string ⟨(ratL (a1):List UInt8).toArray⟩),(.string ⟨([]:List UInt8).toArray⟩),(.string ⟨([]:List UInt8).toArray⟩)] L5 hB q5 ⟨rfl,trivial⟩ fun bF aU aI L5 hB=>?_
 refine sq_nil ?_
 refine bd _ _ ?_
 try clear bd bv
 refine rg [0,1] ?_
 refine sv 15 (.int .i64 1) ?_
 refine sv 7 (.int .i64 1) ?_
 refine sq_nil ?_
 show Code.rounds _ _ _ _ _ _
 show Code.wp _ _ _ _ _
 refine wp_seq_k (fun bw a8=>?_)
 refine rg [0] ?_
 refine sv 8 (.bool true) ?_
 refine sq_nil ?_
 refine a8 _ _ ?_
 try clear a8 bw
 refine wp_seq_k (fun bp a7=>?_)
 refine wp_cond_true rfl ?_
 refine wp_skip ?_
 refine a7 _ _ ?_
 try clear a7 bp
 refine wp_seq_k (fun bm aZ=>?_)
 refine wp_block ?_
 refine wp_seq_k (fun bx a9=>?_)
 refine rg [0,1,2,3,4] ?_
 refine sv 9 (.int .i64 1) ?_
 refine sv 10 (.agg #[al,ak,af,ap]) ?_
 refine se ?_
 refine ea 36 #[(.bool false),(.slice none 0 0),(.bool false),(.slice none 0 0)] 5 hB fun bK bD aL aV bf bt hB=>?_
 replace L3:=aU.lc ((aG.lc (L3.gr aE) aB).gr aF) av
 have ay:=L3.ne bf
 have az:=L5.ne bf
 simp only [p3,p4]
 refine sv 4 (.int .i64 1) ?_
 refine se ?_
 refine es 36 0 (.agg #[al,ak,af,ap]) [al,ak,af,ap] #[al,ak,af,ap] aV hB bt ⟨aq.one0,aq.one1,aq.one2,aq.one3,trivial⟩ fun bL aH aD aV hB=>?_
 refine sq_nil ?_
 refine a9 _ _ ?_
 try clear a9 bx
 refine rg [0,1,2,3,4] ?_
 refine sv 11 (.int .i64 1) ?_
 refine sw 12 (.agg #[al,ak,af,ap]) rfl (rl 36 0 [al,ak,af,ap] aV) ?_
 refine se ?_
 have aT:=g2.kp.trans (g3.kp.trans (g5.kp.trans (aE.kp.trans (aA.trans (aF.kp.trans (aI.trans (aL.kp.trans aD)))))))
 replace aq:=aq.kp aT
 refine ec 13 (number_r aq (by omega) (ht.gr hB)) ?_
 rintro e23 bG ⟨rfl,aK⟩
 refine ⟨_,rfl,?_⟩
 replace hB:=hB.trans aK
 simp only [p3,p4]
 refine sv 14 (.pointer (some ⟨b5,1,none⟩)) ?_
 refine se ?_
 replace L5:=(aH.lc (L5.gr aL) az).gr aK
 refine es 23 1 (.string ⟨(ratL (a2):List UInt8).toArray⟩) [(.string ⟨(ratL (a2):List UInt8).toArray⟩)] #[(.string ⟨(ratL (a1):List UInt8).toArray⟩),(.string ⟨(ratL (a2):List UInt8).toArray⟩),(.string ⟨([]:List UInt8).toArray⟩)] L5 hB q5 ⟨rfl,trivial⟩ fun bT aN aW L5 hB=>?_
 refine sq_nil ?_
 refine aZ _ _ ?_
 try clear aZ bm
 refine rg [0,1] ?_
 refine sv 15 (.int .i64 2) ?_
 refine sv 7 (.int .i64 2) ?_
 refine sq_nil ?_
 show Code.rounds _ _ _ _ _ _
 show Code.wp _ _ _ _ _
 refine wp_seq_k (fun bz a4=>?_)
 refine rg [0] ?_
 refine sv 8 (.bool true) ?_
 refine sq_nil ?_
 refine a4 _ _ ?_
 try clear a4 bz
 refine wp_seq_k (fun bo bb=>?_)
 refine wp_cond_true rfl ?_
 refine wp_skip ?_
 refine bb _ _ ?_
 try clear bb bo
 refine wp_seq_k (fun bB a6=>?_)
 refine wp_block ?_
 refine wp_seq_k (fun bC bh=>?_)
 refine rg [0,1,2,3,4] ?_
 refine sv 9 (.int .i64 2) ?_
 refine sv 10 (.agg #[aj,ac,ab,ad]) ?_
 refine se ?_
 refine ea 36 #[(.bool false),(.slice none 0 0),(.bool false),(.slice none 0 0)] 5 hB fun bH bJ aQ aO a0 bi hB=>?_
 replace L3:=aN.lc ((aH.lc (L3.gr aL) ay).gr aK) av
 have aC:=L3.ne a0
 have aw:=L5.ne a0
 simp only [p3,p4]
 refine sv 4 (.int .i64 2) ?_
 refine se ?_
 refine es 36 0 (.agg #[aj,ac,ab,ad]) [aj,ac,ab,ad] #[aj,ac,ab,ad] aO hB bi ⟨ar.one0,ar.one1,ar.one2,ar.one3,trivial⟩ fun bV aJ aS aO hB=>?_
 refine sq_nil ?_
 refine bh _ _ ?_
 try clear bh bC
 refine rg [0,1,2,3,4] ?_
 refine sv 11 (.int .i64 2) ?_
 refine sw 12 (.agg #[aj,ac,ab,ad]) rfl (rl 36 0 [aj,ac,ab,ad] aO) ?_
 refine se ?_
 have aX:=g2.kp.trans (g3.kp.trans (g5.kp.trans (aE.kp.trans (aA.trans (aF.kp.trans (aI.trans (aL.kp.trans (aD.trans (aK.kp.trans (aW.trans (aQ.kp.trans aS)))))))))))
 replace ar:=ar.kp aX
 refine ec 13 (number_r ar (by omega) (ht.gr hB)) ?_
 rintro e32 bQ ⟨rfl,aR⟩
 refine ⟨_,rfl,?_⟩
 replace hB:=hB.trans aR
 simp only [p3,p4]
 refine sv 14 (.pointer (some ⟨b5,2,none⟩)) ?_
 refine se ?_
 replace L5:=(aJ.lc (L5.gr aQ) aw).gr aR
 refine es 23 2 (.string ⟨(ratL (a3):List UInt8).toArray⟩) [(.string ⟨(ratL (a3):List UInt8).toArray⟩)] #[(.string ⟨(ratL (a1):List UInt8).toArray⟩),(.string ⟨(ratL (a2):List UInt8).toArray⟩),(.string ⟨(ratL (a3):List UInt8).toArray⟩)] L5 hB q5 ⟨rfl,trivial⟩ fun bW aM bk L5 hB=>?_
 refine sq_nil ?_
 refine a6 _ _ ?_
 try clear a6 bB
 refine rg [0,1] ?_
 refine sv 15 (.int .i64 3) ?_
 refine sv 7 (.int .i64 3) ?_
 refine sq_nil ?_
 show Code.rounds _ _ _ _ _ _
 show Code.wp _ _ _ _ _
 refine wp_seq_k (fun bq bg=>?_)
 refine rg [0] ?_
 refine sv 8 (.bool false) ?_
 refine sq_nil ?_
 refine bg _ _ ?_
 try clear bg bq
 refine wp_seq_k (fun bU bN=>?_)
 refine wp_cond_false rfl ?_
 refine wp_exit ?_
 simp only [Exit.then,Exit.inBlock,↓reduceIte]
 refine k6 _ _ ?_
 try clear k6 K6
 refine wp_seq_k (fun bu ba=>?_)
 refine rg [0,1] ?_
 refine sw 16 (.agg #[(.string ⟨(ratL (a1):List UInt8).toArray⟩),(.string ⟨(ratL (a2):List UInt8).toArray⟩),(.string ⟨(ratL (a3):List UInt8).toArray⟩)]) rfl (rl 25 0 [(.string ⟨(ratL (a1):List UInt8).toArray⟩),(.string ⟨(ratL (a2):List UInt8).toArray⟩),(.string ⟨(ratL (a3):List UInt8).toArray⟩)] L5) ?_
 refine se ?_
 replace L3:=aM.lc ((aJ.lc (L3.gr aQ) aC).gr aR) av
 refine es 25 0 (.agg #[(.string ⟨(ratL (a1):List UInt8).toArray⟩),(.string ⟨(ratL (a2):List UInt8).toArray⟩),(.string ⟨(ratL (a3):List UInt8).toArray⟩)]) [(.string ⟨(ratL (a1):List UInt8).toArray⟩),(.string ⟨(ratL (a2):List UInt8).toArray⟩),(.string ⟨(ratL (a3):List UInt8).toArray⟩)] #[(.string ⟨(ratL (a1):List UInt8).toArray⟩),(.string ⟨(ratL (a2):List UInt8).toArray⟩),(.string ⟨(ratL (a3):List UInt8).toArray⟩)] L3 hB q3 ⟨rfl,rfl,rfl,trivial⟩ fun bR bA bn L3 hB=>?_
 refine sq_nil ?_
 refine ba _ _ ?_
 try clear ba bu
 refine wp_ret ?_
 refine bodyPost_ret (v:=(.agg #[(.string ⟨(ratL (a1):List UInt8).toArray⟩),(.string ⟨(ratL (a2):List UInt8).toArray⟩),(.string ⟨(ratL (a3):List UInt8).toArray⟩)])) (ret_cell _ _ _ rfl rfl L3 (by kernel_rfl)) rfl ⟨?_,hB⟩
 exact rfl

end Go.Proofs.YtaldbfflkpgfoaaGreatDoor
/- The reference of layer 1:the text of an int. -/
namespace Go.Proofs.YtaldbfflkpgfoaaGreatDoor
open Go.RowKit

set_option maxRecDepth 10000 in
set_option maxHeartbeats 4000000 in
theorem r1_from_p (n:Int) (h0:0≤n) (h1:n≤9223372036854775807) (w:World):
  Calls Tryz.prog 102 #[.int .i64 n] w fun e w'=>e=.returned (.string ⟨(Lib.itoa n).toArray⟩)∧Gr w w':=by
 obtain ⟨len,hnx⟩:=NX.exists n.toNat
 have hl:len≤64:=hnx.len_bits (k:=63) (by omega)
 rw [show ((n.toNat:Nat):Int)=n by omega] at hnx
 go_enter Tryz.func102,Tryz.ntmps102
 go_wp2
 go_loopw [3,4] (fun d m wr=>∃ (k:Nat) (v:Value) (M:Int),d=v∧m=.int .i64 M∧0≤M∧M≤9223372036854775807∧k≤len∧Hid (M=tn n k∧OwnS wr 3 w.heap.size v (dvals .i64 k (td n)))∧Below w.heap.size w wr) (fun _ m _=>(intOf m).toNat)
 case atStart=>exact ⟨0,_,n,rfl,rfl,h0,h1,Nat.zero_le _,⟨rfl,OwnS.nil _ _ _⟩,Below.refl _ _⟩
 case round=>
  obtain ⟨k,v,M,rfl,rfl,m0,m1,hk,hz,hB⟩:=hrel
  by_cases hp:0<M
  ·have hne:(M !=0)=true:=by simp;omega
   have hkl:k<len:=by
    rcases Nat.lt_or_ge k len with h | h
    ·exact h
    ·have:=tn_ge hnx.top h
     have:=hz.out.1
     omega
   have d0:0≤M % 10:=by omega
   go_wp2_with (at_builtin;refine wpList_app1 rfl (.tmp 17) (.tmp 19) _ (by rfl) 3 w.heap.size _ _ _ (by rfl) (hz.out.2.gr (Gr.alloc _ _)) _ _ _ (by rfl) (heap_alloc_new _ _) rfl w (hB.alloc hB.size _) (by rw [dvals_length];omega) 8 (by decide) Tryz.underlying175 int_info rfl (by have:=hB.size;simp;omega) ?_)
   intro v1 w1 hown aa _ _
   go_wp2
   go_roundw
   case rel=>
    refine ⟨k+1,_,M/10,rfl,rfl,by omega,by omega,hkl,⟨by rw [tn_succ,hz.out.1],?_⟩,aa⟩
    rw [dvals_succ,show td n k=M % 10 by unfold td;rw [hz.out.1]]
    exact hown
   case measure=>simp [intOf];omega
  ·have hM:M=0:=by omega
   subst hM
   obtain ⟨ao,cap,rfl,hcap,_,hrow⟩:=hz.out.2.drow
   have hx:tn ((n.toNat:Nat):Int) k=0:=by rw [show ((n.toNat:Nat):Int)=n by omega];exact hz.out.1.symm
   have hrow':DRow wr ao k (td ((n.toNat:Nat):Int)):=by rw [show ((n.toNat:Nat):Int)=n by omega];exact hrow
   have ab:¬ n<0:=by omega
   have htx:=r1_text false ao k cap n.toNat wr (by omega) hcap hx hrow'
   rw [text_abs (z:=n) (.inr ⟨rfl,by omega⟩)] at htx
   clear hx hrow hrow'
   go_wp2_with fail
   (with_reducible refine htx.mono ?_)
   rintro e w2 ⟨rfl,g2⟩
   clear htx
   go_wp2
   go_ret
   exact ⟨rfl,Below.trans hB (Below.mono g2 hB.size)⟩
set_option maxRecDepth 10000 in
set_option maxHeartbeats 4000000 in
theorem r1_from_n (n:Int) (h0:n<0) (h1:-9223372036854775808≤n) (w:World):
  Calls Tryz.prog 102 #[.int .i64 n] w fun e w'=>e=.returned (.string ⟨(Lib.itoa n).toArray⟩)∧Gr w w':=by
 obtain ⟨len,hnx⟩:=NX.exists n.natAbs
 have hl:len≤65:=hnx.len_bits (k:=64) (by omega)
 go_enter Tryz.func102,Tryz.ntmps102
 go_wp2
 go_loopw [3,4] (fun d m wr=>∃ (k:Nat) (v:Value) (M:Int),d=v∧m=.int .i64 M∧M≤0∧-9223372036854775808≤M∧k≤len∧Hid (-M=tn (n.natAbs:Int) k∧OwnS wr 3 w.heap.size v (dvals .i64 k (td (n.natAbs:Int))))∧Below w.heap.size w wr) (fun _ m _=>(-intOf m).toNat)
 case atStart=>exact ⟨0,_,n,rfl,rfl,by omega,h1,Nat.zero_le _,⟨by rw [tn_zero];omega,OwnS.nil _ _ _⟩,Below.refl _ _⟩
 case round=>
  obtain ⟨k,v,M,rfl,rfl,m0,m1,hk,hz,hB⟩:=hrel
  by_cases hp:M<0
  ·have hne:(M !=0)=true:=by simp;omega
   have hkl:k<len:=by
    rcases Nat.lt_or_ge k len with h | h
    ·exact h
    ·have:=tn_ge hnx.top h
     have:=hz.out.1
     omega
   obtain ⟨A,hA⟩:∃ A:Int,A=-M:=⟨_,rfl⟩
   have htm:M.tmod 10=-(A % 10):=by
    rw [hA,show M=-(-M) by omega,Int.neg_tmod,Int.tmod_eq_emod_of_nonneg (by omega),Int.neg_neg]
   have htd:M.tdiv 10=-(A/10):=by
    rw [hA,show M=-(-M) by omega,Int.neg_tdiv,Int.tdiv_eq_ediv_of_nonneg (by omega),Int.neg_neg]
   have d0:0≤A % 10:=by omega
   have d1:A % 10<10:=by omega
   have d2:0≤A/10:=by omega
   have d3:A/10≤9223372036854775807:=by omega
   have HA:=Lib.hid hA
   clear hA
   by_cases hx:A % 10=0
   ·have hxx:¬ -(A % 10)<0:=by omega
    go_wp2_with (at_builtin;refine wpList_app1 rfl (.tmp 17) (.tmp 19) _ (by rfl) 3 w.heap.size _ _ _ (by rfl) (hz.out.2.gr (Gr.alloc _ _)) _ _ _ (by rfl) (heap_alloc_new _ _) rfl w (hB.alloc hB.size _) (by rw [dvals_length];omega) 8 (by decide) Tryz.underlying175 int_info rfl (by have:=hB.size;simp;omega) ?_)
    intro v1 w1 hown aa _ _
    go_wp2
    go_roundw
    case rel=>
     refine ⟨k+1,_,-(A/10),rfl,rfl,by omega,by omega,hkl,⟨by rw [tn_succ,← hz.out.1,HA.out];omega,?_⟩,aa⟩
     rw [dvals_succ,show td (n.natAbs:Int) k=0 by unfold td;rw [← hz.out.1,← HA.out];exact hx]
     exact hown
    case measure=>simp [intOf];have:=HA.out;omega
   ·have hxx:-(A % 10)<0:=by omega
    go_wp2_with (at_builtin;refine wpList_app1 rfl (.tmp 17) (.tmp 19) _ (by rfl) 3 w.heap.size _ _ _ (by rfl) (hz.out.2.gr (Gr.alloc _ _)) _ _ _ (by rfl) (heap_alloc_new _ _) rfl w (hB.alloc hB.size _) (by rw [dvals_length];omega) 8 (by decide) Tryz.underlying175 int_info rfl (by have:=hB.size;simp;omega) ?_)
    intro v1 w1 hown aa _ _
    go_wp2
    go_roundw
    case rel=>
     refine ⟨k+1,_,-(A/10),rfl,rfl,by omega,by omega,hkl,⟨by rw [tn_succ,← hz.out.1,HA.out];omega,?_⟩,aa⟩
     rw [dvals_succ,show td (n.natAbs:Int) k=A % 10 by unfold td;rw [← hz.out.1,← HA.out]]
     exact hown
    case measure=>simp [intOf];have:=HA.out;omega
  ·have hM:M=0:=by omega
   subst hM
   obtain ⟨ao,cap,rfl,hcap,_,hrow⟩:=hz.out.2.drow
   have hx:tn (n.natAbs:Int) k=0:=by have:=hz.out.1;omega
   have htx:=r1_text true ao k cap n.natAbs wr (by omega) hcap hx hrow
   rw [text_abs (z:=n) (.inl ⟨rfl,by omega⟩)] at htx
   clear hx hrow
   go_wp2_with fail
   (with_reducible refine htx.mono ?_)
   rintro e w2 ⟨rfl,g2⟩
   clear htx
   go_wp2
   go_ret
   exact ⟨rfl,Below.trans hB (Below.mono g2 hB.size)⟩
theorem r1_from (n:Int) (h0:-9223372036854775808≤n) (h1:n≤9223372036854775807) (w:World):
  Calls Tryz.prog 102 #[.int .i64 n] w fun e w'=>e=.returned (.string ⟨(Lib.itoa n).toArray⟩)∧Gr w w':=by
 rcases Int.lt_or_le n 0 with h | h
 ·exact r1_from_n n h h0 w
 ·exact r1_from_p n h h1 w
end Go.Proofs.YtaldbfflkpgfoaaGreatDoor
/- Equal numbers;more floating variables. -/
namespace Go.Proofs.YtaldbfflkpgfoaaGreatDoor
open Go.RowKit

section
variable {P:Program} {ops:Array Oper} {Q:Exit→Act→World→Prop} {S0:World→Prop} {HS:List (List Nat × (World→Prop))}
end
end Go.Proofs.YtaldbfflkpgfoaaGreatDoor
/- Printed by a program of the prover's:what the laws of chapter 03 take. -/
namespace Go.Proofs.YtaldbfflkpgfoaaGreatDoor
open Go.RowKit

set_option maxRecDepth 100000 in
set_option maxHeartbeats 1000000 in
theorem r2_from (z:Int) (_h0:-9223372036854775808≤z) (_h1:z≤9223372036854775807) (w:World):
    Calls Tryz.prog 65 #[(.int .i64 (z))] w fun e w'=>e=.returned (.string ⟨(ratL (((z:Int):Rat))).toArray⟩)∧Gr w w':=by
 go_enter Tryz.func65,Tryz.ntmps65
 have hB:=Gr.refl w
 refine wp_seq_k (fun K1 k1=>?_)
 refine rg [0] ?_
 refine sv 2 (.string ⟨([]:List UInt8).toArray⟩) ?_
 refine sq_nil ?_
 refine k1 _ _ ?_
 try clear k1 K1
 refine wp_seq_k (fun K2 k2=>?_)
 refine rg [0,1,2] ?_
 refine sv 3 (.int .i64 (z)) ?_
 refine se ?_
 refine ec 4 (r1_from (z) (by omega) (by omega) _) ?_
 rintro e3 w3 ⟨rfl,g3⟩
 refine ⟨_,rfl,?_⟩
 replace hB:=hB.trans g3
 simp only [p3,p4]
 refine sv 2 (.string ⟨(Lib.itoa ((z)):List UInt8).toArray⟩) ?_
 refine sq_nil ?_
 refine k2 _ _ ?_
 try clear k2 K2
 refine wp_ret ?_
 refine bodyPost_ret (v:=(.string ⟨(Lib.itoa ((z)):List UInt8).toArray⟩)) (ret_tmp rfl rfl) rfl ⟨?_,hB⟩
 exact (by rw [ratL_iz])

set_option maxRecDepth 100000 in
set_option maxHeartbeats 4000000 in
theorem vparse0 {k:Nat} (a1:Rat) (a2:Rat) (a3:Rat) (bJ:RS k a1) (bY:RS k a2) (bL:RS k a3) (_hk:k≤20000) (_h64:64≤k) (l1:((ratL a1).length:Int)≤400) (l2:((ratL a2).length:Int)≤400) (l3:((ratL a3).length:Int)≤400) (w:World) (hm:Mx w):
    Calls Tryz.prog 93 #[(.agg #[(.string ⟨(ratL (a1):List UInt8).toArray⟩),(.string ⟨(ratL (a2):List UInt8).toArray⟩),(.string ⟨(ratL (a3):List UInt8).toArray⟩)]),(.func (.func 94) #[] #[])] w fun e w'=>(∃ t0 t1 t2 t3 t4 t5 t6 t7 t8 t9 a5 bo,e=.returned (.tuple #[.agg #[t0,t1,t2,t3,t4,t5,t6,t7,t8,t9,a5,bo],.int .i64 0])∧IsRat w' k t0 t1 t2 t3 (a1)∧IsRat w' k t4 t5 t6 t7 (a2)∧IsRat w' k t8 t9 a5 bo (a3))∧Gr w w':=by
 go_enter Tryz.func93,Tryz.ntmps93
 have hB:=Gr.refl w
 refine wp_seq_k (fun K1 k1=>?_)
 refine rg [0,1,2] ?_
 refine se ?_
 refine eb 25 #[(.string ⟨(ratL (a1):List UInt8).toArray⟩),(.string ⟨(ratL (a2):List UInt8).toArray⟩),(.string ⟨(ratL (a3):List UInt8).toArray⟩)] 2 hB fun b2 w2 g2 L2 o2 q2 hB=>?_
 simp only [p3,p4]
 refine se ?_
 refine ea 38 #[(.bool false),(.slice none 0 0),(.bool false),(.slice none 0 0),(.bool false),(.slice none 0 0),(.bool false),(.slice none 0 0),(.bool false),(.slice none 0 0),(.bool false),(.slice none 0 0)] 4 hB fun b3 w3 g3 L3 o3 q3 hB=>?_
 simp only [p3,p4]
 refine sv 5 (.int .i64 0) ?_
 refine sq_nil ?_
 refine k1 _ _ ?_
 try clear k1 K1
 refine wp_seq_k (fun K4 k4=>?_)
 refine rg [0] ?_
 refine se ?_
 refine ea 38 #[(.bool false),(.slice none 0 0),(.bool false),(.slice none 0 0),(.bool false),(.slice none 0 0),(.bool false),(.slice none 0 0),(.bool false),(.slice none 0 0),(.bool false),(.slice none 0 0)] 6 hB fun b5 w5 g5 L5 o5 q5 hB=>?_
 replace L2:=L2.gr g3
 have av:=L3.ne o5
 simp only [p3,p4]
 refine sq_nil ?_
 refine k4 _ _ ?_
 try clear k4 K4
 refine wp_seq_k (fun K6 k6=>?_)
 refine wp_seq_k (fun K7 k7=>?_)
 refine rg [0,1] ?_
 replace L2:=L2.gr g5
 refine sw 11 (.agg #[(.string ⟨(ratL (a1):List UInt8).toArray⟩),(.string ⟨(ratL (a2):List UInt8).toArray⟩),(.string ⟨(ratL (a3):List UInt8).toArray⟩)]) rfl (rl 25 0 [(.string ⟨(ratL (a1):List UInt8).toArray⟩),(.string ⟨(ratL (a2):List UInt8).toArray⟩),(.string ⟨(ratL (a3):List UInt8).toArray⟩)] L2) ?_
 refine sv 12 (.int .i64 0) ?_
 refine sq_nil ?_
 refine k7 _ _ ?_
 try clear k7 K7
 refine wp_block ?_
 refine wp_loop_rounds 4 ?_
 show Code.wp _ _ _ _ _
 refine wp_seq_k (fun K8 k8=>?_)
 refine rg [0] ?_
 refine sv 13 (.bool true) ?_
 refine sq_nil ?_
 refine k8 _ _ ?_
 try clear k8 K8
 refine wp_seq_k (fun K9 k9=>?_)
 refine wp_cond_true rfl ?_
 refine wp_skip ?_
 refine k9 _ _ ?_
 try clear k9 K9
 refine wp_seq_k (fun bX a9=>?_)
 refine wp_block ?_
 refine wp_seq_k (fun bA a6=>?_)
 refine rg [0,1,2,3] ?_
 refine sv 14 (.int .i64 0) ?_
 refine sv 15 (.string ⟨(ratL (a1):List UInt8).toArray⟩) ?_
 refine sv 7 (.int .i64 0) ?_
 refine sv 8 (.string ⟨(ratL (a1):List UInt8).toArray⟩) ?_
 refine sq_nil ?_
 refine a6 _ _ ?_
 try clear a6 bA
 refine wp_seq_k (fun bR bc=>?_)
 refine rg [0,1,2,3,4,5,6,7,8] ?_
 refine sv 17 (.func (.func 94) #[] #[]) ?_
 refine sv 18 (.string ⟨(ratL (a1):List UInt8).toArray⟩) ?_
 refine se ?_
 refine ec 19 (parse_q (a1) bJ (by omega) (by omega) l1 _ (hm.gr hB)) ?_
 rintro e13 co ⟨⟨aa,ad,ab,ac,rfl,aq⟩,aR⟩
 refine ⟨_,rfl,?_⟩
 replace hB:=hB.trans aR
 simp only [p3,p4]
 refine sv 16 (.tuple #[(.agg #[aa,ad,ab,ac]),(.int .i64 0)]) ?_
 refine sv 20 (.agg #[aa,ad,ab,ac]) ?_
 refine sv 21 (.int .i64 0) ?_
 refine se ?_
 refine ea 36 #[(.bool false),(.slice none 0 0),(.bool false),(.slice none 0 0)] 9 hB fun cu cq aW aT bx bV hB=>?_
 replace L3:=L3.gr (g5.trans aR)
 have ay:=L3.ne bx
 replace L5:=L5.gr aR
 have ax:=L5.ne bx
 simp only [p3,p4]
 refine se ?_
 refine es 36 0 (.agg #[aa,ad,ab,ac]) [aa,ad,ab,ac] #[aa,ad,ab,ac] aT hB bV ⟨aq.one0,aq.one1,aq.one2,aq.one3,trivial⟩ fun ck aG aZ aT hB=>?_
 refine sv 10 (.int .i64 0) ?_
 refine sq_nil ?_
 refine bc _ _ ?_
 try clear bc bR
 refine wp_seq_k (fun bS bb=>?_)
 refine wp_seq_k (fun bZ a7=>?_)
 refine rg [0,1] ?_
 refine sv 22 (.int .i64 0) ?_
 refine sv 23 (.bool false) ?_
 refine sq_nil ?_
 refine a7 _ _ ?_
 try clear a7 bZ
 refine wp_cond_false rfl ?_
 refine wp_skip ?_
 refine bb _ _ ?_
 try clear bb bS
 refine rg [0,1,2,3] ?_
 refine sv 26 (.int .i64 0) ?_
 refine sw 27 (.agg #[aa,ad,ab,ac]) rfl (rl 36 0 [aa,ad,ab,ac] aT) ?_
 refine sv 28 (.pointer (some ⟨b5,0,none⟩)) ?_
 refine se ?_
 replace L5:=aG.lc (L5.gr aW) ax
 refine es 36 0 (.agg #[aa,ad,ab,ac]) [aa,ad,ab,ac] #[aa,ad,ab,ac,(.bool false),(.slice none 0 0),(.bool false),(.slice none 0 0),(.bool false),(.slice none 0 0),(.bool false),(.slice none 0 0)] L5 hB q5 ⟨aq.one0,aq.one1,aq.one2,aq.one3,trivial⟩ fun cg aQ aY L5 hB=>?_
 refine sq_nil ?_
 refine a9 _ _ ?_
 try clear a9 bX
 refine rg [0,1] ?_
 refine sv 29 (.int .i64 1) ?_
 refine sv 12 (.int .i64 1) ?_
 refine sq_nil ?_
 show Code.rounds _ _ _ _ _ _
 show Code.wp _ _ _ _ _
 refine wp_seq_k (fun bE a4=>?_)
 refine rg [0] ?_
 refine sv 13 (.bool true) ?_
 refine sq_nil ?_
 refine a4 _ _ ?_
 try clear a4 bE
 refine wp_seq_k (fun b4 bq=>?_)
 refine wp_cond_true rfl ?_
 refine wp_skip ?_
 refine bq _ _ ?_
 try clear bq b4
 refine wp_seq_k (fun bM a8=>?_)
 refine wp_block ?_
 refine wp_seq_k (fun bB bj=>?_)
 refine rg [0,1,2,3] ?_
 refine sv 14 (.int .i64 1) ?_
 refine sv 15 (.string ⟨(ratL (a2):List UInt8).toArray⟩) ?_
 refine sv 7 (.int .i64 1) ?_
 refine sv 8 (.string ⟨(ratL (a2):List UInt8).toArray⟩) ?_
 refine sq_nil ?_
 refine bj _ _ ?_
 try clear bj bB
 refine wp_seq_k (fun bz bi=>?_)
 refine rg [0,1,2,3,4,5,6,7,8] ?_
 refine sv 17 (.func (.func 94) #[] #[]) ?_
 refine sv 18 (.string ⟨(ratL (a2):List UInt8).toArray⟩) ?_
 refine se ?_
 refine ec 19 (parse_q (a2) bY (by omega) (by omega) l2 _ (hm.gr hB)) ?_
 rintro cm ct ⟨⟨ai,ah,ae,af,rfl,au⟩,aN⟩
 refine ⟨_,rfl,?_⟩
 replace hB:=hB.trans aN
 simp only [p3,p4]
 refine sv 16 (.tuple #[(.agg #[ai,ah,ae,af]),(.int .i64 0)]) ?_
 refine sv 20 (.agg #[ai,ah,ae,af]) ?_
 refine sv 21 (.int .i64 0) ?_
 refine se ?_
 refine ea 36 #[(.bool false),(.slice none 0 0),(.bool false),(.slice none 0 0)] 9 hB fun cj cc aM aV bw bD hB=>?_
 replace L3:=(aQ.lc (aG.lc (L3.gr aW) ay) av).gr aN
 have az:=L3.ne bw
 replace L5:=L5.gr aN
 have aC:=L5.ne bw
 simp only [p3,p4]
 refine se ?_
 refine es 36 0 (.agg #[ai,ah,ae,af]) [ai,ah,ae,af] #[ai,ah,ae,af] aV hB bD ⟨au.one0,au.one1,au.one2,au.one3,trivial⟩ fun cl aL aK aV hB=>?_
 refine sv 10 (.int .i64 0) ?_
 refine sq_nil ?_
 refine bi _ _ ?_
 try clear bi bz
 refine wp_seq_k (fun bU bt=>?_)
 refine wp_seq_k (fun bQ bp=>?_)
 refine rg [0,1] ?_
 refine sv 22 (.int .i64 0) ?_
 refine sv 23 (.bool false) ?_
 refine sq_nil ?_
 refine bp _ _ ?_
 try clear bp bQ
 refine wp_cond_false rfl ?_
 refine wp_skip ?_
 refine bt _ _ ?_
 try clear bt bU
 refine rg [0,1,2,3] ?_
 refine sv 26 (.int .i64 1) ?_
 refine sw 27 (.agg #[ai,ah,ae,af]) rfl (rl 36 0 [ai,ah,ae,af] aV) ?_
 refine sv 28 (.pointer (some ⟨b5,4,none⟩)) ?_
 refine se ?_
 replace L5:=aL.lc (L5.gr aM) aC
 refine es 36 4 (.agg #[ai,ah,ae,af]) [ai,ah,ae,af] #[aa,ad,ab,ac,ai,ah,ae,af,(.bool false),(.slice none 0 0),(.bool false),(.slice none 0 0)] L5 hB q5 ⟨au.one0,au.one1,au.one2,au.one3,trivial⟩ fun b7 aS aF L5 hB=>?_
 refine sq_nil ?_
 refine a8 _ _ ?_
 try clear a8 bM
 refine rg [0,1] ?_
 refine sv 29 (.int .i64 2) ?_
 refine sv 12 (.int .i64 2) ?_
 refine sq_nil ?_
 show Code.rounds _ _ _ _ _ _
 show Code.wp _ _ _ _ _
 refine wp_seq_k (fun bK ba=>?_)
 refine rg [0] ?_
 refine sv 13 (.bool true) ?_
 refine sq_nil ?_
 refine ba _ _ ?_
 try clear ba bK
 refine wp_seq_k (fun bF bg=>?_)
 refine wp_cond_true rfl ?_
 refine wp_skip ?_
 refine bg _ _ ?_
 try clear bg bF
 refine wp_seq_k (fun b6 bu=>?_)
 refine wp_block ?_
 refine wp_seq_k (fun bC bh=>?_)
 refine rg [0,1,2,3] ?_
 refine sv 14 (.int .i64 2) ?_
 refine sv 15 (.string ⟨(ratL (a3):List UInt8).toArray⟩) ?_
 refine sv 7 (.int .i64 2) ?_
 refine sv 8 (.string ⟨(ratL (a3):List UInt8).toArray⟩) ?_
 refine sq_nil ?_
 refine bh _ _ ?_
 try clear bh bC
 refine wp_seq_k (fun bN bk=>?_)
 refine rg [0,1,2,3,4,5,6,7,8] ?_
 refine sv 17 (.func (.func 94) #[] #[]) ?_
 refine sv 18 (.string ⟨(ratL (a3):List UInt8).toArray⟩) ?_
 refine se ?_
 refine ec 19 (parse_q (a3) bL (by omega) (by omega) l3 _ (hm.gr hB)) ?_
 rintro cy cx ⟨⟨al,aj,ak,ap,rfl,ar⟩,aI⟩
 refine ⟨_,rfl,?_⟩
 replace hB:=hB.trans aI
 simp only [p3,p4]
 refine sv 16 (.tuple #[(.agg #[al,aj,ak,ap]),(.int .i64 0)]) ?_
 refine sv 20 (.agg #[al,aj,ak,ap]) ?_
 refine sv 21 (.int .i64 0) ?_
 refine se ?_
 refine ea 36 #[(.bool false),(.slice none 0 0),(.bool false),(.slice none 0 0)] 9 hB fun cd b9 aH aP bm bO hB=>?_
 replace L3:=(aS.lc (aL.lc (L3.gr aM) az) av).gr aI
 have aB:=L3.ne bm
 replace L5:=L5.gr aI
 have aD:=L5.ne bm
 simp only [p3,p4]
 refine se ?_
 refine es 36 0 (.agg #[al,aj,ak,ap]) [al,aj,ak,ap] #[al,aj,ak,ap] aP hB bO ⟨ar.one0,ar.one1,ar.one2,ar.one3,trivial⟩ fun b8 aJ aE aP hB=>?_
 refine sv 10 (.int .i64 0) ?_
 refine sq_nil ?_
 refine bk _ _ ?_
 try clear bk bN
 refine wp_seq_k (fun bP bv=>?_)
 refine wp_seq_k (fun bH bd=>?_)
 refine rg [0,1] ?_
 refine sv 22 (.int .i64 0) ?_
 refine sv 23 (.bool false) ?_
 refine sq_nil ?_
 refine bd _ _ ?_
 try clear bd bH
 refine wp_cond_false rfl ?_
 refine wp_skip ?_
 refine bv _ _ ?_
 try clear bv bP
 refine rg [0,1,2,3] ?_
 refine sv 26 (.int .i64 2) ?_
 refine sw 27 (.agg #[al,aj,ak,ap]) rfl (rl 36 0 [al,aj,ak,ap] aP) ?_
 refine sv 28 (.pointer (some ⟨b5,8,none⟩)) ?_
 refine se ?_
 replace L5:=aJ.lc (L5.gr aH) aD
 refine es 36 8 (.agg #[al,aj,ak,ap]) [al,aj,ak,ap] #[aa,ad,ab,ac,ai,ah,ae,af,al,aj,ak,ap] L5 hB q5 ⟨ar.one0,ar.one1,ar.one2,ar.one3,trivial⟩ fun ce aX aA L5 hB=>?_
 refine sq_nil ?_
 refine bu _ _ ?_
 try clear bu b6
 refine rg [0,1] ?_
 refine sv 29 (.int .i64 3) ?_
 refine sv 12 (.int .i64 3) ?_
 refine sq_nil ?_
 show Code.rounds _ _ _ _ _ _
 show Code.wp _ _ _ _ _
 refine wp_seq_k (fun bT bf=>?_)
 refine rg [0] ?_
 refine sv 13 (.bool false) ?_
 refine sq_nil ?_
 refine bf _ _ ?_
 try clear bf bT
 refine wp_seq_k (fun ch cn=>?_)
 refine wp_cond_false rfl ?_
 refine wp_exit ?_
 simp only [Exit.then,Exit.inBlock,↓reduceIte]
 refine k6 _ _ ?_
 try clear k6 K6
 refine wp_seq_k (fun bG bn=>?_)
 refine rg [0,1,2] ?_
 refine sw 30 (.agg #[aa,ad,ab,ac,ai,ah,ae,af,al,aj,ak,ap]) rfl (rl 38 0 [aa,ad,ab,ac,ai,ah,ae,af,al,aj,ak,ap] L5) ?_
 refine se ?_
 replace L3:=aX.lc (aJ.lc (L3.gr aH) aB) av
 refine es 38 0 (.agg #[aa,ad,ab,ac,ai,ah,ae,af,al,aj,ak,ap]) [aa,ad,ab,ac,ai,ah,ae,af,al,aj,ak,ap] #[aa,ad,ab,ac,ai,ah,ae,af,al,aj,ak,ap] L3 hB q3 ⟨aq.one0,aq.one1,aq.one2,aq.one3,au.one0,au.one1,au.one2,au.one3,ar.one0,ar.one1,ar.one2,ar.one3,trivial⟩ fun ca bW aw L3 hB=>?_
 refine sv 5 (.int .i64 0) ?_
 refine sq_nil ?_
 refine bn _ _ ?_
 try clear bn bG
 refine wp_ret ?_
 refine bodyPost_ret (v:=(.tuple #[(.agg #[aa,ad,ab,ac,ai,ah,ae,af,al,aj,ak,ap]),(.int .i64 0)])) (ret_cell_tmp' _ _ _ rfl rfl L3 (by kernel_rfl) rfl) rfl ⟨?_,hB⟩
 have aO:=aW.kp.trans (aZ.trans (aY.trans (aN.kp.trans (aM.kp.trans (aK.trans (aF.trans (aI.kp.trans (aH.kp.trans (aE.trans (aA.trans aw))))))))))
 replace aq:=aq.kp aO
 have aU:=aM.kp.trans (aK.trans (aF.trans (aI.kp.trans (aH.kp.trans (aE.trans (aA.trans aw))))))
 replace au:=au.kp aU
 have a0:=aH.kp.trans (aE.trans (aA.trans aw))
 replace ar:=ar.kp a0
 exact ⟨_,_,_,_,_,_,_,_,_,_,_,_,rfl,aq,au,ar⟩

set_option maxRecDepth 100000 in
set_option maxHeartbeats 1000000 in
theorem vparse_v {k:Nat} (a1:Rat) (a2:Rat) (a3:Rat) (aA:RS k a1) (az:RS k a2) (ay:RS k a3) (_hk:k≤20000) (_h64:64≤k) (l1:((ratL a1).length:Int)≤400) (l2:((ratL a2).length:Int)≤400) (l3:((ratL a3).length:Int)≤400) (w:World) (hm:Mx w):
    Calls Tryz.prog 57 #[(.agg #[(.string ⟨(ratL (a1):List UInt8).toArray⟩),(.string ⟨(ratL (a2):List UInt8).toArray⟩),(.string ⟨(ratL (a3):List UInt8).toArray⟩)])] w fun e w'=>(∃ t0 t1 t2 t3 t4 t5 t6 t7 t8 t9 aw ax,e=.returned (.tuple #[.agg #[t0,t1,t2,t3,t4,t5,t6,t7,t8,t9,aw,ax],.int .i64 0])∧IsRat w' k t0 t1 t2 t3 (a1)∧IsRat w' k t4 t5 t6 t7 (a2)∧IsRat w' k t8 t9 aw ax (a3))∧Gr w w':=by
 go_enter Tryz.func57,Tryz.ntmps57
 have hB:=Gr.refl w
 refine wp_seq_k (fun K1 k1=>?_)
 refine rg [0,1,2] ?_
 refine se ?_
 refine eb 25 #[(.string ⟨(ratL (a1):List UInt8).toArray⟩),(.string ⟨(ratL (a2):List UInt8).toArray⟩),(.string ⟨(ratL (a3):List UInt8).toArray⟩)] 1 hB fun b2 w2 g2 L2 o2 q2 hB=>?_
 simp only [p3,p4]
 refine se ?_
 refine ea 38 #[(.bool false),(.slice none 0 0),(.bool false),(.slice none 0 0),(.bool false),(.slice none 0 0),(.bool false),(.slice none 0 0),(.bool false),(.slice none 0 0),(.bool false),(.slice none 0 0)] 2 hB fun b3 w3 g3 L3 o3 q3 hB=>?_
 simp only [p3,p4]
 refine sv 3 (.int .i64 0) ?_
 refine sq_nil ?_
 refine k1 _ _ ?_
 try clear k1 K1
 refine wp_seq_k (fun K4 k4=>?_)
 refine rg [0,1,2,3,4,5] ?_
 replace L2:=L2.gr g3
 refine sw 4 (.agg #[(.string ⟨(ratL (a1):List UInt8).toArray⟩),(.string ⟨(ratL (a2):List UInt8).toArray⟩),(.string ⟨(ratL (a3):List UInt8).toArray⟩)]) rfl (rl 25 0 [(.string ⟨(ratL (a1):List UInt8).toArray⟩),(.string ⟨(ratL (a2):List UInt8).toArray⟩),(.string ⟨(ratL (a3):List UInt8).toArray⟩)] L2) ?_
 refine se ?_
 refine ec 5 (vparse0 (a1) (a2) (a3) aA az ay (by omega) (by omega) l1 l2 l3 _ (hm.gr hB)) ?_
 rintro e5 w5 ⟨⟨ak,ae,ah,ap,ad,af,ai,aj,al,ac,aa,ab,rfl,au,aq,ar⟩,g5⟩
 refine ⟨_,rfl,?_⟩
 replace hB:=hB.trans g5
 simp only [p3,p4]
 refine sv 6 (.agg #[ak,ae,ah,ap,ad,af,ai,aj,al,ac,aa,ab]) ?_
 refine sv 7 (.int .i64 0) ?_
 refine se ?_
 replace L3:=L3.gr g5
 refine es 38 0 (.agg #[ak,ae,ah,ap,ad,af,ai,aj,al,ac,aa,ab]) [ak,ae,ah,ap,ad,af,ai,aj,al,ac,aa,ab] #[ak,ae,ah,ap,ad,af,ai,aj,al,ac,aa,ab] L3 hB q3 ⟨au.one0,au.one1,au.one2,au.one3,aq.one0,aq.one1,aq.one2,aq.one3,ar.one0,ar.one1,ar.one2,ar.one3,trivial⟩ fun w6 aB av L3 hB=>?_
 refine sv 3 (.int .i64 0) ?_
 refine sq_nil ?_
 refine k4 _ _ ?_
 try clear k4 K4
 refine wp_ret ?_
 refine bodyPost_ret (v:=(.tuple #[(.agg #[ak,ae,ah,ap,ad,af,ai,aj,al,ac,aa,ab]),(.int .i64 0)])) (ret_cell_tmp' _ _ _ rfl rfl L3 (by kernel_rfl) rfl) rfl ⟨?_,hB⟩
 replace au:=au.kp av
 replace aq:=aq.kp av
 replace ar:=ar.kp av
 exact ⟨_,_,_,_,_,_,_,_,_,_,_,_,rfl,au,aq,ar⟩

theorem sEq_lit {a1 a2 a3:Rat} {X Y Z:List UInt8} (h1:(ratL a1==X)=true) (h2:(ratL a2==Y)=true) (h3:(ratL a3==Z)=true):sEq [ratL a1,ratL a2,ratL a3] [X,Y,Z]=true:=by
 simp only [sEq,h1,h2,h3];rfl
end Go.Proofs.YtaldbfflkpgfoaaGreatDoor
/- A run on symbols:contracts of rationals,integers and texts. -/
namespace Go.Proofs.YtaldbfflkpgfoaaGreatDoor
open Go.RowKit

def nilC:Cl→Bool
 | .cv (.slice none 0 0)=>true
 | _=>false
def falC:Cl→Bool
 | .cb _ (some false)=>true
 | _=>false
def asRat:SV→Option (Nat × Rat)
 | .so (.vg [.cr j 0 k q,.cr j1 1 _ _,.cr j2 2 _ _,.cr j3 3 _ _])=>if Nat.beq j1 j&&Nat.beq j2 j&&Nat.beq j3 j then some (k,q) else none
 | .so (.vg [a,b,c,d])=>if falC a&&nilC b&&falC c&&nilC d then some (64,0) else none
 | _=>none
section
variable {n:Nn} {X:Env} {w w':World}
theorem falC_den {c:Cl} (h:falC c=true) (hc:c.ok n X w):c.den X=.bool false:=by
 unfold falC at h
 split at h
 ·exact congrArg Value.bool (hc.2 false rfl)
 ·cases h
theorem nilC_den {c:Cl} (h:nilC c=true):c.den X=.slice none 0 0:=by
 unfold nilC at h
 split at h
 ·rfl
 ·cases h
theorem asRat_ok {v:SV} {k:Nat} {q:Rat} (h:asRat v=some (k,q)) (hv:v.ok n X w):∃ a b c d,v.den X=.agg #[a,b,c,d]∧IsRat w k a b c d q:=by
 unfold asRat at h
 split at h
 ·rename_i j k' q' j1 _ _ j2 _ _ j3 _ _
  split at h
  ·rename_i hj
   simp only [Bool.and_eq_true,Nat.beq_eq] at hj
   obtain ⟨⟨rfl,rfl⟩,rfl⟩:=hj
   cases h
   have:=(hv (.cr j3 0 k q) (by simp)).2
   exact ⟨_,_,_,_,rfl,this⟩
  ·cases h
 ·rename_i a b c d _
  split at h
  ·rename_i hh
   simp only [Bool.and_eq_true] at hh
   obtain ⟨⟨⟨h1,h2⟩,h3⟩,h4⟩:=hh
   cases h
   refine ⟨.bool false,.slice none 0 0,.bool false,.slice none 0 0,?_,IsRat.zero w (Nat.le_refl _)⟩
   simp only [SV.den,TV.den,dnL,List.map_cons,List.map_nil,falC_den h1 (hv a (by simp)),nilC_den h2,falC_den h3 (hv c (by simp)),nilC_den h4]
  ·cases h
 ·cases h
def newRat (j k:Nat) (q:Rat):SV:=.so (.vg [.cr j 0 k q,.cr j 1 k q,.cr j 2 k q,.cr j 3 k q])
def Env.pushR (X:Env) (n:Nat) (c0 c1 c2 c3:Value):Env:={X with R:=fun i c=>if i=n then (if c=0 then c0 else if c=1 then c1 else if c=2 then c2 else c3) else X.R i c}
theorem Env.pushR_agree (X:Env) (n:Nn) (c0 c1 c2 c3:Value):Agr n X (X.pushR n.r c0 c1 c2 c3):=⟨fun _ _=>rfl,fun i c hi=>by simp only [Env.pushR];rw [if_neg (by omega)],fun _ _ _=>rfl,rfl⟩
theorem newRat_holds {e:Ending} {k:Nat} {q:Rat} (h:(∃ c0 c1 c2 c3,e=.returned (.agg #[c0,c1,c2,c3])∧IsRat w' k c0 c1 c2 c3 q)∧Gr w w'):(Tr.leaf (newRat n.r k q) 1 0).holds n X w e w':=by
 obtain ⟨⟨c0,c1,c2,c3,rfl,h1⟩,g⟩:=h
 refine ⟨X.pushR n.r c0 c1 c2 c3,?_,g,Env.pushR_agree _ _ _ _ _ _,fun c hc=>?_⟩
 ·simp [newRat,SV.den,TV.den,dnL,Cl.den,Env.pushR]
 ·have hg:IsRat w' k ((X.pushR n.r c0 c1 c2 c3).R n.r 0) ((X.pushR n.r c0 c1 c2 c3).R n.r 1) ((X.pushR n.r c0 c1 c2 c3).R n.r 2) ((X.pushR n.r c0 c1 c2 c3).R n.r 3) q:=by
   simpa [Env.pushR] using h1
  have hlt:Nat.blt n.r (n.r+1)=true:=blt_to (by omega)
  simp only [List.mem_cons,List.not_mem_nil,or_false] at hc
  rcases hc with rfl | rfl | rfl | rfl<;>refine ⟨?_,hg⟩<;>simp only [Cl.lt,hlt]<;>rfl
theorem val_holds {e:Ending} {v:SV} (h:e=.returned (v.den X)∧Gr w w') (hv:v.ok n X w'):(Tr.leaf v 0 0).holds n X w e w':=⟨X,h.1,h.2,.refl _ _,hv⟩
end
def conRR (lim:Nat) (g:Nat→Nat→Nat) (op:Rat→Rat→Rat):ConT:=fun args nr _=>match args with
 | [x,y]=>match asRat x,asRat y with
  | some (k,a),some (m,b)=>if Nat.ble (k+m) lim then some (.leaf (newRat nr (g k m) (op a b)) 1 0) else none
  | _,_=>none
 | _=>none
theorem conRR_ok {P:Program} {I:World→Prop} {f lim:Nat} {g:Nat→Nat→Nat} {op:Rat→Rat→Rat} (h:∀ {k m:Nat} {u0 u1 u2 u3 v0 v1 v2 v3:Value} {a b:Rat} {w:World},IsRat w k u0 u1 u2 u3 a→IsRat w m v0 v1 v2 v3 b→k+m≤lim→
  Calls P f #[.agg #[u0,u1,u2,u3],.agg #[v0,v1,v2,v3]] w fun e w'=>(∃ c0 c1 c2 c3,e=.returned (.agg #[c0,c1,c2,c3])∧IsRat w' (g k m) c0 c1 c2 c3 (op a b))∧Gr w w'):ConOK P I f (conRR lim g op):=by
 intro args X n w T _ ha hT _
 unfold conRR at hT
 split at hT
 ·rename_i x y
  split at hT
  ·rename_i k a m b h1 h2
   split at hT
   ·rename_i hle
    simp only [Nat.ble_eq] at hle
    cases hT
    obtain ⟨u0,u1,u2,u3,e1,f1⟩:=asRat_ok h1 (ha x (by simp))
    obtain ⟨v0,v1,v2,v3,e2,f2⟩:=asRat_ok h2 (ha y (by simp))
    simp only [List.map_cons,List.map_nil,e1,e2]
    exact (h f1 f2 hle).mono fun e w' he=>newRat_holds he
   ·cases hT
  ·cases hT
 ·cases hT

def asInt:SV→Option (Nat × Int)
 | .so (.vg [.cz j 0 k z,.cz j1 1 _ _])=>if Nat.beq j1 j then some (k,z) else none
 | .so (.vg [.cr j 0 k q,.cr j1 1 _ _])=>if Nat.beq j1 j then some (k,q.num) else none
 | .so (.vg [a,b])=>if falC a&&nilC b then some (64,0) else none
 | _=>none
def txC:Cl→Option (Nat × Rat)
 | .cw _ (some (k,q))=>some (k,q)
 | .cw [b] none=>if Nat.beq b.toNat 48 then some (1,0) else none
 | _=>none
def asTxt:SV→Option (Nat × Rat)
 | .so (.vc c)=>txC c
 | _=>none
def as64:SV→Option Int
 | .so (.vc (.ci .i64 z lo hi))=>if ile (-9223372036854775808) lo&&ile hi 9223372036854775807 then some z else none
 | _=>none
def newInt (j k:Nat) (z:Int):SV:=.so (.vg [.cz j 0 k z,.cz j 1 k z])
def txt (k:Nat) (q:Rat):SV:=.so (.vc (.cw (ratL q) (some (k,q))))
def sgnV (z:Int):SV:=.so (.vc (.ci .i64 z (-1) 1))
section
variable {n:Nn} {X:Env} {w w':World}
theorem asInt_ok {v:SV} {k:Nat} {z:Int} (h:asInt v=some (k,z)) (hv:v.ok n X w):∃ a b,v.den X=.agg #[a,b]∧IsInt w k a b z:=by
 unfold asInt at h
 split at h
 ·rename_i j k' q' j1 _ _
  split at h
  ·rename_i hj
   simp only [Nat.beq_eq] at hj
   subst hj
   cases h
   exact ⟨_,_,rfl,(hv (.cz j1 0 k z) (by simp)).2⟩
  ·cases h
 ·rename_i j k' q' j1 _ _
  split at h
  ·rename_i hj
   simp only [Nat.beq_eq] at hj
   subst hj
   cases h
   exact ⟨_,_,rfl,IsRat.num (hv (.cr j1 0 k q') (by simp)).2⟩
  ·cases h
 ·rename_i a b _ _
  split at h
  ·rename_i hh
   simp only [Bool.and_eq_true] at hh
   cases h
   refine ⟨.bool false,.slice none 0 0,?_,IsInt.zero w 64⟩
   simp only [SV.den,TV.den,dnL,List.map_cons,List.map_nil,falC_den hh.1 (hv a (by simp)),nilC_den hh.2]
  ·cases h
 ·cases h
theorem ratL0:ratL 0=([48]:List UInt8):=eq_of_beq (ratL_litw (by kernel_rfl) (itoa_litp 0 (by kernel_rfl) (by decide)))
theorem txC_ok {c:Cl} {k:Nat} {q:Rat} (h:txC c=some (k,q)) (hv:c.ok n X w):c.den X=.string ⟨(ratL q).toArray⟩∧RS k q:=by
 unfold txC at h
 split at h
 ·rename_i l k' q'
  cases h
  obtain ⟨h1,h2⟩:=hv.2 k q rfl
  exact ⟨by rw [← h1];rfl,h2⟩
 ·rename_i b
  split at h
  ·rename_i hb
   cases h
   have:b=48:=UInt8.toNat_inj.1 (Nat.eq_of_beq_eq_true hb)
   exact ⟨by rw [ratL0,this];rfl,Nat.two_pow_pos 1,Nat.one_lt_two_pow (by decide)⟩
  ·cases h
 ·cases h
theorem asTxt_ok {v:SV} {k:Nat} {q:Rat} (h:asTxt v=some (k,q)) (hv:v.ok n X w):v.den X=.string ⟨(ratL q).toArray⟩∧Sz k q.num∧Sz k (q.den:Int):=by
 unfold asTxt at h
 split at h
 ·rename_i c
  exact txC_ok h hv
 ·cases h
theorem as64_ok {v:SV} {z:Int} (h:as64 v=some z) (hv:v.ok n X w):v.den X=.int .i64 z∧-9223372036854775808≤z∧z≤9223372036854775807:=by
 unfold as64 at h
 split at h
 ·split at h
  ·rename_i hh
   simp only [ile_eq,Bool.and_eq_true,decide_eq_true_eq] at hh
   cases h
   exact ⟨rfl,Int.le_trans hh.1 hv.2.1,Int.le_trans hv.2.2 hh.2⟩
  ·cases h
 ·cases h
def Env.pushZ (X:Env) (n:Nat) (c0 c1:Value):Env:={X with Z:=fun i c=>if i=n then (if c=0 then c0 else c1) else X.Z i c}
theorem Env.pushZ_agree (X:Env) (n:Nn) (c0 c1:Value):Agr n X (X.pushZ n.z c0 c1):=⟨fun _ _=>rfl,fun _ _ _=>rfl,fun i c hi=>by simp only [Env.pushZ];rw [if_neg (by omega)],rfl⟩
theorem newInt_ok {k:Nat} {z:Int} {c0 c1:Value} (h1:IsInt w' k c0 c1 z):(newInt n.z k z).den (X.pushZ n.z c0 c1)=.agg #[c0,c1]∧(newInt n.z k z).ok ⟨n.b,n.r,n.z+1⟩ (X.pushZ n.z c0 c1) w':=by
 refine ⟨by simp [newInt,SV.den,TV.den,dnL,Cl.den,Env.pushZ],fun c hc=>?_⟩
 have hg:IsInt w' k ((X.pushZ n.z c0 c1).Z n.z 0) ((X.pushZ n.z c0 c1).Z n.z 1) z:=by simpa [Env.pushZ] using h1
 have hlt:Nat.blt n.z (n.z+1)=true:=blt_to (by omega)
 simp only [List.mem_cons,List.not_mem_nil,or_false] at hc
 rcases hc with rfl | rfl<;>refine ⟨?_,hg⟩<;>simp only [Cl.lt,hlt]<;>rfl
theorem newInt_holds {e:Ending} {k:Nat} {z:Int} (h:(∃ c0 c1,e=.returned (.agg #[c0,c1])∧IsInt w' k c0 c1 z)∧Gr w w'):(Tr.leaf (newInt n.z k z) 0 1).holds n X w e w':=by
 obtain ⟨⟨c0,c1,rfl,h1⟩,g⟩:=h
 obtain ⟨a,b⟩:=newInt_ok (n:=n) (X:=X) h1
 exact ⟨X.pushZ n.z c0 c1,by rw [a],g,Env.pushZ_agree _ _ _ _,b⟩
theorem newRat_ok {k:Nat} {q:Rat} {c0 c1 c2 c3:Value} (h1:IsRat w' k c0 c1 c2 c3 q):(newRat n.r k q).den (X.pushR n.r c0 c1 c2 c3)=.agg #[c0,c1,c2,c3]∧(newRat n.r k q).ok ⟨n.b,n.r+1,n.z⟩ (X.pushR n.r c0 c1 c2 c3) w':=by
 obtain ⟨X',a,b,c,d⟩:=newRat_holds (n:=n) (X:=X) (w:=w') (e:=.returned (.agg #[c0,c1,c2,c3])) ⟨⟨c0,c1,c2,c3,rfl,h1⟩,Gr.refl w'⟩
 refine ⟨by simp [newRat,SV.den,TV.den,dnL,Cl.den,Env.pushR],fun c hc=>?_⟩
 have hg:IsRat w' k ((X.pushR n.r c0 c1 c2 c3).R n.r 0) ((X.pushR n.r c0 c1 c2 c3).R n.r 1) ((X.pushR n.r c0 c1 c2 c3).R n.r 2) ((X.pushR n.r c0 c1 c2 c3).R n.r 3) q:=by simpa [Env.pushR] using h1
 have hlt:Nat.blt n.r (n.r+1)=true:=blt_to (by omega)
 simp only [List.mem_cons,List.not_mem_nil,or_false] at hc
 rcases hc with rfl | rfl | rfl | rfl<;>refine ⟨?_,hg⟩<;>simp only [Cl.lt,hlt]<;>rfl
def ratE (j k:Nat) (q:Rat) (e:Int):SV:=.st [.vg [.cr j 0 k q,.cr j 1 k q,.cr j 2 k q,.cr j 3 k q],.vc (.ci .i64 e e e)]
theorem ratE_holds {e:Ending} {k:Nat} {q:Rat} {er:Int} (h:(∃ c0 c1 c2 c3,e=.returned (.tuple #[.agg #[c0,c1,c2,c3],.int .i64 er])∧IsRat w' k c0 c1 c2 c3 q)∧Gr w w'):(Tr.leaf (ratE n.r k q er) 1 0).holds n X w e w':=by
 obtain ⟨⟨c0,c1,c2,c3,rfl,h1⟩,g⟩:=h
 obtain ⟨a,b⟩:=newRat_ok (n:=n) (X:=X) h1
 refine ⟨X.pushR n.r c0 c1 c2 c3,?_,g,Env.pushR_agree _ _ _ _ _ _,fun x hx=>?_⟩
 ·have a':TV.den (X.pushR n.r c0 c1 c2 c3) (.vg [.cr n.r 0 k q,.cr n.r 1 k q,.cr n.r 2 k q,.cr n.r 3 k q])=.agg #[c0,c1,c2,c3]:=a
  simp only [ratE,SV.den,List.map_cons,List.map_nil,a']
  rfl
 ·simp only [List.mem_cons,List.not_mem_nil,or_false] at hx
  rcases hx with rfl | rfl
  ·exact b
  ·exact ⟨rfl,Int.le_refl _,Int.le_refl _⟩
theorem txt_ok {k:Nat} {q:Rat} (h:Sz k q.num∧Sz k (q.den:Int)):(txt k q).ok n X w:=⟨rfl,fun k' q' e=>by cases e;exact ⟨rfl,h⟩⟩
theorem sgn_range (z:Int):-1≤sgn z∧sgn z≤1:=by unfold sgn;split<;>(try split)<;>decide
end
section
variable {P:Program} {I:World→Prop} {f lim:Nat}
def con1 {α:Type} (g:SV→Option α) (c:α→Nat→Nat→Option Tr):ConT:=fun args nr nz=>match args with
 | [x]=>match g x with
  | some a=>c a nr nz
  | none=>none
 | _=>none
def con2 {α β:Type} (g:SV→Option α) (g2:SV→Option β) (c:α→β→Nat→Nat→Option Tr):ConT:=fun args nr nz=>match args with
 | [x,y]=>match g x,g2 y with
  | some a,some b=>c a b nr nz
  | _,_=>none
 | _=>none
theorem con1_ok {α:Type} {g:SV→Option α} {c:α→Nat→Nat→Option Tr}
  (h:∀ (a:α) (x:SV) (n:Nn) (X:Env) (w:World) (T:Tr),I w→g x=some a→x.ok n X w→c a n.r n.z=some T→T.pre→Calls P f #[x.den X] w fun e w'=>T.holds n X w e w'):ConOK P I f (con1 g c):=by
 intro args X n w T hI ha hT hp
 unfold con1 at hT
 split at hT
 ·rename_i x
  split at hT
  ·rename_i a h1
   exact h a x n X w T hI h1 (ha x (by simp)) hT hp
  ·cases hT
 ·cases hT
theorem con2_ok {α β:Type} {g:SV→Option α} {g2:SV→Option β} {c:α→β→Nat→Nat→Option Tr}
  (h:∀ (a:α) (b:β) (x y:SV) (n:Nn) (X:Env) (w:World) (T:Tr),I w→g x=some a→g2 y=some b→x.ok n X w→y.ok n X w→c a b n.r n.z=some T→T.pre→Calls P f #[x.den X,y.den X] w fun e w'=>T.holds n X w e w'):ConOK P I f (con2 g g2 c):=by
 intro args X n w T hI ha hT hp
 unfold con2 at hT
 split at hT
 ·rename_i x y
  split at hT
  ·rename_i a b h1 h2
   exact h a b x y n X w T hI h1 h2 (ha x (by simp)) (ha y (by simp)) hT hp
  ·cases hT
 ·cases hT
end
def tr (b:Bool) (T:Tr):Option Tr:=if b then some T else none
theorem tr_some {b:Bool} {T U:Tr} (h:tr b T=some U):b=true∧T=U:=by
 unfold tr at h
 split at h
 ·cases h;exact ⟨by assumption,rfl⟩
 ·cases h
theorem IsRat.szr {w:World} {k:Nat} {c0 c1 c2 c3:Value} {q:Rat} (h:IsRat w k c0 c1 c2 c3 q):Sz k q.num∧Sz k (q.den:Int):=by
 refine ⟨h.num.sz,?_⟩
 obtain ⟨D,h2,rfl | ⟨rfl,e⟩⟩:=h.den
 ·exact h2.sz
 ·rw [e]
  have:=h.big
  show (1:Nat)<2 ^ k
  exact Nat.one_lt_two_pow (by omega)
def cNeg:ConT:=con1 asRat fun | (k,a),nr,_=>some (.leaf (newRat nr k (-a)) 1 0)
def cFrom:ConT:=con1 as64 fun z nr _=>some (.leaf (newRat nr 64 (z:Rat)) 1 0)
def cComp:ConT:=con2 asRat asRat fun | (k,a),(m,b),_,_=>tr (Nat.ble (k+m) 100000) (.leaf (sgnV (rcmp a b)) 0 0)
def cSign:ConT:=con1 asRat fun | (_k,a),_,_=>some (.leaf (sgnV (sgn a.num)) 0 0)
def cNumb:ConT:=con1 asRat fun | (k,a),_,_=>tr (Nat.ble k 800000) (.leaf (txt k a) 0 0)
def cNum:ConT:=con1 asRat fun | (k,a),_,nz=>some (.leaf (newInt nz k a.num) 0 1)
def cDen:ConT:=con1 asRat fun | (k,a),_,nz=>some (.leaf (newInt nz k (a.den:Int)) 0 1)
def cDiv:ConT:=con2 asRat asRat fun | (k,a),(m,b),nr,_=>tr (Nat.ble (k+m) 100000) (.br (decide (b=0)) (.leaf (.st [.vg [.cb false (some false),.cv (.slice none 0 0),.cb false (some false),.cv (.slice none 0 0)],.vc (.ci .i64 19 19 19)]) 0 0) (.leaf (ratE nr (k+m) (a/b) 0) 1 0))
def cZFrom:ConT:=con1 as64 fun z _ nz=>some (.leaf (newInt nz 64 z) 0 1)
def cZMul:ConT:=con2 asInt asInt fun | (k,a),(m,b),_,nz=>tr (Nat.ble (k+m) 1000000) (.leaf (newInt nz (k+m) (a*b)) 0 1)
def cZGcd:ConT:=con2 asInt asInt fun | (k,a),(m,b),_,nz=>tr (Nat.ble (k+m) 1000000) (.leaf (newInt nz (k+m) (Int.gcd a b)) 0 1)
def cZDiv:ConT:=con2 asInt asInt fun | (k,a),(m,b),_,nz=>tr (Nat.ble (k+k+m+m+66) 1000000) (.as (decide (0<b)) (.leaf (.st [.vg [.cz nz 0 k (a/b),.cz nz 1 k (a/b)],.vg [.cz (nz+1) 0 m (a % b),.cz (nz+1) 1 m (a % b)],.vc (.ci .i64 0 0 0)]) 0 2))
def cZInt:ConT:=con1 asInt fun | (_k,a),_,_=>some (.leaf (.st [.vc (.ci .i64 (valI a) (-9223372036854775808) 9223372036854775807),.vc (.cb (fitsI a) none)]) 0 0)
def cTT (g:Nat→Nat→Nat) (op:Rat→Rat→Rat):ConT:=con2 asTxt asTxt fun | (k,a),(m,b),_,_=>tr (Nat.ble (k+m) 19998) (.leaf (txt (g k m) (op a b)) 0 0)
def cTDiv:ConT:=con2 asTxt asTxt fun | (k,a),(m,b),_,_=>tr (Nat.ble (k+m) 19998) (.as (decide (b≠0)) (.leaf (txt (k+m) (a/b)) 0 0))
def cTNeg:ConT:=con1 asTxt fun | (k,a),_,_=>tr (Nat.ble k 19998) (.leaf (txt k (-a)) 0 0)
def cTFrom:ConT:=con1 as64 fun z _ _=>some (.leaf (txt 64 (z:Rat)) 0 0)
def cPars (most:Nat):ConT:=con1 asTxt fun | (k,a),nr,_=>tr (Nat.ble k 20000&&Nat.ble (2*k+5) most) (.leaf (ratE nr (max k 64) a 0) 1 0)
section
variable {I:World→Prop}
theorem cNeg_ok:ConOK Tryz.prog I 108 cNeg:=con1_ok fun ⟨k,a⟩ x n X w T _ h1 h2 hT _=>by
 cases hT
 obtain ⟨u0,u1,u2,u3,e1,f1⟩:=asRat_ok h1 h2
 rw [e1]
 exact (neg_r f1).mono fun e w' he=>newRat_holds he
theorem cFrom_ok:ConOK Tryz.prog I 59 cFrom:=con1_ok fun a x n X w T _ h1 h2 hT _=>by
 cases hT
 obtain ⟨e1,h3,h4⟩:=as64_ok h1 h2
 rw [e1]
 exact (from_r a h3 h4 w).mono fun e w' he=>newRat_holds he
theorem cComp_ok:ConOK Tryz.prog I 37 cComp:=con2_ok fun ⟨k,a⟩ ⟨m,b⟩ x y n X w T _ h1 h2 hx hy hT _=>by
 obtain ⟨hb,rfl⟩:=tr_some hT
 obtain ⟨u0,u1,u2,u3,e1,f1⟩:=asRat_ok h1 hx
 obtain ⟨v0,v1,v2,v3,e2,f2⟩:=asRat_ok h2 hy
 rw [e1,e2]
 exact (compare_r f1 f2 (by simpa using hb)).mono fun e w' he=>val_holds he ⟨rfl,sgn_range _⟩
theorem cSign_ok:ConOK Tryz.prog I 76 cSign:=con1_ok fun ⟨k,a⟩ x n X w T _ h1 h2 hT _=>by
 cases hT
 obtain ⟨u0,u1,u2,u3,e1,f1⟩:=asRat_ok h1 h2
 rw [e1]
 exact (sign_r f1).mono fun e w' he=>val_holds he ⟨rfl,sgn_range _⟩
theorem cNumb_ok (hI:∀ w,I w→Tab w):ConOK Tryz.prog I 87 cNumb:=con1_ok fun ⟨k,a⟩ x n X w T hw h1 h2 hT _=>by
 obtain ⟨hb,rfl⟩:=tr_some hT
 obtain ⟨u0,u1,u2,u3,e1,f1⟩:=asRat_ok h1 h2
 rw [e1]
 exact (number_r f1 (by simpa using hb) (hI w hw)).mono fun e w' he=>val_holds he (txt_ok f1.szr)
theorem cNum_ok:ConOK Tryz.prog I 130 cNum:=con1_ok fun ⟨k,a⟩ x n X w T _ h1 h2 hT _=>by
 cases hT
 obtain ⟨u0,u1,u2,u3,e1,f1⟩:=asRat_ok h1 h2
 rw [e1]
 exact (num_r f1).mono fun e w' he=>newInt_holds he
theorem cDen_ok:ConOK Tryz.prog I 81 cDen:=con1_ok fun ⟨k,a⟩ x n X w T _ h1 h2 hT _=>by
 cases hT
 obtain ⟨u0,u1,u2,u3,e1,f1⟩:=asRat_ok h1 h2
 rw [e1]
 exact (den_i f1).mono fun e w' he=>newInt_holds he
theorem num_ne {q:Rat} (h:q≠0):q.num≠0:=fun e=>h (Rat.num_eq_zero.1 e)
theorem cDiv_ok:ConOK Tryz.prog I 58 cDiv:=con2_ok fun ⟨k,a⟩ ⟨m,b⟩ x y n X w T _ h1 h2 hx hy hT _=>by
 obtain ⟨hb,rfl⟩:=tr_some hT
 obtain ⟨u0,u1,u2,u3,e1,f1⟩:=asRat_ok h1 hx
 obtain ⟨v0,v1,v2,v3,e2,f2⟩:=asRat_ok h2 hy
 rw [e1,e2]
 by_cases h0:b=0
 ·refine (div_0 f1 f2 (by rw [h0];rfl)).mono fun e w' he=>⟨fun _=>val_holds he fun x hx=>?_,fun h=>absurd h0 (of_decide_eq_false h)⟩
  simp only [List.mem_cons,List.not_mem_nil,or_false] at hx
  rcases hx with rfl | rfl
  ·intro c hc
   simp only [List.mem_cons,List.not_mem_nil,or_false] at hc
   rcases hc with rfl | rfl | rfl | rfl<;>refine ⟨rfl,?_⟩<;>first | rfl | (intro v hv;cases hv;rfl)
  ·exact ⟨rfl,Int.le_refl _,Int.le_refl _⟩
 ·exact (div_a f1 f2 (by simpa using hb) (num_ne h0)).mono fun e w' he=>⟨fun h=>absurd (of_decide_eq_true h) h0,fun _=>ratE_holds he⟩
theorem cZFrom_ok:ConOK Tryz.prog I 96 cZFrom:=con1_ok fun a x n X w T _ h1 h2 hT _=>by
 cases hT
 obtain ⟨e1,h3,h4⟩:=as64_ok h1 h2
 rw [e1]
 exact (from_i a h3 h4 w).mono fun e w' he=>newInt_holds he
theorem cZMul_ok:ConOK Tryz.prog I 80 cZMul:=con2_ok fun ⟨k,a⟩ ⟨m,b⟩ x y n X w T _ h1 h2 hx hy hT _=>by
 obtain ⟨hb,rfl⟩:=tr_some hT
 obtain ⟨u0,u1,e1,f1⟩:=asInt_ok h1 hx
 obtain ⟨v0,v1,e2,f2⟩:=asInt_ok h2 hy
 rw [e1,e2]
 exact (mul_i f1 f2 (by simpa using hb)).mono fun e w' he=>newInt_holds he
theorem cZGcd_ok:ConOK Tryz.prog I 122 cZGcd:=con2_ok fun ⟨k,a⟩ ⟨m,b⟩ x y n X w T _ h1 h2 hx hy hT _=>by
 obtain ⟨hb,rfl⟩:=tr_some hT
 obtain ⟨u0,u1,e1,f1⟩:=asInt_ok h1 hx
 obtain ⟨v0,v1,e2,f2⟩:=asInt_ok h2 hy
 rw [e1,e2]
 exact (gcd_i f1 f2 (by simpa using hb)).mono fun e w' he=>newInt_holds he
theorem cZDiv_ok:ConOK Tryz.prog I 123 cZDiv:=con2_ok fun ⟨k,a⟩ ⟨m,b⟩ x y n X w T _ h1 h2 hx hy hT hp=>by
 obtain ⟨hb,rfl⟩:=tr_some hT
 obtain ⟨u0,u1,e1,f1⟩:=asInt_ok h1 hx
 obtain ⟨v0,v1,e2,f2⟩:=asInt_ok h2 hy
 rw [e1,e2]
 refine (divmod_i f1 f2 (of_decide_eq_true hp.1) (by simpa using hb)).mono fun e w' he=>?_
 obtain ⟨⟨c0,c1,c2,c3,rfl,g1,g2⟩,g⟩:=he
 have k1:=newInt_ok (n:=n) (X:=X) g1
 have ab:=Env.pushZ_agree X n c0 c1
 have k2:=newInt_ok (n:=⟨n.b,n.r,n.z+1⟩) (X:=X.pushZ n.z c0 c1) g2
 have aa:=Env.pushZ_agree (X.pushZ n.z c0 c1) ⟨n.b,n.r,n.z+1⟩ c2 c3
 refine ⟨_,?_,g,ab.trans (aa.mono ⟨Nat.le_refl _,Nat.le_refl _,Nat.le_succ _⟩),fun x hx=>?_⟩
 ·have a1:TV.den ((X.pushZ n.z c0 c1).pushZ (n.z+1) c2 c3) (.vg [.cz n.z 0 k (a/b),.cz n.z 1 k (a/b)])=.agg #[c0,c1]:=by
   rw [← TV.den_agree aa (x:=.vg _) (W:=w') k1.2];exact k1.1
  have a2:TV.den ((X.pushZ n.z c0 c1).pushZ (n.z+1) c2 c3) (.vg [.cz (n.z+1) 0 m (a % b),.cz (n.z+1) 1 m (a % b)])=.agg #[c2,c3]:=k2.1
  simp only [SV.den,List.map_cons,List.map_nil,a1,a2]
  rfl
 ·simp only [List.mem_cons,List.not_mem_nil,or_false] at hx
  rcases hx with rfl | rfl | rfl
  ·exact TV.ok_to (x:=.vg _) (m:=⟨n.b,n.r,n.z+1⟩) (n:=⟨n.b,n.r,n.z+2⟩) ⟨Nat.le_refl _,Nat.le_refl _,Nat.le_succ _⟩ aa (Kp.refl w') k1.2
  ·exact k2.2
  ·exact ⟨rfl,Int.le_refl _,Int.le_refl _⟩
theorem cZInt_ok:ConOK Tryz.prog I 68 cZInt:=con1_ok fun ⟨k,a⟩ x n X w T _ h1 h2 hT _=>by
 cases hT
 obtain ⟨u0,u1,e1,f1⟩:=asInt_ok h1 h2
 rw [e1]
 refine (int_i f1).mono fun e w' he=>val_holds he fun x hx=>?_
 simp only [List.mem_cons,List.not_mem_nil,or_false] at hx
 rcases hx with rfl | rfl
 ·refine ⟨rfl,?_⟩
  simp only [Cl.good,valI]
  split
  ·rename_i h;simpa [fitsI] using h
  ·decide
 ·exact ⟨rfl,fun v hv=>by cases hv⟩
theorem cTAdd_ok:ConOK Tryz.prog I 105 (cTT (fun k m=>k+m+1) fun a b=>a+b):=con2_ok fun ⟨k,a⟩ ⟨m,b⟩ x y n X w T _ h1 h2 hx hy hT _=>by
 obtain ⟨hb,rfl⟩:=tr_some hT
 obtain ⟨e1,f1⟩:=asTxt_ok h1 hx
 obtain ⟨e2,f2⟩:=asTxt_ok h2 hy
 rw [e1,e2]
 exact (r2_add a b f1 f2 (by simpa using hb) w).mono fun e w' he=>val_holds he (txt_ok (RS.add f1 f2))
theorem cTSub_ok:ConOK Tryz.prog I 132 (cTT (fun k m=>k+m+1) fun a b=>a - b):=con2_ok fun ⟨k,a⟩ ⟨m,b⟩ x y n X w T _ h1 h2 hx hy hT _=>by
 obtain ⟨hb,rfl⟩:=tr_some hT
 obtain ⟨e1,f1⟩:=asTxt_ok h1 hx
 obtain ⟨e2,f2⟩:=asTxt_ok h2 hy
 rw [e1,e2]
 exact (r2_sub a b f1 f2 (by simpa using hb) w).mono fun e w' he=>val_holds he (txt_ok (RS.sub f1 f2))
theorem cTMul_ok:ConOK Tryz.prog I 106 (cTT (fun k m=>k+m) fun a b=>a*b):=con2_ok fun ⟨k,a⟩ ⟨m,b⟩ x y n X w T _ h1 h2 hx hy hT _=>by
 obtain ⟨hb,rfl⟩:=tr_some hT
 obtain ⟨e1,f1⟩:=asTxt_ok h1 hx
 obtain ⟨e2,f2⟩:=asTxt_ok h2 hy
 rw [e1,e2]
 exact (r2_mul a b f1 f2 (by simpa using hb) w).mono fun e w' he=>val_holds he (txt_ok (RS.mul f1 f2))
theorem cTDiv_ok:ConOK Tryz.prog I 64 cTDiv:=con2_ok fun ⟨k,a⟩ ⟨m,b⟩ x y n X w T _ h1 h2 hx hy hT hp=>by
 obtain ⟨hb,rfl⟩:=tr_some hT
 obtain ⟨e1,f1⟩:=asTxt_ok h1 hx
 obtain ⟨e2,f2⟩:=asTxt_ok h2 hy
 have h0:=num_ne (of_decide_eq_true hp.1)
 rw [e1,e2]
 exact (r2_div a b f1 f2 h0 (by simpa using hb) w).mono fun e w' he=>val_holds he (txt_ok (RS.div f1 f2 h0))
theorem cTNeg_ok:ConOK Tryz.prog I 115 cTNeg:=con1_ok fun ⟨k,a⟩ x n X w T _ h1 h2 hT _=>by
 obtain ⟨hb,rfl⟩:=tr_some hT
 obtain ⟨e1,f1⟩:=asTxt_ok h1 h2
 rw [e1]
 exact (r2_neg a f1 (by simpa using hb) w).mono fun e w' he=>val_holds he (txt_ok (RS.neg f1))
theorem cTFrom_ok:ConOK Tryz.prog I 65 cTFrom:=con1_ok fun a x n X w T _ h1 h2 hT _=>by
 cases hT
 obtain ⟨e1,h3,h4⟩:=as64_ok h1 h2
 rw [e1]
 exact (r2_from a h3 h4 w).mono fun e w' he=>val_holds he (txt_ok (RS.int (show a.natAbs<2 ^ 64 by omega) (by decide)))
theorem cPars_ok (hI:∀ w,I w→Mx w):ConOK Tryz.prog I 94 (cPars 400):=con1_ok fun ⟨k,a⟩ x n X w T hw h1 h2 hT _=>by
 obtain ⟨hb,rfl⟩:=tr_some hT
 simp only [Bool.and_eq_true,Nat.ble_eq] at hb
 obtain ⟨e1,f1⟩:=asTxt_ok h1 h2
 rw [e1]
 have hl:=ratL_len f1.1 f1.2
 exact (parse_q (k:=max k 64) a ⟨f1.1.mono (by omega),f1.2.mono (by omega)⟩ (by omega) (by omega) (by omega) w (hI w hw)).mono fun e w' he=>ratE_holds he
theorem cRead_ok (hI:∀ w,I w→Mx w):ConOK Tryz.prog I 107 (cPars 65536):=con1_ok fun ⟨k,a⟩ x n X w T hw h1 h2 hT _=>by
 obtain ⟨hb,rfl⟩:=tr_some hT
 simp only [Bool.and_eq_true,Nat.ble_eq] at hb
 obtain ⟨e1,f1⟩:=asTxt_ok h1 h2
 rw [e1]
 have hl:=ratL_len f1.1 f1.2
 exact (readr_q (k:=max k 64) a ⟨f1.1.mono (by omega),f1.2.mono (by omega)⟩ (by omega) (by omega) (by omega) w (hI w hw)).mono fun e w' he=>ratE_holds he
end
end Go.Proofs.YtaldbfflkpgfoaaGreatDoor
/- Printed by a program of the prover's:motions. -/
namespace Go.Proofs.YtaldbfflkpgfoaaGreatDoor
open Go.RowKit

end Go.Proofs.YtaldbfflkpgfoaaGreatDoor
/- Slices of any elements:read,made,filled,appended to. -/
namespace Go.Proofs.YtaldbfflkpgfoaaGreatDoor
open Go.RowKit

def Kt (t:TypeId) (w w':World):Prop:=∀ (b:Nat) (cs:Array Value) (fr:Nat × Nat),w.heap[b]?=some (Obj.cells cs t fr)→w'.heap[b]?=some (Obj.cells cs t fr)
theorem Kt.refl (t:TypeId) (w:World):Kt t w w:=fun _ _ _ h=>h
theorem Kt.trans {t:TypeId} {a b c:World} (h:Kt t a b) (k:Kt t b c):Kt t a c:=fun b cs fr hb=>k b cs fr (h b cs fr hb)
theorem Gr.kt {w w':World} (h:Gr w w') (t:TypeId):Kt t w w':=fun _ _ _ hk=>h.heap hk
theorem Kt.kp {w w':World} (h:Kt 161 w w'):Kp w w':=h
theorem St.kt {w w':World} {b:Nat} {cs:Array Value} {T t:TypeId} (h:St w w' b) (hL:Lc w b cs T) (ht:t≠T):Kt t w w':=fun c ds fr hc=>by
 by_cases e:c=b
 ·subst e
  unfold Lc at hL
  rw [hc] at hL
  simp only [Option.some.injEq,Obj.cells.injEq] at hL
  exact absurd hL.2.1 ht
 ·exact (h.block c e).trans hc
theorem Wt.kt {T t:TypeId} {w w':World} (h:Wt T w w') (ht:t≠T):Kt t w w':=fun b cs fr hb=>h.block b cs _ fr ht hb
def Kts (ts:List TypeId) (w w':World):Prop:=∀ t ∈ ts,Kt t w w'
theorem Gr.kts {w w':World} (h:Gr w w') (ts:List TypeId):Kts ts w w':=fun t _=>h.kt t
theorem St.kts {w w':World} {b:Nat} {cs:Array Value} {T:TypeId} {ts:List TypeId} (h:St w w' b) (hL:Lc w b cs T) (ht:(ts.all fun t=>t !=T)=true):Kts ts w w':=fun t hm=>h.kt hL (by have:=List.all_eq_true.1 ht t hm;simpa using this)
theorem Wt.kts {w w':World} {T:TypeId} {ts:List TypeId} (h:Wt T w w') (ht:(ts.all fun t=>t !=T)=true):Kts ts w w':=fun t hm=>h.kt (by have:=List.all_eq_true.1 ht t hm;simpa using this)

section
variable {α:Type}
def Stab (E:World→α→List Value→Prop) (ts:List TypeId):Prop:=∀ w w' x vs,Kts ts w w'→E w x vs→E w' x vs
def Els (E:World→α→List Value→Prop) (c:Nat) (w:World) (ys:List Value) (xs:List α):Prop:=
 ys.length=xs.length*c∧∀ (i:Nat) (x:α),xs[i]?=some x→E w x ((ys.drop (i*c)).take c)
theorem Els.kts {E:World→α→List Value→Prop} {ts:List TypeId} {c:Nat} {w w':World} {ys:List Value} {xs:List α} (h:Els E c w ys xs) (hS:Stab E ts) (k:Kts ts w w'):Els E c w' ys xs:=
 ⟨h.1,fun i x hx=>hS _ _ _ _ k (h.2 i x hx)⟩
theorem Els.nil (E:World→α→List Value→Prop) (c:Nat) (w:World):Els E c w [] []:=⟨by simp,fun i x h=>by simp at h⟩
theorem Els.snoc {E:World→α→List Value→Prop} {c:Nat} {w:World} {ys:List Value} {xs:List α} (h:Els E c w ys xs) {x:α} {vs:List Value} (hv:vs.length=c) (hx:E w x vs):Els E c w (ys++vs) (xs++[x]):=by
 refine ⟨by simp [h.1,hv,Nat.add_mul],fun i y hy=>?_⟩
 rcases Nat.lt_or_ge i xs.length with hi | hi
 ·rw [List.getElem?_append_left hi] at hy
  have h1:i*c+c≤ys.length:=by
   rw [h.1]
   have:=Nat.mul_le_mul_right c (show i+1≤xs.length by omega)
   rw [Nat.add_mul] at this;omega
  have:=h.2 i y hy
  rw [List.drop_append_of_le_length (by omega),List.take_append_of_le_length (by rw [List.length_drop];omega)]
  exact this
 ·rw [List.getElem?_append_right hi] at hy
  have h0:i=xs.length:=by
   have:=(List.getElem?_eq_some_iff.1 hy).1
   simp at this;omega
  subst h0
  simp only [Nat.sub_self,List.getElem?_cons_zero,Option.some.injEq] at hy
  subst hy
  rw [← h.1,List.drop_left,← hv,List.take_length]
  exact hx
theorem Els.set {E:World→α→List Value→Prop} {c:Nat} {w:World} {ys:List Value} {xs:List α} (h:Els E c w ys xs) {i:Nat} (hi:i<xs.length) {x:α} {vs:List Value} (hv:vs.length=c) (hx:E w x vs):
  Els E c w (ys.take (i*c)++vs++ys.drop (i*c+c)) (xs.set i x):=by
 have hle:i*c+c≤ys.length:=by
  rw [h.1]
  have:=Nat.mul_le_mul_right c (show i+1≤xs.length by omega)
  rw [Nat.add_mul] at this;omega
 refine ⟨by rw [List.length_append,List.length_append,List.length_take,List.length_drop,List.length_set,hv,Nat.min_eq_left (by omega)];have:=h.1;omega,fun j y hy=>?_⟩
 rcases Nat.lt_trichotomy j i with hj | hj | hj
 ·rw [List.getElem?_set_ne (by omega)] at hy
  have h1:j*c+c≤i*c:=by
   have:=Nat.mul_le_mul_right c (show j+1≤i by omega)
   rw [Nat.add_mul] at this;omega
  have e:((ys.take (i*c)++vs++ys.drop (i*c+c)).drop (j*c)).take c=(ys.drop (j*c)).take c:=by
   rw [List.append_assoc,List.drop_append_of_le_length (by rw [List.length_take];omega),List.take_append_of_le_length (by rw [List.length_drop,List.length_take];omega),List.drop_take,List.take_take]
   congr 1;omega
  rw [e];exact h.2 j y hy
 ·subst hj
  rw [List.getElem?_set_self hi] at hy
  obtain rfl:=Option.some.inj hy
  have e:((ys.take (j*c)++vs++ys.drop (j*c+c)).drop (j*c)).take c=vs:=by
   have hl:(ys.take (j*c)).length=j*c:=by rw [List.length_take];omega
   rw [List.append_assoc,List.drop_append,hl,Nat.sub_self,List.drop_zero,List.drop_eq_nil_of_le (by omega),List.nil_append,List.take_append_of_le_length (by omega),List.take_of_length_le (by omega)]
  rw [e];exact hx
 ·rw [List.getElem?_set_ne (by omega)] at hy
  have h1:i*c+c≤j*c:=by
   have:=Nat.mul_le_mul_right c (show i+1≤j by omega)
   rw [Nat.add_mul] at this;omega
  have e:((ys.take (i*c)++vs++ys.drop (i*c+c)).drop (j*c)).take c=(ys.drop (j*c)).take c:=by
   have hl:(ys.take (i*c)++vs).length=i*c+c:=by rw [List.length_append,List.length_take];omega
   rw [List.drop_append,hl,List.drop_eq_nil_of_le (by omega),List.nil_append,List.drop_drop]
   congr 2;omega
  rw [e];exact h.2 j y hy
theorem Els.mono {E F:World→α→List Value→Prop} {c:Nat} {w:World} {ys:List Value} {xs:List α} (h:Els E c w ys xs) (hf:∀ x vs,E w x vs→F w x vs):Els F c w ys xs:=⟨h.1,fun i x hx=>hf _ _ (h.2 i x hx)⟩

def Cs (T:TypeId) (w:World) (v:Value) (n:Nat) (ys:List Value):Prop:=
 ∃ ao cap,v=.slice ao n cap∧n≤cap∧(0<ys.length→∃ b off cs fr,ao=some ⟨b,off,none⟩∧w.heap[b]?=some (.cells cs T fr)∧∀ j,j<ys.length→cs[off+j]?=ys[j]?)
theorem Cs.kt {T:TypeId} {w w':World} {v:Value} {n:Nat} {ys:List Value} (h:Cs T w v n ys) (k:Kt T w w'):Cs T w' v n ys:=by
 obtain ⟨ao,cap,h1,h2,h3⟩:=h
 refine ⟨ao,cap,h1,h2,fun hp=>?_⟩
 obtain ⟨b,off,cs,fr,e1,e2,e3⟩:=h3 hp
 exact ⟨b,off,cs,fr,e1,k _ _ _ e2,e3⟩
def adr (v:Value) (j:Nat):Value:=
 match v with
 | .slice (some ⟨b,off,_⟩) _ _=>.pointer (some ⟨b,off+j,none⟩)
 | _=>undef
def AtV (w:World) (v:Value) (j:Nat) (vs:List Value):Prop:=∃ b off n cap,v=.slice (some ⟨b,off,none⟩) n cap∧w.rangeAt b (off+j) vs
theorem Cs.at_ {T:TypeId} {w:World} {v:Value} {n:Nat} {ys:List Value} (h:Cs T w v n ys) (hp:0<ys.length) (j:Nat) (vs:List Value) (hv:(ys.drop j).take vs.length=vs):AtV w v j vs:=by
 obtain ⟨ao,cap,rfl,h2,h3⟩:=h
 obtain ⟨b,off,cs,fr,rfl,e2,e3⟩:=h3 hp
 refine ⟨b,off,_,_,rfl,fun i u hi=>?_⟩
 have hi':i<vs.length:=(List.getElem?_eq_some_iff.1 hi).1
 have h1:((ys.drop j).take vs.length)[i]?=vs[i]?:=by rw [hv]
 rw [List.getElem?_take_of_lt hi',List.getElem?_drop,hi] at h1
 rw [cells_of e2,Nat.add_assoc,e3 (j+i) (List.getElem?_eq_some_iff.1 h1).1]
 exact h1
def Sl (E:World→α→List Value→Prop) (T:TypeId) (c:Nat) (w:World) (v:Value) (xs:List α):Prop:=∃ ys,Cs T w v xs.length ys∧Els E c w ys xs
theorem Sl.kts {E:World→α→List Value→Prop} {ts:List TypeId} {T:TypeId} {c:Nat} {w w':World} {v:Value} {xs:List α} (h:Sl E T c w v xs) (hS:Stab E ts) (k:Kts (T::ts) w w'):Sl E T c w' v xs:=by
 obtain ⟨ys,h1,h2⟩:=h
 exact ⟨ys,h1.kt (k T (by simp)),h2.kts hS (fun t ht=>k t (by simp [ht]))⟩
theorem Sl.gr {E:World→α→List Value→Prop} {ts:List TypeId} {T:TypeId} {c:Nat} {w w':World} {v:Value} {xs:List α} (h:Sl E T c w v xs) (hS:Stab E ts) (g:Gr w w'):Sl E T c w' v xs:=h.kts hS (g.kts _)
theorem Sl.mono {E F:World→α→List Value→Prop} {T:TypeId} {c:Nat} {w:World} {v:Value} {xs:List α} (h:Sl E T c w v xs) (hf:∀ x vs,E w x vs→F w x vs):Sl F T c w v xs:=by
 obtain ⟨ys,h1,h2⟩:=h
 exact ⟨ys,h1,h2.mono hf⟩
theorem Sl.form {E:World→α→List Value→Prop} {T:TypeId} {c:Nat} {w:World} {v:Value} {xs:List α} (h:Sl E T c w v xs):∃ ao cap,v=.slice ao xs.length cap∧xs.length≤cap:=by
 obtain ⟨ys,⟨ao,cap,h1,h2,_⟩,_⟩:=h
 exact ⟨ao,cap,h1,h2⟩
theorem Sl.one {E:World→α→List Value→Prop} {T:TypeId} {c:Nat} {w:World} {v:Value} {xs:List α} (h:Sl E T c w v xs):v.oneCell'=true:=by
 obtain ⟨ao,cap,rfl,_⟩:=h.form;rfl
theorem Sl.nil (E:World→α→List Value→Prop) (T:TypeId) (c:Nat) (w:World) (ao:Option Addr) (cap:Nat):Sl E T c w (.slice ao 0 cap) ([]:List α):=
 ⟨[],⟨ao,cap,rfl,Nat.zero_le _,fun h=>by simp at h⟩,Els.nil ..⟩
theorem Sl.get {E:World→α→List Value→Prop} {T:TypeId} {c:Nat} {w:World} {v:Value} {xs:List α} (h:Sl E T c w v xs) (hc:0<c) {i:Nat} {x:α} (hx:xs[i]?=some x):∃ vs,vs.length=c∧E w x vs∧AtV w v (i*c) vs:=by
 obtain ⟨ys,h1,h2⟩:=h
 have hi:=(List.getElem?_eq_some_iff.1 hx).1
 have hle:i*c+c≤ys.length:=by
  rw [h2.1]
  have:=Nat.mul_le_mul_right c (show i+1≤xs.length by omega)
  rw [Nat.add_mul] at this;omega
 have hl:((ys.drop (i*c)).take c).length=c:=by rw [List.length_take,List.length_drop];omega
 exact ⟨_,hl,h2.2 i x hx,h1.at_ (by omega) _ _ (by rw [hl])⟩
theorem Sl.adr_some {E:World→α→List Value→Prop} {T:TypeId} {c:Nat} {w:World} {v:Value} {xs:List α} (h:Sl E T c w v xs) (hc:0<c) (hp:0<xs.length):∃ b off cap,v=.slice (some ⟨b,off,none⟩) xs.length cap:=by
 obtain ⟨ys,⟨ao,cap,h1,h2,h3⟩,h4⟩:=h
 obtain ⟨b,off,cs,fr,e1,_⟩:=h3 (by rw [h4.1];exact Nat.mul_pos hp hc)
 exact ⟨b,off,cap,by rw [h1,e1]⟩

variable {P:Program} {a:Act} {o:Oper} {w:World} {Q:Exit→Act→World→Prop} {K:Act→World→Prop} {ops:Array Oper}
theorem rv_len {E:World→α→List Value→Prop} {T:TypeId} {c:Nat} {v:Value} {xs:List α} {w0:World} (h:Sl E T c w0 v xs) (x:Operand) (t:TypeId) (hop:o.op=.call {callee:=.builtin .len,args:=#[x],argTypes:=#[t]}) (hx:a.eval x=v) {e:TypeId} (hu:P.underlying t=some (.slice e)):
  RunV P a o w (.int .i64 (xs.length:Int)):=by
 obtain ⟨ao,cap,rfl,_⟩:=h.form
 unfold RunV
 generalize a.eval=ev at*
 unfold execOp
 simp only [hop]
 simp [hx,go_sem,Builtin.len_,run_underlying hu,goInt]
theorem rv_idx {E:World→α→List Value→Prop} {T:TypeId} {c:Nat} {v:Value} {xs:List α} {w0:World} (h:Sl E T c w0 v xs) (hc:0<c) (i:Nat) (hi:i<xs.length) (t:TypeId) (x y:Operand) (hop:o.op=.indexAddr t x y) (hx:a.eval x=v) (hy:a.eval y=.int .i64 (i:Int))
  {e:TypeId} (hu:P.underlying t=some (.slice e)) (hs:(P.info? e).map (·.size)=some c):RunV P a o w (adr v (i*c)):=by
 obtain ⟨b,off,cap,rfl⟩:=h.adr_some hc (by omega)
 obtain ⟨j,hj,hsz⟩:=Option.map_eq_some_iff.1 hs
 unfold RunV execOp
 simp only [hop,hx,hy]
 have h1:(0:Int)≤(i:Int)∧(i:Int)<(xs.length:Int):=by omega
 by_cases h0:i*c=0<;>simp [Instr.indexAt,asIntOf,run_underlying hu,sizeOf,typeInfo,hj,hsz,h1,hi,h0,adr,Addr.add]
theorem rv_ldn (vs:List Value) {v:Value} {j:Nat} (h:AtV w v j vs) (t:TypeId) (x:Operand) (hop:o.op=.load t x) (hx:a.eval x=adr v j) (hs:aggSize P t=some vs.length):RunV P a o w (.agg vs.toArray):=by
 obtain ⟨b,off,n,cap,rfl,hr⟩:=h
 have hx':a.eval x=.pointer (some ⟨b,off+j,none⟩):=hx
 unfold aggSize at hs
 unfold RunV
 cases hd:P.underlying t with
 | none=>rw [hd] at hs;cases hs
 | some d=>
  rw [hd] at hs
  have hrow:d.isRow=true∧(P.info? t).map (·.size)=some vs.length:=by
   cases d<;>first | cases hs | exact ⟨rfl,hs⟩
  unfold execOp
  simp only [hop,hx',Instr.loadAt,Instr.sureAddr,Sem.run_bind,Sem.run_pure,Result.andThen_ok,run_loadVar_mid w b (off+j) t vs d hr hd hrow.1 hrow.2]
def Mk (E:World→α→List Value→Prop) (T:TypeId) (c:Nat) (w:World) (b:Nat) (xs:List α):Prop:=∃ ys:List Value,Lc w b ys.toArray T∧Els E c w ys xs
theorem Mk.kts {E:World→α→List Value→Prop} {ts:List TypeId} {T:TypeId} {c:Nat} {w w':World} {b:Nat} {xs:List α} (h:Mk E T c w b xs) (hS:Stab E ts) (k:Kts (T::ts) w w'):Mk E T c w' b xs:=by
 obtain ⟨ys,h1,h2⟩:=h
 exact ⟨ys,k T (by simp) _ _ _ h1,h2.kts hS (fun t ht=>k t (by simp [ht]))⟩
theorem Mk.gr {E:World→α→List Value→Prop} {ts:List TypeId} {T:TypeId} {c:Nat} {w w':World} {b:Nat} {xs:List α} (h:Mk E T c w b xs) (hS:Stab E ts) (g:Gr w w'):Mk E T c w' b xs:=h.kts hS (g.kts _)
theorem Mk.lt {E:World→α→List Value→Prop} {T:TypeId} {c:Nat} {w:World} {b:Nat} {xs:List α} (h:Mk E T c w b xs):b<w.heap.size:=by
 obtain ⟨ys,h1,_⟩:=h;exact h1.lt
theorem Mk.sl {E:World→α→List Value→Prop} {T:TypeId} {c:Nat} {w:World} {b:Nat} {xs:List α} (h:Mk E T c w b xs) {cap:Nat} (hc:xs.length≤cap):Sl E T c w (.slice (some ⟨b,0,none⟩) xs.length cap) xs:=by
 obtain ⟨ys,h1,h2⟩:=h
 exact ⟨ys,⟨_,cap,rfl,hc,fun _=>⟨b,0,_,_,rfl,h1,fun j _=>by simp⟩⟩,h2⟩
theorem getD_some {d:α} {i:Nat} {xs:List α} (h:i<xs.length):xs[i]?=some (xs.getD i d):=by simp [h]
theorem AtV.gr {w w':World} {v:Value} {j:Nat} {vs:List Value} (h:AtV w v j vs) (g:Gr w w'):AtV w' v j vs:=by
 obtain ⟨b,off,n,cap,e,hr⟩:=h
 refine ⟨b,off,n,cap,e,fun i u hi=>?_⟩
 have h1:=hr i u hi
 rw [← h1]
 exact Below.cell g (p:=⟨b,off+j+i,none⟩) (World.block_lt_of_cell? w _ h1)
theorem writeAt_list:∀ (vs:List Value) (off:Nat) (ys:List Value),off+vs.length≤ys.length→writeAt ys.toArray off vs=(ys.take off++vs++ys.drop (off+vs.length)).toArray
 | [],off,ys,_=>by simp [writeAt]
 | v::vs,off,ys,h=>by
  simp only [List.length_cons] at h
  rw [writeAt,List.setIfInBounds_toArray,writeAt_list vs (off+1) (ys.set off v) (by simp;omega)]
  congr 1
  have h1:(ys.set off v).take (off+1)=ys.take off++[v]:=by
   rw [List.take_add_one,List.take_set_of_le (Nat.le_refl _),List.getElem?_set_self (by omega)];rfl
  have h2:(ys.set off v).drop (off+1+vs.length)=ys.drop (off+(vs.length+1)):=by
   rw [List.drop_set_of_lt (by omega)];congr 1;omega
  rw [h1,h2];simp
def Ow (E:World→α→List Value→Prop) (T:TypeId) (c:Nat) (w:World) (B:Nat) (v:Value) (xs:List α):Prop:=∃ ys,w.ownsRow B T c v xs.length ys∧Els E c w ys xs
theorem ownsRow_gr {w w':World} {B T c n:Nat} {v:Value} {ys:List Value} (h:w.ownsRow B T c v n ys) (k:Kt T w w'):w'.ownsRow B T c v n ys:=by
 refine ⟨h.1,?_⟩
 rcases h.2 with hn | ⟨g,cap,cur,rfl,hb,hg,hr⟩
 ·exact .inl hn
 ·exact .inr ⟨g,cap,cur,rfl,hb,k _ _ _ hg,hr⟩
theorem Ow.kts {E:World→α→List Value→Prop} {ts:List TypeId} {T:TypeId} {c B:Nat} {w w':World} {v:Value} {xs:List α} (h:Ow E T c w B v xs) (hS:Stab E ts) (k:Kts (T::ts) w w'):Ow E T c w' B v xs:=by
 obtain ⟨ys,h1,h2⟩:=h
 exact ⟨ys,ownsRow_gr h1 (k T (by simp)),h2.kts hS (fun t ht=>k t (by simp [ht]))⟩
theorem Ow.gr {E:World→α→List Value→Prop} {ts:List TypeId} {T:TypeId} {c B:Nat} {w w':World} {v:Value} {xs:List α} (h:Ow E T c w B v xs) (hS:Stab E ts) (g:Gr w w'):Ow E T c w' B v xs:=h.kts hS (g.kts _)
theorem Ow.nil (E:World→α→List Value→Prop) (T:TypeId) (c:Nat) (w:World) (B:Nat):Ow E T c w B (.slice none 0 0) ([]:List α):=⟨[],World.ownsRow_nil ..,Els.nil ..⟩
theorem Ow.one {E:World→α→List Value→Prop} {T:TypeId} {c B:Nat} {w:World} {v:Value} {xs:List α} (h:Ow E T c w B v xs):v.oneCell'=true:=by
 obtain ⟨ys,h1,_⟩:=h
 rcases h1.2 with ⟨rfl,_⟩ | ⟨g,cap,cur,rfl,_⟩<;>rfl
theorem Ow.sl {E:World→α→List Value→Prop} {T:TypeId} {c B:Nat} {w:World} {v:Value} {xs:List α} (h:Ow E T c w B v xs):Sl E T c w v xs:=by
 obtain ⟨ys,h1,h2⟩:=h
 refine ⟨ys,?_,h2⟩
 rcases h1.2 with ⟨rfl,hn⟩ | ⟨g,cap,cur,rfl,hb,hg,h3,h4,h5,h6⟩
 ·refine ⟨none,0,by rw [hn],by omega,fun hp=>?_⟩
  rw [h2.1,hn] at hp;simp at hp
 ·refine ⟨_,cap,rfl,h3,fun _=>⟨g,0,cur,_,rfl,hg,fun j hj=>?_⟩⟩
  rw [h2.1] at hj
  have:(cur.toList.take (xs.length*c))[j]?=ys[j]?:=by rw [h6]
  rw [List.getElem?_take_of_lt hj] at this
  rw [Nat.zero_add,← this];simp
def OwNe (v:Value) (b:Nat):Prop:=∀ g n cap,v=.slice (some ⟨g,0,none⟩) n cap→g≠b
theorem Ow.ne {E:World→α→List Value→Prop} {T:TypeId} {c B b:Nat} {w:World} {v:Value} {xs:List α} (h:Ow E T c w B v xs) (hb:w.heap.size≤b):OwNe v b:=by
 obtain ⟨ys,h1,_⟩:=h
 intro g n cap e
 rcases h1.2 with ⟨hn,_⟩ | ⟨g',cap',cur,he,_,hg,_⟩
 ·rw [hn] at e;cases e
 ·rw [he] at e;cases e
  have:=heap_lt hg
  omega
theorem Ow.st {E:World→α→List Value→Prop} {ts:List TypeId} {T:TypeId} {c B b:Nat} {w w':World} {v:Value} {xs:List α} (h:Ow E T c w B v xs) (hS:Stab E ts) (st:St w w' b) (hn:OwNe v b) (k:Kts ts w w'):Ow E T c w' B v xs:=by
 obtain ⟨ys,h1,h2⟩:=h
 refine ⟨ys,⟨h1.1,?_⟩,h2.kts hS k⟩
 rcases h1.2 with hv | ⟨g,cap,cur,rfl,hb,hg,hr⟩
 ·exact .inl hv
 ·exact .inr ⟨g,cap,cur,rfl,hb,by rw [st.block g (hn g _ _ rfl)];exact hg,hr⟩
theorem Ow.mono {E:World→α→List Value→Prop} {T:TypeId} {c B C:Nat} {w:World} {v:Value} {xs:List α} (h:Ow E T c w B v xs) (hC:C≤B):Ow E T c w C v xs:=by
 obtain ⟨ys,h1,h2⟩:=h
 refine ⟨ys,⟨h1.1,?_⟩,h2⟩
 rcases h1.2 with hn | ⟨g,cap,cur,rfl,hb,hg,hr⟩
 ·exact .inl hn
 ·exact .inr ⟨g,cap,cur,rfl,Nat.le_trans hC hb,hg,hr⟩
theorem eff_app {E:World→α→List Value→Prop} {ts:List TypeId} (hS:Stab E ts) (s x:Operand) (t:TypeId) (T B:Nat) (z:Value) (v:Value) (xs:List α) (b:Nat) (us:List Value) (x0:α) (c cx:Nat) (d:Option Tmp) (bytes:Nat) (hd:o.dst=d)
  (ho:o.op=.call {callee:=.builtin .append,args:=#[s,x],argTypes:=#[t,t]}) (hs:a.eval s=v) (hx:a.eval x=.slice (some ⟨b,0,none⟩) 1 cx)
  (hown:Ow E T c w B v xs) (hL:Lc w b us.toArray T) (hu:One1 us) (hl:us.length=c) (hE:E w x0 us) (w0:World) (hB:Gr w0 w) (aa:w0.heap.size≤B) (hBw:B≤w.heap.size) (hn:xs.length≤1000000) (hbytes:bytes≤1000)
  (ht:P.underlying t=some (.slice T)) (hi:(P.info? T).map (fun i=>(i.zero,i.size,i.bytes))=some (some z,c,bytes)) (hzs:z.cells.size=c∧0<c) (hT:(ts.all fun t=>t !=T)=true)
  (h:∀ v' w',Ow E T c w' B v' (xs++[x0])→Wt T w w'→Gr w0 w'→K (a.put d v') w'):o.wp P a w K Q:=by
 subst hd
 obtain ⟨ys,hown,hEl⟩:=hown
 obtain ⟨i,hi,hz,hsize,hby⟩:=info_parts hi
 have ab:(xs.length+1)*bytes≤1000001*1000:=Nat.mul_le_mul (by omega) hbytes
 refine wp_append_own w s x t ho B T i z c bytes ht hi hz hsize hby hzs.1 hzs.2 v xs.length ys hs hown ⟨b,0,none⟩ 1 cx us hx (by omega) (fun j y hj=>?_) hu.all (by unfold maxLen;omega) (by omega) hBw ?_
 ·have e:(⟨b,0,none⟩:Addr).add j=⟨b,j,none⟩:=by by_cases h0:j=0<;>simp [Addr.add,h0]
  rw [e,cells_of hL];simpa using hj
 ·intro v' w' h2 hg _
  have hown':=hown
  have hnew:∀ k,v.ownBlock=some k→B≤k∧∃ cur,w.heap[k]?=some (.cells cur T (0,0)):=by
   intro k hk
   rcases hown'.2 with ⟨rfl,_⟩ | ⟨g,cap,cur,rfl,hb,hgg,_⟩
   ·simp [Value.ownBlock] at hk
   ·simp [Value.ownBlock] at hk
    subst hk;exact ⟨hb,cur,hgg⟩
  have hwt:Wt T w w':=⟨hg.os,hg.tape,hg.output,hg.size,fun k cs t fr ht hk=>by
   rw [hg.block k (heap_lt hk) (fun e=>?_)]
   ·exact hk
   ·obtain ⟨_,cur,hc⟩:=hnew k e.symm
    rw [hk] at hc
    simp only [Option.some.injEq,Obj.cells.injEq] at hc
    exact ht hc.2.1⟩
  refine h v' w' ⟨_,by simpa using h2,(hEl.snoc hl hE).kts hS (hwt.kts hT)⟩ hwt ?_
  refine Below.trans hB ⟨hg.os,hg.tape,hg.output,hg.size,fun k hk=>hg.block k (Nat.lt_of_lt_of_le hk hB.size) (fun e=>?_)⟩
  have:=(hnew k e.symm).1
  omega
theorem Sl.cases {E:World→α→List Value→Prop} {T:TypeId} {c:Nat} {w:World} {v:Value} {xs:List α} (h:Sl E T c w v xs) (hc:0<c):xs=[]∨0<xs.length∧∃ b off cap,v=.slice (some ⟨b,off,none⟩) xs.length cap:=by
 cases xs with
 | nil=>exact .inl rfl
 | cons x xs=>exact .inr ⟨by simp,h.adr_some hc (by simp)⟩
end
def ERat (k:Nat) (w:World) (q:Rat) (vs:List Value):Prop:=∃ c0 c1 c2 c3,vs=[c0,c1,c2,c3]∧IsRat w k c0 c1 c2 c3 q
theorem ERat.mono {k m:Nat} {w:World} {q:Rat} {vs:List Value} (h:ERat k w q vs) (hk:k≤m):ERat m w q vs:=by
 obtain ⟨c0,c1,c2,c3,e,hq⟩:=h
 exact ⟨c0,c1,c2,c3,e,hq.mono hk⟩
end Go.Proofs.YtaldbfflkpgfoaaGreatDoor
/- The walk's steps within a round of a range over a function. -/
namespace Go.Proofs.YtaldbfflkpgfoaaGreatDoor
open Go.RowKit

structure WideF (F:Fence):Prop where
 fn:∀ f,F.fn f
 depth:F.depth=none
 calls:∀ {n:Nat} {P:Program} {f:FuncId} {args:Array Value} {w:World} {R:Ending→World→Prop},Calls P f args w R→CallsIn F n P f args w R
 rows:∀ {n:Nat} {P:Program} {row:String} {args:Array Value} {w:World} {R:Value→World→Prop},Rows P row args w R→RowsIn F n P row args w R
theorem wide_wide:WideF Fence.wide:=
 ⟨fun _=>trivial,rfl,fun h=>callsIn_wide.2 h,fun h c cs _=>let ⟨v,w',r,s⟩:=h c cs;⟨v,w',r,stepsIn_wide.2 s⟩⟩
theorem wide_round (l:Nat):WideF (Fence.wide.inRound l):=
 ⟨fun _=>trivial,rfl,fun h=>CallsIn.inRound l (callsIn_wide.2 h),fun h=>wide_wide.rows h⟩
def nodefer (o:Oper):Bool:=match o.op with | .defer _=>false | _=>true
section
variable {P:Program} {F:Fence} {n:Nat} {a:Act} {o:Oper} {w:World} {Q:Exit→Act→World→Prop} {K:Act→World→Prop} {ops:Array Oper}
theorem semAt_nodefer (h:nodefer o=true):o.semAt F.round a.eval=execOp a.eval o:=
 Oper.semAt_eq _ _ _ (fun c e=>by unfold nodefer at h;rw [e] at h;cases h)
theorem opIn (hF:WideF F) (hd:nodefer o=true) (h:o.wp P a w K Q):o.wpIn F n P a w K Q:=by
 refine ⟨fun f _=>hF.fn f,?_⟩
 rw [semAt_nodefer hd]
 unfold Oper.wp at h
 have hdep:F.depth.isSome=true→1≤n:=by rw [hF.depth];intro e;cases e
 generalize (execOp a.eval o).run P w=r at*
 cases r with
 | ok x w'=>
  cases x with
  | value v=>exact h
  | skip=>exact h
  | defer d=>exact h
  | enter f args=>exact ⟨hdep,(hF.calls h).mono fun e w2 he=>by cases e<;>exact he⟩
  | row row args=>exact ⟨hdep,hF.rows h⟩
  | _=>exact h.elim
 | halt x w'=>cases x<;>first | exact h | exact h.elim
theorem wpOpsIn_of (hF:WideF F) (hd:ops.all nodefer=true) (hQ:¬ LetsOut Q):∀ (r:List Nat) (a:Act) (w:World),wpOps P ops Q r a w→wpOpsIn F n P ops Q r a w
 | [],_,_,h=>h
 | i::rest,a,w,h=>by
  unfold wpOps at h
  unfold wpOpsIn
  cases ho:ops[i]? with
  | none=>rw [ho] at h;exact wpOpsIn_of hF hd hQ rest a w h
  | some o=>
   rw [ho] at h
   dsimp only at h ⊢
   have hdo:nodefer o=true:=by
    obtain ⟨hi,e⟩:=Array.getElem?_eq_some_iff.1 ho
    have:=Array.all_eq_true.1 hd i hi
    rw [e] at this;exact this
   split
   ·next hw=>
    rw [if_pos hw] at h
    rcases h with h | ⟨_,h⟩
    ·exact opIn hF hdo (Oper.wp_mono (fun a w h=>wpOpsIn_of hF hd hQ rest a w h) h)
    ·exact absurd h hQ
   ·next hw=>
    rw [if_neg hw] at h
    exact ⟨fun f _=>hF.fn f,wpOpsIn_of hF hd hQ rest _ w h⟩
theorem rgI (hF:WideF F) {id:Nat} (r:List Nat) (h:wpOps P ops Q r a w) (hr:List.range ops.size=r:=by rfl) (hd:ops.all nodefer=true:=by kernel_rfl) (hQ:¬ LetsOut Q:=by rintro ⟨_,_,h⟩;exact h):(Code.region id ops false).wpIn F n P Q a w:=
 wpIn_region (by rw [hr];exact wpOpsIn_of hF hd hQ r a w h)
theorem ordI (hF:WideF F) {id:Nat} (S:World→Prop) (l:List (Bool × Nat)) (hm:P.follows .mixedOrders=true) (hs:Region.noSelect ops=true)
  (hok:okOrd ops l (Array.replicate ops.size false)=true) (hl:l.length≤ops.size) (hQ:∀ c (a:Act) (d:Tmp) v w,Q (.panic c) (a.put (some d) v) w→Q (.panic c) a w) (hS:S w.drew)
  (h:wpOrd P ops Q S l a w.drew) (hd:ops.all nodefer=true:=by kernel_rfl) (aa:¬ LetsOut Q:=by rintro ⟨_,_,h⟩;exact h):(Code.region id ops true).wpIn F n P Q a w:=
 wpIn_region_draw fun t=>by
  simp only [Region.schedule,hm,Bool.true_or,if_true]
  exact wpOpsIn_of hF hd aa _ _ _ (wpAny_sound ops.size t _ a _ (wpAny_of_held _ _ _ _ (wpOrd_sound hs hQ l _ _ _ _ hl hok hS h)))
variable {l:List Value} {ds:List Deferred}
theorem rgY {id:Nat} (r:List Nat) (h:wpOpsIn F n P ops Q r a w) (hr:List.range ops.size=r:=by rfl):(Code.region id ops false).wpIn F n P Q a w:=wpIn_region (by rw [hr];exact h)
theorem svY (hF:WideF F) {i:Nat} {rest:List Nat} (d:Nat) (v:Value) (h:wpOpsIn F n P ops Q rest ⟨(l.set d v).toArray,ds⟩ w) (ho:ops[i]?=some o:=by rfl) (hd:o.dst=some d:=by rfl) (hw:Region.wanted o (yielded ops (⟨l.toArray,ds⟩:Act).tmps)=true:=by kernel_rfl)
  (hv:(execOp (⟨l.toArray,ds⟩:Act).eval o).run P w=.ok (.value v) w:=by kernel_rfl) (hnd:nodefer o=true:=by kernel_rfl):wpOpsIn F n P ops Q (i::rest) ⟨l.toArray,ds⟩ w:=by
 unfold wpOpsIn
 simp only [ho,hw,if_true]
 refine opIn hF hnd ?_
 unfold Oper.wp
 rw [hv]
 show wpOpsIn F n P ops Q rest ((⟨l.toArray,ds⟩:Act).put o.dst v) w
 rw [hd,putl];exact h
theorem swY (hF:WideF F) {i:Nat} {rest:List Nat} (d:Nat) (v:Value) (ho:ops[i]?=some o) (hv:RunV P ⟨l.toArray,ds⟩ o w v) (h:wpOpsIn F n P ops Q rest ⟨(l.set d v).toArray,ds⟩ w) (hd:o.dst=some d:=by rfl) (hw:Region.wanted o (yielded ops (⟨l.toArray,ds⟩:Act).tmps)=true:=by kernel_rfl)
  (hnd:nodefer o=true:=by kernel_rfl):wpOpsIn F n P ops Q (i::rest) ⟨l.toArray,ds⟩ w:=svY hF d v h ho hd hw hv hnd
theorem nilY (h:Q .normal a w):wpOpsIn F n P ops Q [] a w:=h
theorem setCell_new (w:World) (cs:Array Value) (t:TypeId) (off:Nat) (v:Value):(w.alloc (.cells cs t)).setCell ⟨w.heap.size,off,none⟩ v=w.alloc (.cells (cs.setIfInBounds off v) t):=by
 have e:∀ f:Obj→Obj,f (.cells cs t)=.cells (cs.setIfInBounds off v) t→(w.heap.push (.cells cs t)).modify w.heap.size f=w.heap.push (.cells (cs.setIfInBounds off v) t):=fun f hf=>by
  apply Array.ext_getElem?
  intro i
  rw [Array.getElem?_modify]
  by_cases h:w.heap.size=i
  ·subst h;simp [hf]
  ·rw [if_neg h,Array.getElem?_push,Array.getElem?_push]
   rw [if_neg (fun e=>h e.symm),if_neg (fun e=>h e.symm)]
 unfold World.setCell World.alloc
 simp only []
 rw [e _ rfl]
theorem setCells_new (w:World) (t:TypeId):∀ (vs:List Value) (cs:Array Value) (off:Nat),(w.alloc (.cells cs t)).setCells w.heap.size off vs=w.alloc (.cells (writeAt cs off vs) t)
 | [],_,_=>rfl
 | v::vs,cs,off=>by
  show ((w.alloc (.cells cs t)).setCell ⟨w.heap.size,off,none⟩ v).setCells w.heap.size (off+1) vs=_
  rw [setCell_new,setCells_new w t vs];rfl
theorem alstY (hF:WideF F) {i j:Nat} {rest:List Nat} {o2:Oper} {y:Operand} (d t:Nat) (z:Value) (vs:List Value) (h:wpOpsIn F n P ops Q rest ⟨(l.set d (.pointer (some ⟨w.heap.size,0,none⟩))).toArray,ds⟩ (w.alloc (.cells vs.toArray t)))
  (h1:One1 vs) (ho:ops[i]?=some o:=by rfl) (ae:ops[j]?=some o2:=by rfl) (hd:o.dst=some d:=by rfl) (hop:o.op=.alloc t:=by rfl) (ab:o2.op=.store t (.tmp d) y:=by rfl) (ad:o2.dst=none:=by rfl)
  (hw:Region.wanted o (yielded ops (⟨l.toArray,ds⟩:Act).tmps)=true:=by kernel_rfl) (ac:∀ p,Region.wanted o2 (yielded ops (⟨(l.set d p).toArray,ds⟩:Act).tmps)=true:=by intro p;rfl)
  (hx:∀ p,(⟨(l.set d p).toArray,ds⟩:Act).eval (.tmp d)=p:=by intro p;rfl) (hy:∀ p,(⟨(l.set d p).toArray,ds⟩:Act).eval y=.agg vs.toArray:=by intro p;rfl)
  (hz:(P.info? t).map (fun i=>(i.zero,i.size))=some (some z,vs.length):=by kernel_rfl) (hzs:z.cells.size=vs.length:=by rfl) (hnd:nodefer o=true:=by kernel_rfl) (aa:nodefer o2=true:=by kernel_rfl):wpOpsIn F n P ops Q (i::j::rest) ⟨l.toArray,ds⟩ w:=by
 obtain ⟨info,hi,hzz⟩:=Option.map_eq_some_iff.1 hz
 simp only [Prod.mk.injEq] at hzz
 unfold wpOpsIn
 simp only [ho,hw,if_true]
 refine opIn hF hnd ?_
 unfold Oper.wp execOp
 simp only [hop,Instr.alloc,zeroValue,typeInfo,newVar,Sem.run_bind,run_newRow,Result.andThen_ok,Sem.run_pure,run_program,hi,hzz.1]
 show wpOpsIn F n P ops Q (j::rest) ((⟨l.toArray,ds⟩:Act).put o.dst _) _
 rw [hd,putl]
 unfold wpOpsIn
 simp only [ae,ac,if_true]
 refine opIn hF aa ?_
 have hL:Lc (w.alloc (.cells z.cells t)) w.heap.size z.cells t:=heap_alloc_new w _
 have hrun:(storeVar t ⟨w.heap.size,0,none⟩ (.agg vs.toArray)).run P (w.alloc (.cells z.cells t))=.ok () (w.alloc (.cells vs.toArray t)):=by
  have h3:=run_storeCells_cells (P:=P) w.heap.size 0 vs 0 (w.alloc (.cells z.cells t)) (fun j hj=>by rw [Nat.add_zero,cells_of hL];simp;omega) (fun j hj=>free_of hL _) h1.all
  simp only [Nat.add_zero] at h3
  rw [setCells_new] at h3
  have e:writeAt z.cells 0 vs=vs.toArray:=by
   have h4:=writeAt_list vs 0 z.cells.toList (by simp;omega)
   rw [Array.toArray_toList] at h4
   rw [h4]
   simp [hzs]
  rw [e] at h3
  have hc:(Value.agg vs.toArray).cells=vs.toArray:=rfl
  simp [storeVar,sizeOf,typeInfo,hi,hzz.2,hc,h3]
 unfold Oper.wp execOp
 simp only [ab,hx,hy,Instr.storeAt,Instr.sureAddr,Sem.run_bind,Sem.run_pure,Result.andThen_ok,hrun,Oper.upon,ad,Act.put]
 exact h
theorem yldY (hF:WideF F) {i:Nat} {rest:List Nat} (d ll:Nat) {args:Array Value} {R:Ending→World→Prop} (hy:YieldAt F (n - 1) P ll args w R) (h:∀ e w',R e w'→∃ v,e=.returned v∧wpOpsIn F n P ops Q rest ⟨(l.set d v).toArray,ds⟩ w')
  (ho:ops[i]?=some o) (hd:o.dst=some d) (hw:Region.wanted o (yielded ops (⟨l.toArray,ds⟩:Act).tmps)=true)
  (hv:(execOp (⟨l.toArray,ds⟩:Act).eval o).run P w=(Instr.yield ll args).run P w) (hnd:nodefer o=true:=by kernel_rfl):wpOpsIn F n P ops Q (i::rest) ⟨l.toArray,ds⟩ w:=by
 unfold wpOpsIn
 simp only [ho,hw,if_true]
 obtain ⟨fn,tmps,assign,body,hrun,hR⟩:=hy
 refine ⟨fun f _=>hF.fn f,?_⟩
 rw [semAt_nodefer hnd,hv,hrun]
 refine ⟨(by rw [hF.depth];intro e;cases e),hR.mono fun e w' he=>?_⟩
 obtain ⟨v,rfl,hk⟩:=h e w' he
 show wpOpsIn F n P ops Q rest ((⟨l.toArray,ds⟩:Act).put o.dst v) w'
 rw [hd,putl];exact hk
end
end Go.Proofs.YtaldbfflkpgfoaaGreatDoor
/- Printed by a program of the prover's:the iterator over the entries of a motion. -/
namespace Go.Proofs.YtaldbfflkpgfoaaGreatDoor
open Go.RowKit

def encs (L:List Value) (k:Fin 12):Array Value:=#[.int .i64 (k.val:Int),.agg #[L.getD (4*k.val) undef,L.getD (4*k.val+1) undef,L.getD (4*k.val+2) undef,L.getD (4*k.val+3) undef]]
def all12:List (Fin 12):=[0,1,2,3,4,5,6,7,8,9,10,11]
set_option maxRecDepth 100000 in
set_option maxHeartbeats 4000000 in
theorem ent_stops (n bm:Nat) (c0 c1 c2 c3 c4 c5 c6 c7 c8 c9 aF ay aD aa ae aA ap av al aL ai aC aJ ah ab aj aO aB aP ax aK ad ak aQ aG af aH aR au aq az aN ar aI aw aM aE ac:Value) (o0:c0.oneCell'=true) (o1:c1.oneCell'=true) (o2:c2.oneCell'=true) (o3:c3.oneCell'=true) (o4:c4.oneCell'=true) (o5:c5.oneCell'=true) (o6:c6.oneCell'=true) (o7:c7.oneCell'=true) (o8:c8.oneCell'=true) (o9:c9.oneCell'=true) (eU:aF.oneCell'=true) (du:ay.oneCell'=true) (d9:aD.oneCell'=true) (de:aa.oneCell'=true) (eT:ae.oneCell'=true) (cF:aA.oneCell'=true) (dF:ap.oneCell'=true) (eP:av.oneCell'=true) (di:al.oneCell'=true) (cP:aL.oneCell'=true) (cQ:ai.oneCell'=true) (eK:aC.oneCell'=true) (cX:aJ.oneCell'=true) (cO:ah.oneCell'=true) (dA:ab.oneCell'=true) (eN:aj.oneCell'=true) (cZ:aO.oneCell'=true) (dn:aB.oneCell'=true) (cL:aP.oneCell'=true) (dW:ax.oneCell'=true) (dN:aK.oneCell'=true) (dp:ad.oneCell'=true) (ef:ak.oneCell'=true) (eI:aQ.oneCell'=true) (cR:aG.oneCell'=true) (eJ:af.oneCell'=true) (dt:aH.oneCell'=true) (cS:aR.oneCell'=true) (cN:au.oneCell'=true) (d8:aq.oneCell'=true) (dL:az.oneCell'=true) (eO:aN.oneCell'=true) (ei:ar.oneCell'=true) (dE:aI.oneCell'=true) (eh:aw.oneCell'=true) (dM:aM.oneCell'=true) (d6:aE.oneCell'=true) (eF:ac.oneCell'=true) (w:World) (dI:Lc w bm #[c0,c1,c2,c3,c4,c5,c6,c7,c8,c9,aF,ay,aD,aa,ae,aA,ap,av,al,aL,ai,aC,aJ,ah,ab,aj,aO,aB,aP,ax,aK,ad,ak,aQ,aG,af,aH,aR,au,aq,az,aN,ar,aI,aw,aM,aE,ac] 41):
    SeqStopsA Fence.wide n Tryz.prog 98 #[.pointer (some ⟨bm,0,none⟩)] (encs [c0,c1,c2,c3,c4,c5,c6,c7,c8,c9,aF,ay,aD,aa,ae,aA,ap,av,al,aL,ai,aC,aJ,ah,ab,aj,aO,aB,aP,ax,aK,ad,ak,aQ,aG,af,aH,aR,au,aq,az,aN,ar,aI,aw,aM,aE,ac]) (fun xs=>xs=all12) (fun pre=>∃ k,pre=all12.take k) 12 w:=fun l J Jx W hW hJ hJx hY fF=>by
  have hL:Lc W bm #[c0,c1,c2,c3,c4,c5,c6,c7,c8,c9,aF,ay,aD,aa,ae,aA,ap,av,al,aL,ai,aC,aJ,ah,ab,aj,aO,aB,aP,ax,aK,ad,ak,aQ,aG,af,aH,aR,au,aq,az,aN,ar,aI,aw,aM,aE,ac] 41:=by
    have:=hW.block bm dI.lt
    unfold Lc at*
    rw [this];exact dI
  refine callsIn_of_wp Tryz.func98 rfl trivial ?_ rfl
  simp only [Tryz.ntmps98,List.size_toArray,List.length_cons,List.length_nil,Nat.reduceAdd,Nat.reduceSub,Array.replicate_succ,Array.replicate_zero,List.push_toArray,List.append_toArray,List.nil_append,List.cons_append]
  refine wpIn_seq_k (fun K1 k1=>?_)
  refine rgY [0] ?_
  refine svY wide_wide 3 (.int .i64 0) ?_
  try simp only [p3,p4]
  refine nilY ?_
  refine k1 _ _ ?_
  try clear k1 K1
  refine wpIn_seq_k (fun K2 k2=>?_)
  refine rgY [0,1,2,3,4,5,6,7,8,9,10,11,12] ?_
  refine svY wide_wide 8 (.pointer (some ⟨bm,0,none⟩)) ?_
  try simp only [p3,p4]
  refine svY wide_wide 9 (.pointer (some ⟨bm,0,none⟩)) ?_
  try simp only [p3,p4]
  refine swY wide_wide 10 (.agg #[c0,c1,c2,c3,c4,c5,c6,c7,c8,c9,aF,ay]) rfl (rl 38 0 [c0,c1,c2,c3,c4,c5,c6,c7,c8,c9,aF,ay] hL) ?_
  try simp only [p3,p4]
  refine svY wide_wide 11 (.pointer (some ⟨bm,0,none⟩)) ?_
  try simp only [p3,p4]
  refine svY wide_wide 12 (.pointer (some ⟨bm,12,none⟩)) ?_
  try simp only [p3,p4]
  refine swY wide_wide 13 (.agg #[aD,aa,ae,aA,ap,av,al,aL,ai,aC,aJ,ah]) rfl (rl 38 12 [aD,aa,ae,aA,ap,av,al,aL,ai,aC,aJ,ah] hL) ?_
  try simp only [p3,p4]
  refine svY wide_wide 14 (.pointer (some ⟨bm,0,none⟩)) ?_
  try simp only [p3,p4]
  refine svY wide_wide 15 (.pointer (some ⟨bm,24,none⟩)) ?_
  try simp only [p3,p4]
  refine swY wide_wide 16 (.agg #[ab,aj,aO,aB,aP,ax,aK,ad,ak,aQ,aG,af]) rfl (rl 38 24 [ab,aj,aO,aB,aP,ax,aK,ad,ak,aQ,aG,af] hL) ?_
  try simp only [p3,p4]
  refine svY wide_wide 17 (.pointer (some ⟨bm,36,none⟩)) ?_
  try simp only [p3,p4]
  refine swY wide_wide 18 (.agg #[aH,aR,au,aq,az,aN,ar,aI,aw,aM,aE,ac]) rfl (rl 38 36 [aH,aR,au,aq,az,aN,ar,aI,aw,aM,aE,ac] hL) ?_
  try simp only [p3,p4]
  refine svY wide_wide 19 (.agg #[c0,c1,c2,c3,c4,c5,c6,c7,c8,c9,aF,ay,aD,aa,ae,aA,ap,av,al,aL,ai,aC,aJ,ah,ab,aj,aO,aB,aP,ax,aK,ad,ak,aQ,aG,af,aH,aR,au,aq,az,aN,ar,aI,aw,aM,aE,ac]) ?_
  try simp only [p3,p4]
  refine svY wide_wide 20 (.int .i64 0) ?_
  try simp only [p3,p4]
  refine nilY ?_
  refine k2 _ _ ?_
  try clear k2 K2
  refine wpIn_block ?_
  refine wpIn_loop_rounds 5 ?_
  show Code.wpIn _ _ _ _ _ _ _
  refine wpIn_seq_k (fun K3 k3=>?_)
  refine rgY [0] ?_
  refine svY wide_wide 21 (.bool true) ?_
  try simp only [p3,p4]
  refine nilY ?_
  refine k3 _ _ ?_
  try clear k3 K3
  refine wpIn_seq_k (fun K4 k4=>?_)
  refine wpIn_cond_true rfl ?_
  refine wpIn_skip ?_
  refine k4 _ _ ?_
  try clear k4 K4
  refine wpIn_seq_k (fun K5 k5=>?_)
  refine wpIn_block ?_
  refine wpIn_seq_k (fun K6 k6=>?_)
  refine rgY [0,1,2] ?_
  refine svY wide_wide 22 (.agg #[c0,c1,c2,c3,c4,c5,c6,c7,c8,c9,aF,ay]) ?_
  try simp only [p3,p4]
  refine alstY wide_wide 5 38 (.agg #[(.bool false),(.slice none 0 0),(.bool false),(.slice none 0 0),(.bool false),(.slice none 0 0),(.bool false),(.slice none 0 0),(.bool false),(.slice none 0 0),(.bool false),(.slice none 0 0)]) [c0,c1,c2,c3,c4,c5,c6,c7,c8,c9,aF,ay] ?_ ⟨o0,o1,o2,o3,o4,o5,o6,o7,o8,o9,eU,du,trivial⟩
  have dq:=hJ _ _ _ none fF (World.grownBy_alloc W (.cells [c0,c1,c2,c3,c4,c5,c6,c7,c8,c9,aF,ay].toArray 38) none) (fun r e=>by cases e)
  have L7:Lc _ _ #[c0,c1,c2,c3,c4,c5,c6,c7,c8,c9,aF,ay] 38:=heap_alloc_new W (.cells [c0,c1,c2,c3,c4,c5,c6,c7,c8,c9,aF,ay].toArray 38)
  generalize W.alloc (.cells [c0,c1,c2,c3,c4,c5,c6,c7,c8,c9,aF,ay].toArray 38)=w7 at dq L7 ⊢
  try simp only [p3,p4]
  refine nilY ?_
  refine k6 _ _ ?_
  try clear k6 K6
  refine wpIn_seq_k (fun K8 k8=>?_)
  refine rgY [0,1] ?_
  refine swY wide_wide 23 (.agg #[c0,c1,c2,c3,c4,c5,c6,c7,c8,c9,aF,ay]) rfl (rl 38 0 [c0,c1,c2,c3,c4,c5,c6,c7,c8,c9,aF,ay] L7) ?_
  try simp only [p3,p4]
  refine svY wide_wide 24 (.int .i64 0) ?_
  try simp only [p3,p4]
  refine nilY ?_
  refine k8 _ _ ?_
  try clear k8 K8
  refine wpIn_block ?_
  refine wpIn_loop_rounds 5 ?_
  show Code.wpIn _ _ _ _ _ _ _
  refine wpIn_seq_k (fun K9 k9=>?_)
  refine rgY [0] ?_
  refine svY wide_wide 25 (.bool true) ?_
  try simp only [p3,p4]
  refine nilY ?_
  refine k9 _ _ ?_
  try clear k9 K9
  refine wpIn_seq_k (fun f0 ed=>?_)
  refine wpIn_cond_true rfl ?_
  refine wpIn_skip ?_
  refine ed _ _ ?_
  try clear ed f0
  refine wpIn_seq_k (fun eW dT=>?_)
  refine wpIn_block ?_
  refine wpIn_seq_k (fun fi db=>?_)
  refine rgY [0,1,2] ?_
  refine svY wide_wide 26 (.agg #[c0,c1,c2,c3]) ?_
  try simp only [p3,p4]
  refine alstY wide_wide 7 36 (.agg #[(.bool false),(.slice none 0 0),(.bool false),(.slice none 0 0)]) [c0,c1,c2,c3] ?_ ⟨o0,o1,o2,o3,trivial⟩
  have bd:=hJ _ _ _ none dq (World.grownBy_alloc w7 (.cells [c0,c1,c2,c3].toArray 36) none) (fun r e=>by cases e)
  have dX:Lc _ _ #[c0,c1,c2,c3] 36:=heap_alloc_new w7 (.cells [c0,c1,c2,c3].toArray 36)
  generalize w7.alloc (.cells [c0,c1,c2,c3].toArray 36)=w13 at bd dX ⊢
  try simp only [p3,p4]
  refine nilY ?_
  refine db _ _ ?_
  try clear db fi
  refine wpIn_seq_k (fun fa cM=>?_)
  refine wpIn_seq_k (fun dl bO=>?_)
  refine rgY [0,1,2,3,4] ?_
  refine svY wide_wide 27 (.func (.yield l) #[] #[]) ?_
  try simp only [p3,p4]
  refine svY wide_wide 28 (.int .i64 0) ?_
  try simp only [p3,p4]
  refine swY wide_wide 29 (.agg #[c0,c1,c2,c3]) rfl (rl 36 0 [c0,c1,c2,c3] dX) ?_
  try simp only [p3,p4]
  refine yldY wide_wide 30 l (hY [] 0 _ bd (by decide)) ?_ rfl rfl (by kernel_rfl) (by kernel_rfl)
  rintro gl ct (⟨rfl,hJ16,_⟩ | ⟨rfl,hx16⟩)
  ·refine ⟨_,rfl,?_⟩
   try simp only [p3,p4]
   refine svY wide_wide 31 (.bool false) ?_
   try simp only [p3,p4]
   refine nilY ?_
   refine bO _ _ ?_
   try clear bO dl
   refine wpIn_cond_false rfl ?_
   refine wpIn_skip ?_
   refine cM _ _ ?_
   try clear cM fa
   refine rgY [0,1,2] ?_
   refine svY wide_wide 32 (.int .i64 0) ?_
   try simp only [p3,p4]
   refine svY wide_wide 33 (.int .i64 1) ?_
   try simp only [p3,p4]
   refine svY wide_wide 3 (.int .i64 1) ?_
   try simp only [p3,p4]
   refine nilY ?_
   refine dT _ _ ?_
   try clear dT eW
   refine rgY [0,1] ?_
   refine svY wide_wide 34 (.int .i64 1) ?_
   try simp only [p3,p4]
   refine svY wide_wide 24 (.int .i64 1) ?_
   try simp only [p3,p4]
   refine nilY ?_
   show Code.roundsIn _ _ _ _ _ _ _ _
   show Code.wpIn _ _ _ _ _ _ _
   refine wpIn_seq_k (fun fB d1=>?_)
   refine rgY [0] ?_
   refine svY wide_wide 25 (.bool true) ?_
   try simp only [p3,p4]
   refine nilY ?_
   refine d1 _ _ ?_
   try clear d1 fB
   refine wpIn_seq_k (fun fW ez=>?_)
   refine wpIn_cond_true rfl ?_
   refine wpIn_skip ?_
   refine ez _ _ ?_
   try clear ez fW
   refine wpIn_seq_k (fun e0 dQ=>?_)
   refine wpIn_block ?_
   refine wpIn_seq_k (fun fC dD=>?_)
   refine rgY [0,1,2] ?_
   refine svY wide_wide 26 (.agg #[c4,c5,c6,c7]) ?_
   try simp only [p3,p4]
   refine alstY wide_wide 7 36 (.agg #[(.bool false),(.slice none 0 0),(.bool false),(.slice none 0 0)]) [c4,c5,c6,c7] ?_ ⟨o4,o5,o6,o7,trivial⟩
   have bk:=hJ _ _ _ none hJ16 (World.grownBy_alloc ct (.cells [c4,c5,c6,c7].toArray 36) none) (fun r e=>by cases e)
   have cV:Lc _ _ #[c4,c5,c6,c7] 36:=heap_alloc_new ct (.cells [c4,c5,c6,c7].toArray 36)
   generalize ct.alloc (.cells [c4,c5,c6,c7].toArray 36)=w21 at bk cV ⊢
   try simp only [p3,p4]
   refine nilY ?_
   refine dD _ _ ?_
   try clear dD fC
   refine wpIn_seq_k (fun eX em=>?_)
   refine wpIn_seq_k (fun cE bQ=>?_)
   refine rgY [0,1,2,3,4] ?_
   refine svY wide_wide 27 (.func (.yield l) #[] #[]) ?_
   try simp only [p3,p4]
   refine svY wide_wide 28 (.int .i64 1) ?_
   try simp only [p3,p4]
   refine swY wide_wide 29 (.agg #[c4,c5,c6,c7]) rfl (rl 36 0 [c4,c5,c6,c7] cV) ?_
   try simp only [p3,p4]
   refine yldY wide_wide 30 l (hY [0] 1 _ bk (by decide)) ?_ rfl rfl (by kernel_rfl) (by kernel_rfl)
   rintro gj cB (⟨rfl,hJ24,_⟩ | ⟨rfl,hx24⟩)
   ·refine ⟨_,rfl,?_⟩
    try simp only [p3,p4]
    refine svY wide_wide 31 (.bool false) ?_
    try simp only [p3,p4]
    refine nilY ?_
    refine bQ _ _ ?_
    try clear bQ cE
    refine wpIn_cond_false rfl ?_
    refine wpIn_skip ?_
    refine em _ _ ?_
    try clear em eX
    refine rgY [0,1,2] ?_
    refine svY wide_wide 32 (.int .i64 1) ?_
    try simp only [p3,p4]
    refine svY wide_wide 33 (.int .i64 2) ?_
    try simp only [p3,p4]
    refine svY wide_wide 3 (.int .i64 2) ?_
    try simp only [p3,p4]
    refine nilY ?_
    refine dQ _ _ ?_
    try clear dQ e0
    refine rgY [0,1] ?_
    refine svY wide_wide 34 (.int .i64 2) ?_
    try simp only [p3,p4]
    refine svY wide_wide 24 (.int .i64 2) ?_
    try simp only [p3,p4]
    refine nilY ?_
    show Code.roundsIn _ _ _ _ _ _ _ _
    show Code.wpIn _ _ _ _ _ _ _
    refine wpIn_seq_k (fun fM dv=>?_)
    refine rgY [0] ?_
    refine svY wide_wide 25 (.bool true) ?_
    try simp only [p3,p4]
    refine nilY ?_
    refine dv _ _ ?_
    try clear dv fM
    refine wpIn_seq_k (fun fg dw=>?_)
    refine wpIn_cond_true rfl ?_
    refine wpIn_skip ?_
    refine dw _ _ ?_
    try clear dw fg
    refine wpIn_seq_k (fun fq eG=>?_)
    refine wpIn_block ?_
    refine wpIn_seq_k (fun fO ex=>?_)
    refine rgY [0,1,2] ?_
    refine svY wide_wide 26 (.agg #[c8,c9,aF,ay]) ?_
    try simp only [p3,p4]
    refine alstY wide_wide 7 36 (.agg #[(.bool false),(.slice none 0 0),(.bool false),(.slice none 0 0)]) [c8,c9,aF,ay] ?_ ⟨o8,o9,eU,du,trivial⟩
    have bi:=hJ _ _ _ none hJ24 (World.grownBy_alloc cB (.cells [c8,c9,aF,ay].toArray 36) none) (fun r e=>by cases e)
    have dh:Lc _ _ #[c8,c9,aF,ay] 36:=heap_alloc_new cB (.cells [c8,c9,aF,ay].toArray 36)
    generalize cB.alloc (.cells [c8,c9,aF,ay].toArray 36)=w29 at bi dh ⊢
    try simp only [p3,p4]
    refine nilY ?_
    refine ex _ _ ?_
    try clear ex fO
    refine wpIn_seq_k (fun fb ee=>?_)
    refine wpIn_seq_k (fun dV bP=>?_)
    refine rgY [0,1,2,3,4] ?_
    refine svY wide_wide 27 (.func (.yield l) #[] #[]) ?_
    try simp only [p3,p4]
    refine svY wide_wide 28 (.int .i64 2) ?_
    try simp only [p3,p4]
    refine swY wide_wide 29 (.agg #[c8,c9,aF,ay]) rfl (rl 36 0 [c8,c9,aF,ay] dh) ?_
    try simp only [p3,p4]
    refine yldY wide_wide 30 l (hY [0,1] 2 _ bi (by decide)) ?_ rfl rfl (by kernel_rfl) (by kernel_rfl)
    rintro e32 b9 (⟨rfl,hJ32,_⟩ | ⟨rfl,hx32⟩)
    ·refine ⟨_,rfl,?_⟩
     try simp only [p3,p4]
     refine svY wide_wide 31 (.bool false) ?_
     try simp only [p3,p4]
     refine nilY ?_
     refine bP _ _ ?_
     try clear bP dV
     refine wpIn_cond_false rfl ?_
     refine wpIn_skip ?_
     refine ee _ _ ?_
     try clear ee fb
     refine rgY [0,1,2] ?_
     refine svY wide_wide 32 (.int .i64 2) ?_
     try simp only [p3,p4]
     refine svY wide_wide 33 (.int .i64 3) ?_
     try simp only [p3,p4]
     refine svY wide_wide 3 (.int .i64 3) ?_
     try simp only [p3,p4]
     refine nilY ?_
     refine eG _ _ ?_
     try clear eG fq
     refine rgY [0,1] ?_
     refine svY wide_wide 34 (.int .i64 3) ?_
     try simp only [p3,p4]
     refine svY wide_wide 24 (.int .i64 3) ?_
     try simp only [p3,p4]
     refine nilY ?_
     show Code.roundsIn _ _ _ _ _ _ _ _
     show Code.wpIn _ _ _ _ _ _ _
     refine wpIn_seq_k (fun eZ dk=>?_)
     refine rgY [0] ?_
     refine svY wide_wide 25 (.bool false) ?_
     try simp only [p3,p4]
     refine nilY ?_
     refine dk _ _ ?_
     try clear dk eZ
     refine wpIn_seq_k (fun f9 gi=>?_)
     refine wpIn_cond_false rfl ?_
     refine wpIn_exit ?_
     simp only [Exit.then,Exit.inBlock,↓reduceIte]
     refine k5 _ _ ?_
     try clear k5 K5
     refine rgY [0,1] ?_
     refine svY wide_wide 35 (.int .i64 1) ?_
     try simp only [p3,p4]
     refine svY wide_wide 20 (.int .i64 1) ?_
     try simp only [p3,p4]
     refine nilY ?_
     show Code.roundsIn _ _ _ _ _ _ _ _
     show Code.wpIn _ _ _ _ _ _ _
     refine wpIn_seq_k (fun e3 dd=>?_)
     refine rgY [0] ?_
     refine svY wide_wide 21 (.bool true) ?_
     try simp only [p3,p4]
     refine nilY ?_
     refine dd _ _ ?_
     try clear dd e3
     refine wpIn_seq_k (fun f4 d2=>?_)
     refine wpIn_cond_true rfl ?_
     refine wpIn_skip ?_
     refine d2 _ _ ?_
     try clear d2 f4
     refine wpIn_seq_k (fun fu d5=>?_)
     refine wpIn_block ?_
     refine wpIn_seq_k (fun fN eM=>?_)
     refine rgY [0,1,2] ?_
     refine svY wide_wide 22 (.agg #[aD,aa,ae,aA,ap,av,al,aL,ai,aC,aJ,ah]) ?_
     try simp only [p3,p4]
     refine alstY wide_wide 5 38 (.agg #[(.bool false),(.slice none 0 0),(.bool false),(.slice none 0 0),(.bool false),(.slice none 0 0),(.bool false),(.slice none 0 0),(.bool false),(.slice none 0 0),(.bool false),(.slice none 0 0)]) [aD,aa,ae,aA,ap,av,al,aL,ai,aC,aJ,ah] ?_ ⟨d9,de,eT,cF,dF,eP,di,cP,cQ,eK,cX,cO,trivial⟩
     have bc:=hJ _ _ _ none hJ32 (World.grownBy_alloc b9 (.cells [aD,aa,ae,aA,ap,av,al,aL,ai,aC,aJ,ah].toArray 38) none) (fun r e=>by cases e)
     have dm:Lc _ _ #[aD,aa,ae,aA,ap,av,al,aL,ai,aC,aJ,ah] 38:=heap_alloc_new b9 (.cells [aD,aa,ae,aA,ap,av,al,aL,ai,aC,aJ,ah].toArray 38)
     generalize b9.alloc (.cells [aD,aa,ae,aA,ap,av,al,aL,ai,aC,aJ,ah].toArray 38)=cn at bc dm ⊢
     try simp only [p3,p4]
     refine nilY ?_
     refine eM _ _ ?_
     try clear eM fN
     refine wpIn_seq_k (fun fJ eu=>?_)
     refine rgY [0,1] ?_
     refine swY wide_wide 23 (.agg #[aD,aa,ae,aA,ap,av,al,aL,ai,aC,aJ,ah]) rfl (rl 38 0 [aD,aa,ae,aA,ap,av,al,aL,ai,aC,aJ,ah] dm) ?_
     try simp only [p3,p4]
     refine svY wide_wide 24 (.int .i64 0) ?_
     try simp only [p3,p4]
     refine nilY ?_
     refine eu _ _ ?_
     try clear eu fJ
     refine wpIn_block ?_
     refine wpIn_loop_rounds 5 ?_
     show Code.wpIn _ _ _ _ _ _ _
     refine wpIn_seq_k (fun fU ek=>?_)
     refine rgY [0] ?_
     refine svY wide_wide 25 (.bool true) ?_
     try simp only [p3,p4]
     refine nilY ?_
     refine ek _ _ ?_
     try clear ek fU
     refine wpIn_seq_k (fun fT eB=>?_)
     refine wpIn_cond_true rfl ?_
     refine wpIn_skip ?_
     refine eB _ _ ?_
     try clear eB fT
     refine wpIn_seq_k (fun e6 dy=>?_)
     refine wpIn_block ?_
     refine wpIn_seq_k (fun fS dK=>?_)
     refine rgY [0,1,2] ?_
     refine svY wide_wide 26 (.agg #[aD,aa,ae,aA]) ?_
     try simp only [p3,p4]
     refine alstY wide_wide 7 36 (.agg #[(.bool false),(.slice none 0 0),(.bool false),(.slice none 0 0)]) [aD,aa,ae,aA] ?_ ⟨d9,de,eT,cF,trivial⟩
     have a2:=hJ _ _ _ none bc (World.grownBy_alloc cn (.cells [aD,aa,ae,aA].toArray 36) none) (fun r e=>by cases e)
     have dB:Lc _ _ #[aD,aa,ae,aA] 36:=heap_alloc_new cn (.cells [aD,aa,ae,aA].toArray 36)
     generalize cn.alloc (.cells [aD,aa,ae,aA].toArray 36)=w45 at a2 dB ⊢
     try simp only [p3,p4]
     refine nilY ?_
     refine dK _ _ ?_
     try clear dK fS
     refine wpIn_seq_k (fun fd eo=>?_)
     refine wpIn_seq_k (fun cU bS=>?_)
     refine rgY [0,1,2,3,4] ?_
     refine svY wide_wide 27 (.func (.yield l) #[] #[]) ?_
     try simp only [p3,p4]
     refine svY wide_wide 28 (.int .i64 3) ?_
     try simp only [p3,p4]
     refine swY wide_wide 29 (.agg #[aD,aa,ae,aA]) rfl (rl 36 0 [aD,aa,ae,aA] dB) ?_
     try simp only [p3,p4]
     refine yldY wide_wide 30 l (hY [0,1,2] 3 _ a2 (by decide)) ?_ rfl rfl (by kernel_rfl) (by kernel_rfl)
     rintro f8 bY (⟨rfl,hJ48,_⟩ | ⟨rfl,hx48⟩)
     ·refine ⟨_,rfl,?_⟩
      try simp only [p3,p4]
      refine svY wide_wide 31 (.bool false) ?_
      try simp only [p3,p4]
      refine nilY ?_
      refine bS _ _ ?_
      try clear bS cU
      refine wpIn_cond_false rfl ?_
      refine wpIn_skip ?_
      refine eo _ _ ?_
      try clear eo fd
      refine rgY [0,1,2] ?_
      refine svY wide_wide 32 (.int .i64 3) ?_
      try simp only [p3,p4]
      refine svY wide_wide 33 (.int .i64 4) ?_
      try simp only [p3,p4]
      refine svY wide_wide 3 (.int .i64 4) ?_
      try simp only [p3,p4]
      refine nilY ?_
      refine dy _ _ ?_
      try clear dy e6
      refine rgY [0,1] ?_
      refine svY wide_wide 34 (.int .i64 1) ?_
      try simp only [p3,p4]
      refine svY wide_wide 24 (.int .i64 1) ?_
      try simp only [p3,p4]
      refine nilY ?_
      show Code.roundsIn _ _ _ _ _ _ _ _
      show Code.wpIn _ _ _ _ _ _ _
      refine wpIn_seq_k (fun f2 en=>?_)
      refine rgY [0] ?_
      refine svY wide_wide 25 (.bool true) ?_
      try simp only [p3,p4]
      refine nilY ?_
      refine en _ _ ?_
      try clear en f2
      refine wpIn_seq_k (fun fL cW=>?_)
      refine wpIn_cond_true rfl ?_
      refine wpIn_skip ?_
      refine cW _ _ ?_
      try clear cW fL
      refine wpIn_seq_k (fun fR eS=>?_)
      refine wpIn_block ?_
      refine wpIn_seq_k (fun fs dO=>?_)
      refine rgY [0,1,2] ?_
      refine svY wide_wide 26 (.agg #[ap,av,al,aL]) ?_
      try simp only [p3,p4]
      refine alstY wide_wide 7 36 (.agg #[(.bool false),(.slice none 0 0),(.bool false),(.slice none 0 0)]) [ap,av,al,aL] ?_ ⟨dF,eP,di,cP,trivial⟩
      have bE:=hJ _ _ _ none hJ48 (World.grownBy_alloc bY (.cells [ap,av,al,aL].toArray 36) none) (fun r e=>by cases e)
      have dx:Lc _ _ #[ap,av,al,aL] 36:=heap_alloc_new bY (.cells [ap,av,al,aL].toArray 36)
      generalize bY.alloc (.cells [ap,av,al,aL].toArray 36)=w53 at bE dx ⊢
      try simp only [p3,p4]
      refine nilY ?_
      refine dO _ _ ?_
      try clear dO fs
      refine wpIn_seq_k (fun fh cJ=>?_)
      refine wpIn_seq_k (fun eA bT=>?_)
      refine rgY [0,1,2,3,4] ?_
      refine svY wide_wide 27 (.func (.yield l) #[] #[]) ?_
      try simp only [p3,p4]
      refine svY wide_wide 28 (.int .i64 4) ?_
      try simp only [p3,p4]
      refine swY wide_wide 29 (.agg #[ap,av,al,aL]) rfl (rl 36 0 [ap,av,al,aL] dx) ?_
      try simp only [p3,p4]
      refine yldY wide_wide 30 l (hY [0,1,2,3] 4 _ bE (by decide)) ?_ rfl rfl (by kernel_rfl) (by kernel_rfl)
      rintro gk b4 (⟨rfl,hJ56,_⟩ | ⟨rfl,hx56⟩)
      ·refine ⟨_,rfl,?_⟩
       try simp only [p3,p4]
       refine svY wide_wide 31 (.bool false) ?_
       try simp only [p3,p4]
       refine nilY ?_
       refine bT _ _ ?_
       try clear bT eA
       refine wpIn_cond_false rfl ?_
       refine wpIn_skip ?_
       refine cJ _ _ ?_
       try clear cJ fh
       refine rgY [0,1,2] ?_
       refine svY wide_wide 32 (.int .i64 4) ?_
       try simp only [p3,p4]
       refine svY wide_wide 33 (.int .i64 5) ?_
       try simp only [p3,p4]
       refine svY wide_wide 3 (.int .i64 5) ?_
       try simp only [p3,p4]
       refine nilY ?_
       refine eS _ _ ?_
       try clear eS fR
       refine rgY [0,1] ?_
       refine svY wide_wide 34 (.int .i64 2) ?_
       try simp only [p3,p4]
       refine svY wide_wide 24 (.int .i64 2) ?_
       try simp only [p3,p4]
       refine nilY ?_
       show Code.roundsIn _ _ _ _ _ _ _ _
       show Code.wpIn _ _ _ _ _ _ _
       refine wpIn_seq_k (fun f1 ew=>?_)
       refine rgY [0] ?_
       refine svY wide_wide 25 (.bool true) ?_
       try simp only [p3,p4]
       refine nilY ?_
       refine ew _ _ ?_
       try clear ew f1
       refine wpIn_seq_k (fun fG eV=>?_)
       refine wpIn_cond_true rfl ?_
       refine wpIn_skip ?_
       refine eV _ _ ?_
       try clear eV fG
       refine wpIn_seq_k (fun e1 dS=>?_)
       refine wpIn_block ?_
       refine wpIn_seq_k (fun fQ er=>?_)
       refine rgY [0,1,2] ?_
       refine svY wide_wide 26 (.agg #[ai,aC,aJ,ah]) ?_
       try simp only [p3,p4]
       refine alstY wide_wide 7 36 (.agg #[(.bool false),(.slice none 0 0),(.bool false),(.slice none 0 0)]) [ai,aC,aJ,ah] ?_ ⟨cQ,eK,cX,cO,trivial⟩
       have bt:=hJ _ _ _ none hJ56 (World.grownBy_alloc b4 (.cells [ai,aC,aJ,ah].toArray 36) none) (fun r e=>by cases e)
       have dG:Lc _ _ #[ai,aC,aJ,ah] 36:=heap_alloc_new b4 (.cells [ai,aC,aJ,ah].toArray 36)
       generalize b4.alloc (.cells [ai,aC,aJ,ah].toArray 36)=w61 at bt dG ⊢
       try simp only [p3,p4]
       refine nilY ?_
       refine er _ _ ?_
       try clear er fQ
       refine wpIn_seq_k (fun f6 eQ=>?_)
       refine wpIn_seq_k (fun dj bM=>?_)
       refine rgY [0,1,2,3,4] ?_
       refine svY wide_wide 27 (.func (.yield l) #[] #[]) ?_
       try simp only [p3,p4]
       refine svY wide_wide 28 (.int .i64 5) ?_
       try simp only [p3,p4]
       refine swY wide_wide 29 (.agg #[ai,aC,aJ,ah]) rfl (rl 36 0 [ai,aC,aJ,ah] dG) ?_
       try simp only [p3,p4]
       refine yldY wide_wide 30 l (hY [0,1,2,3,4] 5 _ bt (by decide)) ?_ rfl rfl (by kernel_rfl) (by kernel_rfl)
       rintro gd cD (⟨rfl,hJ64,_⟩ | ⟨rfl,hx64⟩)
       ·refine ⟨_,rfl,?_⟩
        try simp only [p3,p4]
        refine svY wide_wide 31 (.bool false) ?_
        try simp only [p3,p4]
        refine nilY ?_
        refine bM _ _ ?_
        try clear bM dj
        refine wpIn_cond_false rfl ?_
        refine wpIn_skip ?_
        refine eQ _ _ ?_
        try clear eQ f6
        refine rgY [0,1,2] ?_
        refine svY wide_wide 32 (.int .i64 5) ?_
        try simp only [p3,p4]
        refine svY wide_wide 33 (.int .i64 6) ?_
        try simp only [p3,p4]
        refine svY wide_wide 3 (.int .i64 6) ?_
        try simp only [p3,p4]
        refine nilY ?_
        refine dS _ _ ?_
        try clear dS e1
        refine rgY [0,1] ?_
        refine svY wide_wide 34 (.int .i64 3) ?_
        try simp only [p3,p4]
        refine svY wide_wide 24 (.int .i64 3) ?_
        try simp only [p3,p4]
        refine nilY ?_
        show Code.roundsIn _ _ _ _ _ _ _ _
        show Code.wpIn _ _ _ _ _ _ _
        refine wpIn_seq_k (fun e2 dY=>?_)
        refine rgY [0] ?_
        refine svY wide_wide 25 (.bool false) ?_
        try simp only [p3,p4]
        refine nilY ?_
        refine dY _ _ ?_
        try clear dY e2
        refine wpIn_seq_k (fun gh ge=>?_)
        refine wpIn_cond_false rfl ?_
        refine wpIn_exit ?_
        simp only [Exit.then,Exit.inBlock,↓reduceIte]
        refine d5 _ _ ?_
        try clear d5 fu
        refine rgY [0,1] ?_
        refine svY wide_wide 35 (.int .i64 2) ?_
        try simp only [p3,p4]
        refine svY wide_wide 20 (.int .i64 2) ?_
        try simp only [p3,p4]
        refine nilY ?_
        show Code.roundsIn _ _ _ _ _ _ _ _
        show Code.wpIn _ _ _ _ _ _ _
        refine wpIn_seq_k (fun fx eC=>?_)
        refine rgY [0] ?_
        refine svY wide_wide 21 (.bool true) ?_
        try simp only [p3,p4]
        refine nilY ?_
        refine eC _ _ ?_
        try clear eC fx
        refine wpIn_seq_k (fun e5 eH=>?_)
        refine wpIn_cond_true rfl ?_
        refine wpIn_skip ?_
        refine eH _ _ ?_
        try clear eH e5
        refine wpIn_seq_k (fun ff dc=>?_)
        refine wpIn_block ?_
        refine wpIn_seq_k (fun e8 dJ=>?_)
        refine rgY [0,1,2] ?_
        refine svY wide_wide 22 (.agg #[ab,aj,aO,aB,aP,ax,aK,ad,ak,aQ,aG,af]) ?_
        try simp only [p3,p4]
        refine alstY wide_wide 5 38 (.agg #[(.bool false),(.slice none 0 0),(.bool false),(.slice none 0 0),(.bool false),(.slice none 0 0),(.bool false),(.slice none 0 0),(.bool false),(.slice none 0 0),(.bool false),(.slice none 0 0)]) [ab,aj,aO,aB,aP,ax,aK,ad,ak,aQ,aG,af] ?_ ⟨dA,eN,cZ,dn,cL,dW,dN,dp,ef,eI,cR,eJ,trivial⟩
        have bJ:=hJ _ _ _ none hJ64 (World.grownBy_alloc cD (.cells [ab,aj,aO,aB,aP,ax,aK,ad,ak,aQ,aG,af].toArray 38) none) (fun r e=>by cases e)
        have cG:Lc _ _ #[ab,aj,aO,aB,aP,ax,aK,ad,ak,aQ,aG,af] 38:=heap_alloc_new cD (.cells [ab,aj,aO,aB,aP,ax,aK,ad,ak,aQ,aG,af].toArray 38)
        generalize cD.alloc (.cells [ab,aj,aO,aB,aP,ax,aK,ad,ak,aQ,aG,af].toArray 38)=cm at bJ cG ⊢
        try simp only [p3,p4]
        refine nilY ?_
        refine dJ _ _ ?_
        try clear dJ e8
        refine wpIn_seq_k (fun fc dP=>?_)
        refine rgY [0,1] ?_
        refine swY wide_wide 23 (.agg #[ab,aj,aO,aB,aP,ax,aK,ad,ak,aQ,aG,af]) rfl (rl 38 0 [ab,aj,aO,aB,aP,ax,aK,ad,ak,aQ,aG,af] cG) ?_
        try simp only [p3,p4]
        refine svY wide_wide 24 (.int .i64 0) ?_
        try simp only [p3,p4]
        refine nilY ?_
        refine dP _ _ ?_
        try clear dP fc
        refine wpIn_block ?_
        refine wpIn_loop_rounds 5 ?_
        show Code.wpIn _ _ _ _ _ _ _
        refine wpIn_seq_k (fun eY ej=>?_)
        refine rgY [0] ?_
        refine svY wide_wide 25 (.bool true) ?_
        try simp only [p3,p4]
        refine nilY ?_
        refine ej _ _ ?_
        try clear ej eY
        refine wpIn_seq_k (fun fo df=>?_)
        refine wpIn_cond_true rfl ?_
        refine wpIn_skip ?_
        refine df _ _ ?_
        try clear df fo
        refine wpIn_seq_k (fun fy cT=>?_)
        refine wpIn_block ?_
        refine wpIn_seq_k (fun fz eD=>?_)
        refine rgY [0,1,2] ?_
        refine svY wide_wide 26 (.agg #[ab,aj,aO,aB]) ?_
        try simp only [p3,p4]
        refine alstY wide_wide 7 36 (.agg #[(.bool false),(.slice none 0 0),(.bool false),(.slice none 0 0)]) [ab,aj,aO,aB] ?_ ⟨dA,eN,cZ,dn,trivial⟩
        have bD:=hJ _ _ _ none bJ (World.grownBy_alloc cm (.cells [ab,aj,aO,aB].toArray 36) none) (fun r e=>by cases e)
        have d7:Lc _ _ #[ab,aj,aO,aB] 36:=heap_alloc_new cm (.cells [ab,aj,aO,aB].toArray 36)
        generalize cm.alloc (.cells [ab,aj,aO,aB].toArray 36)=w77 at bD d7 ⊢
        try simp only [p3,p4]
        refine nilY ?_
        refine eD _ _ ?_
        try clear eD fz
        refine wpIn_seq_k (fun fV dR=>?_)
        refine wpIn_seq_k (fun eR bN=>?_)
        refine rgY [0,1,2,3,4] ?_
        refine svY wide_wide 27 (.func (.yield l) #[] #[]) ?_
        try simp only [p3,p4]
        refine svY wide_wide 28 (.int .i64 6) ?_
        try simp only [p3,p4]
        refine swY wide_wide 29 (.agg #[ab,aj,aO,aB]) rfl (rl 36 0 [ab,aj,aO,aB] d7) ?_
        try simp only [p3,p4]
        refine yldY wide_wide 30 l (hY [0,1,2,3,4,5] 6 _ bD (by decide)) ?_ rfl rfl (by kernel_rfl) (by kernel_rfl)
        rintro gf b6 (⟨rfl,hJ80,_⟩ | ⟨rfl,hx80⟩)
        ·refine ⟨_,rfl,?_⟩
         try simp only [p3,p4]
         refine svY wide_wide 31 (.bool false) ?_
         try simp only [p3,p4]
         refine nilY ?_
         refine bN _ _ ?_
         try clear bN eR
         refine wpIn_cond_false rfl ?_
         refine wpIn_skip ?_
         refine dR _ _ ?_
         try clear dR fV
         refine rgY [0,1,2] ?_
         refine svY wide_wide 32 (.int .i64 6) ?_
         try simp only [p3,p4]
         refine svY wide_wide 33 (.int .i64 7) ?_
         try simp only [p3,p4]
         refine svY wide_wide 3 (.int .i64 7) ?_
         try simp only [p3,p4]
         refine nilY ?_
         refine cT _ _ ?_
         try clear cT fy
         refine rgY [0,1] ?_
         refine svY wide_wide 34 (.int .i64 1) ?_
         try simp only [p3,p4]
         refine svY wide_wide 24 (.int .i64 1) ?_
         try simp only [p3,p4]
         refine nilY ?_
         show Code.roundsIn _ _ _ _ _ _ _ _
         show Code.wpIn _ _ _ _ _ _ _
         refine wpIn_seq_k (fun fD eE=>?_)
         refine rgY [0] ?_
         refine svY wide_wide 25 (.bool true) ?_
         try simp only [p3,p4]
         refine nilY ?_
         refine eE _ _ ?_
         try clear eE fD
         refine wpIn_seq_k (fun e4 dC=>?_)
         refine wpIn_cond_true rfl ?_
         refine wpIn_skip ?_
         refine dC _ _ ?_
         try clear dC e4
         refine wpIn_seq_k (fun fj da=>?_)
         refine wpIn_block ?_
         refine wpIn_seq_k (fun fp dZ=>?_)
         refine rgY [0,1,2] ?_
         refine svY wide_wide 26 (.agg #[aP,ax,aK,ad]) ?_
         try simp only [p3,p4]
         refine alstY wide_wide 7 36 (.agg #[(.bool false),(.slice none 0 0),(.bool false),(.slice none 0 0)]) [aP,ax,aK,ad] ?_ ⟨cL,dW,dN,dp,trivial⟩
         have bz:=hJ _ _ _ none hJ80 (World.grownBy_alloc b6 (.cells [aP,ax,aK,ad].toArray 36) none) (fun r e=>by cases e)
         have et:Lc _ _ #[aP,ax,aK,ad] 36:=heap_alloc_new b6 (.cells [aP,ax,aK,ad].toArray 36)
         generalize b6.alloc (.cells [aP,ax,aK,ad].toArray 36)=w85 at bz et ⊢
         try simp only [p3,p4]
         refine nilY ?_
         refine dZ _ _ ?_
         try clear dZ fp
         refine wpIn_seq_k (fun fZ d0=>?_)
         refine wpIn_seq_k (fun dH bU=>?_)
         refine rgY [0,1,2,3,4] ?_
         refine svY wide_wide 27 (.func (.yield l) #[] #[]) ?_
         try simp only [p3,p4]
         refine svY wide_wide 28 (.int .i64 7) ?_
         try simp only [p3,p4]
         refine swY wide_wide 29 (.agg #[aP,ax,aK,ad]) rfl (rl 36 0 [aP,ax,aK,ad] et) ?_
         try simp only [p3,p4]
         refine yldY wide_wide 30 l (hY [0,1,2,3,4,5,6] 7 _ bz (by decide)) ?_ rfl rfl (by kernel_rfl) (by kernel_rfl)
         rintro gg cy (⟨rfl,hJ88,_⟩ | ⟨rfl,hx88⟩)
         ·refine ⟨_,rfl,?_⟩
          try simp only [p3,p4]
          refine svY wide_wide 31 (.bool false) ?_
          try simp only [p3,p4]
          refine nilY ?_
          refine bU _ _ ?_
          try clear bU dH
          refine wpIn_cond_false rfl ?_
          refine wpIn_skip ?_
          refine d0 _ _ ?_
          try clear d0 fZ
          refine rgY [0,1,2] ?_
          refine svY wide_wide 32 (.int .i64 7) ?_
          try simp only [p3,p4]
          refine svY wide_wide 33 (.int .i64 8) ?_
          try simp only [p3,p4]
          refine svY wide_wide 3 (.int .i64 8) ?_
          try simp only [p3,p4]
          refine nilY ?_
          refine da _ _ ?_
          try clear da fj
          refine rgY [0,1] ?_
          refine svY wide_wide 34 (.int .i64 2) ?_
          try simp only [p3,p4]
          refine svY wide_wide 24 (.int .i64 2) ?_
          try simp only [p3,p4]
          refine nilY ?_
          show Code.roundsIn _ _ _ _ _ _ _ _
          show Code.wpIn _ _ _ _ _ _ _
          refine wpIn_seq_k (fun fX d4=>?_)
          refine rgY [0] ?_
          refine svY wide_wide 25 (.bool true) ?_
          try simp only [p3,p4]
          refine nilY ?_
          refine d4 _ _ ?_
          try clear d4 fX
          refine wpIn_seq_k (fun fm eL=>?_)
          refine wpIn_cond_true rfl ?_
          refine wpIn_skip ?_
          refine eL _ _ ?_
          try clear eL fm
          refine wpIn_seq_k (fun fP el=>?_)
          refine wpIn_block ?_
          refine wpIn_seq_k (fun e7 ey=>?_)
          refine rgY [0,1,2] ?_
          refine svY wide_wide 26 (.agg #[ak,aQ,aG,af]) ?_
          try simp only [p3,p4]
          refine alstY wide_wide 7 36 (.agg #[(.bool false),(.slice none 0 0),(.bool false),(.slice none 0 0)]) [ak,aQ,aG,af] ?_ ⟨ef,eI,cR,eJ,trivial⟩
          have bg:=hJ _ _ _ none hJ88 (World.grownBy_alloc cy (.cells [ak,aQ,aG,af].toArray 36) none) (fun r e=>by cases e)
          have cY:Lc _ _ #[ak,aQ,aG,af] 36:=heap_alloc_new cy (.cells [ak,aQ,aG,af].toArray 36)
          generalize cy.alloc (.cells [ak,aQ,aG,af].toArray 36)=w93 at bg cY ⊢
          try simp only [p3,p4]
          refine nilY ?_
          refine ey _ _ ?_
          try clear ey e7
          refine wpIn_seq_k (fun fA cK=>?_)
          refine wpIn_seq_k (fun cH bR=>?_)
          refine rgY [0,1,2,3,4] ?_
          refine svY wide_wide 27 (.func (.yield l) #[] #[]) ?_
          try simp only [p3,p4]
          refine svY wide_wide 28 (.int .i64 8) ?_
          try simp only [p3,p4]
          refine swY wide_wide 29 (.agg #[ak,aQ,aG,af]) rfl (rl 36 0 [ak,aQ,aG,af] cY) ?_
          try simp only [p3,p4]
          refine yldY wide_wide 30 l (hY [0,1,2,3,4,5,6,7] 8 _ bg (by decide)) ?_ rfl rfl (by kernel_rfl) (by kernel_rfl)
          rintro ga cA (⟨rfl,hJ96,_⟩ | ⟨rfl,hx96⟩)
          ·refine ⟨_,rfl,?_⟩
           try simp only [p3,p4]
           refine svY wide_wide 31 (.bool false) ?_
           try simp only [p3,p4]
           refine nilY ?_
           refine bR _ _ ?_
           try clear bR cH
           refine wpIn_cond_false rfl ?_
           refine wpIn_skip ?_
           refine cK _ _ ?_
           try clear cK fA
           refine rgY [0,1,2] ?_
           refine svY wide_wide 32 (.int .i64 8) ?_
           try simp only [p3,p4]
           refine svY wide_wide 33 (.int .i64 9) ?_
           try simp only [p3,p4]
           refine svY wide_wide 3 (.int .i64 9) ?_
           try simp only [p3,p4]
           refine nilY ?_
           refine el _ _ ?_
           try clear el fP
           refine rgY [0,1] ?_
           refine svY wide_wide 34 (.int .i64 3) ?_
           try simp only [p3,p4]
           refine svY wide_wide 24 (.int .i64 3) ?_
           try simp only [p3,p4]
           refine nilY ?_
           show Code.roundsIn _ _ _ _ _ _ _ _
           show Code.wpIn _ _ _ _ _ _ _
           refine wpIn_seq_k (fun fI dU=>?_)
           refine rgY [0] ?_
           refine svY wide_wide 25 (.bool false) ?_
           try simp only [p3,p4]
           refine nilY ?_
           refine dU _ _ ?_
           try clear dU fI
           refine wpIn_seq_k (fun gc gb=>?_)
           refine wpIn_cond_false rfl ?_
           refine wpIn_exit ?_
           simp only [Exit.then,Exit.inBlock,↓reduceIte]
           refine dc _ _ ?_
           try clear dc ff
           refine rgY [0,1] ?_
           refine svY wide_wide 35 (.int .i64 3) ?_
           try simp only [p3,p4]
           refine svY wide_wide 20 (.int .i64 3) ?_
           try simp only [p3,p4]
           refine nilY ?_
           show Code.roundsIn _ _ _ _ _ _ _ _
           show Code.wpIn _ _ _ _ _ _ _
           refine wpIn_seq_k (fun fH ep=>?_)
           refine rgY [0] ?_
           refine svY wide_wide 21 (.bool true) ?_
           try simp only [p3,p4]
           refine nilY ?_
           refine ep _ _ ?_
           try clear ep fH
           refine wpIn_seq_k (fun b8 bK=>?_)
           refine wpIn_cond_true rfl ?_
           refine wpIn_skip ?_
           refine bK _ _ ?_
           try clear bK b8
           refine wpIn_seq_k (fun ce bx=>?_)
           refine wpIn_block ?_
           refine wpIn_seq_k (fun ck a6=>?_)
           refine rgY [0,1,2] ?_
           refine svY wide_wide 22 (.agg #[aH,aR,au,aq,az,aN,ar,aI,aw,aM,aE,ac]) ?_
           try simp only [p3,p4]
           refine alstY wide_wide 5 38 (.agg #[(.bool false),(.slice none 0 0),(.bool false),(.slice none 0 0),(.bool false),(.slice none 0 0),(.bool false),(.slice none 0 0),(.bool false),(.slice none 0 0),(.bool false),(.slice none 0 0)]) [aH,aR,au,aq,az,aN,ar,aI,aw,aM,aE,ac] ?_ ⟨dt,cS,cN,d8,dL,eO,ei,dE,eh,dM,d6,eF,trivial⟩
           have aW:=hJ _ _ _ none hJ96 (World.grownBy_alloc cA (.cells [aH,aR,au,aq,az,aN,ar,aI,aw,aM,aE,ac].toArray 38) none) (fun r e=>by cases e)
           have a9:Lc _ _ #[aH,aR,au,aq,az,aN,ar,aI,aw,aM,aE,ac] 38:=heap_alloc_new cA (.cells [aH,aR,au,aq,az,aN,ar,aI,aw,aM,aE,ac].toArray 38)
           generalize cA.alloc (.cells [aH,aR,au,aq,az,aN,ar,aI,aw,aM,aE,ac].toArray 38)=a0 at aW a9 ⊢
           try simp only [p3,p4]
           refine nilY ?_
           refine a6 _ _ ?_
           try clear a6 ck
           refine wpIn_seq_k (fun cg bq=>?_)
           refine rgY [0,1] ?_
           refine swY wide_wide 23 (.agg #[aH,aR,au,aq,az,aN,ar,aI,aw,aM,aE,ac]) rfl (rl 38 0 [aH,aR,au,aq,az,aN,ar,aI,aw,aM,aE,ac] a9) ?_
           try simp only [p3,p4]
           refine svY wide_wide 24 (.int .i64 0) ?_
           try simp only [p3,p4]
           refine nilY ?_
           refine bq _ _ ?_
           try clear bq cg
           refine wpIn_block ?_
           refine wpIn_loop_rounds 5 ?_
           show Code.wpIn _ _ _ _ _ _ _
           refine wpIn_seq_k (fun b7 a3=>?_)
           refine rgY [0] ?_
           refine svY wide_wide 25 (.bool true) ?_
           try simp only [p3,p4]
           refine nilY ?_
           refine a3 _ _ ?_
           try clear a3 b7
           refine wpIn_seq_k (fun ca a8=>?_)
           refine wpIn_cond_true rfl ?_
           refine wpIn_skip ?_
           refine a8 _ _ ?_
           try clear a8 ca
           refine wpIn_seq_k (fun cC bG=>?_)
           refine wpIn_block ?_
           refine wpIn_seq_k (fun cl bw=>?_)
           refine rgY [0,1,2] ?_
           refine svY wide_wide 26 (.agg #[aH,aR,au,aq]) ?_
           try simp only [p3,p4]
           refine alstY wide_wide 7 36 (.agg #[(.bool false),(.slice none 0 0),(.bool false),(.slice none 0 0)]) [aH,aR,au,aq] ?_ ⟨dt,cS,cN,d8,trivial⟩
           have aX:=hJ _ _ _ none aW (World.grownBy_alloc a0 (.cells [aH,aR,au,aq].toArray 36) none) (fun r e=>by cases e)
           have bf:Lc _ _ #[aH,aR,au,aq] 36:=heap_alloc_new a0 (.cells [aH,aR,au,aq].toArray 36)
           generalize a0.alloc (.cells [aH,aR,au,aq].toArray 36)=w109 at aX bf ⊢
           try simp only [p3,p4]
           refine nilY ?_
           refine bw _ _ ?_
           try clear bw cl
           refine wpIn_seq_k (fun cc bn=>?_)
           refine wpIn_seq_k (fun bL aU=>?_)
           refine rgY [0,1,2,3,4] ?_
           refine svY wide_wide 27 (.func (.yield l) #[] #[]) ?_
           try simp only [p3,p4]
           refine svY wide_wide 28 (.int .i64 9) ?_
           try simp only [p3,p4]
           refine swY wide_wide 29 (.agg #[aH,aR,au,aq]) rfl (rl 36 0 [aH,aR,au,aq] bf) ?_
           try simp only [p3,p4]
           refine yldY wide_wide 30 l (hY [0,1,2,3,4,5,6,7,8] 9 _ aX (by decide)) ?_ rfl rfl (by kernel_rfl) (by kernel_rfl)
           rintro e9 a1 (⟨rfl,hJ112,_⟩ | ⟨rfl,hx112⟩)
           ·refine ⟨_,rfl,?_⟩
            try simp only [p3,p4]
            refine svY wide_wide 31 (.bool false) ?_
            try simp only [p3,p4]
            refine nilY ?_
            refine aU _ _ ?_
            try clear aU bL
            refine wpIn_cond_false rfl ?_
            refine wpIn_skip ?_
            refine bn _ _ ?_
            try clear bn cc
            refine rgY [0,1,2] ?_
            refine svY wide_wide 32 (.int .i64 9) ?_
            try simp only [p3,p4]
            refine svY wide_wide 33 (.int .i64 10) ?_
            try simp only [p3,p4]
            refine svY wide_wide 3 (.int .i64 10) ?_
            try simp only [p3,p4]
            refine nilY ?_
            refine bG _ _ ?_
            try clear bG cC
            refine rgY [0,1] ?_
            refine svY wide_wide 34 (.int .i64 1) ?_
            try simp only [p3,p4]
            refine svY wide_wide 24 (.int .i64 1) ?_
            try simp only [p3,p4]
            refine nilY ?_
            show Code.roundsIn _ _ _ _ _ _ _ _
            show Code.wpIn _ _ _ _ _ _ _
            refine wpIn_seq_k (fun bX bh=>?_)
            refine rgY [0] ?_
            refine svY wide_wide 25 (.bool true) ?_
            try simp only [p3,p4]
            refine nilY ?_
            refine bh _ _ ?_
            try clear bh bX
            refine wpIn_seq_k (fun bZ bb=>?_)
            refine wpIn_cond_true rfl ?_
            refine wpIn_skip ?_
            refine bb _ _ ?_
            try clear bb bZ
            refine wpIn_seq_k (fun bV bo=>?_)
            refine wpIn_block ?_
            refine wpIn_seq_k (fun cd ba=>?_)
            refine rgY [0,1,2] ?_
            refine svY wide_wide 26 (.agg #[az,aN,ar,aI]) ?_
            try simp only [p3,p4]
            refine alstY wide_wide 7 36 (.agg #[(.bool false),(.slice none 0 0),(.bool false),(.slice none 0 0)]) [az,aN,ar,aI] ?_ ⟨dL,eO,ei,dE,trivial⟩
            have aY:=hJ _ _ _ none hJ112 (World.grownBy_alloc a1 (.cells [az,aN,ar,aI].toArray 36) none) (fun r e=>by cases e)
            have bA:Lc _ _ #[az,aN,ar,aI] 36:=heap_alloc_new a1 (.cells [az,aN,ar,aI].toArray 36)
            generalize a1.alloc (.cells [az,aN,ar,aI].toArray 36)=w117 at aY bA ⊢
            try simp only [p3,p4]
            refine nilY ?_
            refine ba _ _ ?_
            try clear ba cd
            refine wpIn_seq_k (fun bW bB=>?_)
            refine wpIn_seq_k (fun bp aT=>?_)
            refine rgY [0,1,2,3,4] ?_
            refine svY wide_wide 27 (.func (.yield l) #[] #[]) ?_
            try simp only [p3,p4]
            refine svY wide_wide 28 (.int .i64 10) ?_
            try simp only [p3,p4]
            refine swY wide_wide 29 (.agg #[az,aN,ar,aI]) rfl (rl 36 0 [az,aN,ar,aI] bA) ?_
            try simp only [p3,p4]
            refine yldY wide_wide 30 l (hY [0,1,2,3,4,5,6,7,8,9] 10 _ aY (by decide)) ?_ rfl rfl (by kernel_rfl) (by kernel_rfl)
            rintro fE aZ (⟨rfl,hJ120,_⟩ | ⟨rfl,hx120⟩)
            ·refine ⟨_,rfl,?_⟩
             try simp only [p3,p4]
             refine svY wide_wide 31 (.bool false) ?_
             try simp only [p3,p4]
             refine nilY ?_
             refine aT _ _ ?_
             try clear aT bp
             refine wpIn_cond_false rfl ?_
             refine wpIn_skip ?_
             refine bB _ _ ?_
             try clear bB bW
             refine rgY [0,1,2] ?_
             refine svY wide_wide 32 (.int .i64 10) ?_
             try simp only [p3,p4]
             refine svY wide_wide 33 (.int .i64 11) ?_
             try simp only [p3,p4]
             refine svY wide_wide 3 (.int .i64 11) ?_
             try simp only [p3,p4]
             refine nilY ?_
             refine bo _ _ ?_
             try clear bo bV
             refine rgY [0,1] ?_
             refine svY wide_wide 34 (.int .i64 2) ?_
             try simp only [p3,p4]
             refine svY wide_wide 24 (.int .i64 2) ?_
             try simp only [p3,p4]
             refine nilY ?_
             show Code.roundsIn _ _ _ _ _ _ _ _
             show Code.wpIn _ _ _ _ _ _ _
             refine wpIn_seq_k (fun co a7=>?_)
             refine rgY [0] ?_
             refine svY wide_wide 25 (.bool true) ?_
             try simp only [p3,p4]
             refine nilY ?_
             refine a7 _ _ ?_
             try clear a7 co
             refine wpIn_seq_k (fun cq bu=>?_)
             refine wpIn_cond_true rfl ?_
             refine wpIn_skip ?_
             refine bu _ _ ?_
             try clear bu cq
             refine wpIn_seq_k (fun cu bC=>?_)
             refine wpIn_block ?_
             refine wpIn_seq_k (fun cj bj=>?_)
             refine rgY [0,1,2] ?_
             refine svY wide_wide 26 (.agg #[aw,aM,aE,ac]) ?_
             try simp only [p3,p4]
             refine alstY wide_wide 7 36 (.agg #[(.bool false),(.slice none 0 0),(.bool false),(.slice none 0 0)]) [aw,aM,aE,ac] ?_ ⟨eh,dM,d6,eF,trivial⟩
             have aV:=hJ _ _ _ none hJ120 (World.grownBy_alloc aZ (.cells [aw,aM,aE,ac].toArray 36) none) (fun r e=>by cases e)
             have bH:Lc _ _ #[aw,aM,aE,ac] 36:=heap_alloc_new aZ (.cells [aw,aM,aE,ac].toArray 36)
             generalize aZ.alloc (.cells [aw,aM,aE,ac].toArray 36)=w125 at aV bH ⊢
             try simp only [p3,p4]
             refine nilY ?_
             refine bj _ _ ?_
             try clear bj cj
             refine wpIn_seq_k (fun cx bv=>?_)
             refine wpIn_seq_k (fun bF aS=>?_)
             refine rgY [0,1,2,3,4] ?_
             refine svY wide_wide 27 (.func (.yield l) #[] #[]) ?_
             try simp only [p3,p4]
             refine svY wide_wide 28 (.int .i64 11) ?_
             try simp only [p3,p4]
             refine swY wide_wide 29 (.agg #[aw,aM,aE,ac]) rfl (rl 36 0 [aw,aM,aE,ac] bH) ?_
             try simp only [p3,p4]
             refine yldY wide_wide 30 l (hY [0,1,2,3,4,5,6,7,8,9,10] 11 _ aV (by decide)) ?_ rfl rfl (by kernel_rfl) (by kernel_rfl)
             rintro f5 f7 (⟨rfl,hJ128,_⟩ | ⟨rfl,hx128⟩)
             ·refine ⟨_,rfl,?_⟩
              try simp only [p3,p4]
              refine svY wide_wide 31 (.bool false) ?_
              try simp only [p3,p4]
              refine nilY ?_
              refine aS _ _ ?_
              try clear aS bF
              refine wpIn_cond_false rfl ?_
              refine wpIn_skip ?_
              refine bv _ _ ?_
              try clear bv cx
              refine rgY [0,1,2] ?_
              refine svY wide_wide 32 (.int .i64 11) ?_
              try simp only [p3,p4]
              refine svY wide_wide 33 (.int .i64 12) ?_
              try simp only [p3,p4]
              refine svY wide_wide 3 (.int .i64 12) ?_
              try simp only [p3,p4]
              refine nilY ?_
              refine bC _ _ ?_
              try clear bC cu
              refine rgY [0,1] ?_
              refine svY wide_wide 34 (.int .i64 3) ?_
              try simp only [p3,p4]
              refine svY wide_wide 24 (.int .i64 3) ?_
              try simp only [p3,p4]
              refine nilY ?_
              show Code.roundsIn _ _ _ _ _ _ _ _
              show Code.wpIn _ _ _ _ _ _ _
              refine wpIn_seq_k (fun ch a5=>?_)
              refine rgY [0] ?_
              refine svY wide_wide 25 (.bool false) ?_
              try simp only [p3,p4]
              refine nilY ?_
              refine a5 _ _ ?_
              try clear a5 ch
              refine wpIn_seq_k (fun fk fY=>?_)
              refine wpIn_cond_false rfl ?_
              refine wpIn_exit ?_
              simp only [Exit.then,Exit.inBlock,↓reduceIte]
              refine bx _ _ ?_
              try clear bx ce
              refine rgY [0,1] ?_
              refine svY wide_wide 35 (.int .i64 4) ?_
              try simp only [p3,p4]
              refine svY wide_wide 20 (.int .i64 4) ?_
              try simp only [p3,p4]
              refine nilY ?_
              show Code.roundsIn _ _ _ _ _ _ _ _
              show Code.wpIn _ _ _ _ _ _ _
              refine wpIn_seq_k (fun b5 a4=>?_)
              refine rgY [0] ?_
              refine svY wide_wide 21 (.bool false) ?_
              try simp only [p3,p4]
              refine nilY ?_
              refine a4 _ _ ?_
              try clear a4 b5
              refine wpIn_seq_k (fun fK ft=>?_)
              refine wpIn_cond_false rfl ?_
              refine wpIn_exit ?_
              simp only [Exit.then,Exit.inBlock,↓reduceIte]
              go_end0
              exact ⟨⟨_,rfl⟩,.inl ⟨[0,1,2,3,4,5,6,7,8,9,10,11],rfl,hJ128⟩⟩
             ·refine ⟨_,rfl,?_⟩
              try simp only [p3,p4]
              refine svY wide_wide 31 (.bool true) ?_
              try simp only [p3,p4]
              refine nilY ?_
              refine aS _ _ ?_
              try clear aS bF
              refine wpIn_cond_true rfl ?_
              refine wpIn_ret ?_
              simp only [Exit.then,Exit.inBlock]
              refine bodyPost_ret (results_none rfl _ _ _) rfl ?_
              exact ⟨⟨_,rfl⟩,.inr ⟨[0,1,2,3,4,5,6,7,8,9,10,11],⟨12,rfl⟩,hx128⟩⟩
            ·refine ⟨_,rfl,?_⟩
             try simp only [p3,p4]
             refine svY wide_wide 31 (.bool true) ?_
             try simp only [p3,p4]
             refine nilY ?_
             refine aT _ _ ?_
             try clear aT bp
             refine wpIn_cond_true rfl ?_
             refine wpIn_ret ?_
             simp only [Exit.then,Exit.inBlock]
             refine bodyPost_ret (results_none rfl _ _ _) rfl ?_
             exact ⟨⟨_,rfl⟩,.inr ⟨[0,1,2,3,4,5,6,7,8,9,10],⟨11,rfl⟩,hx120⟩⟩
           ·refine ⟨_,rfl,?_⟩
            try simp only [p3,p4]
            refine svY wide_wide 31 (.bool true) ?_
            try simp only [p3,p4]
            refine nilY ?_
            refine aU _ _ ?_
            try clear aU bL
            refine wpIn_cond_true rfl ?_
            refine wpIn_ret ?_
            simp only [Exit.then,Exit.inBlock]
            refine bodyPost_ret (results_none rfl _ _ _) rfl ?_
            exact ⟨⟨_,rfl⟩,.inr ⟨[0,1,2,3,4,5,6,7,8,9],⟨10,rfl⟩,hx112⟩⟩
          ·refine ⟨_,rfl,?_⟩
           try simp only [p3,p4]
           refine svY wide_wide 31 (.bool true) ?_
           try simp only [p3,p4]
           refine nilY ?_
           refine bR _ _ ?_
           try clear bR cH
           refine wpIn_cond_true rfl ?_
           refine wpIn_ret ?_
           simp only [Exit.then,Exit.inBlock]
           refine bodyPost_ret (results_none rfl _ _ _) rfl ?_
           exact ⟨⟨_,rfl⟩,.inr ⟨[0,1,2,3,4,5,6,7,8],⟨9,rfl⟩,hx96⟩⟩
         ·refine ⟨_,rfl,?_⟩
          try simp only [p3,p4]
          refine svY wide_wide 31 (.bool true) ?_
          try simp only [p3,p4]
          refine nilY ?_
          refine bU _ _ ?_
          try clear bU dH
          refine wpIn_cond_true rfl ?_
          refine wpIn_ret ?_
          simp only [Exit.then,Exit.inBlock]
          refine bodyPost_ret (results_none rfl _ _ _) rfl ?_
          exact ⟨⟨_,rfl⟩,.inr ⟨[0,1,2,3,4,5,6,7],⟨8,rfl⟩,hx88⟩⟩
        ·refine ⟨_,rfl,?_⟩
         try simp only [p3,p4]
         refine svY wide_wide 31 (.bool true) ?_
         try simp only [p3,p4]
         refine nilY ?_
         refine bN _ _ ?_
         try clear bN eR
         refine wpIn_cond_true rfl ?_
         refine wpIn_ret ?_
         simp only [Exit.then,Exit.inBlock]
         refine bodyPost_ret (results_none rfl _ _ _) rfl ?_
         exact ⟨⟨_,rfl⟩,.inr ⟨[0,1,2,3,4,5,6],⟨7,rfl⟩,hx80⟩⟩
       ·refine ⟨_,rfl,?_⟩
        try simp only [p3,p4]
        refine svY wide_wide 31 (.bool true) ?_
        try simp only [p3,p4]
        refine nilY ?_
        refine bM _ _ ?_
        try clear bM dj
        refine wpIn_cond_true rfl ?_
        refine wpIn_ret ?_
        simp only [Exit.then,Exit.inBlock]
        refine bodyPost_ret (results_none rfl _ _ _) rfl ?_
        exact ⟨⟨_,rfl⟩,.inr ⟨[0,1,2,3,4,5],⟨6,rfl⟩,hx64⟩⟩
      ·refine ⟨_,rfl,?_⟩
       try simp only [p3,p4]
       refine svY wide_wide 31 (.bool true) ?_
       try simp only [p3,p4]
       refine nilY ?_
       refine bT _ _ ?_
       try clear bT eA
       refine wpIn_cond_true rfl ?_
       refine wpIn_ret ?_
       simp only [Exit.then,Exit.inBlock]
       refine bodyPost_ret (results_none rfl _ _ _) rfl ?_
       exact ⟨⟨_,rfl⟩,.inr ⟨[0,1,2,3,4],⟨5,rfl⟩,hx56⟩⟩
     ·refine ⟨_,rfl,?_⟩
      try simp only [p3,p4]
      refine svY wide_wide 31 (.bool true) ?_
      try simp only [p3,p4]
      refine nilY ?_
      refine bS _ _ ?_
      try clear bS cU
      refine wpIn_cond_true rfl ?_
      refine wpIn_ret ?_
      simp only [Exit.then,Exit.inBlock]
      refine bodyPost_ret (results_none rfl _ _ _) rfl ?_
      exact ⟨⟨_,rfl⟩,.inr ⟨[0,1,2,3],⟨4,rfl⟩,hx48⟩⟩
    ·refine ⟨_,rfl,?_⟩
     try simp only [p3,p4]
     refine svY wide_wide 31 (.bool true) ?_
     try simp only [p3,p4]
     refine nilY ?_
     refine bP _ _ ?_
     try clear bP dV
     refine wpIn_cond_true rfl ?_
     refine wpIn_ret ?_
     simp only [Exit.then,Exit.inBlock]
     refine bodyPost_ret (results_none rfl _ _ _) rfl ?_
     exact ⟨⟨_,rfl⟩,.inr ⟨[0,1,2],⟨3,rfl⟩,hx32⟩⟩
   ·refine ⟨_,rfl,?_⟩
    try simp only [p3,p4]
    refine svY wide_wide 31 (.bool true) ?_
    try simp only [p3,p4]
    refine nilY ?_
    refine bQ _ _ ?_
    try clear bQ cE
    refine wpIn_cond_true rfl ?_
    refine wpIn_ret ?_
    simp only [Exit.then,Exit.inBlock]
    refine bodyPost_ret (results_none rfl _ _ _) rfl ?_
    exact ⟨⟨_,rfl⟩,.inr ⟨[0,1],⟨2,rfl⟩,hx24⟩⟩
  ·refine ⟨_,rfl,?_⟩
   try simp only [p3,p4]
   refine svY wide_wide 31 (.bool true) ?_
   try simp only [p3,p4]
   refine nilY ?_
   refine bO _ _ ?_
   try clear bO dl
   refine wpIn_cond_true rfl ?_
   refine wpIn_ret ?_
   simp only [Exit.then,Exit.inBlock]
   refine bodyPost_ret (results_none rfl _ _ _) rfl ?_
   exact ⟨⟨_,rfl⟩,.inr ⟨[0],⟨1,rfl⟩,hx16⟩⟩
end Go.Proofs.YtaldbfflkpgfoaaGreatDoor
/- A range over the entries of a motion:the loop's rule,and a function's end behind such loops. -/
namespace Go.Proofs.YtaldbfflkpgfoaaGreatDoor
open Go.RowKit

def marks (Ds:List Nat):List Deferred:=Ds.map (fun D=>⟨.collected D,#[]⟩)
def bodyPostN (P:Program) (fn:Func) (R:Ending→World→Prop):Exit→Act→World→Prop
 | .normal,a,w | .ret,a,w=>LeavesInM Fence.wide 9 P fn a.tmps R a.defers .returning w
 | _,_,_=>False
theorem enterN {P:Program} {f:FuncId} {fn:Func} {c:Code} {args:Array Value} {w:World} {R:Ending→World→Prop} (hf:P.funcs[f]?=some fn) (hb:fn.body=some c)
  (h:c.wp P (bodyPostN P fn R) {tmps:=args++Array.replicate (fn.ntmps - args.size) undef,defers:=[]} w):Calls P f args w R:=by
 refine (callsIn_wide (n:=9)).1 (callsIn_of_wp_marks hf hb trivial (wpIn_wide.2 (Code.wp_mono (fun e a w h=>?_) h)))
 cases e<;>first | exact h | exact h.elim
theorem putObj_wt {w:World} {D:Nat} {x:Option (List Deferred)} (o:Obj) (h:w.heap[D]?=some (.deferred x)):Wt 999999999 w (w.putObj D o):=
 ⟨rfl,rfl,rfl,by simp [World.putObj],fun b cs t fr _ hb=>(World.putObj_heap_other (fun e=>by subst e;rw [h] at hb;cases hb)).trans hb⟩
theorem Wt.trans {T:TypeId} {a b c:World} (h:Wt T a b) (k:Wt T b c):Wt T a c:=
 ⟨k.os.trans h.os,k.tape.trans h.tape,k.output.trans h.output,Nat.le_trans h.size k.size,fun b cs t fr ht hb=>k.block b cs t fr ht (h.block b cs t fr ht hb)⟩
theorem Wt.refl (T:TypeId) (w:World):Wt T w w:=⟨rfl,rfl,rfl,Nat.le_refl _,fun _ _ _ _ _ h=>h⟩
theorem putObj_gr {w0 w:World} {D:Nat} {o:Obj} (h:Gr w0 w) (hD:w0.heap.size≤D):Gr w0 (w.putObj D o):=
 ⟨h.os,h.tape,h.output,Nat.le_trans h.size (by simp [World.putObj]),fun k hk=>(World.putObj_heap_other (by omega)).trans (h.block k hk)⟩
theorem endN {P:Program} {fn:Func} {R:Ending→World→Prop} {tmps:Array Value} {w0:World}:∀ (Ds:List Nat) (w:World),Ds.Nodup→(∀ D ∈ Ds,w0.heap.size≤D∧w.heap[D]?=some (.deferred (some [])))→Gr w0 w→
  (∀ w',Wt 999999999 w w'→Gr w0 w'→∃ v,(results fn tmps).run P w'=.ok v w'∧R (.returned v) w')→LeavesInM Fence.wide 9 P fn tmps R (marks Ds) .returning w
 | [],w,_,_,hB,h=>h w (Wt.refl _ _) hB
 | D::Ds,w,hn,hD,hB,h=>by
  obtain ⟨h1,h2⟩:=hD D (by simp)
  obtain ⟨n1,n2⟩:=List.nodup_cons.1 hn
  refine ⟨by simp,.inl ⟨_,_,rfl,run_takeDeferred h2,?_⟩⟩
  exact endN Ds _ n2 (fun E hE=>⟨(hD E (by simp [hE])).1,(World.putObj_heap_other (fun e=>n1 (by rw [← e];exact hE))).trans (hD E (by simp [hE])).2⟩) (putObj_gr hB h1)
   (fun w' wt g=>h w' ((putObj_wt _ h2).trans wt) g)

theorem own_lc {β:Type} (B b:Nat) (cs:Array Value) (t:TypeId):OwnFrom B (fun (_:β) W=>Lc W b cs t):=fun _ X Y row hs hg hr=>by
 refine (hg.block b (heap_lt hs) (fun e=>?_)).trans hs
 obtain ⟨_,o,ho,hc⟩:=hr b e.symm
 rw [show X.heap[b]?=_ from hs] at ho;cases ho;cases hc
theorem own_ex {β γ:Type} {B:Nat} {I:γ→β→World→Prop} (h:∀ x,OwnFrom B (I x)):OwnFrom B (fun s W=>∃ x,I x s W):=fun s X Y row ⟨x,hs⟩ hg hr=>⟨x,h x s X Y row hs hg hr⟩
theorem own_gr {β:Type} {B:Nat} {w0:World} (h:w0.heap.size≤B):OwnFrom B (fun (_:β) W=>Gr w0 W):=ownFrom_below (Nat.le_refl _) h
theorem others_st {w w':World} {b:Nat} {cs:Array Value} {t:TypeId} (h:St w w' b) (hL:Lc w b cs t) (hs:w.heap.size≤w'.heap.size):KeepsOthers w w':=
 ⟨hs,fun k o hk ho=>(h.block k (fun e=>by subst e;rw [show w.heap[k]?=_ from hL] at hk;cases hk;cases ho)).trans hk⟩
theorem others_gr {w w':World} (h:Gr w w'):KeepsOthers w w':=⟨h.size,fun _ _ hk _=>h.heap hk⟩

def ent (L:List Value) (k:Fin 12):List Value:=[L.getD (4*k.val) undef,L.getD (4*k.val+1) undef,L.getD (4*k.val+2) undef,L.getD (4*k.val+3) undef]
theorem encs_ent (L:List Value) (k:Fin 12):encs L k=#[.int .i64 (k.val:Int),.agg (ent L k).toArray]:=rfl
theorem fin12 {p:Fin 12→Prop} (h0:p 0) (h1:p 1) (h2:p 2) (h3:p 3) (h4:p 4) (h5:p 5) (h6:p 6) (h7:p 7) (h8:p 8) (h9:p 9) (h10:p 10) (h11:p 11):∀ k,p k
 | 0=>h0 | 1=>h1 | 2=>h2 | 3=>h3 | 4=>h4 | 5=>h5 | 6=>h6 | 7=>h7 | 8=>h8 | 9=>h9 | 10=>h10 | 11=>h11
theorem mem_all12:∀ k:Fin 12,k ∈ all12:=fin12 (by decide) (by decide) (by decide) (by decide) (by decide) (by decide) (by decide) (by decide) (by decide) (by decide) (by decide) (by decide)
theorem rf_ent {P:Program} {g:Operand} {d1 d2 s1 s2:Nat} {assign body:Code} {Q:Exit→Act→World→Prop} {l:List Value} {Ds:List Nat} {w:World} {gf:Nat} {lb:Array Value} {L:List Value}
  (hseq:SeqStopsA Fence.wide 8 P gf lb (encs L) (fun xs=>xs=all12) (fun pre=>∃ k,pre=all12.take k) 12 w)
  (I:List (Fin 12)→World→Prop) (Ix:Code→List (Fin 12)→World→Prop) (hI:OwnFrom w.heap.size I) (hIx:∀ c,OwnFrom w.heap.size (Ix c)) (h0:I [] w)
  (hass:∀ (ll:Nat) (k:Fin 12) (W:World) (K:Act→World→Prop),K ⟨((((l.set s1 (.int .i64 (k.val:Int))).set s2 (.agg (ent L k).toArray)).set d1 (.int .i64 (k.val:Int))).set d2 (.pointer (some ⟨W.heap.size,0,none⟩))).toArray,[]⟩ (W.alloc (.cells (ent L k).toArray 36))→
   assign.wpIn (Fence.wide.inRound ll) 7 P (Exit.then K (fun _ _ _=>False)) ⟨((l.set s1 (.int .i64 (k.val:Int))).set s2 (.agg (ent L k).toArray)).toArray,[]⟩ W)
  (hbody:∀ (ll B:Nat) (pre:List (Fin 12)) (k:Fin 12) (W:World),I pre W→w.heap.size≤B→Lc W B (ent L k).toArray 36→
   body.wpIn (Fence.wide.inRound ll) 7 P (ownPostG w.heap.size KeepsWalks I Ix (pre++[k]) W) ⟨((((l.set s1 (.int .i64 (k.val:Int))).set s2 (.agg (ent L k).toArray)).set d1 (.int .i64 (k.val:Int))).set d2 (.pointer (some ⟨B,0,none⟩))).toArray,[]⟩ W)
  (hdone:∀ (D:Nat) (W:World),w.heap.size≤D→I all12 W→W.heap[D]?=some (.deferred (some []))→Q .normal ⟨l.toArray,marks (D::Ds)⟩ W)
  (hstop:∀ (D:Nat) (c:Code) (pre:List (Fin 12)) (W:World),w.heap.size≤D→Ix c pre W→W.heap[D]?=some (.deferred (some []))→c.wp P Q ⟨l.toArray,marks (D::Ds)⟩ W)
  (hg:(⟨l.toArray,marks Ds⟩:Act).eval g=.func (.func gf) #[] lb:=by rfl) (eg:∀ args w,(callFunc gf args).run P w=.ok (.enter gf args) w):
  (Code.rangeFunc g #[s1,s2] assign body).wp P Q ⟨l.toArray,marks Ds⟩ w:=by
 refine (wpIn_wide (n:=9)).1 (wpIn_rangeFunc_ownH rfl (by decide) hg trivial eg hseq walksK_t (fun W l o o' h0 h1 h2 h3=>walksK_b (w:=w) W l o o' h0 h1 h2 h3) (Below.refl _ _) (fun _=>rfl) (fun pre W=>I pre W∧w.heap.size≤W.heap.size) Ix
  (hI.and (fun _ X Y _ hs hg _=>Nat.le_trans hs hg.size)) hIx ⟨h0,Nat.le_refl _⟩
  (fun k a' W=>∃ B,w.heap.size≤B∧Lc W B (ent L k).toArray 36∧a'=⟨((((l.set s1 (.int .i64 (k.val:Int))).set s2 (.agg (ent L k).toArray)).set d1 (.int .i64 (k.val:Int))).set d2 (.pointer (some ⟨B,0,none⟩))).toArray,[]⟩)
  (fun k a'=>own_ex fun B=>(ownFrom_pure _ _).and ((own_lc _ _ _ _).and (ownFrom_pure _ _))) ?_ ?_ ?_ ?_)
 ·intro ll pre k W K hi hK
  have e0:(#[s1,s2]:Array Tmp).zip (encs L k)=#[(s1,.int .i64 (k.val:Int)),(s2,.agg (ent L k).toArray)]:=by rw [encs_ent];simp
  have e:((#[s1,s2]:Array Tmp).zip (encs L k)).foldl (fun t (p,v)=>t.setIfInBounds p v) l.toArray=((l.set s1 (.int .i64 (k.val:Int))).set s2 (.agg (ent L k).toArray)).toArray:=by
   rw [e0]
   simp only [List.foldl_toArray',List.size_toArray,List.length_cons,List.length_nil,List.foldl_cons,List.foldl_nil,p2]
  dsimp only
  rw [e]
  refine hass ll k W K (hK _ _ ((KeepsOthers.alloc _ _).from _) (KeepsWalks.alloc _ _) ⟨hI.alloc _ hi.1,Nat.le_trans hi.2 (by simp)⟩ ⟨W.heap.size,hi.2,heap_alloc_new W _,rfl⟩)
 ·rintro ll pre k a' W hl _ hi ⟨B,hB,hLc,rfl⟩ _
  refine Code.wpIn_mono (fun e a W' h=>?_) (hbody ll B pre k W hi.1 hB hLc)
  cases e<;>first | exact h | exact ⟨h.1,h.2.1,h.2.2,Nat.le_trans hi.2 h.1.size⟩
 ·rintro D xs W hD rfl hi hm
  exact hdone D W hD hi.1 hm
 ·rintro D c pre W hD _ hi hm
  exact wpIn_wide.2 (hstop D c pre W hD hi hm)
end Go.Proofs.YtaldbfflkpgfoaaGreatDoor
/- An array that a range over a motion's entries fills. -/
namespace Go.Proofs.YtaldbfflkpgfoaaGreatDoor
open Go.RowKit

theorem one1_all {vs:List Value} (h:∀ v ∈ vs,v.oneCell'=true):One1 vs:=by
 induction vs with
 | nil=>trivial
 | cons v vs ih=>exact ⟨h v (by simp),ih (fun u hu=>h u (by simp [hu]))⟩
theorem getD_one {L:List Value} (h:One1 L) {i:Nat} (hi:i<L.length):(L.getD i undef).oneCell'=true:=by
 rw [List.getD_eq_getElem?_getD,List.getElem?_eq_getElem hi]
 exact One1.all h _ (List.getElem_mem hi)
theorem ent_one {L:List Value} (h:One1 L) (h48:L.length=48) (k:Fin 12):One1 (ent L k):=
 ⟨getD_one h (by omega),getD_one h (by omega),getD_one h (by omega),getD_one h (by omega),trivial⟩
theorem ent_take {L:List Value} (aa:L.length=48) (k:Fin 12):(L.drop (4*k.val)).take 4=ent L k:=by
 apply List.ext_getElem?
 intro i
 have hk:=k.isLt
 by_cases hi:i<4
 ·rw [List.getElem?_take_of_lt hi,List.getElem?_drop,List.getElem?_eq_getElem (by omega)]
  unfold ent
  simp only [List.getD_eq_getElem?_getD]
  match i,hi with
  | 0,_=>simp [List.getElem?_eq_getElem (show 4*k.val<L.length by omega)]
  | 1,_=>simp [List.getElem?_eq_getElem (show 4*k.val+1<L.length by omega)]
  | 2,_=>simp [List.getElem?_eq_getElem (show 4*k.val+2<L.length by omega)]
  | 3,_=>simp [List.getElem?_eq_getElem (show 4*k.val+3<L.length by omega)]
 ·rw [List.getElem?_eq_none (by simp;omega),List.getElem?_eq_none (by simp [ent];omega)]
structure Fills (m:Nat) (L:List Value) (pre:List (Fin 12)) (xs:List Value):Prop where
 len:xs.length=4*m
 one:One1 xs
 eq:∀ k ∈ pre,k.val<m→(xs.drop (4*k.val)).take 4=ent L k
theorem Fills.skip {m:Nat} {L xs:List Value} {pre:List (Fin 12)} {k:Fin 12} (h:Fills m L pre xs) (hk:¬ k.val<m):Fills m L (pre++[k]) xs:=
 ⟨h.len,h.one,fun j hj hm=>by
  rcases List.mem_append.1 hj with hj | hj
  ·exact h.eq j hj hm
  ·simp only [List.mem_singleton] at hj;subst hj;exact absurd hm hk⟩
theorem Fills.step {m:Nat} {L xs:List Value} {pre:List (Fin 12)} {k:Fin 12} (h:Fills m L pre xs) (h1:One1 L) (aa:L.length=48) (hk:k.val<m):
  ∃ ys,writeAt xs.toArray (4*k.val) (ent L k)=ys.toArray∧Fills m L (pre++[k]) ys:=by
 have hlen:(ent L k).length=4:=rfl
 have hw:=writeAt_list (ent L k) (4*k.val) xs (by rw [hlen,h.len];omega)
 refine ⟨_,hw,⟨?_,?_,?_⟩⟩
 ·simp [hlen,h.len];omega
 ·refine one1_all fun v hv=>?_
  rcases List.mem_append.1 hv with hv | hv
  ·rcases List.mem_append.1 hv with hv | hv
   ·exact One1.all h.one v (List.mem_of_mem_take hv)
   ·exact One1.all (ent_one h1 aa k) v hv
  ·exact One1.all h.one v (List.mem_of_mem_drop hv)
 ·intro j hj hm
  by_cases e:j=k
  ·subst e
   rw [List.append_assoc,List.drop_append_of_le_length (by simp [h.len];omega)]
   rw [List.drop_of_length_le (by simp;omega)]
   rw [List.nil_append,List.take_append_of_le_length (by simp [hlen]),List.take_of_length_le (by simp [hlen])]
  ·have hj':j ∈ pre:=by
    rcases List.mem_append.1 hj with hj | hj
    ·exact hj
    ·simp only [List.mem_singleton] at hj;exact absurd hj e
   rw [← h.eq j hj' hm]
   have hne:j.val≠k.val:=fun h=>e (Fin.ext h)
   apply List.ext_getElem?
   intro i
   by_cases hi:i<4
   ·rw [List.getElem?_take_of_lt hi,List.getElem?_take_of_lt hi,List.getElem?_drop,List.getElem?_drop]
    by_cases hlt:j.val<k.val
    ·rw [List.append_assoc,List.getElem?_append_left (by simp [h.len];omega),List.getElem?_take_of_lt (by omega)]
    ·rw [List.getElem?_append_right (by simp [h.len,hlen];omega),List.getElem?_drop]
     congr 1
     simp [h.len,hlen];omega
   ·rw [List.getElem?_eq_none (by simp;omega),List.getElem?_eq_none (by simp;omega)]
theorem Fills.done {m:Nat} {L xs:List Value} (h:Fills m L all12 xs) (hm:m≤12) (aa:L.length=48):xs=L.take (4*m):=by
 apply List.ext_getElem?
 intro i
 by_cases hi:i<4*m
 ·have hq:i/4<12:=by omega
  have:=h.eq ⟨i/4,hq⟩ (mem_all12 _) (by show i/4<m;omega)
  rw [← ent_take aa] at this
  have h2:=congrArg (fun l=>l[i % 4]?) this
  simp only [] at h2
  rw [List.getElem?_take_of_lt (by omega),List.getElem?_take_of_lt (by omega),List.getElem?_drop,List.getElem?_drop] at h2
  have e:4*(i/4)+i % 4=i:=by omega
  rw [e] at h2
  rw [h2,List.getElem?_take_of_lt hi]
 ·rw [List.getElem?_eq_none (by rw [h.len];omega),List.getElem?_eq_none (by simp;omega)]
theorem rv_aix {P:Program} {a:Act} {o:Oper} {w:World} (t:TypeId) (x y:Operand) (b len elem sz k:Nat) (hk:k<len) (hop:o.op=.indexAddr t x y:=by rfl) (hx:a.eval x=.pointer (some ⟨b,0,none⟩):=by rfl) (hy:a.eval y=.int .i64 (k:Int):=by rfl)
  (hu:P.underlying t=some (.array len elem):=by kernel_rfl) (hs:(P.info? elem).map (·.size)=some sz:=by kernel_rfl):RunV P a o w (.pointer (some ⟨b,sz*k,none⟩)):=by
 obtain ⟨i,hi,hsz⟩:=Option.map_eq_some_iff.1 hs
 have h2:(0:Int)≤(k:Int)∧(k:Int)<(len:Int):=by omega
 unfold RunV execOp
 simp only [hop,hx,hy]
 by_cases h0:sz*k=0<;>simp [Instr.indexAt,Instr.sureAddr,asIntOf,run_underlying hu,sizeOf,typeInfo,hi,hsz,h2,hk,h0,Addr.add,Nat.mul_comm k sz]
theorem ret_cell1 {P:Program} {w:World} {fn:Func} {tmps:Array Value} {p:Tmp} {t:TypeId} (b:Nat) (v:Value) (tt:TypeId) (h:fn.results=#[.cell p t]) (hp:tmps.getD p undef=.pointer (some ⟨b,0,none⟩)) (hL:Lc w b #[v] tt) (hs:oneSize P t=true):
  (results fn tmps).run P w=.ok v w:=by
 have hl:(loadVar t ⟨b,0,none⟩).run P w=.ok v w:=by
  unfold oneSize at hs
  have hc:w.cell? ⟨b,0,none⟩=some v:=by rw [cells_of hL];rfl
  cases hd:P.underlying t with
  | none=>rw [hd] at hs;cases hs
  | some d=>
   rw [hd] at hs
   have hagg:(isAgg t).run P w=.ok false w:=by
    unfold isAgg
    rw [Sem.run_bind,run_underlying hd w]
    cases d<;>first | cases hs | rfl
   simp only [loadVar,Sem.run_bind,hagg,Result.andThen_ok]
   simp [load,Sem.run,hc]
 simp only [Array.getD_eq_getD_getElem?] at hp
 simp [results,h,asAddr,hp,hl]
def IsMk (w:World) (D:Nat):Prop:=w.heap[D]?=some (.deferred (some []))
theorem IsMk.gr {w w':World} {D:Nat} (h:IsMk w D) (g:Gr w w'):IsMk w' D:=g.heap h
theorem IsMk.lt {w:World} {D:Nat} (h:IsMk w D):D<w.heap.size:=heap_lt h
theorem IsMk.ne {w:World} {D c:Nat} (h:IsMk w D) (hc:w.heap.size≤c):D≠c:=fun e=>by have:=h.lt;omega
theorem IsMk.st {w w':World} {b D:Nat} (hm:IsMk w D) (h:St w w' b) (hne:D≠b):IsMk w' D:=(h.block D hne).trans hm
theorem own_mk {β:Type} {w:World} {D:Nat} (h:IsMk w D):OwnFrom w.heap.size (fun (_:β) W=>IsMk W D):=fun _ X Y row hs hg hr=>
 (hg.block D (heap_lt hs) (fun e=>by have:=(hr D e.symm).1;have:=h.lt;omega)).trans hs
theorem own_kp {β:Type} (B:Nat) (w:World):OwnFrom B (fun (_:β) W=>Kp w W):=fun _ X Y row hs hg hr b cs fr hb=>by
 have h:=hs b cs fr hb
 refine (hg.block b (heap_lt h) (fun e=>?_)).trans h
 obtain ⟨_,o,ho,hc⟩:=hr b e.symm
 rw [h] at ho;cases ho;cases hc
section
variable {P:Program} {ops:Array Oper} {Q:Exit→Act→World→Prop}
def ready1 (ops:Array Oper) (listed:Array Bool) (i:Nat):Bool:=
 decide (i<ops.size)&&(!listed.getD i true&&((ops[i]?).map (·.after.all fun e=>!Region.binds .any e||listed.getD e.on false)).getD false)
theorem ready1_eq (ops:Array Oper) (listed:Array Bool) (i:Nat):(Region.ready .any ops listed).contains i=ready1 ops listed i:=by
 rw [Bool.eq_iff_iff,List.contains_iff_mem]
 unfold Region.ready ready1
 rw [List.mem_filter,List.mem_range,Bool.and_eq_true (decide _),decide_eq_true_eq]
def okFlo2 (ops:Array Oper) (fl:List Fl) (tl:List (Bool × Nat)):List (Bool × Nat)→Array Bool→Bool
 | [],listed=>okOrd ops tl (setFl listed fl)&&
   fl.all fun f=>ready1 ops listed f.op&&decide (Region.ready .any ops (setFl listed (fl.filter (·.op !=f.op)))=[f.op])
 | (true,i)::rest,listed=>ready1 ops listed i&&Region.free .any ops listed i&&okFlo2 ops fl tl rest (listed.setIfInBounds i true)
 | (false,i)::rest,listed=>ready1 ops listed i&&decide (Region.ready .any ops (setFl listed fl)=[i])&&okFlo2 ops fl tl rest (listed.setIfInBounds i true)
theorem okFlo2_eq (fl:List Fl) (tl:List (Bool × Nat)):∀ (l:List (Bool × Nat)) (listed:Array Bool),okFlo ops fl tl l listed=okFlo2 ops fl tl l listed
 | [],listed=>by simp only [okFlo,okFlo2,ready1_eq]
 | (true,i)::rest,listed=>by simp only [okFlo,okFlo2,ready1_eq,okFlo2_eq fl tl rest]
 | (false,i)::rest,listed=>by simp only [okFlo,okFlo2,ready1_eq,okFlo2_eq fl tl rest]
theorem wp_region_flo2 {id:Nat} {a:Act} {w:World} (S:World→Prop) (l:List (Bool × Nat)) (fl:List Fl) (tl:List (Bool × Nat)) (hm:P.follows .mixedOrders=true) (hs:Region.noSelect ops=true)
  (hok:okFlo2 ops fl tl l (Array.replicate ops.size false)=true) (hap:okAp ops fl l=true) (hal:okAl ops fl=true) (hl:l.length+fl.length+tl.length≤ops.size)
  (hQ:∀ c (a:Act) (d:Tmp) v w,Q (.panic c) (a.put (some d) v) w→Q (.panic c) a w) (hQ':∀ c (a:Act) (d:Tmp) v w,Q (.panic c) a w→Q (.panic c) (a.put (some d) v) w) (hSa:∀ w o,S w→S (w.alloc o)) (hS:S w.drew)
  (hz:∀ f ∈ fl,∀ w,(Instr.alloc f.ty true (.tuple #[])).run P w=.ok (.pointer (some ⟨w.heap.size,0,none⟩)) (w.alloc (.cells f.zero f.ty)))
  (h:wpFlo P ops Q S (FloFin P ops Q S w.heap.size fl tl) l a w.drew):(Code.region id ops true).wp P Q a w:=
 wp_region_flo S l fl tl hm hs (by rw [okFlo2_eq];exact hok) hap hal hl hQ hQ' hSa hS hz h
end
section
variable {P:Program} {ops:Array Oper} {Q:Exit→Act→World→Prop}
def Agree (n:Nat) (listed:Array Bool) (m:Nat):Prop:=listed.size=n∧∀ i,listed.getD i false=m.testBit i
theorem Agree.t {n:Nat} {listed:Array Bool} {m i:Nat} (h:Agree n listed m) (hi:i<n):listed.getD i true=m.testBit i:=by
 rw [← h.2 i]
 have:i<listed.size:=by rw [h.1];exact hi
 simp [Array.getD,this]
theorem Agree.zero (n:Nat):Agree n (Array.replicate n false) 0:=⟨by simp,fun i=>by simp [Array.getD]⟩
theorem Agree.set {n:Nat} {listed:Array Bool} {m i:Nat} (h:Agree n listed m) (hi:i<n):Agree n (listed.setIfInBounds i true) (m|||2 ^ i):=by
 refine ⟨by simp [h.1],fun j=>?_⟩
 rw [Nat.testBit_or,Nat.testBit_two_pow,← h.2 j]
 have hs:i<listed.size:=by rw [h.1];exact hi
 by_cases e:i=j
 ·subst e;simp [Array.getD,hs]
 ·simp [Array.getD_eq_getD_getElem?,Array.getElem?_setIfInBounds_ne e,e]
def afterM (m:Nat) (o:Oper):Bool:=o.after.all fun e=>!Region.binds .any e||m.testBit e.on
def readyM:List Oper→Nat→Nat→List Nat
 | [],_,_=>[]
 | o::r,k,m=>if !m.testBit k&&afterM m o then k::readyM r (k+1) m else readyM r (k+1) m
def freeM (ops:Array Oper) (oi:Oper) (i m:Nat):List Oper→Nat→Bool
 | [],_=>true
 | oj::r,k=>(k==i||m.testBit k||(oj.after.any (fun e=>Region.binds .any e&&e.on==i)||oi.apart ops oj))&&freeM ops oi i m r (k+1)
def ready1M (ops:Array Oper) (m i:Nat):Bool:=match ops[i]? with | some o=>!m.testBit i&&afterM m o | none=>false
theorem ready1M_eq {listed:Array Bool} {m:Nat} (h:Agree ops.size listed m) (i:Nat):ready1 ops listed i=ready1M ops m i:=by
 unfold ready1 ready1M afterM
 by_cases hi:i<ops.size
 ·rw [decide_eq_true hi,Bool.true_and,Array.getElem?_eq_getElem hi]
  simp only [Option.map_some,Option.getD_some,h.t hi,h.2]
 ·rw [decide_eq_false hi,Bool.false_and,Array.getElem?_eq_none (by omega)]
theorem readyM_eq {listed:Array Bool} {m:Nat} (h:Agree ops.size listed m):Region.ready .any ops listed=readyM ops.toList 0 m:=by
 have go:∀ (r:List Oper) (k:Nat),ops.toList.drop k=r→k+r.length=ops.size→(List.range' k r.length).filter (fun i=>!listed.getD i true&&((ops[i]?).map (·.after.all fun e=>!Region.binds .any e||listed.getD e.on false)).getD false)=readyM r k m:=by
  intro r
  induction r with
  | nil=>intro k _ _;rfl
  | cons o r ih=>
   intro k hd hk
   simp only [List.length_cons] at hk
   have hk':k<ops.size:=by omega
   have ho:ops[k]?=some o:=by
    have:ops.toList[k]?=some o:=by
     have:=congrArg List.head? hd
     rw [List.head?_drop] at this
     simpa using this
    simpa using this
   have hd':ops.toList.drop (k+1)=r:=by
    have:=congrArg List.tail hd
    rw [List.tail_drop] at this
    simpa using this
   rw [List.length_cons,List.range'_succ,List.filter_cons,ih (k+1) hd' (by omega)]
   simp only [ho,Option.map_some,Option.getD_some,h.t hk',h.2]
   rfl
 unfold Region.ready
 have:=go ops.toList 0 rfl (by simp)
 rw [List.range_eq_range']
 simpa using this
theorem freeM_eq {listed:Array Bool} {m i:Nat} {oi:Oper} (h:Agree ops.size listed m) (hi:ops[i]?=some oi):Region.free .any ops listed i=freeM ops oi i m ops.toList 0:=by
 have go:∀ (r:List Oper) (k:Nat),ops.toList.drop k=r→k+r.length=ops.size→((List.range' k r.length).all fun j=>j==i||listed.getD j true||match ops[j]? with
   | some oj=>oj.after.any (fun e=>Region.binds .any e&&e.on==i)||oi.apart ops oj
   | none=>true)=freeM ops oi i m r k:=by
  intro r
  induction r with
  | nil=>intro k _ _;rfl
  | cons o r ih=>
   intro k hd hk
   simp only [List.length_cons] at hk
   have hk':k<ops.size:=by omega
   have ho:ops[k]?=some o:=by
    have:ops.toList[k]?=some o:=by
     have:=congrArg List.head? hd
     rw [List.head?_drop] at this
     simpa using this
    simpa using this
   have hd':ops.toList.drop (k+1)=r:=by
    have:=congrArg List.tail hd
    rw [List.tail_drop] at this
    simpa using this
   rw [List.length_cons,List.range'_succ,List.all_cons,ih (k+1) hd' (by omega)]
   simp only [ho,h.t hk']
   rfl
 unfold Region.free
 have:=go ops.toList 0 rfl (by simp)
 rw [Array.length_toList] at this
 simp only [hi]
 rw [List.range_eq_range']
 exact this
def free1M (ops:Array Oper) (m i:Nat):Bool:=match ops[i]? with | some o=>freeM ops o i m ops.toList 0 | none=>false
theorem free1M_eq {listed:Array Bool} {m:Nat} (h:Agree ops.size listed m) (i:Nat):Region.free .any ops listed i=free1M ops m i:=by
 unfold free1M
 cases hi:ops[i]? with
 | none=>unfold Region.free;rw [hi]
 | some o=>exact freeM_eq h hi
def okOrdM (ops:Array Oper):List (Bool × Nat)→Nat→Bool
 | [],m=>(readyM ops.toList 0 m).isEmpty
 | (true,i)::rest,m=>ready1M ops m i&&free1M ops m i&&okOrdM ops rest (m|||2 ^ i)
 | (false,i)::rest,m=>decide (readyM ops.toList 0 m=[i])&&okOrdM ops rest (m|||2 ^ i)
theorem ready1M_lt {m i:Nat} (h:ready1M ops m i=true):i<ops.size:=by
 unfold ready1M at h
 split at h
 ·next o ho=>exact (Array.getElem?_eq_some_iff.1 ho).1
 ·cases h
theorem readyM_lt {listed:Array Bool} {m i:Nat} (h:Agree ops.size listed m) (hr:readyM ops.toList 0 m=[i]):i<ops.size:=by
 rw [← readyM_eq h] at hr
 have:i ∈ Region.ready .any ops listed:=by rw [hr];simp
 unfold Region.ready at this
 exact List.mem_range.1 (List.mem_filter.1 this).1
theorem okOrdM_ok:∀ (l:List (Bool × Nat)) (listed:Array Bool) (m:Nat),Agree ops.size listed m→okOrdM ops l m=true→okOrd ops l listed=true
 | [],listed,m,h,ho=>by rw [okOrd,readyM_eq h];exact ho
 | (true,i)::rest,listed,m,h,ho=>by
  simp only [okOrdM,Bool.and_eq_true] at ho
  have hi:=ready1M_lt ho.1.1
  rw [okOrd,ready1_eq,ready1M_eq h,free1M_eq h,ho.1.1,ho.1.2,okOrdM_ok rest _ _ (h.set hi) ho.2];rfl
 | (false,i)::rest,listed,m,h,ho=>by
  simp only [okOrdM,Bool.and_eq_true,decide_eq_true_eq] at ho
  have hi:=readyM_lt h ho.1
  rw [okOrd,readyM_eq h,decide_eq_true ho.1,okOrdM_ok rest _ _ (h.set hi) ho.2];rfl
def setM (m:Nat) (fl:List Fl):Nat:=fl.foldl (fun m f=>m|||2 ^ f.op) m
theorem Agree.setFl:∀ (fl:List Fl) {n:Nat} {listed:Array Bool} {m:Nat},Agree n listed m→(∀ f ∈ fl,f.op<n)→Agree n (Go.Proofs.YtaldbfflkpgfoaaGreatDoor.setFl listed fl) (setM m fl)
 | [],_,_,_,h,_=>h
 | f::fl,n,listed,m,h,hf=>Agree.setFl fl (h.set (hf f (by simp))) (fun g hg=>hf g (by simp [hg]))
def okFloM (ops:Array Oper) (fl:List Fl) (tl:List (Bool × Nat)):List (Bool × Nat)→Nat→Bool
 | [],m=>okOrdM ops tl (setM m fl)&&
   fl.all fun f=>ready1M ops m f.op&&decide (readyM ops.toList 0 (setM m (fl.filter (·.op !=f.op)))=[f.op])
 | (true,i)::rest,m=>ready1M ops m i&&free1M ops m i&&okFloM ops fl tl rest (m|||2 ^ i)
 | (false,i)::rest,m=>ready1M ops m i&&decide (readyM ops.toList 0 (setM m fl)=[i])&&okFloM ops fl tl rest (m|||2 ^ i)
theorem okFloM_ok (fl:List Fl) (tl:List (Bool × Nat)) (hfl:∀ f ∈ fl,f.op<ops.size):∀ (l:List (Bool × Nat)) (listed:Array Bool) (m:Nat),Agree ops.size listed m→okFloM ops fl tl l m=true→okFlo2 ops fl tl l listed=true
 | [],listed,m,h,ho=>by
  simp only [okFloM,Bool.and_eq_true,List.all_eq_true] at ho
  simp only [okFlo2,Bool.and_eq_true,List.all_eq_true]
  refine ⟨okOrdM_ok tl _ _ (Agree.setFl fl h hfl) ho.1,fun f hf=>?_⟩
  have hs:=Agree.setFl (fl.filter (·.op !=f.op)) h (fun g hg=>hfl g (List.mem_filter.1 hg).1)
  rw [ready1M_eq h,readyM_eq hs]
  exact ho.2 f hf
 | (true,i)::rest,listed,m,h,ho=>by
  simp only [okFloM,Bool.and_eq_true] at ho
  have hi:=ready1M_lt ho.1.1
  rw [okFlo2,ready1M_eq h,free1M_eq h,ho.1.1,ho.1.2,okFloM_ok fl tl hfl rest _ _ (h.set hi) ho.2];rfl
 | (false,i)::rest,listed,m,h,ho=>by
  simp only [okFloM,Bool.and_eq_true,decide_eq_true_eq] at ho
  have hi:=ready1M_lt ho.1.1
  rw [okFlo2,ready1M_eq h,readyM_eq (Agree.setFl fl h hfl),ho.1.1,decide_eq_true ho.1.2,okFloM_ok fl tl hfl rest _ _ (h.set hi) ho.2];rfl
theorem wp_region_floM {id:Nat} {a:Act} {w:World} (S:World→Prop) (l:List (Bool × Nat)) (fl:List Fl) (tl:List (Bool × Nat)) (hm:P.follows .mixedOrders=true) (hs:Region.noSelect ops=true)
  (hok:(okFloM ops fl tl l 0&&fl.all fun f=>decide (f.op<ops.size))=true) (hap:okAp ops fl l=true) (hal:okAl ops fl=true) (hl:l.length+fl.length+tl.length≤ops.size)
  (hQ:∀ c (a:Act) (d:Tmp) v w,Q (.panic c) (a.put (some d) v) w→Q (.panic c) a w) (hQ':∀ c (a:Act) (d:Tmp) v w,Q (.panic c) a w→Q (.panic c) (a.put (some d) v) w) (hSa:∀ w o,S w→S (w.alloc o)) (hS:S w.drew)
  (hz:∀ f ∈ fl,∀ w,(Instr.alloc f.ty true (.tuple #[])).run P w=.ok (.pointer (some ⟨w.heap.size,0,none⟩)) (w.alloc (.cells f.zero f.ty)))
  (h:wpFlo P ops Q S (FloFin P ops Q S w.heap.size fl tl) l a w.drew):(Code.region id ops true).wp P Q a w:=by
 rw [Bool.and_eq_true,List.all_eq_true] at hok
 exact wp_region_flo2 S l fl tl hm hs (okFloM_ok fl tl (fun f hf=>of_decide_eq_true (hok.2 f hf)) l _ 0 (Agree.zero _) hok.1) hap hal hl hQ hQ' hSa hS hz h
end
end Go.Proofs.YtaldbfflkpgfoaaGreatDoor
