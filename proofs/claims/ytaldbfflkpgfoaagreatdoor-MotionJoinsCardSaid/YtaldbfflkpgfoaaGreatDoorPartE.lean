/- Joined of: Gen39, Gen9, Gen61, R1j, Ve, Gen62, Syc, Gen91, Sl, In, Gen90, Rf, Fl, Gen92, Scal, Stq, Wh. -/
import Derived.Test.YtaldbfflkpgfoaaGreatDoorPartD
import Derived.Test.YtaldbfflkpgfoaaGreatDoorPartB
import Derived.Test.YtaldbfflkpgfoaaGreatDoorPartA
import Derived.Test.YtaldbfflkpgfoaaGreatDoorPartC
import Derived.RangeFuncFrom
import Derived.RangeFuncWrites
import Derived.RangeFuncMany
import Derived.RangeFuncLeaves
import Derived.RangeFuncCalls
import Derived.RangeFuncBound
import Derived.TacticsIn
import Derived.LoopNIn
import Derived.RangeFuncNested
import Init.Data.Rat.Lemmas
namespace Go.Proofs.YtaldbfflkpgfoaaGreatDoor
open Go.RowKit

set_option maxRecDepth 100000 in
set_option maxHeartbeats 1000000 in
theorem div_a {k m:Nat} {u0 u1 u2 u3 v0 v1 v2 v3:Value} {a b:Rat} {w:World} (ha:IsRat w k u0 u1 u2 u3 a) (hb:IsRat w m v0 v1 v2 v3 b) (_hk:k+m≤100000) (h0:b.num≠0):
    Calls Tryz.prog 58 #[(.agg #[u0,u1,u2,u3]),(.agg #[v0,v1,v2,v3])] w fun e w'=>(∃ c0 c1 c2 c3,e=.returned (.tuple #[.agg #[c0,c1,c2,c3],.int .i64 0])∧IsRat w' (k+m) c0 c1 c2 c3 (a/b))∧Gr w w':=by
 have hka:=ha.big
 have hkb:=hb.big
 have he:(sgn (b).num==(0:Int))=false:=by rw [beq_eq_false_iff_ne];exact fun e=>h0 (zc4.1 e)
 go_enter Tryz.func58,Tryz.ntmps58
 have hB:=Gr.refl w
 refine wp_seq_k (fun K1 k1=>?_)
 refine rg [0,1,2,3] ?_
 refine se ?_
 refine eb 36 #[u0,u1,u2,u3] 2 hB fun b2 w2 g2 L2 o2 q2 hB=>?_
 simp only [p3,p4]
 refine se ?_
 refine eb 36 #[v0,v1,v2,v3] 3 hB fun b3 w3 g3 L3 o3 q3 hB=>?_
 simp only [p3,p4]
 refine se ?_
 refine ea 36 #[.bool false,.slice none 0 0,.bool false,.slice none 0 0] 4 hB fun b4 w4 g4 L4 o4 q4 hB=>?_
 replace L2:=L2.gr g3
 have ah:=L2.ne o4
 have af:=L3.ne o4
 simp only [p3,p4]
 refine sv 5 (.int .i64 0) ?_
 refine za0 ?_
 refine k1 _ _ ?_
 try clear k1 K1
 refine wp_seq_k (fun K5 k5=>?_)
 refine wp_seq_k (fun K6 k6=>?_)
 refine rg [0,1,2] ?_
 replace L3:=L3.gr g4
 refine sw 6 (.agg #[v0,v1,v2,v3]) rfl (rl 36 0 [v0,v1,v2,v3] L3) ?_
 refine se ?_
 have aC:=g2.kp.trans (g3.kp.trans g4.kp)
 replace hb:=hb.kp aC
 refine ec 7 (zO1 hb) ?_
 rintro e7 w7 ⟨rfl,g7⟩
 refine ⟨_,rfl,?_⟩
 replace hB:=hB.trans g7
 simp only [p3,p4]
 refine sw 8 (.bool false) rfl (RunV.bool (x:=(sgn (b).num==(0:Int))) (rvk (by kernel_rfl)) he) ?_
 refine za0 ?_
 refine k6 _ _ ?_
 try clear k6 K6
 refine wp_cond_false rfl ?_
 refine wp_skip ?_
 refine k5 _ _ ?_
 try clear k5 K5
 refine wp_seq_k (fun K9 k9=>?_)
 have aa:=Gr.drew w7
 replace hB:=hB.trans aa
 replace L2:=L2.gr (g4.trans (g7.trans aa))
 replace L3:=L3.gr (g7.trans aa)
 refine za3 (fun w'=>Lc w' b2 #[u0,u1,u2,u3] 36∧Lc w' b3 #[v0,v1,v2,v3] 36) [(true,0),(true,1),(true,2),(true,5),(true,7),(true,8),(false,3),(false,4),(false,6),(false,9),(false,10),(false,11),(true,12)] (by kernel_rfl) (by kernel_rfl) (by kernel_rfl) (by decide) (fun _ _ _ _ _ h=>h) ⟨L2,L3⟩ ?_
 refine ov 10 (.pointer (some ⟨b2,0,none⟩)) ?_
 refine ow 11 (.agg #[u0,u1]) rfl (fun w' hS=>(rl 34 0 [u0,u1] hS.1)) ?_
 refine ow 12 (.agg #[v0,v1,v2,v3]) rfl (fun w' hS=>(rl 36 0 [v0,v1,v2,v3] hS.2)) ?_
 refine ow 15 (.agg #[u0,u1,u2,u3]) rfl (fun w' hS=>(rl 36 0 [u0,u1,u2,u3] hS.1)) ?_
 refine ov 17 (.pointer (some ⟨b3,0,none⟩)) ?_
 refine ow 18 (.agg #[v0,v1]) rfl (fun w' hS=>(rl 34 0 [v0,v1] hS.2)) ?_
 refine oe ?_
 have ay:=g7.kp.trans aa.kp
 replace hb:=hb.kp ay
 refine ec 13 (zo3 hb) ?_
 rintro aK aT ⟨⟨aJ,aG,rfl,aB⟩,ac⟩
 refine ⟨_,rfl,?_⟩
 replace hB:=hB.trans ac
 replace L2:=L2.gr ac
 replace L3:=L3.gr ac
 refine ⟨⟨L2,L3⟩,?_⟩
 simp only [p3,p4]
 refine oe ?_
 have av:=g2.kp.trans (g3.kp.trans (g4.kp.trans (g7.kp.trans (aa.kp.trans ac.kp))))
 replace ha:=ha.kp av
 refine ec 14 (zq7 ha.num aB (by omega)) ?_
 rintro e32 aR ⟨⟨aO,aF,rfl,aw⟩,ad⟩
 refine ⟨_,rfl,?_⟩
 replace hB:=hB.trans ad
 replace L2:=L2.gr ad
 replace L3:=L3.gr ad
 refine ⟨⟨L2,L3⟩,?_⟩
 simp only [p3,p4]
 refine oe ?_
 replace ha:=ha.kp ad.kp
 refine ec 16 (zo3 ha) ?_
 rintro aQ aI ⟨⟨aL,aN,rfl,aD⟩,ae⟩
 refine ⟨_,rfl,?_⟩
 replace hB:=hB.trans ae
 replace L2:=L2.gr ae
 replace L3:=L3.gr ae
 refine ⟨⟨L2,L3⟩,?_⟩
 simp only [p3,p4]
 refine oe ?_
 have au:=ac.kp.trans (ad.kp.trans ae.kp)
 replace hb:=hb.kp au
 refine ec 19 (zq7 aD hb.num (by omega)) ?_
 rintro aU aH ⟨⟨aE,aS,rfl,aA⟩,ai⟩
 refine ⟨_,rfl,?_⟩
 replace hB:=hB.trans ai
 replace L2:=L2.gr ai
 replace L3:=L3.gr ai
 refine ⟨⟨L2,L3⟩,?_⟩
 simp only [p3,p4]
 refine oe ?_
 have ax:=ae.kp.trans ai.kp
 replace aw:=aw.kp ax
 refine ec 20 (yz7 (k+m) aw aA (Int.mul_ne_zero (Int.ne_of_gt (Int.natCast_pos.2 a.den_pos)) h0) (by omega) (by omega) (by omega) (by omega)) ?_
 rintro aP aV ⟨⟨ak,al,ar,aq,rfl,ab⟩,ap⟩
 refine ⟨_,rfl,?_⟩
 replace hB:=hB.trans ap
 replace L2:=L2.gr ap
 replace L3:=L3.gr ap
 refine ⟨⟨L2,L3⟩,?_⟩
 simp only [p3,p4]
 refine oe ?_
 replace L4:=L4.gr (g7.trans (aa.trans (ac.trans (ad.trans (ae.trans (ai.trans ap))))))
 refine es 36 0 (.agg #[ak,al,ar,aq]) [ak,al,ar,aq] #[ak,al,ar,aq] L4 hB q4 ⟨ab.one0,ab.one1,ab.one2,ab.one3,trivial⟩ fun aM aj az L4 hB=>?_
 replace L2:=aj.lc L2 ah
 replace L3:=aj.lc L3 af
 refine ⟨⟨L2,L3⟩,?_⟩
 refine ov 5 (.int .i64 0) ?_
 refine zc0 ?_
 refine k9 _ _ ?_
 try clear k9 K9
 refine wp_ret ?_
 refine bodyPost_ret (v:=(.tuple #[(.agg #[ak,al,ar,aq]),.int .i64 0])) (za5 _ _ _ rfl rfl L4 (by kernel_rfl) rfl) rfl ⟨?_,hB⟩
 replace ab:=ab.kp az
 exact ⟨_,_,_,_,rfl,by rw [← ye4];exact ab⟩

set_option maxRecDepth 100000 in
set_option maxHeartbeats 1000000 in
theorem div_0 {k m:Nat} {u0 u1 u2 u3 v0 v1 v2 v3:Value} {a b:Rat} {w:World} (_ha:IsRat w k u0 u1 u2 u3 a) (hb:IsRat w m v0 v1 v2 v3 b) (h0:b.num=0):
    Calls Tryz.prog 58 #[(.agg #[u0,u1,u2,u3]),(.agg #[v0,v1,v2,v3])] w fun e w'=>e=.returned (.tuple #[.agg #[.bool false,.slice none 0 0,.bool false,.slice none 0 0],.int .i64 19])∧Gr w w':=by
 have he:(sgn (b).num==(0:Int))=true:=by rw [h0];rfl
 go_enter Tryz.func58,Tryz.ntmps58
 have hB:=Gr.refl w
 refine wp_seq_k (fun K1 k1=>?_)
 refine rg [0,1,2,3] ?_
 refine se ?_
 refine eb 36 #[u0,u1,u2,u3] 2 hB fun b2 w2 g2 L2 o2 q2 hB=>?_
 simp only [p3,p4]
 refine se ?_
 refine eb 36 #[v0,v1,v2,v3] 3 hB fun b3 w3 g3 L3 o3 q3 hB=>?_
 simp only [p3,p4]
 refine se ?_
 refine ea 36 #[.bool false,.slice none 0 0,.bool false,.slice none 0 0] 4 hB fun b4 w4 g4 L4 o4 q4 hB=>?_
 simp only [p3,p4]
 refine sv 5 (.int .i64 0) ?_
 refine za0 ?_
 refine k1 _ _ ?_
 try clear k1 K1
 refine wp_seq_k (fun K5 k5=>?_)
 refine wp_seq_k (fun K6 k6=>?_)
 refine rg [0,1,2] ?_
 replace L3:=L3.gr g4
 refine sw 6 (.agg #[v0,v1,v2,v3]) rfl (rl 36 0 [v0,v1,v2,v3] L3) ?_
 refine se ?_
 have ab:=g2.kp.trans (g3.kp.trans g4.kp)
 replace hb:=hb.kp ab
 refine ec 7 (zO1 hb) ?_
 rintro e7 w7 ⟨rfl,g7⟩
 refine ⟨_,rfl,?_⟩
 replace hB:=hB.trans g7
 simp only [p3,p4]
 refine sw 8 (.bool true) rfl (RunV.bool (x:=(sgn (b).num==(0:Int))) (rvk (by kernel_rfl)) he) ?_
 refine za0 ?_
 refine k6 _ _ ?_
 try clear k6 K6
 refine wp_cond_true rfl ?_
 refine wp_seq_k (fun K9 k9=>?_)
 refine rg [0,1,2] ?_
 refine sv 9 (.agg #[.bool false,.slice none 0 0,.bool false,.slice none 0 0]) ?_
 refine se ?_
 replace L4:=L4.gr g7
 refine es 36 0 (.agg #[.bool false,.slice none 0 0,.bool false,.slice none 0 0]) [.bool false,.slice none 0 0,.bool false,.slice none 0 0] #[.bool false,.slice none 0 0,.bool false,.slice none 0 0] L4 hB q4 ⟨rfl,rfl,rfl,rfl,trivial⟩ fun ad ac aa L4 hB=>?_
 refine sv 5 (.int .i64 19) ?_
 refine za0 ?_
 refine k9 _ _ ?_
 try clear k9 K9
 refine wp_ret ?_
 simp only [Exit.then]
 refine bodyPost_ret (v:=(.tuple #[(.agg #[.bool false,.slice none 0 0,.bool false,.slice none 0 0]),.int .i64 19])) (za5 _ _ _ rfl rfl L4 (by kernel_rfl) rfl) rfl ⟨?_,hB⟩
 exact rfl

set_option maxRecDepth 100000 in
set_option maxHeartbeats 1000000 in
theorem r2_div {k m:Nat} (a b:Rat) (ha:Sz k a.num∧Sz k (a.den:Int)) (hb:Sz m b.num∧Sz m (b.den:Int)) (h0:b.num≠0) (_hk:k+m≤19998) (w:World):
    Calls Tryz.prog 64 #[(.string ⟨(za1 (a):List UInt8).toArray⟩),(.string ⟨(za1 (b):List UInt8).toArray⟩)] w fun e w'=>e=.returned (.string ⟨(za1 (a/b)).toArray⟩)∧Gr w w':=by
 go_enter Tryz.func64,Tryz.ntmps64
 have hB:=Gr.refl w
 refine wp_seq_k (fun K1 k1=>?_)
 refine rg [0] ?_
 refine sv 4 (.string ⟨([]:List UInt8).toArray⟩) ?_
 refine za0 ?_
 refine k1 _ _ ?_
 try clear k1 K1
 refine wp_seq_k (fun K2 k2=>?_)
 refine rg [0,1,2,3,4,5,6] ?_
 refine sv 10 (.string ⟨(za1 (a):List UInt8).toArray⟩) ?_
 refine se ?_
 refine ec 11 (zh7 a ha.1 ha.2 (by omega) _) ?_
 rintro e3 w3 ⟨rfl,g3⟩
 refine ⟨_,rfl,?_⟩
 replace hB:=hB.trans g3
 simp only [p3,p4]
 refine sv 9 (.tuple #[(.string ⟨(Lib.itoa (a.num):List UInt8).toArray⟩),(.string ⟨(Lib.itoa ((a.den:Int)):List UInt8).toArray⟩)]) ?_
 refine sv 12 (.string ⟨(Lib.itoa (a.num):List UInt8).toArray⟩) ?_
 refine sv 13 (.string ⟨(Lib.itoa ((a.den:Int)):List UInt8).toArray⟩) ?_
 refine sv 5 (.string ⟨(Lib.itoa (a.num):List UInt8).toArray⟩) ?_
 refine sv 6 (.string ⟨(Lib.itoa ((a.den:Int)):List UInt8).toArray⟩) ?_
 refine za0 ?_
 refine k2 _ _ ?_
 try clear k2 K2
 refine wp_seq_k (fun K4 k4=>?_)
 refine rg [0,1,2,3,4,5,6] ?_
 refine sv 15 (.string ⟨(za1 (b):List UInt8).toArray⟩) ?_
 refine se ?_
 refine ec 16 (zh7 b hb.1 hb.2 (by omega) _) ?_
 rintro e5 w5 ⟨rfl,g5⟩
 refine ⟨_,rfl,?_⟩
 replace hB:=hB.trans g5
 simp only [p3,p4]
 refine sv 14 (.tuple #[(.string ⟨(Lib.itoa (b.num):List UInt8).toArray⟩),(.string ⟨(Lib.itoa ((b.den:Int)):List UInt8).toArray⟩)]) ?_
 refine sv 17 (.string ⟨(Lib.itoa (b.num):List UInt8).toArray⟩) ?_
 refine sv 18 (.string ⟨(Lib.itoa ((b.den:Int)):List UInt8).toArray⟩) ?_
 refine sv 7 (.string ⟨(Lib.itoa (b.num):List UInt8).toArray⟩) ?_
 refine sv 8 (.string ⟨(Lib.itoa ((b.den:Int)):List UInt8).toArray⟩) ?_
 refine za0 ?_
 refine k4 _ _ ?_
 try clear k4 K4
 refine wp_seq_k (fun K6 k6=>?_)
 refine rg [0,1,2,3,4,5,6,7] ?_
 refine sv 19 (.string ⟨(Lib.itoa (a.num):List UInt8).toArray⟩) ?_
 refine sv 20 (.string ⟨(Lib.itoa ((b.den:Int)):List UInt8).toArray⟩) ?_
 refine se ?_
 refine ec 21 (zK2 (a.num) ((b.den:Int)) ha.1 hb.2 (by omega) _) ?_
 rintro e7 w7 ⟨rfl,g7⟩
 refine ⟨_,rfl,?_⟩
 replace hB:=hB.trans g7
 simp only [p3,p4]
 refine sv 22 (.string ⟨(Lib.itoa ((a.den:Int)):List UInt8).toArray⟩) ?_
 refine sv 23 (.string ⟨(Lib.itoa (b.num):List UInt8).toArray⟩) ?_
 refine se ?_
 refine ec 24 (zK2 ((a.den:Int)) (b.num) ha.2 hb.1 (by omega) _) ?_
 rintro e8 w8 ⟨rfl,g8⟩
 refine ⟨_,rfl,?_⟩
 replace hB:=hB.trans g8
 simp only [p3,p4]
 refine se ?_
 refine ec 25 (yv9 (a.num*(b.den:Int)) ((a.den:Int)*b.num) _ rfl (ha.1.mul hb.2) ((ha.2.mul hb.1).mono (by omega)) (Int.mul_ne_zero (Int.ne_of_gt (zs5 a)) h0) (by omega) _) ?_
 rintro e9 w9 ⟨rfl,g9⟩
 refine ⟨_,rfl,?_⟩
 replace hB:=hB.trans g9
 simp only [p3,p4]
 refine sv 4 (.string ⟨(za1 (Rat.divInt (a.num*(b.den:Int)) ((a.den:Int)*b.num)):List UInt8).toArray⟩) ?_
 refine za0 ?_
 refine k6 _ _ ?_
 try clear k6 K6
 refine wp_ret ?_
 refine bodyPost_ret (v:=(.string ⟨(za1 (Rat.divInt (a.num*(b.den:Int)) ((a.den:Int)*b.num)):List UInt8).toArray⟩)) (zb0 rfl rfl) rfl ⟨?_,hB⟩
 exact (by rw [ye4])

set_option maxRecDepth 100000 in
set_option maxHeartbeats 1000000 in
theorem yi7 {k:Nat} {ap aa ae ad al ah aj af ai ab ac ak:Value} {a1 a2 a3:Rat} {w:World} (ar:IsRat w k ap aa ae ad a1) (au:IsRat w k al ah aj af a2) (aq:IsRat w k ai ab ac ak a3) (_hk:k≤25000) (ht:Tab w):
    Calls Tryz.prog 44 #[(.agg #[ap,aa,ae,ad,al,ah,aj,af,ai,ab,ac,ak])] w fun e w'=>e=.returned (.agg #[.string ⟨(za1 (a1)).toArray⟩,.string ⟨(za1 (a2)).toArray⟩,.string ⟨(za1 (a3)).toArray⟩])∧Gr w w':=by
 go_enter Tryz.func44,Tryz.ntmps44
 have hB:=Gr.refl w
 refine wp_seq_k (fun K1 k1=>?_)
 refine rg [0,1] ?_
 refine se ?_
 refine eb 38 #[ap,aa,ae,ad,al,ah,aj,af,ai,ab,ac,ak] 1 hB fun b2 w2 g2 L2 o2 q2 hB=>?_
 simp only [p3,p4]
 refine se ?_
 refine ea 25 #[(.string ⟨([]:List UInt8).toArray⟩),(.string ⟨([]:List UInt8).toArray⟩),(.string ⟨([]:List UInt8).toArray⟩)] 2 hB fun b3 w3 g3 L3 o3 q3 hB=>?_
 simp only [p3,p4]
 refine za0 ?_
 refine k1 _ _ ?_
 try clear k1 K1
 refine wp_seq_k (fun K4 k4=>?_)
 refine rg [0] ?_
 refine se ?_
 refine ea 25 #[(.string ⟨([]:List UInt8).toArray⟩),(.string ⟨([]:List UInt8).toArray⟩),(.string ⟨([]:List UInt8).toArray⟩)] 3 hB fun b5 w5 g5 L5 o5 q5 hB=>?_
 replace L2:=L2.gr g3
 have av:=L3.ne o5
 simp only [p3,p4]
 refine za0 ?_
 refine k4 _ _ ?_
 try clear k4 K4
 refine wp_seq_k (fun K6 k6=>?_)
 refine wp_seq_k (fun K7 k7=>?_)
 refine rg [0,1] ?_
 replace L2:=L2.gr g5
 refine sw 6 (.agg #[ap,aa,ae,ad,al,ah,aj,af,ai,ab,ac,ak]) rfl (rl 38 0 [ap,aa,ae,ad,al,ah,aj,af,ai,ab,ac,ak] L2) ?_
 refine sv 7 (.int .i64 0) ?_
 refine za0 ?_
 refine k7 _ _ ?_
 try clear k7 K7
 refine wp_block ?_
 refine wp_loop_rounds 4 ?_
 show Code.wp _ _ _ _ _
 refine wp_seq_k (fun K8 k8=>?_)
 refine rg [0] ?_
 refine sv 8 (.bool true) ?_
 refine za0 ?_
 refine k8 _ _ ?_
 try clear k8 K8
 refine wp_seq_k (fun K9 k9=>?_)
 refine wp_cond_true rfl ?_
 refine wp_skip ?_
 refine k9 _ _ ?_
 try clear k9 K9
 refine wp_seq_k (fun bB bh=>?_)
 refine wp_block ?_
 refine wp_seq_k (fun bA a5=>?_)
 refine rg [0,1,2,3,4] ?_
 refine sv 9 (.int .i64 0) ?_
 refine sv 10 (.agg #[ap,aa,ae,ad]) ?_
 refine se ?_
 refine ea 36 #[.bool false,.slice none 0 0,.bool false,.slice none 0 0] 5 hB fun bG bL aE aY ba q12 hB=>?_
 replace L3:=L3.gr g5
 have aw:=L3.ne ba
 have aC:=L5.ne ba
 simp only [p3,p4]
 refine sv 4 (.int .i64 0) ?_
 refine se ?_
 refine es 36 0 (.agg #[ap,aa,ae,ad]) [ap,aa,ae,ad] #[ap,aa,ae,ad] aY hB q12 ⟨ar.one0,ar.one1,ar.one2,ar.one3,trivial⟩ fun bN aI ay aY hB=>?_
 refine za0 ?_
 refine a5 _ _ ?_
 try clear a5 bA
 refine rg [0,1,2,3,4] ?_
 refine sv 11 (.int .i64 0) ?_
 refine sw 12 (.agg #[ap,aa,ae,ad]) rfl (rl 36 0 [ap,aa,ae,ad] aY) ?_
 refine se ?_
 have aQ:=g2.kp.trans (g3.kp.trans (g5.kp.trans (aE.kp.trans ay)))
 replace ar:=ar.kp aQ
 refine ec 13 (zF6 ar (by omega) (ht.gr hB)) ?_
 rintro bE bS ⟨rfl,aF⟩
 refine ⟨_,rfl,?_⟩
 replace hB:=hB.trans aF
 simp only [p3,p4]
 refine sv 14 (.pointer (some ⟨b5,0,none⟩)) ?_
 refine se ?_
 replace L5:=(aI.lc (L5.gr aE) aC).gr aF
 refine es 23 0 (.string ⟨(za1 (a1):List UInt8).toArray⟩) [(.string ⟨(za1 (a1):List UInt8).toArray⟩)] #[(.string ⟨(za1 (a1):List UInt8).toArray⟩),(.string ⟨([]:List UInt8).toArray⟩),(.string ⟨([]:List UInt8).toArray⟩)] L5 hB q5 ⟨rfl,trivial⟩ fun bO aT aD L5 hB=>?_
 refine za0 ?_
 refine bh _ _ ?_
 try clear bh bB
 refine rg [0,1] ?_
 refine sv 15 (.int .i64 1) ?_
 refine sv 7 (.int .i64 1) ?_
 refine za0 ?_
 show Code.rounds _ _ _ _ _ _
 show Code.wp _ _ _ _ _
 refine wp_seq_k (fun bm aZ=>?_)
 refine rg [0] ?_
 refine sv 8 (.bool true) ?_
 refine za0 ?_
 refine aZ _ _ ?_
 try clear aZ bm
 refine wp_seq_k (fun bq a9=>?_)
 refine wp_cond_true rfl ?_
 refine wp_skip ?_
 refine a9 _ _ ?_
 try clear a9 bq
 refine wp_seq_k (fun bo a0=>?_)
 refine wp_block ?_
 refine wp_seq_k (fun bn bb=>?_)
 refine rg [0,1,2,3,4] ?_
 refine sv 9 (.int .i64 1) ?_
 refine sv 10 (.agg #[al,ah,aj,af]) ?_
 refine se ?_
 refine ea 36 #[.bool false,.slice none 0 0,.bool false,.slice none 0 0] 5 hB fun bP bF aL aM a6 bk hB=>?_
 replace L3:=aT.lc ((aI.lc (L3.gr aE) aw).gr aF) av
 have az:=L3.ne a6
 have ax:=L5.ne a6
 simp only [p3,p4]
 refine sv 4 (.int .i64 1) ?_
 refine se ?_
 refine es 36 0 (.agg #[al,ah,aj,af]) [al,ah,aj,af] #[al,ah,aj,af] aM hB bk ⟨au.one0,au.one1,au.one2,au.one3,trivial⟩ fun bU aG aJ aM hB=>?_
 refine za0 ?_
 refine bb _ _ ?_
 try clear bb bn
 refine rg [0,1,2,3,4] ?_
 refine sv 11 (.int .i64 1) ?_
 refine sw 12 (.agg #[al,ah,aj,af]) rfl (rl 36 0 [al,ah,aj,af] aM) ?_
 refine se ?_
 have aS:=g2.kp.trans (g3.kp.trans (g5.kp.trans (aE.kp.trans (ay.trans (aF.kp.trans (aD.trans (aL.kp.trans aJ)))))))
 replace au:=au.kp aS
 refine ec 13 (zF6 au (by omega) (ht.gr hB)) ?_
 rintro e23 bD ⟨rfl,aK⟩
 refine ⟨_,rfl,?_⟩
 replace hB:=hB.trans aK
 simp only [p3,p4]
 refine sv 14 (.pointer (some ⟨b5,1,none⟩)) ?_
 refine se ?_
 replace L5:=(aG.lc (L5.gr aL) ax).gr aK
 refine es 23 1 (.string ⟨(za1 (a2):List UInt8).toArray⟩) [(.string ⟨(za1 (a2):List UInt8).toArray⟩)] #[(.string ⟨(za1 (a1):List UInt8).toArray⟩),(.string ⟨(za1 (a2):List UInt8).toArray⟩),(.string ⟨([]:List UInt8).toArray⟩)] L5 hB q5 ⟨rfl,trivial⟩ fun bW aO aN L5 hB=>?_
 refine za0 ?_
 refine a0 _ _ ?_
 try clear a0 bo
 refine rg [0,1] ?_
 refine sv 15 (.int .i64 2) ?_
 refine sv 7 (.int .i64 2) ?_
 refine za0 ?_
 show Code.rounds _ _ _ _ _ _
 show Code.wp _ _ _ _ _
 refine wp_seq_k (fun bt a7=>?_)
 refine rg [0] ?_
 refine sv 8 (.bool true) ?_
 refine za0 ?_
 refine a7 _ _ ?_
 try clear a7 bt
 refine wp_seq_k (fun bj bg=>?_)
 refine wp_cond_true rfl ?_
 refine wp_skip ?_
 refine bg _ _ ?_
 try clear bg bj
 refine wp_seq_k (fun bv a8=>?_)
 refine wp_block ?_
 refine wp_seq_k (fun bi bd=>?_)
 refine rg [0,1,2,3,4] ?_
 refine sv 9 (.int .i64 2) ?_
 refine sv 10 (.agg #[ai,ab,ac,ak]) ?_
 refine se ?_
 refine ea 36 #[.bool false,.slice none 0 0,.bool false,.slice none 0 0] 5 hB fun bQ bV aW aV a4 bz hB=>?_
 replace L3:=aO.lc ((aG.lc (L3.gr aL) az).gr aK) av
 have aB:=L3.ne a4
 have aA:=L5.ne a4
 simp only [p3,p4]
 refine sv 4 (.int .i64 2) ?_
 refine se ?_
 refine es 36 0 (.agg #[ai,ab,ac,ak]) [ai,ab,ac,ak] #[ai,ab,ac,ak] aV hB bz ⟨aq.one0,aq.one1,aq.one2,aq.one3,trivial⟩ fun bR aH aR aV hB=>?_
 refine za0 ?_
 refine bd _ _ ?_
 try clear bd bi
 refine rg [0,1,2,3,4] ?_
 refine sv 11 (.int .i64 2) ?_
 refine sw 12 (.agg #[ai,ab,ac,ak]) rfl (rl 36 0 [ai,ab,ac,ak] aV) ?_
 refine se ?_
 have aU:=g2.kp.trans (g3.kp.trans (g5.kp.trans (aE.kp.trans (ay.trans (aF.kp.trans (aD.trans (aL.kp.trans (aJ.trans (aK.kp.trans (aN.trans (aW.kp.trans aR)))))))))))
 replace aq:=aq.kp aU
 refine ec 13 (zF6 aq (by omega) (ht.gr hB)) ?_
 rintro e32 bJ ⟨rfl,aX⟩
 refine ⟨_,rfl,?_⟩
 replace hB:=hB.trans aX
 simp only [p3,p4]
 refine sv 14 (.pointer (some ⟨b5,2,none⟩)) ?_
 refine se ?_
 replace L5:=(aH.lc (L5.gr aW) aA).gr aX
 refine es 23 2 (.string ⟨(za1 (a3):List UInt8).toArray⟩) [(.string ⟨(za1 (a3):List UInt8).toArray⟩)] #[(.string ⟨(za1 (a1):List UInt8).toArray⟩),(.string ⟨(za1 (a2):List UInt8).toArray⟩),(.string ⟨(za1 (a3):List UInt8).toArray⟩)] L5 hB q5 ⟨rfl,trivial⟩ fun bT aP bC L5 hB=>?_
 refine za0 ?_
 refine a8 _ _ ?_
 try clear a8 bv
 refine rg [0,1] ?_
 refine sv 15 (.int .i64 3) ?_
 refine sv 7 (.int .i64 3) ?_
 refine za0 ?_
 show Code.rounds _ _ _ _ _ _
 show Code.wp _ _ _ _ _
 refine wp_seq_k (fun bp bc=>?_)
 refine rg [0] ?_
 refine sv 8 (.bool false) ?_
 refine za0 ?_
 refine bc _ _ ?_
 try clear bc bp
 refine wp_seq_k (fun bH bM=>?_)
 refine wp_cond_false rfl ?_
 refine wp_exit ?_
 simp only [Exit.then,Exit.inBlock,↓reduceIte]
 refine k6 _ _ ?_
 try clear k6 K6
 refine wp_seq_k (fun bw bf=>?_)
 refine rg [0,1] ?_
 refine sw 16 (.agg #[(.string ⟨(za1 (a1):List UInt8).toArray⟩),(.string ⟨(za1 (a2):List UInt8).toArray⟩),(.string ⟨(za1 (a3):List UInt8).toArray⟩)]) rfl (rl 25 0 [(.string ⟨(za1 (a1):List UInt8).toArray⟩),(.string ⟨(za1 (a2):List UInt8).toArray⟩),(.string ⟨(za1 (a3):List UInt8).toArray⟩)] L5) ?_
 refine se ?_
 replace L3:=aP.lc ((aH.lc (L3.gr aW) aB).gr aX) av
 refine es 25 0 (.agg #[(.string ⟨(za1 (a1):List UInt8).toArray⟩),(.string ⟨(za1 (a2):List UInt8).toArray⟩),(.string ⟨(za1 (a3):List UInt8).toArray⟩)]) [(.string ⟨(za1 (a1):List UInt8).toArray⟩),(.string ⟨(za1 (a2):List UInt8).toArray⟩),(.string ⟨(za1 (a3):List UInt8).toArray⟩)] #[(.string ⟨(za1 (a1):List UInt8).toArray⟩),(.string ⟨(za1 (a2):List UInt8).toArray⟩),(.string ⟨(za1 (a3):List UInt8).toArray⟩)] L3 hB q3 ⟨rfl,rfl,rfl,trivial⟩ fun bK bx bu L3 hB=>?_
 refine za0 ?_
 refine bf _ _ ?_
 try clear bf bw
 refine wp_ret ?_
 refine bodyPost_ret (v:=(.agg #[(.string ⟨(za1 (a1):List UInt8).toArray⟩),(.string ⟨(za1 (a2):List UInt8).toArray⟩),(.string ⟨(za1 (a3):List UInt8).toArray⟩)])) (zb3 _ _ _ rfl rfl L3 (by kernel_rfl)) rfl ⟨?_,hB⟩
 exact rfl

set_option maxRecDepth 10000 in
set_option maxHeartbeats 4000000 in
theorem yz0 (n:Int) (h0:0≤n) (h1:n≤9223372036854775807) (w:World):
  Calls Tryz.prog 102 #[.int .i64 n] w fun e w'=>e=.returned (.string ⟨(Lib.itoa n).toArray⟩)∧Gr w w':=by
 obtain ⟨len,hnx⟩:=NX.exists n.toNat
 have hl:len≤64:=hnx.len_bits (k:=63) (by omega)
 rw [show ((n.toNat:Nat):Int)=n by omega] at hnx
 go_enter Tryz.func102,Tryz.ntmps102
 go_wp2
 go_loopw [3,4] (fun d m wr=>∃ (k:Nat) (v:Value) (M:Int),d=v∧m=.int .i64 M∧0≤M∧M≤9223372036854775807∧k≤len∧Hid (M=tn n k∧OwnS wr 3 w.heap.size v (zk8 .i64 k (td n)))∧Below w.heap.size w wr) (fun _ m _=>(intOf m).toNat)
 case atStart=>exact ⟨0,_,n,rfl,rfl,h0,h1,Nat.zero_le _,⟨rfl,OwnS.nil _ _ _⟩,Below.refl _ _⟩
 case round=>
  obtain ⟨k,v,M,rfl,rfl,m0,m1,hk,hz,hB⟩:=hrel
  by_cases hp:0<M
  ·have hne:(M !=0)=true:=by simp;omega
   have hkl:k<len:=by
    rcases Nat.lt_or_ge k len with h | h
    ·exact h
    ·have:=zC9 hnx.top h
     have:=hz.out.1
     omega
   have d0:0≤M % 10:=by omega
   go_wp2_with (at_builtin;refine zc1 rfl (.tmp 17) (.tmp 19) _ (by rfl) 3 w.heap.size _ _ _ (by rfl) (hz.out.2.gr (Gr.alloc _ _)) _ _ _ (by rfl) (heap_alloc_new _ _) rfl w (hB.alloc hB.size _) (by rw [zb6];omega) 8 (by decide) Tryz.underlying175 zf3 rfl (by have:=hB.size;simp;omega) ?_)
   intro v1 w1 hown aa _ _
   go_wp2
   go_roundw
   case rel=>
    refine ⟨k+1,_,M/10,rfl,rfl,by omega,by omega,hkl,⟨by rw [zd9,hz.out.1],?_⟩,aa⟩
    rw [ze0,show td n k=M % 10 by unfold td;rw [hz.out.1]]
    exact hown
   case measure=>simp [intOf];omega
  ·have hM:M=0:=by omega
   subst hM
   obtain ⟨ao,cap,rfl,hcap,_,hrow⟩:=hz.out.2.drow
   have hx:tn ((n.toNat:Nat):Int) k=0:=by rw [show ((n.toNat:Nat):Int)=n by omega];exact hz.out.1.symm
   have hrow':DRow wr ao k (td ((n.toNat:Nat):Int)):=by rw [show ((n.toNat:Nat):Int)=n by omega];exact hrow
   have ab:¬ n<0:=by omega
   have htx:=zT0 false ao k cap n.toNat wr (by omega) hcap hx hrow'
   rw [zf8 (z:=n) (.inr ⟨rfl,by omega⟩)] at htx
   clear hx hrow hrow'
   go_wp2_with fail
   (with_reducible refine htx.mono ?_)
   rintro e w2 ⟨rfl,g2⟩
   clear htx
   go_wp2
   go_ret
   exact ⟨rfl,Below.trans hB (Below.mono g2 hB.size)⟩
set_option maxRecDepth 10000 in
set_option maxHeartbeats 4000000 in
theorem yz1 (n:Int) (h0:n<0) (h1:-9223372036854775808≤n) (w:World):
  Calls Tryz.prog 102 #[.int .i64 n] w fun e w'=>e=.returned (.string ⟨(Lib.itoa n).toArray⟩)∧Gr w w':=by
 obtain ⟨len,hnx⟩:=NX.exists n.natAbs
 have hl:len≤65:=hnx.len_bits (k:=64) (by omega)
 go_enter Tryz.func102,Tryz.ntmps102
 go_wp2
 go_loopw [3,4] (fun d m wr=>∃ (k:Nat) (v:Value) (M:Int),d=v∧m=.int .i64 M∧M≤0∧-9223372036854775808≤M∧k≤len∧Hid (-M=tn (n.natAbs:Int) k∧OwnS wr 3 w.heap.size v (zk8 .i64 k (td (n.natAbs:Int))))∧Below w.heap.size w wr) (fun _ m _=>(-intOf m).toNat)
 case atStart=>exact ⟨0,_,n,rfl,rfl,by omega,h1,Nat.zero_le _,⟨by rw [zh9];omega,OwnS.nil _ _ _⟩,Below.refl _ _⟩
 case round=>
  obtain ⟨k,v,M,rfl,rfl,m0,m1,hk,hz,hB⟩:=hrel
  by_cases hp:M<0
  ·have hne:(M !=0)=true:=by simp;omega
   have hkl:k<len:=by
    rcases Nat.lt_or_ge k len with h | h
    ·exact h
    ·have:=zC9 hnx.top h
     have:=hz.out.1
     omega
   obtain ⟨A,hA⟩:∃ A:Int,A=-M:=⟨_,rfl⟩
   have htm:M.tmod 10=-(A % 10):=by
    rw [hA,show M=-(-M) by omega,Int.neg_tmod,Int.tmod_eq_emod_of_nonneg (by omega),Int.neg_neg]
   have htd:M.tdiv 10=-(A/10):=by
    rw [hA,show M=-(-M) by omega,Int.neg_tdiv,Int.tdiv_eq_ediv_of_nonneg (by omega),Int.neg_neg]
   have d0:0≤A % 10:=by omega
   have d1:A % 10<10:=by omega
   have d2:0≤A/10:=by omega
   have d3:A/10≤9223372036854775807:=by omega
   have HA:=Lib.hid hA
   clear hA
   by_cases hx:A % 10=0
   ·have hxx:¬ -(A % 10)<0:=by omega
    go_wp2_with (at_builtin;refine zc1 rfl (.tmp 17) (.tmp 19) _ (by rfl) 3 w.heap.size _ _ _ (by rfl) (hz.out.2.gr (Gr.alloc _ _)) _ _ _ (by rfl) (heap_alloc_new _ _) rfl w (hB.alloc hB.size _) (by rw [zb6];omega) 8 (by decide) Tryz.underlying175 zf3 rfl (by have:=hB.size;simp;omega) ?_)
    intro v1 w1 hown aa _ _
    go_wp2
    go_roundw
    case rel=>
     refine ⟨k+1,_,-(A/10),rfl,rfl,by omega,by omega,hkl,⟨by rw [zd9,← hz.out.1,HA.out];omega,?_⟩,aa⟩
     rw [ze0,show td (n.natAbs:Int) k=0 by unfold td;rw [← hz.out.1,← HA.out];exact hx]
     exact hown
    case measure=>simp [intOf];have:=HA.out;omega
   ·have hxx:-(A % 10)<0:=by omega
    go_wp2_with (at_builtin;refine zc1 rfl (.tmp 17) (.tmp 19) _ (by rfl) 3 w.heap.size _ _ _ (by rfl) (hz.out.2.gr (Gr.alloc _ _)) _ _ _ (by rfl) (heap_alloc_new _ _) rfl w (hB.alloc hB.size _) (by rw [zb6];omega) 8 (by decide) Tryz.underlying175 zf3 rfl (by have:=hB.size;simp;omega) ?_)
    intro v1 w1 hown aa _ _
    go_wp2
    go_roundw
    case rel=>
     refine ⟨k+1,_,-(A/10),rfl,rfl,by omega,by omega,hkl,⟨by rw [zd9,← hz.out.1,HA.out];omega,?_⟩,aa⟩
     rw [ze0,show td (n.natAbs:Int) k=A % 10 by unfold td;rw [← hz.out.1,← HA.out]]
     exact hown
    case measure=>simp [intOf];have:=HA.out;omega
  ·have hM:M=0:=by omega
   subst hM
   obtain ⟨ao,cap,rfl,hcap,_,hrow⟩:=hz.out.2.drow
   have hx:tn (n.natAbs:Int) k=0:=by have:=hz.out.1;omega
   have htx:=zT0 true ao k cap n.natAbs wr (by omega) hcap hx hrow
   rw [zf8 (z:=n) (.inl ⟨rfl,by omega⟩)] at htx
   clear hx hrow
   go_wp2_with fail
   (with_reducible refine htx.mono ?_)
   rintro e w2 ⟨rfl,g2⟩
   clear htx
   go_wp2
   go_ret
   exact ⟨rfl,Below.trans hB (Below.mono g2 hB.size)⟩
theorem r1_from (n:Int) (h0:-9223372036854775808≤n) (h1:n≤9223372036854775807) (w:World):
  Calls Tryz.prog 102 #[.int .i64 n] w fun e w'=>e=.returned (.string ⟨(Lib.itoa n).toArray⟩)∧Gr w w':=by
 rcases Int.lt_or_le n 0 with h | h
 ·exact yz1 n h h0 w
 ·exact yz0 n h h1 w
section
variable {P:Program} {ops:Array Oper} {Q:Exit→Act→World→Prop} {S0:World→Prop} {HS:List (List Nat × (World→Prop))}
end
set_option maxRecDepth 100000 in
set_option maxHeartbeats 1000000 in
theorem r2_from (z:Int) (_h0:-9223372036854775808≤z) (_h1:z≤9223372036854775807) (w:World):
    Calls Tryz.prog 65 #[(.int .i64 (z))] w fun e w'=>e=.returned (.string ⟨(za1 (((z:Int):Rat))).toArray⟩)∧Gr w w':=by
 go_enter Tryz.func65,Tryz.ntmps65
 have hB:=Gr.refl w
 refine wp_seq_k (fun K1 k1=>?_)
 refine rg [0] ?_
 refine sv 2 (.string ⟨([]:List UInt8).toArray⟩) ?_
 refine za0 ?_
 refine k1 _ _ ?_
 try clear k1 K1
 refine wp_seq_k (fun K2 k2=>?_)
 refine rg [0,1,2] ?_
 refine sv 3 (.int .i64 (z)) ?_
 refine se ?_
 refine ec 4 (r1_from (z) (by omega) (by omega) _) ?_
 rintro e3 w3 ⟨rfl,g3⟩
 refine ⟨_,rfl,?_⟩
 replace hB:=hB.trans g3
 simp only [p3,p4]
 refine sv 2 (.string ⟨(Lib.itoa ((z)):List UInt8).toArray⟩) ?_
 refine za0 ?_
 refine k2 _ _ ?_
 try clear k2 K2
 refine wp_ret ?_
 refine bodyPost_ret (v:=(.string ⟨(Lib.itoa ((z)):List UInt8).toArray⟩)) (zb0 rfl rfl) rfl ⟨?_,hB⟩
 exact (by rw [ratL_iz])

set_option maxRecDepth 100000 in
set_option maxHeartbeats 4000000 in
theorem vparse0 {k:Nat} (a1:Rat) (a2:Rat) (a3:Rat) (b4:RS k a1) (bS:RS k a2) (bR:RS k a3) (_hk:k≤20000) (_h64:64≤k) (l1:((za1 a1).length:Int)≤400) (l2:((za1 a2).length:Int)≤400) (l3:((za1 a3).length:Int)≤400) (w:World) (hm:Mx w):
    Calls Tryz.prog 93 #[(.agg #[(.string ⟨(za1 (a1):List UInt8).toArray⟩),(.string ⟨(za1 (a2):List UInt8).toArray⟩),(.string ⟨(za1 (a3):List UInt8).toArray⟩)]),(.func (.func 94) #[] #[])] w fun e w'=>(∃ t0 t1 t2 t3 t4 t5 t6 t7 t8 t9 bp ba,e=.returned (.tuple #[.agg #[t0,t1,t2,t3,t4,t5,t6,t7,t8,t9,bp,ba],.int .i64 0])∧IsRat w' k t0 t1 t2 t3 (a1)∧IsRat w' k t4 t5 t6 t7 (a2)∧IsRat w' k t8 t9 bp ba (a3))∧Gr w w':=by
 go_enter Tryz.func93,Tryz.ntmps93
 have hB:=Gr.refl w
 refine wp_seq_k (fun K1 k1=>?_)
 refine rg [0,1,2] ?_
 refine se ?_
 refine eb 25 #[(.string ⟨(za1 (a1):List UInt8).toArray⟩),(.string ⟨(za1 (a2):List UInt8).toArray⟩),(.string ⟨(za1 (a3):List UInt8).toArray⟩)] 2 hB fun b2 w2 g2 L2 o2 q2 hB=>?_
 simp only [p3,p4]
 refine se ?_
 refine ea 38 #[.bool false,.slice none 0 0,.bool false,.slice none 0 0,.bool false,.slice none 0 0,.bool false,.slice none 0 0,.bool false,.slice none 0 0,.bool false,.slice none 0 0] 4 hB fun b3 w3 g3 L3 o3 q3 hB=>?_
 simp only [p3,p4]
 refine sv 5 (.int .i64 0) ?_
 refine za0 ?_
 refine k1 _ _ ?_
 try clear k1 K1
 refine wp_seq_k (fun K4 k4=>?_)
 refine rg [0] ?_
 refine se ?_
 refine ea 38 #[.bool false,.slice none 0 0,.bool false,.slice none 0 0,.bool false,.slice none 0 0,.bool false,.slice none 0 0,.bool false,.slice none 0 0,.bool false,.slice none 0 0] 6 hB fun b5 w5 g5 L5 o5 q5 hB=>?_
 replace L2:=L2.gr g3
 have av:=L3.ne o5
 simp only [p3,p4]
 refine za0 ?_
 refine k4 _ _ ?_
 try clear k4 K4
 refine wp_seq_k (fun K6 k6=>?_)
 refine wp_seq_k (fun K7 k7=>?_)
 refine rg [0,1] ?_
 replace L2:=L2.gr g5
 refine sw 11 (.agg #[(.string ⟨(za1 (a1):List UInt8).toArray⟩),(.string ⟨(za1 (a2):List UInt8).toArray⟩),(.string ⟨(za1 (a3):List UInt8).toArray⟩)]) rfl (rl 25 0 [(.string ⟨(za1 (a1):List UInt8).toArray⟩),(.string ⟨(za1 (a2):List UInt8).toArray⟩),(.string ⟨(za1 (a3):List UInt8).toArray⟩)] L2) ?_
 refine sv 12 (.int .i64 0) ?_
 refine za0 ?_
 refine k7 _ _ ?_
 try clear k7 K7
 refine wp_block ?_
 refine wp_loop_rounds 4 ?_
 show Code.wp _ _ _ _ _
 refine wp_seq_k (fun K8 k8=>?_)
 refine rg [0] ?_
 refine sv 13 (.bool true) ?_
 refine za0 ?_
 refine k8 _ _ ?_
 try clear k8 K8
 refine wp_seq_k (fun K9 k9=>?_)
 refine wp_cond_true rfl ?_
 refine wp_skip ?_
 refine k9 _ _ ?_
 try clear k9 K9
 refine wp_seq_k (fun bN bi=>?_)
 refine wp_block ?_
 refine wp_seq_k (fun b6 a6=>?_)
 refine rg [0,1,2,3] ?_
 refine sv 14 (.int .i64 0) ?_
 refine sv 15 (.string ⟨(za1 (a1):List UInt8).toArray⟩) ?_
 refine sv 7 (.int .i64 0) ?_
 refine sv 8 (.string ⟨(za1 (a1):List UInt8).toArray⟩) ?_
 refine za0 ?_
 refine a6 _ _ ?_
 try clear a6 b6
 refine wp_seq_k (fun bM bt=>?_)
 refine rg [0,1,2,3,4,5,6,7,8] ?_
 refine sv 17 (.func (.func 94) #[] #[]) ?_
 refine sv 18 (.string ⟨(za1 (a1):List UInt8).toArray⟩) ?_
 refine se ?_
 refine ec 19 (zI2 (a1) b4 (by omega) (by omega) l1 _ (hm.gr hB)) ?_
 rintro e13 ct ⟨⟨ab,ac,ad,aa,rfl,au⟩,aW⟩
 refine ⟨_,rfl,?_⟩
 replace hB:=hB.trans aW
 simp only [p3,p4]
 refine sv 16 (.tuple #[(.agg #[ab,ac,ad,aa]),.int .i64 0]) ?_
 refine sv 20 (.agg #[ab,ac,ad,aa]) ?_
 refine sv 21 (.int .i64 0) ?_
 refine se ?_
 refine ea 36 #[.bool false,.slice none 0 0,.bool false,.slice none 0 0] 9 hB fun cd ch aP aS bv bD hB=>?_
 replace L3:=L3.gr (g5.trans aW)
 have ax:=L3.ne bv
 replace L5:=L5.gr aW
 have ay:=L5.ne bv
 simp only [p3,p4]
 refine se ?_
 refine es 36 0 (.agg #[ab,ac,ad,aa]) [ab,ac,ad,aa] #[ab,ac,ad,aa] aS hB bD ⟨au.one0,au.one1,au.one2,au.one3,trivial⟩ fun cm aF aT aS hB=>?_
 refine sv 10 (.int .i64 0) ?_
 refine za0 ?_
 refine bt _ _ ?_
 try clear bt bM
 refine wp_seq_k (fun bZ bb=>?_)
 refine wp_seq_k (fun bT bq=>?_)
 refine rg [0,1] ?_
 refine sv 22 (.int .i64 0) ?_
 refine sv 23 (.bool false) ?_
 refine za0 ?_
 refine bq _ _ ?_
 try clear bq bT
 refine wp_cond_false rfl ?_
 refine wp_skip ?_
 refine bb _ _ ?_
 try clear bb bZ
 refine rg [0,1,2,3] ?_
 refine sv 26 (.int .i64 0) ?_
 refine sw 27 (.agg #[ab,ac,ad,aa]) rfl (rl 36 0 [ab,ac,ad,aa] aS) ?_
 refine sv 28 (.pointer (some ⟨b5,0,none⟩)) ?_
 refine se ?_
 replace L5:=aF.lc (L5.gr aP) ay
 refine es 36 0 (.agg #[ab,ac,ad,aa]) [ab,ac,ad,aa] #[ab,ac,ad,aa,.bool false,.slice none 0 0,.bool false,.slice none 0 0,.bool false,.slice none 0 0,.bool false,.slice none 0 0] L5 hB q5 ⟨au.one0,au.one1,au.one2,au.one3,trivial⟩ fun cj aU aR L5 hB=>?_
 refine za0 ?_
 refine bi _ _ ?_
 try clear bi bN
 refine rg [0,1] ?_
 refine sv 29 (.int .i64 1) ?_
 refine sv 12 (.int .i64 1) ?_
 refine za0 ?_
 show Code.rounds _ _ _ _ _ _
 show Code.wp _ _ _ _ _
 refine wp_seq_k (fun bC a5=>?_)
 refine rg [0] ?_
 refine sv 13 (.bool true) ?_
 refine za0 ?_
 refine a5 _ _ ?_
 try clear a5 bC
 refine wp_seq_k (fun bB bg=>?_)
 refine wp_cond_true rfl ?_
 refine wp_skip ?_
 refine bg _ _ ?_
 try clear bg bB
 refine wp_seq_k (fun bV a8=>?_)
 refine wp_block ?_
 refine wp_seq_k (fun bz bu=>?_)
 refine rg [0,1,2,3] ?_
 refine sv 14 (.int .i64 1) ?_
 refine sv 15 (.string ⟨(za1 (a2):List UInt8).toArray⟩) ?_
 refine sv 7 (.int .i64 1) ?_
 refine sv 8 (.string ⟨(za1 (a2):List UInt8).toArray⟩) ?_
 refine za0 ?_
 refine bu _ _ ?_
 try clear bu bz
 refine wp_seq_k (fun bP bo=>?_)
 refine rg [0,1,2,3,4,5,6,7,8] ?_
 refine sv 17 (.func (.func 94) #[] #[]) ?_
 refine sv 18 (.string ⟨(za1 (a2):List UInt8).toArray⟩) ?_
 refine se ?_
 refine ec 19 (zI2 (a2) bS (by omega) (by omega) l2 _ (hm.gr hB)) ?_
 rintro cg cu ⟨⟨af,ai,ae,ah,rfl,aq⟩,aN⟩
 refine ⟨_,rfl,?_⟩
 replace hB:=hB.trans aN
 simp only [p3,p4]
 refine sv 16 (.tuple #[(.agg #[af,ai,ae,ah]),.int .i64 0]) ?_
 refine sv 20 (.agg #[af,ai,ae,ah]) ?_
 refine sv 21 (.int .i64 0) ?_
 refine se ?_
 refine ea 36 #[.bool false,.slice none 0 0,.bool false,.slice none 0 0] 9 hB fun cn ck aM aO bc bX hB=>?_
 replace L3:=(aU.lc (aF.lc (L3.gr aP) ax) av).gr aN
 have aE:=L3.ne bc
 replace L5:=L5.gr aN
 have aC:=L5.ne bc
 simp only [p3,p4]
 refine se ?_
 refine es 36 0 (.agg #[af,ai,ae,ah]) [af,ai,ae,ah] #[af,ai,ae,ah] aO hB bX ⟨aq.one0,aq.one1,aq.one2,aq.one3,trivial⟩ fun cl aJ aH aO hB=>?_
 refine sv 10 (.int .i64 0) ?_
 refine za0 ?_
 refine bo _ _ ?_
 try clear bo bP
 refine wp_seq_k (fun bQ bw=>?_)
 refine wp_seq_k (fun bY a7=>?_)
 refine rg [0,1] ?_
 refine sv 22 (.int .i64 0) ?_
 refine sv 23 (.bool false) ?_
 refine za0 ?_
 refine a7 _ _ ?_
 try clear a7 bY
 refine wp_cond_false rfl ?_
 refine wp_skip ?_
 refine bw _ _ ?_
 try clear bw bQ
 refine rg [0,1,2,3] ?_
 refine sv 26 (.int .i64 1) ?_
 refine sw 27 (.agg #[af,ai,ae,ah]) rfl (rl 36 0 [af,ai,ae,ah] aO) ?_
 refine sv 28 (.pointer (some ⟨b5,4,none⟩)) ?_
 refine se ?_
 replace L5:=aJ.lc (L5.gr aM) aC
 refine es 36 4 (.agg #[af,ai,ae,ah]) [af,ai,ae,ah] #[ab,ac,ad,aa,af,ai,ae,ah,.bool false,.slice none 0 0,.bool false,.slice none 0 0] L5 hB q5 ⟨aq.one0,aq.one1,aq.one2,aq.one3,trivial⟩ fun cx aV aG L5 hB=>?_
 refine za0 ?_
 refine a8 _ _ ?_
 try clear a8 bV
 refine rg [0,1] ?_
 refine sv 29 (.int .i64 2) ?_
 refine sv 12 (.int .i64 2) ?_
 refine za0 ?_
 show Code.rounds _ _ _ _ _ _
 show Code.wp _ _ _ _ _
 refine wp_seq_k (fun bJ bk=>?_)
 refine rg [0] ?_
 refine sv 13 (.bool true) ?_
 refine za0 ?_
 refine bk _ _ ?_
 try clear bk bJ
 refine wp_seq_k (fun bF bm=>?_)
 refine wp_cond_true rfl ?_
 refine wp_skip ?_
 refine bm _ _ ?_
 try clear bm bF
 refine wp_seq_k (fun bK a9=>?_)
 refine wp_block ?_
 refine wp_seq_k (fun bW bn=>?_)
 refine rg [0,1,2,3] ?_
 refine sv 14 (.int .i64 2) ?_
 refine sv 15 (.string ⟨(za1 (a3):List UInt8).toArray⟩) ?_
 refine sv 7 (.int .i64 2) ?_
 refine sv 8 (.string ⟨(za1 (a3):List UInt8).toArray⟩) ?_
 refine za0 ?_
 refine bn _ _ ?_
 try clear bn bW
 refine wp_seq_k (fun bL a4=>?_)
 refine rg [0,1,2,3,4,5,6,7,8] ?_
 refine sv 17 (.func (.func 94) #[] #[]) ?_
 refine sv 18 (.string ⟨(za1 (a3):List UInt8).toArray⟩) ?_
 refine se ?_
 refine ec 19 (zI2 (a3) bR (by omega) (by omega) l3 _ (hm.gr hB)) ?_
 rintro co ca ⟨⟨aj,al,ap,ak,rfl,ar⟩,aK⟩
 refine ⟨_,rfl,?_⟩
 replace hB:=hB.trans aK
 simp only [p3,p4]
 refine sv 16 (.tuple #[(.agg #[aj,al,ap,ak]),.int .i64 0]) ?_
 refine sv 20 (.agg #[aj,al,ap,ak]) ?_
 refine sv 21 (.int .i64 0) ?_
 refine se ?_
 refine ea 36 #[.bool false,.slice none 0 0,.bool false,.slice none 0 0] 9 hB fun b8 ce aI aY bx bG hB=>?_
 replace L3:=(aV.lc (aJ.lc (L3.gr aM) aE) av).gr aK
 have aB:=L3.ne bx
 replace L5:=L5.gr aK
 have aw:=L5.ne bx
 simp only [p3,p4]
 refine se ?_
 refine es 36 0 (.agg #[aj,al,ap,ak]) [aj,al,ap,ak] #[aj,al,ap,ak] aY hB bG ⟨ar.one0,ar.one1,ar.one2,ar.one3,trivial⟩ fun b7 aL aD aY hB=>?_
 refine sv 10 (.int .i64 0) ?_
 refine za0 ?_
 refine a4 _ _ ?_
 try clear a4 bL
 refine wp_seq_k (fun bH bd=>?_)
 refine wp_seq_k (fun bU bj=>?_)
 refine rg [0,1] ?_
 refine sv 22 (.int .i64 0) ?_
 refine sv 23 (.bool false) ?_
 refine za0 ?_
 refine bj _ _ ?_
 try clear bj bU
 refine wp_cond_false rfl ?_
 refine wp_skip ?_
 refine bd _ _ ?_
 try clear bd bH
 refine rg [0,1,2,3] ?_
 refine sv 26 (.int .i64 2) ?_
 refine sw 27 (.agg #[aj,al,ap,ak]) rfl (rl 36 0 [aj,al,ap,ak] aY) ?_
 refine sv 28 (.pointer (some ⟨b5,8,none⟩)) ?_
 refine se ?_
 replace L5:=aL.lc (L5.gr aI) aw
 refine es 36 8 (.agg #[aj,al,ap,ak]) [aj,al,ap,ak] #[ab,ac,ad,aa,af,ai,ae,ah,aj,al,ap,ak] L5 hB q5 ⟨ar.one0,ar.one1,ar.one2,ar.one3,trivial⟩ fun cy aX az L5 hB=>?_
 refine za0 ?_
 refine a9 _ _ ?_
 try clear a9 bK
 refine rg [0,1] ?_
 refine sv 29 (.int .i64 3) ?_
 refine sv 12 (.int .i64 3) ?_
 refine za0 ?_
 show Code.rounds _ _ _ _ _ _
 show Code.wp _ _ _ _ _
 refine wp_seq_k (fun bA bf=>?_)
 refine rg [0] ?_
 refine sv 13 (.bool false) ?_
 refine za0 ?_
 refine bf _ _ ?_
 try clear bf bA
 refine wp_seq_k (fun cq cc=>?_)
 refine wp_cond_false rfl ?_
 refine wp_exit ?_
 simp only [Exit.then,Exit.inBlock,↓reduceIte]
 refine k6 _ _ ?_
 try clear k6 K6
 refine wp_seq_k (fun bE bh=>?_)
 refine rg [0,1,2] ?_
 refine sw 30 (.agg #[ab,ac,ad,aa,af,ai,ae,ah,aj,al,ap,ak]) rfl (rl 38 0 [ab,ac,ad,aa,af,ai,ae,ah,aj,al,ap,ak] L5) ?_
 refine se ?_
 replace L3:=aX.lc (aL.lc (L3.gr aI) aB) av
 refine es 38 0 (.agg #[ab,ac,ad,aa,af,ai,ae,ah,aj,al,ap,ak]) [ab,ac,ad,aa,af,ai,ae,ah,aj,al,ap,ak] #[ab,ac,ad,aa,af,ai,ae,ah,aj,al,ap,ak] L3 hB q3 ⟨au.one0,au.one1,au.one2,au.one3,aq.one0,aq.one1,aq.one2,aq.one3,ar.one0,ar.one1,ar.one2,ar.one3,trivial⟩ fun b9 bO aA L3 hB=>?_
 refine sv 5 (.int .i64 0) ?_
 refine za0 ?_
 refine bh _ _ ?_
 try clear bh bE
 refine wp_ret ?_
 refine bodyPost_ret (v:=(.tuple #[(.agg #[ab,ac,ad,aa,af,ai,ae,ah,aj,al,ap,ak]),.int .i64 0])) (za5 _ _ _ rfl rfl L3 (by kernel_rfl) rfl) rfl ⟨?_,hB⟩
 have a0:=aP.kp.trans (aT.trans (aR.trans (aN.kp.trans (aM.kp.trans (aH.trans (aG.trans (aK.kp.trans (aI.kp.trans (aD.trans (az.trans aA))))))))))
 replace au:=au.kp a0
 have aZ:=aM.kp.trans (aH.trans (aG.trans (aK.kp.trans (aI.kp.trans (aD.trans (az.trans aA))))))
 replace aq:=aq.kp aZ
 have aQ:=aI.kp.trans (aD.trans (az.trans aA))
 replace ar:=ar.kp aQ
 exact ⟨_,_,_,_,_,_,_,_,_,_,_,_,rfl,au,aq,ar⟩

set_option maxRecDepth 100000 in
set_option maxHeartbeats 1000000 in
theorem vparse_v {k:Nat} (a1:Rat) (a2:Rat) (a3:Rat) (aA:RS k a1) (az:RS k a2) (ay:RS k a3) (_hk:k≤20000) (_h64:64≤k) (l1:((za1 a1).length:Int)≤400) (l2:((za1 a2).length:Int)≤400) (l3:((za1 a3).length:Int)≤400) (w:World) (hm:Mx w):
    Calls Tryz.prog 57 #[(.agg #[(.string ⟨(za1 (a1):List UInt8).toArray⟩),(.string ⟨(za1 (a2):List UInt8).toArray⟩),(.string ⟨(za1 (a3):List UInt8).toArray⟩)])] w fun e w'=>(∃ t0 t1 t2 t3 t4 t5 t6 t7 t8 t9 aw ax,e=.returned (.tuple #[.agg #[t0,t1,t2,t3,t4,t5,t6,t7,t8,t9,aw,ax],.int .i64 0])∧IsRat w' k t0 t1 t2 t3 (a1)∧IsRat w' k t4 t5 t6 t7 (a2)∧IsRat w' k t8 t9 aw ax (a3))∧Gr w w':=by
 go_enter Tryz.func57,Tryz.ntmps57
 have hB:=Gr.refl w
 refine wp_seq_k (fun K1 k1=>?_)
 refine rg [0,1,2] ?_
 refine se ?_
 refine eb 25 #[(.string ⟨(za1 (a1):List UInt8).toArray⟩),(.string ⟨(za1 (a2):List UInt8).toArray⟩),(.string ⟨(za1 (a3):List UInt8).toArray⟩)] 1 hB fun b2 w2 g2 L2 o2 q2 hB=>?_
 simp only [p3,p4]
 refine se ?_
 refine ea 38 #[.bool false,.slice none 0 0,.bool false,.slice none 0 0,.bool false,.slice none 0 0,.bool false,.slice none 0 0,.bool false,.slice none 0 0,.bool false,.slice none 0 0] 2 hB fun b3 w3 g3 L3 o3 q3 hB=>?_
 simp only [p3,p4]
 refine sv 3 (.int .i64 0) ?_
 refine za0 ?_
 refine k1 _ _ ?_
 try clear k1 K1
 refine wp_seq_k (fun K4 k4=>?_)
 refine rg [0,1,2,3,4,5] ?_
 replace L2:=L2.gr g3
 refine sw 4 (.agg #[(.string ⟨(za1 (a1):List UInt8).toArray⟩),(.string ⟨(za1 (a2):List UInt8).toArray⟩),(.string ⟨(za1 (a3):List UInt8).toArray⟩)]) rfl (rl 25 0 [(.string ⟨(za1 (a1):List UInt8).toArray⟩),(.string ⟨(za1 (a2):List UInt8).toArray⟩),(.string ⟨(za1 (a3):List UInt8).toArray⟩)] L2) ?_
 refine se ?_
 refine ec 5 (vparse0 (a1) (a2) (a3) aA az ay (by omega) (by omega) l1 l2 l3 _ (hm.gr hB)) ?_
 rintro e5 w5 ⟨⟨ai,ae,af,ad,aj,ak,ap,ah,ac,al,aa,ab,rfl,aq,au,ar⟩,g5⟩
 refine ⟨_,rfl,?_⟩
 replace hB:=hB.trans g5
 simp only [p3,p4]
 refine sv 6 (.agg #[ai,ae,af,ad,aj,ak,ap,ah,ac,al,aa,ab]) ?_
 refine sv 7 (.int .i64 0) ?_
 refine se ?_
 replace L3:=L3.gr g5
 refine es 38 0 (.agg #[ai,ae,af,ad,aj,ak,ap,ah,ac,al,aa,ab]) [ai,ae,af,ad,aj,ak,ap,ah,ac,al,aa,ab] #[ai,ae,af,ad,aj,ak,ap,ah,ac,al,aa,ab] L3 hB q3 ⟨aq.one0,aq.one1,aq.one2,aq.one3,au.one0,au.one1,au.one2,au.one3,ar.one0,ar.one1,ar.one2,ar.one3,trivial⟩ fun w6 aB av L3 hB=>?_
 refine sv 3 (.int .i64 0) ?_
 refine za0 ?_
 refine k4 _ _ ?_
 try clear k4 K4
 refine wp_ret ?_
 refine bodyPost_ret (v:=(.tuple #[(.agg #[ai,ae,af,ad,aj,ak,ap,ah,ac,al,aa,ab]),.int .i64 0])) (za5 _ _ _ rfl rfl L3 (by kernel_rfl) rfl) rfl ⟨?_,hB⟩
 replace aq:=aq.kp av
 replace au:=au.kp av
 replace ar:=ar.kp av
 exact ⟨_,_,_,_,_,_,_,_,_,_,_,_,rfl,aq,au,ar⟩

theorem yv2 {a1 a2 a3:Rat} {X Y Z:List UInt8} (h1:(za1 a1==X)=true) (h2:(za1 a2==Y)=true) (h3:(za1 a3==Z)=true):sEq [za1 a1,za1 a2,za1 a3] [X,Y,Z]=true:=by
 simp only [sEq,h1,h2,h3];rfl
def nilC:Cl→Bool
 | .cv (.slice none 0 0)=>true
 | _=>false
def falC:Cl→Bool
 | .cb _ (some false)=>true
 | _=>false
def zC6:SV→Option (Nat × Rat)
 | .so (.vg [.cr j 0 k q,.cr j1 1 _ _,.cr j2 2 _ _,.cr j3 3 _ _])=>if Nat.beq j1 j&&Nat.beq j2 j&&Nat.beq j3 j then some (k,q) else none
 | .so (.vg [a,b,c,d])=>if falC a&&nilC b&&falC c&&nilC d then some (64,0) else none
 | _=>none
section
variable {n:Nn} {X:Env} {w w':World}
theorem zz9 {c:Cl} (h:falC c=true) (hc:c.ok n X w):c.den X=.bool false:=by
 unfold falC at h
 split at h
 ·exact congrArg Value.bool (hc.2 false rfl)
 ·cases h
theorem zA0 {c:Cl} (h:nilC c=true):c.den X=.slice none 0 0:=by
 unfold nilC at h
 split at h
 ·rfl
 ·cases h
theorem zh3 {v:SV} {k:Nat} {q:Rat} (h:zC6 v=some (k,q)) (hv:v.ok n X w):∃ a b c d,v.den X=.agg #[a,b,c,d]∧IsRat w k a b c d q:=by
 unfold zC6 at h
 split at h
 ·rename_i j k' q' j1 _ _ j2 _ _ j3 _ _
  split at h
  ·rename_i hj
   simp only [Bool.and_eq_true,Nat.beq_eq] at hj
   obtain ⟨⟨rfl,rfl⟩,rfl⟩:=hj
   cases h
   have:=(hv (.cr j3 0 k q) (by simp)).2
   exact ⟨_,_,_,_,rfl,this⟩
  ·cases h
 ·rename_i a b c d _
  split at h
  ·rename_i hh
   simp only [Bool.and_eq_true] at hh
   obtain ⟨⟨⟨h1,h2⟩,h3⟩,h4⟩:=hh
   cases h
   refine ⟨.bool false,.slice none 0 0,.bool false,.slice none 0 0,?_,IsRat.zero w (Nat.le_refl _)⟩
   simp only [SV.den,TV.den,dnL,List.map_cons,List.map_nil,zz9 h1 (hv a (by simp)),zA0 h2,zz9 h3 (hv c (by simp)),zA0 h4]
  ·cases h
 ·cases h
def zE5 (j k:Nat) (q:Rat):SV:=.so (.vg [.cr j 0 k q,.cr j 1 k q,.cr j 2 k q,.cr j 3 k q])
def Env.pushR (X:Env) (n:Nat) (c0 c1 c2 c3:Value):Env:={X with R:=fun i c=>if i=n then (if c=0 then c0 else if c=1 then c1 else if c=2 then c2 else c3) else X.R i c}
theorem Env.pushR_agree (X:Env) (n:Nn) (c0 c1 c2 c3:Value):Agr n X (X.pushR n.r c0 c1 c2 c3):=⟨fun _ _=>rfl,fun i c hi=>by simp only [Env.pushR];rw [if_neg (by omega)],fun _ _ _=>rfl,rfl⟩
theorem zl7 {e:Ending} {k:Nat} {q:Rat} (h:(∃ c0 c1 c2 c3,e=.returned (.agg #[c0,c1,c2,c3])∧IsRat w' k c0 c1 c2 c3 q)∧Gr w w'):(Tr.leaf (zE5 n.r k q) 1 0).holds n X w e w':=by
 obtain ⟨⟨c0,c1,c2,c3,rfl,h1⟩,g⟩:=h
 refine ⟨X.pushR n.r c0 c1 c2 c3,?_,g,Env.pushR_agree _ _ _ _ _ _,fun c hc=>?_⟩
 ·simp [zE5,SV.den,TV.den,dnL,Cl.den,Env.pushR]
 ·have hg:IsRat w' k ((X.pushR n.r c0 c1 c2 c3).R n.r 0) ((X.pushR n.r c0 c1 c2 c3).R n.r 1) ((X.pushR n.r c0 c1 c2 c3).R n.r 2) ((X.pushR n.r c0 c1 c2 c3).R n.r 3) q:=by
   simpa [Env.pushR] using h1
  have hlt:Nat.blt n.r (n.r+1)=true:=zq6 (by omega)
  simp only [List.mem_cons,List.not_mem_nil,or_false] at hc
  rcases hc with rfl | rfl | rfl | rfl<;>refine ⟨?_,hg⟩<;>simp only [Cl.lt,hlt]<;>rfl
theorem zb4 {e:Ending} {v:SV} (h:e=.returned (v.den X)∧Gr w w') (hv:v.ok n X w'):(Tr.leaf v 0 0).holds n X w e w':=⟨X,h.1,h.2,.refl _ _,hv⟩
end
def zk5 (lim:Nat) (g:Nat→Nat→Nat) (op:Rat→Rat→Rat):ConT:=fun args nr _=>match args with
 | [x,y]=>match zC6 x,zC6 y with
  | some (k,a),some (m,b)=>if Nat.ble (k+m) lim then some (.leaf (zE5 nr (g k m) (op a b)) 1 0) else none
  | _,_=>none
 | _=>none
theorem zc6 {P:Program} {I:World→Prop} {f lim:Nat} {g:Nat→Nat→Nat} {op:Rat→Rat→Rat} (h:∀ {k m:Nat} {u0 u1 u2 u3 v0 v1 v2 v3:Value} {a b:Rat} {w:World},IsRat w k u0 u1 u2 u3 a→IsRat w m v0 v1 v2 v3 b→k+m≤lim→
  Calls P f #[.agg #[u0,u1,u2,u3],.agg #[v0,v1,v2,v3]] w fun e w'=>(∃ c0 c1 c2 c3,e=.returned (.agg #[c0,c1,c2,c3])∧IsRat w' (g k m) c0 c1 c2 c3 (op a b))∧Gr w w'):ConOK P I f (zk5 lim g op):=by
 intro args X n w T _ ha hT _
 unfold zk5 at hT
 split at hT
 ·rename_i x y
  split at hT
  ·rename_i k a m b h1 h2
   split at hT
   ·rename_i hle
    simp only [Nat.ble_eq] at hle
    cases hT
    obtain ⟨u0,u1,u2,u3,e1,f1⟩:=zh3 h1 (ha x (by simp))
    obtain ⟨v0,v1,v2,v3,e2,f2⟩:=zh3 h2 (ha y (by simp))
    simp only [List.map_cons,List.map_nil,e1,e2]
    exact (h f1 f2 hle).mono fun e w' he=>zl7 he
   ·cases hT
  ·cases hT
 ·cases hT

def zU5:SV→Option (Nat × Int)
 | .so (.vg [.cz j 0 k z,.cz j1 1 _ _])=>if Nat.beq j1 j then some (k,z) else none
 | .so (.vg [.cr j 0 k q,.cr j1 1 _ _])=>if Nat.beq j1 j then some (k,q.num) else none
 | .so (.vg [a,b])=>if falC a&&nilC b then some (64,0) else none
 | _=>none
def txC:Cl→Option (Nat × Rat)
 | .cw _ (some (k,q))=>some (k,q)
 | .cw [b] none=>if Nat.beq b.toNat 48 then some (1,0) else none
 | _=>none
def ya7:SV→Option (Nat × Rat)
 | .so (.vc c)=>txC c
 | _=>none
def as64:SV→Option Int
 | .so (.vc (.ci .i64 z lo hi))=>if ile (-9223372036854775808) lo&&ile hi 9223372036854775807 then some z else none
 | _=>none
def zA1 (j k:Nat) (z:Int):SV:=.so (.vg [.cz j 0 k z,.cz j 1 k z])
def txt (k:Nat) (q:Rat):SV:=.so (.vc (.cw (za1 q) (some (k,q))))
def sgnV (z:Int):SV:=.so (.vc (.ci .i64 z (-1) 1))
section
variable {n:Nn} {X:Env} {w w':World}
theorem zo7 {v:SV} {k:Nat} {z:Int} (h:zU5 v=some (k,z)) (hv:v.ok n X w):∃ a b,v.den X=.agg #[a,b]∧IsInt w k a b z:=by
 unfold zU5 at h
 split at h
 ·rename_i j k' q' j1 _ _
  split at h
  ·rename_i hj
   simp only [Nat.beq_eq] at hj
   subst hj
   cases h
   exact ⟨_,_,rfl,(hv (.cz j1 0 k z) (by simp)).2⟩
  ·cases h
 ·rename_i j k' q' j1 _ _
  split at h
  ·rename_i hj
   simp only [Nat.beq_eq] at hj
   subst hj
   cases h
   exact ⟨_,_,rfl,IsRat.num (hv (.cr j1 0 k q') (by simp)).2⟩
  ·cases h
 ·rename_i a b _ _
  split at h
  ·rename_i hh
   simp only [Bool.and_eq_true] at hh
   cases h
   refine ⟨.bool false,.slice none 0 0,?_,IsInt.zero w 64⟩
   simp only [SV.den,TV.den,dnL,List.map_cons,List.map_nil,zz9 hh.1 (hv a (by simp)),zA0 hh.2]
  ·cases h
 ·cases h
theorem yg1:za1 0=([48]:List UInt8):=eq_of_beq (zr6 (by kernel_rfl) (zi5 0 (by kernel_rfl) (by decide)))
theorem zl8 {c:Cl} {k:Nat} {q:Rat} (h:txC c=some (k,q)) (hv:c.ok n X w):c.den X=.string ⟨(za1 q).toArray⟩∧RS k q:=by
 unfold txC at h
 split at h
 ·rename_i l k' q'
  cases h
  obtain ⟨h1,h2⟩:=hv.2 k q rfl
  exact ⟨by rw [← h1];rfl,h2⟩
 ·rename_i b
  split at h
  ·rename_i hb
   cases h
   have:b=48:=UInt8.toNat_inj.1 (Nat.eq_of_beq_eq_true hb)
   exact ⟨by rw [yg1,this];rfl,Nat.two_pow_pos 1,Nat.one_lt_two_pow (by decide)⟩
  ·cases h
 ·cases h
theorem zh4 {v:SV} {k:Nat} {q:Rat} (h:ya7 v=some (k,q)) (hv:v.ok n X w):v.den X=.string ⟨(za1 q).toArray⟩∧Sz k q.num∧Sz k (q.den:Int):=by
 unfold ya7 at h
 split at h
 ·rename_i c
  exact zl8 h hv
 ·cases h
theorem zU6 {v:SV} {z:Int} (h:as64 v=some z) (hv:v.ok n X w):v.den X=.int .i64 z∧-9223372036854775808≤z∧z≤9223372036854775807:=by
 unfold as64 at h
 split at h
 ·split at h
  ·rename_i hh
   simp only [zi8,Bool.and_eq_true,decide_eq_true_eq] at hh
   cases h
   exact ⟨rfl,Int.le_trans hh.1 hv.2.1,Int.le_trans hv.2.2 hh.2⟩
  ·cases h
 ·cases h
def Env.pushZ (X:Env) (n:Nat) (c0 c1:Value):Env:={X with Z:=fun i c=>if i=n then (if c=0 then c0 else c1) else X.Z i c}
theorem Env.pushZ_agree (X:Env) (n:Nn) (c0 c1:Value):Agr n X (X.pushZ n.z c0 c1):=⟨fun _ _=>rfl,fun _ _ _=>rfl,fun i c hi=>by simp only [Env.pushZ];rw [if_neg (by omega)],rfl⟩
theorem zL8 {k:Nat} {z:Int} {c0 c1:Value} (h1:IsInt w' k c0 c1 z):(zA1 n.z k z).den (X.pushZ n.z c0 c1)=.agg #[c0,c1]∧(zA1 n.z k z).ok ⟨n.b,n.r,n.z+1⟩ (X.pushZ n.z c0 c1) w':=by
 refine ⟨by simp [zA1,SV.den,TV.den,dnL,Cl.den,Env.pushZ],fun c hc=>?_⟩
 have hg:IsInt w' k ((X.pushZ n.z c0 c1).Z n.z 0) ((X.pushZ n.z c0 c1).Z n.z 1) z:=by simpa [Env.pushZ] using h1
 have hlt:Nat.blt n.z (n.z+1)=true:=zq6 (by omega)
 simp only [List.mem_cons,List.not_mem_nil,or_false] at hc
 rcases hc with rfl | rfl<;>refine ⟨?_,hg⟩<;>simp only [Cl.lt,hlt]<;>rfl
theorem zi9 {e:Ending} {k:Nat} {z:Int} (h:(∃ c0 c1,e=.returned (.agg #[c0,c1])∧IsInt w' k c0 c1 z)∧Gr w w'):(Tr.leaf (zA1 n.z k z) 0 1).holds n X w e w':=by
 obtain ⟨⟨c0,c1,rfl,h1⟩,g⟩:=h
 obtain ⟨a,b⟩:=zL8 (n:=n) (X:=X) h1
 exact ⟨X.pushZ n.z c0 c1,by rw [a],g,Env.pushZ_agree _ _ _ _,b⟩
theorem yE8 {k:Nat} {q:Rat} {c0 c1 c2 c3:Value} (h1:IsRat w' k c0 c1 c2 c3 q):(zE5 n.r k q).den (X.pushR n.r c0 c1 c2 c3)=.agg #[c0,c1,c2,c3]∧(zE5 n.r k q).ok ⟨n.b,n.r+1,n.z⟩ (X.pushR n.r c0 c1 c2 c3) w':=by
 obtain ⟨X',a,b,c,d⟩:=zl7 (n:=n) (X:=X) (w:=w') (e:=.returned (.agg #[c0,c1,c2,c3])) ⟨⟨c0,c1,c2,c3,rfl,h1⟩,Gr.refl w'⟩
 refine ⟨by simp [zE5,SV.den,TV.den,dnL,Cl.den,Env.pushR],fun c hc=>?_⟩
 have hg:IsRat w' k ((X.pushR n.r c0 c1 c2 c3).R n.r 0) ((X.pushR n.r c0 c1 c2 c3).R n.r 1) ((X.pushR n.r c0 c1 c2 c3).R n.r 2) ((X.pushR n.r c0 c1 c2 c3).R n.r 3) q:=by simpa [Env.pushR] using h1
 have hlt:Nat.blt n.r (n.r+1)=true:=zq6 (by omega)
 simp only [List.mem_cons,List.not_mem_nil,or_false] at hc
 rcases hc with rfl | rfl | rfl | rfl<;>refine ⟨?_,hg⟩<;>simp only [Cl.lt,hlt]<;>rfl
def ratE (j k:Nat) (q:Rat) (e:Int):SV:=.st [.vg [.cr j 0 k q,.cr j 1 k q,.cr j 2 k q,.cr j 3 k q],.vc (.ci .i64 e e e)]
theorem zu7 {e:Ending} {k:Nat} {q:Rat} {er:Int} (h:(∃ c0 c1 c2 c3,e=.returned (.tuple #[.agg #[c0,c1,c2,c3],.int .i64 er])∧IsRat w' k c0 c1 c2 c3 q)∧Gr w w'):(Tr.leaf (ratE n.r k q er) 1 0).holds n X w e w':=by
 obtain ⟨⟨c0,c1,c2,c3,rfl,h1⟩,g⟩:=h
 obtain ⟨a,b⟩:=yE8 (n:=n) (X:=X) h1
 refine ⟨X.pushR n.r c0 c1 c2 c3,?_,g,Env.pushR_agree _ _ _ _ _ _,fun x hx=>?_⟩
 ·have a':TV.den (X.pushR n.r c0 c1 c2 c3) (.vg [.cr n.r 0 k q,.cr n.r 1 k q,.cr n.r 2 k q,.cr n.r 3 k q])=.agg #[c0,c1,c2,c3]:=a
  simp only [ratE,SV.den,List.map_cons,List.map_nil,a']
  rfl
 ·simp only [List.mem_cons,List.not_mem_nil,or_false] at hx
  rcases hx with rfl | rfl
  ·exact b
  ·exact ⟨rfl,Int.le_refl _,Int.le_refl _⟩
theorem zL9 {k:Nat} {q:Rat} (h:Sz k q.num∧Sz k (q.den:Int)):(txt k q).ok n X w:=⟨rfl,fun k' q' e=>by cases e;exact ⟨rfl,h⟩⟩
theorem ya8 (z:Int):-1≤sgn z∧sgn z≤1:=by unfold sgn;split<;>(try split)<;>decide
end
section
variable {P:Program} {I:World→Prop} {f lim:Nat}
def yc1 {α:Type} (g:SV→Option α) (c:α→Nat→Nat→Option Tr):ConT:=fun args nr nz=>match args with
 | [x]=>match g x with
  | some a=>c a nr nz
  | none=>none
 | _=>none
def con2 {α β:Type} (g:SV→Option α) (g2:SV→Option β) (c:α→β→Nat→Nat→Option Tr):ConT:=fun args nr nz=>match args with
 | [x,y]=>match g x,g2 y with
  | some a,some b=>c a b nr nz
  | _,_=>none
 | _=>none
theorem zg6 {α:Type} {g:SV→Option α} {c:α→Nat→Nat→Option Tr}
  (h:∀ (a:α) (x:SV) (n:Nn) (X:Env) (w:World) (T:Tr),I w→g x=some a→x.ok n X w→c a n.r n.z=some T→T.pre→Calls P f #[x.den X] w fun e w'=>T.holds n X w e w'):ConOK P I f (yc1 g c):=by
 intro args X n w T hI ha hT hp
 unfold yc1 at hT
 split at hT
 ·rename_i x
  split at hT
  ·rename_i a h1
   exact h a x n X w T hI h1 (ha x (by simp)) hT hp
  ·cases hT
 ·cases hT
theorem zm9 {α β:Type} {g:SV→Option α} {g2:SV→Option β} {c:α→β→Nat→Nat→Option Tr}
  (h:∀ (a:α) (b:β) (x y:SV) (n:Nn) (X:Env) (w:World) (T:Tr),I w→g x=some a→g2 y=some b→x.ok n X w→y.ok n X w→c a b n.r n.z=some T→T.pre→Calls P f #[x.den X,y.den X] w fun e w'=>T.holds n X w e w'):ConOK P I f (con2 g g2 c):=by
 intro args X n w T hI ha hT hp
 unfold con2 at hT
 split at hT
 ·rename_i x y
  split at hT
  ·rename_i a b h1 h2
   exact h a b x y n X w T hI h1 h2 (ha x (by simp)) (ha y (by simp)) hT hp
  ·cases hT
 ·cases hT
end
def tr (b:Bool) (T:Tr):Option Tr:=if b then some T else none
theorem zd8 {b:Bool} {T U:Tr} (h:tr b T=some U):b=true∧T=U:=by
 unfold tr at h
 split at h
 ·cases h;exact ⟨by assumption,rfl⟩
 ·cases h
theorem IsRat.szr {w:World} {k:Nat} {c0 c1 c2 c3:Value} {q:Rat} (h:IsRat w k c0 c1 c2 c3 q):Sz k q.num∧Sz k (q.den:Int):=by
 refine ⟨h.num.sz,?_⟩
 obtain ⟨D,h2,rfl | ⟨rfl,e⟩⟩:=h.den
 ·exact h2.sz
 ·rw [e]
  have:=h.big
  show (1:Nat)<2 ^ k
  exact Nat.one_lt_two_pow (by omega)
def cNeg:ConT:=yc1 zC6 fun | (k,a),nr,_=>some (.leaf (zE5 nr k (-a)) 1 0)
def ya9:ConT:=yc1 as64 fun z nr _=>some (.leaf (zE5 nr 64 (z:Rat)) 1 0)
def yb0:ConT:=con2 zC6 zC6 fun | (k,a),(m,b),_,_=>tr (Nat.ble (k+m) 100000) (.leaf (sgnV (yp9 a b)) 0 0)
def zU7:ConT:=yc1 zC6 fun | (_k,a),_,_=>some (.leaf (sgnV (sgn a.num)) 0 0)
def yb1:ConT:=yc1 zC6 fun | (k,a),_,_=>tr (Nat.ble k 800000) (.leaf (txt k a) 0 0)
def cNum:ConT:=yc1 zC6 fun | (k,a),_,nz=>some (.leaf (zA1 nz k a.num) 0 1)
def cDen:ConT:=yc1 zC6 fun | (k,a),_,nz=>some (.leaf (zA1 nz k (a.den:Int)) 0 1)
def cDiv:ConT:=con2 zC6 zC6 fun | (k,a),(m,b),nr,_=>tr (Nat.ble (k+m) 100000) (.br (decide (b=0)) (.leaf (.st [.vg [.cb false (some false),.cv (.slice none 0 0),.cb false (some false),.cv (.slice none 0 0)],.vc (.ci .i64 19 19 19)]) 0 0) (.leaf (ratE nr (k+m) (a/b) 0) 1 0))
def zA2:ConT:=yc1 as64 fun z _ nz=>some (.leaf (zA1 nz 64 z) 0 1)
def zU8:ConT:=con2 zU5 zU5 fun | (k,a),(m,b),_,nz=>tr (Nat.ble (k+m) 1000000) (.leaf (zA1 nz (k+m) (a*b)) 0 1)
def zU9:ConT:=con2 zU5 zU5 fun | (k,a),(m,b),_,nz=>tr (Nat.ble (k+m) 1000000) (.leaf (zA1 nz (k+m) (Int.gcd a b)) 0 1)
def zV0:ConT:=con2 zU5 zU5 fun | (k,a),(m,b),_,nz=>tr (Nat.ble (k+k+m+m+66) 1000000) (.as (decide (0<b)) (.leaf (.st [.vg [.cz nz 0 k (a/b),.cz nz 1 k (a/b)],.vg [.cz (nz+1) 0 m (a % b),.cz (nz+1) 1 m (a % b)],.vc (.ci .i64 0 0 0)]) 0 2))
def yb2:ConT:=yc1 zU5 fun | (_k,a),_,_=>some (.leaf (.st [.vc (.ci .i64 (yq8 a) (-9223372036854775808) 9223372036854775807),.vc (.cb (zN0 a) none)]) 0 0)
def cTT (g:Nat→Nat→Nat) (op:Rat→Rat→Rat):ConT:=con2 ya7 ya7 fun | (k,a),(m,b),_,_=>tr (Nat.ble (k+m) 19998) (.leaf (txt (g k m) (op a b)) 0 0)
def yb3:ConT:=con2 ya7 ya7 fun | (k,a),(m,b),_,_=>tr (Nat.ble (k+m) 19998) (.as (decide (b≠0)) (.leaf (txt (k+m) (a/b)) 0 0))
def yb4:ConT:=yc1 ya7 fun | (k,a),_,_=>tr (Nat.ble k 19998) (.leaf (txt k (-a)) 0 0)
def zE6:ConT:=yc1 as64 fun z _ _=>some (.leaf (txt 64 (z:Rat)) 0 0)
def zv4 (most:Nat):ConT:=yc1 ya7 fun | (k,a),nr,_=>tr (Nat.ble k 20000&&Nat.ble (2*k+5) most) (.leaf (ratE nr (max k 64) a 0) 1 0)
section
variable {I:World→Prop}
theorem zw7:ConOK Tryz.prog I 108 cNeg:=zg6 fun ⟨k,a⟩ x n X w T _ h1 h2 hT _=>by
 cases hT
 obtain ⟨u0,u1,u2,u3,e1,f1⟩:=zh3 h1 h2
 rw [e1]
 exact (neg_r f1).mono fun e w' he=>zl7 he
theorem zo8:ConOK Tryz.prog I 59 ya9:=zg6 fun a x n X w T _ h1 h2 hT _=>by
 cases hT
 obtain ⟨e1,h3,h4⟩:=zU6 h1 h2
 rw [e1]
 exact (zX1 a h3 h4 w).mono fun e w' he=>zl7 he
theorem zo9:ConOK Tryz.prog I 37 yb0:=zm9 fun ⟨k,a⟩ ⟨m,b⟩ x y n X w T _ h1 h2 hx hy hT _=>by
 obtain ⟨hb,rfl⟩:=zd8 hT
 obtain ⟨u0,u1,u2,u3,e1,f1⟩:=zh3 h1 hx
 obtain ⟨v0,v1,v2,v3,e2,f2⟩:=zh3 h2 hy
 rw [e1,e2]
 exact (zX2 f1 f2 (by simpa using hb)).mono fun e w' he=>zb4 he ⟨rfl,ya8 _⟩
theorem zl9:ConOK Tryz.prog I 76 zU7:=zg6 fun ⟨k,a⟩ x n X w T _ h1 h2 hT _=>by
 cases hT
 obtain ⟨u0,u1,u2,u3,e1,f1⟩:=zh3 h1 h2
 rw [e1]
 exact (zO1 f1).mono fun e w' he=>zb4 he ⟨rfl,ya8 _⟩
theorem zp0 (hI:∀ w,I w→Tab w):ConOK Tryz.prog I 87 yb1:=zg6 fun ⟨k,a⟩ x n X w T hw h1 h2 hT _=>by
 obtain ⟨hb,rfl⟩:=zd8 hT
 obtain ⟨u0,u1,u2,u3,e1,f1⟩:=zh3 h1 h2
 rw [e1]
 exact (zF6 f1 (by simpa using hb) (hI w hw)).mono fun e w' he=>zb4 he (zL9 f1.szr)
theorem zt0:ConOK Tryz.prog I 130 cNum:=zg6 fun ⟨k,a⟩ x n X w T _ h1 h2 hT _=>by
 cases hT
 obtain ⟨u0,u1,u2,u3,e1,f1⟩:=zh3 h1 h2
 rw [e1]
 exact (num_r f1).mono fun e w' he=>zi9 he
theorem zt1:ConOK Tryz.prog I 81 cDen:=zg6 fun ⟨k,a⟩ x n X w T _ h1 h2 hT _=>by
 cases hT
 obtain ⟨u0,u1,u2,u3,e1,f1⟩:=zh3 h1 h2
 rw [e1]
 exact (zo3 f1).mono fun e w' he=>zi9 he
theorem num_ne {q:Rat} (h:q≠0):q.num≠0:=fun e=>h (Rat.num_eq_zero.1 e)
theorem zw8:ConOK Tryz.prog I 58 cDiv:=zm9 fun ⟨k,a⟩ ⟨m,b⟩ x y n X w T _ h1 h2 hx hy hT _=>by
 obtain ⟨hb,rfl⟩:=zd8 hT
 obtain ⟨u0,u1,u2,u3,e1,f1⟩:=zh3 h1 hx
 obtain ⟨v0,v1,v2,v3,e2,f2⟩:=zh3 h2 hy
 rw [e1,e2]
 by_cases h0:b=0
 ·refine (div_0 f1 f2 (by rw [h0];rfl)).mono fun e w' he=>⟨fun _=>zb4 he fun x hx=>?_,fun h=>absurd h0 (of_decide_eq_false h)⟩
  simp only [List.mem_cons,List.not_mem_nil,or_false] at hx
  rcases hx with rfl | rfl
  ·intro c hc
   simp only [List.mem_cons,List.not_mem_nil,or_false] at hc
   rcases hc with rfl | rfl | rfl | rfl<;>refine ⟨rfl,?_⟩<;>first | rfl | (intro v hv;cases hv;rfl)
  ·exact ⟨rfl,Int.le_refl _,Int.le_refl _⟩
 ·exact (div_a f1 f2 (by simpa using hb) (num_ne h0)).mono fun e w' he=>⟨fun h=>absurd (of_decide_eq_true h) h0,fun _=>zu7 he⟩
theorem zj0:ConOK Tryz.prog I 96 zA2:=zg6 fun a x n X w T _ h1 h2 hT _=>by
 cases hT
 obtain ⟨e1,h3,h4⟩:=zU6 h1 h2
 rw [e1]
 exact (yj2 a h3 h4 w).mono fun e w' he=>zi9 he
theorem zm0:ConOK Tryz.prog I 80 zU8:=zm9 fun ⟨k,a⟩ ⟨m,b⟩ x y n X w T _ h1 h2 hx hy hT _=>by
 obtain ⟨hb,rfl⟩:=zd8 hT
 obtain ⟨u0,u1,e1,f1⟩:=zo7 h1 hx
 obtain ⟨v0,v1,e2,f2⟩:=zo7 h2 hy
 rw [e1,e2]
 exact (zq7 f1 f2 (by simpa using hb)).mono fun e w' he=>zi9 he
theorem zm1:ConOK Tryz.prog I 122 zU9:=zm9 fun ⟨k,a⟩ ⟨m,b⟩ x y n X w T _ h1 h2 hx hy hT _=>by
 obtain ⟨hb,rfl⟩:=zd8 hT
 obtain ⟨u0,u1,e1,f1⟩:=zo7 h1 hx
 obtain ⟨v0,v1,e2,f2⟩:=zo7 h2 hy
 rw [e1,e2]
 exact (yd3 f1 f2 (by simpa using hb)).mono fun e w' he=>zi9 he
theorem zm2:ConOK Tryz.prog I 123 zV0:=zm9 fun ⟨k,a⟩ ⟨m,b⟩ x y n X w T _ h1 h2 hx hy hT hp=>by
 obtain ⟨hb,rfl⟩:=zd8 hT
 obtain ⟨u0,u1,e1,f1⟩:=zo7 h1 hx
 obtain ⟨v0,v1,e2,f2⟩:=zo7 h2 hy
 rw [e1,e2]
 refine (zy2 f1 f2 (of_decide_eq_true hp.1) (by simpa using hb)).mono fun e w' he=>?_
 obtain ⟨⟨c0,c1,c2,c3,rfl,g1,g2⟩,g⟩:=he
 have k1:=zL8 (n:=n) (X:=X) g1
 have ab:=Env.pushZ_agree X n c0 c1
 have k2:=zL8 (n:=⟨n.b,n.r,n.z+1⟩) (X:=X.pushZ n.z c0 c1) g2
 have aa:=Env.pushZ_agree (X.pushZ n.z c0 c1) ⟨n.b,n.r,n.z+1⟩ c2 c3
 refine ⟨_,?_,g,ab.trans (aa.mono ⟨Nat.le_refl _,Nat.le_refl _,Nat.le_succ _⟩),fun x hx=>?_⟩
 ·have a1:TV.den ((X.pushZ n.z c0 c1).pushZ (n.z+1) c2 c3) (.vg [.cz n.z 0 k (a/b),.cz n.z 1 k (a/b)])=.agg #[c0,c1]:=by
   rw [← TV.den_agree aa (x:=.vg _) (W:=w') k1.2];exact k1.1
  have a2:TV.den ((X.pushZ n.z c0 c1).pushZ (n.z+1) c2 c3) (.vg [.cz (n.z+1) 0 m (a % b),.cz (n.z+1) 1 m (a % b)])=.agg #[c2,c3]:=k2.1
  simp only [SV.den,List.map_cons,List.map_nil,a1,a2]
  rfl
 ·simp only [List.mem_cons,List.not_mem_nil,or_false] at hx
  rcases hx with rfl | rfl | rfl
  ·exact TV.ok_to (x:=.vg _) (m:=⟨n.b,n.r,n.z+1⟩) (n:=⟨n.b,n.r,n.z+2⟩) ⟨Nat.le_refl _,Nat.le_refl _,Nat.le_succ _⟩ aa (Kp.refl w') k1.2
  ·exact k2.2
  ·exact ⟨rfl,Int.le_refl _,Int.le_refl _⟩
theorem zp1:ConOK Tryz.prog I 68 yb2:=zg6 fun ⟨k,a⟩ x n X w T _ h1 h2 hT _=>by
 cases hT
 obtain ⟨u0,u1,e1,f1⟩:=zo7 h1 h2
 rw [e1]
 refine (int_i f1).mono fun e w' he=>zb4 he fun x hx=>?_
 simp only [List.mem_cons,List.not_mem_nil,or_false] at hx
 rcases hx with rfl | rfl
 ·refine ⟨rfl,?_⟩
  simp only [Cl.good,yq8]
  split
  ·rename_i h;simpa [zN0] using h
  ·decide
 ·exact ⟨rfl,fun v hv=>by cases hv⟩
theorem zp2:ConOK Tryz.prog I 105 (cTT (fun k m=>k+m+1) fun a b=>a+b):=zm9 fun ⟨k,a⟩ ⟨m,b⟩ x y n X w T _ h1 h2 hx hy hT _=>by
 obtain ⟨hb,rfl⟩:=zd8 hT
 obtain ⟨e1,f1⟩:=zh4 h1 hx
 obtain ⟨e2,f2⟩:=zh4 h2 hy
 rw [e1,e2]
 exact (r2_add a b f1 f2 (by simpa using hb) w).mono fun e w' he=>zb4 he (zL9 (RS.add f1 f2))
theorem zp3:ConOK Tryz.prog I 132 (cTT (fun k m=>k+m+1) fun a b=>a - b):=zm9 fun ⟨k,a⟩ ⟨m,b⟩ x y n X w T _ h1 h2 hx hy hT _=>by
 obtain ⟨hb,rfl⟩:=zd8 hT
 obtain ⟨e1,f1⟩:=zh4 h1 hx
 obtain ⟨e2,f2⟩:=zh4 h2 hy
 rw [e1,e2]
 exact (r2_sub a b f1 f2 (by simpa using hb) w).mono fun e w' he=>zb4 he (zL9 (RS.sub f1 f2))
theorem zp4:ConOK Tryz.prog I 106 (cTT (fun k m=>k+m) fun a b=>a*b):=zm9 fun ⟨k,a⟩ ⟨m,b⟩ x y n X w T _ h1 h2 hx hy hT _=>by
 obtain ⟨hb,rfl⟩:=zd8 hT
 obtain ⟨e1,f1⟩:=zh4 h1 hx
 obtain ⟨e2,f2⟩:=zh4 h2 hy
 rw [e1,e2]
 exact (r2_mul a b f1 f2 (by simpa using hb) w).mono fun e w' he=>zb4 he (zL9 (RS.mul f1 f2))
theorem zp5:ConOK Tryz.prog I 64 yb3:=zm9 fun ⟨k,a⟩ ⟨m,b⟩ x y n X w T _ h1 h2 hx hy hT hp=>by
 obtain ⟨hb,rfl⟩:=zd8 hT
 obtain ⟨e1,f1⟩:=zh4 h1 hx
 obtain ⟨e2,f2⟩:=zh4 h2 hy
 have h0:=num_ne (of_decide_eq_true hp.1)
 rw [e1,e2]
 exact (r2_div a b f1 f2 h0 (by simpa using hb) w).mono fun e w' he=>zb4 he (zL9 (RS.div f1 f2 h0))
theorem zp6:ConOK Tryz.prog I 115 yb4:=zg6 fun ⟨k,a⟩ x n X w T _ h1 h2 hT _=>by
 obtain ⟨hb,rfl⟩:=zd8 hT
 obtain ⟨e1,f1⟩:=zh4 h1 h2
 rw [e1]
 exact (r2_neg a f1 (by simpa using hb) w).mono fun e w' he=>zb4 he (zL9 (RS.neg f1))
theorem zk6:ConOK Tryz.prog I 65 zE6:=zg6 fun a x n X w T _ h1 h2 hT _=>by
 cases hT
 obtain ⟨e1,h3,h4⟩:=zU6 h1 h2
 rw [e1]
 exact (r2_from a h3 h4 w).mono fun e w' he=>zb4 he (zL9 (RS.int (show a.natAbs<2 ^ 64 by omega) (by decide)))
theorem zp7 (hI:∀ w,I w→Mx w):ConOK Tryz.prog I 94 (zv4 400):=zg6 fun ⟨k,a⟩ x n X w T hw h1 h2 hT _=>by
 obtain ⟨hb,rfl⟩:=zd8 hT
 simp only [Bool.and_eq_true,Nat.ble_eq] at hb
 obtain ⟨e1,f1⟩:=zh4 h1 h2
 rw [e1]
 have hl:=zu4 f1.1 f1.2
 exact (zI2 (k:=max k 64) a ⟨f1.1.mono (by omega),f1.2.mono (by omega)⟩ (by omega) (by omega) (by omega) w (hI w hw)).mono fun e w' he=>zu7 he
theorem zp8 (hI:∀ w,I w→Mx w):ConOK Tryz.prog I 107 (zv4 65536):=zg6 fun ⟨k,a⟩ x n X w T hw h1 h2 hT _=>by
 obtain ⟨hb,rfl⟩:=zd8 hT
 simp only [Bool.and_eq_true,Nat.ble_eq] at hb
 obtain ⟨e1,f1⟩:=zh4 h1 h2
 rw [e1]
 have hl:=zu4 f1.1 f1.2
 exact (readr_q (k:=max k 64) a ⟨f1.1.mono (by omega),f1.2.mono (by omega)⟩ (by omega) (by omega) (by omega) w (hI w hw)).mono fun e w' he=>zu7 he
end
def Kt (t:TypeId) (w w':World):Prop:=∀ (b:Nat) (cs:Array Value) (fr:Nat × Nat),w.heap[b]?=some (Obj.cells cs t fr)→w'.heap[b]?=some (Obj.cells cs t fr)
theorem Kt.refl (t:TypeId) (w:World):Kt t w w:=fun _ _ _ h=>h
theorem Kt.trans {t:TypeId} {a b c:World} (h:Kt t a b) (k:Kt t b c):Kt t a c:=fun b cs fr hb=>k b cs fr (h b cs fr hb)
theorem Gr.kt {w w':World} (h:Gr w w') (t:TypeId):Kt t w w':=fun _ _ _ hk=>h.heap hk
theorem Kt.kp {w w':World} (h:Kt 161 w w'):Kp w w':=h
theorem St.kt {w w':World} {b:Nat} {cs:Array Value} {T t:TypeId} (h:St w w' b) (hL:Lc w b cs T) (ht:t≠T):Kt t w w':=fun c ds fr hc=>by
 by_cases e:c=b
 ·subst e
  unfold Lc at hL
  rw [hc] at hL
  simp only [Option.some.injEq,Obj.cells.injEq] at hL
  exact absurd hL.2.1 ht
 ·exact (h.block c e).trans hc
theorem Wt.kt {T t:TypeId} {w w':World} (h:Wt T w w') (ht:t≠T):Kt t w w':=fun b cs fr hb=>h.block b cs _ fr ht hb
def Kts (ts:List TypeId) (w w':World):Prop:=∀ t ∈ ts,Kt t w w'
theorem Gr.kts {w w':World} (h:Gr w w') (ts:List TypeId):Kts ts w w':=fun t _=>h.kt t
theorem St.kts {w w':World} {b:Nat} {cs:Array Value} {T:TypeId} {ts:List TypeId} (h:St w w' b) (hL:Lc w b cs T) (ht:(ts.all fun t=>t !=T)=true):Kts ts w w':=fun t hm=>h.kt hL (by have:=List.all_eq_true.1 ht t hm;simpa using this)
theorem Wt.kts {w w':World} {T:TypeId} {ts:List TypeId} (h:Wt T w w') (ht:(ts.all fun t=>t !=T)=true):Kts ts w w':=fun t hm=>h.kt (by have:=List.all_eq_true.1 ht t hm;simpa using this)

section
variable {α:Type}
def Stab (E:World→α→List Value→Prop) (ts:List TypeId):Prop:=∀ w w' x vs,Kts ts w w'→E w x vs→E w' x vs
def Els (E:World→α→List Value→Prop) (c:Nat) (w:World) (ys:List Value) (xs:List α):Prop:=
 ys.length=xs.length*c∧∀ (i:Nat) (x:α),xs[i]?=some x→E w x ((ys.drop (i*c)).take c)
theorem Els.kts {E:World→α→List Value→Prop} {ts:List TypeId} {c:Nat} {w w':World} {ys:List Value} {xs:List α} (h:Els E c w ys xs) (hS:Stab E ts) (k:Kts ts w w'):Els E c w' ys xs:=
 ⟨h.1,fun i x hx=>hS _ _ _ _ k (h.2 i x hx)⟩
theorem Els.nil (E:World→α→List Value→Prop) (c:Nat) (w:World):Els E c w [] []:=⟨by simp,fun i x h=>by simp at h⟩
theorem Els.snoc {E:World→α→List Value→Prop} {c:Nat} {w:World} {ys:List Value} {xs:List α} (h:Els E c w ys xs) {x:α} {vs:List Value} (hv:vs.length=c) (hx:E w x vs):Els E c w (ys++vs) (xs++[x]):=by
 refine ⟨by simp [h.1,hv,Nat.add_mul],fun i y hy=>?_⟩
 rcases Nat.lt_or_ge i xs.length with hi | hi
 ·rw [List.getElem?_append_left hi] at hy
  have h1:i*c+c≤ys.length:=by
   rw [h.1]
   have:=Nat.mul_le_mul_right c (show i+1≤xs.length by omega)
   rw [Nat.add_mul] at this;omega
  have:=h.2 i y hy
  rw [List.drop_append_of_le_length (by omega),List.take_append_of_le_length (by rw [List.length_drop];omega)]
  exact this
 ·rw [List.getElem?_append_right hi] at hy
  have h0:i=xs.length:=by
   have:=(List.getElem?_eq_some_iff.1 hy).1
   simp at this;omega
  subst h0
  simp only [Nat.sub_self,List.getElem?_cons_zero,Option.some.injEq] at hy
  subst hy
  rw [← h.1,List.drop_left,← hv,List.take_length]
  exact hx
theorem Els.set {E:World→α→List Value→Prop} {c:Nat} {w:World} {ys:List Value} {xs:List α} (h:Els E c w ys xs) {i:Nat} (hi:i<xs.length) {x:α} {vs:List Value} (hv:vs.length=c) (hx:E w x vs):
  Els E c w (ys.take (i*c)++vs++ys.drop (i*c+c)) (xs.set i x):=by
 have hle:i*c+c≤ys.length:=by
  rw [h.1]
  have:=Nat.mul_le_mul_right c (show i+1≤xs.length by omega)
  rw [Nat.add_mul] at this;omega
 refine ⟨by rw [List.length_append,List.length_append,List.length_take,List.length_drop,List.length_set,hv,Nat.min_eq_left (by omega)];have:=h.1;omega,fun j y hy=>?_⟩
 rcases Nat.lt_trichotomy j i with hj | hj | hj
 ·rw [List.getElem?_set_ne (by omega)] at hy
  have h1:j*c+c≤i*c:=by
   have:=Nat.mul_le_mul_right c (show j+1≤i by omega)
   rw [Nat.add_mul] at this;omega
  have e:((ys.take (i*c)++vs++ys.drop (i*c+c)).drop (j*c)).take c=(ys.drop (j*c)).take c:=by
   rw [List.append_assoc,List.drop_append_of_le_length (by rw [List.length_take];omega),List.take_append_of_le_length (by rw [List.length_drop,List.length_take];omega),List.drop_take,List.take_take]
   congr 1;omega
  rw [e];exact h.2 j y hy
 ·subst hj
  rw [List.getElem?_set_self hi] at hy
  obtain rfl:=Option.some.inj hy
  have e:((ys.take (j*c)++vs++ys.drop (j*c+c)).drop (j*c)).take c=vs:=by
   have hl:(ys.take (j*c)).length=j*c:=by rw [List.length_take];omega
   rw [List.append_assoc,List.drop_append,hl,Nat.sub_self,List.drop_zero,List.drop_eq_nil_of_le (by omega),List.nil_append,List.take_append_of_le_length (by omega),List.take_of_length_le (by omega)]
  rw [e];exact hx
 ·rw [List.getElem?_set_ne (by omega)] at hy
  have h1:i*c+c≤j*c:=by
   have:=Nat.mul_le_mul_right c (show i+1≤j by omega)
   rw [Nat.add_mul] at this;omega
  have e:((ys.take (i*c)++vs++ys.drop (i*c+c)).drop (j*c)).take c=(ys.drop (j*c)).take c:=by
   have hl:(ys.take (i*c)++vs).length=i*c+c:=by rw [List.length_append,List.length_take];omega
   rw [List.drop_append,hl,List.drop_eq_nil_of_le (by omega),List.nil_append,List.drop_drop]
   congr 2;omega
  rw [e];exact h.2 j y hy
theorem Els.mono {E F:World→α→List Value→Prop} {c:Nat} {w:World} {ys:List Value} {xs:List α} (h:Els E c w ys xs) (hf:∀ x vs,E w x vs→F w x vs):Els F c w ys xs:=⟨h.1,fun i x hx=>hf _ _ (h.2 i x hx)⟩

def Cs (T:TypeId) (w:World) (v:Value) (n:Nat) (ys:List Value):Prop:=
 ∃ ao cap,v=.slice ao n cap∧n≤cap∧(0<ys.length→∃ b off cs fr,ao=some ⟨b,off,none⟩∧w.heap[b]?=some (.cells cs T fr)∧∀ j,j<ys.length→cs[off+j]?=ys[j]?)
theorem Cs.kt {T:TypeId} {w w':World} {v:Value} {n:Nat} {ys:List Value} (h:Cs T w v n ys) (k:Kt T w w'):Cs T w' v n ys:=by
 obtain ⟨ao,cap,h1,h2,h3⟩:=h
 refine ⟨ao,cap,h1,h2,fun hp=>?_⟩
 obtain ⟨b,off,cs,fr,e1,e2,e3⟩:=h3 hp
 exact ⟨b,off,cs,fr,e1,k _ _ _ e2,e3⟩
def adr (v:Value) (j:Nat):Value:=
 match v with
 | .slice (some ⟨b,off,_⟩) _ _=>.pointer (some ⟨b,off+j,none⟩)
 | _=>undef
def AtV (w:World) (v:Value) (j:Nat) (vs:List Value):Prop:=∃ b off n cap,v=.slice (some ⟨b,off,none⟩) n cap∧w.rangeAt b (off+j) vs
theorem Cs.at_ {T:TypeId} {w:World} {v:Value} {n:Nat} {ys:List Value} (h:Cs T w v n ys) (hp:0<ys.length) (j:Nat) (vs:List Value) (hv:(ys.drop j).take vs.length=vs):AtV w v j vs:=by
 obtain ⟨ao,cap,rfl,h2,h3⟩:=h
 obtain ⟨b,off,cs,fr,rfl,e2,e3⟩:=h3 hp
 refine ⟨b,off,_,_,rfl,fun i u hi=>?_⟩
 have hi':i<vs.length:=(List.getElem?_eq_some_iff.1 hi).1
 have h1:((ys.drop j).take vs.length)[i]?=vs[i]?:=by rw [hv]
 rw [List.getElem?_take_of_lt hi',List.getElem?_drop,hi] at h1
 rw [zb5 e2,Nat.add_assoc,e3 (j+i) (List.getElem?_eq_some_iff.1 h1).1]
 exact h1
def Sl (E:World→α→List Value→Prop) (T:TypeId) (c:Nat) (w:World) (v:Value) (xs:List α):Prop:=∃ ys,Cs T w v xs.length ys∧Els E c w ys xs
theorem Sl.kts {E:World→α→List Value→Prop} {ts:List TypeId} {T:TypeId} {c:Nat} {w w':World} {v:Value} {xs:List α} (h:Sl E T c w v xs) (hS:Stab E ts) (k:Kts (T::ts) w w'):Sl E T c w' v xs:=by
 obtain ⟨ys,h1,h2⟩:=h
 exact ⟨ys,h1.kt (k T (by simp)),h2.kts hS (fun t ht=>k t (by simp [ht]))⟩
theorem Sl.gr {E:World→α→List Value→Prop} {ts:List TypeId} {T:TypeId} {c:Nat} {w w':World} {v:Value} {xs:List α} (h:Sl E T c w v xs) (hS:Stab E ts) (g:Gr w w'):Sl E T c w' v xs:=h.kts hS (g.kts _)
theorem Sl.mono {E F:World→α→List Value→Prop} {T:TypeId} {c:Nat} {w:World} {v:Value} {xs:List α} (h:Sl E T c w v xs) (hf:∀ x vs,E w x vs→F w x vs):Sl F T c w v xs:=by
 obtain ⟨ys,h1,h2⟩:=h
 exact ⟨ys,h1,h2.mono hf⟩
theorem Sl.form {E:World→α→List Value→Prop} {T:TypeId} {c:Nat} {w:World} {v:Value} {xs:List α} (h:Sl E T c w v xs):∃ ao cap,v=.slice ao xs.length cap∧xs.length≤cap:=by
 obtain ⟨ys,⟨ao,cap,h1,h2,_⟩,_⟩:=h
 exact ⟨ao,cap,h1,h2⟩
theorem Sl.one {E:World→α→List Value→Prop} {T:TypeId} {c:Nat} {w:World} {v:Value} {xs:List α} (h:Sl E T c w v xs):v.oneCell'=true:=by
 obtain ⟨ao,cap,rfl,_⟩:=h.form;rfl
theorem Sl.nil (E:World→α→List Value→Prop) (T:TypeId) (c:Nat) (w:World) (ao:Option Addr) (cap:Nat):Sl E T c w (.slice ao 0 cap) ([]:List α):=
 ⟨[],⟨ao,cap,rfl,Nat.zero_le _,fun h=>by simp at h⟩,Els.nil ..⟩
theorem Sl.get {E:World→α→List Value→Prop} {T:TypeId} {c:Nat} {w:World} {v:Value} {xs:List α} (h:Sl E T c w v xs) (hc:0<c) {i:Nat} {x:α} (hx:xs[i]?=some x):∃ vs,vs.length=c∧E w x vs∧AtV w v (i*c) vs:=by
 obtain ⟨ys,h1,h2⟩:=h
 have hi:=(List.getElem?_eq_some_iff.1 hx).1
 have hle:i*c+c≤ys.length:=by
  rw [h2.1]
  have:=Nat.mul_le_mul_right c (show i+1≤xs.length by omega)
  rw [Nat.add_mul] at this;omega
 have hl:((ys.drop (i*c)).take c).length=c:=by rw [List.length_take,List.length_drop];omega
 exact ⟨_,hl,h2.2 i x hx,h1.at_ (by omega) _ _ (by rw [hl])⟩
theorem Sl.adr_some {E:World→α→List Value→Prop} {T:TypeId} {c:Nat} {w:World} {v:Value} {xs:List α} (h:Sl E T c w v xs) (hc:0<c) (hp:0<xs.length):∃ b off cap,v=.slice (some ⟨b,off,none⟩) xs.length cap:=by
 obtain ⟨ys,⟨ao,cap,h1,h2,h3⟩,h4⟩:=h
 obtain ⟨b,off,cs,fr,e1,_⟩:=h3 (by rw [h4.1];exact Nat.mul_pos hp hc)
 exact ⟨b,off,cap,by rw [h1,e1]⟩

variable {P:Program} {a:Act} {o:Oper} {w:World} {Q:Exit→Act→World→Prop} {K:Act→World→Prop} {ops:Array Oper}
theorem rv_len {E:World→α→List Value→Prop} {T:TypeId} {c:Nat} {v:Value} {xs:List α} {w0:World} (h:Sl E T c w0 v xs) (x:Operand) (t:TypeId) (hop:o.op=.call {callee:=.builtin .len,args:=#[x],argTypes:=#[t]}) (hx:a.eval x=v) {e:TypeId} (hu:P.underlying t=some (.slice e)):
  RunV P a o w (.int .i64 (xs.length:Int)):=by
 obtain ⟨ao,cap,rfl,_⟩:=h.form
 unfold RunV
 generalize a.eval=ev at*
 unfold execOp
 simp only [hop]
 simp [hx,go_sem,Builtin.len_,run_underlying hu,goInt]
theorem rv_idx {E:World→α→List Value→Prop} {T:TypeId} {c:Nat} {v:Value} {xs:List α} {w0:World} (h:Sl E T c w0 v xs) (hc:0<c) (i:Nat) (hi:i<xs.length) (t:TypeId) (x y:Operand) (hop:o.op=.indexAddr t x y) (hx:a.eval x=v) (hy:a.eval y=.int .i64 (i:Int))
  {e:TypeId} (hu:P.underlying t=some (.slice e)) (hs:(P.info? e).map (·.size)=some c):RunV P a o w (adr v (i*c)):=by
 obtain ⟨b,off,cap,rfl⟩:=h.adr_some hc (by omega)
 obtain ⟨j,hj,hsz⟩:=Option.map_eq_some_iff.1 hs
 unfold RunV execOp
 simp only [hop,hx,hy]
 have h1:(0:Int)≤(i:Int)∧(i:Int)<(xs.length:Int):=by omega
 by_cases h0:i*c=0<;>simp [Instr.indexAt,asIntOf,run_underlying hu,sizeOf,typeInfo,hj,hsz,h1,hi,h0,adr,Addr.add]
theorem rv_ldn (vs:List Value) {v:Value} {j:Nat} (h:AtV w v j vs) (t:TypeId) (x:Operand) (hop:o.op=.load t x) (hx:a.eval x=adr v j) (hs:zf2 P t=some vs.length):RunV P a o w (.agg vs.toArray):=by
 obtain ⟨b,off,n,cap,rfl,hr⟩:=h
 have hx':a.eval x=.pointer (some ⟨b,off+j,none⟩):=hx
 unfold zf2 at hs
 unfold RunV
 cases hd:P.underlying t with
 | none=>rw [hd] at hs;cases hs
 | some d=>
  rw [hd] at hs
  have hrow:d.isRow=true∧(P.info? t).map (·.size)=some vs.length:=by
   cases d<;>first | cases hs | exact ⟨rfl,hs⟩
  unfold execOp
  simp only [hop,hx',Instr.loadAt,Instr.sureAddr,Sem.run_bind,Sem.run_pure,Result.andThen_ok,run_loadVar_mid w b (off+j) t vs d hr hd hrow.1 hrow.2]
def Mk (E:World→α→List Value→Prop) (T:TypeId) (c:Nat) (w:World) (b:Nat) (xs:List α):Prop:=∃ ys:List Value,Lc w b ys.toArray T∧Els E c w ys xs
theorem Mk.kts {E:World→α→List Value→Prop} {ts:List TypeId} {T:TypeId} {c:Nat} {w w':World} {b:Nat} {xs:List α} (h:Mk E T c w b xs) (hS:Stab E ts) (k:Kts (T::ts) w w'):Mk E T c w' b xs:=by
 obtain ⟨ys,h1,h2⟩:=h
 exact ⟨ys,k T (by simp) _ _ _ h1,h2.kts hS (fun t ht=>k t (by simp [ht]))⟩
theorem Mk.gr {E:World→α→List Value→Prop} {ts:List TypeId} {T:TypeId} {c:Nat} {w w':World} {b:Nat} {xs:List α} (h:Mk E T c w b xs) (hS:Stab E ts) (g:Gr w w'):Mk E T c w' b xs:=h.kts hS (g.kts _)
theorem Mk.lt {E:World→α→List Value→Prop} {T:TypeId} {c:Nat} {w:World} {b:Nat} {xs:List α} (h:Mk E T c w b xs):b<w.heap.size:=by
 obtain ⟨ys,h1,_⟩:=h;exact h1.lt
theorem Mk.sl {E:World→α→List Value→Prop} {T:TypeId} {c:Nat} {w:World} {b:Nat} {xs:List α} (h:Mk E T c w b xs) {cap:Nat} (hc:xs.length≤cap):Sl E T c w (.slice (some ⟨b,0,none⟩) xs.length cap) xs:=by
 obtain ⟨ys,h1,h2⟩:=h
 exact ⟨ys,⟨_,cap,rfl,hc,fun _=>⟨b,0,_,_,rfl,h1,fun j _=>by simp⟩⟩,h2⟩
theorem getD_some {d:α} {i:Nat} {xs:List α} (h:i<xs.length):xs[i]?=some (xs.getD i d):=by simp [h]
theorem AtV.gr {w w':World} {v:Value} {j:Nat} {vs:List Value} (h:AtV w v j vs) (g:Gr w w'):AtV w' v j vs:=by
 obtain ⟨b,off,n,cap,e,hr⟩:=h
 refine ⟨b,off,n,cap,e,fun i u hi=>?_⟩
 have h1:=hr i u hi
 rw [← h1]
 exact Below.cell g (p:=⟨b,off+j+i,none⟩) (World.block_lt_of_cell? w _ h1)
theorem zs8:∀ (vs:List Value) (off:Nat) (ys:List Value),off+vs.length≤ys.length→ze6 ys.toArray off vs=(ys.take off++vs++ys.drop (off+vs.length)).toArray
 | [],off,ys,_=>by simp [ze6]
 | v::vs,off,ys,h=>by
  simp only [List.length_cons] at h
  rw [ze6,List.setIfInBounds_toArray,zs8 vs (off+1) (ys.set off v) (by simp;omega)]
  congr 1
  have h1:(ys.set off v).take (off+1)=ys.take off++[v]:=by
   rw [List.take_add_one,List.take_set_of_le (Nat.le_refl _),List.getElem?_set_self (by omega)];rfl
  have h2:(ys.set off v).drop (off+1+vs.length)=ys.drop (off+(vs.length+1)):=by
   rw [List.drop_set_of_lt (by omega)];congr 1;omega
  rw [h1,h2];simp
def Ow (E:World→α→List Value→Prop) (T:TypeId) (c:Nat) (w:World) (B:Nat) (v:Value) (xs:List α):Prop:=∃ ys,w.ownsRow B T c v xs.length ys∧Els E c w ys xs
theorem yq0 {w w':World} {B T c n:Nat} {v:Value} {ys:List Value} (h:w.ownsRow B T c v n ys) (k:Kt T w w'):w'.ownsRow B T c v n ys:=by
 refine ⟨h.1,?_⟩
 rcases h.2 with hn | ⟨g,cap,cur,rfl,hb,hg,hr⟩
 ·exact .inl hn
 ·exact .inr ⟨g,cap,cur,rfl,hb,k _ _ _ hg,hr⟩
theorem Ow.kts {E:World→α→List Value→Prop} {ts:List TypeId} {T:TypeId} {c B:Nat} {w w':World} {v:Value} {xs:List α} (h:Ow E T c w B v xs) (hS:Stab E ts) (k:Kts (T::ts) w w'):Ow E T c w' B v xs:=by
 obtain ⟨ys,h1,h2⟩:=h
 exact ⟨ys,yq0 h1 (k T (by simp)),h2.kts hS (fun t ht=>k t (by simp [ht]))⟩
theorem Ow.gr {E:World→α→List Value→Prop} {ts:List TypeId} {T:TypeId} {c B:Nat} {w w':World} {v:Value} {xs:List α} (h:Ow E T c w B v xs) (hS:Stab E ts) (g:Gr w w'):Ow E T c w' B v xs:=h.kts hS (g.kts _)
theorem Ow.nil (E:World→α→List Value→Prop) (T:TypeId) (c:Nat) (w:World) (B:Nat):Ow E T c w B (.slice none 0 0) ([]:List α):=⟨[],World.ownsRow_nil ..,Els.nil ..⟩
theorem Ow.one {E:World→α→List Value→Prop} {T:TypeId} {c B:Nat} {w:World} {v:Value} {xs:List α} (h:Ow E T c w B v xs):v.oneCell'=true:=by
 obtain ⟨ys,h1,_⟩:=h
 rcases h1.2 with ⟨rfl,_⟩ | ⟨g,cap,cur,rfl,_⟩<;>rfl
theorem Ow.sl {E:World→α→List Value→Prop} {T:TypeId} {c B:Nat} {w:World} {v:Value} {xs:List α} (h:Ow E T c w B v xs):Sl E T c w v xs:=by
 obtain ⟨ys,h1,h2⟩:=h
 refine ⟨ys,?_,h2⟩
 rcases h1.2 with ⟨rfl,hn⟩ | ⟨g,cap,cur,rfl,hb,hg,h3,h4,h5,h6⟩
 ·refine ⟨none,0,by rw [hn],by omega,fun hp=>?_⟩
  rw [h2.1,hn] at hp;simp at hp
 ·refine ⟨_,cap,rfl,h3,fun _=>⟨g,0,cur,_,rfl,hg,fun j hj=>?_⟩⟩
  rw [h2.1] at hj
  have:(cur.toList.take (xs.length*c))[j]?=ys[j]?:=by rw [h6]
  rw [List.getElem?_take_of_lt hj] at this
  rw [Nat.zero_add,← this];simp
def OwNe (v:Value) (b:Nat):Prop:=∀ g n cap,v=.slice (some ⟨g,0,none⟩) n cap→g≠b
theorem Ow.ne {E:World→α→List Value→Prop} {T:TypeId} {c B b:Nat} {w:World} {v:Value} {xs:List α} (h:Ow E T c w B v xs) (hb:w.heap.size≤b):OwNe v b:=by
 obtain ⟨ys,h1,_⟩:=h
 intro g n cap e
 rcases h1.2 with ⟨hn,_⟩ | ⟨g',cap',cur,he,_,hg,_⟩
 ·rw [hn] at e;cases e
 ·rw [he] at e;cases e
  have:=zh1 hg
  omega
theorem Ow.st {E:World→α→List Value→Prop} {ts:List TypeId} {T:TypeId} {c B b:Nat} {w w':World} {v:Value} {xs:List α} (h:Ow E T c w B v xs) (hS:Stab E ts) (st:St w w' b) (hn:OwNe v b) (k:Kts ts w w'):Ow E T c w' B v xs:=by
 obtain ⟨ys,h1,h2⟩:=h
 refine ⟨ys,⟨h1.1,?_⟩,h2.kts hS k⟩
 rcases h1.2 with hv | ⟨g,cap,cur,rfl,hb,hg,hr⟩
 ·exact .inl hv
 ·exact .inr ⟨g,cap,cur,rfl,hb,by rw [st.block g (hn g _ _ rfl)];exact hg,hr⟩
theorem Ow.mono {E:World→α→List Value→Prop} {T:TypeId} {c B C:Nat} {w:World} {v:Value} {xs:List α} (h:Ow E T c w B v xs) (hC:C≤B):Ow E T c w C v xs:=by
 obtain ⟨ys,h1,h2⟩:=h
 refine ⟨ys,⟨h1.1,?_⟩,h2⟩
 rcases h1.2 with hn | ⟨g,cap,cur,rfl,hb,hg,hr⟩
 ·exact .inl hn
 ·exact .inr ⟨g,cap,cur,rfl,Nat.le_trans hC hb,hg,hr⟩
theorem eff_app {E:World→α→List Value→Prop} {ts:List TypeId} (hS:Stab E ts) (s x:Operand) (t:TypeId) (T B:Nat) (z:Value) (v:Value) (xs:List α) (b:Nat) (us:List Value) (x0:α) (c cx:Nat) (d:Option Tmp) (bytes:Nat) (hd:o.dst=d)
  (ho:o.op=.call {callee:=.builtin .append,args:=#[s,x],argTypes:=#[t,t]}) (hs:a.eval s=v) (hx:a.eval x=.slice (some ⟨b,0,none⟩) 1 cx)
  (hown:Ow E T c w B v xs) (hL:Lc w b us.toArray T) (hu:One1 us) (hl:us.length=c) (hE:E w x0 us) (w0:World) (hB:Gr w0 w) (ab:w0.heap.size≤B) (hBw:B≤w.heap.size) (hn:xs.length≤1000000) (hbytes:bytes≤1000)
  (ht:P.underlying t=some (.slice T)) (hi:(P.info? T).map (fun i=>(i.zero,i.size,i.bytes))=some (some z,c,bytes)) (hzs:z.cells.size=c∧0<c) (hT:(ts.all fun t=>t !=T)=true)
  (h:∀ v' w',Ow E T c w' B v' (xs++[x0])→Wt T w w'→Gr w0 w'→K (a.put d v') w'):o.wp P a w K Q:=by
 subst hd
 obtain ⟨ys,hown,hEl⟩:=hown
 obtain ⟨i,hi,hz,hsize,hby⟩:=info_parts hi
 have aa:(xs.length+1)*bytes≤1000001*1000:=Nat.mul_le_mul (by omega) hbytes
 refine wp_append_own w s x t ho B T i z c bytes ht hi hz hsize hby hzs.1 hzs.2 v xs.length ys hs hown ⟨b,0,none⟩ 1 cx us hx (by omega) (fun j y hj=>?_) hu.all (by unfold maxLen;omega) (by omega) hBw ?_
 ·have e:(⟨b,0,none⟩:Addr).add j=⟨b,j,none⟩:=by by_cases h0:j=0<;>simp [Addr.add,h0]
  rw [e,zb5 hL];simpa using hj
 ·intro v' w' h2 hg _
  have hown':=hown
  have hnew:∀ k,v.ownBlock=some k→B≤k∧∃ cur,w.heap[k]?=some (.cells cur T (0,0)):=by
   intro k hk
   rcases hown'.2 with ⟨rfl,_⟩ | ⟨g,cap,cur,rfl,hb,hgg,_⟩
   ·simp [Value.ownBlock] at hk
   ·simp [Value.ownBlock] at hk
    subst hk;exact ⟨hb,cur,hgg⟩
  have hwt:Wt T w w':=⟨hg.os,hg.tape,hg.output,hg.size,fun k cs t fr ht hk=>by
   rw [hg.block k (zh1 hk) (fun e=>?_)]
   ·exact hk
   ·obtain ⟨_,cur,hc⟩:=hnew k e.symm
    rw [hk] at hc
    simp only [Option.some.injEq,Obj.cells.injEq] at hc
    exact ht hc.2.1⟩
  refine h v' w' ⟨_,by simpa using h2,(hEl.snoc hl hE).kts hS (hwt.kts hT)⟩ hwt ?_
  refine Below.trans hB ⟨hg.os,hg.tape,hg.output,hg.size,fun k hk=>hg.block k (Nat.lt_of_lt_of_le hk hB.size) (fun e=>?_)⟩
  have:=(hnew k e.symm).1
  omega
theorem Sl.cases {E:World→α→List Value→Prop} {T:TypeId} {c:Nat} {w:World} {v:Value} {xs:List α} (h:Sl E T c w v xs) (hc:0<c):xs=[]∨0<xs.length∧∃ b off cap,v=.slice (some ⟨b,off,none⟩) xs.length cap:=by
 cases xs with
 | nil=>exact .inl rfl
 | cons x xs=>exact .inr ⟨by simp,h.adr_some hc (by simp)⟩
end
def ERat (k:Nat) (w:World) (q:Rat) (vs:List Value):Prop:=∃ c0 c1 c2 c3,vs=[c0,c1,c2,c3]∧IsRat w k c0 c1 c2 c3 q
theorem ERat.mono {k m:Nat} {w:World} {q:Rat} {vs:List Value} (h:ERat k w q vs) (hk:k≤m):ERat m w q vs:=by
 obtain ⟨c0,c1,c2,c3,e,hq⟩:=h
 exact ⟨c0,c1,c2,c3,e,hq.mono hk⟩
structure WideF (F:Fence):Prop where
 fn:∀ f,F.fn f
 depth:F.depth=none
 calls:∀ {n:Nat} {P:Program} {f:FuncId} {args:Array Value} {w:World} {R:Ending→World→Prop},Calls P f args w R→CallsIn F n P f args w R
 rows:∀ {n:Nat} {P:Program} {row:String} {args:Array Value} {w:World} {R:Value→World→Prop},Rows P row args w R→RowsIn F n P row args w R
theorem wide_wide:WideF Fence.wide:=
 ⟨fun _=>trivial,rfl,fun h=>callsIn_wide.2 h,fun h c cs _=>let ⟨v,w',r,s⟩:=h c cs;⟨v,w',r,stepsIn_wide.2 s⟩⟩
theorem ze3 (l:Nat):WideF (Fence.wide.inRound l):=
 ⟨fun _=>trivial,rfl,fun h=>CallsIn.inRound l (callsIn_wide.2 h),fun h=>wide_wide.rows h⟩
def zj1 (o:Oper):Bool:=match o.op with | .defer _=>false | _=>true
section
variable {P:Program} {F:Fence} {n:Nat} {a:Act} {o:Oper} {w:World} {Q:Exit→Act→World→Prop} {K:Act→World→Prop} {ops:Array Oper}
theorem zy0 (h:zj1 o=true):o.semAt F.round a.eval=execOp a.eval o:=
 Oper.semAt_eq _ _ _ (fun c e=>by unfold zj1 at h;rw [e] at h;cases h)
theorem opIn (hF:WideF F) (hd:zj1 o=true) (h:o.wp P a w K Q):o.wpIn F n P a w K Q:=by
 refine ⟨fun f _=>hF.fn f,?_⟩
 rw [zy0 hd]
 unfold Oper.wp at h
 have hdep:F.depth.isSome=true→1≤n:=by rw [hF.depth];intro e;cases e
 generalize (execOp a.eval o).run P w=r at*
 cases r with
 | ok x w'=>
  cases x with
  | value v=>exact h
  | skip=>exact h
  | defer d=>exact h
  | enter f args=>exact ⟨hdep,(hF.calls h).mono fun e w2 he=>by cases e<;>exact he⟩
  | row row args=>exact ⟨hdep,hF.rows h⟩
  | _=>exact h.elim
 | halt x w'=>cases x<;>first | exact h | exact h.elim
theorem zn3 (hF:WideF F) (hd:ops.all zj1=true) (hQ:¬ LetsOut Q):∀ (r:List Nat) (a:Act) (w:World),wpOps P ops Q r a w→wpOpsIn F n P ops Q r a w
 | [],_,_,h=>h
 | i::rest,a,w,h=>by
  unfold wpOps at h
  unfold wpOpsIn
  cases ho:ops[i]? with
  | none=>rw [ho] at h;exact zn3 hF hd hQ rest a w h
  | some o=>
   rw [ho] at h
   dsimp only at h ⊢
   have hdo:zj1 o=true:=by
    obtain ⟨hi,e⟩:=Array.getElem?_eq_some_iff.1 ho
    have:=Array.all_eq_true.1 hd i hi
    rw [e] at this;exact this
   split
   ·next hw=>
    rw [if_pos hw] at h
    rcases h with h | ⟨_,h⟩
    ·exact opIn hF hdo (Oper.wp_mono (fun a w h=>zn3 hF hd hQ rest a w h) h)
    ·exact absurd h hQ
   ·next hw=>
    rw [if_neg hw] at h
    exact ⟨fun f _=>hF.fn f,zn3 hF hd hQ rest _ w h⟩
theorem rgI (hF:WideF F) {id:Nat} (r:List Nat) (h:wpOps P ops Q r a w) (hr:List.range ops.size=r:=by rfl) (hd:ops.all zj1=true:=by kernel_rfl) (hQ:¬ LetsOut Q:=by rintro ⟨_,_,h⟩;exact h):(Code.region id ops false).wpIn F n P Q a w:=
 wpIn_region (by rw [hr];exact zn3 hF hd hQ r a w h)
theorem ordI (hF:WideF F) {id:Nat} (S:World→Prop) (l:List (Bool × Nat)) (hm:P.follows .mixedOrders=true) (hs:Region.noSelect ops=true)
  (hok:zw1 ops l (Array.replicate ops.size false)=true) (hl:l.length≤ops.size) (hQ:∀ c (a:Act) (d:Tmp) v w,Q (.panic c) (a.put (some d) v) w→Q (.panic c) a w) (hS:S w.drew)
  (h:zh6 P ops Q S l a w.drew) (hd:ops.all zj1=true:=by kernel_rfl) (aa:¬ LetsOut Q:=by rintro ⟨_,_,h⟩;exact h):(Code.region id ops true).wpIn F n P Q a w:=
 wpIn_region_draw fun t=>by
  simp only [Region.schedule,hm,Bool.true_or,if_true]
  exact zn3 hF hd aa _ _ _ (wpAny_sound ops.size t _ a _ (wpAny_of_held _ _ _ _ (zo0 hs hQ l _ _ _ _ hl hok hS h)))
variable {l:List Value} {ds:List Deferred}
theorem rgY {id:Nat} (r:List Nat) (h:wpOpsIn F n P ops Q r a w) (hr:List.range ops.size=r:=by rfl):(Code.region id ops false).wpIn F n P Q a w:=wpIn_region (by rw [hr];exact h)
theorem svY (hF:WideF F) {i:Nat} {rest:List Nat} (d:Nat) (v:Value) (h:wpOpsIn F n P ops Q rest ⟨(l.set d v).toArray,ds⟩ w) (ho:ops[i]?=some o:=by rfl) (hd:o.dst=some d:=by rfl) (hw:Region.wanted o (yielded ops (⟨l.toArray,ds⟩:Act).tmps)=true:=by kernel_rfl)
  (hv:(execOp (⟨l.toArray,ds⟩:Act).eval o).run P w=.ok (.value v) w:=by kernel_rfl) (hnd:zj1 o=true:=by kernel_rfl):wpOpsIn F n P ops Q (i::rest) ⟨l.toArray,ds⟩ w:=by
 unfold wpOpsIn
 simp only [ho,hw,if_true]
 refine opIn hF hnd ?_
 unfold Oper.wp
 rw [hv]
 show wpOpsIn F n P ops Q rest ((⟨l.toArray,ds⟩:Act).put o.dst v) w
 rw [hd,zM5];exact h
theorem swY (hF:WideF F) {i:Nat} {rest:List Nat} (d:Nat) (v:Value) (ho:ops[i]?=some o) (hv:RunV P ⟨l.toArray,ds⟩ o w v) (h:wpOpsIn F n P ops Q rest ⟨(l.set d v).toArray,ds⟩ w) (hd:o.dst=some d:=by rfl) (hw:Region.wanted o (yielded ops (⟨l.toArray,ds⟩:Act).tmps)=true:=by kernel_rfl)
  (hnd:zj1 o=true:=by kernel_rfl):wpOpsIn F n P ops Q (i::rest) ⟨l.toArray,ds⟩ w:=svY hF d v h ho hd hw hv hnd
theorem zc9 (h:Q .normal a w):wpOpsIn F n P ops Q [] a w:=h
theorem yd2 (w:World) (cs:Array Value) (t:TypeId) (off:Nat) (v:Value):(w.alloc (.cells cs t)).setCell ⟨w.heap.size,off,none⟩ v=w.alloc (.cells (cs.setIfInBounds off v) t):=by
 have e:∀ f:Obj→Obj,f (.cells cs t)=.cells (cs.setIfInBounds off v) t→(w.heap.push (.cells cs t)).modify w.heap.size f=w.heap.push (.cells (cs.setIfInBounds off v) t):=fun f hf=>by
  apply Array.ext_getElem?
  intro i
  rw [Array.getElem?_modify]
  by_cases h:w.heap.size=i
  ·subst h;simp [hf]
  ·rw [if_neg h,Array.getElem?_push,Array.getElem?_push]
   rw [if_neg (fun e=>h e.symm),if_neg (fun e=>h e.symm)]
 unfold World.setCell World.alloc
 simp only []
 rw [e _ rfl]
theorem zD5 (w:World) (t:TypeId):∀ (vs:List Value) (cs:Array Value) (off:Nat),(w.alloc (.cells cs t)).setCells w.heap.size off vs=w.alloc (.cells (ze6 cs off vs) t)
 | [],_,_=>rfl
 | v::vs,cs,off=>by
  show ((w.alloc (.cells cs t)).setCell ⟨w.heap.size,off,none⟩ v).setCells w.heap.size (off+1) vs=_
  rw [yd2,zD5 w t vs];rfl
theorem zn8 (hF:WideF F) {i j:Nat} {rest:List Nat} {o2:Oper} {y:Operand} (d t:Nat) (z:Value) (vs:List Value) (h:wpOpsIn F n P ops Q rest ⟨(l.set d (.pointer (some ⟨w.heap.size,0,none⟩))).toArray,ds⟩ (w.alloc (.cells vs.toArray t)))
  (h1:One1 vs) (ho:ops[i]?=some o:=by rfl) (ae:ops[j]?=some o2:=by rfl) (hd:o.dst=some d:=by rfl) (hop:o.op=.alloc t:=by rfl) (ab:o2.op=.store t (.tmp d) y:=by rfl) (ac:o2.dst=none:=by rfl)
  (hw:Region.wanted o (yielded ops (⟨l.toArray,ds⟩:Act).tmps)=true:=by kernel_rfl) (ad:∀ p,Region.wanted o2 (yielded ops (⟨(l.set d p).toArray,ds⟩:Act).tmps)=true:=by intro p;rfl)
  (hx:∀ p,(⟨(l.set d p).toArray,ds⟩:Act).eval (.tmp d)=p:=by intro p;rfl) (hy:∀ p,(⟨(l.set d p).toArray,ds⟩:Act).eval y=.agg vs.toArray:=by intro p;rfl)
  (hz:(P.info? t).map (fun i=>(i.zero,i.size))=some (some z,vs.length):=by kernel_rfl) (hzs:z.cells.size=vs.length:=by rfl) (hnd:zj1 o=true:=by kernel_rfl) (aa:zj1 o2=true:=by kernel_rfl):wpOpsIn F n P ops Q (i::j::rest) ⟨l.toArray,ds⟩ w:=by
 obtain ⟨info,hi,hzz⟩:=Option.map_eq_some_iff.1 hz
 simp only [Prod.mk.injEq] at hzz
 unfold wpOpsIn
 simp only [ho,hw,if_true]
 refine opIn hF hnd ?_
 unfold Oper.wp execOp
 simp only [hop,Instr.alloc,zeroValue,typeInfo,newVar,Sem.run_bind,zC0,Result.andThen_ok,Sem.run_pure,run_program,hi,hzz.1]
 show wpOpsIn F n P ops Q (j::rest) ((⟨l.toArray,ds⟩:Act).put o.dst _) _
 rw [hd,zM5]
 unfold wpOpsIn
 simp only [ae,ad,if_true]
 refine opIn hF aa ?_
 have hL:Lc (w.alloc (.cells z.cells t)) w.heap.size z.cells t:=heap_alloc_new w _
 have hrun:(storeVar t ⟨w.heap.size,0,none⟩ (.agg vs.toArray)).run P (w.alloc (.cells z.cells t))=.ok () (w.alloc (.cells vs.toArray t)):=by
  have h3:=run_storeCells_cells (P:=P) w.heap.size 0 vs 0 (w.alloc (.cells z.cells t)) (fun j hj=>by rw [Nat.add_zero,zb5 hL];simp;omega) (fun j hj=>zm4 hL _) h1.all
  simp only [Nat.add_zero] at h3
  rw [zD5] at h3
  have e:ze6 z.cells 0 vs=vs.toArray:=by
   have h4:=zs8 vs 0 z.cells.toList (by simp;omega)
   rw [Array.toArray_toList] at h4
   rw [h4]
   simp [hzs]
  rw [e] at h3
  have hc:(Value.agg vs.toArray).cells=vs.toArray:=rfl
  simp [storeVar,sizeOf,typeInfo,hi,hzz.2,hc,h3]
 unfold Oper.wp execOp
 simp only [ab,hx,hy,Instr.storeAt,Instr.sureAddr,Sem.run_bind,Sem.run_pure,Result.andThen_ok,hrun,Oper.upon,ac,Act.put]
 exact h
theorem yq7 (hF:WideF F) {i:Nat} {rest:List Nat} (d ll:Nat) {args:Array Value} {R:Ending→World→Prop} (hy:YieldAt F (n - 1) P ll args w R) (h:∀ e w',R e w'→∃ v,e=.returned v∧wpOpsIn F n P ops Q rest ⟨(l.set d v).toArray,ds⟩ w')
  (ho:ops[i]?=some o) (hd:o.dst=some d) (hw:Region.wanted o (yielded ops (⟨l.toArray,ds⟩:Act).tmps)=true)
  (hv:(execOp (⟨l.toArray,ds⟩:Act).eval o).run P w=(Instr.yield ll args).run P w) (hnd:zj1 o=true:=by kernel_rfl):wpOpsIn F n P ops Q (i::rest) ⟨l.toArray,ds⟩ w:=by
 unfold wpOpsIn
 simp only [ho,hw,if_true]
 obtain ⟨fn,tmps,assign,body,hrun,hR⟩:=hy
 refine ⟨fun f _=>hF.fn f,?_⟩
 rw [zy0 hnd,hv,hrun]
 refine ⟨(by rw [hF.depth];intro e;cases e),hR.mono fun e w' he=>?_⟩
 obtain ⟨v,rfl,hk⟩:=h e w' he
 show wpOpsIn F n P ops Q rest ((⟨l.toArray,ds⟩:Act).put o.dst v) w'
 rw [hd,zM5];exact hk
end
def encs (L:List Value) (k:Fin 12):Array Value:=#[.int .i64 (k.val:Int),.agg #[L.getD (4*k.val) undef,L.getD (4*k.val+1) undef,L.getD (4*k.val+2) undef,L.getD (4*k.val+3) undef]]
def all12:List (Fin 12):=[0,1,2,3,4,5,6,7,8,9,10,11]
set_option maxRecDepth 100000 in
set_option maxHeartbeats 4000000 in
theorem zI3 (n bm:Nat) (c0 c1 c2 c3 c4 c5 c6 c7 c8 c9 aL al ab aN ax au aq aI aC aJ ap aR av aj aD aG ar aa aK ah aM ac af az aE aQ ae ad ai aP ak ay aO aB aw aA aF aH:Value) (o0:c0.oneCell'=true) (o1:c1.oneCell'=true) (o2:c2.oneCell'=true) (o3:c3.oneCell'=true) (o4:c4.oneCell'=true) (o5:c5.oneCell'=true) (o6:c6.oneCell'=true) (o7:c7.oneCell'=true) (o8:c8.oneCell'=true) (o9:c9.oneCell'=true) (eE:aL.oneCell'=true) (eL:al.oneCell'=true) (dR:ab.oneCell'=true) (dY:aN.oneCell'=true) (eU:ax.oneCell'=true) (eR:au.oneCell'=true) (cT:aq.oneCell'=true) (df:aI.oneCell'=true) (cK:aC.oneCell'=true) (cZ:aJ.oneCell'=true) (dG:ap.oneCell'=true) (eH:aR.oneCell'=true) (cP:av.oneCell'=true) (eW:aj.oneCell'=true) (dK:aD.oneCell'=true) (dd:aG.oneCell'=true) (eI:ar.oneCell'=true) (eQ:aa.oneCell'=true) (dH:aK.oneCell'=true) (d2:ah.oneCell'=true) (dI:aM.oneCell'=true) (eB:ac.oneCell'=true) (ef:af.oneCell'=true) (di:az.oneCell'=true) (ex:aE.oneCell'=true) (d8:aQ.oneCell'=true) (dX:ae.oneCell'=true) (dt:ad.oneCell'=true) (en:ai.oneCell'=true) (cE:aP.oneCell'=true) (dy:ak.oneCell'=true) (dQ:ay.oneCell'=true) (dx:aO.oneCell'=true) (eF:aB.oneCell'=true) (dW:aw.oneCell'=true) (dh:aA.oneCell'=true) (dN:aF.oneCell'=true) (dP:aH.oneCell'=true) (w:World) (eA:Lc w bm #[c0,c1,c2,c3,c4,c5,c6,c7,c8,c9,aL,al,ab,aN,ax,au,aq,aI,aC,aJ,ap,aR,av,aj,aD,aG,ar,aa,aK,ah,aM,ac,af,az,aE,aQ,ae,ad,ai,aP,ak,ay,aO,aB,aw,aA,aF,aH] 41):
    SeqStopsA Fence.wide n Tryz.prog 98 #[.pointer (some ⟨bm,0,none⟩)] (encs [c0,c1,c2,c3,c4,c5,c6,c7,c8,c9,aL,al,ab,aN,ax,au,aq,aI,aC,aJ,ap,aR,av,aj,aD,aG,ar,aa,aK,ah,aM,ac,af,az,aE,aQ,ae,ad,ai,aP,ak,ay,aO,aB,aw,aA,aF,aH]) (fun xs=>xs=all12) (fun pre=>∃ k,pre=all12.take k) 12 w:=fun l J Jx W hW hJ hJx hY e4=>by
  have hL:Lc W bm #[c0,c1,c2,c3,c4,c5,c6,c7,c8,c9,aL,al,ab,aN,ax,au,aq,aI,aC,aJ,ap,aR,av,aj,aD,aG,ar,aa,aK,ah,aM,ac,af,az,aE,aQ,ae,ad,ai,aP,ak,ay,aO,aB,aw,aA,aF,aH] 41:=by
    have:=hW.block bm eA.lt
    unfold Lc at*
    rw [this];exact eA
  refine callsIn_of_wp Tryz.func98 rfl trivial ?_ rfl
  simp only [Tryz.ntmps98,List.size_toArray,List.length_cons,List.length_nil,Nat.reduceAdd,Nat.reduceSub,Array.replicate_succ,Array.replicate_zero,List.push_toArray,List.append_toArray,List.nil_append,List.cons_append]
  refine wpIn_seq_k (fun K1 k1=>?_)
  refine rgY [0] ?_
  refine svY wide_wide 3 (.int .i64 0) ?_
  try simp only [p3,p4]
  refine zc9 ?_
  refine k1 _ _ ?_
  try clear k1 K1
  refine wpIn_seq_k (fun K2 k2=>?_)
  refine rgY [0,1,2,3,4,5,6,7,8,9,10,11,12] ?_
  refine svY wide_wide 8 (.pointer (some ⟨bm,0,none⟩)) ?_
  try simp only [p3,p4]
  refine svY wide_wide 9 (.pointer (some ⟨bm,0,none⟩)) ?_
  try simp only [p3,p4]
  refine swY wide_wide 10 (.agg #[c0,c1,c2,c3,c4,c5,c6,c7,c8,c9,aL,al]) rfl (rl 38 0 [c0,c1,c2,c3,c4,c5,c6,c7,c8,c9,aL,al] hL) ?_
  try simp only [p3,p4]
  refine svY wide_wide 11 (.pointer (some ⟨bm,0,none⟩)) ?_
  try simp only [p3,p4]
  refine svY wide_wide 12 (.pointer (some ⟨bm,12,none⟩)) ?_
  try simp only [p3,p4]
  refine swY wide_wide 13 (.agg #[ab,aN,ax,au,aq,aI,aC,aJ,ap,aR,av,aj]) rfl (rl 38 12 [ab,aN,ax,au,aq,aI,aC,aJ,ap,aR,av,aj] hL) ?_
  try simp only [p3,p4]
  refine svY wide_wide 14 (.pointer (some ⟨bm,0,none⟩)) ?_
  try simp only [p3,p4]
  refine svY wide_wide 15 (.pointer (some ⟨bm,24,none⟩)) ?_
  try simp only [p3,p4]
  refine swY wide_wide 16 (.agg #[aD,aG,ar,aa,aK,ah,aM,ac,af,az,aE,aQ]) rfl (rl 38 24 [aD,aG,ar,aa,aK,ah,aM,ac,af,az,aE,aQ] hL) ?_
  try simp only [p3,p4]
  refine svY wide_wide 17 (.pointer (some ⟨bm,36,none⟩)) ?_
  try simp only [p3,p4]
  refine swY wide_wide 18 (.agg #[ae,ad,ai,aP,ak,ay,aO,aB,aw,aA,aF,aH]) rfl (rl 38 36 [ae,ad,ai,aP,ak,ay,aO,aB,aw,aA,aF,aH] hL) ?_
  try simp only [p3,p4]
  refine svY wide_wide 19 (.agg #[c0,c1,c2,c3,c4,c5,c6,c7,c8,c9,aL,al,ab,aN,ax,au,aq,aI,aC,aJ,ap,aR,av,aj,aD,aG,ar,aa,aK,ah,aM,ac,af,az,aE,aQ,ae,ad,ai,aP,ak,ay,aO,aB,aw,aA,aF,aH]) ?_
  try simp only [p3,p4]
  refine svY wide_wide 20 (.int .i64 0) ?_
  try simp only [p3,p4]
  refine zc9 ?_
  refine k2 _ _ ?_
  try clear k2 K2
  refine wpIn_block ?_
  refine wpIn_loop_rounds 5 ?_
  show Code.wpIn _ _ _ _ _ _ _
  refine wpIn_seq_k (fun K3 k3=>?_)
  refine rgY [0] ?_
  refine svY wide_wide 21 (.bool true) ?_
  try simp only [p3,p4]
  refine zc9 ?_
  refine k3 _ _ ?_
  try clear k3 K3
  refine wpIn_seq_k (fun K4 k4=>?_)
  refine wpIn_cond_true rfl ?_
  refine wpIn_skip ?_
  refine k4 _ _ ?_
  try clear k4 K4
  refine wpIn_seq_k (fun K5 k5=>?_)
  refine wpIn_block ?_
  refine wpIn_seq_k (fun K6 k6=>?_)
  refine rgY [0,1,2] ?_
  refine svY wide_wide 22 (.agg #[c0,c1,c2,c3,c4,c5,c6,c7,c8,c9,aL,al]) ?_
  try simp only [p3,p4]
  refine zn8 wide_wide 5 38 (.agg #[.bool false,.slice none 0 0,.bool false,.slice none 0 0,.bool false,.slice none 0 0,.bool false,.slice none 0 0,.bool false,.slice none 0 0,.bool false,.slice none 0 0]) [c0,c1,c2,c3,c4,c5,c6,c7,c8,c9,aL,al] ?_ ⟨o0,o1,o2,o3,o4,o5,o6,o7,o8,o9,eE,eL,trivial⟩
  have eh:=hJ _ _ _ none e4 (World.grownBy_alloc W (.cells [c0,c1,c2,c3,c4,c5,c6,c7,c8,c9,aL,al].toArray 38) none) (fun r e=>by cases e)
  have L7:Lc _ _ #[c0,c1,c2,c3,c4,c5,c6,c7,c8,c9,aL,al] 38:=heap_alloc_new W (.cells [c0,c1,c2,c3,c4,c5,c6,c7,c8,c9,aL,al].toArray 38)
  generalize W.alloc (.cells [c0,c1,c2,c3,c4,c5,c6,c7,c8,c9,aL,al].toArray 38)=w7 at eh L7 ⊢
  try simp only [p3,p4]
  refine zc9 ?_
  refine k6 _ _ ?_
  try clear k6 K6
  refine wpIn_seq_k (fun K8 k8=>?_)
  refine rgY [0,1] ?_
  refine swY wide_wide 23 (.agg #[c0,c1,c2,c3,c4,c5,c6,c7,c8,c9,aL,al]) rfl (rl 38 0 [c0,c1,c2,c3,c4,c5,c6,c7,c8,c9,aL,al] L7) ?_
  try simp only [p3,p4]
  refine svY wide_wide 24 (.int .i64 0) ?_
  try simp only [p3,p4]
  refine zc9 ?_
  refine k8 _ _ ?_
  try clear k8 K8
  refine wpIn_block ?_
  refine wpIn_loop_rounds 5 ?_
  show Code.wpIn _ _ _ _ _ _ _
  refine wpIn_seq_k (fun K9 k9=>?_)
  refine rgY [0] ?_
  refine svY wide_wide 25 (.bool true) ?_
  try simp only [p3,p4]
  refine zc9 ?_
  refine k9 _ _ ?_
  try clear k9 K9
  refine wpIn_seq_k (fun e7 du=>?_)
  refine wpIn_cond_true rfl ?_
  refine wpIn_skip ?_
  refine du _ _ ?_
  try clear du e7
  refine wpIn_seq_k (fun f6 cM=>?_)
  refine wpIn_block ?_
  refine wpIn_seq_k (fun fQ eM=>?_)
  refine rgY [0,1,2] ?_
  refine svY wide_wide 26 (.agg #[c0,c1,c2,c3]) ?_
  try simp only [p3,p4]
  refine zn8 wide_wide 7 36 (.agg #[.bool false,.slice none 0 0,.bool false,.slice none 0 0]) [c0,c1,c2,c3] ?_ ⟨o0,o1,o2,o3,trivial⟩
  have bA:=hJ _ _ _ none eh (World.grownBy_alloc w7 (.cells [c0,c1,c2,c3].toArray 36) none) (fun r e=>by cases e)
  have cU:Lc _ _ #[c0,c1,c2,c3] 36:=heap_alloc_new w7 (.cells [c0,c1,c2,c3].toArray 36)
  generalize w7.alloc (.cells [c0,c1,c2,c3].toArray 36)=w13 at bA cU ⊢
  try simp only [p3,p4]
  refine zc9 ?_
  refine eM _ _ ?_
  try clear eM fQ
  refine wpIn_seq_k (fun e8 dU=>?_)
  refine wpIn_seq_k (fun cJ bR=>?_)
  refine rgY [0,1,2,3,4] ?_
  refine svY wide_wide 27 (.func (.yield l) #[] #[]) ?_
  try simp only [p3,p4]
  refine svY wide_wide 28 (.int .i64 0) ?_
  try simp only [p3,p4]
  refine swY wide_wide 29 (.agg #[c0,c1,c2,c3]) rfl (rl 36 0 [c0,c1,c2,c3] cU) ?_
  try simp only [p3,p4]
  refine yq7 wide_wide 30 l (hY [] 0 _ bA (by decide)) ?_ rfl rfl (by kernel_rfl) (by kernel_rfl)
  rintro f9 co (⟨rfl,hJ16,_⟩ | ⟨rfl,hx16⟩)
  ·refine ⟨_,rfl,?_⟩
   try simp only [p3,p4]
   refine svY wide_wide 31 (.bool false) ?_
   try simp only [p3,p4]
   refine zc9 ?_
   refine bR _ _ ?_
   try clear bR cJ
   refine wpIn_cond_false rfl ?_
   refine wpIn_skip ?_
   refine dU _ _ ?_
   try clear dU e8
   refine rgY [0,1,2] ?_
   refine svY wide_wide 32 (.int .i64 0) ?_
   try simp only [p3,p4]
   refine svY wide_wide 33 (.int .i64 1) ?_
   try simp only [p3,p4]
   refine svY wide_wide 3 (.int .i64 1) ?_
   try simp only [p3,p4]
   refine zc9 ?_
   refine cM _ _ ?_
   try clear cM f6
   refine rgY [0,1] ?_
   refine svY wide_wide 34 (.int .i64 1) ?_
   try simp only [p3,p4]
   refine svY wide_wide 24 (.int .i64 1) ?_
   try simp only [p3,p4]
   refine zc9 ?_
   show Code.roundsIn _ _ _ _ _ _ _ _
   show Code.wpIn _ _ _ _ _ _ _
   refine wpIn_seq_k (fun fZ eC=>?_)
   refine rgY [0] ?_
   refine svY wide_wide 25 (.bool true) ?_
   try simp only [p3,p4]
   refine zc9 ?_
   refine eC _ _ ?_
   try clear eC fZ
   refine wpIn_seq_k (fun fI eO=>?_)
   refine wpIn_cond_true rfl ?_
   refine wpIn_skip ?_
   refine eO _ _ ?_
   try clear eO fI
   refine wpIn_seq_k (fun eZ d5=>?_)
   refine wpIn_block ?_
   refine wpIn_seq_k (fun fF dp=>?_)
   refine rgY [0,1,2] ?_
   refine svY wide_wide 26 (.agg #[c4,c5,c6,c7]) ?_
   try simp only [p3,p4]
   refine zn8 wide_wide 7 36 (.agg #[.bool false,.slice none 0 0,.bool false,.slice none 0 0]) [c4,c5,c6,c7] ?_ ⟨o4,o5,o6,o7,trivial⟩
   have a8:=hJ _ _ _ none hJ16 (World.grownBy_alloc co (.cells [c4,c5,c6,c7].toArray 36) none) (fun r e=>by cases e)
   have d1:Lc _ _ #[c4,c5,c6,c7] 36:=heap_alloc_new co (.cells [c4,c5,c6,c7].toArray 36)
   generalize co.alloc (.cells [c4,c5,c6,c7].toArray 36)=w21 at a8 d1 ⊢
   try simp only [p3,p4]
   refine zc9 ?_
   refine dp _ _ ?_
   try clear dp fF
   refine wpIn_seq_k (fun fC eP=>?_)
   refine wpIn_seq_k (fun dB bP=>?_)
   refine rgY [0,1,2,3,4] ?_
   refine svY wide_wide 27 (.func (.yield l) #[] #[]) ?_
   try simp only [p3,p4]
   refine svY wide_wide 28 (.int .i64 1) ?_
   try simp only [p3,p4]
   refine swY wide_wide 29 (.agg #[c4,c5,c6,c7]) rfl (rl 36 0 [c4,c5,c6,c7] d1) ?_
   try simp only [p3,p4]
   refine yq7 wide_wide 30 l (hY [0] 1 _ a8 (by decide)) ?_ rfl rfl (by kernel_rfl) (by kernel_rfl)
   rintro ga cD (⟨rfl,hJ24,_⟩ | ⟨rfl,hx24⟩)
   ·refine ⟨_,rfl,?_⟩
    try simp only [p3,p4]
    refine svY wide_wide 31 (.bool false) ?_
    try simp only [p3,p4]
    refine zc9 ?_
    refine bP _ _ ?_
    try clear bP dB
    refine wpIn_cond_false rfl ?_
    refine wpIn_skip ?_
    refine eP _ _ ?_
    try clear eP fC
    refine rgY [0,1,2] ?_
    refine svY wide_wide 32 (.int .i64 1) ?_
    try simp only [p3,p4]
    refine svY wide_wide 33 (.int .i64 2) ?_
    try simp only [p3,p4]
    refine svY wide_wide 3 (.int .i64 2) ?_
    try simp only [p3,p4]
    refine zc9 ?_
    refine d5 _ _ ?_
    try clear d5 eZ
    refine rgY [0,1] ?_
    refine svY wide_wide 34 (.int .i64 2) ?_
    try simp only [p3,p4]
    refine svY wide_wide 24 (.int .i64 2) ?_
    try simp only [p3,p4]
    refine zc9 ?_
    show Code.roundsIn _ _ _ _ _ _ _ _
    show Code.wpIn _ _ _ _ _ _ _
    refine wpIn_seq_k (fun fY cO=>?_)
    refine rgY [0] ?_
    refine svY wide_wide 25 (.bool true) ?_
    try simp only [p3,p4]
    refine zc9 ?_
    refine cO _ _ ?_
    try clear cO fY
    refine wpIn_seq_k (fun fK dL=>?_)
    refine wpIn_cond_true rfl ?_
    refine wpIn_skip ?_
    refine dL _ _ ?_
    try clear dL fK
    refine wpIn_seq_k (fun fh eV=>?_)
    refine wpIn_block ?_
    refine wpIn_seq_k (fun f4 d9=>?_)
    refine rgY [0,1,2] ?_
    refine svY wide_wide 26 (.agg #[c8,c9,aL,al]) ?_
    try simp only [p3,p4]
    refine zn8 wide_wide 7 36 (.agg #[.bool false,.slice none 0 0,.bool false,.slice none 0 0]) [c8,c9,aL,al] ?_ ⟨o8,o9,eE,eL,trivial⟩
    have a4:=hJ _ _ _ none hJ24 (World.grownBy_alloc cD (.cells [c8,c9,aL,al].toArray 36) none) (fun r e=>by cases e)
    have dD:Lc _ _ #[c8,c9,aL,al] 36:=heap_alloc_new cD (.cells [c8,c9,aL,al].toArray 36)
    generalize cD.alloc (.cells [c8,c9,aL,al].toArray 36)=w29 at a4 dD ⊢
    try simp only [p3,p4]
    refine zc9 ?_
    refine d9 _ _ ?_
    try clear d9 f4
    refine wpIn_seq_k (fun fM ez=>?_)
    refine wpIn_seq_k (fun ed bO=>?_)
    refine rgY [0,1,2,3,4] ?_
    refine svY wide_wide 27 (.func (.yield l) #[] #[]) ?_
    try simp only [p3,p4]
    refine svY wide_wide 28 (.int .i64 2) ?_
    try simp only [p3,p4]
    refine swY wide_wide 29 (.agg #[c8,c9,aL,al]) rfl (rl 36 0 [c8,c9,aL,al] dD) ?_
    try simp only [p3,p4]
    refine yq7 wide_wide 30 l (hY [0,1] 2 _ a4 (by decide)) ?_ rfl rfl (by kernel_rfl) (by kernel_rfl)
    rintro e32 cC (⟨rfl,hJ32,_⟩ | ⟨rfl,hx32⟩)
    ·refine ⟨_,rfl,?_⟩
     try simp only [p3,p4]
     refine svY wide_wide 31 (.bool false) ?_
     try simp only [p3,p4]
     refine zc9 ?_
     refine bO _ _ ?_
     try clear bO ed
     refine wpIn_cond_false rfl ?_
     refine wpIn_skip ?_
     refine ez _ _ ?_
     try clear ez fM
     refine rgY [0,1,2] ?_
     refine svY wide_wide 32 (.int .i64 2) ?_
     try simp only [p3,p4]
     refine svY wide_wide 33 (.int .i64 3) ?_
     try simp only [p3,p4]
     refine svY wide_wide 3 (.int .i64 3) ?_
     try simp only [p3,p4]
     refine zc9 ?_
     refine eV _ _ ?_
     try clear eV fh
     refine rgY [0,1] ?_
     refine svY wide_wide 34 (.int .i64 3) ?_
     try simp only [p3,p4]
     refine svY wide_wide 24 (.int .i64 3) ?_
     try simp only [p3,p4]
     refine zc9 ?_
     show Code.roundsIn _ _ _ _ _ _ _ _
     show Code.wpIn _ _ _ _ _ _ _
     refine wpIn_seq_k (fun fo dw=>?_)
     refine rgY [0] ?_
     refine svY wide_wide 25 (.bool false) ?_
     try simp only [p3,p4]
     refine zc9 ?_
     refine dw _ _ ?_
     try clear dw fo
     refine wpIn_seq_k (fun gk gh=>?_)
     refine wpIn_cond_false rfl ?_
     refine wpIn_exit ?_
     simp only [Exit.then,Exit.inBlock,↓reduceIte]
     refine k5 _ _ ?_
     try clear k5 K5
     refine rgY [0,1] ?_
     refine svY wide_wide 35 (.int .i64 1) ?_
     try simp only [p3,p4]
     refine svY wide_wide 20 (.int .i64 1) ?_
     try simp only [p3,p4]
     refine zc9 ?_
     show Code.roundsIn _ _ _ _ _ _ _ _
     show Code.wpIn _ _ _ _ _ _ _
     refine wpIn_seq_k (fun fH dq=>?_)
     refine rgY [0] ?_
     refine svY wide_wide 21 (.bool true) ?_
     try simp only [p3,p4]
     refine zc9 ?_
     refine dq _ _ ?_
     try clear dq fH
     refine wpIn_seq_k (fun f5 db=>?_)
     refine wpIn_cond_true rfl ?_
     refine wpIn_skip ?_
     refine db _ _ ?_
     try clear db f5
     refine wpIn_seq_k (fun fO eo=>?_)
     refine wpIn_block ?_
     refine wpIn_seq_k (fun e3 dk=>?_)
     refine rgY [0,1,2] ?_
     refine svY wide_wide 22 (.agg #[ab,aN,ax,au,aq,aI,aC,aJ,ap,aR,av,aj]) ?_
     try simp only [p3,p4]
     refine zn8 wide_wide 5 38 (.agg #[.bool false,.slice none 0 0,.bool false,.slice none 0 0,.bool false,.slice none 0 0,.bool false,.slice none 0 0,.bool false,.slice none 0 0,.bool false,.slice none 0 0]) [ab,aN,ax,au,aq,aI,aC,aJ,ap,aR,av,aj] ?_ ⟨dR,dY,eU,eR,cT,df,cK,cZ,dG,eH,cP,eW,trivial⟩
     have bG:=hJ _ _ _ none hJ32 (World.grownBy_alloc cC (.cells [ab,aN,ax,au,aq,aI,aC,aJ,ap,aR,av,aj].toArray 38) none) (fun r e=>by cases e)
     have eG:Lc _ _ #[ab,aN,ax,au,aq,aI,aC,aJ,ap,aR,av,aj] 38:=heap_alloc_new cC (.cells [ab,aN,ax,au,aq,aI,aC,aJ,ap,aR,av,aj].toArray 38)
     generalize cC.alloc (.cells [ab,aN,ax,au,aq,aI,aC,aJ,ap,aR,av,aj].toArray 38)=cm at bG eG ⊢
     try simp only [p3,p4]
     refine zc9 ?_
     refine dk _ _ ?_
     try clear dk e3
     refine wpIn_seq_k (fun fL dc=>?_)
     refine rgY [0,1] ?_
     refine swY wide_wide 23 (.agg #[ab,aN,ax,au,aq,aI,aC,aJ,ap,aR,av,aj]) rfl (rl 38 0 [ab,aN,ax,au,aq,aI,aC,aJ,ap,aR,av,aj] eG) ?_
     try simp only [p3,p4]
     refine svY wide_wide 24 (.int .i64 0) ?_
     try simp only [p3,p4]
     refine zc9 ?_
     refine dc _ _ ?_
     try clear dc fL
     refine wpIn_block ?_
     refine wpIn_loop_rounds 5 ?_
     show Code.wpIn _ _ _ _ _ _ _
     refine wpIn_seq_k (fun fD dm=>?_)
     refine rgY [0] ?_
     refine svY wide_wide 25 (.bool true) ?_
     try simp only [p3,p4]
     refine zc9 ?_
     refine dm _ _ ?_
     try clear dm fD
     refine wpIn_seq_k (fun fs cV=>?_)
     refine wpIn_cond_true rfl ?_
     refine wpIn_skip ?_
     refine cV _ _ ?_
     try clear cV fs
     refine wpIn_seq_k (fun fJ eu=>?_)
     refine wpIn_block ?_
     refine wpIn_seq_k (fun f8 dO=>?_)
     refine rgY [0,1,2] ?_
     refine svY wide_wide 26 (.agg #[ab,aN,ax,au]) ?_
     try simp only [p3,p4]
     refine zn8 wide_wide 7 36 (.agg #[.bool false,.slice none 0 0,.bool false,.slice none 0 0]) [ab,aN,ax,au] ?_ ⟨dR,dY,eU,eR,trivial⟩
     have bn:=hJ _ _ _ none bG (World.grownBy_alloc cm (.cells [ab,aN,ax,au].toArray 36) none) (fun r e=>by cases e)
     have dj:Lc _ _ #[ab,aN,ax,au] 36:=heap_alloc_new cm (.cells [ab,aN,ax,au].toArray 36)
     generalize cm.alloc (.cells [ab,aN,ax,au].toArray 36)=w45 at bn dj ⊢
     try simp only [p3,p4]
     refine zc9 ?_
     refine dO _ _ ?_
     try clear dO f8
     refine wpIn_seq_k (fun e5 dJ=>?_)
     refine wpIn_seq_k (fun eK bS=>?_)
     refine rgY [0,1,2,3,4] ?_
     refine svY wide_wide 27 (.func (.yield l) #[] #[]) ?_
     try simp only [p3,p4]
     refine svY wide_wide 28 (.int .i64 3) ?_
     try simp only [p3,p4]
     refine swY wide_wide 29 (.agg #[ab,aN,ax,au]) rfl (rl 36 0 [ab,aN,ax,au] dj) ?_
     try simp only [p3,p4]
     refine yq7 wide_wide 30 l (hY [0,1,2] 3 _ bn (by decide)) ?_ rfl rfl (by kernel_rfl) (by kernel_rfl)
     rintro gj bV (⟨rfl,hJ48,_⟩ | ⟨rfl,hx48⟩)
     ·refine ⟨_,rfl,?_⟩
      try simp only [p3,p4]
      refine svY wide_wide 31 (.bool false) ?_
      try simp only [p3,p4]
      refine zc9 ?_
      refine bS _ _ ?_
      try clear bS eK
      refine wpIn_cond_false rfl ?_
      refine wpIn_skip ?_
      refine dJ _ _ ?_
      try clear dJ e5
      refine rgY [0,1,2] ?_
      refine svY wide_wide 32 (.int .i64 3) ?_
      try simp only [p3,p4]
      refine svY wide_wide 33 (.int .i64 4) ?_
      try simp only [p3,p4]
      refine svY wide_wide 3 (.int .i64 4) ?_
      try simp only [p3,p4]
      refine zc9 ?_
      refine eu _ _ ?_
      try clear eu fJ
      refine rgY [0,1] ?_
      refine svY wide_wide 34 (.int .i64 1) ?_
      try simp only [p3,p4]
      refine svY wide_wide 24 (.int .i64 1) ?_
      try simp only [p3,p4]
      refine zc9 ?_
      show Code.roundsIn _ _ _ _ _ _ _ _
      show Code.wpIn _ _ _ _ _ _ _
      refine wpIn_seq_k (fun fa dV=>?_)
      refine rgY [0] ?_
      refine svY wide_wide 25 (.bool true) ?_
      try simp only [p3,p4]
      refine zc9 ?_
      refine dV _ _ ?_
      try clear dV fa
      refine wpIn_seq_k (fun f0 cW=>?_)
      refine wpIn_cond_true rfl ?_
      refine wpIn_skip ?_
      refine cW _ _ ?_
      try clear cW f0
      refine wpIn_seq_k (fun fG cL=>?_)
      refine wpIn_block ?_
      refine wpIn_seq_k (fun eX el=>?_)
      refine rgY [0,1,2] ?_
      refine svY wide_wide 26 (.agg #[aq,aI,aC,aJ]) ?_
      try simp only [p3,p4]
      refine zn8 wide_wide 7 36 (.agg #[.bool false,.slice none 0 0,.bool false,.slice none 0 0]) [aq,aI,aC,aJ] ?_ ⟨cT,df,cK,cZ,trivial⟩
      have bg:=hJ _ _ _ none hJ48 (World.grownBy_alloc bV (.cells [aq,aI,aC,aJ].toArray 36) none) (fun r e=>by cases e)
      have ej:Lc _ _ #[aq,aI,aC,aJ] 36:=heap_alloc_new bV (.cells [aq,aI,aC,aJ].toArray 36)
      generalize bV.alloc (.cells [aq,aI,aC,aJ].toArray 36)=w53 at bg ej ⊢
      try simp only [p3,p4]
      refine zc9 ?_
      refine el _ _ ?_
      try clear el eX
      refine wpIn_seq_k (fun fj de=>?_)
      refine wpIn_seq_k (fun cN bQ=>?_)
      refine rgY [0,1,2,3,4] ?_
      refine svY wide_wide 27 (.func (.yield l) #[] #[]) ?_
      try simp only [p3,p4]
      refine svY wide_wide 28 (.int .i64 4) ?_
      try simp only [p3,p4]
      refine swY wide_wide 29 (.agg #[aq,aI,aC,aJ]) rfl (rl 36 0 [aq,aI,aC,aJ] ej) ?_
      try simp only [p3,p4]
      refine yq7 wide_wide 30 l (hY [0,1,2,3] 4 _ bg (by decide)) ?_ rfl rfl (by kernel_rfl) (by kernel_rfl)
      rintro gg b9 (⟨rfl,hJ56,_⟩ | ⟨rfl,hx56⟩)
      ·refine ⟨_,rfl,?_⟩
       try simp only [p3,p4]
       refine svY wide_wide 31 (.bool false) ?_
       try simp only [p3,p4]
       refine zc9 ?_
       refine bQ _ _ ?_
       try clear bQ cN
       refine wpIn_cond_false rfl ?_
       refine wpIn_skip ?_
       refine de _ _ ?_
       try clear de fj
       refine rgY [0,1,2] ?_
       refine svY wide_wide 32 (.int .i64 4) ?_
       try simp only [p3,p4]
       refine svY wide_wide 33 (.int .i64 5) ?_
       try simp only [p3,p4]
       refine svY wide_wide 3 (.int .i64 5) ?_
       try simp only [p3,p4]
       refine zc9 ?_
       refine cL _ _ ?_
       try clear cL fG
       refine rgY [0,1] ?_
       refine svY wide_wide 34 (.int .i64 2) ?_
       try simp only [p3,p4]
       refine svY wide_wide 24 (.int .i64 2) ?_
       try simp only [p3,p4]
       refine zc9 ?_
       show Code.roundsIn _ _ _ _ _ _ _ _
       show Code.wpIn _ _ _ _ _ _ _
       refine wpIn_seq_k (fun fk cF=>?_)
       refine rgY [0] ?_
       refine svY wide_wide 25 (.bool true) ?_
       try simp only [p3,p4]
       refine zc9 ?_
       refine cF _ _ ?_
       try clear cF fk
       refine wpIn_seq_k (fun fW dE=>?_)
       refine wpIn_cond_true rfl ?_
       refine wpIn_skip ?_
       refine dE _ _ ?_
       try clear dE fW
       refine wpIn_seq_k (fun fu dv=>?_)
       refine wpIn_block ?_
       refine wpIn_seq_k (fun ff eN=>?_)
       refine rgY [0,1,2] ?_
       refine svY wide_wide 26 (.agg #[ap,aR,av,aj]) ?_
       try simp only [p3,p4]
       refine zn8 wide_wide 7 36 (.agg #[.bool false,.slice none 0 0,.bool false,.slice none 0 0]) [ap,aR,av,aj] ?_ ⟨dG,eH,cP,eW,trivial⟩
       have bB:=hJ _ _ _ none hJ56 (World.grownBy_alloc b9 (.cells [ap,aR,av,aj].toArray 36) none) (fun r e=>by cases e)
       have ek:Lc _ _ #[ap,aR,av,aj] 36:=heap_alloc_new b9 (.cells [ap,aR,av,aj].toArray 36)
       generalize b9.alloc (.cells [ap,aR,av,aj].toArray 36)=w61 at bB ek ⊢
       try simp only [p3,p4]
       refine zc9 ?_
       refine eN _ _ ?_
       try clear eN ff
       refine wpIn_seq_k (fun f7 eT=>?_)
       refine wpIn_seq_k (fun eS bM=>?_)
       refine rgY [0,1,2,3,4] ?_
       refine svY wide_wide 27 (.func (.yield l) #[] #[]) ?_
       try simp only [p3,p4]
       refine svY wide_wide 28 (.int .i64 5) ?_
       try simp only [p3,p4]
       refine swY wide_wide 29 (.agg #[ap,aR,av,aj]) rfl (rl 36 0 [ap,aR,av,aj] ek) ?_
       try simp only [p3,p4]
       refine yq7 wide_wide 30 l (hY [0,1,2,3,4] 5 _ bB (by decide)) ?_ rfl rfl (by kernel_rfl) (by kernel_rfl)
       rintro gc cq (⟨rfl,hJ64,_⟩ | ⟨rfl,hx64⟩)
       ·refine ⟨_,rfl,?_⟩
        try simp only [p3,p4]
        refine svY wide_wide 31 (.bool false) ?_
        try simp only [p3,p4]
        refine zc9 ?_
        refine bM _ _ ?_
        try clear bM eS
        refine wpIn_cond_false rfl ?_
        refine wpIn_skip ?_
        refine eT _ _ ?_
        try clear eT f7
        refine rgY [0,1,2] ?_
        refine svY wide_wide 32 (.int .i64 5) ?_
        try simp only [p3,p4]
        refine svY wide_wide 33 (.int .i64 6) ?_
        try simp only [p3,p4]
        refine svY wide_wide 3 (.int .i64 6) ?_
        try simp only [p3,p4]
        refine zc9 ?_
        refine dv _ _ ?_
        try clear dv fu
        refine rgY [0,1] ?_
        refine svY wide_wide 34 (.int .i64 3) ?_
        try simp only [p3,p4]
        refine svY wide_wide 24 (.int .i64 3) ?_
        try simp only [p3,p4]
        refine zc9 ?_
        show Code.roundsIn _ _ _ _ _ _ _ _
        show Code.wpIn _ _ _ _ _ _ _
        refine wpIn_seq_k (fun fg ew=>?_)
        refine rgY [0] ?_
        refine svY wide_wide 25 (.bool false) ?_
        try simp only [p3,p4]
        refine zc9 ?_
        refine ew _ _ ?_
        try clear ew fg
        refine wpIn_seq_k (fun gl gm=>?_)
        refine wpIn_cond_false rfl ?_
        refine wpIn_exit ?_
        simp only [Exit.then,Exit.inBlock,↓reduceIte]
        refine eo _ _ ?_
        try clear eo fO
        refine rgY [0,1] ?_
        refine svY wide_wide 35 (.int .i64 2) ?_
        try simp only [p3,p4]
        refine svY wide_wide 20 (.int .i64 2) ?_
        try simp only [p3,p4]
        refine zc9 ?_
        show Code.roundsIn _ _ _ _ _ _ _ _
        show Code.wpIn _ _ _ _ _ _ _
        refine wpIn_seq_k (fun ft ey=>?_)
        refine rgY [0] ?_
        refine svY wide_wide 21 (.bool true) ?_
        try simp only [p3,p4]
        refine zc9 ?_
        refine ey _ _ ?_
        try clear ey ft
        refine wpIn_seq_k (fun f2 d6=>?_)
        refine wpIn_cond_true rfl ?_
        refine wpIn_skip ?_
        refine d6 _ _ ?_
        try clear d6 f2
        refine wpIn_seq_k (fun fT d7=>?_)
        refine wpIn_block ?_
        refine wpIn_seq_k (fun fX cS=>?_)
        refine rgY [0,1,2] ?_
        refine svY wide_wide 22 (.agg #[aD,aG,ar,aa,aK,ah,aM,ac,af,az,aE,aQ]) ?_
        try simp only [p3,p4]
        refine zn8 wide_wide 5 38 (.agg #[.bool false,.slice none 0 0,.bool false,.slice none 0 0,.bool false,.slice none 0 0,.bool false,.slice none 0 0,.bool false,.slice none 0 0,.bool false,.slice none 0 0]) [aD,aG,ar,aa,aK,ah,aM,ac,af,az,aE,aQ] ?_ ⟨dK,dd,eI,eQ,dH,d2,dI,eB,ef,di,ex,d8,trivial⟩
        have a7:=hJ _ _ _ none hJ64 (World.grownBy_alloc cq (.cells [aD,aG,ar,aa,aK,ah,aM,ac,af,az,aE,aQ].toArray 38) none) (fun r e=>by cases e)
        have cY:Lc _ _ #[aD,aG,ar,aa,aK,ah,aM,ac,af,az,aE,aQ] 38:=heap_alloc_new cq (.cells [aD,aG,ar,aa,aK,ah,aM,ac,af,az,aE,aQ].toArray 38)
        generalize cq.alloc (.cells [aD,aG,ar,aa,aK,ah,aM,ac,af,az,aE,aQ].toArray 38)=cA at a7 cY ⊢
        try simp only [p3,p4]
        refine zc9 ?_
        refine cS _ _ ?_
        try clear cS fX
        refine wpIn_seq_k (fun e1 dZ=>?_)
        refine rgY [0,1] ?_
        refine swY wide_wide 23 (.agg #[aD,aG,ar,aa,aK,ah,aM,ac,af,az,aE,aQ]) rfl (rl 38 0 [aD,aG,ar,aa,aK,ah,aM,ac,af,az,aE,aQ] cY) ?_
        try simp only [p3,p4]
        refine svY wide_wide 24 (.int .i64 0) ?_
        try simp only [p3,p4]
        refine zc9 ?_
        refine dZ _ _ ?_
        try clear dZ e1
        refine wpIn_block ?_
        refine wpIn_loop_rounds 5 ?_
        show Code.wpIn _ _ _ _ _ _ _
        refine wpIn_seq_k (fun fA cH=>?_)
        refine rgY [0] ?_
        refine svY wide_wide 25 (.bool true) ?_
        try simp only [p3,p4]
        refine zc9 ?_
        refine cH _ _ ?_
        try clear cH fA
        refine wpIn_seq_k (fun eY ei=>?_)
        refine wpIn_cond_true rfl ?_
        refine wpIn_skip ?_
        refine ei _ _ ?_
        try clear ei eY
        refine wpIn_seq_k (fun e9 cX=>?_)
        refine wpIn_block ?_
        refine wpIn_seq_k (fun e6 da=>?_)
        refine rgY [0,1,2] ?_
        refine svY wide_wide 26 (.agg #[aD,aG,ar,aa]) ?_
        try simp only [p3,p4]
        refine zn8 wide_wide 7 36 (.agg #[.bool false,.slice none 0 0,.bool false,.slice none 0 0]) [aD,aG,ar,aa] ?_ ⟨dK,dd,eI,eQ,trivial⟩
        have bq:=hJ _ _ _ none a7 (World.grownBy_alloc cA (.cells [aD,aG,ar,aa].toArray 36) none) (fun r e=>by cases e)
        have d0:Lc _ _ #[aD,aG,ar,aa] 36:=heap_alloc_new cA (.cells [aD,aG,ar,aa].toArray 36)
        generalize cA.alloc (.cells [aD,aG,ar,aa].toArray 36)=w77 at bq d0 ⊢
        try simp only [p3,p4]
        refine zc9 ?_
        refine da _ _ ?_
        try clear da e6
        refine wpIn_seq_k (fun fR dn=>?_)
        refine wpIn_seq_k (fun ep bN=>?_)
        refine rgY [0,1,2,3,4] ?_
        refine svY wide_wide 27 (.func (.yield l) #[] #[]) ?_
        try simp only [p3,p4]
        refine svY wide_wide 28 (.int .i64 6) ?_
        try simp only [p3,p4]
        refine swY wide_wide 29 (.agg #[aD,aG,ar,aa]) rfl (rl 36 0 [aD,aG,ar,aa] d0) ?_
        try simp only [p3,p4]
        refine yq7 wide_wide 30 l (hY [0,1,2,3,4,5] 6 _ bq (by decide)) ?_ rfl rfl (by kernel_rfl) (by kernel_rfl)
        rintro ge cd (⟨rfl,hJ80,_⟩ | ⟨rfl,hx80⟩)
        ·refine ⟨_,rfl,?_⟩
         try simp only [p3,p4]
         refine svY wide_wide 31 (.bool false) ?_
         try simp only [p3,p4]
         refine zc9 ?_
         refine bN _ _ ?_
         try clear bN ep
         refine wpIn_cond_false rfl ?_
         refine wpIn_skip ?_
         refine dn _ _ ?_
         try clear dn fR
         refine rgY [0,1,2] ?_
         refine svY wide_wide 32 (.int .i64 6) ?_
         try simp only [p3,p4]
         refine svY wide_wide 33 (.int .i64 7) ?_
         try simp only [p3,p4]
         refine svY wide_wide 3 (.int .i64 7) ?_
         try simp only [p3,p4]
         refine zc9 ?_
         refine cX _ _ ?_
         try clear cX e9
         refine rgY [0,1] ?_
         refine svY wide_wide 34 (.int .i64 1) ?_
         try simp only [p3,p4]
         refine svY wide_wide 24 (.int .i64 1) ?_
         try simp only [p3,p4]
         refine zc9 ?_
         show Code.roundsIn _ _ _ _ _ _ _ _
         show Code.wpIn _ _ _ _ _ _ _
         refine wpIn_seq_k (fun fz eD=>?_)
         refine rgY [0] ?_
         refine svY wide_wide 25 (.bool true) ?_
         try simp only [p3,p4]
         refine zc9 ?_
         refine eD _ _ ?_
         try clear eD fz
         refine wpIn_seq_k (fun fq cR=>?_)
         refine wpIn_cond_true rfl ?_
         refine wpIn_skip ?_
         refine cR _ _ ?_
         try clear cR fq
         refine wpIn_seq_k (fun fE eJ=>?_)
         refine wpIn_block ?_
         refine wpIn_seq_k (fun fx cQ=>?_)
         refine rgY [0,1,2] ?_
         refine svY wide_wide 26 (.agg #[aK,ah,aM,ac]) ?_
         try simp only [p3,p4]
         refine zn8 wide_wide 7 36 (.agg #[.bool false,.slice none 0 0,.bool false,.slice none 0 0]) [aK,ah,aM,ac] ?_ ⟨dH,d2,dI,eB,trivial⟩
         have bD:=hJ _ _ _ none hJ80 (World.grownBy_alloc cd (.cells [aK,ah,aM,ac].toArray 36) none) (fun r e=>by cases e)
         have ee:Lc _ _ #[aK,ah,aM,ac] 36:=heap_alloc_new cd (.cells [aK,ah,aM,ac].toArray 36)
         generalize cd.alloc (.cells [aK,ah,aM,ac].toArray 36)=w85 at bD ee ⊢
         try simp only [p3,p4]
         refine zc9 ?_
         refine cQ _ _ ?_
         try clear cQ fx
         refine wpIn_seq_k (fun fp cG=>?_)
         refine wpIn_seq_k (fun dC bU=>?_)
         refine rgY [0,1,2,3,4] ?_
         refine svY wide_wide 27 (.func (.yield l) #[] #[]) ?_
         try simp only [p3,p4]
         refine svY wide_wide 28 (.int .i64 7) ?_
         try simp only [p3,p4]
         refine swY wide_wide 29 (.agg #[aK,ah,aM,ac]) rfl (rl 36 0 [aK,ah,aM,ac] ee) ?_
         try simp only [p3,p4]
         refine yq7 wide_wide 30 l (hY [0,1,2,3,4,5,6] 7 _ bD (by decide)) ?_ rfl rfl (by kernel_rfl) (by kernel_rfl)
         rintro gd cn (⟨rfl,hJ88,_⟩ | ⟨rfl,hx88⟩)
         ·refine ⟨_,rfl,?_⟩
          try simp only [p3,p4]
          refine svY wide_wide 31 (.bool false) ?_
          try simp only [p3,p4]
          refine zc9 ?_
          refine bU _ _ ?_
          try clear bU dC
          refine wpIn_cond_false rfl ?_
          refine wpIn_skip ?_
          refine cG _ _ ?_
          try clear cG fp
          refine rgY [0,1,2] ?_
          refine svY wide_wide 32 (.int .i64 7) ?_
          try simp only [p3,p4]
          refine svY wide_wide 33 (.int .i64 8) ?_
          try simp only [p3,p4]
          refine svY wide_wide 3 (.int .i64 8) ?_
          try simp only [p3,p4]
          refine zc9 ?_
          refine eJ _ _ ?_
          try clear eJ fE
          refine rgY [0,1] ?_
          refine svY wide_wide 34 (.int .i64 2) ?_
          try simp only [p3,p4]
          refine svY wide_wide 24 (.int .i64 2) ?_
          try simp only [p3,p4]
          refine zc9 ?_
          show Code.roundsIn _ _ _ _ _ _ _ _
          show Code.wpIn _ _ _ _ _ _ _
          refine wpIn_seq_k (fun fS dl=>?_)
          refine rgY [0] ?_
          refine svY wide_wide 25 (.bool true) ?_
          try simp only [p3,p4]
          refine zc9 ?_
          refine dl _ _ ?_
          try clear dl fS
          refine wpIn_seq_k (fun fc em=>?_)
          refine wpIn_cond_true rfl ?_
          refine wpIn_skip ?_
          refine em _ _ ?_
          try clear em fc
          refine wpIn_seq_k (fun fB dF=>?_)
          refine wpIn_block ?_
          refine wpIn_seq_k (fun f1 dT=>?_)
          refine rgY [0,1,2] ?_
          refine svY wide_wide 26 (.agg #[af,az,aE,aQ]) ?_
          try simp only [p3,p4]
          refine zn8 wide_wide 7 36 (.agg #[.bool false,.slice none 0 0,.bool false,.slice none 0 0]) [af,az,aE,aQ] ?_ ⟨ef,di,ex,d8,trivial⟩
          have bH:=hJ _ _ _ none hJ88 (World.grownBy_alloc cn (.cells [af,az,aE,aQ].toArray 36) none) (fun r e=>by cases e)
          have dM:Lc _ _ #[af,az,aE,aQ] 36:=heap_alloc_new cn (.cells [af,az,aE,aQ].toArray 36)
          generalize cn.alloc (.cells [af,az,aE,aQ].toArray 36)=w93 at bH dM ⊢
          try simp only [p3,p4]
          refine zc9 ?_
          refine dT _ _ ?_
          try clear dT f1
          refine wpIn_seq_k (fun fb d4=>?_)
          refine wpIn_seq_k (fun dA bT=>?_)
          refine rgY [0,1,2,3,4] ?_
          refine svY wide_wide 27 (.func (.yield l) #[] #[]) ?_
          try simp only [p3,p4]
          refine svY wide_wide 28 (.int .i64 8) ?_
          try simp only [p3,p4]
          refine swY wide_wide 29 (.agg #[af,az,aE,aQ]) rfl (rl 36 0 [af,az,aE,aQ] dM) ?_
          try simp only [p3,p4]
          refine yq7 wide_wide 30 l (hY [0,1,2,3,4,5,6,7] 8 _ bH (by decide)) ?_ rfl rfl (by kernel_rfl) (by kernel_rfl)
          rintro gi cg (⟨rfl,hJ96,_⟩ | ⟨rfl,hx96⟩)
          ·refine ⟨_,rfl,?_⟩
           try simp only [p3,p4]
           refine svY wide_wide 31 (.bool false) ?_
           try simp only [p3,p4]
           refine zc9 ?_
           refine bT _ _ ?_
           try clear bT dA
           refine wpIn_cond_false rfl ?_
           refine wpIn_skip ?_
           refine d4 _ _ ?_
           try clear d4 fb
           refine rgY [0,1,2] ?_
           refine svY wide_wide 32 (.int .i64 8) ?_
           try simp only [p3,p4]
           refine svY wide_wide 33 (.int .i64 9) ?_
           try simp only [p3,p4]
           refine svY wide_wide 3 (.int .i64 9) ?_
           try simp only [p3,p4]
           refine zc9 ?_
           refine dF _ _ ?_
           try clear dF fB
           refine rgY [0,1] ?_
           refine svY wide_wide 34 (.int .i64 3) ?_
           try simp only [p3,p4]
           refine svY wide_wide 24 (.int .i64 3) ?_
           try simp only [p3,p4]
           refine zc9 ?_
           show Code.roundsIn _ _ _ _ _ _ _ _
           show Code.wpIn _ _ _ _ _ _ _
           refine wpIn_seq_k (fun fN et=>?_)
           refine rgY [0] ?_
           refine svY wide_wide 25 (.bool false) ?_
           try simp only [p3,p4]
           refine zc9 ?_
           refine et _ _ ?_
           try clear et fN
           refine wpIn_seq_k (fun gf gb=>?_)
           refine wpIn_cond_false rfl ?_
           refine wpIn_exit ?_
           simp only [Exit.then,Exit.inBlock,↓reduceIte]
           refine d7 _ _ ?_
           try clear d7 fT
           refine rgY [0,1] ?_
           refine svY wide_wide 35 (.int .i64 3) ?_
           try simp only [p3,p4]
           refine svY wide_wide 20 (.int .i64 3) ?_
           try simp only [p3,p4]
           refine zc9 ?_
           show Code.roundsIn _ _ _ _ _ _ _ _
           show Code.wpIn _ _ _ _ _ _ _
           refine wpIn_seq_k (fun fi dS=>?_)
           refine rgY [0] ?_
           refine svY wide_wide 21 (.bool true) ?_
           try simp only [p3,p4]
           refine zc9 ?_
           refine dS _ _ ?_
           try clear dS fi
           refine wpIn_seq_k (fun cx bJ=>?_)
           refine wpIn_cond_true rfl ?_
           refine wpIn_skip ?_
           refine bJ _ _ ?_
           try clear bJ cx
           refine wpIn_seq_k (fun cB bL=>?_)
           refine wpIn_block ?_
           refine wpIn_seq_k (fun ct bf=>?_)
           refine rgY [0,1,2] ?_
           refine svY wide_wide 22 (.agg #[ae,ad,ai,aP,ak,ay,aO,aB,aw,aA,aF,aH]) ?_
           try simp only [p3,p4]
           refine zn8 wide_wide 5 38 (.agg #[.bool false,.slice none 0 0,.bool false,.slice none 0 0,.bool false,.slice none 0 0,.bool false,.slice none 0 0,.bool false,.slice none 0 0,.bool false,.slice none 0 0]) [ae,ad,ai,aP,ak,ay,aO,aB,aw,aA,aF,aH] ?_ ⟨dX,dt,en,cE,dy,dQ,dx,eF,dW,dh,dN,dP,trivial⟩
           have aX:=hJ _ _ _ none hJ96 (World.grownBy_alloc cg (.cells [ae,ad,ai,aP,ak,ay,aO,aB,aw,aA,aF,aH].toArray 38) none) (fun r e=>by cases e)
           have bh:Lc _ _ #[ae,ad,ai,aP,ak,ay,aO,aB,aw,aA,aF,aH] 38:=heap_alloc_new cg (.cells [ae,ad,ai,aP,ak,ay,aO,aB,aw,aA,aF,aH].toArray 38)
           generalize cg.alloc (.cells [ae,ad,ai,aP,ak,ay,aO,aB,aw,aA,aF,aH].toArray 38)=a0 at aX bh ⊢
           try simp only [p3,p4]
           refine zc9 ?_
           refine bf _ _ ?_
           try clear bf ct
           refine wpIn_seq_k (fun ch bK=>?_)
           refine rgY [0,1] ?_
           refine swY wide_wide 23 (.agg #[ae,ad,ai,aP,ak,ay,aO,aB,aw,aA,aF,aH]) rfl (rl 38 0 [ae,ad,ai,aP,ak,ay,aO,aB,aw,aA,aF,aH] bh) ?_
           try simp only [p3,p4]
           refine svY wide_wide 24 (.int .i64 0) ?_
           try simp only [p3,p4]
           refine zc9 ?_
           refine bK _ _ ?_
           try clear bK ch
           refine wpIn_block ?_
           refine wpIn_loop_rounds 5 ?_
           show Code.wpIn _ _ _ _ _ _ _
           refine wpIn_seq_k (fun bX bk=>?_)
           refine rgY [0] ?_
           refine svY wide_wide 25 (.bool true) ?_
           try simp only [p3,p4]
           refine zc9 ?_
           refine bk _ _ ?_
           try clear bk bX
           refine wpIn_seq_k (fun b7 bp=>?_)
           refine wpIn_cond_true rfl ?_
           refine wpIn_skip ?_
           refine bp _ _ ?_
           try clear bp b7
           refine wpIn_seq_k (fun bY bd=>?_)
           refine wpIn_block ?_
           refine wpIn_seq_k (fun ca bx=>?_)
           refine rgY [0,1,2] ?_
           refine svY wide_wide 26 (.agg #[ae,ad,ai,aP]) ?_
           try simp only [p3,p4]
           refine zn8 wide_wide 7 36 (.agg #[.bool false,.slice none 0 0,.bool false,.slice none 0 0]) [ae,ad,ai,aP] ?_ ⟨dX,dt,en,cE,trivial⟩
           have aW:=hJ _ _ _ none aX (World.grownBy_alloc a0 (.cells [ae,ad,ai,aP].toArray 36) none) (fun r e=>by cases e)
           have a3:Lc _ _ #[ae,ad,ai,aP] 36:=heap_alloc_new a0 (.cells [ae,ad,ai,aP].toArray 36)
           generalize a0.alloc (.cells [ae,ad,ai,aP].toArray 36)=w109 at aW a3 ⊢
           try simp only [p3,p4]
           refine zc9 ?_
           refine bx _ _ ?_
           try clear bx ca
           refine wpIn_seq_k (fun b4 ba=>?_)
           refine wpIn_seq_k (fun bF aT=>?_)
           refine rgY [0,1,2,3,4] ?_
           refine svY wide_wide 27 (.func (.yield l) #[] #[]) ?_
           try simp only [p3,p4]
           refine svY wide_wide 28 (.int .i64 9) ?_
           try simp only [p3,p4]
           refine swY wide_wide 29 (.agg #[ae,ad,ai,aP]) rfl (rl 36 0 [ae,ad,ai,aP] a3) ?_
           try simp only [p3,p4]
           refine yq7 wide_wide 30 l (hY [0,1,2,3,4,5,6,7,8] 9 _ aW (by decide)) ?_ rfl rfl (by kernel_rfl) (by kernel_rfl)
           rintro fd a1 (⟨rfl,hJ112,_⟩ | ⟨rfl,hx112⟩)
           ·refine ⟨_,rfl,?_⟩
            try simp only [p3,p4]
            refine svY wide_wide 31 (.bool false) ?_
            try simp only [p3,p4]
            refine zc9 ?_
            refine aT _ _ ?_
            try clear aT bF
            refine wpIn_cond_false rfl ?_
            refine wpIn_skip ?_
            refine ba _ _ ?_
            try clear ba b4
            refine rgY [0,1,2] ?_
            refine svY wide_wide 32 (.int .i64 9) ?_
            try simp only [p3,p4]
            refine svY wide_wide 33 (.int .i64 10) ?_
            try simp only [p3,p4]
            refine svY wide_wide 3 (.int .i64 10) ?_
            try simp only [p3,p4]
            refine zc9 ?_
            refine bd _ _ ?_
            try clear bd bY
            refine rgY [0,1] ?_
            refine svY wide_wide 34 (.int .i64 1) ?_
            try simp only [p3,p4]
            refine svY wide_wide 24 (.int .i64 1) ?_
            try simp only [p3,p4]
            refine zc9 ?_
            show Code.roundsIn _ _ _ _ _ _ _ _
            show Code.wpIn _ _ _ _ _ _ _
            refine wpIn_seq_k (fun cl bo=>?_)
            refine rgY [0] ?_
            refine svY wide_wide 25 (.bool true) ?_
            try simp only [p3,p4]
            refine zc9 ?_
            refine bo _ _ ?_
            try clear bo cl
            refine wpIn_seq_k (fun bW bi=>?_)
            refine wpIn_cond_true rfl ?_
            refine wpIn_skip ?_
            refine bi _ _ ?_
            try clear bi bW
            refine wpIn_seq_k (fun cu bj=>?_)
            refine wpIn_block ?_
            refine wpIn_seq_k (fun cc bu=>?_)
            refine rgY [0,1,2] ?_
            refine svY wide_wide 26 (.agg #[ak,ay,aO,aB]) ?_
            try simp only [p3,p4]
            refine zn8 wide_wide 7 36 (.agg #[.bool false,.slice none 0 0,.bool false,.slice none 0 0]) [ak,ay,aO,aB] ?_ ⟨dy,dQ,dx,eF,trivial⟩
            have aV:=hJ _ _ _ none hJ112 (World.grownBy_alloc a1 (.cells [ak,ay,aO,aB].toArray 36) none) (fun r e=>by cases e)
            have bz:Lc _ _ #[ak,ay,aO,aB] 36:=heap_alloc_new a1 (.cells [ak,ay,aO,aB].toArray 36)
            generalize a1.alloc (.cells [ak,ay,aO,aB].toArray 36)=w117 at aV bz ⊢
            try simp only [p3,p4]
            refine zc9 ?_
            refine bu _ _ ?_
            try clear bu cc
            refine wpIn_seq_k (fun bZ a2=>?_)
            refine wpIn_seq_k (fun bv aS=>?_)
            refine rgY [0,1,2,3,4] ?_
            refine svY wide_wide 27 (.func (.yield l) #[] #[]) ?_
            try simp only [p3,p4]
            refine svY wide_wide 28 (.int .i64 10) ?_
            try simp only [p3,p4]
            refine swY wide_wide 29 (.agg #[ak,ay,aO,aB]) rfl (rl 36 0 [ak,ay,aO,aB] bz) ?_
            try simp only [p3,p4]
            refine yq7 wide_wide 30 l (hY [0,1,2,3,4,5,6,7,8,9] 10 _ aV (by decide)) ?_ rfl rfl (by kernel_rfl) (by kernel_rfl)
            rintro fy aZ (⟨rfl,hJ120,_⟩ | ⟨rfl,hx120⟩)
            ·refine ⟨_,rfl,?_⟩
             try simp only [p3,p4]
             refine svY wide_wide 31 (.bool false) ?_
             try simp only [p3,p4]
             refine zc9 ?_
             refine aS _ _ ?_
             try clear aS bv
             refine wpIn_cond_false rfl ?_
             refine wpIn_skip ?_
             refine a2 _ _ ?_
             try clear a2 bZ
             refine rgY [0,1,2] ?_
             refine svY wide_wide 32 (.int .i64 10) ?_
             try simp only [p3,p4]
             refine svY wide_wide 33 (.int .i64 11) ?_
             try simp only [p3,p4]
             refine svY wide_wide 3 (.int .i64 11) ?_
             try simp only [p3,p4]
             refine zc9 ?_
             refine bj _ _ ?_
             try clear bj cu
             refine rgY [0,1] ?_
             refine svY wide_wide 34 (.int .i64 2) ?_
             try simp only [p3,p4]
             refine svY wide_wide 24 (.int .i64 2) ?_
             try simp only [p3,p4]
             refine zc9 ?_
             show Code.roundsIn _ _ _ _ _ _ _ _
             show Code.wpIn _ _ _ _ _ _ _
             refine wpIn_seq_k (fun cj bw=>?_)
             refine rgY [0] ?_
             refine svY wide_wide 25 (.bool true) ?_
             try simp only [p3,p4]
             refine zc9 ?_
             refine bw _ _ ?_
             try clear bw cj
             refine wpIn_seq_k (fun b5 bb=>?_)
             refine wpIn_cond_true rfl ?_
             refine wpIn_skip ?_
             refine bb _ _ ?_
             try clear bb b5
             refine wpIn_seq_k (fun ck bC=>?_)
             refine wpIn_block ?_
             refine wpIn_seq_k (fun b8 bE=>?_)
             refine rgY [0,1,2] ?_
             refine svY wide_wide 26 (.agg #[aw,aA,aF,aH]) ?_
             try simp only [p3,p4]
             refine zn8 wide_wide 7 36 (.agg #[.bool false,.slice none 0 0,.bool false,.slice none 0 0]) [aw,aA,aF,aH] ?_ ⟨dW,dh,dN,dP,trivial⟩
             have aY:=hJ _ _ _ none hJ120 (World.grownBy_alloc aZ (.cells [aw,aA,aF,aH].toArray 36) none) (fun r e=>by cases e)
             have a6:Lc _ _ #[aw,aA,aF,aH] 36:=heap_alloc_new aZ (.cells [aw,aA,aF,aH].toArray 36)
             generalize aZ.alloc (.cells [aw,aA,aF,aH].toArray 36)=w125 at aY a6 ⊢
             try simp only [p3,p4]
             refine zc9 ?_
             refine bE _ _ ?_
             try clear bE b8
             refine wpIn_seq_k (fun b6 bc=>?_)
             refine wpIn_seq_k (fun a5 aU=>?_)
             refine rgY [0,1,2,3,4] ?_
             refine svY wide_wide 27 (.func (.yield l) #[] #[]) ?_
             try simp only [p3,p4]
             refine svY wide_wide 28 (.int .i64 11) ?_
             try simp only [p3,p4]
             refine swY wide_wide 29 (.agg #[aw,aA,aF,aH]) rfl (rl 36 0 [aw,aA,aF,aH] a6) ?_
             try simp only [p3,p4]
             refine yq7 wide_wide 30 l (hY [0,1,2,3,4,5,6,7,8,9,10] 11 _ aY (by decide)) ?_ rfl rfl (by kernel_rfl) (by kernel_rfl)
             rintro fU fm (⟨rfl,hJ128,_⟩ | ⟨rfl,hx128⟩)
             ·refine ⟨_,rfl,?_⟩
              try simp only [p3,p4]
              refine svY wide_wide 31 (.bool false) ?_
              try simp only [p3,p4]
              refine zc9 ?_
              refine aU _ _ ?_
              try clear aU a5
              refine wpIn_cond_false rfl ?_
              refine wpIn_skip ?_
              refine bc _ _ ?_
              try clear bc b6
              refine rgY [0,1,2] ?_
              refine svY wide_wide 32 (.int .i64 11) ?_
              try simp only [p3,p4]
              refine svY wide_wide 33 (.int .i64 12) ?_
              try simp only [p3,p4]
              refine svY wide_wide 3 (.int .i64 12) ?_
              try simp only [p3,p4]
              refine zc9 ?_
              refine bC _ _ ?_
              try clear bC ck
              refine rgY [0,1] ?_
              refine svY wide_wide 34 (.int .i64 3) ?_
              try simp only [p3,p4]
              refine svY wide_wide 24 (.int .i64 3) ?_
              try simp only [p3,p4]
              refine zc9 ?_
              show Code.roundsIn _ _ _ _ _ _ _ _
              show Code.wpIn _ _ _ _ _ _ _
              refine wpIn_seq_k (fun ce bt=>?_)
              refine rgY [0] ?_
              refine svY wide_wide 25 (.bool false) ?_
              try simp only [p3,p4]
              refine zc9 ?_
              refine bt _ _ ?_
              try clear bt ce
              refine wpIn_seq_k (fun fV fP=>?_)
              refine wpIn_cond_false rfl ?_
              refine wpIn_exit ?_
              simp only [Exit.then,Exit.inBlock,↓reduceIte]
              refine bL _ _ ?_
              try clear bL cB
              refine rgY [0,1] ?_
              refine svY wide_wide 35 (.int .i64 4) ?_
              try simp only [p3,p4]
              refine svY wide_wide 20 (.int .i64 4) ?_
              try simp only [p3,p4]
              refine zc9 ?_
              show Code.roundsIn _ _ _ _ _ _ _ _
              show Code.wpIn _ _ _ _ _ _ _
              refine wpIn_seq_k (fun cy a9=>?_)
              refine rgY [0] ?_
              refine svY wide_wide 21 (.bool false) ?_
              try simp only [p3,p4]
              refine zc9 ?_
              refine a9 _ _ ?_
              try clear a9 cy
              refine wpIn_seq_k (fun e0 e2=>?_)
              refine wpIn_cond_false rfl ?_
              refine wpIn_exit ?_
              simp only [Exit.then,Exit.inBlock,↓reduceIte]
              go_end0
              exact ⟨⟨_,rfl⟩,.inl ⟨[0,1,2,3,4,5,6,7,8,9,10,11],rfl,hJ128⟩⟩
             ·refine ⟨_,rfl,?_⟩
              try simp only [p3,p4]
              refine svY wide_wide 31 (.bool true) ?_
              try simp only [p3,p4]
              refine zc9 ?_
              refine aU _ _ ?_
              try clear aU a5
              refine wpIn_cond_true rfl ?_
              refine wpIn_ret ?_
              simp only [Exit.then,Exit.inBlock]
              refine bodyPost_ret (results_none rfl _ _ _) rfl ?_
              exact ⟨⟨_,rfl⟩,.inr ⟨[0,1,2,3,4,5,6,7,8,9,10,11],⟨12,rfl⟩,hx128⟩⟩
            ·refine ⟨_,rfl,?_⟩
             try simp only [p3,p4]
             refine svY wide_wide 31 (.bool true) ?_
             try simp only [p3,p4]
             refine zc9 ?_
             refine aS _ _ ?_
             try clear aS bv
             refine wpIn_cond_true rfl ?_
             refine wpIn_ret ?_
             simp only [Exit.then,Exit.inBlock]
             refine bodyPost_ret (results_none rfl _ _ _) rfl ?_
             exact ⟨⟨_,rfl⟩,.inr ⟨[0,1,2,3,4,5,6,7,8,9,10],⟨11,rfl⟩,hx120⟩⟩
           ·refine ⟨_,rfl,?_⟩
            try simp only [p3,p4]
            refine svY wide_wide 31 (.bool true) ?_
            try simp only [p3,p4]
            refine zc9 ?_
            refine aT _ _ ?_
            try clear aT bF
            refine wpIn_cond_true rfl ?_
            refine wpIn_ret ?_
            simp only [Exit.then,Exit.inBlock]
            refine bodyPost_ret (results_none rfl _ _ _) rfl ?_
            exact ⟨⟨_,rfl⟩,.inr ⟨[0,1,2,3,4,5,6,7,8,9],⟨10,rfl⟩,hx112⟩⟩
          ·refine ⟨_,rfl,?_⟩
           try simp only [p3,p4]
           refine svY wide_wide 31 (.bool true) ?_
           try simp only [p3,p4]
           refine zc9 ?_
           refine bT _ _ ?_
           try clear bT dA
           refine wpIn_cond_true rfl ?_
           refine wpIn_ret ?_
           simp only [Exit.then,Exit.inBlock]
           refine bodyPost_ret (results_none rfl _ _ _) rfl ?_
           exact ⟨⟨_,rfl⟩,.inr ⟨[0,1,2,3,4,5,6,7,8],⟨9,rfl⟩,hx96⟩⟩
         ·refine ⟨_,rfl,?_⟩
          try simp only [p3,p4]
          refine svY wide_wide 31 (.bool true) ?_
          try simp only [p3,p4]
          refine zc9 ?_
          refine bU _ _ ?_
          try clear bU dC
          refine wpIn_cond_true rfl ?_
          refine wpIn_ret ?_
          simp only [Exit.then,Exit.inBlock]
          refine bodyPost_ret (results_none rfl _ _ _) rfl ?_
          exact ⟨⟨_,rfl⟩,.inr ⟨[0,1,2,3,4,5,6,7],⟨8,rfl⟩,hx88⟩⟩
        ·refine ⟨_,rfl,?_⟩
         try simp only [p3,p4]
         refine svY wide_wide 31 (.bool true) ?_
         try simp only [p3,p4]
         refine zc9 ?_
         refine bN _ _ ?_
         try clear bN ep
         refine wpIn_cond_true rfl ?_
         refine wpIn_ret ?_
         simp only [Exit.then,Exit.inBlock]
         refine bodyPost_ret (results_none rfl _ _ _) rfl ?_
         exact ⟨⟨_,rfl⟩,.inr ⟨[0,1,2,3,4,5,6],⟨7,rfl⟩,hx80⟩⟩
       ·refine ⟨_,rfl,?_⟩
        try simp only [p3,p4]
        refine svY wide_wide 31 (.bool true) ?_
        try simp only [p3,p4]
        refine zc9 ?_
        refine bM _ _ ?_
        try clear bM eS
        refine wpIn_cond_true rfl ?_
        refine wpIn_ret ?_
        simp only [Exit.then,Exit.inBlock]
        refine bodyPost_ret (results_none rfl _ _ _) rfl ?_
        exact ⟨⟨_,rfl⟩,.inr ⟨[0,1,2,3,4,5],⟨6,rfl⟩,hx64⟩⟩
      ·refine ⟨_,rfl,?_⟩
       try simp only [p3,p4]
       refine svY wide_wide 31 (.bool true) ?_
       try simp only [p3,p4]
       refine zc9 ?_
       refine bQ _ _ ?_
       try clear bQ cN
       refine wpIn_cond_true rfl ?_
       refine wpIn_ret ?_
       simp only [Exit.then,Exit.inBlock]
       refine bodyPost_ret (results_none rfl _ _ _) rfl ?_
       exact ⟨⟨_,rfl⟩,.inr ⟨[0,1,2,3,4],⟨5,rfl⟩,hx56⟩⟩
     ·refine ⟨_,rfl,?_⟩
      try simp only [p3,p4]
      refine svY wide_wide 31 (.bool true) ?_
      try simp only [p3,p4]
      refine zc9 ?_
      refine bS _ _ ?_
      try clear bS eK
      refine wpIn_cond_true rfl ?_
      refine wpIn_ret ?_
      simp only [Exit.then,Exit.inBlock]
      refine bodyPost_ret (results_none rfl _ _ _) rfl ?_
      exact ⟨⟨_,rfl⟩,.inr ⟨[0,1,2,3],⟨4,rfl⟩,hx48⟩⟩
    ·refine ⟨_,rfl,?_⟩
     try simp only [p3,p4]
     refine svY wide_wide 31 (.bool true) ?_
     try simp only [p3,p4]
     refine zc9 ?_
     refine bO _ _ ?_
     try clear bO ed
     refine wpIn_cond_true rfl ?_
     refine wpIn_ret ?_
     simp only [Exit.then,Exit.inBlock]
     refine bodyPost_ret (results_none rfl _ _ _) rfl ?_
     exact ⟨⟨_,rfl⟩,.inr ⟨[0,1,2],⟨3,rfl⟩,hx32⟩⟩
   ·refine ⟨_,rfl,?_⟩
    try simp only [p3,p4]
    refine svY wide_wide 31 (.bool true) ?_
    try simp only [p3,p4]
    refine zc9 ?_
    refine bP _ _ ?_
    try clear bP dB
    refine wpIn_cond_true rfl ?_
    refine wpIn_ret ?_
    simp only [Exit.then,Exit.inBlock]
    refine bodyPost_ret (results_none rfl _ _ _) rfl ?_
    exact ⟨⟨_,rfl⟩,.inr ⟨[0,1],⟨2,rfl⟩,hx24⟩⟩
  ·refine ⟨_,rfl,?_⟩
   try simp only [p3,p4]
   refine svY wide_wide 31 (.bool true) ?_
   try simp only [p3,p4]
   refine zc9 ?_
   refine bR _ _ ?_
   try clear bR cJ
   refine wpIn_cond_true rfl ?_
   refine wpIn_ret ?_
   simp only [Exit.then,Exit.inBlock]
   refine bodyPost_ret (results_none rfl _ _ _) rfl ?_
   exact ⟨⟨_,rfl⟩,.inr ⟨[0],⟨1,rfl⟩,hx16⟩⟩
def yA4 (Ds:List Nat):List Deferred:=Ds.map (fun D=>⟨.collected D,#[]⟩)
def yA5 (P:Program) (fn:Func) (R:Ending→World→Prop):Exit→Act→World→Prop
 | .normal,a,w | .ret,a,w=>LeavesInM Fence.wide 9 P fn a.tmps R a.defers .returning w
 | _,_,_=>False
theorem enterN {P:Program} {f:FuncId} {fn:Func} {c:Code} {args:Array Value} {w:World} {R:Ending→World→Prop} (hf:P.funcs[f]?=some fn) (hb:fn.body=some c)
  (h:c.wp P (yA5 P fn R) {tmps:=args++Array.replicate (fn.ntmps - args.size) undef,defers:=[]} w):Calls P f args w R:=by
 refine (callsIn_wide (n:=9)).1 (callsIn_of_wp_marks hf hb trivial (wpIn_wide.2 (Code.wp_mono (fun e a w h=>?_) h)))
 cases e<;>first | exact h | exact h.elim
theorem yA6 {w:World} {D:Nat} {x:Option (List Deferred)} (o:Obj) (h:w.heap[D]?=some (.deferred x)):Wt 999999999 w (w.putObj D o):=
 ⟨rfl,rfl,rfl,by simp [World.putObj],fun b cs t fr _ hb=>(World.putObj_heap_other (fun e=>by subst e;rw [h] at hb;cases hb)).trans hb⟩
theorem Wt.trans {T:TypeId} {a b c:World} (h:Wt T a b) (k:Wt T b c):Wt T a c:=
 ⟨k.os.trans h.os,k.tape.trans h.tape,k.output.trans h.output,Nat.le_trans h.size k.size,fun b cs t fr ht hb=>k.block b cs t fr ht (h.block b cs t fr ht hb)⟩
theorem Wt.refl (T:TypeId) (w:World):Wt T w w:=⟨rfl,rfl,rfl,Nat.le_refl _,fun _ _ _ _ _ h=>h⟩
theorem yA7 {w0 w:World} {D:Nat} {o:Obj} (h:Gr w0 w) (hD:w0.heap.size≤D):Gr w0 (w.putObj D o):=
 ⟨h.os,h.tape,h.output,Nat.le_trans h.size (by simp [World.putObj]),fun k hk=>(World.putObj_heap_other (by omega)).trans (h.block k hk)⟩
theorem endN {P:Program} {fn:Func} {R:Ending→World→Prop} {tmps:Array Value} {w0:World}:∀ (Ds:List Nat) (w:World),Ds.Nodup→(∀ D ∈ Ds,w0.heap.size≤D∧w.heap[D]?=some (.deferred (some [])))→Gr w0 w→
  (∀ w',Wt 999999999 w w'→Gr w0 w'→∃ v,(results fn tmps).run P w'=.ok v w'∧R (.returned v) w')→LeavesInM Fence.wide 9 P fn tmps R (yA4 Ds) .returning w
 | [],w,_,_,hB,h=>h w (Wt.refl _ _) hB
 | D::Ds,w,hn,hD,hB,h=>by
  obtain ⟨h1,h2⟩:=hD D (by simp)
  obtain ⟨n1,n2⟩:=List.nodup_cons.1 hn
  refine ⟨by simp,.inl ⟨_,_,rfl,run_takeDeferred h2,?_⟩⟩
  exact endN Ds _ n2 (fun E hE=>⟨(hD E (by simp [hE])).1,(World.putObj_heap_other (fun e=>n1 (by rw [← e];exact hE))).trans (hD E (by simp [hE])).2⟩) (yA7 hB h1)
   (fun w' wt g=>h w' ((yA6 _ h2).trans wt) g)

theorem zl5 {β:Type} (B b:Nat) (cs:Array Value) (t:TypeId):OwnFrom B (fun (_:β) W=>Lc W b cs t):=fun _ X Y row hs hg hr=>by
 refine (hg.block b (zh1 hs) (fun e=>?_)).trans hs
 obtain ⟨_,o,ho,hc⟩:=hr b e.symm
 rw [show X.heap[b]?=_ from hs] at ho;cases ho;cases hc
theorem yA8 {β γ:Type} {B:Nat} {I:γ→β→World→Prop} (h:∀ x,OwnFrom B (I x)):OwnFrom B (fun s W=>∃ x,I x s W):=fun s X Y row ⟨x,hs⟩ hg hr=>⟨x,h x s X Y row hs hg hr⟩
theorem yl5 {β:Type} {B:Nat} {w0:World} (h:w0.heap.size≤B):OwnFrom B (fun (_:β) W=>Gr w0 W):=ownFrom_below (Nat.le_refl _) h
theorem zK7 {w w':World} {b:Nat} {cs:Array Value} {t:TypeId} (h:St w w' b) (hL:Lc w b cs t) (hs:w.heap.size≤w'.heap.size):KeepsOthers w w':=
 ⟨hs,fun k o hk ho=>(h.block k (fun e=>by subst e;rw [show w.heap[k]?=_ from hL] at hk;cases hk;cases ho)).trans hk⟩
theorem yA9 {w w':World} (h:Gr w w'):KeepsOthers w w':=⟨h.size,fun _ _ hk _=>h.heap hk⟩

def ent (L:List Value) (k:Fin 12):List Value:=[L.getD (4*k.val) undef,L.getD (4*k.val+1) undef,L.getD (4*k.val+2) undef,L.getD (4*k.val+3) undef]
theorem encs_ent (L:List Value) (k:Fin 12):encs L k=#[.int .i64 (k.val:Int),.agg (ent L k).toArray]:=rfl
theorem fin12 {p:Fin 12→Prop} (h0:p 0) (h1:p 1) (h2:p 2) (h3:p 3) (h4:p 4) (h5:p 5) (h6:p 6) (h7:p 7) (h8:p 8) (h9:p 9) (h10:p 10) (h11:p 11):∀ k,p k
 | 0=>h0 | 1=>h1 | 2=>h2 | 3=>h3 | 4=>h4 | 5=>h5 | 6=>h6 | 7=>h7 | 8=>h8 | 9=>h9 | 10=>h10 | 11=>h11
theorem zK8:∀ k:Fin 12,k ∈ all12:=fin12 (by decide) (by decide) (by decide) (by decide) (by decide) (by decide) (by decide) (by decide) (by decide) (by decide) (by decide) (by decide)
theorem yB0 {P:Program} {g:Operand} {d1 d2 s1 s2:Nat} {assign body:Code} {Q:Exit→Act→World→Prop} {l:List Value} {Ds:List Nat} {w:World} {gf:Nat} {lb:Array Value} {L:List Value}
  (hseq:SeqStopsA Fence.wide 8 P gf lb (encs L) (fun xs=>xs=all12) (fun pre=>∃ k,pre=all12.take k) 12 w)
  (I:List (Fin 12)→World→Prop) (Ix:Code→List (Fin 12)→World→Prop) (hI:OwnFrom w.heap.size I) (hIx:∀ c,OwnFrom w.heap.size (Ix c)) (h0:I [] w)
  (hass:∀ (ll:Nat) (k:Fin 12) (W:World) (K:Act→World→Prop),K ⟨((((l.set s1 (.int .i64 (k.val:Int))).set s2 (.agg (ent L k).toArray)).set d1 (.int .i64 (k.val:Int))).set d2 (.pointer (some ⟨W.heap.size,0,none⟩))).toArray,[]⟩ (W.alloc (.cells (ent L k).toArray 36))→
   assign.wpIn (Fence.wide.inRound ll) 7 P (Exit.then K (fun _ _ _=>False)) ⟨((l.set s1 (.int .i64 (k.val:Int))).set s2 (.agg (ent L k).toArray)).toArray,[]⟩ W)
  (hbody:∀ (ll B:Nat) (pre:List (Fin 12)) (k:Fin 12) (W:World),I pre W→w.heap.size≤B→Lc W B (ent L k).toArray 36→
   body.wpIn (Fence.wide.inRound ll) 7 P (ownPostG w.heap.size KeepsWalks I Ix (pre++[k]) W) ⟨((((l.set s1 (.int .i64 (k.val:Int))).set s2 (.agg (ent L k).toArray)).set d1 (.int .i64 (k.val:Int))).set d2 (.pointer (some ⟨B,0,none⟩))).toArray,[]⟩ W)
  (hdone:∀ (D:Nat) (W:World),w.heap.size≤D→I all12 W→W.heap[D]?=some (.deferred (some []))→Q .normal ⟨l.toArray,yA4 (D::Ds)⟩ W)
  (hstop:∀ (D:Nat) (c:Code) (pre:List (Fin 12)) (W:World),w.heap.size≤D→Ix c pre W→W.heap[D]?=some (.deferred (some []))→c.wp P Q ⟨l.toArray,yA4 (D::Ds)⟩ W)
  (hg:(⟨l.toArray,yA4 Ds⟩:Act).eval g=.func (.func gf) #[] lb:=by rfl) (eg:∀ args w,(callFunc gf args).run P w=.ok (.enter gf args) w):
  (Code.rangeFunc g #[s1,s2] assign body).wp P Q ⟨l.toArray,yA4 Ds⟩ w:=by
 refine (wpIn_wide (n:=9)).1 (wpIn_rangeFunc_ownH rfl (by decide) hg trivial eg hseq walksK_t (fun W l o o' h0 h1 h2 h3=>walksK_b (w:=w) W l o o' h0 h1 h2 h3) (Below.refl _ _) (fun _=>rfl) (fun pre W=>I pre W∧w.heap.size≤W.heap.size) Ix
  (hI.and (fun _ X Y _ hs hg _=>Nat.le_trans hs hg.size)) hIx ⟨h0,Nat.le_refl _⟩
  (fun k a' W=>∃ B,w.heap.size≤B∧Lc W B (ent L k).toArray 36∧a'=⟨((((l.set s1 (.int .i64 (k.val:Int))).set s2 (.agg (ent L k).toArray)).set d1 (.int .i64 (k.val:Int))).set d2 (.pointer (some ⟨B,0,none⟩))).toArray,[]⟩)
  (fun k a'=>yA8 fun B=>(ownFrom_pure _ _).and ((zl5 _ _ _ _).and (ownFrom_pure _ _))) ?_ ?_ ?_ ?_)
 ·intro ll pre k W K hi hK
  have e0:(#[s1,s2]:Array Tmp).zip (encs L k)=#[(s1,.int .i64 (k.val:Int)),(s2,.agg (ent L k).toArray)]:=by rw [encs_ent];simp
  have e:((#[s1,s2]:Array Tmp).zip (encs L k)).foldl (fun t (p,v)=>t.setIfInBounds p v) l.toArray=((l.set s1 (.int .i64 (k.val:Int))).set s2 (.agg (ent L k).toArray)).toArray:=by
   rw [e0]
   simp only [List.foldl_toArray',List.size_toArray,List.length_cons,List.length_nil,List.foldl_cons,List.foldl_nil,p2]
  dsimp only
  rw [e]
  refine hass ll k W K (hK _ _ ((KeepsOthers.alloc _ _).from _) (KeepsWalks.alloc _ _) ⟨hI.alloc _ hi.1,Nat.le_trans hi.2 (by simp)⟩ ⟨W.heap.size,hi.2,heap_alloc_new W _,rfl⟩)
 ·rintro ll pre k a' W hl _ hi ⟨B,hB,hLc,rfl⟩ _
  refine Code.wpIn_mono (fun e a W' h=>?_) (hbody ll B pre k W hi.1 hB hLc)
  cases e<;>first | exact h | exact ⟨h.1,h.2.1,h.2.2,Nat.le_trans hi.2 h.1.size⟩
 ·rintro D xs W hD rfl hi hm
  exact hdone D W hD hi.1 hm
 ·rintro D c pre W hD _ hi hm
  exact wpIn_wide.2 (hstop D c pre W hD hi hm)
theorem zQ9 {vs:List Value} (h:∀ v ∈ vs,v.oneCell'=true):One1 vs:=by
 induction vs with
 | nil=>trivial
 | cons v vs ih=>exact ⟨h v (by simp),ih (fun u hu=>h u (by simp [hu]))⟩
theorem zF5 {L:List Value} (h:One1 L) {i:Nat} (hi:i<L.length):(L.getD i undef).oneCell'=true:=by
 rw [List.getD_eq_getElem?_getD,List.getElem?_eq_getElem hi]
 exact One1.all h _ (List.getElem_mem hi)
theorem zB0 {L:List Value} (h:One1 L) (h48:L.length=48) (k:Fin 12):One1 (ent L k):=
 ⟨zF5 h (by omega),zF5 h (by omega),zF5 h (by omega),zF5 h (by omega),trivial⟩
theorem yh5 {L:List Value} (aa:L.length=48) (k:Fin 12):(L.drop (4*k.val)).take 4=ent L k:=by
 apply List.ext_getElem?
 intro i
 have hk:=k.isLt
 by_cases hi:i<4
 ·rw [List.getElem?_take_of_lt hi,List.getElem?_drop,List.getElem?_eq_getElem (by omega)]
  unfold ent
  simp only [List.getD_eq_getElem?_getD]
  match i,hi with
  | 0,_=>simp [List.getElem?_eq_getElem (show 4*k.val<L.length by omega)]
  | 1,_=>simp [List.getElem?_eq_getElem (show 4*k.val+1<L.length by omega)]
  | 2,_=>simp [List.getElem?_eq_getElem (show 4*k.val+2<L.length by omega)]
  | 3,_=>simp [List.getElem?_eq_getElem (show 4*k.val+3<L.length by omega)]
 ·rw [List.getElem?_eq_none (by simp;omega),List.getElem?_eq_none (by simp [ent];omega)]
structure Fills (m:Nat) (L:List Value) (pre:List (Fin 12)) (xs:List Value):Prop where
 len:xs.length=4*m
 one:One1 xs
 eq:∀ k ∈ pre,k.val<m→(xs.drop (4*k.val)).take 4=ent L k
theorem Fills.skip {m:Nat} {L xs:List Value} {pre:List (Fin 12)} {k:Fin 12} (h:Fills m L pre xs) (hk:¬ k.val<m):Fills m L (pre++[k]) xs:=
 ⟨h.len,h.one,fun j hj hm=>by
  rcases List.mem_append.1 hj with hj | hj
  ·exact h.eq j hj hm
  ·simp only [List.mem_singleton] at hj;subst hj;exact absurd hm hk⟩
theorem Fills.step {m:Nat} {L xs:List Value} {pre:List (Fin 12)} {k:Fin 12} (h:Fills m L pre xs) (h1:One1 L) (aa:L.length=48) (hk:k.val<m):
  ∃ ys,ze6 xs.toArray (4*k.val) (ent L k)=ys.toArray∧Fills m L (pre++[k]) ys:=by
 have hlen:(ent L k).length=4:=rfl
 have hw:=zs8 (ent L k) (4*k.val) xs (by rw [hlen,h.len];omega)
 refine ⟨_,hw,⟨?_,?_,?_⟩⟩
 ·simp [hlen,h.len];omega
 ·refine zQ9 fun v hv=>?_
  rcases List.mem_append.1 hv with hv | hv
  ·rcases List.mem_append.1 hv with hv | hv
   ·exact One1.all h.one v (List.mem_of_mem_take hv)
   ·exact One1.all (zB0 h1 aa k) v hv
  ·exact One1.all h.one v (List.mem_of_mem_drop hv)
 ·intro j hj hm
  by_cases e:j=k
  ·subst e
   rw [List.append_assoc,List.drop_append_of_le_length (by simp [h.len];omega)]
   rw [List.drop_of_length_le (by simp;omega)]
   rw [List.nil_append,List.take_append_of_le_length (by simp [hlen]),List.take_of_length_le (by simp [hlen])]
  ·have hj':j ∈ pre:=by
    rcases List.mem_append.1 hj with hj | hj
    ·exact hj
    ·simp only [List.mem_singleton] at hj;exact absurd hj e
   rw [← h.eq j hj' hm]
   have hne:j.val≠k.val:=fun h=>e (Fin.ext h)
   apply List.ext_getElem?
   intro i
   by_cases hi:i<4
   ·rw [List.getElem?_take_of_lt hi,List.getElem?_take_of_lt hi,List.getElem?_drop,List.getElem?_drop]
    by_cases hlt:j.val<k.val
    ·rw [List.append_assoc,List.getElem?_append_left (by simp [h.len];omega),List.getElem?_take_of_lt (by omega)]
    ·rw [List.getElem?_append_right (by simp [h.len,hlen];omega),List.getElem?_drop]
     congr 1
     simp [h.len,hlen];omega
   ·rw [List.getElem?_eq_none (by simp;omega),List.getElem?_eq_none (by simp;omega)]
theorem Fills.done {m:Nat} {L xs:List Value} (h:Fills m L all12 xs) (hm:m≤12) (aa:L.length=48):xs=L.take (4*m):=by
 apply List.ext_getElem?
 intro i
 by_cases hi:i<4*m
 ·have hq:i/4<12:=by omega
  have:=h.eq ⟨i/4,hq⟩ (zK8 _) (by show i/4<m;omega)
  rw [← yh5 aa] at this
  have h2:=congrArg (fun l=>l[i % 4]?) this
  simp only [] at h2
  rw [List.getElem?_take_of_lt (by omega),List.getElem?_take_of_lt (by omega),List.getElem?_drop,List.getElem?_drop] at h2
  have e:4*(i/4)+i % 4=i:=by omega
  rw [e] at h2
  rw [h2,List.getElem?_take_of_lt hi]
 ·rw [List.getElem?_eq_none (by rw [h.len];omega),List.getElem?_eq_none (by simp;omega)]
theorem ys1 {P:Program} {a:Act} {o:Oper} {w:World} (t:TypeId) (x y:Operand) (b len elem sz k:Nat) (hk:k<len) (hop:o.op=.indexAddr t x y:=by rfl) (hx:a.eval x=.pointer (some ⟨b,0,none⟩):=by rfl) (hy:a.eval y=.int .i64 (k:Int):=by rfl)
  (hu:P.underlying t=some (.array len elem):=by kernel_rfl) (hs:(P.info? elem).map (·.size)=some sz:=by kernel_rfl):RunV P a o w (.pointer (some ⟨b,sz*k,none⟩)):=by
 obtain ⟨i,hi,hsz⟩:=Option.map_eq_some_iff.1 hs
 have h2:(0:Int)≤(k:Int)∧(k:Int)<(len:Int):=by omega
 unfold RunV execOp
 simp only [hop,hx,hy]
 by_cases h0:sz*k=0<;>simp [Instr.indexAt,Instr.sureAddr,asIntOf,run_underlying hu,sizeOf,typeInfo,hi,hsz,h2,hk,h0,Addr.add,Nat.mul_comm k sz]
theorem zW5 {P:Program} {w:World} {fn:Func} {tmps:Array Value} {p:Tmp} {t:TypeId} (b:Nat) (v:Value) (tt:TypeId) (h:fn.results=#[.cell p t]) (hp:tmps.getD p undef=.pointer (some ⟨b,0,none⟩)) (hL:Lc w b #[v] tt) (hs:zk1 P t=true):
  (results fn tmps).run P w=.ok v w:=by
 have hl:(loadVar t ⟨b,0,none⟩).run P w=.ok v w:=by
  unfold zk1 at hs
  have hc:w.cell? ⟨b,0,none⟩=some v:=by rw [zb5 hL];rfl
  cases hd:P.underlying t with
  | none=>rw [hd] at hs;cases hs
  | some d=>
   rw [hd] at hs
   have hagg:(isAgg t).run P w=.ok false w:=by
    unfold isAgg
    rw [Sem.run_bind,run_underlying hd w]
    cases d<;>first | cases hs | rfl
   simp only [loadVar,Sem.run_bind,hagg,Result.andThen_ok]
   simp [load,Sem.run,hc]
 simp only [Array.getD_eq_getD_getElem?] at hp
 simp [results,h,asAddr,hp,hl]
def IsMk (w:World) (D:Nat):Prop:=w.heap[D]?=some (.deferred (some []))
theorem IsMk.gr {w w':World} {D:Nat} (h:IsMk w D) (g:Gr w w'):IsMk w' D:=g.heap h
theorem IsMk.lt {w:World} {D:Nat} (h:IsMk w D):D<w.heap.size:=zh1 h
theorem IsMk.ne {w:World} {D c:Nat} (h:IsMk w D) (hc:w.heap.size≤c):D≠c:=fun e=>by have:=h.lt;omega
theorem IsMk.st {w w':World} {b D:Nat} (hm:IsMk w D) (h:St w w' b) (hne:D≠b):IsMk w' D:=(h.block D hne).trans hm
theorem own_mk {β:Type} {w:World} {D:Nat} (h:IsMk w D):OwnFrom w.heap.size (fun (_:β) W=>IsMk W D):=fun _ X Y row hs hg hr=>
 (hg.block D (zh1 hs) (fun e=>by have:=(hr D e.symm).1;have:=h.lt;omega)).trans hs
theorem yh6 {β:Type} (B:Nat) (w:World):OwnFrom B (fun (_:β) W=>Kp w W):=fun _ X Y row hs hg hr b cs fr hb=>by
 have h:=hs b cs fr hb
 refine (hg.block b (zh1 h) (fun e=>?_)).trans h
 obtain ⟨_,o,ho,hc⟩:=hr b e.symm
 rw [h] at ho;cases ho;cases hc
section
variable {P:Program} {ops:Array Oper} {Q:Exit→Act→World→Prop}
def zH2 (ops:Array Oper) (listed:Array Bool) (i:Nat):Bool:=
 decide (i<ops.size)&&(!listed.getD i true&&((ops[i]?).map (·.after.all fun e=>!Region.binds .any e||listed.getD e.on false)).getD false)
theorem zx3 (ops:Array Oper) (listed:Array Bool) (i:Nat):(Region.ready .any ops listed).contains i=zH2 ops listed i:=by
 rw [Bool.eq_iff_iff,List.contains_iff_mem]
 unfold Region.ready zH2
 rw [List.mem_filter,List.mem_range,Bool.and_eq_true (decide _),decide_eq_true_eq]
def zr1 (ops:Array Oper) (fl:List Fl) (tl:List (Bool × Nat)):List (Bool × Nat)→Array Bool→Bool
 | [],listed=>zw1 ops tl (setFl listed fl)&&
   fl.all fun f=>zH2 ops listed f.op&&decide (Region.ready .any ops (setFl listed (fl.filter (·.op !=f.op)))=[f.op])
 | (true,i)::rest,listed=>zH2 ops listed i&&Region.free .any ops listed i&&zr1 ops fl tl rest (listed.setIfInBounds i true)
 | (false,i)::rest,listed=>zH2 ops listed i&&decide (Region.ready .any ops (setFl listed fl)=[i])&&zr1 ops fl tl rest (listed.setIfInBounds i true)
theorem zH3 (fl:List Fl) (tl:List (Bool × Nat)):∀ (l:List (Bool × Nat)) (listed:Array Bool),zx5 ops fl tl l listed=zr1 ops fl tl l listed
 | [],listed=>by simp only [zx5,zr1,zx3]
 | (true,i)::rest,listed=>by simp only [zx5,zr1,zx3,zH3 fl tl rest]
 | (false,i)::rest,listed=>by simp only [zx5,zr1,zx3,zH3 fl tl rest]
theorem zM8 {id:Nat} {a:Act} {w:World} (S:World→Prop) (l:List (Bool × Nat)) (fl:List Fl) (tl:List (Bool × Nat)) (hm:P.follows .mixedOrders=true) (hs:Region.noSelect ops=true)
  (hok:zr1 ops fl tl l (Array.replicate ops.size false)=true) (hap:okAp ops fl l=true) (hal:okAl ops fl=true) (hl:l.length+fl.length+tl.length≤ops.size)
  (hQ:∀ c (a:Act) (d:Tmp) v w,Q (.panic c) (a.put (some d) v) w→Q (.panic c) a w) (hQ':∀ c (a:Act) (d:Tmp) v w,Q (.panic c) a w→Q (.panic c) (a.put (some d) v) w) (hSa:∀ w o,S w→S (w.alloc o)) (hS:S w.drew)
  (hz:∀ f ∈ fl,∀ w,(Instr.alloc f.ty true (.tuple #[])).run P w=.ok (.pointer (some ⟨w.heap.size,0,none⟩)) (w.alloc (.cells f.zero f.ty)))
  (h:zn1 P ops Q S (zW8 P ops Q S w.heap.size fl tl) l a w.drew):(Code.region id ops true).wp P Q a w:=
 zx6 S l fl tl hm hs (by rw [zH3];exact hok) hap hal hl hQ hQ' hSa hS hz h
end
section
variable {P:Program} {ops:Array Oper} {Q:Exit→Act→World→Prop}
def Agree (n:Nat) (listed:Array Bool) (m:Nat):Prop:=listed.size=n∧∀ i,listed.getD i false=m.testBit i
theorem Agree.t {n:Nat} {listed:Array Bool} {m i:Nat} (h:Agree n listed m) (hi:i<n):listed.getD i true=m.testBit i:=by
 rw [← h.2 i]
 have:i<listed.size:=by rw [h.1];exact hi
 simp [Array.getD,this]
theorem Agree.zero (n:Nat):Agree n (Array.replicate n false) 0:=⟨by simp,fun i=>by simp [Array.getD]⟩
theorem Agree.set {n:Nat} {listed:Array Bool} {m i:Nat} (h:Agree n listed m) (hi:i<n):Agree n (listed.setIfInBounds i true) (m|||2 ^ i):=by
 refine ⟨by simp [h.1],fun j=>?_⟩
 rw [Nat.testBit_or,Nat.testBit_two_pow,← h.2 j]
 have hs:i<listed.size:=by rw [h.1];exact hi
 by_cases e:i=j
 ·subst e;simp [Array.getD,hs]
 ·simp [Array.getD_eq_getD_getElem?,Array.getElem?_setIfInBounds_ne e,e]
def ys2 (m:Nat) (o:Oper):Bool:=o.after.all fun e=>!Region.binds .any e||m.testBit e.on
def zx4:List Oper→Nat→Nat→List Nat
 | [],_,_=>[]
 | o::r,k,m=>if !m.testBit k&&ys2 m o then k::zx4 r (k+1) m else zx4 r (k+1) m
def freeM (ops:Array Oper) (oi:Oper) (i m:Nat):List Oper→Nat→Bool
 | [],_=>true
 | oj::r,k=>(k==i||m.testBit k||(oj.after.any (fun e=>Region.binds .any e&&e.on==i)||oi.apart ops oj))&&freeM ops oi i m r (k+1)
def zr2 (ops:Array Oper) (m i:Nat):Bool:=match ops[i]? with | some o=>!m.testBit i&&ys2 m o | none=>false
theorem zt7 {listed:Array Bool} {m:Nat} (h:Agree ops.size listed m) (i:Nat):zH2 ops listed i=zr2 ops m i:=by
 unfold zH2 zr2 ys2
 by_cases hi:i<ops.size
 ·rw [decide_eq_true hi,Bool.true_and,Array.getElem?_eq_getElem hi]
  simp only [Option.map_some,Option.getD_some,h.t hi,h.2]
 ·rw [decide_eq_false hi,Bool.false_and,Array.getElem?_eq_none (by omega)]
theorem zr3 {listed:Array Bool} {m:Nat} (h:Agree ops.size listed m):Region.ready .any ops listed=zx4 ops.toList 0 m:=by
 have go:∀ (r:List Oper) (k:Nat),ops.toList.drop k=r→k+r.length=ops.size→(List.range' k r.length).filter (fun i=>!listed.getD i true&&((ops[i]?).map (·.after.all fun e=>!Region.binds .any e||listed.getD e.on false)).getD false)=zx4 r k m:=by
  intro r
  induction r with
  | nil=>intro k _ _;rfl
  | cons o r ih=>
   intro k hd hk
   simp only [List.length_cons] at hk
   have hk':k<ops.size:=by omega
   have ho:ops[k]?=some o:=by
    have:ops.toList[k]?=some o:=by
     have:=congrArg List.head? hd
     rw [List.head?_drop] at this
     simpa using this
    simpa using this
   have hd':ops.toList.drop (k+1)=r:=by
    have:=congrArg List.tail hd
    rw [List.tail_drop] at this
    simpa using this
   rw [List.length_cons,List.range'_succ,List.filter_cons,ih (k+1) hd' (by omega)]
   simp only [ho,Option.map_some,Option.getD_some,h.t hk',h.2]
   rfl
 unfold Region.ready
 have:=go ops.toList 0 rfl (by simp)
 rw [List.range_eq_range']
 simpa using this
theorem freeM_eq {listed:Array Bool} {m i:Nat} {oi:Oper} (h:Agree ops.size listed m) (hi:ops[i]?=some oi):Region.free .any ops listed i=freeM ops oi i m ops.toList 0:=by
 have go:∀ (r:List Oper) (k:Nat),ops.toList.drop k=r→k+r.length=ops.size→((List.range' k r.length).all fun j=>j==i||listed.getD j true||match ops[j]? with
   | some oj=>oj.after.any (fun e=>Region.binds .any e&&e.on==i)||oi.apart ops oj
   | none=>true)=freeM ops oi i m r k:=by
  intro r
  induction r with
  | nil=>intro k _ _;rfl
  | cons o r ih=>
   intro k hd hk
   simp only [List.length_cons] at hk
   have hk':k<ops.size:=by omega
   have ho:ops[k]?=some o:=by
    have:ops.toList[k]?=some o:=by
     have:=congrArg List.head? hd
     rw [List.head?_drop] at this
     simpa using this
    simpa using this
   have hd':ops.toList.drop (k+1)=r:=by
    have:=congrArg List.tail hd
    rw [List.tail_drop] at this
    simpa using this
   rw [List.length_cons,List.range'_succ,List.all_cons,ih (k+1) hd' (by omega)]
   simp only [ho,h.t hk']
   rfl
 unfold Region.free
 have:=go ops.toList 0 rfl (by simp)
 rw [Array.length_toList] at this
 simp only [hi]
 rw [List.range_eq_range']
 exact this
def yh7 (ops:Array Oper) (m i:Nat):Bool:=match ops[i]? with | some o=>freeM ops o i m ops.toList 0 | none=>false
theorem zW6 {listed:Array Bool} {m:Nat} (h:Agree ops.size listed m) (i:Nat):Region.free .any ops listed i=yh7 ops m i:=by
 unfold yh7
 cases hi:ops[i]? with
 | none=>unfold Region.free;rw [hi]
 | some o=>exact freeM_eq h hi
def zN7 (ops:Array Oper):List (Bool × Nat)→Nat→Bool
 | [],m=>(zx4 ops.toList 0 m).isEmpty
 | (true,i)::rest,m=>zr2 ops m i&&yh7 ops m i&&zN7 ops rest (m|||2 ^ i)
 | (false,i)::rest,m=>decide (zx4 ops.toList 0 m=[i])&&zN7 ops rest (m|||2 ^ i)
theorem zB1 {m i:Nat} (h:zr2 ops m i=true):i<ops.size:=by
 unfold zr2 at h
 split at h
 ·next o ho=>exact (Array.getElem?_eq_some_iff.1 ho).1
 ·cases h
theorem ys3 {listed:Array Bool} {m i:Nat} (h:Agree ops.size listed m) (hr:zx4 ops.toList 0 m=[i]):i<ops.size:=by
 rw [← zr3 h] at hr
 have:i ∈ Region.ready .any ops listed:=by rw [hr];simp
 unfold Region.ready at this
 exact List.mem_range.1 (List.mem_filter.1 this).1
theorem zH4:∀ (l:List (Bool × Nat)) (listed:Array Bool) (m:Nat),Agree ops.size listed m→zN7 ops l m=true→zw1 ops l listed=true
 | [],listed,m,h,ho=>by rw [zw1,zr3 h];exact ho
 | (true,i)::rest,listed,m,h,ho=>by
  simp only [zN7,Bool.and_eq_true] at ho
  have hi:=zB1 ho.1.1
  rw [zw1,zx3,zt7 h,zW6 h,ho.1.1,ho.1.2,zH4 rest _ _ (h.set hi) ho.2];rfl
 | (false,i)::rest,listed,m,h,ho=>by
  simp only [zN7,Bool.and_eq_true,decide_eq_true_eq] at ho
  have hi:=ys3 h ho.1
  rw [zw1,zr3 h,decide_eq_true ho.1,zH4 rest _ _ (h.set hi) ho.2];rfl
def setM (m:Nat) (fl:List Fl):Nat:=fl.foldl (fun m f=>m|||2 ^ f.op) m
theorem Agree.setFl:∀ (fl:List Fl) {n:Nat} {listed:Array Bool} {m:Nat},Agree n listed m→(∀ f ∈ fl,f.op<n)→Agree n (Go.Proofs.YtaldbfflkpgfoaaGreatDoor.setFl listed fl) (setM m fl)
 | [],_,_,_,h,_=>h
 | f::fl,n,listed,m,h,hf=>Agree.setFl fl (h.set (hf f (by simp))) (fun g hg=>hf g (by simp [hg]))
def zH5 (ops:Array Oper) (fl:List Fl) (tl:List (Bool × Nat)):List (Bool × Nat)→Nat→Bool
 | [],m=>zN7 ops tl (setM m fl)&&
   fl.all fun f=>zr2 ops m f.op&&decide (zx4 ops.toList 0 (setM m (fl.filter (·.op !=f.op)))=[f.op])
 | (true,i)::rest,m=>zr2 ops m i&&yh7 ops m i&&zH5 ops fl tl rest (m|||2 ^ i)
 | (false,i)::rest,m=>zr2 ops m i&&decide (zx4 ops.toList 0 (setM m fl)=[i])&&zH5 ops fl tl rest (m|||2 ^ i)
theorem zH6 (fl:List Fl) (tl:List (Bool × Nat)) (hfl:∀ f ∈ fl,f.op<ops.size):∀ (l:List (Bool × Nat)) (listed:Array Bool) (m:Nat),Agree ops.size listed m→zH5 ops fl tl l m=true→zr1 ops fl tl l listed=true
 | [],listed,m,h,ho=>by
  simp only [zH5,Bool.and_eq_true,List.all_eq_true] at ho
  simp only [zr1,Bool.and_eq_true,List.all_eq_true]
  refine ⟨zH4 tl _ _ (Agree.setFl fl h hfl) ho.1,fun f hf=>?_⟩
  have hs:=Agree.setFl (fl.filter (·.op !=f.op)) h (fun g hg=>hfl g (List.mem_filter.1 hg).1)
  rw [zt7 h,zr3 hs]
  exact ho.2 f hf
 | (true,i)::rest,listed,m,h,ho=>by
  simp only [zH5,Bool.and_eq_true] at ho
  have hi:=zB1 ho.1.1
  rw [zr1,zt7 h,zW6 h,ho.1.1,ho.1.2,zH6 fl tl hfl rest _ _ (h.set hi) ho.2];rfl
 | (false,i)::rest,listed,m,h,ho=>by
  simp only [zH5,Bool.and_eq_true,decide_eq_true_eq] at ho
  have hi:=zB1 ho.1.1
  rw [zr1,zt7 h,zr3 (Agree.setFl fl h hfl),ho.1.1,decide_eq_true ho.1.2,zH6 fl tl hfl rest _ _ (h.set hi) ho.2];rfl
theorem zM9 {id:Nat} {a:Act} {w:World} (S:World→Prop) (l:List (Bool × Nat)) (fl:List Fl) (tl:List (Bool × Nat)) (hm:P.follows .mixedOrders=true) (hs:Region.noSelect ops=true)
  (hok:(zH5 ops fl tl l 0&&fl.all fun f=>decide (f.op<ops.size))=true) (hap:okAp ops fl l=true) (hal:okAl ops fl=true) (hl:l.length+fl.length+tl.length≤ops.size)
  (hQ:∀ c (a:Act) (d:Tmp) v w,Q (.panic c) (a.put (some d) v) w→Q (.panic c) a w) (hQ':∀ c (a:Act) (d:Tmp) v w,Q (.panic c) a w→Q (.panic c) (a.put (some d) v) w) (hSa:∀ w o,S w→S (w.alloc o)) (hS:S w.drew)
  (hz:∀ f ∈ fl,∀ w,(Instr.alloc f.ty true (.tuple #[])).run P w=.ok (.pointer (some ⟨w.heap.size,0,none⟩)) (w.alloc (.cells f.zero f.ty)))
  (h:zn1 P ops Q S (zW8 P ops Q S w.heap.size fl tl) l a w.drew):(Code.region id ops true).wp P Q a w:=by
 rw [Bool.and_eq_true,List.all_eq_true] at hok
 exact zM8 S l fl tl hm hs (zH6 fl tl (fun f hf=>of_decide_eq_true (hok.2 f hf)) l _ 0 (Agree.zero _) hok.1) hap hal hl hQ hQ' hSa hS hz h
end
set_option maxRecDepth 100000 in
set_option maxHeartbeats 1000000 in
theorem ments {c0 c1 c2 c3 c4 c5 c6 c7 c8 c9 ap aQ au av aH ax af ai ar ak aa aR aC aL aA aO aj ac al aF aq aw aB ab aI aN az ay aJ aG aP aK aD ae aE ad aM ah:Value} (w:World) (_o0:c0.oneCell'=true) (_o1:c1.oneCell'=true) (_o2:c2.oneCell'=true) (_o3:c3.oneCell'=true) (_o4:c4.oneCell'=true) (_o5:c5.oneCell'=true) (_o6:c6.oneCell'=true) (_o7:c7.oneCell'=true) (_o8:c8.oneCell'=true) (_o9:c9.oneCell'=true) (_o10:ap.oneCell'=true) (_o11:aQ.oneCell'=true) (_o12:au.oneCell'=true) (_o13:av.oneCell'=true) (_o14:aH.oneCell'=true) (_o15:ax.oneCell'=true) (_o16:af.oneCell'=true) (_o17:ai.oneCell'=true) (_o18:ar.oneCell'=true) (_o19:ak.oneCell'=true) (_o20:aa.oneCell'=true) (_o21:aR.oneCell'=true) (_o22:aC.oneCell'=true) (_o23:aL.oneCell'=true) (_o24:aA.oneCell'=true) (_o25:aO.oneCell'=true) (_o26:aj.oneCell'=true) (_o27:ac.oneCell'=true) (_o28:al.oneCell'=true) (_o29:aF.oneCell'=true) (_o30:aq.oneCell'=true) (_o31:aw.oneCell'=true) (_o32:aB.oneCell'=true) (_o33:ab.oneCell'=true) (_o34:aI.oneCell'=true) (_o35:aN.oneCell'=true) (_o36:az.oneCell'=true) (_o37:ay.oneCell'=true) (_o38:aJ.oneCell'=true) (_o39:aG.oneCell'=true) (_o40:aP.oneCell'=true) (_o41:aK.oneCell'=true) (_o42:aD.oneCell'=true) (_o43:ae.oneCell'=true) (_o44:aE.oneCell'=true) (_o45:ad.oneCell'=true) (_o46:aM.oneCell'=true) (_o47:ah.oneCell'=true):
    Calls Tryz.prog 61 #[(.agg #[c0,c1,c2,c3,c4,c5,c6,c7,c8,c9,ap,aQ,au,av,aH,ax,af,ai,ar,ak,aa,aR,aC,aL,aA,aO,aj,ac,al,aF,aq,aw,aB,ab,aI,aN,az,ay,aJ,aG,aP,aK,aD,ae,aE,ad,aM,ah])] w fun e w'=>(∃ bm,e=.returned (.func (.func 98) #[] #[.pointer (some ⟨bm,0,none⟩)])∧Lc w' bm #[c0,c1,c2,c3,c4,c5,c6,c7,c8,c9,ap,aQ,au,av,aH,ax,af,ai,ar,ak,aa,aR,aC,aL,aA,aO,aj,ac,al,aF,aq,aw,aB,ab,aI,aN,az,ay,aJ,aG,aP,aK,aD,ae,aE,ad,aM,ah] 41)∧Gr w w':=by
 go_enter Tryz.func61,Tryz.ntmps61
 have hB:=Gr.refl w
 refine wp_seq_k (fun K1 k1=>?_)
 refine rg [0,1] ?_
 refine se ?_
 refine eb 41 #[c0,c1,c2,c3,c4,c5,c6,c7,c8,c9,ap,aQ,au,av,aH,ax,af,ai,ar,ak,aa,aR,aC,aL,aA,aO,aj,ac,al,aF,aq,aw,aB,ab,aI,aN,az,ay,aJ,aG,aP,aK,aD,ae,aE,ad,aM,ah] 1 hB fun b2 w2 g2 L2 o2 q2 hB=>?_
 simp only [p3,p4]
 refine sv 2 .nilFunc ?_
 refine za0 ?_
 refine k1 _ _ ?_
 try clear k1 K1
 refine wp_seq_k (fun K3 k3=>?_)
 refine rg [0,1] ?_
 refine sv 3 (.func (.func 98) #[] #[(.pointer (some ⟨b2,0,none⟩))]) ?_
 refine sv 2 (.func (.func 98) #[] #[(.pointer (some ⟨b2,0,none⟩))]) ?_
 refine za0 ?_
 refine k3 _ _ ?_
 try clear k3 K3
 refine wp_ret ?_
 refine bodyPost_ret (v:=(.func (.func 98) #[] #[(.pointer (some ⟨b2,0,none⟩))])) (zb0 rfl rfl) rfl ⟨?_,hB⟩
 exact ⟨_,rfl,L2⟩

theorem rcmp12 {xs ys:List Rat} (hx:xs.length=12) (hy:ys.length=12):(∀ j ∈ all12,yp9 (xs.getD j.val 0) (ys.getD j.val 0)=0)↔xs=ys:=by
 constructor
 ·intro h
  apply List.ext_getElem?
  intro i
  by_cases hi:i<12
  ·have:=zZ0.1 (h ⟨i,hi⟩ (zK8 _))
   simp only [List.getD_eq_getElem?_getD,List.getElem?_eq_getElem (show i<xs.length by omega),List.getElem?_eq_getElem (show i<ys.length by omega),Option.getD_some] at this
   rw [List.getElem?_eq_getElem (show i<xs.length by omega),List.getElem?_eq_getElem (show i<ys.length by omega),this]
  ·rw [List.getElem?_eq_none (by omega),List.getElem?_eq_none (by omega)]
 ·rintro rfl j _
  exact zZ0.2 rfl
set_option maxRecDepth 100000 in
set_option maxHeartbeats 4000000 in
theorem mequal {k m:Nat} {bt bN bb bw bE a9 bh bQ bx bJ bA bf a2 bo bR bk bi bp ba bg bO a3 bn bU bD bC bu a5 bP bq bH bc bv bT bd bz bL bm bM bK bS bG a8 a4 bj a6 bF a7:Value} {cC cT cK cY cF cN cW cR cM cS cJ cH:Rat} {aH ap aP aI aq ac aa aA aU ad aj aG ae aF aX a0 aE au aY aO ah ak ax aB aQ ar ab ay aJ aD aw aV af aW aR a1 aT aK av aM al aL aC aN aZ az ai aS:Value} {cG cX cQ cU cD cO cB cE cL cZ cV cP:Rat} {w:World} (cm:IsRat w k bt bN bb bw cC) (ct:IsRat w k bE a9 bh bQ cT) (bX:IsRat w k bx bJ bA bf cK) (ca:IsRat w k a2 bo bR bk cY) (cl:IsRat w k bi bp ba bg cF) (bY:IsRat w k bO a3 bn bU cN) (cj:IsRat w k bD bC bu a5 cW) (bV:IsRat w k bP bq bH bc cR) (ch:IsRat w k bv bT bd bz cM) (b7:IsRat w k bL bm bM bK cS) (bZ:IsRat w k bS bG a8 a4 cJ) (b5:IsRat w k bj a6 bF a7 cH) (ce:IsRat w m aH ap aP aI cG) (co:IsRat w m aq ac aa aA cX) (bW:IsRat w m aU ad aj aG cQ) (b8:IsRat w m ae aF aX a0 cU) (cu:IsRat w m aE au aY aO cD) (cg:IsRat w m ah ak ax aB cO) (b9:IsRat w m aQ ar ab ay cB) (cq:IsRat w m aJ aD aw aV cE) (cc:IsRat w m af aW aR a1 cL) (cn:IsRat w m aT aK av aM cZ) (ck:IsRat w m al aL aC aN cV) (cd:IsRat w m aZ az ai aS cP) (_hk:k+m≤90000):
    Calls Tryz.prog 16 #[(.agg #[bt,bN,bb,bw,bE,a9,bh,bQ,bx,bJ,bA,bf,a2,bo,bR,bk,bi,bp,ba,bg,bO,a3,bn,bU,bD,bC,bu,a5,bP,bq,bH,bc,bv,bT,bd,bz,bL,bm,bM,bK,bS,bG,a8,a4,bj,a6,bF,a7]),(.agg #[aH,ap,aP,aI,aq,ac,aa,aA,aU,ad,aj,aG,ae,aF,aX,a0,aE,au,aY,aO,ah,ak,ax,aB,aQ,ar,ab,ay,aJ,aD,aw,aV,af,aW,aR,a1,aT,aK,av,aM,al,aL,aC,aN,aZ,az,ai,aS])] w fun e w'=>e=.returned (.bool (decide ([cC,cT,cK,cY,cF,cN,cW,cR,cM,cS,cJ,cH]=[cG,cX,cQ,cU,cD,cO,cB,cE,cL,cZ,cV,cP])))∧Gr w w':=by
 have hmaone:One1 [bt,bN,bb,bw,bE,a9,bh,bQ,bx,bJ,bA,bf,a2,bo,bR,bk,bi,bp,ba,bg,bO,a3,bn,bU,bD,bC,bu,a5,bP,bq,bH,bc,bv,bT,bd,bz,bL,bm,bM,bK,bS,bG,a8,a4,bj,a6,bF,a7]:=⟨cm.one0,cm.one1,cm.one2,cm.one3,ct.one0,ct.one1,ct.one2,ct.one3,bX.one0,bX.one1,bX.one2,bX.one3,ca.one0,ca.one1,ca.one2,ca.one3,cl.one0,cl.one1,cl.one2,cl.one3,bY.one0,bY.one1,bY.one2,bY.one3,cj.one0,cj.one1,cj.one2,cj.one3,bV.one0,bV.one1,bV.one2,bV.one3,ch.one0,ch.one1,ch.one2,ch.one3,b7.one0,b7.one1,b7.one2,b7.one3,bZ.one0,bZ.one1,bZ.one2,bZ.one3,b5.one0,b5.one1,b5.one2,b5.one3,trivial⟩
 have hmbone:One1 [aH,ap,aP,aI,aq,ac,aa,aA,aU,ad,aj,aG,ae,aF,aX,a0,aE,au,aY,aO,ah,ak,ax,aB,aQ,ar,ab,ay,aJ,aD,aw,aV,af,aW,aR,a1,aT,aK,av,aM,al,aL,aC,aN,aZ,az,ai,aS]:=⟨ce.one0,ce.one1,ce.one2,ce.one3,co.one0,co.one1,co.one2,co.one3,bW.one0,bW.one1,bW.one2,bW.one3,b8.one0,b8.one1,b8.one2,b8.one3,cu.one0,cu.one1,cu.one2,cu.one3,cg.one0,cg.one1,cg.one2,cg.one3,b9.one0,b9.one1,b9.one2,b9.one3,cq.one0,cq.one1,cq.one2,cq.one3,cc.one0,cc.one1,cc.one2,cc.one3,cn.one0,cn.one1,cn.one2,cn.one3,ck.one0,ck.one1,ck.one2,ck.one3,cd.one0,cd.one1,cd.one2,cd.one3,trivial⟩
 have qa:∀ j:Fin 12,IsRat w k ([bt,bN,bb,bw,bE,a9,bh,bQ,bx,bJ,bA,bf,a2,bo,bR,bk,bi,bp,ba,bg,bO,a3,bn,bU,bD,bC,bu,a5,bP,bq,bH,bc,bv,bT,bd,bz,bL,bm,bM,bK,bS,bG,a8,a4,bj,a6,bF,a7].getD (4*j.val) undef) ([bt,bN,bb,bw,bE,a9,bh,bQ,bx,bJ,bA,bf,a2,bo,bR,bk,bi,bp,ba,bg,bO,a3,bn,bU,bD,bC,bu,a5,bP,bq,bH,bc,bv,bT,bd,bz,bL,bm,bM,bK,bS,bG,a8,a4,bj,a6,bF,a7].getD (4*j.val+1) undef) ([bt,bN,bb,bw,bE,a9,bh,bQ,bx,bJ,bA,bf,a2,bo,bR,bk,bi,bp,ba,bg,bO,a3,bn,bU,bD,bC,bu,a5,bP,bq,bH,bc,bv,bT,bd,bz,bL,bm,bM,bK,bS,bG,a8,a4,bj,a6,bF,a7].getD (4*j.val+2) undef) ([bt,bN,bb,bw,bE,a9,bh,bQ,bx,bJ,bA,bf,a2,bo,bR,bk,bi,bp,ba,bg,bO,a3,bn,bU,bD,bC,bu,a5,bP,bq,bH,bc,bv,bT,bd,bz,bL,bm,bM,bK,bS,bG,a8,a4,bj,a6,bF,a7].getD (4*j.val+3) undef) ([cC,cT,cK,cY,cF,cN,cW,cR,cM,cS,cJ,cH].getD j.val 0):=fin12 cm ct bX ca cl bY cj bV ch b7 bZ b5
 have qb:∀ j:Fin 12,IsRat w m ([aH,ap,aP,aI,aq,ac,aa,aA,aU,ad,aj,aG,ae,aF,aX,a0,aE,au,aY,aO,ah,ak,ax,aB,aQ,ar,ab,ay,aJ,aD,aw,aV,af,aW,aR,a1,aT,aK,av,aM,al,aL,aC,aN,aZ,az,ai,aS].getD (4*j.val) undef) ([aH,ap,aP,aI,aq,ac,aa,aA,aU,ad,aj,aG,ae,aF,aX,a0,aE,au,aY,aO,ah,ak,ax,aB,aQ,ar,ab,ay,aJ,aD,aw,aV,af,aW,aR,a1,aT,aK,av,aM,al,aL,aC,aN,aZ,az,ai,aS].getD (4*j.val+1) undef) ([aH,ap,aP,aI,aq,ac,aa,aA,aU,ad,aj,aG,ae,aF,aX,a0,aE,au,aY,aO,ah,ak,ax,aB,aQ,ar,ab,ay,aJ,aD,aw,aV,af,aW,aR,a1,aT,aK,av,aM,al,aL,aC,aN,aZ,az,ai,aS].getD (4*j.val+2) undef) ([aH,ap,aP,aI,aq,ac,aa,aA,aU,ad,aj,aG,ae,aF,aX,a0,aE,au,aY,aO,ah,ak,ax,aB,aQ,ar,ab,ay,aJ,aD,aw,aV,af,aW,aR,a1,aT,aK,av,aM,al,aL,aC,aN,aZ,az,ai,aS].getD (4*j.val+3) undef) ([cG,cX,cQ,cU,cD,cO,cB,cE,cL,cZ,cV,cP].getD j.val 0):=fin12 ce co bW b8 cu cg b9 cq cc cn ck cd
 refine enterN Tryz.func16 rfl ?_
 simp only [Tryz.ntmps16,List.size_toArray,List.length_cons,List.length_nil,Nat.reduceAdd,Nat.reduceSub,Array.replicate_succ,Array.replicate_zero,List.push_toArray,List.append_toArray,List.nil_append,List.cons_append]
 have hB:=Gr.refl w
 refine wp_seq_k (fun K1 k1=>?_)
 refine rg [0,1,2] ?_
 refine se ?_
 refine eb 41 #[bt,bN,bb,bw,bE,a9,bh,bQ,bx,bJ,bA,bf,a2,bo,bR,bk,bi,bp,ba,bg,bO,a3,bn,bU,bD,bC,bu,a5,bP,bq,bH,bc,bv,bT,bd,bz,bL,bm,bM,bK,bS,bG,a8,a4,bj,a6,bF,a7] 2 hB fun b2 w2 g2 L2 o2 q2 hB=>?_
 simp only [p3,p4]
 refine se ?_
 refine eb 41 #[aH,ap,aP,aI,aq,ac,aa,aA,aU,ad,aj,aG,ae,aF,aX,a0,aE,au,aY,aO,ah,ak,ax,aB,aQ,ar,ab,ay,aJ,aD,aw,aV,af,aW,aR,a1,aT,aK,av,aM,al,aL,aC,aN,aZ,az,ai,aS] 3 hB fun b3 w3 g3 L3 o3 q3 hB=>?_
 simp only [p3,p4]
 refine se ?_
 refine zL0 4 (.bool false) #[.bool false] (some 4) rfl rfl (by kernel_rfl) rfl (fun b4 w4 g4 L4 q4=>?_)
 replace L2:=L2.gr g3
 have di:=L2.ne q4
 replace q4:=Nat.le_trans (Below.size hB) q4
 replace hB:=hB.trans g4
 simp only [zM5,p3,p4]
 refine za0 ?_
 refine k1 _ _ ?_
 try clear k1 K1
 refine wp_seq_k (fun K5 k5=>?_)
 refine rg [0] ?_
 refine se ?_
 refine ea 116 #[.bool false,.slice none 0 0,.bool false,.slice none 0 0,.bool false,.slice none 0 0,.bool false,.slice none 0 0,.bool false,.slice none 0 0,.bool false,.slice none 0 0,.bool false,.slice none 0 0,.bool false,.slice none 0 0,.bool false,.slice none 0 0,.bool false,.slice none 0 0,.bool false,.slice none 0 0,.bool false,.slice none 0 0,.bool false,.slice none 0 0,.bool false,.slice none 0 0,.bool false,.slice none 0 0,.bool false,.slice none 0 0,.bool false,.slice none 0 0,.bool false,.slice none 0 0,.bool false,.slice none 0 0,.bool false,.slice none 0 0,.bool false,.slice none 0 0,.bool false,.slice none 0 0,.bool false,.slice none 0 0,.bool false,.slice none 0 0] 5 hB fun b6 w6 g6 L6 o6 q6 hB=>?_
 replace L2:=L2.gr g4
 have de:=L2.ne o6
 replace L3:=L3.gr g4
 have db:=L3.ne o6
 have c7:=L4.ne o6
 simp only [p3,p4]
 refine za0 ?_
 refine k5 _ _ ?_
 try clear k5 K5
 refine wp_seq_k (fun K7 k7=>?_)
 refine wp_seq_k (fun K8 k8=>?_)
 refine rg [0,1] ?_
 replace L3:=L3.gr g6
 refine sw 10 (.agg #[aH,ap,aP,aI,aq,ac,aa,aA,aU,ad,aj,aG,ae,aF,aX,a0,aE,au,aY,aO,ah,ak,ax,aB,aQ,ar,ab,ay,aJ,aD,aw,aV,af,aW,aR,a1,aT,aK,av,aM,al,aL,aC,aN,aZ,az,ai,aS]) rfl (rl 41 0 [aH,ap,aP,aI,aq,ac,aa,aA,aU,ad,aj,aG,ae,aF,aX,a0,aE,au,aY,aO,ah,ak,ax,aB,aQ,ar,ab,ay,aJ,aD,aw,aV,af,aW,aR,a1,aT,aK,av,aM,al,aL,aC,aN,aZ,az,ai,aS] L3) ?_
 refine se ?_
 refine ec 11 (ments _ ce.one0 ce.one1 ce.one2 ce.one3 co.one0 co.one1 co.one2 co.one3 bW.one0 bW.one1 bW.one2 bW.one3 b8.one0 b8.one1 b8.one2 b8.one3 cu.one0 cu.one1 cu.one2 cu.one3 cg.one0 cg.one1 cg.one2 cg.one3 b9.one0 b9.one1 b9.one2 b9.one3 cq.one0 cq.one1 cq.one2 cq.one3 cc.one0 cc.one1 cc.one2 cc.one3 cn.one0 cn.one1 cn.one2 cn.one3 ck.one0 ck.one1 ck.one2 ck.one3 cd.one0 cd.one1 cd.one2 cd.one3) ?_
 rintro e9 w9 ⟨⟨dL,rfl,dA⟩,g9⟩
 refine ⟨_,rfl,?_⟩
 replace hB:=hB.trans g9
 simp only [p3,p4]
 refine za0 ?_
 refine k8 _ _ ?_
 try clear k8 K8
 refine wp_block ?_
 replace L2:=L2.gr (g6.trans g9)
 replace L3:=L3.gr g9
 replace L4:=L4.gr (g6.trans g9)
 replace L6:=L6.gr g9
 refine yB0 (Ds:=[]) (d1:=6) (d2:=7) (zI3 _ dL aH ap aP aI aq ac aa aA aU ad aj aG ae aF aX a0 aE au aY aO ah ak ax aB aQ ar ab ay aJ aD aw aV af aW aR a1 aT aK av aM al aL aC aN aZ az ai aS ce.one0 ce.one1 ce.one2 ce.one3 co.one0 co.one1 co.one2 co.one3 bW.one0 bW.one1 bW.one2 bW.one3 b8.one0 b8.one1 b8.one2 b8.one3 cu.one0 cu.one1 cu.one2 cu.one3 cg.one0 cg.one1 cg.one2 cg.one3 b9.one0 b9.one1 b9.one2 b9.one3 cq.one0 cq.one1 cq.one2 cq.one3 cc.one0 cc.one1 cc.one2 cc.one3 cn.one0 cn.one1 cn.one2 cn.one3 ck.one0 ck.one1 ck.one2 ck.one3 cd.one0 cd.one1 cd.one2 cd.one3 _ dA) (fun prs W'=>Gr w W'∧Kp w9 W'∧Lc W' b2 #[bt,bN,bb,bw,bE,a9,bh,bQ,bx,bJ,bA,bf,a2,bo,bR,bk,bi,bp,ba,bg,bO,a3,bn,bU,bD,bC,bu,a5,bP,bq,bH,bc,bv,bT,bd,bz,bL,bm,bM,bK,bS,bG,a8,a4,bj,a6,bF,a7] 41∧Lc W' b3 #[aH,ap,aP,aI,aq,ac,aa,aA,aU,ad,aj,aG,ae,aF,aX,a0,aE,au,aY,aO,ah,ak,ax,aB,aQ,ar,ab,ay,aJ,aD,aw,aV,af,aW,aR,a1,aT,aK,av,aM,al,aL,aC,aN,aZ,az,ai,aS] 41∧Lc W' b4 #[.bool false] 4∧∃ xs,Fills 12 [aH,ap,aP,aI,aq,ac,aa,aA,aU,ad,aj,aG,ae,aF,aX,a0,aE,au,aY,aO,ah,ak,ax,aB,aQ,ar,ab,ay,aJ,aD,aw,aV,af,aW,aR,a1,aT,aK,av,aM,al,aL,aC,aN,aZ,az,ai,aS] prs xs∧Lc W' b6 xs.toArray 116) (fun _ _ _=>False) ((yl5 hB.size).and ((yh6 _ _).and ((zl5 _ _ _ _).and ((zl5 _ _ _ _).and ((zl5 _ _ _ _).and (yA8 fun xs=>(ownFrom_pure _ _).and (zl5 _ _ _ _))))))) (fun _ _ _ _ _ h _ _=>h) ⟨hB,Kp.refl _,L2,L3,L4,⟨_,⟨rfl,zQ9 (by decide),fun _ h=>absurd h (by simp)⟩,L6⟩⟩ ?_ ?_ ?_ ?_ rfl (enters_of Tryz.func98 (by kernel_rfl) rfl)
 ·intro ll kk W K hK
  try simp only [p3,p4]
  refine wpIn_seq_k (fun K1 k1=>?_)
  refine rgI (ze3 ll) [0] ?_
  refine sv 6 (.int .i64 (kk.val:Int)) ?_
  try simp only [p3,p4]
  refine za0 ?_
  refine k1 _ _ ?_
  refine rgY [0,1] ?_
  refine zn8 (ze3 ll) 7 36 (.agg #[.bool false,.slice none 0 0,.bool false,.slice none 0 0]) (ent [aH,ap,aP,aI,aq,ac,aa,aA,aU,ad,aj,aG,ae,aF,aX,a0,aE,au,aY,aO,ah,ak,ax,aB,aQ,ar,ab,ay,aJ,aD,aw,aV,af,aW,aR,a1,aT,aK,av,aM,al,aL,aC,aN,aZ,az,ai,aS] kk) ?_ (zB0 hmbone rfl kk)
  try simp only [p3,p4]
  refine zc9 ?_
  exact hK
 ·rintro ll bB prs kk W ⟨hB,hkW,L2,L3,L4,xs,hF,L6⟩ hqB hLB
  try simp only [p3,p4]
  have hlt:=kk.isLt
  refine wpIn_block ?_
  refine rgI (ze3 ll) [0,1,2,3] ?_
  refine sv 14 (.int .i64 (kk.val:Int)) ?_
  try simp only [p3,p4]
  refine sw 15 (.agg (ent [aH,ap,aP,aI,aq,ac,aa,aA,aU,ad,aj,aG,ae,aF,aX,a0,aE,au,aY,aO,ah,ak,ax,aB,aQ,ar,ab,ay,aJ,aD,aw,aV,af,aW,aR,a1,aT,aK,av,aM,al,aL,aC,aN,aZ,az,ai,aS] kk).toArray) rfl (rl 36 0 (ent [aH,ap,aP,aI,aq,ac,aa,aA,aU,ad,aj,aG,ae,aF,aX,a0,aE,au,aY,aO,ah,ak,ax,aB,aQ,ar,ab,ay,aJ,aD,aw,aV,af,aW,aR,a1,aT,aK,av,aM,al,aL,aC,aN,aZ,az,ai,aS] kk) hLB) ?_
  try simp only [p3,p4]
  refine sw 16 (.pointer (some ⟨b6,4*kk.val,none⟩)) rfl (ys1 116 _ _ b6 12 36 4 kk.val hlt) ?_
  try simp only [p3,p4]
  obtain ⟨ys,hys,dJ⟩:=hF.step hmbone rfl hlt
  refine se ?_
  refine es 36 (4*kk.val) _ (ent [aH,ap,aP,aI,aq,ac,aa,aA,aU,ad,aj,aG,ae,aF,aX,a0,aE,au,aY,aO,ah,ak,ax,aB,aQ,ar,ab,ay,aJ,aD,aw,aV,af,aW,aR,a1,aT,aK,av,aM,al,aL,aC,aN,aZ,az,ai,aS] kk) ys.toArray L6 hB q6 (zB0 hmbone rfl kk) ?_ (hoff:=by simp [hF.len,ent];omega) (hcs:=hys)
  intro w1 st kp N g
  refine za0 ?_
  have ho:=zK7 st L6 (Nat.le_of_eq (by rw [st.size]))
  exact ⟨ho.from _,ho.walks,g,hkW.trans kp,st.lc L2 de,st.lc L3 db,st.lc L4 c7,ys,dJ,N⟩
 ·rintro da dG df ⟨dm,dN,dq,dC,dc,xs,hF,dj⟩ cy
  have dy:=hF.done (by decide) rfl
  subst dy
  clear hF
  have c5:=L4.ne df
  replace df:=Nat.le_trans (Below.size hB) df
  replace hB:=dm
  replace L2:=dq
  replace L4:=dc
  replace L6:=dj
  change IsMk dG da at cy
  change Lc dG b6 #[aH,ap,aP,aI,aq,ac,aa,aA,aU,ad,aj,aG,ae,aF,aX,a0,aE,au,aY,aO,ah,ak,ax,aB,aQ,ar,ab,ay,aJ,aD,aw,aV,af,aW,aR,a1,aT,aK,av,aM,al,aL,aC,aN,aZ,az,ai,aS] 116 at L6
  refine k7 _ _ ?_
  try clear k7 K7
  refine wp_seq_k (fun dO dB=>?_)
  refine wp_seq_k (fun dM dE=>?_)
  refine rg [0,1] ?_
  refine sw 17 (.agg #[bt,bN,bb,bw,bE,a9,bh,bQ,bx,bJ,bA,bf,a2,bo,bR,bk,bi,bp,ba,bg,bO,a3,bn,bU,bD,bC,bu,a5,bP,bq,bH,bc,bv,bT,bd,bz,bL,bm,bM,bK,bS,bG,a8,a4,bj,a6,bF,a7]) rfl (rl 41 0 [bt,bN,bb,bw,bE,a9,bh,bQ,bx,bJ,bA,bf,a2,bo,bR,bk,bi,bp,ba,bg,bO,a3,bn,bU,bD,bC,bu,a5,bP,bq,bH,bc,bv,bT,bd,bz,bL,bm,bM,bK,bS,bG,a8,a4,bj,a6,bF,a7] L2) ?_
  refine se ?_
  refine ec 18 (ments _ cm.one0 cm.one1 cm.one2 cm.one3 ct.one0 ct.one1 ct.one2 ct.one3 bX.one0 bX.one1 bX.one2 bX.one3 ca.one0 ca.one1 ca.one2 ca.one3 cl.one0 cl.one1 cl.one2 cl.one3 bY.one0 bY.one1 bY.one2 bY.one3 cj.one0 cj.one1 cj.one2 cj.one3 bV.one0 bV.one1 bV.one2 bV.one3 ch.one0 ch.one1 ch.one2 ch.one3 b7.one0 b7.one1 b7.one2 b7.one3 bZ.one0 bZ.one1 bZ.one2 bZ.one3 b5.one0 b5.one1 b5.one2 b5.one3) ?_
  rintro e13 dF ⟨⟨dt,rfl,dd⟩,dk⟩
  refine ⟨_,rfl,?_⟩
  replace hB:=hB.trans dk
  simp only [p3,p4]
  refine za0 ?_
  refine dE _ _ ?_
  try clear dE dM
  refine wp_block ?_
  replace L2:=L2.gr dk
  replace L4:=L4.gr dk
  replace L6:=L6.gr dk
  replace cy:=cy.gr dk
  refine yB0 (Ds:=[da]) (d1:=8) (d2:=9) (zI3 _ dt bt bN bb bw bE a9 bh bQ bx bJ bA bf a2 bo bR bk bi bp ba bg bO a3 bn bU bD bC bu a5 bP bq bH bc bv bT bd bz bL bm bM bK bS bG a8 a4 bj a6 bF a7 cm.one0 cm.one1 cm.one2 cm.one3 ct.one0 ct.one1 ct.one2 ct.one3 bX.one0 bX.one1 bX.one2 bX.one3 ca.one0 ca.one1 ca.one2 ca.one3 cl.one0 cl.one1 cl.one2 cl.one3 bY.one0 bY.one1 bY.one2 bY.one3 cj.one0 cj.one1 cj.one2 cj.one3 bV.one0 bV.one1 bV.one2 bV.one3 ch.one0 ch.one1 ch.one2 ch.one3 b7.one0 b7.one1 b7.one2 b7.one3 bZ.one0 bZ.one1 bZ.one2 bZ.one3 b5.one0 b5.one1 b5.one2 b5.one3 _ dd) (fun prs W'=>Gr w W'∧Kp dF W'∧Lc W' b2 #[bt,bN,bb,bw,bE,a9,bh,bQ,bx,bJ,bA,bf,a2,bo,bR,bk,bi,bp,ba,bg,bO,a3,bn,bU,bD,bC,bu,a5,bP,bq,bH,bc,bv,bT,bd,bz,bL,bm,bM,bK,bS,bG,a8,a4,bj,a6,bF,a7] 41∧Lc W' b4 #[.bool false] 4∧Lc W' b6 #[aH,ap,aP,aI,aq,ac,aa,aA,aU,ad,aj,aG,ae,aF,aX,a0,aE,au,aY,aO,ah,ak,ax,aB,aQ,ar,ab,ay,aJ,aD,aw,aV,af,aW,aR,a1,aT,aK,av,aM,al,aL,aC,aN,aZ,az,ai,aS] 116∧IsMk W' da∧(∀ j ∈ prs,yp9 ([cC,cT,cK,cY,cF,cN,cW,cR,cM,cS,cJ,cH].getD j.val 0) ([cG,cX,cQ,cU,cD,cO,cB,cE,cL,cZ,cV,cP].getD j.val 0)=0)) (fun c prs W'=>c=.ret∧Gr w W'∧Kp dF W'∧Lc W' b2 #[bt,bN,bb,bw,bE,a9,bh,bQ,bx,bJ,bA,bf,a2,bo,bR,bk,bi,bp,ba,bg,bO,a3,bn,bU,bD,bC,bu,a5,bP,bq,bH,bc,bv,bT,bd,bz,bL,bm,bM,bK,bS,bG,a8,a4,bj,a6,bF,a7] 41∧Lc W' b4 #[.bool false] 4∧Lc W' b6 #[aH,ap,aP,aI,aq,ac,aa,aA,aU,ad,aj,aG,ae,aF,aX,a0,aE,au,aY,aO,ah,ak,ax,aB,aQ,ar,ab,ay,aJ,aD,aw,aV,af,aW,aR,a1,aT,aK,av,aM,al,aL,aC,aN,aZ,az,ai,aS] 116∧IsMk W' da∧(∃ j:Fin 12,yp9 ([cC,cT,cK,cY,cF,cN,cW,cR,cM,cS,cJ,cH].getD j.val 0) ([cG,cX,cQ,cU,cD,cO,cB,cE,cL,cZ,cV,cP].getD j.val 0)≠0)) ((yl5 hB.size).and ((yh6 _ _).and ((zl5 _ _ _ _).and ((zl5 _ _ _ _).and ((zl5 _ _ _ _).and ((own_mk cy).and (ownFrom_pure _ _))))))) (fun c=>((ownFrom_pure _ _).and ((yl5 hB.size).and ((yh6 _ _).and ((zl5 _ _ _ _).and ((zl5 _ _ _ _).and ((zl5 _ _ _ _).and ((own_mk cy).and (ownFrom_pure _ _))))))))) ⟨hB,Kp.refl _,L2,L4,L6,cy,fun _ h=>absurd h (by simp)⟩ ?_ ?_ ?_ ?_ rfl (enters_of Tryz.func98 (by kernel_rfl) rfl)
  ·intro ll kk W K hK
   try simp only [p3,p4]
   refine wpIn_seq_k (fun K1 k1=>?_)
   refine rgI (ze3 ll) [0] ?_
   refine sv 8 (.int .i64 (kk.val:Int)) ?_
   try simp only [p3,p4]
   refine za0 ?_
   refine k1 _ _ ?_
   refine rgY [0,1] ?_
   refine zn8 (ze3 ll) 9 36 (.agg #[.bool false,.slice none 0 0,.bool false,.slice none 0 0]) (ent [bt,bN,bb,bw,bE,a9,bh,bQ,bx,bJ,bA,bf,a2,bo,bR,bk,bi,bp,ba,bg,bO,a3,bn,bU,bD,bC,bu,a5,bP,bq,bH,bc,bv,bT,bd,bz,bL,bm,bM,bK,bS,bG,a8,a4,bj,a6,bF,a7] kk) ?_ (zB0 hmaone rfl kk)
   try simp only [p3,p4]
   refine zc9 ?_
   exact hK
  ·rintro ll bB prs kk W ⟨hB,hkW,L2,L4,L6,cy,hq⟩ hqB hLB
   try simp only [p3,p4]
   refine wpIn_block ?_
   refine wpIn_seq_k (fun K1 k1=>?_)
   have gd:=Gr.drew W
   refine ordI (ze3 ll) (fun w'=>Lc w' bB (ent [bt,bN,bb,bw,bE,a9,bh,bQ,bx,bJ,bA,bf,a2,bo,bR,bk,bi,bp,ba,bg,bO,a3,bn,bU,bD,bC,bu,a5,bP,bq,bH,bc,bv,bT,bd,bz,bL,bm,bM,bK,bS,bG,a8,a4,bj,a6,bF,a7] kk).toArray 36∧Lc w' b6 [aH,ap,aP,aI,aq,ac,aa,aA,aU,ad,aj,aG,ae,aF,aX,a0,aE,au,aY,aO,ah,ak,ax,aB,aQ,ar,ab,ay,aJ,aD,aw,aV,af,aW,aR,a1,aT,aK,av,aM,al,aL,aC,aN,aZ,az,ai,aS].toArray 116) [(true,0),(true,1),(true,2),(true,3),(false,4),(true,5)] (by kernel_rfl) (by kernel_rfl) (by kernel_rfl) (by decide) (fun _ _ _ _ _ h=>h) ⟨hLB.gr gd,L6.gr gd⟩ ?_
   refine ow 21 (.agg (ent [bt,bN,bb,bw,bE,a9,bh,bQ,bx,bJ,bA,bf,a2,bo,bR,bk,bi,bp,ba,bg,bO,a3,bn,bU,bD,bC,bu,a5,bP,bq,bH,bc,bv,bT,bd,bz,bL,bm,bM,bK,bS,bG,a8,a4,bj,a6,bF,a7] kk).toArray) rfl (fun w' hS=>rl 36 0 (ent [bt,bN,bb,bw,bE,a9,bh,bQ,bx,bJ,bA,bf,a2,bo,bR,bk,bi,bp,ba,bg,bO,a3,bn,bU,bD,bC,bu,a5,bP,bq,bH,bc,bv,bT,bd,bz,bL,bm,bM,bK,bS,bG,a8,a4,bj,a6,bF,a7] kk) hS.1) ?_
   refine ov 22 (.int .i64 (kk.val:Int)) ?_
   refine ow 23 (.pointer (some ⟨b6,4*kk.val,none⟩)) rfl (fun w' hS=>ys1 116 _ _ b6 12 36 4 kk.val kk.isLt) ?_
   refine ow 24 (.agg (ent [aH,ap,aP,aI,aq,ac,aa,aA,aU,ad,aj,aG,ae,aF,aX,a0,aE,au,aY,aO,ah,ak,ax,aB,aQ,ar,ab,ay,aJ,aD,aw,aV,af,aW,aR,a1,aT,aK,av,aM,al,aL,aC,aN,aZ,az,ai,aS] kk).toArray) rfl (fun w' hS=>rl 36 (4*kk.val) (ent [aH,ap,aP,aI,aq,ac,aa,aA,aU,ad,aj,aG,ae,aF,aX,a0,aE,au,aY,aO,ah,ak,ax,aB,aQ,ar,ab,ay,aJ,aD,aw,aV,af,aW,aR,a1,aT,aK,av,aM,al,aL,aC,aN,aZ,az,ai,aS] kk) hS.2 (hv:=yh5 rfl kk)) ?_
   refine oe ?_
   refine ec 25 (zX2 ((qa kk).kp (hB.trans gd).kp) ((qb kk).kp (hB.trans gd).kp) (by omega)) ?_
   rintro e1 w1 ⟨rfl,g1⟩
   refine ⟨_,rfl,?_⟩
   refine ⟨⟨hLB.gr (gd.trans g1),L6.gr (gd.trans g1)⟩,?_⟩
   refine ov 26 (.bool (yp9 ([cC,cT,cK,cY,cF,cN,cW,cR,cM,cS,cJ,cH].getD kk.val 0) ([cG,cX,cQ,cU,cD,cO,cB,cE,cL,cZ,cV,cP].getD kk.val 0) !=0)) ?_
   refine zc0 ?_
   refine k1 _ _ ?_
   clear k1 K1
   have g:=gd.trans g1
   have ho:=yA9 g
   refine wpIn_cond_split rfl (fun hb=>?_) (fun hb=>?_)
   ·refine wpIn_seq_k (fun K1 k1=>?_)
    refine rgI (ze3 ll) [0] ?_
    refine se ?_
    refine es 4 0 _ [.bool false] #[.bool false] (L4.gr g) (hB.trans g) q4 ⟨rfl,trivial⟩ ?_
    intro w2 st kp N g2
    refine za0 ?_
    refine k1 _ _ ?_
    clear k1 K1
    refine wpIn_ret ?_
    have dK:=zK7 st (L4.gr g) (Nat.le_of_eq (by rw [st.size]))
    exact ⟨(ho.trans dK).from _,rfl,g2,(hkW.trans g.kp).trans kp,st.lc (L2.gr g) di,N,st.lc (L6.gr g) (Ne.symm c7),(cy.gr g).st st (Ne.symm c5),⟨kk,by simpa using hb⟩⟩
   ·refine wpIn_skip ?_
    refine ⟨ho.from _,ho.walks,hB.trans g,hkW.trans g.kp,L2.gr g,L4.gr g,L6.gr g,cy.gr g,fun j hj=>?_⟩
    rcases List.mem_append.1 hj with hj | hj
    · exact hq j hj
    · simp only [List.mem_singleton] at hj;subst hj;simpa using hb
  ·rintro dl dx c6 ⟨dm,du,dp,c4,dn,cA,hqd⟩ c8
   have c9:=L4.ne c6
   have cx:=cy.ne c6
   replace c6:=Nat.le_trans (Below.size hB) c6
   replace hB:=dm
   replace L4:=c4
   replace cy:=cA
   change IsMk dx dl at c8
   refine dB _ _ ?_
   try clear dB dO
   refine wp_seq_k (fun dH dD=>?_)
   refine rg [0] ?_
   refine se ?_
   refine es 4 0 (.bool true) [.bool true] #[.bool true] L4 hB q4 ⟨rfl,trivial⟩ fun dQ dh dI L4 hB=>?_
   refine za0 ?_
   refine dD _ _ ?_
   try clear dD dH
   refine wp_ret ?_
   replace c8:=c8.st dh (Ne.symm c9)
   replace cy:=cy.st dh (Ne.symm c5)
   refine endN [dl,da] _ (List.Pairwise.cons (List.forall_mem_cons.2 ⟨(Ne.symm cx),(fun _ h=>absurd h (by simp))⟩) (List.Pairwise.cons (fun _ h=>absurd h (by simp)) List.Pairwise.nil)) (List.forall_mem_cons.2 ⟨⟨c6,c8⟩,(List.forall_mem_cons.2 ⟨⟨df,cy⟩,(fun _ h=>absurd h (by simp))⟩)⟩) hB (fun dP dv hB=>?_)
   replace L4:=dv.lc L4 (by decide)
   refine ⟨(.bool true),(zW5 _ _ _ rfl rfl L4 (by kernel_rfl)),?_,hB⟩
   exact (by rw [show decide (_=_)=true from decide_eq_true ((rcmp12 rfl rfl).1 hqd)])
  ·rintro dl c prs dx c6 ⟨rfl,dm,du,dp,c4,dn,cA,hleft⟩ c8
   have cx:=cy.ne c6
   replace c6:=Nat.le_trans (Below.size hB) c6
   replace hB:=dm
   replace L4:=c4
   replace cy:=cA
   change IsMk dx dl at c8
   refine wp_ret ?_
   simp only [Exit.then,Exit.inBlock]
   refine endN [dl,da] _ (List.Pairwise.cons (List.forall_mem_cons.2 ⟨(Ne.symm cx),(fun _ h=>absurd h (by simp))⟩) (List.Pairwise.cons (fun _ h=>absurd h (by simp)) List.Pairwise.nil)) (List.forall_mem_cons.2 ⟨⟨c6,c8⟩,(List.forall_mem_cons.2 ⟨⟨df,cy⟩,(fun _ h=>absurd h (by simp))⟩)⟩) hB (fun dR dw hB=>?_)
   replace L4:=dw.lc L4 (by decide)
   refine ⟨(.bool false),(zW5 _ _ _ rfl rfl L4 (by kernel_rfl)),?_,hB⟩
   exact (by obtain ⟨j,hj⟩:=hleft;rw [show decide (_=_)=false from decide_eq_false (fun h=>hj ((rcmp12 rfl rfl).2 h j (zK8 j)))])
 ·intro D c prs W _ h;exact h.elim

end Go.Proofs.YtaldbfflkpgfoaaGreatDoor
namespace Go.Proofs.YtaldbfflkpgfoaaGreatDoor
def tz (M:Int) (a:Rat):Int:=a.num*(M/(a.den:Int))
end Go.Proofs.YtaldbfflkpgfoaaGreatDoor
namespace Go.Proofs.YtaldbfflkpgfoaaGreatDoor
open Go.RowKit
section
variable {P:Program} {a:Act} {o:Oper} {w:World} {Q:Exit→Act→World→Prop}
theorem rv_rem (t t2:TypeId) (x y:Operand) (A B:Int) (hop:o.op=.binOp .rem t x y t2) (hx:a.eval x=.int .i64 A) (hy:a.eval y=.int .i64 B) (hA:0≤A) (hB:0<B):RunV P a o w (.int .i64 (A % B)):=by
 have h0:¬ B=0:=by omega
 have e:Int.tmod A B=A % B:=Int.tmod_eq_emod_of_nonneg hA
 unfold RunV execOp
 simp only [hop,hx,hy]
 simp [go_sem,binOp,eqGuard,Op.intDiv,h0,e]
theorem yB5 (t t2:TypeId) (x y:Operand) (A B C:Int) (hop:o.op=.binOp .quo t x y t2) (hx:a.eval x=.int .i64 A) (hy:a.eval y=.int .i64 B) (hC:Int.tdiv A B=C) (h1:-9223372036854775808≤C) (h2:C≤9223372036854775807) (hB:0<B):RunV P a o w (.int .i64 C):=by
 have h0:¬ B=0:=by omega
 have e2:IntKind.i64.wrap C=C:=by rw [IntKind.wrap_i64];omega
 unfold RunV execOp
 simp only [hop,hx,hy]
 simp [go_sem,binOp,eqGuard,Op.intDiv,h0,hC,e2]
end

theorem IsRat.small {w:World} {K:Nat} {c0 c1 c2 c3:Value} {z:Int} (h:IsRat w K c0 c1 c2 c3 (z:Rat)) (h0:-9223372036854775808≤z) (h1:z≤9223372036854775807):IsRat w 64 c0 c1 c2 c3 (z:Rat):=by
 obtain ⟨hn,⟨D,hd,hD⟩,_⟩:=h
 have e1:((z:Rat)).num=z:=Rat.num_intCast z
 have e2:((z:Rat)).den=1:=Rat.den_intCast z
 rw [e1] at hn
 refine ⟨by rw [e1];exact hn.resz (Sz.i64 h0 h1),⟨D,hd.resz ?_,hD⟩,Nat.le_refl 64⟩
 unfold Sz
 rw [e2] at hD
 rcases hD with h | ⟨h,_⟩<;>subst h<;>decide
theorem zZ8 {g n:Int} (hg:0≤g) (hn:0<n):Int.gcd n (g % n)=Int.gcd g n:=by
 obtain ⟨a,rfl⟩:=Int.eq_ofNat_of_zero_le hg
 obtain ⟨b,rfl⟩:=Int.eq_ofNat_of_zero_le (Int.le_of_lt hn)
 rw [← Int.natCast_emod,Int.gcd_natCast_natCast,Int.gcd_natCast_natCast,Nat.gcd_comm b,← Nat.gcd_rec,Nat.gcd_comm]
def zq2 (a1 a2 a3 a4:Rat):Int:=zJ7 (zJ7 (zJ7 (zJ7 1 (a1.den:Int)) (a2.den:Int)) (a3.den:Int)) (a4.den:Int)
def zQ6 (a1 a2 a3 a4:Rat):Int:=if sgn a1.num=0 then (if sgn a2.num=0 then (if sgn a3.num=0 then sgn a4.num else sgn a3.num) else sgn a2.num) else sgn a1.num
def yq6 (a1 a2 a3 a4 x:Rat):Int:=x.num*(zq2 a1 a2 a3 a4/(x.den:Int))*zQ6 a1 a2 a3 a4
def yn1 (a1 a2 a3 a4:Rat):Int:=
 (Int.gcd (Int.gcd (Int.gcd (Int.gcd 0 (yq6 a1 a2 a3 a4 a1):Int) (yq6 a1 a2 a3 a4 a2):Int) (yq6 a1 a2 a3 a4 a3):Int) (yq6 a1 a2 a3 a4 a4):Int)
def wz (a1 a2 a3 a4 x:Rat):Int:=yq6 a1 a2 a3 a4 x/yn1 a1 a2 a3 a4
theorem zq3 (a:Rat):0<(a.den:Int):=by have:=a.den_pos;omega
end Go.Proofs.YtaldbfflkpgfoaaGreatDoor
