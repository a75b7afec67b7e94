/- Joined of: Gen220, Gen225, Gen226, In, Rn, Gen221, Gen222, Ne, Op, Ott. -/
import Derived.Test.YtjhflekncldflaaGreatDoorPartE
import Derived.Test.YtjhflekncldflaaGreatDoorPartB
import Derived.RangeFuncFrom
import Derived.RangeFuncWrites
import Derived.RangeFuncMany
import Derived.RangeFuncLeaves
import Derived.RangeFuncCalls
import Derived.RangeFuncBound
import Derived.TacticsIn
import Derived.LoopNIn
import Derived.Test.YtjhflekncldflaaGreatDoorPartA
import Derived.RangeFuncNested
import Derived.Test.YtjhflekncldflaaGreatDoorPartD
namespace Go.Proofs.YtjhflekncldflaaGreatDoor
set_option maxRecDepth 100000
set_option maxHeartbeats 4000000
open Go.RowKit

theorem zM3 {X:List UInt8} (h:(400:Int)<(X.length:Int)):ck2 X 400=5:=by unfold ck2;rw [if_pos (by omega)]
theorem zq1 (X:List UInt8) (hx:X.length≤14000) {w:World} (hm:Mx w):
  Calls Tryz.prog 64 #[.string ⟨X.toArray⟩] w fun e w'=>(∃ c0 c1 c2 c3,e=.returned (.tuple #[.agg #[c0,c1,c2,c3],iT (ck2 X 400)])∧IsRat w' 1600 c0 c1 c2 c3 (zg1 X))∧Gr w w':=by
 by_cases h:ck2 X 400=0
 ·have e:=zU0 h
  have hl:=(zA4 h).2
  have hs:=ratL_sz (zg1 X) (m:=400) (by rw [← e];exact hl)
  have:=zB1 (k:=1600) (zg1 X) hs (by omega) (by omega) (by rw [← e];omega) w hm
  rw [← e] at this
  rw [h];exact this
 refine (zy9 X hx h w hm).mono fun e w' he=>⟨?_,he.2⟩
 exact ⟨_,_,_,_,he.1,by rw [zU1 h];exact IsRat.zero _ (by omega)⟩
theorem zB0 (X:List UInt8) {w:World} (hm:Mx w):
    Calls Tryz.prog 127 #[sV X] w fun e w'=>(∃ c0 c1 c2 c3,e=.returned (.tuple #[.agg #[c0,c1,c2,c3],iT (ck2 X 400)])∧IsRat w' 1600 c0 c1 c2 c3 (zg1 X))∧Gr w w':=by
 go_enter Tryz.func127,Tryz.ntmps127
 have hB:=Gr.refl w
 refine wp_seq_k (fun aI ap=>rg [0,1] ?_)
 refine se ?_
 refine ea 62 #[.bool false,sN,.bool false,sN] 2 hB fun aH aK aJ aa aA al hB=>?_
 simp only [p3,p4]
 refine sv 3 (iT 0) (za0 (ap _ _ ?_))
 refine wp_seq_k (fun aF aq=>wp_seq_k (fun aD ay=>rg [0,1,2] (sv 4 (sV X) ?_)))
 refine sv 5 (iT ((X).length:Int)) ?_
 refine sv 6 (.bool (decide ((400:Int)<((X).length:Int)))) (za0 (ay _ _ ?_))
 refine wp_cond_split rfl (fun ad=>?_) (fun ad=>?_)
 ·have hl:(400:Int)<(X.length:Int):=of_decide_eq_true ad
  refine wp_seq_k (fun aB aw=>rg [0,1,2] (sv 7 (.agg #[.bool false,sN,.bool false,sN]) ?_))
  refine se ?_
  refine es 62 0 (.agg #[.bool false,sN,.bool false,sN]) [.bool false,sN,.bool false,sN] #[.bool false,sN,.bool false,sN] aa hB al ⟨rfl,rfl,rfl,rfl,trivial⟩ fun aG av au aa hB=>?_
  refine sv 3 (iT 5) (za0 (aw _ _ ?_))
  refine wp_ret ?_
  simp only [Exit.then]
  refine bodyPost_ret (v:=(.tuple #[.agg #[.bool false,sN,.bool false,sN],iT 5])) (zb5 _ _ _ rfl rfl aa (by kernel_rfl) rfl) rfl ⟨?_,hB⟩
  exact ⟨_,_,_,_,by rw [zM3 hl],by rw [zU1 (by rw [zM3 hl];decide)];exact IsRat.zero _ (by omega)⟩
 have hl:¬ ((400:Int)<(X.length:Int)):=of_decide_eq_false ad
 refine wp_skip ?_
 refine aq _ _ ?_
 refine wp_seq_k (fun aL ax=>rg [0,1,2,3,4,5] (sv 8 (sV X) ?_))
 refine se ?_
 refine ec 9 (zq1 (X) (by omega) (hm.gr hB)) ?_
 rintro aC az ⟨⟨af,ah,ae,ai,rfl,ac⟩,ak⟩
 refine ⟨_,rfl,?_⟩
 replace hB:=hB.trans ak
 simp only [p3,p4]
 refine sv 10 (.agg #[af,ah,ae,ai]) ?_
 refine sv 11 (iT (ck2 (X) 400)) ?_
 refine se ?_
 replace aa:=aa.gr ak
 refine es 62 0 (.agg #[af,ah,ae,ai]) [af,ah,ae,ai] #[af,ah,ae,ai] aa hB al ⟨ac.one0,ac.one1,ac.one2,ac.one3,trivial⟩ fun aE ar aj aa hB=>?_
 refine sv 3 (iT (ck2 (X) 400)) (za0 (ax _ _ ?_))
 refine wp_ret ?_
 refine bodyPost_ret (v:=(.tuple #[.agg #[af,ah,ae,ai],iT (ck2 (X) 400)])) (zb5 _ _ _ rfl rfl aa (by kernel_rfl) rfl) rfl ⟨?_,hB⟩
 replace ac:=ac.kp aj
 exact ⟨_,_,_,_,rfl,ac⟩

section
variable {n tn i:Nat} {c:List UInt8} {tm:Nat→Int × List UInt8}
theorem frme_c (h:ck2 c 400≠0):ck2 c 400=zH8 n c tn tm:=by unfold zH8;rw [if_pos h]
theorem frme_6 (h:ck2 c 400=0) (h2:(64:Int)<(tn:Int)):6=zH8 n c tn tm:=by unfold zH8;rw [if_neg (fun e=>e h),if_pos (by omega)]
theorem zw0 (h:ck2 c 400=0) (h2:¬ (64:Int)<(tn:Int)) (hf:fe (zH7 n tm) i=0) (hi:i<tn) {z:Int} (hz:zH7 n tm i=z) (h0:z≠0):z=zH8 n c tn tm:=by
 unfold zH8;rw [if_neg (fun e=>e h),if_neg (by omega),zp8 hf hi hz h0]
theorem frme_0 (h:ck2 c 400=0) (h2:¬ (64:Int)<(tn:Int)) (hf:fe (zH7 n tm) tn=0):0=zH8 n c tn tm:=by
 unfold zH8;rw [if_neg (fun e=>e h),if_neg (by omega),hf]
theorem trme_2 (h:(tm i).1<0∨(n:Int)≤(tm i).1):zH7 n tm i=2:=by unfold zH7;rw [if_pos h]
theorem trme_8 (h:¬ (tm i).1<0) (h2:¬ (n:Int)≤(tm i).1) (h3:0<i) (h4:(tm i).1≤(tm (i - 1)).1):zH7 n tm i=8:=by unfold zH7;rw [if_neg (by omega),if_pos ⟨h3,h4⟩]
theorem trme_c (h:¬ (tm i).1<0) (h2:¬ (n:Int)≤(tm i).1) (h3:¬ (0<i∧(tm i).1≤(tm (i - 1)).1)) (h4:ck2 (tm i).2 400≠0):zH7 n tm i=ck2 (tm i).2 400:=by unfold zH7;rw [if_neg (by omega),if_neg h3,if_pos h4]
theorem trme_z (h:¬ (tm i).1<0) (h2:¬ (n:Int)≤(tm i).1) (h3:¬ (0<i∧(tm i).1≤(tm (i - 1)).1)) (h4:ck2 (tm i).2 400=0) (h5:sgn (zg1 (tm i).2).num=0):zH7 n tm i=19:=by
 unfold zH7;rw [if_neg (by omega),if_neg h3,if_neg (fun e=>e h4),if_pos (Rat.num_eq_zero.1 (zf2.1 h5))]
theorem zU9 (h:¬ (tm i).1<0) (h2:¬ (n:Int)≤(tm i).1) (h3:¬ (0<i∧(tm i).1≤(tm (i - 1)).1)) (h4:ck2 (tm i).2 400=0) (h5:¬ sgn (zg1 (tm i).2).num=0):zH7 n tm i=0:=by
 unfold zH7;rw [if_neg (by omega),if_neg h3,if_neg (fun e=>e h4),if_neg (fun e=>h5 (zf2.2 (Rat.num_eq_zero.2 e)))]
end
theorem zQ4 {N tn T:Nat} {c:List UInt8} {tm:Nat→Int × List UInt8} {u:Value} (_hn:N≤64) {w:World} (hm:Mx w) (hu:Sl ETr T 2 w u (tb (fun z1=>(tm z1)) tn)):
    Calls Tryz.prog 126 #[.agg #[sV c,u],iT (N:Int)] w fun e w'=>e=.returned (iT (zH8 N c tn tm))∧Gr w w':=by
 go_enter Tryz.func126,Tryz.ntmps126
 have hB:=Gr.refl w
 refine wp_seq_k (fun cf b1=>rg [0,1] ?_)
 refine se ?_
 refine eb 75 #[sV c,u] 2 hB fun ak cy cQ ac cX cg hB=>?_
 simp only [p3,p4]
 refine sv 4 (iT 0) (za0 (b1 _ _ ?_))
 refine wp_seq_k (fun cb bM=>wp_seq_k (fun cL bF=>rg [0,1,2,3,4,5] (sv 11 (iT (N:Int)) ?_)))
 have aV:(decide ((N:Int)<(0:Int)))=false:=(by simp only [decide_eq_false_iff_not];omega)
 refine sw 12 (.bool false) rfl (RunV.bool (x:=decide ((N:Int)<(0:Int))) (rvk (by kernel_rfl)) aV) ?_
 refine sv 13 (.bool false) ?_
 refine sv 14 (iT (N:Int)) ?_
 have aX:(decide ((64:Int)<(N:Int)))=false:=(by simp only [decide_eq_false_iff_not];omega)
 refine sw 15 (.bool false) rfl (RunV.bool (x:=decide ((64:Int)<(N:Int))) (rvk (by kernel_rfl)) aX) ?_
 refine sv 16 (.bool false) (za0 (bF _ _ ?_))
 refine wp_cond_false rfl ?_
 refine wp_skip ?_
 refine bM _ _ ?_
 refine wp_seq_k (fun cu bq=>wp_seq_k (fun c8 br=>rg [0,1,2,3,4,5,6,7,8] (sv 18 (pT ak 0) ?_)))
 refine sw 19 (sV c) rfl (rk 33 0 ac) ?_
 refine se ?_
 refine ec 20 (zB0 (c) (hm.gr hB)) ?_
 rintro b8 cW ⟨⟨aQ,aR,aN,aO,rfl,aS⟩,bj⟩
 refine ⟨_,rfl,?_⟩
 replace hB:=hB.trans bj
 simp only [p3,p4]
 refine sv 17 (.tuple #[.agg #[aQ,aR,aN,aO],iT (ck2 (c) 400)]) ?_
 refine sv 21 (.agg #[aQ,aR,aN,aO]) ?_
 refine sv 22 (iT (ck2 (c) 400)) ?_
 refine se ?_
 refine ea 62 #[.bool false,sN,.bool false,sN] 5 hB fun cS cK bO a8 bn bR hB=>?_
 replace ac:=ac.gr bj
 have ai:=ac.ne bn
 simp only [p3,p4]
 refine se ?_
 refine es 62 0 (.agg #[aQ,aR,aN,aO]) [aQ,aR,aN,aO] #[aQ,aR,aN,aO] a8 hB bR ⟨aS.one0,aS.one1,aS.one2,aS.one3,trivial⟩ fun cx a2 bV a8 hB=>?_
 refine sv 6 (iT (ck2 (c) 400)) (za0 (br _ _ ?_))
 refine wp_seq_k (fun cr bK=>rg [0,1] (sv 23 (iT (ck2 (c) 400)) ?_))
 refine sv 24 (.bool (ck2 (c) 400 !=(0:Int))) (za0 (bK _ _ ?_))
 refine wp_cond_split rfl (fun au=>?_) (fun au=>?_)
 ·have hc:¬ (ck2 c 400=0):=bne_iff_ne.1 au
  refine wp_seq_k (fun cl b6=>rg [0,1] (sv 25 (iT (ck2 (c) 400)) ?_))
  refine sv 4 (iT (ck2 (c) 400)) (za0 (b6 _ _ ?_))
  refine wp_ret ?_
  simp only [Exit.then]
  refine bodyPost_ret (v:=(iT (ck2 (c) 400))) (za3 rfl rfl) rfl ⟨?_,hB⟩
  exact congrArg (fun z=>Ending.returned (iT z)) (frme_c hc)
 have hc:ck2 c 400=0:=by simpa using au
 refine wp_skip ?_
 refine bq _ _ ?_
 refine wp_seq_k (fun cG bI=>wp_seq_k (fun di b5=>rg [0,1,2,3] (sv 26 (pT ak 1) ?_)))
 replace ac:=a2.lc (ac.gr bO) ai
 refine sw 27 u rfl (rk 73 1 ac) ?_
 refine sw 28 (iT (tn:Int)) rfl (zb0 (e:=110) hu (za9 rfl) _ _ rfl rfl (by kernel_rfl)) ?_
 refine sv 29 (.bool (decide ((64:Int)<(tn:Int)))) (za0 (b5 _ _ ?_))
 refine wp_cond_split rfl (fun aL=>?_) (fun aL=>?_)
 ·have af:(64:Int)<(tn:Int):=of_decide_eq_true aL
  refine wp_seq_k (fun cH bG=>rg [0] (sv 4 (iT 6) ?_))
  refine za0 (bG _ _ ?_)
  refine wp_ret ?_
  simp only [Exit.then]
  refine bodyPost_ret (v:=(iT 6)) (za3 rfl rfl) rfl ⟨?_,hB⟩
  exact congrArg (fun z=>Ending.returned (iT z)) (frme_6 hc af)
 have af:¬ ((64:Int)<(tn:Int)):=of_decide_eq_false aL
 refine wp_skip ?_
 refine bI _ _ ?_
 refine wp_seq_k (fun cN bT=>wp_seq_k (fun c7 bs=>rg [0,1,2,3] (sv 30 (pT ak 1) ?_)))
 refine sw 31 u rfl (rk 73 1 ac) ?_
 refine sw 32 (iT (tn:Int)) rfl (zb0 (e:=110) hu (za9 rfl) _ _ rfl rfl (by kernel_rfl)) ?_
 refine sv 33 (iT 0) (za0 (bs _ _ ?_))
 refine wp_block ?_
 refine zb1 (a:=⟨List.toArray ?l30,[]⟩) (fun n a w'=>∃ (i:Nat) (aa:Nat→Value),tn - i=n∧a=⟨[.agg #[sV c,u],iT (N:Int),pT ak 0,undef,aa 4,aa 5,iT (ck2 (c) 400),aa 7,aa 8,aa 9,aa 10,aa 11,aa 12,aa 13,aa 14,aa 15,.bool false,aa 17,aa 18,aa 19,aa 20,aa 21,aa 22,aa 23,.bool (ck2 (c) 400 !=(0:Int)),undef,aa 26,aa 27,aa 28,.bool (decide ((64:Int)<(tn:Int))),aa 30,u,iT (tn:Int),iT (i:Int),aa 34,aa 35,aa 36,aa 37,aa 38,aa 39,aa 40,aa 41,aa 42,aa 43,aa 44,aa 45,aa 46,aa 47,aa 48,aa 49,aa 50,aa 51,aa 52,aa 53,aa 54,aa 55,aa 56,aa 57,aa 58,aa 59,aa 60,aa 61,aa 62,aa 63,aa 64,aa 65,aa 66,aa 67,aa 68,aa 69,aa 70,aa 71,aa 72,aa 73].toArray,[]⟩∧i≤tn∧fe (zH7 N tm) i=0∧Lc w' ak #[sV c,u] 75∧Gr w w') (tn - 0) ?_ ?_
 ·exact ⟨0,(fun i=>List.getD ?l30 i undef),rfl,rfl,Nat.zero_le _,rfl,ac,hB⟩
 rintro cm cd cq ⟨i,aa,rfl,rfl,hki,hf,ac,hB⟩ c6 bg
 refine wp_seq_k (fun ck bY=>rg [0] (sv 34 (.bool (decide ((i:Int)<(tn:Int)))) ?_))
 refine za0 (bY _ _ ?_)
 refine wp_seq_k (fun b9 bN=>?_)
 refine wp_cond_split rfl (fun aK=>?_) (fun aK=>?_)
 ·have hli:i<tn:=by have:=of_decide_eq_true aK;omega
  refine wp_skip ?_
  refine bN _ _ ?_
  refine wp_seq_k (fun cP a7=>?_)
  refine wp_block ?_
  refine wp_seq_k (fun dh bB=>rg [0,1,2,3,4,5] (sv 35 (iT (i:Int)) ?_))
  refine sw 36 (adr u (i*2)) rfl (zc0 (e:=110) hu za8 (by decide) i (by omega) _ _ _ rfl rfl rfl (by kernel_rfl) (by kernel_rfl)) ?_
  obtain ⟨_,_,rfl,a5⟩:=Sl.get hu (by decide) (zc3 (f:=(fun z1=>(tm z1))) (n:=tn) (i:=i) (by omega))
  refine sw 37 (.agg #[iT ((tm i).1),sV ((tm i).2)]) rfl (ze5 [iT ((tm i).1),sV ((tm i).2)] (a5.gr hB) _ _ rfl rfl (by kernel_rfl)) ?_
  refine se ?_
  refine ea 110 #[iT 0,sV []] 8 hB fun aB cZ bi ae bU bJ hB=>?_
  have ad:=ac.ne bU
  simp only [p3,p4]
  refine sv 7 (iT (i:Int)) ?_
  refine se ?_
  refine es 110 0 (.agg #[iT ((tm i).1),sV ((tm i).2)]) [iT ((tm i).1),sV ((tm i).2)] #[iT ((tm i).1),sV ((tm i).2)] ae hB bJ ⟨rfl,rfl,trivial⟩ fun bm aM bv ae hB=>?_
  refine za0 (bB _ _ ?_)
  refine wp_seq_k (fun cR bw=>wp_seq_k (fun cY ba=>rg [0,1,2,3,4,5,6,7,8] (sv 38 (pT aB 0) ?_)))
  refine sw 39 (iT ((tm i).1)) rfl (rk 3 0 ae) ?_
  refine sv 40 (.bool (decide ((tm i).1<(0:Int)))) ?_
  rcases Bool.eq_false_or_eq_true (decide ((tm i).1<(0:Int))) with hb41 | hb41
  ·have h1:(tm i).1<0:=of_decide_eq_true hb41
   refine swk 41 (.bool true) [(4,42),(5,43),(6,44),(7,45)] rfl (RunV.bool (x:=decide ((tm i).1<(0:Int))) (rvk (by kernel_rfl)) hb41) ?_
   refine sv 46 (.bool true) (za0 (ba _ _ ?_))
   refine wp_cond_true rfl ?_
   refine wp_seq_k (fun dd b0=>rg [0] (sv 4 (iT 2) ?_))
   refine za0 (b0 _ _ ?_)
   refine wp_ret ?_
   simp only [Exit.then,Exit.inBlock]
   refine bodyPost_ret (v:=(iT 2)) (za3 rfl rfl) rfl ⟨?_,hB⟩
   exact congrArg (fun z=>Ending.returned (iT z)) (zw0 hc af hf hli (trme_2 (by omega)) (by decide))
  have h1:¬ ((tm i).1<0):=of_decide_eq_false hb41
  refine sw 41 (.bool false) rfl (RunV.bool (x:=decide ((tm i).1<(0:Int))) (rvk (by kernel_rfl)) hb41) ?_
  refine sv 42 (pT aB 0) ?_
  refine sw 43 (iT ((tm i).1)) rfl (rk 3 0 ae) ?_
  refine sv 44 (iT (N:Int)) ?_
  refine sv 45 (.bool (decide ((N:Int)≤(tm i).1))) ?_
  refine sv 46 (.bool (decide ((N:Int)≤(tm i).1))) (za0 (ba _ _ ?_))
  refine wp_cond_split rfl (fun ap=>?_) (fun ap=>?_)
  ·have h2:(N:Int)≤(tm i).1:=of_decide_eq_true ap
   refine wp_seq_k (fun de bL=>rg [0] (sv 4 (iT 2) ?_))
   refine za0 (bL _ _ ?_)
   refine wp_ret ?_
   simp only [Exit.then,Exit.inBlock]
   refine bodyPost_ret (v:=(iT 2)) (za3 rfl rfl) rfl ⟨?_,hB⟩
   exact congrArg (fun z=>Ending.returned (iT z)) (zw0 hc af hf hli (trme_2 (by omega)) (by decide))
  have h2:¬ ((N:Int)≤(tm i).1):=of_decide_eq_false ap
  refine wp_skip ?_
  refine bw _ _ ?_
  refine wp_seq_k (fun ct a6=>wp_seq_k (fun cF a9=>?_))
  rcases Bool.eq_false_or_eq_true (decide ((0:Int)<(i:Int))) with hb47 | hb47
  ·have h0:0<i:=by have:=of_decide_eq_true hb47;omega
   obtain ⟨_,_,rfl,aP⟩:=Sl.get hu (by decide) (zc3 (f:=(fun z1=>(tm z1))) (n:=tn) (i:=(i - 1)) (by omega))
   have aA:=Gr.drew bm
   replace hB:=hB.trans aA
   replace ac:=(aM.lc (ac.gr bi) ad).gr aA
   replace ae:=ae.gr aA
   refine za4 (fun w'=>Lc w' ak #[sV c,u] 75∧Lc w' aB #[iT ((tm i).1),sV ((tm i).2)] 110∧AtV w' u ((i - 1)*2) [iT ((tm (i - 1)).1),sV ((tm (i - 1)).2)]) [(true,0),(true,1),(true,2),(true,3),(true,4),(true,5),(true,6),(true,7),(true,8),(true,9),(true,10),(true,11),(true,12),(true,13)] (by kernel_rfl) (by kernel_rfl) (by kernel_rfl) (by decide) (fun _ _ _ _ _ h=>h) ⟨ac,ae,aP.gr hB⟩ ?_
   refine ov 47 (iT (i:Int)) ?_
   refine ow 48 (.bool true) rfl (fun w' hS=>(RunV.bool (x:=decide ((0:Int)<(i:Int))) (rvk (by kernel_rfl)) hb47)) ?_
   refine ov 49 (.bool true) ?_
   refine ov 50 (pT ak 1) ?_
   refine ow 51 u rfl (fun w' hS=>(rk 73 1 hS.1)) ?_
   refine ov 52 (iT (i:Int)) ?_
   refine ow 53 (iT ((i - 1:Nat):Int)) rfl (fun w' hS=>(rwI ((i:Int) - 1))) ?_
   refine ow 54 (adr u ((i - 1)*2)) rfl (fun w' hS=>(zc0 (e:=110) hu za8 (by decide) (i - 1) (by omega) _ _ _ rfl rfl rfl (by kernel_rfl) (by kernel_rfl))) ?_
   refine ow 55 (adr u ((i - 1)*2+0)) rfl (fun w' hS=>(zA6 (off:=0) aP _ _ 0 rfl rfl (by kernel_rfl))) ?_
   refine ow 56 (iT ((tm (i - 1)).1)) rfl (fun w' hS=>(ze6 (iT ((tm (i - 1)).1)) (AtV.part (i:=0) (us:=[iT ((tm (i - 1)).1)]) hS.2.2 rfl) _ _ rfl rfl (by kernel_rfl))) ?_
   refine ov 57 (pT aB 0) ?_
   refine ow 58 (iT ((tm i).1)) rfl (fun w' hS=>(rk 3 0 hS.2.1)) ?_
   refine ov 59 (.bool (decide ((tm i).1≤(tm (i - 1)).1))) ?_
   refine ov 60 (.bool (decide ((tm i).1≤(tm (i - 1)).1))) ?_
   refine zb4 ?_
   refine a9 _ _ ?_
   refine wp_cond_split rfl (fun aw=>?_) (fun aw=>?_)
   ·have h4:(tm i).1≤(tm (i - 1)).1:=of_decide_eq_true aw
    refine wp_seq_k (fun cJ bD=>rg [0] (sv 4 (iT 8) ?_))
    refine za0 (bD _ _ ?_)
    refine wp_ret ?_
    simp only [Exit.then,Exit.inBlock]
    refine bodyPost_ret (v:=(iT 8)) (za3 rfl rfl) rfl ⟨?_,hB⟩
    exact congrArg (fun z=>Ending.returned (iT z)) (zw0 hc af hf hli (trme_8 h1 h2 h0 h4) (by decide))
   have h3:¬ (0<i∧(tm i).1≤(tm (i - 1)).1):=fun e=>of_decide_eq_false aw e.2
   refine wp_skip ?_
   refine a6 _ _ ?_
   refine wp_seq_k (fun cD bo=>rg [0,1,2,3,4,5,6,7,8] (sv 62 (pT aB 1) ?_))
   refine sw 63 (sV ((tm i).2)) rfl (rk 33 1 ae) ?_
   refine se ?_
   refine ec 64 (zB0 ((tm i).2) (hm.gr hB)) ?_
   rintro b7 cI ⟨⟨ay,aD,aI,aJ,rfl,ax⟩,a0⟩
   refine ⟨_,rfl,?_⟩
   replace hB:=hB.trans a0
   simp only [p3,p4]
   refine sv 61 (.tuple #[.agg #[ay,aD,aI,aJ],iT (ck2 ((tm i).2) 400)]) ?_
   refine sv 65 (.agg #[ay,aD,aI,aJ]) ?_
   refine sv 66 (iT (ck2 ((tm i).2) 400)) ?_
   refine se ?_
   refine ea 62 #[.bool false,sN,.bool false,sN] 9 hB fun cw db bk a1 b2 b3 hB=>?_
   replace ac:=ac.gr a0
   have ah:=ac.ne b2
   replace ae:=ae.gr a0
   simp only [p3,p4]
   refine se ?_
   refine es 62 0 (.agg #[ay,aD,aI,aJ]) [ay,aD,aI,aJ] #[ay,aD,aI,aJ] a1 hB b3 ⟨ax.one0,ax.one1,ax.one2,ax.one3,trivial⟩ fun cO a3 aZ a1 hB=>?_
   refine sv 10 (iT (ck2 ((tm i).2) 400)) (za0 (bo _ _ ?_))
   refine wp_seq_k (fun cT bE=>wp_seq_k (fun cc bX=>rg [0,1] (sv 67 (iT (ck2 ((tm i).2) 400)) ?_)))
   refine sv 68 (.bool (ck2 ((tm i).2) 400 !=(0:Int))) (za0 (bX _ _ ?_))
   refine wp_cond_split rfl (fun aC=>?_) (fun aC=>?_)
   ·have hk:¬ (ck2 (tm i).2 400=0):=bne_iff_ne.1 aC
    refine wp_seq_k (fun dk bt=>rg [0,1] (sv 69 (iT (ck2 ((tm i).2) 400)) ?_))
    refine sv 4 (iT (ck2 ((tm i).2) 400)) (za0 (bt _ _ ?_))
    refine wp_ret ?_
    simp only [Exit.then,Exit.inBlock]
    refine bodyPost_ret (v:=(iT (ck2 ((tm i).2) 400))) (za3 rfl rfl) rfl ⟨?_,hB⟩
    exact congrArg (fun z=>Ending.returned (iT z)) (zw0 hc af hf hli (trme_c h1 h2 h3 hk) hk)
   have hk:ck2 (tm i).2 400=0:=by simpa using aC
   refine wp_skip ?_
   refine bE _ _ ?_
   refine wp_seq_k (fun c9 bA=>rg [0,1,2] ?_)
   refine sw 70 (.agg #[ay,aD,aI,aJ]) rfl (rl 62 0 [ay,aD,aI,aJ] a1) ?_
   refine se ?_
   have a4:=bk.kp.trans aZ
   replace ax:=ax.kp a4
   refine ec 71 (sign_r ax) ?_
   rintro cB cp ⟨rfl,bb⟩
   refine ⟨_,rfl,?_⟩
   replace hB:=hB.trans bb
   simp only [p3,p4]
   refine sv 72 (.bool (sgn (zg1 ((tm i).2)).num==(0:Int))) (za0 (bA _ _ ?_))
   refine wp_cond_split rfl (fun al=>?_) (fun al=>?_)
   ·have h5:sgn (zg1 (tm i).2).num=0:=beq_iff_eq.1 al
    refine wp_seq_k (fun cM bW=>rg [0] (sv 4 (iT 19) ?_))
    refine za0 (bW _ _ ?_)
    refine wp_ret ?_
    simp only [Exit.then,Exit.inBlock]
    refine bodyPost_ret (v:=(iT 19)) (za3 rfl rfl) rfl ⟨?_,hB⟩
    exact congrArg (fun z=>Ending.returned (iT z)) (zw0 hc af hf hli (trme_z h1 h2 h3 hk h5) (by decide))
   have h5:¬ (sgn (zg1 (tm i).2).num=0):=beq_eq_false_iff_ne.1 al
   refine wp_skip ?_
   refine a7 _ _ ?_
   refine rg [0,1] ?_
   refine sw 73 (iT ((i:Int)+1)) rfl (rwI ((i:Int)+1)) ?_
   refine sv 33 (iT ((i:Int)+1)) ?_
   refine za0 ?_
   replace ac:=(a3.lc (ac.gr bk) ah).gr bb
   refine bg (tn - (i+1)) ⟨List.toArray ?l66,[]⟩ _ (by omega) ?_
   exact ⟨i+1,(fun i=>List.getD ?l66 i undef),rfl,rfl,(by omega),zQ0 hf (zU9 h1 h2 h3 hk h5),ac,hB⟩
  have h3:¬ (0<i∧(tm i).1≤(tm (i - 1)).1):=fun e=>by have:=of_decide_eq_false hb47;omega
  have aE:=Gr.drew bm
  replace hB:=hB.trans aE
  replace ac:=(aM.lc (ac.gr bi) ad).gr aE
  replace ae:=ae.gr aE
  refine za4 (fun w'=>Lc w' ak #[sV c,u] 75∧Lc w' aB #[iT ((tm i).1),sV ((tm i).2)] 110) [(true,0),(true,1),(true,2),(true,3),(true,4),(true,5),(true,6),(true,7),(true,8),(true,9),(true,10),(true,11),(true,12),(true,13)] (by kernel_rfl) (by kernel_rfl) (by kernel_rfl) (by decide) (fun _ _ _ _ _ h=>h) ⟨ac,ae⟩ ?_
  refine ov 47 (iT (i:Int)) ?_
  refine ow 48 (.bool false) rfl (fun w' hS=>(RunV.bool (x:=decide ((0:Int)<(i:Int))) (rvk (by kernel_rfl)) hb47)) ?_
  refine ov 49 (.bool false) ?_
  refine Go.Proofs.YtjhflekncldflaaGreatDoor.os 50 ?_
  refine Go.Proofs.YtjhflekncldflaaGreatDoor.os 51 ?_
  refine Go.Proofs.YtjhflekncldflaaGreatDoor.os 52 ?_
  refine Go.Proofs.YtjhflekncldflaaGreatDoor.os 53 ?_
  refine Go.Proofs.YtjhflekncldflaaGreatDoor.os 54 ?_
  refine Go.Proofs.YtjhflekncldflaaGreatDoor.os 55 ?_
  refine Go.Proofs.YtjhflekncldflaaGreatDoor.os 56 ?_
  refine Go.Proofs.YtjhflekncldflaaGreatDoor.os 57 ?_
  refine Go.Proofs.YtjhflekncldflaaGreatDoor.os 58 ?_
  refine Go.Proofs.YtjhflekncldflaaGreatDoor.os 59 ?_
  refine ov 60 (.bool false) ?_
  refine zb4 ?_
  refine a9 _ _ ?_
  refine wp_cond_false rfl ?_
  refine wp_skip ?_
  refine a6 _ _ ?_
  refine wp_seq_k (fun cj bu=>rg [0,1,2,3,4,5,6,7,8] (sv 62 (pT aB 1) ?_))
  refine sw 63 (sV ((tm i).2)) rfl (rk 33 1 ae) ?_
  refine se ?_
  refine ec 64 (zB0 ((tm i).2) (hm.gr hB)) ?_
  rintro dp dc ⟨⟨aH,az,aG,aF,rfl,av⟩,bh⟩
  refine ⟨_,rfl,?_⟩
  replace hB:=hB.trans bh
  simp only [p3,p4]
  refine sv 61 (.tuple #[.agg #[aH,az,aG,aF],iT (ck2 ((tm i).2) 400)]) ?_
  refine sv 65 (.agg #[aH,az,aG,aF]) ?_
  refine sv 66 (iT (ck2 ((tm i).2) 400)) ?_
  refine se ?_
  refine ea 62 #[.bool false,sN,.bool false,sN] 9 hB fun c5 cU bl aY bp bP hB=>?_
  replace ac:=ac.gr bh
  have aj:=ac.ne bp
  simp only [p3,p4]
  refine se ?_
  refine es 62 0 (.agg #[aH,az,aG,aF]) [aH,az,aG,aF] #[aH,az,aG,aF] aY hB bP ⟨av.one0,av.one1,av.one2,av.one3,trivial⟩ fun da aT aU aY hB=>?_
  refine sv 10 (iT (ck2 ((tm i).2) 400)) (za0 (bu _ _ ?_))
  refine wp_seq_k (fun dj bZ=>wp_seq_k (fun cV bC=>rg [0,1] (sv 67 (iT (ck2 ((tm i).2) 400)) ?_)))
  refine sv 68 (.bool (ck2 ((tm i).2) 400 !=(0:Int))) (za0 (bC _ _ ?_))
  refine wp_cond_split rfl (fun aq=>?_) (fun aq=>?_)
  ·have hk:¬ (ck2 (tm i).2 400=0):=bne_iff_ne.1 aq
   refine wp_seq_k (fun cz bS=>rg [0,1] (sv 69 (iT (ck2 ((tm i).2) 400)) ?_))
   refine sv 4 (iT (ck2 ((tm i).2) 400)) (za0 (bS _ _ ?_))
   refine wp_ret ?_
   simp only [Exit.then,Exit.inBlock]
   refine bodyPost_ret (v:=(iT (ck2 ((tm i).2) 400))) (za3 rfl rfl) rfl ⟨?_,hB⟩
   exact congrArg (fun z=>Ending.returned (iT z)) (zw0 hc af hf hli (trme_c h1 h2 h3 hk) hk)
  have hk:ck2 (tm i).2 400=0:=by simpa using aq
  refine wp_skip ?_
  refine bZ _ _ ?_
  refine wp_seq_k (fun c4 bQ=>rg [0,1,2] ?_)
  refine sw 70 (.agg #[aH,az,aG,aF]) rfl (rl 62 0 [aH,az,aG,aF] aY) ?_
  refine se ?_
  have aW:=bl.kp.trans aU
  replace av:=av.kp aW
  refine ec 71 (sign_r av) ?_
  rintro cC df ⟨rfl,bf⟩
  refine ⟨_,rfl,?_⟩
  replace hB:=hB.trans bf
  simp only [p3,p4]
  refine sv 72 (.bool (sgn (zg1 ((tm i).2)).num==(0:Int))) (za0 (bQ _ _ ?_))
  refine wp_cond_split rfl (fun ar=>?_) (fun ar=>?_)
  ·have h5:sgn (zg1 (tm i).2).num=0:=beq_iff_eq.1 ar
   refine wp_seq_k (fun cE bH=>rg [0] (sv 4 (iT 19) ?_))
   refine za0 (bH _ _ ?_)
   refine wp_ret ?_
   simp only [Exit.then,Exit.inBlock]
   refine bodyPost_ret (v:=(iT 19)) (za3 rfl rfl) rfl ⟨?_,hB⟩
   exact congrArg (fun z=>Ending.returned (iT z)) (zw0 hc af hf hli (trme_z h1 h2 h3 hk h5) (by decide))
  have h5:¬ (sgn (zg1 (tm i).2).num=0):=beq_eq_false_iff_ne.1 ar
  refine wp_skip ?_
  refine a7 _ _ ?_
  refine rg [0,1] ?_
  refine sw 73 (iT ((i:Int)+1)) rfl (rwI ((i:Int)+1)) ?_
  refine sv 33 (iT ((i:Int)+1)) ?_
  refine za0 ?_
  replace ac:=(aT.lc (ac.gr bl) aj).gr bf
  refine bg (tn - (i+1)) ⟨List.toArray ?l82,[]⟩ _ (by omega) ?_
  exact ⟨i+1,(fun i=>List.getD ?l82 i undef),rfl,rfl,(by omega),zQ0 hf (zU9 h1 h2 h3 hk h5),ac,hB⟩
 have hei:tn=i:=by have:=of_decide_eq_false aK;omega
 subst hei
 refine wp_exit ?_
 simp only [Exit.then,Exit.inBlock,↓reduceIte]
 refine bT _ _ ?_
 refine wp_seq_k (fun cA b4=>rg [0] (sv 4 (iT 0) ?_))
 refine za0 (b4 _ _ ?_)
 refine wp_ret ?_
 refine bodyPost_ret (v:=(iT 0)) (za3 rfl rfl) rfl ⟨?_,hB⟩
 exact congrArg (fun z=>Ending.returned (iT z)) (frme_0 hc af hf)

theorem zV0 {z:Int} {bq:Nat} {w:World} (hL:Lc w bq #[iT 0,iT 1,iT 2,iT 3,iT 4,iT 5] 3):
    Calls Tryz.prog 174 #[sT bq 6 6,iT (z:Int)] w fun e w'=>(∃ r:Int,e=.returned (iT r)∧(0≤r↔0≤z∧z≤5))∧Gr w w':=by
 go_enter Tryz.func174,Tryz.ntmps174
 have hB:=Gr.refl w
 refine wp_seq_k (fun bw aN=>rg [0] (sv 4 (iT 0) ?_))
 refine za0 (aN _ _ ?_)
 refine wp_seq_k (fun bp aQ=>wp_seq_k (fun bt aq=>rg [0,1,2] (sv 6 (sT bq 6 6) ?_)))
 refine sv 7 (iT 6) ?_
 refine sv 8 (iT 0) (za0 (aq _ _ ?_))
 refine wp_block ?_
 refine wp_loop_rounds 7 ?_
 show Code.wp _ _ _ _ _
 refine wp_seq_k (fun bn a7=>rg [0] (sv 9 (.bool true) ?_))
 refine za0 (a7 _ _ ?_)
 refine wp_seq_k (fun bO ar=>?_)
 refine wp_cond_true rfl ?_
 refine wp_skip ?_
 refine ar _ _ ?_
 refine wp_seq_k (fun bl a6=>?_)
 refine wp_block ?_
 refine wp_seq_k (fun bS az=>rg [0,1] (sv 10 (iT 0) ?_))
 refine sv 5 (iT 0) (za0 (az _ _ ?_))
 refine wp_seq_k (fun b0 aD=>rg [0,1,2,3,4,5] (sv 11 (iT (z:Int)) ?_))
 refine sv 12 (sT bq 6 6) ?_
 refine sv 13 (iT 0) ?_
 refine sv 14 (pT bq 0) ?_
 refine sw 15 (iT 0) rfl (rk 3 0 hL) ?_
 refine sv 16 (.bool ((z:Int)==(0:Int))) (za0 (aD _ _ ?_))
 refine wp_cond_split rfl (fun ae=>?_) (fun ae=>?_)
 ·have bb:(z:Int)=(0:Int):=by have:=ae;simp at this;omega
  refine wp_seq_k (fun bK aF=>rg [0,1] (sv 17 (iT 0) ?_))
  refine sv 4 (iT 0) (za0 (aF _ _ ?_))
  refine wp_ret ?_
  simp only [Exit.then,Exit.inBlock]
  refine bodyPost_ret (v:=(iT 0)) (za3 rfl rfl) rfl ⟨?_,hB⟩
  exact ⟨_,rfl,by omega⟩
 have a8:¬ (z:Int)=(0:Int):=by have:=ae;simp at this;omega
 refine wp_skip ?_
 refine a6 _ _ ?_
 refine rg [0,1] (sv 18 (iT 1) ?_)
 refine sv 8 (iT 1) ?_
 refine za0 ?_
 show Code.rounds _ _ _ _ _ _
 show Code.wp _ _ _ _ _
 refine wp_seq_k (fun bC aW=>rg [0] (sv 9 (.bool true) ?_))
 refine za0 (aW _ _ ?_)
 refine wp_seq_k (fun bI a3=>?_)
 refine wp_cond_true rfl ?_
 refine wp_skip ?_
 refine a3 _ _ ?_
 refine wp_seq_k (fun bk bf=>?_)
 refine wp_block ?_
 refine wp_seq_k (fun bX a2=>rg [0,1] (sv 10 (iT 1) ?_))
 refine sv 5 (iT 1) (za0 (a2 _ _ ?_))
 refine wp_seq_k (fun bN aC=>rg [0,1,2,3,4,5] (sv 11 (iT (z:Int)) ?_))
 refine sv 12 (sT bq 6 6) ?_
 refine sv 13 (iT 1) ?_
 refine sv 14 (pT bq 1) ?_
 refine sw 15 (iT 1) rfl (rk 3 1 hL) ?_
 refine sv 16 (.bool ((z:Int)==(1:Int))) (za0 (aC _ _ ?_))
 refine wp_cond_split rfl (fun aa=>?_) (fun aa=>?_)
 ·have a4:(z:Int)=(1:Int):=by have:=aa;simp at this;omega
  refine wp_seq_k (fun bQ aE=>rg [0,1] (sv 17 (iT 1) ?_))
  refine sv 4 (iT 1) (za0 (aE _ _ ?_))
  refine wp_ret ?_
  simp only [Exit.then,Exit.inBlock]
  refine bodyPost_ret (v:=(iT 1)) (za3 rfl rfl) rfl ⟨?_,hB⟩
  exact ⟨_,rfl,by omega⟩
 have aU:¬ (z:Int)=(1:Int):=by have:=aa;simp at this;omega
 refine wp_skip ?_
 refine bf _ _ ?_
 refine rg [0,1] (sv 18 (iT 2) ?_)
 refine sv 8 (iT 2) ?_
 refine za0 ?_
 show Code.rounds _ _ _ _ _ _
 show Code.wp _ _ _ _ _
 refine wp_seq_k (fun bG aM=>rg [0] (sv 9 (.bool true) ?_))
 refine za0 (aM _ _ ?_)
 refine wp_seq_k (fun br au=>?_)
 refine wp_cond_true rfl ?_
 refine wp_skip ?_
 refine au _ _ ?_
 refine wp_seq_k (fun bY aw=>?_)
 refine wp_block ?_
 refine wp_seq_k (fun bA aI=>rg [0,1] (sv 10 (iT 2) ?_))
 refine sv 5 (iT 2) (za0 (aI _ _ ?_))
 refine wp_seq_k (fun bZ aV=>rg [0,1,2,3,4,5] (sv 11 (iT (z:Int)) ?_))
 refine sv 12 (sT bq 6 6) ?_
 refine sv 13 (iT 2) ?_
 refine sv 14 (pT bq 2) ?_
 refine sw 15 (iT 2) rfl (rk 3 2 hL) ?_
 refine sv 16 (.bool ((z:Int)==(2:Int))) (za0 (aV _ _ ?_))
 refine wp_cond_split rfl (fun ac=>?_) (fun ac=>?_)
 ·have aT:(z:Int)=(2:Int):=by have:=ac;simp at this;omega
  refine wp_seq_k (fun bL aA=>rg [0,1] (sv 17 (iT 2) ?_))
  refine sv 4 (iT 2) (za0 (aA _ _ ?_))
  refine wp_ret ?_
  simp only [Exit.then,Exit.inBlock]
  refine bodyPost_ret (v:=(iT 2)) (za3 rfl rfl) rfl ⟨?_,hB⟩
  exact ⟨_,rfl,by omega⟩
 have aO:¬ (z:Int)=(2:Int):=by have:=ac;simp at this;omega
 refine wp_skip ?_
 refine aw _ _ ?_
 refine rg [0,1] (sv 18 (iT 3) ?_)
 refine sv 8 (iT 3) ?_
 refine za0 ?_
 show Code.rounds _ _ _ _ _ _
 show Code.wp _ _ _ _ _
 refine wp_seq_k (fun bM aS=>rg [0] (sv 9 (.bool true) ?_))
 refine za0 (aS _ _ ?_)
 refine wp_seq_k (fun bs aj=>?_)
 refine wp_cond_true rfl ?_
 refine wp_skip ?_
 refine aj _ _ ?_
 refine wp_seq_k (fun bU aP=>?_)
 refine wp_block ?_
 refine wp_seq_k (fun bv aX=>rg [0,1] (sv 10 (iT 3) ?_))
 refine sv 5 (iT 3) (za0 (aX _ _ ?_))
 refine wp_seq_k (fun bV al=>rg [0,1,2,3,4,5] (sv 11 (iT (z:Int)) ?_))
 refine sv 12 (sT bq 6 6) ?_
 refine sv 13 (iT 3) ?_
 refine sv 14 (pT bq 3) ?_
 refine sw 15 (iT 3) rfl (rk 3 3 hL) ?_
 refine sv 16 (.bool ((z:Int)==(3:Int))) (za0 (al _ _ ?_))
 refine wp_cond_split rfl (fun af=>?_) (fun af=>?_)
 ·have ak:(z:Int)=(3:Int):=by have:=af;simp at this;omega
  refine wp_seq_k (fun bW ax=>rg [0,1] (sv 17 (iT 3) ?_))
  refine sv 4 (iT 3) (za0 (ax _ _ ?_))
  refine wp_ret ?_
  simp only [Exit.then,Exit.inBlock]
  refine bodyPost_ret (v:=(iT 3)) (za3 rfl rfl) rfl ⟨?_,hB⟩
  exact ⟨_,rfl,by omega⟩
 have aY:¬ (z:Int)=(3:Int):=by have:=af;simp at this;omega
 refine wp_skip ?_
 refine aP _ _ ?_
 refine rg [0,1] (sv 18 (iT 4) ?_)
 refine sv 8 (iT 4) ?_
 refine za0 ?_
 show Code.rounds _ _ _ _ _ _
 show Code.wp _ _ _ _ _
 refine wp_seq_k (fun bB aB=>rg [0] (sv 9 (.bool true) ?_))
 refine za0 (aB _ _ ?_)
 refine wp_seq_k (fun bD a1=>?_)
 refine wp_cond_true rfl ?_
 refine wp_skip ?_
 refine a1 _ _ ?_
 refine wp_seq_k (fun bF ai=>?_)
 refine wp_block ?_
 refine wp_seq_k (fun bm aZ=>rg [0,1] (sv 10 (iT 4) ?_))
 refine sv 5 (iT 4) (za0 (aZ _ _ ?_))
 refine wp_seq_k (fun bh av=>rg [0,1,2,3,4,5] (sv 11 (iT (z:Int)) ?_))
 refine sv 12 (sT bq 6 6) ?_
 refine sv 13 (iT 4) ?_
 refine sv 14 (pT bq 4) ?_
 refine sw 15 (iT 4) rfl (rk 3 4 hL) ?_
 refine sv 16 (.bool ((z:Int)==(4:Int))) (za0 (av _ _ ?_))
 refine wp_cond_split rfl (fun ah=>?_) (fun ah=>?_)
 ·have aH:(z:Int)=(4:Int):=by have:=ah;simp at this;omega
  refine wp_seq_k (fun bJ a0=>rg [0,1] (sv 17 (iT 4) ?_))
  refine sv 4 (iT 4) (za0 (a0 _ _ ?_))
  refine wp_ret ?_
  simp only [Exit.then,Exit.inBlock]
  refine bodyPost_ret (v:=(iT 4)) (za3 rfl rfl) rfl ⟨?_,hB⟩
  exact ⟨_,rfl,by omega⟩
 have a9:¬ (z:Int)=(4:Int):=by have:=ah;simp at this;omega
 refine wp_skip ?_
 refine ai _ _ ?_
 refine rg [0,1] (sv 18 (iT 5) ?_)
 refine sv 8 (iT 5) ?_
 refine za0 ?_
 show Code.rounds _ _ _ _ _ _
 show Code.wp _ _ _ _ _
 refine wp_seq_k (fun bu aL=>rg [0] (sv 9 (.bool true) ?_))
 refine za0 (aL _ _ ?_)
 refine wp_seq_k (fun bT bg=>?_)
 refine wp_cond_true rfl ?_
 refine wp_skip ?_
 refine bg _ _ ?_
 refine wp_seq_k (fun b1 aG=>?_)
 refine wp_block ?_
 refine wp_seq_k (fun bR aR=>rg [0,1] (sv 10 (iT 5) ?_))
 refine sv 5 (iT 5) (za0 (aR _ _ ?_))
 refine wp_seq_k (fun bE ay=>rg [0,1,2,3,4,5] (sv 11 (iT (z:Int)) ?_))
 refine sv 12 (sT bq 6 6) ?_
 refine sv 13 (iT 5) ?_
 refine sv 14 (pT bq 5) ?_
 refine sw 15 (iT 5) rfl (rk 3 5 hL) ?_
 refine sv 16 (.bool ((z:Int)==(5:Int))) (za0 (ay _ _ ?_))
 refine wp_cond_split rfl (fun ad=>?_) (fun ad=>?_)
 ·have ap:(z:Int)=(5:Int):=by have:=ad;simp at this;omega
  refine wp_seq_k (fun bo aK=>rg [0,1] (sv 17 (iT 5) ?_))
  refine sv 4 (iT 5) (za0 (aK _ _ ?_))
  refine wp_ret ?_
  simp only [Exit.then,Exit.inBlock]
  refine bodyPost_ret (v:=(iT 5)) (za3 rfl rfl) rfl ⟨?_,hB⟩
  exact ⟨_,rfl,by omega⟩
 have a5:¬ (z:Int)=(5:Int):=by have:=ad;simp at this;omega
 refine wp_skip ?_
 refine aG _ _ ?_
 refine rg [0,1] (sv 18 (iT 6) ?_)
 refine sv 8 (iT 6) ?_
 refine za0 ?_
 show Code.rounds _ _ _ _ _ _
 show Code.wp _ _ _ _ _
 refine wp_seq_k (fun bi ba=>rg [0] (sv 9 (.bool false) ?_))
 refine za0 (ba _ _ ?_)
 refine wp_seq_k (fun bP bj=>?_)
 refine wp_cond_false rfl ?_
 refine wp_exit ?_
 simp only [Exit.then,Exit.inBlock,↓reduceIte]
 refine aQ _ _ ?_
 refine wp_seq_k (fun bH aJ=>rg [0] (sv 4 (iT (-1)) ?_))
 refine za0 (aJ _ _ ?_)
 refine wp_ret ?_
 refine bodyPost_ret (v:=(iT (-1))) (za3 rfl rfl) rfl ⟨?_,hB⟩
 exact ⟨_,rfl,by omega⟩

theorem sl_cont6 {z:Int} {bq:Nat} {w:World} (hL:Lc w bq #[iT 0,iT 1,iT 2,iT 3,iT 4,iT 5] 3):
    Calls Tryz.prog 153 #[sT bq 6 6,iT (z)] w fun e w'=>e=.returned (.bool (decide (0≤z∧z≤5)))∧Gr w w':=by
 go_enter Tryz.func153,Tryz.ntmps153
 have hB:=Gr.refl w
 refine wp_seq_k (fun aj ae=>rg [0] (sv 4 (.bool false) ?_))
 refine za0 (ae _ _ ?_)
 refine wp_seq_k (fun ai af=>rg [0,1,2,3,4] (sv 5 (sT bq 6 6) ?_))
 refine sv 6 (iT (z)) ?_
 refine se ?_
 refine ec 7 (zV0 (z:=z) hL) ?_
 rintro ak ah ⟨⟨aa,rfl,ac⟩,ad⟩
 refine ⟨_,rfl,?_⟩
 replace hB:=hB.trans ad
 simp only [p3,p4]
 refine sv 8 (.bool (decide ((0:Int)≤aa))) ?_
 refine sv 4 (.bool (decide ((0:Int)≤aa))) (za0 (af _ _ ?_))
 refine wp_ret ?_
 refine bodyPost_ret (v:=(.bool (decide ((0:Int)≤aa)))) (za3 rfl rfl) rfl ⟨?_,hB⟩
 exact (by rw [show decide ((0:Int)≤aa)=decide (0≤z∧z≤5) from decide_eq_decide.2 ac])

theorem zu0 {z:Int} {w:World}:
    Calls Tryz.prog 125 #[iT (z)] w fun e w'=>e=.returned (.bool (decide (0≤z∧z≤5)))∧Gr w w':=by
 go_enter Tryz.func125,Tryz.ntmps125
 have hB:=Gr.refl w
 refine wp_seq_k (fun aj aa=>rg [0] (sv 2 (.bool false) ?_))
 refine za0 (aa _ _ ?_)
 refine wp_seq_k (fun ai ac=>rg [0,1,2,3] ?_)
 refine se ?_
 refine zc5 3 6 #[iT 0,iT 1,iT 2,iT 3,iT 4,iT 5] (some 3) rfl (fun _=>by kernel_rfl) (fun aq ah ae af ak=>?_)
 replace hB:=hB.trans ae
 simp only [zd1,p3,p4]
 refine sv 4 (iT (z)) ?_
 refine se ?_
 refine ec 5 (sl_cont6 (z:=z) af) ?_
 rintro al ap ⟨rfl,ad⟩
 refine ⟨_,rfl,?_⟩
 replace hB:=hB.trans ad
 simp only [p3,p4]
 refine sv 2 (.bool (decide (0≤z∧z≤5))) (za0 (ac _ _ ?_))
 refine wp_ret ?_
 refine bodyPost_ret (v:=(.bool (decide (0≤z∧z≤5)))) (za3 rfl rfl) rfl ⟨?_,hB⟩
 exact rfl

section
variable {x:Exl} {n:Nat}
theorem odd_a (h:¬ x.op=0) (h2:¬ x.c=[]):x.odd=true:=by unfold Exl.odd;simp [h,h2]
theorem odd_b (h:¬ x.op=0) (h2:(0:Int)<(x.tn:Int)):x.odd=true:=by unfold Exl.odd;simp [h,show 0<x.tn by omega]
theorem odd_c (h:¬ x.op=2) (h2:¬ x.k=[]):x.odd=true:=by unfold Exl.odd;simp [h,h2]
theorem zo5 (h:x.op=0∨(x.c=[]∧¬ (0:Int)<(x.tn:Int))) (h2:x.op=2∨x.k=[]):x.odd=false:=by
 unfold Exl.odd
 rcases h with h | ⟨h,h3⟩<;>rcases h2 with h2 | h2<;>simp [*]<;>omega
theorem nde_3 (h:x.odd=true) (h2:0≤x.op∧x.op≤5):3=nde n x:=by unfold nde;rw [if_pos h,if_pos h2]
theorem zM4 (h:x.odd=true) (h2:¬ (0≤x.op∧x.op≤5)):12=nde n x:=by unfold nde;rw [if_pos h,if_neg h2]
theorem zi5 (h:x.odd=false):nde n x=if x.op=0 then (if 0<x.na then 3 else zH8 n x.c x.tn x.tm)
 else if x.op=1∨x.op=3∨x.op=4 then (if x.na=0 then 3 else 0)
 else if x.op=5∨x.op=2 then (if x.na≠1 then 3 else if x.op=2 then ck2 x.k 400 else 0)
 else 12:=by unfold nde;rw [if_neg (by rw [h];decide)]
end
theorem di_node {n T:Nat} {x:Exl} {u:Value} {ao:Option Addr} {cap:Nat} (hn:n≤64) {w:World} (hm:Mx w) (hu:Sl ETr T 2 w u (tb (fun z1=>(x.tm z1)) x.tn)):
    Calls Tryz.prog 102 #[.agg #[iT (x.op),sV x.c,u,sV x.k,.slice ao x.na cap],iT (n:Int)] w fun e w'=>e=.returned (iT (nde n x))∧Gr w w':=by
 go_enter Tryz.func102,Tryz.ntmps102
 have hB:=Gr.refl w
 refine wp_seq_k (fun cM cm=>rg [0,1] ?_)
 refine se ?_
 refine eb 78 #[iT (x.op),sV x.c,u,sV x.k,.slice ao x.na cap] 2 hB fun ac dd dA aa dJ cQ hB=>?_
 simp only [p3,p4]
 refine sv 4 (iT 0) (za0 (cm _ _ ?_))
 refine wp_seq_k (fun cI aV=>wp_seq_k (fun dt aC=>rg [0,1,2,3,4,5,6,7,8,9,10,11,12,13,14,15,16,17,18,19,20,21,22,23,24,25] (sv 8 (pT ac 0) ?_)))
 refine sw 9 (iT (x.op)) rfl (rk 3 0 aa) ?_
 refine sv 10 (.bool (x.op !=(0:Int))) ?_
 rcases Bool.eq_false_or_eq_true (x.op !=(0:Int)) with hb14 | hb14
 ·have aA:¬ (x.op=0):=bne_iff_ne.1 hb14
  refine sw 11 (.bool true) rfl (RunV.bool (x:=(x.op !=(0:Int))) (rvk (by kernel_rfl)) hb14) ?_
  refine sv 12 (pT ac 1) ?_
  refine sv 13 (pT ac 1) ?_
  refine sw 14 (sV x.c) rfl (rk 33 1 aa) ?_
  refine sw 15 (.bool ((x.c) !=([]:List UInt8))) rfl (zP0 33 33 _ _ (x.c) ([]) rfl rfl rfl) ?_
  rcases Bool.eq_false_or_eq_true ((x.c) !=([]:List UInt8)) with hb15 | hb15
  ·have hc:¬ (x.c=[]):=bne_iff_ne.1 hb15
   refine swk 16 (.bool true) [(9,17),(10,18),(11,19),(12,20),(13,21)] rfl (RunV.bool (x:=((x.c) !=([]:List UInt8))) (rvk (by kernel_rfl)) hb15) ?_
   refine sv 22 (.bool true) ?_
   refine sv 23 (.bool true) ?_
   refine swk 24 (.bool true) [(17,25),(18,26),(19,27),(20,28),(21,29),(22,30),(23,31),(24,32)] rfl (rvk (by kernel_rfl)) ?_
   refine sv 33 (.bool true) (za0 (aC _ _ ?_))
   refine wp_cond_true rfl ?_
   refine wp_seq_k (fun da bo=>wp_seq_k (fun dU bw=>rg [0,1,2] (sv 34 (pT ac 0) ?_)))
   refine sw 35 (iT (x.op)) rfl (rk 3 0 aa) ?_
   refine se ?_
   refine ec 36 (zu0 (z:=x.op)) ?_
   rintro cF dF ⟨rfl,ck⟩
   refine ⟨_,rfl,?_⟩
   replace hB:=hB.trans ck
   simp only [p3,p4]
   refine za0 (bw _ _ ?_)
   refine wp_cond_split rfl (fun aw=>?_) (fun aw=>?_)
   ·have h5:0≤x.op∧x.op≤5:=of_decide_eq_true aw
    refine wp_seq_k (fun dH bB=>rg [0] (sv 4 (iT 3) ?_))
    refine za0 (bB _ _ ?_)
    refine wp_ret ?_
    simp only [Exit.then]
    refine bodyPost_ret (v:=(iT 3)) (za3 rfl rfl) rfl ⟨?_,hB⟩
    exact congrArg (fun z=>Ending.returned (iT z)) (nde_3 (odd_a aA hc) h5)
   have h5:¬ (0≤x.op∧x.op≤5):=of_decide_eq_false aw
   refine wp_skip ?_
   refine bo _ _ ?_
   refine wp_seq_k (fun c8 b3=>rg [0] (sv 4 (iT 12) ?_))
   refine za0 (b3 _ _ ?_)
   refine wp_ret ?_
   simp only [Exit.then]
   refine bodyPost_ret (v:=(iT 12)) (za3 rfl rfl) rfl ⟨?_,hB⟩
   exact congrArg (fun z=>Ending.returned (iT z)) (zM4 (odd_a aA hc) h5)
  have hc:x.c=[]:=by simpa using hb15
  refine sw 16 (.bool false) rfl (RunV.bool (x:=((x.c) !=([]:List UInt8))) (rvk (by kernel_rfl)) hb15) ?_
  refine sv 17 (pT ac 1) ?_
  refine sv 18 (pT ac 2) ?_
  refine sw 19 u rfl (rk 73 2 aa) ?_
  refine sw 20 (iT ((x.tn:Nat):Int)) rfl (zb0 (e:=110) hu (za9 rfl) _ _ rfl rfl (by kernel_rfl)) ?_
  refine sv 21 (.bool (decide ((0:Int)<((x.tn:Nat):Int)))) ?_
  refine sv 22 (.bool (decide ((0:Int)<((x.tn:Nat):Int)))) ?_
  refine sv 23 (.bool (decide ((0:Int)<((x.tn:Nat):Int)))) ?_
  rcases Bool.eq_false_or_eq_true (decide ((0:Int)<((x.tn:Nat):Int))) with hb22 | hb22
  ·have ht:(0:Int)<(x.tn:Int):=of_decide_eq_true hb22
   refine swk 24 (.bool true) [(17,25),(18,26),(19,27),(20,28),(21,29),(22,30),(23,31),(24,32)] rfl (RunV.bool (x:=decide ((0:Int)<((x.tn:Nat):Int))) (rvk (by kernel_rfl)) hb22) ?_
   refine sv 33 (.bool true) (za0 (aC _ _ ?_))
   refine wp_cond_true rfl ?_
   refine wp_seq_k (fun cW cx=>wp_seq_k (fun dp b0=>rg [0,1,2] (sv 34 (pT ac 0) ?_)))
   refine sw 35 (iT (x.op)) rfl (rk 3 0 aa) ?_
   refine se ?_
   refine ec 36 (zu0 (z:=x.op)) ?_
   rintro cP cG ⟨rfl,ct⟩
   refine ⟨_,rfl,?_⟩
   replace hB:=hB.trans ct
   simp only [p3,p4]
   refine za0 (b0 _ _ ?_)
   refine wp_cond_split rfl (fun ay=>?_) (fun ay=>?_)
   ·have h5:0≤x.op∧x.op≤5:=of_decide_eq_true ay
    refine wp_seq_k (fun dq bY=>rg [0] (sv 4 (iT 3) ?_))
    refine za0 (bY _ _ ?_)
    refine wp_ret ?_
    simp only [Exit.then]
    refine bodyPost_ret (v:=(iT 3)) (za3 rfl rfl) rfl ⟨?_,hB⟩
    exact congrArg (fun z=>Ending.returned (iT z)) (nde_3 (odd_b aA ht) h5)
   have h5:¬ (0≤x.op∧x.op≤5):=of_decide_eq_false ay
   refine wp_skip ?_
   refine cx _ _ ?_
   refine wp_seq_k (fun dx cf=>rg [0] (sv 4 (iT 12) ?_))
   refine za0 (cf _ _ ?_)
   refine wp_ret ?_
   simp only [Exit.then]
   refine bodyPost_ret (v:=(iT 12)) (za3 rfl rfl) rfl ⟨?_,hB⟩
   exact congrArg (fun z=>Ending.returned (iT z)) (zM4 (odd_b aA ht) h5)
  have ht:¬ ((0:Int)<(x.tn:Int)):=of_decide_eq_false hb22
  refine sw 24 (.bool false) rfl (RunV.bool (x:=decide ((0:Int)<((x.tn:Nat):Int))) (rvk (by kernel_rfl)) hb22) ?_
  refine sv 25 (pT ac 0) ?_
  refine sw 26 (iT (x.op)) rfl (rk 3 0 aa) ?_
  refine sv 27 (.bool (x.op !=(2:Int))) ?_
  rcases Bool.eq_false_or_eq_true (x.op !=(2:Int)) with hb29 | hb29
  ·have bK:¬ (x.op=2):=bne_iff_ne.1 hb29
   refine sw 28 (.bool true) rfl (RunV.bool (x:=(x.op !=(2:Int))) (rvk (by kernel_rfl)) hb29) ?_
   refine sv 29 (pT ac 3) ?_
   refine sw 30 (sV x.k) rfl (rk 33 3 aa) ?_
   refine sw 31 (.bool ((x.k) !=([]:List UInt8))) rfl (zP0 33 33 _ _ (x.k) ([]) rfl rfl rfl) ?_
   refine sv 32 (.bool ((x.k) !=([]:List UInt8))) ?_
   refine sv 33 (.bool ((x.k) !=([]:List UInt8))) (za0 (aC _ _ ?_))
   refine wp_cond_split rfl (fun aj=>?_) (fun aj=>?_)
   ·have hk:¬ (x.k=[]):=bne_iff_ne.1 aj
    refine wp_seq_k (fun cT cl=>wp_seq_k (fun cH b7=>rg [0,1,2] (sv 34 (pT ac 0) ?_)))
    refine sw 35 (iT (x.op)) rfl (rk 3 0 aa) ?_
    refine se ?_
    refine ec 36 (zu0 (z:=x.op)) ?_
    rintro cK dh ⟨rfl,bf⟩
    refine ⟨_,rfl,?_⟩
    replace hB:=hB.trans bf
    simp only [p3,p4]
    refine za0 (b7 _ _ ?_)
    refine wp_cond_split rfl (fun ak=>?_) (fun ak=>?_)
    ·have h5:0≤x.op∧x.op≤5:=of_decide_eq_true ak
     refine wp_seq_k (fun dT bN=>rg [0] (sv 4 (iT 3) ?_))
     refine za0 (bN _ _ ?_)
     refine wp_ret ?_
     simp only [Exit.then]
     refine bodyPost_ret (v:=(iT 3)) (za3 rfl rfl) rfl ⟨?_,hB⟩
     exact congrArg (fun z=>Ending.returned (iT z)) (nde_3 (odd_c (by omega) hk) h5)
    have h5:¬ (0≤x.op∧x.op≤5):=of_decide_eq_false ak
    refine wp_skip ?_
    refine cl _ _ ?_
    refine wp_seq_k (fun dy cr=>rg [0] (sv 4 (iT 12) ?_))
    refine za0 (cr _ _ ?_)
    refine wp_ret ?_
    simp only [Exit.then]
    refine bodyPost_ret (v:=(iT 12)) (za3 rfl rfl) rfl ⟨?_,hB⟩
    exact congrArg (fun z=>Ending.returned (iT z)) (zM4 (odd_c (by omega) hk) h5)
   have hk:x.k=[]:=by simpa using aj
   refine wp_skip ?_
   refine aV _ _ ?_
   refine wp_seq_k (fun cU b5=>rg [0,1,2,3] (sv 37 (pT ac 4) ?_))
   refine sw 38 (.slice ao x.na cap) rfl (rk 76 4 aa) ?_
   refine sv 39 (iT (x.na:Int)) ?_
   refine sv 5 (iT (x.na:Int)) (za0 (b5 _ _ ?_))
   refine wp_seq_k (fun dI aH=>wp_seq_k (fun dB bH=>rg [0,1] (sv 40 (pT ac 0) ?_)))
   refine sw 41 (iT (x.op)) rfl (rk 3 0 aa) ?_
   refine za0 (bH _ _ ?_)
   refine wp_block ?_
   refine wp_seq_k (fun dK bL=>rg [0,1] ?_)
   have aL:(x.op==(0:Int))=false:=(by rw [beq_eq_false_iff_ne];omega)
   refine sw 43 (.bool false) rfl (RunV.bool (x:=(x.op==(0:Int))) (rvk (by kernel_rfl)) aL) ?_
   refine sv 42 (.bool false) (za0 (bL _ _ ?_))
   refine wp_cond_false rfl ?_
   refine wp_seq_k (fun dR a1=>wp_seq_k (fun cL bR=>rg [0,1] (sv 51 (.bool (x.op==(1:Int))) ?_)))
   refine sv 50 (.bool (x.op==(1:Int))) (za0 (bR _ _ ?_))
   refine wp_cond_split rfl (fun ah=>?_) (fun ah=>?_)
   ·have bE:x.op=1:=beq_iff_eq.1 ah
    refine wp_skip ?_
    refine a1 _ _ ?_
    refine wp_cond_true (show _=Value.bool true by rw [← ah];rfl) ?_
    refine wp_seq_k (fun c9 bt=>rg [0,1] (sv 54 (iT (x.na:Int)) ?_))
    refine sv 55 (.bool ((x.na:Int)==(0:Int))) (za0 (bt _ _ ?_))
    refine wp_cond_split rfl (fun au=>?_) (fun au=>?_)
    ·have hna:(x.na:Int)=0:=beq_iff_eq.1 au
     refine wp_seq_k (fun dS bk=>rg [0] (sv 4 (iT 3) ?_))
     refine za0 (bk _ _ ?_)
     refine wp_ret ?_
     simp only [Exit.then,Exit.inBlock]
     refine bodyPost_ret (v:=(iT 3)) (za3 rfl rfl) rfl ⟨?_,hB⟩
     exact congrArg (fun z=>Ending.returned (iT z)) (by rw [zi5 (zo5 (by first | exact .inl (by assumption) | exact .inr ⟨hc,ht⟩) (by first | exact .inl (by assumption) | exact .inr hk))];(repeat' split)<;>first | rfl | omega)
    have hna:¬ ((x.na:Int)=0):=beq_eq_false_iff_ne.1 au
    refine wp_skip ?_
    refine aH _ _ ?_
    refine wp_seq_k (fun cR b4=>rg [0] (sv 4 (iT 0) ?_))
    refine za0 (b4 _ _ ?_)
    refine wp_ret ?_
    refine bodyPost_ret (v:=(iT 0)) (za3 rfl rfl) rfl ⟨?_,hB⟩
    exact congrArg (fun z=>Ending.returned (iT z)) (by rw [zi5 (zo5 (by first | exact .inl (by assumption) | exact .inr ⟨hc,ht⟩) (by first | exact .inl (by assumption) | exact .inr hk))];(repeat' split)<;>first | rfl | omega)
   have bE:¬ (x.op=1):=beq_eq_false_iff_ne.1 ah
   refine wp_seq_k (fun dz bq=>rg [0,1] (sv 52 (.bool (x.op==(3:Int))) ?_))
   refine sv 50 (.bool (x.op==(3:Int))) (za0 (bq _ _ ?_))
   refine wp_cond_split rfl (fun ai=>?_) (fun ai=>?_)
   ·have bl:x.op=3:=beq_iff_eq.1 ai
    refine wp_skip ?_
    refine a1 _ _ ?_
    refine wp_cond_true (show _=Value.bool true by rw [← ai];rfl) ?_
    refine wp_seq_k (fun dD a9=>rg [0,1] (sv 54 (iT (x.na:Int)) ?_))
    refine sv 55 (.bool ((x.na:Int)==(0:Int))) (za0 (a9 _ _ ?_))
    refine wp_cond_split rfl (fun ap=>?_) (fun ap=>?_)
    ·have hna:(x.na:Int)=0:=beq_iff_eq.1 ap
     refine wp_seq_k (fun dj bj=>rg [0] (sv 4 (iT 3) ?_))
     refine za0 (bj _ _ ?_)
     refine wp_ret ?_
     simp only [Exit.then,Exit.inBlock]
     refine bodyPost_ret (v:=(iT 3)) (za3 rfl rfl) rfl ⟨?_,hB⟩
     exact congrArg (fun z=>Ending.returned (iT z)) (by rw [zi5 (zo5 (by first | exact .inl (by assumption) | exact .inr ⟨hc,ht⟩) (by first | exact .inl (by assumption) | exact .inr hk))];(repeat' split)<;>first | rfl | omega)
    have hna:¬ ((x.na:Int)=0):=beq_eq_false_iff_ne.1 ap
    refine wp_skip ?_
    refine aH _ _ ?_
    refine wp_seq_k (fun di b9=>rg [0] (sv 4 (iT 0) ?_))
    refine za0 (b9 _ _ ?_)
    refine wp_ret ?_
    refine bodyPost_ret (v:=(iT 0)) (za3 rfl rfl) rfl ⟨?_,hB⟩
    exact congrArg (fun z=>Ending.returned (iT z)) (by rw [zi5 (zo5 (by first | exact .inl (by assumption) | exact .inr ⟨hc,ht⟩) (by first | exact .inl (by assumption) | exact .inr hk))];(repeat' split)<;>first | rfl | omega)
   have bl:¬ (x.op=3):=beq_eq_false_iff_ne.1 ai
   refine rg [0,1] (sv 53 (.bool (x.op==(4:Int))) ?_)
   refine sv 50 (.bool (x.op==(4:Int))) (za0 (a1 _ _ ?_))
   refine wp_cond_split rfl (fun ar=>?_) (fun ar=>?_)
   ·have bS:x.op=4:=beq_iff_eq.1 ar
    refine wp_seq_k (fun cX bV=>rg [0,1] (sv 54 (iT (x.na:Int)) ?_))
    refine sv 55 (.bool ((x.na:Int)==(0:Int))) (za0 (bV _ _ ?_))
    refine wp_cond_split rfl (fun al=>?_) (fun al=>?_)
    ·have hna:(x.na:Int)=0:=beq_iff_eq.1 al
     refine wp_seq_k (fun cJ cj=>rg [0] (sv 4 (iT 3) ?_))
     refine za0 (cj _ _ ?_)
     refine wp_ret ?_
     simp only [Exit.then,Exit.inBlock]
     refine bodyPost_ret (v:=(iT 3)) (za3 rfl rfl) rfl ⟨?_,hB⟩
     exact congrArg (fun z=>Ending.returned (iT z)) (by rw [zi5 (zo5 (by first | exact .inl (by assumption) | exact .inr ⟨hc,ht⟩) (by first | exact .inl (by assumption) | exact .inr hk))];(repeat' split)<;>first | rfl | omega)
    have hna:¬ ((x.na:Int)=0):=beq_eq_false_iff_ne.1 al
    refine wp_skip ?_
    refine aH _ _ ?_
    refine wp_seq_k (fun dQ cz=>rg [0] (sv 4 (iT 0) ?_))
    refine za0 (cz _ _ ?_)
    refine wp_ret ?_
    refine bodyPost_ret (v:=(iT 0)) (za3 rfl rfl) rfl ⟨?_,hB⟩
    exact congrArg (fun z=>Ending.returned (iT z)) (by rw [zi5 (zo5 (by first | exact .inl (by assumption) | exact .inr ⟨hc,ht⟩) (by first | exact .inl (by assumption) | exact .inr hk))];(repeat' split)<;>first | rfl | omega)
   have bS:¬ (x.op=4):=beq_eq_false_iff_ne.1 ar
   refine wp_seq_k (fun dW a6=>wp_seq_k (fun dO bJ=>rg [0,1] (sv 57 (.bool (x.op==(5:Int))) ?_)))
   refine sv 56 (.bool (x.op==(5:Int))) (za0 (bJ _ _ ?_))
   refine wp_cond_split rfl (fun af=>?_) (fun af=>?_)
   ·have bu:x.op=5:=beq_iff_eq.1 af
    refine wp_skip ?_
    refine a6 _ _ ?_
    refine wp_cond_true (show _=Value.bool true by rw [← af];rfl) ?_
    refine wp_seq_k (fun cE bG=>wp_seq_k (fun cC bb=>rg [0,1] (sv 59 (iT (x.na:Int)) ?_)))
    refine sv 60 (.bool ((x.na:Int) !=(1:Int))) (za0 (bb _ _ ?_))
    refine wp_cond_split rfl (fun aq=>?_) (fun aq=>?_)
    ·have hna:¬ ((x.na:Int)=1):=bne_iff_ne.1 aq
     refine wp_seq_k (fun dL bp=>rg [0] (sv 4 (iT 3) ?_))
     refine za0 (bp _ _ ?_)
     refine wp_ret ?_
     simp only [Exit.then,Exit.inBlock]
     refine bodyPost_ret (v:=(iT 3)) (za3 rfl rfl) rfl ⟨?_,hB⟩
     exact congrArg (fun z=>Ending.returned (iT z)) (by rw [zi5 (zo5 (by first | exact .inl (by assumption) | exact .inr ⟨hc,ht⟩) (by first | exact .inl (by assumption) | exact .inr hk))];(repeat' split)<;>first | rfl | omega)
    have hna:(x.na:Int)=1:=by simpa using aq
    refine wp_skip ?_
    refine bG _ _ ?_
    refine wp_seq_k (fun cB cy=>rg [0,1,2] (sv 61 (pT ac 0) ?_))
    refine sw 62 (iT (x.op)) rfl (rk 3 0 aa) ?_
    have a4:(x.op==(2:Int))=false:=(by rw [beq_eq_false_iff_ne];omega)
    refine sw 63 (.bool false) rfl (RunV.bool (x:=(x.op==(2:Int))) (rvk (by kernel_rfl)) a4) ?_
    refine za0 (cy _ _ ?_)
    refine wp_cond_false rfl ?_
    refine wp_skip ?_
    refine aH _ _ ?_
    refine wp_seq_k (fun cS bD=>rg [0] (sv 4 (iT 0) ?_))
    refine za0 (bD _ _ ?_)
    refine wp_ret ?_
    refine bodyPost_ret (v:=(iT 0)) (za3 rfl rfl) rfl ⟨?_,hB⟩
    exact congrArg (fun z=>Ending.returned (iT z)) (by rw [zi5 (zo5 (by first | exact .inl (by assumption) | exact .inr ⟨hc,ht⟩) (by first | exact .inl (by assumption) | exact .inr hk))];(repeat' split)<;>first | rfl | omega)
   have bu:¬ (x.op=5):=beq_eq_false_iff_ne.1 af
   refine rg [0,1] ?_
   have aU:(x.op==(2:Int))=false:=(by rw [beq_eq_false_iff_ne];omega)
   refine sw 58 (.bool false) rfl (RunV.bool (x:=(x.op==(2:Int))) (rvk (by kernel_rfl)) aU) ?_
   refine sv 56 (.bool false) (za0 (a6 _ _ ?_))
   refine wp_cond_false rfl ?_
   refine wp_seq_k (fun cD cA=>rg [0] (sv 4 (iT 12) ?_))
   refine za0 (cA _ _ ?_)
   refine wp_ret ?_
   simp only [Exit.then,Exit.inBlock]
   refine bodyPost_ret (v:=(iT 12)) (za3 rfl rfl) rfl ⟨?_,hB⟩
   exact congrArg (fun z=>Ending.returned (iT z)) (by rw [zi5 (zo5 (by first | exact .inl (by assumption) | exact .inr ⟨hc,ht⟩) (by first | exact .inl (by assumption) | exact .inr hk))];(repeat' split)<;>first | rfl | omega)
  have bK:x.op=2:=by simpa using hb29
  refine swk 28 (.bool false) [(21,29),(22,30),(23,31)] rfl (RunV.bool (x:=(x.op !=(2:Int))) (rvk (by kernel_rfl)) hb29) ?_
  refine sv 32 (.bool false) ?_
  refine sv 33 (.bool false) (za0 (aC _ _ ?_))
  refine wp_cond_false rfl ?_
  refine wp_skip ?_
  refine aV _ _ ?_
  refine wp_seq_k (fun dv bM=>rg [0,1,2,3] (sv 37 (pT ac 4) ?_))
  refine sw 38 (.slice ao x.na cap) rfl (rk 76 4 aa) ?_
  refine sv 39 (iT (x.na:Int)) ?_
  refine sv 5 (iT (x.na:Int)) (za0 (bM _ _ ?_))
  refine wp_seq_k (fun dV dG=>wp_seq_k (fun dE bU=>rg [0,1] (sv 40 (pT ac 0) ?_)))
  refine sw 41 (iT (x.op)) rfl (rk 3 0 aa) ?_
  refine za0 (bU _ _ ?_)
  refine wp_block ?_
  refine wp_seq_k (fun c5 br=>rg [0,1] ?_)
  have aM:(x.op==(0:Int))=false:=(by rw [beq_eq_false_iff_ne];omega)
  refine sw 43 (.bool false) rfl (RunV.bool (x:=(x.op==(0:Int))) (rvk (by kernel_rfl)) aM) ?_
  refine sv 42 (.bool false) (za0 (br _ _ ?_))
  refine wp_cond_false rfl ?_
  refine wp_seq_k (fun dM b8=>wp_seq_k (fun cO b2=>rg [0,1] ?_))
  have a5:(x.op==(1:Int))=false:=(by rw [beq_eq_false_iff_ne];omega)
  refine sw 51 (.bool false) rfl (RunV.bool (x:=(x.op==(1:Int))) (rvk (by kernel_rfl)) a5) ?_
  refine sv 50 (.bool false) (za0 (b2 _ _ ?_))
  refine wp_cond_false rfl ?_
  refine wp_seq_k (fun dk bs=>rg [0,1] ?_)
  have aS:(x.op==(3:Int))=false:=(by rw [beq_eq_false_iff_ne];omega)
  refine sw 52 (.bool false) rfl (RunV.bool (x:=(x.op==(3:Int))) (rvk (by kernel_rfl)) aS) ?_
  refine sv 50 (.bool false) (za0 (bs _ _ ?_))
  refine wp_cond_false rfl ?_
  refine rg [0,1] ?_
  have aJ:(x.op==(4:Int))=false:=(by rw [beq_eq_false_iff_ne];omega)
  refine sw 53 (.bool false) rfl (RunV.bool (x:=(x.op==(4:Int))) (rvk (by kernel_rfl)) aJ) ?_
  refine sv 50 (.bool false) (za0 (b8 _ _ ?_))
  refine wp_cond_false rfl ?_
  refine wp_seq_k (fun de cu=>wp_seq_k (fun cV bI=>rg [0,1] ?_))
  have aZ:(x.op==(5:Int))=false:=(by rw [beq_eq_false_iff_ne];omega)
  refine sw 57 (.bool false) rfl (RunV.bool (x:=(x.op==(5:Int))) (rvk (by kernel_rfl)) aZ) ?_
  refine sv 56 (.bool false) (za0 (bI _ _ ?_))
  refine wp_cond_false rfl ?_
  refine rg [0,1] ?_
  have aE:(x.op==(2:Int))=true:=(by simp;omega)
  refine sw 58 (.bool true) rfl (RunV.bool (x:=(x.op==(2:Int))) (rvk (by kernel_rfl)) aE) ?_
  refine sv 56 (.bool true) (za0 (cu _ _ ?_))
  refine wp_cond_true rfl ?_
  refine wp_seq_k (fun c7 bQ=>wp_seq_k (fun dN bO=>rg [0,1] (sv 59 (iT (x.na:Int)) ?_)))
  refine sv 60 (.bool ((x.na:Int) !=(1:Int))) (za0 (bO _ _ ?_))
  refine wp_cond_split rfl (fun av=>?_) (fun av=>?_)
  ·have hna:¬ ((x.na:Int)=1):=bne_iff_ne.1 av
   refine wp_seq_k (fun c6 b6=>rg [0] (sv 4 (iT 3) ?_))
   refine za0 (b6 _ _ ?_)
   refine wp_ret ?_
   simp only [Exit.then,Exit.inBlock]
   refine bodyPost_ret (v:=(iT 3)) (za3 rfl rfl) rfl ⟨?_,hB⟩
   exact congrArg (fun z=>Ending.returned (iT z)) (by rw [zi5 (zo5 (by first | exact .inl (by assumption) | exact .inr ⟨hc,ht⟩) (by first | exact .inl (by assumption) | exact .inr hk))];(repeat' split)<;>first | rfl | omega)
  have hna:(x.na:Int)=1:=by simpa using av
  refine wp_skip ?_
  refine bQ _ _ ?_
  refine wp_seq_k (fun df bm=>rg [0,1,2] (sv 61 (pT ac 0) ?_))
  refine sw 62 (iT (x.op)) rfl (rk 3 0 aa) ?_
  refine sw 63 (.bool true) rfl (RunV.bool (x:=(x.op==(2:Int))) (rvk (by kernel_rfl)) aE) ?_
  refine za0 (bm _ _ ?_)
  refine wp_cond_true rfl ?_
  refine wp_seq_k (fun dP bT=>rg [0,1,2,3,4,5,6,7,8] (sv 65 (pT ac 3) ?_))
  refine sw 66 (sV x.k) rfl (rk 33 3 aa) ?_
  refine se ?_
  refine ec 67 (zB0 (x.k) (hm.gr hB)) ?_
  rintro cZ dw ⟨⟨az,aB,aD,aF,rfl,aI⟩,a7⟩
  refine ⟨_,rfl,?_⟩
  replace hB:=hB.trans a7
  simp only [p3,p4]
  refine sv 64 (.tuple #[.agg #[az,aB,aD,aF],iT (ck2 (x.k) 400)]) ?_
  refine sv 68 (.agg #[az,aB,aD,aF]) ?_
  refine sv 69 (iT (ck2 (x.k) 400)) ?_
  refine se ?_
  refine ea 62 #[.bool false,sN,.bool false,sN] 6 hB fun cN cY db a8 c4 bF hB=>?_
  replace aa:=aa.gr a7
  simp only [p3,p4]
  refine se ?_
  refine es 62 0 (.agg #[az,aB,aD,aF]) [az,aB,aD,aF] #[az,aB,aD,aF] a8 hB bF ⟨aI.one0,aI.one1,aI.one2,aI.one3,trivial⟩ fun dC bg cg a8 hB=>?_
  refine sv 7 (iT (ck2 (x.k) 400)) (za0 (bT _ _ ?_))
  refine wp_seq_k (fun dr bZ=>rg [0,1] (sv 70 (iT (ck2 (x.k) 400)) ?_))
  refine sv 4 (iT (ck2 (x.k) 400)) (za0 (bZ _ _ ?_))
  refine wp_ret ?_
  simp only [Exit.then,Exit.inBlock]
  refine bodyPost_ret (v:=(iT (ck2 (x.k) 400))) (za3 rfl rfl) rfl ⟨?_,hB⟩
  exact congrArg (fun z=>Ending.returned (iT z)) (by rw [zi5 (zo5 (by first | exact .inl (by assumption) | exact .inr ⟨hc,ht⟩) (by first | exact .inl (by assumption) | exact .inr hk))];(repeat' split)<;>first | rfl | omega)
 have aA:x.op=0:=by simpa using hb14
 refine swk 11 (.bool false) [(4,12),(5,13),(6,14),(7,15),(8,16),(9,17),(10,18),(11,19),(12,20),(13,21),(14,22)] rfl (RunV.bool (x:=(x.op !=(0:Int))) (rvk (by kernel_rfl)) hb14) ?_
 refine sv 23 (.bool false) ?_
 refine sv 24 (.bool false) ?_
 refine sv 25 (pT ac 0) ?_
 refine sw 26 (iT (x.op)) rfl (rk 3 0 aa) ?_
 have aP:(x.op !=(2:Int))=true:=(by simp;omega)
 refine sw 27 (.bool true) rfl (RunV.bool (x:=(x.op !=(2:Int))) (rvk (by kernel_rfl)) aP) ?_
 refine sv 28 (.bool true) ?_
 refine sv 29 (pT ac 3) ?_
 refine sw 30 (sV x.k) rfl (rk 33 3 aa) ?_
 refine sw 31 (.bool ((x.k) !=([]:List UInt8))) rfl (zP0 33 33 _ _ (x.k) ([]) rfl rfl rfl) ?_
 refine sv 32 (.bool ((x.k) !=([]:List UInt8))) ?_
 refine sv 33 (.bool ((x.k) !=([]:List UInt8))) (za0 (aC _ _ ?_))
 refine wp_cond_split rfl (fun ax=>?_) (fun ax=>?_)
 ·have hk:¬ (x.k=[]):=bne_iff_ne.1 ax
  refine wp_seq_k (fun dc b1=>wp_seq_k (fun bX aN=>rg [0,1,2] (sv 34 (pT ac 0) ?_)))
  refine sw 35 (iT (x.op)) rfl (rk 3 0 aa) ?_
  refine se ?_
  refine ec 36 (zu0 (z:=x.op)) ?_
  rintro cb bP ⟨rfl,a2⟩
  refine ⟨_,rfl,?_⟩
  replace hB:=hB.trans a2
  simp only [p3,p4]
  refine za0 (aN _ _ ?_)
  refine wp_cond_split rfl (fun ad=>?_) (fun ad=>?_)
  ·have h5:0≤x.op∧x.op≤5:=of_decide_eq_true ad
   refine wp_seq_k (fun bv aW=>rg [0] (sv 4 (iT 3) ?_))
   refine za0 (aW _ _ ?_)
   refine wp_ret ?_
   simp only [Exit.then]
   refine bodyPost_ret (v:=(iT 3)) (za3 rfl rfl) rfl ⟨?_,hB⟩
   exact congrArg (fun z=>Ending.returned (iT z)) (nde_3 (odd_c (by omega) hk) h5)
  have h5:¬ (0≤x.op∧x.op≤5):=of_decide_eq_false ad
  refine wp_skip ?_
  refine b1 _ _ ?_
  refine wp_seq_k (fun bh aT=>rg [0] (sv 4 (iT 12) ?_))
  refine za0 (aT _ _ ?_)
  refine wp_ret ?_
  simp only [Exit.then]
  refine bodyPost_ret (v:=(iT 12)) (za3 rfl rfl) rfl ⟨?_,hB⟩
  exact congrArg (fun z=>Ending.returned (iT z)) (zM4 (odd_c (by omega) hk) h5)
 have hk:x.k=[]:=by simpa using ax
 refine wp_skip ?_
 refine aV _ _ ?_
 refine wp_seq_k (fun cc aX=>rg [0,1,2,3] (sv 37 (pT ac 4) ?_))
 refine sw 38 (.slice ao x.na cap) rfl (rk 76 4 aa) ?_
 refine sv 39 (iT (x.na:Int)) ?_
 refine sv 5 (iT (x.na:Int)) (za0 (aX _ _ ?_))
 refine wp_seq_k (fun bW cd=>wp_seq_k (fun ba aO=>rg [0,1] (sv 40 (pT ac 0) ?_)))
 refine sw 41 (iT (x.op)) rfl (rk 3 0 aa) ?_
 refine za0 (aO _ _ ?_)
 refine wp_block ?_
 refine wp_seq_k (fun cw a0=>rg [0,1] ?_)
 have aG:(x.op==(0:Int))=true:=(by simp;omega)
 refine sw 43 (.bool true) rfl (RunV.bool (x:=(x.op==(0:Int))) (rvk (by kernel_rfl)) aG) ?_
 refine sv 42 (.bool true) (za0 (a0 _ _ ?_))
 refine wp_cond_true rfl ?_
 refine wp_seq_k (fun bA aQ=>wp_seq_k (fun cq aK=>rg [0,1] (sv 44 (iT (x.na:Int)) ?_)))
 refine sv 45 (.bool (decide ((0:Int)<(x.na:Int)))) (za0 (aK _ _ ?_))
 refine wp_cond_split rfl (fun ae=>?_) (fun ae=>?_)
 ·have hna:(0:Int)<(x.na:Int):=of_decide_eq_true ae
  refine wp_seq_k (fun bC aR=>rg [0] (sv 4 (iT 3) ?_))
  refine za0 (aR _ _ ?_)
  refine wp_ret ?_
  simp only [Exit.then,Exit.inBlock]
  refine bodyPost_ret (v:=(iT 3)) (za3 rfl rfl) rfl ⟨?_,hB⟩
  exact congrArg (fun z=>Ending.returned (iT z)) (by rw [zi5 (zo5 (by first | exact .inl (by assumption) | exact .inr ⟨hc,ht⟩) (by first | exact .inl (by assumption) | exact .inr hk))];(repeat' split)<;>first | rfl | omega)
 have hna:¬ ((0:Int)<(x.na:Int)):=of_decide_eq_false ae
 refine wp_skip ?_
 refine aQ _ _ ?_
 refine wp_seq_k (fun cp aY=>rg [0,1,2,3,4] (sv 46 (pT ac 1) ?_))
 refine sw 47 (.agg #[sV x.c,u]) rfl (rl 75 1 [sV x.c,u] aa) ?_
 refine sv 48 (iT (n:Int)) ?_
 refine se ?_
 refine ec 49 (zQ4 (c:=x.c) (tm:=x.tm) hn (hm.gr hB) (hu.gr zv8 hB)) ?_
 rintro bn bi ⟨rfl,a3⟩
 refine ⟨_,rfl,?_⟩
 replace hB:=hB.trans a3
 simp only [p3,p4]
 refine sv 4 (iT (zH8 n x.c x.tn x.tm)) (za0 (aY _ _ ?_))
 refine wp_ret ?_
 simp only [Exit.then,Exit.inBlock]
 refine bodyPost_ret (v:=(iT (zH8 n x.c x.tn x.tm))) (za3 rfl rfl) rfl ⟨?_,hB⟩
 exact congrArg (fun z=>Ending.returned (iT z)) (by rw [zi5 (zo5 (by first | exact .inl (by assumption) | exact .inr ⟨hc,ht⟩) (by first | exact .inl (by assumption) | exact .inr hk))];(repeat' split)<;>first | rfl | omega)

end Go.Proofs.YtjhflekncldflaaGreatDoor
namespace Go.Proofs.YtjhflekncldflaaGreatDoor
set_option maxRecDepth 100000
set_option maxHeartbeats 4000000
open Go.RowKit

theorem zM6 {X:List UInt8} (h:isNm X=true):X.length≤40:=by
 unfold isNm at h
 simp only [Bool.and_eq_true,decide_eq_true_eq] at h
 exact h.2.1
noncomputable def rq1 (n:Nat) (r:Rqg) (d:Bool):Int:=
 if isNm r.nm=false then 11 else if d=true then 9
 else if exe n r.x r.ag≠0 then exe n r.x r.ag else if r.x.op≠0 then 12
 else if r.lo≠[]∧ck2 r.lo 400≠0 then ck2 r.lo 400 else if r.hi≠[]∧ck2 r.hi 400≠0 then ck2 r.hi 400
 else if r.lo≠[]∧r.hi≠[]∧zg1 r.hi<zg1 r.lo then 8 else 0
theorem rqe_eq (n:Nat) (rq:Nat→Rqg) (i:Nat):rqe n rq i=rq1 n (rq i) (zg4 (fun j=>(rq j).nm) i (rq i).nm):=rfl
section
variable {N:Nat} {r:Rqg} {d:Bool}
theorem rq_11 (h:isNm r.nm=false):11=rq1 N r d:=by unfold rq1;rw [if_pos h]
theorem rq_9 (h:isNm r.nm=true) (hd:d=true):9=rq1 N r d:=by unfold rq1;rw [if_neg (by rw [h];decide),if_pos hd]
theorem rq_x (h:isNm r.nm=true) (hd:d=false) (hx:¬ exe N r.x r.ag=0):exe N r.x r.ag=rq1 N r d:=by unfold rq1;rw [if_neg (by rw [h];decide),if_neg (by rw [hd];decide),if_pos hx]
theorem zV8 (h:isNm r.nm=true) (hd:d=false) (hx:exe N r.x r.ag=0):rq1 N r d=if r.x.op≠0 then 12
 else if r.lo≠[]∧ck2 r.lo 400≠0 then ck2 r.lo 400 else if r.hi≠[]∧ck2 r.hi 400≠0 then ck2 r.hi 400
 else if r.lo≠[]∧r.hi≠[]∧zg1 r.hi<zg1 r.lo then 8 else 0:=by unfold rq1;rw [if_neg (by rw [h];decide),if_neg (by rw [hd];decide),if_neg (fun e=>e hx)]
theorem rq_12 (h:isNm r.nm=true) (hd:d=false) (hx:exe N r.x r.ag=0) (ho:¬ r.x.op=0):12=rq1 N r d:=by rw [zV8 h hd hx,if_pos ho]
theorem rq_lo (h:isNm r.nm=true) (hd:d=false) (hx:exe N r.x r.ag=0) (ho:r.x.op=0) (h1:¬ r.lo=[]) (hc:¬ ck2 r.lo 400=0):ck2 r.lo 400=rq1 N r d:=by
 rw [zV8 h hd hx,if_neg (fun e=>e ho),if_pos ⟨h1,hc⟩]
theorem rq_hi (h:isNm r.nm=true) (hd:d=false) (hx:exe N r.x r.ag=0) (ho:r.x.op=0) (h1:r.lo=[]∨ck2 r.lo 400=0) (h2:¬ r.hi=[]) (hc:¬ ck2 r.hi 400=0):ck2 r.hi 400=rq1 N r d:=by
 rw [zV8 h hd hx,if_neg (fun e=>e ho),if_neg (fun e=>h1.elim e.1 e.2),if_pos ⟨h2,hc⟩]
theorem rq_8 (h:isNm r.nm=true) (hd:d=false) (hx:exe N r.x r.ag=0) (ho:r.x.op=0) (h1:¬ r.lo=[]) (hc1:ck2 r.lo 400=0) (h2:¬ r.hi=[]) (hc2:ck2 r.hi 400=0) (hcm:zg1 r.hi<zg1 r.lo):8=rq1 N r d:=by
 rw [zV8 h hd hx,if_neg (fun e=>e ho),if_neg (fun e=>e.2 hc1),if_neg (fun e=>e.2 hc2),if_pos ⟨h1,h2,hcm⟩]
theorem rq_0 (h:isNm r.nm=true) (hd:d=false) (hx:exe N r.x r.ag=0) (ho:r.x.op=0) (h1:r.lo=[]∨ck2 r.lo 400=0) (h2:r.hi=[]∨ck2 r.hi 400=0) (hcm:r.lo=[]∨r.hi=[]∨¬ zg1 r.hi<zg1 r.lo):0=rq1 N r d:=by
 rw [zV8 h hd hx,if_neg (fun e=>e ho),if_neg (fun e=>h1.elim e.1 e.2),if_neg (fun e=>h2.elim e.1 e.2),if_neg (fun e=>hcm.elim e.1 fun e2=>e2.elim e.2.1 fun e3=>e3 e.2.2)]
end
theorem al_req {N:Nat} {r:Rqg} {d0 mb:Nat} {nm:Nat→List UInt8} {u va:Value} (_o1:u.oneCell'=true) (_o2:va.oneCell'=true) (dN:r.lo.length≤14000) (b5:r.hi.length≤14000) {w:World} (hm:Mx w) (hmp:NmS w mb d0 nm) (hce:∀ w1,Gr w w1→Calls Tryz.prog 74 #[.agg #[iT r.x.op,.string ⟨r.x.c.toArray⟩,u,.string ⟨r.x.k.toArray⟩,va],iT (N:Int)] w1 fun e w'=>e=.returned (iT (exe N r.x r.ag))∧Gr w1 w'):
    Calls Tryz.prog 45 #[.agg #[sV r.nm,iT (r.x.op),sV r.x.c,u,sV r.x.k,va,sV r.lo,sV r.hi],iT (N:Int),.map (some mb)] w fun e w'=>e=.returned (iT (rq1 N r (zg4 nm d0 r.nm)))∧Gr w w':=by
 go_enter Tryz.func45,Tryz.ntmps45
 have hB:=Gr.refl w
 refine wp_seq_k (fun fd cZ=>rg [0,1] ?_)
 refine se ?_
 refine eb 80 #[sV r.nm,iT (r.x.op),sV r.x.c,u,sV r.x.k,va,sV r.lo,sV r.hi] 3 hB fun a0 eu eB aF eX eI hB=>?_
 simp only [p3,p4]
 refine sv 6 (iT 0) (za0 (cZ _ _ ?_))
 refine wp_seq_k (fun ep df=>wp_seq_k (fun eV cz=>rg [0,1,2,3] (sv 13 (pT a0 0) ?_)))
 refine sw 14 (sV r.nm) rfl (rk 9 0 aF) ?_
 refine se ?_
 refine ec 15 (zV6 (X:=r.nm)) ?_
 rintro eR fb ⟨rfl,cg⟩
 refine ⟨_,rfl,?_⟩
 replace hB:=hB.trans cg
 simp only [p3,p4]
 refine sv 16 (.bool (!(isNm (r.nm)))) (za0 (cz _ _ ?_))
 refine wp_cond_split rfl (fun aZ=>?_) (fun aZ=>?_)
 ·have hnm:isNm r.nm=false:=by simpa using aZ
  refine wp_seq_k (fun d9 cl=>rg [0] (sv 6 (iT 11) ?_))
  refine za0 (cl _ _ ?_)
  refine wp_ret ?_
  simp only [Exit.then]
  refine bodyPost_ret (v:=(iT 11)) (za3 rfl rfl) rfl ⟨?_,hB⟩
  exact congrArg (fun z=>Ending.returned (iT z)) (rq_11 hnm)
 have hnm:isNm r.nm=true:=by simpa using aZ
 have hnl:=zM6 hnm
 refine wp_skip ?_
 refine df _ _ ?_
 refine wp_seq_k (fun e8 dz=>wp_seq_k (fun ey cx=>rg [0,1,2,3] (sv 17 (.map (some mb)) ?_)))
 refine sv 18 (pT a0 0) ?_
 replace aF:=aF.gr cg
 refine sw 19 (sV r.nm) rfl (rk 9 0 aF) ?_
 refine sw 20 (.bool (zg4 nm d0 (r.nm))) rfl (rv_look (hmp.gr hB) _ _ (r.nm) rfl rfl rfl (by omega)) ?_
 refine za0 (cx _ _ ?_)
 refine wp_cond_split rfl (fun aX=>?_) (fun aX=>?_)
 ·have hd:zg4 nm d0 r.nm=true:=aX
  refine wp_seq_k (fun eC cQ=>rg [0] (sv 6 (iT 9) ?_))
  refine za0 (cQ _ _ ?_)
  refine wp_ret ?_
  simp only [Exit.then]
  refine bodyPost_ret (v:=(iT 9)) (za3 rfl rfl) rfl ⟨?_,hB⟩
  exact congrArg (fun z=>Ending.returned (iT z)) (rq_9 hnm hd)
 have hd:zg4 nm d0 r.nm=false:=aX
 refine wp_skip ?_
 refine dz _ _ ?_
 refine wp_seq_k (fun d7 cW=>wp_seq_k (fun dY dS=>rg [0,1,2,3,4] (sv 21 (pT a0 1) ?_)))
 refine sw 22 (.agg #[iT (r.x.op),sV r.x.c,u,sV r.x.k,va]) rfl (rl 78 1 [iT (r.x.op),sV r.x.c,u,sV r.x.k,va] aF) ?_
 refine sv 23 (iT (N:Int)) ?_
 refine se ?_
 refine ec 24 (hce _ hB) ?_
 rintro dV cf ⟨rfl,cj⟩
 refine ⟨_,rfl,?_⟩
 replace hB:=hB.trans cj
 simp only [p3,p4]
 refine sv 7 (iT (exe N r.x r.ag)) (za0 (dS _ _ ?_))
 refine wp_seq_k (fun fj dL=>rg [0,1] (sv 25 (iT (exe N r.x r.ag)) ?_))
 refine sv 26 (.bool (exe N r.x r.ag !=(0:Int))) (za0 (dL _ _ ?_))
 refine wp_cond_split rfl (fun a5=>?_) (fun a5=>?_)
 ·have hx:¬ (exe N r.x r.ag=0):=bne_iff_ne.1 a5
  refine wp_seq_k (fun et cp=>rg [0,1] (sv 27 (iT (exe N r.x r.ag)) ?_))
  refine sv 6 (iT (exe N r.x r.ag)) (za0 (cp _ _ ?_))
  refine wp_ret ?_
  simp only [Exit.then]
  refine bodyPost_ret (v:=(iT (exe N r.x r.ag))) (za3 rfl rfl) rfl ⟨?_,hB⟩
  exact congrArg (fun z=>Ending.returned (iT z)) (rq_x hnm hd hx)
 have hx:exe N r.x r.ag=0:=by simpa using a5
 refine wp_skip ?_
 refine cW _ _ ?_
 refine wp_seq_k (fun fk de=>wp_seq_k (fun ee dQ=>rg [0,1,2,3] (sv 28 (pT a0 1) ?_)))
 refine sv 29 (pT a0 1) ?_
 replace aF:=aF.gr cj
 refine sw 30 (iT (r.x.op)) rfl (rk 3 1 aF) ?_
 refine sv 31 (.bool (r.x.op !=(0:Int))) (za0 (dQ _ _ ?_))
 refine wp_cond_split rfl (fun a3=>?_) (fun a3=>?_)
 ·have ho:¬ (r.x.op=0):=bne_iff_ne.1 a3
  refine wp_seq_k (fun ek dP=>rg [0] (sv 6 (iT 12) ?_))
  refine za0 (dP _ _ ?_)
  refine wp_ret ?_
  simp only [Exit.then]
  refine bodyPost_ret (v:=(iT 12)) (za3 rfl rfl) rfl ⟨?_,hB⟩
  exact congrArg (fun z=>Ending.returned (iT z)) (rq_12 hnm hd hx ho)
 have ho:r.x.op=0:=by simpa using a3
 refine wp_skip ?_
 refine de _ _ ?_
 refine wp_seq_k (fun eK dR=>rg [0] (sv 8 (sN) ?_))
 refine za0 (dR _ _ ?_)
 refine wp_seq_k (fun dX bq=>wp_seq_k (fun fp dM=>?_))
 have aa:=Ow.nil (ERat 1600) 62 4 cf w.heap.size
 refine rg [0,1,2,3,4,5] (sv 32 (pT a0 6) ?_)
 refine sw 33 (sV r.lo) rfl (rk 33 6 aF) ?_
 refine sv 34 (pT a0 7) ?_
 refine sw 35 (sV r.hi) rfl (rk 33 7 aF) ?_
 refine sv 36 (.agg #[sV r.lo,sV r.hi]) ?_
 refine sv 37 (iT 0) (za0 (dM _ _ ?_))
 refine wp_block ?_
 refine wp_loop_rounds 3 ?_
 show Code.wp _ _ _ _ _
 refine wp_seq_k (fun e7 db=>rg [0] (sv 38 (.bool true) ?_))
 refine za0 (db _ _ ?_)
 refine wp_seq_k (fun fl cE=>?_)
 refine wp_cond_true rfl ?_
 refine wp_skip ?_
 refine cE _ _ ?_
 refine wp_seq_k (fun fh b4=>?_)
 refine wp_block ?_
 refine wp_seq_k (fun ej cL=>rg [0,1] (sv 39 (sV r.lo) ?_))
 refine sv 10 (sV r.lo) (za0 (cL _ _ ?_))
 refine wp_seq_k (fun eg dD=>wp_seq_k (fun eY c9=>rg [0,1] (sv 40 (sV r.lo) ?_)))
 refine sw 41 (.bool ((r.lo)==([]:List UInt8))) rfl (zi9 33 33 _ _ (r.lo) ([]) rfl rfl rfl) ?_
 refine za0 (c9 _ _ ?_)
 refine wp_cond_split rfl (fun a2=>?_) (fun a2=>?_)
 ·have h1:r.lo=[]:=beq_iff_eq.1 a2
  refine wp_exit ?_
  simp only [Exit.then,Exit.inBlock,↓reduceIte]
  refine b4 _ _ ?_
  refine rg [0,1] (sv 54 (iT 1) ?_)
  refine sv 37 (iT 1) ?_
  refine za0 ?_
  show Code.rounds _ _ _ _ _ _
  show Code.wp _ _ _ _ _
  refine wp_seq_k (fun fo dk=>rg [0] (sv 38 (.bool true) ?_))
  refine za0 (dk _ _ ?_)
  refine wp_seq_k (fun eH dd=>?_)
  refine wp_cond_true rfl ?_
  refine wp_skip ?_
  refine dd _ _ ?_
  refine wp_seq_k (fun el cb=>?_)
  refine wp_block ?_
  refine wp_seq_k (fun eN dx=>rg [0,1] (sv 39 (sV r.hi) ?_))
  refine sv 10 (sV r.hi) (za0 (dx _ _ ?_))
  refine wp_seq_k (fun eU cq=>wp_seq_k (fun e6 cJ=>rg [0,1] (sv 40 (sV r.hi) ?_)))
  refine sw 41 (.bool ((r.hi)==([]:List UInt8))) rfl (zi9 33 33 _ _ (r.hi) ([]) rfl rfl rfl) ?_
  refine za0 (cJ _ _ ?_)
  refine wp_cond_split rfl (fun a1=>?_) (fun a1=>?_)
  ·have h2:r.hi=[]:=beq_iff_eq.1 a1
   refine wp_exit ?_
   simp only [Exit.then,Exit.inBlock,↓reduceIte]
   refine cb _ _ ?_
   refine rg [0,1] (sv 54 (iT 2) ?_)
   refine sv 37 (iT 2) ?_
   refine za0 ?_
   show Code.rounds _ _ _ _ _ _
   show Code.wp _ _ _ _ _
   refine wp_seq_k (fun ef cM=>rg [0] (sv 38 (.bool false) ?_))
   refine za0 (cM _ _ ?_)
   refine wp_seq_k (fun dZ eF=>?_)
   refine wp_cond_false rfl ?_
   refine wp_exit ?_
   simp only [Exit.then,Exit.inBlock,↓reduceIte]
   refine bq _ _ ?_
   refine wp_seq_k (fun eh c4=>wp_seq_k (fun ez dH=>?_))
   have bG:=Gr.drew cf
   replace hB:=hB.trans bG
   refine za4 (fun _=>True) [(true,0),(true,1),(true,2),(true,3),(true,4),(true,5),(true,6),(true,7),(true,8),(true,9),(false,10),(true,11),(true,12)] (by kernel_rfl) (by kernel_rfl) (by kernel_rfl) (by decide) (fun _ _ _ _ _ h=>h) trivial ?_
   refine ov 55 (sN) ?_
   refine ov 56 (iT 0) ?_
   refine ov 57 (.bool false) ?_
   refine ov 58 (.bool false) ?_
   refine Go.Proofs.YtjhflekncldflaaGreatDoor.os 59 ?_
   refine Go.Proofs.YtjhflekncldflaaGreatDoor.os 60 ?_
   refine Go.Proofs.YtjhflekncldflaaGreatDoor.os 61 ?_
   refine Go.Proofs.YtjhflekncldflaaGreatDoor.os 62 ?_
   refine Go.Proofs.YtjhflekncldflaaGreatDoor.os 63 ?_
   refine Go.Proofs.YtjhflekncldflaaGreatDoor.os 64 ?_
   refine oz 65 trivial ?_
   refine Go.Proofs.YtjhflekncldflaaGreatDoor.os 66 ?_
   refine ov 67 (.bool false) ?_
   refine zb4 ?_
   refine dH _ _ ?_
   refine wp_cond_false rfl ?_
   refine wp_skip ?_
   refine c4 _ _ ?_
   refine wp_seq_k (fun ed dc=>rg [0] (sv 6 (iT 0) ?_))
   refine za0 (dc _ _ ?_)
   refine wp_ret ?_
   refine bodyPost_ret (v:=(iT 0)) (za3 rfl rfl) rfl ⟨?_,hB⟩
   exact congrArg (fun z=>Ending.returned (iT z)) (rq_0 hnm hd hx ho (by first | exact .inl h1 | exact .inr aJ) (by first | exact .inl h2 | exact .inr aG) (by first | exact .inl h1 | exact .inr (.inl h2) | exact .inr (.inr hcm)))
  have h2:¬ (r.hi=[]):=beq_eq_false_iff_ne.1 a1
  refine wp_skip ?_
  refine cq _ _ ?_
  refine wp_seq_k (fun er dI=>rg [0,1,2,3,4,5,6,7] (sv 43 (sV r.hi) ?_))
  refine se ?_
  refine ec 44 (zq1 (r.hi) b5 (hm.gr hB)) ?_
  rintro ei eW ⟨⟨aO,aQ,aR,aM,rfl,aC⟩,b1⟩
  refine ⟨_,rfl,?_⟩
  replace hB:=hB.trans b1
  simp only [p3,p4]
  refine sv 42 (.tuple #[.agg #[aO,aQ,aR,aM],iT (ck2 (r.hi) 400)]) ?_
  refine sv 45 (.agg #[aO,aQ,aR,aM]) ?_
  refine sv 46 (iT (ck2 (r.hi) 400)) ?_
  refine se ?_
  refine ea 62 #[.bool false,sN,.bool false,sN] 11 hB fun d5 fi b8 bv cd cm hB=>?_
  replace aa:=aa.gr (za5 1600) b1
  have a7:=aa.ne cd
  have bO:=cd
  simp only [p3,p4]
  refine se ?_
  refine es 62 0 (.agg #[aO,aQ,aR,aM]) [aO,aQ,aR,aM] #[aO,aQ,aR,aM] bv hB cm ⟨aC.one0,aC.one1,aC.one2,aC.one3,trivial⟩ fun eA bK bY bv hB=>?_
  refine sv 12 (iT (ck2 (r.hi) 400)) (za0 (dI _ _ ?_))
  refine wp_seq_k (fun e9 dA=>wp_seq_k (fun eE ct=>rg [0,1] (sv 47 (iT (ck2 (r.hi) 400)) ?_)))
  refine sv 48 (.bool (ck2 (r.hi) 400 !=(0:Int))) (za0 (ct _ _ ?_))
  refine wp_cond_split rfl (fun aS=>?_) (fun aS=>?_)
  ·have aG:¬ (ck2 r.hi 400=0):=bne_iff_ne.1 aS
   refine wp_seq_k (fun dW dC=>rg [0,1] (sv 49 (iT (ck2 (r.hi) 400)) ?_))
   refine sv 6 (iT (ck2 (r.hi) 400)) (za0 (dC _ _ ?_))
   refine wp_ret ?_
   simp only [Exit.then,Exit.inBlock]
   refine bodyPost_ret (v:=(iT (ck2 (r.hi) 400))) (za3 rfl rfl) rfl ⟨?_,hB⟩
   exact congrArg (fun z=>Ending.returned (iT z)) (rq_hi hnm hd hx ho (by first | exact .inl h1 | exact .inr aJ) h2 aG)
  have aG:ck2 r.hi 400=0:=by simpa using aS
  refine wp_skip ?_
  refine dA _ _ ?_
  refine rg [0,1,2,3,4] (sv 50 (sN) ?_)
  refine sw 51 (.agg #[aO,aQ,aR,aM]) rfl (rl 62 0 [aO,aQ,aR,aM] bv) ?_
  refine se ?_
  refine zc5 62 1 #[aO,aQ,aR,aM] (some 52) rfl (fun _=>by kernel_rfl) (fun dF eP b0 cy cU=>?_)
  replace aa:=aa.gr (za5 1600) (bK.gr b8 bO)
  have a8:=aa.ne cU
  replace hB:=hB.trans b0
  simp only [zd1,p3,p4]
  refine se ?_
  have bM:=b8.kp.trans (bY.trans b0.kp)
  replace aC:=aC.kp bM
  replace aa:=aa.gr (za5 1600) b0
  refine zK2 (za5 1600) _ _ 146 62 w.heap.size (.agg #[.bool false,sN,.bool false,sN]) (sN) ([]:List Rat) dF [aO,aQ,aR,aM] (zg1 (r.hi)) 4 1 (some 53) 64 rfl rfl rfl rfl aa cy ⟨aC.one0,aC.one1,aC.one2,aC.one3,trivial⟩ rfl ⟨_,_,_,_,rfl,aC.mono (by omega)⟩ w hB (Nat.le_refl _) (Below.size hB) (by simp) (by decide) (by kernel_rfl) (by kernel_rfl) (by decide) (by decide) (fun b2 cA bu cr bt=>?_)
  replace hB:=bt
  simp only [zd1,p3,p4]
  refine sv 8 b2 (za0 (cb _ _ ?_))
  refine rg [0,1] (sv 54 (iT 2) ?_)
  refine sv 37 (iT 2) ?_
  refine za0 ?_
  show Code.rounds _ _ _ _ _ _
  show Code.wp _ _ _ _ _
  refine wp_seq_k (fun fa cI=>rg [0] (sv 38 (.bool false) ?_))
  refine za0 (cI _ _ ?_)
  refine wp_seq_k (fun e2 dU=>?_)
  refine wp_cond_false rfl ?_
  refine wp_exit ?_
  simp only [Exit.then,Exit.inBlock,↓reduceIte]
  refine bq _ _ ?_
  refine wp_seq_k (fun eJ c8=>wp_seq_k (fun e1 cR=>?_))
  have bF:=Gr.drew cA
  replace hB:=hB.trans bF
  refine za4 (fun _=>True) [(true,0),(true,1),(true,2),(true,3),(true,4),(true,5),(true,6),(true,7),(true,8),(true,9),(false,10),(true,11),(true,12)] (by kernel_rfl) (by kernel_rfl) (by kernel_rfl) (by decide) (fun _ _ _ _ _ h=>h) trivial ?_
  refine ov 55 b2 ?_
  refine ow 56 (iT ((([]:List Rat)++[zg1 (r.hi)]).length:Int)) rfl (fun w' hS=>(zz8 (e:=62) bu.sl _ _ rfl rfl (by kernel_rfl))) ?_
  have bD:(((([]:List Rat)++[zg1 (r.hi)]).length:Int)==(2:Int))=false:=(by simp)
  refine ow 57 (.bool false) rfl (fun w' hS=>(RunV.bool (x:=(((([]:List Rat)++[zg1 (r.hi)]).length:Int)==(2:Int))) (rvk (by kernel_rfl)) bD)) ?_
  refine ov 58 (.bool false) ?_
  refine Go.Proofs.YtjhflekncldflaaGreatDoor.os 59 ?_
  refine Go.Proofs.YtjhflekncldflaaGreatDoor.os 60 ?_
  refine Go.Proofs.YtjhflekncldflaaGreatDoor.os 61 ?_
  refine Go.Proofs.YtjhflekncldflaaGreatDoor.os 62 ?_
  refine Go.Proofs.YtjhflekncldflaaGreatDoor.os 63 ?_
  refine Go.Proofs.YtjhflekncldflaaGreatDoor.os 64 ?_
  refine oz 65 trivial ?_
  refine Go.Proofs.YtjhflekncldflaaGreatDoor.os 66 ?_
  refine ov 67 (.bool false) ?_
  refine zb4 ?_
  refine cR _ _ ?_
  refine wp_cond_false rfl ?_
  refine wp_skip ?_
  refine c8 _ _ ?_
  refine wp_seq_k (fun eL cN=>rg [0] (sv 6 (iT 0) ?_))
  refine za0 (cN _ _ ?_)
  refine wp_ret ?_
  refine bodyPost_ret (v:=(iT 0)) (za3 rfl rfl) rfl ⟨?_,hB⟩
  exact congrArg (fun z=>Ending.returned (iT z)) (rq_0 hnm hd hx ho (by first | exact .inl h1 | exact .inr aJ) (by first | exact .inl h2 | exact .inr aG) (by first | exact .inl h1 | exact .inr (.inl h2) | exact .inr (.inr hcm)))
 have h1:¬ (r.lo=[]):=beq_eq_false_iff_ne.1 a2
 refine wp_skip ?_
 refine dD _ _ ?_
 refine wp_seq_k (fun eO di=>rg [0,1,2,3,4,5,6,7] (sv 43 (sV r.lo) ?_))
 refine se ?_
 refine ec 44 (zq1 (r.lo) dN (hm.gr hB)) ?_
 rintro fg en ⟨⟨aL,aH,aK,aP,rfl,aE⟩,b3⟩
 refine ⟨_,rfl,?_⟩
 replace hB:=hB.trans b3
 simp only [p3,p4]
 refine sv 42 (.tuple #[.agg #[aL,aH,aK,aP],iT (ck2 (r.lo) 400)]) ?_
 refine sv 45 (.agg #[aL,aH,aK,aP]) ?_
 refine sv 46 (iT (ck2 (r.lo) 400)) ?_
 refine se ?_
 refine ea 62 #[.bool false,sN,.bool false,sN] 11 hB fun eG e5 cc bQ b9 dG hB=>?_
 replace aa:=aa.gr (za5 1600) b3
 have ba:=aa.ne b9
 have bR:=b9
 simp only [p3,p4]
 refine se ?_
 refine es 62 0 (.agg #[aL,aH,aK,aP]) [aL,aH,aK,aP] #[aL,aH,aK,aP] bQ hB dG ⟨aE.one0,aE.one1,aE.one2,aE.one3,trivial⟩ fun em bU bT bQ hB=>?_
 refine sv 12 (iT (ck2 (r.lo) 400)) (za0 (di _ _ ?_))
 refine wp_seq_k (fun ew dw=>wp_seq_k (fun eT dJ=>rg [0,1] (sv 47 (iT (ck2 (r.lo) 400)) ?_)))
 refine sv 48 (.bool (ck2 (r.lo) 400 !=(0:Int))) (za0 (dJ _ _ ?_))
 refine wp_cond_split rfl (fun aY=>?_) (fun aY=>?_)
 ·have aJ:¬ (ck2 r.lo 400=0):=bne_iff_ne.1 aY
  refine wp_seq_k (fun ev cG=>rg [0,1] (sv 49 (iT (ck2 (r.lo) 400)) ?_))
  refine sv 6 (iT (ck2 (r.lo) 400)) (za0 (cG _ _ ?_))
  refine wp_ret ?_
  simp only [Exit.then,Exit.inBlock]
  refine bodyPost_ret (v:=(iT (ck2 (r.lo) 400))) (za3 rfl rfl) rfl ⟨?_,hB⟩
  exact congrArg (fun z=>Ending.returned (iT z)) (rq_lo hnm hd hx ho h1 aJ)
 have aJ:ck2 r.lo 400=0:=by simpa using aY
 refine wp_skip ?_
 refine dw _ _ ?_
 refine rg [0,1,2,3,4] (sv 50 (sN) ?_)
 refine sw 51 (.agg #[aL,aH,aK,aP]) rfl (rl 62 0 [aL,aH,aK,aP] bQ) ?_
 refine se ?_
 refine zc5 62 1 #[aL,aH,aK,aP] (some 52) rfl (fun _=>by kernel_rfl) (fun dt eS bE cX dq=>?_)
 replace aa:=aa.gr (za5 1600) (bU.gr cc bR)
 have a9:=aa.ne dq
 replace hB:=hB.trans bE
 simp only [zd1,p3,p4]
 refine se ?_
 have br:=cc.kp.trans (bT.trans bE.kp)
 replace aE:=aE.kp br
 replace aa:=aa.gr (za5 1600) bE
 refine zK2 (za5 1600) _ _ 146 62 w.heap.size (.agg #[.bool false,sN,.bool false,sN]) (sN) ([]:List Rat) dt [aL,aH,aK,aP] (zg1 (r.lo)) 4 1 (some 53) 64 rfl rfl rfl rfl aa cX ⟨aE.one0,aE.one1,aE.one2,aE.one3,trivial⟩ rfl ⟨_,_,_,_,rfl,aE.mono (by omega)⟩ w hB (Nat.le_refl _) (Below.size hB) (by simp) (by decide) (by kernel_rfl) (by kernel_rfl) (by decide) (by decide) (fun bp dE ad dp bX=>?_)
 replace hB:=bX
 simp only [zd1,p3,p4]
 refine sv 8 bp (za0 (b4 _ _ ?_))
 refine rg [0,1] (sv 54 (iT 1) ?_)
 refine sv 37 (iT 1) ?_
 refine za0 ?_
 show Code.rounds _ _ _ _ _ _
 show Code.wp _ _ _ _ _
 refine wp_seq_k (fun d6 cw=>rg [0] (sv 38 (.bool true) ?_))
 refine za0 (cw _ _ ?_)
 refine wp_seq_k (fun e0 cu=>?_)
 refine wp_cond_true rfl ?_
 refine wp_skip ?_
 refine cu _ _ ?_
 refine wp_seq_k (fun e3 b7=>?_)
 refine wp_block ?_
 refine wp_seq_k (fun eM dh=>rg [0,1] (sv 39 (sV r.hi) ?_))
 refine sv 10 (sV r.hi) (za0 (dh _ _ ?_))
 refine wp_seq_k (fun eQ c5=>wp_seq_k (fun fm cS=>rg [0,1] (sv 40 (sV r.hi) ?_)))
 refine sw 41 (.bool ((r.hi)==([]:List UInt8))) rfl (zi9 33 33 _ _ (r.hi) ([]) rfl rfl rfl) ?_
 refine za0 (cS _ _ ?_)
 refine wp_cond_split rfl (fun a6=>?_) (fun a6=>?_)
 ·have h2:r.hi=[]:=beq_iff_eq.1 a6
  refine wp_exit ?_
  simp only [Exit.then,Exit.inBlock,↓reduceIte]
  refine b7 _ _ ?_
  refine rg [0,1] (sv 54 (iT 2) ?_)
  refine sv 37 (iT 2) ?_
  refine za0 ?_
  show Code.rounds _ _ _ _ _ _
  show Code.wp _ _ _ _ _
  refine wp_seq_k (fun eD cV=>rg [0] (sv 38 (.bool false) ?_))
  refine za0 (cV _ _ ?_)
  refine wp_seq_k (fun eZ d8=>?_)
  refine wp_cond_false rfl ?_
  refine wp_exit ?_
  simp only [Exit.then,Exit.inBlock,↓reduceIte]
  refine bq _ _ ?_
  refine wp_seq_k (fun ex dK=>wp_seq_k (fun e4 cB=>?_))
  have bi:=Gr.drew dE
  replace hB:=hB.trans bi
  refine za4 (fun _=>True) [(true,0),(true,1),(true,2),(true,3),(true,4),(true,5),(true,6),(true,7),(true,8),(true,9),(false,10),(true,11),(true,12)] (by kernel_rfl) (by kernel_rfl) (by kernel_rfl) (by decide) (fun _ _ _ _ _ h=>h) trivial ?_
  refine ov 55 bp ?_
  refine ow 56 (iT ((([]:List Rat)++[zg1 (r.lo)]).length:Int)) rfl (fun w' hS=>(zz8 (e:=62) ad.sl _ _ rfl rfl (by kernel_rfl))) ?_
  have bf:(((([]:List Rat)++[zg1 (r.lo)]).length:Int)==(2:Int))=false:=(by simp)
  refine ow 57 (.bool false) rfl (fun w' hS=>(RunV.bool (x:=(((([]:List Rat)++[zg1 (r.lo)]).length:Int)==(2:Int))) (rvk (by kernel_rfl)) bf)) ?_
  refine ov 58 (.bool false) ?_
  refine Go.Proofs.YtjhflekncldflaaGreatDoor.os 59 ?_
  refine Go.Proofs.YtjhflekncldflaaGreatDoor.os 60 ?_
  refine Go.Proofs.YtjhflekncldflaaGreatDoor.os 61 ?_
  refine Go.Proofs.YtjhflekncldflaaGreatDoor.os 62 ?_
  refine Go.Proofs.YtjhflekncldflaaGreatDoor.os 63 ?_
  refine Go.Proofs.YtjhflekncldflaaGreatDoor.os 64 ?_
  refine oz 65 trivial ?_
  refine Go.Proofs.YtjhflekncldflaaGreatDoor.os 66 ?_
  refine ov 67 (.bool false) ?_
  refine zb4 ?_
  refine cB _ _ ?_
  refine wp_cond_false rfl ?_
  refine wp_skip ?_
  refine dK _ _ ?_
  refine wp_seq_k (fun dO bP=>rg [0] (sv 6 (iT 0) ?_))
  refine za0 (bP _ _ ?_)
  refine wp_ret ?_
  refine bodyPost_ret (v:=(iT 0)) (za3 rfl rfl) rfl ⟨?_,hB⟩
  exact congrArg (fun z=>Ending.returned (iT z)) (rq_0 hnm hd hx ho (by first | exact .inl h1 | exact .inr aJ) (by first | exact .inl h2 | exact .inr aG) (by first | exact .inl h1 | exact .inr (.inl h2) | exact .inr (.inr hcm)))
 have h2:¬ (r.hi=[]):=beq_eq_false_iff_ne.1 a6
 refine wp_skip ?_
 refine c5 _ _ ?_
 refine wp_seq_k (fun dy bW=>rg [0,1,2,3,4,5,6,7] (sv 43 (sV r.hi) ?_))
 refine se ?_
 refine ec 44 (zq1 (r.hi) b5 (hm.gr hB)) ?_
 rintro dv cY ⟨⟨ak,ai,ah,aj,rfl,ac⟩,bm⟩
 refine ⟨_,rfl,?_⟩
 replace hB:=hB.trans bm
 simp only [p3,p4]
 refine sv 42 (.tuple #[.agg #[ak,ai,ah,aj],iT (ck2 (r.hi) 400)]) ?_
 refine sv 45 (.agg #[ak,ai,ah,aj]) ?_
 refine sv 46 (iT (ck2 (r.hi) 400)) ?_
 refine se ?_
 refine ea 62 #[.bool false,sN,.bool false,sN] 11 hB fun c7 dB bn aT bl bH hB=>?_
 replace ad:=ad.gr (za5 1600) bm
 have aW:=ad.ne bl
 have bj:=bl
 simp only [p3,p4]
 refine se ?_
 refine es 62 0 (.agg #[ak,ai,ah,aj]) [ak,ai,ah,aj] #[ak,ai,ah,aj] aT hB bH ⟨ac.one0,ac.one1,ac.one2,ac.one3,trivial⟩ fun da bg bk aT hB=>?_
 refine sv 12 (iT (ck2 (r.hi) 400)) (za0 (bW _ _ ?_))
 refine wp_seq_k (fun ck bI=>wp_seq_k (fun cF bS=>rg [0,1] (sv 47 (iT (ck2 (r.hi) 400)) ?_)))
 refine sv 48 (.bool (ck2 (r.hi) 400 !=(0:Int))) (za0 (bS _ _ ?_))
 refine wp_cond_split rfl (fun aD=>?_) (fun aD=>?_)
 ·have aG:¬ (ck2 r.hi 400=0):=bne_iff_ne.1 aD
  refine wp_seq_k (fun cP bV=>rg [0,1] (sv 49 (iT (ck2 (r.hi) 400)) ?_))
  refine sv 6 (iT (ck2 (r.hi) 400)) (za0 (bV _ _ ?_))
  refine wp_ret ?_
  simp only [Exit.then,Exit.inBlock]
  refine bodyPost_ret (v:=(iT (ck2 (r.hi) 400))) (za3 rfl rfl) rfl ⟨?_,hB⟩
  exact congrArg (fun z=>Ending.returned (iT z)) (rq_hi hnm hd hx ho (by first | exact .inl h1 | exact .inr aJ) h2 aG)
 have aG:ck2 r.hi 400=0:=by simpa using aD
 refine wp_skip ?_
 refine bI _ _ ?_
 refine rg [0,1,2,3,4] (sv 50 bp ?_)
 refine sw 51 (.agg #[ak,ai,ah,aj]) rfl (rl 62 0 [ak,ai,ah,aj] aT) ?_
 refine se ?_
 refine zc5 62 1 #[ak,ai,ah,aj] (some 52) rfl (fun _=>by kernel_rfl) (fun bC cT aU bZ bB=>?_)
 replace ad:=ad.gr (za5 1600) (bg.gr bn bj)
 have a4:=ad.ne bB
 replace hB:=hB.trans aU
 simp only [zd1,p3,p4]
 refine se ?_
 have bh:=bn.kp.trans (bk.trans aU.kp)
 replace ac:=ac.kp bh
 replace ad:=ad.gr (za5 1600) aU
 refine zK2 (za5 1600) _ _ 146 62 w.heap.size (.agg #[.bool false,sN,.bool false,sN]) bp (([]:List Rat)++[zg1 (r.lo)]) bC [ak,ai,ah,aj] (zg1 (r.hi)) 4 1 (some 53) 64 rfl rfl rfl rfl ad bZ ⟨ac.one0,ac.one1,ac.one2,ac.one3,trivial⟩ rfl ⟨_,_,_,_,rfl,ac.mono (by omega)⟩ w hB (Nat.le_refl _) (Below.size hB) (by simp) (by decide) (by kernel_rfl) (by kernel_rfl) (by decide) (by decide) (fun aq bJ ap b6 bo=>?_)
 replace hB:=bo
 simp only [zd1,p3,p4]
 refine sv 8 aq (za0 (b7 _ _ ?_))
 refine rg [0,1] (sv 54 (iT 2) ?_)
 refine sv 37 (iT 2) ?_
 refine za0 ?_
 show Code.rounds _ _ _ _ _ _
 show Code.wp _ _ _ _ _
 refine wp_seq_k (fun cD bA=>rg [0] (sv 38 (.bool false) ?_))
 refine za0 (bA _ _ ?_)
 refine wp_seq_k (fun dj c6=>?_)
 refine wp_cond_false rfl ?_
 refine wp_exit ?_
 simp only [Exit.then,Exit.inBlock,↓reduceIte]
 refine bq _ _ ?_
 refine wp_seq_k (fun cC bw=>wp_seq_k (fun cH bL=>?_))
 obtain ⟨_,_,⟨ay,aw,au,av,rfl,aN⟩,af⟩:=(ap.sl).get (by decide) (zG4 (d:=(0:Rat)) (i:=0) (xs:=((([]:List Rat)++[zg1 (r.lo)])++[zg1 (r.hi)])) (by simp))
 change IsRat _ _ ay aw au av (zg1 (r.lo)) at aN
 obtain ⟨_,_,⟨aA,ax,ar,az,rfl,aI⟩,ae⟩:=(ap.sl).get (by decide) (zG4 (d:=(0:Rat)) (i:=1) (xs:=((([]:List Rat)++[zg1 (r.lo)])++[zg1 (r.hi)])) (by simp))
 change IsRat _ _ aA ax ar az (zg1 (r.hi)) at aI
 have al:=Gr.drew bJ
 replace hB:=hB.trans al
 replace af:=af.gr al
 replace ae:=ae.gr al
 refine za4 (fun w'=>AtV w' aq (0*4) [ay,aw,au,av]∧AtV w' aq (1*4) [aA,ax,ar,az]) [(true,0),(true,1),(true,2),(true,3),(true,4),(true,5),(true,6),(true,7),(true,8),(true,9),(false,10),(true,11),(true,12)] (by kernel_rfl) (by kernel_rfl) (by kernel_rfl) (by decide) (fun _ _ _ _ _ h=>h) ⟨af,ae⟩ ?_
 refine ov 55 aq ?_
 refine ow 56 (iT (((([]:List Rat)++[zg1 (r.lo)])++[zg1 (r.hi)]).length:Int)) rfl (fun w' hS=>(zz8 (e:=62) ap.sl _ _ rfl rfl (by kernel_rfl))) ?_
 have bb:((((([]:List Rat)++[zg1 (r.lo)])++[zg1 (r.hi)]).length:Int)==(2:Int))=true:=(by simp)
 refine ow 57 (.bool true) rfl (fun w' hS=>(RunV.bool (x:=((((([]:List Rat)++[zg1 (r.lo)])++[zg1 (r.hi)]).length:Int)==(2:Int))) (rvk (by kernel_rfl)) bb)) ?_
 refine ov 58 (.bool true) ?_
 refine ov 59 aq ?_
 refine ow 60 (adr aq (0*4)) rfl (fun w' hS=>(yb1 (e:=62) ap.sl (by decide) 0 (by simp) _ _ _ rfl rfl rfl (by kernel_rfl) (by kernel_rfl))) ?_
 refine ow 61 (.agg #[ay,aw,au,av]) rfl (fun w' hS=>(ze5 [ay,aw,au,av] hS.1 _ _ rfl rfl (by kernel_rfl))) ?_
 refine ov 62 aq ?_
 refine ow 63 (adr aq (1*4)) rfl (fun w' hS=>(yb1 (e:=62) ap.sl (by decide) 1 (by simp) _ _ _ rfl rfl rfl (by kernel_rfl) (by kernel_rfl))) ?_
 refine ow 64 (.agg #[aA,ax,ar,az]) rfl (fun w' hS=>(ze5 [aA,ax,ar,az] hS.2 _ _ rfl rfl (by kernel_rfl))) ?_
 refine oe ?_
 replace aN:=aN.kp al.kp
 replace aI:=aI.kp al.kp
 refine ec 65 (zj8 aN aI (by omega)) ?_
 rintro cO dr ⟨rfl,aV⟩
 refine ⟨_,rfl,?_⟩
 replace hB:=hB.trans aV
 replace af:=af.gr aV
 replace ae:=ae.gr aV
 refine ⟨⟨af,ae⟩,?_⟩
 simp only [p3,p4]
 refine ov 66 (.bool (decide ((0:Int)<zl4 (zg1 (r.lo)) (zg1 (r.hi))))) ?_
 refine ov 67 (.bool (decide ((0:Int)<zl4 (zg1 (r.lo)) (zg1 (r.hi))))) ?_
 refine zb4 ?_
 refine bL _ _ ?_
 refine wp_cond_split rfl (fun aB=>?_) (fun aB=>?_)
 ·have hcm:zg1 r.hi<zg1 r.lo:=zx9.1 (of_decide_eq_true aB)
  refine wp_seq_k (fun dT bN=>rg [0] (sv 6 (iT 8) ?_))
  refine za0 (bN _ _ ?_)
  refine wp_ret ?_
  simp only [Exit.then]
  refine bodyPost_ret (v:=(iT 8)) (za3 rfl rfl) rfl ⟨?_,hB⟩
  exact congrArg (fun z=>Ending.returned (iT z)) (rq_8 hnm hd hx ho h1 aJ h2 aG hcm)
 have hcm:¬ zg1 r.hi<zg1 r.lo:=fun e=>of_decide_eq_false aB (zx9.2 e)
 refine wp_skip ?_
 refine bw _ _ ?_
 refine wp_seq_k (fun cK bs=>rg [0] (sv 6 (iT 0) ?_))
 refine za0 (bs _ _ ?_)
 refine wp_ret ?_
 refine bodyPost_ret (v:=(iT 0)) (za3 rfl rfl) rfl ⟨?_,hB⟩
 exact congrArg (fun z=>Ending.returned (iT z)) (rq_0 hnm hd hx ho (by first | exact .inl h1 | exact .inr aJ) (by first | exact .inl h2 | exact .inr aG) (by first | exact .inl h1 | exact .inr (.inl h2) | exact .inr (.inr hcm)))

end Go.Proofs.YtjhflekncldflaaGreatDoor
namespace Go.Proofs.YtjhflekncldflaaGreatDoor
set_option maxRecDepth 100000
set_option maxHeartbeats 4000000
open Go.RowKit

section
variable {D:Offg} {i:Nat}
theorem chn_b (ol:Nat→Nat):∀ k,chn ol k≤4097
 | 0=>by unfold chn;omega
 | k+1=>by unfold chn;split<;>omega
theorem chn_one {ol:Nat→Nat} {k:Nat}:(if (4097:Int)<(chn ol k:Int)*((ol k:Nat):Int) then (4097:Int) else (chn ol k:Int)*((ol k:Nat):Int))=((chn ol (k+1):Nat):Int):=by
 show _=((if 4097<chn ol k*ol k then 4097 else chn ol k*ol k:Nat):Int)
 have e:(chn ol k:Int)*((ol k:Nat):Int)=((chn ol k*ol k:Nat):Int):=by rw [Int.natCast_mul]
 rw [e]
 split<;>split<;>omega
theorem chn_wrap {ol:Nat→Nat} {k:Nat} (h:ol k≤8):IntKind.i64.wrap ((chn ol k:Int)*((ol k:Nat):Int))=(chn ol k:Int)*((ol k:Nat):Int):=by
 have h1:=Nat.mul_le_mul (chn_b ol k) h
 have e:(chn ol k:Int)*((ol k:Nat):Int)=((chn ol k*ol k:Nat):Int):=by rw [Int.natCast_mul]
 rw [e,IntKind.wrap_i64];omega
theorem rqe_len {n:Nat} {rq:Nat→Rqg} {i:Nat} (h:rqe n rq i=0):((rq i).nm).length≤40:=by
 cases hn:isNm (rq i).nm with
 | true=>exact zM6 hn
 | false=>unfold rqe at h;rw [if_pos hn] at h;cases h
theorem opl_8 {p:Nat→Int × Int × Int} {m:Nat} (h:opl p m=0):m≤8:=by
 unfold opl at h
 split at h
 ·omega
 split at h
 ·cases h
 omega
theorem ck_7 (h:(D.n:Int)=0):7=D.chk:=by unfold Offg.chk;rw [if_pos (by omega)]
theorem ck_6 (h:(12:Int)<(D.n:Int)):6=D.chk:=by unfold Offg.chk;rw [if_neg (by omega),if_pos (by omega)]
theorem ck_d (h:¬ (D.n:Int)=0) (h2:¬ (12:Int)<(D.n:Int)) (h3:¬ dck D.dm D.n=0):dck D.dm D.n=D.chk:=by unfold Offg.chk;rw [if_neg (by omega),if_neg (by omega),if_pos h3]
theorem zV9 (h:¬ (D.n:Int)=0) (h2:¬ (12:Int)<(D.n:Int)) (h3:dck D.dm D.n=0):D.chk=if tol D.dm D.n then 3 else if D.m≠D.n then 13
 else if fe (fun i=>opl (D.op i) (D.ol i)) D.m≠0 then fe (fun i=>opl (D.op i) (D.ol i)) D.m
 else if 4096<chn D.ol D.m∨16<D.q then 6 else fe (rqe D.n D.rq) D.q:=by unfold Offg.chk;rw [if_neg (by omega),if_neg (by omega),if_neg (fun e=>e h3)]
theorem ck_3 (h:¬ (D.n:Int)=0) (h2:¬ (12:Int)<(D.n:Int)) (h3:dck D.dm D.n=0) (ht:tol D.dm D.n=true):3=D.chk:=by rw [zV9 h h2 h3,if_pos ht]
theorem ck_13 (h:¬ (D.n:Int)=0) (h2:¬ (12:Int)<(D.n:Int)) (h3:dck D.dm D.n=0) (ht:tol D.dm D.n=false) (hs:¬ (D.m:Int)=(D.n:Int)):13=D.chk:=by
 rw [zV9 h h2 h3,if_neg (by rw [ht];decide),if_pos (by omega)]
theorem ck_o (h:¬ (D.n:Int)=0) (h2:¬ (12:Int)<(D.n:Int)) (h3:dck D.dm D.n=0) (ht:tol D.dm D.n=false) (hs:(D.m:Int)=(D.n:Int)) (hf:fe (fun i=>opl (D.op i) (D.ol i)) i=0) (hi:i<D.m) (ho:¬ opl (D.op i) (D.ol i)=0):opl (D.op i) (D.ol i)=D.chk:=by
 have e:=zp8 (f:=fun i=>opl (D.op i) (D.ol i)) hf hi rfl ho
 rw [zV9 h h2 h3,if_neg (by rw [ht];decide),if_neg (by omega),e,if_pos ho]
theorem ck_6b (h:¬ (D.n:Int)=0) (h2:¬ (12:Int)<(D.n:Int)) (h3:dck D.dm D.n=0) (ht:tol D.dm D.n=false) (hs:(D.m:Int)=(D.n:Int)) (hf:fe (fun i=>opl (D.op i) (D.ol i)) D.m=0) (hc:(4096:Int)<(chn D.ol D.m:Int)∨(16:Int)<(D.q:Int)):6=D.chk:=by
 rw [zV9 h h2 h3,if_neg (by rw [ht];decide),if_neg (by omega),if_neg (fun e=>e hf),if_pos (by omega)]
theorem ck_r (h:¬ (D.n:Int)=0) (h2:¬ (12:Int)<(D.n:Int)) (h3:dck D.dm D.n=0) (ht:tol D.dm D.n=false) (hs:(D.m:Int)=(D.n:Int)) (hf:fe (fun i=>opl (D.op i) (D.ol i)) D.m=0) (hc:¬ (4096:Int)<(chn D.ol D.m:Int)) (hq:¬ (16:Int)<(D.q:Int)):
  D.chk=fe (rqe D.n D.rq) D.q:=by
 rw [zV9 h h2 h3,if_neg (by rw [ht];decide),if_neg (by omega),if_neg (fun e=>e hf),if_neg (by omega)]
end
theorem zM7 {D:Offg} {T1 T2 T3:Nat} {vd vo vr:Value} (bH:∀ i,i<D.q→(D.rq i).lo.length≤14000) (bh:∀ i,i<D.q→(D.rq i).hi.length≤14000) {w:World} (hm:Mx w) (hds:Sl EDg T1 4 w vd (tb (fun z1=>(D.dm z1)) D.n)) (hos:Sl (ESl EOp 3) T2 1 w vo (tb (fun z0=>tb (fun z1=>(D.op z0 z1)) (D.ol z0)) D.m)) (hrs:Sl ERg T3 8 w vr (tb (fun z1=>(D.rq z1)) D.q)) (hce:∀ i,i<D.q→∀ (u:Value) (T:Nat) (v:Value) (S:Nat),Sl ETr T 2 w u (tb (D.rq i).x.tm (D.rq i).x.tn)→Sl EXl S 5 w v (tb (D.rq i).ag (D.rq i).x.na)→∀ w1,Gr w w1→Calls Tryz.prog 74 #[.agg #[iT (D.rq i).x.op,.string ⟨(D.rq i).x.c.toArray⟩,u,.string ⟨(D.rq i).x.k.toArray⟩,v],iT (D.n:Int)] w1 fun e w'=>e=.returned (iT (exe D.n (D.rq i).x (D.rq i).ag))∧Gr w1 w'):
    Calls Tryz.prog 14 #[.agg #[vd,vo,vr]] w fun e w'=>e=.returned (iT D.chk)∧Gr w w':=by
 go_enter Tryz.func14,Tryz.ntmps14
 have hB:=Gr.refl w
 refine wp_seq_k (fun cB bL=>rg [0,1] ?_)
 refine se ?_
 refine eb 26 #[vd,vo,vr] 1 hB fun ae cO cU ad cd bU hB=>?_
 simp only [p3,p4]
 refine sv 2 (iT 0) (za0 (bL _ _ ?_))
 refine wp_seq_k (fun cz a9=>wp_seq_k (fun b5 a7=>rg [0,1,2,3] (sv 13 (pT ae 0) ?_)))
 refine sw 14 vd rfl (rk 22 0 ad) ?_
 refine sw 15 (iT ((D.n:Nat):Int)) rfl (zb0 (e:=71) hds (za9 rfl) _ _ rfl rfl (by kernel_rfl)) ?_
 refine sv 3 (iT ((D.n:Nat):Int)) (za0 (a7 _ _ ?_))
 refine wp_block ?_
 refine wp_seq_k (fun b0 bF=>rg [0,1,2] (sv 17 (iT ((D.n:Nat):Int)) ?_))
 refine sv 18 (.bool (((D.n:Nat):Int)==(0:Int))) ?_
 refine sv 16 (.bool (((D.n:Nat):Int)==(0:Int))) (za0 (bF _ _ ?_))
 refine wp_cond_split rfl (fun ai=>?_) (fun ai=>?_)
 ·have h:(D.n:Int)=0:=beq_iff_eq.1 ai
  refine wp_seq_k (fun b1 aU=>rg [0] (sv 2 (iT 7) ?_))
  refine za0 (aU _ _ ?_)
  refine wp_ret ?_
  simp only [Exit.then,Exit.inBlock]
  refine bodyPost_ret (v:=(iT 7)) (za3 rfl rfl) rfl ⟨?_,hB⟩
  exact congrArg (fun z=>Ending.returned (iT z)) (ck_7 h)
 have h:¬ ((D.n:Int)=0):=beq_eq_false_iff_ne.1 ai
 refine wp_seq_k (fun cq bs=>rg [0,1,2] (sv 20 (iT ((D.n:Nat):Int)) ?_))
 refine sv 21 (.bool (decide ((12:Int)<((D.n:Nat):Int)))) ?_
 refine sv 19 (.bool (decide ((12:Int)<((D.n:Nat):Int)))) (za0 (bs _ _ ?_))
 refine wp_cond_split rfl (fun aq=>?_) (fun aq=>?_)
 ·have h2:(12:Int)<(D.n:Int):=of_decide_eq_true aq
  refine wp_seq_k (fun cH bj=>rg [0] (sv 2 (iT 6) ?_))
  refine za0 (bj _ _ ?_)
  refine wp_ret ?_
  simp only [Exit.then,Exit.inBlock]
  refine bodyPost_ret (v:=(iT 6)) (za3 rfl rfl) rfl ⟨?_,hB⟩
  exact congrArg (fun z=>Ending.returned (iT z)) (ck_6 h2)
 have h2:¬ ((12:Int)<(D.n:Int)):=of_decide_eq_false aq
 refine wp_skip ?_
 refine a9 _ _ ?_
 refine wp_seq_k (fun cX bt=>wp_seq_k (fun bY bD=>rg [0,1,2,3] (sv 22 (pT ae 0) ?_)))
 refine sw 23 vd rfl (rk 22 0 ad) ?_
 refine se ?_
 refine ec 24 (di_chk (hds.gr zc7 hB)) ?_
 rintro cV c4 ⟨rfl,aR⟩
 refine ⟨_,rfl,?_⟩
 replace hB:=hB.trans aR
 simp only [p3,p4]
 refine sv 4 (iT (dck D.dm D.n)) (za0 (bD _ _ ?_))
 refine wp_seq_k (fun cF bm=>rg [0,1] (sv 25 (iT (dck D.dm D.n)) ?_))
 refine sv 26 (.bool (dck D.dm D.n !=(0:Int))) (za0 (bm _ _ ?_))
 refine wp_cond_split rfl (fun au=>?_) (fun au=>?_)
 ·have h3:¬ (dck D.dm D.n=0):=bne_iff_ne.1 au
  refine wp_seq_k (fun cp bl=>rg [0,1] (sv 27 (iT (dck D.dm D.n)) ?_))
  refine sv 2 (iT (dck D.dm D.n)) (za0 (bl _ _ ?_))
  refine wp_ret ?_
  simp only [Exit.then]
  refine bodyPost_ret (v:=(iT (dck D.dm D.n))) (za3 rfl rfl) rfl ⟨?_,hB⟩
  exact congrArg (fun z=>Ending.returned (iT z)) (ck_d h h2 h3)
 have h3:dck D.dm D.n=0:=by simpa using au
 refine wp_skip ?_
 refine bt _ _ ?_
 refine wp_seq_k (fun cI aV=>wp_seq_k (fun cQ a8=>rg [0,1,2] (sv 28 (pT ae 0) ?_)))
 replace ad:=ad.gr aR
 refine sw 29 vd rfl (rk 22 0 ad) ?_
 refine se ?_
 refine ec 30 (di_contg (by omega) (hds.gr zc7 hB)) ?_
 rintro ct cK ⟨rfl,aS⟩
 refine ⟨_,rfl,?_⟩
 replace hB:=hB.trans aS
 simp only [p3,p4]
 refine za0 (a8 _ _ ?_)
 refine wp_cond_split rfl (fun ax=>?_) (fun ax=>?_)
 ·have ht:tol D.dm D.n=true:=ax
  refine wp_seq_k (fun cj bI=>rg [0] (sv 2 (iT 3) ?_))
  refine za0 (bI _ _ ?_)
  refine wp_ret ?_
  simp only [Exit.then]
  refine bodyPost_ret (v:=(iT 3)) (za3 rfl rfl) rfl ⟨?_,hB⟩
  exact congrArg (fun z=>Ending.returned (iT z)) (ck_3 h h2 h3 ht)
 have ht:tol D.dm D.n=false:=ax
 refine wp_skip ?_
 refine aV _ _ ?_
 refine wp_seq_k (fun bX bK=>wp_seq_k (fun bQ bG=>rg [0,1,2,3,4,5,6] (sv 31 (pT ae 1) ?_)))
 replace ad:=ad.gr aS
 refine sw 32 vo rfl (rk 23 1 ad) ?_
 refine sw 33 (iT ((D.m:Nat):Int)) rfl (zb0 (e:=72) hos (za9 rfl) _ _ rfl rfl (by kernel_rfl)) ?_
 refine sv 34 (pT ae 0) ?_
 refine sw 35 vd rfl (rk 22 0 ad) ?_
 refine sw 36 (iT ((D.n:Nat):Int)) rfl (zb0 (e:=71) hds (za9 rfl) _ _ rfl rfl (by kernel_rfl)) ?_
 refine sv 37 (.bool (((D.m:Nat):Int) !=((D.n:Nat):Int))) (za0 (bG _ _ ?_))
 refine wp_cond_split rfl (fun aA=>?_) (fun aA=>?_)
 ·have hs:¬ ((D.m:Int)=(D.n:Int)):=bne_iff_ne.1 aA
  refine wp_seq_k (fun b7 aW=>rg [0] (sv 2 (iT 13) ?_))
  refine za0 (aW _ _ ?_)
  refine wp_ret ?_
  simp only [Exit.then]
  refine bodyPost_ret (v:=(iT 13)) (za3 rfl rfl) rfl ⟨?_,hB⟩
  exact congrArg (fun z=>Ending.returned (iT z)) (ck_13 h h2 h3 ht hs)
 have hs:(D.m:Int)=(D.n:Int):=by simpa using aA
 refine wp_skip ?_
 refine bK _ _ ?_
 refine wp_seq_k (fun cm a2=>rg [0] (sv 5 (iT 1) ?_))
 refine za0 (a2 _ _ ?_)
 refine wp_seq_k (fun cT bk=>wp_seq_k (fun cD ba=>rg [0,1,2,3] (sv 38 (pT ae 1) ?_)))
 refine sw 39 vo rfl (rk 23 1 ad) ?_
 refine sw 40 (iT ((D.m:Nat):Int)) rfl (zb0 (e:=72) hos (za9 rfl) _ _ rfl rfl (by kernel_rfl)) ?_
 refine sv 41 (iT 0) (za0 (ba _ _ ?_))
 refine wp_block ?_
 refine zb1 (a:=⟨List.toArray ?l38,[]⟩) (fun n a w'=>∃ (i:Nat) (ac:Nat→Value),D.m - i=n∧a=⟨[.agg #[vd,vo,vr],pT ae 0,ac 2,iT ((D.n:Nat):Int),iT (dck D.dm D.n),iT ((chn D.ol i:Nat):Int),undef,ac 7,ac 8,undef,undef,undef,undef,ac 13,ac 14,ac 15,.bool (((D.n:Nat):Int)==(0:Int)),ac 17,ac 18,.bool (decide ((12:Int)<((D.n:Nat):Int))),ac 20,ac 21,ac 22,ac 23,ac 24,ac 25,.bool (dck D.dm D.n !=(0:Int)),undef,ac 28,ac 29,.bool (tol D.dm D.n),ac 31,ac 32,ac 33,ac 34,ac 35,ac 36,.bool (((D.m:Nat):Int) !=((D.n:Nat):Int)),ac 38,vo,iT ((D.m:Nat):Int),iT (i:Int),ac 42,ac 43,ac 44,ac 45,ac 46,ac 47,ac 48,ac 49,ac 50,ac 51,ac 52,ac 53,ac 54,ac 55,undef,undef,undef,undef,undef,undef,undef,undef,undef,undef,undef,undef,undef,undef,undef,undef,undef,undef,undef,undef,undef,undef,undef,undef,undef,undef,undef,undef,undef].toArray,[]⟩∧i≤D.m∧fe (fun i=>opl (D.op i) (D.ol i)) i=0∧Lc w' ae #[vd,vo,vr] 26∧Gr w w') (D.m - 0) ?_ ?_
 ·exact ⟨0,(fun i=>List.getD ?l38 i undef),rfl,rfl,Nat.zero_le _,rfl,ad,hB⟩
 rintro cb cE cl ⟨i,ac,rfl,rfl,hki,hf,ad,hB⟩ cc bq
 refine wp_seq_k (fun b8 bw=>rg [0] (sv 42 (.bool (decide ((i:Int)<((D.m:Nat):Int)))) ?_))
 refine za0 (bw _ _ ?_)
 refine wp_seq_k (fun cf a1=>?_)
 refine wp_cond_split rfl (fun ar=>?_) (fun ar=>?_)
 ·have hli:i<D.m:=by have:=of_decide_eq_true ar;omega
  refine wp_skip ?_
  refine a1 _ _ ?_
  refine wp_seq_k (fun c8 bi=>?_)
  refine wp_block ?_
  refine wp_seq_k (fun bS a4=>rg [0,1,2] ?_)
  refine sw 43 (adr vo (i*1)) rfl (zc0 (e:=72) hos za8 (by decide) i (by omega) _ _ _ rfl rfl rfl (by kernel_rfl) (by kernel_rfl)) ?_
  obtain ⟨_,_,⟨aE,cM,rfl,aC⟩,aG⟩:=Sl.get hos (by decide) (zc3 (f:=(fun z0=>tb (fun z1=>(D.op z0 z1)) (D.ol z0))) (n:=D.m) (i:=i) (by omega))
  refine sw 44 aE rfl (ze6 aE (aG.gr hB) _ _ rfl rfl (by kernel_rfl)) ?_
  refine sv 7 aE (za0 (a4 _ _ ?_))
  refine wp_seq_k (fun bZ br=>wp_seq_k (fun b3 aY=>rg [0,1,2] (sv 45 aE ?_)))
  refine se ?_
  refine ec 46 (al_opts (aC.gr za6 hB)) ?_
  rintro cN cZ ⟨rfl,aO⟩
  refine ⟨_,rfl,?_⟩
  replace hB:=hB.trans aO
  simp only [p3,p4]
  refine sv 8 (iT (opl (D.op i) (D.ol i))) (za0 (aY _ _ ?_))
  refine wp_seq_k (fun bW bE=>rg [0,1] (sv 47 (iT (opl (D.op i) (D.ol i))) ?_))
  refine sv 48 (.bool (opl (D.op i) (D.ol i) !=(0:Int))) (za0 (bE _ _ ?_))
  refine wp_cond_split rfl (fun aw=>?_) (fun aw=>?_)
  ·have ho:¬ (opl (D.op i) (D.ol i)=0):=bne_iff_ne.1 aw
   refine wp_seq_k (fun bT bM=>rg [0,1] (sv 49 (iT (opl (D.op i) (D.ol i))) ?_))
   refine sv 2 (iT (opl (D.op i) (D.ol i))) (za0 (bM _ _ ?_))
   refine wp_ret ?_
   simp only [Exit.then,Exit.inBlock]
   refine bodyPost_ret (v:=(iT (opl (D.op i) (D.ol i)))) (za3 rfl rfl) rfl ⟨?_,hB⟩
   exact congrArg (fun z=>Ending.returned (iT z)) (ck_o h h2 h3 ht hs hf hli ho)
  have ho:opl (D.op i) (D.ol i)=0:=by simpa using aw
  refine wp_skip ?_
  refine br _ _ ?_
  refine rg [0,1,2,3,4,5] (sv 50 (iT ((chn D.ol i:Nat):Int)) ?_)
  refine sv 51 aE ?_
  refine sw 52 (iT ((D.ol i:Nat):Int)) rfl (zb0 (e:=68) aC (za9 rfl) _ _ rfl rfl (by kernel_rfl)) ?_
  refine sw 53 (iT (((chn D.ol i:Nat):Int)*((D.ol i:Nat):Int))) rfl (RunV.int (x:=IntKind.i64.wrap (((chn D.ol i:Nat):Int)*((D.ol i:Nat):Int))) (y:=((chn D.ol i:Nat):Int)*((D.ol i:Nat):Int)) (rvk (by kernel_rfl)) (chn_wrap (opl_8 ho))) ?_
  refine sw 54 (iT ((chn D.ol (i+1):Nat):Int)) rfl (RunV.int (x:=(if (4097:Int)<(((chn D.ol i:Nat):Int)*((D.ol i:Nat):Int)) then (4097:Int) else (((chn D.ol i:Nat):Int)*((D.ol i:Nat):Int)))) (y:=((chn D.ol (i+1):Nat):Int)) (rvk (by kernel_rfl)) chn_one) ?_
  refine sv 5 (iT ((chn D.ol (i+1):Nat):Int)) (za0 (bi _ _ ?_))
  refine rg [0,1] ?_
  refine sw 55 (iT ((i:Int)+1)) rfl (rwI ((i:Int)+1)) ?_
  refine sv 41 (iT ((i:Int)+1)) ?_
  refine za0 ?_
  replace ad:=ad.gr aO
  refine bq (D.m - (i+1)) ⟨List.toArray ?l51,[]⟩ _ (by omega) ?_
  exact ⟨i+1,(fun i=>List.getD ?l51 i undef),rfl,rfl,(by omega),zQ0 hf ho,ad,hB⟩
 have hei:D.m=i:=by have:=of_decide_eq_false ar;omega
 subst hei
 refine wp_exit ?_
 simp only [Exit.then,Exit.inBlock,↓reduceIte]
 refine bk _ _ ?_
 refine wp_seq_k (fun cR bB=>wp_seq_k (fun cP aN=>rg [0,1,2,3,4,5,6,7] (sv 56 (iT ((chn D.ol (D.m):Nat):Int)) ?_)))
 refine sv 57 (.bool (decide ((4096:Int)<((chn D.ol (D.m):Nat):Int)))) ?_
 rcases Bool.eq_false_or_eq_true (decide ((4096:Int)<((chn D.ol (D.m):Nat):Int))) with hb54 | hb54
 ·have hc:(4096:Int)<(chn D.ol D.m:Int):=of_decide_eq_true hb54
  refine swk 58 (.bool true) [(3,59),(4,60),(5,61),(6,62)] rfl (RunV.bool (x:=decide ((4096:Int)<((chn D.ol (D.m):Nat):Int))) (rvk (by kernel_rfl)) hb54) ?_
  refine sv 63 (.bool true) (za0 (aN _ _ ?_))
  refine wp_cond_true rfl ?_
  refine wp_seq_k (fun b4 a3=>rg [0] (sv 2 (iT 6) ?_))
  refine za0 (a3 _ _ ?_)
  refine wp_ret ?_
  simp only [Exit.then]
  refine bodyPost_ret (v:=(iT 6)) (za3 rfl rfl) rfl ⟨?_,hB⟩
  exact congrArg (fun z=>Ending.returned (iT z)) (ck_6b h h2 h3 ht hs hf (by first | exact .inl hc | exact .inr hq))
 have hc:¬ ((4096:Int)<(chn D.ol D.m:Int)):=of_decide_eq_false hb54
 refine sw 58 (.bool false) rfl (RunV.bool (x:=decide ((4096:Int)<((chn D.ol (D.m):Nat):Int))) (rvk (by kernel_rfl)) hb54) ?_
 refine sv 59 (pT ae 2) ?_
 refine sw 60 vr rfl (rk 24 2 ad) ?_
 refine sw 61 (iT ((D.q:Nat):Int)) rfl (zb0 (e:=80) hrs (za9 rfl) _ _ rfl rfl (by kernel_rfl)) ?_
 refine sv 62 (.bool (decide ((16:Int)<((D.q:Nat):Int)))) ?_
 refine sv 63 (.bool (decide ((16:Int)<((D.q:Nat):Int)))) (za0 (aN _ _ ?_))
 refine wp_cond_split rfl (fun ap=>?_) (fun ap=>?_)
 ·have hq:(16:Int)<(D.q:Int):=of_decide_eq_true ap
  refine wp_seq_k (fun b9 a6=>rg [0] (sv 2 (iT 6) ?_))
  refine za0 (a6 _ _ ?_)
  refine wp_ret ?_
  simp only [Exit.then]
  refine bodyPost_ret (v:=(iT 6)) (za3 rfl rfl) rfl ⟨?_,hB⟩
  exact congrArg (fun z=>Ending.returned (iT z)) (ck_6b h h2 h3 ht hs hf (by first | exact .inl hc | exact .inr hq))
 have hq:¬ ((16:Int)<(D.q:Int)):=of_decide_eq_false ap
 refine wp_skip ?_
 refine bB _ _ ?_
 refine wp_seq_k (fun cA bJ=>rg [0,1] ?_)
 refine se ?_
 refine zY1 (d:=(some 64)) (nm:=(fun j=>(D.rq j).nm)) rfl rfl (fun aB cS aK aQ hmp=>?_)
 replace aK:=Nat.le_trans (Below.size hB) aK
 replace hB:=hB.trans aQ
 simp only [zd1,p3,p4]
 refine sv 9 (.map (some aB)) (za0 (bJ _ _ ?_))
 refine wp_seq_k (fun cr bu=>wp_seq_k (fun c5 aZ=>rg [0,1,2,3] (sv 65 (pT ae 2) ?_)))
 replace ad:=ad.gr aQ
 refine sw 66 vr rfl (rk 24 2 ad) ?_
 refine sw 67 (iT ((D.q:Nat):Int)) rfl (zb0 (e:=80) hrs (za9 rfl) _ _ rfl rfl (by kernel_rfl)) ?_
 refine sv 68 (iT 0) (za0 (aZ _ _ ?_))
 refine wp_block ?_
 refine zb1 (a:=⟨List.toArray ?l62,[]⟩) (fun n a w'=>∃ (j:Nat) (aa:Nat→Value),D.q - j=n∧a=⟨[.agg #[vd,vo,vr],pT ae 0,aa 2,iT ((D.n:Nat):Int),iT (dck D.dm D.n),iT ((chn D.ol (D.m):Nat):Int),undef,ac 7,ac 8,.map (some aB),undef,aa 11,aa 12,aa 13,aa 14,aa 15,.bool (((D.n:Nat):Int)==(0:Int)),aa 17,aa 18,.bool (decide ((12:Int)<((D.n:Nat):Int))),aa 20,aa 21,aa 22,aa 23,aa 24,aa 25,.bool (dck D.dm D.n !=(0:Int)),undef,aa 28,aa 29,.bool (tol D.dm D.n),aa 31,aa 32,aa 33,aa 34,aa 35,aa 36,.bool (((D.m:Nat):Int) !=((D.n:Nat):Int)),aa 38,vo,iT ((D.m:Nat):Int),iT ((D.m):Int),.bool (decide (((D.m):Int)<((D.m:Nat):Int))),aa 43,aa 44,aa 45,aa 46,aa 47,ac 48,aa 49,aa 50,aa 51,aa 52,aa 53,aa 54,aa 55,aa 56,aa 57,aa 58,aa 59,aa 60,aa 61,aa 62,.bool (decide ((16:Int)<((D.q:Nat):Int))),aa 64,aa 65,vr,iT ((D.q:Nat):Int),iT (j:Int),aa 69,aa 70,aa 71,aa 72,aa 73,aa 74,aa 75,aa 76,aa 77,aa 78,aa 79,aa 80,aa 81,aa 82,aa 83,aa 84].toArray,[]⟩∧j≤D.q∧fe (rqe D.n D.rq) j=0∧NmS w' aB j (fun j=>(D.rq j).nm)∧Lc w' ae #[vd,vo,vr] 26∧Gr w w') (D.q - 0) ?_ ?_
 ·exact ⟨0,(fun i=>List.getD ?l62 i undef),rfl,rfl,Nat.zero_le _,rfl,hmp,ad,hB⟩
 rintro cC c6 cJ ⟨j,aa,rfl,rfl,hkj,aL,hmp,ad,hB⟩ bV bb
 refine wp_seq_k (fun bP bv=>rg [0] (sv 69 (.bool (decide ((j:Int)<((D.q:Nat):Int)))) ?_))
 refine za0 (bv _ _ ?_)
 refine wp_seq_k (fun bO aT=>?_)
 refine wp_cond_split rfl (fun aj=>?_) (fun aj=>?_)
 ·have hlj:j<D.q:=by have:=of_decide_eq_true aj;omega
  refine wp_skip ?_
  refine aT _ _ ?_
  refine wp_seq_k (fun cg bp=>?_)
  refine wp_block ?_
  refine wp_seq_k (fun cu bn=>rg [0,1,2,3] ?_)
  refine sw 70 (adr vr (j*8)) rfl (zc0 (e:=80) hrs za8 (by decide) j (by omega) _ _ _ rfl rfl rfl (by kernel_rfl) (by kernel_rfl)) ?_
  obtain ⟨_,_,⟨az,ck,ay,cy,rfl,ak,ah⟩,aM⟩:=Sl.get hrs (by decide) (zc3 (f:=(fun z1=>(D.rq z1))) (n:=D.q) (i:=j) (by omega))
  refine sw 71 (.agg #[sV ((D.rq j).nm),iT ((D.rq j).x.op),sV ((D.rq j).x.c),az,sV ((D.rq j).x.k),ay,sV ((D.rq j).lo),sV ((D.rq j).hi)]) rfl (ze5 [sV ((D.rq j).nm),iT ((D.rq j).x.op),sV ((D.rq j).x.c),az,sV ((D.rq j).x.k),ay,sV ((D.rq j).lo),sV ((D.rq j).hi)] (aM.gr hB) _ _ rfl rfl (by kernel_rfl)) ?_
  refine se ?_
  refine ea 80 #[sV [],iT 0,sV [],sN,sV [],sN,sV [],sV []] 11 hB fun aX cY aP al bo a0 hB=>?_
  have af:=ad.ne bo
  simp only [p3,p4]
  refine se ?_
  have aH:=al
  refine es 80 0 (.agg #[sV ((D.rq j).nm),iT ((D.rq j).x.op),sV ((D.rq j).x.c),az,sV ((D.rq j).x.k),ay,sV ((D.rq j).lo),sV ((D.rq j).hi)]) [sV ((D.rq j).nm),iT ((D.rq j).x.op),sV ((D.rq j).x.c),az,sV ((D.rq j).x.k),ay,sV ((D.rq j).lo),sV ((D.rq j).hi)] #[sV ((D.rq j).nm),iT ((D.rq j).x.op),sV ((D.rq j).x.c),az,sV ((D.rq j).x.k),ay,sV ((D.rq j).lo),sV ((D.rq j).hi)] al hB a0 ⟨rfl,rfl,rfl,ak.one,rfl,ah.one,rfl,rfl,trivial⟩ fun c7 aD bC al hB=>?_
  refine za0 (bn _ _ ?_)
  refine wp_seq_k (fun cx bN=>wp_seq_k (fun b6 bA=>rg [0,1,2,3,4,5,6] ?_))
  refine sw 72 (.agg #[sV ((D.rq j).nm),iT ((D.rq j).x.op),sV ((D.rq j).x.c),az,sV ((D.rq j).x.k),ay,sV ((D.rq j).lo),sV ((D.rq j).hi)]) rfl (rl 80 0 [sV ((D.rq j).nm),iT ((D.rq j).x.op),sV ((D.rq j).x.c),az,sV ((D.rq j).x.k),ay,sV ((D.rq j).lo),sV ((D.rq j).hi)] al) ?_
  refine sv 73 (pT ae 0) ?_
  replace ad:=aD.lc (ad.gr aP) af
  refine sw 74 vd rfl (rk 22 0 ad) ?_
  refine sw 75 (iT ((D.n:Nat):Int)) rfl (zb0 (e:=71) hds (za9 rfl) _ _ rfl rfl (by kernel_rfl)) ?_
  refine sv 76 (.map (some aB)) ?_
  refine se ?_
  replace hmp:=(hmp.gr aP).st aD aH
  refine ec 77 (al_req (r:=D.rq j) ak.one ah.one (bH j hlj) (bh j hlj) (hm.gr hB) hmp (fun w1 g=>hce j hlj _ _ _ _ ak ah _ (hB.trans g))) ?_
  rintro cG cL ⟨rfl,aF⟩
  refine ⟨_,rfl,?_⟩
  replace hB:=hB.trans aF
  simp only [p3,p4]
  refine sv 12 (iT (rq1 D.n (D.rq j) (zg4 (fun j=>(D.rq j).nm) j (D.rq j).nm))) (za0 (bA _ _ ?_))
  refine wp_seq_k (fun cW a5=>rg [0,1] (sv 78 (iT (rq1 D.n (D.rq j) (zg4 (fun j=>(D.rq j).nm) j (D.rq j).nm))) ?_))
  refine sv 79 (.bool (rq1 D.n (D.rq j) (zg4 (fun j=>(D.rq j).nm) j (D.rq j).nm) !=(0:Int))) (za0 (a5 _ _ ?_))
  refine wp_cond_split rfl (fun av=>?_) (fun av=>?_)
  ·have hr:¬ (rqe D.n D.rq j=0):=bne_iff_ne.1 av
   refine wp_seq_k (fun b2 bg=>rg [0,1] (sv 80 (iT (rq1 D.n (D.rq j) (zg4 (fun j=>(D.rq j).nm) j (D.rq j).nm))) ?_))
   refine sv 2 (iT (rq1 D.n (D.rq j) (zg4 (fun j=>(D.rq j).nm) j (D.rq j).nm))) (za0 (bg _ _ ?_))
   refine wp_ret ?_
   simp only [Exit.then,Exit.inBlock]
   refine bodyPost_ret (v:=(iT (rq1 D.n (D.rq j) (zg4 (fun j=>(D.rq j).nm) j (D.rq j).nm)))) (za3 rfl rfl) rfl ⟨?_,hB⟩
   exact congrArg (fun z=>Ending.returned (iT z)) (by rw [ck_r h h2 h3 ht hs hf hc hq];exact (zp8 aL hlj rfl hr).symm)
  have hr:rqe D.n D.rq j=0:=by have h9:=av;rw [bne_eq_false_iff_eq] at h9;exact h9
  have hnl:=rqe_len hr
  refine wp_skip ?_
  refine bN _ _ ?_
  refine rg [0,1,2,3] (sv 81 (.map (some aB)) ?_)
  refine sv 82 (pT aX 0) ?_
  replace al:=al.gr aF
  refine sw 83 (sV ((D.rq j).nm)) rfl (rk 9 0 al) ?_
  refine se ?_
  replace hmp:=hmp.gr aF
  refine zR1 _ _ _ ((D.rq j).nm) hmp rfl rfl rfl rfl rfl (by omega) rfl (by omega) (fun cw aI aJ hmp=>?_)
  replace hB:=aJ _ hB aK
  refine za0 (bp _ _ ?_)
  refine rg [0,1] ?_
  refine sw 84 (iT ((j:Int)+1)) rfl (rwI ((j:Int)+1)) ?_
  refine sv 68 (iT ((j:Int)+1)) ?_
  refine za0 ?_
  replace ad:=aI.lc (ad.gr aF) (by decide)
  refine bb (D.q - (j+1)) ⟨List.toArray ?l78,[]⟩ _ (by omega) ?_
  exact ⟨j+1,(fun i=>List.getD ?l78 i undef),rfl,rfl,(by omega),zQ0 aL hr,hmp,ad,hB⟩
 have hej:D.q=j:=by have:=of_decide_eq_false aj;omega
 subst hej
 refine wp_exit ?_
 simp only [Exit.then,Exit.inBlock,↓reduceIte]
 refine bu _ _ ?_
 refine wp_seq_k (fun bR bf=>rg [0] (sv 2 (iT 0) ?_))
 refine za0 (bf _ _ ?_)
 refine wp_ret ?_
 refine bodyPost_ret (v:=(iT 0)) (za3 rfl rfl) rfl ⟨?_,hB⟩
 exact congrArg (fun z=>Ending.returned (iT z)) (by rw [ck_r h h2 h3 ht hs hf hc hq,aL])

end Go.Proofs.YtjhflekncldflaaGreatDoor
namespace Go.Proofs.YtjhflekncldflaaGreatDoor
open Go.RowKit

structure WideF (F:Fence):Prop where
 fn:∀ f,F.fn f
 depth:F.depth=none
 calls:∀ {n:Nat} {P:Program} {f:FuncId} {args:Array Value} {w:World} {R:Ending→World→Prop},Calls P f args w R→CallsIn F n P f args w R
 rows:∀ {n:Nat} {P:Program} {row:String} {args:Array Value} {w:World} {R:Value→World→Prop},Rows P row args w R→RowsIn F n P row args w R
theorem wide_wide:WideF Fence.wide:=
 ⟨fun _=>trivial,rfl,fun h=>callsIn_wide.2 h,fun h c cs _=>let ⟨v,w',r,s⟩:=h c cs;⟨v,w',r,stepsIn_wide.2 s⟩⟩
theorem zf9 (l:Nat):WideF (Fence.wide.inRound l):=
 ⟨fun _=>trivial,rfl,fun h=>CallsIn.inRound l (callsIn_wide.2 h),fun h=>wide_wide.rows h⟩
def zh9 (o:Oper):Bool:=match o.op with | .defer _=>false | _=>true
section
variable {P:Program} {F:Fence} {n:Nat} {a:Act} {o:Oper} {w:World} {Q:Exit→Act→World→Prop} {K:Act→World→Prop} {ops:Array Oper}
theorem zq3 (h:zh9 o=true):o.semAt F.round a.eval=execOp a.eval o:=
 Oper.semAt_eq _ _ _ (fun c e=>by unfold zh9 at h;rw [e] at h;cases h)
theorem opIn (hF:WideF F) (hd:zh9 o=true) (h:o.wp P a w K Q):o.wpIn F n P a w K Q:=by
 refine ⟨fun f _=>hF.fn f,?_⟩
 rw [zq3 hd]
 unfold Oper.wp at h
 have hdep:F.depth.isSome=true→1≤n:=by rw [hF.depth];intro e;cases e
 generalize (execOp a.eval o).run P w=r at*
 cases r with
 | ok x w'=>
  cases x with
  | value v=>exact h
  | skip=>exact h
  | defer d=>exact h
  | enter f args=>exact ⟨hdep,(hF.calls h).mono fun e w2 he=>by cases e<;>exact he⟩
  | row row args=>exact ⟨hdep,hF.rows h⟩
  | _=>exact h.elim
 | halt x w'=>cases x<;>first | exact h | exact h.elim
theorem zn2 (hF:WideF F) (hd:ops.all zh9=true) (hQ:¬ LetsOut Q):∀ (r:List Nat) (a:Act) (w:World),wpOps P ops Q r a w→wpOpsIn F n P ops Q r a w
 | [],_,_,h=>h
 | i::rest,a,w,h=>by
  unfold wpOps at h
  unfold wpOpsIn
  cases ho:ops[i]? with
  | none=>rw [ho] at h;exact zn2 hF hd hQ rest a w h
  | some o=>
   rw [ho] at h
   dsimp only at h ⊢
   have hdo:zh9 o=true:=by
    obtain ⟨hi,e⟩:=Array.getElem?_eq_some_iff.1 ho
    have:=Array.all_eq_true.1 hd i hi
    rw [e] at this;exact this
   split
   ·next hw=>
    rw [if_pos hw] at h
    rcases h with h | ⟨_,h⟩
    ·exact opIn hF hdo (Oper.wp_mono (fun a w h=>zn2 hF hd hQ rest a w h) h)
    exact absurd h hQ
   next hw=>
   rw [if_neg hw] at h
   exact ⟨fun f _=>hF.fn f,zn2 hF hd hQ rest _ w h⟩
theorem rgI (hF:WideF F) {id:Nat} (r:List Nat) (h:wpOps P ops Q r a w) (hr:List.range ops.size=r:=by rfl) (hd:ops.all zh9=true:=by kernel_rfl) (hQ:¬ LetsOut Q:=by rintro ⟨_,_,h⟩;exact h):(Code.region id ops false).wpIn F n P Q a w:=
 wpIn_region (by rw [hr];exact zn2 hF hd hQ r a w h)
variable {l:List Value} {ds:List Deferred}
theorem rgY {id:Nat} (r:List Nat) (h:wpOpsIn F n P ops Q r a w) (hr:List.range ops.size=r:=by rfl):(Code.region id ops false).wpIn F n P Q a w:=wpIn_region (by rw [hr];exact h)
theorem svY (hF:WideF F) {i:Nat} {rest:List Nat} (d:Nat) (v:Value) (h:wpOpsIn F n P ops Q rest ⟨(l.set d v).toArray,ds⟩ w) (ho:ops[i]?=some o:=by rfl) (hd:o.dst=some d:=by rfl) (hw:Region.wanted o (yielded ops (⟨l.toArray,ds⟩:Act).tmps)=true:=by kernel_rfl)
  (hv:(execOp (⟨l.toArray,ds⟩:Act).eval o).run P w=.ok (.value v) w:=by kernel_rfl) (hnd:zh9 o=true:=by kernel_rfl):wpOpsIn F n P ops Q (i::rest) ⟨l.toArray,ds⟩ w:=by
 unfold wpOpsIn
 simp only [ho,hw,if_true]
 refine opIn hF hnd ?_
 unfold Oper.wp
 rw [hv]
 show wpOpsIn F n P ops Q rest ((⟨l.toArray,ds⟩:Act).put o.dst v) w
 rw [hd,zd1];exact h
theorem swY (hF:WideF F) {i:Nat} {rest:List Nat} (d:Nat) (v:Value) (ho:ops[i]?=some o) (hv:RunV P ⟨l.toArray,ds⟩ o w v) (h:wpOpsIn F n P ops Q rest ⟨(l.set d v).toArray,ds⟩ w) (hd:o.dst=some d:=by rfl) (hw:Region.wanted o (yielded ops (⟨l.toArray,ds⟩:Act).tmps)=true:=by kernel_rfl)
  (hnd:zh9 o=true:=by kernel_rfl):wpOpsIn F n P ops Q (i::rest) ⟨l.toArray,ds⟩ w:=svY hF d v h ho hd hw hv hnd
theorem nilY (h:Q .normal a w):wpOpsIn F n P ops Q [] a w:=h
theorem zI8 (w:World) (cs:Array Value) (t:TypeId) (off:Nat) (v:Value):(w.alloc (.cells cs t)).setCell ⟨w.heap.size,off,none⟩ v=w.alloc (.cells (cs.setIfInBounds off v) t):=by
 have e:∀ f:Obj→Obj,f (.cells cs t)=.cells (cs.setIfInBounds off v) t→(w.heap.push (.cells cs t)).modify w.heap.size f=w.heap.push (.cells (cs.setIfInBounds off v) t):=fun f hf=>by
  apply Array.ext_getElem?
  intro i
  rw [Array.getElem?_modify]
  by_cases h:w.heap.size=i
  ·subst h;simp [hf]
  rw [if_neg h,Array.getElem?_push,Array.getElem?_push]
  rw [if_neg (fun e=>h e.symm),if_neg (fun e=>h e.symm)]
 unfold World.setCell World.alloc
 simp only []
 rw [e _ rfl]
theorem zs4 (w:World) (t:TypeId):∀ (vs:List Value) (cs:Array Value) (off:Nat),(w.alloc (.cells cs t)).setCells w.heap.size off vs=w.alloc (.cells (zh1 cs off vs) t)
 | [],_,_=>rfl
 | v::vs,cs,off=>by
  show ((w.alloc (.cells cs t)).setCell ⟨w.heap.size,off,none⟩ v).setCells w.heap.size (off+1) vs=_
  rw [zI8,zs4 w t vs];rfl
theorem alstY (hF:WideF F) {i j:Nat} {rest:List Nat} {o2:Oper} {y:Operand} (d t:Nat) (z:Value) (vs:List Value) (h:wpOpsIn F n P ops Q rest ⟨(l.set d (.pointer (some ⟨w.heap.size,0,none⟩))).toArray,ds⟩ (w.alloc (.cells vs.toArray t)))
  (h1:One1 vs) (ho:ops[i]?=some o:=by rfl) (ae:ops[j]?=some o2:=by rfl) (hd:o.dst=some d:=by rfl) (hop:o.op=.alloc t:=by rfl) (ac:o2.op=.store t (.tmp d) y:=by rfl) (af:o2.dst=none:=by rfl)
  (hw:Region.wanted o (yielded ops (⟨l.toArray,ds⟩:Act).tmps)=true:=by kernel_rfl) (ad:∀ p,Region.wanted o2 (yielded ops (⟨(l.set d p).toArray,ds⟩:Act).tmps)=true:=by intro p;rfl)
  (hx:∀ p,(⟨(l.set d p).toArray,ds⟩:Act).eval (.tmp d)=p:=by intro p;rfl) (hy:∀ p,(⟨(l.set d p).toArray,ds⟩:Act).eval y=.agg vs.toArray:=by intro p;rfl)
  (hz:(P.info? t).map (fun i=>(i.zero,i.size))=some (some z,vs.length):=by kernel_rfl) (hzs:z.cells.size=vs.length:=by rfl) (hnd:zh9 o=true:=by kernel_rfl) (aa:zh9 o2=true:=by kernel_rfl):wpOpsIn F n P ops Q (i::j::rest) ⟨l.toArray,ds⟩ w:=by
 obtain ⟨info,hi,hzz⟩:=Option.map_eq_some_iff.1 hz
 simp only [Prod.mk.injEq] at hzz
 unfold wpOpsIn
 simp only [ho,hw,if_true]
 refine opIn hF hnd ?_
 unfold Oper.wp execOp
 simp only [hop,Instr.alloc,zeroValue,typeInfo,newVar,Sem.run_bind,zr9,Result.andThen_ok,Sem.run_pure,run_program,hi,hzz.1]
 show wpOpsIn F n P ops Q (j::rest) ((⟨l.toArray,ds⟩:Act).put o.dst _) _
 rw [hd,zd1]
 unfold wpOpsIn
 simp only [ae,ad,if_true]
 refine opIn hF aa ?_
 have hL:Lc (w.alloc (.cells z.cells t)) w.heap.size z.cells t:=heap_alloc_new w _
 have hrun:(storeVar t ⟨w.heap.size,0,none⟩ (.agg vs.toArray)).run P (w.alloc (.cells z.cells t))=.ok () (w.alloc (.cells vs.toArray t)):=by
  have h3:=run_storeCells_cells (P:=P) w.heap.size 0 vs 0 (w.alloc (.cells z.cells t)) (fun j hj=>by rw [Nat.add_zero,zc1 hL];simp;omega) (fun j hj=>zj0 hL _) h1.all
  simp only [Nat.add_zero] at h3
  rw [zs4] at h3
  have e:zh1 z.cells 0 vs=vs.toArray:=by
   have h4:=zm8 vs 0 z.cells.toList (by simp;omega)
   rw [Array.toArray_toList] at h4
   rw [h4]
   simp [hzs]
  rw [e] at h3
  have hc:(Value.agg vs.toArray).cells=vs.toArray:=rfl
  simp [storeVar,sizeOf,typeInfo,hi,hzz.2,hc,h3]
 unfold Oper.wp execOp
 simp only [ac,hx,hy,Instr.storeAt,Instr.sureAddr,Sem.run_bind,Sem.run_pure,Result.andThen_ok,hrun,Oper.upon,af,Act.put]
 exact h
theorem yldY (hF:WideF F) {i:Nat} {rest:List Nat} (d ll:Nat) {args:Array Value} {R:Ending→World→Prop} (hy:YieldAt F (n - 1) P ll args w R) (h:∀ e w',R e w'→∃ v,e=.returned v∧wpOpsIn F n P ops Q rest ⟨(l.set d v).toArray,ds⟩ w')
  (ho:ops[i]?=some o) (hd:o.dst=some d) (hw:Region.wanted o (yielded ops (⟨l.toArray,ds⟩:Act).tmps)=true)
  (hv:(execOp (⟨l.toArray,ds⟩:Act).eval o).run P w=(Instr.yield ll args).run P w) (hnd:zh9 o=true:=by kernel_rfl):wpOpsIn F n P ops Q (i::rest) ⟨l.toArray,ds⟩ w:=by
 unfold wpOpsIn
 simp only [ho,hw,if_true]
 obtain ⟨fn,tmps,assign,body,hrun,hR⟩:=hy
 refine ⟨fun f _=>hF.fn f,?_⟩
 rw [zq3 hnd,hv,hrun]
 refine ⟨(by rw [hF.depth];intro e;cases e),hR.mono fun e w' he=>?_⟩
 obtain ⟨v,rfl,hk⟩:=h e w' he
 show wpOpsIn F n P ops Q rest ((⟨l.toArray,ds⟩:Act).put o.dst v) w'
 rw [hd,zd1];exact hk
end
def ya5 (Ds:List Nat):List Deferred:=Ds.map (fun D=>⟨.collected D,#[]⟩)
def ya6 (P:Program) (fn:Func) (R:Ending→World→Prop):Exit→Act→World→Prop
 | .normal,a,w | .ret,a,w=>LeavesInM Fence.wide 9 P fn a.tmps R a.defers .returning w
 | _,_,_=>False
theorem enterN {P:Program} {f:FuncId} {fn:Func} {c:Code} {args:Array Value} {w:World} {R:Ending→World→Prop} (hf:P.funcs[f]?=some fn) (hb:fn.body=some c)
  (h:c.wp P (ya6 P fn R) {tmps:=args++Array.replicate (fn.ntmps - args.size) undef,defers:=[]} w):Calls P f args w R:=by
 refine (callsIn_wide (n:=9)).1 (callsIn_of_wp_marks hf hb trivial (wpIn_wide.2 (Code.wp_mono (fun e a w h=>?_) h)))
 cases e<;>first | exact h | exact h.elim
theorem ya7 {w:World} {D:Nat} {x:Option (List Deferred)} (o:Obj) (h:w.heap[D]?=some (.deferred x)):Wt 999999999 w (w.putObj D o):=
 ⟨rfl,rfl,rfl,by simp [World.putObj],fun b cs t fr _ hb=>(World.putObj_heap_other (fun e=>by subst e;rw [h] at hb;cases hb)).trans hb⟩
theorem Wt.trans {T:TypeId} {a b c:World} (h:Wt T a b) (k:Wt T b c):Wt T a c:=
 ⟨k.os.trans h.os,k.tape.trans h.tape,k.output.trans h.output,Nat.le_trans h.size k.size,fun b cs t fr ht hb=>k.block b cs t fr ht (h.block b cs t fr ht hb)⟩
theorem Wt.refl (T:TypeId) (w:World):Wt T w w:=⟨rfl,rfl,rfl,Nat.le_refl _,fun _ _ _ _ _ h=>h⟩
theorem ya8 {w0 w:World} {D:Nat} {o:Obj} (h:Gr w0 w) (hD:w0.heap.size≤D):Gr w0 (w.putObj D o):=
 ⟨h.os,h.tape,h.output,Nat.le_trans h.size (by simp [World.putObj]),fun k hk=>(World.putObj_heap_other (by omega)).trans (h.block k hk)⟩
theorem endN {P:Program} {fn:Func} {R:Ending→World→Prop} {tmps:Array Value} {w0:World}:∀ (Ds:List Nat) (w:World),Ds.Nodup→(∀ D ∈ Ds,w0.heap.size≤D∧w.heap[D]?=some (.deferred (some [])))→Gr w0 w→
  (∀ w',Wt 999999999 w w'→Gr w0 w'→∃ v,(results fn tmps).run P w'=.ok v w'∧R (.returned v) w')→LeavesInM Fence.wide 9 P fn tmps R (ya5 Ds) .returning w
 | [],w,_,_,hB,h=>h w (Wt.refl _ _) hB
 | D::Ds,w,hn,hD,hB,h=>by
  obtain ⟨h1,h2⟩:=hD D (by simp)
  obtain ⟨n1,n2⟩:=List.nodup_cons.1 hn
  refine ⟨by simp,.inl ⟨_,_,rfl,run_takeDeferred h2,?_⟩⟩
  exact endN Ds _ n2 (fun E hE=>⟨(hD E (by simp [hE])).1,(World.putObj_heap_other (fun e=>n1 (by rw [← e];exact hE))).trans (hD E (by simp [hE])).2⟩) (ya8 hB h1)
   (fun w' wt g=>h w' ((ya7 _ h2).trans wt) g)
theorem zG1 {β:Type} (B b:Nat) (cs:Array Value) (t:TypeId):OwnFrom B (fun (_:β) W=>Lc W b cs t):=fun _ X Y row hs hg hr=>by
 refine (hg.block b (ze8 hs) (fun e=>?_)).trans hs
 obtain ⟨_,o,ho,hc⟩:=hr b e.symm
 rw [show X.heap[b]?=_ from hs] at ho;cases ho;cases hc
theorem own_lcf {β:Type} (B b:Nat) (cs:β→Array Value) (t:TypeId):OwnFrom B (fun (x:β) W=>Lc W b (cs x) t):=fun x X Y row hs hg hr=>zG1 (β:=β) B b (cs x) t x X Y row hs hg hr
theorem ya9 {β γ:Type} {B:Nat} {I:γ→β→World→Prop} (h:∀ x,OwnFrom B (I x)):OwnFrom B (fun s W=>∃ x,I x s W):=fun s X Y row ⟨x,hs⟩ hg hr=>⟨x,h x s X Y row hs hg hr⟩
theorem own_gr {β:Type} {B:Nat} {w0:World} (h:w0.heap.size≤B):OwnFrom B (fun (_:β) W=>Gr w0 W):=ownFrom_below (Nat.le_refl _) h
theorem zG2 {w w':World} {b:Nat} {cs:Array Value} {t:TypeId} (h:St w w' b) (hL:Lc w b cs t) (hs:w.heap.size≤w'.heap.size):KeepsOthers w w':=
 ⟨hs,fun k o hk ho=>(h.block k (fun e=>by subst e;rw [show w.heap[k]?=_ from hL] at hk;cases hk;cases ho)).trans hk⟩
theorem zG3 {w w':World} (h:Gr w w'):KeepsOthers w w':=⟨h.size,fun _ _ hk _=>h.heap hk⟩
theorem gr_grown {w w':World} (h:Gr w w'):w.grownBy w' none:=⟨h.os,h.tape,h.output,h.size,fun k hk _=>h.block k hk⟩
def Kb (bs:List Nat) (w w':World):Prop:=∀ k cs t fr,k ∉ bs→w.heap[k]?=some (.cells cs t fr)→w'.heap[k]?=some (.cells cs t fr)
theorem Kb.trans {bs:List Nat} {a b c:World} (h:Kb bs a b) (g:Kb bs b c):Kb bs a c:=fun k cs t fr hk ha=>g k cs t fr hk (h k cs t fr hk ha)
theorem Kb.refl (bs:List Nat) (w:World):Kb bs w w:=fun _ _ _ _ _ h=>h
theorem Kb.put (bs:List Nat) (W:World) (l:Nat) (o o':Obj) (hl:W.heap[l]?=some o) (ho:o.isCells=false):Kb bs W (W.putObj l o'):=fun k cs t fr _ hk=>
 (World.putObj_heap_other (fun e=>by subst e;rw [hl] at hk;cases hk;cases ho)).trans hk
theorem Kb.gr {bs:List Nat} {w w':World} (h:Gr w w'):Kb bs w w':=fun _ _ _ _ _ hk=>h.heap hk
theorem Kb.lc {bs:List Nat} {w w':World} {b:Nat} {cs:Array Value} {t:TypeId} (h:Kb bs w w') (hb:b ∉ bs) (hL:Lc w b cs t):Lc w' b cs t:=h b cs t _ hb hL
theorem Kb.st {bs:List Nat} {w w':World} {b:Nat} (h:St w w' b) (hb:b ∈ bs):Kb bs w w':=fun k cs t fr hk hc=>(h.block k (fun e=>hk (e ▸ hb))).trans hc
theorem rf_two {α:Type} {P:Program} {g:Operand} {d1 d2 s1 s2:Nat} {assign body:Code} {Q:Exit→Act→World→Prop} {l:List Value} {Ds:List Nat} {w:World} {gf:Nat} {lb:Array Value} {lv:α→Int} {cv:α→List Value} {T:TypeId}
  {Kp:World→World→Prop} {S Sp:List α→Prop} {N:Nat} (hseq:SeqStopsK Fence.wide 8 P gf lb (fun k=>#[.int .i64 (lv k),.agg (cv k).toArray]) Kp S Sp N w)
  (hKt:∀ {A B C:World},Kp A B→Kp B C→Kp A C) (hKb:∀ (W:World) (l:Nat) (o o':Obj),W.heap[l]?=some o→o.isCells=false→Kp W (W.putObj l o')) (hKg:∀ {A B:World},Gr A B→Kp A B)
  (I:List α→World→Prop) (Ix:Code→List α→World→Prop) (hI:OwnFrom w.heap.size I) (hIx:∀ c,OwnFrom w.heap.size (Ix c)) (h0:I [] w)
  (hass:∀ (ll:Nat) (k:α) (W:World) (K:Act→World→Prop),K ⟨((((l.set s1 (.int .i64 (lv k))).set s2 (.agg (cv k).toArray)).set d1 (.int .i64 (lv k))).set d2 (.pointer (some ⟨W.heap.size,0,none⟩))).toArray,[]⟩ (W.alloc (.cells (cv k).toArray T))→
   assign.wpIn (Fence.wide.inRound ll) 7 P (Exit.then K (fun _ _ _=>False)) ⟨((l.set s1 (.int .i64 (lv k))).set s2 (.agg (cv k).toArray)).toArray,[]⟩ W)
  (hbody:∀ (ll B:Nat) (pre:List α) (k:α) (W:World),I pre W→w.heap.size≤B→pre.length<N→Lc W B (cv k).toArray T→
   body.wpIn (Fence.wide.inRound ll) 7 P (ownPostG w.heap.size Kp I Ix (pre++[k]) W) ⟨((((l.set s1 (.int .i64 (lv k))).set s2 (.agg (cv k).toArray)).set d1 (.int .i64 (lv k))).set d2 (.pointer (some ⟨B,0,none⟩))).toArray,[]⟩ W)
  (hdone:∀ (D:Nat) (xs:List α) (W:World),w.heap.size≤D→S xs→I xs W→W.heap[D]?=some (.deferred (some []))→Q .normal ⟨l.toArray,ya5 (D::Ds)⟩ W)
  (hstop:∀ (D:Nat) (c:Code) (pre:List α) (W:World),w.heap.size≤D→Sp pre→Ix c pre W→W.heap[D]?=some (.deferred (some []))→c.wp P Q ⟨l.toArray,ya5 (D::Ds)⟩ W)
  (hg:(⟨l.toArray,ya5 Ds⟩:Act).eval g=.func (.func gf) #[] lb:=by rfl) (eg:∀ args w,(callFunc gf args).run P w=.ok (.enter gf args) w):
  (Code.rangeFunc g #[s1,s2] assign body).wp P Q ⟨l.toArray,ya5 Ds⟩ w:=by
 refine (wpIn_wide (n:=9)).1 (wpIn_rangeFunc_ownH rfl (by decide) hg trivial eg hseq hKt (fun W l o o' _ h1 h2 _=>hKb W l o o' h1 h2) (Below.refl _ _) (fun _=>rfl) (fun pre W=>I pre W∧w.heap.size≤W.heap.size) Ix
  (hI.and (fun _ X Y _ hs hg _=>Nat.le_trans hs hg.size)) hIx ⟨h0,Nat.le_refl _⟩
  (fun k a' W=>∃ B,w.heap.size≤B∧Lc W B (cv k).toArray T∧a'=⟨((((l.set s1 (.int .i64 (lv k))).set s2 (.agg (cv k).toArray)).set d1 (.int .i64 (lv k))).set d2 (.pointer (some ⟨B,0,none⟩))).toArray,[]⟩)
  (fun k a'=>ya9 fun B=>(ownFrom_pure _ _).and ((zG1 _ _ _ _).and (ownFrom_pure _ _))) ?_ ?_ ?_ ?_)
 ·intro ll pre k W K hi hK
  have e0:(#[s1,s2]:Array Tmp).zip #[Value.int .i64 (lv k),.agg (cv k).toArray]=#[(s1,.int .i64 (lv k)),(s2,.agg (cv k).toArray)]:=by simp
  have e:((#[s1,s2]:Array Tmp).zip #[Value.int .i64 (lv k),.agg (cv k).toArray]).foldl (fun t (p,v)=>t.setIfInBounds p v) l.toArray=((l.set s1 (.int .i64 (lv k))).set s2 (.agg (cv k).toArray)).toArray:=by
   rw [e0]
   simp only [List.foldl_toArray',List.size_toArray,List.length_cons,List.length_nil,List.foldl_cons,List.foldl_nil,p2]
  dsimp only
  rw [e]
  refine hass ll k W K (hK _ _ ((KeepsOthers.alloc _ _).from _) (hKg (Gr.alloc W _)) ⟨hI.alloc _ hi.1,Nat.le_trans hi.2 (by simp)⟩ ⟨W.heap.size,hi.2,heap_alloc_new W _,rfl⟩)
 ·rintro ll pre k a' W hl _ hi ⟨B,hB,hLc,rfl⟩ hN
  refine Code.wpIn_mono (fun e a W' h=>?_) (hbody ll B pre k W hi.1 hB hN hLc)
  cases e<;>first | exact h | exact ⟨h.1,h.2.1,h.2.2,Nat.le_trans hi.2 h.1.size⟩
 ·rintro D xs W hD hxs hi hm
  exact hdone D xs W hD hxs hi.1 hm
 rintro D c pre W hD hp hi hm
 exact wpIn_wide.2 (hstop D c pre W hD hp hi hm)
section
variable {P:Program} {F:Fence} {n:Nat} {a:Act} {o:Oper} {w:World} {Q:Exit→Act→World→Prop} {ops:Array Oper}
theorem seY (hF:WideF F) {i:Nat} {rest:List Nat} (h:o.wp P a w (fun a w=>wpOpsIn F n P ops Q rest a w) Q) (ho:ops[i]?=some o:=by rfl) (hw:Region.wanted o (yielded ops a.tmps)=true:=by kernel_rfl) (hnd:zh9 o=true:=by kernel_rfl):wpOpsIn F n P ops Q (i::rest) a w:=by
 unfold wpOpsIn
 simp only [ho,hw,if_true]
 exact opIn hF hnd h
end
end Go.Proofs.YtjhflekncldflaaGreatDoor
namespace Go.Proofs.YtjhflekncldflaaGreatDoor
set_option maxRecDepth 100000
set_option maxHeartbeats 4000000
open Go.RowKit

theorem zQ5 {α:Type} (k0:α) (lv:α→Int) (cv:α→List Value) {n bl bx:Nat} {c0 c1 c2 c3:Value} {ao:Option Addr} {cap:Nat} (hcv:cv k0=[c0,c1,c2,c3,.slice ao 0 cap]) {Kp:World→World→Prop} (hKp:∀ A B,Kp A B→Lc A bx #[c0,c1,c2,c3,.slice ao 0 cap] 78→Lc B bx #[c0,c1,c2,c3,.slice ao 0 cap] 78)
    {w:World} (ap:Lc w bl #[iT (lv k0)] 3) (ae:Lc w bx #[c0,c1,c2,c3,.slice ao 0 cap] 78):
    SeqStopsK Fence.wide n Tryz.prog 124 #[pT bl 0,pT bx 0] (fun k=>#[iT (lv k),.agg (cv k).toArray]) Kp (fun xs=>xs=[k0]) (fun pre=>pre=[k0]) 1 w:=fun l J Jx W hW hJ hJx hY al=>by
  have hL:=ap.gr hW
  have hX:=ae.gr hW
  have aj:∀ W1,J [] W1→YieldAt Fence.wide (n - 1) Tryz.prog l #[iT (lv k0),.agg #[c0,c1,c2,c3,.slice ao 0 cap]] W1 fun e W'=>(e=.returned (.bool true)∧J [k0] W'∧Kp W1 W')∨(e=.returned (.bool false)∧Jx [k0] W'):=fun W1 hj=>by
    have:=hY [] k0 W1 hj Nat.zero_lt_one
    dsimp only at this
    rw [hcv] at this
    exact this
  clear hJx hY
  refine callsIn_of_wp Tryz.func124 rfl trivial ?_ rfl
  simp only [Tryz.ntmps124,List.size_toArray,List.length_cons,List.length_nil,Nat.reduceAdd,Nat.reduceSub,Array.replicate_succ,Array.replicate_zero,List.push_toArray,List.append_toArray,List.nil_append,List.cons_append]
  refine wpIn_seq_k (fun ax ak=>?_)
  refine rgY [0] ?_
  refine seY wide_wide (zy0 212 _ (.func (.yield l) #[] #[]) #[(.func (.yield l) #[] #[])] (some 3) rfl rfl rfl rfl (fun aB aD ac af az=>?_))
  have aa:=hJ _ _ _ none al (gr_grown ac) (fun r e=>by cases e)
  replace hL:=hL.gr ac
  replace hX:=hX.gr ac
  simp only [zd1,p3,p4]
  refine nilY ?_
  refine ak _ _ ?_
  refine wpIn_seq_k (fun av ah=>?_)
  refine wpIn_seq_k (fun au ad=>?_)
  refine rgY [0,1,2,3,4] ?_
  refine swY wide_wide 8 (.func (.yield l) #[] #[]) rfl (rk 212 0 af) ?_
  try simp only [p3,p4]
  refine swY wide_wide 9 (iT (lv k0)) rfl (rk 3 0 hL) ?_
  try simp only [p3,p4]
  refine swY wide_wide 10 (.agg #[c0,c1,c2,c3,.slice ao 0 cap]) rfl (rl 78 0 [c0,c1,c2,c3,.slice ao 0 cap] hX) ?_
  try simp only [p3,p4]
  refine yldY wide_wide 11 l (aj _ aa) ?_ rfl rfl (by kernel_rfl) (by kernel_rfl)
  rintro aE aw (⟨rfl,hJ14,hk14⟩ | ⟨rfl,hx14⟩)
  ·replace hX:=hKp _ _ hk14 hX
   refine ⟨_,rfl,?_⟩
   try simp only [p3,p4]
   refine svY wide_wide 12 (.bool false) ?_
   try simp only [p3,p4]
   refine nilY ?_
   refine ad _ _ ?_
   refine wpIn_cond_false rfl ?_
   refine wpIn_skip ?_
   refine ah _ _ ?_
   refine wpIn_seq_k (fun ar aq=>?_)
   refine rgY [0,1,2,3] ?_
   refine svY wide_wide 13 (pT bx 4) ?_
   try simp only [p3,p4]
   refine swY wide_wide 14 (.slice ao 0 cap) rfl (rk 76 4 hX) ?_
   try simp only [p3,p4]
   refine svY wide_wide 15 (iT 0) ?_
   try simp only [p3,p4]
   refine svY wide_wide 16 (iT 0) ?_
   try simp only [p3,p4]
   refine nilY ?_
   refine aq _ _ ?_
   refine wpIn_block ?_
   refine wpIn_loop_rounds 3 ?_
   show Code.wpIn _ _ _ _ _ _ _
   refine wpIn_seq_k (fun aC ai=>?_)
   refine rgY [0] ?_
   refine svY wide_wide 17 (.bool false) ?_
   try simp only [p3,p4]
   refine nilY ?_
   refine ai _ _ ?_
   refine wpIn_seq_k (fun aA ay=>?_)
   refine wpIn_cond_false rfl ?_
   refine wpIn_exit ?_
   simp only [Exit.then,Exit.inBlock,↓reduceIte]
   go_end0
   exact ⟨⟨_,rfl⟩,.inl ⟨[k0],rfl,hJ14⟩⟩
  refine ⟨_,rfl,?_⟩
  try simp only [p3,p4]
  refine svY wide_wide 12 (.bool true) ?_
  try simp only [p3,p4]
  refine nilY ?_
  refine ad _ _ ?_
  refine wpIn_cond_true rfl ?_
  refine wpIn_ret ?_
  simp only [Exit.then]
  refine bodyPost_ret (results_none rfl _ _ _) rfl ?_
  exact ⟨⟨_,rfl⟩,.inr ⟨[k0],rfl,hx14⟩⟩
end Go.Proofs.YtjhflekncldflaaGreatDoor
namespace Go.Proofs.YtjhflekncldflaaGreatDoor
set_option maxRecDepth 100000
set_option maxHeartbeats 4000000
open Go.RowKit

theorem zE3 {P:Program} {w:World} {fn:Func} {tmps:Array Value} {p:Tmp} {t:TypeId} (b:Nat) (v:Value) (tt:TypeId) (h:fn.results=#[.cell p t]) (hp:tmps.getD p undef=pT b 0) (hL:Lc w b #[v] tt) (hs:zp4 P t=true):
  (results fn tmps).run P w=.ok v w:=by
 have hl:(loadVar t ⟨b,0,none⟩).run P w=.ok v w:=by
  unfold zp4 at hs
  have hc:w.cell? ⟨b,0,none⟩=some v:=by rw [zc1 hL];rfl
  cases hd:P.underlying t with
  | none=>rw [hd] at hs;cases hs
  | some d=>
   rw [hd] at hs
   have hagg:(isAgg t).run P w=.ok false w:=by
    unfold isAgg
    rw [Sem.run_bind,run_underlying hd w]
    cases d<;>first | cases hs | rfl
   simp only [loadVar,Sem.run_bind,hagg,Result.andThen_ok]
   simp [load,Sem.run,hc]
 simp only [Array.getD_eq_getD_getElem?] at hp
 simp [results,h,asAddr,hp,hl]
def fes {α:Type} (g:α→Int):List α→Int
 | []=>0
 | k::ks=>if g k=0 then fes g ks else g k
theorem zV1 {α:Type} {g:α→Int}:∀ {ks:List α},(∀ j ∈ ks,g j=0)→fes g ks=0
 | [],_=>rfl
 | k::ks,h=>by unfold fes;rw [if_pos (h k (by simp))];exact zV1 fun j hj=>h j (by simp [hj])
theorem zV2 {α:Type} {g:α→Int} {k:α} {r:List α} (hk:g k≠0):∀ {p:List α},(∀ j ∈ p,g j=0)→fes g (p++k::r)=g k
 | [],_=>by unfold fes;exact if_neg hk
 | q::p,h=>by
  rw [List.cons_append]
  unfold fes;rw [if_pos (h q (by simp))]
  exact zV2 hk fun j hj=>h j (by simp [hj])
theorem fes_stop {α:Type} {g:α→Int} {ks p:List α} {k:α} {m:Nat} (h:p++[k]=ks.take m) (hp:∀ j ∈ p,g j=0) (hk:g k≠0):fes g ks=g k:=by
 have e:ks=p++k::ks.drop m:=by
  have:=List.take_append_drop m ks
  rw [← h] at this
  exact this.symm.trans (by simp)
 rw [e];exact zV2 hk hp
theorem mem_snoc {α:Type} {p:List α} {k:α} {q:α→Prop} (h:∀ j ∈ p,q j) (hk:q k):∀ j ∈ p++[k],q j:=fun j hj=>by
 rcases List.mem_append.1 hj with hj | hj
 ·exact h j hj
 rw [List.mem_singleton.1 hj];exact hk
theorem di_nodes {c0 c1 c2 c3 c4:Value} {lv:Int} {w:World} (_o0:c0.oneCell'=true) (_o1:c1.oneCell'=true) (_o2:c2.oneCell'=true) (_o3:c3.oneCell'=true) (_o4:c4.oneCell'=true):
    Calls Tryz.prog 101 #[.agg #[c0,c1,c2,c3,c4],iT (lv)] w fun e w'=>(∃ bl bx,e=.returned (.func (.func 124) #[] #[pT bl 0,pT bx 0])∧w.heap.size≤bl∧w.heap.size≤bx∧Lc w' bl #[iT lv] 3∧Lc w' bx #[c0,c1,c2,c3,c4] 78)∧Gr w w':=by
 go_enter Tryz.func101,Tryz.ntmps101
 have hB:=Gr.refl w
 refine wp_seq_k (fun ar ah=>rg [0,1,2] ?_)
 refine se ?_
 refine eb 78 #[c0,c1,c2,c3,c4] 2 hB fun ac av au aa al aj hB=>?_
 simp only [p3,p4]
 refine se ?_
 refine zy0 3 _ (iT (lv)) #[iT (lv)] (some 3) rfl rfl rfl rfl (fun ae ap af ak ad=>?_)
 replace ad:=Nat.le_trans (Below.size hB) ad
 replace hB:=hB.trans af
 simp only [zd1,p3,p4]
 refine sv 4 .nilFunc (za0 (ah _ _ ?_))
 refine wp_seq_k (fun aq ai=>rg [0,1] (sv 5 (.func (.func 124) #[] #[pT ae 0,pT ac 0]) ?_))
 refine sv 4 (.func (.func 124) #[] #[pT ae 0,pT ac 0]) (za0 (ai _ _ ?_))
 refine wp_ret ?_
 refine bodyPost_ret (v:=(.func (.func 124) #[] #[pT ae 0,pT ac 0])) (za3 rfl rfl) rfl ⟨?_,hB⟩
 replace aa:=aa.gr af
 exact ⟨_,_,rfl,ad,aj,ak,aa⟩

theorem zQ6 {α:Type} {ks:List α} {lv:α→Int} {cv:α→List Value} {el:α→Exl} {N:Nat} (hn:N≤64) (hlv:∀ k,lv k≤8) (_hkl:ks.length≤64) {x:Exl} {u0:Value} {T0 cap0:Nat} {ao0:Option Addr} {w:World} (hm:Mx w) (ba:Sl ETr T0 2 w u0 (tb x.tm x.tn)) (hel:∀ k,∃ (u:Value) (T:Nat) (ao:Option Addr) (cap:Nat),cv k=[iT (el k).op,ze3 (el k).c,u,ze3 (el k).k,.slice ao (el k).na cap]∧Sl ETr T 2 w u (tb (el k).tm (el k).tn)) (hseq:∀ (W:World) (bl bx:Nat) (bs:List Nat),Gr w W→bl ∉ bs→bx ∉ bs→Lc W bl #[iT 1] 3→Lc W bx #[iT x.op,ze3 x.c,u0,ze3 x.k,.slice ao0 x.na cap0] 78→SeqStopsK Fence.wide 8 Tryz.prog 124 #[pT bl 0,pT bx 0] (fun k=>#[iT (lv k),.agg (cv k).toArray]) (Kb bs) (fun xs=>xs=ks) (fun pre=>∃ m,pre=ks.take m) ks.length W):
    Calls Tryz.prog 74 #[.agg #[iT (x.op),sV x.c,u0,sV x.k,.slice ao0 x.na cap0],iT (N:Int)] w fun e w'=>e=.returned (iT (fes (fun k=>nde N (el k)) ks))∧Gr w w':=by
 refine enterN Tryz.func74 rfl ?_
 simp only [Tryz.ntmps74,List.size_toArray,List.length_cons,List.length_nil,Nat.reduceAdd,Nat.reduceSub,Array.replicate_succ,Array.replicate_zero,List.push_toArray,List.append_toArray,List.nil_append,List.cons_append]
 have hB:=Gr.refl w
 refine wp_seq_k (fun bM bh=>rg [0,1,2] ?_)
 refine se ?_
 refine eb 78 #[iT (x.op),sV x.c,u0,sV x.k,.slice ao0 x.na cap0] 2 hB fun bt bQ bU aj bE bn hB=>?_
 simp only [p3,p4]
 refine se ?_
 refine zy0 3 _ (iT (N:Int)) #[iT (N:Int)] (some 3) rfl rfl rfl rfl (fun bf bV aN ae bO=>?_)
 replace hB:=hB.trans aN
 simp only [zd1,p3,p4]
 refine se ?_
 refine ze1 29 (iT 0) #[iT 0] (some 4) rfl rfl (by kernel_rfl) rfl (fun aG bC aE aa au=>?_)
 replace aj:=aj.gr aN
 replace au:=Nat.le_trans (Below.size hB) au
 replace hB:=hB.trans aE
 simp only [zd1,p3,p4]
 refine za0 (bh _ _ ?_)
 refine wp_seq_k (fun bq a8=>wp_seq_k (fun bK aU=>rg [0,1,2,3,4,5] ?_))
 replace ae:=ae.gr aE
 refine sw 9 (iT (N:Int)) rfl (rk 3 0 ae) ?_
 have aB:(decide ((N:Int)<(0:Int)))=false:=(by simp only [decide_eq_false_iff_not];omega)
 refine sw 10 (.bool false) rfl (RunV.bool (x:=decide ((N:Int)<(0:Int))) (rvk (by kernel_rfl)) aB) ?_
 refine sv 11 (.bool false) ?_
 refine sw 12 (iT (N:Int)) rfl (rk 3 0 ae) ?_
 have az:(decide ((64:Int)<(N:Int)))=false:=(by simp only [decide_eq_false_iff_not];omega)
 refine sw 13 (.bool false) rfl (RunV.bool (x:=decide ((64:Int)<(N:Int))) (rvk (by kernel_rfl)) az) ?_
 refine sv 14 (.bool false) (za0 (aU _ _ ?_))
 refine wp_cond_false rfl ?_
 refine wp_skip ?_
 refine a8 _ _ ?_
 refine wp_seq_k (fun bR aS=>rg [0,1] ?_)
 refine se ?_
 refine ze1 3 (iT 0) #[iT 0] (some 5) rfl rfl (by kernel_rfl) rfl (fun aM bS av ac aq=>?_)
 replace aj:=aj.gr aE
 have ai:=aj.ne aq
 have af:=ae.ne aq
 have ad:=aa.ne aq
 replace aq:=Nat.le_trans (Below.size hB) aq
 replace hB:=hB.trans av
 simp only [zd1,p3,p4]
 refine se ?_
 refine es 3 0 (iT 0) [iT 0] #[iT 0] ac hB aq ⟨rfl,trivial⟩ fun bu ap aV ac hB=>?_
 refine za0 (aS _ _ ?_)
 refine wp_seq_k (fun bp a7=>wp_seq_k (fun bm bi=>rg [0,1] ?_))
 replace aj:=ap.lc (aj.gr av) ai
 refine sw 15 (.agg #[iT (x.op),sV x.c,u0,sV x.k,.slice ao0 x.na cap0]) rfl (rl 78 0 [iT (x.op),sV x.c,u0,sV x.k,.slice ao0 x.na cap0] aj) ?_
 refine se ?_
 replace aa:=ap.lc (aa.gr av) ad
 have a5:=aa.lt
 have a6:=ac.lt
 refine ec 16 (di_nodes (c0:=iT x.op) (c1:=.string ⟨x.c.toArray⟩) (c2:=u0) (c3:=.string ⟨x.k.toArray⟩) (c4:=.slice ao0 x.na cap0) (lv:=1) rfl rfl (ba.gr zv8 hB).one rfl rfl) ?_
 rintro bj bD ⟨⟨aY,a0,rfl,aZ,aO,aF,aC⟩,aw⟩
 refine ⟨_,rfl,?_⟩
 replace hB:=hB.trans aw
 simp only [p3,p4]
 refine za0 (bi _ _ ?_)
 refine wp_block ?_
 replace ae:=(ap.lc (ae.gr av) af).gr aw
 replace aa:=aa.gr aw
 replace ac:=ac.gr aw
 have aL:=hB
 refine rf_two (Ds:=[]) (d1:=6) (d2:=7) (T:=78) (lv:=lv) (cv:=cv) (hseq _ _ _ [aG,aM] hB (by simp only [List.mem_cons,List.not_mem_nil,or_false];omega) (by simp only [List.mem_cons,List.not_mem_nil,or_false];omega) aF aC) Kb.trans (Kb.put _) Kb.gr (fun pre W'=>Gr w W'∧Lc W' bf #[iT (N:Int)] 3∧Lc W' aG #[iT 0] 29∧Lc W' aM #[iT (pre.length:Int)] 3∧∀ j ∈ pre,nde N (el j)=0) (fun c pre W'=>c=.ret∧Gr w W'∧∃ p k,pre=p++[k]∧(∀ j ∈ p,nde N (el j)=0)∧nde N (el k)≠0∧Lc W' aG #[iT (nde N (el k))] 29) ((own_gr hB.size).and ((zG1 _ _ _ _).and ((zG1 _ _ _ _).and ((own_lcf _ _ (fun pre:List α=>#[iT (pre.length:Int)]) _).and (ownFrom_pure _ _))))) (fun _=>(ownFrom_pure _ _).and ((own_gr hB.size).and (ya9 fun _=>ya9 fun _=>(ownFrom_pure _ _).and ((ownFrom_pure _ _).and ((ownFrom_pure _ _).and (zG1 _ _ _ _)))))) ⟨hB,ae,aa,ac,fun _ h=>absurd h (by simp)⟩ ?_ ?_ ?_ ?_ rfl (enters_of Tryz.func124 (by kernel_rfl) rfl)
 ·intro ll k W K hK
  try simp only [p3,p4]
  refine wpIn_seq_k (fun K1 k1=>?_)
  refine rgI (zf9 ll) [0] ?_
  refine sv 6 (iT (lv k)) ?_
  try simp only [p3,p4]
  refine za0 (k1 _ _ ?_)
  obtain ⟨u,T,ao,cap,ecv,hu⟩:=hel k
  rw [ecv] at hK ⊢
  refine rgY [0,1] ?_
  refine alstY (zf9 ll) 7 78 (.agg #[iT 0,sV [],sN,sV [],sN]) [iT (el k).op,ze3 (el k).c,u,ze3 (el k).k,.slice ao (el k).na cap] ?_ ⟨rfl,rfl,hu.one,rfl,rfl,trivial⟩
  try simp only [p3,p4]
  refine nilY ?_
  exact hK
 ·rintro ll b7 pre k W ⟨hB,ae,aa,ac,hpre⟩ hqB hN L7
  obtain ⟨u,T,ao,cap,ecv,hu⟩:=hel k
  rw [ecv] at L7 ⊢
  have br:=hlv k
  try simp only [p3,p4]
  refine wpIn_block ?_
  refine wpIn_seq_k (fun bJ aX=>?_)
  refine wpIn_seq_k (fun bN aP=>?_)
  refine rgI (zf9 ll) [0,1] ?_
  refine sw 19 (iT (pre.length:Int)) rfl (rk 3 0 ac) ?_
  have ay:((pre.length:Int)==(64:Int))=false:=(by rw [beq_eq_false_iff_ne];omega)
  refine sw 20 (.bool false) rfl (RunV.bool (x:=((pre.length:Int)==(64:Int))) (rvk (by kernel_rfl)) ay) ?_
  refine za0 (aP _ _ ?_)
  refine wpIn_cond_false rfl ?_
  refine wpIn_skip ?_
  refine aX _ _ ?_
  refine wpIn_seq_k (fun bw bb=>?_)
  refine wpIn_seq_k (fun bG a1=>?_)
  refine rgI (zf9 ll) [0,1] ?_
  refine sv 21 (iT (lv k)) ?_
  have ax:(decide ((8:Int)<lv k))=false:=(by simp only [decide_eq_false_iff_not];omega)
  refine sw 22 (.bool false) rfl (RunV.bool (x:=decide ((8:Int)<lv k)) (rvk (by kernel_rfl)) ax) ?_
  refine za0 (a1 _ _ ?_)
  refine wpIn_cond_false rfl ?_
  refine wpIn_skip ?_
  refine bb _ _ ?_
  refine wpIn_seq_k (fun bo bg=>?_)
  refine wpIn_seq_k (fun bk a9=>?_)
  refine rgI (zf9 ll) [0,1,2,3] ?_
  refine sw 23 (.agg #[iT ((el k).op),sV ((el k).c),u,sV ((el k).k),.slice ao (el k).na cap]) rfl (rl 78 0 [iT ((el k).op),sV ((el k).c),u,sV ((el k).k),.slice ao (el k).na cap] L7) ?_
  refine sw 24 (iT (N:Int)) rfl (rk 3 0 ae) ?_
  refine se ?_
  refine ec 25 (di_node (x:=el k) (ao:=ao) (cap:=cap) hn (hm.gr hB) (hu.gr zv8 hB)) ?_
  rintro bL bv ⟨rfl,ak⟩
  refine ⟨_,rfl,?_⟩
  replace hB:=hB.trans ak
  simp only [p3,p4]
  refine sv 8 (iT (nde N (el k))) (za0 (a9 _ _ ?_))
  refine wpIn_seq_k (fun bA aQ=>?_)
  refine rgI (zf9 ll) [0,1] ?_
  refine sv 26 (iT (nde N (el k))) ?_
  refine sv 27 (.bool (nde N (el k) !=(0:Int))) (za0 (aQ _ _ ?_))
  refine wpIn_cond_split (t:=(nde N (el k) !=(0:Int))) rfl (fun al=>?_) (fun al=>?_)
  ·have hz:¬ (nde N (el k)=0):=bne_iff_ne.1 al
   refine wpIn_seq_k (fun bT aW=>?_)
   refine rgI (zf9 ll) [0,1] ?_
   refine sv 28 (iT (nde N (el k))) ?_
   refine se ?_
   replace aa:=aa.gr ak
   have aH:=aa
   refine es 29 0 (iT (nde N (el k))) [iT (nde N (el k))] #[iT (nde N (el k))] aa hB au ⟨rfl,trivial⟩ fun bF ar aT aa hB=>?_
   refine za0 (aW _ _ ?_)
   refine wpIn_ret ?_
   simp only [Exit.then,Exit.inBlock]
   exact ⟨((zG3 ak).from _).trans ((zG2 ar aH (Nat.le_of_eq ar.size.symm)).from _),rfl,hB,pre,k,rfl,hpre,hz,aa⟩
  have hz:nde N (el k)=0:=by simpa using al
  refine wpIn_skip ?_
  refine bg _ _ ?_
  refine rgI (zf9 ll) [0,1,2] ?_
  replace ac:=ac.gr ak
  refine sw 29 (iT (pre.length:Int)) rfl (rk 3 0 ac) ?_
  refine sw 30 (iT ((pre.length:Int)+1)) rfl (rwI ((pre.length:Int)+1)) ?_
  refine se ?_
  have aK:=ac
  refine es 3 0 (iT ((pre.length:Int)+1)) [iT ((pre.length:Int)+1)] #[iT ((pre.length:Int)+1)] ac hB aq ⟨rfl,trivial⟩ fun bI ah aR ac hB=>?_
  refine za0 ?_
  replace ae:=ah.lc (ae.gr ak) af
  replace aa:=ah.lc (aa.gr ak) ad
  exact ⟨((zG3 ak).from _).trans ((zG2 ah aK (Nat.le_of_eq ah.size.symm)).from _),(Kb.gr ak).trans (Kb.st ah (by simp)),hB,ae,aa,(by rw [List.length_append];exact ac),mem_snoc hpre hz⟩
 ·rintro D xs a3 hD rfl ⟨hB,ae,aa,ac,hall⟩ hM
  refine a7 _ _ ?_
  refine wp_seq_k (fun bB a4=>rg [0] ?_)
  refine se ?_
  have aA:=aa
  refine es 29 0 (iT 0) [iT 0] #[iT 0] aa hB au ⟨rfl,trivial⟩ fun bW aI a2 aa hB=>?_
  refine za0 (a4 _ _ ?_)
  refine wp_ret ?_
  replace hM:=(aI.block D (fun e=>by subst e;have:=hM.symm.trans aA;cases this)).trans hM
  refine endN [D] _ (by simp) (fun E hE=>by rw [List.mem_singleton.1 hE];exact ⟨Nat.le_trans (Below.size aL) hD,hM⟩) hB (fun bP aD hB=>?_)
  replace aa:=aD.lc aa (by decide)
  refine ⟨iT 0,zE3 _ _ _ rfl rfl aa (by kernel_rfl),?_,hB⟩
  exact congrArg (fun z=>Ending.returned (iT z)) (zV1 hall).symm
 rintro D c xs a3 hD ⟨m,hpm⟩ ⟨rfl,hB,p,k,rfl,hp,hz,aa⟩ hM
 refine wp_ret ?_
 simp only [Exit.then,Exit.inBlock]
 refine endN [D] _ (by simp) (fun E hE=>by rw [List.mem_singleton.1 hE];exact ⟨Nat.le_trans (Below.size aL) hD,hM⟩) hB (fun bH aJ hB=>?_)
 replace aa:=aJ.lc aa (by decide)
 refine ⟨iT (nde N (el k)),zE3 _ _ _ rfl rfl aa (by kernel_rfl),?_,hB⟩
 exact congrArg (fun z=>Ending.returned (iT z)) (fes_stop hpm hp hz).symm

end Go.Proofs.YtjhflekncldflaaGreatDoor
namespace Go.Proofs.YtjhflekncldflaaGreatDoor
open Go.RowKit
theorem zF1 {N:Nat} (hn:N≤64) {x:Exl} (h0:x.na=0) {u:Value} {T cap:Nat} {ao:Option Addr} {w:World} (hm:Mx w) (hu:Sl ETr T 2 w u (tb x.tm x.tn)):
  Calls Tryz.prog 74 #[.agg #[.int .i64 x.op,.string ⟨x.c.toArray⟩,u,.string ⟨x.k.toArray⟩,.slice ao x.na cap],.int .i64 (N:Int)] w fun e w'=>e=.returned (.int .i64 (nde N x))∧Gr w w':=by
 have h:=zQ6 (α:=Unit) (ks:=[()]) (lv:=fun _=>1) (cv:=fun _=>[.int .i64 x.op,ze3 x.c,u,ze3 x.k,.slice ao x.na cap]) (el:=fun _=>x) hn (fun _=>by decide) (by decide) hm hu (ao0:=ao) (cap0:=cap)
  (fun _=>⟨u,T,ao,cap,rfl,hu⟩) (fun W bl bx bs g hbl hbx hL hX=>fun l J Jx W1 hW hJ hJx hY aa=>by
   have hX':Lc W bx #[.int .i64 x.op,ze3 x.c,u,ze3 x.k,.slice ao 0 cap] 78:=by rw [← h0];exact hX
   have:=zQ5 (n:=8) () (fun _:Unit=>(1:Int)) (fun _=>[.int .i64 x.op,ze3 x.c,u,ze3 x.k,.slice ao x.na cap]) (by rw [h0]) (Kp:=Kb bs) (fun A B h hA=>h.lc hbx hA) hL hX'
   refine (this l J Jx W1 hW hJ hJx hY aa).mono fun e w' he=>⟨he.1,?_⟩
   rcases he.2 with he | ⟨p,rfl,hp⟩
   ·exact .inl he
   exact .inr ⟨_,⟨1,rfl⟩,hp⟩)
 refine h.mono fun e w' he=>⟨he.1.trans ?_,he.2⟩
 unfold fes fes
 by_cases hz:nde N x=0
 ·rw [if_pos hz,hz]
 rw [if_neg hz]
section
variable {D:Ofr} {r i j k:Nat}
def Ofr.fcj (D:Ofr) (r j i:Nat):Rat:=if ((D.tms r).take j).any (fun t=>t.1==i) then D.fc r i else 0
theorem zJ3 {t:Nat × Rat} (h:t ∈ D.tms r):t.1<D.n∧t.2=D.fc r t.1:=by
 unfold Ofr.tms Ofr.nzd at h
 obtain ⟨i,hi,rfl⟩:=List.mem_map.1 h
 exact ⟨List.mem_range.1 (List.mem_filter.1 hi).1,rfl⟩
theorem zB9 (h:j<(D.tms r).length):(D.tms r).getD j (0,0) ∈ D.tms r:=by
 rw [List.getD_eq_getElem?_getD,List.getElem?_eq_getElem h]
 exact List.getElem_mem h
theorem zY6 (h:j<(D.tms r).length):((D.tms r).getD j (0,0)).1<D.n:=(zJ3 (zB9 h)).1
theorem zY7:(D.tms r).length≤D.n:=by
 unfold Ofr.tms Ofr.nzd
 rw [List.length_map]
 have:=List.length_filter_le (fun i=>decide (D.fc r i≠0)) (List.range D.n)
 rwa [List.length_range] at this
theorem zY8 (ok:D.Ok) (hr:r<D.q) (h:j<(D.tms r).length):RZ 60 60 (((D.tms r).getD j (0,0)).2):=by
 obtain ⟨h1,h2⟩:=zJ3 (zB9 h)
 rw [h2];exact (ok.fc r _ hr h1).mono (by omega) (by omega)
theorem fcj_set (h:j<(D.tms r).length):(fun i=>if i=((D.tms r).getD j (0,0)).1 then ((D.tms r).getD j (0,0)).2 else D.fcj r j i)=D.fcj r (j+1):=by
 funext i
 have e:(D.tms r).take (j+1)=(D.tms r).take j++[(D.tms r).getD j (0,0)]:=by
  rw [List.take_add_one,List.getD_eq_getElem?_getD,List.getElem?_eq_getElem h];rfl
 unfold Ofr.fcj
 rw [e,List.any_append]
 by_cases hi:i=((D.tms r).getD j (0,0)).1
 ·rw [if_pos hi,(zJ3 (zB9 h)).2,← hi]
  simp [hi]
 rw [if_neg hi]
 have:([(D.tms r).getD j (0,0)].any fun t=>t.1==i)=false:=by
  simp only [List.any_cons,List.any_nil,Bool.or_false,beq_eq_false_iff_ne]
  exact fun e=>hi e.symm
 rw [this,Bool.or_false]
theorem fcj_all (hi:i<D.n):D.fcj r (D.tms r).length i=D.fc r i:=by
 unfold Ofr.fcj
 rw [List.take_length]
 by_cases h:D.fc r i=0
 ·rw [h];split<;>rfl
 rw [if_pos]
 rw [List.any_eq_true]
 refine ⟨(i,D.fc r i),?_,by simp⟩
 unfold Ofr.tms Ofr.nzd
 exact List.mem_map.2 ⟨i,List.mem_filter.2 ⟨List.mem_range.2 hi,by simpa using h⟩,rfl⟩
theorem RZ.rmin {a b:Rat} (h:RZ 60 60 a) (g:RZ 60 60 b):RZ 60 60 (rmin a b):=by unfold Proofs.YtjhflekncldflaaGreatDoor.rmin;split<;>assumption
theorem RZ.rmax {a b:Rat} (h:RZ 60 60 a) (g:RZ 60 60 b):RZ 60 60 (rmax a b):=by unfold Proofs.YtjhflekncldflaaGreatDoor.rmax;split<;>assumption
theorem sl_sz (ok:D.Ok) (hr:r<D.q) (hi:i<D.n) (hk:k<D.ol i):Sz 64 (D.sl r i k).num∧Sz 64 ((D.sl r i k).den:Int):=((ok.ea hr hi hk).rmin (ok.eb hr hi hk)).sz64
theorem su_sz (ok:D.Ok) (hr:r<D.q) (hi:i<D.n) (hk:k<D.ol i):Sz 64 (D.su r i k).num∧Sz 64 ((D.su r i k).den:Int):=((ok.ea hr hi hk).rmax (ok.eb hr hi hk)).sz64
end
section
variable {α:Type} {P:Program} {a:Act} {o:Oper} {w:World} {Q:Exit→Act→World→Prop} {K:Act→World→Prop}
theorem zC0 {E:World→α→List Value→Prop} {ts:List TypeId} (hS:zn8 E ts) (s x:Operand) (t:TypeId) (T B:Nat) (z:Value) (v:Value) (xs:List α) (b:Nat) (us:List Value) (x0:α) (c cx:Nat) (d:Option Tmp) (bytes:Nat) (hd:o.dst=d)
  (ho:o.op=.call {callee:=.builtin .append,args:=#[s,x],argTypes:=#[t,t]}) (hs:a.eval s=v) (hx:a.eval x=.slice (some ⟨b,0,none⟩) 1 cx)
  (hown:Ow E T c w B v xs) (hL:Lc w b us.toArray T) (hu:One1 us) (hl:us.length=c) (hE:E w x0 us) (hBw:B≤w.heap.size) (hn:xs.length≤1000000) (hbytes:bytes≤1000)
  (ht:P.underlying t=some (.slice T)) (hi:(P.info? T).map (fun i=>(i.zero,i.size,i.bytes))=some (some z,c,bytes)) (hzs:z.cells.size=c∧0<c) (hT:(ts.all fun t=>t !=T)=true)
  (h:∀ v' w',Ow E T c w' B v' (xs++[x0])→Wt T w w'→(∀ w0,Gr w0 w→w0.heap.size≤B→Gr w0 w')→(∀ k cs t,(∀ g n cap,v=.slice (some ⟨g,0,none⟩) n cap→k≠g)→Lc w k cs t→Lc w' k cs t)→K (a.put d v') w'):o.wp P a w K Q:=by
 subst hd
 obtain ⟨ys,hown,hEl⟩:=hown
 obtain ⟨i,hi,hz,hsize,hby⟩:=info_parts hi
 have ac:(xs.length+1)*bytes≤1000001*1000:=Nat.mul_le_mul (by omega) hbytes
 refine wp_append_own w s x t ho B T i z c bytes ht hi hz hsize hby hzs.1 hzs.2 v xs.length ys hs hown ⟨b,0,none⟩ 1 cx us hx (by omega) (fun j y hj=>?_) hu.all (by unfold maxLen;omega) (by omega) hBw ?_
 ·have e:(⟨b,0,none⟩:Addr).add j=⟨b,j,none⟩:=by by_cases h0:j=0<;>simp [Addr.add,h0]
  rw [e,zc1 hL];simpa using hj
 intro v' w' h2 hg _
 have hnew:∀ k,v.ownBlock=some k→B≤k∧(∃ cur,w.heap[k]?=some (.cells cur T (0,0)))∧∃ n cap,v=.slice (some ⟨k,0,none⟩) n cap:=by
  intro k hk
  rcases hown.2 with ⟨rfl,_⟩ | ⟨g,cap,cur,rfl,hb,hgg,_⟩
  ·simp [Value.ownBlock] at hk
  simp [Value.ownBlock] at hk
  subst hk;exact ⟨hb,⟨cur,hgg⟩,_,_,rfl⟩
 have hwt:Wt T w w':=⟨hg.os,hg.tape,hg.output,hg.size,fun k cs t fr ht hk=>by
  rw [hg.block k (ze8 hk) (fun e=>?_)]
  ·exact hk
  obtain ⟨_,⟨cur,hc⟩,_⟩:=hnew k e.symm
  rw [hk] at hc
  simp only [Option.some.injEq,Obj.cells.injEq] at hc
  exact ht hc.2.1⟩
 refine h v' w' ⟨_,by simpa using h2,(hEl.snoc hl hE).kts hS (hwt.kts hT)⟩ hwt (fun w0 hB aa=>?_) fun k cs t hne hk=>?_
 ·refine Below.trans hB ⟨hg.os,hg.tape,hg.output,hg.size,fun k hk=>hg.block k (Nat.lt_of_lt_of_le hk hB.size) (fun e=>?_)⟩
  have:=(hnew k e.symm).1
  omega
 unfold Lc at hk ⊢
 rw [hg.block k (ze8 hk) (fun e=>?_)]
 ·exact hk
 obtain ⟨_,_,n,cap,e2⟩:=hnew k e.symm
 exact hne k n cap e2 rfl
end
section
variable {P:Program} {ops:Array Oper} {Q:Exit→Act→World→Prop} {S0:World→Prop} {HS:List (List Nat × (World→Prop))}
def zo0 (l:List (Bool × Nat)) (ls:Array Bool):Array Bool:=l.foldl (fun s x=>s.setIfInBounds x.2 true) ls
def zz3 (ops:Array Oper) (TLs:List (List Nat)) (C:Array Bool→Bool):List (Bool × Nat)→Array Bool→Bool
 | [],ls=>C ls
 | (true,k)::rest,ls=>(Region.ready .any ops ls).contains k&&Region.free .any ops ls k&&TLs.all (fun x=>!x.contains k)&&zz3 ops TLs C rest (ls.setIfInBounds k true)
 | (false,k)::rest,ls=>decide (Region.ready .any ops ls=[k])&&zz3 ops TLs C rest (ls.setIfInBounds k true)
def okOTT (ops:Array Oper) (TLs:List (List Nat)):OT→Array Bool→Bool
 | .fin l,ls=>zt2 ops TLs l ls
 | .two l i j t s,ls=>zz3 ops TLs (fun ls=>decide (Region.ready .any ops ls=[i,j])&&okOTT ops TLs t (ls.setIfInBounds i true)&&okOTT ops TLs s (ls.setIfInBounds j true)) l ls
def zR6 (P:Program) (ops:Array Oper) (Q:Exit→Act→World→Prop) (S0:World→Prop) (HS:List (List Nat × (World→Prop))):OT→Array Bool→Act→World→Prop
 | .fin l,ls=>zf7 P ops Q S0 HS l ls
 | .two l i j t s,ls=>zf7 P ops (yb6 Q fun a w=>zf7 P ops (yb6 Q (zR6 P ops Q S0 HS t ((zo0 l ls).setIfInBounds i true))) S0 HS [(false,i)] (zo0 l ls) a w∧
   zf7 P ops (yb6 Q (zR6 P ops Q S0 HS s ((zo0 l ls).setIfInBounds j true))) S0 HS [(false,j)] (zo0 l ls) a w) S0 HS l ls
theorem zR7 (hs:Region.noSelect ops=true) (hQ:∀ c (a:Act) (d:Tmp) v w,Q (.panic c) (a.put (some d) v) w→Q (.panic c) a w) (C:Array Bool→Bool) (A:Act→World→Prop) (n:Nat):
  ∀ (l:List (Bool × Nat)) (fuel:Nat) (ls:Array Bool) (a:Act) (w:World),(∀ (fuel:Nat) (a:Act) (w:World),n≤fuel→Closed ops (zo0 l ls)→C (zo0 l ls)=true→Till S0 HS (zo0 l ls) w→A a w→zs9 P ops Q S0 HS fuel (zo0 l ls) a w)→
   l.length+n≤fuel→Closed ops ls→zz3 ops (HS.map (·.1)) C l ls=true→Till S0 HS ls w→zf7 P ops (yb6 Q A) S0 HS l ls a w→zs9 P ops Q S0 HS fuel ls a w:=by
 have hQd:∀ c (a:Act) (d:Option Tmp) v w,Q (.panic c) (a.put d v) w→Q (.panic c) a w:=by
  intro c a d v w h
  cases d with
  | none=>exact h
  | some d=>exact hQ c a d v w h
 intro l
 induction l with
 | nil=>exact fun fuel ls a w hA hl hcl hok hS h=>hA fuel a w (by simpa using hl) hcl hok hS h
 | cons x rest ih=>
  intro fuel listed a w hA hl hcl hok hS h
  obtain ⟨fuel,rfl⟩:∃ n,fuel=n+1:=⟨fuel - 1,by simp at hl;omega⟩
  obtain ⟨b,i⟩:=x
  simp only [List.length_cons] at hl
  cases b with
  | true=>
   simp only [zz3,Bool.and_eq_true,List.all_eq_true] at hok
   obtain ⟨⟨⟨hr,hf⟩,hn⟩,hrest⟩:=hok
   obtain ⟨o,v,ho,hy,hr'⟩:=h
   have hrm:i ∈ Region.ready .any ops listed:=by simpa using hr
   have hn':∀ x ∈ HS,i ∉ x.1:=fun x hx=>by simpa using hn x.1 (List.mem_map.2 ⟨x,hx,rfl⟩)
   refine zt1 ho (Region.noSelect_spec hs) (fun c a w h=>hQd c a o.dst v w h)
    (fun listed w hc h0 hT=>⟨hT.1,zg0 HS (fun x _ hg=>by
      unfold zr7 at hg
      unfold zF3
      rw [List.all_eq_true] at hg ⊢
      intro t ht
      rw [zt0 hc h0 _ t (hg t ht)];rfl) hT.2⟩) fuel listed a w hcl (Region.free_spec ho hf) hrm hy hS hn' ?_
   exact ih fuel _ _ _ hA (by omega) (hcl.set hrm) hrest (hS.set hn') hr'
  | false=>
   simp only [zz3,Bool.and_eq_true,decide_eq_true_eq] at hok
   refine ⟨fun h0=>(by rw [hok.1] at h0;cases h0),fun j hj=>?_⟩
   have hji:j=i:=by rw [hok.1] at hj;simpa using hj
   subst hji
   have h:wpOp P ops (yb6 Q A) j _ a w:=h
   rw [zC6] at h
   refine wpOp_mono (fun a' w' h'=>?_) h
   exact ⟨h'.1,ih fuel _ _ _ hA (by omega) (hcl.set hj) hok.2 h'.1 h'.2⟩
theorem zp0 (hs:Region.noSelect ops=true) (hQ:∀ c (a:Act) (d:Tmp) v w,Q (.panic c) (a.put (some d) v) w→Q (.panic c) a w):
  ∀ (t:OT) (fuel:Nat) (ls:Array Bool) (a:Act) (w:World),t.dep≤fuel→Closed ops ls→okOTT ops (HS.map (·.1)) t ls=true→Till S0 HS ls w→zR6 P ops Q S0 HS t ls a w→zs9 P ops Q S0 HS fuel ls a w
 | .fin l,fuel,ls,a,w,hl,hcl,hok,hS,h=>zx3 hs hQ l fuel ls a w hl hcl hok hS h
 | .two l i j t s,fuel,ls,a,w,hl,hcl,hok,hS,h=>by
  refine zR7 hs hQ _ _ (1+max t.dep s.dep) l fuel ls a w (fun fuel a w hl hcl hok hS h=>?_) hl hcl hok hS h
  obtain ⟨fuel,rfl⟩:∃ n,fuel=n+1:=⟨fuel - 1,by omega⟩
  simp only [Bool.and_eq_true,decide_eq_true_eq] at hok
  obtain ⟨ha,hb⟩:=h
  refine ⟨fun h0=>(by rw [hok.1.1] at h0;cases h0),fun k hk=>?_⟩
  have aa:=hk
  rw [hok.1.1] at hk
  simp only [List.mem_cons,List.not_mem_nil,or_false] at hk
  rcases hk with rfl | rfl
  ·have ha:wpOp P ops (yb6 Q (zR6 P ops Q S0 HS t ((zo0 l ls).setIfInBounds k true))) k _ a w:=ha
   rw [zC6] at ha
   refine wpOp_mono (fun a' w' h'=>?_) ha
   exact ⟨h'.1,zp0 hs hQ t fuel _ _ _ (by omega) (hcl.set aa) hok.1.2 h'.1 h'.2⟩
  have hb:wpOp P ops (yb6 Q (zR6 P ops Q S0 HS s ((zo0 l ls).setIfInBounds k true))) k _ a w:=hb
  rw [zC6] at hb
  refine wpOp_mono (fun a' w' h'=>?_) hb
  exact ⟨h'.1,zp0 hs hQ s fuel _ _ _ (by omega) (hcl.set aa) hok.2 h'.1 h'.2⟩
theorem zC1 {id:Nat} {a:Act} {w:World} (S0:World→Prop) (HS:List (List Nat × (World→Prop))) (t:OT) (hm:P.follows .mixedOrders=true) (hs:Region.noSelect ops=true)
  (hok:okOTT ops (HS.map (·.1)) t (Array.replicate ops.size false)=true) (hl:t.dep≤ops.size) (hQ:∀ c (a:Act) (d:Tmp) v w,Q (.panic c) (a.put (some d) v) w→Q (.panic c) a w) (ac:S0 w.drew) (aa:zg7 (fun _=>true) HS w.drew)
  (h:zR6 P ops Q S0 HS t (Array.replicate ops.size false) a w.drew):(Code.region id ops true).wp P Q a w:=
 wp_region_any hm (zk3 _ _ _ _ (zp0 hs hQ t _ _ _ _ hl (fun j oj hj hlj e he _=>by
   have hjs:=(Array.getElem?_eq_some_iff.1 hj).1
   have:(Array.replicate ops.size false).getD j true=false:=by simp [hjs]
   rw [this] at hlj;cases hlj) hok ⟨ac,zs8 aa⟩ h))
theorem zr8 {A:Act→World→Prop} {ls:Array Bool} {a:Act} {w:World} (h:A a w):zf7 P ops (yb6 Q A) S0 HS [] ls a w:=h
end
end Go.Proofs.YtjhflekncldflaaGreatDoor
