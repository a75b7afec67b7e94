/- Joined of: Div3, Div4, Div5, Int7, Gen2, Int8, Gen3, Rat1, Sl, Os, Ma, Mb, Mc, Ro, Gen4. -/
import Derived.Test.YtjhflekncldflaaGreatDoorPartA
import Derived.Lib.BitFns
import Derived.ChangeArms
import Derived.OpenShut
import Init.Data.Rat.Lemmas
namespace Go.Proofs.YtjhflekncldflaaGreatDoor
open Go.RowKit

theorem St.drewN {w w':World} {b:Nat} (h:St w w' b) (n:Nat):St w (w'.drewN n) b:=⟨h.os,h.tape,h.output,h.size,h.block⟩
theorem St.drew {w w':World} {b:Nat} (h:St w w' b):St w w'.drew b:=⟨h.os,h.tape,h.output,h.size,h.block⟩
theorem St.cell {w w':World} {b:Nat} (h:St w w' b) {c o:Nat} (hc:c≠b):w'.cell? ⟨c,o,none⟩=w.cell? ⟨c,o,none⟩:=World.cell?_of_block (w:=w) (h.block c hc)
theorem Own.drewN {w:World} {b n:Nat} {d:Nat→Int} (h:Own w b n d) (k:Nat):Own (w.drewN k) b n d:=h.gr ((Below.refl _ _).drewN k)

set_option maxRecDepth 100000 in
set_option maxHeartbeats 4000000 in
theorem digit_c (bu off cu bv offv cv m N:Nat) (D:Nat→Int) (U V:Int) (w:World) (hm:m≤1000000) (hN:off+(m+3)≤N) (aW:N≤2000000) (hO:Own w bu N D) (hD:Hid (∀ i,i<m+3→D (off+i)=dg U i))
  (aO:0≤U) (hUt:Hid (hi U (m+3)=0)) (hV:NL V (m+2)) (hvc:Hid (∀ i,i<m+2→w.cell? ⟨bv,offv+i,none⟩=some (.int .u32 (dg V i)))) (hne:bv≠bu) (hnorm:2147483648≤dg V (m+1)) (hUV:U<V*4294967296):
  Calls Tryz.prog 172 #[.slice (some ⟨bu,off,none⟩) (m+3) cu,.slice (some ⟨bv,offv,none⟩) (m+2) cv] w fun e w'=>
   e=.returned (.int .u32 (U/V))∧St w w' bu∧∃ D',Own w' bu N D'∧(∀ i,i<m+3→D' (off+i)=dg (U % V) i)∧∀ j,(j<off∨off+(m+3)≤j)→D' j=D j:=by
 have aa:=hO.cell (off+(m+2)) (by omega)
 have aH:=hO.cell (off+(m+1)) (by omega)
 have ap:=hO.cell (off+m) (by omega)
 rw [hD.out _ (by omega)] at aa aH ap
 have aM:=hvc.out (m+1) (by omega)
 have aI:=hvc.out m (by omega)
 have aL:=zb7 U (m+2)
 have aC:=zf0 U (m+2)
 have aD:=zb7 U (m+1)
 have aJ:=zf0 U (m+1)
 have aw:=zb7 U m
 have ax:=zf0 U m
 have aP:=zf0 V (m+1)
 have av:=zb7 V m
 have aV:=zf0 V m
 have hor:=or64 (dg U (m+2)) (dg U (m+1)) aL aC aD aJ
 go_enter Tryz.func172,Tryz.ntmps172
 go_wp2
 go_quiet (fail)
 go_wp2
 go_quiet (fail)
 go_wp2
 have au:hi V (m+1)=dg V (m+1):=by have:=zd1 V (m+1);rw [hV.top] at this;omega
 have hvm:hi V m=dg V (m+1)*4294967296+dg V m:=by have:=zd1 V m;rw [au] at this;omega
 have aj:hi U (m+2)=dg U (m+2):=by have:=zd1 U (m+2);rw [hUt.out] at this;omega
 have aA:hi U (m+1)=dg U (m+2)*4294967296+dg U (m+1):=by have:=zd1 U (m+1);rw [aj] at this;omega
 have hum:hi U m=(dg U (m+2)*4294967296+dg U (m+1))*4294967296+dg U m:=by have:=zd1 U m;rw [aA] at this;omega
 have ah:0<V:=by
  have:=hi_le_of hV.nonneg (show 0≤m+1 by omega)
  rw [au,ze5] at this;omega
 have ak:0≤U/V:=Int.ediv_nonneg aO (by omega)
 have hQB:U/V<4294967296:=Int.ediv_lt_of_lt_mul ah (by first | exact hUV | (rw [Int.mul_comm];exact hUV))
 have hQV:U/V*V≤U:=Int.ediv_mul_le U (by omega)
 have hlo:=zQ2 m ak hQV
 have af:=zQ2 (m+1) ak hQV
 rw [au,aA] at af
 have KN:=Lib.hid (And.intro hvm (And.intro hum (And.intro hlo (And.intro hQB (And.intro ak ah)))))
 have q0:=Int.ediv_nonneg (show 0≤dg U (m+2)*4294967296+dg U (m+1) by omega) (show 0≤dg V (m+1) by omega)
 have q1:(dg U (m+2)*4294967296+dg U (m+1))/dg V (m+1)<8589934592:=Int.ediv_lt_of_lt_mul (by omega) (by omega)
 have q2:U/V≤(dg U (m+2)*4294967296+dg U (m+1))/dg V (m+1):=(Int.le_ediv_iff_mul_le (by omega)).2 af
 have q3:=Int.emod_add_mul_ediv (dg U (m+2)*4294967296+dg U (m+1)) (dg V (m+1))
 have q4:=Int.emod_nonneg (dg U (m+2)*4294967296+dg U (m+1)) (show dg V (m+1)≠0 by omega)
 have q5:=Int.emod_lt_of_pos (dg U (m+2)*4294967296+dg U (m+1)) (show 0<dg V (m+1) by omega)
 have Q2:=Lib.hid (And.intro q2 q3)
 have aq:dg U (m+2)≤dg V (m+1):=by
  have h1:=zk4 (show U≤V*4294967296 ^ 1+0 by omega) (m+2)
  have h2:hi (V*4294967296 ^ 1+0) (m+2)=hi V (m+1):=by
   rw [Int.add_zero,Int.pow_one,show m+2=1+(m+1) by omega,zx8]
   congr 1
   rw [zd3,ze5];omega
  rw [h2,aj,au] at h1;exact h1
 clear au hvm aj aA hum ak hQB hQV hlo af q2 q3 ah hor hUV
 have aN:St w (w.drewN 0) bu:=(St.refl w bu).drewN 0
 clear aa aH ap aN
 simp only [show m+2 - 1=m+1 from rfl]
 go_loopw [7,8] (fun sq sr wr=>∃ (q r:Int),sq=.int .u64 q∧sr=.int .u64 r∧0≤q∧q<8589934592∧0≤r∧r<8589934592∧St w wr bu∧Own wr bu N D∧
   Hid (q*dg V (m+1)+r=dg U (m+2)*4294967296+dg U (m+1)∧U/V≤q)) (fun sq _ _=>(intOf sq).toNat)
 case atStart=>exact ⟨_,_,rfl,rfl,q0,q1,q4,by omega,((St.refl w bu).drewN _).drewN _,(hO.drewN _).drewN _,by have:=Q2.out;refine ⟨?_,this.1⟩;rw [Int.mul_comm];omega⟩
 case round=>
  obtain ⟨q,r,rfl,rfl,ay,aT,aF,aY,hst,hOr,hqr⟩:=hrel
  have ap:=hOr.cell (off+m) (by omega)
  rw [hD.out _ (by omega)] at ap
  have aQ:=(hst.cell (o:=offv+(m+1)) hne).trans aM
  have aU:=(hst.cell (o:=offv+m) hne).trans aI
  have p0:0≤q*dg V m:=Int.mul_nonneg ay av
  by_cases hex:r<4294967296∧(4294967296≤q∨r*4294967296+dg U m<q*dg V m)
  ·obtain ⟨hr,hh⟩:=hex
   have d1:decide (r<4294967296)=true:=by simpa using hr
   have hor:=or64 r (dg U m) aF hr aw ax
   have hlt:U/V<q:=by
    obtain ⟨hvm,hum,hlo,hQB,ak,ah⟩:=KN.out
    rcases hh with hh | hh
    ·omega
    exact ya7 hlo hvm hum hqr.out.1 hh (ze2 hV.nonneg m)
   have HL:=Lib.hid hlt
   have HK:=Lib.hid KN.out
   have q6:1≤q:=by have:=KN.out.2.2.2.2.1;omega
   clear hlt
   by_cases hqb:4294967296≤q
   ·have d2:decide (4294967296≤q)=true:=by simpa using hqb
    clear hh
    go_wp2
    go_quiet (fail)
    go_wp2
    go_roundw
    case rel=>
     refine ⟨q - 1,r+dg V (m+1),rfl,rfl,by omega,by omega,by omega,by omega,hst.drewN _,hOr.drewN _,?_,by have:=HL.out;omega⟩
     have:=hqr.out.1
     rw [Int.sub_mul];omega
    case measure=>simp [intOf];omega
   have d2:decide (4294967296≤q)=false:=by simpa using hqb
   have hp:r*4294967296+dg U m<q*dg V m:=by rcases hh with hh | hh;exact absurd hh hqb;exact hh
   have p1:q*dg V m≤4294967295*4294967295:=Int.mul_le_mul (by omega) (by omega) av (by omega)
   have d3:decide (r*4294967296+dg U m<q*dg V m)=true:=by simpa using hp
   clear hh
   go_wp2
   go_quiet (fail)
   go_wp2
   go_roundw
   case rel=>
    refine ⟨q - 1,r+dg V (m+1),rfl,rfl,by omega,by omega,by omega,by omega,hst.drewN _,hOr.drewN _,?_,by have:=HL.out;omega⟩
    have:=hqr.out.1
    rw [Int.sub_mul];omega
   case measure=>simp [intOf];omega
  -- the estimate is right,or one too great
  have aK:q≤4294967295:=by
   rcases Int.lt_or_le r 4294967296 with h | h
   ·rcases Int.lt_or_le q 4294967296 with h2 | h2
    ·omega
    exact absurd ⟨h,.inl h2⟩ hex
   rcases Int.lt_or_le q 4294967296 with h2 | h2
   ·omega
   exfalso
   have h3:=hqr.out.1
   have h4:4294967296*dg V (m+1)≤q*dg V (m+1):=Int.mul_le_mul_of_nonneg_right h2 (by omega)
   have h5:dg U (m+2)≤dg V (m+1):=aq
   omega
  have p1:q*dg V m≤4294967295*4294967295:=Int.mul_le_mul aK (by omega) av (by omega)
  have hfin:q*V<U+V:=by
   obtain ⟨hvm,hum,hlo,hQB,ak,ah⟩:=KN.out
   refine knuth_hi m ay aK (by rw [hvm];omega) (ya8 hvm hum hqr.out.1 ?_)
   rcases Int.lt_or_le r 4294967296 with h | h
   ·rcases Int.lt_or_le (r*4294967296+dg U m) (q*dg V m) with h2 | h2
    ·exact absurd ⟨h,.inr h2⟩ hex
    exact h2
   omega
  have hge:=hqr.out.2
  have FIN:=Lib.hid (And.intro hfin hge)
  have d2:decide (4294967296≤q)=false:=by simp;omega
  have hcase:(decide (r<4294967296)=false∧True)∨(r<4294967296∧decide (r<4294967296)=true∧decide (r*4294967296+dg U m<q*dg V m)=false∧bits BinOp.or IntKind.u64 (r*4294967296) (dg U m)=r*4294967296+dg U m):=by
   rcases Int.lt_or_le r 4294967296 with h | h
   ·rcases Int.lt_or_le (r*4294967296+dg U m) (q*dg V m) with h2 | h2
    ·exact absurd ⟨h,.inr h2⟩ hex
    exact .inr ⟨h,by simpa using h,by simpa using h2,or64 r (dg U m) aF h aw ax⟩
   exact .inl ⟨by simpa using h,trivial⟩
  clear hfin hge hex hqr aq
  rcases hcase with ⟨d1,_⟩ | ⟨dr,d1,d3,hor⟩
  all_goals
   go_wp2
   go_quiet (fail)
   go_wp2
   clear ap aQ aU d1 d2 p0 p1 q0 q1 q4 q5 Q2 aL aC aD aJ aw ax aP av aV aM aI
   try clear d3 hor
   go_loopw [9,10,86] (fun sc sb si wr=>∃ (c br:Int) (i:Nat) (E:Nat→Int),sc=.int .u64 c∧sb=.int .i64 br∧si=.int .i64 i∧i≤m+2∧0≤c∧c<4294967296∧0≤br∧br≤1∧St w wr bu∧Own wr bu N E∧
    Hid (hi (V*q+0) i=hi V i*q+c∧hi (U - (V*q+0)) i=hi U i - hi (V*q+0) i - br∧(∀ j,j<i→E (off+j)=dg (U - (V*q+0)) j)∧(∀ j,i≤j→j<m+3→E (off+j)=dg U j)∧∀ j,(j<off∨off+(m+3)≤j)→E j=D j)) (fun _ _ si _=>m+2 - (intOf si).toNat)
   case atStart=>exact ⟨0,0,0,D,rfl,rfl,rfl,by omega,by omega,by omega,by omega,by omega,hst.drewN _,hOr.drewN _,by simp [ze5],by simp [ze5],fun j hj=>by omega,fun j _ hj=>hD.out j hj,fun j _=>rfl⟩
   case round=>
    obtain ⟨c,br,i,E,rfl,rfl,rfl,az,al,ar,aG,aB,ac,ad,hh⟩:=hrel
    by_cases hlt:i<m+2
    ·have aS:=(ac.cell (o:=offv+i) hne).trans (hvc.out i hlt)
     have aa:=ad.cell (off+i) (by omega)
     have hfree:=ad.free (off+i)
     have e1:=hh.out.2.2.2.1 i (Nat.le_refl _) (by omega)
     rw [e1] at aa
     have E1:=Lib.hid e1
     have hs:=zA8 hh.out.1 al ar ay (by omega)
     have s1:=hs.2.2.1
     have s2:=hs.2.2.2.1
     have s3:=hs.2.2.2.2.1
     have s4:=hs.2.2.2.2.2
     have HS:=Lib.hid hs
     have x0:=zb7 U i
     have x1:=zf0 U i
     have x2:=zb7 V i
     have x3:=zf0 V i
     have ecomm:q*dg V i=dg V i*q:=Int.mul_comm _ _
     clear e1 hs
     go_wp2
     all_goals
      have hs:=HS.out
      have hms:=zA7 (a:=U) (b:=V*q+0) hh.out.2.1 aG aB
      go_roundw
      case rel=>
       refine ⟨_,_,i+1,_,rfl,rfl,by go_num,by omega,s1,s2,by omega,by omega,ac.trans (St.setCell _ _ _ _),ad.set (by omega) _,hs.2.1,?_,fun j hj=>?_,fun j h1 h2=>?_,fun j hj=>?_⟩
       ·have h2:=hms.2
        rw [hs.1] at h2
        first | rw [if_pos (by assumption)] at h2 | rw [if_neg (by omega)] at h2
        exact h2
       ·by_cases e:j=i
        ·subst e;rw [zd4,hms.1,hs.1];omega
        rw [zc2 _ _ (by omega)];exact hh.out.2.2.1 j (by omega)
       ·rw [zc2 _ _ (by omega)];exact hh.out.2.2.2.1 j (by omega) h2
       rw [zc2 _ _ (by omega)];exact hh.out.2.2.2.2 j hj
      case measure=>simp [intOf];omega
    obtain rfl:i=m+2:=by omega
    have aa:=ad.cell (off+(m+2)) (by omega)
    have hfree:=ad.free (off+(m+2))
    have e1:=hh.out.2.2.2.1 (m+2) (Nat.le_refl _) (by omega)
    rw [e1] at aa
    have ht:=hh.out.2.1
    have hc:=hh.out.1
    rw [hV.top,Int.zero_mul,Int.zero_add] at hc
    have aj:hi U (m+2)=dg U (m+2):=by have:=zd1 U (m+2);rw [hUt.out] at this;omega
    rw [hc,aj] at ht
    have x0:=zb7 U (m+2)
    have x1:=zf0 U (m+2)
    have HT:=Lib.hid ht
    have E1:=Lib.hid e1
    clear e1 hc aj ht
    by_cases hneg:0≤dg U (m+2) - br - c
    ·go_wp2
     go_ret
     have ah:=KN.out.2.2.2.2.2
     have aR:0≤U - V*q:=by
      rcases Int.lt_or_le (U - (V*q+0)) 0 with h | h
      ·have:=hi_neg h (m+2);rw [HT.out] at this;omega
      omega
     have hmd:=mod_of ah aR FIN.out.2
     refine ⟨?_,ac.trans (St.setCell _ _ _ _),_,ad.set (by omega) _,fun i az=>?_,fun j hj=>?_⟩
     ·rw [← hmd.1];first | rfl | exact congrArg (fun z=>Ending.returned (Value.int .u32 z)) (show q % 4294967296=q by omega)
     ·rw [← hmd.2]
      by_cases e:i=m+2
      ·subst e;rw [zd4]
       have:dg (U - V*q) (m+2)=hi (U - V*q) (m+2) % 4294967296:=rfl
       have h2:=HT.out
       rw [Int.add_zero] at h2
       rw [this,h2];omega
      rw [zc2 _ _ (by omega)]
      have:=hh.out.2.2.1 i (by omega)
      rw [Int.add_zero] at this;exact this
     rw [zc2 _ _ (by omega)];exact hh.out.2.2.2.2 j hj
    go_wp2
    have aE:=Lib.hid KN.out.2.2.2.2.2
    have hstA:=ac.trans (St.setCell wr bu (off+(m+2)) (.int .u32 ((dg U (m+2) - br - c) % 4294967296)))
    have hOA:=ad.set (w:=wr) (show off+(m+2)<N by omega) ((dg U (m+2) - br - c) % 4294967296)
    have HE:Hid (∀ i,i<m+3→upd E (off+(m+2)) ((dg U (m+2) - br - c) % 4294967296) (off+i)=dg (U - V*q) i):=by
     intro i az
     by_cases e:i=m+2
     ·subst e;rw [zd4]
      have:dg (U - V*q) (m+2)=hi (U - V*q) (m+2) % 4294967296:=rfl
      have h2:=HT.out
      rw [Int.add_zero] at h2
      rw [this,h2];omega
     rw [zc2 _ _ (by omega)]
     have:=hh.out.2.2.1 i (by omega)
     rw [Int.add_zero] at this;exact this
    have HN:Hid (U - V*q<0):=by
     rcases Int.lt_or_le (U - V*q) 0 with h | h
     ·exact h
     exfalso
     have h2:=ze2 h (m+2)
     have h3:=HT.out
     rw [Int.add_zero] at h3
     omega
    have HOUT:Hid (∀ j,(j<off∨off+(m+3)≤j)→upd E (off+(m+2)) ((dg U (m+2) - br - c) % 4294967296) j=D j):=by
     intro j hj;rw [zc2 _ _ (by omega)];exact hh.out.2.2.2.2 j hj
    have aT:1≤q:=by
     have hmb:=zy2 aE.out HN.out FIN.out.1
     have:=KN.out.2.2.2.2.1
     omega
    clear ac ad hh HT E1 hfree hneg al ar aG aB x0 x1 aa
    go_loopw [9,139] (fun sc si wz=>∃ (c2:Int) (k:Nat) (F:Nat→Int),sc=.int .u64 c2∧si=.int .i64 k∧k≤m+2∧0≤c2∧c2≤1∧St w wz bu∧Own wz bu N F∧
     Hid (hi (U - V*q+V) k=hi (U - V*q) k+hi V k+c2∧(∀ j,j<k→F (off+j)=dg (U - V*q+V) j)∧(∀ j,k≤j→j<m+3→F (off+j)=dg (U - V*q) j)∧∀ j,(j<off∨off+(m+3)≤j)→F j=D j)) (fun _ si _=>m+2 - (intOf si).toNat)
    case atStart=>exact ⟨0,0,_,rfl,rfl,by omega,by omega,by omega,hstA,hOA,by simp [ze5],fun j hj=>by omega,fun j _ hj=>HE.out j hj,HOUT.out⟩
    case round=>
     obtain ⟨c2,k,F,rfl,rfl,aX,al,ar,ae,ai,hh⟩:=hrel
     by_cases hlt:k<m+2
     ·have aS:=(ae.cell (o:=offv+k) hne).trans (hvc.out k hlt)
      have aa:=ai.cell (off+k) (by omega)
      have hfree:=ai.free (off+k)
      have e1:=hh.out.2.2.1 k (Nat.le_refl _) (by omega)
      rw [e1] at aa
      have HS:=Lib.hid (zx9 hh.out.1 al ar)
      have x0:=zb7 (U - V*q) k
      have x1:=zf0 (U - V*q) k
      have x2:=zb7 V k
      have x3:=zf0 V k
      clear e1
      go_wp2
      go_roundw
      case rel=>
       have hs:=HS.out
       refine ⟨_,k+1,_,rfl,by go_num,by omega,?_,?_,ae.trans (St.setCell _ _ _ _),ai.set (by omega) _,?_,fun j hj=>?_,fun j h1 h2=>?_,fun j hj=>?_⟩
       ·go_num
       ·go_num
       ·rw [hs.2.1];go_num
       ·by_cases e:j=k
        ·subst e;rw [zd4,hs.1];go_num
        rw [zc2 _ _ (by omega)];exact hh.out.2.1 j (by omega)
       ·rw [zc2 _ _ (by omega)];exact hh.out.2.2.1 j (by omega) h2
       rw [zc2 _ _ (by omega)];exact hh.out.2.2.2 j hj
      case measure=>simp [intOf];omega
     obtain rfl:k=m+2:=by omega
     have aa:=ai.cell (off+(m+2)) (by omega)
     have hfree:=ai.free (off+(m+2))
     have e1:=hh.out.2.2.1 (m+2) (Nat.le_refl _) (by omega)
     rw [e1] at aa
     have HS:=Lib.hid (zs6 hh.out.1 al ar hV.top)
     have x0:=zb7 (U - V*q) (m+2)
     have x1:=zf0 (U - V*q) (m+2)
     clear e1
     go_wp2
     go_ret
     have hmd:=zy2 aE.out HN.out FIN.out.1
     refine ⟨?_,ae.trans (St.setCell _ _ _ _),_,ai.set (by omega) _,fun i az=>?_,fun j hj=>?_⟩
     ·rw [← hmd.1];first | rfl | exact congrArg (fun z=>Ending.returned (Value.int .u32 z)) (show (q - 1) % 4294967296=q - 1 by omega)
     ·rw [← hmd.2]
      by_cases e:i=m+2
      ·subst e;rw [zd4,HS.out.1];go_num
      rw [zc2 _ _ (by omega)];exact hh.out.2.1 i (by omega)
     rw [zc2 _ _ (by omega)];exact hh.out.2.2.2 j hj
end Go.Proofs.YtjhflekncldflaaGreatDoor
namespace Go.Proofs.YtjhflekncldflaaGreatDoor

theorem zm1:∀ (f x:Nat),0<x→x<2 ^ f→∃ L,Lib.bitLenAux f x=L+1∧2 ^ L≤x∧x<2 ^ (L+1)
 | 0,x,h0,h1=>by simp at h1;omega
 | f+1,x,h0,h1=>by
  by_cases h:x=1
  ·subst h
   refine ⟨0,?_,by simp,by simp⟩
   cases f<;>simp [Lib.bitLenAux]
  obtain ⟨L,e1,e2,e3⟩:=zm1 f (x/2) (by omega) (by rw [Nat.pow_succ] at h1;omega)
  refine ⟨L+1,?_,by rw [Nat.pow_succ];omega,by rw [Nat.pow_succ];omega⟩
  simp only [Lib.bitLenAux,show ¬ x=0 by omega,if_false,e1];omega
theorem leadz {x:Int} (h0:0<x) (h1:x<4294967296):∃ s:Nat,s<32∧32 - (Lib.bitLen x.toNat:Int)=s∧2147483648≤x*2 ^ s∧x*2 ^ s<4294967296:=by
 obtain ⟨n,rfl⟩:=Int.eq_ofNat_of_zero_le (Int.le_of_lt h0)
 have h4:=Lib.bitLen_le n 32 (by omega) (by omega)
 obtain ⟨L,e1,e2,e3⟩:=zm1 64 n (by omega) (by omega)
 have e4:Lib.bitLen n=L+1:=e1
 refine ⟨31 - L,by omega,by simp only [Int.toNat_natCast];omega,?_⟩
 have e5:2 ^ L*2 ^ (31 - L)=2147483648:=by rw [← Nat.pow_add,show L+(31 - L)=31 by omega]
 have e6:2 ^ (L+1)*2 ^ (31 - L)=4294967296:=by rw [← Nat.pow_add,show L+1+(31 - L)=32 by omega]
 have p:0<2 ^ (31 - L):=Nat.pow_pos (by omega)
 have e7:=Nat.mul_le_mul_right (2 ^ (31 - L)) e2
 have e8:=Nat.mul_lt_mul_of_pos_right e3 p
 have e9:((n:Int)*2 ^ (31 - L))=((n*2 ^ (31 - L):Nat):Int):=by simp
 rw [e9];omega

theorem zl1 (b:Int) {p:Int} (hp:0<p):∀ k,hi b k*p≤hi (b*p) k∧hi (b*p) k<(hi b k+1)*p
 | 0=>by rw [ze5,ze5,Int.add_mul];omega
 | k+1=>by
  have h:=zl1 b hp k
  have hs:=zd1 b k
  have d0:=zb7 b k
  have d1:=zf0 b k
  rw [zd3 (b*p)]
  have e1:hi b k*p=4294967296*(hi b (k+1)*p)+dg b k*p:=by rw [hs];grind
  have e2:(hi b k+1)*p=4294967296*(hi b (k+1)*p)+(dg b k+1)*p:=by rw [hs];grind
  have e3:(hi b (k+1)+1)*p=hi b (k+1)*p+p:=by grind
  have e4:0≤dg b k*p:=Int.mul_nonneg d0 (by omega)
  have e5:(dg b k+1)*p≤4294967296*p:=Int.mul_le_mul_of_nonneg_right (by omega) (by omega)
  rw [e1,e2] at h
  rw [e3]
  omega
theorem norm_nl {b:Int} {m s:Nat} (hb:NL b (m+1)) (h1:2147483648≤dg b m*2 ^ s) (h2:dg b m*2 ^ s<4294967296) (hs:s<32):NL (b*2 ^ s) (m+1)∧2147483648≤dg (b*2 ^ s) m:=by
 have hp:(0:Int)<2 ^ s:=Int.pow_pos (by omega)
 have ht:=hb.topdig (by omega)
 simp only [Nat.add_sub_cancel] at ht
 have h3:=zl1 b hp m
 rw [← ht.1] at h3
 obtain ⟨aa,_,ac⟩:=zr4 hs
 have h4:(dg b m+1)*2 ^ s≤4294967296:=by
  rw [← aa,Int.mul_comm (2 ^ s)] at h2
  have h5:=Int.lt_of_mul_lt_mul_right h2 (Int.le_of_lt hp)
  rw [← aa,Int.mul_comm (2 ^ s)]
  exact Int.mul_le_mul_of_nonneg_right (by omega) (Int.le_of_lt hp)
 have h6:hi (b*2 ^ s) (m+1)=0:=by rw [zd3];omega
 have h7:=zd1 (b*2 ^ s) m
 rw [h6] at h7
 exact ⟨⟨Int.mul_nonneg hb.nonneg (by omega),h6,fun _=>by simp only [Nat.add_sub_cancel];omega⟩,by omega⟩
theorem NL.uniq {n:Int} {k m:Nat} (h:NL n k) (g:NL n m):k=m:=by
 rcases Nat.lt_trichotomy k m with e | e | e
 ·exact absurd (zs5 h.top (by omega)) (g.full (by omega))
 ·exact e
 exact absurd (zs5 g.top (by omega)) (h.full (by omega))
def win (U V:Int) (i:Nat):Int:=hi U (i+1) % V*4294967296+dg U i
theorem win_hi (U V:Int) (i:Nat):hi (win U V i) 1=hi U (i+1) % V:=by
 have d0:=zb7 U i
 have d1:=zf0 U i
 unfold win
 rw [zd3,ze5];omega
theorem win_dg0 (U V:Int) (i:Nat):dg (win U V i) 0=dg U i:=by
 have d0:=zb7 U i
 have d1:=zf0 U i
 have:dg (win U V i) 0=win U V i % 4294967296:=rfl
 rw [this];unfold win;omega
theorem win_dgs (U V:Int) (i k:Nat):dg (win U V i) (k+1)=dg (hi U (i+1) % V) k:=by
 unfold dg
 rw [Nat.add_comm k 1,zx8,win_hi]
theorem zU8 (U:Int) {V:Int} (hV:0<V) (i:Nat):win U V i<V*4294967296∧0≤win U V i:=by
 have d0:=zb7 U i
 have d1:=zf0 U i
 have h1:=Int.emod_nonneg (hi U (i+1)) (show V≠0 by omega)
 have h2:=Int.emod_lt_of_pos (hi U (i+1)) hV
 unfold win;omega
theorem win_top (U:Int) {V:Int} {n:Nat} (hV:0<V) (hn:hi V n=0) (i:Nat):hi (win U V i) (n+1)=0:=by
 have h1:=Int.emod_nonneg (hi U (i+1)) (show V≠0 by omega)
 have h2:=Int.emod_lt_of_pos (hi U (i+1)) hV
 rw [Nat.add_comm,zx8,win_hi]
 have h3:=zk4 (Int.le_of_lt h2) n
 have h4:=ze2 h1 n
 omega
theorem zU9 (U:Int) {V:Int} (hV:0<V) (i:Nat):win U V i/V=dg (U/V) i∧win U V i % V=hi U i % V:=by
 have hs:=zd1 U i
 have aa:=zb7 U i
 have hd:=zf0 U i
 have hlt:=zU8 U hV i
 have e1:hi U i=win U V i+V*(4294967296*(hi U (i+1)/V)):=by
  have:=Int.emod_add_mul_ediv (hi U (i+1)) V
  unfold win;rw [hs];grind
 have e2:hi (U/V) i=win U V i/V+4294967296*(hi U (i+1)/V):=by
  rw [zt8 U V hV,e1,Int.add_mul_ediv_left _ _ (show V≠0 by omega)]
 have h4:win U V i/V<4294967296:=Int.ediv_lt_of_lt_mul hV (by rw [Int.mul_comm];exact hlt.1)
 have h5:0≤win U V i/V:=Int.ediv_nonneg hlt.2 (by omega)
 have hdd:dg (U/V) i=hi (U/V) i % 4294967296:=rfl
 refine ⟨by rw [hdd,e2];omega,?_⟩
 rw [e1,Int.add_mul_emod_self_left]
theorem first_lt {a b p:Int} {q m:Nat} (ha:hi a (q+(m+1))=0) (hb:NL b (m+1)) (hp:0<p):hi (a*p) (q+1)<b*p:=by
 have hbt:=hb.full (by omega)
 simp only [Nat.add_sub_cancel] at hbt
 have aa:=ze2 hb.nonneg m
 have h2:=(zl1 a hp (q+1)).2
 have h3:hi a (q+1)<b:=by
  rcases Int.lt_or_le (hi a (q+1)) b with h | h
  ·exact h
  have h4:=zk4 h m
  rw [← zx8,show q+1+m=q+(m+1) by omega,ha] at h4
  omega
 have h5:(hi a (q+1)+1)*p≤b*p:=Int.mul_le_mul_of_nonneg_right (by omega) (by omega)
 omega
end Go.Proofs.YtjhflekncldflaaGreatDoor
namespace Go.Proofs.YtjhflekncldflaaGreatDoor
open Go.RowKit

theorem Own.st {w w':World} {b c n:Nat} {d:Nat→Int} (h:Own w c n d) (hs:St w w' b) (hc:c≠b):Own w' c n d:=by
 obtain ⟨cs,hb,hr⟩:=h.raw
 exact ⟨cs,by rw [hs.block c hc];exact hb,hr⟩
theorem dg_top {n:Int} {k j:Nat} (h:hi n k=0) (hj:k≤j):dg n j=0:=by
 have:dg n j=hi n j % 4294967296:=rfl
 rw [this,zs5 h hj];rfl

set_option maxRecDepth 100000 in
set_option maxHeartbeats 1000000 in
theorem divide_c (ao bo:Option Addr) (la lb ca cb:Nat) (a b:Int) (w:World) (hla:la≤1000000) (hlb:lb≤1000000) (ha:Mag w ao la ca a) (hb:Mag w bo lb cb b) (ay:0<b):
    Calls Tryz.prog 151 #[.slice ao la ca,.slice bo lb cb] w fun e w'=>
      (∃ qo qk qc ro rk rc,e=.returned (.tuple #[.slice qo qk qc,.slice ro rk rc])∧Mag w' qo qk qc (a/b)∧Mag w' ro rk rc (a % b))∧Gr w w':=by
  have a0:=ha.nl.nonneg
  rcases Int.lt_or_le a b with hab | hab
  · go_enter Tryz.func151,Tryz.ntmps151
    go_wp2_with fail
    refine (zC9 ao bo la lb ca cb a b _ (by omega) (by omega) ha hb).mono ?_
    rintro e w1 ⟨rfl,hG⟩
    rw [zp2 (show a - b<0 by omega)]
    go_wp2
    go_ret2
    exact ⟨⟨_,_,_,_,_,_,rfl,by rw [Int.ediv_eq_zero_of_lt a0 hab];exact ⟨Nat.le_refl _,NL.zero,Row.nil _ _ _⟩,by rw [Int.emod_eq_of_lt a0 hab];exact ha.below hG⟩,hG⟩
  have aV:decide (sgn (a - b)<0)=false:=by
    unfold sgn;rw [if_neg (by omega)];split<;>rfl
  have aN:0<lb:=by
    rcases Nat.eq_zero_or_pos lb with h | h
    · have:=hb.nl.len_zero.1 h;omega
    exact h
  by_cases hl1:lb=1
  · subst hl1
    obtain ⟨b1,ac,rfl,hcs⟩:=hb.row.at_ (by omega)
    have e0:dg b 0=b:=by
      have h1:=hb.nl.top
      have h2:=zd1 b 0
      rw [h1,ze5] at h2;omega
    have hc:=hcs 0 (by omega)
    rw [e0,Nat.add_zero] at hc
    have aK:b<4294967296:=by have:=zf0 b 0;omega
    go_enter Tryz.func151,Tryz.ntmps151
    go_wp2_with fail
    refine (zC9 ao _ la 1 ca cb a b _ (by omega) (by omega) ha hb).mono ?_
    rintro e w1 ⟨rfl,hG⟩
    have aL:=((zU4 hG).1 b1 ac (World.block_lt_of_cell? w _ hc)).trans hc
    go_wp2_with fail
    refine (zU5 ao la ca a b _ (by omega) (ha.below hG) ay aK).mono ?_
    rintro e w2 ⟨⟨go,k,cap,rfl,hm⟩,aj⟩
    have ah:Gr w w2:=Gr.trans hG aj
    go_wp2_with fail
    have m0:=Int.emod_nonneg a (show b≠0 by omega)
    have m1:=Int.emod_lt_of_pos a ay
    have aP:dg (a % b) 0=a % b:=by
      have:dg (a % b) 0=a % b % 4294967296:=rfl
      rw [this];omega
    have aS:hi (a % b) 1=0:=by rw [zd3,ze5];omega
    have hfr:=zm7 w2 (.cells #[.int .u32 (a % b)] 171)
    have hrow:Row (w2.alloc (.cells #[.int .u32 (a % b)] 171)) (some ⟨w2.heap.size,0,none⟩) 1 (dg (a % b)):=
      ⟨fun _ => ⟨_, 0, _, _, rfl, hfr.2.1, fun i hi0 => by obtain rfl : i = 0 := by omega
                                                           rw [aP];rfl⟩⟩
    refine (zr1 _ 1 1 (a % b) _ (by omega) (by omega) m0 aS hrow).mono ?_
    rintro e w3 ⟨⟨k2,rfl,aI,aT⟩,rfl⟩
    go_wp2
    go_ret2
    exact ⟨⟨_,_,_,_,_,_,rfl,hm.below hfr.1,aI⟩,ah.trans hfr.1⟩
  obtain ⟨m,rfl⟩:∃ m,lb=m+2:=⟨lb - 2,by omega⟩
  have hge:m+2≤la:=by
    rcases Nat.lt_or_ge la (m+2) with h | h
    · exfalso
      have h1:=zk4 hab (m+1)
      have h2:=zs5 ha.nl.top (show la≤m+1 by omega)
      have h3:=hb.nl.full (by omega)
      simp only [show m+2 - 1=m+1 from rfl] at h3
      have h4:=ze2 hb.nl.nonneg (m+1)
      omega
    exact h
  obtain ⟨q,rfl⟩:∃ q,la=q+(m+2):=⟨la - (m+2),by omega⟩
  obtain ⟨b1,ac,rfl,hcs⟩:=hb.row.at_ (by omega)
  have hc:=hcs (m+1) (by omega)
  have t0:0<dg b (m+1):=(hb.nl.topdig (by omega)).2
  have t1:=zf0 b (m+1)
  obtain ⟨s,ai,aM,aC,az⟩:=leadz t0 t1
  have hp:(0:Int)<2 ^ s:=Int.pow_pos (by omega)
  obtain ⟨hV,hnorm⟩:=norm_nl hb.nl aC az ai
  have aF:0<b*2 ^ s:=Int.mul_pos ay hp
  have hne:((m+2:Nat):Int)≠1:=by omega
  have aX:(((m+2:Nat):Int)==1)=false:=by simpa using hne
  clear hcs
  go_enter Tryz.func151,Tryz.ntmps151
  go_wp2_with fail
  refine (zC9 ao _ _ _ ca cb a b _ (by omega) (by omega) ha hb).mono ?_
  rintro e w1 ⟨rfl,hG⟩
  have aL:=((zU4 hG).1 b1 (ac+(m+1)) (World.block_lt_of_cell? w _ hc)).trans hc
  go_wp2_with fail
  refine (Tryz.bits_LeadingZeros32 (dg b (m+1)) _ (by omega) (by omega)).mono ?_
  rintro e aU ⟨rfl,rfl⟩
  rw [aM]
  go_wp2_with fail
  refine (zM5 ao _ ca a s _ (by omega) (ha.below hG) ai).mono ?_
  rintro e w2 ⟨⟨gu,rfl,hgu,hOu,htu⟩,aj⟩
  have ad:=Gr.trans hG aj
  go_wp2_with fail
  refine (zM5 _ _ cb b s _ (by omega) (hb.below ad) ai).mono ?_
  rintro e w3 ⟨⟨gv,rfl,hgv,hOv,htv⟩,ah⟩
  have af:=Gr.trans ad ah
  have hltu:=hOu.lt
  have hltv:=hOv.lt
  have au:=hOu.gr ah
  go_wp2_with fail
  refine (zr1 _ (m+2+1) (m+2+1) (b*2 ^ s) _ (by omega) (by omega) hV.nonneg htv hOv.row).mono ?_
  rintro e w4 ⟨⟨k,rfl,hMv,hk⟩,rfl⟩
  obtain rfl:k=m+2:=hMv.nl.uniq hV
  go_wp2_with (at_make;refine ze8 _ rfl _ _ rfl _ _ (q+1) rfl rfl ?h1 ?h2 (by omega) ?_)
  case h1=>omega
  case h2=>omega
  intro w5 hOq ax hsz
  have al:=au.below ax
  have ak:=hOv.below ax
  have ap:Gr w w5:=Gr.trans af ax
  have aO:=hG.size
  have aR:=aj.size
  go_wp2
  have hlq:hi (a*2 ^ s) (q+1)<b*2 ^ s:=first_lt (m:=m+1) ha.nl.top hb.nl hp
  have ae:0≤hi (a*2 ^ s) (q+1):=ze2 (Int.mul_nonneg a0 (by omega)) _
  have hbase:w.heap.size≤w3.heap.size:=af.size
  have hugv:gu≠gv:=by omega
  have huq:gu≠w3.heap.size:=by have:=ah.size;omega
  have hvq:gv≠w3.heap.size:=by omega
  have HP:=Lib.hid (And.intro hp (And.intro aF (And.intro hlq ae)))
  clear hp hlq ae
  have hQd:(a*2 ^ s)/(b*2 ^ s)=a/b:=Int.mul_ediv_mul_of_pos_left _ _ HP.out.1
  have hRd:(a*2 ^ s) % (b*2 ^ s)=a % b*2 ^ s:=by rw [Int.mul_comm a,Int.mul_comm b,Int.mul_emod_mul_of_pos _ _ HP.out.1,Int.mul_comm]
  have HQ:=Lib.hid (And.intro hQd hRd)
  clear hQd hRd
  clear aF aC az hsz
  have aH:0≤a*2 ^ s:=Int.mul_nonneg a0 (Int.le_of_lt HP.out.1)
  generalize hUU:a*2 ^ s=U at*
  generalize hVV:b*2 ^ s=V at*
  generalize hgq:w3.heap.size=gq at*
  go_loopw [11] (fun i wr=>∃ (k:Nat) (d E:Nat→Int),i=.int .i64 ((k:Int) - 1)∧k≤q+1∧Own wr gu (q+(m+2)+1) E∧Own wr gv (m+2+1) (dg V)∧Own wr gq (q+1) d∧Gr w wr∧
    Hid ((∀ j,j<k→E j=dg U j)∧(∀ j,k+j<q+(m+2)+1→E (k+j)=dg (hi U k % V) j)∧∀ j,k≤j→j<q+1→d j=dg (U/V) j)) (fun i _=>(intOf i+1).toNat)
  case atStart=>
    refine ⟨q+1,_,_,by go_num,Nat.le_refl _,al,ak,hOq,ap,fun j _=>rfl,fun j hj=>?_,fun j h1 h2=>by omega⟩
    rw [Int.emod_eq_of_lt HP.out.2.2.2 HP.out.2.2.1]
    unfold dg
    rw [zx8]
  case round=>
    obtain ⟨k,d,E,rfl,hk,hOu,hOv,hOq,hGr,hh⟩:=hrel
    by_cases hpos:0<k
    · obtain ⟨j,rfl⟩:∃ j,k=j+1:=⟨k - 1,by omega⟩
      have e1:(((j+1:Nat):Int) - 1)=(j:Int):=by omega
      simp only [e1]
      have hfree:=hOq.free j
      have hcq:=hOq.cell j (by omega)
      clear e1
      go_wp2_with fail
      rw [show j+(m+2)+1 - j=m+3 by omega]
      refine (digit_c gu j _ gv 0 _ m (q+(m+2)+1) E (win U V j) V _ (by omega) (by omega) (by omega) hOu ?g1 ?g2 ?g3 hV ?g4 (Ne.symm hugv) hnorm ?g5).mono ?_
      case g1=>
        intro i hi0
        cases i with
        | zero=>rw [win_dg0];exact hh.out.1 j (by omega)
        | succ i=>rw [win_dgs,show j+(i+1)=j+1+i by omega];exact hh.out.2.1 i (by omega)
      case g2=>exact (zU8 U HP.out.2.1 j).2
      case g3=>exact win_top U HP.out.2.1 hV.top j
      case g4=>intro i hi0;rw [Nat.zero_add];exact hOv.cell i (by omega)
      case g5=>exact (zU8 U HP.out.2.1 j).1
      rintro e w6 ⟨rfl,hst,D',aw,ar,aA⟩
      rw [(zU9 U HP.out.2.1 j).1]
      have av:=hOv.st hst (Ne.symm hugv)
      have aa:=hOq.st hst (Ne.symm huq)
      have aq:=hst.gr hGr (by omega)
      have hfree:=aa.free j
      have hcq:=aa.cell j (by omega)
      have aG:=(zU9 U HP.out.2.1 j).2
      rw [aG] at ar
      have HW:=Lib.hid (And.intro ar aA)
      clear ar aA aG
      go_wp2
      go_roundw
      case rel=>
        refine ⟨j,_,D',rfl,by omega,aw.st (St.setCell _ _ _ _) huq,av.st (St.setCell _ _ _ _) hvq,aa.set (by omega) _,(St.setCell _ _ _ _).gr aq (by omega),fun i hi0=>?_,fun i hi0=>?_,fun i h1 h2=>?_⟩
        · rw [HW.out.2 i (by omega)];exact hh.out.1 i (by omega)
        · by_cases hi1:i<m+3
          · exact HW.out.1 i hi1
          have z1:dg (hi U j % V) i=0:=dg_top (k:=m+2) (by
            have h1:=Int.emod_nonneg (hi U j) (show V≠0 by have:=HP.out.2.1;omega)
            have h2:=Int.emod_lt_of_pos (hi U j) HP.out.2.1
            have h3:=zk4 (Int.le_of_lt h2) (m+2)
            have h4:=ze2 h1 (m+2)
            rw [hV.top] at h3
            exact Int.le_antisymm h3 h4) (by omega)
          have z2:dg (hi U (j+1) % V) (i - 1)=0:=dg_top (k:=m+2) (by
            have h1:=Int.emod_nonneg (hi U (j+1)) (show V≠0 by have:=HP.out.2.1;omega)
            have h2:=Int.emod_lt_of_pos (hi U (j+1)) HP.out.2.1
            have h3:=zk4 (Int.le_of_lt h2) (m+2)
            have h4:=ze2 h1 (m+2)
            rw [hV.top] at h3
            exact Int.le_antisymm h3 h4) (by omega)
          rw [z1,HW.out.2 (j+i) (by omega),← z2,show j+i=j+1+(i - 1) by omega]
          exact hh.out.2.1 (i - 1) (by omega)
        by_cases e:i=j
        · subst e;rw [zd4]
        rw [zc2 _ _ e];exact hh.out.2.2 i (by omega) h2
      case measure=>simp [intOf];try omega
    obtain rfl:k=0:=by omega
    have aJ:=HP.out.2.1
    have m0:=Int.emod_nonneg U (show V≠0 by omega)
    have m1:U % V≤U:=by
      have h1:=Int.emod_add_mul_ediv U V
      have h2:0≤V*(U/V):=Int.mul_nonneg (by omega) (Int.ediv_nonneg aH (by omega))
      omega
    have q0:0≤U/V:=Int.ediv_nonneg aH (by omega)
    have q1:hi (U/V) (q+1)=0:=by
      rw [zt8 U V aJ]
      exact Int.ediv_eq_zero_of_lt HP.out.2.2.2 HP.out.2.2.1
    have m2:hi (U % V) (q+(m+2)+1)=0:=by
      have h1:=zk4 m1 (q+(m+2)+1)
      have h2:=ze2 m0 (q+(m+2)+1)
      omega
    go_wp2_with fail
    refine (zr1 _ (q+1) (q+1) (U/V) _ (by omega) (by omega) q0 q1 (hOq.congr (fun i hi0=>hh.out.2.2 i (by omega) hi0)).row).mono ?_
    rintro e w6 ⟨⟨k1,rfl,aE,aW⟩,rfl⟩
    go_wp2_with fail
    refine (zr1 _ (q+(m+2)+1) (q+(m+2)+1) (U % V) _ (by omega) (by omega) m0 m2 (hOu.congr (fun i hi0=>by
      have:=hh.out.2.1 i (by omega)
      rw [Nat.zero_add,ze5] at this;exact this)).row).mono ?_
    rintro e w6 ⟨⟨k2,rfl,aQ,aT⟩,rfl⟩
    go_wp2_with fail
    refine (zU7 _ k2 _ (U % V) s _ (by omega) aQ ai).mono ?_
    rintro e w7 ⟨⟨go,k3,cap,rfl,aD⟩,aB⟩
    go_wp2
    go_ret2
    rw [HQ.out.1] at aE
    rw [HQ.out.2,Int.mul_ediv_cancel _ (show (2:Int) ^ s≠0 by have:=HP.out.1;omega)] at aD
    exact ⟨⟨_,_,_,_,_,_,rfl,aE.below aB,aD⟩,Gr.trans hGr aB⟩
theorem zv4 {w:World} {ao bo:Option Addr} {la lb ca cb:Nat} {a b:Int} (ha:Mag w ao la ca a) (hb:Mag w bo lb cb b) (hla:la≤1000000) (hlb:lb≤1000000) (hb0:0<b):
  Calls Tryz.prog 151 #[.slice ao la ca,.slice bo lb cb] w fun e w'=>
   (∃ qo qk qc ro rk rc,e=.returned (.tuple #[.slice qo qk qc,.slice ro rk rc])∧Mag w' qo qk qc (a/b)∧Mag w' ro rk rc (a % b))∧Gr w w':=divide_c ao bo la lb ca cb a b w hla hlb ha hb hb0
theorem zv5 {neg:Bool} {ao:Option Addr} {len cap:Nat} {n Z:Int} {K:Nat} {w:World} (h:Mag w ao len cap n) (hn:n=(Z.natAbs:Int)) (hs:0<n→neg=decide (Z<0)) (hz:Sz K Z) (hK:K≤1000000):
  Calls Tryz.prog 105 #[.bool neg,.slice ao len cap] w fun e w'=>(∃ x y,e=.returned (.agg #[x,y])∧IsInt w' K x y Z)∧Gr w w':=by
 have hl:len≤K:=h.nl.len_sz (by rw [hn];exact hz.nat)
 refine (zj2 neg ao len cap n w (by omega) h.cap h.nl.nonneg h.nl.top h.row).mono ?_
 rintro e w1 ⟨⟨k,he,hm,_⟩,hB⟩
 exact ⟨⟨_,_,he,IsInt.mk' (hm.below hB) hn hs hz⟩,hB⟩
theorem zY4 {ao:Option Addr} {len cap:Nat} {n:Int} {K:Nat} {w:World} (h:Mag w ao len cap n) (hn:0<n) (hz:Sz K n) (hK:K≤1000000):
  Calls Tryz.prog 105 #[.bool false,.slice ao len cap] w fun e w'=>(∃ k,e=.returned (.agg #[.bool false,.slice ao k cap])∧IsInt w' K (.bool false) (.slice ao k cap) n)∧Gr w w':=by
 have hl:len≤K:=h.nl.len_sz hz
 refine (zj2 false ao len cap n w (by omega) h.cap h.nl.nonneg h.nl.top h.row).mono ?_
 rintro e w1 ⟨⟨k,he,hm,_⟩,hB⟩
 refine ⟨⟨k,he,?_⟩,hB⟩
 exact IsInt.mk' (s:=false) (hm.below hB) (by omega) (fun _=>by simp;omega) hz
theorem zY5 {ao:Option Addr} {len cap:Nat} {n:Int} {K:Nat} {w:World} (h:Mag w ao len cap n) (hn:0<n) (hz:Sz K n) (hK:K≤1000000):
  Calls Tryz.prog 105 #[.bool true,.slice ao len cap] w fun e w'=>(∃ k,e=.returned (.agg #[.bool true,.slice ao k cap])∧IsInt w' K (.bool true) (.slice ao k cap) (-n))∧Gr w w':=by
 have hl:len≤K:=h.nl.len_sz hz
 refine (zj2 true ao len cap n w (by omega) h.cap h.nl.nonneg h.nl.top h.row).mono ?_
 rintro e w1 ⟨⟨k,he,hm,_⟩,hB⟩
 have hm':=hm.below hB
 have hk:decide (0<k)=true:=by
  rw [decide_eq_true_eq]
  rcases Nat.eq_zero_or_pos k with h0 | h0
  ·have:=hm.nl.len_zero.1 h0;omega
  exact h0
 rw [hk] at he
 have:=IsInt.mk' (s:=true) hm' (z:=-n) (by omega) (fun _=>by simp;omega) hz.neg
 rw [hk] at this
 exact ⟨⟨k,he,this⟩,hB⟩
theorem zx4 {k:Nat} {x y:Value} {w:World} (hz:IsInt w k x y 0):
  Calls Tryz.prog 84 #[.agg #[x,y]] w fun e w'=>e=.returned (.int .i64 0)∧Gr w w':=zO9 hz
theorem zk0 {k:Nat} {x y:Value} {z:Int} {w:World} (hz:IsInt w k x y z) (h:0<z):
  Calls Tryz.prog 84 #[.agg #[x,y]] w fun e w'=>e=.returned (.int .i64 1)∧Gr w w':=by
 have:=zO9 hz
 rw [zx3 h] at this
 exact this
theorem sign_neg {k:Nat} {x y:Value} {z:Int} {w:World} (hz:IsInt w k x y z) (h:z<0):
  Calls Tryz.prog 84 #[.agg #[x,y]] w fun e w'=>e=.returned (.int .i64 (-1))∧Gr w w':=by
 have:=zO9 hz
 rw [zp2 h] at this
 exact this
theorem IsInt.resz {w:World} {k m:Nat} {x y:Value} {z:Int} (h:IsInt w k x y z) (hz:Sz m z):IsInt w m x y z:=by
 obtain ⟨ao,len,cap,h1,h2,h3,h4⟩:=h
 exact ⟨ao,len,cap,h1,h2,h3,hz⟩
theorem IsInt.len {w:World} {k:Nat} {x:Value} {ao:Option Addr} {len cap:Nat} {z:Int} (h:IsInt w k x (.slice ao len cap) z):len≤k:=by
 obtain ⟨ao',len',cap',h1,h2,h3,h4⟩:=h
 simp only [Value.slice.injEq] at h2
 obtain ⟨rfl,rfl,rfl⟩:=h2
 exact h3.nl.len_sz h4.nat

theorem Sz.i64 {z:Int} (h0:-9223372036854775808≤z) (h1:z≤9223372036854775807):Sz 64 z:=by unfold Sz;omega

set_option maxRecDepth 100000 in
set_option maxHeartbeats 1000000 in
theorem zY6 (z:Int) (h0:-9223372036854775808≤z) (h1:z≤9223372036854775807) (w:World):
  Calls Tryz.prog 82 #[.int .i64 z] w fun e w'=>(∃ x y,e=.returned (.agg #[x,y])∧IsInt w' 64 x y z)∧Gr w w':=by
 have key:∀ (w1:World) (c0 c1:Int),c0=(z.natAbs:Int) % 4294967296→c1=(z.natAbs:Int)/4294967296→Row (w1.alloc (.cells #[.int .u32 c0,.int .u32 c1] 171)) (some ⟨w1.heap.size,0,none⟩) 2 (dg (z.natAbs:Int)):=by
  rintro w1 _ _ rfl rfl
  refine ⟨fun _=>⟨_,0,_,_,rfl,(zm7 _ _).2.1,fun i ac=>?_⟩⟩
  have e0:dg (z.natAbs:Int) 0=(z.natAbs:Int) % 4294967296:=rfl
  have e1:dg (z.natAbs:Int) 1=(z.natAbs:Int)/4294967296:=by
   have:dg (z.natAbs:Int) 1=(z.natAbs:Int)/4294967296 % 4294967296:=rfl
   rw [this];omega
  rcases i with _ | _ | i
  ·rw [e0];rfl
  ·rw [e1];rfl
  omega
 have ht:hi (z.natAbs:Int) 2=0:=by rw [zd3,zd3,ze5];omega
 have ew:z<0→IntKind.u64.wrap (-IntKind.u64.wrap z)=(z.natAbs:Int):=by
  intro h
  rw [IntKind.wrap_u64,IntKind.wrap_u64];omega
 by_cases hn:z<0
 ·have hd:decide (z<0)=true:=by simpa using hn
  have ew':=Lib.hid (ew hn)
  clear ew
  go_enter Tryz.func82,Tryz.ntmps82
  go_wp2_with fail
  refine (zj2 true _ 2 2 (z.natAbs:Int) _ (by omega) (by omega) (by omega) ht ?g1).mono ?_
  case g1=>
   refine cast ?_ (key (w.alloc (.cells #[.bool false,.slice none 0 0] 60)) _ _ rfl rfl)
   rw [ew'.out]
   have:(z.natAbs:Int)/4294967296 % 4294967296=(z.natAbs:Int)/4294967296:=by omega
   rw [this]
   simp
  rintro e w1 ⟨⟨k,rfl,hm,hk⟩,hB⟩
  obtain ⟨g0,f0,f1,fs⟩:=zm8 w (.cells #[.bool false,.slice none 0 0] 60) (.cells #[.int .u32 (IntKind.u64.wrap (-IntKind.u64.wrap z) % 4294967296),.int .u32 (IntKind.u64.wrap (-IntKind.u64.wrap z)/4294967296 % 4294967296)] 171)
  have p3:=Gr.heap hB f0
  have d0:=zc4 p3 0
  have d1:=zc4 p3 1
  have d2:=zk1 p3
  have aa:Gr w w1:=Gr.trans g0 hB
  have hMM:=hm.kp (Gr.kp hB)
  clear f0 f1 fs hB g0
  go_wp2
  have p4:=zb6 (i:=1) (.slice (some ⟨w.heap.size+1,0,none⟩) k 2) (zb6 (i:=0) (.bool (true&&decide (0<k))) p3)
  have hst:=(St.setCell w1 w.heap.size 0 (.bool (true&&decide (0<k)))).trans (St.setCell _ w.heap.size 1 (.slice (some ⟨w.heap.size+1,0,none⟩) k 2))
  exact bodyPost_ret (v:=.agg #[.bool (true&&decide (0<k)),.slice (some ⟨w.heap.size+1,0,none⟩) k 2]) (zc8 _ _ _ rfl rfl p4 (by kernel_rfl)) rfl ⟨⟨_,_,rfl,IsInt.mk' (s:=true) (hMM.kp (hst.kp p3 (by decide))) rfl (fun _=>by simp;omega) (Sz.i64 h0 h1)⟩,hst.gr aa (Nat.le_refl _)⟩
 have hd:decide (z<0)=false:=by simpa using hn
 clear ew
 go_enter Tryz.func82,Tryz.ntmps82
 go_wp2_with fail
 refine (zj2 false _ 2 2 (z.natAbs:Int) _ (by omega) (by omega) (by omega) ht ?g1).mono ?_
 case g1=>
  refine cast ?_ (key (w.alloc (.cells #[.bool false,.slice none 0 0] 60)) _ _ rfl rfl)
  have:(z.natAbs:Int)=z:=by omega
  rw [this]
  simp
 rintro e w1 ⟨⟨k,rfl,hm,hk⟩,hB⟩
 obtain ⟨g0,f0,f1,fs⟩:=zm8 w (.cells #[.bool false,.slice none 0 0] 60) (.cells #[.int .u32 (z % 4294967296),.int .u32 (z/4294967296)] 171)
 have p3:=Gr.heap hB f0
 have d0:=zc4 p3 0
 have d1:=zc4 p3 1
 have d2:=zk1 p3
 have aa:Gr w w1:=Gr.trans g0 hB
 have hMM:=hm.kp (Gr.kp hB)
 clear f0 f1 fs hB g0
 go_wp2
 have p4:=zb6 (i:=1) (.slice (some ⟨w.heap.size+1,0,none⟩) k 2) (zb6 (i:=0) (.bool (false&&decide (0<k))) p3)
 have hst:=(St.setCell w1 w.heap.size 0 (.bool (false&&decide (0<k)))).trans (St.setCell _ w.heap.size 1 (.slice (some ⟨w.heap.size+1,0,none⟩) k 2))
 exact bodyPost_ret (v:=.agg #[.bool (false&&decide (0<k)),.slice (some ⟨w.heap.size+1,0,none⟩) k 2]) (zc8 _ _ _ rfl rfl p4 (by kernel_rfl)) rfl ⟨⟨_,_,rfl,IsInt.mk' (s:=false) (hMM.kp (hst.kp p3 (by decide))) rfl (fun _=>by simp;omega) (Sz.i64 h0 h1)⟩,hst.gr aa (Nat.le_refl _)⟩

theorem Mag.uniq {w:World} {p:Option Addr} {l c:Nat} {a b:Int} (h:Mag w p l c a) (g:Mag w p l c b):a=b:=by
 refine eq_of_dg l h.nl.top g.nl.top fun i hi=>?_
 obtain ⟨b1,o1,e1,h1⟩:=h.row.at_ (by omega)
 obtain ⟨b2,o2,e2,h2⟩:=g.row.at_ (by omega)
 rw [e1] at e2
 simp only [Option.some.injEq,Addr.mk.injEq] at e2
 obtain ⟨rfl,rfl,_⟩:=e2
 have:=(h1 i hi).symm.trans (h2 i hi)
 simpa using this
open Classical in
noncomputable def magOf (v:Value) (w:World):Nat:=
 match v with
 | .slice p l c=>if h:∃ n:Nat,Mag w p l c (n:Int) then Classical.choose h else 0
 | _=>0
theorem zP0 {w:World} {p:Option Addr} {l c n:Nat} (h:Mag w p l c (n:Int)):magOf (.slice p l c) w=n:=by
 have hex:∃ n:Nat,Mag w p l c (n:Int):=⟨n,h⟩
 simp only [magOf]
 rw [dif_pos hex]
 have:=(Classical.choose_spec hex).uniq h
 omega

theorem sz_gcd {k m:Nat} {z u:Int} (hz:Sz k z) (hu:Sz m u):Sz (k+m) (Int.gcd z u:Int):=by
 by_cases h:z=0
 ·subst h
  rw [Int.gcd_zero_left]
  exact hu.nat.mono (by omega)
 have h1:Int.gcd z u≤z.natAbs:=Nat.gcd_le_left _ (by omega)
 exact Sz.of_le (hz.nat.mono (show k≤k+m by omega)) (by simp only [Int.natAbs_natCast];exact h1)

set_option maxRecDepth 100000 in
set_option maxHeartbeats 1000000 in
theorem gcd_i {k m:Nat} {x y x2 y2:Value} {z u:Int} {w:World} (hz:IsInt w k x y z) (hu:IsInt w m x2 y2 u) (hk:k+m≤1000000):
  Calls Tryz.prog 121 #[.agg #[x,y],.agg #[x2,y2]] w fun e w'=>(∃ x' y',e=.returned (.agg #[x',y'])∧IsInt w' (k+m) x' y' (Int.gcd z u))∧Gr w w':=by
 obtain ⟨ao,la,ca,rfl,rfl,ha,hs⟩:=hz
 obtain ⟨bo,lb,cb,rfl,rfl,hb,ht⟩:=hu
 have hla:=ha.nl.len_sz hs.nat
 have hlb:=hb.nl.len_sz ht.nat
 have hsz:=Lib.hid (sz_gcd hs ht)
 generalize decide (z<0)=s1
 generalize decide (u<0)=s2
 go_enter Tryz.func121,Tryz.ntmps121
 go_wp2
 go_quiet (fail)
 obtain ⟨g0,f0,f1,f2,fs⟩:=zt3 w (.cells #[.bool s1,.slice ao la ca] 60) (.cells #[.bool s2,.slice bo lb cb] 60) (.cells #[.bool false,.slice none 0 0] 60)
 generalize ae:((w.alloc (.cells #[.bool s1,.slice ao la ca] 60)).alloc (.cells #[.bool s2,.slice bo lb cb] 60)).alloc (.cells #[.bool false,.slice none 0 0] 60)=w0 at*
 have hA:=ha.gr g0
 have hB:=hb.gr g0
 clear f0 f1 fs ae
 go_wp2
 go_loopw [5,6] (fun s5 s6 wr=>∃ (p5:Option Addr) (l5 c5:Nat) (p6:Option Addr) (l6 c6:Nat) (A B:Nat),s5=.slice p5 l5 c5∧s6=.slice p6 l6 c6∧Mag wr p5 l5 c5 (A:Int)∧Mag wr p6 l6 c6 (B:Int)∧l5≤1000000∧l6≤1000000∧Gr w0 wr∧Hid (Nat.gcd A B=Int.gcd z u)) (fun _ s6 wr=>magOf s6 wr)
 case atStart=>exact ⟨_,_,_,_,_,_,_,_,rfl,rfl,hA.gr (((Below.refl _ _).drewN _)),hB.gr (((Below.refl _ _).drewN _)),by omega,by omega,((Below.refl _ _).drewN _),rfl⟩
 case round=>
  obtain ⟨p5,l5,c5,p6,l6,c6,A,B,rfl,rfl,h5,h6,af,aa,hG,hh⟩:=hrel
  by_cases hp:0<l6
  ·have ac:B≠0:=fun e=>by subst e;have:=h6.nl.len_zero.2 rfl;omega
   go_wp2_with fail
   refine (zv4 h5 h6 af aa (by omega)).mono ?_
   rintro e w3 ⟨⟨qo,qk,qc,ro,rk,rc,rfl,h7,h8⟩,ad⟩
   go_wp2
   have e8:(A:Int) % (B:Int)=((A % B:Nat):Int):=(Int.natCast_emod A B).symm
   rw [e8] at h8
   have hlt:A % B<B:=Nat.mod_lt _ (by omega)
   go_roundw
   case rel=>
    refine ⟨_,_,_,_,_,_,B,A % B,rfl,rfl,h6.gr ad,h8,aa,Nat.le_trans (h8.nl.len_le h6.nl (by omega)) aa,Gr.trans hG ad,?_⟩
    show Nat.gcd B (A % B)=_
    rw [← hh.out,Nat.gcd_comm B,← Nat.gcd_rec,Nat.gcd_comm]
   case measure=>
    rw [zP0 h8,zP0 h6];exact hlt
  obtain rfl:l6=0:=by omega
  have ac:B=0:=by have:=h6.nl.len_zero.1 rfl;omega
  subst ac
  have p3:=Gr.heap hG f2
  have d0:=zc4 p3 0
  have d1:=zc4 p3 1
  have d2:=zk1 p3
  have ah:Gr w wr:=Gr.trans g0 hG
  have hg:A=Int.gcd z u:=by rw [← hh.out,Nat.gcd_zero_right]
  subst hg
  clear hh hG hA hB f2
  go_wp2
  have p4:=zb6 (i:=1) (.slice p5 l5 c5) (zb6 (i:=0) (.bool false) p3)
  have hst:=(St.setCell wr (w.heap.size+1+1) 0 (.bool false)).trans (St.setCell _ (w.heap.size+1+1) 1 (.slice p5 l5 c5))
  exact bodyPost_ret (v:=.agg #[.bool false,.slice p5 l5 c5]) (zc8 _ _ _ rfl rfl p4 (by kernel_rfl)) rfl ⟨⟨_,_,rfl,p5,l5,c5,by simp,rfl,h5.kp (hst.kp p3 (by decide)),hsz.out⟩,hst.gr ah (by omega)⟩
theorem za3 {P:Program} {w:World} {fn:Func} {tmps:Array Value} {t:Tmp} {v:Value} (h:fn.results=#[.tmp t]) (hv:tmps.getD t undef=v):(results fn tmps).run P w=.ok v w:=by
 subst hv;exact results_tmp h _ _ _
theorem zf2 {P:Program} {w:World} {fn:Func} {tmps:Array Value} {t u:Tmp} {v x:Value} (h:fn.results=#[.tmp t,.tmp u]) (hv:tmps.getD t undef=v) (hx:tmps.getD u undef=x):(results fn tmps).run P w=.ok (.tuple #[v,x]) w:=by
 subst hv hx;simp [results,h]
theorem zb8 {P:Program} {w:World} {fn:Func} {tmps:Array Value} {p u:Tmp} {t:TypeId} {v:Value} (b:Nat) (cs:Array Value) (tt:TypeId) (h:fn.results=#[.cell p t,.tmp u]) (hp:tmps.getD p undef=.pointer (some ⟨b,0,none⟩)) (hL:Lc w b cs tt) (hs:zg5 P t=some cs.size) (hv:tmps.getD u undef=v):
  (results fn tmps).run P w=.ok (.tuple #[.agg cs,v]) w:=by
 subst hv;exact zI2 b cs tt h hp hL hs
theorem zk3 {P:Program} {w:World} {fn:Func} {tmps:Array Value} {p q u:Tmp} {t t2:TypeId} {v:Value} (b c:Nat) (cs ds:Array Value) (tt aa:TypeId) (h:fn.results=#[.cell p t,.cell q t2,.tmp u]) (hp:tmps.getD p undef=.pointer (some ⟨b,0,none⟩)) (hq:tmps.getD q undef=.pointer (some ⟨c,0,none⟩))
  (hL:Lc w b cs tt) (hs:zg5 P t=some cs.size) (ad:Lc w c ds aa) (ac:zg5 P t2=some ds.size) (hv:tmps.getD u undef=v):
  (results fn tmps).run P w=.ok (.tuple #[.agg cs,.agg ds,v]) w:=by
 subst hv;exact zE3 b c cs ds tt aa h hp hq hL hs ad ac
end Go.Proofs.YtjhflekncldflaaGreatDoor
namespace Go.Proofs.YtjhflekncldflaaGreatDoor
set_option maxRecDepth 100000
set_option maxHeartbeats 1000000
open Go.RowKit

theorem sub_i {k m:Nat} {x y x2 y2:Value} {z u:Int} {w:World} (hz:IsInt w k x y z) (hu:IsInt w m x2 y2 u) (_hk:k+m+1≤1000000):
    Calls Tryz.prog 155 #[.agg #[x,y],.agg #[x2,y2]] w fun e w'=>(∃ x' y',e=.returned (.agg #[x',y'])∧IsInt w' (k+m+1) x' y' (z - u))∧Gr w w':=by
 go_enter Tryz.func155,Tryz.ntmps155
 have hB:=Gr.refl w
 refine wp_seq_k (fun K1 k1=>rg [0,1,2] ?_)
 refine se ?_
 refine eb 60 #[x,y] 2 hB fun b2 w2 g2 L2 o2 q2 hB=>?_
 simp only [p3,p4]
 refine se ?_
 refine eb 60 #[x2,y2] 3 hB fun b3 w3 g3 L3 o3 q3 hB=>?_
 simp only [p3,p4]
 refine se ?_
 refine ea 60 #[.bool false,sN] 4 hB fun b4 w4 g4 L4 o4 q4 hB=>?_
 replace L2:=L2.gr g3
 have ad:=L2.ne o4
 have ac:=L3.ne o4
 simp only [p3,p4]
 refine za0 (k1 _ _ ?_)
 refine wp_seq_k (fun K5 k5=>?_)
 have aa:=Gr.drew w4
 replace hB:=hB.trans aa
 replace L2:=L2.gr (g4.trans aa)
 replace L3:=L3.gr (g4.trans aa)
 refine za5 (fun w'=>Lc w' b2 #[x,y] 60∧Lc w' b3 #[x2,y2] 60) [(true,0),(true,1),(false,2),(false,3),(false,4)] (by kernel_rfl) (by kernel_rfl) (by kernel_rfl) (by decide) (fun _ _ _ _ _ h=>h) ⟨L2,L3⟩ ?_
 refine ow 5 (.agg #[x,y]) rfl (fun w' hS=>(rl 60 0 [x,y] hS.1)) ?_
 refine ow 6 (.agg #[x2,y2]) rfl (fun w' hS=>(rl 60 0 [x2,y2] hS.2)) ?_
 refine oe ?_
 have ap:=g2.kp.trans (g3.kp.trans (g4.kp.trans aa.kp))
 replace hu:=hu.kp ap
 refine ec 7 (neg_i hu) ?_
 rintro av az ⟨⟨aw,ay,rfl,ar⟩,ah⟩
 refine ⟨_,rfl,?_⟩
 replace hB:=hB.trans ah
 replace L2:=L2.gr ah
 replace L3:=L3.gr ah
 refine ⟨⟨L2,L3⟩,?_⟩
 simp only [p3,p4]
 refine oe ?_
 have al:=g2.kp.trans (g3.kp.trans (g4.kp.trans (aa.kp.trans ah.kp)))
 replace hz:=hz.kp al
 refine ec 8 (add_i hz ar (by omega)) ?_
 rintro aA au ⟨⟨ai,aj,rfl,af⟩,ak⟩
 refine ⟨_,rfl,?_⟩
 replace hB:=hB.trans ak
 replace L2:=L2.gr ak
 replace L3:=L3.gr ak
 refine ⟨⟨L2,L3⟩,?_⟩
 simp only [p3,p4]
 refine oe ?_
 replace L4:=L4.gr (aa.trans (ah.trans ak))
 refine es 60 0 (.agg #[ai,aj]) [ai,aj] #[ai,aj] L4 hB q4 ⟨af.one0,af.one1,trivial⟩ fun ax ae aq L4 hB=>?_
 replace L2:=ae.lc L2 ad
 replace L3:=ae.lc L3 ac
 refine ⟨⟨L2,L3⟩,?_⟩
 refine zb4 ?_
 refine k5 _ _ ?_
 refine wp_ret ?_
 refine bodyPost_ret (v:=(.agg #[ai,aj])) (zc8 _ _ _ rfl rfl L4 (by kernel_rfl)) rfl ⟨?_,hB⟩
 replace af:=af.kp aq
 exact ⟨_,_,rfl,by rw [Int.sub_eq_add_neg];exact af⟩

theorem cmp_tt {w:World} {a b:Int} {ao bo:Option Addr} {la lb ca cb:Nat} (ha:Mag w ao la ca a) (hb:Mag w bo lb cb b) (_hla:la≤1000000) (_hlb:lb≤1000000):
    Calls Tryz.prog 85 #[.agg #[.bool true,.slice ao la ca],.agg #[.bool true,.slice bo lb cb]] w fun e w'=>(e=.returned (iT (sgn (b - a))))∧Gr w w':=by
 go_enter Tryz.func85,Tryz.ntmps85
 have hB:=Gr.refl w
 refine wp_seq_k (fun K1 k1=>rg [0,1,2] ?_)
 refine se ?_
 refine eb 60 #[.bool true,.slice ao la ca] 2 hB fun b2 w2 g2 L2 o2 q2 hB=>?_
 simp only [p3,p4]
 refine se ?_
 refine eb 60 #[.bool true,.slice bo lb cb] 3 hB fun b3 w3 g3 L3 o3 q3 hB=>?_
 simp only [p3,p4]
 refine sv 4 (iT 0) (za0 (k1 _ _ ?_))
 refine wp_seq_k (fun K4 k4=>?_)
 refine wp_block ?_
 refine wp_seq_k (fun K5 k5=>rg [0,1,2,3,4,5] (sv 6 (pT b2 0) ?_))
 replace L2:=L2.gr g3
 refine sw 7 (.bool true) rfl (rk 4 0 L2) ?_
 refine sv 8 (pT b3 0) ?_
 refine sw 9 (.bool true) rfl (rk 4 0 L3) ?_
 refine sv 10 (.bool false) ?_
 refine sv 5 (.bool false) (za0 (k5 _ _ ?_))
 refine wp_cond_false rfl ?_
 refine wp_seq_k (fun K6 k6=>rg [0,1,2] (sv 14 (pT b2 0) ?_))
 refine sw 15 (.bool true) rfl (rk 4 0 L2) ?_
 refine sv 13 (.bool true) (za0 (k6 _ _ ?_))
 refine wp_cond_true rfl ?_
 refine wp_seq_k (fun K7 k7=>rg [0,1,2,3,4,5] (sv 16 (pT b3 1) ?_))
 refine sw 17 (.slice bo lb cb) rfl (rk 58 1 L3) ?_
 refine sv 18 (pT b2 1) ?_
 refine sw 19 (.slice ao la ca) rfl (rk 58 1 L2) ?_
 refine se ?_
 have aa:=g2.kp.trans g3.kp
 replace hb:=hb.kp aa
 replace ha:=ha.kp aa
 refine ec 20 (zD0 hb ha (by omega) (by omega)) ?_
 rintro e8 w8 ⟨rfl,g8⟩
 refine ⟨_,rfl,?_⟩
 replace hB:=hB.trans g8
 simp only [p3,p4]
 refine sv 4 (iT (sgn (b - a))) (za0 (k7 _ _ ?_))
 refine wp_ret ?_
 simp only [Exit.then,Exit.inBlock]
 refine bodyPost_ret (v:=(iT (sgn (b - a)))) (za3 rfl rfl) rfl ⟨?_,hB⟩
 exact rfl

theorem cmp_tf {w:World} {a b:Int} {ao bo:Option Addr} {la lb ca cb:Nat} (_ha:Mag w ao la ca a) (_hb:Mag w bo lb cb b) (_hla:la≤1000000) (_hlb:lb≤1000000):
    Calls Tryz.prog 85 #[.agg #[.bool true,.slice ao la ca],.agg #[.bool false,.slice bo lb cb]] w fun e w'=>(e=.returned (iT (-1)))∧Gr w w':=by
 go_enter Tryz.func85,Tryz.ntmps85
 have hB:=Gr.refl w
 refine wp_seq_k (fun K1 k1=>rg [0,1,2] ?_)
 refine se ?_
 refine eb 60 #[.bool true,.slice ao la ca] 2 hB fun b2 w2 g2 L2 o2 q2 hB=>?_
 simp only [p3,p4]
 refine se ?_
 refine eb 60 #[.bool false,.slice bo lb cb] 3 hB fun b3 w3 g3 L3 o3 q3 hB=>?_
 simp only [p3,p4]
 refine sv 4 (iT 0) (za0 (k1 _ _ ?_))
 refine wp_seq_k (fun K4 k4=>?_)
 refine wp_block ?_
 refine wp_seq_k (fun K5 k5=>rg [0,1,2,3,4,5] (sv 6 (pT b2 0) ?_))
 replace L2:=L2.gr g3
 refine sw 7 (.bool true) rfl (rk 4 0 L2) ?_
 refine sv 8 (pT b3 0) ?_
 refine sw 9 (.bool false) rfl (rk 4 0 L3) ?_
 refine sv 10 (.bool true) ?_
 refine sv 5 (.bool true) (za0 (k5 _ _ ?_))
 refine wp_cond_true rfl ?_
 refine wp_seq_k (fun K6 k6=>wp_seq_k (fun K7 k7=>rg [0,1] (sv 11 (pT b2 0) ?_)))
 refine sw 12 (.bool true) rfl (rk 4 0 L2) ?_
 refine za0 (k7 _ _ ?_)
 refine wp_cond_true rfl ?_
 refine wp_seq_k (fun K8 k8=>rg [0] (sv 4 (iT (-1)) ?_))
 refine za0 (k8 _ _ ?_)
 refine wp_ret ?_
 simp only [Exit.then,Exit.inBlock]
 refine bodyPost_ret (v:=(iT (-1))) (za3 rfl rfl) rfl ⟨?_,hB⟩
 exact rfl

theorem cmp_ft {w:World} {a b:Int} {ao bo:Option Addr} {la lb ca cb:Nat} (_ha:Mag w ao la ca a) (_hb:Mag w bo lb cb b) (_hla:la≤1000000) (_hlb:lb≤1000000):
    Calls Tryz.prog 85 #[.agg #[.bool false,.slice ao la ca],.agg #[.bool true,.slice bo lb cb]] w fun e w'=>(e=.returned (iT (1)))∧Gr w w':=by
 go_enter Tryz.func85,Tryz.ntmps85
 have hB:=Gr.refl w
 refine wp_seq_k (fun K1 k1=>rg [0,1,2] ?_)
 refine se ?_
 refine eb 60 #[.bool false,.slice ao la ca] 2 hB fun b2 w2 g2 L2 o2 q2 hB=>?_
 simp only [p3,p4]
 refine se ?_
 refine eb 60 #[.bool true,.slice bo lb cb] 3 hB fun b3 w3 g3 L3 o3 q3 hB=>?_
 simp only [p3,p4]
 refine sv 4 (iT 0) (za0 (k1 _ _ ?_))
 refine wp_seq_k (fun K4 k4=>?_)
 refine wp_block ?_
 refine wp_seq_k (fun K5 k5=>rg [0,1,2,3,4,5] (sv 6 (pT b2 0) ?_))
 replace L2:=L2.gr g3
 refine sw 7 (.bool false) rfl (rk 4 0 L2) ?_
 refine sv 8 (pT b3 0) ?_
 refine sw 9 (.bool true) rfl (rk 4 0 L3) ?_
 refine sv 10 (.bool true) ?_
 refine sv 5 (.bool true) (za0 (k5 _ _ ?_))
 refine wp_cond_true rfl ?_
 refine wp_seq_k (fun K6 k6=>wp_seq_k (fun K7 k7=>rg [0,1] (sv 11 (pT b2 0) ?_)))
 refine sw 12 (.bool false) rfl (rk 4 0 L2) ?_
 refine za0 (k7 _ _ ?_)
 refine wp_cond_false rfl ?_
 refine wp_skip ?_
 refine k6 _ _ ?_
 refine wp_seq_k (fun K8 k8=>rg [0] (sv 4 (iT 1) ?_))
 refine za0 (k8 _ _ ?_)
 refine wp_ret ?_
 simp only [Exit.then,Exit.inBlock]
 refine bodyPost_ret (v:=(iT 1)) (za3 rfl rfl) rfl ⟨?_,hB⟩
 exact rfl

theorem cmp_ff {w:World} {a b:Int} {ao bo:Option Addr} {la lb ca cb:Nat} (ha:Mag w ao la ca a) (hb:Mag w bo lb cb b) (_hla:la≤1000000) (_hlb:lb≤1000000):
    Calls Tryz.prog 85 #[.agg #[.bool false,.slice ao la ca],.agg #[.bool false,.slice bo lb cb]] w fun e w'=>(e=.returned (iT (sgn (a - b))))∧Gr w w':=by
 go_enter Tryz.func85,Tryz.ntmps85
 have hB:=Gr.refl w
 refine wp_seq_k (fun K1 k1=>rg [0,1,2] ?_)
 refine se ?_
 refine eb 60 #[.bool false,.slice ao la ca] 2 hB fun b2 w2 g2 L2 o2 q2 hB=>?_
 simp only [p3,p4]
 refine se ?_
 refine eb 60 #[.bool false,.slice bo lb cb] 3 hB fun b3 w3 g3 L3 o3 q3 hB=>?_
 simp only [p3,p4]
 refine sv 4 (iT 0) (za0 (k1 _ _ ?_))
 refine wp_seq_k (fun K4 k4=>?_)
 refine wp_block ?_
 refine wp_seq_k (fun K5 k5=>rg [0,1,2,3,4,5] (sv 6 (pT b2 0) ?_))
 replace L2:=L2.gr g3
 refine sw 7 (.bool false) rfl (rk 4 0 L2) ?_
 refine sv 8 (pT b3 0) ?_
 refine sw 9 (.bool false) rfl (rk 4 0 L3) ?_
 refine sv 10 (.bool false) ?_
 refine sv 5 (.bool false) (za0 (k5 _ _ ?_))
 refine wp_cond_false rfl ?_
 refine wp_seq_k (fun K6 k6=>rg [0,1,2] (sv 14 (pT b2 0) ?_))
 refine sw 15 (.bool false) rfl (rk 4 0 L2) ?_
 refine sv 13 (.bool false) (za0 (k6 _ _ ?_))
 refine wp_cond_false rfl ?_
 refine wp_skip ?_
 refine k4 _ _ ?_
 refine wp_seq_k (fun K7 k7=>rg [0,1,2,3,4,5] (sv 21 (pT b2 1) ?_))
 refine sw 22 (.slice ao la ca) rfl (rk 58 1 L2) ?_
 refine sv 23 (pT b3 1) ?_
 refine sw 24 (.slice bo lb cb) rfl (rk 58 1 L3) ?_
 refine se ?_
 have aa:=g2.kp.trans g3.kp
 replace ha:=ha.kp aa
 replace hb:=hb.kp aa
 refine ec 25 (zD0 ha hb (by omega) (by omega)) ?_
 rintro e8 w8 ⟨rfl,g8⟩
 refine ⟨_,rfl,?_⟩
 replace hB:=hB.trans g8
 simp only [p3,p4]
 refine sv 4 (iT (sgn (a - b))) (za0 (k7 _ _ ?_))
 refine wp_ret ?_
 refine bodyPost_ret (v:=(iT (sgn (a - b)))) (za3 rfl rfl) rfl ⟨?_,hB⟩
 exact rfl

theorem divmod_0 {w:World} {s:Bool} {K m:Nat} {a b Z:Int} {ao bo:Option Addr} {la lb ca cb:Nat} (ha:Mag w ao la ca a) (hb:Mag w bo lb cb b) (hu:IsInt w m (.bool false) (.slice bo lb cb) b) (_hla:la≤1000000) (_hlb:lb≤1000000) (_hb0:0<b) (hd:a % b=0) (hQ:a/b=(Z.natAbs:Int)) (hS:0<a/b→(s !=false)=decide (Z<0)) (hZ:Sz K Z) (hK:K≤1000000) (hm:m≤1000000):
    Calls Tryz.prog 129 #[.agg #[.bool (s),.slice ao la ca],.agg #[.bool false,.slice bo lb cb]] w fun e w'=>(∃ x' y' x3 y3,e=.returned (.tuple #[.agg #[x',y'],.agg #[x3,y3],iT 0])∧IsInt w' K x' y' (Z)∧IsInt w' m x3 y3 (0))∧Gr w w':=by
 have hR:a % b=((0:Int).natAbs:Int):=hd
 go_enter Tryz.func129,Tryz.ntmps129
 have hB:=Gr.refl w
 refine wp_seq_k (fun K1 k1=>rg [0,1,2,3,4] ?_)
 refine se ?_
 refine eb 60 #[.bool (s),.slice ao la ca] 2 hB fun b2 w2 g2 L2 o2 q2 hB=>?_
 simp only [p3,p4]
 refine se ?_
 refine eb 60 #[.bool false,.slice bo lb cb] 3 hB fun b3 w3 g3 L3 o3 q3 hB=>?_
 simp only [p3,p4]
 refine se ?_
 refine ea 60 #[.bool false,sN] 4 hB fun b4 w4 g4 L4 o4 q4 hB=>?_
 replace L2:=L2.gr g3
 have aH:=L2.ne o4
 have aC:=L3.ne o4
 simp only [p3,p4]
 refine se ?_
 refine ea 60 #[.bool false,sN] 5 hB fun b5 w5 g5 L5 o5 q5 hB=>?_
 replace L2:=L2.gr g4
 have aG:=L2.ne o5
 replace L3:=L3.gr g4
 have aI:=L3.ne o5
 have ac:=L4.ne o5
 simp only [p3,p4]
 refine sv 6 (iT 0) (za0 (k1 _ _ ?_))
 refine wp_seq_k (fun K6 k6=>wp_seq_k (fun K7 k7=>rg [0,1,2] ?_))
 replace L3:=L3.gr g5
 refine sw 9 (.agg #[.bool false,.slice bo lb cb]) rfl (rl 60 0 [.bool false,.slice bo lb cb] L3) ?_
 refine se ?_
 have aY:=g2.kp.trans (g3.kp.trans (g4.kp.trans g5.kp))
 replace hu:=hu.kp aY
 refine ec 10 (zk0 hu (by omega)) ?_
 rintro e8 w8 ⟨rfl,g8⟩
 refine ⟨_,rfl,?_⟩
 replace hB:=hB.trans g8
 simp only [p3,p4]
 refine sv 11 (.bool false) (za0 (k7 _ _ ?_))
 refine wp_cond_false rfl ?_
 refine wp_skip ?_
 refine k6 _ _ ?_
 refine wp_seq_k (fun bh aT=>rg [0,1,2,3,4,5,6,7,8,9] (sv 15 (pT b2 1) ?_))
 replace L2:=L2.gr (g5.trans g8)
 refine sw 16 (.slice ao la ca) rfl (rk 58 1 L2) ?_
 refine sv 17 (pT b3 1) ?_
 replace L3:=L3.gr g8
 refine sw 18 (.slice bo lb cb) rfl (rk 58 1 L3) ?_
 refine se ?_
 have aM:=g2.kp.trans (g3.kp.trans (g4.kp.trans (g5.kp.trans g8.kp)))
 replace ha:=ha.kp aM
 replace hb:=hb.kp aM
 refine ec 19 (zv4 ha hb (by omega) (by omega) (by omega)) ?_
 rintro a3 aZ ⟨⟨au,al,ar,ap,aq,ak,rfl,ay,az⟩,aD⟩
 refine ⟨_,rfl,?_⟩
 replace hB:=hB.trans aD
 simp only [p3,p4]
 refine sv 14 (.tuple #[.slice au al ar,.slice ap aq ak]) ?_
 refine sv 20 (.slice au al ar) ?_
 refine sv 21 (.slice ap aq ak) ?_
 refine sv 7 (.slice au al ar) ?_
 refine sv 8 (.slice ap aq ak) (za0 (aT _ _ ?_))
 refine wp_seq_k (fun a1 aU=>?_)
 have aa:=Gr.drew aZ
 replace hB:=hB.trans aa
 replace L2:=L2.gr (aD.trans aa)
 replace L3:=L3.gr (aD.trans aa)
 refine za5 (fun w'=>Lc w' b2 #[.bool (s),.slice ao la ca] 60∧Lc w' b3 #[.bool false,.slice bo lb cb] 60) [(true,0),(true,1),(true,2),(true,3),(true,4),(true,5),(true,7),(true,8),(true,9),(false,6),(false,10),(false,11),(false,12)] (by kernel_rfl) (by kernel_rfl) (by kernel_rfl) (by decide) (fun _ _ _ _ _ h=>h) ⟨L2,L3⟩ ?_
 refine ov 22 (pT b2 0) ?_
 refine ow 23 (.bool (s)) rfl (fun w' hS=>(rk 4 0 hS.1)) ?_
 refine ov 24 (pT b3 0) ?_
 refine ow 25 (.bool false) rfl (fun w' hS=>(rk 4 0 hS.2)) ?_
 refine ov 26 (.bool (s !=false)) ?_
 refine ov 27 (.slice au al ar) ?_
 refine ov 29 (pT b2 0) ?_
 refine ow 30 (.bool (s)) rfl (fun w' hS=>(rk 4 0 hS.1)) ?_
 refine ov 31 (.slice ap aq ak) ?_
 refine oe ?_
 replace ay:=ay.kp aa.kp
 refine ec 28 (zv5 (neg:=(s !=false)) (Z:=Z) ay hQ hS hZ hK) ?_
 rintro a5 ba ⟨⟨ah,aj,rfl,ax⟩,aB⟩
 refine ⟨_,rfl,?_⟩
 replace hB:=hB.trans aB
 replace L2:=L2.gr aB
 replace L3:=L3.gr aB
 refine ⟨⟨L2,L3⟩,?_⟩
 simp only [p3,p4]
 refine oe ?_
 have aN:=aa.kp.trans aB.kp
 replace az:=az.kp aN
 refine ec 32 (zv5 (neg:=s) (Z:=0) az hR (fun h=>by omega) (Sz.zero m) hm) ?_
 rintro a6 a7 ⟨⟨ae,ad,rfl,ai⟩,aA⟩
 refine ⟨_,rfl,?_⟩
 replace hB:=hB.trans aA
 replace L2:=L2.gr aA
 replace L3:=L3.gr aA
 refine ⟨⟨L2,L3⟩,?_⟩
 simp only [p3,p4]
 refine oe ?_
 replace L4:=L4.gr (g5.trans (g8.trans (aD.trans (aa.trans (aB.trans aA)))))
 refine es 60 0 (.agg #[ah,aj]) [ah,aj] #[ah,aj] L4 hB q4 ⟨ax.one0,ax.one1,trivial⟩ fun bg av aL L4 hB=>?_
 replace L2:=av.lc L2 aH
 replace L3:=av.lc L3 aC
 refine ⟨⟨L2,L3⟩,?_⟩
 refine oe ?_
 replace L5:=av.lc (L5.gr (g8.trans (aD.trans (aa.trans (aB.trans aA))))) (Ne.symm ac)
 refine es 60 0 (.agg #[ae,ad]) [ae,ad] #[ae,ad] L5 hB q5 ⟨ai.one0,ai.one1,trivial⟩ fun a4 aw aF L5 hB=>?_
 replace L2:=aw.lc L2 aG
 replace L3:=aw.lc L3 aI
 refine ⟨⟨L2,L3⟩,?_⟩
 refine zb4 ?_
 refine aU _ _ ?_
 refine wp_seq_k (fun a8 aV=>wp_seq_k (fun bf a0=>rg [0,1,2,3,4,5,6,7,8,9] ?_))
 refine sw 33 (.agg #[ae,ad]) rfl (rl 60 0 [ae,ad] L5) ?_
 refine se ?_
 have aQ:=aL.trans aF
 replace ai:=ai.kp aQ
 refine ec 34 (zx4 ai) ?_
 rintro a2 aX ⟨rfl,aJ⟩
 refine ⟨_,rfl,?_⟩
 replace hB:=hB.trans aJ
 simp only [p3,p4]
 refine sv 35 (.bool false) ?_
 refine sv 36 (.bool false) ?_
 refine ss 37 ?_
 refine ss 38 ?_
 refine ss 39 ?_
 refine ss 40 ?_
 refine ss 41 ?_
 refine sv 42 (.bool false) (za0 (a0 _ _ ?_))
 refine wp_cond_false rfl ?_
 refine wp_skip ?_
 refine aV _ _ ?_
 refine wp_seq_k (fun bi aW=>?_)
 have af:=Gr.drew aX
 replace hB:=hB.trans af
 replace L4:=(aw.lc L4 ac).gr (aJ.trans af)
 replace L5:=L5.gr (aJ.trans af)
 refine zd2 (fun _=>True) [([2],(fun w'=>Lc w' b4 #[ah,aj] 60)),([3],(fun w'=>Lc w' b5 #[ae,ad] 60))] [(true,0),(true,1),(false,2),(false,3),(true,4)] (by kernel_rfl) (by kernel_rfl) (by kernel_rfl) (by decide) (fun _ _ _ _ _ h=>h) trivial ⟨fun _=>L4,fun _=>L5,trivial⟩ ?_
 refine tw 49 (.agg #[ah,aj]) rfl (fun w' hS=>(rl 60 0 [ah,aj] (hS.2.1 (by kernel_rfl)))) ?_
 refine tw 50 (.agg #[ae,ad]) rfl (fun w' hS=>(rl 60 0 [ae,ad] (hS.2.2.1 (by kernel_rfl)))) ?_
 refine te ?_
 refine es 60 0 (.agg #[ah,aj]) [ah,aj] #[ah,aj] L4 hB q4 ⟨ax.one0,ax.one1,trivial⟩ fun a9 aR aE L4 hB=>?_
 replace L5:=aR.lc L5 (Ne.symm ac)
 refine ⟨trivial,⟨zf9 (by kernel_rfl),fun _=>L5,trivial⟩,?_⟩
 refine te ?_
 refine es 60 0 (.agg #[ae,ad]) [ae,ad] #[ae,ad] L5 hB q5 ⟨ai.one0,ai.one1,trivial⟩ fun bb aP aK L5 hB=>?_
 refine ⟨trivial,⟨zf9 (by kernel_rfl),zf9 (by kernel_rfl),trivial⟩,?_⟩
 refine tv 6 (iT 0) ?_
 refine zg4 ?_
 refine aW _ _ ?_
 refine wp_ret ?_
 replace L4:=aP.lc L4 ac
 refine bodyPost_ret (v:=(.tuple #[.agg #[ah,aj],.agg #[ae,ad],iT 0])) (zk3 _ _ _ _ _ _ rfl rfl rfl L4 (by kernel_rfl) L5 (by kernel_rfl) rfl) rfl ⟨?_,hB⟩
 have aS:=aA.kp.trans (aL.trans (aF.trans (aJ.kp.trans (af.kp.trans (aE.trans aK)))))
 replace ax:=ax.kp aS
 have aO:=aJ.kp.trans (af.kp.trans (aE.trans aK))
 replace ai:=ai.kp aO
 exact ⟨_,_,_,_,rfl,ax,ai⟩

theorem divmod_f {w:World} {K m:Nat} {a b:Int} {ao bo:Option Addr} {la lb ca cb:Nat} (ha:Mag w ao la ca a) (hb:Mag w bo lb cb b) (hu:IsInt w m (.bool false) (.slice bo lb cb) b) (_hla:la≤1000000) (_hlb:lb≤1000000) (_hb0:0<b) (hR:0<a % b) (_hL:a % b<b) (_hQ:0≤a/b) (hZ:Sz K (a/b)) (hK:K≤1000000) (hm:m≤1000000):
    Calls Tryz.prog 129 #[.agg #[.bool false,.slice ao la ca],.agg #[.bool false,.slice bo lb cb]] w fun e w'=>(∃ x' y' x3 y3,e=.returned (.tuple #[.agg #[x',y'],.agg #[x3,y3],iT 0])∧IsInt w' K x' y' (a/b)∧IsInt w' m x3 y3 (a % b))∧Gr w w':=by
 go_enter Tryz.func129,Tryz.ntmps129
 have hB:=Gr.refl w
 refine wp_seq_k (fun K1 k1=>rg [0,1,2,3,4] ?_)
 refine se ?_
 refine eb 60 #[.bool false,.slice ao la ca] 2 hB fun b2 w2 g2 L2 o2 q2 hB=>?_
 simp only [p3,p4]
 refine se ?_
 refine eb 60 #[.bool false,.slice bo lb cb] 3 hB fun b3 w3 g3 L3 o3 q3 hB=>?_
 simp only [p3,p4]
 refine se ?_
 refine ea 60 #[.bool false,sN] 4 hB fun b4 w4 g4 L4 o4 q4 hB=>?_
 replace L2:=L2.gr g3
 have aH:=L2.ne o4
 have aC:=L3.ne o4
 simp only [p3,p4]
 refine se ?_
 refine ea 60 #[.bool false,sN] 5 hB fun b5 w5 g5 L5 o5 q5 hB=>?_
 replace L2:=L2.gr g4
 have aG:=L2.ne o5
 replace L3:=L3.gr g4
 have aI:=L3.ne o5
 have ae:=L4.ne o5
 simp only [p3,p4]
 refine sv 6 (iT 0) (za0 (k1 _ _ ?_))
 refine wp_seq_k (fun K6 k6=>wp_seq_k (fun K7 k7=>rg [0,1,2] ?_))
 replace L3:=L3.gr g5
 refine sw 9 (.agg #[.bool false,.slice bo lb cb]) rfl (rl 60 0 [.bool false,.slice bo lb cb] L3) ?_
 refine se ?_
 have aX:=g2.kp.trans (g3.kp.trans (g4.kp.trans g5.kp))
 replace hu:=hu.kp aX
 refine ec 10 (zk0 hu (by omega)) ?_
 rintro e8 w8 ⟨rfl,g8⟩
 refine ⟨_,rfl,?_⟩
 replace hB:=hB.trans g8
 simp only [p3,p4]
 refine sv 11 (.bool false) (za0 (k7 _ _ ?_))
 refine wp_cond_false rfl ?_
 refine wp_skip ?_
 refine k6 _ _ ?_
 refine wp_seq_k (fun bg aS=>rg [0,1,2,3,4,5,6,7,8,9] (sv 15 (pT b2 1) ?_))
 replace L2:=L2.gr (g5.trans g8)
 refine sw 16 (.slice ao la ca) rfl (rk 58 1 L2) ?_
 refine sv 17 (pT b3 1) ?_
 replace L3:=L3.gr g8
 refine sw 18 (.slice bo lb cb) rfl (rk 58 1 L3) ?_
 refine se ?_
 have aL:=g2.kp.trans (g3.kp.trans (g4.kp.trans (g5.kp.trans g8.kp)))
 replace ha:=ha.kp aL
 replace hb:=hb.kp aL
 refine ec 19 (zv4 ha hb (by omega) (by omega) (by omega)) ?_
 rintro a2 aY ⟨⟨aq,ak,ap,ac,al,aa,rfl,aw,ax⟩,aD⟩
 refine ⟨_,rfl,?_⟩
 replace hB:=hB.trans aD
 simp only [p3,p4]
 refine sv 14 (.tuple #[.slice aq ak ap,.slice ac al aa]) ?_
 refine sv 20 (.slice aq ak ap) ?_
 refine sv 21 (.slice ac al aa) ?_
 refine sv 7 (.slice aq ak ap) ?_
 refine sv 8 (.slice ac al aa) (za0 (aS _ _ ?_))
 refine wp_seq_k (fun a0 aT=>?_)
 have ad:=Gr.drew aY
 replace hB:=hB.trans ad
 replace L2:=L2.gr (aD.trans ad)
 replace L3:=L3.gr (aD.trans ad)
 refine za5 (fun w'=>Lc w' b2 #[.bool false,.slice ao la ca] 60∧Lc w' b3 #[.bool false,.slice bo lb cb] 60) [(true,0),(true,1),(true,2),(true,3),(true,4),(true,5),(true,7),(true,8),(true,9),(false,6),(false,10),(false,11),(false,12)] (by kernel_rfl) (by kernel_rfl) (by kernel_rfl) (by decide) (fun _ _ _ _ _ h=>h) ⟨L2,L3⟩ ?_
 refine ov 22 (pT b2 0) ?_
 refine ow 23 (.bool false) rfl (fun w' hS=>(rk 4 0 hS.1)) ?_
 refine ov 24 (pT b3 0) ?_
 refine ow 25 (.bool false) rfl (fun w' hS=>(rk 4 0 hS.2)) ?_
 refine ov 26 (.bool false) ?_
 refine ov 27 (.slice aq ak ap) ?_
 refine ov 29 (pT b2 0) ?_
 refine ow 30 (.bool false) rfl (fun w' hS=>(rk 4 0 hS.1)) ?_
 refine ov 31 (.slice ac al aa) ?_
 refine oe ?_
 replace aw:=aw.kp ad.kp
 refine ec 28 (zv5 (neg:=false) (Z:=(a/b)) aw (by omega) (fun _=>by simp;omega) hZ hK) ?_
 rintro a4 a9 ⟨⟨ai,aj,rfl,av⟩,aB⟩
 refine ⟨_,rfl,?_⟩
 replace hB:=hB.trans aB
 replace L2:=L2.gr aB
 replace L3:=L3.gr aB
 refine ⟨⟨L2,L3⟩,?_⟩
 simp only [p3,p4]
 refine oe ?_
 have aM:=ad.kp.trans aB.kp
 replace ax:=ax.kp aM
 refine ec 32 (zY4 ax hR (Sz.of_le hu.sz (by omega)) hm) ?_
 rintro a5 a6 ⟨⟨af,rfl,ay⟩,aA⟩
 refine ⟨_,rfl,?_⟩
 replace hB:=hB.trans aA
 replace L2:=L2.gr aA
 replace L3:=L3.gr aA
 refine ⟨⟨L2,L3⟩,?_⟩
 simp only [p3,p4]
 refine oe ?_
 replace L4:=L4.gr (g5.trans (g8.trans (aD.trans (ad.trans (aB.trans aA)))))
 refine es 60 0 (.agg #[ai,aj]) [ai,aj] #[ai,aj] L4 hB q4 ⟨av.one0,av.one1,trivial⟩ fun bf ar aK L4 hB=>?_
 replace L2:=ar.lc L2 aH
 replace L3:=ar.lc L3 aC
 refine ⟨⟨L2,L3⟩,?_⟩
 refine oe ?_
 replace L5:=ar.lc (L5.gr (g8.trans (aD.trans (ad.trans (aB.trans aA))))) (Ne.symm ae)
 refine es 60 0 (.agg #[.bool false,.slice ac af aa]) [.bool false,.slice ac af aa] #[.bool false,.slice ac af aa] L5 hB q5 ⟨rfl,rfl,trivial⟩ fun a3 au aF L5 hB=>?_
 replace L2:=au.lc L2 aG
 replace L3:=au.lc L3 aI
 refine ⟨⟨L2,L3⟩,?_⟩
 refine zb4 ?_
 refine aT _ _ ?_
 refine wp_seq_k (fun a7 aU=>wp_seq_k (fun bb aZ=>rg [0,1,2,3,4,5,6,7,8,9] ?_))
 refine sw 33 (.agg #[.bool false,.slice ac af aa]) rfl (rl 60 0 [.bool false,.slice ac af aa] L5) ?_
 refine se ?_
 have aP:=aK.trans aF
 replace ay:=ay.kp aP
 refine ec 34 (zk0 ay (by omega)) ?_
 rintro a1 aW ⟨rfl,az⟩
 refine ⟨_,rfl,?_⟩
 replace hB:=hB.trans az
 simp only [p3,p4]
 refine sv 35 (.bool true) ?_
 refine sv 36 (.bool true) ?_
 refine sv 37 (pT b5 0) ?_
 replace L5:=L5.gr az
 refine sw 38 (.bool false) rfl (rk 4 0 L5) ?_
 refine sv 39 (pT b3 0) ?_
 replace L3:=L3.gr az
 refine sw 40 (.bool false) rfl (rk 4 0 L3) ?_
 refine sv 41 (.bool false) ?_
 refine sv 42 (.bool false) (za0 (aZ _ _ ?_))
 refine wp_cond_false rfl ?_
 refine wp_skip ?_
 refine aU _ _ ?_
 refine wp_seq_k (fun bh aV=>?_)
 have ah:=Gr.drew aW
 replace hB:=hB.trans ah
 replace L4:=(au.lc L4 ae).gr (az.trans ah)
 replace L5:=L5.gr ah
 refine zd2 (fun _=>True) [([2],(fun w'=>Lc w' b4 #[ai,aj] 60)),([3],(fun w'=>Lc w' b5 #[.bool false,.slice ac af aa] 60))] [(true,0),(true,1),(false,2),(false,3),(true,4)] (by kernel_rfl) (by kernel_rfl) (by kernel_rfl) (by decide) (fun _ _ _ _ _ h=>h) trivial ⟨fun _=>L4,fun _=>L5,trivial⟩ ?_
 refine tw 49 (.agg #[ai,aj]) rfl (fun w' hS=>(rl 60 0 [ai,aj] (hS.2.1 (by kernel_rfl)))) ?_
 refine tw 50 (.agg #[.bool false,.slice ac af aa]) rfl (fun w' hS=>(rl 60 0 [.bool false,.slice ac af aa] (hS.2.2.1 (by kernel_rfl)))) ?_
 refine te ?_
 refine es 60 0 (.agg #[ai,aj]) [ai,aj] #[ai,aj] L4 hB q4 ⟨av.one0,av.one1,trivial⟩ fun a8 aQ aE L4 hB=>?_
 replace L5:=aQ.lc L5 (Ne.symm ae)
 refine ⟨trivial,⟨zf9 (by kernel_rfl),fun _=>L5,trivial⟩,?_⟩
 refine te ?_
 refine es 60 0 (.agg #[.bool false,.slice ac af aa]) [.bool false,.slice ac af aa] #[.bool false,.slice ac af aa] L5 hB q5 ⟨rfl,rfl,trivial⟩ fun ba aO aJ L5 hB=>?_
 refine ⟨trivial,⟨zf9 (by kernel_rfl),zf9 (by kernel_rfl),trivial⟩,?_⟩
 refine tv 6 (iT 0) ?_
 refine zg4 ?_
 refine aV _ _ ?_
 refine wp_ret ?_
 replace L4:=aO.lc L4 ae
 refine bodyPost_ret (v:=(.tuple #[.agg #[ai,aj],.agg #[.bool false,.slice ac af aa],iT 0])) (zk3 _ _ _ _ _ _ rfl rfl rfl L4 (by kernel_rfl) L5 (by kernel_rfl) rfl) rfl ⟨?_,hB⟩
 have aR:=aA.kp.trans (aK.trans (aF.trans (az.kp.trans (ah.kp.trans (aE.trans aJ)))))
 replace av:=av.kp aR
 have aN:=az.kp.trans (ah.kp.trans (aE.trans aJ))
 replace ay:=ay.kp aN
 exact ⟨_,_,_,_,rfl,av,ay⟩

theorem divmod_t {w:World} {K m:Nat} {a b:Int} {ao bo:Option Addr} {la lb ca cb:Nat} (ha:Mag w ao la ca a) (hb:Mag w bo lb cb b) (hu:IsInt w m (.bool false) (.slice bo lb cb) b) (_hla:la≤1000000) (_hlb:lb≤1000000) (_hb0:0<b) (hR:0<a % b) (_hL:a % b<b) (_hQ:0≤a/b) (hZ:Sz K (-(a/b))) (_hK:K+64+1≤1000000) (_hm:m+m+1≤1000000):
    Calls Tryz.prog 129 #[.agg #[.bool true,.slice ao la ca],.agg #[.bool false,.slice bo lb cb]] w fun e w'=>(∃ x' y' x3 y3,e=.returned (.tuple #[.agg #[x',y'],.agg #[x3,y3],iT 0])∧IsInt w' (K+64+1) x' y' (-(a/b) - 1)∧IsInt w' (m+m+1) x3 y3 (-(a % b)+b))∧Gr w w':=by
 go_enter Tryz.func129,Tryz.ntmps129
 have hB:=Gr.refl w
 refine wp_seq_k (fun K1 k1=>rg [0,1,2,3,4] ?_)
 refine se ?_
 refine eb 60 #[.bool true,.slice ao la ca] 2 hB fun b2 w2 g2 L2 o2 q2 hB=>?_
 simp only [p3,p4]
 refine se ?_
 refine eb 60 #[.bool false,.slice bo lb cb] 3 hB fun b3 w3 g3 L3 o3 q3 hB=>?_
 simp only [p3,p4]
 refine se ?_
 refine ea 60 #[.bool false,sN] 4 hB fun b4 w4 g4 L4 o4 q4 hB=>?_
 replace L2:=L2.gr g3
 have aR:=L2.ne o4
 have aw:=L3.ne o4
 simp only [p3,p4]
 refine se ?_
 refine ea 60 #[.bool false,sN] 5 hB fun b5 w5 g5 L5 o5 q5 hB=>?_
 replace L2:=L2.gr g4
 have aP:=L2.ne o5
 replace L3:=L3.gr g4
 have ax:=L3.ne o5
 have ad:=L4.ne o5
 simp only [p3,p4]
 refine sv 6 (iT 0) (za0 (k1 _ _ ?_))
 refine wp_seq_k (fun K6 k6=>wp_seq_k (fun K7 k7=>rg [0,1,2] ?_))
 replace L3:=L3.gr g5
 refine sw 9 (.agg #[.bool false,.slice bo lb cb]) rfl (rl 60 0 [.bool false,.slice bo lb cb] L3) ?_
 refine se ?_
 have bg:=g2.kp.trans (g3.kp.trans (g4.kp.trans g5.kp))
 replace hu:=hu.kp bg
 refine ec 10 (zk0 hu (by omega)) ?_
 rintro e8 w8 ⟨rfl,g8⟩
 refine ⟨_,rfl,?_⟩
 replace hB:=hB.trans g8
 simp only [p3,p4]
 refine sv 11 (.bool false) (za0 (k7 _ _ ?_))
 refine wp_cond_false rfl ?_
 refine wp_skip ?_
 refine k6 _ _ ?_
 refine wp_seq_k (fun bN bk=>rg [0,1,2,3,4,5,6,7,8,9] (sv 15 (pT b2 1) ?_))
 replace L2:=L2.gr (g5.trans g8)
 refine sw 16 (.slice ao la ca) rfl (rk 58 1 L2) ?_
 refine sv 17 (pT b3 1) ?_
 replace L3:=L3.gr g8
 refine sw 18 (.slice bo lb cb) rfl (rk 58 1 L3) ?_
 refine se ?_
 have aY:=g2.kp.trans (g3.kp.trans (g4.kp.trans (g5.kp.trans g8.kp)))
 replace ha:=ha.kp aY
 replace hb:=hb.kp aY
 refine ec 19 (zv4 ha hb (by omega) (by omega) (by omega)) ?_
 rintro bp bj ⟨⟨ap,ar,au,ac,aq,aa,rfl,aI,aA⟩,aM⟩
 refine ⟨_,rfl,?_⟩
 replace hB:=hB.trans aM
 simp only [p3,p4]
 refine sv 14 (.tuple #[.slice ap ar au,.slice ac aq aa]) ?_
 refine sv 20 (.slice ap ar au) ?_
 refine sv 21 (.slice ac aq aa) ?_
 refine sv 7 (.slice ap ar au) ?_
 refine sv 8 (.slice ac aq aa) (za0 (bk _ _ ?_))
 refine wp_seq_k (fun bm bi=>?_)
 have ae:=Gr.drew bj
 replace hB:=hB.trans ae
 replace L2:=L2.gr (aM.trans ae)
 replace L3:=L3.gr (aM.trans ae)
 refine za5 (fun w'=>Lc w' b2 #[.bool true,.slice ao la ca] 60∧Lc w' b3 #[.bool false,.slice bo lb cb] 60) [(true,0),(true,1),(true,2),(true,3),(true,4),(true,5),(true,7),(true,8),(true,9),(false,6),(false,10),(false,11),(false,12)] (by kernel_rfl) (by kernel_rfl) (by kernel_rfl) (by decide) (fun _ _ _ _ _ h=>h) ⟨L2,L3⟩ ?_
 refine ov 22 (pT b2 0) ?_
 refine ow 23 (.bool true) rfl (fun w' hS=>(rk 4 0 hS.1)) ?_
 refine ov 24 (pT b3 0) ?_
 refine ow 25 (.bool false) rfl (fun w' hS=>(rk 4 0 hS.2)) ?_
 refine ov 26 (.bool true) ?_
 refine ov 27 (.slice ap ar au) ?_
 refine ov 29 (pT b2 0) ?_
 refine ow 30 (.bool true) rfl (fun w' hS=>(rk 4 0 hS.1)) ?_
 refine ov 31 (.slice ac aq aa) ?_
 refine oe ?_
 replace aI:=aI.kp ae.kp
 refine ec 28 (zv5 (neg:=true) (Z:=(-(a/b))) aI (by omega) (fun _=>by simp;omega) hZ (by omega)) ?_
 rintro bK bv ⟨⟨aL,aO,rfl,aW⟩,az⟩
 refine ⟨_,rfl,?_⟩
 replace hB:=hB.trans az
 replace L2:=L2.gr az
 replace L3:=L3.gr az
 refine ⟨⟨L2,L3⟩,?_⟩
 simp only [p3,p4]
 refine oe ?_
 have a2:=ae.kp.trans az.kp
 replace aA:=aA.kp a2
 refine ec 32 (zY5 aA hR (Sz.of_le hu.sz (by omega)) (by omega)) ?_
 rintro bA bB ⟨⟨av,rfl,aN⟩,ay⟩
 refine ⟨_,rfl,?_⟩
 replace hB:=hB.trans ay
 replace L2:=L2.gr ay
 replace L3:=L3.gr ay
 refine ⟨⟨L2,L3⟩,?_⟩
 simp only [p3,p4]
 refine oe ?_
 replace L4:=L4.gr (g5.trans (g8.trans (aM.trans (ae.trans (az.trans ay)))))
 refine es 60 0 (.agg #[aL,aO]) [aL,aO] #[aL,aO] L4 hB q4 ⟨aW.one0,aW.one1,trivial⟩ fun bE aD aB L4 hB=>?_
 replace L2:=aD.lc L2 aR
 replace L3:=aD.lc L3 aw
 refine ⟨⟨L2,L3⟩,?_⟩
 refine oe ?_
 replace L5:=aD.lc (L5.gr (g8.trans (aM.trans (ae.trans (az.trans ay))))) (Ne.symm ad)
 refine es 60 0 (.agg #[.bool true,.slice ac av aa]) [.bool true,.slice ac av aa] #[.bool true,.slice ac av aa] L5 hB q5 ⟨rfl,rfl,trivial⟩ fun bH aH aF L5 hB=>?_
 replace L2:=aH.lc L2 aP
 replace L3:=aH.lc L3 ax
 refine ⟨⟨L2,L3⟩,?_⟩
 refine zb4 ?_
 refine bi _ _ ?_
 refine wp_seq_k (fun bM a9=>wp_seq_k (fun br bb=>rg [0,1,2,3,4,5,6,7,8,9] ?_))
 refine sw 33 (.agg #[.bool true,.slice ac av aa]) rfl (rl 60 0 [.bool true,.slice ac av aa] L5) ?_
 refine se ?_
 have a4:=aB.trans aF
 replace aN:=aN.kp a4
 refine ec 34 (sign_neg aN (by omega)) ?_
 rintro bG bf ⟨rfl,aG⟩
 refine ⟨_,rfl,?_⟩
 replace hB:=hB.trans aG
 simp only [p3,p4]
 refine sv 35 (.bool true) ?_
 refine sv 36 (.bool true) ?_
 refine sv 37 (pT b5 0) ?_
 replace L5:=L5.gr aG
 refine sw 38 (.bool true) rfl (rk 4 0 L5) ?_
 refine sv 39 (pT b3 0) ?_
 replace L3:=L3.gr aG
 refine sw 40 (.bool false) rfl (rk 4 0 L3) ?_
 refine sv 41 (.bool true) ?_
 refine sv 42 (.bool true) (za0 (bb _ _ ?_))
 refine wp_cond_true rfl ?_
 have af:=Gr.drew bf
 replace hB:=hB.trans af
 replace L3:=L3.gr af
 replace L4:=(aH.lc L4 ad).gr (aG.trans af)
 replace L5:=L5.gr af
 refine zd2 (fun w'=>Lc w' b3 #[.bool false,.slice bo lb cb] 60) [([6],(fun w'=>Lc w' b4 #[aL,aO] 60)),([7],(fun w'=>Lc w' b5 #[.bool true,.slice ac av aa] 60))] [(true,0),(true,3),(true,4),(false,1),(false,2),(false,5),(false,6),(false,7)] (by kernel_rfl) (by kernel_rfl) (by kernel_rfl) (by decide) (fun _ _ _ _ _ h=>h) L3 ⟨fun _=>L4,fun _=>L5,trivial⟩ ?_
 refine tw 43 (.agg #[aL,aO]) rfl (fun w' hS=>(rl 60 0 [aL,aO] (hS.2.1 (by kernel_rfl)))) ?_
 refine tw 46 (.agg #[.bool true,.slice ac av aa]) rfl (fun w' hS=>(rl 60 0 [.bool true,.slice ac av aa] (hS.2.2.1 (by kernel_rfl)))) ?_
 refine tw 47 (.agg #[.bool false,.slice bo lb cb]) rfl (fun w' hS=>(rl 60 0 [.bool false,.slice bo lb cb] hS.1)) ?_
 refine te ?_
 refine ec 44 (zY6 (1) (by omega) (by omega) _) ?_
 rintro bq bD ⟨⟨bs,bn,rfl,ba⟩,aJ⟩
 refine ⟨_,rfl,?_⟩
 replace hB:=hB.trans aJ
 replace L3:=L3.gr aJ
 replace L4:=L4.gr aJ
 replace L5:=L5.gr aJ
 refine ⟨L3,⟨fun _=>L4,fun _=>L5,trivial⟩,?_⟩
 simp only [p3,p4]
 refine te ?_
 have a1:=ay.kp.trans (aB.trans (aF.trans (aG.kp.trans (af.kp.trans aJ.kp))))
 replace aW:=aW.kp a1
 refine ec 45 (sub_i aW ba (by omega)) ?_
 rintro bJ bF ⟨⟨ak,ai,rfl,aC⟩,aK⟩
 refine ⟨_,rfl,?_⟩
 replace hB:=hB.trans aK
 replace L3:=L3.gr aK
 replace L4:=L4.gr aK
 replace L5:=L5.gr aK
 refine ⟨L3,⟨fun _=>L4,fun _=>L5,trivial⟩,?_⟩
 simp only [p3,p4]
 refine te ?_
 have a7:=aG.kp.trans (af.kp.trans (aJ.kp.trans aK.kp))
 replace aN:=aN.kp a7
 have a6:=g8.kp.trans (aM.kp.trans (ae.kp.trans (az.kp.trans (ay.kp.trans (aB.trans (aF.trans (aG.kp.trans (af.kp.trans (aJ.kp.trans aK.kp)))))))))
 replace hu:=hu.kp a6
 refine ec 48 (add_i aN hu (by omega)) ?_
 rintro bt bI ⟨⟨al,aj,rfl,aE⟩,aV⟩
 refine ⟨_,rfl,?_⟩
 replace hB:=hB.trans aV
 replace L3:=L3.gr aV
 replace L4:=L4.gr aV
 replace L5:=L5.gr aV
 refine ⟨L3,⟨fun _=>L4,fun _=>L5,trivial⟩,?_⟩
 simp only [p3,p4]
 refine te ?_
 refine es 60 0 (.agg #[ak,ai]) [ak,ai] #[ak,ai] L4 hB q4 ⟨aC.one0,aC.one1,trivial⟩ fun bu aT aU L4 hB=>?_
 replace L3:=aT.lc L3 aw
 replace L5:=aT.lc L5 (Ne.symm ad)
 refine ⟨L3,⟨zf9 (by kernel_rfl),fun _=>L5,trivial⟩,?_⟩
 refine te ?_
 refine es 60 0 (.agg #[al,aj]) [al,aj] #[al,aj] L5 hB q5 ⟨aE.one0,aE.one1,trivial⟩ fun bl aX aZ L5 hB=>?_
 replace L3:=aX.lc L3 ax
 refine ⟨L3,⟨zf9 (by kernel_rfl),zf9 (by kernel_rfl),trivial⟩,?_⟩
 refine zg4 ?_
 refine a9 _ _ ?_
 refine wp_seq_k (fun bL bh=>?_)
 have ah:=Gr.drew bl
 replace hB:=hB.trans ah
 replace L4:=(aX.lc L4 ad).gr ah
 replace L5:=L5.gr ah
 refine zd2 (fun _=>True) [([2],(fun w'=>Lc w' b4 #[ak,ai] 60)),([3],(fun w'=>Lc w' b5 #[al,aj] 60))] [(true,0),(true,1),(false,2),(false,3),(true,4)] (by kernel_rfl) (by kernel_rfl) (by kernel_rfl) (by decide) (fun _ _ _ _ _ h=>h) trivial ⟨fun _=>L4,fun _=>L5,trivial⟩ ?_
 refine tw 49 (.agg #[ak,ai]) rfl (fun w' hS=>(rl 60 0 [ak,ai] (hS.2.1 (by kernel_rfl)))) ?_
 refine tw 50 (.agg #[al,aj]) rfl (fun w' hS=>(rl 60 0 [al,aj] (hS.2.2.1 (by kernel_rfl)))) ?_
 refine te ?_
 refine es 60 0 (.agg #[ak,ai]) [ak,ai] #[ak,ai] L4 hB q4 ⟨aC.one0,aC.one1,trivial⟩ fun bw a8 aS L4 hB=>?_
 replace L5:=a8.lc L5 (Ne.symm ad)
 refine ⟨trivial,⟨zf9 (by kernel_rfl),fun _=>L5,trivial⟩,?_⟩
 refine te ?_
 refine es 60 0 (.agg #[al,aj]) [al,aj] #[al,aj] L5 hB q5 ⟨aE.one0,aE.one1,trivial⟩ fun bC a3 aQ L5 hB=>?_
 refine ⟨trivial,⟨zf9 (by kernel_rfl),zf9 (by kernel_rfl),trivial⟩,?_⟩
 refine tv 6 (iT 0) ?_
 refine zg4 ?_
 refine bh _ _ ?_
 refine wp_ret ?_
 replace L4:=a3.lc L4 ad
 refine bodyPost_ret (v:=(.tuple #[.agg #[ak,ai],.agg #[al,aj],iT 0])) (zk3 _ _ _ _ _ _ rfl rfl rfl L4 (by kernel_rfl) L5 (by kernel_rfl) rfl) rfl ⟨?_,hB⟩
 have a5:=aV.kp.trans (aU.trans (aZ.trans (ah.kp.trans (aS.trans aQ))))
 replace aC:=aC.kp a5
 have a0:=aU.trans (aZ.trans (ah.kp.trans (aS.trans aQ)))
 replace aE:=aE.kp a0
 exact ⟨_,_,_,_,rfl,aC,aE⟩

theorem zC5 (w:World):
    Calls Tryz.prog 86 #[] w fun e w'=>(∃ x' y',e=.returned (.agg #[x',y'])∧IsInt w' 64 x' y' (1))∧Gr w w':=by
 go_enter Tryz.func86,Tryz.ntmps86
 have hB:=Gr.refl w
 refine wp_seq_k (fun K1 k1=>rg [0] ?_)
 refine se ?_
 refine ea 60 #[.bool false,sN] 0 hB fun b2 w2 g2 L2 o2 q2 hB=>?_
 simp only [p3]
 refine za0 (k1 _ _ ?_)
 refine wp_seq_k (fun K3 k3=>rg [0,1] ?_)
 refine se ?_
 refine ec 1 (zY6 (1) (by omega) (by omega) _) ?_
 rintro e4 w4 ⟨⟨x4,y4,rfl,h4⟩,g4⟩
 refine ⟨_,rfl,?_⟩
 replace hB:=hB.trans g4
 simp only [p3,p4]
 refine se ?_
 replace L2:=L2.gr g4
 refine es 60 0 (.agg #[x4,y4]) [x4,y4] #[x4,y4] L2 hB q2 ⟨h4.one0,h4.one1,trivial⟩ fun w5 ac aa L2 hB=>?_
 refine za0 (k3 _ _ ?_)
 refine wp_ret ?_
 refine bodyPost_ret (v:=(.agg #[x4,y4])) (zc8 _ _ _ rfl rfl L2 (by kernel_rfl)) rfl ⟨?_,hB⟩
 replace h4:=h4.kp aa
 exact ⟨_,_,rfl,h4⟩

end Go.Proofs.YtjhflekncldflaaGreatDoor
namespace Go.Proofs.YtjhflekncldflaaGreatDoor
open Go.RowKit

theorem zP1 {k m:Nat} {x y x2 y2:Value} {z u:Int} {w:World} (hz:IsInt w k x y z) (hu:IsInt w m x2 y2 u) (aa:0<u) (hkm:k+k+m+m+66≤1000000):
  Calls Tryz.prog 129 #[.agg #[x,y],.agg #[x2,y2]] w fun e w'=>(∃ x' y' x3 y3,e=.returned (.tuple #[.agg #[x',y'],.agg #[x3,y3],.int .i64 0])∧IsInt w' k x' y' (z/u)∧IsInt w' m x3 y3 (z % u))∧Gr w w':=by
 have hu':=hu
 obtain ⟨ao,la,ca,rfl,rfl,ha,hs⟩:=hz
 obtain ⟨bo,lb,cb,rfl,rfl,hb,ht⟩:=hu
 have hla:=ha.nl.len_sz hs.nat
 have hlb:=hb.nl.len_sz ht.nat
 have e0:((u.natAbs:Nat):Int)=u:=by omega
 have e1:decide (u<0)=false:=by simp;omega
 rw [e1] at hu' ⊢
 rw [e0] at hb
 have hM:=Int.emod_nonneg (z.natAbs:Int) (b:=u) (by omega)
 have hL:=Int.emod_lt_of_pos (z.natAbs:Int) aa
 have hQ:0≤(z.natAbs:Int)/u:=Int.ediv_nonneg (by omega) (by omega)
 have hD:=Int.mul_ediv_add_emod (z.natAbs:Int) u
 have hqle:(z.natAbs:Int)/u≤(z.natAbs:Int):=Int.ediv_le_self _ (by omega)
 have hkk:Sz k (z/u):=by
  refine hs.of_le ?_
  rcases Int.lt_or_le z 0 with h | h
  ·have h1:z≤z/u:=by
    rw [Int.le_ediv_iff_mul_le aa]
    have:z*u≤z*1:=Int.mul_le_mul_of_nonpos_left (by omega) (by omega)
    omega
   have h2:z/u<0:=Int.ediv_neg_of_neg_of_pos h aa
   omega
  have h1:z/u≤z:=Int.ediv_le_self _ h
  have h2:0≤z/u:=Int.ediv_nonneg h (by omega)
  omega
 have hmm:Sz m (z % u):=by
  refine ht.of_le ?_
  have:=Int.emod_nonneg z (b:=u) (by omega)
  have:=Int.emod_lt_of_pos z aa
  omega
 -- z in terms of its magnitude
 have key:∀ q r:Int,z=u*q+r→0≤r→r<u→z/u=q∧z % u=r:=fun q r h h0 h1=>by
  rw [Int.ediv_emod_unique aa]
  exact ⟨by omega,h0,h1⟩
 by_cases h0:(z.natAbs:Int) % u=0
 ·have hk:=key (if z<0 then -((z.natAbs:Int)/u) else (z.natAbs:Int)/u) 0 (by
   split
   ·rw [Int.mul_neg];omega
   omega) (by omega) aa
  refine (divmod_0 (Z:=z/u) (K:=k) ha hb hu' (by omega) (by omega) aa h0 ?_ (fun hp=>?_) hkk (by omega) (by omega)).mono ?_
  ·rw [hk.1];split<;>omega
  ·rw [hk.1]
   by_cases hz0:z<0
   ·simp [hz0];omega
   simp [hz0];omega
  rintro e w1 ⟨⟨x',y',x3,y3,he,h1,h2⟩,g⟩
  exact ⟨⟨x',y',x3,y3,he,h1,by rw [hk.2];exact h2⟩,g⟩
 by_cases hz0:z<0
 ·have e2:decide (z<0)=true:=by simpa using hz0
  rw [e2]
  have hk:=key (-((z.natAbs:Int)/u) - 1) (-((z.natAbs:Int) % u)+u) (by
   rw [Int.mul_sub,Int.mul_neg];omega) (by omega) (by omega)
  refine (divmod_t (K:=k) ha hb hu' (by omega) (by omega) aa (by omega) hL hQ (hs.of_le (by omega)) (by omega) (by omega)).mono ?_
  rintro e w1 ⟨⟨x',y',x3,y3,he,h1,h2⟩,g⟩
  rw [← hk.1] at h1
  rw [← hk.2] at h2
  exact ⟨⟨x',y',x3,y3,he,h1.resz hkk,h2.resz hmm⟩,g⟩
 have e2:decide (z<0)=false:=by simpa using hz0
 rw [e2]
 have ez:(z.natAbs:Int)=z:=by omega
 refine (divmod_f (K:=k) ha hb hu' (by omega) (by omega) aa (by omega) hL hQ (by rw [ez];exact hkk) (by omega) (by omega)).mono ?_
 rintro e w1 ⟨⟨x',y',x3,y3,he,h1,h2⟩,g⟩
 rw [ez] at h1 h2
 exact ⟨⟨x',y',x3,y3,he,h1,h2⟩,g⟩

theorem zf8 {k m:Nat} {x y x2 y2:Value} {z u:Int} {w:World} (hz:IsInt w k x y z) (hu:IsInt w m x2 y2 u) (hk:k≤1000000) (hm:m≤1000000):
  Calls Tryz.prog 85 #[.agg #[x,y],.agg #[x2,y2]] w fun e w'=>e=.returned (.int .i64 (sgn (z - u)))∧Gr w w':=by
 obtain ⟨ao,la,ca,rfl,rfl,ha,hs⟩:=hz
 obtain ⟨bo,lb,cb,rfl,rfl,hb,ht⟩:=hu
 have hla:=ha.nl.len_sz hs.nat
 have hlb:=hb.nl.len_sz ht.nat
 by_cases h1:z<0<;>by_cases h2:u<0
 ·have d1:decide (z<0)=true:=by simpa using h1
  have d2:decide (u<0)=true:=by simpa using h2
  rw [d1,d2]
  have e:z - u=(u.natAbs:Int) - (z.natAbs:Int):=by omega
  rw [e];exact cmp_tt ha hb (by omega) (by omega)
 ·have d1:decide (z<0)=true:=by simpa using h1
  have d2:decide (u<0)=false:=by simpa using h2
  rw [d1,d2,zp2 (by omega)];exact cmp_tf ha hb (by omega) (by omega)
 ·have d1:decide (z<0)=false:=by simpa using h1
  have d2:decide (u<0)=true:=by simpa using h2
  rw [d1,d2,zx3 (by omega)];exact cmp_ft ha hb (by omega) (by omega)
 have d1:decide (z<0)=false:=by simpa using h1
 have d2:decide (u<0)=false:=by simpa using h2
 rw [d1,d2]
 have e:z - u=(z.natAbs:Int) - (u.natAbs:Int):=by omega
 rw [e];exact cmp_ff ha hb (by omega) (by omega)

structure IsRat (w:World) (k:Nat) (c0 c1 c2 c3:Value) (q:Rat):Prop where
 num:IsInt w k c0 c1 q.num
 den:∃ D,IsInt w k c2 c3 D∧(D=(q.den:Int)∨D=0∧q.den=1)
 big:64≤k
theorem IsRat.kp {w w':World} {k:Nat} {c0 c1 c2 c3:Value} {q:Rat} (h:IsRat w k c0 c1 c2 c3 q) (hb:Kp w w'):IsRat w' k c0 c1 c2 c3 q:=by
 obtain ⟨h1,⟨D,h2,h3⟩,h4⟩:=h
 exact ⟨h1.kp hb,⟨D,h2.kp hb,h3⟩,h4⟩
theorem IsRat.gr {w w':World} {k:Nat} {c0 c1 c2 c3:Value} {q:Rat} (h:IsRat w k c0 c1 c2 c3 q) (hb:Gr w w'):IsRat w' k c0 c1 c2 c3 q:=h.kp hb.kp
theorem IsRat.one0 {w:World} {k:Nat} {c0 c1 c2 c3:Value} {q:Rat} (h:IsRat w k c0 c1 c2 c3 q):c0.oneCell'=true:=h.num.one0
theorem IsRat.one1 {w:World} {k:Nat} {c0 c1 c2 c3:Value} {q:Rat} (h:IsRat w k c0 c1 c2 c3 q):c1.oneCell'=true:=h.num.one1
theorem IsRat.one2 {w:World} {k:Nat} {c0 c1 c2 c3:Value} {q:Rat} (h:IsRat w k c0 c1 c2 c3 q):c2.oneCell'=true:=by
 obtain ⟨D,h2,_⟩:=h.den;exact h2.one0
theorem IsRat.one3 {w:World} {k:Nat} {c0 c1 c2 c3:Value} {q:Rat} (h:IsRat w k c0 c1 c2 c3 q):c3.oneCell'=true:=by
 obtain ⟨D,h2,_⟩:=h.den;exact h2.one1
theorem IsRat.mono {w:World} {k m:Nat} {c0 c1 c2 c3:Value} {q:Rat} (h:IsRat w k c0 c1 c2 c3 q) (hk:k≤m):IsRat w m c0 c1 c2 c3 q:=by
 obtain ⟨h1,⟨D,h2,h3⟩,h4⟩:=h
 exact ⟨h1.mono hk,⟨D,h2.mono hk,h3⟩,Nat.le_trans h4 hk⟩
theorem IsRat.zero (w:World) {k:Nat} (hk:64≤k):IsRat w k (.bool false) (.slice none 0 0) (.bool false) (.slice none 0 0) 0:=
 ⟨IsInt.zero w k,⟨0,IsInt.zero w k,.inr ⟨rfl,rfl⟩⟩,hk⟩
theorem IsRat.int {w:World} {k:Nat} {c0 c1:Value} {z:Int} (h:IsInt w k c0 c1 z) (hk:64≤k):IsRat w k c0 c1 (.bool false) (.slice none 0 0) (z:Rat):=
 ⟨h,⟨0,IsInt.zero w k,.inr ⟨rfl,rfl⟩⟩,hk⟩
end Go.Proofs.YtjhflekncldflaaGreatDoor
namespace Go.Proofs.YtjhflekncldflaaGreatDoor
set_option maxRecDepth 100000
set_option maxHeartbeats 1000000
open Go.RowKit

theorem whole_z {k:Nat} {c0 c1 c2 c3:Value} {w:World} (hd:IsInt w k c2 c3 0):
    Calls Tryz.prog 61 #[.agg #[c0,c1,c2,c3]] w fun e w'=>e=.returned (.bool true)∧Gr w w':=by
 go_enter Tryz.func61,Tryz.ntmps61
 have hB:=Gr.refl w
 refine wp_seq_k (fun K1 k1=>rg [0,1] ?_)
 refine se ?_
 refine eb 62 #[c0,c1,c2,c3] 1 hB fun b2 w2 g2 L2 o2 q2 hB=>?_
 simp only [p3,p4]
 refine sv 2 (.bool false) (za0 (k1 _ _ ?_))
 refine wp_seq_k (fun K3 k3=>?_)
 have ac:=Gr.drew w2
 replace hB:=hB.trans ac
 replace L2:=L2.gr ac
 refine za5 (fun w'=>Lc w' b2 #[c0,c1,c2,c3] 62) [(true,0),(true,1),(false,2),(true,3),(true,4),(true,5),(true,6),(false,7),(false,8),(true,9),(true,10),(true,11)] (by kernel_rfl) (by kernel_rfl) (by kernel_rfl) (by decide) (fun _ _ _ _ _ h=>h) L2 ?_
 refine ov 3 (pT b2 2) ?_
 refine ow 4 (.agg #[c2,c3]) rfl (fun w' hS=>(rl 60 2 [c2,c3] hS)) ?_
 refine oe ?_
 have aa:=g2.kp.trans ac.kp
 replace hd:=hd.kp aa
 refine ec 5 (zx4 hd) ?_
 rintro ae af ⟨rfl,ad⟩
 refine ⟨_,rfl,?_⟩
 replace hB:=hB.trans ad
 replace L2:=L2.gr ad
 refine ⟨L2,?_⟩
 simp only [p3,p4]
 refine ov 6 (.bool true) ?_
 refine ov 7 (.bool true) ?_
 refine os 8 ?_
 refine os 9 ?_
 refine oz 10 L2 ?_
 refine oz 11 L2 ?_
 refine os 12 ?_
 refine ov 13 (.bool true) ?_
 refine ov 2 (.bool true) ?_
 refine zb4 ?_
 refine k3 _ _ ?_
 refine wp_ret ?_
 refine bodyPost_ret (v:=(.bool true)) (za3 rfl rfl) rfl ⟨?_,hB⟩
 exact rfl

theorem whole_p {k:Nat} {c0 c1 c2 c3:Value} {D:Int} {w:World} (hd:IsInt w k c2 c3 D) (_h0:0<D) (_hk:k≤1000000):
    Calls Tryz.prog 61 #[.agg #[c0,c1,c2,c3]] w fun e w'=>e=.returned (.bool (sgn (D - 1)==0))∧Gr w w':=by
 go_enter Tryz.func61,Tryz.ntmps61
 have hB:=Gr.refl w
 refine wp_seq_k (fun K1 k1=>rg [0,1] ?_)
 refine se ?_
 refine eb 62 #[c0,c1,c2,c3] 1 hB fun b2 w2 g2 L2 o2 q2 hB=>?_
 simp only [p3,p4]
 refine sv 2 (.bool false) (za0 (k1 _ _ ?_))
 refine wp_seq_k (fun K3 k3=>?_)
 have aa:=Gr.drew w2
 replace hB:=hB.trans aa
 replace L2:=L2.gr aa
 refine za5 (fun w'=>Lc w' b2 #[c0,c1,c2,c3] 62) [(true,0),(true,1),(false,2),(true,3),(true,4),(true,5),(true,6),(false,7),(false,8),(true,9),(true,10),(true,11)] (by kernel_rfl) (by kernel_rfl) (by kernel_rfl) (by decide) (fun _ _ _ _ _ h=>h) L2 ?_
 refine ov 3 (pT b2 2) ?_
 refine ow 4 (.agg #[c2,c3]) rfl (fun w' hS=>(rl 60 2 [c2,c3] hS)) ?_
 refine oe ?_
 have af:=g2.kp.trans aa.kp
 replace hd:=hd.kp af
 refine ec 5 (zk0 hd (by omega)) ?_
 rintro ar aq ⟨rfl,ae⟩
 refine ⟨_,rfl,?_⟩
 replace hB:=hB.trans ae
 replace L2:=L2.gr ae
 refine ⟨L2,?_⟩
 simp only [p3,p4]
 refine ov 6 (.bool false) ?_
 refine ov 7 (.bool false) ?_
 refine ov 8 (pT b2 2) ?_
 refine ow 9 (.agg #[c2,c3]) rfl (fun w' hS=>(rl 60 2 [c2,c3] hS)) ?_
 refine oe ?_
 refine ec 10 (zC5 _) ?_
 rintro al av ⟨⟨ap,ak,rfl,ai⟩,ac⟩
 refine ⟨_,rfl,?_⟩
 replace hB:=hB.trans ac
 replace L2:=L2.gr ac
 refine ⟨L2,?_⟩
 simp only [p3,p4]
 refine oe ?_
 have ad:=ae.kp.trans ac.kp
 replace hd:=hd.kp ad
 refine ec 11 (zf8 hd ai (by omega) (by omega)) ?_
 rintro au aj ⟨rfl,ah⟩
 refine ⟨_,rfl,?_⟩
 replace hB:=hB.trans ah
 replace L2:=L2.gr ah
 refine ⟨L2,?_⟩
 simp only [p3,p4]
 refine ov 12 (.bool (sgn (D - 1)==(0:Int))) ?_
 refine ov 13 (.bool (sgn (D - 1)==(0:Int))) ?_
 refine ov 2 (.bool (sgn (D - 1)==(0:Int))) ?_
 refine zb4 ?_
 refine k3 _ _ ?_
 refine wp_ret ?_
 refine bodyPost_ret (v:=(.bool (sgn (D - 1)==(0:Int)))) (za3 rfl rfl) rfl ⟨?_,hB⟩
 exact rfl

theorem den_z {k:Nat} {c0 c1 c2 c3:Value} {w:World} (hd:IsInt w k c2 c3 0):
    Calls Tryz.prog 94 #[.agg #[c0,c1,c2,c3]] w fun e w'=>(∃ x' y',e=.returned (.agg #[x',y'])∧IsInt w' 64 x' y' (1))∧Gr w w':=by
 go_enter Tryz.func94,Tryz.ntmps94
 have hB:=Gr.refl w
 refine wp_seq_k (fun K1 k1=>rg [0,1] ?_)
 refine se ?_
 refine eb 62 #[c0,c1,c2,c3] 1 hB fun b2 w2 g2 L2 o2 q2 hB=>?_
 simp only [p3,p4]
 refine se ?_
 refine ea 60 #[.bool false,sN] 2 hB fun b3 w3 g3 L3 o3 q3 hB=>?_
 simp only [p3,p4]
 refine za0 (k1 _ _ ?_)
 refine wp_seq_k (fun K4 k4=>wp_seq_k (fun K5 k5=>rg [0,1,2,3] (sv 3 (pT b2 2) ?_)))
 replace L2:=L2.gr g3
 refine sw 4 (.agg #[c2,c3]) rfl (rl 60 2 [c2,c3] L2) ?_
 refine se ?_
 have ad:=g2.kp.trans g3.kp
 replace hd:=hd.kp ad
 refine ec 5 (zx4 hd) ?_
 rintro e6 w6 ⟨rfl,g6⟩
 refine ⟨_,rfl,?_⟩
 replace hB:=hB.trans g6
 simp only [p3,p4]
 refine sv 6 (.bool true) (za0 (k5 _ _ ?_))
 refine wp_cond_true rfl ?_
 refine wp_seq_k (fun K8 k8=>rg [0,1] ?_)
 refine se ?_
 refine ec 7 (zC5 _) ?_
 rintro e9 w9 ⟨⟨x9,y9,rfl,h9⟩,g9⟩
 refine ⟨_,rfl,?_⟩
 replace hB:=hB.trans g9
 simp only [p3,p4]
 refine se ?_
 replace L3:=L3.gr (g6.trans g9)
 refine es 60 0 (.agg #[x9,y9]) [x9,y9] #[x9,y9] L3 hB q3 ⟨h9.one0,h9.one1,trivial⟩ fun ae ac aa L3 hB=>?_
 refine za0 (k8 _ _ ?_)
 refine wp_ret ?_
 simp only [Exit.then]
 refine bodyPost_ret (v:=(.agg #[x9,y9])) (zc8 _ _ _ rfl rfl L3 (by kernel_rfl)) rfl ⟨?_,hB⟩
 replace h9:=h9.kp aa
 exact ⟨_,_,rfl,h9⟩

theorem den_p {k:Nat} {c0 c1 c2 c3:Value} {D:Int} {w:World} (hd:IsInt w k c2 c3 D) (_h0:0<D):
    Calls Tryz.prog 94 #[.agg #[c0,c1,c2,c3]] w fun e w'=>(∃ x' y',e=.returned (.agg #[x',y'])∧IsInt w' k x' y' (D))∧Gr w w':=by
 go_enter Tryz.func94,Tryz.ntmps94
 have hB:=Gr.refl w
 refine wp_seq_k (fun K1 k1=>rg [0,1] ?_)
 refine se ?_
 refine eb 62 #[c0,c1,c2,c3] 1 hB fun b2 w2 g2 L2 o2 q2 hB=>?_
 simp only [p3,p4]
 refine se ?_
 refine ea 60 #[.bool false,sN] 2 hB fun b3 w3 g3 L3 o3 q3 hB=>?_
 simp only [p3,p4]
 refine za0 (k1 _ _ ?_)
 refine wp_seq_k (fun K4 k4=>wp_seq_k (fun K5 k5=>rg [0,1,2,3] (sv 3 (pT b2 2) ?_)))
 replace L2:=L2.gr g3
 refine sw 4 (.agg #[c2,c3]) rfl (rl 60 2 [c2,c3] L2) ?_
 refine se ?_
 have ad:=g2.kp.trans g3.kp
 replace hd:=hd.kp ad
 refine ec 5 (zk0 hd (by omega)) ?_
 rintro e6 w6 ⟨rfl,g6⟩
 refine ⟨_,rfl,?_⟩
 replace hB:=hB.trans g6
 simp only [p3,p4]
 refine sv 6 (.bool false) (za0 (k5 _ _ ?_))
 refine wp_cond_false rfl ?_
 refine wp_skip ?_
 refine k4 _ _ ?_
 refine wp_seq_k (fun K8 k8=>rg [0,1,2] (sv 8 (pT b2 2) ?_))
 replace L2:=L2.gr g6
 refine sw 9 (.agg #[c2,c3]) rfl (rl 60 2 [c2,c3] L2) ?_
 refine se ?_
 replace L3:=L3.gr g6
 refine es 60 0 (.agg #[c2,c3]) [c2,c3] #[c2,c3] L3 hB q3 ⟨hd.one0,hd.one1,trivial⟩ fun w9 ae ac L3 hB=>?_
 refine za0 (k8 _ _ ?_)
 refine wp_ret ?_
 refine bodyPost_ret (v:=(.agg #[c2,c3])) (zc8 _ _ _ rfl rfl L3 (by kernel_rfl)) rfl ⟨?_,hB⟩
 have aa:=g6.kp.trans ac
 replace hd:=hd.kp aa
 exact ⟨_,_,rfl,hd⟩

theorem zS5 {k:Nat} {n0 n1 d0 d1:Value} {N D:Int} {w:World} (hn:IsInt w k n0 n1 N) (hd:IsInt w k d0 d1 D) (_hk:k+k+k+k+k+k+66≤1000000) (_h0:0<D) (hg:(sgn ((Int.gcd (N) (D):Int) - 1) !=0)=false):
    Calls Tryz.prog 103 #[.agg #[n0,n1],.agg #[d0,d1]] w fun e w'=>(∃ x y x2 y2,e=.returned (.agg #[x,y,x2,y2])∧IsInt w' k x y (N)∧IsInt w' k x2 y2 (D))∧Gr w w':=by
 go_enter Tryz.func103,Tryz.ntmps103
 have hB:=Gr.refl w
 refine wp_seq_k (fun K1 k1=>rg [0,1,2] ?_)
 refine se ?_
 refine eb 60 #[n0,n1] 2 hB fun b2 w2 g2 L2 o2 q2 hB=>?_
 simp only [p3,p4]
 refine se ?_
 refine eb 60 #[d0,d1] 3 hB fun b3 w3 g3 L3 o3 q3 hB=>?_
 simp only [p3,p4]
 refine se ?_
 refine ea 62 #[.bool false,sN,.bool false,sN] 4 hB fun b4 w4 g4 L4 o4 q4 hB=>?_
 replace L2:=L2.gr g3
 simp only [p3,p4]
 refine za0 (k1 _ _ ?_)
 refine wp_seq_k (fun K5 k5=>wp_seq_k (fun K6 k6=>rg [0,1,2] ?_))
 replace L3:=L3.gr g4
 refine sw 6 (.agg #[d0,d1]) rfl (rl 60 0 [d0,d1] L3) ?_
 refine se ?_
 have aA:=g2.kp.trans (g3.kp.trans g4.kp)
 replace hd:=hd.kp aA
 refine ec 7 (zk0 hd (by omega)) ?_
 rintro e7 w7 ⟨rfl,g7⟩
 refine ⟨_,rfl,?_⟩
 replace hB:=hB.trans g7
 simp only [p3,p4]
 refine sv 8 (.bool false) (za0 (k6 _ _ ?_))
 refine wp_cond_false rfl ?_
 refine wp_skip ?_
 refine k5 _ _ ?_
 refine wp_seq_k (fun K9 k9=>rg [0,1,2,3,4] ?_)
 replace L2:=L2.gr (g4.trans g7)
 refine sw 13 (.agg #[n0,n1]) rfl (rl 60 0 [n0,n1] L2) ?_
 replace L3:=L3.gr g7
 refine sw 14 (.agg #[d0,d1]) rfl (rl 60 0 [d0,d1] L3) ?_
 refine se ?_
 have ay:=g2.kp.trans (g3.kp.trans (g4.kp.trans g7.kp))
 replace hn:=hn.kp ay
 replace hd:=hd.kp g7.kp
 refine ec 15 (gcd_i hn hd (by omega)) ?_
 rintro aK aN ⟨⟨al,aj,rfl,aq⟩,av⟩
 refine ⟨_,rfl,?_⟩
 replace hB:=hB.trans av
 simp only [p3,p4]
 refine se ?_
 refine ea 60 #[.bool false,sN] 5 hB fun aC aJ ap ac ax aF hB=>?_
 replace L2:=L2.gr av
 have ai:=L2.ne ax
 replace L3:=L3.gr av
 have af:=L3.ne ax
 replace L4:=L4.gr (g7.trans av)
 have ae:=L4.ne ax
 simp only [p3,p4]
 refine se ?_
 refine es 60 0 (.agg #[al,aj]) [al,aj] #[al,aj] ac hB aF ⟨aq.one0,aq.one1,trivial⟩ fun aH ah au ac hB=>?_
 refine za0 (k9 _ _ ?_)
 refine wp_seq_k (fun aL aG=>wp_seq_k (fun aT aB=>?_))
 have aa:=Gr.drew aH
 replace hB:=hB.trans aa
 replace ac:=ac.gr aa
 refine za5 (fun w'=>Lc w' aC #[al,aj] 60) [(true,0),(false,1),(false,2),(true,3)] (by kernel_rfl) (by kernel_rfl) (by kernel_rfl) (by decide) (fun _ _ _ _ _ h=>h) ac ?_
 refine ow 16 (.agg #[al,aj]) rfl (fun w' hS=>(rl 60 0 [al,aj] hS)) ?_
 refine oe ?_
 refine ec 17 (zC5 _) ?_
 rintro aS aR ⟨⟨aO,aV,rfl,aI⟩,ad⟩
 refine ⟨_,rfl,?_⟩
 replace hB:=hB.trans ad
 replace ac:=ac.gr ad
 refine ⟨ac,?_⟩
 simp only [p3,p4]
 refine oe ?_
 have az:=ap.kp.trans (au.trans (aa.kp.trans ad.kp))
 replace aq:=aq.kp az
 refine ec 18 (zf8 aq aI (by omega) (by omega)) ?_
 rintro aQ aU ⟨rfl,ak⟩
 refine ⟨_,rfl,?_⟩
 replace hB:=hB.trans ak
 replace ac:=ac.gr ak
 refine ⟨ac,?_⟩
 simp only [p3,p4]
 refine ow 19 (.bool false) rfl (fun w' hS=>(RunV.bool (x:=(sgn ((Int.gcd (N) (D):Int) - 1) !=(0:Int))) (rvk (by kernel_rfl)) hg)) ?_
 refine zb4 ?_
 refine aB _ _ ?_
 refine wp_cond_false rfl ?_
 refine wp_skip ?_
 refine aG _ _ ?_
 refine wp_seq_k (fun aM aD=>rg [0,1,2,3] ?_)
 replace L2:=(ah.lc (L2.gr ap) ai).gr (aa.trans (ad.trans ak))
 refine sw 34 (.agg #[n0,n1]) rfl (rl 60 0 [n0,n1] L2) ?_
 replace L3:=(ah.lc (L3.gr ap) af).gr (aa.trans (ad.trans ak))
 refine sw 35 (.agg #[d0,d1]) rfl (rl 60 0 [d0,d1] L3) ?_
 refine sv 36 (.agg #[n0,n1,d0,d1]) ?_
 refine se ?_
 replace L4:=(ah.lc (L4.gr ap) ae).gr (aa.trans (ad.trans ak))
 refine es 62 0 (.agg #[n0,n1,d0,d1]) [n0,n1,d0,d1] #[n0,n1,d0,d1] L4 hB q4 ⟨hn.one0,hn.one1,hd.one0,hd.one1,trivial⟩ fun aP aE aw L4 hB=>?_
 refine za0 (aD _ _ ?_)
 refine wp_ret ?_
 refine bodyPost_ret (v:=(.agg #[n0,n1,d0,d1])) (zc8 _ _ _ rfl rfl L4 (by kernel_rfl)) rfl ⟨?_,hB⟩
 have ar:=av.kp.trans (ap.kp.trans (au.trans (aa.kp.trans (ad.kp.trans (ak.kp.trans aw)))))
 replace hn:=hn.kp ar
 replace hd:=hd.kp ar
 exact ⟨_,_,_,_,rfl,hn,hd⟩

theorem zS6 {k:Nat} {n0 n1 d0 d1:Value} {N D:Int} {w:World} (hn:IsInt w k n0 n1 N) (hd:IsInt w k d0 d1 D) (_hk:k+k+k+k+k+k+66≤1000000) (_h0:0<D) (hg:(sgn ((Int.gcd (N) (D):Int) - 1) !=0)=true) (hxn:0<(Int.gcd (N) (D):Int)∧(Int.gcd (N) (D):Int)∣N) (_hxd:0<(Int.gcd (N) (D):Int)∧(Int.gcd (N) (D):Int)∣D):
    Calls Tryz.prog 103 #[.agg #[n0,n1],.agg #[d0,d1]] w fun e w'=>(∃ x y x2 y2,e=.returned (.agg #[x,y,x2,y2])∧IsInt w' k x y (N/(Int.gcd (N) (D):Int))∧IsInt w' k x2 y2 (D/(Int.gcd (N) (D):Int)))∧Gr w w':=by
 go_enter Tryz.func103,Tryz.ntmps103
 have hB:=Gr.refl w
 refine wp_seq_k (fun K1 k1=>rg [0,1,2] ?_)
 refine se ?_
 refine eb 60 #[n0,n1] 2 hB fun b2 w2 g2 L2 o2 q2 hB=>?_
 simp only [p3,p4]
 refine se ?_
 refine eb 60 #[d0,d1] 3 hB fun b3 w3 g3 L3 o3 q3 hB=>?_
 have aq:=L2.ne o3
 simp only [p3,p4]
 refine se ?_
 refine ea 62 #[.bool false,sN,.bool false,sN] 4 hB fun b4 w4 g4 L4 o4 q4 hB=>?_
 replace L2:=L2.gr g3
 have aM:=L2.ne o4
 have aF:=L3.ne o4
 simp only [p3,p4]
 refine za0 (k1 _ _ ?_)
 refine wp_seq_k (fun K5 k5=>wp_seq_k (fun K6 k6=>rg [0,1,2] ?_))
 replace L3:=L3.gr g4
 refine sw 6 (.agg #[d0,d1]) rfl (rl 60 0 [d0,d1] L3) ?_
 refine se ?_
 have aX:=g2.kp.trans (g3.kp.trans g4.kp)
 replace hd:=hd.kp aX
 refine ec 7 (zk0 hd (by omega)) ?_
 rintro e7 w7 ⟨rfl,g7⟩
 refine ⟨_,rfl,?_⟩
 replace hB:=hB.trans g7
 simp only [p3,p4]
 refine sv 8 (.bool false) (za0 (k6 _ _ ?_))
 refine wp_cond_false rfl ?_
 refine wp_skip ?_
 refine k5 _ _ ?_
 refine wp_seq_k (fun K9 k9=>rg [0,1,2,3,4] ?_)
 replace L2:=L2.gr (g4.trans g7)
 refine sw 13 (.agg #[n0,n1]) rfl (rl 60 0 [n0,n1] L2) ?_
 replace L3:=L3.gr g7
 refine sw 14 (.agg #[d0,d1]) rfl (rl 60 0 [d0,d1] L3) ?_
 refine se ?_
 have aV:=g2.kp.trans (g3.kp.trans (g4.kp.trans g7.kp))
 replace hn:=hn.kp aV
 replace hd:=hd.kp g7.kp
 refine ec 15 (gcd_i hn hd (by omega)) ?_
 rintro ba bj ⟨⟨al,ak,rfl,ai⟩,aE⟩
 refine ⟨_,rfl,?_⟩
 replace hB:=hB.trans aE
 simp only [p3,p4]
 refine se ?_
 refine ea 60 #[.bool false,sN] 5 hB fun a0 a9 aD ac aT a3 hB=>?_
 replace L2:=L2.gr aE
 have aj:=L2.ne aT
 replace L3:=L3.gr aE
 have ay:=L3.ne aT
 replace L4:=L4.gr (g7.trans aE)
 have ax:=L4.ne aT
 simp only [p3,p4]
 refine se ?_
 refine es 60 0 (.agg #[al,ak]) [al,ak] #[al,ak] ac hB a3 ⟨ai.one0,ai.one1,trivial⟩ fun a5 aA az ac hB=>?_
 refine za0 (k9 _ _ ?_)
 refine wp_seq_k (fun bg a4=>wp_seq_k (fun bs aZ=>?_))
 have aa:=Gr.drew a5
 replace hB:=hB.trans aa
 replace ac:=ac.gr aa
 refine za5 (fun w'=>Lc w' a0 #[al,ak] 60) [(true,0),(false,1),(false,2),(true,3)] (by kernel_rfl) (by kernel_rfl) (by kernel_rfl) (by decide) (fun _ _ _ _ _ h=>h) ac ?_
 refine ow 16 (.agg #[al,ak]) rfl (fun w' hS=>(rl 60 0 [al,ak] hS)) ?_
 refine oe ?_
 refine ec 17 (zC5 _) ?_
 rintro br bq ⟨⟨bn,bv,rfl,a7⟩,ap⟩
 refine ⟨_,rfl,?_⟩
 replace hB:=hB.trans ap
 replace ac:=ac.gr ap
 refine ⟨ac,?_⟩
 simp only [p3,p4]
 refine oe ?_
 have aW:=aD.kp.trans (az.trans (aa.kp.trans ap.kp))
 replace ai:=ai.kp aW
 refine ec 18 (zf8 ai a7 (by omega) (by omega)) ?_
 rintro bp bt ⟨rfl,ar⟩
 refine ⟨_,rfl,?_⟩
 replace hB:=hB.trans ar
 replace ac:=ac.gr ar
 refine ⟨ac,?_⟩
 simp only [p3,p4]
 refine ow 19 (.bool true) rfl (fun w' hS=>(RunV.bool (x:=(sgn ((Int.gcd (N) (D):Int) - 1) !=(0:Int))) (rvk (by kernel_rfl)) hg)) ?_
 refine zb4 ?_
 refine aZ _ _ ?_
 refine wp_cond_true rfl ?_
 refine wp_seq_k (fun bi a2=>rg [0,1,2,3,4,5,6,7] ?_)
 replace L2:=(aA.lc (L2.gr aD) aj).gr (aa.trans (ap.trans ar))
 refine sw 21 (.agg #[n0,n1]) rfl (rl 60 0 [n0,n1] L2) ?_
 refine sw 22 (.agg #[al,ak]) rfl (rl 60 0 [al,ak] ac) ?_
 refine se ?_
 have aQ:=aE.kp.trans (aD.kp.trans (az.trans (aa.kp.trans (ap.kp.trans ar.kp))))
 replace hn:=hn.kp aQ
 replace ai:=ai.kp ar.kp
 refine ec 23 (zP1 hn ai hxn.1 (by omega)) ?_
 rintro bb bo ⟨⟨ah,ae,aG,aL,rfl,aw,a1⟩,aC⟩
 refine ⟨_,rfl,?_⟩
 replace hB:=hB.trans aC
 simp only [p3,p4]
 refine sv 20 (.tuple #[.agg #[ah,ae],.agg #[aG,aL],iT 0]) ?_
 refine sv 24 (.agg #[ah,ae]) ?_
 refine sv 25 (.agg #[aG,aL]) ?_
 refine sv 26 (iT 0) ?_
 refine se ?_
 replace L2:=L2.gr aC
 refine es 60 0 (.agg #[ah,ae]) [ah,ae] #[ah,ae] L2 hB q2 ⟨aw.one0,aw.one1,trivial⟩ fun bm au aB L2 hB=>?_
 refine za0 (a2 _ _ ?_)
 refine rg [0,1,2,3,4,5,6,7] ?_
 replace L3:=au.lc ((aA.lc (L3.gr aD) ay).gr (aa.trans (ap.trans (ar.trans aC)))) (Ne.symm aq)
 refine sw 28 (.agg #[d0,d1]) rfl (rl 60 0 [d0,d1] L3) ?_
 replace ac:=au.lc (ac.gr aC) (Ne.symm aj)
 refine sw 29 (.agg #[al,ak]) rfl (rl 60 0 [al,ak] ac) ?_
 refine se ?_
 have aP:=aE.kp.trans (aD.kp.trans (az.trans (aa.kp.trans (ap.kp.trans (ar.kp.trans (aC.kp.trans aB))))))
 replace hd:=hd.kp aP
 have aR:=aC.kp.trans aB
 replace ai:=ai.kp aR
 refine ec 30 (zP1 hd ai hxn.1 (by omega)) ?_
 rintro bh bl ⟨⟨ad,af,aH,aK,rfl,av,aY⟩,aO⟩
 refine ⟨_,rfl,?_⟩
 replace hB:=hB.trans aO
 simp only [p3,p4]
 refine sv 27 (.tuple #[.agg #[ad,af],.agg #[aH,aK],iT 0]) ?_
 refine sv 31 (.agg #[ad,af]) ?_
 refine sv 32 (.agg #[aH,aK]) ?_
 refine sv 33 (iT 0) ?_
 refine se ?_
 replace L3:=L3.gr aO
 refine es 60 0 (.agg #[ad,af]) [ad,af] #[ad,af] L3 hB q3 ⟨av.one0,av.one1,trivial⟩ fun bk aN aJ L3 hB=>?_
 refine za0 (a4 _ _ ?_)
 refine wp_seq_k (fun bu a6=>rg [0,1,2,3] ?_)
 replace L2:=aN.lc (L2.gr aO) aq
 refine sw 34 (.agg #[ah,ae]) rfl (rl 60 0 [ah,ae] L2) ?_
 refine sw 35 (.agg #[ad,af]) rfl (rl 60 0 [ad,af] L3) ?_
 refine sv 36 (.agg #[ah,ae,ad,af]) ?_
 refine se ?_
 replace L4:=aN.lc ((au.lc ((aA.lc (L4.gr aD) ax).gr (aa.trans (ap.trans (ar.trans aC)))) (Ne.symm aM)).gr aO) (Ne.symm aF)
 refine es 62 0 (.agg #[ah,ae,ad,af]) [ah,ae,ad,af] #[ah,ae,ad,af] L4 hB q4 ⟨aw.one0,aw.one1,av.one0,av.one1,trivial⟩ fun bf a8 aI L4 hB=>?_
 refine za0 (a6 _ _ ?_)
 refine wp_ret ?_
 refine bodyPost_ret (v:=(.agg #[ah,ae,ad,af])) (zc8 _ _ _ rfl rfl L4 (by kernel_rfl)) rfl ⟨?_,hB⟩
 have aS:=aB.trans (aO.kp.trans (aJ.trans aI))
 replace aw:=aw.kp aS
 have aU:=aJ.trans aI
 replace av:=av.kp aU
 exact ⟨_,_,_,_,rfl,aw,av⟩

end Go.Proofs.YtjhflekncldflaaGreatDoor
namespace Go.Proofs.YtjhflekncldflaaGreatDoor
open Go.RowKit

theorem zg0 {z:Int}:sgn z=0↔z=0:=by
 unfold sgn
 by_cases h:z<0
 ·rw [if_pos h];omega
 rw [if_neg h]
 by_cases h2:z=0
 ·simp [h2]
 rw [if_neg h2];omega
theorem yc1 {k:Nat} {c0 c1 c2 c3:Value} {q:Rat} {w:World} (h:IsRat w k c0 c1 c2 c3 q) (hk:k≤1000000):
  Calls Tryz.prog 61 #[.agg #[c0,c1,c2,c3]] w fun e w'=>e=.returned (.bool (decide (q.den=1)))∧Gr w w':=by
 obtain ⟨D,h2,h3⟩:=h.den
 have hp:=q.den_pos
 rcases h3 with h3 | ⟨h3,h4⟩
 ·have e:(sgn (D - 1)==0)=decide (q.den=1):=by
   rw [Bool.eq_iff_iff,beq_iff_eq,zg0,decide_eq_true_iff];omega
  have:=whole_p (c0:=c0) (c1:=c1) h2 (by omega) hk
  rw [e] at this
  exact this
 subst h3
 have e:decide (q.den=1)=true:=by simpa using h4
 rw [e]
 exact whole_z h2
theorem zk5 {k:Nat} {c0 c1 c2 c3:Value} {q:Rat} {w:World} (h:IsRat w k c0 c1 c2 c3 q) (hk:k≤1000000) (hq:q.den=1):
  Calls Tryz.prog 61 #[.agg #[c0,c1,c2,c3]] w fun e w'=>e=.returned (.bool true)∧Gr w w':=by
 have:=yc1 h hk
 rw [decide_eq_true hq] at this
 exact this
theorem zp8 {k:Nat} {c0 c1 c2 c3:Value} {q:Rat} {w:World} (h:IsRat w k c0 c1 c2 c3 q) (hk:k≤1000000) (hq:q.den≠1):
  Calls Tryz.prog 61 #[.agg #[c0,c1,c2,c3]] w fun e w'=>e=.returned (.bool false)∧Gr w w':=by
 have:=yc1 h hk
 rw [decide_eq_false hq] at this
 exact this
theorem zo2 {k:Nat} {c0 c1 c2 c3:Value} {q:Rat} {w:World} (h:IsRat w k c0 c1 c2 c3 q):
  Calls Tryz.prog 94 #[.agg #[c0,c1,c2,c3]] w fun e w'=>(∃ x' y',e=.returned (.agg #[x',y'])∧IsInt w' k x' y' (q.den:Int))∧Gr w w':=by
 obtain ⟨D,h2,h3⟩:=h.den
 have hp:=q.den_pos
 rcases h3 with h3 | ⟨h3,h4⟩
 ·subst h3
  exact den_p h2 (by omega)
 subst h3
 refine (den_z (c0:=c0) (c1:=c1) h2).mono ?_
 rintro e w1 ⟨⟨x,y,he,hi⟩,g⟩
 rw [h4]
 exact ⟨⟨x,y,he,hi.mono h.big⟩,g⟩
theorem add_e {k m:Nat} (n:Nat) {x y x2 y2:Value} {z u:Int} {w:World} (hz:IsInt w k x y z) (hu:IsInt w m x2 y2 u) (h1:k≤n) (h2:m≤n) (hk:2*n+1≤1000000):
  Calls Tryz.prog 104 #[.agg #[x,y],.agg #[x2,y2]] w fun e w'=>(∃ x' y',e=.returned (.agg #[x',y'])∧IsInt w' (n+1) x' y' (z+u))∧Gr w w':=by
 refine (add_i (hz.mono h1) (hu.mono h2) (by omega)).mono ?_
 rintro e w1 ⟨⟨x,y,he,hi⟩,g⟩
 exact ⟨⟨x,y,he,hi.resz ((hz.sz.mono h1).add' (hu.sz.mono h2))⟩,g⟩

theorem zr7 {k m:Nat} (K:Nat) {n0 n1 d0 d1:Value} {N D:Int} {w:World} (hn:IsInt w k n0 n1 N) (hd:IsInt w m d0 d1 D) (h0:0<D) (h1:k≤K) (h2:m≤K) (h3:64≤K) (h4:8*K≤1000000):
  Calls Tryz.prog 103 #[.agg #[n0,n1],.agg #[d0,d1]] w fun e w'=>(∃ c0 c1 c2 c3,e=.returned (.agg #[c0,c1,c2,c3])∧IsRat w' K c0 c1 c2 c3 (Rat.divInt N D))∧Gr w w':=by
 have hN:=hn.mono h1
 have hD:=hd.mono h2
 have en:(Rat.divInt N D).num=N/(Int.gcd N D:Int):=by
  rw [Rat.num_divInt,Int.sign_eq_one_of_pos h0,Int.one_mul,Int.gcd_comm]
 have ed:((Rat.divInt N D).den:Int)=D/(Int.gcd N D:Int):=by
  rw [Rat.den_divInt,if_neg (by omega),Int.gcd_comm,Int.natCast_ediv]
  congr 1
  omega
 have ac:0<(Int.gcd N D:Int):=by
  have:Int.gcd N D≠0:=by rw [Ne,Int.gcd_eq_zero_iff];omega
  omega
 by_cases hg:(Int.gcd N D:Int)=1
 ·refine (zS5 hN hD (by omega) h0 (by rw [hg];rfl)).mono ?_
  rintro e w1 ⟨⟨x,y,x2,y2,he,hi,aa⟩,g⟩
  rw [hg,Int.ediv_one] at en ed
  exact ⟨⟨x,y,x2,y2,he,by rw [en];exact hi,⟨D,aa,.inl ed.symm⟩,h3⟩,g⟩
 have hb:(sgn ((Int.gcd N D:Int) - 1) !=0)=true:=by
  have:sgn ((Int.gcd N D:Int) - 1)≠0:=fun h=>hg (by have:=zg0.1 h;omega)
  simpa using this
 refine (zS6 hN hD (by omega) h0 hb ⟨ac,Int.gcd_dvd_left ..⟩ ⟨ac,Int.gcd_dvd_right ..⟩).mono ?_
 rintro e w1 ⟨⟨x,y,x2,y2,he,hi,aa⟩,g⟩
 exact ⟨⟨x,y,x2,y2,he,by rw [en];exact hi,⟨_,aa,.inl ed.symm⟩,h3⟩,g⟩

theorem yc2 (a b:Rat):Rat.divInt (a.num*b.den+b.num*a.den) (a.den*b.den)=a+b:=by
 have:=Rat.divInt_add_divInt a.num b.num (d₁:=a.den) (d₂:=b.den) (by have:=a.den_pos;omega) (by have:=b.den_pos;omega)
 rw [Rat.num_divInt_den,Rat.num_divInt_den] at this
 exact this.symm
theorem yc3 (a b:Rat):Rat.divInt (a.num*b.num) (a.den*b.den)=a*b:=by
 have:=Rat.divInt_mul_divInt a.num b.num (d₁:=a.den) (d₂:=b.den)
 rw [Rat.num_divInt_den,Rat.num_divInt_den] at this
 exact this.symm
theorem zz1 {q:Rat} (h:q.den=1):((q.num:Int):Rat)=q:=by
 apply Rat.ext
 ·exact Rat.num_intCast _
 rw [h];exact Rat.den_intCast _
theorem IsRat.neg {w:World} {k:Nat} {c0 c1 c2 c3 x y:Value} {q:Rat} (h:IsRat w k c0 c1 c2 c3 q) (hi:IsInt w k x y (-q.num)):IsRat w k x y c2 c3 (-q):=by
 obtain ⟨D,h2,h3⟩:=h.den
 exact ⟨hi,⟨D,h2,h3⟩,h.big⟩
def zh4 (a b:Rat):Int:=sgn (a.num*b.den - b.num*a.den)
theorem rcmp_int {a b:Rat} (ha:a.den=1) (hb:b.den=1):zh4 a b=sgn (a.num - b.num):=by
 unfold zh4;rw [ha,hb];simp
def Kt (t:TypeId) (w w':World):Prop:=∀ (b:Nat) (cs:Array Value) (fr:Nat × Nat),w.heap[b]?=some (Obj.cells cs t fr)→w'.heap[b]?=some (Obj.cells cs t fr)
theorem Kt.refl (t:TypeId) (w:World):Kt t w w:=fun _ _ _ h=>h
theorem Kt.trans {t:TypeId} {a b c:World} (h:Kt t a b) (k:Kt t b c):Kt t a c:=fun b cs fr hb=>k b cs fr (h b cs fr hb)
theorem Gr.kt {w w':World} (h:Gr w w') (t:TypeId):Kt t w w':=fun _ _ _ hk=>h.heap hk
theorem Kt.kp {w w':World} (h:Kt 171 w w'):Kp w w':=h
theorem St.kt {w w':World} {b:Nat} {cs:Array Value} {T t:TypeId} (h:St w w' b) (hL:Lc w b cs T) (ht:t≠T):Kt t w w':=fun c ds fr hc=>by
 by_cases e:c=b
 ·subst e
  unfold Lc at hL
  rw [hc] at hL
  simp only [Option.some.injEq,Obj.cells.injEq] at hL
  exact absurd hL.2.1 ht
 exact (h.block c e).trans hc
theorem Wt.kt {T t:TypeId} {w w':World} (h:Wt T w w') (ht:t≠T):Kt t w w':=fun b cs fr hb=>h.block b cs _ fr ht hb
def Kts (ts:List TypeId) (w w':World):Prop:=∀ t ∈ ts,Kt t w w'
theorem Gr.kts {w w':World} (h:Gr w w') (ts:List TypeId):Kts ts w w':=fun t _=>h.kt t
theorem St.kts {w w':World} {b:Nat} {cs:Array Value} {T:TypeId} {ts:List TypeId} (h:St w w' b) (hL:Lc w b cs T) (ht:(ts.all fun t=>t !=T)=true):Kts ts w w':=fun t hm=>h.kt hL (by have:=List.all_eq_true.1 ht t hm;simpa using this)
theorem Wt.kts {w w':World} {T:TypeId} {ts:List TypeId} (h:Wt T w w') (ht:(ts.all fun t=>t !=T)=true):Kts ts w w':=fun t hm=>h.kt (by have:=List.all_eq_true.1 ht t hm;simpa using this)

section
variable {α:Type}
def zo6 (E:World→α→List Value→Prop) (ts:List TypeId):Prop:=∀ w w' x vs,Kts ts w w'→E w x vs→E w' x vs
def Els (E:World→α→List Value→Prop) (c:Nat) (w:World) (ys:List Value) (xs:List α):Prop:=
 ys.length=xs.length*c∧∀ (i:Nat) (x:α),xs[i]?=some x→E w x ((ys.drop (i*c)).take c)
theorem Els.kts {E:World→α→List Value→Prop} {ts:List TypeId} {c:Nat} {w w':World} {ys:List Value} {xs:List α} (h:Els E c w ys xs) (hS:zo6 E ts) (k:Kts ts w w'):Els E c w' ys xs:=
 ⟨h.1,fun i x hx=>hS _ _ _ _ k (h.2 i x hx)⟩
theorem Els.nil (E:World→α→List Value→Prop) (c:Nat) (w:World):Els E c w [] []:=⟨by simp,fun i x h=>by simp at h⟩
theorem Els.snoc {E:World→α→List Value→Prop} {c:Nat} {w:World} {ys:List Value} {xs:List α} (h:Els E c w ys xs) {x:α} {vs:List Value} (hv:vs.length=c) (hx:E w x vs):Els E c w (ys++vs) (xs++[x]):=by
 refine ⟨by simp [h.1,hv,Nat.add_mul],fun i y hy=>?_⟩
 rcases Nat.lt_or_ge i xs.length with hi | hi
 ·rw [List.getElem?_append_left hi] at hy
  have h1:i*c+c≤ys.length:=by
   rw [h.1]
   have:=Nat.mul_le_mul_right c (show i+1≤xs.length by omega)
   rw [Nat.add_mul] at this;omega
  have:=h.2 i y hy
  rw [List.drop_append_of_le_length (by omega),List.take_append_of_le_length (by rw [List.length_drop];omega)]
  exact this
 rw [List.getElem?_append_right hi] at hy
 have h0:i=xs.length:=by
  have:=(List.getElem?_eq_some_iff.1 hy).1
  simp at this;omega
 subst h0
 simp only [Nat.sub_self,List.getElem?_cons_zero,Option.some.injEq] at hy
 subst hy
 rw [← h.1,List.drop_left,← hv,List.take_length]
 exact hx
theorem Els.set {E:World→α→List Value→Prop} {c:Nat} {w:World} {ys:List Value} {xs:List α} (h:Els E c w ys xs) {i:Nat} (hi:i<xs.length) {x:α} {vs:List Value} (hv:vs.length=c) (hx:E w x vs):
  Els E c w (ys.take (i*c)++vs++ys.drop (i*c+c)) (xs.set i x):=by
 have hle:i*c+c≤ys.length:=by
  rw [h.1]
  have:=Nat.mul_le_mul_right c (show i+1≤xs.length by omega)
  rw [Nat.add_mul] at this;omega
 refine ⟨by rw [List.length_append,List.length_append,List.length_take,List.length_drop,List.length_set,hv,Nat.min_eq_left (by omega)];have:=h.1;omega,fun j y hy=>?_⟩
 rcases Nat.lt_trichotomy j i with hj | hj | hj
 ·rw [List.getElem?_set_ne (by omega)] at hy
  have h1:j*c+c≤i*c:=by
   have:=Nat.mul_le_mul_right c (show j+1≤i by omega)
   rw [Nat.add_mul] at this;omega
  have e:((ys.take (i*c)++vs++ys.drop (i*c+c)).drop (j*c)).take c=(ys.drop (j*c)).take c:=by
   rw [List.append_assoc,List.drop_append_of_le_length (by rw [List.length_take];omega),List.take_append_of_le_length (by rw [List.length_drop,List.length_take];omega),List.drop_take,List.take_take]
   congr 1;omega
  rw [e];exact h.2 j y hy
 ·subst hj
  rw [List.getElem?_set_self hi] at hy
  obtain rfl:=Option.some.inj hy
  have e:((ys.take (j*c)++vs++ys.drop (j*c+c)).drop (j*c)).take c=vs:=by
   have hl:(ys.take (j*c)).length=j*c:=by rw [List.length_take];omega
   rw [List.append_assoc,List.drop_append,hl,Nat.sub_self,List.drop_zero,List.drop_eq_nil_of_le (by omega),List.nil_append,List.take_append_of_le_length (by omega),List.take_of_length_le (by omega)]
  rw [e];exact hx
 rw [List.getElem?_set_ne (by omega)] at hy
 have h1:i*c+c≤j*c:=by
  have:=Nat.mul_le_mul_right c (show i+1≤j by omega)
  rw [Nat.add_mul] at this;omega
 have e:((ys.take (i*c)++vs++ys.drop (i*c+c)).drop (j*c)).take c=(ys.drop (j*c)).take c:=by
  have hl:(ys.take (i*c)++vs).length=i*c+c:=by rw [List.length_append,List.length_take];omega
  rw [List.drop_append,hl,List.drop_eq_nil_of_le (by omega),List.nil_append,List.drop_drop]
  congr 2;omega
 rw [e];exact h.2 j y hy
theorem Els.mono {E F:World→α→List Value→Prop} {c:Nat} {w:World} {ys:List Value} {xs:List α} (h:Els E c w ys xs) (hf:∀ x vs,E w x vs→F w x vs):Els F c w ys xs:=⟨h.1,fun i x hx=>hf _ _ (h.2 i x hx)⟩

def Cs (T:TypeId) (w:World) (v:Value) (n:Nat) (ys:List Value):Prop:=
 ∃ ao cap,v=.slice ao n cap∧n≤cap∧(0<ys.length→∃ b off cs fr,ao=some ⟨b,off,none⟩∧w.heap[b]?=some (.cells cs T fr)∧∀ j,j<ys.length→cs[off+j]?=ys[j]?)
theorem Cs.kt {T:TypeId} {w w':World} {v:Value} {n:Nat} {ys:List Value} (h:Cs T w v n ys) (k:Kt T w w'):Cs T w' v n ys:=by
 obtain ⟨ao,cap,h1,h2,h3⟩:=h
 refine ⟨ao,cap,h1,h2,fun hp=>?_⟩
 obtain ⟨b,off,cs,fr,e1,e2,e3⟩:=h3 hp
 exact ⟨b,off,cs,fr,e1,k _ _ _ e2,e3⟩
def adr (v:Value) (j:Nat):Value:=
 match v with
 | .slice (some ⟨b,off,_⟩) _ _=>.pointer (some ⟨b,off+j,none⟩)
 | _=>undef
def AtV (w:World) (v:Value) (j:Nat) (vs:List Value):Prop:=∃ b off n cap,v=.slice (some ⟨b,off,none⟩) n cap∧w.rangeAt b (off+j) vs
theorem Cs.at_ {T:TypeId} {w:World} {v:Value} {n:Nat} {ys:List Value} (h:Cs T w v n ys) (hp:0<ys.length) (j:Nat) (vs:List Value) (hv:(ys.drop j).take vs.length=vs):AtV w v j vs:=by
 obtain ⟨ao,cap,rfl,h2,h3⟩:=h
 obtain ⟨b,off,cs,fr,rfl,e2,e3⟩:=h3 hp
 refine ⟨b,off,_,_,rfl,fun i u hi=>?_⟩
 have hi':i<vs.length:=(List.getElem?_eq_some_iff.1 hi).1
 have h1:((ys.drop j).take vs.length)[i]?=vs[i]?:=by rw [hv]
 rw [List.getElem?_take_of_lt hi',List.getElem?_drop,hi] at h1
 rw [zc4 e2,Nat.add_assoc,e3 (j+i) (List.getElem?_eq_some_iff.1 h1).1]
 exact h1
def Sl (E:World→α→List Value→Prop) (T:TypeId) (c:Nat) (w:World) (v:Value) (xs:List α):Prop:=∃ ys,Cs T w v xs.length ys∧Els E c w ys xs
theorem Sl.kts {E:World→α→List Value→Prop} {ts:List TypeId} {T:TypeId} {c:Nat} {w w':World} {v:Value} {xs:List α} (h:Sl E T c w v xs) (hS:zo6 E ts) (k:Kts (T::ts) w w'):Sl E T c w' v xs:=by
 obtain ⟨ys,h1,h2⟩:=h
 exact ⟨ys,h1.kt (k T (by simp)),h2.kts hS (fun t ht=>k t (by simp [ht]))⟩
theorem Sl.gr {E:World→α→List Value→Prop} {ts:List TypeId} {T:TypeId} {c:Nat} {w w':World} {v:Value} {xs:List α} (h:Sl E T c w v xs) (hS:zo6 E ts) (g:Gr w w'):Sl E T c w' v xs:=h.kts hS (g.kts _)
theorem Sl.mono {E F:World→α→List Value→Prop} {T:TypeId} {c:Nat} {w:World} {v:Value} {xs:List α} (h:Sl E T c w v xs) (hf:∀ x vs,E w x vs→F w x vs):Sl F T c w v xs:=by
 obtain ⟨ys,h1,h2⟩:=h
 exact ⟨ys,h1,h2.mono hf⟩
theorem Sl.form {E:World→α→List Value→Prop} {T:TypeId} {c:Nat} {w:World} {v:Value} {xs:List α} (h:Sl E T c w v xs):∃ ao cap,v=.slice ao xs.length cap∧xs.length≤cap:=by
 obtain ⟨ys,⟨ao,cap,h1,h2,_⟩,_⟩:=h
 exact ⟨ao,cap,h1,h2⟩
theorem Sl.one {E:World→α→List Value→Prop} {T:TypeId} {c:Nat} {w:World} {v:Value} {xs:List α} (h:Sl E T c w v xs):v.oneCell'=true:=by
 obtain ⟨ao,cap,rfl,_⟩:=h.form;rfl
theorem Sl.nil (E:World→α→List Value→Prop) (T:TypeId) (c:Nat) (w:World) (ao:Option Addr) (cap:Nat):Sl E T c w (.slice ao 0 cap) ([]:List α):=
 ⟨[],⟨ao,cap,rfl,Nat.zero_le _,fun h=>by simp at h⟩,Els.nil ..⟩
theorem Sl.get {E:World→α→List Value→Prop} {T:TypeId} {c:Nat} {w:World} {v:Value} {xs:List α} (h:Sl E T c w v xs) (hc:0<c) {i:Nat} {x:α} (hx:xs[i]?=some x):∃ vs,vs.length=c∧E w x vs∧AtV w v (i*c) vs:=by
 obtain ⟨ys,h1,h2⟩:=h
 have hi:=(List.getElem?_eq_some_iff.1 hx).1
 have hle:i*c+c≤ys.length:=by
  rw [h2.1]
  have:=Nat.mul_le_mul_right c (show i+1≤xs.length by omega)
  rw [Nat.add_mul] at this;omega
 have hl:((ys.drop (i*c)).take c).length=c:=by rw [List.length_take,List.length_drop];omega
 exact ⟨_,hl,h2.2 i x hx,h1.at_ (by omega) _ _ (by rw [hl])⟩
theorem Sl.adr_some {E:World→α→List Value→Prop} {T:TypeId} {c:Nat} {w:World} {v:Value} {xs:List α} (h:Sl E T c w v xs) (hc:0<c) (hp:0<xs.length):∃ b off cap,v=.slice (some ⟨b,off,none⟩) xs.length cap:=by
 obtain ⟨ys,⟨ao,cap,h1,h2,h3⟩,h4⟩:=h
 obtain ⟨b,off,cs,fr,e1,_⟩:=h3 (by rw [h4.1];exact Nat.mul_pos hp hc)
 exact ⟨b,off,cap,by rw [h1,e1]⟩

variable {P:Program} {a:Act} {o:Oper} {w:World} {Q:Exit→Act→World→Prop} {K:Act→World→Prop} {ops:Array Oper}
theorem zB6 {E:World→α→List Value→Prop} {T:TypeId} {c:Nat} {v:Value} {xs:List α} {w0:World} (h:Sl E T c w0 v xs) (x:Operand) (t:TypeId) (hop:o.op=.call {callee:=.builtin .len,args:=#[x],argTypes:=#[t]}) (hx:a.eval x=v) {e:TypeId} (hu:P.underlying t=some (.slice e)):
  RunV P a o w (.int .i64 (xs.length:Int)):=by
 obtain ⟨ao,cap,rfl,_⟩:=h.form
 unfold RunV
 generalize a.eval=ev at*
 unfold execOp
 simp only [hop]
 simp [hx,go_sem,Builtin.len_,run_underlying hu,goInt]
theorem yd6 {E:World→α→List Value→Prop} {T:TypeId} {c:Nat} {v:Value} {xs:List α} {w0:World} (h:Sl E T c w0 v xs) (hc:0<c) (i:Nat) (hi:i<xs.length) (t:TypeId) (x y:Operand) (hop:o.op=.indexAddr t x y) (hx:a.eval x=v) (hy:a.eval y=.int .i64 (i:Int))
  {e:TypeId} (hu:P.underlying t=some (.slice e)) (hs:(P.info? e).map (·.size)=some c):RunV P a o w (adr v (i*c)):=by
 obtain ⟨b,off,cap,rfl⟩:=h.adr_some hc (by omega)
 obtain ⟨j,hj,hsz⟩:=Option.map_eq_some_iff.1 hs
 unfold RunV execOp
 simp only [hop,hx,hy]
 have h1:(0:Int)≤(i:Int)∧(i:Int)<(xs.length:Int):=by omega
 by_cases h0:i*c=0<;>simp [Instr.indexAt,asIntOf,run_underlying hu,sizeOf,typeInfo,hj,hsz,h1,hi,h0,adr,Addr.add]
theorem ze7 (vs:List Value) {v:Value} {j:Nat} (h:AtV w v j vs) (t:TypeId) (x:Operand) (hop:o.op=.load t x) (hx:a.eval x=adr v j) (hs:zg5 P t=some vs.length):RunV P a o w (.agg vs.toArray):=by
 obtain ⟨b,off,n,cap,rfl,hr⟩:=h
 have hx':a.eval x=.pointer (some ⟨b,off+j,none⟩):=hx
 unfold zg5 at hs
 unfold RunV
 cases hd:P.underlying t with
 | none=>rw [hd] at hs;cases hs
 | some d=>
  rw [hd] at hs
  have hrow:d.isRow=true∧(P.info? t).map (·.size)=some vs.length:=by
   cases d<;>first | cases hs | exact ⟨rfl,hs⟩
  unfold execOp
  simp only [hop,hx',Instr.loadAt,Instr.sureAddr,Sem.run_bind,Sem.run_pure,Result.andThen_ok,run_loadVar_mid w b (off+j) t vs d hr hd hrow.1 hrow.2]
theorem zc7 (u:Value) {v:Value} {j:Nat} (h:AtV w v j [u]) (t:TypeId) (x:Operand) (hop:o.op=.load t x) (hx:a.eval x=adr v j) (hs:zl8 P t=true):RunV P a o w u:=by
 obtain ⟨b,off,n,cap,rfl,hr⟩:=h
 have hx':a.eval x=.pointer (some ⟨b,off+j,none⟩):=hx
 unfold zl8 at hs
 have hc:w.cell? ⟨b,off+j,none⟩=some u:=hr 0 u rfl
 unfold RunV
 cases hd:P.underlying t with
 | none=>rw [hd] at hs;cases hs
 | some d=>
  rw [hd] at hs
  have hagg:(isAgg t).run P w=.ok false w:=by
   unfold isAgg
   rw [Sem.run_bind,run_underlying hd w]
   cases d<;>first | cases hs | rfl
  unfold execOp
  simp only [hop,hx',Instr.loadAt,Instr.sureAddr,Sem.run_bind,Sem.run_pure,Result.andThen_ok,loadVar,hagg]
  simp [load,Sem.run,hc]

def Mk (E:World→α→List Value→Prop) (T:TypeId) (c:Nat) (w:World) (b:Nat) (xs:List α):Prop:=∃ ys:List Value,Lc w b ys.toArray T∧Els E c w ys xs
theorem Mk.kts {E:World→α→List Value→Prop} {ts:List TypeId} {T:TypeId} {c:Nat} {w w':World} {b:Nat} {xs:List α} (h:Mk E T c w b xs) (hS:zo6 E ts) (k:Kts (T::ts) w w'):Mk E T c w' b xs:=by
 obtain ⟨ys,h1,h2⟩:=h
 exact ⟨ys,k T (by simp) _ _ _ h1,h2.kts hS (fun t ht=>k t (by simp [ht]))⟩
theorem Mk.gr {E:World→α→List Value→Prop} {ts:List TypeId} {T:TypeId} {c:Nat} {w w':World} {b:Nat} {xs:List α} (h:Mk E T c w b xs) (hS:zo6 E ts) (g:Gr w w'):Mk E T c w' b xs:=h.kts hS (g.kts _)
theorem Mk.lt {E:World→α→List Value→Prop} {T:TypeId} {c:Nat} {w:World} {b:Nat} {xs:List α} (h:Mk E T c w b xs):b<w.heap.size:=by
 obtain ⟨ys,h1,_⟩:=h;exact h1.lt
theorem Mk.sl {E:World→α→List Value→Prop} {T:TypeId} {c:Nat} {w:World} {b:Nat} {xs:List α} (h:Mk E T c w b xs) {cap:Nat} (hc:xs.length≤cap):Sl E T c w (.slice (some ⟨b,0,none⟩) xs.length cap) xs:=by
 obtain ⟨ys,h1,h2⟩:=h
 exact ⟨ys,⟨_,cap,rfl,hc,fun _=>⟨b,0,_,_,rfl,h1,fun j _=>by simp⟩⟩,h2⟩
theorem Mk.sl_n {E:World→α→List Value→Prop} {T:TypeId} {c:Nat} {w:World} {b:Nat} {xs:List α} (h:Mk E T c w b xs) {n cap:Nat} (hn:xs.length=n) (hc:n≤cap):Sl E T c w (.slice (some ⟨b,0,none⟩) n cap) xs:=by
 subst hn;exact h.sl hc
theorem zI1 {d:α} {i:Nat} {xs:List α} (h:i<xs.length):xs[i]?=some (xs.getD i d):=by simp [h]
theorem AtV.gr {w w':World} {v:Value} {j:Nat} {vs:List Value} (h:AtV w v j vs) (g:Gr w w'):AtV w' v j vs:=by
 obtain ⟨b,off,n,cap,e,hr⟩:=h
 refine ⟨b,off,n,cap,e,fun i u hi=>?_⟩
 have h1:=hr i u hi
 rw [← h1]
 exact Below.cell g (p:=⟨b,off+j+i,none⟩) (World.block_lt_of_cell? w _ h1)
theorem zQ9 {E:World→α→List Value→Prop} {w:World} {x0:α} {z:List Value} (hz:E w x0 z):∀ n,Els E z.length w ((List.replicate n z).flatten) (List.replicate n x0)
 | 0=>Els.nil ..
 | n+1=>by
  have:=(zQ9 hz n).snoc rfl hz
  rw [List.replicate_succ',List.flatten_append,List.flatten_singleton,List.replicate_succ']
  exact this
theorem yd7 (z:Array Value) (hz:0<z.size) (n:Nat):(madeCells z (n*z.size)).toList=(List.replicate n z.toList).flatten:=by
 apply List.ext_getElem?
 intro i
 have hl:∀ m,((List.replicate m z.toList).flatten).length=m*z.size:=fun m=>by simp
 have key:∀ m i,i<m*z.size→((List.replicate m z.toList).flatten)[i]?=z[i % z.size]?:=by
  intro m
  induction m with
  | zero=>intro i h;omega
  | succ m ih=>
   intro i h
   rw [List.replicate_succ,List.flatten_cons]
   rcases Nat.lt_or_ge i z.size with h1 | h1
   ·rw [List.getElem?_append_left (by simpa using h1),Nat.mod_eq_of_lt h1];simp
   rw [List.getElem?_append_right (by simpa using h1),Array.length_toList,ih (i - z.size) (by rw [Nat.add_mul] at h;omega),Nat.mod_eq_sub_mod h1]
 by_cases h:i<n*z.size
 ·rw [key n i h]
  have hm:i % z.size<z.size:=Nat.mod_lt _ hz
  simp [madeCells,h,hm]
 rw [List.getElem?_eq_none (by simp [madeCells];omega),List.getElem?_eq_none (by rw [hl];omega)]
theorem eff_mk {E:World→α→List Value→Prop} (x0:α) (t e:TypeId) (z:Value) (n sz bytes:Nat) (d:Option Tmp) {x y:Operand} (hd:o.dst=d) (hop:o.op=.makeSlice t x y) (hx:a.eval x=.int .i64 (n:Int)) (hy:a.eval y=.int .i64 (n:Int)) (hu:P.underlying t=some (.slice e))
  (hi:(P.info? e).map (fun i=>(i.zero,i.size,i.bytes))=some (some z,sz,bytes)) (hsz:z.cells.size=sz∧0<sz) (hn:n≤1000000) (hbytes:bytes≤1000) (hE:∀ w',E w' x0 z.cells.toList)
  (h:∀ b w',Gr w w'→Mk E e sz w' b (List.replicate n x0)→w.heap.size≤b→K (a.put d (.slice (some ⟨b,0,none⟩) n n)) w'):o.wp P a w K Q:=by
 subst hd
 obtain ⟨i,hi,hzz⟩:=Option.map_eq_some_iff.1 hi
 simp only [Prod.mk.injEq] at hzz
 have aa:n*bytes≤1000000*1000:=Nat.mul_le_mul hn hbytes
 have hrun:=run_make (P:=P) w t e i z hu hi hzz.1 .i64 .i64 (n:Int) (n:Int) (by omega) (by omega) (by rw [hzz.2.2,← Int.natCast_mul,Nat.mul_comm];omega) (by omega)
 rw [hzz.2.1] at hrun
 unfold Oper.wp execOp
 simp only [hop,hx,hy,Sem.run_bind,hrun,Result.andThen_ok,Sem.run_pure,Int.toNat_natCast]
 refine h _ _ (Gr.alloc w _) ⟨(madeCells z.cells (n*sz)).toList,by rw [Array.toArray_toList];exact heap_alloc_new w _,?_⟩ (Nat.le_refl _)
 obtain ⟨h1,h2⟩:=hsz
 subst h1
 rw [yd7 _ h2]
 have:=zQ9 (hE (w.alloc (.cells (madeCells z.cells (n*z.cells.size)) e))) n
 simpa using this
theorem zn3:∀ (vs:List Value) (off:Nat) (ys:List Value),off+vs.length≤ys.length→zi0 ys.toArray off vs=(ys.take off++vs++ys.drop (off+vs.length)).toArray
 | [],off,ys,_=>by simp [zi0]
 | v::vs,off,ys,h=>by
  simp only [List.length_cons] at h
  rw [zi0,List.setIfInBounds_toArray,zn3 vs (off+1) (ys.set off v) (by simp;omega)]
  congr 1
  have h1:(ys.set off v).take (off+1)=ys.take off++[v]:=by
   rw [List.take_add_one,List.take_set_of_le (Nat.le_refl _),List.getElem?_set_self (by omega)];rfl
  have h2:(ys.set off v).drop (off+1+vs.length)=ys.drop (off+(vs.length+1)):=by
   rw [List.drop_set_of_lt (by omega)];congr 1;omega
  rw [h1,h2];simp
theorem eff_stm {E:World→α→List Value→Prop} {ts:List TypeId} (hS:zo6 E ts) {T:TypeId} {c:Nat} {b:Nat} {xs:List α} (hM:Mk E T c w b xs) (i:Nat) (hi:i<xs.length) (x0:α) (v:Value) (vs:List Value) (n cap:Nat) (t:TypeId) (x y:Operand)
  (hop:o.op=.store t x y) (hd:o.dst=none) (hx:a.eval x=adr (.slice (some ⟨b,0,none⟩) n cap) (i*c)) (hy:a.eval y=v) (hv:v.cells=vs.toArray) (hs:(P.info? t).map (·.size)=some c) (hc:vs.length=c) (h1:One1 vs) (hE:E w x0 vs) (hT:(ts.all fun t=>t !=T)=true)
  (h:∀ w',St w w' b→(∀ u,u≠T→Kt u w w')→Mk E T c w' b (xs.set i x0)→K a w'):o.wp P a w K Q:=by
 obtain ⟨ys,hL,aa⟩:=hM
 subst hc
 have hle:i*vs.length+vs.length≤ys.length:=by
  rw [aa.1]
  have:=Nat.mul_le_mul_right vs.length (show i+1≤xs.length by omega)
  rw [Nat.add_mul] at this;omega
 have hx':a.eval x=.pointer (some ⟨b,i*vs.length,none⟩):=by
  rw [hx];simp [adr]
 refine zd6 t x y b (i*vs.length) v vs ys.toArray _ T hop hd hx' hy hv hL hs (by simpa using hle) h1 rfl (fun w' st L'=>?_)
 rw [zn3 _ _ _ hle] at L'
 have hk:Kts ts w w':=st.kts hL hT
 exact h w' st (fun u hu=>st.kt hL hu) ⟨_,L',((aa.set hi rfl hE).kts hS hk)⟩

def Ow (E:World→α→List Value→Prop) (T:TypeId) (c:Nat) (w:World) (B:Nat) (v:Value) (xs:List α):Prop:=∃ ys,w.ownsRow B T c v xs.length ys∧Els E c w ys xs
theorem zT6 {w w':World} {B T c n:Nat} {v:Value} {ys:List Value} (h:w.ownsRow B T c v n ys) (k:Kt T w w'):w'.ownsRow B T c v n ys:=by
 refine ⟨h.1,?_⟩
 rcases h.2 with hn | ⟨g,cap,cur,rfl,hb,hg,hr⟩
 ·exact .inl hn
 exact .inr ⟨g,cap,cur,rfl,hb,k _ _ _ hg,hr⟩
theorem Ow.kts {E:World→α→List Value→Prop} {ts:List TypeId} {T:TypeId} {c B:Nat} {w w':World} {v:Value} {xs:List α} (h:Ow E T c w B v xs) (hS:zo6 E ts) (k:Kts (T::ts) w w'):Ow E T c w' B v xs:=by
 obtain ⟨ys,h1,h2⟩:=h
 exact ⟨ys,zT6 h1 (k T (by simp)),h2.kts hS (fun t ht=>k t (by simp [ht]))⟩
theorem Ow.gr {E:World→α→List Value→Prop} {ts:List TypeId} {T:TypeId} {c B:Nat} {w w':World} {v:Value} {xs:List α} (h:Ow E T c w B v xs) (hS:zo6 E ts) (g:Gr w w'):Ow E T c w' B v xs:=h.kts hS (g.kts _)
theorem Ow.nil (E:World→α→List Value→Prop) (T:TypeId) (c:Nat) (w:World) (B:Nat):Ow E T c w B (.slice none 0 0) ([]:List α):=⟨[],World.ownsRow_nil ..,Els.nil ..⟩
theorem Ow.one {E:World→α→List Value→Prop} {T:TypeId} {c B:Nat} {w:World} {v:Value} {xs:List α} (h:Ow E T c w B v xs):v.oneCell'=true:=by
 obtain ⟨ys,h1,_⟩:=h
 rcases h1.2 with ⟨rfl,_⟩ | ⟨g,cap,cur,rfl,_⟩<;>rfl
theorem Ow.sl {E:World→α→List Value→Prop} {T:TypeId} {c B:Nat} {w:World} {v:Value} {xs:List α} (h:Ow E T c w B v xs):Sl E T c w v xs:=by
 obtain ⟨ys,h1,h2⟩:=h
 refine ⟨ys,?_,h2⟩
 rcases h1.2 with ⟨rfl,hn⟩ | ⟨g,cap,cur,rfl,hb,hg,h3,h4,h5,h6⟩
 ·refine ⟨none,0,by rw [hn],by omega,fun hp=>?_⟩
  rw [h2.1,hn] at hp;simp at hp
 refine ⟨_,cap,rfl,h3,fun _=>⟨g,0,cur,_,rfl,hg,fun j hj=>?_⟩⟩
 rw [h2.1] at hj
 have:(cur.toList.take (xs.length*c))[j]?=ys[j]?:=by rw [h6]
 rw [List.getElem?_take_of_lt hj] at this
 rw [Nat.zero_add,← this];simp
def OwNe (v:Value) (b:Nat):Prop:=∀ g n cap,v=.slice (some ⟨g,0,none⟩) n cap→g≠b
theorem Ow.ne {E:World→α→List Value→Prop} {T:TypeId} {c B b:Nat} {w:World} {v:Value} {xs:List α} (h:Ow E T c w B v xs) (hb:w.heap.size≤b):OwNe v b:=by
 obtain ⟨ys,h1,_⟩:=h
 intro g n cap e
 rcases h1.2 with ⟨hn,_⟩ | ⟨g',cap',cur,he,_,hg,_⟩
 ·rw [hn] at e;cases e
 rw [he] at e;cases e
 have:=zf5 hg
 omega
theorem Ow.st {E:World→α→List Value→Prop} {ts:List TypeId} {T:TypeId} {c B b:Nat} {w w':World} {v:Value} {xs:List α} (h:Ow E T c w B v xs) (hS:zo6 E ts) (st:St w w' b) (hn:OwNe v b) (k:Kts ts w w'):Ow E T c w' B v xs:=by
 obtain ⟨ys,h1,h2⟩:=h
 refine ⟨ys,⟨h1.1,?_⟩,h2.kts hS k⟩
 rcases h1.2 with hv | ⟨g,cap,cur,rfl,hb,hg,hr⟩
 ·exact .inl hv
 exact .inr ⟨g,cap,cur,rfl,hb,by rw [st.block g (hn g _ _ rfl)];exact hg,hr⟩
theorem Ow.mono {E:World→α→List Value→Prop} {T:TypeId} {c B C:Nat} {w:World} {v:Value} {xs:List α} (h:Ow E T c w B v xs) (hC:C≤B):Ow E T c w C v xs:=by
 obtain ⟨ys,h1,h2⟩:=h
 refine ⟨ys,⟨h1.1,?_⟩,h2⟩
 rcases h1.2 with hn | ⟨g,cap,cur,rfl,hb,hg,hr⟩
 ·exact .inl hn
 exact .inr ⟨g,cap,cur,rfl,Nat.le_trans hC hb,hg,hr⟩
theorem zL8 {E:World→α→List Value→Prop} {ts:List TypeId} (hS:zo6 E ts) (s x:Operand) (t:TypeId) (T B:Nat) (z:Value) (v:Value) (xs:List α) (b:Nat) (us:List Value) (x0:α) (c cx:Nat) (d:Option Tmp) (bytes:Nat) (hd:o.dst=d)
  (ho:o.op=.call {callee:=.builtin .append,args:=#[s,x],argTypes:=#[t,t]}) (hs:a.eval s=v) (hx:a.eval x=.slice (some ⟨b,0,none⟩) 1 cx)
  (hown:Ow E T c w B v xs) (hL:Lc w b us.toArray T) (hu:One1 us) (hl:us.length=c) (hE:E w x0 us) (w0:World) (hB:Gr w0 w) (aa:w0.heap.size≤B) (hBw:B≤w.heap.size) (hn:xs.length≤1000000) (hbytes:bytes≤1000)
  (ht:P.underlying t=some (.slice T)) (hi:(P.info? T).map (fun i=>(i.zero,i.size,i.bytes))=some (some z,c,bytes)) (hzs:z.cells.size=c∧0<c) (hT:(ts.all fun t=>t !=T)=true)
  (h:∀ v' w',Ow E T c w' B v' (xs++[x0])→Wt T w w'→Gr w0 w'→K (a.put d v') w'):o.wp P a w K Q:=by
 subst hd
 obtain ⟨ys,hown,hEl⟩:=hown
 obtain ⟨i,hi,hz,hsize,hby⟩:=info_parts hi
 have ac:(xs.length+1)*bytes≤1000001*1000:=Nat.mul_le_mul (by omega) hbytes
 refine wp_append_own w s x t ho B T i z c bytes ht hi hz hsize hby hzs.1 hzs.2 v xs.length ys hs hown ⟨b,0,none⟩ 1 cx us hx (by omega) (fun j y hj=>?_) hu.all (by unfold maxLen;omega) (by omega) hBw ?_
 ·have e:(⟨b,0,none⟩:Addr).add j=⟨b,j,none⟩:=by by_cases h0:j=0<;>simp [Addr.add,h0]
  rw [e,zc4 hL];simpa using hj
 intro v' w' h2 hg _
 have hown':=hown
 have hnew:∀ k,v.ownBlock=some k→B≤k∧∃ cur,w.heap[k]?=some (.cells cur T (0,0)):=by
  intro k hk
  rcases hown'.2 with ⟨rfl,_⟩ | ⟨g,cap,cur,rfl,hb,hgg,_⟩
  ·simp [Value.ownBlock] at hk
  simp [Value.ownBlock] at hk
  subst hk;exact ⟨hb,cur,hgg⟩
 have hwt:Wt T w w':=⟨hg.os,hg.tape,hg.output,hg.size,fun k cs t fr ht hk=>by
  rw [hg.block k (zf5 hk) (fun e=>?_)]
  ·exact hk
  obtain ⟨_,cur,hc⟩:=hnew k e.symm
  rw [hk] at hc
  simp only [Option.some.injEq,Obj.cells.injEq] at hc
  exact ht hc.2.1⟩
 refine h v' w' ⟨_,by simpa using h2,(hEl.snoc hl hE).kts hS (hwt.kts hT)⟩ hwt ?_
 refine Below.trans hB ⟨hg.os,hg.tape,hg.output,hg.size,fun k hk=>hg.block k (Nat.lt_of_lt_of_le hk hB.size) (fun e=>?_)⟩
 have:=(hnew k e.symm).1
 omega
theorem ow_empty {E:World→α→List Value→Prop} {T:TypeId} {c:Nat} {w:World} {b B:Nat} (hL:Lc w b #[] T) (hB:B≤b):Ow E T c w B (.slice (some ⟨b,0,none⟩) 0 0) ([]:List α):=
 ⟨[],⟨by simp,.inr ⟨b,0,#[],rfl,hB,hL,Nat.le_refl _,by unfold maxLen;omega,by simp,by simp⟩⟩,Els.nil ..⟩
theorem Sl.cases {E:World→α→List Value→Prop} {T:TypeId} {c:Nat} {w:World} {v:Value} {xs:List α} (h:Sl E T c w v xs) (hc:0<c):xs=[]∨0<xs.length∧∃ b off cap,v=.slice (some ⟨b,off,none⟩) xs.length cap:=by
 cases xs with
 | nil=>exact .inl rfl
 | cons x xs=>exact .inr ⟨by simp,h.adr_some hc (by simp)⟩
end
def ETxt (_:World) (X:List UInt8) (vs:List Value):Prop:=vs=[zf1 X]
theorem zl7:zo6 ETxt []:=fun _ _ _ _ _ h=>h
def EI64 (_:World) (z:Int) (vs:List Value):Prop:=vs=[.int .i64 z]
theorem za2:zo6 EI64 []:=fun _ _ _ _ _ h=>h
def ERat (k:Nat) (w:World) (q:Rat) (vs:List Value):Prop:=∃ c0 c1 c2 c3,vs=[c0,c1,c2,c3]∧IsRat w k c0 c1 c2 c3 q
theorem za6 (k:Nat):zo6 (ERat k) [171]:=fun w w' _ _ hk h=>by
 obtain ⟨c0,c1,c2,c3,e,hq⟩:=h
 exact ⟨c0,c1,c2,c3,e,hq.kp (hk 171 (by simp))⟩
theorem yd8 (k:Nat) (hk:64≤k) (w:World):ERat k w 0 [.bool false,.slice none 0 0,.bool false,.slice none 0 0]:=⟨_,_,_,_,rfl,IsRat.zero w hk⟩
theorem ERat.mono {k m:Nat} {w:World} {q:Rat} {vs:List Value} (h:ERat k w q vs) (hk:k≤m):ERat m w q vs:=by
 obtain ⟨c0,c1,c2,c3,e,hq⟩:=h
 exact ⟨c0,c1,c2,c3,e,hq.mono hk⟩
end Go.Proofs.YtjhflekncldflaaGreatDoor
namespace Go.Proofs.YtjhflekncldflaaGreatDoor
open Go.ChangeShapes Go.WideShapes Go.ChangeAt Go.RowKit

def fieldsOf (P:Program) (rec:TypeId→Option (List IntKind)):Nat→List Field→Option (List IntKind)
 | _,[]=>some []
 | off,f::fs=>match rec f.type with
  | some ks=>if f.offset=off∧P.cellsOf f.type=ks.length then (fieldsOf P rec (off+ks.length) fs).map (ks++·) else none
  | none=>none
def zA9 (P:Program):Nat→TypeId→Option (List IntKind)
 | 0,_=>none
 | n+1,t=>match P.underlying t with
  | some (.int k)=>some [k]
  | some (.array m e)=>match zA9 P n e with
   | some ks=>if P.cellsOf e=ks.length∧P.cellsOf t=m*ks.length then some (List.replicate m ks).flatten else none
   | none=>none
  | some (.struct fs)=>match fieldsOf P (zA9 P n) 0 fs.toList with
   | some ks=>if P.cellsOf t=ks.length then some ks else none
   | none=>none
  | _=>none
def IntsAre:List IntKind→List Value→Prop
 | k::ks,c::cs=>(∃ z,c=.int k z∧k.has z)∧IntsAre ks cs
 | [],[]=>True
 | _,_=>False
theorem IntsAre.len:∀ {ks:List IntKind} {cs:List Value},IntsAre ks cs→cs.length=ks.length
 | _::_,_::_,h=>by simp [IntsAre.len h.2]
 | [],[],_=>rfl
 | _::_,[],h=>h.elim
 | [],_::_,h=>h.elim
theorem IntsAre.app:∀ {ks ls:List IntKind} {cs ds:List Value},IntsAre ks cs→IntsAre ls ds→IntsAre (ks++ls) (cs++ds)
 | _::_,_,_::_,_,h,g=>⟨h.1,IntsAre.app h.2 g⟩
 | [],_,[],_,_,g=>g
 | _::_,_,[],_,h,_=>h.elim
 | [],_,_::_,_,h,_=>h.elim
theorem IntsAre.rep {ks:List IntKind}:∀ {m:Nat} {cs:List Value},cs.length=m*ks.length→(∀ i,i<m→IntsAre ks ((cs.drop (i*ks.length)).take ks.length))→IntsAre (List.replicate m ks).flatten cs
 | 0,cs,hl,_=>by
  rw [Nat.zero_mul] at hl
  rw [List.length_eq_zero_iff.1 hl];trivial
 | m+1,cs,hl,h=>by
  have h0:=h 0 (by omega)
  rw [Nat.zero_mul,List.drop_zero] at h0
  have hr:IntsAre (List.replicate m ks).flatten (cs.drop ks.length):=IntsAre.rep (by rw [List.length_drop,hl,Nat.add_mul];omega) fun i hi=>by
   have:=h (i+1) (by omega)
   rw [List.drop_drop,show ks.length+i*ks.length=(i+1)*ks.length by rw [Nat.add_mul];omega]
   exact this
  have:=h0.app hr
  rw [List.take_append_drop] at this
  exact this
theorem zB0 {P:Program} {rec:TypeId→Option (List IntKind)} {cs:List Value}:∀ {fs:List Field} {off:Nat} {ks:List IntKind},fieldsOf P rec off fs=some ks→cs.length=off+ks.length→
  (∀ (f:Field) (ls:List IntKind),f ∈ fs→rec f.type=some ls→IntsAre ls ((cs.drop f.offset).take (P.cellsOf f.type)))→IntsAre ks (cs.drop off)
 | [],off,ks,h,hl,_=>by
  obtain rfl:=Option.some.inj h
  rw [List.drop_eq_nil_of_le (by simpa using Nat.le_of_eq hl)];trivial
 | f::fs,off,ks,h,hl,hf=>by
  unfold fieldsOf at h
  split at h
  ·rename_i ls hls
   split at h
   ·rename_i hc
    obtain ⟨rs,hr,rfl⟩:=Option.map_eq_some_iff.1 h
    have h0:=hf f ls (by simp) hls
    rw [hc.1,hc.2] at h0
    have h1:=zB0 hr (by rw [hl,List.length_append];omega) fun g l hg=>hf g l (by simp [hg])
    have:=h0.app h1
    rw [← List.drop_drop,List.take_append_drop] at this
    exact this
   cases h
  cases h
theorem zy7 {k:IntKind} {z:Int} (h:(Lit.int k z).wf=true):k.has z:=by
 first | exact h | (unfold Lit.wf at h;unfold IntKind.has;simpa using h)
theorem zr5 {H:Type} {enc:TypeId × Value→H} {P:Program} {W:World} {base:Nat} {sp:Nat→Bool} {held:Bool}:∀ {n:Nat} {t:TypeId} {ks:List IntKind} {fuel:Nat} {cs:List Value} {x:DataW H × List MemPlace},
  zA9 P n t=some ks→DataW.trod enc P W base sp held fuel t cs=some x→IntsAre ks cs
 | 0,_,_,_,_,_,h,_=>by cases h
 | n+1,t,ks,fuel,cs,x,h,ht=>by
  unfold zA9 at h
  split at h
  ·rename_i k hu
   obtain rfl:=Option.some.inj h
   obtain ⟨z,rfl,_,hz⟩:=DataW.trod_int hu ht
   exact ⟨⟨z,rfl,zy7 hz⟩,trivial⟩
  ·rename_i m e hu
   split at h
   ·rename_i ls hls
    split at h
    ·rename_i hc
     obtain rfl:=Option.some.inj h
     obtain ⟨xs,g,_,_,hl,hx,he⟩:=DataW.trod_array hu ht
     refine IntsAre.rep (by rw [hl,hc.2]) fun i hi=>?_
     have h1:=he i hi
     rw [hc.1] at h1
     exact zr5 hls (h1.trans (List.getElem?_eq_getElem (by omega)))
    cases h
   cases h
  ·rename_i fs hu
   split at h
   ·rename_i ls hls
    split at h
    ·rename_i hc
     obtain rfl:=Option.some.inj h
     obtain ⟨xs,g,_,_,hl,hx,he⟩:=DataW.trod_struct hu ht
     have:=zB0 (cs:=cs) hls (by rw [hl,hc];omega) fun f l hf hr=>by
      obtain ⟨i,hi,hfi⟩:=List.getElem_of_mem hf
      have hi':i<fs.size:=by simpa using hi
      have hfi':fs[i]?=some f:=by rw [Array.getElem?_eq_getElem hi'];simpa using hfi
      have h1:=he i f hfi'
      exact zr5 hr (h1.trans (List.getElem?_eq_getElem (by omega)))
     rw [List.drop_zero] at this
     exact this
    cases h
   cases h
  cases h
def yb3 (vs:List Value):List Int:=vs.map fun | .int _ z=>z | _=>0
def EK (ks:List IntKind) (_:World) (x:List Int) (vs:List Value):Prop:=x.length=ks.length∧vs=List.zipWith (fun k z=>Value.int k z) ks x∧∀ (i:Nat) (k:IntKind),ks[i]?=some k→k.has (x.getD i 0)
theorem IntsAre.ek {W:World}:∀ {ks:List IntKind} {vs:List Value},IntsAre ks vs→EK ks W (yb3 vs) vs
 | k::ks,c::cs,h=>by
  obtain ⟨⟨z,rfl,hz⟩,hr⟩:=h
  obtain ⟨h1,h2,h3⟩:=IntsAre.ek (W:=W) hr
  refine ⟨by simp only [yb3,List.map_cons,List.length_cons] at h1 ⊢;omega,?_,fun i l hi=>?_⟩
  ·show Value.int k z::cs=Value.int k z::List.zipWith _ ks (yb3 cs)
   rw [← h2]
  cases i with
  | zero=>obtain rfl:=Option.some.inj hi;exact hz
  | succ i=>exact h3 i l hi
 | [],[],_=>⟨rfl,rfl,fun i k h=>by cases h⟩
 | _::_,[],h=>h.elim
 | [],_::_,h=>h.elim
theorem yb4 {α:Type} {Q:Nat→α→Prop}:∀ {n:Nat},(∀ i,i<n→∃ x,Q i x)→∃ xs:List α,xs.length=n∧∀ (i:Nat) (x:α),xs[i]?=some x→Q i x
 | 0,_=>⟨[],rfl,fun i x h=>by cases h⟩
 | n+1,h=>by
  obtain ⟨xs,hl,hx⟩:=yb4 (n:=n) fun i hi=>h i (by omega)
  obtain ⟨y,hy⟩:=h n (by omega)
  refine ⟨xs++[y],by simp [hl],fun i x hi=>?_⟩
  rcases Nat.lt_or_ge i xs.length with g | g
  ·rw [List.getElem?_append_left g] at hi;exact hx i x hi
  rw [List.getElem?_append_right g] at hi
  have h0:i=n:=by have:=(List.getElem?_eq_some_iff.1 hi).1;simp at this;omega
  subst h0
  rw [hl,Nat.sub_self] at hi
  obtain rfl:=Option.some.inj hi
  exact hy
theorem zQ3 (b off j:Nat):(⟨b,off,none⟩:Addr).add j=⟨b,off+j,none⟩:=by by_cases h0:j=0<;>simp [Addr.add,h0]
theorem yb5 {H α:Type} {E:World→α→List Value→Prop} {enc:TypeId × Value→H} {P:Program} {W:World} {base:Nat} {sp:Nat→Bool} {held:Bool} {t e c:Nat} {fuel:Nat} {cs:List Value} {y:DataW H × List MemPlace}
  (ht:P.underlying t=some (.slice e)) (hc:P.cellsOf e=c) (hp:0<c) (hE:∀ fuel cs y,cs.length=c→DataW.trod enc P W base sp held fuel e cs=some y→∃ x,E W x cs)
  (h:DataW.trod enc P W base sp held fuel t cs=some y):∃ (v:Value) (T:Nat) (xs:List α),cs=[v]∧Sl E T c W v xs:=by
 rcases DataW.trod_slice ht h with ⟨hcs,_⟩ | ⟨a,len,cap,elems,rest,n,_,hcs,_,_,hlc,_,hel,hget,_,_⟩
 ·exact ⟨_,0,[],hcs,Sl.nil ..⟩
 rcases Nat.eq_zero_or_pos len with h0 | hpos
 ·subst h0;exact ⟨_,0,[],hcs,Sl.nil ..⟩
 rw [hc] at hget
 have hone:∀ i,i<len→∃ x ds,ds.length=c∧E W x ds∧∀ j,j<c→W.cell? ((a.add (i*c)).add j)=ds[j]?:=fun i hi=>by
  have h1:=hget i hi
  rw [List.getElem?_eq_getElem (by omega),Option.bind_eq_some_iff] at h1
  obtain ⟨ds,h2,h3⟩:=h1
  unfold World.cells? at h2
  split at h2
  ·have hl:=mapM_some_length h2
   rw [List.length_range] at hl
   obtain ⟨x,hx⟩:=hE _ _ _ hl h3
   exact ⟨x,ds,hl,hx,fun j hj=>mapM_some_get h2 j j (by simp [hj])⟩
  cases h2
 obtain ⟨b,off,spot⟩:=a
 have hsome:∃ u,W.cell? ⟨b,off,spot⟩=some u:=by
  obtain ⟨x,ds,hl,_,hd⟩:=hone 0 hpos
  have:=hd 0 hp
  rw [Nat.zero_mul] at this
  rw [show ((⟨b,off,spot⟩:Addr).add 0).add 0=⟨b,off,spot⟩ by simp [Addr.add]] at this
  exact ⟨_,this.trans (List.getElem?_eq_getElem (by omega))⟩
 obtain ⟨u,hu⟩:=hsome
 have hsp:spot=none:=by
  unfold World.cell? at hu
  cases spot with
  | none=>rfl
  | some s=>dsimp only at hu;split at hu<;>simp at hu
 subst hsp
 obtain ⟨bs,T,fr,hb⟩:∃ bs T fr,W.heap[b]?=some (.cells bs T fr):=by
  unfold World.cell? at hu
  dsimp only at hu
  split at hu
  ·next c T fr hh=>exact ⟨c,T,fr,hh⟩
  cases hu
 have hat:∀ i,i<len→∃ x ds,ds.length=c∧E W x ds∧∀ j,j<c→bs[off+(i*c+j)]?=ds[j]?:=fun i hi=>by
  obtain ⟨x,ds,hl,hx,hd⟩:=hone i hi
  refine ⟨x,ds,hl,hx,fun j hj=>?_⟩
  have:=hd j hj
  rw [zQ3,zQ3,zc4 hb] at this
  rw [← this,Nat.add_assoc]
 obtain ⟨xs,hxl,hxs⟩:=yb4 hat
 have hdiv:∀ k,k<len*c→k/c<len∧k % c<c∧k/c*c+k % c=k:=fun k hk=>⟨(Nat.div_lt_iff_lt_mul hp).2 hk,Nat.mod_lt _ hp,by rw [Nat.mul_comm];exact Nat.div_add_mod k c⟩
 have hys:∀ k,k<len*c→bs[off+k]?=some (bs.getD (off+k) undef):=fun k hk=>by
  obtain ⟨d1,d2,d3⟩:=hdiv k hk
  obtain ⟨x,ds,hl,_,hd⟩:=hat _ d1
  have:=hd _ d2
  rw [d3,List.getElem?_eq_getElem (by omega)] at this
  rw [Array.getD_eq_getD_getElem?,this];rfl
 have hyl:((List.range (len*c)).map fun k=>bs.getD (off+k) undef).length=len*c:=by simp
 have hyk:∀ k,k<len*c→((List.range (len*c)).map fun k=>bs.getD (off+k) undef)[k]?=bs[off+k]?:=fun k hk=>by
  rw [hys k hk];simp [hk]
 refine ⟨_,T,xs,hcs,((List.range (len*c)).map fun k=>bs.getD (off+k) undef),⟨some ⟨b,off,none⟩,cap,by rw [hxl],by omega,fun _=>⟨b,off,bs,fr,rfl,hb,fun j hj=>?_⟩⟩,⟨by rw [hyl,hxl],fun i x hx=>?_⟩⟩
 ·rw [hyl] at hj;exact (hyk j hj).symm
 have hi:i<len:=by rw [← hxl];exact (List.getElem?_eq_some_iff.1 hx).1
 obtain ⟨ds,hl,he,hd⟩:=hxs i x hx
 have hle:i*c+c≤len*c:=by
  have:=Nat.mul_le_mul_right c (show i+1≤len by omega)
  rw [Nat.add_mul] at this;omega
 have e2:(((List.range (len*c)).map fun k=>bs.getD (off+k) undef).drop (i*c)).take c=ds:=by
  apply List.ext_getElem?;intro j
  rcases Nat.lt_or_ge j c with hj | hj
  ·rw [List.getElem?_take_of_lt hj,List.getElem?_drop,hyk _ (by omega),hd j hj]
  rw [List.getElem?_eq_none (by rw [List.length_take];omega),List.getElem?_eq_none (by omega)]
 rw [e2];exact he
theorem open_sl {H α:Type} {E:World→α→List Value→Prop} {enc:TypeId × Value→H} {P:Program} {W:World} {base base2:Nat} {sp:Nat→Bool} {held:Bool} {t e c:Nat} {v:Value} {d:DataW H} {p:List MemPlace}
  (ht:P.underlying t=some (.slice e)) (hc:P.cellsOf e=c) (hp:0<c) (hE:∀ fuel cs y,cs.length=c→DataW.trod enc P W base sp held fuel e cs=some y→∃ x,E W x cs)
  (hval:Value.okWide P W .any base2 t v) (h:DataW.Trod enc P W base sp held t v d p):∃ (T:Nat) (xs:List α),Sl E T c W v xs:=by
 obtain ⟨a0,aa,cap0,rfl⟩:=okWide_slice ht hval
 obtain ⟨fuel,hf⟩:=h
 obtain ⟨v,T,xs,hv,hs⟩:=yb5 ht hc hp hE hf
 have e1:(Value.slice a0 aa cap0).cells.toList=[.slice a0 aa cap0]:=rfl
 rw [e1] at hv
 obtain rfl:=(List.cons.inj hv).1
 exact ⟨T,xs,hs⟩
theorem yb6 {H:Type} {enc:TypeId × Value→H} {P:Program} {W:World} {base base2:Nat} {sp:Nat→Bool} {held:Bool} {t e:Nat} {v:Value} {d:DataW H} {p:List MemPlace} (n:Nat) {ks:List IntKind}
  (ht:P.underlying t=some (.slice e)) (hk:zA9 P n e=some ks) (hc:P.cellsOf e=ks.length) (hp:0<ks.length)
  (hval:Value.okWide P W .any base2 t v) (h:DataW.Trod enc P W base sp held t v d p):∃ (T:Nat) (xs:List (List Int)),Sl (EK ks) T ks.length W v xs:=
 open_sl ht hc hp (fun _ _ _ _ hx=>⟨_,(zr5 hk hx).ek⟩) hval h
end Go.Proofs.YtjhflekncldflaaGreatDoor
namespace Go.Proofs.YtjhflekncldflaaGreatDoor
structure Ofr where
 n:Nat
 q:Nat
 nom:Nat→Int
 ol:Nat→Nat
 lo:Nat→Nat→Int
 up:Nat→Nat→Int
 co:Nat→Nat→Int
 fc:Nat→Nat→Rat
 cn:Nat→Rat
 hl:Nat→Bool
 hh:Nat→Bool
 vl:Nat→Rat
 vh:Nat→Rat
def rmin (a b:Rat):Rat:=if b<a then b else a
def rmax (a b:Rat):Rat:=if a<b then b else a
theorem rmin_le1 (a b:Rat):rmin a b≤a:=by unfold rmin;split<;>grind
theorem rmin_le2 (a b:Rat):rmin a b≤b:=by unfold rmin;split<;>grind
theorem le_rmax1 (a b:Rat):a≤rmax a b:=by unfold rmax;split<;>grind
theorem le_rmax2 (a b:Rat):b≤rmax a b:=by unfold rmax;split<;>grind
def bmax (f:Nat→Rat):Nat→Rat
 | 0=>f 0
 | k+1=>rmax (bmax f k) (f k)
def bmin (f:Nat→Rat):Nat→Rat
 | 0=>f 0
 | k+1=>rmin (bmin f k) (f k)
theorem zZ5 (f:Nat→Rat):∀ {k i:Nat},i<k→f i≤bmax f k
 | k+1,i,h=>by
  rcases Nat.lt_or_eq_of_le (Nat.le_of_lt_succ h) with h1 | rfl
  ·exact Rat.le_trans (zZ5 f h1) (le_rmax1 _ _)
  exact le_rmax2 _ _
theorem zZ6 (f:Nat→Rat):∀ {k i:Nat},i<k→bmin f k≤f i
 | k+1,i,h=>by
  rcases Nat.lt_or_eq_of_le (Nat.le_of_lt_succ h) with h1 | rfl
  ·exact Rat.le_trans (rmin_le1 _ _) (zZ6 f h1)
  exact rmin_le2 _ _
def zj8 (f:Nat→Int):Nat→Int
 | 0=>f 0
 | k+1=>if f k<zj8 f k then f k else zj8 f k
theorem zZ7 (f:Nat→Int):∀ {k i:Nat},i<k→zj8 f k≤f i
 | k+1,i,h=>by
  unfold zj8
  rcases Nat.lt_or_eq_of_le (Nat.le_of_lt_succ h) with h1 | rfl
  ·have:=zZ7 f h1;split<;>omega
  split<;>omega
def zD2 (f:Nat→Int):Nat→Int
 | 0=>0
 | k+1=>zD2 f k+f k
theorem zZ8 {f g:Nat→Int}:∀ {k:Nat},(∀ i,i<k→f i≤g i)→zD2 f k≤zD2 g k
 | 0,_=>Int.le_refl _
 | k+1,h=>Int.add_le_add (zZ8 fun i hi=>h i (by omega)) (h k (by omega))
def zs4 (c:Rat) (f:Nat→Rat):Nat→Rat
 | 0=>c
 | k+1=>zs4 c f k+f k
theorem zK5 {c:Rat} {f g:Nat→Rat}:∀ {k:Nat},(∀ i,i<k→f i≤g i)→zs4 c f k≤zs4 c g k
 | 0,_=>Rat.le_refl
 | k+1,h=>by
  have h1:=zK5 (c:=c) fun i hi=>h i (Nat.lt_succ_of_lt hi)
  have h2:=h k (Nat.lt_succ_self k)
  unfold zs4;grind
namespace Ofr
variable (D:Ofr)
def ea (r i k:Nat):Rat:=D.fc r i*((D.nom i+D.lo i k:Int):Rat)
def eb (r i k:Nat):Rat:=D.fc r i*((D.nom i+D.up i k:Int):Rat)
def sl (r i k:Nat):Rat:=rmin (D.ea r i k) (D.eb r i k)
def su (r i k:Nat):Rat:=rmax (D.ea r i k) (D.eb r i k)
def at_ (l:List Nat) (i:Nat):Nat:=l.getD i 0
def xl (l:List Nat) (r i:Nat):Rat:=if i<l.length then D.sl r i (at_ l i) else bmax (D.sl r i) (D.ol i)
def xu (l:List Nat) (r i:Nat):Rat:=if i<l.length then D.su r i (at_ l i) else bmin (D.su r i) (D.ol i)
def wl (l:List Nat) (r:Nat):Rat:=zs4 (D.cn r) (D.xl l r) D.n
def wu (l:List Nat) (r:Nat):Rat:=zs4 (D.cn r) (D.xu l r) D.n
def ab (l:List Nat) (r:Nat):Bool:=D.hh r&&decide (D.vh r<D.wu l r)
def be (l:List Nat) (r:Nat):Bool:=D.hl r&&decide (D.wl l r<D.vl r)
def bad (l:List Nat) (r:Nat):Bool:=D.ab l r||D.be l r
def ff (l:List Nat):Option Nat:=(List.range D.q).find? (D.bad l)
def side (l:List Nat) (r:Nat):Int:=if D.ab l r then 1 else -1
def ch (i:Nat):Int:=zj8 (D.co i) (D.ol i)
def bc (l:List Nat) (i:Nat):Int:=if i<l.length then D.co i (at_ l i) else D.ch i
def bd (l:List Nat):Int:=zD2 (D.bc l) D.n
def vp (l:List Nat):Prop:=l.length≤D.n∧∀ i,i<l.length→at_ l i<D.ol i
end Ofr
section
variable {D:Ofr} {l m:List Nat} {r i k:Nat}
theorem zG6 (h:i<l.length):Ofr.at_ (l++m) i=Ofr.at_ l i:=by
 unfold Ofr.at_;rw [List.getD_eq_getElem?_getD,List.getD_eq_getElem?_getD,List.getElem?_append_left h]
theorem at_new:Ofr.at_ (l++[k]) l.length=k:=by
 unfold Ofr.at_;rw [List.getD_eq_getElem?_getD,List.getElem?_append_right (Nat.le_refl _)];simp
theorem Ofr.vp.snoc (h:D.vp l) (hn:l.length<D.n) (hk:k<D.ol l.length):D.vp (l++[k]):=by
 refine ⟨by simp;omega,fun i hi=>?_⟩
 simp at hi
 rcases Nat.lt_or_eq_of_le (Nat.le_of_lt_succ hi) with h1 | rfl
 ·rw [zG6 h1];exact h.2 i h1
 rw [at_new];exact hk
theorem xl_app (hm:D.vp (l++m)):D.xl (l++m) r i≤D.xl l r i:=by
 unfold Ofr.xl
 by_cases h:i<l.length
 ·rw [if_pos h,if_pos (by simp;omega),zG6 h];exact Rat.le_refl
 rw [if_neg h]
 split
 ·next h2=>exact zZ5 _ (hm.2 i h2)
 exact Rat.le_refl
theorem xu_app (hm:D.vp (l++m)):D.xu l r i≤D.xu (l++m) r i:=by
 unfold Ofr.xu
 by_cases h:i<l.length
 ·rw [if_pos h,if_pos (by simp;omega),zG6 h];exact Rat.le_refl
 rw [if_neg h]
 split
 ·next h2=>exact zZ6 _ (hm.2 i h2)
 exact Rat.le_refl
theorem bad_app (hm:D.vp (l++m)) (h:D.bad l r=true):D.bad (l++m) r=true:=by
  unfold Ofr.bad Ofr.ab Ofr.be at*
  simp only [Bool.or_eq_true,Bool.and_eq_true,decide_eq_true_eq] at*
  rcases h with ⟨h1,h2⟩ | ⟨h1,h2⟩
  · exact .inl ⟨h1, by have : D.wu l r ≤ D.wu (l ++ m) r := zK5 fun i _ => xu_app hm
                       grind⟩
  exact .inr ⟨h1, by have : D.wl (l ++ m) r ≤ D.wl l r := zK5 fun i _ => xl_app hm
                     grind⟩
theorem zK6 (h:D.ff l=some r):r<D.q∧D.bad l r=true∧∀ j,j<r→D.bad l j=false:=by
 unfold Ofr.ff at h
 have h1:=List.find?_some h
 have h2:=List.mem_of_find?_eq_some h
 refine ⟨List.mem_range.1 h2,h1,fun j hj=>?_⟩
 obtain ⟨_,as1,bs,e,hn⟩:=List.find?_eq_some_iff_append.1 h
 have hlen:as1.length=r:=by
  have:(List.range D.q)[as1.length]?=some r:=by rw [e];simp
  have h3:=(List.getElem?_eq_some_iff.1 this).1
  rw [List.getElem?_range (by simpa using h3)] at this
  exact Option.some.inj this
 have hm:j ∈ as1:=by
  have:(List.range D.q)[j]?=some j:=List.getElem?_range (by have:=List.mem_range.1 h2;omega)
  rw [e,List.getElem?_append_left (by omega)] at this
  exact List.mem_of_getElem? this
 simpa using hn j hm
theorem zZ9 (h:D.ff l=none) (hr:r<D.q):D.bad l r=false:=by
 unfold Ofr.ff at h
 have:=List.find?_eq_none.1 h r (List.mem_range.2 hr)
 simpa using this
theorem ff_eq (hr:r<D.q) (h1:D.bad l r=true) (h2:∀ j,j<r→D.bad l j=false):D.ff l=some r:=by
 cases e:D.ff l with
 | none=>rw [zZ9 e hr] at h1;cases h1
 | some s=>
  obtain ⟨a,b,c⟩:=zK6 e
  rcases Nat.lt_trichotomy r s with h | h | h
  ·rw [c r h] at h1;cases h1
  ·rw [h]
  rw [h2 s h] at b;cases b
theorem ff_no (h:∀ j,j<D.q→D.bad l j=false):D.ff l=none:=by
 cases e:D.ff l with
 | none=>rfl
 | some s=>obtain ⟨a,b,_⟩:=zK6 e;rw [h s a] at b;cases b
theorem ff_app (hm:D.vp (l++m)) (h:(D.ff l).isSome=true):(D.ff (l++m)).isSome=true:=by
 obtain ⟨r,e⟩:=Option.isSome_iff_exists.1 h
 obtain ⟨a,b,_⟩:=zK6 e
 cases e2:D.ff (l++m) with
 | none=>have:=zZ9 e2 a;rw [bad_app hm b] at this;cases this
 | some _=>rfl
theorem bd_app (hm:D.vp (l++m)):D.bd l≤D.bd (l++m):=
 zZ8 fun i _=>by
  unfold Ofr.bc
  by_cases h:i<l.length
  ·rw [if_pos h,if_pos (by simp;omega),zG6 h];exact Int.le_refl _
  rw [if_neg h]
  split
  ·next h2=>exact zZ7 _ (hm.2 i h2)
  exact Int.le_refl _
end
structure Bst where
 ok:Bool
 ch:List Nat
 co:Int
def Ofr.beats (D:Ofr) (s:Bst) (l:List Nat):Bool:=s.ok&&decide (s.co≤D.bd l)
def Ofr.srch (D:Ofr):Nat→List Nat→Bst→Bst
 | 0,_,s=>s
 | g+1,l,s=>if D.beats s l then s else if (D.ff l).isSome then s else if l.length=D.n then ⟨true,l,D.bd l⟩ else (List.range (D.ol l.length)).foldl (fun s k=>D.srch g (l++[k]) s) s
def Ofr.good (D:Ofr) (c:List Nat):Prop:=D.vp c∧c.length=D.n∧(D.ff c).isSome=false
structure Bst.Inv (D:Ofr) (s:Bst):Prop where
 yes:s.ok=true→D.good s.ch∧s.co=D.bd s.ch
 no:s.ok=false→s.ch=[]∧s.co=0
def Bst.le (s t:Bst):Prop:=t.ok=true→s.ok=true∧s.co≤t.co
theorem Bst.le.refl (s:Bst):s.le s:=fun h=>⟨h,Int.le_refl _⟩
theorem Bst.le.trans {s t u:Bst} (h:s.le t) (g:t.le u):s.le u:=fun hu=>by
 obtain ⟨a,b⟩:=g hu
 obtain ⟨c,d⟩:=h a
 exact ⟨c,by omega⟩
theorem ya0 {D:Ofr}:∀ (g:Nat) (l:List Nat) (s:Bst),D.n<l.length+g→D.vp l→s.Inv D→
  (D.srch g l s).Inv D∧(D.srch g l s).le s∧∀ c,D.good (l++c)→(D.srch g l s).ok=true∧(D.srch g l s).co≤D.bd (l++c)
 | 0,l,s,hg,hv,_=>absurd hv.1 (by omega)
 | g+1,l,s,hg,hv,hs=>by
  unfold Ofr.srch
  by_cases h1:D.beats s l=true
  ·rw [if_pos h1]
   refine ⟨hs,.refl s,fun c hc=>?_⟩
   unfold Ofr.beats at h1
   simp only [Bool.and_eq_true,decide_eq_true_eq] at h1
   exact ⟨h1.1,Int.le_trans h1.2 (bd_app hc.1)⟩
  rw [if_neg h1]
  by_cases h2:(D.ff l).isSome=true
  ·rw [if_pos h2]
   refine ⟨hs,.refl s,fun c hc=>?_⟩
   have:=ff_app hc.1 h2
   rw [hc.2.2] at this;cases this
  rw [if_neg h2]
  by_cases h3:l.length=D.n
  ·rw [if_pos h3]
   refine ⟨⟨fun _=>⟨⟨hv,h3,by simpa using h2⟩,rfl⟩,fun h=>by cases h⟩,fun ht=>⟨rfl,?_⟩,fun c hc=>?_⟩
   ·unfold Ofr.beats at h1
    rw [ht] at h1
    simp only [Bool.true_and,decide_eq_true_eq] at h1
    show D.bd l≤s.co
    omega
   obtain rfl:c=[]:=List.eq_nil_of_length_eq_zero (by have:=hc.2.1;simp at this;omega)
   rw [List.append_nil];exact ⟨rfl,Int.le_refl _⟩
  rw [if_neg h3]
  have hl:l.length<D.n:=by have:=hv.1;omega
  have key:∀ K,K≤D.ol l.length→((List.range K).foldl (fun s k=>D.srch g (l++[k]) s) s).Inv D∧((List.range K).foldl (fun s k=>D.srch g (l++[k]) s) s).le s∧
    ∀ k,k<K→∀ c,D.good (l++[k]++c)→((List.range K).foldl (fun s k=>D.srch g (l++[k]) s) s).ok=true∧((List.range K).foldl (fun s k=>D.srch g (l++[k]) s) s).co≤D.bd (l++[k]++c):=by
   intro K
   induction K with
   | zero=>exact fun _=>⟨hs,.refl s,fun k h=>absurd h (Nat.not_lt_zero k)⟩
   | succ K ih=>
    intro hK
    obtain ⟨a1,a2,a3⟩:=ih (by omega)
    rw [List.range_succ,List.foldl_append]
    obtain ⟨b1,b2,b3⟩:=ya0 g (l++[K]) _ (by simp;omega) (hv.snoc hl (by omega)) a1
    refine ⟨b1,b2.trans a2,fun k hk c hc=>?_⟩
    rcases Nat.lt_or_eq_of_le (Nat.le_of_lt_succ hk) with h | rfl
    ·obtain ⟨c1,c2⟩:=a3 k h c hc
     obtain ⟨d1,d2⟩:=b2 c1
     exact ⟨d1,Int.le_trans d2 c2⟩
    exact b3 c hc
  obtain ⟨a1,a2,a3⟩:=key _ (Nat.le_refl _)
  refine ⟨a1,a2,fun c hc=>?_⟩
  match c,hc with
  | [],hc=>have:=hc.2.1;simp at this;omega
  | k::c,hc=>
   have hk:k<D.ol l.length:=by
    have:=hc.1.2 l.length (by simp)
    have e:Ofr.at_ (l++k::c) l.length=k:=by
     unfold Ofr.at_;rw [List.getD_eq_getElem?_getD,List.getElem?_append_right (Nat.le_refl _)];simp
    rwa [e] at this
   have e:l++k::c=l++[k]++c:=by simp
   rw [e] at hc ⊢
   exact a3 k hk c hc
def Ofr.best (D:Ofr):Bst:=D.srch (D.n+1) [] ⟨false,[],0⟩
theorem best_ok (D:Ofr):D.best.Inv D∧∀ c,D.good c→D.best.ok=true∧D.best.co≤D.bd c:=by
 obtain ⟨a,_,b⟩:=ya0 (D:=D) (D.n+1) [] ⟨false,[],0⟩ (by simp) ⟨Nat.zero_le _,fun i h=>by simp at h⟩ ⟨fun h=>(by cases h),fun _=>⟨rfl,rfl⟩⟩
 exact ⟨a,fun c hc=>b c hc⟩
structure Leaf where
 fx:List (Int × Int)
 least:Int
 rq:Int
 du:List (List UInt8)
def pk (l:List Nat):List (Int × Int):=(List.range l.length).map fun i:Nat=>((i:Int),((Ofr.at_ l i:Nat):Int))
def sideT (z:Int):List UInt8:=if z=1 then [49] else [45,49]
def Ofr.leaves (D:Ofr) (s:Bst):Nat→List Nat→List Leaf
 | 0,_=>[]
 | g+1,l=>if D.beats s l then [⟨pk l,D.bd l,-1,[]⟩] else match D.ff l with
  | some r=>[⟨pk l,0,(r:Int),[sideT (D.side l r)]⟩]
  | none=>if l.length=D.n then [] else (List.range (D.ol l.length)).flatMap fun k=>D.leaves s g (l++[k])
def Ofr.proves (D:Ofr) (ok:Bool) (co:Int) (x:Leaf) (l:List Nat):Bool:=
 if x.rq=-1 then x.du.isEmpty&&ok&&decide (x.least=D.bd l)&&decide (co≤x.least)
 else if x.rq<0∨(D.q:Int)≤x.rq∨x.least≠0∨x.du.length≠1 then false
 else (decide (x.du.getD 0 []=[49])&&D.ab l x.rq.toNat)||(decide (x.du.getD 0 []=[45,49])&&D.be l x.rq.toNat)
def Ofr.walk (D:Ofr) (ok:Bool) (co:Int):Nat→List Nat→List Leaf→Bool × List Leaf
 | 0,_,left=>(false,left)
 | _,_,[]=>(false,[])
 | g+1,l,x::left=>if x.fx=pk l then (D.proves ok co x l,left) else if l.length=D.n then (false,x::left) else
   (List.range (D.ol l.length)).foldl (fun (st:Bool × List Leaf) k=>if st.1 then D.walk ok co g (l++[k]) st.2 else st) (true,x::left)
end Go.Proofs.YtjhflekncldflaaGreatDoor
namespace Go.Proofs.YtjhflekncldflaaGreatDoor
section
variable {D:Ofr}
def Ofr.tail (D:Ofr):Ofr:={D with q:=D.q - 1,fc:=fun r=>D.fc (r+1),cn:=fun r=>D.cn (r+1),hl:=fun r=>D.hl (r+1),hh:=fun r=>D.hh (r+1),vl:=fun r=>D.vl (r+1),vh:=fun r=>D.vh (r+1)}
end
section
variable {D:Ofr}
def Ofr.ec (D:Ofr) (r i k:Nat) (b:Bool):Rat:=if b then D.eb r i k else D.ea r i k
def Ofr.cv (D:Ofr) (c:List Nat) (r m:Nat):Rat:=zs4 (D.cn r) (fun i=>D.ec r i (Ofr.at_ c i) (m.testBit i)) D.n
def bits (b:Nat→Bool):Nat→Nat
 | 0=>0
 | k+1=>bits b k+if b k then 2 ^ k else 0
end
end Go.Proofs.YtjhflekncldflaaGreatDoor
namespace Go.Proofs.YtjhflekncldflaaGreatDoor
structure Alo where
 ok:Bool
 ch:List Int
 co:Int
 pf:List Leaf
section
variable (D:Ofr)
def Ofr.inb (l:List Int):Bool:=(List.range l.length).all fun i=>decide (0≤l.getD i 0)&&decide (l.getD i 0<(D.ol i:Int))
def Ofr.pe (l:List Int):Int:=if D.n<l.length then 13 else if D.inb l then 0 else 2
def Ofr.ce (l:List Int):Int:=if l.length≠D.n then 13 else if D.inb l then 0 else 2
def zd5 (l:List Int):List Nat:=l.map Int.toNat
def zt7 (l:List Nat):List Int:=l.map fun k:Nat=>(k:Int)
def Ofr.pe2 (a:Alo):Int:=if (D.walk a.ok a.co (D.n+1) [] a.pf).1=true∧(D.walk a.ok a.co (D.n+1) [] a.pf).2=[] then 0 else 27
def Ofr.ver (a:Alo):Int:=
 if a.ok then if D.ce a.ch≠0 then D.ce a.ch else if a.co≠D.bd (zd5 a.ch) then 17 else if (D.ff (zd5 a.ch)).isSome then 35 else D.pe2 a
 else if a.ch≠[]∨a.co≠0 then 3 else D.pe2 a
end
section
variable {D:Ofr}
theorem zQ0 (l:List Nat):(zt7 l).length=l.length:=by simp [zt7]
theorem ya1 (l:List Nat) (i:Nat):(zt7 l).getD i 0=((Ofr.at_ l i:Nat):Int):=by
 unfold zt7 Ofr.at_
 rw [List.getD_eq_getElem?_getD,List.getD_eq_getElem?_getD,List.getElem?_map]
 cases l[i]?<;>rfl
theorem inb_ints {l:List Nat}:D.inb (zt7 l)=true↔∀ i,i<l.length→Ofr.at_ l i<D.ol i:=by
 unfold Ofr.inb
 rw [List.all_eq_true]
 constructor
 ·intro h i hi
  have:=h i (List.mem_range.2 (by rw [zQ0];exact hi))
  rw [ya1] at this
  simp at this;exact this
 intro h i hi
 have:=h i (by have:=List.mem_range.1 hi;rwa [zQ0] at this)
 rw [ya1]
 simp;exact this
theorem zG7 {l:List Int} (h:D.inb l=true):zt7 (zd5 l)=l:=by
 unfold Ofr.inb at h
 rw [List.all_eq_true] at h
 apply List.ext_getElem?
 intro i
 unfold zt7 zd5
 rw [List.map_map,List.getElem?_map]
 rcases Nat.lt_or_ge i l.length with hi | hi
 ·have:=h i (List.mem_range.2 hi)
  rw [List.getD_eq_getElem?_getD,List.getElem?_eq_getElem hi] at this
  simp at this
  rw [List.getElem?_eq_getElem hi]
  simp;omega
 rw [List.getElem?_eq_none hi];rfl
end
end Go.Proofs.YtjhflekncldflaaGreatDoor
namespace Go.Proofs.YtjhflekncldflaaGreatDoor
open Go.RowKit
def ERw {α:Type} (E:World→α→List Value→Prop) (T:TypeId) (c:Nat) (w:World) (x:List α) (vs:List Value):Prop:=∃ u,vs=[u]∧Sl E T c w u x
theorem za1 {α:Type} {E:World→α→List Value→Prop} {ts:List TypeId} (hS:zo6 E ts) (T:TypeId) (c:Nat):zo6 (ERw E T c) (T::ts):=fun _ _ _ _ hk h=>by
 obtain ⟨u,hu,hs⟩:=h
 exact ⟨u,hu,hs.kts hS hk⟩
end Go.Proofs.YtjhflekncldflaaGreatDoor
namespace Go.Proofs.YtjhflekncldflaaGreatDoor
set_option maxRecDepth 100000
set_option maxHeartbeats 1000000
open Go.RowKit

theorem add_tt {k m:Nat} {u0 u1 u2 u3 v0 v1 v2 v3:Value} {a b:Rat} {w:World} (ha:IsRat w k u0 u1 u2 u3 a) (hb:IsRat w m v0 v1 v2 v3 b) (_hk:k+m≤100000) (wa:a.den=1) (wb:b.den=1):
    Calls Tryz.prog 80 #[.agg #[u0,u1,u2,u3],.agg #[v0,v1,v2,v3]] w fun e w'=>(∃ c0 c1 c2 c3,e=.returned (.agg #[c0,c1,c2,c3])∧IsRat w' (k+m+1) c0 c1 c2 c3 (a+b))∧Gr w w':=by
 have hka:=ha.big
 have hkb:=hb.big
 go_enter Tryz.func80,Tryz.ntmps80
 have hB:=Gr.refl w
 refine wp_seq_k (fun K1 k1=>rg [0,1,2] ?_)
 refine se ?_
 refine eb 62 #[u0,u1,u2,u3] 2 hB fun b2 w2 g2 L2 o2 q2 hB=>?_
 simp only [p3,p4]
 refine se ?_
 refine eb 62 #[v0,v1,v2,v3] 3 hB fun b3 w3 g3 L3 o3 q3 hB=>?_
 simp only [p3,p4]
 refine se ?_
 refine ea 62 #[.bool false,sN,.bool false,sN] 4 hB fun b4 w4 g4 L4 o4 q4 hB=>?_
 replace L2:=L2.gr g3
 simp only [p3,p4]
 refine za0 (k1 _ _ ?_)
 refine wp_seq_k (fun K5 k5=>wp_seq_k (fun K6 k6=>rg [0,1,2,3,4,5] ?_))
 replace L2:=L2.gr g4
 refine sw 5 (.agg #[u0,u1,u2,u3]) rfl (rl 62 0 [u0,u1,u2,u3] L2) ?_
 refine se ?_
 have aj:=g2.kp.trans (g3.kp.trans g4.kp)
 replace ha:=ha.kp aj
 refine ec 6 (zk5 ha (by omega) wa) ?_
 rintro e7 w7 ⟨rfl,g7⟩
 refine ⟨_,rfl,?_⟩
 replace hB:=hB.trans g7
 simp only [p3,p4]
 refine sv 7 (.bool true) ?_
 replace L3:=L3.gr (g4.trans g7)
 refine sw 8 (.agg #[v0,v1,v2,v3]) rfl (rl 62 0 [v0,v1,v2,v3] L3) ?_
 refine se ?_
 have ae:=g2.kp.trans (g3.kp.trans (g4.kp.trans g7.kp))
 replace hb:=hb.kp ae
 refine ec 9 (zk5 hb (by omega) wb) ?_
 rintro e9 w9 ⟨rfl,g9⟩
 refine ⟨_,rfl,?_⟩
 replace hB:=hB.trans g9
 simp only [p3,p4]
 refine sv 10 (.bool true) (za0 (k6 _ _ ?_))
 refine wp_cond_true rfl ?_
 refine wp_seq_k (fun ar ak=>rg [0,1,2,3,4,5,6] (sv 11 (pT b2 0) ?_))
 replace L2:=L2.gr (g7.trans g9)
 refine sw 12 (.agg #[u0,u1]) rfl (rl 60 0 [u0,u1] L2) ?_
 refine sv 13 (pT b3 0) ?_
 replace L3:=L3.gr g9
 refine sw 14 (.agg #[v0,v1]) rfl (rl 60 0 [v0,v1] L3) ?_
 refine se ?_
 have ah:=g7.kp.trans g9.kp
 replace ha:=ha.kp ah
 replace hb:=hb.kp g9.kp
 refine ec 15 (add_e (k+m) ha.num hb.num (by omega) (by omega) (by omega)) ?_
 rintro aq ap ⟨⟨aa,ad,rfl,ac⟩,ai⟩
 refine ⟨_,rfl,?_⟩
 replace hB:=hB.trans ai
 simp only [p3,p4]
 refine sv 16 (.agg #[aa,ad,.bool false,sN]) ?_
 refine se ?_
 replace L4:=L4.gr (g7.trans (g9.trans ai))
 refine es 62 0 (.agg #[aa,ad,.bool false,sN]) [aa,ad,.bool false,sN] #[aa,ad,.bool false,sN] L4 hB q4 ⟨ac.one0,ac.one1,rfl,rfl,trivial⟩ fun au al af L4 hB=>?_
 refine za0 (ak _ _ ?_)
 refine wp_ret ?_
 simp only [Exit.then]
 refine bodyPost_ret (v:=(.agg #[aa,ad,.bool false,sN])) (zc8 _ _ _ rfl rfl L4 (by kernel_rfl)) rfl ⟨?_,hB⟩
 replace ac:=ac.kp af
 exact ⟨_,_,_,_,rfl,by rw [← zz1 wa,← zz1 wb,← Rat.intCast_add];exact IsRat.int ac (by omega)⟩

theorem add_tf {k m:Nat} {u0 u1 u2 u3 v0 v1 v2 v3:Value} {a b:Rat} {w:World} (ha:IsRat w k u0 u1 u2 u3 a) (hb:IsRat w m v0 v1 v2 v3 b) (_hk:k+m≤100000) (wa:a.den=1) (wb:b.den≠1):
    Calls Tryz.prog 80 #[.agg #[u0,u1,u2,u3],.agg #[v0,v1,v2,v3]] w fun e w'=>(∃ c0 c1 c2 c3,e=.returned (.agg #[c0,c1,c2,c3])∧IsRat w' (k+m+1) c0 c1 c2 c3 (a+b))∧Gr w w':=by
 have hka:=ha.big
 have hkb:=hb.big
 go_enter Tryz.func80,Tryz.ntmps80
 have hB:=Gr.refl w
 refine wp_seq_k (fun K1 k1=>rg [0,1,2] ?_)
 refine se ?_
 refine eb 62 #[u0,u1,u2,u3] 2 hB fun b2 w2 g2 L2 o2 q2 hB=>?_
 simp only [p3,p4]
 refine se ?_
 refine eb 62 #[v0,v1,v2,v3] 3 hB fun b3 w3 g3 L3 o3 q3 hB=>?_
 simp only [p3,p4]
 refine se ?_
 refine ea 62 #[.bool false,sN,.bool false,sN] 4 hB fun b4 w4 g4 L4 o4 q4 hB=>?_
 replace L2:=L2.gr g3
 have ar:=L2.ne o4
 have al:=L3.ne o4
 simp only [p3,p4]
 refine za0 (k1 _ _ ?_)
 refine wp_seq_k (fun K5 k5=>wp_seq_k (fun K6 k6=>rg [0,1,2,3,4,5] ?_))
 replace L2:=L2.gr g4
 refine sw 5 (.agg #[u0,u1,u2,u3]) rfl (rl 62 0 [u0,u1,u2,u3] L2) ?_
 refine se ?_
 have aL:=g2.kp.trans (g3.kp.trans g4.kp)
 replace ha:=ha.kp aL
 refine ec 6 (zk5 ha (by omega) wa) ?_
 rintro e7 w7 ⟨rfl,g7⟩
 refine ⟨_,rfl,?_⟩
 replace hB:=hB.trans g7
 simp only [p3,p4]
 refine sv 7 (.bool true) ?_
 replace L3:=L3.gr (g4.trans g7)
 refine sw 8 (.agg #[v0,v1,v2,v3]) rfl (rl 62 0 [v0,v1,v2,v3] L3) ?_
 refine se ?_
 have aD:=g2.kp.trans (g3.kp.trans (g4.kp.trans g7.kp))
 replace hb:=hb.kp aD
 refine ec 9 (zp8 hb (by omega) wb) ?_
 rintro e9 w9 ⟨rfl,g9⟩
 refine ⟨_,rfl,?_⟩
 replace hB:=hB.trans g9
 simp only [p3,p4]
 refine sv 10 (.bool false) (za0 (k6 _ _ ?_))
 refine wp_cond_false rfl ?_
 refine wp_skip ?_
 refine k5 _ _ ?_
 refine wp_seq_k (fun a6 aQ=>?_)
 have aa:=Gr.drew w9
 replace hB:=hB.trans aa
 replace L2:=L2.gr (g7.trans (g9.trans aa))
 replace L3:=L3.gr (g9.trans aa)
 refine za5 (fun w'=>Lc w' b2 #[u0,u1,u2,u3] 62∧Lc w' b3 #[v0,v1,v2,v3] 62) [(true,0),(true,1),(true,2),(true,5),(true,6),(true,7),(true,11),(true,13),(false,3),(false,4),(false,8),(false,9),(false,10),(false,12),(false,14),(false,15),(false,16),(false,17)] (by kernel_rfl) (by kernel_rfl) (by kernel_rfl) (by decide) (fun _ _ _ _ _ h=>h) ⟨L2,L3⟩ ?_
 refine ov 17 (pT b2 0) ?_
 refine ow 18 (.agg #[u0,u1]) rfl (fun w' hS=>(rl 60 0 [u0,u1] hS.1)) ?_
 refine ow 19 (.agg #[v0,v1,v2,v3]) rfl (fun w' hS=>(rl 62 0 [v0,v1,v2,v3] hS.2)) ?_
 refine ov 22 (pT b3 0) ?_
 refine ow 23 (.agg #[v0,v1]) rfl (fun w' hS=>(rl 60 0 [v0,v1] hS.2)) ?_
 refine ow 24 (.agg #[u0,u1,u2,u3]) rfl (fun w' hS=>(rl 62 0 [u0,u1,u2,u3] hS.1)) ?_
 refine ow 28 (.agg #[u0,u1,u2,u3]) rfl (fun w' hS=>(rl 62 0 [u0,u1,u2,u3] hS.1)) ?_
 refine ow 30 (.agg #[v0,v1,v2,v3]) rfl (fun w' hS=>(rl 62 0 [v0,v1,v2,v3] hS.2)) ?_
 refine oe ?_
 have aH:=g9.kp.trans aa.kp
 replace hb:=hb.kp aH
 refine ec 20 (zo2 hb) ?_
 rintro a8 br ⟨⟨bl,bt,rfl,aP⟩,ai⟩
 refine ⟨_,rfl,?_⟩
 replace hB:=hB.trans ai
 replace L2:=L2.gr ai
 replace L3:=L3.gr ai
 refine ⟨⟨L2,L3⟩,?_⟩
 simp only [p3,p4]
 refine oe ?_
 have aB:=g7.kp.trans (g9.kp.trans (aa.kp.trans ai.kp))
 replace ha:=ha.kp aB
 refine ec 21 (zp4 ha.num aP (by omega)) ?_
 rintro aX ba ⟨⟨aW,bq,rfl,aG⟩,ak⟩
 refine ⟨_,rfl,?_⟩
 replace hB:=hB.trans ak
 replace L2:=L2.gr ak
 replace L3:=L3.gr ak
 refine ⟨⟨L2,L3⟩,?_⟩
 simp only [p3,p4]
 refine oe ?_
 replace ha:=ha.kp ak.kp
 refine ec 25 (zo2 ha) ?_
 rintro aV bb ⟨⟨bm,a5,rfl,aR⟩,ad⟩
 refine ⟨_,rfl,?_⟩
 replace hB:=hB.trans ad
 replace L2:=L2.gr ad
 replace L3:=L3.gr ad
 refine ⟨⟨L2,L3⟩,?_⟩
 simp only [p3,p4]
 refine oe ?_
 have az:=ai.kp.trans (ak.kp.trans ad.kp)
 replace hb:=hb.kp az
 refine ec 26 (zp4 hb.num aR (by omega)) ?_
 rintro a7 bi ⟨⟨bh,a9,rfl,aO⟩,ac⟩
 refine ⟨_,rfl,?_⟩
 replace hB:=hB.trans ac
 replace L2:=L2.gr ac
 replace L3:=L3.gr ac
 refine ⟨⟨L2,L3⟩,?_⟩
 simp only [p3,p4]
 refine oe ?_
 have aC:=ad.kp.trans ac.kp
 replace aG:=aG.kp aC
 refine ec 27 (add_e (k+m) aG aO (by omega) (by omega) (by omega)) ?_
 rintro a3 bj ⟨⟨a2,aU,rfl,aA⟩,ah⟩
 refine ⟨_,rfl,?_⟩
 replace hB:=hB.trans ah
 replace L2:=L2.gr ah
 replace L3:=L3.gr ah
 refine ⟨⟨L2,L3⟩,?_⟩
 simp only [p3,p4]
 refine oe ?_
 have aF:=ad.kp.trans (ac.kp.trans ah.kp)
 replace ha:=ha.kp aF
 refine ec 29 (zo2 ha) ?_
 rintro aS bk ⟨⟨bg,aZ,rfl,aI⟩,af⟩
 refine ⟨_,rfl,?_⟩
 replace hB:=hB.trans af
 replace L2:=L2.gr af
 replace L3:=L3.gr af
 refine ⟨⟨L2,L3⟩,?_⟩
 simp only [p3,p4]
 refine oe ?_
 have aE:=ac.kp.trans (ah.kp.trans af.kp)
 replace hb:=hb.kp aE
 refine ec 31 (zo2 hb) ?_
 rintro a4 a0 ⟨⟨aT,a1,rfl,aN⟩,aj⟩
 refine ⟨_,rfl,?_⟩
 replace hB:=hB.trans aj
 replace L2:=L2.gr aj
 replace L3:=L3.gr aj
 refine ⟨⟨L2,L3⟩,?_⟩
 simp only [p3,p4]
 refine oe ?_
 replace aI:=aI.kp aj.kp
 refine ec 32 (zp4 aI aN (by omega)) ?_
 rintro bn aY ⟨⟨bu,bo,rfl,aM⟩,aq⟩
 refine ⟨_,rfl,?_⟩
 replace hB:=hB.trans aq
 replace L2:=L2.gr aq
 replace L3:=L3.gr aq
 refine ⟨⟨L2,L3⟩,?_⟩
 simp only [p3,p4]
 refine oe ?_
 have aJ:=af.kp.trans (aj.kp.trans aq.kp)
 replace aA:=aA.kp aJ
 refine ec 33 (zr7 (k+m+1) aA aM (Int.mul_pos (Int.natCast_pos.2 a.den_pos) (Int.natCast_pos.2 b.den_pos)) (by omega) (by omega) (by omega) (by omega)) ?_
 rintro bs bf ⟨⟨au,aw,ax,av,rfl,ae⟩,ay⟩
 refine ⟨_,rfl,?_⟩
 replace hB:=hB.trans ay
 replace L2:=L2.gr ay
 replace L3:=L3.gr ay
 refine ⟨⟨L2,L3⟩,?_⟩
 simp only [p3,p4]
 refine oe ?_
 replace L4:=L4.gr (g7.trans (g9.trans (aa.trans (ai.trans (ak.trans (ad.trans (ac.trans (ah.trans (af.trans (aj.trans (aq.trans ay)))))))))))
 refine es 62 0 (.agg #[au,aw,ax,av]) [au,aw,ax,av] #[au,aw,ax,av] L4 hB q4 ⟨ae.one0,ae.one1,ae.one2,ae.one3,trivial⟩ fun bp ap aK L4 hB=>?_
 replace L2:=ap.lc L2 ar
 replace L3:=ap.lc L3 al
 refine ⟨⟨L2,L3⟩,?_⟩
 refine zb4 ?_
 refine aQ _ _ ?_
 refine wp_ret ?_
 refine bodyPost_ret (v:=(.agg #[au,aw,ax,av])) (zc8 _ _ _ rfl rfl L4 (by kernel_rfl)) rfl ⟨?_,hB⟩
 replace ae:=ae.kp aK
 exact ⟨_,_,_,_,rfl,by rw [← yc2];exact ae⟩

theorem add_f {k m:Nat} {u0 u1 u2 u3 v0 v1 v2 v3:Value} {a b:Rat} {w:World} (ha:IsRat w k u0 u1 u2 u3 a) (hb:IsRat w m v0 v1 v2 v3 b) (_hk:k+m≤100000) (wa:a.den≠1):
    Calls Tryz.prog 80 #[.agg #[u0,u1,u2,u3],.agg #[v0,v1,v2,v3]] w fun e w'=>(∃ c0 c1 c2 c3,e=.returned (.agg #[c0,c1,c2,c3])∧IsRat w' (k+m+1) c0 c1 c2 c3 (a+b))∧Gr w w':=by
 have hka:=ha.big
 have hkb:=hb.big
 go_enter Tryz.func80,Tryz.ntmps80
 have hB:=Gr.refl w
 refine wp_seq_k (fun K1 k1=>rg [0,1,2] ?_)
 refine se ?_
 refine eb 62 #[u0,u1,u2,u3] 2 hB fun b2 w2 g2 L2 o2 q2 hB=>?_
 simp only [p3,p4]
 refine se ?_
 refine eb 62 #[v0,v1,v2,v3] 3 hB fun b3 w3 g3 L3 o3 q3 hB=>?_
 simp only [p3,p4]
 refine se ?_
 refine ea 62 #[.bool false,sN,.bool false,sN] 4 hB fun b4 w4 g4 L4 o4 q4 hB=>?_
 replace L2:=L2.gr g3
 have aq:=L2.ne o4
 have al:=L3.ne o4
 simp only [p3,p4]
 refine za0 (k1 _ _ ?_)
 refine wp_seq_k (fun K5 k5=>wp_seq_k (fun K6 k6=>rg [0,1,2,3,4,5] ?_))
 replace L2:=L2.gr g4
 refine sw 5 (.agg #[u0,u1,u2,u3]) rfl (rl 62 0 [u0,u1,u2,u3] L2) ?_
 refine se ?_
 have aL:=g2.kp.trans (g3.kp.trans g4.kp)
 replace ha:=ha.kp aL
 refine ec 6 (zp8 ha (by omega) wa) ?_
 rintro e7 w7 ⟨rfl,g7⟩
 refine ⟨_,rfl,?_⟩
 replace hB:=hB.trans g7
 simp only [p3,p4]
 refine sv 7 (.bool false) ?_
 refine ss 8 ?_
 refine ss 9 ?_
 refine sv 10 (.bool false) (za0 (k6 _ _ ?_))
 refine wp_cond_false rfl ?_
 refine wp_skip ?_
 refine k5 _ _ ?_
 refine wp_seq_k (fun K9 k9=>?_)
 have aa:=Gr.drew w7
 replace hB:=hB.trans aa
 replace L2:=L2.gr (g7.trans aa)
 replace L3:=L3.gr (g4.trans (g7.trans aa))
 refine za5 (fun w'=>Lc w' b2 #[u0,u1,u2,u3] 62∧Lc w' b3 #[v0,v1,v2,v3] 62) [(true,0),(true,1),(true,2),(true,5),(true,6),(true,7),(true,11),(true,13),(false,3),(false,4),(false,8),(false,9),(false,10),(false,12),(false,14),(false,15),(false,16),(false,17)] (by kernel_rfl) (by kernel_rfl) (by kernel_rfl) (by decide) (fun _ _ _ _ _ h=>h) ⟨L2,L3⟩ ?_
 refine ov 17 (pT b2 0) ?_
 refine ow 18 (.agg #[u0,u1]) rfl (fun w' hS=>(rl 60 0 [u0,u1] hS.1)) ?_
 refine ow 19 (.agg #[v0,v1,v2,v3]) rfl (fun w' hS=>(rl 62 0 [v0,v1,v2,v3] hS.2)) ?_
 refine ov 22 (pT b3 0) ?_
 refine ow 23 (.agg #[v0,v1]) rfl (fun w' hS=>(rl 60 0 [v0,v1] hS.2)) ?_
 refine ow 24 (.agg #[u0,u1,u2,u3]) rfl (fun w' hS=>(rl 62 0 [u0,u1,u2,u3] hS.1)) ?_
 refine ow 28 (.agg #[u0,u1,u2,u3]) rfl (fun w' hS=>(rl 62 0 [u0,u1,u2,u3] hS.1)) ?_
 refine ow 30 (.agg #[v0,v1,v2,v3]) rfl (fun w' hS=>(rl 62 0 [v0,v1,v2,v3] hS.2)) ?_
 refine oe ?_
 have aI:=g2.kp.trans (g3.kp.trans (g4.kp.trans (g7.kp.trans aa.kp)))
 replace hb:=hb.kp aI
 refine ec 20 (zo2 hb) ?_
 rintro a4 aX ⟨⟨aR,a9,rfl,aN⟩,ai⟩
 refine ⟨_,rfl,?_⟩
 replace hB:=hB.trans ai
 replace L2:=L2.gr ai
 replace L3:=L3.gr ai
 refine ⟨⟨L2,L3⟩,?_⟩
 simp only [p3,p4]
 refine oe ?_
 have aC:=g7.kp.trans (aa.kp.trans ai.kp)
 replace ha:=ha.kp aC
 refine ec 21 (zp4 ha.num aN (by omega)) ?_
 rintro bh a3 ⟨⟨bp,aU,rfl,aJ⟩,af⟩
 refine ⟨_,rfl,?_⟩
 replace hB:=hB.trans af
 replace L2:=L2.gr af
 replace L3:=L3.gr af
 refine ⟨⟨L2,L3⟩,?_⟩
 simp only [p3,p4]
 refine oe ?_
 replace ha:=ha.kp af.kp
 refine ec 25 (zo2 ha) ?_
 rintro bi bb ⟨⟨aT,a0,rfl,aK⟩,ae⟩
 refine ⟨_,rfl,?_⟩
 replace hB:=hB.trans ae
 replace L2:=L2.gr ae
 replace L3:=L3.gr ae
 refine ⟨⟨L2,L3⟩,?_⟩
 simp only [p3,p4]
 refine oe ?_
 have aF:=ai.kp.trans (af.kp.trans ae.kp)
 replace hb:=hb.kp aF
 refine ec 26 (zp4 hb.num aK (by omega)) ?_
 rintro aW bj ⟨⟨bn,a5,rfl,aP⟩,ad⟩
 refine ⟨_,rfl,?_⟩
 replace hB:=hB.trans ad
 replace L2:=L2.gr ad
 replace L3:=L3.gr ad
 refine ⟨⟨L2,L3⟩,?_⟩
 simp only [p3,p4]
 refine oe ?_
 have aE:=ae.kp.trans ad.kp
 replace aJ:=aJ.kp aE
 refine ec 27 (add_e (k+m) aJ aP (by omega) (by omega) (by omega)) ?_
 rintro a7 bk ⟨⟨a8,bl,rfl,aA⟩,ah⟩
 refine ⟨_,rfl,?_⟩
 replace hB:=hB.trans ah
 replace L2:=L2.gr ah
 replace L3:=L3.gr ah
 refine ⟨⟨L2,L3⟩,?_⟩
 simp only [p3,p4]
 refine oe ?_
 have aB:=ae.kp.trans (ad.kp.trans ah.kp)
 replace ha:=ha.kp aB
 refine ec 29 (zo2 ha) ?_
 rintro aZ aQ ⟨⟨a2,bf,rfl,aD⟩,aj⟩
 refine ⟨_,rfl,?_⟩
 replace hB:=hB.trans aj
 replace L2:=L2.gr aj
 replace L3:=L3.gr aj
 refine ⟨⟨L2,L3⟩,?_⟩
 simp only [p3,p4]
 refine oe ?_
 have aG:=ad.kp.trans (ah.kp.trans aj.kp)
 replace hb:=hb.kp aG
 refine ec 31 (zo2 hb) ?_
 rintro br aS ⟨⟨a6,bm,rfl,aO⟩,ak⟩
 refine ⟨_,rfl,?_⟩
 replace hB:=hB.trans ak
 replace L2:=L2.gr ak
 replace L3:=L3.gr ak
 refine ⟨⟨L2,L3⟩,?_⟩
 simp only [p3,p4]
 refine oe ?_
 replace aD:=aD.kp ak.kp
 refine ec 32 (zp4 aD aO (by omega)) ?_
 rintro a1 bg ⟨⟨ba,bq,rfl,aM⟩,ap⟩
 refine ⟨_,rfl,?_⟩
 replace hB:=hB.trans ap
 replace L2:=L2.gr ap
 replace L3:=L3.gr ap
 refine ⟨⟨L2,L3⟩,?_⟩
 simp only [p3,p4]
 refine oe ?_
 have aH:=aj.kp.trans (ak.kp.trans ap.kp)
 replace aA:=aA.kp aH
 refine ec 33 (zr7 (k+m+1) aA aM (Int.mul_pos (Int.natCast_pos.2 a.den_pos) (Int.natCast_pos.2 b.den_pos)) (by omega) (by omega) (by omega) (by omega)) ?_
 rintro bo aY ⟨⟨au,ay,aw,ax,rfl,ac⟩,av⟩
 refine ⟨_,rfl,?_⟩
 replace hB:=hB.trans av
 replace L2:=L2.gr av
 replace L3:=L3.gr av
 refine ⟨⟨L2,L3⟩,?_⟩
 simp only [p3,p4]
 refine oe ?_
 replace L4:=L4.gr (g7.trans (aa.trans (ai.trans (af.trans (ae.trans (ad.trans (ah.trans (aj.trans (ak.trans (ap.trans av))))))))))
 refine es 62 0 (.agg #[au,ay,aw,ax]) [au,ay,aw,ax] #[au,ay,aw,ax] L4 hB q4 ⟨ac.one0,ac.one1,ac.one2,ac.one3,trivial⟩ fun aV ar az L4 hB=>?_
 replace L2:=ar.lc L2 aq
 replace L3:=ar.lc L3 al
 refine ⟨⟨L2,L3⟩,?_⟩
 refine zb4 ?_
 refine k9 _ _ ?_
 refine wp_ret ?_
 refine bodyPost_ret (v:=(.agg #[au,ay,aw,ax])) (zc8 _ _ _ rfl rfl L4 (by kernel_rfl)) rfl ⟨?_,hB⟩
 replace ac:=ac.kp az
 exact ⟨_,_,_,_,rfl,by rw [← yc2];exact ac⟩

theorem zG3 {k m:Nat} {u0 u1 u2 u3 v0 v1 v2 v3:Value} {a b:Rat} {w:World} (ha:IsRat w k u0 u1 u2 u3 a) (hb:IsRat w m v0 v1 v2 v3 b) (hk:k+m≤100000):
  Calls Tryz.prog 80 #[.agg #[u0,u1,u2,u3],.agg #[v0,v1,v2,v3]] w fun e w'=>(∃ c0 c1 c2 c3,e=.returned (.agg #[c0,c1,c2,c3])∧IsRat w' (k+m+1) c0 c1 c2 c3 (a+b))∧Gr w w':=by
 by_cases wa:a.den=1
 ·by_cases wb:b.den=1
  ·exact add_tt ha hb hk wa wb
  exact add_tf ha hb hk wa wb
 exact add_f ha hb hk wa

theorem mul_tt {k m:Nat} {u0 u1 u2 u3 v0 v1 v2 v3:Value} {a b:Rat} {w:World} (ha:IsRat w k u0 u1 u2 u3 a) (hb:IsRat w m v0 v1 v2 v3 b) (_hk:k+m≤100000) (wa:a.den=1) (wb:b.den=1):
    Calls Tryz.prog 79 #[.agg #[u0,u1,u2,u3],.agg #[v0,v1,v2,v3]] w fun e w'=>(∃ c0 c1 c2 c3,e=.returned (.agg #[c0,c1,c2,c3])∧IsRat w' (k+m) c0 c1 c2 c3 (a*b))∧Gr w w':=by
 have hka:=ha.big
 have hkb:=hb.big
 go_enter Tryz.func79,Tryz.ntmps79
 have hB:=Gr.refl w
 refine wp_seq_k (fun K1 k1=>rg [0,1,2] ?_)
 refine se ?_
 refine eb 62 #[u0,u1,u2,u3] 2 hB fun b2 w2 g2 L2 o2 q2 hB=>?_
 simp only [p3,p4]
 refine se ?_
 refine eb 62 #[v0,v1,v2,v3] 3 hB fun b3 w3 g3 L3 o3 q3 hB=>?_
 simp only [p3,p4]
 refine se ?_
 refine ea 62 #[.bool false,sN,.bool false,sN] 4 hB fun b4 w4 g4 L4 o4 q4 hB=>?_
 replace L2:=L2.gr g3
 simp only [p3,p4]
 refine za0 (k1 _ _ ?_)
 refine wp_seq_k (fun K5 k5=>wp_seq_k (fun K6 k6=>rg [0,1,2,3,4,5] ?_))
 replace L2:=L2.gr g4
 refine sw 5 (.agg #[u0,u1,u2,u3]) rfl (rl 62 0 [u0,u1,u2,u3] L2) ?_
 refine se ?_
 have aj:=g2.kp.trans (g3.kp.trans g4.kp)
 replace ha:=ha.kp aj
 refine ec 6 (zk5 ha (by omega) wa) ?_
 rintro e7 w7 ⟨rfl,g7⟩
 refine ⟨_,rfl,?_⟩
 replace hB:=hB.trans g7
 simp only [p3,p4]
 refine sv 7 (.bool true) ?_
 replace L3:=L3.gr (g4.trans g7)
 refine sw 8 (.agg #[v0,v1,v2,v3]) rfl (rl 62 0 [v0,v1,v2,v3] L3) ?_
 refine se ?_
 have ae:=g2.kp.trans (g3.kp.trans (g4.kp.trans g7.kp))
 replace hb:=hb.kp ae
 refine ec 9 (zk5 hb (by omega) wb) ?_
 rintro e9 w9 ⟨rfl,g9⟩
 refine ⟨_,rfl,?_⟩
 replace hB:=hB.trans g9
 simp only [p3,p4]
 refine sv 10 (.bool true) (za0 (k6 _ _ ?_))
 refine wp_cond_true rfl ?_
 refine wp_seq_k (fun ar ak=>rg [0,1,2,3,4,5,6] (sv 11 (pT b2 0) ?_))
 replace L2:=L2.gr (g7.trans g9)
 refine sw 12 (.agg #[u0,u1]) rfl (rl 60 0 [u0,u1] L2) ?_
 refine sv 13 (pT b3 0) ?_
 replace L3:=L3.gr g9
 refine sw 14 (.agg #[v0,v1]) rfl (rl 60 0 [v0,v1] L3) ?_
 refine se ?_
 have ah:=g7.kp.trans g9.kp
 replace ha:=ha.kp ah
 replace hb:=hb.kp g9.kp
 refine ec 15 (zp4 ha.num hb.num (by omega)) ?_
 rintro aq ap ⟨⟨aa,ad,rfl,ac⟩,ai⟩
 refine ⟨_,rfl,?_⟩
 replace hB:=hB.trans ai
 simp only [p3,p4]
 refine sv 16 (.agg #[aa,ad,.bool false,sN]) ?_
 refine se ?_
 replace L4:=L4.gr (g7.trans (g9.trans ai))
 refine es 62 0 (.agg #[aa,ad,.bool false,sN]) [aa,ad,.bool false,sN] #[aa,ad,.bool false,sN] L4 hB q4 ⟨ac.one0,ac.one1,rfl,rfl,trivial⟩ fun au al af L4 hB=>?_
 refine za0 (ak _ _ ?_)
 refine wp_ret ?_
 simp only [Exit.then]
 refine bodyPost_ret (v:=(.agg #[aa,ad,.bool false,sN])) (zc8 _ _ _ rfl rfl L4 (by kernel_rfl)) rfl ⟨?_,hB⟩
 replace ac:=ac.kp af
 exact ⟨_,_,_,_,rfl,by rw [← zz1 wa,← zz1 wb,← Rat.intCast_mul];exact IsRat.int ac (by omega)⟩

theorem mul_tf {k m:Nat} {u0 u1 u2 u3 v0 v1 v2 v3:Value} {a b:Rat} {w:World} (ha:IsRat w k u0 u1 u2 u3 a) (hb:IsRat w m v0 v1 v2 v3 b) (_hk:k+m≤100000) (wa:a.den=1) (wb:b.den≠1):
    Calls Tryz.prog 79 #[.agg #[u0,u1,u2,u3],.agg #[v0,v1,v2,v3]] w fun e w'=>(∃ c0 c1 c2 c3,e=.returned (.agg #[c0,c1,c2,c3])∧IsRat w' (k+m) c0 c1 c2 c3 (a*b))∧Gr w w':=by
 have hka:=ha.big
 have hkb:=hb.big
 go_enter Tryz.func79,Tryz.ntmps79
 have hB:=Gr.refl w
 refine wp_seq_k (fun K1 k1=>rg [0,1,2] ?_)
 refine se ?_
 refine eb 62 #[u0,u1,u2,u3] 2 hB fun b2 w2 g2 L2 o2 q2 hB=>?_
 simp only [p3,p4]
 refine se ?_
 refine eb 62 #[v0,v1,v2,v3] 3 hB fun b3 w3 g3 L3 o3 q3 hB=>?_
 simp only [p3,p4]
 refine se ?_
 refine ea 62 #[.bool false,sN,.bool false,sN] 4 hB fun b4 w4 g4 L4 o4 q4 hB=>?_
 replace L2:=L2.gr g3
 have ak:=L2.ne o4
 have ah:=L3.ne o4
 simp only [p3,p4]
 refine za0 (k1 _ _ ?_)
 refine wp_seq_k (fun K5 k5=>wp_seq_k (fun K6 k6=>rg [0,1,2,3,4,5] ?_))
 replace L2:=L2.gr g4
 refine sw 5 (.agg #[u0,u1,u2,u3]) rfl (rl 62 0 [u0,u1,u2,u3] L2) ?_
 refine se ?_
 have aD:=g2.kp.trans (g3.kp.trans g4.kp)
 replace ha:=ha.kp aD
 refine ec 6 (zk5 ha (by omega) wa) ?_
 rintro e7 w7 ⟨rfl,g7⟩
 refine ⟨_,rfl,?_⟩
 replace hB:=hB.trans g7
 simp only [p3,p4]
 refine sv 7 (.bool true) ?_
 replace L3:=L3.gr (g4.trans g7)
 refine sw 8 (.agg #[v0,v1,v2,v3]) rfl (rl 62 0 [v0,v1,v2,v3] L3) ?_
 refine se ?_
 have ax:=g2.kp.trans (g3.kp.trans (g4.kp.trans g7.kp))
 replace hb:=hb.kp ax
 refine ec 9 (zp8 hb (by omega) wb) ?_
 rintro e9 w9 ⟨rfl,g9⟩
 refine ⟨_,rfl,?_⟩
 replace hB:=hB.trans g9
 simp only [p3,p4]
 refine sv 10 (.bool false) (za0 (k6 _ _ ?_))
 refine wp_cond_false rfl ?_
 refine wp_skip ?_
 refine k5 _ _ ?_
 refine wp_seq_k (fun aQ aF=>?_)
 have aa:=Gr.drew w9
 replace hB:=hB.trans aa
 replace L2:=L2.gr (g7.trans (g9.trans aa))
 replace L3:=L3.gr (g9.trans aa)
 refine za5 (fun w'=>Lc w' b2 #[u0,u1,u2,u3] 62∧Lc w' b3 #[v0,v1,v2,v3] 62) [(true,0),(true,1),(true,2),(true,3),(true,5),(true,7),(false,4),(false,6),(false,8),(false,9),(false,10),(false,11)] (by kernel_rfl) (by kernel_rfl) (by kernel_rfl) (by decide) (fun _ _ _ _ _ h=>h) ⟨L2,L3⟩ ?_
 refine ov 17 (pT b2 0) ?_
 refine ow 18 (.agg #[u0,u1]) rfl (fun w' hS=>(rl 60 0 [u0,u1] hS.1)) ?_
 refine ov 19 (pT b3 0) ?_
 refine ow 20 (.agg #[v0,v1]) rfl (fun w' hS=>(rl 60 0 [v0,v1] hS.2)) ?_
 refine ow 22 (.agg #[u0,u1,u2,u3]) rfl (fun w' hS=>(rl 62 0 [u0,u1,u2,u3] hS.1)) ?_
 refine ow 24 (.agg #[v0,v1,v2,v3]) rfl (fun w' hS=>(rl 62 0 [v0,v1,v2,v3] hS.2)) ?_
 refine oe ?_
 have aw:=g7.kp.trans (g9.kp.trans aa.kp)
 replace ha:=ha.kp aw
 have av:=g9.kp.trans aa.kp
 replace hb:=hb.kp av
 refine ec 21 (zp4 ha.num hb.num (by omega)) ?_
 rintro aY aN ⟨⟨aV,aW,rfl,az⟩,af⟩
 refine ⟨_,rfl,?_⟩
 replace hB:=hB.trans af
 replace L2:=L2.gr af
 replace L3:=L3.gr af
 refine ⟨⟨L2,L3⟩,?_⟩
 simp only [p3,p4]
 refine oe ?_
 replace ha:=ha.kp af.kp
 refine ec 23 (zo2 ha) ?_
 rintro aM aL ⟨⟨aJ,aZ,rfl,ay⟩,ad⟩
 refine ⟨_,rfl,?_⟩
 replace hB:=hB.trans ad
 replace L2:=L2.gr ad
 replace L3:=L3.gr ad
 refine ⟨⟨L2,L3⟩,?_⟩
 simp only [p3,p4]
 refine oe ?_
 have aA:=af.kp.trans ad.kp
 replace hb:=hb.kp aA
 refine ec 25 (zo2 hb) ?_
 rintro aS aI ⟨⟨aP,aU,rfl,aE⟩,ae⟩
 refine ⟨_,rfl,?_⟩
 replace hB:=hB.trans ae
 replace L2:=L2.gr ae
 replace L3:=L3.gr ae
 refine ⟨⟨L2,L3⟩,?_⟩
 simp only [p3,p4]
 refine oe ?_
 replace ay:=ay.kp ae.kp
 refine ec 26 (zp4 ay aE (by omega)) ?_
 rintro aO aK ⟨⟨aH,aT,rfl,aG⟩,ai⟩
 refine ⟨_,rfl,?_⟩
 replace hB:=hB.trans ai
 replace L2:=L2.gr ai
 replace L3:=L3.gr ai
 refine ⟨⟨L2,L3⟩,?_⟩
 simp only [p3,p4]
 refine oe ?_
 have aC:=ad.kp.trans (ae.kp.trans ai.kp)
 replace az:=az.kp aC
 refine ec 27 (zr7 (k+m) az aG (Int.mul_pos (Int.natCast_pos.2 a.den_pos) (Int.natCast_pos.2 b.den_pos)) (by omega) (by omega) (by omega) (by omega)) ?_
 rintro aR a0 ⟨⟨al,ap,au,ar,rfl,ac⟩,aq⟩
 refine ⟨_,rfl,?_⟩
 replace hB:=hB.trans aq
 replace L2:=L2.gr aq
 replace L3:=L3.gr aq
 refine ⟨⟨L2,L3⟩,?_⟩
 simp only [p3,p4]
 refine oe ?_
 replace L4:=L4.gr (g7.trans (g9.trans (aa.trans (af.trans (ad.trans (ae.trans (ai.trans aq)))))))
 refine es 62 0 (.agg #[al,ap,au,ar]) [al,ap,au,ar] #[al,ap,au,ar] L4 hB q4 ⟨ac.one0,ac.one1,ac.one2,ac.one3,trivial⟩ fun aX aj aB L4 hB=>?_
 replace L2:=aj.lc L2 ak
 replace L3:=aj.lc L3 ah
 refine ⟨⟨L2,L3⟩,?_⟩
 refine zb4 ?_
 refine aF _ _ ?_
 refine wp_ret ?_
 refine bodyPost_ret (v:=(.agg #[al,ap,au,ar])) (zc8 _ _ _ rfl rfl L4 (by kernel_rfl)) rfl ⟨?_,hB⟩
 replace ac:=ac.kp aB
 exact ⟨_,_,_,_,rfl,by rw [← yc3];exact ac⟩

theorem mul_f {k m:Nat} {u0 u1 u2 u3 v0 v1 v2 v3:Value} {a b:Rat} {w:World} (ha:IsRat w k u0 u1 u2 u3 a) (hb:IsRat w m v0 v1 v2 v3 b) (_hk:k+m≤100000) (wa:a.den≠1):
    Calls Tryz.prog 79 #[.agg #[u0,u1,u2,u3],.agg #[v0,v1,v2,v3]] w fun e w'=>(∃ c0 c1 c2 c3,e=.returned (.agg #[c0,c1,c2,c3])∧IsRat w' (k+m) c0 c1 c2 c3 (a*b))∧Gr w w':=by
 have hka:=ha.big
 have hkb:=hb.big
 go_enter Tryz.func79,Tryz.ntmps79
 have hB:=Gr.refl w
 refine wp_seq_k (fun K1 k1=>rg [0,1,2] ?_)
 refine se ?_
 refine eb 62 #[u0,u1,u2,u3] 2 hB fun b2 w2 g2 L2 o2 q2 hB=>?_
 simp only [p3,p4]
 refine se ?_
 refine eb 62 #[v0,v1,v2,v3] 3 hB fun b3 w3 g3 L3 o3 q3 hB=>?_
 simp only [p3,p4]
 refine se ?_
 refine ea 62 #[.bool false,sN,.bool false,sN] 4 hB fun b4 w4 g4 L4 o4 q4 hB=>?_
 replace L2:=L2.gr g3
 have aj:=L2.ne o4
 have ah:=L3.ne o4
 simp only [p3,p4]
 refine za0 (k1 _ _ ?_)
 refine wp_seq_k (fun K5 k5=>wp_seq_k (fun K6 k6=>rg [0,1,2,3,4,5] ?_))
 replace L2:=L2.gr g4
 refine sw 5 (.agg #[u0,u1,u2,u3]) rfl (rl 62 0 [u0,u1,u2,u3] L2) ?_
 refine se ?_
 have aC:=g2.kp.trans (g3.kp.trans g4.kp)
 replace ha:=ha.kp aC
 refine ec 6 (zp8 ha (by omega) wa) ?_
 rintro e7 w7 ⟨rfl,g7⟩
 refine ⟨_,rfl,?_⟩
 replace hB:=hB.trans g7
 simp only [p3,p4]
 refine sv 7 (.bool false) ?_
 refine ss 8 ?_
 refine ss 9 ?_
 refine sv 10 (.bool false) (za0 (k6 _ _ ?_))
 refine wp_cond_false rfl ?_
 refine wp_skip ?_
 refine k5 _ _ ?_
 refine wp_seq_k (fun K9 k9=>?_)
 have aa:=Gr.drew w7
 replace hB:=hB.trans aa
 replace L2:=L2.gr (g7.trans aa)
 replace L3:=L3.gr (g4.trans (g7.trans aa))
 refine za5 (fun w'=>Lc w' b2 #[u0,u1,u2,u3] 62∧Lc w' b3 #[v0,v1,v2,v3] 62) [(true,0),(true,1),(true,2),(true,3),(true,5),(true,7),(false,4),(false,6),(false,8),(false,9),(false,10),(false,11)] (by kernel_rfl) (by kernel_rfl) (by kernel_rfl) (by decide) (fun _ _ _ _ _ h=>h) ⟨L2,L3⟩ ?_
 refine ov 17 (pT b2 0) ?_
 refine ow 18 (.agg #[u0,u1]) rfl (fun w' hS=>(rl 60 0 [u0,u1] hS.1)) ?_
 refine ov 19 (pT b3 0) ?_
 refine ow 20 (.agg #[v0,v1]) rfl (fun w' hS=>(rl 60 0 [v0,v1] hS.2)) ?_
 refine ow 22 (.agg #[u0,u1,u2,u3]) rfl (fun w' hS=>(rl 62 0 [u0,u1,u2,u3] hS.1)) ?_
 refine ow 24 (.agg #[v0,v1,v2,v3]) rfl (fun w' hS=>(rl 62 0 [v0,v1,v2,v3] hS.2)) ?_
 refine oe ?_
 have ax:=g7.kp.trans aa.kp
 replace ha:=ha.kp ax
 have ay:=g2.kp.trans (g3.kp.trans (g4.kp.trans (g7.kp.trans aa.kp)))
 replace hb:=hb.kp ay
 refine ec 21 (zp4 ha.num hb.num (by omega)) ?_
 rintro aG aR ⟨⟨aU,aI,rfl,aw⟩,af⟩
 refine ⟨_,rfl,?_⟩
 replace hB:=hB.trans af
 replace L2:=L2.gr af
 replace L3:=L3.gr af
 refine ⟨⟨L2,L3⟩,?_⟩
 simp only [p3,p4]
 refine oe ?_
 replace ha:=ha.kp af.kp
 refine ec 23 (zo2 ha) ?_
 rintro aF aS ⟨⟨aN,aT,rfl,aB⟩,ad⟩
 refine ⟨_,rfl,?_⟩
 replace hB:=hB.trans ad
 replace L2:=L2.gr ad
 replace L3:=L3.gr ad
 refine ⟨⟨L2,L3⟩,?_⟩
 simp only [p3,p4]
 refine oe ?_
 have aA:=af.kp.trans ad.kp
 replace hb:=hb.kp aA
 refine ec 25 (zo2 hb) ?_
 rintro aM aL ⟨⟨aJ,aW,rfl,aD⟩,ae⟩
 refine ⟨_,rfl,?_⟩
 replace hB:=hB.trans ae
 replace L2:=L2.gr ae
 replace L3:=L3.gr ae
 refine ⟨⟨L2,L3⟩,?_⟩
 simp only [p3,p4]
 refine oe ?_
 replace aB:=aB.kp ae.kp
 refine ec 26 (zp4 aB aD (by omega)) ?_
 rintro aQ aH ⟨⟨aV,aX,rfl,aE⟩,ak⟩
 refine ⟨_,rfl,?_⟩
 replace hB:=hB.trans ak
 replace L2:=L2.gr ak
 replace L3:=L3.gr ak
 refine ⟨⟨L2,L3⟩,?_⟩
 simp only [p3,p4]
 refine oe ?_
 have az:=ad.kp.trans (ae.kp.trans ak.kp)
 replace aw:=aw.kp az
 refine ec 27 (zr7 (k+m) aw aE (Int.mul_pos (Int.natCast_pos.2 a.den_pos) (Int.natCast_pos.2 b.den_pos)) (by omega) (by omega) (by omega) (by omega)) ?_
 rintro aP aK ⟨⟨aq,au,ar,al,rfl,ac⟩,ap⟩
 refine ⟨_,rfl,?_⟩
 replace hB:=hB.trans ap
 replace L2:=L2.gr ap
 replace L3:=L3.gr ap
 refine ⟨⟨L2,L3⟩,?_⟩
 simp only [p3,p4]
 refine oe ?_
 replace L4:=L4.gr (g7.trans (aa.trans (af.trans (ad.trans (ae.trans (ak.trans ap))))))
 refine es 62 0 (.agg #[aq,au,ar,al]) [aq,au,ar,al] #[aq,au,ar,al] L4 hB q4 ⟨ac.one0,ac.one1,ac.one2,ac.one3,trivial⟩ fun aO ai av L4 hB=>?_
 replace L2:=ai.lc L2 aj
 replace L3:=ai.lc L3 ah
 refine ⟨⟨L2,L3⟩,?_⟩
 refine zb4 ?_
 refine k9 _ _ ?_
 refine wp_ret ?_
 refine bodyPost_ret (v:=(.agg #[aq,au,ar,al])) (zc8 _ _ _ rfl rfl L4 (by kernel_rfl)) rfl ⟨?_,hB⟩
 replace ac:=ac.kp av
 exact ⟨_,_,_,_,rfl,by rw [← yc3];exact ac⟩

theorem mul_r {k m:Nat} {u0 u1 u2 u3 v0 v1 v2 v3:Value} {a b:Rat} {w:World} (ha:IsRat w k u0 u1 u2 u3 a) (hb:IsRat w m v0 v1 v2 v3 b) (hk:k+m≤100000):
  Calls Tryz.prog 79 #[.agg #[u0,u1,u2,u3],.agg #[v0,v1,v2,v3]] w fun e w'=>(∃ c0 c1 c2 c3,e=.returned (.agg #[c0,c1,c2,c3])∧IsRat w' (k+m) c0 c1 c2 c3 (a*b))∧Gr w w':=by
 by_cases wa:a.den=1
 ·by_cases wb:b.den=1
  ·exact mul_tt ha hb hk wa wb
  exact mul_tf ha hb hk wa wb
 exact mul_f ha hb hk wa

theorem sign_r {k:Nat} {u0 u1 u2 u3:Value} {a:Rat} {w:World} (ha:IsRat w k u0 u1 u2 u3 a):
    Calls Tryz.prog 154 #[.agg #[u0,u1,u2,u3]] w fun e w'=>e=.returned (iT (sgn a.num))∧Gr w w':=by
 go_enter Tryz.func154,Tryz.ntmps154
 have hB:=Gr.refl w
 refine wp_seq_k (fun K1 k1=>rg [0,1] ?_)
 refine se ?_
 refine eb 62 #[u0,u1,u2,u3] 1 hB fun b2 w2 g2 L2 o2 q2 hB=>?_
 simp only [p3,p4]
 refine sv 2 (iT 0) (za0 (k1 _ _ ?_))
 refine wp_seq_k (fun K3 k3=>rg [0,1,2,3] (sv 3 (pT b2 0) ?_))
 refine sw 4 (.agg #[u0,u1]) rfl (rl 60 0 [u0,u1] L2) ?_
 refine se ?_
 replace ha:=ha.kp g2.kp
 refine ec 5 (zO9 ha.num) ?_
 rintro e4 w4 ⟨rfl,g4⟩
 refine ⟨_,rfl,?_⟩
 replace hB:=hB.trans g4
 simp only [p3,p4]
 refine sv 2 (iT (sgn (a.num))) (za0 (k3 _ _ ?_))
 refine wp_ret ?_
 refine bodyPost_ret (v:=(iT (sgn (a.num)))) (za3 rfl rfl) rfl ⟨?_,hB⟩
 exact rfl

theorem zo4 (z:Int) (_h0:-9223372036854775808≤z) (_h1:z≤9223372036854775807) (w:World):
    Calls Tryz.prog 56 #[iT (z)] w fun e w'=>(∃ c0 c1 c2 c3,e=.returned (.agg #[c0,c1,c2,c3])∧IsRat w' 64 c0 c1 c2 c3 (z:Rat))∧Gr w w':=by
 go_enter Tryz.func56,Tryz.ntmps56
 have hB:=Gr.refl w
 refine wp_seq_k (fun K1 k1=>rg [0] ?_)
 refine se ?_
 refine ea 62 #[.bool false,sN,.bool false,sN] 2 hB fun b2 w2 g2 L2 o2 q2 hB=>?_
 simp only [p3,p4]
 refine za0 (k1 _ _ ?_)
 refine wp_seq_k (fun K3 k3=>rg [0,1,2,3] (sv 3 (iT (z)) ?_))
 refine se ?_
 refine ec 4 (zY6 (z) (by omega) (by omega) _) ?_
 rintro e4 w4 ⟨⟨x4,y4,rfl,h4⟩,g4⟩
 refine ⟨_,rfl,?_⟩
 replace hB:=hB.trans g4
 simp only [p3,p4]
 refine sv 5 (.agg #[x4,y4,.bool false,sN]) ?_
 refine se ?_
 replace L2:=L2.gr g4
 refine es 62 0 (.agg #[x4,y4,.bool false,sN]) [x4,y4,.bool false,sN] #[x4,y4,.bool false,sN] L2 hB q2 ⟨h4.one0,h4.one1,rfl,rfl,trivial⟩ fun w5 ac aa L2 hB=>?_
 refine za0 (k3 _ _ ?_)
 refine wp_ret ?_
 refine bodyPost_ret (v:=(.agg #[x4,y4,.bool false,sN])) (zc8 _ _ _ rfl rfl L2 (by kernel_rfl)) rfl ⟨?_,hB⟩
 replace h4:=h4.kp aa
 exact ⟨_,_,_,_,rfl,IsRat.int h4 (by omega)⟩

theorem rcomp_tt {k m:Nat} {u0 u1 u2 u3 v0 v1 v2 v3:Value} {a b:Rat} {w:World} (ha:IsRat w k u0 u1 u2 u3 a) (hb:IsRat w m v0 v1 v2 v3 b) (_hk:k+m≤100000) (wa:a.den=1) (wb:b.den=1):
    Calls Tryz.prog 65 #[.agg #[u0,u1,u2,u3],.agg #[v0,v1,v2,v3]] w fun e w'=>e=.returned (iT (zh4 a b))∧Gr w w':=by
 have hka:=ha.big
 have hkb:=hb.big
 go_enter Tryz.func65,Tryz.ntmps65
 have hB:=Gr.refl w
 refine wp_seq_k (fun K1 k1=>rg [0,1,2] ?_)
 refine se ?_
 refine eb 62 #[u0,u1,u2,u3] 2 hB fun b2 w2 g2 L2 o2 q2 hB=>?_
 simp only [p3,p4]
 refine se ?_
 refine eb 62 #[v0,v1,v2,v3] 3 hB fun b3 w3 g3 L3 o3 q3 hB=>?_
 simp only [p3,p4]
 refine sv 4 (iT 0) (za0 (k1 _ _ ?_))
 refine wp_seq_k (fun K4 k4=>wp_seq_k (fun K5 k5=>rg [0,1,2,3,4,5] ?_))
 replace L2:=L2.gr g3
 refine sw 5 (.agg #[u0,u1,u2,u3]) rfl (rl 62 0 [u0,u1,u2,u3] L2) ?_
 refine se ?_
 have af:=g2.kp.trans g3.kp
 replace ha:=ha.kp af
 refine ec 6 (zk5 ha (by omega) wa) ?_
 rintro e6 w6 ⟨rfl,g6⟩
 refine ⟨_,rfl,?_⟩
 replace hB:=hB.trans g6
 simp only [p3,p4]
 refine sv 7 (.bool true) ?_
 replace L3:=L3.gr g6
 refine sw 8 (.agg #[v0,v1,v2,v3]) rfl (rl 62 0 [v0,v1,v2,v3] L3) ?_
 refine se ?_
 have ae:=g2.kp.trans (g3.kp.trans g6.kp)
 replace hb:=hb.kp ae
 refine ec 9 (zk5 hb (by omega) wb) ?_
 rintro e8 w8 ⟨rfl,g8⟩
 refine ⟨_,rfl,?_⟩
 replace hB:=hB.trans g8
 simp only [p3,p4]
 refine sv 10 (.bool true) (za0 (k5 _ _ ?_))
 refine wp_cond_true rfl ?_
 refine wp_seq_k (fun aj ac=>rg [0,1,2,3,4,5] (sv 11 (pT b2 0) ?_))
 replace L2:=L2.gr (g6.trans g8)
 refine sw 12 (.agg #[u0,u1]) rfl (rl 60 0 [u0,u1] L2) ?_
 refine sv 13 (pT b3 0) ?_
 replace L3:=L3.gr g8
 refine sw 14 (.agg #[v0,v1]) rfl (rl 60 0 [v0,v1] L3) ?_
 refine se ?_
 have aa:=g6.kp.trans g8.kp
 replace ha:=ha.kp aa
 replace hb:=hb.kp g8.kp
 refine ec 15 (zf8 ha.num hb.num (by omega) (by omega)) ?_
 rintro ai ah ⟨rfl,ad⟩
 refine ⟨_,rfl,?_⟩
 replace hB:=hB.trans ad
 simp only [p3,p4]
 refine sv 4 (iT (sgn (a.num - b.num))) (za0 (ac _ _ ?_))
 refine wp_ret ?_
 simp only [Exit.then]
 refine bodyPost_ret (v:=(iT (sgn (a.num - b.num)))) (za3 rfl rfl) rfl ⟨?_,hB⟩
 exact by rw [rcmp_int wa wb]

theorem rcomp_tf {k m:Nat} {u0 u1 u2 u3 v0 v1 v2 v3:Value} {a b:Rat} {w:World} (ha:IsRat w k u0 u1 u2 u3 a) (hb:IsRat w m v0 v1 v2 v3 b) (_hk:k+m≤100000) (wa:a.den=1) (wb:b.den≠1):
    Calls Tryz.prog 65 #[.agg #[u0,u1,u2,u3],.agg #[v0,v1,v2,v3]] w fun e w'=>e=.returned (iT (zh4 a b))∧Gr w w':=by
 have hka:=ha.big
 have hkb:=hb.big
 go_enter Tryz.func65,Tryz.ntmps65
 have hB:=Gr.refl w
 refine wp_seq_k (fun K1 k1=>rg [0,1,2] ?_)
 refine se ?_
 refine eb 62 #[u0,u1,u2,u3] 2 hB fun b2 w2 g2 L2 o2 q2 hB=>?_
 simp only [p3,p4]
 refine se ?_
 refine eb 62 #[v0,v1,v2,v3] 3 hB fun b3 w3 g3 L3 o3 q3 hB=>?_
 simp only [p3,p4]
 refine sv 4 (iT 0) (za0 (k1 _ _ ?_))
 refine wp_seq_k (fun K4 k4=>wp_seq_k (fun K5 k5=>rg [0,1,2,3,4,5] ?_))
 replace L2:=L2.gr g3
 refine sw 5 (.agg #[u0,u1,u2,u3]) rfl (rl 62 0 [u0,u1,u2,u3] L2) ?_
 refine se ?_
 have av:=g2.kp.trans g3.kp
 replace ha:=ha.kp av
 refine ec 6 (zk5 ha (by omega) wa) ?_
 rintro e6 w6 ⟨rfl,g6⟩
 refine ⟨_,rfl,?_⟩
 replace hB:=hB.trans g6
 simp only [p3,p4]
 refine sv 7 (.bool true) ?_
 replace L3:=L3.gr g6
 refine sw 8 (.agg #[v0,v1,v2,v3]) rfl (rl 62 0 [v0,v1,v2,v3] L3) ?_
 refine se ?_
 have ax:=g2.kp.trans (g3.kp.trans g6.kp)
 replace hb:=hb.kp ax
 refine ec 9 (zp8 hb (by omega) wb) ?_
 rintro e8 w8 ⟨rfl,g8⟩
 refine ⟨_,rfl,?_⟩
 replace hB:=hB.trans g8
 simp only [p3,p4]
 refine sv 10 (.bool false) (za0 (k5 _ _ ?_))
 refine wp_cond_false rfl ?_
 refine wp_skip ?_
 refine k4 _ _ ?_
 refine wp_seq_k (fun aO au=>?_)
 have aa:=Gr.drew w8
 replace hB:=hB.trans aa
 replace L2:=L2.gr (g6.trans (g8.trans aa))
 replace L3:=L3.gr (g8.trans aa)
 refine za5 (fun w'=>Lc w' b2 #[u0,u1,u2,u3] 62∧Lc w' b3 #[v0,v1,v2,v3] 62) [(true,0),(true,1),(true,2),(true,5),(true,6),(true,7),(false,3),(false,4),(false,8),(false,9),(false,10),(true,11)] (by kernel_rfl) (by kernel_rfl) (by kernel_rfl) (by decide) (fun _ _ _ _ _ h=>h) ⟨L2,L3⟩ ?_
 refine ov 16 (pT b2 0) ?_
 refine ow 17 (.agg #[u0,u1]) rfl (fun w' hS=>(rl 60 0 [u0,u1] hS.1)) ?_
 refine ow 18 (.agg #[v0,v1,v2,v3]) rfl (fun w' hS=>(rl 62 0 [v0,v1,v2,v3] hS.2)) ?_
 refine ov 21 (pT b3 0) ?_
 refine ow 22 (.agg #[v0,v1]) rfl (fun w' hS=>(rl 60 0 [v0,v1] hS.2)) ?_
 refine ow 23 (.agg #[u0,u1,u2,u3]) rfl (fun w' hS=>(rl 62 0 [u0,u1,u2,u3] hS.1)) ?_
 refine oe ?_
 have ah:=g8.kp.trans aa.kp
 replace hb:=hb.kp ah
 refine ec 19 (zo2 hb) ?_
 rintro az aA ⟨⟨aQ,aG,rfl,aw⟩,ad⟩
 refine ⟨_,rfl,?_⟩
 replace hB:=hB.trans ad
 replace L2:=L2.gr ad
 replace L3:=L3.gr ad
 refine ⟨⟨L2,L3⟩,?_⟩
 simp only [p3,p4]
 refine oe ?_
 have ai:=g6.kp.trans (g8.kp.trans (aa.kp.trans ad.kp))
 replace ha:=ha.kp ai
 refine ec 20 (zp4 ha.num aw (by omega)) ?_
 rintro aN aF ⟨⟨aI,aJ,rfl,ap⟩,ae⟩
 refine ⟨_,rfl,?_⟩
 replace hB:=hB.trans ae
 replace L2:=L2.gr ae
 replace L3:=L3.gr ae
 refine ⟨⟨L2,L3⟩,?_⟩
 simp only [p3,p4]
 refine oe ?_
 replace ha:=ha.kp ae.kp
 refine ec 24 (zo2 ha) ?_
 rintro aE aM ⟨⟨aP,ay,rfl,aq⟩,ac⟩
 refine ⟨_,rfl,?_⟩
 replace hB:=hB.trans ac
 replace L2:=L2.gr ac
 replace L3:=L3.gr ac
 refine ⟨⟨L2,L3⟩,?_⟩
 simp only [p3,p4]
 refine oe ?_
 have aj:=ad.kp.trans (ae.kp.trans ac.kp)
 replace hb:=hb.kp aj
 refine ec 25 (zp4 hb.num aq (by omega)) ?_
 rintro aH aK ⟨⟨aD,aB,rfl,ar⟩,af⟩
 refine ⟨_,rfl,?_⟩
 replace hB:=hB.trans af
 replace L2:=L2.gr af
 replace L3:=L3.gr af
 refine ⟨⟨L2,L3⟩,?_⟩
 simp only [p3,p4]
 refine oe ?_
 have al:=ac.kp.trans af.kp
 replace ap:=ap.kp al
 refine ec 26 (zf8 ap ar (by omega) (by omega)) ?_
 rintro aC aL ⟨rfl,ak⟩
 refine ⟨_,rfl,?_⟩
 replace hB:=hB.trans ak
 replace L2:=L2.gr ak
 replace L3:=L3.gr ak
 refine ⟨⟨L2,L3⟩,?_⟩
 simp only [p3,p4]
 refine ov 4 (iT (sgn ((a.num*(b.den:Int)) - (b.num*(a.den:Int))))) ?_
 refine zb4 ?_
 refine au _ _ ?_
 refine wp_ret ?_
 refine bodyPost_ret (v:=(iT (sgn ((a.num*(b.den:Int)) - (b.num*(a.den:Int)))))) (za3 rfl rfl) rfl ⟨?_,hB⟩
 exact rfl

theorem rcomp_f {k m:Nat} {u0 u1 u2 u3 v0 v1 v2 v3:Value} {a b:Rat} {w:World} (ha:IsRat w k u0 u1 u2 u3 a) (hb:IsRat w m v0 v1 v2 v3 b) (_hk:k+m≤100000) (wa:a.den≠1):
    Calls Tryz.prog 65 #[.agg #[u0,u1,u2,u3],.agg #[v0,v1,v2,v3]] w fun e w'=>e=.returned (iT (zh4 a b))∧Gr w w':=by
 have hka:=ha.big
 have hkb:=hb.big
 go_enter Tryz.func65,Tryz.ntmps65
 have hB:=Gr.refl w
 refine wp_seq_k (fun K1 k1=>rg [0,1,2] ?_)
 refine se ?_
 refine eb 62 #[u0,u1,u2,u3] 2 hB fun b2 w2 g2 L2 o2 q2 hB=>?_
 simp only [p3,p4]
 refine se ?_
 refine eb 62 #[v0,v1,v2,v3] 3 hB fun b3 w3 g3 L3 o3 q3 hB=>?_
 simp only [p3,p4]
 refine sv 4 (iT 0) (za0 (k1 _ _ ?_))
 refine wp_seq_k (fun K4 k4=>wp_seq_k (fun K5 k5=>rg [0,1,2,3,4,5] ?_))
 replace L2:=L2.gr g3
 refine sw 5 (.agg #[u0,u1,u2,u3]) rfl (rl 62 0 [u0,u1,u2,u3] L2) ?_
 refine se ?_
 have av:=g2.kp.trans g3.kp
 replace ha:=ha.kp av
 refine ec 6 (zp8 ha (by omega) wa) ?_
 rintro e6 w6 ⟨rfl,g6⟩
 refine ⟨_,rfl,?_⟩
 replace hB:=hB.trans g6
 simp only [p3,p4]
 refine sv 7 (.bool false) ?_
 refine ss 8 ?_
 refine ss 9 ?_
 refine sv 10 (.bool false) (za0 (k5 _ _ ?_))
 refine wp_cond_false rfl ?_
 refine wp_skip ?_
 refine k4 _ _ ?_
 refine wp_seq_k (fun K8 k8=>?_)
 have aa:=Gr.drew w6
 replace hB:=hB.trans aa
 replace L2:=L2.gr (g6.trans aa)
 replace L3:=L3.gr (g6.trans aa)
 refine za5 (fun w'=>Lc w' b2 #[u0,u1,u2,u3] 62∧Lc w' b3 #[v0,v1,v2,v3] 62) [(true,0),(true,1),(true,2),(true,5),(true,6),(true,7),(false,3),(false,4),(false,8),(false,9),(false,10),(true,11)] (by kernel_rfl) (by kernel_rfl) (by kernel_rfl) (by decide) (fun _ _ _ _ _ h=>h) ⟨L2,L3⟩ ?_
 refine ov 16 (pT b2 0) ?_
 refine ow 17 (.agg #[u0,u1]) rfl (fun w' hS=>(rl 60 0 [u0,u1] hS.1)) ?_
 refine ow 18 (.agg #[v0,v1,v2,v3]) rfl (fun w' hS=>(rl 62 0 [v0,v1,v2,v3] hS.2)) ?_
 refine ov 21 (pT b3 0) ?_
 refine ow 22 (.agg #[v0,v1]) rfl (fun w' hS=>(rl 60 0 [v0,v1] hS.2)) ?_
 refine ow 23 (.agg #[u0,u1,u2,u3]) rfl (fun w' hS=>(rl 62 0 [u0,u1,u2,u3] hS.1)) ?_
 refine oe ?_
 have ap:=g2.kp.trans (g3.kp.trans (g6.kp.trans aa.kp))
 replace hb:=hb.kp ap
 refine ec 19 (zo2 hb) ?_
 rintro aI aL ⟨⟨aB,aM,rfl,aq⟩,ac⟩
 refine ⟨_,rfl,?_⟩
 replace hB:=hB.trans ac
 replace L2:=L2.gr ac
 replace L3:=L3.gr ac
 refine ⟨⟨L2,L3⟩,?_⟩
 simp only [p3,p4]
 refine oe ?_
 have ai:=g6.kp.trans (aa.kp.trans ac.kp)
 replace ha:=ha.kp ai
 refine ec 20 (zp4 ha.num aq (by omega)) ?_
 rintro ax aH ⟨⟨aK,aA,rfl,ah⟩,ae⟩
 refine ⟨_,rfl,?_⟩
 replace hB:=hB.trans ae
 replace L2:=L2.gr ae
 replace L3:=L3.gr ae
 refine ⟨⟨L2,L3⟩,?_⟩
 simp only [p3,p4]
 refine oe ?_
 replace ha:=ha.kp ae.kp
 refine ec 24 (zo2 ha) ?_
 rintro aC aE ⟨⟨ay,aF,rfl,ar⟩,ad⟩
 refine ⟨_,rfl,?_⟩
 replace hB:=hB.trans ad
 replace L2:=L2.gr ad
 replace L3:=L3.gr ad
 refine ⟨⟨L2,L3⟩,?_⟩
 simp only [p3,p4]
 refine oe ?_
 have al:=ac.kp.trans (ae.kp.trans ad.kp)
 replace hb:=hb.kp al
 refine ec 25 (zp4 hb.num ar (by omega)) ?_
 rintro aD aJ ⟨⟨aN,aw,rfl,au⟩,af⟩
 refine ⟨_,rfl,?_⟩
 replace hB:=hB.trans af
 replace L2:=L2.gr af
 replace L3:=L3.gr af
 refine ⟨⟨L2,L3⟩,?_⟩
 simp only [p3,p4]
 refine oe ?_
 have aj:=ad.kp.trans af.kp
 replace ah:=ah.kp aj
 refine ec 26 (zf8 ah au (by omega) (by omega)) ?_
 rintro aG az ⟨rfl,ak⟩
 refine ⟨_,rfl,?_⟩
 replace hB:=hB.trans ak
 replace L2:=L2.gr ak
 replace L3:=L3.gr ak
 refine ⟨⟨L2,L3⟩,?_⟩
 simp only [p3,p4]
 refine ov 4 (iT (sgn ((a.num*(b.den:Int)) - (b.num*(a.den:Int))))) ?_
 refine zb4 ?_
 refine k8 _ _ ?_
 refine wp_ret ?_
 refine bodyPost_ret (v:=(iT (sgn ((a.num*(b.den:Int)) - (b.num*(a.den:Int)))))) (za3 rfl rfl) rfl ⟨?_,hB⟩
 exact rfl

theorem zh6 {k m:Nat} {u0 u1 u2 u3 v0 v1 v2 v3:Value} {a b:Rat} {w:World} (ha:IsRat w k u0 u1 u2 u3 a) (hb:IsRat w m v0 v1 v2 v3 b) (hk:k+m≤100000):
  Calls Tryz.prog 65 #[.agg #[u0,u1,u2,u3],.agg #[v0,v1,v2,v3]] w fun e w'=>e=.returned (iT (zh4 a b))∧Gr w w':=by
 by_cases wa:a.den=1
 ·by_cases wb:b.den=1
  ·exact rcomp_tt ha hb hk wa wb
  exact rcomp_tf ha hb hk wa wb
 exact rcomp_f ha hb hk wa

end Go.Proofs.YtjhflekncldflaaGreatDoor
