/- Joined of: Div3, Div4, Div5, Int7, Gen2, Int8, Gen3, Rat1, Sl, Sy1, Ten, TenM, TenT, R1a, R1b, R1c, R1d, R1e, R1f, Gen30, R1g, R1h, Ck, R1i, Ck2. -/
import Derived.Test.YthhbibpaeonecaaGreatDoorPartA
import Derived.Lib.BitFns
import Derived.Laws.IdiomStrings
import Init.Data.Rat.Lemmas
namespace Go.Proofs.YthhbibpaeonecaaGreatDoor
open Go.RowKit

theorem St.drewN {w w':World} {b:Nat} (h:St w w' b) (n:Nat):St w (w'.drewN n) b:=⟨h.os,h.tape,h.output,h.size,h.block⟩
theorem St.drew {w w':World} {b:Nat} (h:St w w' b):St w w'.drew b:=⟨h.os,h.tape,h.output,h.size,h.block⟩
theorem St.cell {w w':World} {b:Nat} (h:St w w' b) {c o:Nat} (hc:c≠b):w'.cell? ⟨c,o,none⟩=w.cell? ⟨c,o,none⟩:=World.cell?_of_block (w:=w) (h.block c hc)
theorem Own.drewN {w:World} {b n:Nat} {d:Nat→Int} (h:Own w b n d) (k:Nat):Own (w.drewN k) b n d:=h.gr ((Below.refl _ _).drewN k)

set_option maxRecDepth 100000 in
set_option maxHeartbeats 4000000 in
theorem digit_c (bu off cu bv offv cv m N:Nat) (D:Nat→Int) (U V:Int) (w:World) (hm:m≤1000000) (hN:off+(m+3)≤N) (aW:N≤2000000) (hO:Own w bu N D) (hD:Hid (∀ i,i<m+3→D (off+i)=dg U i))
  (aN:0≤U) (hUt:Hid (hi U (m+3)=0)) (hV:NL V (m+2)) (hvc:Hid (∀ i,i<m+2→w.cell? ⟨bv,offv+i,none⟩=some (.int .u32 (dg V i)))) (hne:bv≠bu) (hnorm:2147483648≤dg V (m+1)) (hUV:U<V*4294967296):
  Calls Tryz.prog 134 #[.slice (some ⟨bu,off,none⟩) (m+3) cu,.slice (some ⟨bv,offv,none⟩) (m+2) cv] w fun e w'=>
   e=.returned (.int .u32 (U/V))∧St w w' bu∧∃ D',Own w' bu N D'∧(∀ i,i<m+3→D' (off+i)=dg (U % V) i)∧∀ j,(j<off∨off+(m+3)≤j)→D' j=D j:=by
 have ab:=hO.cell (off+(m+2)) (by omega)
 have aC:=hO.cell (off+(m+1)) (by omega)
 have al:=hO.cell (off+m) (by omega)
 rw [hD.out _ (by omega)] at ab aC al
 have aA:=hvc.out (m+1) (by omega)
 have aK:=hvc.out m (by omega)
 have aJ:=za5 U (m+2)
 have aH:=zc6 U (m+2)
 have aF:=za5 U (m+1)
 have aI:=zc6 U (m+1)
 have az:=za5 U m
 have aw:=zc6 U m
 have aS:=zc6 V (m+1)
 have au:=za5 V m
 have aU:=zc6 V m
 have hor:=or64 (dg U (m+2)) (dg U (m+1)) aJ aH aF aI
 go_enter Tryz.func134,Tryz.ntmps134
 go_wp2
 go_quiet (fail)
 go_wp2
 go_quiet (fail)
 go_wp2
 have ap:hi V (m+1)=dg V (m+1):=by have:=zb0 V (m+1);rw [hV.top] at this;omega
 have hvm:hi V m=dg V (m+1)*4294967296+dg V m:=by have:=zb0 V m;rw [ap] at this;omega
 have aj:hi U (m+2)=dg U (m+2):=by have:=zb0 U (m+2);rw [hUt.out] at this;omega
 have av:hi U (m+1)=dg U (m+2)*4294967296+dg U (m+1):=by have:=zb0 U (m+1);rw [aj] at this;omega
 have hum:hi U m=(dg U (m+2)*4294967296+dg U (m+1))*4294967296+dg U m:=by have:=zb0 U m;rw [av] at this;omega
 have af:0<V:=by
  have:=hi_le_of hV.nonneg (show 0≤m+1 by omega)
  rw [ap,zb9] at this;omega
 have ai:0≤U/V:=Int.ediv_nonneg aN (by omega)
 have hQB:U/V<4294967296:=Int.ediv_lt_of_lt_mul af (by first | exact hUV | (rw [Int.mul_comm];exact hUV))
 have hQV:U/V*V≤U:=Int.ediv_mul_le U (by omega)
 have hlo:=zM2 m ai hQV
 have ad:=zM2 (m+1) ai hQV
 rw [ap,av] at ad
 have KN:=Lib.hid (And.intro hvm (And.intro hum (And.intro hlo (And.intro hQB (And.intro ai af)))))
 have q0:=Int.ediv_nonneg (show 0≤dg U (m+2)*4294967296+dg U (m+1) by omega) (show 0≤dg V (m+1) by omega)
 have q1:(dg U (m+2)*4294967296+dg U (m+1))/dg V (m+1)<8589934592:=Int.ediv_lt_of_lt_mul (by omega) (by omega)
 have q2:U/V≤(dg U (m+2)*4294967296+dg U (m+1))/dg V (m+1):=(Int.le_ediv_iff_mul_le (by omega)).2 ad
 have q3:=Int.emod_add_mul_ediv (dg U (m+2)*4294967296+dg U (m+1)) (dg V (m+1))
 have q4:=Int.emod_nonneg (dg U (m+2)*4294967296+dg U (m+1)) (show dg V (m+1)≠0 by omega)
 have q5:=Int.emod_lt_of_pos (dg U (m+2)*4294967296+dg U (m+1)) (show 0<dg V (m+1) by omega)
 have Q2:=Lib.hid (And.intro q2 q3)
 have ak:dg U (m+2)≤dg V (m+1):=by
  have h1:=zh2 (show U≤V*4294967296 ^ 1+0 by omega) (m+2)
  have h2:hi (V*4294967296 ^ 1+0) (m+2)=hi V (m+1):=by
   rw [Int.add_zero,Int.pow_one,show m+2=1+(m+1) by omega,zt7]
   congr 1
   rw [zb2,zb9];omega
  rw [h2,aj,ap] at h1;exact h1
 clear ap hvm aj av hum ai hQB hQV hlo ad q2 q3 af hor hUV
 have aR:St w (w.drewN 0) bu:=(St.refl w bu).drewN 0
 clear ab aC al aR
 simp only [show m+2 - 1=m+1 from rfl]
 go_loopw [7,8] (fun sq sr wr=>∃ (q r:Int),sq=.int .u64 q∧sr=.int .u64 r∧0≤q∧q<8589934592∧0≤r∧r<8589934592∧St w wr bu∧Own wr bu N D∧
   Hid (q*dg V (m+1)+r=dg U (m+2)*4294967296+dg U (m+1)∧U/V≤q)) (fun sq _ _=>(intOf sq).toNat)
 case atStart=>exact ⟨_,_,rfl,rfl,q0,q1,q4,by omega,((St.refl w bu).drewN _).drewN _,(hO.drewN _).drewN _,by have:=Q2.out;refine ⟨?_,this.1⟩;rw [Int.mul_comm];omega⟩
 case round=>
  obtain ⟨q,r,rfl,rfl,ax,aO,aE,aV,hst,hOr,hqr⟩:=hrel
  have al:=hOr.cell (off+m) (by omega)
  rw [hD.out _ (by omega)] at al
  have aT:=(hst.cell (o:=offv+(m+1)) hne).trans aA
  have aQ:=(hst.cell (o:=offv+m) hne).trans aK
  have p0:0≤q*dg V m:=Int.mul_nonneg ax au
  by_cases hex:r<4294967296∧(4294967296≤q∨r*4294967296+dg U m<q*dg V m)
  ·obtain ⟨hr,hh⟩:=hex
   have d1:decide (r<4294967296)=true:=by simpa using hr
   have hor:=or64 r (dg U m) aE hr az aw
   have hlt:U/V<q:=by
    obtain ⟨hvm,hum,hlo,hQB,ai,af⟩:=KN.out
    rcases hh with hh | hh
    ·omega
    ·exact zV3 hlo hvm hum hqr.out.1 hh (zb8 hV.nonneg m)
   have HL:=Lib.hid hlt
   have HK:=Lib.hid KN.out
   have q6:1≤q:=by have:=KN.out.2.2.2.2.1;omega
   clear hlt
   by_cases hqb:4294967296≤q
   ·have d2:decide (4294967296≤q)=true:=by simpa using hqb
    clear hh
    go_wp2
    go_quiet (fail)
    go_wp2
    go_roundw
    case rel=>
     refine ⟨q - 1,r+dg V (m+1),rfl,rfl,by omega,by omega,by omega,by omega,hst.drewN _,hOr.drewN _,?_,by have:=HL.out;omega⟩
     have:=hqr.out.1
     rw [Int.sub_mul];omega
    case measure=>simp [intOf];omega
   ·have d2:decide (4294967296≤q)=false:=by simpa using hqb
    have hp:r*4294967296+dg U m<q*dg V m:=by rcases hh with hh | hh;exact absurd hh hqb;exact hh
    have p1:q*dg V m≤4294967295*4294967295:=Int.mul_le_mul (by omega) (by omega) au (by omega)
    have d3:decide (r*4294967296+dg U m<q*dg V m)=true:=by simpa using hp
    clear hh
    go_wp2
    go_quiet (fail)
    go_wp2
    go_roundw
    case rel=>
     refine ⟨q - 1,r+dg V (m+1),rfl,rfl,by omega,by omega,by omega,by omega,hst.drewN _,hOr.drewN _,?_,by have:=HL.out;omega⟩
     have:=hqr.out.1
     rw [Int.sub_mul];omega
    case measure=>simp [intOf];omega
  ·-- the estimate is right,or one too great
   have aB:q≤4294967295:=by
    rcases Int.lt_or_le r 4294967296 with h | h
    ·rcases Int.lt_or_le q 4294967296 with h2 | h2
     ·omega
     ·exact absurd ⟨h,.inl h2⟩ hex
    ·rcases Int.lt_or_le q 4294967296 with h2 | h2
     ·omega
     ·exfalso
      have h3:=hqr.out.1
      have h4:4294967296*dg V (m+1)≤q*dg V (m+1):=Int.mul_le_mul_of_nonneg_right h2 (by omega)
      have h5:dg U (m+2)≤dg V (m+1):=ak
      omega
   have p1:q*dg V m≤4294967295*4294967295:=Int.mul_le_mul aB (by omega) au (by omega)
   have hfin:q*V<U+V:=by
    obtain ⟨hvm,hum,hlo,hQB,ai,af⟩:=KN.out
    refine knuth_hi m ax aB (by rw [hvm];omega) (zV4 hvm hum hqr.out.1 ?_)
    rcases Int.lt_or_le r 4294967296 with h | h
    ·rcases Int.lt_or_le (r*4294967296+dg U m) (q*dg V m) with h2 | h2
     ·exact absurd ⟨h,.inr h2⟩ hex
     ·exact h2
    ·omega
   have hge:=hqr.out.2
   have FIN:=Lib.hid (And.intro hfin hge)
   have d2:decide (4294967296≤q)=false:=by simp;omega
   have hcase:(decide (r<4294967296)=false∧True)∨(r<4294967296∧decide (r<4294967296)=true∧decide (r*4294967296+dg U m<q*dg V m)=false∧bits BinOp.or IntKind.u64 (r*4294967296) (dg U m)=r*4294967296+dg U m):=by
    rcases Int.lt_or_le r 4294967296 with h | h
    ·rcases Int.lt_or_le (r*4294967296+dg U m) (q*dg V m) with h2 | h2
     ·exact absurd ⟨h,.inr h2⟩ hex
     ·exact .inr ⟨h,by simpa using h,by simpa using h2,or64 r (dg U m) aE h az aw⟩
    ·exact .inl ⟨by simpa using h,trivial⟩
   clear hfin hge hex hqr ak
   rcases hcase with ⟨d1,_⟩ | ⟨dr,d1,d3,hor⟩
   all_goals
    go_wp2
    go_quiet (fail)
    go_wp2
    clear al aT aQ d1 d2 p0 p1 q0 q1 q4 q5 Q2 aJ aH aF aI az aw aS au aU aA aK
    try clear d3 hor
    go_loopw [9,10,86] (fun sc sb si wr=>∃ (c br:Int) (i:Nat) (E:Nat→Int),sc=.int .u64 c∧sb=.int .i64 br∧si=.int .i64 i∧i≤m+2∧0≤c∧c<4294967296∧0≤br∧br≤1∧St w wr bu∧Own wr bu N E∧
     Hid (hi (V*q+0) i=hi V i*q+c∧hi (U - (V*q+0)) i=hi U i - hi (V*q+0) i - br∧(∀ j,j<i→E (off+j)=dg (U - (V*q+0)) j)∧(∀ j,i≤j→j<m+3→E (off+j)=dg U j)∧∀ j,(j<off∨off+(m+3)≤j)→E j=D j)) (fun _ _ si _=>m+2 - (intOf si).toNat)
    case atStart=>exact ⟨0,0,0,D,rfl,rfl,rfl,by omega,by omega,by omega,by omega,by omega,hst.drewN _,hOr.drewN _,by simp [zb9],by simp [zb9],fun j hj=>by omega,fun j _ hj=>hD.out j hj,fun j _=>rfl⟩
    case round=>
     obtain ⟨c,br,i,E,rfl,rfl,rfl,ay,aq,ar,aL,aG,aa,ac,hh⟩:=hrel
     by_cases hlt:i<m+2
     ·have aP:=(aa.cell (o:=offv+i) hne).trans (hvc.out i hlt)
      have ab:=ac.cell (off+i) (by omega)
      have hfree:=ac.free (off+i)
      have e1:=hh.out.2.2.2.1 i (Nat.le_refl _) (by omega)
      rw [e1] at ab
      have E1:=Lib.hid e1
      have hs:=zy1 hh.out.1 aq ar ax (by omega)
      have s1:=hs.2.2.1
      have s2:=hs.2.2.2.1
      have s3:=hs.2.2.2.2.1
      have s4:=hs.2.2.2.2.2
      have HS:=Lib.hid hs
      have x0:=za5 U i
      have x1:=zc6 U i
      have x2:=za5 V i
      have x3:=zc6 V i
      have ecomm:q*dg V i=dg V i*q:=Int.mul_comm _ _
      clear e1 hs
      go_wp2
      all_goals
       have hs:=HS.out
       have hms:=zy0 (a:=U) (b:=V*q+0) hh.out.2.1 aL aG
       go_roundw
       case rel=>
        refine ⟨_,_,i+1,_,rfl,rfl,by go_num,by omega,s1,s2,by omega,by omega,aa.trans (St.setCell _ _ _ _),ac.set (by omega) _,hs.2.1,?_,fun j hj=>?_,fun j h1 h2=>?_,fun j hj=>?_⟩
        ·have h2:=hms.2
         rw [hs.1] at h2
         first | rw [if_pos (by assumption)] at h2 | rw [if_neg (by omega)] at h2
         exact h2
        ·by_cases e:j=i
         ·subst e;rw [zb3,hms.1,hs.1];omega
         ·rw [za7 _ _ (by omega)];exact hh.out.2.2.1 j (by omega)
        ·rw [za7 _ _ (by omega)];exact hh.out.2.2.2.1 j (by omega) h2
        ·rw [za7 _ _ (by omega)];exact hh.out.2.2.2.2 j hj
       case measure=>simp [intOf];omega
     ·obtain rfl:i=m+2:=by omega
      have ab:=ac.cell (off+(m+2)) (by omega)
      have hfree:=ac.free (off+(m+2))
      have e1:=hh.out.2.2.2.1 (m+2) (Nat.le_refl _) (by omega)
      rw [e1] at ab
      have ht:=hh.out.2.1
      have hc:=hh.out.1
      rw [hV.top,Int.zero_mul,Int.zero_add] at hc
      have aj:hi U (m+2)=dg U (m+2):=by have:=zb0 U (m+2);rw [hUt.out] at this;omega
      rw [hc,aj] at ht
      have x0:=za5 U (m+2)
      have x1:=zc6 U (m+2)
      have HT:=Lib.hid ht
      have E1:=Lib.hid e1
      clear e1 hc aj ht
      by_cases hneg:0≤dg U (m+2) - br - c
      ·go_wp2
       go_ret
       have af:=KN.out.2.2.2.2.2
       have aM:0≤U - V*q:=by
        rcases Int.lt_or_le (U - (V*q+0)) 0 with h | h
        ·have:=hi_neg h (m+2);rw [HT.out] at this;omega
        ·omega
       have hmd:=mod_of af aM FIN.out.2
       refine ⟨?_,aa.trans (St.setCell _ _ _ _),_,ac.set (by omega) _,fun i ay=>?_,fun j hj=>?_⟩
       ·rw [← hmd.1];first | rfl | exact congrArg (fun z=>Ending.returned (Value.int .u32 z)) (show q % 4294967296=q by omega)
       ·rw [← hmd.2]
        by_cases e:i=m+2
        ·subst e;rw [zb3]
         have:dg (U - V*q) (m+2)=hi (U - V*q) (m+2) % 4294967296:=rfl
         have h2:=HT.out
         rw [Int.add_zero] at h2
         rw [this,h2];omega
        ·rw [za7 _ _ (by omega)]
         have:=hh.out.2.2.1 i (by omega)
         rw [Int.add_zero] at this;exact this
       ·rw [za7 _ _ (by omega)];exact hh.out.2.2.2.2 j hj
      ·go_wp2
       have aD:=Lib.hid KN.out.2.2.2.2.2
       have hstA:=aa.trans (St.setCell wr bu (off+(m+2)) (.int .u32 ((dg U (m+2) - br - c) % 4294967296)))
       have hOA:=ac.set (w:=wr) (show off+(m+2)<N by omega) ((dg U (m+2) - br - c) % 4294967296)
       have HE:Hid (∀ i,i<m+3→upd E (off+(m+2)) ((dg U (m+2) - br - c) % 4294967296) (off+i)=dg (U - V*q) i):=by
        intro i ay
        by_cases e:i=m+2
        ·subst e;rw [zb3]
         have:dg (U - V*q) (m+2)=hi (U - V*q) (m+2) % 4294967296:=rfl
         have h2:=HT.out
         rw [Int.add_zero] at h2
         rw [this,h2];omega
        ·rw [za7 _ _ (by omega)]
         have:=hh.out.2.2.1 i (by omega)
         rw [Int.add_zero] at this;exact this
       have HN:Hid (U - V*q<0):=by
        rcases Int.lt_or_le (U - V*q) 0 with h | h
        ·exact h
        ·exfalso
         have h2:=zb8 h (m+2)
         have h3:=HT.out
         rw [Int.add_zero] at h3
         omega
       have HOUT:Hid (∀ j,(j<off∨off+(m+3)≤j)→upd E (off+(m+2)) ((dg U (m+2) - br - c) % 4294967296) j=D j):=by
        intro j hj;rw [za7 _ _ (by omega)];exact hh.out.2.2.2.2 j hj
       have aO:1≤q:=by
        have hmb:=zu1 aD.out HN.out FIN.out.1
        have:=KN.out.2.2.2.2.1
        omega
       clear aa ac hh HT E1 hfree hneg aq ar aL aG x0 x1 ab
       go_loopw [9,139] (fun sc si wz=>∃ (c2:Int) (k:Nat) (F:Nat→Int),sc=.int .u64 c2∧si=.int .i64 k∧k≤m+2∧0≤c2∧c2≤1∧St w wz bu∧Own wz bu N F∧
        Hid (hi (U - V*q+V) k=hi (U - V*q) k+hi V k+c2∧(∀ j,j<k→F (off+j)=dg (U - V*q+V) j)∧(∀ j,k≤j→j<m+3→F (off+j)=dg (U - V*q) j)∧∀ j,(j<off∨off+(m+3)≤j)→F j=D j)) (fun _ si _=>m+2 - (intOf si).toNat)
       case atStart=>exact ⟨0,0,_,rfl,rfl,by omega,by omega,by omega,hstA,hOA,by simp [zb9],fun j hj=>by omega,fun j _ hj=>HE.out j hj,HOUT.out⟩
       case round=>
        obtain ⟨c2,k,F,rfl,rfl,aX,aq,ar,ae,ah,hh⟩:=hrel
        by_cases hlt:k<m+2
        ·have aP:=(ae.cell (o:=offv+k) hne).trans (hvc.out k hlt)
         have ab:=ah.cell (off+k) (by omega)
         have hfree:=ah.free (off+k)
         have e1:=hh.out.2.2.1 k (Nat.le_refl _) (by omega)
         rw [e1] at ab
         have HS:=Lib.hid (zt8 hh.out.1 aq ar)
         have x0:=za5 (U - V*q) k
         have x1:=zc6 (U - V*q) k
         have x2:=za5 V k
         have x3:=zc6 V k
         clear e1
         go_wp2
         go_roundw
         case rel=>
          have hs:=HS.out
          refine ⟨_,k+1,_,rfl,by go_num,by omega,?_,?_,ae.trans (St.setCell _ _ _ _),ah.set (by omega) _,?_,fun j hj=>?_,fun j h1 h2=>?_,fun j hj=>?_⟩
          ·go_num
          ·go_num
          ·rw [hs.2.1];go_num
          ·by_cases e:j=k
           ·subst e;rw [zb3,hs.1];go_num
           ·rw [za7 _ _ (by omega)];exact hh.out.2.1 j (by omega)
          ·rw [za7 _ _ (by omega)];exact hh.out.2.2.1 j (by omega) h2
          ·rw [za7 _ _ (by omega)];exact hh.out.2.2.2 j hj
         case measure=>simp [intOf];omega
        ·obtain rfl:k=m+2:=by omega
         have ab:=ah.cell (off+(m+2)) (by omega)
         have hfree:=ah.free (off+(m+2))
         have e1:=hh.out.2.2.1 (m+2) (Nat.le_refl _) (by omega)
         rw [e1] at ab
         have HS:=Lib.hid (zp1 hh.out.1 aq ar hV.top)
         have x0:=za5 (U - V*q) (m+2)
         have x1:=zc6 (U - V*q) (m+2)
         clear e1
         go_wp2
         go_ret
         have hmd:=zu1 aD.out HN.out FIN.out.1
         refine ⟨?_,ae.trans (St.setCell _ _ _ _),_,ah.set (by omega) _,fun i ay=>?_,fun j hj=>?_⟩
         ·rw [← hmd.1];first | rfl | exact congrArg (fun z=>Ending.returned (Value.int .u32 z)) (show (q - 1) % 4294967296=q - 1 by omega)
         ·rw [← hmd.2]
          by_cases e:i=m+2
          ·subst e;rw [zb3,HS.out.1];go_num
          ·rw [za7 _ _ (by omega)];exact hh.out.2.1 i (by omega)
         ·rw [za7 _ _ (by omega)];exact hh.out.2.2.2 j hj
end Go.Proofs.YthhbibpaeonecaaGreatDoor
namespace Go.Proofs.YthhbibpaeonecaaGreatDoor

theorem zi7:∀ (f x:Nat),0<x→x<2 ^ f→∃ L,Lib.bitLenAux f x=L+1∧2 ^ L≤x∧x<2 ^ (L+1)
 | 0,x,h0,h1=>by simp at h1;omega
 | f+1,x,h0,h1=>by
  by_cases h:x=1
  ·subst h
   refine ⟨0,?_,by simp,by simp⟩
   cases f<;>simp [Lib.bitLenAux]
  ·obtain ⟨L,e1,e2,e3⟩:=zi7 f (x/2) (by omega) (by rw [Nat.pow_succ] at h1;omega)
   refine ⟨L+1,?_,by rw [Nat.pow_succ];omega,by rw [Nat.pow_succ];omega⟩
   simp only [Lib.bitLenAux,show ¬ x=0 by omega,if_false,e1];omega
theorem leadz {x:Int} (h0:0<x) (h1:x<4294967296):∃ s:Nat,s<32∧32 - (Lib.bitLen x.toNat:Int)=s∧2147483648≤x*2 ^ s∧x*2 ^ s<4294967296:=by
 obtain ⟨n,rfl⟩:=Int.eq_ofNat_of_zero_le (Int.le_of_lt h0)
 have h4:=Lib.bitLen_le n 32 (by omega) (by omega)
 obtain ⟨L,e1,e2,e3⟩:=zi7 64 n (by omega) (by omega)
 have e4:Lib.bitLen n=L+1:=e1
 refine ⟨31 - L,by omega,by simp only [Int.toNat_natCast];omega,?_⟩
 have e5:2 ^ L*2 ^ (31 - L)=2147483648:=by rw [← Nat.pow_add,show L+(31 - L)=31 by omega]
 have e6:2 ^ (L+1)*2 ^ (31 - L)=4294967296:=by rw [← Nat.pow_add,show L+1+(31 - L)=32 by omega]
 have p:0<2 ^ (31 - L):=Nat.pow_pos (by omega)
 have e7:=Nat.mul_le_mul_right (2 ^ (31 - L)) e2
 have e8:=Nat.mul_lt_mul_of_pos_right e3 p
 have e9:((n:Int)*2 ^ (31 - L))=((n*2 ^ (31 - L):Nat):Int):=by simp
 rw [e9];omega

theorem zi0 (b:Int) {p:Int} (hp:0<p):∀ k,hi b k*p≤hi (b*p) k∧hi (b*p) k<(hi b k+1)*p
 | 0=>by rw [zb9,zb9,Int.add_mul];omega
 | k+1=>by
  have h:=zi0 b hp k
  have hs:=zb0 b k
  have d0:=za5 b k
  have d1:=zc6 b k
  rw [zb2 (b*p)]
  have e1:hi b k*p=4294967296*(hi b (k+1)*p)+dg b k*p:=by rw [hs];grind
  have e2:(hi b k+1)*p=4294967296*(hi b (k+1)*p)+(dg b k+1)*p:=by rw [hs];grind
  have e3:(hi b (k+1)+1)*p=hi b (k+1)*p+p:=by grind
  have e4:0≤dg b k*p:=Int.mul_nonneg d0 (by omega)
  have e5:(dg b k+1)*p≤4294967296*p:=Int.mul_le_mul_of_nonneg_right (by omega) (by omega)
  rw [e1,e2] at h
  rw [e3]
  omega
theorem norm_nl {b:Int} {m s:Nat} (hb:NL b (m+1)) (h1:2147483648≤dg b m*2 ^ s) (h2:dg b m*2 ^ s<4294967296) (hs:s<32):NL (b*2 ^ s) (m+1)∧2147483648≤dg (b*2 ^ s) m:=by
 have hp:(0:Int)<2 ^ s:=Int.pow_pos (by omega)
 have ht:=hb.topdig (by omega)
 simp only [Nat.add_sub_cancel] at ht
 have h3:=zi0 b hp m
 rw [← ht.1] at h3
 obtain ⟨aa,_,ab⟩:=zm9 hs
 have h4:(dg b m+1)*2 ^ s≤4294967296:=by
  rw [← aa,Int.mul_comm (2 ^ s)] at h2
  have h5:=Int.lt_of_mul_lt_mul_right h2 (Int.le_of_lt hp)
  rw [← aa,Int.mul_comm (2 ^ s)]
  exact Int.mul_le_mul_of_nonneg_right (by omega) (Int.le_of_lt hp)
 have h6:hi (b*2 ^ s) (m+1)=0:=by rw [zb2];omega
 have h7:=zb0 (b*2 ^ s) m
 rw [h6] at h7
 exact ⟨⟨Int.mul_nonneg hb.nonneg (by omega),h6,fun _=>by simp only [Nat.add_sub_cancel];omega⟩,by omega⟩
theorem NL.uniq {n:Int} {k m:Nat} (h:NL n k) (g:NL n m):k=m:=by
 rcases Nat.lt_trichotomy k m with e | e | e
 ·exact absurd (zp0 h.top (by omega)) (g.full (by omega))
 ·exact e
 ·exact absurd (zp0 g.top (by omega)) (h.full (by omega))
def win (U V:Int) (i:Nat):Int:=hi U (i+1) % V*4294967296+dg U i
theorem win_hi (U V:Int) (i:Nat):hi (win U V i) 1=hi U (i+1) % V:=by
 have d0:=za5 U i
 have d1:=zc6 U i
 unfold win
 rw [zb2,zb9];omega
theorem win_dg0 (U V:Int) (i:Nat):dg (win U V i) 0=dg U i:=by
 have d0:=za5 U i
 have d1:=zc6 U i
 have:dg (win U V i) 0=win U V i % 4294967296:=rfl
 rw [this];unfold win;omega
theorem win_dgs (U V:Int) (i k:Nat):dg (win U V i) (k+1)=dg (hi U (i+1) % V) k:=by
 unfold dg
 rw [Nat.add_comm k 1,zt7,win_hi]
theorem zS8 (U:Int) {V:Int} (hV:0<V) (i:Nat):win U V i<V*4294967296∧0≤win U V i:=by
 have d0:=za5 U i
 have d1:=zc6 U i
 have h1:=Int.emod_nonneg (hi U (i+1)) (show V≠0 by omega)
 have h2:=Int.emod_lt_of_pos (hi U (i+1)) hV
 unfold win;omega
theorem win_top (U:Int) {V:Int} {n:Nat} (hV:0<V) (hn:hi V n=0) (i:Nat):hi (win U V i) (n+1)=0:=by
 have h1:=Int.emod_nonneg (hi U (i+1)) (show V≠0 by omega)
 have h2:=Int.emod_lt_of_pos (hi U (i+1)) hV
 rw [Nat.add_comm,zt7,win_hi]
 have h3:=zh2 (Int.le_of_lt h2) n
 have h4:=zb8 h1 n
 omega
theorem zS9 (U:Int) {V:Int} (hV:0<V) (i:Nat):win U V i/V=dg (U/V) i∧win U V i % V=hi U i % V:=by
 have hs:=zb0 U i
 have aa:=za5 U i
 have hd:=zc6 U i
 have hlt:=zS8 U hV i
 have e1:hi U i=win U V i+V*(4294967296*(hi U (i+1)/V)):=by
  have:=Int.emod_add_mul_ediv (hi U (i+1)) V
  unfold win;rw [hs];grind
 have e2:hi (U/V) i=win U V i/V+4294967296*(hi U (i+1)/V):=by
  rw [zq8 U V hV,e1,Int.add_mul_ediv_left _ _ (show V≠0 by omega)]
 have h4:win U V i/V<4294967296:=Int.ediv_lt_of_lt_mul hV (by rw [Int.mul_comm];exact hlt.1)
 have h5:0≤win U V i/V:=Int.ediv_nonneg hlt.2 (by omega)
 have hdd:dg (U/V) i=hi (U/V) i % 4294967296:=rfl
 refine ⟨by rw [hdd,e2];omega,?_⟩
 rw [e1,Int.add_mul_emod_self_left]
theorem first_lt {a b p:Int} {q m:Nat} (ha:hi a (q+(m+1))=0) (hb:NL b (m+1)) (hp:0<p):hi (a*p) (q+1)<b*p:=by
 have hbt:=hb.full (by omega)
 simp only [Nat.add_sub_cancel] at hbt
 have aa:=zb8 hb.nonneg m
 have h2:=(zi0 a hp (q+1)).2
 have h3:hi a (q+1)<b:=by
  rcases Int.lt_or_le (hi a (q+1)) b with h | h
  ·exact h
  ·have h4:=zh2 h m
   rw [← zt7,show q+1+m=q+(m+1) by omega,ha] at h4
   omega
 have h5:(hi a (q+1)+1)*p≤b*p:=Int.mul_le_mul_of_nonneg_right (by omega) (by omega)
 omega
end Go.Proofs.YthhbibpaeonecaaGreatDoor
namespace Go.Proofs.YthhbibpaeonecaaGreatDoor
open Go.RowKit

theorem Own.st {w w':World} {b c n:Nat} {d:Nat→Int} (h:Own w c n d) (hs:St w w' b) (hc:c≠b):Own w' c n d:=by
 obtain ⟨cs,hb,hr⟩:=h.raw
 exact ⟨cs,by rw [hs.block c hc];exact hb,hr⟩
theorem dg_top {n:Int} {k j:Nat} (h:hi n k=0) (hj:k≤j):dg n j=0:=by
 have:dg n j=hi n j % 4294967296:=rfl
 rw [this,zp0 h hj];rfl

set_option maxRecDepth 100000 in
set_option maxHeartbeats 1000000 in
theorem divide_c (ao bo:Option Addr) (la lb ca cb:Nat) (a b:Int) (w:World) (hla:la≤1000000) (hlb:lb≤1000000) (ha:Mag w ao la ca a) (hb:Mag w bo lb cb b) (av:0<b):
    Calls Tryz.prog 109 #[.slice ao la ca,.slice bo lb cb] w fun e w'=>
      (∃ qo qk qc ro rk rc,e=.returned (.tuple #[.slice qo qk qc,.slice ro rk rc])∧Mag w' qo qk qc (a/b)∧Mag w' ro rk rc (a % b))∧Gr w w':=by
  have a0:=ha.nl.nonneg
  rcases Int.lt_or_le a b with hab | hab
  · go_enter Tryz.func109,Tryz.ntmps109
    go_wp2_with fail
    refine (zz7 ao bo la lb ca cb a b _ (by omega) (by omega) ha hb).mono ?_
    rintro e w1 ⟨rfl,hG⟩
    rw [zl4 (show a - b<0 by omega)]
    go_wp2
    go_ret2
    exact ⟨⟨_,_,_,_,_,_,rfl,by rw [Int.ediv_eq_zero_of_lt a0 hab];exact ⟨Nat.le_refl _,NL.zero,Row.nil _ _ _⟩,by rw [Int.emod_eq_of_lt a0 hab];exact ha.below hG⟩,hG⟩
  · have aU:decide (sgn (a - b)<0)=false:=by
      unfold sgn;rw [if_neg (by omega)];split<;>rfl
    have aK:0<lb:=by
      rcases Nat.eq_zero_or_pos lb with h | h
      · have:=hb.nl.len_zero.1 h;omega
      · exact h
    by_cases hl1:lb=1
    · subst hl1
      obtain ⟨b1,ab,rfl,hcs⟩:=hb.row.at_ (by omega)
      have e0:dg b 0=b:=by
        have h1:=hb.nl.top
        have h2:=zb0 b 0
        rw [h1,zb9] at h2;omega
      have hc:=hcs 0 (by omega)
      rw [e0,Nat.add_zero] at hc
      have aQ:b<4294967296:=by have:=zc6 b 0;omega
      go_enter Tryz.func109,Tryz.ntmps109
      go_wp2_with fail
      refine (zz7 ao _ la 1 ca cb a b _ (by omega) (by omega) ha hb).mono ?_
      rintro e w1 ⟨rfl,hG⟩
      have aR:=((zS4 hG).1 b1 ab (World.block_lt_of_cell? w _ hc)).trans hc
      go_wp2_with fail
      refine (zS5 ao la ca a b _ (by omega) (ha.below hG) av aQ).mono ?_
      rintro e w2 ⟨⟨go,k,cap,rfl,hm⟩,ah⟩
      have ad:Gr w w2:=Gr.trans hG ah
      go_wp2_with fail
      have m0:=Int.emod_nonneg a (show b≠0 by omega)
      have m1:=Int.emod_lt_of_pos a av
      have aO:dg (a % b) 0=a % b:=by
        have:dg (a % b) 0=a % b % 4294967296:=rfl
        rw [this];omega
      have aS:hi (a % b) 1=0:=by rw [zb2,zb9];omega
      have hfr:=zj1 w2 (.cells #[.int .u32 (a % b)] 136)
      have hrow:Row (w2.alloc (.cells #[.int .u32 (a % b)] 136)) (some ⟨w2.heap.size,0,none⟩) 1 (dg (a % b)):=
        ⟨fun _ => ⟨_, 0, _, _, rfl, hfr.2.1, fun i hi0 => by obtain rfl : i = 0 := by omega
                                                             rw [aO];rfl⟩⟩
      refine (zm8 _ 1 1 (a % b) _ (by omega) (by omega) m0 aS hrow).mono ?_
      rintro e w3 ⟨⟨k2,rfl,aL,aH⟩,rfl⟩
      go_wp2
      go_ret2
      exact ⟨⟨_,_,_,_,_,_,rfl,hm.below hfr.1,aL⟩,ad.trans hfr.1⟩
    · obtain ⟨m,rfl⟩:∃ m,lb=m+2:=⟨lb - 2,by omega⟩
      have hge:m+2≤la:=by
        rcases Nat.lt_or_ge la (m+2) with h | h
        · exfalso
          have h1:=zh2 hab (m+1)
          have h2:=zp0 ha.nl.top (show la≤m+1 by omega)
          have h3:=hb.nl.full (by omega)
          simp only [show m+2 - 1=m+1 from rfl] at h3
          have h4:=zb8 hb.nl.nonneg (m+1)
          omega
        · exact h
      obtain ⟨q,rfl⟩:∃ q,la=q+(m+2):=⟨la - (m+2),by omega⟩
      obtain ⟨b1,ab,rfl,hcs⟩:=hb.row.at_ (by omega)
      have hc:=hcs (m+1) (by omega)
      have t0:0<dg b (m+1):=(hb.nl.topdig (by omega)).2
      have t1:=zc6 b (m+1)
      obtain ⟨s,ai,aM,aC,aF⟩:=leadz t0 t1
      have hp:(0:Int)<2 ^ s:=Int.pow_pos (by omega)
      obtain ⟨hV,hnorm⟩:=norm_nl hb.nl aC aF ai
      have aD:0<b*2 ^ s:=Int.mul_pos av hp
      have hne:((m+2:Nat):Int)≠1:=by omega
      have aW:(((m+2:Nat):Int)==1)=false:=by simpa using hne
      clear hcs
      go_enter Tryz.func109,Tryz.ntmps109
      go_wp2_with fail
      refine (zz7 ao _ _ _ ca cb a b _ (by omega) (by omega) ha hb).mono ?_
      rintro e w1 ⟨rfl,hG⟩
      have aR:=((zS4 hG).1 b1 (ab+(m+1)) (World.block_lt_of_cell? w _ hc)).trans hc
      go_wp2_with fail
      refine (Tryz.bits_LeadingZeros32 (dg b (m+1)) _ (by omega) (by omega)).mono ?_
      rintro e aT ⟨rfl,rfl⟩
      rw [aM]
      go_wp2_with fail
      refine (zL0 ao _ ca a s _ (by omega) (ha.below hG) ai).mono ?_
      rintro e w2 ⟨⟨gu,rfl,hgu,hOu,htu⟩,ah⟩
      have af:=Gr.trans hG ah
      go_wp2_with fail
      refine (zL0 _ _ cb b s _ (by omega) (hb.below af) ai).mono ?_
      rintro e w3 ⟨⟨gv,rfl,hgv,hOv,htv⟩,ad⟩
      have ac:=Gr.trans af ad
      have hltu:=hOu.lt
      have hltv:=hOv.lt
      have ak:=hOu.gr ad
      go_wp2_with fail
      refine (zm8 _ (m+2+1) (m+2+1) (b*2 ^ s) _ (by omega) (by omega) hV.nonneg htv hOv.row).mono ?_
      rintro e w4 ⟨⟨k,rfl,hMv,hk⟩,rfl⟩
      obtain rfl:k=m+2:=hMv.nl.uniq hV
      go_wp2_with (at_make;refine zc3 _ rfl _ _ rfl _ _ (q+1) rfl rfl ?h1 ?h2 (by omega) ?_)
      case h1=>omega
      case h2=>omega
      intro w5 hOq au hsz
      have al:=ak.below au
      have aq:=hOv.below au
      have ax:Gr w w5:=Gr.trans ac au
      have aI:=hG.size
      have aJ:=ah.size
      go_wp2
      have hlq:hi (a*2 ^ s) (q+1)<b*2 ^ s:=first_lt (m:=m+1) ha.nl.top hb.nl hp
      have ae:0≤hi (a*2 ^ s) (q+1):=zb8 (Int.mul_nonneg a0 (by omega)) _
      have hbase:w.heap.size≤w3.heap.size:=ac.size
      have hugv:gu≠gv:=by omega
      have huq:gu≠w3.heap.size:=by have:=ad.size;omega
      have hvq:gv≠w3.heap.size:=by omega
      have HP:=Lib.hid (And.intro hp (And.intro aD (And.intro hlq ae)))
      clear hp hlq ae
      have hQd:(a*2 ^ s)/(b*2 ^ s)=a/b:=Int.mul_ediv_mul_of_pos_left _ _ HP.out.1
      have hRd:(a*2 ^ s) % (b*2 ^ s)=a % b*2 ^ s:=by rw [Int.mul_comm a,Int.mul_comm b,Int.mul_emod_mul_of_pos _ _ HP.out.1,Int.mul_comm]
      have HQ:=Lib.hid (And.intro hQd hRd)
      clear hQd hRd
      clear aD aC aF hsz
      have aB:0≤a*2 ^ s:=Int.mul_nonneg a0 (Int.le_of_lt HP.out.1)
      generalize hUU:a*2 ^ s=U at*
      generalize hVV:b*2 ^ s=V at*
      generalize hgq:w3.heap.size=gq at*
      go_loopw [11] (fun i wr=>∃ (k:Nat) (d E:Nat→Int),i=.int .i64 ((k:Int) - 1)∧k≤q+1∧Own wr gu (q+(m+2)+1) E∧Own wr gv (m+2+1) (dg V)∧Own wr gq (q+1) d∧Gr w wr∧
        Hid ((∀ j,j<k→E j=dg U j)∧(∀ j,k+j<q+(m+2)+1→E (k+j)=dg (hi U k % V) j)∧∀ j,k≤j→j<q+1→d j=dg (U/V) j)) (fun i _=>(intOf i+1).toNat)
      case atStart=>
        refine ⟨q+1,_,_,by go_num,Nat.le_refl _,al,aq,hOq,ax,fun j _=>rfl,fun j hj=>?_,fun j h1 h2=>by omega⟩
        rw [Int.emod_eq_of_lt HP.out.2.2.2 HP.out.2.2.1]
        unfold dg
        rw [zt7]
      case round=>
        obtain ⟨k,d,E,rfl,hk,hOu,hOv,hOq,hGr,hh⟩:=hrel
        by_cases hpos:0<k
        · obtain ⟨j,rfl⟩:∃ j,k=j+1:=⟨k - 1,by omega⟩
          have e1:(((j+1:Nat):Int) - 1)=(j:Int):=by omega
          simp only [e1]
          have hfree:=hOq.free j
          have hcq:=hOq.cell j (by omega)
          clear e1
          go_wp2_with fail
          rw [show j+(m+2)+1 - j=m+3 by omega]
          refine (digit_c gu j _ gv 0 _ m (q+(m+2)+1) E (win U V j) V _ (by omega) (by omega) (by omega) hOu ?g1 ?g2 ?g3 hV ?g4 (Ne.symm hugv) hnorm ?g5).mono ?_
          case g1=>
            intro i hi0
            cases i with
            | zero=>rw [win_dg0];exact hh.out.1 j (by omega)
            | succ i=>rw [win_dgs,show j+(i+1)=j+1+i by omega];exact hh.out.2.1 i (by omega)
          case g2=>exact (zS8 U HP.out.2.1 j).2
          case g3=>exact win_top U HP.out.2.1 hV.top j
          case g4=>intro i hi0;rw [Nat.zero_add];exact hOv.cell i (by omega)
          case g5=>exact (zS8 U HP.out.2.1 j).1
          rintro e w6 ⟨rfl,hst,D',ap,ar,aG⟩
          rw [(zS9 U HP.out.2.1 j).1]
          have aw:=hOv.st hst (Ne.symm hugv)
          have aa:=hOq.st hst (Ne.symm huq)
          have aj:=hst.gr hGr (by omega)
          have hfree:=aa.free j
          have hcq:=aa.cell j (by omega)
          have az:=(zS9 U HP.out.2.1 j).2
          rw [az] at ar
          have HW:=Lib.hid (And.intro ar aG)
          clear ar aG az
          go_wp2
          go_roundw
          case rel=>
            refine ⟨j,_,D',rfl,by omega,ap.st (St.setCell _ _ _ _) huq,aw.st (St.setCell _ _ _ _) hvq,aa.set (by omega) _,(St.setCell _ _ _ _).gr aj (by omega),fun i hi0=>?_,fun i hi0=>?_,fun i h1 h2=>?_⟩
            · rw [HW.out.2 i (by omega)];exact hh.out.1 i (by omega)
            · by_cases hi1:i<m+3
              · exact HW.out.1 i hi1
              · have z1:dg (hi U j % V) i=0:=dg_top (k:=m+2) (by
                  have h1:=Int.emod_nonneg (hi U j) (show V≠0 by have:=HP.out.2.1;omega)
                  have h2:=Int.emod_lt_of_pos (hi U j) HP.out.2.1
                  have h3:=zh2 (Int.le_of_lt h2) (m+2)
                  have h4:=zb8 h1 (m+2)
                  rw [hV.top] at h3
                  exact Int.le_antisymm h3 h4) (by omega)
                have z2:dg (hi U (j+1) % V) (i - 1)=0:=dg_top (k:=m+2) (by
                  have h1:=Int.emod_nonneg (hi U (j+1)) (show V≠0 by have:=HP.out.2.1;omega)
                  have h2:=Int.emod_lt_of_pos (hi U (j+1)) HP.out.2.1
                  have h3:=zh2 (Int.le_of_lt h2) (m+2)
                  have h4:=zb8 h1 (m+2)
                  rw [hV.top] at h3
                  exact Int.le_antisymm h3 h4) (by omega)
                rw [z1,HW.out.2 (j+i) (by omega),← z2,show j+i=j+1+(i - 1) by omega]
                exact hh.out.2.1 (i - 1) (by omega)
            · by_cases e:i=j
              · subst e;rw [zb3]
              · rw [za7 _ _ e];exact hh.out.2.2 i (by omega) h2
          case measure=>simp [intOf];try omega
        · obtain rfl:k=0:=by omega
          have aN:=HP.out.2.1
          have m0:=Int.emod_nonneg U (show V≠0 by omega)
          have m1:U % V≤U:=by
            have h1:=Int.emod_add_mul_ediv U V
            have h2:0≤V*(U/V):=Int.mul_nonneg (by omega) (Int.ediv_nonneg aB (by omega))
            omega
          have q0:0≤U/V:=Int.ediv_nonneg aB (by omega)
          have q1:hi (U/V) (q+1)=0:=by
            rw [zq8 U V aN]
            exact Int.ediv_eq_zero_of_lt HP.out.2.2.2 HP.out.2.2.1
          have m2:hi (U % V) (q+(m+2)+1)=0:=by
            have h1:=zh2 m1 (q+(m+2)+1)
            have h2:=zb8 m0 (q+(m+2)+1)
            omega
          go_wp2_with fail
          refine (zm8 _ (q+1) (q+1) (U/V) _ (by omega) (by omega) q0 q1 (hOq.congr (fun i hi0=>hh.out.2.2 i (by omega) hi0)).row).mono ?_
          rintro e w6 ⟨⟨k1,rfl,ay,aV⟩,rfl⟩
          go_wp2_with fail
          refine (zm8 _ (q+(m+2)+1) (q+(m+2)+1) (U % V) _ (by omega) (by omega) m0 m2 (hOu.congr (fun i hi0=>by
            have:=hh.out.2.1 i (by omega)
            rw [Nat.zero_add,zb9] at this;exact this)).row).mono ?_
          rintro e w6 ⟨⟨k2,rfl,aP,aH⟩,rfl⟩
          go_wp2_with fail
          refine (zS7 _ k2 _ (U % V) s _ (by omega) aP ai).mono ?_
          rintro e w7 ⟨⟨go,k3,cap,rfl,aE⟩,aA⟩
          go_wp2
          go_ret2
          rw [HQ.out.1] at ay
          rw [HQ.out.2,Int.mul_ediv_cancel _ (show (2:Int) ^ s≠0 by have:=HP.out.1;omega)] at aE
          exact ⟨⟨_,_,_,_,_,_,rfl,ay.below aA,aE⟩,Gr.trans hGr aA⟩
theorem zs6 {w:World} {ao bo:Option Addr} {la lb ca cb:Nat} {a b:Int} (ha:Mag w ao la ca a) (hb:Mag w bo lb cb b) (hla:la≤1000000) (hlb:lb≤1000000) (hb0:0<b):
  Calls Tryz.prog 109 #[.slice ao la ca,.slice bo lb cb] w fun e w'=>
   (∃ qo qk qc ro rk rc,e=.returned (.tuple #[.slice qo qk qc,.slice ro rk rc])∧Mag w' qo qk qc (a/b)∧Mag w' ro rk rc (a % b))∧Gr w w':=divide_c ao bo la lb ca cb a b w hla hlb ha hb hb0
theorem zs7 {neg:Bool} {ao:Option Addr} {len cap:Nat} {n Z:Int} {K:Nat} {w:World} (h:Mag w ao len cap n) (hn:n=(Z.natAbs:Int)) (hs:0<n→neg=decide (Z<0)) (hz:Sz K Z) (hK:K≤1000000):
  Calls Tryz.prog 91 #[.bool neg,.slice ao len cap] w fun e w'=>(∃ x y,e=.returned (.agg #[x,y])∧IsInt w' K x y Z)∧Gr w w':=by
 have hl:len≤K:=h.nl.len_sz (by rw [hn];exact hz.nat)
 refine (zf1 neg ao len cap n w (by omega) h.cap h.nl.nonneg h.nl.top h.row).mono ?_
 rintro e w1 ⟨⟨k,he,hm,_⟩,hB⟩
 exact ⟨⟨_,_,he,IsInt.mk' (hm.below hB) hn hs hz⟩,hB⟩
theorem zU4 {ao:Option Addr} {len cap:Nat} {n:Int} {K:Nat} {w:World} (h:Mag w ao len cap n) (hn:0<n) (hz:Sz K n) (hK:K≤1000000):
  Calls Tryz.prog 91 #[.bool false,.slice ao len cap] w fun e w'=>(∃ k,e=.returned (.agg #[.bool false,.slice ao k cap])∧IsInt w' K (.bool false) (.slice ao k cap) n)∧Gr w w':=by
 have hl:len≤K:=h.nl.len_sz hz
 refine (zf1 false ao len cap n w (by omega) h.cap h.nl.nonneg h.nl.top h.row).mono ?_
 rintro e w1 ⟨⟨k,he,hm,_⟩,hB⟩
 refine ⟨⟨k,he,?_⟩,hB⟩
 exact IsInt.mk' (s:=false) (hm.below hB) (by omega) (fun _=>by simp;omega) hz
theorem zU5 {ao:Option Addr} {len cap:Nat} {n:Int} {K:Nat} {w:World} (h:Mag w ao len cap n) (hn:0<n) (hz:Sz K n) (hK:K≤1000000):
  Calls Tryz.prog 91 #[.bool true,.slice ao len cap] w fun e w'=>(∃ k,e=.returned (.agg #[.bool true,.slice ao k cap])∧IsInt w' K (.bool true) (.slice ao k cap) (-n))∧Gr w w':=by
 have hl:len≤K:=h.nl.len_sz hz
 refine (zf1 true ao len cap n w (by omega) h.cap h.nl.nonneg h.nl.top h.row).mono ?_
 rintro e w1 ⟨⟨k,he,hm,_⟩,hB⟩
 have hm':=hm.below hB
 have hk:decide (0<k)=true:=by
  rw [decide_eq_true_eq]
  rcases Nat.eq_zero_or_pos k with h0 | h0
  ·have:=hm.nl.len_zero.1 h0;omega
  ·exact h0
 rw [hk] at he
 have:=IsInt.mk' (s:=true) hm' (z:=-n) (by omega) (fun _=>by simp;omega) hz.neg
 rw [hk] at this
 exact ⟨⟨k,he,this⟩,hB⟩
theorem zt2 {k:Nat} {x y:Value} {w:World} (hz:IsInt w k x y 0):
  Calls Tryz.prog 81 #[.agg #[x,y]] w fun e w'=>e=.returned (.int .i64 0)∧Gr w w':=zL7 hz
theorem zf2 {k:Nat} {x y:Value} {z:Int} {w:World} (hz:IsInt w k x y z) (h:0<z):
  Calls Tryz.prog 81 #[.agg #[x,y]] w fun e w'=>e=.returned (.int .i64 1)∧Gr w w':=by
 have:=zL7 hz
 rw [zo9 h] at this
 exact this
theorem zA0 {k:Nat} {x y:Value} {z:Int} {w:World} (hz:IsInt w k x y z) (h:z<0):
  Calls Tryz.prog 81 #[.agg #[x,y]] w fun e w'=>e=.returned (.int .i64 (-1))∧Gr w w':=by
 have:=zL7 hz
 rw [zl4 h] at this
 exact this
theorem IsInt.resz {w:World} {k m:Nat} {x y:Value} {z:Int} (h:IsInt w k x y z) (hz:Sz m z):IsInt w m x y z:=by
 obtain ⟨ao,len,cap,h1,h2,h3,h4⟩:=h
 exact ⟨ao,len,cap,h1,h2,h3,hz⟩
theorem IsInt.len {w:World} {k:Nat} {x:Value} {ao:Option Addr} {len cap:Nat} {z:Int} (h:IsInt w k x (.slice ao len cap) z):len≤k:=by
 obtain ⟨ao',len',cap',h1,h2,h3,h4⟩:=h
 simp only [Value.slice.injEq] at h2
 obtain ⟨rfl,rfl,rfl⟩:=h2
 exact h3.nl.len_sz h4.nat

theorem Sz.i64 {z:Int} (h0:-9223372036854775808≤z) (h1:z≤9223372036854775807):Sz 64 z:=by unfold Sz;omega

set_option maxRecDepth 100000 in
set_option maxHeartbeats 1000000 in
theorem zt3 (z:Int) (h0:-9223372036854775808≤z) (h1:z≤9223372036854775807) (w:World):
  Calls Tryz.prog 66 #[.int .i64 z] w fun e w'=>(∃ x y,e=.returned (.agg #[x,y])∧IsInt w' 64 x y z)∧Gr w w':=by
 have key:∀ (w1:World) (c0 c1:Int),c0=(z.natAbs:Int) % 4294967296→c1=(z.natAbs:Int)/4294967296→Row (w1.alloc (.cells #[.int .u32 c0,.int .u32 c1] 136)) (some ⟨w1.heap.size,0,none⟩) 2 (dg (z.natAbs:Int)):=by
  rintro w1 _ _ rfl rfl
  refine ⟨fun _=>⟨_,0,_,_,rfl,(zj1 _ _).2.1,fun i ab=>?_⟩⟩
  have e0:dg (z.natAbs:Int) 0=(z.natAbs:Int) % 4294967296:=rfl
  have e1:dg (z.natAbs:Int) 1=(z.natAbs:Int)/4294967296:=by
   have:dg (z.natAbs:Int) 1=(z.natAbs:Int)/4294967296 % 4294967296:=rfl
   rw [this];omega
  rcases i with _ | _ | i
  ·rw [e0];rfl
  ·rw [e1];rfl
  ·omega
 have ht:hi (z.natAbs:Int) 2=0:=by rw [zb2,zb2,zb9];omega
 have ew:z<0→IntKind.u64.wrap (-IntKind.u64.wrap z)=(z.natAbs:Int):=by
  intro h
  rw [IntKind.wrap_u64,IntKind.wrap_u64];omega
 by_cases hn:z<0
 ·have hd:decide (z<0)=true:=by simpa using hn
  have ew':=Lib.hid (ew hn)
  clear ew
  go_enter Tryz.func66,Tryz.ntmps66
  go_wp2_with fail
  refine (zf1 true _ 2 2 (z.natAbs:Int) _ (by omega) (by omega) (by omega) ht ?g1).mono ?_
  case g1=>
   refine cast ?_ (key (w.alloc (.cells #[.bool false,.slice none 0 0] 31)) _ _ rfl rfl)
   rw [ew'.out]
   have:(z.natAbs:Int)/4294967296 % 4294967296=(z.natAbs:Int)/4294967296:=by omega
   rw [this]
   simp
  rintro e w1 ⟨⟨k,rfl,hm,hk⟩,hB⟩
  obtain ⟨g0,f0,f1,fs⟩:=zj2 w (.cells #[.bool false,.slice none 0 0] 31) (.cells #[.int .u32 (IntKind.u64.wrap (-IntKind.u64.wrap z) % 4294967296),.int .u32 (IntKind.u64.wrap (-IntKind.u64.wrap z)/4294967296 % 4294967296)] 136)
  have p3:=Gr.heap hB f0
  have d0:=zb1 p3 0
  have d1:=zb1 p3 1
  have d2:=zj3 p3
  have aa:Gr w w1:=Gr.trans g0 hB
  have hMM:=hm.kp (Gr.kp hB)
  clear f0 f1 fs hB g0
  go_wp2
  have p4:=za8 (i:=1) (.slice (some ⟨w.heap.size+1,0,none⟩) k 2) (za8 (i:=0) (.bool (true&&decide (0<k))) p3)
  have hst:=(St.setCell w1 w.heap.size 0 (.bool (true&&decide (0<k)))).trans (St.setCell _ w.heap.size 1 (.slice (some ⟨w.heap.size+1,0,none⟩) k 2))
  exact bodyPost_ret (v:=.agg #[.bool (true&&decide (0<k)),.slice (some ⟨w.heap.size+1,0,none⟩) k 2]) (za6 _ _ _ rfl rfl p4 (by kernel_rfl)) rfl ⟨⟨_,_,rfl,IsInt.mk' (s:=true) (hMM.kp (hst.kp p3 (by decide))) rfl (fun _=>by simp;omega) (Sz.i64 h0 h1)⟩,hst.gr aa (Nat.le_refl _)⟩
 ·have hd:decide (z<0)=false:=by simpa using hn
  clear ew
  go_enter Tryz.func66,Tryz.ntmps66
  go_wp2_with fail
  refine (zf1 false _ 2 2 (z.natAbs:Int) _ (by omega) (by omega) (by omega) ht ?g1).mono ?_
  case g1=>
   refine cast ?_ (key (w.alloc (.cells #[.bool false,.slice none 0 0] 31)) _ _ rfl rfl)
   have:(z.natAbs:Int)=z:=by omega
   rw [this]
   simp
  rintro e w1 ⟨⟨k,rfl,hm,hk⟩,hB⟩
  obtain ⟨g0,f0,f1,fs⟩:=zj2 w (.cells #[.bool false,.slice none 0 0] 31) (.cells #[.int .u32 (z % 4294967296),.int .u32 (z/4294967296)] 136)
  have p3:=Gr.heap hB f0
  have d0:=zb1 p3 0
  have d1:=zb1 p3 1
  have d2:=zj3 p3
  have aa:Gr w w1:=Gr.trans g0 hB
  have hMM:=hm.kp (Gr.kp hB)
  clear f0 f1 fs hB g0
  go_wp2
  have p4:=za8 (i:=1) (.slice (some ⟨w.heap.size+1,0,none⟩) k 2) (za8 (i:=0) (.bool (false&&decide (0<k))) p3)
  have hst:=(St.setCell w1 w.heap.size 0 (.bool (false&&decide (0<k)))).trans (St.setCell _ w.heap.size 1 (.slice (some ⟨w.heap.size+1,0,none⟩) k 2))
  exact bodyPost_ret (v:=.agg #[.bool (false&&decide (0<k)),.slice (some ⟨w.heap.size+1,0,none⟩) k 2]) (za6 _ _ _ rfl rfl p4 (by kernel_rfl)) rfl ⟨⟨_,_,rfl,IsInt.mk' (s:=false) (hMM.kp (hst.kp p3 (by decide))) rfl (fun _=>by simp;omega) (Sz.i64 h0 h1)⟩,hst.gr aa (Nat.le_refl _)⟩

theorem Mag.uniq {w:World} {p:Option Addr} {l c:Nat} {a b:Int} (h:Mag w p l c a) (g:Mag w p l c b):a=b:=by
 refine eq_of_dg l h.nl.top g.nl.top fun i hi=>?_
 obtain ⟨b1,o1,e1,h1⟩:=h.row.at_ (by omega)
 obtain ⟨b2,o2,e2,h2⟩:=g.row.at_ (by omega)
 rw [e1] at e2
 simp only [Option.some.injEq,Addr.mk.injEq] at e2
 obtain ⟨rfl,rfl,_⟩:=e2
 have:=(h1 i hi).symm.trans (h2 i hi)
 simpa using this
open Classical in
noncomputable def magOf (v:Value) (w:World):Nat:=
 match v with
 | .slice p l c=>if h:∃ n:Nat,Mag w p l c (n:Int) then Classical.choose h else 0
 | _=>0
theorem zL8 {w:World} {p:Option Addr} {l c n:Nat} (h:Mag w p l c (n:Int)):magOf (.slice p l c) w=n:=by
 have hex:∃ n:Nat,Mag w p l c (n:Int):=⟨n,h⟩
 simp only [magOf]
 rw [dif_pos hex]
 have:=(Classical.choose_spec hex).uniq h
 omega

theorem sz_gcd {k m:Nat} {z u:Int} (hz:Sz k z) (hu:Sz m u):Sz (k+m) (Int.gcd z u:Int):=by
 by_cases h:z=0
 ·subst h
  rw [Int.gcd_zero_left]
  exact hu.nat.mono (by omega)
 ·have h1:Int.gcd z u≤z.natAbs:=Nat.gcd_le_left _ (by omega)
  exact Sz.of_le (hz.nat.mono (show k≤k+m by omega)) (by simp only [Int.natAbs_natCast];exact h1)

set_option maxRecDepth 100000 in
set_option maxHeartbeats 1000000 in
theorem zr6 {k m:Nat} {x y x2 y2:Value} {z u:Int} {w:World} (hz:IsInt w k x y z) (hu:IsInt w m x2 y2 u) (hk:k+m≤1000000):
  Calls Tryz.prog 75 #[.agg #[x,y],.agg #[x2,y2]] w fun e w'=>(∃ x' y',e=.returned (.agg #[x',y'])∧IsInt w' (k+m) x' y' (Int.gcd z u))∧Gr w w':=by
 obtain ⟨ao,la,ca,rfl,rfl,ha,hs⟩:=hz
 obtain ⟨bo,lb,cb,rfl,rfl,hb,ht⟩:=hu
 have hla:=ha.nl.len_sz hs.nat
 have hlb:=hb.nl.len_sz ht.nat
 have hsz:=Lib.hid (sz_gcd hs ht)
 generalize decide (z<0)=s1
 generalize decide (u<0)=s2
 go_enter Tryz.func75,Tryz.ntmps75
 go_wp2
 go_quiet (fail)
 obtain ⟨g0,f0,f1,f2,fs⟩:=zq5 w (.cells #[.bool s1,.slice ao la ca] 31) (.cells #[.bool s2,.slice bo lb cb] 31) (.cells #[.bool false,.slice none 0 0] 31)
 generalize ae:((w.alloc (.cells #[.bool s1,.slice ao la ca] 31)).alloc (.cells #[.bool s2,.slice bo lb cb] 31)).alloc (.cells #[.bool false,.slice none 0 0] 31)=w0 at*
 have hA:=ha.gr g0
 have hB:=hb.gr g0
 clear f0 f1 fs ae
 go_wp2
 go_loopw [5,6] (fun s5 s6 wr=>∃ (p5:Option Addr) (l5 c5:Nat) (p6:Option Addr) (l6 c6:Nat) (A B:Nat),s5=.slice p5 l5 c5∧s6=.slice p6 l6 c6∧Mag wr p5 l5 c5 (A:Int)∧Mag wr p6 l6 c6 (B:Int)∧l5≤1000000∧l6≤1000000∧Gr w0 wr∧Hid (Nat.gcd A B=Int.gcd z u)) (fun _ s6 wr=>magOf s6 wr)
 case atStart=>exact ⟨_,_,_,_,_,_,_,_,rfl,rfl,hA.gr (((Below.refl _ _).drewN _)),hB.gr (((Below.refl _ _).drewN _)),by omega,by omega,((Below.refl _ _).drewN _),rfl⟩
 case round=>
  obtain ⟨p5,l5,c5,p6,l6,c6,A,B,rfl,rfl,h5,h6,af,aa,hG,hh⟩:=hrel
  by_cases hp:0<l6
  ·have ac:B≠0:=fun e=>by subst e;have:=h6.nl.len_zero.2 rfl;omega
   go_wp2_with fail
   refine (zs6 h5 h6 af aa (by omega)).mono ?_
   rintro e w3 ⟨⟨qo,qk,qc,ro,rk,rc,rfl,h7,h8⟩,ab⟩
   go_wp2
   have e8:(A:Int) % (B:Int)=((A % B:Nat):Int):=(Int.natCast_emod A B).symm
   rw [e8] at h8
   have hlt:A % B<B:=Nat.mod_lt _ (by omega)
   go_roundw
   case rel=>
    refine ⟨_,_,_,_,_,_,B,A % B,rfl,rfl,h6.gr ab,h8,aa,Nat.le_trans (h8.nl.len_le h6.nl (by omega)) aa,Gr.trans hG ab,?_⟩
    show Nat.gcd B (A % B)=_
    rw [← hh.out,Nat.gcd_comm B,← Nat.gcd_rec,Nat.gcd_comm]
   case measure=>
    rw [zL8 h8,zL8 h6];exact hlt
  ·obtain rfl:l6=0:=by omega
   have ac:B=0:=by have:=h6.nl.len_zero.1 rfl;omega
   subst ac
   have p3:=Gr.heap hG f2
   have d0:=zb1 p3 0
   have d1:=zb1 p3 1
   have d2:=zj3 p3
   have ad:Gr w wr:=Gr.trans g0 hG
   have hg:A=Int.gcd z u:=by rw [← hh.out,Nat.gcd_zero_right]
   subst hg
   clear hh hG hA hB f2
   go_wp2
   have p4:=za8 (i:=1) (.slice p5 l5 c5) (za8 (i:=0) (.bool false) p3)
   have hst:=(St.setCell wr (w.heap.size+1+1) 0 (.bool false)).trans (St.setCell _ (w.heap.size+1+1) 1 (.slice p5 l5 c5))
   exact bodyPost_ret (v:=.agg #[.bool false,.slice p5 l5 c5]) (za6 _ _ _ rfl rfl p4 (by kernel_rfl)) rfl ⟨⟨_,_,rfl,p5,l5,c5,by simp,rfl,h5.kp (hst.kp p3 (by decide)),hsz.out⟩,hst.gr ad (by omega)⟩
theorem zb6 {P:Program} {w:World} {fn:Func} {tmps:Array Value} {t:Tmp} {v:Value} (h:fn.results=#[.tmp t]) (hv:tmps.getD t undef=v):(results fn tmps).run P w=.ok v w:=by
 subst hv;exact results_tmp h _ _ _
theorem za9 {P:Program} {w:World} {fn:Func} {tmps:Array Value} {p u:Tmp} {t:TypeId} {v:Value} (b:Nat) (cs:Array Value) (tt:TypeId) (h:fn.results=#[.cell p t,.tmp u]) (hp:tmps.getD p undef=.pointer (some ⟨b,0,none⟩)) (hL:Lc w b cs tt) (hs:zc9 P t=some cs.size) (hv:tmps.getD u undef=v):
  (results fn tmps).run P w=.ok (.tuple #[.agg cs,v]) w:=by
 subst hv;exact zF1 b cs tt h hp hL hs
theorem zh1 {P:Program} {w:World} {fn:Func} {tmps:Array Value} {p q u:Tmp} {t t2:TypeId} {v:Value} (b c:Nat) (cs ds:Array Value) (tt aa:TypeId) (h:fn.results=#[.cell p t,.cell q t2,.tmp u]) (hp:tmps.getD p undef=.pointer (some ⟨b,0,none⟩)) (hq:tmps.getD q undef=.pointer (some ⟨c,0,none⟩))
  (hL:Lc w b cs tt) (hs:zc9 P t=some cs.size) (ac:Lc w c ds aa) (ab:zc9 P t2=some ds.size) (hv:tmps.getD u undef=v):
  (results fn tmps).run P w=.ok (.tuple #[.agg cs,.agg ds,v]) w:=by
 subst hv;exact zA9 b c cs ds tt aa h hp hq hL hs ac ab
set_option maxRecDepth 100000 in
set_option maxHeartbeats 1000000 in
theorem sub_i {k m:Nat} {x y x2 y2:Value} {z u:Int} {w:World} (hz:IsInt w k x y z) (hu:IsInt w m x2 y2 u) (_hk:k+m+1≤1000000):
    Calls Tryz.prog 111 #[(.agg #[x,y]),(.agg #[x2,y2])] w fun e w'=>(∃ x' y',e=.returned (.agg #[x',y'])∧IsInt w' (k+m+1) x' y' (z - u))∧Gr w w':=by
 go_enter Tryz.func111,Tryz.ntmps111
 have hB:=Gr.refl w
 refine wp_seq_k (fun K1 k1=>?_)
 refine rg [0,1,2] ?_
 refine se ?_
 refine eb 31 #[x,y] 2 hB fun b2 w2 g2 L2 o2 q2 hB=>?_
 simp only [p3,p4]
 refine se ?_
 refine eb 31 #[x2,y2] 3 hB fun b3 w3 g3 L3 o3 q3 hB=>?_
 simp only [p3,p4]
 refine se ?_
 refine ea 31 #[.bool false,.slice none 0 0] 4 hB fun b4 w4 g4 L4 o4 q4 hB=>?_
 replace L2:=L2.gr g3
 have ac:=L2.ne o4
 have af:=L3.ne o4
 simp only [p3,p4]
 refine za0 ?_
 refine k1 _ _ ?_
 try clear k1 K1
 refine wp_seq_k (fun K5 k5=>?_)
 have aa:=Gr.drew w4
 replace hB:=hB.trans aa
 replace L2:=L2.gr (g4.trans aa)
 replace L3:=L3.gr (g4.trans aa)
 refine za1 (fun w'=>Lc w' b2 #[x,y] 31∧Lc w' b3 #[x2,y2] 31) [(true,0),(true,1),(false,2),(false,3),(false,4)] (by kernel_rfl) (by kernel_rfl) (by kernel_rfl) (by decide) (fun _ _ _ _ _ h=>h) ⟨L2,L3⟩ ?_
 refine ow 5 (.agg #[x,y]) rfl (fun w' hS=>(rl 31 0 [x,y] hS.1)) ?_
 refine ow 6 (.agg #[x2,y2]) rfl (fun w' hS=>(rl 31 0 [x2,y2] hS.2)) ?_
 refine oe ?_
 have ap:=g2.kp.trans (g3.kp.trans (g4.kp.trans aa.kp))
 replace hu:=hu.kp ap
 refine ec 7 (zQ2 hu) ?_
 rintro ar au ⟨⟨az,ay,rfl,aq⟩,ad⟩
 refine ⟨_,rfl,?_⟩
 replace hB:=hB.trans ad
 replace L2:=L2.gr ad
 replace L3:=L3.gr ad
 refine ⟨⟨L2,L3⟩,?_⟩
 simp only [p3,p4]
 refine oe ?_
 have ak:=g2.kp.trans (g3.kp.trans (g4.kp.trans (aa.kp.trans ad.kp)))
 replace hz:=hz.kp ak
 refine ec 8 (add_i hz aq (by omega)) ?_
 rintro ax av ⟨⟨aj,ah,rfl,ae⟩,ai⟩
 refine ⟨_,rfl,?_⟩
 replace hB:=hB.trans ai
 replace L2:=L2.gr ai
 replace L3:=L3.gr ai
 refine ⟨⟨L2,L3⟩,?_⟩
 simp only [p3,p4]
 refine oe ?_
 replace L4:=L4.gr (aa.trans (ad.trans ai))
 refine es 31 0 (.agg #[aj,ah]) [aj,ah] #[aj,ah] L4 hB q4 ⟨ae.one0,ae.one1,trivial⟩ fun aw ab al L4 hB=>?_
 replace L2:=ab.lc L2 ac
 replace L3:=ab.lc L3 af
 refine ⟨⟨L2,L3⟩,?_⟩
 refine za2 ?_
 refine k5 _ _ ?_
 try clear k5 K5
 refine wp_ret ?_
 refine bodyPost_ret (v:=(.agg #[aj,ah])) (za6 _ _ _ rfl rfl L4 (by kernel_rfl)) rfl ⟨?_,hB⟩
 replace ae:=ae.kp al
 exact ⟨_,_,rfl,by rw [Int.sub_eq_add_neg];exact ae⟩

set_option maxRecDepth 100000 in
set_option maxHeartbeats 1000000 in
theorem cmp_tt {w:World} {a b:Int} {ao bo:Option Addr} {la lb ca cb:Nat} (ha:Mag w ao la ca a) (hb:Mag w bo lb cb b) (_hla:la≤1000000) (_hlb:lb≤1000000):
    Calls Tryz.prog 67 #[(.agg #[.bool true,.slice ao la ca]),(.agg #[.bool true,.slice bo lb cb])] w fun e w'=>(e=.returned (.int .i64 (sgn (b - a))))∧Gr w w':=by
 go_enter Tryz.func67,Tryz.ntmps67
 have hB:=Gr.refl w
 refine wp_seq_k (fun K1 k1=>?_)
 refine rg [0,1,2] ?_
 refine se ?_
 refine eb 31 #[.bool true,.slice ao la ca] 2 hB fun b2 w2 g2 L2 o2 q2 hB=>?_
 simp only [p3,p4]
 refine se ?_
 refine eb 31 #[.bool true,.slice bo lb cb] 3 hB fun b3 w3 g3 L3 o3 q3 hB=>?_
 simp only [p3,p4]
 refine sv 4 (.int .i64 0) ?_
 refine za0 ?_
 refine k1 _ _ ?_
 try clear k1 K1
 refine wp_seq_k (fun K4 k4=>?_)
 refine wp_block ?_
 refine wp_seq_k (fun K5 k5=>?_)
 refine rg [0,1,2,3,4,5] ?_
 refine sv 6 (.pointer (some ⟨b2,0,none⟩)) ?_
 replace L2:=L2.gr g3
 refine sw 7 (.bool true) rfl (rk 4 0 L2) ?_
 refine sv 8 (.pointer (some ⟨b3,0,none⟩)) ?_
 refine sw 9 (.bool true) rfl (rk 4 0 L3) ?_
 refine sv 10 (.bool false) ?_
 refine sv 5 (.bool false) ?_
 refine za0 ?_
 refine k5 _ _ ?_
 try clear k5 K5
 refine wp_cond_false rfl ?_
 refine wp_seq_k (fun K6 k6=>?_)
 refine rg [0,1,2] ?_
 refine sv 14 (.pointer (some ⟨b2,0,none⟩)) ?_
 refine sw 15 (.bool true) rfl (rk 4 0 L2) ?_
 refine sv 13 (.bool true) ?_
 refine za0 ?_
 refine k6 _ _ ?_
 try clear k6 K6
 refine wp_cond_true rfl ?_
 refine wp_seq_k (fun K7 k7=>?_)
 refine rg [0,1,2,3,4,5] ?_
 refine sv 16 (.pointer (some ⟨b3,1,none⟩)) ?_
 refine sw 17 (.slice bo lb cb) rfl (rk 29 1 L3) ?_
 refine sv 18 (.pointer (some ⟨b2,1,none⟩)) ?_
 refine sw 19 (.slice ao la ca) rfl (rk 29 1 L2) ?_
 refine se ?_
 have aa:=g2.kp.trans g3.kp
 replace hb:=hb.kp aa
 replace ha:=ha.kp aa
 refine ec 20 (zz8 hb ha (by omega) (by omega)) ?_
 rintro e8 w8 ⟨rfl,g8⟩
 refine ⟨_,rfl,?_⟩
 replace hB:=hB.trans g8
 simp only [p3,p4]
 refine sv 4 (.int .i64 (sgn (b - a))) ?_
 refine za0 ?_
 refine k7 _ _ ?_
 try clear k7 K7
 refine wp_ret ?_
 simp only [Exit.then,Exit.inBlock]
 refine bodyPost_ret (v:=(.int .i64 (sgn (b - a)))) (zb6 rfl rfl) rfl ⟨?_,hB⟩
 exact rfl

set_option maxRecDepth 100000 in
set_option maxHeartbeats 1000000 in
theorem cmp_tf {w:World} {a b:Int} {ao bo:Option Addr} {la lb ca cb:Nat} (_ha:Mag w ao la ca a) (_hb:Mag w bo lb cb b) (_hla:la≤1000000) (_hlb:lb≤1000000):
    Calls Tryz.prog 67 #[(.agg #[.bool true,.slice ao la ca]),(.agg #[.bool false,.slice bo lb cb])] w fun e w'=>(e=.returned (.int .i64 (-1)))∧Gr w w':=by
 go_enter Tryz.func67,Tryz.ntmps67
 have hB:=Gr.refl w
 refine wp_seq_k (fun K1 k1=>?_)
 refine rg [0,1,2] ?_
 refine se ?_
 refine eb 31 #[.bool true,.slice ao la ca] 2 hB fun b2 w2 g2 L2 o2 q2 hB=>?_
 simp only [p3,p4]
 refine se ?_
 refine eb 31 #[.bool false,.slice bo lb cb] 3 hB fun b3 w3 g3 L3 o3 q3 hB=>?_
 simp only [p3,p4]
 refine sv 4 (.int .i64 0) ?_
 refine za0 ?_
 refine k1 _ _ ?_
 try clear k1 K1
 refine wp_seq_k (fun K4 k4=>?_)
 refine wp_block ?_
 refine wp_seq_k (fun K5 k5=>?_)
 refine rg [0,1,2,3,4,5] ?_
 refine sv 6 (.pointer (some ⟨b2,0,none⟩)) ?_
 replace L2:=L2.gr g3
 refine sw 7 (.bool true) rfl (rk 4 0 L2) ?_
 refine sv 8 (.pointer (some ⟨b3,0,none⟩)) ?_
 refine sw 9 (.bool false) rfl (rk 4 0 L3) ?_
 refine sv 10 (.bool true) ?_
 refine sv 5 (.bool true) ?_
 refine za0 ?_
 refine k5 _ _ ?_
 try clear k5 K5
 refine wp_cond_true rfl ?_
 refine wp_seq_k (fun K6 k6=>?_)
 refine wp_seq_k (fun K7 k7=>?_)
 refine rg [0,1] ?_
 refine sv 11 (.pointer (some ⟨b2,0,none⟩)) ?_
 refine sw 12 (.bool true) rfl (rk 4 0 L2) ?_
 refine za0 ?_
 refine k7 _ _ ?_
 try clear k7 K7
 refine wp_cond_true rfl ?_
 refine wp_seq_k (fun K8 k8=>?_)
 refine rg [0] ?_
 refine sv 4 (.int .i64 (-1)) ?_
 refine za0 ?_
 refine k8 _ _ ?_
 try clear k8 K8
 refine wp_ret ?_
 simp only [Exit.then,Exit.inBlock]
 refine bodyPost_ret (v:=(.int .i64 (-1))) (zb6 rfl rfl) rfl ⟨?_,hB⟩
 exact rfl

set_option maxRecDepth 100000 in
set_option maxHeartbeats 1000000 in
theorem cmp_ft {w:World} {a b:Int} {ao bo:Option Addr} {la lb ca cb:Nat} (_ha:Mag w ao la ca a) (_hb:Mag w bo lb cb b) (_hla:la≤1000000) (_hlb:lb≤1000000):
    Calls Tryz.prog 67 #[(.agg #[.bool false,.slice ao la ca]),(.agg #[.bool true,.slice bo lb cb])] w fun e w'=>(e=.returned (.int .i64 (1)))∧Gr w w':=by
 go_enter Tryz.func67,Tryz.ntmps67
 have hB:=Gr.refl w
 refine wp_seq_k (fun K1 k1=>?_)
 refine rg [0,1,2] ?_
 refine se ?_
 refine eb 31 #[.bool false,.slice ao la ca] 2 hB fun b2 w2 g2 L2 o2 q2 hB=>?_
 simp only [p3,p4]
 refine se ?_
 refine eb 31 #[.bool true,.slice bo lb cb] 3 hB fun b3 w3 g3 L3 o3 q3 hB=>?_
 simp only [p3,p4]
 refine sv 4 (.int .i64 0) ?_
 refine za0 ?_
 refine k1 _ _ ?_
 try clear k1 K1
 refine wp_seq_k (fun K4 k4=>?_)
 refine wp_block ?_
 refine wp_seq_k (fun K5 k5=>?_)
 refine rg [0,1,2,3,4,5] ?_
 refine sv 6 (.pointer (some ⟨b2,0,none⟩)) ?_
 replace L2:=L2.gr g3
 refine sw 7 (.bool false) rfl (rk 4 0 L2) ?_
 refine sv 8 (.pointer (some ⟨b3,0,none⟩)) ?_
 refine sw 9 (.bool true) rfl (rk 4 0 L3) ?_
 refine sv 10 (.bool true) ?_
 refine sv 5 (.bool true) ?_
 refine za0 ?_
 refine k5 _ _ ?_
 try clear k5 K5
 refine wp_cond_true rfl ?_
 refine wp_seq_k (fun K6 k6=>?_)
 refine wp_seq_k (fun K7 k7=>?_)
 refine rg [0,1] ?_
 refine sv 11 (.pointer (some ⟨b2,0,none⟩)) ?_
 refine sw 12 (.bool false) rfl (rk 4 0 L2) ?_
 refine za0 ?_
 refine k7 _ _ ?_
 try clear k7 K7
 refine wp_cond_false rfl ?_
 refine wp_skip ?_
 refine k6 _ _ ?_
 try clear k6 K6
 refine wp_seq_k (fun K8 k8=>?_)
 refine rg [0] ?_
 refine sv 4 (.int .i64 1) ?_
 refine za0 ?_
 refine k8 _ _ ?_
 try clear k8 K8
 refine wp_ret ?_
 simp only [Exit.then,Exit.inBlock]
 refine bodyPost_ret (v:=(.int .i64 1)) (zb6 rfl rfl) rfl ⟨?_,hB⟩
 exact rfl

set_option maxRecDepth 100000 in
set_option maxHeartbeats 1000000 in
theorem cmp_ff {w:World} {a b:Int} {ao bo:Option Addr} {la lb ca cb:Nat} (ha:Mag w ao la ca a) (hb:Mag w bo lb cb b) (_hla:la≤1000000) (_hlb:lb≤1000000):
    Calls Tryz.prog 67 #[(.agg #[.bool false,.slice ao la ca]),(.agg #[.bool false,.slice bo lb cb])] w fun e w'=>(e=.returned (.int .i64 (sgn (a - b))))∧Gr w w':=by
 go_enter Tryz.func67,Tryz.ntmps67
 have hB:=Gr.refl w
 refine wp_seq_k (fun K1 k1=>?_)
 refine rg [0,1,2] ?_
 refine se ?_
 refine eb 31 #[.bool false,.slice ao la ca] 2 hB fun b2 w2 g2 L2 o2 q2 hB=>?_
 simp only [p3,p4]
 refine se ?_
 refine eb 31 #[.bool false,.slice bo lb cb] 3 hB fun b3 w3 g3 L3 o3 q3 hB=>?_
 simp only [p3,p4]
 refine sv 4 (.int .i64 0) ?_
 refine za0 ?_
 refine k1 _ _ ?_
 try clear k1 K1
 refine wp_seq_k (fun K4 k4=>?_)
 refine wp_block ?_
 refine wp_seq_k (fun K5 k5=>?_)
 refine rg [0,1,2,3,4,5] ?_
 refine sv 6 (.pointer (some ⟨b2,0,none⟩)) ?_
 replace L2:=L2.gr g3
 refine sw 7 (.bool false) rfl (rk 4 0 L2) ?_
 refine sv 8 (.pointer (some ⟨b3,0,none⟩)) ?_
 refine sw 9 (.bool false) rfl (rk 4 0 L3) ?_
 refine sv 10 (.bool false) ?_
 refine sv 5 (.bool false) ?_
 refine za0 ?_
 refine k5 _ _ ?_
 try clear k5 K5
 refine wp_cond_false rfl ?_
 refine wp_seq_k (fun K6 k6=>?_)
 refine rg [0,1,2] ?_
 refine sv 14 (.pointer (some ⟨b2,0,none⟩)) ?_
 refine sw 15 (.bool false) rfl (rk 4 0 L2) ?_
 refine sv 13 (.bool false) ?_
 refine za0 ?_
 refine k6 _ _ ?_
 try clear k6 K6
 refine wp_cond_false rfl ?_
 refine wp_skip ?_
 refine k4 _ _ ?_
 try clear k4 K4
 refine wp_seq_k (fun K7 k7=>?_)
 refine rg [0,1,2,3,4,5] ?_
 refine sv 21 (.pointer (some ⟨b2,1,none⟩)) ?_
 refine sw 22 (.slice ao la ca) rfl (rk 29 1 L2) ?_
 refine sv 23 (.pointer (some ⟨b3,1,none⟩)) ?_
 refine sw 24 (.slice bo lb cb) rfl (rk 29 1 L3) ?_
 refine se ?_
 have aa:=g2.kp.trans g3.kp
 replace ha:=ha.kp aa
 replace hb:=hb.kp aa
 refine ec 25 (zz8 ha hb (by omega) (by omega)) ?_
 rintro e8 w8 ⟨rfl,g8⟩
 refine ⟨_,rfl,?_⟩
 replace hB:=hB.trans g8
 simp only [p3,p4]
 refine sv 4 (.int .i64 (sgn (a - b))) ?_
 refine za0 ?_
 refine k7 _ _ ?_
 try clear k7 K7
 refine wp_ret ?_
 refine bodyPost_ret (v:=(.int .i64 (sgn (a - b)))) (zb6 rfl rfl) rfl ⟨?_,hB⟩
 exact rfl

set_option maxRecDepth 100000 in
set_option maxHeartbeats 1000000 in
theorem divmod_0 {w:World} {s:Bool} {K m:Nat} {a b Z:Int} {ao bo:Option Addr} {la lb ca cb:Nat} (ha:Mag w ao la ca a) (hb:Mag w bo lb cb b) (hu:IsInt w m (.bool false) (.slice bo lb cb) b) (_hla:la≤1000000) (_hlb:lb≤1000000) (_hb0:0<b) (hd:a % b=0) (hQ:a/b=(Z.natAbs:Int)) (hS:0<a/b→(s !=false)=decide (Z<0)) (hZ:Sz K Z) (hK:K≤1000000) (hm:m≤1000000):
    Calls Tryz.prog 77 #[(.agg #[(.bool (s)),.slice ao la ca]),(.agg #[.bool false,.slice bo lb cb])] w fun e w'=>(∃ x' y' x3 y3,e=.returned (.tuple #[.agg #[x',y'],.agg #[x3,y3],.int .i64 0])∧IsInt w' K x' y' (Z)∧IsInt w' m x3 y3 (0))∧Gr w w':=by
 have hR:a % b=((0:Int).natAbs:Int):=hd
 go_enter Tryz.func77,Tryz.ntmps77
 have hB:=Gr.refl w
 refine wp_seq_k (fun K1 k1=>?_)
 refine rg [0,1,2,3,4] ?_
 refine se ?_
 refine eb 31 #[(.bool (s)),.slice ao la ca] 2 hB fun b2 w2 g2 L2 o2 q2 hB=>?_
 simp only [p3,p4]
 refine se ?_
 refine eb 31 #[.bool false,.slice bo lb cb] 3 hB fun b3 w3 g3 L3 o3 q3 hB=>?_
 simp only [p3,p4]
 refine se ?_
 refine ea 31 #[.bool false,.slice none 0 0] 4 hB fun b4 w4 g4 L4 o4 q4 hB=>?_
 replace L2:=L2.gr g3
 have aG:=L2.ne o4
 have aH:=L3.ne o4
 simp only [p3,p4]
 refine se ?_
 refine ea 31 #[.bool false,.slice none 0 0] 5 hB fun b5 w5 g5 L5 o5 q5 hB=>?_
 replace L2:=L2.gr g4
 have aD:=L2.ne o5
 replace L3:=L3.gr g4
 have aJ:=L3.ne o5
 have ab:=L4.ne o5
 simp only [p3,p4]
 refine sv 6 (.int .i64 0) ?_
 refine za0 ?_
 refine k1 _ _ ?_
 try clear k1 K1
 refine wp_seq_k (fun K6 k6=>?_)
 refine wp_seq_k (fun K7 k7=>?_)
 refine rg [0,1,2] ?_
 replace L3:=L3.gr g5
 refine sw 9 (.agg #[.bool false,.slice bo lb cb]) rfl (rl 31 0 [.bool false,.slice bo lb cb] L3) ?_
 refine se ?_
 have aX:=g2.kp.trans (g3.kp.trans (g4.kp.trans g5.kp))
 replace hu:=hu.kp aX
 refine ec 10 (zf2 hu (by omega)) ?_
 rintro e8 w8 ⟨rfl,g8⟩
 refine ⟨_,rfl,?_⟩
 replace hB:=hB.trans g8
 simp only [p3,p4]
 refine sv 11 (.bool false) ?_
 refine za0 ?_
 refine k7 _ _ ?_
 try clear k7 K7
 refine wp_cond_false rfl ?_
 refine wp_skip ?_
 refine k6 _ _ ?_
 try clear k6 K6
 refine wp_seq_k (fun a2 aU=>?_)
 refine rg [0,1,2,3,4,5,6,7,8,9] ?_
 refine sv 15 (.pointer (some ⟨b2,1,none⟩)) ?_
 replace L2:=L2.gr (g5.trans g8)
 refine sw 16 (.slice ao la ca) rfl (rk 29 1 L2) ?_
 refine sv 17 (.pointer (some ⟨b3,1,none⟩)) ?_
 replace L3:=L3.gr g8
 refine sw 18 (.slice bo lb cb) rfl (rk 29 1 L3) ?_
 refine se ?_
 have aC:=g2.kp.trans (g3.kp.trans (g4.kp.trans (g5.kp.trans g8.kp)))
 replace ha:=ha.kp aC
 replace hb:=hb.kp aC
 refine ec 19 (zs6 ha hb (by omega) (by omega) (by omega)) ?_
 rintro e11 aW ⟨⟨ar,ap,aj,al,ak,aq,rfl,aw,av⟩,aE⟩
 refine ⟨_,rfl,?_⟩
 replace hB:=hB.trans aE
 simp only [p3,p4]
 refine sv 14 (.tuple #[.slice ar ap aj,.slice al ak aq]) ?_
 refine sv 20 (.slice ar ap aj) ?_
 refine sv 21 (.slice al ak aq) ?_
 refine sv 7 (.slice ar ap aj) ?_
 refine sv 8 (.slice al ak aq) ?_
 refine za0 ?_
 refine aU _ _ ?_
 try clear aU a2
 refine wp_seq_k (fun a1 k13=>?_)
 have aa:=Gr.drew aW
 replace hB:=hB.trans aa
 replace L2:=L2.gr (aE.trans aa)
 replace L3:=L3.gr (aE.trans aa)
 refine za1 (fun w'=>Lc w' b2 #[(.bool (s)),.slice ao la ca] 31∧Lc w' b3 #[.bool false,.slice bo lb cb] 31) [(true,0),(true,1),(true,2),(true,3),(true,4),(true,5),(true,7),(true,8),(true,9),(false,6),(false,10),(false,11),(false,12)] (by kernel_rfl) (by kernel_rfl) (by kernel_rfl) (by decide) (fun _ _ _ _ _ h=>h) ⟨L2,L3⟩ ?_
 refine ov 22 (.pointer (some ⟨b2,0,none⟩)) ?_
 refine ow 23 (.bool (s)) rfl (fun w' hS=>(rk 4 0 hS.1)) ?_
 refine ov 24 (.pointer (some ⟨b3,0,none⟩)) ?_
 refine ow 25 (.bool false) rfl (fun w' hS=>(rk 4 0 hS.2)) ?_
 refine ov 26 (.bool ((s !=false))) ?_
 refine ov 27 (.slice ar ap aj) ?_
 refine ov 29 (.pointer (some ⟨b2,0,none⟩)) ?_
 refine ow 30 (.bool (s)) rfl (fun w' hS=>(rk 4 0 hS.1)) ?_
 refine ov 31 (.slice al ak aq) ?_
 refine oe ?_
 replace aw:=aw.kp aa.kp
 refine ec 28 (zs7 (neg:=(s !=false)) (Z:=Z) aw hQ hS hZ hK) ?_
 rintro a4 a5 ⟨⟨af,ai,rfl,au⟩,az⟩
 refine ⟨_,rfl,?_⟩
 replace hB:=hB.trans az
 replace L2:=L2.gr az
 replace L3:=L3.gr az
 refine ⟨⟨L2,L3⟩,?_⟩
 simp only [p3,p4]
 refine oe ?_
 have aM:=aa.kp.trans az.kp
 replace av:=av.kp aM
 refine ec 32 (zs7 (neg:=s) (Z:=0) av hR (fun h=>by omega) (Sz.zero m) hm) ?_
 rintro a9 bb ⟨⟨ad,ac,rfl,ah⟩,aA⟩
 refine ⟨_,rfl,?_⟩
 replace hB:=hB.trans aA
 replace L2:=L2.gr aA
 replace L3:=L3.gr aA
 refine ⟨⟨L2,L3⟩,?_⟩
 simp only [p3,p4]
 refine oe ?_
 replace L4:=L4.gr (g5.trans (g8.trans (aE.trans (aa.trans (az.trans aA)))))
 refine es 31 0 (.agg #[af,ai]) [af,ai] #[af,ai] L4 hB q4 ⟨au.one0,au.one1,trivial⟩ fun a6 ay aL L4 hB=>?_
 replace L2:=ay.lc L2 aG
 replace L3:=ay.lc L3 aH
 refine ⟨⟨L2,L3⟩,?_⟩
 refine oe ?_
 replace L5:=ay.lc (L5.gr (g8.trans (aE.trans (aa.trans (az.trans aA))))) (Ne.symm ab)
 refine es 31 0 (.agg #[ad,ac]) [ad,ac] #[ad,ac] L5 hB q5 ⟨ah.one0,ah.one1,trivial⟩ fun a7 ax aK L5 hB=>?_
 replace L2:=ax.lc L2 aD
 replace L3:=ax.lc L3 aJ
 refine ⟨⟨L2,L3⟩,?_⟩
 refine za2 ?_
 refine k13 _ _ ?_
 try clear k13 a1
 refine wp_seq_k (fun a3 aS=>?_)
 refine wp_seq_k (fun aY aT=>?_)
 refine rg [0,1,2,3,4,5,6,7,8,9] ?_
 refine sw 33 (.agg #[ad,ac]) rfl (rl 31 0 [ad,ac] L5) ?_
 refine se ?_
 have aR:=aL.trans aK
 replace ah:=ah.kp aR
 refine ec 34 (zt2 ah) ?_
 rintro bc aZ ⟨rfl,aI⟩
 refine ⟨_,rfl,?_⟩
 replace hB:=hB.trans aI
 simp only [p3,p4]
 refine sv 35 (.bool false) ?_
 refine sv 36 (.bool false) ?_
 refine ss 37 ?_
 refine ss 38 ?_
 refine ss 39 ?_
 refine ss 40 ?_
 refine ss 41 ?_
 refine sv 42 (.bool false) ?_
 refine za0 ?_
 refine aT _ _ ?_
 try clear aT aY
 refine wp_cond_false rfl ?_
 refine wp_skip ?_
 refine aS _ _ ?_
 try clear aS a3
 refine wp_seq_k (fun a0 aV=>?_)
 have ae:=Gr.drew aZ
 replace hB:=hB.trans ae
 replace L4:=(ax.lc L4 ab).gr (aI.trans ae)
 replace L5:=L5.gr (aI.trans ae)
 refine zb7 (fun _=>True) [([2],(fun w'=>Lc w' b4 #[af,ai] 31)),([3],(fun w'=>Lc w' b5 #[ad,ac] 31))] [(true,0),(true,1),(false,2),(false,3),(true,4)] (by kernel_rfl) (by kernel_rfl) (by kernel_rfl) (by decide) (fun _ _ _ _ _ h=>h) trivial ⟨fun _=>L4,fun _=>L5,trivial⟩ ?_
 refine tw 49 (.agg #[af,ai]) rfl (fun w' hS=>(rl 31 0 [af,ai] (hS.2.1 (by kernel_rfl)))) ?_
 refine tw 50 (.agg #[ad,ac]) rfl (fun w' hS=>(rl 31 0 [ad,ac] (hS.2.2.1 (by kernel_rfl)))) ?_
 refine te ?_
 refine es 31 0 (.agg #[af,ai]) [af,ai] #[af,ai] L4 hB q4 ⟨au.one0,au.one1,trivial⟩ fun a8 aP aF L4 hB=>?_
 replace L5:=aP.lc L5 (Ne.symm ab)
 refine ⟨trivial,⟨zh3 (by kernel_rfl),fun _=>L5,trivial⟩,?_⟩
 refine te ?_
 refine es 31 0 (.agg #[ad,ac]) [ad,ac] #[ad,ac] L5 hB q5 ⟨ah.one0,ah.one1,trivial⟩ fun ba aQ aB L5 hB=>?_
 refine ⟨trivial,⟨zh3 (by kernel_rfl),zh3 (by kernel_rfl),trivial⟩,?_⟩
 refine tv 6 (.int .i64 0) ?_
 refine zi1 ?_
 refine aV _ _ ?_
 try clear aV a0
 refine wp_ret ?_
 replace L4:=aQ.lc L4 ab
 refine bodyPost_ret (v:=(.tuple #[(.agg #[af,ai]),(.agg #[ad,ac]),.int .i64 0])) (zh1 _ _ _ _ _ _ rfl rfl rfl L4 (by kernel_rfl) L5 (by kernel_rfl) rfl) rfl ⟨?_,hB⟩
 have aO:=aA.kp.trans (aL.trans (aK.trans (aI.kp.trans (ae.kp.trans (aF.trans aB)))))
 replace au:=au.kp aO
 have aN:=aI.kp.trans (ae.kp.trans (aF.trans aB))
 replace ah:=ah.kp aN
 exact ⟨_,_,_,_,rfl,au,ah⟩

set_option maxRecDepth 100000 in
set_option maxHeartbeats 1000000 in
theorem divmod_f {w:World} {K m:Nat} {a b:Int} {ao bo:Option Addr} {la lb ca cb:Nat} (ha:Mag w ao la ca a) (hb:Mag w bo lb cb b) (hu:IsInt w m (.bool false) (.slice bo lb cb) b) (_hla:la≤1000000) (_hlb:lb≤1000000) (_hb0:0<b) (hR:0<a % b) (_hL:a % b<b) (_hQ:0≤a/b) (hZ:Sz K (a/b)) (hK:K≤1000000) (hm:m≤1000000):
    Calls Tryz.prog 77 #[(.agg #[.bool false,.slice ao la ca]),(.agg #[.bool false,.slice bo lb cb])] w fun e w'=>(∃ x' y' x3 y3,e=.returned (.tuple #[.agg #[x',y'],.agg #[x3,y3],.int .i64 0])∧IsInt w' K x' y' (a/b)∧IsInt w' m x3 y3 (a % b))∧Gr w w':=by
 go_enter Tryz.func77,Tryz.ntmps77
 have hB:=Gr.refl w
 refine wp_seq_k (fun K1 k1=>?_)
 refine rg [0,1,2,3,4] ?_
 refine se ?_
 refine eb 31 #[.bool false,.slice ao la ca] 2 hB fun b2 w2 g2 L2 o2 q2 hB=>?_
 simp only [p3,p4]
 refine se ?_
 refine eb 31 #[.bool false,.slice bo lb cb] 3 hB fun b3 w3 g3 L3 o3 q3 hB=>?_
 simp only [p3,p4]
 refine se ?_
 refine ea 31 #[.bool false,.slice none 0 0] 4 hB fun b4 w4 g4 L4 o4 q4 hB=>?_
 replace L2:=L2.gr g3
 have aG:=L2.ne o4
 have aH:=L3.ne o4
 simp only [p3,p4]
 refine se ?_
 refine ea 31 #[.bool false,.slice none 0 0] 5 hB fun b5 w5 g5 L5 o5 q5 hB=>?_
 replace L2:=L2.gr g4
 have aD:=L2.ne o5
 replace L3:=L3.gr g4
 have aI:=L3.ne o5
 have ad:=L4.ne o5
 simp only [p3,p4]
 refine sv 6 (.int .i64 0) ?_
 refine za0 ?_
 refine k1 _ _ ?_
 try clear k1 K1
 refine wp_seq_k (fun K6 k6=>?_)
 refine wp_seq_k (fun K7 k7=>?_)
 refine rg [0,1,2] ?_
 replace L3:=L3.gr g5
 refine sw 9 (.agg #[.bool false,.slice bo lb cb]) rfl (rl 31 0 [.bool false,.slice bo lb cb] L3) ?_
 refine se ?_
 have aW:=g2.kp.trans (g3.kp.trans (g4.kp.trans g5.kp))
 replace hu:=hu.kp aW
 refine ec 10 (zf2 hu (by omega)) ?_
 rintro e8 w8 ⟨rfl,g8⟩
 refine ⟨_,rfl,?_⟩
 replace hB:=hB.trans g8
 simp only [p3,p4]
 refine sv 11 (.bool false) ?_
 refine za0 ?_
 refine k7 _ _ ?_
 try clear k7 K7
 refine wp_cond_false rfl ?_
 refine wp_skip ?_
 refine k6 _ _ ?_
 try clear k6 K6
 refine wp_seq_k (fun a1 aT=>?_)
 refine rg [0,1,2,3,4,5,6,7,8,9] ?_
 refine sv 15 (.pointer (some ⟨b2,1,none⟩)) ?_
 replace L2:=L2.gr (g5.trans g8)
 refine sw 16 (.slice ao la ca) rfl (rk 29 1 L2) ?_
 refine sv 17 (.pointer (some ⟨b3,1,none⟩)) ?_
 replace L3:=L3.gr g8
 refine sw 18 (.slice bo lb cb) rfl (rk 29 1 L3) ?_
 refine se ?_
 have aC:=g2.kp.trans (g3.kp.trans (g4.kp.trans (g5.kp.trans g8.kp)))
 replace ha:=ha.kp aC
 replace hb:=hb.kp aC
 refine ec 19 (zs6 ha hb (by omega) (by omega) (by omega)) ?_
 rintro e11 aV ⟨⟨ap,al,aj,aa,ak,ab,rfl,au,ar⟩,aE⟩
 refine ⟨_,rfl,?_⟩
 replace hB:=hB.trans aE
 simp only [p3,p4]
 refine sv 14 (.tuple #[.slice ap al aj,.slice aa ak ab]) ?_
 refine sv 20 (.slice ap al aj) ?_
 refine sv 21 (.slice aa ak ab) ?_
 refine sv 7 (.slice ap al aj) ?_
 refine sv 8 (.slice aa ak ab) ?_
 refine za0 ?_
 refine aT _ _ ?_
 try clear aT a1
 refine wp_seq_k (fun a0 k13=>?_)
 have ac:=Gr.drew aV
 replace hB:=hB.trans ac
 replace L2:=L2.gr (aE.trans ac)
 replace L3:=L3.gr (aE.trans ac)
 refine za1 (fun w'=>Lc w' b2 #[.bool false,.slice ao la ca] 31∧Lc w' b3 #[.bool false,.slice bo lb cb] 31) [(true,0),(true,1),(true,2),(true,3),(true,4),(true,5),(true,7),(true,8),(true,9),(false,6),(false,10),(false,11),(false,12)] (by kernel_rfl) (by kernel_rfl) (by kernel_rfl) (by decide) (fun _ _ _ _ _ h=>h) ⟨L2,L3⟩ ?_
 refine ov 22 (.pointer (some ⟨b2,0,none⟩)) ?_
 refine ow 23 (.bool false) rfl (fun w' hS=>(rk 4 0 hS.1)) ?_
 refine ov 24 (.pointer (some ⟨b3,0,none⟩)) ?_
 refine ow 25 (.bool false) rfl (fun w' hS=>(rk 4 0 hS.2)) ?_
 refine ov 26 (.bool false) ?_
 refine ov 27 (.slice ap al aj) ?_
 refine ov 29 (.pointer (some ⟨b2,0,none⟩)) ?_
 refine ow 30 (.bool false) rfl (fun w' hS=>(rk 4 0 hS.1)) ?_
 refine ov 31 (.slice aa ak ab) ?_
 refine oe ?_
 replace au:=au.kp ac.kp
 refine ec 28 (zs7 (neg:=false) (Z:=(a/b)) au (by omega) (fun _=>by simp;omega) hZ hK) ?_
 rintro a3 a4 ⟨⟨ah,ai,rfl,aq⟩,ax⟩
 refine ⟨_,rfl,?_⟩
 replace hB:=hB.trans ax
 replace L2:=L2.gr ax
 replace L3:=L3.gr ax
 refine ⟨⟨L2,L3⟩,?_⟩
 simp only [p3,p4]
 refine oe ?_
 have aL:=ac.kp.trans ax.kp
 replace ar:=ar.kp aL
 refine ec 32 (zU4 ar hR (Sz.of_le hu.sz (by omega)) hm) ?_
 rintro a8 ba ⟨⟨ae,rfl,ay⟩,aA⟩
 refine ⟨_,rfl,?_⟩
 replace hB:=hB.trans aA
 replace L2:=L2.gr aA
 replace L3:=L3.gr aA
 refine ⟨⟨L2,L3⟩,?_⟩
 simp only [p3,p4]
 refine oe ?_
 replace L4:=L4.gr (g5.trans (g8.trans (aE.trans (ac.trans (ax.trans aA)))))
 refine es 31 0 (.agg #[ah,ai]) [ah,ai] #[ah,ai] L4 hB q4 ⟨aq.one0,aq.one1,trivial⟩ fun a5 aw aK L4 hB=>?_
 replace L2:=aw.lc L2 aG
 replace L3:=aw.lc L3 aH
 refine ⟨⟨L2,L3⟩,?_⟩
 refine oe ?_
 replace L5:=aw.lc (L5.gr (g8.trans (aE.trans (ac.trans (ax.trans aA))))) (Ne.symm ad)
 refine es 31 0 (.agg #[.bool false,.slice aa ae ab]) [.bool false,.slice aa ae ab] #[.bool false,.slice aa ae ab] L5 hB q5 ⟨rfl,rfl,trivial⟩ fun a6 av aJ L5 hB=>?_
 replace L2:=av.lc L2 aD
 replace L3:=av.lc L3 aI
 refine ⟨⟨L2,L3⟩,?_⟩
 refine za2 ?_
 refine k13 _ _ ?_
 try clear k13 a0
 refine wp_seq_k (fun a2 aR=>?_)
 refine wp_seq_k (fun aX aS=>?_)
 refine rg [0,1,2,3,4,5,6,7,8,9] ?_
 refine sw 33 (.agg #[.bool false,.slice aa ae ab]) rfl (rl 31 0 [.bool false,.slice aa ae ab] L5) ?_
 refine se ?_
 have aQ:=aK.trans aJ
 replace ay:=ay.kp aQ
 refine ec 34 (zf2 ay (by omega)) ?_
 rintro bb aY ⟨rfl,az⟩
 refine ⟨_,rfl,?_⟩
 replace hB:=hB.trans az
 simp only [p3,p4]
 refine sv 35 (.bool true) ?_
 refine sv 36 (.bool true) ?_
 refine sv 37 (.pointer (some ⟨b5,0,none⟩)) ?_
 replace L5:=L5.gr az
 refine sw 38 (.bool false) rfl (rk 4 0 L5) ?_
 refine sv 39 (.pointer (some ⟨b3,0,none⟩)) ?_
 replace L3:=L3.gr az
 refine sw 40 (.bool false) rfl (rk 4 0 L3) ?_
 refine sv 41 (.bool false) ?_
 refine sv 42 (.bool false) ?_
 refine za0 ?_
 refine aS _ _ ?_
 try clear aS aX
 refine wp_cond_false rfl ?_
 refine wp_skip ?_
 refine aR _ _ ?_
 try clear aR a2
 refine wp_seq_k (fun aZ aU=>?_)
 have af:=Gr.drew aY
 replace hB:=hB.trans af
 replace L4:=(av.lc L4 ad).gr (az.trans af)
 replace L5:=L5.gr af
 refine zb7 (fun _=>True) [([2],(fun w'=>Lc w' b4 #[ah,ai] 31)),([3],(fun w'=>Lc w' b5 #[.bool false,.slice aa ae ab] 31))] [(true,0),(true,1),(false,2),(false,3),(true,4)] (by kernel_rfl) (by kernel_rfl) (by kernel_rfl) (by decide) (fun _ _ _ _ _ h=>h) trivial ⟨fun _=>L4,fun _=>L5,trivial⟩ ?_
 refine tw 49 (.agg #[ah,ai]) rfl (fun w' hS=>(rl 31 0 [ah,ai] (hS.2.1 (by kernel_rfl)))) ?_
 refine tw 50 (.agg #[.bool false,.slice aa ae ab]) rfl (fun w' hS=>(rl 31 0 [.bool false,.slice aa ae ab] (hS.2.2.1 (by kernel_rfl)))) ?_
 refine te ?_
 refine es 31 0 (.agg #[ah,ai]) [ah,ai] #[ah,ai] L4 hB q4 ⟨aq.one0,aq.one1,trivial⟩ fun a7 aO aF L4 hB=>?_
 replace L5:=aO.lc L5 (Ne.symm ad)
 refine ⟨trivial,⟨zh3 (by kernel_rfl),fun _=>L5,trivial⟩,?_⟩
 refine te ?_
 refine es 31 0 (.agg #[.bool false,.slice aa ae ab]) [.bool false,.slice aa ae ab] #[.bool false,.slice aa ae ab] L5 hB q5 ⟨rfl,rfl,trivial⟩ fun a9 aP aB L5 hB=>?_
 refine ⟨trivial,⟨zh3 (by kernel_rfl),zh3 (by kernel_rfl),trivial⟩,?_⟩
 refine tv 6 (.int .i64 0) ?_
 refine zi1 ?_
 refine aU _ _ ?_
 try clear aU aZ
 refine wp_ret ?_
 replace L4:=aP.lc L4 ad
 refine bodyPost_ret (v:=(.tuple #[(.agg #[ah,ai]),(.agg #[.bool false,.slice aa ae ab]),.int .i64 0])) (zh1 _ _ _ _ _ _ rfl rfl rfl L4 (by kernel_rfl) L5 (by kernel_rfl) rfl) rfl ⟨?_,hB⟩
 have aN:=aA.kp.trans (aK.trans (aJ.trans (az.kp.trans (af.kp.trans (aF.trans aB)))))
 replace aq:=aq.kp aN
 have aM:=az.kp.trans (af.kp.trans (aF.trans aB))
 replace ay:=ay.kp aM
 exact ⟨_,_,_,_,rfl,aq,ay⟩

set_option maxRecDepth 100000 in
set_option maxHeartbeats 1000000 in
theorem divmod_t {w:World} {K m:Nat} {a b:Int} {ao bo:Option Addr} {la lb ca cb:Nat} (ha:Mag w ao la ca a) (hb:Mag w bo lb cb b) (hu:IsInt w m (.bool false) (.slice bo lb cb) b) (_hla:la≤1000000) (_hlb:lb≤1000000) (_hb0:0<b) (hR:0<a % b) (_hL:a % b<b) (_hQ:0≤a/b) (hZ:Sz K (-(a/b))) (_hK:K+64+1≤1000000) (_hm:m+m+1≤1000000):
    Calls Tryz.prog 77 #[(.agg #[.bool true,.slice ao la ca]),(.agg #[.bool false,.slice bo lb cb])] w fun e w'=>(∃ x' y' x3 y3,e=.returned (.tuple #[.agg #[x',y'],.agg #[x3,y3],.int .i64 0])∧IsInt w' (K+64+1) x' y' (-(a/b) - 1)∧IsInt w' (m+m+1) x3 y3 (-(a % b)+b))∧Gr w w':=by
 go_enter Tryz.func77,Tryz.ntmps77
 have hB:=Gr.refl w
 refine wp_seq_k (fun K1 k1=>?_)
 refine rg [0,1,2,3,4] ?_
 refine se ?_
 refine eb 31 #[.bool true,.slice ao la ca] 2 hB fun b2 w2 g2 L2 o2 q2 hB=>?_
 simp only [p3,p4]
 refine se ?_
 refine eb 31 #[.bool false,.slice bo lb cb] 3 hB fun b3 w3 g3 L3 o3 q3 hB=>?_
 simp only [p3,p4]
 refine se ?_
 refine ea 31 #[.bool false,.slice none 0 0] 4 hB fun b4 w4 g4 L4 o4 q4 hB=>?_
 replace L2:=L2.gr g3
 have aW:=L2.ne o4
 have aw:=L3.ne o4
 simp only [p3,p4]
 refine se ?_
 refine ea 31 #[.bool false,.slice none 0 0] 5 hB fun b5 w5 g5 L5 o5 q5 hB=>?_
 replace L2:=L2.gr g4
 have aV:=L2.ne o5
 replace L3:=L3.gr g4
 have au:=L3.ne o5
 have ac:=L4.ne o5
 simp only [p3,p4]
 refine sv 6 (.int .i64 0) ?_
 refine za0 ?_
 refine k1 _ _ ?_
 try clear k1 K1
 refine wp_seq_k (fun K6 k6=>?_)
 refine wp_seq_k (fun K7 k7=>?_)
 refine rg [0,1,2] ?_
 replace L3:=L3.gr g5
 refine sw 9 (.agg #[.bool false,.slice bo lb cb]) rfl (rl 31 0 [.bool false,.slice bo lb cb] L3) ?_
 refine se ?_
 have bf:=g2.kp.trans (g3.kp.trans (g4.kp.trans g5.kp))
 replace hu:=hu.kp bf
 refine ec 10 (zf2 hu (by omega)) ?_
 rintro e8 w8 ⟨rfl,g8⟩
 refine ⟨_,rfl,?_⟩
 replace hB:=hB.trans g8
 simp only [p3,p4]
 refine sv 11 (.bool false) ?_
 refine za0 ?_
 refine k7 _ _ ?_
 try clear k7 K7
 refine wp_cond_false rfl ?_
 refine wp_skip ?_
 refine k6 _ _ ?_
 try clear k6 K6
 refine wp_seq_k (fun bj bb=>?_)
 refine rg [0,1,2,3,4,5,6,7,8,9] ?_
 refine sv 15 (.pointer (some ⟨b2,1,none⟩)) ?_
 replace L2:=L2.gr (g5.trans g8)
 refine sw 16 (.slice ao la ca) rfl (rk 29 1 L2) ?_
 refine sv 17 (.pointer (some ⟨b3,1,none⟩)) ?_
 replace L3:=L3.gr g8
 refine sw 18 (.slice bo lb cb) rfl (rk 29 1 L3) ?_
 refine se ?_
 have aO:=g2.kp.trans (g3.kp.trans (g4.kp.trans (g5.kp.trans g8.kp)))
 replace ha:=ha.kp aO
 replace hb:=hb.kp aO
 refine ec 19 (zs6 ha hb (by omega) (by omega) (by omega)) ?_
 rintro e11 bc ⟨⟨ar,al,ap,aa,aq,ab,rfl,az,ay⟩,aN⟩
 refine ⟨_,rfl,?_⟩
 replace hB:=hB.trans aN
 simp only [p3,p4]
 refine sv 14 (.tuple #[.slice ar al ap,.slice aa aq ab]) ?_
 refine sv 20 (.slice ar al ap) ?_
 refine sv 21 (.slice aa aq ab) ?_
 refine sv 7 (.slice ar al ap) ?_
 refine sv 8 (.slice aa aq ab) ?_
 refine za0 ?_
 refine bb _ _ ?_
 try clear bb bj
 refine wp_seq_k (fun bi k13=>?_)
 have ad:=Gr.drew bc
 replace hB:=hB.trans ad
 replace L2:=L2.gr (aN.trans ad)
 replace L3:=L3.gr (aN.trans ad)
 refine za1 (fun w'=>Lc w' b2 #[.bool true,.slice ao la ca] 31∧Lc w' b3 #[.bool false,.slice bo lb cb] 31) [(true,0),(true,1),(true,2),(true,3),(true,4),(true,5),(true,7),(true,8),(true,9),(false,6),(false,10),(false,11),(false,12)] (by kernel_rfl) (by kernel_rfl) (by kernel_rfl) (by decide) (fun _ _ _ _ _ h=>h) ⟨L2,L3⟩ ?_
 refine ov 22 (.pointer (some ⟨b2,0,none⟩)) ?_
 refine ow 23 (.bool true) rfl (fun w' hS=>(rk 4 0 hS.1)) ?_
 refine ov 24 (.pointer (some ⟨b3,0,none⟩)) ?_
 refine ow 25 (.bool false) rfl (fun w' hS=>(rk 4 0 hS.2)) ?_
 refine ov 26 (.bool true) ?_
 refine ov 27 (.slice ar al ap) ?_
 refine ov 29 (.pointer (some ⟨b2,0,none⟩)) ?_
 refine ow 30 (.bool true) rfl (fun w' hS=>(rk 4 0 hS.1)) ?_
 refine ov 31 (.slice aa aq ab) ?_
 refine oe ?_
 replace az:=az.kp ad.kp
 refine ec 28 (zs7 (neg:=true) (Z:=(-(a/b))) az (by omega) (fun _=>by simp;omega) hZ (by omega)) ?_
 rintro bA bp ⟨⟨aL,aK,rfl,aP⟩,aD⟩
 refine ⟨_,rfl,?_⟩
 replace hB:=hB.trans aD
 replace L2:=L2.gr aD
 replace L3:=L3.gr aD
 refine ⟨⟨L2,L3⟩,?_⟩
 simp only [p3,p4]
 refine oe ?_
 have a1:=ad.kp.trans aD.kp
 replace ay:=ay.kp a1
 refine ec 32 (zU5 ay hR (Sz.of_le hu.sz (by omega)) (by omega)) ?_
 rintro bw bx ⟨⟨av,rfl,aM⟩,aC⟩
 refine ⟨_,rfl,?_⟩
 replace hB:=hB.trans aC
 replace L2:=L2.gr aC
 replace L3:=L3.gr aC
 refine ⟨⟨L2,L3⟩,?_⟩
 simp only [p3,p4]
 refine oe ?_
 replace L4:=L4.gr (g5.trans (g8.trans (aN.trans (ad.trans (aD.trans aC)))))
 refine es 31 0 (.agg #[aL,aK]) [aL,aK] #[aL,aK] L4 hB q4 ⟨aP.one0,aP.one1,trivial⟩ fun bE aG aH L4 hB=>?_
 replace L2:=aG.lc L2 aW
 replace L3:=aG.lc L3 aw
 refine ⟨⟨L2,L3⟩,?_⟩
 refine oe ?_
 replace L5:=aG.lc (L5.gr (g8.trans (aN.trans (ad.trans (aD.trans aC))))) (Ne.symm ac)
 refine es 31 0 (.agg #[.bool true,.slice aa av ab]) [.bool true,.slice aa av ab] #[.bool true,.slice aa av ab] L5 hB q5 ⟨rfl,rfl,trivial⟩ fun bv aE aI L5 hB=>?_
 replace L2:=aE.lc L2 aV
 replace L3:=aE.lc L3 au
 refine ⟨⟨L2,L3⟩,?_⟩
 refine za2 ?_
 refine k13 _ _ ?_
 try clear k13 bi
 refine wp_seq_k (fun bk a9=>?_)
 refine wp_seq_k (fun bg ba=>?_)
 refine rg [0,1,2,3,4,5,6,7,8,9] ?_
 refine sw 33 (.agg #[.bool true,.slice aa av ab]) rfl (rl 31 0 [.bool true,.slice aa av ab] L5) ?_
 refine se ?_
 have a7:=aH.trans aI
 replace aM:=aM.kp a7
 refine ec 34 (zA0 aM (by omega)) ?_
 rintro bC bh ⟨rfl,aF⟩
 refine ⟨_,rfl,?_⟩
 replace hB:=hB.trans aF
 simp only [p3,p4]
 refine sv 35 (.bool true) ?_
 refine sv 36 (.bool true) ?_
 refine sv 37 (.pointer (some ⟨b5,0,none⟩)) ?_
 replace L5:=L5.gr aF
 refine sw 38 (.bool true) rfl (rk 4 0 L5) ?_
 refine sv 39 (.pointer (some ⟨b3,0,none⟩)) ?_
 replace L3:=L3.gr aF
 refine sw 40 (.bool false) rfl (rk 4 0 L3) ?_
 refine sv 41 (.bool true) ?_
 refine sv 42 (.bool true) ?_
 refine za0 ?_
 refine ba _ _ ?_
 try clear ba bg
 refine wp_cond_true rfl ?_
 have ae:=Gr.drew bh
 replace hB:=hB.trans ae
 replace L3:=L3.gr ae
 replace L4:=(aE.lc L4 ac).gr (aF.trans ae)
 replace L5:=L5.gr ae
 refine zb7 (fun w'=>Lc w' b3 #[.bool false,.slice bo lb cb] 31) [([6],(fun w'=>Lc w' b4 #[aL,aK] 31)),([7],(fun w'=>Lc w' b5 #[.bool true,.slice aa av ab] 31))] [(true,0),(true,3),(true,4),(false,1),(false,2),(false,5),(false,6),(false,7)] (by kernel_rfl) (by kernel_rfl) (by kernel_rfl) (by decide) (fun _ _ _ _ _ h=>h) L3 ⟨fun _=>L4,fun _=>L5,trivial⟩ ?_
 refine tw 43 (.agg #[aL,aK]) rfl (fun w' hS=>(rl 31 0 [aL,aK] (hS.2.1 (by kernel_rfl)))) ?_
 refine tw 46 (.agg #[.bool true,.slice aa av ab]) rfl (fun w' hS=>(rl 31 0 [.bool true,.slice aa av ab] (hS.2.2.1 (by kernel_rfl)))) ?_
 refine tw 47 (.agg #[.bool false,.slice bo lb cb]) rfl (fun w' hS=>(rl 31 0 [.bool false,.slice bo lb cb] hS.1)) ?_
 refine te ?_
 refine ec 44 (zt3 (1) (by omega) (by omega) _) ?_
 rintro bB bK ⟨⟨bz,bF,rfl,bd⟩,ax⟩
 refine ⟨_,rfl,?_⟩
 replace hB:=hB.trans ax
 replace L3:=L3.gr ax
 replace L4:=L4.gr ax
 replace L5:=L5.gr ax
 refine ⟨L3,⟨fun _=>L4,fun _=>L5,trivial⟩,?_⟩
 simp only [p3,p4]
 refine te ?_
 have a4:=aC.kp.trans (aH.trans (aI.trans (aF.kp.trans (ae.kp.trans ax.kp))))
 replace aP:=aP.kp a4
 refine ec 45 (sub_i aP bd (by omega)) ?_
 rintro bq bD ⟨⟨ak,ah,rfl,aA⟩,aJ⟩
 refine ⟨_,rfl,?_⟩
 replace hB:=hB.trans aJ
 replace L3:=L3.gr aJ
 replace L4:=L4.gr aJ
 replace L5:=L5.gr aJ
 refine ⟨L3,⟨fun _=>L4,fun _=>L5,trivial⟩,?_⟩
 simp only [p3,p4]
 refine te ?_
 have a0:=aF.kp.trans (ae.kp.trans (ax.kp.trans aJ.kp))
 replace aM:=aM.kp a0
 have a3:=g8.kp.trans (aN.kp.trans (ad.kp.trans (aD.kp.trans (aC.kp.trans (aH.trans (aI.trans (aF.kp.trans (ae.kp.trans (ax.kp.trans aJ.kp)))))))))
 replace hu:=hu.kp a3
 refine ec 48 (add_i aM hu (by omega)) ?_
 rintro bt bu ⟨⟨aj,ai,rfl,aB⟩,aU⟩
 refine ⟨_,rfl,?_⟩
 replace hB:=hB.trans aU
 replace L3:=L3.gr aU
 replace L4:=L4.gr aU
 replace L5:=L5.gr aU
 refine ⟨L3,⟨fun _=>L4,fun _=>L5,trivial⟩,?_⟩
 simp only [p3,p4]
 refine te ?_
 refine es 31 0 (.agg #[ak,ah]) [ak,ah] #[ak,ah] L4 hB q4 ⟨aA.one0,aA.one1,trivial⟩ fun bH aR aQ L4 hB=>?_
 replace L3:=aR.lc L3 aw
 replace L5:=aR.lc L5 (Ne.symm ac)
 refine ⟨L3,⟨zh3 (by kernel_rfl),fun _=>L5,trivial⟩,?_⟩
 refine te ?_
 refine es 31 0 (.agg #[aj,ai]) [aj,ai] #[aj,ai] L5 hB q5 ⟨aB.one0,aB.one1,trivial⟩ fun bm aT aX L5 hB=>?_
 replace L3:=aT.lc L3 au
 refine ⟨L3,⟨zh3 (by kernel_rfl),zh3 (by kernel_rfl),trivial⟩,?_⟩
 refine zi1 ?_
 refine a9 _ _ ?_
 try clear a9 bk
 refine wp_seq_k (fun bn a8=>?_)
 have af:=Gr.drew bm
 replace hB:=hB.trans af
 replace L4:=(aT.lc L4 ac).gr af
 replace L5:=L5.gr af
 refine zb7 (fun _=>True) [([2],(fun w'=>Lc w' b4 #[ak,ah] 31)),([3],(fun w'=>Lc w' b5 #[aj,ai] 31))] [(true,0),(true,1),(false,2),(false,3),(true,4)] (by kernel_rfl) (by kernel_rfl) (by kernel_rfl) (by decide) (fun _ _ _ _ _ h=>h) trivial ⟨fun _=>L4,fun _=>L5,trivial⟩ ?_
 refine tw 49 (.agg #[ak,ah]) rfl (fun w' hS=>(rl 31 0 [ak,ah] (hS.2.1 (by kernel_rfl)))) ?_
 refine tw 50 (.agg #[aj,ai]) rfl (fun w' hS=>(rl 31 0 [aj,ai] (hS.2.2.1 (by kernel_rfl)))) ?_
 refine te ?_
 refine es 31 0 (.agg #[ak,ah]) [ak,ah] #[ak,ah] L4 hB q4 ⟨aA.one0,aA.one1,trivial⟩ fun bJ a2 aS L4 hB=>?_
 replace L5:=a2.lc L5 (Ne.symm ac)
 refine ⟨trivial,⟨zh3 (by kernel_rfl),fun _=>L5,trivial⟩,?_⟩
 refine te ?_
 refine es 31 0 (.agg #[aj,ai]) [aj,ai] #[aj,ai] L5 hB q5 ⟨aB.one0,aB.one1,trivial⟩ fun bG a6 aY L5 hB=>?_
 refine ⟨trivial,⟨zh3 (by kernel_rfl),zh3 (by kernel_rfl),trivial⟩,?_⟩
 refine tv 6 (.int .i64 0) ?_
 refine zi1 ?_
 refine a8 _ _ ?_
 try clear a8 bn
 refine wp_ret ?_
 replace L4:=a6.lc L4 ac
 refine bodyPost_ret (v:=(.tuple #[(.agg #[ak,ah]),(.agg #[aj,ai]),.int .i64 0])) (zh1 _ _ _ _ _ _ rfl rfl rfl L4 (by kernel_rfl) L5 (by kernel_rfl) rfl) rfl ⟨?_,hB⟩
 have aZ:=aU.kp.trans (aQ.trans (aX.trans (af.kp.trans (aS.trans aY))))
 replace aA:=aA.kp aZ
 have a5:=aQ.trans (aX.trans (af.kp.trans (aS.trans aY)))
 replace aB:=aB.kp a5
 exact ⟨_,_,_,_,rfl,aA,aB⟩

set_option maxRecDepth 100000 in
set_option maxHeartbeats 1000000 in
theorem zD4 (w:World):
    Calls Tryz.prog 74 #[] w fun e w'=>(∃ x' y',e=.returned (.agg #[x',y'])∧IsInt w' 64 x' y' (1))∧Gr w w':=by
 go_enter Tryz.func74,Tryz.ntmps74
 have hB:=Gr.refl w
 refine wp_seq_k (fun K1 k1=>?_)
 refine rg [0] ?_
 refine se ?_
 refine ea 31 #[.bool false,.slice none 0 0] 0 hB fun b2 w2 g2 L2 o2 q2 hB=>?_
 simp only [p3]
 refine za0 ?_
 refine k1 _ _ ?_
 try clear k1 K1
 refine wp_seq_k (fun K3 k3=>?_)
 refine rg [0,1] ?_
 refine se ?_
 refine ec 1 (zt3 (1) (by omega) (by omega) _) ?_
 rintro e4 w4 ⟨⟨x4,y4,rfl,h4⟩,g4⟩
 refine ⟨_,rfl,?_⟩
 replace hB:=hB.trans g4
 simp only [p3,p4]
 refine se ?_
 replace L2:=L2.gr g4
 refine es 31 0 (.agg #[x4,y4]) [x4,y4] #[x4,y4] L2 hB q2 ⟨h4.one0,h4.one1,trivial⟩ fun w5 ab aa L2 hB=>?_
 refine za0 ?_
 refine k3 _ _ ?_
 try clear k3 K3
 refine wp_ret ?_
 refine bodyPost_ret (v:=(.agg #[x4,y4])) (za6 _ _ _ rfl rfl L2 (by kernel_rfl)) rfl ⟨?_,hB⟩
 replace h4:=h4.kp aa
 exact ⟨_,_,rfl,h4⟩

theorem zg8 {k m:Nat} {x y x2 y2:Value} {z u:Int} {w:World} (hz:IsInt w k x y z) (hu:IsInt w m x2 y2 u) (aa:0<u) (hkm:k+k+m+m+66≤1000000):
  Calls Tryz.prog 77 #[.agg #[x,y],.agg #[x2,y2]] w fun e w'=>(∃ x' y' x3 y3,e=.returned (.tuple #[.agg #[x',y'],.agg #[x3,y3],.int .i64 0])∧IsInt w' k x' y' (z/u)∧IsInt w' m x3 y3 (z % u))∧Gr w w':=by
 have hu':=hu
 obtain ⟨ao,la,ca,rfl,rfl,ha,hs⟩:=hz
 obtain ⟨bo,lb,cb,rfl,rfl,hb,ht⟩:=hu
 have hla:=ha.nl.len_sz hs.nat
 have hlb:=hb.nl.len_sz ht.nat
 have e0:((u.natAbs:Nat):Int)=u:=by omega
 have e1:decide (u<0)=false:=by simp;omega
 rw [e1] at hu' ⊢
 rw [e0] at hb
 have hM:=Int.emod_nonneg (z.natAbs:Int) (b:=u) (by omega)
 have hL:=Int.emod_lt_of_pos (z.natAbs:Int) aa
 have hQ:0≤(z.natAbs:Int)/u:=Int.ediv_nonneg (by omega) (by omega)
 have hD:=Int.mul_ediv_add_emod (z.natAbs:Int) u
 have hqle:(z.natAbs:Int)/u≤(z.natAbs:Int):=Int.ediv_le_self _ (by omega)
 have hkk:Sz k (z/u):=by
  refine hs.of_le ?_
  rcases Int.lt_or_le z 0 with h | h
  ·have h1:z≤z/u:=by
    rw [Int.le_ediv_iff_mul_le aa]
    have:z*u≤z*1:=Int.mul_le_mul_of_nonpos_left (by omega) (by omega)
    omega
   have h2:z/u<0:=Int.ediv_neg_of_neg_of_pos h aa
   omega
  ·have h1:z/u≤z:=Int.ediv_le_self _ h
   have h2:0≤z/u:=Int.ediv_nonneg h (by omega)
   omega
 have hmm:Sz m (z % u):=by
  refine ht.of_le ?_
  have:=Int.emod_nonneg z (b:=u) (by omega)
  have:=Int.emod_lt_of_pos z aa
  omega
 -- z in terms of its magnitude
 have key:∀ q r:Int,z=u*q+r→0≤r→r<u→z/u=q∧z % u=r:=fun q r h h0 h1=>by
  rw [Int.ediv_emod_unique aa]
  exact ⟨by omega,h0,h1⟩
 by_cases h0:(z.natAbs:Int) % u=0
 ·have hk:=key (if z<0 then -((z.natAbs:Int)/u) else (z.natAbs:Int)/u) 0 (by
   split
   ·rw [Int.mul_neg];omega
   ·omega) (by omega) aa
  refine (divmod_0 (Z:=z/u) (K:=k) ha hb hu' (by omega) (by omega) aa h0 ?_ (fun hp=>?_) hkk (by omega) (by omega)).mono ?_
  ·rw [hk.1];split<;>omega
  ·rw [hk.1]
   by_cases hz0:z<0
   ·simp [hz0];omega
   ·simp [hz0];omega
  ·rintro e w1 ⟨⟨x',y',x3,y3,he,h1,h2⟩,g⟩
   exact ⟨⟨x',y',x3,y3,he,h1,by rw [hk.2];exact h2⟩,g⟩
 ·by_cases hz0:z<0
  ·have e2:decide (z<0)=true:=by simpa using hz0
   rw [e2]
   have hk:=key (-((z.natAbs:Int)/u) - 1) (-((z.natAbs:Int) % u)+u) (by
    rw [Int.mul_sub,Int.mul_neg];omega) (by omega) (by omega)
   refine (divmod_t (K:=k) ha hb hu' (by omega) (by omega) aa (by omega) hL hQ (hs.of_le (by omega)) (by omega) (by omega)).mono ?_
   rintro e w1 ⟨⟨x',y',x3,y3,he,h1,h2⟩,g⟩
   rw [← hk.1] at h1
   rw [← hk.2] at h2
   exact ⟨⟨x',y',x3,y3,he,h1.resz hkk,h2.resz hmm⟩,g⟩
  ·have e2:decide (z<0)=false:=by simpa using hz0
   rw [e2]
   have ez:(z.natAbs:Int)=z:=by omega
   refine (divmod_f (K:=k) ha hb hu' (by omega) (by omega) aa (by omega) hL hQ (by rw [ez];exact hkk) (by omega) (by omega)).mono ?_
   rintro e w1 ⟨⟨x',y',x3,y3,he,h1,h2⟩,g⟩
   rw [ez] at h1 h2
   exact ⟨⟨x',y',x3,y3,he,h1,h2⟩,g⟩

theorem zd4 {k m:Nat} {x y x2 y2:Value} {z u:Int} {w:World} (hz:IsInt w k x y z) (hu:IsInt w m x2 y2 u) (hk:k≤1000000) (hm:m≤1000000):
  Calls Tryz.prog 67 #[.agg #[x,y],.agg #[x2,y2]] w fun e w'=>e=.returned (.int .i64 (sgn (z - u)))∧Gr w w':=by
 obtain ⟨ao,la,ca,rfl,rfl,ha,hs⟩:=hz
 obtain ⟨bo,lb,cb,rfl,rfl,hb,ht⟩:=hu
 have hla:=ha.nl.len_sz hs.nat
 have hlb:=hb.nl.len_sz ht.nat
 by_cases h1:z<0<;>by_cases h2:u<0
 ·have d1:decide (z<0)=true:=by simpa using h1
  have d2:decide (u<0)=true:=by simpa using h2
  rw [d1,d2]
  have e:z - u=(u.natAbs:Int) - (z.natAbs:Int):=by omega
  rw [e];exact cmp_tt ha hb (by omega) (by omega)
 ·have d1:decide (z<0)=true:=by simpa using h1
  have d2:decide (u<0)=false:=by simpa using h2
  rw [d1,d2,zl4 (by omega)];exact cmp_tf ha hb (by omega) (by omega)
 ·have d1:decide (z<0)=false:=by simpa using h1
  have d2:decide (u<0)=true:=by simpa using h2
  rw [d1,d2,zo9 (by omega)];exact cmp_ft ha hb (by omega) (by omega)
 ·have d1:decide (z<0)=false:=by simpa using h1
  have d2:decide (u<0)=false:=by simpa using h2
  rw [d1,d2]
  have e:z - u=(z.natAbs:Int) - (u.natAbs:Int):=by omega
  rw [e];exact cmp_ff ha hb (by omega) (by omega)

structure IsRat (w:World) (k:Nat) (c0 c1 c2 c3:Value) (q:Rat):Prop where
 num:IsInt w k c0 c1 q.num
 den:∃ D,IsInt w k c2 c3 D∧(D=(q.den:Int)∨D=0∧q.den=1)
 big:64≤k
theorem IsRat.kp {w w':World} {k:Nat} {c0 c1 c2 c3:Value} {q:Rat} (h:IsRat w k c0 c1 c2 c3 q) (hb:Kp w w'):IsRat w' k c0 c1 c2 c3 q:=by
 obtain ⟨h1,⟨D,h2,h3⟩,h4⟩:=h
 exact ⟨h1.kp hb,⟨D,h2.kp hb,h3⟩,h4⟩
theorem IsRat.gr {w w':World} {k:Nat} {c0 c1 c2 c3:Value} {q:Rat} (h:IsRat w k c0 c1 c2 c3 q) (hb:Gr w w'):IsRat w' k c0 c1 c2 c3 q:=h.kp hb.kp
theorem IsRat.one0 {w:World} {k:Nat} {c0 c1 c2 c3:Value} {q:Rat} (h:IsRat w k c0 c1 c2 c3 q):c0.oneCell'=true:=h.num.one0
theorem IsRat.one1 {w:World} {k:Nat} {c0 c1 c2 c3:Value} {q:Rat} (h:IsRat w k c0 c1 c2 c3 q):c1.oneCell'=true:=h.num.one1
theorem IsRat.one2 {w:World} {k:Nat} {c0 c1 c2 c3:Value} {q:Rat} (h:IsRat w k c0 c1 c2 c3 q):c2.oneCell'=true:=by
 obtain ⟨D,h2,_⟩:=h.den;exact h2.one0
theorem IsRat.one3 {w:World} {k:Nat} {c0 c1 c2 c3:Value} {q:Rat} (h:IsRat w k c0 c1 c2 c3 q):c3.oneCell'=true:=by
 obtain ⟨D,h2,_⟩:=h.den;exact h2.one1
theorem IsRat.mono {w:World} {k m:Nat} {c0 c1 c2 c3:Value} {q:Rat} (h:IsRat w k c0 c1 c2 c3 q) (hk:k≤m):IsRat w m c0 c1 c2 c3 q:=by
 obtain ⟨h1,⟨D,h2,h3⟩,h4⟩:=h
 exact ⟨h1.mono hk,⟨D,h2.mono hk,h3⟩,Nat.le_trans h4 hk⟩
theorem IsRat.zero (w:World) {k:Nat} (hk:64≤k):IsRat w k (.bool false) (.slice none 0 0) (.bool false) (.slice none 0 0) 0:=
 ⟨IsInt.zero w k,⟨0,IsInt.zero w k,.inr ⟨rfl,rfl⟩⟩,hk⟩
theorem IsRat.int {w:World} {k:Nat} {c0 c1:Value} {z:Int} (h:IsInt w k c0 c1 z) (hk:64≤k):IsRat w k c0 c1 (.bool false) (.slice none 0 0) (z:Rat):=
 ⟨h,⟨0,IsInt.zero w k,.inr ⟨rfl,rfl⟩⟩,hk⟩
set_option maxRecDepth 100000 in
set_option maxHeartbeats 1000000 in
theorem whole_z {k:Nat} {c0 c1 c2 c3:Value} {w:World} (hd:IsInt w k c2 c3 0):
    Calls Tryz.prog 55 #[(.agg #[c0,c1,c2,c3])] w fun e w'=>e=.returned (.bool true)∧Gr w w':=by
 go_enter Tryz.func55,Tryz.ntmps55
 have hB:=Gr.refl w
 refine wp_seq_k (fun K1 k1=>?_)
 refine rg [0,1] ?_
 refine se ?_
 refine eb 33 #[c0,c1,c2,c3] 1 hB fun b2 w2 g2 L2 o2 q2 hB=>?_
 simp only [p3,p4]
 refine sv 2 (.bool false) ?_
 refine za0 ?_
 refine k1 _ _ ?_
 try clear k1 K1
 refine wp_seq_k (fun K3 k3=>?_)
 have aa:=Gr.drew w2
 replace hB:=hB.trans aa
 replace L2:=L2.gr aa
 refine za1 (fun w'=>Lc w' b2 #[c0,c1,c2,c3] 33) [(true,0),(true,1),(false,2),(true,3),(true,4),(true,5),(true,6),(false,7),(false,8),(true,9),(true,10),(true,11)] (by kernel_rfl) (by kernel_rfl) (by kernel_rfl) (by decide) (fun _ _ _ _ _ h=>h) L2 ?_
 refine ov 3 (.pointer (some ⟨b2,2,none⟩)) ?_
 refine ow 4 (.agg #[c2,c3]) rfl (fun w' hS=>(rl 31 2 [c2,c3] hS)) ?_
 refine oe ?_
 have ab:=g2.kp.trans aa.kp
 replace hd:=hd.kp ab
 refine ec 5 (zt2 hd) ?_
 rintro ad ae ⟨rfl,ac⟩
 refine ⟨_,rfl,?_⟩
 replace hB:=hB.trans ac
 replace L2:=L2.gr ac
 refine ⟨L2,?_⟩
 simp only [p3,p4]
 refine ov 6 (.bool true) ?_
 refine ov 7 (.bool true) ?_
 refine os 8 ?_
 refine os 9 ?_
 refine oz 10 L2 ?_
 refine oz 11 L2 ?_
 refine os 12 ?_
 refine ov 13 (.bool true) ?_
 refine ov 2 (.bool true) ?_
 refine za2 ?_
 refine k3 _ _ ?_
 try clear k3 K3
 refine wp_ret ?_
 refine bodyPost_ret (v:=(.bool true)) (zb6 rfl rfl) rfl ⟨?_,hB⟩
 exact rfl

set_option maxRecDepth 100000 in
set_option maxHeartbeats 1000000 in
theorem whole_p {k:Nat} {c0 c1 c2 c3:Value} {D:Int} {w:World} (hd:IsInt w k c2 c3 D) (_h0:0<D) (_hk:k≤1000000):
    Calls Tryz.prog 55 #[(.agg #[c0,c1,c2,c3])] w fun e w'=>e=.returned (.bool (sgn (D - 1)==0))∧Gr w w':=by
 go_enter Tryz.func55,Tryz.ntmps55
 have hB:=Gr.refl w
 refine wp_seq_k (fun K1 k1=>?_)
 refine rg [0,1] ?_
 refine se ?_
 refine eb 33 #[c0,c1,c2,c3] 1 hB fun b2 w2 g2 L2 o2 q2 hB=>?_
 simp only [p3,p4]
 refine sv 2 (.bool false) ?_
 refine za0 ?_
 refine k1 _ _ ?_
 try clear k1 K1
 refine wp_seq_k (fun K3 k3=>?_)
 have aa:=Gr.drew w2
 replace hB:=hB.trans aa
 replace L2:=L2.gr aa
 refine za1 (fun w'=>Lc w' b2 #[c0,c1,c2,c3] 33) [(true,0),(true,1),(false,2),(true,3),(true,4),(true,5),(true,6),(false,7),(false,8),(true,9),(true,10),(true,11)] (by kernel_rfl) (by kernel_rfl) (by kernel_rfl) (by decide) (fun _ _ _ _ _ h=>h) L2 ?_
 refine ov 3 (.pointer (some ⟨b2,2,none⟩)) ?_
 refine ow 4 (.agg #[c2,c3]) rfl (fun w' hS=>(rl 31 2 [c2,c3] hS)) ?_
 refine oe ?_
 have ac:=g2.kp.trans aa.kp
 replace hd:=hd.kp ac
 refine ec 5 (zf2 hd (by omega)) ?_
 rintro aj ap ⟨rfl,ab⟩
 refine ⟨_,rfl,?_⟩
 replace hB:=hB.trans ab
 replace L2:=L2.gr ab
 refine ⟨L2,?_⟩
 simp only [p3,p4]
 refine ov 6 (.bool false) ?_
 refine ov 7 (.bool false) ?_
 refine ov 8 (.pointer (some ⟨b2,2,none⟩)) ?_
 refine ow 9 (.agg #[c2,c3]) rfl (fun w' hS=>(rl 31 2 [c2,c3] hS)) ?_
 refine oe ?_
 refine ec 10 (zD4 _) ?_
 rintro au aq ⟨⟨al,ai,rfl,ah⟩,ae⟩
 refine ⟨_,rfl,?_⟩
 replace hB:=hB.trans ae
 replace L2:=L2.gr ae
 refine ⟨L2,?_⟩
 simp only [p3,p4]
 refine oe ?_
 have ad:=ab.kp.trans ae.kp
 replace hd:=hd.kp ad
 refine ec 11 (zd4 hd ah (by omega) (by omega)) ?_
 rintro ar ak ⟨rfl,af⟩
 refine ⟨_,rfl,?_⟩
 replace hB:=hB.trans af
 replace L2:=L2.gr af
 refine ⟨L2,?_⟩
 simp only [p3,p4]
 refine ov 12 (.bool ((sgn (D - 1)==(0:Int)))) ?_
 refine ov 13 (.bool ((sgn (D - 1)==(0:Int)))) ?_
 refine ov 2 (.bool ((sgn (D - 1)==(0:Int)))) ?_
 refine za2 ?_
 refine k3 _ _ ?_
 try clear k3 K3
 refine wp_ret ?_
 refine bodyPost_ret (v:=(.bool ((sgn (D - 1)==(0:Int))))) (zb6 rfl rfl) rfl ⟨?_,hB⟩
 exact rfl

set_option maxRecDepth 100000 in
set_option maxHeartbeats 1000000 in
theorem den_z {k:Nat} {c0 c1 c2 c3:Value} {w:World} (hd:IsInt w k c2 c3 0):
    Calls Tryz.prog 65 #[(.agg #[c0,c1,c2,c3])] w fun e w'=>(∃ x' y',e=.returned (.agg #[x',y'])∧IsInt w' 64 x' y' (1))∧Gr w w':=by
 go_enter Tryz.func65,Tryz.ntmps65
 have hB:=Gr.refl w
 refine wp_seq_k (fun K1 k1=>?_)
 refine rg [0,1] ?_
 refine se ?_
 refine eb 33 #[c0,c1,c2,c3] 1 hB fun b2 w2 g2 L2 o2 q2 hB=>?_
 simp only [p3,p4]
 refine se ?_
 refine ea 31 #[.bool false,.slice none 0 0] 2 hB fun b3 w3 g3 L3 o3 q3 hB=>?_
 simp only [p3,p4]
 refine za0 ?_
 refine k1 _ _ ?_
 try clear k1 K1
 refine wp_seq_k (fun K4 k4=>?_)
 refine wp_seq_k (fun K5 k5=>?_)
 refine rg [0,1,2,3] ?_
 refine sv 3 (.pointer (some ⟨b2,2,none⟩)) ?_
 replace L2:=L2.gr g3
 refine sw 4 (.agg #[c2,c3]) rfl (rl 31 2 [c2,c3] L2) ?_
 refine se ?_
 have ab:=g2.kp.trans g3.kp
 replace hd:=hd.kp ab
 refine ec 5 (zt2 hd) ?_
 rintro e6 w6 ⟨rfl,g6⟩
 refine ⟨_,rfl,?_⟩
 replace hB:=hB.trans g6
 simp only [p3,p4]
 refine sv 6 (.bool true) ?_
 refine za0 ?_
 refine k5 _ _ ?_
 try clear k5 K5
 refine wp_cond_true rfl ?_
 refine wp_seq_k (fun K8 k8=>?_)
 refine rg [0,1] ?_
 refine se ?_
 refine ec 7 (zD4 _) ?_
 rintro e9 w9 ⟨⟨x9,y9,rfl,h9⟩,g9⟩
 refine ⟨_,rfl,?_⟩
 replace hB:=hB.trans g9
 simp only [p3,p4]
 refine se ?_
 replace L3:=L3.gr (g6.trans g9)
 refine es 31 0 (.agg #[x9,y9]) [x9,y9] #[x9,y9] L3 hB q3 ⟨h9.one0,h9.one1,trivial⟩ fun ad ac aa L3 hB=>?_
 refine za0 ?_
 refine k8 _ _ ?_
 try clear k8 K8
 refine wp_ret ?_
 simp only [Exit.then]
 refine bodyPost_ret (v:=(.agg #[x9,y9])) (za6 _ _ _ rfl rfl L3 (by kernel_rfl)) rfl ⟨?_,hB⟩
 replace h9:=h9.kp aa
 exact ⟨_,_,rfl,h9⟩

set_option maxRecDepth 100000 in
set_option maxHeartbeats 1000000 in
theorem den_p {k:Nat} {c0 c1 c2 c3:Value} {D:Int} {w:World} (hd:IsInt w k c2 c3 D) (_h0:0<D):
    Calls Tryz.prog 65 #[(.agg #[c0,c1,c2,c3])] w fun e w'=>(∃ x' y',e=.returned (.agg #[x',y'])∧IsInt w' k x' y' (D))∧Gr w w':=by
 go_enter Tryz.func65,Tryz.ntmps65
 have hB:=Gr.refl w
 refine wp_seq_k (fun K1 k1=>?_)
 refine rg [0,1] ?_
 refine se ?_
 refine eb 33 #[c0,c1,c2,c3] 1 hB fun b2 w2 g2 L2 o2 q2 hB=>?_
 simp only [p3,p4]
 refine se ?_
 refine ea 31 #[.bool false,.slice none 0 0] 2 hB fun b3 w3 g3 L3 o3 q3 hB=>?_
 simp only [p3,p4]
 refine za0 ?_
 refine k1 _ _ ?_
 try clear k1 K1
 refine wp_seq_k (fun K4 k4=>?_)
 refine wp_seq_k (fun K5 k5=>?_)
 refine rg [0,1,2,3] ?_
 refine sv 3 (.pointer (some ⟨b2,2,none⟩)) ?_
 replace L2:=L2.gr g3
 refine sw 4 (.agg #[c2,c3]) rfl (rl 31 2 [c2,c3] L2) ?_
 refine se ?_
 have ab:=g2.kp.trans g3.kp
 replace hd:=hd.kp ab
 refine ec 5 (zf2 hd (by omega)) ?_
 rintro e6 w6 ⟨rfl,g6⟩
 refine ⟨_,rfl,?_⟩
 replace hB:=hB.trans g6
 simp only [p3,p4]
 refine sv 6 (.bool false) ?_
 refine za0 ?_
 refine k5 _ _ ?_
 try clear k5 K5
 refine wp_cond_false rfl ?_
 refine wp_skip ?_
 refine k4 _ _ ?_
 try clear k4 K4
 refine wp_seq_k (fun K8 k8=>?_)
 refine rg [0,1,2] ?_
 refine sv 8 (.pointer (some ⟨b2,2,none⟩)) ?_
 replace L2:=L2.gr g6
 refine sw 9 (.agg #[c2,c3]) rfl (rl 31 2 [c2,c3] L2) ?_
 refine se ?_
 replace L3:=L3.gr g6
 refine es 31 0 (.agg #[c2,c3]) [c2,c3] #[c2,c3] L3 hB q3 ⟨hd.one0,hd.one1,trivial⟩ fun w9 ad ac L3 hB=>?_
 refine za0 ?_
 refine k8 _ _ ?_
 try clear k8 K8
 refine wp_ret ?_
 refine bodyPost_ret (v:=(.agg #[c2,c3])) (za6 _ _ _ rfl rfl L3 (by kernel_rfl)) rfl ⟨?_,hB⟩
 have aa:=g6.kp.trans ac
 replace hd:=hd.kp aa
 exact ⟨_,_,rfl,hd⟩

set_option maxRecDepth 100000 in
set_option maxHeartbeats 1000000 in
theorem zP5 {k:Nat} {n0 n1 d0 d1:Value} {N D:Int} {w:World} (hn:IsInt w k n0 n1 N) (hd:IsInt w k d0 d1 D) (_hk:k+k+k+k+k+k+66≤1000000) (_h0:0<D) (hg:(sgn ((Int.gcd (N) (D):Int) - 1) !=0)=false):
    Calls Tryz.prog 63 #[(.agg #[n0,n1]),(.agg #[d0,d1])] w fun e w'=>(∃ x y x2 y2,e=.returned (.agg #[x,y,x2,y2])∧IsInt w' k x y (N)∧IsInt w' k x2 y2 (D))∧Gr w w':=by
 go_enter Tryz.func63,Tryz.ntmps63
 have hB:=Gr.refl w
 refine wp_seq_k (fun K1 k1=>?_)
 refine rg [0,1,2] ?_
 refine se ?_
 refine eb 31 #[n0,n1] 2 hB fun b2 w2 g2 L2 o2 q2 hB=>?_
 simp only [p3,p4]
 refine se ?_
 refine eb 31 #[d0,d1] 3 hB fun b3 w3 g3 L3 o3 q3 hB=>?_
 simp only [p3,p4]
 refine se ?_
 refine ea 33 #[.bool false,.slice none 0 0,.bool false,.slice none 0 0] 4 hB fun b4 w4 g4 L4 o4 q4 hB=>?_
 replace L2:=L2.gr g3
 simp only [p3,p4]
 refine za0 ?_
 refine k1 _ _ ?_
 try clear k1 K1
 refine wp_seq_k (fun K5 k5=>?_)
 refine wp_seq_k (fun K6 k6=>?_)
 refine rg [0,1,2] ?_
 replace L3:=L3.gr g4
 refine sw 6 (.agg #[d0,d1]) rfl (rl 31 0 [d0,d1] L3) ?_
 refine se ?_
 have aC:=g2.kp.trans (g3.kp.trans g4.kp)
 replace hd:=hd.kp aC
 refine ec 7 (zf2 hd (by omega)) ?_
 rintro e7 w7 ⟨rfl,g7⟩
 refine ⟨_,rfl,?_⟩
 replace hB:=hB.trans g7
 simp only [p3,p4]
 refine sv 8 (.bool false) ?_
 refine za0 ?_
 refine k6 _ _ ?_
 try clear k6 K6
 refine wp_cond_false rfl ?_
 refine wp_skip ?_
 refine k5 _ _ ?_
 try clear k5 K5
 refine wp_seq_k (fun K9 k9=>?_)
 refine rg [0,1,2,3,4] ?_
 replace L2:=L2.gr (g4.trans g7)
 refine sw 13 (.agg #[n0,n1]) rfl (rl 31 0 [n0,n1] L2) ?_
 replace L3:=L3.gr g7
 refine sw 14 (.agg #[d0,d1]) rfl (rl 31 0 [d0,d1] L3) ?_
 refine se ?_
 have av:=g2.kp.trans (g3.kp.trans (g4.kp.trans g7.kp))
 replace hn:=hn.kp av
 replace hd:=hd.kp g7.kp
 refine ec 15 (zr6 hn hd (by omega)) ?_
 rintro aN aT ⟨⟨aj,ak,rfl,ap⟩,al⟩
 refine ⟨_,rfl,?_⟩
 replace hB:=hB.trans al
 simp only [p3,p4]
 refine se ?_
 refine ea 31 #[.bool false,.slice none 0 0] 5 hB fun aH aR ar ab aw aG hB=>?_
 replace L2:=L2.gr al
 have af:=L2.ne aw
 replace L3:=L3.gr al
 have ac:=L3.ne aw
 replace L4:=L4.gr (g7.trans al)
 have ae:=L4.ne aw
 simp only [p3,p4]
 refine se ?_
 refine es 31 0 (.agg #[aj,ak]) [aj,ak] #[aj,ak] ab hB aG ⟨ap.one0,ap.one1,trivial⟩ fun aJ ah au ab hB=>?_
 refine za0 ?_
 refine k9 _ _ ?_
 try clear k9 K9
 refine wp_seq_k (fun aI aB=>?_)
 refine wp_seq_k (fun aK az=>?_)
 have aa:=Gr.drew aJ
 replace hB:=hB.trans aa
 replace ab:=ab.gr aa
 refine za1 (fun w'=>Lc w' aH #[aj,ak] 31) [(true,0),(false,1),(false,2),(true,3)] (by kernel_rfl) (by kernel_rfl) (by kernel_rfl) (by decide) (fun _ _ _ _ _ h=>h) ab ?_
 refine ow 16 (.agg #[aj,ak]) rfl (fun w' hS=>(rl 31 0 [aj,ak] hS)) ?_
 refine oe ?_
 refine ec 17 (zD4 _) ?_
 rintro aQ aS ⟨⟨aP,aO,rfl,aD⟩,ad⟩
 refine ⟨_,rfl,?_⟩
 replace hB:=hB.trans ad
 replace ab:=ab.gr ad
 refine ⟨ab,?_⟩
 simp only [p3,p4]
 refine oe ?_
 have ay:=ar.kp.trans (au.trans (aa.kp.trans ad.kp))
 replace ap:=ap.kp ay
 refine ec 18 (zd4 ap aD (by omega) (by omega)) ?_
 rintro aL aM ⟨rfl,ai⟩
 refine ⟨_,rfl,?_⟩
 replace hB:=hB.trans ai
 replace ab:=ab.gr ai
 refine ⟨ab,?_⟩
 simp only [p3,p4]
 refine ow 19 (.bool false) rfl (fun w' hS=>(RunV.bool (x:=(sgn ((Int.gcd (N) (D):Int) - 1) !=(0:Int))) (rvk (by kernel_rfl)) hg)) ?_
 refine za2 ?_
 refine az _ _ ?_
 try clear az aK
 refine wp_cond_false rfl ?_
 refine wp_skip ?_
 refine aB _ _ ?_
 try clear aB aI
 refine wp_seq_k (fun aE aA=>?_)
 refine rg [0,1,2,3] ?_
 replace L2:=(ah.lc (L2.gr ar) af).gr (aa.trans (ad.trans ai))
 refine sw 34 (.agg #[n0,n1]) rfl (rl 31 0 [n0,n1] L2) ?_
 replace L3:=(ah.lc (L3.gr ar) ac).gr (aa.trans (ad.trans ai))
 refine sw 35 (.agg #[d0,d1]) rfl (rl 31 0 [d0,d1] L3) ?_
 refine sv 36 (.agg #[n0,n1,d0,d1]) ?_
 refine se ?_
 replace L4:=(ah.lc (L4.gr ar) ae).gr (aa.trans (ad.trans ai))
 refine es 33 0 (.agg #[n0,n1,d0,d1]) [n0,n1,d0,d1] #[n0,n1,d0,d1] L4 hB q4 ⟨hn.one0,hn.one1,hd.one0,hd.one1,trivial⟩ fun aU aF ax L4 hB=>?_
 refine za0 ?_
 refine aA _ _ ?_
 try clear aA aE
 refine wp_ret ?_
 refine bodyPost_ret (v:=(.agg #[n0,n1,d0,d1])) (za6 _ _ _ rfl rfl L4 (by kernel_rfl)) rfl ⟨?_,hB⟩
 have aq:=al.kp.trans (ar.kp.trans (au.trans (aa.kp.trans (ad.kp.trans (ai.kp.trans ax)))))
 replace hn:=hn.kp aq
 replace hd:=hd.kp aq
 exact ⟨_,_,_,_,rfl,hn,hd⟩

set_option maxRecDepth 100000 in
set_option maxHeartbeats 1000000 in
theorem zP6 {k:Nat} {n0 n1 d0 d1:Value} {N D:Int} {w:World} (hn:IsInt w k n0 n1 N) (hd:IsInt w k d0 d1 D) (_hk:k+k+k+k+k+k+66≤1000000) (_h0:0<D) (hg:(sgn ((Int.gcd (N) (D):Int) - 1) !=0)=true) (hxn:0<(Int.gcd (N) (D):Int)∧(Int.gcd (N) (D):Int)∣N) (_hxd:0<(Int.gcd (N) (D):Int)∧(Int.gcd (N) (D):Int)∣D):
    Calls Tryz.prog 63 #[(.agg #[n0,n1]),(.agg #[d0,d1])] w fun e w'=>(∃ x y x2 y2,e=.returned (.agg #[x,y,x2,y2])∧IsInt w' k x y (N/(Int.gcd (N) (D):Int))∧IsInt w' k x2 y2 (D/(Int.gcd (N) (D):Int)))∧Gr w w':=by
 go_enter Tryz.func63,Tryz.ntmps63
 have hB:=Gr.refl w
 refine wp_seq_k (fun K1 k1=>?_)
 refine rg [0,1,2] ?_
 refine se ?_
 refine eb 31 #[n0,n1] 2 hB fun b2 w2 g2 L2 o2 q2 hB=>?_
 simp only [p3,p4]
 refine se ?_
 refine eb 31 #[d0,d1] 3 hB fun b3 w3 g3 L3 o3 q3 hB=>?_
 have ap:=L2.ne o3
 simp only [p3,p4]
 refine se ?_
 refine ea 33 #[.bool false,.slice none 0 0,.bool false,.slice none 0 0] 4 hB fun b4 w4 g4 L4 o4 q4 hB=>?_
 replace L2:=L2.gr g3
 have aJ:=L2.ne o4
 have aL:=L3.ne o4
 simp only [p3,p4]
 refine za0 ?_
 refine k1 _ _ ?_
 try clear k1 K1
 refine wp_seq_k (fun K5 k5=>?_)
 refine wp_seq_k (fun K6 k6=>?_)
 refine rg [0,1,2] ?_
 replace L3:=L3.gr g4
 refine sw 6 (.agg #[d0,d1]) rfl (rl 31 0 [d0,d1] L3) ?_
 refine se ?_
 have a0:=g2.kp.trans (g3.kp.trans g4.kp)
 replace hd:=hd.kp a0
 refine ec 7 (zf2 hd (by omega)) ?_
 rintro e7 w7 ⟨rfl,g7⟩
 refine ⟨_,rfl,?_⟩
 replace hB:=hB.trans g7
 simp only [p3,p4]
 refine sv 8 (.bool false) ?_
 refine za0 ?_
 refine k6 _ _ ?_
 try clear k6 K6
 refine wp_cond_false rfl ?_
 refine wp_skip ?_
 refine k5 _ _ ?_
 try clear k5 K5
 refine wp_seq_k (fun K9 k9=>?_)
 refine rg [0,1,2,3,4] ?_
 replace L2:=L2.gr (g4.trans g7)
 refine sw 13 (.agg #[n0,n1]) rfl (rl 31 0 [n0,n1] L2) ?_
 replace L3:=L3.gr g7
 refine sw 14 (.agg #[d0,d1]) rfl (rl 31 0 [d0,d1] L3) ?_
 refine se ?_
 have aS:=g2.kp.trans (g3.kp.trans (g4.kp.trans g7.kp))
 replace hn:=hn.kp aS
 replace hd:=hd.kp g7.kp
 refine ec 15 (zr6 hn hd (by omega)) ?_
 rintro bh bp ⟨⟨aj,ak,rfl,ah⟩,aC⟩
 refine ⟨_,rfl,?_⟩
 replace hB:=hB.trans aC
 simp only [p3,p4]
 refine se ?_
 refine ea 31 #[.bool false,.slice none 0 0] 5 hB fun a5 bm aD ab aU a4 hB=>?_
 replace L2:=L2.gr aC
 have ai:=L2.ne aU
 replace L3:=L3.gr aC
 have ar:=L3.ne aU
 replace L4:=L4.gr (g7.trans aC)
 have av:=L4.ne aU
 simp only [p3,p4]
 refine se ?_
 refine es 31 0 (.agg #[aj,ak]) [aj,ak] #[aj,ak] ab hB a4 ⟨ah.one0,ah.one1,trivial⟩ fun ba aB ay ab hB=>?_
 refine za0 ?_
 refine k9 _ _ ?_
 try clear k9 K9
 refine wp_seq_k (fun a7 aY=>?_)
 refine wp_seq_k (fun bb aW=>?_)
 have aa:=Gr.drew ba
 replace hB:=hB.trans aa
 replace ab:=ab.gr aa
 refine za1 (fun w'=>Lc w' a5 #[aj,ak] 31) [(true,0),(false,1),(false,2),(true,3)] (by kernel_rfl) (by kernel_rfl) (by kernel_rfl) (by decide) (fun _ _ _ _ _ h=>h) ab ?_
 refine ow 16 (.agg #[aj,ak]) rfl (fun w' hS=>(rl 31 0 [aj,ak] hS)) ?_
 refine oe ?_
 refine ec 17 (zD4 _) ?_
 rintro bk bo ⟨⟨bj,bi,rfl,a1⟩,aq⟩
 refine ⟨_,rfl,?_⟩
 replace hB:=hB.trans aq
 replace ab:=ab.gr aq
 refine ⟨ab,?_⟩
 simp only [p3,p4]
 refine oe ?_
 have aV:=aD.kp.trans (ay.trans (aa.kp.trans aq.kp))
 replace ah:=ah.kp aV
 refine ec 18 (zd4 ah a1 (by omega) (by omega)) ?_
 rintro bc bd ⟨rfl,al⟩
 refine ⟨_,rfl,?_⟩
 replace hB:=hB.trans al
 replace ab:=ab.gr al
 refine ⟨ab,?_⟩
 simp only [p3,p4]
 refine ow 19 (.bool true) rfl (fun w' hS=>(RunV.bool (x:=(sgn ((Int.gcd (N) (D):Int) - 1) !=(0:Int))) (rvk (by kernel_rfl)) hg)) ?_
 refine za2 ?_
 refine aW _ _ ?_
 try clear aW bb
 refine wp_cond_true rfl ?_
 refine wp_seq_k (fun a3 aX=>?_)
 refine rg [0,1,2,3,4,5,6,7] ?_
 replace L2:=(aB.lc (L2.gr aD) ai).gr (aa.trans (aq.trans al))
 refine sw 21 (.agg #[n0,n1]) rfl (rl 31 0 [n0,n1] L2) ?_
 refine sw 22 (.agg #[aj,ak]) rfl (rl 31 0 [aj,ak] ab) ?_
 refine se ?_
 have aO:=aC.kp.trans (aD.kp.trans (ay.trans (aa.kp.trans (aq.kp.trans al.kp))))
 replace hn:=hn.kp aO
 replace ah:=ah.kp al.kp
 refine ec 23 (zg8 hn ah hxn.1 (by omega)) ?_
 rintro bg bu ⟨⟨ae,ac,aG,aF,rfl,au,a6⟩,az⟩
 refine ⟨_,rfl,?_⟩
 replace hB:=hB.trans az
 simp only [p3,p4]
 refine sv 20 (.tuple #[(.agg #[ae,ac]),(.agg #[aG,aF]),.int .i64 0]) ?_
 refine sv 24 (.agg #[ae,ac]) ?_
 refine sv 25 (.agg #[aG,aF]) ?_
 refine sv 26 (.int .i64 0) ?_
 refine se ?_
 replace L2:=L2.gr az
 refine es 31 0 (.agg #[ae,ac]) [ae,ac] #[ae,ac] L2 hB q2 ⟨au.one0,au.one1,trivial⟩ fun bn aw ax L2 hB=>?_
 refine za0 ?_
 refine aX _ _ ?_
 try clear aX a3
 refine rg [0,1,2,3,4,5,6,7] ?_
 replace L3:=aw.lc ((aB.lc (L3.gr aD) ar).gr (aa.trans (aq.trans (al.trans az)))) (Ne.symm ap)
 refine sw 28 (.agg #[d0,d1]) rfl (rl 31 0 [d0,d1] L3) ?_
 replace ab:=aw.lc (ab.gr az) (Ne.symm ai)
 refine sw 29 (.agg #[aj,ak]) rfl (rl 31 0 [aj,ak] ab) ?_
 refine se ?_
 have aQ:=aC.kp.trans (aD.kp.trans (ay.trans (aa.kp.trans (aq.kp.trans (al.kp.trans (az.kp.trans ax))))))
 replace hd:=hd.kp aQ
 have aP:=az.kp.trans ax
 replace ah:=ah.kp aP
 refine ec 30 (zg8 hd ah hxn.1 (by omega)) ?_
 rintro e32 bq ⟨⟨ad,af,aI,aN,rfl,aA,a2⟩,aM⟩
 refine ⟨_,rfl,?_⟩
 replace hB:=hB.trans aM
 simp only [p3,p4]
 refine sv 27 (.tuple #[(.agg #[ad,af]),(.agg #[aI,aN]),.int .i64 0]) ?_
 refine sv 31 (.agg #[ad,af]) ?_
 refine sv 32 (.agg #[aI,aN]) ?_
 refine sv 33 (.int .i64 0) ?_
 refine se ?_
 replace L3:=L3.gr aM
 refine es 31 0 (.agg #[ad,af]) [ad,af] #[ad,af] L3 hB q3 ⟨aA.one0,aA.one1,trivial⟩ fun bt aH aE L3 hB=>?_
 refine za0 ?_
 refine aY _ _ ?_
 try clear aY a7
 refine wp_seq_k (fun a8 aZ=>?_)
 refine rg [0,1,2,3] ?_
 replace L2:=aH.lc (L2.gr aM) ap
 refine sw 34 (.agg #[ae,ac]) rfl (rl 31 0 [ae,ac] L2) ?_
 refine sw 35 (.agg #[ad,af]) rfl (rl 31 0 [ad,af] L3) ?_
 refine sv 36 (.agg #[ae,ac,ad,af]) ?_
 refine se ?_
 replace L4:=aH.lc ((aw.lc ((aB.lc (L4.gr aD) av).gr (aa.trans (aq.trans (al.trans az)))) (Ne.symm aJ)).gr aM) (Ne.symm aL)
 refine es 33 0 (.agg #[ae,ac,ad,af]) [ae,ac,ad,af] #[ae,ac,ad,af] L4 hB q4 ⟨au.one0,au.one1,aA.one0,aA.one1,trivial⟩ fun bf a9 aK L4 hB=>?_
 refine za0 ?_
 refine aZ _ _ ?_
 try clear aZ a8
 refine wp_ret ?_
 refine bodyPost_ret (v:=(.agg #[ae,ac,ad,af])) (za6 _ _ _ rfl rfl L4 (by kernel_rfl)) rfl ⟨?_,hB⟩
 have aR:=ax.trans (aM.kp.trans (aE.trans aK))
 replace au:=au.kp aR
 have aT:=aE.trans aK
 replace aA:=aA.kp aT
 exact ⟨_,_,_,_,rfl,au,aA⟩

theorem zd7 {z:Int}:sgn z=0↔z=0:=by
 unfold sgn
 by_cases h:z<0
 ·rw [if_pos h];omega
 ·rw [if_neg h]
  by_cases h2:z=0
  ·simp [h2]
  ·rw [if_neg h2];omega
theorem zW7 {k:Nat} {c0 c1 c2 c3:Value} {q:Rat} {w:World} (h:IsRat w k c0 c1 c2 c3 q) (hk:k≤1000000):
  Calls Tryz.prog 55 #[.agg #[c0,c1,c2,c3]] w fun e w'=>e=.returned (.bool (decide (q.den=1)))∧Gr w w':=by
 obtain ⟨D,h2,h3⟩:=h.den
 have hp:=q.den_pos
 rcases h3 with h3 | ⟨h3,h4⟩
 ·have e:(sgn (D - 1)==0)=decide (q.den=1):=by
   rw [Bool.eq_iff_iff,beq_iff_eq,zd7,decide_eq_true_iff];omega
  have:=whole_p (c0:=c0) (c1:=c1) h2 (by omega) hk
  rw [e] at this
  exact this
 ·subst h3
  have e:decide (q.den=1)=true:=by simpa using h4
  rw [e]
  exact whole_z h2
theorem zg0 {k:Nat} {c0 c1 c2 c3:Value} {q:Rat} {w:World} (h:IsRat w k c0 c1 c2 c3 q) (hk:k≤1000000) (hq:q.den=1):
  Calls Tryz.prog 55 #[.agg #[c0,c1,c2,c3]] w fun e w'=>e=.returned (.bool true)∧Gr w w':=by
 have:=zW7 h hk
 rw [decide_eq_true hq] at this
 exact this
theorem zj5 {k:Nat} {c0 c1 c2 c3:Value} {q:Rat} {w:World} (h:IsRat w k c0 c1 c2 c3 q) (hk:k≤1000000) (hq:q.den≠1):
  Calls Tryz.prog 55 #[.agg #[c0,c1,c2,c3]] w fun e w'=>e=.returned (.bool false)∧Gr w w':=by
 have:=zW7 h hk
 rw [decide_eq_false hq] at this
 exact this
theorem ze1 {k:Nat} {c0 c1 c2 c3:Value} {q:Rat} {w:World} (h:IsRat w k c0 c1 c2 c3 q):
  Calls Tryz.prog 65 #[.agg #[c0,c1,c2,c3]] w fun e w'=>(∃ x' y',e=.returned (.agg #[x',y'])∧IsInt w' k x' y' (q.den:Int))∧Gr w w':=by
 obtain ⟨D,h2,h3⟩:=h.den
 have hp:=q.den_pos
 rcases h3 with h3 | ⟨h3,h4⟩
 ·subst h3
  exact den_p h2 (by omega)
 ·subst h3
  refine (den_z (c0:=c0) (c1:=c1) h2).mono ?_
  rintro e w1 ⟨⟨x,y,he,hi⟩,g⟩
  rw [h4]
  exact ⟨⟨x,y,he,hi.mono h.big⟩,g⟩
theorem add_e {k m:Nat} (n:Nat) {x y x2 y2:Value} {z u:Int} {w:World} (hz:IsInt w k x y z) (hu:IsInt w m x2 y2 u) (h1:k≤n) (h2:m≤n) (hk:2*n+1≤1000000):
  Calls Tryz.prog 68 #[.agg #[x,y],.agg #[x2,y2]] w fun e w'=>(∃ x' y',e=.returned (.agg #[x',y'])∧IsInt w' (n+1) x' y' (z+u))∧Gr w w':=by
 refine (add_i (hz.mono h1) (hu.mono h2) (by omega)).mono ?_
 rintro e w1 ⟨⟨x,y,he,hi⟩,g⟩
 exact ⟨⟨x,y,he,hi.resz ((hz.sz.mono h1).add' (hu.sz.mono h2))⟩,g⟩

theorem zg1 {k m:Nat} (K:Nat) {n0 n1 d0 d1:Value} {N D:Int} {w:World} (hn:IsInt w k n0 n1 N) (hd:IsInt w m d0 d1 D) (h0:0<D) (h1:k≤K) (h2:m≤K) (h3:64≤K) (h4:8*K≤1000000):
  Calls Tryz.prog 63 #[.agg #[n0,n1],.agg #[d0,d1]] w fun e w'=>(∃ c0 c1 c2 c3,e=.returned (.agg #[c0,c1,c2,c3])∧IsRat w' K c0 c1 c2 c3 (Rat.divInt N D))∧Gr w w':=by
 have hN:=hn.mono h1
 have hD:=hd.mono h2
 have en:(Rat.divInt N D).num=N/(Int.gcd N D:Int):=by
  rw [Rat.num_divInt,Int.sign_eq_one_of_pos h0,Int.one_mul,Int.gcd_comm]
 have ed:((Rat.divInt N D).den:Int)=D/(Int.gcd N D:Int):=by
  rw [Rat.den_divInt,if_neg (by omega),Int.gcd_comm,Int.natCast_ediv]
  congr 1
  omega
 have ab:0<(Int.gcd N D:Int):=by
  have:Int.gcd N D≠0:=by rw [Ne,Int.gcd_eq_zero_iff];omega
  omega
 by_cases hg:(Int.gcd N D:Int)=1
 ·refine (zP5 hN hD (by omega) h0 (by rw [hg];rfl)).mono ?_
  rintro e w1 ⟨⟨x,y,x2,y2,he,hi,aa⟩,g⟩
  rw [hg,Int.ediv_one] at en ed
  exact ⟨⟨x,y,x2,y2,he,by rw [en];exact hi,⟨D,aa,.inl ed.symm⟩,h3⟩,g⟩
 ·have hb:(sgn ((Int.gcd N D:Int) - 1) !=0)=true:=by
   have:sgn ((Int.gcd N D:Int) - 1)≠0:=fun h=>hg (by have:=zd7.1 h;omega)
   simpa using this
  refine (zP6 hN hD (by omega) h0 hb ⟨ab,Int.gcd_dvd_left ..⟩ ⟨ab,Int.gcd_dvd_right ..⟩).mono ?_
  rintro e w1 ⟨⟨x,y,x2,y2,he,hi,aa⟩,g⟩
  exact ⟨⟨x,y,x2,y2,he,by rw [en];exact hi,⟨_,aa,.inl ed.symm⟩,h3⟩,g⟩

theorem zI0 (a b:Rat):Rat.divInt (a.num*b.den+b.num*a.den) (a.den*b.den)=a+b:=by
 have:=Rat.divInt_add_divInt a.num b.num (d₁:=a.den) (d₂:=b.den) (by have:=a.den_pos;omega) (by have:=b.den_pos;omega)
 rw [Rat.num_divInt_den,Rat.num_divInt_den] at this
 exact this.symm
theorem zI1 (a b:Rat):Rat.divInt (a.num*b.num) (a.den*b.den)=a*b:=by
 have:=Rat.divInt_mul_divInt a.num b.num (d₁:=a.den) (d₂:=b.den)
 rw [Rat.num_divInt_den,Rat.num_divInt_den] at this
 exact this.symm
theorem zu7 {q:Rat} (h:q.den=1):((q.num:Int):Rat)=q:=by
 apply Rat.ext
 ·exact Rat.num_intCast _
 ·rw [h];exact Rat.den_intCast _
theorem zI2 (a b:Rat):Rat.divInt (a.num*b.den) (a.den*b.num)=a/b:=by
 rw [Rat.div_def,Rat.inv_def]
 have:=Rat.divInt_mul_divInt a.num b.den (d₁:=a.den) (d₂:=b.num)
 rw [Rat.num_divInt_den] at this
 exact this.symm
theorem IsRat.neg {w:World} {k:Nat} {c0 c1 c2 c3 x y:Value} {q:Rat} (h:IsRat w k c0 c1 c2 c3 q) (hi:IsInt w k x y (-q.num)):IsRat w k x y c2 c3 (-q):=by
 obtain ⟨D,h2,h3⟩:=h.den
 exact ⟨hi,⟨D,h2,h3⟩,h.big⟩
def zc0 (a b:Rat):Int:=sgn (a.num*b.den - b.num*a.den)
theorem rcmp_int {a b:Rat} (ha:a.den=1) (hb:b.den=1):zc0 a b=sgn (a.num - b.num):=by
 unfold zc0;rw [ha,hb];simp
theorem zj6 {a b:Rat}:zc0 a b=0↔a=b:=by
 unfold zc0
 rw [zd7]
 constructor
 ·intro h
  rw [← Rat.num_divInt_den a,← Rat.num_divInt_den b]
  rw [Rat.divInt_eq_divInt_iff (by have:=a.den_pos;omega) (by have:=b.den_pos;omega)]
  omega
 ·rintro rfl;omega
def Kt (t:TypeId) (w w':World):Prop:=∀ (b:Nat) (cs:Array Value) (fr:Nat × Nat),w.heap[b]?=some (Obj.cells cs t fr)→w'.heap[b]?=some (Obj.cells cs t fr)
theorem Kt.refl (t:TypeId) (w:World):Kt t w w:=fun _ _ _ h=>h
theorem Kt.trans {t:TypeId} {a b c:World} (h:Kt t a b) (k:Kt t b c):Kt t a c:=fun b cs fr hb=>k b cs fr (h b cs fr hb)
theorem Gr.kt {w w':World} (h:Gr w w') (t:TypeId):Kt t w w':=fun _ _ _ hk=>h.heap hk
theorem Kt.kp {w w':World} (h:Kt 136 w w'):Kp w w':=h
theorem St.kt {w w':World} {b:Nat} {cs:Array Value} {T t:TypeId} (h:St w w' b) (hL:Lc w b cs T) (ht:t≠T):Kt t w w':=fun c ds fr hc=>by
 by_cases e:c=b
 ·subst e
  unfold Lc at hL
  rw [hc] at hL
  simp only [Option.some.injEq,Obj.cells.injEq] at hL
  exact absurd hL.2.1 ht
 ·exact (h.block c e).trans hc
theorem Wt.kt {T t:TypeId} {w w':World} (h:Wt T w w') (ht:t≠T):Kt t w w':=fun b cs fr hb=>h.block b cs _ fr ht hb
def Kts (ts:List TypeId) (w w':World):Prop:=∀ t ∈ ts,Kt t w w'
theorem Gr.kts {w w':World} (h:Gr w w') (ts:List TypeId):Kts ts w w':=fun t _=>h.kt t
theorem St.kts {w w':World} {b:Nat} {cs:Array Value} {T:TypeId} {ts:List TypeId} (h:St w w' b) (hL:Lc w b cs T) (ht:(ts.all fun t=>t !=T)=true):Kts ts w w':=fun t hm=>h.kt hL (by have:=List.all_eq_true.1 ht t hm;simpa using this)
theorem Wt.kts {w w':World} {T:TypeId} {ts:List TypeId} (h:Wt T w w') (ht:(ts.all fun t=>t !=T)=true):Kts ts w w':=fun t hm=>h.kt (by have:=List.all_eq_true.1 ht t hm;simpa using this)

section
variable {α:Type}
def zX5 (E:World→α→List Value→Prop) (ts:List TypeId):Prop:=∀ w w' x vs,Kts ts w w'→E w x vs→E w' x vs
def Els (E:World→α→List Value→Prop) (c:Nat) (w:World) (ys:List Value) (xs:List α):Prop:=
 ys.length=xs.length*c∧∀ (i:Nat) (x:α),xs[i]?=some x→E w x ((ys.drop (i*c)).take c)
theorem Els.kts {E:World→α→List Value→Prop} {ts:List TypeId} {c:Nat} {w w':World} {ys:List Value} {xs:List α} (h:Els E c w ys xs) (hS:zX5 E ts) (k:Kts ts w w'):Els E c w' ys xs:=
 ⟨h.1,fun i x hx=>hS _ _ _ _ k (h.2 i x hx)⟩
theorem Els.nil (E:World→α→List Value→Prop) (c:Nat) (w:World):Els E c w [] []:=⟨by simp,fun i x h=>by simp at h⟩
theorem Els.snoc {E:World→α→List Value→Prop} {c:Nat} {w:World} {ys:List Value} {xs:List α} (h:Els E c w ys xs) {x:α} {vs:List Value} (hv:vs.length=c) (hx:E w x vs):Els E c w (ys++vs) (xs++[x]):=by
 refine ⟨by simp [h.1,hv,Nat.add_mul],fun i y hy=>?_⟩
 rcases Nat.lt_or_ge i xs.length with hi | hi
 ·rw [List.getElem?_append_left hi] at hy
  have h1:i*c+c≤ys.length:=by
   rw [h.1]
   have:=Nat.mul_le_mul_right c (show i+1≤xs.length by omega)
   rw [Nat.add_mul] at this;omega
  have:=h.2 i y hy
  rw [List.drop_append_of_le_length (by omega),List.take_append_of_le_length (by rw [List.length_drop];omega)]
  exact this
 ·rw [List.getElem?_append_right hi] at hy
  have h0:i=xs.length:=by
   have:=(List.getElem?_eq_some_iff.1 hy).1
   simp at this;omega
  subst h0
  simp only [Nat.sub_self,List.getElem?_cons_zero,Option.some.injEq] at hy
  subst hy
  rw [← h.1,List.drop_left,← hv,List.take_length]
  exact hx
theorem Els.set {E:World→α→List Value→Prop} {c:Nat} {w:World} {ys:List Value} {xs:List α} (h:Els E c w ys xs) {i:Nat} (hi:i<xs.length) {x:α} {vs:List Value} (hv:vs.length=c) (hx:E w x vs):
  Els E c w (ys.take (i*c)++vs++ys.drop (i*c+c)) (xs.set i x):=by
 have hle:i*c+c≤ys.length:=by
  rw [h.1]
  have:=Nat.mul_le_mul_right c (show i+1≤xs.length by omega)
  rw [Nat.add_mul] at this;omega
 refine ⟨by rw [List.length_append,List.length_append,List.length_take,List.length_drop,List.length_set,hv,Nat.min_eq_left (by omega)];have:=h.1;omega,fun j y hy=>?_⟩
 rcases Nat.lt_trichotomy j i with hj | hj | hj
 ·rw [List.getElem?_set_ne (by omega)] at hy
  have h1:j*c+c≤i*c:=by
   have:=Nat.mul_le_mul_right c (show j+1≤i by omega)
   rw [Nat.add_mul] at this;omega
  have e:((ys.take (i*c)++vs++ys.drop (i*c+c)).drop (j*c)).take c=(ys.drop (j*c)).take c:=by
   rw [List.append_assoc,List.drop_append_of_le_length (by rw [List.length_take];omega),List.take_append_of_le_length (by rw [List.length_drop,List.length_take];omega),List.drop_take,List.take_take]
   congr 1;omega
  rw [e];exact h.2 j y hy
 ·subst hj
  rw [List.getElem?_set_self hi] at hy
  obtain rfl:=Option.some.inj hy
  have e:((ys.take (j*c)++vs++ys.drop (j*c+c)).drop (j*c)).take c=vs:=by
   have hl:(ys.take (j*c)).length=j*c:=by rw [List.length_take];omega
   rw [List.append_assoc,List.drop_append,hl,Nat.sub_self,List.drop_zero,List.drop_eq_nil_of_le (by omega),List.nil_append,List.take_append_of_le_length (by omega),List.take_of_length_le (by omega)]
  rw [e];exact hx
 ·rw [List.getElem?_set_ne (by omega)] at hy
  have h1:i*c+c≤j*c:=by
   have:=Nat.mul_le_mul_right c (show i+1≤j by omega)
   rw [Nat.add_mul] at this;omega
  have e:((ys.take (i*c)++vs++ys.drop (i*c+c)).drop (j*c)).take c=(ys.drop (j*c)).take c:=by
   have hl:(ys.take (i*c)++vs).length=i*c+c:=by rw [List.length_append,List.length_take];omega
   rw [List.drop_append,hl,List.drop_eq_nil_of_le (by omega),List.nil_append,List.drop_drop]
   congr 2;omega
  rw [e];exact h.2 j y hy
theorem Els.mono {E F:World→α→List Value→Prop} {c:Nat} {w:World} {ys:List Value} {xs:List α} (h:Els E c w ys xs) (hf:∀ x vs,E w x vs→F w x vs):Els F c w ys xs:=⟨h.1,fun i x hx=>hf _ _ (h.2 i x hx)⟩

def Cs (T:TypeId) (w:World) (v:Value) (n:Nat) (ys:List Value):Prop:=
 ∃ ao cap,v=.slice ao n cap∧n≤cap∧(0<ys.length→∃ b off cs fr,ao=some ⟨b,off,none⟩∧w.heap[b]?=some (.cells cs T fr)∧∀ j,j<ys.length→cs[off+j]?=ys[j]?)
theorem Cs.kt {T:TypeId} {w w':World} {v:Value} {n:Nat} {ys:List Value} (h:Cs T w v n ys) (k:Kt T w w'):Cs T w' v n ys:=by
 obtain ⟨ao,cap,h1,h2,h3⟩:=h
 refine ⟨ao,cap,h1,h2,fun hp=>?_⟩
 obtain ⟨b,off,cs,fr,e1,e2,e3⟩:=h3 hp
 exact ⟨b,off,cs,fr,e1,k _ _ _ e2,e3⟩
def adr (v:Value) (j:Nat):Value:=
 match v with
 | .slice (some ⟨b,off,_⟩) _ _=>.pointer (some ⟨b,off+j,none⟩)
 | _=>undef
def AtV (w:World) (v:Value) (j:Nat) (vs:List Value):Prop:=∃ b off n cap,v=.slice (some ⟨b,off,none⟩) n cap∧w.rangeAt b (off+j) vs
theorem Cs.at_ {T:TypeId} {w:World} {v:Value} {n:Nat} {ys:List Value} (h:Cs T w v n ys) (hp:0<ys.length) (j:Nat) (vs:List Value) (hv:(ys.drop j).take vs.length=vs):AtV w v j vs:=by
 obtain ⟨ao,cap,rfl,h2,h3⟩:=h
 obtain ⟨b,off,cs,fr,rfl,e2,e3⟩:=h3 hp
 refine ⟨b,off,_,_,rfl,fun i u hi=>?_⟩
 have hi':i<vs.length:=(List.getElem?_eq_some_iff.1 hi).1
 have h1:((ys.drop j).take vs.length)[i]?=vs[i]?:=by rw [hv]
 rw [List.getElem?_take_of_lt hi',List.getElem?_drop,hi] at h1
 rw [zb1 e2,Nat.add_assoc,e3 (j+i) (List.getElem?_eq_some_iff.1 h1).1]
 exact h1
def Sl (E:World→α→List Value→Prop) (T:TypeId) (c:Nat) (w:World) (v:Value) (xs:List α):Prop:=∃ ys,Cs T w v xs.length ys∧Els E c w ys xs
theorem Sl.kts {E:World→α→List Value→Prop} {ts:List TypeId} {T:TypeId} {c:Nat} {w w':World} {v:Value} {xs:List α} (h:Sl E T c w v xs) (hS:zX5 E ts) (k:Kts (T::ts) w w'):Sl E T c w' v xs:=by
 obtain ⟨ys,h1,h2⟩:=h
 exact ⟨ys,h1.kt (k T (by simp)),h2.kts hS (fun t ht=>k t (by simp [ht]))⟩
theorem Sl.gr {E:World→α→List Value→Prop} {ts:List TypeId} {T:TypeId} {c:Nat} {w w':World} {v:Value} {xs:List α} (h:Sl E T c w v xs) (hS:zX5 E ts) (g:Gr w w'):Sl E T c w' v xs:=h.kts hS (g.kts _)
theorem Sl.mono {E F:World→α→List Value→Prop} {T:TypeId} {c:Nat} {w:World} {v:Value} {xs:List α} (h:Sl E T c w v xs) (hf:∀ x vs,E w x vs→F w x vs):Sl F T c w v xs:=by
 obtain ⟨ys,h1,h2⟩:=h
 exact ⟨ys,h1,h2.mono hf⟩
theorem Sl.form {E:World→α→List Value→Prop} {T:TypeId} {c:Nat} {w:World} {v:Value} {xs:List α} (h:Sl E T c w v xs):∃ ao cap,v=.slice ao xs.length cap∧xs.length≤cap:=by
 obtain ⟨ys,⟨ao,cap,h1,h2,_⟩,_⟩:=h
 exact ⟨ao,cap,h1,h2⟩
theorem Sl.one {E:World→α→List Value→Prop} {T:TypeId} {c:Nat} {w:World} {v:Value} {xs:List α} (h:Sl E T c w v xs):v.oneCell'=true:=by
 obtain ⟨ao,cap,rfl,_⟩:=h.form;rfl
theorem Sl.nil (E:World→α→List Value→Prop) (T:TypeId) (c:Nat) (w:World) (ao:Option Addr) (cap:Nat):Sl E T c w (.slice ao 0 cap) ([]:List α):=
 ⟨[],⟨ao,cap,rfl,Nat.zero_le _,fun h=>by simp at h⟩,Els.nil ..⟩
theorem Sl.get {E:World→α→List Value→Prop} {T:TypeId} {c:Nat} {w:World} {v:Value} {xs:List α} (h:Sl E T c w v xs) (hc:0<c) {i:Nat} {x:α} (hx:xs[i]?=some x):∃ vs,vs.length=c∧E w x vs∧AtV w v (i*c) vs:=by
 obtain ⟨ys,h1,h2⟩:=h
 have hi:=(List.getElem?_eq_some_iff.1 hx).1
 have hle:i*c+c≤ys.length:=by
  rw [h2.1]
  have:=Nat.mul_le_mul_right c (show i+1≤xs.length by omega)
  rw [Nat.add_mul] at this;omega
 have hl:((ys.drop (i*c)).take c).length=c:=by rw [List.length_take,List.length_drop];omega
 exact ⟨_,hl,h2.2 i x hx,h1.at_ (by omega) _ _ (by rw [hl])⟩
theorem Sl.adr_some {E:World→α→List Value→Prop} {T:TypeId} {c:Nat} {w:World} {v:Value} {xs:List α} (h:Sl E T c w v xs) (hc:0<c) (hp:0<xs.length):∃ b off cap,v=.slice (some ⟨b,off,none⟩) xs.length cap:=by
 obtain ⟨ys,⟨ao,cap,h1,h2,h3⟩,h4⟩:=h
 obtain ⟨b,off,cs,fr,e1,_⟩:=h3 (by rw [h4.1];exact Nat.mul_pos hp hc)
 exact ⟨b,off,cap,by rw [h1,e1]⟩

variable {P:Program} {a:Act} {o:Oper} {w:World} {Q:Exit→Act→World→Prop} {K:Act→World→Prop} {ops:Array Oper}
theorem rv_len {E:World→α→List Value→Prop} {T:TypeId} {c:Nat} {v:Value} {xs:List α} {w0:World} (h:Sl E T c w0 v xs) (x:Operand) (t:TypeId) (hop:o.op=.call {callee:=.builtin .len,args:=#[x],argTypes:=#[t]}) (hx:a.eval x=v) {e:TypeId} (hu:P.underlying t=some (.slice e)):
  RunV P a o w (.int .i64 (xs.length:Int)):=by
 obtain ⟨ao,cap,rfl,_⟩:=h.form
 unfold RunV
 generalize a.eval=ev at*
 unfold execOp
 simp only [hop]
 simp [hx,go_sem,Builtin.len_,run_underlying hu,goInt]
theorem rv_idx {E:World→α→List Value→Prop} {T:TypeId} {c:Nat} {v:Value} {xs:List α} {w0:World} (h:Sl E T c w0 v xs) (hc:0<c) (i:Nat) (hi:i<xs.length) (t:TypeId) (x y:Operand) (hop:o.op=.indexAddr t x y) (hx:a.eval x=v) (hy:a.eval y=.int .i64 (i:Int))
  {e:TypeId} (hu:P.underlying t=some (.slice e)) (hs:(P.info? e).map (·.size)=some c):RunV P a o w (adr v (i*c)):=by
 obtain ⟨b,off,cap,rfl⟩:=h.adr_some hc (by omega)
 obtain ⟨j,hj,hsz⟩:=Option.map_eq_some_iff.1 hs
 unfold RunV execOp
 simp only [hop,hx,hy]
 have h1:(0:Int)≤(i:Int)∧(i:Int)<(xs.length:Int):=by omega
 by_cases h0:i*c=0<;>simp [Instr.indexAt,asIntOf,run_underlying hu,sizeOf,typeInfo,hj,hsz,h1,hi,h0,adr,Addr.add]
theorem rv_ldn (vs:List Value) {v:Value} {j:Nat} (h:AtV w v j vs) (t:TypeId) (x:Operand) (hop:o.op=.load t x) (hx:a.eval x=adr v j) (hs:zc9 P t=some vs.length):RunV P a o w (.agg vs.toArray):=by
 obtain ⟨b,off,n,cap,rfl,hr⟩:=h
 have hx':a.eval x=.pointer (some ⟨b,off+j,none⟩):=hx
 unfold zc9 at hs
 unfold RunV
 cases hd:P.underlying t with
 | none=>rw [hd] at hs;cases hs
 | some d=>
  rw [hd] at hs
  have hrow:d.isRow=true∧(P.info? t).map (·.size)=some vs.length:=by
   cases d<;>first | cases hs | exact ⟨rfl,hs⟩
  unfold execOp
  simp only [hop,hx',Instr.loadAt,Instr.sureAddr,Sem.run_bind,Sem.run_pure,Result.andThen_ok,run_loadVar_mid w b (off+j) t vs d hr hd hrow.1 hrow.2]
def Mk (E:World→α→List Value→Prop) (T:TypeId) (c:Nat) (w:World) (b:Nat) (xs:List α):Prop:=∃ ys:List Value,Lc w b ys.toArray T∧Els E c w ys xs
theorem Mk.kts {E:World→α→List Value→Prop} {ts:List TypeId} {T:TypeId} {c:Nat} {w w':World} {b:Nat} {xs:List α} (h:Mk E T c w b xs) (hS:zX5 E ts) (k:Kts (T::ts) w w'):Mk E T c w' b xs:=by
 obtain ⟨ys,h1,h2⟩:=h
 exact ⟨ys,k T (by simp) _ _ _ h1,h2.kts hS (fun t ht=>k t (by simp [ht]))⟩
theorem Mk.gr {E:World→α→List Value→Prop} {ts:List TypeId} {T:TypeId} {c:Nat} {w w':World} {b:Nat} {xs:List α} (h:Mk E T c w b xs) (hS:zX5 E ts) (g:Gr w w'):Mk E T c w' b xs:=h.kts hS (g.kts _)
theorem Mk.lt {E:World→α→List Value→Prop} {T:TypeId} {c:Nat} {w:World} {b:Nat} {xs:List α} (h:Mk E T c w b xs):b<w.heap.size:=by
 obtain ⟨ys,h1,_⟩:=h;exact h1.lt
theorem Mk.sl {E:World→α→List Value→Prop} {T:TypeId} {c:Nat} {w:World} {b:Nat} {xs:List α} (h:Mk E T c w b xs) {cap:Nat} (hc:xs.length≤cap):Sl E T c w (.slice (some ⟨b,0,none⟩) xs.length cap) xs:=by
 obtain ⟨ys,h1,h2⟩:=h
 exact ⟨ys,⟨_,cap,rfl,hc,fun _=>⟨b,0,_,_,rfl,h1,fun j _=>by simp⟩⟩,h2⟩
theorem zX6 {d:α} {i:Nat} {xs:List α} (h:i<xs.length):xs[i]?=some (xs.getD i d):=by simp [h]
theorem AtV.gr {w w':World} {v:Value} {j:Nat} {vs:List Value} (h:AtV w v j vs) (g:Gr w w'):AtV w' v j vs:=by
 obtain ⟨b,off,n,cap,e,hr⟩:=h
 refine ⟨b,off,n,cap,e,fun i u hi=>?_⟩
 have h1:=hr i u hi
 rw [← h1]
 exact Below.cell g (p:=⟨b,off+j+i,none⟩) (World.block_lt_of_cell? w _ h1)
def Ow (E:World→α→List Value→Prop) (T:TypeId) (c:Nat) (w:World) (B:Nat) (v:Value) (xs:List α):Prop:=∃ ys,w.ownsRow B T c v xs.length ys∧Els E c w ys xs
theorem zR0 {w w':World} {B T c n:Nat} {v:Value} {ys:List Value} (h:w.ownsRow B T c v n ys) (k:Kt T w w'):w'.ownsRow B T c v n ys:=by
 refine ⟨h.1,?_⟩
 rcases h.2 with hn | ⟨g,cap,cur,rfl,hb,hg,hr⟩
 ·exact .inl hn
 ·exact .inr ⟨g,cap,cur,rfl,hb,k _ _ _ hg,hr⟩
theorem Ow.kts {E:World→α→List Value→Prop} {ts:List TypeId} {T:TypeId} {c B:Nat} {w w':World} {v:Value} {xs:List α} (h:Ow E T c w B v xs) (hS:zX5 E ts) (k:Kts (T::ts) w w'):Ow E T c w' B v xs:=by
 obtain ⟨ys,h1,h2⟩:=h
 exact ⟨ys,zR0 h1 (k T (by simp)),h2.kts hS (fun t ht=>k t (by simp [ht]))⟩
theorem Ow.gr {E:World→α→List Value→Prop} {ts:List TypeId} {T:TypeId} {c B:Nat} {w w':World} {v:Value} {xs:List α} (h:Ow E T c w B v xs) (hS:zX5 E ts) (g:Gr w w'):Ow E T c w' B v xs:=h.kts hS (g.kts _)
theorem Ow.nil (E:World→α→List Value→Prop) (T:TypeId) (c:Nat) (w:World) (B:Nat):Ow E T c w B (.slice none 0 0) ([]:List α):=⟨[],World.ownsRow_nil ..,Els.nil ..⟩
theorem Ow.one {E:World→α→List Value→Prop} {T:TypeId} {c B:Nat} {w:World} {v:Value} {xs:List α} (h:Ow E T c w B v xs):v.oneCell'=true:=by
 obtain ⟨ys,h1,_⟩:=h
 rcases h1.2 with ⟨rfl,_⟩ | ⟨g,cap,cur,rfl,_⟩<;>rfl
theorem Ow.sl {E:World→α→List Value→Prop} {T:TypeId} {c B:Nat} {w:World} {v:Value} {xs:List α} (h:Ow E T c w B v xs):Sl E T c w v xs:=by
 obtain ⟨ys,h1,h2⟩:=h
 refine ⟨ys,?_,h2⟩
 rcases h1.2 with ⟨rfl,hn⟩ | ⟨g,cap,cur,rfl,hb,hg,h3,h4,h5,h6⟩
 ·refine ⟨none,0,by rw [hn],by omega,fun hp=>?_⟩
  rw [h2.1,hn] at hp;simp at hp
 ·refine ⟨_,cap,rfl,h3,fun _=>⟨g,0,cur,_,rfl,hg,fun j hj=>?_⟩⟩
  rw [h2.1] at hj
  have:(cur.toList.take (xs.length*c))[j]?=ys[j]?:=by rw [h6]
  rw [List.getElem?_take_of_lt hj] at this
  rw [Nat.zero_add,← this];simp
def OwNe (v:Value) (b:Nat):Prop:=∀ g n cap,v=.slice (some ⟨g,0,none⟩) n cap→g≠b
theorem Ow.ne {E:World→α→List Value→Prop} {T:TypeId} {c B b:Nat} {w:World} {v:Value} {xs:List α} (h:Ow E T c w B v xs) (hb:w.heap.size≤b):OwNe v b:=by
 obtain ⟨ys,h1,_⟩:=h
 intro g n cap e
 rcases h1.2 with ⟨hn,_⟩ | ⟨g',cap',cur,he,_,hg,_⟩
 ·rw [hn] at e;cases e
 ·rw [he] at e;cases e
  have:=zf7 hg
  omega
theorem Ow.st {E:World→α→List Value→Prop} {ts:List TypeId} {T:TypeId} {c B b:Nat} {w w':World} {v:Value} {xs:List α} (h:Ow E T c w B v xs) (hS:zX5 E ts) (st:St w w' b) (hn:OwNe v b) (k:Kts ts w w'):Ow E T c w' B v xs:=by
 obtain ⟨ys,h1,h2⟩:=h
 refine ⟨ys,⟨h1.1,?_⟩,h2.kts hS k⟩
 rcases h1.2 with hv | ⟨g,cap,cur,rfl,hb,hg,hr⟩
 ·exact .inl hv
 ·exact .inr ⟨g,cap,cur,rfl,hb,by rw [st.block g (hn g _ _ rfl)];exact hg,hr⟩
theorem Ow.mono {E:World→α→List Value→Prop} {T:TypeId} {c B C:Nat} {w:World} {v:Value} {xs:List α} (h:Ow E T c w B v xs) (hC:C≤B):Ow E T c w C v xs:=by
 obtain ⟨ys,h1,h2⟩:=h
 refine ⟨ys,⟨h1.1,?_⟩,h2⟩
 rcases h1.2 with hn | ⟨g,cap,cur,rfl,hb,hg,hr⟩
 ·exact .inl hn
 ·exact .inr ⟨g,cap,cur,rfl,Nat.le_trans hC hb,hg,hr⟩
theorem eff_app {E:World→α→List Value→Prop} {ts:List TypeId} (hS:zX5 E ts) (s x:Operand) (t:TypeId) (T B:Nat) (z:Value) (v:Value) (xs:List α) (b:Nat) (us:List Value) (x0:α) (c cx:Nat) (d:Option Tmp) (bytes:Nat) (hd:o.dst=d)
  (ho:o.op=.call {callee:=.builtin .append,args:=#[s,x],argTypes:=#[t,t]}) (hs:a.eval s=v) (hx:a.eval x=.slice (some ⟨b,0,none⟩) 1 cx)
  (hown:Ow E T c w B v xs) (hL:Lc w b us.toArray T) (hu:One1 us) (hl:us.length=c) (hE:E w x0 us) (w0:World) (hB:Gr w0 w) (aa:w0.heap.size≤B) (hBw:B≤w.heap.size) (hn:xs.length≤1000000) (hbytes:bytes≤1000)
  (ht:P.underlying t=some (.slice T)) (hi:(P.info? T).map (fun i=>(i.zero,i.size,i.bytes))=some (some z,c,bytes)) (hzs:z.cells.size=c∧0<c) (hT:(ts.all fun t=>t !=T)=true)
  (h:∀ v' w',Ow E T c w' B v' (xs++[x0])→Wt T w w'→Gr w0 w'→K (a.put d v') w'):o.wp P a w K Q:=by
 subst hd
 obtain ⟨ys,hown,hEl⟩:=hown
 obtain ⟨i,hi,hz,hsize,hby⟩:=info_parts hi
 have ab:(xs.length+1)*bytes≤1000001*1000:=Nat.mul_le_mul (by omega) hbytes
 refine wp_append_own w s x t ho B T i z c bytes ht hi hz hsize hby hzs.1 hzs.2 v xs.length ys hs hown ⟨b,0,none⟩ 1 cx us hx (by omega) (fun j y hj=>?_) hu.all (by unfold maxLen;omega) (by omega) hBw ?_
 ·have e:(⟨b,0,none⟩:Addr).add j=⟨b,j,none⟩:=by by_cases h0:j=0<;>simp [Addr.add,h0]
  rw [e,zb1 hL];simpa using hj
 ·intro v' w' h2 hg _
  have hown':=hown
  have hnew:∀ k,v.ownBlock=some k→B≤k∧∃ cur,w.heap[k]?=some (.cells cur T (0,0)):=by
   intro k hk
   rcases hown'.2 with ⟨rfl,_⟩ | ⟨g,cap,cur,rfl,hb,hgg,_⟩
   ·simp [Value.ownBlock] at hk
   ·simp [Value.ownBlock] at hk
    subst hk;exact ⟨hb,cur,hgg⟩
  have hwt:Wt T w w':=⟨hg.os,hg.tape,hg.output,hg.size,fun k cs t fr ht hk=>by
   rw [hg.block k (zf7 hk) (fun e=>?_)]
   ·exact hk
   ·obtain ⟨_,cur,hc⟩:=hnew k e.symm
    rw [hk] at hc
    simp only [Option.some.injEq,Obj.cells.injEq] at hc
    exact ht hc.2.1⟩
  refine h v' w' ⟨_,by simpa using h2,(hEl.snoc hl hE).kts hS (hwt.kts hT)⟩ hwt ?_
  refine Below.trans hB ⟨hg.os,hg.tape,hg.output,hg.size,fun k hk=>hg.block k (Nat.lt_of_lt_of_le hk hB.size) (fun e=>?_)⟩
  have:=(hnew k e.symm).1
  omega
theorem ow_empty {E:World→α→List Value→Prop} {T:TypeId} {c:Nat} {w:World} {b B:Nat} (hL:Lc w b #[] T) (hB:B≤b):Ow E T c w B (.slice (some ⟨b,0,none⟩) 0 0) ([]:List α):=
 ⟨[],⟨by simp,.inr ⟨b,0,#[],rfl,hB,hL,Nat.le_refl _,by unfold maxLen;omega,by simp,by simp⟩⟩,Els.nil ..⟩
theorem zN2 {E:World→α→List Value→Prop} {ts:List TypeId} (hS:zX5 E ts) (s x:Operand) (t:TypeId) (T B:Nat) (z:Value) (v:Value) (xs:List α) (u:Value) (aa:List α) (c:Nat) (d:Option Tmp) (bytes:Nat) (hd:o.dst=d)
  (ho:o.op=.call {callee:=.builtin .append,args:=#[s,x],argTypes:=#[t,t]}) (hs:a.eval s=v) (hx:a.eval x=u)
  (hown:Ow E T c w B v xs) (hu:Sl E T c w u aa) (bx ox cx:Nat) (hux:u=.slice (some ⟨bx,ox,none⟩) aa.length cx) (h1:∀ x vs,E w x vs→∀ y ∈ vs,y.oneCell'=true) (w0:World) (hB:Gr w0 w) (ac:w0.heap.size≤B) (hBw:B≤w.heap.size) (hn:xs.length+aa.length≤1000000) (hbytes:bytes≤1000)
  (ht:P.underlying t=some (.slice T)) (hi:(P.info? T).map (fun i=>(i.zero,i.size,i.bytes))=some (some z,c,bytes)) (hzs:z.cells.size=c∧0<c) (hT:(ts.all fun t=>t !=T)=true)
  (h:∀ v' w',Ow E T c w' B v' (xs++aa)→Wt T w w'→Gr w0 w'→K (a.put d v') w'):o.wp P a w K Q:=by
 subst hd
 obtain ⟨ys,hown,hEl⟩:=hown
 obtain ⟨i,hi,hz,hsize,hby⟩:=info_parts hi
 have ad:(xs.length+aa.length)*bytes≤1000000*1000:=Nat.mul_le_mul (by omega) hbytes
 subst hux
 obtain ⟨us,⟨ao,cap,hsl,hcap,hraw⟩,ab⟩:=hu
 simp only [Value.slice.injEq] at hsl
 obtain ⟨rfl,_,rfl⟩:=hsl
 refine wp_append_own w s x t ho B T i z c bytes ht hi hz hsize hby hzs.1 hzs.2 v xs.length ys hs hown ⟨bx,ox,none⟩ aa.length cx us hx ab.1 (fun j y hj=>?_) (fun y hy=>?_) (by unfold maxLen;omega) (by omega) hBw ?_
 ·have hj':=(List.getElem?_eq_some_iff.1 hj).1
  obtain ⟨b,off,cs,fr,had,hbk,hcells⟩:=hraw (by omega)
  simp only [Option.some.injEq,Addr.mk.injEq,and_true] at had
  obtain ⟨rfl,rfl⟩:=had
  have e:(⟨bx,ox,none⟩:Addr).add j=⟨bx,ox+j,none⟩:=by by_cases h0:j=0<;>simp [Addr.add,h0]
  rw [e,zb1 hbk,hcells j hj'];exact hj
 ·obtain ⟨j,hj,rfl⟩:=List.mem_iff_getElem.1 hy
  have hjc:j/c<aa.length:=by rw [ab.1] at hj;exact Nat.div_lt_of_lt_mul (by rw [Nat.mul_comm];exact hj)
  have:=ab.2 (j/c) aa[j/c] (List.getElem?_eq_getElem hjc)
  refine h1 _ _ this _ ?_
  have hm:j % c<c:=Nat.mod_lt _ hzs.2
  have hd:j/c*c+j % c=j:=by rw [Nat.mul_comm];exact Nat.div_add_mod j c
  refine List.mem_iff_getElem?.2 ⟨j % c,?_⟩
  rw [List.getElem?_take_of_lt hm,List.getElem?_drop,hd,List.getElem?_eq_getElem hj]
 ·intro v' w' h2 hg _
  have hown':=hown
  have hnew:∀ k,v.ownBlock=some k→B≤k∧∃ cur,w.heap[k]?=some (.cells cur T (0,0)):=by
   intro k hk
   rcases hown'.2 with ⟨rfl,_⟩ | ⟨g,cap,cur,rfl,hb,hgg,_⟩
   ·simp [Value.ownBlock] at hk
   ·simp [Value.ownBlock] at hk
    subst hk;exact ⟨hb,cur,hgg⟩
  have hwt:Wt T w w':=⟨hg.os,hg.tape,hg.output,hg.size,fun k cs t fr ht hk=>by
   rw [hg.block k (zf7 hk) (fun e=>?_)]
   ·exact hk
   ·obtain ⟨_,cur,hc⟩:=hnew k e.symm
    rw [hk] at hc
    simp only [Option.some.injEq,Obj.cells.injEq] at hc
    exact ht hc.2.1⟩
  have hboth:Els E c w (ys++us) (xs++aa):=by
   refine ⟨by rw [List.length_append,List.length_append,hEl.1,ab.1,Nat.add_mul],fun k y hy=>?_⟩
   rcases Nat.lt_or_ge k xs.length with hk | hk
   ·rw [List.getElem?_append_left hk] at hy
    have h3:k*c+c≤ys.length:=by
     rw [hEl.1]
     have:=Nat.mul_le_mul_right c (show k+1≤xs.length by omega)
     rw [Nat.add_mul] at this;omega
    rw [List.drop_append_of_le_length (by omega),List.take_append_of_le_length (by rw [List.length_drop];omega)]
    exact hEl.2 k y hy
   ·rw [List.getElem?_append_right hk] at hy
    have h3:xs.length*c≤k*c:=Nat.mul_le_mul_right c hk
    rw [List.drop_append,hEl.1,List.drop_eq_nil_of_le (by rw [hEl.1];exact h3),List.nil_append,← Nat.sub_mul]
    exact ab.2 _ y hy
  refine h v' w' ⟨_,by simpa using h2,hboth.kts hS (hwt.kts hT)⟩ hwt ?_
  refine Below.trans hB ⟨hg.os,hg.tape,hg.output,hg.size,fun k hk=>hg.block k (Nat.lt_of_lt_of_le hk hB.size) (fun e=>?_)⟩
  have:=(hnew k e.symm).1
  omega
theorem Sl.cases {E:World→α→List Value→Prop} {T:TypeId} {c:Nat} {w:World} {v:Value} {xs:List α} (h:Sl E T c w v xs) (hc:0<c):xs=[]∨0<xs.length∧∃ b off cap,v=.slice (some ⟨b,off,none⟩) xs.length cap:=by
 cases xs with
 | nil=>exact .inl rfl
 | cons x xs=>exact .inr ⟨by simp,h.adr_some hc (by simp)⟩
end
def ERat (k:Nat) (w:World) (q:Rat) (vs:List Value):Prop:=∃ c0 c1 c2 c3,vs=[c0,c1,c2,c3]∧IsRat w k c0 c1 c2 c3 q
theorem ERat.mono {k m:Nat} {w:World} {q:Rat} {vs:List Value} (h:ERat k w q vs) (hk:k≤m):ERat m w q vs:=by
 obtain ⟨c0,c1,c2,c3,e,hq⟩:=h
 exact ⟨c0,c1,c2,c3,e,hq.mono hk⟩
inductive Cl where
 | ci (k:IntKind) (z lo hi:Int)
 | cb (t:Bool) (d:Option Bool)
 | cw (l:List UInt8) (d:Option (Nat × Rat))
 | cr (j c k:Nat) (q:Rat)
 | cz (j c k:Nat) (q:Int)
 | cp (j off:Nat)
 | cs (j off len cap:Nat)
 | cf (fn:Nat) (caps:List (Nat × Nat))
 | cv (x:Value)
 | ct (l:List UInt8)
inductive TV where
 | vc (x:Cl)
 | vg (l:List Cl)
inductive SV where
 | so (x:TV)
 | st (l:List TV)
 | su
 | sj (j i:Nat)
 | fs (v:Value) (len c:Nat) (xs:List (List Cl))
 | fa (v:Value) (j:Nat) (cs:List Cl)
structure Env where
 E:Nat→Nat
 R:Nat→Nat→Value
 Z:Nat→Nat→Value
 D:List Deferred
 K:List (Nat × Obj)
def Env.ptr (X:Env) (x:Nat × Nat):Value:=.pointer (some ⟨X.E x.1,x.2,none⟩)
def Cl.den (X:Env):Cl→Value
 | .ci k z _ _=>.int k z
 | .cb t _=>.bool t
 | .cw l _=>.string ⟨l.toArray⟩
 | .cr j c _ _=>X.R j c
 | .cz j c _ _=>X.Z j c
 | .cp j o=>.pointer (some ⟨X.E j,o,none⟩)
 | .cs j o l c=>.slice (some ⟨X.E j,o,none⟩) l c
 | .cf fn caps=>.func (.func fn) #[] (caps.map X.ptr).toArray
 | .cv x=>x
 | .ct l=>.string ⟨l.toArray⟩
def dnL (X:Env) (l:List Cl):Array Value:=(l.map (Cl.den X)).toArray
def TV.den (X:Env):TV→Value
 | .vc x=>x.den X
 | .vg l=>.agg (dnL X l)
def SV.den (X:Env):SV→Value
 | .so x=>x.den X
 | .st l=>.tuple (l.map (TV.den X)).toArray
 | .su=>undef
 | .sj j i=>X.Z j (10+i)
 | .fs v _ _ _=>v
 | .fa v j _=>adr v j
structure Nn where
 b:Nat
 r:Nat
 z:Nat
structure Nn.le (m n:Nn):Prop where
 b:m.b≤n.b
 r:m.r≤n.r
 z:m.z≤n.z
theorem Nn.le.refl (m:Nn):m.le m:=⟨Nat.le_refl _,Nat.le_refl _,Nat.le_refl _⟩
theorem Nn.le.trans {l m n:Nn} (h:l.le m) (k:m.le n):l.le n:=⟨Nat.le_trans h.b k.b,Nat.le_trans h.r k.r,Nat.le_trans h.z k.z⟩
def Cl.lt (n:Nn):Cl→Bool
 | .cr j c _ _=>Nat.blt j n.r&&Nat.blt c 4
 | .cz j c _ _=>Nat.blt j n.z&&Nat.blt c 2
 | .cp j _ | .cs j _ _ _=>Nat.blt j n.b
 | .cf _ caps=>caps.all fun x=>Nat.blt x.1 n.b
 | _=>true
def Cl.good (X:Env) (W:World):Cl→Prop
 | .ci _ z lo hi=>lo≤z∧z≤hi
 | .cb t d=>∀ v,d=some v→t=v
 | .cw l d=>∀ k q,d=some (k,q)→l=za3 q∧Sz k q.num∧Sz k (q.den:Int)
 | .cr j _ k q=>IsRat W k (X.R j 0) (X.R j 1) (X.R j 2) (X.R j 3) q
 | .cz j _ k q=>IsInt W k (X.Z j 0) (X.Z j 1) q
 | .cv x=>x.oneCell'=true
 | .ct l=>(l.length:Int)≤9223372036854775807
 | _=>True
def Cl.ok (n:Nn) (X:Env) (W:World) (c:Cl):Prop:=c.lt n=true∧c.good X W
def okL (n:Nn) (X:Env) (W:World) (l:List Cl):Prop:=∀ c ∈ l,c.ok n X W
def TV.ok (n:Nn) (X:Env) (W:World):TV→Prop
 | .vc x=>x.ok n X W
 | .vg l=>okL n X W l
def AtK (n:Nn) (X:Env) (W:World) (v:Value) (j:Nat) (cs:List Cl):Prop:=
 okL n X W cs∧∃ b o l cap us t fr,v=.slice (some ⟨b,o,none⟩) l cap∧(b,Obj.cells us t fr) ∈ X.K∧∀ (i:Nat) u,(cs.map (Cl.den X))[i]?=some u→us[o+j+i]?=some u
def SV.ok (n:Nn) (X:Env) (W:World):SV→Prop
 | .so x=>x.ok n X W
 | .st l=>∀ x ∈ l,x.ok n X W
 | .su=>True
 | .sj j _=>Nat.blt j n.z=true
 | .fs v len c xs=>(∃ ao cap,v=.slice ao len cap)∧∀ (i:Nat) cs,xs[i]?=some cs→AtK n X W v (i*c) cs
 | .fa v j cs=>AtK n X W v j cs
def okF (n:Nn) (X:Env) (W:World) (l:List SV):Prop:=∀ c ∈ l,c.ok n X W
structure Agr (n:Nn) (X Y:Env):Prop where
 E:∀ i,i<n.b→X.E i=Y.E i
 R:∀ i c,i<n.r→X.R i c=Y.R i c
 Z:∀ i c,i<n.z→X.Z i c=Y.Z i c
 D:(X.D,X.K)=(Y.D,Y.K)
theorem Agr.d {n:Nn} {X Y:Env} (h:Agr n X Y):X.D=Y.D:=congrArg Prod.fst h.D
theorem Agr.k {n:Nn} {X Y:Env} (h:Agr n X Y):X.K=Y.K:=congrArg Prod.snd h.D
theorem Agr.refl (n:Nn) (X:Env):Agr n X X:=⟨fun _ _=>rfl,fun _ _ _=>rfl,fun _ _ _=>rfl,rfl⟩
theorem Agr.trans {n:Nn} {X Y Z:Env} (h:Agr n X Y) (k:Agr n Y Z):Agr n X Z:=
 ⟨fun i hi=>(h.E i hi).trans (k.E i hi),fun i c hi=>(h.R i c hi).trans (k.R i c hi),fun i c hi=>(h.Z i c hi).trans (k.Z i c hi),h.D.trans k.D⟩
theorem Agr.mono {m n:Nn} {X Y:Env} (h:Agr n X Y) (hm:m.le n):Agr m X Y:=
 ⟨fun i hi=>h.E i (Nat.lt_of_lt_of_le hi hm.b),fun i c hi=>h.R i c (Nat.lt_of_lt_of_le hi hm.r),fun i c hi=>h.Z i c (Nat.lt_of_lt_of_le hi hm.z),h.D⟩
theorem zd6 {a b:Nat} (h:Nat.blt a b=true):a<b:=Nat.le_of_ble_eq_true h
theorem zn3 {a b:Nat} (h:a<b):Nat.blt a b=true:=Nat.ble_eq_true_of_le h
theorem zk3 {a b c:Nat} (h:Nat.blt a b=true) (k:b≤c):Nat.blt a c=true:=zn3 (Nat.lt_of_lt_of_le (zd6 h) k)
theorem Cl.lt_mono {m n:Nn} (h:m.le n) {c:Cl} (hc:c.lt m=true):c.lt n=true:=by
 cases c with
 | cr j c k q=>
  simp only [Cl.lt,Bool.and_eq_true] at hc ⊢
  exact ⟨zk3 hc.1 h.r,hc.2⟩
 | cz j c k q=>
  simp only [Cl.lt,Bool.and_eq_true] at hc ⊢
  exact ⟨zk3 hc.1 h.z,hc.2⟩
 | cp j o=>exact zk3 hc h.b
 | cs j o l c=>exact zk3 hc h.b
 | cf fn caps=>
  simp only [Cl.lt,List.all_eq_true] at hc ⊢
  exact fun x hx=>zk3 (hc x hx) h.b
 | _=>rfl
theorem Cl.den_agree {n:Nn} {X Y:Env} (h:Agr n X Y) {c:Cl} (hc:c.lt n=true):c.den X=c.den Y:=by
 cases c with
 | cr j c k q=>
  simp only [Cl.lt,Bool.and_eq_true] at hc
  exact h.R _ _ (zd6 hc.1)
 | cz j c k q=>
  simp only [Cl.lt,Bool.and_eq_true] at hc
  exact h.Z _ _ (zd6 hc.1)
 | cp j o=>simp only [Cl.den,h.E j (zd6 hc)]
 | cs j o l c=>simp only [Cl.den,h.E j (zd6 hc)]
 | cf fn caps=>
  simp only [Cl.lt,List.all_eq_true] at hc
  simp only [Cl.den]
  rw [List.map_congr_left (g:=Y.ptr) fun x hx=>?_]
  simp only [Env.ptr,h.E _ (zd6 (hc x hx))]
 | _=>rfl
theorem Cl.ok_to {m n:Nn} {X Y:Env} {V W:World} (hn:m.le n) (h:Agr m X Y) (hk:Kp V W) {c:Cl} (hc:c.ok m X V):c.ok n Y W:=by
 refine ⟨Cl.lt_mono hn hc.1,?_⟩
 have h1:=hc.1
 have h2:=hc.2
 cases c with
 | cr j c k q=>
  simp only [Cl.lt,Bool.and_eq_true] at h1
  have hj:=zd6 h1.1
  simp only [Cl.good,← h.R _ _ hj] at h2 ⊢
  exact h2.kp hk
 | cz j c k q=>
  simp only [Cl.lt,Bool.and_eq_true] at h1
  have hj:=zd6 h1.1
  simp only [Cl.good,← h.Z _ _ hj] at h2 ⊢
  exact h2.kp hk
 | _=>exact h2
theorem zr4 {m n:Nn} {X Y:Env} {V W:World} (hn:m.le n) (h:Agr m X Y) (hk:Kp V W) {l:List Cl} (hl:okL m X V l):okL n Y W l:=fun c hc=>Cl.ok_to hn h hk (hl c hc)
theorem TV.ok_to {m n:Nn} {X Y:Env} {V W:World} (hn:m.le n) (h:Agr m X Y) (hk:Kp V W) {x:TV} (hx:x.ok m X V):x.ok n Y W:=by
 cases x with
 | vc x=>exact Cl.ok_to hn h hk hx
 | vg l=>exact zr4 hn h hk hx
theorem AtK.to {m n:Nn} {X Y:Env} {V W:World} (hn:m.le n) (h:Agr m X Y) (hk:Kp V W) {v:Value} {j:Nat} {cs:List Cl} (hx:AtK m X V v j cs):AtK n Y W v j cs:=by
 obtain ⟨h0,b,o,l,cap,us,t,fr,h1,h2,h3⟩:=hx
 refine ⟨zr4 hn h hk h0,b,o,l,cap,us,t,fr,h1,h.k ▸ h2,?_⟩
 rw [← List.map_congr_left fun x hm=>Cl.den_agree h (h0 x hm).1]
 exact h3
theorem SV.ok_to {m n:Nn} {X Y:Env} {V W:World} (hn:m.le n) (h:Agr m X Y) (hk:Kp V W) {x:SV} (hx:x.ok m X V):x.ok n Y W:=by
 cases x with
 | so x=>exact TV.ok_to hn h hk hx
 | st l=>exact fun x hm=>TV.ok_to hn h hk (hx x hm)
 | su=>trivial
 | sj j i=>exact zk3 hx hn.z
 | fs v len c xs=>exact ⟨hx.1,fun i cs hi=>(hx.2 i cs hi).to hn h hk⟩
 | fa v j cs=>exact AtK.to hn h hk hx
theorem zN4 {m n:Nn} {X Y:Env} {V W:World} (hn:m.le n) (h:Agr m X Y) (hk:Kp V W) {l:List SV} (hl:okF m X V l):okF n Y W l:=fun c hc=>SV.ok_to hn h hk (hl c hc)
theorem zn4 {n:Nn} {X Y:Env} (h:Agr n X Y) {l:List Cl} (hl:∀ c ∈ l,c.lt n=true):dnL X l=dnL Y l:=by
 unfold dnL
 rw [List.map_congr_left fun x hx=>Cl.den_agree h (hl x hx)]
theorem TV.den_agree {n:Nn} {X Y:Env} {W:World} (h:Agr n X Y) {x:TV} (hx:x.ok n X W):x.den X=x.den Y:=by
 cases x with
 | vc x=>exact Cl.den_agree h hx.1
 | vg l=>exact congrArg Value.agg (zn4 h fun c hc=>(hx c hc).1)
theorem SV.den_agree {n:Nn} {X Y:Env} {W:World} (h:Agr n X Y) {x:SV} (hx:x.ok n X W):x.den X=x.den Y:=by
 cases x with
 | so x=>exact TV.den_agree h hx
 | st l=>simp only [SV.den];rw [List.map_congr_left fun x hm=>TV.den_agree h (hx x hm)]
 | su=>rfl
 | sj j i=>exact h.Z _ _ (zd6 hx)
 | fs v len c xs=>rfl
 | fa v j cs=>rfl
theorem Cl.one {n:Nn} {X:Env} {W:World} {c:Cl} (h:c.ok n X W):(c.den X).oneCell'=true:=by
 have h1:=h.1
 have h2:=h.2
 cases c with
 | cr j c k q=>
  simp only [Cl.lt,Bool.and_eq_true] at h1
  have hc:=zd6 h1.2
  simp only [Cl.good] at h2
  simp only [Cl.den]
  match c,hc with
  | 0,_=>exact h2.one0
  | 1,_=>exact h2.one1
  | 2,_=>exact h2.one2
  | 3,_=>exact h2.one3
 | cz j c k q=>
  simp only [Cl.lt,Bool.and_eq_true] at h1
  have hc:=zd6 h1.2
  simp only [Cl.good] at h2
  simp only [Cl.den]
  match c,hc with
  | 0,_=>exact h2.one0
  | 1,_=>exact h2.one1
 | cv x=>exact h2
 | _=>rfl

def Env.wd (X:Env) (D:List Deferred):Env:={X with D:=D}
theorem Cl.den_D (X:Env) (D:List Deferred) (c:Cl):c.den (X.wd D)=c.den X:=by cases c<;>rfl
theorem Cl.ok_D {n:Nn} {X:Env} {W:World} {c:Cl} (h:c.ok n X W) (D:List Deferred):c.ok n (X.wd D) W:=by
 refine ⟨h.1,?_⟩
 have:=h.2
 cases c<;>exact this
theorem okL_D {n:Nn} {X:Env} {W:World} {l:List Cl} (h:okL n X W l) (D:List Deferred):okL n (X.wd D) W l:=fun c hc=>Cl.ok_D (h c hc) D
theorem dnL_D (X:Env) (D:List Deferred) (l:List Cl):dnL (X.wd D) l=dnL X l:=by
 unfold dnL
 rw [List.map_congr_left fun c _=>Cl.den_D X D c]
theorem TV.den_D (X:Env) (D:List Deferred) (x:TV):x.den (X.wd D)=x.den X:=by
 cases x with
 | vc c=>exact Cl.den_D X D c
 | vg l=>exact congrArg Value.agg (dnL_D X D l)
theorem SV.den_D (X:Env) (D:List Deferred) (x:SV):x.den (X.wd D)=x.den X:=by
 cases x with
 | so x=>exact TV.den_D X D x
 | st l=>simp only [SV.den];rw [List.map_congr_left fun x _=>TV.den_D X D x]
 | su=>rfl
 | sj j i=>rfl
 | fs v len c xs=>rfl
 | fa v j cs=>rfl
theorem TV.ok_D {n:Nn} {X:Env} {W:World} {x:TV} (h:x.ok n X W) (D:List Deferred):x.ok n (X.wd D) W:=by
 cases x with
 | vc c=>exact Cl.ok_D h D
 | vg l=>exact okL_D h D
theorem AtK.d {n:Nn} {X:Env} {W:World} {v:Value} {j:Nat} {cs:List Cl} (hx:AtK n X W v j cs) (D:List Deferred):AtK n (X.wd D) W v j cs:=by
 obtain ⟨h0,b,o,l,cap,us,t,fr,h1,h2,h3⟩:=hx
 refine ⟨okL_D h0 D,b,o,l,cap,us,t,fr,h1,h2,?_⟩
 rw [List.map_congr_left fun x _=>Cl.den_D X D x]
 exact h3
theorem SV.ok_D {n:Nn} {X:Env} {W:World} {x:SV} (h:x.ok n X W) (D:List Deferred):x.ok n (X.wd D) W:=by
 cases x with
 | so x=>exact TV.ok_D h D
 | st l=>exact fun x hx=>TV.ok_D (h x hx) D
 | su=>trivial
 | sj j i=>exact h
 | fs v len c xs=>exact ⟨h.1,fun i cs hi=>(h.2 i cs hi).d D⟩
 | fa v j cs=>exact AtK.d h D
def zY2:List UInt8→Option (Nat × Rat)
 | [48]=>some (1,0)
 | [49]=>some (1,1)
 | [45,49]=>some (1,-1)
 | _=>none
theorem zY3 {l:List UInt8} {k:Nat} {q:Rat} (h:zY2 l=some (k,q)):l=za3 q∧Sz k q.num∧Sz k (q.den:Int):=by
  unfold zY2 at h
  split at h<;>first
    | cases h;done
    | (simp only [Option.some.injEq,Prod.mk.injEq] at h
       obtain ⟨rfl,rfl⟩:=h
       exact ⟨by kernel_rfl,of_decide_eq_true (p:=(_<2 ^ 1)) (by kernel_rfl),of_decide_eq_true (p:=(_<2 ^ 1)) (by kernel_rfl)⟩)
def clOf:Value→Option Cl
 | .bool b=>some (.cb b (some b))
 | .int k n=>some (.ci k n n n)
 | .string s=>some (.cw s.data.toList (zY2 s.data.toList))
 | x=>if x.oneCell' then some (.cv x) else none
def zY4:List Value→Option (List Cl)
 | []=>some []
 | v::l=>match clOf v,zY4 l with
  | some c,some r=>some (c::r)
  | _,_=>none
def svOf:Value→Option SV
 | .agg cs=>match zY4 cs.toList with
  | some l=>some (.so (.vg l))
  | none=>none
 | .tuple _=>none
 | v=>match clOf v with
  | some c=>some (.so (.vc c))
  | none=>none
theorem zY5 {v:Value} {c:Cl} (h:clOf v=some c) (n:Nn) (X:Env) (W:World):c.den X=v∧c.ok n X W:=by
 unfold clOf at h
 split at h
 ·cases h;exact ⟨rfl,rfl,fun v hv=>by simpa using hv⟩
 ·cases h;exact ⟨rfl,rfl,Int.le_refl _,Int.le_refl _⟩
 ·cases h
  exact ⟨by simp [Cl.den],rfl,fun k q hq=>zY3 hq⟩
 ·split at h
  ·cases h;exact ⟨rfl,rfl,by assumption⟩
  ·cases h
theorem zk4:∀ {l:List Value} {r:List Cl} (_:zY4 l=some r) (n:Nn) (X:Env) (W:World),r.map (Cl.den X)=l∧okL n X W r
 | [],r,h,n,X,W=>by cases h;exact ⟨rfl,fun _ hc=>by cases hc⟩
 | v::l,r,h,n,X,W=>by
  unfold zY4 at h
  split at h
  ·rename_i c r' h1 h2
   cases h
   have a:=zY5 h1 n X W
   have b:=zk4 h2 n X W
   refine ⟨by simp [a.1,b.1],fun x hx=>?_⟩
   rcases List.mem_cons.1 hx with rfl | hx
   ·exact a.2
   ·exact b.2 x hx
  ·cases h
theorem svOf_ok {v:Value} {s:SV} (h:svOf v=some s) (n:Nn) (X:Env) (W:World):s.den X=v∧s.ok n X W:=by
 unfold svOf at h
 split at h
 ·split at h
  ·rename_i h1
   cases h
   have a:=zk4 h1 n X W
   exact ⟨by simp [SV.den,TV.den,dnL,a.1],a.2⟩
  ·cases h
 ·cases h
 ·split at h
  ·rename_i h1
   cases h
   exact zY5 h1 n X W
  ·cases h

noncomputable def nth {α:Type} (l:List α):Nat→Option α:=List.rec (motive:=fun _=>Nat→Option α) (fun _=>none) (fun a _ ih i=>Nat.rec (motive:=fun _=>Option α) (some a) (fun m _=>ih m) i) l
theorem ze9 {α:Type}:∀ (l:List α) (i:Nat),nth l i=l[i]?
 | [],_=>rfl
 | _::_,0=>rfl
 | _::l,i+1=>ze9 l i
noncomputable def setF {α β:Type} (l:List α):Nat→α→(List α→β)→β:=List.rec (motive:=fun _=>Nat→α→(List α→β)→β) (fun _ _ k=>k []) (fun a l ih i v k=>Nat.rec (motive:=fun _=>β) (k (v::l)) (fun m _=>ih m v fun r=>k (a::r)) i) l
theorem zI8 {α β:Type}:∀ (l:List α) (i:Nat) (v:α) (k:List α→β),setF l i v k=k (l.set i v)
 | [],_,_,_=>rfl
 | _::_,0,_,_=>rfl
 | a::l,i+1,v,k=>zI8 l i v fun r=>k (a::r)
noncomputable def frcL {α β:Type} (l:List α):(List α→β)→β:=List.rec (motive:=fun _=>(List α→β)→β) (fun k=>k []) (fun a _ ih k=>ih fun r=>k (a::r)) l
theorem zp6 {α β:Type}:∀ (l:List α) (k:List α→β),frcL l k=k l
 | [],_=>rfl
 | a::l,k=>zp6 l fun r=>k (a::r)
noncomputable def appF {α β:Type} (l m:List α):(List α→β)→β:=List.rec (motive:=fun _=>(List α→β)→β) (fun k=>k m) (fun a _ ih k=>ih fun r=>k (a::r)) l
theorem zI9 {α β:Type} (m:List α):∀ (l:List α) (k:List α→β),appF l m k=k (l++m)
 | [],_=>rfl
 | a::l,k=>zI9 m l fun r=>k (a::r)

def za4 (X:Env) (fr:List SV):Act:=⟨(fr.map (SV.den X)).toArray,X.D⟩
noncomputable def ev (fr:List SV):Operand→Option SV
 | .tmp t=>nth fr t
 | .const v=>svOf v
 | .func f=>some (.so (.vc (.cf f [])))
 | .global _=>none
theorem zb4 {fr:List SV} {x:Operand} {s:SV} (h:ev fr x=some s) {n:Nn} {X:Env} {W:World} (hf:okF n X W fr):(za4 X fr).eval x=s.den X∧s.ok n X W:=by
 cases x with
 | tmp t=>
  simp only [ev,ze9] at h
  refine ⟨?_,hf s (List.mem_of_getElem? h)⟩
  simp only [Act.eval,za4,Array.getD_eq_getD_getElem?]
  simp [h]
 | const v=>
  have:=svOf_ok h n X W
  exact ⟨this.1.symm,this.2⟩
 | func f=>cases h;exact ⟨rfl,rfl,trivial⟩
 | global g=>cases h
theorem zJ0 (X:Env) (fr:List SV) (d:Nat) (s:SV):(za4 X fr).put (some d) (s.den X)=za4 X (fr.set d s):=by
 simp [za4,Act.put,List.map_set]
theorem zY6 {n:Nn} {X:Env} {W:World} {fr:List SV} (hf:okF n X W fr) {d:Nat} {s:SV} (hs:s.ok n X W):okF n X W (fr.set d s):=fun c hc=>by
 rcases List.mem_or_eq_of_mem_set hc with h | h
 ·exact hf c h
 ·exact h ▸ hs
theorem zg3 {n:Nn} {X Y:Env} {W:World} (h:Agr n X Y) {fr:List SV} (hf:okF n X W fr):za4 X fr=za4 Y fr:=by
 unfold za4
 rw [List.map_congr_left fun x hx=>SV.den_agree h (hf x hx),h.d]
end Go.Proofs.YthhbibpaeonecaaGreatDoor
namespace Go.Proofs.YthhbibpaeonecaaGreatDoor

def tn (n:Int):Nat→Int
 | 0=>n
 | i+1=>tn n i/10
def td (n:Int) (i:Nat):Int:=tn n i % 10
theorem zw3 (n:Int):tn n 0=n:=rfl
theorem zj8 (n:Int) (i:Nat):tn n (i+1)=tn n i/10:=rfl
theorem yb7 (n:Int) (i:Nat):0≤td n i:=by unfold td;omega
theorem td_lt (n:Int) (i:Nat):td n i<10:=by unfold td;omega
theorem tn_split (n:Int) (i:Nat):tn n i=10*tn n (i+1)+td n i:=by unfold td;rw [zj8];omega
theorem zw4 {n:Int} (h:0≤n):∀ i,0≤tn n i
 | 0=>h
 | i+1=>by have:=zw4 h i;rw [zj8];omega
theorem yb8 {a b:Int} (h:a≤b):∀ i,tn a i≤tn b i
 | 0=>h
 | i+1=>by have:=yb8 h i;rw [zj8,zj8];omega
theorem yb9 (n:Int) (i:Nat):∀ k,tn n (i+k)=tn (tn n i) k
 | 0=>rfl
 | k+1=>by rw [← Nat.add_assoc,zj8,yb9 n i k,zj8]
theorem zw5:∀ i,tn 0 i=0
 | 0=>rfl
 | i+1=>by rw [zj8,zw5 i];rfl
theorem tn_ge {n:Int} {i k:Nat} (h:tn n i=0) (hk:i≤k):tn n k=0:=by
 obtain ⟨j,rfl⟩:=Nat.le.dest hk
 rw [yb9,h,zw5]
structure NX (n:Int) (len:Nat):Prop where
 nonneg:0≤n
 top:tn n len=0
 full:0<len→tn n (len - 1)≠0
theorem NX.zero:NX 0 0:=⟨Int.le_refl _,rfl,by omega⟩
theorem NX.len_zero {n:Int} {len:Nat} (h:NX n len):len=0↔n=0:=by
 constructor
 ·rintro rfl;exact h.top
 ·rintro rfl
  have:=h.full
  rw [zw5] at this
  omega
theorem NX.topdig {n:Int} {len:Nat} (h:NX n len) (hl:0<len):td n (len - 1)=tn n (len - 1)∧0<td n (len - 1):=by
 have h1:=h.top
 have h2:=tn_split n (len - 1)
 rw [show len - 1+1=len by omega,h1] at h2
 have h3:=h.full hl
 have h4:=zw4 h.nonneg (len - 1)
 omega
theorem NX.mk' {n:Int} {len:Nat} (h0:0≤n) (h1:tn n len=0) (h2:0<len→td n (len - 1)≠0):NX n len:=by
 refine ⟨h0,h1,fun hl h3=>h2 hl ?_⟩
 unfold td;rw [h3];rfl
theorem NX.lt_of_len {a b:Int} {la lb:Nat} (ha:NX a la) (hb:NX b lb) (h:la<lb):a<b:=by
 refine Int.lt_of_not_ge fun hge=>?_
 have h1:=yb8 hge (lb - 1)
 have h2:=tn_ge ha.top (show la≤lb - 1 by omega)
 have h3:=hb.full (by omega)
 have h4:=zw4 hb.nonneg (lb - 1)
 omega
theorem NX.len_unique {a:Int} {la lb:Nat} (ha:NX a la) (hb:NX a lb):la=lb:=by
 rcases Nat.lt_trichotomy la lb with h | h | h
 ·have:=ha.lt_of_len hb h;omega
 ·exact h
 ·have:=hb.lt_of_len ha h;omega
theorem NX.len_le {a b:Int} {la lb:Nat} (ha:NX a la) (hb:NX b lb) (h:a≤b):la≤lb:=by
 rcases Nat.lt_or_ge lb la with h1 | h1
 ·have:=hb.lt_of_len ha h1;omega
 ·exact h1
end Go.Proofs.YthhbibpaeonecaaGreatDoor
namespace Go.Proofs.YthhbibpaeonecaaGreatDoor
open Go.RowKit

structure DRow (w:World) (ao:Option Addr) (len:Nat) (d:Nat→Int):Prop where
 raw:0<len→∃ (b off:Nat) (cs:Array Value) (fr:Nat × Nat),ao=some ⟨b,off,none⟩∧w.heap[b]?=some (.cells cs 3 fr)∧∀ i,i<len→cs[off+i]?=some (.int .i64 (d i))
theorem DRow.at_ {w:World} {ao:Option Addr} {len:Nat} {d:Nat→Int} (h:DRow w ao len d) (hp:0<len):
  ∃ b off,ao=some ⟨b,off,none⟩∧∀ i,i<len→w.cell? ⟨b,off+i,none⟩=some (.int .i64 (d i)):=by
 obtain ⟨b,off,cs,fr,e,hb,hc⟩:=h.raw hp
 exact ⟨b,off,e,fun i hi=>by simp only [World.cell?,hb,Option.isSome_none];exact hc i hi⟩
theorem DRow.nil (w:World) (ao:Option Addr) (d:Nat→Int):DRow w ao 0 d:=⟨fun h=>by omega⟩
theorem DRow.shorter {w:World} {ao:Option Addr} {len k:Nat} {d:Nat→Int} (h:DRow w ao len d) (hk:k≤len):DRow w ao k d:=
 ⟨fun hp=>by
  obtain ⟨b,off,cs,fr,e,hb,hc⟩:=h.raw (by omega)
  exact ⟨b,off,cs,fr,e,hb,fun i hi=>hc i (by omega)⟩⟩
theorem DRow.congr {w:World} {ao:Option Addr} {len:Nat} {d d':Nat→Int} (h:DRow w ao len d) (e:∀ i,i<len→d i=d' i):DRow w ao len d':=
 ⟨fun hp=>by
  obtain ⟨b,off,cs,fr,e',hb,hc⟩:=h.raw hp
  exact ⟨b,off,cs,fr,e',hb,fun i hi=>by rw [hc i hi,e i hi]⟩⟩
theorem DRow.gr {w w':World} {ao:Option Addr} {len:Nat} {d:Nat→Int} (h:DRow w ao len d) (hk:Gr w w'):DRow w' ao len d:=
 ⟨fun hp=>by
  obtain ⟨b,off,cs,fr,e,hb,hc⟩:=h.raw hp
  exact ⟨b,off,cs,fr,e,hk.heap hb,hc⟩⟩
theorem DRow.below {w w':World} {ao:Option Addr} {len:Nat} {d:Nat→Int} (h:DRow w ao len d) (hb:Below w.heap.size w w'):DRow w' ao len d:=h.gr hb

def TenS (w:World) (v:Value) (n:Int):Prop:=∃ ao len cap,v=.slice ao len cap∧len≤cap∧NX n len∧DRow w ao len (td n)
def TenZ (w:World) (v:Value) (n:Int):Prop:=∃ ao len cap,v=.slice ao len cap∧len≤cap∧len≤900001∧tn n len=0∧DRow w ao len (td n)
theorem TenS.gr {w w':World} {v:Value} {n:Int} (h:TenS w v n) (g:Gr w w'):TenS w' v n:=by
 obtain ⟨ao,len,cap,h1,h2,h3,h4⟩:=h
 exact ⟨ao,len,cap,h1,h2,h3,h4.gr g⟩
theorem TenZ.gr {w w':World} {v:Value} {n:Int} (h:TenZ w v n) (g:Gr w w'):TenZ w' v n:=by
 obtain ⟨ao,len,cap,h1,h2,h3,h4,h5⟩:=h
 exact ⟨ao,len,cap,h1,h2,h3,h4,h5.gr g⟩
theorem OwnS.cells {w:World} {T B:Nat} {v:Value} {ys:List Value} (h:OwnS w T B v ys) (hp:0<ys.length):
  ∃ g cap cur,v=.slice (some ⟨g,0,none⟩) ys.length cap∧B≤g∧w.heap[g]?=some (.cells cur T (0,0))∧ys.length≤cap∧cap≤maxLen∧∀ i,i<ys.length→cur[i]?=ys[i]?:=by
 obtain ⟨g,cap,cur,e,hb,hg,h1,h2,h3,h4⟩:=h.block hp
 refine ⟨g,cap,cur,e,hb,hg,h1,h2,fun i hi=>?_⟩
 rw [← h4,List.getElem?_take_of_lt hi];simp
def TenF (w:World) (B:Nat) (v:Value) (n:Int):Prop:=∃ ao len cap,v=.slice ao len cap∧len≤cap∧NX n len∧DRow w ao len (td n)∧∀ ad,ao=some ad→B≤ad.block
theorem TenF.s {w:World} {B:Nat} {v:Value} {n:Int} (h:TenF w B v n):TenS w v n:=by
 obtain ⟨ao,len,cap,h1,h2,h3,h4,_⟩:=h
 exact ⟨ao,len,cap,h1,h2,h3,h4⟩
theorem TenF.gr {w w':World} {B:Nat} {v:Value} {n:Int} (h:TenF w B v n) (g:Gr w w'):TenF w' B v n:=by
 obtain ⟨ao,len,cap,h1,h2,h3,h4,h5⟩:=h
 exact ⟨ao,len,cap,h1,h2,h3,h4.gr g,h5⟩
theorem TenF.mono {w:World} {B C:Nat} {v:Value} {n:Int} (h:TenF w B v n) (hC:C≤B):TenF w C v n:=by
 obtain ⟨ao,len,cap,h1,h2,h3,h4,h5⟩:=h
 exact ⟨ao,len,cap,h1,h2,h3,h4,fun ad e=>Nat.le_trans hC (h5 ad e)⟩
theorem TenF.set {w:World} {B g:Nat} {v:Value} {n:Int} (h:TenF w B v n) (hg:g<B) (i:Nat) (u:Value):TenF (w.setCell ⟨g,i,none⟩ u) B v n:=by
 obtain ⟨ao,len,cap,h1,h2,h3,h4,h5⟩:=h
 refine ⟨ao,len,cap,h1,h2,h3,⟨fun hp=>?_⟩,h5⟩
 obtain ⟨b,off,cs,fr,e,hb,hc⟩:=h4.raw hp
 have:=h5 _ e
 exact ⟨b,off,cs,fr,e,(Below.heap_setCell _ _ _ _ (by show b≠g;simp at this;omega)).trans hb,hc⟩
structure DOwn (w:World) (b n:Nat) (d:Nat→Int):Prop where
 raw:∃ cs,w.heap[b]?=some (.cells cs 3)∧∀ i,i<n→cs[i]?=some (.int .i64 (d i))
theorem DOwn.lt {w:World} {b n:Nat} {d:Nat→Int} (h:DOwn w b n d):b<w.heap.size:=by
 obtain ⟨cs,hb,hc⟩:=h.raw;exact zf7 hb
theorem DOwn.cell {w:World} {b n:Nat} {d:Nat→Int} (h:DOwn w b n d):∀ i,i<n→w.cell? ⟨b,i,none⟩=some (.int .i64 (d i)):=by
 obtain ⟨cs,hb,hc⟩:=h.raw
 exact fun i hi=>by simp only [World.cell?,hb,Option.isSome_none];exact hc i hi
theorem DOwn.free {w:World} {b n:Nat} {d:Nat→Int} (h:DOwn w b n d):∀ i,w.frozen? ⟨b,i,none⟩=false:=by
 obtain ⟨cs,hb,hc⟩:=h.raw
 exact fun i=>by simp [World.frozen?,hb]
theorem DOwn.set {w:World} {b n:Nat} {d:Nat→Int} (h:DOwn w b n d) {i:Nat} (_hi:i<n) (v:Int):DOwn (w.setCell ⟨b,i,none⟩ (.int .i64 v)) b n (upd d i v):=by
 obtain ⟨cs,hb,hc⟩:=h.raw
 refine ⟨_,za8 _ hb,fun j hj=>?_⟩
 by_cases e:i=j
 ·subst e
  have:=(Array.getElem?_eq_some_iff.1 (hc i hj)).1
  rw [zb3];simp [this]
 ·rw [za7 d v (Ne.symm e),Array.getElem?_setIfInBounds_ne e];exact hc j hj
theorem DOwn.gr {w w':World} {b n:Nat} {d:Nat→Int} (h:DOwn w b n d) (hb:Gr w w'):DOwn w' b n d:=by
 obtain ⟨cs,hb',hc⟩:=h.raw
 exact ⟨cs,hb.heap hb',hc⟩
theorem DOwn.below {w w':World} {b n:Nat} {d:Nat→Int} (h:DOwn w b n d) (hb:Below w.heap.size w w'):DOwn w' b n d:=h.gr hb
theorem DOwn.congr {w:World} {b n:Nat} {d d':Nat→Int} (h:DOwn w b n d) (e:∀ i,i<n→d i=d' i):DOwn w b n d':=by
 obtain ⟨cs,hb',hc⟩:=h.raw
 exact ⟨cs,hb',fun i hi=>by rw [hc i hi,e i hi]⟩
theorem DOwn.row {w:World} {b n:Nat} {d:Nat→Int} (h:DOwn w b n d):DRow w (some ⟨b,0,none⟩) n d:=by
 obtain ⟨cs,hb',hc⟩:=h.raw
 exact ⟨fun _=>⟨b,0,cs,(0,0),rfl,hb',fun i hi=>by rw [Nat.zero_add];exact hc i hi⟩⟩
theorem DOwn.shorter {w:World} {b n k:Nat} {d:Nat→Int} (h:DOwn w b n d) (hk:k≤n):DOwn w b k d:=by
 obtain ⟨cs,hb',hc⟩:=h.raw
 exact ⟨cs,hb',fun i hi=>hc i (by omega)⟩
-- LEFT OUT:wpList_makeI
end Go.Proofs.YthhbibpaeonecaaGreatDoor
namespace Go.Proofs.YthhbibpaeonecaaGreatDoor
open Go

theorem zo5 (n:Int) (i:Nat):tn (n/10) i=tn n (i+1):=by
 rw [Nat.add_comm i 1,yb9];rfl
theorem td_tenth (n:Int) (i:Nat):td (n/10) i=td n (i+1):=by unfold td;rw [zo5]
theorem NX.small {n:Int} (h0:0<n) (h1:n<10):NX n 1:=⟨by omega,by rw [zj8,zw3];omega,fun _=>by show tn n 0≠0;rw [zw3];omega⟩
theorem NX.div {n:Int} {len:Nat} (h:NX n (len+1)):NX (n/10) len:=by
 refine ⟨by have:=h.nonneg;omega,by rw [zo5];exact h.top,fun hl=>?_⟩
 rw [zo5]
 have:=h.full (by omega)
 rwa [show len+1 - 1=len - 1+1 by omega] at this
theorem NX.exists (n:Nat):∃ len,NX (n:Int) len:=by
 induction n using Nat.strongRecOn with
 | _ n ih=>
  rcases Nat.eq_zero_or_pos n with e | hp
  ·exact ⟨0,by subst e;exact NX.zero⟩
  ·obtain ⟨k,hk⟩:=ih (n/10) (by omega)
   refine ⟨k+1,by omega,by rw [← zo5];exact_mod_cast hk.top,fun _=>?_⟩
   rw [Nat.add_sub_cancel]
   rcases Nat.eq_zero_or_pos k with e | hk0
   ·subst e;rw [zw3];omega
   ·have:=hk.full hk0
    rw [Int.natCast_ediv,show ((10:Nat):Int)=10 from rfl,zo5] at this
    rwa [show k - 1+1=k by omega] at this
theorem yc0:∀ (len n:Nat),NX (n:Int) len→0<n→(Lib.decDigits n).length=len∧∀ i,i<len→(Lib.decDigits n)[len - 1 - i]?=some (UInt8.ofNat (48+(td (n:Int) i).toNat))
 | 0,n,h,hp=>by have:=h.len_zero.1 rfl;omega
 | len+1,n,h,hp=>by
  by_cases h1:n<10
  ·have e:len+1=1:=h.len_unique (NX.small (by omega) (by omega))
   have e0:len=0:=by omega
   subst e0
   rw [zc4 h1]
   refine ⟨rfl,fun i hi=>?_⟩
   have e2:i=0:=by omega
   subst e2
   have:(td (n:Int) 0).toNat=n:=by unfold td;rw [zw3];omega
   rw [this];rfl
  ·have hd:NX ((n/10:Nat):Int) len:=by
    have:=h.div
    rwa [show ((n:Int)/10)=((n/10:Nat):Int) by omega] at this
   obtain ⟨l1,l2⟩:=yc0 len (n/10) hd (by omega)
   rw [zg7 (by omega)]
   refine ⟨by simp [l1],fun i hi=>?_⟩
   cases i with
   | zero=>
    rw [Nat.sub_zero,Nat.add_sub_cancel,← l1,List.getElem?_append_right (Nat.le_refl _),Nat.sub_self]
    have:(td (n:Int) 0).toNat=n % 10:=by unfold td;rw [zw3];omega
    rw [this];rfl
   | succ i=>
    have hi':i<len:=by omega
    have e:len+1 - 1 - (i+1)=len - 1 - i:=by omega
    rw [e,List.getElem?_append_left (by omega),l2 i hi',← td_tenth]
    rw [show ((n/10:Nat):Int)=(n:Int)/10 by omega]
theorem dec_get {n len:Nat} (h:NX (n:Int) len) (hp:0<n) {k:Nat} (hk:k<len):(Lib.decDigits n)[k]?=some (UInt8.ofNat (48+(td (n:Int) (len - 1 - k)).toNat)):=by
 have:=(yc0 len n h hp).2 (len - 1 - k) (by omega)
 rwa [show len - 1 - (len - 1 - k)=k by omega] at this
theorem td_char (n:Int) (i:Nat):((UInt8.ofNat (48+(td n i).toNat)).toNat:Int)=48+td n i:=by
 have h0:=yb7 n i
 have h1:=td_lt n i
 rw [UInt8.toNat_ofNat']
 omega
theorem zd1 {z:Int} (h:0≤z):Lib.itoa z=Lib.decDigits z.natAbs:=by
 unfold Lib.itoa
 rw [if_neg (by omega)]
 congr 1
 omega
theorem zk8 {z:Int} (h:z<0):Lib.itoa z=45::Lib.decDigits z.natAbs:=by unfold Lib.itoa;rw [if_pos h]
theorem zO7 {n:Nat} (hp:0<n):∃ c,(Lib.decDigits n)[0]?=some c∧49≤c.toNat∧c.toNat≤57:=by
 obtain ⟨len,h⟩:=NX.exists n
 have hl:0<len:=by
  rcases Nat.eq_zero_or_pos len with e | e
  ·have:=h.len_zero.1 e;omega
  ·exact e
 refine ⟨_,dec_get h hp hl,?_⟩
 have h1:=h.topdig hl
 have h2:=td_char (n:Int) (len - 1)
 have h3:=td_lt (n:Int) (len - 1)
 rw [Nat.sub_zero]
 omega
theorem dec_zero:Lib.decDigits 0=[48]:=zc4 (by omega)
theorem zq2 (n:Nat):∀ c ∈ Lib.decDigits n,48≤c.toNat∧c.toNat≤57:=by
 induction n using Nat.strongRecOn with
 | _ n ih=>
  by_cases h1:n<10
  ·rw [zc4 h1]
   intro c hc
   simp only [List.mem_singleton] at hc
   subst hc
   rw [UInt8.toNat_ofNat'];omega
  ·rw [zg7 (by omega)]
   intro c hc
   rcases List.mem_append.1 hc with hc | hc
   ·exact ih _ (by omega) c hc
   ·simp only [List.mem_singleton] at hc
    subst hc
    rw [UInt8.toNat_ofNat'];omega
def zm4 (l:List UInt8):Nat:=l.foldl (fun a c=>a*10+(c.toNat - 48)) 0
theorem yc1 (l:List UInt8) (c:UInt8):zm4 (l++[c])=zm4 l*10+(c.toNat - 48):=by simp [zm4,List.foldl_append]
theorem zO8 (n:Nat):zm4 (Lib.decDigits n)=n:=by
 induction n using Nat.strongRecOn with
 | _ n ih=>
  by_cases h1:n<10
  ·rw [zc4 h1]
   show 0*10+((UInt8.ofNat (48+n)).toNat - 48)=n
   rw [UInt8.toNat_ofNat'];omega
  ·rw [zg7 (by omega),yc1,ih _ (by omega),UInt8.toNat_ofNat'];omega
end Go.Proofs.YthhbibpaeonecaaGreatDoor
namespace Go.Proofs.YthhbibpaeonecaaGreatDoor
open Go.RowKit

theorem zx0 {s:ByteArray} {l:List UInt8} (h:s.data.toList=l) {q:Nat} (hq:q<s.size) {c:UInt8} (hc:l[q]?=some c):s[q]=c:=by
 have h1:s.data.toList[q]?=some c:=by rw [h];exact hc
 rw [Array.getElem?_toList] at h1
 obtain ⟨h2,h3⟩:=Array.getElem?_eq_some_iff.1 h1
 exact h3
-- LEFT OUT:r1_digits r1_order r1_sign_n r1_sign_p r1_sign_z r1_trim wpList_makeI
def bvals (l:List UInt8):List Value:=l.map fun c=>.int .u8 (c.toNat:Int)
theorem zr2 (l:List UInt8):(bvals l).length=l.length:=by simp [bvals]
theorem OwnS.conv {w:World} {B:Nat} {v:Value} {l:List UInt8} (h:OwnS w 5 B v (bvals l)) (hp:l≠[]):
  ∃ g cap,v=.slice (some ⟨g,0,none⟩) l.length cap∧(convert 177 9 (.slice (some ⟨g,0,none⟩) l.length cap)).run Tryz.prog w=.ok (.string ⟨l.toArray⟩) w:=by
 obtain ⟨g,cap,cur,e,hb,hg,h1,h2,hc⟩:=h.cells (by rw [zr2];exact List.length_pos_iff.2 hp)
 rw [zr2] at e h1 hc
 refine ⟨g,cap,e,run_convert_bytes_back w _ _ 5 ⟨g,0,none⟩ cap l (by kernel_rfl) (by kernel_rfl) (by kernel_rfl) (fun j hj=>?_)⟩
 have e0:(⟨g,0,none⟩:Addr).add j=⟨g,j,none⟩:=by
  unfold Addr.add
  by_cases h0:j=0<;>simp [h0]
 rw [e0,zb1 hg,hc j hj]
 simp [bvals,hj]
theorem zW6 (n:Nat):Lib.decDigits n≠[]:=fun e=>by have:=zS1 n;rw [e] at this;simp at this
theorem zy3 {k:Nat} {z:Int} (h:Sz k z):(Lib.decDigits z.natAbs).length≤k+1:=ze2 k _ h
theorem NX.len_bits {n len k:Nat} (h:NX (n:Int) len) (hn:n<2 ^ k):len≤k+1:=by
 rcases Nat.eq_zero_or_pos n with e | hp
 ·have:=h.len_zero.2 (by omega);omega
 ·have h1:=(yc0 len n h hp).1
  have h2:=ze2 k n hn
  omega
theorem TenS.len {w:World} {v:Value} {n k:Nat} (h:TenS w v (n:Int)) (hn:n<2 ^ k):∃ ao len cap,v=.slice ao len cap∧len≤cap∧NX (n:Int) len∧DRow w ao len (td (n:Int))∧len≤k+1:=by
 obtain ⟨ao,len,cap,h1,h2,h3,h4⟩:=h
 exact ⟨ao,len,cap,h1,h2,h3,h4,h3.len_bits hn⟩
theorem rv_seq {P:Program} {a:Act} {o:Oper} {w:World} (t t2:TypeId) (x y:Operand) (A B:List UInt8) (hop:o.op=.binOp .eql t x y t2) (hx:a.eval x=.string ⟨A.toArray⟩) (hy:a.eval y=.string ⟨B.toArray⟩):RunV P a o w (.bool (A==B)):=by
 unfold RunV execOp
 simp only [hop,hx,hy]
 simp [go_sem,eqGuard,ByteArray.toList_eq]
theorem rv_sne {P:Program} {a:Act} {o:Oper} {w:World} (t t2:TypeId) (x y:Operand) (A B:List UInt8) (hop:o.op=.binOp .neq t x y t2) (hx:a.eval x=.string ⟨A.toArray⟩) (hy:a.eval y=.string ⟨B.toArray⟩):RunV P a o w (.bool (A !=B)):=by
 unfold RunV execOp
 simp only [hop,hx,hy]
 simp [go_sem,eqGuard,ByteArray.toList_eq,bne]
end Go.Proofs.YthhbibpaeonecaaGreatDoor
namespace Go.Proofs.YthhbibpaeonecaaGreatDoor
open Go

end Go.Proofs.YthhbibpaeonecaaGreatDoor
namespace Go.Proofs.YthhbibpaeonecaaGreatDoor
open Go.RowKit

theorem zQ8 {D:ByteArray} {k:Nat} (h:k<D.size):D.data.toList[k]?=some D[k]:=by
 rw [Array.getElem?_toList,Array.getElem?_eq_getElem h];rfl
end Go.Proofs.YthhbibpaeonecaaGreatDoor
namespace Go.Proofs.YthhbibpaeonecaaGreatDoor
open Go

def zo6:List UInt8→List UInt8 × Option (List UInt8)
 | []=>([],none)
 | c::l=>if c=47 then ([],some l) else (c::(zo6 l).1,(zo6 l).2)
def numL (s:List UInt8):List UInt8:=(zo6 s).1
theorem zR9:∀ s,s=(match (zo6 s).2 with | none=>(zo6 s).1 | some d=>(zo6 s).1++47::d)
 | []=>rfl
 | c::l=>by
  have ih:=zR9 l
  unfold zo6
  by_cases h:c=47
  ·rw [if_pos h,h];rfl
  ·rw [if_neg h]
   dsimp only
   cases hd:(zo6 l).2 with
   | none=>rw [hd] at ih;dsimp only at ih ⊢;rw [← ih]
   | some d=>rw [hd] at ih;dsimp only at ih ⊢;rw [List.cons_append,← ih]
theorem zC7:∀ {s:List UInt8},(∀ c ∈ s,c≠47)→zo6 s=(s,none)
 | [],_=>rfl
 | c::l,h=>by
  unfold zo6
  rw [if_neg (h c (by simp)),zC7 (fun x hx=>h x (by simp [hx]))]
theorem zC8:∀ {a b:List UInt8},(∀ c ∈ a,c≠47)→zo6 (a++47::b)=(a,some b)
 | [],b,_=>by simp [zo6]
 | c::l,b,h=>by
  rw [List.cons_append]
  unfold zo6
  rw [if_neg (h c (by simp)),zC8 (fun x hx=>h x (by simp [hx]))]
theorem zq3 (z:Int):∀ c ∈ Lib.itoa z,c≠47:=by
 intro c hc e
 subst e
 by_cases h:z<0
 ·rw [zk8 h] at hc
  rcases List.mem_cons.1 hc with h1 | h1
  ·exact absurd h1 (by decide)
  ·have:=zq2 _ _ h1;simp at this
 ·rw [zd1 (by omega)] at hc
  have:=zq2 _ _ hc;simp at this
theorem zC9 (q:Rat):zo6 (za3 q)=(Lib.itoa q.num,if q.den=1 then none else some (Lib.itoa (q.den:Int))):=by
 unfold za3
 by_cases h:q.den=1
 ·rw [if_pos h,if_pos h,zC7 (zq3 _)]
 ·rw [if_neg h,if_neg h,List.append_assoc]
  exact zC8 (zq3 _)
theorem zS0 (q:Rat):numL (za3 q)=Lib.itoa q.num:=by unfold numL;rw [zC9]
end Go.Proofs.YthhbibpaeonecaaGreatDoor
