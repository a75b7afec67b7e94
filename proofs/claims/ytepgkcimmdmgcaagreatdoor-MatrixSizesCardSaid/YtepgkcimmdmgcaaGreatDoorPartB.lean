/- Joined of: Div3, Div4, Div5, Int7, Gen2, Int8, Gen3, Rat1, Sl, Os, Og, Oh, Ro. -/
import Derived.Test.YtepgkcimmdmgcaaGreatDoorPartA
import Derived.Lib.BitFns
import Derived.ChangeArms
import Derived.OpenShut
namespace Go.Proofs.YtepgkcimmdmgcaaGreatDoor
open Go.RowKit

theorem St.drewN {w w':World} {b:Nat} (h:St w w' b) (n:Nat):St w (w'.drewN n) b:=⟨h.os,h.tape,h.output,h.size,h.block⟩
theorem St.drew {w w':World} {b:Nat} (h:St w w' b):St w w'.drew b:=⟨h.os,h.tape,h.output,h.size,h.block⟩
theorem St.cell {w w':World} {b:Nat} (h:St w w' b) {c o:Nat} (hc:c≠b):w'.cell? ⟨c,o,none⟩=w.cell? ⟨c,o,none⟩:=World.cell?_of_block (w:=w) (h.block c hc)
theorem Own.drewN {w:World} {b n:Nat} {d:Nat→Int} (h:Own w b n d) (k:Nat):Own (w.drewN k) b n d:=h.gr ((Below.refl _ _).drewN k)

set_option maxRecDepth 100000 in
set_option maxHeartbeats 4000000 in
theorem digit_c (bu off cu bv offv cv m N:Nat) (D:Nat→Int) (U V:Int) (w:World) (hm:m≤1000000) (hN:off+(m+3)≤N) (hN2:N≤2000000) (hO:Own w bu N D) (hD:Hid (∀ i,i<m+3→D (off+i)=dg U i))
    (hU0:0≤U) (hUt:Hid (hi U (m+3)=0)) (hV:NL V (m+2)) (hvc:Hid (∀ i,i<m+2→w.cell? ⟨bv,offv+i,none⟩=some (.int .u32 (dg V i)))) (hne:bv≠bu) (hnorm:2147483648≤dg V (m+1)) (hUV:U<V*4294967296):
    Calls Tryz.prog 166 #[.slice (some ⟨bu,off,none⟩) (m+3) cu,.slice (some ⟨bv,offv,none⟩) (m+2) cv] w fun e w'=>
      e=.returned (.int .u32 (U/V))∧St w w' bu∧∃ D',Own w' bu N D'∧(∀ i,i<m+3→D' (off+i)=dg (U % V) i)∧∀ j,(j<off∨off+(m+3)≤j)→D' j=D j:=by
  have cu2:=hO.cell (off+(m+2)) (by omega)
  have cu1:=hO.cell (off+(m+1)) (by omega)
  have cu0:=hO.cell (off+m) (by omega)
  rw [hD.out _ (by omega)] at cu2 cu1 cu0
  have cv1:=hvc.out (m+1) (by omega)
  have cv0:=hvc.out m (by omega)
  have u20:=dg_nonneg U (m+2)
  have u21:=dg_lt U (m+2)
  have u10:=dg_nonneg U (m+1)
  have u11:=dg_lt U (m+1)
  have u00:=dg_nonneg U m
  have u01:=dg_lt U m
  have v11:=dg_lt V (m+1)
  have v00:=dg_nonneg V m
  have v01:=dg_lt V m
  have hor:=or64 (dg U (m+2)) (dg U (m+1)) u20 u21 u10 u11
  go_enter Tryz.func166,Tryz.ntmps166
  go_wp2
  go_quiet (fail)
  go_wp2
  go_quiet (fail)
  go_wp2
  have hv1:hi V (m+1)=dg V (m+1):=by have:=hi_split V (m+1);rw [hV.top] at this;omega
  have hvm:hi V m=dg V (m+1)*4294967296+dg V m:=by have:=hi_split V m;rw [hv1] at this;omega
  have hu2:hi U (m+2)=dg U (m+2):=by have:=hi_split U (m+2);rw [hUt.out] at this;omega
  have hu1:hi U (m+1)=dg U (m+2)*4294967296+dg U (m+1):=by have:=hi_split U (m+1);rw [hu2] at this;omega
  have hum:hi U m=(dg U (m+2)*4294967296+dg U (m+1))*4294967296+dg U m:=by have:=hi_split U m;rw [hu1] at this;omega
  have hV0:0<V:=by
    have:=hi_le_of hV.nonneg (show 0≤m+1 by omega)
    rw [hv1,hi_zero] at this;omega
  have hQ0:0≤U/V:=Int.ediv_nonneg hU0 (by omega)
  have hQB:U/V<4294967296:=Int.ediv_lt_of_lt_mul hV0 (by first | exact hUV | (rw [Int.mul_comm];exact hUV))
  have hQV:U/V*V≤U:=Int.ediv_mul_le U (by omega)
  have hlo:=knuth_lo m hQ0 hQV
  have hlo1:=knuth_lo (m+1) hQ0 hQV
  rw [hv1,hu1] at hlo1
  have KN:=Lib.hid (And.intro hvm (And.intro hum (And.intro hlo (And.intro hQB (And.intro hQ0 hV0)))))
  have q0:=Int.ediv_nonneg (show 0≤dg U (m+2)*4294967296+dg U (m+1) by omega) (show 0≤dg V (m+1) by omega)
  have q1:(dg U (m+2)*4294967296+dg U (m+1))/dg V (m+1)<8589934592:=Int.ediv_lt_of_lt_mul (by omega) (by omega)
  have q2:U/V≤(dg U (m+2)*4294967296+dg U (m+1))/dg V (m+1):=(Int.le_ediv_iff_mul_le (by omega)).2 hlo1
  have q3:=Int.emod_add_mul_ediv (dg U (m+2)*4294967296+dg U (m+1)) (dg V (m+1))
  have q4:=Int.emod_nonneg (dg U (m+2)*4294967296+dg U (m+1)) (show dg V (m+1)≠0 by omega)
  have q5:=Int.emod_lt_of_pos (dg U (m+2)*4294967296+dg U (m+1)) (show 0<dg V (m+1) by omega)
  have Q2:=Lib.hid (And.intro q2 q3)
  have hu2v:dg U (m+2)≤dg V (m+1):=by
    have h1:=hi_mono (show U≤V*4294967296 ^ 1+0 by omega) (m+2)
    have h2:hi (V*4294967296 ^ 1+0) (m+2)=hi V (m+1):=by
      rw [Int.add_zero,Int.pow_one,show m+2=1+(m+1) by omega,hi_add]
      congr 1
      rw [hi_succ,hi_zero];omega
    rw [h2,hu2,hv1] at h1;exact h1
  clear hv1 hvm hu2 hu1 hum hQ0 hQB hQV hlo hlo1 q2 q3 hV0 hor hUV
  have st0:St w (w.drewN 0) bu:=(St.refl w bu).drewN 0
  clear cu2 cu1 cu0 st0
  simp only [show m+2 - 1=m+1 from rfl]
  go_loopw [7,8] (fun sq sr wr=>∃ (q r:Int),sq=.int .u64 q∧sr=.int .u64 r∧0≤q∧q<8589934592∧0≤r∧r<8589934592∧St w wr bu∧Own wr bu N D∧
      Hid (q*dg V (m+1)+r=dg U (m+2)*4294967296+dg U (m+1)∧U/V≤q)) (fun sq _ _=>(intOf sq).toNat)
  case atStart=>exact ⟨_,_,rfl,rfl,q0,q1,q4,by omega,((St.refl w bu).drewN _).drewN _,(hO.drewN _).drewN _,by have:=Q2.out;refine ⟨?_,this.1⟩;rw [Int.mul_comm];omega⟩
  case round=>
    obtain ⟨q,r,rfl,rfl,hq0,hq1,hr0,hr1,hst,hOr,hqr⟩:=hrel
    have cu0:=hOr.cell (off+m) (by omega)
    rw [hD.out _ (by omega)] at cu0
    have cw1:=(hst.cell (o:=offv+(m+1)) hne).trans cv1
    have cw0:=(hst.cell (o:=offv+m) hne).trans cv0
    have p0:0≤q*dg V m:=Int.mul_nonneg hq0 v00
    by_cases hex:r<4294967296∧(4294967296≤q∨r*4294967296+dg U m<q*dg V m)
    · obtain ⟨hr,hh⟩:=hex
      have d1:decide (r<4294967296)=true:=by simpa using hr
      have hor:=or64 r (dg U m) hr0 hr u00 u01
      have hlt:U/V<q:=by
        obtain ⟨hvm,hum,hlo,hQB,hQ0,hV0⟩:=KN.out
        rcases hh with hh | hh
        · omega
        · exact knuth_dec hlo hvm hum hqr.out.1 hh (hi_nonneg hV.nonneg m)
      have HL:=Lib.hid hlt
      have HK:=Lib.hid KN.out
      have q6:1≤q:=by have:=KN.out.2.2.2.2.1;omega
      clear hlt
      by_cases hqb:4294967296≤q
      · have d2:decide (4294967296≤q)=true:=by simpa using hqb
        clear hh
        go_wp2
        go_quiet (fail)
        go_wp2
        go_roundw
        case rel=>
          refine ⟨q - 1,r+dg V (m+1),rfl,rfl,by omega,by omega,by omega,by omega,hst.drewN _,hOr.drewN _,?_,by have:=HL.out;omega⟩
          have:=hqr.out.1
          rw [Int.sub_mul];omega
        case measure=>simp [intOf];omega
      · have d2:decide (4294967296≤q)=false:=by simpa using hqb
        have hp:r*4294967296+dg U m<q*dg V m:=by rcases hh with hh | hh;exact absurd hh hqb;exact hh
        have p1:q*dg V m≤4294967295*4294967295:=Int.mul_le_mul (by omega) (by omega) v00 (by omega)
        have d3:decide (r*4294967296+dg U m<q*dg V m)=true:=by simpa using hp
        clear hh
        go_wp2
        go_quiet (fail)
        go_wp2
        go_roundw
        case rel=>
          refine ⟨q - 1,r+dg V (m+1),rfl,rfl,by omega,by omega,by omega,by omega,hst.drewN _,hOr.drewN _,?_,by have:=HL.out;omega⟩
          have:=hqr.out.1
          rw [Int.sub_mul];omega
        case measure=>simp [intOf];omega
    · -- the estimate is right,or one too great
      have hq2:q≤4294967295:=by
        rcases Int.lt_or_le r 4294967296 with h | h
        · rcases Int.lt_or_le q 4294967296 with h2 | h2
          · omega
          · exact absurd ⟨h,.inl h2⟩ hex
        · rcases Int.lt_or_le q 4294967296 with h2 | h2
          · omega
          · exfalso
            have h3:=hqr.out.1
            have h4:4294967296*dg V (m+1)≤q*dg V (m+1):=Int.mul_le_mul_of_nonneg_right h2 (by omega)
            have h5:dg U (m+2)≤dg V (m+1):=hu2v
            omega
      have p1:q*dg V m≤4294967295*4294967295:=Int.mul_le_mul hq2 (by omega) v00 (by omega)
      have hfin:q*V<U+V:=by
        obtain ⟨hvm,hum,hlo,hQB,hQ0,hV0⟩:=KN.out
        refine knuth_hi m hq0 hq2 (by rw [hvm];omega) (knuth_end hvm hum hqr.out.1 ?_)
        rcases Int.lt_or_le r 4294967296 with h | h
        · rcases Int.lt_or_le (r*4294967296+dg U m) (q*dg V m) with h2 | h2
          · exact absurd ⟨h,.inr h2⟩ hex
          · exact h2
        · omega
      have hge:=hqr.out.2
      have FIN:=Lib.hid (And.intro hfin hge)
      have d2:decide (4294967296≤q)=false:=by simp;omega
      have hcase:(decide (r<4294967296)=false∧True)∨(r<4294967296∧decide (r<4294967296)=true∧decide (r*4294967296+dg U m<q*dg V m)=false∧bits BinOp.or IntKind.u64 (r*4294967296) (dg U m)=r*4294967296+dg U m):=by
        rcases Int.lt_or_le r 4294967296 with h | h
        · rcases Int.lt_or_le (r*4294967296+dg U m) (q*dg V m) with h2 | h2
          · exact absurd ⟨h,.inr h2⟩ hex
          · exact .inr ⟨h,by simpa using h,by simpa using h2,or64 r (dg U m) hr0 h u00 u01⟩
        · exact .inl ⟨by simpa using h,trivial⟩
      clear hfin hge hex hqr hu2v
      rcases hcase with ⟨d1,_⟩ | ⟨dr,d1,d3,hor⟩
      all_goals
        go_wp2
        go_quiet (fail)
        go_wp2
        clear cu0 cw1 cw0 d1 d2 p0 p1 q0 q1 q4 q5 Q2 u20 u21 u10 u11 u00 u01 v11 v00 v01 cv1 cv0
        try clear d3 hor
        go_loopw [9,10,86] (fun sc sb si wr=>∃ (c br:Int) (i:Nat) (E:Nat→Int),sc=.int .u64 c∧sb=.int .i64 br∧si=.int .i64 i∧i≤m+2∧0≤c∧c<4294967296∧0≤br∧br≤1∧St w wr bu∧Own wr bu N E∧
          Hid (hi (V*q+0) i=hi V i*q+c∧hi (U - (V*q+0)) i=hi U i - hi (V*q+0) i - br∧(∀ j,j<i→E (off+j)=dg (U - (V*q+0)) j)∧(∀ j,i≤j→j<m+3→E (off+j)=dg U j)∧∀ j,(j<off∨off+(m+3)≤j)→E j=D j)) (fun _ _ si _=>m+2 - (intOf si).toNat)
        case atStart=>exact ⟨0,0,0,D,rfl,rfl,rfl,by omega,by omega,by omega,by omega,by omega,hst.drewN _,hOr.drewN _,by simp [hi_zero],by simp [hi_zero],fun j hj=>by omega,fun j _ hj=>hD.out j hj,fun j _=>rfl⟩
        case round=>
          obtain ⟨c,br,i,E,rfl,rfl,rfl,hi0,hc0,hc1,hb0,hb1,hst2,hO2,hh⟩:=hrel
          by_cases hlt:i<m+2
          · have cv2:=(hst2.cell (o:=offv+i) hne).trans (hvc.out i hlt)
            have cu2:=hO2.cell (off+i) (by omega)
            have hfree:=hO2.free (off+i)
            have e1:=hh.out.2.2.2.1 i (Nat.le_refl _) (by omega)
            rw [e1] at cu2
            have E1:=Lib.hid e1
            have hs:=scale_step hh.out.1 hc0 hc1 hq0 (by omega)
            have s1:=hs.2.2.1
            have s2:=hs.2.2.2.1
            have s3:=hs.2.2.2.2.1
            have s4:=hs.2.2.2.2.2
            have HS:=Lib.hid hs
            have x0:=dg_nonneg U i
            have x1:=dg_lt U i
            have x2:=dg_nonneg V i
            have x3:=dg_lt V i
            have ecomm:q*dg V i=dg V i*q:=Int.mul_comm _ _
            clear e1 hs
            go_wp2
            all_goals
              have hs:=HS.out
              have hms:=minus_step (a:=U) (b:=V*q+0) hh.out.2.1 hb0 hb1
              go_roundw
              case rel=>
                refine ⟨_,_,i+1,_,rfl,rfl,by go_num,by omega,s1,s2,by omega,by omega,hst2.trans (St.setCell _ _ _ _),hO2.set (by omega) _,hs.2.1,?_,fun j hj=>?_,fun j h1 h2=>?_,fun j hj=>?_⟩
                · have h2:=hms.2
                  rw [hs.1] at h2
                  first | rw [if_pos (by assumption)] at h2 | rw [if_neg (by omega)] at h2
                  exact h2
                · by_cases e:j=i
                  · subst e;rw [upd_same,hms.1,hs.1];omega
                  · rw [upd_other _ _ (by omega)];exact hh.out.2.2.1 j (by omega)
                · rw [upd_other _ _ (by omega)];exact hh.out.2.2.2.1 j (by omega) h2
                · rw [upd_other _ _ (by omega)];exact hh.out.2.2.2.2 j hj
              case measure=>simp [intOf];omega
          · obtain rfl:i=m+2:=by omega
            have cu2:=hO2.cell (off+(m+2)) (by omega)
            have hfree:=hO2.free (off+(m+2))
            have e1:=hh.out.2.2.2.1 (m+2) (Nat.le_refl _) (by omega)
            rw [e1] at cu2
            have ht:=hh.out.2.1
            have hc:=hh.out.1
            rw [hV.top,Int.zero_mul,Int.zero_add] at hc
            have hu2:hi U (m+2)=dg U (m+2):=by have:=hi_split U (m+2);rw [hUt.out] at this;omega
            rw [hc,hu2] at ht
            have x0:=dg_nonneg U (m+2)
            have x1:=dg_lt U (m+2)
            have HT:=Lib.hid ht
            have E1:=Lib.hid e1
            clear e1 hc hu2 ht
            by_cases hneg:0≤dg U (m+2) - br - c
            · go_wp2
              go_ret
              have hV0:=KN.out.2.2.2.2.2
              have hD0:0≤U - V*q:=by
                rcases Int.lt_or_le (U - (V*q+0)) 0 with h | h
                · have:=hi_neg h (m+2);rw [HT.out] at this;omega
                · omega
              have hmd:=mod_of hV0 hD0 FIN.out.2
              refine ⟨?_,hst2.trans (St.setCell _ _ _ _),_,hO2.set (by omega) _,fun i hi0=>?_,fun j hj=>?_⟩
              · rw [← hmd.1];first | rfl | exact congrArg (fun z=>Ending.returned (Value.int .u32 z)) (show q % 4294967296=q by omega)
              · rw [← hmd.2]
                by_cases e:i=m+2
                · subst e;rw [upd_same]
                  have:dg (U - V*q) (m+2)=hi (U - V*q) (m+2) % 4294967296:=rfl
                  have h2:=HT.out
                  rw [Int.add_zero] at h2
                  rw [this,h2];omega
                · rw [upd_other _ _ (by omega)]
                  have:=hh.out.2.2.1 i (by omega)
                  rw [Int.add_zero] at this;exact this
              · rw [upd_other _ _ (by omega)];exact hh.out.2.2.2.2 j hj
            · go_wp2
              have HV0:=Lib.hid KN.out.2.2.2.2.2
              have hstA:=hst2.trans (St.setCell wr bu (off+(m+2)) (.int .u32 ((dg U (m+2) - br - c) % 4294967296)))
              have hOA:=hO2.set (w:=wr) (show off+(m+2)<N by omega) ((dg U (m+2) - br - c) % 4294967296)
              have HE:Hid (∀ i,i<m+3→upd E (off+(m+2)) ((dg U (m+2) - br - c) % 4294967296) (off+i)=dg (U - V*q) i):=by
                intro i hi0
                by_cases e:i=m+2
                · subst e;rw [upd_same]
                  have:dg (U - V*q) (m+2)=hi (U - V*q) (m+2) % 4294967296:=rfl
                  have h2:=HT.out
                  rw [Int.add_zero] at h2
                  rw [this,h2];omega
                · rw [upd_other _ _ (by omega)]
                  have:=hh.out.2.2.1 i (by omega)
                  rw [Int.add_zero] at this;exact this
              have HN:Hid (U - V*q<0):=by
                rcases Int.lt_or_le (U - V*q) 0 with h | h
                · exact h
                · exfalso
                  have h2:=hi_nonneg h (m+2)
                  have h3:=HT.out
                  rw [Int.add_zero] at h3
                  omega
              have HOUT:Hid (∀ j,(j<off∨off+(m+3)≤j)→upd E (off+(m+2)) ((dg U (m+2) - br - c) % 4294967296) j=D j):=by
                intro j hj;rw [upd_other _ _ (by omega)];exact hh.out.2.2.2.2 j hj
              have hq1:1≤q:=by
                have hmb:=mod_of_back HV0.out HN.out FIN.out.1
                have:=KN.out.2.2.2.2.1
                omega
              clear hst2 hO2 hh HT E1 hfree hneg hc0 hc1 hb0 hb1 x0 x1 cu2
              go_loopw [9,139] (fun sc si wz=>∃ (c2:Int) (k:Nat) (F:Nat→Int),sc=.int .u64 c2∧si=.int .i64 k∧k≤m+2∧0≤c2∧c2≤1∧St w wz bu∧Own wz bu N F∧
                Hid (hi (U - V*q+V) k=hi (U - V*q) k+hi V k+c2∧(∀ j,j<k→F (off+j)=dg (U - V*q+V) j)∧(∀ j,k≤j→j<m+3→F (off+j)=dg (U - V*q) j)∧∀ j,(j<off∨off+(m+3)≤j)→F j=D j)) (fun _ si _=>m+2 - (intOf si).toNat)
              case atStart=>exact ⟨0,0,_,rfl,rfl,by omega,by omega,by omega,hstA,hOA,by simp [hi_zero],fun j hj=>by omega,fun j _ hj=>HE.out j hj,HOUT.out⟩
              case round=>
                obtain ⟨c2,k,F,rfl,rfl,hk0,hc0,hc1,hst3,hO3,hh⟩:=hrel
                by_cases hlt:k<m+2
                · have cv2:=(hst3.cell (o:=offv+k) hne).trans (hvc.out k hlt)
                  have cu2:=hO3.cell (off+k) (by omega)
                  have hfree:=hO3.free (off+k)
                  have e1:=hh.out.2.2.1 k (Nat.le_refl _) (by omega)
                  rw [e1] at cu2
                  have HS:=Lib.hid (plus_step hh.out.1 hc0 hc1)
                  have x0:=dg_nonneg (U - V*q) k
                  have x1:=dg_lt (U - V*q) k
                  have x2:=dg_nonneg V k
                  have x3:=dg_lt V k
                  clear e1
                  go_wp2
                  go_roundw
                  case rel=>
                    have hs:=HS.out
                    refine ⟨_,k+1,_,rfl,by go_num,by omega,?_,?_,hst3.trans (St.setCell _ _ _ _),hO3.set (by omega) _,?_,fun j hj=>?_,fun j h1 h2=>?_,fun j hj=>?_⟩
                    · go_num
                    · go_num
                    · rw [hs.2.1];go_num
                    · by_cases e:j=k
                      · subst e;rw [upd_same,hs.1];go_num
                      · rw [upd_other _ _ (by omega)];exact hh.out.2.1 j (by omega)
                    · rw [upd_other _ _ (by omega)];exact hh.out.2.2.1 j (by omega) h2
                    · rw [upd_other _ _ (by omega)];exact hh.out.2.2.2 j hj
                  case measure=>simp [intOf];omega
                · obtain rfl:k=m+2:=by omega
                  have cu2:=hO3.cell (off+(m+2)) (by omega)
                  have hfree:=hO3.free (off+(m+2))
                  have e1:=hh.out.2.2.1 (m+2) (Nat.le_refl _) (by omega)
                  rw [e1] at cu2
                  have HS:=Lib.hid (plus_step0 hh.out.1 hc0 hc1 hV.top)
                  have x0:=dg_nonneg (U - V*q) (m+2)
                  have x1:=dg_lt (U - V*q) (m+2)
                  clear e1
                  go_wp2
                  go_ret
                  have hmd:=mod_of_back HV0.out HN.out FIN.out.1
                  refine ⟨?_,hst3.trans (St.setCell _ _ _ _),_,hO3.set (by omega) _,fun i hi0=>?_,fun j hj=>?_⟩
                  · rw [← hmd.1];first | rfl | exact congrArg (fun z=>Ending.returned (Value.int .u32 z)) (show (q - 1) % 4294967296=q - 1 by omega)
                  · rw [← hmd.2]
                    by_cases e:i=m+2
                    · subst e;rw [upd_same,HS.out.1];go_num
                    · rw [upd_other _ _ (by omega)];exact hh.out.2.1 i (by omega)
                  · rw [upd_other _ _ (by omega)];exact hh.out.2.2.2 j hj
end Go.Proofs.YtepgkcimmdmgcaaGreatDoor
namespace Go.Proofs.YtepgkcimmdmgcaaGreatDoor

theorem bitLenAux_bounds:∀ (f x:Nat),0<x→x<2 ^ f→∃ L,Lib.bitLenAux f x=L+1∧2 ^ L≤x∧x<2 ^ (L+1)
  | 0,x,h0,h1=>by simp at h1;omega
  | f+1,x,h0,h1=>by
    by_cases h:x=1
    · subst h
      refine ⟨0,?_,by simp,by simp⟩
      cases f<;>simp [Lib.bitLenAux]
    · obtain ⟨L,e1,e2,e3⟩:=bitLenAux_bounds f (x/2) (by omega) (by rw [Nat.pow_succ] at h1;omega)
      refine ⟨L+1,?_,by rw [Nat.pow_succ];omega,by rw [Nat.pow_succ];omega⟩
      simp only [Lib.bitLenAux,show ¬ x=0 by omega,if_false,e1];omega
theorem leadz {x:Int} (h0:0<x) (h1:x<4294967296):∃ s:Nat,s<32∧32 - (Lib.bitLen x.toNat:Int)=s∧2147483648≤x*2 ^ s∧x*2 ^ s<4294967296:=by
  obtain ⟨n,rfl⟩:=Int.eq_ofNat_of_zero_le (Int.le_of_lt h0)
  have h4:=Lib.bitLen_le n 32 (by omega) (by omega)
  obtain ⟨L,e1,e2,e3⟩:=bitLenAux_bounds 64 n (by omega) (by omega)
  have e4:Lib.bitLen n=L+1:=e1
  refine ⟨31 - L,by omega,by simp only [Int.toNat_natCast];omega,?_⟩
  have e5:2 ^ L*2 ^ (31 - L)=2147483648:=by rw [← Nat.pow_add,show L+(31 - L)=31 by omega]
  have e6:2 ^ (L+1)*2 ^ (31 - L)=4294967296:=by rw [← Nat.pow_add,show L+1+(31 - L)=32 by omega]
  have p:0<2 ^ (31 - L):=Nat.pow_pos (by omega)
  have e7:=Nat.mul_le_mul_right (2 ^ (31 - L)) e2
  have e8:=Nat.mul_lt_mul_of_pos_right e3 p
  have e9:((n:Int)*2 ^ (31 - L))=((n*2 ^ (31 - L):Nat):Int):=by simp
  rw [e9];omega

theorem hi_mul_bounds (b:Int) {p:Int} (hp:0<p):∀ k,hi b k*p≤hi (b*p) k∧hi (b*p) k<(hi b k+1)*p
  | 0=>by rw [hi_zero,hi_zero,Int.add_mul];omega
  | k+1=>by
    have h:=hi_mul_bounds b hp k
    have hs:=hi_split b k
    have d0:=dg_nonneg b k
    have d1:=dg_lt b k
    rw [hi_succ (b*p)]
    have e1:hi b k*p=4294967296*(hi b (k+1)*p)+dg b k*p:=by rw [hs];grind
    have e2:(hi b k+1)*p=4294967296*(hi b (k+1)*p)+(dg b k+1)*p:=by rw [hs];grind
    have e3:(hi b (k+1)+1)*p=hi b (k+1)*p+p:=by grind
    have e4:0≤dg b k*p:=Int.mul_nonneg d0 (by omega)
    have e5:(dg b k+1)*p≤4294967296*p:=Int.mul_le_mul_of_nonneg_right (by omega) (by omega)
    rw [e1,e2] at h
    rw [e3]
    omega
/-- the divisor,its top digit made great -/
theorem norm_nl {b:Int} {m s:Nat} (hb:NL b (m+1)) (h1:2147483648≤dg b m*2 ^ s) (h2:dg b m*2 ^ s<4294967296) (hs:s<32):NL (b*2 ^ s) (m+1)∧2147483648≤dg (b*2 ^ s) m:=by
  have hp:(0:Int)<2 ^ s:=Int.pow_pos (by omega)
  have ht:=hb.topdig (by omega)
  simp only [Nat.add_sub_cancel] at ht
  have h3:=hi_mul_bounds b hp m
  rw [← ht.1] at h3
  obtain ⟨hp1,_,hp3⟩:=pow_split hs
  have h4:(dg b m+1)*2 ^ s≤4294967296:=by
    rw [← hp1,Int.mul_comm (2 ^ s)] at h2
    have h5:=Int.lt_of_mul_lt_mul_right h2 (Int.le_of_lt hp)
    rw [← hp1,Int.mul_comm (2 ^ s)]
    exact Int.mul_le_mul_of_nonneg_right (by omega) (Int.le_of_lt hp)
  have h6:hi (b*2 ^ s) (m+1)=0:=by rw [hi_succ];omega
  have h7:=hi_split (b*2 ^ s) m
  rw [h6] at h7
  exact ⟨⟨Int.mul_nonneg hb.nonneg (by omega),h6,fun _=>by simp only [Nat.add_sub_cancel];omega⟩,by omega⟩
theorem NL.uniq {n:Int} {k m:Nat} (h:NL n k) (g:NL n m):k=m:=by
  rcases Nat.lt_trichotomy k m with e | e | e
  · exact absurd (hi_ge h.top (by omega)) (g.full (by omega))
  · exact e
  · exact absurd (hi_ge g.top (by omega)) (h.full (by omega))
/-- the window of the rest,one digit further down -/
def win (U V:Int) (i:Nat):Int:=hi U (i+1) % V*4294967296+dg U i
theorem win_hi (U V:Int) (i:Nat):hi (win U V i) 1=hi U (i+1) % V:=by
  have d0:=dg_nonneg U i
  have d1:=dg_lt U i
  unfold win
  rw [hi_succ,hi_zero];omega
theorem win_dg0 (U V:Int) (i:Nat):dg (win U V i) 0=dg U i:=by
  have d0:=dg_nonneg U i
  have d1:=dg_lt U i
  have:dg (win U V i) 0=win U V i % 4294967296:=rfl
  rw [this];unfold win;omega
theorem win_dgs (U V:Int) (i k:Nat):dg (win U V i) (k+1)=dg (hi U (i+1) % V) k:=by
  unfold dg
  rw [Nat.add_comm k 1,hi_add,win_hi]
theorem win_lt (U:Int) {V:Int} (hV:0<V) (i:Nat):win U V i<V*4294967296∧0≤win U V i:=by
  have d0:=dg_nonneg U i
  have d1:=dg_lt U i
  have h1:=Int.emod_nonneg (hi U (i+1)) (show V≠0 by omega)
  have h2:=Int.emod_lt_of_pos (hi U (i+1)) hV
  unfold win;omega
theorem win_top (U:Int) {V:Int} {n:Nat} (hV:0<V) (hn:hi V n=0) (i:Nat):hi (win U V i) (n+1)=0:=by
  have h1:=Int.emod_nonneg (hi U (i+1)) (show V≠0 by omega)
  have h2:=Int.emod_lt_of_pos (hi U (i+1)) hV
  rw [Nat.add_comm,hi_add,win_hi]
  have h3:=hi_mono (Int.le_of_lt h2) n
  have h4:=hi_nonneg h1 n
  omega
theorem win_div (U:Int) {V:Int} (hV:0<V) (i:Nat):win U V i/V=dg (U/V) i∧win U V i % V=hi U i % V:=by
  have hs:=hi_split U i
  have hd0:=dg_nonneg U i
  have hd:=dg_lt U i
  have hlt:=win_lt U hV i
  have e1:hi U i=win U V i+V*(4294967296*(hi U (i+1)/V)):=by
    have:=Int.emod_add_mul_ediv (hi U (i+1)) V
    unfold win;rw [hs];grind
  have e2:hi (U/V) i=win U V i/V+4294967296*(hi U (i+1)/V):=by
    rw [hi_div U V hV,e1,Int.add_mul_ediv_left _ _ (show V≠0 by omega)]
  have h4:win U V i/V<4294967296:=Int.ediv_lt_of_lt_mul hV (by rw [Int.mul_comm];exact hlt.1)
  have h5:0≤win U V i/V:=Int.ediv_nonneg hlt.2 (by omega)
  have hdd:dg (U/V) i=hi (U/V) i % 4294967296:=rfl
  refine ⟨by rw [hdd,e2];omega,?_⟩
  rw [e1,Int.add_mul_emod_self_left]
/-- the first window -/
theorem first_lt {a b p:Int} {q m:Nat} (ha:hi a (q+(m+1))=0) (hb:NL b (m+1)) (hp:0<p):hi (a*p) (q+1)<b*p:=by
  have hbt:=hb.full (by omega)
  simp only [Nat.add_sub_cancel] at hbt
  have hb1:=hi_nonneg hb.nonneg m
  have h2:=(hi_mul_bounds a hp (q+1)).2
  have h3:hi a (q+1)<b:=by
    rcases Int.lt_or_le (hi a (q+1)) b with h | h
    · exact h
    · have h4:=hi_mono h m
      rw [← hi_add,show q+1+m=q+(m+1) by omega,ha] at h4
      omega
  have h5:(hi a (q+1)+1)*p≤b*p:=Int.mul_le_mul_of_nonneg_right (by omega) (by omega)
  omega
end Go.Proofs.YtepgkcimmdmgcaaGreatDoor
namespace Go.Proofs.YtepgkcimmdmgcaaGreatDoor
open Go.RowKit

theorem Own.st {w w':World} {b c n:Nat} {d:Nat→Int} (h:Own w c n d) (hs:St w w' b) (hc:c≠b):Own w' c n d:=by
  obtain ⟨cs,hb,hr⟩:=h.raw
  exact ⟨cs,by rw [hs.block c hc];exact hb,hr⟩
theorem dg_top {n:Int} {k j:Nat} (h:hi n k=0) (hj:k≤j):dg n j=0:=by
  have:dg n j=hi n j % 4294967296:=rfl
  rw [this,hi_ge h hj];rfl

set_option maxRecDepth 100000 in
set_option maxHeartbeats 1000000 in
theorem divide_c (ao bo:Option Addr) (la lb ca cb:Nat) (a b:Int) (w:World) (hla:la≤1000000) (hlb:lb≤1000000) (ha:Mag w ao la ca a) (hb:Mag w bo lb cb b) (hb0:0<b):
    Calls Tryz.prog 138 #[.slice ao la ca,.slice bo lb cb] w fun e w'=>
      (∃ qo qk qc ro rk rc,e=.returned (.tuple #[.slice qo qk qc,.slice ro rk rc])∧Mag w' qo qk qc (a/b)∧Mag w' ro rk rc (a % b))∧Gr w w':=by
  have a0:=ha.nl.nonneg
  rcases Int.lt_or_le a b with hab | hab
  · go_enter Tryz.func138,Tryz.ntmps138
    go_wp2_with fail
    refine (order_c ao bo la lb ca cb a b _ (by omega) (by omega) ha hb).mono ?_
    rintro e w1 ⟨rfl,hG⟩
    rw [sgn_neg (show a - b<0 by omega)]
    go_wp2
    go_ret2
    exact ⟨⟨_,_,_,_,_,_,rfl,by rw [Int.ediv_eq_zero_of_lt a0 hab];exact ⟨Nat.le_refl _,NL.zero,Row.nil _ _ _⟩,by rw [Int.emod_eq_of_lt a0 hab];exact ha.below hG⟩,hG⟩
  · have hd1:decide (sgn (a - b)<0)=false:=by
      unfold sgn;rw [if_neg (by omega)];split<;>rfl
    have hlb0:0<lb:=by
      rcases Nat.eq_zero_or_pos lb with h | h
      · have:=hb.nl.len_zero.1 h;omega
      · exact h
    by_cases hl1:lb=1
    · subst hl1
      obtain ⟨b1,off1,rfl,hcs⟩:=hb.row.at_ (by omega)
      have e0:dg b 0=b:=by
        have h1:=hb.nl.top
        have h2:=hi_split b 0
        rw [h1,hi_zero] at h2;omega
      have hc:=hcs 0 (by omega)
      rw [e0,Nat.add_zero] at hc
      have hb1:b<4294967296:=by have:=dg_lt b 0;omega
      go_enter Tryz.func138,Tryz.ntmps138
      go_wp2_with fail
      refine (order_c ao _ la 1 ca cb a b _ (by omega) (by omega) ha hb).mono ?_
      rintro e w1 ⟨rfl,hG⟩
      have hc1:=((bcell hG).1 b1 off1 (World.block_lt_of_cell? w _ hc)).trans hc
      go_wp2_with fail
      refine (short_c ao la ca a b _ (by omega) (ha.below hG) hb0 hb1).mono ?_
      rintro e w2 ⟨⟨go,k,cap,rfl,hm⟩,hG2⟩
      have hG3:Gr w w2:=Gr.trans hG hG2
      go_wp2_with fail
      have m0:=Int.emod_nonneg a (show b≠0 by omega)
      have m1:=Int.emod_lt_of_pos a hb0
      have hd0:dg (a % b) 0=a % b:=by
        have:dg (a % b) 0=a % b % 4294967296:=rfl
        rw [this];omega
      have hh1:hi (a % b) 1=0:=by rw [hi_succ,hi_zero];omega
      have hfr:=alloc1_facts w2 (.cells #[.int .u32 (a % b)] 145)
      have hrow:Row (w2.alloc (.cells #[.int .u32 (a % b)] 145)) (some ⟨w2.heap.size,0,none⟩) 1 (dg (a % b)):=
        ⟨fun _ => ⟨_, 0, _, _, rfl, hfr.2.1, fun i hi0 => by obtain rfl : i = 0 := by omega
                                                             rw [hd0];rfl⟩⟩
      refine (trim_c _ 1 1 (a % b) _ (by omega) (by omega) m0 hh1 hrow).mono ?_
      rintro e w3 ⟨⟨k2,rfl,hm2,hk2⟩,rfl⟩
      go_wp2
      go_ret2
      exact ⟨⟨_,_,_,_,_,_,rfl,hm.below hfr.1,hm2⟩,hG3.trans hfr.1⟩
    · obtain ⟨m,rfl⟩:∃ m,lb=m+2:=⟨lb - 2,by omega⟩
      have hge:m+2≤la:=by
        rcases Nat.lt_or_ge la (m+2) with h | h
        · exfalso
          have h1:=hi_mono hab (m+1)
          have h2:=hi_ge ha.nl.top (show la≤m+1 by omega)
          have h3:=hb.nl.full (by omega)
          simp only [show m+2 - 1=m+1 from rfl] at h3
          have h4:=hi_nonneg hb.nl.nonneg (m+1)
          omega
        · exact h
      obtain ⟨q,rfl⟩:∃ q,la=q+(m+2):=⟨la - (m+2),by omega⟩
      obtain ⟨b1,off1,rfl,hcs⟩:=hb.row.at_ (by omega)
      have hc:=hcs (m+1) (by omega)
      have t0:0<dg b (m+1):=(hb.nl.topdig (by omega)).2
      have t1:=dg_lt b (m+1)
      obtain ⟨s,hs0,hs1,hs2,hs3⟩:=leadz t0 t1
      have hp:(0:Int)<2 ^ s:=Int.pow_pos (by omega)
      obtain ⟨hV,hnorm⟩:=norm_nl hb.nl hs2 hs3 hs0
      have hV0:0<b*2 ^ s:=Int.mul_pos hb0 hp
      have hne:((m+2:Nat):Int)≠1:=by omega
      have hd2:(((m+2:Nat):Int)==1)=false:=by simpa using hne
      clear hcs
      go_enter Tryz.func138,Tryz.ntmps138
      go_wp2_with fail
      refine (order_c ao _ _ _ ca cb a b _ (by omega) (by omega) ha hb).mono ?_
      rintro e w1 ⟨rfl,hG⟩
      have hc1:=((bcell hG).1 b1 (off1+(m+1)) (World.block_lt_of_cell? w _ hc)).trans hc
      go_wp2_with fail
      refine (Tryz.bits_LeadingZeros32 (dg b (m+1)) _ (by omega) (by omega)).mono ?_
      rintro e w1x ⟨rfl,rfl⟩
      rw [hs1]
      go_wp2_with fail
      refine (raised_c ao _ ca a s _ (by omega) (ha.below hG) hs0).mono ?_
      rintro e w2 ⟨⟨gu,rfl,hgu,hOu,htu⟩,hG2⟩
      have hG12:=Gr.trans hG hG2
      go_wp2_with fail
      refine (raised_c _ _ cb b s _ (by omega) (hb.below hG12) hs0).mono ?_
      rintro e w3 ⟨⟨gv,rfl,hgv,hOv,htv⟩,hG3⟩
      have hG13:=Gr.trans hG12 hG3
      have hltu:=hOu.lt
      have hltv:=hOv.lt
      have hOu3:=hOu.gr hG3
      go_wp2_with fail
      refine (trim_c _ (m+2+1) (m+2+1) (b*2 ^ s) _ (by omega) (by omega) hV.nonneg htv hOv.row).mono ?_
      rintro e w4 ⟨⟨k,rfl,hMv,hk⟩,rfl⟩
      obtain rfl:k=m+2:=hMv.nl.uniq hV
      go_wp2_with (at_make;refine wpList_make32 _ rfl _ _ rfl _ _ (q+1) rfl rfl ?h1 ?h2 (by omega) ?_)
      case h1=>omega
      case h2=>omega
      intro w5 hOq hB5 hsz
      have hOu5:=hOu3.below hB5
      have hOv5:=hOv.below hB5
      have hG15:Gr w w5:=Gr.trans hG13 hB5
      have hs1':=hG.size
      have hs2':=hG2.size
      go_wp2
      have hlq:hi (a*2 ^ s) (q+1)<b*2 ^ s:=first_lt (m:=m+1) ha.nl.top hb.nl hp
      have hlq0:0≤hi (a*2 ^ s) (q+1):=hi_nonneg (Int.mul_nonneg a0 (by omega)) _
      have hbase:w.heap.size≤w3.heap.size:=hG13.size
      have hugv:gu≠gv:=by omega
      have huq:gu≠w3.heap.size:=by have:=hG3.size;omega
      have hvq:gv≠w3.heap.size:=by omega
      have HP:=Lib.hid (And.intro hp (And.intro hV0 (And.intro hlq hlq0)))
      clear hp hlq hlq0
      have hQd:(a*2 ^ s)/(b*2 ^ s)=a/b:=Int.mul_ediv_mul_of_pos_left _ _ HP.out.1
      have hRd:(a*2 ^ s) % (b*2 ^ s)=a % b*2 ^ s:=by rw [Int.mul_comm a,Int.mul_comm b,Int.mul_emod_mul_of_pos _ _ HP.out.1,Int.mul_comm]
      have HQ:=Lib.hid (And.intro hQd hRd)
      clear hQd hRd
      clear hV0 hs2 hs3 hsz
      have hU0:0≤a*2 ^ s:=Int.mul_nonneg a0 (Int.le_of_lt HP.out.1)
      generalize hUU:a*2 ^ s=U at*
      generalize hVV:b*2 ^ s=V at*
      generalize hgq:w3.heap.size=gq at*
      go_loopw [11] (fun i wr=>∃ (k:Nat) (d E:Nat→Int),i=.int .i64 ((k:Int) - 1)∧k≤q+1∧Own wr gu (q+(m+2)+1) E∧Own wr gv (m+2+1) (dg V)∧Own wr gq (q+1) d∧Gr w wr∧
        Hid ((∀ j,j<k→E j=dg U j)∧(∀ j,k+j<q+(m+2)+1→E (k+j)=dg (hi U k % V) j)∧∀ j,k≤j→j<q+1→d j=dg (U/V) j)) (fun i _=>(intOf i+1).toNat)
      case atStart=>
        refine ⟨q+1,_,_,by go_num,Nat.le_refl _,hOu5,hOv5,hOq,hG15,fun j _=>rfl,fun j hj=>?_,fun j h1 h2=>by omega⟩
        rw [Int.emod_eq_of_lt HP.out.2.2.2 HP.out.2.2.1]
        unfold dg
        rw [hi_add]
      case round=>
        obtain ⟨k,d,E,rfl,hk,hOu,hOv,hOq,hGr,hh⟩:=hrel
        by_cases hpos:0<k
        · obtain ⟨j,rfl⟩:∃ j,k=j+1:=⟨k - 1,by omega⟩
          have e1:(((j+1:Nat):Int) - 1)=(j:Int):=by omega
          simp only [e1]
          have hfree:=hOq.free j
          have hcq:=hOq.cell j (by omega)
          clear e1
          go_wp2_with fail
          rw [show j+(m+2)+1 - j=m+3 by omega]
          refine (digit_c gu j _ gv 0 _ m (q+(m+2)+1) E (win U V j) V _ (by omega) (by omega) (by omega) hOu ?g1 ?g2 ?g3 hV ?g4 (Ne.symm hugv) hnorm ?g5).mono ?_
          case g1=>
            intro i hi0
            cases i with
            | zero=>rw [win_dg0];exact hh.out.1 j (by omega)
            | succ i=>rw [win_dgs,show j+(i+1)=j+1+i by omega];exact hh.out.2.1 i (by omega)
          case g2=>exact (win_lt U HP.out.2.1 j).2
          case g3=>exact win_top U HP.out.2.1 hV.top j
          case g4=>intro i hi0;rw [Nat.zero_add];exact hOv.cell i (by omega)
          case g5=>exact (win_lt U HP.out.2.1 j).1
          rintro e w6 ⟨rfl,hst,D',hOu6,hw1,hw2⟩
          rw [(win_div U HP.out.2.1 j).1]
          have hOv6:=hOv.st hst (Ne.symm hugv)
          have hOq6:=hOq.st hst (Ne.symm huq)
          have hGr6:=hst.gr hGr (by omega)
          have hfree:=hOq6.free j
          have hcq:=hOq6.cell j (by omega)
          have hw3:=(win_div U HP.out.2.1 j).2
          rw [hw3] at hw1
          have HW:=Lib.hid (And.intro hw1 hw2)
          clear hw1 hw2 hw3
          go_wp2
          go_roundw
          case rel=>
            refine ⟨j,_,D',rfl,by omega,hOu6.st (St.setCell _ _ _ _) huq,hOv6.st (St.setCell _ _ _ _) hvq,hOq6.set (by omega) _,(St.setCell _ _ _ _).gr hGr6 (by omega),fun i hi0=>?_,fun i hi0=>?_,fun i h1 h2=>?_⟩
            · rw [HW.out.2 i (by omega)];exact hh.out.1 i (by omega)
            · by_cases hi1:i<m+3
              · exact HW.out.1 i hi1
              · have z1:dg (hi U j % V) i=0:=dg_top (k:=m+2) (by
                  have h1:=Int.emod_nonneg (hi U j) (show V≠0 by have:=HP.out.2.1;omega)
                  have h2:=Int.emod_lt_of_pos (hi U j) HP.out.2.1
                  have h3:=hi_mono (Int.le_of_lt h2) (m+2)
                  have h4:=hi_nonneg h1 (m+2)
                  rw [hV.top] at h3
                  exact Int.le_antisymm h3 h4) (by omega)
                have z2:dg (hi U (j+1) % V) (i - 1)=0:=dg_top (k:=m+2) (by
                  have h1:=Int.emod_nonneg (hi U (j+1)) (show V≠0 by have:=HP.out.2.1;omega)
                  have h2:=Int.emod_lt_of_pos (hi U (j+1)) HP.out.2.1
                  have h3:=hi_mono (Int.le_of_lt h2) (m+2)
                  have h4:=hi_nonneg h1 (m+2)
                  rw [hV.top] at h3
                  exact Int.le_antisymm h3 h4) (by omega)
                rw [z1,HW.out.2 (j+i) (by omega),← z2,show j+i=j+1+(i - 1) by omega]
                exact hh.out.2.1 (i - 1) (by omega)
            · by_cases e:i=j
              · subst e;rw [upd_same]
              · rw [upd_other _ _ e];exact hh.out.2.2 i (by omega) h2
          case measure=>simp [intOf];try omega
        · obtain rfl:k=0:=by omega
          have hV1:=HP.out.2.1
          have m0:=Int.emod_nonneg U (show V≠0 by omega)
          have m1:U % V≤U:=by
            have h1:=Int.emod_add_mul_ediv U V
            have h2:0≤V*(U/V):=Int.mul_nonneg (by omega) (Int.ediv_nonneg hU0 (by omega))
            omega
          have q0:0≤U/V:=Int.ediv_nonneg hU0 (by omega)
          have q1:hi (U/V) (q+1)=0:=by
            rw [hi_div U V hV1]
            exact Int.ediv_eq_zero_of_lt HP.out.2.2.2 HP.out.2.2.1
          have m2:hi (U % V) (q+(m+2)+1)=0:=by
            have h1:=hi_mono m1 (q+(m+2)+1)
            have h2:=hi_nonneg m0 (q+(m+2)+1)
            omega
          go_wp2_with fail
          refine (trim_c _ (q+1) (q+1) (U/V) _ (by omega) (by omega) q0 q1 (hOq.congr (fun i hi0=>hh.out.2.2 i (by omega) hi0)).row).mono ?_
          rintro e w6 ⟨⟨k1,rfl,hM1,hk1⟩,rfl⟩
          go_wp2_with fail
          refine (trim_c _ (q+(m+2)+1) (q+(m+2)+1) (U % V) _ (by omega) (by omega) m0 m2 (hOu.congr (fun i hi0=>by
            have:=hh.out.2.1 i (by omega)
            rw [Nat.zero_add,hi_zero] at this;exact this)).row).mono ?_
          rintro e w6 ⟨⟨k2,rfl,hM2,hk2⟩,rfl⟩
          go_wp2_with fail
          refine (lowered_c _ k2 _ (U % V) s _ (by omega) hM2 hs0).mono ?_
          rintro e w7 ⟨⟨go,k3,cap,rfl,hM3⟩,hG7⟩
          go_wp2
          go_ret2
          rw [HQ.out.1] at hM1
          rw [HQ.out.2,Int.mul_ediv_cancel _ (show (2:Int) ^ s≠0 by have:=HP.out.1;omega)] at hM3
          exact ⟨⟨_,_,_,_,_,_,rfl,hM1.below hG7,hM3⟩,Gr.trans hGr hG7⟩
theorem divide_m {w:World} {ao bo:Option Addr} {la lb ca cb:Nat} {a b:Int} (ha:Mag w ao la ca a) (hb:Mag w bo lb cb b) (hla:la≤1000000) (hlb:lb≤1000000) (hb0:0<b):
    Calls Tryz.prog 138 #[.slice ao la ca,.slice bo lb cb] w fun e w'=>
      (∃ qo qk qc ro rk rc,e=.returned (.tuple #[.slice qo qk qc,.slice ro rk rc])∧Mag w' qo qk qc (a/b)∧Mag w' ro rk rc (a % b))∧Gr w w':=divide_c ao bo la lb ca cb a b w hla hlb ha hb hb0
theorem signed_z {neg:Bool} {ao:Option Addr} {len cap:Nat} {n Z:Int} {K:Nat} {w:World} (h:Mag w ao len cap n) (hn:n=(Z.natAbs:Int)) (hs:0<n→neg=decide (Z<0)) (hz:Sz K Z) (hK:K≤1000000):
    Calls Tryz.prog 108 #[.bool neg,.slice ao len cap] w fun e w'=>(∃ x y,e=.returned (.agg #[x,y])∧IsInt w' K x y Z)∧Gr w w':=by
  have hl:len≤K:=h.nl.len_sz (by rw [hn];exact hz.nat)
  refine (signed_c neg ao len cap n w (by omega) h.cap h.nl.nonneg h.nl.top h.row).mono ?_
  rintro e w1 ⟨⟨k,he,hm,_⟩,hB⟩
  exact ⟨⟨_,_,he,IsInt.mk' (hm.below hB) hn hs hz⟩,hB⟩
theorem signed_pf {ao:Option Addr} {len cap:Nat} {n:Int} {K:Nat} {w:World} (h:Mag w ao len cap n) (hn:0<n) (hz:Sz K n) (hK:K≤1000000):
    Calls Tryz.prog 108 #[.bool false,.slice ao len cap] w fun e w'=>(∃ k,e=.returned (.agg #[.bool false,.slice ao k cap])∧IsInt w' K (.bool false) (.slice ao k cap) n)∧Gr w w':=by
  have hl:len≤K:=h.nl.len_sz hz
  refine (signed_c false ao len cap n w (by omega) h.cap h.nl.nonneg h.nl.top h.row).mono ?_
  rintro e w1 ⟨⟨k,he,hm,_⟩,hB⟩
  refine ⟨⟨k,he,?_⟩,hB⟩
  exact IsInt.mk' (s:=false) (hm.below hB) (by omega) (fun _=>by simp;omega) hz
theorem signed_pt {ao:Option Addr} {len cap:Nat} {n:Int} {K:Nat} {w:World} (h:Mag w ao len cap n) (hn:0<n) (hz:Sz K n) (hK:K≤1000000):
    Calls Tryz.prog 108 #[.bool true,.slice ao len cap] w fun e w'=>(∃ k,e=.returned (.agg #[.bool true,.slice ao k cap])∧IsInt w' K (.bool true) (.slice ao k cap) (-n))∧Gr w w':=by
  have hl:len≤K:=h.nl.len_sz hz
  refine (signed_c true ao len cap n w (by omega) h.cap h.nl.nonneg h.nl.top h.row).mono ?_
  rintro e w1 ⟨⟨k,he,hm,_⟩,hB⟩
  have hm':=hm.below hB
  have hk:decide (0<k)=true:=by
    rw [decide_eq_true_eq]
    rcases Nat.eq_zero_or_pos k with h0 | h0
    · have:=hm.nl.len_zero.1 h0;omega
    · exact h0
  rw [hk] at he
  have:=IsInt.mk' (s:=true) hm' (z:=-n) (by omega) (fun _=>by simp;omega) hz.neg
  rw [hk] at this
  exact ⟨⟨k,he,this⟩,hB⟩
theorem sign_zero {k:Nat} {x y:Value} {w:World} (hz:IsInt w k x y 0):
    Calls Tryz.prog 75 #[.agg #[x,y]] w fun e w'=>e=.returned (.int .i64 0)∧Gr w w':=sign_i hz
theorem sign_pos {k:Nat} {x y:Value} {z:Int} {w:World} (hz:IsInt w k x y z) (h:0<z):
    Calls Tryz.prog 75 #[.agg #[x,y]] w fun e w'=>e=.returned (.int .i64 1)∧Gr w w':=by
  have:=sign_i hz
  rw [sgn_pos h] at this
  exact this
theorem sign_neg {k:Nat} {x y:Value} {z:Int} {w:World} (hz:IsInt w k x y z) (h:z<0):
    Calls Tryz.prog 75 #[.agg #[x,y]] w fun e w'=>e=.returned (.int .i64 (-1))∧Gr w w':=by
  have:=sign_i hz
  rw [sgn_neg h] at this
  exact this
theorem IsInt.resz {w:World} {k m:Nat} {x y:Value} {z:Int} (h:IsInt w k x y z) (hz:Sz m z):IsInt w m x y z:=by
  obtain ⟨ao,len,cap,h1,h2,h3,h4⟩:=h
  exact ⟨ao,len,cap,h1,h2,h3,hz⟩
theorem IsInt.len {w:World} {k:Nat} {x:Value} {ao:Option Addr} {len cap:Nat} {z:Int} (h:IsInt w k x (.slice ao len cap) z):len≤k:=by
  obtain ⟨ao',len',cap',h1,h2,h3,h4⟩:=h
  simp only [Value.slice.injEq] at h2
  obtain ⟨rfl,rfl,rfl⟩:=h2
  exact h3.nl.len_sz h4.nat

theorem Sz.i64 {z:Int} (h0:-9223372036854775808≤z) (h1:z≤9223372036854775807):Sz 64 z:=by unfold Sz;omega

set_option maxRecDepth 100000 in
set_option maxHeartbeats 1000000 in
theorem from_i (z:Int) (h0:-9223372036854775808≤z) (h1:z≤9223372036854775807) (w:World):
    Calls Tryz.prog 96 #[.int .i64 z] w fun e w'=>(∃ x y,e=.returned (.agg #[x,y])∧IsInt w' 64 x y z)∧Gr w w':=by
  have key:∀ (w1:World) (c0 c1:Int),c0=(z.natAbs:Int) % 4294967296→c1=(z.natAbs:Int)/4294967296→Row (w1.alloc (.cells #[.int .u32 c0,.int .u32 c1] 145)) (some ⟨w1.heap.size,0,none⟩) 2 (dg (z.natAbs:Int)):=by
    rintro w1 _ _ rfl rfl
    refine ⟨fun _=>⟨_,0,_,_,rfl,(alloc1_facts _ _).2.1,fun i hi0=>?_⟩⟩
    have e0:dg (z.natAbs:Int) 0=(z.natAbs:Int) % 4294967296:=rfl
    have e1:dg (z.natAbs:Int) 1=(z.natAbs:Int)/4294967296:=by
      have:dg (z.natAbs:Int) 1=(z.natAbs:Int)/4294967296 % 4294967296:=rfl
      rw [this];omega
    rcases i with _ | _ | i
    · rw [e0];rfl
    · rw [e1];rfl
    · omega
  have ht:hi (z.natAbs:Int) 2=0:=by rw [hi_succ,hi_succ,hi_zero];omega
  have ew:z<0→IntKind.u64.wrap (-IntKind.u64.wrap z)=(z.natAbs:Int):=by
    intro h
    rw [IntKind.wrap_u64,IntKind.wrap_u64];omega
  by_cases hn:z<0
  · have hd:decide (z<0)=true:=by simpa using hn
    have ew':=Lib.hid (ew hn)
    clear ew
    go_enter Tryz.func96,Tryz.ntmps96
    go_wp2_with fail
    refine (signed_c true _ 2 2 (z.natAbs:Int) _ (by omega) (by omega) (by omega) ht ?g1).mono ?_
    case g1=>
      refine cast ?_ (key (w.alloc (.cells #[.bool false,.slice none 0 0] 69)) _ _ rfl rfl)
      rw [ew'.out]
      have:(z.natAbs:Int)/4294967296 % 4294967296=(z.natAbs:Int)/4294967296:=by omega
      rw [this]
      simp
    rintro e w1 ⟨⟨k,rfl,hm,hk⟩,hB⟩
    obtain ⟨g0,f0,f1,fs⟩:=alloc2_facts w (.cells #[.bool false,.slice none 0 0] 69) (.cells #[.int .u32 (IntKind.u64.wrap (-IntKind.u64.wrap z) % 4294967296),.int .u32 (IntKind.u64.wrap (-IntKind.u64.wrap z)/4294967296 % 4294967296)] 145)
    have p3:=Gr.heap hB f0
    have d0:=cells_of p3 0
    have d1:=cells_of p3 1
    have d2:=free_of p3
    have hw3:Gr w w1:=Gr.trans g0 hB
    have hMM:=hm.kp (Gr.kp hB)
    clear f0 f1 fs hB g0
    go_wp2
    have p4:=heap_setCell_at (i:=1) (.slice (some ⟨w.heap.size+1,0,none⟩) k 2) (heap_setCell_at (i:=0) (.bool (true&&decide (0<k))) p3)
    have hst:=(St.setCell w1 w.heap.size 0 (.bool (true&&decide (0<k)))).trans (St.setCell _ w.heap.size 1 (.slice (some ⟨w.heap.size+1,0,none⟩) k 2))
    exact bodyPost_ret (v:=.agg #[.bool (true&&decide (0<k)),.slice (some ⟨w.heap.size+1,0,none⟩) k 2]) (ret_cell _ _ _ rfl rfl p4 (by kernel_rfl)) rfl ⟨⟨_,_,rfl,IsInt.mk' (s:=true) (hMM.kp (hst.kp p3 (by decide))) rfl (fun _=>by simp;omega) (Sz.i64 h0 h1)⟩,hst.gr hw3 (Nat.le_refl _)⟩
  · have hd:decide (z<0)=false:=by simpa using hn
    clear ew
    go_enter Tryz.func96,Tryz.ntmps96
    go_wp2_with fail
    refine (signed_c false _ 2 2 (z.natAbs:Int) _ (by omega) (by omega) (by omega) ht ?g1).mono ?_
    case g1=>
      refine cast ?_ (key (w.alloc (.cells #[.bool false,.slice none 0 0] 69)) _ _ rfl rfl)
      have:(z.natAbs:Int)=z:=by omega
      rw [this]
      simp
    rintro e w1 ⟨⟨k,rfl,hm,hk⟩,hB⟩
    obtain ⟨g0,f0,f1,fs⟩:=alloc2_facts w (.cells #[.bool false,.slice none 0 0] 69) (.cells #[.int .u32 (z % 4294967296),.int .u32 (z/4294967296)] 145)
    have p3:=Gr.heap hB f0
    have d0:=cells_of p3 0
    have d1:=cells_of p3 1
    have d2:=free_of p3
    have hw3:Gr w w1:=Gr.trans g0 hB
    have hMM:=hm.kp (Gr.kp hB)
    clear f0 f1 fs hB g0
    go_wp2
    have p4:=heap_setCell_at (i:=1) (.slice (some ⟨w.heap.size+1,0,none⟩) k 2) (heap_setCell_at (i:=0) (.bool (false&&decide (0<k))) p3)
    have hst:=(St.setCell w1 w.heap.size 0 (.bool (false&&decide (0<k)))).trans (St.setCell _ w.heap.size 1 (.slice (some ⟨w.heap.size+1,0,none⟩) k 2))
    exact bodyPost_ret (v:=.agg #[.bool (false&&decide (0<k)),.slice (some ⟨w.heap.size+1,0,none⟩) k 2]) (ret_cell _ _ _ rfl rfl p4 (by kernel_rfl)) rfl ⟨⟨_,_,rfl,IsInt.mk' (s:=false) (hMM.kp (hst.kp p3 (by decide))) rfl (fun _=>by simp;omega) (Sz.i64 h0 h1)⟩,hst.gr hw3 (Nat.le_refl _)⟩

theorem Mag.uniq {w:World} {p:Option Addr} {l c:Nat} {a b:Int} (h:Mag w p l c a) (g:Mag w p l c b):a=b:=by
  refine eq_of_dg l h.nl.top g.nl.top fun i hi=>?_
  obtain ⟨b1,o1,e1,h1⟩:=h.row.at_ (by omega)
  obtain ⟨b2,o2,e2,h2⟩:=g.row.at_ (by omega)
  rw [e1] at e2
  simp only [Option.some.injEq,Addr.mk.injEq] at e2
  obtain ⟨rfl,rfl,_⟩:=e2
  have:=(h1 i hi).symm.trans (h2 i hi)
  simpa using this
open Classical in
/-- the number that a slice of digits holds -/
noncomputable def magOf (v:Value) (w:World):Nat:=
  match v with
  | .slice p l c=>if h:∃ n:Nat,Mag w p l c (n:Int) then Classical.choose h else 0
  | _=>0
theorem magOf_eq {w:World} {p:Option Addr} {l c n:Nat} (h:Mag w p l c (n:Int)):magOf (.slice p l c) w=n:=by
  have hex:∃ n:Nat,Mag w p l c (n:Int):=⟨n,h⟩
  simp only [magOf]
  rw [dif_pos hex]
  have:=(Classical.choose_spec hex).uniq h
  omega

theorem sz_gcd {k m:Nat} {z u:Int} (hz:Sz k z) (hu:Sz m u):Sz (k+m) (Int.gcd z u:Int):=by
  by_cases h:z=0
  · subst h
    rw [Int.gcd_zero_left]
    exact hu.nat.mono (by omega)
  · have h1:Int.gcd z u≤z.natAbs:=Nat.gcd_le_left _ (by omega)
    exact Sz.of_le (hz.nat.mono (show k≤k+m by omega)) (by simp only [Int.natAbs_natCast];exact h1)

set_option maxRecDepth 100000 in
set_option maxHeartbeats 1000000 in
theorem gcd_i {k m:Nat} {x y x2 y2:Value} {z u:Int} {w:World} (hz:IsInt w k x y z) (hu:IsInt w m x2 y2 u) (hk:k+m≤1000000):
    Calls Tryz.prog 109 #[.agg #[x,y],.agg #[x2,y2]] w fun e w'=>(∃ x' y',e=.returned (.agg #[x',y'])∧IsInt w' (k+m) x' y' (Int.gcd z u))∧Gr w w':=by
  obtain ⟨ao,la,ca,rfl,rfl,ha,hs⟩:=hz
  obtain ⟨bo,lb,cb,rfl,rfl,hb,ht⟩:=hu
  have hla:=ha.nl.len_sz hs.nat
  have hlb:=hb.nl.len_sz ht.nat
  have hsz:=Lib.hid (sz_gcd hs ht)
  generalize decide (z<0)=s1
  generalize decide (u<0)=s2
  go_enter Tryz.func109,Tryz.ntmps109
  go_wp2
  go_quiet (fail)
  obtain ⟨g0,f0,f1,f2,fs⟩:=alloc3_facts w (.cells #[.bool s1,.slice ao la ca] 69) (.cells #[.bool s2,.slice bo lb cb] 69) (.cells #[.bool false,.slice none 0 0] 69)
  generalize hw0:((w.alloc (.cells #[.bool s1,.slice ao la ca] 69)).alloc (.cells #[.bool s2,.slice bo lb cb] 69)).alloc (.cells #[.bool false,.slice none 0 0] 69)=w0 at*
  have hA:=ha.gr g0
  have hB:=hb.gr g0
  clear f0 f1 fs hw0
  go_wp2
  go_loopw [5,6] (fun s5 s6 wr=>∃ (p5:Option Addr) (l5 c5:Nat) (p6:Option Addr) (l6 c6:Nat) (A B:Nat),s5=.slice p5 l5 c5∧s6=.slice p6 l6 c6∧Mag wr p5 l5 c5 (A:Int)∧Mag wr p6 l6 c6 (B:Int)∧l5≤1000000∧l6≤1000000∧Gr w0 wr∧Hid (Nat.gcd A B=Int.gcd z u)) (fun _ s6 wr=>magOf s6 wr)
  case atStart=>exact ⟨_,_,_,_,_,_,_,_,rfl,rfl,hA.gr (((Below.refl _ _).drewN _)),hB.gr (((Below.refl _ _).drewN _)),by omega,by omega,((Below.refl _ _).drewN _),rfl⟩
  case round=>
    obtain ⟨p5,l5,c5,p6,l6,c6,A,B,rfl,rfl,h5,h6,hl5,hl6,hG,hh⟩:=hrel
    by_cases hp:0<l6
    · have hB0:B≠0:=fun e=>by subst e;have:=h6.nl.len_zero.2 rfl;omega
      go_wp2_with fail
      refine (divide_m h5 h6 hl5 hl6 (by omega)).mono ?_
      rintro e w3 ⟨⟨qo,qk,qc,ro,rk,rc,rfl,h7,h8⟩,hG3⟩
      go_wp2
      have e8:(A:Int) % (B:Int)=((A % B:Nat):Int):=(Int.natCast_emod A B).symm
      rw [e8] at h8
      have hlt:A % B<B:=Nat.mod_lt _ (by omega)
      go_roundw
      case rel=>
        refine ⟨_,_,_,_,_,_,B,A % B,rfl,rfl,h6.gr hG3,h8,hl6,Nat.le_trans (h8.nl.len_le h6.nl (by omega)) hl6,Gr.trans hG hG3,?_⟩
        show Nat.gcd B (A % B)=_
        rw [← hh.out,Nat.gcd_comm B,← Nat.gcd_rec,Nat.gcd_comm]
      case measure=>
        rw [magOf_eq h8,magOf_eq h6];exact hlt
    · obtain rfl:l6=0:=by omega
      have hB0:B=0:=by have:=h6.nl.len_zero.1 rfl;omega
      subst hB0
      have p3:=Gr.heap hG f2
      have d0:=cells_of p3 0
      have d1:=cells_of p3 1
      have d2:=free_of p3
      have hw3:Gr w wr:=Gr.trans g0 hG
      have hg:A=Int.gcd z u:=by rw [← hh.out,Nat.gcd_zero_right]
      subst hg
      clear hh hG hA hB f2
      go_wp2
      have p4:=heap_setCell_at (i:=1) (.slice p5 l5 c5) (heap_setCell_at (i:=0) (.bool false) p3)
      have hst:=(St.setCell wr (w.heap.size+1+1) 0 (.bool false)).trans (St.setCell _ (w.heap.size+1+1) 1 (.slice p5 l5 c5))
      exact bodyPost_ret (v:=.agg #[.bool false,.slice p5 l5 c5]) (ret_cell _ _ _ rfl rfl p4 (by kernel_rfl)) rfl ⟨⟨_,_,rfl,p5,l5,c5,by simp,rfl,h5.kp (hst.kp p3 (by decide)),hsz.out⟩,hst.gr hw3 (by omega)⟩
theorem ret_tmp {P:Program} {w:World} {fn:Func} {tmps:Array Value} {t:Tmp} {v:Value} (h:fn.results=#[.tmp t]) (hv:tmps.getD t undef=v):(results fn tmps).run P w=.ok v w:=by
  subst hv;exact results_tmp h _ _ _
theorem ret_tmp2 {P:Program} {w:World} {fn:Func} {tmps:Array Value} {t u:Tmp} {v x:Value} (h:fn.results=#[.tmp t,.tmp u]) (hv:tmps.getD t undef=v) (hx:tmps.getD u undef=x):(results fn tmps).run P w=.ok (.tuple #[v,x]) w:=by
  subst hv hx;simp [results,h]
theorem ret_cell_tmp' {P:Program} {w:World} {fn:Func} {tmps:Array Value} {p u:Tmp} {t:TypeId} {v:Value} (b:Nat) (cs:Array Value) (tt:TypeId) (h:fn.results=#[.cell p t,.tmp u]) (hp:tmps.getD p undef=.pointer (some ⟨b,0,none⟩)) (hL:Lc w b cs tt) (hs:aggSize P t=some cs.size) (hv:tmps.getD u undef=v):
    (results fn tmps).run P w=.ok (.tuple #[.agg cs,v]) w:=by
  subst hv;exact ret_cell_tmp b cs tt h hp hL hs
theorem ret_cell2_tmp' {P:Program} {w:World} {fn:Func} {tmps:Array Value} {p q u:Tmp} {t t2:TypeId} {v:Value} (b c:Nat) (cs ds:Array Value) (tt tt2:TypeId) (h:fn.results=#[.cell p t,.cell q t2,.tmp u]) (hp:tmps.getD p undef=.pointer (some ⟨b,0,none⟩)) (hq:tmps.getD q undef=.pointer (some ⟨c,0,none⟩))
    (hL:Lc w b cs tt) (hs:aggSize P t=some cs.size) (hL2:Lc w c ds tt2) (hs2:aggSize P t2=some ds.size) (hv:tmps.getD u undef=v):
    (results fn tmps).run P w=.ok (.tuple #[.agg cs,.agg ds,v]) w:=by
  subst hv;exact ret_cell2_tmp b c cs ds tt tt2 h hp hq hL hs hL2 hs2
set_option maxRecDepth 100000 in
set_option maxHeartbeats 1000000 in
theorem sub_i {k m:Nat} {x y x2 y2:Value} {z u:Int} {w:World} (hz:IsInt w k x y z) (hu:IsInt w m x2 y2 u) (_hk:k+m+1≤1000000):
    Calls Tryz.prog 139 #[(.agg #[x,y]),(.agg #[x2,y2])] w fun e w'=>(∃ x' y',e=.returned (.agg #[x',y'])∧IsInt w' (k+m+1) x' y' (z - u))∧Gr w w':=by
 go_enter Tryz.func139,Tryz.ntmps139
 have hB:=Gr.refl w
 refine wp_seq_k (fun K1 k1=>?_)
 refine rg [0,1,2] ?_
 refine se ?_
 refine eb 69 #[x,y] 2 hB fun b2 w2 g2 L2 o2 q2 hB=>?_
 simp only [p3,p4]
 refine se ?_
 refine eb 69 #[x2,y2] 3 hB fun b3 w3 g3 L3 o3 q3 hB=>?_
 simp only [p3,p4]
 refine se ?_
 refine ea 69 #[(.bool false),(.slice none 0 0)] 4 hB fun b4 w4 g4 L4 o4 q4 hB=>?_
 replace L2:=L2.gr g3
 have ne2_4:=L2.ne o4
 have ne3_4:=L3.ne o4
 simp only [p3,p4]
 refine sq_nil ?_
 refine k1 _ _ ?_
 try clear k1 K1
 refine wp_seq_k (fun K5 k5=>?_)
 have gd15:=Gr.drew w4
 replace hB:=hB.trans gd15
 replace L2:=L2.gr (g4.trans gd15)
 replace L3:=L3.gr (g4.trans gd15)
 refine wp_region_ord (fun w'=>Lc w' b2 #[x,y] 69∧Lc w' b3 #[x2,y2] 69) [(true,0),(true,1),(false,2),(false,3),(false,4)] (by kernel_rfl) (by kernel_rfl) (by kernel_rfl) (by decide) (fun _ _ _ _ _ h=>h) ⟨L2,L3⟩ ?_
 refine ow 5 (.agg #[x,y]) rfl (fun w' hS=>(rl 69 0 [x,y] hS.1)) ?_
 refine ow 6 (.agg #[x2,y2]) rfl (fun w' hS=>(rl 69 0 [x2,y2] hS.2)) ?_
 refine oe ?_
 have kq18:=g2.kp.trans (g3.kp.trans (g4.kp.trans gd15.kp))
 replace hu:=hu.kp kq18
 refine ec 7 (neg_i hu) ?_
 rintro e17 w17 ⟨⟨x17,y17,rfl,h17⟩,g17⟩
 refine ⟨_,rfl,?_⟩
 replace hB:=hB.trans g17
 replace L2:=L2.gr g17
 replace L3:=L3.gr g17
 refine ⟨⟨L2,L3⟩,?_⟩
 simp only [p3,p4]
 refine oe ?_
 have kq21:=g2.kp.trans (g3.kp.trans (g4.kp.trans (gd15.kp.trans g17.kp)))
 replace hz:=hz.kp kq21
 refine ec 8 (add_i hz h17 (by omega)) ?_
 rintro e20 w20 ⟨⟨x20,y20,rfl,h20⟩,g20⟩
 refine ⟨_,rfl,?_⟩
 replace hB:=hB.trans g20
 replace L2:=L2.gr g20
 replace L3:=L3.gr g20
 refine ⟨⟨L2,L3⟩,?_⟩
 simp only [p3,p4]
 refine oe ?_
 replace L4:=L4.gr (gd15.trans (g17.trans g20))
 refine es 69 0 (.agg #[x20,y20]) [x20,y20] #[x20,y20] L4 hB q4 ⟨h20.one0,h20.one1,trivial⟩ fun w23 st23 kp23 L4 hB=>?_
 replace L2:=st23.lc L2 ne2_4
 replace L3:=st23.lc L3 ne3_4
 refine ⟨⟨L2,L3⟩,?_⟩
 refine ord_nil ?_
 refine k5 _ _ ?_
 try clear k5 K5
 refine wp_ret ?_
 refine bodyPost_ret (v:=(.agg #[x20,y20])) (ret_cell _ _ _ rfl rfl L4 (by kernel_rfl)) rfl ⟨?_,hB⟩
 replace h20:=h20.kp kp23
 exact ⟨_,_,rfl,by rw [Int.sub_eq_add_neg];exact h20⟩

set_option maxRecDepth 100000 in
set_option maxHeartbeats 1000000 in
theorem cmp_tt {w:World} {a b:Int} {ao bo:Option Addr} {la lb ca cb:Nat} (ha:Mag w ao la ca a) (hb:Mag w bo lb cb b) (_hla:la≤1000000) (_hlb:lb≤1000000):
    Calls Tryz.prog 83 #[(.agg #[(.bool true),(.slice ao la ca)]),(.agg #[(.bool true),(.slice bo lb cb)])] w fun e w'=>(e=.returned (.int .i64 (sgn (b - a))))∧Gr w w':=by
 go_enter Tryz.func83,Tryz.ntmps83
 have hB:=Gr.refl w
 refine wp_seq_k (fun K1 k1=>?_)
 refine rg [0,1,2] ?_
 refine se ?_
 refine eb 69 #[(.bool true),(.slice ao la ca)] 2 hB fun b2 w2 g2 L2 o2 q2 hB=>?_
 simp only [p3,p4]
 refine se ?_
 refine eb 69 #[(.bool true),(.slice bo lb cb)] 3 hB fun b3 w3 g3 L3 o3 q3 hB=>?_
 simp only [p3,p4]
 refine sv 4 (.int .i64 0) ?_
 refine sq_nil ?_
 refine k1 _ _ ?_
 try clear k1 K1
 refine wp_seq_k (fun K4 k4=>?_)
 refine wp_block ?_
 refine wp_seq_k (fun K5 k5=>?_)
 refine rg [0,1,2,3,4,5] ?_
 refine sv 6 (.pointer (some ⟨b2,0,none⟩)) ?_
 replace L2:=L2.gr g3
 refine sw 7 (.bool true) rfl (rk 4 0 L2) ?_
 refine sv 8 (.pointer (some ⟨b3,0,none⟩)) ?_
 refine sw 9 (.bool true) rfl (rk 4 0 L3) ?_
 refine sv 10 (.bool false) ?_
 refine sv 5 (.bool false) ?_
 refine sq_nil ?_
 refine k5 _ _ ?_
 try clear k5 K5
 refine wp_cond_false rfl ?_
 refine wp_seq_k (fun K6 k6=>?_)
 refine rg [0,1,2] ?_
 refine sv 14 (.pointer (some ⟨b2,0,none⟩)) ?_
 refine sw 15 (.bool true) rfl (rk 4 0 L2) ?_
 refine sv 13 (.bool true) ?_
 refine sq_nil ?_
 refine k6 _ _ ?_
 try clear k6 K6
 refine wp_cond_true rfl ?_
 refine wp_seq_k (fun K7 k7=>?_)
 refine rg [0,1,2,3,4,5] ?_
 refine sv 16 (.pointer (some ⟨b3,1,none⟩)) ?_
 refine sw 17 (.slice bo lb cb) rfl (rk 67 1 L3) ?_
 refine sv 18 (.pointer (some ⟨b2,1,none⟩)) ?_
 refine sw 19 (.slice ao la ca) rfl (rk 67 1 L2) ?_
 refine se ?_
 have kq9:=g2.kp.trans g3.kp
 replace hb:=hb.kp kq9
 replace ha:=ha.kp kq9
 refine ec 20 (order_m hb ha (by omega) (by omega)) ?_
 rintro e8 w8 ⟨rfl,g8⟩
 refine ⟨_,rfl,?_⟩
 replace hB:=hB.trans g8
 simp only [p3,p4]
 refine sv 4 (.int .i64 (sgn (b - a))) ?_
 refine sq_nil ?_
 refine k7 _ _ ?_
 try clear k7 K7
 refine wp_ret ?_
 simp only [Exit.then,Exit.inBlock]
 refine bodyPost_ret (v:=(.int .i64 (sgn (b - a)))) (ret_tmp rfl rfl) rfl ⟨?_,hB⟩
 exact rfl

set_option maxRecDepth 100000 in
set_option maxHeartbeats 1000000 in
theorem cmp_tf {w:World} {a b:Int} {ao bo:Option Addr} {la lb ca cb:Nat} (_ha:Mag w ao la ca a) (_hb:Mag w bo lb cb b) (_hla:la≤1000000) (_hlb:lb≤1000000):
    Calls Tryz.prog 83 #[(.agg #[(.bool true),(.slice ao la ca)]),(.agg #[(.bool false),(.slice bo lb cb)])] w fun e w'=>(e=.returned (.int .i64 (-1)))∧Gr w w':=by
 go_enter Tryz.func83,Tryz.ntmps83
 have hB:=Gr.refl w
 refine wp_seq_k (fun K1 k1=>?_)
 refine rg [0,1,2] ?_
 refine se ?_
 refine eb 69 #[(.bool true),(.slice ao la ca)] 2 hB fun b2 w2 g2 L2 o2 q2 hB=>?_
 simp only [p3,p4]
 refine se ?_
 refine eb 69 #[(.bool false),(.slice bo lb cb)] 3 hB fun b3 w3 g3 L3 o3 q3 hB=>?_
 simp only [p3,p4]
 refine sv 4 (.int .i64 0) ?_
 refine sq_nil ?_
 refine k1 _ _ ?_
 try clear k1 K1
 refine wp_seq_k (fun K4 k4=>?_)
 refine wp_block ?_
 refine wp_seq_k (fun K5 k5=>?_)
 refine rg [0,1,2,3,4,5] ?_
 refine sv 6 (.pointer (some ⟨b2,0,none⟩)) ?_
 replace L2:=L2.gr g3
 refine sw 7 (.bool true) rfl (rk 4 0 L2) ?_
 refine sv 8 (.pointer (some ⟨b3,0,none⟩)) ?_
 refine sw 9 (.bool false) rfl (rk 4 0 L3) ?_
 refine sv 10 (.bool true) ?_
 refine sv 5 (.bool true) ?_
 refine sq_nil ?_
 refine k5 _ _ ?_
 try clear k5 K5
 refine wp_cond_true rfl ?_
 refine wp_seq_k (fun K6 k6=>?_)
 refine wp_seq_k (fun K7 k7=>?_)
 refine rg [0,1] ?_
 refine sv 11 (.pointer (some ⟨b2,0,none⟩)) ?_
 refine sw 12 (.bool true) rfl (rk 4 0 L2) ?_
 refine sq_nil ?_
 refine k7 _ _ ?_
 try clear k7 K7
 refine wp_cond_true rfl ?_
 refine wp_seq_k (fun K8 k8=>?_)
 refine rg [0] ?_
 refine sv 4 (.int .i64 (-1)) ?_
 refine sq_nil ?_
 refine k8 _ _ ?_
 try clear k8 K8
 refine wp_ret ?_
 simp only [Exit.then,Exit.inBlock]
 refine bodyPost_ret (v:=(.int .i64 (-1))) (ret_tmp rfl rfl) rfl ⟨?_,hB⟩
 exact rfl

set_option maxRecDepth 100000 in
set_option maxHeartbeats 1000000 in
theorem cmp_ft {w:World} {a b:Int} {ao bo:Option Addr} {la lb ca cb:Nat} (_ha:Mag w ao la ca a) (_hb:Mag w bo lb cb b) (_hla:la≤1000000) (_hlb:lb≤1000000):
    Calls Tryz.prog 83 #[(.agg #[(.bool false),(.slice ao la ca)]),(.agg #[(.bool true),(.slice bo lb cb)])] w fun e w'=>(e=.returned (.int .i64 (1)))∧Gr w w':=by
 go_enter Tryz.func83,Tryz.ntmps83
 have hB:=Gr.refl w
 refine wp_seq_k (fun K1 k1=>?_)
 refine rg [0,1,2] ?_
 refine se ?_
 refine eb 69 #[(.bool false),(.slice ao la ca)] 2 hB fun b2 w2 g2 L2 o2 q2 hB=>?_
 simp only [p3,p4]
 refine se ?_
 refine eb 69 #[(.bool true),(.slice bo lb cb)] 3 hB fun b3 w3 g3 L3 o3 q3 hB=>?_
 simp only [p3,p4]
 refine sv 4 (.int .i64 0) ?_
 refine sq_nil ?_
 refine k1 _ _ ?_
 try clear k1 K1
 refine wp_seq_k (fun K4 k4=>?_)
 refine wp_block ?_
 refine wp_seq_k (fun K5 k5=>?_)
 refine rg [0,1,2,3,4,5] ?_
 refine sv 6 (.pointer (some ⟨b2,0,none⟩)) ?_
 replace L2:=L2.gr g3
 refine sw 7 (.bool false) rfl (rk 4 0 L2) ?_
 refine sv 8 (.pointer (some ⟨b3,0,none⟩)) ?_
 refine sw 9 (.bool true) rfl (rk 4 0 L3) ?_
 refine sv 10 (.bool true) ?_
 refine sv 5 (.bool true) ?_
 refine sq_nil ?_
 refine k5 _ _ ?_
 try clear k5 K5
 refine wp_cond_true rfl ?_
 refine wp_seq_k (fun K6 k6=>?_)
 refine wp_seq_k (fun K7 k7=>?_)
 refine rg [0,1] ?_
 refine sv 11 (.pointer (some ⟨b2,0,none⟩)) ?_
 refine sw 12 (.bool false) rfl (rk 4 0 L2) ?_
 refine sq_nil ?_
 refine k7 _ _ ?_
 try clear k7 K7
 refine wp_cond_false rfl ?_
 refine wp_skip ?_
 refine k6 _ _ ?_
 try clear k6 K6
 refine wp_seq_k (fun K8 k8=>?_)
 refine rg [0] ?_
 refine sv 4 (.int .i64 1) ?_
 refine sq_nil ?_
 refine k8 _ _ ?_
 try clear k8 K8
 refine wp_ret ?_
 simp only [Exit.then,Exit.inBlock]
 refine bodyPost_ret (v:=(.int .i64 1)) (ret_tmp rfl rfl) rfl ⟨?_,hB⟩
 exact rfl

set_option maxRecDepth 100000 in
set_option maxHeartbeats 1000000 in
theorem cmp_ff {w:World} {a b:Int} {ao bo:Option Addr} {la lb ca cb:Nat} (ha:Mag w ao la ca a) (hb:Mag w bo lb cb b) (_hla:la≤1000000) (_hlb:lb≤1000000):
    Calls Tryz.prog 83 #[(.agg #[(.bool false),(.slice ao la ca)]),(.agg #[(.bool false),(.slice bo lb cb)])] w fun e w'=>(e=.returned (.int .i64 (sgn (a - b))))∧Gr w w':=by
 go_enter Tryz.func83,Tryz.ntmps83
 have hB:=Gr.refl w
 refine wp_seq_k (fun K1 k1=>?_)
 refine rg [0,1,2] ?_
 refine se ?_
 refine eb 69 #[(.bool false),(.slice ao la ca)] 2 hB fun b2 w2 g2 L2 o2 q2 hB=>?_
 simp only [p3,p4]
 refine se ?_
 refine eb 69 #[(.bool false),(.slice bo lb cb)] 3 hB fun b3 w3 g3 L3 o3 q3 hB=>?_
 simp only [p3,p4]
 refine sv 4 (.int .i64 0) ?_
 refine sq_nil ?_
 refine k1 _ _ ?_
 try clear k1 K1
 refine wp_seq_k (fun K4 k4=>?_)
 refine wp_block ?_
 refine wp_seq_k (fun K5 k5=>?_)
 refine rg [0,1,2,3,4,5] ?_
 refine sv 6 (.pointer (some ⟨b2,0,none⟩)) ?_
 replace L2:=L2.gr g3
 refine sw 7 (.bool false) rfl (rk 4 0 L2) ?_
 refine sv 8 (.pointer (some ⟨b3,0,none⟩)) ?_
 refine sw 9 (.bool false) rfl (rk 4 0 L3) ?_
 refine sv 10 (.bool false) ?_
 refine sv 5 (.bool false) ?_
 refine sq_nil ?_
 refine k5 _ _ ?_
 try clear k5 K5
 refine wp_cond_false rfl ?_
 refine wp_seq_k (fun K6 k6=>?_)
 refine rg [0,1,2] ?_
 refine sv 14 (.pointer (some ⟨b2,0,none⟩)) ?_
 refine sw 15 (.bool false) rfl (rk 4 0 L2) ?_
 refine sv 13 (.bool false) ?_
 refine sq_nil ?_
 refine k6 _ _ ?_
 try clear k6 K6
 refine wp_cond_false rfl ?_
 refine wp_skip ?_
 refine k4 _ _ ?_
 try clear k4 K4
 refine wp_seq_k (fun K7 k7=>?_)
 refine rg [0,1,2,3,4,5] ?_
 refine sv 21 (.pointer (some ⟨b2,1,none⟩)) ?_
 refine sw 22 (.slice ao la ca) rfl (rk 67 1 L2) ?_
 refine sv 23 (.pointer (some ⟨b3,1,none⟩)) ?_
 refine sw 24 (.slice bo lb cb) rfl (rk 67 1 L3) ?_
 refine se ?_
 have kq9:=g2.kp.trans g3.kp
 replace ha:=ha.kp kq9
 replace hb:=hb.kp kq9
 refine ec 25 (order_m ha hb (by omega) (by omega)) ?_
 rintro e8 w8 ⟨rfl,g8⟩
 refine ⟨_,rfl,?_⟩
 replace hB:=hB.trans g8
 simp only [p3,p4]
 refine sv 4 (.int .i64 (sgn (a - b))) ?_
 refine sq_nil ?_
 refine k7 _ _ ?_
 try clear k7 K7
 refine wp_ret ?_
 refine bodyPost_ret (v:=(.int .i64 (sgn (a - b)))) (ret_tmp rfl rfl) rfl ⟨?_,hB⟩
 exact rfl

set_option maxRecDepth 100000 in
set_option maxHeartbeats 1000000 in
theorem divmod_0 {w:World} {s:Bool} {K m:Nat} {a b Z:Int} {ao bo:Option Addr} {la lb ca cb:Nat} (ha:Mag w ao la ca a) (hb:Mag w bo lb cb b) (hu:IsInt w m (.bool false) (.slice bo lb cb) b) (_hla:la≤1000000) (_hlb:lb≤1000000) (_hb0:0<b) (hd:a % b=0) (hQ:a/b=(Z.natAbs:Int)) (hS:0<a/b→(s !=false)=decide (Z<0)) (hZ:Sz K Z) (hK:K≤1000000) (hm:m≤1000000):
    Calls Tryz.prog 110 #[(.agg #[(.bool (s)),(.slice ao la ca)]),(.agg #[(.bool false),(.slice bo lb cb)])] w fun e w'=>(∃ x' y' x3 y3,e=.returned (.tuple #[.agg #[x',y'],.agg #[x3,y3],.int .i64 0])∧IsInt w' K x' y' (Z)∧IsInt w' m x3 y3 (0))∧Gr w w':=by
 have hR:a % b=((0:Int).natAbs:Int):=hd
 go_enter Tryz.func110,Tryz.ntmps110
 have hB:=Gr.refl w
 refine wp_seq_k (fun K1 k1=>?_)
 refine rg [0,1,2,3,4] ?_
 refine se ?_
 refine eb 69 #[(.bool (s)),(.slice ao la ca)] 2 hB fun b2 w2 g2 L2 o2 q2 hB=>?_
 simp only [p3,p4]
 refine se ?_
 refine eb 69 #[(.bool false),(.slice bo lb cb)] 3 hB fun b3 w3 g3 L3 o3 q3 hB=>?_
 simp only [p3,p4]
 refine se ?_
 refine ea 69 #[(.bool false),(.slice none 0 0)] 4 hB fun b4 w4 g4 L4 o4 q4 hB=>?_
 replace L2:=L2.gr g3
 have ne2_4:=L2.ne o4
 have ne3_4:=L3.ne o4
 simp only [p3,p4]
 refine se ?_
 refine ea 69 #[(.bool false),(.slice none 0 0)] 5 hB fun b5 w5 g5 L5 o5 q5 hB=>?_
 replace L2:=L2.gr g4
 have ne2_5:=L2.ne o5
 replace L3:=L3.gr g4
 have ne3_5:=L3.ne o5
 have ne4_5:=L4.ne o5
 simp only [p3,p4]
 refine sv 6 (.int .i64 0) ?_
 refine sq_nil ?_
 refine k1 _ _ ?_
 try clear k1 K1
 refine wp_seq_k (fun K6 k6=>?_)
 refine wp_seq_k (fun K7 k7=>?_)
 refine rg [0,1,2] ?_
 replace L3:=L3.gr g5
 refine sw 9 (.agg #[(.bool false),(.slice bo lb cb)]) rfl (rl 69 0 [(.bool false),(.slice bo lb cb)] L3) ?_
 refine se ?_
 have kq9:=g2.kp.trans (g3.kp.trans (g4.kp.trans g5.kp))
 replace hu:=hu.kp kq9
 refine ec 10 (sign_pos hu (by omega)) ?_
 rintro e8 w8 ⟨rfl,g8⟩
 refine ⟨_,rfl,?_⟩
 replace hB:=hB.trans g8
 simp only [p3,p4]
 refine sv 11 (.bool false) ?_
 refine sq_nil ?_
 refine k7 _ _ ?_
 try clear k7 K7
 refine wp_cond_false rfl ?_
 refine wp_skip ?_
 refine k6 _ _ ?_
 try clear k6 K6
 refine wp_seq_k (fun K10 k10=>?_)
 refine rg [0,1,2,3,4,5,6,7,8,9] ?_
 refine sv 15 (.pointer (some ⟨b2,1,none⟩)) ?_
 replace L2:=L2.gr (g5.trans g8)
 refine sw 16 (.slice ao la ca) rfl (rk 67 1 L2) ?_
 refine sv 17 (.pointer (some ⟨b3,1,none⟩)) ?_
 replace L3:=L3.gr g8
 refine sw 18 (.slice bo lb cb) rfl (rk 67 1 L3) ?_
 refine se ?_
 have kq12:=g2.kp.trans (g3.kp.trans (g4.kp.trans (g5.kp.trans g8.kp)))
 replace ha:=ha.kp kq12
 replace hb:=hb.kp kq12
 refine ec 19 (divide_m ha hb (by omega) (by omega) (by omega)) ?_
 rintro e11 w11 ⟨⟨qo11,qk11,qc11,ro11,rk11,rc11,rfl,hq11,hr11⟩,g11⟩
 refine ⟨_,rfl,?_⟩
 replace hB:=hB.trans g11
 simp only [p3,p4]
 refine sv 14 (.tuple #[(.slice qo11 qk11 qc11),(.slice ro11 rk11 rc11)]) ?_
 refine sv 20 (.slice qo11 qk11 qc11) ?_
 refine sv 21 (.slice ro11 rk11 rc11) ?_
 refine sv 7 (.slice qo11 qk11 qc11) ?_
 refine sv 8 (.slice ro11 rk11 rc11) ?_
 refine sq_nil ?_
 refine k10 _ _ ?_
 try clear k10 K10
 refine wp_seq_k (fun K13 k13=>?_)
 have gd24:=Gr.drew w11
 replace hB:=hB.trans gd24
 replace L2:=L2.gr (g11.trans gd24)
 replace L3:=L3.gr (g11.trans gd24)
 refine wp_region_ord (fun w'=>Lc w' b2 #[(.bool (s)),(.slice ao la ca)] 69∧Lc w' b3 #[(.bool false),(.slice bo lb cb)] 69) [(true,0),(true,1),(true,2),(true,3),(true,4),(true,5),(true,7),(true,8),(true,9),(false,6),(false,10),(false,11),(false,12)] (by kernel_rfl) (by kernel_rfl) (by kernel_rfl) (by decide) (fun _ _ _ _ _ h=>h) ⟨L2,L3⟩ ?_
 refine ov 22 (.pointer (some ⟨b2,0,none⟩)) ?_
 refine ow 23 (.bool (s)) rfl (fun w' hS=>(rk 4 0 hS.1)) ?_
 refine ov 24 (.pointer (some ⟨b3,0,none⟩)) ?_
 refine ow 25 (.bool false) rfl (fun w' hS=>(rk 4 0 hS.2)) ?_
 refine ov 26 (.bool ((s !=false))) ?_
 refine ov 27 (.slice qo11 qk11 qc11) ?_
 refine ov 29 (.pointer (some ⟨b2,0,none⟩)) ?_
 refine ow 30 (.bool (s)) rfl (fun w' hS=>(rk 4 0 hS.1)) ?_
 refine ov 31 (.slice ro11 rk11 rc11) ?_
 refine oe ?_
 replace hq11:=hq11.kp gd24.kp
 refine ec 28 (signed_z (neg:=(s !=false)) (Z:=Z) hq11 hQ hS hZ hK) ?_
 rintro e26 w26 ⟨⟨x26,y26,rfl,h26⟩,g26⟩
 refine ⟨_,rfl,?_⟩
 replace hB:=hB.trans g26
 replace L2:=L2.gr g26
 replace L3:=L3.gr g26
 refine ⟨⟨L2,L3⟩,?_⟩
 simp only [p3,p4]
 refine oe ?_
 have kq29:=gd24.kp.trans g26.kp
 replace hr11:=hr11.kp kq29
 refine ec 32 (signed_z (neg:=s) (Z:=0) hr11 hR (fun h=>by omega) (Sz.zero m) hm) ?_
 rintro e28 w28 ⟨⟨x28,y28,rfl,h28⟩,g28⟩
 refine ⟨_,rfl,?_⟩
 replace hB:=hB.trans g28
 replace L2:=L2.gr g28
 replace L3:=L3.gr g28
 refine ⟨⟨L2,L3⟩,?_⟩
 simp only [p3,p4]
 refine oe ?_
 replace L4:=L4.gr (g5.trans (g8.trans (g11.trans (gd24.trans (g26.trans g28)))))
 refine es 69 0 (.agg #[x26,y26]) [x26,y26] #[x26,y26] L4 hB q4 ⟨h26.one0,h26.one1,trivial⟩ fun w31 st31 kp31 L4 hB=>?_
 replace L2:=st31.lc L2 ne2_4
 replace L3:=st31.lc L3 ne3_4
 refine ⟨⟨L2,L3⟩,?_⟩
 refine oe ?_
 replace L5:=st31.lc (L5.gr (g8.trans (g11.trans (gd24.trans (g26.trans g28))))) (Ne.symm ne4_5)
 refine es 69 0 (.agg #[x28,y28]) [x28,y28] #[x28,y28] L5 hB q5 ⟨h28.one0,h28.one1,trivial⟩ fun w33 st33 kp33 L5 hB=>?_
 replace L2:=st33.lc L2 ne2_5
 replace L3:=st33.lc L3 ne3_5
 refine ⟨⟨L2,L3⟩,?_⟩
 refine ord_nil ?_
 refine k13 _ _ ?_
 try clear k13 K13
 refine wp_seq_k (fun K34 k34=>?_)
 refine wp_seq_k (fun K35 k35=>?_)
 refine rg [0,1,2,3,4,5,6,7,8,9] ?_
 refine sw 33 (.agg #[x28,y28]) rfl (rl 69 0 [x28,y28] L5) ?_
 refine se ?_
 have kq37:=kp31.trans kp33
 replace h28:=h28.kp kq37
 refine ec 34 (sign_zero h28) ?_
 rintro e36 w36 ⟨rfl,g36⟩
 refine ⟨_,rfl,?_⟩
 replace hB:=hB.trans g36
 simp only [p3,p4]
 refine sv 35 (.bool false) ?_
 refine sv 36 (.bool false) ?_
 refine ss 37 ?_
 refine ss 38 ?_
 refine ss 39 ?_
 refine ss 40 ?_
 refine ss 41 ?_
 refine sv 42 (.bool false) ?_
 refine sq_nil ?_
 refine k35 _ _ ?_
 try clear k35 K35
 refine wp_cond_false rfl ?_
 refine wp_skip ?_
 refine k34 _ _ ?_
 try clear k34 K34
 refine wp_seq_k (fun K38 k38=>?_)
 have gd40:=Gr.drew w36
 replace hB:=hB.trans gd40
 replace L4:=(st33.lc L4 ne4_5).gr (g36.trans gd40)
 replace L5:=L5.gr (g36.trans gd40)
 refine wp_region_ort (fun _=>True) [([2],(fun w'=>Lc w' b4 #[x26,y26] 69)),([3],(fun w'=>Lc w' b5 #[x28,y28] 69))] [(true,0),(true,1),(false,2),(false,3),(true,4)] (by kernel_rfl) (by kernel_rfl) (by kernel_rfl) (by decide) (fun _ _ _ _ _ h=>h) trivial ⟨fun _=>L4,fun _=>L5,trivial⟩ ?_
 refine tw 49 (.agg #[x26,y26]) rfl (fun w' hS=>(rl 69 0 [x26,y26] (hS.2.1 (by kernel_rfl)))) ?_
 refine tw 50 (.agg #[x28,y28]) rfl (fun w' hS=>(rl 69 0 [x28,y28] (hS.2.2.1 (by kernel_rfl)))) ?_
 refine te ?_
 refine es 69 0 (.agg #[x26,y26]) [x26,y26] #[x26,y26] L4 hB q4 ⟨h26.one0,h26.one1,trivial⟩ fun w42 st42 kp42 L4 hB=>?_
 replace L5:=st42.lc L5 (Ne.symm ne4_5)
 refine ⟨trivial,⟨cameT (by kernel_rfl),fun _=>L5,trivial⟩,?_⟩
 refine te ?_
 refine es 69 0 (.agg #[x28,y28]) [x28,y28] #[x28,y28] L5 hB q5 ⟨h28.one0,h28.one1,trivial⟩ fun w44 st44 kp44 L5 hB=>?_
 refine ⟨trivial,⟨cameT (by kernel_rfl),cameT (by kernel_rfl),trivial⟩,?_⟩
 refine tv 6 (.int .i64 0) ?_
 refine ort_nil ?_
 refine k38 _ _ ?_
 try clear k38 K38
 refine wp_ret ?_
 replace L4:=st44.lc L4 ne4_5
 refine bodyPost_ret (v:=(.tuple #[(.agg #[x26,y26]),(.agg #[x28,y28]),(.int .i64 0)])) (ret_cell2_tmp' _ _ _ _ _ _ rfl rfl rfl L4 (by kernel_rfl) L5 (by kernel_rfl) rfl) rfl ⟨?_,hB⟩
 have kq45:=g28.kp.trans (kp31.trans (kp33.trans (g36.kp.trans (gd40.kp.trans (kp42.trans kp44)))))
 replace h26:=h26.kp kq45
 have kq46:=g36.kp.trans (gd40.kp.trans (kp42.trans kp44))
 replace h28:=h28.kp kq46
 exact ⟨_,_,_,_,rfl,h26,h28⟩

set_option maxRecDepth 100000 in
set_option maxHeartbeats 1000000 in
theorem divmod_f {w:World} {K m:Nat} {a b:Int} {ao bo:Option Addr} {la lb ca cb:Nat} (ha:Mag w ao la ca a) (hb:Mag w bo lb cb b) (hu:IsInt w m (.bool false) (.slice bo lb cb) b) (_hla:la≤1000000) (_hlb:lb≤1000000) (_hb0:0<b) (hR:0<a % b) (_hL:a % b<b) (_hQ:0≤a/b) (hZ:Sz K (a/b)) (hK:K≤1000000) (hm:m≤1000000):
    Calls Tryz.prog 110 #[(.agg #[(.bool false),(.slice ao la ca)]),(.agg #[(.bool false),(.slice bo lb cb)])] w fun e w'=>(∃ x' y' x3 y3,e=.returned (.tuple #[.agg #[x',y'],.agg #[x3,y3],.int .i64 0])∧IsInt w' K x' y' (a/b)∧IsInt w' m x3 y3 (a % b))∧Gr w w':=by
 go_enter Tryz.func110,Tryz.ntmps110
 have hB:=Gr.refl w
 refine wp_seq_k (fun K1 k1=>?_)
 refine rg [0,1,2,3,4] ?_
 refine se ?_
 refine eb 69 #[(.bool false),(.slice ao la ca)] 2 hB fun b2 w2 g2 L2 o2 q2 hB=>?_
 simp only [p3,p4]
 refine se ?_
 refine eb 69 #[(.bool false),(.slice bo lb cb)] 3 hB fun b3 w3 g3 L3 o3 q3 hB=>?_
 simp only [p3,p4]
 refine se ?_
 refine ea 69 #[(.bool false),(.slice none 0 0)] 4 hB fun b4 w4 g4 L4 o4 q4 hB=>?_
 replace L2:=L2.gr g3
 have ne2_4:=L2.ne o4
 have ne3_4:=L3.ne o4
 simp only [p3,p4]
 refine se ?_
 refine ea 69 #[(.bool false),(.slice none 0 0)] 5 hB fun b5 w5 g5 L5 o5 q5 hB=>?_
 replace L2:=L2.gr g4
 have ne2_5:=L2.ne o5
 replace L3:=L3.gr g4
 have ne3_5:=L3.ne o5
 have ne4_5:=L4.ne o5
 simp only [p3,p4]
 refine sv 6 (.int .i64 0) ?_
 refine sq_nil ?_
 refine k1 _ _ ?_
 try clear k1 K1
 refine wp_seq_k (fun K6 k6=>?_)
 refine wp_seq_k (fun K7 k7=>?_)
 refine rg [0,1,2] ?_
 replace L3:=L3.gr g5
 refine sw 9 (.agg #[(.bool false),(.slice bo lb cb)]) rfl (rl 69 0 [(.bool false),(.slice bo lb cb)] L3) ?_
 refine se ?_
 have kq9:=g2.kp.trans (g3.kp.trans (g4.kp.trans g5.kp))
 replace hu:=hu.kp kq9
 refine ec 10 (sign_pos hu (by omega)) ?_
 rintro e8 w8 ⟨rfl,g8⟩
 refine ⟨_,rfl,?_⟩
 replace hB:=hB.trans g8
 simp only [p3,p4]
 refine sv 11 (.bool false) ?_
 refine sq_nil ?_
 refine k7 _ _ ?_
 try clear k7 K7
 refine wp_cond_false rfl ?_
 refine wp_skip ?_
 refine k6 _ _ ?_
 try clear k6 K6
 refine wp_seq_k (fun K10 k10=>?_)
 refine rg [0,1,2,3,4,5,6,7,8,9] ?_
 refine sv 15 (.pointer (some ⟨b2,1,none⟩)) ?_
 replace L2:=L2.gr (g5.trans g8)
 refine sw 16 (.slice ao la ca) rfl (rk 67 1 L2) ?_
 refine sv 17 (.pointer (some ⟨b3,1,none⟩)) ?_
 replace L3:=L3.gr g8
 refine sw 18 (.slice bo lb cb) rfl (rk 67 1 L3) ?_
 refine se ?_
 have kq12:=g2.kp.trans (g3.kp.trans (g4.kp.trans (g5.kp.trans g8.kp)))
 replace ha:=ha.kp kq12
 replace hb:=hb.kp kq12
 refine ec 19 (divide_m ha hb (by omega) (by omega) (by omega)) ?_
 rintro e11 w11 ⟨⟨qo11,qk11,qc11,ro11,rk11,rc11,rfl,hq11,hr11⟩,g11⟩
 refine ⟨_,rfl,?_⟩
 replace hB:=hB.trans g11
 simp only [p3,p4]
 refine sv 14 (.tuple #[(.slice qo11 qk11 qc11),(.slice ro11 rk11 rc11)]) ?_
 refine sv 20 (.slice qo11 qk11 qc11) ?_
 refine sv 21 (.slice ro11 rk11 rc11) ?_
 refine sv 7 (.slice qo11 qk11 qc11) ?_
 refine sv 8 (.slice ro11 rk11 rc11) ?_
 refine sq_nil ?_
 refine k10 _ _ ?_
 try clear k10 K10
 refine wp_seq_k (fun K13 k13=>?_)
 have gd24:=Gr.drew w11
 replace hB:=hB.trans gd24
 replace L2:=L2.gr (g11.trans gd24)
 replace L3:=L3.gr (g11.trans gd24)
 refine wp_region_ord (fun w'=>Lc w' b2 #[(.bool false),(.slice ao la ca)] 69∧Lc w' b3 #[(.bool false),(.slice bo lb cb)] 69) [(true,0),(true,1),(true,2),(true,3),(true,4),(true,5),(true,7),(true,8),(true,9),(false,6),(false,10),(false,11),(false,12)] (by kernel_rfl) (by kernel_rfl) (by kernel_rfl) (by decide) (fun _ _ _ _ _ h=>h) ⟨L2,L3⟩ ?_
 refine ov 22 (.pointer (some ⟨b2,0,none⟩)) ?_
 refine ow 23 (.bool false) rfl (fun w' hS=>(rk 4 0 hS.1)) ?_
 refine ov 24 (.pointer (some ⟨b3,0,none⟩)) ?_
 refine ow 25 (.bool false) rfl (fun w' hS=>(rk 4 0 hS.2)) ?_
 refine ov 26 (.bool false) ?_
 refine ov 27 (.slice qo11 qk11 qc11) ?_
 refine ov 29 (.pointer (some ⟨b2,0,none⟩)) ?_
 refine ow 30 (.bool false) rfl (fun w' hS=>(rk 4 0 hS.1)) ?_
 refine ov 31 (.slice ro11 rk11 rc11) ?_
 refine oe ?_
 replace hq11:=hq11.kp gd24.kp
 refine ec 28 (signed_z (neg:=false) (Z:=(a/b)) hq11 (by omega) (fun _=>by simp;omega) hZ hK) ?_
 rintro e26 w26 ⟨⟨x26,y26,rfl,h26⟩,g26⟩
 refine ⟨_,rfl,?_⟩
 replace hB:=hB.trans g26
 replace L2:=L2.gr g26
 replace L3:=L3.gr g26
 refine ⟨⟨L2,L3⟩,?_⟩
 simp only [p3,p4]
 refine oe ?_
 have kq29:=gd24.kp.trans g26.kp
 replace hr11:=hr11.kp kq29
 refine ec 32 (signed_pf hr11 hR (Sz.of_le hu.sz (by omega)) hm) ?_
 rintro e28 w28 ⟨⟨k28,rfl,h28⟩,g28⟩
 refine ⟨_,rfl,?_⟩
 replace hB:=hB.trans g28
 replace L2:=L2.gr g28
 replace L3:=L3.gr g28
 refine ⟨⟨L2,L3⟩,?_⟩
 simp only [p3,p4]
 refine oe ?_
 replace L4:=L4.gr (g5.trans (g8.trans (g11.trans (gd24.trans (g26.trans g28)))))
 refine es 69 0 (.agg #[x26,y26]) [x26,y26] #[x26,y26] L4 hB q4 ⟨h26.one0,h26.one1,trivial⟩ fun w31 st31 kp31 L4 hB=>?_
 replace L2:=st31.lc L2 ne2_4
 replace L3:=st31.lc L3 ne3_4
 refine ⟨⟨L2,L3⟩,?_⟩
 refine oe ?_
 replace L5:=st31.lc (L5.gr (g8.trans (g11.trans (gd24.trans (g26.trans g28))))) (Ne.symm ne4_5)
 refine es 69 0 (.agg #[(.bool false),(.slice ro11 k28 rc11)]) [(.bool false),(.slice ro11 k28 rc11)] #[(.bool false),(.slice ro11 k28 rc11)] L5 hB q5 ⟨rfl,rfl,trivial⟩ fun w33 st33 kp33 L5 hB=>?_
 replace L2:=st33.lc L2 ne2_5
 replace L3:=st33.lc L3 ne3_5
 refine ⟨⟨L2,L3⟩,?_⟩
 refine ord_nil ?_
 refine k13 _ _ ?_
 try clear k13 K13
 refine wp_seq_k (fun K34 k34=>?_)
 refine wp_seq_k (fun K35 k35=>?_)
 refine rg [0,1,2,3,4,5,6,7,8,9] ?_
 refine sw 33 (.agg #[(.bool false),(.slice ro11 k28 rc11)]) rfl (rl 69 0 [(.bool false),(.slice ro11 k28 rc11)] L5) ?_
 refine se ?_
 have kq37:=kp31.trans kp33
 replace h28:=h28.kp kq37
 refine ec 34 (sign_pos h28 (by omega)) ?_
 rintro e36 w36 ⟨rfl,g36⟩
 refine ⟨_,rfl,?_⟩
 replace hB:=hB.trans g36
 simp only [p3,p4]
 refine sv 35 (.bool true) ?_
 refine sv 36 (.bool true) ?_
 refine sv 37 (.pointer (some ⟨b5,0,none⟩)) ?_
 replace L5:=L5.gr g36
 refine sw 38 (.bool false) rfl (rk 4 0 L5) ?_
 refine sv 39 (.pointer (some ⟨b3,0,none⟩)) ?_
 replace L3:=L3.gr g36
 refine sw 40 (.bool false) rfl (rk 4 0 L3) ?_
 refine sv 41 (.bool false) ?_
 refine sv 42 (.bool false) ?_
 refine sq_nil ?_
 refine k35 _ _ ?_
 try clear k35 K35
 refine wp_cond_false rfl ?_
 refine wp_skip ?_
 refine k34 _ _ ?_
 try clear k34 K34
 refine wp_seq_k (fun K38 k38=>?_)
 have gd40:=Gr.drew w36
 replace hB:=hB.trans gd40
 replace L4:=(st33.lc L4 ne4_5).gr (g36.trans gd40)
 replace L5:=L5.gr gd40
 refine wp_region_ort (fun _=>True) [([2],(fun w'=>Lc w' b4 #[x26,y26] 69)),([3],(fun w'=>Lc w' b5 #[(.bool false),(.slice ro11 k28 rc11)] 69))] [(true,0),(true,1),(false,2),(false,3),(true,4)] (by kernel_rfl) (by kernel_rfl) (by kernel_rfl) (by decide) (fun _ _ _ _ _ h=>h) trivial ⟨fun _=>L4,fun _=>L5,trivial⟩ ?_
 refine tw 49 (.agg #[x26,y26]) rfl (fun w' hS=>(rl 69 0 [x26,y26] (hS.2.1 (by kernel_rfl)))) ?_
 refine tw 50 (.agg #[(.bool false),(.slice ro11 k28 rc11)]) rfl (fun w' hS=>(rl 69 0 [(.bool false),(.slice ro11 k28 rc11)] (hS.2.2.1 (by kernel_rfl)))) ?_
 refine te ?_
 refine es 69 0 (.agg #[x26,y26]) [x26,y26] #[x26,y26] L4 hB q4 ⟨h26.one0,h26.one1,trivial⟩ fun w42 st42 kp42 L4 hB=>?_
 replace L5:=st42.lc L5 (Ne.symm ne4_5)
 refine ⟨trivial,⟨cameT (by kernel_rfl),fun _=>L5,trivial⟩,?_⟩
 refine te ?_
 refine es 69 0 (.agg #[(.bool false),(.slice ro11 k28 rc11)]) [(.bool false),(.slice ro11 k28 rc11)] #[(.bool false),(.slice ro11 k28 rc11)] L5 hB q5 ⟨rfl,rfl,trivial⟩ fun w44 st44 kp44 L5 hB=>?_
 refine ⟨trivial,⟨cameT (by kernel_rfl),cameT (by kernel_rfl),trivial⟩,?_⟩
 refine tv 6 (.int .i64 0) ?_
 refine ort_nil ?_
 refine k38 _ _ ?_
 try clear k38 K38
 refine wp_ret ?_
 replace L4:=st44.lc L4 ne4_5
 refine bodyPost_ret (v:=(.tuple #[(.agg #[x26,y26]),(.agg #[(.bool false),(.slice ro11 k28 rc11)]),(.int .i64 0)])) (ret_cell2_tmp' _ _ _ _ _ _ rfl rfl rfl L4 (by kernel_rfl) L5 (by kernel_rfl) rfl) rfl ⟨?_,hB⟩
 have kq45:=g28.kp.trans (kp31.trans (kp33.trans (g36.kp.trans (gd40.kp.trans (kp42.trans kp44)))))
 replace h26:=h26.kp kq45
 have kq46:=g36.kp.trans (gd40.kp.trans (kp42.trans kp44))
 replace h28:=h28.kp kq46
 exact ⟨_,_,_,_,rfl,h26,h28⟩

set_option maxRecDepth 100000 in
set_option maxHeartbeats 1000000 in
theorem divmod_t {w:World} {K m:Nat} {a b:Int} {ao bo:Option Addr} {la lb ca cb:Nat} (ha:Mag w ao la ca a) (hb:Mag w bo lb cb b) (hu:IsInt w m (.bool false) (.slice bo lb cb) b) (_hla:la≤1000000) (_hlb:lb≤1000000) (_hb0:0<b) (hR:0<a % b) (_hL:a % b<b) (_hQ:0≤a/b) (hZ:Sz K (-(a/b))) (_hK:K+64+1≤1000000) (_hm:m+m+1≤1000000):
    Calls Tryz.prog 110 #[(.agg #[(.bool true),(.slice ao la ca)]),(.agg #[(.bool false),(.slice bo lb cb)])] w fun e w'=>(∃ x' y' x3 y3,e=.returned (.tuple #[.agg #[x',y'],.agg #[x3,y3],.int .i64 0])∧IsInt w' (K+64+1) x' y' (-(a/b) - 1)∧IsInt w' (m+m+1) x3 y3 (-(a % b)+b))∧Gr w w':=by
 go_enter Tryz.func110,Tryz.ntmps110
 have hB:=Gr.refl w
 refine wp_seq_k (fun K1 k1=>?_)
 refine rg [0,1,2,3,4] ?_
 refine se ?_
 refine eb 69 #[(.bool true),(.slice ao la ca)] 2 hB fun b2 w2 g2 L2 o2 q2 hB=>?_
 simp only [p3,p4]
 refine se ?_
 refine eb 69 #[(.bool false),(.slice bo lb cb)] 3 hB fun b3 w3 g3 L3 o3 q3 hB=>?_
 simp only [p3,p4]
 refine se ?_
 refine ea 69 #[(.bool false),(.slice none 0 0)] 4 hB fun b4 w4 g4 L4 o4 q4 hB=>?_
 replace L2:=L2.gr g3
 have ne2_4:=L2.ne o4
 have ne3_4:=L3.ne o4
 simp only [p3,p4]
 refine se ?_
 refine ea 69 #[(.bool false),(.slice none 0 0)] 5 hB fun b5 w5 g5 L5 o5 q5 hB=>?_
 replace L2:=L2.gr g4
 have ne2_5:=L2.ne o5
 replace L3:=L3.gr g4
 have ne3_5:=L3.ne o5
 have ne4_5:=L4.ne o5
 simp only [p3,p4]
 refine sv 6 (.int .i64 0) ?_
 refine sq_nil ?_
 refine k1 _ _ ?_
 try clear k1 K1
 refine wp_seq_k (fun K6 k6=>?_)
 refine wp_seq_k (fun K7 k7=>?_)
 refine rg [0,1,2] ?_
 replace L3:=L3.gr g5
 refine sw 9 (.agg #[(.bool false),(.slice bo lb cb)]) rfl (rl 69 0 [(.bool false),(.slice bo lb cb)] L3) ?_
 refine se ?_
 have kq9:=g2.kp.trans (g3.kp.trans (g4.kp.trans g5.kp))
 replace hu:=hu.kp kq9
 refine ec 10 (sign_pos hu (by omega)) ?_
 rintro e8 w8 ⟨rfl,g8⟩
 refine ⟨_,rfl,?_⟩
 replace hB:=hB.trans g8
 simp only [p3,p4]
 refine sv 11 (.bool false) ?_
 refine sq_nil ?_
 refine k7 _ _ ?_
 try clear k7 K7
 refine wp_cond_false rfl ?_
 refine wp_skip ?_
 refine k6 _ _ ?_
 try clear k6 K6
 refine wp_seq_k (fun K10 k10=>?_)
 refine rg [0,1,2,3,4,5,6,7,8,9] ?_
 refine sv 15 (.pointer (some ⟨b2,1,none⟩)) ?_
 replace L2:=L2.gr (g5.trans g8)
 refine sw 16 (.slice ao la ca) rfl (rk 67 1 L2) ?_
 refine sv 17 (.pointer (some ⟨b3,1,none⟩)) ?_
 replace L3:=L3.gr g8
 refine sw 18 (.slice bo lb cb) rfl (rk 67 1 L3) ?_
 refine se ?_
 have kq12:=g2.kp.trans (g3.kp.trans (g4.kp.trans (g5.kp.trans g8.kp)))
 replace ha:=ha.kp kq12
 replace hb:=hb.kp kq12
 refine ec 19 (divide_m ha hb (by omega) (by omega) (by omega)) ?_
 rintro e11 w11 ⟨⟨qo11,qk11,qc11,ro11,rk11,rc11,rfl,hq11,hr11⟩,g11⟩
 refine ⟨_,rfl,?_⟩
 replace hB:=hB.trans g11
 simp only [p3,p4]
 refine sv 14 (.tuple #[(.slice qo11 qk11 qc11),(.slice ro11 rk11 rc11)]) ?_
 refine sv 20 (.slice qo11 qk11 qc11) ?_
 refine sv 21 (.slice ro11 rk11 rc11) ?_
 refine sv 7 (.slice qo11 qk11 qc11) ?_
 refine sv 8 (.slice ro11 rk11 rc11) ?_
 refine sq_nil ?_
 refine k10 _ _ ?_
 try clear k10 K10
 refine wp_seq_k (fun K13 k13=>?_)
 have gd24:=Gr.drew w11
 replace hB:=hB.trans gd24
 replace L2:=L2.gr (g11.trans gd24)
 replace L3:=L3.gr (g11.trans gd24)
 refine wp_region_ord (fun w'=>Lc w' b2 #[(.bool true),(.slice ao la ca)] 69∧Lc w' b3 #[(.bool false),(.slice bo lb cb)] 69) [(true,0),(true,1),(true,2),(true,3),(true,4),(true,5),(true,7),(true,8),(true,9),(false,6),(false,10),(false,11),(false,12)] (by kernel_rfl) (by kernel_rfl) (by kernel_rfl) (by decide) (fun _ _ _ _ _ h=>h) ⟨L2,L3⟩ ?_
 refine ov 22 (.pointer (some ⟨b2,0,none⟩)) ?_
 refine ow 23 (.bool true) rfl (fun w' hS=>(rk 4 0 hS.1)) ?_
 refine ov 24 (.pointer (some ⟨b3,0,none⟩)) ?_
 refine ow 25 (.bool false) rfl (fun w' hS=>(rk 4 0 hS.2)) ?_
 refine ov 26 (.bool true) ?_
 refine ov 27 (.slice qo11 qk11 qc11) ?_
 refine ov 29 (.pointer (some ⟨b2,0,none⟩)) ?_
 refine ow 30 (.bool true) rfl (fun w' hS=>(rk 4 0 hS.1)) ?_
 refine ov 31 (.slice ro11 rk11 rc11) ?_
 refine oe ?_
 replace hq11:=hq11.kp gd24.kp
 refine ec 28 (signed_z (neg:=true) (Z:=(-(a/b))) hq11 (by omega) (fun _=>by simp;omega) hZ (by omega)) ?_
 rintro e26 w26 ⟨⟨x26,y26,rfl,h26⟩,g26⟩
 refine ⟨_,rfl,?_⟩
 replace hB:=hB.trans g26
 replace L2:=L2.gr g26
 replace L3:=L3.gr g26
 refine ⟨⟨L2,L3⟩,?_⟩
 simp only [p3,p4]
 refine oe ?_
 have kq29:=gd24.kp.trans g26.kp
 replace hr11:=hr11.kp kq29
 refine ec 32 (signed_pt hr11 hR (Sz.of_le hu.sz (by omega)) (by omega)) ?_
 rintro e28 w28 ⟨⟨k28,rfl,h28⟩,g28⟩
 refine ⟨_,rfl,?_⟩
 replace hB:=hB.trans g28
 replace L2:=L2.gr g28
 replace L3:=L3.gr g28
 refine ⟨⟨L2,L3⟩,?_⟩
 simp only [p3,p4]
 refine oe ?_
 replace L4:=L4.gr (g5.trans (g8.trans (g11.trans (gd24.trans (g26.trans g28)))))
 refine es 69 0 (.agg #[x26,y26]) [x26,y26] #[x26,y26] L4 hB q4 ⟨h26.one0,h26.one1,trivial⟩ fun w31 st31 kp31 L4 hB=>?_
 replace L2:=st31.lc L2 ne2_4
 replace L3:=st31.lc L3 ne3_4
 refine ⟨⟨L2,L3⟩,?_⟩
 refine oe ?_
 replace L5:=st31.lc (L5.gr (g8.trans (g11.trans (gd24.trans (g26.trans g28))))) (Ne.symm ne4_5)
 refine es 69 0 (.agg #[(.bool true),(.slice ro11 k28 rc11)]) [(.bool true),(.slice ro11 k28 rc11)] #[(.bool true),(.slice ro11 k28 rc11)] L5 hB q5 ⟨rfl,rfl,trivial⟩ fun w33 st33 kp33 L5 hB=>?_
 replace L2:=st33.lc L2 ne2_5
 replace L3:=st33.lc L3 ne3_5
 refine ⟨⟨L2,L3⟩,?_⟩
 refine ord_nil ?_
 refine k13 _ _ ?_
 try clear k13 K13
 refine wp_seq_k (fun K34 k34=>?_)
 refine wp_seq_k (fun K35 k35=>?_)
 refine rg [0,1,2,3,4,5,6,7,8,9] ?_
 refine sw 33 (.agg #[(.bool true),(.slice ro11 k28 rc11)]) rfl (rl 69 0 [(.bool true),(.slice ro11 k28 rc11)] L5) ?_
 refine se ?_
 have kq37:=kp31.trans kp33
 replace h28:=h28.kp kq37
 refine ec 34 (sign_neg h28 (by omega)) ?_
 rintro e36 w36 ⟨rfl,g36⟩
 refine ⟨_,rfl,?_⟩
 replace hB:=hB.trans g36
 simp only [p3,p4]
 refine sv 35 (.bool true) ?_
 refine sv 36 (.bool true) ?_
 refine sv 37 (.pointer (some ⟨b5,0,none⟩)) ?_
 replace L5:=L5.gr g36
 refine sw 38 (.bool true) rfl (rk 4 0 L5) ?_
 refine sv 39 (.pointer (some ⟨b3,0,none⟩)) ?_
 replace L3:=L3.gr g36
 refine sw 40 (.bool false) rfl (rk 4 0 L3) ?_
 refine sv 41 (.bool true) ?_
 refine sv 42 (.bool true) ?_
 refine sq_nil ?_
 refine k35 _ _ ?_
 try clear k35 K35
 refine wp_cond_true rfl ?_
 have gd39:=Gr.drew w36
 replace hB:=hB.trans gd39
 replace L3:=L3.gr gd39
 replace L4:=(st33.lc L4 ne4_5).gr (g36.trans gd39)
 replace L5:=L5.gr gd39
 refine wp_region_ort (fun w'=>Lc w' b3 #[(.bool false),(.slice bo lb cb)] 69) [([6],(fun w'=>Lc w' b4 #[x26,y26] 69)),([7],(fun w'=>Lc w' b5 #[(.bool true),(.slice ro11 k28 rc11)] 69))] [(true,0),(true,3),(true,4),(false,1),(false,2),(false,5),(false,6),(false,7)] (by kernel_rfl) (by kernel_rfl) (by kernel_rfl) (by decide) (fun _ _ _ _ _ h=>h) L3 ⟨fun _=>L4,fun _=>L5,trivial⟩ ?_
 refine tw 43 (.agg #[x26,y26]) rfl (fun w' hS=>(rl 69 0 [x26,y26] (hS.2.1 (by kernel_rfl)))) ?_
 refine tw 46 (.agg #[(.bool true),(.slice ro11 k28 rc11)]) rfl (fun w' hS=>(rl 69 0 [(.bool true),(.slice ro11 k28 rc11)] (hS.2.2.1 (by kernel_rfl)))) ?_
 refine tw 47 (.agg #[(.bool false),(.slice bo lb cb)]) rfl (fun w' hS=>(rl 69 0 [(.bool false),(.slice bo lb cb)] hS.1)) ?_
 refine te ?_
 refine ec 44 (from_i (1) (by omega) (by omega) _) ?_
 rintro e41 w41 ⟨⟨x41,y41,rfl,h41⟩,g41⟩
 refine ⟨_,rfl,?_⟩
 replace hB:=hB.trans g41
 replace L3:=L3.gr g41
 replace L4:=L4.gr g41
 replace L5:=L5.gr g41
 refine ⟨L3,⟨fun _=>L4,fun _=>L5,trivial⟩,?_⟩
 simp only [p3,p4]
 refine te ?_
 have kq44:=g28.kp.trans (kp31.trans (kp33.trans (g36.kp.trans (gd39.kp.trans g41.kp))))
 replace h26:=h26.kp kq44
 refine ec 45 (sub_i h26 h41 (by omega)) ?_
 rintro e43 w43 ⟨⟨x43,y43,rfl,h43⟩,g43⟩
 refine ⟨_,rfl,?_⟩
 replace hB:=hB.trans g43
 replace L3:=L3.gr g43
 replace L4:=L4.gr g43
 replace L5:=L5.gr g43
 refine ⟨L3,⟨fun _=>L4,fun _=>L5,trivial⟩,?_⟩
 simp only [p3,p4]
 refine te ?_
 have kq47:=g36.kp.trans (gd39.kp.trans (g41.kp.trans g43.kp))
 replace h28:=h28.kp kq47
 have kq48:=g8.kp.trans (g11.kp.trans (gd24.kp.trans (g26.kp.trans (g28.kp.trans (kp31.trans (kp33.trans (g36.kp.trans (gd39.kp.trans (g41.kp.trans g43.kp)))))))))
 replace hu:=hu.kp kq48
 refine ec 48 (add_i h28 hu (by omega)) ?_
 rintro e46 w46 ⟨⟨x46,y46,rfl,h46⟩,g46⟩
 refine ⟨_,rfl,?_⟩
 replace hB:=hB.trans g46
 replace L3:=L3.gr g46
 replace L4:=L4.gr g46
 replace L5:=L5.gr g46
 refine ⟨L3,⟨fun _=>L4,fun _=>L5,trivial⟩,?_⟩
 simp only [p3,p4]
 refine te ?_
 refine es 69 0 (.agg #[x43,y43]) [x43,y43] #[x43,y43] L4 hB q4 ⟨h43.one0,h43.one1,trivial⟩ fun w50 st50 kp50 L4 hB=>?_
 replace L3:=st50.lc L3 ne3_4
 replace L5:=st50.lc L5 (Ne.symm ne4_5)
 refine ⟨L3,⟨cameT (by kernel_rfl),fun _=>L5,trivial⟩,?_⟩
 refine te ?_
 refine es 69 0 (.agg #[x46,y46]) [x46,y46] #[x46,y46] L5 hB q5 ⟨h46.one0,h46.one1,trivial⟩ fun w52 st52 kp52 L5 hB=>?_
 replace L3:=st52.lc L3 ne3_5
 refine ⟨L3,⟨cameT (by kernel_rfl),cameT (by kernel_rfl),trivial⟩,?_⟩
 refine ort_nil ?_
 refine k34 _ _ ?_
 try clear k34 K34
 refine wp_seq_k (fun K53 k53=>?_)
 have gd55:=Gr.drew w52
 replace hB:=hB.trans gd55
 replace L4:=(st52.lc L4 ne4_5).gr gd55
 replace L5:=L5.gr gd55
 refine wp_region_ort (fun _=>True) [([2],(fun w'=>Lc w' b4 #[x43,y43] 69)),([3],(fun w'=>Lc w' b5 #[x46,y46] 69))] [(true,0),(true,1),(false,2),(false,3),(true,4)] (by kernel_rfl) (by kernel_rfl) (by kernel_rfl) (by decide) (fun _ _ _ _ _ h=>h) trivial ⟨fun _=>L4,fun _=>L5,trivial⟩ ?_
 refine tw 49 (.agg #[x43,y43]) rfl (fun w' hS=>(rl 69 0 [x43,y43] (hS.2.1 (by kernel_rfl)))) ?_
 refine tw 50 (.agg #[x46,y46]) rfl (fun w' hS=>(rl 69 0 [x46,y46] (hS.2.2.1 (by kernel_rfl)))) ?_
 refine te ?_
 refine es 69 0 (.agg #[x43,y43]) [x43,y43] #[x43,y43] L4 hB q4 ⟨h43.one0,h43.one1,trivial⟩ fun w57 st57 kp57 L4 hB=>?_
 replace L5:=st57.lc L5 (Ne.symm ne4_5)
 refine ⟨trivial,⟨cameT (by kernel_rfl),fun _=>L5,trivial⟩,?_⟩
 refine te ?_
 refine es 69 0 (.agg #[x46,y46]) [x46,y46] #[x46,y46] L5 hB q5 ⟨h46.one0,h46.one1,trivial⟩ fun w59 st59 kp59 L5 hB=>?_
 refine ⟨trivial,⟨cameT (by kernel_rfl),cameT (by kernel_rfl),trivial⟩,?_⟩
 refine tv 6 (.int .i64 0) ?_
 refine ort_nil ?_
 refine k53 _ _ ?_
 try clear k53 K53
 refine wp_ret ?_
 replace L4:=st59.lc L4 ne4_5
 refine bodyPost_ret (v:=(.tuple #[(.agg #[x43,y43]),(.agg #[x46,y46]),(.int .i64 0)])) (ret_cell2_tmp' _ _ _ _ _ _ rfl rfl rfl L4 (by kernel_rfl) L5 (by kernel_rfl) rfl) rfl ⟨?_,hB⟩
 have kq60:=g46.kp.trans (kp50.trans (kp52.trans (gd55.kp.trans (kp57.trans kp59))))
 replace h43:=h43.kp kq60
 have kq61:=kp50.trans (kp52.trans (gd55.kp.trans (kp57.trans kp59)))
 replace h46:=h46.kp kq61
 exact ⟨_,_,_,_,rfl,h43,h46⟩

set_option maxRecDepth 100000 in
set_option maxHeartbeats 1000000 in
theorem one_i (w:World):
    Calls Tryz.prog 101 #[] w fun e w'=>(∃ x' y',e=.returned (.agg #[x',y'])∧IsInt w' 64 x' y' (1))∧Gr w w':=by
 go_enter Tryz.func101,Tryz.ntmps101
 have hB:=Gr.refl w
 refine wp_seq_k (fun K1 k1=>?_)
 refine rg [0] ?_
 refine se ?_
 refine ea 69 #[(.bool false),(.slice none 0 0)] 0 hB fun b2 w2 g2 L2 o2 q2 hB=>?_
 simp only [p3]
 refine sq_nil ?_
 refine k1 _ _ ?_
 try clear k1 K1
 refine wp_seq_k (fun K3 k3=>?_)
 refine rg [0,1] ?_
 refine se ?_
 refine ec 1 (from_i (1) (by omega) (by omega) _) ?_
 rintro e4 w4 ⟨⟨x4,y4,rfl,h4⟩,g4⟩
 refine ⟨_,rfl,?_⟩
 replace hB:=hB.trans g4
 simp only [p3,p4]
 refine se ?_
 replace L2:=L2.gr g4
 refine es 69 0 (.agg #[x4,y4]) [x4,y4] #[x4,y4] L2 hB q2 ⟨h4.one0,h4.one1,trivial⟩ fun w5 st5 kp5 L2 hB=>?_
 refine sq_nil ?_
 refine k3 _ _ ?_
 try clear k3 K3
 refine wp_ret ?_
 refine bodyPost_ret (v:=(.agg #[x4,y4])) (ret_cell _ _ _ rfl rfl L2 (by kernel_rfl)) rfl ⟨?_,hB⟩
 replace h4:=h4.kp kp5
 exact ⟨_,_,rfl,h4⟩

theorem divmod_i {k m:Nat} {x y x2 y2:Value} {z u:Int} {w:World} (hz:IsInt w k x y z) (hu:IsInt w m x2 y2 u) (hu0:0<u) (hkm:k+k+m+m+66≤1000000):
    Calls Tryz.prog 110 #[.agg #[x,y],.agg #[x2,y2]] w fun e w'=>(∃ x' y' x3 y3,e=.returned (.tuple #[.agg #[x',y'],.agg #[x3,y3],.int .i64 0])∧IsInt w' k x' y' (z/u)∧IsInt w' m x3 y3 (z % u))∧Gr w w':=by
  have hu':=hu
  obtain ⟨ao,la,ca,rfl,rfl,ha,hs⟩:=hz
  obtain ⟨bo,lb,cb,rfl,rfl,hb,ht⟩:=hu
  have hla:=ha.nl.len_sz hs.nat
  have hlb:=hb.nl.len_sz ht.nat
  have e0:((u.natAbs:Nat):Int)=u:=by omega
  have e1:decide (u<0)=false:=by simp;omega
  rw [e1] at hu' ⊢
  rw [e0] at hb
  have hM:=Int.emod_nonneg (z.natAbs:Int) (b:=u) (by omega)
  have hL:=Int.emod_lt_of_pos (z.natAbs:Int) hu0
  have hQ:0≤(z.natAbs:Int)/u:=Int.ediv_nonneg (by omega) (by omega)
  have hD:=Int.mul_ediv_add_emod (z.natAbs:Int) u
  have hqle:(z.natAbs:Int)/u≤(z.natAbs:Int):=Int.ediv_le_self _ (by omega)
  have hkk:Sz k (z/u):=by
    refine hs.of_le ?_
    rcases Int.lt_or_le z 0 with h | h
    · have h1:z≤z/u:=by
        rw [Int.le_ediv_iff_mul_le hu0]
        have:z*u≤z*1:=Int.mul_le_mul_of_nonpos_left (by omega) (by omega)
        omega
      have h2:z/u<0:=Int.ediv_neg_of_neg_of_pos h hu0
      omega
    · have h1:z/u≤z:=Int.ediv_le_self _ h
      have h2:0≤z/u:=Int.ediv_nonneg h (by omega)
      omega
  have hmm:Sz m (z % u):=by
    refine ht.of_le ?_
    have:=Int.emod_nonneg z (b:=u) (by omega)
    have:=Int.emod_lt_of_pos z hu0
    omega
  -- z in terms of its magnitude
  have key:∀ q r:Int,z=u*q+r→0≤r→r<u→z/u=q∧z % u=r:=fun q r h h0 h1=>by
    rw [Int.ediv_emod_unique hu0]
    exact ⟨by omega,h0,h1⟩
  by_cases h0:(z.natAbs:Int) % u=0
  · have hk:=key (if z<0 then -((z.natAbs:Int)/u) else (z.natAbs:Int)/u) 0 (by
      split
      · rw [Int.mul_neg];omega
      · omega) (by omega) hu0
    refine (divmod_0 (Z:=z/u) (K:=k) ha hb hu' (by omega) (by omega) hu0 h0 ?_ (fun hp=>?_) hkk (by omega) (by omega)).mono ?_
    · rw [hk.1];split<;>omega
    · rw [hk.1]
      by_cases hz0:z<0
      · simp [hz0];omega
      · simp [hz0];omega
    · rintro e w1 ⟨⟨x',y',x3,y3,he,h1,h2⟩,g⟩
      exact ⟨⟨x',y',x3,y3,he,h1,by rw [hk.2];exact h2⟩,g⟩
  · by_cases hz0:z<0
    · have e2:decide (z<0)=true:=by simpa using hz0
      rw [e2]
      have hk:=key (-((z.natAbs:Int)/u) - 1) (-((z.natAbs:Int) % u)+u) (by
        rw [Int.mul_sub,Int.mul_neg];omega) (by omega) (by omega)
      refine (divmod_t (K:=k) ha hb hu' (by omega) (by omega) hu0 (by omega) hL hQ (hs.of_le (by omega)) (by omega) (by omega)).mono ?_
      rintro e w1 ⟨⟨x',y',x3,y3,he,h1,h2⟩,g⟩
      rw [← hk.1] at h1
      rw [← hk.2] at h2
      exact ⟨⟨x',y',x3,y3,he,h1.resz hkk,h2.resz hmm⟩,g⟩
    · have e2:decide (z<0)=false:=by simpa using hz0
      rw [e2]
      have ez:(z.natAbs:Int)=z:=by omega
      refine (divmod_f (K:=k) ha hb hu' (by omega) (by omega) hu0 (by omega) hL hQ (by rw [ez];exact hkk) (by omega) (by omega)).mono ?_
      rintro e w1 ⟨⟨x',y',x3,y3,he,h1,h2⟩,g⟩
      rw [ez] at h1 h2
      exact ⟨⟨x',y',x3,y3,he,h1,h2⟩,g⟩

theorem compare_i {k m:Nat} {x y x2 y2:Value} {z u:Int} {w:World} (hz:IsInt w k x y z) (hu:IsInt w m x2 y2 u) (hk:k≤1000000) (hm:m≤1000000):
    Calls Tryz.prog 83 #[.agg #[x,y],.agg #[x2,y2]] w fun e w'=>e=.returned (.int .i64 (sgn (z - u)))∧Gr w w':=by
  obtain ⟨ao,la,ca,rfl,rfl,ha,hs⟩:=hz
  obtain ⟨bo,lb,cb,rfl,rfl,hb,ht⟩:=hu
  have hla:=ha.nl.len_sz hs.nat
  have hlb:=hb.nl.len_sz ht.nat
  by_cases h1:z<0<;>by_cases h2:u<0
  · have d1:decide (z<0)=true:=by simpa using h1
    have d2:decide (u<0)=true:=by simpa using h2
    rw [d1,d2]
    have e:z - u=(u.natAbs:Int) - (z.natAbs:Int):=by omega
    rw [e];exact cmp_tt ha hb (by omega) (by omega)
  · have d1:decide (z<0)=true:=by simpa using h1
    have d2:decide (u<0)=false:=by simpa using h2
    rw [d1,d2,sgn_neg (by omega)];exact cmp_tf ha hb (by omega) (by omega)
  · have d1:decide (z<0)=false:=by simpa using h1
    have d2:decide (u<0)=true:=by simpa using h2
    rw [d1,d2,sgn_pos (by omega)];exact cmp_ft ha hb (by omega) (by omega)
  · have d1:decide (z<0)=false:=by simpa using h1
    have d2:decide (u<0)=false:=by simpa using h2
    rw [d1,d2]
    have e:z - u=(z.natAbs:Int) - (u.natAbs:Int):=by omega
    rw [e];exact cmp_ff ha hb (by omega) (by omega)

/-! ### rationals -/
/-- the four cells of a rational -/
structure IsRat (w:World) (k:Nat) (c0 c1 c2 c3:Value) (q:Rat):Prop where
  num:IsInt w k c0 c1 q.num
  den:∃ D,IsInt w k c2 c3 D∧(D=(q.den:Int)∨D=0∧q.den=1)
  big:64≤k
theorem IsRat.kp {w w':World} {k:Nat} {c0 c1 c2 c3:Value} {q:Rat} (h:IsRat w k c0 c1 c2 c3 q) (hb:Kp w w'):IsRat w' k c0 c1 c2 c3 q:=by
  obtain ⟨h1,⟨D,h2,h3⟩,h4⟩:=h
  exact ⟨h1.kp hb,⟨D,h2.kp hb,h3⟩,h4⟩
theorem IsRat.gr {w w':World} {k:Nat} {c0 c1 c2 c3:Value} {q:Rat} (h:IsRat w k c0 c1 c2 c3 q) (hb:Gr w w'):IsRat w' k c0 c1 c2 c3 q:=h.kp hb.kp
theorem IsRat.one0 {w:World} {k:Nat} {c0 c1 c2 c3:Value} {q:Rat} (h:IsRat w k c0 c1 c2 c3 q):c0.oneCell'=true:=h.num.one0
theorem IsRat.one1 {w:World} {k:Nat} {c0 c1 c2 c3:Value} {q:Rat} (h:IsRat w k c0 c1 c2 c3 q):c1.oneCell'=true:=h.num.one1
theorem IsRat.one2 {w:World} {k:Nat} {c0 c1 c2 c3:Value} {q:Rat} (h:IsRat w k c0 c1 c2 c3 q):c2.oneCell'=true:=by
  obtain ⟨D,h2,_⟩:=h.den;exact h2.one0
theorem IsRat.one3 {w:World} {k:Nat} {c0 c1 c2 c3:Value} {q:Rat} (h:IsRat w k c0 c1 c2 c3 q):c3.oneCell'=true:=by
  obtain ⟨D,h2,_⟩:=h.den;exact h2.one1
theorem IsRat.mono {w:World} {k m:Nat} {c0 c1 c2 c3:Value} {q:Rat} (h:IsRat w k c0 c1 c2 c3 q) (hk:k≤m):IsRat w m c0 c1 c2 c3 q:=by
  obtain ⟨h1,⟨D,h2,h3⟩,h4⟩:=h
  exact ⟨h1.mono hk,⟨D,h2.mono hk,h3⟩,Nat.le_trans h4 hk⟩
theorem IsRat.zero (w:World) {k:Nat} (hk:64≤k):IsRat w k (.bool false) (.slice none 0 0) (.bool false) (.slice none 0 0) 0:=
  ⟨IsInt.zero w k,⟨0,IsInt.zero w k,.inr ⟨rfl,rfl⟩⟩,hk⟩
theorem IsRat.int {w:World} {k:Nat} {c0 c1:Value} {z:Int} (h:IsInt w k c0 c1 z) (hk:64≤k):IsRat w k c0 c1 (.bool false) (.slice none 0 0) (z:Rat):=
  ⟨h,⟨0,IsInt.zero w k,.inr ⟨rfl,rfl⟩⟩,hk⟩
set_option maxRecDepth 100000 in
set_option maxHeartbeats 1000000 in
theorem whole_z {k:Nat} {c0 c1 c2 c3:Value} {w:World} (hd:IsInt w k c2 c3 0):
    Calls Tryz.prog 80 #[(.agg #[c0,c1,c2,c3])] w fun e w'=>e=.returned (.bool true)∧Gr w w':=by
 go_enter Tryz.func80,Tryz.ntmps80
 have hB:=Gr.refl w
 refine wp_seq_k (fun K1 k1=>?_)
 refine rg [0,1] ?_
 refine se ?_
 refine eb 71 #[c0,c1,c2,c3] 1 hB fun b2 w2 g2 L2 o2 q2 hB=>?_
 simp only [p3,p4]
 refine sv 2 (.bool false) ?_
 refine sq_nil ?_
 refine k1 _ _ ?_
 try clear k1 K1
 refine wp_seq_k (fun K3 k3=>?_)
 have gd8:=Gr.drew w2
 replace hB:=hB.trans gd8
 replace L2:=L2.gr gd8
 refine wp_region_ord (fun w'=>Lc w' b2 #[c0,c1,c2,c3] 71) [(true,0),(true,1),(false,2),(true,3),(true,4),(true,5),(true,6),(false,7),(false,8),(true,9),(true,10),(true,11)] (by kernel_rfl) (by kernel_rfl) (by kernel_rfl) (by decide) (fun _ _ _ _ _ h=>h) L2 ?_
 refine ov 3 (.pointer (some ⟨b2,2,none⟩)) ?_
 refine ow 4 (.agg #[c2,c3]) rfl (fun w' hS=>(rl 69 2 [c2,c3] hS)) ?_
 refine oe ?_
 have kq11:=g2.kp.trans gd8.kp
 replace hd:=hd.kp kq11
 refine ec 5 (sign_zero hd) ?_
 rintro e10 w10 ⟨rfl,g10⟩
 refine ⟨_,rfl,?_⟩
 replace hB:=hB.trans g10
 replace L2:=L2.gr g10
 refine ⟨L2,?_⟩
 simp only [p3,p4]
 refine ov 6 (.bool true) ?_
 refine ov 7 (.bool true) ?_
 refine os 8 ?_
 refine os 9 ?_
 refine oz 10 L2 ?_
 refine oz 11 L2 ?_
 refine os 12 ?_
 refine ov 13 (.bool true) ?_
 refine ov 2 (.bool true) ?_
 refine ord_nil ?_
 refine k3 _ _ ?_
 try clear k3 K3
 refine wp_ret ?_
 refine bodyPost_ret (v:=(.bool true)) (ret_tmp rfl rfl) rfl ⟨?_,hB⟩
 exact rfl

set_option maxRecDepth 100000 in
set_option maxHeartbeats 1000000 in
theorem whole_p {k:Nat} {c0 c1 c2 c3:Value} {D:Int} {w:World} (hd:IsInt w k c2 c3 D) (_h0:0<D) (_hk:k≤1000000):
    Calls Tryz.prog 80 #[(.agg #[c0,c1,c2,c3])] w fun e w'=>e=.returned (.bool (sgn (D - 1)==0))∧Gr w w':=by
 go_enter Tryz.func80,Tryz.ntmps80
 have hB:=Gr.refl w
 refine wp_seq_k (fun K1 k1=>?_)
 refine rg [0,1] ?_
 refine se ?_
 refine eb 71 #[c0,c1,c2,c3] 1 hB fun b2 w2 g2 L2 o2 q2 hB=>?_
 simp only [p3,p4]
 refine sv 2 (.bool false) ?_
 refine sq_nil ?_
 refine k1 _ _ ?_
 try clear k1 K1
 refine wp_seq_k (fun K3 k3=>?_)
 have gd13:=Gr.drew w2
 replace hB:=hB.trans gd13
 replace L2:=L2.gr gd13
 refine wp_region_ord (fun w'=>Lc w' b2 #[c0,c1,c2,c3] 71) [(true,0),(true,1),(false,2),(true,3),(true,4),(true,5),(true,6),(false,7),(false,8),(true,9),(true,10),(true,11)] (by kernel_rfl) (by kernel_rfl) (by kernel_rfl) (by decide) (fun _ _ _ _ _ h=>h) L2 ?_
 refine ov 3 (.pointer (some ⟨b2,2,none⟩)) ?_
 refine ow 4 (.agg #[c2,c3]) rfl (fun w' hS=>(rl 69 2 [c2,c3] hS)) ?_
 refine oe ?_
 have kq16:=g2.kp.trans gd13.kp
 replace hd:=hd.kp kq16
 refine ec 5 (sign_pos hd (by omega)) ?_
 rintro e15 w15 ⟨rfl,g15⟩
 refine ⟨_,rfl,?_⟩
 replace hB:=hB.trans g15
 replace L2:=L2.gr g15
 refine ⟨L2,?_⟩
 simp only [p3,p4]
 refine ov 6 (.bool false) ?_
 refine ov 7 (.bool false) ?_
 refine ov 8 (.pointer (some ⟨b2,2,none⟩)) ?_
 refine ow 9 (.agg #[c2,c3]) rfl (fun w' hS=>(rl 69 2 [c2,c3] hS)) ?_
 refine oe ?_
 refine ec 10 (one_i _) ?_
 rintro e18 w18 ⟨⟨x18,y18,rfl,h18⟩,g18⟩
 refine ⟨_,rfl,?_⟩
 replace hB:=hB.trans g18
 replace L2:=L2.gr g18
 refine ⟨L2,?_⟩
 simp only [p3,p4]
 refine oe ?_
 have kq21:=g15.kp.trans g18.kp
 replace hd:=hd.kp kq21
 refine ec 11 (compare_i hd h18 (by omega) (by omega)) ?_
 rintro e20 w20 ⟨rfl,g20⟩
 refine ⟨_,rfl,?_⟩
 replace hB:=hB.trans g20
 replace L2:=L2.gr g20
 refine ⟨L2,?_⟩
 simp only [p3,p4]
 refine ov 12 (.bool ((sgn (D - 1)==(0:Int)))) ?_
 refine ov 13 (.bool ((sgn (D - 1)==(0:Int)))) ?_
 refine ov 2 (.bool ((sgn (D - 1)==(0:Int)))) ?_
 refine ord_nil ?_
 refine k3 _ _ ?_
 try clear k3 K3
 refine wp_ret ?_
 refine bodyPost_ret (v:=(.bool ((sgn (D - 1)==(0:Int))))) (ret_tmp rfl rfl) rfl ⟨?_,hB⟩
 exact rfl

set_option maxRecDepth 100000 in
set_option maxHeartbeats 1000000 in
theorem den_z {k:Nat} {c0 c1 c2 c3:Value} {w:World} (hd:IsInt w k c2 c3 0):
    Calls Tryz.prog 85 #[(.agg #[c0,c1,c2,c3])] w fun e w'=>(∃ x' y',e=.returned (.agg #[x',y'])∧IsInt w' 64 x' y' (1))∧Gr w w':=by
 go_enter Tryz.func85,Tryz.ntmps85
 have hB:=Gr.refl w
 refine wp_seq_k (fun K1 k1=>?_)
 refine rg [0,1] ?_
 refine se ?_
 refine eb 71 #[c0,c1,c2,c3] 1 hB fun b2 w2 g2 L2 o2 q2 hB=>?_
 simp only [p3,p4]
 refine se ?_
 refine ea 69 #[(.bool false),(.slice none 0 0)] 2 hB fun b3 w3 g3 L3 o3 q3 hB=>?_
 simp only [p3,p4]
 refine sq_nil ?_
 refine k1 _ _ ?_
 try clear k1 K1
 refine wp_seq_k (fun K4 k4=>?_)
 refine wp_seq_k (fun K5 k5=>?_)
 refine rg [0,1,2,3] ?_
 refine sv 3 (.pointer (some ⟨b2,2,none⟩)) ?_
 replace L2:=L2.gr g3
 refine sw 4 (.agg #[c2,c3]) rfl (rl 69 2 [c2,c3] L2) ?_
 refine se ?_
 have kq7:=g2.kp.trans g3.kp
 replace hd:=hd.kp kq7
 refine ec 5 (sign_zero hd) ?_
 rintro e6 w6 ⟨rfl,g6⟩
 refine ⟨_,rfl,?_⟩
 replace hB:=hB.trans g6
 simp only [p3,p4]
 refine sv 6 (.bool true) ?_
 refine sq_nil ?_
 refine k5 _ _ ?_
 try clear k5 K5
 refine wp_cond_true rfl ?_
 refine wp_seq_k (fun K8 k8=>?_)
 refine rg [0,1] ?_
 refine se ?_
 refine ec 7 (one_i _) ?_
 rintro e9 w9 ⟨⟨x9,y9,rfl,h9⟩,g9⟩
 refine ⟨_,rfl,?_⟩
 replace hB:=hB.trans g9
 simp only [p3,p4]
 refine se ?_
 replace L3:=L3.gr (g6.trans g9)
 refine es 69 0 (.agg #[x9,y9]) [x9,y9] #[x9,y9] L3 hB q3 ⟨h9.one0,h9.one1,trivial⟩ fun w10 st10 kp10 L3 hB=>?_
 refine sq_nil ?_
 refine k8 _ _ ?_
 try clear k8 K8
 refine wp_ret ?_
 simp only [Exit.then]
 refine bodyPost_ret (v:=(.agg #[x9,y9])) (ret_cell _ _ _ rfl rfl L3 (by kernel_rfl)) rfl ⟨?_,hB⟩
 replace h9:=h9.kp kp10
 exact ⟨_,_,rfl,h9⟩

set_option maxRecDepth 100000 in
set_option maxHeartbeats 1000000 in
theorem den_p {k:Nat} {c0 c1 c2 c3:Value} {D:Int} {w:World} (hd:IsInt w k c2 c3 D) (_h0:0<D):
    Calls Tryz.prog 85 #[(.agg #[c0,c1,c2,c3])] w fun e w'=>(∃ x' y',e=.returned (.agg #[x',y'])∧IsInt w' k x' y' (D))∧Gr w w':=by
 go_enter Tryz.func85,Tryz.ntmps85
 have hB:=Gr.refl w
 refine wp_seq_k (fun K1 k1=>?_)
 refine rg [0,1] ?_
 refine se ?_
 refine eb 71 #[c0,c1,c2,c3] 1 hB fun b2 w2 g2 L2 o2 q2 hB=>?_
 simp only [p3,p4]
 refine se ?_
 refine ea 69 #[(.bool false),(.slice none 0 0)] 2 hB fun b3 w3 g3 L3 o3 q3 hB=>?_
 simp only [p3,p4]
 refine sq_nil ?_
 refine k1 _ _ ?_
 try clear k1 K1
 refine wp_seq_k (fun K4 k4=>?_)
 refine wp_seq_k (fun K5 k5=>?_)
 refine rg [0,1,2,3] ?_
 refine sv 3 (.pointer (some ⟨b2,2,none⟩)) ?_
 replace L2:=L2.gr g3
 refine sw 4 (.agg #[c2,c3]) rfl (rl 69 2 [c2,c3] L2) ?_
 refine se ?_
 have kq7:=g2.kp.trans g3.kp
 replace hd:=hd.kp kq7
 refine ec 5 (sign_pos hd (by omega)) ?_
 rintro e6 w6 ⟨rfl,g6⟩
 refine ⟨_,rfl,?_⟩
 replace hB:=hB.trans g6
 simp only [p3,p4]
 refine sv 6 (.bool false) ?_
 refine sq_nil ?_
 refine k5 _ _ ?_
 try clear k5 K5
 refine wp_cond_false rfl ?_
 refine wp_skip ?_
 refine k4 _ _ ?_
 try clear k4 K4
 refine wp_seq_k (fun K8 k8=>?_)
 refine rg [0,1,2] ?_
 refine sv 8 (.pointer (some ⟨b2,2,none⟩)) ?_
 replace L2:=L2.gr g6
 refine sw 9 (.agg #[c2,c3]) rfl (rl 69 2 [c2,c3] L2) ?_
 refine se ?_
 replace L3:=L3.gr g6
 refine es 69 0 (.agg #[c2,c3]) [c2,c3] #[c2,c3] L3 hB q3 ⟨hd.one0,hd.one1,trivial⟩ fun w9 st9 kp9 L3 hB=>?_
 refine sq_nil ?_
 refine k8 _ _ ?_
 try clear k8 K8
 refine wp_ret ?_
 refine bodyPost_ret (v:=(.agg #[c2,c3])) (ret_cell _ _ _ rfl rfl L3 (by kernel_rfl)) rfl ⟨?_,hB⟩
 have kq10:=g6.kp.trans kp9
 replace hd:=hd.kp kq10
 exact ⟨_,_,rfl,hd⟩

set_option maxRecDepth 100000 in
set_option maxHeartbeats 1000000 in
theorem reduced_p1 {k:Nat} {n0 n1 d0 d1:Value} {N D:Int} {w:World} (hn:IsInt w k n0 n1 N) (hd:IsInt w k d0 d1 D) (_hk:k+k+k+k+k+k+66≤1000000) (_h0:0<D) (hg:(sgn ((Int.gcd (N) (D):Int) - 1) !=0)=false):
    Calls Tryz.prog 86 #[(.agg #[n0,n1]),(.agg #[d0,d1])] w fun e w'=>(∃ x y x2 y2,e=.returned (.agg #[x,y,x2,y2])∧IsInt w' k x y (N)∧IsInt w' k x2 y2 (D))∧Gr w w':=by
 go_enter Tryz.func86,Tryz.ntmps86
 have hB:=Gr.refl w
 refine wp_seq_k (fun K1 k1=>?_)
 refine rg [0,1,2] ?_
 refine se ?_
 refine eb 69 #[n0,n1] 2 hB fun b2 w2 g2 L2 o2 q2 hB=>?_
 simp only [p3,p4]
 refine se ?_
 refine eb 69 #[d0,d1] 3 hB fun b3 w3 g3 L3 o3 q3 hB=>?_
 simp only [p3,p4]
 refine se ?_
 refine ea 71 #[(.bool false),(.slice none 0 0),(.bool false),(.slice none 0 0)] 4 hB fun b4 w4 g4 L4 o4 q4 hB=>?_
 replace L2:=L2.gr g3
 simp only [p3,p4]
 refine sq_nil ?_
 refine k1 _ _ ?_
 try clear k1 K1
 refine wp_seq_k (fun K5 k5=>?_)
 refine wp_seq_k (fun K6 k6=>?_)
 refine rg [0,1,2] ?_
 replace L3:=L3.gr g4
 refine sw 6 (.agg #[d0,d1]) rfl (rl 69 0 [d0,d1] L3) ?_
 refine se ?_
 have kq8:=g2.kp.trans (g3.kp.trans g4.kp)
 replace hd:=hd.kp kq8
 refine ec 7 (sign_pos hd (by omega)) ?_
 rintro e7 w7 ⟨rfl,g7⟩
 refine ⟨_,rfl,?_⟩
 replace hB:=hB.trans g7
 simp only [p3,p4]
 refine sv 8 (.bool false) ?_
 refine sq_nil ?_
 refine k6 _ _ ?_
 try clear k6 K6
 refine wp_cond_false rfl ?_
 refine wp_skip ?_
 refine k5 _ _ ?_
 try clear k5 K5
 refine wp_seq_k (fun K9 k9=>?_)
 refine rg [0,1,2,3,4] ?_
 replace L2:=L2.gr (g4.trans g7)
 refine sw 13 (.agg #[n0,n1]) rfl (rl 69 0 [n0,n1] L2) ?_
 replace L3:=L3.gr g7
 refine sw 14 (.agg #[d0,d1]) rfl (rl 69 0 [d0,d1] L3) ?_
 refine se ?_
 have kq11:=g2.kp.trans (g3.kp.trans (g4.kp.trans g7.kp))
 replace hn:=hn.kp kq11
 replace hd:=hd.kp g7.kp
 refine ec 15 (gcd_i hn hd (by omega)) ?_
 rintro e10 w10 ⟨⟨x10,y10,rfl,h10⟩,g10⟩
 refine ⟨_,rfl,?_⟩
 replace hB:=hB.trans g10
 simp only [p3,p4]
 refine se ?_
 refine ea 69 #[(.bool false),(.slice none 0 0)] 5 hB fun b12 w12 g12 L12 o12 q12 hB=>?_
 replace L2:=L2.gr g10
 have ne2_12:=L2.ne o12
 replace L3:=L3.gr g10
 have ne3_12:=L3.ne o12
 replace L4:=L4.gr (g7.trans g10)
 have ne4_12:=L4.ne o12
 simp only [p3,p4]
 refine se ?_
 refine es 69 0 (.agg #[x10,y10]) [x10,y10] #[x10,y10] L12 hB q12 ⟨h10.one0,h10.one1,trivial⟩ fun w13 st13 kp13 L12 hB=>?_
 refine sq_nil ?_
 refine k9 _ _ ?_
 try clear k9 K9
 refine wp_seq_k (fun K14 k14=>?_)
 refine wp_seq_k (fun K15 k15=>?_)
 have gd22:=Gr.drew w13
 replace hB:=hB.trans gd22
 replace L12:=L12.gr gd22
 refine wp_region_ord (fun w'=>Lc w' b12 #[x10,y10] 69) [(true,0),(false,1),(false,2),(true,3)] (by kernel_rfl) (by kernel_rfl) (by kernel_rfl) (by decide) (fun _ _ _ _ _ h=>h) L12 ?_
 refine ow 16 (.agg #[x10,y10]) rfl (fun w' hS=>(rl 69 0 [x10,y10] hS)) ?_
 refine oe ?_
 refine ec 17 (one_i _) ?_
 rintro e24 w24 ⟨⟨x24,y24,rfl,h24⟩,g24⟩
 refine ⟨_,rfl,?_⟩
 replace hB:=hB.trans g24
 replace L12:=L12.gr g24
 refine ⟨L12,?_⟩
 simp only [p3,p4]
 refine oe ?_
 have kq27:=g12.kp.trans (kp13.trans (gd22.kp.trans g24.kp))
 replace h10:=h10.kp kq27
 refine ec 18 (compare_i h10 h24 (by omega) (by omega)) ?_
 rintro e26 w26 ⟨rfl,g26⟩
 refine ⟨_,rfl,?_⟩
 replace hB:=hB.trans g26
 replace L12:=L12.gr g26
 refine ⟨L12,?_⟩
 simp only [p3,p4]
 refine ow 19 (.bool false) rfl (fun w' hS=>(RunV.bool (x:=(sgn ((Int.gcd (N) (D):Int) - 1) !=(0:Int))) (rvk (by kernel_rfl)) hg)) ?_
 refine ord_nil ?_
 refine k15 _ _ ?_
 try clear k15 K15
 refine wp_cond_false rfl ?_
 refine wp_skip ?_
 refine k14 _ _ ?_
 try clear k14 K14
 refine wp_seq_k (fun K28 k28=>?_)
 refine rg [0,1,2,3] ?_
 replace L2:=(st13.lc (L2.gr g12) ne2_12).gr (gd22.trans (g24.trans g26))
 refine sw 34 (.agg #[n0,n1]) rfl (rl 69 0 [n0,n1] L2) ?_
 replace L3:=(st13.lc (L3.gr g12) ne3_12).gr (gd22.trans (g24.trans g26))
 refine sw 35 (.agg #[d0,d1]) rfl (rl 69 0 [d0,d1] L3) ?_
 refine sv 36 (.agg #[n0,n1,d0,d1]) ?_
 refine se ?_
 replace L4:=(st13.lc (L4.gr g12) ne4_12).gr (gd22.trans (g24.trans g26))
 refine es 71 0 (.agg #[n0,n1,d0,d1]) [n0,n1,d0,d1] #[n0,n1,d0,d1] L4 hB q4 ⟨hn.one0,hn.one1,hd.one0,hd.one1,trivial⟩ fun w29 st29 kp29 L4 hB=>?_
 refine sq_nil ?_
 refine k28 _ _ ?_
 try clear k28 K28
 refine wp_ret ?_
 refine bodyPost_ret (v:=(.agg #[n0,n1,d0,d1])) (ret_cell _ _ _ rfl rfl L4 (by kernel_rfl)) rfl ⟨?_,hB⟩
 have kq30:=g10.kp.trans (g12.kp.trans (kp13.trans (gd22.kp.trans (g24.kp.trans (g26.kp.trans kp29)))))
 replace hn:=hn.kp kq30
 replace hd:=hd.kp kq30
 exact ⟨_,_,_,_,rfl,hn,hd⟩

set_option maxRecDepth 100000 in
set_option maxHeartbeats 1000000 in
theorem reduced_pg {k:Nat} {n0 n1 d0 d1:Value} {N D:Int} {w:World} (hn:IsInt w k n0 n1 N) (hd:IsInt w k d0 d1 D) (_hk:k+k+k+k+k+k+66≤1000000) (_h0:0<D) (hg:(sgn ((Int.gcd (N) (D):Int) - 1) !=0)=true) (hxn:0<(Int.gcd (N) (D):Int)∧(Int.gcd (N) (D):Int)∣N) (_hxd:0<(Int.gcd (N) (D):Int)∧(Int.gcd (N) (D):Int)∣D):
    Calls Tryz.prog 86 #[(.agg #[n0,n1]),(.agg #[d0,d1])] w fun e w'=>(∃ x y x2 y2,e=.returned (.agg #[x,y,x2,y2])∧IsInt w' k x y (N/(Int.gcd (N) (D):Int))∧IsInt w' k x2 y2 (D/(Int.gcd (N) (D):Int)))∧Gr w w':=by
 go_enter Tryz.func86,Tryz.ntmps86
 have hB:=Gr.refl w
 refine wp_seq_k (fun K1 k1=>?_)
 refine rg [0,1,2] ?_
 refine se ?_
 refine eb 69 #[n0,n1] 2 hB fun b2 w2 g2 L2 o2 q2 hB=>?_
 simp only [p3,p4]
 refine se ?_
 refine eb 69 #[d0,d1] 3 hB fun b3 w3 g3 L3 o3 q3 hB=>?_
 have ne2_3:=L2.ne o3
 simp only [p3,p4]
 refine se ?_
 refine ea 71 #[(.bool false),(.slice none 0 0),(.bool false),(.slice none 0 0)] 4 hB fun b4 w4 g4 L4 o4 q4 hB=>?_
 replace L2:=L2.gr g3
 have ne2_4:=L2.ne o4
 have ne3_4:=L3.ne o4
 simp only [p3,p4]
 refine sq_nil ?_
 refine k1 _ _ ?_
 try clear k1 K1
 refine wp_seq_k (fun K5 k5=>?_)
 refine wp_seq_k (fun K6 k6=>?_)
 refine rg [0,1,2] ?_
 replace L3:=L3.gr g4
 refine sw 6 (.agg #[d0,d1]) rfl (rl 69 0 [d0,d1] L3) ?_
 refine se ?_
 have kq8:=g2.kp.trans (g3.kp.trans g4.kp)
 replace hd:=hd.kp kq8
 refine ec 7 (sign_pos hd (by omega)) ?_
 rintro e7 w7 ⟨rfl,g7⟩
 refine ⟨_,rfl,?_⟩
 replace hB:=hB.trans g7
 simp only [p3,p4]
 refine sv 8 (.bool false) ?_
 refine sq_nil ?_
 refine k6 _ _ ?_
 try clear k6 K6
 refine wp_cond_false rfl ?_
 refine wp_skip ?_
 refine k5 _ _ ?_
 try clear k5 K5
 refine wp_seq_k (fun K9 k9=>?_)
 refine rg [0,1,2,3,4] ?_
 replace L2:=L2.gr (g4.trans g7)
 refine sw 13 (.agg #[n0,n1]) rfl (rl 69 0 [n0,n1] L2) ?_
 replace L3:=L3.gr g7
 refine sw 14 (.agg #[d0,d1]) rfl (rl 69 0 [d0,d1] L3) ?_
 refine se ?_
 have kq11:=g2.kp.trans (g3.kp.trans (g4.kp.trans g7.kp))
 replace hn:=hn.kp kq11
 replace hd:=hd.kp g7.kp
 refine ec 15 (gcd_i hn hd (by omega)) ?_
 rintro e10 w10 ⟨⟨x10,y10,rfl,h10⟩,g10⟩
 refine ⟨_,rfl,?_⟩
 replace hB:=hB.trans g10
 simp only [p3,p4]
 refine se ?_
 refine ea 69 #[(.bool false),(.slice none 0 0)] 5 hB fun b12 w12 g12 L12 o12 q12 hB=>?_
 replace L2:=L2.gr g10
 have ne2_12:=L2.ne o12
 replace L3:=L3.gr g10
 have ne3_12:=L3.ne o12
 replace L4:=L4.gr (g7.trans g10)
 have ne4_12:=L4.ne o12
 simp only [p3,p4]
 refine se ?_
 refine es 69 0 (.agg #[x10,y10]) [x10,y10] #[x10,y10] L12 hB q12 ⟨h10.one0,h10.one1,trivial⟩ fun w13 st13 kp13 L12 hB=>?_
 refine sq_nil ?_
 refine k9 _ _ ?_
 try clear k9 K9
 refine wp_seq_k (fun K14 k14=>?_)
 refine wp_seq_k (fun K15 k15=>?_)
 have gd22:=Gr.drew w13
 replace hB:=hB.trans gd22
 replace L12:=L12.gr gd22
 refine wp_region_ord (fun w'=>Lc w' b12 #[x10,y10] 69) [(true,0),(false,1),(false,2),(true,3)] (by kernel_rfl) (by kernel_rfl) (by kernel_rfl) (by decide) (fun _ _ _ _ _ h=>h) L12 ?_
 refine ow 16 (.agg #[x10,y10]) rfl (fun w' hS=>(rl 69 0 [x10,y10] hS)) ?_
 refine oe ?_
 refine ec 17 (one_i _) ?_
 rintro e24 w24 ⟨⟨x24,y24,rfl,h24⟩,g24⟩
 refine ⟨_,rfl,?_⟩
 replace hB:=hB.trans g24
 replace L12:=L12.gr g24
 refine ⟨L12,?_⟩
 simp only [p3,p4]
 refine oe ?_
 have kq27:=g12.kp.trans (kp13.trans (gd22.kp.trans g24.kp))
 replace h10:=h10.kp kq27
 refine ec 18 (compare_i h10 h24 (by omega) (by omega)) ?_
 rintro e26 w26 ⟨rfl,g26⟩
 refine ⟨_,rfl,?_⟩
 replace hB:=hB.trans g26
 replace L12:=L12.gr g26
 refine ⟨L12,?_⟩
 simp only [p3,p4]
 refine ow 19 (.bool true) rfl (fun w' hS=>(RunV.bool (x:=(sgn ((Int.gcd (N) (D):Int) - 1) !=(0:Int))) (rvk (by kernel_rfl)) hg)) ?_
 refine ord_nil ?_
 refine k15 _ _ ?_
 try clear k15 K15
 refine wp_cond_true rfl ?_
 refine wp_seq_k (fun K28 k28=>?_)
 refine rg [0,1,2,3,4,5,6,7] ?_
 replace L2:=(st13.lc (L2.gr g12) ne2_12).gr (gd22.trans (g24.trans g26))
 refine sw 21 (.agg #[n0,n1]) rfl (rl 69 0 [n0,n1] L2) ?_
 refine sw 22 (.agg #[x10,y10]) rfl (rl 69 0 [x10,y10] L12) ?_
 refine se ?_
 have kq30:=g10.kp.trans (g12.kp.trans (kp13.trans (gd22.kp.trans (g24.kp.trans g26.kp))))
 replace hn:=hn.kp kq30
 replace h10:=h10.kp g26.kp
 refine ec 23 (divmod_i hn h10 hxn.1 (by omega)) ?_
 rintro e29 w29 ⟨⟨x29,y29,xr29,yr29,rfl,h29,hr29⟩,g29⟩
 refine ⟨_,rfl,?_⟩
 replace hB:=hB.trans g29
 simp only [p3,p4]
 refine sv 20 (.tuple #[(.agg #[x29,y29]),(.agg #[xr29,yr29]),(.int .i64 0)]) ?_
 refine sv 24 (.agg #[x29,y29]) ?_
 refine sv 25 (.agg #[xr29,yr29]) ?_
 refine sv 26 (.int .i64 0) ?_
 refine se ?_
 replace L2:=L2.gr g29
 refine es 69 0 (.agg #[x29,y29]) [x29,y29] #[x29,y29] L2 hB q2 ⟨h29.one0,h29.one1,trivial⟩ fun w31 st31 kp31 L2 hB=>?_
 refine sq_nil ?_
 refine k28 _ _ ?_
 try clear k28 K28
 refine rg [0,1,2,3,4,5,6,7] ?_
 replace L3:=st31.lc ((st13.lc (L3.gr g12) ne3_12).gr (gd22.trans (g24.trans (g26.trans g29)))) (Ne.symm ne2_3)
 refine sw 28 (.agg #[d0,d1]) rfl (rl 69 0 [d0,d1] L3) ?_
 replace L12:=st31.lc (L12.gr g29) (Ne.symm ne2_12)
 refine sw 29 (.agg #[x10,y10]) rfl (rl 69 0 [x10,y10] L12) ?_
 refine se ?_
 have kq33:=g10.kp.trans (g12.kp.trans (kp13.trans (gd22.kp.trans (g24.kp.trans (g26.kp.trans (g29.kp.trans kp31))))))
 replace hd:=hd.kp kq33
 have kq34:=g29.kp.trans kp31
 replace h10:=h10.kp kq34
 refine ec 30 (divmod_i hd h10 hxn.1 (by omega)) ?_
 rintro e32 w32 ⟨⟨x32,y32,xr32,yr32,rfl,h32,hr32⟩,g32⟩
 refine ⟨_,rfl,?_⟩
 replace hB:=hB.trans g32
 simp only [p3,p4]
 refine sv 27 (.tuple #[(.agg #[x32,y32]),(.agg #[xr32,yr32]),(.int .i64 0)]) ?_
 refine sv 31 (.agg #[x32,y32]) ?_
 refine sv 32 (.agg #[xr32,yr32]) ?_
 refine sv 33 (.int .i64 0) ?_
 refine se ?_
 replace L3:=L3.gr g32
 refine es 69 0 (.agg #[x32,y32]) [x32,y32] #[x32,y32] L3 hB q3 ⟨h32.one0,h32.one1,trivial⟩ fun w35 st35 kp35 L3 hB=>?_
 refine sq_nil ?_
 refine k14 _ _ ?_
 try clear k14 K14
 refine wp_seq_k (fun K36 k36=>?_)
 refine rg [0,1,2,3] ?_
 replace L2:=st35.lc (L2.gr g32) ne2_3
 refine sw 34 (.agg #[x29,y29]) rfl (rl 69 0 [x29,y29] L2) ?_
 refine sw 35 (.agg #[x32,y32]) rfl (rl 69 0 [x32,y32] L3) ?_
 refine sv 36 (.agg #[x29,y29,x32,y32]) ?_
 refine se ?_
 replace L4:=st35.lc ((st31.lc ((st13.lc (L4.gr g12) ne4_12).gr (gd22.trans (g24.trans (g26.trans g29)))) (Ne.symm ne2_4)).gr g32) (Ne.symm ne3_4)
 refine es 71 0 (.agg #[x29,y29,x32,y32]) [x29,y29,x32,y32] #[x29,y29,x32,y32] L4 hB q4 ⟨h29.one0,h29.one1,h32.one0,h32.one1,trivial⟩ fun w37 st37 kp37 L4 hB=>?_
 refine sq_nil ?_
 refine k36 _ _ ?_
 try clear k36 K36
 refine wp_ret ?_
 refine bodyPost_ret (v:=(.agg #[x29,y29,x32,y32])) (ret_cell _ _ _ rfl rfl L4 (by kernel_rfl)) rfl ⟨?_,hB⟩
 have kq38:=kp31.trans (g32.kp.trans (kp35.trans kp37))
 replace h29:=h29.kp kq38
 have kq39:=kp35.trans kp37
 replace h32:=h32.kp kq39
 exact ⟨_,_,_,_,rfl,h29,h32⟩

theorem sgn_eq_zero {z:Int}:sgn z=0↔z=0:=by
  unfold sgn
  by_cases h:z<0
  · rw [if_pos h];omega
  · rw [if_neg h]
    by_cases h2:z=0
    · simp [h2]
    · rw [if_neg h2];omega
theorem whole_i {k:Nat} {c0 c1 c2 c3:Value} {q:Rat} {w:World} (h:IsRat w k c0 c1 c2 c3 q) (hk:k≤1000000):
    Calls Tryz.prog 80 #[.agg #[c0,c1,c2,c3]] w fun e w'=>e=.returned (.bool (decide (q.den=1)))∧Gr w w':=by
  obtain ⟨D,h2,h3⟩:=h.den
  have hp:=q.den_pos
  rcases h3 with h3 | ⟨h3,h4⟩
  · have e:(sgn (D - 1)==0)=decide (q.den=1):=by
      rw [Bool.eq_iff_iff,beq_iff_eq,sgn_eq_zero,decide_eq_true_iff];omega
    have:=whole_p (c0:=c0) (c1:=c1) h2 (by omega) hk
    rw [e] at this
    exact this
  · subst h3
    have e:decide (q.den=1)=true:=by simpa using h4
    rw [e]
    exact whole_z h2
theorem whole_t {k:Nat} {c0 c1 c2 c3:Value} {q:Rat} {w:World} (h:IsRat w k c0 c1 c2 c3 q) (hk:k≤1000000) (hq:q.den=1):
    Calls Tryz.prog 80 #[.agg #[c0,c1,c2,c3]] w fun e w'=>e=.returned (.bool true)∧Gr w w':=by
  have:=whole_i h hk
  rw [decide_eq_true hq] at this
  exact this
theorem whole_f {k:Nat} {c0 c1 c2 c3:Value} {q:Rat} {w:World} (h:IsRat w k c0 c1 c2 c3 q) (hk:k≤1000000) (hq:q.den≠1):
    Calls Tryz.prog 80 #[.agg #[c0,c1,c2,c3]] w fun e w'=>e=.returned (.bool false)∧Gr w w':=by
  have:=whole_i h hk
  rw [decide_eq_false hq] at this
  exact this
theorem den_i {k:Nat} {c0 c1 c2 c3:Value} {q:Rat} {w:World} (h:IsRat w k c0 c1 c2 c3 q):
    Calls Tryz.prog 85 #[.agg #[c0,c1,c2,c3]] w fun e w'=>(∃ x' y',e=.returned (.agg #[x',y'])∧IsInt w' k x' y' (q.den:Int))∧Gr w w':=by
  obtain ⟨D,h2,h3⟩:=h.den
  have hp:=q.den_pos
  rcases h3 with h3 | ⟨h3,h4⟩
  · subst h3
    exact den_p h2 (by omega)
  · subst h3
    refine (den_z (c0:=c0) (c1:=c1) h2).mono ?_
    rintro e w1 ⟨⟨x,y,he,hi⟩,g⟩
    rw [h4]
    exact ⟨⟨x,y,he,hi.mono h.big⟩,g⟩
theorem add_e {k m:Nat} (n:Nat) {x y x2 y2:Value} {z u:Int} {w:World} (hz:IsInt w k x y z) (hu:IsInt w m x2 y2 u) (h1:k≤n) (h2:m≤n) (hk:2*n+1≤1000000):
    Calls Tryz.prog 124 #[.agg #[x,y],.agg #[x2,y2]] w fun e w'=>(∃ x' y',e=.returned (.agg #[x',y'])∧IsInt w' (n+1) x' y' (z+u))∧Gr w w':=by
  refine (add_i (hz.mono h1) (hu.mono h2) (by omega)).mono ?_
  rintro e w1 ⟨⟨x,y,he,hi⟩,g⟩
  exact ⟨⟨x,y,he,hi.resz ((hz.sz.mono h1).add' (hu.sz.mono h2))⟩,g⟩

theorem reduced_i {k m:Nat} (K:Nat) {n0 n1 d0 d1:Value} {N D:Int} {w:World} (hn:IsInt w k n0 n1 N) (hd:IsInt w m d0 d1 D) (h0:0<D) (h1:k≤K) (h2:m≤K) (h3:64≤K) (h4:8*K≤1000000):
    Calls Tryz.prog 86 #[.agg #[n0,n1],.agg #[d0,d1]] w fun e w'=>(∃ c0 c1 c2 c3,e=.returned (.agg #[c0,c1,c2,c3])∧IsRat w' K c0 c1 c2 c3 (Rat.divInt N D))∧Gr w w':=by
  have hN:=hn.mono h1
  have hD:=hd.mono h2
  have en:(Rat.divInt N D).num=N/(Int.gcd N D:Int):=by
    rw [Rat.num_divInt,Int.sign_eq_one_of_pos h0,Int.one_mul,Int.gcd_comm]
  have ed:((Rat.divInt N D).den:Int)=D/(Int.gcd N D:Int):=by
    rw [Rat.den_divInt,if_neg (by omega),Int.gcd_comm,Int.natCast_ediv]
    congr 1
    omega
  have hg0:0<(Int.gcd N D:Int):=by
    have:Int.gcd N D≠0:=by rw [Ne,Int.gcd_eq_zero_iff];omega
    omega
  by_cases hg:(Int.gcd N D:Int)=1
  · refine (reduced_p1 hN hD (by omega) h0 (by rw [hg];rfl)).mono ?_
    rintro e w1 ⟨⟨x,y,x2,y2,he,hi,hi2⟩,g⟩
    rw [hg,Int.ediv_one] at en ed
    exact ⟨⟨x,y,x2,y2,he,by rw [en];exact hi,⟨D,hi2,.inl ed.symm⟩,h3⟩,g⟩
  · have hb:(sgn ((Int.gcd N D:Int) - 1) !=0)=true:=by
      have:sgn ((Int.gcd N D:Int) - 1)≠0:=fun h=>hg (by have:=sgn_eq_zero.1 h;omega)
      simpa using this
    refine (reduced_pg hN hD (by omega) h0 hb ⟨hg0,Int.gcd_dvd_left ..⟩ ⟨hg0,Int.gcd_dvd_right ..⟩).mono ?_
    rintro e w1 ⟨⟨x,y,x2,y2,he,hi,hi2⟩,g⟩
    exact ⟨⟨x,y,x2,y2,he,by rw [en];exact hi,⟨_,hi2,.inl ed.symm⟩,h3⟩,g⟩

theorem rat_add (a b:Rat):Rat.divInt (a.num*b.den+b.num*a.den) (a.den*b.den)=a+b:=by
  have:=Rat.divInt_add_divInt a.num b.num (d₁:=a.den) (d₂:=b.den) (by have:=a.den_pos;omega) (by have:=b.den_pos;omega)
  rw [Rat.num_divInt_den,Rat.num_divInt_den] at this
  exact this.symm
theorem rat_mul (a b:Rat):Rat.divInt (a.num*b.num) (a.den*b.den)=a*b:=by
  have:=Rat.divInt_mul_divInt a.num b.num (d₁:=a.den) (d₂:=b.den)
  rw [Rat.num_divInt_den,Rat.num_divInt_den] at this
  exact this.symm
theorem rat_int {q:Rat} (h:q.den=1):((q.num:Int):Rat)=q:=by
  apply Rat.ext
  · exact Rat.num_intCast _
  · rw [h];exact Rat.den_intCast _
theorem rat_div (a b:Rat):Rat.divInt (a.num*b.den) (a.den*b.num)=a/b:=by
  rw [Rat.div_def,Rat.inv_def]
  have:=Rat.divInt_mul_divInt a.num b.den (d₁:=a.den) (d₂:=b.num)
  rw [Rat.num_divInt_den] at this
  exact this.symm
theorem IsRat.neg {w:World} {k:Nat} {c0 c1 c2 c3 x y:Value} {q:Rat} (h:IsRat w k c0 c1 c2 c3 q) (hi:IsInt w k x y (-q.num)):IsRat w k x y c2 c3 (-q):=by
  obtain ⟨D,h2,h3⟩:=h.den
  exact ⟨hi,⟨D,h2,h3⟩,h.big⟩
/-- the order of two rationals -/
def rcmp (a b:Rat):Int:=sgn (a.num*b.den - b.num*a.den)
theorem rcmp_int {a b:Rat} (ha:a.den=1) (hb:b.den=1):rcmp a b=sgn (a.num - b.num):=by
  unfold rcmp;rw [ha,hb];simp
theorem rcmp_zero {a b:Rat}:rcmp a b=0↔a=b:=by
  unfold rcmp
  rw [sgn_eq_zero]
  constructor
  · intro h
    rw [← Rat.num_divInt_den a,← Rat.num_divInt_den b]
    rw [Rat.divInt_eq_divInt_iff (by have:=a.den_pos;omega) (by have:=b.den_pos;omega)]
    omega
  · rintro rfl;omega
/-- all blocks of type t are as they were -/
def Kt (t:TypeId) (w w':World):Prop:=∀ (b:Nat) (cs:Array Value) (fr:Nat × Nat),w.heap[b]?=some (Obj.cells cs t fr)→w'.heap[b]?=some (Obj.cells cs t fr)
theorem Kt.refl (t:TypeId) (w:World):Kt t w w:=fun _ _ _ h=>h
theorem Kt.trans {t:TypeId} {a b c:World} (h:Kt t a b) (k:Kt t b c):Kt t a c:=fun b cs fr hb=>k b cs fr (h b cs fr hb)
theorem Gr.kt {w w':World} (h:Gr w w') (t:TypeId):Kt t w w':=fun _ _ _ hk=>h.heap hk
theorem Kt.kp {w w':World} (h:Kt 145 w w'):Kp w w':=h
theorem St.kt {w w':World} {b:Nat} {cs:Array Value} {T t:TypeId} (h:St w w' b) (hL:Lc w b cs T) (ht:t≠T):Kt t w w':=fun c ds fr hc=>by
  by_cases e:c=b
  · subst e
    unfold Lc at hL
    rw [hc] at hL
    simp only [Option.some.injEq,Obj.cells.injEq] at hL
    exact absurd hL.2.1 ht
  · exact (h.block c e).trans hc
theorem Wt.kt {T t:TypeId} {w w':World} (h:Wt T w w') (ht:t≠T):Kt t w w':=fun b cs fr hb=>h.block b cs _ fr ht hb
/-- all of some types -/
def Kts (ts:List TypeId) (w w':World):Prop:=∀ t ∈ ts,Kt t w w'
theorem Gr.kts {w w':World} (h:Gr w w') (ts:List TypeId):Kts ts w w':=fun t _=>h.kt t
theorem St.kts {w w':World} {b:Nat} {cs:Array Value} {T:TypeId} {ts:List TypeId} (h:St w w' b) (hL:Lc w b cs T) (ht:(ts.all fun t=>t !=T)=true):Kts ts w w':=fun t hm=>h.kt hL (by have:=List.all_eq_true.1 ht t hm;simpa using this)
theorem Wt.kts {w w':World} {T:TypeId} {ts:List TypeId} (h:Wt T w w') (ht:(ts.all fun t=>t !=T)=true):Kts ts w w':=fun t hm=>h.kt (by have:=List.all_eq_true.1 ht t hm;simpa using this)

section
variable {α:Type}
/-- what cells say of an element,and on which types it hangs -/
def Stab (E:World→α→List Value→Prop) (ts:List TypeId):Prop:=∀ w w' x vs,Kts ts w w'→E w x vs→E w' x vs
def Els (E:World→α→List Value→Prop) (c:Nat) (w:World) (ys:List Value) (xs:List α):Prop:=
  ys.length=xs.length*c∧∀ (i:Nat) (x:α),xs[i]?=some x→E w x ((ys.drop (i*c)).take c)
theorem Els.kts {E:World→α→List Value→Prop} {ts:List TypeId} {c:Nat} {w w':World} {ys:List Value} {xs:List α} (h:Els E c w ys xs) (hS:Stab E ts) (k:Kts ts w w'):Els E c w' ys xs:=
  ⟨h.1,fun i x hx=>hS _ _ _ _ k (h.2 i x hx)⟩
theorem Els.nil (E:World→α→List Value→Prop) (c:Nat) (w:World):Els E c w [] []:=⟨by simp,fun i x h=>by simp at h⟩
theorem Els.snoc {E:World→α→List Value→Prop} {c:Nat} {w:World} {ys:List Value} {xs:List α} (h:Els E c w ys xs) {x:α} {vs:List Value} (hv:vs.length=c) (hx:E w x vs):Els E c w (ys++vs) (xs++[x]):=by
  refine ⟨by simp [h.1,hv,Nat.add_mul],fun i y hy=>?_⟩
  rcases Nat.lt_or_ge i xs.length with hi | hi
  · rw [List.getElem?_append_left hi] at hy
    have h1:i*c+c≤ys.length:=by
      rw [h.1]
      have:=Nat.mul_le_mul_right c (show i+1≤xs.length by omega)
      rw [Nat.add_mul] at this;omega
    have:=h.2 i y hy
    rw [List.drop_append_of_le_length (by omega),List.take_append_of_le_length (by rw [List.length_drop];omega)]
    exact this
  · rw [List.getElem?_append_right hi] at hy
    have h0:i=xs.length:=by
      have:=(List.getElem?_eq_some_iff.1 hy).1
      simp at this;omega
    subst h0
    simp only [Nat.sub_self,List.getElem?_cons_zero,Option.some.injEq] at hy
    subst hy
    rw [← h.1,List.drop_left,← hv,List.take_length]
    exact hx
theorem Els.set {E:World→α→List Value→Prop} {c:Nat} {w:World} {ys:List Value} {xs:List α} (h:Els E c w ys xs) {i:Nat} (hi:i<xs.length) {x:α} {vs:List Value} (hv:vs.length=c) (hx:E w x vs):
    Els E c w (ys.take (i*c)++vs++ys.drop (i*c+c)) (xs.set i x):=by
  have hle:i*c+c≤ys.length:=by
    rw [h.1]
    have:=Nat.mul_le_mul_right c (show i+1≤xs.length by omega)
    rw [Nat.add_mul] at this;omega
  refine ⟨by rw [List.length_append,List.length_append,List.length_take,List.length_drop,List.length_set,hv,Nat.min_eq_left (by omega)];have:=h.1;omega,fun j y hy=>?_⟩
  rcases Nat.lt_trichotomy j i with hj | hj | hj
  · rw [List.getElem?_set_ne (by omega)] at hy
    have h1:j*c+c≤i*c:=by
      have:=Nat.mul_le_mul_right c (show j+1≤i by omega)
      rw [Nat.add_mul] at this;omega
    have e:((ys.take (i*c)++vs++ys.drop (i*c+c)).drop (j*c)).take c=(ys.drop (j*c)).take c:=by
      rw [List.append_assoc,List.drop_append_of_le_length (by rw [List.length_take];omega),List.take_append_of_le_length (by rw [List.length_drop,List.length_take];omega),List.drop_take,List.take_take]
      congr 1;omega
    rw [e];exact h.2 j y hy
  · subst hj
    rw [List.getElem?_set_self hi] at hy
    obtain rfl:=Option.some.inj hy
    have e:((ys.take (j*c)++vs++ys.drop (j*c+c)).drop (j*c)).take c=vs:=by
      have hl:(ys.take (j*c)).length=j*c:=by rw [List.length_take];omega
      rw [List.append_assoc,List.drop_append,hl,Nat.sub_self,List.drop_zero,List.drop_eq_nil_of_le (by omega),List.nil_append,List.take_append_of_le_length (by omega),List.take_of_length_le (by omega)]
    rw [e];exact hx
  · rw [List.getElem?_set_ne (by omega)] at hy
    have h1:i*c+c≤j*c:=by
      have:=Nat.mul_le_mul_right c (show i+1≤j by omega)
      rw [Nat.add_mul] at this;omega
    have e:((ys.take (i*c)++vs++ys.drop (i*c+c)).drop (j*c)).take c=(ys.drop (j*c)).take c:=by
      have hl:(ys.take (i*c)++vs).length=i*c+c:=by rw [List.length_append,List.length_take];omega
      rw [List.drop_append,hl,List.drop_eq_nil_of_le (by omega),List.nil_append,List.drop_drop]
      congr 2;omega
    rw [e];exact h.2 j y hy
theorem Els.mono {E F:World→α→List Value→Prop} {c:Nat} {w:World} {ys:List Value} {xs:List α} (h:Els E c w ys xs) (hf:∀ x vs,E w x vs→F w x vs):Els F c w ys xs:=⟨h.1,fun i x hx=>hf _ _ (h.2 i x hx)⟩

/-- v is a slice of n elements,whose cells are ys -/
def Cs (T:TypeId) (w:World) (v:Value) (n:Nat) (ys:List Value):Prop:=
  ∃ ao cap,v=.slice ao n cap∧n≤cap∧(0<ys.length→∃ b off cs fr,ao=some ⟨b,off,none⟩∧w.heap[b]?=some (.cells cs T fr)∧∀ j,j<ys.length→cs[off+j]?=ys[j]?)
theorem Cs.kt {T:TypeId} {w w':World} {v:Value} {n:Nat} {ys:List Value} (h:Cs T w v n ys) (k:Kt T w w'):Cs T w' v n ys:=by
  obtain ⟨ao,cap,h1,h2,h3⟩:=h
  refine ⟨ao,cap,h1,h2,fun hp=>?_⟩
  obtain ⟨b,off,cs,fr,e1,e2,e3⟩:=h3 hp
  exact ⟨b,off,cs,fr,e1,k _ _ _ e2,e3⟩
/-- the address of a cell of a slice -/
def adr (v:Value) (j:Nat):Value:=
  match v with
  | .slice (some ⟨b,off,_⟩) _ _=>.pointer (some ⟨b,off+j,none⟩)
  | _=>undef
/-- at cell j of a slice lie vs -/
def AtV (w:World) (v:Value) (j:Nat) (vs:List Value):Prop:=∃ b off n cap,v=.slice (some ⟨b,off,none⟩) n cap∧w.rangeAt b (off+j) vs
theorem Cs.at_ {T:TypeId} {w:World} {v:Value} {n:Nat} {ys:List Value} (h:Cs T w v n ys) (hp:0<ys.length) (j:Nat) (vs:List Value) (hv:(ys.drop j).take vs.length=vs):AtV w v j vs:=by
  obtain ⟨ao,cap,rfl,h2,h3⟩:=h
  obtain ⟨b,off,cs,fr,rfl,e2,e3⟩:=h3 hp
  refine ⟨b,off,_,_,rfl,fun i u hi=>?_⟩
  have hi':i<vs.length:=(List.getElem?_eq_some_iff.1 hi).1
  have h1:((ys.drop j).take vs.length)[i]?=vs[i]?:=by rw [hv]
  rw [List.getElem?_take_of_lt hi',List.getElem?_drop,hi] at h1
  rw [cells_of e2,Nat.add_assoc,e3 (j+i) (List.getElem?_eq_some_iff.1 h1).1]
  exact h1
/-- a slice of elements -/
def Sl (E:World→α→List Value→Prop) (T:TypeId) (c:Nat) (w:World) (v:Value) (xs:List α):Prop:=∃ ys,Cs T w v xs.length ys∧Els E c w ys xs
theorem Sl.kts {E:World→α→List Value→Prop} {ts:List TypeId} {T:TypeId} {c:Nat} {w w':World} {v:Value} {xs:List α} (h:Sl E T c w v xs) (hS:Stab E ts) (k:Kts (T::ts) w w'):Sl E T c w' v xs:=by
  obtain ⟨ys,h1,h2⟩:=h
  exact ⟨ys,h1.kt (k T (by simp)),h2.kts hS (fun t ht=>k t (by simp [ht]))⟩
theorem Sl.gr {E:World→α→List Value→Prop} {ts:List TypeId} {T:TypeId} {c:Nat} {w w':World} {v:Value} {xs:List α} (h:Sl E T c w v xs) (hS:Stab E ts) (g:Gr w w'):Sl E T c w' v xs:=h.kts hS (g.kts _)
theorem Sl.mono {E F:World→α→List Value→Prop} {T:TypeId} {c:Nat} {w:World} {v:Value} {xs:List α} (h:Sl E T c w v xs) (hf:∀ x vs,E w x vs→F w x vs):Sl F T c w v xs:=by
  obtain ⟨ys,h1,h2⟩:=h
  exact ⟨ys,h1,h2.mono hf⟩
theorem Sl.form {E:World→α→List Value→Prop} {T:TypeId} {c:Nat} {w:World} {v:Value} {xs:List α} (h:Sl E T c w v xs):∃ ao cap,v=.slice ao xs.length cap∧xs.length≤cap:=by
  obtain ⟨ys,⟨ao,cap,h1,h2,_⟩,_⟩:=h
  exact ⟨ao,cap,h1,h2⟩
theorem Sl.one {E:World→α→List Value→Prop} {T:TypeId} {c:Nat} {w:World} {v:Value} {xs:List α} (h:Sl E T c w v xs):v.oneCell'=true:=by
  obtain ⟨ao,cap,rfl,_⟩:=h.form;rfl
theorem Sl.nil (E:World→α→List Value→Prop) (T:TypeId) (c:Nat) (w:World) (ao:Option Addr) (cap:Nat):Sl E T c w (.slice ao 0 cap) ([]:List α):=
  ⟨[],⟨ao,cap,rfl,Nat.zero_le _,fun h=>by simp at h⟩,Els.nil ..⟩
theorem Sl.get {E:World→α→List Value→Prop} {T:TypeId} {c:Nat} {w:World} {v:Value} {xs:List α} (h:Sl E T c w v xs) (hc:0<c) {i:Nat} {x:α} (hx:xs[i]?=some x):∃ vs,vs.length=c∧E w x vs∧AtV w v (i*c) vs:=by
  obtain ⟨ys,h1,h2⟩:=h
  have hi:=(List.getElem?_eq_some_iff.1 hx).1
  have hle:i*c+c≤ys.length:=by
    rw [h2.1]
    have:=Nat.mul_le_mul_right c (show i+1≤xs.length by omega)
    rw [Nat.add_mul] at this;omega
  have hl:((ys.drop (i*c)).take c).length=c:=by rw [List.length_take,List.length_drop];omega
  exact ⟨_,hl,h2.2 i x hx,h1.at_ (by omega) _ _ (by rw [hl])⟩
theorem Sl.adr_some {E:World→α→List Value→Prop} {T:TypeId} {c:Nat} {w:World} {v:Value} {xs:List α} (h:Sl E T c w v xs) (hc:0<c) (hp:0<xs.length):∃ b off cap,v=.slice (some ⟨b,off,none⟩) xs.length cap:=by
  obtain ⟨ys,⟨ao,cap,h1,h2,h3⟩,h4⟩:=h
  obtain ⟨b,off,cs,fr,e1,_⟩:=h3 (by rw [h4.1];exact Nat.mul_pos hp hc)
  exact ⟨b,off,cap,by rw [h1,e1]⟩

variable {P:Program} {a:Act} {o:Oper} {w:World} {Q:Exit→Act→World→Prop} {K:Act→World→Prop} {ops:Array Oper}
theorem rv_len {E:World→α→List Value→Prop} {T:TypeId} {c:Nat} {v:Value} {xs:List α} {w0:World} (h:Sl E T c w0 v xs) (x:Operand) (t:TypeId) (hop:o.op=.call {callee:=.builtin .len,args:=#[x],argTypes:=#[t]}) (hx:a.eval x=v) {e:TypeId} (hu:P.underlying t=some (.slice e)):
    RunV P a o w (.int .i64 (xs.length:Int)):=by
  obtain ⟨ao,cap,rfl,_⟩:=h.form
  unfold RunV
  generalize a.eval=ev at*
  unfold execOp
  simp only [hop]
  simp [hx,go_sem,Builtin.len_,run_underlying hu,goInt]
theorem rv_idx {E:World→α→List Value→Prop} {T:TypeId} {c:Nat} {v:Value} {xs:List α} {w0:World} (h:Sl E T c w0 v xs) (hc:0<c) (i:Nat) (hi:i<xs.length) (t:TypeId) (x y:Operand) (hop:o.op=.indexAddr t x y) (hx:a.eval x=v) (hy:a.eval y=.int .i64 (i:Int))
    {e:TypeId} (hu:P.underlying t=some (.slice e)) (hs:(P.info? e).map (·.size)=some c):RunV P a o w (adr v (i*c)):=by
  obtain ⟨b,off,cap,rfl⟩:=h.adr_some hc (by omega)
  obtain ⟨j,hj,hsz⟩:=Option.map_eq_some_iff.1 hs
  unfold RunV execOp
  simp only [hop,hx,hy]
  have h1:(0:Int)≤(i:Int)∧(i:Int)<(xs.length:Int):=by omega
  by_cases h0:i*c=0<;>simp [Instr.indexAt,asIntOf,run_underlying hu,sizeOf,typeInfo,hj,hsz,h1,hi,h0,adr,Addr.add]
theorem rv_ldn (vs:List Value) {v:Value} {j:Nat} (h:AtV w v j vs) (t:TypeId) (x:Operand) (hop:o.op=.load t x) (hx:a.eval x=adr v j) (hs:aggSize P t=some vs.length):RunV P a o w (.agg vs.toArray):=by
  obtain ⟨b,off,n,cap,rfl,hr⟩:=h
  have hx':a.eval x=.pointer (some ⟨b,off+j,none⟩):=hx
  unfold aggSize at hs
  unfold RunV
  cases hd:P.underlying t with
  | none=>rw [hd] at hs;cases hs
  | some d=>
    rw [hd] at hs
    have hrow:d.isRow=true∧(P.info? t).map (·.size)=some vs.length:=by
      cases d<;>first | cases hs | exact ⟨rfl,hs⟩
    unfold execOp
    simp only [hop,hx',Instr.loadAt,Instr.sureAddr,Sem.run_bind,Sem.run_pure,Result.andThen_ok,run_loadVar_mid w b (off+j) t vs d hr hd hrow.1 hrow.2]
theorem rv_ld1 (u:Value) {v:Value} {j:Nat} (h:AtV w v j [u]) (t:TypeId) (x:Operand) (hop:o.op=.load t x) (hx:a.eval x=adr v j) (hs:oneSize P t=true):RunV P a o w u:=by
  obtain ⟨b,off,n,cap,rfl,hr⟩:=h
  have hx':a.eval x=.pointer (some ⟨b,off+j,none⟩):=hx
  unfold oneSize at hs
  have hc:w.cell? ⟨b,off+j,none⟩=some u:=hr 0 u rfl
  unfold RunV
  cases hd:P.underlying t with
  | none=>rw [hd] at hs;cases hs
  | some d=>
    rw [hd] at hs
    have hagg:(isAgg t).run P w=.ok false w:=by
      unfold isAgg
      rw [Sem.run_bind,run_underlying hd w]
      cases d<;>first | cases hs | rfl
    unfold execOp
    simp only [hop,hx',Instr.loadAt,Instr.sureAddr,Sem.run_bind,Sem.run_pure,Result.andThen_ok,loadVar,hagg]
    simp [load,Sem.run,hc]

/-- block b is an array of elements of the call's own -/
def Mk (E:World→α→List Value→Prop) (T:TypeId) (c:Nat) (w:World) (b:Nat) (xs:List α):Prop:=∃ ys:List Value,Lc w b ys.toArray T∧Els E c w ys xs
theorem Mk.kts {E:World→α→List Value→Prop} {ts:List TypeId} {T:TypeId} {c:Nat} {w w':World} {b:Nat} {xs:List α} (h:Mk E T c w b xs) (hS:Stab E ts) (k:Kts (T::ts) w w'):Mk E T c w' b xs:=by
  obtain ⟨ys,h1,h2⟩:=h
  exact ⟨ys,k T (by simp) _ _ _ h1,h2.kts hS (fun t ht=>k t (by simp [ht]))⟩
theorem Mk.gr {E:World→α→List Value→Prop} {ts:List TypeId} {T:TypeId} {c:Nat} {w w':World} {b:Nat} {xs:List α} (h:Mk E T c w b xs) (hS:Stab E ts) (g:Gr w w'):Mk E T c w' b xs:=h.kts hS (g.kts _)
theorem Mk.lt {E:World→α→List Value→Prop} {T:TypeId} {c:Nat} {w:World} {b:Nat} {xs:List α} (h:Mk E T c w b xs):b<w.heap.size:=by
  obtain ⟨ys,h1,_⟩:=h;exact h1.lt
theorem Mk.sl {E:World→α→List Value→Prop} {T:TypeId} {c:Nat} {w:World} {b:Nat} {xs:List α} (h:Mk E T c w b xs) {cap:Nat} (hc:xs.length≤cap):Sl E T c w (.slice (some ⟨b,0,none⟩) xs.length cap) xs:=by
  obtain ⟨ys,h1,h2⟩:=h
  exact ⟨ys,⟨_,cap,rfl,hc,fun _=>⟨b,0,_,_,rfl,h1,fun j _=>by simp⟩⟩,h2⟩
theorem Mk.sl_n {E:World→α→List Value→Prop} {T:TypeId} {c:Nat} {w:World} {b:Nat} {xs:List α} (h:Mk E T c w b xs) {n cap:Nat} (hn:xs.length=n) (hc:n≤cap):Sl E T c w (.slice (some ⟨b,0,none⟩) n cap) xs:=by
  subst hn;exact h.sl hc
theorem getD_some {d:α} {i:Nat} {xs:List α} (h:i<xs.length):xs[i]?=some (xs.getD i d):=by simp [h]
theorem AtV.gr {w w':World} {v:Value} {j:Nat} {vs:List Value} (h:AtV w v j vs) (g:Gr w w'):AtV w' v j vs:=by
  obtain ⟨b,off,n,cap,e,hr⟩:=h
  refine ⟨b,off,n,cap,e,fun i u hi=>?_⟩
  have h1:=hr i u hi
  rw [← h1]
  exact Below.cell g (p:=⟨b,off+j+i,none⟩) (World.block_lt_of_cell? w _ h1)
theorem els_made {E:World→α→List Value→Prop} {w:World} {x0:α} {z:List Value} (hz:E w x0 z):∀ n,Els E z.length w ((List.replicate n z).flatten) (List.replicate n x0)
  | 0=>Els.nil ..
  | n+1=>by
    have:=(els_made hz n).snoc rfl hz
    rw [List.replicate_succ',List.flatten_append,List.flatten_singleton,List.replicate_succ']
    exact this
theorem made_list (z:Array Value) (hz:0<z.size) (n:Nat):(madeCells z (n*z.size)).toList=(List.replicate n z.toList).flatten:=by
  apply List.ext_getElem?
  intro i
  have hl:∀ m,((List.replicate m z.toList).flatten).length=m*z.size:=fun m=>by simp
  have key:∀ m i,i<m*z.size→((List.replicate m z.toList).flatten)[i]?=z[i % z.size]?:=by
    intro m
    induction m with
    | zero=>intro i h;omega
    | succ m ih=>
      intro i h
      rw [List.replicate_succ,List.flatten_cons]
      rcases Nat.lt_or_ge i z.size with h1 | h1
      · rw [List.getElem?_append_left (by simpa using h1),Nat.mod_eq_of_lt h1];simp
      · rw [List.getElem?_append_right (by simpa using h1),Array.length_toList,ih (i - z.size) (by rw [Nat.add_mul] at h;omega),Nat.mod_eq_sub_mod h1]
  by_cases h:i<n*z.size
  · rw [key n i h]
    have hm:i % z.size<z.size:=Nat.mod_lt _ hz
    simp [madeCells,h,hm]
  · rw [List.getElem?_eq_none (by simp [madeCells];omega),List.getElem?_eq_none (by rw [hl];omega)]
/-- 'make([]T,n)' -/
theorem eff_mk {E:World→α→List Value→Prop} (x0:α) (t e:TypeId) (z:Value) (n sz bytes:Nat) (d:Option Tmp) {x y:Operand} (hd:o.dst=d) (hop:o.op=.makeSlice t x y) (hx:a.eval x=.int .i64 (n:Int)) (hy:a.eval y=.int .i64 (n:Int)) (hu:P.underlying t=some (.slice e))
    (hi:(P.info? e).map (fun i=>(i.zero,i.size,i.bytes))=some (some z,sz,bytes)) (hsz:z.cells.size=sz∧0<sz) (hn:n≤1000000) (hbytes:bytes≤1000) (hE:∀ w',E w' x0 z.cells.toList)
    (h:∀ b w',Gr w w'→Mk E e sz w' b (List.replicate n x0)→w.heap.size≤b→K (a.put d (.slice (some ⟨b,0,none⟩) n n)) w'):o.wp P a w K Q:=by
  subst hd
  obtain ⟨i,hi,hzz⟩:=Option.map_eq_some_iff.1 hi
  simp only [Prod.mk.injEq] at hzz
  have hb1:n*bytes≤1000000*1000:=Nat.mul_le_mul hn hbytes
  have hrun:=run_make (P:=P) w t e i z hu hi hzz.1 .i64 .i64 (n:Int) (n:Int) (by omega) (by omega) (by rw [hzz.2.2,← Int.natCast_mul,Nat.mul_comm];omega) (by omega)
  rw [hzz.2.1] at hrun
  unfold Oper.wp execOp
  simp only [hop,hx,hy,Sem.run_bind,hrun,Result.andThen_ok,Sem.run_pure,Int.toNat_natCast]
  refine h _ _ (Gr.alloc w _) ⟨(madeCells z.cells (n*sz)).toList,by rw [Array.toArray_toList];exact heap_alloc_new w _,?_⟩ (Nat.le_refl _)
  obtain ⟨h1,h2⟩:=hsz
  subst h1
  rw [made_list _ h2]
  have:=els_made (hE (w.alloc (.cells (madeCells z.cells (n*z.cells.size)) e))) n
  simpa using this
theorem writeAt_list:∀ (vs:List Value) (off:Nat) (ys:List Value),off+vs.length≤ys.length→writeAt ys.toArray off vs=(ys.take off++vs++ys.drop (off+vs.length)).toArray
  | [],off,ys,_=>by simp [writeAt]
  | v::vs,off,ys,h=>by
    simp only [List.length_cons] at h
    rw [writeAt,List.setIfInBounds_toArray,writeAt_list vs (off+1) (ys.set off v) (by simp;omega)]
    congr 1
    have h1:(ys.set off v).take (off+1)=ys.take off++[v]:=by
      rw [List.take_add_one,List.take_set_of_le (Nat.le_refl _),List.getElem?_set_self (by omega)];rfl
    have h2:(ys.set off v).drop (off+1+vs.length)=ys.drop (off+(vs.length+1)):=by
      rw [List.drop_set_of_lt (by omega)];congr 1;omega
    rw [h1,h2];simp
/-- a store at an element of an array of the call's own -/
theorem eff_stm {E:World→α→List Value→Prop} {ts:List TypeId} (hS:Stab E ts) {T:TypeId} {c:Nat} {b:Nat} {xs:List α} (hM:Mk E T c w b xs) (i:Nat) (hi:i<xs.length) (x0:α) (v:Value) (vs:List Value) (n cap:Nat) (t:TypeId) (x y:Operand)
    (hop:o.op=.store t x y) (hd:o.dst=none) (hx:a.eval x=adr (.slice (some ⟨b,0,none⟩) n cap) (i*c)) (hy:a.eval y=v) (hv:v.cells=vs.toArray) (hs:(P.info? t).map (·.size)=some c) (hc:vs.length=c) (h1:One1 vs) (hE:E w x0 vs) (hT:(ts.all fun t=>t !=T)=true)
    (h:∀ w',St w w' b→(∀ u,u≠T→Kt u w w')→Mk E T c w' b (xs.set i x0)→K a w'):o.wp P a w K Q:=by
  obtain ⟨ys,hL,hE2⟩:=hM
  subst hc
  have hle:i*vs.length+vs.length≤ys.length:=by
    rw [hE2.1]
    have:=Nat.mul_le_mul_right vs.length (show i+1≤xs.length by omega)
    rw [Nat.add_mul] at this;omega
  have hx':a.eval x=.pointer (some ⟨b,i*vs.length,none⟩):=by
    rw [hx];simp [adr]
  refine eff_store t x y b (i*vs.length) v vs ys.toArray _ T hop hd hx' hy hv hL hs (by simpa using hle) h1 rfl (fun w' st L'=>?_)
  rw [writeAt_list _ _ _ hle] at L'
  have hk:Kts ts w w':=st.kts hL hT
  exact h w' st (fun u hu=>st.kt hL hu) ⟨_,L',((hE2.set hi rfl hE).kts hS hk)⟩

/-- a slice that the call appends to -/
def Ow (E:World→α→List Value→Prop) (T:TypeId) (c:Nat) (w:World) (B:Nat) (v:Value) (xs:List α):Prop:=∃ ys,w.ownsRow B T c v xs.length ys∧Els E c w ys xs
theorem ownsRow_gr {w w':World} {B T c n:Nat} {v:Value} {ys:List Value} (h:w.ownsRow B T c v n ys) (k:Kt T w w'):w'.ownsRow B T c v n ys:=by
  refine ⟨h.1,?_⟩
  rcases h.2 with hn | ⟨g,cap,cur,rfl,hb,hg,hr⟩
  · exact .inl hn
  · exact .inr ⟨g,cap,cur,rfl,hb,k _ _ _ hg,hr⟩
theorem Ow.kts {E:World→α→List Value→Prop} {ts:List TypeId} {T:TypeId} {c B:Nat} {w w':World} {v:Value} {xs:List α} (h:Ow E T c w B v xs) (hS:Stab E ts) (k:Kts (T::ts) w w'):Ow E T c w' B v xs:=by
  obtain ⟨ys,h1,h2⟩:=h
  exact ⟨ys,ownsRow_gr h1 (k T (by simp)),h2.kts hS (fun t ht=>k t (by simp [ht]))⟩
theorem Ow.gr {E:World→α→List Value→Prop} {ts:List TypeId} {T:TypeId} {c B:Nat} {w w':World} {v:Value} {xs:List α} (h:Ow E T c w B v xs) (hS:Stab E ts) (g:Gr w w'):Ow E T c w' B v xs:=h.kts hS (g.kts _)
theorem Ow.nil (E:World→α→List Value→Prop) (T:TypeId) (c:Nat) (w:World) (B:Nat):Ow E T c w B (.slice none 0 0) ([]:List α):=⟨[],World.ownsRow_nil ..,Els.nil ..⟩
theorem Ow.one {E:World→α→List Value→Prop} {T:TypeId} {c B:Nat} {w:World} {v:Value} {xs:List α} (h:Ow E T c w B v xs):v.oneCell'=true:=by
  obtain ⟨ys,h1,_⟩:=h
  rcases h1.2 with ⟨rfl,_⟩ | ⟨g,cap,cur,rfl,_⟩<;>rfl
theorem Ow.sl {E:World→α→List Value→Prop} {T:TypeId} {c B:Nat} {w:World} {v:Value} {xs:List α} (h:Ow E T c w B v xs):Sl E T c w v xs:=by
  obtain ⟨ys,h1,h2⟩:=h
  refine ⟨ys,?_,h2⟩
  rcases h1.2 with ⟨rfl,hn⟩ | ⟨g,cap,cur,rfl,hb,hg,h3,h4,h5,h6⟩
  · refine ⟨none,0,by rw [hn],by omega,fun hp=>?_⟩
    rw [h2.1,hn] at hp;simp at hp
  · refine ⟨_,cap,rfl,h3,fun _=>⟨g,0,cur,_,rfl,hg,fun j hj=>?_⟩⟩
    rw [h2.1] at hj
    have:(cur.toList.take (xs.length*c))[j]?=ys[j]?:=by rw [h6]
    rw [List.getElem?_take_of_lt hj] at this
    rw [Nat.zero_add,← this];simp
/-- the slice does not lie in a block -/
def OwNe (v:Value) (b:Nat):Prop:=∀ g n cap,v=.slice (some ⟨g,0,none⟩) n cap→g≠b
theorem Ow.ne {E:World→α→List Value→Prop} {T:TypeId} {c B b:Nat} {w:World} {v:Value} {xs:List α} (h:Ow E T c w B v xs) (hb:w.heap.size≤b):OwNe v b:=by
  obtain ⟨ys,h1,_⟩:=h
  intro g n cap e
  rcases h1.2 with ⟨hn,_⟩ | ⟨g',cap',cur,he,_,hg,_⟩
  · rw [hn] at e;cases e
  · rw [he] at e;cases e
    have:=heap_lt hg
    omega
theorem Ow.st {E:World→α→List Value→Prop} {ts:List TypeId} {T:TypeId} {c B b:Nat} {w w':World} {v:Value} {xs:List α} (h:Ow E T c w B v xs) (hS:Stab E ts) (st:St w w' b) (hn:OwNe v b) (k:Kts ts w w'):Ow E T c w' B v xs:=by
  obtain ⟨ys,h1,h2⟩:=h
  refine ⟨ys,⟨h1.1,?_⟩,h2.kts hS k⟩
  rcases h1.2 with hv | ⟨g,cap,cur,rfl,hb,hg,hr⟩
  · exact .inl hv
  · exact .inr ⟨g,cap,cur,rfl,hb,by rw [st.block g (hn g _ _ rfl)];exact hg,hr⟩
theorem Ow.mono {E:World→α→List Value→Prop} {T:TypeId} {c B C:Nat} {w:World} {v:Value} {xs:List α} (h:Ow E T c w B v xs) (hC:C≤B):Ow E T c w C v xs:=by
  obtain ⟨ys,h1,h2⟩:=h
  refine ⟨ys,⟨h1.1,?_⟩,h2⟩
  rcases h1.2 with hn | ⟨g,cap,cur,rfl,hb,hg,hr⟩
  · exact .inl hn
  · exact .inr ⟨g,cap,cur,rfl,Nat.le_trans hC hb,hg,hr⟩
theorem ow_empty {E:World→α→List Value→Prop} {T:TypeId} {c:Nat} {w:World} {b B:Nat} (hL:Lc w b #[] T) (hB:B≤b):Ow E T c w B (.slice (some ⟨b,0,none⟩) 0 0) ([]:List α):=
  ⟨[],⟨by simp,.inr ⟨b,0,#[],rfl,hB,hL,Nat.le_refl _,by unfold maxLen;omega,by simp,by simp⟩⟩,Els.nil ..⟩
theorem Sl.cases {E:World→α→List Value→Prop} {T:TypeId} {c:Nat} {w:World} {v:Value} {xs:List α} (h:Sl E T c w v xs) (hc:0<c):xs=[]∨0<xs.length∧∃ b off cap,v=.slice (some ⟨b,off,none⟩) xs.length cap:=by
  cases xs with
  | nil=>exact .inl rfl
  | cons x xs=>exact .inr ⟨by simp,h.adr_some hc (by simp)⟩
end
/-! ### elements -/
/-- a text -/
def ETxt (_:World) (X:List UInt8) (vs:List Value):Prop:=vs=[strV X]
theorem stab_txt:Stab ETxt []:=fun _ _ _ _ _ h=>h
/-- an int -/
def EI64 (_:World) (z:Int) (vs:List Value):Prop:=vs=[.int .i64 z]
theorem stab_i64:Stab EI64 []:=fun _ _ _ _ _ h=>h
/-- a rational of less than k bits -/
def ERat (k:Nat) (w:World) (q:Rat) (vs:List Value):Prop:=∃ c0 c1 c2 c3,vs=[c0,c1,c2,c3]∧IsRat w k c0 c1 c2 c3 q
theorem stab_rat (k:Nat):Stab (ERat k) [145]:=fun w w' _ _ hk h=>by
  obtain ⟨c0,c1,c2,c3,e,hq⟩:=h
  exact ⟨c0,c1,c2,c3,e,hq.kp (hk 145 (by simp))⟩
theorem erat_zero (k:Nat) (hk:64≤k) (w:World):ERat k w 0 [.bool false,.slice none 0 0,.bool false,.slice none 0 0]:=⟨_,_,_,_,rfl,IsRat.zero w hk⟩
theorem ERat.mono {k m:Nat} {w:World} {q:Rat} {vs:List Value} (h:ERat k w q vs) (hk:k≤m):ERat m w q vs:=by
  obtain ⟨c0,c1,c2,c3,e,hq⟩:=h
  exact ⟨c0,c1,c2,c3,e,hq.mono hk⟩
end Go.Proofs.YtepgkcimmdmgcaaGreatDoor
namespace Go.Proofs.YtepgkcimmdmgcaaGreatDoor
open Go.ChangeShapes Go.WideShapes Go.ChangeAt Go.RowKit

def IntsAre:List IntKind→List Value→Prop
  | k::ks,c::cs=>(∃ z,c=.int k z∧k.has z)∧IntsAre ks cs
  | [],[]=>True
  | _,_=>False
theorem IntsAre.len:∀ {ks:List IntKind} {cs:List Value},IntsAre ks cs→cs.length=ks.length
  | _::_,_::_,h=>by simp [IntsAre.len h.2]
  | [],[],_=>rfl
  | _::_,[],h=>h.elim
  | [],_::_,h=>h.elim
theorem list_of {α:Type} {Q:Nat→α→Prop}:∀ {n:Nat},(∀ i,i<n→∃ x,Q i x)→∃ xs:List α,xs.length=n∧∀ (i:Nat) (x:α),xs[i]?=some x→Q i x
  | 0,_=>⟨[],rfl,fun i x h=>by cases h⟩
  | n+1,h=>by
    obtain ⟨xs,hl,hx⟩:=list_of (n:=n) fun i hi=>h i (by omega)
    obtain ⟨y,hy⟩:=h n (by omega)
    refine ⟨xs++[y],by simp [hl],fun i x hi=>?_⟩
    rcases Nat.lt_or_ge i xs.length with g | g
    · rw [List.getElem?_append_left g] at hi;exact hx i x hi
    · rw [List.getElem?_append_right g] at hi
      have h0:i=n:=by have:=(List.getElem?_eq_some_iff.1 hi).1;simp at this;omega
      subst h0
      rw [hl,Nat.sub_self] at hi
      obtain rfl:=Option.some.inj hi
      exact hy
theorem add_none (b off j:Nat):(⟨b,off,none⟩:Addr).add j=⟨b,off+j,none⟩:=by by_cases h0:j=0<;>simp [Addr.add,h0]
/-- a slice that is handed over,element by element -/
theorem trod_sl {H α:Type} {E:World→α→List Value→Prop} {enc:TypeId × Value→H} {P:Program} {W:World} {base:Nat} {sp:Nat→Bool} {held:Bool} {t e c:Nat} {fuel:Nat} {cs:List Value} {y:DataW H × List MemPlace}
    (ht:P.underlying t=some (.slice e)) (hc:P.cellsOf e=c) (hp:0<c) (hE:∀ fuel cs y,cs.length=c→DataW.trod enc P W base sp held fuel e cs=some y→∃ x,E W x cs)
    (h:DataW.trod enc P W base sp held fuel t cs=some y):∃ (v:Value) (T:Nat) (xs:List α),cs=[v]∧Sl E T c W v xs:=by
  rcases DataW.trod_slice ht h with ⟨hcs,_⟩ | ⟨a,len,cap,elems,rest,n,_,hcs,_,_,hlc,_,hel,hget,_,_⟩
  · exact ⟨_,0,[],hcs,Sl.nil ..⟩
  · rcases Nat.eq_zero_or_pos len with h0 | hpos
    · subst h0;exact ⟨_,0,[],hcs,Sl.nil ..⟩
    · rw [hc] at hget
      have hone:∀ i,i<len→∃ x ds,ds.length=c∧E W x ds∧∀ j,j<c→W.cell? ((a.add (i*c)).add j)=ds[j]?:=fun i hi=>by
        have h1:=hget i hi
        rw [List.getElem?_eq_getElem (by omega),Option.bind_eq_some_iff] at h1
        obtain ⟨ds,h2,h3⟩:=h1
        unfold World.cells? at h2
        split at h2
        · have hl:=mapM_some_length h2
          rw [List.length_range] at hl
          obtain ⟨x,hx⟩:=hE _ _ _ hl h3
          exact ⟨x,ds,hl,hx,fun j hj=>mapM_some_get h2 j j (by simp [hj])⟩
        · cases h2
      obtain ⟨b,off,spot⟩:=a
      have hsome:∃ u,W.cell? ⟨b,off,spot⟩=some u:=by
        obtain ⟨x,ds,hl,_,hd⟩:=hone 0 hpos
        have:=hd 0 hp
        rw [Nat.zero_mul] at this
        rw [show ((⟨b,off,spot⟩:Addr).add 0).add 0=⟨b,off,spot⟩ by simp [Addr.add]] at this
        exact ⟨_,this.trans (List.getElem?_eq_getElem (by omega))⟩
      obtain ⟨u,hu⟩:=hsome
      have hsp:spot=none:=by
        unfold World.cell? at hu
        cases spot with
        | none=>rfl
        | some s=>dsimp only at hu;split at hu<;>simp at hu
      subst hsp
      obtain ⟨bs,T,fr,hb⟩:∃ bs T fr,W.heap[b]?=some (.cells bs T fr):=by
        unfold World.cell? at hu
        dsimp only at hu
        split at hu
        · next c T fr hh=>exact ⟨c,T,fr,hh⟩
        · cases hu
      have hat:∀ i,i<len→∃ x ds,ds.length=c∧E W x ds∧∀ j,j<c→bs[off+(i*c+j)]?=ds[j]?:=fun i hi=>by
        obtain ⟨x,ds,hl,hx,hd⟩:=hone i hi
        refine ⟨x,ds,hl,hx,fun j hj=>?_⟩
        have:=hd j hj
        rw [add_none,add_none,cells_of hb] at this
        rw [← this,Nat.add_assoc]
      obtain ⟨xs,hxl,hxs⟩:=list_of hat
      have hdiv:∀ k,k<len*c→k/c<len∧k % c<c∧k/c*c+k % c=k:=fun k hk=>⟨(Nat.div_lt_iff_lt_mul hp).2 hk,Nat.mod_lt _ hp,by rw [Nat.mul_comm];exact Nat.div_add_mod k c⟩
      have hys:∀ k,k<len*c→bs[off+k]?=some (bs.getD (off+k) undef):=fun k hk=>by
        obtain ⟨d1,d2,d3⟩:=hdiv k hk
        obtain ⟨x,ds,hl,_,hd⟩:=hat _ d1
        have:=hd _ d2
        rw [d3,List.getElem?_eq_getElem (by omega)] at this
        rw [Array.getD_eq_getD_getElem?,this];rfl
      have hyl:((List.range (len*c)).map fun k=>bs.getD (off+k) undef).length=len*c:=by simp
      have hyk:∀ k,k<len*c→((List.range (len*c)).map fun k=>bs.getD (off+k) undef)[k]?=bs[off+k]?:=fun k hk=>by
        rw [hys k hk];simp [hk]
      refine ⟨_,T,xs,hcs,((List.range (len*c)).map fun k=>bs.getD (off+k) undef),⟨some ⟨b,off,none⟩,cap,by rw [hxl],by omega,fun _=>⟨b,off,bs,fr,rfl,hb,fun j hj=>?_⟩⟩,⟨by rw [hyl,hxl],fun i x hx=>?_⟩⟩
      · rw [hyl] at hj;exact (hyk j hj).symm
      · have hi:i<len:=by rw [← hxl];exact (List.getElem?_eq_some_iff.1 hx).1
        obtain ⟨ds,hl,he,hd⟩:=hxs i x hx
        have hle:i*c+c≤len*c:=by
          have:=Nat.mul_le_mul_right c (show i+1≤len by omega)
          rw [Nat.add_mul] at this;omega
        have e2:(((List.range (len*c)).map fun k=>bs.getD (off+k) undef).drop (i*c)).take c=ds:=by
          apply List.ext_getElem?;intro j
          rcases Nat.lt_or_ge j c with hj | hj
          · rw [List.getElem?_take_of_lt hj,List.getElem?_drop,hyk _ (by omega),hd j hj]
          · rw [List.getElem?_eq_none (by rw [List.length_take];omega),List.getElem?_eq_none (by omega)]
        rw [e2];exact he
theorem open_sl {H α:Type} {E:World→α→List Value→Prop} {enc:TypeId × Value→H} {P:Program} {W:World} {base base2:Nat} {sp:Nat→Bool} {held:Bool} {t e c:Nat} {v:Value} {d:DataW H} {p:List MemPlace}
    (ht:P.underlying t=some (.slice e)) (hc:P.cellsOf e=c) (hp:0<c) (hE:∀ fuel cs y,cs.length=c→DataW.trod enc P W base sp held fuel e cs=some y→∃ x,E W x cs)
    (hval:Value.okWide P W .any base2 t v) (h:DataW.Trod enc P W base sp held t v d p):∃ (T:Nat) (xs:List α),Sl E T c W v xs:=by
  obtain ⟨a0,len0,cap0,rfl⟩:=okWide_slice ht hval
  obtain ⟨fuel,hf⟩:=h
  obtain ⟨v,T,xs,hv,hs⟩:=trod_sl ht hc hp hE hf
  have e1:(Value.slice a0 len0 cap0).cells.toList=[.slice a0 len0 cap0]:=rfl
  rw [e1] at hv
  obtain rfl:=(List.cons.inj hv).1
  exact ⟨T,xs,hs⟩
end Go.Proofs.YtepgkcimmdmgcaaGreatDoor
namespace Go.Proofs.YtepgkcimmdmgcaaGreatDoor
open Go.ChangeShapes Go.WideShapes Go.ChangeAt Go.RowKit
section
variable {α:Type} {H:Type} {enc:TypeId × Value→H} {P:Program} {W:World} {base base2:Nat} {sp:Nat→Bool} {held:Bool}
/-- an element that is a slice -/
def ESl (E:World→α→List Value→Prop) (c:Nat) (w:World) (x:List α) (vs:List Value):Prop:=∃ (u:Value) (T:Nat),vs=[u]∧Sl E T c w u x
theorem trod_esl {E:World→α→List Value→Prop} {t e c:Nat} {fuel:Nat} {cs:List Value} {y:DataW H × List MemPlace} (ht:P.underlying t=some (.slice e)) (hc:P.cellsOf e=c) (hp:0<c)
    (hE:∀ fuel cs y,cs.length=c→DataW.trod enc P W base sp held fuel e cs=some y→∃ x,E W x cs) (h:DataW.trod enc P W base sp held fuel t cs=some y):∃ x,ESl E c W x cs:=by
  obtain ⟨v,T,xs,hv,hs⟩:=trod_sl ht hc hp hE h
  exact ⟨xs,v,T,hv,hs⟩
end
end Go.Proofs.YtepgkcimmdmgcaaGreatDoor
namespace Go.Proofs.YtepgkcimmdmgcaaGreatDoor
open Go.ChangeShapes Go.WideShapes Go.ChangeAt Go.RowKit
end Go.Proofs.YtepgkcimmdmgcaaGreatDoor
namespace Go.Proofs.YtepgkcimmdmgcaaGreatDoor
open Go.RowKit
/-- an element that is a slice of elements -/
def ERw {α:Type} (E:World→α→List Value→Prop) (T:TypeId) (c:Nat) (w:World) (x:List α) (vs:List Value):Prop:=∃ u,vs=[u]∧Sl E T c w u x
theorem stab_rw {α:Type} {E:World→α→List Value→Prop} {ts:List TypeId} (hS:Stab E ts) (T:TypeId) (c:Nat):Stab (ERw E T c) (T::ts):=fun _ _ _ _ hk h=>by
  obtain ⟨u,hu,hs⟩:=h
  exact ⟨u,hu,hs.kts hS hk⟩
/-- a fraction:two texts of integers -/
def EFr (_:World) (q:Rat) (vs:List Value):Prop:=vs=[.string ⟨(Lib.itoa q.num).toArray⟩,.string ⟨(Lib.itoa (q.den:Int)).toArray⟩]
end Go.Proofs.YtepgkcimmdmgcaaGreatDoor
