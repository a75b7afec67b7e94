/- Joined of: R1f, Gen30, R1g, R1h, Ck, R1i, Ck2, Txt, Gen12, Nbr, R2a, Lj, Gen32, Rat2, Gen164, R2b, R2c, R2d, R2e, R1j, Gen31, Gen160, Gen165, Lk. -/
import Derived.Test.YtepgkcimmdmgcaaGreatDoorPartC
import Derived.Test.YtepgkcimmdmgcaaGreatDoorPartB
import Init.Data.Rat.Lemmas
import Derived.Test.YtepgkcimmdmgcaaGreatDoorPartA
namespace Go.Proofs.YtepgkcimmdmgcaaGreatDoor
open Go.RowKit

theorem mul_nextx (a b:Int) (i:Nat):tlow a i*b+td a i*b*10 ^ i=tlow a (i+1)*b:=by rw [tlow_succ];grind
theorem sgn_mul (x y:Int):decide (sgn x*sgn y<0)=decide (x<0∧0<y∨0<x∧y<0):=by
  rcases sgn_cases x with ⟨h1,e1⟩ | ⟨h1,e1⟩ | ⟨h1,e1⟩<;>rcases sgn_cases y with ⟨h2,e2⟩ | ⟨h2,e2⟩ | ⟨h2,e2⟩<;>rw [e1,e2]<;>rw [Bool.eq_iff_iff]<;>simp<;>omega
theorem sgn_mul_le (x y:Int):-1≤sgn x*sgn y∧sgn x*sgn y≤1:=by
  rcases sgn_cases x with ⟨h1,e1⟩ | ⟨h1,e1⟩ | ⟨h1,e1⟩<;>rcases sgn_cases y with ⟨h2,e2⟩ | ⟨h2,e2⟩ | ⟨h2,e2⟩<;>rw [e1,e2]<;>decide
theorem text_mul (x y:Int):textL (decide (sgn x*sgn y<0)) (x.natAbs*y.natAbs)=Lib.itoa (x*y):=by
  apply text_abs
  rw [sgn_mul]
  rcases Int.natAbs_eq x with hx | hx<;>rcases Int.natAbs_eq y with hy | hy
  · right
    refine ⟨by simp;omega,?_⟩
    rw [Int.natCast_mul]
    conv=>lhs;rw [hx,hy]
  · by_cases h0:0<x∧y<0
    · left
      refine ⟨by simp;omega,?_⟩
      rw [Int.natCast_mul]
      conv=>lhs;rw [hx,hy]
      rw [Int.mul_neg]
    · right
      refine ⟨by simp;omega,?_⟩
      rcases (show x=0∨y=0 by omega) with h | h<;>subst h<;>simp
  · by_cases h0:x<0∧0<y
    · left
      refine ⟨by simp;omega,?_⟩
      rw [Int.natCast_mul]
      conv=>lhs;rw [hx,hy]
      rw [Int.neg_mul]
    · right
      refine ⟨by simp;omega,?_⟩
      rcases (show x=0∨y=0 by omega) with h | h<;>subst h<;>simp
  · right
    refine ⟨by simp;omega,?_⟩
    rw [Int.natCast_mul]
    conv=>lhs;rw [hx,hy]
    rw [Int.neg_mul_neg]
set_option maxRecDepth 100000 in
set_option maxHeartbeats 4000000 in
theorem r1_mul {k m:Nat} (x y:Int) (hx:Sz k x) (hy:Sz m y) (hk:k+m≤700000) (w:World):
    Calls Tryz.prog 92 #[.string ⟨(Lib.itoa x).toArray⟩,.string ⟨(Lib.itoa y).toArray⟩] w fun e w'=>e=.returned (.string ⟨(Lib.itoa (x*y)).toArray⟩)∧Gr w w':=by
  have hfin:=text_mul x y
  have HFin:=Lib.hid hfin
  clear hfin
  go_enter Tryz.func92,Tryz.ntmps92
  go_wp2_with fail
  refine (r1_digits_i x hx (by omega) _).mono ?_
  rintro e w1 ⟨⟨v1,rfl,hv1⟩,g1⟩
  obtain ⟨ao,la,ca,rfl,c1,n1,r1,l1⟩:=hv1.len hx
  go_wp2_with fail
  refine (r1_digits_i y hy (by omega) _).mono ?_
  rintro e w2 ⟨⟨v2,rfl,hv2⟩,g2⟩
  obtain ⟨bo,lb,cb,rfl,c2,n2,r2,l2⟩:=hv2.len hy
  have r1:=r1.gr g2
  have g12:=g1.trans g2
  clear hv1 hv2
  obtain ⟨a,ha⟩:∃ a:Int,a=(x.natAbs:Int):=⟨_,rfl⟩
  obtain ⟨b,hb⟩:∃ b:Int,b=(y.natAbs:Int):=⟨_,rfl⟩
  rw [← ha] at n1 r1
  rw [← hb] at n2 r2
  have HA:=Lib.hid ha
  have HB:=Lib.hid hb
  clear ha hb
  go_wp2_with (at_make;refine wpList_makeI _ rfl _ _ rfl _ _ (la+lb+1) rfl rfl (by omega) (by omega) (by omega) ?_)
  intro w3 hO hB0 hsz
  have hO1:=hO
  clear hO hsz
  go_wp2
  go_loopw [8] (fun i wr=>∃ (k:Nat) (d:Nat→Int),k≤la∧i=.int .i64 k∧DOwn wr w2.heap.size (la+lb+1) d∧Below w2.heap.size w2 wr∧Hid (∀ j,j<la+lb+1→d j=td (tlow a k*b) j)∧Hid (tn (tlow a k*b) (k+lb)=0)) (fun i _=>la - (intOf i).toNat)
  case atStart=>exact ⟨0,_,Nat.zero_le _,rfl,hO1,hB0,fun j _=>by rw [tlow_zero,Int.zero_mul];unfold td;rw [tn_zero_n];rfl,by rw [Hid,tlow_zero,Int.zero_mul,tn_zero_n]⟩
  case round=>
    obtain ⟨k,d,hk,rfl,hO,hB,hd,htop⟩:=hrel
    by_cases hlt:k<la
    · have x0:=td_nonneg a k
      have x1:=td_lt a k
      go_wp2
      obtain ⟨wo,hwo⟩:∃ wo:World,wo=wr:=⟨_,rfl⟩
      subst hwo
      go_loopw [9,10] (fun c i wr=>∃ (j:Nat) (cr:Int) (e:Nat→Int),j≤lb+1∧i=.int .i64 j∧c=.int .i64 cr∧0≤cr∧cr<10∧DOwn wr w2.heap.size (la+lb+1) e∧Below w2.heap.size w2 wr∧
        Hid ((j=lb+1→cr=0)∧tn (tlow a k*b+td a k*b*10 ^ k) (k+j)=tn (tlow a k*b) (k+j)+td a k*tn b j+cr)∧
        Hid (∀ i,i<la+lb+1→e i=if i<k+j then td (tlow a k*b+td a k*b*10 ^ k) i else td (tlow a k*b) i)) (fun _ i _=>lb+1 - (intOf i).toNat)
      case atStart=>
        refine ⟨0,0,d,Nat.zero_le _,rfl,rfl,by omega,by omega,hO,hB,⟨by omega,?_⟩,fun i hi=>?_⟩
        · rw [Nat.add_zero,tn_addmul,tn_zero];omega
        · rw [hd.out i hi,Nat.add_zero]
          split
          · rw [td_addmul _ _ (by assumption)]
          · rfl
      case round=>
        obtain ⟨j,cr,e,hj,rfl,rfl,hc0,hc1,hO2,hB2,hz,he⟩:=hrel
        have hs:=mul_stepx hz.out.2 hc0 hc1 x0 x1
        have HS:=Lib.hid hs
        have hj2:j=lb+1→cr=0:=hz.out.1
        by_cases hlt2:j<lb
        · obtain ⟨b1,off1,rfl,hcs1⟩:=(r1.below hB2).at_ (by omega)
          have hcell1:=hcs1 k hlt
          obtain ⟨b2,off2,rfl,hcs2⟩:=(r2.below hB2).at_ (by omega)
          have hcell2:=hcs2 j hlt2
          have y0:=td_nonneg b j
          have y1:=td_lt b j
          have z0:=hs.2.2.2.2.1
          have z1:=hs.2.2.2.2.2
          clear hcs1 hcs2 hs
          have hcell3:=hO2.cell (k+j) (by omega)
          have hfree:=hO2.free (k+j)
          have e1:=he.out (k+j) (by omega)
          rw [if_neg (by omega)] at e1
          rw [e1] at hcell3
          have t0:=td_nonneg (tlow a k*b) (k+j)
          have t1:=td_lt (tlow a k*b) (k+j)
          clear e1 hj2
          have i0:(0:Int)≤(k:Int):=by omega
          have i1:(k:Int)<(la:Int):=by omega
          have i2:(0:Int)≤(j:Int):=by omega
          have i3:(j:Int)<(lb:Int):=by omega
          go_wp2
          go_quiet (fail)
          go_wp2
          have hs:=HS.out
          have e2:td (tlow a k*b) (k+j)+cr+td a k*td b j=cr+(td a k*td b j+td (tlow a k*b) (k+j)):=by omega
          go_roundw
          case rel=>
            refine ⟨j+1,(cr+(td a k*td b j+td (tlow a k*b) (k+j)))/10,_,by omega,by go_num,by rw [e2],hs.2.2.1,hs.2.2.2.1,(hO2.gr ((Below.refl _ _).drewN _)).set (by omega) _,(hB2.drewN _).setCell (Nat.le_refl _) _,⟨fun h=>by omega,hs.2.1⟩,fun i hi=>?_⟩
            by_cases e1:i=k+j
            · subst e1;rw [upd_same,if_pos (by omega),hs.1,e2]
            · rw [upd_other _ _ e1,he.out i hi]
              by_cases e2:i<k+j
              · rw [if_pos e2,if_pos (by omega)]
              · rw [if_neg e2,if_neg (by omega)]
          case measure=>simp [intOf];omega
        · have tb0:tn b j=0:=tn_ge n2.top (by omega)
          have TB:=Lib.hid tb0
          by_cases hcr:0<cr
          · have hjl:j=lb:=by
              rcases Nat.lt_or_ge j (lb+1) with h | h
              · omega
              · have:=hj2 (by omega);omega
            have tr0:td (tlow a k*b) (k+j)=0:=td_zero_of htop.out (by omega)
            have tb1:td b j=0:=td_zero_of n2.top (by omega)
            rw [tb1,tr0,Int.mul_zero,Int.add_zero,Int.add_zero] at hs
            have HS:=Lib.hid hs
            have hcell3:=hO2.cell (k+j) (by omega)
            have hfree:=hO2.free (k+j)
            have e1:=he.out (k+j) (by omega)
            rw [if_neg (by omega),tr0] at e1
            rw [e1] at hcell3
            have HJ:=Lib.hid hjl
            have hkj:k+j<la+lb+1:=by omega
            have hjb:j+1≤lb+1:=by omega
            clear e1 hj2 tb0 tr0 tb1 hs hjl
            go_wp2
            have hs:=HS.out
            go_roundw
            case rel=>
              refine ⟨j+1,cr/10,_,hjb,by go_num,by simp,hs.2.2.1,hs.2.2.2.1,hO2.set hkj _,hB2.setCell (Nat.le_refl _) _,⟨fun h=>by omega,hs.2.1⟩,fun i hi=>?_⟩
              by_cases e1:i=k+j
              · subst e1;rw [upd_same,if_pos (by omega),hs.1]
              · rw [upd_other _ _ e1,he.out i hi]
                by_cases e2:i<k+j
                · rw [if_pos e2,if_pos (by omega)]
                · rw [if_neg e2,if_neg (by omega)]
            case measure=>simp [intOf];omega
          · have hc0':cr=0:=by omega
            have HC:=Lib.hid hc0'
            have hjl:lb≤j:=by omega
            clear hj2 tb0 hs hc0'
            go_wp2
            have hR:tn (tlow a (k+1)*b) (k+j)=0:=by
              have h1:=hz.out.2
              have h2:=tn_ge htop.out (show k+lb≤k+j by omega)
              rw [TB.out,HC.out,h2,Int.mul_zero,mul_nextx] at h1
              omega
            go_roundw
            case rel=>
              refine ⟨k+1,_,by omega,by go_num,hO2,hB2,fun i hi=>?_,tn_ge hR (by omega)⟩
              rw [he.out i hi]
              by_cases e2:i<k+j
              · rw [if_pos e2,mul_nextx]
              · rw [if_neg e2,td_zero_of htop.out (by omega),td_zero_of hR (by omega)]
            case measure=>simp [intOf];omega
    · obtain rfl:k=la:=by omega
      have hlow:=tlow_top n1.top
      have hO':=hO.congr hd.out
      have htop':=htop.out
      rw [hlow] at hO' htop'
      have hab:a*b=((x.natAbs*y.natAbs:Nat):Int):=by rw [HA.out,HB.out,Int.natCast_mul]
      rw [hab] at hO' htop'
      have g23:Gr w2 wr:=hB
      have hZ:TenZ wr (.slice (some ⟨w2.heap.size,0,none⟩) (k+lb+1) (k+lb+1)) ((x.natAbs*y.natAbs:Nat):Int):=⟨_,_,_,rfl,Nat.le_refl _,by omega,tn_ge htop' (by omega),hO'.row⟩
      clear hab hlow htop' hO' hd htop hO hO1
      obtain ⟨hp0,hp1⟩:=sgn_mul_le x y
      go_wp2_with fail
      refine (r1_sign_i x _).mono ?_
      rintro e w4 ⟨rfl,g4⟩
      go_wp2_with fail
      refine (r1_sign_i y _).mono ?_
      rintro e w5 ⟨rfl,g5⟩
      go_wp2_with fail
      (with_reducible refine (r1_text_z (decide (sgn x*sgn y<0)) ((hZ.gr g4).gr g5)).mono ?_)
      rintro e w6 ⟨rfl,g6⟩
      go_wp2
      go_ret
      refine ⟨?_,(((g12.trans g23).trans g4).trans g5).trans g6⟩
      rw [HFin.out];rfl
set_option maxRecDepth 100000 in
set_option maxHeartbeats 1000000 in
theorem r1_neg {k:Nat} (x:Int) (hx:Sz k x) (_hk:k≤700000) (w:World):
    Calls Tryz.prog 93 #[(.string ⟨(Lib.itoa (x):List UInt8).toArray⟩)] w fun e w'=>e=.returned (.string ⟨(Lib.itoa (-x)).toArray⟩)∧Gr w w':=by
 go_enter Tryz.func93,Tryz.ntmps93
 have hB:=Gr.refl w
 refine wp_seq_k (fun K1 k1=>?_)
 refine rg [0] ?_
 refine sv 2 (.string ⟨([]:List UInt8).toArray⟩) ?_
 refine sq_nil ?_
 refine k1 _ _ ?_
 try clear k1 K1
 refine wp_seq_k (fun K2 k2=>?_)
 refine rg [0,1,2,3,4,5,6] ?_
 refine sv 3 (.string ⟨(Lib.itoa (x):List UInt8).toArray⟩) ?_
 refine se ?_
 refine ec 4 (r1_sign_i (x) _) ?_
 rintro e3 w3 ⟨rfl,g3⟩
 refine ⟨_,rfl,?_⟩
 replace hB:=hB.trans g3
 simp only [p3,p4]
 refine sv 5 (.bool (decide ((0:Int)<sgn (x)))) ?_
 refine sv 6 (.string ⟨(Lib.itoa (x):List UInt8).toArray⟩) ?_
 refine se ?_
 refine ec 7 (r1_digits_i (x) hx (by omega) _) ?_
 rintro e4 w4 ⟨⟨v4,rfl,h4⟩,g4⟩
 refine ⟨_,rfl,?_⟩
 replace hB:=hB.trans g4
 simp only [p3,p4]
 refine se ?_
 refine ec 8 (r1_text_s (decide ((0:Int)<sgn (x))) h4 hx (by omega)) ?_
 rintro e5 w5 ⟨rfl,g5⟩
 refine ⟨_,rfl,?_⟩
 replace hB:=hB.trans g5
 simp only [p3,p4]
 refine sv 2 (.string ⟨(textL (decide ((0:Int)<sgn (x))) ((x).natAbs):List UInt8).toArray⟩) ?_
 refine sq_nil ?_
 refine k2 _ _ ?_
 try clear k2 K2
 refine wp_ret ?_
 refine bodyPost_ret (v:=(.string ⟨(textL (decide ((0:Int)<sgn (x))) ((x).natAbs):List UInt8).toArray⟩)) (ret_tmp rfl rfl) rfl ⟨?_,hB⟩
 exact (by rw [text_neg])

set_option maxRecDepth 100000 in
set_option maxHeartbeats 4000000 in
theorem r1_add {k m:Nat} (x y:Int) (hx:Sz k x) (hy:Sz m y) (_hk:k+m≤700000) (w:World):
    Calls Tryz.prog 94 #[(.string ⟨(Lib.itoa (x):List UInt8).toArray⟩),(.string ⟨(Lib.itoa (y):List UInt8).toArray⟩)] w fun e w'=>e=.returned (.string ⟨(Lib.itoa (x+y)).toArray⟩)∧Gr w w':=by
 go_enter Tryz.func94,Tryz.ntmps94
 have hB:=Gr.refl w
 refine wp_seq_k (fun K1 k1=>?_)
 refine rg [0] ?_
 refine sv 4 (.string ⟨([]:List UInt8).toArray⟩) ?_
 refine sq_nil ?_
 refine k1 _ _ ?_
 try clear k1 K1
 refine wp_seq_k (fun K2 k2=>?_)
 refine rg [0,1,2,3,4,5] ?_
 refine sv 7 (.string ⟨(Lib.itoa (x):List UInt8).toArray⟩) ?_
 refine se ?_
 refine ec 8 (r1_digits_i (x) hx (by omega) _) ?_
 rintro e3 w3 ⟨⟨v3,rfl,h3⟩,g3⟩
 refine ⟨_,rfl,?_⟩
 replace hB:=hB.trans g3
 simp only [p3,p4]
 refine sv 9 (.string ⟨(Lib.itoa (y):List UInt8).toArray⟩) ?_
 refine se ?_
 refine ec 10 (r1_digits_i (y) hy (by omega) _) ?_
 rintro e4 w4 ⟨⟨v4,rfl,h4⟩,g4⟩
 refine ⟨_,rfl,?_⟩
 replace hB:=hB.trans g4
 simp only [p3,p4]
 refine sv 5 v3 ?_
 refine sv 6 v4 ?_
 refine sq_nil ?_
 refine k2 _ _ ?_
 try clear k2 K2
 refine wp_seq_k (fun K5 k5=>?_)
 refine wp_seq_k (fun K6 k6=>?_)
 refine rg [0,1,2,3,4,5,6] ?_
 refine sv 11 (.string ⟨(Lib.itoa (x):List UInt8).toArray⟩) ?_
 refine se ?_
 refine ec 12 (r1_sign_i (x) _) ?_
 rintro e7 w7 ⟨rfl,g7⟩
 refine ⟨_,rfl,?_⟩
 replace hB:=hB.trans g7
 simp only [p3,p4]
 refine sv 13 (.bool (decide (sgn (x)<(0:Int)))) ?_
 refine sv 14 (.string ⟨(Lib.itoa (y):List UInt8).toArray⟩) ?_
 refine se ?_
 refine ec 15 (r1_sign_i (y) _) ?_
 rintro e8 w8 ⟨rfl,g8⟩
 refine ⟨_,rfl,?_⟩
 replace hB:=hB.trans g8
 simp only [p3,p4]
 refine sv 16 (.bool (decide (sgn (y)<(0:Int)))) ?_
 refine sv 17 (.bool (((decide (sgn (x)<(0:Int)))==(decide (sgn (y)<(0:Int)))))) ?_
 refine sq_nil ?_
 refine k6 _ _ ?_
 try clear k6 K6
 refine wp_cond_split (t:=((decide (sgn (x)<(0:Int)))==(decide (sgn (y)<(0:Int))))) rfl (fun hb9=>?_) (fun hb9=>?_)
 ·have hq9:(x<0↔y<0):=by rw [sgn_lt,sgn_lt] at hb9;simpa using hb9
  refine wp_seq_k (fun K10 k10=>?_)
  refine rg [0,1,2,3,4,5,6,7] ?_
  refine sv 18 (.string ⟨(Lib.itoa (x):List UInt8).toArray⟩) ?_
  refine se ?_
  refine ec 19 (r1_sign_i (x) _) ?_
  rintro e11 w11 ⟨rfl,g11⟩
  refine ⟨_,rfl,?_⟩
  replace hB:=hB.trans g11
  simp only [p3,p4]
  refine sv 20 (.bool (decide (sgn (x)<(0:Int)))) ?_
  refine sv 21 v3 ?_
  refine sv 22 v4 ?_
  refine se ?_
  replace h3:=h3.gr (g4.trans (g7.trans (g8.trans g11)))
  replace h4:=h4.gr (g7.trans (g8.trans g11))
  refine ec 23 (r1_plus_i h3 h4 hx hy (by omega)) ?_
  rintro e12 w12 ⟨⟨v12,rfl,h12⟩,g12⟩
  refine ⟨_,rfl,?_⟩
  replace hB:=hB.trans g12
  simp only [p3,p4]
  refine se ?_
  refine ec 24 (r1_text_z (decide (sgn (x)<(0:Int))) h12) ?_
  rintro e13 w13 ⟨rfl,g13⟩
  refine ⟨_,rfl,?_⟩
  replace hB:=hB.trans g13
  simp only [p3,p4]
  refine sv 4 (.string ⟨(textL (decide (sgn (x)<(0:Int))) (((x).natAbs+(y).natAbs)):List UInt8).toArray⟩) ?_
  refine sq_nil ?_
  refine k10 _ _ ?_
  try clear k10 K10
  refine wp_ret ?_
  simp only [Exit.then]
  refine bodyPost_ret (v:=(.string ⟨(textL (decide (sgn (x)<(0:Int))) (((x).natAbs+(y).natAbs)):List UInt8).toArray⟩)) (ret_tmp rfl rfl) rfl ⟨?_,hB⟩
  exact (by rw [text_dec (z:=x+y) (by omega)])
 ·have hq9:¬ (x<0↔y<0):=by rw [sgn_lt,sgn_lt] at hb9;simpa using hb9
  refine wp_skip ?_
  refine k5 _ _ ?_
  try clear k5 K5
  refine wp_seq_k (fun K14 k14=>?_)
  refine wp_seq_k (fun K15 k15=>?_)
  refine rg [0,1,2,3] ?_
  refine sv 25 v3 ?_
  refine sv 26 v4 ?_
  refine se ?_
  replace h3:=h3.gr (g4.trans (g7.trans g8))
  replace h4:=h4.gr (g7.trans g8)
  refine ec 27 (r1_order_i h3 h4 hx hy (by omega)) ?_
  rintro e16 w16 ⟨rfl,g16⟩
  refine ⟨_,rfl,?_⟩
  replace hB:=hB.trans g16
  simp only [p3,p4]
  refine sv 28 (.bool (decide ((0:Int)≤sgn (((x).natAbs:Int) - ((y).natAbs:Int))))) ?_
  refine sq_nil ?_
  refine k15 _ _ ?_
  try clear k15 K15
  refine wp_cond_split (t:=decide ((0:Int)≤sgn (((x).natAbs:Int) - ((y).natAbs:Int)))) rfl (fun hb17=>?_) (fun hb17=>?_)
  ·have hq17:y.natAbs≤x.natAbs:=by rw [sgn_ge] at hb17;have:=of_decide_eq_true hb17;omega
   refine wp_seq_k (fun K18 k18=>?_)
   refine rg [0,1,2,3,4,5,6,7] ?_
   refine sv 29 (.string ⟨(Lib.itoa (x):List UInt8).toArray⟩) ?_
   refine se ?_
   refine ec 30 (r1_sign_i (x) _) ?_
   rintro e19 w19 ⟨rfl,g19⟩
   refine ⟨_,rfl,?_⟩
   replace hB:=hB.trans g19
   simp only [p3,p4]
   refine sv 31 (.bool (decide (sgn (x)<(0:Int)))) ?_
   refine sv 32 v3 ?_
   refine sv 33 v4 ?_
   refine se ?_
   replace h3:=h3.gr (g16.trans g19)
   replace h4:=h4.gr (g16.trans g19)
   refine ec 34 (r1_minus_i h3 h4 hx (by omega) (by omega)) ?_
   rintro e20 w20 ⟨⟨v20,rfl,h20⟩,g20⟩
   refine ⟨_,rfl,?_⟩
   replace hB:=hB.trans g20
   simp only [p3,p4]
   refine se ?_
   refine ec 35 (r1_text_s (decide (sgn (x)<(0:Int))) h20 (Nat.lt_of_le_of_lt (Nat.sub_le _ _) hx) (by omega)) ?_
   rintro e21 w21 ⟨rfl,g21⟩
   refine ⟨_,rfl,?_⟩
   replace hB:=hB.trans g21
   simp only [p3,p4]
   refine sv 4 (.string ⟨(textL (decide (sgn (x)<(0:Int))) (((x).natAbs - (y).natAbs)):List UInt8).toArray⟩) ?_
   refine sq_nil ?_
   refine k18 _ _ ?_
   try clear k18 K18
   refine wp_ret ?_
   simp only [Exit.then]
   refine bodyPost_ret (v:=(.string ⟨(textL (decide (sgn (x)<(0:Int))) (((x).natAbs - (y).natAbs)):List UInt8).toArray⟩)) (ret_tmp rfl rfl) rfl ⟨?_,hB⟩
   exact (by rw [text_dec (z:=x+y) (by omega)])
  ·have hq17:x.natAbs≤y.natAbs:=by rw [sgn_ge] at hb17;have:=of_decide_eq_false hb17;omega
   refine wp_skip ?_
   refine k14 _ _ ?_
   try clear k14 K14
   refine wp_seq_k (fun K22 k22=>?_)
   refine rg [0,1,2,3,4,5,6,7] ?_
   refine sv 36 (.string ⟨(Lib.itoa (y):List UInt8).toArray⟩) ?_
   refine se ?_
   refine ec 37 (r1_sign_i (y) _) ?_
   rintro e23 w23 ⟨rfl,g23⟩
   refine ⟨_,rfl,?_⟩
   replace hB:=hB.trans g23
   simp only [p3,p4]
   refine sv 38 (.bool (decide (sgn (y)<(0:Int)))) ?_
   refine sv 39 v4 ?_
   refine sv 40 v3 ?_
   refine se ?_
   replace h4:=h4.gr (g16.trans g23)
   replace h3:=h3.gr (g16.trans g23)
   refine ec 41 (r1_minus_i h4 h3 hy (by omega) (by omega)) ?_
   rintro e24 w24 ⟨⟨v24,rfl,h24⟩,g24⟩
   refine ⟨_,rfl,?_⟩
   replace hB:=hB.trans g24
   simp only [p3,p4]
   refine se ?_
   refine ec 42 (r1_text_s (decide (sgn (y)<(0:Int))) h24 (Nat.lt_of_le_of_lt (Nat.sub_le _ _) hy) (by omega)) ?_
   rintro e25 w25 ⟨rfl,g25⟩
   refine ⟨_,rfl,?_⟩
   replace hB:=hB.trans g25
   simp only [p3,p4]
   refine sv 4 (.string ⟨(textL (decide (sgn (y)<(0:Int))) (((y).natAbs - (x).natAbs)):List UInt8).toArray⟩) ?_
   refine sq_nil ?_
   refine k22 _ _ ?_
   try clear k22 K22
   refine wp_ret ?_
   refine bodyPost_ret (v:=(.string ⟨(textL (decide (sgn (y)<(0:Int))) (((y).natAbs - (x).natAbs)):List UInt8).toArray⟩)) (ret_tmp rfl rfl) rfl ⟨?_,hB⟩
   exact (by rw [text_dec (z:=x+y) (by omega)])

set_option maxRecDepth 100000 in
set_option maxHeartbeats 1000000 in
theorem r1_sub {k m:Nat} (x y:Int) (hx:Sz k x) (hy:Sz m y) (_hk:k+m≤700000) (w:World):
    Calls Tryz.prog 141 #[(.string ⟨(Lib.itoa (x):List UInt8).toArray⟩),(.string ⟨(Lib.itoa (y):List UInt8).toArray⟩)] w fun e w'=>e=.returned (.string ⟨(Lib.itoa (x - y)).toArray⟩)∧Gr w w':=by
 go_enter Tryz.func141,Tryz.ntmps141
 have hB:=Gr.refl w
 refine wp_seq_k (fun K1 k1=>?_)
 refine rg [0] ?_
 refine sv 4 (.string ⟨([]:List UInt8).toArray⟩) ?_
 refine sq_nil ?_
 refine k1 _ _ ?_
 try clear k1 K1
 refine wp_seq_k (fun K2 k2=>?_)
 refine rg [0,1,2,3,4] ?_
 refine sv 5 (.string ⟨(Lib.itoa (x):List UInt8).toArray⟩) ?_
 refine sv 6 (.string ⟨(Lib.itoa (y):List UInt8).toArray⟩) ?_
 refine se ?_
 refine ec 7 (r1_neg (y) hy (by omega) _) ?_
 rintro e3 w3 ⟨rfl,g3⟩
 refine ⟨_,rfl,?_⟩
 replace hB:=hB.trans g3
 simp only [p3,p4]
 refine se ?_
 refine ec 8 (r1_add (x) ((-y)) hx hy.neg (by omega) _) ?_
 rintro e4 w4 ⟨rfl,g4⟩
 refine ⟨_,rfl,?_⟩
 replace hB:=hB.trans g4
 simp only [p3,p4]
 refine sv 4 (.string ⟨(Lib.itoa ((x+(-y))):List UInt8).toArray⟩) ?_
 refine sq_nil ?_
 refine k2 _ _ ?_
 try clear k2 K2
 refine wp_ret ?_
 refine bodyPost_ret (v:=(.string ⟨(Lib.itoa ((x+(-y))):List UInt8).toArray⟩)) (ret_tmp rfl rfl) rfl ⟨?_,hB⟩
 exact (by rw [Int.sub_eq_add_neg])

/-- append of a slice that reads as integers -/
theorem wpList_appR {P:Program} {ops:Array Oper} {rest:List Oper} {o:Oper} {a:Act} {w:World} {Q:Exit→Act→World→Prop} (hgd:o.guard=none) (s x:Operand) (t:TypeId)
    (ho:o.op=.call {callee:=.builtin .append,args:=#[s,x],argTypes:=#[t,t]}) (B:Nat) (v:Value) (ys:List Value) (hs:a.eval s=v) (hown:OwnS w 3 B v ys)
    (ao:Option Addr) (len cap:Nat) (d:Nat→Int) (hx:a.eval x=.slice ao len cap) (hr:DRow w ao len d) (hn:ys.length+len≤1000000)
    (ht:P.underlying t=some (.slice 3)) (hi:(P.info? 3).map (fun i=>(i.zero,i.size,i.bytes))=some (some (.int .i64 0),1,8)) (hBw:B≤w.heap.size)
    (h:∀ v' w',OwnS w' 3 B v' (ys++dvals .i64 len d)→Below B w w'→wpList P ops Q rest (a.put o.dst v') w'):wpList P ops Q (o::rest) a w:=by
  obtain ⟨i,hi,hz,hsize,hby⟩:=info_parts hi
  have hfin:∀ v' w',w'.ownsRow B 3 1 v' (ys.length+len) (ys++dvals .i64 len d)→w.grownBy w' v.ownBlock→wpList P ops Q rest (a.put o.dst v') w':=by
    intro v' w' h2 hg
    have hnew:∀ k,v.ownBlock=some k→B≤k:=by
      intro k hk
      rcases hown.2 with ⟨rfl,_⟩ | ⟨g,cap,cur,rfl,hb,hgg,_⟩
      · simp [Value.ownBlock] at hk
      · simp [Value.ownBlock] at hk
        subst hk;exact hb
    refine h v' w' ?_ ⟨hg.os,hg.tape,hg.output,hg.size,fun k hk=>hg.block k (by omega) (fun e=>?_)⟩
    · unfold OwnS;simpa [dvals_length] using h2
    · have:=hnew k e.symm;omega
  have hone:∀ u ∈ dvals .i64 len d,u.oneCell'=true:=fun u hu=>by
    simp only [dvals,List.mem_map] at hu
    obtain ⟨_,_,rfl⟩:=hu;rfl
  cases ao with
  | none=>
    have h0:len=0:=by
      rcases Nat.eq_zero_or_pos len with e | e
      · exact e
      · obtain ⟨b,off,e',_⟩:=hr.at_ e;cases e'
    subst h0
    refine wpList_plain hgd fun K hK=>?_
    have hrun:∀ ty,(Builtin.append_ #[t,t] ty #[v,.slice none 0 cap]).run P w=.ok v w:=fun ty=>by
      have hn0:=hown.2
      rcases hn0 with ⟨rfl,h1⟩ | ⟨g,c1,c2,rfl,_,_,h1,_⟩
      · simp [Builtin.append_,Builtin.firstCells,Builtin.lenOf,run_underlying ht,sizeOf,typeInfo,hi]
      · simp [Builtin.append_,Builtin.firstCells,Builtin.lenOf,run_underlying ht,sizeOf,typeInfo,hi,storeCells,h1]
    unfold Oper.wp
    simp [execOp,ho,resolve,invoke,builtin,hs,hx,hrun,Result.andThen]
    exact hK _ _ (hfin v w (show w.ownsRow B 3 1 v (ys.length+0) (ys++[]) by rw [Nat.add_zero,List.append_nil];exact hown) (World.grownBy.refl w _))
  | some ad=>
    refine wpList_append_own w hgd s x t ho B 3 i _ 1 8 ht hi hz hsize hby rfl (by omega) v ys.length ys hs hown ad len cap (dvals .i64 len d) hx (by simp [dvals_length]) (fun j u hj=>?_) hone (by unfold maxLen;omega) (by omega) hBw (fun v' w' h2 hg _=>hfin v' w' h2 hg)
    have hj':j<len:=by have:=(List.getElem?_eq_some_iff.1 hj).1;simpa [dvals_length] using this
    obtain ⟨b,off,e,hc⟩:=hr.at_ (by omega)
    obtain rfl:=Option.some.inj e
    rw [dvals_get _ _ hj'] at hj
    obtain rfl:=Option.some.inj hj
    have e0:(⟨b,off,none⟩:Addr).add j=⟨b,off+j,none⟩:=by
      unfold Addr.add
      by_cases h0:j=0<;>simp [h0]
    rw [e0];exact hc j hj'
theorem own_lit (w:World) (T:TypeId) (u:Value):OwnS (w.alloc (.cells #[u] T)) T w.heap.size (.slice (some ⟨w.heap.size,0,none⟩) 1 1) [u]:=
  ⟨rfl,.inr ⟨w.heap.size,1,#[u],rfl,Nat.le_refl _,heap_alloc_new _ _,Nat.le_refl _,by unfold maxLen;omega,rfl,rfl⟩⟩
theorem dvals_cons (N d:Int) (h0:0≤d) (h1:d<10) (len:Nat):Value.int .i64 d::dvals .i64 len (td N)=dvals .i64 (len+1) (td (N*10+d)):=by
  have e:∀ i,td (N*10+d) (i+1)=td N i:=fun i=>by
    rw [← td_tenth];congr 1;omega
  unfold dvals
  rw [List.range_succ_eq_map,List.map_cons,List.map_map]
  show _=Value.int .i64 (td (N*10+d) 0)::_
  have e0:td (N*10+d) 0=d:=by unfold td;rw [tn_zero];omega
  rw [e0]
  congr 1
  exact List.map_congr_left fun i _=>by simp only [Function.comp_apply,e]
theorem tn_cons (N d:Int) (h0:0≤d) (h1:d<10) (len:Nat):tn (N*10+d) (len+1)=tn N len:=by
  rw [← tn_tenth];congr 1;omega
theorem r1_sign_v {v:Int} (z:Int) (h:sgn z=v) (w:World):
    Calls Tryz.prog 116 #[.string ⟨(Lib.itoa z).toArray⟩] w fun e w'=>e=.returned (.int .i64 v)∧Gr w w':=h ▸ r1_sign_i z w
theorem r1_sub_one {k:Nat} (z:Int) (hz:Sz k z) (hk:k≤600000) (w:World):
    Calls Tryz.prog 141 #[.string ⟨(Lib.itoa z).toArray⟩,.string ⟨#[49]⟩] w fun e w'=>e=.returned (.string ⟨(Lib.itoa (z - 1)).toArray⟩)∧Gr w w':=by
  have:=r1_sub (m:=1) z 1 hz (by unfold Sz;decide) (by omega) w
  rw [itoa_one] at this
  exact this
theorem text_at {neg:Bool} {n:Nat} {v:Value} {w:World} {L:List UInt8} (h:TenZ w v (n:Int)) (hL:textL neg n=L):
    Calls Tryz.prog 120 #[.bool neg,v] w fun e w'=>e=.returned (.string ⟨L.toArray⟩)∧Gr w w':=hL ▸ r1_text_z neg h
theorem TenS.toZ {k:Nat} {w:World} {v:Value} {n:Nat} (h:TenS w v (n:Int)) (hn:n<2 ^ k) (hk:k≤800000):TenZ w v (n:Int):=by
  obtain ⟨ao,len,cap,h1,h2,h3,h4,h5⟩:=h.len hn
  exact ⟨ao,len,cap,h1,h2,by omega,h3.top,h4⟩
theorem ne_zero_text {z:Int} (h:z≠0):((⟨(Lib.itoa z).toArray⟩:ByteArray).toList==[48])=false:=by
  rw [beq_eq_false_iff_ne,ByteArray.toList_eq]
  exact itoa_ne_zero h
theorem ne_zero_beq {z:Int} (h:z≠0):(Lib.itoa z==[48])=false:=by
  rw [beq_eq_false_iff_ne]
  exact itoa_ne_zero h
set_option maxRecDepth 100000 in
set_option maxHeartbeats 4000000 in
theorem r1_divmod {k m:Nat} (x y:Int) (hx:Sz k x) (hy:Sz m y) (hy0:0<y) (hk:k+m≤300000) (w:World):
    Calls Tryz.prog 118 #[.string ⟨(Lib.itoa x).toArray⟩,.string ⟨(Lib.itoa y).toArray⟩] w fun e w'=>e=.returned (.tuple #[.string ⟨(Lib.itoa (x/y)).toArray⟩,.string ⟨(Lib.itoa (x % y)).toArray⟩])∧Gr w w':=by
  go_enter Tryz.func118,Tryz.ntmps118
  go_wp2_with fail
  refine (r1_digits_i x hx (by omega) _).mono ?_
  rintro e w1 ⟨⟨v1,rfl,hv1⟩,g1⟩
  obtain ⟨ao,la,ca,rfl,c1,n1,r1,l1⟩:=hv1.len hx
  go_wp2_with fail
  refine (r1_digits_i y hy (by omega) _).mono ?_
  rintro e w2 ⟨⟨v2,rfl,hv2⟩,g2⟩
  have r1:=r1.gr g2
  have g12:=g1.trans g2
  have hb2:=hv2
  obtain ⟨bo,lb,cb,rfl,c2,n2,r2,l2⟩:=hv2.len hy
  clear hv1 r2 n2 l2 c2
  obtain ⟨a,ha⟩:∃ a:Nat,a=x.natAbs:=⟨_,rfl⟩
  obtain ⟨b,hb⟩:∃ b:Nat,b=y.natAbs:=⟨_,rfl⟩
  have hax:a<2 ^ k:=by rw [ha];exact hx
  have hbx:b<2 ^ m:=by rw [hb];exact hy
  have hb0:0<b:=by omega
  rw [← ha] at n1 r1
  rw [← hb] at hb2
  have HA:=Lib.hid ha
  have HB:=Lib.hid hb
  have HX:=Lib.hid (show a<2 ^ k∧b<2 ^ m from ⟨hax,hbx⟩)
  clear ha hb hax hbx
  go_wp2_with (at_make;refine wpList_makeI _ rfl _ _ rfl _ _ la rfl rfl (by omega) (by omega) (by omega) ?_)
  intro w3 hO hB0 hsz
  have hO1:=hO
  clear hO hsz
  go_wp2
  go_loopw [8,10] (fun r i wr=>∃ (j:Nat) (v:Value) (d:Nat→Int),r=v∧i=.int .i64 ((j:Int) - 1)∧j≤la∧Hid (TenS wr v (tn (a:Int) j % (b:Int))∧∀ i,i<la→d i=if j≤i then td ((a:Int)/(b:Int)) i else 0)∧DOwn wr w2.heap.size la d∧Below w2.heap.size w2 wr) (fun _ i _=>(intOf i+1).toNat)
  case atStart=>
    refine ⟨la,_,_,rfl,rfl,Nat.le_refl _,⟨?_,fun i hi=>by rw [if_neg (by omega)]⟩,hO1,hB0⟩
    rw [n1.top]
    exact ⟨none,0,0,rfl,Nat.le_refl _,NX.zero,DRow.nil _ _ _⟩
  case round=>
    obtain ⟨j,v,d,rfl,rfl,hj,hz,hO,hB⟩:=hrel
    by_cases hp:0<j
    · obtain ⟨q,rfl⟩:∃ q,j=q+1:=⟨j - 1,by omega⟩
      have e1:(((q+1:Nat):Int) - 1)=(q:Int):=by omega
      simp only [e1]
      clear e1
      obtain ⟨N,hN⟩:∃ N:Int,N=tn (a:Int) (q+1) % (b:Int):=⟨_,rfl⟩
      have hN0:0≤N:=by rw [hN];exact Int.emod_nonneg _ (by omega)
      have hNb:N<(b:Int):=by rw [hN];exact Int.emod_lt_of_pos _ (by omega)
      obtain ⟨hz1,hz2⟩:=hz.out
      rw [← hN] at hz1
      obtain ⟨ro,lr,cr,rfl,hcr,nr,rr⟩:=hz1
      have lr1:lr≤m+1:=by
        obtain ⟨n0,hn0⟩:∃ n0:Nat,N=(n0:Int):=⟨N.toNat,by omega⟩
        rw [hn0] at nr hNb
        exact nr.len_bits (Nat.lt_trans (by omega) HX.out.2)
      have HZ2:=Lib.hid hz2
      have HN:=Lib.hid hN
      clear hz hz2 hN
      obtain ⟨b1,off1,rfl,hcs1⟩:=(r1.below hB).at_ (by omega)
      have hcell1:=hcs1 q (by omega)
      clear hcs1
      have d0:=td_nonneg (a:Int) q
      have d1:=td_lt (a:Int) q
      go_wp2_with (at_builtin;refine wpList_appR rfl (.tmp 29) (.tmp 30) _ (by rfl) wr.heap.size _ [.int .i64 (td (a:Int) q)] (by rfl) (own_lit _ _ _) ro lr cr (td N) (by rfl) (rr.gr (Gr.alloc _ _)) (by simp;omega) Tryz.underlying30 int_info (by simp) ?_)
      intro v4 w4 hown hB4
      rw [dvals_cons N _ d0 d1] at hown
      have gB4:Gr wr w4:=Below.trans ((Below.refl _ _).alloc (Nat.le_refl _) _) hB4
      obtain ⟨N1,hN1⟩:∃ N1:Int,N1=N*10+td (a:Int) q:=⟨_,rfl⟩
      have ht1:tn N1 (lr+1)=0:=by rw [hN1,tn_cons _ _ d0 d1,nr.top]
      have hN10:0≤N1:=by omega
      have hN1b:N1<10*(b:Int):=by omega
      rw [← hN1] at hown
      have HT1:=Lib.hid ht1
      have HN1:=Lib.hid hN1
      clear ht1 hN1
      obtain ⟨ao5,cap5,rfl,hcap5,_,hrow5,hfr5⟩:=hown.drowF
      go_wp2_with fail
      refine (r1_trim ao5 (lr+1) cap5 N1 _ (by omega) hcap5 hN10 HT1.out hrow5).mono ?_
      rintro e w5 ⟨⟨k5,rfl,hk5,hn5⟩,rfl⟩
      have hT5:TenF w4 (w2.heap.size+1) (.slice ao5 k5 cap5) N1:=⟨_,_,_,rfl,by omega,hn5,hrow5.shorter hk5,fun ad e=>Nat.le_trans (by have:=hO.lt;omega) (hfr5 ad e)⟩
      have hO4:=hO.gr gB4
      have hB4':Below w2.heap.size w2 w4:=Below.trans hB (Below.mono gB4 hB.size)
      clear hrow5 hown hB4 hO rr
      go_wp2
      obtain ⟨wo,hwo⟩:∃ wo:World,wo=w4:=⟨_,rfl⟩
      subst hwo
      go_loopg [8] 10 (fun gk r wr=>∃ (c:Nat) (v:Value) (e:Nat→Int),r=v∧c+gk=10∧Hid ((c:Int)*b≤N1∧TenF wr (w2.heap.size+1) v (N1 - (c:Int)*b)∧∀ i,i<la→e i=if q<i then td ((a:Int)/(b:Int)) i else if i=q then (c:Int) else 0)∧DOwn wr w2.heap.size la e∧Below w2.heap.size w2 wr)
      case atStart=>
        refine ⟨0,_,d,rfl,rfl,⟨by simp;omega,by simpa using hT5,fun i hi=>?_⟩,hO4,hB4'⟩
        rw [HZ2.out i hi]
        by_cases h1:q<i
        · rw [if_pos h1,if_pos (by omega)]
        · rw [if_neg h1,if_neg (by omega)];split<;>rfl
      case round=>
        obtain ⟨c,v,e,rfl,hc,hz,hO6,hB6⟩:=hrel
        obtain ⟨hz1,hz2,hz3⟩:=hz.out
        obtain ⟨r0,hr0⟩:∃ r0:Nat,N1 - (c:Int)*b=(r0:Int):=⟨(N1 - (c:Int)*b).toNat,by omega⟩
        rw [hr0] at hz2
        have hr0b:r0<2 ^ (m+4):=by
          have h1:=HX.out.2
          have h2:(0:Int)≤(c:Int)*b:=Int.mul_nonneg (by omega) (by omega)
          rw [Nat.pow_add]
          omega
        have hbb:=hb2.gr hB6
        have HR0:=Lib.hid hr0
        have HZ1:=Lib.hid hz1
        have HZ3:=Lib.hid hz3
        clear hr0 hz1 hz3 hz
        go_wp2_with fail
        refine (r1_order_i hz2.s hbb hr0b HX.out.2 (by omega)).mono ?_
        rintro e7 w7 ⟨rfl,g7⟩
        by_cases hge:b≤r0
        · have hs1:(0:Int)≤sgn ((r0:Int) - (b:Int)):=by have:=sgn_cases ((r0:Int) - (b:Int));omega
          have hc9:c<9:=by
            rcases Nat.lt_or_ge c 9 with h | h
            · exact h
            · have h1:=HR0.out
              have h2:(9:Int)*b≤(c:Int)*b:=Int.mul_le_mul_of_nonneg_right (by omega) (by omega)
              omega
          go_wp2_with fail
          refine (r1_minus_f (hz2.s.gr g7) (hbb.gr g7) hr0b hge (by omega)).mono ?_
          rintro e8 w8 ⟨⟨v8,rfl,h8⟩,g8⟩
          have hO8:=(hO6.gr g7).gr g8
          have hcell:=hO8.cell q (by omega)
          have hfree:=hO8.free q
          have e9:=HZ3.out q (by omega)
          rw [if_neg (by omega),if_pos rfl] at e9
          rw [e9] at hcell
          clear e9
          go_wp2
          go_roundg (gk - 1)
          case measure=>omega
          case rel=>
            have hmul:((c+1:Nat):Int)*(b:Int)=(c:Int)*b+b:=by rw [Int.natCast_add,Int.add_mul];simp
            refine ⟨c+1,_,_,rfl,by omega,⟨by rw [hmul];have:=HR0.out;omega,?_,fun i hi=>?_⟩,hO8.set (by omega) ((c:Int)+1),?_⟩
            · rw [hmul,show N1 - ((c:Int)*b+b)=((r0 - b:Nat):Int) by have:=HR0.out;omega]
              exact (h8.mono (by have:=(hO6.gr g7).lt;omega)).set (by omega) _ _
            · by_cases e1:i=q
              · subst e1;rw [upd_same,if_neg (by omega),if_pos rfl];simp
              · rw [upd_other _ _ e1,HZ3.out i hi]
                by_cases e2:q<i
                · rw [if_pos e2,if_pos e2]
                · rw [if_neg e2,if_neg e2,if_neg e1,if_neg e1]
            · exact (Below.trans hB6 (Below.mono (g7.trans g8) hB6.size)).setCell (Nat.le_refl _) _
        · have hs1:sgn ((r0:Int) - (b:Int))<0:=by have:=sgn_cases ((r0:Int) - (b:Int));omega
          have hst:=short_stepx (a:Int) (b:Int) q (by omega)
          have hc0:(0:Int)≤(c:Int):=by omega
          have hdiv:N1/(b:Int)=(c:Int)∧N1 % (b:Int)=(r0:Int):=by
            rw [Int.ediv_emod_unique (by omega)]
            have h1:=HR0.out
            rw [Int.mul_comm (b:Int) (c:Int)]
            omega
          rw [← HN.out,← HN1.out,hdiv.1,hdiv.2] at hst
          have HST:=Lib.hid hst
          clear hst hdiv
          go_wp2
          go_roundw
          case rel=>
            refine ⟨q,_,e,rfl,rfl,by omega,⟨?_,fun i hi=>?_⟩,hO6.gr g7,Below.trans hB6 (Below.mono g7 hB6.size)⟩
            · rw [HST.out.2.1];exact hz2.s.gr g7
            · rw [HZ3.out i hi]
              by_cases e2:q<i
              · rw [if_pos e2,if_pos (by omega)]
              · rw [if_neg e2]
                by_cases e3:i=q
                · rw [if_pos e3,if_pos (by omega),e3,HST.out.1]
                · rw [if_neg e3,if_neg (by omega)]
          case measure=>simp [intOf]
    · obtain rfl:j=0:=by omega
      obtain ⟨hz1,hz2⟩:=hz.out
      obtain ⟨qn,hqn⟩:∃ qn:Nat,qn=a/b:=⟨_,rfl⟩
      obtain ⟨rn,hrn⟩:∃ rn:Nat,rn=a % b:=⟨_,rfl⟩
      have hdm:(a:Int)=(b:Int)*qn+rn:=by
        have:=Nat.div_add_mod a b
        rw [hqn,hrn,← Int.natCast_mul,← Int.natCast_add,this]
      have hrb:rn<b:=by rw [hrn];exact Nat.mod_lt _ hb0
      have g3:Gr w2 wr:=hB
      have hQ:TenZ wr (.slice (some ⟨w2.heap.size,0,none⟩) la la) (qn:Int):=by
        refine ⟨_,_,_,rfl,Nat.le_refl _,by omega,?_,(hO.congr fun i hi=>?_).row⟩
        · rw [hqn,Int.natCast_ediv,tn_div _ _ (by omega),n1.top,Int.zero_ediv]
        · rw [hz2 i hi,if_pos (by omega),hqn,Int.natCast_ediv]
      rw [tn_zero,← Int.natCast_emod,← hrn] at hz1
      have hR:=hz1.toZ (Nat.lt_trans hrb HX.out.2) (by omega)
      have hQs:Sz k (-(qn:Int)):=by
        have h1:=HX.out.1
        have h2:=Nat.div_le_self a b
        unfold Sz;omega
      have hax:x<0→x=-(a:Int):=fun h=>by have:=HA.out;omega
      have hax2:¬ x<0→x=(a:Int):=fun h=>by have:=HA.out;omega
      have hby:y=(b:Int):=by have:=HB.out;omega
      have hRs:Sz m (-(rn:Int)):=by
        have h1:=HX.out.2
        unfold Sz;omega
      have HDM:=Lib.hid hdm
      have HBY:=Lib.hid hby
      clear hdm hby hz hz1 hz2 hO hqn hrn
      by_cases hneg:x<0
      · have hx1:=Lib.hid (hax hneg)
        clear hax hax2
        by_cases hr0:rn=0
        · subst hr0
          have HF:Hid (x/y=-(qn:Int)∧x % y=0):=by
            have h1:=hx1.out
            have h2:=HDM.out
            have h3:=HBY.out
            show x/y=_∧_
            rw [h3,Int.ediv_emod_unique (by omega),Int.mul_neg]
            omega
          go_wp2_with fail
          (with_reducible refine (r1_sign_v x (sgn_neg hneg) _).mono ?_)
          rintro e4 w4 ⟨rfl,g4⟩
          go_wp2_with fail
          (with_reducible refine (r1_sign_v y (sgn_pos hy0) _).mono ?_)
          rintro e5 w5 ⟨rfl,g5⟩
          go_wp2_with fail
          (with_reducible refine (text_at (neg:=true) ((hQ.gr g4).gr g5) (text_abs (z:=-(qn:Int)) (.inl ⟨rfl,rfl⟩))).mono ?_)
          rintro e6 w6 ⟨rfl,g6⟩
          go_wp2_with fail
          (with_reducible refine (r1_sign_v x (sgn_neg hneg) _).mono ?_)
          rintro e7 w7 ⟨rfl,g7⟩
          go_wp2_with fail
          (with_reducible refine (text_at (neg:=true) ((((hR.gr g4).gr g5).gr g6).gr g7) (show textL true 0=[48] from rfl)).mono ?_)
          rintro e8 w8 ⟨rfl,g8⟩
          go_wp2
          go_ret2
          refine ⟨?_,(((((g12.trans g3).trans g4).trans g5).trans g6).trans g7).trans g8⟩
          rw [HF.out.1,HF.out.2,itoa_zero]
          rfl
        · have HF:Hid (x/y=-(qn:Int) - 1∧x % y=-(rn:Int)+y):=by
            have h1:=hx1.out
            have h2:=HDM.out
            have h3:=HBY.out
            show x/y=_∧_
            rw [h3,Int.ediv_emod_unique (by omega),Int.mul_sub,Int.mul_neg]
            omega
          have hne:=ne_zero_text (show -(rn:Int)≠0 by omega)
          have hne2:=ne_zero_beq (show -(rn:Int)≠0 by omega)
          go_wp2_with fail
          (with_reducible refine (r1_sign_v x (sgn_neg hneg) _).mono ?_)
          rintro e4 w4 ⟨rfl,g4⟩
          go_wp2_with fail
          (with_reducible refine (r1_sign_v y (sgn_pos hy0) _).mono ?_)
          rintro e5 w5 ⟨rfl,g5⟩
          go_wp2_with fail
          (with_reducible refine (text_at (neg:=true) ((hQ.gr g4).gr g5) (text_abs (z:=-(qn:Int)) (.inl ⟨rfl,rfl⟩))).mono ?_)
          rintro e6 w6 ⟨rfl,g6⟩
          go_wp2_with fail
          (with_reducible refine (r1_sign_v x (sgn_neg hneg) _).mono ?_)
          rintro e7 w7 ⟨rfl,g7⟩
          go_wp2_with fail
          (with_reducible refine (text_at (neg:=true) ((((hR.gr g4).gr g5).gr g6).gr g7) (text_abs (z:=-(rn:Int)) (.inl ⟨rfl,rfl⟩))).mono ?_)
          rintro e8 w8 ⟨rfl,g8⟩
          go_wp2_with fail
          (with_reducible refine (r1_sign_v (-(rn:Int)) (sgn_neg (by omega)) _).mono ?_)
          rintro e9 w9 ⟨rfl,g9⟩
          go_wp2_with fail
          (with_reducible refine (r1_sign_v y (sgn_pos hy0) _).mono ?_)
          rintro e10 wa ⟨rfl,ga⟩
          go_wp2_with fail
          (with_reducible refine (r1_sub_one (-(qn:Int)) hQs (by omega) _).mono ?_)
          rintro e11 wb ⟨rfl,gb⟩
          go_wp2_with fail
          (with_reducible refine (r1_add (-(rn:Int)) y hRs hy (by omega) _).mono ?_)
          rintro e12 wc ⟨rfl,gc⟩
          go_wp2
          go_ret2
          refine ⟨?_,(((((((((g12.trans g3).trans g4).trans g5).trans g6).trans g7).trans g8).trans g9).trans ga).trans gb).trans gc⟩
          rw [HF.out.1,HF.out.2]
          rfl
      · have hx1:=Lib.hid (hax2 hneg)
        clear hax hax2
        have HF:Hid (x/y=(qn:Int)∧x % y=(rn:Int)):=by
          have h1:=hx1.out
          have h2:=HDM.out
          have h3:=HBY.out
          show x/y=_∧_
          rw [h3,Int.ediv_emod_unique (by omega)]
          omega
        by_cases hx0:x=0
        · have hr0:rn=0:=by
            have h1:=HF.out.2
            rw [hx0,Int.zero_emod] at h1;omega
          have hsx:sgn x=0:=by rw [hx0];rfl
          subst hr0
          have HS:=Lib.hid hsx
          clear hsx hx0
          go_wp2_with fail
          (with_reducible refine (r1_sign_v x HS.out _).mono ?_)
          rintro e4 w4 ⟨rfl,g4⟩
          go_wp2_with fail
          (with_reducible refine (r1_sign_v y (sgn_pos hy0) _).mono ?_)
          rintro e5 w5 ⟨rfl,g5⟩
          go_wp2_with fail
          (with_reducible refine (text_at (neg:=false) ((hQ.gr g4).gr g5) (text_abs (z:=(qn:Int)) (.inr ⟨rfl,rfl⟩))).mono ?_)
          rintro e6 w6 ⟨rfl,g6⟩
          go_wp2_with fail
          (with_reducible refine (r1_sign_v x HS.out _).mono ?_)
          rintro e7 w7 ⟨rfl,g7⟩
          go_wp2_with fail
          (with_reducible refine (text_at (neg:=false) ((((hR.gr g4).gr g5).gr g6).gr g7) (show textL false 0=[48] from rfl)).mono ?_)
          rintro e8 w8 ⟨rfl,g8⟩
          go_wp2
          go_ret2
          refine ⟨?_,(((((g12.trans g3).trans g4).trans g5).trans g6).trans g7).trans g8⟩
          rw [HF.out.1,HF.out.2]
          show _=Ending.returned (Value.tuple #[_,.string ⟨(Lib.itoa 0).toArray⟩])
          rw [itoa_zero]
          rfl
        · by_cases hr0:rn=0
          · subst hr0
            go_wp2_with fail
            (with_reducible refine (r1_sign_v x (sgn_pos (by omega)) _).mono ?_)
            rintro e4 w4 ⟨rfl,g4⟩
            go_wp2_with fail
            (with_reducible refine (r1_sign_v y (sgn_pos hy0) _).mono ?_)
            rintro e5 w5 ⟨rfl,g5⟩
            go_wp2_with fail
            (with_reducible refine (text_at (neg:=false) ((hQ.gr g4).gr g5) (text_abs (z:=(qn:Int)) (.inr ⟨rfl,rfl⟩))).mono ?_)
            rintro e6 w6 ⟨rfl,g6⟩
            go_wp2_with fail
            (with_reducible refine (r1_sign_v x (sgn_pos (by omega)) _).mono ?_)
            rintro e7 w7 ⟨rfl,g7⟩
            go_wp2_with fail
            (with_reducible refine (text_at (neg:=false) ((((hR.gr g4).gr g5).gr g6).gr g7) (show textL false 0=[48] from rfl)).mono ?_)
            rintro e8 w8 ⟨rfl,g8⟩
            go_wp2
            go_ret2
            refine ⟨?_,(((((g12.trans g3).trans g4).trans g5).trans g6).trans g7).trans g8⟩
            rw [HF.out.1,HF.out.2]
            show _=Ending.returned (Value.tuple #[_,.string ⟨(Lib.itoa 0).toArray⟩])
            rw [itoa_zero]
            rfl
          · have hne:=ne_zero_text (show (rn:Int)≠0 by omega)
            have hne2:=ne_zero_beq (show (rn:Int)≠0 by omega)
            go_wp2_with fail
            (with_reducible refine (r1_sign_v x (sgn_pos (by omega)) _).mono ?_)
            rintro e4 w4 ⟨rfl,g4⟩
            go_wp2_with fail
            (with_reducible refine (r1_sign_v y (sgn_pos hy0) _).mono ?_)
            rintro e5 w5 ⟨rfl,g5⟩
            go_wp2_with fail
            (with_reducible refine (text_at (neg:=false) ((hQ.gr g4).gr g5) (text_abs (z:=(qn:Int)) (.inr ⟨rfl,rfl⟩))).mono ?_)
            rintro e6 w6 ⟨rfl,g6⟩
            go_wp2_with fail
            (with_reducible refine (r1_sign_v x (sgn_pos (by omega)) _).mono ?_)
            rintro e7 w7 ⟨rfl,g7⟩
            go_wp2_with fail
            (with_reducible refine (text_at (neg:=false) ((((hR.gr g4).gr g5).gr g6).gr g7) (text_abs (z:=(rn:Int)) (.inr ⟨rfl,rfl⟩))).mono ?_)
            rintro e8 w8 ⟨rfl,g8⟩
            go_wp2_with fail
            (with_reducible refine (r1_sign_v (rn:Int) (sgn_pos (by omega)) _).mono ?_)
            rintro e9 w9 ⟨rfl,g9⟩
            go_wp2_with fail
            (with_reducible refine (r1_sign_v y (sgn_pos hy0) _).mono ?_)
            rintro e10 wa ⟨rfl,ga⟩
            go_wp2
            go_ret2
            refine ⟨?_,(((((((g12.trans g3).trans g4).trans g5).trans g6).trans g7).trans g8).trans g9).trans ga⟩
            rw [HF.out.1,HF.out.2]
            rfl
theorem text_false {n:Nat}:textL false n=Lib.itoa (n:Int):=text_abs (.inr ⟨rfl,rfl⟩)
set_option maxRecDepth 100000 in
set_option maxHeartbeats 4000000 in
theorem r1_gcd {k m:Nat} (x y:Int) (hx:Sz k x) (hy:Sz m y) (hk:k+m≤140000) (w:World):
    Calls Tryz.prog 117 #[.string ⟨(Lib.itoa x).toArray⟩,.string ⟨(Lib.itoa y).toArray⟩] w fun e w'=>e=.returned (.string ⟨(Lib.itoa (Int.gcd x y:Int)).toArray⟩)∧Gr w w':=by
  go_enter Tryz.func117,Tryz.ntmps117
  go_wp2_with fail
  refine (r1_digits_i x hx (by omega) _).mono ?_
  rintro e w1 ⟨⟨v1,rfl,hv1⟩,g1⟩
  go_wp2_with fail
  (with_reducible refine (text_at (neg:=false) (hv1.toZ hx (by omega)) text_false).mono ?_)
  rintro e w2 ⟨rfl,g2⟩
  go_wp2_with fail
  refine (r1_digits_i y hy (by omega) _).mono ?_
  rintro e w3 ⟨⟨v3,rfl,hv3⟩,g3⟩
  go_wp2_with fail
  (with_reducible refine (text_at (neg:=false) (hv3.toZ hy (by omega)) text_false).mono ?_)
  rintro e w4 ⟨rfl,g4⟩
  have hx2:x.natAbs<2 ^ (k+m):=Nat.lt_of_lt_of_le hx (Nat.pow_le_pow_right (by omega) (by omega))
  have hy2:y.natAbs<2 ^ (k+m):=Nat.lt_of_lt_of_le hy (Nat.pow_le_pow_right (by omega) (by omega))
  go_wp2
  go_loopg [5,6] (y.natAbs) (fun gk s5 s6 wr=>∃ A:Nat,s5=.string ⟨(Lib.itoa (A:Int)).toArray⟩∧s6=.string ⟨(Lib.itoa (gk:Int)).toArray⟩∧Hid (Nat.gcd A gk=Int.gcd x y∧A<2 ^ (k+m)∧gk<2 ^ (k+m))∧Gr w wr)
  case atStart=>exact ⟨x.natAbs,rfl,rfl,⟨rfl,hx2,hy2⟩,((g1.trans g2).trans g3).trans g4⟩
  case round=>
    obtain ⟨A,rfl,rfl,hz,hB⟩:=hrel
    by_cases hg:gk=0
    · subst hg
      have HZ:Hid (A=Int.gcd x y):=by
        have:=hz.out.1
        rw [Nat.gcd_zero_right] at this
        exact this
      have e0:Lib.itoa 0=[48]:=itoa_zero
      simp only [Int.natCast_zero,e0]
      go_wp2
      go_ret
      refine ⟨?_,hB⟩
      rw [HZ.out];rfl
    · have hne:=ne_zero_text (show (gk:Int)≠0 by omega)
      have hne2:=ne_zero_beq (show (gk:Int)≠0 by omega)
      have hdm:=r1_divmod (k:=k+m) (m:=k+m) (A:Int) (gk:Int) (by unfold Sz;simpa using hz.out.2.1) (by unfold Sz;simpa using hz.out.2.2) (by omega) (by omega) wr
      rw [← Int.natCast_emod] at hdm
      go_wp2_with fail
      (with_reducible refine hdm.mono ?_)
      rintro e w5 ⟨rfl,g5⟩
      clear hdm
      go_wp2
      go_roundg (A % gk)
      case measure=>exact Nat.mod_lt _ (by omega)
      case rel=>
        refine ⟨gk,rfl,rfl,⟨?_,hz.out.2.2,Nat.lt_trans (Nat.mod_lt _ (by omega)) hz.out.2.2⟩,hB.trans g5⟩
        rw [← hz.out.1,Nat.gcd_comm gk,← Nat.gcd_rec,Nat.gcd_comm]
end Go.Proofs.YtepgkcimmdmgcaaGreatDoor
namespace Go.Proofs.YtepgkcimmdmgcaaGreatDoor
open Go

end Go.Proofs.YtepgkcimmdmgcaaGreatDoor
namespace Go.Proofs.YtepgkcimmdmgcaaGreatDoor
open Go.RowKit

theorem toList_get {D:ByteArray} {k:Nat} (h:k<D.size):D.data.toList[k]?=some D[k]:=by
  rw [Array.getElem?_toList,Array.getElem?_eq_getElem h];rfl
end Go.Proofs.YtepgkcimmdmgcaaGreatDoor
namespace Go.Proofs.YtepgkcimmdmgcaaGreatDoor
open Go

/-- what lies before the first slash,and behind it -/
def cutL:List UInt8→List UInt8 × Option (List UInt8)
  | []=>([],none)
  | c::l=>if c=47 then ([],some l) else (c::(cutL l).1,(cutL l).2)
def numL (s:List UInt8):List UInt8:=(cutL s).1
theorem cutL_eq:∀ s,s=(match (cutL s).2 with | none=>(cutL s).1 | some d=>(cutL s).1++47::d)
  | []=>rfl
  | c::l=>by
    have ih:=cutL_eq l
    unfold cutL
    by_cases h:c=47
    · rw [if_pos h,h];rfl
    · rw [if_neg h]
      dsimp only
      cases hd:(cutL l).2 with
      | none=>rw [hd] at ih;dsimp only at ih ⊢;rw [← ih]
      | some d=>rw [hd] at ih;dsimp only at ih ⊢;rw [List.cons_append,← ih]
theorem cutL_none:∀ {s:List UInt8},(∀ c ∈ s,c≠47)→cutL s=(s,none)
  | [],_=>rfl
  | c::l,h=>by
    unfold cutL
    rw [if_neg (h c (by simp)),cutL_none (fun x hx=>h x (by simp [hx]))]
theorem cutL_some:∀ {a b:List UInt8},(∀ c ∈ a,c≠47)→cutL (a++47::b)=(a,some b)
  | [],b,_=>by simp [cutL]
  | c::l,b,h=>by
    rw [List.cons_append]
    unfold cutL
    rw [if_neg (h c (by simp)),cutL_some (fun x hx=>h x (by simp [hx]))]
theorem itoa_noslash (z:Int):∀ c ∈ Lib.itoa z,c≠47:=by
  intro c hc e
  subst e
  by_cases h:z<0
  · rw [itoa_neg h] at hc
    rcases List.mem_cons.1 hc with h1 | h1
    · exact absurd h1 (by decide)
    · have:=dec_all _ _ h1;simp at this
  · rw [itoa_nonneg (by omega)] at hc
    have:=dec_all _ _ hc;simp at this
theorem cutL_ratL (q:Rat):cutL (ratL q)=(Lib.itoa q.num,if q.den=1 then none else some (Lib.itoa (q.den:Int))):=by
  unfold ratL
  by_cases h:q.den=1
  · rw [if_pos h,if_pos h,cutL_none (itoa_noslash _)]
  · rw [if_neg h,if_neg h,List.append_assoc]
    exact cutL_some (itoa_noslash _)
theorem numL_ratL (q:Rat):numL (ratL q)=Lib.itoa q.num:=by unfold numL;rw [cutL_ratL]
end Go.Proofs.YtepgkcimmdmgcaaGreatDoor
namespace Go.Proofs.YtepgkcimmdmgcaaGreatDoor
open Go.RowKit

theorem itoa_n (n:Nat) (h1:n<1000000000) {w:World} (ht:Tab w):
    Calls Tryz.prog 103 #[.int .i64 (n:Int)] w fun e w'=>e=.returned (.string ⟨(Lib.decDigits n).toArray⟩)∧Gr w w':=itoa_t n (by omega) (by omega) ht
theorem short9 {ao:Option Addr} {la ca u:Nat} {w:World} (h:Mag w ao la ca (u:Int)) (hl:la≤1000000):
    Calls Tryz.prog 102 #[.slice ao la ca,.int .u32 1000000000] w fun e w'=>
      (∃ go k cap,e=.returned (.tuple #[.slice go k cap,.int .u32 ((u % 1000000000:Nat):Int)])∧Mag w' go k cap ((u/1000000000:Nat):Int))∧Gr w w':=
  short_c ao la ca u 1000000000 w (by omega) h (by omega) (by omega)
theorem Mag.pos0 {w:World} {ao:Option Addr} {la ca u:Nat} (h:Mag w ao la ca (u:Int)) (hb:decide ((0:Int)<(la:Int))=true):0<u:=by
  have h0:(0:Int)<la:=by simpa using hb
  rcases Nat.eq_zero_or_pos u with e | e
  · have:=h.nl.len_zero.2 (by omega);omega
  · exact e
theorem Mag.zero0 {w:World} {ao:Option Addr} {la ca u:Nat} (h:Mag w ao la ca (u:Int)) (hb:decide ((0:Int)<(la:Int))=false):u=0:=by
  have h0:¬ (0:Int)<la:=by simpa using hb
  have:=h.nl.len_zero.1 (by omega)
  omega
theorem Mag.len9 {w:World} {ao:Option Addr} {la ca u k:Nat} (h:Mag w ao la ca (u:Int)) (hu:u<2 ^ k) (hk:k≤1000000):la≤1000000:=by
  have:=h.nl.len_sz (show Sz k (u:Int) by unfold Sz;simpa using hu)
  omega
set_option maxRecDepth 100000 in
set_option maxHeartbeats 4000000 in
theorem text_pos {k N:Nat} {s:Bool} {ao:Option Addr} {la ca:Nat} {w:World} (ha:Mag w ao la ca (N:Int)) (hN:0<N) (hNk:N<2 ^ k) (_hk:k≤900000) (ht:Tab w):
    Calls Tryz.prog 81 #[(.agg #[(.bool (s)),(.slice ao la ca)])] w fun e w'=>e=.returned (.string ⟨((if s then [45] else [])++Lib.decDigits N).toArray⟩)∧Gr w w':=by
 have hla:0<la:=by
    rcases Nat.eq_zero_or_pos la with e | e
    · have:=ha.nl.len_zero.1 e;omega
    · exact e
 have e0:((la:Int)==(0:Int))=false:=by simp;omega
 go_enter Tryz.func81,Tryz.ntmps81
 have hB:=Gr.refl w
 refine wp_seq_k (fun K1 k1=>?_)
 refine rg [0,1] ?_
 refine se ?_
 refine eb 69 #[(.bool (s)),(.slice ao la ca)] 1 hB fun b2 w2 g2 L2 o2 q2 hB=>?_
 simp only [p3,p4]
 refine sv 2 (.string ⟨([]:List UInt8).toArray⟩) ?_
 refine sq_nil ?_
 refine k1 _ _ ?_
 try clear k1 K1
 refine wp_seq_k (fun K3 k3=>?_)
 refine wp_seq_k (fun K4 k4=>?_)
 refine rg [0,1,2,3] ?_
 refine sv 9 (.pointer (some ⟨b2,1,none⟩)) ?_
 refine sw 10 (.slice ao la ca) rfl (rk 67 1 L2) ?_
 refine sv 11 (.int .i64 ((la:Int))) ?_
 refine sw 12 (.bool false) rfl (RunV.bool (x:=((la:Int)==(0:Int))) (rvk (by kernel_rfl)) e0) ?_
 refine sq_nil ?_
 refine k4 _ _ ?_
 try clear k4 K4
 refine wp_cond_false rfl ?_
 refine wp_skip ?_
 refine k3 _ _ ?_
 try clear k3 K3
 refine wp_seq_k (fun K5 k5=>?_)
 refine rg [0] ?_
 refine sv 3 (.slice none 0 0) ?_
 refine sq_nil ?_
 refine k5 _ _ ?_
 try clear k5 K5
 refine wp_seq_k (fun K6 k6=>?_)
 refine wp_seq_k (fun K7 k7=>?_)
 refine rg [0,1,2] ?_
 refine sv 13 (.pointer (some ⟨b2,1,none⟩)) ?_
 refine sw 14 (.slice ao la ca) rfl (rk 67 1 L2) ?_
 refine sv 4 (.slice ao la ca) ?_
 refine sq_nil ?_
 refine k7 _ _ ?_
 try clear k7 K7
 refine wp_block ?_
 replace ha:=ha.kp g2.kp
 refine wp_loop_inv (a:=⟨List.toArray ?l8,[]⟩) (fun n a w'=>∃ (u:Nat) (L:List (List UInt8)) (v:Value) (mo:Option Addr) (ml:Nat) (mc:Nat) (u8:Nat→Value),u=n∧a=⟨[(u8 0),(.pointer (some ⟨b2,0,none⟩)),(.string ⟨([]:List UInt8).toArray⟩),v,(.slice mo ml mc),(u8 5),(u8 6),(u8 7),undef,(u8 9),(u8 10),(u8 11),(.bool false),(u8 13),(u8 14),(u8 15),(u8 16),(u8 17),(u8 18),(u8 19),(u8 20),(u8 21),(u8 22),(u8 23),(u8 24),(u8 25),(u8 26),(u8 27),(u8 28),(u8 29),(u8 30),(u8 31),(u8 32),(u8 33),(u8 34),(u8 35),(u8 36),(u8 37),(u8 38),(u8 39),undef,undef,undef,undef,undef,undef,undef,undef,undef].toArray,[]⟩∧L++grps u=grps N∧u<2 ^ k∧Mag w' mo ml mc (u:Int)∧OwnS w' 9 w.heap.size v (L.map strV)∧Lc w' b2 #[(.bool (s)),(.slice ao la ca)] 69∧Gr w w') (N) ?_ ?_
 ·exact ⟨N,[],.slice none 0 0,ao,la,ca,(fun i=>List.getD ?l8 i undef),rfl,rfl,(by simp),hNk,ha,(OwnS.nil _ _ _),L2,hB⟩
 rintro n8 a8 w8 ⟨u,L,v,mo,ml,mc,u8,rfl,rfl,hX,hu,hm,hown,L2,hB⟩ K8 k8
 have hln:L.length≤1000000:=by have h1:=grps_len k N hNk;rw [← hX,List.length_append] at h1;omega
 have h9:=dec9 u
 have h9r:(Lib.repeatL [48] (9 - (Lib.decDigits (u % 1000000000)).length)).length≤9:=by rw [Lib.repeatL_length];simp
 refine wp_seq_k (fun K9 k9=>?_)
 refine wp_seq_k (fun K10 k10=>?_)
 refine rg [0,1,2] ?_
 refine sv 15 (.slice mo ml mc) ?_
 refine sv 16 (.int .i64 ((ml:Int))) ?_
 refine sv 17 (.bool (decide ((0:Int)<(ml:Int)))) ?_
 refine sq_nil ?_
 refine k10 _ _ ?_
 try clear k10 K10
 refine wp_cond_split (t:=decide ((0:Int)<(ml:Int))) rfl (fun hb11=>?_) (fun hb11=>?_)
 ·have hu0:=hb11
  refine wp_skip ?_
  refine k9 _ _ ?_
  try clear k9 K9
  refine wp_block ?_
  refine wp_seq_k (fun K12 k12=>?_)
  refine rg [0,1,2,3,4,5,6] ?_
  refine sv 19 (.slice mo ml mc) ?_
  refine se ?_
  refine ec 20 (short9 hm (hm.len9 hu (by omega))) ?_
  rintro e13 w13 ⟨⟨go13,k13,cap13,rfl,h13⟩,g13⟩
  refine ⟨_,rfl,?_⟩
  replace hB:=hB.trans g13
  simp only [p3,p4]
  refine sv 18 (.tuple #[(.slice go13 k13 cap13),(.int .u32 (((u % 1000000000:Nat):Int)))]) ?_
  refine sv 21 (.slice go13 k13 cap13) ?_
  refine sv 22 (.int .u32 (((u % 1000000000:Nat):Int))) ?_
  refine sv 5 (.slice go13 k13 cap13) ?_
  refine sv 6 (.int .u32 (((u % 1000000000:Nat):Int))) ?_
  refine sq_nil ?_
  refine k12 _ _ ?_
  try clear k12 K12
  refine wp_seq_k (fun K14 k14=>?_)
  refine rg [0,1,2,3] ?_
  refine sv 23 (.int .u32 (((u % 1000000000:Nat):Int))) ?_
  refine sw 24 (.int .i64 (((u % 1000000000:Nat):Int))) rfl (RunV.int (x:=IntKind.i64.wrap (((u % 1000000000:Nat):Int))) (y:=((u % 1000000000:Nat):Int)) (rvk (by kernel_rfl)) (by first | rfl | (rw [IntKind.wrap_i64];omega))) ?_
  refine se ?_
  refine ec 25 (itoa_n (u % 1000000000) (by omega) (ht.gr hB)) ?_
  rintro e15 w15 ⟨rfl,g15⟩
  refine ⟨_,rfl,?_⟩
  replace hB:=hB.trans g15
  simp only [p3,p4]
  refine sv 7 (.string ⟨(Lib.decDigits (u % 1000000000):List UInt8).toArray⟩) ?_
  refine sq_nil ?_
  refine k14 _ _ ?_
  try clear k14 K14
  refine wp_seq_k (fun K16 k16=>?_)
  refine wp_seq_k (fun K17 k17=>?_)
  refine rg [0,1,2] ?_
  refine sv 26 (.slice go13 k13 cap13) ?_
  refine sv 27 (.int .i64 ((k13:Int))) ?_
  refine sv 28 (.bool (decide ((0:Int)<(k13:Int)))) ?_
  refine sq_nil ?_
  refine k17 _ _ ?_
  try clear k17 K17
  refine wp_cond_split (t:=decide ((0:Int)<(k13:Int))) rfl (fun hb18=>?_) (fun hb18=>?_)
  ·refine rg [0,1,2,3,4,5,6] ?_
   refine sv 29 (.string ⟨(Lib.decDigits (u % 1000000000):List UInt8).toArray⟩) ?_
   refine sv 30 (.int .i64 (((Lib.decDigits (u % 1000000000)).length:Int))) ?_
   refine sw 31 (.int .i64 ((9 - ((Lib.decDigits (u % 1000000000)).length:Int)))) rfl (RunV.int (x:=IntKind.i64.wrap ((9 - ((Lib.decDigits (u % 1000000000)).length:Int)))) (y:=(9 - ((Lib.decDigits (u % 1000000000)).length:Int))) (rvk (by kernel_rfl)) (by first | rfl | (rw [IntKind.wrap_i64];omega))) ?_
   refine se ?_
   refine ec 32 (repeat9 (Lib.decDigits (u % 1000000000)).length (dec9 u) _) ?_
   rintro e19 w19 ⟨rfl,g19⟩
   refine ⟨_,rfl,?_⟩
   replace hB:=hB.trans g19
   simp only [p3,p4]
   refine sv 33 (.string ⟨(Lib.decDigits (u % 1000000000):List UInt8).toArray⟩) ?_
   refine sw 34 (.string ⟨((Lib.repeatL [48] (9 - (Lib.decDigits (u % 1000000000)).length))++(Lib.decDigits (u % 1000000000)):List UInt8).toArray⟩) rfl (rv_cat 9 9 _ _ (Lib.repeatL [48] (9 - (Lib.decDigits (u % 1000000000)).length)) (Lib.decDigits (u % 1000000000)) rfl rfl rfl (by omega)) ?_
   refine sv 7 (.string ⟨((Lib.repeatL [48] (9 - (Lib.decDigits (u % 1000000000)).length))++(Lib.decDigits (u % 1000000000)):List UInt8).toArray⟩) ?_
   refine sq_nil ?_
   refine k16 _ _ ?_
   try clear k16 K16
   refine wp_seq_k (fun K20 k20=>?_)
   refine rg [0,1,2,3,4] ?_
   refine sv 35 v ?_
   refine sv 36 (.string ⟨((Lib.repeatL [48] (9 - (Lib.decDigits (u % 1000000000)).length))++(Lib.decDigits (u % 1000000000)):List UInt8).toArray⟩) ?_
   refine se ?_
   refine eff_bs 9 1 #[(.string ⟨((Lib.repeatL [48] (9 - (Lib.decDigits (u % 1000000000)).length))++(Lib.decDigits (u % 1000000000)):List UInt8).toArray⟩)] (some 37) rfl (fun _=>by kernel_rfl) (fun b21 w21 g21 L21 q21=>?_)
   replace L2:=L2.gr (g13.trans (g15.trans g19))
   replace hB:=hB.trans g21
   simp only [putl,p3,p4]
   refine se ?_
   replace hown:=hown.gr (g13.trans (g15.trans (g19.trans g21)))
   refine eff_append1 _ _ 59 9 w.heap.size (.string ⟨([]:List UInt8).toArray⟩) v _ b21 (.string ⟨((Lib.repeatL [48] (9 - (Lib.decDigits (u % 1000000000)).length))++(Lib.decDigits (u % 1000000000)):List UInt8).toArray⟩) 1 (some 38) 16 rfl rfl rfl rfl hown L21 rfl w hB (Nat.le_refl _) (Below.size hB) (by rw [List.length_map];exact hln) (by decide) (by kernel_rfl) (by kernel_rfl) rfl (fun v22 w22 own22 wt22 hb22=>?_)
   replace hB:=hb22
   replace own22:=OwnS.snoc (f:=strV) own22
   simp only [putl,p3,p4]
   refine sv 3 v22 ?_
   refine sq_nil ?_
   refine k20 _ _ ?_
   try clear k20 K20
   refine rg [0,1] ?_
   refine sv 39 (.slice go13 k13 cap13) ?_
   refine sv 4 (.slice go13 k13 cap13) ?_
   refine sq_nil ?_
   have kq23:=g15.kp.trans (g19.kp.trans (g21.kp.trans (wt22.kp (by decide))))
   replace h13:=h13.kp kq23
   replace L2:=wt22.lc (L2.gr g21) (by decide)
   refine k8 (u/1000000000) ⟨List.toArray ?l24,[]⟩ _ (Nat.div_lt_self (Mag.pos0 hm hu0) (by omega)) ?_
   exact ⟨u/1000000000,_,v22,go13,k13,cap13,(fun i=>List.getD ?l24 i undef),rfl,rfl,(grps_step hX (Mag.pos0 hm hu0) (grp_hi (Mag.pos0 h13 hb18))),(Nat.lt_of_le_of_lt (Nat.div_le_self _ _) hu),h13,own22,L2,hB⟩
  ·refine wp_skip ?_
   refine k16 _ _ ?_
   try clear k16 K16
   refine wp_seq_k (fun K25 k25=>?_)
   refine rg [0,1,2,3,4] ?_
   refine sv 35 v ?_
   refine sv 36 (.string ⟨(Lib.decDigits (u % 1000000000):List UInt8).toArray⟩) ?_
   refine se ?_
   refine eff_bs 9 1 #[(.string ⟨(Lib.decDigits (u % 1000000000):List UInt8).toArray⟩)] (some 37) rfl (fun _=>by kernel_rfl) (fun b26 w26 g26 L26 q26=>?_)
   replace L2:=L2.gr (g13.trans g15)
   replace hB:=hB.trans g26
   simp only [putl,p3,p4]
   refine se ?_
   replace hown:=hown.gr (g13.trans (g15.trans g26))
   refine eff_append1 _ _ 59 9 w.heap.size (.string ⟨([]:List UInt8).toArray⟩) v _ b26 (.string ⟨(Lib.decDigits (u % 1000000000):List UInt8).toArray⟩) 1 (some 38) 16 rfl rfl rfl rfl hown L26 rfl w hB (Nat.le_refl _) (Below.size hB) (by rw [List.length_map];exact hln) (by decide) (by kernel_rfl) (by kernel_rfl) rfl (fun v27 w27 own27 wt27 hb27=>?_)
   replace hB:=hb27
   replace own27:=OwnS.snoc (f:=strV) own27
   simp only [putl,p3,p4]
   refine sv 3 v27 ?_
   refine sq_nil ?_
   refine k25 _ _ ?_
   try clear k25 K25
   refine rg [0,1] ?_
   refine sv 39 (.slice go13 k13 cap13) ?_
   refine sv 4 (.slice go13 k13 cap13) ?_
   refine sq_nil ?_
   have kq28:=g15.kp.trans (g26.kp.trans (wt27.kp (by decide)))
   replace h13:=h13.kp kq28
   replace L2:=wt27.lc (L2.gr g26) (by decide)
   refine k8 (u/1000000000) ⟨List.toArray ?l29,[]⟩ _ (Nat.div_lt_self (Mag.pos0 hm hu0) (by omega)) ?_
   exact ⟨u/1000000000,_,v27,go13,k13,cap13,(fun i=>List.getD ?l29 i undef),rfl,rfl,(grps_step hX (Mag.pos0 hm hu0) (grp_lo (by rw [Mag.zero0 h13 hb18];omega))),(Nat.lt_of_le_of_lt (Nat.div_le_self _ _) hu),h13,own27,L2,hB⟩
 ·have hz:=Mag.zero0 hm hb11
  subst hz
  rw [grps_zero,List.append_nil] at hX
  have hL0:0<L.length:=by rw [hX];exact grps_len0 hN
  have htx:L.reverse.flatten=Lib.decDigits N:=by rw [hX];exact grps_text N N (Nat.le_refl _) hN
  have hfl:L.reverse.flatten.length≤140737488355328:=by rw [htx];have:=dec_len_bits k N hNk;omega
  refine wp_exit ?_
  simp only [Exit.then,Exit.inBlock,↓reduceIte]
  refine k6 _ _ ?_
  try clear k6 K6
  refine wp_seq_k (fun K30 k30=>?_)
  refine rg [0,1] ?_
  refine sv 40 v ?_
  refine se ?_
  refine eff_call (some 41) rfl (by kernel_rfl) (reverse_own hown hL0) ?_
  rintro e31 w31 ⟨rfl,own31,wt31,hg31⟩
  refine ⟨_,rfl,?_⟩
  replace hB:=hg31 _ hB (Nat.le_refl _)
  simp only [putl,p3,p4]
  refine sq_nil ?_
  refine k30 _ _ ?_
  try clear k30 K30
  refine wp_seq_k (fun K32 k32=>?_)
  refine rg [0,1,2] ?_
  refine sv 42 v ?_
  refine se ?_
  refine ec 43 (join_own own31 (by rw [List.length_reverse];exact hL0) hfl (by rw [List.length_reverse];exact hln)) ?_
  rintro e33 w33 ⟨rfl,g33⟩
  refine ⟨_,rfl,?_⟩
  replace hB:=hB.trans g33
  simp only [p3,p4]
  refine sv 8 (.string ⟨(((L).reverse).flatten:List UInt8).toArray⟩) ?_
  refine sq_nil ?_
  refine k32 _ _ ?_
  try clear k32 K32
  refine wp_seq_k (fun K34 k34=>?_)
  refine wp_seq_k (fun K35 k35=>?_)
  refine rg [0,1] ?_
  refine sv 44 (.pointer (some ⟨b2,0,none⟩)) ?_
  replace L2:=(wt31.lc L2 (by decide)).gr g33
  refine sw 45 (.bool (s)) rfl (rk 4 0 L2) ?_
  refine sq_nil ?_
  refine k35 _ _ ?_
  try clear k35 K35
  refine wp_cond_split (t:=s) rfl (fun hb36=>?_) (fun hb36=>?_)
  ·refine wp_seq_k (fun K37 k37=>?_)
   refine rg [0,1,2] ?_
   refine sv 46 (.string ⟨(((L).reverse).flatten:List UInt8).toArray⟩) ?_
   refine sw 47 (.string ⟨(([45])++(((L).reverse).flatten):List UInt8).toArray⟩) rfl (rv_cat 9 9 _ _ ([45]) (((L).reverse).flatten) rfl rfl rfl (by simp only [List.length_cons,List.length_nil];omega)) ?_
   refine sv 2 (.string ⟨(([45])++(((L).reverse).flatten):List UInt8).toArray⟩) ?_
   refine sq_nil ?_
   refine k37 _ _ ?_
   try clear k37 K37
   refine wp_ret ?_
   simp only [Exit.then]
   refine bodyPost_ret (v:=(.string ⟨(([45])++(((L).reverse).flatten):List UInt8).toArray⟩)) (ret_tmp rfl rfl) rfl ⟨?_,hB⟩
   exact (by rw [hb36];show Ending.returned _=_;rw [htx];rfl)
  ·refine wp_skip ?_
   refine k34 _ _ ?_
   try clear k34 K34
   refine wp_seq_k (fun K38 k38=>?_)
   refine rg [0,1] ?_
   refine sv 48 (.string ⟨(((L).reverse).flatten:List UInt8).toArray⟩) ?_
   refine sv 2 (.string ⟨(((L).reverse).flatten:List UInt8).toArray⟩) ?_
   refine sq_nil ?_
   refine k38 _ _ ?_
   try clear k38 K38
   refine wp_ret ?_
   refine bodyPost_ret (v:=(.string ⟨(((L).reverse).flatten:List UInt8).toArray⟩)) (ret_tmp rfl rfl) rfl ⟨?_,hB⟩
   exact (by rw [hb36];show Ending.returned _=_;rw [htx];rfl)

set_option maxRecDepth 100000 in
set_option maxHeartbeats 1000000 in
theorem text_zero {ao:Option Addr} {ca:Nat} (w:World):
    Calls Tryz.prog 81 #[(.agg #[(.bool false),(.slice ao 0 ca)])] w fun e w'=>e=.returned (.string ⟨#[48]⟩)∧Gr w w':=by
 go_enter Tryz.func81,Tryz.ntmps81
 have hB:=Gr.refl w
 refine wp_seq_k (fun K1 k1=>?_)
 refine rg [0,1] ?_
 refine se ?_
 refine eb 69 #[(.bool false),(.slice ao 0 ca)] 1 hB fun b2 w2 g2 L2 o2 q2 hB=>?_
 simp only [p3,p4]
 refine sv 2 (.string ⟨([]:List UInt8).toArray⟩) ?_
 refine sq_nil ?_
 refine k1 _ _ ?_
 try clear k1 K1
 refine wp_seq_k (fun K3 k3=>?_)
 refine wp_seq_k (fun K4 k4=>?_)
 refine rg [0,1,2,3] ?_
 refine sv 9 (.pointer (some ⟨b2,1,none⟩)) ?_
 refine sw 10 (.slice ao 0 ca) rfl (rk 67 1 L2) ?_
 refine sv 11 (.int .i64 0) ?_
 refine sv 12 (.bool true) ?_
 refine sq_nil ?_
 refine k4 _ _ ?_
 try clear k4 K4
 refine wp_cond_true rfl ?_
 refine wp_seq_k (fun K5 k5=>?_)
 refine rg [0] ?_
 refine sv 2 (.string ⟨([48]:List UInt8).toArray⟩) ?_
 refine sq_nil ?_
 refine k5 _ _ ?_
 try clear k5 K5
 refine wp_ret ?_
 simp only [Exit.then]
 refine bodyPost_ret (v:=(.string ⟨([48]:List UInt8).toArray⟩)) (ret_tmp rfl rfl) rfl ⟨?_,hB⟩
 exact rfl

theorem text_i {k:Nat} {x y:Value} {z:Int} {w:World} (hz:IsInt w k x y z) (hk:k≤900000) (ht:Tab w):
    Calls Tryz.prog 81 #[.agg #[x,y]] w fun e w'=>e=.returned (.string ⟨(Lib.itoa z).toArray⟩)∧Gr w w':=by
  obtain ⟨ao,la,ca,rfl,rfl,ha,hs⟩:=hz
  by_cases h0:z=0
  · subst h0
    have:la=0:=ha.nl.len_zero.2 rfl
    subst this
    have e1:decide ((0:Int)<0)=false:=by decide
    have e2:Lib.itoa 0=[48]:=by unfold Lib.itoa;rw [if_neg (by omega)];exact dec_small (by decide)
    rw [e1,e2]
    exact text_zero w
  · have:=text_pos (s:=decide (z<0)) ha (by omega) (by unfold Sz at hs;exact hs) hk ht
    refine this.mono ?_
    rintro e w1 ⟨he,g⟩
    refine ⟨?_,g⟩
    rw [he]
    unfold Lib.itoa
    by_cases hz:z<0
    · simp [hz]
    · have:z.toNat=z.natAbs:=by omega
      simp [hz,this]

theorem itoa_len {k:Nat} {z:Int} (h:Sz k z):(Lib.itoa z).length≤k+2:=by
  unfold Lib.itoa
  have h1:=dec_len_bits k z.natAbs h
  split
  · simp;omega
  · have:z.toNat=z.natAbs:=by omega
    rw [this];omega
theorem divInt_parts {N D:Int} (h0:0<D):(Rat.divInt N D).num=N/(Int.gcd N D:Int)∧((Rat.divInt N D).den:Int)=D/(Int.gcd N D:Int)∧0<(Int.gcd N D:Int):=by
  refine ⟨by rw [Rat.num_divInt,Int.sign_eq_one_of_pos h0,Int.one_mul,Int.gcd_comm],?_,?_⟩
  · rw [Rat.den_divInt,if_neg (by omega),Int.gcd_comm,Int.natCast_ediv]
    congr 1
    omega
  · have:Int.gcd N D≠0:=by rw [Ne,Int.gcd_eq_zero_iff];omega
    omega
theorem sz_gcd2 {k m:Nat} {N D:Int} (hN:Sz k N) (hD:Sz m D):Sz (k+m) (Int.gcd N D:Int):=sz_gcd hN hD
theorem sz_div {k:Nat} {N g:Int} (hN:Sz k N) (hg:0<g):Sz k (N/g):=by
  refine hN.of_le ?_
  rcases Int.lt_or_le N 0 with h | h
  · have h1:N≤N/g:=by
      rw [Int.le_ediv_iff_mul_le hg]
      have:N*g≤N*1:=Int.mul_le_mul_of_nonpos_left (by omega) (by omega)
      omega
    have h2:N/g<0:=Int.ediv_neg_of_neg_of_pos h hg
    omega
  · have h1:N/g≤N:=Int.ediv_le_self _ h
    have h2:0≤N/g:=Int.ediv_nonneg h (by omega)
    omega
theorem divInt_neg2 (N D:Int):Rat.divInt (-N) (-D)=Rat.divInt N D:=by
  exact Rat.neg_divInt_neg N D
end Go.Proofs.YtepgkcimmdmgcaaGreatDoor
namespace Go.Proofs.YtepgkcimmdmgcaaGreatDoor
/-- a numerator of less than a bits,a denominator of less than d -/
def RZ (a d:Nat) (q:Rat):Prop:=Sz a q.num∧Sz d (q.den:Int)
theorem RZ.mono {a d b e:Nat} {q:Rat} (h:RZ a d q) (h1:a≤b) (h2:d≤e):RZ b e q:=⟨h.1.mono h1,h.2.mono h2⟩
theorem rz_divInt {a d:Nat} {x y:Int} (hx:Sz a x) (hy:Sz d y) (h0:y≠0):RZ a d (Rat.divInt x y):=by
  have key:∀ {x y:Int},Sz a x→Sz d y→0<y→RZ a d (Rat.divInt x y):=by
    intro x y hx hy h0
    obtain ⟨h1,h2,h3⟩:=divInt_parts (N:=x) h0
    unfold RZ
    rw [h1,h2]
    exact ⟨sz_div hx h3,sz_div hy h3⟩
  rcases Int.lt_or_gt_of_ne h0 with h | h
  · have:=key hx.neg hy.neg (by omega)
    rwa [Rat.neg_divInt_neg] at this
  · exact key hx hy h
theorem rz_of {a d:Nat} {q:Rat} (x y:Int) (e:q*(y:Rat)=(x:Rat)) (hx:Sz a x) (hy:Sz d y) (h0:y≠0):RZ a d q:=by
  have h1:(y:Rat)≠0:=fun h=>h0 (Rat.intCast_inj.1 (by rw [h];rfl))
  have:q=Rat.divInt x y:=by rw [Rat.divInt_eq_div,← e];grind
  rw [this];exact rz_divInt hx hy h0
theorem nd (q:Rat):q*((q.den:Int):Rat)=(q.num:Rat)∧(q.den:Int)≠0:=by
  have hd:(q.den:Int)≠0:=by have:=q.den_pos;omega
  have h1:((q.den:Int):Rat)≠0:=fun h=>hd (Rat.intCast_inj.1 (by rw [h];rfl))
  refine ⟨?_,hd⟩
  have h2:(q.num:Rat)/((q.den:Int):Rat)=q:=by rw [← Rat.divInt_eq_div];exact Rat.num_divInt_den q
  have h3:(q.num:Rat)=q*((q.den:Int):Rat):=by grind
  exact h3.symm
theorem RZ.mul {a d b e:Nat} {x y:Rat} (hx:RZ a d x) (hy:RZ b e y):RZ (a+b) (d+e) (x*y):=by
  obtain ⟨h1,h2⟩:=nd x
  obtain ⟨h3,h4⟩:=nd y
  refine rz_of (x.num*y.num) ((x.den:Int)*(y.den:Int)) ?_ (hx.1.mul hy.1) (hx.2.mul hy.2) (Int.mul_ne_zero h2 h4)
  rw [Rat.intCast_mul,Rat.intCast_mul]
  grind
theorem RZ.add {a d b e:Nat} {x y:Rat} (hx:RZ a d x) (hy:RZ b e y):RZ (max (a+e) (b+d)+1) (d+e) (x+y):=by
  obtain ⟨h1,h2⟩:=nd x
  obtain ⟨h3,h4⟩:=nd y
  refine rz_of (x.num*(y.den:Int)+y.num*(x.den:Int)) ((x.den:Int)*(y.den:Int)) ?_ (((hx.1.mul hy.2).mono (Nat.le_max_left ..)).add' ((hy.1.mul hx.2).mono (Nat.le_max_right ..))) (hx.2.mul hy.2) (Int.mul_ne_zero h2 h4)
  rw [Rat.intCast_mul,Rat.intCast_add,Rat.intCast_mul,Rat.intCast_mul]
  grind
theorem RZ.neg {a d:Nat} {x:Rat} (hx:RZ a d x):RZ a d (-x):=by
  unfold RZ
  rw [Rat.neg_num,Rat.neg_den]
  exact ⟨hx.1.neg,hx.2⟩
theorem RZ.int {a:Nat} {z:Int} (h:Sz a z):RZ a 1 (z:Rat):=by
  unfold RZ
  rw [Rat.num_intCast,Rat.den_intCast]
  exact ⟨h,by unfold Sz;decide⟩
theorem RZ.zero (a d:Nat) (hd:0<d):RZ a d 0:=(RZ.int (a:=a) (z:=0) (Sz.zero a)).mono (Nat.le_refl _) hd
theorem num_ne {p:Rat} (h:p≠0):p.num≠0:=fun e=>h (Rat.num_eq_zero.1 e)
theorem RZ.inv {a d:Nat} {x:Rat} (hx:RZ a d x) (h0:x≠0):RZ d a (1/x):=by
  obtain ⟨h1,h2⟩:=nd x
  refine rz_of (x.den:Int) x.num ?_ hx.2 hx.1 (num_ne h0)
  grind
/-- an entry of another row -/
theorem rz_less {A D a d:Nat} {x c y p:Rat} (hx:RZ A D x) (hy:RZ A D y) (hc:RZ a d c) (hp:RZ a d p) (h0:p≠0):RZ (A+D+a+d+1) (2*D+a+d) (x - c*(y*(1/p))):=by
  have h1:RZ (a+(A+d)) (d+(D+a)) (-(c*(y*(1/p)))):=(hc.mul (hy.mul (hp.inv h0))).neg
  obtain ⟨x1,x2⟩:=nd x
  obtain ⟨y1,y2⟩:=nd y
  obtain ⟨c1,c2⟩:=nd c
  obtain ⟨p1,p2⟩:=nd p
  refine rz_of (x.num*((c.den:Int)*(y.den:Int)*p.num)+(-(c.num*y.num*(p.den:Int)))*(x.den:Int)) ((x.den:Int)*((c.den:Int)*(y.den:Int)*p.num)) ?_ ?_ ?_ ?_
  · rw [Rat.intCast_mul,Rat.intCast_mul,Rat.intCast_mul,Rat.intCast_add,Rat.intCast_mul,Rat.intCast_mul,Rat.intCast_mul,Rat.intCast_mul,Rat.intCast_neg,Rat.intCast_mul,Rat.intCast_mul]
    generalize ((x.den:Int):Rat)=xd at*
    generalize ((y.den:Int):Rat)=yd at*
    generalize ((c.den:Int):Rat)=cd at*
    generalize ((p.den:Int):Rat)=pd at*
    rw [← x1,← y1,← c1,← p1]
    grind
  · refine ((hx.1.mul ((hc.2.mul hy.2).mul hp.1)).mono (m:=A+D+a+d) (by omega)).add' ((((hc.1.mul hy.1).mul hp.2).neg.mul hx.2).mono (by omega))
  · exact (hx.2.mul ((hc.2.mul hy.2).mul hp.1)).mono (by omega)
  · exact Int.mul_ne_zero x2 (Int.mul_ne_zero (Int.mul_ne_zero c2 y2) (num_ne h0))
theorem rz_over {A D a d:Nat} {y p:Rat} (hy:RZ A D y) (hp:RZ a d p) (h0:p≠0):RZ (A+d) (D+a) (y*(1/p)):=hy.mul (hp.inv h0)

/-- bounds:of the first columns,of the others,of the determinant -/
structure Bd where
  a:Nat
  d:Nat
  A:Nat
  D:Nat
  e:Nat
def Bd.nx (z:Bd):Bd:=⟨2*z.a+2*z.d+1,z.a+3*z.d,z.A+z.D+z.a+z.d+1,2*z.D+z.a+z.d,z.e+z.a+z.d⟩
def Bd.it (z:Bd):Nat→Bd
  | 0=>z
  | n+1=>(z.it n).nx
structure Bd.le (z y:Bd):Prop where
  a:z.a≤y.a
  d:z.d≤y.d
  A:z.A≤y.A
  D:z.D≤y.D
  e:z.e≤y.e
theorem Bd.le_nx (z:Bd):z.le z.nx:=⟨by simp only [Bd.nx];omega,by simp only [Bd.nx];omega,by simp only [Bd.nx];omega,by simp only [Bd.nx];omega,by simp only [Bd.nx];omega⟩
theorem Bd.le_it (z:Bd) {n m:Nat} (h:n≤m):(z.it n).le (z.it m):=by
  induction m with
  | zero => obtain rfl : n = 0 := by omega
            exact ⟨Nat.le_refl _,Nat.le_refl _,Nat.le_refl _,Nat.le_refl _,Nat.le_refl _⟩
  | succ m ih=>
    rcases Nat.lt_or_ge m n with h1 | h1
    · obtain rfl:n=m+1:=by omega
      exact ⟨Nat.le_refl _,Nat.le_refl _,Nat.le_refl _,Nat.le_refl _,Nat.le_refl _⟩
    · have h2:=ih h1
      have h3:=(z.it m).le_nx
      exact ⟨Nat.le_trans h2.1 h3.1,Nat.le_trans h2.2 h3.2,Nat.le_trans h2.3 h3.3,Nat.le_trans h2.4 h3.4,Nat.le_trans h2.5 h3.5⟩
/-- the numbers of R rows are within bounds;the first n columns are the short ones -/
structure Bnd (R n N:Nat) (z:Bd) (s:Rd):Prop where
  fst:∀ i,i<R→∀ k,k<n→RZ z.a z.d (s.m i k)
  snd:∀ i,i<R→∀ k,n≤k→k<N→RZ z.A z.D (s.m i k)
  det:RZ z.e z.e s.d
theorem Bnd.step {R n N:Nat} {z:Bd} {s:Rd} {K:Nat} (h:Bnd R n N (z.it s.p.length) s) (hK:K<n):Bnd R n N (z.it (stepR R K s).p.length) (stepR R K s):=by
  unfold stepR
  split
  · exact h
  · next i hf=>
    obtain ⟨h1,h2,h3,h4⟩:=fnd_some hf
    have hi:i<R:=by omega
    have hr:s.p.length<R:=by omega
    simp only [List.length_append,List.length_cons,List.length_nil,Nat.zero_add]
    rw [show z.it (s.p.length+1)=(z.it s.p.length).nx from rfl]
    generalize z.it s.p.length=y at*
    have hs:swp s.m i s.p.length s.p.length K=s.m i K:=by
      unfold swp
      by_cases e:s.p.length=i
      · rw [if_pos e,e]
      · rw [if_neg e,if_pos rfl]
    have fs:∀ j,j<R→∀ k,k<n→RZ y.a y.d (swp s.m i s.p.length j k):=fun j hj k hk=>by
      unfold swp;split
      · exact h.fst _ hr _ hk
      · split
        · exact h.fst _ hi _ hk
        · exact h.fst _ hj _ hk
    have sn:∀ j,j<R→∀ k,n≤k→k<N→RZ y.A y.D (swp s.m i s.p.length j k):=fun j hj k hk hk2=>by
      unfold swp;split
      · exact h.snd _ hr _ hk hk2
      · split
        · exact h.snd _ hi _ hk hk2
        · exact h.snd _ hj _ hk hk2
    have hp:RZ y.a y.d (swp s.m i s.p.length s.p.length K):=fs _ hr _ hK
    have h0:swp s.m i s.p.length s.p.length K≠0:=by rw [hs];exact h3
    generalize swp s.m i s.p.length=a at*
    generalize s.p.length=r at*
    refine ⟨fun j hj k hk=>?_,fun j hj k hk hk2=>?_,?_⟩
    · simp only [clr,scl,Bd.nx]
      by_cases e:j=r
      · rw [if_pos e,if_pos trivial]
        exact (rz_over (fs _ hr _ hk) hp h0).mono (by omega) (by omega)
      · rw [if_neg e,if_neg e,if_pos trivial]
        exact (rz_less (fs _ hj _ hk) (fs _ hr _ hk) (fs _ hj _ hK) hp h0).mono (by omega) (by omega)
    · simp only [clr,scl,Bd.nx]
      by_cases e:j=r
      · rw [if_pos e,if_pos trivial]
        exact (rz_over (sn _ hr _ hk hk2) hp h0).mono (by omega) (by omega)
      · rw [if_neg e,if_neg e,if_pos trivial]
        exact (rz_less (sn _ hj _ hk hk2) (sn _ hr _ hk hk2) (fs _ hj _ hK) hp h0).mono (by omega) (by omega)
    · have hd:RZ y.e y.e (if i=r then s.d else -s.d):=by
        split
        · exact h.det
        · exact h.det.neg
      exact (hd.mul hp).mono (by simp only [Bd.nx];omega) (by simp only [Bd.nx];omega)
theorem stepR_le (R K:Nat) (s:Rd):s.p.length≤(stepR R K s).p.length∧(stepR R K s).p.length≤s.p.length+1:=by
  rcases stepR_p R K s with h | h<;>rw [h]<;>simp
theorem redR_le (R:Nat) (s:Rd):∀ K,(redR R K s).p.length≤s.p.length+K
  | 0=>Nat.le_refl _
  | K+1=>by have:=(stepR_le R K (redR R K s)).2;have:=redR_le R s K;simp only [redR] at*;omega
theorem Bnd.red {R n N:Nat} {z:Bd} {m:Mx_} {d:Rat} (h:Bnd R n N z ⟨m,[],d⟩):∀ K,K≤n→Bnd R n N (z.it (redR R K ⟨m,[],d⟩).p.length) (redR R K ⟨m,[],d⟩)
  | 0,_=>h
  | K+1,hK=>(Bnd.red h K (by omega)).step hK
/-- all numbers of less than b bits -/
def RdZ (R N b:Nat) (s:Rd):Prop:=(∀ i,i<R→∀ k,k<N→RZ b b (s.m i k))∧RZ b b s.d
theorem Bnd.all {R n N b P:Nat} {z:Bd} {m:Mx_} {d:Rat} (h:Bnd R n N z ⟨m,[],d⟩) (hn:n≤P∨R≤P) (hb:max (max (z.it P).a (z.it P).d) (max (max (z.it P).A (z.it P).D) (z.it P).e)≤b):∀ K,K≤n→RdZ R N b (redR R K ⟨m,[],d⟩):=fun K hK=>by
  have h1:=h.red K hK
  have hl:=(red_inv R m d K).len
  have hk:=redR_le R ⟨m,[],d⟩ K
  have h2:=z.le_it (n:=(redR R K ⟨m,[],d⟩).p.length) (m:=P) (by simp only [List.length_nil] at hk;omega)
  have h3:=h2.1;have h4:=h2.2;have h5:=h2.3;have h6:=h2.4;have h7:=h2.5
  refine ⟨fun i hi k hk=>?_,h1.det.mono (by omega) (by omega)⟩
  rcases Nat.lt_or_ge k n with hkn | hkn
  · exact (h1.fst i hi k hkn).mono (by omega) (by omega)
  · exact (h1.snd i hi k hkn hk).mono (by omega) (by omega)
/-- sums of products -/
theorem rz_sm {a d b e:Nat} {f g:Nat→Rat}:∀ {n:Nat},(∀ i,i<n→RZ a d (f i))→(∀ i,i<n→RZ b e (g i))→RZ (n*(a+b+d+e+1)+1) (n*(d+e)+1) (sm n fun i=>f i*g i)
  | 0,_,_=>RZ.zero _ _ (by omega)
  | n+1,hf,hg=>by
    have h1:=rz_sm (n:=n) (fun i hi=>hf i (by omega)) (fun i hi=>hg i (by omega))
    have h2:=(hf n (by omega)).mul (hg n (by omega))
    have h3:=h1.add h2
    refine h3.mono ?_ ?_<;>simp only [Nat.succ_mul,Nat.mul_add,Nat.mul_one]<;>omega
end Go.Proofs.YtepgkcimmdmgcaaGreatDoor
namespace Go.Proofs.YtepgkcimmdmgcaaGreatDoor
open Go.RowKit

set_option maxRecDepth 100000 in
set_option maxHeartbeats 1000000 in
theorem reduced_n1 {k:Nat} {n0 n1 d0 d1:Value} {N D:Int} {w:World} (hn:IsInt w k n0 n1 N) (hd:IsInt w k d0 d1 D) (_hk:k+k+k+k+k+k+66≤1000000) (_h0:D<0) (hg:(sgn ((Int.gcd ((-N)) ((-D)):Int) - 1) !=0)=false):
    Calls Tryz.prog 86 #[(.agg #[n0,n1]),(.agg #[d0,d1])] w fun e w'=>(∃ x y x2 y2,e=.returned (.agg #[x,y,x2,y2])∧IsInt w' k x y ((-N))∧IsInt w' k x2 y2 ((-D)))∧Gr w w':=by
 go_enter Tryz.func86,Tryz.ntmps86
 have hB:=Gr.refl w
 refine wp_seq_k (fun K1 k1=>?_)
 refine rg [0,1,2] ?_
 refine se ?_
 refine eb 69 #[n0,n1] 2 hB fun b2 w2 g2 L2 o2 q2 hB=>?_
 simp only [p3,p4]
 refine se ?_
 refine eb 69 #[d0,d1] 3 hB fun b3 w3 g3 L3 o3 q3 hB=>?_
 have ne2_3:=L2.ne o3
 simp only [p3,p4]
 refine se ?_
 refine ea 71 #[(.bool false),(.slice none 0 0),(.bool false),(.slice none 0 0)] 4 hB fun b4 w4 g4 L4 o4 q4 hB=>?_
 replace L2:=L2.gr g3
 have ne2_4:=L2.ne o4
 have ne3_4:=L3.ne o4
 simp only [p3,p4]
 refine sq_nil ?_
 refine k1 _ _ ?_
 try clear k1 K1
 refine wp_seq_k (fun K5 k5=>?_)
 refine wp_seq_k (fun K6 k6=>?_)
 refine rg [0,1,2] ?_
 replace L3:=L3.gr g4
 refine sw 6 (.agg #[d0,d1]) rfl (rl 69 0 [d0,d1] L3) ?_
 refine se ?_
 have kq8:=g2.kp.trans (g3.kp.trans g4.kp)
 replace hd:=hd.kp kq8
 refine ec 7 (sign_neg hd (by omega)) ?_
 rintro e7 w7 ⟨rfl,g7⟩
 refine ⟨_,rfl,?_⟩
 replace hB:=hB.trans g7
 simp only [p3,p4]
 refine sv 8 (.bool true) ?_
 refine sq_nil ?_
 refine k6 _ _ ?_
 try clear k6 K6
 refine wp_cond_true rfl ?_
 have gd10:=Gr.drew w7
 replace hB:=hB.trans gd10
 replace L2:=L2.gr (g4.trans (g7.trans gd10))
 replace L3:=L3.gr (g7.trans gd10)
 refine wp_region_ort (fun _=>True) [([4],(fun w'=>Lc w' b2 #[n0,n1] 69)),([5],(fun w'=>Lc w' b3 #[d0,d1] 69))] [(true,0),(true,2),(false,1),(false,3),(false,4),(false,5)] (by kernel_rfl) (by kernel_rfl) (by kernel_rfl) (by decide) (fun _ _ _ _ _ h=>h) trivial ⟨fun _=>L2,fun _=>L3,trivial⟩ ?_
 refine tw 9 (.agg #[n0,n1]) rfl (fun w' hS=>(rl 69 0 [n0,n1] (hS.2.1 (by kernel_rfl)))) ?_
 refine tw 11 (.agg #[d0,d1]) rfl (fun w' hS=>(rl 69 0 [d0,d1] (hS.2.2.1 (by kernel_rfl)))) ?_
 refine te ?_
 have kq13:=g2.kp.trans (g3.kp.trans (g4.kp.trans (g7.kp.trans gd10.kp)))
 replace hn:=hn.kp kq13
 refine ec 10 (neg_i hn) ?_
 rintro e12 w12 ⟨⟨x12,y12,rfl,h12⟩,g12⟩
 refine ⟨_,rfl,?_⟩
 replace hB:=hB.trans g12
 replace L2:=L2.gr g12
 replace L3:=L3.gr g12
 refine ⟨trivial,⟨fun _=>L2,fun _=>L3,trivial⟩,?_⟩
 simp only [p3,p4]
 refine te ?_
 have kq16:=g7.kp.trans (gd10.kp.trans g12.kp)
 replace hd:=hd.kp kq16
 refine ec 12 (neg_i hd) ?_
 rintro e15 w15 ⟨⟨x15,y15,rfl,h15⟩,g15⟩
 refine ⟨_,rfl,?_⟩
 replace hB:=hB.trans g15
 replace L2:=L2.gr g15
 replace L3:=L3.gr g15
 refine ⟨trivial,⟨fun _=>L2,fun _=>L3,trivial⟩,?_⟩
 simp only [p3,p4]
 refine te ?_
 refine es 69 0 (.agg #[x12,y12]) [x12,y12] #[x12,y12] L2 hB q2 ⟨h12.one0,h12.one1,trivial⟩ fun w18 st18 kp18 L2 hB=>?_
 replace L3:=st18.lc L3 (Ne.symm ne2_3)
 refine ⟨trivial,⟨cameT (by kernel_rfl),fun _=>L3,trivial⟩,?_⟩
 refine te ?_
 refine es 69 0 (.agg #[x15,y15]) [x15,y15] #[x15,y15] L3 hB q3 ⟨h15.one0,h15.one1,trivial⟩ fun w20 st20 kp20 L3 hB=>?_
 refine ⟨trivial,⟨cameT (by kernel_rfl),cameT (by kernel_rfl),trivial⟩,?_⟩
 refine ort_nil ?_
 refine k5 _ _ ?_
 try clear k5 K5
 refine wp_seq_k (fun K21 k21=>?_)
 refine rg [0,1,2,3,4] ?_
 replace L2:=st20.lc L2 ne2_3
 refine sw 13 (.agg #[x12,y12]) rfl (rl 69 0 [x12,y12] L2) ?_
 refine sw 14 (.agg #[x15,y15]) rfl (rl 69 0 [x15,y15] L3) ?_
 refine se ?_
 have kq23:=g15.kp.trans (kp18.trans kp20)
 replace h12:=h12.kp kq23
 have kq24:=kp18.trans kp20
 replace h15:=h15.kp kq24
 refine ec 15 (gcd_i h12 h15 (by omega)) ?_
 rintro e22 w22 ⟨⟨x22,y22,rfl,h22⟩,g22⟩
 refine ⟨_,rfl,?_⟩
 replace hB:=hB.trans g22
 simp only [p3,p4]
 refine se ?_
 refine ea 69 #[(.bool false),(.slice none 0 0)] 5 hB fun b25 w25 g25 L25 o25 q25 hB=>?_
 replace L2:=L2.gr g22
 have ne2_25:=L2.ne o25
 replace L3:=L3.gr g22
 have ne3_25:=L3.ne o25
 replace L4:=(st20.lc (st18.lc (L4.gr (g7.trans (gd10.trans (g12.trans g15)))) (Ne.symm ne2_4)) (Ne.symm ne3_4)).gr g22
 have ne4_25:=L4.ne o25
 simp only [p3,p4]
 refine se ?_
 refine es 69 0 (.agg #[x22,y22]) [x22,y22] #[x22,y22] L25 hB q25 ⟨h22.one0,h22.one1,trivial⟩ fun w26 st26 kp26 L25 hB=>?_
 refine sq_nil ?_
 refine k21 _ _ ?_
 try clear k21 K21
 refine wp_seq_k (fun K27 k27=>?_)
 refine wp_seq_k (fun K28 k28=>?_)
 have gd35:=Gr.drew w26
 replace hB:=hB.trans gd35
 replace L25:=L25.gr gd35
 refine wp_region_ord (fun w'=>Lc w' b25 #[x22,y22] 69) [(true,0),(false,1),(false,2),(true,3)] (by kernel_rfl) (by kernel_rfl) (by kernel_rfl) (by decide) (fun _ _ _ _ _ h=>h) L25 ?_
 refine ow 16 (.agg #[x22,y22]) rfl (fun w' hS=>(rl 69 0 [x22,y22] hS)) ?_
 refine oe ?_
 refine ec 17 (one_i _) ?_
 rintro e37 w37 ⟨⟨x37,y37,rfl,h37⟩,g37⟩
 refine ⟨_,rfl,?_⟩
 replace hB:=hB.trans g37
 replace L25:=L25.gr g37
 refine ⟨L25,?_⟩
 simp only [p3,p4]
 refine oe ?_
 have kq40:=g25.kp.trans (kp26.trans (gd35.kp.trans g37.kp))
 replace h22:=h22.kp kq40
 refine ec 18 (compare_i h22 h37 (by omega) (by omega)) ?_
 rintro e39 w39 ⟨rfl,g39⟩
 refine ⟨_,rfl,?_⟩
 replace hB:=hB.trans g39
 replace L25:=L25.gr g39
 refine ⟨L25,?_⟩
 simp only [p3,p4]
 refine ow 19 (.bool false) rfl (fun w' hS=>(RunV.bool (x:=(sgn ((Int.gcd ((-N)) ((-D)):Int) - 1) !=(0:Int))) (rvk (by kernel_rfl)) hg)) ?_
 refine ord_nil ?_
 refine k28 _ _ ?_
 try clear k28 K28
 refine wp_cond_false rfl ?_
 refine wp_skip ?_
 refine k27 _ _ ?_
 try clear k27 K27
 refine wp_seq_k (fun K41 k41=>?_)
 refine rg [0,1,2,3] ?_
 replace L2:=(st26.lc (L2.gr g25) ne2_25).gr (gd35.trans (g37.trans g39))
 refine sw 34 (.agg #[x12,y12]) rfl (rl 69 0 [x12,y12] L2) ?_
 replace L3:=(st26.lc (L3.gr g25) ne3_25).gr (gd35.trans (g37.trans g39))
 refine sw 35 (.agg #[x15,y15]) rfl (rl 69 0 [x15,y15] L3) ?_
 refine sv 36 (.agg #[x12,y12,x15,y15]) ?_
 refine se ?_
 replace L4:=(st26.lc (L4.gr g25) ne4_25).gr (gd35.trans (g37.trans g39))
 refine es 71 0 (.agg #[x12,y12,x15,y15]) [x12,y12,x15,y15] #[x12,y12,x15,y15] L4 hB q4 ⟨h12.one0,h12.one1,h15.one0,h15.one1,trivial⟩ fun w42 st42 kp42 L4 hB=>?_
 refine sq_nil ?_
 refine k41 _ _ ?_
 try clear k41 K41
 refine wp_ret ?_
 refine bodyPost_ret (v:=(.agg #[x12,y12,x15,y15])) (ret_cell _ _ _ rfl rfl L4 (by kernel_rfl)) rfl ⟨?_,hB⟩
 have kq43:=g22.kp.trans (g25.kp.trans (kp26.trans (gd35.kp.trans (g37.kp.trans (g39.kp.trans kp42)))))
 replace h12:=h12.kp kq43
 replace h15:=h15.kp kq43
 exact ⟨_,_,_,_,rfl,h12,h15⟩

set_option maxRecDepth 100000 in
set_option maxHeartbeats 1000000 in
theorem reduced_ng {k:Nat} {n0 n1 d0 d1:Value} {N D:Int} {w:World} (hn:IsInt w k n0 n1 N) (hd:IsInt w k d0 d1 D) (_hk:k+k+k+k+k+k+66≤1000000) (_h0:D<0) (hg:(sgn ((Int.gcd ((-N)) ((-D)):Int) - 1) !=0)=true) (hxn:0<(Int.gcd ((-N)) ((-D)):Int)∧(Int.gcd ((-N)) ((-D)):Int)∣(-N)) (_hxd:0<(Int.gcd ((-N)) ((-D)):Int)∧(Int.gcd ((-N)) ((-D)):Int)∣(-D)):
    Calls Tryz.prog 86 #[(.agg #[n0,n1]),(.agg #[d0,d1])] w fun e w'=>(∃ x y x2 y2,e=.returned (.agg #[x,y,x2,y2])∧IsInt w' k x y ((-N)/(Int.gcd ((-N)) ((-D)):Int))∧IsInt w' k x2 y2 ((-D)/(Int.gcd ((-N)) ((-D)):Int)))∧Gr w w':=by
 go_enter Tryz.func86,Tryz.ntmps86
 have hB:=Gr.refl w
 refine wp_seq_k (fun K1 k1=>?_)
 refine rg [0,1,2] ?_
 refine se ?_
 refine eb 69 #[n0,n1] 2 hB fun b2 w2 g2 L2 o2 q2 hB=>?_
 simp only [p3,p4]
 refine se ?_
 refine eb 69 #[d0,d1] 3 hB fun b3 w3 g3 L3 o3 q3 hB=>?_
 have ne2_3:=L2.ne o3
 simp only [p3,p4]
 refine se ?_
 refine ea 71 #[(.bool false),(.slice none 0 0),(.bool false),(.slice none 0 0)] 4 hB fun b4 w4 g4 L4 o4 q4 hB=>?_
 replace L2:=L2.gr g3
 have ne2_4:=L2.ne o4
 have ne3_4:=L3.ne o4
 simp only [p3,p4]
 refine sq_nil ?_
 refine k1 _ _ ?_
 try clear k1 K1
 refine wp_seq_k (fun K5 k5=>?_)
 refine wp_seq_k (fun K6 k6=>?_)
 refine rg [0,1,2] ?_
 replace L3:=L3.gr g4
 refine sw 6 (.agg #[d0,d1]) rfl (rl 69 0 [d0,d1] L3) ?_
 refine se ?_
 have kq8:=g2.kp.trans (g3.kp.trans g4.kp)
 replace hd:=hd.kp kq8
 refine ec 7 (sign_neg hd (by omega)) ?_
 rintro e7 w7 ⟨rfl,g7⟩
 refine ⟨_,rfl,?_⟩
 replace hB:=hB.trans g7
 simp only [p3,p4]
 refine sv 8 (.bool true) ?_
 refine sq_nil ?_
 refine k6 _ _ ?_
 try clear k6 K6
 refine wp_cond_true rfl ?_
 have gd10:=Gr.drew w7
 replace hB:=hB.trans gd10
 replace L2:=L2.gr (g4.trans (g7.trans gd10))
 replace L3:=L3.gr (g7.trans gd10)
 refine wp_region_ort (fun _=>True) [([4],(fun w'=>Lc w' b2 #[n0,n1] 69)),([5],(fun w'=>Lc w' b3 #[d0,d1] 69))] [(true,0),(true,2),(false,1),(false,3),(false,4),(false,5)] (by kernel_rfl) (by kernel_rfl) (by kernel_rfl) (by decide) (fun _ _ _ _ _ h=>h) trivial ⟨fun _=>L2,fun _=>L3,trivial⟩ ?_
 refine tw 9 (.agg #[n0,n1]) rfl (fun w' hS=>(rl 69 0 [n0,n1] (hS.2.1 (by kernel_rfl)))) ?_
 refine tw 11 (.agg #[d0,d1]) rfl (fun w' hS=>(rl 69 0 [d0,d1] (hS.2.2.1 (by kernel_rfl)))) ?_
 refine te ?_
 have kq13:=g2.kp.trans (g3.kp.trans (g4.kp.trans (g7.kp.trans gd10.kp)))
 replace hn:=hn.kp kq13
 refine ec 10 (neg_i hn) ?_
 rintro e12 w12 ⟨⟨x12,y12,rfl,h12⟩,g12⟩
 refine ⟨_,rfl,?_⟩
 replace hB:=hB.trans g12
 replace L2:=L2.gr g12
 replace L3:=L3.gr g12
 refine ⟨trivial,⟨fun _=>L2,fun _=>L3,trivial⟩,?_⟩
 simp only [p3,p4]
 refine te ?_
 have kq16:=g7.kp.trans (gd10.kp.trans g12.kp)
 replace hd:=hd.kp kq16
 refine ec 12 (neg_i hd) ?_
 rintro e15 w15 ⟨⟨x15,y15,rfl,h15⟩,g15⟩
 refine ⟨_,rfl,?_⟩
 replace hB:=hB.trans g15
 replace L2:=L2.gr g15
 replace L3:=L3.gr g15
 refine ⟨trivial,⟨fun _=>L2,fun _=>L3,trivial⟩,?_⟩
 simp only [p3,p4]
 refine te ?_
 refine es 69 0 (.agg #[x12,y12]) [x12,y12] #[x12,y12] L2 hB q2 ⟨h12.one0,h12.one1,trivial⟩ fun w18 st18 kp18 L2 hB=>?_
 replace L3:=st18.lc L3 (Ne.symm ne2_3)
 refine ⟨trivial,⟨cameT (by kernel_rfl),fun _=>L3,trivial⟩,?_⟩
 refine te ?_
 refine es 69 0 (.agg #[x15,y15]) [x15,y15] #[x15,y15] L3 hB q3 ⟨h15.one0,h15.one1,trivial⟩ fun w20 st20 kp20 L3 hB=>?_
 refine ⟨trivial,⟨cameT (by kernel_rfl),cameT (by kernel_rfl),trivial⟩,?_⟩
 refine ort_nil ?_
 refine k5 _ _ ?_
 try clear k5 K5
 refine wp_seq_k (fun K21 k21=>?_)
 refine rg [0,1,2,3,4] ?_
 replace L2:=st20.lc L2 ne2_3
 refine sw 13 (.agg #[x12,y12]) rfl (rl 69 0 [x12,y12] L2) ?_
 refine sw 14 (.agg #[x15,y15]) rfl (rl 69 0 [x15,y15] L3) ?_
 refine se ?_
 have kq23:=g15.kp.trans (kp18.trans kp20)
 replace h12:=h12.kp kq23
 have kq24:=kp18.trans kp20
 replace h15:=h15.kp kq24
 refine ec 15 (gcd_i h12 h15 (by omega)) ?_
 rintro e22 w22 ⟨⟨x22,y22,rfl,h22⟩,g22⟩
 refine ⟨_,rfl,?_⟩
 replace hB:=hB.trans g22
 simp only [p3,p4]
 refine se ?_
 refine ea 69 #[(.bool false),(.slice none 0 0)] 5 hB fun b25 w25 g25 L25 o25 q25 hB=>?_
 replace L2:=L2.gr g22
 have ne2_25:=L2.ne o25
 replace L3:=L3.gr g22
 have ne3_25:=L3.ne o25
 replace L4:=(st20.lc (st18.lc (L4.gr (g7.trans (gd10.trans (g12.trans g15)))) (Ne.symm ne2_4)) (Ne.symm ne3_4)).gr g22
 have ne4_25:=L4.ne o25
 simp only [p3,p4]
 refine se ?_
 refine es 69 0 (.agg #[x22,y22]) [x22,y22] #[x22,y22] L25 hB q25 ⟨h22.one0,h22.one1,trivial⟩ fun w26 st26 kp26 L25 hB=>?_
 refine sq_nil ?_
 refine k21 _ _ ?_
 try clear k21 K21
 refine wp_seq_k (fun K27 k27=>?_)
 refine wp_seq_k (fun K28 k28=>?_)
 have gd35:=Gr.drew w26
 replace hB:=hB.trans gd35
 replace L25:=L25.gr gd35
 refine wp_region_ord (fun w'=>Lc w' b25 #[x22,y22] 69) [(true,0),(false,1),(false,2),(true,3)] (by kernel_rfl) (by kernel_rfl) (by kernel_rfl) (by decide) (fun _ _ _ _ _ h=>h) L25 ?_
 refine ow 16 (.agg #[x22,y22]) rfl (fun w' hS=>(rl 69 0 [x22,y22] hS)) ?_
 refine oe ?_
 refine ec 17 (one_i _) ?_
 rintro e37 w37 ⟨⟨x37,y37,rfl,h37⟩,g37⟩
 refine ⟨_,rfl,?_⟩
 replace hB:=hB.trans g37
 replace L25:=L25.gr g37
 refine ⟨L25,?_⟩
 simp only [p3,p4]
 refine oe ?_
 have kq40:=g25.kp.trans (kp26.trans (gd35.kp.trans g37.kp))
 replace h22:=h22.kp kq40
 refine ec 18 (compare_i h22 h37 (by omega) (by omega)) ?_
 rintro e39 w39 ⟨rfl,g39⟩
 refine ⟨_,rfl,?_⟩
 replace hB:=hB.trans g39
 replace L25:=L25.gr g39
 refine ⟨L25,?_⟩
 simp only [p3,p4]
 refine ow 19 (.bool true) rfl (fun w' hS=>(RunV.bool (x:=(sgn ((Int.gcd ((-N)) ((-D)):Int) - 1) !=(0:Int))) (rvk (by kernel_rfl)) hg)) ?_
 refine ord_nil ?_
 refine k28 _ _ ?_
 try clear k28 K28
 refine wp_cond_true rfl ?_
 refine wp_seq_k (fun K41 k41=>?_)
 refine rg [0,1,2,3,4,5,6,7] ?_
 replace L2:=(st26.lc (L2.gr g25) ne2_25).gr (gd35.trans (g37.trans g39))
 refine sw 21 (.agg #[x12,y12]) rfl (rl 69 0 [x12,y12] L2) ?_
 refine sw 22 (.agg #[x22,y22]) rfl (rl 69 0 [x22,y22] L25) ?_
 refine se ?_
 have kq43:=g22.kp.trans (g25.kp.trans (kp26.trans (gd35.kp.trans (g37.kp.trans g39.kp))))
 replace h12:=h12.kp kq43
 replace h22:=h22.kp g39.kp
 refine ec 23 (divmod_i h12 h22 hxn.1 (by omega)) ?_
 rintro e42 w42 ⟨⟨x42,y42,xr42,yr42,rfl,h42,hr42⟩,g42⟩
 refine ⟨_,rfl,?_⟩
 replace hB:=hB.trans g42
 simp only [p3,p4]
 refine sv 20 (.tuple #[(.agg #[x42,y42]),(.agg #[xr42,yr42]),(.int .i64 0)]) ?_
 refine sv 24 (.agg #[x42,y42]) ?_
 refine sv 25 (.agg #[xr42,yr42]) ?_
 refine sv 26 (.int .i64 0) ?_
 refine se ?_
 replace L2:=L2.gr g42
 refine es 69 0 (.agg #[x42,y42]) [x42,y42] #[x42,y42] L2 hB q2 ⟨h42.one0,h42.one1,trivial⟩ fun w44 st44 kp44 L2 hB=>?_
 refine sq_nil ?_
 refine k41 _ _ ?_
 try clear k41 K41
 refine rg [0,1,2,3,4,5,6,7] ?_
 replace L3:=st44.lc ((st26.lc (L3.gr g25) ne3_25).gr (gd35.trans (g37.trans (g39.trans g42)))) (Ne.symm ne2_3)
 refine sw 28 (.agg #[x15,y15]) rfl (rl 69 0 [x15,y15] L3) ?_
 replace L25:=st44.lc (L25.gr g42) (Ne.symm ne2_25)
 refine sw 29 (.agg #[x22,y22]) rfl (rl 69 0 [x22,y22] L25) ?_
 refine se ?_
 have kq46:=g22.kp.trans (g25.kp.trans (kp26.trans (gd35.kp.trans (g37.kp.trans (g39.kp.trans (g42.kp.trans kp44))))))
 replace h15:=h15.kp kq46
 have kq47:=g42.kp.trans kp44
 replace h22:=h22.kp kq47
 refine ec 30 (divmod_i h15 h22 hxn.1 (by omega)) ?_
 rintro e45 w45 ⟨⟨x45,y45,xr45,yr45,rfl,h45,hr45⟩,g45⟩
 refine ⟨_,rfl,?_⟩
 replace hB:=hB.trans g45
 simp only [p3,p4]
 refine sv 27 (.tuple #[(.agg #[x45,y45]),(.agg #[xr45,yr45]),(.int .i64 0)]) ?_
 refine sv 31 (.agg #[x45,y45]) ?_
 refine sv 32 (.agg #[xr45,yr45]) ?_
 refine sv 33 (.int .i64 0) ?_
 refine se ?_
 replace L3:=L3.gr g45
 refine es 69 0 (.agg #[x45,y45]) [x45,y45] #[x45,y45] L3 hB q3 ⟨h45.one0,h45.one1,trivial⟩ fun w48 st48 kp48 L3 hB=>?_
 refine sq_nil ?_
 refine k27 _ _ ?_
 try clear k27 K27
 refine wp_seq_k (fun K49 k49=>?_)
 refine rg [0,1,2,3] ?_
 replace L2:=st48.lc (L2.gr g45) ne2_3
 refine sw 34 (.agg #[x42,y42]) rfl (rl 69 0 [x42,y42] L2) ?_
 refine sw 35 (.agg #[x45,y45]) rfl (rl 69 0 [x45,y45] L3) ?_
 refine sv 36 (.agg #[x42,y42,x45,y45]) ?_
 refine se ?_
 replace L4:=st48.lc ((st44.lc ((st26.lc (L4.gr g25) ne4_25).gr (gd35.trans (g37.trans (g39.trans g42)))) (Ne.symm ne2_4)).gr g45) (Ne.symm ne3_4)
 refine es 71 0 (.agg #[x42,y42,x45,y45]) [x42,y42,x45,y45] #[x42,y42,x45,y45] L4 hB q4 ⟨h42.one0,h42.one1,h45.one0,h45.one1,trivial⟩ fun w50 st50 kp50 L4 hB=>?_
 refine sq_nil ?_
 refine k49 _ _ ?_
 try clear k49 K49
 refine wp_ret ?_
 refine bodyPost_ret (v:=(.agg #[x42,y42,x45,y45])) (ret_cell _ _ _ rfl rfl L4 (by kernel_rfl)) rfl ⟨?_,hB⟩
 have kq51:=kp44.trans (g45.kp.trans (kp48.trans kp50))
 replace h42:=h42.kp kq51
 have kq52:=kp48.trans kp50
 replace h45:=h45.kp kq52
 exact ⟨_,_,_,_,rfl,h42,h45⟩

theorem reduced_a {k m:Nat} (K:Nat) {n0 n1 d0 d1:Value} {N D:Int} {w:World} (hn:IsInt w k n0 n1 N) (hd:IsInt w m d0 d1 D) (h0:D≠0) (h1:k≤K) (h2:m≤K) (h3:64≤K) (h4:8*K≤1000000):
    Calls Tryz.prog 86 #[.agg #[n0,n1],.agg #[d0,d1]] w fun e w'=>(∃ c0 c1 c2 c3,e=.returned (.agg #[c0,c1,c2,c3])∧IsRat w' K c0 c1 c2 c3 (Rat.divInt N D))∧Gr w w':=by
  rcases Int.lt_or_gt_of_ne h0 with hneg | hpos
  · have hN:=hn.mono h1
    have hD:=hd.mono h2
    have hp:0< -D:=by omega
    have e0:Rat.divInt N D=Rat.divInt (-N) (-D):=(Rat.neg_divInt_neg N D).symm
    have en:(Rat.divInt N D).num=(-N)/(Int.gcd (-N) (-D):Int):=by
      rw [e0,Rat.num_divInt,Int.sign_eq_one_of_pos hp,Int.one_mul,Int.gcd_comm]
    have ed:((Rat.divInt N D).den:Int)=(-D)/(Int.gcd (-N) (-D):Int):=by
      rw [e0,Rat.den_divInt,if_neg (by omega),Int.gcd_comm,Int.natCast_ediv]
      congr 1
      omega
    have hg0:0<(Int.gcd (-N) (-D):Int):=by
      have:Int.gcd (-N) (-D)≠0:=by rw [Ne,Int.gcd_eq_zero_iff];omega
      omega
    by_cases hg:(Int.gcd (-N) (-D):Int)=1
    · refine (reduced_n1 hN hD (by omega) hneg (by rw [hg];rfl)).mono ?_
      rintro e w1 ⟨⟨x,y,x2,y2,he,hi,hi2⟩,g⟩
      rw [hg,Int.ediv_one] at en ed
      exact ⟨⟨x,y,x2,y2,he,by rw [en];exact hi,⟨_,hi2,.inl ed.symm⟩,h3⟩,g⟩
    · have hb:(sgn ((Int.gcd (-N) (-D):Int) - 1) !=0)=true:=by
        have:sgn ((Int.gcd (-N) (-D):Int) - 1)≠0:=fun h=>hg (by have:=sgn_eq_zero.1 h;omega)
        simpa using this
      refine (reduced_ng hN hD (by omega) hneg hb ⟨hg0,Int.gcd_dvd_left ..⟩ ⟨hg0,Int.gcd_dvd_right ..⟩).mono ?_
      rintro e w1 ⟨⟨x,y,x2,y2,he,hi,hi2⟩,g⟩
      exact ⟨⟨x,y,x2,y2,he,by rw [en];exact hi,⟨_,hi2,.inl ed.symm⟩,h3⟩,g⟩
  · exact reduced_i K hn hd hpos h1 h2 h3 h4
set_option maxRecDepth 100000 in
set_option maxHeartbeats 1000000 in
theorem div_a {k m:Nat} {u0 u1 u2 u3 v0 v1 v2 v3:Value} {a b:Rat} {w:World} (ha:IsRat w k u0 u1 u2 u3 a) (hb:IsRat w m v0 v1 v2 v3 b) (_hk:k+m≤100000) (h0:b.num≠0):
    Calls Tryz.prog 113 #[(.agg #[u0,u1,u2,u3]),(.agg #[v0,v1,v2,v3])] w fun e w'=>(∃ c0 c1 c2 c3,e=.returned (.tuple #[.agg #[c0,c1,c2,c3],.int .i64 0])∧IsRat w' (k+m) c0 c1 c2 c3 (a/b))∧Gr w w':=by
 have hka:=ha.big
 have hkb:=hb.big
 have he:(sgn (b).num==(0:Int))=false:=by rw [beq_eq_false_iff_ne];exact fun e=>h0 (sgn_eq_zero.1 e)
 go_enter Tryz.func113,Tryz.ntmps113
 have hB:=Gr.refl w
 refine wp_seq_k (fun K1 k1=>?_)
 refine rg [0,1,2,3] ?_
 refine se ?_
 refine eb 71 #[u0,u1,u2,u3] 2 hB fun b2 w2 g2 L2 o2 q2 hB=>?_
 simp only [p3,p4]
 refine se ?_
 refine eb 71 #[v0,v1,v2,v3] 3 hB fun b3 w3 g3 L3 o3 q3 hB=>?_
 simp only [p3,p4]
 refine se ?_
 refine ea 71 #[(.bool false),(.slice none 0 0),(.bool false),(.slice none 0 0)] 4 hB fun b4 w4 g4 L4 o4 q4 hB=>?_
 replace L2:=L2.gr g3
 have ne2_4:=L2.ne o4
 have ne3_4:=L3.ne o4
 simp only [p3,p4]
 refine sv 5 (.int .i64 0) ?_
 refine sq_nil ?_
 refine k1 _ _ ?_
 try clear k1 K1
 refine wp_seq_k (fun K5 k5=>?_)
 refine wp_seq_k (fun K6 k6=>?_)
 refine rg [0,1,2] ?_
 replace L3:=L3.gr g4
 refine sw 6 (.agg #[v0,v1,v2,v3]) rfl (rl 71 0 [v0,v1,v2,v3] L3) ?_
 refine se ?_
 have kq8:=g2.kp.trans (g3.kp.trans g4.kp)
 replace hb:=hb.kp kq8
 refine ec 7 (sign_r hb) ?_
 rintro e7 w7 ⟨rfl,g7⟩
 refine ⟨_,rfl,?_⟩
 replace hB:=hB.trans g7
 simp only [p3,p4]
 refine sw 8 (.bool false) rfl (RunV.bool (x:=(sgn (b).num==(0:Int))) (rvk (by kernel_rfl)) he) ?_
 refine sq_nil ?_
 refine k6 _ _ ?_
 try clear k6 K6
 refine wp_cond_false rfl ?_
 refine wp_skip ?_
 refine k5 _ _ ?_
 try clear k5 K5
 refine wp_seq_k (fun K9 k9=>?_)
 have gd27:=Gr.drew w7
 replace hB:=hB.trans gd27
 replace L2:=L2.gr (g4.trans (g7.trans gd27))
 replace L3:=L3.gr (g7.trans gd27)
 refine wp_region_ord (fun w'=>Lc w' b2 #[u0,u1,u2,u3] 71∧Lc w' b3 #[v0,v1,v2,v3] 71) [(true,0),(true,1),(true,2),(true,5),(true,7),(true,8),(false,3),(false,4),(false,6),(false,9),(false,10),(false,11),(true,12)] (by kernel_rfl) (by kernel_rfl) (by kernel_rfl) (by decide) (fun _ _ _ _ _ h=>h) ⟨L2,L3⟩ ?_
 refine ov 10 (.pointer (some ⟨b2,0,none⟩)) ?_
 refine ow 11 (.agg #[u0,u1]) rfl (fun w' hS=>(rl 69 0 [u0,u1] hS.1)) ?_
 refine ow 12 (.agg #[v0,v1,v2,v3]) rfl (fun w' hS=>(rl 71 0 [v0,v1,v2,v3] hS.2)) ?_
 refine ow 15 (.agg #[u0,u1,u2,u3]) rfl (fun w' hS=>(rl 71 0 [u0,u1,u2,u3] hS.1)) ?_
 refine ov 17 (.pointer (some ⟨b3,0,none⟩)) ?_
 refine ow 18 (.agg #[v0,v1]) rfl (fun w' hS=>(rl 69 0 [v0,v1] hS.2)) ?_
 refine oe ?_
 have kq30:=g7.kp.trans gd27.kp
 replace hb:=hb.kp kq30
 refine ec 13 (den_i hb) ?_
 rintro e29 w29 ⟨⟨x29,y29,rfl,h29⟩,g29⟩
 refine ⟨_,rfl,?_⟩
 replace hB:=hB.trans g29
 replace L2:=L2.gr g29
 replace L3:=L3.gr g29
 refine ⟨⟨L2,L3⟩,?_⟩
 simp only [p3,p4]
 refine oe ?_
 have kq33:=g2.kp.trans (g3.kp.trans (g4.kp.trans (g7.kp.trans (gd27.kp.trans g29.kp))))
 replace ha:=ha.kp kq33
 refine ec 14 (mul_i ha.num h29 (by omega)) ?_
 rintro e32 w32 ⟨⟨x32,y32,rfl,h32⟩,g32⟩
 refine ⟨_,rfl,?_⟩
 replace hB:=hB.trans g32
 replace L2:=L2.gr g32
 replace L3:=L3.gr g32
 refine ⟨⟨L2,L3⟩,?_⟩
 simp only [p3,p4]
 refine oe ?_
 replace ha:=ha.kp g32.kp
 refine ec 16 (den_i ha) ?_
 rintro e35 w35 ⟨⟨x35,y35,rfl,h35⟩,g35⟩
 refine ⟨_,rfl,?_⟩
 replace hB:=hB.trans g35
 replace L2:=L2.gr g35
 replace L3:=L3.gr g35
 refine ⟨⟨L2,L3⟩,?_⟩
 simp only [p3,p4]
 refine oe ?_
 have kq38:=g29.kp.trans (g32.kp.trans g35.kp)
 replace hb:=hb.kp kq38
 refine ec 19 (mul_i h35 hb.num (by omega)) ?_
 rintro e37 w37 ⟨⟨x37,y37,rfl,h37⟩,g37⟩
 refine ⟨_,rfl,?_⟩
 replace hB:=hB.trans g37
 replace L2:=L2.gr g37
 replace L3:=L3.gr g37
 refine ⟨⟨L2,L3⟩,?_⟩
 simp only [p3,p4]
 refine oe ?_
 have kq41:=g35.kp.trans g37.kp
 replace h32:=h32.kp kq41
 refine ec 20 (reduced_a (k+m) h32 h37 (Int.mul_ne_zero (Int.ne_of_gt (Int.natCast_pos.2 a.den_pos)) h0) (by omega) (by omega) (by omega) (by omega)) ?_
 rintro e40 w40 ⟨⟨p40,q40,r40,s40,rfl,h40⟩,g40⟩
 refine ⟨_,rfl,?_⟩
 replace hB:=hB.trans g40
 replace L2:=L2.gr g40
 replace L3:=L3.gr g40
 refine ⟨⟨L2,L3⟩,?_⟩
 simp only [p3,p4]
 refine oe ?_
 replace L4:=L4.gr (g7.trans (gd27.trans (g29.trans (g32.trans (g35.trans (g37.trans g40))))))
 refine es 71 0 (.agg #[p40,q40,r40,s40]) [p40,q40,r40,s40] #[p40,q40,r40,s40] L4 hB q4 ⟨h40.one0,h40.one1,h40.one2,h40.one3,trivial⟩ fun w43 st43 kp43 L4 hB=>?_
 replace L2:=st43.lc L2 ne2_4
 replace L3:=st43.lc L3 ne3_4
 refine ⟨⟨L2,L3⟩,?_⟩
 refine ov 5 (.int .i64 0) ?_
 refine ord_nil ?_
 refine k9 _ _ ?_
 try clear k9 K9
 refine wp_ret ?_
 refine bodyPost_ret (v:=(.tuple #[(.agg #[p40,q40,r40,s40]),(.int .i64 0)])) (ret_cell_tmp' _ _ _ rfl rfl L4 (by kernel_rfl) rfl) rfl ⟨?_,hB⟩
 replace h40:=h40.kp kp43
 exact ⟨_,_,_,_,rfl,by rw [← rat_div];exact h40⟩

theorem sub_mul0 {x y p:Rat} (h:(sgn y.num==(0:Int))=true):x=x - p*y:=by
  have h1:sgn y.num=0:=by simpa using h
  have h2:y.num=0:=sgn_eq_zero.1 h1
  have h3:y=0:=Rat.num_eq_zero.1 h2
  subst h3;grind
theorem div_inv (x p:Rat):x/p=x*(1/p):=by grind
set_option maxRecDepth 100000 in
set_option maxHeartbeats 1000000 in
theorem mx_less1 {K L:Nat} {f0 f1 f2 f3 j0 j1 j2 j3 n0 n1 n2 n3:Value} {x y p:Rat} {bb:Nat} {w:World} (hx:IsRat w K f0 f1 f2 f3 x) (hy:IsRat w K j0 j1 j2 j3 y) (hp:IsRat w L n0 n1 n2 n3 p) (hL:Lc w bb #[n0,n1,n2,n3] 71) (_hk:K+L≤40000):
    Calls Tryz.prog 114 #[(.agg #[f0,f1,f2,f3]),(.agg #[j0,j1,j2,j3]),(.pointer (some ⟨bb,0,none⟩))] w fun e w'=>(∃ c0 c1 c2 c3,e=.returned (.agg #[c0,c1,c2,c3])∧IsRat w' (2*K+L+1) c0 c1 c2 c3 (x - p*y))∧Gr w w':=by
 have hbx:=hx.big
 go_enter Tryz.func114,Tryz.ntmps114
 have hB:=Gr.refl w
 refine wp_seq_k (fun K1 k1=>?_)
 refine rg [0,1,2] ?_
 refine se ?_
 refine eb 71 #[f0,f1,f2,f3] 3 hB fun b2 w2 g2 L2 o2 q2 hB=>?_
 simp only [p3,p4]
 refine se ?_
 refine eb 71 #[j0,j1,j2,j3] 4 hB fun b3 w3 g3 L3 o3 q3 hB=>?_
 replace hL:=hL.gr g2
 simp only [p3,p4]
 refine se ?_
 refine ea 71 #[(.bool false),(.slice none 0 0),(.bool false),(.slice none 0 0)] 5 hB fun b4 w4 g4 L4 o4 q4 hB=>?_
 replace hL:=hL.gr g3
 have ne0_4:=hL.ne o4
 replace L2:=L2.gr g3
 have ne2_4:=L2.ne o4
 have ne3_4:=L3.ne o4
 simp only [p3,p4]
 refine sq_nil ?_
 refine k1 _ _ ?_
 try clear k1 K1
 refine wp_seq_k (fun K5 k5=>?_)
 refine wp_seq_k (fun K6 k6=>?_)
 refine rg [0,1,2] ?_
 replace L3:=L3.gr g4
 refine sw 6 (.agg #[j0,j1,j2,j3]) rfl (rl 71 0 [j0,j1,j2,j3] L3) ?_
 refine se ?_
 have kq8:=g2.kp.trans (g3.kp.trans g4.kp)
 replace hy:=hy.kp kq8
 refine ec 7 (sign_r hy) ?_
 rintro e7 w7 ⟨rfl,g7⟩
 refine ⟨_,rfl,?_⟩
 replace hB:=hB.trans g7
 simp only [p3,p4]
 refine sv 8 (.bool ((sgn (y).num==(0:Int)))) ?_
 refine sq_nil ?_
 refine k6 _ _ ?_
 try clear k6 K6
 refine wp_cond_split (t:=(sgn (y).num==(0:Int))) rfl (fun hb9=>?_) (fun hb9=>?_)
 ·refine wp_seq_k (fun K10 k10=>?_)
  refine rg [0,1] ?_
  replace L2:=L2.gr (g4.trans g7)
  refine sw 9 (.agg #[f0,f1,f2,f3]) rfl (rl 71 0 [f0,f1,f2,f3] L2) ?_
  refine se ?_
  replace L4:=L4.gr g7
  refine es 71 0 (.agg #[f0,f1,f2,f3]) [f0,f1,f2,f3] #[f0,f1,f2,f3] L4 hB q4 ⟨hx.one0,hx.one1,hx.one2,hx.one3,trivial⟩ fun w11 st11 kp11 L4 hB=>?_
  refine sq_nil ?_
  refine k10 _ _ ?_
  try clear k10 K10
  refine wp_ret ?_
  simp only [Exit.then]
  refine bodyPost_ret (v:=(.agg #[f0,f1,f2,f3])) (ret_cell _ _ _ rfl rfl L4 (by kernel_rfl)) rfl ⟨?_,hB⟩
  have kq12:=g2.kp.trans (g3.kp.trans (g4.kp.trans (g7.kp.trans kp11)))
  replace hx:=hx.kp kq12
  exact ⟨_,_,_,_,rfl,(hx.mono (by omega)).castq (sub_mul0 hb9)⟩
 ·refine wp_skip ?_
  refine k5 _ _ ?_
  try clear k5 K5
  refine wp_seq_k (fun K13 k13=>?_)
  have gd24:=Gr.drew w7
  replace hB:=hB.trans gd24
  replace hL:=hL.gr (g4.trans (g7.trans gd24))
  replace L2:=L2.gr (g4.trans (g7.trans gd24))
  replace L3:=L3.gr (g7.trans gd24)
  refine wp_region_ord (fun w'=>Lc w' bb #[n0,n1,n2,n3] 71∧Lc w' b2 #[f0,f1,f2,f3] 71∧Lc w' b3 #[j0,j1,j2,j3] 71) [(true,0),(true,1),(true,2),(false,3),(false,4),(false,5)] (by kernel_rfl) (by kernel_rfl) (by kernel_rfl) (by decide) (fun _ _ _ _ _ h=>h) ⟨hL,L2,L3⟩ ?_
  refine ow 10 (.agg #[f0,f1,f2,f3]) rfl (fun w' hS=>(rl 71 0 [f0,f1,f2,f3] hS.2.1)) ?_
  refine ow 11 (.agg #[n0,n1,n2,n3]) rfl (fun w' hS=>(rl 71 0 [n0,n1,n2,n3] hS.1)) ?_
  refine ow 12 (.agg #[j0,j1,j2,j3]) rfl (fun w' hS=>(rl 71 0 [j0,j1,j2,j3] hS.2.2)) ?_
  refine oe ?_
  have kq27:=g2.kp.trans (g3.kp.trans (g4.kp.trans (g7.kp.trans gd24.kp)))
  replace hp:=hp.kp kq27
  have kq28:=g7.kp.trans gd24.kp
  replace hy:=hy.kp kq28
  refine ec 13 (mul_r hp hy (by omega)) ?_
  rintro e26 w26 ⟨⟨p26,q26,r26,s26,rfl,h26⟩,g26⟩
  refine ⟨_,rfl,?_⟩
  replace hB:=hB.trans g26
  replace hL:=hL.gr g26
  replace L2:=L2.gr g26
  replace L3:=L3.gr g26
  refine ⟨⟨hL,L2,L3⟩,?_⟩
  simp only [p3,p4]
  refine oe ?_
  have kq31:=g2.kp.trans (g3.kp.trans (g4.kp.trans (g7.kp.trans (gd24.kp.trans g26.kp))))
  replace hx:=hx.kp kq31
  refine ec 14 (sub_r hx h26 (by omega)) ?_
  rintro e30 w30 ⟨⟨p30,q30,r30,s30,rfl,h30⟩,g30⟩
  refine ⟨_,rfl,?_⟩
  replace hB:=hB.trans g30
  replace hL:=hL.gr g30
  replace L2:=L2.gr g30
  replace L3:=L3.gr g30
  refine ⟨⟨hL,L2,L3⟩,?_⟩
  simp only [p3,p4]
  refine oe ?_
  replace L4:=L4.gr (g7.trans (gd24.trans (g26.trans g30)))
  refine es 71 0 (.agg #[p30,q30,r30,s30]) [p30,q30,r30,s30] #[p30,q30,r30,s30] L4 hB q4 ⟨h30.one0,h30.one1,h30.one2,h30.one3,trivial⟩ fun w33 st33 kp33 L4 hB=>?_
  replace hL:=st33.lc hL ne0_4
  replace L2:=st33.lc L2 ne2_4
  replace L3:=st33.lc L3 ne3_4
  refine ⟨⟨hL,L2,L3⟩,?_⟩
  refine ord_nil ?_
  refine k13 _ _ ?_
  try clear k13 K13
  refine wp_ret ?_
  refine bodyPost_ret (v:=(.agg #[p30,q30,r30,s30])) (ret_cell _ _ _ rfl rfl L4 (by kernel_rfl)) rfl ⟨?_,hB⟩
  replace h30:=h30.kp kp33
  exact ⟨_,_,_,_,rfl,h30.mono (by omega)⟩

set_option maxRecDepth 100000 in
set_option maxHeartbeats 1000000 in
theorem mx_over1 {K L:Nat} {f0 f1 f2 f3 j0 j1 j2 j3 n0 n1 n2 n3:Value} {x y p:Rat} {bb:Nat} {w:World} (hx:IsRat w K f0 f1 f2 f3 x) (_hy:IsRat w K j0 j1 j2 j3 y) (hp:IsRat w L n0 n1 n2 n3 p) (hL:Lc w bb #[n0,n1,n2,n3] 71) (_hk:K+L≤40000) (h0:p.num≠0):
    Calls Tryz.prog 112 #[(.agg #[f0,f1,f2,f3]),(.agg #[j0,j1,j2,j3]),(.pointer (some ⟨bb,0,none⟩))] w fun e w'=>(∃ c0 c1 c2 c3,e=.returned (.agg #[c0,c1,c2,c3])∧IsRat w' (K+L) c0 c1 c2 c3 (x*(1/p)))∧Gr w w':=by
 go_enter Tryz.func112,Tryz.ntmps112
 have hB:=Gr.refl w
 refine wp_seq_k (fun K1 k1=>?_)
 refine rg [0,1,2] ?_
 refine se ?_
 refine eb 71 #[f0,f1,f2,f3] 3 hB fun b2 w2 g2 L2 o2 q2 hB=>?_
 simp only [p3,p4]
 refine se ?_
 refine eb 71 #[j0,j1,j2,j3] 4 hB fun b3 w3 g3 L3 o3 q3 hB=>?_
 replace hL:=hL.gr g2
 simp only [p3,p4]
 refine se ?_
 refine ea 71 #[(.bool false),(.slice none 0 0),(.bool false),(.slice none 0 0)] 5 hB fun b4 w4 g4 L4 o4 q4 hB=>?_
 replace hL:=hL.gr g3
 replace L2:=L2.gr g3
 simp only [p3,p4]
 refine sq_nil ?_
 refine k1 _ _ ?_
 try clear k1 K1
 refine wp_seq_k (fun K5 k5=>?_)
 refine rg [0,1,2,3,4,5,6,7,8] ?_
 replace L2:=L2.gr g4
 refine sw 9 (.agg #[f0,f1,f2,f3]) rfl (rl 71 0 [f0,f1,f2,f3] L2) ?_
 replace hL:=hL.gr g4
 refine sw 10 (.agg #[n0,n1,n2,n3]) rfl (rl 71 0 [n0,n1,n2,n3] hL) ?_
 refine se ?_
 have kq7:=g2.kp.trans (g3.kp.trans g4.kp)
 replace hx:=hx.kp kq7
 replace hp:=hp.kp kq7
 refine ec 11 (div_a hx hp (by omega) h0) ?_
 rintro e6 w6 ⟨⟨p6,q6,r6,s6,rfl,h6⟩,g6⟩
 refine ⟨_,rfl,?_⟩
 replace hB:=hB.trans g6
 simp only [p3,p4]
 refine sv 8 (.tuple #[(.agg #[p6,q6,r6,s6]),(.int .i64 0)]) ?_
 refine sv 12 (.agg #[p6,q6,r6,s6]) ?_
 refine sv 13 (.int .i64 0) ?_
 refine se ?_
 refine ea 71 #[(.bool false),(.slice none 0 0),(.bool false),(.slice none 0 0)] 6 hB fun b8 w8 g8 L8 o8 q8 hB=>?_
 replace hL:=hL.gr g6
 replace L4:=L4.gr g6
 have ne4_8:=L4.ne o8
 simp only [p3,p4]
 refine se ?_
 refine es 71 0 (.agg #[p6,q6,r6,s6]) [p6,q6,r6,s6] #[p6,q6,r6,s6] L8 hB q8 ⟨h6.one0,h6.one1,h6.one2,h6.one3,trivial⟩ fun w9 st9 kp9 L8 hB=>?_
 refine sv 7 (.int .i64 0) ?_
 refine sq_nil ?_
 refine k5 _ _ ?_
 try clear k5 K5
 refine wp_seq_k (fun K10 k10=>?_)
 refine rg [0,1] ?_
 refine sw 14 (.agg #[p6,q6,r6,s6]) rfl (rl 71 0 [p6,q6,r6,s6] L8) ?_
 refine se ?_
 replace L4:=st9.lc (L4.gr g8) ne4_8
 refine es 71 0 (.agg #[p6,q6,r6,s6]) [p6,q6,r6,s6] #[p6,q6,r6,s6] L4 hB q4 ⟨h6.one0,h6.one1,h6.one2,h6.one3,trivial⟩ fun w11 st11 kp11 L4 hB=>?_
 refine sq_nil ?_
 refine k10 _ _ ?_
 try clear k10 K10
 refine wp_ret ?_
 refine bodyPost_ret (v:=(.agg #[p6,q6,r6,s6])) (ret_cell _ _ _ rfl rfl L4 (by kernel_rfl)) rfl ⟨?_,hB⟩
 have kq12:=g8.kp.trans (kp9.trans kp11)
 replace h6:=h6.kp kq12
 exact ⟨_,_,_,_,rfl,h6.castq (div_inv _ _)⟩

set_option maxRecDepth 100000 in
set_option maxHeartbeats 1000000 in
theorem mx_each_less {K L M N:Nat} {vx vy:Value} {x y:Nat→Rat} {n0 n1 n2 n3:Value} {p:Rat} {bb:Nat} {w:World} (hp:IsRat w L n0 n1 n2 n3 p) (_hk:K+L≤40000) (hM:64≤M) (_hN:N≤100000) (hz:∀ j,j<N→RZ M M (x j - p*y j)) (hL:Lc w bb #[n0,n1,n2,n3] 71) (hx:Sl (ERat K) 71 4 w vx (tb (fun z1=>(x z1)) N)) (hy:Sl (ERat K) 71 4 w vy (tb (fun z1=>(y z1)) N)):
    Calls Tryz.prog 111 #[vx,vy,(.func (.func 114) #[] #[(.pointer (some ⟨bb,0,none⟩))])] w fun e w'=>(∃ u,e=.returned u∧Sl (ERat M) 71 4 w' u (tb (fun z1=>(x z1 - p*y z1)) N)∧Nw w.heap.size u)∧Gr w w':=by
 go_enter Tryz.func111,Tryz.ntmps111
 have hB:=Gr.refl w
 refine wp_seq_k (fun K10 k10=>?_)
 refine rg [0] ?_
 refine sv 6 (.slice none 0 0) ?_
 refine sq_nil ?_
 refine k10 _ _ ?_
 try clear k10 K10
 refine wp_seq_k (fun K11 k11=>?_)
 refine rg [0,1,2,3] ?_
 refine sv 9 vx ?_
 refine sw 10 (.int .i64 ((N:Int))) rfl (rv_lenn (e:=71) hx (tb_lenz rfl) _ _ rfl rfl (by kernel_rfl)) ?_
 refine se ?_
 refine eff_mk (E:=(ERat M)) (0:Rat) 49 71 (.agg #[(.bool false),(.slice none 0 0),(.bool false),(.slice none 0 0)]) N 4 64 (some 11) rfl rfl rfl rfl (by kernel_rfl) (by kernel_rfl) (by decide) (by omega) (by decide) (fun w2=>erat_zero M hM w2) (fun b12 w12 g12 mk12 q12=>?_)
 have ne0_12:=hL.ne q12
 replace q12:=Nat.le_trans (Below.size hB) q12
 replace hB:=hB.trans g12
 simp only [putl,p3,p4]
 refine sv 7 (.slice (some ⟨b12,0,none⟩) N N) ?_
 refine sq_nil ?_
 refine k11 _ _ ?_
 try clear k11 K11
 refine wp_seq_k (fun K13 k13=>?_)
 refine wp_seq_k (fun K14 k14=>?_)
 refine rg [0,1,2] ?_
 refine sv 12 vx ?_
 refine sw 13 (.int .i64 ((N:Int))) rfl (rv_lenn (e:=71) hx (tb_lenz rfl) _ _ rfl rfl (by kernel_rfl)) ?_
 refine sv 14 (.int .i64 0) ?_
 refine sq_nil ?_
 refine k14 _ _ ?_
 try clear k14 K14
 refine wp_block ?_
 replace hL:=hL.gr g12
 refine wp_loop_inv (a:=⟨List.toArray ?l15,[]⟩) (fun n a w'=>∃ (j:Nat) (u15:Nat→Value),N - j=n∧a=⟨[vx,vy,(.func (.func 114) #[] #[(.pointer (some ⟨bb,0,none⟩))]),undef,undef,undef,(.slice none 0 0),(.slice (some ⟨b12,0,none⟩) N N),(u15 8),(u15 9),(u15 10),(u15 11),(u15 12),(.int .i64 ((N:Int))),(.int .i64 ((j:Int))),(u15 15),(u15 16),(u15 17),(u15 18),(u15 19),(u15 20),(u15 21),(u15 22),(u15 23),(u15 24),(u15 25),(u15 26),(u15 27),(u15 28),(u15 29),(u15 30),undef].toArray,[]⟩∧j≤N∧Mk (ERat M) 71 4 w' b12 (fil (fun z1=>(x z1 - p*y z1)) (0:Rat) N j)∧Lc w' bb #[n0,n1,n2,n3] 71∧Gr w w') (N - 0) ?_ ?_
 ·exact ⟨0,(fun i=>List.getD ?l15 i undef),rfl,rfl,(Nat.zero_le _),(mk12.cast fil_zero),hL,hB⟩
 rintro n15 a15 w15 ⟨j,u15,rfl,rfl,hkj,mj,hL,hB⟩ K15 k15
 refine wp_seq_k (fun K16 k16=>?_)
 refine rg [0] ?_
 refine sv 15 (.bool (decide ((j:Int)<(N:Int)))) ?_
 refine sq_nil ?_
 refine k16 _ _ ?_
 try clear k16 K16
 refine wp_seq_k (fun K17 k17=>?_)
 refine wp_cond_split (t:=decide ((j:Int)<(N:Int))) rfl (fun hb18=>?_) (fun hb18=>?_)
 ·have hlj:j<N:=by have:=of_decide_eq_true hb18;omega
  refine wp_skip ?_
  refine k17 _ _ ?_
  try clear k17 K17
  refine wp_seq_k (fun K19 k19=>?_)
  refine wp_block ?_
  refine wp_seq_k (fun K20 k20=>?_)
  refine rg [0,1] ?_
  refine sv 16 (.int .i64 ((j:Int))) ?_
  refine sv 8 (.int .i64 ((j:Int))) ?_
  refine sq_nil ?_
  refine k20 _ _ ?_
  try clear k20 K20
  obtain ⟨_,_,⟨cA26,cB26,cC26,cD26,rfl,h26⟩,at26⟩:=Sl.get hx (by decide) (tb_get (f:=(fun z1=>(x z1))) (n:=N) (i:=j) (by omega))
  obtain ⟨_,_,⟨cA27,cB27,cC27,cD27,rfl,h27⟩,at27⟩:=Sl.get hy (by decide) (tb_get (f:=(fun z1=>(y z1))) (n:=N) (i:=j) (by omega))
  have gd28:=Gr.drew w15
  replace hB:=hB.trans gd28
  refine wp_region_ord (fun w'=>AtV w' vx (j*4) [cA26,cB26,cC26,cD26]∧AtV w' vy (j*4) [cA27,cB27,cC27,cD27]) [(true,0),(true,1),(true,2),(true,3),(true,4),(true,5),(true,6),(true,7),(true,8),(true,9),(true,10),(false,11),(true,12),(false,13)] (by kernel_rfl) (by kernel_rfl) (by kernel_rfl) (by decide) (fun _ _ _ _ _ h=>h) ⟨(at26.gr hB),(at27.gr hB)⟩ ?_
  refine ov 17 (.slice (some ⟨b12,0,none⟩) N N) ?_
  refine ov 18 (.int .i64 ((j:Int))) ?_
  refine ov 19 (.func (.func 114) #[] #[(.pointer (some ⟨bb,0,none⟩))]) ?_
  refine ov 20 vx ?_
  refine ov 21 (.int .i64 ((j:Int))) ?_
  refine ow 22 (adr vx (j*4)) rfl (fun w' hS=>(rv_idxn (e:=71) hx tb_len (by decide) j (by omega) _ _ _ rfl rfl rfl (by kernel_rfl) (by kernel_rfl))) ?_
  refine ow 23 (.agg #[cA26,cB26,cC26,cD26]) rfl (fun w' hS=>(rv_ldn [cA26,cB26,cC26,cD26] hS.1 _ _ rfl rfl (by kernel_rfl))) ?_
  refine ov 24 vy ?_
  refine ov 25 (.int .i64 ((j:Int))) ?_
  refine ow 26 (adr vy (j*4)) rfl (fun w' hS=>(rv_idxn (e:=71) hy tb_len (by decide) j (by omega) _ _ _ rfl rfl rfl (by kernel_rfl) (by kernel_rfl))) ?_
  refine ow 27 (.agg #[cA27,cB27,cC27,cD27]) rfl (fun w' hS=>(rv_ldn [cA27,cB27,cC27,cD27] hS.2 _ _ rfl rfl (by kernel_rfl))) ?_
  refine oe ?_
  replace hL:=hL.gr gd28
  refine ec 28 (mx_less1 (h26.kp hB.kp) (h27.kp hB.kp) (hp.kp hB.kp) hL (by omega)) ?_
  rintro e30 w30 ⟨⟨p30,q30,r30,s30,rfl,h30⟩,g30⟩
  refine ⟨_,rfl,?_⟩
  replace hB:=hB.trans g30
  refine ⟨⟨(at26.gr hB),(at27.gr hB)⟩,?_⟩
  simp only [p3,p4]
  refine ow 29 (adr (.slice (some ⟨b12,0,none⟩) N N) (j*4)) rfl (fun w' hS=>(rv_idxn (e:=71) (n:=N) (mj.sl_n (n:=N) (cap:=N) (fil_len (by omega)) (Nat.le_refl _)) (fil_len (by omega)) (by decide) j (by omega) _ _ _ rfl rfl rfl (by kernel_rfl) (by kernel_rfl))) ?_
  refine oe ?_
  replace mj:=mj.gr (stab_rat M) (gd28.trans g30)
  refine eff_stm (stab_rat M) mj j (fil_lt (by omega) (by omega)) (((x j) - p*(y j))) (.agg #[p30,q30,r30,s30]) [p30,q30,r30,s30] (N) (N) 71 _ _ rfl rfl rfl rfl rfl (by kernel_rfl) rfl ⟨h30.one0,h30.one1,h30.one2,h30.one3,trivial⟩ ⟨_,_,_,_,rfl,h30.resz (hz j hlj) (by omega)⟩ (by decide) (fun w32 st32 kt32 mk32=>?_)
  replace hB:=st32.gr hB q12
  refine ⟨⟨(at26.gr hB),(at27.gr hB)⟩,?_⟩
  refine ord_nil ?_
  refine k19 _ _ ?_
  try clear k19 K19
  refine rg [0,1] ?_
  refine sw 30 (.int .i64 (((j:Int)+1))) rfl (RunV.int (x:=IntKind.i64.wrap (((j:Int)+1))) (y:=((j:Int)+1)) (rvk (by kernel_rfl)) (by first | rfl | (rw [IntKind.wrap_i64];omega))) ?_
  refine sv 14 (.int .i64 (((j:Int)+1))) ?_
  refine sq_nil ?_
  replace hL:=st32.lc (hL.gr g30) ne0_12
  refine k15 (N - (j+1)) ⟨List.toArray ?l33,[]⟩ _ (by omega) ?_
  exact ⟨j+1,(fun i=>List.getD ?l33 i undef),rfl,rfl,(by omega),(mk32.cast (fil_set hlj (by first | rfl | exact fil_all))),hL,hB⟩
 ·have hej:N=j:=by have:=of_decide_eq_false hb18;omega
  subst hej
  refine wp_exit ?_
  simp only [Exit.then,Exit.inBlock,↓reduceIte]
  refine k13 _ _ ?_
  try clear k13 K13
  refine wp_seq_k (fun K34 k34=>?_)
  refine rg [0,1] ?_
  refine sv 31 (.slice (some ⟨b12,0,none⟩) N N) ?_
  refine sv 6 (.slice (some ⟨b12,0,none⟩) N N) ?_
  refine sq_nil ?_
  refine k34 _ _ ?_
  try clear k34 K34
  refine wp_ret ?_
  refine bodyPost_ret (v:=(.slice (some ⟨b12,0,none⟩) N N)) (ret_tmp rfl rfl) rfl ⟨?_,hB⟩
  exact ⟨_,rfl,(Sl.cast (mj.sl_n (fil_len (by omega)) (Nat.le_refl _)) fil_all),Nw.mk q12⟩

set_option maxRecDepth 100000 in
set_option maxHeartbeats 1000000 in
theorem mx_each_over {K L M N:Nat} {vx:Value} {x:Nat→Rat} {n0 n1 n2 n3:Value} {p:Rat} {bb:Nat} {w:World} (hp:IsRat w L n0 n1 n2 n3 p) (_hk:K+L≤40000) (hM:64≤M) (_hN:N≤100000) (h0:p.num≠0) (hz:∀ j,j<N→RZ M M (x j*(1/p))) (hL:Lc w bb #[n0,n1,n2,n3] 71) (hx:Sl (ERat K) 71 4 w vx (tb (fun z1=>(x z1)) N)):
    Calls Tryz.prog 111 #[vx,vx,(.func (.func 112) #[] #[(.pointer (some ⟨bb,0,none⟩))])] w fun e w'=>(∃ u,e=.returned u∧Sl (ERat M) 71 4 w' u (tb (fun z1=>(x z1*(1/p))) N)∧Nw w.heap.size u)∧Gr w w':=by
 go_enter Tryz.func111,Tryz.ntmps111
 have hB:=Gr.refl w
 refine wp_seq_k (fun K10 k10=>?_)
 refine rg [0] ?_
 refine sv 6 (.slice none 0 0) ?_
 refine sq_nil ?_
 refine k10 _ _ ?_
 try clear k10 K10
 refine wp_seq_k (fun K11 k11=>?_)
 refine rg [0,1,2,3] ?_
 refine sv 9 vx ?_
 refine sw 10 (.int .i64 ((N:Int))) rfl (rv_lenn (e:=71) hx (tb_lenz rfl) _ _ rfl rfl (by kernel_rfl)) ?_
 refine se ?_
 refine eff_mk (E:=(ERat M)) (0:Rat) 49 71 (.agg #[(.bool false),(.slice none 0 0),(.bool false),(.slice none 0 0)]) N 4 64 (some 11) rfl rfl rfl rfl (by kernel_rfl) (by kernel_rfl) (by decide) (by omega) (by decide) (fun w2=>erat_zero M hM w2) (fun b12 w12 g12 mk12 q12=>?_)
 have ne0_12:=hL.ne q12
 replace q12:=Nat.le_trans (Below.size hB) q12
 replace hB:=hB.trans g12
 simp only [putl,p3,p4]
 refine sv 7 (.slice (some ⟨b12,0,none⟩) N N) ?_
 refine sq_nil ?_
 refine k11 _ _ ?_
 try clear k11 K11
 refine wp_seq_k (fun K13 k13=>?_)
 refine wp_seq_k (fun K14 k14=>?_)
 refine rg [0,1,2] ?_
 refine sv 12 vx ?_
 refine sw 13 (.int .i64 ((N:Int))) rfl (rv_lenn (e:=71) hx (tb_lenz rfl) _ _ rfl rfl (by kernel_rfl)) ?_
 refine sv 14 (.int .i64 0) ?_
 refine sq_nil ?_
 refine k14 _ _ ?_
 try clear k14 K14
 refine wp_block ?_
 replace hL:=hL.gr g12
 refine wp_loop_inv (a:=⟨List.toArray ?l15,[]⟩) (fun n a w'=>∃ (j:Nat) (u15:Nat→Value),N - j=n∧a=⟨[vx,vx,(.func (.func 112) #[] #[(.pointer (some ⟨bb,0,none⟩))]),undef,undef,undef,(.slice none 0 0),(.slice (some ⟨b12,0,none⟩) N N),(u15 8),(u15 9),(u15 10),(u15 11),(u15 12),(.int .i64 ((N:Int))),(.int .i64 ((j:Int))),(u15 15),(u15 16),(u15 17),(u15 18),(u15 19),(u15 20),(u15 21),(u15 22),(u15 23),(u15 24),(u15 25),(u15 26),(u15 27),(u15 28),(u15 29),(u15 30),undef].toArray,[]⟩∧j≤N∧Mk (ERat M) 71 4 w' b12 (fil (fun z1=>(x z1*(1/p))) (0:Rat) N j)∧Lc w' bb #[n0,n1,n2,n3] 71∧Gr w w') (N - 0) ?_ ?_
 ·exact ⟨0,(fun i=>List.getD ?l15 i undef),rfl,rfl,(Nat.zero_le _),(mk12.cast fil_zero),hL,hB⟩
 rintro n15 a15 w15 ⟨j,u15,rfl,rfl,hkj,mj,hL,hB⟩ K15 k15
 refine wp_seq_k (fun K16 k16=>?_)
 refine rg [0] ?_
 refine sv 15 (.bool (decide ((j:Int)<(N:Int)))) ?_
 refine sq_nil ?_
 refine k16 _ _ ?_
 try clear k16 K16
 refine wp_seq_k (fun K17 k17=>?_)
 refine wp_cond_split (t:=decide ((j:Int)<(N:Int))) rfl (fun hb18=>?_) (fun hb18=>?_)
 ·have hlj:j<N:=by have:=of_decide_eq_true hb18;omega
  refine wp_skip ?_
  refine k17 _ _ ?_
  try clear k17 K17
  refine wp_seq_k (fun K19 k19=>?_)
  refine wp_block ?_
  refine wp_seq_k (fun K20 k20=>?_)
  refine rg [0,1] ?_
  refine sv 16 (.int .i64 ((j:Int))) ?_
  refine sv 8 (.int .i64 ((j:Int))) ?_
  refine sq_nil ?_
  refine k20 _ _ ?_
  try clear k20 K20
  obtain ⟨_,_,⟨cA26,cB26,cC26,cD26,rfl,h26⟩,at26⟩:=Sl.get hx (by decide) (tb_get (f:=(fun z1=>(x z1))) (n:=N) (i:=j) (by omega))
  have gd27:=Gr.drew w15
  replace hB:=hB.trans gd27
  refine wp_region_ord (fun w'=>AtV w' vx (j*4) [cA26,cB26,cC26,cD26]) [(true,0),(true,1),(true,2),(true,3),(true,4),(true,5),(true,6),(true,7),(true,8),(true,9),(true,10),(false,11),(true,12),(false,13)] (by kernel_rfl) (by kernel_rfl) (by kernel_rfl) (by decide) (fun _ _ _ _ _ h=>h) (at26.gr hB) ?_
  refine ov 17 (.slice (some ⟨b12,0,none⟩) N N) ?_
  refine ov 18 (.int .i64 ((j:Int))) ?_
  refine ov 19 (.func (.func 112) #[] #[(.pointer (some ⟨bb,0,none⟩))]) ?_
  refine ov 20 vx ?_
  refine ov 21 (.int .i64 ((j:Int))) ?_
  refine ow 22 (adr vx (j*4)) rfl (fun w' hS=>(rv_idxn (e:=71) hx tb_len (by decide) j (by omega) _ _ _ rfl rfl rfl (by kernel_rfl) (by kernel_rfl))) ?_
  refine ow 23 (.agg #[cA26,cB26,cC26,cD26]) rfl (fun w' hS=>(rv_ldn [cA26,cB26,cC26,cD26] hS _ _ rfl rfl (by kernel_rfl))) ?_
  refine ov 24 vx ?_
  refine ov 25 (.int .i64 ((j:Int))) ?_
  refine ow 26 (adr vx (j*4)) rfl (fun w' hS=>(rv_idxn (e:=71) hx tb_len (by decide) j (by omega) _ _ _ rfl rfl rfl (by kernel_rfl) (by kernel_rfl))) ?_
  refine ow 27 (.agg #[cA26,cB26,cC26,cD26]) rfl (fun w' hS=>(rv_ldn [cA26,cB26,cC26,cD26] hS _ _ rfl rfl (by kernel_rfl))) ?_
  refine oe ?_
  replace hL:=hL.gr gd27
  refine ec 28 (mx_over1 (h26.kp hB.kp) (h26.kp hB.kp) (hp.kp hB.kp) hL (by omega) h0) ?_
  rintro e29 w29 ⟨⟨p29,q29,r29,s29,rfl,h29⟩,g29⟩
  refine ⟨_,rfl,?_⟩
  replace hB:=hB.trans g29
  refine ⟨(at26.gr hB),?_⟩
  simp only [p3,p4]
  refine ow 29 (adr (.slice (some ⟨b12,0,none⟩) N N) (j*4)) rfl (fun w' hS=>(rv_idxn (e:=71) (n:=N) (mj.sl_n (n:=N) (cap:=N) (fil_len (by omega)) (Nat.le_refl _)) (fil_len (by omega)) (by decide) j (by omega) _ _ _ rfl rfl rfl (by kernel_rfl) (by kernel_rfl))) ?_
  refine oe ?_
  replace mj:=mj.gr (stab_rat M) (gd27.trans g29)
  refine eff_stm (stab_rat M) mj j (fil_lt (by omega) (by omega)) (((x j)*(1/p))) (.agg #[p29,q29,r29,s29]) [p29,q29,r29,s29] (N) (N) 71 _ _ rfl rfl rfl rfl rfl (by kernel_rfl) rfl ⟨h29.one0,h29.one1,h29.one2,h29.one3,trivial⟩ ⟨_,_,_,_,rfl,h29.resz (hz j hlj) (by omega)⟩ (by decide) (fun w31 st31 kt31 mk31=>?_)
  replace hB:=st31.gr hB q12
  refine ⟨(at26.gr hB),?_⟩
  refine ord_nil ?_
  refine k19 _ _ ?_
  try clear k19 K19
  refine rg [0,1] ?_
  refine sw 30 (.int .i64 (((j:Int)+1))) rfl (RunV.int (x:=IntKind.i64.wrap (((j:Int)+1))) (y:=((j:Int)+1)) (rvk (by kernel_rfl)) (by first | rfl | (rw [IntKind.wrap_i64];omega))) ?_
  refine sv 14 (.int .i64 (((j:Int)+1))) ?_
  refine sq_nil ?_
  replace hL:=st31.lc (hL.gr g29) ne0_12
  refine k15 (N - (j+1)) ⟨List.toArray ?l32,[]⟩ _ (by omega) ?_
  exact ⟨j+1,(fun i=>List.getD ?l32 i undef),rfl,rfl,(by omega),(mk31.cast (fil_set hlj (by first | rfl | exact fil_all))),hL,hB⟩
 ·have hej:N=j:=by have:=of_decide_eq_false hb18;omega
  subst hej
  refine wp_exit ?_
  simp only [Exit.then,Exit.inBlock,↓reduceIte]
  refine k13 _ _ ?_
  try clear k13 K13
  refine wp_seq_k (fun K33 k33=>?_)
  refine rg [0,1] ?_
  refine sv 31 (.slice (some ⟨b12,0,none⟩) N N) ?_
  refine sv 6 (.slice (some ⟨b12,0,none⟩) N N) ?_
  refine sq_nil ?_
  refine k33 _ _ ?_
  try clear k33 K33
  refine wp_ret ?_
  refine bodyPost_ret (v:=(.slice (some ⟨b12,0,none⟩) N N)) (ret_tmp rfl rfl) rfl ⟨?_,hB⟩
  exact ⟨_,rfl,(Sl.cast (mj.sl_n (fil_len (by omega)) (Nat.le_refl _)) fil_all),Nw.mk q12⟩

set_option maxRecDepth 100000 in
set_option maxHeartbeats 1000000 in
theorem mx_less {K L M N:Nat} {vx vy:Value} {x y:Nat→Rat} {n0 n1 n2 n3:Value} {p:Rat} {w:World} (hp:IsRat w L n0 n1 n2 n3 p) (_hk:K+L≤40000) (hM:64≤M) (_hN:N≤100000) (hz:∀ j,j<N→RZ M M (x j - p*y j)) (hx:Sl (ERat K) 71 4 w vx (tb (fun z1=>(x z1)) N)) (hy:Sl (ERat K) 71 4 w vy (tb (fun z1=>(y z1)) N)):
    Calls Tryz.prog 90 #[vx,vy,(.agg #[n0,n1,n2,n3])] w fun e w'=>(∃ u,e=.returned u∧Sl (ERat M) 71 4 w' u (tb (fun z1=>(x z1 - p*y z1)) N)∧Nw w.heap.size u)∧Gr w w':=by
 go_enter Tryz.func90,Tryz.ntmps90
 have hB:=Gr.refl w
 refine wp_seq_k (fun K10 k10=>?_)
 refine rg [0,1] ?_
 refine se ?_
 refine eb 71 #[n0,n1,n2,n3] 5 hB fun b11 w11 g11 L11 o11 q11 hB=>?_
 simp only [p3,p4]
 refine sv 6 (.slice none 0 0) ?_
 refine sq_nil ?_
 refine k10 _ _ ?_
 try clear k10 K10
 refine wp_seq_k (fun K12 k12=>?_)
 refine rg [0,1,2,3,4] ?_
 refine sv 7 vx ?_
 refine sv 8 vy ?_
 refine sv 9 (.func (.func 114) #[] #[(.pointer (some ⟨b11,0,none⟩))]) ?_
 refine se ?_
 replace hp:=hp.kp g11.kp
 have szb:=hB
 refine ec 10 (mx_each_less hp (by omega) hM (by omega) hz L11 (hx.gr (stab_rat K) hB) (hy.gr (stab_rat K) hB)) ?_
 rintro e13 w13 ⟨⟨u13,rfl,hs13,hnw13⟩,g13⟩
 refine ⟨_,rfl,?_⟩
 replace hB:=hB.trans g13
 simp only [p3,p4]
 refine sv 6 u13 ?_
 refine sq_nil ?_
 refine k12 _ _ ?_
 try clear k12 K12
 refine wp_ret ?_
 refine bodyPost_ret (v:=u13) (ret_tmp rfl rfl) rfl ⟨?_,hB⟩
 exact ⟨_,rfl,hs13,fun g a b c d e=>Nat.le_trans (Below.size szb) (hnw13 g a b c d e)⟩

set_option maxRecDepth 100000 in
set_option maxHeartbeats 1000000 in
theorem mx_over {K L M N:Nat} {vx:Value} {x:Nat→Rat} {n0 n1 n2 n3:Value} {p:Rat} {w:World} (hp:IsRat w L n0 n1 n2 n3 p) (_hk:K+L≤40000) (hM:64≤M) (_hN:N≤100000) (h0:p.num≠0) (hz:∀ j,j<N→RZ M M (x j*(1/p))) (hx:Sl (ERat K) 71 4 w vx (tb (fun z1=>(x z1)) N)):
    Calls Tryz.prog 89 #[vx,(.agg #[n0,n1,n2,n3])] w fun e w'=>(∃ u,e=.returned u∧Sl (ERat M) 71 4 w' u (tb (fun z1=>(x z1*(1/p))) N)∧Nw w.heap.size u)∧Gr w w':=by
 go_enter Tryz.func89,Tryz.ntmps89
 have hB:=Gr.refl w
 refine wp_seq_k (fun K10 k10=>?_)
 refine rg [0,1] ?_
 refine se ?_
 refine eb 71 #[n0,n1,n2,n3] 3 hB fun b11 w11 g11 L11 o11 q11 hB=>?_
 simp only [p3,p4]
 refine sv 4 (.slice none 0 0) ?_
 refine sq_nil ?_
 refine k10 _ _ ?_
 try clear k10 K10
 refine wp_seq_k (fun K12 k12=>?_)
 refine rg [0,1,2,3,4] ?_
 refine sv 5 vx ?_
 refine sv 6 vx ?_
 refine sv 7 (.func (.func 112) #[] #[(.pointer (some ⟨b11,0,none⟩))]) ?_
 refine se ?_
 replace hp:=hp.kp g11.kp
 have szb:=hB
 refine ec 8 (mx_each_over hp (by omega) hM (by omega) h0 hz L11 (hx.gr (stab_rat K) hB)) ?_
 rintro e13 w13 ⟨⟨u13,rfl,hs13,hnw13⟩,g13⟩
 refine ⟨_,rfl,?_⟩
 replace hB:=hB.trans g13
 simp only [p3,p4]
 refine sv 4 u13 ?_
 refine sq_nil ?_
 refine k12 _ _ ?_
 try clear k12 K12
 refine wp_ret ?_
 refine bodyPost_ret (v:=u13) (ret_tmp rfl rfl) rfl ⟨?_,hB⟩
 exact ⟨_,rfl,hs13,fun g a b c d e=>Nat.le_trans (Below.size szb) (hnw13 g a b c d e)⟩

section
variable {l:List UInt8} {most:Nat}
end
theorem ratL_len {k:Nat} {q:Rat} (h1:Sz k q.num) (h2:Sz k (q.den:Int)):(ratL q).length≤2*k+5:=by
  have a:=itoa_len h1
  have b:=itoa_len h2
  unfold ratL
  split
  · omega
  · simp only [List.length_append,List.length_singleton];omega
theorem den_pos_i (q:Rat):0<(q.den:Int):=Int.natCast_pos.2 q.den_pos
theorem den2_pos (a b:Rat):0<(a.den:Int)*(b.den:Int):=Int.mul_pos (den_pos_i a) (den_pos_i b)
set_option maxRecDepth 10000 in
set_option maxHeartbeats 4000000 in
theorem r1_from_p (n:Int) (h0:0≤n) (h1:n≤9223372036854775807) (w:World):
    Calls Tryz.prog 97 #[.int .i64 n] w fun e w'=>e=.returned (.string ⟨(Lib.itoa n).toArray⟩)∧Gr w w':=by
  obtain ⟨len,hnx⟩:=NX.exists n.toNat
  have hl:len≤64:=hnx.len_bits (k:=63) (by omega)
  rw [show ((n.toNat:Nat):Int)=n by omega] at hnx
  go_enter Tryz.func97,Tryz.ntmps97
  go_wp2
  go_loopw [3,4] (fun d m wr=>∃ (k:Nat) (v:Value) (M:Int),d=v∧m=.int .i64 M∧0≤M∧M≤9223372036854775807∧k≤len∧Hid (M=tn n k∧OwnS wr 3 w.heap.size v (dvals .i64 k (td n)))∧Below w.heap.size w wr) (fun _ m _=>(intOf m).toNat)
  case atStart=>exact ⟨0,_,n,rfl,rfl,h0,h1,Nat.zero_le _,⟨rfl,OwnS.nil _ _ _⟩,Below.refl _ _⟩
  case round=>
    obtain ⟨k,v,M,rfl,rfl,m0,m1,hk,hz,hB⟩:=hrel
    by_cases hp:0<M
    · have hne:(M !=0)=true:=by simp;omega
      have hkl:k<len:=by
        rcases Nat.lt_or_ge k len with h | h
        · exact h
        · have:=tn_ge hnx.top h
          have:=hz.out.1
          omega
      have d0:0≤M % 10:=by omega
      go_wp2_with (at_builtin;refine wpList_app1 rfl (.tmp 17) (.tmp 19) _ (by rfl) 3 w.heap.size _ _ _ (by rfl) (hz.out.2.gr (Gr.alloc _ _)) _ _ _ (by rfl) (heap_alloc_new _ _) rfl w (hB.alloc hB.size _) (by rw [dvals_length];omega) 8 (by decide) Tryz.underlying30 int_info rfl (by have:=hB.size;simp;omega) ?_)
      intro v1 w1 hown hB1 _ _
      go_wp2
      go_roundw
      case rel=>
        refine ⟨k+1,_,M/10,rfl,rfl,by omega,by omega,hkl,⟨by rw [tn_succ,hz.out.1],?_⟩,hB1⟩
        rw [dvals_succ,show td n k=M % 10 by unfold td;rw [hz.out.1]]
        exact hown
      case measure=>simp [intOf];omega
    · have hM:M=0:=by omega
      subst hM
      obtain ⟨ao,cap,rfl,hcap,_,hrow⟩:=hz.out.2.drow
      have hx:tn ((n.toNat:Nat):Int) k=0:=by rw [show ((n.toNat:Nat):Int)=n by omega];exact hz.out.1.symm
      have hrow':DRow wr ao k (td ((n.toNat:Nat):Int)):=by rw [show ((n.toNat:Nat):Int)=n by omega];exact hrow
      have hn0:¬ n<0:=by omega
      have htx:=r1_text false ao k cap n.toNat wr (by omega) hcap hx hrow'
      rw [text_abs (z:=n) (.inr ⟨rfl,by omega⟩)] at htx
      clear hx hrow hrow'
      go_wp2_with fail
      (with_reducible refine htx.mono ?_)
      rintro e w2 ⟨rfl,g2⟩
      clear htx
      go_wp2
      go_ret
      exact ⟨rfl,Below.trans hB (Below.mono g2 hB.size)⟩
set_option maxRecDepth 10000 in
set_option maxHeartbeats 4000000 in
theorem r1_from_n (n:Int) (h0:n<0) (h1:-9223372036854775808≤n) (w:World):
    Calls Tryz.prog 97 #[.int .i64 n] w fun e w'=>e=.returned (.string ⟨(Lib.itoa n).toArray⟩)∧Gr w w':=by
  obtain ⟨len,hnx⟩:=NX.exists n.natAbs
  have hl:len≤65:=hnx.len_bits (k:=64) (by omega)
  go_enter Tryz.func97,Tryz.ntmps97
  go_wp2
  go_loopw [3,4] (fun d m wr=>∃ (k:Nat) (v:Value) (M:Int),d=v∧m=.int .i64 M∧M≤0∧-9223372036854775808≤M∧k≤len∧Hid (-M=tn (n.natAbs:Int) k∧OwnS wr 3 w.heap.size v (dvals .i64 k (td (n.natAbs:Int))))∧Below w.heap.size w wr) (fun _ m _=>(-intOf m).toNat)
  case atStart=>exact ⟨0,_,n,rfl,rfl,by omega,h1,Nat.zero_le _,⟨by rw [tn_zero];omega,OwnS.nil _ _ _⟩,Below.refl _ _⟩
  case round=>
    obtain ⟨k,v,M,rfl,rfl,m0,m1,hk,hz,hB⟩:=hrel
    by_cases hp:M<0
    · have hne:(M !=0)=true:=by simp;omega
      have hkl:k<len:=by
        rcases Nat.lt_or_ge k len with h | h
        · exact h
        · have:=tn_ge hnx.top h
          have:=hz.out.1
          omega
      obtain ⟨A,hA⟩:∃ A:Int,A=-M:=⟨_,rfl⟩
      have htm:M.tmod 10=-(A % 10):=by
        rw [hA,show M=-(-M) by omega,Int.neg_tmod,Int.tmod_eq_emod_of_nonneg (by omega),Int.neg_neg]
      have htd:M.tdiv 10=-(A/10):=by
        rw [hA,show M=-(-M) by omega,Int.neg_tdiv,Int.tdiv_eq_ediv_of_nonneg (by omega),Int.neg_neg]
      have d0:0≤A % 10:=by omega
      have d1:A % 10<10:=by omega
      have d2:0≤A/10:=by omega
      have d3:A/10≤9223372036854775807:=by omega
      have HA:=Lib.hid hA
      clear hA
      by_cases hx:A % 10=0
      · have hxx:¬ -(A % 10)<0:=by omega
        go_wp2_with (at_builtin;refine wpList_app1 rfl (.tmp 17) (.tmp 19) _ (by rfl) 3 w.heap.size _ _ _ (by rfl) (hz.out.2.gr (Gr.alloc _ _)) _ _ _ (by rfl) (heap_alloc_new _ _) rfl w (hB.alloc hB.size _) (by rw [dvals_length];omega) 8 (by decide) Tryz.underlying30 int_info rfl (by have:=hB.size;simp;omega) ?_)
        intro v1 w1 hown hB1 _ _
        go_wp2
        go_roundw
        case rel=>
          refine ⟨k+1,_,-(A/10),rfl,rfl,by omega,by omega,hkl,⟨by rw [tn_succ,← hz.out.1,HA.out];omega,?_⟩,hB1⟩
          rw [dvals_succ,show td (n.natAbs:Int) k=0 by unfold td;rw [← hz.out.1,← HA.out];exact hx]
          exact hown
        case measure=>simp [intOf];have:=HA.out;omega
      · have hxx:-(A % 10)<0:=by omega
        go_wp2_with (at_builtin;refine wpList_app1 rfl (.tmp 17) (.tmp 19) _ (by rfl) 3 w.heap.size _ _ _ (by rfl) (hz.out.2.gr (Gr.alloc _ _)) _ _ _ (by rfl) (heap_alloc_new _ _) rfl w (hB.alloc hB.size _) (by rw [dvals_length];omega) 8 (by decide) Tryz.underlying30 int_info rfl (by have:=hB.size;simp;omega) ?_)
        intro v1 w1 hown hB1 _ _
        go_wp2
        go_roundw
        case rel=>
          refine ⟨k+1,_,-(A/10),rfl,rfl,by omega,by omega,hkl,⟨by rw [tn_succ,← hz.out.1,HA.out];omega,?_⟩,hB1⟩
          rw [dvals_succ,show td (n.natAbs:Int) k=A % 10 by unfold td;rw [← hz.out.1,← HA.out]]
          exact hown
        case measure=>simp [intOf];have:=HA.out;omega
    · have hM:M=0:=by omega
      subst hM
      obtain ⟨ao,cap,rfl,hcap,_,hrow⟩:=hz.out.2.drow
      have hx:tn (n.natAbs:Int) k=0:=by have:=hz.out.1;omega
      have htx:=r1_text true ao k cap n.natAbs wr (by omega) hcap hx hrow
      rw [text_abs (z:=n) (.inl ⟨rfl,by omega⟩)] at htx
      clear hx hrow
      go_wp2_with fail
      (with_reducible refine htx.mono ?_)
      rintro e w2 ⟨rfl,g2⟩
      clear htx
      go_wp2
      go_ret
      exact ⟨rfl,Below.trans hB (Below.mono g2 hB.size)⟩
theorem r1_from (n:Int) (h0:-9223372036854775808≤n) (h1:n≤9223372036854775807) (w:World):
    Calls Tryz.prog 97 #[.int .i64 n] w fun e w'=>e=.returned (.string ⟨(Lib.itoa n).toArray⟩)∧Gr w w':=by
  rcases Int.lt_or_le n 0 with h | h
  · exact r1_from_n n h h0 w
  · exact r1_from_p n h h1 w
set_option maxRecDepth 100000 in
set_option maxHeartbeats 4000000 in
theorem f5_make_p {k m:Nat} (x y:Int) (hx:Sz k x) (hy:Sz m y) (_hy0:0<y) (_hk:k+m≤60000) (w:World):
    Calls Tryz.prog 91 #[(.string ⟨(Lib.itoa (x):List UInt8).toArray⟩),(.string ⟨(Lib.itoa (y):List UInt8).toArray⟩)] w fun e w'=>e=.returned (.agg #[.string ⟨(Lib.itoa (Rat.divInt x y).num).toArray⟩,.string ⟨(Lib.itoa ((Rat.divInt x y).den:Int)).toArray⟩])∧Gr w w':=by
 have hs:decide (sgn y<0)=false:=by rw [sgn_lt];simp;omega
 have h0:(0:Int)<y:=by omega
 have hgp:=(divInt_parts (N:=x) h0).2.2
 go_enter Tryz.func91,Tryz.ntmps91
 have hB:=Gr.refl w
 refine wp_seq_k (fun K1 k1=>?_)
 refine rg [0] ?_
 refine se ?_
 refine ea 84 #[(.string ⟨([]:List UInt8).toArray⟩),(.string ⟨([]:List UInt8).toArray⟩)] 4 hB fun b2 w2 g2 L2 o2 q2 hB=>?_
 simp only [p3,p4]
 refine sq_nil ?_
 refine k1 _ _ ?_
 try clear k1 K1
 refine wp_seq_k (fun K3 k3=>?_)
 refine wp_seq_k (fun K4 k4=>?_)
 refine rg [0,1,2] ?_
 refine sv 6 (.string ⟨(Lib.itoa (y):List UInt8).toArray⟩) ?_
 refine se ?_
 refine ec 7 (r1_sign_i (y) _) ?_
 rintro e5 w5 ⟨rfl,g5⟩
 refine ⟨_,rfl,?_⟩
 replace hB:=hB.trans g5
 simp only [p3,p4]
 refine sw 8 (.bool false) rfl (RunV.bool (x:=decide (sgn (y)<(0:Int))) (rvk (by kernel_rfl)) hs) ?_
 refine sq_nil ?_
 refine k4 _ _ ?_
 try clear k4 K4
 refine wp_cond_false rfl ?_
 refine wp_skip ?_
 refine k3 _ _ ?_
 try clear k3 K3
 refine wp_seq_k (fun K6 k6=>?_)
 refine rg [0,1,2,3] ?_
 refine sv 13 (.string ⟨(Lib.itoa (x):List UInt8).toArray⟩) ?_
 refine sv 14 (.string ⟨(Lib.itoa (y):List UInt8).toArray⟩) ?_
 refine se ?_
 refine ec 15 (r1_gcd (x) (y) hx hy (by omega) _) ?_
 rintro e7 w7 ⟨rfl,g7⟩
 refine ⟨_,rfl,?_⟩
 replace hB:=hB.trans g7
 simp only [p3,p4]
 refine sv 5 (.string ⟨(Lib.itoa ((Int.gcd (x) (y):Int)):List UInt8).toArray⟩) ?_
 refine sq_nil ?_
 refine k6 _ _ ?_
 try clear k6 K6
 refine wp_seq_k (fun K8 k8=>?_)
 refine rg [0,1,2,3,4,5,6] ?_
 refine sv 17 (.string ⟨(Lib.itoa (x):List UInt8).toArray⟩) ?_
 refine sv 18 (.string ⟨(Lib.itoa ((Int.gcd (x) (y):Int)):List UInt8).toArray⟩) ?_
 refine se ?_
 refine ec 19 (r1_divmod (x) ((Int.gcd (x) (y):Int)) hx (sz_gcd2 hx hy) hgp (by omega) _) ?_
 rintro e9 w9 ⟨rfl,g9⟩
 refine ⟨_,rfl,?_⟩
 replace hB:=hB.trans g9
 simp only [p3,p4]
 refine sv 16 (.tuple #[(.string ⟨(Lib.itoa (x/(Int.gcd (x) (y):Int)):List UInt8).toArray⟩),(.string ⟨(Lib.itoa (x % (Int.gcd (x) (y):Int)):List UInt8).toArray⟩)]) ?_
 refine sv 20 (.string ⟨(Lib.itoa (x/(Int.gcd (x) (y):Int)):List UInt8).toArray⟩) ?_
 refine sv 21 (.string ⟨(Lib.itoa (x % (Int.gcd (x) (y):Int)):List UInt8).toArray⟩) ?_
 refine sv 0 (.string ⟨(Lib.itoa (x/(Int.gcd (x) (y):Int)):List UInt8).toArray⟩) ?_
 refine sq_nil ?_
 refine k8 _ _ ?_
 try clear k8 K8
 refine wp_seq_k (fun K10 k10=>?_)
 refine rg [0,1,2,3,4,5,6] ?_
 refine sv 23 (.string ⟨(Lib.itoa (y):List UInt8).toArray⟩) ?_
 refine sv 24 (.string ⟨(Lib.itoa ((Int.gcd (x) (y):Int)):List UInt8).toArray⟩) ?_
 refine se ?_
 refine ec 25 (r1_divmod (y) ((Int.gcd (x) (y):Int)) hy (sz_gcd2 hx hy) hgp (by omega) _) ?_
 rintro e11 w11 ⟨rfl,g11⟩
 refine ⟨_,rfl,?_⟩
 replace hB:=hB.trans g11
 simp only [p3,p4]
 refine sv 22 (.tuple #[(.string ⟨(Lib.itoa (y/(Int.gcd (x) (y):Int)):List UInt8).toArray⟩),(.string ⟨(Lib.itoa (y % (Int.gcd (x) (y):Int)):List UInt8).toArray⟩)]) ?_
 refine sv 26 (.string ⟨(Lib.itoa (y/(Int.gcd (x) (y):Int)):List UInt8).toArray⟩) ?_
 refine sv 27 (.string ⟨(Lib.itoa (y % (Int.gcd (x) (y):Int)):List UInt8).toArray⟩) ?_
 refine sv 1 (.string ⟨(Lib.itoa (y/(Int.gcd (x) (y):Int)):List UInt8).toArray⟩) ?_
 refine sq_nil ?_
 refine k10 _ _ ?_
 try clear k10 K10
 refine wp_seq_k (fun K12 k12=>?_)
 refine rg [0,1,2,3] ?_
 refine sv 28 (.string ⟨(Lib.itoa (x/(Int.gcd (x) (y):Int)):List UInt8).toArray⟩) ?_
 refine sv 29 (.string ⟨(Lib.itoa (y/(Int.gcd (x) (y):Int)):List UInt8).toArray⟩) ?_
 refine sv 30 (.agg #[(.string ⟨(Lib.itoa (x/(Int.gcd (x) (y):Int)):List UInt8).toArray⟩),(.string ⟨(Lib.itoa (y/(Int.gcd (x) (y):Int)):List UInt8).toArray⟩)]) ?_
 refine se ?_
 replace L2:=L2.gr (g5.trans (g7.trans (g9.trans g11)))
 refine es 84 0 (.agg #[(.string ⟨(Lib.itoa (x/(Int.gcd (x) (y):Int)):List UInt8).toArray⟩),(.string ⟨(Lib.itoa (y/(Int.gcd (x) (y):Int)):List UInt8).toArray⟩)]) [(.string ⟨(Lib.itoa (x/(Int.gcd (x) (y):Int)):List UInt8).toArray⟩),(.string ⟨(Lib.itoa (y/(Int.gcd (x) (y):Int)):List UInt8).toArray⟩)] #[(.string ⟨(Lib.itoa (x/(Int.gcd (x) (y):Int)):List UInt8).toArray⟩),(.string ⟨(Lib.itoa (y/(Int.gcd (x) (y):Int)):List UInt8).toArray⟩)] L2 hB q2 ⟨rfl,rfl,trivial⟩ fun w13 st13 kp13 L2 hB=>?_
 refine sq_nil ?_
 refine k12 _ _ ?_
 try clear k12 K12
 refine wp_ret ?_
 refine bodyPost_ret (v:=(.agg #[(.string ⟨(Lib.itoa (x/(Int.gcd (x) (y):Int)):List UInt8).toArray⟩),(.string ⟨(Lib.itoa (y/(Int.gcd (x) (y):Int)):List UInt8).toArray⟩)])) (ret_cell _ _ _ rfl rfl L2 (by kernel_rfl)) rfl ⟨?_,hB⟩
 exact (by rw [(divInt_parts (N:=x) h0).1,(divInt_parts (N:=x) h0).2.1])

set_option maxRecDepth 100000 in
set_option maxHeartbeats 4000000 in
theorem f5_make_n {k m:Nat} (x y:Int) (hx:Sz k x) (hy:Sz m y) (_hy0:y<0) (_hk:k+m≤60000) (w:World):
    Calls Tryz.prog 91 #[(.string ⟨(Lib.itoa (x):List UInt8).toArray⟩),(.string ⟨(Lib.itoa (y):List UInt8).toArray⟩)] w fun e w'=>e=.returned (.agg #[.string ⟨(Lib.itoa (Rat.divInt x y).num).toArray⟩,.string ⟨(Lib.itoa ((Rat.divInt x y).den:Int)).toArray⟩])∧Gr w w':=by
 have hs:decide (sgn y<0)=true:=by rw [sgn_lt];simp;omega
 have h0:(0:Int)< -y:=by omega
 have hgp:=(divInt_parts (N:=-x) h0).2.2
 go_enter Tryz.func91,Tryz.ntmps91
 have hB:=Gr.refl w
 refine wp_seq_k (fun K1 k1=>?_)
 refine rg [0] ?_
 refine se ?_
 refine ea 84 #[(.string ⟨([]:List UInt8).toArray⟩),(.string ⟨([]:List UInt8).toArray⟩)] 4 hB fun b2 w2 g2 L2 o2 q2 hB=>?_
 simp only [p3,p4]
 refine sq_nil ?_
 refine k1 _ _ ?_
 try clear k1 K1
 refine wp_seq_k (fun K3 k3=>?_)
 refine wp_seq_k (fun K4 k4=>?_)
 refine rg [0,1,2] ?_
 refine sv 6 (.string ⟨(Lib.itoa (y):List UInt8).toArray⟩) ?_
 refine se ?_
 refine ec 7 (r1_sign_i (y) _) ?_
 rintro e5 w5 ⟨rfl,g5⟩
 refine ⟨_,rfl,?_⟩
 replace hB:=hB.trans g5
 simp only [p3,p4]
 refine sw 8 (.bool true) rfl (RunV.bool (x:=decide (sgn (y)<(0:Int))) (rvk (by kernel_rfl)) hs) ?_
 refine sq_nil ?_
 refine k4 _ _ ?_
 try clear k4 K4
 refine wp_cond_true rfl ?_
 refine rg [0,1,2,3,4,5] ?_
 refine sv 9 (.string ⟨(Lib.itoa (x):List UInt8).toArray⟩) ?_
 refine se ?_
 refine ec 10 (r1_neg (x) hx (by omega) _) ?_
 rintro e6 w6 ⟨rfl,g6⟩
 refine ⟨_,rfl,?_⟩
 replace hB:=hB.trans g6
 simp only [p3,p4]
 refine sv 11 (.string ⟨(Lib.itoa (y):List UInt8).toArray⟩) ?_
 refine se ?_
 refine ec 12 (r1_neg (y) hy (by omega) _) ?_
 rintro e7 w7 ⟨rfl,g7⟩
 refine ⟨_,rfl,?_⟩
 replace hB:=hB.trans g7
 simp only [p3,p4]
 refine sv 0 (.string ⟨(Lib.itoa (-x):List UInt8).toArray⟩) ?_
 refine sv 1 (.string ⟨(Lib.itoa (-y):List UInt8).toArray⟩) ?_
 refine sq_nil ?_
 refine k3 _ _ ?_
 try clear k3 K3
 refine wp_seq_k (fun K8 k8=>?_)
 refine rg [0,1,2,3] ?_
 refine sv 13 (.string ⟨(Lib.itoa (-x):List UInt8).toArray⟩) ?_
 refine sv 14 (.string ⟨(Lib.itoa (-y):List UInt8).toArray⟩) ?_
 refine se ?_
 refine ec 15 (r1_gcd (-x) (-y) hx.neg hy.neg (by omega) _) ?_
 rintro e9 w9 ⟨rfl,g9⟩
 refine ⟨_,rfl,?_⟩
 replace hB:=hB.trans g9
 simp only [p3,p4]
 refine sv 5 (.string ⟨(Lib.itoa ((Int.gcd (-x) (-y):Int)):List UInt8).toArray⟩) ?_
 refine sq_nil ?_
 refine k8 _ _ ?_
 try clear k8 K8
 refine wp_seq_k (fun K10 k10=>?_)
 refine rg [0,1,2,3,4,5,6] ?_
 refine sv 17 (.string ⟨(Lib.itoa (-x):List UInt8).toArray⟩) ?_
 refine sv 18 (.string ⟨(Lib.itoa ((Int.gcd (-x) (-y):Int)):List UInt8).toArray⟩) ?_
 refine se ?_
 refine ec 19 (r1_divmod (-x) ((Int.gcd (-x) (-y):Int)) hx.neg (sz_gcd2 hx.neg hy.neg) hgp (by omega) _) ?_
 rintro e11 w11 ⟨rfl,g11⟩
 refine ⟨_,rfl,?_⟩
 replace hB:=hB.trans g11
 simp only [p3,p4]
 refine sv 16 (.tuple #[(.string ⟨(Lib.itoa ((-x)/(Int.gcd (-x) (-y):Int)):List UInt8).toArray⟩),(.string ⟨(Lib.itoa ((-x) % (Int.gcd (-x) (-y):Int)):List UInt8).toArray⟩)]) ?_
 refine sv 20 (.string ⟨(Lib.itoa ((-x)/(Int.gcd (-x) (-y):Int)):List UInt8).toArray⟩) ?_
 refine sv 21 (.string ⟨(Lib.itoa ((-x) % (Int.gcd (-x) (-y):Int)):List UInt8).toArray⟩) ?_
 refine sv 0 (.string ⟨(Lib.itoa ((-x)/(Int.gcd (-x) (-y):Int)):List UInt8).toArray⟩) ?_
 refine sq_nil ?_
 refine k10 _ _ ?_
 try clear k10 K10
 refine wp_seq_k (fun K12 k12=>?_)
 refine rg [0,1,2,3,4,5,6] ?_
 refine sv 23 (.string ⟨(Lib.itoa (-y):List UInt8).toArray⟩) ?_
 refine sv 24 (.string ⟨(Lib.itoa ((Int.gcd (-x) (-y):Int)):List UInt8).toArray⟩) ?_
 refine se ?_
 refine ec 25 (r1_divmod (-y) ((Int.gcd (-x) (-y):Int)) hy.neg (sz_gcd2 hx.neg hy.neg) hgp (by omega) _) ?_
 rintro e13 w13 ⟨rfl,g13⟩
 refine ⟨_,rfl,?_⟩
 replace hB:=hB.trans g13
 simp only [p3,p4]
 refine sv 22 (.tuple #[(.string ⟨(Lib.itoa ((-y)/(Int.gcd (-x) (-y):Int)):List UInt8).toArray⟩),(.string ⟨(Lib.itoa ((-y) % (Int.gcd (-x) (-y):Int)):List UInt8).toArray⟩)]) ?_
 refine sv 26 (.string ⟨(Lib.itoa ((-y)/(Int.gcd (-x) (-y):Int)):List UInt8).toArray⟩) ?_
 refine sv 27 (.string ⟨(Lib.itoa ((-y) % (Int.gcd (-x) (-y):Int)):List UInt8).toArray⟩) ?_
 refine sv 1 (.string ⟨(Lib.itoa ((-y)/(Int.gcd (-x) (-y):Int)):List UInt8).toArray⟩) ?_
 refine sq_nil ?_
 refine k12 _ _ ?_
 try clear k12 K12
 refine wp_seq_k (fun K14 k14=>?_)
 refine rg [0,1,2,3] ?_
 refine sv 28 (.string ⟨(Lib.itoa ((-x)/(Int.gcd (-x) (-y):Int)):List UInt8).toArray⟩) ?_
 refine sv 29 (.string ⟨(Lib.itoa ((-y)/(Int.gcd (-x) (-y):Int)):List UInt8).toArray⟩) ?_
 refine sv 30 (.agg #[(.string ⟨(Lib.itoa ((-x)/(Int.gcd (-x) (-y):Int)):List UInt8).toArray⟩),(.string ⟨(Lib.itoa ((-y)/(Int.gcd (-x) (-y):Int)):List UInt8).toArray⟩)]) ?_
 refine se ?_
 replace L2:=L2.gr (g5.trans (g6.trans (g7.trans (g9.trans (g11.trans g13)))))
 refine es 84 0 (.agg #[(.string ⟨(Lib.itoa ((-x)/(Int.gcd (-x) (-y):Int)):List UInt8).toArray⟩),(.string ⟨(Lib.itoa ((-y)/(Int.gcd (-x) (-y):Int)):List UInt8).toArray⟩)]) [(.string ⟨(Lib.itoa ((-x)/(Int.gcd (-x) (-y):Int)):List UInt8).toArray⟩),(.string ⟨(Lib.itoa ((-y)/(Int.gcd (-x) (-y):Int)):List UInt8).toArray⟩)] #[(.string ⟨(Lib.itoa ((-x)/(Int.gcd (-x) (-y):Int)):List UInt8).toArray⟩),(.string ⟨(Lib.itoa ((-y)/(Int.gcd (-x) (-y):Int)):List UInt8).toArray⟩)] L2 hB q2 ⟨rfl,rfl,trivial⟩ fun w15 st15 kp15 L2 hB=>?_
 refine sq_nil ?_
 refine k14 _ _ ?_
 try clear k14 K14
 refine wp_ret ?_
 refine bodyPost_ret (v:=(.agg #[(.string ⟨(Lib.itoa ((-x)/(Int.gcd (-x) (-y):Int)):List UInt8).toArray⟩),(.string ⟨(Lib.itoa ((-y)/(Int.gcd (-x) (-y):Int)):List UInt8).toArray⟩)])) (ret_cell _ _ _ rfl rfl L2 (by kernel_rfl)) rfl ⟨?_,hB⟩
 exact (by rw [← divInt_neg2,(divInt_parts (N:=-x) h0).1,(divInt_parts (N:=-x) h0).2.1])

theorem f5_make {k m:Nat} (x y:Int) (q:Rat) (hq:Rat.divInt x y=q) (hx:Sz k x) (hy:Sz m y) (hy0:y≠0) (hk:k+m≤60000) (w:World):
    Calls Tryz.prog 91 #[.string ⟨(Lib.itoa x).toArray⟩,.string ⟨(Lib.itoa y).toArray⟩] w fun e w'=>e=.returned (.agg #[.string ⟨(Lib.itoa (q).num).toArray⟩,.string ⟨(Lib.itoa ((q).den:Int)).toArray⟩])∧Gr w w':=by
  subst hq
  rcases Int.lt_or_lt_of_ne hy0 with h | h
  · exact f5_make_n x y hx hy h hk w
  · exact f5_make_p x y hx hy h hk w

set_option maxRecDepth 100000 in
set_option maxHeartbeats 1000000 in
theorem f5_add {k m:Nat} (a b:Rat) (ha:Sz k a.num∧Sz k (a.den:Int)) (hb:Sz m b.num∧Sz m (b.den:Int)) (_hk:k+m≤19998) (w:World):
    Calls Tryz.prog 58 #[(.agg #[(.string ⟨(Lib.itoa (a.num):List UInt8).toArray⟩),(.string ⟨(Lib.itoa ((a.den:Int)):List UInt8).toArray⟩)]),(.agg #[(.string ⟨(Lib.itoa (b.num):List UInt8).toArray⟩),(.string ⟨(Lib.itoa ((b.den:Int)):List UInt8).toArray⟩)])] w fun e w'=>e=.returned (.agg #[.string ⟨(Lib.itoa (a+b).num).toArray⟩,.string ⟨(Lib.itoa ((a+b).den:Int)).toArray⟩])∧Gr w w':=by
 go_enter Tryz.func58,Tryz.ntmps58
 have hB:=Gr.refl w
 refine wp_seq_k (fun K1 k1=>?_)
 refine rg [0,1,2] ?_
 refine se ?_
 refine eb 84 #[(.string ⟨(Lib.itoa (a.num):List UInt8).toArray⟩),(.string ⟨(Lib.itoa ((a.den:Int)):List UInt8).toArray⟩)] 2 hB fun b2 w2 g2 L2 o2 q2 hB=>?_
 simp only [p3,p4]
 refine se ?_
 refine eb 84 #[(.string ⟨(Lib.itoa (b.num):List UInt8).toArray⟩),(.string ⟨(Lib.itoa ((b.den:Int)):List UInt8).toArray⟩)] 3 hB fun b3 w3 g3 L3 o3 q3 hB=>?_
 simp only [p3,p4]
 refine se ?_
 refine ea 84 #[(.string ⟨([]:List UInt8).toArray⟩),(.string ⟨([]:List UInt8).toArray⟩)] 4 hB fun b4 w4 g4 L4 o4 q4 hB=>?_
 replace L2:=L2.gr g3
 have ne2_4:=L2.ne o4
 have ne3_4:=L3.ne o4
 simp only [p3,p4]
 refine sq_nil ?_
 refine k1 _ _ ?_
 try clear k1 K1
 refine wp_seq_k (fun K5 k5=>?_)
 have gd19:=Gr.drew w4
 replace hB:=hB.trans gd19
 replace L2:=L2.gr (g4.trans gd19)
 replace L3:=L3.gr (g4.trans gd19)
 refine wp_region_ord (fun w'=>Lc w' b2 #[(.string ⟨(Lib.itoa (a.num):List UInt8).toArray⟩),(.string ⟨(Lib.itoa ((a.den:Int)):List UInt8).toArray⟩)] 84∧Lc w' b3 #[(.string ⟨(Lib.itoa (b.num):List UInt8).toArray⟩),(.string ⟨(Lib.itoa ((b.den:Int)):List UInt8).toArray⟩)] 84) [(true,0),(true,1),(true,2),(true,3),(true,5),(true,6),(true,7),(true,8),(true,11),(true,12),(true,13),(true,14),(false,4),(false,9),(false,10),(false,15),(false,16),(false,17)] (by kernel_rfl) (by kernel_rfl) (by kernel_rfl) (by decide) (fun _ _ _ _ _ h=>h) ⟨L2,L3⟩ ?_
 refine ov 5 (.pointer (some ⟨b2,0,none⟩)) ?_
 refine ow 6 (.string ⟨(Lib.itoa (a.num):List UInt8).toArray⟩) rfl (fun w' hS=>(rk 9 0 hS.1)) ?_
 refine ov 7 (.pointer (some ⟨b3,1,none⟩)) ?_
 refine ow 8 (.string ⟨(Lib.itoa ((b.den:Int)):List UInt8).toArray⟩) rfl (fun w' hS=>(rk 9 1 hS.2)) ?_
 refine ov 10 (.pointer (some ⟨b3,0,none⟩)) ?_
 refine ow 11 (.string ⟨(Lib.itoa (b.num):List UInt8).toArray⟩) rfl (fun w' hS=>(rk 9 0 hS.2)) ?_
 refine ov 12 (.pointer (some ⟨b2,1,none⟩)) ?_
 refine ow 13 (.string ⟨(Lib.itoa ((a.den:Int)):List UInt8).toArray⟩) rfl (fun w' hS=>(rk 9 1 hS.1)) ?_
 refine ov 16 (.pointer (some ⟨b2,1,none⟩)) ?_
 refine ow 17 (.string ⟨(Lib.itoa ((a.den:Int)):List UInt8).toArray⟩) rfl (fun w' hS=>(rk 9 1 hS.1)) ?_
 refine ov 18 (.pointer (some ⟨b3,1,none⟩)) ?_
 refine ow 19 (.string ⟨(Lib.itoa ((b.den:Int)):List UInt8).toArray⟩) rfl (fun w' hS=>(rk 9 1 hS.2)) ?_
 refine oe ?_
 refine ec 9 (r1_mul (a.num) ((b.den:Int)) ha.1 hb.2 (by omega) _) ?_
 rintro e21 w21 ⟨rfl,g21⟩
 refine ⟨_,rfl,?_⟩
 replace hB:=hB.trans g21
 replace L2:=L2.gr g21
 replace L3:=L3.gr g21
 refine ⟨⟨L2,L3⟩,?_⟩
 simp only [p3,p4]
 refine oe ?_
 refine ec 14 (r1_mul (b.num) ((a.den:Int)) hb.1 ha.2 (by omega) _) ?_
 rintro e23 w23 ⟨rfl,g23⟩
 refine ⟨_,rfl,?_⟩
 replace hB:=hB.trans g23
 replace L2:=L2.gr g23
 replace L3:=L3.gr g23
 refine ⟨⟨L2,L3⟩,?_⟩
 simp only [p3,p4]
 refine oe ?_
 refine ec 15 (r1_add (a.num*(b.den:Int)) (b.num*(a.den:Int)) (ha.1.mul hb.2) (hb.1.mul ha.2) (by omega) _) ?_
 rintro e25 w25 ⟨rfl,g25⟩
 refine ⟨_,rfl,?_⟩
 replace hB:=hB.trans g25
 replace L2:=L2.gr g25
 replace L3:=L3.gr g25
 refine ⟨⟨L2,L3⟩,?_⟩
 simp only [p3,p4]
 refine oe ?_
 refine ec 20 (r1_mul ((a.den:Int)) ((b.den:Int)) ha.2 hb.2 (by omega) _) ?_
 rintro e27 w27 ⟨rfl,g27⟩
 refine ⟨_,rfl,?_⟩
 replace hB:=hB.trans g27
 replace L2:=L2.gr g27
 replace L3:=L3.gr g27
 refine ⟨⟨L2,L3⟩,?_⟩
 simp only [p3,p4]
 refine oe ?_
 refine ec 21 (f5_make (a.num*(b.den:Int)+b.num*(a.den:Int)) ((a.den:Int)*(b.den:Int)) (a+b) (rat_add a b) ((ha.1.mul hb.2).add (hb.1.mul ha.2)) (ha.2.mul hb.2) (Int.ne_of_gt (den2_pos a b)) (by omega) _) ?_
 rintro e29 w29 ⟨rfl,g29⟩
 refine ⟨_,rfl,?_⟩
 replace hB:=hB.trans g29
 replace L2:=L2.gr g29
 replace L3:=L3.gr g29
 refine ⟨⟨L2,L3⟩,?_⟩
 simp only [p3,p4]
 refine oe ?_
 replace L4:=L4.gr (gd19.trans (g21.trans (g23.trans (g25.trans (g27.trans g29)))))
 refine es 84 0 (.agg #[(.string ⟨(Lib.itoa ((a+b).num):List UInt8).toArray⟩),(.string ⟨(Lib.itoa (((a+b).den:Int)):List UInt8).toArray⟩)]) [(.string ⟨(Lib.itoa ((a+b).num):List UInt8).toArray⟩),(.string ⟨(Lib.itoa (((a+b).den:Int)):List UInt8).toArray⟩)] #[(.string ⟨(Lib.itoa ((a+b).num):List UInt8).toArray⟩),(.string ⟨(Lib.itoa (((a+b).den:Int)):List UInt8).toArray⟩)] L4 hB q4 ⟨rfl,rfl,trivial⟩ fun w31 st31 kp31 L4 hB=>?_
 replace L2:=st31.lc L2 ne2_4
 replace L3:=st31.lc L3 ne3_4
 refine ⟨⟨L2,L3⟩,?_⟩
 refine ord_nil ?_
 refine k5 _ _ ?_
 try clear k5 K5
 refine wp_ret ?_
 refine bodyPost_ret (v:=(.agg #[(.string ⟨(Lib.itoa ((a+b).num):List UInt8).toArray⟩),(.string ⟨(Lib.itoa (((a+b).den:Int)):List UInt8).toArray⟩)])) (ret_cell _ _ _ rfl rfl L4 (by kernel_rfl)) rfl ⟨?_,hB⟩
 exact rfl

set_option maxRecDepth 100000 in
set_option maxHeartbeats 1000000 in
theorem f5_mul {k m:Nat} (a b:Rat) (ha:Sz k a.num∧Sz k (a.den:Int)) (hb:Sz m b.num∧Sz m (b.den:Int)) (_hk:k+m≤19998) (w:World):
    Calls Tryz.prog 59 #[(.agg #[(.string ⟨(Lib.itoa (a.num):List UInt8).toArray⟩),(.string ⟨(Lib.itoa ((a.den:Int)):List UInt8).toArray⟩)]),(.agg #[(.string ⟨(Lib.itoa (b.num):List UInt8).toArray⟩),(.string ⟨(Lib.itoa ((b.den:Int)):List UInt8).toArray⟩)])] w fun e w'=>e=.returned (.agg #[.string ⟨(Lib.itoa (a*b).num).toArray⟩,.string ⟨(Lib.itoa ((a*b).den:Int)).toArray⟩])∧Gr w w':=by
 go_enter Tryz.func59,Tryz.ntmps59
 have hB:=Gr.refl w
 refine wp_seq_k (fun K1 k1=>?_)
 refine rg [0,1,2] ?_
 refine se ?_
 refine eb 84 #[(.string ⟨(Lib.itoa (a.num):List UInt8).toArray⟩),(.string ⟨(Lib.itoa ((a.den:Int)):List UInt8).toArray⟩)] 2 hB fun b2 w2 g2 L2 o2 q2 hB=>?_
 simp only [p3,p4]
 refine se ?_
 refine eb 84 #[(.string ⟨(Lib.itoa (b.num):List UInt8).toArray⟩),(.string ⟨(Lib.itoa ((b.den:Int)):List UInt8).toArray⟩)] 3 hB fun b3 w3 g3 L3 o3 q3 hB=>?_
 simp only [p3,p4]
 refine se ?_
 refine ea 84 #[(.string ⟨([]:List UInt8).toArray⟩),(.string ⟨([]:List UInt8).toArray⟩)] 4 hB fun b4 w4 g4 L4 o4 q4 hB=>?_
 replace L2:=L2.gr g3
 have ne2_4:=L2.ne o4
 have ne3_4:=L3.ne o4
 simp only [p3,p4]
 refine sq_nil ?_
 refine k1 _ _ ?_
 try clear k1 K1
 refine wp_seq_k (fun K5 k5=>?_)
 have gd15:=Gr.drew w4
 replace hB:=hB.trans gd15
 replace L2:=L2.gr (g4.trans gd15)
 replace L3:=L3.gr (g4.trans gd15)
 refine wp_region_ord (fun w'=>Lc w' b2 #[(.string ⟨(Lib.itoa (a.num):List UInt8).toArray⟩),(.string ⟨(Lib.itoa ((a.den:Int)):List UInt8).toArray⟩)] 84∧Lc w' b3 #[(.string ⟨(Lib.itoa (b.num):List UInt8).toArray⟩),(.string ⟨(Lib.itoa ((b.den:Int)):List UInt8).toArray⟩)] 84) [(true,0),(true,1),(true,2),(true,3),(true,5),(true,6),(true,7),(true,8),(false,4),(false,9),(false,10),(false,11)] (by kernel_rfl) (by kernel_rfl) (by kernel_rfl) (by decide) (fun _ _ _ _ _ h=>h) ⟨L2,L3⟩ ?_
 refine ov 5 (.pointer (some ⟨b2,0,none⟩)) ?_
 refine ow 6 (.string ⟨(Lib.itoa (a.num):List UInt8).toArray⟩) rfl (fun w' hS=>(rk 9 0 hS.1)) ?_
 refine ov 7 (.pointer (some ⟨b3,0,none⟩)) ?_
 refine ow 8 (.string ⟨(Lib.itoa (b.num):List UInt8).toArray⟩) rfl (fun w' hS=>(rk 9 0 hS.2)) ?_
 refine ov 10 (.pointer (some ⟨b2,1,none⟩)) ?_
 refine ow 11 (.string ⟨(Lib.itoa ((a.den:Int)):List UInt8).toArray⟩) rfl (fun w' hS=>(rk 9 1 hS.1)) ?_
 refine ov 12 (.pointer (some ⟨b3,1,none⟩)) ?_
 refine ow 13 (.string ⟨(Lib.itoa ((b.den:Int)):List UInt8).toArray⟩) rfl (fun w' hS=>(rk 9 1 hS.2)) ?_
 refine oe ?_
 refine ec 9 (r1_mul (a.num) (b.num) ha.1 hb.1 (by omega) _) ?_
 rintro e17 w17 ⟨rfl,g17⟩
 refine ⟨_,rfl,?_⟩
 replace hB:=hB.trans g17
 replace L2:=L2.gr g17
 replace L3:=L3.gr g17
 refine ⟨⟨L2,L3⟩,?_⟩
 simp only [p3,p4]
 refine oe ?_
 refine ec 14 (r1_mul ((a.den:Int)) ((b.den:Int)) ha.2 hb.2 (by omega) _) ?_
 rintro e19 w19 ⟨rfl,g19⟩
 refine ⟨_,rfl,?_⟩
 replace hB:=hB.trans g19
 replace L2:=L2.gr g19
 replace L3:=L3.gr g19
 refine ⟨⟨L2,L3⟩,?_⟩
 simp only [p3,p4]
 refine oe ?_
 refine ec 15 (f5_make (a.num*b.num) ((a.den:Int)*(b.den:Int)) (a*b) (rat_mul a b) (ha.1.mul hb.1) (ha.2.mul hb.2) (Int.ne_of_gt (den2_pos a b)) (by omega) _) ?_
 rintro e21 w21 ⟨rfl,g21⟩
 refine ⟨_,rfl,?_⟩
 replace hB:=hB.trans g21
 replace L2:=L2.gr g21
 replace L3:=L3.gr g21
 refine ⟨⟨L2,L3⟩,?_⟩
 simp only [p3,p4]
 refine oe ?_
 replace L4:=L4.gr (gd15.trans (g17.trans (g19.trans g21)))
 refine es 84 0 (.agg #[(.string ⟨(Lib.itoa ((a*b).num):List UInt8).toArray⟩),(.string ⟨(Lib.itoa (((a*b).den:Int)):List UInt8).toArray⟩)]) [(.string ⟨(Lib.itoa ((a*b).num):List UInt8).toArray⟩),(.string ⟨(Lib.itoa (((a*b).den:Int)):List UInt8).toArray⟩)] #[(.string ⟨(Lib.itoa ((a*b).num):List UInt8).toArray⟩),(.string ⟨(Lib.itoa (((a*b).den:Int)):List UInt8).toArray⟩)] L4 hB q4 ⟨rfl,rfl,trivial⟩ fun w23 st23 kp23 L4 hB=>?_
 replace L2:=st23.lc L2 ne2_4
 replace L3:=st23.lc L3 ne3_4
 refine ⟨⟨L2,L3⟩,?_⟩
 refine ord_nil ?_
 refine k5 _ _ ?_
 try clear k5 K5
 refine wp_ret ?_
 refine bodyPost_ret (v:=(.agg #[(.string ⟨(Lib.itoa ((a*b).num):List UInt8).toArray⟩),(.string ⟨(Lib.itoa (((a*b).den:Int)):List UInt8).toArray⟩)])) (ret_cell _ _ _ rfl rfl L4 (by kernel_rfl)) rfl ⟨?_,hB⟩
 exact rfl

set_option maxRecDepth 100000 in
set_option maxHeartbeats 1000000 in
theorem f5_div {k m:Nat} (a b:Rat) (ha:Sz k a.num∧Sz k (a.den:Int)) (hb:Sz m b.num∧Sz m (b.den:Int)) (h0:b.num≠0) (_hk:k+m≤19998) (w:World):
    Calls Tryz.prog 56 #[(.agg #[(.string ⟨(Lib.itoa (a.num):List UInt8).toArray⟩),(.string ⟨(Lib.itoa ((a.den:Int)):List UInt8).toArray⟩)]),(.agg #[(.string ⟨(Lib.itoa (b.num):List UInt8).toArray⟩),(.string ⟨(Lib.itoa ((b.den:Int)):List UInt8).toArray⟩)])] w fun e w'=>e=.returned (.agg #[.string ⟨(Lib.itoa (a/b).num).toArray⟩,.string ⟨(Lib.itoa ((a/b).den:Int)).toArray⟩])∧Gr w w':=by
 go_enter Tryz.func56,Tryz.ntmps56
 have hB:=Gr.refl w
 refine wp_seq_k (fun K1 k1=>?_)
 refine rg [0,1,2] ?_
 refine se ?_
 refine eb 84 #[(.string ⟨(Lib.itoa (a.num):List UInt8).toArray⟩),(.string ⟨(Lib.itoa ((a.den:Int)):List UInt8).toArray⟩)] 2 hB fun b2 w2 g2 L2 o2 q2 hB=>?_
 simp only [p3,p4]
 refine se ?_
 refine eb 84 #[(.string ⟨(Lib.itoa (b.num):List UInt8).toArray⟩),(.string ⟨(Lib.itoa ((b.den:Int)):List UInt8).toArray⟩)] 3 hB fun b3 w3 g3 L3 o3 q3 hB=>?_
 simp only [p3,p4]
 refine se ?_
 refine ea 84 #[(.string ⟨([]:List UInt8).toArray⟩),(.string ⟨([]:List UInt8).toArray⟩)] 4 hB fun b4 w4 g4 L4 o4 q4 hB=>?_
 replace L2:=L2.gr g3
 have ne2_4:=L2.ne o4
 have ne3_4:=L3.ne o4
 simp only [p3,p4]
 refine sq_nil ?_
 refine k1 _ _ ?_
 try clear k1 K1
 refine wp_seq_k (fun K5 k5=>?_)
 have gd15:=Gr.drew w4
 replace hB:=hB.trans gd15
 replace L2:=L2.gr (g4.trans gd15)
 replace L3:=L3.gr (g4.trans gd15)
 refine wp_region_ord (fun w'=>Lc w' b2 #[(.string ⟨(Lib.itoa (a.num):List UInt8).toArray⟩),(.string ⟨(Lib.itoa ((a.den:Int)):List UInt8).toArray⟩)] 84∧Lc w' b3 #[(.string ⟨(Lib.itoa (b.num):List UInt8).toArray⟩),(.string ⟨(Lib.itoa ((b.den:Int)):List UInt8).toArray⟩)] 84) [(true,0),(true,1),(true,2),(true,3),(true,5),(true,6),(true,7),(true,8),(false,4),(false,9),(false,10),(false,11)] (by kernel_rfl) (by kernel_rfl) (by kernel_rfl) (by decide) (fun _ _ _ _ _ h=>h) ⟨L2,L3⟩ ?_
 refine ov 5 (.pointer (some ⟨b2,0,none⟩)) ?_
 refine ow 6 (.string ⟨(Lib.itoa (a.num):List UInt8).toArray⟩) rfl (fun w' hS=>(rk 9 0 hS.1)) ?_
 refine ov 7 (.pointer (some ⟨b3,1,none⟩)) ?_
 refine ow 8 (.string ⟨(Lib.itoa ((b.den:Int)):List UInt8).toArray⟩) rfl (fun w' hS=>(rk 9 1 hS.2)) ?_
 refine ov 10 (.pointer (some ⟨b2,1,none⟩)) ?_
 refine ow 11 (.string ⟨(Lib.itoa ((a.den:Int)):List UInt8).toArray⟩) rfl (fun w' hS=>(rk 9 1 hS.1)) ?_
 refine ov 12 (.pointer (some ⟨b3,0,none⟩)) ?_
 refine ow 13 (.string ⟨(Lib.itoa (b.num):List UInt8).toArray⟩) rfl (fun w' hS=>(rk 9 0 hS.2)) ?_
 refine oe ?_
 refine ec 9 (r1_mul (a.num) ((b.den:Int)) ha.1 hb.2 (by omega) _) ?_
 rintro e17 w17 ⟨rfl,g17⟩
 refine ⟨_,rfl,?_⟩
 replace hB:=hB.trans g17
 replace L2:=L2.gr g17
 replace L3:=L3.gr g17
 refine ⟨⟨L2,L3⟩,?_⟩
 simp only [p3,p4]
 refine oe ?_
 refine ec 14 (r1_mul ((a.den:Int)) (b.num) ha.2 hb.1 (by omega) _) ?_
 rintro e19 w19 ⟨rfl,g19⟩
 refine ⟨_,rfl,?_⟩
 replace hB:=hB.trans g19
 replace L2:=L2.gr g19
 replace L3:=L3.gr g19
 refine ⟨⟨L2,L3⟩,?_⟩
 simp only [p3,p4]
 refine oe ?_
 refine ec 15 (f5_make (a.num*(b.den:Int)) ((a.den:Int)*b.num) (a/b) (rat_div a b) (ha.1.mul hb.2) (ha.2.mul hb.1) (Int.mul_ne_zero (Int.ne_of_gt (den_pos_i a)) h0) (by omega) _) ?_
 rintro e21 w21 ⟨rfl,g21⟩
 refine ⟨_,rfl,?_⟩
 replace hB:=hB.trans g21
 replace L2:=L2.gr g21
 replace L3:=L3.gr g21
 refine ⟨⟨L2,L3⟩,?_⟩
 simp only [p3,p4]
 refine oe ?_
 replace L4:=L4.gr (gd15.trans (g17.trans (g19.trans g21)))
 refine es 84 0 (.agg #[(.string ⟨(Lib.itoa ((a/b).num):List UInt8).toArray⟩),(.string ⟨(Lib.itoa (((a/b).den:Int)):List UInt8).toArray⟩)]) [(.string ⟨(Lib.itoa ((a/b).num):List UInt8).toArray⟩),(.string ⟨(Lib.itoa (((a/b).den:Int)):List UInt8).toArray⟩)] #[(.string ⟨(Lib.itoa ((a/b).num):List UInt8).toArray⟩),(.string ⟨(Lib.itoa (((a/b).den:Int)):List UInt8).toArray⟩)] L4 hB q4 ⟨rfl,rfl,trivial⟩ fun w23 st23 kp23 L4 hB=>?_
 replace L2:=st23.lc L2 ne2_4
 replace L3:=st23.lc L3 ne3_4
 refine ⟨⟨L2,L3⟩,?_⟩
 refine ord_nil ?_
 refine k5 _ _ ?_
 try clear k5 K5
 refine wp_ret ?_
 refine bodyPost_ret (v:=(.agg #[(.string ⟨(Lib.itoa ((a/b).num):List UInt8).toArray⟩),(.string ⟨(Lib.itoa (((a/b).den:Int)):List UInt8).toArray⟩)])) (ret_cell _ _ _ rfl rfl L4 (by kernel_rfl)) rfl ⟨?_,hB⟩
 exact rfl

set_option maxRecDepth 100000 in
set_option maxHeartbeats 1000000 in
theorem f5_neg {k:Nat} (a:Rat) (ha:Sz k a.num∧Sz k (a.den:Int)) (_hk:k≤19998) (w:World):
    Calls Tryz.prog 57 #[(.agg #[(.string ⟨(Lib.itoa (a.num):List UInt8).toArray⟩),(.string ⟨(Lib.itoa ((a.den:Int)):List UInt8).toArray⟩)])] w fun e w'=>e=.returned (.agg #[.string ⟨(Lib.itoa (-a).num).toArray⟩,.string ⟨(Lib.itoa ((-a).den:Int)).toArray⟩])∧Gr w w':=by
 go_enter Tryz.func57,Tryz.ntmps57
 have hB:=Gr.refl w
 refine wp_seq_k (fun K1 k1=>?_)
 refine rg [0,1] ?_
 refine se ?_
 refine eb 84 #[(.string ⟨(Lib.itoa (a.num):List UInt8).toArray⟩),(.string ⟨(Lib.itoa ((a.den:Int)):List UInt8).toArray⟩)] 1 hB fun b2 w2 g2 L2 o2 q2 hB=>?_
 simp only [p3,p4]
 refine se ?_
 refine ea 84 #[(.string ⟨([]:List UInt8).toArray⟩),(.string ⟨([]:List UInt8).toArray⟩)] 2 hB fun b3 w3 g3 L3 o3 q3 hB=>?_
 have ne2_3:=L2.ne o3
 simp only [p3,p4]
 refine sq_nil ?_
 refine k1 _ _ ?_
 try clear k1 K1
 refine wp_seq_k (fun K4 k4=>?_)
 have gd10:=Gr.drew w3
 replace hB:=hB.trans gd10
 replace L2:=L2.gr (g3.trans gd10)
 refine wp_region_ord (fun w'=>Lc w' b2 #[(.string ⟨(Lib.itoa (a.num):List UInt8).toArray⟩),(.string ⟨(Lib.itoa ((a.den:Int)):List UInt8).toArray⟩)] 84) [(true,0),(true,1),(true,3),(true,4),(false,2),(true,5),(false,6)] (by kernel_rfl) (by kernel_rfl) (by kernel_rfl) (by decide) (fun _ _ _ _ _ h=>h) L2 ?_
 refine ov 3 (.pointer (some ⟨b2,0,none⟩)) ?_
 refine ow 4 (.string ⟨(Lib.itoa (a.num):List UInt8).toArray⟩) rfl (fun w' hS=>(rk 9 0 hS)) ?_
 refine ov 6 (.pointer (some ⟨b2,1,none⟩)) ?_
 refine ow 7 (.string ⟨(Lib.itoa ((a.den:Int)):List UInt8).toArray⟩) rfl (fun w' hS=>(rk 9 1 hS)) ?_
 refine oe ?_
 refine ec 5 (r1_neg (a.num) ha.1 (by omega) _) ?_
 rintro e12 w12 ⟨rfl,g12⟩
 refine ⟨_,rfl,?_⟩
 replace hB:=hB.trans g12
 replace L2:=L2.gr g12
 refine ⟨L2,?_⟩
 simp only [p3,p4]
 refine ov 8 (.agg #[(.string ⟨(Lib.itoa (-a.num):List UInt8).toArray⟩),(.string ⟨(Lib.itoa ((a.den:Int)):List UInt8).toArray⟩)]) ?_
 refine oe ?_
 replace L3:=L3.gr (gd10.trans g12)
 refine es 84 0 (.agg #[(.string ⟨(Lib.itoa (-a.num):List UInt8).toArray⟩),(.string ⟨(Lib.itoa ((a.den:Int)):List UInt8).toArray⟩)]) [(.string ⟨(Lib.itoa (-a.num):List UInt8).toArray⟩),(.string ⟨(Lib.itoa ((a.den:Int)):List UInt8).toArray⟩)] #[(.string ⟨(Lib.itoa (-a.num):List UInt8).toArray⟩),(.string ⟨(Lib.itoa ((a.den:Int)):List UInt8).toArray⟩)] L3 hB q3 ⟨rfl,rfl,trivial⟩ fun w14 st14 kp14 L3 hB=>?_
 replace L2:=st14.lc L2 ne2_3
 refine ⟨L2,?_⟩
 refine ord_nil ?_
 refine k4 _ _ ?_
 try clear k4 K4
 refine wp_ret ?_
 refine bodyPost_ret (v:=(.agg #[(.string ⟨(Lib.itoa (-a.num):List UInt8).toArray⟩),(.string ⟨(Lib.itoa ((a.den:Int)):List UInt8).toArray⟩)])) (ret_cell _ _ _ rfl rfl L3 (by kernel_rfl)) rfl ⟨?_,hB⟩
 exact (by rw [Rat.neg_num,Rat.neg_den])

set_option maxRecDepth 100000 in
set_option maxHeartbeats 1000000 in
theorem f5_zero (a:Rat) (w:World):
    Calls Tryz.prog 55 #[(.agg #[(.string ⟨(Lib.itoa (a.num):List UInt8).toArray⟩),(.string ⟨(Lib.itoa ((a.den:Int)):List UInt8).toArray⟩)])] w fun e w'=>e=.returned (.bool (Lib.itoa a.num==([48]:List UInt8)))∧Gr w w':=by
 go_enter Tryz.func55,Tryz.ntmps55
 have hB:=Gr.refl w
 refine wp_seq_k (fun K1 k1=>?_)
 refine rg [0,1] ?_
 refine se ?_
 refine eb 84 #[(.string ⟨(Lib.itoa (a.num):List UInt8).toArray⟩),(.string ⟨(Lib.itoa ((a.den:Int)):List UInt8).toArray⟩)] 1 hB fun b2 w2 g2 L2 o2 q2 hB=>?_
 simp only [p3,p4]
 refine sv 2 (.bool false) ?_
 refine sq_nil ?_
 refine k1 _ _ ?_
 try clear k1 K1
 refine wp_seq_k (fun K3 k3=>?_)
 refine rg [0,1,2,3] ?_
 refine sv 3 (.pointer (some ⟨b2,0,none⟩)) ?_
 refine sw 4 (.string ⟨(Lib.itoa (a.num):List UInt8).toArray⟩) rfl (rk 9 0 L2) ?_
 refine sw 5 (.bool (((Lib.itoa (a.num))==([48]:List UInt8)))) rfl (rv_seq 9 9 _ _ (Lib.itoa (a.num)) ([48]) rfl rfl rfl) ?_
 refine sv 2 (.bool (((Lib.itoa (a.num))==([48]:List UInt8)))) ?_
 refine sq_nil ?_
 refine k3 _ _ ?_
 try clear k3 K3
 refine wp_ret ?_
 refine bodyPost_ret (v:=(.bool (((Lib.itoa (a.num))==([48]:List UInt8))))) (ret_tmp rfl rfl) rfl ⟨?_,hB⟩
 exact rfl

set_option maxRecDepth 100000 in
set_option maxHeartbeats 1000000 in
theorem f5_text_w {k:Nat} (a:Rat) (ha:Sz k a.num∧Sz k (a.den:Int)) (hw:a.den=1) (_hk:k≤19998) (w:World):
    Calls Tryz.prog 41 #[(.agg #[(.string ⟨(Lib.itoa (a.num):List UInt8).toArray⟩),(.string ⟨(Lib.itoa ((a.den:Int)):List UInt8).toArray⟩)])] w fun e w'=>e=.returned (.string ⟨(ratL a).toArray⟩)∧Gr w w':=by
 have hb:(Lib.itoa (a.den:Int)==([49]:List UInt8))=true:=by rw [hw];decide+kernel
 have hl1:=itoa_len ha.1
 have hl2:=itoa_len ha.2
 go_enter Tryz.func41,Tryz.ntmps41
 have hB:=Gr.refl w
 refine wp_seq_k (fun K1 k1=>?_)
 refine rg [0,1] ?_
 refine se ?_
 refine eb 84 #[(.string ⟨(Lib.itoa (a.num):List UInt8).toArray⟩),(.string ⟨(Lib.itoa ((a.den:Int)):List UInt8).toArray⟩)] 1 hB fun b2 w2 g2 L2 o2 q2 hB=>?_
 simp only [p3,p4]
 refine sv 2 (.string ⟨([]:List UInt8).toArray⟩) ?_
 refine sq_nil ?_
 refine k1 _ _ ?_
 try clear k1 K1
 refine wp_seq_k (fun K3 k3=>?_)
 refine wp_seq_k (fun K4 k4=>?_)
 refine rg [0,1,2] ?_
 refine sv 3 (.pointer (some ⟨b2,1,none⟩)) ?_
 refine sw 4 (.string ⟨(Lib.itoa ((a.den:Int)):List UInt8).toArray⟩) rfl (rk 9 1 L2) ?_
 refine sw 5 (.bool true) rfl (RunV.bool (x:=((Lib.itoa ((a.den:Int)))==([49]:List UInt8))) (rv_seq 9 9 _ _ (Lib.itoa ((a.den:Int))) ([49]) rfl rfl rfl) hb) ?_
 refine sq_nil ?_
 refine k4 _ _ ?_
 try clear k4 K4
 refine wp_cond_true rfl ?_
 refine wp_seq_k (fun K5 k5=>?_)
 refine rg [0,1,2] ?_
 refine sv 6 (.pointer (some ⟨b2,0,none⟩)) ?_
 refine sw 7 (.string ⟨(Lib.itoa (a.num):List UInt8).toArray⟩) rfl (rk 9 0 L2) ?_
 refine sv 2 (.string ⟨(Lib.itoa (a.num):List UInt8).toArray⟩) ?_
 refine sq_nil ?_
 refine k5 _ _ ?_
 try clear k5 K5
 refine wp_ret ?_
 simp only [Exit.then]
 refine bodyPost_ret (v:=(.string ⟨(Lib.itoa (a.num):List UInt8).toArray⟩)) (ret_tmp rfl rfl) rfl ⟨?_,hB⟩
 exact (by rw [ratL_w hw])

set_option maxRecDepth 100000 in
set_option maxHeartbeats 1000000 in
theorem f5_text_f {k:Nat} (a:Rat) (ha:Sz k a.num∧Sz k (a.den:Int)) (hw:¬ a.den=1) (_hk:k≤19998) (w:World):
    Calls Tryz.prog 41 #[(.agg #[(.string ⟨(Lib.itoa (a.num):List UInt8).toArray⟩),(.string ⟨(Lib.itoa ((a.den:Int)):List UInt8).toArray⟩)])] w fun e w'=>e=.returned (.string ⟨(ratL a).toArray⟩)∧Gr w w':=by
 have hb:(Lib.itoa (a.den:Int)==([49]:List UInt8))=false:=by rw [beq_eq_false_iff_ne];intro e;rw [← itoa_one] at e;have:=itoa_inj e;omega
 have hl1:=itoa_len ha.1
 have hl2:=itoa_len ha.2
 go_enter Tryz.func41,Tryz.ntmps41
 have hB:=Gr.refl w
 refine wp_seq_k (fun K1 k1=>?_)
 refine rg [0,1] ?_
 refine se ?_
 refine eb 84 #[(.string ⟨(Lib.itoa (a.num):List UInt8).toArray⟩),(.string ⟨(Lib.itoa ((a.den:Int)):List UInt8).toArray⟩)] 1 hB fun b2 w2 g2 L2 o2 q2 hB=>?_
 simp only [p3,p4]
 refine sv 2 (.string ⟨([]:List UInt8).toArray⟩) ?_
 refine sq_nil ?_
 refine k1 _ _ ?_
 try clear k1 K1
 refine wp_seq_k (fun K3 k3=>?_)
 refine wp_seq_k (fun K4 k4=>?_)
 refine rg [0,1,2] ?_
 refine sv 3 (.pointer (some ⟨b2,1,none⟩)) ?_
 refine sw 4 (.string ⟨(Lib.itoa ((a.den:Int)):List UInt8).toArray⟩) rfl (rk 9 1 L2) ?_
 refine sw 5 (.bool false) rfl (RunV.bool (x:=((Lib.itoa ((a.den:Int)))==([49]:List UInt8))) (rv_seq 9 9 _ _ (Lib.itoa ((a.den:Int))) ([49]) rfl rfl rfl) hb) ?_
 refine sq_nil ?_
 refine k4 _ _ ?_
 try clear k4 K4
 refine wp_cond_false rfl ?_
 refine wp_skip ?_
 refine k3 _ _ ?_
 try clear k3 K3
 refine wp_seq_k (fun K5 k5=>?_)
 refine rg [0,1,2,3,4,5,6] ?_
 refine sv 8 (.pointer (some ⟨b2,0,none⟩)) ?_
 refine sw 9 (.string ⟨(Lib.itoa (a.num):List UInt8).toArray⟩) rfl (rk 9 0 L2) ?_
 refine sw 10 (.string ⟨((Lib.itoa (a.num))++([47]):List UInt8).toArray⟩) rfl (rv_cat 9 9 _ _ (Lib.itoa (a.num)) ([47]) rfl rfl rfl (by simp only [List.length_cons,List.length_nil];omega)) ?_
 refine sv 11 (.pointer (some ⟨b2,1,none⟩)) ?_
 refine sw 12 (.string ⟨(Lib.itoa ((a.den:Int)):List UInt8).toArray⟩) rfl (rk 9 1 L2) ?_
 refine sw 13 (.string ⟨(((Lib.itoa (a.num))++([47]))++(Lib.itoa ((a.den:Int))):List UInt8).toArray⟩) rfl (rv_cat 9 9 _ _ ((Lib.itoa (a.num))++([47])) (Lib.itoa ((a.den:Int))) rfl rfl rfl (by simp only [List.length_append,List.length_cons,List.length_nil];omega)) ?_
 refine sv 2 (.string ⟨(((Lib.itoa (a.num))++([47]))++(Lib.itoa ((a.den:Int))):List UInt8).toArray⟩) ?_
 refine sq_nil ?_
 refine k5 _ _ ?_
 try clear k5 K5
 refine wp_ret ?_
 refine bodyPost_ret (v:=(.string ⟨(((Lib.itoa (a.num))++([47]))++(Lib.itoa ((a.den:Int))):List UInt8).toArray⟩)) (ret_tmp rfl rfl) rfl ⟨?_,hB⟩
 exact (by rw [ratL_f hw])

theorem f5_text {k:Nat} (a:Rat) (ha:Sz k a.num∧Sz k (a.den:Int)) (hk:k≤19998) (w:World):
    Calls Tryz.prog 41 #[(.agg #[(.string ⟨(Lib.itoa (a.num):List UInt8).toArray⟩),(.string ⟨(Lib.itoa ((a.den:Int)):List UInt8).toArray⟩)])] w fun e w'=>e=.returned (.string ⟨(ratL a).toArray⟩)∧Gr w w':=by
  by_cases hw:a.den=1
  · exact f5_text_w a ha hw hk w
  · exact f5_text_f a ha hw hk w

set_option maxRecDepth 100000 in
set_option maxHeartbeats 1000000 in
theorem f5_of (n d:Int) (hn:Sz 64 n) (hd:Sz 64 d) (_h0:0<d) (_b1:-9223372036854775808≤n∧n≤9223372036854775807) (b2:d≤9223372036854775807) (w:World):
    Calls Tryz.prog 64 #[(.int .i64 (n)),(.int .i64 (d))] w fun e w'=>e=.returned (.agg #[.string ⟨(Lib.itoa (((n:Int):Rat)/((d:Int):Rat)).num).toArray⟩,.string ⟨(Lib.itoa ((((n:Int):Rat)/((d:Int):Rat)).den:Int)).toArray⟩])∧Gr w w':=by
 go_enter Tryz.func64,Tryz.ntmps64
 have hB:=Gr.refl w
 refine wp_seq_k (fun K1 k1=>?_)
 refine rg [0] ?_
 refine se ?_
 refine ea 84 #[(.string ⟨([]:List UInt8).toArray⟩),(.string ⟨([]:List UInt8).toArray⟩)] 4 hB fun b2 w2 g2 L2 o2 q2 hB=>?_
 simp only [p3,p4]
 refine sq_nil ?_
 refine k1 _ _ ?_
 try clear k1 K1
 refine wp_seq_k (fun K3 k3=>?_)
 refine rg [0,1,2,3,4,5] ?_
 refine sv 5 (.int .i64 (n)) ?_
 refine se ?_
 refine ec 6 (r1_from (n) (by omega) (by omega) _) ?_
 rintro e4 w4 ⟨rfl,g4⟩
 refine ⟨_,rfl,?_⟩
 replace hB:=hB.trans g4
 simp only [p3,p4]
 refine sv 7 (.int .i64 (d)) ?_
 refine se ?_
 refine ec 8 (r1_from (d) (by omega) (by omega) _) ?_
 rintro e5 w5 ⟨rfl,g5⟩
 refine ⟨_,rfl,?_⟩
 replace hB:=hB.trans g5
 simp only [p3,p4]
 refine se ?_
 refine ec 9 (f5_make (n) (d) (((n:Int):Rat)/((d:Int):Rat)) (Rat.divInt_eq_div n d) hn hd (by omega) (by decide) _) ?_
 rintro e6 w6 ⟨rfl,g6⟩
 refine ⟨_,rfl,?_⟩
 replace hB:=hB.trans g6
 simp only [p3,p4]
 refine se ?_
 replace L2:=L2.gr (g4.trans (g5.trans g6))
 refine es 84 0 (.agg #[(.string ⟨(Lib.itoa ((((n:Int):Rat)/((d:Int):Rat)).num):List UInt8).toArray⟩),(.string ⟨(Lib.itoa (((((n:Int):Rat)/((d:Int):Rat)).den:Int)):List UInt8).toArray⟩)]) [(.string ⟨(Lib.itoa ((((n:Int):Rat)/((d:Int):Rat)).num):List UInt8).toArray⟩),(.string ⟨(Lib.itoa (((((n:Int):Rat)/((d:Int):Rat)).den:Int)):List UInt8).toArray⟩)] #[(.string ⟨(Lib.itoa ((((n:Int):Rat)/((d:Int):Rat)).num):List UInt8).toArray⟩),(.string ⟨(Lib.itoa (((((n:Int):Rat)/((d:Int):Rat)).den:Int)):List UInt8).toArray⟩)] L2 hB q2 ⟨rfl,rfl,trivial⟩ fun w7 st7 kp7 L2 hB=>?_
 refine sq_nil ?_
 refine k3 _ _ ?_
 try clear k3 K3
 refine wp_ret ?_
 refine bodyPost_ret (v:=(.agg #[(.string ⟨(Lib.itoa ((((n:Int):Rat)/((d:Int):Rat)).num):List UInt8).toArray⟩),(.string ⟨(Lib.itoa (((((n:Int):Rat)/((d:Int):Rat)).den:Int)):List UInt8).toArray⟩)])) (ret_cell _ _ _ rfl rfl L2 (by kernel_rfl)) rfl ⟨?_,hB⟩
 exact rfl

set_option maxRecDepth 100000 in
set_option maxHeartbeats 1000000 in
theorem cl_rat_n {K:Nat} {N cx:Nat} {F:Nat→Rat} (_hN:N≤1000) {w:World} (hs:Sl (ERat K) 71 4 w (.slice none N cx) (tb F N)):
    Calls Tryz.prog 54 #[(.slice none N cx)] w fun e w'=>(∃ u,e=.returned u∧Ow (ERat K) 71 4 w' w.heap.size u (tb F N))∧Gr w w':=by
 go_enter Tryz.func54,Tryz.ntmps54
 have hB:=Gr.refl w
 refine wp_seq_k (fun K10 k10=>?_)
 refine rg [0] ?_
 refine sv 2 (.slice none 0 0) ?_
 refine sq_nil ?_
 refine k10 _ _ ?_
 try clear k10 K10
 refine wp_seq_k (fun K11 k11=>?_)
 refine wp_seq_k (fun K12 k12=>?_)
 refine rg [0,1] ?_
 refine sv 3 (.slice none N cx) ?_
 refine sv 4 (.bool true) ?_
 refine sq_nil ?_
 refine k12 _ _ ?_
 try clear k12 K12
 refine wp_cond_true rfl ?_
 refine wp_seq_k (fun K13 k13=>?_)
 refine rg [0] ?_
 refine sv 2 (.slice none 0 0) ?_
 refine sq_nil ?_
 refine k13 _ _ ?_
 try clear k13 K13
 refine wp_ret ?_
 simp only [Exit.then]
 refine bodyPost_ret (v:=(.slice none 0 0)) (ret_tmp rfl rfl) rfl ⟨?_,hB⟩
 exact ⟨_,rfl,clone_none (hs.gr (stab_rat K) hB)⟩

set_option maxRecDepth 100000 in
set_option maxHeartbeats 1000000 in
theorem cl_rat_s {K:Nat} {N cx:Nat} {ad:Addr} {F:Nat→Rat} (_hN:N≤1000) {w:World} (hs:Sl (ERat K) 71 4 w (.slice (some ad) N cx) (tb F N)):
    Calls Tryz.prog 54 #[(.slice (some ad) N cx)] w fun e w'=>(∃ u,e=.returned u∧Ow (ERat K) 71 4 w' w.heap.size u (tb F N))∧Gr w w':=by
 go_enter Tryz.func54,Tryz.ntmps54
 have hB:=Gr.refl w
 refine wp_seq_k (fun K10 k10=>?_)
 refine rg [0] ?_
 refine sv 2 (.slice none 0 0) ?_
 refine sq_nil ?_
 refine k10 _ _ ?_
 try clear k10 K10
 refine wp_seq_k (fun K11 k11=>?_)
 refine wp_seq_k (fun K12 k12=>?_)
 refine rg [0,1] ?_
 refine sv 3 (.slice (some ad) N cx) ?_
 refine sv 4 (.bool false) ?_
 refine sq_nil ?_
 refine k12 _ _ ?_
 try clear k12 K12
 refine wp_cond_false rfl ?_
 refine wp_skip ?_
 refine k11 _ _ ?_
 try clear k11 K11
 refine wp_seq_k (fun K13 k13=>?_)
 refine rg [0,1,2,3] ?_
 refine se ?_
 refine eff_bs 71 0 #[] (some 5) rfl (fun _=>by kernel_rfl) (fun b14 w14 g14 L14 q14=>?_)
 replace q14:=Nat.le_trans (Below.size hB) q14
 replace hB:=hB.trans g14
 simp only [putl,p3,p4]
 refine sv 6 (.slice (some ad) N cx) ?_
 refine se ?_
 refine eff_aps (stab_rat K) _ _ 49 71 w.heap.size 71 (.agg #[(.bool false),(.slice none 0 0),(.bool false),(.slice none 0 0)]) (.slice (some ⟨b14,0,none⟩) 0 0) ([]:List Rat) (.slice (some ad) N cx) (tb F N) 4 (some 7) 64 rfl rfl rfl rfl (ow_empty (E:=(ERat K)) (c:=4) (B:=w.heap.size) L14 q14) (hs.gr (stab_rat K) hB) (one_rat _) (Below.size hB) (by simp only [List.length_nil,tb_len];omega) (by decide) (by kernel_rfl) (by kernel_rfl) (by decide) (by decide) (fun v15 w15 ow15 wt15 hg15 ag15=>?_)
 replace hB:=hg15 _ hB (Nat.le_refl _)
 replace ow15:=ow15.cast (List.nil_append _)
 simp only [putl,p3,p4]
 refine sv 2 v15 ?_
 refine sq_nil ?_
 refine k13 _ _ ?_
 try clear k13 K13
 refine wp_ret ?_
 refine bodyPost_ret (v:=v15) (ret_tmp rfl rfl) rfl ⟨?_,hB⟩
 exact ⟨_,rfl,ow15⟩

theorem cl_rat {K:Nat} {N:Nat} {v:Value} {F:Nat→Rat} (hN:N≤1000) {w:World} (h:Sl (ERat K) 71 4 w v (tb F N)):
    Calls Tryz.prog 54 #[v] w fun e w'=>(∃ u,e=.returned u∧Ow (ERat K) 71 4 w' w.heap.size u (tb F N))∧Gr w w':=by
  obtain ⟨ao,cap,hv,_⟩:=h.form
  rw [tb_len] at hv
  subst hv
  cases ao with
  | none=>exact cl_rat_n hN h
  | some ad=>exact cl_rat_s hN h
set_option maxRecDepth 100000 in
set_option maxHeartbeats 1000000 in
theorem cl_rows_n {K:Nat} {pp:Nat→Prop} {N cx:Nat} {F:Nat→(List Rat)} (_hN:N≤1000) {w:World} (hs:Sl (ERp pp (ERat K) 71 4) 49 1 w (.slice none N cx) (tb F N)):
    Calls Tryz.prog 88 #[(.slice none N cx)] w fun e w'=>(∃ u,e=.returned u∧Ow (ERp pp (ERat K) 71 4) 49 1 w' w.heap.size u (tb F N))∧Gr w w':=by
 go_enter Tryz.func88,Tryz.ntmps88
 have hB:=Gr.refl w
 refine wp_seq_k (fun K10 k10=>?_)
 refine rg [0] ?_
 refine sv 2 (.slice none 0 0) ?_
 refine sq_nil ?_
 refine k10 _ _ ?_
 try clear k10 K10
 refine wp_seq_k (fun K11 k11=>?_)
 refine wp_seq_k (fun K12 k12=>?_)
 refine rg [0,1] ?_
 refine sv 3 (.slice none N cx) ?_
 refine sv 4 (.bool true) ?_
 refine sq_nil ?_
 refine k12 _ _ ?_
 try clear k12 K12
 refine wp_cond_true rfl ?_
 refine wp_seq_k (fun K13 k13=>?_)
 refine rg [0] ?_
 refine sv 2 (.slice none 0 0) ?_
 refine sq_nil ?_
 refine k13 _ _ ?_
 try clear k13 K13
 refine wp_ret ?_
 simp only [Exit.then]
 refine bodyPost_ret (v:=(.slice none 0 0)) (ret_tmp rfl rfl) rfl ⟨?_,hB⟩
 exact ⟨_,rfl,clone_none (hs.gr (stab_rp (stab_rat K) 71 4) hB)⟩

set_option maxRecDepth 100000 in
set_option maxHeartbeats 1000000 in
theorem cl_rows_s {K:Nat} {pp:Nat→Prop} {N cx:Nat} {ad:Addr} {F:Nat→(List Rat)} (_hN:N≤1000) {w:World} (hs:Sl (ERp pp (ERat K) 71 4) 49 1 w (.slice (some ad) N cx) (tb F N)):
    Calls Tryz.prog 88 #[(.slice (some ad) N cx)] w fun e w'=>(∃ u,e=.returned u∧Ow (ERp pp (ERat K) 71 4) 49 1 w' w.heap.size u (tb F N))∧Gr w w':=by
 go_enter Tryz.func88,Tryz.ntmps88
 have hB:=Gr.refl w
 refine wp_seq_k (fun K10 k10=>?_)
 refine rg [0] ?_
 refine sv 2 (.slice none 0 0) ?_
 refine sq_nil ?_
 refine k10 _ _ ?_
 try clear k10 K10
 refine wp_seq_k (fun K11 k11=>?_)
 refine wp_seq_k (fun K12 k12=>?_)
 refine rg [0,1] ?_
 refine sv 3 (.slice (some ad) N cx) ?_
 refine sv 4 (.bool false) ?_
 refine sq_nil ?_
 refine k12 _ _ ?_
 try clear k12 K12
 refine wp_cond_false rfl ?_
 refine wp_skip ?_
 refine k11 _ _ ?_
 try clear k11 K11
 refine wp_seq_k (fun K13 k13=>?_)
 refine rg [0,1,2,3] ?_
 refine se ?_
 refine eff_bs 49 0 #[] (some 5) rfl (fun _=>by kernel_rfl) (fun b14 w14 g14 L14 q14=>?_)
 replace q14:=Nat.le_trans (Below.size hB) q14
 replace hB:=hB.trans g14
 simp only [putl,p3,p4]
 refine sv 6 (.slice (some ad) N cx) ?_
 refine se ?_
 refine eff_aps (stab_rp (stab_rat K) 71 4) _ _ 29 49 w.heap.size 49 (.slice none 0 0) (.slice (some ⟨b14,0,none⟩) 0 0) ([]:List (List Rat)) (.slice (some ad) N cx) (tb F N) 1 (some 7) 24 rfl rfl rfl rfl (ow_empty (E:=(ERp pp (ERat K) 71 4)) (c:=1) (B:=w.heap.size) L14 q14) (hs.gr (stab_rp (stab_rat K) 71 4) hB) (one_rp _) (Below.size hB) (by simp only [List.length_nil,tb_len];omega) (by decide) (by kernel_rfl) (by kernel_rfl) (by decide) (by decide) (fun v15 w15 ow15 wt15 hg15 ag15=>?_)
 replace hB:=hg15 _ hB (Nat.le_refl _)
 replace ow15:=ow15.cast (List.nil_append _)
 simp only [putl,p3,p4]
 refine sv 2 v15 ?_
 refine sq_nil ?_
 refine k13 _ _ ?_
 try clear k13 K13
 refine wp_ret ?_
 refine bodyPost_ret (v:=v15) (ret_tmp rfl rfl) rfl ⟨?_,hB⟩
 exact ⟨_,rfl,ow15⟩

theorem cl_rows {K:Nat} {pp:Nat→Prop} {N:Nat} {v:Value} {F:Nat→(List Rat)} (hN:N≤1000) {w:World} (h:Sl (ERp pp (ERat K) 71 4) 49 1 w v (tb F N)):
    Calls Tryz.prog 88 #[v] w fun e w'=>(∃ u,e=.returned u∧Ow (ERp pp (ERat K) 71 4) 49 1 w' w.heap.size u (tb F N))∧Gr w w':=by
  obtain ⟨ao,cap,hv,_⟩:=h.form
  rw [tb_len] at hv
  subst hv
  cases ao with
  | none=>exact cl_rows_n hN h
  | some ad=>exact cl_rows_s hN h
set_option maxRecDepth 100000 in
set_option maxHeartbeats 1000000 in
theorem sl_index {N:Nat} {v:Value} {P:Nat→Int} {z:Int} (_hN:N≤1000) {w:World} (hs:Sl EI64 3 1 w v (tb (fun z1=>(P z1)) N)):
    Calls Tryz.prog 95 #[v,(.int .i64 (z))] w fun e w'=>(∃ r:Int,e=.returned (.int .i64 r)∧decide ((0:Int)≤r)=hasI P N z)∧Gr w w':=by
 go_enter Tryz.func95,Tryz.ntmps95
 have hB:=Gr.refl w
 refine wp_seq_k (fun K10 k10=>?_)
 refine rg [0] ?_
 refine sv 4 (.int .i64 0) ?_
 refine sq_nil ?_
 refine k10 _ _ ?_
 try clear k10 K10
 refine wp_seq_k (fun K11 k11=>?_)
 refine wp_seq_k (fun K12 k12=>?_)
 refine rg [0,1,2] ?_
 refine sv 6 v ?_
 refine sw 7 (.int .i64 ((N:Int))) rfl (rv_lenn (e:=3) hs (tb_lenz rfl) _ _ rfl rfl (by kernel_rfl)) ?_
 refine sv 8 (.int .i64 0) ?_
 refine sq_nil ?_
 refine k12 _ _ ?_
 try clear k12 K12
 refine wp_block ?_
 refine wp_loop_inv (a:=⟨List.toArray ?l13,[]⟩) (fun n a w'=>∃ (k:Nat) (u13:Nat→Value),N - k=n∧a=⟨[v,(.int .i64 (z)),undef,undef,(u13 4),(u13 5),(u13 6),(.int .i64 ((N:Int))),(.int .i64 ((k:Int))),(u13 9),(u13 10),(u13 11),(u13 12),(u13 13),(u13 14),(u13 15),(u13 16),(u13 17),(u13 18)].toArray,[]⟩∧k≤N∧(∀ j,j<k→¬ P j=z)∧Gr w w') (N - 0) ?_ ?_
 ·exact ⟨0,(fun i=>List.getD ?l13 i undef),rfl,rfl,(Nat.zero_le _),(fun j h=>absurd h (Nat.not_lt_zero j)),hB⟩
 rintro n13 a13 w13 ⟨k,u13,rfl,rfl,hkk,hall,hB⟩ K13 k13
 refine wp_seq_k (fun K14 k14=>?_)
 refine rg [0] ?_
 refine sv 9 (.bool (decide ((k:Int)<(N:Int)))) ?_
 refine sq_nil ?_
 refine k14 _ _ ?_
 try clear k14 K14
 refine wp_seq_k (fun K15 k15=>?_)
 refine wp_cond_split (t:=decide ((k:Int)<(N:Int))) rfl (fun hb16=>?_) (fun hb16=>?_)
 ·have hlk:k<N:=by have:=of_decide_eq_true hb16;omega
  refine wp_skip ?_
  refine k15 _ _ ?_
  try clear k15 K15
  refine wp_seq_k (fun K17 k17=>?_)
  refine wp_block ?_
  refine wp_seq_k (fun K18 k18=>?_)
  refine rg [0,1] ?_
  refine sv 10 (.int .i64 ((k:Int))) ?_
  refine sv 5 (.int .i64 ((k:Int))) ?_
  refine sq_nil ?_
  refine k18 _ _ ?_
  try clear k18 K18
  refine wp_seq_k (fun K19 k19=>?_)
  refine rg [0,1,2,3,4,5] ?_
  refine sv 11 (.int .i64 (z)) ?_
  refine sv 12 v ?_
  refine sv 13 (.int .i64 ((k:Int))) ?_
  refine sw 14 (adr v (k*1)) rfl (rv_idxn (e:=3) hs tb_len (by decide) k (by omega) _ _ _ rfl rfl rfl (by kernel_rfl) (by kernel_rfl)) ?_
  obtain ⟨_,_,rfl,at20⟩:=Sl.get hs (by decide) (tb_get (f:=(fun z1=>(P z1))) (n:=N) (i:=k) (by omega))
  refine sw 15 (.int .i64 ((P k))) rfl (rv_ld1 (.int .i64 ((P k))) (at20.gr hB) _ _ rfl rfl (by kernel_rfl)) ?_
  refine sv 16 (.bool ((z==(P k)))) ?_
  refine sq_nil ?_
  refine k19 _ _ ?_
  try clear k19 K19
  refine wp_cond_split (t:=(z==(P k))) rfl (fun hb21=>?_) (fun hb21=>?_)
  ·have hxk:z=P k:=by have:=hb21;simpa using this
   refine wp_seq_k (fun K22 k22=>?_)
   refine rg [0,1] ?_
   refine sv 17 (.int .i64 ((k:Int))) ?_
   refine sv 4 (.int .i64 ((k:Int))) ?_
   refine sq_nil ?_
   refine k22 _ _ ?_
   try clear k22 K22
   refine wp_ret ?_
   simp only [Exit.then,Exit.inBlock]
   refine bodyPost_ret (v:=(.int .i64 ((k:Int)))) (ret_tmp rfl rfl) rfl ⟨?_,hB⟩
   exact ⟨_,rfl,hasI_yes hlk hxk⟩
  ·have hxk:¬ z=P k:=by have:=hb21;simpa using this
   refine wp_skip ?_
   refine k17 _ _ ?_
   try clear k17 K17
   refine rg [0,1] ?_
   refine sw 18 (.int .i64 (((k:Int)+1))) rfl (RunV.int (x:=IntKind.i64.wrap (((k:Int)+1))) (y:=((k:Int)+1)) (rvk (by kernel_rfl)) (by first | rfl | (rw [IntKind.wrap_i64];omega))) ?_
   refine sv 8 (.int .i64 (((k:Int)+1))) ?_
   refine sq_nil ?_
   refine k13 (N - (k+1)) ⟨List.toArray ?l23,[]⟩ _ (by omega) ?_
   exact ⟨k+1,(fun i=>List.getD ?l23 i undef),rfl,rfl,(by omega),(hall_succ hall hxk),hB⟩
 ·have hek:N=k:=by have:=of_decide_eq_false hb16;omega
  subst hek
  refine wp_exit ?_
  simp only [Exit.then,Exit.inBlock,↓reduceIte]
  refine k11 _ _ ?_
  try clear k11 K11
  refine wp_seq_k (fun K24 k24=>?_)
  refine rg [0] ?_
  refine sv 4 (.int .i64 (-1)) ?_
  refine sq_nil ?_
  refine k24 _ _ ?_
  try clear k24 K24
  refine wp_ret ?_
  refine bodyPost_ret (v:=(.int .i64 (-1))) (ret_tmp rfl rfl) rfl ⟨?_,hB⟩
  exact ⟨_,rfl,hasI_no hall⟩

set_option maxRecDepth 100000 in
set_option maxHeartbeats 1000000 in
theorem sl_contains {N:Nat} {v:Value} {P:Nat→Int} {z:Int} (hN:N≤1000) {w:World} (hs:Sl EI64 3 1 w v (tb (fun z1=>(P z1)) N)):
    Calls Tryz.prog 60 #[v,(.int .i64 (z))] w fun e w'=>e=.returned (.bool (hasI P N z))∧Gr w w':=by
 go_enter Tryz.func60,Tryz.ntmps60
 have hB:=Gr.refl w
 refine wp_seq_k (fun K10 k10=>?_)
 refine rg [0] ?_
 refine sv 4 (.bool false) ?_
 refine sq_nil ?_
 refine k10 _ _ ?_
 try clear k10 K10
 refine wp_seq_k (fun K11 k11=>?_)
 refine rg [0,1,2,3,4] ?_
 refine sv 5 v ?_
 refine sv 6 (.int .i64 (z)) ?_
 refine se ?_
 refine ec 7 (sl_index (z:=z) hN (hs.gr stab_i64 hB)) ?_
 rintro e12 w12 ⟨⟨r12,rfl,hr12⟩,g12⟩
 refine ⟨_,rfl,?_⟩
 replace hB:=hB.trans g12
 simp only [p3,p4]
 refine sv 8 (.bool (decide ((0:Int)≤r12))) ?_
 refine sv 4 (.bool (decide ((0:Int)≤r12))) ?_
 refine sq_nil ?_
 refine k11 _ _ ?_
 try clear k11 K11
 refine wp_ret ?_
 refine bodyPost_ret (v:=(.bool (decide ((0:Int)≤r12)))) (ret_tmp rfl rfl) rfl ⟨?_,hB⟩
 exact (by rw [hr12])

end Go.Proofs.YtepgkcimmdmgcaaGreatDoor
namespace Go.Proofs.YtepgkcimmdmgcaaGreatDoor
/-- behind k columns -/
def rs (R:Nat) (m:Mx_) (k:Nat):Rd:=redR R k ⟨m,[],1⟩
abbrev pl (R:Nat) (m:Mx_) (k:Nat):Nat:=(rs R m k).p.length
theorem rs_succ (R:Nat) (m:Mx_) (k:Nat):rs R m (k+1)=stepR R k (rs R m k):=rfl
/-- row i is the next pivot's -/
def Fd (R:Nat) (m:Mx_) (k i:Nat):Prop:=fnd (rs R m k).m k (R - (pl R m k)) (pl R m k)=some i
def aa (R:Nat) (m:Mx_) (k i:Nat):Mx_:=swp (rs R m k).m i (pl R m k)
def dd (R:Nat) (m:Mx_) (k i:Nat):Rat:=if i=(pl R m k) then (rs R m k).d else -(rs R m k).d
/-- the rows before j are done -/
def md (R:Nat) (m:Mx_) (k i j:Nat):Mx_:=fun t=>if t<j then (rs R m (k+1)).m t else scl (aa R m k i) (pl R m k) (1/aa R m k i (pl R m k) k) t
section
variable {R N k i:Nat} {m:Mx_}
theorem fd_of (h1:(pl R m k)≤i) (h2:i<R) (h3:(rs R m k).m i k≠0) (h4:∀ t,(pl R m k)≤t→t<i→(rs R m k).m t k=0):Fd R m k i:=by
  unfold Fd
  cases h:fnd (rs R m k).m k (R - (pl R m k)) (pl R m k) with
  | none=>exact absurd (fnd_none h i h1 (by omega)) h3
  | some j=>
    obtain ⟨a1,a2,a3,a4⟩:=fnd_some h
    rcases Nat.lt_trichotomy i j with hl | he | hg
    · exact absurd (a4 i h1 hl) h3
    · rw [he]
    · exact absurd (h4 j a1 hg) a3
theorem rs_none (h:∀ t,(pl R m k)≤t→t<R→(rs R m k).m t k=0):rs R m (k+1)=rs R m k:=step_no h
theorem Fd.step (h:Fd R m k i):rs R m (k+1)=⟨clr (scl (aa R m k i) (pl R m k) (1/aa R m k i (pl R m k) k)) (pl R m k) (fun j=>aa R m k i j k),(rs R m k).p++[k],dd R m k i*aa R m k i (pl R m k) k⟩:=by
  rw [rs_succ]
  unfold stepR
  rw [show fnd (rs R m k).m k (R - (pl R m k)) (pl R m k)=some i from h]
  rfl
theorem Fd.mm (h:Fd R m k i):(rs R m (k+1)).m=clr (scl (aa R m k i) (pl R m k) (1/aa R m k i (pl R m k) k)) (pl R m k) (fun j=>aa R m k i j k):=by rw [h.step]
theorem clr_r (a:Mx_) (r:Nat) (c:Nat→Rat) (k:Nat):clr a r c r k=a r k:=if_pos rfl
theorem clr_j (a:Mx_) {r j:Nat} (c:Nat→Rat) (k:Nat) (h:j≠r):clr a r c j k=a j k - c j*a r k:=if_neg h
theorem scl_r (a:Mx_) (r:Nat) (c:Rat) (k:Nat):scl a r c r k=a r k*c:=if_pos rfl
theorem scl_j (a:Mx_) {r j:Nat} (c:Rat) (k:Nat) (h:j≠r):scl a r c j k=a j k:=if_neg h
theorem Fd.lt (h:Fd R m k i):(pl R m k)≤i∧i<R:=by
  obtain ⟨a1,a2,_⟩:=fnd_some h
  omega
theorem Fd.ne (h:Fd R m k i):aa R m k i (pl R m k) k≠0:=by
  obtain ⟨a1,a2,a3,_⟩:=fnd_some h
  unfold aa swp
  by_cases e:(pl R m k)=i
  · rw [if_pos e,e];exact a3
  · rw [if_neg e,if_pos rfl];exact a3
theorem Fd.num (h:Fd R m k i):(aa R m k i (pl R m k) k).num≠0:=num_ne h.ne
theorem Fd.len (h:Fd R m k i):(rs R m (k+1)).p.length=(pl R m k)+1:=by rw [h.step];simp
theorem Fd.det (h:Fd R m k i):dd R m k i*aa R m k i (pl R m k) k=(rs R m (k+1)).d:=by rw [h.step]
theorem rs_len (R:Nat) (m:Mx_) (k:Nat):(pl R m k)≤R:=(red_inv R m 1 k).len
theorem rs_full {n:Nat} (h:¬ (pl R m k)<R) (hk:k≤n):rs R m n=rs R m k:=by
  have:=red_full (R:=R) (s:=⟨m,[],1⟩) (K:=k) (by have:=rs_len R m k;show (pl R m k)=R;omega) (n - k)
  rw [show k+(n - k)=n by omega] at this
  exact this
theorem aa_same (h:i=(pl R m k)):aa R m k i=(rs R m k).m:=by
  unfold aa swp
  funext j c
  rw [h]
  split
  · next e=>rw [e]
  · rfl
theorem dd_same (h:i=(pl R m k)):(rs R m k).d=dd R m k i:=by unfold dd;rw [if_pos h]
theorem dd_neg (h:¬ i=(pl R m k)):-(rs R m k).d=dd R m k i:=by unfold dd;rw [if_neg h]
theorem rows_same (h:i=(pl R m k)):tb (fun t=>tb (fun c=>(rs R m k).m t c) N) R=tb (fun t=>tb (fun c=>aa R m k i t c) N) R:=by rw [aa_same h]
theorem rows_swp (h:¬ i=(pl R m k)):tb (fun t=>if t=(pl R m k) then tb (fun c=>(rs R m k).m i c) N else if t=i then tb (fun c=>(rs R m k).m (pl R m k) c) N else tb (fun c=>(rs R m k).m t c) N) R=tb (fun t=>tb (fun c=>aa R m k i t c) N) R:=by
  refine tb_congr fun t _=>?_
  unfold aa swp
  by_cases h1:t=i
  · rw [if_neg (show ¬ t=_ from fun e=>h (h1.symm.trans e)),if_pos h1];simp only [if_pos h1]
  · simp only [if_neg h1]
    by_cases h2:t=(pl R m k)
    · simp only [if_pos h2]
    · simp only [if_neg h2]
theorem rows_over:tb (fun t=>if t=(pl R m k) then tb (fun c=>aa R m k i (pl R m k) c*(1/aa R m k i (pl R m k) k)) N else tb (fun c=>aa R m k i t c) N) R=tb (fun t=>tb (fun c=>md R m k i 0 t c) N) R:=by
  refine tb_congr fun t _=>?_
  unfold md scl
  simp only [Nat.not_lt_zero,if_false]
  by_cases h1:t=(pl R m k)
  · simp only [if_pos h1]
  · simp only [if_neg h1]
theorem md_at {j:Nat} (t:Nat) (ht:t≠j):md R m k i (j+1) t=md R m k i j t:=by
  unfold md
  by_cases h1:t<j
  · rw [if_pos h1,if_pos (by omega)]
  · rw [if_neg h1,if_neg (by omega)]
theorem md_j {j c:Nat} (hj:j≠(pl R m k)):md R m k i j j c=aa R m k i j c:=by
  unfold md scl;rw [if_neg (by omega),if_neg hj]
theorem Fd.md_r (h:Fd R m k i) (j c:Nat):md R m k i j (pl R m k) c=aa R m k i (pl R m k) c*(1/aa R m k i (pl R m k) k):=by
  unfold md
  split
  · rw [h.mm,clr_r,scl_r]
  · rw [scl_r]
theorem Fd.md_next (h:Fd R m k i) {j:Nat} (c:Nat) (hj:j≠(pl R m k)):md R m k i (j+1) j c=md R m k i j j c - md R m k i j j k*md R m k i j (pl R m k) c:=by
  rw [md_j hj,md_j hj,h.md_r]
  unfold md
  rw [if_pos (by omega),h.mm,clr_j _ _ _ hj,scl_r,scl_j _ _ _ hj]
theorem Fd.rows_yes (h:Fd R m k i) {j:Nat} (hj:¬ j=(pl R m k)):tb (fun t=>if t=j then tb (fun c=>md R m k i j j c - md R m k i j j k*md R m k i j (pl R m k) c) N else tb (fun c=>md R m k i j t c) N) R=tb (fun t=>tb (fun c=>md R m k i (j+1) t c) N) R:=by
  refine tb_congr fun t _=>?_
  by_cases h1:t=j
  · rw [if_pos h1,h1];exact tb_congr fun c _=>(h.md_next c hj).symm
  · rw [if_neg h1];exact tb_congr fun c _=>by rw [md_at t h1]
theorem Fd.rows_no (h:Fd R m k i) {j:Nat} (hj:j=(pl R m k)∨md R m k i j j k=0):tb (fun t=>tb (fun c=>md R m k i j t c) N) R=tb (fun t=>tb (fun c=>md R m k i (j+1) t c) N) R:=by
  refine tb_congr fun t _=>?_
  by_cases h1:t=j
  · refine tb_congr fun c _=>?_
    rw [h1]
    by_cases e:j=(pl R m k)
    · have h2:=h.md_r j c
      have h3:=h.md_r (j+1) c
      rw [← e] at h2 h3
      rw [h2,h3]
    · rcases hj with hj | hj
      · exact absurd hj e
      · rw [h.md_next c e,hj];grind
  · exact tb_congr fun c _=>by rw [md_at t h1]
theorem rows_end:tb (fun t=>tb (fun c=>md R m k i R t c) N) R=tb (fun t=>tb (fun c=>(rs R m (k+1)).m t c) N) R:=by
  refine tb_congr fun t ht=>?_
  unfold md;rw [if_pos ht]
theorem Fd.piv (h:Fd R m k i):tb (fun t=>((pv (rs R m k) t:Nat):Int)) (pl R m k)++[(k:Int)]=tb (fun t=>((pv (rs R m (k+1)) t:Nat):Int)) (rs R m (k+1)).p.length:=by
  rw [h.len]
  have e:(k:Int)=((pv (rs R m (k+1)) (pl R m k):Nat):Int):=by
    have:pv (rs R m (k+1)) (pl R m k)=k:=by rw [h.step];exact pv_new
    rw [this]
  rw [← tb_snoc (f:=fun t=>((pv (rs R m (k+1)) t:Nat):Int)) e]
  congr 1
  refine tb_congr fun t ht=>?_
  rw [h.step,pv_old ht]
variable {K:Nat}
theorem Fd.z_over (h:Fd R m k i) (hz:RdZ R N K (rs R m (k+1))):∀ c,c<N→RZ K K (aa R m k i (pl R m k) c*(1/aa R m k i (pl R m k) k)):=fun c hc=>by
  have h2:=hz.1 (pl R m k) (by have:=h.lt;omega) c hc
  rw [← h.md_r (k+(pl R m k)+1) c]
  unfold md;rw [if_pos (by omega)];exact h2
theorem Fd.z_less (h:Fd R m k i) (hz:RdZ R N K (rs R m (k+1))) {j:Nat} (hj:¬ j=(pl R m k)) (hR:j<R):∀ c,c<N→RZ K K (md R m k i j j c - md R m k i j j k*md R m k i j (pl R m k) c):=fun c hc=>by
  rw [← h.md_next c hj]
  unfold md;rw [if_pos (by omega)];exact hz.1 j hR c hc
theorem Fd.z_det (h:Fd R m k i) (hz:RdZ R N K (rs R m (k+1))):RZ K K (dd R m k i*aa R m k i (pl R m k) k):=by rw [h.det];exact hz.2
theorem zero_succ {r:Nat} {f:Nat→Rat} {t:Nat} (h:∀ u,r≤u→u<t→f u=0) (ht:f t=0):∀ u,r≤u→u<t+1→f u=0:=fun u h1 h2=>by
  rcases Nat.lt_or_eq_of_le (Nat.le_of_lt_succ h2) with h3 | rfl
  · exact h u h1 h3
  · exact ht
end
theorem bne_f {x y:Nat} (h:((x:Int) !=(y:Int))=false):x=y:=by simp at h;omega
theorem bne_t {x y:Nat} (h:((x:Int) !=(y:Int))=true):¬ x=y:=by simp at h;omega
theorem sgn_z {q:Rat} (h:(sgn q.num==(0:Int))=true):q=0:=Rat.num_eq_zero.1 (sgn_eq_zero.1 (by simpa using h))
theorem sgn_nez {q:Rat} (h:(sgn q.num==(0:Int))=false):q≠0:=fun e=>by subst e;exact absurd h (by decide)
theorem sgn_z' {q:Rat} (h:(sgn q.num !=(0:Int))=false):q=0:=Rat.num_eq_zero.1 (sgn_eq_zero.1 (by simpa using h))
theorem sgn_nez' {q:Rat} (h:(sgn q.num !=(0:Int))=true):q≠0:=fun e=>by subst e;exact absurd h (by decide)
end Go.Proofs.YtepgkcimmdmgcaaGreatDoor
