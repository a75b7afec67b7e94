/- Joined of: Div4, Div5, Int7, Gen2, Int8, Dec, Sy1, Ten, TenM, TenT, R1a, R1b, R1c, R1d, R1e, R1f, Gen30, R1g, R1h, Ck, R1i, Ck2. -/
import Derived.Test.YtaldbfflkpgfoaaGreatDoorPartA
import Derived.Lib.BitFns
import Derived.Lib.ItoaNum
import Derived.Lib.ItoaMem
import Derived.Lib.Repeat
import Derived.Lib.Join
import Derived.Laws.IdiomStrings
import Init.Data.Rat.Lemmas
namespace Go.Proofs.YtaldbfflkpgfoaaGreatDoor

theorem zm3:∀ (f x:Nat),0<x→x<2 ^ f→∃ L,Lib.bitLenAux f x=L+1∧2 ^ L≤x∧x<2 ^ (L+1)
 | 0,x,h0,h1=>by simp at h1;omega
 | f+1,x,h0,h1=>by
  by_cases h:x=1
  ·subst h
   refine ⟨0,?_,by simp,by simp⟩
   cases f<;>simp [Lib.bitLenAux]
  ·obtain ⟨L,e1,e2,e3⟩:=zm3 f (x/2) (by omega) (by rw [Nat.pow_succ] at h1;omega)
   refine ⟨L+1,?_,by rw [Nat.pow_succ];omega,by rw [Nat.pow_succ];omega⟩
   simp only [Lib.bitLenAux,show ¬ x=0 by omega,if_false,e1];omega
theorem leadz {x:Int} (h0:0<x) (h1:x<4294967296):∃ s:Nat,s<32∧32 - (Lib.bitLen x.toNat:Int)=s∧2147483648≤x*2 ^ s∧x*2 ^ s<4294967296:=by
 obtain ⟨n,rfl⟩:=Int.eq_ofNat_of_zero_le (Int.le_of_lt h0)
 have h4:=Lib.bitLen_le n 32 (by omega) (by omega)
 obtain ⟨L,e1,e2,e3⟩:=zm3 64 n (by omega) (by omega)
 have e4:Lib.bitLen n=L+1:=e1
 refine ⟨31 - L,by omega,by simp only [Int.toNat_natCast];omega,?_⟩
 have e5:2 ^ L*2 ^ (31 - L)=2147483648:=by rw [← Nat.pow_add,show L+(31 - L)=31 by omega]
 have e6:2 ^ (L+1)*2 ^ (31 - L)=4294967296:=by rw [← Nat.pow_add,show L+1+(31 - L)=32 by omega]
 have p:0<2 ^ (31 - L):=Nat.pow_pos (by omega)
 have e7:=Nat.mul_le_mul_right (2 ^ (31 - L)) e2
 have e8:=Nat.mul_lt_mul_of_pos_right e3 p
 have e9:((n:Int)*2 ^ (31 - L))=((n*2 ^ (31 - L):Nat):Int):=by simp
 rw [e9];omega

theorem zk8 (b:Int) {p:Int} (hp:0<p):∀ k,hi b k*p≤hi (b*p) k∧hi (b*p) k<(hi b k+1)*p
 | 0=>by rw [zc7,zc7,Int.add_mul];omega
 | k+1=>by
  have h:=zk8 b hp k
  have hs:=zb5 b k
  have d0:=za4 b k
  have d1:=zd4 b k
  rw [zb8 (b*p)]
  have e1:hi b k*p=4294967296*(hi b (k+1)*p)+dg b k*p:=by rw [hs];grind
  have e2:(hi b k+1)*p=4294967296*(hi b (k+1)*p)+(dg b k+1)*p:=by rw [hs];grind
  have e3:(hi b (k+1)+1)*p=hi b (k+1)*p+p:=by grind
  have e4:0≤dg b k*p:=Int.mul_nonneg d0 (by omega)
  have e5:(dg b k+1)*p≤4294967296*p:=Int.mul_le_mul_of_nonneg_right (by omega) (by omega)
  rw [e1,e2] at h
  rw [e3]
  omega
theorem norm_nl {b:Int} {m s:Nat} (hb:NL b (m+1)) (h1:2147483648≤dg b m*2 ^ s) (h2:dg b m*2 ^ s<4294967296) (hs:s<32):NL (b*2 ^ s) (m+1)∧2147483648≤dg (b*2 ^ s) m:=by
 have hp:(0:Int)<2 ^ s:=Int.pow_pos (by omega)
 have ht:=hb.topdig (by omega)
 simp only [Nat.add_sub_cancel] at ht
 have h3:=zk8 b hp m
 rw [← ht.1] at h3
 obtain ⟨aa,_,ab⟩:=zt8 hs
 have h4:(dg b m+1)*2 ^ s≤4294967296:=by
  rw [← aa,Int.mul_comm (2 ^ s)] at h2
  have h5:=Int.lt_of_mul_lt_mul_right h2 (Int.le_of_lt hp)
  rw [← aa,Int.mul_comm (2 ^ s)]
  exact Int.mul_le_mul_of_nonneg_right (by omega) (Int.le_of_lt hp)
 have h6:hi (b*2 ^ s) (m+1)=0:=by rw [zb8];omega
 have h7:=zb5 (b*2 ^ s) m
 rw [h6] at h7
 exact ⟨⟨Int.mul_nonneg hb.nonneg (by omega),h6,fun _=>by simp only [Nat.add_sub_cancel];omega⟩,by omega⟩
theorem NL.uniq {n:Int} {k m:Nat} (h:NL n k) (g:NL n m):k=m:=by
 rcases Nat.lt_trichotomy k m with e | e | e
 ·exact absurd (zt6 h.top (by omega)) (g.full (by omega))
 ·exact e
 ·exact absurd (zt6 g.top (by omega)) (h.full (by omega))
def win (U V:Int) (i:Nat):Int:=hi U (i+1) % V*4294967296+dg U i
theorem win_hi (U V:Int) (i:Nat):hi (win U V i) 1=hi U (i+1) % V:=by
 have d0:=za4 U i
 have d1:=zd4 U i
 unfold win
 rw [zb8,zc7];omega
theorem win_dg0 (U V:Int) (i:Nat):dg (win U V i) 0=dg U i:=by
 have d0:=za4 U i
 have d1:=zd4 U i
 have:dg (win U V i) 0=win U V i % 4294967296:=rfl
 rw [this];unfold win;omega
theorem win_dgs (U V:Int) (i k:Nat):dg (win U V i) (k+1)=dg (hi U (i+1) % V) k:=by
 unfold dg
 rw [Nat.add_comm k 1,zD7,win_hi]
theorem yk1 (U:Int) {V:Int} (hV:0<V) (i:Nat):win U V i<V*4294967296∧0≤win U V i:=by
 have d0:=za4 U i
 have d1:=zd4 U i
 have h1:=Int.emod_nonneg (hi U (i+1)) (show V≠0 by omega)
 have h2:=Int.emod_lt_of_pos (hi U (i+1)) hV
 unfold win;omega
theorem win_top (U:Int) {V:Int} {n:Nat} (hV:0<V) (hn:hi V n=0) (i:Nat):hi (win U V i) (n+1)=0:=by
 have h1:=Int.emod_nonneg (hi U (i+1)) (show V≠0 by omega)
 have h2:=Int.emod_lt_of_pos (hi U (i+1)) hV
 rw [Nat.add_comm,zD7,win_hi]
 have h3:=zj9 (Int.le_of_lt h2) n
 have h4:=zc3 h1 n
 omega
theorem yk2 (U:Int) {V:Int} (hV:0<V) (i:Nat):win U V i/V=dg (U/V) i∧win U V i % V=hi U i % V:=by
 have hs:=zb5 U i
 have aa:=za4 U i
 have hd:=zd4 U i
 have hlt:=yk1 U hV i
 have e1:hi U i=win U V i+V*(4294967296*(hi U (i+1)/V)):=by
  have:=Int.emod_add_mul_ediv (hi U (i+1)) V
  unfold win;rw [hs];grind
 have e2:hi (U/V) i=win U V i/V+4294967296*(hi U (i+1)/V):=by
  rw [zz5 U V hV,e1,Int.add_mul_ediv_left _ _ (show V≠0 by omega)]
 have h4:win U V i/V<4294967296:=Int.ediv_lt_of_lt_mul hV (by rw [Int.mul_comm];exact hlt.1)
 have h5:0≤win U V i/V:=Int.ediv_nonneg hlt.2 (by omega)
 have hdd:dg (U/V) i=hi (U/V) i % 4294967296:=rfl
 refine ⟨by rw [hdd,e2];omega,?_⟩
 rw [e1,Int.add_mul_emod_self_left]
theorem first_lt {a b p:Int} {q m:Nat} (ha:hi a (q+(m+1))=0) (hb:NL b (m+1)) (hp:0<p):hi (a*p) (q+1)<b*p:=by
 have hbt:=hb.full (by omega)
 simp only [Nat.add_sub_cancel] at hbt
 have aa:=zc3 hb.nonneg m
 have h2:=(zk8 a hp (q+1)).2
 have h3:hi a (q+1)<b:=by
  rcases Int.lt_or_le (hi a (q+1)) b with h | h
  ·exact h
  ·have h4:=zj9 h m
   rw [← zD7,show q+1+m=q+(m+1) by omega,ha] at h4
   omega
 have h5:(hi a (q+1)+1)*p≤b*p:=Int.mul_le_mul_of_nonneg_right (by omega) (by omega)
 omega
end Go.Proofs.YtaldbfflkpgfoaaGreatDoor
namespace Go.Proofs.YtaldbfflkpgfoaaGreatDoor
open Go.RowKit

theorem Own.st {w w':World} {b c n:Nat} {d:Nat→Int} (h:Own w c n d) (hs:St w w' b) (hc:c≠b):Own w' c n d:=by
 obtain ⟨cs,hb,hr⟩:=h.raw
 exact ⟨cs,by rw [hs.block c hc];exact hb,hr⟩
theorem dg_top {n:Int} {k j:Nat} (h:hi n k=0) (hj:k≤j):dg n j=0:=by
 have:dg n j=hi n j % 4294967296:=rfl
 rw [this,zt6 h hj];rfl

set_option maxRecDepth 100000 in
set_option maxHeartbeats 1000000 in
theorem divide_c (ao bo:Option Addr) (la lb ca cb:Nat) (a b:Int) (w:World) (hla:la≤1000000) (hlb:lb≤1000000) (ha:Mag w ao la ca a) (hb:Mag w bo lb cb b) (ax:0<b):
    Calls Tryz.prog 144 #[.slice ao la ca,.slice bo lb cb] w fun e w'=>
      (∃ qo qk qc ro rk rc,e=.returned (.tuple #[.slice qo qk qc,.slice ro rk rc])∧Mag w' qo qk qc (a/b)∧Mag w' ro rk rc (a % b))∧Gr w w':=by
  have a0:=ha.nl.nonneg
  rcases Int.lt_or_le a b with hab | hab
  · go_enter Tryz.func144,Tryz.ntmps144
    go_wp2_with fail
    refine (zL9 ao bo la lb ca cb a b _ (by omega) (by omega) ha hb).mono ?_
    rintro e w1 ⟨rfl,hG⟩
    rw [zf4 (show a - b<0 by omega)]
    go_wp2
    go_ret2
    exact ⟨⟨_,_,_,_,_,_,rfl,by rw [Int.ediv_eq_zero_of_lt a0 hab];exact ⟨Nat.le_refl _,NL.zero,Row.nil _ _ _⟩,by rw [Int.emod_eq_of_lt a0 hab];exact ha.below hG⟩,hG⟩
  · have aT:decide (sgn (a - b)<0)=false:=by
      unfold sgn;rw [if_neg (by omega)];split<;>rfl
    have aJ:0<lb:=by
      rcases Nat.eq_zero_or_pos lb with h | h
      · have:=hb.nl.len_zero.1 h;omega
      · exact h
    by_cases hl1:lb=1
    · subst hl1
      obtain ⟨b1,aa,rfl,hcs⟩:=hb.row.at_ (by omega)
      have e0:dg b 0=b:=by
        have h1:=hb.nl.top
        have h2:=zb5 b 0
        rw [h1,zc7] at h2;omega
      have hc:=hcs 0 (by omega)
      rw [e0,Nat.add_zero] at hc
      have aO:b<4294967296:=by have:=zd4 b 0;omega
      go_enter Tryz.func144,Tryz.ntmps144
      go_wp2_with fail
      refine (zL9 ao _ la 1 ca cb a b _ (by omega) (by omega) ha hb).mono ?_
      rintro e w1 ⟨rfl,hG⟩
      have aM:=((yj7 hG).1 b1 aa (World.block_lt_of_cell? w _ hc)).trans hc
      go_wp2_with fail
      refine (yj8 ao la ca a b _ (by omega) (ha.below hG) ax aO).mono ?_
      rintro e w2 ⟨⟨go,k,cap,rfl,hm⟩,ai⟩
      have af:Gr w w2:=Gr.trans hG ai
      go_wp2_with fail
      have m0:=Int.emod_nonneg a (show b≠0 by omega)
      have m1:=Int.emod_lt_of_pos a ax
      have aK:dg (a % b) 0=a % b:=by
        have:dg (a % b) 0=a % b % 4294967296:=rfl
        rw [this];omega
      have aL:hi (a % b) 1=0:=by rw [zb8,zc7];omega
      have hfr:=zn1 w2 (.cells #[.int .u32 (a % b)] 161)
      have hrow:Row (w2.alloc (.cells #[.int .u32 (a % b)] 161)) (some ⟨w2.heap.size,0,none⟩) 1 (dg (a % b)):=
        ⟨fun _ => ⟨_, 0, _, _, rfl, hfr.2.1, fun i hi0 => by obtain rfl : i = 0 := by omega
                                                             rw [aK];rfl⟩⟩
      refine (zt4 _ 1 1 (a % b) _ (by omega) (by omega) m0 aL hrow).mono ?_
      rintro e w3 ⟨⟨k2,rfl,aN,aQ⟩,rfl⟩
      go_wp2
      go_ret2
      exact ⟨⟨_,_,_,_,_,_,rfl,hm.below hfr.1,aN⟩,af.trans hfr.1⟩
    · obtain ⟨m,rfl⟩:∃ m,lb=m+2:=⟨lb - 2,by omega⟩
      have hge:m+2≤la:=by
        rcases Nat.lt_or_ge la (m+2) with h | h
        · exfalso
          have h1:=zj9 hab (m+1)
          have h2:=zt6 ha.nl.top (show la≤m+1 by omega)
          have h3:=hb.nl.full (by omega)
          simp only [show m+2 - 1=m+1 from rfl] at h3
          have h4:=zc3 hb.nl.nonneg (m+1)
          omega
        · exact h
      obtain ⟨q,rfl⟩:∃ q,la=q+(m+2):=⟨la - (m+2),by omega⟩
      obtain ⟨b1,aa,rfl,hcs⟩:=hb.row.at_ (by omega)
      have hc:=hcs (m+1) (by omega)
      have t0:0<dg b (m+1):=(hb.nl.topdig (by omega)).2
      have t1:=zd4 b (m+1)
      obtain ⟨s,ah,aH,aE,aG⟩:=leadz t0 t1
      have hp:(0:Int)<2 ^ s:=Int.pow_pos (by omega)
      obtain ⟨hV,hnorm⟩:=norm_nl hb.nl aE aG ah
      have aD:0<b*2 ^ s:=Int.mul_pos ax hp
      have hne:((m+2:Nat):Int)≠1:=by omega
      have aV:(((m+2:Nat):Int)==1)=false:=by simpa using hne
      clear hcs
      go_enter Tryz.func144,Tryz.ntmps144
      go_wp2_with fail
      refine (zL9 ao _ _ _ ca cb a b _ (by omega) (by omega) ha hb).mono ?_
      rintro e w1 ⟨rfl,hG⟩
      have aM:=((yj7 hG).1 b1 (aa+(m+1)) (World.block_lt_of_cell? w _ hc)).trans hc
      go_wp2_with fail
      refine (Tryz.bits_LeadingZeros32 (dg b (m+1)) _ (by omega) (by omega)).mono ?_
      rintro e aU ⟨rfl,rfl⟩
      rw [aH]
      go_wp2_with fail
      refine (zZ6 ao _ ca a s _ (by omega) (ha.below hG) ah).mono ?_
      rintro e w2 ⟨⟨gu,rfl,hgu,hOu,htu⟩,ai⟩
      have ad:=Gr.trans hG ai
      go_wp2_with fail
      refine (zZ6 _ _ cb b s _ (by omega) (hb.below ad) ah).mono ?_
      rintro e w3 ⟨⟨gv,rfl,hgv,hOv,htv⟩,af⟩
      have ac:=Gr.trans ad af
      have hltu:=hOu.lt
      have hltv:=hOv.lt
      have av:=hOu.gr af
      go_wp2_with fail
      refine (zt4 _ (m+2+1) (m+2+1) (b*2 ^ s) _ (by omega) (by omega) hV.nonneg htv hOv.row).mono ?_
      rintro e w4 ⟨⟨k,rfl,hMv,hk⟩,rfl⟩
      obtain rfl:k=m+2:=hMv.nl.uniq hV
      go_wp2_with (at_make;refine zd3 _ rfl _ _ rfl _ _ (q+1) rfl rfl ?h1 ?h2 (by omega) ?_)
      case h1=>omega
      case h2=>omega
      intro w5 hOq ap hsz
      have ar:=av.below ap
      have ak:=hOv.below ap
      have aw:Gr w w5:=Gr.trans ac ap
      have aR:=hG.size
      have aP:=ai.size
      go_wp2
      have hlq:hi (a*2 ^ s) (q+1)<b*2 ^ s:=first_lt (m:=m+1) ha.nl.top hb.nl hp
      have ae:0≤hi (a*2 ^ s) (q+1):=zc3 (Int.mul_nonneg a0 (by omega)) _
      have hbase:w.heap.size≤w3.heap.size:=ac.size
      have hugv:gu≠gv:=by omega
      have huq:gu≠w3.heap.size:=by have:=af.size;omega
      have hvq:gv≠w3.heap.size:=by omega
      have HP:=Lib.hid (And.intro hp (And.intro aD (And.intro hlq ae)))
      clear hp hlq ae
      have hQd:(a*2 ^ s)/(b*2 ^ s)=a/b:=Int.mul_ediv_mul_of_pos_left _ _ HP.out.1
      have hRd:(a*2 ^ s) % (b*2 ^ s)=a % b*2 ^ s:=by rw [Int.mul_comm a,Int.mul_comm b,Int.mul_emod_mul_of_pos _ _ HP.out.1,Int.mul_comm]
      have HQ:=Lib.hid (And.intro hQd hRd)
      clear hQd hRd
      clear aD aE aG hsz
      have aC:0≤a*2 ^ s:=Int.mul_nonneg a0 (Int.le_of_lt HP.out.1)
      generalize hUU:a*2 ^ s=U at*
      generalize hVV:b*2 ^ s=V at*
      generalize hgq:w3.heap.size=gq at*
      go_loopw [11] (fun i wr=>∃ (k:Nat) (d E:Nat→Int),i=.int .i64 ((k:Int) - 1)∧k≤q+1∧Own wr gu (q+(m+2)+1) E∧Own wr gv (m+2+1) (dg V)∧Own wr gq (q+1) d∧Gr w wr∧
        Hid ((∀ j,j<k→E j=dg U j)∧(∀ j,k+j<q+(m+2)+1→E (k+j)=dg (hi U k % V) j)∧∀ j,k≤j→j<q+1→d j=dg (U/V) j)) (fun i _=>(intOf i+1).toNat)
      case atStart=>
        refine ⟨q+1,_,_,by go_num,Nat.le_refl _,ar,ak,hOq,aw,fun j _=>rfl,fun j hj=>?_,fun j h1 h2=>by omega⟩
        rw [Int.emod_eq_of_lt HP.out.2.2.2 HP.out.2.2.1]
        unfold dg
        rw [zD7]
      case round=>
        obtain ⟨k,d,E,rfl,hk,hOu,hOv,hOq,hGr,hh⟩:=hrel
        by_cases hpos:0<k
        · obtain ⟨j,rfl⟩:∃ j,k=j+1:=⟨k - 1,by omega⟩
          have e1:(((j+1:Nat):Int) - 1)=(j:Int):=by omega
          simp only [e1]
          have hfree:=hOq.free j
          have hcq:=hOq.cell j (by omega)
          clear e1
          go_wp2_with fail
          rw [show j+(m+2)+1 - j=m+3 by omega]
          refine (digit_c gu j _ gv 0 _ m (q+(m+2)+1) E (win U V j) V _ (by omega) (by omega) (by omega) hOu ?g1 ?g2 ?g3 hV ?g4 (Ne.symm hugv) hnorm ?g5).mono ?_
          case g1=>
            intro i hi0
            cases i with
            | zero=>rw [win_dg0];exact hh.out.1 j (by omega)
            | succ i=>rw [win_dgs,show j+(i+1)=j+1+i by omega];exact hh.out.2.1 i (by omega)
          case g2=>exact (yk1 U HP.out.2.1 j).2
          case g3=>exact win_top U HP.out.2.1 hV.top j
          case g4=>intro i hi0;rw [Nat.zero_add];exact hOv.cell i (by omega)
          case g5=>exact (yk1 U HP.out.2.1 j).1
          rintro e w6 ⟨rfl,hst,D',aj,aq,aA⟩
          rw [(yk2 U HP.out.2.1 j).1]
          have al:=hOv.st hst (Ne.symm hugv)
          have ab:=hOq.st hst (Ne.symm huq)
          have au:=hst.gr hGr (by omega)
          have hfree:=ab.free j
          have hcq:=ab.cell j (by omega)
          have ay:=(yk2 U HP.out.2.1 j).2
          rw [ay] at aq
          have HW:=Lib.hid (And.intro aq aA)
          clear aq aA ay
          go_wp2
          go_roundw
          case rel=>
            refine ⟨j,_,D',rfl,by omega,aj.st (St.setCell _ _ _ _) huq,al.st (St.setCell _ _ _ _) hvq,ab.set (by omega) _,(St.setCell _ _ _ _).gr au (by omega),fun i hi0=>?_,fun i hi0=>?_,fun i h1 h2=>?_⟩
            · rw [HW.out.2 i (by omega)];exact hh.out.1 i (by omega)
            · by_cases hi1:i<m+3
              · exact HW.out.1 i hi1
              · have z1:dg (hi U j % V) i=0:=dg_top (k:=m+2) (by
                  have h1:=Int.emod_nonneg (hi U j) (show V≠0 by have:=HP.out.2.1;omega)
                  have h2:=Int.emod_lt_of_pos (hi U j) HP.out.2.1
                  have h3:=zj9 (Int.le_of_lt h2) (m+2)
                  have h4:=zc3 h1 (m+2)
                  rw [hV.top] at h3
                  exact Int.le_antisymm h3 h4) (by omega)
                have z2:dg (hi U (j+1) % V) (i - 1)=0:=dg_top (k:=m+2) (by
                  have h1:=Int.emod_nonneg (hi U (j+1)) (show V≠0 by have:=HP.out.2.1;omega)
                  have h2:=Int.emod_lt_of_pos (hi U (j+1)) HP.out.2.1
                  have h3:=zj9 (Int.le_of_lt h2) (m+2)
                  have h4:=zc3 h1 (m+2)
                  rw [hV.top] at h3
                  exact Int.le_antisymm h3 h4) (by omega)
                rw [z1,HW.out.2 (j+i) (by omega),← z2,show j+i=j+1+(i - 1) by omega]
                exact hh.out.2.1 (i - 1) (by omega)
            · by_cases e:i=j
              · subst e;rw [zb6]
              · rw [za6 _ _ e];exact hh.out.2.2 i (by omega) h2
          case measure=>simp [intOf];try omega
        · obtain rfl:k=0:=by omega
          have aI:=HP.out.2.1
          have m0:=Int.emod_nonneg U (show V≠0 by omega)
          have m1:U % V≤U:=by
            have h1:=Int.emod_add_mul_ediv U V
            have h2:0≤V*(U/V):=Int.mul_nonneg (by omega) (Int.ediv_nonneg aC (by omega))
            omega
          have q0:0≤U/V:=Int.ediv_nonneg aC (by omega)
          have q1:hi (U/V) (q+1)=0:=by
            rw [zz5 U V aI]
            exact Int.ediv_eq_zero_of_lt HP.out.2.2.2 HP.out.2.2.1
          have m2:hi (U % V) (q+(m+2)+1)=0:=by
            have h1:=zj9 m1 (q+(m+2)+1)
            have h2:=zc3 m0 (q+(m+2)+1)
            omega
          go_wp2_with fail
          refine (zt4 _ (q+1) (q+1) (U/V) _ (by omega) (by omega) q0 q1 (hOq.congr (fun i hi0=>hh.out.2.2 i (by omega) hi0)).row).mono ?_
          rintro e w6 ⟨⟨k1,rfl,aB,aW⟩,rfl⟩
          go_wp2_with fail
          refine (zt4 _ (q+(m+2)+1) (q+(m+2)+1) (U % V) _ (by omega) (by omega) m0 m2 (hOu.congr (fun i hi0=>by
            have:=hh.out.2.1 i (by omega)
            rw [Nat.zero_add,zc7] at this;exact this)).row).mono ?_
          rintro e w6 ⟨⟨k2,rfl,aS,aQ⟩,rfl⟩
          go_wp2_with fail
          refine (yk0 _ k2 _ (U % V) s _ (by omega) aS ah).mono ?_
          rintro e w7 ⟨⟨go,k3,cap,rfl,aF⟩,az⟩
          go_wp2
          go_ret2
          rw [HQ.out.1] at aB
          rw [HQ.out.2,Int.mul_ediv_cancel _ (show (2:Int) ^ s≠0 by have:=HP.out.1;omega)] at aF
          exact ⟨⟨_,_,_,_,_,_,rfl,aB.below az,aF⟩,Gr.trans hGr az⟩
theorem zB0 {w:World} {ao bo:Option Addr} {la lb ca cb:Nat} {a b:Int} (ha:Mag w ao la ca a) (hb:Mag w bo lb cb b) (hla:la≤1000000) (hlb:lb≤1000000) (hb0:0<b):
  Calls Tryz.prog 144 #[.slice ao la ca,.slice bo lb cb] w fun e w'=>
   (∃ qo qk qc ro rk rc,e=.returned (.tuple #[.slice qo qk qc,.slice ro rk rc])∧Mag w' qo qk qc (a/b)∧Mag w' ro rk rc (a % b))∧Gr w w':=divide_c ao bo la lb ca cb a b w hla hlb ha hb hb0
theorem zB1 {neg:Bool} {ao:Option Addr} {len cap:Nat} {n Z:Int} {K:Nat} {w:World} (h:Mag w ao len cap n) (hn:n=(Z.natAbs:Int)) (hs:0<n→neg=decide (Z<0)) (hz:Sz K Z) (hK:K≤1000000):
  Calls Tryz.prog 113 #[.bool neg,.slice ao len cap] w fun e w'=>(∃ x y,e=.returned (.agg #[x,y])∧IsInt w' K x y Z)∧Gr w w':=by
 have hl:len≤K:=h.nl.len_sz (by rw [hn];exact hz.nat)
 refine (zh9 neg ao len cap n w (by omega) h.cap h.nl.nonneg h.nl.top h.row).mono ?_
 rintro e w1 ⟨⟨k,he,hm,_⟩,hB⟩
 exact ⟨⟨_,_,he,IsInt.mk' (hm.below hB) hn hs hz⟩,hB⟩
theorem yn3 {ao:Option Addr} {len cap:Nat} {n:Int} {K:Nat} {w:World} (h:Mag w ao len cap n) (hn:0<n) (hz:Sz K n) (hK:K≤1000000):
  Calls Tryz.prog 113 #[.bool false,.slice ao len cap] w fun e w'=>(∃ k,e=.returned (.agg #[.bool false,.slice ao k cap])∧IsInt w' K (.bool false) (.slice ao k cap) n)∧Gr w w':=by
 have hl:len≤K:=h.nl.len_sz hz
 refine (zh9 false ao len cap n w (by omega) h.cap h.nl.nonneg h.nl.top h.row).mono ?_
 rintro e w1 ⟨⟨k,he,hm,_⟩,hB⟩
 refine ⟨⟨k,he,?_⟩,hB⟩
 exact IsInt.mk' (s:=false) (hm.below hB) (by omega) (fun _=>by simp;omega) hz
theorem yn4 {ao:Option Addr} {len cap:Nat} {n:Int} {K:Nat} {w:World} (h:Mag w ao len cap n) (hn:0<n) (hz:Sz K n) (hK:K≤1000000):
  Calls Tryz.prog 113 #[.bool true,.slice ao len cap] w fun e w'=>(∃ k,e=.returned (.agg #[.bool true,.slice ao k cap])∧IsInt w' K (.bool true) (.slice ao k cap) (-n))∧Gr w w':=by
 have hl:len≤K:=h.nl.len_sz hz
 refine (zh9 true ao len cap n w (by omega) h.cap h.nl.nonneg h.nl.top h.row).mono ?_
 rintro e w1 ⟨⟨k,he,hm,_⟩,hB⟩
 have hm':=hm.below hB
 have hk:decide (0<k)=true:=by
  rw [decide_eq_true_eq]
  rcases Nat.eq_zero_or_pos k with h0 | h0
  ·have:=hm.nl.len_zero.1 h0;omega
  ·exact h0
 rw [hk] at he
 have:=IsInt.mk' (s:=true) hm' (z:=-n) (by omega) (fun _=>by simp;omega) hz.neg
 rw [hk] at this
 exact ⟨⟨k,he,this⟩,hB⟩
theorem zD4 {k:Nat} {x y:Value} {w:World} (hz:IsInt w k x y 0):
  Calls Tryz.prog 109 #[.agg #[x,y]] w fun e w'=>e=.returned (.int .i64 0)∧Gr w w':=yb0 hz
theorem zj0 {k:Nat} {x y:Value} {z:Int} {w:World} (hz:IsInt w k x y z) (h:0<z):
  Calls Tryz.prog 109 #[.agg #[x,y]] w fun e w'=>e=.returned (.int .i64 1)∧Gr w w':=by
 have:=yb0 hz
 rw [zd7 h] at this
 exact this
theorem zM2 {k:Nat} {x y:Value} {z:Int} {w:World} (hz:IsInt w k x y z) (h:z<0):
  Calls Tryz.prog 109 #[.agg #[x,y]] w fun e w'=>e=.returned (.int .i64 (-1))∧Gr w w':=by
 have:=yb0 hz
 rw [zf4 h] at this
 exact this
theorem IsInt.resz {w:World} {k m:Nat} {x y:Value} {z:Int} (h:IsInt w k x y z) (hz:Sz m z):IsInt w m x y z:=by
 obtain ⟨ao,len,cap,h1,h2,h3,h4⟩:=h
 exact ⟨ao,len,cap,h1,h2,h3,hz⟩
theorem IsInt.len {w:World} {k:Nat} {x:Value} {ao:Option Addr} {len cap:Nat} {z:Int} (h:IsInt w k x (.slice ao len cap) z):len≤k:=by
 obtain ⟨ao',len',cap',h1,h2,h3,h4⟩:=h
 simp only [Value.slice.injEq] at h2
 obtain ⟨rfl,rfl,rfl⟩:=h2
 exact h3.nl.len_sz h4.nat

theorem Sz.i64 {z:Int} (h0:-9223372036854775808≤z) (h1:z≤9223372036854775807):Sz 64 z:=by unfold Sz;omega

set_option maxRecDepth 100000 in
set_option maxHeartbeats 1000000 in
theorem yb1 (z:Int) (h0:-9223372036854775808≤z) (h1:z≤9223372036854775807) (w:World):
  Calls Tryz.prog 96 #[.int .i64 z] w fun e w'=>(∃ x y,e=.returned (.agg #[x,y])∧IsInt w' 64 x y z)∧Gr w w':=by
 have key:∀ (w1:World) (c0 c1:Int),c0=(z.natAbs:Int) % 4294967296→c1=(z.natAbs:Int)/4294967296→Row (w1.alloc (.cells #[.int .u32 c0,.int .u32 c1] 161)) (some ⟨w1.heap.size,0,none⟩) 2 (dg (z.natAbs:Int)):=by
  rintro w1 _ _ rfl rfl
  refine ⟨fun _=>⟨_,0,_,_,rfl,(zn1 _ _).2.1,fun i ab=>?_⟩⟩
  have e0:dg (z.natAbs:Int) 0=(z.natAbs:Int) % 4294967296:=rfl
  have e1:dg (z.natAbs:Int) 1=(z.natAbs:Int)/4294967296:=by
   have:dg (z.natAbs:Int) 1=(z.natAbs:Int)/4294967296 % 4294967296:=rfl
   rw [this];omega
  rcases i with _ | _ | i
  ·rw [e0];rfl
  ·rw [e1];rfl
  ·omega
 have ht:hi (z.natAbs:Int) 2=0:=by rw [zb8,zb8,zc7];omega
 have ew:z<0→IntKind.u64.wrap (-IntKind.u64.wrap z)=(z.natAbs:Int):=by
  intro h
  rw [IntKind.wrap_u64,IntKind.wrap_u64];omega
 by_cases hn:z<0
 ·have hd:decide (z<0)=true:=by simpa using hn
  have ew':=Lib.hid (ew hn)
  clear ew
  go_enter Tryz.func96,Tryz.ntmps96
  go_wp2_with fail
  refine (zh9 true _ 2 2 (z.natAbs:Int) _ (by omega) (by omega) (by omega) ht ?g1).mono ?_
  case g1=>
   refine cast ?_ (key (w.alloc (.cells #[.bool false,.slice none 0 0] 34)) _ _ rfl rfl)
   rw [ew'.out]
   have:(z.natAbs:Int)/4294967296 % 4294967296=(z.natAbs:Int)/4294967296:=by omega
   rw [this]
   simp
  rintro e w1 ⟨⟨k,rfl,hm,hk⟩,hB⟩
  obtain ⟨g0,f0,f1,fs⟩:=zn2 w (.cells #[.bool false,.slice none 0 0] 34) (.cells #[.int .u32 (IntKind.u64.wrap (-IntKind.u64.wrap z) % 4294967296),.int .u32 (IntKind.u64.wrap (-IntKind.u64.wrap z)/4294967296 % 4294967296)] 161)
  have p3:=Gr.heap hB f0
  have d0:=zb4 p3 0
  have d1:=zb4 p3 1
  have d2:=zk7 p3
  have aa:Gr w w1:=Gr.trans g0 hB
  have hMM:=hm.kp (Gr.kp hB)
  clear f0 f1 fs hB g0
  go_wp2
  have p4:=za9 (i:=1) (.slice (some ⟨w.heap.size+1,0,none⟩) k 2) (za9 (i:=0) (.bool (true&&decide (0<k))) p3)
  have hst:=(St.setCell w1 w.heap.size 0 (.bool (true&&decide (0<k)))).trans (St.setCell _ w.heap.size 1 (.slice (some ⟨w.heap.size+1,0,none⟩) k 2))
  exact bodyPost_ret (v:=.agg #[.bool (true&&decide (0<k)),.slice (some ⟨w.heap.size+1,0,none⟩) k 2]) (zb0 _ _ _ rfl rfl p4 (by kernel_rfl)) rfl ⟨⟨_,_,rfl,IsInt.mk' (s:=true) (hMM.kp (hst.kp p3 (by decide))) rfl (fun _=>by simp;omega) (Sz.i64 h0 h1)⟩,hst.gr aa (Nat.le_refl _)⟩
 ·have hd:decide (z<0)=false:=by simpa using hn
  clear ew
  go_enter Tryz.func96,Tryz.ntmps96
  go_wp2_with fail
  refine (zh9 false _ 2 2 (z.natAbs:Int) _ (by omega) (by omega) (by omega) ht ?g1).mono ?_
  case g1=>
   refine cast ?_ (key (w.alloc (.cells #[.bool false,.slice none 0 0] 34)) _ _ rfl rfl)
   have:(z.natAbs:Int)=z:=by omega
   rw [this]
   simp
  rintro e w1 ⟨⟨k,rfl,hm,hk⟩,hB⟩
  obtain ⟨g0,f0,f1,fs⟩:=zn2 w (.cells #[.bool false,.slice none 0 0] 34) (.cells #[.int .u32 (z % 4294967296),.int .u32 (z/4294967296)] 161)
  have p3:=Gr.heap hB f0
  have d0:=zb4 p3 0
  have d1:=zb4 p3 1
  have d2:=zk7 p3
  have aa:Gr w w1:=Gr.trans g0 hB
  have hMM:=hm.kp (Gr.kp hB)
  clear f0 f1 fs hB g0
  go_wp2
  have p4:=za9 (i:=1) (.slice (some ⟨w.heap.size+1,0,none⟩) k 2) (za9 (i:=0) (.bool (false&&decide (0<k))) p3)
  have hst:=(St.setCell w1 w.heap.size 0 (.bool (false&&decide (0<k)))).trans (St.setCell _ w.heap.size 1 (.slice (some ⟨w.heap.size+1,0,none⟩) k 2))
  exact bodyPost_ret (v:=.agg #[.bool (false&&decide (0<k)),.slice (some ⟨w.heap.size+1,0,none⟩) k 2]) (zb0 _ _ _ rfl rfl p4 (by kernel_rfl)) rfl ⟨⟨_,_,rfl,IsInt.mk' (s:=false) (hMM.kp (hst.kp p3 (by decide))) rfl (fun _=>by simp;omega) (Sz.i64 h0 h1)⟩,hst.gr aa (Nat.le_refl _)⟩

theorem Mag.uniq {w:World} {p:Option Addr} {l c:Nat} {a b:Int} (h:Mag w p l c a) (g:Mag w p l c b):a=b:=by
 refine eq_of_dg l h.nl.top g.nl.top fun i hi=>?_
 obtain ⟨b1,o1,e1,h1⟩:=h.row.at_ (by omega)
 obtain ⟨b2,o2,e2,h2⟩:=g.row.at_ (by omega)
 rw [e1] at e2
 simp only [Option.some.injEq,Addr.mk.injEq] at e2
 obtain ⟨rfl,rfl,_⟩:=e2
 have:=(h1 i hi).symm.trans (h2 i hi)
 simpa using this
open Classical in
noncomputable def magOf (v:Value) (w:World):Nat:=
 match v with
 | .slice p l c=>if h:∃ n:Nat,Mag w p l c (n:Int) then Classical.choose h else 0
 | _=>0
theorem yb2 {w:World} {p:Option Addr} {l c n:Nat} (h:Mag w p l c (n:Int)):magOf (.slice p l c) w=n:=by
 have hex:∃ n:Nat,Mag w p l c (n:Int):=⟨n,h⟩
 simp only [magOf]
 rw [dif_pos hex]
 have:=(Classical.choose_spec hex).uniq h
 omega

theorem sz_gcd {k m:Nat} {z u:Int} (hz:Sz k z) (hu:Sz m u):Sz (k+m) (Int.gcd z u:Int):=by
 by_cases h:z=0
 ·subst h
  rw [Int.gcd_zero_left]
  exact hu.nat.mono (by omega)
 ·have h1:Int.gcd z u≤z.natAbs:=Nat.gcd_le_left _ (by omega)
  exact Sz.of_le (hz.nat.mono (show k≤k+m by omega)) (by simp only [Int.natAbs_natCast];exact h1)

set_option maxRecDepth 100000 in
set_option maxHeartbeats 1000000 in
theorem yg0 {k m:Nat} {x y x2 y2:Value} {z u:Int} {w:World} (hz:IsInt w k x y z) (hu:IsInt w m x2 y2 u) (hk:k+m≤1000000):
  Calls Tryz.prog 122 #[.agg #[x,y],.agg #[x2,y2]] w fun e w'=>(∃ x' y',e=.returned (.agg #[x',y'])∧IsInt w' (k+m) x' y' (Int.gcd z u))∧Gr w w':=by
 obtain ⟨ao,la,ca,rfl,rfl,ha,hs⟩:=hz
 obtain ⟨bo,lb,cb,rfl,rfl,hb,ht⟩:=hu
 have hla:=ha.nl.len_sz hs.nat
 have hlb:=hb.nl.len_sz ht.nat
 have hsz:=Lib.hid (sz_gcd hs ht)
 generalize decide (z<0)=s1
 generalize decide (u<0)=s2
 go_enter Tryz.func122,Tryz.ntmps122
 go_wp2
 go_quiet (fail)
 obtain ⟨g0,f0,f1,f2,fs⟩:=zz0 w (.cells #[.bool s1,.slice ao la ca] 34) (.cells #[.bool s2,.slice bo lb cb] 34) (.cells #[.bool false,.slice none 0 0] 34)
 generalize af:((w.alloc (.cells #[.bool s1,.slice ao la ca] 34)).alloc (.cells #[.bool s2,.slice bo lb cb] 34)).alloc (.cells #[.bool false,.slice none 0 0] 34)=w0 at*
 have hA:=ha.gr g0
 have hB:=hb.gr g0
 clear f0 f1 fs af
 go_wp2
 go_loopw [5,6] (fun s5 s6 wr=>∃ (p5:Option Addr) (l5 c5:Nat) (p6:Option Addr) (l6 c6:Nat) (A B:Nat),s5=.slice p5 l5 c5∧s6=.slice p6 l6 c6∧Mag wr p5 l5 c5 (A:Int)∧Mag wr p6 l6 c6 (B:Int)∧l5≤1000000∧l6≤1000000∧Gr w0 wr∧Hid (Nat.gcd A B=Int.gcd z u)) (fun _ s6 wr=>magOf s6 wr)
 case atStart=>exact ⟨_,_,_,_,_,_,_,_,rfl,rfl,hA.gr (((Below.refl _ _).drewN _)),hB.gr (((Below.refl _ _).drewN _)),by omega,by omega,((Below.refl _ _).drewN _),rfl⟩
 case round=>
  obtain ⟨p5,l5,c5,p6,l6,c6,A,B,rfl,rfl,h5,h6,ae,aa,hG,hh⟩:=hrel
  by_cases hp:0<l6
  ·have ac:B≠0:=fun e=>by subst e;have:=h6.nl.len_zero.2 rfl;omega
   go_wp2_with fail
   refine (zB0 h5 h6 ae aa (by omega)).mono ?_
   rintro e w3 ⟨⟨qo,qk,qc,ro,rk,rc,rfl,h7,h8⟩,ab⟩
   go_wp2
   have e8:(A:Int) % (B:Int)=((A % B:Nat):Int):=(Int.natCast_emod A B).symm
   rw [e8] at h8
   have hlt:A % B<B:=Nat.mod_lt _ (by omega)
   go_roundw
   case rel=>
    refine ⟨_,_,_,_,_,_,B,A % B,rfl,rfl,h6.gr ab,h8,aa,Nat.le_trans (h8.nl.len_le h6.nl (by omega)) aa,Gr.trans hG ab,?_⟩
    show Nat.gcd B (A % B)=_
    rw [← hh.out,Nat.gcd_comm B,← Nat.gcd_rec,Nat.gcd_comm]
   case measure=>
    rw [yb2 h8,yb2 h6];exact hlt
  ·obtain rfl:l6=0:=by omega
   have ac:B=0:=by have:=h6.nl.len_zero.1 rfl;omega
   subst ac
   have p3:=Gr.heap hG f2
   have d0:=zb4 p3 0
   have d1:=zb4 p3 1
   have d2:=zk7 p3
   have ad:Gr w wr:=Gr.trans g0 hG
   have hg:A=Int.gcd z u:=by rw [← hh.out,Nat.gcd_zero_right]
   subst hg
   clear hh hG hA hB f2
   go_wp2
   have p4:=za9 (i:=1) (.slice p5 l5 c5) (za9 (i:=0) (.bool false) p3)
   have hst:=(St.setCell wr (w.heap.size+1+1) 0 (.bool false)).trans (St.setCell _ (w.heap.size+1+1) 1 (.slice p5 l5 c5))
   exact bodyPost_ret (v:=.agg #[.bool false,.slice p5 l5 c5]) (zb0 _ _ _ rfl rfl p4 (by kernel_rfl)) rfl ⟨⟨_,_,rfl,p5,l5,c5,by simp,rfl,h5.kp (hst.kp p3 (by decide)),hsz.out⟩,hst.gr ad (by omega)⟩
theorem za7 {P:Program} {w:World} {fn:Func} {tmps:Array Value} {t:Tmp} {v:Value} (h:fn.results=#[.tmp t]) (hv:tmps.getD t undef=v):(results fn tmps).run P w=.ok v w:=by
 subst hv;exact results_tmp h _ _ _
theorem yb3 {P:Program} {w:World} {fn:Func} {tmps:Array Value} {t u:Tmp} {v x:Value} (h:fn.results=#[.tmp t,.tmp u]) (hv:tmps.getD t undef=v) (hx:tmps.getD u undef=x):(results fn tmps).run P w=.ok (.tuple #[v,x]) w:=by
 subst hv hx;simp [results,h]
theorem zc0 {P:Program} {w:World} {fn:Func} {tmps:Array Value} {p u:Tmp} {t:TypeId} {v:Value} (b:Nat) (cs:Array Value) (tt:TypeId) (h:fn.results=#[.cell p t,.tmp u]) (hp:tmps.getD p undef=.pointer (some ⟨b,0,none⟩)) (hL:Lc w b cs tt) (hs:ze3 P t=some cs.size) (hv:tmps.getD u undef=v):
  (results fn tmps).run P w=.ok (.tuple #[.agg cs,v]) w:=by
 subst hv;exact zS4 b cs tt h hp hL hs
theorem zj8 {P:Program} {w:World} {fn:Func} {tmps:Array Value} {p q u:Tmp} {t t2:TypeId} {v:Value} (b c:Nat) (cs ds:Array Value) (tt aa:TypeId) (h:fn.results=#[.cell p t,.cell q t2,.tmp u]) (hp:tmps.getD p undef=.pointer (some ⟨b,0,none⟩)) (hq:tmps.getD q undef=.pointer (some ⟨c,0,none⟩))
  (hL:Lc w b cs tt) (hs:ze3 P t=some cs.size) (ac:Lc w c ds aa) (ab:ze3 P t2=some ds.size) (hv:tmps.getD u undef=v):
  (results fn tmps).run P w=.ok (.tuple #[.agg cs,.agg ds,v]) w:=by
 subst hv;exact zN8 b c cs ds tt aa h hp hq hL hs ac ab
set_option maxRecDepth 100000 in
set_option maxHeartbeats 1000000 in
theorem sub_i {k m:Nat} {x y x2 y2:Value} {z u:Int} {w:World} (hz:IsInt w k x y z) (hu:IsInt w m x2 y2 u) (_hk:k+m+1≤1000000):
    Calls Tryz.prog 145 #[(.agg #[x,y]),(.agg #[x2,y2])] w fun e w'=>(∃ x' y',e=.returned (.agg #[x',y'])∧IsInt w' (k+m+1) x' y' (z - u))∧Gr w w':=by
 go_enter Tryz.func145,Tryz.ntmps145
 have hB:=Gr.refl w
 refine wp_seq_k (fun K1 k1=>?_)
 refine rg [0,1,2] ?_
 refine se ?_
 refine eb 34 #[x,y] 2 hB fun b2 w2 g2 L2 o2 q2 hB=>?_
 simp only [p3,p4]
 refine se ?_
 refine eb 34 #[x2,y2] 3 hB fun b3 w3 g3 L3 o3 q3 hB=>?_
 simp only [p3,p4]
 refine se ?_
 refine ea 34 #[.bool false,.slice none 0 0] 4 hB fun b4 w4 g4 L4 o4 q4 hB=>?_
 replace L2:=L2.gr g3
 have ab:=L2.ne o4
 have ae:=L3.ne o4
 simp only [p3,p4]
 refine za0 ?_
 refine k1 _ _ ?_
 try clear k1 K1
 refine wp_seq_k (fun K5 k5=>?_)
 have aa:=Gr.drew w4
 replace hB:=hB.trans aa
 replace L2:=L2.gr (g4.trans aa)
 replace L3:=L3.gr (g4.trans aa)
 refine za2 (fun w'=>Lc w' b2 #[x,y] 34∧Lc w' b3 #[x2,y2] 34) [(true,0),(true,1),(false,2),(false,3),(false,4)] (by kernel_rfl) (by kernel_rfl) (by kernel_rfl) (by decide) (fun _ _ _ _ _ h=>h) ⟨L2,L3⟩ ?_
 refine ow 5 (.agg #[x,y]) rfl (fun w' hS=>(rl 34 0 [x,y] hS.1)) ?_
 refine ow 6 (.agg #[x2,y2]) rfl (fun w' hS=>(rl 34 0 [x2,y2] hS.2)) ?_
 refine oe ?_
 have ap:=g2.kp.trans (g3.kp.trans (g4.kp.trans aa.kp))
 replace hu:=hu.kp ap
 refine ec 7 (yf9 hu) ?_
 rintro av aw ⟨⟨ay,ar,rfl,aq⟩,ad⟩
 refine ⟨_,rfl,?_⟩
 replace hB:=hB.trans ad
 replace L2:=L2.gr ad
 replace L3:=L3.gr ad
 refine ⟨⟨L2,L3⟩,?_⟩
 simp only [p3,p4]
 refine oe ?_
 have ak:=g2.kp.trans (g3.kp.trans (g4.kp.trans (aa.kp.trans ad.kp)))
 replace hz:=hz.kp ak
 refine ec 8 (add_i hz aq (by omega)) ?_
 rintro ax au ⟨⟨aj,ah,rfl,af⟩,ai⟩
 refine ⟨_,rfl,?_⟩
 replace hB:=hB.trans ai
 replace L2:=L2.gr ai
 replace L3:=L3.gr ai
 refine ⟨⟨L2,L3⟩,?_⟩
 simp only [p3,p4]
 refine oe ?_
 replace L4:=L4.gr (aa.trans (ad.trans ai))
 refine es 34 0 (.agg #[aj,ah]) [aj,ah] #[aj,ah] L4 hB q4 ⟨af.one0,af.one1,trivial⟩ fun az ac al L4 hB=>?_
 replace L2:=ac.lc L2 ab
 replace L3:=ac.lc L3 ae
 refine ⟨⟨L2,L3⟩,?_⟩
 refine zb1 ?_
 refine k5 _ _ ?_
 try clear k5 K5
 refine wp_ret ?_
 refine bodyPost_ret (v:=(.agg #[aj,ah])) (zb0 _ _ _ rfl rfl L4 (by kernel_rfl)) rfl ⟨?_,hB⟩
 replace af:=af.kp al
 exact ⟨_,_,rfl,by rw [Int.sub_eq_add_neg];exact af⟩

set_option maxRecDepth 100000 in
set_option maxHeartbeats 1000000 in
theorem cmp_tt {w:World} {a b:Int} {ao bo:Option Addr} {la lb ca cb:Nat} (ha:Mag w ao la ca a) (hb:Mag w bo lb cb b) (_hla:la≤1000000) (_hlb:lb≤1000000):
    Calls Tryz.prog 79 #[(.agg #[.bool true,.slice ao la ca]),(.agg #[.bool true,.slice bo lb cb])] w fun e w'=>(e=.returned (.int .i64 (sgn (b - a))))∧Gr w w':=by
 go_enter Tryz.func79,Tryz.ntmps79
 have hB:=Gr.refl w
 refine wp_seq_k (fun K1 k1=>?_)
 refine rg [0,1,2] ?_
 refine se ?_
 refine eb 34 #[.bool true,.slice ao la ca] 2 hB fun b2 w2 g2 L2 o2 q2 hB=>?_
 simp only [p3,p4]
 refine se ?_
 refine eb 34 #[.bool true,.slice bo lb cb] 3 hB fun b3 w3 g3 L3 o3 q3 hB=>?_
 simp only [p3,p4]
 refine sv 4 (.int .i64 0) ?_
 refine za0 ?_
 refine k1 _ _ ?_
 try clear k1 K1
 refine wp_seq_k (fun K4 k4=>?_)
 refine wp_block ?_
 refine wp_seq_k (fun K5 k5=>?_)
 refine rg [0,1,2,3,4,5] ?_
 refine sv 6 (.pointer (some ⟨b2,0,none⟩)) ?_
 replace L2:=L2.gr g3
 refine sw 7 (.bool true) rfl (rk 4 0 L2) ?_
 refine sv 8 (.pointer (some ⟨b3,0,none⟩)) ?_
 refine sw 9 (.bool true) rfl (rk 4 0 L3) ?_
 refine sv 10 (.bool false) ?_
 refine sv 5 (.bool false) ?_
 refine za0 ?_
 refine k5 _ _ ?_
 try clear k5 K5
 refine wp_cond_false rfl ?_
 refine wp_seq_k (fun K6 k6=>?_)
 refine rg [0,1,2] ?_
 refine sv 14 (.pointer (some ⟨b2,0,none⟩)) ?_
 refine sw 15 (.bool true) rfl (rk 4 0 L2) ?_
 refine sv 13 (.bool true) ?_
 refine za0 ?_
 refine k6 _ _ ?_
 try clear k6 K6
 refine wp_cond_true rfl ?_
 refine wp_seq_k (fun K7 k7=>?_)
 refine rg [0,1,2,3,4,5] ?_
 refine sv 16 (.pointer (some ⟨b3,1,none⟩)) ?_
 refine sw 17 (.slice bo lb cb) rfl (rk 32 1 L3) ?_
 refine sv 18 (.pointer (some ⟨b2,1,none⟩)) ?_
 refine sw 19 (.slice ao la ca) rfl (rk 32 1 L2) ?_
 refine se ?_
 have aa:=g2.kp.trans g3.kp
 replace hb:=hb.kp aa
 replace ha:=ha.kp aa
 refine ec 20 (zM0 hb ha (by omega) (by omega)) ?_
 rintro e8 w8 ⟨rfl,g8⟩
 refine ⟨_,rfl,?_⟩
 replace hB:=hB.trans g8
 simp only [p3,p4]
 refine sv 4 (.int .i64 (sgn (b - a))) ?_
 refine za0 ?_
 refine k7 _ _ ?_
 try clear k7 K7
 refine wp_ret ?_
 simp only [Exit.then,Exit.inBlock]
 refine bodyPost_ret (v:=(.int .i64 (sgn (b - a)))) (za7 rfl rfl) rfl ⟨?_,hB⟩
 exact rfl

set_option maxRecDepth 100000 in
set_option maxHeartbeats 1000000 in
theorem cmp_tf {w:World} {a b:Int} {ao bo:Option Addr} {la lb ca cb:Nat} (_ha:Mag w ao la ca a) (_hb:Mag w bo lb cb b) (_hla:la≤1000000) (_hlb:lb≤1000000):
    Calls Tryz.prog 79 #[(.agg #[.bool true,.slice ao la ca]),(.agg #[.bool false,.slice bo lb cb])] w fun e w'=>(e=.returned (.int .i64 (-1)))∧Gr w w':=by
 go_enter Tryz.func79,Tryz.ntmps79
 have hB:=Gr.refl w
 refine wp_seq_k (fun K1 k1=>?_)
 refine rg [0,1,2] ?_
 refine se ?_
 refine eb 34 #[.bool true,.slice ao la ca] 2 hB fun b2 w2 g2 L2 o2 q2 hB=>?_
 simp only [p3,p4]
 refine se ?_
 refine eb 34 #[.bool false,.slice bo lb cb] 3 hB fun b3 w3 g3 L3 o3 q3 hB=>?_
 simp only [p3,p4]
 refine sv 4 (.int .i64 0) ?_
 refine za0 ?_
 refine k1 _ _ ?_
 try clear k1 K1
 refine wp_seq_k (fun K4 k4=>?_)
 refine wp_block ?_
 refine wp_seq_k (fun K5 k5=>?_)
 refine rg [0,1,2,3,4,5] ?_
 refine sv 6 (.pointer (some ⟨b2,0,none⟩)) ?_
 replace L2:=L2.gr g3
 refine sw 7 (.bool true) rfl (rk 4 0 L2) ?_
 refine sv 8 (.pointer (some ⟨b3,0,none⟩)) ?_
 refine sw 9 (.bool false) rfl (rk 4 0 L3) ?_
 refine sv 10 (.bool true) ?_
 refine sv 5 (.bool true) ?_
 refine za0 ?_
 refine k5 _ _ ?_
 try clear k5 K5
 refine wp_cond_true rfl ?_
 refine wp_seq_k (fun K6 k6=>?_)
 refine wp_seq_k (fun K7 k7=>?_)
 refine rg [0,1] ?_
 refine sv 11 (.pointer (some ⟨b2,0,none⟩)) ?_
 refine sw 12 (.bool true) rfl (rk 4 0 L2) ?_
 refine za0 ?_
 refine k7 _ _ ?_
 try clear k7 K7
 refine wp_cond_true rfl ?_
 refine wp_seq_k (fun K8 k8=>?_)
 refine rg [0] ?_
 refine sv 4 (.int .i64 (-1)) ?_
 refine za0 ?_
 refine k8 _ _ ?_
 try clear k8 K8
 refine wp_ret ?_
 simp only [Exit.then,Exit.inBlock]
 refine bodyPost_ret (v:=(.int .i64 (-1))) (za7 rfl rfl) rfl ⟨?_,hB⟩
 exact rfl

set_option maxRecDepth 100000 in
set_option maxHeartbeats 1000000 in
theorem cmp_ft {w:World} {a b:Int} {ao bo:Option Addr} {la lb ca cb:Nat} (_ha:Mag w ao la ca a) (_hb:Mag w bo lb cb b) (_hla:la≤1000000) (_hlb:lb≤1000000):
    Calls Tryz.prog 79 #[(.agg #[.bool false,.slice ao la ca]),(.agg #[.bool true,.slice bo lb cb])] w fun e w'=>(e=.returned (.int .i64 (1)))∧Gr w w':=by
 go_enter Tryz.func79,Tryz.ntmps79
 have hB:=Gr.refl w
 refine wp_seq_k (fun K1 k1=>?_)
 refine rg [0,1,2] ?_
 refine se ?_
 refine eb 34 #[.bool false,.slice ao la ca] 2 hB fun b2 w2 g2 L2 o2 q2 hB=>?_
 simp only [p3,p4]
 refine se ?_
 refine eb 34 #[.bool true,.slice bo lb cb] 3 hB fun b3 w3 g3 L3 o3 q3 hB=>?_
 simp only [p3,p4]
 refine sv 4 (.int .i64 0) ?_
 refine za0 ?_
 refine k1 _ _ ?_
 try clear k1 K1
 refine wp_seq_k (fun K4 k4=>?_)
 refine wp_block ?_
 refine wp_seq_k (fun K5 k5=>?_)
 refine rg [0,1,2,3,4,5] ?_
 refine sv 6 (.pointer (some ⟨b2,0,none⟩)) ?_
 replace L2:=L2.gr g3
 refine sw 7 (.bool false) rfl (rk 4 0 L2) ?_
 refine sv 8 (.pointer (some ⟨b3,0,none⟩)) ?_
 refine sw 9 (.bool true) rfl (rk 4 0 L3) ?_
 refine sv 10 (.bool true) ?_
 refine sv 5 (.bool true) ?_
 refine za0 ?_
 refine k5 _ _ ?_
 try clear k5 K5
 refine wp_cond_true rfl ?_
 refine wp_seq_k (fun K6 k6=>?_)
 refine wp_seq_k (fun K7 k7=>?_)
 refine rg [0,1] ?_
 refine sv 11 (.pointer (some ⟨b2,0,none⟩)) ?_
 refine sw 12 (.bool false) rfl (rk 4 0 L2) ?_
 refine za0 ?_
 refine k7 _ _ ?_
 try clear k7 K7
 refine wp_cond_false rfl ?_
 refine wp_skip ?_
 refine k6 _ _ ?_
 try clear k6 K6
 refine wp_seq_k (fun K8 k8=>?_)
 refine rg [0] ?_
 refine sv 4 (.int .i64 1) ?_
 refine za0 ?_
 refine k8 _ _ ?_
 try clear k8 K8
 refine wp_ret ?_
 simp only [Exit.then,Exit.inBlock]
 refine bodyPost_ret (v:=(.int .i64 1)) (za7 rfl rfl) rfl ⟨?_,hB⟩
 exact rfl

set_option maxRecDepth 100000 in
set_option maxHeartbeats 1000000 in
theorem cmp_ff {w:World} {a b:Int} {ao bo:Option Addr} {la lb ca cb:Nat} (ha:Mag w ao la ca a) (hb:Mag w bo lb cb b) (_hla:la≤1000000) (_hlb:lb≤1000000):
    Calls Tryz.prog 79 #[(.agg #[.bool false,.slice ao la ca]),(.agg #[.bool false,.slice bo lb cb])] w fun e w'=>(e=.returned (.int .i64 (sgn (a - b))))∧Gr w w':=by
 go_enter Tryz.func79,Tryz.ntmps79
 have hB:=Gr.refl w
 refine wp_seq_k (fun K1 k1=>?_)
 refine rg [0,1,2] ?_
 refine se ?_
 refine eb 34 #[.bool false,.slice ao la ca] 2 hB fun b2 w2 g2 L2 o2 q2 hB=>?_
 simp only [p3,p4]
 refine se ?_
 refine eb 34 #[.bool false,.slice bo lb cb] 3 hB fun b3 w3 g3 L3 o3 q3 hB=>?_
 simp only [p3,p4]
 refine sv 4 (.int .i64 0) ?_
 refine za0 ?_
 refine k1 _ _ ?_
 try clear k1 K1
 refine wp_seq_k (fun K4 k4=>?_)
 refine wp_block ?_
 refine wp_seq_k (fun K5 k5=>?_)
 refine rg [0,1,2,3,4,5] ?_
 refine sv 6 (.pointer (some ⟨b2,0,none⟩)) ?_
 replace L2:=L2.gr g3
 refine sw 7 (.bool false) rfl (rk 4 0 L2) ?_
 refine sv 8 (.pointer (some ⟨b3,0,none⟩)) ?_
 refine sw 9 (.bool false) rfl (rk 4 0 L3) ?_
 refine sv 10 (.bool false) ?_
 refine sv 5 (.bool false) ?_
 refine za0 ?_
 refine k5 _ _ ?_
 try clear k5 K5
 refine wp_cond_false rfl ?_
 refine wp_seq_k (fun K6 k6=>?_)
 refine rg [0,1,2] ?_
 refine sv 14 (.pointer (some ⟨b2,0,none⟩)) ?_
 refine sw 15 (.bool false) rfl (rk 4 0 L2) ?_
 refine sv 13 (.bool false) ?_
 refine za0 ?_
 refine k6 _ _ ?_
 try clear k6 K6
 refine wp_cond_false rfl ?_
 refine wp_skip ?_
 refine k4 _ _ ?_
 try clear k4 K4
 refine wp_seq_k (fun K7 k7=>?_)
 refine rg [0,1,2,3,4,5] ?_
 refine sv 21 (.pointer (some ⟨b2,1,none⟩)) ?_
 refine sw 22 (.slice ao la ca) rfl (rk 32 1 L2) ?_
 refine sv 23 (.pointer (some ⟨b3,1,none⟩)) ?_
 refine sw 24 (.slice bo lb cb) rfl (rk 32 1 L3) ?_
 refine se ?_
 have aa:=g2.kp.trans g3.kp
 replace ha:=ha.kp aa
 replace hb:=hb.kp aa
 refine ec 25 (zM0 ha hb (by omega) (by omega)) ?_
 rintro e8 w8 ⟨rfl,g8⟩
 refine ⟨_,rfl,?_⟩
 replace hB:=hB.trans g8
 simp only [p3,p4]
 refine sv 4 (.int .i64 (sgn (a - b))) ?_
 refine za0 ?_
 refine k7 _ _ ?_
 try clear k7 K7
 refine wp_ret ?_
 refine bodyPost_ret (v:=(.int .i64 (sgn (a - b)))) (za7 rfl rfl) rfl ⟨?_,hB⟩
 exact rfl

set_option maxRecDepth 100000 in
set_option maxHeartbeats 1000000 in
theorem divmod_0 {w:World} {s:Bool} {K m:Nat} {a b Z:Int} {ao bo:Option Addr} {la lb ca cb:Nat} (ha:Mag w ao la ca a) (hb:Mag w bo lb cb b) (hu:IsInt w m (.bool false) (.slice bo lb cb) b) (_hla:la≤1000000) (_hlb:lb≤1000000) (_hb0:0<b) (hd:a % b=0) (hQ:a/b=(Z.natAbs:Int)) (hS:0<a/b→(s !=false)=decide (Z<0)) (hZ:Sz K Z) (hK:K≤1000000) (hm:m≤1000000):
    Calls Tryz.prog 123 #[(.agg #[(.bool (s)),.slice ao la ca]),(.agg #[.bool false,.slice bo lb cb])] w fun e w'=>(∃ x' y' x3 y3,e=.returned (.tuple #[.agg #[x',y'],.agg #[x3,y3],.int .i64 0])∧IsInt w' K x' y' (Z)∧IsInt w' m x3 y3 (0))∧Gr w w':=by
 have hR:a % b=((0:Int).natAbs:Int):=hd
 go_enter Tryz.func123,Tryz.ntmps123
 have hB:=Gr.refl w
 refine wp_seq_k (fun K1 k1=>?_)
 refine rg [0,1,2,3,4] ?_
 refine se ?_
 refine eb 34 #[(.bool (s)),.slice ao la ca] 2 hB fun b2 w2 g2 L2 o2 q2 hB=>?_
 simp only [p3,p4]
 refine se ?_
 refine eb 34 #[.bool false,.slice bo lb cb] 3 hB fun b3 w3 g3 L3 o3 q3 hB=>?_
 simp only [p3,p4]
 refine se ?_
 refine ea 34 #[.bool false,.slice none 0 0] 4 hB fun b4 w4 g4 L4 o4 q4 hB=>?_
 replace L2:=L2.gr g3
 have aH:=L2.ne o4
 have aF:=L3.ne o4
 simp only [p3,p4]
 refine se ?_
 refine ea 34 #[.bool false,.slice none 0 0] 5 hB fun b5 w5 g5 L5 o5 q5 hB=>?_
 replace L2:=L2.gr g4
 have aE:=L2.ne o5
 replace L3:=L3.gr g4
 have aC:=L3.ne o5
 have ab:=L4.ne o5
 simp only [p3,p4]
 refine sv 6 (.int .i64 0) ?_
 refine za0 ?_
 refine k1 _ _ ?_
 try clear k1 K1
 refine wp_seq_k (fun K6 k6=>?_)
 refine wp_seq_k (fun K7 k7=>?_)
 refine rg [0,1,2] ?_
 replace L3:=L3.gr g5
 refine sw 9 (.agg #[.bool false,.slice bo lb cb]) rfl (rl 34 0 [.bool false,.slice bo lb cb] L3) ?_
 refine se ?_
 have aX:=g2.kp.trans (g3.kp.trans (g4.kp.trans g5.kp))
 replace hu:=hu.kp aX
 refine ec 10 (zj0 hu (by omega)) ?_
 rintro e8 w8 ⟨rfl,g8⟩
 refine ⟨_,rfl,?_⟩
 replace hB:=hB.trans g8
 simp only [p3,p4]
 refine sv 11 (.bool false) ?_
 refine za0 ?_
 refine k7 _ _ ?_
 try clear k7 K7
 refine wp_cond_false rfl ?_
 refine wp_skip ?_
 refine k6 _ _ ?_
 try clear k6 K6
 refine wp_seq_k (fun a1 aV=>?_)
 refine rg [0,1,2,3,4,5,6,7,8,9] ?_
 refine sv 15 (.pointer (some ⟨b2,1,none⟩)) ?_
 replace L2:=L2.gr (g5.trans g8)
 refine sw 16 (.slice ao la ca) rfl (rk 32 1 L2) ?_
 refine sv 17 (.pointer (some ⟨b3,1,none⟩)) ?_
 replace L3:=L3.gr g8
 refine sw 18 (.slice bo lb cb) rfl (rk 32 1 L3) ?_
 refine se ?_
 have aB:=g2.kp.trans (g3.kp.trans (g4.kp.trans (g5.kp.trans g8.kp)))
 replace ha:=ha.kp aB
 replace hb:=hb.kp aB
 refine ec 19 (zB0 ha hb (by omega) (by omega) (by omega)) ?_
 rintro e11 a3 ⟨⟨ak,ar,aj,ap,al,aq,rfl,ax,ay⟩,aI⟩
 refine ⟨_,rfl,?_⟩
 replace hB:=hB.trans aI
 simp only [p3,p4]
 refine sv 14 (.tuple #[.slice ak ar aj,.slice ap al aq]) ?_
 refine sv 20 (.slice ak ar aj) ?_
 refine sv 21 (.slice ap al aq) ?_
 refine sv 7 (.slice ak ar aj) ?_
 refine sv 8 (.slice ap al aq) ?_
 refine za0 ?_
 refine aV _ _ ?_
 try clear aV a1
 refine wp_seq_k (fun a4 aS=>?_)
 have aa:=Gr.drew a3
 replace hB:=hB.trans aa
 replace L2:=L2.gr (aI.trans aa)
 replace L3:=L3.gr (aI.trans aa)
 refine za2 (fun w'=>Lc w' b2 #[(.bool (s)),.slice ao la ca] 34∧Lc w' b3 #[.bool false,.slice bo lb cb] 34) [(true,0),(true,1),(true,2),(true,3),(true,4),(true,5),(true,7),(true,8),(true,9),(false,6),(false,10),(false,11),(false,12)] (by kernel_rfl) (by kernel_rfl) (by kernel_rfl) (by decide) (fun _ _ _ _ _ h=>h) ⟨L2,L3⟩ ?_
 refine ov 22 (.pointer (some ⟨b2,0,none⟩)) ?_
 refine ow 23 (.bool (s)) rfl (fun w' hS=>(rk 4 0 hS.1)) ?_
 refine ov 24 (.pointer (some ⟨b3,0,none⟩)) ?_
 refine ow 25 (.bool false) rfl (fun w' hS=>(rk 4 0 hS.2)) ?_
 refine ov 26 (.bool ((s !=false))) ?_
 refine ov 27 (.slice ak ar aj) ?_
 refine ov 29 (.pointer (some ⟨b2,0,none⟩)) ?_
 refine ow 30 (.bool (s)) rfl (fun w' hS=>(rk 4 0 hS.1)) ?_
 refine ov 31 (.slice ap al aq) ?_
 refine oe ?_
 replace ax:=ax.kp aa.kp
 refine ec 28 (zB1 (neg:=(s !=false)) (Z:=Z) ax hQ hS hZ hK) ?_
 rintro a7 a8 ⟨⟨ai,ah,rfl,aw⟩,aA⟩
 refine ⟨_,rfl,?_⟩
 replace hB:=hB.trans aA
 replace L2:=L2.gr aA
 replace L3:=L3.gr aA
 refine ⟨⟨L2,L3⟩,?_⟩
 simp only [p3,p4]
 refine oe ?_
 have aO:=aa.kp.trans aA.kp
 replace ay:=ay.kp aO
 refine ec 32 (zB1 (neg:=s) (Z:=0) ay hR (fun h=>by omega) (Sz.zero m) hm) ?_
 rintro a5 bb ⟨⟨ac,ad,rfl,af⟩,az⟩
 refine ⟨_,rfl,?_⟩
 replace hB:=hB.trans az
 replace L2:=L2.gr az
 replace L3:=L3.gr az
 refine ⟨⟨L2,L3⟩,?_⟩
 simp only [p3,p4]
 refine oe ?_
 replace L4:=L4.gr (g5.trans (g8.trans (aI.trans (aa.trans (aA.trans az)))))
 refine es 34 0 (.agg #[ai,ah]) [ai,ah] #[ai,ah] L4 hB q4 ⟨aw.one0,aw.one1,trivial⟩ fun bd av aJ L4 hB=>?_
 replace L2:=av.lc L2 aH
 replace L3:=av.lc L3 aF
 refine ⟨⟨L2,L3⟩,?_⟩
 refine oe ?_
 replace L5:=av.lc (L5.gr (g8.trans (aI.trans (aa.trans (aA.trans az))))) (Ne.symm ab)
 refine es 34 0 (.agg #[ac,ad]) [ac,ad] #[ac,ad] L5 hB q5 ⟨af.one0,af.one1,trivial⟩ fun a6 au aD L5 hB=>?_
 replace L2:=au.lc L2 aE
 replace L3:=au.lc L3 aC
 refine ⟨⟨L2,L3⟩,?_⟩
 refine zb1 ?_
 refine aS _ _ ?_
 try clear aS a4
 refine wp_seq_k (fun a0 aW=>?_)
 refine wp_seq_k (fun a2 aU=>?_)
 refine rg [0,1,2,3,4,5,6,7,8,9] ?_
 refine sw 33 (.agg #[ac,ad]) rfl (rl 34 0 [ac,ad] L5) ?_
 refine se ?_
 have aM:=aJ.trans aD
 replace af:=af.kp aM
 refine ec 34 (zD4 af) ?_
 rintro ba aY ⟨rfl,aL⟩
 refine ⟨_,rfl,?_⟩
 replace hB:=hB.trans aL
 simp only [p3,p4]
 refine sv 35 (.bool false) ?_
 refine sv 36 (.bool false) ?_
 refine ss 37 ?_
 refine ss 38 ?_
 refine ss 39 ?_
 refine ss 40 ?_
 refine ss 41 ?_
 refine sv 42 (.bool false) ?_
 refine za0 ?_
 refine aU _ _ ?_
 try clear aU a2
 refine wp_cond_false rfl ?_
 refine wp_skip ?_
 refine aW _ _ ?_
 try clear aW a0
 refine wp_seq_k (fun aZ aT=>?_)
 have ae:=Gr.drew aY
 replace hB:=hB.trans ae
 replace L4:=(au.lc L4 ab).gr (aL.trans ae)
 replace L5:=L5.gr (aL.trans ae)
 refine zd9 (fun _=>True) [([2],(fun w'=>Lc w' b4 #[ai,ah] 34)),([3],(fun w'=>Lc w' b5 #[ac,ad] 34))] [(true,0),(true,1),(false,2),(false,3),(true,4)] (by kernel_rfl) (by kernel_rfl) (by kernel_rfl) (by decide) (fun _ _ _ _ _ h=>h) trivial ⟨fun _=>L4,fun _=>L5,trivial⟩ ?_
 refine tw 49 (.agg #[ai,ah]) rfl (fun w' hS=>(rl 34 0 [ai,ah] (hS.2.1 (by kernel_rfl)))) ?_
 refine tw 50 (.agg #[ac,ad]) rfl (fun w' hS=>(rl 34 0 [ac,ad] (hS.2.2.1 (by kernel_rfl)))) ?_
 refine te ?_
 refine es 34 0 (.agg #[ai,ah]) [ai,ah] #[ai,ah] L4 hB q4 ⟨aw.one0,aw.one1,trivial⟩ fun a9 aP aK L4 hB=>?_
 replace L5:=aP.lc L5 (Ne.symm ab)
 refine ⟨trivial,⟨zn0 (by kernel_rfl),fun _=>L5,trivial⟩,?_⟩
 refine te ?_
 refine es 34 0 (.agg #[ac,ad]) [ac,ad] #[ac,ad] L5 hB q5 ⟨af.one0,af.one1,trivial⟩ fun bc aQ aG L5 hB=>?_
 refine ⟨trivial,⟨zn0 (by kernel_rfl),zn0 (by kernel_rfl),trivial⟩,?_⟩
 refine tv 6 (.int .i64 0) ?_
 refine zx2 ?_
 refine aT _ _ ?_
 try clear aT aZ
 refine wp_ret ?_
 replace L4:=aQ.lc L4 ab
 refine bodyPost_ret (v:=(.tuple #[(.agg #[ai,ah]),(.agg #[ac,ad]),.int .i64 0])) (zj8 _ _ _ _ _ _ rfl rfl rfl L4 (by kernel_rfl) L5 (by kernel_rfl) rfl) rfl ⟨?_,hB⟩
 have aN:=az.kp.trans (aJ.trans (aD.trans (aL.kp.trans (ae.kp.trans (aK.trans aG)))))
 replace aw:=aw.kp aN
 have aR:=aL.kp.trans (ae.kp.trans (aK.trans aG))
 replace af:=af.kp aR
 exact ⟨_,_,_,_,rfl,aw,af⟩

set_option maxRecDepth 100000 in
set_option maxHeartbeats 1000000 in
theorem divmod_f {w:World} {K m:Nat} {a b:Int} {ao bo:Option Addr} {la lb ca cb:Nat} (ha:Mag w ao la ca a) (hb:Mag w bo lb cb b) (hu:IsInt w m (.bool false) (.slice bo lb cb) b) (_hla:la≤1000000) (_hlb:lb≤1000000) (_hb0:0<b) (hR:0<a % b) (_hL:a % b<b) (_hQ:0≤a/b) (hZ:Sz K (a/b)) (hK:K≤1000000) (hm:m≤1000000):
    Calls Tryz.prog 123 #[(.agg #[.bool false,.slice ao la ca]),(.agg #[.bool false,.slice bo lb cb])] w fun e w'=>(∃ x' y' x3 y3,e=.returned (.tuple #[.agg #[x',y'],.agg #[x3,y3],.int .i64 0])∧IsInt w' K x' y' (a/b)∧IsInt w' m x3 y3 (a % b))∧Gr w w':=by
 go_enter Tryz.func123,Tryz.ntmps123
 have hB:=Gr.refl w
 refine wp_seq_k (fun K1 k1=>?_)
 refine rg [0,1,2,3,4] ?_
 refine se ?_
 refine eb 34 #[.bool false,.slice ao la ca] 2 hB fun b2 w2 g2 L2 o2 q2 hB=>?_
 simp only [p3,p4]
 refine se ?_
 refine eb 34 #[.bool false,.slice bo lb cb] 3 hB fun b3 w3 g3 L3 o3 q3 hB=>?_
 simp only [p3,p4]
 refine se ?_
 refine ea 34 #[.bool false,.slice none 0 0] 4 hB fun b4 w4 g4 L4 o4 q4 hB=>?_
 replace L2:=L2.gr g3
 have aH:=L2.ne o4
 have aF:=L3.ne o4
 simp only [p3,p4]
 refine se ?_
 refine ea 34 #[.bool false,.slice none 0 0] 5 hB fun b5 w5 g5 L5 o5 q5 hB=>?_
 replace L2:=L2.gr g4
 have aE:=L2.ne o5
 replace L3:=L3.gr g4
 have aC:=L3.ne o5
 have ad:=L4.ne o5
 simp only [p3,p4]
 refine sv 6 (.int .i64 0) ?_
 refine za0 ?_
 refine k1 _ _ ?_
 try clear k1 K1
 refine wp_seq_k (fun K6 k6=>?_)
 refine wp_seq_k (fun K7 k7=>?_)
 refine rg [0,1,2] ?_
 replace L3:=L3.gr g5
 refine sw 9 (.agg #[.bool false,.slice bo lb cb]) rfl (rl 34 0 [.bool false,.slice bo lb cb] L3) ?_
 refine se ?_
 have aW:=g2.kp.trans (g3.kp.trans (g4.kp.trans g5.kp))
 replace hu:=hu.kp aW
 refine ec 10 (zj0 hu (by omega)) ?_
 rintro e8 w8 ⟨rfl,g8⟩
 refine ⟨_,rfl,?_⟩
 replace hB:=hB.trans g8
 simp only [p3,p4]
 refine sv 11 (.bool false) ?_
 refine za0 ?_
 refine k7 _ _ ?_
 try clear k7 K7
 refine wp_cond_false rfl ?_
 refine wp_skip ?_
 refine k6 _ _ ?_
 try clear k6 K6
 refine wp_seq_k (fun a0 aU=>?_)
 refine rg [0,1,2,3,4,5,6,7,8,9] ?_
 refine sv 15 (.pointer (some ⟨b2,1,none⟩)) ?_
 replace L2:=L2.gr (g5.trans g8)
 refine sw 16 (.slice ao la ca) rfl (rk 32 1 L2) ?_
 refine sv 17 (.pointer (some ⟨b3,1,none⟩)) ?_
 replace L3:=L3.gr g8
 refine sw 18 (.slice bo lb cb) rfl (rk 32 1 L3) ?_
 refine se ?_
 have aB:=g2.kp.trans (g3.kp.trans (g4.kp.trans (g5.kp.trans g8.kp)))
 replace ha:=ha.kp aB
 replace hb:=hb.kp aB
 refine ec 19 (zB0 ha hb (by omega) (by omega) (by omega)) ?_
 rintro e11 a2 ⟨⟨ak,ap,aj,aa,al,ab,rfl,av,aw⟩,aI⟩
 refine ⟨_,rfl,?_⟩
 replace hB:=hB.trans aI
 simp only [p3,p4]
 refine sv 14 (.tuple #[.slice ak ap aj,.slice aa al ab]) ?_
 refine sv 20 (.slice ak ap aj) ?_
 refine sv 21 (.slice aa al ab) ?_
 refine sv 7 (.slice ak ap aj) ?_
 refine sv 8 (.slice aa al ab) ?_
 refine za0 ?_
 refine aU _ _ ?_
 try clear aU a0
 refine wp_seq_k (fun a3 aR=>?_)
 have ac:=Gr.drew a2
 replace hB:=hB.trans ac
 replace L2:=L2.gr (aI.trans ac)
 replace L3:=L3.gr (aI.trans ac)
 refine za2 (fun w'=>Lc w' b2 #[.bool false,.slice ao la ca] 34∧Lc w' b3 #[.bool false,.slice bo lb cb] 34) [(true,0),(true,1),(true,2),(true,3),(true,4),(true,5),(true,7),(true,8),(true,9),(false,6),(false,10),(false,11),(false,12)] (by kernel_rfl) (by kernel_rfl) (by kernel_rfl) (by decide) (fun _ _ _ _ _ h=>h) ⟨L2,L3⟩ ?_
 refine ov 22 (.pointer (some ⟨b2,0,none⟩)) ?_
 refine ow 23 (.bool false) rfl (fun w' hS=>(rk 4 0 hS.1)) ?_
 refine ov 24 (.pointer (some ⟨b3,0,none⟩)) ?_
 refine ow 25 (.bool false) rfl (fun w' hS=>(rk 4 0 hS.2)) ?_
 refine ov 26 (.bool false) ?_
 refine ov 27 (.slice ak ap aj) ?_
 refine ov 29 (.pointer (some ⟨b2,0,none⟩)) ?_
 refine ow 30 (.bool false) rfl (fun w' hS=>(rk 4 0 hS.1)) ?_
 refine ov 31 (.slice aa al ab) ?_
 refine oe ?_
 replace av:=av.kp ac.kp
 refine ec 28 (zB1 (neg:=false) (Z:=(a/b)) av (by omega) (fun _=>by simp;omega) hZ hK) ?_
 rintro a6 a7 ⟨⟨ai,ah,rfl,au⟩,az⟩
 refine ⟨_,rfl,?_⟩
 replace hB:=hB.trans az
 replace L2:=L2.gr az
 replace L3:=L3.gr az
 refine ⟨⟨L2,L3⟩,?_⟩
 simp only [p3,p4]
 refine oe ?_
 have aN:=ac.kp.trans az.kp
 replace aw:=aw.kp aN
 refine ec 32 (yn3 aw hR (Sz.of_le hu.sz (by omega)) hm) ?_
 rintro a4 ba ⟨⟨ae,rfl,ax⟩,ay⟩
 refine ⟨_,rfl,?_⟩
 replace hB:=hB.trans ay
 replace L2:=L2.gr ay
 replace L3:=L3.gr ay
 refine ⟨⟨L2,L3⟩,?_⟩
 simp only [p3,p4]
 refine oe ?_
 replace L4:=L4.gr (g5.trans (g8.trans (aI.trans (ac.trans (az.trans ay)))))
 refine es 34 0 (.agg #[ai,ah]) [ai,ah] #[ai,ah] L4 hB q4 ⟨au.one0,au.one1,trivial⟩ fun bc ar aJ L4 hB=>?_
 replace L2:=ar.lc L2 aH
 replace L3:=ar.lc L3 aF
 refine ⟨⟨L2,L3⟩,?_⟩
 refine oe ?_
 replace L5:=ar.lc (L5.gr (g8.trans (aI.trans (ac.trans (az.trans ay))))) (Ne.symm ad)
 refine es 34 0 (.agg #[.bool false,.slice aa ae ab]) [.bool false,.slice aa ae ab] #[.bool false,.slice aa ae ab] L5 hB q5 ⟨rfl,rfl,trivial⟩ fun a5 aq aD L5 hB=>?_
 replace L2:=aq.lc L2 aE
 replace L3:=aq.lc L3 aC
 refine ⟨⟨L2,L3⟩,?_⟩
 refine zb1 ?_
 refine aR _ _ ?_
 try clear aR a3
 refine wp_seq_k (fun aZ aV=>?_)
 refine wp_seq_k (fun a1 aT=>?_)
 refine rg [0,1,2,3,4,5,6,7,8,9] ?_
 refine sw 33 (.agg #[.bool false,.slice aa ae ab]) rfl (rl 34 0 [.bool false,.slice aa ae ab] L5) ?_
 refine se ?_
 have aL:=aJ.trans aD
 replace ax:=ax.kp aL
 refine ec 34 (zj0 ax (by omega)) ?_
 rintro a9 aX ⟨rfl,aA⟩
 refine ⟨_,rfl,?_⟩
 replace hB:=hB.trans aA
 simp only [p3,p4]
 refine sv 35 (.bool true) ?_
 refine sv 36 (.bool true) ?_
 refine sv 37 (.pointer (some ⟨b5,0,none⟩)) ?_
 replace L5:=L5.gr aA
 refine sw 38 (.bool false) rfl (rk 4 0 L5) ?_
 refine sv 39 (.pointer (some ⟨b3,0,none⟩)) ?_
 replace L3:=L3.gr aA
 refine sw 40 (.bool false) rfl (rk 4 0 L3) ?_
 refine sv 41 (.bool false) ?_
 refine sv 42 (.bool false) ?_
 refine za0 ?_
 refine aT _ _ ?_
 try clear aT a1
 refine wp_cond_false rfl ?_
 refine wp_skip ?_
 refine aV _ _ ?_
 try clear aV aZ
 refine wp_seq_k (fun aY aS=>?_)
 have af:=Gr.drew aX
 replace hB:=hB.trans af
 replace L4:=(aq.lc L4 ad).gr (aA.trans af)
 replace L5:=L5.gr af
 refine zd9 (fun _=>True) [([2],(fun w'=>Lc w' b4 #[ai,ah] 34)),([3],(fun w'=>Lc w' b5 #[.bool false,.slice aa ae ab] 34))] [(true,0),(true,1),(false,2),(false,3),(true,4)] (by kernel_rfl) (by kernel_rfl) (by kernel_rfl) (by decide) (fun _ _ _ _ _ h=>h) trivial ⟨fun _=>L4,fun _=>L5,trivial⟩ ?_
 refine tw 49 (.agg #[ai,ah]) rfl (fun w' hS=>(rl 34 0 [ai,ah] (hS.2.1 (by kernel_rfl)))) ?_
 refine tw 50 (.agg #[.bool false,.slice aa ae ab]) rfl (fun w' hS=>(rl 34 0 [.bool false,.slice aa ae ab] (hS.2.2.1 (by kernel_rfl)))) ?_
 refine te ?_
 refine es 34 0 (.agg #[ai,ah]) [ai,ah] #[ai,ah] L4 hB q4 ⟨au.one0,au.one1,trivial⟩ fun a8 aO aK L4 hB=>?_
 replace L5:=aO.lc L5 (Ne.symm ad)
 refine ⟨trivial,⟨zn0 (by kernel_rfl),fun _=>L5,trivial⟩,?_⟩
 refine te ?_
 refine es 34 0 (.agg #[.bool false,.slice aa ae ab]) [.bool false,.slice aa ae ab] #[.bool false,.slice aa ae ab] L5 hB q5 ⟨rfl,rfl,trivial⟩ fun bb aP aG L5 hB=>?_
 refine ⟨trivial,⟨zn0 (by kernel_rfl),zn0 (by kernel_rfl),trivial⟩,?_⟩
 refine tv 6 (.int .i64 0) ?_
 refine zx2 ?_
 refine aS _ _ ?_
 try clear aS aY
 refine wp_ret ?_
 replace L4:=aP.lc L4 ad
 refine bodyPost_ret (v:=(.tuple #[(.agg #[ai,ah]),(.agg #[.bool false,.slice aa ae ab]),.int .i64 0])) (zj8 _ _ _ _ _ _ rfl rfl rfl L4 (by kernel_rfl) L5 (by kernel_rfl) rfl) rfl ⟨?_,hB⟩
 have aM:=ay.kp.trans (aJ.trans (aD.trans (aA.kp.trans (af.kp.trans (aK.trans aG)))))
 replace au:=au.kp aM
 have aQ:=aA.kp.trans (af.kp.trans (aK.trans aG))
 replace ax:=ax.kp aQ
 exact ⟨_,_,_,_,rfl,au,ax⟩

set_option maxRecDepth 100000 in
set_option maxHeartbeats 1000000 in
theorem divmod_t {w:World} {K m:Nat} {a b:Int} {ao bo:Option Addr} {la lb ca cb:Nat} (ha:Mag w ao la ca a) (hb:Mag w bo lb cb b) (hu:IsInt w m (.bool false) (.slice bo lb cb) b) (_hla:la≤1000000) (_hlb:lb≤1000000) (_hb0:0<b) (hR:0<a % b) (_hL:a % b<b) (_hQ:0≤a/b) (hZ:Sz K (-(a/b))) (_hK:K+64+1≤1000000) (_hm:m+m+1≤1000000):
    Calls Tryz.prog 123 #[(.agg #[.bool true,.slice ao la ca]),(.agg #[.bool false,.slice bo lb cb])] w fun e w'=>(∃ x' y' x3 y3,e=.returned (.tuple #[.agg #[x',y'],.agg #[x3,y3],.int .i64 0])∧IsInt w' (K+64+1) x' y' (-(a/b) - 1)∧IsInt w' (m+m+1) x3 y3 (-(a % b)+b))∧Gr w w':=by
 go_enter Tryz.func123,Tryz.ntmps123
 have hB:=Gr.refl w
 refine wp_seq_k (fun K1 k1=>?_)
 refine rg [0,1,2,3,4] ?_
 refine se ?_
 refine eb 34 #[.bool true,.slice ao la ca] 2 hB fun b2 w2 g2 L2 o2 q2 hB=>?_
 simp only [p3,p4]
 refine se ?_
 refine eb 34 #[.bool false,.slice bo lb cb] 3 hB fun b3 w3 g3 L3 o3 q3 hB=>?_
 simp only [p3,p4]
 refine se ?_
 refine ea 34 #[.bool false,.slice none 0 0] 4 hB fun b4 w4 g4 L4 o4 q4 hB=>?_
 replace L2:=L2.gr g3
 have aV:=L2.ne o4
 have au:=L3.ne o4
 simp only [p3,p4]
 refine se ?_
 refine ea 34 #[.bool false,.slice none 0 0] 5 hB fun b5 w5 g5 L5 o5 q5 hB=>?_
 replace L2:=L2.gr g4
 have aR:=L2.ne o5
 replace L3:=L3.gr g4
 have aw:=L3.ne o5
 have ac:=L4.ne o5
 simp only [p3,p4]
 refine sv 6 (.int .i64 0) ?_
 refine za0 ?_
 refine k1 _ _ ?_
 try clear k1 K1
 refine wp_seq_k (fun K6 k6=>?_)
 refine wp_seq_k (fun K7 k7=>?_)
 refine rg [0,1,2] ?_
 replace L3:=L3.gr g5
 refine sw 9 (.agg #[.bool false,.slice bo lb cb]) rfl (rl 34 0 [.bool false,.slice bo lb cb] L3) ?_
 refine se ?_
 have bn:=g2.kp.trans (g3.kp.trans (g4.kp.trans g5.kp))
 replace hu:=hu.kp bn
 refine ec 10 (zj0 hu (by omega)) ?_
 rintro e8 w8 ⟨rfl,g8⟩
 refine ⟨_,rfl,?_⟩
 replace hB:=hB.trans g8
 simp only [p3,p4]
 refine sv 11 (.bool false) ?_
 refine za0 ?_
 refine k7 _ _ ?_
 try clear k7 K7
 refine wp_cond_false rfl ?_
 refine wp_skip ?_
 refine k6 _ _ ?_
 try clear k6 K6
 refine wp_seq_k (fun bm a8=>?_)
 refine rg [0,1,2,3,4,5,6,7,8,9] ?_
 refine sv 15 (.pointer (some ⟨b2,1,none⟩)) ?_
 replace L2:=L2.gr (g5.trans g8)
 refine sw 16 (.slice ao la ca) rfl (rk 32 1 L2) ?_
 refine sv 17 (.pointer (some ⟨b3,1,none⟩)) ?_
 replace L3:=L3.gr g8
 refine sw 18 (.slice bo lb cb) rfl (rk 32 1 L3) ?_
 refine se ?_
 have aU:=g2.kp.trans (g3.kp.trans (g4.kp.trans (g5.kp.trans g8.kp)))
 replace ha:=ha.kp aU
 replace hb:=hb.kp aU
 refine ec 19 (zB0 ha hb (by omega) (by omega) (by omega)) ?_
 rintro e11 bj ⟨⟨ap,al,ar,aa,aq,ab,rfl,aD,aE⟩,aN⟩
 refine ⟨_,rfl,?_⟩
 replace hB:=hB.trans aN
 simp only [p3,p4]
 refine sv 14 (.tuple #[.slice ap al ar,.slice aa aq ab]) ?_
 refine sv 20 (.slice ap al ar) ?_
 refine sv 21 (.slice aa aq ab) ?_
 refine sv 7 (.slice ap al ar) ?_
 refine sv 8 (.slice aa aq ab) ?_
 refine za0 ?_
 refine a8 _ _ ?_
 try clear a8 bm
 refine wp_seq_k (fun bg a9=>?_)
 have ad:=Gr.drew bj
 replace hB:=hB.trans ad
 replace L2:=L2.gr (aN.trans ad)
 replace L3:=L3.gr (aN.trans ad)
 refine za2 (fun w'=>Lc w' b2 #[.bool true,.slice ao la ca] 34∧Lc w' b3 #[.bool false,.slice bo lb cb] 34) [(true,0),(true,1),(true,2),(true,3),(true,4),(true,5),(true,7),(true,8),(true,9),(false,6),(false,10),(false,11),(false,12)] (by kernel_rfl) (by kernel_rfl) (by kernel_rfl) (by decide) (fun _ _ _ _ _ h=>h) ⟨L2,L3⟩ ?_
 refine ov 22 (.pointer (some ⟨b2,0,none⟩)) ?_
 refine ow 23 (.bool true) rfl (fun w' hS=>(rk 4 0 hS.1)) ?_
 refine ov 24 (.pointer (some ⟨b3,0,none⟩)) ?_
 refine ow 25 (.bool false) rfl (fun w' hS=>(rk 4 0 hS.2)) ?_
 refine ov 26 (.bool true) ?_
 refine ov 27 (.slice ap al ar) ?_
 refine ov 29 (.pointer (some ⟨b2,0,none⟩)) ?_
 refine ow 30 (.bool true) rfl (fun w' hS=>(rk 4 0 hS.1)) ?_
 refine ov 31 (.slice aa aq ab) ?_
 refine oe ?_
 replace aD:=aD.kp ad.kp
 refine ec 28 (zB1 (neg:=true) (Z:=(-(a/b))) aD (by omega) (fun _=>by simp;omega) hZ (by omega)) ?_
 rintro bA bJ ⟨⟨aM,aL,rfl,aX⟩,aI⟩
 refine ⟨_,rfl,?_⟩
 replace hB:=hB.trans aI
 replace L2:=L2.gr aI
 replace L3:=L3.gr aI
 refine ⟨⟨L2,L3⟩,?_⟩
 simp only [p3,p4]
 refine oe ?_
 have a4:=ad.kp.trans aI.kp
 replace aE:=aE.kp a4
 refine ec 32 (yn4 aE hR (Sz.of_le hu.sz (by omega)) (by omega)) ?_
 rintro bv bG ⟨⟨av,rfl,aK⟩,aH⟩
 refine ⟨_,rfl,?_⟩
 replace hB:=hB.trans aH
 replace L2:=L2.gr aH
 replace L3:=L3.gr aH
 refine ⟨⟨L2,L3⟩,?_⟩
 simp only [p3,p4]
 refine oe ?_
 replace L4:=L4.gr (g5.trans (g8.trans (aN.trans (ad.trans (aI.trans aH)))))
 refine es 34 0 (.agg #[aM,aL]) [aM,aL] #[aM,aL] L4 hB q4 ⟨aX.one0,aX.one1,trivial⟩ fun bH aB aG L4 hB=>?_
 replace L2:=aB.lc L2 aV
 replace L3:=aB.lc L3 au
 refine ⟨⟨L2,L3⟩,?_⟩
 refine oe ?_
 replace L5:=aB.lc (L5.gr (g8.trans (aN.trans (ad.trans (aI.trans aH))))) (Ne.symm ac)
 refine es 34 0 (.agg #[.bool true,.slice aa av ab]) [.bool true,.slice aa av ab] #[.bool true,.slice aa av ab] L5 hB q5 ⟨rfl,rfl,trivial⟩ fun bz aA ay L5 hB=>?_
 replace L2:=aA.lc L2 aR
 replace L3:=aA.lc L3 aw
 refine ⟨⟨L2,L3⟩,?_⟩
 refine zb1 ?_
 refine a9 _ _ ?_
 try clear a9 bg
 refine wp_seq_k (fun bf bc=>?_)
 refine wp_seq_k (fun bi bb=>?_)
 refine rg [0,1,2,3,4,5,6,7,8,9] ?_
 refine sw 33 (.agg #[.bool true,.slice aa av ab]) rfl (rl 34 0 [.bool true,.slice aa av ab] L5) ?_
 refine se ?_
 have a3:=aG.trans ay
 replace aK:=aK.kp a3
 refine ec 34 (zM2 aK (by omega)) ?_
 rintro bE bk ⟨rfl,aC⟩
 refine ⟨_,rfl,?_⟩
 replace hB:=hB.trans aC
 simp only [p3,p4]
 refine sv 35 (.bool true) ?_
 refine sv 36 (.bool true) ?_
 refine sv 37 (.pointer (some ⟨b5,0,none⟩)) ?_
 replace L5:=L5.gr aC
 refine sw 38 (.bool true) rfl (rk 4 0 L5) ?_
 refine sv 39 (.pointer (some ⟨b3,0,none⟩)) ?_
 replace L3:=L3.gr aC
 refine sw 40 (.bool false) rfl (rk 4 0 L3) ?_
 refine sv 41 (.bool true) ?_
 refine sv 42 (.bool true) ?_
 refine za0 ?_
 refine bb _ _ ?_
 try clear bb bi
 refine wp_cond_true rfl ?_
 have ae:=Gr.drew bk
 replace hB:=hB.trans ae
 replace L3:=L3.gr ae
 replace L4:=(aA.lc L4 ac).gr (aC.trans ae)
 replace L5:=L5.gr ae
 refine zd9 (fun w'=>Lc w' b3 #[.bool false,.slice bo lb cb] 34) [([6],(fun w'=>Lc w' b4 #[aM,aL] 34)),([7],(fun w'=>Lc w' b5 #[.bool true,.slice aa av ab] 34))] [(true,0),(true,3),(true,4),(false,1),(false,2),(false,5),(false,6),(false,7)] (by kernel_rfl) (by kernel_rfl) (by kernel_rfl) (by decide) (fun _ _ _ _ _ h=>h) L3 ⟨fun _=>L4,fun _=>L5,trivial⟩ ?_
 refine tw 43 (.agg #[aM,aL]) rfl (fun w' hS=>(rl 34 0 [aM,aL] (hS.2.1 (by kernel_rfl)))) ?_
 refine tw 46 (.agg #[.bool true,.slice aa av ab]) rfl (fun w' hS=>(rl 34 0 [.bool true,.slice aa av ab] (hS.2.2.1 (by kernel_rfl)))) ?_
 refine tw 47 (.agg #[.bool false,.slice bo lb cb]) rfl (fun w' hS=>(rl 34 0 [.bool false,.slice bo lb cb] hS.1)) ?_
 refine te ?_
 refine ec 44 (yb1 (1) (by omega) (by omega) _) ?_
 rintro bx bF ⟨⟨bK,bt,rfl,bh⟩,az⟩
 refine ⟨_,rfl,?_⟩
 replace hB:=hB.trans az
 replace L3:=L3.gr az
 replace L4:=L4.gr az
 replace L5:=L5.gr az
 refine ⟨L3,⟨fun _=>L4,fun _=>L5,trivial⟩,?_⟩
 simp only [p3,p4]
 refine te ?_
 have a1:=aH.kp.trans (aG.trans (ay.trans (aC.kp.trans (ae.kp.trans az.kp))))
 replace aX:=aX.kp a1
 refine ec 45 (sub_i aX bh (by omega)) ?_
 rintro bL bB ⟨⟨ak,ai,rfl,aF⟩,aJ⟩
 refine ⟨_,rfl,?_⟩
 replace hB:=hB.trans aJ
 replace L3:=L3.gr aJ
 replace L4:=L4.gr aJ
 replace L5:=L5.gr aJ
 refine ⟨L3,⟨fun _=>L4,fun _=>L5,trivial⟩,?_⟩
 simp only [p3,p4]
 refine te ?_
 have a0:=aC.kp.trans (ae.kp.trans (az.kp.trans aJ.kp))
 replace aK:=aK.kp a0
 have a5:=g8.kp.trans (aN.kp.trans (ad.kp.trans (aI.kp.trans (aH.kp.trans (aG.trans (ay.trans (aC.kp.trans (ae.kp.trans (az.kp.trans aJ.kp)))))))))
 replace hu:=hu.kp a5
 refine ec 48 (add_i aK hu (by omega)) ?_
 rintro bC bu ⟨⟨aj,ah,rfl,ax⟩,aT⟩
 refine ⟨_,rfl,?_⟩
 replace hB:=hB.trans aT
 replace L3:=L3.gr aT
 replace L4:=L4.gr aT
 replace L5:=L5.gr aT
 refine ⟨L3,⟨fun _=>L4,fun _=>L5,trivial⟩,?_⟩
 simp only [p3,p4]
 refine te ?_
 refine es 34 0 (.agg #[ak,ai]) [ak,ai] #[ak,ai] L4 hB q4 ⟨aF.one0,aF.one1,trivial⟩ fun bw aP aY L4 hB=>?_
 replace L3:=aP.lc L3 au
 replace L5:=aP.lc L5 (Ne.symm ac)
 refine ⟨L3,⟨zn0 (by kernel_rfl),fun _=>L5,trivial⟩,?_⟩
 refine te ?_
 refine es 34 0 (.agg #[aj,ah]) [aj,ah] #[aj,ah] L5 hB q5 ⟨ax.one0,ax.one1,trivial⟩ fun bd aW aS L5 hB=>?_
 replace L3:=aW.lc L3 aw
 refine ⟨L3,⟨zn0 (by kernel_rfl),zn0 (by kernel_rfl),trivial⟩,?_⟩
 refine zx2 ?_
 refine bc _ _ ?_
 try clear bc bf
 refine wp_seq_k (fun bp ba=>?_)
 have af:=Gr.drew bd
 replace hB:=hB.trans af
 replace L4:=(aW.lc L4 ac).gr af
 replace L5:=L5.gr af
 refine zd9 (fun _=>True) [([2],(fun w'=>Lc w' b4 #[ak,ai] 34)),([3],(fun w'=>Lc w' b5 #[aj,ah] 34))] [(true,0),(true,1),(false,2),(false,3),(true,4)] (by kernel_rfl) (by kernel_rfl) (by kernel_rfl) (by decide) (fun _ _ _ _ _ h=>h) trivial ⟨fun _=>L4,fun _=>L5,trivial⟩ ?_
 refine tw 49 (.agg #[ak,ai]) rfl (fun w' hS=>(rl 34 0 [ak,ai] (hS.2.1 (by kernel_rfl)))) ?_
 refine tw 50 (.agg #[aj,ah]) rfl (fun w' hS=>(rl 34 0 [aj,ah] (hS.2.2.1 (by kernel_rfl)))) ?_
 refine te ?_
 refine es 34 0 (.agg #[ak,ai]) [ak,ai] #[ak,ai] L4 hB q4 ⟨aF.one0,aF.one1,trivial⟩ fun bq aZ aO L4 hB=>?_
 replace L5:=aZ.lc L5 (Ne.symm ac)
 refine ⟨trivial,⟨zn0 (by kernel_rfl),fun _=>L5,trivial⟩,?_⟩
 refine te ?_
 refine es 34 0 (.agg #[aj,ah]) [aj,ah] #[aj,ah] L5 hB q5 ⟨ax.one0,ax.one1,trivial⟩ fun bD a2 aQ L5 hB=>?_
 refine ⟨trivial,⟨zn0 (by kernel_rfl),zn0 (by kernel_rfl),trivial⟩,?_⟩
 refine tv 6 (.int .i64 0) ?_
 refine zx2 ?_
 refine ba _ _ ?_
 try clear ba bp
 refine wp_ret ?_
 replace L4:=a2.lc L4 ac
 refine bodyPost_ret (v:=(.tuple #[(.agg #[ak,ai]),(.agg #[aj,ah]),.int .i64 0])) (zj8 _ _ _ _ _ _ rfl rfl rfl L4 (by kernel_rfl) L5 (by kernel_rfl) rfl) rfl ⟨?_,hB⟩
 have a6:=aT.kp.trans (aY.trans (aS.trans (af.kp.trans (aO.trans aQ))))
 replace aF:=aF.kp a6
 have a7:=aY.trans (aS.trans (af.kp.trans (aO.trans aQ)))
 replace ax:=ax.kp a7
 exact ⟨_,_,_,_,rfl,aF,ax⟩

set_option maxRecDepth 100000 in
set_option maxHeartbeats 1000000 in
theorem zQ1 (w:World):
    Calls Tryz.prog 111 #[] w fun e w'=>(∃ x' y',e=.returned (.agg #[x',y'])∧IsInt w' 64 x' y' (1))∧Gr w w':=by
 go_enter Tryz.func111,Tryz.ntmps111
 have hB:=Gr.refl w
 refine wp_seq_k (fun K1 k1=>?_)
 refine rg [0] ?_
 refine se ?_
 refine ea 34 #[.bool false,.slice none 0 0] 0 hB fun b2 w2 g2 L2 o2 q2 hB=>?_
 simp only [p3]
 refine za0 ?_
 refine k1 _ _ ?_
 try clear k1 K1
 refine wp_seq_k (fun K3 k3=>?_)
 refine rg [0,1] ?_
 refine se ?_
 refine ec 1 (yb1 (1) (by omega) (by omega) _) ?_
 rintro e4 w4 ⟨⟨x4,y4,rfl,h4⟩,g4⟩
 refine ⟨_,rfl,?_⟩
 replace hB:=hB.trans g4
 simp only [p3,p4]
 refine se ?_
 replace L2:=L2.gr g4
 refine es 34 0 (.agg #[x4,y4]) [x4,y4] #[x4,y4] L2 hB q2 ⟨h4.one0,h4.one1,trivial⟩ fun w5 ab aa L2 hB=>?_
 refine za0 ?_
 refine k3 _ _ ?_
 try clear k3 K3
 refine wp_ret ?_
 refine bodyPost_ret (v:=(.agg #[x4,y4])) (zb0 _ _ _ rfl rfl L2 (by kernel_rfl)) rfl ⟨?_,hB⟩
 replace h4:=h4.kp aa
 exact ⟨_,_,rfl,h4⟩

theorem zt5 {k m:Nat} {x y x2 y2:Value} {z u:Int} {w:World} (hz:IsInt w k x y z) (hu:IsInt w m x2 y2 u) (aa:0<u) (hkm:k+k+m+m+66≤1000000):
  Calls Tryz.prog 123 #[.agg #[x,y],.agg #[x2,y2]] w fun e w'=>(∃ x' y' x3 y3,e=.returned (.tuple #[.agg #[x',y'],.agg #[x3,y3],.int .i64 0])∧IsInt w' k x' y' (z/u)∧IsInt w' m x3 y3 (z % u))∧Gr w w':=by
 have hu':=hu
 obtain ⟨ao,la,ca,rfl,rfl,ha,hs⟩:=hz
 obtain ⟨bo,lb,cb,rfl,rfl,hb,ht⟩:=hu
 have hla:=ha.nl.len_sz hs.nat
 have hlb:=hb.nl.len_sz ht.nat
 have e0:((u.natAbs:Nat):Int)=u:=by omega
 have e1:decide (u<0)=false:=by simp;omega
 rw [e1] at hu' ⊢
 rw [e0] at hb
 have hM:=Int.emod_nonneg (z.natAbs:Int) (b:=u) (by omega)
 have hL:=Int.emod_lt_of_pos (z.natAbs:Int) aa
 have hQ:0≤(z.natAbs:Int)/u:=Int.ediv_nonneg (by omega) (by omega)
 have hD:=Int.mul_ediv_add_emod (z.natAbs:Int) u
 have hqle:(z.natAbs:Int)/u≤(z.natAbs:Int):=Int.ediv_le_self _ (by omega)
 have hkk:Sz k (z/u):=by
  refine hs.of_le ?_
  rcases Int.lt_or_le z 0 with h | h
  ·have h1:z≤z/u:=by
    rw [Int.le_ediv_iff_mul_le aa]
    have:z*u≤z*1:=Int.mul_le_mul_of_nonpos_left (by omega) (by omega)
    omega
   have h2:z/u<0:=Int.ediv_neg_of_neg_of_pos h aa
   omega
  ·have h1:z/u≤z:=Int.ediv_le_self _ h
   have h2:0≤z/u:=Int.ediv_nonneg h (by omega)
   omega
 have hmm:Sz m (z % u):=by
  refine ht.of_le ?_
  have:=Int.emod_nonneg z (b:=u) (by omega)
  have:=Int.emod_lt_of_pos z aa
  omega
 -- z in terms of its magnitude
 have key:∀ q r:Int,z=u*q+r→0≤r→r<u→z/u=q∧z % u=r:=fun q r h h0 h1=>by
  rw [Int.ediv_emod_unique aa]
  exact ⟨by omega,h0,h1⟩
 by_cases h0:(z.natAbs:Int) % u=0
 ·have hk:=key (if z<0 then -((z.natAbs:Int)/u) else (z.natAbs:Int)/u) 0 (by
   split
   ·rw [Int.mul_neg];omega
   ·omega) (by omega) aa
  refine (divmod_0 (Z:=z/u) (K:=k) ha hb hu' (by omega) (by omega) aa h0 ?_ (fun hp=>?_) hkk (by omega) (by omega)).mono ?_
  ·rw [hk.1];split<;>omega
  ·rw [hk.1]
   by_cases hz0:z<0
   ·simp [hz0];omega
   ·simp [hz0];omega
  ·rintro e w1 ⟨⟨x',y',x3,y3,he,h1,h2⟩,g⟩
   exact ⟨⟨x',y',x3,y3,he,h1,by rw [hk.2];exact h2⟩,g⟩
 ·by_cases hz0:z<0
  ·have e2:decide (z<0)=true:=by simpa using hz0
   rw [e2]
   have hk:=key (-((z.natAbs:Int)/u) - 1) (-((z.natAbs:Int) % u)+u) (by
    rw [Int.mul_sub,Int.mul_neg];omega) (by omega) (by omega)
   refine (divmod_t (K:=k) ha hb hu' (by omega) (by omega) aa (by omega) hL hQ (hs.of_le (by omega)) (by omega) (by omega)).mono ?_
   rintro e w1 ⟨⟨x',y',x3,y3,he,h1,h2⟩,g⟩
   rw [← hk.1] at h1
   rw [← hk.2] at h2
   exact ⟨⟨x',y',x3,y3,he,h1.resz hkk,h2.resz hmm⟩,g⟩
  ·have e2:decide (z<0)=false:=by simpa using hz0
   rw [e2]
   have ez:(z.natAbs:Int)=z:=by omega
   refine (divmod_f (K:=k) ha hb hu' (by omega) (by omega) aa (by omega) hL hQ (by rw [ez];exact hkk) (by omega) (by omega)).mono ?_
   rintro e w1 ⟨⟨x',y',x3,y3,he,h1,h2⟩,g⟩
   rw [ez] at h1 h2
   exact ⟨⟨x',y',x3,y3,he,h1,h2⟩,g⟩

theorem zf2 {k m:Nat} {x y x2 y2:Value} {z u:Int} {w:World} (hz:IsInt w k x y z) (hu:IsInt w m x2 y2 u) (hk:k≤1000000) (hm:m≤1000000):
  Calls Tryz.prog 79 #[.agg #[x,y],.agg #[x2,y2]] w fun e w'=>e=.returned (.int .i64 (sgn (z - u)))∧Gr w w':=by
 obtain ⟨ao,la,ca,rfl,rfl,ha,hs⟩:=hz
 obtain ⟨bo,lb,cb,rfl,rfl,hb,ht⟩:=hu
 have hla:=ha.nl.len_sz hs.nat
 have hlb:=hb.nl.len_sz ht.nat
 by_cases h1:z<0<;>by_cases h2:u<0
 ·have d1:decide (z<0)=true:=by simpa using h1
  have d2:decide (u<0)=true:=by simpa using h2
  rw [d1,d2]
  have e:z - u=(u.natAbs:Int) - (z.natAbs:Int):=by omega
  rw [e];exact cmp_tt ha hb (by omega) (by omega)
 ·have d1:decide (z<0)=true:=by simpa using h1
  have d2:decide (u<0)=false:=by simpa using h2
  rw [d1,d2,zf4 (by omega)];exact cmp_tf ha hb (by omega) (by omega)
 ·have d1:decide (z<0)=false:=by simpa using h1
  have d2:decide (u<0)=true:=by simpa using h2
  rw [d1,d2,zd7 (by omega)];exact cmp_ft ha hb (by omega) (by omega)
 ·have d1:decide (z<0)=false:=by simpa using h1
  have d2:decide (u<0)=false:=by simpa using h2
  rw [d1,d2]
  have e:z - u=(z.natAbs:Int) - (u.natAbs:Int):=by omega
  rw [e];exact cmp_ff ha hb (by omega) (by omega)

structure IsRat (w:World) (k:Nat) (c0 c1 c2 c3:Value) (q:Rat):Prop where
 num:IsInt w k c0 c1 q.num
 den:∃ D,IsInt w k c2 c3 D∧(D=(q.den:Int)∨D=0∧q.den=1)
 big:64≤k
theorem IsRat.kp {w w':World} {k:Nat} {c0 c1 c2 c3:Value} {q:Rat} (h:IsRat w k c0 c1 c2 c3 q) (hb:Kp w w'):IsRat w' k c0 c1 c2 c3 q:=by
 obtain ⟨h1,⟨D,h2,h3⟩,h4⟩:=h
 exact ⟨h1.kp hb,⟨D,h2.kp hb,h3⟩,h4⟩
theorem IsRat.gr {w w':World} {k:Nat} {c0 c1 c2 c3:Value} {q:Rat} (h:IsRat w k c0 c1 c2 c3 q) (hb:Gr w w'):IsRat w' k c0 c1 c2 c3 q:=h.kp hb.kp
theorem IsRat.one0 {w:World} {k:Nat} {c0 c1 c2 c3:Value} {q:Rat} (h:IsRat w k c0 c1 c2 c3 q):c0.oneCell'=true:=h.num.one0
theorem IsRat.one1 {w:World} {k:Nat} {c0 c1 c2 c3:Value} {q:Rat} (h:IsRat w k c0 c1 c2 c3 q):c1.oneCell'=true:=h.num.one1
theorem IsRat.one2 {w:World} {k:Nat} {c0 c1 c2 c3:Value} {q:Rat} (h:IsRat w k c0 c1 c2 c3 q):c2.oneCell'=true:=by
 obtain ⟨D,h2,_⟩:=h.den;exact h2.one0
theorem IsRat.one3 {w:World} {k:Nat} {c0 c1 c2 c3:Value} {q:Rat} (h:IsRat w k c0 c1 c2 c3 q):c3.oneCell'=true:=by
 obtain ⟨D,h2,_⟩:=h.den;exact h2.one1
theorem IsRat.mono {w:World} {k m:Nat} {c0 c1 c2 c3:Value} {q:Rat} (h:IsRat w k c0 c1 c2 c3 q) (hk:k≤m):IsRat w m c0 c1 c2 c3 q:=by
 obtain ⟨h1,⟨D,h2,h3⟩,h4⟩:=h
 exact ⟨h1.mono hk,⟨D,h2.mono hk,h3⟩,Nat.le_trans h4 hk⟩
theorem IsRat.zero (w:World) {k:Nat} (hk:64≤k):IsRat w k (.bool false) (.slice none 0 0) (.bool false) (.slice none 0 0) 0:=
 ⟨IsInt.zero w k,⟨0,IsInt.zero w k,.inr ⟨rfl,rfl⟩⟩,hk⟩
theorem IsRat.int {w:World} {k:Nat} {c0 c1:Value} {z:Int} (h:IsInt w k c0 c1 z) (hk:64≤k):IsRat w k c0 c1 (.bool false) (.slice none 0 0) (z:Rat):=
 ⟨h,⟨0,IsInt.zero w k,.inr ⟨rfl,rfl⟩⟩,hk⟩
end Go.Proofs.YtaldbfflkpgfoaaGreatDoor
namespace Go.Proofs.YtaldbfflkpgfoaaGreatDoor
open Go

def padk:Nat→Nat→List UInt8
 | 0,_=>[]
 | k+1,r=>padk k (r/10)++[UInt8.ofNat (48+r % 10)]
theorem zi9 {u:Nat} (h:10≤u):Lib.decDigits u=Lib.decDigits (u/10)++[UInt8.ofNat (48+u % 10)]:=by
 rw [Lib.decDigits,dif_neg (by omega)]
theorem zc5 {u:Nat} (h:u<10):Lib.decDigits u=[UInt8.ofNat (48+u)]:=by rw [Lib.decDigits,dif_pos h]
theorem zP3:∀ (k q r:Nat),0<q→r<10 ^ k→Lib.decDigits (q*10 ^ k+r)=Lib.decDigits q++padk k r
 | 0,q,r,_,hr=>by simp at hr;subst hr;simp [padk]
 | k+1,q,r,hq,hr=>by
  have e:q*10 ^ (k+1)+r=(q*10 ^ k+r/10)*10+r % 10:=by
   rw [Nat.pow_succ,Nat.add_mul,← Nat.mul_assoc];omega
  have hp:0<10 ^ k:=Nat.pow_pos (by omega)
  have aa:1≤q*10 ^ k:=Nat.mul_pos hq hp
  rw [e,zi9 (by omega)]
  have e1:((q*10 ^ k+r/10)*10+r % 10)/10=q*10 ^ k+r/10:=by omega
  have e2:((q*10 ^ k+r/10)*10+r % 10) % 10=r % 10:=by omega
  rw [e1,e2,zP3 k q (r/10) hq (by rw [Nat.pow_succ] at hr;omega),List.append_assoc]
  rfl
theorem zI7:∀ k,padk k 0=Lib.repeatL [48] k
 | 0=>rfl
 | k+1=>by
  have h:∀ k,Lib.repeatL [48] k++[48]=[48]++Lib.repeatL [48] k:=fun k=>by
   induction k with
   | zero=>rfl
   | succ k ih=>simp only [Lib.repeatL,List.append_assoc,ih]
  rw [padk,Nat.zero_div,zI7 k]
  exact h k
theorem zw7:∀ (k u:Nat),u<10 ^ (k+1)→(Lib.decDigits u).length≤k+1
 | 0,u,h=>by rw [zc5 (by simpa using h)];simp
 | k+1,u,h=>by
  by_cases h1:u<10
  ·rw [zc5 h1];simp
  ·rw [zi9 (by omega)]
   have:=zw7 k (u/10) (by rw [Nat.pow_succ] at h;omega)
   simp;omega
theorem zU4 (u:Nat):0<(Lib.decDigits u).length:=by
 by_cases h1:u<10
 ·rw [zc5 h1];simp
 ·rw [zi9 (by omega)];simp
theorem zZ2:∀ (k u:Nat),u<10 ^ (k+1)→padk (k+1) u=Lib.repeatL [48] (k+1 - (Lib.decDigits u).length)++Lib.decDigits u
 | 0,u,h=>by
  rw [zc5 (by simpa using h)]
  have:u % 10=u:=by simp at h;omega
  simp [padk,this,Lib.repeatL]
 | k+1,u,h=>by
  rw [padk]
  by_cases h1:u<10
  ·have e1:u/10=0:=by omega
   have e2:u % 10=u:=by omega
   rw [e1,e2,zI7,zc5 h1];rfl
  ·rw [zZ2 k (u/10) (by rw [Nat.pow_succ] at h;omega),List.append_assoc,← zi9 (by omega)]
   congr 2
   rw [zi9 (u:=u) (by omega)]
   simp
def grp (u:Nat):List UInt8:=if 0<u/1000000000 then Lib.repeatL [48] (9 - (Lib.decDigits (u % 1000000000)).length)++Lib.decDigits (u % 1000000000) else Lib.decDigits (u % 1000000000)
def zU5 (u:Nat):List (List UInt8):=if h:u=0 then [] else grp u::zU5 (u/1000000000)
termination_by u
decreasing_by omega
theorem zs6:zU5 0=[]:=by rw [zU5];simp
theorem zA7 {u:Nat} (h:0<u):zU5 u=grp u::zU5 (u/1000000000):=by rw [zU5,dif_neg (by omega)]
theorem yj4:∀ (n u:Nat),u≤n→0<u→(zU5 u).reverse.flatten=Lib.decDigits u:=by
 intro n
 induction n with
 | zero=>intro u h h0;omega
 | succ n ih=>
  intro u h h0
  rw [zA7 h0,List.reverse_cons,List.flatten_append]
  simp only [List.flatten_cons,List.flatten_nil,List.append_nil]
  unfold grp
  by_cases hq:0<u/1000000000
  ·rw [if_pos hq,ih _ (by omega) hq]
   have hr:u % 1000000000<10 ^ (8+1):=by omega
   rw [← zZ2 8 _ hr]
   have:=zP3 9 (u/1000000000) (u % 1000000000) hq (by omega)
   rw [← this]
   congr 1
   omega
  ·have e:u/1000000000=0:=by omega
   rw [if_neg hq,e,zs6]
   simp only [List.reverse_nil,List.flatten_nil,List.nil_append]
   congr 1
   omega
theorem zy9 (l:List (List UInt8)):Lib.join l []=l.flatten:=by
 unfold Lib.join List.intercalate
 induction l with
 | nil=>rfl
 | cons a l ih=>
  cases l with
  | nil=>simp
  | cons b l=>simp only [List.intersperse_cons_cons,List.flatten_cons,List.nil_append] at ih ⊢;rw [ih]
theorem zZ3:∀ (k u:Nat),u<2 ^ k→(zU5 u).length≤k
 | 0,u,h=>by
  have:u=0:=by simpa using h
  subst this;rw [zs6];simp
 | k+1,u,h=>by
  by_cases h0:u=0
  ·subst h0;rw [zs6];simp
  ·rw [zA7 (by omega),List.length_cons]
   have:=zZ3 k (u/1000000000) (by rw [Nat.pow_succ] at h;omega)
   omega
theorem yj5 {u:Nat} (h:0<u):0<(zU5 u).length:=by rw [zA7 h];simp
theorem zg8 (k u:Nat) (h:u<2 ^ k):(Lib.decDigits u).length≤k+1:=by
 refine zw7 k u ?_
 have h1:2 ^ k≤10 ^ k:=Nat.pow_le_pow_left (by omega) k
 have h2:10 ^ k≤10 ^ (k+1):=Nat.pow_le_pow_right (by omega) (by omega)
 omega
theorem dec9 (u:Nat):(Lib.decDigits (u % 1000000000)).length≤9:=zw7 8 _ (by omega)
theorem zP4 {L:List (List UInt8)} {u N:Nat} {X:List UInt8} (h:L++zU5 u=zU5 N) (h0:0<u) (hX:X=grp u):(L++[X])++zU5 (u/1000000000)=zU5 N:=by
 rw [← h,zA7 h0,hX,List.append_assoc];rfl
theorem grp_hi {u:Nat} (h:0<u/1000000000):Lib.repeatL [48] (9 - (Lib.decDigits (u % 1000000000)).length)++Lib.decDigits (u % 1000000000)=grp u:=by unfold grp;rw [if_pos h]
theorem grp_lo {u:Nat} (h:¬ 0<u/1000000000):Lib.decDigits (u % 1000000000)=grp u:=by unfold grp;rw [if_neg h]
def za3 (q:Rat):List UInt8:=if q.den=1 then Lib.itoa q.num else Lib.itoa q.num++[47]++Lib.itoa (q.den:Int)
theorem zZ4 {q:Rat} (h:q.den=1):za3 q=Lib.itoa q.num:=if_pos h
theorem yj6 {q:Rat} (h:¬ q.den=1):za3 q=Lib.itoa q.num++[47]++Lib.itoa (q.den:Int):=if_neg h
end Go.Proofs.YtaldbfflkpgfoaaGreatDoor
namespace Go.Proofs.YtaldbfflkpgfoaaGreatDoor
open Go.RowKit

inductive Cl where
 | ci (k:IntKind) (z lo hi:Int)
 | cb (t:Bool) (d:Option Bool)
 | cw (l:List UInt8) (d:Option (Nat × Rat))
 | cr (j c k:Nat) (q:Rat)
 | cz (j c k:Nat) (q:Int)
 | cp (j off:Nat)
 | cs (j off len cap:Nat)
 | cf (fn:Nat) (caps:List (Nat × Nat))
 | cv (x:Value)
inductive TV where
 | vc (x:Cl)
 | vg (l:List Cl)
inductive SV where
 | so (x:TV)
 | st (l:List TV)
 | su
 | sj (j i:Nat)
structure Env where
 E:Nat→Nat
 R:Nat→Nat→Value
 Z:Nat→Nat→Value
 D:List Deferred
def Env.ptr (X:Env) (x:Nat × Nat):Value:=.pointer (some ⟨X.E x.1,x.2,none⟩)
def Cl.den (X:Env):Cl→Value
 | .ci k z _ _=>.int k z
 | .cb t _=>.bool t
 | .cw l _=>.string ⟨l.toArray⟩
 | .cr j c _ _=>X.R j c
 | .cz j c _ _=>X.Z j c
 | .cp j o=>.pointer (some ⟨X.E j,o,none⟩)
 | .cs j o l c=>.slice (some ⟨X.E j,o,none⟩) l c
 | .cf fn caps=>.func (.func fn) #[] (caps.map X.ptr).toArray
 | .cv x=>x
def dnL (X:Env) (l:List Cl):Array Value:=(l.map (Cl.den X)).toArray
def TV.den (X:Env):TV→Value
 | .vc x=>x.den X
 | .vg l=>.agg (dnL X l)
def SV.den (X:Env):SV→Value
 | .so x=>x.den X
 | .st l=>.tuple (l.map (TV.den X)).toArray
 | .su=>undef
 | .sj j i=>X.Z j (10+i)
structure Nn where
 b:Nat
 r:Nat
 z:Nat
structure Nn.le (m n:Nn):Prop where
 b:m.b≤n.b
 r:m.r≤n.r
 z:m.z≤n.z
theorem Nn.le.refl (m:Nn):m.le m:=⟨Nat.le_refl _,Nat.le_refl _,Nat.le_refl _⟩
theorem Nn.le.trans {l m n:Nn} (h:l.le m) (k:m.le n):l.le n:=⟨Nat.le_trans h.b k.b,Nat.le_trans h.r k.r,Nat.le_trans h.z k.z⟩
def Cl.lt (n:Nn):Cl→Bool
 | .cr j c _ _=>Nat.blt j n.r&&Nat.blt c 4
 | .cz j c _ _=>Nat.blt j n.z&&Nat.blt c 2
 | .cp j _ | .cs j _ _ _=>Nat.blt j n.b
 | .cf _ caps=>caps.all fun x=>Nat.blt x.1 n.b
 | _=>true
def Cl.good (X:Env) (W:World):Cl→Prop
 | .ci _ z lo hi=>lo≤z∧z≤hi
 | .cb t d=>∀ v,d=some v→t=v
 | .cw l d=>∀ k q,d=some (k,q)→l=za3 q∧Sz k q.num∧Sz k (q.den:Int)
 | .cr j _ k q=>IsRat W k (X.R j 0) (X.R j 1) (X.R j 2) (X.R j 3) q
 | .cz j _ k q=>IsInt W k (X.Z j 0) (X.Z j 1) q
 | .cv x=>x.oneCell'=true
 | _=>True
def Cl.ok (n:Nn) (X:Env) (W:World) (c:Cl):Prop:=c.lt n=true∧c.good X W
def okL (n:Nn) (X:Env) (W:World) (l:List Cl):Prop:=∀ c ∈ l,c.ok n X W
def TV.ok (n:Nn) (X:Env) (W:World):TV→Prop
 | .vc x=>x.ok n X W
 | .vg l=>okL n X W l
def SV.ok (n:Nn) (X:Env) (W:World):SV→Prop
 | .so x=>x.ok n X W
 | .st l=>∀ x ∈ l,x.ok n X W
 | .su=>True
 | .sj j _=>Nat.blt j n.z=true
def okF (n:Nn) (X:Env) (W:World) (l:List SV):Prop:=∀ c ∈ l,c.ok n X W
structure Agr (n:Nn) (X Y:Env):Prop where
 E:∀ i,i<n.b→X.E i=Y.E i
 R:∀ i c,i<n.r→X.R i c=Y.R i c
 Z:∀ i c,i<n.z→X.Z i c=Y.Z i c
 D:X.D=Y.D
theorem Agr.refl (n:Nn) (X:Env):Agr n X X:=⟨fun _ _=>rfl,fun _ _ _=>rfl,fun _ _ _=>rfl,rfl⟩
theorem Agr.trans {n:Nn} {X Y Z:Env} (h:Agr n X Y) (k:Agr n Y Z):Agr n X Z:=
 ⟨fun i hi=>(h.E i hi).trans (k.E i hi),fun i c hi=>(h.R i c hi).trans (k.R i c hi),fun i c hi=>(h.Z i c hi).trans (k.Z i c hi),h.D.trans k.D⟩
theorem Agr.mono {m n:Nn} {X Y:Env} (h:Agr n X Y) (hm:m.le n):Agr m X Y:=
 ⟨fun i hi=>h.E i (Nat.lt_of_lt_of_le hi hm.b),fun i c hi=>h.R i c (Nat.lt_of_lt_of_le hi hm.r),fun i c hi=>h.Z i c (Nat.lt_of_lt_of_le hi hm.z),h.D⟩
theorem zf3 {a b:Nat} (h:Nat.blt a b=true):a<b:=Nat.le_of_ble_eq_true h
theorem zm5 {a b:Nat} (h:a<b):Nat.blt a b=true:=Nat.ble_eq_true_of_le h
theorem zq4 {a b c:Nat} (h:Nat.blt a b=true) (k:b≤c):Nat.blt a c=true:=zm5 (Nat.lt_of_lt_of_le (zf3 h) k)
theorem Cl.lt_mono {m n:Nn} (h:m.le n) {c:Cl} (hc:c.lt m=true):c.lt n=true:=by
 cases c with
 | cr j c k q=>
  simp only [Cl.lt,Bool.and_eq_true] at hc ⊢
  exact ⟨zq4 hc.1 h.r,hc.2⟩
 | cz j c k q=>
  simp only [Cl.lt,Bool.and_eq_true] at hc ⊢
  exact ⟨zq4 hc.1 h.z,hc.2⟩
 | cp j o=>exact zq4 hc h.b
 | cs j o l c=>exact zq4 hc h.b
 | cf fn caps=>
  simp only [Cl.lt,List.all_eq_true] at hc ⊢
  exact fun x hx=>zq4 (hc x hx) h.b
 | _=>rfl
theorem Cl.den_agree {n:Nn} {X Y:Env} (h:Agr n X Y) {c:Cl} (hc:c.lt n=true):c.den X=c.den Y:=by
 cases c with
 | cr j c k q=>
  simp only [Cl.lt,Bool.and_eq_true] at hc
  exact h.R _ _ (zf3 hc.1)
 | cz j c k q=>
  simp only [Cl.lt,Bool.and_eq_true] at hc
  exact h.Z _ _ (zf3 hc.1)
 | cp j o=>simp only [Cl.den,h.E j (zf3 hc)]
 | cs j o l c=>simp only [Cl.den,h.E j (zf3 hc)]
 | cf fn caps=>
  simp only [Cl.lt,List.all_eq_true] at hc
  simp only [Cl.den]
  rw [List.map_congr_left (g:=Y.ptr) fun x hx=>?_]
  simp only [Env.ptr,h.E _ (zf3 (hc x hx))]
 | _=>rfl
theorem Cl.ok_to {m n:Nn} {X Y:Env} {V W:World} (hn:m.le n) (h:Agr m X Y) (hk:Kp V W) {c:Cl} (hc:c.ok m X V):c.ok n Y W:=by
 refine ⟨Cl.lt_mono hn hc.1,?_⟩
 have h1:=hc.1
 have h2:=hc.2
 cases c with
 | cr j c k q=>
  simp only [Cl.lt,Bool.and_eq_true] at h1
  have hj:=zf3 h1.1
  simp only [Cl.good,← h.R _ _ hj] at h2 ⊢
  exact h2.kp hk
 | cz j c k q=>
  simp only [Cl.lt,Bool.and_eq_true] at h1
  have hj:=zf3 h1.1
  simp only [Cl.good,← h.Z _ _ hj] at h2 ⊢
  exact h2.kp hk
 | _=>exact h2
theorem zA0 {m n:Nn} {X Y:Env} {V W:World} (hn:m.le n) (h:Agr m X Y) (hk:Kp V W) {l:List Cl} (hl:okL m X V l):okL n Y W l:=fun c hc=>Cl.ok_to hn h hk (hl c hc)
theorem TV.ok_to {m n:Nn} {X Y:Env} {V W:World} (hn:m.le n) (h:Agr m X Y) (hk:Kp V W) {x:TV} (hx:x.ok m X V):x.ok n Y W:=by
 cases x with
 | vc x=>exact Cl.ok_to hn h hk hx
 | vg l=>exact zA0 hn h hk hx
theorem SV.ok_to {m n:Nn} {X Y:Env} {V W:World} (hn:m.le n) (h:Agr m X Y) (hk:Kp V W) {x:SV} (hx:x.ok m X V):x.ok n Y W:=by
 cases x with
 | so x=>exact TV.ok_to hn h hk hx
 | st l=>exact fun x hm=>TV.ok_to hn h hk (hx x hm)
 | su=>trivial
 | sj j i=>exact zq4 hx hn.z
theorem zS7 {m n:Nn} {X Y:Env} {V W:World} (hn:m.le n) (h:Agr m X Y) (hk:Kp V W) {l:List SV} (hl:okF m X V l):okF n Y W l:=fun c hc=>SV.ok_to hn h hk (hl c hc)
theorem zu2 {n:Nn} {X Y:Env} (h:Agr n X Y) {l:List Cl} (hl:∀ c ∈ l,c.lt n=true):dnL X l=dnL Y l:=by
 unfold dnL
 rw [List.map_congr_left fun x hx=>Cl.den_agree h (hl x hx)]
theorem TV.den_agree {n:Nn} {X Y:Env} {W:World} (h:Agr n X Y) {x:TV} (hx:x.ok n X W):x.den X=x.den Y:=by
 cases x with
 | vc x=>exact Cl.den_agree h hx.1
 | vg l=>exact congrArg Value.agg (zu2 h fun c hc=>(hx c hc).1)
theorem SV.den_agree {n:Nn} {X Y:Env} {W:World} (h:Agr n X Y) {x:SV} (hx:x.ok n X W):x.den X=x.den Y:=by
 cases x with
 | so x=>exact TV.den_agree h hx
 | st l=>simp only [SV.den];rw [List.map_congr_left fun x hm=>TV.den_agree h (hx x hm)]
 | su=>rfl
 | sj j i=>exact h.Z _ _ (zf3 hx)
theorem Cl.one {n:Nn} {X:Env} {W:World} {c:Cl} (h:c.ok n X W):(c.den X).oneCell'=true:=by
 have h1:=h.1
 have h2:=h.2
 cases c with
 | cr j c k q=>
  simp only [Cl.lt,Bool.and_eq_true] at h1
  have hc:=zf3 h1.2
  simp only [Cl.good] at h2
  simp only [Cl.den]
  match c,hc with
  | 0,_=>exact h2.one0
  | 1,_=>exact h2.one1
  | 2,_=>exact h2.one2
  | 3,_=>exact h2.one3
 | cz j c k q=>
  simp only [Cl.lt,Bool.and_eq_true] at h1
  have hc:=zf3 h1.2
  simp only [Cl.good] at h2
  simp only [Cl.den]
  match c,hc with
  | 0,_=>exact h2.one0
  | 1,_=>exact h2.one1
 | cv x=>exact h2
 | _=>rfl

def Env.wd (X:Env) (D:List Deferred):Env:={X with D:=D}
theorem Cl.den_D (X:Env) (D:List Deferred) (c:Cl):c.den (X.wd D)=c.den X:=by cases c<;>rfl
theorem Cl.ok_D {n:Nn} {X:Env} {W:World} {c:Cl} (h:c.ok n X W) (D:List Deferred):c.ok n (X.wd D) W:=by
 refine ⟨h.1,?_⟩
 have:=h.2
 cases c<;>exact this
theorem okL_D {n:Nn} {X:Env} {W:World} {l:List Cl} (h:okL n X W l) (D:List Deferred):okL n (X.wd D) W l:=fun c hc=>Cl.ok_D (h c hc) D
theorem dnL_D (X:Env) (D:List Deferred) (l:List Cl):dnL (X.wd D) l=dnL X l:=by
 unfold dnL
 rw [List.map_congr_left fun c _=>Cl.den_D X D c]
theorem TV.den_D (X:Env) (D:List Deferred) (x:TV):x.den (X.wd D)=x.den X:=by
 cases x with
 | vc c=>exact Cl.den_D X D c
 | vg l=>exact congrArg Value.agg (dnL_D X D l)
theorem SV.den_D (X:Env) (D:List Deferred) (x:SV):x.den (X.wd D)=x.den X:=by
 cases x with
 | so x=>exact TV.den_D X D x
 | st l=>simp only [SV.den];rw [List.map_congr_left fun x _=>TV.den_D X D x]
 | su=>rfl
 | sj j i=>rfl
theorem TV.ok_D {n:Nn} {X:Env} {W:World} {x:TV} (h:x.ok n X W) (D:List Deferred):x.ok n (X.wd D) W:=by
 cases x with
 | vc c=>exact Cl.ok_D h D
 | vg l=>exact okL_D h D
theorem SV.ok_D {n:Nn} {X:Env} {W:World} {x:SV} (h:x.ok n X W) (D:List Deferred):x.ok n (X.wd D) W:=by
 cases x with
 | so x=>exact TV.ok_D h D
 | st l=>exact fun x hx=>TV.ok_D (h x hx) D
 | su=>trivial
 | sj j i=>exact h
def ys8:List UInt8→Option (Nat × Rat)
 | [48]=>some (1,0)
 | [49]=>some (1,1)
 | [45,49]=>some (1,-1)
 | _=>none
theorem ys9 {l:List UInt8} {k:Nat} {q:Rat} (h:ys8 l=some (k,q)):l=za3 q∧Sz k q.num∧Sz k (q.den:Int):=by
  unfold ys8 at h
  split at h<;>first
    | cases h;done
    | (simp only [Option.some.injEq,Prod.mk.injEq] at h
       obtain ⟨rfl,rfl⟩:=h
       exact ⟨by kernel_rfl,of_decide_eq_true (p:=(_<2 ^ 1)) (by kernel_rfl),of_decide_eq_true (p:=(_<2 ^ 1)) (by kernel_rfl)⟩)
def clOf:Value→Option Cl
 | .bool b=>some (.cb b (some b))
 | .int k n=>some (.ci k n n n)
 | .string s=>some (.cw s.data.toList (ys8 s.data.toList))
 | x=>if x.oneCell' then some (.cv x) else none
def yt0:List Value→Option (List Cl)
 | []=>some []
 | v::l=>match clOf v,yt0 l with
  | some c,some r=>some (c::r)
  | _,_=>none
def svOf:Value→Option SV
 | .agg cs=>match yt0 cs.toList with
  | some l=>some (.so (.vg l))
  | none=>none
 | .tuple _=>none
 | v=>match clOf v with
  | some c=>some (.so (.vc c))
  | none=>none
theorem yt1 {v:Value} {c:Cl} (h:clOf v=some c) (n:Nn) (X:Env) (W:World):c.den X=v∧c.ok n X W:=by
 unfold clOf at h
 split at h
 ·cases h;exact ⟨rfl,rfl,fun v hv=>by simpa using hv⟩
 ·cases h;exact ⟨rfl,rfl,Int.le_refl _,Int.le_refl _⟩
 ·cases h
  exact ⟨by simp [Cl.den],rfl,fun k q hq=>ys9 hq⟩
 ·split at h
  ·cases h;exact ⟨rfl,rfl,by assumption⟩
  ·cases h
theorem zu3:∀ {l:List Value} {r:List Cl} (_:yt0 l=some r) (n:Nn) (X:Env) (W:World),r.map (Cl.den X)=l∧okL n X W r
 | [],r,h,n,X,W=>by cases h;exact ⟨rfl,fun _ hc=>by cases hc⟩
 | v::l,r,h,n,X,W=>by
  unfold yt0 at h
  split at h
  ·rename_i c r' h1 h2
   cases h
   have a:=yt1 h1 n X W
   have b:=zu3 h2 n X W
   refine ⟨by simp [a.1,b.1],fun x hx=>?_⟩
   rcases List.mem_cons.1 hx with rfl | hx
   ·exact a.2
   ·exact b.2 x hx
  ·cases h
theorem svOf_ok {v:Value} {s:SV} (h:svOf v=some s) (n:Nn) (X:Env) (W:World):s.den X=v∧s.ok n X W:=by
 unfold svOf at h
 split at h
 ·split at h
  ·rename_i h1
   cases h
   have a:=zu3 h1 n X W
   exact ⟨by simp [SV.den,TV.den,dnL,a.1],a.2⟩
  ·cases h
 ·cases h
 ·split at h
  ·rename_i h1
   cases h
   exact yt1 h1 n X W
  ·cases h

noncomputable def nth {α:Type} (l:List α):Nat→Option α:=List.rec (motive:=fun _=>Nat→Option α) (fun _=>none) (fun a _ ih i=>Nat.rec (motive:=fun _=>Option α) (some a) (fun m _=>ih m) i) l
theorem zi5 {α:Type}:∀ (l:List α) (i:Nat),nth l i=l[i]?
 | [],_=>rfl
 | _::_,0=>rfl
 | _::l,i+1=>zi5 l i
noncomputable def setF {α β:Type} (l:List α):Nat→α→(List α→β)→β:=List.rec (motive:=fun _=>Nat→α→(List α→β)→β) (fun _ _ k=>k []) (fun a l ih i v k=>Nat.rec (motive:=fun _=>β) (k (v::l)) (fun m _=>ih m v fun r=>k (a::r)) i) l
theorem zX2 {α β:Type}:∀ (l:List α) (i:Nat) (v:α) (k:List α→β),setF l i v k=k (l.set i v)
 | [],_,_,_=>rfl
 | _::_,0,_,_=>rfl
 | a::l,i+1,v,k=>zX2 l i v fun r=>k (a::r)
noncomputable def frcL {α β:Type} (l:List α):(List α→β)→β:=List.rec (motive:=fun _=>(List α→β)→β) (fun k=>k []) (fun a _ ih k=>ih fun r=>k (a::r)) l
theorem zx7 {α β:Type}:∀ (l:List α) (k:List α→β),frcL l k=k l
 | [],_=>rfl
 | a::l,k=>zx7 l fun r=>k (a::r)
noncomputable def appF {α β:Type} (l m:List α):(List α→β)→β:=List.rec (motive:=fun _=>(List α→β)→β) (fun k=>k m) (fun a _ ih k=>ih fun r=>k (a::r)) l
theorem zX3 {α β:Type} (m:List α):∀ (l:List α) (k:List α→β),appF l m k=k (l++m)
 | [],_=>rfl
 | a::l,k=>zX3 m l fun r=>k (a::r)

def za5 (X:Env) (fr:List SV):Act:=⟨(fr.map (SV.den X)).toArray,X.D⟩
noncomputable def ev (fr:List SV):Operand→Option SV
 | .tmp t=>nth fr t
 | .const v=>svOf v
 | .func f=>some (.so (.vc (.cf f [])))
 | .global _=>none
theorem zd0 {fr:List SV} {x:Operand} {s:SV} (h:ev fr x=some s) {n:Nn} {X:Env} {W:World} (hf:okF n X W fr):(za5 X fr).eval x=s.den X∧s.ok n X W:=by
 cases x with
 | tmp t=>
  simp only [ev,zi5] at h
  refine ⟨?_,hf s (List.mem_of_getElem? h)⟩
  simp only [Act.eval,za5,Array.getD_eq_getD_getElem?]
  simp [h]
 | const v=>
  have:=svOf_ok h n X W
  exact ⟨this.1.symm,this.2⟩
 | func f=>cases h;exact ⟨rfl,rfl,trivial⟩
 | global g=>cases h
theorem zX4 (X:Env) (fr:List SV) (d:Nat) (s:SV):(za5 X fr).put (some d) (s.den X)=za5 X (fr.set d s):=by
 simp [za5,Act.put,List.map_set]
theorem yt2 {n:Nn} {X:Env} {W:World} {fr:List SV} (hf:okF n X W fr) {d:Nat} {s:SV} (hs:s.ok n X W):okF n X W (fr.set d s):=fun c hc=>by
 rcases List.mem_or_eq_of_mem_set hc with h | h
 ·exact hf c h
 ·exact h ▸ hs
theorem zl8 {n:Nn} {X Y:Env} {W:World} (h:Agr n X Y) {fr:List SV} (hf:okF n X W fr):za5 X fr=za5 Y fr:=by
 unfold za5
 rw [List.map_congr_left fun x hx=>SV.den_agree h (hf x hx),h.D]
end Go.Proofs.YtaldbfflkpgfoaaGreatDoor
namespace Go.Proofs.YtaldbfflkpgfoaaGreatDoor

def tn (n:Int):Nat→Int
 | 0=>n
 | i+1=>tn n i/10
def td (n:Int) (i:Nat):Int:=tn n i % 10
theorem zg5 (n:Int):tn n 0=n:=rfl
theorem zd1 (n:Int) (i:Nat):tn n (i+1)=tn n i/10:=rfl
theorem zc9 (n:Int) (i:Nat):0≤td n i:=by unfold td;omega
theorem zr9 (n:Int) (i:Nat):td n i<10:=by unfold td;omega
theorem zg7 (n:Int) (i:Nat):tn n i=10*tn n (i+1)+td n i:=by unfold td;rw [zd1];omega
theorem zw3 {n:Int} (h:0≤n):∀ i,0≤tn n i
 | 0=>h
 | i+1=>by have:=zw3 h i;rw [zd1];omega
theorem zY9 {a b:Int} (h:a≤b):∀ i,tn a i≤tn b i
 | 0=>h
 | i+1=>by have:=zY9 h i;rw [zd1,zd1];omega
theorem yw1 (n:Int) (i:Nat):∀ k,tn n (i+k)=tn (tn n i) k
 | 0=>rfl
 | k+1=>by rw [← Nat.add_assoc,zd1,yw1 n i k,zd1]
theorem zp5:∀ i,tn 0 i=0
 | 0=>rfl
 | i+1=>by rw [zd1,zp5 i];rfl
theorem zy7 {n:Int} {i k:Nat} (h:tn n i=0) (hk:i≤k):tn n k=0:=by
 obtain ⟨j,rfl⟩:=Nat.le.dest hk
 rw [yw1,h,zp5]
theorem zr0 {n:Int} {i k:Nat} (h:tn n i=0) (hk:i≤k):td n k=0:=by unfold td;rw [zy7 h hk];rfl
structure NX (n:Int) (len:Nat):Prop where
 nonneg:0≤n
 top:tn n len=0
 full:0<len→tn n (len - 1)≠0
theorem NX.zero:NX 0 0:=⟨Int.le_refl _,rfl,by omega⟩
theorem NX.len_zero {n:Int} {len:Nat} (h:NX n len):len=0↔n=0:=by
 constructor
 ·rintro rfl;exact h.top
 ·rintro rfl
  have:=h.full
  rw [zp5] at this
  omega
theorem NX.topdig {n:Int} {len:Nat} (h:NX n len) (hl:0<len):td n (len - 1)=tn n (len - 1)∧0<td n (len - 1):=by
 have h1:=h.top
 have h2:=zg7 n (len - 1)
 rw [show len - 1+1=len by omega,h1] at h2
 have h3:=h.full hl
 have h4:=zw3 h.nonneg (len - 1)
 omega
theorem NX.mk' {n:Int} {len:Nat} (h0:0≤n) (h1:tn n len=0) (h2:0<len→td n (len - 1)≠0):NX n len:=by
 refine ⟨h0,h1,fun hl h3=>h2 hl ?_⟩
 unfold td;rw [h3];rfl
theorem tn_trim {n:Int} {len:Nat} (h1:tn n len=0) (k:Nat) (hk:k≤len) (hz:∀ j,k≤j→j<len→td n j=0):tn n k=0:=by
 obtain ⟨j,rfl⟩:=Nat.le.dest hk
 clear hk
 induction j with
 | zero=>exact h1
 | succ j ih=>
  refine ih ?_ (fun i h2 h3=>hz i h2 (by omega))
  have h2:=zg7 n (k+j)
  have h3:=hz (k+j) (by omega) (by omega)
  have h4:tn n (k+j+1)=0:=h1
  omega
theorem NX.lt_of_len {a b:Int} {la lb:Nat} (ha:NX a la) (hb:NX b lb) (h:la<lb):a<b:=by
 refine Int.lt_of_not_ge fun hge=>?_
 have h1:=zY9 hge (lb - 1)
 have h2:=zy7 ha.top (show la≤lb - 1 by omega)
 have h3:=hb.full (by omega)
 have h4:=zw3 hb.nonneg (lb - 1)
 omega
theorem NX.len_unique {a:Int} {la lb:Nat} (ha:NX a la) (hb:NX a lb):la=lb:=by
 rcases Nat.lt_trichotomy la lb with h | h | h
 ·have:=ha.lt_of_len hb h;omega
 ·exact h
 ·have:=hb.lt_of_len ha h;omega
theorem NX.len_le {a b:Int} {la lb:Nat} (ha:NX a la) (hb:NX b lb) (h:a≤b):la≤lb:=by
 rcases Nat.lt_or_ge lb la with h1 | h1
 ·have:=hb.lt_of_len ha h1;omega
 ·exact h1
theorem yi7 {a b c:Int} {i:Nat} (h:tn (a+b) i=tn a i+tn b i+c) (h0:0≤c) (h1:c≤1):
  td (a+b) i=(c+td a i+td b i) % 10∧tn (a+b) (i+1)=tn a (i+1)+tn b (i+1)+(c+td a i+td b i)/10∧
   0≤(c+td a i+td b i)/10∧(c+td a i+td b i)/10≤1:=by
 unfold td;simp only [zd1];omega
theorem zZ0 {a b c:Int} {i:Nat} (h:tn (a+b) i=tn a i+tn b i+c) (h0:0≤c) (h1:c≤1) (hb:tn b i=0):
  td (a+b) i=(c+td a i) % 10∧tn (a+b) (i+1)=tn a (i+1)+tn b (i+1)+(c+td a i)/10∧
   0≤(c+td a i)/10∧(c+td a i)/10≤1:=by
 unfold td;simp only [zd1];omega
theorem zH3 {a b c:Int} {i:Nat} (h:tn (a - b) i=tn a i - tn b i - c) (h0:0≤c) (h1:c≤1):
  td (a - b) i=(td a i - c - td b i) % 10∧tn (a - b) (i+1)=tn a (i+1) - tn b (i+1) - (if td a i - c - td b i<0 then 1 else 0):=by
 unfold td;simp only [zd1];split<;>omega
theorem zA2 {a b c:Int} {i:Nat} (h:tn (a - b) i=tn a i - tn b i - c) (h0:0≤c) (h1:c≤1) (hb:tn b i=0):
  td (a - b) i=(td a i - c) % 10∧tn (a - b) (i+1)=tn a (i+1) - tn b (i+1) - (if td a i - c<0 then 1 else 0):=by
 unfold td;simp only [zd1];split<;>omega
theorem yw2 (n x:Int) (hx:0<x):∀ i,tn (n/x) i=tn n i/x
 | 0=>rfl
 | i+1=>by
  rw [zd1,zd1,yw2 n x hx i,Int.ediv_ediv_of_nonneg (by omega),Int.ediv_ediv_of_nonneg (by omega),Int.mul_comm]
theorem zZ1 (n x:Int) (i:Nat) (hx:0<x):
  td (n/x) i=(tn n (i+1) % x*10+td n i)/x∧tn n i % x=(tn n (i+1) % x*10+td n i) % x∧
   (tn n (i+1) % x*10+td n i)/x<10∧0≤(tn n (i+1) % x*10+td n i)/x:=by
 have hs:=zg7 n i
 have aa:=zc9 n i
 have hd:=zr9 n i
 have h1:=Int.emod_add_mul_ediv (tn n (i+1)) x
 have h2:=Int.emod_nonneg (tn n (i+1)) (show x≠0 by omega)
 have h3:=Int.emod_lt_of_pos (tn n (i+1)) hx
 have e:tn n i=(tn n (i+1) % x*10+td n i)+x*(10*(tn n (i+1)/x)):=by rw [hs];grind
 have e1:tn (n/x) i=(tn n (i+1) % x*10+td n i)/x+10*(tn n (i+1)/x):=by
  rw [yw2 n x hx,e,Int.add_mul_ediv_left _ _ (show x≠0 by omega)]
 have h4:(tn n (i+1) % x*10+td n i)/x<10:=by
  apply Int.ediv_lt_of_lt_mul hx
  omega
 have h5:0≤(tn n (i+1) % x*10+td n i)/x:=Int.ediv_nonneg (by omega) (by omega)
 refine ⟨?_,?_,h4,h5⟩
 ·have hdd:td (n/x) i=tn (n/x) i % 10:=rfl
  rw [hdd,e1]
  omega
 ·rw [e,Int.add_mul_emod_self_left]
theorem zH4 (r m:Int):∀ i,tn (r+m*10 ^ i) i=tn r i+m
 | 0=>by simp [zg5]
 | i+1=>by
  have e:r+m*10 ^ (i+1)=r+(m*10)*10 ^ i:=by rw [Int.pow_succ];grind
  rw [e,zd1,zH4 r (m*10) i,zd1]
  omega
theorem yw3 (r m:Int) {i j:Nat} (hj:j<i):td (r+m*10 ^ i) j=td r j:=by
 obtain ⟨k,rfl⟩:=Nat.le.dest hj
 have e:r+m*10 ^ (j+1+k)=r+(m*10 ^ k*10)*10 ^ j:=by
  rw [Int.pow_add,Int.pow_add];grind
 unfold td
 rw [e,zH4]
 omega
def zH7 (a:Int) (i:Nat):Int:=a - tn a i*10 ^ i
theorem zT8 (a:Int):zH7 a 0=0:=by simp [zH7,zg5]
theorem yw4 (a:Int) (i:Nat):zH7 a (i+1)=zH7 a i+td a i*10 ^ i:=by
 have:=zg7 a i
 unfold zH7
 rw [Int.pow_succ]
 grind
theorem tlow_top {a:Int} {len:Nat} (h:tn a len=0):zH7 a len=a:=by simp [zH7,h]
theorem yw5 {r x b c:Int} {i k:Nat} (h:tn (r+x*b*10 ^ i) (i+k)=tn r (i+k)+x*tn b k+c) (h0:0≤c) (h1:c<10)
  (ab:0≤x) (hx:x<10):
  td (r+x*b*10 ^ i) (i+k)=(c+(x*td b k+td r (i+k))) % 10∧
   tn (r+x*b*10 ^ i) (i+(k+1))=tn r (i+(k+1))+x*tn b (k+1)+(c+(x*td b k+td r (i+k)))/10∧
   0≤(c+(x*td b k+td r (i+k)))/10∧(c+(x*td b k+td r (i+k)))/10<10∧0≤x*td b k∧x*td b k≤81:=by
 have hs:=zg7 b k
 have aa:=zc9 b k
 have hd:=zr9 b k
 have hr:=zg7 r (i+k)
 have ae:=zc9 r (i+k)
 have ac:=zr9 r (i+k)
 have e:x*tn b k=10*(x*tn b (k+1))+x*td b k:=by rw [hs];grind
 have ad:0≤x*td b k:=Int.mul_nonneg ab aa
 have hp:x*td b k≤9*9:=Int.mul_le_mul (by omega) (by omega) aa (by omega)
 have hdd:td (r+x*b*10 ^ i) (i+k)=tn (r+x*b*10 ^ i) (i+k) % 10:=rfl
 rw [hdd,← Nat.add_assoc,zd1,h,e]
 generalize x*td b k=u at*
 generalize x*tn b (k+1)=v at*
 omega
end Go.Proofs.YtaldbfflkpgfoaaGreatDoor
namespace Go.Proofs.YtaldbfflkpgfoaaGreatDoor
open Go.RowKit

structure DRow (w:World) (ao:Option Addr) (len:Nat) (d:Nat→Int):Prop where
 raw:0<len→∃ (b off:Nat) (cs:Array Value) (fr:Nat × Nat),ao=some ⟨b,off,none⟩∧w.heap[b]?=some (.cells cs 3 fr)∧∀ i,i<len→cs[off+i]?=some (.int .i64 (d i))
theorem DRow.at_ {w:World} {ao:Option Addr} {len:Nat} {d:Nat→Int} (h:DRow w ao len d) (hp:0<len):
  ∃ b off,ao=some ⟨b,off,none⟩∧∀ i,i<len→w.cell? ⟨b,off+i,none⟩=some (.int .i64 (d i)):=by
 obtain ⟨b,off,cs,fr,e,hb,hc⟩:=h.raw hp
 exact ⟨b,off,e,fun i hi=>by simp only [World.cell?,hb,Option.isSome_none];exact hc i hi⟩
theorem DRow.nil (w:World) (ao:Option Addr) (d:Nat→Int):DRow w ao 0 d:=⟨fun h=>by omega⟩
theorem DRow.shorter {w:World} {ao:Option Addr} {len k:Nat} {d:Nat→Int} (h:DRow w ao len d) (hk:k≤len):DRow w ao k d:=
 ⟨fun hp=>by
  obtain ⟨b,off,cs,fr,e,hb,hc⟩:=h.raw (by omega)
  exact ⟨b,off,cs,fr,e,hb,fun i hi=>hc i (by omega)⟩⟩
theorem DRow.congr {w:World} {ao:Option Addr} {len:Nat} {d d':Nat→Int} (h:DRow w ao len d) (e:∀ i,i<len→d i=d' i):DRow w ao len d':=
 ⟨fun hp=>by
  obtain ⟨b,off,cs,fr,e',hb,hc⟩:=h.raw hp
  exact ⟨b,off,cs,fr,e',hb,fun i hi=>by rw [hc i hi,e i hi]⟩⟩
theorem DRow.gr {w w':World} {ao:Option Addr} {len:Nat} {d:Nat→Int} (h:DRow w ao len d) (hk:Gr w w'):DRow w' ao len d:=
 ⟨fun hp=>by
  obtain ⟨b,off,cs,fr,e,hb,hc⟩:=h.raw hp
  exact ⟨b,off,cs,fr,e,hk.heap hb,hc⟩⟩
theorem DRow.below {w w':World} {ao:Option Addr} {len:Nat} {d:Nat→Int} (h:DRow w ao len d) (hb:Below w.heap.size w w'):DRow w' ao len d:=h.gr hb

def TenS (w:World) (v:Value) (n:Int):Prop:=∃ ao len cap,v=.slice ao len cap∧len≤cap∧NX n len∧DRow w ao len (td n)
def TenZ (w:World) (v:Value) (n:Int):Prop:=∃ ao len cap,v=.slice ao len cap∧len≤cap∧len≤900001∧tn n len=0∧DRow w ao len (td n)
theorem TenS.gr {w w':World} {v:Value} {n:Int} (h:TenS w v n) (g:Gr w w'):TenS w' v n:=by
 obtain ⟨ao,len,cap,h1,h2,h3,h4⟩:=h
 exact ⟨ao,len,cap,h1,h2,h3,h4.gr g⟩
theorem TenZ.gr {w w':World} {v:Value} {n:Int} (h:TenZ w v n) (g:Gr w w'):TenZ w' v n:=by
 obtain ⟨ao,len,cap,h1,h2,h3,h4,h5⟩:=h
 exact ⟨ao,len,cap,h1,h2,h3,h4,h5.gr g⟩
def zi8 (k:IntKind) (n:Nat) (d:Nat→Int):List Value:=(List.range n).map fun i=>.int k (d i)
theorem zb3 (k:IntKind) (n:Nat) (d:Nat→Int):(zi8 k n d).length=n:=by simp [zi8]
theorem zd2 (k:IntKind) (n:Nat) (d:Nat→Int):zi8 k (n+1) d=zi8 k n d++[.int k (d n)]:=by simp [zi8,List.range_succ]
theorem zT9 (k:IntKind) (d:Nat→Int) {n i:Nat} (h:i<n):(zi8 k n d)[i]?=some (.int k (d i)):=by simp [zi8,h]

theorem zb9 {P:Program} {ops:Array Oper} {rest:List Oper} {o:Oper} {a:Act} {w:World} {Q:Exit→Act→World→Prop} (hgd:o.guard=none) (s x:Operand) (t:TypeId)
  (ho:o.op=.call {callee:=.builtin .append,args:=#[s,x],argTypes:=#[t,t]}) (T B:Nat) (z v:Value) (ys:List Value) (hs:a.eval s=v) (hown:OwnS w T B v ys)
  (b c:Nat) (u:Value) (hx:a.eval x=.slice (some ⟨b,0,none⟩) 1 c) (hb:w.heap[b]?=some (.cells #[u] T)) (hu:u.oneCell'=true) (w0:World) (hB:Below B w0 w) (hn:ys.length≤1000000) (bytes:Nat) (hbytes:bytes≤1000)
  (ht:P.underlying t=some (.slice T)) (hi:(P.info? T).map (fun i=>(i.zero,i.size,i.bytes))=some (some z,1,bytes)) (hzs:z.cells.size=1) (hBw:B≤w.heap.size)
  (h:∀ v' w',OwnS w' T B v' (ys++[u])→Below B w0 w'→(∀ k,k<w.heap.size→v.ownBlock≠some k→w'.heap[k]?=w.heap[k]?)→w.heap.size≤w'.heap.size→wpList P ops Q rest (a.put o.dst v') w'):wpList P ops Q (o::rest) a w:=by
 obtain ⟨i,hi,hz,hsize,hby⟩:=info_parts hi
 have ab:(ys.length+1)*bytes≤1000001*1000:=Nat.mul_le_mul (by omega) hbytes
 refine wpList_append_own w hgd s x t ho B T i z 1 bytes ht hi hz hsize hby hzs (by omega) v ys.length ys hs hown ⟨b,0,none⟩ 1 c [u] hx rfl (fun j y hj=>?_) (fun y hy=>?_) (by unfold maxLen;omega) (by omega) hBw ?_
 ·have aa:j=0:=by
   have:=(List.getElem?_eq_some_iff.1 hj).1
   simp at this;omega
  subst aa
  simp only [List.getElem?_cons_zero,Option.some.injEq] at hj
  subst hj
  exact zb4 hb 0
 ·simp only [List.mem_singleton] at hy
  subst hy;exact hu
 ·intro v' w' h2 hg _
  have hnew:∀ k,v.ownBlock=some k→B≤k:=by
   intro k hk
   rcases hown.2 with ⟨rfl,_⟩ | ⟨g,cap,cur,rfl,hb,hgg,_⟩
   ·simp [Value.ownBlock] at hk
   ·simp [Value.ownBlock] at hk
    subst hk;exact hb
  refine h v' w' ?_ ?_ (fun k hk hne=>hg.block k hk (fun e=>hne e.symm)) hg.size
  ·unfold OwnS;simpa using h2
  ·refine Below.trans hB ⟨hg.os,hg.tape,hg.output,hg.size,fun k hk=>hg.block k (by omega) (fun e=>?_)⟩
   have:=hnew k e.symm
   omega

theorem OwnS.cells {w:World} {T B:Nat} {v:Value} {ys:List Value} (h:OwnS w T B v ys) (hp:0<ys.length):
  ∃ g cap cur,v=.slice (some ⟨g,0,none⟩) ys.length cap∧B≤g∧w.heap[g]?=some (.cells cur T (0,0))∧ys.length≤cap∧cap≤maxLen∧∀ i,i<ys.length→cur[i]?=ys[i]?:=by
 obtain ⟨g,cap,cur,e,hb,hg,h1,h2,h3,h4⟩:=h.block hp
 refine ⟨g,cap,cur,e,hb,hg,h1,h2,fun i hi=>?_⟩
 rw [← h4,List.getElem?_take_of_lt hi];simp
theorem OwnS.drow {w:World} {B:Nat} {v:Value} {n:Nat} {d:Nat→Int} (h:OwnS w 3 B v (zi8 .i64 n d)):∃ ao cap,v=.slice ao n cap∧n≤cap∧cap≤maxLen∧DRow w ao n d:=by
 rcases Nat.eq_zero_or_pos n with e | hp
 ·subst e
  rcases h.2 with ⟨rfl,_⟩ | ⟨g,cap,cur,rfl,hb,hg,h1,h2,h3⟩
  ·exact ⟨none,0,rfl,by omega,by unfold maxLen;omega,DRow.nil _ _ _⟩
  ·exact ⟨_,cap,rfl,by omega,h2,DRow.nil _ _ _⟩
 ·obtain ⟨g,cap,cur,e,hb,hg,h1,h2,hc⟩:=h.cells (by rw [zb3];exact hp)
  rw [zb3] at e h1 hc
  refine ⟨_,cap,e,h1,h2,⟨fun _=>⟨g,0,cur,(0,0),rfl,hg,fun i hi=>?_⟩⟩⟩
  rw [Nat.zero_add,hc i hi,zT9 _ _ hi]
def TenF (w:World) (B:Nat) (v:Value) (n:Int):Prop:=∃ ao len cap,v=.slice ao len cap∧len≤cap∧NX n len∧DRow w ao len (td n)∧∀ ad,ao=some ad→B≤ad.block
theorem TenF.s {w:World} {B:Nat} {v:Value} {n:Int} (h:TenF w B v n):TenS w v n:=by
 obtain ⟨ao,len,cap,h1,h2,h3,h4,_⟩:=h
 exact ⟨ao,len,cap,h1,h2,h3,h4⟩
theorem TenF.gr {w w':World} {B:Nat} {v:Value} {n:Int} (h:TenF w B v n) (g:Gr w w'):TenF w' B v n:=by
 obtain ⟨ao,len,cap,h1,h2,h3,h4,h5⟩:=h
 exact ⟨ao,len,cap,h1,h2,h3,h4.gr g,h5⟩
theorem TenF.mono {w:World} {B C:Nat} {v:Value} {n:Int} (h:TenF w B v n) (hC:C≤B):TenF w C v n:=by
 obtain ⟨ao,len,cap,h1,h2,h3,h4,h5⟩:=h
 exact ⟨ao,len,cap,h1,h2,h3,h4,fun ad e=>Nat.le_trans hC (h5 ad e)⟩
theorem TenF.set {w:World} {B g:Nat} {v:Value} {n:Int} (h:TenF w B v n) (hg:g<B) (i:Nat) (u:Value):TenF (w.setCell ⟨g,i,none⟩ u) B v n:=by
 obtain ⟨ao,len,cap,h1,h2,h3,h4,h5⟩:=h
 refine ⟨ao,len,cap,h1,h2,h3,⟨fun hp=>?_⟩,h5⟩
 obtain ⟨b,off,cs,fr,e,hb,hc⟩:=h4.raw hp
 have:=h5 _ e
 exact ⟨b,off,cs,fr,e,(Below.heap_setCell _ _ _ _ (by show b≠g;simp at this;omega)).trans hb,hc⟩
theorem OwnS.drowF {w:World} {B:Nat} {v:Value} {n:Nat} {d:Nat→Int} (h:OwnS w 3 B v (zi8 .i64 n d)):∃ ao cap,v=.slice ao n cap∧n≤cap∧cap≤maxLen∧DRow w ao n d∧∀ ad,ao=some ad→B≤ad.block:=by
 obtain ⟨ao,cap,e,h1,h2,h3⟩:=h.drow
 refine ⟨ao,cap,e,h1,h2,h3,fun ad ea=>?_⟩
 subst e ea
 rcases h.2 with ⟨h0,_⟩ | ⟨g,c1,c2,h0,hb,_⟩
 ·cases h0
 ·simp only [Value.slice.injEq,Option.some.injEq] at h0
  rw [h0.1];exact hb
theorem ze4:(Tryz.prog.info? 3).map (fun i=>(i.zero,i.size,i.bytes))=some (some (.int .i64 0),1,8):=by kernel_rfl
structure DOwn (w:World) (b n:Nat) (d:Nat→Int):Prop where
 raw:∃ cs,w.heap[b]?=some (.cells cs 3)∧∀ i,i<n→cs[i]?=some (.int .i64 (d i))
theorem DOwn.lt {w:World} {b n:Nat} {d:Nat→Int} (h:DOwn w b n d):b<w.heap.size:=by
 obtain ⟨cs,hb,hc⟩:=h.raw;exact zf6 hb
theorem DOwn.cell {w:World} {b n:Nat} {d:Nat→Int} (h:DOwn w b n d):∀ i,i<n→w.cell? ⟨b,i,none⟩=some (.int .i64 (d i)):=by
 obtain ⟨cs,hb,hc⟩:=h.raw
 exact fun i hi=>by simp only [World.cell?,hb,Option.isSome_none];exact hc i hi
theorem DOwn.free {w:World} {b n:Nat} {d:Nat→Int} (h:DOwn w b n d):∀ i,w.frozen? ⟨b,i,none⟩=false:=by
 obtain ⟨cs,hb,hc⟩:=h.raw
 exact fun i=>by simp [World.frozen?,hb]
theorem DOwn.set {w:World} {b n:Nat} {d:Nat→Int} (h:DOwn w b n d) {i:Nat} (_hi:i<n) (v:Int):DOwn (w.setCell ⟨b,i,none⟩ (.int .i64 v)) b n (upd d i v):=by
 obtain ⟨cs,hb,hc⟩:=h.raw
 refine ⟨_,za9 _ hb,fun j hj=>?_⟩
 by_cases e:i=j
 ·subst e
  have:=(Array.getElem?_eq_some_iff.1 (hc i hj)).1
  rw [zb6];simp [this]
 ·rw [za6 d v (Ne.symm e),Array.getElem?_setIfInBounds_ne e];exact hc j hj
theorem DOwn.gr {w w':World} {b n:Nat} {d:Nat→Int} (h:DOwn w b n d) (hb:Gr w w'):DOwn w' b n d:=by
 obtain ⟨cs,hb',hc⟩:=h.raw
 exact ⟨cs,hb.heap hb',hc⟩
theorem DOwn.below {w w':World} {b n:Nat} {d:Nat→Int} (h:DOwn w b n d) (hb:Below w.heap.size w w'):DOwn w' b n d:=h.gr hb
theorem DOwn.congr {w:World} {b n:Nat} {d d':Nat→Int} (h:DOwn w b n d) (e:∀ i,i<n→d i=d' i):DOwn w b n d':=by
 obtain ⟨cs,hb',hc⟩:=h.raw
 exact ⟨cs,hb',fun i hi=>by rw [hc i hi,e i hi]⟩
theorem DOwn.row {w:World} {b n:Nat} {d:Nat→Int} (h:DOwn w b n d):DRow w (some ⟨b,0,none⟩) n d:=by
 obtain ⟨cs,hb',hc⟩:=h.raw
 exact ⟨fun _=>⟨b,0,cs,(0,0),rfl,hb',fun i hi=>by rw [Nat.zero_add];exact hc i hi⟩⟩
theorem DOwn.shorter {w:World} {b n k:Nat} {d:Nat→Int} (h:DOwn w b n d) (hk:k≤n):DOwn w b k d:=by
 obtain ⟨cs,hb',hc⟩:=h.raw
 exact ⟨cs,hb',fun i hi=>hc i (by omega)⟩
theorem zA3 (w:World) {ops:Array Oper} {rest:List Oper} {o:Oper} {a:Act} {Q:Exit→Act→World→Prop}
  (hg:o.guard=none) (l c:Operand) (hop:o.op=Op.makeSlice 175 l c) (L C:Int) (n:Nat) (hl:a.eval l=.int .i64 L) (hc:a.eval c=.int .i64 C) (hL:L=(n:Int)) (hC:C=(n:Int)) (hn:n≤8000000)
  (hK:∀ w',DOwn w' w.heap.size n (fun _=>0)→Below w.heap.size w w'→w'.heap.size=w.heap.size+1→wpList Tryz.prog ops Q rest (a.put o.dst (.slice (some ⟨w.heap.size,0,none⟩) n n)) w'):
  wpList Tryz.prog ops Q (o::rest) a w:=by
 refine wpList_plain hg fun K hK'=>?_
 obtain ⟨i,hi,hz,hs,hb⟩:=info_parts ze4
 have hrun:=run_make (P:=Tryz.prog) w 175 3 i _ Tryz.underlying175 hi hz .i64 .i64 (n:Int) (n:Int) (by omega) (Int.le_refl _) (by rw [hb];omega) (by omega)
 simp only [Int.toNat_natCast] at hrun
 rw [hs,Nat.mul_one] at hrun
 subst hL hC
 unfold Oper.wp
 simp [execOp,hop,hl,hc,hrun,Result.andThen]
 refine hK' _ _ (hK _ ⟨_,heap_alloc_new w _,fun j hj=>?_⟩ ((Below.refl _ _).alloc (Nat.le_refl _) _) (by simp))
 simp [madeCells,Value.cells,hj,Nat.mod_one]
end Go.Proofs.YtaldbfflkpgfoaaGreatDoor
namespace Go.Proofs.YtaldbfflkpgfoaaGreatDoor
open Go

theorem zr1 (n:Int) (i:Nat):tn (n/10) i=tn n (i+1):=by
 rw [Nat.add_comm i 1,yw1];rfl
theorem ye5 (n:Int) (i:Nat):td (n/10) i=td n (i+1):=by unfold td;rw [zr1]
theorem NX.small {n:Int} (h0:0<n) (h1:n<10):NX n 1:=⟨by omega,by rw [zd1,zg5];omega,fun _=>by show tn n 0≠0;rw [zg5];omega⟩
theorem NX.div {n:Int} {len:Nat} (h:NX n (len+1)):NX (n/10) len:=by
 refine ⟨by have:=h.nonneg;omega,by rw [zr1];exact h.top,fun hl=>?_⟩
 rw [zr1]
 have:=h.full (by omega)
 rwa [show len+1 - 1=len - 1+1 by omega] at this
theorem NX.exists (n:Nat):∃ len,NX (n:Int) len:=by
 induction n using Nat.strongRecOn with
 | _ n ih=>
  rcases Nat.eq_zero_or_pos n with e | hp
  ·exact ⟨0,by subst e;exact NX.zero⟩
  ·obtain ⟨k,hk⟩:=ih (n/10) (by omega)
   refine ⟨k+1,by omega,by rw [← zr1];exact_mod_cast hk.top,fun _=>?_⟩
   rw [Nat.add_sub_cancel]
   rcases Nat.eq_zero_or_pos k with e | hk0
   ·subst e;rw [zg5];omega
   ·have:=hk.full hk0
    rw [Int.natCast_ediv,show ((10:Nat):Int)=10 from rfl,zr1] at this
    rwa [show k - 1+1=k by omega] at this
theorem zL1:∀ (len n:Nat),NX (n:Int) len→0<n→(Lib.decDigits n).length=len∧∀ i,i<len→(Lib.decDigits n)[len - 1 - i]?=some (UInt8.ofNat (48+(td (n:Int) i).toNat))
 | 0,n,h,hp=>by have:=h.len_zero.1 rfl;omega
 | len+1,n,h,hp=>by
  by_cases h1:n<10
  ·have e:len+1=1:=h.len_unique (NX.small (by omega) (by omega))
   have e0:len=0:=by omega
   subst e0
   rw [zc5 h1]
   refine ⟨rfl,fun i hi=>?_⟩
   have e2:i=0:=by omega
   subst e2
   have:(td (n:Int) 0).toNat=n:=by unfold td;rw [zg5];omega
   rw [this];rfl
  ·have hd:NX ((n/10:Nat):Int) len:=by
    have:=h.div
    rwa [show ((n:Int)/10)=((n/10:Nat):Int) by omega] at this
   obtain ⟨l1,l2⟩:=zL1 len (n/10) hd (by omega)
   rw [zi9 (by omega)]
   refine ⟨by simp [l1],fun i hi=>?_⟩
   cases i with
   | zero=>
    rw [Nat.sub_zero,Nat.add_sub_cancel,← l1,List.getElem?_append_right (Nat.le_refl _),Nat.sub_self]
    have:(td (n:Int) 0).toNat=n % 10:=by unfold td;rw [zg5];omega
    rw [this];rfl
   | succ i=>
    have hi':i<len:=by omega
    have e:len+1 - 1 - (i+1)=len - 1 - i:=by omega
    rw [e,List.getElem?_append_left (by omega),l2 i hi',← ye5]
    rw [show ((n/10:Nat):Int)=(n:Int)/10 by omega]
theorem yw6 {n len:Nat} (h:NX (n:Int) len) (hp:0<n) {k:Nat} (hk:k<len):(Lib.decDigits n)[k]?=some (UInt8.ofNat (48+(td (n:Int) (len - 1 - k)).toNat)):=by
 have:=(zL1 len n h hp).2 (len - 1 - k) (by omega)
 rwa [show len - 1 - (len - 1 - k)=k by omega] at this
theorem ye6 {n len:Nat} (h:NX (n:Int) len) (hp:0<n) {k:Nat} (hk:k<len):(Lib.decDigits n).take (k+1)=(Lib.decDigits n).take k++[UInt8.ofNat (48+(td (n:Int) (len - 1 - k)).toNat)]:=by
 rw [List.take_add_one,yw6 h hp hk];rfl
theorem dec_any (n:Nat):∃ m,0<m∧m≤(Lib.decDigits n).length∧tn (n:Int) m=0∧(Lib.decDigits n).length=m∧∀ i,i<m→(Lib.decDigits n)[m - 1 - i]?=some (UInt8.ofNat (48+(td (n:Int) i).toNat)):=by
 rcases Nat.eq_zero_or_pos n with e | hp
 ·subst e
  rw [zc5 (by omega)]
  refine ⟨1,by omega,by simp,rfl,rfl,fun i hi=>?_⟩
  obtain rfl:i=0:=by omega
  rfl
 ·obtain ⟨len,h⟩:=NX.exists n
  have hl:0<len:=by
   rcases Nat.eq_zero_or_pos len with e | e
   ·have:=h.len_zero.1 e;omega
   ·exact e
  obtain ⟨h1,h2⟩:=zL1 len n h hp
  exact ⟨len,hl,by omega,h.top,h1,h2⟩
theorem zO8 (n:Int) (i:Nat):((UInt8.ofNat (48+(td n i).toNat)).toNat:Int)=48+td n i:=by
 have h0:=zc9 n i
 have h1:=zr9 n i
 rw [UInt8.toNat_ofNat']
 omega
theorem zb7 {z:Int} (h:0≤z):Lib.itoa z=Lib.decDigits z.natAbs:=by
 unfold Lib.itoa
 rw [if_neg (by omega)]
 congr 1
 omega
theorem ze5 {z:Int} (h:z<0):Lib.itoa z=45::Lib.decDigits z.natAbs:=by unfold Lib.itoa;rw [if_pos h]
theorem itoa_one:Lib.itoa 1=[49]:=by rw [zb7 (by omega)];exact zc5 (by decide)
theorem ye7 {n:Nat} (hp:0<n):∃ c,(Lib.decDigits n)[0]?=some c∧49≤c.toNat∧c.toNat≤57:=by
 obtain ⟨len,h⟩:=NX.exists n
 have hl:0<len:=by
  rcases Nat.eq_zero_or_pos len with e | e
  ·have:=h.len_zero.1 e;omega
  ·exact e
 refine ⟨_,yw6 h hp hl,?_⟩
 have h1:=h.topdig hl
 have h2:=zO8 (n:Int) (len - 1)
 have h3:=zr9 (n:Int) (len - 1)
 rw [Nat.sub_zero]
 omega
theorem dec_zero:Lib.decDigits 0=[48]:=zc5 (by omega)
theorem zp6 (n:Nat):∀ c ∈ Lib.decDigits n,48≤c.toNat∧c.toNat≤57:=by
 induction n using Nat.strongRecOn with
 | _ n ih=>
  by_cases h1:n<10
  ·rw [zc5 h1]
   intro c hc
   simp only [List.mem_singleton] at hc
   subst hc
   rw [UInt8.toNat_ofNat'];omega
  ·rw [zi9 (by omega)]
   intro c hc
   rcases List.mem_append.1 hc with hc | hc
   ·exact ih _ (by omega) c hc
   ·simp only [List.mem_singleton] at hc
    subst hc
    rw [UInt8.toNat_ofNat'];omega
def zs5 (l:List UInt8):Nat:=l.foldl (fun a c=>a*10+(c.toNat - 48)) 0
theorem yw7 (l:List UInt8) (c:UInt8):zs5 (l++[c])=zs5 l*10+(c.toNat - 48):=by simp [zs5,List.foldl_append]
theorem zB8 (n:Nat):zs5 (Lib.decDigits n)=n:=by
 induction n using Nat.strongRecOn with
 | _ n ih=>
  by_cases h1:n<10
  ·rw [zc5 h1]
   show 0*10+((UInt8.ofNat (48+n)).toNat - 48)=n
   rw [UInt8.toNat_ofNat'];omega
  ·rw [zi9 (by omega),yw7,ih _ (by omega),UInt8.toNat_ofNat'];omega
theorem zw4 {a b:Nat} (h:Lib.decDigits a=Lib.decDigits b):a=b:=by rw [← zB8 a,← zB8 b,h]
theorem ye8 {a b:Int} (h:Lib.itoa a=Lib.itoa b):a=b:=by
 have key:∀ n:Nat,∀ l,45::l≠Lib.decDigits n:=fun n l e=>by
  have:=zp6 n 45 (by rw [← e];simp)
  simp at this
 by_cases h1:a<0<;>by_cases h2:b<0
 ·rw [ze5 h1,ze5 h2] at h
  have:=zw4 (List.cons.inj h).2
  omega
 ·rw [ze5 h1,zb7 (by omega)] at h
  exact absurd h (key _ _)
 ·rw [zb7 (by omega),ze5 h2] at h
  exact absurd h.symm (key _ _)
 ·rw [zb7 (by omega),zb7 (by omega)] at h
  have:=zw4 h
  omega
end Go.Proofs.YtaldbfflkpgfoaaGreatDoor
namespace Go.Proofs.YtaldbfflkpgfoaaGreatDoor
open Go.RowKit

set_option maxHeartbeats 400000 in
theorem zM9 (ao:Option Addr) (len cap:Nat) (n:Int) (w:World) (hl:len≤2000000) (hcap:len≤cap) (h0:0≤n) (h1:tn n len=0) (hr:DRow w ao len (td n)):
  Calls Tryz.prog 146 #[.slice ao len cap] w fun e w'=>(∃ k,e=.returned (.slice ao k cap)∧k≤len∧NX n k)∧w=w':=by
 go_enter Tryz.func146,Tryz.ntmps146
 go_wp2
 go_loop [3] (fun v=>∃ k:Nat,k≤len∧v=.int .i64 k∧Hid (tn n k=0)) (fun v=>(intOf v).toNat)
 case atStart=>exact ⟨len,Nat.le_refl _,rfl,h1⟩
 case round=>
  obtain ⟨k,hk,rfl,hz⟩:=hrel
  by_cases hp:0<k
  ·obtain ⟨b,off,rfl,hcs⟩:=hr.at_ (by omega)
   have hcell:=hcs (k-1) (by omega)
   have e1:((k:Int) - 1)=((k-1:Nat):Int):=by omega
   clear hcs
   go_wp2
   ·have h2:(td n (k - 1)==0)=true:=by assumption
    go_round
    case rel=>exact ⟨k - 1,by omega,by go_num,tn_trim hz.out (k - 1) (by omega) (fun j h3 h4=>by
     obtain rfl:j=k - 1:=by omega
     simpa using h2)⟩
    case measure=>simp [intOf];omega
   ·have h2:(td n (k - 1)==0)=false:=by assumption
    go_ret
    exact ⟨⟨k,rfl,hk,NX.mk' h0 hz.out (fun _=>by simpa using h2)⟩,rfl⟩
  ·go_wp2
   go_ret
   obtain rfl:k=0:=by omega
   exact ⟨⟨0,rfl,by omega,NX.mk' h0 hz.out (by omega)⟩,rfl⟩

theorem yc9 {a b:Int} {k:Nat} (h:tn a (k+1)=tn b (k+1)) (hd:td a k<td b k):a<b:=by
 refine Int.lt_of_not_ge fun hge=>?_
 have h1:=zY9 hge k
 have h2:=zg7 a k
 have h3:=zg7 b k
 omega
set_option maxHeartbeats 400000 in
theorem r1_order (ao bo:Option Addr) (la lb ca cb:Nat) (a b:Int) (w:World) (hla:la≤2000000) (hlb:lb≤2000000)
   (na:NX a la) (ha:DRow w ao la (td a)) (nb:NX b lb) (hb:DRow w bo lb (td b)):
    Calls Tryz.prog 147 #[.slice ao la ca,.slice bo lb cb] w fun e w'=>e=.returned (.int .i64 (sgn (a - b)))∧Below w.heap.size w w':=by
  by_cases hl:la=lb
  · subst hl
    have hne:((la:Int) !=la)=false:=by simp
    go_enter Tryz.func147,Tryz.ntmps147
    go_wp2
    go_loopw [5] (fun i wr=>∃ k:Nat,k≤la∧i=.int .i64 ((k:Int) - 1)∧Hid (tn a k=tn b k)∧Below w.heap.size w wr) (fun i _=>(intOf i+1).toNat)
    case atStart=>exact ⟨la,Nat.le_refl _,rfl,by rw [Hid,na.top,nb.top],Below.refl _ _⟩
    case round=>
      obtain ⟨k,hk,rfl,hz,hB⟩:=hrel
      by_cases hp:0<k
      · obtain ⟨b1,ae,rfl,ad⟩:=(ha.below hB).at_ (by omega)
        obtain ⟨b2,af,rfl,ac⟩:=(hb.below hB).at_ (by omega)
        have aa:=ad (k-1) (by omega)
        have ab:=ac (k-1) (by omega)
        obtain ⟨j,rfl⟩:∃ j,k=j+1:=⟨k - 1,by omega⟩
        have e1:(((j+1:Nat):Int) - 1)=(j:Int):=by omega
        have e2:j+1 - 1=j:=by omega
        rw [e2] at aa ab
        simp only [e1]
        clear ad ac e1 e2
        have i0:(0:Int)≤(j:Int):=by omega
        have i1:(j:Int)<(la:Int):=by omega
        go_wp2
        go_quiet (fail)
        go_wp2
        · have h2:td a j<td b j:=by assumption
          go_ret
          exact ⟨zf7 (zf4 (by have:=yc9 hz.out h2;omega)).symm,hB.drewN _⟩
        · have h2:td b j≤td a j:=by assumption
          go_quiet (fail)
          go_wp2
          · have h3:td b j<td a j:=by assumption
            go_ret
            exact ⟨zf7 (zd7 (by have:=yc9 hz.out.symm h3;omega)).symm,(hB.drewN _).drewN _⟩
          · have h3:td a j≤td b j:=by assumption
            go_roundw
            case rel=>
              refine ⟨j,by omega,rfl,?_,hB.drewN _⟩
              have h1:=zg7 a j
              have h4:=zg7 b j
              have h5:=hz.out
              show tn a j=tn b j
              omega
            case measure=>simp [intOf]
      · obtain rfl:k=0:=by omega
        go_wp2
        go_ret
        have h3:a=b:=hz.out
        exact ⟨zf7 (by rw [h3,Int.sub_self];rfl),hB⟩
  · have hne:((la:Int) !=lb)=true:=by simp;omega
    by_cases hlt:la<lb
    · go_enter Tryz.func147,Tryz.ntmps147
      go_wp2
      go_ret
      exact ⟨zf7 (zf4 (by have:=na.lt_of_len nb hlt;omega)).symm,Below.refl _ _⟩
    · go_enter Tryz.func147,Tryz.ntmps147
      go_wp2
      go_ret
      exact ⟨zf7 (zd7 (by have:=nb.lt_of_len na (by omega);omega)).symm,Below.refl _ _⟩

set_option maxHeartbeats 400000 in
theorem yp8 (w:World):Calls Tryz.prog 124 #[.string ⟨#[48]⟩] w fun e w'=>e=.returned (.int .i64 0)∧w=w':=by
 go_enter Tryz.func124,Tryz.ntmps124
 go_wp2
 go_ret
 exact ⟨rfl,rfl⟩
set_option maxHeartbeats 400000 in
theorem yp9 (s:ByteArray) (w:World) (h:(s.toList==[48])=false) (h0:0<s.size) (h1:((s[0].toNat:Int)==45)=true):
  Calls Tryz.prog 124 #[.string s] w fun e w'=>e=.returned (.int .i64 (-1))∧w=w':=by
 go_enter Tryz.func124,Tryz.ntmps124
 go_wp2
 go_ret
 exact ⟨rfl,rfl⟩
set_option maxHeartbeats 400000 in
theorem yq0 (s:ByteArray) (w:World) (h:(s.toList==[48])=false) (h0:0<s.size) (h1:((s[0].toNat:Int)==45)=false):
  Calls Tryz.prog 124 #[.string s] w fun e w'=>e=.returned (.int .i64 1)∧w=w':=by
 go_enter Tryz.func124,Tryz.ntmps124
 go_wp2
 go_ret
 exact ⟨rfl,rfl⟩
theorem zg6 {s:ByteArray} {l:List UInt8} (h:s.data.toList=l) {q:Nat} (hq:q<s.size) {c:UInt8} (hc:l[q]?=some c):s[q]=c:=by
 have h1:s.data.toList[q]?=some c:=by rw [h];exact hc
 rw [Array.getElem?_toList] at h1
 obtain ⟨h2,h3⟩:=Array.getElem?_eq_some_iff.1 h1
 exact h3
set_option maxRecDepth 10000 in
set_option maxHeartbeats 1000000 in
theorem yq1 (neg:Bool) (n:Nat) (s:ByteArray) (w:World) (hs:s.data.toList=(if neg then [45] else [])++Lib.decDigits n) (hlen:(Lib.decDigits n).length≤900000):
  Calls Tryz.prog 127 #[.string s] w fun e w'=>(∃ v,e=.returned v∧TenS w' v n)∧Below w.heap.size w w':=by
 obtain ⟨m,ab,_,htop,hml,hchar⟩:=dec_any n
 obtain ⟨sg,hsg,hsgl⟩:∃ sg:Nat,sg≤1∧(if neg then [45] else []:List UInt8).length=sg:=by
  cases neg
  ·exact ⟨0,by omega,rfl⟩
  ·exact ⟨1,by omega,rfl⟩
 have hsz:s.size=sg+m:=by
  have:=congrArg List.length hs
  rw [List.length_append,hsgl,hml] at this
  simpa using this
 have HS:=Lib.hid hs
 have HZ:=Lib.hid hsz
 have HC:=Lib.hid hchar
 have HM:=Lib.hid hml
 have HT:=Lib.hid htop
 have HG:=Lib.hid hsgl
 have hszle:s.size≤1000000:=by omega
 clear hs hsz hchar hml htop hsgl
 go_enter Tryz.func127,Tryz.ntmps127
 go_wp2
 go_loopw [3,4] (fun o i wr=>∃ (j k:Nat) (v:Value),o=v∧i=.int .i64 ((j:Int) - 1)∧Hid ((k+j=s.size∧k≤m∨j=0∧k=m)∧OwnS wr 3 w.heap.size v (zi8 .i64 k (td n)))∧Below w.heap.size w wr) (fun _ i _=>(intOf i+1).toNat)
 case atStart=>exact ⟨s.size,0,_,rfl,rfl,⟨.inl ⟨by omega,by omega⟩,OwnS.nil _ _ _⟩,Below.refl _ _⟩
 case round=>
  obtain ⟨j,k,v,rfl,rfl,hz,hB⟩:=hrel
  by_cases hp:0<j
  ·obtain ⟨q,rfl⟩:∃ q,j=q+1:=⟨j - 1,by omega⟩
   have e1:(((q+1:Nat):Int) - 1)=(q:Int):=by omega
   simp only [e1]
   clear e1
   have hkj:k+(q+1)=s.size∧k≤m:=by
    rcases hz.out.1 with h | h
    ·exact h
    ·omega
   have hq:q<s.size:=by omega
   by_cases hd:sg≤q
   ·have hk:k<m:=by have:=HZ.out;omega
    have hch:s[q]=UInt8.ofNat (48+(td (n:Int) k).toNat):=by
     refine zg6 HS.out hq ?_
     rw [List.getElem?_append_right (by rw [HG.out];exact hd),HG.out,show q - sg=m - 1 - k by have:=HZ.out;omega]
     exact HC.out k hk
    have hval:=zO8 (n:Int) k
    rw [← hch] at hval
    have d0:=zc9 (n:Int) k
    have d1:=zr9 (n:Int) k
    have hne:((s[q].toNat:Int) !=45)=true:=by simp;omega
    have b0:(48:Int)≤(s[q].toNat:Int):=by omega
    have b1:(s[q].toNat:Int)≤57:=by omega
    have HV:=Lib.hid hval
    clear hval hch
    have HK:=Lib.hid hkj
    clear hkj
    go_wp2_with (at_builtin;refine zb9 rfl (.tmp 16) (.tmp 22) _ (by rfl) 3 w.heap.size _ _ _ (by rfl) (hz.out.2.gr (Gr.alloc _ _)) _ _ _ (by rfl) (heap_alloc_new _ _) rfl w (hB.alloc hB.size _) (by rw [zb3];omega) 8 (by decide) Tryz.underlying175 ze4 rfl (by have:=hB.size;simp;omega) ?_)
    intro v' w' hown hB' _ _
    go_wp2
    go_roundw
    case rel=>
     refine ⟨q,k+1,_,rfl,rfl,⟨.inl ⟨by have:=HK.out;omega,by omega⟩,?_⟩,hB'⟩
     rw [zd2]
     rw [show ((s[q].toNat:Int) - 48)=td (n:Int) k by have:=HV.out;omega] at hown
     exact hown
    case measure=>simp [intOf]
   ·-- the sign
    have aa:q=0:=by omega
    subst aa
    have hkm:k=m:=by have:=HZ.out;omega
    have hch:s[0]=45:=by
     refine zg6 HS.out hq ?_
     cases neg
     ·have:=HG.out;simp at this;omega
     ·rfl
    have hne:((s[0].toNat:Int) !=45)=false:=by rw [hch];rfl
    have HH:=Lib.hid hkm
    clear hch hkm hkj
    go_wp2
    go_roundw
    case rel=>exact ⟨0,k,_,rfl,rfl,⟨.inr ⟨rfl,HH.out⟩,hz.out.2⟩,hB⟩
    case measure=>simp [intOf]
  ·obtain rfl:j=0:=by omega
   have hkm:k=m:=by
    rcases hz.out.1 with h | h
    ·have:=HZ.out;omega
    ·exact h.2
   subst hkm
   obtain ⟨ao,cap,rfl,hcap,_,hrow⟩:=hz.out.2.drow
   go_wp2_with fail
   refine (zM9 ao k cap n _ (by omega) hcap (by omega) HT.out hrow).mono ?_
   rintro e w1 ⟨⟨k',rfl,hk',hnx⟩,rfl⟩
   go_wp2
   go_ret
   exact ⟨⟨_,rfl,ao,k',cap,rfl,by omega,hnx,hrow.shorter hk'⟩,hB⟩
theorem zW1 {a b c:Int} {i:Nat} (h:tn (a+b) i=tn a i+tn b i+c) (h0:0≤c) (h1:c≤1) (ha:tn a i=0):
  td (a+b) i=(c+td b i) % 10∧tn (a+b) (i+1)=tn a (i+1)+tn b (i+1)+(c+td b i)/10∧0≤(c+td b i)/10∧(c+td b i)/10≤1:=by
 unfold td;simp only [zd1];omega
theorem zW2 {a b c:Int} {i:Nat} (h:tn (a+b) i=tn a i+tn b i+c) (h0:0≤c) (h1:c≤1) (ha:tn a i=0) (hb:tn b i=0):
  td (a+b) i=c % 10∧tn (a+b) (i+1)=tn a (i+1)+tn b (i+1)+c/10∧c/10=0:=by
 unfold td;simp only [zd1];omega
set_option maxRecDepth 10000 in
set_option maxHeartbeats 4000000 in
theorem r1_plus (ao bo:Option Addr) (la lb ca cb:Nat) (a b:Int) (w:World) (hla:la≤900000) (hlb:lb≤900000)
   (na:NX a la) (ha:DRow w ao la (td a)) (nb:NX b lb) (hb:DRow w bo lb (td b)):
    Calls Tryz.prog 152 #[.slice ao la ca,.slice bo lb cb] w fun e w'=>(∃ v,e=.returned v∧TenZ w' v (a+b))∧Below w.heap.size w w':=by
  obtain ⟨M,hMa,hMb,hMM⟩:∃ M:Nat,la≤M∧lb≤M∧M≤900000:=⟨max la lb,by omega,by omega,by omega⟩
  go_enter Tryz.func152,Tryz.ntmps152
  go_wp2
  go_loopw [5,6,7] (fun o c i wr=>∃ (k:Nat) (cr:Int) (v:Value),o=v∧c=.int .i64 cr∧i=.int .i64 k∧0≤cr∧cr≤1∧k≤M+1∧
      Hid ((k=M+1→cr=0)∧tn (a+b) k=tn a k+tn b k+cr∧OwnS wr 3 w.heap.size v (zi8 .i64 k (td (a+b))))∧Below w.heap.size w wr) (fun _ _ i _=>M+1 - (intOf i).toNat)
  case atStart=>exact ⟨0,0,_,rfl,rfl,rfl,by omega,by omega,by omega,⟨by omega,by simp [zg5],OwnS.nil _ _ _⟩,Below.refl _ _⟩
  case round=>
    obtain ⟨k,cr,v,rfl,rfl,rfl,aj,ak,hkM,hz,hB⟩:=hrel
    have a0:=zc9 a k
    have a1:=zr9 a k
    have b0:=zc9 b k
    have b1:=zr9 b k
    by_cases hl1:k<la
    · by_cases hl2:k<lb
      · obtain ⟨b1,ap,rfl,aa⟩:=(ha.below hB).at_ (by omega)
        have ae:=aa k hl1
        clear aa
        obtain ⟨b2,aq,rfl,ab⟩:=(hb.below hB).at_ (by omega)
        have ad:=ab k hl2
        clear ab
        go_wp2_with (at_builtin;refine zb9 rfl (.tmp 46) (.tmp 49) _ (by rfl) 3 w.heap.size _ _ _ (by rfl) (hz.out.2.2.gr (Gr.alloc _ _)) _ _ _ (by rfl) (heap_alloc_new _ _) rfl w (hB.alloc hB.size _) (by rw [zb3];omega) 8 (by decide) Tryz.underlying175 ze4 rfl (by have:=hB.size;simp;omega) ?_)
        intro v1 w1 hown ac _ _
        have hs:=yi7 hz.out.2.1 aj ak
        have HS:=Lib.hid hs
        clear hs
        go_wp2
        go_roundw
        case rel=>
          have hs:=HS.out
          refine ⟨k+1,_,_,rfl,rfl,by go_num,hs.2.2.1,hs.2.2.2,by omega,⟨fun h=>by omega,hs.2.1,?_⟩,ac⟩
          rw [zd2,hs.1];exact hown
        case measure=>simp [intOf];omega
      · have e0:tn b k=0:=zy7 nb.top (by omega)
        have HE:=Lib.hid e0
        clear e0
        obtain ⟨b1,ap,rfl,aa⟩:=(ha.below hB).at_ (by omega)
        have ae:=aa k hl1
        clear aa
        go_wp2_with (at_builtin;refine zb9 rfl (.tmp 46) (.tmp 49) _ (by rfl) 3 w.heap.size _ _ _ (by rfl) (hz.out.2.2.gr (Gr.alloc _ _)) _ _ _ (by rfl) (heap_alloc_new _ _) rfl w (hB.alloc hB.size _) (by rw [zb3];omega) 8 (by decide) Tryz.underlying175 ze4 rfl (by have:=hB.size;simp;omega) ?_)
        intro v1 w1 hown ac _ _
        have hs:=zZ0 hz.out.2.1 aj ak HE.out
        have HS:=Lib.hid hs
        clear hs
        go_wp2
        go_roundw
        case rel=>
          have hs:=HS.out
          refine ⟨k+1,_,_,rfl,rfl,by go_num,hs.2.2.1,hs.2.2.2,by omega,⟨fun h=>by omega,hs.2.1,?_⟩,ac⟩
          rw [zd2,hs.1];exact hown
        case measure=>simp [intOf];omega
    · have e0:tn a k=0:=zy7 na.top (by omega)
      have HE:=Lib.hid e0
      clear e0
      by_cases hl2:k<lb
      · obtain ⟨b2,aq,rfl,ab⟩:=(hb.below hB).at_ (by omega)
        have ad:=ab k hl2
        clear ab
        go_wp2_with (at_builtin;refine zb9 rfl (.tmp 46) (.tmp 49) _ (by rfl) 3 w.heap.size _ _ _ (by rfl) (hz.out.2.2.gr (Gr.alloc _ _)) _ _ _ (by rfl) (heap_alloc_new _ _) rfl w (hB.alloc hB.size _) (by rw [zb3];omega) 8 (by decide) Tryz.underlying175 ze4 rfl (by have:=hB.size;simp;omega) ?_)
        intro v1 w1 hown ac _ _
        have hs:=zW1 hz.out.2.1 aj ak HE.out
        have HS:=Lib.hid hs
        clear hs
        go_wp2
        go_roundw
        case rel=>
          have hs:=HS.out
          refine ⟨k+1,_,_,rfl,rfl,by go_num,hs.2.2.1,hs.2.2.2,by omega,⟨fun h=>by omega,hs.2.1,?_⟩,ac⟩
          rw [zd2,hs.1];exact hown
        case measure=>simp [intOf];omega
      · have e1:tn b k=0:=zy7 nb.top (by omega)
        have HF:=Lib.hid e1
        clear e1
        by_cases hcr:0<cr
        · have au:k≤M:=by
            rcases Nat.lt_or_ge M k with h | h
            · have:=hz.out.1 (by omega);omega
            · exact h
          go_wp2_with (at_builtin;refine zb9 rfl (.tmp 46) (.tmp 49) _ (by rfl) 3 w.heap.size _ _ _ (by rfl) (hz.out.2.2.gr (Gr.alloc _ _)) _ _ _ (by rfl) (heap_alloc_new _ _) rfl w (hB.alloc hB.size _) (by rw [zb3];omega) 8 (by decide) Tryz.underlying175 ze4 rfl (by have:=hB.size;simp;omega) ?_)
          intro v1 w1 hown ac _ _
          have hs:=zW2 hz.out.2.1 aj ak HE.out HF.out
          have HS:=Lib.hid hs
          clear hs
          go_wp2
          go_roundw
          case rel=>
            have hs:=HS.out
            refine ⟨k+1,_,_,rfl,rfl,by go_num,by omega,by omega,by omega,⟨fun _=>hs.2.2,hs.2.1,?_⟩,ac⟩
            rw [zd2,hs.1];exact hown
          case measure=>simp [intOf];omega
        · have af:cr=0:=by omega
          obtain ⟨ar,al,rfl,ai,_,ah⟩:=hz.out.2.2.drow
          have HR:=Lib.hid af
          clear af
          go_wp2
          go_ret
          refine ⟨⟨_,rfl,ar,k,al,rfl,ai,by omega,?_,ah⟩,hB⟩
          have h1:=hz.out.2.1
          have h2:=HE.out
          have h3:=HF.out
          have h4:=HR.out
          omega
set_option maxRecDepth 10000 in
set_option maxHeartbeats 4000000 in
theorem yd0 (ao bo:Option Addr) (la lb ca cb:Nat) (a b:Int) (w:World) (hla:la≤900000) (hba:b≤a)
   (na:NX a la) (ha:DRow w ao la (td a)) (nb:NX b lb) (hb:DRow w bo lb (td b)):
    Calls Tryz.prog 148 #[.slice ao la ca,.slice bo lb cb] w fun e w'=>(∃ v,e=.returned v∧TenF w' w.heap.size v (a - b))∧Below w.heap.size w w':=by
  have hlb:lb≤la:=nb.len_le na hba
  go_enter Tryz.func148,Tryz.ntmps148
  go_wp2
  go_loopw [5,6,7] (fun o c i wr=>∃ (k:Nat) (br:Int) (v:Value),o=v∧c=.int .i64 br∧i=.int .i64 k∧0≤br∧br≤1∧k≤la∧
      Hid (tn (a - b) k=tn a k - tn b k - br∧OwnS wr 3 w.heap.size v (zi8 .i64 k (td (a - b))))∧Below w.heap.size w wr) (fun _ _ i _=>la - (intOf i).toNat)
  case atStart=>exact ⟨0,0,_,rfl,rfl,rfl,by omega,by omega,by omega,⟨by simp [zg5],OwnS.nil _ _ _⟩,Below.refl _ _⟩
  case round=>
    obtain ⟨k,br,v,rfl,rfl,rfl,ah,ai,hk,hz,hB⟩:=hrel
    have a0:=zc9 a k
    have a1:=zr9 a k
    have b0:=zc9 b k
    have b1:=zr9 b k
    by_cases hl1:k<la
    · obtain ⟨b1,aq,rfl,ac⟩:=(ha.below hB).at_ (by omega)
      have ak:=ac k hl1
      clear ac
      by_cases hl2:k<lb
      · obtain ⟨b2,ar,rfl,ad⟩:=(hb.below hB).at_ (by omega)
        have aj:=ad k hl2
        clear ad
        by_cases hn:td a k - br - td b k<0
        · have al:¬ 0≤td a k - br - td b k:=by omega
          go_wp2_with (at_builtin;refine zb9 rfl (.tmp 35) (.tmp 37) _ (by rfl) 3 w.heap.size _ _ _ (by rfl) (hz.out.2.gr (Gr.alloc _ _)) _ _ _ (by rfl) (heap_alloc_new _ _) rfl w (hB.alloc hB.size _) (by rw [zb3];omega) 8 (by decide) Tryz.underlying175 ze4 rfl (by have:=hB.size;simp;omega) ?_)
          intro v1 w1 hown ab _ _
          have hs:=zH3 hz.out.1 ah ai
          rw [if_pos (by omega)] at hs
          have hd:td (a - b) k=td a k - br - td b k+10:=by rw [hs.1];omega
          have HS:=Lib.hid hs
          have HD:=Lib.hid hd
          clear hs hd
          go_wp2
          go_roundw
          case rel=>
            refine ⟨k+1,_,_,rfl,rfl,by go_num,by omega,by omega,by omega,⟨HS.out.2,?_⟩,ab⟩
            rw [zd2,HD.out];exact hown
          case measure=>simp [intOf];omega
        · have al:0≤td a k - br - td b k:=by omega
          go_wp2_with (at_builtin;refine zb9 rfl (.tmp 35) (.tmp 37) _ (by rfl) 3 w.heap.size _ _ _ (by rfl) (hz.out.2.gr (Gr.alloc _ _)) _ _ _ (by rfl) (heap_alloc_new _ _) rfl w (hB.alloc hB.size _) (by rw [zb3];omega) 8 (by decide) Tryz.underlying175 ze4 rfl (by have:=hB.size;simp;omega) ?_)
          intro v1 w1 hown ab _ _
          have hs:=zH3 hz.out.1 ah ai
          rw [if_neg (by omega)] at hs
          have hd:td (a - b) k=td a k - br - td b k:=by rw [hs.1];omega
          have HS:=Lib.hid hs
          have HD:=Lib.hid hd
          clear hs hd
          go_wp2
          go_roundw
          case rel=>
            refine ⟨k+1,_,_,rfl,rfl,by go_num,by omega,by omega,by omega,⟨HS.out.2,?_⟩,ab⟩
            rw [zd2,HD.out];exact hown
          case measure=>simp [intOf];omega
      · have e0:tn b k=0:=zy7 nb.top (by omega)
        have HE:=Lib.hid e0
        clear e0
        by_cases hn:td a k - br<0
        · have al:¬ 0≤td a k - br:=by omega
          go_wp2_with (at_builtin;refine zb9 rfl (.tmp 35) (.tmp 37) _ (by rfl) 3 w.heap.size _ _ _ (by rfl) (hz.out.2.gr (Gr.alloc _ _)) _ _ _ (by rfl) (heap_alloc_new _ _) rfl w (hB.alloc hB.size _) (by rw [zb3];omega) 8 (by decide) Tryz.underlying175 ze4 rfl (by have:=hB.size;simp;omega) ?_)
          intro v1 w1 hown ab _ _
          have hs:=zA2 hz.out.1 ah ai HE.out
          rw [if_pos (by omega)] at hs
          have hd:td (a - b) k=td a k - br+10:=by rw [hs.1];omega
          have HS:=Lib.hid hs
          have HD:=Lib.hid hd
          clear hs hd
          go_wp2
          go_roundw
          case rel=>
            refine ⟨k+1,_,_,rfl,rfl,by go_num,by omega,by omega,by omega,⟨HS.out.2,?_⟩,ab⟩
            rw [zd2,HD.out];exact hown
          case measure=>simp [intOf];omega
        · have al:0≤td a k - br:=by omega
          go_wp2_with (at_builtin;refine zb9 rfl (.tmp 35) (.tmp 37) _ (by rfl) 3 w.heap.size _ _ _ (by rfl) (hz.out.2.gr (Gr.alloc _ _)) _ _ _ (by rfl) (heap_alloc_new _ _) rfl w (hB.alloc hB.size _) (by rw [zb3];omega) 8 (by decide) Tryz.underlying175 ze4 rfl (by have:=hB.size;simp;omega) ?_)
          intro v1 w1 hown ab _ _
          have hs:=zA2 hz.out.1 ah ai HE.out
          rw [if_neg (by omega)] at hs
          have hd:td (a - b) k=td a k - br:=by rw [hs.1];omega
          have HS:=Lib.hid hs
          have HD:=Lib.hid hd
          clear hs hd
          go_wp2
          go_roundw
          case rel=>
            refine ⟨k+1,_,_,rfl,rfl,by go_num,by omega,by omega,by omega,⟨HS.out.2,?_⟩,ab⟩
            rw [zd2,HD.out];exact hown
          case measure=>simp [intOf];omega
    · obtain rfl:k=la:=by omega
      have htop:tn (a - b) k=0:=by
        have h1:=hz.out.1
        have h2:=na.top
        have h3:=zy7 nb.top hlb
        have h4:=zw3 (show 0≤a - b by omega) k
        omega
      have HT:=Lib.hid htop
      clear htop
      obtain ⟨ap,ae,rfl,af,_,aa,hfr⟩:=hz.out.2.drowF
      go_wp2_with fail
      refine (zM9 ap k ae (a - b) _ (by omega) af (by omega) HT.out aa).mono ?_
      rintro e w1 ⟨⟨k',rfl,hk',hnx⟩,rfl⟩
      go_wp2
      go_ret
      exact ⟨⟨_,rfl,ap,k',ae,rfl,by omega,hnx,aa.shorter hk',hfr⟩,hB⟩
def zx3 (l:List UInt8):List Value:=l.map fun c=>.int .u8 (c.toNat:Int)
theorem zj3 (l:List UInt8):(zx3 l).length=l.length:=by simp [zx3]
theorem zJ6 (l:List UInt8) (c:UInt8):zx3 (l++[c])=zx3 l++[.int .u8 (c.toNat:Int)]:=by simp [zx3]
theorem zW3:(Tryz.prog.info? 5).map (fun i=>(i.zero,i.size,i.bytes))=some (some (.int .u8 0),1,1):=by kernel_rfl
theorem OwnS.conv {w:World} {B:Nat} {v:Value} {l:List UInt8} (h:OwnS w 5 B v (zx3 l)) (hp:l≠[]):
  ∃ g cap,v=.slice (some ⟨g,0,none⟩) l.length cap∧(convert 194 9 (.slice (some ⟨g,0,none⟩) l.length cap)).run Tryz.prog w=.ok (.string ⟨l.toArray⟩) w:=by
 obtain ⟨g,cap,cur,e,hb,hg,h1,h2,hc⟩:=h.cells (by rw [zj3];exact List.length_pos_iff.2 hp)
 rw [zj3] at e h1 hc
 refine ⟨g,cap,e,run_convert_bytes_back w _ _ 5 ⟨g,0,none⟩ cap l (by kernel_rfl) (by kernel_rfl) (by kernel_rfl) (fun j hj=>?_)⟩
 have e0:(⟨g,0,none⟩:Addr).add j=⟨g,j,none⟩:=by
  unfold Addr.add
  by_cases h0:j=0<;>simp [h0]
 rw [e0,zb4 hg,hc j hj]
 simp [zx3,hj]
theorem zW4 (n:Nat):Lib.decDigits n≠[]:=fun e=>by have:=zU4 n;rw [e] at this;simp at this
def zh5 (neg:Bool) (n:Nat):List UInt8:=if n=0 then [48] else (if neg then [45] else [])++Lib.decDigits n
theorem yg8 (neg:Bool) (n:Nat):zh5 neg n=Lib.itoa (if neg then -(n:Int) else n):=by
 unfold zh5
 by_cases h:n=0
 ·subst h
  rw [if_pos rfl]
  cases neg<;>exact (zc5 (u:=0) (by omega)).symm
 ·rw [if_neg h]
  cases neg
  ·rw [if_neg (by decide),if_neg (by decide),zb7 (by omega),Int.natAbs_natCast];rfl
  ·rw [if_pos rfl,if_pos rfl,ze5 (by omega)]
   simp
set_option maxRecDepth 10000 in
set_option maxHeartbeats 4000000 in
theorem zN0 (neg:Bool) (ao:Option Addr) (len cap n:Nat) (w:World) (hl:len≤900001) (hcap:len≤cap) (h1:tn (n:Int) len=0) (hr:DRow w ao len (td (n:Int))):
  Calls Tryz.prog 128 #[.bool neg,.slice ao len cap] w fun e w'=>e=.returned (.string ⟨(zh5 neg n).toArray⟩)∧Below w.heap.size w w':=by
 have H1:=Lib.hid h1
 clear h1
 go_enter Tryz.func128,Tryz.ntmps128
 go_wp2_with fail
 refine (zM9 ao len cap n _ (by omega) hcap (by omega) H1.out hr).mono ?_
 rintro e w1 ⟨⟨k,rfl,hk,hnx⟩,rfl⟩
 by_cases hk0:k=0
 ·subst hk0
  have hn:n=0:=by have:=hnx.len_zero.1 rfl;omega
  have HN:=Lib.hid hn
  clear hn
  go_wp2
  go_ret
  refine ⟨?_,Below.refl _ _⟩
  rw [zh5,if_pos HN.out]
  rfl
 ·have hn:0<n:=by
   rcases Nat.eq_zero_or_pos n with e | e
   ·exact absurd (hnx.len_zero.2 (by omega)) hk0
   ·exact e
  have ak:((k:Int)==0)=false:=by simp;omega
  have hrow:=hr.shorter hk
  cases neg
  ·go_wp2
   go_loopw [5,6] (fun o i wr=>∃ (j:Nat) (v:Value),o=v∧i=.int .i64 ((j:Int) - 1)∧j≤k∧Hid (OwnS wr 5 w.heap.size v (zx3 (([]:List UInt8)++(Lib.decDigits n).take (k - j))))∧Below w.heap.size w wr) (fun _ i _=>(intOf i+1).toNat)
   case atStart=>exact ⟨k,_,rfl,rfl,Nat.le_refl _,(show OwnS _ _ _ _ (zx3 ([]++(Lib.decDigits n).take (k - k))) by rw [Nat.sub_self];exact OwnS.nil _ _ _),Below.refl _ _⟩
   case round=>
    obtain ⟨j,v,rfl,rfl,hj,hz,hB⟩:=hrel
    by_cases hp:0<j
    ·obtain ⟨q,rfl⟩:∃ q,j=q+1:=⟨j - 1,by omega⟩
     have e1:(((q+1:Nat):Int) - 1)=(q:Int):=by omega
     simp only [e1]
     clear e1
     obtain ⟨b1,ai,rfl,aa⟩:=(hrow.below hB).at_ (by omega)
     have ac:=aa q (by omega)
     clear aa
     have d0:=zc9 (n:Int) q
     have d1:=zr9 (n:Int) q
     have hlen:(zx3 (([]:List UInt8)++(Lib.decDigits n).take (k - (q+1)))).length≤1000000:=by
      rw [zj3,List.length_append]
      have h1:=List.length_take_le (k - (q+1)) (Lib.decDigits n)
      have h2:(([]:List UInt8):List UInt8).length≤1:=by decide
      omega
     go_wp2_with (at_builtin;refine zb9 rfl (.tmp 23) (.tmp 30) _ (by rfl) 5 w.heap.size _ _ _ (by rfl) (hz.out.gr (Gr.alloc _ _)) _ _ _ (by rfl) (heap_alloc_new _ _) rfl w (hB.alloc hB.size _) hlen 1 (by decide) Tryz.underlying194 zW3 rfl (by have:=hB.size;simp;omega) ?_)
     intro v1 w1 hown af _ _
     go_wp2
     go_roundw
     case rel=>
      refine ⟨q,_,rfl,rfl,by omega,?_,af⟩
      have h1:=ye6 hnx hn (show k - (q+1)<k by omega)
      rw [show k - (q+1)+1=k - q by omega,show k - 1 - (k - (q+1))=q by omega] at h1
      rw [h1,← List.append_assoc,zJ6,zO8]
      exact hown
     case measure=>simp [intOf]
    ·obtain rfl:j=0:=by omega
     have ae:(Lib.decDigits n).take (k - 0)=Lib.decDigits n:=by
      rw [Nat.sub_zero,List.take_of_length_le (by rw [(zL1 k n hnx hn).1];exact Nat.le_refl _)]
     have ab:=hz.out
     rw [ae] at ab
     obtain ⟨l,hl⟩:∃ l,l=([]:List UInt8)++Lib.decDigits n:=⟨_,rfl⟩
     rw [← hl] at ab
     obtain ⟨g,ah,rfl,hconv⟩:=ab.conv (by rw [hl];simp [zW4])
     have HL:=Lib.hid hl
     clear hl ab ae
     go_wp2
     go_ret
     refine ⟨?_,hB⟩
     rw [zh5,if_neg (by omega)]
     have hl:=HL.out
     subst hl
     rfl
  ·go_wp2_with (at_builtin;refine zb9 rfl (.tmp 13) (.tmp 14) _ (by rfl) 5 w.heap.size _ _ _ (by rfl) (OwnS.nil _ _ _) _ _ _ (by rfl) (heap_alloc_new _ _) rfl w ((Below.refl _ _).alloc (Nat.le_refl _) _) (by simp) 1 (by decide) Tryz.underlying194 zW3 rfl (by simp) ?_)
   intro v0 w0 ad aj _ _
   go_wp2
   go_loopw [5,6] (fun o i wr=>∃ (j:Nat) (v:Value),o=v∧i=.int .i64 ((j:Int) - 1)∧j≤k∧Hid (OwnS wr 5 w.heap.size v (zx3 (([45]:List UInt8)++(Lib.decDigits n).take (k - j))))∧Below w.heap.size w wr) (fun _ i _=>(intOf i+1).toNat)
   case atStart=>exact ⟨k,_,rfl,rfl,Nat.le_refl _,(show OwnS _ _ _ _ (zx3 ([45]++(Lib.decDigits n).take (k - k))) by rw [Nat.sub_self];exact ad),aj⟩
   case round=>
    obtain ⟨j,v,rfl,rfl,hj,hz,hB⟩:=hrel
    by_cases hp:0<j
    ·obtain ⟨q,rfl⟩:∃ q,j=q+1:=⟨j - 1,by omega⟩
     have e1:(((q+1:Nat):Int) - 1)=(q:Int):=by omega
     simp only [e1]
     clear e1
     obtain ⟨b1,ai,rfl,aa⟩:=(hrow.below hB).at_ (by omega)
     have ac:=aa q (by omega)
     clear aa
     have d0:=zc9 (n:Int) q
     have d1:=zr9 (n:Int) q
     have hlen:(zx3 (([45]:List UInt8)++(Lib.decDigits n).take (k - (q+1)))).length≤1000000:=by
      rw [zj3,List.length_append]
      have h1:=List.length_take_le (k - (q+1)) (Lib.decDigits n)
      have h2:(([45]:List UInt8):List UInt8).length≤1:=by decide
      omega
     go_wp2_with (at_builtin;refine zb9 rfl (.tmp 23) (.tmp 30) _ (by rfl) 5 w.heap.size _ _ _ (by rfl) (hz.out.gr (Gr.alloc _ _)) _ _ _ (by rfl) (heap_alloc_new _ _) rfl w (hB.alloc hB.size _) hlen 1 (by decide) Tryz.underlying194 zW3 rfl (by have:=hB.size;simp;omega) ?_)
     intro v1 w1 hown af _ _
     go_wp2
     go_roundw
     case rel=>
      refine ⟨q,_,rfl,rfl,by omega,?_,af⟩
      have h1:=ye6 hnx hn (show k - (q+1)<k by omega)
      rw [show k - (q+1)+1=k - q by omega,show k - 1 - (k - (q+1))=q by omega] at h1
      rw [h1,← List.append_assoc,zJ6,zO8]
      exact hown
     case measure=>simp [intOf]
    ·obtain rfl:j=0:=by omega
     have ae:(Lib.decDigits n).take (k - 0)=Lib.decDigits n:=by
      rw [Nat.sub_zero,List.take_of_length_le (by rw [(zL1 k n hnx hn).1];exact Nat.le_refl _)]
     have ab:=hz.out
     rw [ae] at ab
     obtain ⟨l,hl⟩:∃ l,l=([45]:List UInt8)++Lib.decDigits n:=⟨_,rfl⟩
     rw [← hl] at ab
     obtain ⟨g,ah,rfl,hconv⟩:=ab.conv (by rw [hl];simp)
     have HL:=Lib.hid hl
     clear hl ab ae
     go_wp2
     go_ret
     refine ⟨?_,hB⟩
     rw [zh5,if_neg (by omega)]
     have hl:=HL.out
     subst hl
     rfl
theorem zx4 {k:Nat} {z:Int} (h:Sz k z):(Lib.decDigits z.natAbs).length≤k+1:=zg8 k _ h
theorem NX.len_bits {n len k:Nat} (h:NX (n:Int) len) (hn:n<2 ^ k):len≤k+1:=by
 rcases Nat.eq_zero_or_pos n with e | hp
 ·have:=h.len_zero.2 (by omega);omega
 ·have h1:=(zL1 len n h hp).1
  have h2:=zg8 k n hn
  omega
theorem yq2 {z:Int}:(Lib.itoa z)[0]?=some 45↔z<0:=by
 constructor
 ·intro h
  refine Int.lt_of_not_ge fun hz=>?_
  rw [zb7 hz] at h
  have:=zp6 _ 45 (List.mem_of_getElem? h)
  simp at this
 ·intro h;rw [ze5 h];rfl
theorem zk4:Lib.itoa 0=[48]:=zc5 (u:=0) (by omega)
theorem zo1 {z:Int} (h:z≠0):Lib.itoa z≠[48]:=fun e=>h (ye8 (by rw [e,zk4]))
theorem yd1 (z:Int):0<(Lib.itoa z).length:=by
 by_cases h:z<0
 ·rw [ze5 h];simp
 ·rw [zb7 (by omega)];exact zU4 _
theorem ze6 (z:Int) (w:World):
  Calls Tryz.prog 124 #[.string ⟨(Lib.itoa z).toArray⟩] w fun e w'=>e=.returned (.int .i64 (sgn z))∧Gr w w':=by
 by_cases h0:z=0
 ·subst h0
  rw [zk4]
  refine (yp8 w).mono ?_
  rintro e w1 ⟨he,rfl⟩
  exact ⟨he,Gr.refl _⟩
 ·have hb:((⟨(Lib.itoa z).toArray⟩:ByteArray).toList==[48])=false:=by
   rw [beq_eq_false_iff_ne,ByteArray.toList_eq]
   exact zo1 h0
  have hp:0<(⟨(Lib.itoa z).toArray⟩:ByteArray).size:=by
   show 0<(Lib.itoa z).toArray.size
   simpa using yd1 z
  obtain ⟨c,hc⟩:∃ c,(Lib.itoa z)[0]?=some c:=⟨_,List.getElem?_eq_getElem (yd1 z)⟩
  have aa:(⟨(Lib.itoa z).toArray⟩:ByteArray)[0]=c:=zg6 (by simp) hp hc
  by_cases hz:z<0
  ·have h1:=yq2.2 hz
   rw [hc] at h1
   obtain rfl:=Option.some.inj h1
   refine (yp9 _ w hb hp (by rw [aa];rfl)).mono ?_
   rintro e w1 ⟨he,rfl⟩
   exact ⟨by rw [he,zf4 hz],Gr.refl _⟩
  ·have h1:c≠45:=fun e=>hz (yq2.1 (by rw [hc,e]))
   refine (yq0 _ w hb hp (by
    rw [aa,beq_eq_false_iff_ne]
    intro e
    exact h1 (by rw [← UInt8.toNat_inj];have:(45:UInt8).toNat=45:=rfl;omega))).mono ?_
   rintro e w1 ⟨he,rfl⟩
   exact ⟨by rw [he,zd7 (by omega)],Gr.refl _⟩
theorem ze0 {k:Nat} (z:Int) (hz:Sz k z) (hk:k≤800000) (w:World):
  Calls Tryz.prog 127 #[.string ⟨(Lib.itoa z).toArray⟩] w fun e w'=>(∃ v,e=.returned v∧TenS w' v (z.natAbs:Int))∧Gr w w':=
 yq1 (decide (z<0)) z.natAbs _ w (by
  by_cases h:z<0
  ·simp [h,ze5 h]
  ·simp [h,zb7 (show 0≤z by omega)]) (by have:=zx4 hz;omega)
theorem TenS.len {w:World} {v:Value} {n k:Nat} (h:TenS w v (n:Int)) (hn:n<2 ^ k):∃ ao len cap,v=.slice ao len cap∧len≤cap∧NX (n:Int) len∧DRow w ao len (td (n:Int))∧len≤k+1:=by
 obtain ⟨ao,len,cap,h1,h2,h3,h4⟩:=h
 exact ⟨ao,len,cap,h1,h2,h3,h4,h3.len_bits hn⟩
theorem zJ7 {k m a b:Nat} {x y:Value} {w:World} (ha:TenS w x (a:Int)) (hb:TenS w y (b:Int)) (h1:a<2 ^ k) (h2:b<2 ^ m) (hk:k+m≤800000):
  Calls Tryz.prog 147 #[x,y] w fun e w'=>e=.returned (.int .i64 (sgn ((a:Int) - (b:Int))))∧Gr w w':=by
 obtain ⟨ao,la,ca,rfl,c1,n1,r1,l1⟩:=ha.len h1
 obtain ⟨bo,lb,cb,rfl,c2,n2,r2,l2⟩:=hb.len h2
 exact r1_order ao bo la lb ca cb a b w (by omega) (by omega) n1 r1 n2 r2
theorem zJ8 {k a b:Nat} {x y:Value} {w:World} (ha:TenS w x (a:Int)) (hb:TenS w y (b:Int)) (h1:a<2 ^ k) (hba:b≤a) (hk:k≤800000):
  Calls Tryz.prog 148 #[x,y] w fun e w'=>(∃ v,e=.returned v∧TenS w' v ((a - b:Nat):Int))∧Gr w w':=by
 obtain ⟨ao,la,ca,rfl,c1,n1,r1,l1⟩:=ha.len h1
 obtain ⟨bo,lb,cb,rfl,c2,n2,r2,l2⟩:=hb.len (Nat.lt_of_le_of_lt hba h1)
 rw [Int.ofNat_sub hba]
 refine (yd0 ao bo la lb ca cb a b w (by omega) (by omega) n1 r1 n2 r2).mono ?_
 rintro e w1 ⟨⟨v,he,hv⟩,g⟩
 exact ⟨⟨v,he,hv.s⟩,g⟩
theorem yg9 {k a b:Nat} {x y:Value} {w:World} (ha:TenS w x (a:Int)) (hb:TenS w y (b:Int)) (h1:a<2 ^ k) (hba:b≤a) (hk:k≤800000):
  Calls Tryz.prog 148 #[x,y] w fun e w'=>(∃ v,e=.returned v∧TenF w' w.heap.size v ((a - b:Nat):Int))∧Gr w w':=by
 obtain ⟨ao,la,ca,rfl,c1,n1,r1,l1⟩:=ha.len h1
 obtain ⟨bo,lb,cb,rfl,c2,n2,r2,l2⟩:=hb.len (Nat.lt_of_le_of_lt hba h1)
 rw [Int.ofNat_sub hba]
 exact yd0 ao bo la lb ca cb a b w (by omega) (by omega) n1 r1 n2 r2
theorem yq3 {k m a b:Nat} {x y:Value} {w:World} (ha:TenS w x (a:Int)) (hb:TenS w y (b:Int)) (h1:a<2 ^ k) (h2:b<2 ^ m) (hk:k+m≤800000):
  Calls Tryz.prog 152 #[x,y] w fun e w'=>(∃ v,e=.returned v∧TenZ w' v ((a+b:Nat):Int))∧Gr w w':=by
 obtain ⟨ao,la,ca,rfl,c1,n1,r1,l1⟩:=ha.len h1
 obtain ⟨bo,lb,cb,rfl,c2,n2,r2,l2⟩:=hb.len h2
 rw [Int.natCast_add]
 exact r1_plus ao bo la lb ca cb a b w (by omega) (by omega) n1 r1 n2 r2
theorem zE8 (neg:Bool) {n:Nat} {v:Value} {w:World} (h:TenZ w v (n:Int)):
  Calls Tryz.prog 128 #[.bool neg,v] w fun e w'=>e=.returned (.string ⟨(zh5 neg n).toArray⟩)∧Gr w w':=by
 obtain ⟨ao,len,cap,rfl,h1,h2,h3,h4⟩:=h
 exact zN0 neg ao len cap n w h2 h1 h3 h4
theorem zE9 {k:Nat} (neg:Bool) {n:Nat} {v:Value} {w:World} (h:TenS w v (n:Int)) (hn:n<2 ^ k) (hk:k≤800000):
  Calls Tryz.prog 128 #[.bool neg,v] w fun e w'=>e=.returned (.string ⟨(zh5 neg n).toArray⟩)∧Gr w w':=by
 obtain ⟨ao,len,cap,rfl,h1,h2,h3,h4⟩:=h.len hn
 exact zN0 neg ao len cap n w (by omega) h1 h2.top h3
theorem ze8 {n:Nat} {z:Int} {neg:Bool} (h:neg=true∧z=-(n:Int)∨neg=false∧z=n):zh5 neg n=Lib.itoa z:=by
 rw [yg8]
 rcases h with ⟨rfl,rfl⟩ | ⟨rfl,rfl⟩
 ·rfl
 ·rfl
theorem yd2 {P:Program} {a:Act} {o:Oper} {w:World} (t t2:TypeId) (x y:Operand) (A B:List UInt8) (hop:o.op=.binOp .eql t x y t2) (hx:a.eval x=.string ⟨A.toArray⟩) (hy:a.eval y=.string ⟨B.toArray⟩):RunV P a o w (.bool (A==B)):=by
 unfold RunV execOp
 simp only [hop,hx,hy]
 simp [go_sem,eqGuard,ByteArray.toList_eq]
theorem rv_sne {P:Program} {a:Act} {o:Oper} {w:World} (t t2:TypeId) (x y:Operand) (A B:List UInt8) (hop:o.op=.binOp .neq t x y t2) (hx:a.eval x=.string ⟨A.toArray⟩) (hy:a.eval y=.string ⟨B.toArray⟩):RunV P a o w (.bool (A !=B)):=by
 unfold RunV execOp
 simp only [hop,hx,hy]
 simp [go_sem,eqGuard,ByteArray.toList_eq,bne]
theorem text_neg (z:Int):zh5 (decide (0<sgn z)) z.natAbs=Lib.itoa (-z):=by
 apply ze8
 unfold sgn
 by_cases h:z<0
 ·right;simp [h];omega
 ·by_cases h0:z=0
  ·right;simp [h0]
  ·left;simp [h,h0];omega
theorem zF0 {z:Int}:decide (sgn z<0)=decide (z<0):=by
 unfold sgn
 by_cases h:z<0
 ·simp [h]
 ·by_cases h0:z=0<;>simp [h,h0]
theorem sgn_ge {z:Int}:decide (0≤sgn z)=decide (0≤z):=by
 unfold sgn
 by_cases h:z<0
 ·simp [h]
 ·by_cases h0:z=0<;>simp [h,h0]<;>omega
theorem zN1 {z u:Int} {N:Nat} (h:(u<0→z=-(N:Int))∧(¬ u<0→z=N)):zh5 (decide (sgn u<0)) N=Lib.itoa z:=by
 rw [zF0]
 apply ze8
 by_cases hu:u<0
 ·exact .inl ⟨by simpa using hu,h.1 hu⟩
 ·exact .inr ⟨by simpa using hu,h.2 hu⟩
theorem zk5 (z:Int):z<0∧sgn z=-1∨z=0∧sgn z=0∨0<z∧sgn z=1:=by
 unfold sgn
 by_cases h:z<0
 ·left;simp [h]
 ·by_cases h0:z=0
  ·right;left;simp [h0]
  ·right;right;simp [h,h0];omega
theorem zR8 (a b:Int) (i:Nat):zH7 a i*b+td a i*b*10 ^ i=zH7 a (i+1)*b:=by rw [yw4];grind
theorem sgn_mul (x y:Int):decide (sgn x*sgn y<0)=decide (x<0∧0<y∨0<x∧y<0):=by
 rcases zk5 x with ⟨h1,e1⟩ | ⟨h1,e1⟩ | ⟨h1,e1⟩<;>rcases zk5 y with ⟨h2,e2⟩ | ⟨h2,e2⟩ | ⟨h2,e2⟩<;>rw [e1,e2]<;>rw [Bool.eq_iff_iff]<;>simp<;>omega
theorem yh0 (x y:Int):-1≤sgn x*sgn y∧sgn x*sgn y≤1:=by
 rcases zk5 x with ⟨h1,e1⟩ | ⟨h1,e1⟩ | ⟨h1,e1⟩<;>rcases zk5 y with ⟨h2,e2⟩ | ⟨h2,e2⟩ | ⟨h2,e2⟩<;>rw [e1,e2]<;>decide
theorem text_mul (x y:Int):zh5 (decide (sgn x*sgn y<0)) (x.natAbs*y.natAbs)=Lib.itoa (x*y):=by
 apply ze8
 rw [sgn_mul]
 rcases Int.natAbs_eq x with hx | hx<;>rcases Int.natAbs_eq y with hy | hy
 ·right
  refine ⟨by simp;omega,?_⟩
  rw [Int.natCast_mul]
  conv=>lhs;rw [hx,hy]
 ·by_cases h0:0<x∧y<0
  ·left
   refine ⟨by simp;omega,?_⟩
   rw [Int.natCast_mul]
   conv=>lhs;rw [hx,hy]
   rw [Int.mul_neg]
  ·right
   refine ⟨by simp;omega,?_⟩
   rcases (show x=0∨y=0 by omega) with h | h<;>subst h<;>simp
 ·by_cases h0:x<0∧0<y
  ·left
   refine ⟨by simp;omega,?_⟩
   rw [Int.natCast_mul]
   conv=>lhs;rw [hx,hy]
   rw [Int.neg_mul]
  ·right
   refine ⟨by simp;omega,?_⟩
   rcases (show x=0∨y=0 by omega) with h | h<;>subst h<;>simp
 ·right
  refine ⟨by simp;omega,?_⟩
  rw [Int.natCast_mul]
  conv=>lhs;rw [hx,hy]
  rw [Int.neg_mul_neg]
set_option maxRecDepth 100000 in
set_option maxHeartbeats 4000000 in
theorem zF1 {k m:Nat} (x y:Int) (hx:Sz k x) (hy:Sz m y) (hk:k+m≤700000) (w:World):
  Calls Tryz.prog 101 #[.string ⟨(Lib.itoa x).toArray⟩,.string ⟨(Lib.itoa y).toArray⟩] w fun e w'=>e=.returned (.string ⟨(Lib.itoa (x*y)).toArray⟩)∧Gr w w':=by
 have hfin:=text_mul x y
 have HFin:=Lib.hid hfin
 clear hfin
 go_enter Tryz.func101,Tryz.ntmps101
 go_wp2_with fail
 refine (ze0 x hx (by omega) _).mono ?_
 rintro e w1 ⟨⟨v1,rfl,au⟩,g1⟩
 obtain ⟨ao,la,ca,rfl,c1,n1,r1,l1⟩:=au.len hx
 go_wp2_with fail
 refine (ze0 y hy (by omega) _).mono ?_
 rintro e w2 ⟨⟨v2,rfl,ap⟩,g2⟩
 obtain ⟨bo,lb,cb,rfl,c2,n2,r2,l2⟩:=ap.len hy
 have r1:=r1.gr g2
 have ay:=g1.trans g2
 clear au ap
 obtain ⟨a,ha⟩:∃ a:Int,a=(x.natAbs:Int):=⟨_,rfl⟩
 obtain ⟨b,hb⟩:∃ b:Int,b=(y.natAbs:Int):=⟨_,rfl⟩
 rw [← ha] at n1 r1
 rw [← hb] at n2 r2
 have HA:=Lib.hid ha
 have HB:=Lib.hid hb
 clear ha hb
 go_wp2_with (at_make;refine zA3 _ rfl _ _ rfl _ _ (la+lb+1) rfl rfl (by omega) (by omega) (by omega) ?_)
 intro w3 hO aw hsz
 have aq:=hO
 clear hO hsz
 go_wp2
 go_loopw [8] (fun i wr=>∃ (k:Nat) (d:Nat→Int),k≤la∧i=.int .i64 k∧DOwn wr w2.heap.size (la+lb+1) d∧Below w2.heap.size w2 wr∧Hid (∀ j,j<la+lb+1→d j=td (zH7 a k*b) j)∧Hid (tn (zH7 a k*b) (k+lb)=0)) (fun i _=>la - (intOf i).toNat)
 case atStart=>exact ⟨0,_,Nat.zero_le _,rfl,aq,aw,fun j _=>by rw [zT8,Int.zero_mul];unfold td;rw [zp5];rfl,by rw [Hid,zT8,Int.zero_mul,zp5]⟩
 case round=>
  obtain ⟨k,d,hk,rfl,hO,hB,hd,htop⟩:=hrel
  by_cases hlt:k<la
  ·have x0:=zc9 a k
   have x1:=zr9 a k
   go_wp2
   obtain ⟨wo,hwo⟩:∃ wo:World,wo=wr:=⟨_,rfl⟩
   subst hwo
   go_loopw [9,10] (fun c i wr=>∃ (j:Nat) (cr:Int) (e:Nat→Int),j≤lb+1∧i=.int .i64 j∧c=.int .i64 cr∧0≤cr∧cr<10∧DOwn wr w2.heap.size (la+lb+1) e∧Below w2.heap.size w2 wr∧
    Hid ((j=lb+1→cr=0)∧tn (zH7 a k*b+td a k*b*10 ^ k) (k+j)=tn (zH7 a k*b) (k+j)+td a k*tn b j+cr)∧
    Hid (∀ i,i<la+lb+1→e i=if i<k+j then td (zH7 a k*b+td a k*b*10 ^ k) i else td (zH7 a k*b) i)) (fun _ i _=>lb+1 - (intOf i).toNat)
   case atStart=>
    refine ⟨0,0,d,Nat.zero_le _,rfl,rfl,by omega,by omega,hO,hB,⟨by omega,?_⟩,fun i hi=>?_⟩
    ·rw [Nat.add_zero,zH4,zg5];omega
    ·rw [hd.out i hi,Nat.add_zero]
     split
     ·rw [yw3 _ _ (by assumption)]
     ·rfl
   case round=>
    obtain ⟨j,cr,e,hj,rfl,rfl,az,aA,ab,ad,hz,he⟩:=hrel
    have hs:=yw5 hz.out.2 az aA x0 x1
    have HS:=Lib.hid hs
    have ah:j=lb+1→cr=0:=hz.out.1
    by_cases hlt2:j<lb
    ·obtain ⟨b1,av,rfl,ac⟩:=(r1.below ad).at_ (by omega)
     have ai:=ac k hlt
     obtain ⟨b2,aB,rfl,ae⟩:=(r2.below ad).at_ (by omega)
     have al:=ae j hlt2
     have y0:=zc9 b j
     have y1:=zr9 b j
     have z0:=hs.2.2.2.2.1
     have z1:=hs.2.2.2.2.2
     clear ac ae hs
     have aa:=ab.cell (k+j) (by omega)
     have hfree:=ab.free (k+j)
     have e1:=he.out (k+j) (by omega)
     rw [if_neg (by omega)] at e1
     rw [e1] at aa
     have t0:=zc9 (zH7 a k*b) (k+j)
     have t1:=zr9 (zH7 a k*b) (k+j)
     clear e1 ah
     have i0:(0:Int)≤(k:Int):=by omega
     have i1:(k:Int)<(la:Int):=by omega
     have i2:(0:Int)≤(j:Int):=by omega
     have i3:(j:Int)<(lb:Int):=by omega
     go_wp2
     go_quiet (fail)
     go_wp2
     have hs:=HS.out
     have e2:td (zH7 a k*b) (k+j)+cr+td a k*td b j=cr+(td a k*td b j+td (zH7 a k*b) (k+j)):=by omega
     go_roundw
     case rel=>
      refine ⟨j+1,(cr+(td a k*td b j+td (zH7 a k*b) (k+j)))/10,_,by omega,by go_num,by rw [e2],hs.2.2.1,hs.2.2.2.1,(ab.gr ((Below.refl _ _).drewN _)).set (by omega) _,(ad.drewN _).setCell (Nat.le_refl _) _,⟨fun h=>by omega,hs.2.1⟩,fun i hi=>?_⟩
      by_cases e1:i=k+j
      ·subst e1;rw [zb6,if_pos (by omega),hs.1,e2]
      ·rw [za6 _ _ e1,he.out i hi]
       by_cases e2:i<k+j
       ·rw [if_pos e2,if_pos (by omega)]
       ·rw [if_neg e2,if_neg (by omega)]
     case measure=>simp [intOf];omega
    ·have ak:tn b j=0:=zy7 n2.top (by omega)
     have TB:=Lib.hid ak
     by_cases hcr:0<cr
     ·have hjl:j=lb:=by
       rcases Nat.lt_or_ge j (lb+1) with h | h
       ·omega
       ·have:=ah (by omega);omega
      have aj:td (zH7 a k*b) (k+j)=0:=zr0 htop.out (by omega)
      have ar:td b j=0:=zr0 n2.top (by omega)
      rw [ar,aj,Int.mul_zero,Int.add_zero,Int.add_zero] at hs
      have HS:=Lib.hid hs
      have aa:=ab.cell (k+j) (by omega)
      have hfree:=ab.free (k+j)
      have e1:=he.out (k+j) (by omega)
      rw [if_neg (by omega),aj] at e1
      rw [e1] at aa
      have HJ:=Lib.hid hjl
      have hkj:k+j<la+lb+1:=by omega
      have hjb:j+1≤lb+1:=by omega
      clear e1 ah ak aj ar hs hjl
      go_wp2
      have hs:=HS.out
      go_roundw
      case rel=>
       refine ⟨j+1,cr/10,_,hjb,by go_num,by simp,hs.2.2.1,hs.2.2.2.1,ab.set hkj _,ad.setCell (Nat.le_refl _) _,⟨fun h=>by omega,hs.2.1⟩,fun i hi=>?_⟩
       by_cases e1:i=k+j
       ·subst e1;rw [zb6,if_pos (by omega),hs.1]
       ·rw [za6 _ _ e1,he.out i hi]
        by_cases e2:i<k+j
        ·rw [if_pos e2,if_pos (by omega)]
        ·rw [if_neg e2,if_neg (by omega)]
      case measure=>simp [intOf];omega
     ·have af:cr=0:=by omega
      have HC:=Lib.hid af
      have hjl:lb≤j:=by omega
      clear ah ak hs af
      go_wp2
      have hR:tn (zH7 a (k+1)*b) (k+j)=0:=by
       have h1:=hz.out.2
       have h2:=zy7 htop.out (show k+lb≤k+j by omega)
       rw [TB.out,HC.out,h2,Int.mul_zero,zR8] at h1
       omega
      go_roundw
      case rel=>
       refine ⟨k+1,_,by omega,by go_num,ab,ad,fun i hi=>?_,zy7 hR (by omega)⟩
       rw [he.out i hi]
       by_cases e2:i<k+j
       ·rw [if_pos e2,zR8]
       ·rw [if_neg e2,zr0 htop.out (by omega),zr0 hR (by omega)]
      case measure=>simp [intOf];omega
  ·obtain rfl:k=la:=by omega
   have hlow:=tlow_top n1.top
   have hO':=hO.congr hd.out
   have htop':=htop.out
   rw [hlow] at hO' htop'
   have hab:a*b=((x.natAbs*y.natAbs:Nat):Int):=by rw [HA.out,HB.out,Int.natCast_mul]
   rw [hab] at hO' htop'
   have ax:Gr w2 wr:=hB
   have hZ:TenZ wr (.slice (some ⟨w2.heap.size,0,none⟩) (k+lb+1) (k+lb+1)) ((x.natAbs*y.natAbs:Nat):Int):=⟨_,_,_,rfl,Nat.le_refl _,by omega,zy7 htop' (by omega),hO'.row⟩
   clear hab hlow htop' hO' hd htop hO aq
   obtain ⟨aC,aD⟩:=yh0 x y
   go_wp2_with fail
   refine (ze6 x _).mono ?_
   rintro e w4 ⟨rfl,g4⟩
   go_wp2_with fail
   refine (ze6 y _).mono ?_
   rintro e w5 ⟨rfl,g5⟩
   go_wp2_with fail
   (with_reducible refine (zE8 (decide (sgn x*sgn y<0)) ((hZ.gr g4).gr g5)).mono ?_)
   rintro e w6 ⟨rfl,g6⟩
   go_wp2
   go_ret
   refine ⟨?_,(((ay.trans ax).trans g4).trans g5).trans g6⟩
   rw [HFin.out];rfl
set_option maxRecDepth 100000 in
set_option maxHeartbeats 1000000 in
theorem ya4 {k:Nat} (x:Int) (hx:Sz k x) (_hk:k≤700000) (w:World):
    Calls Tryz.prog 125 #[(.string ⟨(Lib.itoa (x):List UInt8).toArray⟩)] w fun e w'=>e=.returned (.string ⟨(Lib.itoa (-x)).toArray⟩)∧Gr w w':=by
 go_enter Tryz.func125,Tryz.ntmps125
 have hB:=Gr.refl w
 refine wp_seq_k (fun K1 k1=>?_)
 refine rg [0] ?_
 refine sv 2 (.string ⟨([]:List UInt8).toArray⟩) ?_
 refine za0 ?_
 refine k1 _ _ ?_
 try clear k1 K1
 refine wp_seq_k (fun K2 k2=>?_)
 refine rg [0,1,2,3,4,5,6] ?_
 refine sv 3 (.string ⟨(Lib.itoa (x):List UInt8).toArray⟩) ?_
 refine se ?_
 refine ec 4 (ze6 (x) _) ?_
 rintro e3 w3 ⟨rfl,g3⟩
 refine ⟨_,rfl,?_⟩
 replace hB:=hB.trans g3
 simp only [p3,p4]
 refine sv 5 (.bool (decide ((0:Int)<sgn (x)))) ?_
 refine sv 6 (.string ⟨(Lib.itoa (x):List UInt8).toArray⟩) ?_
 refine se ?_
 refine ec 7 (ze0 (x) hx (by omega) _) ?_
 rintro e4 w4 ⟨⟨v4,rfl,h4⟩,g4⟩
 refine ⟨_,rfl,?_⟩
 replace hB:=hB.trans g4
 simp only [p3,p4]
 refine se ?_
 refine ec 8 (zE9 (decide ((0:Int)<sgn (x))) h4 hx (by omega)) ?_
 rintro e5 w5 ⟨rfl,g5⟩
 refine ⟨_,rfl,?_⟩
 replace hB:=hB.trans g5
 simp only [p3,p4]
 refine sv 2 (.string ⟨(zh5 (decide ((0:Int)<sgn (x))) ((x).natAbs):List UInt8).toArray⟩) ?_
 refine za0 ?_
 refine k2 _ _ ?_
 try clear k2 K2
 refine wp_ret ?_
 refine bodyPost_ret (v:=(.string ⟨(zh5 (decide ((0:Int)<sgn (x))) ((x).natAbs):List UInt8).toArray⟩)) (za7 rfl rfl) rfl ⟨?_,hB⟩
 exact (by rw [text_neg])

set_option maxRecDepth 100000 in
set_option maxHeartbeats 4000000 in
theorem ym5 {k m:Nat} (x y:Int) (hx:Sz k x) (hy:Sz m y) (_hk:k+m≤700000) (w:World):
    Calls Tryz.prog 131 #[(.string ⟨(Lib.itoa (x):List UInt8).toArray⟩),(.string ⟨(Lib.itoa (y):List UInt8).toArray⟩)] w fun e w'=>e=.returned (.string ⟨(Lib.itoa (x+y)).toArray⟩)∧Gr w w':=by
 go_enter Tryz.func131,Tryz.ntmps131
 have hB:=Gr.refl w
 refine wp_seq_k (fun K1 k1=>?_)
 refine rg [0] ?_
 refine sv 4 (.string ⟨([]:List UInt8).toArray⟩) ?_
 refine za0 ?_
 refine k1 _ _ ?_
 try clear k1 K1
 refine wp_seq_k (fun K2 k2=>?_)
 refine rg [0,1,2,3,4,5] ?_
 refine sv 7 (.string ⟨(Lib.itoa (x):List UInt8).toArray⟩) ?_
 refine se ?_
 refine ec 8 (ze0 (x) hx (by omega) _) ?_
 rintro e3 w3 ⟨⟨v3,rfl,h3⟩,g3⟩
 refine ⟨_,rfl,?_⟩
 replace hB:=hB.trans g3
 simp only [p3,p4]
 refine sv 9 (.string ⟨(Lib.itoa (y):List UInt8).toArray⟩) ?_
 refine se ?_
 refine ec 10 (ze0 (y) hy (by omega) _) ?_
 rintro e4 w4 ⟨⟨v4,rfl,h4⟩,g4⟩
 refine ⟨_,rfl,?_⟩
 replace hB:=hB.trans g4
 simp only [p3,p4]
 refine sv 5 v3 ?_
 refine sv 6 v4 ?_
 refine za0 ?_
 refine k2 _ _ ?_
 try clear k2 K2
 refine wp_seq_k (fun K5 k5=>?_)
 refine wp_seq_k (fun K6 k6=>?_)
 refine rg [0,1,2,3,4,5,6] ?_
 refine sv 11 (.string ⟨(Lib.itoa (x):List UInt8).toArray⟩) ?_
 refine se ?_
 refine ec 12 (ze6 (x) _) ?_
 rintro e7 w7 ⟨rfl,g7⟩
 refine ⟨_,rfl,?_⟩
 replace hB:=hB.trans g7
 simp only [p3,p4]
 refine sv 13 (.bool (decide (sgn (x)<(0:Int)))) ?_
 refine sv 14 (.string ⟨(Lib.itoa (y):List UInt8).toArray⟩) ?_
 refine se ?_
 refine ec 15 (ze6 (y) _) ?_
 rintro e8 w8 ⟨rfl,g8⟩
 refine ⟨_,rfl,?_⟩
 replace hB:=hB.trans g8
 simp only [p3,p4]
 refine sv 16 (.bool (decide (sgn (y)<(0:Int)))) ?_
 refine sv 17 (.bool (((decide (sgn (x)<(0:Int)))==(decide (sgn (y)<(0:Int)))))) ?_
 refine za0 ?_
 refine k6 _ _ ?_
 try clear k6 K6
 refine wp_cond_split (t:=((decide (sgn (x)<(0:Int)))==(decide (sgn (y)<(0:Int))))) rfl (fun ac=>?_) (fun ac=>?_)
 ·have ar:(x<0↔y<0):=by rw [zF0,zF0] at ac;simpa using ac
  refine wp_seq_k (fun aA al=>?_)
  refine rg [0,1,2,3,4,5,6,7] ?_
  refine sv 18 (.string ⟨(Lib.itoa (x):List UInt8).toArray⟩) ?_
  refine se ?_
  refine ec 19 (ze6 (x) _) ?_
  rintro e11 aU ⟨rfl,ah⟩
  refine ⟨_,rfl,?_⟩
  replace hB:=hB.trans ah
  simp only [p3,p4]
  refine sv 20 (.bool (decide (sgn (x)<(0:Int)))) ?_
  refine sv 21 v3 ?_
  refine sv 22 v4 ?_
  refine se ?_
  replace h3:=h3.gr (g4.trans (g7.trans (g8.trans ah)))
  replace h4:=h4.gr (g7.trans (g8.trans ah))
  refine ec 23 (yq3 h3 h4 hx hy (by omega)) ?_
  rintro e12 aK ⟨⟨aI,rfl,av⟩,aB⟩
  refine ⟨_,rfl,?_⟩
  replace hB:=hB.trans aB
  simp only [p3,p4]
  refine se ?_
  refine ec 24 (zE8 (decide (sgn (x)<(0:Int))) av) ?_
  rintro e13 aS ⟨rfl,aG⟩
  refine ⟨_,rfl,?_⟩
  replace hB:=hB.trans aG
  simp only [p3,p4]
  refine sv 4 (.string ⟨(zh5 (decide (sgn (x)<(0:Int))) (((x).natAbs+(y).natAbs)):List UInt8).toArray⟩) ?_
  refine za0 ?_
  refine al _ _ ?_
  try clear al aA
  refine wp_ret ?_
  simp only [Exit.then]
  refine bodyPost_ret (v:=(.string ⟨(zh5 (decide (sgn (x)<(0:Int))) (((x).natAbs+(y).natAbs)):List UInt8).toArray⟩)) (za7 rfl rfl) rfl ⟨?_,hB⟩
  exact (by rw [zN1 (z:=x+y) (by omega)])
 ·have ar:¬ (x<0↔y<0):=by rw [zF0,zF0] at ac;simpa using ac
  refine wp_skip ?_
  refine k5 _ _ ?_
  try clear k5 K5
  refine wp_seq_k (fun au aj=>?_)
  refine wp_seq_k (fun az ap=>?_)
  refine rg [0,1,2,3] ?_
  refine sv 25 v3 ?_
  refine sv 26 v4 ?_
  refine se ?_
  replace h3:=h3.gr (g4.trans (g7.trans g8))
  replace h4:=h4.gr (g7.trans g8)
  refine ec 27 (zJ7 h3 h4 hx hy (by omega)) ?_
  rintro aO aL ⟨rfl,ab⟩
  refine ⟨_,rfl,?_⟩
  replace hB:=hB.trans ab
  simp only [p3,p4]
  refine sv 28 (.bool (decide ((0:Int)≤sgn (((x).natAbs:Int) - ((y).natAbs:Int))))) ?_
  refine za0 ?_
  refine ap _ _ ?_
  try clear ap az
  refine wp_cond_split (t:=decide ((0:Int)≤sgn (((x).natAbs:Int) - ((y).natAbs:Int)))) rfl (fun aa=>?_) (fun aa=>?_)
  ·have af:y.natAbs≤x.natAbs:=by rw [sgn_ge] at aa;have:=of_decide_eq_true aa;omega
   refine wp_seq_k (fun ax ai=>?_)
   refine rg [0,1,2,3,4,5,6,7] ?_
   refine sv 29 (.string ⟨(Lib.itoa (x):List UInt8).toArray⟩) ?_
   refine se ?_
   refine ec 30 (ze6 (x) _) ?_
   rintro aV aY ⟨rfl,ad⟩
   refine ⟨_,rfl,?_⟩
   replace hB:=hB.trans ad
   simp only [p3,p4]
   refine sv 31 (.bool (decide (sgn (x)<(0:Int)))) ?_
   refine sv 32 v3 ?_
   refine sv 33 v4 ?_
   refine se ?_
   replace h3:=h3.gr (ab.trans ad)
   replace h4:=h4.gr (ab.trans ad)
   refine ec 34 (zJ8 h3 h4 hx (by omega) (by omega)) ?_
   rintro aT aR ⟨⟨aQ,rfl,aF⟩,aC⟩
   refine ⟨_,rfl,?_⟩
   replace hB:=hB.trans aC
   simp only [p3,p4]
   refine se ?_
   refine ec 35 (zE9 (decide (sgn (x)<(0:Int))) aF (Nat.lt_of_le_of_lt (Nat.sub_le _ _) hx) (by omega)) ?_
   rintro e21 aX ⟨rfl,aq⟩
   refine ⟨_,rfl,?_⟩
   replace hB:=hB.trans aq
   simp only [p3,p4]
   refine sv 4 (.string ⟨(zh5 (decide (sgn (x)<(0:Int))) (((x).natAbs - (y).natAbs)):List UInt8).toArray⟩) ?_
   refine za0 ?_
   refine ai _ _ ?_
   try clear ai ax
   refine wp_ret ?_
   simp only [Exit.then]
   refine bodyPost_ret (v:=(.string ⟨(zh5 (decide (sgn (x)<(0:Int))) (((x).natAbs - (y).natAbs)):List UInt8).toArray⟩)) (za7 rfl rfl) rfl ⟨?_,hB⟩
   exact (by rw [zN1 (z:=x+y) (by omega)])
  ·have af:x.natAbs≤y.natAbs:=by rw [sgn_ge] at aa;have:=of_decide_eq_false aa;omega
   refine wp_skip ?_
   refine aj _ _ ?_
   try clear aj au
   refine wp_seq_k (fun aE ak=>?_)
   refine rg [0,1,2,3,4,5,6,7] ?_
   refine sv 36 (.string ⟨(Lib.itoa (y):List UInt8).toArray⟩) ?_
   refine se ?_
   refine ec 37 (ze6 (y) _) ?_
   rintro e23 aM ⟨rfl,ae⟩
   refine ⟨_,rfl,?_⟩
   replace hB:=hB.trans ae
   simp only [p3,p4]
   refine sv 38 (.bool (decide (sgn (y)<(0:Int)))) ?_
   refine sv 39 v4 ?_
   refine sv 40 v3 ?_
   refine se ?_
   replace h4:=h4.gr (ab.trans ae)
   replace h3:=h3.gr (ab.trans ae)
   refine ec 41 (zJ8 h4 h3 hy (by omega) (by omega)) ?_
   rintro aP aH ⟨⟨aN,rfl,aD⟩,aw⟩
   refine ⟨_,rfl,?_⟩
   replace hB:=hB.trans aw
   simp only [p3,p4]
   refine se ?_
   refine ec 42 (zE9 (decide (sgn (y)<(0:Int))) aD (Nat.lt_of_le_of_lt (Nat.sub_le _ _) hy) (by omega)) ?_
   rintro aJ aW ⟨rfl,ay⟩
   refine ⟨_,rfl,?_⟩
   replace hB:=hB.trans ay
   simp only [p3,p4]
   refine sv 4 (.string ⟨(zh5 (decide (sgn (y)<(0:Int))) (((y).natAbs - (x).natAbs)):List UInt8).toArray⟩) ?_
   refine za0 ?_
   refine ak _ _ ?_
   try clear ak aE
   refine wp_ret ?_
   refine bodyPost_ret (v:=(.string ⟨(zh5 (decide (sgn (y)<(0:Int))) (((y).natAbs - (x).natAbs)):List UInt8).toArray⟩)) (za7 rfl rfl) rfl ⟨?_,hB⟩
   exact (by rw [zN1 (z:=x+y) (by omega)])

set_option maxRecDepth 100000 in
set_option maxHeartbeats 1000000 in
theorem r1_sub {k m:Nat} (x y:Int) (hx:Sz k x) (hy:Sz m y) (_hk:k+m≤700000) (w:World):
    Calls Tryz.prog 149 #[(.string ⟨(Lib.itoa (x):List UInt8).toArray⟩),(.string ⟨(Lib.itoa (y):List UInt8).toArray⟩)] w fun e w'=>e=.returned (.string ⟨(Lib.itoa (x - y)).toArray⟩)∧Gr w w':=by
 go_enter Tryz.func149,Tryz.ntmps149
 have hB:=Gr.refl w
 refine wp_seq_k (fun K1 k1=>?_)
 refine rg [0] ?_
 refine sv 4 (.string ⟨([]:List UInt8).toArray⟩) ?_
 refine za0 ?_
 refine k1 _ _ ?_
 try clear k1 K1
 refine wp_seq_k (fun K2 k2=>?_)
 refine rg [0,1,2,3,4] ?_
 refine sv 5 (.string ⟨(Lib.itoa (x):List UInt8).toArray⟩) ?_
 refine sv 6 (.string ⟨(Lib.itoa (y):List UInt8).toArray⟩) ?_
 refine se ?_
 refine ec 7 (ya4 (y) hy (by omega) _) ?_
 rintro e3 w3 ⟨rfl,g3⟩
 refine ⟨_,rfl,?_⟩
 replace hB:=hB.trans g3
 simp only [p3,p4]
 refine se ?_
 refine ec 8 (ym5 (x) ((-y)) hx hy.neg (by omega) _) ?_
 rintro e4 w4 ⟨rfl,g4⟩
 refine ⟨_,rfl,?_⟩
 replace hB:=hB.trans g4
 simp only [p3,p4]
 refine sv 4 (.string ⟨(Lib.itoa ((x+(-y))):List UInt8).toArray⟩) ?_
 refine za0 ?_
 refine k2 _ _ ?_
 try clear k2 K2
 refine wp_ret ?_
 refine bodyPost_ret (v:=(.string ⟨(Lib.itoa ((x+(-y))):List UInt8).toArray⟩)) (za7 rfl rfl) rfl ⟨?_,hB⟩
 exact (by rw [Int.sub_eq_add_neg])

theorem zW5 {P:Program} {ops:Array Oper} {rest:List Oper} {o:Oper} {a:Act} {w:World} {Q:Exit→Act→World→Prop} (hgd:o.guard=none) (s x:Operand) (t:TypeId)
  (ho:o.op=.call {callee:=.builtin .append,args:=#[s,x],argTypes:=#[t,t]}) (B:Nat) (v:Value) (ys:List Value) (hs:a.eval s=v) (hown:OwnS w 3 B v ys)
  (ao:Option Addr) (len cap:Nat) (d:Nat→Int) (hx:a.eval x=.slice ao len cap) (hr:DRow w ao len d) (hn:ys.length+len≤1000000)
  (ht:P.underlying t=some (.slice 3)) (hi:(P.info? 3).map (fun i=>(i.zero,i.size,i.bytes))=some (some (.int .i64 0),1,8)) (hBw:B≤w.heap.size)
  (h:∀ v' w',OwnS w' 3 B v' (ys++zi8 .i64 len d)→Below B w w'→wpList P ops Q rest (a.put o.dst v') w'):wpList P ops Q (o::rest) a w:=by
 obtain ⟨i,hi,hz,hsize,hby⟩:=info_parts hi
 have hfin:∀ v' w',w'.ownsRow B 3 1 v' (ys.length+len) (ys++zi8 .i64 len d)→w.grownBy w' v.ownBlock→wpList P ops Q rest (a.put o.dst v') w':=by
  intro v' w' h2 hg
  have hnew:∀ k,v.ownBlock=some k→B≤k:=by
   intro k hk
   rcases hown.2 with ⟨rfl,_⟩ | ⟨g,cap,cur,rfl,hb,hgg,_⟩
   ·simp [Value.ownBlock] at hk
   ·simp [Value.ownBlock] at hk
    subst hk;exact hb
  refine h v' w' ?_ ⟨hg.os,hg.tape,hg.output,hg.size,fun k hk=>hg.block k (by omega) (fun e=>?_)⟩
  ·unfold OwnS;simpa [zb3] using h2
  ·have:=hnew k e.symm;omega
 have hone:∀ u ∈ zi8 .i64 len d,u.oneCell'=true:=fun u hu=>by
  simp only [zi8,List.mem_map] at hu
  obtain ⟨_,_,rfl⟩:=hu;rfl
 cases ao with
 | none=>
  have h0:len=0:=by
   rcases Nat.eq_zero_or_pos len with e | e
   ·exact e
   ·obtain ⟨b,off,e',_⟩:=hr.at_ e;cases e'
  subst h0
  refine wpList_plain hgd fun K hK=>?_
  have hrun:∀ ty,(Builtin.append_ #[t,t] ty #[v,.slice none 0 cap]).run P w=.ok v w:=fun ty=>by
   have aa:=hown.2
   rcases aa with ⟨rfl,h1⟩ | ⟨g,c1,c2,rfl,_,_,h1,_⟩
   ·simp [Builtin.append_,Builtin.firstCells,Builtin.lenOf,run_underlying ht,sizeOf,typeInfo,hi]
   ·simp [Builtin.append_,Builtin.firstCells,Builtin.lenOf,run_underlying ht,sizeOf,typeInfo,hi,storeCells,h1]
  unfold Oper.wp
  simp [execOp,ho,resolve,invoke,builtin,hs,hx,hrun,Result.andThen]
  exact hK _ _ (hfin v w (show w.ownsRow B 3 1 v (ys.length+0) (ys++[]) by rw [Nat.add_zero,List.append_nil];exact hown) (World.grownBy.refl w _))
 | some ad=>
  refine wpList_append_own w hgd s x t ho B 3 i _ 1 8 ht hi hz hsize hby rfl (by omega) v ys.length ys hs hown ad len cap (zi8 .i64 len d) hx (by simp [zb3]) (fun j u hj=>?_) hone (by unfold maxLen;omega) (by omega) hBw (fun v' w' h2 hg _=>hfin v' w' h2 hg)
  have hj':j<len:=by have:=(List.getElem?_eq_some_iff.1 hj).1;simpa [zb3] using this
  obtain ⟨b,off,e,hc⟩:=hr.at_ (by omega)
  obtain rfl:=Option.some.inj e
  rw [zT9 _ _ hj'] at hj
  obtain rfl:=Option.some.inj hj
  have e0:(⟨b,off,none⟩:Addr).add j=⟨b,off+j,none⟩:=by
   unfold Addr.add
   by_cases h0:j=0<;>simp [h0]
  rw [e0];exact hc j hj'
theorem own_lit (w:World) (T:TypeId) (u:Value):OwnS (w.alloc (.cells #[u] T)) T w.heap.size (.slice (some ⟨w.heap.size,0,none⟩) 1 1) [u]:=
 ⟨rfl,.inr ⟨w.heap.size,1,#[u],rfl,Nat.le_refl _,heap_alloc_new _ _,Nat.le_refl _,by unfold maxLen;omega,rfl,rfl⟩⟩
theorem yh1 (N d:Int) (h0:0≤d) (h1:d<10) (len:Nat):Value.int .i64 d::zi8 .i64 len (td N)=zi8 .i64 (len+1) (td (N*10+d)):=by
 have e:∀ i,td (N*10+d) (i+1)=td N i:=fun i=>by
  rw [← ye5];congr 1;omega
 unfold zi8
 rw [List.range_succ_eq_map,List.map_cons,List.map_map]
 show _=Value.int .i64 (td (N*10+d) 0)::_
 have e0:td (N*10+d) 0=d:=by unfold td;rw [zg5];omega
 rw [e0]
 congr 1
 exact List.map_congr_left fun i _=>by simp only [Function.comp_apply,e]
theorem tn_cons (N d:Int) (h0:0≤d) (h1:d<10) (len:Nat):tn (N*10+d) (len+1)=tn N len:=by
 rw [← zr1];congr 1;omega
theorem zc1 {v:Int} (z:Int) (h:sgn z=v) (w:World):
  Calls Tryz.prog 124 #[.string ⟨(Lib.itoa z).toArray⟩] w fun e w'=>e=.returned (.int .i64 v)∧Gr w w':=h ▸ ze6 z w
theorem yh2 {k:Nat} (z:Int) (hz:Sz k z) (hk:k≤600000) (w:World):
  Calls Tryz.prog 149 #[.string ⟨(Lib.itoa z).toArray⟩,.string ⟨#[49]⟩] w fun e w'=>e=.returned (.string ⟨(Lib.itoa (z - 1)).toArray⟩)∧Gr w w':=by
 have:=r1_sub (m:=1) z 1 hz (by unfold Sz;decide) (by omega) w
 rw [itoa_one] at this
 exact this
theorem zh6 {neg:Bool} {n:Nat} {v:Value} {w:World} {L:List UInt8} (h:TenZ w v (n:Int)) (hL:zh5 neg n=L):
  Calls Tryz.prog 128 #[.bool neg,v] w fun e w'=>e=.returned (.string ⟨L.toArray⟩)∧Gr w w':=hL ▸ zE8 neg h
theorem TenS.toZ {k:Nat} {w:World} {v:Value} {n:Nat} (h:TenS w v (n:Int)) (hn:n<2 ^ k) (hk:k≤800000):TenZ w v (n:Int):=by
 obtain ⟨ao,len,cap,h1,h2,h3,h4,h5⟩:=h.len hn
 exact ⟨ao,len,cap,h1,h2,by omega,h3.top,h4⟩
theorem zo2 {z:Int} (h:z≠0):((⟨(Lib.itoa z).toArray⟩:ByteArray).toList==[48])=false:=by
 rw [beq_eq_false_iff_ne,ByteArray.toList_eq]
 exact zo1 h
theorem zs3 {z:Int} (h:z≠0):(Lib.itoa z==[48])=false:=by
 rw [beq_eq_false_iff_ne]
 exact zo1 h
set_option maxRecDepth 100000 in
set_option maxHeartbeats 4000000 in
theorem zo3 {k m:Nat} (x y:Int) (hx:Sz k x) (hy:Sz m y) (af:0<y) (hk:k+m≤300000) (w:World):
  Calls Tryz.prog 126 #[.string ⟨(Lib.itoa x).toArray⟩,.string ⟨(Lib.itoa y).toArray⟩] w fun e w'=>e=.returned (.tuple #[.string ⟨(Lib.itoa (x/y)).toArray⟩,.string ⟨(Lib.itoa (x % y)).toArray⟩])∧Gr w w':=by
 go_enter Tryz.func126,Tryz.ntmps126
 go_wp2_with fail
 refine (ze0 x hx (by omega) _).mono ?_
 rintro e w1 ⟨⟨v1,rfl,aK⟩,g1⟩
 obtain ⟨ao,la,ca,rfl,c1,n1,r1,l1⟩:=aK.len hx
 go_wp2_with fail
 refine (ze0 y hy (by omega) _).mono ?_
 rintro e w2 ⟨⟨v2,rfl,aE⟩,g2⟩
 have r1:=r1.gr g2
 have ap:=g1.trans g2
 have aJ:=aE
 obtain ⟨bo,lb,cb,rfl,c2,n2,r2,l2⟩:=aE.len hy
 clear aK r2 n2 l2 c2
 obtain ⟨a,ha⟩:∃ a:Nat,a=x.natAbs:=⟨_,rfl⟩
 obtain ⟨b,hb⟩:∃ b:Nat,b=y.natAbs:=⟨_,rfl⟩
 have hax:a<2 ^ k:=by rw [ha];exact hx
 have hbx:b<2 ^ m:=by rw [hb];exact hy
 have a0:0<b:=by omega
 rw [← ha] at n1 r1
 rw [← hb] at aJ
 have HA:=Lib.hid ha
 have HB:=Lib.hid hb
 have HX:=Lib.hid (show a<2 ^ k∧b<2 ^ m from ⟨hax,hbx⟩)
 clear ha hb hax hbx
 go_wp2_with (at_make;refine zA3 _ rfl _ _ rfl _ _ la rfl rfl (by omega) (by omega) (by omega) ?_)
 intro w3 hO aX hsz
 have aN:=hO
 clear hO hsz
 go_wp2
 go_loopw [8,10] (fun r i wr=>∃ (j:Nat) (v:Value) (d:Nat→Int),r=v∧i=.int .i64 ((j:Int) - 1)∧j≤la∧Hid (TenS wr v (tn (a:Int) j % (b:Int))∧∀ i,i<la→d i=if j≤i then td ((a:Int)/(b:Int)) i else 0)∧DOwn wr w2.heap.size la d∧Below w2.heap.size w2 wr) (fun _ i _=>(intOf i+1).toNat)
 case atStart=>
  refine ⟨la,_,_,rfl,rfl,Nat.le_refl _,⟨?_,fun i hi=>by rw [if_neg (by omega)]⟩,aN,aX⟩
  rw [n1.top]
  exact ⟨none,0,0,rfl,Nat.le_refl _,NX.zero,DRow.nil _ _ _⟩
 case round=>
  obtain ⟨j,v,d,rfl,rfl,hj,hz,hO,hB⟩:=hrel
  by_cases hp:0<j
  ·obtain ⟨q,rfl⟩:∃ q,j=q+1:=⟨j - 1,by omega⟩
   have e1:(((q+1:Nat):Int) - 1)=(q:Int):=by omega
   simp only [e1]
   clear e1
   obtain ⟨N,hN⟩:∃ N:Int,N=tn (a:Int) (q+1) % (b:Int):=⟨_,rfl⟩
   have a4:0≤N:=by rw [hN];exact Int.emod_nonneg _ (by omega)
   have hNb:N<(b:Int):=by rw [hN];exact Int.emod_lt_of_pos _ (by omega)
   obtain ⟨ae,ab⟩:=hz.out
   rw [← hN] at ae
   obtain ⟨ro,lr,cr,rfl,hcr,nr,rr⟩:=ae
   have a2:lr≤m+1:=by
    obtain ⟨n0,aW⟩:∃ n0:Nat,N=(n0:Int):=⟨N.toNat,by omega⟩
    rw [aW] at nr hNb
    exact nr.len_bits (Nat.lt_trans (by omega) HX.out.2)
   have aZ:=Lib.hid ab
   have HN:=Lib.hid hN
   clear hz ab hN
   obtain ⟨b1,aO,rfl,al⟩:=(r1.below hB).at_ (by omega)
   have aB:=al q (by omega)
   clear al
   have d0:=zc9 (a:Int) q
   have d1:=zr9 (a:Int) q
   go_wp2_with (at_builtin;refine zW5 rfl (.tmp 29) (.tmp 30) _ (by rfl) wr.heap.size _ [.int .i64 (td (a:Int) q)] (by rfl) (own_lit _ _ _) ro lr cr (td N) (by rfl) (rr.gr (Gr.alloc _ _)) (by simp;omega) Tryz.underlying175 ze4 (by simp) ?_)
   intro v4 w4 hown aF
   rw [yh1 N _ d0 d1] at hown
   have aI:Gr wr w4:=Below.trans ((Below.refl _ _).alloc (Nat.le_refl _) _) aF
   obtain ⟨N1,av⟩:∃ N1:Int,N1=N*10+td (a:Int) q:=⟨_,rfl⟩
   have aL:tn N1 (lr+1)=0:=by rw [av,tn_cons _ _ d0 d1,nr.top]
   have ay:0≤N1:=by omega
   have aV:N1<10*(b:Int):=by omega
   rw [← av] at hown
   have aQ:=Lib.hid aL
   have aS:=Lib.hid av
   clear aL av
   obtain ⟨aH,ai,rfl,ak,_,aa,az⟩:=hown.drowF
   go_wp2_with fail
   refine (zM9 aH (lr+1) ai N1 _ (by omega) ak ay aQ.out aa).mono ?_
   rintro e w5 ⟨⟨k5,rfl,aR,aP⟩,rfl⟩
   have aU:TenF w4 (w2.heap.size+1) (.slice aH k5 ai) N1:=⟨_,_,_,rfl,by omega,aP,aa.shorter aR,fun ad e=>Nat.le_trans (by have:=hO.lt;omega) (az ad e)⟩
   have aT:=hO.gr aI
   have ax:Below w2.heap.size w2 w4:=Below.trans hB (Below.mono aI hB.size)
   clear aa hown aF hO rr
   go_wp2
   obtain ⟨wo,hwo⟩:∃ wo:World,wo=w4:=⟨_,rfl⟩
   subst hwo
   go_loopg [8] 10 (fun gk r wr=>∃ (c:Nat) (v:Value) (e:Nat→Int),r=v∧c+gk=10∧Hid ((c:Int)*b≤N1∧TenF wr (w2.heap.size+1) v (N1 - (c:Int)*b)∧∀ i,i<la→e i=if q<i then td ((a:Int)/(b:Int)) i else if i=q then (c:Int) else 0)∧DOwn wr w2.heap.size la e∧Below w2.heap.size w2 wr)
   case atStart=>
    refine ⟨0,_,d,rfl,rfl,⟨by simp;omega,by simpa using aU,fun i hi=>?_⟩,aT,ax⟩
    rw [aZ.out i hi]
    by_cases h1:q<i
    ·rw [if_pos h1,if_pos (by omega)]
    ·rw [if_neg h1,if_neg (by omega)];split<;>rfl
   case round=>
    obtain ⟨c,v,e,rfl,hc,hz,aC,aq⟩:=hrel
    obtain ⟨ae,ab,aG⟩:=hz.out
    obtain ⟨r0,ac⟩:∃ r0:Nat,N1 - (c:Int)*b=(r0:Int):=⟨(N1 - (c:Int)*b).toNat,by omega⟩
    rw [ac] at ab
    have aj:r0<2 ^ (m+4):=by
     have h1:=HX.out.2
     have h2:(0:Int)≤(c:Int)*b:=Int.mul_nonneg (by omega) (by omega)
     rw [Nat.pow_add]
     omega
    have hbb:=aJ.gr aq
    have au:=Lib.hid ac
    have a3:=Lib.hid ae
    have aw:=Lib.hid aG
    clear ac ae aG hz
    go_wp2_with fail
    refine (zJ7 ab.s hbb aj HX.out.2 (by omega)).mono ?_
    rintro e7 w7 ⟨rfl,g7⟩
    by_cases hge:b≤r0
    ·have aM:(0:Int)≤sgn ((r0:Int) - (b:Int)):=by have:=zk5 ((r0:Int) - (b:Int));omega
     have a1:c<9:=by
      rcases Nat.lt_or_ge c 9 with h | h
      ·exact h
      ·have h1:=au.out
       have h2:(9:Int)*b≤(c:Int)*b:=Int.mul_le_mul_of_nonneg_right (by omega) (by omega)
       omega
     go_wp2_with fail
     refine (yg9 (ab.s.gr g7) (hbb.gr g7) aj hge (by omega)).mono ?_
     rintro e8 w8 ⟨⟨v8,rfl,h8⟩,g8⟩
     have aD:=(aC.gr g7).gr g8
     have hcell:=aD.cell q (by omega)
     have hfree:=aD.free q
     have e9:=aw.out q (by omega)
     rw [if_neg (by omega),if_pos rfl] at e9
     rw [e9] at hcell
     clear e9
     go_wp2
     go_roundg (gk - 1)
     case measure=>omega
     case rel=>
      have hmul:((c+1:Nat):Int)*(b:Int)=(c:Int)*b+b:=by rw [Int.natCast_add,Int.add_mul];simp
      refine ⟨c+1,_,_,rfl,by omega,⟨by rw [hmul];have:=au.out;omega,?_,fun i hi=>?_⟩,aD.set (by omega) ((c:Int)+1),?_⟩
      ·rw [hmul,show N1 - ((c:Int)*b+b)=((r0 - b:Nat):Int) by have:=au.out;omega]
       exact (h8.mono (by have:=(aC.gr g7).lt;omega)).set (by omega) _ _
      ·by_cases e1:i=q
       ·subst e1;rw [zb6,if_neg (by omega),if_pos rfl];simp
       ·rw [za6 _ _ e1,aw.out i hi]
        by_cases e2:q<i
        ·rw [if_pos e2,if_pos e2]
        ·rw [if_neg e2,if_neg e2,if_neg e1,if_neg e1]
      ·exact (Below.trans aq (Below.mono (g7.trans g8) aq.size)).setCell (Nat.le_refl _) _
    ·have aM:sgn ((r0:Int) - (b:Int))<0:=by have:=zk5 ((r0:Int) - (b:Int));omega
     have hst:=zZ1 (a:Int) (b:Int) q (by omega)
     have a5:(0:Int)≤(c:Int):=by omega
     have hdiv:N1/(b:Int)=(c:Int)∧N1 % (b:Int)=(r0:Int):=by
      rw [Int.ediv_emod_unique (by omega)]
      have h1:=au.out
      rw [Int.mul_comm (b:Int) (c:Int)]
      omega
     rw [← HN.out,← aS.out,hdiv.1,hdiv.2] at hst
     have HST:=Lib.hid hst
     clear hst hdiv
     go_wp2
     go_roundw
     case rel=>
      refine ⟨q,_,e,rfl,rfl,by omega,⟨?_,fun i hi=>?_⟩,aC.gr g7,Below.trans aq (Below.mono g7 aq.size)⟩
      ·rw [HST.out.2.1];exact ab.s.gr g7
      ·rw [aw.out i hi]
       by_cases e2:q<i
       ·rw [if_pos e2,if_pos (by omega)]
       ·rw [if_neg e2]
        by_cases e3:i=q
        ·rw [if_pos e3,if_pos (by omega),e3,HST.out.1]
        ·rw [if_neg e3,if_neg (by omega)]
     case measure=>simp [intOf]
  ·obtain rfl:j=0:=by omega
   obtain ⟨ae,ab⟩:=hz.out
   obtain ⟨qn,hqn⟩:∃ qn:Nat,qn=a/b:=⟨_,rfl⟩
   obtain ⟨rn,hrn⟩:∃ rn:Nat,rn=a % b:=⟨_,rfl⟩
   have hdm:(a:Int)=(b:Int)*qn+rn:=by
    have:=Nat.div_add_mod a b
    rw [hqn,hrn,← Int.natCast_mul,← Int.natCast_add,this]
   have hrb:rn<b:=by rw [hrn];exact Nat.mod_lt _ a0
   have g3:Gr w2 wr:=hB
   have hQ:TenZ wr (.slice (some ⟨w2.heap.size,0,none⟩) la la) (qn:Int):=by
    refine ⟨_,_,_,rfl,Nat.le_refl _,by omega,?_,(hO.congr fun i hi=>?_).row⟩
    ·rw [hqn,Int.natCast_ediv,yw2 _ _ (by omega),n1.top,Int.zero_ediv]
    ·rw [ab i hi,if_pos (by omega),hqn,Int.natCast_ediv]
   rw [zg5,← Int.natCast_emod,← hrn] at ae
   have hR:=ae.toZ (Nat.lt_trans hrb HX.out.2) (by omega)
   have hQs:Sz k (-(qn:Int)):=by
    have h1:=HX.out.1
    have h2:=Nat.div_le_self a b
    unfold Sz;omega
   have hax:x<0→x=-(a:Int):=fun h=>by have:=HA.out;omega
   have ah:¬ x<0→x=(a:Int):=fun h=>by have:=HA.out;omega
   have hby:y=(b:Int):=by have:=HB.out;omega
   have hRs:Sz m (-(rn:Int)):=by
    have h1:=HX.out.2
    unfold Sz;omega
   have HDM:=Lib.hid hdm
   have HBY:=Lib.hid hby
   clear hdm hby hz ae ab hO hqn hrn
   by_cases hneg:x<0
   ·have ar:=Lib.hid (hax hneg)
    clear hax ah
    by_cases ac:rn=0
    ·subst ac
     have HF:Hid (x/y=-(qn:Int)∧x % y=0):=by
      have h1:=ar.out
      have h2:=HDM.out
      have h3:=HBY.out
      show x/y=_∧_
      rw [h3,Int.ediv_emod_unique (by omega),Int.mul_neg]
      omega
     go_wp2_with fail
     (with_reducible refine (zc1 x (zf4 hneg) _).mono ?_)
     rintro e4 w4 ⟨rfl,g4⟩
     go_wp2_with fail
     (with_reducible refine (zc1 y (zd7 af) _).mono ?_)
     rintro e5 w5 ⟨rfl,g5⟩
     go_wp2_with fail
     (with_reducible refine (zh6 (neg:=true) ((hQ.gr g4).gr g5) (ze8 (z:=-(qn:Int)) (.inl ⟨rfl,rfl⟩))).mono ?_)
     rintro e6 w6 ⟨rfl,g6⟩
     go_wp2_with fail
     (with_reducible refine (zc1 x (zf4 hneg) _).mono ?_)
     rintro e7 w7 ⟨rfl,g7⟩
     go_wp2_with fail
     (with_reducible refine (zh6 (neg:=true) ((((hR.gr g4).gr g5).gr g6).gr g7) (show zh5 true 0=[48] from rfl)).mono ?_)
     rintro e8 w8 ⟨rfl,g8⟩
     go_wp2
     go_ret2
     refine ⟨?_,(((((ap.trans g3).trans g4).trans g5).trans g6).trans g7).trans g8⟩
     rw [HF.out.1,HF.out.2,zk4]
     rfl
    ·have HF:Hid (x/y=-(qn:Int) - 1∧x % y=-(rn:Int)+y):=by
      have h1:=ar.out
      have h2:=HDM.out
      have h3:=HBY.out
      show x/y=_∧_
      rw [h3,Int.ediv_emod_unique (by omega),Int.mul_sub,Int.mul_neg]
      omega
     have hne:=zo2 (show -(rn:Int)≠0 by omega)
     have aA:=zs3 (show -(rn:Int)≠0 by omega)
     go_wp2_with fail
     (with_reducible refine (zc1 x (zf4 hneg) _).mono ?_)
     rintro e4 w4 ⟨rfl,g4⟩
     go_wp2_with fail
     (with_reducible refine (zc1 y (zd7 af) _).mono ?_)
     rintro e5 w5 ⟨rfl,g5⟩
     go_wp2_with fail
     (with_reducible refine (zh6 (neg:=true) ((hQ.gr g4).gr g5) (ze8 (z:=-(qn:Int)) (.inl ⟨rfl,rfl⟩))).mono ?_)
     rintro e6 w6 ⟨rfl,g6⟩
     go_wp2_with fail
     (with_reducible refine (zc1 x (zf4 hneg) _).mono ?_)
     rintro e7 w7 ⟨rfl,g7⟩
     go_wp2_with fail
     (with_reducible refine (zh6 (neg:=true) ((((hR.gr g4).gr g5).gr g6).gr g7) (ze8 (z:=-(rn:Int)) (.inl ⟨rfl,rfl⟩))).mono ?_)
     rintro e8 w8 ⟨rfl,g8⟩
     go_wp2_with fail
     (with_reducible refine (zc1 (-(rn:Int)) (zf4 (by omega)) _).mono ?_)
     rintro e9 w9 ⟨rfl,g9⟩
     go_wp2_with fail
     (with_reducible refine (zc1 y (zd7 af) _).mono ?_)
     rintro aY wa ⟨rfl,ga⟩
     go_wp2_with fail
     (with_reducible refine (yh2 (-(qn:Int)) hQs (by omega) _).mono ?_)
     rintro e11 wb ⟨rfl,gb⟩
     go_wp2_with fail
     (with_reducible refine (ym5 (-(rn:Int)) y hRs hy (by omega) _).mono ?_)
     rintro e12 wc ⟨rfl,gc⟩
     go_wp2
     go_ret2
     refine ⟨?_,(((((((((ap.trans g3).trans g4).trans g5).trans g6).trans g7).trans g8).trans g9).trans ga).trans gb).trans gc⟩
     rw [HF.out.1,HF.out.2]
     rfl
   ·have ar:=Lib.hid (ah hneg)
    clear hax ah
    have HF:Hid (x/y=(qn:Int)∧x % y=(rn:Int)):=by
     have h1:=ar.out
     have h2:=HDM.out
     have h3:=HBY.out
     show x/y=_∧_
     rw [h3,Int.ediv_emod_unique (by omega)]
     omega
    by_cases hx0:x=0
    ·have ac:rn=0:=by
      have h1:=HF.out.2
      rw [hx0,Int.zero_emod] at h1;omega
     have hsx:sgn x=0:=by rw [hx0];rfl
     subst ac
     have HS:=Lib.hid hsx
     clear hsx hx0
     go_wp2_with fail
     (with_reducible refine (zc1 x HS.out _).mono ?_)
     rintro e4 w4 ⟨rfl,g4⟩
     go_wp2_with fail
     (with_reducible refine (zc1 y (zd7 af) _).mono ?_)
     rintro e5 w5 ⟨rfl,g5⟩
     go_wp2_with fail
     (with_reducible refine (zh6 (neg:=false) ((hQ.gr g4).gr g5) (ze8 (z:=(qn:Int)) (.inr ⟨rfl,rfl⟩))).mono ?_)
     rintro e6 w6 ⟨rfl,g6⟩
     go_wp2_with fail
     (with_reducible refine (zc1 x HS.out _).mono ?_)
     rintro e7 w7 ⟨rfl,g7⟩
     go_wp2_with fail
     (with_reducible refine (zh6 (neg:=false) ((((hR.gr g4).gr g5).gr g6).gr g7) (show zh5 false 0=[48] from rfl)).mono ?_)
     rintro e8 w8 ⟨rfl,g8⟩
     go_wp2
     go_ret2
     refine ⟨?_,(((((ap.trans g3).trans g4).trans g5).trans g6).trans g7).trans g8⟩
     rw [HF.out.1,HF.out.2]
     show _=Ending.returned (Value.tuple #[_,.string ⟨(Lib.itoa 0).toArray⟩])
     rw [zk4]
     rfl
    ·by_cases ac:rn=0
     ·subst ac
      go_wp2_with fail
      (with_reducible refine (zc1 x (zd7 (by omega)) _).mono ?_)
      rintro e4 w4 ⟨rfl,g4⟩
      go_wp2_with fail
      (with_reducible refine (zc1 y (zd7 af) _).mono ?_)
      rintro e5 w5 ⟨rfl,g5⟩
      go_wp2_with fail
      (with_reducible refine (zh6 (neg:=false) ((hQ.gr g4).gr g5) (ze8 (z:=(qn:Int)) (.inr ⟨rfl,rfl⟩))).mono ?_)
      rintro e6 w6 ⟨rfl,g6⟩
      go_wp2_with fail
      (with_reducible refine (zc1 x (zd7 (by omega)) _).mono ?_)
      rintro e7 w7 ⟨rfl,g7⟩
      go_wp2_with fail
      (with_reducible refine (zh6 (neg:=false) ((((hR.gr g4).gr g5).gr g6).gr g7) (show zh5 false 0=[48] from rfl)).mono ?_)
      rintro e8 w8 ⟨rfl,g8⟩
      go_wp2
      go_ret2
      refine ⟨?_,(((((ap.trans g3).trans g4).trans g5).trans g6).trans g7).trans g8⟩
      rw [HF.out.1,HF.out.2]
      show _=Ending.returned (Value.tuple #[_,.string ⟨(Lib.itoa 0).toArray⟩])
      rw [zk4]
      rfl
     ·have hne:=zo2 (show (rn:Int)≠0 by omega)
      have aA:=zs3 (show (rn:Int)≠0 by omega)
      go_wp2_with fail
      (with_reducible refine (zc1 x (zd7 (by omega)) _).mono ?_)
      rintro e4 w4 ⟨rfl,g4⟩
      go_wp2_with fail
      (with_reducible refine (zc1 y (zd7 af) _).mono ?_)
      rintro e5 w5 ⟨rfl,g5⟩
      go_wp2_with fail
      (with_reducible refine (zh6 (neg:=false) ((hQ.gr g4).gr g5) (ze8 (z:=(qn:Int)) (.inr ⟨rfl,rfl⟩))).mono ?_)
      rintro e6 w6 ⟨rfl,g6⟩
      go_wp2_with fail
      (with_reducible refine (zc1 x (zd7 (by omega)) _).mono ?_)
      rintro e7 w7 ⟨rfl,g7⟩
      go_wp2_with fail
      (with_reducible refine (zh6 (neg:=false) ((((hR.gr g4).gr g5).gr g6).gr g7) (ze8 (z:=(rn:Int)) (.inr ⟨rfl,rfl⟩))).mono ?_)
      rintro e8 w8 ⟨rfl,g8⟩
      go_wp2_with fail
      (with_reducible refine (zc1 (rn:Int) (zd7 (by omega)) _).mono ?_)
      rintro e9 w9 ⟨rfl,g9⟩
      go_wp2_with fail
      (with_reducible refine (zc1 y (zd7 af) _).mono ?_)
      rintro aY wa ⟨rfl,ga⟩
      go_wp2
      go_ret2
      refine ⟨?_,(((((((ap.trans g3).trans g4).trans g5).trans g6).trans g7).trans g8).trans g9).trans ga⟩
      rw [HF.out.1,HF.out.2]
      rfl
theorem zJ9 {n:Nat}:zh5 false n=Lib.itoa (n:Int):=ze8 (.inr ⟨rfl,rfl⟩)
set_option maxRecDepth 100000 in
set_option maxHeartbeats 4000000 in
theorem r1_gcd {k m:Nat} (x y:Int) (hx:Sz k x) (hy:Sz m y) (hk:k+m≤140000) (w:World):
  Calls Tryz.prog 119 #[.string ⟨(Lib.itoa x).toArray⟩,.string ⟨(Lib.itoa y).toArray⟩] w fun e w'=>e=.returned (.string ⟨(Lib.itoa (Int.gcd x y:Int)).toArray⟩)∧Gr w w':=by
 go_enter Tryz.func119,Tryz.ntmps119
 go_wp2_with fail
 refine (ze0 x hx (by omega) _).mono ?_
 rintro e w1 ⟨⟨v1,rfl,ae⟩,g1⟩
 go_wp2_with fail
 (with_reducible refine (zh6 (neg:=false) (ae.toZ hx (by omega)) zJ9).mono ?_)
 rintro e w2 ⟨rfl,g2⟩
 go_wp2_with fail
 refine (ze0 y hy (by omega) _).mono ?_
 rintro e w3 ⟨⟨v3,rfl,ac⟩,g3⟩
 go_wp2_with fail
 (with_reducible refine (zh6 (neg:=false) (ac.toZ hy (by omega)) zJ9).mono ?_)
 rintro e w4 ⟨rfl,g4⟩
 have ab:x.natAbs<2 ^ (k+m):=Nat.lt_of_lt_of_le hx (Nat.pow_le_pow_right (by omega) (by omega))
 have ad:y.natAbs<2 ^ (k+m):=Nat.lt_of_lt_of_le hy (Nat.pow_le_pow_right (by omega) (by omega))
 go_wp2
 go_loopg [5,6] (y.natAbs) (fun gk s5 s6 wr=>∃ A:Nat,s5=.string ⟨(Lib.itoa (A:Int)).toArray⟩∧s6=.string ⟨(Lib.itoa (gk:Int)).toArray⟩∧Hid (Nat.gcd A gk=Int.gcd x y∧A<2 ^ (k+m)∧gk<2 ^ (k+m))∧Gr w wr)
 case atStart=>exact ⟨x.natAbs,rfl,rfl,⟨rfl,ab,ad⟩,((g1.trans g2).trans g3).trans g4⟩
 case round=>
  obtain ⟨A,rfl,rfl,hz,hB⟩:=hrel
  by_cases hg:gk=0
  ·subst hg
   have HZ:Hid (A=Int.gcd x y):=by
    have:=hz.out.1
    rw [Nat.gcd_zero_right] at this
    exact this
   have e0:Lib.itoa 0=[48]:=zk4
   simp only [Int.natCast_zero,e0]
   go_wp2
   go_ret
   refine ⟨?_,hB⟩
   rw [HZ.out];rfl
  ·have hne:=zo2 (show (gk:Int)≠0 by omega)
   have aa:=zs3 (show (gk:Int)≠0 by omega)
   have hdm:=zo3 (k:=k+m) (m:=k+m) (A:Int) (gk:Int) (by unfold Sz;simpa using hz.out.2.1) (by unfold Sz;simpa using hz.out.2.2) (by omega) (by omega) wr
   rw [← Int.natCast_emod] at hdm
   go_wp2_with fail
   (with_reducible refine hdm.mono ?_)
   rintro e w5 ⟨rfl,g5⟩
   clear hdm
   go_wp2
   go_roundg (A % gk)
   case measure=>exact Nat.mod_lt _ (by omega)
   case rel=>
    refine ⟨gk,rfl,rfl,⟨?_,hz.out.2.2,Nat.lt_trans (Nat.mod_lt _ (by omega)) hz.out.2.2⟩,hB.trans g5⟩
    rw [← hz.out.1,Nat.gcd_comm gk,← Nat.gcd_rec,Nat.gcd_comm]
end Go.Proofs.YtaldbfflkpgfoaaGreatDoor
namespace Go.Proofs.YtaldbfflkpgfoaaGreatDoor
open Go

end Go.Proofs.YtaldbfflkpgfoaaGreatDoor
namespace Go.Proofs.YtaldbfflkpgfoaaGreatDoor
open Go.RowKit

theorem zx5 {D:ByteArray} {k:Nat} (h:k<D.size):D.data.toList[k]?=some D[k]:=by
 rw [Array.getElem?_toList,Array.getElem?_eq_getElem h];rfl
end Go.Proofs.YtaldbfflkpgfoaaGreatDoor
namespace Go.Proofs.YtaldbfflkpgfoaaGreatDoor
open Go

def zr3:List UInt8→List UInt8 × Option (List UInt8)
 | []=>([],none)
 | c::l=>if c=47 then ([],some l) else (c::(zr3 l).1,(zr3 l).2)
def zH9 (s:List UInt8):List UInt8:=(zr3 s).1
def denL (s:List UInt8):List UInt8:=(zr3 s).2.getD [49]
theorem zU3:∀ s,s=(match (zr3 s).2 with | none=>(zr3 s).1 | some d=>(zr3 s).1++47::d)
 | []=>rfl
 | c::l=>by
  have ih:=zU3 l
  unfold zr3
  by_cases h:c=47
  ·rw [if_pos h,h];rfl
  ·rw [if_neg h]
   dsimp only
   cases hd:(zr3 l).2 with
   | none=>rw [hd] at ih;dsimp only at ih ⊢;rw [← ih]
   | some d=>rw [hd] at ih;dsimp only at ih ⊢;rw [List.cons_append,← ih]
theorem zC2:∀ {s:List UInt8},(∀ c ∈ s,c≠47)→zr3 s=(s,none)
 | [],_=>rfl
 | c::l,h=>by
  unfold zr3
  rw [if_neg (h c (by simp)),zC2 (fun x hx=>h x (by simp [hx]))]
theorem zC3:∀ {a b:List UInt8},(∀ c ∈ a,c≠47)→zr3 (a++47::b)=(a,some b)
 | [],b,_=>by simp [zr3]
 | c::l,b,h=>by
  rw [List.cons_append]
  unfold zr3
  rw [if_neg (h c (by simp)),zC3 (fun x hx=>h x (by simp [hx]))]
theorem zy8 (z:Int):∀ c ∈ Lib.itoa z,c≠47:=by
 intro c hc e
 subst e
 by_cases h:z<0
 ·rw [ze5 h] at hc
  rcases List.mem_cons.1 hc with h1 | h1
  ·exact absurd h1 (by decide)
  ·have:=zp6 _ _ h1;simp at this
 ·rw [zb7 (by omega)] at hc
  have:=zp6 _ _ hc;simp at this
theorem zC4 (q:Rat):zr3 (za3 q)=(Lib.itoa q.num,if q.den=1 then none else some (Lib.itoa (q.den:Int))):=by
 unfold za3
 by_cases h:q.den=1
 ·rw [if_pos h,if_pos h,zC2 (zy8 _)]
 ·rw [if_neg h,if_neg h,List.append_assoc]
  exact zC3 (zy8 _)
theorem zP2 (q:Rat):zH9 (za3 q)=Lib.itoa q.num:=by unfold zH9;rw [zC4]
theorem yj3 (q:Rat):denL (za3 q)=Lib.itoa (q.den:Int):=by
 unfold denL;rw [zC4]
 by_cases h:q.den=1
 ·rw [if_pos h,h];exact itoa_one.symm
 ·rw [if_neg h];rfl
end Go.Proofs.YtaldbfflkpgfoaaGreatDoor
