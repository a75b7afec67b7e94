/- Joined of: R1c, R1d, R1e, R1f, Gen30, R1g, R1h, Ck, R1i, Ck2, Gen4, Txt, Gen12, Nbr, R2a, R2b, R2c, R2d, R2e, Scale, Pa1, Pa2, Gen31, Gen35. -/
import Derived.Test.YtaldbfflkpgfoaaGreatDoorPartB
import Derived.Laws.IdiomStrings
import Init.Data.Rat.Lemmas
import Derived.Test.YtaldbfflkpgfoaaGreatDoorPartA
import Derived.Lib.SmallJoins
import Derived.Laws.RangeString
namespace Go.Proofs.YtaldbfflkpgfoaaGreatDoor
open Go.RowKit

theorem yc3 {a b c:Int} {i:Nat} (h:tn (a+b) i=tn a i+tn b i+c) (h0:0≤c) (h1:c≤1) (ha:tn a i=0):
  td (a+b) i=(c+td b i) % 10∧tn (a+b) (i+1)=tn a (i+1)+tn b (i+1)+(c+td b i)/10∧0≤(c+td b i)/10∧(c+td b i)/10≤1:=by
 unfold td;simp only [zd4];omega
theorem yc4 {a b c:Int} {i:Nat} (h:tn (a+b) i=tn a i+tn b i+c) (h0:0≤c) (h1:c≤1) (ha:tn a i=0) (hb:tn b i=0):
  td (a+b) i=c % 10∧tn (a+b) (i+1)=tn a (i+1)+tn b (i+1)+c/10∧c/10=0:=by
 unfold td;simp only [zd4];omega
set_option maxRecDepth 10000 in
set_option maxHeartbeats 4000000 in
theorem r1_plus (ao bo:Option Addr) (la lb ca cb:Nat) (a b:Int) (w:World) (hla:la≤900000) (hlb:lb≤900000)
   (na:NX a la) (ha:DRow w ao la (td a)) (nb:NX b lb) (hb:DRow w bo lb (td b)):
    Calls Tryz.prog 152 #[.slice ao la ca,.slice bo lb cb] w fun e w'=>(∃ v,e=.returned v∧TenZ w' v (a+b))∧Below w.heap.size w w':=by
  obtain ⟨M,hMa,hMb,hMM⟩:∃ M:Nat,la≤M∧lb≤M∧M≤900000:=⟨max la lb,by omega,by omega,by omega⟩
  go_enter Tryz.func152,Tryz.ntmps152
  go_wp2
  go_loopw [5,6,7] (fun o c i wr=>∃ (k:Nat) (cr:Int) (v:Value),o=v∧c=.int .i64 cr∧i=.int .i64 k∧0≤cr∧cr≤1∧k≤M+1∧
      Hid ((k=M+1→cr=0)∧tn (a+b) k=tn a k+tn b k+cr∧OwnS wr 3 w.heap.size v (zk1 .i64 k (td (a+b))))∧Below w.heap.size w wr) (fun _ _ i _=>M+1 - (intOf i).toNat)
  case atStart=>exact ⟨0,0,_,rfl,rfl,rfl,by omega,by omega,by omega,⟨by omega,by simp [zg9],OwnS.nil _ _ _⟩,Below.refl _ _⟩
  case round=>
    obtain ⟨k,cr,v,rfl,rfl,rfl,ak,aj,hkM,hz,hB⟩:=hrel
    have a0:=zd2 a k
    have a1:=zt9 a k
    have b0:=zd2 b k
    have b1:=zt9 b k
    by_cases hl1:k<la
    · by_cases hl2:k<lb
      · obtain ⟨b1,ap,rfl,ab⟩:=(ha.below hB).at_ (by omega)
        have ac:=ab k hl1
        clear ab
        obtain ⟨b2,aq,rfl,aa⟩:=(hb.below hB).at_ (by omega)
        have ae:=aa k hl2
        clear aa
        go_wp2_with (at_builtin;refine zb9 rfl (.tmp 46) (.tmp 49) _ (by rfl) 3 w.heap.size _ _ _ (by rfl) (hz.out.2.2.gr (Gr.alloc _ _)) _ _ _ (by rfl) (heap_alloc_new _ _) rfl w (hB.alloc hB.size _) (by rw [zb2];omega) 8 (by decide) Tryz.underlying175 zf0 rfl (by have:=hB.size;simp;omega) ?_)
        intro v1 w1 hown ad _ _
        have hs:=yo7 hz.out.2.1 ak aj
        have HS:=Lib.hid hs
        clear hs
        go_wp2
        go_roundw
        case rel=>
          have hs:=HS.out
          refine ⟨k+1,_,_,rfl,rfl,by go_num,hs.2.2.1,hs.2.2.2,by omega,⟨fun h=>by omega,hs.2.1,?_⟩,ad⟩
          rw [zd5,hs.1];exact hown
        case measure=>simp [intOf];omega
      · have e0:tn b k=0:=zB4 nb.top (by omega)
        have HE:=Lib.hid e0
        clear e0
        obtain ⟨b1,ap,rfl,ab⟩:=(ha.below hB).at_ (by omega)
        have ac:=ab k hl1
        clear ab
        go_wp2_with (at_builtin;refine zb9 rfl (.tmp 46) (.tmp 49) _ (by rfl) 3 w.heap.size _ _ _ (by rfl) (hz.out.2.2.gr (Gr.alloc _ _)) _ _ _ (by rfl) (heap_alloc_new _ _) rfl w (hB.alloc hB.size _) (by rw [zb2];omega) 8 (by decide) Tryz.underlying175 zf0 rfl (by have:=hB.size;simp;omega) ?_)
        intro v1 w1 hown ad _ _
        have hs:=ye8 hz.out.2.1 ak aj HE.out
        have HS:=Lib.hid hs
        clear hs
        go_wp2
        go_roundw
        case rel=>
          have hs:=HS.out
          refine ⟨k+1,_,_,rfl,rfl,by go_num,hs.2.2.1,hs.2.2.2,by omega,⟨fun h=>by omega,hs.2.1,?_⟩,ad⟩
          rw [zd5,hs.1];exact hown
        case measure=>simp [intOf];omega
    · have e0:tn a k=0:=zB4 na.top (by omega)
      have HE:=Lib.hid e0
      clear e0
      by_cases hl2:k<lb
      · obtain ⟨b2,aq,rfl,aa⟩:=(hb.below hB).at_ (by omega)
        have ae:=aa k hl2
        clear aa
        go_wp2_with (at_builtin;refine zb9 rfl (.tmp 46) (.tmp 49) _ (by rfl) 3 w.heap.size _ _ _ (by rfl) (hz.out.2.2.gr (Gr.alloc _ _)) _ _ _ (by rfl) (heap_alloc_new _ _) rfl w (hB.alloc hB.size _) (by rw [zb2];omega) 8 (by decide) Tryz.underlying175 zf0 rfl (by have:=hB.size;simp;omega) ?_)
        intro v1 w1 hown ad _ _
        have hs:=yc3 hz.out.2.1 ak aj HE.out
        have HS:=Lib.hid hs
        clear hs
        go_wp2
        go_roundw
        case rel=>
          have hs:=HS.out
          refine ⟨k+1,_,_,rfl,rfl,by go_num,hs.2.2.1,hs.2.2.2,by omega,⟨fun h=>by omega,hs.2.1,?_⟩,ad⟩
          rw [zd5,hs.1];exact hown
        case measure=>simp [intOf];omega
      · have e1:tn b k=0:=zB4 nb.top (by omega)
        have HF:=Lib.hid e1
        clear e1
        by_cases hcr:0<cr
        · have au:k≤M:=by
            rcases Nat.lt_or_ge M k with h | h
            · have:=hz.out.1 (by omega);omega
            · exact h
          go_wp2_with (at_builtin;refine zb9 rfl (.tmp 46) (.tmp 49) _ (by rfl) 3 w.heap.size _ _ _ (by rfl) (hz.out.2.2.gr (Gr.alloc _ _)) _ _ _ (by rfl) (heap_alloc_new _ _) rfl w (hB.alloc hB.size _) (by rw [zb2];omega) 8 (by decide) Tryz.underlying175 zf0 rfl (by have:=hB.size;simp;omega) ?_)
          intro v1 w1 hown ad _ _
          have hs:=yc4 hz.out.2.1 ak aj HE.out HF.out
          have HS:=Lib.hid hs
          clear hs
          go_wp2
          go_roundw
          case rel=>
            have hs:=HS.out
            refine ⟨k+1,_,_,rfl,rfl,by go_num,by omega,by omega,by omega,⟨fun _=>hs.2.2,hs.2.1,?_⟩,ad⟩
            rw [zd5,hs.1];exact hown
          case measure=>simp [intOf];omega
        · have ah:cr=0:=by omega
          obtain ⟨ar,al,rfl,af,_,ai⟩:=hz.out.2.2.drow
          have HR:=Lib.hid ah
          clear ah
          go_wp2
          go_ret
          refine ⟨⟨_,rfl,ar,k,al,rfl,af,by omega,?_,ai⟩,hB⟩
          have h1:=hz.out.2.1
          have h2:=HE.out
          have h3:=HF.out
          have h4:=HR.out
          omega
set_option maxRecDepth 10000 in
set_option maxHeartbeats 4000000 in
theorem yj4 (ao bo:Option Addr) (la lb ca cb:Nat) (a b:Int) (w:World) (hla:la≤900000) (hba:b≤a)
   (na:NX a la) (ha:DRow w ao la (td a)) (nb:NX b lb) (hb:DRow w bo lb (td b)):
    Calls Tryz.prog 148 #[.slice ao la ca,.slice bo lb cb] w fun e w'=>(∃ v,e=.returned v∧TenF w' w.heap.size v (a - b))∧Below w.heap.size w w':=by
  have hlb:lb≤la:=nb.len_le na hba
  go_enter Tryz.func148,Tryz.ntmps148
  go_wp2
  go_loopw [5,6,7] (fun o c i wr=>∃ (k:Nat) (br:Int) (v:Value),o=v∧c=.int .i64 br∧i=.int .i64 k∧0≤br∧br≤1∧k≤la∧
      Hid (tn (a - b) k=tn a k - tn b k - br∧OwnS wr 3 w.heap.size v (zk1 .i64 k (td (a - b))))∧Below w.heap.size w wr) (fun _ _ i _=>la - (intOf i).toNat)
  case atStart=>exact ⟨0,0,_,rfl,rfl,rfl,by omega,by omega,by omega,⟨by simp [zg9],OwnS.nil _ _ _⟩,Below.refl _ _⟩
  case round=>
    obtain ⟨k,br,v,rfl,rfl,rfl,ai,ah,hk,hz,hB⟩:=hrel
    have a0:=zd2 a k
    have a1:=zt9 a k
    have b0:=zd2 b k
    have b1:=zt9 b k
    by_cases hl1:k<la
    · obtain ⟨b1,aq,rfl,af⟩:=(ha.below hB).at_ (by omega)
      have aj:=af k hl1
      clear af
      by_cases hl2:k<lb
      · obtain ⟨b2,ar,rfl,ad⟩:=(hb.below hB).at_ (by omega)
        have al:=ad k hl2
        clear ad
        by_cases hn:td a k - br - td b k<0
        · have ak:¬ 0≤td a k - br - td b k:=by omega
          go_wp2_with (at_builtin;refine zb9 rfl (.tmp 35) (.tmp 37) _ (by rfl) 3 w.heap.size _ _ _ (by rfl) (hz.out.2.gr (Gr.alloc _ _)) _ _ _ (by rfl) (heap_alloc_new _ _) rfl w (hB.alloc hB.size _) (by rw [zb2];omega) 8 (by decide) Tryz.underlying175 zf0 rfl (by have:=hB.size;simp;omega) ?_)
          intro v1 w1 hown ab _ _
          have hs:=zK7 hz.out.1 ai ah
          rw [if_pos (by omega)] at hs
          have hd:td (a - b) k=td a k - br - td b k+10:=by rw [hs.1];omega
          have HS:=Lib.hid hs
          have HD:=Lib.hid hd
          clear hs hd
          go_wp2
          go_roundw
          case rel=>
            refine ⟨k+1,_,_,rfl,rfl,by go_num,by omega,by omega,by omega,⟨HS.out.2,?_⟩,ab⟩
            rw [zd5,HD.out];exact hown
          case measure=>simp [intOf];omega
        · have ak:0≤td a k - br - td b k:=by omega
          go_wp2_with (at_builtin;refine zb9 rfl (.tmp 35) (.tmp 37) _ (by rfl) 3 w.heap.size _ _ _ (by rfl) (hz.out.2.gr (Gr.alloc _ _)) _ _ _ (by rfl) (heap_alloc_new _ _) rfl w (hB.alloc hB.size _) (by rw [zb2];omega) 8 (by decide) Tryz.underlying175 zf0 rfl (by have:=hB.size;simp;omega) ?_)
          intro v1 w1 hown ab _ _
          have hs:=zK7 hz.out.1 ai ah
          rw [if_neg (by omega)] at hs
          have hd:td (a - b) k=td a k - br - td b k:=by rw [hs.1];omega
          have HS:=Lib.hid hs
          have HD:=Lib.hid hd
          clear hs hd
          go_wp2
          go_roundw
          case rel=>
            refine ⟨k+1,_,_,rfl,rfl,by go_num,by omega,by omega,by omega,⟨HS.out.2,?_⟩,ab⟩
            rw [zd5,HD.out];exact hown
          case measure=>simp [intOf];omega
      · have e0:tn b k=0:=zB4 nb.top (by omega)
        have HE:=Lib.hid e0
        clear e0
        by_cases hn:td a k - br<0
        · have ak:¬ 0≤td a k - br:=by omega
          go_wp2_with (at_builtin;refine zb9 rfl (.tmp 35) (.tmp 37) _ (by rfl) 3 w.heap.size _ _ _ (by rfl) (hz.out.2.gr (Gr.alloc _ _)) _ _ _ (by rfl) (heap_alloc_new _ _) rfl w (hB.alloc hB.size _) (by rw [zb2];omega) 8 (by decide) Tryz.underlying175 zf0 rfl (by have:=hB.size;simp;omega) ?_)
          intro v1 w1 hown ab _ _
          have hs:=zD3 hz.out.1 ai ah HE.out
          rw [if_pos (by omega)] at hs
          have hd:td (a - b) k=td a k - br+10:=by rw [hs.1];omega
          have HS:=Lib.hid hs
          have HD:=Lib.hid hd
          clear hs hd
          go_wp2
          go_roundw
          case rel=>
            refine ⟨k+1,_,_,rfl,rfl,by go_num,by omega,by omega,by omega,⟨HS.out.2,?_⟩,ab⟩
            rw [zd5,HD.out];exact hown
          case measure=>simp [intOf];omega
        · have ak:0≤td a k - br:=by omega
          go_wp2_with (at_builtin;refine zb9 rfl (.tmp 35) (.tmp 37) _ (by rfl) 3 w.heap.size _ _ _ (by rfl) (hz.out.2.gr (Gr.alloc _ _)) _ _ _ (by rfl) (heap_alloc_new _ _) rfl w (hB.alloc hB.size _) (by rw [zb2];omega) 8 (by decide) Tryz.underlying175 zf0 rfl (by have:=hB.size;simp;omega) ?_)
          intro v1 w1 hown ab _ _
          have hs:=zD3 hz.out.1 ai ah HE.out
          rw [if_neg (by omega)] at hs
          have hd:td (a - b) k=td a k - br:=by rw [hs.1];omega
          have HS:=Lib.hid hs
          have HD:=Lib.hid hd
          clear hs hd
          go_wp2
          go_roundw
          case rel=>
            refine ⟨k+1,_,_,rfl,rfl,by go_num,by omega,by omega,by omega,⟨HS.out.2,?_⟩,ab⟩
            rw [zd5,HD.out];exact hown
          case measure=>simp [intOf];omega
    · obtain rfl:k=la:=by omega
      have htop:tn (a - b) k=0:=by
        have h1:=hz.out.1
        have h2:=na.top
        have h3:=zB4 nb.top hlb
        have h4:=zy8 (show 0≤a - b by omega) k
        omega
      have HT:=Lib.hid htop
      clear htop
      obtain ⟨ap,ac,rfl,ae,_,aa,hfr⟩:=hz.out.2.drowF
      go_wp2_with fail
      refine (zR2 ap k ac (a - b) _ (by omega) ae (by omega) HT.out aa).mono ?_
      rintro e w1 ⟨⟨k',rfl,hk',hnx⟩,rfl⟩
      go_wp2
      go_ret
      exact ⟨⟨_,rfl,ap,k',ac,rfl,by omega,hnx,aa.shorter hk',hfr⟩,hB⟩
def zA1 (l:List UInt8):List Value:=l.map fun c=>.int .u8 (c.toNat:Int)
theorem zk6 (l:List UInt8):(zA1 l).length=l.length:=by simp [zA1]
theorem zN6 (l:List UInt8) (c:UInt8):zA1 (l++[c])=zA1 l++[.int .u8 (c.toNat:Int)]:=by simp [zA1]
theorem yc5:(Tryz.prog.info? 5).map (fun i=>(i.zero,i.size,i.bytes))=some (some (.int .u8 0),1,1):=by kernel_rfl
theorem OwnS.conv {w:World} {B:Nat} {v:Value} {l:List UInt8} (h:OwnS w 5 B v (zA1 l)) (hp:l≠[]):
  ∃ g cap,v=.slice (some ⟨g,0,none⟩) l.length cap∧(convert 194 9 (.slice (some ⟨g,0,none⟩) l.length cap)).run Tryz.prog w=.ok (.string ⟨l.toArray⟩) w:=by
 obtain ⟨g,cap,cur,e,hb,hg,h1,h2,hc⟩:=h.cells (by rw [zk6];exact List.length_pos_iff.2 hp)
 rw [zk6] at e h1 hc
 refine ⟨g,cap,e,run_convert_bytes_back w _ _ 5 ⟨g,0,none⟩ cap l (by kernel_rfl) (by kernel_rfl) (by kernel_rfl) (fun j hj=>?_)⟩
 have e0:(⟨g,0,none⟩:Addr).add j=⟨g,j,none⟩:=by
  unfold Addr.add
  by_cases h0:j=0<;>simp [h0]
 rw [e0,zb1 hg,hc j hj]
 simp [zA1,hj]
theorem yc6 (n:Nat):Lib.decDigits n≠[]:=fun e=>by have:=zF8 n;rw [e] at this;simp at this
def zi3 (neg:Bool) (n:Nat):List UInt8:=if n=0 then [48] else (if neg then [45] else [])++Lib.decDigits n
theorem yn6 (neg:Bool) (n:Nat):zi3 neg n=Lib.itoa (if neg then -(n:Int) else n):=by
 unfold zi3
 by_cases h:n=0
 ·subst h
  rw [if_pos rfl]
  cases neg<;>exact (zc0 (u:=0) (by omega)).symm
 ·rw [if_neg h]
  cases neg
  ·rw [if_neg (by decide),if_neg (by decide),za8 (by omega),Int.natAbs_natCast];rfl
  ·rw [if_pos rfl,if_pos rfl,zd3 (by omega)]
   simp
set_option maxRecDepth 10000 in
set_option maxHeartbeats 4000000 in
theorem zR3 (neg:Bool) (ao:Option Addr) (len cap n:Nat) (w:World) (hl:len≤900001) (hcap:len≤cap) (h1:tn (n:Int) len=0) (hr:DRow w ao len (td (n:Int))):
  Calls Tryz.prog 128 #[.bool neg,.slice ao len cap] w fun e w'=>e=.returned (.string ⟨(zi3 neg n).toArray⟩)∧Below w.heap.size w w':=by
 have H1:=Lib.hid h1
 clear h1
 go_enter Tryz.func128,Tryz.ntmps128
 go_wp2_with fail
 refine (zR2 ao len cap n _ (by omega) hcap (by omega) H1.out hr).mono ?_
 rintro e w1 ⟨⟨k,rfl,hk,hnx⟩,rfl⟩
 by_cases hk0:k=0
 ·subst hk0
  have hn:n=0:=by have:=hnx.len_zero.1 rfl;omega
  have HN:=Lib.hid hn
  clear hn
  go_wp2
  go_ret
  refine ⟨?_,Below.refl _ _⟩
  rw [zi3,if_pos HN.out]
  rfl
 ·have hn:0<n:=by
   rcases Nat.eq_zero_or_pos n with e | e
   ·exact absurd (hnx.len_zero.2 (by omega)) hk0
   ·exact e
  have ak:((k:Int)==0)=false:=by simp;omega
  have hrow:=hr.shorter hk
  cases neg
  ·go_wp2
   go_loopw [5,6] (fun o i wr=>∃ (j:Nat) (v:Value),o=v∧i=.int .i64 ((j:Int) - 1)∧j≤k∧Hid (OwnS wr 5 w.heap.size v (zA1 (([]:List UInt8)++(Lib.decDigits n).take (k - j))))∧Below w.heap.size w wr) (fun _ i _=>(intOf i+1).toNat)
   case atStart=>exact ⟨k,_,rfl,rfl,Nat.le_refl _,(show OwnS _ _ _ _ (zA1 ([]++(Lib.decDigits n).take (k - k))) by rw [Nat.sub_self];exact OwnS.nil _ _ _),Below.refl _ _⟩
   case round=>
    obtain ⟨j,v,rfl,rfl,hj,hz,hB⟩:=hrel
    by_cases hp:0<j
    ·obtain ⟨q,rfl⟩:∃ q,j=q+1:=⟨j - 1,by omega⟩
     have e1:(((q+1:Nat):Int) - 1)=(q:Int):=by omega
     simp only [e1]
     clear e1
     obtain ⟨b1,ai,rfl,aa⟩:=(hrow.below hB).at_ (by omega)
     have ac:=aa q (by omega)
     clear aa
     have d0:=zd2 (n:Int) q
     have d1:=zt9 (n:Int) q
     have hlen:(zA1 (([]:List UInt8)++(Lib.decDigits n).take (k - (q+1)))).length≤1000000:=by
      rw [zk6,List.length_append]
      have h1:=List.length_take_le (k - (q+1)) (Lib.decDigits n)
      have h2:(([]:List UInt8):List UInt8).length≤1:=by decide
      omega
     go_wp2_with (at_builtin;refine zb9 rfl (.tmp 23) (.tmp 30) _ (by rfl) 5 w.heap.size _ _ _ (by rfl) (hz.out.gr (Gr.alloc _ _)) _ _ _ (by rfl) (heap_alloc_new _ _) rfl w (hB.alloc hB.size _) hlen 1 (by decide) Tryz.underlying194 yc5 rfl (by have:=hB.size;simp;omega) ?_)
     intro v1 w1 hown af _ _
     go_wp2
     go_roundw
     case rel=>
      refine ⟨q,_,rfl,rfl,by omega,?_,af⟩
      have h1:=yl0 hnx hn (show k - (q+1)<k by omega)
      rw [show k - (q+1)+1=k - q by omega,show k - 1 - (k - (q+1))=q by omega] at h1
      rw [h1,← List.append_assoc,zN6,zT6]
      exact hown
     case measure=>simp [intOf]
    ·obtain rfl:j=0:=by omega
     have ad:(Lib.decDigits n).take (k - 0)=Lib.decDigits n:=by
      rw [Nat.sub_zero,List.take_of_length_le (by rw [(zP2 k n hnx hn).1];exact Nat.le_refl _)]
     have ab:=hz.out
     rw [ad] at ab
     obtain ⟨l,hl⟩:∃ l,l=([]:List UInt8)++Lib.decDigits n:=⟨_,rfl⟩
     rw [← hl] at ab
     obtain ⟨g,ah,rfl,hconv⟩:=ab.conv (by rw [hl];simp [yc6])
     have HL:=Lib.hid hl
     clear hl ab ad
     go_wp2
     go_ret
     refine ⟨?_,hB⟩
     rw [zi3,if_neg (by omega)]
     have hl:=HL.out
     subst hl
     rfl
  ·go_wp2_with (at_builtin;refine zb9 rfl (.tmp 13) (.tmp 14) _ (by rfl) 5 w.heap.size _ _ _ (by rfl) (OwnS.nil _ _ _) _ _ _ (by rfl) (heap_alloc_new _ _) rfl w ((Below.refl _ _).alloc (Nat.le_refl _) _) (by simp) 1 (by decide) Tryz.underlying194 yc5 rfl (by simp) ?_)
   intro v0 w0 ae aj _ _
   go_wp2
   go_loopw [5,6] (fun o i wr=>∃ (j:Nat) (v:Value),o=v∧i=.int .i64 ((j:Int) - 1)∧j≤k∧Hid (OwnS wr 5 w.heap.size v (zA1 (([45]:List UInt8)++(Lib.decDigits n).take (k - j))))∧Below w.heap.size w wr) (fun _ i _=>(intOf i+1).toNat)
   case atStart=>exact ⟨k,_,rfl,rfl,Nat.le_refl _,(show OwnS _ _ _ _ (zA1 ([45]++(Lib.decDigits n).take (k - k))) by rw [Nat.sub_self];exact ae),aj⟩
   case round=>
    obtain ⟨j,v,rfl,rfl,hj,hz,hB⟩:=hrel
    by_cases hp:0<j
    ·obtain ⟨q,rfl⟩:∃ q,j=q+1:=⟨j - 1,by omega⟩
     have e1:(((q+1:Nat):Int) - 1)=(q:Int):=by omega
     simp only [e1]
     clear e1
     obtain ⟨b1,ai,rfl,aa⟩:=(hrow.below hB).at_ (by omega)
     have ac:=aa q (by omega)
     clear aa
     have d0:=zd2 (n:Int) q
     have d1:=zt9 (n:Int) q
     have hlen:(zA1 (([45]:List UInt8)++(Lib.decDigits n).take (k - (q+1)))).length≤1000000:=by
      rw [zk6,List.length_append]
      have h1:=List.length_take_le (k - (q+1)) (Lib.decDigits n)
      have h2:(([45]:List UInt8):List UInt8).length≤1:=by decide
      omega
     go_wp2_with (at_builtin;refine zb9 rfl (.tmp 23) (.tmp 30) _ (by rfl) 5 w.heap.size _ _ _ (by rfl) (hz.out.gr (Gr.alloc _ _)) _ _ _ (by rfl) (heap_alloc_new _ _) rfl w (hB.alloc hB.size _) hlen 1 (by decide) Tryz.underlying194 yc5 rfl (by have:=hB.size;simp;omega) ?_)
     intro v1 w1 hown af _ _
     go_wp2
     go_roundw
     case rel=>
      refine ⟨q,_,rfl,rfl,by omega,?_,af⟩
      have h1:=yl0 hnx hn (show k - (q+1)<k by omega)
      rw [show k - (q+1)+1=k - q by omega,show k - 1 - (k - (q+1))=q by omega] at h1
      rw [h1,← List.append_assoc,zN6,zT6]
      exact hown
     case measure=>simp [intOf]
    ·obtain rfl:j=0:=by omega
     have ad:(Lib.decDigits n).take (k - 0)=Lib.decDigits n:=by
      rw [Nat.sub_zero,List.take_of_length_le (by rw [(zP2 k n hnx hn).1];exact Nat.le_refl _)]
     have ab:=hz.out
     rw [ad] at ab
     obtain ⟨l,hl⟩:∃ l,l=([45]:List UInt8)++Lib.decDigits n:=⟨_,rfl⟩
     rw [← hl] at ab
     obtain ⟨g,ah,rfl,hconv⟩:=ab.conv (by rw [hl];simp)
     have HL:=Lib.hid hl
     clear hl ab ad
     go_wp2
     go_ret
     refine ⟨?_,hB⟩
     rw [zi3,if_neg (by omega)]
     have hl:=HL.out
     subst hl
     rfl
theorem zA2 {k:Nat} {z:Int} (h:Sz k z):(Lib.decDigits z.natAbs).length≤k+1:=zh3 k _ h
theorem NX.len_bits {n len k:Nat} (h:NX (n:Int) len) (hn:n<2 ^ k):len≤k+1:=by
 rcases Nat.eq_zero_or_pos n with e | hp
 ·have:=h.len_zero.2 (by omega);omega
 ·have h1:=(zP2 len n h hp).1
  have h2:=zh3 k n hn
  omega
theorem yw9 {z:Int}:(Lib.itoa z)[0]?=some 45↔z<0:=by
 constructor
 ·intro h
  refine Int.lt_of_not_ge fun hz=>?_
  rw [za8 hz] at h
  have:=zk0 _ 45 (List.mem_of_getElem? h)
  simp at this
 ·intro h;rw [zd3 h];rfl
theorem zm4:Lib.itoa 0=[48]:=zc0 (u:=0) (by omega)
theorem zr1 {z:Int} (h:z≠0):Lib.itoa z≠[48]:=fun e=>h (zz1 (by rw [e,zm4]))
theorem zR4 (z:Int):0<(Lib.itoa z).length:=by
 by_cases h:z<0
 ·rw [zd3 h];simp
 ·rw [za8 (by omega)];exact zF8 _
theorem zf1 (z:Int) (w:World):
  Calls Tryz.prog 124 #[.string ⟨(Lib.itoa z).toArray⟩] w fun e w'=>e=.returned (.int .i64 (sgn z))∧Gr w w':=by
 by_cases h0:z=0
 ·subst h0
  rw [zm4]
  refine (yw5 w).mono ?_
  rintro e w1 ⟨he,rfl⟩
  exact ⟨he,Gr.refl _⟩
 ·have hb:((⟨(Lib.itoa z).toArray⟩:ByteArray).toList==[48])=false:=by
   rw [beq_eq_false_iff_ne,ByteArray.toList_eq]
   exact zr1 h0
  have hp:0<(⟨(Lib.itoa z).toArray⟩:ByteArray).size:=by
   show 0<(Lib.itoa z).toArray.size
   simpa using zR4 z
  obtain ⟨c,hc⟩:∃ c,(Lib.itoa z)[0]?=some c:=⟨_,List.getElem?_eq_getElem (zR4 z)⟩
  have aa:(⟨(Lib.itoa z).toArray⟩:ByteArray)[0]=c:=zh1 (by simp) hp hc
  by_cases hz:z<0
  ·have h1:=yw9.2 hz
   rw [hc] at h1
   obtain rfl:=Option.some.inj h1
   refine (yw6 _ w hb hp (by rw [aa];rfl)).mono ?_
   rintro e w1 ⟨he,rfl⟩
   exact ⟨by rw [he,zf7 hz],Gr.refl _⟩
  ·have h1:c≠45:=fun e=>hz (yw9.1 (by rw [hc,e]))
   refine (yw7 _ w hb hp (by
    rw [aa,beq_eq_false_iff_ne]
    intro e
    exact h1 (by rw [← UInt8.toNat_inj];have:(45:UInt8).toNat=45:=rfl;omega))).mono ?_
   rintro e w1 ⟨he,rfl⟩
   exact ⟨by rw [he,zd9 (by omega)],Gr.refl _⟩
theorem ze4 {k:Nat} (z:Int) (hz:Sz k z) (hk:k≤800000) (w:World):
  Calls Tryz.prog 127 #[.string ⟨(Lib.itoa z).toArray⟩] w fun e w'=>(∃ v,e=.returned v∧TenS w' v (z.natAbs:Int))∧Gr w w':=
 yw8 (decide (z<0)) z.natAbs _ w (by
  by_cases h:z<0
  ·simp [h,zd3 h]
  ·simp [h,za8 (show 0≤z by omega)]) (by have:=zA2 hz;omega)
theorem TenS.len {w:World} {v:Value} {n k:Nat} (h:TenS w v (n:Int)) (hn:n<2 ^ k):∃ ao len cap,v=.slice ao len cap∧len≤cap∧NX (n:Int) len∧DRow w ao len (td (n:Int))∧len≤k+1:=by
 obtain ⟨ao,len,cap,h1,h2,h3,h4⟩:=h
 exact ⟨ao,len,cap,h1,h2,h3,h4,h3.len_bits hn⟩
theorem zN7 {k m a b:Nat} {x y:Value} {w:World} (ha:TenS w x (a:Int)) (hb:TenS w y (b:Int)) (h1:a<2 ^ k) (h2:b<2 ^ m) (hk:k+m≤800000):
  Calls Tryz.prog 147 #[x,y] w fun e w'=>e=.returned (.int .i64 (sgn ((a:Int) - (b:Int))))∧Gr w w':=by
 obtain ⟨ao,la,ca,rfl,c1,n1,r1,l1⟩:=ha.len h1
 obtain ⟨bo,lb,cb,rfl,c2,n2,r2,l2⟩:=hb.len h2
 exact r1_order ao bo la lb ca cb a b w (by omega) (by omega) n1 r1 n2 r2
theorem zN8 {k a b:Nat} {x y:Value} {w:World} (ha:TenS w x (a:Int)) (hb:TenS w y (b:Int)) (h1:a<2 ^ k) (hba:b≤a) (hk:k≤800000):
  Calls Tryz.prog 148 #[x,y] w fun e w'=>(∃ v,e=.returned v∧TenS w' v ((a - b:Nat):Int))∧Gr w w':=by
 obtain ⟨ao,la,ca,rfl,c1,n1,r1,l1⟩:=ha.len h1
 obtain ⟨bo,lb,cb,rfl,c2,n2,r2,l2⟩:=hb.len (Nat.lt_of_le_of_lt hba h1)
 rw [Int.ofNat_sub hba]
 refine (yj4 ao bo la lb ca cb a b w (by omega) (by omega) n1 r1 n2 r2).mono ?_
 rintro e w1 ⟨⟨v,he,hv⟩,g⟩
 exact ⟨⟨v,he,hv.s⟩,g⟩
theorem yn7 {k a b:Nat} {x y:Value} {w:World} (ha:TenS w x (a:Int)) (hb:TenS w y (b:Int)) (h1:a<2 ^ k) (hba:b≤a) (hk:k≤800000):
  Calls Tryz.prog 148 #[x,y] w fun e w'=>(∃ v,e=.returned v∧TenF w' w.heap.size v ((a - b:Nat):Int))∧Gr w w':=by
 obtain ⟨ao,la,ca,rfl,c1,n1,r1,l1⟩:=ha.len h1
 obtain ⟨bo,lb,cb,rfl,c2,n2,r2,l2⟩:=hb.len (Nat.lt_of_le_of_lt hba h1)
 rw [Int.ofNat_sub hba]
 exact yj4 ao bo la lb ca cb a b w (by omega) (by omega) n1 r1 n2 r2
theorem yx0 {k m a b:Nat} {x y:Value} {w:World} (ha:TenS w x (a:Int)) (hb:TenS w y (b:Int)) (h1:a<2 ^ k) (h2:b<2 ^ m) (hk:k+m≤800000):
  Calls Tryz.prog 152 #[x,y] w fun e w'=>(∃ v,e=.returned v∧TenZ w' v ((a+b:Nat):Int))∧Gr w w':=by
 obtain ⟨ao,la,ca,rfl,c1,n1,r1,l1⟩:=ha.len h1
 obtain ⟨bo,lb,cb,rfl,c2,n2,r2,l2⟩:=hb.len h2
 rw [Int.natCast_add]
 exact r1_plus ao bo la lb ca cb a b w (by omega) (by omega) n1 r1 n2 r2
theorem zI5 (neg:Bool) {n:Nat} {v:Value} {w:World} (h:TenZ w v (n:Int)):
  Calls Tryz.prog 128 #[.bool neg,v] w fun e w'=>e=.returned (.string ⟨(zi3 neg n).toArray⟩)∧Gr w w':=by
 obtain ⟨ao,len,cap,rfl,h1,h2,h3,h4⟩:=h
 exact zR3 neg ao len cap n w h2 h1 h3 h4
theorem zI6 {k:Nat} (neg:Bool) {n:Nat} {v:Value} {w:World} (h:TenS w v (n:Int)) (hn:n<2 ^ k) (hk:k≤800000):
  Calls Tryz.prog 128 #[.bool neg,v] w fun e w'=>e=.returned (.string ⟨(zi3 neg n).toArray⟩)∧Gr w w':=by
 obtain ⟨ao,len,cap,rfl,h1,h2,h3,h4⟩:=h.len hn
 exact zR3 neg ao len cap n w (by omega) h1 h2.top h3
theorem zf4 {n:Nat} {z:Int} {neg:Bool} (h:neg=true∧z=-(n:Int)∨neg=false∧z=n):zi3 neg n=Lib.itoa z:=by
 rw [yn6]
 rcases h with ⟨rfl,rfl⟩ | ⟨rfl,rfl⟩
 ·rfl
 ·rfl
theorem zu0 {P:Program} {a:Act} {o:Oper} {w:World} (t t2:TypeId) (x y:Operand) (A B:List UInt8) (hop:o.op=.binOp .eql t x y t2) (hx:a.eval x=.string ⟨A.toArray⟩) (hy:a.eval y=.string ⟨B.toArray⟩):RunV P a o w (.bool (A==B)):=by
 unfold RunV execOp
 simp only [hop,hx,hy]
 simp [go_sem,eqGuard,ByteArray.toList_eq]
theorem rv_sne {P:Program} {a:Act} {o:Oper} {w:World} (t t2:TypeId) (x y:Operand) (A B:List UInt8) (hop:o.op=.binOp .neq t x y t2) (hx:a.eval x=.string ⟨A.toArray⟩) (hy:a.eval y=.string ⟨B.toArray⟩):RunV P a o w (.bool (A !=B)):=by
 unfold RunV execOp
 simp only [hop,hx,hy]
 simp [go_sem,eqGuard,ByteArray.toList_eq,bne]
theorem text_neg (z:Int):zi3 (decide (0<sgn z)) z.natAbs=Lib.itoa (-z):=by
 apply zf4
 unfold sgn
 by_cases h:z<0
 ·right;simp [h];omega
 ·by_cases h0:z=0
  ·right;simp [h0]
  ·left;simp [h,h0];omega
theorem zI7 {z:Int}:decide (sgn z<0)=decide (z<0):=by
 unfold sgn
 by_cases h:z<0
 ·simp [h]
 ·by_cases h0:z=0<;>simp [h,h0]
theorem sgn_ge {z:Int}:decide (0≤sgn z)=decide (0≤z):=by
 unfold sgn
 by_cases h:z<0
 ·simp [h]
 ·by_cases h0:z=0<;>simp [h,h0]<;>omega
theorem zR5 {z u:Int} {N:Nat} (h:(u<0→z=-(N:Int))∧(¬ u<0→z=N)):zi3 (decide (sgn u<0)) N=Lib.itoa z:=by
 rw [zI7]
 apply zf4
 by_cases hu:u<0
 ·exact .inl ⟨by simpa using hu,h.1 hu⟩
 ·exact .inr ⟨by simpa using hu,h.2 hu⟩
theorem zm5 (z:Int):z<0∧sgn z=-1∨z=0∧sgn z=0∨0<z∧sgn z=1:=by
 unfold sgn
 by_cases h:z<0
 ·left;simp [h]
 ·by_cases h0:z=0
  ·right;left;simp [h0]
  ·right;right;simp [h,h0];omega
theorem zW7 (a b:Int) (i:Nat):zL3 a i*b+td a i*b*10 ^ i=zL3 a (i+1)*b:=by rw [yD3];grind
theorem sgn_mul (x y:Int):decide (sgn x*sgn y<0)=decide (x<0∧0<y∨0<x∧y<0):=by
 rcases zm5 x with ⟨h1,e1⟩ | ⟨h1,e1⟩ | ⟨h1,e1⟩<;>rcases zm5 y with ⟨h2,e2⟩ | ⟨h2,e2⟩ | ⟨h2,e2⟩<;>rw [e1,e2]<;>rw [Bool.eq_iff_iff]<;>simp<;>omega
theorem yn8 (x y:Int):-1≤sgn x*sgn y∧sgn x*sgn y≤1:=by
 rcases zm5 x with ⟨h1,e1⟩ | ⟨h1,e1⟩ | ⟨h1,e1⟩<;>rcases zm5 y with ⟨h2,e2⟩ | ⟨h2,e2⟩ | ⟨h2,e2⟩<;>rw [e1,e2]<;>decide
theorem text_mul (x y:Int):zi3 (decide (sgn x*sgn y<0)) (x.natAbs*y.natAbs)=Lib.itoa (x*y):=by
 apply zf4
 rw [sgn_mul]
 rcases Int.natAbs_eq x with hx | hx<;>rcases Int.natAbs_eq y with hy | hy
 ·right
  refine ⟨by simp;omega,?_⟩
  rw [Int.natCast_mul]
  conv=>lhs;rw [hx,hy]
 ·by_cases h0:0<x∧y<0
  ·left
   refine ⟨by simp;omega,?_⟩
   rw [Int.natCast_mul]
   conv=>lhs;rw [hx,hy]
   rw [Int.mul_neg]
  ·right
   refine ⟨by simp;omega,?_⟩
   rcases (show x=0∨y=0 by omega) with h | h<;>subst h<;>simp
 ·by_cases h0:x<0∧0<y
  ·left
   refine ⟨by simp;omega,?_⟩
   rw [Int.natCast_mul]
   conv=>lhs;rw [hx,hy]
   rw [Int.neg_mul]
  ·right
   refine ⟨by simp;omega,?_⟩
   rcases (show x=0∨y=0 by omega) with h | h<;>subst h<;>simp
 ·right
  refine ⟨by simp;omega,?_⟩
  rw [Int.natCast_mul]
  conv=>lhs;rw [hx,hy]
  rw [Int.neg_mul_neg]
set_option maxRecDepth 100000 in
set_option maxHeartbeats 4000000 in
theorem zI8 {k m:Nat} (x y:Int) (hx:Sz k x) (hy:Sz m y) (hk:k+m≤700000) (w:World):
  Calls Tryz.prog 101 #[.string ⟨(Lib.itoa x).toArray⟩,.string ⟨(Lib.itoa y).toArray⟩] w fun e w'=>e=.returned (.string ⟨(Lib.itoa (x*y)).toArray⟩)∧Gr w w':=by
 have hfin:=text_mul x y
 have HFin:=Lib.hid hfin
 clear hfin
 go_enter Tryz.func101,Tryz.ntmps101
 go_wp2_with fail
 refine (ze4 x hx (by omega) _).mono ?_
 rintro e w1 ⟨⟨v1,rfl,au⟩,g1⟩
 obtain ⟨ao,la,ca,rfl,c1,n1,r1,l1⟩:=au.len hx
 go_wp2_with fail
 refine (ze4 y hy (by omega) _).mono ?_
 rintro e w2 ⟨⟨v2,rfl,aq⟩,g2⟩
 obtain ⟨bo,lb,cb,rfl,c2,n2,r2,l2⟩:=aq.len hy
 have r1:=r1.gr g2
 have ay:=g1.trans g2
 clear au aq
 obtain ⟨a,ha⟩:∃ a:Int,a=(x.natAbs:Int):=⟨_,rfl⟩
 obtain ⟨b,hb⟩:∃ b:Int,b=(y.natAbs:Int):=⟨_,rfl⟩
 rw [← ha] at n1 r1
 rw [← hb] at n2 r2
 have HA:=Lib.hid ha
 have HB:=Lib.hid hb
 clear ha hb
 go_wp2_with (at_make;refine zD4 _ rfl _ _ rfl _ _ (la+lb+1) rfl rfl (by omega) (by omega) (by omega) ?_)
 intro w3 hO aA hsz
 have ap:=hO
 clear hO hsz
 go_wp2
 go_loopw [8] (fun i wr=>∃ (k:Nat) (d:Nat→Int),k≤la∧i=.int .i64 k∧DOwn wr w2.heap.size (la+lb+1) d∧Below w2.heap.size w2 wr∧Hid (∀ j,j<la+lb+1→d j=td (zL3 a k*b) j)∧Hid (tn (zL3 a k*b) (k+lb)=0)) (fun i _=>la - (intOf i).toNat)
 case atStart=>exact ⟨0,_,Nat.zero_le _,rfl,ap,aA,fun j _=>by rw [zZ4,Int.zero_mul];unfold td;rw [zs2];rfl,by rw [Hid,zZ4,Int.zero_mul,zs2]⟩
 case round=>
  obtain ⟨k,d,hk,rfl,hO,hB,hd,htop⟩:=hrel
  by_cases hlt:k<la
  ·have x0:=zd2 a k
   have x1:=zt9 a k
   go_wp2
   obtain ⟨wo,hwo⟩:∃ wo:World,wo=wr:=⟨_,rfl⟩
   subst hwo
   go_loopw [9,10] (fun c i wr=>∃ (j:Nat) (cr:Int) (e:Nat→Int),j≤lb+1∧i=.int .i64 j∧c=.int .i64 cr∧0≤cr∧cr<10∧DOwn wr w2.heap.size (la+lb+1) e∧Below w2.heap.size w2 wr∧
    Hid ((j=lb+1→cr=0)∧tn (zL3 a k*b+td a k*b*10 ^ k) (k+j)=tn (zL3 a k*b) (k+j)+td a k*tn b j+cr)∧
    Hid (∀ i,i<la+lb+1→e i=if i<k+j then td (zL3 a k*b+td a k*b*10 ^ k) i else td (zL3 a k*b) i)) (fun _ i _=>lb+1 - (intOf i).toNat)
   case atStart=>
    refine ⟨0,0,d,Nat.zero_le _,rfl,rfl,by omega,by omega,hO,hB,⟨by omega,?_⟩,fun i hi=>?_⟩
    ·rw [Nat.add_zero,zK8,zg9];omega
    ·rw [hd.out i hi,Nat.add_zero]
     split
     ·rw [yD2 _ _ (by assumption)]
     ·rfl
   case round=>
    obtain ⟨j,cr,e,hj,rfl,rfl,az,av,ab,af,hz,he⟩:=hrel
    have hs:=yD4 hz.out.2 az av x0 x1
    have HS:=Lib.hid hs
    have ah:j=lb+1→cr=0:=hz.out.1
    by_cases hlt2:j<lb
    ·obtain ⟨b1,aw,rfl,ae⟩:=(r1.below af).at_ (by omega)
     have ai:=ae k hlt
     obtain ⟨b2,aB,rfl,ad⟩:=(r2.below af).at_ (by omega)
     have al:=ad j hlt2
     have y0:=zd2 b j
     have y1:=zt9 b j
     have z0:=hs.2.2.2.2.1
     have z1:=hs.2.2.2.2.2
     clear ae ad hs
     have aa:=ab.cell (k+j) (by omega)
     have hfree:=ab.free (k+j)
     have e1:=he.out (k+j) (by omega)
     rw [if_neg (by omega)] at e1
     rw [e1] at aa
     have t0:=zd2 (zL3 a k*b) (k+j)
     have t1:=zt9 (zL3 a k*b) (k+j)
     clear e1 ah
     have i0:(0:Int)≤(k:Int):=by omega
     have i1:(k:Int)<(la:Int):=by omega
     have i2:(0:Int)≤(j:Int):=by omega
     have i3:(j:Int)<(lb:Int):=by omega
     go_wp2
     go_quiet (fail)
     go_wp2
     have hs:=HS.out
     have e2:td (zL3 a k*b) (k+j)+cr+td a k*td b j=cr+(td a k*td b j+td (zL3 a k*b) (k+j)):=by omega
     go_roundw
     case rel=>
      refine ⟨j+1,(cr+(td a k*td b j+td (zL3 a k*b) (k+j)))/10,_,by omega,by go_num,by rw [e2],hs.2.2.1,hs.2.2.2.1,(ab.gr ((Below.refl _ _).drewN _)).set (by omega) _,(af.drewN _).setCell (Nat.le_refl _) _,⟨fun h=>by omega,hs.2.1⟩,fun i hi=>?_⟩
      by_cases e1:i=k+j
      ·subst e1;rw [zb5,if_pos (by omega),hs.1,e2]
      ·rw [za7 _ _ e1,he.out i hi]
       by_cases e2:i<k+j
       ·rw [if_pos e2,if_pos (by omega)]
       ·rw [if_neg e2,if_neg (by omega)]
     case measure=>simp [intOf];omega
    ·have ak:tn b j=0:=zB4 n2.top (by omega)
     have TB:=Lib.hid ak
     by_cases hcr:0<cr
     ·have hjl:j=lb:=by
       rcases Nat.lt_or_ge j (lb+1) with h | h
       ·omega
       ·have:=ah (by omega);omega
      have aj:td (zL3 a k*b) (k+j)=0:=zt3 htop.out (by omega)
      have ar:td b j=0:=zt3 n2.top (by omega)
      rw [ar,aj,Int.mul_zero,Int.add_zero,Int.add_zero] at hs
      have HS:=Lib.hid hs
      have aa:=ab.cell (k+j) (by omega)
      have hfree:=ab.free (k+j)
      have e1:=he.out (k+j) (by omega)
      rw [if_neg (by omega),aj] at e1
      rw [e1] at aa
      have HJ:=Lib.hid hjl
      have hkj:k+j<la+lb+1:=by omega
      have hjb:j+1≤lb+1:=by omega
      clear e1 ah ak aj ar hs hjl
      go_wp2
      have hs:=HS.out
      go_roundw
      case rel=>
       refine ⟨j+1,cr/10,_,hjb,by go_num,by simp,hs.2.2.1,hs.2.2.2.1,ab.set hkj _,af.setCell (Nat.le_refl _) _,⟨fun h=>by omega,hs.2.1⟩,fun i hi=>?_⟩
       by_cases e1:i=k+j
       ·subst e1;rw [zb5,if_pos (by omega),hs.1]
       ·rw [za7 _ _ e1,he.out i hi]
        by_cases e2:i<k+j
        ·rw [if_pos e2,if_pos (by omega)]
        ·rw [if_neg e2,if_neg (by omega)]
      case measure=>simp [intOf];omega
     ·have ac:cr=0:=by omega
      have HC:=Lib.hid ac
      have hjl:lb≤j:=by omega
      clear ah ak hs ac
      go_wp2
      have hR:tn (zL3 a (k+1)*b) (k+j)=0:=by
       have h1:=hz.out.2
       have h2:=zB4 htop.out (show k+lb≤k+j by omega)
       rw [TB.out,HC.out,h2,Int.mul_zero,zW7] at h1
       omega
      go_roundw
      case rel=>
       refine ⟨k+1,_,by omega,by go_num,ab,af,fun i hi=>?_,zB4 hR (by omega)⟩
       rw [he.out i hi]
       by_cases e2:i<k+j
       ·rw [if_pos e2,zW7]
       ·rw [if_neg e2,zt3 htop.out (by omega),zt3 hR (by omega)]
      case measure=>simp [intOf];omega
  ·obtain rfl:k=la:=by omega
   have hlow:=tlow_top n1.top
   have hO':=hO.congr hd.out
   have htop':=htop.out
   rw [hlow] at hO' htop'
   have hab:a*b=((x.natAbs*y.natAbs:Nat):Int):=by rw [HA.out,HB.out,Int.natCast_mul]
   rw [hab] at hO' htop'
   have ax:Gr w2 wr:=hB
   have hZ:TenZ wr (.slice (some ⟨w2.heap.size,0,none⟩) (k+lb+1) (k+lb+1)) ((x.natAbs*y.natAbs:Nat):Int):=⟨_,_,_,rfl,Nat.le_refl _,by omega,zB4 htop' (by omega),hO'.row⟩
   clear hab hlow htop' hO' hd htop hO ap
   obtain ⟨aC,aD⟩:=yn8 x y
   go_wp2_with fail
   refine (zf1 x _).mono ?_
   rintro e w4 ⟨rfl,g4⟩
   go_wp2_with fail
   refine (zf1 y _).mono ?_
   rintro e w5 ⟨rfl,g5⟩
   go_wp2_with fail
   (with_reducible refine (zI5 (decide (sgn x*sgn y<0)) ((hZ.gr g4).gr g5)).mono ?_)
   rintro e w6 ⟨rfl,g6⟩
   go_wp2
   go_ret
   refine ⟨?_,(((ay.trans ax).trans g4).trans g5).trans g6⟩
   rw [HFin.out];rfl
set_option maxRecDepth 100000 in
set_option maxHeartbeats 1000000 in
theorem yg9 {k:Nat} (x:Int) (hx:Sz k x) (_hk:k≤700000) (w:World):
    Calls Tryz.prog 125 #[(.string ⟨(Lib.itoa (x):List UInt8).toArray⟩)] w fun e w'=>e=.returned (.string ⟨(Lib.itoa (-x)).toArray⟩)∧Gr w w':=by
 go_enter Tryz.func125,Tryz.ntmps125
 have hB:=Gr.refl w
 refine wp_seq_k (fun K1 k1=>?_)
 refine rg [0] ?_
 refine sv 2 (.string ⟨([]:List UInt8).toArray⟩) ?_
 refine za0 ?_
 refine k1 _ _ ?_
 try clear k1 K1
 refine wp_seq_k (fun K2 k2=>?_)
 refine rg [0,1,2,3,4,5,6] ?_
 refine sv 3 (.string ⟨(Lib.itoa (x):List UInt8).toArray⟩) ?_
 refine se ?_
 refine ec 4 (zf1 (x) _) ?_
 rintro e3 w3 ⟨rfl,g3⟩
 refine ⟨_,rfl,?_⟩
 replace hB:=hB.trans g3
 simp only [p3,p4]
 refine sv 5 (.bool (decide ((0:Int)<sgn (x)))) ?_
 refine sv 6 (.string ⟨(Lib.itoa (x):List UInt8).toArray⟩) ?_
 refine se ?_
 refine ec 7 (ze4 (x) hx (by omega) _) ?_
 rintro e4 w4 ⟨⟨v4,rfl,h4⟩,g4⟩
 refine ⟨_,rfl,?_⟩
 replace hB:=hB.trans g4
 simp only [p3,p4]
 refine se ?_
 refine ec 8 (zI6 (decide ((0:Int)<sgn (x))) h4 hx (by omega)) ?_
 rintro e5 w5 ⟨rfl,g5⟩
 refine ⟨_,rfl,?_⟩
 replace hB:=hB.trans g5
 simp only [p3,p4]
 refine sv 2 (.string ⟨(zi3 (decide ((0:Int)<sgn (x))) ((x).natAbs):List UInt8).toArray⟩) ?_
 refine za0 ?_
 refine k2 _ _ ?_
 try clear k2 K2
 refine wp_ret ?_
 refine bodyPost_ret (v:=(.string ⟨(zi3 (decide ((0:Int)<sgn (x))) ((x).natAbs):List UInt8).toArray⟩)) (zb0 rfl rfl) rfl ⟨?_,hB⟩
 exact (by rw [text_neg])

set_option maxRecDepth 100000 in
set_option maxHeartbeats 4000000 in
theorem ys8 {k m:Nat} (x y:Int) (hx:Sz k x) (hy:Sz m y) (_hk:k+m≤700000) (w:World):
    Calls Tryz.prog 131 #[(.string ⟨(Lib.itoa (x):List UInt8).toArray⟩),(.string ⟨(Lib.itoa (y):List UInt8).toArray⟩)] w fun e w'=>e=.returned (.string ⟨(Lib.itoa (x+y)).toArray⟩)∧Gr w w':=by
 go_enter Tryz.func131,Tryz.ntmps131
 have hB:=Gr.refl w
 refine wp_seq_k (fun K1 k1=>?_)
 refine rg [0] ?_
 refine sv 4 (.string ⟨([]:List UInt8).toArray⟩) ?_
 refine za0 ?_
 refine k1 _ _ ?_
 try clear k1 K1
 refine wp_seq_k (fun K2 k2=>?_)
 refine rg [0,1,2,3,4,5] ?_
 refine sv 7 (.string ⟨(Lib.itoa (x):List UInt8).toArray⟩) ?_
 refine se ?_
 refine ec 8 (ze4 (x) hx (by omega) _) ?_
 rintro e3 w3 ⟨⟨v3,rfl,h3⟩,g3⟩
 refine ⟨_,rfl,?_⟩
 replace hB:=hB.trans g3
 simp only [p3,p4]
 refine sv 9 (.string ⟨(Lib.itoa (y):List UInt8).toArray⟩) ?_
 refine se ?_
 refine ec 10 (ze4 (y) hy (by omega) _) ?_
 rintro e4 w4 ⟨⟨v4,rfl,h4⟩,g4⟩
 refine ⟨_,rfl,?_⟩
 replace hB:=hB.trans g4
 simp only [p3,p4]
 refine sv 5 v3 ?_
 refine sv 6 v4 ?_
 refine za0 ?_
 refine k2 _ _ ?_
 try clear k2 K2
 refine wp_seq_k (fun K5 k5=>?_)
 refine wp_seq_k (fun K6 k6=>?_)
 refine rg [0,1,2,3,4,5,6] ?_
 refine sv 11 (.string ⟨(Lib.itoa (x):List UInt8).toArray⟩) ?_
 refine se ?_
 refine ec 12 (zf1 (x) _) ?_
 rintro e7 w7 ⟨rfl,g7⟩
 refine ⟨_,rfl,?_⟩
 replace hB:=hB.trans g7
 simp only [p3,p4]
 refine sv 13 (.bool (decide (sgn (x)<(0:Int)))) ?_
 refine sv 14 (.string ⟨(Lib.itoa (y):List UInt8).toArray⟩) ?_
 refine se ?_
 refine ec 15 (zf1 (y) _) ?_
 rintro e8 w8 ⟨rfl,g8⟩
 refine ⟨_,rfl,?_⟩
 replace hB:=hB.trans g8
 simp only [p3,p4]
 refine sv 16 (.bool (decide (sgn (y)<(0:Int)))) ?_
 refine sv 17 (.bool (((decide (sgn (x)<(0:Int)))==(decide (sgn (y)<(0:Int)))))) ?_
 refine za0 ?_
 refine k6 _ _ ?_
 try clear k6 K6
 refine wp_cond_split (t:=((decide (sgn (x)<(0:Int)))==(decide (sgn (y)<(0:Int))))) rfl (fun ac=>?_) (fun ac=>?_)
 ·have av:(x<0↔y<0):=by rw [zI7,zI7] at ac;simpa using ac
  refine wp_seq_k (fun aC ap=>?_)
  refine rg [0,1,2,3,4,5,6,7] ?_
  refine sv 18 (.string ⟨(Lib.itoa (x):List UInt8).toArray⟩) ?_
  refine se ?_
  refine ec 19 (zf1 (x) _) ?_
  rintro e11 aV ⟨rfl,ah⟩
  refine ⟨_,rfl,?_⟩
  replace hB:=hB.trans ah
  simp only [p3,p4]
  refine sv 20 (.bool (decide (sgn (x)<(0:Int)))) ?_
  refine sv 21 v3 ?_
  refine sv 22 v4 ?_
  refine se ?_
  replace h3:=h3.gr (g4.trans (g7.trans (g8.trans ah)))
  replace h4:=h4.gr (g7.trans (g8.trans ah))
  refine ec 23 (yx0 h3 h4 hx hy (by omega)) ?_
  rintro e12 aK ⟨⟨aS,rfl,aq⟩,az⟩
  refine ⟨_,rfl,?_⟩
  replace hB:=hB.trans az
  simp only [p3,p4]
  refine se ?_
  refine ec 24 (zI5 (decide (sgn (x)<(0:Int))) aq) ?_
  rintro e13 aJ ⟨rfl,ay⟩
  refine ⟨_,rfl,?_⟩
  replace hB:=hB.trans ay
  simp only [p3,p4]
  refine sv 4 (.string ⟨(zi3 (decide (sgn (x)<(0:Int))) (((x).natAbs+(y).natAbs)):List UInt8).toArray⟩) ?_
  refine za0 ?_
  refine ap _ _ ?_
  try clear ap aC
  refine wp_ret ?_
  simp only [Exit.then]
  refine bodyPost_ret (v:=(.string ⟨(zi3 (decide (sgn (x)<(0:Int))) (((x).natAbs+(y).natAbs)):List UInt8).toArray⟩)) (zb0 rfl rfl) rfl ⟨?_,hB⟩
  exact (by rw [zR5 (z:=x+y) (by omega)])
 ·have av:¬ (x<0↔y<0):=by rw [zI7,zI7] at ac;simpa using ac
  refine wp_skip ?_
  refine k5 _ _ ?_
  try clear k5 K5
  refine wp_seq_k (fun aG ai=>?_)
  refine wp_seq_k (fun ar ak=>?_)
  refine rg [0,1,2,3] ?_
  refine sv 25 v3 ?_
  refine sv 26 v4 ?_
  refine se ?_
  replace h3:=h3.gr (g4.trans (g7.trans g8))
  replace h4:=h4.gr (g7.trans g8)
  refine ec 27 (zN7 h3 h4 hx hy (by omega)) ?_
  rintro aX aH ⟨rfl,ab⟩
  refine ⟨_,rfl,?_⟩
  replace hB:=hB.trans ab
  simp only [p3,p4]
  refine sv 28 (.bool (decide ((0:Int)≤sgn (((x).natAbs:Int) - ((y).natAbs:Int))))) ?_
  refine za0 ?_
  refine ak _ _ ?_
  try clear ak ar
  refine wp_cond_split (t:=decide ((0:Int)≤sgn (((x).natAbs:Int) - ((y).natAbs:Int)))) rfl (fun aa=>?_) (fun aa=>?_)
  ·have ae:y.natAbs≤x.natAbs:=by rw [sgn_ge] at aa;have:=of_decide_eq_true aa;omega
   refine wp_seq_k (fun au al=>?_)
   refine rg [0,1,2,3,4,5,6,7] ?_
   refine sv 29 (.string ⟨(Lib.itoa (x):List UInt8).toArray⟩) ?_
   refine se ?_
   refine ec 30 (zf1 (x) _) ?_
   rintro aO aY ⟨rfl,ad⟩
   refine ⟨_,rfl,?_⟩
   replace hB:=hB.trans ad
   simp only [p3,p4]
   refine sv 31 (.bool (decide (sgn (x)<(0:Int)))) ?_
   refine sv 32 v3 ?_
   refine sv 33 v4 ?_
   refine se ?_
   replace h3:=h3.gr (ab.trans ad)
   replace h4:=h4.gr (ab.trans ad)
   refine ec 34 (zN8 h3 h4 hx (by omega) (by omega)) ?_
   rintro aI aW ⟨⟨aT,rfl,aF⟩,aD⟩
   refine ⟨_,rfl,?_⟩
   replace hB:=hB.trans aD
   simp only [p3,p4]
   refine se ?_
   refine ec 35 (zI6 (decide (sgn (x)<(0:Int))) aF (Nat.lt_of_le_of_lt (Nat.sub_le _ _) hx) (by omega)) ?_
   rintro e21 aL ⟨rfl,aE⟩
   refine ⟨_,rfl,?_⟩
   replace hB:=hB.trans aE
   simp only [p3,p4]
   refine sv 4 (.string ⟨(zi3 (decide (sgn (x)<(0:Int))) (((x).natAbs - (y).natAbs)):List UInt8).toArray⟩) ?_
   refine za0 ?_
   refine al _ _ ?_
   try clear al au
   refine wp_ret ?_
   simp only [Exit.then]
   refine bodyPost_ret (v:=(.string ⟨(zi3 (decide (sgn (x)<(0:Int))) (((x).natAbs - (y).natAbs)):List UInt8).toArray⟩)) (zb0 rfl rfl) rfl ⟨?_,hB⟩
   exact (by rw [zR5 (z:=x+y) (by omega)])
  ·have ae:x.natAbs≤y.natAbs:=by rw [sgn_ge] at aa;have:=of_decide_eq_false aa;omega
   refine wp_skip ?_
   refine ai _ _ ?_
   try clear ai aG
   refine wp_seq_k (fun ax aj=>?_)
   refine rg [0,1,2,3,4,5,6,7] ?_
   refine sv 36 (.string ⟨(Lib.itoa (y):List UInt8).toArray⟩) ?_
   refine se ?_
   refine ec 37 (zf1 (y) _) ?_
   rintro e23 aQ ⟨rfl,af⟩
   refine ⟨_,rfl,?_⟩
   replace hB:=hB.trans af
   simp only [p3,p4]
   refine sv 38 (.bool (decide (sgn (y)<(0:Int)))) ?_
   refine sv 39 v4 ?_
   refine sv 40 v3 ?_
   refine se ?_
   replace h4:=h4.gr (ab.trans af)
   replace h3:=h3.gr (ab.trans af)
   refine ec 41 (zN8 h4 h3 hy (by omega) (by omega)) ?_
   rintro aM aR ⟨⟨aN,rfl,aB⟩,aw⟩
   refine ⟨_,rfl,?_⟩
   replace hB:=hB.trans aw
   simp only [p3,p4]
   refine se ?_
   refine ec 42 (zI6 (decide (sgn (y)<(0:Int))) aB (Nat.lt_of_le_of_lt (Nat.sub_le _ _) hy) (by omega)) ?_
   rintro aU aP ⟨rfl,aA⟩
   refine ⟨_,rfl,?_⟩
   replace hB:=hB.trans aA
   simp only [p3,p4]
   refine sv 4 (.string ⟨(zi3 (decide (sgn (y)<(0:Int))) (((y).natAbs - (x).natAbs)):List UInt8).toArray⟩) ?_
   refine za0 ?_
   refine aj _ _ ?_
   try clear aj ax
   refine wp_ret ?_
   refine bodyPost_ret (v:=(.string ⟨(zi3 (decide (sgn (y)<(0:Int))) (((y).natAbs - (x).natAbs)):List UInt8).toArray⟩)) (zb0 rfl rfl) rfl ⟨?_,hB⟩
   exact (by rw [zR5 (z:=x+y) (by omega)])

set_option maxRecDepth 100000 in
set_option maxHeartbeats 1000000 in
theorem r1_sub {k m:Nat} (x y:Int) (hx:Sz k x) (hy:Sz m y) (_hk:k+m≤700000) (w:World):
    Calls Tryz.prog 149 #[(.string ⟨(Lib.itoa (x):List UInt8).toArray⟩),(.string ⟨(Lib.itoa (y):List UInt8).toArray⟩)] w fun e w'=>e=.returned (.string ⟨(Lib.itoa (x - y)).toArray⟩)∧Gr w w':=by
 go_enter Tryz.func149,Tryz.ntmps149
 have hB:=Gr.refl w
 refine wp_seq_k (fun K1 k1=>?_)
 refine rg [0] ?_
 refine sv 4 (.string ⟨([]:List UInt8).toArray⟩) ?_
 refine za0 ?_
 refine k1 _ _ ?_
 try clear k1 K1
 refine wp_seq_k (fun K2 k2=>?_)
 refine rg [0,1,2,3,4] ?_
 refine sv 5 (.string ⟨(Lib.itoa (x):List UInt8).toArray⟩) ?_
 refine sv 6 (.string ⟨(Lib.itoa (y):List UInt8).toArray⟩) ?_
 refine se ?_
 refine ec 7 (yg9 (y) hy (by omega) _) ?_
 rintro e3 w3 ⟨rfl,g3⟩
 refine ⟨_,rfl,?_⟩
 replace hB:=hB.trans g3
 simp only [p3,p4]
 refine se ?_
 refine ec 8 (ys8 (x) ((-y)) hx hy.neg (by omega) _) ?_
 rintro e4 w4 ⟨rfl,g4⟩
 refine ⟨_,rfl,?_⟩
 replace hB:=hB.trans g4
 simp only [p3,p4]
 refine sv 4 (.string ⟨(Lib.itoa ((x+(-y))):List UInt8).toArray⟩) ?_
 refine za0 ?_
 refine k2 _ _ ?_
 try clear k2 K2
 refine wp_ret ?_
 refine bodyPost_ret (v:=(.string ⟨(Lib.itoa ((x+(-y))):List UInt8).toArray⟩)) (zb0 rfl rfl) rfl ⟨?_,hB⟩
 exact (by rw [Int.sub_eq_add_neg])

theorem yc7 {P:Program} {ops:Array Oper} {rest:List Oper} {o:Oper} {a:Act} {w:World} {Q:Exit→Act→World→Prop} (hgd:o.guard=none) (s x:Operand) (t:TypeId)
  (ho:o.op=.call {callee:=.builtin .append,args:=#[s,x],argTypes:=#[t,t]}) (B:Nat) (v:Value) (ys:List Value) (hs:a.eval s=v) (hown:OwnS w 3 B v ys)
  (ao:Option Addr) (len cap:Nat) (d:Nat→Int) (hx:a.eval x=.slice ao len cap) (hr:DRow w ao len d) (hn:ys.length+len≤1000000)
  (ht:P.underlying t=some (.slice 3)) (hi:(P.info? 3).map (fun i=>(i.zero,i.size,i.bytes))=some (some (.int .i64 0),1,8)) (hBw:B≤w.heap.size)
  (h:∀ v' w',OwnS w' 3 B v' (ys++zk1 .i64 len d)→Below B w w'→wpList P ops Q rest (a.put o.dst v') w'):wpList P ops Q (o::rest) a w:=by
 obtain ⟨i,hi,hz,hsize,hby⟩:=info_parts hi
 have hfin:∀ v' w',w'.ownsRow B 3 1 v' (ys.length+len) (ys++zk1 .i64 len d)→w.grownBy w' v.ownBlock→wpList P ops Q rest (a.put o.dst v') w':=by
  intro v' w' h2 hg
  have hnew:∀ k,v.ownBlock=some k→B≤k:=by
   intro k hk
   rcases hown.2 with ⟨rfl,_⟩ | ⟨g,cap,cur,rfl,hb,hgg,_⟩
   ·simp [Value.ownBlock] at hk
   ·simp [Value.ownBlock] at hk
    subst hk;exact hb
  refine h v' w' ?_ ⟨hg.os,hg.tape,hg.output,hg.size,fun k hk=>hg.block k (by omega) (fun e=>?_)⟩
  ·unfold OwnS;simpa [zb2] using h2
  ·have:=hnew k e.symm;omega
 have hone:∀ u ∈ zk1 .i64 len d,u.oneCell'=true:=fun u hu=>by
  simp only [zk1,List.mem_map] at hu
  obtain ⟨_,_,rfl⟩:=hu;rfl
 cases ao with
 | none=>
  have h0:len=0:=by
   rcases Nat.eq_zero_or_pos len with e | e
   ·exact e
   ·obtain ⟨b,off,e',_⟩:=hr.at_ e;cases e'
  subst h0
  refine wpList_plain hgd fun K hK=>?_
  have hrun:∀ ty,(Builtin.append_ #[t,t] ty #[v,.slice none 0 cap]).run P w=.ok v w:=fun ty=>by
   have aa:=hown.2
   rcases aa with ⟨rfl,h1⟩ | ⟨g,c1,c2,rfl,_,_,h1,_⟩
   ·simp [Builtin.append_,Builtin.firstCells,Builtin.lenOf,run_underlying ht,sizeOf,typeInfo,hi]
   ·simp [Builtin.append_,Builtin.firstCells,Builtin.lenOf,run_underlying ht,sizeOf,typeInfo,hi,storeCells,h1]
  unfold Oper.wp
  simp [execOp,ho,resolve,invoke,builtin,hs,hx,hrun,Result.andThen]
  exact hK _ _ (hfin v w (show w.ownsRow B 3 1 v (ys.length+0) (ys++[]) by rw [Nat.add_zero,List.append_nil];exact hown) (World.grownBy.refl w _))
 | some ad=>
  refine wpList_append_own w hgd s x t ho B 3 i _ 1 8 ht hi hz hsize hby rfl (by omega) v ys.length ys hs hown ad len cap (zk1 .i64 len d) hx (by simp [zb2]) (fun j u hj=>?_) hone (by unfold maxLen;omega) (by omega) hBw (fun v' w' h2 hg _=>hfin v' w' h2 hg)
  have hj':j<len:=by have:=(List.getElem?_eq_some_iff.1 hj).1;simpa [zb2] using this
  obtain ⟨b,off,e,hc⟩:=hr.at_ (by omega)
  obtain rfl:=Option.some.inj e
  rw [zZ5 _ _ hj'] at hj
  obtain rfl:=Option.some.inj hj
  have e0:(⟨b,off,none⟩:Addr).add j=⟨b,off+j,none⟩:=by
   unfold Addr.add
   by_cases h0:j=0<;>simp [h0]
  rw [e0];exact hc j hj'
theorem own_lit (w:World) (T:TypeId) (u:Value):OwnS (w.alloc (.cells #[u] T)) T w.heap.size (.slice (some ⟨w.heap.size,0,none⟩) 1 1) [u]:=
 ⟨rfl,.inr ⟨w.heap.size,1,#[u],rfl,Nat.le_refl _,heap_alloc_new _ _,Nat.le_refl _,by unfold maxLen;omega,rfl,rfl⟩⟩
theorem yn9 (N d:Int) (h0:0≤d) (h1:d<10) (len:Nat):Value.int .i64 d::zk1 .i64 len (td N)=zk1 .i64 (len+1) (td (N*10+d)):=by
 have e:∀ i,td (N*10+d) (i+1)=td N i:=fun i=>by
  rw [← yk9];congr 1;omega
 unfold zk1
 rw [List.range_succ_eq_map,List.map_cons,List.map_map]
 show _=Value.int .i64 (td (N*10+d) 0)::_
 have e0:td (N*10+d) 0=d:=by unfold td;rw [zg9];omega
 rw [e0]
 congr 1
 exact List.map_congr_left fun i _=>by simp only [Function.comp_apply,e]
theorem tn_cons (N d:Int) (h0:0≤d) (h1:d<10) (len:Nat):tn (N*10+d) (len+1)=tn N len:=by
 rw [← zt4];congr 1;omega
theorem zc1 {v:Int} (z:Int) (h:sgn z=v) (w:World):
  Calls Tryz.prog 124 #[.string ⟨(Lib.itoa z).toArray⟩] w fun e w'=>e=.returned (.int .i64 v)∧Gr w w':=h ▸ zf1 z w
theorem yo0 {k:Nat} (z:Int) (hz:Sz k z) (hk:k≤600000) (w:World):
  Calls Tryz.prog 149 #[.string ⟨(Lib.itoa z).toArray⟩,.string ⟨#[49]⟩] w fun e w'=>e=.returned (.string ⟨(Lib.itoa (z - 1)).toArray⟩)∧Gr w w':=by
 have:=r1_sub (m:=1) z 1 hz (by unfold Sz;decide) (by omega) w
 rw [itoa_one] at this
 exact this
theorem zi4 {neg:Bool} {n:Nat} {v:Value} {w:World} {L:List UInt8} (h:TenZ w v (n:Int)) (hL:zi3 neg n=L):
  Calls Tryz.prog 128 #[.bool neg,v] w fun e w'=>e=.returned (.string ⟨L.toArray⟩)∧Gr w w':=hL ▸ zI5 neg h
theorem TenS.toZ {k:Nat} {w:World} {v:Value} {n:Nat} (h:TenS w v (n:Int)) (hn:n<2 ^ k) (hk:k≤800000):TenZ w v (n:Int):=by
 obtain ⟨ao,len,cap,h1,h2,h3,h4,h5⟩:=h.len hn
 exact ⟨ao,len,cap,h1,h2,by omega,h3.top,h4⟩
theorem zr2 {z:Int} (h:z≠0):((⟨(Lib.itoa z).toArray⟩:ByteArray).toList==[48])=false:=by
 rw [beq_eq_false_iff_ne,ByteArray.toList_eq]
 exact zr1 h
theorem zu4 {z:Int} (h:z≠0):(Lib.itoa z==[48])=false:=by
 rw [beq_eq_false_iff_ne]
 exact zr1 h
set_option maxRecDepth 100000 in
set_option maxHeartbeats 4000000 in
theorem zr3 {k m:Nat} (x y:Int) (hx:Sz k x) (hy:Sz m y) (af:0<y) (hk:k+m≤300000) (w:World):
  Calls Tryz.prog 126 #[.string ⟨(Lib.itoa x).toArray⟩,.string ⟨(Lib.itoa y).toArray⟩] w fun e w'=>e=.returned (.tuple #[.string ⟨(Lib.itoa (x/y)).toArray⟩,.string ⟨(Lib.itoa (x % y)).toArray⟩])∧Gr w w':=by
 go_enter Tryz.func126,Tryz.ntmps126
 go_wp2_with fail
 refine (ze4 x hx (by omega) _).mono ?_
 rintro e w1 ⟨⟨v1,rfl,aG⟩,g1⟩
 obtain ⟨ao,la,ca,rfl,c1,n1,r1,l1⟩:=aG.len hx
 go_wp2_with fail
 refine (ze4 y hy (by omega) _).mono ?_
 rintro e w2 ⟨⟨v2,rfl,aF⟩,g2⟩
 have r1:=r1.gr g2
 have al:=g1.trans g2
 have aI:=aF
 obtain ⟨bo,lb,cb,rfl,c2,n2,r2,l2⟩:=aF.len hy
 clear aG r2 n2 l2 c2
 obtain ⟨a,ha⟩:∃ a:Nat,a=x.natAbs:=⟨_,rfl⟩
 obtain ⟨b,hb⟩:∃ b:Nat,b=y.natAbs:=⟨_,rfl⟩
 have hax:a<2 ^ k:=by rw [ha];exact hx
 have hbx:b<2 ^ m:=by rw [hb];exact hy
 have aS:0<b:=by omega
 rw [← ha] at n1 r1
 rw [← hb] at aI
 have HA:=Lib.hid ha
 have HB:=Lib.hid hb
 have HX:=Lib.hid (show a<2 ^ k∧b<2 ^ m from ⟨hax,hbx⟩)
 clear ha hb hax hbx
 go_wp2_with (at_make;refine zD4 _ rfl _ _ rfl _ _ la rfl rfl (by omega) (by omega) (by omega) ?_)
 intro w3 hO aY hsz
 have aV:=hO
 clear hO hsz
 go_wp2
 go_loopw [8,10] (fun r i wr=>∃ (j:Nat) (v:Value) (d:Nat→Int),r=v∧i=.int .i64 ((j:Int) - 1)∧j≤la∧Hid (TenS wr v (tn (a:Int) j % (b:Int))∧∀ i,i<la→d i=if j≤i then td ((a:Int)/(b:Int)) i else 0)∧DOwn wr w2.heap.size la d∧Below w2.heap.size w2 wr) (fun _ i _=>(intOf i+1).toNat)
 case atStart=>
  refine ⟨la,_,_,rfl,rfl,Nat.le_refl _,⟨?_,fun i hi=>by rw [if_neg (by omega)]⟩,aV,aY⟩
  rw [n1.top]
  exact ⟨none,0,0,rfl,Nat.le_refl _,NX.zero,DRow.nil _ _ _⟩
 case round=>
  obtain ⟨j,v,d,rfl,rfl,hj,hz,hO,hB⟩:=hrel
  by_cases hp:0<j
  ·obtain ⟨q,rfl⟩:∃ q,j=q+1:=⟨j - 1,by omega⟩
   have e1:(((q+1:Nat):Int) - 1)=(q:Int):=by omega
   simp only [e1]
   clear e1
   obtain ⟨N,hN⟩:∃ N:Int,N=tn (a:Int) (q+1) % (b:Int):=⟨_,rfl⟩
   have a2:0≤N:=by rw [hN];exact Int.emod_nonneg _ (by omega)
   have hNb:N<(b:Int):=by rw [hN];exact Int.emod_lt_of_pos _ (by omega)
   obtain ⟨ac,ab⟩:=hz.out
   rw [← hN] at ac
   obtain ⟨ro,lr,cr,rfl,hcr,nr,rr⟩:=ac
   have a5:lr≤m+1:=by
    obtain ⟨n0,aN⟩:∃ n0:Nat,N=(n0:Int):=⟨N.toNat,by omega⟩
    rw [aN] at nr hNb
    exact nr.len_bits (Nat.lt_trans (by omega) HX.out.2)
   have aM:=Lib.hid ab
   have HN:=Lib.hid hN
   clear hz ab hN
   obtain ⟨b1,aW,rfl,aj⟩:=(r1.below hB).at_ (by omega)
   have aw:=aj q (by omega)
   clear aj
   have d0:=zd2 (a:Int) q
   have d1:=zt9 (a:Int) q
   go_wp2_with (at_builtin;refine yc7 rfl (.tmp 29) (.tmp 30) _ (by rfl) wr.heap.size _ [.int .i64 (td (a:Int) q)] (by rfl) (own_lit _ _ _) ro lr cr (td N) (by rfl) (rr.gr (Gr.alloc _ _)) (by simp;omega) Tryz.underlying175 zf0 (by simp) ?_)
   intro v4 w4 hown aK
   rw [yn9 N _ d0 d1] at hown
   have aE:Gr wr w4:=Below.trans ((Below.refl _ _).alloc (Nat.le_refl _) _) aK
   obtain ⟨N1,av⟩:∃ N1:Int,N1=N*10+td (a:Int) q:=⟨_,rfl⟩
   have aJ:tn N1 (lr+1)=0:=by rw [av,tn_cons _ _ d0 d1,nr.top]
   have ax:0≤N1:=by omega
   have aT:N1<10*(b:Int):=by omega
   rw [← av] at hown
   have aR:=Lib.hid aJ
   have aO:=Lib.hid av
   clear aJ av
   obtain ⟨aL,aq,rfl,ak,_,aa,aA⟩:=hown.drowF
   go_wp2_with fail
   refine (zR2 aL (lr+1) aq N1 _ (by omega) ak ax aR.out aa).mono ?_
   rintro e w5 ⟨⟨k5,rfl,aZ,aQ⟩,rfl⟩
   have aX:TenF w4 (w2.heap.size+1) (.slice aL k5 aq) N1:=⟨_,_,_,rfl,by omega,aQ,aa.shorter aZ,fun ad e=>Nat.le_trans (by have:=hO.lt;omega) (aA ad e)⟩
   have aP:=hO.gr aE
   have aD:Below w2.heap.size w2 w4:=Below.trans hB (Below.mono aE hB.size)
   clear aa hown aK hO rr
   go_wp2
   obtain ⟨wo,hwo⟩:∃ wo:World,wo=w4:=⟨_,rfl⟩
   subst hwo
   go_loopg [8] 10 (fun gk r wr=>∃ (c:Nat) (v:Value) (e:Nat→Int),r=v∧c+gk=10∧Hid ((c:Int)*b≤N1∧TenF wr (w2.heap.size+1) v (N1 - (c:Int)*b)∧∀ i,i<la→e i=if q<i then td ((a:Int)/(b:Int)) i else if i=q then (c:Int) else 0)∧DOwn wr w2.heap.size la e∧Below w2.heap.size w2 wr)
   case atStart=>
    refine ⟨0,_,d,rfl,rfl,⟨by simp;omega,by simpa using aX,fun i hi=>?_⟩,aP,aD⟩
    rw [aM.out i hi]
    by_cases h1:q<i
    ·rw [if_pos h1,if_pos (by omega)]
    ·rw [if_neg h1,if_neg (by omega)];split<;>rfl
   case round=>
    obtain ⟨c,v,e,rfl,hc,hz,aB,ap⟩:=hrel
    obtain ⟨ac,ab,aH⟩:=hz.out
    obtain ⟨r0,ae⟩:∃ r0:Nat,N1 - (c:Int)*b=(r0:Int):=⟨(N1 - (c:Int)*b).toNat,by omega⟩
    rw [ae] at ab
    have ai:r0<2 ^ (m+4):=by
     have h1:=HX.out.2
     have h2:(0:Int)≤(c:Int)*b:=Int.mul_nonneg (by omega) (by omega)
     rw [Nat.pow_add]
     omega
    have hbb:=aI.gr ap
    have ar:=Lib.hid ae
    have a3:=Lib.hid ac
    have az:=Lib.hid aH
    clear ae ac aH hz
    go_wp2_with fail
    refine (zN7 ab.s hbb ai HX.out.2 (by omega)).mono ?_
    rintro e7 w7 ⟨rfl,g7⟩
    by_cases hge:b≤r0
    ·have a0:(0:Int)≤sgn ((r0:Int) - (b:Int)):=by have:=zm5 ((r0:Int) - (b:Int));omega
     have a4:c<9:=by
      rcases Nat.lt_or_ge c 9 with h | h
      ·exact h
      ·have h1:=ar.out
       have h2:(9:Int)*b≤(c:Int)*b:=Int.mul_le_mul_of_nonneg_right (by omega) (by omega)
       omega
     go_wp2_with fail
     refine (yn7 (ab.s.gr g7) (hbb.gr g7) ai hge (by omega)).mono ?_
     rintro e8 w8 ⟨⟨v8,rfl,h8⟩,g8⟩
     have aC:=(aB.gr g7).gr g8
     have hcell:=aC.cell q (by omega)
     have hfree:=aC.free q
     have e9:=az.out q (by omega)
     rw [if_neg (by omega),if_pos rfl] at e9
     rw [e9] at hcell
     clear e9
     go_wp2
     go_roundg (gk - 1)
     case measure=>omega
     case rel=>
      have hmul:((c+1:Nat):Int)*(b:Int)=(c:Int)*b+b:=by rw [Int.natCast_add,Int.add_mul];simp
      refine ⟨c+1,_,_,rfl,by omega,⟨by rw [hmul];have:=ar.out;omega,?_,fun i hi=>?_⟩,aC.set (by omega) ((c:Int)+1),?_⟩
      ·rw [hmul,show N1 - ((c:Int)*b+b)=((r0 - b:Nat):Int) by have:=ar.out;omega]
       exact (h8.mono (by have:=(aB.gr g7).lt;omega)).set (by omega) _ _
      ·by_cases e1:i=q
       ·subst e1;rw [zb5,if_neg (by omega),if_pos rfl];simp
       ·rw [za7 _ _ e1,az.out i hi]
        by_cases e2:q<i
        ·rw [if_pos e2,if_pos e2]
        ·rw [if_neg e2,if_neg e2,if_neg e1,if_neg e1]
      ·exact (Below.trans ap (Below.mono (g7.trans g8) ap.size)).setCell (Nat.le_refl _) _
    ·have a0:sgn ((r0:Int) - (b:Int))<0:=by have:=zm5 ((r0:Int) - (b:Int));omega
     have hst:=ye9 (a:Int) (b:Int) q (by omega)
     have a1:(0:Int)≤(c:Int):=by omega
     have hdiv:N1/(b:Int)=(c:Int)∧N1 % (b:Int)=(r0:Int):=by
      rw [Int.ediv_emod_unique (by omega)]
      have h1:=ar.out
      rw [Int.mul_comm (b:Int) (c:Int)]
      omega
     rw [← HN.out,← aO.out,hdiv.1,hdiv.2] at hst
     have HST:=Lib.hid hst
     clear hst hdiv
     go_wp2
     go_roundw
     case rel=>
      refine ⟨q,_,e,rfl,rfl,by omega,⟨?_,fun i hi=>?_⟩,aB.gr g7,Below.trans ap (Below.mono g7 ap.size)⟩
      ·rw [HST.out.2.1];exact ab.s.gr g7
      ·rw [az.out i hi]
       by_cases e2:q<i
       ·rw [if_pos e2,if_pos (by omega)]
       ·rw [if_neg e2]
        by_cases e3:i=q
        ·rw [if_pos e3,if_pos (by omega),e3,HST.out.1]
        ·rw [if_neg e3,if_neg (by omega)]
     case measure=>simp [intOf]
  ·obtain rfl:j=0:=by omega
   obtain ⟨ac,ab⟩:=hz.out
   obtain ⟨qn,hqn⟩:∃ qn:Nat,qn=a/b:=⟨_,rfl⟩
   obtain ⟨rn,hrn⟩:∃ rn:Nat,rn=a % b:=⟨_,rfl⟩
   have hdm:(a:Int)=(b:Int)*qn+rn:=by
    have:=Nat.div_add_mod a b
    rw [hqn,hrn,← Int.natCast_mul,← Int.natCast_add,this]
   have hrb:rn<b:=by rw [hrn];exact Nat.mod_lt _ aS
   have g3:Gr w2 wr:=hB
   have hQ:TenZ wr (.slice (some ⟨w2.heap.size,0,none⟩) la la) (qn:Int):=by
    refine ⟨_,_,_,rfl,Nat.le_refl _,by omega,?_,(hO.congr fun i hi=>?_).row⟩
    ·rw [hqn,Int.natCast_ediv,yD1 _ _ (by omega),n1.top,Int.zero_ediv]
    ·rw [ab i hi,if_pos (by omega),hqn,Int.natCast_ediv]
   rw [zg9,← Int.natCast_emod,← hrn] at ac
   have hR:=ac.toZ (Nat.lt_trans hrb HX.out.2) (by omega)
   have hQs:Sz k (-(qn:Int)):=by
    have h1:=HX.out.1
    have h2:=Nat.div_le_self a b
    unfold Sz;omega
   have hax:x<0→x=-(a:Int):=fun h=>by have:=HA.out;omega
   have ah:¬ x<0→x=(a:Int):=fun h=>by have:=HA.out;omega
   have hby:y=(b:Int):=by have:=HB.out;omega
   have hRs:Sz m (-(rn:Int)):=by
    have h1:=HX.out.2
    unfold Sz;omega
   have HDM:=Lib.hid hdm
   have HBY:=Lib.hid hby
   clear hdm hby hz ac ab hO hqn hrn
   by_cases hneg:x<0
   ·have au:=Lib.hid (hax hneg)
    clear hax ah
    by_cases ae:rn=0
    ·subst ae
     have HF:Hid (x/y=-(qn:Int)∧x % y=0):=by
      have h1:=au.out
      have h2:=HDM.out
      have h3:=HBY.out
      show x/y=_∧_
      rw [h3,Int.ediv_emod_unique (by omega),Int.mul_neg]
      omega
     go_wp2_with fail
     (with_reducible refine (zc1 x (zf7 hneg) _).mono ?_)
     rintro e4 w4 ⟨rfl,g4⟩
     go_wp2_with fail
     (with_reducible refine (zc1 y (zd9 af) _).mono ?_)
     rintro e5 w5 ⟨rfl,g5⟩
     go_wp2_with fail
     (with_reducible refine (zi4 (neg:=true) ((hQ.gr g4).gr g5) (zf4 (z:=-(qn:Int)) (.inl ⟨rfl,rfl⟩))).mono ?_)
     rintro e6 w6 ⟨rfl,g6⟩
     go_wp2_with fail
     (with_reducible refine (zc1 x (zf7 hneg) _).mono ?_)
     rintro e7 w7 ⟨rfl,g7⟩
     go_wp2_with fail
     (with_reducible refine (zi4 (neg:=true) ((((hR.gr g4).gr g5).gr g6).gr g7) (show zi3 true 0=[48] from rfl)).mono ?_)
     rintro e8 w8 ⟨rfl,g8⟩
     go_wp2
     go_ret2
     refine ⟨?_,(((((al.trans g3).trans g4).trans g5).trans g6).trans g7).trans g8⟩
     rw [HF.out.1,HF.out.2,zm4]
     rfl
    ·have HF:Hid (x/y=-(qn:Int) - 1∧x % y=-(rn:Int)+y):=by
      have h1:=au.out
      have h2:=HDM.out
      have h3:=HBY.out
      show x/y=_∧_
      rw [h3,Int.ediv_emod_unique (by omega),Int.mul_sub,Int.mul_neg]
      omega
     have hne:=zr2 (show -(rn:Int)≠0 by omega)
     have ay:=zu4 (show -(rn:Int)≠0 by omega)
     go_wp2_with fail
     (with_reducible refine (zc1 x (zf7 hneg) _).mono ?_)
     rintro e4 w4 ⟨rfl,g4⟩
     go_wp2_with fail
     (with_reducible refine (zc1 y (zd9 af) _).mono ?_)
     rintro e5 w5 ⟨rfl,g5⟩
     go_wp2_with fail
     (with_reducible refine (zi4 (neg:=true) ((hQ.gr g4).gr g5) (zf4 (z:=-(qn:Int)) (.inl ⟨rfl,rfl⟩))).mono ?_)
     rintro e6 w6 ⟨rfl,g6⟩
     go_wp2_with fail
     (with_reducible refine (zc1 x (zf7 hneg) _).mono ?_)
     rintro e7 w7 ⟨rfl,g7⟩
     go_wp2_with fail
     (with_reducible refine (zi4 (neg:=true) ((((hR.gr g4).gr g5).gr g6).gr g7) (zf4 (z:=-(rn:Int)) (.inl ⟨rfl,rfl⟩))).mono ?_)
     rintro e8 w8 ⟨rfl,g8⟩
     go_wp2_with fail
     (with_reducible refine (zc1 (-(rn:Int)) (zf7 (by omega)) _).mono ?_)
     rintro e9 w9 ⟨rfl,g9⟩
     go_wp2_with fail
     (with_reducible refine (zc1 y (zd9 af) _).mono ?_)
     rintro aU wa ⟨rfl,ga⟩
     go_wp2_with fail
     (with_reducible refine (yo0 (-(qn:Int)) hQs (by omega) _).mono ?_)
     rintro e11 wb ⟨rfl,gb⟩
     go_wp2_with fail
     (with_reducible refine (ys8 (-(rn:Int)) y hRs hy (by omega) _).mono ?_)
     rintro e12 wc ⟨rfl,gc⟩
     go_wp2
     go_ret2
     refine ⟨?_,(((((((((al.trans g3).trans g4).trans g5).trans g6).trans g7).trans g8).trans g9).trans ga).trans gb).trans gc⟩
     rw [HF.out.1,HF.out.2]
     rfl
   ·have au:=Lib.hid (ah hneg)
    clear hax ah
    have HF:Hid (x/y=(qn:Int)∧x % y=(rn:Int)):=by
     have h1:=au.out
     have h2:=HDM.out
     have h3:=HBY.out
     show x/y=_∧_
     rw [h3,Int.ediv_emod_unique (by omega)]
     omega
    by_cases hx0:x=0
    ·have ae:rn=0:=by
      have h1:=HF.out.2
      rw [hx0,Int.zero_emod] at h1;omega
     have hsx:sgn x=0:=by rw [hx0];rfl
     subst ae
     have HS:=Lib.hid hsx
     clear hsx hx0
     go_wp2_with fail
     (with_reducible refine (zc1 x HS.out _).mono ?_)
     rintro e4 w4 ⟨rfl,g4⟩
     go_wp2_with fail
     (with_reducible refine (zc1 y (zd9 af) _).mono ?_)
     rintro e5 w5 ⟨rfl,g5⟩
     go_wp2_with fail
     (with_reducible refine (zi4 (neg:=false) ((hQ.gr g4).gr g5) (zf4 (z:=(qn:Int)) (.inr ⟨rfl,rfl⟩))).mono ?_)
     rintro e6 w6 ⟨rfl,g6⟩
     go_wp2_with fail
     (with_reducible refine (zc1 x HS.out _).mono ?_)
     rintro e7 w7 ⟨rfl,g7⟩
     go_wp2_with fail
     (with_reducible refine (zi4 (neg:=false) ((((hR.gr g4).gr g5).gr g6).gr g7) (show zi3 false 0=[48] from rfl)).mono ?_)
     rintro e8 w8 ⟨rfl,g8⟩
     go_wp2
     go_ret2
     refine ⟨?_,(((((al.trans g3).trans g4).trans g5).trans g6).trans g7).trans g8⟩
     rw [HF.out.1,HF.out.2]
     show _=Ending.returned (Value.tuple #[_,.string ⟨(Lib.itoa 0).toArray⟩])
     rw [zm4]
     rfl
    ·by_cases ae:rn=0
     ·subst ae
      go_wp2_with fail
      (with_reducible refine (zc1 x (zd9 (by omega)) _).mono ?_)
      rintro e4 w4 ⟨rfl,g4⟩
      go_wp2_with fail
      (with_reducible refine (zc1 y (zd9 af) _).mono ?_)
      rintro e5 w5 ⟨rfl,g5⟩
      go_wp2_with fail
      (with_reducible refine (zi4 (neg:=false) ((hQ.gr g4).gr g5) (zf4 (z:=(qn:Int)) (.inr ⟨rfl,rfl⟩))).mono ?_)
      rintro e6 w6 ⟨rfl,g6⟩
      go_wp2_with fail
      (with_reducible refine (zc1 x (zd9 (by omega)) _).mono ?_)
      rintro e7 w7 ⟨rfl,g7⟩
      go_wp2_with fail
      (with_reducible refine (zi4 (neg:=false) ((((hR.gr g4).gr g5).gr g6).gr g7) (show zi3 false 0=[48] from rfl)).mono ?_)
      rintro e8 w8 ⟨rfl,g8⟩
      go_wp2
      go_ret2
      refine ⟨?_,(((((al.trans g3).trans g4).trans g5).trans g6).trans g7).trans g8⟩
      rw [HF.out.1,HF.out.2]
      show _=Ending.returned (Value.tuple #[_,.string ⟨(Lib.itoa 0).toArray⟩])
      rw [zm4]
      rfl
     ·have hne:=zr2 (show (rn:Int)≠0 by omega)
      have ay:=zu4 (show (rn:Int)≠0 by omega)
      go_wp2_with fail
      (with_reducible refine (zc1 x (zd9 (by omega)) _).mono ?_)
      rintro e4 w4 ⟨rfl,g4⟩
      go_wp2_with fail
      (with_reducible refine (zc1 y (zd9 af) _).mono ?_)
      rintro e5 w5 ⟨rfl,g5⟩
      go_wp2_with fail
      (with_reducible refine (zi4 (neg:=false) ((hQ.gr g4).gr g5) (zf4 (z:=(qn:Int)) (.inr ⟨rfl,rfl⟩))).mono ?_)
      rintro e6 w6 ⟨rfl,g6⟩
      go_wp2_with fail
      (with_reducible refine (zc1 x (zd9 (by omega)) _).mono ?_)
      rintro e7 w7 ⟨rfl,g7⟩
      go_wp2_with fail
      (with_reducible refine (zi4 (neg:=false) ((((hR.gr g4).gr g5).gr g6).gr g7) (zf4 (z:=(rn:Int)) (.inr ⟨rfl,rfl⟩))).mono ?_)
      rintro e8 w8 ⟨rfl,g8⟩
      go_wp2_with fail
      (with_reducible refine (zc1 (rn:Int) (zd9 (by omega)) _).mono ?_)
      rintro e9 w9 ⟨rfl,g9⟩
      go_wp2_with fail
      (with_reducible refine (zc1 y (zd9 af) _).mono ?_)
      rintro aU wa ⟨rfl,ga⟩
      go_wp2
      go_ret2
      refine ⟨?_,(((((((al.trans g3).trans g4).trans g5).trans g6).trans g7).trans g8).trans g9).trans ga⟩
      rw [HF.out.1,HF.out.2]
      rfl
theorem zN9 {n:Nat}:zi3 false n=Lib.itoa (n:Int):=zf4 (.inr ⟨rfl,rfl⟩)
set_option maxRecDepth 100000 in
set_option maxHeartbeats 4000000 in
theorem r1_gcd {k m:Nat} (x y:Int) (hx:Sz k x) (hy:Sz m y) (hk:k+m≤140000) (w:World):
  Calls Tryz.prog 119 #[.string ⟨(Lib.itoa x).toArray⟩,.string ⟨(Lib.itoa y).toArray⟩] w fun e w'=>e=.returned (.string ⟨(Lib.itoa (Int.gcd x y:Int)).toArray⟩)∧Gr w w':=by
 go_enter Tryz.func119,Tryz.ntmps119
 go_wp2_with fail
 refine (ze4 x hx (by omega) _).mono ?_
 rintro e w1 ⟨⟨v1,rfl,ae⟩,g1⟩
 go_wp2_with fail
 (with_reducible refine (zi4 (neg:=false) (ae.toZ hx (by omega)) zN9).mono ?_)
 rintro e w2 ⟨rfl,g2⟩
 go_wp2_with fail
 refine (ze4 y hy (by omega) _).mono ?_
 rintro e w3 ⟨⟨v3,rfl,ab⟩,g3⟩
 go_wp2_with fail
 (with_reducible refine (zi4 (neg:=false) (ab.toZ hy (by omega)) zN9).mono ?_)
 rintro e w4 ⟨rfl,g4⟩
 have ac:x.natAbs<2 ^ (k+m):=Nat.lt_of_lt_of_le hx (Nat.pow_le_pow_right (by omega) (by omega))
 have ad:y.natAbs<2 ^ (k+m):=Nat.lt_of_lt_of_le hy (Nat.pow_le_pow_right (by omega) (by omega))
 go_wp2
 go_loopg [5,6] (y.natAbs) (fun gk s5 s6 wr=>∃ A:Nat,s5=.string ⟨(Lib.itoa (A:Int)).toArray⟩∧s6=.string ⟨(Lib.itoa (gk:Int)).toArray⟩∧Hid (Nat.gcd A gk=Int.gcd x y∧A<2 ^ (k+m)∧gk<2 ^ (k+m))∧Gr w wr)
 case atStart=>exact ⟨x.natAbs,rfl,rfl,⟨rfl,ac,ad⟩,((g1.trans g2).trans g3).trans g4⟩
 case round=>
  obtain ⟨A,rfl,rfl,hz,hB⟩:=hrel
  by_cases hg:gk=0
  ·subst hg
   have HZ:Hid (A=Int.gcd x y):=by
    have:=hz.out.1
    rw [Nat.gcd_zero_right] at this
    exact this
   have e0:Lib.itoa 0=[48]:=zm4
   simp only [Int.natCast_zero,e0]
   go_wp2
   go_ret
   refine ⟨?_,hB⟩
   rw [HZ.out];rfl
  ·have hne:=zr2 (show (gk:Int)≠0 by omega)
   have aa:=zu4 (show (gk:Int)≠0 by omega)
   have hdm:=zr3 (k:=k+m) (m:=k+m) (A:Int) (gk:Int) (by unfold Sz;simpa using hz.out.2.1) (by unfold Sz;simpa using hz.out.2.2) (by omega) (by omega) wr
   rw [← Int.natCast_emod] at hdm
   go_wp2_with fail
   (with_reducible refine hdm.mono ?_)
   rintro e w5 ⟨rfl,g5⟩
   clear hdm
   go_wp2
   go_roundg (A % gk)
   case measure=>exact Nat.mod_lt _ (by omega)
   case rel=>
    refine ⟨gk,rfl,rfl,⟨?_,hz.out.2.2,Nat.lt_trans (Nat.mod_lt _ (by omega)) hz.out.2.2⟩,hB.trans g5⟩
    rw [← hz.out.1,Nat.gcd_comm gk,← Nat.gcd_rec,Nat.gcd_comm]
end Go.Proofs.YtaldbfflkpgfoaaGreatDoor
namespace Go.Proofs.YtaldbfflkpgfoaaGreatDoor
open Go

def isD (c:UInt8):Bool:=decide (48≤c.toNat)&&decide (c.toNat≤57)
theorem ya0 {c:UInt8}:isD c=true↔48≤c.toNat∧c.toNat≤57:=by simp [isD]
def zb3:List UInt8→List UInt8
 | []=>[]
 | c::l=>if c=45 then l else c::l
theorem zj0 (c:UInt8) (l:List UInt8):zb3 (c::l)=if c=45 then l else c::l:=rfl
def zf3 (l:List UInt8):Bool:=decide (0<l.length)&&l.all isD
def ya1 (s:List UInt8):Bool:=(zb3 s)[0]?==some 48&&(decide (1<(zb3 s).length)||decide (1<s.length))
theorem zF3 (s:List UInt8):(s=45::zb3 s)∨(s=zb3 s∧s.head?≠some 45):=by
 cases s with
 | nil=>exact .inr ⟨rfl,by simp⟩
 | cons c l=>
  rw [zj0]
  by_cases h:c=45
  ·rw [if_pos h,h];exact .inl rfl
  ·rw [if_neg h];exact .inr ⟨rfl,by simpa using h⟩
theorem zD9 {l:List UInt8} (h:zf3 l=true):l≠[]∧∀ c ∈ l,48≤c.toNat∧c.toNat≤57:=by
 simp only [zf3,Bool.and_eq_true,decide_eq_true_eq,List.all_eq_true] at h
 exact ⟨List.length_pos_iff.1 h.1,fun c hc=>ya0.1 (h.2 c hc)⟩
theorem zU1 {s:List UInt8} (h1:zf3 (zb3 s)=true) (h2:ya1 s=false):∃ z:Int,s=Lib.itoa z:=by
 obtain ⟨hne,hall⟩:=zD9 h1
 rcases zF3 s with h | ⟨h,_⟩
 ·-- a sign
  have h0:∀ c,(zb3 s)[0]?=some c→c.toNat≠48:=fun c hc e=>by
   have aa:c=48:=by rw [← UInt8.toNat_inj];exact e
   unfold ya1 at h2
   rw [hc,aa] at h2
   have:1<s.length:=by rw [h];simp [List.length_pos_iff.2 hne]
   simp [this] at h2
  obtain ⟨e1,e2⟩:=zT7 _ hall hne h0
  refine ⟨-(zg6 (zb3 s):Int),?_⟩
  rw [zd3 (by omega),show (-(zg6 (zb3 s):Int)).natAbs=zg6 (zb3 s) by omega,e1]
  exact h
 ·by_cases h0:(zb3 s)[0]?=some 48
  ·unfold ya1 at h2
   rw [h0,← h] at h2
   have hl:s.length=1:=by
    have:0<s.length:=by rw [h];exact List.length_pos_iff.2 hne
    simp at h2;omega
   refine ⟨0,?_⟩
   rw [za8 (by omega),show (0:Int).natAbs=0 from rfl,yl2]
   rw [← h] at h0
   match s,hl,h0 with
   | [c],_,h0=>simp at h0;rw [h0]
  ·obtain ⟨e1,e2⟩:=zT7 _ hall hne (fun c hc e=>h0 (by rw [hc];congr 1;rw [← UInt8.toNat_inj];exact e))
   refine ⟨(zg6 (zb3 s):Int),?_⟩
   rw [za8 (by omega),Int.natAbs_natCast,e1]
   exact h
theorem dec_ne (n:Nat):Lib.decDigits n≠[]:=fun e=>by have:=zF8 n;rw [e] at this;simp at this
theorem zs3 (z:Int):zb3 (Lib.itoa z)=Lib.decDigits z.natAbs:=by
 by_cases h:z<0
 ·rw [zd3 h];simp [zb3]
 ·rw [za8 (by omega)]
  rcases hd:Lib.decDigits z.natAbs with _ | ⟨c,l⟩
  ·exact absurd hd (dec_ne _)
  ·have:=zk0 z.natAbs c (by rw [hd];simp)
   rw [zj0,if_neg (fun e=>by rw [e] at this;simp at this)]
theorem zP5 (n:Nat):zf3 (Lib.decDigits n)=true:=by
 simp only [zf3,Bool.and_eq_true,decide_eq_true_eq,List.all_eq_true]
 exact ⟨zF8 n,fun c hc=>ya0.2 (zk0 n c hc)⟩
theorem yp4 (z:Int) {m:Nat} (h:(Lib.itoa z).length≤m):z.natAbs<10 ^ m:=by
 have key:∀ n:Nat,n<10 ^ (Lib.decDigits n).length:=by
  intro n
  induction n using Nat.strongRecOn with
  | _ n ih=>
   by_cases h1:n<10
   ·rw [zc0 h1];simpa using h1
   ·rw [zh0 (by omega),List.length_append,List.length_singleton,Nat.pow_succ]
    have:=ih (n/10) (by omega)
    omega
 have h1:=key z.natAbs
 have h2:(Lib.decDigits z.natAbs).length≤m:=by
  by_cases hz:z<0
  ·rw [zd3 hz] at h;simp at h;omega
  ·rw [za8 (by omega)] at h;exact h
 exact Nat.lt_of_lt_of_le h1 (Nat.pow_le_pow_right (by omega) h2)
theorem zu1 (z:Int) {m:Nat} (h:(Lib.itoa z).length≤m):z.natAbs<2 ^ (4*m):=by
 have:=yp4 z h
 rw [Nat.pow_mul]
 exact Nat.lt_of_lt_of_le this (Nat.pow_le_pow_left (by decide) m)
end Go.Proofs.YtaldbfflkpgfoaaGreatDoor
namespace Go.Proofs.YtaldbfflkpgfoaaGreatDoor
open Go.RowKit

theorem zs9 {D:ByteArray} {k:Nat} (h:k<D.size):D.data.toList[k]?=some D[k]:=by
 rw [Array.getElem?_toList,Array.getElem?_eq_getElem h];rfl
end Go.Proofs.YtaldbfflkpgfoaaGreatDoor
namespace Go.Proofs.YtaldbfflkpgfoaaGreatDoor
open Go

def zg5:List UInt8→List UInt8 × Option (List UInt8)
 | []=>([],none)
 | c::l=>if c=47 then ([],some l) else (c::(zg5 l).1,(zg5 l).2)
def zm0 (s:List UInt8):List UInt8:=(zg5 s).1
def zD5 (s:List UInt8):List UInt8:=(zg5 s).2.getD [49]
theorem zz5:∀ s,s=(match (zg5 s).2 with | none=>(zg5 s).1 | some d=>(zg5 s).1++47::d)
 | []=>rfl
 | c::l=>by
  have ih:=zz5 l
  unfold zg5
  by_cases h:c=47
  ·rw [if_pos h,h];rfl
  ·rw [if_neg h]
   dsimp only
   cases hd:(zg5 l).2 with
   | none=>rw [hd] at ih;dsimp only at ih ⊢;rw [← ih]
   | some d=>rw [hd] at ih;dsimp only at ih ⊢;rw [List.cons_append,← ih]
theorem zF4:∀ {s:List UInt8},(∀ c ∈ s,c≠47)→zg5 s=(s,none)
 | [],_=>rfl
 | c::l,h=>by
  unfold zg5
  rw [if_neg (h c (by simp)),zF4 (fun x hx=>h x (by simp [hx]))]
theorem zF5:∀ {a b:List UInt8},(∀ c ∈ a,c≠47)→zg5 (a++47::b)=(a,some b)
 | [],b,_=>by simp [zg5]
 | c::l,b,h=>by
  rw [List.cons_append]
  unfold zg5
  rw [if_neg (h c (by simp)),zF5 (fun x hx=>h x (by simp [hx]))]
def zq0 (l:List UInt8):Bool:=l.all (·==48)
def valZ (s:List UInt8):Int:=if s.head?=some 45 then -(zg6 (zb3 s):Int) else (zg6 (zb3 s):Int)
theorem zv2 (z:Int):valZ (Lib.itoa z)=z:=by
 unfold valZ
 rw [zs3,zy9]
 by_cases h:z<0
 ·rw [zd3 h,List.head?_cons,if_pos rfl];omega
 ·rw [za8 (by omega),if_neg]
  ·omega
  ·intro e
   have:=zk0 z.natAbs 45 (List.mem_of_head? e)
   simp at this
def ck2 (s:List UInt8) (most:Nat):Int:=
 if most<s.length then 5 else
 if (zf3 (zb3 (zm0 s))&&zf3 (zD5 s))=false then 14 else
 if zq0 (zD5 s)=true then 19 else
 if (ya1 (zm0 s)||((zD5 s)[0]?==some 48))=true then 3 else
 if (decide ((zm0 s).length<s.length)&&((zD5 s==[49])||(Int.gcd (valZ (zm0 s)) (valZ (zD5 s)) !=1)))=true then 3 else 0
theorem yf2 (s:List UInt8):(zm0 s).length<s.length↔(zg5 s).2≠none:=by
 have h:=zz5 s
 unfold zm0
 cases hd:(zg5 s).2 with
 | none=>rw [hd] at h;dsimp only at h;rw [← h];simp
 | some d=>
  rw [hd] at h;dsimp only at h
  have:s.length=(zg5 s).1.length+(d.length+1):=by
   conv=>lhs;rw [h]
   simp
  simp;omega
theorem yf3 {d:List UInt8} (h1:zf3 d=true) (h2:(d[0]?==some 48)=false):Lib.decDigits (zg6 d)=d∧0<zg6 d:=by
 obtain ⟨a,b⟩:=zD9 h1
 exact zT7 d b a (fun c hc e=>by
  have:c=48:=by rw [← UInt8.toNat_inj];exact e
  rw [hc,this] at h2
  simp at h2)
theorem ck2_ratL {s:List UInt8} {most:Nat} (h:ck2 s most=0):(∃ q:Rat,s=za1 q)∧s.length≤most:=by
 unfold ck2 at h
 split at h
 ·exact absurd h (by decide)
 rename_i hlen
 split at h
 ·exact absurd h (by decide)
 rename_i hd
 split at h
 ·exact absurd h (by decide)
 split at h
 ·exact absurd h (by decide)
 rename_i hb
 split at h
 ·exact absurd h (by decide)
 rename_i hg
 refine ⟨?_,by omega⟩
 have hb':ya1 (zm0 s)=false∧((zD5 s)[0]?==some 48)=false:=by
  cases h1:ya1 (zm0 s)<;>cases h2:((zD5 s)[0]?==some 48)<;>simp [h1,h2] at hb ⊢
 have aa:zf3 (zb3 (zm0 s))=true∧zf3 (zD5 s)=true:=by
  cases h1:zf3 (zb3 (zm0 s))<;>cases h2:zf3 (zD5 s)<;>simp [h1,h2] at hd ⊢
 obtain ⟨z,hz⟩:=zU1 aa.1 hb'.1
 obtain ⟨hD,ab⟩:=yf3 aa.2 hb'.2
 have hs:=zz5 s
 cases hc:(zg5 s).2 with
 | none=>
  rw [hc] at hs;dsimp only at hs
  refine ⟨(z:Rat),?_⟩
  rw [zM2 (Rat.den_intCast _),Rat.num_intCast,← hz]
  exact hs
 | some d=>
  have hdd:zD5 s=d:=by unfold zD5;rw [hc];rfl
  have hlt:=(yf2 s).2 (by rw [hc];simp)
  rw [hdd] at hD ab
  have hvd:valZ d=(zg6 d:Int):=by
   have:=zv2 ((zg6 d:Nat):Int)
   rw [za8 (by omega),Int.natAbs_natCast,hD] at this
   exact this
  have e1:valZ (zm0 s)=z:=by rw [hz,zv2]
  rw [hdd,e1,hvd,decide_eq_true hlt,Bool.true_and] at hg
  have hg':¬ (d==[49])=true∧Int.gcd z (zg6 d:Int)=1:=by
   simp only [Bool.or_eq_true,bne_iff_ne,ne_eq,not_or,Classical.not_not] at hg
   exact hg
  have h1:zg6 d≠1:=fun e=>hg'.1 (by
   rw [← hD,e,zc0 (by omega)];rfl)
  have hcop:Nat.Coprime z.natAbs (zg6 d):=hg'.2
  refine ⟨⟨z,zg6 d,by omega,hcop⟩,?_⟩
  have e2:Lib.itoa ((zg6 d:Nat):Int)=d:=by rw [za8 (by omega),Int.natAbs_natCast,hD]
  rw [zU4 (by exact h1)]
  rw [hc] at hs;dsimp only at hs
  show s=Lib.itoa z++[47]++Lib.itoa ((zg6 d:Nat):Int)
  rw [e2,← hz,List.append_assoc]
  exact hs
theorem zB5 (z:Int):∀ c ∈ Lib.itoa z,c≠47:=by
 intro c hc e
 subst e
 by_cases h:z<0
 ·rw [zd3 h] at hc
  rcases List.mem_cons.1 hc with h1 | h1
  ·exact absurd h1 (by decide)
  ·have:=zk0 _ _ h1;simp at this
 ·rw [za8 (by omega)] at hc
  have:=zk0 _ _ hc;simp at this
theorem zF6 (q:Rat):zg5 (za1 q)=(Lib.itoa q.num,if q.den=1 then none else some (Lib.itoa (q.den:Int))):=by
 unfold za1
 by_cases h:q.den=1
 ·rw [if_pos h,if_pos h,zF4 (zB5 _)]
 ·rw [if_neg h,if_neg h,List.append_assoc]
  exact zF5 (zB5 _)
theorem zv3 (q:Rat):zm0 (za1 q)=Lib.itoa q.num:=by unfold zm0;rw [zF6]
theorem zF7 (q:Rat):zD5 (za1 q)=Lib.itoa (q.den:Int):=by
 unfold zD5;rw [zF6]
 by_cases h:q.den=1
 ·rw [if_pos h,h];exact itoa_one.symm
 ·rw [if_neg h];rfl
end Go.Proofs.YtaldbfflkpgfoaaGreatDoor
namespace Go.Proofs.YtaldbfflkpgfoaaGreatDoor
open Go.RowKit

set_option maxRecDepth 100000 in
set_option maxHeartbeats 1000000 in
theorem add_tt {k m:Nat} {u0 u1 u2 u3 v0 v1 v2 v3:Value} {a b:Rat} {w:World} (ha:IsRat w k u0 u1 u2 u3 a) (hb:IsRat w m v0 v1 v2 v3 b) (_hk:k+m≤100000) (wa:a.den=1) (wb:b.den=1):
    Calls Tryz.prog 103 #[(.agg #[u0,u1,u2,u3]),(.agg #[v0,v1,v2,v3])] w fun e w'=>(∃ c0 c1 c2 c3,e=.returned (.agg #[c0,c1,c2,c3])∧IsRat w' (k+m+1) c0 c1 c2 c3 (a+b))∧Gr w w':=by
 have hka:=ha.big
 have hkb:=hb.big
 go_enter Tryz.func103,Tryz.ntmps103
 have hB:=Gr.refl w
 refine wp_seq_k (fun K1 k1=>?_)
 refine rg [0,1,2] ?_
 refine se ?_
 refine eb 36 #[u0,u1,u2,u3] 2 hB fun b2 w2 g2 L2 o2 q2 hB=>?_
 simp only [p3,p4]
 refine se ?_
 refine eb 36 #[v0,v1,v2,v3] 3 hB fun b3 w3 g3 L3 o3 q3 hB=>?_
 simp only [p3,p4]
 refine se ?_
 refine ea 36 #[.bool false,.slice none 0 0,.bool false,.slice none 0 0] 4 hB fun b4 w4 g4 L4 o4 q4 hB=>?_
 replace L2:=L2.gr g3
 simp only [p3,p4]
 refine za0 ?_
 refine k1 _ _ ?_
 try clear k1 K1
 refine wp_seq_k (fun K5 k5=>?_)
 refine wp_seq_k (fun K6 k6=>?_)
 refine rg [0,1,2,3,4,5] ?_
 replace L2:=L2.gr g4
 refine sw 5 (.agg #[u0,u1,u2,u3]) rfl (rl 36 0 [u0,u1,u2,u3] L2) ?_
 refine se ?_
 have aj:=g2.kp.trans (g3.kp.trans g4.kp)
 replace ha:=ha.kp aj
 refine ec 6 (zl9 ha (by omega) wa) ?_
 rintro e7 w7 ⟨rfl,g7⟩
 refine ⟨_,rfl,?_⟩
 replace hB:=hB.trans g7
 simp only [p3,p4]
 refine sv 7 (.bool true) ?_
 replace L3:=L3.gr (g4.trans g7)
 refine sw 8 (.agg #[v0,v1,v2,v3]) rfl (rl 36 0 [v0,v1,v2,v3] L3) ?_
 refine se ?_
 have af:=g2.kp.trans (g3.kp.trans (g4.kp.trans g7.kp))
 replace hb:=hb.kp af
 refine ec 9 (zl9 hb (by omega) wb) ?_
 rintro e9 w9 ⟨rfl,g9⟩
 refine ⟨_,rfl,?_⟩
 replace hB:=hB.trans g9
 simp only [p3,p4]
 refine sv 10 (.bool true) ?_
 refine za0 ?_
 refine k6 _ _ ?_
 try clear k6 K6
 refine wp_cond_true rfl ?_
 refine wp_seq_k (fun al ah=>?_)
 refine rg [0,1,2,3,4,5,6] ?_
 refine sv 11 (.pointer (some ⟨b2,0,none⟩)) ?_
 replace L2:=L2.gr (g7.trans g9)
 refine sw 12 (.agg #[u0,u1]) rfl (rl 34 0 [u0,u1] L2) ?_
 refine sv 13 (.pointer (some ⟨b3,0,none⟩)) ?_
 replace L3:=L3.gr g9
 refine sw 14 (.agg #[v0,v1]) rfl (rl 34 0 [v0,v1] L3) ?_
 refine se ?_
 have ad:=g7.kp.trans g9.kp
 replace ha:=ha.kp ad
 replace hb:=hb.kp g9.kp
 refine ec 15 (add_e (k+m) ha.num hb.num (by omega) (by omega) (by omega)) ?_
 rintro e12 aq ⟨⟨ac,ab,rfl,aa⟩,ai⟩
 refine ⟨_,rfl,?_⟩
 replace hB:=hB.trans ai
 simp only [p3,p4]
 refine sv 16 (.agg #[ac,ab,.bool false,.slice none 0 0]) ?_
 refine se ?_
 replace L4:=L4.gr (g7.trans (g9.trans ai))
 refine es 36 0 (.agg #[ac,ab,.bool false,.slice none 0 0]) [ac,ab,.bool false,.slice none 0 0] #[ac,ab,.bool false,.slice none 0 0] L4 hB q4 ⟨aa.one0,aa.one1,rfl,rfl,trivial⟩ fun ap ak ae L4 hB=>?_
 refine za0 ?_
 refine ah _ _ ?_
 try clear ah al
 refine wp_ret ?_
 simp only [Exit.then]
 refine bodyPost_ret (v:=(.agg #[ac,ab,.bool false,.slice none 0 0])) (za9 _ _ _ rfl rfl L4 (by kernel_rfl)) rfl ⟨?_,hB⟩
 replace aa:=aa.kp ae
 exact ⟨_,_,_,_,rfl,by rw [← zJ0 wa,← zJ0 wb,← Rat.intCast_add];exact IsRat.int aa (by omega)⟩

set_option maxRecDepth 100000 in
set_option maxHeartbeats 1000000 in
theorem add_tf {k m:Nat} {u0 u1 u2 u3 v0 v1 v2 v3:Value} {a b:Rat} {w:World} (ha:IsRat w k u0 u1 u2 u3 a) (hb:IsRat w m v0 v1 v2 v3 b) (_hk:k+m≤100000) (wa:a.den=1) (wb:b.den≠1):
    Calls Tryz.prog 103 #[(.agg #[u0,u1,u2,u3]),(.agg #[v0,v1,v2,v3])] w fun e w'=>(∃ c0 c1 c2 c3,e=.returned (.agg #[c0,c1,c2,c3])∧IsRat w' (k+m+1) c0 c1 c2 c3 (a+b))∧Gr w w':=by
 have hka:=ha.big
 have hkb:=hb.big
 go_enter Tryz.func103,Tryz.ntmps103
 have hB:=Gr.refl w
 refine wp_seq_k (fun K1 k1=>?_)
 refine rg [0,1,2] ?_
 refine se ?_
 refine eb 36 #[u0,u1,u2,u3] 2 hB fun b2 w2 g2 L2 o2 q2 hB=>?_
 simp only [p3,p4]
 refine se ?_
 refine eb 36 #[v0,v1,v2,v3] 3 hB fun b3 w3 g3 L3 o3 q3 hB=>?_
 simp only [p3,p4]
 refine se ?_
 refine ea 36 #[.bool false,.slice none 0 0,.bool false,.slice none 0 0] 4 hB fun b4 w4 g4 L4 o4 q4 hB=>?_
 replace L2:=L2.gr g3
 have al:=L2.ne o4
 have ap:=L3.ne o4
 simp only [p3,p4]
 refine za0 ?_
 refine k1 _ _ ?_
 try clear k1 K1
 refine wp_seq_k (fun K5 k5=>?_)
 refine wp_seq_k (fun K6 k6=>?_)
 refine rg [0,1,2,3,4,5] ?_
 replace L2:=L2.gr g4
 refine sw 5 (.agg #[u0,u1,u2,u3]) rfl (rl 36 0 [u0,u1,u2,u3] L2) ?_
 refine se ?_
 have aQ:=g2.kp.trans (g3.kp.trans g4.kp)
 replace ha:=ha.kp aQ
 refine ec 6 (zl9 ha (by omega) wa) ?_
 rintro e7 w7 ⟨rfl,g7⟩
 refine ⟨_,rfl,?_⟩
 replace hB:=hB.trans g7
 simp only [p3,p4]
 refine sv 7 (.bool true) ?_
 replace L3:=L3.gr (g4.trans g7)
 refine sw 8 (.agg #[v0,v1,v2,v3]) rfl (rl 36 0 [v0,v1,v2,v3] L3) ?_
 refine se ?_
 have aH:=g2.kp.trans (g3.kp.trans (g4.kp.trans g7.kp))
 replace hb:=hb.kp aH
 refine ec 9 (zu5 hb (by omega) wb) ?_
 rintro e9 w9 ⟨rfl,g9⟩
 refine ⟨_,rfl,?_⟩
 replace hB:=hB.trans g9
 simp only [p3,p4]
 refine sv 10 (.bool false) ?_
 refine za0 ?_
 refine k6 _ _ ?_
 try clear k6 K6
 refine wp_cond_false rfl ?_
 refine wp_skip ?_
 refine k5 _ _ ?_
 try clear k5 K5
 refine wp_seq_k (fun aM aK=>?_)
 have aa:=Gr.drew w9
 replace hB:=hB.trans aa
 replace L2:=L2.gr (g7.trans (g9.trans aa))
 replace L3:=L3.gr (g9.trans aa)
 refine za2 (fun w'=>Lc w' b2 #[u0,u1,u2,u3] 36∧Lc w' b3 #[v0,v1,v2,v3] 36) [(true,0),(true,1),(true,2),(true,5),(true,6),(true,7),(true,11),(true,13),(false,3),(false,4),(false,8),(false,9),(false,10),(false,12),(false,14),(false,15),(false,16),(false,17)] (by kernel_rfl) (by kernel_rfl) (by kernel_rfl) (by decide) (fun _ _ _ _ _ h=>h) ⟨L2,L3⟩ ?_
 refine ov 17 (.pointer (some ⟨b2,0,none⟩)) ?_
 refine ow 18 (.agg #[u0,u1]) rfl (fun w' hS=>(rl 34 0 [u0,u1] hS.1)) ?_
 refine ow 19 (.agg #[v0,v1,v2,v3]) rfl (fun w' hS=>(rl 36 0 [v0,v1,v2,v3] hS.2)) ?_
 refine ov 22 (.pointer (some ⟨b3,0,none⟩)) ?_
 refine ow 23 (.agg #[v0,v1]) rfl (fun w' hS=>(rl 34 0 [v0,v1] hS.2)) ?_
 refine ow 24 (.agg #[u0,u1,u2,u3]) rfl (fun w' hS=>(rl 36 0 [u0,u1,u2,u3] hS.1)) ?_
 refine ow 28 (.agg #[u0,u1,u2,u3]) rfl (fun w' hS=>(rl 36 0 [u0,u1,u2,u3] hS.1)) ?_
 refine ow 30 (.agg #[v0,v1,v2,v3]) rfl (fun w' hS=>(rl 36 0 [v0,v1,v2,v3] hS.2)) ?_
 refine oe ?_
 have aG:=g9.kp.trans aa.kp
 replace hb:=hb.kp aG
 refine ec 20 (zn5 hb) ?_
 rintro aS bq ⟨⟨a7,bn,rfl,aN⟩,ae⟩
 refine ⟨_,rfl,?_⟩
 replace hB:=hB.trans ae
 replace L2:=L2.gr ae
 replace L3:=L3.gr ae
 refine ⟨⟨L2,L3⟩,?_⟩
 simp only [p3,p4]
 refine oe ?_
 have aC:=g7.kp.trans (g9.kp.trans (aa.kp.trans ae.kp))
 replace ha:=ha.kp aC
 refine ec 21 (zp8 ha.num aN (by omega)) ?_
 rintro bd a9 ⟨⟨aU,a1,rfl,aE⟩,af⟩
 refine ⟨_,rfl,?_⟩
 replace hB:=hB.trans af
 replace L2:=L2.gr af
 replace L3:=L3.gr af
 refine ⟨⟨L2,L3⟩,?_⟩
 simp only [p3,p4]
 refine oe ?_
 replace ha:=ha.kp af.kp
 refine ec 25 (zn5 ha) ?_
 rintro bc aW ⟨⟨bf,bm,rfl,aL⟩,ab⟩
 refine ⟨_,rfl,?_⟩
 replace hB:=hB.trans ab
 replace L2:=L2.gr ab
 replace L3:=L3.gr ab
 refine ⟨⟨L2,L3⟩,?_⟩
 simp only [p3,p4]
 refine oe ?_
 have aD:=ae.kp.trans (af.kp.trans ab.kp)
 replace hb:=hb.kp aD
 refine ec 26 (zp8 hb.num aL (by omega)) ?_
 rintro bu a5 ⟨⟨bg,bk,rfl,aO⟩,ad⟩
 refine ⟨_,rfl,?_⟩
 replace hB:=hB.trans ad
 replace L2:=L2.gr ad
 replace L3:=L3.gr ad
 refine ⟨⟨L2,L3⟩,?_⟩
 simp only [p3,p4]
 refine oe ?_
 have aI:=ab.kp.trans ad.kp
 replace aE:=aE.kp aI
 refine ec 27 (add_e (k+m) aE aO (by omega) (by omega) (by omega)) ?_
 rintro a0 a8 ⟨⟨aY,bp,rfl,aF⟩,ai⟩
 refine ⟨_,rfl,?_⟩
 replace hB:=hB.trans ai
 replace L2:=L2.gr ai
 replace L3:=L3.gr ai
 refine ⟨⟨L2,L3⟩,?_⟩
 simp only [p3,p4]
 refine oe ?_
 have ay:=ab.kp.trans (ad.kp.trans ai.kp)
 replace ha:=ha.kp ay
 refine ec 29 (zn5 ha) ?_
 rintro a6 bi ⟨⟨bt,aZ,rfl,aJ⟩,aj⟩
 refine ⟨_,rfl,?_⟩
 replace hB:=hB.trans aj
 replace L2:=L2.gr aj
 replace L3:=L3.gr aj
 refine ⟨⟨L2,L3⟩,?_⟩
 simp only [p3,p4]
 refine oe ?_
 have aA:=ad.kp.trans (ai.kp.trans aj.kp)
 replace hb:=hb.kp aA
 refine ec 31 (zn5 hb) ?_
 rintro bh bo ⟨⟨aT,a4,rfl,aR⟩,ah⟩
 refine ⟨_,rfl,?_⟩
 replace hB:=hB.trans ah
 replace L2:=L2.gr ah
 replace L3:=L3.gr ah
 refine ⟨⟨L2,L3⟩,?_⟩
 simp only [p3,p4]
 refine oe ?_
 replace aJ:=aJ.kp ah.kp
 refine ec 32 (zp8 aJ aR (by omega)) ?_
 rintro aV a2 ⟨⟨bj,aX,rfl,aP⟩,aq⟩
 refine ⟨_,rfl,?_⟩
 replace hB:=hB.trans aq
 replace L2:=L2.gr aq
 replace L3:=L3.gr aq
 refine ⟨⟨L2,L3⟩,?_⟩
 simp only [p3,p4]
 refine oe ?_
 have az:=aj.kp.trans (ah.kp.trans aq.kp)
 replace aF:=aF.kp az
 refine ec 33 (zr5 ((k+m+1)) aF aP (Int.mul_pos (Int.natCast_pos.2 a.den_pos) (Int.natCast_pos.2 b.den_pos)) (by omega) (by omega) (by omega) (by omega)) ?_
 rintro a3 bb ⟨⟨ar,ax,av,au,rfl,ac⟩,aw⟩
 refine ⟨_,rfl,?_⟩
 replace hB:=hB.trans aw
 replace L2:=L2.gr aw
 replace L3:=L3.gr aw
 refine ⟨⟨L2,L3⟩,?_⟩
 simp only [p3,p4]
 refine oe ?_
 replace L4:=L4.gr (g7.trans (g9.trans (aa.trans (ae.trans (af.trans (ab.trans (ad.trans (ai.trans (aj.trans (ah.trans (aq.trans aw)))))))))))
 refine es 36 0 (.agg #[ar,ax,av,au]) [ar,ax,av,au] #[ar,ax,av,au] L4 hB q4 ⟨ac.one0,ac.one1,ac.one2,ac.one3,trivial⟩ fun ba ak aB L4 hB=>?_
 replace L2:=ak.lc L2 al
 replace L3:=ak.lc L3 ap
 refine ⟨⟨L2,L3⟩,?_⟩
 refine zb8 ?_
 refine aK _ _ ?_
 try clear aK aM
 refine wp_ret ?_
 refine bodyPost_ret (v:=(.agg #[ar,ax,av,au])) (za9 _ _ _ rfl rfl L4 (by kernel_rfl)) rfl ⟨?_,hB⟩
 replace ac:=ac.kp aB
 exact ⟨_,_,_,_,rfl,by rw [← zR8];exact ac⟩

set_option maxRecDepth 100000 in
set_option maxHeartbeats 1000000 in
theorem add_f {k m:Nat} {u0 u1 u2 u3 v0 v1 v2 v3:Value} {a b:Rat} {w:World} (ha:IsRat w k u0 u1 u2 u3 a) (hb:IsRat w m v0 v1 v2 v3 b) (_hk:k+m≤100000) (wa:a.den≠1):
    Calls Tryz.prog 103 #[(.agg #[u0,u1,u2,u3]),(.agg #[v0,v1,v2,v3])] w fun e w'=>(∃ c0 c1 c2 c3,e=.returned (.agg #[c0,c1,c2,c3])∧IsRat w' (k+m+1) c0 c1 c2 c3 (a+b))∧Gr w w':=by
 have hka:=ha.big
 have hkb:=hb.big
 go_enter Tryz.func103,Tryz.ntmps103
 have hB:=Gr.refl w
 refine wp_seq_k (fun K1 k1=>?_)
 refine rg [0,1,2] ?_
 refine se ?_
 refine eb 36 #[u0,u1,u2,u3] 2 hB fun b2 w2 g2 L2 o2 q2 hB=>?_
 simp only [p3,p4]
 refine se ?_
 refine eb 36 #[v0,v1,v2,v3] 3 hB fun b3 w3 g3 L3 o3 q3 hB=>?_
 simp only [p3,p4]
 refine se ?_
 refine ea 36 #[.bool false,.slice none 0 0,.bool false,.slice none 0 0] 4 hB fun b4 w4 g4 L4 o4 q4 hB=>?_
 replace L2:=L2.gr g3
 have ap:=L2.ne o4
 have aq:=L3.ne o4
 simp only [p3,p4]
 refine za0 ?_
 refine k1 _ _ ?_
 try clear k1 K1
 refine wp_seq_k (fun K5 k5=>?_)
 refine wp_seq_k (fun K6 k6=>?_)
 refine rg [0,1,2,3,4,5] ?_
 replace L2:=L2.gr g4
 refine sw 5 (.agg #[u0,u1,u2,u3]) rfl (rl 36 0 [u0,u1,u2,u3] L2) ?_
 refine se ?_
 have aN:=g2.kp.trans (g3.kp.trans g4.kp)
 replace ha:=ha.kp aN
 refine ec 6 (zu5 ha (by omega) wa) ?_
 rintro e7 w7 ⟨rfl,g7⟩
 refine ⟨_,rfl,?_⟩
 replace hB:=hB.trans g7
 simp only [p3,p4]
 refine sv 7 (.bool false) ?_
 refine ss 8 ?_
 refine ss 9 ?_
 refine sv 10 (.bool false) ?_
 refine za0 ?_
 refine k6 _ _ ?_
 try clear k6 K6
 refine wp_cond_false rfl ?_
 refine wp_skip ?_
 refine k5 _ _ ?_
 try clear k5 K5
 refine wp_seq_k (fun K9 k9=>?_)
 have aa:=Gr.drew w7
 replace hB:=hB.trans aa
 replace L2:=L2.gr (g7.trans aa)
 replace L3:=L3.gr (g4.trans (g7.trans aa))
 refine za2 (fun w'=>Lc w' b2 #[u0,u1,u2,u3] 36∧Lc w' b3 #[v0,v1,v2,v3] 36) [(true,0),(true,1),(true,2),(true,5),(true,6),(true,7),(true,11),(true,13),(false,3),(false,4),(false,8),(false,9),(false,10),(false,12),(false,14),(false,15),(false,16),(false,17)] (by kernel_rfl) (by kernel_rfl) (by kernel_rfl) (by decide) (fun _ _ _ _ _ h=>h) ⟨L2,L3⟩ ?_
 refine ov 17 (.pointer (some ⟨b2,0,none⟩)) ?_
 refine ow 18 (.agg #[u0,u1]) rfl (fun w' hS=>(rl 34 0 [u0,u1] hS.1)) ?_
 refine ow 19 (.agg #[v0,v1,v2,v3]) rfl (fun w' hS=>(rl 36 0 [v0,v1,v2,v3] hS.2)) ?_
 refine ov 22 (.pointer (some ⟨b3,0,none⟩)) ?_
 refine ow 23 (.agg #[v0,v1]) rfl (fun w' hS=>(rl 34 0 [v0,v1] hS.2)) ?_
 refine ow 24 (.agg #[u0,u1,u2,u3]) rfl (fun w' hS=>(rl 36 0 [u0,u1,u2,u3] hS.1)) ?_
 refine ow 28 (.agg #[u0,u1,u2,u3]) rfl (fun w' hS=>(rl 36 0 [u0,u1,u2,u3] hS.1)) ?_
 refine ow 30 (.agg #[v0,v1,v2,v3]) rfl (fun w' hS=>(rl 36 0 [v0,v1,v2,v3] hS.2)) ?_
 refine oe ?_
 have aI:=g2.kp.trans (g3.kp.trans (g4.kp.trans (g7.kp.trans aa.kp)))
 replace hb:=hb.kp aI
 refine ec 20 (zn5 hb) ?_
 rintro bo a0 ⟨⟨a8,aW,rfl,aM⟩,ah⟩
 refine ⟨_,rfl,?_⟩
 replace hB:=hB.trans ah
 replace L2:=L2.gr ah
 replace L3:=L3.gr ah
 refine ⟨⟨L2,L3⟩,?_⟩
 simp only [p3,p4]
 refine oe ?_
 have aD:=g7.kp.trans (aa.kp.trans ah.kp)
 replace ha:=ha.kp aD
 refine ec 21 (zp8 ha.num aM (by omega)) ?_
 rintro a6 bh ⟨⟨bb,aX,rfl,aE⟩,ai⟩
 refine ⟨_,rfl,?_⟩
 replace hB:=hB.trans ai
 replace L2:=L2.gr ai
 replace L3:=L3.gr ai
 refine ⟨⟨L2,L3⟩,?_⟩
 simp only [p3,p4]
 refine oe ?_
 replace ha:=ha.kp ai.kp
 refine ec 25 (zn5 ha) ?_
 rintro bc a5 ⟨⟨aT,aY,rfl,aK⟩,ad⟩
 refine ⟨_,rfl,?_⟩
 replace hB:=hB.trans ad
 replace L2:=L2.gr ad
 replace L3:=L3.gr ad
 refine ⟨⟨L2,L3⟩,?_⟩
 simp only [p3,p4]
 refine oe ?_
 have aF:=ah.kp.trans (ai.kp.trans ad.kp)
 replace hb:=hb.kp aF
 refine ec 26 (zp8 hb.num aK (by omega)) ?_
 rintro ba aR ⟨⟨bf,bi,rfl,aJ⟩,ab⟩
 refine ⟨_,rfl,?_⟩
 replace hB:=hB.trans ab
 replace L2:=L2.gr ab
 replace L3:=L3.gr ab
 refine ⟨⟨L2,L3⟩,?_⟩
 simp only [p3,p4]
 refine oe ?_
 have aC:=ad.kp.trans ab.kp
 replace aE:=aE.kp aC
 refine ec 27 (add_e (k+m) aE aJ (by omega) (by omega) (by omega)) ?_
 rintro a1 a3 ⟨⟨aQ,a4,rfl,aH⟩,aj⟩
 refine ⟨_,rfl,?_⟩
 replace hB:=hB.trans aj
 replace L2:=L2.gr aj
 replace L3:=L3.gr aj
 refine ⟨⟨L2,L3⟩,?_⟩
 simp only [p3,p4]
 refine oe ?_
 have ay:=ad.kp.trans (ab.kp.trans aj.kp)
 replace ha:=ha.kp ay
 refine ec 29 (zn5 ha) ?_
 rintro bd aS ⟨⟨a7,bk,rfl,aG⟩,ae⟩
 refine ⟨_,rfl,?_⟩
 replace hB:=hB.trans ae
 replace L2:=L2.gr ae
 replace L3:=L3.gr ae
 refine ⟨⟨L2,L3⟩,?_⟩
 simp only [p3,p4]
 refine oe ?_
 have aB:=ab.kp.trans (aj.kp.trans ae.kp)
 replace hb:=hb.kp aB
 refine ec 31 (zn5 hb) ?_
 rintro aZ bm ⟨⟨bj,bp,rfl,aO⟩,af⟩
 refine ⟨_,rfl,?_⟩
 replace hB:=hB.trans af
 replace L2:=L2.gr af
 replace L3:=L3.gr af
 refine ⟨⟨L2,L3⟩,?_⟩
 simp only [p3,p4]
 refine oe ?_
 replace aG:=aG.kp af.kp
 refine ec 32 (zp8 aG aO (by omega)) ?_
 rintro bn aV ⟨⟨bg,a9,rfl,aL⟩,al⟩
 refine ⟨_,rfl,?_⟩
 replace hB:=hB.trans al
 replace L2:=L2.gr al
 replace L3:=L3.gr al
 refine ⟨⟨L2,L3⟩,?_⟩
 simp only [p3,p4]
 refine oe ?_
 have aA:=ae.kp.trans (af.kp.trans al.kp)
 replace aH:=aH.kp aA
 refine ec 33 (zr5 ((k+m+1)) aH aL (Int.mul_pos (Int.natCast_pos.2 a.den_pos) (Int.natCast_pos.2 b.den_pos)) (by omega) (by omega) (by omega) (by omega)) ?_
 rintro aP aU ⟨⟨av,ar,au,aw,rfl,ac⟩,ax⟩
 refine ⟨_,rfl,?_⟩
 replace hB:=hB.trans ax
 replace L2:=L2.gr ax
 replace L3:=L3.gr ax
 refine ⟨⟨L2,L3⟩,?_⟩
 simp only [p3,p4]
 refine oe ?_
 replace L4:=L4.gr (g7.trans (aa.trans (ah.trans (ai.trans (ad.trans (ab.trans (aj.trans (ae.trans (af.trans (al.trans ax))))))))))
 refine es 36 0 (.agg #[av,ar,au,aw]) [av,ar,au,aw] #[av,ar,au,aw] L4 hB q4 ⟨ac.one0,ac.one1,ac.one2,ac.one3,trivial⟩ fun a2 ak az L4 hB=>?_
 replace L2:=ak.lc L2 ap
 replace L3:=ak.lc L3 aq
 refine ⟨⟨L2,L3⟩,?_⟩
 refine zb8 ?_
 refine k9 _ _ ?_
 try clear k9 K9
 refine wp_ret ?_
 refine bodyPost_ret (v:=(.agg #[av,ar,au,aw])) (za9 _ _ _ rfl rfl L4 (by kernel_rfl)) rfl ⟨?_,hB⟩
 replace ac:=ac.kp az
 exact ⟨_,_,_,_,rfl,by rw [← zR8];exact ac⟩

theorem zi7 {k m:Nat} {u0 u1 u2 u3 v0 v1 v2 v3:Value} {a b:Rat} {w:World} (ha:IsRat w k u0 u1 u2 u3 a) (hb:IsRat w m v0 v1 v2 v3 b) (hk:k+m≤100000):
  Calls Tryz.prog 103 #[.agg #[u0,u1,u2,u3],.agg #[v0,v1,v2,v3]] w fun e w'=>(∃ c0 c1 c2 c3,e=.returned (.agg #[c0,c1,c2,c3])∧IsRat w' (k+m+1) c0 c1 c2 c3 (a+b))∧Gr w w':=by
 by_cases wa:a.den=1
 ·by_cases wb:b.den=1
  ·exact add_tt ha hb hk wa wb
  ·exact add_tf ha hb hk wa wb
 ·exact add_f ha hb hk wa

set_option maxRecDepth 100000 in
set_option maxHeartbeats 1000000 in
theorem mul_tt {k m:Nat} {u0 u1 u2 u3 v0 v1 v2 v3:Value} {a b:Rat} {w:World} (ha:IsRat w k u0 u1 u2 u3 a) (hb:IsRat w m v0 v1 v2 v3 b) (_hk:k+m≤100000) (wa:a.den=1) (wb:b.den=1):
    Calls Tryz.prog 82 #[(.agg #[u0,u1,u2,u3]),(.agg #[v0,v1,v2,v3])] w fun e w'=>(∃ c0 c1 c2 c3,e=.returned (.agg #[c0,c1,c2,c3])∧IsRat w' (k+m) c0 c1 c2 c3 (a*b))∧Gr w w':=by
 have hka:=ha.big
 have hkb:=hb.big
 go_enter Tryz.func82,Tryz.ntmps82
 have hB:=Gr.refl w
 refine wp_seq_k (fun K1 k1=>?_)
 refine rg [0,1,2] ?_
 refine se ?_
 refine eb 36 #[u0,u1,u2,u3] 2 hB fun b2 w2 g2 L2 o2 q2 hB=>?_
 simp only [p3,p4]
 refine se ?_
 refine eb 36 #[v0,v1,v2,v3] 3 hB fun b3 w3 g3 L3 o3 q3 hB=>?_
 simp only [p3,p4]
 refine se ?_
 refine ea 36 #[.bool false,.slice none 0 0,.bool false,.slice none 0 0] 4 hB fun b4 w4 g4 L4 o4 q4 hB=>?_
 replace L2:=L2.gr g3
 simp only [p3,p4]
 refine za0 ?_
 refine k1 _ _ ?_
 try clear k1 K1
 refine wp_seq_k (fun K5 k5=>?_)
 refine wp_seq_k (fun K6 k6=>?_)
 refine rg [0,1,2,3,4,5] ?_
 replace L2:=L2.gr g4
 refine sw 5 (.agg #[u0,u1,u2,u3]) rfl (rl 36 0 [u0,u1,u2,u3] L2) ?_
 refine se ?_
 have aj:=g2.kp.trans (g3.kp.trans g4.kp)
 replace ha:=ha.kp aj
 refine ec 6 (zl9 ha (by omega) wa) ?_
 rintro e7 w7 ⟨rfl,g7⟩
 refine ⟨_,rfl,?_⟩
 replace hB:=hB.trans g7
 simp only [p3,p4]
 refine sv 7 (.bool true) ?_
 replace L3:=L3.gr (g4.trans g7)
 refine sw 8 (.agg #[v0,v1,v2,v3]) rfl (rl 36 0 [v0,v1,v2,v3] L3) ?_
 refine se ?_
 have af:=g2.kp.trans (g3.kp.trans (g4.kp.trans g7.kp))
 replace hb:=hb.kp af
 refine ec 9 (zl9 hb (by omega) wb) ?_
 rintro e9 w9 ⟨rfl,g9⟩
 refine ⟨_,rfl,?_⟩
 replace hB:=hB.trans g9
 simp only [p3,p4]
 refine sv 10 (.bool true) ?_
 refine za0 ?_
 refine k6 _ _ ?_
 try clear k6 K6
 refine wp_cond_true rfl ?_
 refine wp_seq_k (fun al ah=>?_)
 refine rg [0,1,2,3,4,5,6] ?_
 refine sv 11 (.pointer (some ⟨b2,0,none⟩)) ?_
 replace L2:=L2.gr (g7.trans g9)
 refine sw 12 (.agg #[u0,u1]) rfl (rl 34 0 [u0,u1] L2) ?_
 refine sv 13 (.pointer (some ⟨b3,0,none⟩)) ?_
 replace L3:=L3.gr g9
 refine sw 14 (.agg #[v0,v1]) rfl (rl 34 0 [v0,v1] L3) ?_
 refine se ?_
 have ad:=g7.kp.trans g9.kp
 replace ha:=ha.kp ad
 replace hb:=hb.kp g9.kp
 refine ec 15 (zp8 ha.num hb.num (by omega)) ?_
 rintro e12 aq ⟨⟨ac,ab,rfl,aa⟩,ai⟩
 refine ⟨_,rfl,?_⟩
 replace hB:=hB.trans ai
 simp only [p3,p4]
 refine sv 16 (.agg #[ac,ab,.bool false,.slice none 0 0]) ?_
 refine se ?_
 replace L4:=L4.gr (g7.trans (g9.trans ai))
 refine es 36 0 (.agg #[ac,ab,.bool false,.slice none 0 0]) [ac,ab,.bool false,.slice none 0 0] #[ac,ab,.bool false,.slice none 0 0] L4 hB q4 ⟨aa.one0,aa.one1,rfl,rfl,trivial⟩ fun ap ak ae L4 hB=>?_
 refine za0 ?_
 refine ah _ _ ?_
 try clear ah al
 refine wp_ret ?_
 simp only [Exit.then]
 refine bodyPost_ret (v:=(.agg #[ac,ab,.bool false,.slice none 0 0])) (za9 _ _ _ rfl rfl L4 (by kernel_rfl)) rfl ⟨?_,hB⟩
 replace aa:=aa.kp ae
 exact ⟨_,_,_,_,rfl,by rw [← zJ0 wa,← zJ0 wb,← Rat.intCast_mul];exact IsRat.int aa (by omega)⟩

set_option maxRecDepth 100000 in
set_option maxHeartbeats 1000000 in
theorem mul_tf {k m:Nat} {u0 u1 u2 u3 v0 v1 v2 v3:Value} {a b:Rat} {w:World} (ha:IsRat w k u0 u1 u2 u3 a) (hb:IsRat w m v0 v1 v2 v3 b) (_hk:k+m≤100000) (wa:a.den=1) (wb:b.den≠1):
    Calls Tryz.prog 82 #[(.agg #[u0,u1,u2,u3]),(.agg #[v0,v1,v2,v3])] w fun e w'=>(∃ c0 c1 c2 c3,e=.returned (.agg #[c0,c1,c2,c3])∧IsRat w' (k+m) c0 c1 c2 c3 (a*b))∧Gr w w':=by
 have hka:=ha.big
 have hkb:=hb.big
 go_enter Tryz.func82,Tryz.ntmps82
 have hB:=Gr.refl w
 refine wp_seq_k (fun K1 k1=>?_)
 refine rg [0,1,2] ?_
 refine se ?_
 refine eb 36 #[u0,u1,u2,u3] 2 hB fun b2 w2 g2 L2 o2 q2 hB=>?_
 simp only [p3,p4]
 refine se ?_
 refine eb 36 #[v0,v1,v2,v3] 3 hB fun b3 w3 g3 L3 o3 q3 hB=>?_
 simp only [p3,p4]
 refine se ?_
 refine ea 36 #[.bool false,.slice none 0 0,.bool false,.slice none 0 0] 4 hB fun b4 w4 g4 L4 o4 q4 hB=>?_
 replace L2:=L2.gr g3
 have ah:=L2.ne o4
 have aj:=L3.ne o4
 simp only [p3,p4]
 refine za0 ?_
 refine k1 _ _ ?_
 try clear k1 K1
 refine wp_seq_k (fun K5 k5=>?_)
 refine wp_seq_k (fun K6 k6=>?_)
 refine rg [0,1,2,3,4,5] ?_
 replace L2:=L2.gr g4
 refine sw 5 (.agg #[u0,u1,u2,u3]) rfl (rl 36 0 [u0,u1,u2,u3] L2) ?_
 refine se ?_
 have aG:=g2.kp.trans (g3.kp.trans g4.kp)
 replace ha:=ha.kp aG
 refine ec 6 (zl9 ha (by omega) wa) ?_
 rintro e7 w7 ⟨rfl,g7⟩
 refine ⟨_,rfl,?_⟩
 replace hB:=hB.trans g7
 simp only [p3,p4]
 refine sv 7 (.bool true) ?_
 replace L3:=L3.gr (g4.trans g7)
 refine sw 8 (.agg #[v0,v1,v2,v3]) rfl (rl 36 0 [v0,v1,v2,v3] L3) ?_
 refine se ?_
 have aA:=g2.kp.trans (g3.kp.trans (g4.kp.trans g7.kp))
 replace hb:=hb.kp aA
 refine ec 9 (zu5 hb (by omega) wb) ?_
 rintro e9 w9 ⟨rfl,g9⟩
 refine ⟨_,rfl,?_⟩
 replace hB:=hB.trans g9
 simp only [p3,p4]
 refine sv 10 (.bool false) ?_
 refine za0 ?_
 refine k6 _ _ ?_
 try clear k6 K6
 refine wp_cond_false rfl ?_
 refine wp_skip ?_
 refine k5 _ _ ?_
 try clear k5 K5
 refine wp_seq_k (fun aD aC=>?_)
 have aa:=Gr.drew w9
 replace hB:=hB.trans aa
 replace L2:=L2.gr (g7.trans (g9.trans aa))
 replace L3:=L3.gr (g9.trans aa)
 refine za2 (fun w'=>Lc w' b2 #[u0,u1,u2,u3] 36∧Lc w' b3 #[v0,v1,v2,v3] 36) [(true,0),(true,1),(true,2),(true,3),(true,5),(true,7),(false,4),(false,6),(false,8),(false,9),(false,10),(false,11)] (by kernel_rfl) (by kernel_rfl) (by kernel_rfl) (by decide) (fun _ _ _ _ _ h=>h) ⟨L2,L3⟩ ?_
 refine ov 17 (.pointer (some ⟨b2,0,none⟩)) ?_
 refine ow 18 (.agg #[u0,u1]) rfl (fun w' hS=>(rl 34 0 [u0,u1] hS.1)) ?_
 refine ov 19 (.pointer (some ⟨b3,0,none⟩)) ?_
 refine ow 20 (.agg #[v0,v1]) rfl (fun w' hS=>(rl 34 0 [v0,v1] hS.2)) ?_
 refine ow 22 (.agg #[u0,u1,u2,u3]) rfl (fun w' hS=>(rl 36 0 [u0,u1,u2,u3] hS.1)) ?_
 refine ow 24 (.agg #[v0,v1,v2,v3]) rfl (fun w' hS=>(rl 36 0 [v0,v1,v2,v3] hS.2)) ?_
 refine oe ?_
 have ax:=g7.kp.trans (g9.kp.trans aa.kp)
 replace ha:=ha.kp ax
 have av:=g9.kp.trans aa.kp
 replace hb:=hb.kp av
 refine ec 21 (zp8 ha.num hb.num (by omega)) ?_
 rintro e31 aI ⟨⟨aK,aQ,rfl,aB⟩,ad⟩
 refine ⟨_,rfl,?_⟩
 replace hB:=hB.trans ad
 replace L2:=L2.gr ad
 replace L3:=L3.gr ad
 refine ⟨⟨L2,L3⟩,?_⟩
 simp only [p3,p4]
 refine oe ?_
 replace ha:=ha.kp ad.kp
 refine ec 23 (zn5 ha) ?_
 rintro aP aU ⟨⟨aL,aY,rfl,aw⟩,ac⟩
 refine ⟨_,rfl,?_⟩
 replace hB:=hB.trans ac
 replace L2:=L2.gr ac
 replace L3:=L3.gr ac
 refine ⟨⟨L2,L3⟩,?_⟩
 simp only [p3,p4]
 refine oe ?_
 have ay:=ad.kp.trans ac.kp
 replace hb:=hb.kp ay
 refine ec 25 (zn5 hb) ?_
 rintro aT aN ⟨⟨aX,aS,rfl,aF⟩,ae⟩
 refine ⟨_,rfl,?_⟩
 replace hB:=hB.trans ae
 replace L2:=L2.gr ae
 replace L3:=L3.gr ae
 refine ⟨⟨L2,L3⟩,?_⟩
 simp only [p3,p4]
 refine oe ?_
 replace aw:=aw.kp ae.kp
 refine ec 26 (zp8 aw aF (by omega)) ?_
 rintro aW aM ⟨⟨aR,aJ,rfl,aE⟩,ai⟩
 refine ⟨_,rfl,?_⟩
 replace hB:=hB.trans ai
 replace L2:=L2.gr ai
 replace L3:=L3.gr ai
 refine ⟨⟨L2,L3⟩,?_⟩
 simp only [p3,p4]
 refine oe ?_
 have az:=ac.kp.trans (ae.kp.trans ai.kp)
 replace aB:=aB.kp az
 refine ec 27 (zr5 ((k+m)) aB aE (Int.mul_pos (Int.natCast_pos.2 a.den_pos) (Int.natCast_pos.2 b.den_pos)) (by omega) (by omega) (by omega) (by omega)) ?_
 rintro aH aV ⟨⟨ar,aq,ap,ak,rfl,ab⟩,al⟩
 refine ⟨_,rfl,?_⟩
 replace hB:=hB.trans al
 replace L2:=L2.gr al
 replace L3:=L3.gr al
 refine ⟨⟨L2,L3⟩,?_⟩
 simp only [p3,p4]
 refine oe ?_
 replace L4:=L4.gr (g7.trans (g9.trans (aa.trans (ad.trans (ac.trans (ae.trans (ai.trans al)))))))
 refine es 36 0 (.agg #[ar,aq,ap,ak]) [ar,aq,ap,ak] #[ar,aq,ap,ak] L4 hB q4 ⟨ab.one0,ab.one1,ab.one2,ab.one3,trivial⟩ fun aO af au L4 hB=>?_
 replace L2:=af.lc L2 ah
 replace L3:=af.lc L3 aj
 refine ⟨⟨L2,L3⟩,?_⟩
 refine zb8 ?_
 refine aC _ _ ?_
 try clear aC aD
 refine wp_ret ?_
 refine bodyPost_ret (v:=(.agg #[ar,aq,ap,ak])) (za9 _ _ _ rfl rfl L4 (by kernel_rfl)) rfl ⟨?_,hB⟩
 replace ab:=ab.kp au
 exact ⟨_,_,_,_,rfl,by rw [← zR9];exact ab⟩

set_option maxRecDepth 100000 in
set_option maxHeartbeats 1000000 in
theorem mul_f {k m:Nat} {u0 u1 u2 u3 v0 v1 v2 v3:Value} {a b:Rat} {w:World} (ha:IsRat w k u0 u1 u2 u3 a) (hb:IsRat w m v0 v1 v2 v3 b) (_hk:k+m≤100000) (wa:a.den≠1):
    Calls Tryz.prog 82 #[(.agg #[u0,u1,u2,u3]),(.agg #[v0,v1,v2,v3])] w fun e w'=>(∃ c0 c1 c2 c3,e=.returned (.agg #[c0,c1,c2,c3])∧IsRat w' (k+m) c0 c1 c2 c3 (a*b))∧Gr w w':=by
 have hka:=ha.big
 have hkb:=hb.big
 go_enter Tryz.func82,Tryz.ntmps82
 have hB:=Gr.refl w
 refine wp_seq_k (fun K1 k1=>?_)
 refine rg [0,1,2] ?_
 refine se ?_
 refine eb 36 #[u0,u1,u2,u3] 2 hB fun b2 w2 g2 L2 o2 q2 hB=>?_
 simp only [p3,p4]
 refine se ?_
 refine eb 36 #[v0,v1,v2,v3] 3 hB fun b3 w3 g3 L3 o3 q3 hB=>?_
 simp only [p3,p4]
 refine se ?_
 refine ea 36 #[.bool false,.slice none 0 0,.bool false,.slice none 0 0] 4 hB fun b4 w4 g4 L4 o4 q4 hB=>?_
 replace L2:=L2.gr g3
 have ai:=L2.ne o4
 have aj:=L3.ne o4
 simp only [p3,p4]
 refine za0 ?_
 refine k1 _ _ ?_
 try clear k1 K1
 refine wp_seq_k (fun K5 k5=>?_)
 refine wp_seq_k (fun K6 k6=>?_)
 refine rg [0,1,2,3,4,5] ?_
 replace L2:=L2.gr g4
 refine sw 5 (.agg #[u0,u1,u2,u3]) rfl (rl 36 0 [u0,u1,u2,u3] L2) ?_
 refine se ?_
 have aD:=g2.kp.trans (g3.kp.trans g4.kp)
 replace ha:=ha.kp aD
 refine ec 6 (zu5 ha (by omega) wa) ?_
 rintro e7 w7 ⟨rfl,g7⟩
 refine ⟨_,rfl,?_⟩
 replace hB:=hB.trans g7
 simp only [p3,p4]
 refine sv 7 (.bool false) ?_
 refine ss 8 ?_
 refine ss 9 ?_
 refine sv 10 (.bool false) ?_
 refine za0 ?_
 refine k6 _ _ ?_
 try clear k6 K6
 refine wp_cond_false rfl ?_
 refine wp_skip ?_
 refine k5 _ _ ?_
 try clear k5 K5
 refine wp_seq_k (fun K9 k9=>?_)
 have aa:=Gr.drew w7
 replace hB:=hB.trans aa
 replace L2:=L2.gr (g7.trans aa)
 replace L3:=L3.gr (g4.trans (g7.trans aa))
 refine za2 (fun w'=>Lc w' b2 #[u0,u1,u2,u3] 36∧Lc w' b3 #[v0,v1,v2,v3] 36) [(true,0),(true,1),(true,2),(true,3),(true,5),(true,7),(false,4),(false,6),(false,8),(false,9),(false,10),(false,11)] (by kernel_rfl) (by kernel_rfl) (by kernel_rfl) (by decide) (fun _ _ _ _ _ h=>h) ⟨L2,L3⟩ ?_
 refine ov 17 (.pointer (some ⟨b2,0,none⟩)) ?_
 refine ow 18 (.agg #[u0,u1]) rfl (fun w' hS=>(rl 34 0 [u0,u1] hS.1)) ?_
 refine ov 19 (.pointer (some ⟨b3,0,none⟩)) ?_
 refine ow 20 (.agg #[v0,v1]) rfl (fun w' hS=>(rl 34 0 [v0,v1] hS.2)) ?_
 refine ow 22 (.agg #[u0,u1,u2,u3]) rfl (fun w' hS=>(rl 36 0 [u0,u1,u2,u3] hS.1)) ?_
 refine ow 24 (.agg #[v0,v1,v2,v3]) rfl (fun w' hS=>(rl 36 0 [v0,v1,v2,v3] hS.2)) ?_
 refine oe ?_
 have az:=g7.kp.trans aa.kp
 replace ha:=ha.kp az
 have ay:=g2.kp.trans (g3.kp.trans (g4.kp.trans (g7.kp.trans aa.kp)))
 replace hb:=hb.kp ay
 refine ec 21 (zp8 ha.num hb.num (by omega)) ?_
 rintro aK aQ ⟨⟨aG,aS,rfl,av⟩,ae⟩
 refine ⟨_,rfl,?_⟩
 replace hB:=hB.trans ae
 replace L2:=L2.gr ae
 replace L3:=L3.gr ae
 refine ⟨⟨L2,L3⟩,?_⟩
 simp only [p3,p4]
 refine oe ?_
 replace ha:=ha.kp ae.kp
 refine ec 23 (zn5 ha) ?_
 rintro e33 aP ⟨⟨aL,aT,rfl,aw⟩,ad⟩
 refine ⟨_,rfl,?_⟩
 replace hB:=hB.trans ad
 replace L2:=L2.gr ad
 replace L3:=L3.gr ad
 refine ⟨⟨L2,L3⟩,?_⟩
 simp only [p3,p4]
 refine oe ?_
 have au:=ae.kp.trans ad.kp
 replace hb:=hb.kp au
 refine ec 25 (zn5 hb) ?_
 rintro aM aR ⟨⟨aI,aV,rfl,aB⟩,ac⟩
 refine ⟨_,rfl,?_⟩
 replace hB:=hB.trans ac
 replace L2:=L2.gr ac
 replace L3:=L3.gr ac
 refine ⟨⟨L2,L3⟩,?_⟩
 simp only [p3,p4]
 refine oe ?_
 replace aw:=aw.kp ac.kp
 refine ec 26 (zp8 aw aB (by omega)) ?_
 rintro aN aE ⟨⟨aF,aH,rfl,aC⟩,ah⟩
 refine ⟨_,rfl,?_⟩
 replace hB:=hB.trans ah
 replace L2:=L2.gr ah
 replace L3:=L3.gr ah
 refine ⟨⟨L2,L3⟩,?_⟩
 simp only [p3,p4]
 refine oe ?_
 have aA:=ad.kp.trans (ac.kp.trans ah.kp)
 replace av:=av.kp aA
 refine ec 27 (zr5 ((k+m)) av aC (Int.mul_pos (Int.natCast_pos.2 a.den_pos) (Int.natCast_pos.2 b.den_pos)) (by omega) (by omega) (by omega) (by omega)) ?_
 rintro aU aJ ⟨⟨ap,al,ak,aq,rfl,ab⟩,ar⟩
 refine ⟨_,rfl,?_⟩
 replace hB:=hB.trans ar
 replace L2:=L2.gr ar
 replace L3:=L3.gr ar
 refine ⟨⟨L2,L3⟩,?_⟩
 simp only [p3,p4]
 refine oe ?_
 replace L4:=L4.gr (g7.trans (aa.trans (ae.trans (ad.trans (ac.trans (ah.trans ar))))))
 refine es 36 0 (.agg #[ap,al,ak,aq]) [ap,al,ak,aq] #[ap,al,ak,aq] L4 hB q4 ⟨ab.one0,ab.one1,ab.one2,ab.one3,trivial⟩ fun aO af ax L4 hB=>?_
 replace L2:=af.lc L2 ai
 replace L3:=af.lc L3 aj
 refine ⟨⟨L2,L3⟩,?_⟩
 refine zb8 ?_
 refine k9 _ _ ?_
 try clear k9 K9
 refine wp_ret ?_
 refine bodyPost_ret (v:=(.agg #[ap,al,ak,aq])) (za9 _ _ _ rfl rfl L4 (by kernel_rfl)) rfl ⟨?_,hB⟩
 replace ab:=ab.kp ax
 exact ⟨_,_,_,_,rfl,by rw [← zR9];exact ab⟩

theorem yb2 {k m:Nat} {u0 u1 u2 u3 v0 v1 v2 v3:Value} {a b:Rat} {w:World} (ha:IsRat w k u0 u1 u2 u3 a) (hb:IsRat w m v0 v1 v2 v3 b) (hk:k+m≤100000):
  Calls Tryz.prog 82 #[.agg #[u0,u1,u2,u3],.agg #[v0,v1,v2,v3]] w fun e w'=>(∃ c0 c1 c2 c3,e=.returned (.agg #[c0,c1,c2,c3])∧IsRat w' (k+m) c0 c1 c2 c3 (a*b))∧Gr w w':=by
 by_cases wa:a.den=1
 ·by_cases wb:b.den=1
  ·exact mul_tt ha hb hk wa wb
  ·exact mul_tf ha hb hk wa wb
 ·exact mul_f ha hb hk wa

set_option maxRecDepth 100000 in
set_option maxHeartbeats 1000000 in
theorem neg_r {k:Nat} {u0 u1 u2 u3:Value} {a:Rat} {w:World} (ha:IsRat w k u0 u1 u2 u3 a):
    Calls Tryz.prog 108 #[(.agg #[u0,u1,u2,u3])] w fun e w'=>(∃ c0 c1 c2 c3,e=.returned (.agg #[c0,c1,c2,c3])∧IsRat w' k c0 c1 c2 c3 (-a))∧Gr w w':=by
 go_enter Tryz.func108,Tryz.ntmps108
 have hB:=Gr.refl w
 refine wp_seq_k (fun K1 k1=>?_)
 refine rg [0,1] ?_
 refine se ?_
 refine eb 36 #[u0,u1,u2,u3] 1 hB fun b2 w2 g2 L2 o2 q2 hB=>?_
 simp only [p3,p4]
 refine se ?_
 refine ea 36 #[.bool false,.slice none 0 0,.bool false,.slice none 0 0] 2 hB fun b3 w3 g3 L3 o3 q3 hB=>?_
 have ad:=L2.ne o3
 simp only [p3,p4]
 refine za0 ?_
 refine k1 _ _ ?_
 try clear k1 K1
 refine wp_seq_k (fun K4 k4=>?_)
 have aa:=Gr.drew w3
 replace hB:=hB.trans aa
 replace L2:=L2.gr (g3.trans aa)
 refine za2 (fun w'=>Lc w' b2 #[u0,u1,u2,u3] 36) [(true,0),(true,1),(true,3),(true,4),(false,2),(true,5),(false,6)] (by kernel_rfl) (by kernel_rfl) (by kernel_rfl) (by decide) (fun _ _ _ _ _ h=>h) L2 ?_
 refine ov 3 (.pointer (some ⟨b2,0,none⟩)) ?_
 refine ow 4 (.agg #[u0,u1]) rfl (fun w' hS=>(rl 34 0 [u0,u1] hS)) ?_
 refine ov 6 (.pointer (some ⟨b2,2,none⟩)) ?_
 refine ow 7 (.agg #[u2,u3]) rfl (fun w' hS=>(rl 34 2 [u2,u3] hS)) ?_
 refine oe ?_
 have ai:=g2.kp.trans (g3.kp.trans aa.kp)
 replace ha:=ha.kp ai
 refine ec 5 (ym9 ha.num) ?_
 rintro e13 ap ⟨⟨af,ae,rfl,ab⟩,ah⟩
 refine ⟨_,rfl,?_⟩
 replace hB:=hB.trans ah
 replace L2:=L2.gr ah
 refine ⟨L2,?_⟩
 simp only [p3,p4]
 refine ov 8 (.agg #[af,ae,u2,u3]) ?_
 refine oe ?_
 replace L3:=L3.gr (aa.trans ah)
 refine es 36 0 (.agg #[af,ae,u2,u3]) [af,ae,u2,u3] #[af,ae,u2,u3] L3 hB q3 ⟨ab.one0,ab.one1,ha.one2,ha.one3,trivial⟩ fun al ak ac L3 hB=>?_
 replace L2:=ak.lc L2 ad
 refine ⟨L2,?_⟩
 refine zb8 ?_
 refine k4 _ _ ?_
 try clear k4 K4
 refine wp_ret ?_
 refine bodyPost_ret (v:=(.agg #[af,ae,u2,u3])) (za9 _ _ _ rfl rfl L3 (by kernel_rfl)) rfl ⟨?_,hB⟩
 have aj:=ah.kp.trans ac
 replace ha:=ha.kp aj
 replace ab:=ab.kp ac
 exact ⟨_,_,_,_,rfl,IsRat.neg ha ab⟩

set_option maxRecDepth 100000 in
set_option maxHeartbeats 1000000 in
theorem zt6 {k m:Nat} {u0 u1 u2 u3 v0 v1 v2 v3:Value} {a b:Rat} {w:World} (ha:IsRat w k u0 u1 u2 u3 a) (hb:IsRat w m v0 v1 v2 v3 b) (_hk:k+m≤100000):
    Calls Tryz.prog 75 #[(.agg #[u0,u1,u2,u3]),(.agg #[v0,v1,v2,v3])] w fun e w'=>(∃ c0 c1 c2 c3,e=.returned (.agg #[c0,c1,c2,c3])∧IsRat w' (k+m+1) c0 c1 c2 c3 (a - b))∧Gr w w':=by
 go_enter Tryz.func75,Tryz.ntmps75
 have hB:=Gr.refl w
 refine wp_seq_k (fun K1 k1=>?_)
 refine rg [0,1,2] ?_
 refine se ?_
 refine eb 36 #[u0,u1,u2,u3] 2 hB fun b2 w2 g2 L2 o2 q2 hB=>?_
 simp only [p3,p4]
 refine se ?_
 refine eb 36 #[v0,v1,v2,v3] 3 hB fun b3 w3 g3 L3 o3 q3 hB=>?_
 simp only [p3,p4]
 refine se ?_
 refine ea 36 #[.bool false,.slice none 0 0,.bool false,.slice none 0 0] 4 hB fun b4 w4 g4 L4 o4 q4 hB=>?_
 replace L2:=L2.gr g3
 have ad:=L2.ne o4
 have af:=L3.ne o4
 simp only [p3,p4]
 refine za0 ?_
 refine k1 _ _ ?_
 try clear k1 K1
 refine wp_seq_k (fun K5 k5=>?_)
 have aa:=Gr.drew w4
 replace hB:=hB.trans aa
 replace L2:=L2.gr (g4.trans aa)
 replace L3:=L3.gr (g4.trans aa)
 refine za2 (fun w'=>Lc w' b2 #[u0,u1,u2,u3] 36∧Lc w' b3 #[v0,v1,v2,v3] 36) [(true,0),(true,1),(false,2),(false,3),(false,4)] (by kernel_rfl) (by kernel_rfl) (by kernel_rfl) (by decide) (fun _ _ _ _ _ h=>h) ⟨L2,L3⟩ ?_
 refine ow 5 (.agg #[u0,u1,u2,u3]) rfl (fun w' hS=>(rl 36 0 [u0,u1,u2,u3] hS.1)) ?_
 refine ow 6 (.agg #[v0,v1,v2,v3]) rfl (fun w' hS=>(rl 36 0 [v0,v1,v2,v3] hS.2)) ?_
 refine oe ?_
 have aq:=g2.kp.trans (g3.kp.trans (g4.kp.trans aa.kp))
 replace hb:=hb.kp aq
 refine ec 7 (neg_r hb) ?_
 rintro aB aA ⟨⟨aw,av,az,ax,rfl,au⟩,ac⟩
 refine ⟨_,rfl,?_⟩
 replace hB:=hB.trans ac
 replace L2:=L2.gr ac
 replace L3:=L3.gr ac
 refine ⟨⟨L2,L3⟩,?_⟩
 simp only [p3,p4]
 refine oe ?_
 have ap:=g2.kp.trans (g3.kp.trans (g4.kp.trans (aa.kp.trans ac.kp)))
 replace ha:=ha.kp ap
 refine ec 8 (zi7 ha au (by omega)) ?_
 rintro aC aD ⟨⟨aj,ai,ah,al,rfl,ab⟩,ak⟩
 refine ⟨_,rfl,?_⟩
 replace hB:=hB.trans ak
 replace L2:=L2.gr ak
 replace L3:=L3.gr ak
 refine ⟨⟨L2,L3⟩,?_⟩
 simp only [p3,p4]
 refine oe ?_
 replace L4:=L4.gr (aa.trans (ac.trans ak))
 refine es 36 0 (.agg #[aj,ai,ah,al]) [aj,ai,ah,al] #[aj,ai,ah,al] L4 hB q4 ⟨ab.one0,ab.one1,ab.one2,ab.one3,trivial⟩ fun ay ae ar L4 hB=>?_
 replace L2:=ae.lc L2 ad
 replace L3:=ae.lc L3 af
 refine ⟨⟨L2,L3⟩,?_⟩
 refine zb8 ?_
 refine k5 _ _ ?_
 try clear k5 K5
 refine wp_ret ?_
 refine bodyPost_ret (v:=(.agg #[aj,ai,ah,al])) (za9 _ _ _ rfl rfl L4 (by kernel_rfl)) rfl ⟨?_,hB⟩
 replace ab:=ab.kp ar
 exact ⟨_,_,_,_,rfl,by rw [Rat.sub_eq_add_neg];exact ab⟩

set_option maxRecDepth 100000 in
set_option maxHeartbeats 1000000 in
theorem num_r {k:Nat} {u0 u1 u2 u3:Value} {a:Rat} {w:World} (ha:IsRat w k u0 u1 u2 u3 a):
    Calls Tryz.prog 130 #[(.agg #[u0,u1,u2,u3])] w fun e w'=>(∃ x' y',e=.returned (.agg #[x',y'])∧IsInt w' k x' y' (a.num))∧Gr w w':=by
 go_enter Tryz.func130,Tryz.ntmps130
 have hB:=Gr.refl w
 refine wp_seq_k (fun K1 k1=>?_)
 refine rg [0,1] ?_
 refine se ?_
 refine eb 36 #[u0,u1,u2,u3] 1 hB fun b2 w2 g2 L2 o2 q2 hB=>?_
 simp only [p3,p4]
 refine se ?_
 refine ea 34 #[.bool false,.slice none 0 0] 2 hB fun b3 w3 g3 L3 o3 q3 hB=>?_
 simp only [p3,p4]
 refine za0 ?_
 refine k1 _ _ ?_
 try clear k1 K1
 refine wp_seq_k (fun K4 k4=>?_)
 refine rg [0,1,2] ?_
 refine sv 3 (.pointer (some ⟨b2,0,none⟩)) ?_
 replace L2:=L2.gr g3
 refine sw 4 (.agg #[u0,u1]) rfl (rl 34 0 [u0,u1] L2) ?_
 refine se ?_
 refine es 34 0 (.agg #[u0,u1]) [u0,u1] #[u0,u1] L3 hB q3 ⟨ha.one0,ha.one1,trivial⟩ fun w5 ac ab L3 hB=>?_
 refine za0 ?_
 refine k4 _ _ ?_
 try clear k4 K4
 refine wp_ret ?_
 refine bodyPost_ret (v:=(.agg #[u0,u1])) (za9 _ _ _ rfl rfl L3 (by kernel_rfl)) rfl ⟨?_,hB⟩
 have aa:=g2.kp.trans (g3.kp.trans ab)
 replace ha:=ha.kp aa
 exact ⟨_,_,rfl,ha.num⟩

set_option maxRecDepth 100000 in
set_option maxHeartbeats 1000000 in
theorem zM8 {k:Nat} {u0 u1 u2 u3:Value} {a:Rat} {w:World} (ha:IsRat w k u0 u1 u2 u3 a):
    Calls Tryz.prog 76 #[(.agg #[u0,u1,u2,u3])] w fun e w'=>e=.returned (.int .i64 (sgn a.num))∧Gr w w':=by
 go_enter Tryz.func76,Tryz.ntmps76
 have hB:=Gr.refl w
 refine wp_seq_k (fun K1 k1=>?_)
 refine rg [0,1] ?_
 refine se ?_
 refine eb 36 #[u0,u1,u2,u3] 1 hB fun b2 w2 g2 L2 o2 q2 hB=>?_
 simp only [p3,p4]
 refine sv 2 (.int .i64 0) ?_
 refine za0 ?_
 refine k1 _ _ ?_
 try clear k1 K1
 refine wp_seq_k (fun K3 k3=>?_)
 refine rg [0,1,2,3] ?_
 refine sv 3 (.pointer (some ⟨b2,0,none⟩)) ?_
 refine sw 4 (.agg #[u0,u1]) rfl (rl 34 0 [u0,u1] L2) ?_
 refine se ?_
 replace ha:=ha.kp g2.kp
 refine ec 5 (yh4 ha.num) ?_
 rintro e4 w4 ⟨rfl,g4⟩
 refine ⟨_,rfl,?_⟩
 replace hB:=hB.trans g4
 simp only [p3,p4]
 refine sv 2 (.int .i64 (sgn (a.num))) ?_
 refine za0 ?_
 refine k3 _ _ ?_
 try clear k3 K3
 refine wp_ret ?_
 refine bodyPost_ret (v:=(.int .i64 (sgn (a.num)))) (zb0 rfl rfl) rfl ⟨?_,hB⟩
 exact rfl

set_option maxRecDepth 100000 in
set_option maxHeartbeats 1000000 in
theorem zV0 (z:Int) (_h0:-9223372036854775808≤z) (_h1:z≤9223372036854775807) (w:World):
    Calls Tryz.prog 59 #[(.int .i64 (z))] w fun e w'=>(∃ c0 c1 c2 c3,e=.returned (.agg #[c0,c1,c2,c3])∧IsRat w' 64 c0 c1 c2 c3 ((z:Rat)))∧Gr w w':=by
 go_enter Tryz.func59,Tryz.ntmps59
 have hB:=Gr.refl w
 refine wp_seq_k (fun K1 k1=>?_)
 refine rg [0] ?_
 refine se ?_
 refine ea 36 #[.bool false,.slice none 0 0,.bool false,.slice none 0 0] 2 hB fun b2 w2 g2 L2 o2 q2 hB=>?_
 simp only [p3,p4]
 refine za0 ?_
 refine k1 _ _ ?_
 try clear k1 K1
 refine wp_seq_k (fun K3 k3=>?_)
 refine rg [0,1,2,3] ?_
 refine sv 3 (.int .i64 (z)) ?_
 refine se ?_
 refine ec 4 (yh5 (z) (by omega) (by omega) _) ?_
 rintro e4 w4 ⟨⟨x4,y4,rfl,h4⟩,g4⟩
 refine ⟨_,rfl,?_⟩
 replace hB:=hB.trans g4
 simp only [p3,p4]
 refine sv 5 (.agg #[x4,y4,.bool false,.slice none 0 0]) ?_
 refine se ?_
 replace L2:=L2.gr g4
 refine es 36 0 (.agg #[x4,y4,.bool false,.slice none 0 0]) [x4,y4,.bool false,.slice none 0 0] #[x4,y4,.bool false,.slice none 0 0] L2 hB q2 ⟨h4.one0,h4.one1,rfl,rfl,trivial⟩ fun w5 ab aa L2 hB=>?_
 refine za0 ?_
 refine k3 _ _ ?_
 try clear k3 K3
 refine wp_ret ?_
 refine bodyPost_ret (v:=(.agg #[x4,y4,.bool false,.slice none 0 0])) (za9 _ _ _ rfl rfl L2 (by kernel_rfl)) rfl ⟨?_,hB⟩
 replace h4:=h4.kp aa
 exact ⟨_,_,_,_,rfl,IsRat.int h4 (by omega)⟩

set_option maxRecDepth 100000 in
set_option maxHeartbeats 1000000 in
theorem rcomp_tt {k m:Nat} {u0 u1 u2 u3 v0 v1 v2 v3:Value} {a b:Rat} {w:World} (ha:IsRat w k u0 u1 u2 u3 a) (hb:IsRat w m v0 v1 v2 v3 b) (_hk:k+m≤100000) (wa:a.den=1) (wb:b.den=1):
    Calls Tryz.prog 37 #[(.agg #[u0,u1,u2,u3]),(.agg #[v0,v1,v2,v3])] w fun e w'=>e=.returned (.int .i64 (yo1 a b))∧Gr w w':=by
 have hka:=ha.big
 have hkb:=hb.big
 go_enter Tryz.func37,Tryz.ntmps37
 have hB:=Gr.refl w
 refine wp_seq_k (fun K1 k1=>?_)
 refine rg [0,1,2] ?_
 refine se ?_
 refine eb 36 #[u0,u1,u2,u3] 2 hB fun b2 w2 g2 L2 o2 q2 hB=>?_
 simp only [p3,p4]
 refine se ?_
 refine eb 36 #[v0,v1,v2,v3] 3 hB fun b3 w3 g3 L3 o3 q3 hB=>?_
 simp only [p3,p4]
 refine sv 4 (.int .i64 0) ?_
 refine za0 ?_
 refine k1 _ _ ?_
 try clear k1 K1
 refine wp_seq_k (fun K4 k4=>?_)
 refine wp_seq_k (fun K5 k5=>?_)
 refine rg [0,1,2,3,4,5] ?_
 replace L2:=L2.gr g3
 refine sw 5 (.agg #[u0,u1,u2,u3]) rfl (rl 36 0 [u0,u1,u2,u3] L2) ?_
 refine se ?_
 have af:=g2.kp.trans g3.kp
 replace ha:=ha.kp af
 refine ec 6 (zl9 ha (by omega) wa) ?_
 rintro e6 w6 ⟨rfl,g6⟩
 refine ⟨_,rfl,?_⟩
 replace hB:=hB.trans g6
 simp only [p3,p4]
 refine sv 7 (.bool true) ?_
 replace L3:=L3.gr g6
 refine sw 8 (.agg #[v0,v1,v2,v3]) rfl (rl 36 0 [v0,v1,v2,v3] L3) ?_
 refine se ?_
 have ad:=g2.kp.trans (g3.kp.trans g6.kp)
 replace hb:=hb.kp ad
 refine ec 9 (zl9 hb (by omega) wb) ?_
 rintro e8 w8 ⟨rfl,g8⟩
 refine ⟨_,rfl,?_⟩
 replace hB:=hB.trans g8
 simp only [p3,p4]
 refine sv 10 (.bool true) ?_
 refine za0 ?_
 refine k5 _ _ ?_
 try clear k5 K5
 refine wp_cond_true rfl ?_
 refine wp_seq_k (fun ae ab=>?_)
 refine rg [0,1,2,3,4,5] ?_
 refine sv 11 (.pointer (some ⟨b2,0,none⟩)) ?_
 replace L2:=L2.gr (g6.trans g8)
 refine sw 12 (.agg #[u0,u1]) rfl (rl 34 0 [u0,u1] L2) ?_
 refine sv 13 (.pointer (some ⟨b3,0,none⟩)) ?_
 replace L3:=L3.gr g8
 refine sw 14 (.agg #[v0,v1]) rfl (rl 34 0 [v0,v1] L3) ?_
 refine se ?_
 have aa:=g6.kp.trans g8.kp
 replace ha:=ha.kp aa
 replace hb:=hb.kp g8.kp
 refine ec 15 (ze0 ha.num hb.num (by omega) (by omega)) ?_
 rintro e11 ah ⟨rfl,ac⟩
 refine ⟨_,rfl,?_⟩
 replace hB:=hB.trans ac
 simp only [p3,p4]
 refine sv 4 (.int .i64 (sgn (a.num - b.num))) ?_
 refine za0 ?_
 refine ab _ _ ?_
 try clear ab ae
 refine wp_ret ?_
 simp only [Exit.then]
 refine bodyPost_ret (v:=(.int .i64 (sgn (a.num - b.num)))) (zb0 rfl rfl) rfl ⟨?_,hB⟩
 exact by rw [rcmp_int wa wb]

set_option maxRecDepth 100000 in
set_option maxHeartbeats 1000000 in
theorem rcomp_tf {k m:Nat} {u0 u1 u2 u3 v0 v1 v2 v3:Value} {a b:Rat} {w:World} (ha:IsRat w k u0 u1 u2 u3 a) (hb:IsRat w m v0 v1 v2 v3 b) (_hk:k+m≤100000) (wa:a.den=1) (wb:b.den≠1):
    Calls Tryz.prog 37 #[(.agg #[u0,u1,u2,u3]),(.agg #[v0,v1,v2,v3])] w fun e w'=>e=.returned (.int .i64 (yo1 a b))∧Gr w w':=by
 have hka:=ha.big
 have hkb:=hb.big
 go_enter Tryz.func37,Tryz.ntmps37
 have hB:=Gr.refl w
 refine wp_seq_k (fun K1 k1=>?_)
 refine rg [0,1,2] ?_
 refine se ?_
 refine eb 36 #[u0,u1,u2,u3] 2 hB fun b2 w2 g2 L2 o2 q2 hB=>?_
 simp only [p3,p4]
 refine se ?_
 refine eb 36 #[v0,v1,v2,v3] 3 hB fun b3 w3 g3 L3 o3 q3 hB=>?_
 simp only [p3,p4]
 refine sv 4 (.int .i64 0) ?_
 refine za0 ?_
 refine k1 _ _ ?_
 try clear k1 K1
 refine wp_seq_k (fun K4 k4=>?_)
 refine wp_seq_k (fun K5 k5=>?_)
 refine rg [0,1,2,3,4,5] ?_
 replace L2:=L2.gr g3
 refine sw 5 (.agg #[u0,u1,u2,u3]) rfl (rl 36 0 [u0,u1,u2,u3] L2) ?_
 refine se ?_
 have av:=g2.kp.trans g3.kp
 replace ha:=ha.kp av
 refine ec 6 (zl9 ha (by omega) wa) ?_
 rintro e6 w6 ⟨rfl,g6⟩
 refine ⟨_,rfl,?_⟩
 replace hB:=hB.trans g6
 simp only [p3,p4]
 refine sv 7 (.bool true) ?_
 replace L3:=L3.gr g6
 refine sw 8 (.agg #[v0,v1,v2,v3]) rfl (rl 36 0 [v0,v1,v2,v3] L3) ?_
 refine se ?_
 have aq:=g2.kp.trans (g3.kp.trans g6.kp)
 replace hb:=hb.kp aq
 refine ec 9 (zu5 hb (by omega) wb) ?_
 rintro e8 w8 ⟨rfl,g8⟩
 refine ⟨_,rfl,?_⟩
 replace hB:=hB.trans g8
 simp only [p3,p4]
 refine sv 10 (.bool false) ?_
 refine za0 ?_
 refine k5 _ _ ?_
 try clear k5 K5
 refine wp_cond_false rfl ?_
 refine wp_skip ?_
 refine k4 _ _ ?_
 try clear k4 K4
 refine wp_seq_k (fun aw ap=>?_)
 have aa:=Gr.drew w8
 replace hB:=hB.trans aa
 replace L2:=L2.gr (g6.trans (g8.trans aa))
 replace L3:=L3.gr (g8.trans aa)
 refine za2 (fun w'=>Lc w' b2 #[u0,u1,u2,u3] 36∧Lc w' b3 #[v0,v1,v2,v3] 36) [(true,0),(true,1),(true,2),(true,5),(true,6),(true,7),(false,3),(false,4),(false,8),(false,9),(false,10),(true,11)] (by kernel_rfl) (by kernel_rfl) (by kernel_rfl) (by decide) (fun _ _ _ _ _ h=>h) ⟨L2,L3⟩ ?_
 refine ov 16 (.pointer (some ⟨b2,0,none⟩)) ?_
 refine ow 17 (.agg #[u0,u1]) rfl (fun w' hS=>(rl 34 0 [u0,u1] hS.1)) ?_
 refine ow 18 (.agg #[v0,v1,v2,v3]) rfl (fun w' hS=>(rl 36 0 [v0,v1,v2,v3] hS.2)) ?_
 refine ov 21 (.pointer (some ⟨b3,0,none⟩)) ?_
 refine ow 22 (.agg #[v0,v1]) rfl (fun w' hS=>(rl 34 0 [v0,v1] hS.2)) ?_
 refine ow 23 (.agg #[u0,u1,u2,u3]) rfl (fun w' hS=>(rl 36 0 [u0,u1,u2,u3] hS.1)) ?_
 refine oe ?_
 have ai:=g8.kp.trans aa.kp
 replace hb:=hb.kp ai
 refine ec 19 (zn5 hb) ?_
 rintro aN aK ⟨⟨aL,aM,rfl,ar⟩,ad⟩
 refine ⟨_,rfl,?_⟩
 replace hB:=hB.trans ad
 replace L2:=L2.gr ad
 replace L3:=L3.gr ad
 refine ⟨⟨L2,L3⟩,?_⟩
 simp only [p3,p4]
 refine oe ?_
 have aj:=g6.kp.trans (g8.kp.trans (aa.kp.trans ad.kp))
 replace ha:=ha.kp aj
 refine ec 20 (zp8 ha.num ar (by omega)) ?_
 rintro e31 ay ⟨⟨aD,aI,rfl,al⟩,ac⟩
 refine ⟨_,rfl,?_⟩
 replace hB:=hB.trans ac
 replace L2:=L2.gr ac
 replace L3:=L3.gr ac
 refine ⟨⟨L2,L3⟩,?_⟩
 simp only [p3,p4]
 refine oe ?_
 replace ha:=ha.kp ac.kp
 refine ec 24 (zn5 ha) ?_
 rintro aE aG ⟨⟨aJ,aA,rfl,ax⟩,ab⟩
 refine ⟨_,rfl,?_⟩
 replace hB:=hB.trans ab
 replace L2:=L2.gr ab
 replace L3:=L3.gr ab
 refine ⟨⟨L2,L3⟩,?_⟩
 simp only [p3,p4]
 refine oe ?_
 have ah:=ad.kp.trans (ac.kp.trans ab.kp)
 replace hb:=hb.kp ah
 refine ec 25 (zp8 hb.num ax (by omega)) ?_
 rintro aO aF ⟨⟨aC,aH,rfl,au⟩,ae⟩
 refine ⟨_,rfl,?_⟩
 replace hB:=hB.trans ae
 replace L2:=L2.gr ae
 replace L3:=L3.gr ae
 refine ⟨⟨L2,L3⟩,?_⟩
 simp only [p3,p4]
 refine oe ?_
 have af:=ab.kp.trans ae.kp
 replace al:=al.kp af
 refine ec 26 (ze0 al au (by omega) (by omega)) ?_
 rintro aB az ⟨rfl,ak⟩
 refine ⟨_,rfl,?_⟩
 replace hB:=hB.trans ak
 replace L2:=L2.gr ak
 replace L3:=L3.gr ak
 refine ⟨⟨L2,L3⟩,?_⟩
 simp only [p3,p4]
 refine ov 4 (.int .i64 (sgn ((a.num*(b.den:Int)) - (b.num*(a.den:Int))))) ?_
 refine zb8 ?_
 refine ap _ _ ?_
 try clear ap aw
 refine wp_ret ?_
 refine bodyPost_ret (v:=(.int .i64 (sgn ((a.num*(b.den:Int)) - (b.num*(a.den:Int)))))) (zb0 rfl rfl) rfl ⟨?_,hB⟩
 exact rfl

set_option maxRecDepth 100000 in
set_option maxHeartbeats 1000000 in
theorem rcomp_f {k m:Nat} {u0 u1 u2 u3 v0 v1 v2 v3:Value} {a b:Rat} {w:World} (ha:IsRat w k u0 u1 u2 u3 a) (hb:IsRat w m v0 v1 v2 v3 b) (_hk:k+m≤100000) (wa:a.den≠1):
    Calls Tryz.prog 37 #[(.agg #[u0,u1,u2,u3]),(.agg #[v0,v1,v2,v3])] w fun e w'=>e=.returned (.int .i64 (yo1 a b))∧Gr w w':=by
 have hka:=ha.big
 have hkb:=hb.big
 go_enter Tryz.func37,Tryz.ntmps37
 have hB:=Gr.refl w
 refine wp_seq_k (fun K1 k1=>?_)
 refine rg [0,1,2] ?_
 refine se ?_
 refine eb 36 #[u0,u1,u2,u3] 2 hB fun b2 w2 g2 L2 o2 q2 hB=>?_
 simp only [p3,p4]
 refine se ?_
 refine eb 36 #[v0,v1,v2,v3] 3 hB fun b3 w3 g3 L3 o3 q3 hB=>?_
 simp only [p3,p4]
 refine sv 4 (.int .i64 0) ?_
 refine za0 ?_
 refine k1 _ _ ?_
 try clear k1 K1
 refine wp_seq_k (fun K4 k4=>?_)
 refine wp_seq_k (fun K5 k5=>?_)
 refine rg [0,1,2,3,4,5] ?_
 replace L2:=L2.gr g3
 refine sw 5 (.agg #[u0,u1,u2,u3]) rfl (rl 36 0 [u0,u1,u2,u3] L2) ?_
 refine se ?_
 have aq:=g2.kp.trans g3.kp
 replace ha:=ha.kp aq
 refine ec 6 (zu5 ha (by omega) wa) ?_
 rintro e6 w6 ⟨rfl,g6⟩
 refine ⟨_,rfl,?_⟩
 replace hB:=hB.trans g6
 simp only [p3,p4]
 refine sv 7 (.bool false) ?_
 refine ss 8 ?_
 refine ss 9 ?_
 refine sv 10 (.bool false) ?_
 refine za0 ?_
 refine k5 _ _ ?_
 try clear k5 K5
 refine wp_cond_false rfl ?_
 refine wp_skip ?_
 refine k4 _ _ ?_
 try clear k4 K4
 refine wp_seq_k (fun K8 k8=>?_)
 have aa:=Gr.drew w6
 replace hB:=hB.trans aa
 replace L2:=L2.gr (g6.trans aa)
 replace L3:=L3.gr (g6.trans aa)
 refine za2 (fun w'=>Lc w' b2 #[u0,u1,u2,u3] 36∧Lc w' b3 #[v0,v1,v2,v3] 36) [(true,0),(true,1),(true,2),(true,5),(true,6),(true,7),(false,3),(false,4),(false,8),(false,9),(false,10),(true,11)] (by kernel_rfl) (by kernel_rfl) (by kernel_rfl) (by decide) (fun _ _ _ _ _ h=>h) ⟨L2,L3⟩ ?_
 refine ov 16 (.pointer (some ⟨b2,0,none⟩)) ?_
 refine ow 17 (.agg #[u0,u1]) rfl (fun w' hS=>(rl 34 0 [u0,u1] hS.1)) ?_
 refine ow 18 (.agg #[v0,v1,v2,v3]) rfl (fun w' hS=>(rl 36 0 [v0,v1,v2,v3] hS.2)) ?_
 refine ov 21 (.pointer (some ⟨b3,0,none⟩)) ?_
 refine ow 22 (.agg #[v0,v1]) rfl (fun w' hS=>(rl 34 0 [v0,v1] hS.2)) ?_
 refine ow 23 (.agg #[u0,u1,u2,u3]) rfl (fun w' hS=>(rl 36 0 [u0,u1,u2,u3] hS.1)) ?_
 refine oe ?_
 have af:=g2.kp.trans (g3.kp.trans (g6.kp.trans aa.kp))
 replace hb:=hb.kp af
 refine ec 19 (zn5 hb) ?_
 rintro az aE ⟨⟨aH,av,rfl,ap⟩,ac⟩
 refine ⟨_,rfl,?_⟩
 replace hB:=hB.trans ac
 replace L2:=L2.gr ac
 replace L3:=L3.gr ac
 refine ⟨⟨L2,L3⟩,?_⟩
 simp only [p3,p4]
 refine oe ?_
 have ak:=g6.kp.trans (aa.kp.trans ac.kp)
 replace ha:=ha.kp ak
 refine ec 20 (zp8 ha.num ap (by omega)) ?_
 rintro aB aI ⟨⟨ax,aL,rfl,ah⟩,ad⟩
 refine ⟨_,rfl,?_⟩
 replace hB:=hB.trans ad
 replace L2:=L2.gr ad
 replace L3:=L3.gr ad
 refine ⟨⟨L2,L3⟩,?_⟩
 simp only [p3,p4]
 refine oe ?_
 replace ha:=ha.kp ad.kp
 refine ec 24 (zn5 ha) ?_
 rintro e32 aK ⟨⟨aG,aJ,rfl,ar⟩,ab⟩
 refine ⟨_,rfl,?_⟩
 replace hB:=hB.trans ab
 replace L2:=L2.gr ab
 replace L3:=L3.gr ab
 refine ⟨⟨L2,L3⟩,?_⟩
 simp only [p3,p4]
 refine oe ?_
 have al:=ac.kp.trans (ad.kp.trans ab.kp)
 replace hb:=hb.kp al
 refine ec 25 (zp8 hb.num ar (by omega)) ?_
 rintro ay aC ⟨⟨aD,aw,rfl,au⟩,ae⟩
 refine ⟨_,rfl,?_⟩
 replace hB:=hB.trans ae
 replace L2:=L2.gr ae
 replace L3:=L3.gr ae
 refine ⟨⟨L2,L3⟩,?_⟩
 simp only [p3,p4]
 refine oe ?_
 have ai:=ab.kp.trans ae.kp
 replace ah:=ah.kp ai
 refine ec 26 (ze0 ah au (by omega) (by omega)) ?_
 rintro aF aA ⟨rfl,aj⟩
 refine ⟨_,rfl,?_⟩
 replace hB:=hB.trans aj
 replace L2:=L2.gr aj
 replace L3:=L3.gr aj
 refine ⟨⟨L2,L3⟩,?_⟩
 simp only [p3,p4]
 refine ov 4 (.int .i64 (sgn ((a.num*(b.den:Int)) - (b.num*(a.den:Int))))) ?_
 refine zb8 ?_
 refine k8 _ _ ?_
 try clear k8 K8
 refine wp_ret ?_
 refine bodyPost_ret (v:=(.int .i64 (sgn ((a.num*(b.den:Int)) - (b.num*(a.den:Int)))))) (zb0 rfl rfl) rfl ⟨?_,hB⟩
 exact rfl

theorem zV1 {k m:Nat} {u0 u1 u2 u3 v0 v1 v2 v3:Value} {a b:Rat} {w:World} (ha:IsRat w k u0 u1 u2 u3 a) (hb:IsRat w m v0 v1 v2 v3 b) (hk:k+m≤100000):
  Calls Tryz.prog 37 #[.agg #[u0,u1,u2,u3],.agg #[v0,v1,v2,v3]] w fun e w'=>e=.returned (.int .i64 (yo1 a b))∧Gr w w':=by
 by_cases wa:a.den=1
 ·by_cases wb:b.den=1
  ·exact rcomp_tt ha hb hk wa wb
  ·exact rcomp_tf ha hb hk wa wb
 ·exact rcomp_f ha hb hk wa

theorem itoa_n (n:Nat) (h1:n<1000000000) {w:World} (ht:Tab w):
  Calls Tryz.prog 135 #[.int .i64 (n:Int)] w fun e w'=>e=.returned (.string ⟨(Lib.decDigits n).toArray⟩)∧Gr w w':=itoa_t n (by omega) (by omega) ht
theorem short9 {ao:Option Addr} {la ca u:Nat} {w:World} (h:Mag w ao la ca (u:Int)) (hl:la≤1000000):
  Calls Tryz.prog 134 #[.slice ao la ca,.int .u32 1000000000] w fun e w'=>
   (∃ go k cap,e=.returned (.tuple #[.slice go k cap,.int .u32 ((u % 1000000000:Nat):Int)])∧Mag w' go k cap ((u/1000000000:Nat):Int))∧Gr w w':=
 yp8 ao la ca u 1000000000 w (by omega) h (by omega) (by omega)
theorem Mag.pos0 {w:World} {ao:Option Addr} {la ca u:Nat} (h:Mag w ao la ca (u:Int)) (hb:decide ((0:Int)<(la:Int))=true):0<u:=by
 have h0:(0:Int)<la:=by simpa using hb
 rcases Nat.eq_zero_or_pos u with e | e
 ·have:=h.nl.len_zero.2 (by omega);omega
 ·exact e
theorem Mag.zero0 {w:World} {ao:Option Addr} {la ca u:Nat} (h:Mag w ao la ca (u:Int)) (hb:decide ((0:Int)<(la:Int))=false):u=0:=by
 have h0:¬ (0:Int)<la:=by simpa using hb
 have:=h.nl.len_zero.1 (by omega)
 omega
theorem Mag.len9 {w:World} {ao:Option Addr} {la ca u k:Nat} (h:Mag w ao la ca (u:Int)) (hu:u<2 ^ k) (hk:k≤1000000):la≤1000000:=by
 have:=h.nl.len_sz (show Sz k (u:Int) by unfold Sz;simpa using hu)
 omega
set_option maxRecDepth 100000 in
set_option maxHeartbeats 4000000 in
theorem text_pos {k N:Nat} {s:Bool} {ao:Option Addr} {la ca:Nat} {w:World} (ha:Mag w ao la ca (N:Int)) (hN:0<N) (hNk:N<2 ^ k) (_hk:k≤900000) (ht:Tab w):
    Calls Tryz.prog 114 #[(.agg #[(.bool (s)),.slice ao la ca])] w fun e w'=>e=.returned (.string ⟨((if s then [45] else [])++Lib.decDigits N).toArray⟩)∧Gr w w':=by
 have hla:0<la:=by
    rcases Nat.eq_zero_or_pos la with e | e
    · have:=ha.nl.len_zero.1 e;omega
    · exact e
 have e0:((la:Int)==(0:Int))=false:=by simp;omega
 go_enter Tryz.func114,Tryz.ntmps114
 have hB:=Gr.refl w
 refine wp_seq_k (fun K1 k1=>?_)
 refine rg [0,1] ?_
 refine se ?_
 refine eb 34 #[(.bool (s)),.slice ao la ca] 1 hB fun b2 w2 g2 L2 o2 q2 hB=>?_
 simp only [p3,p4]
 refine sv 2 (.string ⟨([]:List UInt8).toArray⟩) ?_
 refine za0 ?_
 refine k1 _ _ ?_
 try clear k1 K1
 refine wp_seq_k (fun K3 k3=>?_)
 refine wp_seq_k (fun K4 k4=>?_)
 refine rg [0,1,2,3] ?_
 refine sv 9 (.pointer (some ⟨b2,1,none⟩)) ?_
 refine sw 10 (.slice ao la ca) rfl (rk 32 1 L2) ?_
 refine sv 11 (.int .i64 ((la:Int))) ?_
 refine sw 12 (.bool false) rfl (RunV.bool (x:=((la:Int)==(0:Int))) (rvk (by kernel_rfl)) e0) ?_
 refine za0 ?_
 refine k4 _ _ ?_
 try clear k4 K4
 refine wp_cond_false rfl ?_
 refine wp_skip ?_
 refine k3 _ _ ?_
 try clear k3 K3
 refine wp_seq_k (fun K5 k5=>?_)
 refine rg [0] ?_
 refine sv 3 (.slice none 0 0) ?_
 refine za0 ?_
 refine k5 _ _ ?_
 try clear k5 K5
 refine wp_seq_k (fun K6 k6=>?_)
 refine wp_seq_k (fun K7 k7=>?_)
 refine rg [0,1,2] ?_
 refine sv 13 (.pointer (some ⟨b2,1,none⟩)) ?_
 refine sw 14 (.slice ao la ca) rfl (rk 32 1 L2) ?_
 refine sv 4 (.slice ao la ca) ?_
 refine za0 ?_
 refine k7 _ _ ?_
 try clear k7 K7
 refine wp_block ?_
 replace ha:=ha.kp g2.kp
 refine zm9 (a:=⟨List.toArray ?l8,[]⟩) (fun n a w'=>∃ (u:Nat) (L:List (List UInt8)) (v:Value) (mo:Option Addr) (ml:Nat) (mc:Nat) (u8:Nat→Value),u=n∧a=⟨[(u8 0),(.pointer (some ⟨b2,0,none⟩)),(.string ⟨([]:List UInt8).toArray⟩),v,.slice mo ml mc,(u8 5),(u8 6),(u8 7),undef,(u8 9),(u8 10),(u8 11),.bool false,(u8 13),(u8 14),(u8 15),(u8 16),(u8 17),(u8 18),(u8 19),(u8 20),(u8 21),(u8 22),(u8 23),(u8 24),(u8 25),(u8 26),(u8 27),(u8 28),(u8 29),(u8 30),(u8 31),(u8 32),(u8 33),(u8 34),(u8 35),(u8 36),(u8 37),(u8 38),(u8 39),undef,undef,undef,undef,undef,undef,undef,undef,undef].toArray,[]⟩∧L++ya2 u=ya2 N∧u<2 ^ k∧Mag w' mo ml mc (u:Int)∧OwnS w' 9 w.heap.size v (L.map yp1)∧Lc w' b2 #[(.bool (s)),.slice ao la ca] 34∧Gr w w') (N) ?_ ?_
 ·exact ⟨N,[],.slice none 0 0,ao,la,ca,(fun i=>List.getD ?l8 i undef),rfl,rfl,(by simp),hNk,ha,(OwnS.nil _ _ _),L2,hB⟩
 rintro n8 a8 w8 ⟨u,L,v,mo,ml,mc,u8,rfl,rfl,hX,hu,hm,hown,L2,hB⟩ K8 k8
 have hln:L.length≤1000000:=by have h1:=yf5 k N hNk;rw [← hX,List.length_append] at h1;omega
 have h9:=dec9 u
 have bk:(Lib.repeatL [48] (9 - (Lib.decDigits (u % 1000000000)).length)).length≤9:=by rw [Lib.repeatL_length];simp
 refine wp_seq_k (fun K9 k9=>?_)
 refine wp_seq_k (fun ba aR=>?_)
 refine rg [0,1,2] ?_
 refine sv 15 (.slice mo ml mc) ?_
 refine sv 16 (.int .i64 ((ml:Int))) ?_
 refine sv 17 (.bool (decide ((0:Int)<(ml:Int)))) ?_
 refine za0 ?_
 refine aR _ _ ?_
 try clear aR ba
 refine wp_cond_split (t:=decide ((0:Int)<(ml:Int))) rfl (fun aj=>?_) (fun aj=>?_)
 ·have ax:=aj
  refine wp_skip ?_
  refine k9 _ _ ?_
  try clear k9 K9
  refine wp_block ?_
  refine wp_seq_k (fun a4 aU=>?_)
  refine rg [0,1,2,3,4,5,6] ?_
  refine sv 19 (.slice mo ml mc) ?_
  refine se ?_
  refine ec 20 (short9 hm (hm.len9 hu (by omega))) ?_
  rintro e13 bo ⟨⟨ab,ac,aa,rfl,af⟩,al⟩
  refine ⟨_,rfl,?_⟩
  replace hB:=hB.trans al
  simp only [p3,p4]
  refine sv 18 (.tuple #[.slice ab ac aa,(.int .u32 (((u % 1000000000:Nat):Int)))]) ?_
  refine sv 21 (.slice ab ac aa) ?_
  refine sv 22 (.int .u32 (((u % 1000000000:Nat):Int))) ?_
  refine sv 5 (.slice ab ac aa) ?_
  refine sv 6 (.int .u32 (((u % 1000000000:Nat):Int))) ?_
  refine za0 ?_
  refine aU _ _ ?_
  try clear aU a4
  refine wp_seq_k (fun bc aM=>?_)
  refine rg [0,1,2,3] ?_
  refine sv 23 (.int .u32 (((u % 1000000000:Nat):Int))) ?_
  refine sw 24 (.int .i64 (((u % 1000000000:Nat):Int))) rfl (RunV.int (x:=IntKind.i64.wrap (((u % 1000000000:Nat):Int))) (y:=((u % 1000000000:Nat):Int)) (rvk (by kernel_rfl)) (by first | rfl | (rw [IntKind.wrap_i64];omega))) ?_
  refine se ?_
  refine ec 25 (itoa_n (u % 1000000000) (by omega) (ht.gr hB)) ?_
  rintro bt bp ⟨rfl,ai⟩
  refine ⟨_,rfl,?_⟩
  replace hB:=hB.trans ai
  simp only [p3,p4]
  refine sv 7 (.string ⟨(Lib.decDigits (u % 1000000000):List UInt8).toArray⟩) ?_
  refine za0 ?_
  refine aM _ _ ?_
  try clear aM bc
  refine wp_seq_k (fun aS au=>?_)
  refine wp_seq_k (fun aZ aK=>?_)
  refine rg [0,1,2] ?_
  refine sv 26 (.slice ab ac aa) ?_
  refine sv 27 (.int .i64 ((ac:Int))) ?_
  refine sv 28 (.bool (decide ((0:Int)<(ac:Int)))) ?_
  refine za0 ?_
  refine aK _ _ ?_
  try clear aK aZ
  refine wp_cond_split (t:=decide ((0:Int)<(ac:Int))) rfl (fun ah=>?_) (fun ah=>?_)
  ·refine rg [0,1,2,3,4,5,6] ?_
   refine sv 29 (.string ⟨(Lib.decDigits (u % 1000000000):List UInt8).toArray⟩) ?_
   refine sv 30 (.int .i64 (((Lib.decDigits (u % 1000000000)).length:Int))) ?_
   refine sw 31 (.int .i64 ((9 - ((Lib.decDigits (u % 1000000000)).length:Int)))) rfl (RunV.int (x:=IntKind.i64.wrap ((9 - ((Lib.decDigits (u % 1000000000)).length:Int)))) (y:=(9 - ((Lib.decDigits (u % 1000000000)).length:Int))) (rvk (by kernel_rfl)) (by first | rfl | (rw [IntKind.wrap_i64];omega))) ?_
   refine se ?_
   refine ec 32 (repeat9 (Lib.decDigits (u % 1000000000)).length (dec9 u) _) ?_
   rintro bg bm ⟨rfl,aw⟩
   refine ⟨_,rfl,?_⟩
   replace hB:=hB.trans aw
   simp only [p3,p4]
   refine sv 33 (.string ⟨(Lib.decDigits (u % 1000000000):List UInt8).toArray⟩) ?_
   refine sw 34 (.string ⟨((Lib.repeatL [48] (9 - (Lib.decDigits (u % 1000000000)).length))++(Lib.decDigits (u % 1000000000)):List UInt8).toArray⟩) rfl (zC2 9 9 _ _ (Lib.repeatL [48] (9 - (Lib.decDigits (u % 1000000000)).length)) (Lib.decDigits (u % 1000000000)) rfl rfl rfl (by omega)) ?_
   refine sv 7 (.string ⟨((Lib.repeatL [48] (9 - (Lib.decDigits (u % 1000000000)).length))++(Lib.decDigits (u % 1000000000)):List UInt8).toArray⟩) ?_
   refine za0 ?_
   refine au _ _ ?_
   try clear au aS
   refine wp_seq_k (fun a9 aG=>?_)
   refine rg [0,1,2,3,4] ?_
   refine sv 35 v ?_
   refine sv 36 (.string ⟨((Lib.repeatL [48] (9 - (Lib.decDigits (u % 1000000000)).length))++(Lib.decDigits (u % 1000000000)):List UInt8).toArray⟩) ?_
   refine se ?_
   refine yh8 9 1 #[(.string ⟨((Lib.repeatL [48] (9 - (Lib.decDigits (u % 1000000000)).length))++(Lib.decDigits (u % 1000000000)):List UInt8).toArray⟩)] (some 37) rfl (fun _=>by kernel_rfl) (fun a0 bq ay aY bj=>?_)
   replace L2:=L2.gr (al.trans (ai.trans aw))
   replace hB:=hB.trans ay
   simp only [zL2,p3,p4]
   refine se ?_
   replace hown:=hown.gr (al.trans (ai.trans (aw.trans ay)))
   refine zH2 _ _ 179 9 w.heap.size (.string ⟨([]:List UInt8).toArray⟩) v _ a0 (.string ⟨((Lib.repeatL [48] (9 - (Lib.decDigits (u % 1000000000)).length))++(Lib.decDigits (u % 1000000000)):List UInt8).toArray⟩) 1 (some 38) 16 rfl rfl rfl rfl hown aY rfl w hB (Nat.le_refl _) (Below.size hB) (by rw [List.length_map];exact hln) (by decide) (by kernel_rfl) (by kernel_rfl) rfl (fun aL bh ad ar aB=>?_)
   replace hB:=aB
   replace ad:=OwnS.snoc (f:=yp1) ad
   simp only [zL2,p3,p4]
   refine sv 3 aL ?_
   refine za0 ?_
   refine aG _ _ ?_
   try clear aG a9
   refine rg [0,1] ?_
   refine sv 39 (.slice ab ac aa) ?_
   refine sv 4 (.slice ab ac aa) ?_
   refine za0 ?_
   have aA:=ai.kp.trans (aw.kp.trans (ay.kp.trans (ar.kp (by decide))))
   replace af:=af.kp aA
   replace L2:=ar.lc (L2.gr ay) (by decide)
   refine k8 (u/1000000000) ⟨List.toArray ?l24,[]⟩ _ (Nat.div_lt_self (Mag.pos0 hm ax) (by omega)) ?_
   exact ⟨u/1000000000,_,aL,ab,ac,aa,(fun i=>List.getD ?l24 i undef),rfl,rfl,(zU3 hX (Mag.pos0 hm ax) (grp_hi (Mag.pos0 af ah))),(Nat.lt_of_le_of_lt (Nat.div_le_self _ _) hu),af,ad,L2,hB⟩
  ·refine wp_skip ?_
   refine au _ _ ?_
   try clear au aS
   refine wp_seq_k (fun a5 aT=>?_)
   refine rg [0,1,2,3,4] ?_
   refine sv 35 v ?_
   refine sv 36 (.string ⟨(Lib.decDigits (u % 1000000000):List UInt8).toArray⟩) ?_
   refine se ?_
   refine yh8 9 1 #[(.string ⟨(Lib.decDigits (u % 1000000000):List UInt8).toArray⟩)] (some 37) rfl (fun _=>by kernel_rfl) (fun a6 bn av aW bf=>?_)
   replace L2:=L2.gr (al.trans ai)
   replace hB:=hB.trans av
   simp only [zL2,p3,p4]
   refine se ?_
   replace hown:=hown.gr (al.trans (ai.trans av))
   refine zH2 _ _ 179 9 w.heap.size (.string ⟨([]:List UInt8).toArray⟩) v _ a6 (.string ⟨(Lib.decDigits (u % 1000000000):List UInt8).toArray⟩) 1 (some 38) 16 rfl rfl rfl rfl hown aW rfl w hB (Nat.le_refl _) (Below.size hB) (by rw [List.length_map];exact hln) (by decide) (by kernel_rfl) (by kernel_rfl) rfl (fun aO bi ae aq aC=>?_)
   replace hB:=aC
   replace ae:=OwnS.snoc (f:=yp1) ae
   simp only [zL2,p3,p4]
   refine sv 3 aO ?_
   refine za0 ?_
   refine aT _ _ ?_
   try clear aT a5
   refine rg [0,1] ?_
   refine sv 39 (.slice ab ac aa) ?_
   refine sv 4 (.slice ab ac aa) ?_
   refine za0 ?_
   have az:=ai.kp.trans (av.kp.trans (aq.kp (by decide)))
   replace af:=af.kp az
   replace L2:=aq.lc (L2.gr av) (by decide)
   refine k8 (u/1000000000) ⟨List.toArray ?l29,[]⟩ _ (Nat.div_lt_self (Mag.pos0 hm ax) (by omega)) ?_
   exact ⟨u/1000000000,_,aO,ab,ac,aa,(fun i=>List.getD ?l29 i undef),rfl,rfl,(zU3 hX (Mag.pos0 hm ax) (grp_lo (by rw [Mag.zero0 af ah];omega))),(Nat.lt_of_le_of_lt (Nat.div_le_self _ _) hu),af,ae,L2,hB⟩
 ·have hz:=Mag.zero0 hm aj
  subst hz
  rw [zv4,List.append_nil] at hX
  have aN:0<L.length:=by rw [hX];exact yp6 hN
  have htx:L.reverse.flatten=Lib.decDigits N:=by rw [hX];exact yp5 N N (Nat.le_refl _) hN
  have hfl:L.reverse.flatten.length≤140737488355328:=by rw [htx];have:=zh3 k N hNk;omega
  refine wp_exit ?_
  simp only [Exit.then,Exit.inBlock,↓reduceIte]
  refine k6 _ _ ?_
  try clear k6 K6
  refine wp_seq_k (fun bb aI=>?_)
  refine rg [0,1] ?_
  refine sv 40 v ?_
  refine se ?_
  refine zS1 (some 41) rfl (by kernel_rfl) (yd4 hown aN) ?_
  rintro e31 bd ⟨rfl,ap,aD,aE⟩
  refine ⟨_,rfl,?_⟩
  replace hB:=aE _ hB (Nat.le_refl _)
  simp only [zL2,p3,p4]
  refine za0 ?_
  refine aI _ _ ?_
  try clear aI bb
  refine wp_seq_k (fun a2 aQ=>?_)
  refine rg [0,1,2] ?_
  refine sv 42 v ?_
  refine se ?_
  refine ec 43 (join_own ap (by rw [List.length_reverse];exact aN) hfl (by rw [List.length_reverse];exact hln)) ?_
  rintro e33 bu ⟨rfl,aJ⟩
  refine ⟨_,rfl,?_⟩
  replace hB:=hB.trans aJ
  simp only [p3,p4]
  refine sv 8 (.string ⟨(((L).reverse).flatten:List UInt8).toArray⟩) ?_
  refine za0 ?_
  refine aQ _ _ ?_
  try clear aQ a2
  refine wp_seq_k (fun a7 aF=>?_)
  refine wp_seq_k (fun a3 aV=>?_)
  refine rg [0,1] ?_
  refine sv 44 (.pointer (some ⟨b2,0,none⟩)) ?_
  replace L2:=(aD.lc L2 (by decide)).gr aJ
  refine sw 45 (.bool (s)) rfl (rk 4 0 L2) ?_
  refine za0 ?_
  refine aV _ _ ?_
  try clear aV a3
  refine wp_cond_split (t:=s) rfl (fun ak=>?_) (fun ak=>?_)
  ·refine wp_seq_k (fun a1 aH=>?_)
   refine rg [0,1,2] ?_
   refine sv 46 (.string ⟨(((L).reverse).flatten:List UInt8).toArray⟩) ?_
   refine sw 47 (.string ⟨(([45])++(((L).reverse).flatten):List UInt8).toArray⟩) rfl (zC2 9 9 _ _ ([45]) (((L).reverse).flatten) rfl rfl rfl (by simp only [List.length_cons,List.length_nil];omega)) ?_
   refine sv 2 (.string ⟨(([45])++(((L).reverse).flatten):List UInt8).toArray⟩) ?_
   refine za0 ?_
   refine aH _ _ ?_
   try clear aH a1
   refine wp_ret ?_
   simp only [Exit.then]
   refine bodyPost_ret (v:=(.string ⟨(([45])++(((L).reverse).flatten):List UInt8).toArray⟩)) (zb0 rfl rfl) rfl ⟨?_,hB⟩
   exact (by rw [ak];show Ending.returned _=_;rw [htx];rfl)
  ·refine wp_skip ?_
   refine aF _ _ ?_
   try clear aF a7
   refine wp_seq_k (fun aX aP=>?_)
   refine rg [0,1] ?_
   refine sv 48 (.string ⟨(((L).reverse).flatten:List UInt8).toArray⟩) ?_
   refine sv 2 (.string ⟨(((L).reverse).flatten:List UInt8).toArray⟩) ?_
   refine za0 ?_
   refine aP _ _ ?_
   try clear aP aX
   refine wp_ret ?_
   refine bodyPost_ret (v:=(.string ⟨(((L).reverse).flatten:List UInt8).toArray⟩)) (zb0 rfl rfl) rfl ⟨?_,hB⟩
   exact (by rw [ak];show Ending.returned _=_;rw [htx];rfl)

set_option maxRecDepth 100000 in
set_option maxHeartbeats 1000000 in
theorem yr0 {ao:Option Addr} {ca:Nat} (w:World):
    Calls Tryz.prog 114 #[(.agg #[.bool false,.slice ao 0 ca])] w fun e w'=>e=.returned (.string ⟨#[48]⟩)∧Gr w w':=by
 go_enter Tryz.func114,Tryz.ntmps114
 have hB:=Gr.refl w
 refine wp_seq_k (fun K1 k1=>?_)
 refine rg [0,1] ?_
 refine se ?_
 refine eb 34 #[.bool false,.slice ao 0 ca] 1 hB fun b2 w2 g2 L2 o2 q2 hB=>?_
 simp only [p3,p4]
 refine sv 2 (.string ⟨([]:List UInt8).toArray⟩) ?_
 refine za0 ?_
 refine k1 _ _ ?_
 try clear k1 K1
 refine wp_seq_k (fun K3 k3=>?_)
 refine wp_seq_k (fun K4 k4=>?_)
 refine rg [0,1,2,3] ?_
 refine sv 9 (.pointer (some ⟨b2,1,none⟩)) ?_
 refine sw 10 (.slice ao 0 ca) rfl (rk 32 1 L2) ?_
 refine sv 11 (.int .i64 0) ?_
 refine sv 12 (.bool true) ?_
 refine za0 ?_
 refine k4 _ _ ?_
 try clear k4 K4
 refine wp_cond_true rfl ?_
 refine wp_seq_k (fun K5 k5=>?_)
 refine rg [0] ?_
 refine sv 2 (.string ⟨([48]:List UInt8).toArray⟩) ?_
 refine za0 ?_
 refine k5 _ _ ?_
 try clear k5 K5
 refine wp_ret ?_
 simp only [Exit.then]
 refine bodyPost_ret (v:=(.string ⟨([48]:List UInt8).toArray⟩)) (zb0 rfl rfl) rfl ⟨?_,hB⟩
 exact rfl

theorem yr1 {k:Nat} {x y:Value} {z:Int} {w:World} (hz:IsInt w k x y z) (hk:k≤900000) (ht:Tab w):
  Calls Tryz.prog 114 #[.agg #[x,y]] w fun e w'=>e=.returned (.string ⟨(Lib.itoa z).toArray⟩)∧Gr w w':=by
 obtain ⟨ao,la,ca,rfl,rfl,ha,hs⟩:=hz
 by_cases h0:z=0
 ·subst h0
  have:la=0:=ha.nl.len_zero.2 rfl
  subst this
  have e1:decide ((0:Int)<0)=false:=by decide
  have e2:Lib.itoa 0=[48]:=by unfold Lib.itoa;rw [if_neg (by omega)];exact zc0 (by decide)
  rw [e1,e2]
  exact yr0 w
 ·have:=text_pos (s:=decide (z<0)) ha (by omega) (by unfold Sz at hs;exact hs) hk ht
  refine this.mono ?_
  rintro e w1 ⟨he,g⟩
  refine ⟨?_,g⟩
  rw [he]
  unfold Lib.itoa
  by_cases hz:z<0
  ·simp [hz]
  ·have:z.toNat=z.natAbs:=by omega
   simp [hz,this]

theorem zk3 {k:Nat} {z:Int} (h:Sz k z):(Lib.itoa z).length≤k+2:=by
 unfold Lib.itoa
 have h1:=zh3 k z.natAbs h
 split
 ·simp;omega
 ·have:z.toNat=z.natAbs:=by omega
  rw [this];omega
theorem zh6 {N D:Int} (h0:0<D):(Rat.divInt N D).num=N/(Int.gcd N D:Int)∧((Rat.divInt N D).den:Int)=D/(Int.gcd N D:Int)∧0<(Int.gcd N D:Int):=by
 refine ⟨by rw [Rat.num_divInt,Int.sign_eq_one_of_pos h0,Int.one_mul,Int.gcd_comm],?_,?_⟩
 ·rw [Rat.den_divInt,if_neg (by omega),Int.gcd_comm,Int.natCast_ediv]
  congr 1
  omega
 ·have:Int.gcd N D≠0:=by rw [Ne,Int.gcd_eq_zero_iff];omega
  omega
theorem text_w {N D:Int} (h0:0<D) (hb:(Lib.itoa (D/(Int.gcd N D:Int))==[49])=true):Lib.itoa (N/(Int.gcd N D:Int))=za1 (Rat.divInt N D):=by
 obtain ⟨h1,h2,_⟩:=zh6 (N:=N) h0
 have h3:D/(Int.gcd N D:Int)=1:=zz1 (by rw [itoa_one];exact eq_of_beq hb)
 rw [zM2 (by omega),h1]
theorem text_f {N D:Int} (h0:0<D) (hb:(Lib.itoa (D/(Int.gcd N D:Int))==[49])=false):Lib.itoa (N/(Int.gcd N D:Int))++[47]++Lib.itoa (D/(Int.gcd N D:Int))=za1 (Rat.divInt N D):=by
 obtain ⟨h1,h2,_⟩:=zh6 (N:=N) h0
 have h3:¬ (Rat.divInt N D).den=1:=fun e=>by
  rw [e] at h2
  rw [← h2] at hb
  rw [show ((1:Nat):Int)=1 from rfl,itoa_one] at hb
  exact absurd hb (by decide)
 rw [zU4 h3,h1,h2]
theorem zR6 {k m:Nat} {N D:Int} (hN:Sz k N) (hD:Sz m D):Sz (k+m) (Int.gcd N D:Int):=sz_gcd hN hD
theorem zO0 {k:Nat} {N g:Int} (hN:Sz k N) (hg:0<g):Sz k (N/g):=by
 refine hN.of_le ?_
 rcases Int.lt_or_le N 0 with h | h
 ·have h1:N≤N/g:=by
   rw [Int.le_ediv_iff_mul_le hg]
   have:N*g≤N*1:=Int.mul_le_mul_of_nonpos_left (by omega) (by omega)
   omega
  have h2:N/g<0:=Int.ediv_neg_of_neg_of_pos h hg
  omega
 ·have h1:N/g≤N:=Int.ediv_le_self _ h
  have h2:0≤N/g:=Int.ediv_nonneg h (by omega)
  omega
theorem zI9 (N D:Int):Rat.divInt (-N) (-D)=Rat.divInt N D:=by
 exact Rat.neg_divInt_neg N D
theorem slash_at {l:List UInt8} {k:Nat} (h:l[k]?=some 47) (hn:(l.take k).all (· !=47)=true):(zm0 l).length=k∧zm0 l=l.take k∧zD5 l=l.drop (k+1)∧k<l.length:=by
 have hk:k<l.length:=(List.getElem?_eq_some_iff.1 h).1
 have e:l=l.take k++47::l.drop (k+1):=by
  have h1:l[k]=47:=(List.getElem?_eq_some_iff.1 h).2
  rw [← h1,List.getElem_cons_drop,List.take_append_drop]
 have hc:zg5 l=(l.take k,some (l.drop (k+1))):=by
  conv=>lhs;rw [e]
  exact zF5 (fun c hc=>by simpa using List.all_eq_true.1 hn c hc)
 unfold zm0 zD5
 rw [hc]
 exact ⟨by simp;omega,rfl,rfl,hk⟩
theorem slash_no {l:List UInt8} (hn:l.all (· !=47)=true):zm0 l=l∧zD5 l=[49]:=by
 have hc:zg5 l=(l,none):=zF4 (fun c hc=>by simpa using List.all_eq_true.1 hn c hc)
 unfold zm0 zD5
 rw [hc]
 exact ⟨rfl,rfl⟩
theorem zW8 {s:ByteArray} {k:Nat} (h:k<s.size) (ha:(s.data.toList.take k).all (· !=47)=true) (h0:((s[k].toNat:Int)==47)=false):(s.data.toList.take (k+1)).all (· !=47)=true:=by
 rw [List.take_add_one,zs9 h,List.all_append,ha]
 simp only [Option.toList_some,List.all_cons,List.all_nil,Bool.and_true,Bool.true_and,bne_iff_ne,ne_eq]
 intro e
 rw [e] at h0
 exact absurd h0 (by decide)
theorem yx3 {s:ByteArray} {k:Nat} (h:k<s.size) (h0:((s[k].toNat:Int)==47)=true):s.data.toList[k]?=some 47:=by
 rw [zs9 h]
 congr 1
 rw [← UInt8.toNat_inj]
 have:=eq_of_beq h0
 have:(47:UInt8).toNat=47:=rfl
 omega
set_option maxHeartbeats 1000000 in
theorem r2_slash (s:ByteArray) (w:World) (hs:s.size≤1000000):
  Calls Tryz.prog 118 #[.string s] w fun e w'=>e=.returned (.int .i64 ((zm0 s.data.toList).length:Int))∧w=w':=by
 go_enter Tryz.func118,Tryz.ntmps118
 go_wp2
 go_loop [3] (fun i=>∃ k:Nat,k≤s.size∧i=.int .i64 k∧Hid ((s.data.toList.take k).all (· !=47)=true)) (fun i=>s.size - (intOf i).toNat)
 case atStart=>exact ⟨0,Nat.zero_le _,rfl,rfl⟩
 case round=>
  obtain ⟨k,hk,rfl,hz⟩:=hrel
  by_cases hlt:k<s.size
  ·cases h0:((s[k].toNat:Int)==47)
   ·go_wp2
    go_round
    case rel=>exact ⟨k+1,by omega,by go_num,zW8 hlt hz.out h0⟩
    case measure=>simp [intOf];omega
   ·have HS:=Lib.hid (slash_at (yx3 hlt h0) hz.out)
    go_wp2
    go_ret
    exact ⟨zg1 (by rw [HS.out.1]),rfl⟩
  ·obtain rfl:k=s.size:=by omega
   have HS:Hid (zm0 s.data.toList=s.data.toList):=by
    have h1:=hz.out
    rw [List.take_of_length_le (by simp)] at h1
    exact (slash_no h1).1
   go_wp2
   go_ret
   exact ⟨zg1 (by rw [HS.out];simp),rfl⟩
theorem zR7 {s:ByteArray} {l:List UInt8} (h:s.data.toList=l):s=⟨l.toArray⟩:=by
 apply ByteArray.ext
 rw [← h]
theorem yx4 (l:List UInt8):(zm0 l).length≤l.length∧((zm0 l).length=l.length→zm0 l=l∧zD5 l=[49])∧((zm0 l).length<l.length→zm0 l=l.take (zm0 l).length∧zD5 l=l.drop ((zm0 l).length+1)):=by
 have h:=zz5 l
 unfold zm0 zD5
 cases hd:(zg5 l).2 with
 | none=>
  rw [hd] at h;dsimp only at h
  rw [← h]
  exact ⟨Nat.le_refl _,fun _=>⟨rfl,rfl⟩,fun hh=>absurd hh (Nat.lt_irrefl _)⟩
 | some d=>
  rw [hd] at h;dsimp only at h
  clear hd
  generalize (zg5 l).1=a at*
  subst h
  refine ⟨by simp,fun hh=>by simp at hh,fun _=>⟨by simp,?_⟩⟩
  rw [List.drop_append]
  simp
set_option maxHeartbeats 1000000 in
theorem r2_parts (s:ByteArray) (w:World) (hs:s.size≤1000000):
  Calls Tryz.prog 99 #[.string s] w fun e w'=>e=.returned (.tuple #[.string ⟨(zm0 s.data.toList).toArray⟩,.string ⟨(zD5 s.data.toList).toArray⟩])∧Gr w w':=by
 obtain ⟨h1,h2,h3⟩:=yx4 s.data.toList
 have hsl:s.data.toList.length=s.size:=by simp
 rw [hsl] at h1 h2 h3
 obtain ⟨k,hk⟩:∃ k,k=(zm0 s.data.toList).length:=⟨_,rfl⟩
 have hc:=r2_slash s w hs
 rw [← hk] at h1 h2 h3 hc
 have HK:=Lib.hid hk
 have H2:=Lib.hid h2
 have H3:=Lib.hid h3
 clear hk h2 h3 hsl
 go_enter Tryz.func99,Tryz.ntmps99
 go_wp2_with fail
 refine hc.mono ?_
 rintro e w1 ⟨rfl,rfl⟩
 clear hc
 by_cases hks:k=s.size
 ·have h2:=H2.out hks
  have HKS:=Lib.hid hks
  have HH:=Lib.hid h2
  have ht:((k:Int)==(s.size:Int))=true:=by rw [beq_iff_eq];omega
  clear h2 hks
  go_wp2
  go_ret2
  refine ⟨?_,Gr.refl _⟩
  rw [HH.out.1,HH.out.2,← zR7 (s:=s) rfl]
  rfl
 ·have h3:=H3.out (by omega)
  have HH:=Lib.hid h3
  have hlt:k<s.size:=by omega
  have ht:((k:Int)==(s.size:Int))=false:=by rw [beq_eq_false_iff_ne];omega
  have i0:(0:Int)≤(k:Int):=by omega
  have i1:(k:Int)≤(s.size:Int):=by omega
  have i2:(k:Int)+1≤(s.size:Int):=by omega
  clear h3 hks
  go_wp2
  go_quiet (fail)
  go_wp2
  go_ret2
  refine ⟨?_,(Below.refl _ _).drewN _⟩
  rw [HH.out.1,HH.out.2]
  have e1:s.extract 0 k=⟨(s.data.toList.take k).toArray⟩:=zR7 (by rw [Lib.extract_data];simp)
  have e2:s.extract (k+1) s.size=⟨(s.data.toList.drop (k+1)).toArray⟩:=zR7 (by
   rw [Lib.extract_data,List.take_of_length_le]
   simp)
  rw [← e1,← e2]
  rfl
section
variable {l:List UInt8} {most:Nat}
end
theorem head48 {D:ByteArray} (h:0<D.size):(D.data.toList[0]?==some 48)=((D[0].toNat:Int)==48):=by
 rw [zs9 h,Bool.eq_iff_iff]
 simp only [beq_iff_eq,Option.some.injEq]
 rw [← UInt8.toNat_inj]
 have:(48:UInt8).toNat=48:=rfl
 omega
theorem zn4 {k:Nat} {q:Rat} (h1:Sz k q.num) (h2:Sz k (q.den:Int)):(za1 q).length≤2*k+5:=by
 have a:=zk3 h1
 have b:=zk3 h2
 unfold za1
 split
 ·omega
 ·simp only [List.length_append,List.length_singleton];omega
theorem zg8 {k:Nat} (q:Rat) (h1:Sz k q.num) (h2:Sz k (q.den:Int)) (hk:k≤400000) (w:World):
  Calls Tryz.prog 99 #[.string ⟨(za1 q).toArray⟩] w fun e w'=>e=.returned (.tuple #[.string ⟨(Lib.itoa q.num).toArray⟩,.string ⟨(Lib.itoa (q.den:Int)).toArray⟩])∧Gr w w':=by
 have hl:=zn4 h1 h2
 have:=r2_parts ⟨(za1 q).toArray⟩ w (by show (za1 q).toArray.size≤_;simp;omega)
 have e:(⟨(za1 q).toArray⟩:ByteArray).data.toList=za1 q:=by simp
 rw [e,zv3,zF7] at this
 exact this
theorem zr4 (q:Rat):0<(q.den:Int):=Int.natCast_pos.2 q.den_pos
theorem zE6 (a b:Rat):0<(a.den:Int)*(b.den:Int):=Int.mul_pos (zr4 a) (zr4 b)
theorem rat_neg (a:Rat):Rat.divInt (-a.num) (a.den:Int)=-a:=by
 rw [← Rat.neg_divInt,Rat.num_divInt_den]
theorem yx5 {k:Nat} {a:Rat} (h:Sz k a.num∧Sz k (a.den:Int)):Sz k (-a).num∧Sz k ((-a).den:Int):=by
 rw [Rat.neg_num,Rat.neg_den]
 exact ⟨h.1.neg,h.2⟩
set_option maxRecDepth 100000 in
set_option maxHeartbeats 2000000 in
theorem yz1 (ao:Option Addr) (la ca:Nat) (m x p:Int) (w:World) (hla:la≤900000) (ha:Mag w ao la ca m) (ad:0≤x) (ah:x<4294967296) (al:0≤p) (aj:p<4294967296):
  Calls Tryz.prog 173 #[.slice ao la ca,.int .u32 x,.int .u32 p] w fun e w'=>(∃ go k cap,e=.returned (.slice go k cap)∧Mag w' go k cap (m*x+p)∧k≤la+1)∧Gr w w':=by
 go_enter Tryz.func173,Tryz.ntmps173
 go_wp2_with (at_make;refine zd6 _ rfl _ _ rfl _ _ (la+1) rfl rfl (by omega) (by omega) (by omega) ?_)
 intro w1 hO hB hsz
 go_wp2
 go_loopw [8,19] (fun c i wr=>∃ (k:Nat) (cr:Int) (d:Nat→Int),k≤la∧i=.int .i64 k∧c=.int .u64 cr∧0≤cr∧cr<4294967296∧Hid (hi (m*x+p) k=hi m k*x+cr)∧Below w.heap.size w wr∧
   Own wr w.heap.size (la+1) d∧Hid (∀ j,j<k→d j=dg (m*x+p) j)) (fun _ i _=>la - (intOf i).toNat)
 case atStart=>exact ⟨0,p,_,Nat.zero_le _,rfl,rfl,al,aj,by simp [Hid,zd0],hB,hO,fun j hj=>by omega⟩
 case round=>
  obtain ⟨k,cr,d,hk,rfl,rfl,af,ae,hz,hB,hO,hd⟩:=hrel
  by_cases hlt:k<la
  ·obtain ⟨b1,ak,rfl,ab⟩:=(ha.row.below hB).at_ (by omega)
   have ac:=ab k hlt
   clear ab
   have d0:=za3 m k
   have d1:=zd7 m k
   have aa:=hO.cell k (by omega)
   have hfree:=hO.free k
   have hs:=zN1 hz.out af ae ad ah
   have z0:=hs.2.2.2.2.1
   have z1:=hs.2.2.2.2.2
   have z2:dg m k*x≤18446744065119617025:=by
    have:=Int.mul_le_mul (show dg m k≤4294967295 by omega) (show x≤4294967295 by omega) ad (by omega)
    omega
   have HS:=Lib.hid hs
   clear hs
   go_wp2
   have hs:=HS.out
   go_roundw
   case rel=>
    refine ⟨k+1,_,_,by omega,by go_num,rfl,hs.2.2.1,hs.2.2.2.1,hs.2.1,hB.setCell (Nat.le_refl _) _,hO.set (by omega) _,fun j hj=>?_⟩
    by_cases e:j=k
    ·subst e;rw [zb5,hs.1]
    ·rw [za7 _ _ e];exact hd.out j (by omega)
   case measure=>simp [intOf];omega
  ·obtain rfl:k=la:=by omega
   have aa:=hO.cell k (by omega)
   have hfree:=hO.free k
   have ai:0≤m*x+p:=by have:=Int.mul_nonneg ha.nl.nonneg ad;omega
   have htop:hi (m*x+p) (k+1)=0:=by
    have h1:=hz.out
    rw [ha.nl.top,Int.zero_mul] at h1
    rw [zb7];omega
   have hdk:dg (m*x+p) k=cr:=by
    have h1:=hz.out
    rw [ha.nl.top,Int.zero_mul] at h1
    unfold dg;omega
   have HT:=Lib.hid htop
   have HD:=Lib.hid hdk
   clear htop hdk
   go_wp2_with fail
   have ap:=(hO.set (Nat.lt_succ_self k) cr).congr (d':=dg (m*x+p)) (fun j hj=>by
    by_cases e:j=k
    ·subst e;rw [zb5,HD.out]
    ·rw [za7 _ _ e];exact hd.out j (by omega))
   refine (zw4 _ _ _ (m*x+p) _ (by omega) (Nat.le_refl _) ai HT.out ap.row).mono ?_
   rintro e w3 ⟨⟨n,rfl,hm,hn⟩,rfl⟩
   go_wp2
   go_ret
   exact ⟨⟨_,_,_,rfl,hm,hn⟩,hB.setCell (Nat.le_refl _) _⟩
theorem yv1 (l:List UInt8):∀ acc:Nat,l.foldl (fun a c=>a*10+(c.toNat - 48)) acc=acc*10 ^ l.length+zg6 l:=by
 induction l with
 | nil=>intro acc;simp [zg6]
 | cons c l ih=>
  intro acc
  have hv:zg6 (c::l)=(c.toNat - 48)*10 ^ l.length+zg6 l:=by
   show l.foldl _ (0*10+(c.toNat - 48))=_
   rw [ih];simp
  rw [List.foldl_cons,ih,hv,List.length_cons,Nat.pow_succ,Nat.add_mul]
  have:acc*10*10 ^ l.length=acc*(10 ^ l.length*10):=by grind
  omega
theorem zn2 (a b:List UInt8):zg6 (a++b)=zg6 a*10 ^ b.length+zg6 b:=by
 show (a++b).foldl _ 0=_
 rw [List.foldl_append,yv1];rfl
theorem yv2 (l:List UInt8) (h:∀ c ∈ l,48≤c.toNat∧c.toNat≤57):zg6 l<10 ^ l.length:=by
 induction l with
 | nil=>simp [zg6]
 | cons c l ih=>
  have h1:=zn2 [c] l
  have h2:=ih (fun x hx=>h x (by simp [hx]))
  have h3:=h c (by simp)
  have h4:zg6 [c]≤9:=by simp [zg6];omega
  rw [List.singleton_append] at h1
  rw [h1,List.length_cons,Nat.pow_succ]
  have:=Nat.mul_le_mul_right (10 ^ l.length) h4
  omega
theorem parseM:∀ (l:List UInt8) (acc:Nat),(∀ c ∈ l,48≤c.toNat∧c.toNat≤57)→acc*10 ^ l.length+10 ^ l.length≤1000000000→Lib.parseUintM (2 ^ 32 - 1) acc l=.ok (acc*10 ^ l.length+zg6 l)
 | [],acc,_,_=>by simp [Lib.parseUintM,zg6]
 | c::l,acc,h,hb=>by
  have hc:=h c (by simp)
  have hp:0<10 ^ l.length:=Nat.pow_pos (by omega)
  rw [List.length_cons,Nat.pow_succ] at hb
  have h1:(acc+1)*(10 ^ l.length*10)≤1000000000:=by rw [Nat.add_mul];omega
  have h2:(acc+1)*10≤1000000000:=by
   have:(acc+1)*10≤(acc+1)*(10 ^ l.length*10):=Nat.mul_le_mul_left _ (by omega)
   omega
  have e:acc*(10 ^ l.length*10)=acc*10*10 ^ l.length:=by grind
  have h3:(c.toNat - 48)*10 ^ l.length≤9*10 ^ l.length:=Nat.mul_le_mul_right _ (by omega)
  have ih:=parseM l (acc*10+(c.toNat - 48)) (fun x hx=>h x (by simp [hx])) (by rw [Nat.add_mul];omega)
  unfold Lib.parseUintM
  rw [if_pos hc,if_neg (by omega),if_neg (by omega),ih]
  have h5:=zn2 [c] l
  rw [List.singleton_append] at h5
  have h6:zg6 [c]=c.toNat - 48:=by simp [zg6]
  rw [h5,h6,List.length_cons,Nat.pow_succ,Nat.add_mul,e]
  congr 1
  omega
theorem parse32 {l:List UInt8} (h:∀ c ∈ l,48≤c.toNat∧c.toNat≤57) (h0:l≠[]) (h9:l.length≤9):Lib.parseUintB 32 l=.ok (zg6 l):=by
 unfold Lib.parseUintB
 rw [if_neg h0,parseM l 0 h (by
  have:10 ^ l.length≤10 ^ 9:=Nat.pow_le_pow_right (by omega) h9
  omega)]
 simp
theorem zN4 (R:ByteArray) (h:∀ c ∈ R.data.toList,48≤c.toNat∧c.toNat≤57) (h0:0<R.size) (h9:R.size≤9) (w:World):
  Calls Tryz.prog 172 #[.string R,.int .i64 10,.int .i64 32] w fun e w'=>e=.returned (.tuple #[.int .u64 (zg6 R.data.toList:Int),.nilIface])∧Gr w w':=by
 have hl:R.data.toList.length=R.size:=by simp
 refine (Tryz.strconv_ParseUint_10_at32_ok R (by omega) (zg6 R.data.toList) (parse32 h (fun e=>by rw [e] at hl;simp at hl;omega) (by omega)) w).mono ?_
 rintro e w1 ⟨he,hw⟩
 refine ⟨he,?_⟩
 rcases hw with rfl | rfl
 ·exact Gr.refl _
 ·exact Go.Joins.below_bytesWorld _ _ _ _ (Nat.le_refl _)
theorem nodigit (x:Nat) (w:World):Calls Tryz.prog 171 #[.int .i32 (x:Int)] w fun e w'=>e=.returned (.bool (decide (x<48)||decide (57<x)))∧∃ q,w'=w.drewN q:=by
 by_cases h1:(x:Int)<48
 ·have e1:decide (x<48)=true:=by simp;omega
  have E:=Lib.hid e1
  clear e1
  go_enter Tryz.func171,Tryz.ntmps171
  go_wp2
  go_ret
  exact ⟨by rw [E.out];rfl,0,rfl⟩
 ·have e1:decide (x<48)=false:=by simp;omega
  by_cases h2:57<(x:Int)
  ·have e2:(decide (x<48)||decide (57<x))=true:=by simp;omega
   have E:=Lib.hid e2
   clear e1 e2
   go_enter Tryz.func171,Tryz.ntmps171
   go_wp2
   go_ret
   exact ⟨by rw [E.out];rfl,0,rfl⟩
  ·have e2:(decide (x<48)||decide (57<x))=false:=by simp;omega
   have E:=Lib.hid e2
   clear e1 e2
   go_enter Tryz.func171,Tryz.ntmps171
   go_wp2
   go_ret
   exact ⟨by rw [E.out];rfl,0,rfl⟩
theorem yi6 {D:ByteArray} (h:∀ c ∈ D.data.toList,48≤c.toNat∧c.toNat≤57):∀ (f pos:Nat),Lib.idxFuncFrom (fun x=>decide (x<48)||decide (57<x)) true D f pos=-1
 | 0,_=>rfl
 | f+1,pos=>by
  unfold Lib.idxFuncFrom
  by_cases hp:pos<D.size
  ·have hc:=h D[pos] (List.mem_of_getElem? (zs9 hp))
   rw [if_pos hp,decode_ascii D pos hp (by omega),if_neg (by simp;omega)]
   exact yi6 h f _
  ·rw [if_neg hp]
theorem zI2 (D:ByteArray) (h:∀ c ∈ D.data.toList,48≤c.toNat∧c.toNat≤57) (w:World):
  Calls Tryz.prog 170 #[.string D,.func (.func 171) #[] #[]] w fun e w'=>e=.returned (.bool false)∧Gr w w':=by
 refine (Tryz.strings_ContainsFunc 171 #[] (enters_of Tryz.func171 (by kernel_rfl) rfl) (fun x=>decide (x<48)||decide (57<x)) D w (fun W x _=>nodigit x W)).mono ?_
 rintro e w1 ⟨he,hb⟩
 refine ⟨?_,hb⟩
 rw [he]
 unfold Lib.idxFunc
 rw [yi6 h]
 rfl
theorem yv3 (z:Int) (w:World):Calls Tryz.prog 169 #[.string ⟨(Lib.itoa z).toArray⟩,.string ⟨#[45]⟩] w fun e w'=>
  e=.returned (.tuple #[.string ⟨(Lib.decDigits z.natAbs).toArray⟩,.bool (decide (z<0))])∧w=w':=by
 refine (Tryz.strings_CutPrefix _ _ _).mono ?_
 rintro e w1 ⟨he,rfl⟩
 refine ⟨?_,rfl⟩
 rw [he]
 show Ending.returned (.tuple #[.string ⟨(Lib.trimPrefix (Lib.itoa z) [45]).toArray⟩,.bool (Lib.hasPrefix (Lib.itoa z) [45])])=_
 by_cases h:z<0
 ·have h1:Lib.hasPrefix (Lib.itoa z) [45]=true:=by rw [zd3 h];simp [Lib.hasPrefix]
  rw [Lib.trimPrefix,h1,if_pos rfl,zd3 h,decide_eq_true h];rfl
 ·have h1:Lib.hasPrefix (Lib.itoa z) [45]=false:=by
   rw [za8 (by omega)]
   rcases hd:Lib.decDigits z.natAbs with _ | ⟨c,l⟩
   ·rfl
   ·have hc:=zk0 z.natAbs c (by rw [hd];simp)
    have hne:¬ (45:UInt8)=c:=fun e=>by rw [← e] at hc;simp at hc
    simp [Lib.hasPrefix,List.isPrefixOf,hne]
  rw [Lib.trimPrefix,h1,if_neg (by decide),za8 (by omega),decide_eq_false h]
def zQ6 (v:Value):Nat:=match v with | .string s=>s.size | _=>0
theorem zC5 (R:ByteArray) (q:Nat):(R.extract 0 q).data.toList=R.data.toList.take q:=by rw [Lib.extract_data];simp
theorem zC6 (R:ByteArray) (q:Nat):(R.extract q R.size).data.toList=R.data.toList.drop q:=by
 rw [Lib.extract_data,List.take_of_length_le];simp
set_option maxRecDepth 100000 in
set_option maxHeartbeats 4000000 in
theorem zq8 {k:Nat} (z:Int) (hz:Sz k z) (hk:k≤60000) (w:World):
  Calls Tryz.prog 143 #[.string ⟨(Lib.itoa z).toArray⟩] w fun e w'=>(∃ x y,e=.returned (.tuple #[.agg #[x,y],.int .i64 0])∧IsInt w' k x y z)∧Gr w w':=by
 obtain ⟨n,hn⟩:∃ n,n=z.natAbs:=⟨_,rfl⟩
 have hnk:n<2 ^ k:=by rw [hn];exact hz
 have hlen:=zh3 k n hnk
 have hit:(Lib.itoa z).length≤k+2:=by
  by_cases h:z<0
  ·rw [zd3 h,← hn];simp;omega
  ·rw [za8 (by omega),← hn];omega
 obtain ⟨s,hs⟩:∃ s:ByteArray,s=⟨(Lib.itoa z).toArray⟩:=⟨_,rfl⟩
 have hss:s.size≤65536:=by rw [hs];show (Lib.itoa z).toArray.size≤_;simp;omega
 obtain ⟨D,hD⟩:∃ D:ByteArray,D=⟨(Lib.decDigits n).toArray⟩:=⟨_,rfl⟩
 have HD:Hid (D.data.toList=Lib.decDigits n):=by rw [Hid,hD]
 have hDs:D.size=(Lib.decDigits n).length:=by rw [hD];show (Lib.decDigits n).toArray.size=_;simp
 have aF:0<D.size:=by rw [hDs];exact zF8 n
 have ar:D.size≤60001:=by omega
 have hc:=yv3 z (w.alloc (.cells #[.bool false,.slice none 0 0] 34))
 rw [← hn,← hD,← hs] at hc
 have hda:∀ c ∈ D.data.toList,48≤c.toNat∧c.toNat≤57:=by rw [HD.out];exact zk0 n
 have hcn:=zI2 D hda
 have hne:(D.toList==[])=false:=by
  rw [beq_eq_false_iff_ne,ByteArray.toList_eq,HD.out];exact yc6 n
 have au:(D[0].toNat:Int)=48→D.size=1∧n=0:=by
  intro h
  rcases Nat.eq_zero_or_pos n with e | e
  ·rw [hDs,e];exact ⟨by rw [yl2];rfl,rfl⟩
  ·obtain ⟨c,aw,aJ,_⟩:=yl1 e
   have:=zh1 HD.out aF aw
   rw [this] at h
   omega
 have HN:=Lib.hid hn
 have az:=Lib.hid au
 have HDa:=Lib.hid hda
 have HDs:=Lib.hid hDs
 have HS:=Lib.hid hs
 rw [← hs]
 clear hn au hda hDs hD hit hs
 go_enter Tryz.func143,Tryz.ntmps143
 go_wp2_with fail
 (with_reducible refine hc.mono ?_)
 rintro e w1 ⟨rfl,rfl⟩
 clear hc
 go_wp2_with fail
 (with_reducible refine (hcn _).mono ?_)
 rintro e w2 ⟨rfl,g2⟩
 clear hcn
 by_cases h48:(D[0].toNat:Int)=48
 ·have hzz:=az.out h48
  have aI:¬ (1:Int)<(D.size:Int):=by omega
  have aK:¬ z<0:=by have:=HN.out;omega
  have aq:((D[0].toNat:Int)==48)=true:=by simpa using h48
  clear h48 hzz
  go_wp2
  go_loopw [4,6] (fun r m wr=>∃ (R:ByteArray) (V:Nat) (mo:Option Addr) (ml mc:Nat),r=.string R∧m=.slice mo ml mc∧ml≤k∧R.size≤60001∧Hid (Mag wr mo ml mc (V:Int)∧(∀ c ∈ R.data.toList,48≤c.toNat∧c.toNat≤57)∧V*10 ^ R.size+zg6 R.data.toList=n)∧Gr (w.alloc (.cells #[.bool false,.slice none 0 0] 34)) wr) (fun r _ _=>zQ6 r)
  case atStart=>exact ⟨D,0,none,0,0,rfl,rfl,by omega,ar,⟨⟨Nat.le_refl _,NL.zero,Row.nil _ _ _⟩,HDa.out,by rw [HD.out,zy9];simp⟩,g2⟩
  case round=>
   obtain ⟨R,V,mo,ml,mc,rfl,rfl,hml,aH,hh,hG⟩:=hrel
   by_cases hp:0<R.size
   ·obtain ⟨q,hq⟩:∃ q:Nat,q=(R.size - 1) % 9+1:=⟨_,rfl⟩
    have ai:q≤9:=by omega
    have ay:0<q:=by omega
    have hqR:q≤R.size:=by omega
    have hqe:((R.size:Int) - 1) % 9+1=(q:Int):=by omega
    have HQ:=Lib.hid hq
    clear hq
    go_wp2
    obtain ⟨wo,hwo⟩:∃ wo:World,wo=wr:=⟨_,rfl⟩
    subst hwo
    go_loopw [8,48] (fun b i wq=>∃ (j:Nat) (x:Int),b=.int .u32 x∧i=.int .i64 j∧j≤q∧1≤x∧x≤1000000000∧Hid (x=10 ^ j)∧wq=wo) (fun _ i _=>q - (intOf i).toNat)
    case atStart=>exact ⟨0,1,rfl,rfl,by omega,by omega,by omega,rfl,rfl⟩
    case round=>
     obtain ⟨j,x,rfl,rfl,hj,aD,aA,hx,rfl⟩:=hrel
     by_cases hlt:j<q
     ·have aB:x≤100000000:=by
       rw [hx.out]
       have h8:(10:Nat) ^ j≤100000000:=Nat.le_trans (Nat.pow_le_pow_right (by omega) (show j≤8 by omega)) (by decide)
       have h9:=Int.ofNat_le.2 h8
       rw [Int.natCast_pow] at h9
       exact h9
      go_wp2
      go_roundw
      case rel=>exact ⟨j+1,x*10,rfl,by go_num,by omega,by omega,by omega,by rw [Hid,hx.out,Int.pow_succ],by first | rfl | trivial⟩
      case measure=>simp [intOf];omega
     ·obtain rfl:j=q:=by omega
      obtain ⟨T,hT⟩:∃ T,R.extract 0 j=T:=⟨_,rfl⟩
      obtain ⟨U,hU⟩:∃ U,R.extract j R.size=U:=⟨_,rfl⟩
      have hTl:T.data.toList=R.data.toList.take j:=by rw [← hT,zC5]
      have hUl:U.data.toList=R.data.toList.drop j:=by rw [← hU,zC6]
      have hRl:R.data.toList.length=R.size:=by simp
      have hTs:T.size=j:=by
       have h1:=congrArg List.length hTl
       rw [List.length_take,hRl] at h1
       have h2:T.data.toList.length=T.size:=by simp
       omega
      have hUs:U.size=R.size - j:=by
       have h1:=congrArg List.length hUl
       rw [List.length_drop,hRl] at h1
       have h2:U.data.toList.length=U.size:=by simp
       omega
      obtain ⟨hm,hda,hval⟩:=hh.out
      have hTd:∀ c ∈ T.data.toList,48≤c.toNat∧c.toNat≤57:=fun c hc=>hda c (by rw [hTl] at hc;exact List.mem_of_mem_take hc)
      have hUd:∀ c ∈ U.data.toList,48≤c.toNat∧c.toNat≤57:=fun c hc=>hda c (by rw [hUl] at hc;exact List.mem_of_mem_drop hc)
      obtain ⟨u,hu⟩:∃ u,u=zg6 T.data.toList:=⟨_,rfl⟩
      have aE:u<1000000000:=by
       have h1:=yv2 _ hTd
       have h2:T.data.toList.length=T.size:=by simp
       rw [h2,hTs] at h1
       have:(10:Nat) ^ j≤10 ^ 9:=Nat.pow_le_pow_right (by omega) ai
       omega
      have aa:(V*10 ^ j+u)*10 ^ U.size+zg6 U.data.toList=n:=by
       have h1:=zn2 (R.data.toList.take j) (R.data.toList.drop j)
       rw [List.take_append_drop,← hTl,← hUl] at h1
       have h2:U.data.toList.length=U.size:=by simp
       rw [h1,h2,← hu,show R.size=j+U.size by omega,Nat.pow_add] at hval
       rw [← hval];grind
      have hVk:V*10 ^ j+u<2 ^ k:=by
       have h1:V*10 ^ j+u≤(V*10 ^ j+u)*10 ^ U.size:=Nat.le_mul_of_pos_right _ (Nat.pow_pos (by omega))
       omega
      have hpu:=zN4 T hTd (by omega) (by omega)
      rw [← hu] at hpu
      have al:=Lib.hid aa
      have HVk:=Lib.hid hVk
      have HUd:=Lib.hid hUd
      have HX:=hx
      have aj:T.size≤9:=by omega
      have ah:U.size<R.size:=by omega
      have ad:U.size≤60001:=by omega
      clear hTl hUl hRl hTd hUd hda hval aa hVk hu hTs hUs hqe
      have aG:(u:Int)<1000000000:=by omega
      go_wp2_with fail
      (with_reducible refine (hpu _).mono ?_)
      rintro e w5 ⟨rfl,g5⟩
      clear hpu
      go_wp2_with fail
      (with_reducible refine (yz1 mo ml mc (V:Int) x (u:Int) _ (by omega) (hm.kp g5.kp) (by omega) (by omega) (by omega) (by omega)).mono ?_)
      rintro e w6 ⟨⟨go,k6,c6,rfl,ac,ax⟩,g6⟩
      have af:Mag w6 go k6 c6 ((V*10 ^ j+u:Nat):Int):=by
       rw [HX.out] at ac
       have e:((V*10 ^ j+u:Nat):Int)=(V:Int)*10 ^ j+(u:Int):=by push_cast;rfl
       rw [e];exact ac
      have ap:k6≤k:=af.nl.len_sz (show Sz k _ by unfold Sz;rw [Int.natAbs_natCast];exact HVk.out)
      clear ac
      go_wp2
      go_roundw
      case rel=>exact ⟨U,V*10 ^ j+u,go,k6,c6,rfl,rfl,ap,ad,⟨af,HUd.out,al.out⟩,(hG.trans g5).trans g6⟩
      case measure=>simp [zQ6];omega
   ·have ab:R.size=0:=by omega
    obtain ⟨hm,hda,hval⟩:=hh.out
    have hVn:V=n:=by
     have h2:R.data.toList.length=R.size:=by simp
     have h1:R.data.toList=[]:=List.length_eq_zero_iff.1 (by rw [h2];exact ab)
     rw [h1,ab] at hval
     simpa [zg6] using hval
    rw [hVn] at hm
    have av:=Lib.hid ab
    clear ab hda hval hh hVn
    have p2:=Gr.heap hG (heap_alloc_new w (.cells #[.bool false,.slice none 0 0] 34))
    go_wp2_with fail
    (with_reducible refine (zi8 (decide (z<0)) mo ml mc (n:Int) _ (by omega) hm.cap hm.nl.nonneg hm.nl.top hm.row).mono ?_)
    rintro e w5 ⟨⟨k5,rfl,ae,aC⟩,g5⟩
    have p3:=Gr.heap g5 p2
    have d0:=zb1 p3 0
    have d1:=zb1 p3 1
    have d2:=zl5 p3
    have ak:Gr w w5:=(Gr.alloc w _).trans (hG.trans g5)
    have hint:=IsInt.mk' (z:=z) (s:=decide (z<0)) (k:=k) (ae.gr g5) (by rw [HN.out]) (fun _=>rfl) hz
    obtain ⟨bb,hbb⟩:∃ bb,bb=(decide (z<0)&&decide (0<k5)):=⟨_,rfl⟩
    rw [← hbb] at hint ⊢
    clear hbb hm ae p2
    go_wp2
    have p4:=za5 (i:=1) (.slice mo k5 mc) (za5 (i:=0) (.bool bb) p3)
    have hst:=(St.setCell w5 w.heap.size 0 (.bool bb)).trans (St.setCell _ w.heap.size 1 (.slice mo k5 mc))
    exact bodyPost_ret (v:=.tuple #[.agg #[.bool bb,.slice mo k5 mc],.int .i64 0]) (za4 _ _ _ rfl rfl p4 (by kernel_rfl) rfl) rfl ⟨⟨_,_,rfl,hint.kp (hst.kp p3 (by decide))⟩,hst.gr ak (Nat.le_refl _)⟩
 ·have aq:((D[0].toNat:Int)==48)=false:=by simpa using h48
  clear h48
  go_wp2
  go_loopw [4,6] (fun r m wr=>∃ (R:ByteArray) (V:Nat) (mo:Option Addr) (ml mc:Nat),r=.string R∧m=.slice mo ml mc∧ml≤k∧R.size≤60001∧Hid (Mag wr mo ml mc (V:Int)∧(∀ c ∈ R.data.toList,48≤c.toNat∧c.toNat≤57)∧V*10 ^ R.size+zg6 R.data.toList=n)∧Gr (w.alloc (.cells #[.bool false,.slice none 0 0] 34)) wr) (fun r _ _=>zQ6 r)
  case atStart=>exact ⟨D,0,none,0,0,rfl,rfl,by omega,ar,⟨⟨Nat.le_refl _,NL.zero,Row.nil _ _ _⟩,HDa.out,by rw [HD.out,zy9];simp⟩,g2⟩
  case round=>
   obtain ⟨R,V,mo,ml,mc,rfl,rfl,hml,aH,hh,hG⟩:=hrel
   by_cases hp:0<R.size
   ·obtain ⟨q,hq⟩:∃ q:Nat,q=(R.size - 1) % 9+1:=⟨_,rfl⟩
    have ai:q≤9:=by omega
    have ay:0<q:=by omega
    have hqR:q≤R.size:=by omega
    have hqe:((R.size:Int) - 1) % 9+1=(q:Int):=by omega
    have HQ:=Lib.hid hq
    clear hq
    go_wp2
    obtain ⟨wo,hwo⟩:∃ wo:World,wo=wr:=⟨_,rfl⟩
    subst hwo
    go_loopw [8,48] (fun b i wq=>∃ (j:Nat) (x:Int),b=.int .u32 x∧i=.int .i64 j∧j≤q∧1≤x∧x≤1000000000∧Hid (x=10 ^ j)∧wq=wo) (fun _ i _=>q - (intOf i).toNat)
    case atStart=>exact ⟨0,1,rfl,rfl,by omega,by omega,by omega,rfl,rfl⟩
    case round=>
     obtain ⟨j,x,rfl,rfl,hj,aD,aA,hx,rfl⟩:=hrel
     by_cases hlt:j<q
     ·have aB:x≤100000000:=by
       rw [hx.out]
       have h8:(10:Nat) ^ j≤100000000:=Nat.le_trans (Nat.pow_le_pow_right (by omega) (show j≤8 by omega)) (by decide)
       have h9:=Int.ofNat_le.2 h8
       rw [Int.natCast_pow] at h9
       exact h9
      go_wp2
      go_roundw
      case rel=>exact ⟨j+1,x*10,rfl,by go_num,by omega,by omega,by omega,by rw [Hid,hx.out,Int.pow_succ],by first | rfl | trivial⟩
      case measure=>simp [intOf];omega
     ·obtain rfl:j=q:=by omega
      obtain ⟨T,hT⟩:∃ T,R.extract 0 j=T:=⟨_,rfl⟩
      obtain ⟨U,hU⟩:∃ U,R.extract j R.size=U:=⟨_,rfl⟩
      have hTl:T.data.toList=R.data.toList.take j:=by rw [← hT,zC5]
      have hUl:U.data.toList=R.data.toList.drop j:=by rw [← hU,zC6]
      have hRl:R.data.toList.length=R.size:=by simp
      have hTs:T.size=j:=by
       have h1:=congrArg List.length hTl
       rw [List.length_take,hRl] at h1
       have h2:T.data.toList.length=T.size:=by simp
       omega
      have hUs:U.size=R.size - j:=by
       have h1:=congrArg List.length hUl
       rw [List.length_drop,hRl] at h1
       have h2:U.data.toList.length=U.size:=by simp
       omega
      obtain ⟨hm,hda,hval⟩:=hh.out
      have hTd:∀ c ∈ T.data.toList,48≤c.toNat∧c.toNat≤57:=fun c hc=>hda c (by rw [hTl] at hc;exact List.mem_of_mem_take hc)
      have hUd:∀ c ∈ U.data.toList,48≤c.toNat∧c.toNat≤57:=fun c hc=>hda c (by rw [hUl] at hc;exact List.mem_of_mem_drop hc)
      obtain ⟨u,hu⟩:∃ u,u=zg6 T.data.toList:=⟨_,rfl⟩
      have aE:u<1000000000:=by
       have h1:=yv2 _ hTd
       have h2:T.data.toList.length=T.size:=by simp
       rw [h2,hTs] at h1
       have:(10:Nat) ^ j≤10 ^ 9:=Nat.pow_le_pow_right (by omega) ai
       omega
      have aa:(V*10 ^ j+u)*10 ^ U.size+zg6 U.data.toList=n:=by
       have h1:=zn2 (R.data.toList.take j) (R.data.toList.drop j)
       rw [List.take_append_drop,← hTl,← hUl] at h1
       have h2:U.data.toList.length=U.size:=by simp
       rw [h1,h2,← hu,show R.size=j+U.size by omega,Nat.pow_add] at hval
       rw [← hval];grind
      have hVk:V*10 ^ j+u<2 ^ k:=by
       have h1:V*10 ^ j+u≤(V*10 ^ j+u)*10 ^ U.size:=Nat.le_mul_of_pos_right _ (Nat.pow_pos (by omega))
       omega
      have hpu:=zN4 T hTd (by omega) (by omega)
      rw [← hu] at hpu
      have al:=Lib.hid aa
      have HVk:=Lib.hid hVk
      have HUd:=Lib.hid hUd
      have HX:=hx
      have aj:T.size≤9:=by omega
      have ah:U.size<R.size:=by omega
      have ad:U.size≤60001:=by omega
      clear hTl hUl hRl hTd hUd hda hval aa hVk hu hTs hUs hqe
      have aG:(u:Int)<1000000000:=by omega
      go_wp2_with fail
      (with_reducible refine (hpu _).mono ?_)
      rintro e w5 ⟨rfl,g5⟩
      clear hpu
      go_wp2_with fail
      (with_reducible refine (yz1 mo ml mc (V:Int) x (u:Int) _ (by omega) (hm.kp g5.kp) (by omega) (by omega) (by omega) (by omega)).mono ?_)
      rintro e w6 ⟨⟨go,k6,c6,rfl,ac,ax⟩,g6⟩
      have af:Mag w6 go k6 c6 ((V*10 ^ j+u:Nat):Int):=by
       rw [HX.out] at ac
       have e:((V*10 ^ j+u:Nat):Int)=(V:Int)*10 ^ j+(u:Int):=by push_cast;rfl
       rw [e];exact ac
      have ap:k6≤k:=af.nl.len_sz (show Sz k _ by unfold Sz;rw [Int.natAbs_natCast];exact HVk.out)
      clear ac
      go_wp2
      go_roundw
      case rel=>exact ⟨U,V*10 ^ j+u,go,k6,c6,rfl,rfl,ap,ad,⟨af,HUd.out,al.out⟩,(hG.trans g5).trans g6⟩
      case measure=>simp [zQ6];omega
   ·have ab:R.size=0:=by omega
    obtain ⟨hm,hda,hval⟩:=hh.out
    have hVn:V=n:=by
     have h2:R.data.toList.length=R.size:=by simp
     have h1:R.data.toList=[]:=List.length_eq_zero_iff.1 (by rw [h2];exact ab)
     rw [h1,ab] at hval
     simpa [zg6] using hval
    rw [hVn] at hm
    have av:=Lib.hid ab
    clear ab hda hval hh hVn
    have p2:=Gr.heap hG (heap_alloc_new w (.cells #[.bool false,.slice none 0 0] 34))
    go_wp2_with fail
    (with_reducible refine (zi8 (decide (z<0)) mo ml mc (n:Int) _ (by omega) hm.cap hm.nl.nonneg hm.nl.top hm.row).mono ?_)
    rintro e w5 ⟨⟨k5,rfl,ae,aC⟩,g5⟩
    have p3:=Gr.heap g5 p2
    have d0:=zb1 p3 0
    have d1:=zb1 p3 1
    have d2:=zl5 p3
    have ak:Gr w w5:=(Gr.alloc w _).trans (hG.trans g5)
    have hint:=IsInt.mk' (z:=z) (s:=decide (z<0)) (k:=k) (ae.gr g5) (by rw [HN.out]) (fun _=>rfl) hz
    obtain ⟨bb,hbb⟩:∃ bb,bb=(decide (z<0)&&decide (0<k5)):=⟨_,rfl⟩
    rw [← hbb] at hint ⊢
    clear hbb hm ae p2
    go_wp2
    have p4:=za5 (i:=1) (.slice mo k5 mc) (za5 (i:=0) (.bool bb) p3)
    have hst:=(St.setCell w5 w.heap.size 0 (.bool bb)).trans (St.setCell _ w.heap.size 1 (.slice mo k5 mc))
    exact bodyPost_ret (v:=.tuple #[.agg #[.bool bb,.slice mo k5 mc],.int .i64 0]) (za4 _ _ _ rfl rfl p4 (by kernel_rfl) rfl) rfl ⟨⟨_,_,rfl,hint.kp (hst.kp p3 (by decide))⟩,hst.gr ak (Nat.le_refl _)⟩
set_option maxRecDepth 100000 in
set_option maxHeartbeats 4000000 in
theorem zw2 {k m:Nat} (x y:Int) (hx:Sz k x) (hy:Sz m y) (_hy0:0<y) (_hk:k+m≤60000) (w:World):
    Calls Tryz.prog 100 #[(.string ⟨(Lib.itoa (x):List UInt8).toArray⟩),(.string ⟨(Lib.itoa (y):List UInt8).toArray⟩)] w fun e w'=>e=.returned (.string ⟨(za1 (Rat.divInt x y)).toArray⟩)∧Gr w w':=by
 have hs:decide (sgn y<0)=false:=by rw [zI7];simp;omega
 have h0:(0:Int)<y:=by omega
 have hgp:=(zh6 (N:=x) h0).2.2
 have al:=zk3 (zO0 (N:=x) hx hgp)
 have ar:=zk3 (zO0 (N:=y) hy hgp)
 go_enter Tryz.func100,Tryz.ntmps100
 have hB:=Gr.refl w
 refine wp_seq_k (fun K1 k1=>?_)
 refine rg [0] ?_
 refine sv 4 (.string ⟨([]:List UInt8).toArray⟩) ?_
 refine za0 ?_
 refine k1 _ _ ?_
 try clear k1 K1
 refine wp_seq_k (fun K2 k2=>?_)
 refine wp_seq_k (fun K3 k3=>?_)
 refine rg [0,1,2] ?_
 refine sv 6 (.string ⟨(Lib.itoa (y):List UInt8).toArray⟩) ?_
 refine se ?_
 refine ec 7 (zf1 (y) _) ?_
 rintro e4 w4 ⟨rfl,g4⟩
 refine ⟨_,rfl,?_⟩
 replace hB:=hB.trans g4
 simp only [p3,p4]
 refine sw 8 (.bool false) rfl (RunV.bool (x:=decide (sgn (y)<(0:Int))) (rvk (by kernel_rfl)) hs) ?_
 refine za0 ?_
 refine k3 _ _ ?_
 try clear k3 K3
 refine wp_cond_false rfl ?_
 refine wp_skip ?_
 refine k2 _ _ ?_
 try clear k2 K2
 refine wp_seq_k (fun K5 k5=>?_)
 refine rg [0,1,2,3] ?_
 refine sv 13 (.string ⟨(Lib.itoa (x):List UInt8).toArray⟩) ?_
 refine sv 14 (.string ⟨(Lib.itoa (y):List UInt8).toArray⟩) ?_
 refine se ?_
 refine ec 15 (r1_gcd (x) (y) hx hy (by omega) _) ?_
 rintro e6 w6 ⟨rfl,g6⟩
 refine ⟨_,rfl,?_⟩
 replace hB:=hB.trans g6
 simp only [p3,p4]
 refine sv 5 (.string ⟨(Lib.itoa ((Int.gcd (x) (y):Int)):List UInt8).toArray⟩) ?_
 refine za0 ?_
 refine k5 _ _ ?_
 try clear k5 K5
 refine wp_seq_k (fun K7 k7=>?_)
 refine rg [0,1,2,3,4,5,6] ?_
 refine sv 17 (.string ⟨(Lib.itoa (x):List UInt8).toArray⟩) ?_
 refine sv 18 (.string ⟨(Lib.itoa ((Int.gcd (x) (y):Int)):List UInt8).toArray⟩) ?_
 refine se ?_
 refine ec 19 (zr3 (x) ((Int.gcd (x) (y):Int)) hx (zR6 hx hy) hgp (by omega) _) ?_
 rintro e8 w8 ⟨rfl,g8⟩
 refine ⟨_,rfl,?_⟩
 replace hB:=hB.trans g8
 simp only [p3,p4]
 refine sv 16 (.tuple #[(.string ⟨(Lib.itoa (x/(Int.gcd (x) (y):Int)):List UInt8).toArray⟩),(.string ⟨(Lib.itoa (x % (Int.gcd (x) (y):Int)):List UInt8).toArray⟩)]) ?_
 refine sv 20 (.string ⟨(Lib.itoa (x/(Int.gcd (x) (y):Int)):List UInt8).toArray⟩) ?_
 refine sv 21 (.string ⟨(Lib.itoa (x % (Int.gcd (x) (y):Int)):List UInt8).toArray⟩) ?_
 refine sv 0 (.string ⟨(Lib.itoa (x/(Int.gcd (x) (y):Int)):List UInt8).toArray⟩) ?_
 refine za0 ?_
 refine k7 _ _ ?_
 try clear k7 K7
 refine wp_seq_k (fun K9 k9=>?_)
 refine rg [0,1,2,3,4,5,6] ?_
 refine sv 23 (.string ⟨(Lib.itoa (y):List UInt8).toArray⟩) ?_
 refine sv 24 (.string ⟨(Lib.itoa ((Int.gcd (x) (y):Int)):List UInt8).toArray⟩) ?_
 refine se ?_
 refine ec 25 (zr3 (y) ((Int.gcd (x) (y):Int)) hy (zR6 hx hy) hgp (by omega) _) ?_
 rintro aq ap ⟨rfl,ah⟩
 refine ⟨_,rfl,?_⟩
 replace hB:=hB.trans ah
 simp only [p3,p4]
 refine sv 22 (.tuple #[(.string ⟨(Lib.itoa (y/(Int.gcd (x) (y):Int)):List UInt8).toArray⟩),(.string ⟨(Lib.itoa (y % (Int.gcd (x) (y):Int)):List UInt8).toArray⟩)]) ?_
 refine sv 26 (.string ⟨(Lib.itoa (y/(Int.gcd (x) (y):Int)):List UInt8).toArray⟩) ?_
 refine sv 27 (.string ⟨(Lib.itoa (y % (Int.gcd (x) (y):Int)):List UInt8).toArray⟩) ?_
 refine sv 1 (.string ⟨(Lib.itoa (y/(Int.gcd (x) (y):Int)):List UInt8).toArray⟩) ?_
 refine za0 ?_
 refine k9 _ _ ?_
 try clear k9 K9
 refine wp_seq_k (fun aj ab=>?_)
 refine wp_seq_k (fun ai ae=>?_)
 refine rg [0,1] ?_
 refine sv 28 (.string ⟨(Lib.itoa (y/(Int.gcd (x) (y):Int)):List UInt8).toArray⟩) ?_
 refine sw 29 (.bool (((Lib.itoa (y/(Int.gcd (x) (y):Int)))==([49]:List UInt8)))) rfl (zu0 9 9 _ _ (Lib.itoa (y/(Int.gcd (x) (y):Int))) ([49]) rfl rfl rfl) ?_
 refine za0 ?_
 refine ae _ _ ?_
 try clear ae ai
 refine wp_cond_split (t:=((Lib.itoa (y/(Int.gcd (x) (y):Int)))==([49]:List UInt8))) rfl (fun aa=>?_) (fun aa=>?_)
 ·refine wp_seq_k (fun ak ac=>?_)
  refine rg [0,1] ?_
  refine sv 30 (.string ⟨(Lib.itoa (x/(Int.gcd (x) (y):Int)):List UInt8).toArray⟩) ?_
  refine sv 4 (.string ⟨(Lib.itoa (x/(Int.gcd (x) (y):Int)):List UInt8).toArray⟩) ?_
  refine za0 ?_
  refine ac _ _ ?_
  try clear ac ak
  refine wp_ret ?_
  simp only [Exit.then]
  refine bodyPost_ret (v:=(.string ⟨(Lib.itoa (x/(Int.gcd (x) (y):Int)):List UInt8).toArray⟩)) (zb0 rfl rfl) rfl ⟨?_,hB⟩
  exact (by rw [text_w h0 aa])
 ·refine wp_skip ?_
  refine ab _ _ ?_
  try clear ab aj
  refine wp_seq_k (fun af ad=>?_)
  refine rg [0,1,2,3,4] ?_
  refine sv 31 (.string ⟨(Lib.itoa (x/(Int.gcd (x) (y):Int)):List UInt8).toArray⟩) ?_
  refine sw 32 (.string ⟨((Lib.itoa (x/(Int.gcd (x) (y):Int)))++([47]):List UInt8).toArray⟩) rfl (zC2 9 9 _ _ (Lib.itoa (x/(Int.gcd (x) (y):Int))) ([47]) rfl rfl rfl (by simp only [List.length_cons,List.length_nil];omega)) ?_
  refine sv 33 (.string ⟨(Lib.itoa (y/(Int.gcd (x) (y):Int)):List UInt8).toArray⟩) ?_
  refine sw 34 (.string ⟨(((Lib.itoa (x/(Int.gcd (x) (y):Int)))++([47]))++(Lib.itoa (y/(Int.gcd (x) (y):Int))):List UInt8).toArray⟩) rfl (zC2 9 9 _ _ ((Lib.itoa (x/(Int.gcd (x) (y):Int)))++([47])) (Lib.itoa (y/(Int.gcd (x) (y):Int))) rfl rfl rfl (by simp only [List.length_append,List.length_cons,List.length_nil];omega)) ?_
  refine sv 4 (.string ⟨(((Lib.itoa (x/(Int.gcd (x) (y):Int)))++([47]))++(Lib.itoa (y/(Int.gcd (x) (y):Int))):List UInt8).toArray⟩) ?_
  refine za0 ?_
  refine ad _ _ ?_
  try clear ad af
  refine wp_ret ?_
  refine bodyPost_ret (v:=(.string ⟨(((Lib.itoa (x/(Int.gcd (x) (y):Int)))++([47]))++(Lib.itoa (y/(Int.gcd (x) (y):Int))):List UInt8).toArray⟩)) (zb0 rfl rfl) rfl ⟨?_,hB⟩
  exact (by rw [text_f h0 aa])

set_option maxRecDepth 100000 in
set_option maxHeartbeats 4000000 in
theorem ys9 {k m:Nat} (x y:Int) (hx:Sz k x) (hy:Sz m y) (_hy0:y<0) (_hk:k+m≤60000) (w:World):
    Calls Tryz.prog 100 #[(.string ⟨(Lib.itoa (x):List UInt8).toArray⟩),(.string ⟨(Lib.itoa (y):List UInt8).toArray⟩)] w fun e w'=>e=.returned (.string ⟨(za1 (Rat.divInt x y)).toArray⟩)∧Gr w w':=by
 have hs:decide (sgn y<0)=true:=by rw [zI7];simp;omega
 have h0:(0:Int)< -y:=by omega
 have hgp:=(zh6 (N:=-x) h0).2.2
 have au:=zk3 (zO0 (N:=-x) hx.neg hgp)
 have ax:=zk3 (zO0 (N:=-y) hy.neg hgp)
 go_enter Tryz.func100,Tryz.ntmps100
 have hB:=Gr.refl w
 refine wp_seq_k (fun K1 k1=>?_)
 refine rg [0] ?_
 refine sv 4 (.string ⟨([]:List UInt8).toArray⟩) ?_
 refine za0 ?_
 refine k1 _ _ ?_
 try clear k1 K1
 refine wp_seq_k (fun K2 k2=>?_)
 refine wp_seq_k (fun K3 k3=>?_)
 refine rg [0,1,2] ?_
 refine sv 6 (.string ⟨(Lib.itoa (y):List UInt8).toArray⟩) ?_
 refine se ?_
 refine ec 7 (zf1 (y) _) ?_
 rintro e4 w4 ⟨rfl,g4⟩
 refine ⟨_,rfl,?_⟩
 replace hB:=hB.trans g4
 simp only [p3,p4]
 refine sw 8 (.bool true) rfl (RunV.bool (x:=decide (sgn (y)<(0:Int))) (rvk (by kernel_rfl)) hs) ?_
 refine za0 ?_
 refine k3 _ _ ?_
 try clear k3 K3
 refine wp_cond_true rfl ?_
 refine rg [0,1,2,3,4,5] ?_
 refine sv 9 (.string ⟨(Lib.itoa (x):List UInt8).toArray⟩) ?_
 refine se ?_
 refine ec 10 (yg9 (x) hx (by omega) _) ?_
 rintro e5 w5 ⟨rfl,g5⟩
 refine ⟨_,rfl,?_⟩
 replace hB:=hB.trans g5
 simp only [p3,p4]
 refine sv 11 (.string ⟨(Lib.itoa (y):List UInt8).toArray⟩) ?_
 refine se ?_
 refine ec 12 (yg9 (y) hy (by omega) _) ?_
 rintro e6 w6 ⟨rfl,g6⟩
 refine ⟨_,rfl,?_⟩
 replace hB:=hB.trans g6
 simp only [p3,p4]
 refine sv 0 (.string ⟨(Lib.itoa (-x):List UInt8).toArray⟩) ?_
 refine sv 1 (.string ⟨(Lib.itoa (-y):List UInt8).toArray⟩) ?_
 refine za0 ?_
 refine k2 _ _ ?_
 try clear k2 K2
 refine wp_seq_k (fun K7 k7=>?_)
 refine rg [0,1,2,3] ?_
 refine sv 13 (.string ⟨(Lib.itoa (-x):List UInt8).toArray⟩) ?_
 refine sv 14 (.string ⟨(Lib.itoa (-y):List UInt8).toArray⟩) ?_
 refine se ?_
 refine ec 15 (r1_gcd (-x) (-y) hx.neg hy.neg (by omega) _) ?_
 rintro e8 w8 ⟨rfl,g8⟩
 refine ⟨_,rfl,?_⟩
 replace hB:=hB.trans g8
 simp only [p3,p4]
 refine sv 5 (.string ⟨(Lib.itoa ((Int.gcd (-x) (-y):Int)):List UInt8).toArray⟩) ?_
 refine za0 ?_
 refine k7 _ _ ?_
 try clear k7 K7
 refine wp_seq_k (fun K9 k9=>?_)
 refine rg [0,1,2,3,4,5,6] ?_
 refine sv 17 (.string ⟨(Lib.itoa (-x):List UInt8).toArray⟩) ?_
 refine sv 18 (.string ⟨(Lib.itoa ((Int.gcd (-x) (-y):Int)):List UInt8).toArray⟩) ?_
 refine se ?_
 refine ec 19 (zr3 (-x) ((Int.gcd (-x) (-y):Int)) hx.neg (zR6 hx.neg hy.neg) hgp (by omega) _) ?_
 rintro aw av ⟨rfl,ah⟩
 refine ⟨_,rfl,?_⟩
 replace hB:=hB.trans ah
 simp only [p3,p4]
 refine sv 16 (.tuple #[(.string ⟨(Lib.itoa ((-x)/(Int.gcd (-x) (-y):Int)):List UInt8).toArray⟩),(.string ⟨(Lib.itoa ((-x) % (Int.gcd (-x) (-y):Int)):List UInt8).toArray⟩)]) ?_
 refine sv 20 (.string ⟨(Lib.itoa ((-x)/(Int.gcd (-x) (-y):Int)):List UInt8).toArray⟩) ?_
 refine sv 21 (.string ⟨(Lib.itoa ((-x) % (Int.gcd (-x) (-y):Int)):List UInt8).toArray⟩) ?_
 refine sv 0 (.string ⟨(Lib.itoa ((-x)/(Int.gcd (-x) (-y):Int)):List UInt8).toArray⟩) ?_
 refine za0 ?_
 refine k9 _ _ ?_
 try clear k9 K9
 refine wp_seq_k (fun ap ab=>?_)
 refine rg [0,1,2,3,4,5,6] ?_
 refine sv 23 (.string ⟨(Lib.itoa (-y):List UInt8).toArray⟩) ?_
 refine sv 24 (.string ⟨(Lib.itoa ((Int.gcd (-x) (-y):Int)):List UInt8).toArray⟩) ?_
 refine se ?_
 refine ec 25 (zr3 (-y) ((Int.gcd (-x) (-y):Int)) hy.neg (zR6 hx.neg hy.neg) hgp (by omega) _) ?_
 rintro e12 ar ⟨rfl,al⟩
 refine ⟨_,rfl,?_⟩
 replace hB:=hB.trans al
 simp only [p3,p4]
 refine sv 22 (.tuple #[(.string ⟨(Lib.itoa ((-y)/(Int.gcd (-x) (-y):Int)):List UInt8).toArray⟩),(.string ⟨(Lib.itoa ((-y) % (Int.gcd (-x) (-y):Int)):List UInt8).toArray⟩)]) ?_
 refine sv 26 (.string ⟨(Lib.itoa ((-y)/(Int.gcd (-x) (-y):Int)):List UInt8).toArray⟩) ?_
 refine sv 27 (.string ⟨(Lib.itoa ((-y) % (Int.gcd (-x) (-y):Int)):List UInt8).toArray⟩) ?_
 refine sv 1 (.string ⟨(Lib.itoa ((-y)/(Int.gcd (-x) (-y):Int)):List UInt8).toArray⟩) ?_
 refine za0 ?_
 refine ab _ _ ?_
 try clear ab ap
 refine wp_seq_k (fun ak ac=>?_)
 refine wp_seq_k (fun aq af=>?_)
 refine rg [0,1] ?_
 refine sv 28 (.string ⟨(Lib.itoa ((-y)/(Int.gcd (-x) (-y):Int)):List UInt8).toArray⟩) ?_
 refine sw 29 (.bool (((Lib.itoa ((-y)/(Int.gcd (-x) (-y):Int)))==([49]:List UInt8)))) rfl (zu0 9 9 _ _ (Lib.itoa ((-y)/(Int.gcd (-x) (-y):Int))) ([49]) rfl rfl rfl) ?_
 refine za0 ?_
 refine af _ _ ?_
 try clear af aq
 refine wp_cond_split (t:=((Lib.itoa ((-y)/(Int.gcd (-x) (-y):Int)))==([49]:List UInt8))) rfl (fun aa=>?_) (fun aa=>?_)
 ·refine wp_seq_k (fun ai ad=>?_)
  refine rg [0,1] ?_
  refine sv 30 (.string ⟨(Lib.itoa ((-x)/(Int.gcd (-x) (-y):Int)):List UInt8).toArray⟩) ?_
  refine sv 4 (.string ⟨(Lib.itoa ((-x)/(Int.gcd (-x) (-y):Int)):List UInt8).toArray⟩) ?_
  refine za0 ?_
  refine ad _ _ ?_
  try clear ad ai
  refine wp_ret ?_
  simp only [Exit.then]
  refine bodyPost_ret (v:=(.string ⟨(Lib.itoa ((-x)/(Int.gcd (-x) (-y):Int)):List UInt8).toArray⟩)) (zb0 rfl rfl) rfl ⟨?_,hB⟩
  exact (by rw [text_w h0 aa];rw [zI9])
 ·refine wp_skip ?_
  refine ac _ _ ?_
  try clear ac ak
  refine wp_seq_k (fun aj ae=>?_)
  refine rg [0,1,2,3,4] ?_
  refine sv 31 (.string ⟨(Lib.itoa ((-x)/(Int.gcd (-x) (-y):Int)):List UInt8).toArray⟩) ?_
  refine sw 32 (.string ⟨((Lib.itoa ((-x)/(Int.gcd (-x) (-y):Int)))++([47]):List UInt8).toArray⟩) rfl (zC2 9 9 _ _ (Lib.itoa ((-x)/(Int.gcd (-x) (-y):Int))) ([47]) rfl rfl rfl (by simp only [List.length_cons,List.length_nil];omega)) ?_
  refine sv 33 (.string ⟨(Lib.itoa ((-y)/(Int.gcd (-x) (-y):Int)):List UInt8).toArray⟩) ?_
  refine sw 34 (.string ⟨(((Lib.itoa ((-x)/(Int.gcd (-x) (-y):Int)))++([47]))++(Lib.itoa ((-y)/(Int.gcd (-x) (-y):Int))):List UInt8).toArray⟩) rfl (zC2 9 9 _ _ ((Lib.itoa ((-x)/(Int.gcd (-x) (-y):Int)))++([47])) (Lib.itoa ((-y)/(Int.gcd (-x) (-y):Int))) rfl rfl rfl (by simp only [List.length_append,List.length_cons,List.length_nil];omega)) ?_
  refine sv 4 (.string ⟨(((Lib.itoa ((-x)/(Int.gcd (-x) (-y):Int)))++([47]))++(Lib.itoa ((-y)/(Int.gcd (-x) (-y):Int))):List UInt8).toArray⟩) ?_
  refine za0 ?_
  refine ae _ _ ?_
  try clear ae aj
  refine wp_ret ?_
  refine bodyPost_ret (v:=(.string ⟨(((Lib.itoa ((-x)/(Int.gcd (-x) (-y):Int)))++([47]))++(Lib.itoa ((-y)/(Int.gcd (-x) (-y):Int))):List UInt8).toArray⟩)) (zb0 rfl rfl) rfl ⟨?_,hB⟩
  exact (by rw [text_f h0 aa];rw [zI9])

set_option maxRecDepth 100000 in
set_option maxHeartbeats 1000000 in
theorem r2_neg {k:Nat} (a:Rat) (ha:Sz k a.num∧Sz k (a.den:Int)) (_hk:k≤19998) (w:World):
    Calls Tryz.prog 115 #[(.string ⟨(za1 (a):List UInt8).toArray⟩)] w fun e w'=>e=.returned (.string ⟨(za1 (-a)).toArray⟩)∧Gr w w':=by
 go_enter Tryz.func115,Tryz.ntmps115
 have hB:=Gr.refl w
 refine wp_seq_k (fun K1 k1=>?_)
 refine rg [0] ?_
 refine sv 2 (.string ⟨([]:List UInt8).toArray⟩) ?_
 refine za0 ?_
 refine k1 _ _ ?_
 try clear k1 K1
 refine wp_seq_k (fun K2 k2=>?_)
 refine rg [0,1,2,3,4,5,6] ?_
 refine sv 6 (.string ⟨(za1 (a):List UInt8).toArray⟩) ?_
 refine se ?_
 refine ec 7 (zg8 (a) ha.1 ha.2 (by omega) _) ?_
 rintro e3 w3 ⟨rfl,g3⟩
 refine ⟨_,rfl,?_⟩
 replace hB:=hB.trans g3
 simp only [p3,p4]
 refine sv 5 (.tuple #[(.string ⟨(Lib.itoa (a.num):List UInt8).toArray⟩),(.string ⟨(Lib.itoa ((a.den:Int)):List UInt8).toArray⟩)]) ?_
 refine sv 8 (.string ⟨(Lib.itoa (a.num):List UInt8).toArray⟩) ?_
 refine sv 9 (.string ⟨(Lib.itoa ((a.den:Int)):List UInt8).toArray⟩) ?_
 refine sv 3 (.string ⟨(Lib.itoa (a.num):List UInt8).toArray⟩) ?_
 refine sv 4 (.string ⟨(Lib.itoa ((a.den:Int)):List UInt8).toArray⟩) ?_
 refine za0 ?_
 refine k2 _ _ ?_
 try clear k2 K2
 refine wp_seq_k (fun K4 k4=>?_)
 refine rg [0,1,2,3,4] ?_
 refine sv 10 (.string ⟨(Lib.itoa (a.num):List UInt8).toArray⟩) ?_
 refine se ?_
 refine ec 11 (yg9 (a.num) ha.1 (by omega) _) ?_
 rintro e5 w5 ⟨rfl,g5⟩
 refine ⟨_,rfl,?_⟩
 replace hB:=hB.trans g5
 simp only [p3,p4]
 refine sv 12 (.string ⟨(Lib.itoa ((a.den:Int)):List UInt8).toArray⟩) ?_
 refine se ?_
 refine ec 13 (zw2 (-a.num) ((a.den:Int)) ha.1.neg ha.2 (zr4 a) (by omega) _) ?_
 rintro e6 w6 ⟨rfl,g6⟩
 refine ⟨_,rfl,?_⟩
 replace hB:=hB.trans g6
 simp only [p3,p4]
 refine sv 2 (.string ⟨(za1 (Rat.divInt (-a.num) ((a.den:Int))):List UInt8).toArray⟩) ?_
 refine za0 ?_
 refine k4 _ _ ?_
 try clear k4 K4
 refine wp_ret ?_
 refine bodyPost_ret (v:=(.string ⟨(za1 (Rat.divInt (-a.num) ((a.den:Int))):List UInt8).toArray⟩)) (zb0 rfl rfl) rfl ⟨?_,hB⟩
 exact (by rw [rat_neg])

set_option maxRecDepth 100000 in
set_option maxHeartbeats 1000000 in
theorem r2_add {k m:Nat} (a b:Rat) (ha:Sz k a.num∧Sz k (a.den:Int)) (hb:Sz m b.num∧Sz m (b.den:Int)) (_hk:k+m≤19998) (w:World):
    Calls Tryz.prog 105 #[(.string ⟨(za1 (a):List UInt8).toArray⟩),(.string ⟨(za1 (b):List UInt8).toArray⟩)] w fun e w'=>e=.returned (.string ⟨(za1 (a+b)).toArray⟩)∧Gr w w':=by
 go_enter Tryz.func105,Tryz.ntmps105
 have hB:=Gr.refl w
 refine wp_seq_k (fun K1 k1=>?_)
 refine rg [0] ?_
 refine sv 4 (.string ⟨([]:List UInt8).toArray⟩) ?_
 refine za0 ?_
 refine k1 _ _ ?_
 try clear k1 K1
 refine wp_seq_k (fun K2 k2=>?_)
 refine rg [0,1,2,3,4,5,6] ?_
 refine sv 10 (.string ⟨(za1 (a):List UInt8).toArray⟩) ?_
 refine se ?_
 refine ec 11 (zg8 (a) ha.1 ha.2 (by omega) _) ?_
 rintro e3 w3 ⟨rfl,g3⟩
 refine ⟨_,rfl,?_⟩
 replace hB:=hB.trans g3
 simp only [p3,p4]
 refine sv 9 (.tuple #[(.string ⟨(Lib.itoa (a.num):List UInt8).toArray⟩),(.string ⟨(Lib.itoa ((a.den:Int)):List UInt8).toArray⟩)]) ?_
 refine sv 12 (.string ⟨(Lib.itoa (a.num):List UInt8).toArray⟩) ?_
 refine sv 13 (.string ⟨(Lib.itoa ((a.den:Int)):List UInt8).toArray⟩) ?_
 refine sv 5 (.string ⟨(Lib.itoa (a.num):List UInt8).toArray⟩) ?_
 refine sv 6 (.string ⟨(Lib.itoa ((a.den:Int)):List UInt8).toArray⟩) ?_
 refine za0 ?_
 refine k2 _ _ ?_
 try clear k2 K2
 refine wp_seq_k (fun K4 k4=>?_)
 refine rg [0,1,2,3,4,5,6] ?_
 refine sv 15 (.string ⟨(za1 (b):List UInt8).toArray⟩) ?_
 refine se ?_
 refine ec 16 (zg8 (b) hb.1 hb.2 (by omega) _) ?_
 rintro e5 w5 ⟨rfl,g5⟩
 refine ⟨_,rfl,?_⟩
 replace hB:=hB.trans g5
 simp only [p3,p4]
 refine sv 14 (.tuple #[(.string ⟨(Lib.itoa (b.num):List UInt8).toArray⟩),(.string ⟨(Lib.itoa ((b.den:Int)):List UInt8).toArray⟩)]) ?_
 refine sv 17 (.string ⟨(Lib.itoa (b.num):List UInt8).toArray⟩) ?_
 refine sv 18 (.string ⟨(Lib.itoa ((b.den:Int)):List UInt8).toArray⟩) ?_
 refine sv 7 (.string ⟨(Lib.itoa (b.num):List UInt8).toArray⟩) ?_
 refine sv 8 (.string ⟨(Lib.itoa ((b.den:Int)):List UInt8).toArray⟩) ?_
 refine za0 ?_
 refine k4 _ _ ?_
 try clear k4 K4
 refine wp_seq_k (fun K6 k6=>?_)
 refine rg [0,1,2,3,4,5,6,7,8,9,10,11] ?_
 refine sv 19 (.string ⟨(Lib.itoa (a.num):List UInt8).toArray⟩) ?_
 refine sv 20 (.string ⟨(Lib.itoa ((b.den:Int)):List UInt8).toArray⟩) ?_
 refine se ?_
 refine ec 21 (zI8 (a.num) ((b.den:Int)) ha.1 hb.2 (by omega) _) ?_
 rintro e7 w7 ⟨rfl,g7⟩
 refine ⟨_,rfl,?_⟩
 replace hB:=hB.trans g7
 simp only [p3,p4]
 refine sv 22 (.string ⟨(Lib.itoa (b.num):List UInt8).toArray⟩) ?_
 refine sv 23 (.string ⟨(Lib.itoa ((a.den:Int)):List UInt8).toArray⟩) ?_
 refine se ?_
 refine ec 24 (zI8 (b.num) ((a.den:Int)) hb.1 ha.2 (by omega) _) ?_
 rintro e8 w8 ⟨rfl,g8⟩
 refine ⟨_,rfl,?_⟩
 replace hB:=hB.trans g8
 simp only [p3,p4]
 refine se ?_
 refine ec 25 (ys8 (a.num*(b.den:Int)) (b.num*(a.den:Int)) (ha.1.mul hb.2) (hb.1.mul ha.2) (by omega) _) ?_
 rintro e9 w9 ⟨rfl,g9⟩
 refine ⟨_,rfl,?_⟩
 replace hB:=hB.trans g9
 simp only [p3,p4]
 refine sv 26 (.string ⟨(Lib.itoa ((a.den:Int)):List UInt8).toArray⟩) ?_
 refine sv 27 (.string ⟨(Lib.itoa ((b.den:Int)):List UInt8).toArray⟩) ?_
 refine se ?_
 refine ec 28 (zI8 ((a.den:Int)) ((b.den:Int)) ha.2 hb.2 (by omega) _) ?_
 rintro ae ac ⟨rfl,aa⟩
 refine ⟨_,rfl,?_⟩
 replace hB:=hB.trans aa
 simp only [p3,p4]
 refine se ?_
 refine ec 29 (zw2 (a.num*(b.den:Int)+b.num*(a.den:Int)) ((a.den:Int)*(b.den:Int)) ((ha.1.mul hb.2).add (hb.1.mul ha.2)) (ha.2.mul hb.2) (zE6 a b) (by omega) _) ?_
 rintro e11 ad ⟨rfl,ab⟩
 refine ⟨_,rfl,?_⟩
 replace hB:=hB.trans ab
 simp only [p3,p4]
 refine sv 4 (.string ⟨(za1 (Rat.divInt (a.num*(b.den:Int)+b.num*(a.den:Int)) ((a.den:Int)*(b.den:Int))):List UInt8).toArray⟩) ?_
 refine za0 ?_
 refine k6 _ _ ?_
 try clear k6 K6
 refine wp_ret ?_
 refine bodyPost_ret (v:=(.string ⟨(za1 (Rat.divInt (a.num*(b.den:Int)+b.num*(a.den:Int)) ((a.den:Int)*(b.den:Int))):List UInt8).toArray⟩)) (zb0 rfl rfl) rfl ⟨?_,hB⟩
 exact (by rw [zR8])

set_option maxRecDepth 100000 in
set_option maxHeartbeats 1000000 in
theorem r2_mul {k m:Nat} (a b:Rat) (ha:Sz k a.num∧Sz k (a.den:Int)) (hb:Sz m b.num∧Sz m (b.den:Int)) (_hk:k+m≤19998) (w:World):
    Calls Tryz.prog 106 #[(.string ⟨(za1 (a):List UInt8).toArray⟩),(.string ⟨(za1 (b):List UInt8).toArray⟩)] w fun e w'=>e=.returned (.string ⟨(za1 (a*b)).toArray⟩)∧Gr w w':=by
 go_enter Tryz.func106,Tryz.ntmps106
 have hB:=Gr.refl w
 refine wp_seq_k (fun K1 k1=>?_)
 refine rg [0] ?_
 refine sv 4 (.string ⟨([]:List UInt8).toArray⟩) ?_
 refine za0 ?_
 refine k1 _ _ ?_
 try clear k1 K1
 refine wp_seq_k (fun K2 k2=>?_)
 refine rg [0,1,2,3,4,5,6] ?_
 refine sv 10 (.string ⟨(za1 (a):List UInt8).toArray⟩) ?_
 refine se ?_
 refine ec 11 (zg8 (a) ha.1 ha.2 (by omega) _) ?_
 rintro e3 w3 ⟨rfl,g3⟩
 refine ⟨_,rfl,?_⟩
 replace hB:=hB.trans g3
 simp only [p3,p4]
 refine sv 9 (.tuple #[(.string ⟨(Lib.itoa (a.num):List UInt8).toArray⟩),(.string ⟨(Lib.itoa ((a.den:Int)):List UInt8).toArray⟩)]) ?_
 refine sv 12 (.string ⟨(Lib.itoa (a.num):List UInt8).toArray⟩) ?_
 refine sv 13 (.string ⟨(Lib.itoa ((a.den:Int)):List UInt8).toArray⟩) ?_
 refine sv 5 (.string ⟨(Lib.itoa (a.num):List UInt8).toArray⟩) ?_
 refine sv 6 (.string ⟨(Lib.itoa ((a.den:Int)):List UInt8).toArray⟩) ?_
 refine za0 ?_
 refine k2 _ _ ?_
 try clear k2 K2
 refine wp_seq_k (fun K4 k4=>?_)
 refine rg [0,1,2,3,4,5,6] ?_
 refine sv 15 (.string ⟨(za1 (b):List UInt8).toArray⟩) ?_
 refine se ?_
 refine ec 16 (zg8 (b) hb.1 hb.2 (by omega) _) ?_
 rintro e5 w5 ⟨rfl,g5⟩
 refine ⟨_,rfl,?_⟩
 replace hB:=hB.trans g5
 simp only [p3,p4]
 refine sv 14 (.tuple #[(.string ⟨(Lib.itoa (b.num):List UInt8).toArray⟩),(.string ⟨(Lib.itoa ((b.den:Int)):List UInt8).toArray⟩)]) ?_
 refine sv 17 (.string ⟨(Lib.itoa (b.num):List UInt8).toArray⟩) ?_
 refine sv 18 (.string ⟨(Lib.itoa ((b.den:Int)):List UInt8).toArray⟩) ?_
 refine sv 7 (.string ⟨(Lib.itoa (b.num):List UInt8).toArray⟩) ?_
 refine sv 8 (.string ⟨(Lib.itoa ((b.den:Int)):List UInt8).toArray⟩) ?_
 refine za0 ?_
 refine k4 _ _ ?_
 try clear k4 K4
 refine wp_seq_k (fun K6 k6=>?_)
 refine rg [0,1,2,3,4,5,6,7] ?_
 refine sv 19 (.string ⟨(Lib.itoa (a.num):List UInt8).toArray⟩) ?_
 refine sv 20 (.string ⟨(Lib.itoa (b.num):List UInt8).toArray⟩) ?_
 refine se ?_
 refine ec 21 (zI8 (a.num) (b.num) ha.1 hb.1 (by omega) _) ?_
 rintro e7 w7 ⟨rfl,g7⟩
 refine ⟨_,rfl,?_⟩
 replace hB:=hB.trans g7
 simp only [p3,p4]
 refine sv 22 (.string ⟨(Lib.itoa ((a.den:Int)):List UInt8).toArray⟩) ?_
 refine sv 23 (.string ⟨(Lib.itoa ((b.den:Int)):List UInt8).toArray⟩) ?_
 refine se ?_
 refine ec 24 (zI8 ((a.den:Int)) ((b.den:Int)) ha.2 hb.2 (by omega) _) ?_
 rintro e8 w8 ⟨rfl,g8⟩
 refine ⟨_,rfl,?_⟩
 replace hB:=hB.trans g8
 simp only [p3,p4]
 refine se ?_
 refine ec 25 (zw2 (a.num*b.num) ((a.den:Int)*(b.den:Int)) (ha.1.mul hb.1) (ha.2.mul hb.2) (zE6 a b) (by omega) _) ?_
 rintro e9 w9 ⟨rfl,g9⟩
 refine ⟨_,rfl,?_⟩
 replace hB:=hB.trans g9
 simp only [p3,p4]
 refine sv 4 (.string ⟨(za1 (Rat.divInt (a.num*b.num) ((a.den:Int)*(b.den:Int))):List UInt8).toArray⟩) ?_
 refine za0 ?_
 refine k6 _ _ ?_
 try clear k6 K6
 refine wp_ret ?_
 refine bodyPost_ret (v:=(.string ⟨(za1 (Rat.divInt (a.num*b.num) ((a.den:Int)*(b.den:Int))):List UInt8).toArray⟩)) (zb0 rfl rfl) rfl ⟨?_,hB⟩
 exact (by rw [zR9])

set_option maxRecDepth 100000 in
set_option maxHeartbeats 1000000 in
theorem r2_sub {k m:Nat} (a b:Rat) (ha:Sz k a.num∧Sz k (a.den:Int)) (hb:Sz m b.num∧Sz m (b.den:Int)) (_hk:k+m≤19998) (w:World):
    Calls Tryz.prog 132 #[(.string ⟨(za1 (a):List UInt8).toArray⟩),(.string ⟨(za1 (b):List UInt8).toArray⟩)] w fun e w'=>e=.returned (.string ⟨(za1 (a - b)).toArray⟩)∧Gr w w':=by
 go_enter Tryz.func132,Tryz.ntmps132
 have hB:=Gr.refl w
 refine wp_seq_k (fun K1 k1=>?_)
 refine rg [0] ?_
 refine sv 4 (.string ⟨([]:List UInt8).toArray⟩) ?_
 refine za0 ?_
 refine k1 _ _ ?_
 try clear k1 K1
 refine wp_seq_k (fun K2 k2=>?_)
 refine rg [0,1,2,3,4] ?_
 refine sv 5 (.string ⟨(za1 (a):List UInt8).toArray⟩) ?_
 refine sv 6 (.string ⟨(za1 (b):List UInt8).toArray⟩) ?_
 refine se ?_
 refine ec 7 (r2_neg (b) hb (by omega) _) ?_
 rintro e3 w3 ⟨rfl,g3⟩
 refine ⟨_,rfl,?_⟩
 replace hB:=hB.trans g3
 simp only [p3,p4]
 refine se ?_
 refine ec 8 (r2_add (a) (-b) ha (yx5 hb) (by omega) _) ?_
 rintro e4 w4 ⟨rfl,g4⟩
 refine ⟨_,rfl,?_⟩
 replace hB:=hB.trans g4
 simp only [p3,p4]
 refine sv 4 (.string ⟨(za1 (a+-b):List UInt8).toArray⟩) ?_
 refine za0 ?_
 refine k2 _ _ ?_
 try clear k2 K2
 refine wp_ret ?_
 refine bodyPost_ret (v:=(.string ⟨(za1 (a+-b):List UInt8).toArray⟩)) (zb0 rfl rfl) rfl ⟨?_,hB⟩
 exact (by rw [Rat.sub_eq_add_neg])

end Go.Proofs.YtaldbfflkpgfoaaGreatDoor
