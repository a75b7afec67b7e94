/- Joined of: Div1, Div2, Div3, Div4, Div5, Int7, Gen2, Int8, Gen3, Rat1, Sl, Ro, Gen4, Sm. -/
import Derived.Test.YtjhflekncldflaaGreatDoorPartA
import Derived.Laws.BitsAllLaws
import Derived.Lib.SliceRun
import Derived.Lib.BitFns
namespace Go.Proofs.YtjhflekncldflaaGreatDoor
open Go.RowKit

theorem or_add (i:Nat) (a b:Nat) (h:b<2 ^ i):(a*2 ^ i)|||b=a*2 ^ i+b:=by
 have:=Nat.shiftLeft_add_eq_or_of_lt h a
 rw [Nat.shiftLeft_eq] at this
 exact this.symm
theorem or64 (r d:Int) (h0:0≤r) (h1:r<4294967296) (h2:0≤d) (h3:d<4294967296):bits BinOp.or IntKind.u64 (r*4294967296) d=r*4294967296+d:=by
 obtain ⟨a,rfl⟩:=Int.eq_ofNat_of_zero_le h0
 obtain ⟨b,rfl⟩:=Int.eq_ofNat_of_zero_le h2
 have e:((a:Int)*4294967296)=((a*2 ^ 32:Nat):Int):=by simp
 rw [e,u64_or_nat _ _ (by omega) (by omega),or_add 32 a b (by omega)]
 simp

set_option maxRecDepth 100000 in
set_option maxHeartbeats 1000000 in
theorem zS9 (ao:Option Addr) (la ca:Nat) (a x:Int) (w:World) (hla:la≤1000000) (ha:Mag w ao la ca a) (aa:0<x) (af:x<4294967296):
  Calls Tryz.prog 87 #[.slice ao la ca,.int .u32 x] w fun e w'=>(∃ go k cap,e=.returned (.tuple #[.slice go k cap,.int .u32 (a % x)])∧Mag w' go k cap (a/x))∧Gr w w':=by
 go_enter Tryz.func87,Tryz.ntmps87
 go_wp2_with (at_make;refine ze0 _ rfl _ _ rfl _ _ la rfl rfl (by omega) (by omega) (by omega) ?_)
 intro w1 hO hB hsz
 go_wp2
 go_loopw [7,8] (fun c i wr=>∃ (k:Nat) (r:Int) (d:Nat→Int),k≤la∧i=.int .i64 ((k:Int) - 1)∧c=.int .u64 r∧0≤r∧r<4294967296∧Hid (r=hi a k % x)∧Own wr w.heap.size la d∧Below w.heap.size w wr∧
   Hid (∀ j,k≤j→j<la→d j=dg (a/x) j)) (fun _ i _=>(intOf i+1).toNat)
 case atStart=>exact ⟨la,0,_,Nat.le_refl _,rfl,rfl,by omega,by omega,by rw [Hid,ha.nl.top];simp,hO,hB,fun j h1 h2=>by omega⟩
 case round=>
  obtain ⟨k,r,d,hk,rfl,rfl,ae,ah,hr,hO,hB,hd⟩:=hrel
  by_cases hp:0<k
  ·obtain ⟨b1,ad,rfl,hcs⟩:=(ha.row.below hB).at_ (by omega)
   obtain ⟨j,rfl⟩:∃ j,k=j+1:=⟨k - 1,by omega⟩
   have hcell:=hcs j (by omega)
   have ac:=hO.cell j (by omega)
   have hfree:=hO.free j
   have d0:=zb3 a j
   have d1:=ze2 a j
   have e1:(((j+1:Nat):Int) - 1)=(j:Int):=by omega
   simp only [e1]
   have hor:=or64 r (dg a j) ae ah d0 d1
   have hs:=zR2 a x j aa af
   rw [← hr.out] at hs
   have q1:=hs.2.2.1
   have q0:=hs.2.2.2
   have HS:=Lib.hid hs
   clear hs
   clear hcs e1
   go_wp2
   have hs:=HS.out
   have m0:=Int.emod_nonneg (r*4294967296+dg a j) (show x≠0 by omega)
   have m1:=Int.emod_lt_of_pos (r*4294967296+dg a j) aa
   go_roundw
   case rel=>
    refine ⟨j,_,_,by omega,rfl,rfl,m0,by omega,hs.2.1.symm,hO.set (by omega) _,hB.setCell (Nat.le_refl _) _,fun i h1 h2=>?_⟩
    by_cases e:i=j
    ·subst e;rw [zd0,hs.1]
    rw [zb7 _ _ e];exact hd.out i (by omega) h2
   case measure=>simp [intOf]
  obtain rfl:k=0:=by omega
  go_wp2_with fail
  have ht:hi (a/x) la=0:=by rw [zs7 a x aa,ha.nl.top,Int.zero_ediv]
  refine (zq4 _ _ _ (a/x) _ (by omega) (Nat.le_refl _) (Int.ediv_nonneg ha.nl.nonneg (by omega)) ht (hO.congr (fun j hj=>hd.out j (by omega) hj)).row).mono ?_
  rintro e w3 ⟨⟨k,rfl,hm,ai⟩,rfl⟩
  have hr':r=a % x:=hr.out
  go_wp2
  go_ret2
  exact ⟨⟨_,_,_,rfl,hm⟩,hB⟩

theorem zK8 {s:Nat} {c q:Int} (hs:s≤32) (h0:0≤c) (h1:c<2 ^ s) (aa:0≤q) (hq:q*2 ^ s<4294967296):bits BinOp.or IntKind.u32 c (q*2 ^ s)=c+q*2 ^ s:=by
 obtain ⟨a,rfl⟩:=Int.eq_ofNat_of_zero_le h0
 obtain ⟨b,rfl⟩:=Int.eq_ofNat_of_zero_le aa
 have e:((b:Int)*2 ^ s)=((b*2 ^ s:Nat):Int):=by simp
 have e2:((2:Int) ^ s)=((2 ^ s:Nat):Int):=by simp
 rw [e2] at h1
 rw [e] at hq ⊢
 have hlt:a<2 ^ s:=by omega
 have hle:2 ^ s≤2 ^ 32:=Nat.pow_le_pow_right (by omega) (by omega)
 rw [u32_or_nat _ _ (by omega) (by omega),Nat.or_comm,or_add s b a hlt]
 omega
theorem zT0 {x:Int} (h0:0≤x) (h1:x<18446744073709551616):IntKind.u64.wrap x=x:=by
 rw [IntKind.wrap_u64];omega

set_option maxRecDepth 100000 in
set_option maxHeartbeats 1000000 in
theorem zK9 (ao:Option Addr) (la ca:Nat) (a:Int) (s:Nat) (w:World) (hla:la≤1000000) (ha:Mag w ao la ca a) (hs:s<32):
  Calls Tryz.prog 171 #[.slice ao la ca,.int .i64 s] w fun e w'=>(∃ g,e=.returned (.slice (some ⟨g,0,none⟩) (la+1) (la+1))∧w.heap.size≤g∧Own w' g (la+1) (dg (a*2 ^ s))∧hi (a*2 ^ s) (la+1)=0)∧Gr w w':=by
 go_enter Tryz.func171,Tryz.ntmps171
 go_wp2_with (at_make;refine ze0 _ rfl _ _ rfl _ _ (la+1) rfl rfl (by omega) (by omega) (by omega) ?_)
 intro w1 hO hB hsz
 go_wp2
 go_loopw [14] (fun i wr=>∃ (k:Nat) (c:Int) (d:Nat→Int),k≤la∧i=.int .i64 k∧0≤c∧Hid (c<2 ^ s∧hi (a*2 ^ s) k=hi a k*2 ^ s+c∧d k=c∧∀ j,j<k→d j=dg (a*2 ^ s) j)∧Own wr w.heap.size (la+1) d∧Below w.heap.size w wr) (fun i _=>la - (intOf i).toNat)
 case atStart=>exact ⟨0,0,fun _=>0,Nat.zero_le _,rfl,by omega,⟨Int.pow_pos (by omega),by rw [zd9,zd9];omega,rfl,fun j hj=>by omega⟩,hO,hB⟩
 case round=>
  obtain ⟨k,c,d,hk,rfl,ai,hh,hO,hB⟩:=hrel
  by_cases hlt:k<la
  ·obtain ⟨b1,aj,rfl,hcs⟩:=(ha.row.below hB).at_ (by omega)
   have hcell:=hcs k (by omega)
   have af:=hO.cell k (by omega)
   have ae:=hO.cell (k+1) (by omega)
   have hfree:=hO.free k
   have hfree':=hO.free (k+1)
   have d0:=zb3 a k
   have d1:=ze2 a k
   have i0:(0:Int)≤(k:Int):=by omega
   have i1:(k:Int)<((la+1:Nat):Int):=by omega
   have s0:(0:Int)≤(s:Int):=by omega
   have s1:(s:Int)<32:=by omega
   clear hcs
   go_wp2
   go_region
   go_wp2
   obtain ⟨h1,h2,h3,h4⟩:=hh.out
   obtain ⟨ac,ad,ah⟩:=zq7 hs
   have hst:=zR3 ac ad ah h2 ai h1
   have hle:(2:Int) ^ s≤4294967296:=by
    have:=Int.mul_le_mul_of_nonneg_left (show (1:Int)≤2 ^ (32 - s) by omega) (Int.le_of_lt ad)
    rw [ac,Int.mul_one] at this
    exact this
   have hprod:dg a k*2 ^ s≤4294967295*4294967296:=Int.mul_le_mul (by omega) hle (by omega) (by omega)
   have aa:0≤dg a k*2 ^ s:=Int.mul_nonneg d0 (by omega)
   have ew:=zT0 aa (by omega)
   have eo:bits BinOp.or IntKind.u32 (d k) (dg a k*2 ^ s % 4294967296)=c+dg a k*2 ^ s % 4294967296:=by
    rw [h3,hst.2.2.2.2]
    refine zK8 (Nat.le_of_lt hs) ai h1 (Int.emod_nonneg _ (by omega)) ?_
    rw [← hst.2.2.2.2];omega
   rw [ew,eo]
   go_roundw
   case rel=>
    refine ⟨k+1,dg a k*2 ^ s/4294967296,_,by omega,by go_num,hst.2.2.1,⟨hst.2.2.2.1,hst.2.1,?_,fun j hj=>?_⟩,((hO.set (by omega) _).set (by omega) _).gr (Gr.drew _),((hB.setCell (Nat.le_refl _) _).setCell (Nat.le_refl _) _).drew⟩
    ·rw [zd0]
     have:=hst.2.2.2.1
     omega
    rw [zb7 _ _ (by omega)]
    by_cases e:j=k
    ·subst e;rw [zd0,hst.1]
    rw [zb7 _ _ e];exact h4 j (by omega)
   case measure=>simp [intOf];omega
  obtain rfl:k=la:=by omega
  go_wp2
  go_ret
  obtain ⟨h1,h2,h3,h4⟩:=hh.out
  obtain ⟨ac,ad,ah⟩:=zq7 hs
  have hle:(2:Int) ^ s≤4294967296:=by
   have:=Int.mul_le_mul_of_nonneg_left (show (1:Int)≤2 ^ (32 - s) by omega) (Int.le_of_lt ad)
   rw [ac,Int.mul_one] at this
   exact this
  rw [ha.nl.top,Int.zero_mul,Int.zero_add] at h2
  refine ⟨⟨_,rfl,Nat.le_refl _,hO.congr (fun j hj=>?_),by rw [zc9,h2];omega⟩,hB⟩
  by_cases e:j=k
  ·subst e;rw [h3];unfold dg;rw [h2];omega
  exact h4 j (by omega)
theorem own_of {w:World} {base n:Nat} {v:Value} {d:Nat→Int} (h:w.ownsRow base 171 1 v n ((List.range n).map fun i=>Value.int .u32 (d i))):
  (n=0∧v=.slice none 0 0)∨∃ g cap,v=.slice (some ⟨g,0,none⟩) n cap∧n≤cap∧base≤g∧Own w g n d:=by
 rcases h.2 with ⟨h1,h2⟩ | ⟨g,cap,cur,h1,h2,h3,h4,_,_,h5⟩
 ·exact .inl ⟨h2,h1⟩
 refine .inr ⟨g,cap,h1,h4,h2,cur,h3,fun i hi=>?_⟩
 rw [Nat.mul_one] at h5
 have h6:(cur.toList.take n)[i]?=((List.range n).map fun i=>Value.int .u32 (d i))[i]?:=by rw [h5]
 rw [List.getElem?_take_of_lt hi] at h6
 simp [hi] at h6
 simpa using h6

def CloneQ (la:Nat) (d:Nat→Int) (w:World) (e:Ending) (w':World):Prop:=
 (∃ go cap,e=.returned (.slice go la cap)∧la≤cap∧(0<la→∃ g,go=some ⟨g,0,none⟩∧w.heap.size≤g∧Own w' g la d))∧Gr w w'
set_option maxRecDepth 100000 in
set_option maxHeartbeats 1000000 in
theorem clone_c (ao:Option Addr) (la ca:Nat) (d:Nat→Int) (w:World) (hla:la≤2000000) (ha:Row w ao la d):
  Calls Tryz.prog 194 #[.slice ao la ca] w (CloneQ la d w):=by
 cases ao with
 | none=>
  have h0:la=0:=by
   rcases Nat.eq_zero_or_pos la with h | h
   ·exact h
   obtain ⟨b,off,e,_⟩:=ha.at_ h;cases e
  subst h0
  have he:(binOp .eql 58 (.slice none 0 ca) (.slice none 0 0)).run Tryz.prog w=.ok (.bool true) w:=Lib.run_eql_slice_nil (P:=Tryz.prog) w 58 171 none 0 ca 0 0 Tryz.underlying58
  go_enter Tryz.func194,Tryz.ntmps194
  go_wp2
  go_ret
  exact ⟨⟨none,0,rfl,by omega,by omega⟩,Gr.refl w⟩
 | some ad=>
  have he:(binOp .eql 58 (.slice (some ad) la ca) (.slice none 0 0)).run Tryz.prog w=.ok (.bool false) w:=Lib.run_eql_slice_nil (P:=Tryz.prog) w 58 171 (some ad) la ca 0 0 Tryz.underlying58
  have hbs:∀ w,(Instr.buildSlice 58 0 #[]).run Tryz.prog w=.ok (.slice (some ⟨w.heap.size,0,none⟩) 0 0) (w.alloc (.cells #[] 171)):=fun _=>by kernel_rfl
  have hd:∀ j u,((List.range la).map fun i=>Value.int .u32 (d i))[j]?=some u→w.cell? (ad.add j)=some u:=by
   intro j u hj
   have hlt:j<la:=by simpa using (List.getElem?_eq_some_iff.1 hj).1
   obtain ⟨b,off,e,hc⟩:=ha.at_ (by omega)
   obtain rfl:=Option.some.inj e
   have:=hc j hlt
   simp [hlt] at hj
   rw [Addr.add_lit,this,← hj]
  have HD:=Lib.hid hd
  clear hd ha
  obtain ⟨i,hi,hz,hs,hb⟩:=info_parts zO8
  go_enter Tryz.func194,Tryz.ntmps194
  go_wp2_with (at_builtin;refine wpList_append_own _ rfl _ _ 58 rfl w.heap.size 171 i _ 1 4 Tryz.underlying58 hi hz hs hb rfl (by omega) _ 0 [] rfl (World.ownsRow_made w #[] 0 (Nat.le_refl _) (by simp) rfl) ad la ca ((List.range la).map fun i=>Value.int .u32 (d i)) rfl (by simp) ?h1 ?h2 (by unfold maxLen;omega) (by omega) (by simp) ?_)
  case h1=>exact fun j u hj=>(World.cell?_alloc_lt w _ _ (World.block_lt_of_cell? w _ (HD.out j u hj))).trans (HD.out j u hj)
  case h2=>
   intro u hu
   obtain ⟨_,_,rfl⟩:=List.mem_map.1 hu
   rfl
  intro v' w1 hown hgrow hnil
  have hG:Gr w w1:=((Below.refl w.heap.size w).alloc (Nat.le_refl _) _).grown hgrow (by simp) (fun k hk=>by simp [Value.ownBlock] at hk;omega)
  rcases own_of hown with ⟨rfl,rfl⟩ | ⟨g,cap,rfl,hcap,hg,hO⟩
  ·exact absurd rfl hnil
  clear he hbs hnil hgrow hown HD
  go_wp2
  go_ret
  exact ⟨⟨_,cap,rfl,hcap,fun _=>⟨g,rfl,hg,hO⟩⟩,hG⟩

set_option maxRecDepth 100000 in
set_option maxHeartbeats 2000000 in
theorem zT1 (ao:Option Addr) (la ca:Nat) (a:Int) (s:Nat) (w:World) (hla:la≤1000001) (ha:Mag w ao la ca a) (hs:s<32):
  Calls Tryz.prog 173 #[.slice ao la ca,.int .i64 s] w fun e w'=>(∃ go k cap,e=.returned (.slice go k cap)∧Mag w' go k cap (a/2 ^ s))∧Gr w w':=by
 go_enter Tryz.func173,Tryz.ntmps173
 go_wp2_with fail
 refine (clone_c ao la ca (dg a) _ (by omega) ha.row).mono ?_
 rintro e w1 ⟨⟨go,cap,rfl,hcap,hg⟩,hG⟩
 obtain ⟨ad,ac,af⟩:=zq7 hs
 by_cases hz:la=0
 ·subst hz
  have h0:a=0:=ha.nl.len_zero.1 rfl
  go_wp2
  go_loopw [11] (fun i wr=>i=.int .i64 0∧wr=w1) (fun _ _=>0)
  case atStart=>exact ⟨rfl,rfl⟩
  case round=>
   obtain ⟨rfl,rfl⟩:=hrel
   go_wp2_with fail
   refine (zq4 _ _ _ (a/2 ^ s) _ (by omega) hcap (Int.ediv_nonneg ha.nl.nonneg (by omega)) (by rw [h0,Int.zero_ediv];rfl) (Row.nil _ _ _)).mono ?_
   rintro e w3 ⟨⟨m,rfl,hm,ah⟩,rfl⟩
   go_wp2
   go_ret
   exact ⟨⟨_,_,_,rfl,hm⟩,hG⟩
 obtain ⟨g,rfl,hge,hO⟩:=hg (by omega)
 have s0:(0:Int)≤(s:Int):=by omega
 have s1:(s:Int)<32:=by omega
 go_wp2
 go_loopw [11] (fun i wr=>∃ (k:Nat) (d:Nat→Int),k≤la∧i=.int .i64 k∧Hid (∀ j,j<la→d j=if j<k then dg (a/2 ^ s) j else dg a j)∧Own wr g la d∧Below g w1 wr) (fun i _=>la - (intOf i).toNat)
 case atStart=>exact ⟨0,dg a,Nat.zero_le _,rfl,fun j hj=>by simp,hO,Below.refl _ _⟩
 case round=>
  obtain ⟨k,d,hk,rfl,hd,hO,hB⟩:=hrel
  have hw:Below w.heap.size w wr:=Below.trans hG (hB.mono hge)
  by_cases hlt:k<la
  ·have hdk:=hd.out k hlt
   rw [if_neg (by omega)] at hdk
   have aa:=hO.cell k hlt
   rw [hdk] at aa
   have hfree:=hO.free k
   have d0:=zb3 a k
   have d1:=ze2 a k
   have HK:=Lib.hid hdk
   clear hdk
   have i0:(0:Int)≤(k:Int):=by omega
   have i1:(k:Int)<(la:Int):=by omega
   by_cases hlt2:k+1<la
   ·obtain ⟨b1,ae,rfl,hcs⟩:=(ha.row.below hw).at_ (by omega)
    have hcell:=hcs (k+1) (by omega)
    have e0:=zb3 a (k+1)
    have e1:=ze2 a (k+1)
    have j0:(0:Int)≤(k:Int)+1:=by omega
    have j1:(k:Int)+1<(la:Int):=by omega
    clear hcs
    go_wp2
    go_region
    go_wp2
    have hst:=zR4 (n:=a) (i:=k) ad ac af
    have eo:bits BinOp.or IntKind.u32 (dg a k/2 ^ s) (dg a (k+1)*4294967296/2 ^ s % 4294967296)=dg (a/2 ^ s) k:=by
     rw [hst.2.2.1,hst.2.1,hst.1,hst.2.1]
     refine zK8 (by omega) hst.2.2.2.1 hst.2.2.2.2 (Int.emod_nonneg _ (by omega)) ?_
     rw [← hst.2.1];omega
    rw [eo]
    go_roundw
    case rel=>
     refine ⟨k+1,_,by omega,by go_num,fun j hj=>?_,((hO.set (by omega) _).set (by omega) _).gr (Gr.drew _),((hB.setCell (Nat.le_refl _) _).setCell (Nat.le_refl _) _).drew⟩
     by_cases e:j=k
     ·subst e;rw [zd0,if_pos (by omega)]
     rw [zb7 _ _ e,zb7 _ _ e,hd.out j hj]
     by_cases e2:j<k
     ·rw [if_pos e2,if_pos (by omega)]
     rw [if_neg e2,if_neg (by omega)]
    case measure=>simp [intOf];omega
   have hl:=zR5 (n:=a) (i:=k) ac (zr5 ha.nl.top (by omega))
   have HL:=Lib.hid hl
   clear hl
   go_wp2
   go_roundw
   case rel=>
    refine ⟨k+1,_,by omega,by go_num,fun j hj=>?_,hO.set (by omega) _,hB.setCell (Nat.le_refl _) _⟩
    by_cases e:j=k
    ·subst e;rw [zd0,if_pos (by omega),HL.out]
    rw [zb7 _ _ e,hd.out j hj]
    by_cases e2:j<k
    ·rw [if_pos e2,if_pos (by omega)]
    rw [if_neg e2,if_neg (by omega)]
   case measure=>simp [intOf];omega
  obtain rfl:k=la:=by omega
  go_wp2_with fail
  have ht:hi (a/2 ^ s) k=0:=by rw [zs7 a _ ac,ha.nl.top,Int.zero_ediv]
  refine (zq4 _ _ _ (a/2 ^ s) _ (by omega) hcap (Int.ediv_nonneg ha.nl.nonneg (by omega)) ht (hO.congr (fun j hj=>by rw [hd.out j hj,if_pos hj])).row).mono ?_
  rintro e w3 ⟨⟨m,rfl,hm,ah⟩,rfl⟩
  go_wp2
  go_ret
  exact ⟨⟨_,_,_,rfl,hm⟩,hw⟩
theorem St.drewN {w w':World} {b:Nat} (h:St w w' b) (n:Nat):St w (w'.drewN n) b:=⟨h.os,h.tape,h.output,h.size,h.block⟩
theorem St.drew {w w':World} {b:Nat} (h:St w w' b):St w w'.drew b:=⟨h.os,h.tape,h.output,h.size,h.block⟩
theorem St.cell {w w':World} {b:Nat} (h:St w w' b) {c o:Nat} (hc:c≠b):w'.cell? ⟨c,o,none⟩=w.cell? ⟨c,o,none⟩:=World.cell?_of_block (w:=w) (h.block c hc)
theorem Own.drewN {w:World} {b n:Nat} {d:Nat→Int} (h:Own w b n d) (k:Nat):Own (w.drewN k) b n d:=h.gr ((Below.refl _ _).drewN k)

set_option maxRecDepth 100000 in
set_option maxHeartbeats 4000000 in
theorem digit_c (bu off cu bv offv cv m N:Nat) (D:Nat→Int) (U V:Int) (w:World) (hm:m≤1000000) (hN:off+(m+3)≤N) (aY:N≤2000000) (hO:Own w bu N D) (hD:Hid (∀ i,i<m+3→D (off+i)=dg U i))
  (aP:0≤U) (hUt:Hid (hi U (m+3)=0)) (hV:NL V (m+2)) (hvc:Hid (∀ i,i<m+2→w.cell? ⟨bv,offv+i,none⟩=some (.int .u32 (dg V i)))) (hne:bv≠bu) (hnorm:2147483648≤dg V (m+1)) (hUV:U<V*4294967296):
  Calls Tryz.prog 172 #[.slice (some ⟨bu,off,none⟩) (m+3) cu,.slice (some ⟨bv,offv,none⟩) (m+2) cv] w fun e w'=>
   e=.returned (.int .u32 (U/V))∧St w w' bu∧∃ D',Own w' bu N D'∧(∀ i,i<m+3→D' (off+i)=dg (U % V) i)∧∀ j,(j<off∨off+(m+3)≤j)→D' j=D j:=by
 have ac:=hO.cell (off+(m+2)) (by omega)
 have aB:=hO.cell (off+(m+1)) (by omega)
 have aq:=hO.cell (off+m) (by omega)
 rw [hD.out _ (by omega)] at ac aB aq
 have aK:=hvc.out (m+1) (by omega)
 have aD:=hvc.out m (by omega)
 have aE:=zb3 U (m+2)
 have aL:=ze2 U (m+2)
 have aM:=zb3 U (m+1)
 have aF:=ze2 U (m+1)
 have aw:=zb3 U m
 have ay:=ze2 U m
 have aU:=ze2 V (m+1)
 have av:=zb3 V m
 have aS:=ze2 V m
 have hor:=or64 (dg U (m+2)) (dg U (m+1)) aE aL aM aF
 go_enter Tryz.func172,Tryz.ntmps172
 go_wp2
 go_quiet (fail)
 go_wp2
 go_quiet (fail)
 go_wp2
 have al:hi V (m+1)=dg V (m+1):=by have:=zc6 V (m+1);rw [hV.top] at this;omega
 have hvm:hi V m=dg V (m+1)*4294967296+dg V m:=by have:=zc6 V m;rw [al] at this;omega
 have aj:hi U (m+2)=dg U (m+2):=by have:=zc6 U (m+2);rw [hUt.out] at this;omega
 have az:hi U (m+1)=dg U (m+2)*4294967296+dg U (m+1):=by have:=zc6 U (m+1);rw [aj] at this;omega
 have hum:hi U m=(dg U (m+2)*4294967296+dg U (m+1))*4294967296+dg U m:=by have:=zc6 U m;rw [az] at this;omega
 have ah:0<V:=by
  have:=hi_le_of hV.nonneg (show 0≤m+1 by omega)
  rw [al,zd9] at this;omega
 have ai:0≤U/V:=Int.ediv_nonneg aP (by omega)
 have hQB:U/V<4294967296:=Int.ediv_lt_of_lt_mul ah (by first | exact hUV | (rw [Int.mul_comm];exact hUV))
 have hQV:U/V*V≤U:=Int.ediv_mul_le U (by omega)
 have hlo:=zO7 m ai hQV
 have af:=zO7 (m+1) ai hQV
 rw [al,az] at af
 have KN:=Lib.hid (And.intro hvm (And.intro hum (And.intro hlo (And.intro hQB (And.intro ai ah)))))
 have q0:=Int.ediv_nonneg (show 0≤dg U (m+2)*4294967296+dg U (m+1) by omega) (show 0≤dg V (m+1) by omega)
 have q1:(dg U (m+2)*4294967296+dg U (m+1))/dg V (m+1)<8589934592:=Int.ediv_lt_of_lt_mul (by omega) (by omega)
 have q2:U/V≤(dg U (m+2)*4294967296+dg U (m+1))/dg V (m+1):=(Int.le_ediv_iff_mul_le (by omega)).2 af
 have q3:=Int.emod_add_mul_ediv (dg U (m+2)*4294967296+dg U (m+1)) (dg V (m+1))
 have q4:=Int.emod_nonneg (dg U (m+2)*4294967296+dg U (m+1)) (show dg V (m+1)≠0 by omega)
 have q5:=Int.emod_lt_of_pos (dg U (m+2)*4294967296+dg U (m+1)) (show 0<dg V (m+1) by omega)
 have Q2:=Lib.hid (And.intro q2 q3)
 have au:dg U (m+2)≤dg V (m+1):=by
  have h1:=zj3 (show U≤V*4294967296 ^ 1+0 by omega) (m+2)
  have h2:hi (V*4294967296 ^ 1+0) (m+2)=hi V (m+1):=by
   rw [Int.add_zero,Int.pow_one,show m+2=1+(m+1) by omega,zw8]
   congr 1
   rw [zc9,zd9];omega
  rw [h2,aj,al] at h1;exact h1
 clear al hvm aj az hum ai hQB hQV hlo af q2 q3 ah hor hUV
 have aV:St w (w.drewN 0) bu:=(St.refl w bu).drewN 0
 clear ac aB aq aV
 simp only [show m+2 - 1=m+1 from rfl]
 go_loopw [7,8] (fun sq sr wr=>∃ (q r:Int),sq=.int .u64 q∧sr=.int .u64 r∧0≤q∧q<8589934592∧0≤r∧r<8589934592∧St w wr bu∧Own wr bu N D∧
   Hid (q*dg V (m+1)+r=dg U (m+2)*4294967296+dg U (m+1)∧U/V≤q)) (fun sq _ _=>(intOf sq).toNat)
 case atStart=>exact ⟨_,_,rfl,rfl,q0,q1,q4,by omega,((St.refl w bu).drewN _).drewN _,(hO.drewN _).drewN _,by have:=Q2.out;refine ⟨?_,this.1⟩;rw [Int.mul_comm];omega⟩
 case round=>
  obtain ⟨q,r,rfl,rfl,ax,aQ,aG,aX,hst,hOr,hqr⟩:=hrel
  have aq:=hOr.cell (off+m) (by omega)
  rw [hD.out _ (by omega)] at aq
  have aT:=(hst.cell (o:=offv+(m+1)) hne).trans aK
  have aO:=(hst.cell (o:=offv+m) hne).trans aD
  have p0:0≤q*dg V m:=Int.mul_nonneg ax av
  by_cases hex:r<4294967296∧(4294967296≤q∨r*4294967296+dg U m<q*dg V m)
  ·obtain ⟨hr,hh⟩:=hex
   have d1:decide (r<4294967296)=true:=by simpa using hr
   have hor:=or64 r (dg U m) aG hr aw ay
   have hlt:U/V<q:=by
    obtain ⟨hvm,hum,hlo,hQB,ai,ah⟩:=KN.out
    rcases hh with hh | hh
    ·omega
    exact zY4 hlo hvm hum hqr.out.1 hh (zd6 hV.nonneg m)
   have HL:=Lib.hid hlt
   have HK:=Lib.hid KN.out
   have q6:1≤q:=by have:=KN.out.2.2.2.2.1;omega
   clear hlt
   by_cases hqb:4294967296≤q
   ·have d2:decide (4294967296≤q)=true:=by simpa using hqb
    clear hh
    go_wp2
    go_quiet (fail)
    go_wp2
    go_roundw
    case rel=>
     refine ⟨q - 1,r+dg V (m+1),rfl,rfl,by omega,by omega,by omega,by omega,hst.drewN _,hOr.drewN _,?_,by have:=HL.out;omega⟩
     have:=hqr.out.1
     rw [Int.sub_mul];omega
    case measure=>simp [intOf];omega
   have d2:decide (4294967296≤q)=false:=by simpa using hqb
   have hp:r*4294967296+dg U m<q*dg V m:=by rcases hh with hh | hh;exact absurd hh hqb;exact hh
   have p1:q*dg V m≤4294967295*4294967295:=Int.mul_le_mul (by omega) (by omega) av (by omega)
   have d3:decide (r*4294967296+dg U m<q*dg V m)=true:=by simpa using hp
   clear hh
   go_wp2
   go_quiet (fail)
   go_wp2
   go_roundw
   case rel=>
    refine ⟨q - 1,r+dg V (m+1),rfl,rfl,by omega,by omega,by omega,by omega,hst.drewN _,hOr.drewN _,?_,by have:=HL.out;omega⟩
    have:=hqr.out.1
    rw [Int.sub_mul];omega
   case measure=>simp [intOf];omega
  -- the estimate is right,or one too great
  have aC:q≤4294967295:=by
   rcases Int.lt_or_le r 4294967296 with h | h
   ·rcases Int.lt_or_le q 4294967296 with h2 | h2
    ·omega
    exact absurd ⟨h,.inl h2⟩ hex
   rcases Int.lt_or_le q 4294967296 with h2 | h2
   ·omega
   exfalso
   have h3:=hqr.out.1
   have h4:4294967296*dg V (m+1)≤q*dg V (m+1):=Int.mul_le_mul_of_nonneg_right h2 (by omega)
   have h5:dg U (m+2)≤dg V (m+1):=au
   omega
  have p1:q*dg V m≤4294967295*4294967295:=Int.mul_le_mul aC (by omega) av (by omega)
  have hfin:q*V<U+V:=by
   obtain ⟨hvm,hum,hlo,hQB,ai,ah⟩:=KN.out
   refine knuth_hi m ax aC (by rw [hvm];omega) (zY5 hvm hum hqr.out.1 ?_)
   rcases Int.lt_or_le r 4294967296 with h | h
   ·rcases Int.lt_or_le (r*4294967296+dg U m) (q*dg V m) with h2 | h2
    ·exact absurd ⟨h,.inr h2⟩ hex
    exact h2
   omega
  have hge:=hqr.out.2
  have FIN:=Lib.hid (And.intro hfin hge)
  have d2:decide (4294967296≤q)=false:=by simp;omega
  have hcase:(decide (r<4294967296)=false∧True)∨(r<4294967296∧decide (r<4294967296)=true∧decide (r*4294967296+dg U m<q*dg V m)=false∧bits BinOp.or IntKind.u64 (r*4294967296) (dg U m)=r*4294967296+dg U m):=by
   rcases Int.lt_or_le r 4294967296 with h | h
   ·rcases Int.lt_or_le (r*4294967296+dg U m) (q*dg V m) with h2 | h2
    ·exact absurd ⟨h,.inr h2⟩ hex
    exact .inr ⟨h,by simpa using h,by simpa using h2,or64 r (dg U m) aG h aw ay⟩
   exact .inl ⟨by simpa using h,trivial⟩
  clear hfin hge hex hqr au
  rcases hcase with ⟨d1,_⟩ | ⟨dr,d1,d3,hor⟩
  all_goals
   go_wp2
   go_quiet (fail)
   go_wp2
   clear aq aT aO d1 d2 p0 p1 q0 q1 q4 q5 Q2 aE aL aM aF aw ay aU av aS aK aD
   try clear d3 hor
   go_loopw [9,10,86] (fun sc sb si wr=>∃ (c br:Int) (i:Nat) (E:Nat→Int),sc=.int .u64 c∧sb=.int .i64 br∧si=.int .i64 i∧i≤m+2∧0≤c∧c<4294967296∧0≤br∧br≤1∧St w wr bu∧Own wr bu N E∧
    Hid (hi (V*q+0) i=hi V i*q+c∧hi (U - (V*q+0)) i=hi U i - hi (V*q+0) i - br∧(∀ j,j<i→E (off+j)=dg (U - (V*q+0)) j)∧(∀ j,i≤j→j<m+3→E (off+j)=dg U j)∧∀ j,(j<off∨off+(m+3)≤j)→E j=D j)) (fun _ _ si _=>m+2 - (intOf si).toNat)
   case atStart=>exact ⟨0,0,0,D,rfl,rfl,rfl,by omega,by omega,by omega,by omega,by omega,hst.drewN _,hOr.drewN _,by simp [zd9],by simp [zd9],fun j hj=>by omega,fun j _ hj=>hD.out j hj,fun j _=>rfl⟩
   case round=>
    obtain ⟨c,br,i,E,rfl,rfl,rfl,aA,ar,ap,aJ,aI,aa,ad,hh⟩:=hrel
    by_cases hlt:i<m+2
    ·have aR:=(aa.cell (o:=offv+i) hne).trans (hvc.out i hlt)
     have ac:=ad.cell (off+i) (by omega)
     have hfree:=ad.free (off+i)
     have e1:=hh.out.2.2.2.1 i (Nat.le_refl _) (by omega)
     rw [e1] at ac
     have E1:=Lib.hid e1
     have hs:=zz2 hh.out.1 ar ap ax (by omega)
     have s1:=hs.2.2.1
     have s2:=hs.2.2.2.1
     have s3:=hs.2.2.2.2.1
     have s4:=hs.2.2.2.2.2
     have HS:=Lib.hid hs
     have x0:=zb3 U i
     have x1:=ze2 U i
     have x2:=zb3 V i
     have x3:=ze2 V i
     have ecomm:q*dg V i=dg V i*q:=Int.mul_comm _ _
     clear e1 hs
     go_wp2
     all_goals
      have hs:=HS.out
      have hms:=zz1 (a:=U) (b:=V*q+0) hh.out.2.1 aJ aI
      go_roundw
      case rel=>
       refine ⟨_,_,i+1,_,rfl,rfl,by go_num,by omega,s1,s2,by omega,by omega,aa.trans (St.setCell _ _ _ _),ad.set (by omega) _,hs.2.1,?_,fun j hj=>?_,fun j h1 h2=>?_,fun j hj=>?_⟩
       ·have h2:=hms.2
        rw [hs.1] at h2
        first | rw [if_pos (by assumption)] at h2 | rw [if_neg (by omega)] at h2
        exact h2
       ·by_cases e:j=i
        ·subst e;rw [zd0,hms.1,hs.1];omega
        rw [zb7 _ _ (by omega)];exact hh.out.2.2.1 j (by omega)
       ·rw [zb7 _ _ (by omega)];exact hh.out.2.2.2.1 j (by omega) h2
       rw [zb7 _ _ (by omega)];exact hh.out.2.2.2.2 j hj
      case measure=>simp [intOf];omega
    obtain rfl:i=m+2:=by omega
    have ac:=ad.cell (off+(m+2)) (by omega)
    have hfree:=ad.free (off+(m+2))
    have e1:=hh.out.2.2.2.1 (m+2) (Nat.le_refl _) (by omega)
    rw [e1] at ac
    have ht:=hh.out.2.1
    have hc:=hh.out.1
    rw [hV.top,Int.zero_mul,Int.zero_add] at hc
    have aj:hi U (m+2)=dg U (m+2):=by have:=zc6 U (m+2);rw [hUt.out] at this;omega
    rw [hc,aj] at ht
    have x0:=zb3 U (m+2)
    have x1:=ze2 U (m+2)
    have HT:=Lib.hid ht
    have E1:=Lib.hid e1
    clear e1 hc aj ht
    by_cases hneg:0≤dg U (m+2) - br - c
    ·go_wp2
     go_ret
     have ah:=KN.out.2.2.2.2.2
     have aN:0≤U - V*q:=by
      rcases Int.lt_or_le (U - (V*q+0)) 0 with h | h
      ·have:=hi_neg h (m+2);rw [HT.out] at this;omega
      omega
     have hmd:=mod_of ah aN FIN.out.2
     refine ⟨?_,aa.trans (St.setCell _ _ _ _),_,ad.set (by omega) _,fun i aA=>?_,fun j hj=>?_⟩
     ·rw [← hmd.1];first | rfl | exact congrArg (fun z=>Ending.returned (Value.int .u32 z)) (show q % 4294967296=q by omega)
     ·rw [← hmd.2]
      by_cases e:i=m+2
      ·subst e;rw [zd0]
       have:dg (U - V*q) (m+2)=hi (U - V*q) (m+2) % 4294967296:=rfl
       have h2:=HT.out
       rw [Int.add_zero] at h2
       rw [this,h2];omega
      rw [zb7 _ _ (by omega)]
      have:=hh.out.2.2.1 i (by omega)
      rw [Int.add_zero] at this;exact this
     rw [zb7 _ _ (by omega)];exact hh.out.2.2.2.2 j hj
    go_wp2
    have aH:=Lib.hid KN.out.2.2.2.2.2
    have hstA:=aa.trans (St.setCell wr bu (off+(m+2)) (.int .u32 ((dg U (m+2) - br - c) % 4294967296)))
    have hOA:=ad.set (w:=wr) (show off+(m+2)<N by omega) ((dg U (m+2) - br - c) % 4294967296)
    have HE:Hid (∀ i,i<m+3→upd E (off+(m+2)) ((dg U (m+2) - br - c) % 4294967296) (off+i)=dg (U - V*q) i):=by
     intro i aA
     by_cases e:i=m+2
     ·subst e;rw [zd0]
      have:dg (U - V*q) (m+2)=hi (U - V*q) (m+2) % 4294967296:=rfl
      have h2:=HT.out
      rw [Int.add_zero] at h2
      rw [this,h2];omega
     rw [zb7 _ _ (by omega)]
     have:=hh.out.2.2.1 i (by omega)
     rw [Int.add_zero] at this;exact this
    have HN:Hid (U - V*q<0):=by
     rcases Int.lt_or_le (U - V*q) 0 with h | h
     ·exact h
     exfalso
     have h2:=zd6 h (m+2)
     have h3:=HT.out
     rw [Int.add_zero] at h3
     omega
    have HOUT:Hid (∀ j,(j<off∨off+(m+3)≤j)→upd E (off+(m+2)) ((dg U (m+2) - br - c) % 4294967296) j=D j):=by
     intro j hj;rw [zb7 _ _ (by omega)];exact hh.out.2.2.2.2 j hj
    have aQ:1≤q:=by
     have hmb:=zx2 aH.out HN.out FIN.out.1
     have:=KN.out.2.2.2.2.1
     omega
    clear aa ad hh HT E1 hfree hneg ar ap aJ aI x0 x1 ac
    go_loopw [9,139] (fun sc si wz=>∃ (c2:Int) (k:Nat) (F:Nat→Int),sc=.int .u64 c2∧si=.int .i64 k∧k≤m+2∧0≤c2∧c2≤1∧St w wz bu∧Own wz bu N F∧
     Hid (hi (U - V*q+V) k=hi (U - V*q) k+hi V k+c2∧(∀ j,j<k→F (off+j)=dg (U - V*q+V) j)∧(∀ j,k≤j→j<m+3→F (off+j)=dg (U - V*q) j)∧∀ j,(j<off∨off+(m+3)≤j)→F j=D j)) (fun _ si _=>m+2 - (intOf si).toNat)
    case atStart=>exact ⟨0,0,_,rfl,rfl,by omega,by omega,by omega,hstA,hOA,by simp [zd9],fun j hj=>by omega,fun j _ hj=>HE.out j hj,HOUT.out⟩
    case round=>
     obtain ⟨c2,k,F,rfl,rfl,aW,ar,ap,ae,ak,hh⟩:=hrel
     by_cases hlt:k<m+2
     ·have aR:=(ae.cell (o:=offv+k) hne).trans (hvc.out k hlt)
      have ac:=ak.cell (off+k) (by omega)
      have hfree:=ak.free (off+k)
      have e1:=hh.out.2.2.1 k (Nat.le_refl _) (by omega)
      rw [e1] at ac
      have HS:=Lib.hid (zw9 hh.out.1 ar ap)
      have x0:=zb3 (U - V*q) k
      have x1:=ze2 (U - V*q) k
      have x2:=zb3 V k
      have x3:=ze2 V k
      clear e1
      go_wp2
      go_roundw
      case rel=>
       have hs:=HS.out
       refine ⟨_,k+1,_,rfl,by go_num,by omega,?_,?_,ae.trans (St.setCell _ _ _ _),ak.set (by omega) _,?_,fun j hj=>?_,fun j h1 h2=>?_,fun j hj=>?_⟩
       ·go_num
       ·go_num
       ·rw [hs.2.1];go_num
       ·by_cases e:j=k
        ·subst e;rw [zd0,hs.1];go_num
        rw [zb7 _ _ (by omega)];exact hh.out.2.1 j (by omega)
       ·rw [zb7 _ _ (by omega)];exact hh.out.2.2.1 j (by omega) h2
       rw [zb7 _ _ (by omega)];exact hh.out.2.2.2 j hj
      case measure=>simp [intOf];omega
     obtain rfl:k=m+2:=by omega
     have ac:=ak.cell (off+(m+2)) (by omega)
     have hfree:=ak.free (off+(m+2))
     have e1:=hh.out.2.2.1 (m+2) (Nat.le_refl _) (by omega)
     rw [e1] at ac
     have HS:=Lib.hid (zr6 hh.out.1 ar ap hV.top)
     have x0:=zb3 (U - V*q) (m+2)
     have x1:=ze2 (U - V*q) (m+2)
     clear e1
     go_wp2
     go_ret
     have hmd:=zx2 aH.out HN.out FIN.out.1
     refine ⟨?_,ae.trans (St.setCell _ _ _ _),_,ak.set (by omega) _,fun i aA=>?_,fun j hj=>?_⟩
     ·rw [← hmd.1];first | rfl | exact congrArg (fun z=>Ending.returned (Value.int .u32 z)) (show (q - 1) % 4294967296=q - 1 by omega)
     ·rw [← hmd.2]
      by_cases e:i=m+2
      ·subst e;rw [zd0,HS.out.1];go_num
      rw [zb7 _ _ (by omega)];exact hh.out.2.1 i (by omega)
     rw [zb7 _ _ (by omega)];exact hh.out.2.2.2 j hj
end Go.Proofs.YtjhflekncldflaaGreatDoor
namespace Go.Proofs.YtjhflekncldflaaGreatDoor

theorem zl2:∀ (f x:Nat),0<x→x<2 ^ f→∃ L,Lib.bitLenAux f x=L+1∧2 ^ L≤x∧x<2 ^ (L+1)
 | 0,x,h0,h1=>by simp at h1;omega
 | f+1,x,h0,h1=>by
  by_cases h:x=1
  ·subst h
   refine ⟨0,?_,by simp,by simp⟩
   cases f<;>simp [Lib.bitLenAux]
  obtain ⟨L,e1,e2,e3⟩:=zl2 f (x/2) (by omega) (by rw [Nat.pow_succ] at h1;omega)
  refine ⟨L+1,?_,by rw [Nat.pow_succ];omega,by rw [Nat.pow_succ];omega⟩
  simp only [Lib.bitLenAux,show ¬ x=0 by omega,if_false,e1];omega
theorem leadz {x:Int} (h0:0<x) (h1:x<4294967296):∃ s:Nat,s<32∧32 - (Lib.bitLen x.toNat:Int)=s∧2147483648≤x*2 ^ s∧x*2 ^ s<4294967296:=by
 obtain ⟨n,rfl⟩:=Int.eq_ofNat_of_zero_le (Int.le_of_lt h0)
 have h4:=Lib.bitLen_le n 32 (by omega) (by omega)
 obtain ⟨L,e1,e2,e3⟩:=zl2 64 n (by omega) (by omega)
 have e4:Lib.bitLen n=L+1:=e1
 refine ⟨31 - L,by omega,by simp only [Int.toNat_natCast];omega,?_⟩
 have e5:2 ^ L*2 ^ (31 - L)=2147483648:=by rw [← Nat.pow_add,show L+(31 - L)=31 by omega]
 have e6:2 ^ (L+1)*2 ^ (31 - L)=4294967296:=by rw [← Nat.pow_add,show L+1+(31 - L)=32 by omega]
 have p:0<2 ^ (31 - L):=Nat.pow_pos (by omega)
 have e7:=Nat.mul_le_mul_right (2 ^ (31 - L)) e2
 have e8:=Nat.mul_lt_mul_of_pos_right e3 p
 have e9:((n:Int)*2 ^ (31 - L))=((n*2 ^ (31 - L):Nat):Int):=by simp
 rw [e9];omega

theorem zk1 (b:Int) {p:Int} (hp:0<p):∀ k,hi b k*p≤hi (b*p) k∧hi (b*p) k<(hi b k+1)*p
 | 0=>by rw [zd9,zd9,Int.add_mul];omega
 | k+1=>by
  have h:=zk1 b hp k
  have hs:=zc6 b k
  have d0:=zb3 b k
  have d1:=ze2 b k
  rw [zc9 (b*p)]
  have e1:hi b k*p=4294967296*(hi b (k+1)*p)+dg b k*p:=by rw [hs];grind
  have e2:(hi b k+1)*p=4294967296*(hi b (k+1)*p)+(dg b k+1)*p:=by rw [hs];grind
  have e3:(hi b (k+1)+1)*p=hi b (k+1)*p+p:=by grind
  have e4:0≤dg b k*p:=Int.mul_nonneg d0 (by omega)
  have e5:(dg b k+1)*p≤4294967296*p:=Int.mul_le_mul_of_nonneg_right (by omega) (by omega)
  rw [e1,e2] at h
  rw [e3]
  omega
theorem norm_nl {b:Int} {m s:Nat} (hb:NL b (m+1)) (h1:2147483648≤dg b m*2 ^ s) (h2:dg b m*2 ^ s<4294967296) (hs:s<32):NL (b*2 ^ s) (m+1)∧2147483648≤dg (b*2 ^ s) m:=by
 have hp:(0:Int)<2 ^ s:=Int.pow_pos (by omega)
 have ht:=hb.topdig (by omega)
 simp only [Nat.add_sub_cancel] at ht
 have h3:=zk1 b hp m
 rw [← ht.1] at h3
 obtain ⟨aa,_,ac⟩:=zq7 hs
 have h4:(dg b m+1)*2 ^ s≤4294967296:=by
  rw [← aa,Int.mul_comm (2 ^ s)] at h2
  have h5:=Int.lt_of_mul_lt_mul_right h2 (Int.le_of_lt hp)
  rw [← aa,Int.mul_comm (2 ^ s)]
  exact Int.mul_le_mul_of_nonneg_right (by omega) (Int.le_of_lt hp)
 have h6:hi (b*2 ^ s) (m+1)=0:=by rw [zc9];omega
 have h7:=zc6 (b*2 ^ s) m
 rw [h6] at h7
 exact ⟨⟨Int.mul_nonneg hb.nonneg (by omega),h6,fun _=>by simp only [Nat.add_sub_cancel];omega⟩,by omega⟩
theorem NL.uniq {n:Int} {k m:Nat} (h:NL n k) (g:NL n m):k=m:=by
 rcases Nat.lt_trichotomy k m with e | e | e
 ·exact absurd (zr5 h.top (by omega)) (g.full (by omega))
 ·exact e
 exact absurd (zr5 g.top (by omega)) (h.full (by omega))
def win (U V:Int) (i:Nat):Int:=hi U (i+1) % V*4294967296+dg U i
theorem win_hi (U V:Int) (i:Nat):hi (win U V i) 1=hi U (i+1) % V:=by
 have d0:=zb3 U i
 have d1:=ze2 U i
 unfold win
 rw [zc9,zd9];omega
theorem win_dg0 (U V:Int) (i:Nat):dg (win U V i) 0=dg U i:=by
 have d0:=zb3 U i
 have d1:=ze2 U i
 have:dg (win U V i) 0=win U V i % 4294967296:=rfl
 rw [this];unfold win;omega
theorem win_dgs (U V:Int) (i k:Nat):dg (win U V i) (k+1)=dg (hi U (i+1) % V) k:=by
 unfold dg
 rw [Nat.add_comm k 1,zw8,win_hi]
theorem zT2 (U:Int) {V:Int} (hV:0<V) (i:Nat):win U V i<V*4294967296∧0≤win U V i:=by
 have d0:=zb3 U i
 have d1:=ze2 U i
 have h1:=Int.emod_nonneg (hi U (i+1)) (show V≠0 by omega)
 have h2:=Int.emod_lt_of_pos (hi U (i+1)) hV
 unfold win;omega
theorem win_top (U:Int) {V:Int} {n:Nat} (hV:0<V) (hn:hi V n=0) (i:Nat):hi (win U V i) (n+1)=0:=by
 have h1:=Int.emod_nonneg (hi U (i+1)) (show V≠0 by omega)
 have h2:=Int.emod_lt_of_pos (hi U (i+1)) hV
 rw [Nat.add_comm,zw8,win_hi]
 have h3:=zj3 (Int.le_of_lt h2) n
 have h4:=zd6 h1 n
 omega
theorem zT3 (U:Int) {V:Int} (hV:0<V) (i:Nat):win U V i/V=dg (U/V) i∧win U V i % V=hi U i % V:=by
 have hs:=zc6 U i
 have aa:=zb3 U i
 have hd:=ze2 U i
 have hlt:=zT2 U hV i
 have e1:hi U i=win U V i+V*(4294967296*(hi U (i+1)/V)):=by
  have:=Int.emod_add_mul_ediv (hi U (i+1)) V
  unfold win;rw [hs];grind
 have e2:hi (U/V) i=win U V i/V+4294967296*(hi U (i+1)/V):=by
  rw [zs7 U V hV,e1,Int.add_mul_ediv_left _ _ (show V≠0 by omega)]
 have h4:win U V i/V<4294967296:=Int.ediv_lt_of_lt_mul hV (by rw [Int.mul_comm];exact hlt.1)
 have h5:0≤win U V i/V:=Int.ediv_nonneg hlt.2 (by omega)
 have hdd:dg (U/V) i=hi (U/V) i % 4294967296:=rfl
 refine ⟨by rw [hdd,e2];omega,?_⟩
 rw [e1,Int.add_mul_emod_self_left]
theorem first_lt {a b p:Int} {q m:Nat} (ha:hi a (q+(m+1))=0) (hb:NL b (m+1)) (hp:0<p):hi (a*p) (q+1)<b*p:=by
 have hbt:=hb.full (by omega)
 simp only [Nat.add_sub_cancel] at hbt
 have aa:=zd6 hb.nonneg m
 have h2:=(zk1 a hp (q+1)).2
 have h3:hi a (q+1)<b:=by
  rcases Int.lt_or_le (hi a (q+1)) b with h | h
  ·exact h
  have h4:=zj3 h m
  rw [← zw8,show q+1+m=q+(m+1) by omega,ha] at h4
  omega
 have h5:(hi a (q+1)+1)*p≤b*p:=Int.mul_le_mul_of_nonneg_right (by omega) (by omega)
 omega
end Go.Proofs.YtjhflekncldflaaGreatDoor
namespace Go.Proofs.YtjhflekncldflaaGreatDoor
open Go.RowKit

theorem Own.st {w w':World} {b c n:Nat} {d:Nat→Int} (h:Own w c n d) (hs:St w w' b) (hc:c≠b):Own w' c n d:=by
 obtain ⟨cs,hb,hr⟩:=h.raw
 exact ⟨cs,by rw [hs.block c hc];exact hb,hr⟩
theorem dg_top {n:Int} {k j:Nat} (h:hi n k=0) (hj:k≤j):dg n j=0:=by
 have:dg n j=hi n j % 4294967296:=rfl
 rw [this,zr5 h hj];rfl

set_option maxRecDepth 100000 in
set_option maxHeartbeats 1000000 in
theorem divide_c (ao bo:Option Addr) (la lb ca cb:Nat) (a b:Int) (w:World) (hla:la≤1000000) (hlb:lb≤1000000) (ha:Mag w ao la ca a) (hb:Mag w bo lb cb b) (al:0<b):
    Calls Tryz.prog 151 #[.slice ao la ca,.slice bo lb cb] w fun e w'=>
      (∃ qo qk qc ro rk rc,e=.returned (.tuple #[.slice qo qk qc,.slice ro rk rc])∧Mag w' qo qk qc (a/b)∧Mag w' ro rk rc (a % b))∧Gr w w':=by
  have a0:=ha.nl.nonneg
  rcases Int.lt_or_le a b with hab | hab
  · go_enter Tryz.func151,Tryz.ntmps151
    go_wp2_with fail
    refine (zB2 ao bo la lb ca cb a b _ (by omega) (by omega) ha hb).mono ?_
    rintro e w1 ⟨rfl,hG⟩
    rw [zo6 (show a - b<0 by omega)]
    go_wp2
    go_ret2
    exact ⟨⟨_,_,_,_,_,_,rfl,by rw [Int.ediv_eq_zero_of_lt a0 hab];exact ⟨Nat.le_refl _,NL.zero,Row.nil _ _ _⟩,by rw [Int.emod_eq_of_lt a0 hab];exact ha.below hG⟩,hG⟩
  have aW:decide (sgn (a - b)<0)=false:=by
    unfold sgn;rw [if_neg (by omega)];split<;>rfl
  have aS:0<lb:=by
    rcases Nat.eq_zero_or_pos lb with h | h
    · have:=hb.nl.len_zero.1 h;omega
    exact h
  by_cases hl1:lb=1
  · subst hl1
    obtain ⟨b1,ac,rfl,hcs⟩:=hb.row.at_ (by omega)
    have e0:dg b 0=b:=by
      have h1:=hb.nl.top
      have h2:=zc6 b 0
      rw [h1,zd9] at h2;omega
    have hc:=hcs 0 (by omega)
    rw [e0,Nat.add_zero] at hc
    have aJ:b<4294967296:=by have:=ze2 b 0;omega
    go_enter Tryz.func151,Tryz.ntmps151
    go_wp2_with fail
    refine (zB2 ao _ la 1 ca cb a b _ (by omega) (by omega) ha hb).mono ?_
    rintro e w1 ⟨rfl,hG⟩
    have aR:=((zS8 hG).1 b1 ac (World.block_lt_of_cell? w _ hc)).trans hc
    go_wp2_with fail
    refine (zS9 ao la ca a b _ (by omega) (ha.below hG) al aJ).mono ?_
    rintro e w2 ⟨⟨go,k,cap,rfl,hm⟩,aj⟩
    have ae:Gr w w2:=Gr.trans hG aj
    go_wp2_with fail
    have m0:=Int.emod_nonneg a (show b≠0 by omega)
    have m1:=Int.emod_lt_of_pos a al
    have aN:dg (a % b) 0=a % b:=by
      have:dg (a % b) 0=a % b % 4294967296:=rfl
      rw [this];omega
    have aL:hi (a % b) 1=0:=by rw [zc9,zd9];omega
    have hfr:=zl9 w2 (.cells #[.int .u32 (a % b)] 171)
    have hrow:Row (w2.alloc (.cells #[.int .u32 (a % b)] 171)) (some ⟨w2.heap.size,0,none⟩) 1 (dg (a % b)):=
      ⟨fun _ => ⟨_, 0, _, _, rfl, hfr.2.1, fun i hi0 => by obtain rfl : i = 0 := by omega
                                                           rw [aN];rfl⟩⟩
    refine (zq4 _ 1 1 (a % b) _ (by omega) (by omega) m0 aL hrow).mono ?_
    rintro e w3 ⟨⟨k2,rfl,aP,aI⟩,rfl⟩
    go_wp2
    go_ret2
    exact ⟨⟨_,_,_,_,_,_,rfl,hm.below hfr.1,aP⟩,ae.trans hfr.1⟩
  obtain ⟨m,rfl⟩:∃ m,lb=m+2:=⟨lb - 2,by omega⟩
  have hge:m+2≤la:=by
    rcases Nat.lt_or_ge la (m+2) with h | h
    · exfalso
      have h1:=zj3 hab (m+1)
      have h2:=zr5 ha.nl.top (show la≤m+1 by omega)
      have h3:=hb.nl.full (by omega)
      simp only [show m+2 - 1=m+1 from rfl] at h3
      have h4:=zd6 hb.nl.nonneg (m+1)
      omega
    exact h
  obtain ⟨q,rfl⟩:∃ q,la=q+(m+2):=⟨la - (m+2),by omega⟩
  obtain ⟨b1,ac,rfl,hcs⟩:=hb.row.at_ (by omega)
  have hc:=hcs (m+1) (by omega)
  have t0:0<dg b (m+1):=(hb.nl.topdig (by omega)).2
  have t1:=ze2 b (m+1)
  obtain ⟨s,ai,aT,aG,aA⟩:=leadz t0 t1
  have hp:(0:Int)<2 ^ s:=Int.pow_pos (by omega)
  obtain ⟨hV,hnorm⟩:=norm_nl hb.nl aG aA ai
  have aF:0<b*2 ^ s:=Int.mul_pos al hp
  have hne:((m+2:Nat):Int)≠1:=by omega
  have aX:(((m+2:Nat):Int)==1)=false:=by simpa using hne
  clear hcs
  go_enter Tryz.func151,Tryz.ntmps151
  go_wp2_with fail
  refine (zB2 ao _ _ _ ca cb a b _ (by omega) (by omega) ha hb).mono ?_
  rintro e w1 ⟨rfl,hG⟩
  have aR:=((zS8 hG).1 b1 (ac+(m+1)) (World.block_lt_of_cell? w _ hc)).trans hc
  go_wp2_with fail
  refine (Tryz.bits_LeadingZeros32 (dg b (m+1)) _ (by omega) (by omega)).mono ?_
  rintro e aV ⟨rfl,rfl⟩
  rw [aT]
  go_wp2_with fail
  refine (zK9 ao _ ca a s _ (by omega) (ha.below hG) ai).mono ?_
  rintro e w2 ⟨⟨gu,rfl,hgu,hOu,htu⟩,aj⟩
  have af:=Gr.trans hG aj
  go_wp2_with fail
  refine (zK9 _ _ cb b s _ (by omega) (hb.below af) ai).mono ?_
  rintro e w3 ⟨⟨gv,rfl,hgv,hOv,htv⟩,ae⟩
  have ad:=Gr.trans af ae
  have hltu:=hOu.lt
  have hltv:=hOv.lt
  have ak:=hOu.gr ae
  go_wp2_with fail
  refine (zq4 _ (m+2+1) (m+2+1) (b*2 ^ s) _ (by omega) (by omega) hV.nonneg htv hOv.row).mono ?_
  rintro e w4 ⟨⟨k,rfl,hMv,hk⟩,rfl⟩
  obtain rfl:k=m+2:=hMv.nl.uniq hV
  go_wp2_with (at_make;refine ze0 _ rfl _ _ rfl _ _ (q+1) rfl rfl ?h1 ?h2 (by omega) ?_)
  case h1=>omega
  case h2=>omega
  intro w5 hOq av hsz
  have au:=ak.below av
  have aq:=hOv.below av
  have ax:Gr w w5:=Gr.trans ad av
  have aQ:=hG.size
  have aM:=aj.size
  go_wp2
  have hlq:hi (a*2 ^ s) (q+1)<b*2 ^ s:=first_lt (m:=m+1) ha.nl.top hb.nl hp
  have ah:0≤hi (a*2 ^ s) (q+1):=zd6 (Int.mul_nonneg a0 (by omega)) _
  have hbase:w.heap.size≤w3.heap.size:=ad.size
  have hugv:gu≠gv:=by omega
  have huq:gu≠w3.heap.size:=by have:=ae.size;omega
  have hvq:gv≠w3.heap.size:=by omega
  have HP:=Lib.hid (And.intro hp (And.intro aF (And.intro hlq ah)))
  clear hp hlq ah
  have hQd:(a*2 ^ s)/(b*2 ^ s)=a/b:=Int.mul_ediv_mul_of_pos_left _ _ HP.out.1
  have hRd:(a*2 ^ s) % (b*2 ^ s)=a % b*2 ^ s:=by rw [Int.mul_comm a,Int.mul_comm b,Int.mul_emod_mul_of_pos _ _ HP.out.1,Int.mul_comm]
  have HQ:=Lib.hid (And.intro hQd hRd)
  clear hQd hRd
  clear aF aG aA hsz
  have aE:0≤a*2 ^ s:=Int.mul_nonneg a0 (Int.le_of_lt HP.out.1)
  generalize hUU:a*2 ^ s=U at*
  generalize hVV:b*2 ^ s=V at*
  generalize hgq:w3.heap.size=gq at*
  go_loopw [11] (fun i wr=>∃ (k:Nat) (d E:Nat→Int),i=.int .i64 ((k:Int) - 1)∧k≤q+1∧Own wr gu (q+(m+2)+1) E∧Own wr gv (m+2+1) (dg V)∧Own wr gq (q+1) d∧Gr w wr∧
    Hid ((∀ j,j<k→E j=dg U j)∧(∀ j,k+j<q+(m+2)+1→E (k+j)=dg (hi U k % V) j)∧∀ j,k≤j→j<q+1→d j=dg (U/V) j)) (fun i _=>(intOf i+1).toNat)
  case atStart=>
    refine ⟨q+1,_,_,by go_num,Nat.le_refl _,au,aq,hOq,ax,fun j _=>rfl,fun j hj=>?_,fun j h1 h2=>by omega⟩
    rw [Int.emod_eq_of_lt HP.out.2.2.2 HP.out.2.2.1]
    unfold dg
    rw [zw8]
  case round=>
    obtain ⟨k,d,E,rfl,hk,hOu,hOv,hOq,hGr,hh⟩:=hrel
    by_cases hpos:0<k
    · obtain ⟨j,rfl⟩:∃ j,k=j+1:=⟨k - 1,by omega⟩
      have e1:(((j+1:Nat):Int) - 1)=(j:Int):=by omega
      simp only [e1]
      have hfree:=hOq.free j
      have hcq:=hOq.cell j (by omega)
      clear e1
      go_wp2_with fail
      rw [show j+(m+2)+1 - j=m+3 by omega]
      refine (digit_c gu j _ gv 0 _ m (q+(m+2)+1) E (win U V j) V _ (by omega) (by omega) (by omega) hOu ?g1 ?g2 ?g3 hV ?g4 (Ne.symm hugv) hnorm ?g5).mono ?_
      case g1=>
        intro i hi0
        cases i with
        | zero=>rw [win_dg0];exact hh.out.1 j (by omega)
        | succ i=>rw [win_dgs,show j+(i+1)=j+1+i by omega];exact hh.out.2.1 i (by omega)
      case g2=>exact (zT2 U HP.out.2.1 j).2
      case g3=>exact win_top U HP.out.2.1 hV.top j
      case g4=>intro i hi0;rw [Nat.zero_add];exact hOv.cell i (by omega)
      case g5=>exact (zT2 U HP.out.2.1 j).1
      rintro e w6 ⟨rfl,hst,D',ar,aw,az⟩
      rw [(zT3 U HP.out.2.1 j).1]
      have ap:=hOv.st hst (Ne.symm hugv)
      have aa:=hOq.st hst (Ne.symm huq)
      have ay:=hst.gr hGr (by omega)
      have hfree:=aa.free j
      have hcq:=aa.cell j (by omega)
      have aB:=(zT3 U HP.out.2.1 j).2
      rw [aB] at aw
      have HW:=Lib.hid (And.intro aw az)
      clear aw az aB
      go_wp2
      go_roundw
      case rel=>
        refine ⟨j,_,D',rfl,by omega,ar.st (St.setCell _ _ _ _) huq,ap.st (St.setCell _ _ _ _) hvq,aa.set (by omega) _,(St.setCell _ _ _ _).gr ay (by omega),fun i hi0=>?_,fun i hi0=>?_,fun i h1 h2=>?_⟩
        · rw [HW.out.2 i (by omega)];exact hh.out.1 i (by omega)
        · by_cases hi1:i<m+3
          · exact HW.out.1 i hi1
          have z1:dg (hi U j % V) i=0:=dg_top (k:=m+2) (by
            have h1:=Int.emod_nonneg (hi U j) (show V≠0 by have:=HP.out.2.1;omega)
            have h2:=Int.emod_lt_of_pos (hi U j) HP.out.2.1
            have h3:=zj3 (Int.le_of_lt h2) (m+2)
            have h4:=zd6 h1 (m+2)
            rw [hV.top] at h3
            exact Int.le_antisymm h3 h4) (by omega)
          have z2:dg (hi U (j+1) % V) (i - 1)=0:=dg_top (k:=m+2) (by
            have h1:=Int.emod_nonneg (hi U (j+1)) (show V≠0 by have:=HP.out.2.1;omega)
            have h2:=Int.emod_lt_of_pos (hi U (j+1)) HP.out.2.1
            have h3:=zj3 (Int.le_of_lt h2) (m+2)
            have h4:=zd6 h1 (m+2)
            rw [hV.top] at h3
            exact Int.le_antisymm h3 h4) (by omega)
          rw [z1,HW.out.2 (j+i) (by omega),← z2,show j+i=j+1+(i - 1) by omega]
          exact hh.out.2.1 (i - 1) (by omega)
        by_cases e:i=j
        · subst e;rw [zd0]
        rw [zb7 _ _ e];exact hh.out.2.2 i (by omega) h2
      case measure=>simp [intOf];try omega
    obtain rfl:k=0:=by omega
    have aK:=HP.out.2.1
    have m0:=Int.emod_nonneg U (show V≠0 by omega)
    have m1:U % V≤U:=by
      have h1:=Int.emod_add_mul_ediv U V
      have h2:0≤V*(U/V):=Int.mul_nonneg (by omega) (Int.ediv_nonneg aE (by omega))
      omega
    have q0:0≤U/V:=Int.ediv_nonneg aE (by omega)
    have q1:hi (U/V) (q+1)=0:=by
      rw [zs7 U V aK]
      exact Int.ediv_eq_zero_of_lt HP.out.2.2.2 HP.out.2.2.1
    have m2:hi (U % V) (q+(m+2)+1)=0:=by
      have h1:=zj3 m1 (q+(m+2)+1)
      have h2:=zd6 m0 (q+(m+2)+1)
      omega
    go_wp2_with fail
    refine (zq4 _ (q+1) (q+1) (U/V) _ (by omega) (by omega) q0 q1 (hOq.congr (fun i hi0=>hh.out.2.2 i (by omega) hi0)).row).mono ?_
    rintro e w6 ⟨⟨k1,rfl,aC,aU⟩,rfl⟩
    go_wp2_with fail
    refine (zq4 _ (q+(m+2)+1) (q+(m+2)+1) (U % V) _ (by omega) (by omega) m0 m2 (hOu.congr (fun i hi0=>by
      have:=hh.out.2.1 i (by omega)
      rw [Nat.zero_add,zd9] at this;exact this)).row).mono ?_
    rintro e w6 ⟨⟨k2,rfl,aO,aI⟩,rfl⟩
    go_wp2_with fail
    refine (zT1 _ k2 _ (U % V) s _ (by omega) aO ai).mono ?_
    rintro e w7 ⟨⟨go,k3,cap,rfl,aH⟩,aD⟩
    go_wp2
    go_ret2
    rw [HQ.out.1] at aC
    rw [HQ.out.2,Int.mul_ediv_cancel _ (show (2:Int) ^ s≠0 by have:=HP.out.1;omega)] at aH
    exact ⟨⟨_,_,_,_,_,_,rfl,aC.below aD,aH⟩,Gr.trans hGr aD⟩
theorem zu2 {w:World} {ao bo:Option Addr} {la lb ca cb:Nat} {a b:Int} (ha:Mag w ao la ca a) (hb:Mag w bo lb cb b) (hla:la≤1000000) (hlb:lb≤1000000) (hb0:0<b):
  Calls Tryz.prog 151 #[.slice ao la ca,.slice bo lb cb] w fun e w'=>
   (∃ qo qk qc ro rk rc,e=.returned (.tuple #[.slice qo qk qc,.slice ro rk rc])∧Mag w' qo qk qc (a/b)∧Mag w' ro rk rc (a % b))∧Gr w w':=divide_c ao bo la lb ca cb a b w hla hlb ha hb hb0
theorem zu3 {neg:Bool} {ao:Option Addr} {len cap:Nat} {n Z:Int} {K:Nat} {w:World} (h:Mag w ao len cap n) (hn:n=(Z.natAbs:Int)) (hs:0<n→neg=decide (Z<0)) (hz:Sz K Z) (hK:K≤1000000):
  Calls Tryz.prog 105 #[.bool neg,.slice ao len cap] w fun e w'=>(∃ x y,e=.returned (.agg #[x,y])∧IsInt w' K x y Z)∧Gr w w':=by
 have hl:len≤K:=h.nl.len_sz (by rw [hn];exact hz.nat)
 refine (zi1 neg ao len cap n w (by omega) h.cap h.nl.nonneg h.nl.top h.row).mono ?_
 rintro e w1 ⟨⟨k,he,hm,_⟩,hB⟩
 exact ⟨⟨_,_,he,IsInt.mk' (hm.below hB) hn hs hz⟩,hB⟩
theorem zW2 {ao:Option Addr} {len cap:Nat} {n:Int} {K:Nat} {w:World} (h:Mag w ao len cap n) (hn:0<n) (hz:Sz K n) (hK:K≤1000000):
  Calls Tryz.prog 105 #[.bool false,.slice ao len cap] w fun e w'=>(∃ k,e=.returned (.agg #[.bool false,.slice ao k cap])∧IsInt w' K (.bool false) (.slice ao k cap) n)∧Gr w w':=by
 have hl:len≤K:=h.nl.len_sz hz
 refine (zi1 false ao len cap n w (by omega) h.cap h.nl.nonneg h.nl.top h.row).mono ?_
 rintro e w1 ⟨⟨k,he,hm,_⟩,hB⟩
 refine ⟨⟨k,he,?_⟩,hB⟩
 exact IsInt.mk' (s:=false) (hm.below hB) (by omega) (fun _=>by simp;omega) hz
theorem zW3 {ao:Option Addr} {len cap:Nat} {n:Int} {K:Nat} {w:World} (h:Mag w ao len cap n) (hn:0<n) (hz:Sz K n) (hK:K≤1000000):
  Calls Tryz.prog 105 #[.bool true,.slice ao len cap] w fun e w'=>(∃ k,e=.returned (.agg #[.bool true,.slice ao k cap])∧IsInt w' K (.bool true) (.slice ao k cap) (-n))∧Gr w w':=by
 have hl:len≤K:=h.nl.len_sz hz
 refine (zi1 true ao len cap n w (by omega) h.cap h.nl.nonneg h.nl.top h.row).mono ?_
 rintro e w1 ⟨⟨k,he,hm,_⟩,hB⟩
 have hm':=hm.below hB
 have hk:decide (0<k)=true:=by
  rw [decide_eq_true_eq]
  rcases Nat.eq_zero_or_pos k with h0 | h0
  ·have:=hm.nl.len_zero.1 h0;omega
  exact h0
 rw [hk] at he
 have:=IsInt.mk' (s:=true) hm' (z:=-n) (by omega) (fun _=>by simp;omega) hz.neg
 rw [hk] at this
 exact ⟨⟨k,he,this⟩,hB⟩
theorem zw3 {k:Nat} {x y:Value} {w:World} (hz:IsInt w k x y 0):
  Calls Tryz.prog 84 #[.agg #[x,y]] w fun e w'=>e=.returned (.int .i64 0)∧Gr w w':=zN1 hz
theorem zi8 {k:Nat} {x y:Value} {z:Int} {w:World} (hz:IsInt w k x y z) (h:0<z):
  Calls Tryz.prog 84 #[.agg #[x,y]] w fun e w'=>e=.returned (.int .i64 1)∧Gr w w':=by
 have:=zN1 hz
 rw [zw2 h] at this
 exact this
theorem sign_neg {k:Nat} {x y:Value} {z:Int} {w:World} (hz:IsInt w k x y z) (h:z<0):
  Calls Tryz.prog 84 #[.agg #[x,y]] w fun e w'=>e=.returned (.int .i64 (-1))∧Gr w w':=by
 have:=zN1 hz
 rw [zo6 h] at this
 exact this
theorem IsInt.resz {w:World} {k m:Nat} {x y:Value} {z:Int} (h:IsInt w k x y z) (hz:Sz m z):IsInt w m x y z:=by
 obtain ⟨ao,len,cap,h1,h2,h3,h4⟩:=h
 exact ⟨ao,len,cap,h1,h2,h3,hz⟩
theorem IsInt.len {w:World} {k:Nat} {x:Value} {ao:Option Addr} {len cap:Nat} {z:Int} (h:IsInt w k x (.slice ao len cap) z):len≤k:=by
 obtain ⟨ao',len',cap',h1,h2,h3,h4⟩:=h
 simp only [Value.slice.injEq] at h2
 obtain ⟨rfl,rfl,rfl⟩:=h2
 exact h3.nl.len_sz h4.nat

theorem Sz.i64 {z:Int} (h0:-9223372036854775808≤z) (h1:z≤9223372036854775807):Sz 64 z:=by unfold Sz;omega

set_option maxRecDepth 100000 in
set_option maxHeartbeats 1000000 in
theorem zW4 (z:Int) (h0:-9223372036854775808≤z) (h1:z≤9223372036854775807) (w:World):
  Calls Tryz.prog 82 #[.int .i64 z] w fun e w'=>(∃ x y,e=.returned (.agg #[x,y])∧IsInt w' 64 x y z)∧Gr w w':=by
 have key:∀ (w1:World) (c0 c1:Int),c0=(z.natAbs:Int) % 4294967296→c1=(z.natAbs:Int)/4294967296→Row (w1.alloc (.cells #[.int .u32 c0,.int .u32 c1] 171)) (some ⟨w1.heap.size,0,none⟩) 2 (dg (z.natAbs:Int)):=by
  rintro w1 _ _ rfl rfl
  refine ⟨fun _=>⟨_,0,_,_,rfl,(zl9 _ _).2.1,fun i ac=>?_⟩⟩
  have e0:dg (z.natAbs:Int) 0=(z.natAbs:Int) % 4294967296:=rfl
  have e1:dg (z.natAbs:Int) 1=(z.natAbs:Int)/4294967296:=by
   have:dg (z.natAbs:Int) 1=(z.natAbs:Int)/4294967296 % 4294967296:=rfl
   rw [this];omega
  rcases i with _ | _ | i
  ·rw [e0];rfl
  ·rw [e1];rfl
  omega
 have ht:hi (z.natAbs:Int) 2=0:=by rw [zc9,zc9,zd9];omega
 have ew:z<0→IntKind.u64.wrap (-IntKind.u64.wrap z)=(z.natAbs:Int):=by
  intro h
  rw [IntKind.wrap_u64,IntKind.wrap_u64];omega
 by_cases hn:z<0
 ·have hd:decide (z<0)=true:=by simpa using hn
  have ew':=Lib.hid (ew hn)
  clear ew
  go_enter Tryz.func82,Tryz.ntmps82
  go_wp2_with fail
  refine (zi1 true _ 2 2 (z.natAbs:Int) _ (by omega) (by omega) (by omega) ht ?g1).mono ?_
  case g1=>
   refine cast ?_ (key (w.alloc (.cells #[.bool false,.slice none 0 0] 60)) _ _ rfl rfl)
   rw [ew'.out]
   have:(z.natAbs:Int)/4294967296 % 4294967296=(z.natAbs:Int)/4294967296:=by omega
   rw [this]
   simp
  rintro e w1 ⟨⟨k,rfl,hm,hk⟩,hB⟩
  obtain ⟨g0,f0,f1,fs⟩:=zm0 w (.cells #[.bool false,.slice none 0 0] 60) (.cells #[.int .u32 (IntKind.u64.wrap (-IntKind.u64.wrap z) % 4294967296),.int .u32 (IntKind.u64.wrap (-IntKind.u64.wrap z)/4294967296 % 4294967296)] 171)
  have p3:=Gr.heap hB f0
  have d0:=zc1 p3 0
  have d1:=zc1 p3 1
  have d2:=zj0 p3
  have aa:Gr w w1:=Gr.trans g0 hB
  have hMM:=hm.kp (Gr.kp hB)
  clear f0 f1 fs hB g0
  go_wp2
  have p4:=zb2 (i:=1) (.slice (some ⟨w.heap.size+1,0,none⟩) k 2) (zb2 (i:=0) (.bool (true&&decide (0<k))) p3)
  have hst:=(St.setCell w1 w.heap.size 0 (.bool (true&&decide (0<k)))).trans (St.setCell _ w.heap.size 1 (.slice (some ⟨w.heap.size+1,0,none⟩) k 2))
  exact bodyPost_ret (v:=.agg #[.bool (true&&decide (0<k)),.slice (some ⟨w.heap.size+1,0,none⟩) k 2]) (zc8 _ _ _ rfl rfl p4 (by kernel_rfl)) rfl ⟨⟨_,_,rfl,IsInt.mk' (s:=true) (hMM.kp (hst.kp p3 (by decide))) rfl (fun _=>by simp;omega) (Sz.i64 h0 h1)⟩,hst.gr aa (Nat.le_refl _)⟩
 have hd:decide (z<0)=false:=by simpa using hn
 clear ew
 go_enter Tryz.func82,Tryz.ntmps82
 go_wp2_with fail
 refine (zi1 false _ 2 2 (z.natAbs:Int) _ (by omega) (by omega) (by omega) ht ?g1).mono ?_
 case g1=>
  refine cast ?_ (key (w.alloc (.cells #[.bool false,.slice none 0 0] 60)) _ _ rfl rfl)
  have:(z.natAbs:Int)=z:=by omega
  rw [this]
  simp
 rintro e w1 ⟨⟨k,rfl,hm,hk⟩,hB⟩
 obtain ⟨g0,f0,f1,fs⟩:=zm0 w (.cells #[.bool false,.slice none 0 0] 60) (.cells #[.int .u32 (z % 4294967296),.int .u32 (z/4294967296)] 171)
 have p3:=Gr.heap hB f0
 have d0:=zc1 p3 0
 have d1:=zc1 p3 1
 have d2:=zj0 p3
 have aa:Gr w w1:=Gr.trans g0 hB
 have hMM:=hm.kp (Gr.kp hB)
 clear f0 f1 fs hB g0
 go_wp2
 have p4:=zb2 (i:=1) (.slice (some ⟨w.heap.size+1,0,none⟩) k 2) (zb2 (i:=0) (.bool (false&&decide (0<k))) p3)
 have hst:=(St.setCell w1 w.heap.size 0 (.bool (false&&decide (0<k)))).trans (St.setCell _ w.heap.size 1 (.slice (some ⟨w.heap.size+1,0,none⟩) k 2))
 exact bodyPost_ret (v:=.agg #[.bool (false&&decide (0<k)),.slice (some ⟨w.heap.size+1,0,none⟩) k 2]) (zc8 _ _ _ rfl rfl p4 (by kernel_rfl)) rfl ⟨⟨_,_,rfl,IsInt.mk' (s:=false) (hMM.kp (hst.kp p3 (by decide))) rfl (fun _=>by simp;omega) (Sz.i64 h0 h1)⟩,hst.gr aa (Nat.le_refl _)⟩

theorem Mag.uniq {w:World} {p:Option Addr} {l c:Nat} {a b:Int} (h:Mag w p l c a) (g:Mag w p l c b):a=b:=by
 refine eq_of_dg l h.nl.top g.nl.top fun i hi=>?_
 obtain ⟨b1,o1,e1,h1⟩:=h.row.at_ (by omega)
 obtain ⟨b2,o2,e2,h2⟩:=g.row.at_ (by omega)
 rw [e1] at e2
 simp only [Option.some.injEq,Addr.mk.injEq] at e2
 obtain ⟨rfl,rfl,_⟩:=e2
 have:=(h1 i hi).symm.trans (h2 i hi)
 simpa using this
open Classical in
noncomputable def magOf (v:Value) (w:World):Nat:=
 match v with
 | .slice p l c=>if h:∃ n:Nat,Mag w p l c (n:Int) then Classical.choose h else 0
 | _=>0
theorem zN2 {w:World} {p:Option Addr} {l c n:Nat} (h:Mag w p l c (n:Int)):magOf (.slice p l c) w=n:=by
 have hex:∃ n:Nat,Mag w p l c (n:Int):=⟨n,h⟩
 simp only [magOf]
 rw [dif_pos hex]
 have:=(Classical.choose_spec hex).uniq h
 omega

theorem sz_gcd {k m:Nat} {z u:Int} (hz:Sz k z) (hu:Sz m u):Sz (k+m) (Int.gcd z u:Int):=by
 by_cases h:z=0
 ·subst h
  rw [Int.gcd_zero_left]
  exact hu.nat.mono (by omega)
 have h1:Int.gcd z u≤z.natAbs:=Nat.gcd_le_left _ (by omega)
 exact Sz.of_le (hz.nat.mono (show k≤k+m by omega)) (by simp only [Int.natAbs_natCast];exact h1)

set_option maxRecDepth 100000 in
set_option maxHeartbeats 1000000 in
theorem gcd_i {k m:Nat} {x y x2 y2:Value} {z u:Int} {w:World} (hz:IsInt w k x y z) (hu:IsInt w m x2 y2 u) (hk:k+m≤1000000):
  Calls Tryz.prog 121 #[.agg #[x,y],.agg #[x2,y2]] w fun e w'=>(∃ x' y',e=.returned (.agg #[x',y'])∧IsInt w' (k+m) x' y' (Int.gcd z u))∧Gr w w':=by
 obtain ⟨ao,la,ca,rfl,rfl,ha,hs⟩:=hz
 obtain ⟨bo,lb,cb,rfl,rfl,hb,ht⟩:=hu
 have hla:=ha.nl.len_sz hs.nat
 have hlb:=hb.nl.len_sz ht.nat
 have hsz:=Lib.hid (sz_gcd hs ht)
 generalize decide (z<0)=s1
 generalize decide (u<0)=s2
 go_enter Tryz.func121,Tryz.ntmps121
 go_wp2
 go_quiet (fail)
 obtain ⟨g0,f0,f1,f2,fs⟩:=zs2 w (.cells #[.bool s1,.slice ao la ca] 60) (.cells #[.bool s2,.slice bo lb cb] 60) (.cells #[.bool false,.slice none 0 0] 60)
 generalize ae:((w.alloc (.cells #[.bool s1,.slice ao la ca] 60)).alloc (.cells #[.bool s2,.slice bo lb cb] 60)).alloc (.cells #[.bool false,.slice none 0 0] 60)=w0 at*
 have hA:=ha.gr g0
 have hB:=hb.gr g0
 clear f0 f1 fs ae
 go_wp2
 go_loopw [5,6] (fun s5 s6 wr=>∃ (p5:Option Addr) (l5 c5:Nat) (p6:Option Addr) (l6 c6:Nat) (A B:Nat),s5=.slice p5 l5 c5∧s6=.slice p6 l6 c6∧Mag wr p5 l5 c5 (A:Int)∧Mag wr p6 l6 c6 (B:Int)∧l5≤1000000∧l6≤1000000∧Gr w0 wr∧Hid (Nat.gcd A B=Int.gcd z u)) (fun _ s6 wr=>magOf s6 wr)
 case atStart=>exact ⟨_,_,_,_,_,_,_,_,rfl,rfl,hA.gr (((Below.refl _ _).drewN _)),hB.gr (((Below.refl _ _).drewN _)),by omega,by omega,((Below.refl _ _).drewN _),rfl⟩
 case round=>
  obtain ⟨p5,l5,c5,p6,l6,c6,A,B,rfl,rfl,h5,h6,ah,aa,hG,hh⟩:=hrel
  by_cases hp:0<l6
  ·have ad:B≠0:=fun e=>by subst e;have:=h6.nl.len_zero.2 rfl;omega
   go_wp2_with fail
   refine (zu2 h5 h6 ah aa (by omega)).mono ?_
   rintro e w3 ⟨⟨qo,qk,qc,ro,rk,rc,rfl,h7,h8⟩,ac⟩
   go_wp2
   have e8:(A:Int) % (B:Int)=((A % B:Nat):Int):=(Int.natCast_emod A B).symm
   rw [e8] at h8
   have hlt:A % B<B:=Nat.mod_lt _ (by omega)
   go_roundw
   case rel=>
    refine ⟨_,_,_,_,_,_,B,A % B,rfl,rfl,h6.gr ac,h8,aa,Nat.le_trans (h8.nl.len_le h6.nl (by omega)) aa,Gr.trans hG ac,?_⟩
    show Nat.gcd B (A % B)=_
    rw [← hh.out,Nat.gcd_comm B,← Nat.gcd_rec,Nat.gcd_comm]
   case measure=>
    rw [zN2 h8,zN2 h6];exact hlt
  obtain rfl:l6=0:=by omega
  have ad:B=0:=by have:=h6.nl.len_zero.1 rfl;omega
  subst ad
  have p3:=Gr.heap hG f2
  have d0:=zc1 p3 0
  have d1:=zc1 p3 1
  have d2:=zj0 p3
  have af:Gr w wr:=Gr.trans g0 hG
  have hg:A=Int.gcd z u:=by rw [← hh.out,Nat.gcd_zero_right]
  subst hg
  clear hh hG hA hB f2
  go_wp2
  have p4:=zb2 (i:=1) (.slice p5 l5 c5) (zb2 (i:=0) (.bool false) p3)
  have hst:=(St.setCell wr (w.heap.size+1+1) 0 (.bool false)).trans (St.setCell _ (w.heap.size+1+1) 1 (.slice p5 l5 c5))
  exact bodyPost_ret (v:=.agg #[.bool false,.slice p5 l5 c5]) (zc8 _ _ _ rfl rfl p4 (by kernel_rfl)) rfl ⟨⟨_,_,rfl,p5,l5,c5,by simp,rfl,h5.kp (hst.kp p3 (by decide)),hsz.out⟩,hst.gr af (by omega)⟩
theorem za3 {P:Program} {w:World} {fn:Func} {tmps:Array Value} {t:Tmp} {v:Value} (h:fn.results=#[.tmp t]) (hv:tmps.getD t undef=v):(results fn tmps).run P w=.ok v w:=by
 subst hv;exact results_tmp h _ _ _
theorem zg5 {P:Program} {w:World} {fn:Func} {tmps:Array Value} {t u:Tmp} {v x:Value} (h:fn.results=#[.tmp t,.tmp u]) (hv:tmps.getD t undef=v) (hx:tmps.getD u undef=x):(results fn tmps).run P w=.ok (.tuple #[v,x]) w:=by
 subst hv hx;simp [results,h]
theorem zb5 {P:Program} {w:World} {fn:Func} {tmps:Array Value} {p u:Tmp} {t:TypeId} {v:Value} (b:Nat) (cs:Array Value) (tt:TypeId) (h:fn.results=#[.cell p t,.tmp u]) (hp:tmps.getD p undef=.pointer (some ⟨b,0,none⟩)) (hL:Lc w b cs tt) (hs:zg9 P t=some cs.size) (hv:tmps.getD u undef=v):
  (results fn tmps).run P w=.ok (.tuple #[.agg cs,v]) w:=by
 subst hv;exact zG5 b cs tt h hp hL hs
theorem zj1 {P:Program} {w:World} {fn:Func} {tmps:Array Value} {p q u:Tmp} {t t2:TypeId} {v:Value} (b c:Nat) (cs ds:Array Value) (tt aa:TypeId) (h:fn.results=#[.cell p t,.cell q t2,.tmp u]) (hp:tmps.getD p undef=.pointer (some ⟨b,0,none⟩)) (hq:tmps.getD q undef=.pointer (some ⟨c,0,none⟩))
  (hL:Lc w b cs tt) (hs:zg9 P t=some cs.size) (ac:Lc w c ds aa) (ad:zg9 P t2=some ds.size) (hv:tmps.getD u undef=v):
  (results fn tmps).run P w=.ok (.tuple #[.agg cs,.agg ds,v]) w:=by
 subst hv;exact zC7 b c cs ds tt aa h hp hq hL hs ac ad
end Go.Proofs.YtjhflekncldflaaGreatDoor
namespace Go.Proofs.YtjhflekncldflaaGreatDoor
set_option maxRecDepth 100000
set_option maxHeartbeats 1000000
open Go.RowKit

theorem sub_i {k m:Nat} {x y x2 y2:Value} {z u:Int} {w:World} (hz:IsInt w k x y z) (hu:IsInt w m x2 y2 u) (_hk:k+m+1≤1000000):
    Calls Tryz.prog 155 #[.agg #[x,y],.agg #[x2,y2]] w fun e w'=>(∃ x' y',e=.returned (.agg #[x',y'])∧IsInt w' (k+m+1) x' y' (z - u))∧Gr w w':=by
 go_enter Tryz.func155,Tryz.ntmps155
 have hB:=Gr.refl w
 refine wp_seq_k (fun K1 k1=>rg [0,1,2] ?_)
 refine se ?_
 refine eb 60 #[x,y] 2 hB fun b2 w2 g2 L2 o2 q2 hB=>?_
 simp only [p3,p4]
 refine se ?_
 refine eb 60 #[x2,y2] 3 hB fun b3 w3 g3 L3 o3 q3 hB=>?_
 simp only [p3,p4]
 refine se ?_
 refine ea 60 #[.bool false,sN] 4 hB fun b4 w4 g4 L4 o4 q4 hB=>?_
 replace L2:=L2.gr g3
 have ad:=L2.ne o4
 have ae:=L3.ne o4
 simp only [p3,p4]
 refine za0 (k1 _ _ ?_)
 refine wp_seq_k (fun K5 k5=>?_)
 have aa:=Gr.drew w4
 replace hB:=hB.trans aa
 replace L2:=L2.gr (g4.trans aa)
 replace L3:=L3.gr (g4.trans aa)
 refine za4 (fun w'=>Lc w' b2 #[x,y] 60∧Lc w' b3 #[x2,y2] 60) [(true,0),(true,1),(false,2),(false,3),(false,4)] (by kernel_rfl) (by kernel_rfl) (by kernel_rfl) (by decide) (fun _ _ _ _ _ h=>h) ⟨L2,L3⟩ ?_
 refine ow 5 (.agg #[x,y]) rfl (fun w' hS=>(rl 60 0 [x,y] hS.1)) ?_
 refine ow 6 (.agg #[x2,y2]) rfl (fun w' hS=>(rl 60 0 [x2,y2] hS.2)) ?_
 refine oe ?_
 have al:=g2.kp.trans (g3.kp.trans (g4.kp.trans aa.kp))
 replace hu:=hu.kp al
 refine ec 7 (neg_i hu) ?_
 rintro ay aA ⟨⟨aw,av,rfl,ar⟩,ah⟩
 refine ⟨_,rfl,?_⟩
 replace hB:=hB.trans ah
 replace L2:=L2.gr ah
 replace L3:=L3.gr ah
 refine ⟨⟨L2,L3⟩,?_⟩
 simp only [p3,p4]
 refine oe ?_
 have ap:=g2.kp.trans (g3.kp.trans (g4.kp.trans (aa.kp.trans ah.kp)))
 replace hz:=hz.kp ap
 refine ec 8 (add_i hz ar (by omega)) ?_
 rintro ax az ⟨⟨ak,aj,rfl,ac⟩,ai⟩
 refine ⟨_,rfl,?_⟩
 replace hB:=hB.trans ai
 replace L2:=L2.gr ai
 replace L3:=L3.gr ai
 refine ⟨⟨L2,L3⟩,?_⟩
 simp only [p3,p4]
 refine oe ?_
 replace L4:=L4.gr (aa.trans (ah.trans ai))
 refine es 60 0 (.agg #[ak,aj]) [ak,aj] #[ak,aj] L4 hB q4 ⟨ac.one0,ac.one1,trivial⟩ fun au af aq L4 hB=>?_
 replace L2:=af.lc L2 ad
 replace L3:=af.lc L3 ae
 refine ⟨⟨L2,L3⟩,?_⟩
 refine zb4 ?_
 refine k5 _ _ ?_
 refine wp_ret ?_
 refine bodyPost_ret (v:=(.agg #[ak,aj])) (zc8 _ _ _ rfl rfl L4 (by kernel_rfl)) rfl ⟨?_,hB⟩
 replace ac:=ac.kp aq
 exact ⟨_,_,rfl,by rw [Int.sub_eq_add_neg];exact ac⟩

theorem cmp_tt {w:World} {a b:Int} {ao bo:Option Addr} {la lb ca cb:Nat} (ha:Mag w ao la ca a) (hb:Mag w bo lb cb b) (_hla:la≤1000000) (_hlb:lb≤1000000):
    Calls Tryz.prog 85 #[.agg #[.bool true,.slice ao la ca],.agg #[.bool true,.slice bo lb cb]] w fun e w'=>(e=.returned (iT (sgn (b - a))))∧Gr w w':=by
 go_enter Tryz.func85,Tryz.ntmps85
 have hB:=Gr.refl w
 refine wp_seq_k (fun K1 k1=>rg [0,1,2] ?_)
 refine se ?_
 refine eb 60 #[.bool true,.slice ao la ca] 2 hB fun b2 w2 g2 L2 o2 q2 hB=>?_
 simp only [p3,p4]
 refine se ?_
 refine eb 60 #[.bool true,.slice bo lb cb] 3 hB fun b3 w3 g3 L3 o3 q3 hB=>?_
 simp only [p3,p4]
 refine sv 4 (iT 0) (za0 (k1 _ _ ?_))
 refine wp_seq_k (fun K4 k4=>?_)
 refine wp_block ?_
 refine wp_seq_k (fun K5 k5=>rg [0,1,2,3,4,5] (sv 6 (pT b2 0) ?_))
 replace L2:=L2.gr g3
 refine sw 7 (.bool true) rfl (rk 4 0 L2) ?_
 refine sv 8 (pT b3 0) ?_
 refine sw 9 (.bool true) rfl (rk 4 0 L3) ?_
 refine sv 10 (.bool false) ?_
 refine sv 5 (.bool false) (za0 (k5 _ _ ?_))
 refine wp_cond_false rfl ?_
 refine wp_seq_k (fun K6 k6=>rg [0,1,2] (sv 14 (pT b2 0) ?_))
 refine sw 15 (.bool true) rfl (rk 4 0 L2) ?_
 refine sv 13 (.bool true) (za0 (k6 _ _ ?_))
 refine wp_cond_true rfl ?_
 refine wp_seq_k (fun K7 k7=>rg [0,1,2,3,4,5] (sv 16 (pT b3 1) ?_))
 refine sw 17 (.slice bo lb cb) rfl (rk 58 1 L3) ?_
 refine sv 18 (pT b2 1) ?_
 refine sw 19 (.slice ao la ca) rfl (rk 58 1 L2) ?_
 refine se ?_
 have aa:=g2.kp.trans g3.kp
 replace hb:=hb.kp aa
 replace ha:=ha.kp aa
 refine ec 20 (zB3 hb ha (by omega) (by omega)) ?_
 rintro e8 w8 ⟨rfl,g8⟩
 refine ⟨_,rfl,?_⟩
 replace hB:=hB.trans g8
 simp only [p3,p4]
 refine sv 4 (iT (sgn (b - a))) (za0 (k7 _ _ ?_))
 refine wp_ret ?_
 simp only [Exit.then,Exit.inBlock]
 refine bodyPost_ret (v:=(iT (sgn (b - a)))) (za3 rfl rfl) rfl ⟨?_,hB⟩
 exact rfl

theorem cmp_tf {w:World} {a b:Int} {ao bo:Option Addr} {la lb ca cb:Nat} (_ha:Mag w ao la ca a) (_hb:Mag w bo lb cb b) (_hla:la≤1000000) (_hlb:lb≤1000000):
    Calls Tryz.prog 85 #[.agg #[.bool true,.slice ao la ca],.agg #[.bool false,.slice bo lb cb]] w fun e w'=>(e=.returned (iT (-1)))∧Gr w w':=by
 go_enter Tryz.func85,Tryz.ntmps85
 have hB:=Gr.refl w
 refine wp_seq_k (fun K1 k1=>rg [0,1,2] ?_)
 refine se ?_
 refine eb 60 #[.bool true,.slice ao la ca] 2 hB fun b2 w2 g2 L2 o2 q2 hB=>?_
 simp only [p3,p4]
 refine se ?_
 refine eb 60 #[.bool false,.slice bo lb cb] 3 hB fun b3 w3 g3 L3 o3 q3 hB=>?_
 simp only [p3,p4]
 refine sv 4 (iT 0) (za0 (k1 _ _ ?_))
 refine wp_seq_k (fun K4 k4=>?_)
 refine wp_block ?_
 refine wp_seq_k (fun K5 k5=>rg [0,1,2,3,4,5] (sv 6 (pT b2 0) ?_))
 replace L2:=L2.gr g3
 refine sw 7 (.bool true) rfl (rk 4 0 L2) ?_
 refine sv 8 (pT b3 0) ?_
 refine sw 9 (.bool false) rfl (rk 4 0 L3) ?_
 refine sv 10 (.bool true) ?_
 refine sv 5 (.bool true) (za0 (k5 _ _ ?_))
 refine wp_cond_true rfl ?_
 refine wp_seq_k (fun K6 k6=>wp_seq_k (fun K7 k7=>rg [0,1] (sv 11 (pT b2 0) ?_)))
 refine sw 12 (.bool true) rfl (rk 4 0 L2) ?_
 refine za0 (k7 _ _ ?_)
 refine wp_cond_true rfl ?_
 refine wp_seq_k (fun K8 k8=>rg [0] (sv 4 (iT (-1)) ?_))
 refine za0 (k8 _ _ ?_)
 refine wp_ret ?_
 simp only [Exit.then,Exit.inBlock]
 refine bodyPost_ret (v:=(iT (-1))) (za3 rfl rfl) rfl ⟨?_,hB⟩
 exact rfl

theorem cmp_ft {w:World} {a b:Int} {ao bo:Option Addr} {la lb ca cb:Nat} (_ha:Mag w ao la ca a) (_hb:Mag w bo lb cb b) (_hla:la≤1000000) (_hlb:lb≤1000000):
    Calls Tryz.prog 85 #[.agg #[.bool false,.slice ao la ca],.agg #[.bool true,.slice bo lb cb]] w fun e w'=>(e=.returned (iT (1)))∧Gr w w':=by
 go_enter Tryz.func85,Tryz.ntmps85
 have hB:=Gr.refl w
 refine wp_seq_k (fun K1 k1=>rg [0,1,2] ?_)
 refine se ?_
 refine eb 60 #[.bool false,.slice ao la ca] 2 hB fun b2 w2 g2 L2 o2 q2 hB=>?_
 simp only [p3,p4]
 refine se ?_
 refine eb 60 #[.bool true,.slice bo lb cb] 3 hB fun b3 w3 g3 L3 o3 q3 hB=>?_
 simp only [p3,p4]
 refine sv 4 (iT 0) (za0 (k1 _ _ ?_))
 refine wp_seq_k (fun K4 k4=>?_)
 refine wp_block ?_
 refine wp_seq_k (fun K5 k5=>rg [0,1,2,3,4,5] (sv 6 (pT b2 0) ?_))
 replace L2:=L2.gr g3
 refine sw 7 (.bool false) rfl (rk 4 0 L2) ?_
 refine sv 8 (pT b3 0) ?_
 refine sw 9 (.bool true) rfl (rk 4 0 L3) ?_
 refine sv 10 (.bool true) ?_
 refine sv 5 (.bool true) (za0 (k5 _ _ ?_))
 refine wp_cond_true rfl ?_
 refine wp_seq_k (fun K6 k6=>wp_seq_k (fun K7 k7=>rg [0,1] (sv 11 (pT b2 0) ?_)))
 refine sw 12 (.bool false) rfl (rk 4 0 L2) ?_
 refine za0 (k7 _ _ ?_)
 refine wp_cond_false rfl ?_
 refine wp_skip ?_
 refine k6 _ _ ?_
 refine wp_seq_k (fun K8 k8=>rg [0] (sv 4 (iT 1) ?_))
 refine za0 (k8 _ _ ?_)
 refine wp_ret ?_
 simp only [Exit.then,Exit.inBlock]
 refine bodyPost_ret (v:=(iT 1)) (za3 rfl rfl) rfl ⟨?_,hB⟩
 exact rfl

theorem cmp_ff {w:World} {a b:Int} {ao bo:Option Addr} {la lb ca cb:Nat} (ha:Mag w ao la ca a) (hb:Mag w bo lb cb b) (_hla:la≤1000000) (_hlb:lb≤1000000):
    Calls Tryz.prog 85 #[.agg #[.bool false,.slice ao la ca],.agg #[.bool false,.slice bo lb cb]] w fun e w'=>(e=.returned (iT (sgn (a - b))))∧Gr w w':=by
 go_enter Tryz.func85,Tryz.ntmps85
 have hB:=Gr.refl w
 refine wp_seq_k (fun K1 k1=>rg [0,1,2] ?_)
 refine se ?_
 refine eb 60 #[.bool false,.slice ao la ca] 2 hB fun b2 w2 g2 L2 o2 q2 hB=>?_
 simp only [p3,p4]
 refine se ?_
 refine eb 60 #[.bool false,.slice bo lb cb] 3 hB fun b3 w3 g3 L3 o3 q3 hB=>?_
 simp only [p3,p4]
 refine sv 4 (iT 0) (za0 (k1 _ _ ?_))
 refine wp_seq_k (fun K4 k4=>?_)
 refine wp_block ?_
 refine wp_seq_k (fun K5 k5=>rg [0,1,2,3,4,5] (sv 6 (pT b2 0) ?_))
 replace L2:=L2.gr g3
 refine sw 7 (.bool false) rfl (rk 4 0 L2) ?_
 refine sv 8 (pT b3 0) ?_
 refine sw 9 (.bool false) rfl (rk 4 0 L3) ?_
 refine sv 10 (.bool false) ?_
 refine sv 5 (.bool false) (za0 (k5 _ _ ?_))
 refine wp_cond_false rfl ?_
 refine wp_seq_k (fun K6 k6=>rg [0,1,2] (sv 14 (pT b2 0) ?_))
 refine sw 15 (.bool false) rfl (rk 4 0 L2) ?_
 refine sv 13 (.bool false) (za0 (k6 _ _ ?_))
 refine wp_cond_false rfl ?_
 refine wp_skip ?_
 refine k4 _ _ ?_
 refine wp_seq_k (fun K7 k7=>rg [0,1,2,3,4,5] (sv 21 (pT b2 1) ?_))
 refine sw 22 (.slice ao la ca) rfl (rk 58 1 L2) ?_
 refine sv 23 (pT b3 1) ?_
 refine sw 24 (.slice bo lb cb) rfl (rk 58 1 L3) ?_
 refine se ?_
 have aa:=g2.kp.trans g3.kp
 replace ha:=ha.kp aa
 replace hb:=hb.kp aa
 refine ec 25 (zB3 ha hb (by omega) (by omega)) ?_
 rintro e8 w8 ⟨rfl,g8⟩
 refine ⟨_,rfl,?_⟩
 replace hB:=hB.trans g8
 simp only [p3,p4]
 refine sv 4 (iT (sgn (a - b))) (za0 (k7 _ _ ?_))
 refine wp_ret ?_
 refine bodyPost_ret (v:=(iT (sgn (a - b)))) (za3 rfl rfl) rfl ⟨?_,hB⟩
 exact rfl

theorem divmod_0 {w:World} {s:Bool} {K m:Nat} {a b Z:Int} {ao bo:Option Addr} {la lb ca cb:Nat} (ha:Mag w ao la ca a) (hb:Mag w bo lb cb b) (hu:IsInt w m (.bool false) (.slice bo lb cb) b) (_hla:la≤1000000) (_hlb:lb≤1000000) (_hb0:0<b) (hd:a % b=0) (hQ:a/b=(Z.natAbs:Int)) (hS:0<a/b→(s !=false)=decide (Z<0)) (hZ:Sz K Z) (hK:K≤1000000) (hm:m≤1000000):
    Calls Tryz.prog 129 #[.agg #[.bool (s),.slice ao la ca],.agg #[.bool false,.slice bo lb cb]] w fun e w'=>(∃ x' y' x3 y3,e=.returned (.tuple #[.agg #[x',y'],.agg #[x3,y3],iT 0])∧IsInt w' K x' y' (Z)∧IsInt w' m x3 y3 (0))∧Gr w w':=by
 have hR:a % b=((0:Int).natAbs:Int):=hd
 go_enter Tryz.func129,Tryz.ntmps129
 have hB:=Gr.refl w
 refine wp_seq_k (fun K1 k1=>rg [0,1,2,3,4] ?_)
 refine se ?_
 refine eb 60 #[.bool (s),.slice ao la ca] 2 hB fun b2 w2 g2 L2 o2 q2 hB=>?_
 simp only [p3,p4]
 refine se ?_
 refine eb 60 #[.bool false,.slice bo lb cb] 3 hB fun b3 w3 g3 L3 o3 q3 hB=>?_
 simp only [p3,p4]
 refine se ?_
 refine ea 60 #[.bool false,sN] 4 hB fun b4 w4 g4 L4 o4 q4 hB=>?_
 replace L2:=L2.gr g3
 have aD:=L2.ne o4
 have aE:=L3.ne o4
 simp only [p3,p4]
 refine se ?_
 refine ea 60 #[.bool false,sN] 5 hB fun b5 w5 g5 L5 o5 q5 hB=>?_
 replace L2:=L2.gr g4
 have aJ:=L2.ne o5
 replace L3:=L3.gr g4
 have aK:=L3.ne o5
 have ac:=L4.ne o5
 simp only [p3,p4]
 refine sv 6 (iT 0) (za0 (k1 _ _ ?_))
 refine wp_seq_k (fun K6 k6=>wp_seq_k (fun K7 k7=>rg [0,1,2] ?_))
 replace L3:=L3.gr g5
 refine sw 9 (.agg #[.bool false,.slice bo lb cb]) rfl (rl 60 0 [.bool false,.slice bo lb cb] L3) ?_
 refine se ?_
 have aV:=g2.kp.trans (g3.kp.trans (g4.kp.trans g5.kp))
 replace hu:=hu.kp aV
 refine ec 10 (zi8 hu (by omega)) ?_
 rintro e8 w8 ⟨rfl,g8⟩
 refine ⟨_,rfl,?_⟩
 replace hB:=hB.trans g8
 simp only [p3,p4]
 refine sv 11 (.bool false) (za0 (k7 _ _ ?_))
 refine wp_cond_false rfl ?_
 refine wp_skip ?_
 refine k6 _ _ ?_
 refine wp_seq_k (fun a5 aW=>rg [0,1,2,3,4,5,6,7,8,9] (sv 15 (pT b2 1) ?_))
 replace L2:=L2.gr (g5.trans g8)
 refine sw 16 (.slice ao la ca) rfl (rk 58 1 L2) ?_
 refine sv 17 (pT b3 1) ?_
 replace L3:=L3.gr g8
 refine sw 18 (.slice bo lb cb) rfl (rk 58 1 L3) ?_
 refine se ?_
 have aL:=g2.kp.trans (g3.kp.trans (g4.kp.trans (g5.kp.trans g8.kp)))
 replace ha:=ha.kp aL
 replace hb:=hb.kp aL
 refine ec 19 (zu2 ha hb (by omega) (by omega) (by omega)) ?_
 rintro a2 a0 ⟨⟨ap,ak,al,aq,au,ar,rfl,aw,ax⟩,aG⟩
 refine ⟨_,rfl,?_⟩
 replace hB:=hB.trans aG
 simp only [p3,p4]
 refine sv 14 (.tuple #[.slice ap ak al,.slice aq au ar]) ?_
 refine sv 20 (.slice ap ak al) ?_
 refine sv 21 (.slice aq au ar) ?_
 refine sv 7 (.slice ap ak al) ?_
 refine sv 8 (.slice aq au ar) (za0 (aW _ _ ?_))
 refine wp_seq_k (fun a3 aZ=>?_)
 have aa:=Gr.drew a0
 replace hB:=hB.trans aa
 replace L2:=L2.gr (aG.trans aa)
 replace L3:=L3.gr (aG.trans aa)
 refine za4 (fun w'=>Lc w' b2 #[.bool (s),.slice ao la ca] 60∧Lc w' b3 #[.bool false,.slice bo lb cb] 60) [(true,0),(true,1),(true,2),(true,3),(true,4),(true,5),(true,7),(true,8),(true,9),(false,6),(false,10),(false,11),(false,12)] (by kernel_rfl) (by kernel_rfl) (by kernel_rfl) (by decide) (fun _ _ _ _ _ h=>h) ⟨L2,L3⟩ ?_
 refine ov 22 (pT b2 0) ?_
 refine ow 23 (.bool (s)) rfl (fun w' hS=>(rk 4 0 hS.1)) ?_
 refine ov 24 (pT b3 0) ?_
 refine ow 25 (.bool false) rfl (fun w' hS=>(rk 4 0 hS.2)) ?_
 refine ov 26 (.bool (s !=false)) ?_
 refine ov 27 (.slice ap ak al) ?_
 refine ov 29 (pT b2 0) ?_
 refine ow 30 (.bool (s)) rfl (fun w' hS=>(rk 4 0 hS.1)) ?_
 refine ov 31 (.slice aq au ar) ?_
 refine oe ?_
 replace aw:=aw.kp aa.kp
 refine ec 28 (zu3 (neg:=(s !=false)) (Z:=Z) aw hQ hS hZ hK) ?_
 rintro a1 a4 ⟨⟨ai,aj,rfl,ay⟩,aA⟩
 refine ⟨_,rfl,?_⟩
 replace hB:=hB.trans aA
 replace L2:=L2.gr aA
 replace L3:=L3.gr aA
 refine ⟨⟨L2,L3⟩,?_⟩
 simp only [p3,p4]
 refine oe ?_
 have aR:=aa.kp.trans aA.kp
 replace ax:=ax.kp aR
 refine ec 32 (zu3 (neg:=s) (Z:=0) ax hR (fun h=>by omega) (Sz.zero m) hm) ?_
 rintro bh a9 ⟨⟨ae,ad,rfl,ah⟩,aB⟩
 refine ⟨_,rfl,?_⟩
 replace hB:=hB.trans aB
 replace L2:=L2.gr aB
 replace L3:=L3.gr aB
 refine ⟨⟨L2,L3⟩,?_⟩
 simp only [p3,p4]
 refine oe ?_
 replace L4:=L4.gr (g5.trans (g8.trans (aG.trans (aa.trans (aA.trans aB)))))
 refine es 60 0 (.agg #[ai,aj]) [ai,aj] #[ai,aj] L4 hB q4 ⟨ay.one0,ay.one1,trivial⟩ fun a7 av aH L4 hB=>?_
 replace L2:=av.lc L2 aD
 replace L3:=av.lc L3 aE
 refine ⟨⟨L2,L3⟩,?_⟩
 refine oe ?_
 replace L5:=av.lc (L5.gr (g8.trans (aG.trans (aa.trans (aA.trans aB))))) (Ne.symm ac)
 refine es 60 0 (.agg #[ae,ad]) [ae,ad] #[ae,ad] L5 hB q5 ⟨ah.one0,ah.one1,trivial⟩ fun bi az aM L5 hB=>?_
 replace L2:=az.lc L2 aJ
 replace L3:=az.lc L3 aK
 refine ⟨⟨L2,L3⟩,?_⟩
 refine zb4 ?_
 refine aZ _ _ ?_
 refine wp_seq_k (fun a6 aU=>wp_seq_k (fun bg aX=>rg [0,1,2,3,4,5,6,7,8,9] ?_))
 refine sw 33 (.agg #[ae,ad]) rfl (rl 60 0 [ae,ad] L5) ?_
 refine se ?_
 have aP:=aH.trans aM
 replace ah:=ah.kp aP
 refine ec 34 (zw3 ah) ?_
 rintro bb aY ⟨rfl,aC⟩
 refine ⟨_,rfl,?_⟩
 replace hB:=hB.trans aC
 simp only [p3,p4]
 refine sv 35 (.bool false) ?_
 refine sv 36 (.bool false) ?_
 refine ss 37 ?_
 refine ss 38 ?_
 refine ss 39 ?_
 refine ss 40 ?_
 refine ss 41 ?_
 refine sv 42 (.bool false) (za0 (aX _ _ ?_))
 refine wp_cond_false rfl ?_
 refine wp_skip ?_
 refine aU _ _ ?_
 refine wp_seq_k (fun a8 aT=>?_)
 have af:=Gr.drew aY
 replace hB:=hB.trans af
 replace L4:=(az.lc L4 ac).gr (aC.trans af)
 replace L5:=L5.gr (aC.trans af)
 refine zd7 (fun _=>True) [([2],(fun w'=>Lc w' b4 #[ai,aj] 60)),([3],(fun w'=>Lc w' b5 #[ae,ad] 60))] [(true,0),(true,1),(false,2),(false,3),(true,4)] (by kernel_rfl) (by kernel_rfl) (by kernel_rfl) (by decide) (fun _ _ _ _ _ h=>h) trivial ⟨fun _=>L4,fun _=>L5,trivial⟩ ?_
 refine tw 49 (.agg #[ai,aj]) rfl (fun w' hS=>(rl 60 0 [ai,aj] (hS.2.1 (by kernel_rfl)))) ?_
 refine tw 50 (.agg #[ae,ad]) rfl (fun w' hS=>(rl 60 0 [ae,ad] (hS.2.2.1 (by kernel_rfl)))) ?_
 refine te ?_
 refine es 60 0 (.agg #[ai,aj]) [ai,aj] #[ai,aj] L4 hB q4 ⟨ay.one0,ay.one1,trivial⟩ fun ba aO aI L4 hB=>?_
 replace L5:=aO.lc L5 (Ne.symm ac)
 refine ⟨trivial,⟨zh7 (by kernel_rfl),fun _=>L5,trivial⟩,?_⟩
 refine te ?_
 refine es 60 0 (.agg #[ae,ad]) [ae,ad] #[ae,ad] L5 hB q5 ⟨ah.one0,ah.one1,trivial⟩ fun bf aS aF L5 hB=>?_
 refine ⟨trivial,⟨zh7 (by kernel_rfl),zh7 (by kernel_rfl),trivial⟩,?_⟩
 refine tv 6 (iT 0) ?_
 refine zi0 ?_
 refine aT _ _ ?_
 refine wp_ret ?_
 replace L4:=aS.lc L4 ac
 refine bodyPost_ret (v:=(.tuple #[.agg #[ai,aj],.agg #[ae,ad],iT 0])) (zj1 _ _ _ _ _ _ rfl rfl rfl L4 (by kernel_rfl) L5 (by kernel_rfl) rfl) rfl ⟨?_,hB⟩
 have aQ:=aB.kp.trans (aH.trans (aM.trans (aC.kp.trans (af.kp.trans (aI.trans aF)))))
 replace ay:=ay.kp aQ
 have aN:=aC.kp.trans (af.kp.trans (aI.trans aF))
 replace ah:=ah.kp aN
 exact ⟨_,_,_,_,rfl,ay,ah⟩

theorem divmod_f {w:World} {K m:Nat} {a b:Int} {ao bo:Option Addr} {la lb ca cb:Nat} (ha:Mag w ao la ca a) (hb:Mag w bo lb cb b) (hu:IsInt w m (.bool false) (.slice bo lb cb) b) (_hla:la≤1000000) (_hlb:lb≤1000000) (_hb0:0<b) (hR:0<a % b) (_hL:a % b<b) (_hQ:0≤a/b) (hZ:Sz K (a/b)) (hK:K≤1000000) (hm:m≤1000000):
    Calls Tryz.prog 129 #[.agg #[.bool false,.slice ao la ca],.agg #[.bool false,.slice bo lb cb]] w fun e w'=>(∃ x' y' x3 y3,e=.returned (.tuple #[.agg #[x',y'],.agg #[x3,y3],iT 0])∧IsInt w' K x' y' (a/b)∧IsInt w' m x3 y3 (a % b))∧Gr w w':=by
 go_enter Tryz.func129,Tryz.ntmps129
 have hB:=Gr.refl w
 refine wp_seq_k (fun K1 k1=>rg [0,1,2,3,4] ?_)
 refine se ?_
 refine eb 60 #[.bool false,.slice ao la ca] 2 hB fun b2 w2 g2 L2 o2 q2 hB=>?_
 simp only [p3,p4]
 refine se ?_
 refine eb 60 #[.bool false,.slice bo lb cb] 3 hB fun b3 w3 g3 L3 o3 q3 hB=>?_
 simp only [p3,p4]
 refine se ?_
 refine ea 60 #[.bool false,sN] 4 hB fun b4 w4 g4 L4 o4 q4 hB=>?_
 replace L2:=L2.gr g3
 have aC:=L2.ne o4
 have aD:=L3.ne o4
 simp only [p3,p4]
 refine se ?_
 refine ea 60 #[.bool false,sN] 5 hB fun b5 w5 g5 L5 o5 q5 hB=>?_
 replace L2:=L2.gr g4
 have aI:=L2.ne o5
 replace L3:=L3.gr g4
 have aJ:=L3.ne o5
 have ae:=L4.ne o5
 simp only [p3,p4]
 refine sv 6 (iT 0) (za0 (k1 _ _ ?_))
 refine wp_seq_k (fun K6 k6=>wp_seq_k (fun K7 k7=>rg [0,1,2] ?_))
 replace L3:=L3.gr g5
 refine sw 9 (.agg #[.bool false,.slice bo lb cb]) rfl (rl 60 0 [.bool false,.slice bo lb cb] L3) ?_
 refine se ?_
 have aU:=g2.kp.trans (g3.kp.trans (g4.kp.trans g5.kp))
 replace hu:=hu.kp aU
 refine ec 10 (zi8 hu (by omega)) ?_
 rintro e8 w8 ⟨rfl,g8⟩
 refine ⟨_,rfl,?_⟩
 replace hB:=hB.trans g8
 simp only [p3,p4]
 refine sv 11 (.bool false) (za0 (k7 _ _ ?_))
 refine wp_cond_false rfl ?_
 refine wp_skip ?_
 refine k6 _ _ ?_
 refine wp_seq_k (fun a4 aV=>rg [0,1,2,3,4,5,6,7,8,9] (sv 15 (pT b2 1) ?_))
 replace L2:=L2.gr (g5.trans g8)
 refine sw 16 (.slice ao la ca) rfl (rk 58 1 L2) ?_
 refine sv 17 (pT b3 1) ?_
 replace L3:=L3.gr g8
 refine sw 18 (.slice bo lb cb) rfl (rk 58 1 L3) ?_
 refine se ?_
 have aK:=g2.kp.trans (g3.kp.trans (g4.kp.trans (g5.kp.trans g8.kp)))
 replace ha:=ha.kp aK
 replace hb:=hb.kp aK
 refine ec 19 (zu2 ha hb (by omega) (by omega) (by omega)) ?_
 rintro a1 aZ ⟨⟨ap,ak,al,aa,aq,ac,rfl,au,av⟩,aF⟩
 refine ⟨_,rfl,?_⟩
 replace hB:=hB.trans aF
 simp only [p3,p4]
 refine sv 14 (.tuple #[.slice ap ak al,.slice aa aq ac]) ?_
 refine sv 20 (.slice ap ak al) ?_
 refine sv 21 (.slice aa aq ac) ?_
 refine sv 7 (.slice ap ak al) ?_
 refine sv 8 (.slice aa aq ac) (za0 (aV _ _ ?_))
 refine wp_seq_k (fun a2 aY=>?_)
 have ad:=Gr.drew aZ
 replace hB:=hB.trans ad
 replace L2:=L2.gr (aF.trans ad)
 replace L3:=L3.gr (aF.trans ad)
 refine za4 (fun w'=>Lc w' b2 #[.bool false,.slice ao la ca] 60∧Lc w' b3 #[.bool false,.slice bo lb cb] 60) [(true,0),(true,1),(true,2),(true,3),(true,4),(true,5),(true,7),(true,8),(true,9),(false,6),(false,10),(false,11),(false,12)] (by kernel_rfl) (by kernel_rfl) (by kernel_rfl) (by decide) (fun _ _ _ _ _ h=>h) ⟨L2,L3⟩ ?_
 refine ov 22 (pT b2 0) ?_
 refine ow 23 (.bool false) rfl (fun w' hS=>(rk 4 0 hS.1)) ?_
 refine ov 24 (pT b3 0) ?_
 refine ow 25 (.bool false) rfl (fun w' hS=>(rk 4 0 hS.2)) ?_
 refine ov 26 (.bool false) ?_
 refine ov 27 (.slice ap ak al) ?_
 refine ov 29 (pT b2 0) ?_
 refine ow 30 (.bool false) rfl (fun w' hS=>(rk 4 0 hS.1)) ?_
 refine ov 31 (.slice aa aq ac) ?_
 refine oe ?_
 replace au:=au.kp ad.kp
 refine ec 28 (zu3 (neg:=false) (Z:=(a/b)) au (by omega) (fun _=>by simp;omega) hZ hK) ?_
 rintro a0 a3 ⟨⟨ai,aj,rfl,aw⟩,aA⟩
 refine ⟨_,rfl,?_⟩
 replace hB:=hB.trans aA
 replace L2:=L2.gr aA
 replace L3:=L3.gr aA
 refine ⟨⟨L2,L3⟩,?_⟩
 simp only [p3,p4]
 refine oe ?_
 have aQ:=ad.kp.trans aA.kp
 replace av:=av.kp aQ
 refine ec 32 (zW2 av hR (Sz.of_le hu.sz (by omega)) hm) ?_
 rintro bg a8 ⟨⟨af,rfl,az⟩,aB⟩
 refine ⟨_,rfl,?_⟩
 replace hB:=hB.trans aB
 replace L2:=L2.gr aB
 replace L3:=L3.gr aB
 refine ⟨⟨L2,L3⟩,?_⟩
 simp only [p3,p4]
 refine oe ?_
 replace L4:=L4.gr (g5.trans (g8.trans (aF.trans (ad.trans (aA.trans aB)))))
 refine es 60 0 (.agg #[ai,aj]) [ai,aj] #[ai,aj] L4 hB q4 ⟨aw.one0,aw.one1,trivial⟩ fun a6 ar aG L4 hB=>?_
 replace L2:=ar.lc L2 aC
 replace L3:=ar.lc L3 aD
 refine ⟨⟨L2,L3⟩,?_⟩
 refine oe ?_
 replace L5:=ar.lc (L5.gr (g8.trans (aF.trans (ad.trans (aA.trans aB))))) (Ne.symm ae)
 refine es 60 0 (.agg #[.bool false,.slice aa af ac]) [.bool false,.slice aa af ac] #[.bool false,.slice aa af ac] L5 hB q5 ⟨rfl,rfl,trivial⟩ fun bh ax aL L5 hB=>?_
 replace L2:=ax.lc L2 aI
 replace L3:=ax.lc L3 aJ
 refine ⟨⟨L2,L3⟩,?_⟩
 refine zb4 ?_
 refine aY _ _ ?_
 refine wp_seq_k (fun a5 aT=>wp_seq_k (fun bf aW=>rg [0,1,2,3,4,5,6,7,8,9] ?_))
 refine sw 33 (.agg #[.bool false,.slice aa af ac]) rfl (rl 60 0 [.bool false,.slice aa af ac] L5) ?_
 refine se ?_
 have aO:=aG.trans aL
 replace az:=az.kp aO
 refine ec 34 (zi8 az (by omega)) ?_
 rintro ba aX ⟨rfl,ay⟩
 refine ⟨_,rfl,?_⟩
 replace hB:=hB.trans ay
 simp only [p3,p4]
 refine sv 35 (.bool true) ?_
 refine sv 36 (.bool true) ?_
 refine sv 37 (pT b5 0) ?_
 replace L5:=L5.gr ay
 refine sw 38 (.bool false) rfl (rk 4 0 L5) ?_
 refine sv 39 (pT b3 0) ?_
 replace L3:=L3.gr ay
 refine sw 40 (.bool false) rfl (rk 4 0 L3) ?_
 refine sv 41 (.bool false) ?_
 refine sv 42 (.bool false) (za0 (aW _ _ ?_))
 refine wp_cond_false rfl ?_
 refine wp_skip ?_
 refine aT _ _ ?_
 refine wp_seq_k (fun a7 aS=>?_)
 have ah:=Gr.drew aX
 replace hB:=hB.trans ah
 replace L4:=(ax.lc L4 ae).gr (ay.trans ah)
 replace L5:=L5.gr ah
 refine zd7 (fun _=>True) [([2],(fun w'=>Lc w' b4 #[ai,aj] 60)),([3],(fun w'=>Lc w' b5 #[.bool false,.slice aa af ac] 60))] [(true,0),(true,1),(false,2),(false,3),(true,4)] (by kernel_rfl) (by kernel_rfl) (by kernel_rfl) (by decide) (fun _ _ _ _ _ h=>h) trivial ⟨fun _=>L4,fun _=>L5,trivial⟩ ?_
 refine tw 49 (.agg #[ai,aj]) rfl (fun w' hS=>(rl 60 0 [ai,aj] (hS.2.1 (by kernel_rfl)))) ?_
 refine tw 50 (.agg #[.bool false,.slice aa af ac]) rfl (fun w' hS=>(rl 60 0 [.bool false,.slice aa af ac] (hS.2.2.1 (by kernel_rfl)))) ?_
 refine te ?_
 refine es 60 0 (.agg #[ai,aj]) [ai,aj] #[ai,aj] L4 hB q4 ⟨aw.one0,aw.one1,trivial⟩ fun a9 aN aH L4 hB=>?_
 replace L5:=aN.lc L5 (Ne.symm ae)
 refine ⟨trivial,⟨zh7 (by kernel_rfl),fun _=>L5,trivial⟩,?_⟩
 refine te ?_
 refine es 60 0 (.agg #[.bool false,.slice aa af ac]) [.bool false,.slice aa af ac] #[.bool false,.slice aa af ac] L5 hB q5 ⟨rfl,rfl,trivial⟩ fun bb aR aE L5 hB=>?_
 refine ⟨trivial,⟨zh7 (by kernel_rfl),zh7 (by kernel_rfl),trivial⟩,?_⟩
 refine tv 6 (iT 0) ?_
 refine zi0 ?_
 refine aS _ _ ?_
 refine wp_ret ?_
 replace L4:=aR.lc L4 ae
 refine bodyPost_ret (v:=(.tuple #[.agg #[ai,aj],.agg #[.bool false,.slice aa af ac],iT 0])) (zj1 _ _ _ _ _ _ rfl rfl rfl L4 (by kernel_rfl) L5 (by kernel_rfl) rfl) rfl ⟨?_,hB⟩
 have aP:=aB.kp.trans (aG.trans (aL.trans (ay.kp.trans (ah.kp.trans (aH.trans aE)))))
 replace aw:=aw.kp aP
 have aM:=ay.kp.trans (ah.kp.trans (aH.trans aE))
 replace az:=az.kp aM
 exact ⟨_,_,_,_,rfl,aw,az⟩

theorem divmod_t {w:World} {K m:Nat} {a b:Int} {ao bo:Option Addr} {la lb ca cb:Nat} (ha:Mag w ao la ca a) (hb:Mag w bo lb cb b) (hu:IsInt w m (.bool false) (.slice bo lb cb) b) (_hla:la≤1000000) (_hlb:lb≤1000000) (_hb0:0<b) (hR:0<a % b) (_hL:a % b<b) (_hQ:0≤a/b) (hZ:Sz K (-(a/b))) (_hK:K+64+1≤1000000) (_hm:m+m+1≤1000000):
    Calls Tryz.prog 129 #[.agg #[.bool true,.slice ao la ca],.agg #[.bool false,.slice bo lb cb]] w fun e w'=>(∃ x' y' x3 y3,e=.returned (.tuple #[.agg #[x',y'],.agg #[x3,y3],iT 0])∧IsInt w' (K+64+1) x' y' (-(a/b) - 1)∧IsInt w' (m+m+1) x3 y3 (-(a % b)+b))∧Gr w w':=by
 go_enter Tryz.func129,Tryz.ntmps129
 have hB:=Gr.refl w
 refine wp_seq_k (fun K1 k1=>rg [0,1,2,3,4] ?_)
 refine se ?_
 refine eb 60 #[.bool true,.slice ao la ca] 2 hB fun b2 w2 g2 L2 o2 q2 hB=>?_
 simp only [p3,p4]
 refine se ?_
 refine eb 60 #[.bool false,.slice bo lb cb] 3 hB fun b3 w3 g3 L3 o3 q3 hB=>?_
 simp only [p3,p4]
 refine se ?_
 refine ea 60 #[.bool false,sN] 4 hB fun b4 w4 g4 L4 o4 q4 hB=>?_
 replace L2:=L2.gr g3
 have aW:=L2.ne o4
 have aw:=L3.ne o4
 simp only [p3,p4]
 refine se ?_
 refine ea 60 #[.bool false,sN] 5 hB fun b5 w5 g5 L5 o5 q5 hB=>?_
 replace L2:=L2.gr g4
 have aY:=L2.ne o5
 replace L3:=L3.gr g4
 have av:=L3.ne o5
 have ad:=L4.ne o5
 simp only [p3,p4]
 refine sv 6 (iT 0) (za0 (k1 _ _ ?_))
 refine wp_seq_k (fun K6 k6=>wp_seq_k (fun K7 k7=>rg [0,1,2] ?_))
 replace L3:=L3.gr g5
 refine sw 9 (.agg #[.bool false,.slice bo lb cb]) rfl (rl 60 0 [.bool false,.slice bo lb cb] L3) ?_
 refine se ?_
 have bh:=g2.kp.trans (g3.kp.trans (g4.kp.trans g5.kp))
 replace hu:=hu.kp bh
 refine ec 10 (zi8 hu (by omega)) ?_
 rintro e8 w8 ⟨rfl,g8⟩
 refine ⟨_,rfl,?_⟩
 replace hB:=hB.trans g8
 simp only [p3,p4]
 refine sv 11 (.bool false) (za0 (k7 _ _ ?_))
 refine wp_cond_false rfl ?_
 refine wp_skip ?_
 refine k6 _ _ ?_
 refine wp_seq_k (fun bC bl=>rg [0,1,2,3,4,5,6,7,8,9] (sv 15 (pT b2 1) ?_))
 replace L2:=L2.gr (g5.trans g8)
 refine sw 16 (.slice ao la ca) rfl (rk 58 1 L2) ?_
 refine sv 17 (pT b3 1) ?_
 replace L3:=L3.gr g8
 refine sw 18 (.slice bo lb cb) rfl (rk 58 1 L3) ?_
 refine se ?_
 have aV:=g2.kp.trans (g3.kp.trans (g4.kp.trans (g5.kp.trans g8.kp)))
 replace ha:=ha.kp aV
 replace hb:=hb.kp aV
 refine ec 19 (zu2 ha hb (by omega) (by omega) (by omega)) ?_
 rintro bB bj ⟨⟨ap,aq,ar,ac,au,aa,rfl,aI,aD⟩,aN⟩
 refine ⟨_,rfl,?_⟩
 replace hB:=hB.trans aN
 simp only [p3,p4]
 refine sv 14 (.tuple #[.slice ap aq ar,.slice ac au aa]) ?_
 refine sv 20 (.slice ap aq ar) ?_
 refine sv 21 (.slice ac au aa) ?_
 refine sv 7 (.slice ap aq ar) ?_
 refine sv 8 (.slice ac au aa) (za0 (bl _ _ ?_))
 refine wp_seq_k (fun br bg=>?_)
 have ae:=Gr.drew bj
 replace hB:=hB.trans ae
 replace L2:=L2.gr (aN.trans ae)
 replace L3:=L3.gr (aN.trans ae)
 refine za4 (fun w'=>Lc w' b2 #[.bool true,.slice ao la ca] 60∧Lc w' b3 #[.bool false,.slice bo lb cb] 60) [(true,0),(true,1),(true,2),(true,3),(true,4),(true,5),(true,7),(true,8),(true,9),(false,6),(false,10),(false,11),(false,12)] (by kernel_rfl) (by kernel_rfl) (by kernel_rfl) (by decide) (fun _ _ _ _ _ h=>h) ⟨L2,L3⟩ ?_
 refine ov 22 (pT b2 0) ?_
 refine ow 23 (.bool true) rfl (fun w' hS=>(rk 4 0 hS.1)) ?_
 refine ov 24 (pT b3 0) ?_
 refine ow 25 (.bool false) rfl (fun w' hS=>(rk 4 0 hS.2)) ?_
 refine ov 26 (.bool true) ?_
 refine ov 27 (.slice ap aq ar) ?_
 refine ov 29 (pT b2 0) ?_
 refine ow 30 (.bool true) rfl (fun w' hS=>(rk 4 0 hS.1)) ?_
 refine ov 31 (.slice ac au aa) ?_
 refine oe ?_
 replace aI:=aI.kp ae.kp
 refine ec 28 (zu3 (neg:=true) (Z:=(-(a/b))) aI (by omega) (fun _=>by simp;omega) hZ (by omega)) ?_
 rintro bI bL ⟨⟨aK,aL,rfl,aS⟩,aC⟩
 refine ⟨_,rfl,?_⟩
 replace hB:=hB.trans aC
 replace L2:=L2.gr aC
 replace L3:=L3.gr aC
 refine ⟨⟨L2,L3⟩,?_⟩
 simp only [p3,p4]
 refine oe ?_
 have a2:=ae.kp.trans aC.kp
 replace aD:=aD.kp a2
 refine ec 32 (zW3 aD hR (Sz.of_le hu.sz (by omega)) (by omega)) ?_
 rintro bA bF ⟨⟨ax,rfl,aO⟩,aG⟩
 refine ⟨_,rfl,?_⟩
 replace hB:=hB.trans aG
 replace L2:=L2.gr aG
 replace L3:=L3.gr aG
 refine ⟨⟨L2,L3⟩,?_⟩
 simp only [p3,p4]
 refine oe ?_
 replace L4:=L4.gr (g5.trans (g8.trans (aN.trans (ae.trans (aC.trans aG)))))
 refine es 60 0 (.agg #[aK,aL]) [aK,aL] #[aK,aL] L4 hB q4 ⟨aS.one0,aS.one1,trivial⟩ fun bt aH aF L4 hB=>?_
 replace L2:=aH.lc L2 aW
 replace L3:=aH.lc L3 aw
 refine ⟨⟨L2,L3⟩,?_⟩
 refine oe ?_
 replace L5:=aH.lc (L5.gr (g8.trans (aN.trans (ae.trans (aC.trans aG))))) (Ne.symm ad)
 refine es 60 0 (.agg #[.bool true,.slice ac ax aa]) [.bool true,.slice ac ax aa] #[.bool true,.slice ac ax aa] L5 hB q5 ⟨rfl,rfl,trivial⟩ fun bp aA aB L5 hB=>?_
 replace L2:=aA.lc L2 aY
 replace L3:=aA.lc L3 av
 refine ⟨⟨L2,L3⟩,?_⟩
 refine zb4 ?_
 refine bg _ _ ?_
 refine wp_seq_k (fun bs bb=>wp_seq_k (fun bw bf=>rg [0,1,2,3,4,5,6,7,8,9] ?_))
 refine sw 33 (.agg #[.bool true,.slice ac ax aa]) rfl (rl 60 0 [.bool true,.slice ac ax aa] L5) ?_
 refine se ?_
 have a0:=aF.trans aB
 replace aO:=aO.kp a0
 refine ec 34 (sign_neg aO (by omega)) ?_
 rintro bN bi ⟨rfl,ay⟩
 refine ⟨_,rfl,?_⟩
 replace hB:=hB.trans ay
 simp only [p3,p4]
 refine sv 35 (.bool true) ?_
 refine sv 36 (.bool true) ?_
 refine sv 37 (pT b5 0) ?_
 replace L5:=L5.gr ay
 refine sw 38 (.bool true) rfl (rk 4 0 L5) ?_
 refine sv 39 (pT b3 0) ?_
 replace L3:=L3.gr ay
 refine sw 40 (.bool false) rfl (rk 4 0 L3) ?_
 refine sv 41 (.bool true) ?_
 refine sv 42 (.bool true) (za0 (bf _ _ ?_))
 refine wp_cond_true rfl ?_
 have af:=Gr.drew bi
 replace hB:=hB.trans af
 replace L3:=L3.gr af
 replace L4:=(aA.lc L4 ad).gr (ay.trans af)
 replace L5:=L5.gr af
 refine zd7 (fun w'=>Lc w' b3 #[.bool false,.slice bo lb cb] 60) [([6],(fun w'=>Lc w' b4 #[aK,aL] 60)),([7],(fun w'=>Lc w' b5 #[.bool true,.slice ac ax aa] 60))] [(true,0),(true,3),(true,4),(false,1),(false,2),(false,5),(false,6),(false,7)] (by kernel_rfl) (by kernel_rfl) (by kernel_rfl) (by decide) (fun _ _ _ _ _ h=>h) L3 ⟨fun _=>L4,fun _=>L5,trivial⟩ ?_
 refine tw 43 (.agg #[aK,aL]) rfl (fun w' hS=>(rl 60 0 [aK,aL] (hS.2.1 (by kernel_rfl)))) ?_
 refine tw 46 (.agg #[.bool true,.slice ac ax aa]) rfl (fun w' hS=>(rl 60 0 [.bool true,.slice ac ax aa] (hS.2.2.1 (by kernel_rfl)))) ?_
 refine tw 47 (.agg #[.bool false,.slice bo lb cb]) rfl (fun w' hS=>(rl 60 0 [.bool false,.slice bo lb cb] hS.1)) ?_
 refine te ?_
 refine ec 44 (zW4 (1) (by omega) (by omega) _) ?_
 rintro bM bG ⟨⟨bD,bE,rfl,bk⟩,aE⟩
 refine ⟨_,rfl,?_⟩
 replace hB:=hB.trans aE
 replace L3:=L3.gr aE
 replace L4:=L4.gr aE
 replace L5:=L5.gr aE
 refine ⟨L3,⟨fun _=>L4,fun _=>L5,trivial⟩,?_⟩
 simp only [p3,p4]
 refine te ?_
 have a3:=aG.kp.trans (aF.trans (aB.trans (ay.kp.trans (af.kp.trans aE.kp))))
 replace aS:=aS.kp a3
 refine ec 45 (sub_i aS bk (by omega)) ?_
 rintro bu bJ ⟨⟨al,ai,rfl,az⟩,aM⟩
 refine ⟨_,rfl,?_⟩
 replace hB:=hB.trans aM
 replace L3:=L3.gr aM
 replace L4:=L4.gr aM
 replace L5:=L5.gr aM
 refine ⟨L3,⟨fun _=>L4,fun _=>L5,trivial⟩,?_⟩
 simp only [p3,p4]
 refine te ?_
 have a4:=ay.kp.trans (af.kp.trans (aE.kp.trans aM.kp))
 replace aO:=aO.kp a4
 have a8:=g8.kp.trans (aN.kp.trans (ae.kp.trans (aC.kp.trans (aG.kp.trans (aF.trans (aB.trans (ay.kp.trans (af.kp.trans (aE.kp.trans aM.kp)))))))))
 replace hu:=hu.kp a8
 refine ec 48 (add_i aO hu (by omega)) ?_
 rintro bq bn ⟨⟨aj,ak,rfl,aJ⟩,aX⟩
 refine ⟨_,rfl,?_⟩
 replace hB:=hB.trans aX
 replace L3:=L3.gr aX
 replace L4:=L4.gr aX
 replace L5:=L5.gr aX
 refine ⟨L3,⟨fun _=>L4,fun _=>L5,trivial⟩,?_⟩
 simp only [p3,p4]
 refine te ?_
 refine es 60 0 (.agg #[al,ai]) [al,ai] #[al,ai] L4 hB q4 ⟨az.one0,az.one1,trivial⟩ fun bm aT aR L4 hB=>?_
 replace L3:=aT.lc L3 aw
 replace L5:=aT.lc L5 (Ne.symm ad)
 refine ⟨L3,⟨zh7 (by kernel_rfl),fun _=>L5,trivial⟩,?_⟩
 refine te ?_
 refine es 60 0 (.agg #[aj,ak]) [aj,ak] #[aj,ak] L5 hB q5 ⟨aJ.one0,aJ.one1,trivial⟩ fun a9 aU aQ L5 hB=>?_
 replace L3:=aU.lc L3 av
 refine ⟨L3,⟨zh7 (by kernel_rfl),zh7 (by kernel_rfl),trivial⟩,?_⟩
 refine zi0 ?_
 refine bb _ _ ?_
 refine wp_seq_k (fun bH ba=>?_)
 have ah:=Gr.drew a9
 replace hB:=hB.trans ah
 replace L4:=(aU.lc L4 ad).gr ah
 replace L5:=L5.gr ah
 refine zd7 (fun _=>True) [([2],(fun w'=>Lc w' b4 #[al,ai] 60)),([3],(fun w'=>Lc w' b5 #[aj,ak] 60))] [(true,0),(true,1),(false,2),(false,3),(true,4)] (by kernel_rfl) (by kernel_rfl) (by kernel_rfl) (by decide) (fun _ _ _ _ _ h=>h) trivial ⟨fun _=>L4,fun _=>L5,trivial⟩ ?_
 refine tw 49 (.agg #[al,ai]) rfl (fun w' hS=>(rl 60 0 [al,ai] (hS.2.1 (by kernel_rfl)))) ?_
 refine tw 50 (.agg #[aj,ak]) rfl (fun w' hS=>(rl 60 0 [aj,ak] (hS.2.2.1 (by kernel_rfl)))) ?_
 refine te ?_
 refine es 60 0 (.agg #[al,ai]) [al,ai] #[al,ai] L4 hB q4 ⟨az.one0,az.one1,trivial⟩ fun bv a1 aP L4 hB=>?_
 replace L5:=a1.lc L5 (Ne.symm ad)
 refine ⟨trivial,⟨zh7 (by kernel_rfl),fun _=>L5,trivial⟩,?_⟩
 refine te ?_
 refine es 60 0 (.agg #[aj,ak]) [aj,ak] #[aj,ak] L5 hB q5 ⟨aJ.one0,aJ.one1,trivial⟩ fun bK a7 aZ L5 hB=>?_
 refine ⟨trivial,⟨zh7 (by kernel_rfl),zh7 (by kernel_rfl),trivial⟩,?_⟩
 refine tv 6 (iT 0) ?_
 refine zi0 ?_
 refine ba _ _ ?_
 refine wp_ret ?_
 replace L4:=a7.lc L4 ad
 refine bodyPost_ret (v:=(.tuple #[.agg #[al,ai],.agg #[aj,ak],iT 0])) (zj1 _ _ _ _ _ _ rfl rfl rfl L4 (by kernel_rfl) L5 (by kernel_rfl) rfl) rfl ⟨?_,hB⟩
 have a6:=aX.kp.trans (aR.trans (aQ.trans (ah.kp.trans (aP.trans aZ))))
 replace az:=az.kp a6
 have a5:=aR.trans (aQ.trans (ah.kp.trans (aP.trans aZ)))
 replace aJ:=aJ.kp a5
 exact ⟨_,_,_,_,rfl,az,aJ⟩

theorem zA8 (w:World):
    Calls Tryz.prog 86 #[] w fun e w'=>(∃ x' y',e=.returned (.agg #[x',y'])∧IsInt w' 64 x' y' (1))∧Gr w w':=by
 go_enter Tryz.func86,Tryz.ntmps86
 have hB:=Gr.refl w
 refine wp_seq_k (fun K1 k1=>rg [0] ?_)
 refine se ?_
 refine ea 60 #[.bool false,sN] 0 hB fun b2 w2 g2 L2 o2 q2 hB=>?_
 simp only [p3]
 refine za0 (k1 _ _ ?_)
 refine wp_seq_k (fun K3 k3=>rg [0,1] ?_)
 refine se ?_
 refine ec 1 (zW4 (1) (by omega) (by omega) _) ?_
 rintro e4 w4 ⟨⟨x4,y4,rfl,h4⟩,g4⟩
 refine ⟨_,rfl,?_⟩
 replace hB:=hB.trans g4
 simp only [p3,p4]
 refine se ?_
 replace L2:=L2.gr g4
 refine es 60 0 (.agg #[x4,y4]) [x4,y4] #[x4,y4] L2 hB q2 ⟨h4.one0,h4.one1,trivial⟩ fun w5 ac aa L2 hB=>?_
 refine za0 (k3 _ _ ?_)
 refine wp_ret ?_
 refine bodyPost_ret (v:=(.agg #[x4,y4])) (zc8 _ _ _ rfl rfl L2 (by kernel_rfl)) rfl ⟨?_,hB⟩
 replace h4:=h4.kp aa
 exact ⟨_,_,rfl,h4⟩

end Go.Proofs.YtjhflekncldflaaGreatDoor
namespace Go.Proofs.YtjhflekncldflaaGreatDoor
open Go.RowKit

theorem zN3 {k m:Nat} {x y x2 y2:Value} {z u:Int} {w:World} (hz:IsInt w k x y z) (hu:IsInt w m x2 y2 u) (aa:0<u) (hkm:k+k+m+m+66≤1000000):
  Calls Tryz.prog 129 #[.agg #[x,y],.agg #[x2,y2]] w fun e w'=>(∃ x' y' x3 y3,e=.returned (.tuple #[.agg #[x',y'],.agg #[x3,y3],.int .i64 0])∧IsInt w' k x' y' (z/u)∧IsInt w' m x3 y3 (z % u))∧Gr w w':=by
 have hu':=hu
 obtain ⟨ao,la,ca,rfl,rfl,ha,hs⟩:=hz
 obtain ⟨bo,lb,cb,rfl,rfl,hb,ht⟩:=hu
 have hla:=ha.nl.len_sz hs.nat
 have hlb:=hb.nl.len_sz ht.nat
 have e0:((u.natAbs:Nat):Int)=u:=by omega
 have e1:decide (u<0)=false:=by simp;omega
 rw [e1] at hu' ⊢
 rw [e0] at hb
 have hM:=Int.emod_nonneg (z.natAbs:Int) (b:=u) (by omega)
 have hL:=Int.emod_lt_of_pos (z.natAbs:Int) aa
 have hQ:0≤(z.natAbs:Int)/u:=Int.ediv_nonneg (by omega) (by omega)
 have hD:=Int.mul_ediv_add_emod (z.natAbs:Int) u
 have hqle:(z.natAbs:Int)/u≤(z.natAbs:Int):=Int.ediv_le_self _ (by omega)
 have hkk:Sz k (z/u):=by
  refine hs.of_le ?_
  rcases Int.lt_or_le z 0 with h | h
  ·have h1:z≤z/u:=by
    rw [Int.le_ediv_iff_mul_le aa]
    have:z*u≤z*1:=Int.mul_le_mul_of_nonpos_left (by omega) (by omega)
    omega
   have h2:z/u<0:=Int.ediv_neg_of_neg_of_pos h aa
   omega
  have h1:z/u≤z:=Int.ediv_le_self _ h
  have h2:0≤z/u:=Int.ediv_nonneg h (by omega)
  omega
 have hmm:Sz m (z % u):=by
  refine ht.of_le ?_
  have:=Int.emod_nonneg z (b:=u) (by omega)
  have:=Int.emod_lt_of_pos z aa
  omega
 -- z in terms of its magnitude
 have key:∀ q r:Int,z=u*q+r→0≤r→r<u→z/u=q∧z % u=r:=fun q r h h0 h1=>by
  rw [Int.ediv_emod_unique aa]
  exact ⟨by omega,h0,h1⟩
 by_cases h0:(z.natAbs:Int) % u=0
 ·have hk:=key (if z<0 then -((z.natAbs:Int)/u) else (z.natAbs:Int)/u) 0 (by
   split
   ·rw [Int.mul_neg];omega
   omega) (by omega) aa
  refine (divmod_0 (Z:=z/u) (K:=k) ha hb hu' (by omega) (by omega) aa h0 ?_ (fun hp=>?_) hkk (by omega) (by omega)).mono ?_
  ·rw [hk.1];split<;>omega
  ·rw [hk.1]
   by_cases hz0:z<0
   ·simp [hz0];omega
   simp [hz0];omega
  rintro e w1 ⟨⟨x',y',x3,y3,he,h1,h2⟩,g⟩
  exact ⟨⟨x',y',x3,y3,he,h1,by rw [hk.2];exact h2⟩,g⟩
 by_cases hz0:z<0
 ·have e2:decide (z<0)=true:=by simpa using hz0
  rw [e2]
  have hk:=key (-((z.natAbs:Int)/u) - 1) (-((z.natAbs:Int) % u)+u) (by
   rw [Int.mul_sub,Int.mul_neg];omega) (by omega) (by omega)
  refine (divmod_t (K:=k) ha hb hu' (by omega) (by omega) aa (by omega) hL hQ (hs.of_le (by omega)) (by omega) (by omega)).mono ?_
  rintro e w1 ⟨⟨x',y',x3,y3,he,h1,h2⟩,g⟩
  rw [← hk.1] at h1
  rw [← hk.2] at h2
  exact ⟨⟨x',y',x3,y3,he,h1.resz hkk,h2.resz hmm⟩,g⟩
 have e2:decide (z<0)=false:=by simpa using hz0
 rw [e2]
 have ez:(z.natAbs:Int)=z:=by omega
 refine (divmod_f (K:=k) ha hb hu' (by omega) (by omega) aa (by omega) hL hQ (by rw [ez];exact hkk) (by omega) (by omega)).mono ?_
 rintro e w1 ⟨⟨x',y',x3,y3,he,h1,h2⟩,g⟩
 rw [ez] at h1 h2
 exact ⟨⟨x',y',x3,y3,he,h1,h2⟩,g⟩

theorem zf1 {k m:Nat} {x y x2 y2:Value} {z u:Int} {w:World} (hz:IsInt w k x y z) (hu:IsInt w m x2 y2 u) (hk:k≤1000000) (hm:m≤1000000):
  Calls Tryz.prog 85 #[.agg #[x,y],.agg #[x2,y2]] w fun e w'=>e=.returned (.int .i64 (sgn (z - u)))∧Gr w w':=by
 obtain ⟨ao,la,ca,rfl,rfl,ha,hs⟩:=hz
 obtain ⟨bo,lb,cb,rfl,rfl,hb,ht⟩:=hu
 have hla:=ha.nl.len_sz hs.nat
 have hlb:=hb.nl.len_sz ht.nat
 by_cases h1:z<0<;>by_cases h2:u<0
 ·have d1:decide (z<0)=true:=by simpa using h1
  have d2:decide (u<0)=true:=by simpa using h2
  rw [d1,d2]
  have e:z - u=(u.natAbs:Int) - (z.natAbs:Int):=by omega
  rw [e];exact cmp_tt ha hb (by omega) (by omega)
 ·have d1:decide (z<0)=true:=by simpa using h1
  have d2:decide (u<0)=false:=by simpa using h2
  rw [d1,d2,zo6 (by omega)];exact cmp_tf ha hb (by omega) (by omega)
 ·have d1:decide (z<0)=false:=by simpa using h1
  have d2:decide (u<0)=true:=by simpa using h2
  rw [d1,d2,zw2 (by omega)];exact cmp_ft ha hb (by omega) (by omega)
 have d1:decide (z<0)=false:=by simpa using h1
 have d2:decide (u<0)=false:=by simpa using h2
 rw [d1,d2]
 have e:z - u=(z.natAbs:Int) - (u.natAbs:Int):=by omega
 rw [e];exact cmp_ff ha hb (by omega) (by omega)

structure IsRat (w:World) (k:Nat) (c0 c1 c2 c3:Value) (q:Rat):Prop where
 num:IsInt w k c0 c1 q.num
 den:∃ D,IsInt w k c2 c3 D∧(D=(q.den:Int)∨D=0∧q.den=1)
 big:64≤k
theorem IsRat.kp {w w':World} {k:Nat} {c0 c1 c2 c3:Value} {q:Rat} (h:IsRat w k c0 c1 c2 c3 q) (hb:Kp w w'):IsRat w' k c0 c1 c2 c3 q:=by
 obtain ⟨h1,⟨D,h2,h3⟩,h4⟩:=h
 exact ⟨h1.kp hb,⟨D,h2.kp hb,h3⟩,h4⟩
theorem IsRat.gr {w w':World} {k:Nat} {c0 c1 c2 c3:Value} {q:Rat} (h:IsRat w k c0 c1 c2 c3 q) (hb:Gr w w'):IsRat w' k c0 c1 c2 c3 q:=h.kp hb.kp
theorem IsRat.one0 {w:World} {k:Nat} {c0 c1 c2 c3:Value} {q:Rat} (h:IsRat w k c0 c1 c2 c3 q):c0.oneCell'=true:=h.num.one0
theorem IsRat.one1 {w:World} {k:Nat} {c0 c1 c2 c3:Value} {q:Rat} (h:IsRat w k c0 c1 c2 c3 q):c1.oneCell'=true:=h.num.one1
theorem IsRat.one2 {w:World} {k:Nat} {c0 c1 c2 c3:Value} {q:Rat} (h:IsRat w k c0 c1 c2 c3 q):c2.oneCell'=true:=by
 obtain ⟨D,h2,_⟩:=h.den;exact h2.one0
theorem IsRat.one3 {w:World} {k:Nat} {c0 c1 c2 c3:Value} {q:Rat} (h:IsRat w k c0 c1 c2 c3 q):c3.oneCell'=true:=by
 obtain ⟨D,h2,_⟩:=h.den;exact h2.one1
theorem IsRat.mono {w:World} {k m:Nat} {c0 c1 c2 c3:Value} {q:Rat} (h:IsRat w k c0 c1 c2 c3 q) (hk:k≤m):IsRat w m c0 c1 c2 c3 q:=by
 obtain ⟨h1,⟨D,h2,h3⟩,h4⟩:=h
 exact ⟨h1.mono hk,⟨D,h2.mono hk,h3⟩,Nat.le_trans h4 hk⟩
theorem IsRat.zero (w:World) {k:Nat} (hk:64≤k):IsRat w k (.bool false) (.slice none 0 0) (.bool false) (.slice none 0 0) 0:=
 ⟨IsInt.zero w k,⟨0,IsInt.zero w k,.inr ⟨rfl,rfl⟩⟩,hk⟩
theorem IsRat.int {w:World} {k:Nat} {c0 c1:Value} {z:Int} (h:IsInt w k c0 c1 z) (hk:64≤k):IsRat w k c0 c1 (.bool false) (.slice none 0 0) (z:Rat):=
 ⟨h,⟨0,IsInt.zero w k,.inr ⟨rfl,rfl⟩⟩,hk⟩
end Go.Proofs.YtjhflekncldflaaGreatDoor
namespace Go.Proofs.YtjhflekncldflaaGreatDoor
set_option maxRecDepth 100000
set_option maxHeartbeats 1000000
open Go.RowKit

theorem whole_z {k:Nat} {c0 c1 c2 c3:Value} {w:World} (hd:IsInt w k c2 c3 0):
    Calls Tryz.prog 61 #[.agg #[c0,c1,c2,c3]] w fun e w'=>e=.returned (.bool true)∧Gr w w':=by
 go_enter Tryz.func61,Tryz.ntmps61
 have hB:=Gr.refl w
 refine wp_seq_k (fun K1 k1=>rg [0,1] ?_)
 refine se ?_
 refine eb 62 #[c0,c1,c2,c3] 1 hB fun b2 w2 g2 L2 o2 q2 hB=>?_
 simp only [p3,p4]
 refine sv 2 (.bool false) (za0 (k1 _ _ ?_))
 refine wp_seq_k (fun K3 k3=>?_)
 have ac:=Gr.drew w2
 replace hB:=hB.trans ac
 replace L2:=L2.gr ac
 refine za4 (fun w'=>Lc w' b2 #[c0,c1,c2,c3] 62) [(true,0),(true,1),(false,2),(true,3),(true,4),(true,5),(true,6),(false,7),(false,8),(true,9),(true,10),(true,11)] (by kernel_rfl) (by kernel_rfl) (by kernel_rfl) (by decide) (fun _ _ _ _ _ h=>h) L2 ?_
 refine ov 3 (pT b2 2) ?_
 refine ow 4 (.agg #[c2,c3]) rfl (fun w' hS=>(rl 60 2 [c2,c3] hS)) ?_
 refine oe ?_
 have aa:=g2.kp.trans ac.kp
 replace hd:=hd.kp aa
 refine ec 5 (zw3 hd) ?_
 rintro ae af ⟨rfl,ad⟩
 refine ⟨_,rfl,?_⟩
 replace hB:=hB.trans ad
 replace L2:=L2.gr ad
 refine ⟨L2,?_⟩
 simp only [p3,p4]
 refine ov 6 (.bool true) ?_
 refine ov 7 (.bool true) ?_
 refine os 8 ?_
 refine os 9 ?_
 refine oz 10 L2 ?_
 refine oz 11 L2 ?_
 refine os 12 ?_
 refine ov 13 (.bool true) ?_
 refine ov 2 (.bool true) ?_
 refine zb4 ?_
 refine k3 _ _ ?_
 refine wp_ret ?_
 refine bodyPost_ret (v:=(.bool true)) (za3 rfl rfl) rfl ⟨?_,hB⟩
 exact rfl

theorem whole_p {k:Nat} {c0 c1 c2 c3:Value} {D:Int} {w:World} (hd:IsInt w k c2 c3 D) (_h0:0<D) (_hk:k≤1000000):
    Calls Tryz.prog 61 #[.agg #[c0,c1,c2,c3]] w fun e w'=>e=.returned (.bool (sgn (D - 1)==0))∧Gr w w':=by
 go_enter Tryz.func61,Tryz.ntmps61
 have hB:=Gr.refl w
 refine wp_seq_k (fun K1 k1=>rg [0,1] ?_)
 refine se ?_
 refine eb 62 #[c0,c1,c2,c3] 1 hB fun b2 w2 g2 L2 o2 q2 hB=>?_
 simp only [p3,p4]
 refine sv 2 (.bool false) (za0 (k1 _ _ ?_))
 refine wp_seq_k (fun K3 k3=>?_)
 have aa:=Gr.drew w2
 replace hB:=hB.trans aa
 replace L2:=L2.gr aa
 refine za4 (fun w'=>Lc w' b2 #[c0,c1,c2,c3] 62) [(true,0),(true,1),(false,2),(true,3),(true,4),(true,5),(true,6),(false,7),(false,8),(true,9),(true,10),(true,11)] (by kernel_rfl) (by kernel_rfl) (by kernel_rfl) (by decide) (fun _ _ _ _ _ h=>h) L2 ?_
 refine ov 3 (pT b2 2) ?_
 refine ow 4 (.agg #[c2,c3]) rfl (fun w' hS=>(rl 60 2 [c2,c3] hS)) ?_
 refine oe ?_
 have ad:=g2.kp.trans aa.kp
 replace hd:=hd.kp ad
 refine ec 5 (zi8 hd (by omega)) ?_
 rintro ap ar ⟨rfl,ae⟩
 refine ⟨_,rfl,?_⟩
 replace hB:=hB.trans ae
 replace L2:=L2.gr ae
 refine ⟨L2,?_⟩
 simp only [p3,p4]
 refine ov 6 (.bool false) ?_
 refine ov 7 (.bool false) ?_
 refine ov 8 (pT b2 2) ?_
 refine ow 9 (.agg #[c2,c3]) rfl (fun w' hS=>(rl 60 2 [c2,c3] hS)) ?_
 refine oe ?_
 refine ec 10 (zA8 _) ?_
 rintro ak aj ⟨⟨av,aq,rfl,ai⟩,ac⟩
 refine ⟨_,rfl,?_⟩
 replace hB:=hB.trans ac
 replace L2:=L2.gr ac
 refine ⟨L2,?_⟩
 simp only [p3,p4]
 refine oe ?_
 have af:=ae.kp.trans ac.kp
 replace hd:=hd.kp af
 refine ec 11 (zf1 hd ai (by omega) (by omega)) ?_
 rintro al au ⟨rfl,ah⟩
 refine ⟨_,rfl,?_⟩
 replace hB:=hB.trans ah
 replace L2:=L2.gr ah
 refine ⟨L2,?_⟩
 simp only [p3,p4]
 refine ov 12 (.bool (sgn (D - 1)==(0:Int))) ?_
 refine ov 13 (.bool (sgn (D - 1)==(0:Int))) ?_
 refine ov 2 (.bool (sgn (D - 1)==(0:Int))) ?_
 refine zb4 ?_
 refine k3 _ _ ?_
 refine wp_ret ?_
 refine bodyPost_ret (v:=(.bool (sgn (D - 1)==(0:Int)))) (za3 rfl rfl) rfl ⟨?_,hB⟩
 exact rfl

theorem den_z {k:Nat} {c0 c1 c2 c3:Value} {w:World} (hd:IsInt w k c2 c3 0):
    Calls Tryz.prog 94 #[.agg #[c0,c1,c2,c3]] w fun e w'=>(∃ x' y',e=.returned (.agg #[x',y'])∧IsInt w' 64 x' y' (1))∧Gr w w':=by
 go_enter Tryz.func94,Tryz.ntmps94
 have hB:=Gr.refl w
 refine wp_seq_k (fun K1 k1=>rg [0,1] ?_)
 refine se ?_
 refine eb 62 #[c0,c1,c2,c3] 1 hB fun b2 w2 g2 L2 o2 q2 hB=>?_
 simp only [p3,p4]
 refine se ?_
 refine ea 60 #[.bool false,sN] 2 hB fun b3 w3 g3 L3 o3 q3 hB=>?_
 simp only [p3,p4]
 refine za0 (k1 _ _ ?_)
 refine wp_seq_k (fun K4 k4=>wp_seq_k (fun K5 k5=>rg [0,1,2,3] (sv 3 (pT b2 2) ?_)))
 replace L2:=L2.gr g3
 refine sw 4 (.agg #[c2,c3]) rfl (rl 60 2 [c2,c3] L2) ?_
 refine se ?_
 have ac:=g2.kp.trans g3.kp
 replace hd:=hd.kp ac
 refine ec 5 (zw3 hd) ?_
 rintro e6 w6 ⟨rfl,g6⟩
 refine ⟨_,rfl,?_⟩
 replace hB:=hB.trans g6
 simp only [p3,p4]
 refine sv 6 (.bool true) (za0 (k5 _ _ ?_))
 refine wp_cond_true rfl ?_
 refine wp_seq_k (fun K8 k8=>rg [0,1] ?_)
 refine se ?_
 refine ec 7 (zA8 _) ?_
 rintro e9 w9 ⟨⟨x9,y9,rfl,h9⟩,g9⟩
 refine ⟨_,rfl,?_⟩
 replace hB:=hB.trans g9
 simp only [p3,p4]
 refine se ?_
 replace L3:=L3.gr (g6.trans g9)
 refine es 60 0 (.agg #[x9,y9]) [x9,y9] #[x9,y9] L3 hB q3 ⟨h9.one0,h9.one1,trivial⟩ fun ae ad aa L3 hB=>?_
 refine za0 (k8 _ _ ?_)
 refine wp_ret ?_
 simp only [Exit.then]
 refine bodyPost_ret (v:=(.agg #[x9,y9])) (zc8 _ _ _ rfl rfl L3 (by kernel_rfl)) rfl ⟨?_,hB⟩
 replace h9:=h9.kp aa
 exact ⟨_,_,rfl,h9⟩

theorem den_p {k:Nat} {c0 c1 c2 c3:Value} {D:Int} {w:World} (hd:IsInt w k c2 c3 D) (_h0:0<D):
    Calls Tryz.prog 94 #[.agg #[c0,c1,c2,c3]] w fun e w'=>(∃ x' y',e=.returned (.agg #[x',y'])∧IsInt w' k x' y' (D))∧Gr w w':=by
 go_enter Tryz.func94,Tryz.ntmps94
 have hB:=Gr.refl w
 refine wp_seq_k (fun K1 k1=>rg [0,1] ?_)
 refine se ?_
 refine eb 62 #[c0,c1,c2,c3] 1 hB fun b2 w2 g2 L2 o2 q2 hB=>?_
 simp only [p3,p4]
 refine se ?_
 refine ea 60 #[.bool false,sN] 2 hB fun b3 w3 g3 L3 o3 q3 hB=>?_
 simp only [p3,p4]
 refine za0 (k1 _ _ ?_)
 refine wp_seq_k (fun K4 k4=>wp_seq_k (fun K5 k5=>rg [0,1,2,3] (sv 3 (pT b2 2) ?_)))
 replace L2:=L2.gr g3
 refine sw 4 (.agg #[c2,c3]) rfl (rl 60 2 [c2,c3] L2) ?_
 refine se ?_
 have ad:=g2.kp.trans g3.kp
 replace hd:=hd.kp ad
 refine ec 5 (zi8 hd (by omega)) ?_
 rintro e6 w6 ⟨rfl,g6⟩
 refine ⟨_,rfl,?_⟩
 replace hB:=hB.trans g6
 simp only [p3,p4]
 refine sv 6 (.bool false) (za0 (k5 _ _ ?_))
 refine wp_cond_false rfl ?_
 refine wp_skip ?_
 refine k4 _ _ ?_
 refine wp_seq_k (fun K8 k8=>rg [0,1,2] (sv 8 (pT b2 2) ?_))
 replace L2:=L2.gr g6
 refine sw 9 (.agg #[c2,c3]) rfl (rl 60 2 [c2,c3] L2) ?_
 refine se ?_
 replace L3:=L3.gr g6
 refine es 60 0 (.agg #[c2,c3]) [c2,c3] #[c2,c3] L3 hB q3 ⟨hd.one0,hd.one1,trivial⟩ fun w9 ae ac L3 hB=>?_
 refine za0 (k8 _ _ ?_)
 refine wp_ret ?_
 refine bodyPost_ret (v:=(.agg #[c2,c3])) (zc8 _ _ _ rfl rfl L3 (by kernel_rfl)) rfl ⟨?_,hB⟩
 have aa:=g6.kp.trans ac
 replace hd:=hd.kp aa
 exact ⟨_,_,rfl,hd⟩

theorem zQ8 {k:Nat} {n0 n1 d0 d1:Value} {N D:Int} {w:World} (hn:IsInt w k n0 n1 N) (hd:IsInt w k d0 d1 D) (_hk:k+k+k+k+k+k+66≤1000000) (_h0:0<D) (hg:(sgn ((Int.gcd (N) (D):Int) - 1) !=0)=false):
    Calls Tryz.prog 103 #[.agg #[n0,n1],.agg #[d0,d1]] w fun e w'=>(∃ x y x2 y2,e=.returned (.agg #[x,y,x2,y2])∧IsInt w' k x y (N)∧IsInt w' k x2 y2 (D))∧Gr w w':=by
 go_enter Tryz.func103,Tryz.ntmps103
 have hB:=Gr.refl w
 refine wp_seq_k (fun K1 k1=>rg [0,1,2] ?_)
 refine se ?_
 refine eb 60 #[n0,n1] 2 hB fun b2 w2 g2 L2 o2 q2 hB=>?_
 simp only [p3,p4]
 refine se ?_
 refine eb 60 #[d0,d1] 3 hB fun b3 w3 g3 L3 o3 q3 hB=>?_
 simp only [p3,p4]
 refine se ?_
 refine ea 62 #[.bool false,sN,.bool false,sN] 4 hB fun b4 w4 g4 L4 o4 q4 hB=>?_
 replace L2:=L2.gr g3
 simp only [p3,p4]
 refine za0 (k1 _ _ ?_)
 refine wp_seq_k (fun K5 k5=>wp_seq_k (fun K6 k6=>rg [0,1,2] ?_))
 replace L3:=L3.gr g4
 refine sw 6 (.agg #[d0,d1]) rfl (rl 60 0 [d0,d1] L3) ?_
 refine se ?_
 have aG:=g2.kp.trans (g3.kp.trans g4.kp)
 replace hd:=hd.kp aG
 refine ec 7 (zi8 hd (by omega)) ?_
 rintro e7 w7 ⟨rfl,g7⟩
 refine ⟨_,rfl,?_⟩
 replace hB:=hB.trans g7
 simp only [p3,p4]
 refine sv 8 (.bool false) (za0 (k6 _ _ ?_))
 refine wp_cond_false rfl ?_
 refine wp_skip ?_
 refine k5 _ _ ?_
 refine wp_seq_k (fun K9 k9=>rg [0,1,2,3,4] ?_)
 replace L2:=L2.gr (g4.trans g7)
 refine sw 13 (.agg #[n0,n1]) rfl (rl 60 0 [n0,n1] L2) ?_
 replace L3:=L3.gr g7
 refine sw 14 (.agg #[d0,d1]) rfl (rl 60 0 [d0,d1] L3) ?_
 refine se ?_
 have ax:=g2.kp.trans (g3.kp.trans (g4.kp.trans g7.kp))
 replace hn:=hn.kp ax
 replace hd:=hd.kp g7.kp
 refine ec 15 (gcd_i hn hd (by omega)) ?_
 rintro aQ aR ⟨⟨aj,ak,rfl,aq⟩,ap⟩
 refine ⟨_,rfl,?_⟩
 replace hB:=hB.trans ap
 simp only [p3,p4]
 refine se ?_
 refine ea 60 #[.bool false,sN] 5 hB fun aF aS au ac aw aA hB=>?_
 replace L2:=L2.gr ap
 have ae:=L2.ne aw
 replace L3:=L3.gr ap
 have af:=L3.ne aw
 replace L4:=L4.gr (g7.trans ap)
 have ad:=L4.ne aw
 simp only [p3,p4]
 refine se ?_
 refine es 60 0 (.agg #[aj,ak]) [aj,ak] #[aj,ak] ac hB aA ⟨aq.one0,aq.one1,trivial⟩ fun aE ai ar ac hB=>?_
 refine za0 (k9 _ _ ?_)
 refine wp_seq_k (fun aM aC=>wp_seq_k (fun aJ aB=>?_))
 have aa:=Gr.drew aE
 replace hB:=hB.trans aa
 replace ac:=ac.gr aa
 refine za4 (fun w'=>Lc w' aF #[aj,ak] 60) [(true,0),(false,1),(false,2),(true,3)] (by kernel_rfl) (by kernel_rfl) (by kernel_rfl) (by decide) (fun _ _ _ _ _ h=>h) ac ?_
 refine ow 16 (.agg #[aj,ak]) rfl (fun w' hS=>(rl 60 0 [aj,ak] hS)) ?_
 refine oe ?_
 refine ec 17 (zA8 _) ?_
 rintro aV aL ⟨⟨aU,aK,rfl,aI⟩,ah⟩
 refine ⟨_,rfl,?_⟩
 replace hB:=hB.trans ah
 replace ac:=ac.gr ah
 refine ⟨ac,?_⟩
 simp only [p3,p4]
 refine oe ?_
 have ay:=au.kp.trans (ar.trans (aa.kp.trans ah.kp))
 replace aq:=aq.kp ay
 refine ec 18 (zf1 aq aI (by omega) (by omega)) ?_
 rintro aN aO ⟨rfl,al⟩
 refine ⟨_,rfl,?_⟩
 replace hB:=hB.trans al
 replace ac:=ac.gr al
 refine ⟨ac,?_⟩
 simp only [p3,p4]
 refine ow 19 (.bool false) rfl (fun w' hS=>(RunV.bool (x:=(sgn ((Int.gcd (N) (D):Int) - 1) !=(0:Int))) (rvk (by kernel_rfl)) hg)) ?_
 refine zb4 ?_
 refine aB _ _ ?_
 refine wp_cond_false rfl ?_
 refine wp_skip ?_
 refine aC _ _ ?_
 refine wp_seq_k (fun aP aD=>rg [0,1,2,3] ?_)
 replace L2:=(ai.lc (L2.gr au) ae).gr (aa.trans (ah.trans al))
 refine sw 34 (.agg #[n0,n1]) rfl (rl 60 0 [n0,n1] L2) ?_
 replace L3:=(ai.lc (L3.gr au) af).gr (aa.trans (ah.trans al))
 refine sw 35 (.agg #[d0,d1]) rfl (rl 60 0 [d0,d1] L3) ?_
 refine sv 36 (.agg #[n0,n1,d0,d1]) ?_
 refine se ?_
 replace L4:=(ai.lc (L4.gr au) ad).gr (aa.trans (ah.trans al))
 refine es 62 0 (.agg #[n0,n1,d0,d1]) [n0,n1,d0,d1] #[n0,n1,d0,d1] L4 hB q4 ⟨hn.one0,hn.one1,hd.one0,hd.one1,trivial⟩ fun aT aH az L4 hB=>?_
 refine za0 (aD _ _ ?_)
 refine wp_ret ?_
 refine bodyPost_ret (v:=(.agg #[n0,n1,d0,d1])) (zc8 _ _ _ rfl rfl L4 (by kernel_rfl)) rfl ⟨?_,hB⟩
 have av:=ap.kp.trans (au.kp.trans (ar.trans (aa.kp.trans (ah.kp.trans (al.kp.trans az)))))
 replace hn:=hn.kp av
 replace hd:=hd.kp av
 exact ⟨_,_,_,_,rfl,hn,hd⟩

theorem zQ9 {k:Nat} {n0 n1 d0 d1:Value} {N D:Int} {w:World} (hn:IsInt w k n0 n1 N) (hd:IsInt w k d0 d1 D) (_hk:k+k+k+k+k+k+66≤1000000) (_h0:0<D) (hg:(sgn ((Int.gcd (N) (D):Int) - 1) !=0)=true) (hxn:0<(Int.gcd (N) (D):Int)∧(Int.gcd (N) (D):Int)∣N) (_hxd:0<(Int.gcd (N) (D):Int)∧(Int.gcd (N) (D):Int)∣D):
    Calls Tryz.prog 103 #[.agg #[n0,n1],.agg #[d0,d1]] w fun e w'=>(∃ x y x2 y2,e=.returned (.agg #[x,y,x2,y2])∧IsInt w' k x y (N/(Int.gcd (N) (D):Int))∧IsInt w' k x2 y2 (D/(Int.gcd (N) (D):Int)))∧Gr w w':=by
 go_enter Tryz.func103,Tryz.ntmps103
 have hB:=Gr.refl w
 refine wp_seq_k (fun K1 k1=>rg [0,1,2] ?_)
 refine se ?_
 refine eb 60 #[n0,n1] 2 hB fun b2 w2 g2 L2 o2 q2 hB=>?_
 simp only [p3,p4]
 refine se ?_
 refine eb 60 #[d0,d1] 3 hB fun b3 w3 g3 L3 o3 q3 hB=>?_
 have ap:=L2.ne o3
 simp only [p3,p4]
 refine se ?_
 refine ea 62 #[.bool false,sN,.bool false,sN] 4 hB fun b4 w4 g4 L4 o4 q4 hB=>?_
 replace L2:=L2.gr g3
 have aL:=L2.ne o4
 have aM:=L3.ne o4
 simp only [p3,p4]
 refine za0 (k1 _ _ ?_)
 refine wp_seq_k (fun K5 k5=>wp_seq_k (fun K6 k6=>rg [0,1,2] ?_))
 replace L3:=L3.gr g4
 refine sw 6 (.agg #[d0,d1]) rfl (rl 60 0 [d0,d1] L3) ?_
 refine se ?_
 have a4:=g2.kp.trans (g3.kp.trans g4.kp)
 replace hd:=hd.kp a4
 refine ec 7 (zi8 hd (by omega)) ?_
 rintro e7 w7 ⟨rfl,g7⟩
 refine ⟨_,rfl,?_⟩
 replace hB:=hB.trans g7
 simp only [p3,p4]
 refine sv 8 (.bool false) (za0 (k6 _ _ ?_))
 refine wp_cond_false rfl ?_
 refine wp_skip ?_
 refine k5 _ _ ?_
 refine wp_seq_k (fun K9 k9=>rg [0,1,2,3,4] ?_)
 replace L2:=L2.gr (g4.trans g7)
 refine sw 13 (.agg #[n0,n1]) rfl (rl 60 0 [n0,n1] L2) ?_
 replace L3:=L3.gr g7
 refine sw 14 (.agg #[d0,d1]) rfl (rl 60 0 [d0,d1] L3) ?_
 refine se ?_
 have aS:=g2.kp.trans (g3.kp.trans (g4.kp.trans g7.kp))
 replace hn:=hn.kp aS
 replace hd:=hd.kp g7.kp
 refine ec 15 (gcd_i hn hd (by omega)) ?_
 rintro bp bq ⟨⟨ak,al,rfl,aj⟩,aD⟩
 refine ⟨_,rfl,?_⟩
 replace hB:=hB.trans aD
 simp only [p3,p4]
 refine se ?_
 refine ea 60 #[.bool false,sN] 5 hB fun a3 br aE ac aP aX hB=>?_
 replace L2:=L2.gr aD
 have ai:=L2.ne aP
 replace L3:=L3.gr aD
 have ax:=L3.ne aP
 replace L4:=L4.gr (g7.trans aD)
 have au:=L4.ne aP
 simp only [p3,p4]
 refine se ?_
 refine es 60 0 (.agg #[ak,al]) [ak,al] #[ak,al] ac hB aX ⟨aj.one0,aj.one1,trivial⟩ fun a2 az aC ac hB=>?_
 refine za0 (k9 _ _ ?_)
 refine wp_seq_k (fun bf aZ=>wp_seq_k (fun a9 aY=>?_))
 have aa:=Gr.drew a2
 replace hB:=hB.trans aa
 replace ac:=ac.gr aa
 refine za4 (fun w'=>Lc w' a3 #[ak,al] 60) [(true,0),(false,1),(false,2),(true,3)] (by kernel_rfl) (by kernel_rfl) (by kernel_rfl) (by decide) (fun _ _ _ _ _ h=>h) ac ?_
 refine ow 16 (.agg #[ak,al]) rfl (fun w' hS=>(rl 60 0 [ak,al] hS)) ?_
 refine oe ?_
 refine ec 17 (zA8 _) ?_
 rintro bv bb ⟨⟨bu,ba,rfl,a8⟩,aq⟩
 refine ⟨_,rfl,?_⟩
 replace hB:=hB.trans aq
 replace ac:=ac.gr aq
 refine ⟨ac,?_⟩
 simp only [p3,p4]
 refine oe ?_
 have aT:=aE.kp.trans (aC.trans (aa.kp.trans aq.kp))
 replace aj:=aj.kp aT
 refine ec 18 (zf1 aj a8 (by omega) (by omega)) ?_
 rintro bi bj ⟨rfl,ar⟩
 refine ⟨_,rfl,?_⟩
 replace hB:=hB.trans ar
 replace ac:=ac.gr ar
 refine ⟨ac,?_⟩
 simp only [p3,p4]
 refine ow 19 (.bool true) rfl (fun w' hS=>(RunV.bool (x:=(sgn ((Int.gcd (N) (D):Int) - 1) !=(0:Int))) (rvk (by kernel_rfl)) hg)) ?_
 refine zb4 ?_
 refine aY _ _ ?_
 refine wp_cond_true rfl ?_
 refine wp_seq_k (fun bk a1=>rg [0,1,2,3,4,5,6,7] ?_)
 replace L2:=(az.lc (L2.gr aE) ai).gr (aa.trans (aq.trans ar))
 refine sw 21 (.agg #[n0,n1]) rfl (rl 60 0 [n0,n1] L2) ?_
 refine sw 22 (.agg #[ak,al]) rfl (rl 60 0 [ak,al] ac) ?_
 refine se ?_
 have aW:=aD.kp.trans (aE.kp.trans (aC.trans (aa.kp.trans (aq.kp.trans ar.kp))))
 replace hn:=hn.kp aW
 replace aj:=aj.kp ar.kp
 refine ec 23 (zN3 hn aj hxn.1 (by omega)) ?_
 rintro bh bt ⟨⟨af,ae,aH,aG,rfl,ay,a7⟩,aw⟩
 refine ⟨_,rfl,?_⟩
 replace hB:=hB.trans aw
 simp only [p3,p4]
 refine sv 20 (.tuple #[.agg #[af,ae],.agg #[aH,aG],iT 0]) ?_
 refine sv 24 (.agg #[af,ae]) ?_
 refine sv 25 (.agg #[aH,aG]) ?_
 refine sv 26 (iT 0) ?_
 refine se ?_
 replace L2:=L2.gr aw
 refine es 60 0 (.agg #[af,ae]) [af,ae] #[af,ae] L2 hB q2 ⟨ay.one0,ay.one1,trivial⟩ fun bn aB av L2 hB=>?_
 refine za0 (a1 _ _ ?_)
 refine rg [0,1,2,3,4,5,6,7] ?_
 replace L3:=aB.lc ((az.lc (L3.gr aE) ax).gr (aa.trans (aq.trans (ar.trans aw)))) (Ne.symm ap)
 refine sw 28 (.agg #[d0,d1]) rfl (rl 60 0 [d0,d1] L3) ?_
 replace ac:=aB.lc (ac.gr aw) (Ne.symm ai)
 refine sw 29 (.agg #[ak,al]) rfl (rl 60 0 [ak,al] ac) ?_
 refine se ?_
 have aR:=aD.kp.trans (aE.kp.trans (aC.trans (aa.kp.trans (aq.kp.trans (ar.kp.trans (aw.kp.trans av))))))
 replace hd:=hd.kp aR
 have aV:=aw.kp.trans av
 replace aj:=aj.kp aV
 refine ec 30 (zN3 hd aj hxn.1 (by omega)) ?_
 rintro bm bg ⟨⟨ad,ah,aO,aK,rfl,aA,a6⟩,aI⟩
 refine ⟨_,rfl,?_⟩
 replace hB:=hB.trans aI
 simp only [p3,p4]
 refine sv 27 (.tuple #[.agg #[ad,ah],.agg #[aO,aK],iT 0]) ?_
 refine sv 31 (.agg #[ad,ah]) ?_
 refine sv 32 (.agg #[aO,aK]) ?_
 refine sv 33 (iT 0) ?_
 refine se ?_
 replace L3:=L3.gr aI
 refine es 60 0 (.agg #[ad,ah]) [ad,ah] #[ad,ah] L3 hB q3 ⟨aA.one0,aA.one1,trivial⟩ fun bo aF aN L3 hB=>?_
 refine za0 (aZ _ _ ?_)
 refine wp_seq_k (fun bl a5=>rg [0,1,2,3] ?_)
 replace L2:=aF.lc (L2.gr aI) ap
 refine sw 34 (.agg #[af,ae]) rfl (rl 60 0 [af,ae] L2) ?_
 refine sw 35 (.agg #[ad,ah]) rfl (rl 60 0 [ad,ah] L3) ?_
 refine sv 36 (.agg #[af,ae,ad,ah]) ?_
 refine se ?_
 replace L4:=aF.lc ((aB.lc ((az.lc (L4.gr aE) au).gr (aa.trans (aq.trans (ar.trans aw)))) (Ne.symm aL)).gr aI) (Ne.symm aM)
 refine es 62 0 (.agg #[af,ae,ad,ah]) [af,ae,ad,ah] #[af,ae,ad,ah] L4 hB q4 ⟨ay.one0,ay.one1,aA.one0,aA.one1,trivial⟩ fun bs a0 aJ L4 hB=>?_
 refine za0 (a5 _ _ ?_)
 refine wp_ret ?_
 refine bodyPost_ret (v:=(.agg #[af,ae,ad,ah])) (zc8 _ _ _ rfl rfl L4 (by kernel_rfl)) rfl ⟨?_,hB⟩
 have aQ:=av.trans (aI.kp.trans (aN.trans aJ))
 replace ay:=ay.kp aQ
 have aU:=aN.trans aJ
 replace aA:=aA.kp aU
 exact ⟨_,_,_,_,rfl,ay,aA⟩

end Go.Proofs.YtjhflekncldflaaGreatDoor
namespace Go.Proofs.YtjhflekncldflaaGreatDoor
open Go.RowKit

theorem zf2 {z:Int}:sgn z=0↔z=0:=by
 unfold sgn
 by_cases h:z<0
 ·rw [if_pos h];omega
 rw [if_neg h]
 by_cases h2:z=0
 ·simp [h2]
 rw [if_neg h2];omega
theorem zZ6 {k:Nat} {c0 c1 c2 c3:Value} {q:Rat} {w:World} (h:IsRat w k c0 c1 c2 c3 q) (hk:k≤1000000):
  Calls Tryz.prog 61 #[.agg #[c0,c1,c2,c3]] w fun e w'=>e=.returned (.bool (decide (q.den=1)))∧Gr w w':=by
 obtain ⟨D,h2,h3⟩:=h.den
 have hp:=q.den_pos
 rcases h3 with h3 | ⟨h3,h4⟩
 ·have e:(sgn (D - 1)==0)=decide (q.den=1):=by
   rw [Bool.eq_iff_iff,beq_iff_eq,zf2,decide_eq_true_iff];omega
  have:=whole_p (c0:=c0) (c1:=c1) h2 (by omega) hk
  rw [e] at this
  exact this
 subst h3
 have e:decide (q.den=1)=true:=by simpa using h4
 rw [e]
 exact whole_z h2
theorem zj4 {k:Nat} {c0 c1 c2 c3:Value} {q:Rat} {w:World} (h:IsRat w k c0 c1 c2 c3 q) (hk:k≤1000000) (hq:q.den=1):
  Calls Tryz.prog 61 #[.agg #[c0,c1,c2,c3]] w fun e w'=>e=.returned (.bool true)∧Gr w w':=by
 have:=zZ6 h hk
 rw [decide_eq_true hq] at this
 exact this
theorem zp2 {k:Nat} {c0 c1 c2 c3:Value} {q:Rat} {w:World} (h:IsRat w k c0 c1 c2 c3 q) (hk:k≤1000000) (hq:q.den≠1):
  Calls Tryz.prog 61 #[.agg #[c0,c1,c2,c3]] w fun e w'=>e=.returned (.bool false)∧Gr w w':=by
 have:=zZ6 h hk
 rw [decide_eq_false hq] at this
 exact this
theorem zn6 {k:Nat} {c0 c1 c2 c3:Value} {q:Rat} {w:World} (h:IsRat w k c0 c1 c2 c3 q):
  Calls Tryz.prog 94 #[.agg #[c0,c1,c2,c3]] w fun e w'=>(∃ x' y',e=.returned (.agg #[x',y'])∧IsInt w' k x' y' (q.den:Int))∧Gr w w':=by
 obtain ⟨D,h2,h3⟩:=h.den
 have hp:=q.den_pos
 rcases h3 with h3 | ⟨h3,h4⟩
 ·subst h3
  exact den_p h2 (by omega)
 subst h3
 refine (den_z (c0:=c0) (c1:=c1) h2).mono ?_
 rintro e w1 ⟨⟨x,y,he,hi⟩,g⟩
 rw [h4]
 exact ⟨⟨x,y,he,hi.mono h.big⟩,g⟩
theorem add_e {k m:Nat} (n:Nat) {x y x2 y2:Value} {z u:Int} {w:World} (hz:IsInt w k x y z) (hu:IsInt w m x2 y2 u) (h1:k≤n) (h2:m≤n) (hk:2*n+1≤1000000):
  Calls Tryz.prog 104 #[.agg #[x,y],.agg #[x2,y2]] w fun e w'=>(∃ x' y',e=.returned (.agg #[x',y'])∧IsInt w' (n+1) x' y' (z+u))∧Gr w w':=by
 refine (add_i (hz.mono h1) (hu.mono h2) (by omega)).mono ?_
 rintro e w1 ⟨⟨x,y,he,hi⟩,g⟩
 exact ⟨⟨x,y,he,hi.resz ((hz.sz.mono h1).add' (hu.sz.mono h2))⟩,g⟩

theorem zq9 {k m:Nat} (K:Nat) {n0 n1 d0 d1:Value} {N D:Int} {w:World} (hn:IsInt w k n0 n1 N) (hd:IsInt w m d0 d1 D) (h0:0<D) (h1:k≤K) (h2:m≤K) (h3:64≤K) (h4:8*K≤1000000):
  Calls Tryz.prog 103 #[.agg #[n0,n1],.agg #[d0,d1]] w fun e w'=>(∃ c0 c1 c2 c3,e=.returned (.agg #[c0,c1,c2,c3])∧IsRat w' K c0 c1 c2 c3 (Rat.divInt N D))∧Gr w w':=by
 have hN:=hn.mono h1
 have hD:=hd.mono h2
 have en:(Rat.divInt N D).num=N/(Int.gcd N D:Int):=by
  rw [Rat.num_divInt,Int.sign_eq_one_of_pos h0,Int.one_mul,Int.gcd_comm]
 have ed:((Rat.divInt N D).den:Int)=D/(Int.gcd N D:Int):=by
  rw [Rat.den_divInt,if_neg (by omega),Int.gcd_comm,Int.natCast_ediv]
  congr 1
  omega
 have ac:0<(Int.gcd N D:Int):=by
  have:Int.gcd N D≠0:=by rw [Ne,Int.gcd_eq_zero_iff];omega
  omega
 by_cases hg:(Int.gcd N D:Int)=1
 ·refine (zQ8 hN hD (by omega) h0 (by rw [hg];rfl)).mono ?_
  rintro e w1 ⟨⟨x,y,x2,y2,he,hi,aa⟩,g⟩
  rw [hg,Int.ediv_one] at en ed
  exact ⟨⟨x,y,x2,y2,he,by rw [en];exact hi,⟨D,aa,.inl ed.symm⟩,h3⟩,g⟩
 have hb:(sgn ((Int.gcd N D:Int) - 1) !=0)=true:=by
  have:sgn ((Int.gcd N D:Int) - 1)≠0:=fun h=>hg (by have:=zf2.1 h;omega)
  simpa using this
 refine (zQ9 hN hD (by omega) h0 hb ⟨ac,Int.gcd_dvd_left ..⟩ ⟨ac,Int.gcd_dvd_right ..⟩).mono ?_
 rintro e w1 ⟨⟨x,y,x2,y2,he,hi,aa⟩,g⟩
 exact ⟨⟨x,y,x2,y2,he,by rw [en];exact hi,⟨_,aa,.inl ed.symm⟩,h3⟩,g⟩

theorem zZ7 (a b:Rat):Rat.divInt (a.num*b.den+b.num*a.den) (a.den*b.den)=a+b:=by
 have:=Rat.divInt_add_divInt a.num b.num (d₁:=a.den) (d₂:=b.den) (by have:=a.den_pos;omega) (by have:=b.den_pos;omega)
 rw [Rat.num_divInt_den,Rat.num_divInt_den] at this
 exact this.symm
theorem zZ8 (a b:Rat):Rat.divInt (a.num*b.num) (a.den*b.den)=a*b:=by
 have:=Rat.divInt_mul_divInt a.num b.num (d₁:=a.den) (d₂:=b.den)
 rw [Rat.num_divInt_den,Rat.num_divInt_den] at this
 exact this.symm
theorem zx6 {q:Rat} (h:q.den=1):((q.num:Int):Rat)=q:=by
 apply Rat.ext
 ·exact Rat.num_intCast _
 rw [h];exact Rat.den_intCast _
theorem IsRat.neg {w:World} {k:Nat} {c0 c1 c2 c3 x y:Value} {q:Rat} (h:IsRat w k c0 c1 c2 c3 q) (hi:IsInt w k x y (-q.num)):IsRat w k x y c2 c3 (-q):=by
 obtain ⟨D,h2,h3⟩:=h.den
 exact ⟨hi,⟨D,h2,h3⟩,h.big⟩
def zl4 (a b:Rat):Int:=sgn (a.num*b.den - b.num*a.den)
theorem rcmp_int {a b:Rat} (ha:a.den=1) (hb:b.den=1):zl4 a b=sgn (a.num - b.num):=by
 unfold zl4;rw [ha,hb];simp
def Kt (t:TypeId) (w w':World):Prop:=∀ (b:Nat) (cs:Array Value) (fr:Nat × Nat),w.heap[b]?=some (Obj.cells cs t fr)→w'.heap[b]?=some (Obj.cells cs t fr)
theorem Kt.refl (t:TypeId) (w:World):Kt t w w:=fun _ _ _ h=>h
theorem Kt.trans {t:TypeId} {a b c:World} (h:Kt t a b) (k:Kt t b c):Kt t a c:=fun b cs fr hb=>k b cs fr (h b cs fr hb)
theorem Gr.kt {w w':World} (h:Gr w w') (t:TypeId):Kt t w w':=fun _ _ _ hk=>h.heap hk
theorem Kt.kp {w w':World} (h:Kt 171 w w'):Kp w w':=h
theorem St.kt {w w':World} {b:Nat} {cs:Array Value} {T t:TypeId} (h:St w w' b) (hL:Lc w b cs T) (ht:t≠T):Kt t w w':=fun c ds fr hc=>by
 by_cases e:c=b
 ·subst e
  unfold Lc at hL
  rw [hc] at hL
  simp only [Option.some.injEq,Obj.cells.injEq] at hL
  exact absurd hL.2.1 ht
 exact (h.block c e).trans hc
theorem Wt.kt {T t:TypeId} {w w':World} (h:Wt T w w') (ht:t≠T):Kt t w w':=fun b cs fr hb=>h.block b cs _ fr ht hb
def Kts (ts:List TypeId) (w w':World):Prop:=∀ t ∈ ts,Kt t w w'
theorem Gr.kts {w w':World} (h:Gr w w') (ts:List TypeId):Kts ts w w':=fun t _=>h.kt t
theorem St.kts {w w':World} {b:Nat} {cs:Array Value} {T:TypeId} {ts:List TypeId} (h:St w w' b) (hL:Lc w b cs T) (ht:(ts.all fun t=>t !=T)=true):Kts ts w w':=fun t hm=>h.kt hL (by have:=List.all_eq_true.1 ht t hm;simpa using this)
theorem Wt.kts {w w':World} {T:TypeId} {ts:List TypeId} (h:Wt T w w') (ht:(ts.all fun t=>t !=T)=true):Kts ts w w':=fun t hm=>h.kt (by have:=List.all_eq_true.1 ht t hm;simpa using this)

section
variable {α:Type}
def zn8 (E:World→α→List Value→Prop) (ts:List TypeId):Prop:=∀ w w' x vs,Kts ts w w'→E w x vs→E w' x vs
def Els (E:World→α→List Value→Prop) (c:Nat) (w:World) (ys:List Value) (xs:List α):Prop:=
 ys.length=xs.length*c∧∀ (i:Nat) (x:α),xs[i]?=some x→E w x ((ys.drop (i*c)).take c)
theorem Els.kts {E:World→α→List Value→Prop} {ts:List TypeId} {c:Nat} {w w':World} {ys:List Value} {xs:List α} (h:Els E c w ys xs) (hS:zn8 E ts) (k:Kts ts w w'):Els E c w' ys xs:=
 ⟨h.1,fun i x hx=>hS _ _ _ _ k (h.2 i x hx)⟩
theorem Els.nil (E:World→α→List Value→Prop) (c:Nat) (w:World):Els E c w [] []:=⟨by simp,fun i x h=>by simp at h⟩
theorem Els.snoc {E:World→α→List Value→Prop} {c:Nat} {w:World} {ys:List Value} {xs:List α} (h:Els E c w ys xs) {x:α} {vs:List Value} (hv:vs.length=c) (hx:E w x vs):Els E c w (ys++vs) (xs++[x]):=by
 refine ⟨by simp [h.1,hv,Nat.add_mul],fun i y hy=>?_⟩
 rcases Nat.lt_or_ge i xs.length with hi | hi
 ·rw [List.getElem?_append_left hi] at hy
  have h1:i*c+c≤ys.length:=by
   rw [h.1]
   have:=Nat.mul_le_mul_right c (show i+1≤xs.length by omega)
   rw [Nat.add_mul] at this;omega
  have:=h.2 i y hy
  rw [List.drop_append_of_le_length (by omega),List.take_append_of_le_length (by rw [List.length_drop];omega)]
  exact this
 rw [List.getElem?_append_right hi] at hy
 have h0:i=xs.length:=by
  have:=(List.getElem?_eq_some_iff.1 hy).1
  simp at this;omega
 subst h0
 simp only [Nat.sub_self,List.getElem?_cons_zero,Option.some.injEq] at hy
 subst hy
 rw [← h.1,List.drop_left,← hv,List.take_length]
 exact hx
theorem Els.set {E:World→α→List Value→Prop} {c:Nat} {w:World} {ys:List Value} {xs:List α} (h:Els E c w ys xs) {i:Nat} (hi:i<xs.length) {x:α} {vs:List Value} (hv:vs.length=c) (hx:E w x vs):
  Els E c w (ys.take (i*c)++vs++ys.drop (i*c+c)) (xs.set i x):=by
 have hle:i*c+c≤ys.length:=by
  rw [h.1]
  have:=Nat.mul_le_mul_right c (show i+1≤xs.length by omega)
  rw [Nat.add_mul] at this;omega
 refine ⟨by rw [List.length_append,List.length_append,List.length_take,List.length_drop,List.length_set,hv,Nat.min_eq_left (by omega)];have:=h.1;omega,fun j y hy=>?_⟩
 rcases Nat.lt_trichotomy j i with hj | hj | hj
 ·rw [List.getElem?_set_ne (by omega)] at hy
  have h1:j*c+c≤i*c:=by
   have:=Nat.mul_le_mul_right c (show j+1≤i by omega)
   rw [Nat.add_mul] at this;omega
  have e:((ys.take (i*c)++vs++ys.drop (i*c+c)).drop (j*c)).take c=(ys.drop (j*c)).take c:=by
   rw [List.append_assoc,List.drop_append_of_le_length (by rw [List.length_take];omega),List.take_append_of_le_length (by rw [List.length_drop,List.length_take];omega),List.drop_take,List.take_take]
   congr 1;omega
  rw [e];exact h.2 j y hy
 ·subst hj
  rw [List.getElem?_set_self hi] at hy
  obtain rfl:=Option.some.inj hy
  have e:((ys.take (j*c)++vs++ys.drop (j*c+c)).drop (j*c)).take c=vs:=by
   have hl:(ys.take (j*c)).length=j*c:=by rw [List.length_take];omega
   rw [List.append_assoc,List.drop_append,hl,Nat.sub_self,List.drop_zero,List.drop_eq_nil_of_le (by omega),List.nil_append,List.take_append_of_le_length (by omega),List.take_of_length_le (by omega)]
  rw [e];exact hx
 rw [List.getElem?_set_ne (by omega)] at hy
 have h1:i*c+c≤j*c:=by
  have:=Nat.mul_le_mul_right c (show i+1≤j by omega)
  rw [Nat.add_mul] at this;omega
 have e:((ys.take (i*c)++vs++ys.drop (i*c+c)).drop (j*c)).take c=(ys.drop (j*c)).take c:=by
  have hl:(ys.take (i*c)++vs).length=i*c+c:=by rw [List.length_append,List.length_take];omega
  rw [List.drop_append,hl,List.drop_eq_nil_of_le (by omega),List.nil_append,List.drop_drop]
  congr 2;omega
 rw [e];exact h.2 j y hy
theorem Els.mono {E F:World→α→List Value→Prop} {c:Nat} {w:World} {ys:List Value} {xs:List α} (h:Els E c w ys xs) (hf:∀ x vs,E w x vs→F w x vs):Els F c w ys xs:=⟨h.1,fun i x hx=>hf _ _ (h.2 i x hx)⟩

def Cs (T:TypeId) (w:World) (v:Value) (n:Nat) (ys:List Value):Prop:=
 ∃ ao cap,v=.slice ao n cap∧n≤cap∧(0<ys.length→∃ b off cs fr,ao=some ⟨b,off,none⟩∧w.heap[b]?=some (.cells cs T fr)∧∀ j,j<ys.length→cs[off+j]?=ys[j]?)
theorem Cs.kt {T:TypeId} {w w':World} {v:Value} {n:Nat} {ys:List Value} (h:Cs T w v n ys) (k:Kt T w w'):Cs T w' v n ys:=by
 obtain ⟨ao,cap,h1,h2,h3⟩:=h
 refine ⟨ao,cap,h1,h2,fun hp=>?_⟩
 obtain ⟨b,off,cs,fr,e1,e2,e3⟩:=h3 hp
 exact ⟨b,off,cs,fr,e1,k _ _ _ e2,e3⟩
def adr (v:Value) (j:Nat):Value:=
 match v with
 | .slice (some ⟨b,off,_⟩) _ _=>.pointer (some ⟨b,off+j,none⟩)
 | _=>undef
def AtV (w:World) (v:Value) (j:Nat) (vs:List Value):Prop:=∃ b off n cap,v=.slice (some ⟨b,off,none⟩) n cap∧w.rangeAt b (off+j) vs
theorem Cs.at_ {T:TypeId} {w:World} {v:Value} {n:Nat} {ys:List Value} (h:Cs T w v n ys) (hp:0<ys.length) (j:Nat) (vs:List Value) (hv:(ys.drop j).take vs.length=vs):AtV w v j vs:=by
 obtain ⟨ao,cap,rfl,h2,h3⟩:=h
 obtain ⟨b,off,cs,fr,rfl,e2,e3⟩:=h3 hp
 refine ⟨b,off,_,_,rfl,fun i u hi=>?_⟩
 have hi':i<vs.length:=(List.getElem?_eq_some_iff.1 hi).1
 have h1:((ys.drop j).take vs.length)[i]?=vs[i]?:=by rw [hv]
 rw [List.getElem?_take_of_lt hi',List.getElem?_drop,hi] at h1
 rw [zc1 e2,Nat.add_assoc,e3 (j+i) (List.getElem?_eq_some_iff.1 h1).1]
 exact h1
def Sl (E:World→α→List Value→Prop) (T:TypeId) (c:Nat) (w:World) (v:Value) (xs:List α):Prop:=∃ ys,Cs T w v xs.length ys∧Els E c w ys xs
theorem Sl.kts {E:World→α→List Value→Prop} {ts:List TypeId} {T:TypeId} {c:Nat} {w w':World} {v:Value} {xs:List α} (h:Sl E T c w v xs) (hS:zn8 E ts) (k:Kts (T::ts) w w'):Sl E T c w' v xs:=by
 obtain ⟨ys,h1,h2⟩:=h
 exact ⟨ys,h1.kt (k T (by simp)),h2.kts hS (fun t ht=>k t (by simp [ht]))⟩
theorem Sl.gr {E:World→α→List Value→Prop} {ts:List TypeId} {T:TypeId} {c:Nat} {w w':World} {v:Value} {xs:List α} (h:Sl E T c w v xs) (hS:zn8 E ts) (g:Gr w w'):Sl E T c w' v xs:=h.kts hS (g.kts _)
theorem Sl.mono {E F:World→α→List Value→Prop} {T:TypeId} {c:Nat} {w:World} {v:Value} {xs:List α} (h:Sl E T c w v xs) (hf:∀ x vs,E w x vs→F w x vs):Sl F T c w v xs:=by
 obtain ⟨ys,h1,h2⟩:=h
 exact ⟨ys,h1,h2.mono hf⟩
theorem Sl.form {E:World→α→List Value→Prop} {T:TypeId} {c:Nat} {w:World} {v:Value} {xs:List α} (h:Sl E T c w v xs):∃ ao cap,v=.slice ao xs.length cap∧xs.length≤cap:=by
 obtain ⟨ys,⟨ao,cap,h1,h2,_⟩,_⟩:=h
 exact ⟨ao,cap,h1,h2⟩
theorem Sl.one {E:World→α→List Value→Prop} {T:TypeId} {c:Nat} {w:World} {v:Value} {xs:List α} (h:Sl E T c w v xs):v.oneCell'=true:=by
 obtain ⟨ao,cap,rfl,_⟩:=h.form;rfl
theorem Sl.nil (E:World→α→List Value→Prop) (T:TypeId) (c:Nat) (w:World) (ao:Option Addr) (cap:Nat):Sl E T c w (.slice ao 0 cap) ([]:List α):=
 ⟨[],⟨ao,cap,rfl,Nat.zero_le _,fun h=>by simp at h⟩,Els.nil ..⟩
theorem Sl.get {E:World→α→List Value→Prop} {T:TypeId} {c:Nat} {w:World} {v:Value} {xs:List α} (h:Sl E T c w v xs) (hc:0<c) {i:Nat} {x:α} (hx:xs[i]?=some x):∃ vs,vs.length=c∧E w x vs∧AtV w v (i*c) vs:=by
 obtain ⟨ys,h1,h2⟩:=h
 have hi:=(List.getElem?_eq_some_iff.1 hx).1
 have hle:i*c+c≤ys.length:=by
  rw [h2.1]
  have:=Nat.mul_le_mul_right c (show i+1≤xs.length by omega)
  rw [Nat.add_mul] at this;omega
 have hl:((ys.drop (i*c)).take c).length=c:=by rw [List.length_take,List.length_drop];omega
 exact ⟨_,hl,h2.2 i x hx,h1.at_ (by omega) _ _ (by rw [hl])⟩
theorem Sl.adr_some {E:World→α→List Value→Prop} {T:TypeId} {c:Nat} {w:World} {v:Value} {xs:List α} (h:Sl E T c w v xs) (hc:0<c) (hp:0<xs.length):∃ b off cap,v=.slice (some ⟨b,off,none⟩) xs.length cap:=by
 obtain ⟨ys,⟨ao,cap,h1,h2,h3⟩,h4⟩:=h
 obtain ⟨b,off,cs,fr,e1,_⟩:=h3 (by rw [h4.1];exact Nat.mul_pos hp hc)
 exact ⟨b,off,cap,by rw [h1,e1]⟩

variable {P:Program} {a:Act} {o:Oper} {w:World} {Q:Exit→Act→World→Prop} {K:Act→World→Prop} {ops:Array Oper}
theorem zz8 {E:World→α→List Value→Prop} {T:TypeId} {c:Nat} {v:Value} {xs:List α} {w0:World} (h:Sl E T c w0 v xs) (x:Operand) (t:TypeId) (hop:o.op=.call {callee:=.builtin .len,args:=#[x],argTypes:=#[t]}) (hx:a.eval x=v) {e:TypeId} (hu:P.underlying t=some (.slice e)):
  RunV P a o w (.int .i64 (xs.length:Int)):=by
 obtain ⟨ao,cap,rfl,_⟩:=h.form
 unfold RunV
 generalize a.eval=ev at*
 unfold execOp
 simp only [hop]
 simp [hx,go_sem,Builtin.len_,run_underlying hu,goInt]
theorem yb1 {E:World→α→List Value→Prop} {T:TypeId} {c:Nat} {v:Value} {xs:List α} {w0:World} (h:Sl E T c w0 v xs) (hc:0<c) (i:Nat) (hi:i<xs.length) (t:TypeId) (x y:Operand) (hop:o.op=.indexAddr t x y) (hx:a.eval x=v) (hy:a.eval y=.int .i64 (i:Int))
  {e:TypeId} (hu:P.underlying t=some (.slice e)) (hs:(P.info? e).map (·.size)=some c):RunV P a o w (adr v (i*c)):=by
 obtain ⟨b,off,cap,rfl⟩:=h.adr_some hc (by omega)
 obtain ⟨j,hj,hsz⟩:=Option.map_eq_some_iff.1 hs
 unfold RunV execOp
 simp only [hop,hx,hy]
 have h1:(0:Int)≤(i:Int)∧(i:Int)<(xs.length:Int):=by omega
 by_cases h0:i*c=0<;>simp [Instr.indexAt,asIntOf,run_underlying hu,sizeOf,typeInfo,hj,hsz,h1,hi,h0,adr,Addr.add]
theorem ze5 (vs:List Value) {v:Value} {j:Nat} (h:AtV w v j vs) (t:TypeId) (x:Operand) (hop:o.op=.load t x) (hx:a.eval x=adr v j) (hs:zg9 P t=some vs.length):RunV P a o w (.agg vs.toArray):=by
 obtain ⟨b,off,n,cap,rfl,hr⟩:=h
 have hx':a.eval x=.pointer (some ⟨b,off+j,none⟩):=hx
 unfold zg9 at hs
 unfold RunV
 cases hd:P.underlying t with
 | none=>rw [hd] at hs;cases hs
 | some d=>
  rw [hd] at hs
  have hrow:d.isRow=true∧(P.info? t).map (·.size)=some vs.length:=by
   cases d<;>first | cases hs | exact ⟨rfl,hs⟩
  unfold execOp
  simp only [hop,hx',Instr.loadAt,Instr.sureAddr,Sem.run_bind,Sem.run_pure,Result.andThen_ok,run_loadVar_mid w b (off+j) t vs d hr hd hrow.1 hrow.2]
theorem ze6 (u:Value) {v:Value} {j:Nat} (h:AtV w v j [u]) (t:TypeId) (x:Operand) (hop:o.op=.load t x) (hx:a.eval x=adr v j) (hs:zp4 P t=true):RunV P a o w u:=by
 obtain ⟨b,off,n,cap,rfl,hr⟩:=h
 have hx':a.eval x=.pointer (some ⟨b,off+j,none⟩):=hx
 unfold zp4 at hs
 have hc:w.cell? ⟨b,off+j,none⟩=some u:=hr 0 u rfl
 unfold RunV
 cases hd:P.underlying t with
 | none=>rw [hd] at hs;cases hs
 | some d=>
  rw [hd] at hs
  have hagg:(isAgg t).run P w=.ok false w:=by
   unfold isAgg
   rw [Sem.run_bind,run_underlying hd w]
   cases d<;>first | cases hs | rfl
  unfold execOp
  simp only [hop,hx',Instr.loadAt,Instr.sureAddr,Sem.run_bind,Sem.run_pure,Result.andThen_ok,loadVar,hagg]
  simp [load,Sem.run,hc]

def Mk (E:World→α→List Value→Prop) (T:TypeId) (c:Nat) (w:World) (b:Nat) (xs:List α):Prop:=∃ ys:List Value,Lc w b ys.toArray T∧Els E c w ys xs
theorem Mk.kts {E:World→α→List Value→Prop} {ts:List TypeId} {T:TypeId} {c:Nat} {w w':World} {b:Nat} {xs:List α} (h:Mk E T c w b xs) (hS:zn8 E ts) (k:Kts (T::ts) w w'):Mk E T c w' b xs:=by
 obtain ⟨ys,h1,h2⟩:=h
 exact ⟨ys,k T (by simp) _ _ _ h1,h2.kts hS (fun t ht=>k t (by simp [ht]))⟩
theorem Mk.gr {E:World→α→List Value→Prop} {ts:List TypeId} {T:TypeId} {c:Nat} {w w':World} {b:Nat} {xs:List α} (h:Mk E T c w b xs) (hS:zn8 E ts) (g:Gr w w'):Mk E T c w' b xs:=h.kts hS (g.kts _)
theorem Mk.lt {E:World→α→List Value→Prop} {T:TypeId} {c:Nat} {w:World} {b:Nat} {xs:List α} (h:Mk E T c w b xs):b<w.heap.size:=by
 obtain ⟨ys,h1,_⟩:=h;exact h1.lt
theorem Mk.sl {E:World→α→List Value→Prop} {T:TypeId} {c:Nat} {w:World} {b:Nat} {xs:List α} (h:Mk E T c w b xs) {cap:Nat} (hc:xs.length≤cap):Sl E T c w (.slice (some ⟨b,0,none⟩) xs.length cap) xs:=by
 obtain ⟨ys,h1,h2⟩:=h
 exact ⟨ys,⟨_,cap,rfl,hc,fun _=>⟨b,0,_,_,rfl,h1,fun j _=>by simp⟩⟩,h2⟩
theorem Mk.sl_n {E:World→α→List Value→Prop} {T:TypeId} {c:Nat} {w:World} {b:Nat} {xs:List α} (h:Mk E T c w b xs) {n cap:Nat} (hn:xs.length=n) (hc:n≤cap):Sl E T c w (.slice (some ⟨b,0,none⟩) n cap) xs:=by
 subst hn;exact h.sl hc
theorem zG4 {d:α} {i:Nat} {xs:List α} (h:i<xs.length):xs[i]?=some (xs.getD i d):=by simp [h]
theorem AtV.gr {w w':World} {v:Value} {j:Nat} {vs:List Value} (h:AtV w v j vs) (g:Gr w w'):AtV w' v j vs:=by
 obtain ⟨b,off,n,cap,e,hr⟩:=h
 refine ⟨b,off,n,cap,e,fun i u hi=>?_⟩
 have h1:=hr i u hi
 rw [← h1]
 exact Below.cell g (p:=⟨b,off+j+i,none⟩) (World.block_lt_of_cell? w _ h1)
theorem zP3 {E:World→α→List Value→Prop} {w:World} {x0:α} {z:List Value} (hz:E w x0 z):∀ n,Els E z.length w ((List.replicate n z).flatten) (List.replicate n x0)
 | 0=>Els.nil ..
 | n+1=>by
  have:=(zP3 hz n).snoc rfl hz
  rw [List.replicate_succ',List.flatten_append,List.flatten_singleton,List.replicate_succ']
  exact this
theorem yb2 (z:Array Value) (hz:0<z.size) (n:Nat):(madeCells z (n*z.size)).toList=(List.replicate n z.toList).flatten:=by
 apply List.ext_getElem?
 intro i
 have hl:∀ m,((List.replicate m z.toList).flatten).length=m*z.size:=fun m=>by simp
 have key:∀ m i,i<m*z.size→((List.replicate m z.toList).flatten)[i]?=z[i % z.size]?:=by
  intro m
  induction m with
  | zero=>intro i h;omega
  | succ m ih=>
   intro i h
   rw [List.replicate_succ,List.flatten_cons]
   rcases Nat.lt_or_ge i z.size with h1 | h1
   ·rw [List.getElem?_append_left (by simpa using h1),Nat.mod_eq_of_lt h1];simp
   rw [List.getElem?_append_right (by simpa using h1),Array.length_toList,ih (i - z.size) (by rw [Nat.add_mul] at h;omega),Nat.mod_eq_sub_mod h1]
 by_cases h:i<n*z.size
 ·rw [key n i h]
  have hm:i % z.size<z.size:=Nat.mod_lt _ hz
  simp [madeCells,h,hm]
 rw [List.getElem?_eq_none (by simp [madeCells];omega),List.getElem?_eq_none (by rw [hl];omega)]
theorem eff_mk {E:World→α→List Value→Prop} (x0:α) (t e:TypeId) (z:Value) (n sz bytes:Nat) (d:Option Tmp) {x y:Operand} (hd:o.dst=d) (hop:o.op=.makeSlice t x y) (hx:a.eval x=.int .i64 (n:Int)) (hy:a.eval y=.int .i64 (n:Int)) (hu:P.underlying t=some (.slice e))
  (hi:(P.info? e).map (fun i=>(i.zero,i.size,i.bytes))=some (some z,sz,bytes)) (hsz:z.cells.size=sz∧0<sz) (hn:n≤1000000) (hbytes:bytes≤1000) (hE:∀ w',E w' x0 z.cells.toList)
  (h:∀ b w',Gr w w'→Mk E e sz w' b (List.replicate n x0)→w.heap.size≤b→K (a.put d (.slice (some ⟨b,0,none⟩) n n)) w'):o.wp P a w K Q:=by
 subst hd
 obtain ⟨i,hi,hzz⟩:=Option.map_eq_some_iff.1 hi
 simp only [Prod.mk.injEq] at hzz
 have aa:n*bytes≤1000000*1000:=Nat.mul_le_mul hn hbytes
 have hrun:=run_make (P:=P) w t e i z hu hi hzz.1 .i64 .i64 (n:Int) (n:Int) (by omega) (by omega) (by rw [hzz.2.2,← Int.natCast_mul,Nat.mul_comm];omega) (by omega)
 rw [hzz.2.1] at hrun
 unfold Oper.wp execOp
 simp only [hop,hx,hy,Sem.run_bind,hrun,Result.andThen_ok,Sem.run_pure,Int.toNat_natCast]
 refine h _ _ (Gr.alloc w _) ⟨(madeCells z.cells (n*sz)).toList,by rw [Array.toArray_toList];exact heap_alloc_new w _,?_⟩ (Nat.le_refl _)
 obtain ⟨h1,h2⟩:=hsz
 subst h1
 rw [yb2 _ h2]
 have:=zP3 (hE (w.alloc (.cells (madeCells z.cells (n*z.cells.size)) e))) n
 simpa using this
theorem zm8:∀ (vs:List Value) (off:Nat) (ys:List Value),off+vs.length≤ys.length→zh1 ys.toArray off vs=(ys.take off++vs++ys.drop (off+vs.length)).toArray
 | [],off,ys,_=>by simp [zh1]
 | v::vs,off,ys,h=>by
  simp only [List.length_cons] at h
  rw [zh1,List.setIfInBounds_toArray,zm8 vs (off+1) (ys.set off v) (by simp;omega)]
  congr 1
  have h1:(ys.set off v).take (off+1)=ys.take off++[v]:=by
   rw [List.take_add_one,List.take_set_of_le (Nat.le_refl _),List.getElem?_set_self (by omega)];rfl
  have h2:(ys.set off v).drop (off+1+vs.length)=ys.drop (off+(vs.length+1)):=by
   rw [List.drop_set_of_lt (by omega)];congr 1;omega
  rw [h1,h2];simp
theorem eff_stm {E:World→α→List Value→Prop} {ts:List TypeId} (hS:zn8 E ts) {T:TypeId} {c:Nat} {b:Nat} {xs:List α} (hM:Mk E T c w b xs) (i:Nat) (hi:i<xs.length) (x0:α) (v:Value) (vs:List Value) (n cap:Nat) (t:TypeId) (x y:Operand)
  (hop:o.op=.store t x y) (hd:o.dst=none) (hx:a.eval x=adr (.slice (some ⟨b,0,none⟩) n cap) (i*c)) (hy:a.eval y=v) (hv:v.cells=vs.toArray) (hs:(P.info? t).map (·.size)=some c) (hc:vs.length=c) (h1:One1 vs) (hE:E w x0 vs) (hT:(ts.all fun t=>t !=T)=true)
  (h:∀ w',St w w' b→(∀ u,u≠T→Kt u w w')→Mk E T c w' b (xs.set i x0)→K a w'):o.wp P a w K Q:=by
 obtain ⟨ys,hL,aa⟩:=hM
 subst hc
 have hle:i*vs.length+vs.length≤ys.length:=by
  rw [aa.1]
  have:=Nat.mul_le_mul_right vs.length (show i+1≤xs.length by omega)
  rw [Nat.add_mul] at this;omega
 have hx':a.eval x=.pointer (some ⟨b,i*vs.length,none⟩):=by
  rw [hx];simp [adr]
 refine zd2 t x y b (i*vs.length) v vs ys.toArray _ T hop hd hx' hy hv hL hs (by simpa using hle) h1 rfl (fun w' st L'=>?_)
 rw [zm8 _ _ _ hle] at L'
 have hk:Kts ts w w':=st.kts hL hT
 exact h w' st (fun u hu=>st.kt hL hu) ⟨_,L',((aa.set hi rfl hE).kts hS hk)⟩

def Ow (E:World→α→List Value→Prop) (T:TypeId) (c:Nat) (w:World) (B:Nat) (v:Value) (xs:List α):Prop:=∃ ys,w.ownsRow B T c v xs.length ys∧Els E c w ys xs
theorem zR9 {w w':World} {B T c n:Nat} {v:Value} {ys:List Value} (h:w.ownsRow B T c v n ys) (k:Kt T w w'):w'.ownsRow B T c v n ys:=by
 refine ⟨h.1,?_⟩
 rcases h.2 with hn | ⟨g,cap,cur,rfl,hb,hg,hr⟩
 ·exact .inl hn
 exact .inr ⟨g,cap,cur,rfl,hb,k _ _ _ hg,hr⟩
theorem Ow.kts {E:World→α→List Value→Prop} {ts:List TypeId} {T:TypeId} {c B:Nat} {w w':World} {v:Value} {xs:List α} (h:Ow E T c w B v xs) (hS:zn8 E ts) (k:Kts (T::ts) w w'):Ow E T c w' B v xs:=by
 obtain ⟨ys,h1,h2⟩:=h
 exact ⟨ys,zR9 h1 (k T (by simp)),h2.kts hS (fun t ht=>k t (by simp [ht]))⟩
theorem Ow.gr {E:World→α→List Value→Prop} {ts:List TypeId} {T:TypeId} {c B:Nat} {w w':World} {v:Value} {xs:List α} (h:Ow E T c w B v xs) (hS:zn8 E ts) (g:Gr w w'):Ow E T c w' B v xs:=h.kts hS (g.kts _)
theorem Ow.nil (E:World→α→List Value→Prop) (T:TypeId) (c:Nat) (w:World) (B:Nat):Ow E T c w B (.slice none 0 0) ([]:List α):=⟨[],World.ownsRow_nil ..,Els.nil ..⟩
theorem Ow.one {E:World→α→List Value→Prop} {T:TypeId} {c B:Nat} {w:World} {v:Value} {xs:List α} (h:Ow E T c w B v xs):v.oneCell'=true:=by
 obtain ⟨ys,h1,_⟩:=h
 rcases h1.2 with ⟨rfl,_⟩ | ⟨g,cap,cur,rfl,_⟩<;>rfl
theorem Ow.sl {E:World→α→List Value→Prop} {T:TypeId} {c B:Nat} {w:World} {v:Value} {xs:List α} (h:Ow E T c w B v xs):Sl E T c w v xs:=by
 obtain ⟨ys,h1,h2⟩:=h
 refine ⟨ys,?_,h2⟩
 rcases h1.2 with ⟨rfl,hn⟩ | ⟨g,cap,cur,rfl,hb,hg,h3,h4,h5,h6⟩
 ·refine ⟨none,0,by rw [hn],by omega,fun hp=>?_⟩
  rw [h2.1,hn] at hp;simp at hp
 refine ⟨_,cap,rfl,h3,fun _=>⟨g,0,cur,_,rfl,hg,fun j hj=>?_⟩⟩
 rw [h2.1] at hj
 have:(cur.toList.take (xs.length*c))[j]?=ys[j]?:=by rw [h6]
 rw [List.getElem?_take_of_lt hj] at this
 rw [Nat.zero_add,← this];simp
def OwNe (v:Value) (b:Nat):Prop:=∀ g n cap,v=.slice (some ⟨g,0,none⟩) n cap→g≠b
theorem Ow.ne {E:World→α→List Value→Prop} {T:TypeId} {c B b:Nat} {w:World} {v:Value} {xs:List α} (h:Ow E T c w B v xs) (hb:w.heap.size≤b):OwNe v b:=by
 obtain ⟨ys,h1,_⟩:=h
 intro g n cap e
 rcases h1.2 with ⟨hn,_⟩ | ⟨g',cap',cur,he,_,hg,_⟩
 ·rw [hn] at e;cases e
 rw [he] at e;cases e
 have:=ze8 hg
 omega
theorem Ow.st {E:World→α→List Value→Prop} {ts:List TypeId} {T:TypeId} {c B b:Nat} {w w':World} {v:Value} {xs:List α} (h:Ow E T c w B v xs) (hS:zn8 E ts) (st:St w w' b) (hn:OwNe v b) (k:Kts ts w w'):Ow E T c w' B v xs:=by
 obtain ⟨ys,h1,h2⟩:=h
 refine ⟨ys,⟨h1.1,?_⟩,h2.kts hS k⟩
 rcases h1.2 with hv | ⟨g,cap,cur,rfl,hb,hg,hr⟩
 ·exact .inl hv
 exact .inr ⟨g,cap,cur,rfl,hb,by rw [st.block g (hn g _ _ rfl)];exact hg,hr⟩
theorem Ow.mono {E:World→α→List Value→Prop} {T:TypeId} {c B C:Nat} {w:World} {v:Value} {xs:List α} (h:Ow E T c w B v xs) (hC:C≤B):Ow E T c w C v xs:=by
 obtain ⟨ys,h1,h2⟩:=h
 refine ⟨ys,⟨h1.1,?_⟩,h2⟩
 rcases h1.2 with hn | ⟨g,cap,cur,rfl,hb,hg,hr⟩
 ·exact .inl hn
 exact .inr ⟨g,cap,cur,rfl,Nat.le_trans hC hb,hg,hr⟩
theorem zK2 {E:World→α→List Value→Prop} {ts:List TypeId} (hS:zn8 E ts) (s x:Operand) (t:TypeId) (T B:Nat) (z:Value) (v:Value) (xs:List α) (b:Nat) (us:List Value) (x0:α) (c cx:Nat) (d:Option Tmp) (bytes:Nat) (hd:o.dst=d)
  (ho:o.op=.call {callee:=.builtin .append,args:=#[s,x],argTypes:=#[t,t]}) (hs:a.eval s=v) (hx:a.eval x=.slice (some ⟨b,0,none⟩) 1 cx)
  (hown:Ow E T c w B v xs) (hL:Lc w b us.toArray T) (hu:One1 us) (hl:us.length=c) (hE:E w x0 us) (w0:World) (hB:Gr w0 w) (aa:w0.heap.size≤B) (hBw:B≤w.heap.size) (hn:xs.length≤1000000) (hbytes:bytes≤1000)
  (ht:P.underlying t=some (.slice T)) (hi:(P.info? T).map (fun i=>(i.zero,i.size,i.bytes))=some (some z,c,bytes)) (hzs:z.cells.size=c∧0<c) (hT:(ts.all fun t=>t !=T)=true)
  (h:∀ v' w',Ow E T c w' B v' (xs++[x0])→Wt T w w'→Gr w0 w'→K (a.put d v') w'):o.wp P a w K Q:=by
 subst hd
 obtain ⟨ys,hown,hEl⟩:=hown
 obtain ⟨i,hi,hz,hsize,hby⟩:=info_parts hi
 have ac:(xs.length+1)*bytes≤1000001*1000:=Nat.mul_le_mul (by omega) hbytes
 refine wp_append_own w s x t ho B T i z c bytes ht hi hz hsize hby hzs.1 hzs.2 v xs.length ys hs hown ⟨b,0,none⟩ 1 cx us hx (by omega) (fun j y hj=>?_) hu.all (by unfold maxLen;omega) (by omega) hBw ?_
 ·have e:(⟨b,0,none⟩:Addr).add j=⟨b,j,none⟩:=by by_cases h0:j=0<;>simp [Addr.add,h0]
  rw [e,zc1 hL];simpa using hj
 intro v' w' h2 hg _
 have hown':=hown
 have hnew:∀ k,v.ownBlock=some k→B≤k∧∃ cur,w.heap[k]?=some (.cells cur T (0,0)):=by
  intro k hk
  rcases hown'.2 with ⟨rfl,_⟩ | ⟨g,cap,cur,rfl,hb,hgg,_⟩
  ·simp [Value.ownBlock] at hk
  simp [Value.ownBlock] at hk
  subst hk;exact ⟨hb,cur,hgg⟩
 have hwt:Wt T w w':=⟨hg.os,hg.tape,hg.output,hg.size,fun k cs t fr ht hk=>by
  rw [hg.block k (ze8 hk) (fun e=>?_)]
  ·exact hk
  obtain ⟨_,cur,hc⟩:=hnew k e.symm
  rw [hk] at hc
  simp only [Option.some.injEq,Obj.cells.injEq] at hc
  exact ht hc.2.1⟩
 refine h v' w' ⟨_,by simpa using h2,(hEl.snoc hl hE).kts hS (hwt.kts hT)⟩ hwt ?_
 refine Below.trans hB ⟨hg.os,hg.tape,hg.output,hg.size,fun k hk=>hg.block k (Nat.lt_of_lt_of_le hk hB.size) (fun e=>?_)⟩
 have:=(hnew k e.symm).1
 omega
theorem ow_empty {E:World→α→List Value→Prop} {T:TypeId} {c:Nat} {w:World} {b B:Nat} (hL:Lc w b #[] T) (hB:B≤b):Ow E T c w B (.slice (some ⟨b,0,none⟩) 0 0) ([]:List α):=
 ⟨[],⟨by simp,.inr ⟨b,0,#[],rfl,hB,hL,Nat.le_refl _,by unfold maxLen;omega,by simp,by simp⟩⟩,Els.nil ..⟩
theorem Sl.cases {E:World→α→List Value→Prop} {T:TypeId} {c:Nat} {w:World} {v:Value} {xs:List α} (h:Sl E T c w v xs) (hc:0<c):xs=[]∨0<xs.length∧∃ b off cap,v=.slice (some ⟨b,off,none⟩) xs.length cap:=by
 cases xs with
 | nil=>exact .inl rfl
 | cons x xs=>exact .inr ⟨by simp,h.adr_some hc (by simp)⟩
end
def ETxt (_:World) (X:List UInt8) (vs:List Value):Prop:=vs=[ze3 X]
theorem zk7:zn8 ETxt []:=fun _ _ _ _ _ h=>h
def EI64 (_:World) (z:Int) (vs:List Value):Prop:=vs=[.int .i64 z]
theorem za2:zn8 EI64 []:=fun _ _ _ _ _ h=>h
def ERat (k:Nat) (w:World) (q:Rat) (vs:List Value):Prop:=∃ c0 c1 c2 c3,vs=[c0,c1,c2,c3]∧IsRat w k c0 c1 c2 c3 q
theorem za5 (k:Nat):zn8 (ERat k) [171]:=fun w w' _ _ hk h=>by
 obtain ⟨c0,c1,c2,c3,e,hq⟩:=h
 exact ⟨c0,c1,c2,c3,e,hq.kp (hk 171 (by simp))⟩
theorem yb3 (k:Nat) (hk:64≤k) (w:World):ERat k w 0 [.bool false,.slice none 0 0,.bool false,.slice none 0 0]:=⟨_,_,_,_,rfl,IsRat.zero w hk⟩
theorem ERat.mono {k m:Nat} {w:World} {q:Rat} {vs:List Value} (h:ERat k w q vs) (hk:k≤m):ERat m w q vs:=by
 obtain ⟨c0,c1,c2,c3,e,hq⟩:=h
 exact ⟨c0,c1,c2,c3,e,hq.mono hk⟩
def ERw {α:Type} (E:World→α→List Value→Prop) (T:TypeId) (c:Nat) (w:World) (x:List α) (vs:List Value):Prop:=∃ u,vs=[u]∧Sl E T c w u x
theorem za1 {α:Type} {E:World→α→List Value→Prop} {ts:List TypeId} (hS:zn8 E ts) (T:TypeId) (c:Nat):zn8 (ERw E T c) (T::ts):=fun _ _ _ _ hk h=>by
 obtain ⟨u,hu,hs⟩:=h
 exact ⟨u,hu,hs.kts hS hk⟩
theorem one_rw {α:Type} {E:World→α→List Value→Prop} {T:TypeId} {c:Nat} (w:World):∀ x vs,ERw E T c w x vs→∀ y ∈ vs,y.oneCell'=true:=fun x vs h y hy=>by
 obtain ⟨u,rfl,hs⟩:=h
 rw [List.mem_singleton.1 hy]
 exact hs.one
end Go.Proofs.YtjhflekncldflaaGreatDoor
namespace Go.Proofs.YtjhflekncldflaaGreatDoor
set_option maxRecDepth 100000
set_option maxHeartbeats 1000000
open Go.RowKit

theorem add_tt {k m:Nat} {u0 u1 u2 u3 v0 v1 v2 v3:Value} {a b:Rat} {w:World} (ha:IsRat w k u0 u1 u2 u3 a) (hb:IsRat w m v0 v1 v2 v3 b) (_hk:k+m≤100000) (wa:a.den=1) (wb:b.den=1):
    Calls Tryz.prog 80 #[.agg #[u0,u1,u2,u3],.agg #[v0,v1,v2,v3]] w fun e w'=>(∃ c0 c1 c2 c3,e=.returned (.agg #[c0,c1,c2,c3])∧IsRat w' (k+m+1) c0 c1 c2 c3 (a+b))∧Gr w w':=by
 have hka:=ha.big
 have hkb:=hb.big
 go_enter Tryz.func80,Tryz.ntmps80
 have hB:=Gr.refl w
 refine wp_seq_k (fun K1 k1=>rg [0,1,2] ?_)
 refine se ?_
 refine eb 62 #[u0,u1,u2,u3] 2 hB fun b2 w2 g2 L2 o2 q2 hB=>?_
 simp only [p3,p4]
 refine se ?_
 refine eb 62 #[v0,v1,v2,v3] 3 hB fun b3 w3 g3 L3 o3 q3 hB=>?_
 simp only [p3,p4]
 refine se ?_
 refine ea 62 #[.bool false,sN,.bool false,sN] 4 hB fun b4 w4 g4 L4 o4 q4 hB=>?_
 replace L2:=L2.gr g3
 simp only [p3,p4]
 refine za0 (k1 _ _ ?_)
 refine wp_seq_k (fun K5 k5=>wp_seq_k (fun K6 k6=>rg [0,1,2,3,4,5] ?_))
 replace L2:=L2.gr g4
 refine sw 5 (.agg #[u0,u1,u2,u3]) rfl (rl 62 0 [u0,u1,u2,u3] L2) ?_
 refine se ?_
 have aj:=g2.kp.trans (g3.kp.trans g4.kp)
 replace ha:=ha.kp aj
 refine ec 6 (zj4 ha (by omega) wa) ?_
 rintro e7 w7 ⟨rfl,g7⟩
 refine ⟨_,rfl,?_⟩
 replace hB:=hB.trans g7
 simp only [p3,p4]
 refine sv 7 (.bool true) ?_
 replace L3:=L3.gr (g4.trans g7)
 refine sw 8 (.agg #[v0,v1,v2,v3]) rfl (rl 62 0 [v0,v1,v2,v3] L3) ?_
 refine se ?_
 have ah:=g2.kp.trans (g3.kp.trans (g4.kp.trans g7.kp))
 replace hb:=hb.kp ah
 refine ec 9 (zj4 hb (by omega) wb) ?_
 rintro e9 w9 ⟨rfl,g9⟩
 refine ⟨_,rfl,?_⟩
 replace hB:=hB.trans g9
 simp only [p3,p4]
 refine sv 10 (.bool true) (za0 (k6 _ _ ?_))
 refine wp_cond_true rfl ?_
 refine wp_seq_k (fun ar ak=>rg [0,1,2,3,4,5,6] (sv 11 (pT b2 0) ?_))
 replace L2:=L2.gr (g7.trans g9)
 refine sw 12 (.agg #[u0,u1]) rfl (rl 60 0 [u0,u1] L2) ?_
 refine sv 13 (pT b3 0) ?_
 replace L3:=L3.gr g9
 refine sw 14 (.agg #[v0,v1]) rfl (rl 60 0 [v0,v1] L3) ?_
 refine se ?_
 have ae:=g7.kp.trans g9.kp
 replace ha:=ha.kp ae
 replace hb:=hb.kp g9.kp
 refine ec 15 (add_e (k+m) ha.num hb.num (by omega) (by omega) (by omega)) ?_
 rintro ap aq ⟨⟨aa,ac,rfl,ad⟩,ai⟩
 refine ⟨_,rfl,?_⟩
 replace hB:=hB.trans ai
 simp only [p3,p4]
 refine sv 16 (.agg #[aa,ac,.bool false,sN]) ?_
 refine se ?_
 replace L4:=L4.gr (g7.trans (g9.trans ai))
 refine es 62 0 (.agg #[aa,ac,.bool false,sN]) [aa,ac,.bool false,sN] #[aa,ac,.bool false,sN] L4 hB q4 ⟨ad.one0,ad.one1,rfl,rfl,trivial⟩ fun au al af L4 hB=>?_
 refine za0 (ak _ _ ?_)
 refine wp_ret ?_
 simp only [Exit.then]
 refine bodyPost_ret (v:=(.agg #[aa,ac,.bool false,sN])) (zc8 _ _ _ rfl rfl L4 (by kernel_rfl)) rfl ⟨?_,hB⟩
 replace ad:=ad.kp af
 exact ⟨_,_,_,_,rfl,by rw [← zx6 wa,← zx6 wb,← Rat.intCast_add];exact IsRat.int ad (by omega)⟩

theorem add_tf {k m:Nat} {u0 u1 u2 u3 v0 v1 v2 v3:Value} {a b:Rat} {w:World} (ha:IsRat w k u0 u1 u2 u3 a) (hb:IsRat w m v0 v1 v2 v3 b) (_hk:k+m≤100000) (wa:a.den=1) (wb:b.den≠1):
    Calls Tryz.prog 80 #[.agg #[u0,u1,u2,u3],.agg #[v0,v1,v2,v3]] w fun e w'=>(∃ c0 c1 c2 c3,e=.returned (.agg #[c0,c1,c2,c3])∧IsRat w' (k+m+1) c0 c1 c2 c3 (a+b))∧Gr w w':=by
 have hka:=ha.big
 have hkb:=hb.big
 go_enter Tryz.func80,Tryz.ntmps80
 have hB:=Gr.refl w
 refine wp_seq_k (fun K1 k1=>rg [0,1,2] ?_)
 refine se ?_
 refine eb 62 #[u0,u1,u2,u3] 2 hB fun b2 w2 g2 L2 o2 q2 hB=>?_
 simp only [p3,p4]
 refine se ?_
 refine eb 62 #[v0,v1,v2,v3] 3 hB fun b3 w3 g3 L3 o3 q3 hB=>?_
 simp only [p3,p4]
 refine se ?_
 refine ea 62 #[.bool false,sN,.bool false,sN] 4 hB fun b4 w4 g4 L4 o4 q4 hB=>?_
 replace L2:=L2.gr g3
 have aq:=L2.ne o4
 have ar:=L3.ne o4
 simp only [p3,p4]
 refine za0 (k1 _ _ ?_)
 refine wp_seq_k (fun K5 k5=>wp_seq_k (fun K6 k6=>rg [0,1,2,3,4,5] ?_))
 replace L2:=L2.gr g4
 refine sw 5 (.agg #[u0,u1,u2,u3]) rfl (rl 62 0 [u0,u1,u2,u3] L2) ?_
 refine se ?_
 have aP:=g2.kp.trans (g3.kp.trans g4.kp)
 replace ha:=ha.kp aP
 refine ec 6 (zj4 ha (by omega) wa) ?_
 rintro e7 w7 ⟨rfl,g7⟩
 refine ⟨_,rfl,?_⟩
 replace hB:=hB.trans g7
 simp only [p3,p4]
 refine sv 7 (.bool true) ?_
 replace L3:=L3.gr (g4.trans g7)
 refine sw 8 (.agg #[v0,v1,v2,v3]) rfl (rl 62 0 [v0,v1,v2,v3] L3) ?_
 refine se ?_
 have aK:=g2.kp.trans (g3.kp.trans (g4.kp.trans g7.kp))
 replace hb:=hb.kp aK
 refine ec 9 (zp2 hb (by omega) wb) ?_
 rintro e9 w9 ⟨rfl,g9⟩
 refine ⟨_,rfl,?_⟩
 replace hB:=hB.trans g9
 simp only [p3,p4]
 refine sv 10 (.bool false) (za0 (k6 _ _ ?_))
 refine wp_cond_false rfl ?_
 refine wp_skip ?_
 refine k5 _ _ ?_
 refine wp_seq_k (fun aV aQ=>?_)
 have aa:=Gr.drew w9
 replace hB:=hB.trans aa
 replace L2:=L2.gr (g7.trans (g9.trans aa))
 replace L3:=L3.gr (g9.trans aa)
 refine za4 (fun w'=>Lc w' b2 #[u0,u1,u2,u3] 62∧Lc w' b3 #[v0,v1,v2,v3] 62) [(true,0),(true,1),(true,2),(true,5),(true,6),(true,7),(true,11),(true,13),(false,3),(false,4),(false,8),(false,9),(false,10),(false,12),(false,14),(false,15),(false,16),(false,17)] (by kernel_rfl) (by kernel_rfl) (by kernel_rfl) (by decide) (fun _ _ _ _ _ h=>h) ⟨L2,L3⟩ ?_
 refine ov 17 (pT b2 0) ?_
 refine ow 18 (.agg #[u0,u1]) rfl (fun w' hS=>(rl 60 0 [u0,u1] hS.1)) ?_
 refine ow 19 (.agg #[v0,v1,v2,v3]) rfl (fun w' hS=>(rl 62 0 [v0,v1,v2,v3] hS.2)) ?_
 refine ov 22 (pT b3 0) ?_
 refine ow 23 (.agg #[v0,v1]) rfl (fun w' hS=>(rl 60 0 [v0,v1] hS.2)) ?_
 refine ow 24 (.agg #[u0,u1,u2,u3]) rfl (fun w' hS=>(rl 62 0 [u0,u1,u2,u3] hS.1)) ?_
 refine ow 28 (.agg #[u0,u1,u2,u3]) rfl (fun w' hS=>(rl 62 0 [u0,u1,u2,u3] hS.1)) ?_
 refine ow 30 (.agg #[v0,v1,v2,v3]) rfl (fun w' hS=>(rl 62 0 [v0,v1,v2,v3] hS.2)) ?_
 refine oe ?_
 have aC:=g9.kp.trans aa.kp
 replace hb:=hb.kp aC
 refine ec 20 (zn6 hb) ?_
 rintro bb bt ⟨⟨bl,aU,rfl,aM⟩,aj⟩
 refine ⟨_,rfl,?_⟩
 replace hB:=hB.trans aj
 replace L2:=L2.gr aj
 replace L3:=L3.gr aj
 refine ⟨⟨L2,L3⟩,?_⟩
 simp only [p3,p4]
 refine oe ?_
 have aH:=g7.kp.trans (g9.kp.trans (aa.kp.trans aj.kp))
 replace ha:=ha.kp aH
 refine ec 21 (zo8 ha.num aM (by omega)) ?_
 rintro bf bj ⟨⟨a5,aW,rfl,aJ⟩,ah⟩
 refine ⟨_,rfl,?_⟩
 replace hB:=hB.trans ah
 replace L2:=L2.gr ah
 replace L3:=L3.gr ah
 refine ⟨⟨L2,L3⟩,?_⟩
 simp only [p3,p4]
 refine oe ?_
 replace ha:=ha.kp ah.kp
 refine ec 25 (zn6 ha) ?_
 rintro a8 bs ⟨⟨ba,a2,rfl,aL⟩,ae⟩
 refine ⟨_,rfl,?_⟩
 replace hB:=hB.trans ae
 replace L2:=L2.gr ae
 replace L3:=L3.gr ae
 refine ⟨⟨L2,L3⟩,?_⟩
 simp only [p3,p4]
 refine oe ?_
 have az:=aj.kp.trans (ah.kp.trans ae.kp)
 replace hb:=hb.kp az
 refine ec 26 (zo8 hb.num aL (by omega)) ?_
 rintro bu aT ⟨⟨bi,bo,rfl,aR⟩,ad⟩
 refine ⟨_,rfl,?_⟩
 replace hB:=hB.trans ad
 replace L2:=L2.gr ad
 replace L3:=L3.gr ad
 refine ⟨⟨L2,L3⟩,?_⟩
 simp only [p3,p4]
 refine oe ?_
 have aG:=ae.kp.trans ad.kp
 replace aJ:=aJ.kp aG
 refine ec 27 (add_e (k+m) aJ aR (by omega) (by omega) (by omega)) ?_
 rintro bk aZ ⟨⟨a0,bp,rfl,aA⟩,ai⟩
 refine ⟨_,rfl,?_⟩
 replace hB:=hB.trans ai
 replace L2:=L2.gr ai
 replace L3:=L3.gr ai
 refine ⟨⟨L2,L3⟩,?_⟩
 simp only [p3,p4]
 refine oe ?_
 have aB:=ae.kp.trans (ad.kp.trans ai.kp)
 replace ha:=ha.kp aB
 refine ec 29 (zn6 ha) ?_
 rintro a3 bn ⟨⟨a9,br,rfl,aD⟩,ak⟩
 refine ⟨_,rfl,?_⟩
 replace hB:=hB.trans ak
 replace L2:=L2.gr ak
 replace L3:=L3.gr ak
 refine ⟨⟨L2,L3⟩,?_⟩
 simp only [p3,p4]
 refine oe ?_
 have aE:=ad.kp.trans (ai.kp.trans ak.kp)
 replace hb:=hb.kp aE
 refine ec 31 (zn6 hb) ?_
 rintro aY bm ⟨⟨aX,aS,rfl,aN⟩,af⟩
 refine ⟨_,rfl,?_⟩
 replace hB:=hB.trans af
 replace L2:=L2.gr af
 replace L3:=L3.gr af
 refine ⟨⟨L2,L3⟩,?_⟩
 simp only [p3,p4]
 refine oe ?_
 replace aD:=aD.kp af.kp
 refine ec 32 (zo8 aD aN (by omega)) ?_
 rintro bg a4 ⟨⟨a7,a6,rfl,aO⟩,al⟩
 refine ⟨_,rfl,?_⟩
 replace hB:=hB.trans al
 replace L2:=L2.gr al
 replace L3:=L3.gr al
 refine ⟨⟨L2,L3⟩,?_⟩
 simp only [p3,p4]
 refine oe ?_
 have aI:=ak.kp.trans (af.kp.trans al.kp)
 replace aA:=aA.kp aI
 refine ec 33 (zq9 (k+m+1) aA aO (Int.mul_pos (Int.natCast_pos.2 a.den_pos) (Int.natCast_pos.2 b.den_pos)) (by omega) (by omega) (by omega) (by omega)) ?_
 rintro bq bh ⟨⟨aw,ax,au,av,rfl,ac⟩,ay⟩
 refine ⟨_,rfl,?_⟩
 replace hB:=hB.trans ay
 replace L2:=L2.gr ay
 replace L3:=L3.gr ay
 refine ⟨⟨L2,L3⟩,?_⟩
 simp only [p3,p4]
 refine oe ?_
 replace L4:=L4.gr (g7.trans (g9.trans (aa.trans (aj.trans (ah.trans (ae.trans (ad.trans (ai.trans (ak.trans (af.trans (al.trans ay)))))))))))
 refine es 62 0 (.agg #[aw,ax,au,av]) [aw,ax,au,av] #[aw,ax,au,av] L4 hB q4 ⟨ac.one0,ac.one1,ac.one2,ac.one3,trivial⟩ fun a1 ap aF L4 hB=>?_
 replace L2:=ap.lc L2 aq
 replace L3:=ap.lc L3 ar
 refine ⟨⟨L2,L3⟩,?_⟩
 refine zb4 ?_
 refine aQ _ _ ?_
 refine wp_ret ?_
 refine bodyPost_ret (v:=(.agg #[aw,ax,au,av])) (zc8 _ _ _ rfl rfl L4 (by kernel_rfl)) rfl ⟨?_,hB⟩
 replace ac:=ac.kp aF
 exact ⟨_,_,_,_,rfl,by rw [← zZ7];exact ac⟩

theorem add_f {k m:Nat} {u0 u1 u2 u3 v0 v1 v2 v3:Value} {a b:Rat} {w:World} (ha:IsRat w k u0 u1 u2 u3 a) (hb:IsRat w m v0 v1 v2 v3 b) (_hk:k+m≤100000) (wa:a.den≠1):
    Calls Tryz.prog 80 #[.agg #[u0,u1,u2,u3],.agg #[v0,v1,v2,v3]] w fun e w'=>(∃ c0 c1 c2 c3,e=.returned (.agg #[c0,c1,c2,c3])∧IsRat w' (k+m+1) c0 c1 c2 c3 (a+b))∧Gr w w':=by
 have hka:=ha.big
 have hkb:=hb.big
 go_enter Tryz.func80,Tryz.ntmps80
 have hB:=Gr.refl w
 refine wp_seq_k (fun K1 k1=>rg [0,1,2] ?_)
 refine se ?_
 refine eb 62 #[u0,u1,u2,u3] 2 hB fun b2 w2 g2 L2 o2 q2 hB=>?_
 simp only [p3,p4]
 refine se ?_
 refine eb 62 #[v0,v1,v2,v3] 3 hB fun b3 w3 g3 L3 o3 q3 hB=>?_
 simp only [p3,p4]
 refine se ?_
 refine ea 62 #[.bool false,sN,.bool false,sN] 4 hB fun b4 w4 g4 L4 o4 q4 hB=>?_
 replace L2:=L2.gr g3
 have aq:=L2.ne o4
 have ar:=L3.ne o4
 simp only [p3,p4]
 refine za0 (k1 _ _ ?_)
 refine wp_seq_k (fun K5 k5=>wp_seq_k (fun K6 k6=>rg [0,1,2,3,4,5] ?_))
 replace L2:=L2.gr g4
 refine sw 5 (.agg #[u0,u1,u2,u3]) rfl (rl 62 0 [u0,u1,u2,u3] L2) ?_
 refine se ?_
 have aO:=g2.kp.trans (g3.kp.trans g4.kp)
 replace ha:=ha.kp aO
 refine ec 6 (zp2 ha (by omega) wa) ?_
 rintro e7 w7 ⟨rfl,g7⟩
 refine ⟨_,rfl,?_⟩
 replace hB:=hB.trans g7
 simp only [p3,p4]
 refine sv 7 (.bool false) ?_
 refine ss 8 ?_
 refine ss 9 ?_
 refine sv 10 (.bool false) (za0 (k6 _ _ ?_))
 refine wp_cond_false rfl ?_
 refine wp_skip ?_
 refine k5 _ _ ?_
 refine wp_seq_k (fun K9 k9=>?_)
 have aa:=Gr.drew w7
 replace hB:=hB.trans aa
 replace L2:=L2.gr (g7.trans aa)
 replace L3:=L3.gr (g4.trans (g7.trans aa))
 refine za4 (fun w'=>Lc w' b2 #[u0,u1,u2,u3] 62∧Lc w' b3 #[v0,v1,v2,v3] 62) [(true,0),(true,1),(true,2),(true,5),(true,6),(true,7),(true,11),(true,13),(false,3),(false,4),(false,8),(false,9),(false,10),(false,12),(false,14),(false,15),(false,16),(false,17)] (by kernel_rfl) (by kernel_rfl) (by kernel_rfl) (by decide) (fun _ _ _ _ _ h=>h) ⟨L2,L3⟩ ?_
 refine ov 17 (pT b2 0) ?_
 refine ow 18 (.agg #[u0,u1]) rfl (fun w' hS=>(rl 60 0 [u0,u1] hS.1)) ?_
 refine ow 19 (.agg #[v0,v1,v2,v3]) rfl (fun w' hS=>(rl 62 0 [v0,v1,v2,v3] hS.2)) ?_
 refine ov 22 (pT b3 0) ?_
 refine ow 23 (.agg #[v0,v1]) rfl (fun w' hS=>(rl 60 0 [v0,v1] hS.2)) ?_
 refine ow 24 (.agg #[u0,u1,u2,u3]) rfl (fun w' hS=>(rl 62 0 [u0,u1,u2,u3] hS.1)) ?_
 refine ow 28 (.agg #[u0,u1,u2,u3]) rfl (fun w' hS=>(rl 62 0 [u0,u1,u2,u3] hS.1)) ?_
 refine ow 30 (.agg #[v0,v1,v2,v3]) rfl (fun w' hS=>(rl 62 0 [v0,v1,v2,v3] hS.2)) ?_
 refine oe ?_
 have aJ:=g2.kp.trans (g3.kp.trans (g4.kp.trans (g7.kp.trans aa.kp)))
 replace hb:=hb.kp aJ
 refine ec 20 (zn6 hb) ?_
 rintro bb br ⟨⟨bk,a8,rfl,aP⟩,af⟩
 refine ⟨_,rfl,?_⟩
 replace hB:=hB.trans af
 replace L2:=L2.gr af
 replace L3:=L3.gr af
 refine ⟨⟨L2,L3⟩,?_⟩
 simp only [p3,p4]
 refine oe ?_
 have az:=g7.kp.trans (aa.kp.trans af.kp)
 replace ha:=ha.kp az
 refine ec 21 (zo8 ha.num aP (by omega)) ?_
 rintro bg a9 ⟨⟨bo,bq,rfl,aB⟩,aj⟩
 refine ⟨_,rfl,?_⟩
 replace hB:=hB.trans aj
 replace L2:=L2.gr aj
 replace L3:=L3.gr aj
 refine ⟨⟨L2,L3⟩,?_⟩
 simp only [p3,p4]
 refine oe ?_
 replace ha:=ha.kp aj.kp
 refine ec 25 (zn6 ha) ?_
 rintro a5 aU ⟨⟨aR,aY,rfl,aM⟩,ac⟩
 refine ⟨_,rfl,?_⟩
 replace hB:=hB.trans ac
 replace L2:=L2.gr ac
 replace L3:=L3.gr ac
 refine ⟨⟨L2,L3⟩,?_⟩
 simp only [p3,p4]
 refine oe ?_
 have aF:=af.kp.trans (aj.kp.trans ac.kp)
 replace hb:=hb.kp aF
 refine ec 26 (zo8 hb.num aM (by omega)) ?_
 rintro a1 bl ⟨⟨a2,aW,rfl,aK⟩,ae⟩
 refine ⟨_,rfl,?_⟩
 replace hB:=hB.trans ae
 replace L2:=L2.gr ae
 replace L3:=L3.gr ae
 refine ⟨⟨L2,L3⟩,?_⟩
 simp only [p3,p4]
 refine oe ?_
 have aA:=ac.kp.trans ae.kp
 replace aB:=aB.kp aA
 refine ec 27 (add_e (k+m) aB aK (by omega) (by omega) (by omega)) ?_
 rintro bf a0 ⟨⟨ba,aV,rfl,aE⟩,ah⟩
 refine ⟨_,rfl,?_⟩
 replace hB:=hB.trans ah
 replace L2:=L2.gr ah
 replace L3:=L3.gr ah
 refine ⟨⟨L2,L3⟩,?_⟩
 simp only [p3,p4]
 refine oe ?_
 have aD:=ac.kp.trans (ae.kp.trans ah.kp)
 replace ha:=ha.kp aD
 refine ec 29 (zn6 ha) ?_
 rintro aQ a7 ⟨⟨bm,a6,rfl,aC⟩,ak⟩
 refine ⟨_,rfl,?_⟩
 replace hB:=hB.trans ak
 replace L2:=L2.gr ak
 replace L3:=L3.gr ak
 refine ⟨⟨L2,L3⟩,?_⟩
 simp only [p3,p4]
 refine oe ?_
 have aG:=ae.kp.trans (ah.kp.trans ak.kp)
 replace hb:=hb.kp aG
 refine ec 31 (zn6 hb) ?_
 rintro bi bh ⟨⟨bp,aZ,rfl,aL⟩,ai⟩
 refine ⟨_,rfl,?_⟩
 replace hB:=hB.trans ai
 replace L2:=L2.gr ai
 replace L3:=L3.gr ai
 refine ⟨⟨L2,L3⟩,?_⟩
 simp only [p3,p4]
 refine oe ?_
 replace aC:=aC.kp ai.kp
 refine ec 32 (zo8 aC aL (by omega)) ?_
 rintro aT bn ⟨⟨aS,bj,rfl,aN⟩,ap⟩
 refine ⟨_,rfl,?_⟩
 replace hB:=hB.trans ap
 replace L2:=L2.gr ap
 replace L3:=L3.gr ap
 refine ⟨⟨L2,L3⟩,?_⟩
 simp only [p3,p4]
 refine oe ?_
 have aI:=ak.kp.trans (ai.kp.trans ap.kp)
 replace aE:=aE.kp aI
 refine ec 33 (zq9 (k+m+1) aE aN (Int.mul_pos (Int.natCast_pos.2 a.den_pos) (Int.natCast_pos.2 b.den_pos)) (by omega) (by omega) (by omega) (by omega)) ?_
 rintro a3 aX ⟨⟨aw,ax,ay,av,rfl,ad⟩,au⟩
 refine ⟨_,rfl,?_⟩
 replace hB:=hB.trans au
 replace L2:=L2.gr au
 replace L3:=L3.gr au
 refine ⟨⟨L2,L3⟩,?_⟩
 simp only [p3,p4]
 refine oe ?_
 replace L4:=L4.gr (g7.trans (aa.trans (af.trans (aj.trans (ac.trans (ae.trans (ah.trans (ak.trans (ai.trans (ap.trans au))))))))))
 refine es 62 0 (.agg #[aw,ax,ay,av]) [aw,ax,ay,av] #[aw,ax,ay,av] L4 hB q4 ⟨ad.one0,ad.one1,ad.one2,ad.one3,trivial⟩ fun a4 al aH L4 hB=>?_
 replace L2:=al.lc L2 aq
 replace L3:=al.lc L3 ar
 refine ⟨⟨L2,L3⟩,?_⟩
 refine zb4 ?_
 refine k9 _ _ ?_
 refine wp_ret ?_
 refine bodyPost_ret (v:=(.agg #[aw,ax,ay,av])) (zc8 _ _ _ rfl rfl L4 (by kernel_rfl)) rfl ⟨?_,hB⟩
 replace ad:=ad.kp aH
 exact ⟨_,_,_,_,rfl,by rw [← zZ7];exact ad⟩

theorem add_r {k m:Nat} {u0 u1 u2 u3 v0 v1 v2 v3:Value} {a b:Rat} {w:World} (ha:IsRat w k u0 u1 u2 u3 a) (hb:IsRat w m v0 v1 v2 v3 b) (hk:k+m≤100000):
  Calls Tryz.prog 80 #[.agg #[u0,u1,u2,u3],.agg #[v0,v1,v2,v3]] w fun e w'=>(∃ c0 c1 c2 c3,e=.returned (.agg #[c0,c1,c2,c3])∧IsRat w' (k+m+1) c0 c1 c2 c3 (a+b))∧Gr w w':=by
 by_cases wa:a.den=1
 ·by_cases wb:b.den=1
  ·exact add_tt ha hb hk wa wb
  exact add_tf ha hb hk wa wb
 exact add_f ha hb hk wa

theorem mul_tt {k m:Nat} {u0 u1 u2 u3 v0 v1 v2 v3:Value} {a b:Rat} {w:World} (ha:IsRat w k u0 u1 u2 u3 a) (hb:IsRat w m v0 v1 v2 v3 b) (_hk:k+m≤100000) (wa:a.den=1) (wb:b.den=1):
    Calls Tryz.prog 79 #[.agg #[u0,u1,u2,u3],.agg #[v0,v1,v2,v3]] w fun e w'=>(∃ c0 c1 c2 c3,e=.returned (.agg #[c0,c1,c2,c3])∧IsRat w' (k+m) c0 c1 c2 c3 (a*b))∧Gr w w':=by
 have hka:=ha.big
 have hkb:=hb.big
 go_enter Tryz.func79,Tryz.ntmps79
 have hB:=Gr.refl w
 refine wp_seq_k (fun K1 k1=>rg [0,1,2] ?_)
 refine se ?_
 refine eb 62 #[u0,u1,u2,u3] 2 hB fun b2 w2 g2 L2 o2 q2 hB=>?_
 simp only [p3,p4]
 refine se ?_
 refine eb 62 #[v0,v1,v2,v3] 3 hB fun b3 w3 g3 L3 o3 q3 hB=>?_
 simp only [p3,p4]
 refine se ?_
 refine ea 62 #[.bool false,sN,.bool false,sN] 4 hB fun b4 w4 g4 L4 o4 q4 hB=>?_
 replace L2:=L2.gr g3
 simp only [p3,p4]
 refine za0 (k1 _ _ ?_)
 refine wp_seq_k (fun K5 k5=>wp_seq_k (fun K6 k6=>rg [0,1,2,3,4,5] ?_))
 replace L2:=L2.gr g4
 refine sw 5 (.agg #[u0,u1,u2,u3]) rfl (rl 62 0 [u0,u1,u2,u3] L2) ?_
 refine se ?_
 have aj:=g2.kp.trans (g3.kp.trans g4.kp)
 replace ha:=ha.kp aj
 refine ec 6 (zj4 ha (by omega) wa) ?_
 rintro e7 w7 ⟨rfl,g7⟩
 refine ⟨_,rfl,?_⟩
 replace hB:=hB.trans g7
 simp only [p3,p4]
 refine sv 7 (.bool true) ?_
 replace L3:=L3.gr (g4.trans g7)
 refine sw 8 (.agg #[v0,v1,v2,v3]) rfl (rl 62 0 [v0,v1,v2,v3] L3) ?_
 refine se ?_
 have ah:=g2.kp.trans (g3.kp.trans (g4.kp.trans g7.kp))
 replace hb:=hb.kp ah
 refine ec 9 (zj4 hb (by omega) wb) ?_
 rintro e9 w9 ⟨rfl,g9⟩
 refine ⟨_,rfl,?_⟩
 replace hB:=hB.trans g9
 simp only [p3,p4]
 refine sv 10 (.bool true) (za0 (k6 _ _ ?_))
 refine wp_cond_true rfl ?_
 refine wp_seq_k (fun ar ak=>rg [0,1,2,3,4,5,6] (sv 11 (pT b2 0) ?_))
 replace L2:=L2.gr (g7.trans g9)
 refine sw 12 (.agg #[u0,u1]) rfl (rl 60 0 [u0,u1] L2) ?_
 refine sv 13 (pT b3 0) ?_
 replace L3:=L3.gr g9
 refine sw 14 (.agg #[v0,v1]) rfl (rl 60 0 [v0,v1] L3) ?_
 refine se ?_
 have ae:=g7.kp.trans g9.kp
 replace ha:=ha.kp ae
 replace hb:=hb.kp g9.kp
 refine ec 15 (zo8 ha.num hb.num (by omega)) ?_
 rintro ap aq ⟨⟨aa,ac,rfl,ad⟩,ai⟩
 refine ⟨_,rfl,?_⟩
 replace hB:=hB.trans ai
 simp only [p3,p4]
 refine sv 16 (.agg #[aa,ac,.bool false,sN]) ?_
 refine se ?_
 replace L4:=L4.gr (g7.trans (g9.trans ai))
 refine es 62 0 (.agg #[aa,ac,.bool false,sN]) [aa,ac,.bool false,sN] #[aa,ac,.bool false,sN] L4 hB q4 ⟨ad.one0,ad.one1,rfl,rfl,trivial⟩ fun au al af L4 hB=>?_
 refine za0 (ak _ _ ?_)
 refine wp_ret ?_
 simp only [Exit.then]
 refine bodyPost_ret (v:=(.agg #[aa,ac,.bool false,sN])) (zc8 _ _ _ rfl rfl L4 (by kernel_rfl)) rfl ⟨?_,hB⟩
 replace ad:=ad.kp af
 exact ⟨_,_,_,_,rfl,by rw [← zx6 wa,← zx6 wb,← Rat.intCast_mul];exact IsRat.int ad (by omega)⟩

theorem mul_tf {k m:Nat} {u0 u1 u2 u3 v0 v1 v2 v3:Value} {a b:Rat} {w:World} (ha:IsRat w k u0 u1 u2 u3 a) (hb:IsRat w m v0 v1 v2 v3 b) (_hk:k+m≤100000) (wa:a.den=1) (wb:b.den≠1):
    Calls Tryz.prog 79 #[.agg #[u0,u1,u2,u3],.agg #[v0,v1,v2,v3]] w fun e w'=>(∃ c0 c1 c2 c3,e=.returned (.agg #[c0,c1,c2,c3])∧IsRat w' (k+m) c0 c1 c2 c3 (a*b))∧Gr w w':=by
 have hka:=ha.big
 have hkb:=hb.big
 go_enter Tryz.func79,Tryz.ntmps79
 have hB:=Gr.refl w
 refine wp_seq_k (fun K1 k1=>rg [0,1,2] ?_)
 refine se ?_
 refine eb 62 #[u0,u1,u2,u3] 2 hB fun b2 w2 g2 L2 o2 q2 hB=>?_
 simp only [p3,p4]
 refine se ?_
 refine eb 62 #[v0,v1,v2,v3] 3 hB fun b3 w3 g3 L3 o3 q3 hB=>?_
 simp only [p3,p4]
 refine se ?_
 refine ea 62 #[.bool false,sN,.bool false,sN] 4 hB fun b4 w4 g4 L4 o4 q4 hB=>?_
 replace L2:=L2.gr g3
 have aj:=L2.ne o4
 have ak:=L3.ne o4
 simp only [p3,p4]
 refine za0 (k1 _ _ ?_)
 refine wp_seq_k (fun K5 k5=>wp_seq_k (fun K6 k6=>rg [0,1,2,3,4,5] ?_))
 replace L2:=L2.gr g4
 refine sw 5 (.agg #[u0,u1,u2,u3]) rfl (rl 62 0 [u0,u1,u2,u3] L2) ?_
 refine se ?_
 have aE:=g2.kp.trans (g3.kp.trans g4.kp)
 replace ha:=ha.kp aE
 refine ec 6 (zj4 ha (by omega) wa) ?_
 rintro e7 w7 ⟨rfl,g7⟩
 refine ⟨_,rfl,?_⟩
 replace hB:=hB.trans g7
 simp only [p3,p4]
 refine sv 7 (.bool true) ?_
 replace L3:=L3.gr (g4.trans g7)
 refine sw 8 (.agg #[v0,v1,v2,v3]) rfl (rl 62 0 [v0,v1,v2,v3] L3) ?_
 refine se ?_
 have aC:=g2.kp.trans (g3.kp.trans (g4.kp.trans g7.kp))
 replace hb:=hb.kp aC
 refine ec 9 (zp2 hb (by omega) wb) ?_
 rintro e9 w9 ⟨rfl,g9⟩
 refine ⟨_,rfl,?_⟩
 replace hB:=hB.trans g9
 simp only [p3,p4]
 refine sv 10 (.bool false) (za0 (k6 _ _ ?_))
 refine wp_cond_false rfl ?_
 refine wp_skip ?_
 refine k5 _ _ ?_
 refine wp_seq_k (fun aH aG=>?_)
 have aa:=Gr.drew w9
 replace hB:=hB.trans aa
 replace L2:=L2.gr (g7.trans (g9.trans aa))
 replace L3:=L3.gr (g9.trans aa)
 refine za4 (fun w'=>Lc w' b2 #[u0,u1,u2,u3] 62∧Lc w' b3 #[v0,v1,v2,v3] 62) [(true,0),(true,1),(true,2),(true,3),(true,5),(true,7),(false,4),(false,6),(false,8),(false,9),(false,10),(false,11)] (by kernel_rfl) (by kernel_rfl) (by kernel_rfl) (by decide) (fun _ _ _ _ _ h=>h) ⟨L2,L3⟩ ?_
 refine ov 17 (pT b2 0) ?_
 refine ow 18 (.agg #[u0,u1]) rfl (fun w' hS=>(rl 60 0 [u0,u1] hS.1)) ?_
 refine ov 19 (pT b3 0) ?_
 refine ow 20 (.agg #[v0,v1]) rfl (fun w' hS=>(rl 60 0 [v0,v1] hS.2)) ?_
 refine ow 22 (.agg #[u0,u1,u2,u3]) rfl (fun w' hS=>(rl 62 0 [u0,u1,u2,u3] hS.1)) ?_
 refine ow 24 (.agg #[v0,v1,v2,v3]) rfl (fun w' hS=>(rl 62 0 [v0,v1,v2,v3] hS.2)) ?_
 refine oe ?_
 have av:=g7.kp.trans (g9.kp.trans aa.kp)
 replace ha:=ha.kp av
 have az:=g9.kp.trans aa.kp
 replace hb:=hb.kp az
 refine ec 21 (zo8 ha.num hb.num (by omega)) ?_
 rintro aZ aS ⟨⟨aV,aL,rfl,aA⟩,ad⟩
 refine ⟨_,rfl,?_⟩
 replace hB:=hB.trans ad
 replace L2:=L2.gr ad
 replace L3:=L3.gr ad
 refine ⟨⟨L2,L3⟩,?_⟩
 simp only [p3,p4]
 refine oe ?_
 replace ha:=ha.kp ad.kp
 refine ec 23 (zn6 ha) ?_
 rintro aK aU ⟨⟨aJ,aT,rfl,aB⟩,ae⟩
 refine ⟨_,rfl,?_⟩
 replace hB:=hB.trans ae
 replace L2:=L2.gr ae
 replace L3:=L3.gr ae
 refine ⟨⟨L2,L3⟩,?_⟩
 simp only [p3,p4]
 refine oe ?_
 have ay:=ad.kp.trans ae.kp
 replace hb:=hb.kp ay
 refine ec 25 (zn6 hb) ?_
 rintro aI aX ⟨⟨aP,aQ,rfl,aD⟩,af⟩
 refine ⟨_,rfl,?_⟩
 replace hB:=hB.trans af
 replace L2:=L2.gr af
 replace L3:=L3.gr af
 refine ⟨⟨L2,L3⟩,?_⟩
 simp only [p3,p4]
 refine oe ?_
 replace aB:=aB.kp af.kp
 refine ec 26 (zo8 aB aD (by omega)) ?_
 rintro aR a0 ⟨⟨aW,aO,rfl,aF⟩,ah⟩
 refine ⟨_,rfl,?_⟩
 replace hB:=hB.trans ah
 replace L2:=L2.gr ah
 replace L3:=L3.gr ah
 refine ⟨⟨L2,L3⟩,?_⟩
 simp only [p3,p4]
 refine oe ?_
 have aw:=ae.kp.trans (af.kp.trans ah.kp)
 replace aA:=aA.kp aw
 refine ec 27 (zq9 (k+m) aA aF (Int.mul_pos (Int.natCast_pos.2 a.den_pos) (Int.natCast_pos.2 b.den_pos)) (by omega) (by omega) (by omega) (by omega)) ?_
 rintro aM aY ⟨⟨ar,au,al,ap,rfl,ac⟩,aq⟩
 refine ⟨_,rfl,?_⟩
 replace hB:=hB.trans aq
 replace L2:=L2.gr aq
 replace L3:=L3.gr aq
 refine ⟨⟨L2,L3⟩,?_⟩
 simp only [p3,p4]
 refine oe ?_
 replace L4:=L4.gr (g7.trans (g9.trans (aa.trans (ad.trans (ae.trans (af.trans (ah.trans aq)))))))
 refine es 62 0 (.agg #[ar,au,al,ap]) [ar,au,al,ap] #[ar,au,al,ap] L4 hB q4 ⟨ac.one0,ac.one1,ac.one2,ac.one3,trivial⟩ fun aN ai ax L4 hB=>?_
 replace L2:=ai.lc L2 aj
 replace L3:=ai.lc L3 ak
 refine ⟨⟨L2,L3⟩,?_⟩
 refine zb4 ?_
 refine aG _ _ ?_
 refine wp_ret ?_
 refine bodyPost_ret (v:=(.agg #[ar,au,al,ap])) (zc8 _ _ _ rfl rfl L4 (by kernel_rfl)) rfl ⟨?_,hB⟩
 replace ac:=ac.kp ax
 exact ⟨_,_,_,_,rfl,by rw [← zZ8];exact ac⟩

theorem mul_f {k m:Nat} {u0 u1 u2 u3 v0 v1 v2 v3:Value} {a b:Rat} {w:World} (ha:IsRat w k u0 u1 u2 u3 a) (hb:IsRat w m v0 v1 v2 v3 b) (_hk:k+m≤100000) (wa:a.den≠1):
    Calls Tryz.prog 79 #[.agg #[u0,u1,u2,u3],.agg #[v0,v1,v2,v3]] w fun e w'=>(∃ c0 c1 c2 c3,e=.returned (.agg #[c0,c1,c2,c3])∧IsRat w' (k+m) c0 c1 c2 c3 (a*b))∧Gr w w':=by
 have hka:=ha.big
 have hkb:=hb.big
 go_enter Tryz.func79,Tryz.ntmps79
 have hB:=Gr.refl w
 refine wp_seq_k (fun K1 k1=>rg [0,1,2] ?_)
 refine se ?_
 refine eb 62 #[u0,u1,u2,u3] 2 hB fun b2 w2 g2 L2 o2 q2 hB=>?_
 simp only [p3,p4]
 refine se ?_
 refine eb 62 #[v0,v1,v2,v3] 3 hB fun b3 w3 g3 L3 o3 q3 hB=>?_
 simp only [p3,p4]
 refine se ?_
 refine ea 62 #[.bool false,sN,.bool false,sN] 4 hB fun b4 w4 g4 L4 o4 q4 hB=>?_
 replace L2:=L2.gr g3
 have ah:=L2.ne o4
 have ai:=L3.ne o4
 simp only [p3,p4]
 refine za0 (k1 _ _ ?_)
 refine wp_seq_k (fun K5 k5=>wp_seq_k (fun K6 k6=>rg [0,1,2,3,4,5] ?_))
 replace L2:=L2.gr g4
 refine sw 5 (.agg #[u0,u1,u2,u3]) rfl (rl 62 0 [u0,u1,u2,u3] L2) ?_
 refine se ?_
 have aE:=g2.kp.trans (g3.kp.trans g4.kp)
 replace ha:=ha.kp aE
 refine ec 6 (zp2 ha (by omega) wa) ?_
 rintro e7 w7 ⟨rfl,g7⟩
 refine ⟨_,rfl,?_⟩
 replace hB:=hB.trans g7
 simp only [p3,p4]
 refine sv 7 (.bool false) ?_
 refine ss 8 ?_
 refine ss 9 ?_
 refine sv 10 (.bool false) (za0 (k6 _ _ ?_))
 refine wp_cond_false rfl ?_
 refine wp_skip ?_
 refine k5 _ _ ?_
 refine wp_seq_k (fun K9 k9=>?_)
 have aa:=Gr.drew w7
 replace hB:=hB.trans aa
 replace L2:=L2.gr (g7.trans aa)
 replace L3:=L3.gr (g4.trans (g7.trans aa))
 refine za4 (fun w'=>Lc w' b2 #[u0,u1,u2,u3] 62∧Lc w' b3 #[v0,v1,v2,v3] 62) [(true,0),(true,1),(true,2),(true,3),(true,5),(true,7),(false,4),(false,6),(false,8),(false,9),(false,10),(false,11)] (by kernel_rfl) (by kernel_rfl) (by kernel_rfl) (by decide) (fun _ _ _ _ _ h=>h) ⟨L2,L3⟩ ?_
 refine ov 17 (pT b2 0) ?_
 refine ow 18 (.agg #[u0,u1]) rfl (fun w' hS=>(rl 60 0 [u0,u1] hS.1)) ?_
 refine ov 19 (pT b3 0) ?_
 refine ow 20 (.agg #[v0,v1]) rfl (fun w' hS=>(rl 60 0 [v0,v1] hS.2)) ?_
 refine ow 22 (.agg #[u0,u1,u2,u3]) rfl (fun w' hS=>(rl 62 0 [u0,u1,u2,u3] hS.1)) ?_
 refine ow 24 (.agg #[v0,v1,v2,v3]) rfl (fun w' hS=>(rl 62 0 [v0,v1,v2,v3] hS.2)) ?_
 refine oe ?_
 have aB:=g7.kp.trans aa.kp
 replace ha:=ha.kp aB
 have aw:=g2.kp.trans (g3.kp.trans (g4.kp.trans (g7.kp.trans aa.kp)))
 replace hb:=hb.kp aw
 refine ec 21 (zo8 ha.num hb.num (by omega)) ?_
 rintro aL aT ⟨⟨aU,aP,rfl,ay⟩,ae⟩
 refine ⟨_,rfl,?_⟩
 replace hB:=hB.trans ae
 replace L2:=L2.gr ae
 replace L3:=L3.gr ae
 refine ⟨⟨L2,L3⟩,?_⟩
 simp only [p3,p4]
 refine oe ?_
 replace ha:=ha.kp ae.kp
 refine ec 23 (zn6 ha) ?_
 rintro aF aM ⟨⟨aG,aK,rfl,av⟩,ad⟩
 refine ⟨_,rfl,?_⟩
 replace hB:=hB.trans ad
 replace L2:=L2.gr ad
 replace L3:=L3.gr ad
 refine ⟨⟨L2,L3⟩,?_⟩
 simp only [p3,p4]
 refine oe ?_
 have az:=ae.kp.trans ad.kp
 replace hb:=hb.kp az
 refine ec 25 (zn6 hb) ?_
 rintro aJ aR ⟨⟨aI,aQ,rfl,aD⟩,af⟩
 refine ⟨_,rfl,?_⟩
 replace hB:=hB.trans af
 replace L2:=L2.gr af
 replace L3:=L3.gr af
 refine ⟨⟨L2,L3⟩,?_⟩
 simp only [p3,p4]
 refine oe ?_
 replace av:=av.kp af.kp
 refine ec 26 (zo8 av aD (by omega)) ?_
 rintro aH aW ⟨⟨aV,aS,rfl,aC⟩,ak⟩
 refine ⟨_,rfl,?_⟩
 replace hB:=hB.trans ak
 replace L2:=L2.gr ak
 replace L3:=L3.gr ak
 refine ⟨⟨L2,L3⟩,?_⟩
 simp only [p3,p4]
 refine oe ?_
 have aA:=ad.kp.trans (af.kp.trans ak.kp)
 replace ay:=ay.kp aA
 refine ec 27 (zq9 (k+m) ay aC (Int.mul_pos (Int.natCast_pos.2 a.den_pos) (Int.natCast_pos.2 b.den_pos)) (by omega) (by omega) (by omega) (by omega)) ?_
 rintro aO aX ⟨⟨aq,ap,au,ar,rfl,ac⟩,al⟩
 refine ⟨_,rfl,?_⟩
 replace hB:=hB.trans al
 replace L2:=L2.gr al
 replace L3:=L3.gr al
 refine ⟨⟨L2,L3⟩,?_⟩
 simp only [p3,p4]
 refine oe ?_
 replace L4:=L4.gr (g7.trans (aa.trans (ae.trans (ad.trans (af.trans (ak.trans al))))))
 refine es 62 0 (.agg #[aq,ap,au,ar]) [aq,ap,au,ar] #[aq,ap,au,ar] L4 hB q4 ⟨ac.one0,ac.one1,ac.one2,ac.one3,trivial⟩ fun aN aj ax L4 hB=>?_
 replace L2:=aj.lc L2 ah
 replace L3:=aj.lc L3 ai
 refine ⟨⟨L2,L3⟩,?_⟩
 refine zb4 ?_
 refine k9 _ _ ?_
 refine wp_ret ?_
 refine bodyPost_ret (v:=(.agg #[aq,ap,au,ar])) (zc8 _ _ _ rfl rfl L4 (by kernel_rfl)) rfl ⟨?_,hB⟩
 replace ac:=ac.kp ax
 exact ⟨_,_,_,_,rfl,by rw [← zZ8];exact ac⟩

theorem mul_r {k m:Nat} {u0 u1 u2 u3 v0 v1 v2 v3:Value} {a b:Rat} {w:World} (ha:IsRat w k u0 u1 u2 u3 a) (hb:IsRat w m v0 v1 v2 v3 b) (hk:k+m≤100000):
  Calls Tryz.prog 79 #[.agg #[u0,u1,u2,u3],.agg #[v0,v1,v2,v3]] w fun e w'=>(∃ c0 c1 c2 c3,e=.returned (.agg #[c0,c1,c2,c3])∧IsRat w' (k+m) c0 c1 c2 c3 (a*b))∧Gr w w':=by
 by_cases wa:a.den=1
 ·by_cases wb:b.den=1
  ·exact mul_tt ha hb hk wa wb
  exact mul_tf ha hb hk wa wb
 exact mul_f ha hb hk wa

theorem sign_r {k:Nat} {u0 u1 u2 u3:Value} {a:Rat} {w:World} (ha:IsRat w k u0 u1 u2 u3 a):
    Calls Tryz.prog 154 #[.agg #[u0,u1,u2,u3]] w fun e w'=>e=.returned (iT (sgn a.num))∧Gr w w':=by
 go_enter Tryz.func154,Tryz.ntmps154
 have hB:=Gr.refl w
 refine wp_seq_k (fun K1 k1=>rg [0,1] ?_)
 refine se ?_
 refine eb 62 #[u0,u1,u2,u3] 1 hB fun b2 w2 g2 L2 o2 q2 hB=>?_
 simp only [p3,p4]
 refine sv 2 (iT 0) (za0 (k1 _ _ ?_))
 refine wp_seq_k (fun K3 k3=>rg [0,1,2,3] (sv 3 (pT b2 0) ?_))
 refine sw 4 (.agg #[u0,u1]) rfl (rl 60 0 [u0,u1] L2) ?_
 refine se ?_
 replace ha:=ha.kp g2.kp
 refine ec 5 (zN1 ha.num) ?_
 rintro e4 w4 ⟨rfl,g4⟩
 refine ⟨_,rfl,?_⟩
 replace hB:=hB.trans g4
 simp only [p3,p4]
 refine sv 2 (iT (sgn (a.num))) (za0 (k3 _ _ ?_))
 refine wp_ret ?_
 refine bodyPost_ret (v:=(iT (sgn (a.num)))) (za3 rfl rfl) rfl ⟨?_,hB⟩
 exact rfl

theorem zM8 (z:Int) (_h0:-9223372036854775808≤z) (_h1:z≤9223372036854775807) (w:World):
    Calls Tryz.prog 56 #[iT (z)] w fun e w'=>(∃ c0 c1 c2 c3,e=.returned (.agg #[c0,c1,c2,c3])∧IsRat w' 64 c0 c1 c2 c3 (z:Rat))∧Gr w w':=by
 go_enter Tryz.func56,Tryz.ntmps56
 have hB:=Gr.refl w
 refine wp_seq_k (fun K1 k1=>rg [0] ?_)
 refine se ?_
 refine ea 62 #[.bool false,sN,.bool false,sN] 2 hB fun b2 w2 g2 L2 o2 q2 hB=>?_
 simp only [p3,p4]
 refine za0 (k1 _ _ ?_)
 refine wp_seq_k (fun K3 k3=>rg [0,1,2,3] (sv 3 (iT (z)) ?_))
 refine se ?_
 refine ec 4 (zW4 (z) (by omega) (by omega) _) ?_
 rintro e4 w4 ⟨⟨x4,y4,rfl,h4⟩,g4⟩
 refine ⟨_,rfl,?_⟩
 replace hB:=hB.trans g4
 simp only [p3,p4]
 refine sv 5 (.agg #[x4,y4,.bool false,sN]) ?_
 refine se ?_
 replace L2:=L2.gr g4
 refine es 62 0 (.agg #[x4,y4,.bool false,sN]) [x4,y4,.bool false,sN] #[x4,y4,.bool false,sN] L2 hB q2 ⟨h4.one0,h4.one1,rfl,rfl,trivial⟩ fun w5 ac aa L2 hB=>?_
 refine za0 (k3 _ _ ?_)
 refine wp_ret ?_
 refine bodyPost_ret (v:=(.agg #[x4,y4,.bool false,sN])) (zc8 _ _ _ rfl rfl L2 (by kernel_rfl)) rfl ⟨?_,hB⟩
 replace h4:=h4.kp aa
 exact ⟨_,_,_,_,rfl,IsRat.int h4 (by omega)⟩

theorem rcomp_tt {k m:Nat} {u0 u1 u2 u3 v0 v1 v2 v3:Value} {a b:Rat} {w:World} (ha:IsRat w k u0 u1 u2 u3 a) (hb:IsRat w m v0 v1 v2 v3 b) (_hk:k+m≤100000) (wa:a.den=1) (wb:b.den=1):
    Calls Tryz.prog 65 #[.agg #[u0,u1,u2,u3],.agg #[v0,v1,v2,v3]] w fun e w'=>e=.returned (iT (zl4 a b))∧Gr w w':=by
 have hka:=ha.big
 have hkb:=hb.big
 go_enter Tryz.func65,Tryz.ntmps65
 have hB:=Gr.refl w
 refine wp_seq_k (fun K1 k1=>rg [0,1,2] ?_)
 refine se ?_
 refine eb 62 #[u0,u1,u2,u3] 2 hB fun b2 w2 g2 L2 o2 q2 hB=>?_
 simp only [p3,p4]
 refine se ?_
 refine eb 62 #[v0,v1,v2,v3] 3 hB fun b3 w3 g3 L3 o3 q3 hB=>?_
 simp only [p3,p4]
 refine sv 4 (iT 0) (za0 (k1 _ _ ?_))
 refine wp_seq_k (fun K4 k4=>wp_seq_k (fun K5 k5=>rg [0,1,2,3,4,5] ?_))
 replace L2:=L2.gr g3
 refine sw 5 (.agg #[u0,u1,u2,u3]) rfl (rl 62 0 [u0,u1,u2,u3] L2) ?_
 refine se ?_
 have af:=g2.kp.trans g3.kp
 replace ha:=ha.kp af
 refine ec 6 (zj4 ha (by omega) wa) ?_
 rintro e6 w6 ⟨rfl,g6⟩
 refine ⟨_,rfl,?_⟩
 replace hB:=hB.trans g6
 simp only [p3,p4]
 refine sv 7 (.bool true) ?_
 replace L3:=L3.gr g6
 refine sw 8 (.agg #[v0,v1,v2,v3]) rfl (rl 62 0 [v0,v1,v2,v3] L3) ?_
 refine se ?_
 have ac:=g2.kp.trans (g3.kp.trans g6.kp)
 replace hb:=hb.kp ac
 refine ec 9 (zj4 hb (by omega) wb) ?_
 rintro e8 w8 ⟨rfl,g8⟩
 refine ⟨_,rfl,?_⟩
 replace hB:=hB.trans g8
 simp only [p3,p4]
 refine sv 10 (.bool true) (za0 (k5 _ _ ?_))
 refine wp_cond_true rfl ?_
 refine wp_seq_k (fun ai ad=>rg [0,1,2,3,4,5] (sv 11 (pT b2 0) ?_))
 replace L2:=L2.gr (g6.trans g8)
 refine sw 12 (.agg #[u0,u1]) rfl (rl 60 0 [u0,u1] L2) ?_
 refine sv 13 (pT b3 0) ?_
 replace L3:=L3.gr g8
 refine sw 14 (.agg #[v0,v1]) rfl (rl 60 0 [v0,v1] L3) ?_
 refine se ?_
 have aa:=g6.kp.trans g8.kp
 replace ha:=ha.kp aa
 replace hb:=hb.kp g8.kp
 refine ec 15 (zf1 ha.num hb.num (by omega) (by omega)) ?_
 rintro ah aj ⟨rfl,ae⟩
 refine ⟨_,rfl,?_⟩
 replace hB:=hB.trans ae
 simp only [p3,p4]
 refine sv 4 (iT (sgn (a.num - b.num))) (za0 (ad _ _ ?_))
 refine wp_ret ?_
 simp only [Exit.then]
 refine bodyPost_ret (v:=(iT (sgn (a.num - b.num)))) (za3 rfl rfl) rfl ⟨?_,hB⟩
 exact by rw [rcmp_int wa wb]

theorem rcomp_tf {k m:Nat} {u0 u1 u2 u3 v0 v1 v2 v3:Value} {a b:Rat} {w:World} (ha:IsRat w k u0 u1 u2 u3 a) (hb:IsRat w m v0 v1 v2 v3 b) (_hk:k+m≤100000) (wa:a.den=1) (wb:b.den≠1):
    Calls Tryz.prog 65 #[.agg #[u0,u1,u2,u3],.agg #[v0,v1,v2,v3]] w fun e w'=>e=.returned (iT (zl4 a b))∧Gr w w':=by
 have hka:=ha.big
 have hkb:=hb.big
 go_enter Tryz.func65,Tryz.ntmps65
 have hB:=Gr.refl w
 refine wp_seq_k (fun K1 k1=>rg [0,1,2] ?_)
 refine se ?_
 refine eb 62 #[u0,u1,u2,u3] 2 hB fun b2 w2 g2 L2 o2 q2 hB=>?_
 simp only [p3,p4]
 refine se ?_
 refine eb 62 #[v0,v1,v2,v3] 3 hB fun b3 w3 g3 L3 o3 q3 hB=>?_
 simp only [p3,p4]
 refine sv 4 (iT 0) (za0 (k1 _ _ ?_))
 refine wp_seq_k (fun K4 k4=>wp_seq_k (fun K5 k5=>rg [0,1,2,3,4,5] ?_))
 replace L2:=L2.gr g3
 refine sw 5 (.agg #[u0,u1,u2,u3]) rfl (rl 62 0 [u0,u1,u2,u3] L2) ?_
 refine se ?_
 have au:=g2.kp.trans g3.kp
 replace ha:=ha.kp au
 refine ec 6 (zj4 ha (by omega) wa) ?_
 rintro e6 w6 ⟨rfl,g6⟩
 refine ⟨_,rfl,?_⟩
 replace hB:=hB.trans g6
 simp only [p3,p4]
 refine sv 7 (.bool true) ?_
 replace L3:=L3.gr g6
 refine sw 8 (.agg #[v0,v1,v2,v3]) rfl (rl 62 0 [v0,v1,v2,v3] L3) ?_
 refine se ?_
 have av:=g2.kp.trans (g3.kp.trans g6.kp)
 replace hb:=hb.kp av
 refine ec 9 (zp2 hb (by omega) wb) ?_
 rintro e8 w8 ⟨rfl,g8⟩
 refine ⟨_,rfl,?_⟩
 replace hB:=hB.trans g8
 simp only [p3,p4]
 refine sv 10 (.bool false) (za0 (k5 _ _ ?_))
 refine wp_cond_false rfl ?_
 refine wp_skip ?_
 refine k4 _ _ ?_
 refine wp_seq_k (fun aA ax=>?_)
 have aa:=Gr.drew w8
 replace hB:=hB.trans aa
 replace L2:=L2.gr (g6.trans (g8.trans aa))
 replace L3:=L3.gr (g8.trans aa)
 refine za4 (fun w'=>Lc w' b2 #[u0,u1,u2,u3] 62∧Lc w' b3 #[v0,v1,v2,v3] 62) [(true,0),(true,1),(true,2),(true,5),(true,6),(true,7),(false,3),(false,4),(false,8),(false,9),(false,10),(true,11)] (by kernel_rfl) (by kernel_rfl) (by kernel_rfl) (by decide) (fun _ _ _ _ _ h=>h) ⟨L2,L3⟩ ?_
 refine ov 16 (pT b2 0) ?_
 refine ow 17 (.agg #[u0,u1]) rfl (fun w' hS=>(rl 60 0 [u0,u1] hS.1)) ?_
 refine ow 18 (.agg #[v0,v1,v2,v3]) rfl (fun w' hS=>(rl 62 0 [v0,v1,v2,v3] hS.2)) ?_
 refine ov 21 (pT b3 0) ?_
 refine ow 22 (.agg #[v0,v1]) rfl (fun w' hS=>(rl 60 0 [v0,v1] hS.2)) ?_
 refine ow 23 (.agg #[u0,u1,u2,u3]) rfl (fun w' hS=>(rl 62 0 [u0,u1,u2,u3] hS.1)) ?_
 refine oe ?_
 have ap:=g8.kp.trans aa.kp
 replace hb:=hb.kp ap
 refine ec 19 (zn6 hb) ?_
 rintro aQ aE ⟨⟨az,aJ,rfl,aw⟩,ac⟩
 refine ⟨_,rfl,?_⟩
 replace hB:=hB.trans ac
 replace L2:=L2.gr ac
 replace L3:=L3.gr ac
 refine ⟨⟨L2,L3⟩,?_⟩
 simp only [p3,p4]
 refine oe ?_
 have ai:=g6.kp.trans (g8.kp.trans (aa.kp.trans ac.kp))
 replace ha:=ha.kp ai
 refine ec 20 (zo8 ha.num aw (by omega)) ?_
 rintro aP aK ⟨⟨aM,aH,rfl,al⟩,ad⟩
 refine ⟨_,rfl,?_⟩
 replace hB:=hB.trans ad
 replace L2:=L2.gr ad
 replace L3:=L3.gr ad
 refine ⟨⟨L2,L3⟩,?_⟩
 simp only [p3,p4]
 refine oe ?_
 replace ha:=ha.kp ad.kp
 refine ec 24 (zn6 ha) ?_
 rintro aN aI ⟨⟨ay,aD,rfl,ar⟩,ae⟩
 refine ⟨_,rfl,?_⟩
 replace hB:=hB.trans ae
 replace L2:=L2.gr ae
 replace L3:=L3.gr ae
 refine ⟨⟨L2,L3⟩,?_⟩
 simp only [p3,p4]
 refine oe ?_
 have aj:=ac.kp.trans (ad.kp.trans ae.kp)
 replace hb:=hb.kp aj
 refine ec 25 (zo8 hb.num ar (by omega)) ?_
 rintro aO aF ⟨⟨aL,aG,rfl,aq⟩,af⟩
 refine ⟨_,rfl,?_⟩
 replace hB:=hB.trans af
 replace L2:=L2.gr af
 replace L3:=L3.gr af
 refine ⟨⟨L2,L3⟩,?_⟩
 simp only [p3,p4]
 refine oe ?_
 have ah:=ae.kp.trans af.kp
 replace al:=al.kp ah
 refine ec 26 (zf1 al aq (by omega) (by omega)) ?_
 rintro aB aC ⟨rfl,ak⟩
 refine ⟨_,rfl,?_⟩
 replace hB:=hB.trans ak
 replace L2:=L2.gr ak
 replace L3:=L3.gr ak
 refine ⟨⟨L2,L3⟩,?_⟩
 simp only [p3,p4]
 refine ov 4 (iT (sgn ((a.num*(b.den:Int)) - (b.num*(a.den:Int))))) ?_
 refine zb4 ?_
 refine ax _ _ ?_
 refine wp_ret ?_
 refine bodyPost_ret (v:=(iT (sgn ((a.num*(b.den:Int)) - (b.num*(a.den:Int)))))) (za3 rfl rfl) rfl ⟨?_,hB⟩
 exact rfl

theorem rcomp_f {k m:Nat} {u0 u1 u2 u3 v0 v1 v2 v3:Value} {a b:Rat} {w:World} (ha:IsRat w k u0 u1 u2 u3 a) (hb:IsRat w m v0 v1 v2 v3 b) (_hk:k+m≤100000) (wa:a.den≠1):
    Calls Tryz.prog 65 #[.agg #[u0,u1,u2,u3],.agg #[v0,v1,v2,v3]] w fun e w'=>e=.returned (iT (zl4 a b))∧Gr w w':=by
 have hka:=ha.big
 have hkb:=hb.big
 go_enter Tryz.func65,Tryz.ntmps65
 have hB:=Gr.refl w
 refine wp_seq_k (fun K1 k1=>rg [0,1,2] ?_)
 refine se ?_
 refine eb 62 #[u0,u1,u2,u3] 2 hB fun b2 w2 g2 L2 o2 q2 hB=>?_
 simp only [p3,p4]
 refine se ?_
 refine eb 62 #[v0,v1,v2,v3] 3 hB fun b3 w3 g3 L3 o3 q3 hB=>?_
 simp only [p3,p4]
 refine sv 4 (iT 0) (za0 (k1 _ _ ?_))
 refine wp_seq_k (fun K4 k4=>wp_seq_k (fun K5 k5=>rg [0,1,2,3,4,5] ?_))
 replace L2:=L2.gr g3
 refine sw 5 (.agg #[u0,u1,u2,u3]) rfl (rl 62 0 [u0,u1,u2,u3] L2) ?_
 refine se ?_
 have ar:=g2.kp.trans g3.kp
 replace ha:=ha.kp ar
 refine ec 6 (zp2 ha (by omega) wa) ?_
 rintro e6 w6 ⟨rfl,g6⟩
 refine ⟨_,rfl,?_⟩
 replace hB:=hB.trans g6
 simp only [p3,p4]
 refine sv 7 (.bool false) ?_
 refine ss 8 ?_
 refine ss 9 ?_
 refine sv 10 (.bool false) (za0 (k5 _ _ ?_))
 refine wp_cond_false rfl ?_
 refine wp_skip ?_
 refine k4 _ _ ?_
 refine wp_seq_k (fun K8 k8=>?_)
 have aa:=Gr.drew w6
 replace hB:=hB.trans aa
 replace L2:=L2.gr (g6.trans aa)
 replace L3:=L3.gr (g6.trans aa)
 refine za4 (fun w'=>Lc w' b2 #[u0,u1,u2,u3] 62∧Lc w' b3 #[v0,v1,v2,v3] 62) [(true,0),(true,1),(true,2),(true,5),(true,6),(true,7),(false,3),(false,4),(false,8),(false,9),(false,10),(true,11)] (by kernel_rfl) (by kernel_rfl) (by kernel_rfl) (by decide) (fun _ _ _ _ _ h=>h) ⟨L2,L3⟩ ?_
 refine ov 16 (pT b2 0) ?_
 refine ow 17 (.agg #[u0,u1]) rfl (fun w' hS=>(rl 60 0 [u0,u1] hS.1)) ?_
 refine ow 18 (.agg #[v0,v1,v2,v3]) rfl (fun w' hS=>(rl 62 0 [v0,v1,v2,v3] hS.2)) ?_
 refine ov 21 (pT b3 0) ?_
 refine ow 22 (.agg #[v0,v1]) rfl (fun w' hS=>(rl 60 0 [v0,v1] hS.2)) ?_
 refine ow 23 (.agg #[u0,u1,u2,u3]) rfl (fun w' hS=>(rl 62 0 [u0,u1,u2,u3] hS.1)) ?_
 refine oe ?_
 have ak:=g2.kp.trans (g3.kp.trans (g6.kp.trans aa.kp))
 replace hb:=hb.kp ak
 refine ec 19 (zn6 hb) ?_
 rintro aF aG ⟨⟨aC,aE,rfl,au⟩,ae⟩
 refine ⟨_,rfl,?_⟩
 replace hB:=hB.trans ae
 replace L2:=L2.gr ae
 replace L3:=L3.gr ae
 refine ⟨⟨L2,L3⟩,?_⟩
 simp only [p3,p4]
 refine oe ?_
 have ap:=g6.kp.trans (aa.kp.trans ae.kp)
 replace ha:=ha.kp ap
 refine ec 20 (zo8 ha.num au (by omega)) ?_
 rintro aD aL ⟨⟨aM,aI,rfl,aj⟩,ad⟩
 refine ⟨_,rfl,?_⟩
 replace hB:=hB.trans ad
 replace L2:=L2.gr ad
 replace L3:=L3.gr ad
 refine ⟨⟨L2,L3⟩,?_⟩
 simp only [p3,p4]
 refine oe ?_
 replace ha:=ha.kp ad.kp
 refine ec 24 (zn6 ha) ?_
 rintro aH aA ⟨⟨ay,aN,rfl,av⟩,ac⟩
 refine ⟨_,rfl,?_⟩
 replace hB:=hB.trans ac
 replace L2:=L2.gr ac
 replace L3:=L3.gr ac
 refine ⟨⟨L2,L3⟩,?_⟩
 simp only [p3,p4]
 refine oe ?_
 have ah:=ae.kp.trans (ad.kp.trans ac.kp)
 replace hb:=hb.kp ah
 refine ec 25 (zo8 hb.num av (by omega)) ?_
 rintro aJ aB ⟨⟨ax,az,rfl,aq⟩,af⟩
 refine ⟨_,rfl,?_⟩
 replace hB:=hB.trans af
 replace L2:=L2.gr af
 replace L3:=L3.gr af
 refine ⟨⟨L2,L3⟩,?_⟩
 simp only [p3,p4]
 refine oe ?_
 have ai:=ac.kp.trans af.kp
 replace aj:=aj.kp ai
 refine ec 26 (zf1 aj aq (by omega) (by omega)) ?_
 rintro aw aK ⟨rfl,al⟩
 refine ⟨_,rfl,?_⟩
 replace hB:=hB.trans al
 replace L2:=L2.gr al
 replace L3:=L3.gr al
 refine ⟨⟨L2,L3⟩,?_⟩
 simp only [p3,p4]
 refine ov 4 (iT (sgn ((a.num*(b.den:Int)) - (b.num*(a.den:Int))))) ?_
 refine zb4 ?_
 refine k8 _ _ ?_
 refine wp_ret ?_
 refine bodyPost_ret (v:=(iT (sgn ((a.num*(b.den:Int)) - (b.num*(a.den:Int)))))) (za3 rfl rfl) rfl ⟨?_,hB⟩
 exact rfl

theorem zj8 {k m:Nat} {u0 u1 u2 u3 v0 v1 v2 v3:Value} {a b:Rat} {w:World} (ha:IsRat w k u0 u1 u2 u3 a) (hb:IsRat w m v0 v1 v2 v3 b) (hk:k+m≤100000):
  Calls Tryz.prog 65 #[.agg #[u0,u1,u2,u3],.agg #[v0,v1,v2,v3]] w fun e w'=>e=.returned (iT (zl4 a b))∧Gr w w':=by
 by_cases wa:a.den=1
 ·by_cases wb:b.den=1
  ·exact rcomp_tt ha hb hk wa wb
  exact rcomp_tf ha hb hk wa wb
 exact rcomp_f ha hb hk wa

end Go.Proofs.YtjhflekncldflaaGreatDoor
namespace Go.Proofs.YtjhflekncldflaaGreatDoor
open Go.RowKit
section
variable {α:Type}
def tb (f:Nat→α) (n:Nat):List α:=(List.range n).map f
theorem za8 {f:Nat→α} {n:Nat}:(tb f n).length=n:=by simp [tb]
theorem za9 {f:Nat→α} {n:Nat} {z:Int} (h:(n:Int)=z):((tb f n).length:Int)=z:=by rw [za8];exact h
theorem zc3 {f:Nat→α} {n i:Nat} (h:i<n):(tb f n)[i]?=some (f i):=by simp [tb,h]
theorem zf4 {f:Nat→α} {n:Nat} {x:α} (h:x=f n):tb f n++[x]=tb f (n+1):=by subst h;simp [tb,List.range_succ]
theorem zu9 {f g:Nat→α} {n:Nat} (h:∀ i,i<n→f i=g i):tb f n=tb g n:=by
 unfold tb
 exact List.map_congr_left fun i hi=>h i (List.mem_range.1 hi)
def fil (f:Nat→α) (d:α) (n k:Nat):List α:=tb f k++List.replicate (n - k) d
theorem zf8 {f:Nat→α} {d:α} {n:Nat}:fil f d n n=tb f n:=by simp [fil]
theorem set_tb {f:Nat→α} {n i:Nat} {x:α}:(tb f n).set i x=tb (fun j=>if j=i then x else f j) n:=by
 apply List.ext_getElem?
 intro j
 rw [List.getElem?_set]
 by_cases hj:j<n
 ·rw [zc3 hj,zc3 hj,za8]
  by_cases e:i=j
  ·subst e;simp [hj]
  rw [if_neg e,if_neg (Ne.symm e)]
 rw [List.getElem?_eq_none (by rw [za8];omega),List.getElem?_eq_none (by rw [za8];omega),za8]
 simp;omega
theorem rep_tb {d:α} {n:Nat}:List.replicate n d=tb (fun _=>d) n:=by
 apply List.ext_getElem?
 intro j
 by_cases hj:j<n
 ·rw [zc3 hj];simp [hj]
 rw [List.getElem?_eq_none (by rw [List.length_replicate];omega),List.getElem?_eq_none (by rw [za8];omega)]

theorem Sl.cast {E:World→α→List Value→Prop} {T:TypeId} {c:Nat} {w:World} {v:Value} {xs ys:List α} (h:Sl E T c w v xs) (e:xs=ys):Sl E T c w v ys:=e ▸ h
theorem Mk.cast {E:World→α→List Value→Prop} {T:TypeId} {c:Nat} {w:World} {b:Nat} {xs ys:List α} (h:Mk E T c w b xs) (e:xs=ys):Mk E T c w b ys:=e ▸ h
theorem Ow.cast {E:World→α→List Value→Prop} {T:TypeId} {c B:Nat} {w:World} {v:Value} {xs ys:List α} (h:Ow E T c w B v xs) (e:xs=ys):Ow E T c w B v ys:=e ▸ h
variable {P:Program} {a:Act} {o:Oper} {w:World} {Q:Exit→Act→World→Prop} {K:Act→World→Prop} {ops:Array Oper}
theorem zb0 {E:World→α→List Value→Prop} {T:TypeId} {c:Nat} {v:Value} {xs:List α} {w0:World} {z:Int} (h:Sl E T c w0 v xs) (hz:(xs.length:Int)=z) (x:Operand) (t:TypeId) (hop:o.op=.call {callee:=.builtin .len,args:=#[x],argTypes:=#[t]}) (hx:a.eval x=v) {e:TypeId} (hu:P.underlying t=some (.slice e)):
  RunV P a o w (.int .i64 z):=by subst hz;exact zz8 h x t hop hx hu
theorem zc0 {E:World→α→List Value→Prop} {T:TypeId} {c:Nat} {v:Value} {xs:List α} {w0:World} {n:Nat} (h:Sl E T c w0 v xs) (hn:xs.length=n) (hc:0<c) (i:Nat) (hi:i<n) (t:TypeId) (x y:Operand) (hop:o.op=.indexAddr t x y) (hx:a.eval x=v) (hy:a.eval y=.int .i64 (i:Int))
  {e:TypeId} (hu:P.underlying t=some (.slice e)) (hs:(P.info? e).map (·.size)=some c):RunV P a o w (adr v (i*c)):=yb1 h hc i (by omega) t x y hop hx hy hu hs
theorem zg8 {E:World→α→List Value→Prop} {ts:List TypeId} (hS:zn8 E ts) (s x:Operand) (t:TypeId) (T B:Nat) (z:Value) (v:Value) (xs:List α) (b:Nat) (us:List Value) (x0:α) (c cx:Nat) (d:Option Tmp) (bytes:Nat) (hd:o.dst=d)
  (ho:o.op=.call {callee:=.builtin .append,args:=#[s,x],argTypes:=#[t,t]}) (hs:a.eval s=v) (hx:a.eval x=.slice (some ⟨b,0,none⟩) 1 cx)
  (hown:Ow E T c w B v xs) (hL:Lc w b us.toArray T) (hu:One1 us) (hl:us.length=c) (hE:E w x0 us) (hBw:B≤w.heap.size) (hn:xs.length≤1000000) (hbytes:bytes≤1000)
  (ht:P.underlying t=some (.slice T)) (hi:(P.info? T).map (fun i=>(i.zero,i.size,i.bytes))=some (some z,c,bytes)) (hzs:z.cells.size=c∧0<c) (hT:(ts.all fun t=>t !=T)=true)
  (h:∀ v' w',Ow E T c w' B v' (xs++[x0])→Wt T w w'→(∀ w0,Gr w0 w→w0.heap.size≤B→Gr w0 w')→K (a.put d v') w'):o.wp P a w K Q:=by
 subst hd
 obtain ⟨ys,hown,hEl⟩:=hown
 obtain ⟨i,hi,hz,hsize,hby⟩:=info_parts hi
 have ac:(xs.length+1)*bytes≤1000001*1000:=Nat.mul_le_mul (by omega) hbytes
 refine wp_append_own w s x t ho B T i z c bytes ht hi hz hsize hby hzs.1 hzs.2 v xs.length ys hs hown ⟨b,0,none⟩ 1 cx us hx (by omega) (fun j y hj=>?_) hu.all (by unfold maxLen;omega) (by omega) hBw ?_
 ·have e:(⟨b,0,none⟩:Addr).add j=⟨b,j,none⟩:=by by_cases h0:j=0<;>simp [Addr.add,h0]
  rw [e,zc1 hL];simpa using hj
 intro v' w' h2 hg _
 have hown':=hown
 have hnew:∀ k,v.ownBlock=some k→B≤k∧∃ cur,w.heap[k]?=some (.cells cur T (0,0)):=by
  intro k hk
  rcases hown'.2 with ⟨rfl,_⟩ | ⟨g,cap,cur,rfl,hb,hgg,_⟩
  ·simp [Value.ownBlock] at hk
  simp [Value.ownBlock] at hk
  subst hk;exact ⟨hb,cur,hgg⟩
 have hwt:Wt T w w':=⟨hg.os,hg.tape,hg.output,hg.size,fun k cs t fr ht hk=>by
  rw [hg.block k (ze8 hk) (fun e=>?_)]
  ·exact hk
  obtain ⟨_,cur,hc⟩:=hnew k e.symm
  rw [hk] at hc
  simp only [Option.some.injEq,Obj.cells.injEq] at hc
  exact ht hc.2.1⟩
 refine h v' w' ⟨_,by simpa using h2,(hEl.snoc hl hE).kts hS (hwt.kts hT)⟩ hwt fun w0 hB aa=>?_
 refine Below.trans hB ⟨hg.os,hg.tape,hg.output,hg.size,fun k hk=>hg.block k (Nat.lt_of_lt_of_le hk hB.size) (fun e=>?_)⟩
 have:=(hnew k e.symm).1
 omega
end
theorem IsRat.resz {w:World} {k m:Nat} {c0 c1 c2 c3:Value} {q:Rat} (h:IsRat w k c0 c1 c2 c3 q) (hs:Sz m q.num∧Sz m (q.den:Int)) (hm:64≤m):IsRat w m c0 c1 c2 c3 q:=by
 obtain ⟨h1,⟨D,h2,h3⟩,h4⟩:=h
 refine ⟨h1.resz hs.1,⟨D,h2.resz ?_,h3⟩,hm⟩
 rcases h3 with rfl | ⟨rfl,_⟩
 ·exact hs.2
 unfold Sz;simp;exact Nat.pow_pos (by omega)
end Go.Proofs.YtjhflekncldflaaGreatDoor
