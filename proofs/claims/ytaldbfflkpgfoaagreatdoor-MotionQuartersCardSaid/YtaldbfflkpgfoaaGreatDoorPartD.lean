/- Joined of: Gen7, Gen8, Prim, Vec, Inti, Gen52, Vin, Peq, Sy2, Sy3, Sy4, Sy5, Sy6, Sy7, Sy8, Sy9, Sya, Syb, Gen36, Gen39, Gen9, Gen61, R1j, Ve. -/
import Derived.Test.YtaldbfflkpgfoaaGreatDoorPartC
import Derived.Test.YtaldbfflkpgfoaaGreatDoorPartA
import Derived.Test.YtaldbfflkpgfoaaGreatDoorPartB
namespace Go.Proofs.YtaldbfflkpgfoaaGreatDoor
open Go.RowKit

set_option maxRecDepth 100000 in
set_option maxHeartbeats 1000000 in
theorem vof_v (n1 n2 n3:Int) (_j1:-9223372036854775808≤n1∧n1≤9223372036854775807) (_j2:-9223372036854775808≤n2∧n2≤9223372036854775807) (_j3:-9223372036854775808≤n3∧n3≤9223372036854775807) (w:World):
    Calls Tryz.prog 53 #[(.agg #[(.int .i64 (n1)),(.int .i64 (n2)),(.int .i64 (n3))])] w fun e w'=>(∃ t0 t1 t2 t3 t4 t5 t6 t7 t8 t9 aS aK,e=.returned (.agg #[t0,t1,t2,t3,t4,t5,t6,t7,t8,t9,aS,aK])∧IsRat w' 64 t0 t1 t2 t3 ((n1:Int):Rat)∧IsRat w' 64 t4 t5 t6 t7 ((n2:Int):Rat)∧IsRat w' 64 t8 t9 aS aK ((n3:Int):Rat))∧Gr w w':=by
 go_enter Tryz.func53,Tryz.ntmps53
 have hB:=Gr.refl w
 refine wp_seq_k (fun K1 k1=>?_)
 refine rg [0,1] ?_
 refine se ?_
 refine eb 101 #[(.int .i64 (n1)),(.int .i64 (n2)),(.int .i64 (n3))] 1 hB fun b2 w2 g2 L2 o2 q2 hB=>?_
 simp only [p3,p4]
 refine se ?_
 refine ea 38 #[.bool false,.slice none 0 0,.bool false,.slice none 0 0,.bool false,.slice none 0 0,.bool false,.slice none 0 0,.bool false,.slice none 0 0,.bool false,.slice none 0 0] 2 hB fun b3 w3 g3 L3 o3 q3 hB=>?_
 simp only [p3,p4]
 refine za0 ?_
 refine k1 _ _ ?_
 try clear k1 K1
 refine wp_seq_k (fun K4 k4=>?_)
 refine rg [0] ?_
 refine se ?_
 refine ea 38 #[.bool false,.slice none 0 0,.bool false,.slice none 0 0,.bool false,.slice none 0 0,.bool false,.slice none 0 0,.bool false,.slice none 0 0,.bool false,.slice none 0 0] 3 hB fun b5 w5 g5 L5 o5 q5 hB=>?_
 replace L2:=L2.gr g3
 have aa:=L3.ne o5
 simp only [p3,p4]
 refine za0 ?_
 refine k4 _ _ ?_
 try clear k4 K4
 refine wp_seq_k (fun K6 k6=>?_)
 refine wp_seq_k (fun K7 k7=>?_)
 refine rg [0,1] ?_
 replace L2:=L2.gr g5
 refine sw 6 (.agg #[(.int .i64 (n1)),(.int .i64 (n2)),(.int .i64 (n3))]) rfl (rl 101 0 [(.int .i64 (n1)),(.int .i64 (n2)),(.int .i64 (n3))] L2) ?_
 refine sv 7 (.int .i64 0) ?_
 refine za0 ?_
 refine k7 _ _ ?_
 try clear k7 K7
 refine wp_block ?_
 refine wp_loop_rounds 4 ?_
 show Code.wp _ _ _ _ _
 refine wp_seq_k (fun K8 k8=>?_)
 refine rg [0] ?_
 refine sv 8 (.bool true) ?_
 refine za0 ?_
 refine k8 _ _ ?_
 try clear k8 K8
 refine wp_seq_k (fun K9 k9=>?_)
 refine wp_cond_true rfl ?_
 refine wp_skip ?_
 refine k9 _ _ ?_
 try clear k9 K9
 refine wp_seq_k (fun a2 aR=>?_)
 refine wp_block ?_
 refine wp_seq_k (fun a6 aI=>?_)
 refine rg [0,1,2,3] ?_
 refine sv 9 (.int .i64 0) ?_
 refine sv 10 (.int .i64 (n1)) ?_
 refine sv 4 (.int .i64 0) ?_
 refine sv 5 (.int .i64 (n1)) ?_
 refine za0 ?_
 refine aI _ _ ?_
 try clear aI a6
 refine rg [0,1,2,3,4] ?_
 refine sv 11 (.int .i64 0) ?_
 refine sv 12 (.int .i64 (n1)) ?_
 refine se ?_
 refine ec 13 (zQ2 (n1) (by omega) (by omega) _) ?_
 rintro e12 bc ⟨⟨ab,q12,ad,ah,rfl,ac⟩,aE⟩
 refine ⟨_,rfl,?_⟩
 replace hB:=hB.trans aE
 simp only [p3,p4]
 refine sv 14 (.pointer (some ⟨b5,0,none⟩)) ?_
 refine se ?_
 replace L5:=L5.gr aE
 refine es 36 0 (.agg #[ab,q12,ad,ah]) [ab,q12,ad,ah] #[ab,q12,ad,ah,.bool false,.slice none 0 0,.bool false,.slice none 0 0,.bool false,.slice none 0 0,.bool false,.slice none 0 0] L5 hB q5 ⟨ac.one0,ac.one1,ac.one2,ac.one3,trivial⟩ fun bi aC aD L5 hB=>?_
 refine za0 ?_
 refine aR _ _ ?_
 try clear aR a2
 refine rg [0,1] ?_
 refine sv 15 (.int .i64 1) ?_
 refine sv 7 (.int .i64 1) ?_
 refine za0 ?_
 show Code.rounds _ _ _ _ _ _
 show Code.wp _ _ _ _ _
 refine wp_seq_k (fun aW aJ=>?_)
 refine rg [0] ?_
 refine sv 8 (.bool true) ?_
 refine za0 ?_
 refine aJ _ _ ?_
 try clear aJ aW
 refine wp_seq_k (fun a0 aT=>?_)
 refine wp_cond_true rfl ?_
 refine wp_skip ?_
 refine aT _ _ ?_
 try clear aT a0
 refine wp_seq_k (fun aZ aQ=>?_)
 refine wp_block ?_
 refine wp_seq_k (fun a7 aL=>?_)
 refine rg [0,1,2,3] ?_
 refine sv 9 (.int .i64 1) ?_
 refine sv 10 (.int .i64 (n2)) ?_
 refine sv 4 (.int .i64 1) ?_
 refine sv 5 (.int .i64 (n2)) ?_
 refine za0 ?_
 refine aL _ _ ?_
 try clear aL a7
 refine rg [0,1,2,3,4] ?_
 refine sv 11 (.int .i64 1) ?_
 refine sv 12 (.int .i64 (n2)) ?_
 refine se ?_
 refine ec 13 (zQ2 (n2) (by omega) (by omega) _) ?_
 rintro bg bb ⟨⟨aj,ai,al,ak,rfl,ae⟩,az⟩
 refine ⟨_,rfl,?_⟩
 replace hB:=hB.trans az
 simp only [p3,p4]
 refine sv 14 (.pointer (some ⟨b5,4,none⟩)) ?_
 refine se ?_
 replace L5:=L5.gr az
 refine es 36 4 (.agg #[aj,ai,al,ak]) [aj,ai,al,ak] #[ab,q12,ad,ah,aj,ai,al,ak,.bool false,.slice none 0 0,.bool false,.slice none 0 0] L5 hB q5 ⟨ae.one0,ae.one1,ae.one2,ae.one3,trivial⟩ fun bk aA ay L5 hB=>?_
 refine za0 ?_
 refine aQ _ _ ?_
 try clear aQ aZ
 refine rg [0,1] ?_
 refine sv 15 (.int .i64 2) ?_
 refine sv 7 (.int .i64 2) ?_
 refine za0 ?_
 show Code.rounds _ _ _ _ _ _
 show Code.wp _ _ _ _ _
 refine wp_seq_k (fun a4 aU=>?_)
 refine rg [0] ?_
 refine sv 8 (.bool true) ?_
 refine za0 ?_
 refine aU _ _ ?_
 try clear aU a4
 refine wp_seq_k (fun a3 aN=>?_)
 refine wp_cond_true rfl ?_
 refine wp_skip ?_
 refine aN _ _ ?_
 try clear aN a3
 refine wp_seq_k (fun a8 aM=>?_)
 refine wp_block ?_
 refine wp_seq_k (fun aX aV=>?_)
 refine rg [0,1,2,3] ?_
 refine sv 9 (.int .i64 2) ?_
 refine sv 10 (.int .i64 (n3)) ?_
 refine sv 4 (.int .i64 2) ?_
 refine sv 5 (.int .i64 (n3)) ?_
 refine za0 ?_
 refine aV _ _ ?_
 try clear aV aX
 refine rg [0,1,2,3,4] ?_
 refine sv 11 (.int .i64 2) ?_
 refine sv 12 (.int .i64 (n3)) ?_
 refine se ?_
 refine ec 13 (zQ2 (n3) (by omega) (by omega) _) ?_
 rintro bd a9 ⟨⟨ar,aq,au,ap,rfl,af⟩,ax⟩
 refine ⟨_,rfl,?_⟩
 replace hB:=hB.trans ax
 simp only [p3,p4]
 refine sv 14 (.pointer (some ⟨b5,8,none⟩)) ?_
 refine se ?_
 replace L5:=L5.gr ax
 refine es 36 8 (.agg #[ar,aq,au,ap]) [ar,aq,au,ap] #[ab,q12,ad,ah,aj,ai,al,ak,ar,aq,au,ap] L5 hB q5 ⟨af.one0,af.one1,af.one2,af.one3,trivial⟩ fun bj aH av L5 hB=>?_
 refine za0 ?_
 refine aM _ _ ?_
 try clear aM a8
 refine rg [0,1] ?_
 refine sv 15 (.int .i64 3) ?_
 refine sv 7 (.int .i64 3) ?_
 refine za0 ?_
 show Code.rounds _ _ _ _ _ _
 show Code.wp _ _ _ _ _
 refine wp_seq_k (fun aY aO=>?_)
 refine rg [0] ?_
 refine sv 8 (.bool false) ?_
 refine za0 ?_
 refine aO _ _ ?_
 try clear aO aY
 refine wp_seq_k (fun bh bf=>?_)
 refine wp_cond_false rfl ?_
 refine wp_exit ?_
 simp only [Exit.then,Exit.inBlock,↓reduceIte]
 refine k6 _ _ ?_
 try clear k6 K6
 refine wp_seq_k (fun a1 aP=>?_)
 refine rg [0,1] ?_
 refine sw 16 (.agg #[ab,q12,ad,ah,aj,ai,al,ak,ar,aq,au,ap]) rfl (rl 38 0 [ab,q12,ad,ah,aj,ai,al,ak,ar,aq,au,ap] L5) ?_
 refine se ?_
 replace L3:=aH.lc ((aA.lc ((aC.lc (L3.gr (g5.trans aE)) aa).gr az) aa).gr ax) aa
 refine es 38 0 (.agg #[ab,q12,ad,ah,aj,ai,al,ak,ar,aq,au,ap]) [ab,q12,ad,ah,aj,ai,al,ak,ar,aq,au,ap] #[ab,q12,ad,ah,aj,ai,al,ak,ar,aq,au,ap] L3 hB q3 ⟨ac.one0,ac.one1,ac.one2,ac.one3,ae.one0,ae.one1,ae.one2,ae.one3,af.one0,af.one1,af.one2,af.one3,trivial⟩ fun ba a5 aw L3 hB=>?_
 refine za0 ?_
 refine aP _ _ ?_
 try clear aP a1
 refine wp_ret ?_
 refine bodyPost_ret (v:=(.agg #[ab,q12,ad,ah,aj,ai,al,ak,ar,aq,au,ap])) (zb0 _ _ _ rfl rfl L3 (by kernel_rfl)) rfl ⟨?_,hB⟩
 have aB:=aD.trans (az.kp.trans (ay.trans (ax.kp.trans (av.trans aw))))
 replace ac:=ac.kp aB
 have aG:=ay.trans (ax.kp.trans (av.trans aw))
 replace ae:=ae.kp aG
 have aF:=av.trans aw
 replace af:=af.kp aF
 exact ⟨_,_,_,_,_,_,_,_,_,_,_,_,rfl,ac,ae,af⟩

def zE5 (d x:Int):Int:=d/(Int.gcd d x:Int)*x
theorem gcd_ex (d:Int) (q:Rat):0<(Int.gcd d (q.den:Int):Int)∧(Int.gcd d (q.den:Int):Int)∣d:=by
 have:=q.den_pos
 refine ⟨?_,Int.gcd_dvd_left ..⟩
 have:Int.gcd d (q.den:Int)≠0:=by rw [Ne,Int.gcd_eq_zero_iff];omega
 omega
theorem zl3 {d:Int} (q:Rat) (h:0<d):0<zE5 d (q.den:Int):=by
 have:=q.den_pos
 obtain ⟨h1,h2⟩:=gcd_ex d q
 obtain ⟨c,hc⟩:=h2
 unfold zE5
 refine Int.mul_pos ?_ (by omega)
 have:d/(Int.gcd d (q.den:Int):Int)=c:=by
  conv=>lhs;lhs;rw [hc]
  exact Int.mul_ediv_cancel_left c (by omega)
 rw [this]
 rcases Int.lt_or_le 0 c with h3 | h3
 ·exact h3
 ·have:=Int.mul_nonpos_of_nonneg_of_nonpos (Int.le_of_lt h1) h3;omega
theorem small_rs {n D:Int} {a:Rat} (hn:-128≤n∧n≤127) (_hD:0≤D∧D≤255) (h:a=(n:Rat)/((1+D % 6:Int):Rat)):RS 16 a:=by
 have h1:RS 8 (n:Rat):=RS.int (show n.natAbs<2 ^ 8 by omega) (by omega)
 have h2:RS 8 ((1+D % 6:Int):Rat):=RS.int (show (1+D % 6).natAbs<2 ^ 8 by omega) (by omega)
 rw [h]
 exact h1.div h2 (by rw [Rat.num_intCast];omega)
def zU1 (s:Bool) (a:Int):Bool:=if s then decide (a≤9223372036854775808) else decide (a<9223372036854775808)
def intv (s:Bool) (a:Int):Int:=if zU1 s a then (if s then -a else a) else 0
theorem low_or {a:Int} {k:Nat} (hk:k<2):bits BinOp.or IntKind.u64 (low a k) (dg a k*2 ^ (32*k) % 18446744073709551616)=low a (k+1):=by
 have x0:=za4 a k
 have x1:=zd4 a k
 rw [zt7]
 rcases (by omega:k=0∨k=1) with rfl | rfl
 ·rw [zl0]
  have:=or64 0 (dg a 0) (by omega) (by omega) x0 x1
  simp only [Int.zero_mul,Int.zero_add] at this
  rw [show dg a 0*2 ^ (32*0) % 18446744073709551616=dg a 0 by simp;omega,this]
  simp
 ·have e:low a 1=dg a 0:=by rw [zt7,zl0];simp
  have y0:=za4 a 0
  have y1:=zd4 a 0
  have h:=or64 (dg a 1) (dg a 0) x0 x1 y0 y1
  have e2:dg a 1*2 ^ (32*1) % 18446744073709551616=dg a 1*4294967296:=by
   rw [show (2:Int) ^ (32*1)=4294967296 by decide];omega
  rw [e,e2]
  have hc:bits BinOp.or IntKind.u64 (dg a 0) (dg a 1*4294967296)=bits BinOp.or IntKind.u64 (dg a 1*4294967296) (dg a 0):=by
   obtain ⟨u,hu⟩:=Int.eq_ofNat_of_zero_le y0
   obtain ⟨v,hv⟩:=Int.eq_ofNat_of_zero_le (show 0≤dg a 1*4294967296 by omega)
   rw [hu,hv,u64_or_nat _ _ (by omega) (by omega),u64_or_nat _ _ (by omega) (by omega),Nat.or_comm]
  rw [hc,h]
  omega
theorem dg_top2 {a:Int} {la:Nat} (h:NL a la) (hl:2<la):18446744073709551616≤a:=by
 have h1:=h.full (by omega)
 have h2:hi a 2≠0:=fun e=>h1 (zt6 e (by omega))
 have h3:=zc3 h.nonneg 2
 have e:hi a 2=a/4294967296/4294967296:=rfl
 omega
theorem int_f0 {a:Int} (h:9223372036854775808≤a):intv false a=0∧zU1 false a=false:=by
 have e:zU1 false a=false:=by simp [zU1];omega
 exact ⟨by rw [intv,e];rfl,e⟩
theorem int_t1 {a:Int} (h0:0≤a) (h:a≤9223372036854775808):intv true a=wrap64 (IntKind.u64.wrap (-a))∧zU1 true a=true:=by
 have e:zU1 true a=true:=by simp [zU1];omega
 refine ⟨?_,e⟩
 rw [intv,e,if_pos rfl,if_pos rfl,IntKind.wrap_u64]
 unfold wrap64
 omega
theorem int_t0 {a:Int} (h:9223372036854775808<a):intv true a=0∧zU1 true a=false:=by
 have e:zU1 true a=false:=by simp [zU1];omega
 exact ⟨by rw [intv,e];rfl,e⟩
set_option maxRecDepth 100000 in
set_option maxHeartbeats 1000000 in
theorem int_c (s:Bool) (ao:Option Addr) (la ca:Nat) (a:Int) (w:World) (ha:Mag w ao la ca a):
  Calls Tryz.prog 68 #[.agg #[.bool s,.slice ao la ca]] w fun e w'=>e=.returned (.tuple #[.int .i64 (intv s a),.bool (zU1 s a)])∧Gr w w':=by
 have f0:=heap_alloc_new w (.cells #[.bool s,.slice ao la ca] 34)
 have c0:=zb4 f0 0
 have c1:=zb4 f0 1
 have hG:Gr w (w.alloc (.cells #[.bool s,.slice ao la ca] 34)):=Gr.alloc w _
 clear f0
 have hn:=ha.nl.nonneg
 go_enter Tryz.func68,Tryz.ntmps68
 by_cases h2:(2:Int)<(la:Int)
 ·have hb:zU1 s a=false:=by
   have:=dg_top2 ha.nl (by omega)
   unfold zU1
   cases s<;>simp<;>omega
  have HB:=Lib.hid hb
  clear hb
  go_wp2
  go_ret2
  refine ⟨?_,hG⟩
  rw [intv,HB.out];rfl
 ·go_wp2
  go_loopw [4,14] (fun u i wr=>∃ (k:Nat),k≤la∧i=.int .i64 k∧u=.int .u64 (low a k)∧wr=w.alloc (.cells #[.bool s,.slice ao la ca] 34)) (fun _ i _=>la - (intOf i).toNat)
  case atStart=>exact ⟨0,Nat.zero_le _,rfl,by rw [zl0],rfl⟩
  case round=>
   obtain ⟨k,hk,rfl,rfl,rfl⟩:=hrel
   by_cases hlt:k<la
   ·obtain ⟨b1,aa,rfl,hcs⟩:=(ha.gr hG).row.at_ (by omega)
    have hcell:=hcs k hlt
    have x0:=za4 a k
    have x1:=zd4 a k
    have hor:=low_or (a:=a) (k:=k) (by omega)
    clear hcs
    go_wp2
    go_roundw
    case rel=>exact ⟨k+1,by omega,by go_num,by rw [IntKind.wrap_u64,hor],by first | rfl | trivial⟩
    case measure=>simp [intOf];omega
   ·obtain rfl:k=la:=by omega
    have htop:=yn8 ha.nl.top
    rw [htop]
    clear htop
    cases s
    ·by_cases hb:a<9223372036854775808
     ·go_wp2
      go_ret2
      refine ⟨?_,hG⟩
      simp [intv,zU1,hb]
     ·have HB:=Lib.hid (int_f0 (Int.not_lt.1 hb))
      go_wp2
      go_ret2
      refine ⟨?_,hG⟩
      rw [HB.out.1,HB.out.2];rfl
    ·by_cases hb:a≤9223372036854775808
     ·have HB:=Lib.hid (int_t1 hn hb)
      go_wp2
      go_ret2
      refine ⟨?_,hG⟩
      rw [HB.out.1,HB.out.2];rfl
     ·have HB:=Lib.hid (int_t0 (Int.not_le.1 hb))
      go_wp2
      go_ret2
      refine ⟨?_,hG⟩
      rw [HB.out.1,HB.out.2];rfl
def zn6 (z:Int):Bool:=decide (-9223372036854775808≤z)&&decide (z≤9223372036854775807)
def zU2 (z:Int):Int:=if zn6 z then z else 0
theorem int_i {k:Nat} {x y:Value} {z:Int} {w:World} (h:IsInt w k x y z):
  Calls Tryz.prog 68 #[.agg #[x,y]] w fun e w'=>e=.returned (.tuple #[.int .i64 (zU2 z),.bool (zn6 z)])∧Gr w w':=by
 obtain ⟨ao,la,ca,rfl,rfl,ha,_⟩:=h
 refine (int_c _ ao la ca _ w ha).mono ?_
 rintro e w1 ⟨he,g⟩
 refine ⟨?_,g⟩
 have e1:zU1 (decide (z<0)) (z.natAbs:Int)=zn6 z:=by
  unfold zU1 zn6
  by_cases hz:z<0
  ·rw [decide_eq_true hz,if_pos rfl,Bool.eq_iff_iff];simp;omega
  ·rw [decide_eq_false hz,if_neg (by decide),Bool.eq_iff_iff];simp;omega
 rw [he,intv,zU2,e1]
 by_cases hz:z<0
 ·rw [decide_eq_true hz,if_pos (rfl:true=true),show -(z.natAbs:Int)=z by omega]
 ·rw [decide_eq_false hz,if_neg (Bool.false_ne_true:¬ false=true),show (z.natAbs:Int)=z by omega]
set_option maxRecDepth 100000 in
set_option maxHeartbeats 1000000 in
theorem rint_t {k:Nat} {u0 u1 u2 u3:Value} {a:Rat} {w:World} (ha:IsRat w k u0 u1 u2 u3 a) (_hk:k≤1000000) (wa:a.den=1):
    Calls Tryz.prog 90 #[(.agg #[u0,u1,u2,u3])] w fun e w'=>e=.returned (.tuple #[.int .i64 (zU2 a.num),.bool (zn6 a.num)])∧Gr w w':=by
 go_enter Tryz.func90,Tryz.ntmps90
 have hB:=Gr.refl w
 refine wp_seq_k (fun K1 k1=>?_)
 refine rg [0,1,2] ?_
 refine se ?_
 refine eb 36 #[u0,u1,u2,u3] 1 hB fun b2 w2 g2 L2 o2 q2 hB=>?_
 simp only [p3,p4]
 refine sv 2 (.int .i64 0) ?_
 refine sv 3 (.bool false) ?_
 refine za0 ?_
 refine k1 _ _ ?_
 try clear k1 K1
 refine wp_seq_k (fun K3 k3=>?_)
 refine wp_seq_k (fun K4 k4=>?_)
 refine rg [0,1,2] ?_
 refine sw 4 (.agg #[u0,u1,u2,u3]) rfl (rl 36 0 [u0,u1,u2,u3] L2) ?_
 refine se ?_
 replace ha:=ha.kp g2.kp
 refine ec 5 (zi2 ha (by omega) wa) ?_
 rintro e5 w5 ⟨rfl,g5⟩
 refine ⟨_,rfl,?_⟩
 replace hB:=hB.trans g5
 simp only [p3,p4]
 refine sv 6 (.bool false) ?_
 refine za0 ?_
 refine k4 _ _ ?_
 try clear k4 K4
 refine wp_cond_false rfl ?_
 refine wp_skip ?_
 refine k3 _ _ ?_
 try clear k3 K3
 refine wp_seq_k (fun K6 k6=>?_)
 refine rg [0,1,2,3,4,5,6] ?_
 refine sv 7 (.pointer (some ⟨b2,0,none⟩)) ?_
 replace L2:=L2.gr g5
 refine sw 8 (.agg #[u0,u1]) rfl (rl 34 0 [u0,u1] L2) ?_
 refine se ?_
 replace ha:=ha.kp g5.kp
 refine ec 9 (int_i ha.num) ?_
 rintro e7 w7 ⟨rfl,g7⟩
 refine ⟨_,rfl,?_⟩
 replace hB:=hB.trans g7
 simp only [p3,p4]
 refine sv 10 (.int .i64 (zU2 (a.num))) ?_
 refine sv 11 (.bool (zn6 (a.num))) ?_
 refine sv 2 (.int .i64 (zU2 (a.num))) ?_
 refine sv 3 (.bool (zn6 (a.num))) ?_
 refine za0 ?_
 refine k6 _ _ ?_
 try clear k6 K6
 refine wp_ret ?_
 refine bodyPost_ret (v:=(.tuple #[(.int .i64 (zU2 (a.num))),(.bool (zn6 (a.num)))])) (yb3 rfl rfl rfl) rfl ⟨?_,hB⟩
 exact rfl

set_option maxRecDepth 100000 in
set_option maxHeartbeats 1000000 in
theorem rint_f {k:Nat} {u0 u1 u2 u3:Value} {a:Rat} {w:World} (ha:IsRat w k u0 u1 u2 u3 a) (_hk:k≤1000000) (wa:a.den≠1):
    Calls Tryz.prog 90 #[(.agg #[u0,u1,u2,u3])] w fun e w'=>e=.returned (.tuple #[.int .i64 0,.bool false])∧Gr w w':=by
 go_enter Tryz.func90,Tryz.ntmps90
 have hB:=Gr.refl w
 refine wp_seq_k (fun K1 k1=>?_)
 refine rg [0,1,2] ?_
 refine se ?_
 refine eb 36 #[u0,u1,u2,u3] 1 hB fun b2 w2 g2 L2 o2 q2 hB=>?_
 simp only [p3,p4]
 refine sv 2 (.int .i64 0) ?_
 refine sv 3 (.bool false) ?_
 refine za0 ?_
 refine k1 _ _ ?_
 try clear k1 K1
 refine wp_seq_k (fun K3 k3=>?_)
 refine wp_seq_k (fun K4 k4=>?_)
 refine rg [0,1,2] ?_
 refine sw 4 (.agg #[u0,u1,u2,u3]) rfl (rl 36 0 [u0,u1,u2,u3] L2) ?_
 refine se ?_
 replace ha:=ha.kp g2.kp
 refine ec 5 (zo5 ha (by omega) wa) ?_
 rintro e5 w5 ⟨rfl,g5⟩
 refine ⟨_,rfl,?_⟩
 replace hB:=hB.trans g5
 simp only [p3,p4]
 refine sv 6 (.bool true) ?_
 refine za0 ?_
 refine k4 _ _ ?_
 try clear k4 K4
 refine wp_cond_true rfl ?_
 refine wp_seq_k (fun K6 k6=>?_)
 refine rg [0,1] ?_
 refine sv 2 (.int .i64 0) ?_
 refine sv 3 (.bool false) ?_
 refine za0 ?_
 refine k6 _ _ ?_
 try clear k6 K6
 refine wp_ret ?_
 simp only [Exit.then]
 refine bodyPost_ret (v:=(.tuple #[.int .i64 0,.bool false])) (yb3 rfl rfl rfl) rfl ⟨?_,hB⟩
 exact rfl

def zm8 (a:Rat):Bool:=decide (a.den=1)&&zn6 a.num
def zh7 (a:Rat):Int:=if zm8 a then a.num else 0
theorem ym8 {k:Nat} {u0 u1 u2 u3:Value} {a:Rat} {w:World} (ha:IsRat w k u0 u1 u2 u3 a) (hk:k≤1000000):
  Calls Tryz.prog 90 #[(.agg #[u0,u1,u2,u3])] w fun e w'=>e=.returned (.tuple #[.int .i64 (zh7 a),.bool (zm8 a)])∧Gr w w':=by
 by_cases wa:a.den=1
 ·have:=rint_t ha hk wa
  have e:zm8 a=zn6 a.num:=by unfold zm8;rw [decide_eq_true wa,Bool.true_and]
  rw [zh7,e];exact this
 ·have e:zm8 a=false:=by unfold zm8;rw [decide_eq_false wa,Bool.false_and]
  rw [zh7,e];exact rint_f ha hk wa

theorem zr2 {n:Int} (h0:-9223372036854775808≤n) (h1:n≤9223372036854775807):zm8 ((n:Int):Rat)=true∧zh7 ((n:Int):Rat)=n:=by
 have e:zm8 ((n:Int):Rat)=true:=by
  unfold zm8 zn6
  rw [Rat.num_intCast,decide_eq_true (show ((n:Int):Rat).den=1 from rfl),decide_eq_true h0,decide_eq_true h1];rfl
 exact ⟨e,by unfold zh7;rw [e,if_pos rfl,Rat.num_intCast]⟩
section
variable {P:Program} {a:Act} {o:Oper} {w:World}
theorem zj2 {e n e' off:Nat} {xs:Array Value} (hu:P.underlying e=some (.array n e')):(part e xs off).run P w=.ok (.agg (xs.extract off (off+P.cellsOf e))) w:=by
 obtain ⟨i,hi⟩:=info_of_underlying hu
 simp [part,isAgg,run_underlying hu,run_sizeOf w hi]
theorem zR4 {t tA tS eA eS:Nat} (z0 z1 z2 z3 y0 y1 y2 y3:Int) (X0 X1 X2 Y0 Y1 Y2:List UInt8)
  (ht:P.underlying t=some (.struct (P.fieldsOf t))) (hs:P.stoodInHeld t=false)
  (hf:((P.fieldsOf t).toList.map fun f=>(f.name=="_",f.type,f.offset))=[(false,tA,0),(false,tS,4)])
  (hA:(P.underlying tA,P.cellsOf tA)=(some (.array 4 eA),4)) (hS:(P.underlying tS,P.cellsOf tS)=(some (.array 3 eS),3))
  (heA:(P.underlying eA,(P.info? eA).isSome,P.cellsOf eA,P.plainKey eA)=(some (.int .i64),true,1,true))
  (heS:(P.underlying eS,(P.info? eS).isSome,P.cellsOf eS,P.plainKey eS)=(some .string,true,1,true)):
  (Op.equal t (.agg #[.int .i64 z0,.int .i64 z1,.int .i64 z2,.int .i64 z3,.string ⟨X0.toArray⟩,.string ⟨X1.toArray⟩,.string ⟨X2.toArray⟩])
   (.agg #[.int .i64 y0,.int .i64 y1,.int .i64 y2,.int .i64 y3,.string ⟨Y0.toArray⟩,.string ⟨Y1.toArray⟩,.string ⟨Y2.toArray⟩])).run P w
   =.ok (zm7 [z0,z1,z2,z3] [y0,y1,y2,y3]&&sEq [X0,X1,X2] [Y0,Y1,Y2]) w:=by
 simp only [Prod.mk.injEq] at hA hS
 obtain ⟨ab,ad⟩:=hA
 obtain ⟨aa,ac⟩:=hS
 obtain ⟨f1,f2,hfs⟩:∃ f1 f2,(P.fieldsOf t).toList=[f1,f2]:=by
  generalize (P.fieldsOf t).toList=l at hf
  rcases l with _ | ⟨f1,_ | ⟨f2,_ | ⟨f3,l⟩⟩⟩
  ·simp at hf
  ·simp at hf
  ·exact ⟨f1,f2,rfl⟩
  ·simp at hf
 rw [hfs] at hf
 simp only [List.map_cons,List.map_nil,List.cons.injEq,Prod.mk.injEq,and_true,beq_eq_false_iff_ne,ne_eq] at hf
 obtain ⟨⟨n1,t1,o1⟩,n2,t2,o2⟩:=hf
 have p1:=zj2 (P:=P) (w:=w) (off:=0) (xs:=#[.int .i64 z0,.int .i64 z1,.int .i64 z2,.int .i64 z3,.string ⟨X0.toArray⟩,.string ⟨X1.toArray⟩,.string ⟨X2.toArray⟩]) ab
 have p2:=zj2 (P:=P) (w:=w) (off:=0) (xs:=#[.int .i64 y0,.int .i64 y1,.int .i64 y2,.int .i64 y3,.string ⟨Y0.toArray⟩,.string ⟨Y1.toArray⟩,.string ⟨Y2.toArray⟩]) ab
 have p3:=zj2 (P:=P) (w:=w) (off:=4) (xs:=#[.int .i64 z0,.int .i64 z1,.int .i64 z2,.int .i64 z3,.string ⟨X0.toArray⟩,.string ⟨X1.toArray⟩,.string ⟨X2.toArray⟩]) aa
 have p4:=zj2 (P:=P) (w:=w) (off:=4) (xs:=#[.int .i64 y0,.int .i64 y1,.int .i64 y2,.int .i64 y3,.string ⟨Y0.toArray⟩,.string ⟨Y1.toArray⟩,.string ⟨Y2.toArray⟩]) aa
 rw [ad] at p1 p2
 rw [ac] at p3 p4
 have q1:(Op.equalIn 9999 tA (.agg #[.int .i64 z0,.int .i64 z1,.int .i64 z2,.int .i64 z3]) (.agg #[.int .i64 y0,.int .i64 y1,.int .i64 y2,.int .i64 y3])).run P w=.ok (zm7 [z0,z1,z2,z3] [y0,y1,y2,y3]) w:=by
  simp only [Prod.mk.injEq] at heA
  obtain ⟨h1,h2,h3,h4⟩:=heA
  obtain ⟨i,hi⟩:=Option.isSome_iff_exists.1 h2
  show (Op.equalIn (9998+1) tA _ _).run P w=_
  rw [run_equalIn_array w 9998 _ _ ab hi,h3,List.range_eq_range']
  exact zC1 (d:=9997) h1 h4 _ _ [z0,z1,z2,z3] [y0,y1,y2,y3] 0 rfl (fun j x hj=>by
   rcases j with _ | _ | _ | _ | j<;>simp_all) (fun j x hj=>by rcases j with _ | _ | _ | _ | j<;>simp_all)
 have q2:(Op.equalIn 9999 tS (.agg #[.string ⟨X0.toArray⟩,.string ⟨X1.toArray⟩,.string ⟨X2.toArray⟩]) (.agg #[.string ⟨Y0.toArray⟩,.string ⟨Y1.toArray⟩,.string ⟨Y2.toArray⟩])).run P w=.ok (sEq [X0,X1,X2] [Y0,Y1,Y2]) w:=by
  simp only [Prod.mk.injEq] at heS
  obtain ⟨h1,h2,h3,h4⟩:=heS
  obtain ⟨i,hi⟩:=Option.isSome_iff_exists.1 h2
  show (Op.equalIn (9998+1) tS _ _).run P w=_
  rw [run_equalIn_array w 9998 _ _ aa hi,h3,List.range_eq_range']
  exact zw6 (d:=9997) h1 h4 _ _ [X0,X1,X2] [Y0,Y1,Y2] 0 rfl (fun j x hj=>by
   rcases j with _ | _ | _ | j<;>simp_all) (fun j x hj=>by rcases j with _ | _ | _ | j<;>simp_all)
 show (Op.equalIn (9999+1) t _ _).run P w=_
 rw [run_equalIn_struct w 9999 t _ _ ht hs,hfs]
 simp only [Op.eqFields,n1,n2,t1,t2,o1,o2,not_false_eq_true,ne_eq,if_true,Sem.run_bind,p1,p2,Result.andThen_ok]
 simp only [Array.extract,Nat.zero_add]
 refine Eq.trans (b:=Result.andThen (.ok (zm7 [z0,z1,z2,z3] [y0,y1,y2,y3]) w) _) (congrArg (fun r=>Result.andThen r _) q1) ?_
 rw [Result.andThen_ok]
 cases h:zm7 [z0,z1,z2,z3] [y0,y1,y2,y3] with
 | false=>simp
 | true=>
  simp only [Bool.not_true,Bool.false_eq_true,if_false,Sem.run_bind,p3,p4,Result.andThen_ok]
  refine Eq.trans (b:=Result.andThen (.ok (sEq [X0,X1,X2] [Y0,Y1,Y2]) w) _) (congrArg (fun r=>Result.andThen r _) q2) ?_
  rw [Result.andThen_ok]
  cases h2:sEq [X0,X1,X2] [Y0,Y1,Y2]<;>simp
theorem rv_plceq (t t2 tA tS eA eS:Nat) (x y:Operand) (z0 z1 z2 z3 y0 y1 y2 y3:Int) (X0 X1 X2 Y0 Y1 Y2:List UInt8) (hop:o.op=.binOp .eql t x y t2)
  (hx:a.eval x=.agg #[.int .i64 z0,.int .i64 z1,.int .i64 z2,.int .i64 z3,.string ⟨X0.toArray⟩,.string ⟨X1.toArray⟩,.string ⟨X2.toArray⟩])
  (hy:a.eval y=.agg #[.int .i64 y0,.int .i64 y1,.int .i64 y2,.int .i64 y3,.string ⟨Y0.toArray⟩,.string ⟨Y1.toArray⟩,.string ⟨Y2.toArray⟩])
  (ht:P.underlying t=some (.struct (P.fieldsOf t))) (hs:P.stoodInHeld t=false)
  (hf:((P.fieldsOf t).toList.map fun f=>(f.name=="_",f.type,f.offset))=[(false,tA,0),(false,tS,4)])
  (hA:(P.underlying tA,P.cellsOf tA)=(some (.array 4 eA),4)) (hS:(P.underlying tS,P.cellsOf tS)=(some (.array 3 eS),3))
  (heA:(P.underlying eA,(P.info? eA).isSome,P.cellsOf eA,P.plainKey eA)=(some (.int .i64),true,1,true))
  (heS:(P.underlying eS,(P.info? eS).isSome,P.cellsOf eS,P.plainKey eS)=(some .string,true,1,true)) (hg:P.eqGuardType P.depth t=false):
  RunV P a o w (.bool (zm7 [z0,z1,z2,z3] [y0,y1,y2,y3]&&sEq [X0,X1,X2] [Y0,Y1,Y2])):=by
 have h:=zR4 (P:=P) (w:=w) z0 z1 z2 z3 y0 y1 y2 y3 X0 X1 X2 Y0 Y1 Y2 ht hs hf hA hS heA heS
 unfold RunV execOp
 simp only [hop,hx,hy]
 simp [go_sem,binOp,eqGuard,hg,h]
theorem rv_plcne (t t2 tA tS eA eS:Nat) (x y:Operand) (z0 z1 z2 z3 y0 y1 y2 y3:Int) (X0 X1 X2 Y0 Y1 Y2:List UInt8) (hop:o.op=.binOp .neq t x y t2)
  (hx:a.eval x=.agg #[.int .i64 z0,.int .i64 z1,.int .i64 z2,.int .i64 z3,.string ⟨X0.toArray⟩,.string ⟨X1.toArray⟩,.string ⟨X2.toArray⟩])
  (hy:a.eval y=.agg #[.int .i64 y0,.int .i64 y1,.int .i64 y2,.int .i64 y3,.string ⟨Y0.toArray⟩,.string ⟨Y1.toArray⟩,.string ⟨Y2.toArray⟩])
  (ht:P.underlying t=some (.struct (P.fieldsOf t))) (hs:P.stoodInHeld t=false)
  (hf:((P.fieldsOf t).toList.map fun f=>(f.name=="_",f.type,f.offset))=[(false,tA,0),(false,tS,4)])
  (hA:(P.underlying tA,P.cellsOf tA)=(some (.array 4 eA),4)) (hS:(P.underlying tS,P.cellsOf tS)=(some (.array 3 eS),3))
  (heA:(P.underlying eA,(P.info? eA).isSome,P.cellsOf eA,P.plainKey eA)=(some (.int .i64),true,1,true))
  (heS:(P.underlying eS,(P.info? eS).isSome,P.cellsOf eS,P.plainKey eS)=(some .string,true,1,true)) (hg:P.eqGuardType P.depth t=false):
  RunV P a o w (.bool (!(zm7 [z0,z1,z2,z3] [y0,y1,y2,y3]&&sEq [X0,X1,X2] [Y0,Y1,Y2]))):=by
 have h:=zR4 (P:=P) (w:=w) z0 z1 z2 z3 y0 y1 y2 y3 X0 X1 X2 Y0 Y1 Y2 ht hs hf hA hS heA heS
 unfold RunV execOp
 simp only [hop,hx,hy]
 simp [go_sem,binOp,eqGuard,hg,h]
def plcT (P:Program) (t:TypeId):Bool:=match P.underlying t with
 | some (.struct fs)=>match fs.toList with
  | [f,g]=>f.name !="_"&&g.name !="_"&&Nat.beq f.offset 0&&Nat.beq g.offset 4&&!P.stoodInHeld t&&(match P.underlying f.type,P.underlying g.type with
   | some (.array 4 d),some (.array 3 e)=>Nat.beq (P.cellsOf f.type) 4&&Nat.beq (P.cellsOf g.type) 3&&(match P.underlying d,P.underlying e with
    | some (.int .i64),some .string=>(P.info? d).isSome&&Nat.beq (P.cellsOf d) 1&&P.plainKey d&&(P.info? e).isSome&&Nat.beq (P.cellsOf e) 1&&P.plainKey e
    | _,_=>false)
   | _,_=>false)
  | _=>false
 | _=>false
theorem plcT_ok {t:TypeId} (h:plcT P t=true):∃ tA tS eA eS,P.underlying t=some (.struct (P.fieldsOf t))∧P.stoodInHeld t=false∧((P.fieldsOf t).toList.map fun f=>(f.name=="_",f.type,f.offset))=[(false,tA,0),(false,tS,4)]∧
  (P.underlying tA,P.cellsOf tA)=(some (.array 4 eA),4)∧(P.underlying tS,P.cellsOf tS)=(some (.array 3 eS),3)∧(P.underlying eA,(P.info? eA).isSome,P.cellsOf eA,P.plainKey eA)=(some (.int .i64),true,1,true)∧
  (P.underlying eS,(P.info? eS).isSome,P.cellsOf eS,P.plainKey eS)=(some .string,true,1,true):=by
 unfold plcT at h
 split at h
 ·rename_i fs hu
  split at h
  ·rename_i f g hl
   simp only [Bool.and_eq_true,Nat.beq_eq,bne_iff_ne,ne_eq,Bool.not_eq_true'] at h
   obtain ⟨⟨⟨⟨⟨n1,n2⟩,o1⟩,o2⟩,hs⟩,h⟩:=h
   split at h
   ·rename_i d e hd he
    simp only [Bool.and_eq_true,Nat.beq_eq] at h
    obtain ⟨⟨c1,c2⟩,h⟩:=h
    split at h
    ·rename_i kd ke
     simp only [Bool.and_eq_true,Nat.beq_eq] at h
     obtain ⟨⟨⟨⟨⟨i1,i2⟩,i3⟩,j1⟩,j2⟩,j3⟩:=h
     have hf:P.fieldsOf t=fs:=by unfold Program.fieldsOf;rw [hu]
     refine ⟨f.type,g.type,d,e,by rw [hf];exact hu,hs,?_,by rw [hd,c1],by rw [he,c2],by rw [kd,i1,i2,i3],by rw [ke,j1,j2,j3]⟩
     rw [hf,hl]
     simp [n1,n2,o1,o2]
    ·cases h
   ·cases h
  ·cases h
 ·cases h
end
def ile:Int→Int→Bool
 | .ofNat a,.ofNat b=>Nat.ble a b
 | .negSucc _,.ofNat _=>true
 | .ofNat _,.negSucc _=>false
 | .negSucc a,.negSucc b=>Nat.ble b a
theorem zh2 (a b:Int):ile a b=decide (a≤b):=by
 rw [Bool.eq_iff_iff,decide_eq_true_eq]
 cases a<;>cases b<;>simp only [ile,Nat.ble_eq]<;>(try simp)<;>omega
def ilt (a b:Int):Bool:=!ile b a
theorem zF9 (a b:Int):ilt a b=decide (a<b):=by
 unfold ilt
 rw [zh2,Bool.eq_iff_iff]
 simp
def kmin:IntKind→Int
 | .i8=>-128 | .i16=>-32768 | .i32=>-2147483648 | .i64=>-9223372036854775808 | _=>0
def kmax:IntKind→Int
 | .i8=>127 | .i16=>32767 | .i32=>2147483647 | .i64=>9223372036854775807
 | .u8=>255 | .u16=>65535 | .u32=>4294967295 | .u64=>18446744073709551615
theorem wrap_in (k:IntKind) (z:Int):(kmin k≤z→z≤kmax k→k.wrap z=z)∧kmin k≤k.wrap z∧k.wrap z≤kmax k:=by
 cases k<;>simp only [IntKind.wrap,IntKind.bits,IntKind.signed,kmin,kmax]<;>simp<;>first | omega | (split<;>omega)
def wr (k:IntKind) (z lo hi:Int):Cl:=if ile (kmin k) lo&&ile hi (kmax k) then .ci k z lo hi else .ci k (k.wrap z) (kmin k) (kmax k)
theorem wr_ok {k:IntKind} {z lo hi:Int} (h0:lo≤z) (h1:z≤hi) (n:Nn) (X:Env) (W:World):(wr k z lo hi).den X=.int k (k.wrap z)∧(wr k z lo hi).ok n X W:=by
 have h:=wrap_in k z
 unfold wr
 split
 ·rename_i hc
  simp only [zh2,Bool.and_eq_true,decide_eq_true_eq] at hc
  rw [h.1 (Int.le_trans hc.1 h0) (Int.le_trans h1 hc.2)]
  exact ⟨rfl,rfl,h0,h1⟩
 ·exact ⟨rfl,rfl,h.2⟩
def ltD (la ha lc hc:Int):Option Bool:=if ilt ha lc then some true else if ile hc la then some false else none
theorem ltD_ok {a c la ha lc hc:Int} (h0:la≤a∧a≤ha) (h1:lc≤c∧c≤hc):∀ v,ltD la ha lc hc=some v→decide (a<c)=v:=by
 intro v hv
 unfold ltD at hv
 split at hv
 ·cases hv;rename_i h;simp only [zF9,decide_eq_true_eq] at*;omega
 ·split at hv
  ·cases hv;rename_i h;simp only [zh2,zF9,decide_eq_true_eq,decide_eq_false_iff_not] at*;omega
  ·cases hv
def leD (la ha lc hc:Int):Option Bool:=if ile ha lc then some true else if ilt hc la then some false else none
theorem leD_ok {a c la ha lc hc:Int} (h0:la≤a∧a≤ha) (h1:lc≤c∧c≤hc):∀ v,leD la ha lc hc=some v→decide (a≤c)=v:=by
 intro v hv
 unfold leD at hv
 split at hv
 ·cases hv;rename_i h;simp only [zh2,decide_eq_true_eq] at*;omega
 ·split at hv
  ·cases hv;rename_i h;simp only [zh2,zF9,decide_eq_true_eq,decide_eq_false_iff_not] at*;omega
  ·cases hv
def eqD (la ha lc hc:Int):Option Bool:=if ile ha lc&&ile hc la then some true else if ilt ha lc||ilt hc la then some false else none
theorem eqD_ok {a c la ha lc hc:Int} (h0:la≤a∧a≤ha) (h1:lc≤c∧c≤hc):∀ v,eqD la ha lc hc=some v→(a==c)=v:=by
 intro v hv
 unfold eqD at hv
 split at hv
 ·cases hv;rename_i h;simp only [zh2,Bool.and_eq_true,decide_eq_true_eq] at h;rw [beq_iff_eq];omega
 ·split at hv
  ·cases hv;rename_i h;simp only [zF9,Bool.or_eq_true,decide_eq_true_eq] at h;rw [beq_eq_false_iff_ne];omega
  ·cases hv
def notD (d:Option Bool):Option Bool:=match d with | some v=>some (!v) | none=>none
theorem zX5 {t:Bool} {d:Option Bool} (h:∀ v,d=some v→t=v):∀ v,notD d=some v→(!t)=v:=by
 intro v hv
 unfold notD at hv
 split at hv
 ·cases hv;rw [h _ rfl]
 ·cases hv
def min4 (a b c d:Int):Int:=min (min a b) (min c d)
def max4 (a b c d:Int):Int:=max (max a b) (max c d)
theorem zX6 {x c lc hc:Int} (h:lc≤c∧c≤hc):min (x*lc) (x*hc)≤x*c∧x*c≤max (x*lc) (x*hc):=by
 rcases Int.le_total 0 x with hx | hx
 ·have a:=Int.mul_le_mul_of_nonneg_left h.1 hx
  have b:=Int.mul_le_mul_of_nonneg_left h.2 hx
  omega
 ·have a:=Int.mul_le_mul_of_nonpos_left hx h.1
  have b:=Int.mul_le_mul_of_nonpos_left hx h.2
  omega
theorem mul_in {a c la ha lc hc:Int} (h0:la≤a∧a≤ha) (h1:lc≤c∧c≤hc):min4 (la*lc) (la*hc) (ha*lc) (ha*hc)≤a*c∧a*c≤max4 (la*lc) (la*hc) (ha*lc) (ha*hc):=by
 have e:=zX6 (x:=a) h1
 have f1:=zX6 (x:=lc) h0
 have f2:=zX6 (x:=hc) h0
 rw [Int.mul_comm lc la,Int.mul_comm lc ha,Int.mul_comm lc a] at f1
 rw [Int.mul_comm hc la,Int.mul_comm hc ha,Int.mul_comm hc a] at f2
 unfold min4 max4
 omega
def cI (c:Cl):Option SV:=some (.so (.vc c))
def xMul (k:IntKind) (a la ha c lc hc:Int):Option SV:=cI (wr k (a*c) (min4 (la*lc) (la*hc) (ha*lc) (ha*hc)) (max4 (la*lc) (la*hc) (ha*lc) (ha*hc)))
def isL (lo hi:Int):Bool:=ile hi lo
theorem yd5 {z lo hi:Int} (h:isL lo hi=true) (h0:lo≤z∧z≤hi):z=lo:=by
 unfold isL at h
 rw [zh2,decide_eq_true_eq] at h
 omega
def xQuo (k:IntKind) (_a la ha _c lc hc:Int):Option SV:=if isL la ha&&isL lc hc&&ilt 0 lc&&ile 0 la then cI (wr k (la/lc) (la/lc) (la/lc)) else none
def xRem (k:IntKind) (a la ha c lc hc:Int):Option SV:=if ilt 0 lc then (if isL la ha&&isL lc hc&&ile 0 la then cI (.ci k (la % lc) (la % lc) (la % lc)) else if ile 0 la then cI (.ci k (a % c) 0 (hc - 1)) else cI (.ci k (Int.tmod a c) (1 - hc) (hc - 1))) else none
def xInt (op:BinOp) (k:IntKind) (a la ha c lc hc:Int):Option SV:=
 match op with
 | .add=>cI (wr k (a+c) (la+lc) (ha+hc))
 | .sub=>cI (wr k (a - c) (la - hc) (ha - lc))
 | .mul=>xMul k a la ha c lc hc
 | .eql=>cI (.cb (a==c) (eqD la ha lc hc))
 | .neq=>cI (.cb (a !=c) (notD (eqD la ha lc hc)))
 | .lss=>cI (.cb (decide (a<c)) (ltD la ha lc hc))
 | .leq=>cI (.cb (decide (a≤c)) (leD la ha lc hc))
 | .gtr=>cI (.cb (decide (c<a)) (ltD lc hc la ha))
 | .geq=>cI (.cb (decide (c≤a)) (leD lc hc la ha))
 | .rem=>xRem k a la ha c lc hc
 | .quo=>xQuo k a la ha c lc hc
 | _=>none

section
variable {P:Program} {o:Oper} {n:Nn} {X:Env} {W V:World} {fr:List SV}
theorem rv_int {a:Act} (op:BinOp) (t t2:TypeId) (x y:Operand) (k:IntKind) (A B:Int) (hop:o.op=.binOp op t x y t2) (hx:a.eval x=.int k A) (hy:a.eval y=.int k B) (s:SV)
  (la ha lc hc:Int) (h0:la≤A∧A≤ha) (h1:lc≤B∧B≤hc) (h:xInt op k A la ha B lc hc=some s):RunV P a o V (s.den X)∧s.ok n X W:=by
 have hw:=fun (z:Int) (p q:Int) (hp:p≤z) (hq:z≤q)=>wr_ok (k:=k) hp hq n X W
 unfold RunV execOp
 simp only [hop,hx,hy]
 cases op<;>simp only [xInt,xMul,xRem,xQuo,cI,reduceCtorEq,Option.some.injEq] at h
 case add=>subst h;have:=hw (A+B) _ _ (Int.add_le_add h0.1 h1.1) (Int.add_le_add h0.2 h1.2);exact ⟨by simp [go_sem,binOp,eqGuard,Op.intArith,SV.den,TV.den,this.1],this.2⟩
 case sub=>subst h;have:=hw (A - B) (la - hc) (ha - lc) (by omega) (by omega);exact ⟨by simp [go_sem,binOp,eqGuard,Op.intArith,SV.den,TV.den,this.1],this.2⟩
 case mul=>subst h;have hm:=mul_in h0 h1;have:=hw (A*B) _ _ hm.1 hm.2;exact ⟨by simp [go_sem,binOp,eqGuard,Op.intArith,SV.den,TV.den,this.1],this.2⟩
 case eql=>subst h;exact ⟨by simp [go_sem,binOp,eqGuard,Op.intCmp,SV.den,TV.den,Cl.den],rfl,eqD_ok h0 h1⟩
 case neq=>subst h;exact ⟨by simp [go_sem,binOp,eqGuard,Op.intCmp,SV.den,TV.den,Cl.den],rfl,zX5 (eqD_ok h0 h1)⟩
 case lss=>subst h;exact ⟨by simp [go_sem,binOp,eqGuard,Op.intCmp,SV.den,TV.den,Cl.den],rfl,ltD_ok h0 h1⟩
 case leq=>subst h;exact ⟨by simp [go_sem,binOp,eqGuard,Op.intCmp,SV.den,TV.den,Cl.den],rfl,leD_ok h0 h1⟩
 case gtr=>subst h;exact ⟨by simp [go_sem,binOp,eqGuard,Op.intCmp,SV.den,TV.den,Cl.den],rfl,ltD_ok h1 h0⟩
 case geq=>subst h;exact ⟨by simp [go_sem,binOp,eqGuard,Op.intCmp,SV.den,TV.den,Cl.den],rfl,leD_ok h1 h0⟩
 case rem=>
  split at h
  ·rename_i hB
   simp only [zF9,decide_eq_true_eq] at hB
   have hb:¬ B=0:=by omega
   have hB':0<B:=by omega
   split at h
   ·rename_i hl
    simp only [Bool.and_eq_true,zh2,decide_eq_true_eq] at hl
    cases h
    have e1:=yd5 hl.1.1 h0
    have e2:=yd5 hl.1.2 h1
    subst e1 e2
    have e:Int.tmod A B=A % B:=Int.tmod_eq_emod_of_nonneg hl.2
    exact ⟨by simp [go_sem,binOp,eqGuard,Op.intDiv,SV.den,TV.den,Cl.den,hb,e],rfl,Int.le_refl _,Int.le_refl _⟩
   split at h
   ·rename_i hA
    simp only [zh2,decide_eq_true_eq] at hA
    cases h
    have e:Int.tmod A B=A % B:=Int.tmod_eq_emod_of_nonneg (by omega)
    have e1:=Int.emod_nonneg A hb
    have e2:=Int.emod_lt_of_pos A hB'
    exact ⟨by simp [go_sem,binOp,eqGuard,Op.intDiv,SV.den,TV.den,Cl.den,hb,e],rfl,e1,by omega⟩
   ·cases h
    have e1:=Int.lt_tmod_of_pos A hB'
    have e2:=Int.tmod_lt_of_pos A hB'
    exact ⟨by simp [go_sem,binOp,eqGuard,Op.intDiv,SV.den,TV.den,Cl.den,hb],rfl,by omega,by omega⟩
  ·cases h
 case quo=>
  split at h
  ·rename_i hl
   simp only [Bool.and_eq_true,zh2,zF9,decide_eq_true_eq] at hl
   obtain ⟨⟨⟨l1,l2⟩,l3⟩,l4⟩:=hl
   cases h
   have e1:=yd5 l1 h0
   have e2:=yd5 l2 h1
   subst e1 e2
   have hb:¬ B=0:=by omega
   have e:Int.tdiv A B=A/B:=Int.tdiv_eq_ediv_of_nonneg l4
   have:=hw (A/B) _ _ (Int.le_refl _) (Int.le_refl _)
   exact ⟨by simp [go_sem,binOp,eqGuard,Op.intDiv,SV.den,TV.den,hb,e,this.1],this.2⟩
  ·cases h
end
theorem zB5 (b off k:Nat):(⟨b,off,none⟩:Addr).add k=⟨b,off+k,none⟩:=by
 unfold Addr.add
 split
 ·rename_i h;subst h;rfl
 ·rfl
def SV.cells:SV→Option (List Cl)
 | .so (.vc c)=>some [c]
 | .so (.vg l)=>some l
 | _=>none
theorem yt3 {v:Value} (h:v.oneCell'=true):v.cells=#[v]:=by
 cases v<;>first | rfl | cases h
theorem SV.cells_ok {n:Nn} {X:Env} {W:World} {s:SV} {l:List Cl} (h:s.cells=some l) (hs:s.ok n X W):(s.den X).cells=dnL X l∧okL n X W l:=by
 unfold SV.cells at h
 split at h
 ·cases h
  refine ⟨?_,fun c hc=>?_⟩
  ·show (Cl.den X _).cells=_
   rw [yt3 (Cl.one hs)]
   simp [dnL]
  ·rw [List.mem_singleton] at hc;exact hc ▸ hs
 ·cases h;exact ⟨rfl,hs⟩
 ·cases h
def zu4 (cs:List Cl) (off:Nat) (v:List Cl):List Cl:=cs.take off++(v++cs.drop (off+v.length))
theorem zK2 {n:Nn} {X:Env} {W:World} {cs v:List Cl} (h:okL n X W cs) (hv:okL n X W v) (off:Nat):okL n X W (zu4 cs off v):=fun c hc=>by
 unfold zu4 at hc
 rcases List.mem_append.1 hc with hc | hc
 ·exact h c (List.mem_of_mem_take hc)
 ·rcases List.mem_append.1 hc with hc | hc
  ·exact hv c hc
  ·exact h c (List.mem_of_mem_drop hc)
theorem zN9 {α:Type} (cs:List α) (i:Nat) (x:α) (vs:List α) (h:i<cs.length):(cs.set i x).take (i+1)++(vs++(cs.set i x).drop (i+1+vs.length))=cs.take i++(x::vs++cs.drop (i+(vs.length+1))):=by
 have h1:(cs.set i x).take (i+1)=cs.take i++[x]:=by
  rw [List.take_add_one,List.take_set_of_le (Nat.le_refl i),List.getElem?_set_self h];rfl
 have h2:(cs.set i x).drop (i+1+vs.length)=cs.drop (i+(vs.length+1)):=by
  rw [List.drop_set_of_lt (by omega)];congr 1;omega
 rw [h1,h2];simp
theorem zK3:∀ (vs cs:List Value) (off:Nat),off+vs.length≤cs.length→zd8 cs.toArray off vs=(cs.take off++(vs++cs.drop (off+vs.length))).toArray
 | [],cs,off,_=>by simp [zd8]
 | v::vs,cs,off,h=>by
  simp only [List.length_cons] at h
  unfold zd8
  rw [List.setIfInBounds_toArray,zK3 vs (cs.set off v) (off+1) (by simp only [List.length_set];omega),zN9 cs off v vs (by omega)]
  rfl
theorem zK4 (off:Nat):∀ (vs:List Value) (k:Nat) (cs:Array Value),(vs.zipIdx k).foldl (fun cs (x:Value × Nat)=>cs.setIfInBounds (off+x.2) x.1) cs=zd8 cs (off+k) vs
 | [],_,_=>rfl
 | v::vs,k,cs=>by
  rw [List.zipIdx_cons,List.foldl_cons,zK4 off vs (k+1)]
  rfl
theorem zK5 {X:Env} {cs v:List Cl} {off:Nat} (h:off+v.length≤cs.length):zd8 (dnL X cs) off (v.map (Cl.den X))=dnL X (zu4 cs off v):=by
 unfold dnL zu4
 rw [zK3 _ _ _ (by simpa using h)]
 simp [List.map_take,List.map_drop]
def zX7 (place:Nat→Option (Nat × Nat)) (cs:List Cl):List (Nat × List Cl)→Option (List Cl)
 | []=>some cs
 | (i,v)::r=>match place i with
  | none=>none
  | some (off,size)=>if Nat.beq v.length size&&Nat.ble (off+v.length) cs.length then zX7 place (zu4 cs off v) r else none
theorem zX8 {n:Nn} {X:Env} {W:World} {place:Nat→Option (Nat × Nat)}:∀ {ps:List (Nat × List Cl)} {vs:List (Nat × Value)} {cs r:List Cl},zX7 place cs ps=some r→okL n X W cs→
  ps.length=vs.length→(∀ (j i:Nat) (l:List Cl) (i':Nat) (v:Value),ps[j]?=some (i,l)→vs[j]?=some (i',v)→i=i'∧v.cells=dnL X l∧okL n X W l)→Instr.fill place (dnL X cs) vs=some (dnL X r)∧okL n X W r
 | [],[],cs,r,h,hc,_,_=>by cases h;exact ⟨rfl,hc⟩
 | (i,l)::ps,(i',v)::vs,cs,r,h,hc,hl,hv=>by
  obtain ⟨rfl,h1,h2⟩:=hv 0 i l i' v rfl rfl
  unfold zX7 at h
  unfold Instr.fill
  split at h
  ·cases h
  ·rename_i off size hp
   split at h
   ·rename_i hh
    simp only [Bool.and_eq_true,Nat.beq_eq,Nat.ble_eq] at hh
    have hs:v.cells.size=l.length:=by rw [h1];simp [dnL]
    have hn:¬ (decide (v.cells.size≠size)||decide (off+v.cells.size>(dnL X cs).size))=true:=by
     have:(dnL X cs).size=cs.length:=by simp [dnL]
     simp only [Bool.or_eq_true,decide_eq_true_eq,not_or]
     omega
    simp only [hp]
    rw [if_neg hn]
    have hf:(v.cells.zipIdx.foldl (fun cs (x:Value × Nat)=>cs.setIfInBounds (off+x.2) x.1) (dnL X cs))=dnL X (zu4 cs off l):=by
     rw [h1,← zK5 (X:=X) hh.2]
     have:=zK4 off (l.map (Cl.den X)) 0 (dnL X cs)
     simpa [dnL] using this
    have e:∀ (f:Array Value→Value × Nat→Array Value),(∀ cs c j,f cs (c,j)=cs.setIfInBounds (off+j) c)→v.cells.zipIdx.foldl f (dnL X cs)=dnL X (zu4 cs off l):=fun f hf'=>by
     rw [← hf]
     congr 1
     funext cs x
     exact hf' cs x.1 x.2
    rw [e _ (fun _ _ _=>rfl)]
    exact zX8 h (zK2 hc h2 off) (by simpa using hl) (fun j i l i' v hj hj'=>hv (j+1) i l i' v hj hj')
   ·cases h
 | [],_::_,_,_,_,_,hl,_=>by cases hl
 | _::_,[],_,_,_,_,hl,_=>by cases hl
noncomputable def zG0 (fr:List SV):List (Nat × Operand)→Option (List (Nat × List Cl))
 | []=>some []
 | (i,x)::r=>match ev fr x,zG0 fr r with
  | some s,some l=>match s.cells with
   | some c=>some ((i,c)::l)
   | none=>none
  | _,_=>none
theorem zx8 {n:Nn} {X:Env} {W:World} {fr:List SV} (hf:okF n X W fr):∀ {ps:List (Nat × Operand)} {l:List (Nat × List Cl)},zG0 fr ps=some l→
  l.length=(ps.map fun x=>(x.1,(za5 X fr).eval x.2)).length∧(∀ (j i:Nat) (c:List Cl) (i':Nat) (v:Value),l[j]?=some (i,c)→(ps.map fun x=>(x.1,(za5 X fr).eval x.2))[j]?=some (i',v)→i=i'∧v.cells=dnL X c∧okL n X W c)
 | [],l,h=>by cases h;exact ⟨rfl,fun j _ _ _ _ hj=>by cases hj⟩
 | (i,x)::r,l,h=>by
  unfold zG0 at h
  split at h
  ·rename_i s l' h1 h2
   split at h
   ·rename_i c hc
    cases h
    have ih:=zx8 hf h2
    have he:=zd0 h1 hf
    have hs:=SV.cells_ok hc he.2
    refine ⟨by simpa using ih.1,fun j i c i' v hj hj'=>?_⟩
    cases j with
    | zero=>simp only [List.getElem?_cons_zero,Option.some.injEq,Prod.mk.injEq,List.map_cons] at hj hj';obtain ⟨rfl,rfl⟩:=hj;obtain ⟨rfl,rfl⟩:=hj';exact ⟨rfl,by rw [he.1];exact hs.1,hs.2⟩
    | succ j=>exact ih.2 j i c i' v hj hj'
   ·cases h
  ·cases h
noncomputable def gI (l:Option (List Cl)):Option SV:=match l with | some l=>frcL l fun l=>some (.so (.vg l)) | none=>none
def zx9 (z:Option Value):Option (List Cl):=match z with | some z=>yt0 z.cells.toList | none=>none
noncomputable def yt4 (P:Program) (fr:List SV) (t:TypeId) (parts:List (Nat × Operand)):Option SV:=
 match P.info? t,P.underlying t with
 | some it,some (.array _ e)=>match zx9 it.zero,P.info? e,zG0 fr parts with
  | some z,some ie,some ps=>gI (zX7 (fun i=>some (i*ie.size,ie.size)) z ps)
  | _,_,_=>none
 | some it,some (.struct fields)=>match zx9 it.zero,fields.toList.mapM (fun f=>(P.info? f.type).map fun i=>(f.offset,i.size)),zG0 fr parts with
  | some z,some places,some ps=>gI (zX7 (places.toArray[·]?) z ps)
  | _,_,_=>none
 | _,_=>none
noncomputable def yt5 (P:Program) (t:TypeId) (l:List Cl) (off:Nat):Option SV:=
 match ze3 P t with
 | some n=>if Nat.ble (off+n) l.length then frcL ((l.drop off).take n) fun r=>some (.so (.vg r)) else none
 | none=>if zi3 P t then (match nth l off with | some c=>some (.so (.vc c)) | none=>none) else none
def lit1 (lo hi:Int) (len:Nat):Option Nat:=if ile hi lo&&ile 0 lo&&ilt lo len then some lo.toNat else none
noncomputable def caps:List Operand→List SV→Option (List (Nat × Nat))
 | [],_=>some []
 | x::r,fr=>match ev fr x,caps r fr with
  | some (.so (.vc (.cp j o))),some l=>some ((j,o)::l)
  | _,_=>none
def yt6:List Cl→Option (List (List UInt8))
 | []=>some []
 | .cw l _::r=>match yt6 r with | some m=>some (l::m) | none=>none
 | _=>none
def yt7 (k:IntKind):List Cl→Option (List Int)
 | []=>some []
 | .ci k' z _ _::r=>if k=k' then (match yt7 k r with | some m=>some (z::m) | none=>none) else none
 | _=>none
def bI (op:BinOp) (t:Bool) (d:Option Bool):Option SV:=match op with
 | .eql=>cI (.cb t d)
 | .neq=>cI (.cb (!t) (notD d))
 | _=>none
def xBinG (P:Program) (op:BinOp) (t:TypeId) (l m:List Cl):Option SV:=
 if P.eqGuardType P.depth t then none else match P.underlying t with
  | some (.array n e)=>match P.underlying e with
   | some .string=>match yt6 l,yt6 m with
    | some x,some y=>if Nat.beq x.length n&&Nat.beq y.length n&&(P.info? e).isSome&&Nat.beq (P.cellsOf e) 1&&P.plainKey e then bI op (sEq x y) none else none
    | _,_=>none
   | some (.int k)=>match yt7 k l,yt7 k m with
    | some x,some y=>if Nat.beq x.length n&&Nat.beq y.length n&&(P.info? e).isSome&&Nat.beq (P.cellsOf e) 1&&P.plainKey e then bI op (zA4 x y) none else none
    | _,_=>none
   | _=>none
  | some (.struct _)=>if plcT P t then (match l,m with
   | [.ci .i64 z0 _ _,.ci .i64 z1 _ _,.ci .i64 z2 _ _,.ci .i64 z3 _ _,.cw X0 _,.cw X1 _,.cw X2 _],[.ci .i64 y0 _ _,.ci .i64 y1 _ _,.ci .i64 y2 _ _,.ci .i64 y3 _ _,.cw Y0 _,.cw Y1 _,.cw Y2 _]=>bI op (zm7 [z0,z1,z2,z3] [y0,y1,y2,y3]&&sEq [X0,X1,X2] [Y0,Y1,Y2]) none
   | _,_=>none) else none
  | _=>none
def xBin (P:Program) (op:BinOp) (t:TypeId):SV→SV→Option SV
 | .so (.vc (.ci k a la ha)),.so (.vc (.ci k' c lc hc))=>if k=k' then xInt op k a la ha c lc hc else none
 | .so (.vc (.cw l _)),.so (.vc (.cw m _))=>bI op (l==m) none
 | .so (.vc (.cb a d)),.so (.vc (.cb b e))=>match P.underlying t with
  | some .bool=>bI op (a==b) (match d,e with | some a,some b=>some (a==b) | _,_=>none)
  | _=>none
 | .so (.vg l),.so (.vg m)=>xBinG P op t l m
 | _,_=>none
noncomputable def yt8 (P:Program) (t:TypeId) (f:Nat):Option SV→Option SV
 | some (.so (.vc (.cp j off)))=>match P.underlying t with
  | some (.struct fs)=>match nth fs.toList f with
   | some fd=>match P.info? fd.type with
    | some i=>if Nat.beq i.size 0 then none else cI (.cp j (off+fd.offset))
    | none=>none
   | none=>none
  | _=>none
 | _=>none
def xIdxA (P:Program) (t:TypeId):Option SV→Option SV→Option SV
 | some (.so (.vc (.cp j off))),some (.so (.vc (.ci _ _ lo hi)))=>match P.underlying t with
  | some (.array len e)=>match lit1 lo hi len,P.info? e with
   | some k,some i=>cI (.cp j (off+k*i.size))
   | _,_=>none
  | _=>none
 | some (.so (.vc (.cs j off len _))),some (.so (.vc (.ci _ _ lo hi)))=>match P.underlying t with
  | some (.slice e)=>match lit1 lo hi len,P.info? e with
   | some k,some i=>cI (.cp j (off+k*i.size))
   | _,_=>none
  | _=>none
 | _,_=>none
noncomputable def xLoad (P:Program) (can:Nat→Bool) (bl:List (Nat × List Cl)) (t:TypeId):Option SV→Option SV
 | some (.so (.vc (.cp j off)))=>if can j then (match nth bl j with
  | some (_,cs)=>yt5 P t cs off
  | none=>none) else none
 | _=>none
noncomputable def xExtr (i:Nat):Option SV→Option SV
 | some (.st l)=>match nth l i with
  | some v=>some (.so v)
  | none=>none
 | _=>none
noncomputable def xField (P:Program) (t:TypeId) (f:Nat):Option SV→Option SV
 | some (.so (.vg l))=>match P.underlying t with
  | some (.struct fs)=>match nth fs.toList f with
   | some fd=>yt5 P fd.type l fd.offset
   | none=>none
  | _=>none
 | _=>none
noncomputable def xIdx (P:Program) (t:TypeId):Option SV→Option SV→Option SV
 | some (.so (.vg l)),some (.so (.vc (.ci _ _ lo hi)))=>match P.underlying t with
  | some (.array len e)=>match lit1 lo hi len,P.info? e with
   | some k,some i=>yt5 P e l (k*i.size)
   | _,_=>none
  | _=>none
 | _,_=>none
noncomputable def xPick (fr:List SV) (a b:Operand):Option SV→Option SV
 | some (.so (.vc (.cb _ (some true))))=>ev fr a
 | some (.so (.vc (.cb _ (some false))))=>ev fr b
 | _=>none
def xUn:UnOp→Option SV→Option SV
 | .not,some (.so (.vc (.cb t d)))=>cI (.cb (!t) (notD d))
 | .neg,some (.so (.vc (.ci k z lo hi)))=>cI (wr k (0 - z) (0 - hi) (0 - lo))
 | _,_=>none
def xConv (P:Program) (s d:TypeId):Option SV→Option SV
 | some (.so (.vc (.ci _ z lo hi)))=>match P.underlying s,P.underlying d with
  | some _,some (.int k)=>cI (wr k z lo hi)
  | _,_=>none
 | some (.so (.vc (.cw l e)))=>match P.underlying s,P.underlying d with
  | some _,some .string=>cI (.cw l e)
  | _,_=>none
 | _=>none
def xSlc (P:Program) (t:TypeId):Option SV→Option SV
 | some (.so (.vc (.cp j off)))=>match P.underlying t with
  | some (.array len e)=>if (P.info? e).isSome then cI (.cs j off len len) else none
  | _=>none
 | _=>none
noncomputable def xMkF (fr:List SV) (fn:Nat) (first captured:Array Operand):Option SV:=if first.isEmpty then (match caps captured.toList fr with
 | some l=>cI (.cf fn l)
 | none=>none) else none
def xLen (P:Program):Option TypeId→Option SV→Option SV
 | some t,some v=>match P.underlying t with
  | some (.slice _)=>match v with
   | .so (.vc (.cs _ _ len _))=>cI (.ci .i64 len len len)
   | .so (.vc (.cv (.slice none 0 0)))=>cI (.ci .i64 0 0 0)
   | _=>none
  | some (.array len _)=>cI (.ci .i64 len len len)
  | some .string=>match v with
   | .so (.vc (.cw l (some (k,_))))=>cI (.ci .i64 l.length 0 (2*k+5:Nat))
   | .so (.vc (.cw l none))=>cI (.ci .i64 l.length l.length l.length)
   | _=>none
  | _=>none
 | _,_=>none
def xMax:Option SV→Option SV→Option SV
 | some (.so (.vc (.ci k a la ha))),some (.so (.vc (.ci _ c lc hc)))=>cI (.ci k (if c>a then c else a) (max la lc) (max ha hc))
 | _,_=>none
def xMin:Option SV→Option SV→Option SV
 | some (.so (.vc (.ci k a la ha))),some (.so (.vc (.ci _ c lc hc)))=>cI (.ci k (if c<a then c else a) (min la lc) (min ha hc))
 | _,_=>none
noncomputable def xBi (P:Program) (fr:List SV) (c:Call):Builtin→List Operand→Option SV
 | .len,[x]=>xLen P c.argTypes[0]? (ev fr x)
 | .max,[x,y]=>xMax (ev fr x) (ev fr y)
 | .min,[x,y]=>xMin (ev fr x) (ev fr y)
 | _,_=>none
def xBin2 (P:Program) (op:BinOp) (t:TypeId):Option SV→Option SV→Option SV
 | some a,some b=>xBin P op t a b
 | _,_=>none
noncomputable def xPure (P:Program) (can:Nat→Bool) (fr:List SV) (bl:List (Nat × List Cl)) (o:Oper):Option SV:=
 match o.op with
 | .move x | .assign x=>ev fr x
 | .fieldAddr t x f=>yt8 P t f (ev fr x)
 | .indexAddr t x y=>xIdxA P t (ev fr x) (ev fr y)
 | .load t x=>xLoad P can bl t (ev fr x)
 | .build t parts=>yt4 P fr t parts.toList
 | .extract x i=>xExtr i (ev fr x)
 | .field t x f=>xField P t f (ev fr x)
 | .index t x y=>xIdx P t (ev fr x) (ev fr y)
 | .pick c a b=>xPick fr a b (ev fr c)
 | .binOp op t x y _=>xBin2 P op t (ev fr x) (ev fr y)
 | .unOp op _ x=>xUn op (ev fr x)
 | .convert s d x=>xConv P s d (ev fr x)
 | .slice t x none none none=>xSlc P t (ev fr x)
 | .makeFunc (.func fn) first captured=>xMkF fr fn first captured
 | .call c=>match c.callee with
  | .builtin b=>xBi P fr c b c.args.toList
  | _=>none
 | _=>none

section
variable {P:Program} {o:Oper} {n:Nn} {X:Env} {W V:World} {fr:List SV}
theorem zX9 {z lo hi:Int} {len k:Nat} (h:lit1 lo hi len=some k) (h0:lo≤z∧z≤hi):z=(k:Int)∧k<len:=by
 unfold lit1 at h
 split at h
 ·rename_i hh
  simp only [zh2,zF9,Bool.and_eq_true,decide_eq_true_eq] at hh
  cases h
  omega
 ·cases h
theorem okL_drop {l:List Cl} (h:okL n X W l) (i j:Nat):okL n X W ((l.drop i).take j):=fun c hc=>h c (List.mem_of_mem_drop (List.mem_of_mem_take hc))
theorem zY0 {t:TypeId} {l:List Cl} {off:Nat} {s:SV} (h:yt5 P t l off=some s) (hl:okL n X W l):(part t (dnL X l) off).run P V=.ok (s.den X) V∧s.ok n X W∧
  ((∃ m,ze3 P t=some m∧off+m≤l.length∧s=.so (.vg ((l.drop off).take m)))∨(zi3 P t=true∧∃ c,l[off]?=some c∧s=.so (.vc c))):=by
 unfold yt5 at h
 split at h
 ·rename_i m hm
  split at h
  ·rename_i hle
   simp only [Nat.ble_eq] at hle
   rw [zx7] at h
   cases h
   refine ⟨?_,okL_drop hl _ _,.inl ⟨m,hm,hle,rfl⟩⟩
   unfold ze3 at hm
   cases hd:P.underlying t with
   | none=>rw [hd] at hm;cases hm
   | some d=>
    rw [hd] at hm
    have hrow:(isAgg t).run P V=.ok true V∧(P.info? t).map (·.size)=some m:=by
     unfold isAgg
     rw [Sem.run_bind,run_underlying hd V]
     cases d<;>first | cases hm | exact ⟨rfl,hm⟩
    obtain ⟨i,hi,hsz⟩:=Option.map_eq_some_iff.1 hrow.2
    simp only [part,Sem.run_bind,hrow.1,Result.andThen_ok]
    simp [sizeOf,typeInfo,hi,hsz,SV.den,TV.den,dnL,List.map_take,List.map_drop,List.take_drop]
  ·cases h
 ·split at h
  ·rename_i h1
   split at h
   ·rename_i c hc
    rw [zi5] at hc
    cases h
    refine ⟨?_,hl c (List.mem_of_getElem? hc),.inr ⟨h1,c,hc,rfl⟩⟩
    unfold zi3 at h1
    cases hd:P.underlying t with
    | none=>rw [hd] at h1;cases h1
    | some d=>
     rw [hd] at h1
     have hagg:(isAgg t).run P V=.ok false V:=by
      unfold isAgg
      rw [Sem.run_bind,run_underlying hd V]
      cases d<;>first | cases h1 | rfl
     have hx:(dnL X l)[off]?=some (c.den X):=by simp [dnL,hc]
     simp only [part,Sem.run_bind,hagg,Result.andThen_ok]
     simp [hx,SV.den,TV.den]
   ·cases h
  ·cases h
end
section
variable {P:Program} {o:Oper} {n:Nn} {X:Env} {W V:World} {fr:List SV}
theorem zI4 {a:Act} {v:Value} {s:Sem Value} (he:execOp a.eval o=(do pure (.value (← s)))) (hs:s.run P V=.ok v V):RunV P a o V v:=by
 unfold RunV
 rw [he]
 simp [hs]
theorem yt9 (hf:okF n X W fr):∀ {l:List Operand} {r:List (Nat × Nat)},caps l fr=some r→l.map (za5 X fr).eval=r.map X.ptr∧(r.all fun x=>Nat.blt x.1 n.b)=true
 | [],r,h=>by cases h;exact ⟨rfl,rfl⟩
 | x::l,r,h=>by
  unfold caps at h
  split at h
  ·rename_i j o r' h1 h2
   cases h
   have a:=zd0 h1 hf
   have b:=yt9 hf h2
   refine ⟨?_,?_⟩
   ·rw [List.map_cons,List.map_cons,a.1,b.1];rfl
   ·have:Nat.blt j n.b=true:=a.2.1
    simp only [List.all_cons,Bool.and_eq_true]
    exact ⟨this,b.2⟩
  ·cases h
theorem build_ok (hf:okF n X W fr) {t:TypeId} {parts:Array (Nat × Operand)} {s:SV} (h:yt4 P fr t parts.toList=some s):
  (Instr.build t (parts.map fun (i,x)=>(i,(za5 X fr).eval x))).run P V=.ok (s.den X) V∧s.ok n X W:=by
 have key:∃ r,s=.so (.vg r)∧P.built t (parts.map fun (i,x)=>(i,(za5 X fr).eval x)).toList=some (dnL X r)∧okL n X W r:=by
  unfold yt4 at h
  have hpl:(parts.map fun (i,x)=>(i,(za5 X fr).eval x)).toList=parts.toList.map fun x=>(x.1,(za5 X fr).eval x.2):=by
   rw [Array.toList_map]
  have hz:∀ {z:Option Value} {l:List Cl},zx9 z=some l→∃ v,z=some v∧v.cells=dnL X l∧okL n X W l:=fun {z l} hz=>by
   cases z with
   | none=>cases hz
   | some v=>
    have:=zu3 (l:=v.cells.toList) hz n X W
    exact ⟨v,rfl,by unfold dnL;rw [this.1],this.2⟩
  split at h
  ·rename_i it m e hit hu
   split at h
   ·rename_i z ie ps h1 h2 h3
    obtain ⟨zv,aa,ac,ab⟩:=hz h1
    have hp:=zx8 hf h3
    cases hx:zX7 (fun i=>some (i*ie.size,ie.size)) z ps with
    | none=>rw [hx] at h;cases h
    | some r=>
     rw [hx] at h
     simp only [gI,zx7] at h
     cases h
     have:=zX8 (X:=X) hx ab hp.1 hp.2
     refine ⟨r,rfl,?_,this.2⟩
     unfold Program.built
     simp only [hit,hu,aa,h2,hpl,ac]
     exact this.1
   ·cases h
  ·rename_i it fs hit hu
   split at h
   ·rename_i z pl ps h1 h2 h3
    obtain ⟨zv,aa,ac,ab⟩:=hz h1
    have hp:=zx8 hf h3
    cases hx:zX7 (pl.toArray[·]?) z ps with
    | none=>rw [hx] at h;cases h
    | some r=>
     rw [hx] at h
     simp only [gI,zx7] at h
     cases h
     have:=zX8 (X:=X) hx ab hp.1 hp.2
     refine ⟨r,rfl,?_,this.2⟩
     unfold Program.built
     simp only [hit,hu,aa,h2,hpl,ac]
     exact this.1
   ·cases h
  ·cases h
 obtain ⟨r,rfl,h1,h2⟩:=key
 exact ⟨run_build V t _ _ h1,h2⟩
theorem zG1 {X:Env}:∀ {l:List Cl} {x:List (List UInt8)},yt6 l=some x→dnL X l=(x.map fun l=>Value.string ⟨l.toArray⟩).toArray
 | [],x,h=>by cases h;rfl
 | .cw w d::r,x,h=>by
  unfold yt6 at h
  split at h
  ·rename_i m hm
   cases h
   have:=zG1 (X:=X) hm
   unfold dnL at this ⊢
   rw [List.map_cons,List.map_cons]
   have h2:=congrArg Array.toList this
   simp only at h2
   rw [h2];rfl
  ·cases h
 | .ci ..::_,_,h | .cb ..::_,_,h | .cr ..::_,_,h | .cz ..::_,_,h | .cp ..::_,_,h | .cs ..::_,_,h | .cf ..::_,_,h | .cv ..::_,_,h=>by cases h
theorem zG2 {X:Env} {k:IntKind}:∀ {l:List Cl} {x:List Int},yt7 k l=some x→dnL X l=(x.map (Value.int k)).toArray
 | [],x,h=>by cases h;rfl
 | .ci k' z lo hi::r,x,h=>by
  unfold yt7 at h
  split at h
  ·rename_i hk
   subst hk
   split at h
   ·rename_i m hm
    cases h
    have:=zG2 (X:=X) hm
    unfold dnL at this ⊢
    rw [List.map_cons,List.map_cons]
    have h2:=congrArg Array.toList this
    simp only at h2
    rw [h2];rfl
   ·cases h
  ·cases h
 | .cw ..::_,_,h | .cb ..::_,_,h | .cr ..::_,_,h | .cz ..::_,_,h | .cp ..::_,_,h | .cs ..::_,_,h | .cf ..::_,_,h | .cv ..::_,_,h=>by cases h
theorem yu0 {op:BinOp} {t:Bool} {d:Option Bool} {s:SV} (h:bI op t d=some s) (hd:∀ v,d=some v→t=v):
  s.ok n X W∧((op=.eql∧s.den X=.bool t)∨(op=.neq∧s.den X=.bool (!t))):=by
 unfold bI cI at h
 split at h
 ·cases h;exact ⟨⟨rfl,hd⟩,.inl ⟨rfl,rfl⟩⟩
 ·cases h;exact ⟨⟨rfl,zX5 hd⟩,.inr ⟨rfl,rfl⟩⟩
 ·cases h
theorem zS8 {t:TypeId} (d:Nat) (h:P.underlying t=some .bool) (x y:Bool):(Op.equalIn (d+1) t (.bool x) (.bool y)).run P V=.ok (x==y) V:=by
 simp [Op.equalIn,run_underlying h]
theorem yh6 {t:TypeId} (h:P.underlying t=some .bool) (x y:Bool):(Op.equal t (.bool x) (.bool y)).run P V=.ok (x==y) V:=by
 show (Op.equalIn (9999+1) t _ _).run P V=_
 exact zS8 9999 h x y
theorem bin_ok {a:Act} {op:BinOp} {t t2:TypeId} {x y:Operand} (hop:o.op=.binOp op t x y t2) {p q s:SV} (hx:a.eval x=p.den X) (hy:a.eval y=q.den X) (hp:p.ok n X W) (hq:q.ok n X W)
  (h:xBin P op t p q=some s):RunV P a o V (s.den X)∧s.ok n X W:=by
 unfold xBin at h
 split at h
 ·rename_i k A la ha k' B lc hc
  split at h
  ·rename_i hk
   subst hk
   exact rv_int op t t2 x y k A B hop hx hy s la ha lc hc hp.2 hq.2 h
  ·cases h
 ·rename_i l d m e
  have hb:=yu0 (n:=n) (X:=X) (W:=W) h (fun v hv=>by cases hv)
  refine ⟨?_,hb.1⟩
  rcases hb.2 with ⟨rfl,h2⟩ | ⟨rfl,h2⟩<;>rw [h2]
  ·exact yd2 t t2 x y l m hop hx hy
  ·exact rv_sne t t2 x y l m hop hx hy
 ·rename_i A d B e
  split at h
  ·rename_i hu
   have hd:∀ v,(match d,e with | some a,some b=>some (a==b) | _,_=>none)=some v→(A==B)=v:=by
    intro v hv
    have h1:=hp.2
    have h2:=hq.2
    cases d with
    | none=>cases hv
    | some d'=>
     cases e with
     | none=>cases hv
     | some e'=>cases hv;rw [h1 d' rfl,h2 e' rfl]
   have hb:=yu0 (n:=n) (X:=X) (W:=W) h hd
   refine ⟨?_,hb.1⟩
   have he:=yh6 (V:=V) hu A B
   have hx':a.eval x=.bool A:=hx
   have hy':a.eval y=.bool B:=hy
   rcases hb.2 with ⟨rfl,h2⟩ | ⟨rfl,h2⟩<;>rw [h2]<;>unfold RunV execOp<;>simp only [hop,hx',hy']
   ·simp [go_sem,binOp,eqGuard,he]
   ·simp [go_sem,binOp,eqGuard,he]
  ·cases h
 ·rename_i l m
  unfold xBinG at h
  split at h
  ·cases h
  ·rename_i hg
   have hg':P.eqGuardType P.depth t=false:=by simpa using hg
   split at h
   ·rename_i k e hu
    split at h
    ·rename_i hue
     split at h
     ·rename_i A B hA hB
      split at h
      ·rename_i hc
       simp only [Bool.and_eq_true,Nat.beq_eq] at hc
       obtain ⟨⟨⟨⟨c1,c2⟩,c3⟩,c4⟩,c5⟩:=hc
       have hb:=yu0 (n:=n) (X:=X) (W:=W) h (fun v hv=>by cases hv)
       refine ⟨?_,hb.1⟩
       have hx':a.eval x=.agg (A.map fun l=>Value.string ⟨l.toArray⟩).toArray:=hx.trans (congrArg Value.agg (zG1 hA))
       have hy':a.eval y=.agg (B.map fun l=>Value.string ⟨l.toArray⟩).toArray:=hy.trans (congrArg Value.agg (zG1 hB))
       have h1:(P.underlying t,decide (A.length=B.length))=(some (.array A.length e),true):=by rw [hu,c1,c2];simp
       have h2:(P.underlying e,(P.info? e).isSome,P.cellsOf e,P.plainKey e)=(some .string,true,1,true):=by rw [hue,c3,c4,c5]
       rcases hb.2 with ⟨rfl,h3⟩ | ⟨rfl,h3⟩<;>rw [h3]
       ·exact yj2 t t2 e x y A B hop hx' hy' h1 h2 hg'
       ·exact rv_ssn t t2 e x y A B hop hx' hy' h1 h2 hg'
      ·cases h
     ·cases h
    ·rename_i kk hue
     split at h
     ·rename_i A B hA hB
      split at h
      ·rename_i hc
       simp only [Bool.and_eq_true,Nat.beq_eq] at hc
       obtain ⟨⟨⟨⟨c1,c2⟩,c3⟩,c4⟩,c5⟩:=hc
       have hb:=yu0 (n:=n) (X:=X) (W:=W) h (fun v hv=>by cases hv)
       refine ⟨?_,hb.1⟩
       have hx':a.eval x=.agg (A.map (Value.int kk)).toArray:=hx.trans (congrArg Value.agg (zG2 hA))
       have hy':a.eval y=.agg (B.map (Value.int kk)).toArray:=hy.trans (congrArg Value.agg (zG2 hB))
       have h1:(P.underlying t,decide (A.length=B.length))=(some (.array A.length e),true):=by rw [hu,c1,c2];simp
       have h2:(P.underlying e,(P.info? e).isSome,P.cellsOf e,P.plainKey e)=(some (.int kk),true,1,true):=by rw [hue,c3,c4,c5]
       rcases hb.2 with ⟨rfl,h3⟩ | ⟨rfl,h3⟩<;>rw [h3]
       ·exact zL4 t t2 e x y A B hop hx' hy' h1 h2 hg'
       ·exact rv_arrne t t2 e x y A B hop hx' hy' h1 h2 hg'
      ·cases h
     ·cases h
    ·cases h
   ·split at h
    ·rename_i hp
     obtain ⟨tA,tS,eA,eS,k1,k2,k3,k4,k5,k6,k7⟩:=plcT_ok hp
     split at h
     ·have hb:=yu0 (n:=n) (X:=X) (W:=W) h (fun v hv=>by cases hv)
      refine ⟨?_,hb.1⟩
      rcases hb.2 with ⟨rfl,h3⟩ | ⟨rfl,h3⟩<;>rw [h3]
      ·exact rv_plceq t t2 tA tS eA eS x y _ _ _ _ _ _ _ _ _ _ _ _ _ _ hop hx hy k1 k2 k3 k4 k5 k6 k7 hg'
      ·exact rv_plcne t t2 tA tS eA eS x y _ _ _ _ _ _ _ _ _ _ _ _ _ _ hop hx hy k1 k2 k3 k4 k5 k6 k7 hg'
     ·cases h
    ·cases h
   ·cases h
 ·cases h
end
section
variable {P:Program} {o:Oper} {n:Nn} {X:Env} {W V:World} {fr:List SV}
theorem zf1 {c:Cl} {s:SV} (h:cI c=some s):s=.so (.vc c):=by cases h;rfl
theorem zu5 {can:Nat→Bool} {bl:List (Nat × List Cl)} {s:SV} (h:xPure P can fr bl o=some s) (hf:okF n X W fr) (hb:∀ (i:Nat) t cs,bl[i]?=some (t,cs)→okL n X W cs)
  (hS:∀ (i:Nat) t cs,can i=true→bl[i]?=some (t,cs)→Lc V (X.E i) (dnL X cs) t):RunV P (za5 X fr) o V (s.den X)∧s.ok n X W:=by
 unfold xPure at h
 split at h
 ·rename_i x hop
  have:=zd0 h hf
  exact ⟨by unfold RunV execOp;simp [hop,this.1],this.2⟩
 ·rename_i x hop
  have:=zd0 h hf
  exact ⟨by unfold RunV execOp;simp [hop,this.1],this.2⟩
 ·rename_i t x f hop
  unfold yt8 at h
  split at h
  ·rename_i j off h1
   split at h
   ·rename_i fs h2
    split at h
    ·rename_i fd h3
     rw [zi5,Array.getElem?_toList] at h3
     split at h
     ·rename_i i h4
      split at h
      ·cases h
      ·rename_i h5
       have hz:¬ i.size=0:=fun e=>h5 (by rw [e];rfl)
       cases zf1 h
       have he:=zd0 h1 hf
       refine ⟨zI4 (s:=Instr.fieldAt t ((za5 X fr).eval x) f) (by unfold execOp;simp only [hop]) ?_,he.2⟩
       rw [he.1]
       show (Instr.fieldAt t (.pointer (some ⟨X.E j,off,none⟩)) f).run P V=_
       simp [Instr.fieldAt,run_underlying h2,h3,Instr.sureAddr,fieldPlace,sizeOf,typeInfo,h4,hz,zB5,SV.den,TV.den,Cl.den]
     ·cases h
    ·cases h
   ·cases h
  ·cases h
 ·rename_i t x y hop
  unfold xIdxA at h
  split at h
  ·rename_i j off k z lo hi h1 h2
   split at h
   ·rename_i len e h3
    split at h
    ·rename_i q i h4 h5
     cases zf1 h
     have hx:=zd0 h1 hf
     have hy:=zd0 h2 hf
     have hl:=zX9 h4 hy.2.2
     refine ⟨zI4 (s:=Instr.indexAt t ((za5 X fr).eval x) ((za5 X fr).eval y)) (by unfold execOp;simp only [hop]) ?_,hx.2⟩
     rw [hx.1,hy.1]
     show (Instr.indexAt t (.pointer (some ⟨X.E j,off,none⟩)) (.int k z)).run P V=_
     simp [Instr.indexAt,Instr.sureAddr,asIntOf,run_underlying h3,sizeOf,typeInfo,h5,hl.1,hl.2,zB5,SV.den,TV.den,Cl.den]
    ·cases h
   ·cases h
  ·rename_i j off len cap k z lo hi h1 h2
   split at h
   ·rename_i e h3
    split at h
    ·rename_i q i h4 h5
     cases zf1 h
     have hx:=zd0 h1 hf
     have hy:=zd0 h2 hf
     have hl:=zX9 h4 hy.2.2
     refine ⟨zI4 (s:=Instr.indexAt t ((za5 X fr).eval x) ((za5 X fr).eval y)) (by unfold execOp;simp only [hop]) ?_,hx.2⟩
     rw [hx.1,hy.1]
     show (Instr.indexAt t (.slice (some ⟨X.E j,off,none⟩) len cap) (.int k z)).run P V=_
     simp [Instr.indexAt,Instr.sureAddr,asIntOf,run_underlying h3,sizeOf,typeInfo,h5,hl.1,hl.2,zB5,SV.den,TV.den,Cl.den]
    ·cases h
   ·cases h
  ·cases h
 ·rename_i t x hop
  unfold xLoad at h
  split at h
  ·rename_i j off h1
   split at h
   ·rename_i hc
    split at h
    ·rename_i tt cs h2
     rw [zi5] at h2
     have he:=zd0 h1 hf
     have hL:=hS j tt cs hc h2
     have hp:=zY0 (V:=V) h (hb j tt cs h2)
     refine ⟨?_,hp.2.1⟩
     rcases hp.2.2 with ⟨m,hm,hle,rfl⟩ | ⟨h3,c,hc',rfl⟩
     ·refine ys4 t x (X.E j) off (dnL X cs) tt _ hop he.1 hL ?_ ?_
      ·simp only [dnL,List.map_drop,List.map_take,List.length_map,List.length_take,List.length_drop]
       rw [Nat.min_eq_left (by omega)]
      ·rw [hm];simp only [List.length_map,List.length_take,List.length_drop];rw [Nat.min_eq_left (by omega)]
     ·exact yd4 t x (X.E j) off (dnL X cs) tt _ hop he.1 hL (by simp [dnL,hc',SV.den,TV.den]) h3
    ·cases h
   ·cases h
  ·cases h
 ·rename_i t parts hop
  have:=build_ok (V:=V) hf h
  exact ⟨zI4 (s:=Instr.build t (parts.map fun (i,x)=>(i,(za5 X fr).eval x))) (by unfold execOp;simp only [hop]) this.1,this.2⟩
 ·rename_i x i hop
  unfold xExtr at h
  split at h
  ·rename_i l h1
   split at h
   ·rename_i v h2
    rw [zi5] at h2
    cases h
    have he:=zd0 h1 hf
    refine ⟨zI4 (s:=Instr.extract ((za5 X fr).eval x) i) (by unfold execOp;simp only [hop]) ?_,he.2 v (List.mem_of_getElem? h2)⟩
    rw [he.1]
    simp [Instr.extract,SV.den,h2]
   ·cases h
  ·cases h
 ·rename_i t x f hop
  unfold xField at h
  split at h
  ·rename_i l h1
   split at h
   ·rename_i fs h2
    split at h
    ·rename_i fd h3
     rw [zi5,Array.getElem?_toList] at h3
     have he:=zd0 h1 hf
     have hp:=zY0 (V:=V) h he.2
     refine ⟨zI4 (s:=Instr.field t ((za5 X fr).eval x) f) (by unfold execOp;simp only [hop]) ?_,hp.2.1⟩
     rw [he.1]
     show (Instr.field t (.agg (dnL X l)) f).run P V=_
     simp [Instr.field,run_underlying h2,h3,asAgg,hp.1]
    ·cases h
   ·cases h
  ·cases h
 ·rename_i t x y hop
  unfold xIdx at h
  split at h
  ·rename_i l k z lo hi h1 h2
   split at h
   ·rename_i len e h3
    split at h
    ·rename_i q i h4 h5
     have hx:=zd0 h1 hf
     have hy:=zd0 h2 hf
     have hl:=zX9 h4 hy.2.2
     have hp:=zY0 (V:=V) h hx.2
     refine ⟨zI4 (s:=Instr.index t ((za5 X fr).eval x) ((za5 X fr).eval y)) (by unfold execOp;simp only [hop]) ?_,hp.2.1⟩
     rw [hx.1,hy.1]
     show (Instr.index t (.agg (dnL X l)) (.int k z)).run P V=_
     simp [Instr.index,asIntOf,run_underlying h3,sizeOf,typeInfo,h5,hl.1,hl.2,hp.1]
    ·cases h
   ·cases h
  ·cases h
 ·rename_i c x y hop
  unfold xPick at h
  split at h
  ·rename_i t h1
   have hc:=zd0 h1 hf
   have hx:=zd0 h hf
   have:(za5 X fr).eval c=.bool true:=by rw [hc.1];exact congrArg Value.bool (hc.2.2 true rfl)
   exact ⟨by unfold RunV execOp;simp [hop,this,asBool,hx.1],hx.2⟩
  ·rename_i t h1
   have hc:=zd0 h1 hf
   have hx:=zd0 h hf
   have:(za5 X fr).eval c=.bool false:=by rw [hc.1];exact congrArg Value.bool (hc.2.2 false rfl)
   exact ⟨by unfold RunV execOp;simp [hop,this,asBool,hx.1],hx.2⟩
  ·cases h
 ·rename_i op t x y t2 hop
  unfold xBin2 at h
  split at h
  ·rename_i a b h1 h2
   have hx:=zd0 h1 hf
   have hy:=zd0 h2 hf
   exact bin_ok hop hx.1 hy.1 hx.2 hy.2 h
  ·cases h
 ·rename_i op t x hop
  unfold xUn at h
  split at h
  ·rename_i b d h1
   cases zf1 h
   have he:=zd0 h1 hf
   refine ⟨?_,rfl,zX5 he.2.2⟩
   have hx:(za5 X fr).eval x=.bool b:=he.1
   unfold RunV execOp
   simp [hop,hx,Op.unary,SV.den,TV.den,Cl.den]
  ·rename_i k z lo hi h1
   cases zf1 h
   have he:=zd0 h1 hf
   have h3:=he.2.2
   have h4:=wr_ok (k:=k) (z:=0 - z) (lo:=0 - hi) (hi:=0 - lo) (by simp only [Cl.good] at h3;omega) (by simp only [Cl.good] at h3;omega) n X W
   refine ⟨?_,h4.2⟩
   have hx:(za5 X fr).eval x=.int k z:=he.1
   unfold RunV execOp
   simp only [hop,hx]
   show ((do pure (.value (← Op.unary .neg (.int k z)))):Sem Next).run P V=.ok (.value ((wr k (0 - z) (0 - hi) (0 - lo)).den X)) V
   rw [h4.1]
   simp [Op.unary,Op.intArith]
  ·cases h
 ·rename_i t d x hop
  unfold xConv at h
  split at h
  ·rename_i k' z lo hi h3
   split at h
   ·rename_i td k h1 h2
    cases zf1 h
    have he:=zd0 h3 hf
    have h4:=wr_ok (k:=k) he.2.2.1 he.2.2.2 n X W
    refine ⟨?_,h4.2⟩
    have hx:(za5 X fr).eval x=.int k' z:=he.1
    refine zI4 (s:=convert t d ((za5 X fr).eval x)) (by unfold execOp;simp only [hop]) ?_
    rw [hx]
    show _=Result.ok ((wr k z lo hi).den X) V
    rw [h4.1]
    simp [convert,run_underlying h1,run_underlying h2,Conv.intToInt]
   ·cases h
  ·rename_i l e h3
   split at h
   ·rename_i td h1 h2
    cases zf1 h
    have he:=zd0 h3 hf
    refine ⟨?_,he.2⟩
    have hx:(za5 X fr).eval x=.string ⟨l.toArray⟩:=he.1
    refine zI4 (s:=convert t d ((za5 X fr).eval x)) (by unfold execOp;simp only [hop]) ?_
    rw [hx]
    simp [convert,run_underlying h1,run_underlying h2,SV.den,TV.den,Cl.den]
   ·cases h
  ·cases h
 ·rename_i t x hop
  unfold xSlc at h
  split at h
  ·rename_i j off h1
   split at h
   ·rename_i len e h2
    split at h
    ·rename_i hi
     obtain ⟨i,hi⟩:=Option.isSome_iff_exists.1 hi
     cases zf1 h
     have he:=zd0 h1 hf
     refine ⟨?_,he.2⟩
     have hx:(za5 X fr).eval x=.pointer (some ⟨X.E j,off,none⟩):=he.1
     refine zI4 (s:=Instr.sliceAt t ((za5 X fr).eval x) none none none) (by unfold execOp;simp only [hop];rfl) ?_
     rw [hx]
     simp [Instr.sliceAt,Instr.sliceBounds,Instr.sureAddr,run_underlying h2,sizeOf,typeInfo,hi,zB5,SV.den,TV.den,Cl.den]
    ·cases h
   ·cases h
  ·cases h
 ·rename_i fn first captured hop
  unfold xMkF at h
  split at h
  ·rename_i h0
   split at h
   ·rename_i l h1
    cases zf1 h
    have hc:=yt9 hf h1
    refine ⟨?_,hc.2,trivial⟩
    have h2:first=#[]:=by simpa using h0
    have h3:(captured.map (za5 X fr).eval)=(l.map X.ptr).toArray:=by
     rw [← hc.1,← Array.toList_map,Array.toArray_toList]
    unfold RunV execOp
    simp [hop,h2,Instr.makeFunc,SV.den,TV.den,Cl.den,h3]
   ·cases h
  ·cases h
 ·rename_i c hop
  have hargs:∀ {l:List Operand},c.args.toList=l→c.args.map (za5 X fr).eval=(l.map (za5 X fr).eval).toArray:=fun {l} e=>by
   rw [← e,← Array.toList_map,Array.toArray_toList]
  split at h
  ·rename_i bi hc
   generalize ha:c.args.toList=al at h
   unfold xBi at h
   split at h
   ·rename_i x
    have aa:=hargs ha
    generalize ht:c.argTypes[0]?=ot at h
    generalize hv:ev fr x=ov at h
    unfold xLen at h
    split at h
    ·rename_i t v
     have run:∀ {v u:Value},(za5 X fr).eval x=v→(Builtin.len_ c.argTypes o.type #[v]).run P V=.ok u V→RunV P (za5 X fr) o V u:=fun {v u} e hr=>by
      unfold RunV execOp
      simp only [hop,resolve,hc,invoke,builtin,Sem.run_bind,Sem.run_pure,Result.andThen_ok,aa,List.map_cons,List.map_nil,e]
      simp [hr]
     split at h
     ·rename_i e h1
      split at h
      ·rename_i j off len cap
       cases zf1 h
       refine ⟨run (zd0 hv hf).1 ?_,rfl,Int.le_refl _,Int.le_refl _⟩
       simp [Builtin.len_,ht,run_underlying h1,SV.den,TV.den,Cl.den,goInt]
      ·cases zf1 h
       refine ⟨run (zd0 hv hf).1 ?_,rfl,Int.le_refl _,Int.le_refl _⟩
       simp [Builtin.len_,ht,run_underlying h1,SV.den,TV.den,Cl.den,goInt]
      ·cases h
     ·rename_i len e h1
      cases zf1 h
      refine ⟨run (zd0 hv hf).1 ?_,rfl,Int.le_refl _,Int.le_refl _⟩
      simp [Builtin.len_,ht,run_underlying h1,SV.den,TV.den,Cl.den,goInt]
     ·rename_i h1
      split at h
      ·rename_i l k q
       cases zf1 h
       have hq:=(zd0 hv hf).2.2 k q rfl
       have hn:=zq3 hq.2.1 hq.2.2
       rw [← hq.1] at hn
       refine ⟨run (zd0 hv hf).1 ?_,rfl,Int.natCast_nonneg _,Int.ofNat_le.2 hn⟩
       simp [Builtin.len_,ht,run_underlying h1,SV.den,TV.den,Cl.den,goInt]
       rfl
      ·cases zf1 h
       refine ⟨run (zd0 hv hf).1 ?_,rfl,Int.le_refl _,Int.le_refl _⟩
       simp [Builtin.len_,ht,run_underlying h1,SV.den,TV.den,Cl.den,goInt]
       rfl
      ·cases h
     ·cases h
    ·cases h
   ·rename_i x y
    have aa:=hargs ha
    unfold xMax at h
    split at h
    ·rename_i k a la ha' k2 b lc hc' h1 h2
     cases zf1 h
     have hx:=zd0 h1 hf
     have hy:=zd0 h2 hf
     refine ⟨?_,rfl,?_⟩
     ·unfold RunV execOp
      simp only [hop,resolve,hc,invoke,builtin,Sem.run_bind,Sem.run_pure,Result.andThen_ok,aa,List.map_cons,List.map_nil,hx.1,hy.1]
      simp [Builtin.max_,Builtin.max2,SV.den,TV.den,Cl.den]
     ·have a1:=hx.2.2
      have a2:=hy.2.2
      simp only [Cl.good] at a1 a2 ⊢
      split<;>omega
    ·cases h
   ·rename_i x y
    have aa:=hargs ha
    unfold xMin at h
    split at h
    ·rename_i k a la ha' k2 b lc hc' h1 h2
     cases zf1 h
     have hx:=zd0 h1 hf
     have hy:=zd0 h2 hf
     refine ⟨?_,rfl,?_⟩
     ·unfold RunV execOp
      simp only [hop,resolve,hc,invoke,builtin,Sem.run_bind,Sem.run_pure,Result.andThen_ok,aa,List.map_cons,List.map_nil,hx.1,hy.1]
      simp [Builtin.min_,Builtin.min2,SV.den,TV.den,Cl.den]
     ·have a1:=hx.2.2
      have a2:=hy.2.2
      simp only [Cl.good] at a1 a2 ⊢
      split<;>omega
    ·cases h
   ·cases h
  ·cases h
 ·cases h
end
inductive Dt where
 | e
 | t (d:Dt)
 | f (d:Dt)
 | s (a b:Dt)
 | o (d:Dt)
 | c
 | i (l h u:Int) (d:Dt)
structure Sg where
 fr:List SV
 bl:List (Nat × List Cl)
 nu:Nat
 nr:Nat
 nz:Nat
 ds:Dt
def Sg.nn (s:Sg):Nn:=⟨s.bl.length,s.nr,s.nz⟩
structure Base where
 w:World
 X:Env
 n:Nn
 ks:List (Nat × Obj)
structure Rep (B:Base) (X:Env) (s:Sg) (w:World):Prop where
 gr:Gr B.w w
 ag:Agr B.n B.X X
 le:B.n.le s.nn
 fr:okF s.nn X w s.fr
 bl:∀ (i:Nat) t cs,s.bl[i]?=some (t,cs)→okL s.nn X w cs
 lc:∀ (i:Nat) t cs,s.bl[i]?=some (t,cs)→Lc w (X.E i) (dnL X cs) t∧t≠161
 own:∀ i,s.nu≤i→i<s.bl.length→B.w.heap.size≤X.E i
 inj:∀ i j,i<s.bl.length→j<s.bl.length→X.E i=X.E j→i=j
 ks:∀ x ∈ B.ks,w.heap[x.1]?=some x.2∧∀ i,i<s.bl.length→X.E i≠x.1
def Stay (ro:Nat→Bool) (X:Env) (s:Sg) (w w':World):Prop:=∀ (b:Nat) (cs:Array Value) (t:TypeId),(∀ j,j<s.bl.length→ro j=false→b≠X.E j)→Lc w b cs t→Lc w' b cs t
theorem Stay.gr {ro:Nat→Bool} {X:Env} {s:Sg} {w w':World} (g:Gr w w'):Stay ro X s w w':=fun _ _ _ _ h=>h.gr g
theorem Rep.to {B:Base} {X:Env} {s:Sg} {w w':World} (h:Rep B X s w) (g:Gr w w'):Rep B X s w' where
 gr:=h.gr.trans g
 ag:=h.ag
 le:=h.le
 fr:=zS7 (.refl _) (.refl _ _) g.kp h.fr
 bl:=fun i t cs hi=>zA0 (.refl _) (.refl _ _) g.kp (h.bl i t cs hi)
 lc:=fun i t cs hi=>⟨(h.lc i t cs hi).1.gr g,(h.lc i t cs hi).2⟩
 own:=h.own
 inj:=h.inj
 ks:=fun x hx=>⟨g.heap (h.ks x hx).1,(h.ks x hx).2⟩
theorem Rep.set {B:Base} {X:Env} {s:Sg} {w:World} (h:Rep B X s w) {d:Nat} {v:SV} (hv:v.ok s.nn X w):Rep B X {s with fr:=s.fr.set d v} w where
 gr:=h.gr
 ag:=h.ag
 le:=h.le
 fr:=yt2 h.fr hv
 bl:=h.bl
 lc:=h.lc
 own:=h.own
 inj:=h.inj
 ks:=h.ks
theorem Rep.lt {B:Base} {X:Env} {s:Sg} {w:World} (h:Rep B X s w) {i:Nat} (hi:i<s.bl.length):X.E i<w.heap.size:=by
 obtain ⟨x,e⟩:∃ x,s.bl[i]?=some x:=⟨_,List.getElem?_eq_getElem hi⟩
 exact (h.lc i x.1 x.2 e).1.lt
def Env.push (X:Env) (n b:Nat):Env:={X with E:=fun i=>if i=n then b else X.E i}
theorem Env.push_agree (X:Env) (n:Nn) (b:Nat):Agr n X (X.push n.b b):=⟨fun i hi=>by simp only [Env.push];rw [if_neg (by omega)],fun _ _ _=>rfl,fun _ _ _=>rfl,rfl⟩
def Sg.grow (s:Sg) (t:Nat) (cs:List Cl):Sg:={s with bl:=s.bl++[(t,cs)]}
theorem Rep.add {B:Base} {X:Env} {s:Sg} {w w':World} (h:Rep B X s w) {t b:Nat} {cs:List Cl} (hc:okL s.nn X w cs) (ht:t≠161) (g:Gr w w') (hL:Lc w' b (dnL X cs) t) (hb:B.w.heap.size≤b) (hne:∀ i,i<s.bl.length→X.E i≠b) (hnk:∀ x ∈ B.ks,b≠x.1):
  Rep B (X.push s.bl.length b) (s.grow t cs) w'∧Agr s.nn X (X.push s.bl.length b):=by
 have hA:Agr s.nn X (X.push s.bl.length b):=Env.push_agree X s.nn b
 have hn:s.nn.le (s.grow t cs).nn:=⟨by simp [Sg.nn,Sg.grow],Nat.le_refl _,Nat.le_refl _⟩
 have hE:(X.push s.bl.length b).E s.bl.length=b:=by simp [Env.push]
 have hold:∀ i,i<s.bl.length→(X.push s.bl.length b).E i=X.E i:=fun i hi=>(hA.E i hi).symm
 have hget:∀ (i:Nat) x,(s.grow t cs).bl[i]?=some x→(i<s.bl.length∧s.bl[i]?=some x)∨(i=s.bl.length∧x=(t,cs)):=fun i x hx=>by
  simp only [Sg.grow] at hx
  rcases Nat.lt_trichotomy i s.bl.length with hi | rfl | hi
  ·rw [List.getElem?_append_left hi] at hx;exact .inl ⟨hi,hx⟩
  ·simp at hx;exact .inr ⟨rfl,hx.symm⟩
  ·rw [List.getElem?_append_right (by omega),List.getElem?_eq_none (by simp;omega)] at hx;cases hx
 have hlen:(s.grow t cs).bl.length=s.bl.length+1:=by simp [Sg.grow]
 refine ⟨⟨h.gr.trans g,h.ag.trans (hA.mono h.le),h.le.trans hn,zS7 hn hA g.kp h.fr,fun i u ds hi=>?_,fun i u ds hi=>?_,fun i h1 h2=>?_,fun i j hi hj e=>?_,fun x hx=>⟨g.heap (h.ks x hx).1,fun i hi=>?_⟩⟩,hA⟩
 ·rcases hget i _ hi with ⟨_,hx⟩ | ⟨_,hx⟩
  ·exact zA0 hn hA g.kp (h.bl i u ds hx)
  ·cases hx;exact zA0 hn hA g.kp hc
 ·rcases hget i _ hi with ⟨hl,hx⟩ | ⟨rfl,hx⟩
  ·have:=h.lc i u ds hx
   rw [hold i hl,← zu2 hA fun c hc'=>(h.bl i u ds hx c hc').1]
   exact ⟨this.1.gr g,this.2⟩
  ·cases hx
   rw [hE,← zu2 hA fun c hc'=>(hc c hc').1]
   exact ⟨hL,ht⟩
 ·rw [hlen] at h2
  rcases Nat.lt_or_ge i s.bl.length with hi | hi
  ·rw [hold i hi];exact h.own i h1 hi
  ·obtain rfl:i=s.bl.length:=by omega
   rw [hE];exact hb
 ·rw [hlen] at hi hj
  rcases Nat.lt_or_ge i s.bl.length with hi' | hi'<;>rcases Nat.lt_or_ge j s.bl.length with hj' | hj'
  ·rw [hold i hi',hold j hj'] at e;exact h.inj i j hi' hj' e
  ·obtain rfl:j=s.bl.length:=by omega
   rw [hold i hi',hE] at e
   exact absurd e (hne i hi')
  ·obtain rfl:i=s.bl.length:=by omega
   rw [hold j hj',hE] at e
   exact absurd e.symm (hne j hj')
  ·omega
 ·rw [hlen] at hi
  rcases Nat.lt_or_ge i s.bl.length with hi' | hi'
  ·rw [hold i hi'];exact (h.ks x hx).2 i hi'
  ·obtain rfl:i=s.bl.length:=by omega
   rw [hE];exact hnk x hx
theorem Rep.grow {B:Base} {X:Env} {s:Sg} {w w':World} (h:Rep B X s w) {t b:Nat} {cs:List Cl} (hc:okL s.nn X w cs) (ht:t≠161) (g:Gr w w') (hL:Lc w' b (dnL X cs) t) (hb:w.heap.size≤b):
  Rep B (X.push s.bl.length b) (s.grow t cs) w'∧Agr s.nn X (X.push s.bl.length b):=
 h.add hc ht g hL (Nat.le_trans h.gr.size hb) (fun i hi=>by have:=h.lt hi;omega) (fun x hx=>by have:=zf6 (h.ks x hx).1;omega)
theorem Rep.store {B:Base} {X:Env} {s:Sg} {w w':World} (h:Rep B X s w) {j t:Nat} {cs ds:List Cl} (hj:s.bl[j]?=some (t,cs)) (hu:s.nu≤j) (hd:okL s.nn X w ds) (st:St w w' (X.E j)) (hL:Lc w' (X.E j) (dnL X ds) t):
  Rep B X {s with bl:=s.bl.set j (t,ds)} w':=by
 have hjl:j<s.bl.length:=(List.getElem?_eq_some_iff.1 hj).1
 have hk:Kp w w':=st.kp (h.lc j t cs hj).1 (h.lc j t cs hj).2
 have hnn:({s with bl:=s.bl.set j (t,ds)}:Sg).nn=s.nn:=by simp [Sg.nn]
 have hget:∀ (i:Nat) x,(s.bl.set j (t,ds))[i]?=some x→(i≠j∧s.bl[i]?=some x)∨(i=j∧x=(t,ds)):=fun i x hx=>by
  by_cases e:i=j
  ·subst e;rw [List.getElem?_set_self hjl] at hx;exact .inr ⟨rfl,(Option.some.inj hx).symm⟩
  ·rw [List.getElem?_set_ne (Ne.symm e)] at hx;exact .inl ⟨e,hx⟩
 refine ⟨st.gr h.gr (h.own j hu hjl),h.ag,by rw [hnn];exact h.le,by rw [hnn];exact zS7 (.refl _) (.refl _ _) hk h.fr,fun i u es hi=>?_,fun i u es hi=>?_,fun i h1 h2=>?_,fun i k h1 h2 e=>?_,fun x hx=>⟨?_,fun i hi=>?_⟩⟩
 ·rw [hnn]
  rcases hget i _ hi with ⟨_,hx⟩ | ⟨_,hx⟩
  ·exact zA0 (.refl _) (.refl _ _) hk (h.bl i u es hx)
  ·cases hx;exact zA0 (.refl _) (.refl _ _) hk hd
 ·rcases hget i _ hi with ⟨hne,hx⟩ | ⟨rfl,hx⟩
  ·have hil:i<s.bl.length:=(List.getElem?_eq_some_iff.1 hx).1
   exact ⟨st.lc (h.lc i u es hx).1 (fun e=>hne (h.inj i j hil hjl e)),(h.lc i u es hx).2⟩
  ·cases hx;exact ⟨hL,(h.lc i t cs hj).2⟩
 ·exact h.own i h1 (by simpa using h2)
 ·exact h.inj i k (by simpa using h1) (by simpa using h2) e
 ·rw [st.block _ (Ne.symm ((h.ks x hx).2 j hjl))];exact (h.ks x hx).1
 ·exact (h.ks x hx).2 i (by simpa using hi)

def isU32 (t:Nat):Bool:=Nat.beq t 161
def putD (d:Option Tmp) (v:SV) (fr:List SV):List SV:=match d with | some d=>fr.set d v | none=>fr
noncomputable def Sg.put {β:Type} (s:Sg) (d:Option Tmp) (v:SV) (k:Sg→β):β:=match s with
 | ⟨fr,bl,nu,nr,nz,ds⟩=>match d with
  | some d=>setF fr d v fun fr=>k ⟨fr,bl,nu,nr,nz,ds⟩
  | none=>k ⟨fr,bl,nu,nr,nz,ds⟩
theorem Sg.put_eq {β:Type} (s:Sg) (d:Option Tmp) (v:SV) (k:Sg→β):s.put d v k=k {s with fr:=putD d v s.fr}:=by
 obtain ⟨fr,bl,nu,nr,nz,ds⟩:=s
 cases d
 ·rfl
 ·simp only [Sg.put,zX2,Go.Proofs.YtaldbfflkpgfoaaGreatDoor.putD]
noncomputable def Sg.new {β:Type} (s:Sg) (t:Nat) (cs:List Cl) (k:Sg→β):β:=match s with
 | ⟨fr,bl,nu,nr,nz,ds⟩=>frcL cs fun cs=>appF bl [(t,cs)] fun bl=>k ⟨fr,bl,nu,nr,nz,ds⟩
theorem Sg.new_eq {β:Type} (s:Sg) (t:Nat) (cs:List Cl) (k:Sg→β):s.new t cs k=k (s.grow t cs):=by
 obtain ⟨fr,bl,nu,nr,nz,ds⟩:=s
 simp only [Sg.new,zx7,zX3,Sg.grow]
noncomputable def Sg.sto {β:Type} (s:Sg) (j t:Nat) (cs:List Cl) (k:Sg→β):β:=match s with
 | ⟨fr,bl,nu,nr,nz,ds⟩=>frcL cs fun cs=>setF bl j (t,cs) fun bl=>k ⟨fr,bl,nu,nr,nz,ds⟩
theorem Sg.sto_eq {β:Type} (s:Sg) (j t:Nat) (cs:List Cl) (k:Sg→β):s.sto j t cs k=k {s with bl:=s.bl.set j (t,cs)}:=by
 obtain ⟨fr,bl,nu,nr,nz,ds⟩:=s
 simp only [Sg.sto,zx7,zX2]
noncomputable def xNew (o:Oper) (s:Sg) (t:Nat) (cs:List Cl) (v:Cl):Option Sg:=
 if isU32 t||!Nat.ble s.nu s.bl.length then none else s.new t cs fun s=>s.put o.dst (.so (.vc v)) some
noncomputable def xSto (P:Program) (ro:Nat→Bool) (o:Oper) (s:Sg) (t:Nat):Option SV→Option SV→Option Sg
 | some (.so (.vc (.cp j off))),some v=>match v.cells,nth s.bl j with
  | some vs,some (tt,cs)=>match P.info? t with
   | some i=>if Nat.ble s.nu j&&!ro j&&Nat.beq i.size vs.length&&Nat.ble (off+vs.length) cs.length&&o.dst.isNone then s.sto j tt (zu4 cs off vs) some else none
   | none=>none
  | _,_=>none
 | _,_=>none
noncomputable def xEff (P:Program) (ro:Nat→Bool) (o:Oper) (s:Sg):Option Sg:=
 match o.op with
 | .alloc t=>match P.info? t with
  | some i=>match zx9 i.zero with
   | some cs=>xNew o s t cs (.cp s.bl.length 0)
   | none=>none
  | none=>none
 | .box t x=>match ev s.fr x with
  | some v=>match v.cells with
   | some cs=>xNew o s t cs (.cp s.bl.length 0)
   | none=>none
  | none=>none
 | .store t x y=>xSto P ro o s t (ev s.fr x) (ev s.fr y)
 | _=>none
theorem yu1 {o:Oper} {s s':Sg} {t:Nat} {cs:List Cl} {v:Cl} (h:xNew o s t cs v=some s'):t≠161∧s.nu≤s.bl.length∧s'={s.grow t cs with fr:=putD o.dst (.so (.vc v)) s.fr}:=by
 unfold xNew at h
 split at h
 ·cases h
 ·rename_i hc
  simp only [Bool.or_eq_true,Bool.not_eq_true',not_or] at hc
  rw [Sg.new_eq,Sg.put_eq] at h
  cases h
  refine ⟨fun e=>hc.1 (by subst e;rfl),?_,rfl⟩
  have h2:=hc.2
  simp only [Bool.not_eq_false,Nat.ble_eq] at h2
  exact h2
theorem Rep.putD {B:Base} {X:Env} {s:Sg} {w:World} (h:Rep B X s w) (d:Option Tmp) {v:SV} (hv:v.ok s.nn X w):Rep B X {s with fr:=Go.Proofs.YtaldbfflkpgfoaaGreatDoor.putD d v s.fr} w:=by
 cases d with
 | none=>exact h
 | some d=>exact h.set hv
theorem zj5 (X:Env) (fr:List SV) (d:Option Tmp) (v:SV):(za5 X fr).put d (v.den X)=za5 X (putD d v fr):=by
 cases d with
 | none=>rfl
 | some d=>exact zX4 X fr d v
theorem yd6 {n:Nn} {X:Env} {w:World}:∀ {l:List Cl},okL n X w l→One1 (l.map (Cl.den X))
 | [],_=>trivial
 | c::l,h=>⟨Cl.one (h c (by simp)),yd6 fun x hx=>h x (by simp [hx])⟩
theorem xEff_ok {P:Program} {ro:Nat→Bool} {o:Oper} {s s':Sg} {B:Base} {X:Env} {w:World} {K:Act→World→Prop} {Q:Exit→Act→World→Prop} (h:xEff P ro o s=some s') (hR:Rep B X s w)
  (hK:∀ X' w',Rep B X' s' w'→Agr s.nn X X'→Stay ro X s w w'→K (za5 X' s'.fr) w'):o.wp P (za5 X s.fr) w K Q:=by
 have new:∀ (t:Nat) (cs:List Cl) (b:Nat) (w':World),okL s.nn X w cs→xNew o s t cs (.cp s.bl.length 0)=some s'→Gr w w'→Lc w' b (dnL X cs) t→w.heap.size≤b→K ((za5 X s.fr).put o.dst (.pointer (some ⟨b,0,none⟩))) w':=by
  intro t cs b w' hc hn g hL hb
  obtain ⟨ht,_,rfl⟩:=yu1 hn
  obtain ⟨h1,h2⟩:=hR.grow hc ht g hL hb
  have hp:(SV.so (.vc (.cp s.bl.length 0))).ok (s.grow t cs).nn (X.push s.bl.length b) w':=⟨zm5 (by simp [Sg.nn,Sg.grow]),trivial⟩
  have:=hK (X.push s.bl.length b) w' (h1.putD o.dst hp) h2 (.gr g)
  have e:(za5 X s.fr).put o.dst (.pointer (some ⟨b,0,none⟩))=za5 (X.push s.bl.length b) (putD o.dst (.so (.vc (.cp s.bl.length 0))) s.fr):=by
   rw [← zj5,← zl8 h2 hR.fr]
   simp [SV.den,TV.den,Cl.den,Env.push]
  rw [e]
  exact this
 unfold xEff at h
 split at h
 ·rename_i t hop
  split at h
  ·rename_i i hi
   split at h
   ·rename_i cs hz
    cases hzz:i.zero with
    | none=>rw [hzz] at hz;cases hz
    | some z=>
     rw [hzz] at hz
     have hc:=zu3 (l:=z.cells.toList) hz s.nn X w
     refine zF8 t z (dnL X cs) o.dst rfl hop (by rw [hi];simp [hzz]) (by unfold dnL;rw [hc.1]) (fun b w' g hL hb=>new t cs b w' hc.2 h g hL hb)
   ·cases h
  ·cases h
 ·rename_i t x hop
  split at h
  ·rename_i v hv
   split at h
   ·rename_i cs hc
    have he:=zd0 hv hR.fr
    have hcs:=SV.cells_ok hc he.2
    exact ys6 t x (v.den X) (dnL X cs) o.dst rfl hop he.1 hcs.1 (fun b w' g hL hb=>new t cs b w' hcs.2 h g hL hb)
   ·cases h
  ·cases h
 ·rename_i t x y hop
  unfold xSto at h
  split at h
  ·rename_i j off v h1 h2
   split at h
   ·rename_i vs tt cs h3 h4
    rw [zi5] at h4
    split at h
    ·rename_i i h5
     split at h
     ·rename_i hc
      simp only [Bool.and_eq_true,Bool.not_eq_true',Nat.ble_eq,Nat.beq_eq,Option.isNone_iff_eq_none] at hc
      obtain ⟨⟨⟨⟨c1,c2⟩,c3⟩,c4⟩,c5⟩:=hc
      rw [Sg.sto_eq] at h
      cases h
      have hx:=zd0 h1 hR.fr
      have hy:=zd0 h2 hR.fr
      have hv:=SV.cells_ok h3 hy.2
      have hL:=hR.lc j tt cs h4
      have hone:=yd6 hv.2
      refine zS3 t x y (X.E j) off (v.den X) (vs.map (Cl.den X)) (dnL X cs) (dnL X (zu4 cs off vs)) tt hop c5 hx.1 hy.1 hv.1 hL.1 (by rw [h5];simp [c3]) (by simp [dnL];exact c4) hone (zK5 c4) (fun w' st hL'=>?_)
      refine hK X w' (hR.store h4 c1 (zK2 (hR.bl j tt cs h4) hv.2 off) st hL') (.refl _ _) (fun b ds u hb hl=>st.lc hl (hb j (List.getElem?_eq_some_iff.1 h4).1 c2))
     ·cases h
    ·cases h
   ·cases h
  ·cases h
 ·cases h
theorem yu2 {P:Program} {ro:Nat→Bool} {o:Oper} {s s':Sg} (h:xEff P ro o s=some s'):s.bl.length≤s'.bl.length∧∀ (i:Nat),i<s.bl.length→ro i=true→s'.bl[i]?=s.bl[i]?:=by
 have new:∀ {t:Nat} {cs:List Cl} {v:Cl},xNew o s t cs v=some s'→s.bl.length≤s'.bl.length∧∀ (i:Nat),i<s.bl.length→ro i=true→s'.bl[i]?=s.bl[i]?:=fun hn=>by
  obtain ⟨_,_,rfl⟩:=yu1 hn
  refine ⟨by simp [Sg.grow],fun i hi _=>?_⟩
  simp only [Sg.grow]
  rw [List.getElem?_append_left hi]
 unfold xEff at h
 split at h
 ·split at h
  ·split at h
   ·exact new h
   ·cases h
  ·cases h
 ·split at h
  ·split at h
   ·exact new h
   ·cases h
  ·cases h
 ·unfold xSto at h
  split at h
  ·split at h
   ·split at h
    ·split at h
     ·rename_i j off v h1 h2 _ _ vs tt cs h3 h4 _ i h5 hc
      simp only [Bool.and_eq_true,Bool.not_eq_true'] at hc
      rw [Sg.sto_eq] at h
      cases h
      refine ⟨by simp,fun k hk hr=>?_⟩
      simp only
      rw [List.getElem?_set_ne]
      rintro rfl
      rw [hc.1.1.1.2] at hr;cases hr
     ·cases h
    ·cases h
   ·cases h
  ·cases h
 ·cases h
inductive Lf where
 | ret (v:SV)
 | br (t:Bool) (a b:Lf)
 | as (t v:Bool) (a:Lf)
abbrev Rs:=Option Lf
def LOK (Post:SV→Prop):Lf→Prop
 | .ret v=>Post v
 | .br t a b=>(t=true→LOK Post a)∧(t=false→LOK Post b)
 | .as t v a=>t=v∧LOK Post a
def asL (t v:Bool):Rs→Rs
 | some a=>some (.as t v a)
 | none=>none
def brL (t:Bool):Rs→Rs→Rs
 | some a,some b=>some (.br t a b)
 | _,_=>none
theorem zq5 {t v:Bool} {a:Rs} {L:Lf} (h:asL t v a=some L):∃ x,a=some x∧L=.as t v x:=by
 unfold asL at h
 split at h
 ·cases h;exact ⟨_,rfl,rfl⟩
 ·cases h
theorem brL_some {t:Bool} {a b:Rs} {L:Lf} (h:brL t a b=some L):∃ x y,a=some x∧b=some y∧L=.br t x y:=by
 unfold brL at h
 split at h
 ·cases h;exact ⟨_,_,rfl,rfl,rfl⟩
 ·cases h
def Sg.pas (s:Sg) (d:Dt):Sg:=match s with
 | ⟨fr,bl,nu,nr,nz,_⟩=>⟨fr,bl,nu,nr,nz,d⟩
theorem Sg.pas_eq (s:Sg) (d:Dt):s.pas d={s with ds:=d}:=by cases s;rfl
def zS9 (t:Bool) (s:Sg) (k:Bool→Sg→Rs):Rs:=
 match s.ds with
 | .t d=>asL t true (k true (s.pas d))
 | .f d=>asL t false (k false (s.pas d))
 | .s a b=>brL t (k true (s.pas a)) (k false (s.pas b))
 | .c=>match t with
  | true=>k true (s.pas .c)
  | false=>k false (s.pas .c)
 | _=>some (.as t (!t) (.ret .su))
section
variable {P:Program} {Post:SV→Prop} {B:Base} {X:Env} {s:Sg} {w:World} {L:Lf}
theorem Rep.ds (h:Rep B X s w) (d:Dt):Rep B X {s with ds:=d} w:=⟨h.gr,h.ag,h.le,h.fr,h.bl,h.lc,h.own,h.inj,h.ks⟩
theorem zG3 {t:Bool} {k:Bool→Sg→Rs} (h:zS9 t s k=some L) (hL:LOK Post L):∃ v d L',t=v∧k v {s with ds:=d}=some L'∧LOK Post L':=by
 unfold zS9 at h
 simp only [Sg.pas_eq] at h
 split at h
 ·obtain ⟨x,h1,rfl⟩:=zq5 h
  exact ⟨true,_,x,hL.1,h1,hL.2⟩
 ·obtain ⟨x,h1,rfl⟩:=zq5 h
  exact ⟨false,_,x,hL.1,h1,hL.2⟩
 ·obtain ⟨x,y,h1,h2,rfl⟩:=brL_some h
  cases t with
  | true=>exact ⟨true,_,x,rfl,h1,hL.1 rfl⟩
  | false=>exact ⟨false,_,y,rfl,h2,hL.2 rfl⟩
 ·cases t with
  | true=>exact ⟨true,_,L,rfl,h,hL⟩
  | false=>exact ⟨false,_,L,rfl,h,hL⟩
 ·cases h
  have:=hL.1
  cases t<;>cases this
def xVal (v:SV) (s:Sg) (k:SV→Sg→Rs):Rs:=
 match v with
 | .so (.vc (.cb t none))=>match s.ds with
  | .o d=>k v (s.pas d)
  | _=>zS9 t s fun u s=>k (.so (.vc (.cb t (some u)))) s
 | .so (.vc (.ci kd z lo hi))=>match s.ds with
  | .i l h u d=>if isL lo l&&isL l lo&&isL hi h&&isL h hi then asL (decide (z=u)) true (k (.so (.vc (.ci kd u u u))) (s.pas d)) else k v s
  | _=>k v s
 | v=>k v s
structure Same (s s':Sg):Prop where
 fr:s'.fr=s.fr
 bl:s'.bl=s.bl
 nu:s'.nu=s.nu
 nr:s'.nr=s.nr
 nz:s'.nz=s.nz
theorem Same.nn {s s':Sg} (h:Same s s'):s'.nn=s.nn:=by unfold Sg.nn;rw [h.bl,h.nr,h.nz]
theorem Same.refl (s:Sg):Same s s:=⟨rfl,rfl,rfl,rfl,rfl⟩
theorem zy0 {v:SV} {k:SV→Sg→Rs} (h:xVal v s k=some L) (hL:LOK Post L) (hR:Rep B X s w) (hv:v.ok s.nn X w):
  ∃ v' s' L',k v' s'=some L'∧LOK Post L'∧Rep B X s' w∧Same s s'∧v'.den X=v.den X∧v'.ok s'.nn X w:=by
 unfold xVal at h
 split at h
 ·rename_i t
  split at h
  ·rw [Sg.pas_eq] at h
   exact ⟨_,_,L,h,hL,hR.ds _,⟨rfl,rfl,rfl,rfl,rfl⟩,rfl,hv⟩
  ·obtain ⟨u,d,L',ht,hk,hL'⟩:=zG3 h hL
   exact ⟨_,_,L',hk,hL',hR.ds d,⟨rfl,rfl,rfl,rfl,rfl⟩,rfl,rfl,fun v hv=>by cases hv;exact ht⟩
 ·split at h
  ·split at h
   ·obtain ⟨x,h1,rfl⟩:=zq5 h
    obtain ⟨e,hL'⟩:=hL
    have e:=of_decide_eq_true e
    subst e
    rw [Sg.pas_eq] at h1
    exact ⟨_,_,x,h1,hL',hR.ds _,⟨rfl,rfl,rfl,rfl,rfl⟩,rfl,rfl,Int.le_refl _,Int.le_refl _⟩
   ·exact ⟨_,s,L,h,hL,hR,.refl s,rfl,hv⟩
  ·exact ⟨_,s,L,h,hL,hR,.refl s,rfl,hv⟩
 ·exact ⟨v,s,L,h,hL,hR,.refl s,rfl,hv⟩
end

noncomputable def yh7 (ops:Array Oper) (fr:List SV) (o:Oper):Option Bool:=
 match o.guard with
 | none=>some true
 | some (j,want)=>match (ops[j]?).bind (·.dst) with
  | none=>some false
  | some d=>match nth fr d with
   | some (.so (.vc (.cb _ (some v))))=>some (v==want)
   | some .su=>some false
   | _=>none
theorem zl9 {ops:Array Oper} {fr:List SV} {o:Oper} {v:Bool} (h:yh7 ops fr o=some v) {n:Nn} {X:Env} {W:World} (hf:okF n X W fr):Region.wanted o (yielded ops (za5 X fr).tmps)=v:=by
 unfold yh7 at h
 unfold Region.wanted
 split at h
 ·rename_i hg;rw [hg];cases h;rfl
 ·rename_i j want hg
  rw [hg]
  simp only [yielded]
  split at h
  ·rename_i hd;rw [hd];cases h;rfl
  ·rename_i d hd
   rw [hd]
   simp only [Option.bind_some]
   split at h
   ·rename_i t u hs
    cases h
    rw [zi5] at hs
    have ht:t=u:=(hf _ (List.mem_of_getElem? hs)).2 u rfl
    have:(za5 X fr).tmps[d]?=some (.bool t):=by simp [za5,hs,SV.den,TV.den,Cl.den]
    rw [this,ht]
    cases u<;>cases want<;>rfl
   ·rename_i hs
    rw [zi5] at hs
    cases h
    have:(za5 X fr).tmps[d]?=some undef:=by simp [za5,hs,SV.den]
    rw [this];rfl
   ·cases h

noncomputable def yd7 (fr:List SV):List Operand→Option (List SV)
 | []=>some []
 | x::r=>match ev fr x,yd7 fr r with
  | some s,some l=>some (s::l)
  | _,_=>none
theorem zT0 {n:Nn} {X:Env} {W:World} {fr:List SV} (hf:okF n X W fr):∀ {l:List Operand} {r:List SV},yd7 fr l=some r→l.map (za5 X fr).eval=r.map (SV.den X)∧okF n X W r
 | [],r,h=>by cases h;exact ⟨rfl,fun _ hc=>by cases hc⟩
 | x::l,r,h=>by
  unfold yd7 at h
  split at h
  ·rename_i s r' h1 h2
   cases h
   have a:=zd0 h1 hf
   have b:=zT0 hf h2
   refine ⟨by rw [List.map_cons,List.map_cons,a.1,b.1],fun c hc=>?_⟩
   rcases List.mem_cons.1 hc with rfl | hc
   ·exact a.2
   ·exact b.2 c hc
  ·cases h
def okCall (P:Program) (f:Nat):Bool:=match P.funcs[f]? with
 | some fn=>!(fn.name=="runtime.NumGoroutine")&&!fn.body.isNone
 | none=>false
noncomputable def xCall (lo hi:Nat) (call:FuncId→List SV→Sg→(SV→Sg→Rs)→Rs) (o:Oper) (s:Sg) (k:SV→Sg→Rs):Rs:=
 match o.op with
 | .call c=>match c.callee with
  | .value f=>match ev s.fr f,yd7 s.fr c.args.toList with
   | some (.so (.vc (.cf fn cps))),some l=>if Nat.ble lo fn&&Nat.blt fn hi then call fn (l++cps.map fun x=>.so (.vc (.cp x.1 x.2))) s k else none
   | _,_=>none
  | _=>none
 | _=>none
def zu6 (P:Program) (Post:SV→Prop) (B:Base) (call:FuncId→List SV→Sg→(SV→Sg→Rs)→Rs):Prop:=
 ∀ (X:Env) (s:Sg) (w:World) (f:FuncId) (args:List SV) (k:SV→Sg→Rs) (L:Lf),call f args s k=some L→LOK Post L→Rep B X s w→okF s.nn X w args→
  Calls P f (args.map (SV.den X)).toArray w fun e w'=>∃ v s' X' L',e=.returned (v.den X')∧Gr w w'∧Agr s.nn X X'∧Rep B X' s' w'∧v.ok s'.nn X' w'∧s'.fr=s.fr∧s'.bl=s.bl∧s'.nu=s.nu∧k v s'=some L'∧LOK Post L'
structure Step (ro:Nat→Bool) (X:Env) (s:Sg) (w:World) (X':Env) (s':Sg) (w':World):Prop where
 ag:∀ i,i<s.bl.length→X.E i=X'.E i
 st:Stay ro X s w w'
 le:s.bl.length≤s'.bl.length
 keep:∀ (i:Nat),i<s.bl.length→ro i=true→s'.bl[i]?=s.bl[i]?
section
variable {P:Program} {Post:SV→Prop} {B:Base} {X:Env} {s:Sg} {w:World} {L:Lf} {lo hi:Nat} {call:FuncId→List SV→Sg→(SV→Sg→Rs)→Rs} {o:Oper} {K:Act→World→Prop} {Q:Exit→Act→World→Prop} {ro:Nat→Bool}
theorem yu3 {a:Act} {w:World} {c:Call} {f:Operand} {fn:Nat} {cv:Array Value} (hop:o.op=.call c) (hc:c.callee=.value f) (hf:a.eval f=.func (.func fn) #[] cv) (hok:okCall P fn=true):
  (execOp a.eval o).run P w=.ok (.enter fn ((c.args.map a.eval)++cv)) w:=by
 unfold okCall at hok
 cases hfn:P.funcs[fn]? with
 | none=>rw [hfn] at hok;cases hok
 | some g=>
  rw [hfn] at hok
  simp only [Bool.and_eq_true,Bool.not_eq_true'] at hok
  have h1:¬ g.name="runtime.NumGoroutine":=by simpa using hok.1
  have h2:¬ g.body=none:=fun e=>by rw [e] at hok;cases hok.2
  unfold execOp
  simp [hop,resolve,hc,hf,Deferred.ofValue,invoke,callFunc,hfn,h1,h2]
theorem yd8 {k:SV→Sg→Rs} (hC:zu6 P Post B call) (hcl:∀ f,lo≤f→f<hi→okCall P f=true) (h:xCall lo hi call o s k=some L) (hL:LOK Post L) (hR:Rep B X s w)
  (hK:∀ v s' X' w' L',Rep B X' s' w'→v.ok s'.nn X' w'→s'.fr=s.fr→s'.bl=s.bl→s'.nu=s.nu→Gr w w'→Agr s.nn X X'→k v s'=some L'→LOK Post L'→K ((za5 X' s'.fr).put o.dst (v.den X')) w'):o.wp P (za5 X s.fr) w K Q:=by
 unfold xCall at h
 split at h
 ·rename_i c hop
  split at h
  ·rename_i f hc
   split at h
   ·rename_i fn cps l h1 h2
    split at h
    ·rename_i hb
     simp only [Bool.and_eq_true,Nat.ble_eq] at hb
     have hf:=zd0 h1 hR.fr
     have ha:=zT0 hR.fr h2
     have hrun:=yu3 (P:=P) (o:=o) (w:=w) hop hc (hf.1.trans rfl) (hcl fn hb.1 (zf3 hb.2))
     have hargs:(c.args.map (za5 X s.fr).eval)++(cps.map X.ptr).toArray=((l++cps.map fun x=>SV.so (.vc (.cp x.1 x.2))).map (SV.den X)).toArray:=by
      rw [List.map_append,← ha.1,List.map_map]
      have:(c.args.map (za5 X s.fr).eval)=(c.args.toList.map (za5 X s.fr).eval).toArray:=by rw [← Array.toList_map,Array.toArray_toList]
      rw [this]
      simp only [List.append_toArray]
      rfl
     rw [hargs] at hrun
     have hok:okF s.nn X w (l++cps.map fun x=>SV.so (.vc (.cp x.1 x.2))):=fun c hc=>by
      rcases List.mem_append.1 hc with hc | hc
      ·exact ha.2 c hc
      ·obtain ⟨x,hx,rfl⟩:=List.mem_map.1 hc
       have:=hf.2.1
       simp only [Cl.lt,List.all_eq_true] at this
       exact ⟨this x hx,trivial⟩
     refine zN7 o.dst rfl hrun (hC X s w fn _ k L h hL hR hok) (fun e w' he=>?_)
     obtain ⟨v,s',X',L',rfl,hg,hag,hR',hv,e1,e2,e3,hk,hL'⟩:=he
     refine ⟨v.den X',rfl,?_⟩
     rw [zl8 hag hR.fr,← e1]
     exact hK v s' X' w' L' hR' hv e1 e2 e3 hg hag hk hL'
    ·cases h
   ·cases h
  ·cases h
 ·cases h
noncomputable def xOp (P:Program) (lo hi:Nat) (call:FuncId→List SV→Sg→(SV→Sg→Rs)→Rs) (ro:Nat→Bool) (o:Oper) (s:Sg) (k:Sg→Rs):Rs:=
 match o.op with
 | .call _=>xCall lo hi call o s fun v s=>xVal v s fun v s=>s.put o.dst v k
 | _=>match xEff P ro o s with
  | some s=>k s
  | none=>none
theorem yu4 {k:Sg→Rs} (hC:zu6 P Post B call) (hcl:∀ f,lo≤f→f<hi→okCall P f=true) (h:xOp P lo hi call ro o s k=some L) (hL:LOK Post L) (hR:Rep B X s w)
  (hK:∀ s' X' w' L',Rep B X' s' w'→Step ro X s w X' s' w'→k s'=some L'→LOK Post L'→K (za5 X' s'.fr) w'):o.wp P (za5 X s.fr) w K Q:=by
 unfold xOp at h
 split at h
 ·refine yd8 hC hcl h hL hR (fun v s' X' w' L' hR' hv e1 e2 e3 hg hag hk hL'=>?_)
  obtain ⟨v2,s2,L2,aa,ad,ac,hs,hd,ab⟩:=zy0 hk hL' hR' hv
  rw [Sg.put_eq] at aa
  have:=hK _ X' w' L2 (ac.putD o.dst ab) ⟨fun i hi=>hag.E i hi,.gr hg,by simp [hs.bl,e2],fun i _ _=>by simp [hs.bl,e2]⟩ aa ad
  rw [← hd,zj5,← hs.fr]
  exact this
 ·split at h
  ·rename_i s2 he
   refine xEff_ok he hR (fun X' w' hR' hag hst=>hK s2 X' w' L hR' ⟨fun i hi=>hag.E i hi,hst,?_,?_⟩ h hL)
   ·have:=(yu2 he).1;exact this
   ·exact (yu2 he).2
  ·cases h
end
def isEff:Op→Bool
 | .alloc _ | .box _ _ | .store _ _ _=>true
 | .call c=>match c.callee with
  | .value _=>true
  | _=>false
 | _=>false
abbrev zI5:=FuncId→List SV→Sg→(SV→Sg→Rs)→Rs
noncomputable def xVP (P:Program) (can:Nat→Bool) (o:Oper) (s:Sg) (k:Sg→Rs):Rs:=match xPure P can s.fr s.bl o with
 | some v=>xVal v s fun v s=>s.put o.dst v k
 | none=>none
noncomputable def zK6 (P:Program) (lo hi:Nat) (call:zI5) (ops:Array Oper):List Nat→Sg→(Sg→Rs)→Rs
 | [],s,k=>k s
 | i::r,s,k=>match nth ops.toList i with
  | none=>none
  | some o=>match yh7 ops s.fr o with
   | some true=>if isEff o.op then xOp P lo hi call (fun _=>false) o s fun s=>zK6 P lo hi call ops r s k
    else xVP P (fun _=>true) o s fun s=>zK6 P lo hi call ops r s k
   | some false=>s.put o.dst .su fun s=>zK6 P lo hi call ops r s k
   | none=>none
noncomputable def xOrd (P:Program) (lo hi:Nat) (call:zI5) (can:Nat→Bool) (ops:Array Oper):List (Bool × Nat)→Sg→(Sg→Rs)→Rs
 | [],s,k=>k s
 | (b,i)::r,s,k=>match nth ops.toList i with
  | none=>none
  | some o=>match yh7 ops s.fr o with
   | some true=>match b with
    | false=>xOp P lo hi call can o s fun s=>xOrd P lo hi call can ops r s k
    | true=>xVP P can o s fun s=>xOrd P lo hi call can ops r s k
   | some false=>s.put o.dst .su fun s=>xOrd P lo hi call can ops r s k
   | none=>none
section
variable {P:Program} {Post:SV→Prop} {B:Base} {lo hi:Nat} {call:zI5} {ops:Array Oper} {Q:Exit→Act→World→Prop}
theorem zp0 (X:Env) (fr:List SV) (d:Option Tmp):(za5 X fr).put d undef=za5 X (putD d .su fr):=zj5 X fr d .su
theorem zu7 (hC:zu6 P Post B call) (hcl:∀ f,lo≤f→f<hi→okCall P f=true):∀ (l:List Nat) {k:Sg→Rs} {X:Env} {s:Sg} {w:World} {L:Lf},zK6 P lo hi call ops l s k=some L→LOK Post L→Rep B X s w→
  (∀ s' X' w' L',k s'=some L'→LOK Post L'→Rep B X' s' w'→Q .normal (za5 X' s'.fr) w')→wpOps P ops Q l (za5 X s.fr) w
 | [],k,X,s,w,L,h,hL,hR,hQ=>hQ s X w L h hL hR
 | i::r,k,X,s,w,L,h,hL,hR,hQ=>by
  unfold zK6 at h
  split at h
  ·cases h
  ·rename_i o ho
   rw [zi5,Array.getElem?_toList] at ho
   split at h
   ·rename_i hw
    have hw':=zl9 hw hR.fr
    split at h
    ·rw [wpOps_cons]
     unfold wpOp
     simp only [ho,hw',if_true]
     exact .inl (yu4 hC hcl h hL hR fun s' X' w' L' hR' _ hk hL'=>zu7 hC hcl r hk hL' hR' hQ)
    ·unfold xVP at h
     split at h
     ·rename_i v hv
      have hp:=zu5 (V:=w) hv hR.fr hR.bl (fun i t cs _ hi=>(hR.lc i t cs hi).1)
      obtain ⟨v2,s2,L2,aa,ad,ac,hs,hd,ab⟩:=zy0 h hL hR hp.2
      rw [Sg.put_eq] at aa
      refine sq_val o.dst (v.den X) ho rfl hw' hp.1 ?_
      rw [← hd,zj5,← hs.fr]
      exact zu7 hC hcl r aa ad (ac.putD o.dst ab) hQ
     ·cases h
   ·rename_i hw
    rw [Sg.put_eq] at h
    refine ys5 o.dst ho rfl (zl9 hw hR.fr) ?_
    rw [zp0]
    exact zu7 hC hcl r h hL (hR.putD o.dst (v:=.su) trivial) hQ
   ·cases h

def Held (can:Nat→Bool) (s0:Sg) (X0 X:Env) (s:Sg):Prop:=∀ i,can i=true→i<s.bl.length∧s.bl[i]?=s0.bl[i]?∧X.E i=X0.E i
def SH (can:Nat→Bool) (s0:Sg) (X0:Env) (w:World):Prop:=∀ (i:Nat) t cs,can i=true→s0.bl[i]?=some (t,cs)→Lc w (X0.E i) (dnL X0 cs) t
theorem SH.gr {can:Nat→Bool} {s0:Sg} {X0:Env} {w w':World} (h:SH can s0 X0 w) (g:Gr w w'):SH can s0 X0 w':=fun i t cs hi hx=>(h i t cs hi hx).gr g
theorem Held.load {can:Nat→Bool} {s0 s:Sg} {X0 X:Env} {w V:World} (hH:Held can s0 X0 X s) (hR:Rep B X s w) (hw:SH can s0 X0 w) (hV:SH can s0 X0 V):
  ∀ (i:Nat) t cs,can i=true→s.bl[i]?=some (t,cs)→Lc V (X.E i) (dnL X cs) t:=fun i t cs hi hx=>by
 obtain ⟨h1,h2,h3⟩:=hH i hi
 rw [h2] at hx
 have a:=hw i t cs hi hx
 have b:=hV i t cs hi hx
 have c:=(hR.lc i t cs (h2.trans hx)).1
 rw [h3] at c ⊢
 unfold Lc at a b c ⊢
 rw [a] at c
 simp only [Option.some.injEq,Obj.cells.injEq] at c
 rw [b,c.1]
theorem Held.step {can:Nat→Bool} {s0 s s':Sg} {X0 X X':Env} {w w':World} (hH:Held can s0 X0 X s) (hR:Rep B X s w) (hs:Step can X s w X' s' w') (hw:SH can s0 X0 w):Held can s0 X0 X' s'∧SH can s0 X0 w':=by
 refine ⟨fun i hi=>?_,fun i t cs hi hx=>?_⟩
 ·obtain ⟨h1,h2,h3⟩:=hH i hi
  exact ⟨Nat.lt_of_lt_of_le h1 hs.le,(hs.keep i h1 hi).trans h2,(hs.ag i h1).symm.trans h3⟩
 ·obtain ⟨h1,h2,h3⟩:=hH i hi
  refine hs.st _ _ _ (fun j hj hc e=>?_) (hw i t cs hi hx)
  rw [← h3] at e
  have:=hR.inj i j h1 hj e
  subst this
  rw [hi] at hc;cases hc
theorem zy1 (hC:zu6 P Post B call) (hcl:∀ f,lo≤f→f<hi→okCall P f=true) {can:Nat→Bool} {s0:Sg} {X0:Env}:∀ (l:List (Bool × Nat)) {k:Sg→Rs} {X:Env} {s:Sg} {w:World} {L:Lf},
  xOrd P lo hi call can ops l s k=some L→LOK Post L→Rep B X s w→Held can s0 X0 X s→SH can s0 X0 w→
  (∀ s' X' w' L',k s'=some L'→LOK Post L'→Rep B X' s' w'→Q .normal (za5 X' s'.fr) w')→zg3 P ops Q (SH can s0 X0) l (za5 X s.fr) w
 | [],k,X,s,w,L,h,hL,hR,_,_,hQ=>hQ s X w L h hL hR
 | (b,i)::r,k,X,s,w,L,h,hL,hR,hH,hS,hQ=>by
  unfold xOrd at h
  split at h
  ·cases h
  ·rename_i o ho
   rw [zi5,Array.getElem?_toList] at ho
   split at h
   ·rename_i hw
    have hw':=zl9 hw hR.fr
    split at h
    ·refine oe ?_ ho hw'
     refine yu4 hC hcl h hL hR fun s' X' w' L' hR' hst hk hL'=>?_
     obtain ⟨h1,h2⟩:=hH.step hR hst hS
     exact ⟨h2,zy1 hC hcl r hk hL' hR' h1 h2 hQ⟩
    ·unfold xVP at h
     split at h
     ·rename_i v hv
      have hp:=fun V (hV:SH can s0 X0 V)=>zu5 (V:=V) hv hR.fr hR.bl (hH.load hR hS hV)
      obtain ⟨v2,s2,L2,aa,ad,ac,hs,hd,ab⟩:=zy0 h hL hR (hp w hS).2
      rw [Sg.put_eq] at aa
      refine zQ9 o.dst (v.den X) ho rfl hw' (fun V hV=>(hp V hV).1) ?_
      rw [← hd,zj5,← hs.fr]
      exact zy1 hC hcl r aa ad (ac.putD o.dst ab) (fun i hi=>by have:=hH i hi;rw [← hs.bl] at this;exact this) hS hQ
     ·cases h
   ·rename_i hw
    rw [Sg.put_eq] at h
    have hw':=zl9 hw hR.fr
    cases b with
    | true=>
     refine yb8 o.dst ho rfl hw' ?_
     rw [zp0]
     exact zy1 hC hcl r h hL (hR.putD o.dst (v:=.su) trivial) hH hS hQ
    | false=>
     refine zE2 o.dst ho rfl hw' hS ?_
     rw [zp0]
     exact zy1 hC hcl r h hL (hR.putD o.dst (v:=.su) trivial) hH hS hQ
   ·cases h
end
inductive Ex where
 | n
 | x (id:Nat)
 | r
abbrev KT:=Ex→Sg→Rs
inductive Ent where
 | ord (l:List (Bool × Nat)) (bs:List Nat)
 | ort (l:List (Bool × Nat)) (bs:List Nat) (hs:List (List Nat × Nat))
 | flo (l:List (Bool × Nat)) (fl:List (Nat × Nat × Nat)) (tl:List (Bool × Nat)) (bs:List Nat)
 | lp (t:Sg→KT→Rs)
def yu5 (P:Program) (t:Nat):Array Value:=match P.info? t with
 | some i=>match i.zero with
  | some z=>z.cells
  | none=>#[]
 | none=>#[]
def okZ (P:Program) (t:Nat):Bool:=match P.info? t with
 | some i=>i.zero.isSome
 | none=>false
theorem okZ_ok {P:Program} {t:Nat} (h:okZ P t=true) (w:World):(Instr.alloc t true (.tuple #[])).run P w=.ok (.pointer (some ⟨w.heap.size,0,none⟩)) (w.alloc (.cells (yu5 P t) t)):=by
 unfold okZ at h
 cases hi:P.info? t with
 | none=>rw [hi] at h;cases h
 | some i=>
  rw [hi] at h
  obtain ⟨z,hz⟩:=Option.isSome_iff_exists.1 h
  exact zq1 (P:=P) (z:=z) (by rw [hi];simp [hz]) (by unfold yu5;simp only [hi,hz]) w
def yu6 (P:Program) (x:Nat × Nat × Nat):Fl:=⟨x.1,x.2.1,x.2.2,yu5 P x.2.2⟩
def yu7 (P:Program) (ops:Array Oper):Ent→Bool
 | .ord l _=>Region.noSelect ops&&zs1 ops l (Array.replicate ops.size false)&&Nat.ble l.length ops.size
 | .ort l _ hs=>Region.noSelect ops&&zz6 ops (hs.map (·.1)) l (Array.replicate ops.size false)&&Nat.ble l.length ops.size
 | .flo l fl tl _=>Region.noSelect ops&&(fl.all fun x=>okZ P x.2.2)&&zs9 ops (fl.map (yu6 P)) tl l (Array.replicate ops.size false)&&okAp ops (fl.map (yu6 P)) l&&okAl ops (fl.map (yu6 P))&&Nat.ble (l.length+(fl.map (yu6 P)).length+tl.length) ops.size
 | .lp _=>false
def zO0:Nat→List (Nat × Ent)→Option Ent
 | _,[]=>none
 | i,(j,e)::r=>if Nat.beq i j then some e else zO0 i r
def lkey:Code→Nat
 | .region id _ _=>100000+id
 | .seq a _=>lkey a
 | .cond _ a _=>lkey a
 | .block _ a=>lkey a
 | .loop a=>lkey a
 | _=>0
def zh8 (P:Program) (es:List (Nat × Ent)):Code→Bool
 | .region id ops true=>match zO0 id es with
  | some e=>yu7 P ops e
  | none=>false
 | .seq a b=>zh8 P es a&&zh8 P es b
 | .cond _ a b=>zh8 P es a&&zh8 P es b
 | .block _ a=>zh8 P es a
 | .loop a=>match zO0 (lkey a) es with
  | some (.lp _)=>true
  | _=>zh8 P es a
 | _=>true
noncomputable def inB (bs:List Nat) (fr:List SV) (j:Nat):Bool:=bs.any fun t=>match nth fr t with
 | some (.so (.vc (.cp i _))) | some (.so (.vc (.cs i _ _ _)))=>Nat.beq i j
 | _=>false
noncomputable def canR (bs:List Nat) (fr:List SV) (n:Nat) (j:Nat):Bool:=Nat.blt j n&&!inB bs fr j
noncomputable def xFl (P:Program) (lo hi:Nat) (call:zI5) (can:Nat→Bool) (ops:Array Oper):List (Bool × Nat)→Sg→(Sg→Rs)→Rs
 | [],s,k=>k s
 | (b,i)::r,s,k=>match nth ops.toList i with
  | none=>none
  | some o=>match yh7 ops s.fr o with
   | some true=>match b with
    | false=>xCall lo hi call o s fun v s=>xVal v s fun v s=>s.put o.dst v fun s=>xFl P lo hi call can ops r s k
    | true=>xVP P can o s fun s=>xFl P lo hi call can ops r s k
   | _=>none
noncomputable def addFl (P:Program):List (Nat × Nat × Nat)→Sg→Option Sg
 | [],s=>some s
 | (_,d,t)::r,s=>match P.info? t with
  | some i=>match zx9 i.zero with
   | some cs=>if isU32 t then none else addFl P r {s with bl:=s.bl++[(t,cs)],fr:=s.fr.set d (.so (.vc (.cp s.bl.length 0)))}
   | none=>none
  | none=>none
noncomputable def yu8 (fr:List SV) (t:Nat):Nat:=match nth fr t with
 | some (.so (.vc (.cp i _))) | some (.so (.vc (.cs i _ _ _)))=>i
 | _=>1000000
noncomputable def xOrt (P:Program) (lo hi:Nat) (call:zI5) (can:Nat→Bool) (hs:List (List Nat × Nat)) (ops:Array Oper):List (Bool × Nat)→Array Bool→Sg→(Sg→Rs)→Rs
 | [],_,s,k=>k s
 | (b,i)::r,ls,s,k=>match nth ops.toList i with
  | none=>none
  | some o=>match yh7 ops s.fr o with
   | some true=>match b with
    | false=>xOp P lo hi call (fun j=>can j||hs.any fun e=>Nat.beq e.2 j&&!e.1.contains i) o s fun s=>xOrt P lo hi call can hs ops r (ls.setIfInBounds i true) s k
    | true=>xVP P (fun j=>can j||hs.any fun e=>Nat.beq e.2 j&&zA5 ls e.1&&zs2 ops i e.1) o s fun s=>xOrt P lo hi call can hs ops r (ls.setIfInBounds i true) s k
   | some false=>s.put o.dst .su fun s=>xOrt P lo hi call can hs ops r (ls.setIfInBounds i true) s k
   | none=>none
noncomputable def xDraw (P:Program) (lo hi:Nat) (call:zI5) (ops:Array Oper) (e:Ent) (s:Sg) (k:Sg→Rs):Rs:=
 match e with
 | .ord l bs=>xOrd P lo hi call (canR bs s.fr s.bl.length) ops l s k
 | .ort l bs hs=>if (hs.map fun e=>(e.1,yu8 s.fr e.2)).all fun e=>Nat.blt e.2 s.bl.length then xOrt P lo hi call (canR bs s.fr s.bl.length) (hs.map fun e=>(e.1,yu8 s.fr e.2)) ops l (Array.replicate ops.size false) s k else none
 | .flo l fl tl bs=>xFl P lo hi call (canR bs s.fr s.bl.length) ops l s fun s'=>if Nat.beq s'.bl.length s.bl.length then (match addFl P fl s' with
  | some s2=>xOrd P lo hi call (canR bs s.fr s.bl.length) ops tl s2 k
  | none=>none) else none
 | .lp _=>none
section
variable {P:Program} {Post:SV→Prop} {B:Base} {lo hi:Nat} {call:zI5} {ops:Array Oper} {Q:Exit→Act→World→Prop}
theorem yu9 (hC:zu6 P Post B call) (hcl:∀ f,lo≤f→f<hi→okCall P f=true) {can:Nat→Bool} {s0:Sg} {X0:Env} {fin:Act→World→Prop}:∀ (l:List (Bool × Nat)) {k:Sg→Rs} {X:Env} {s:Sg} {w:World} {L:Lf},
  xFl P lo hi call can ops l s k=some L→LOK Post L→Rep B X s w→Held can s0 X0 X s→SH can s0 X0 w→
  (∀ s' X' w' L',k s'=some L'→LOK Post L'→Rep B X' s' w'→Held can s0 X0 X' s'→SH can s0 X0 w'→Gr w w'→s'.bl.length=s.bl.length∧(∀ i,i<s.bl.length→X'.E i=X.E i)→fin (za5 X' s'.fr) w')→
   zk2 P ops Q (SH can s0 X0) fin l (za5 X s.fr) w
 | [],k,X,s,w,L,h,hL,hR,hH,hS,hQ=>fun w1 g ab=>hQ s X w1 L h hL (hR.to g) hH ab g ⟨rfl,fun _ _=>rfl⟩
 | (b,i)::r,k,X,s,w,L,h,hL,hR,hH,hS,hQ=>by
  unfold xFl at h
  split at h
  ·cases h
  ·rename_i o ho
   rw [zi5,Array.getElem?_toList] at ho
   split at h
   ·rename_i hw
    have hw':=zl9 hw hR.fr
    split at h
    ·intro w1 g1 ab
     unfold wpOp
     simp only [ho,hw',if_true]
     refine .inl (yd8 hC hcl h hL (hR.to g1) fun v s' X' w' L' hR' hv e1 e2 e3 hg hag hk hL'=>?_)
     obtain ⟨v2,s2,L2,aa,ae,ad,hs,hd,ac⟩:=zy0 hk hL' hR' hv
     rw [Sg.put_eq] at aa
     have hbl:s2.bl=s.bl:=hs.bl.trans e2
     have hH':Held can s0 X0 X' {s2 with fr:=putD o.dst v2 s2.fr}:=fun i hi=>by
      obtain ⟨a1,a2,a3⟩:=hH i hi
      exact ⟨by simpa [hbl] using a1,by simpa [hbl] using a2,(hag.E i a1).symm.trans a3⟩
     refine ⟨hg,ab.gr hg,?_⟩
     rw [← hd,zj5,← hs.fr]
     refine yu9 hC hcl r aa ae (ad.putD o.dst ac) hH' (ab.gr hg) fun s3 X3 w3 L3 a b c d e f g=>?_
     refine hQ s3 X3 w3 L3 a b c d e (g1.trans (hg.trans f)) ⟨g.1.trans (by simp [hbl]),fun i hi=>(g.2 i (by simpa [hbl] using hi)).trans (hag.E i hi).symm⟩
    ·unfold xVP at h
     split at h
     ·rename_i v hv
      have hp:=fun V (hV:SH can s0 X0 V)=>zu5 (V:=V) hv hR.fr hR.bl (hH.load hR hS hV)
      obtain ⟨v2,s2,L2,aa,ae,ad,hs,hd,ac⟩:=zy0 h hL hR (hp w hS).2
      rw [Sg.put_eq] at aa
      refine yo2 o.dst (v.den X) ho rfl hw' (fun V hV=>(hp V hV).1) ?_
      rw [← hd,zj5,← hs.fr]
      refine yu9 hC hcl r aa ae (ad.putD o.dst ac) (fun i hi=>by have:=hH i hi;rw [← hs.bl] at this;exact this) hS fun s3 X3 w3 L3 a b c d e f g=>?_
      exact hQ s3 X3 w3 L3 a b c d e f ⟨g.1.trans (by simp [hs.bl]),fun i hi=>g.2 i (by simpa [hs.bl] using hi)⟩
     ·cases h
   ·cases h
theorem zeroA_of {t:Nat} {i:TypeInfo} {cs:List Cl} (hi:P.info? t=some i) (hz:zx9 i.zero=some cs) (n:Nn) (X:Env) (w:World):
  yu5 P t=dnL X cs∧okL n X w cs∧∃ z,i.zero=some z∧z.cells=dnL X cs:=by
 cases hzz:i.zero with
 | none=>rw [hzz] at hz;cases hz
 | some z=>
  rw [hzz] at hz
  have hc:=zu3 (l:=z.cells.toList) hz n X w
  have:z.cells=dnL X cs:=by unfold dnL;rw [hc.1]
  exact ⟨by unfold yu5;rw [hi];simp only [hzz];exact this,hc.2,z,rfl,this⟩
theorem yd9 {ps:Nat→Nat} {N:Nat}:∀ {fl:List (Nat × Nat × Nat)} {X:Env} {s s':Sg} {w:World},addFl P fl s=some s'→Rep B X s w→N≤s.bl.length→
  (∀ f ∈ fl.map (yu6 P),w.heap[ps f.op]?=some (.cells f.zero f.ty)∧B.w.heap.size≤ps f.op∧(∀ i,i<s.bl.length→X.E i≠ps f.op)∧∀ x ∈ B.ks,ps f.op≠x.1)→((fl.map (yu6 P)).map fun f=>ps f.op).Nodup→
  ∃ X',Rep B X' s' w∧(fl.map (yu6 P)).foldl (zr4 ps) (za5 X s.fr)=za5 X' s'.fr∧s.bl.length≤s'.bl.length∧(∀ i,i<N→X'.E i=X.E i)∧(∀ (i:Nat),i<N→s'.bl[i]?=s.bl[i]?)
 | [],X,s,s',w,h,hR,_,_,_=>by cases h;exact ⟨X,hR,rfl,Nat.le_refl _,fun _ _=>rfl,fun _ _=>rfl⟩
 | (o,d,t)::r,X,s,s',w,h,hR,hN,hf,hn=>by
  unfold addFl at h
  split at h
  ·rename_i i hi
   split at h
   ·rename_i cs hz
    split at h
    ·cases h
    ·rename_i hu
     have ht:t≠161:=fun e=>hu (by subst e;rfl)
     obtain ⟨h1,h2,_⟩:=zeroA_of hi hz s.nn X w
     obtain ⟨f1,f2,f3,f4⟩:=hf (yu6 P (o,d,t)) (by simp)
     have aa:Lc w (ps o) (dnL X cs) t:=by rw [← h1];exact f1
     obtain ⟨g1,g2⟩:=hR.add h2 ht (Gr.refl w) aa f2 f3 f4
     have hp:(SV.so (.vc (.cp s.bl.length 0))).ok (s.grow t cs).nn (X.push s.bl.length (ps o)) w:=⟨zm5 (by simp [Sg.nn,Sg.grow]),trivial⟩
     simp only [List.map_cons,List.nodup_cons] at hn
     have hlen:(s.grow t cs).bl.length=s.bl.length+1:=by simp [Sg.grow]
     obtain ⟨X',e1,e2,e3,e4,e5⟩:=yd9 (N:=N) h (g1.set (d:=d) hp) (by simp;omega) (fun f hf'=>by
      obtain ⟨a1,a2,a3,a4⟩:=hf f (by simp only [List.map_cons];exact List.mem_cons_of_mem _ hf')
      refine ⟨a1,a2,fun j hj=>?_,a4⟩
      simp only [List.length_append,List.length_cons,List.length_nil] at hj
      rcases Nat.lt_or_ge j s.bl.length with hj' | hj'
      ·rw [← g2.E j hj'];exact a3 j hj'
      ·obtain rfl:j=s.bl.length:=by omega
       simp only [Env.push,if_true]
       exact fun e=>hn.1 (by rw [show ps (yu6 P (o,d,t)).op=ps o from rfl,e];exact List.mem_map.2 ⟨f,hf',rfl⟩)) hn.2
     refine ⟨X',e1,?_,?_,fun i hi=>(e4 i hi).trans (g2.E i (Nat.lt_of_lt_of_le hi hN)).symm,fun i hi=>(e5 i hi).trans ?_⟩
     ·rw [List.map_cons,List.foldl_cons,← e2]
      congr 1
      show (za5 X s.fr).put (some d) (.pointer (some ⟨ps o,0,none⟩))=_
      rw [zl8 g2 hR.fr,← zX4]
      simp [SV.den,TV.den,Cl.den,Env.push]
     ·simp at e3;omega
     ·simp only
      rw [List.getElem?_append_left (Nat.lt_of_lt_of_le hi hN)]
   ·cases h
  ·cases h
def PH (s0:Sg) (X0:Env) (j:Nat) (w:World):Prop:=∀ t cs,s0.bl[j]?=some (t,cs)→Lc w (X0.E j) (dnL X0 cs) t
def yv0 (ls:Array Bool) (hs:List (List Nat × Nat)) (s0:Sg) (X0 X:Env) (s:Sg) (w:World):Prop:=∀ e ∈ hs,zA5 ls e.1=true→e.2<s.bl.length∧s.bl[e.2]?=s0.bl[e.2]?∧X.E e.2=X0.E e.2∧PH s0 X0 e.2 w
def HSof (hs:List (List Nat × Nat)) (s0:Sg) (X0:Env):List (List Nat × (World→Prop)):=hs.map fun e=>(e.1,PH s0 X0 e.2)
theorem zi6 {f:List Nat→Bool} {s0:Sg} {X0:Env} {w:World}:∀ {hs:List (List Nat × Nat)},ze9 f (HSof hs s0 X0) w↔∀ e ∈ hs,f e.1=true→PH s0 X0 e.2 w
 | []=>⟨fun _ _ h=>(by cases h),fun _=>trivial⟩
 | e::hs=>by
  have ih:=zi6 (f:=f) (s0:=s0) (X0:=X0) (w:=w) (hs:=hs)
  constructor
  ·intro h x hx hf
   rcases List.mem_cons.1 hx with rfl | hx
   ·exact h.1 hf
   ·exact ih.1 h.2 x hx hf
  ·exact fun h=>⟨h e (by simp),ih.2 fun x hx=>h x (by simp [hx])⟩
theorem zO1 {ls:Array Bool} {i:Nat} {TL:List Nat} (h:zA5 (ls.setIfInBounds i true) TL=true):i ∉ TL∧zA5 ls TL=true:=by
 have hn:i ∉ TL:=fun hi=>by
  have:=List.all_eq_true.1 h i hi
  simp only [Bool.not_eq_true'] at this
  rcases Nat.lt_or_ge i ls.size with h' | h'
  ·simp [h'] at this
  ·rw [show (ls.setIfInBounds i true).getD i true=true by simp [Array.getD]] at this;cases this
 exact ⟨hn,by rw [← zE3 hn];exact h⟩
theorem load2 {s0 s:Sg} {X0 X:Env} {w V:World} {j:Nat} (hR:Rep B X s w) (h:j<s.bl.length∧s.bl[j]?=s0.bl[j]?∧X.E j=X0.E j) (hw:PH s0 X0 j w) (hV:PH s0 X0 j V):∀ t cs,s.bl[j]?=some (t,cs)→Lc V (X.E j) (dnL X cs) t:=fun t cs hx=>by
 obtain ⟨h1,h2,h3⟩:=h
 rw [h2] at hx
 have a:=hw t cs hx
 have b:=hV t cs hx
 have c:=(hR.lc j t cs (h2.trans hx)).1
 rw [h3] at c ⊢
 unfold Lc at a b c ⊢
 rw [a] at c
 simp only [Option.some.injEq,Obj.cells.injEq] at c
 rw [b,c.1]
theorem zG4 (hC:zu6 P Post B call) (hcl:∀ f,lo≤f→f<hi→okCall P f=true) {can:Nat→Bool} {hs:List (List Nat × Nat)} {s0:Sg} {X0:Env}:∀ (l:List (Bool × Nat)) {ls:Array Bool} {k:Sg→Rs} {X:Env} {s:Sg} {w:World} {L:Lf},
  xOrt P lo hi call can hs ops l ls s k=some L→LOK Post L→Rep B X s w→Held can s0 X0 X s→SH can s0 X0 w→yv0 ls hs s0 X0 X s w→
  (∀ s' X' w' L',k s'=some L'→LOK Post L'→Rep B X' s' w'→Q .normal (za5 X' s'.fr) w')→zi0 P ops Q (SH can s0 X0) (HSof hs s0 X0) l ls (za5 X s.fr) w
 | [],_,k,X,s,w,L,h,hL,hR,_,_,_,hQ=>hQ s X w L h hL hR
 | (b,i)::r,ls,k,X,s,w,L,h,hL,hR,hH,hS,hT,hQ=>by
  unfold xOrt at h
  have unset:∀ {X:Env} {s:Sg},yv0 ls hs s0 X0 X s w→yv0 (ls.setIfInBounds i true) hs s0 X0 X s w:=fun h e he hf=>h e he (zO1 hf).2
  split at h
  ·cases h
  ·rename_i o ho
   rw [zi5,Array.getElem?_toList] at ho
   split at h
   ·rename_i hw
    have hw':=zl9 hw hR.fr
    split at h
    ·refine te ?_ ho hw'
     refine yu4 hC hcl h hL hR fun s' X' w' L' hR' hst hk hL'=>?_
     have hc:∀ {j},can j=true→(can j||hs.any fun e=>Nat.beq e.2 j&&!e.1.contains i)=true:=fun h=>by rw [h];rfl
     have hst':Step can X s w X' s' w':=⟨hst.ag,fun b cs t hb=>hst.st b cs t fun j hj hr=>hb j hj (by
      simp only [Bool.or_eq_false_iff] at hr;exact hr.1),hst.le,fun j hj hr=>hst.keep j hj (hc hr)⟩
     obtain ⟨h1,h2⟩:=hH.step hR hst' hS
     have h3:yv0 (ls.setIfInBounds i true) hs s0 X0 X' s' w':=fun e he hf=>by
      obtain ⟨f1,f2⟩:=zO1 hf
      obtain ⟨a1,a2,a3,a4⟩:=hT e he f2
      have hro:(can e.2||hs.any fun e'=>Nat.beq e'.2 e.2&&!e'.1.contains i)=true:=by
       rw [Bool.or_eq_true]
       refine .inr (List.any_eq_true.2 ⟨e,he,?_⟩)
       simp [f1]
      refine ⟨Nat.lt_of_lt_of_le a1 hst.le,(hst.keep e.2 a1 hro).trans a2,(hst.ag e.2 a1).symm.trans a3,fun t cs hx=>?_⟩
      refine hst.st _ _ _ (fun j hj hc' eq=>?_) (a4 t cs hx)
      rw [← a3] at eq
      have:=hR.inj e.2 j a1 hj eq
      subst this
      rw [hro] at hc';cases hc'
     exact ⟨h2,zi6.2 fun e he hf=>(h3 e he hf).2.2.2,zG4 hC hcl r hk hL' hR' h1 h2 h3 hQ⟩
    ·unfold xVP at h
     split at h
     ·rename_i v hv
      have hp:=fun V (hV:SH can s0 X0 V∧ze9 (zs2 ops i) (HSof hs s0 X0) V)=>zu5 (V:=V) hv hR.fr hR.bl (fun j t cs hj hx=>by
       rw [Bool.or_eq_true] at hj
       rcases hj with hj | hj
       ·exact hH.load hR hS hV.1 j t cs hj hx
       ·obtain ⟨e,he,hh⟩:=List.any_eq_true.1 hj
        simp only [Bool.and_eq_true,Nat.beq_eq] at hh
        obtain ⟨⟨rfl,f1⟩,f2⟩:=hh
        obtain ⟨a1,a2,a3,a4⟩:=hT e he f1
        exact load2 hR ⟨a1,a2,a3⟩ a4 (zi6.1 hV.2 e he f2) t cs hx)
      have hok:v.ok s.nn X w:=(zu5 (V:=w) hv hR.fr hR.bl (fun j t cs _ hx=>(hR.lc j t cs hx).1)).2
      obtain ⟨v2,s2,L2,ab,ae,ad,aa,hd,ac⟩:=zy0 h hL hR hok
      rw [Sg.put_eq] at ab
      refine yb9 o.dst (v.den X) ho rfl hw' (fun V hV=>(hp V hV).1) ?_
      rw [← hd,zj5,← aa.fr]
      exact zG4 hC hcl r ab ae (ad.putD o.dst ac) (fun i hi=>by have:=hH i hi;rw [← aa.bl] at this;exact this) hS (unset fun e he hf=>by have:=hT e he hf;rw [← aa.bl] at this;exact this) hQ
     ·cases h
   ·rename_i hw
    rw [Sg.put_eq] at h
    have hw':=zl9 hw hR.fr
    cases b with
    | true=>
     refine yc0 o.dst ho rfl hw' ?_
     rw [zp0]
     exact zG4 hC hcl r h hL (hR.putD o.dst (v:=.su) trivial) hH hS (unset hT) hQ
    | false=>
     refine zV5 o.dst ho rfl hw' hS (zi6.2 fun e he hf=>(hT e he (zO1 hf).2).2.2.2) ?_
     rw [zp0]
     exact zG4 hC hcl r h hL (hR.putD o.dst (v:=.su) trivial) hH hS (unset hT) hQ
   ·cases h
theorem xDraw_ok (hC:zu6 P Post B call) (hcl:∀ f,lo≤f→f<hi→okCall P f=true) (hm:P.follows .mixedOrders=true) {e:Ent} {id:Nat} (he:yu7 P ops e=true) {k:Sg→Rs} {X:Env} {s:Sg} {w:World} {L:Lf}
  (hp:∀ c (a a':Act) w,Q (.panic c) a w→Q (.panic c) a' w) (h:xDraw P lo hi call ops e s k=some L) (hL:LOK Post L) (hR:Rep B X s w)
  (hQ:∀ s' X' w' L',k s'=some L'→LOK Post L'→Rep B X' s' w'→Q .normal (za5 X' s'.fr) w'):(Code.region id ops true).wp P Q (za5 X s.fr) w:=by
 have hR':=hR.to (Gr.drew w)
 have hH:∀ bs,Held (canR bs s.fr s.bl.length) s X X s:=fun bs i hi=>by
  unfold canR at hi
  simp only [Bool.and_eq_true] at hi
  exact ⟨zf3 hi.1,rfl,rfl⟩
 have hS:∀ bs,SH (canR bs s.fr s.bl.length) s X w.drew:=fun bs i t cs _ hx=>(hR'.lc i t cs hx).1
 unfold xDraw at h
 split at h
 ·rename_i l bs
  simp only [yu7,Bool.and_eq_true,Nat.ble_eq] at he
  exact za2 (SH (canR bs s.fr s.bl.length) s X) l hm he.1.1 he.1.2 he.2 (fun c a d v w=>hp c _ _ w) (hS bs) (zy1 hC hcl l h hL hR' (hH bs) (hS bs) hQ)
 ·rename_i l bs hs
  simp only [yu7,Bool.and_eq_true,Nat.ble_eq] at he
  split at h
  ·rename_i hall
   rw [List.all_eq_true] at hall
   have hlc:∀ (i:Nat) t cs,s.bl[i]?=some (t,cs)→Lc w.drew (X.E i) (dnL X cs) t:=fun i t cs hx=>(hR'.lc i t cs hx).1
   have hT:yv0 (Array.replicate ops.size false) (hs.map fun e=>(e.1,yu8 s.fr e.2)) s X X s w.drew:=fun e he _=>⟨zf3 (hall e he),rfl,rfl,fun t cs hx=>hlc _ t cs hx⟩
   have hfst:(HSof (hs.map fun e=>(e.1,yu8 s.fr e.2)) s X).map (·.1)=hs.map (·.1):=by simp [HSof,List.map_map,Function.comp_def]
   refine zd9 (SH (canR bs s.fr s.bl.length) s X) (HSof (hs.map fun e=>(e.1,yu8 s.fr e.2)) s X) l hm he.1.1 (by rw [hfst];exact he.1.2) he.2 (fun c a d v w=>hp c _ _ w) (hS bs) (zi6.2 fun e he _=>fun t cs hx=>hlc _ t cs hx) (zG4 hC hcl l h hL hR' (hH bs) (hS bs) hT hQ)
  ·cases h
 ·rename_i l fl tl bs
  simp only [yu7,Bool.and_eq_true,Nat.ble_eq] at he
  obtain ⟨⟨⟨⟨⟨c1,c0⟩,c2⟩,c3⟩,c4⟩,c5⟩:=he
  have hz:∀ f ∈ fl.map (yu6 P),∀ w,(Instr.alloc f.ty true (.tuple #[])).run P w=.ok (.pointer (some ⟨w.heap.size,0,none⟩)) (w.alloc (.cells f.zero f.ty)):=fun f hf w=>by
   obtain ⟨x,hx,rfl⟩:=List.mem_map.1 hf
   exact okZ_ok (List.all_eq_true.1 c0 x hx) w
  refine zt0 (SH (canR bs s.fr s.bl.length) s X) l (fl.map (yu6 P)) tl hm c1 c2 c3 c4 c5 (fun c a d v w=>hp c _ _ w) (fun c a d v w=>hp c _ _ w) (fun w' o h'=>h'.gr (Gr.alloc w' o)) (hS bs) hz ?_
  refine yu9 hC hcl l h hL hR' (hH bs) (hS bs) fun s' X' w' L' hk hL' ab ac aa hg hl=>?_
  split at hk
  ·split at hk
   ·rename_i s2 ha
    intro ps hps hnd
    have hsz:∀ i,i<s'.bl.length→X'.E i<w.heap.size:=fun i hi=>by
     rw [hl.2 i (hl.1 ▸ hi)]
     exact hR.lt (hl.1 ▸ hi)
    obtain ⟨X3,e1,e2,e3,e4,e5⟩:=yd9 (ps:=ps) (N:=s'.bl.length) ha ab (Nat.le_refl _) (fun f hf=>⟨(hps f hf).1,Nat.le_trans hR.gr.size (hps f hf).2,fun i hi=>by have:=hsz i hi;have:=(hps f hf).2;omega,fun x hx=>by have:=zf6 (hR.ks x hx).1;have:=(hps f hf).2;omega⟩) hnd
    rw [e2]
    refine zy1 hC hcl tl hk hL' e1 (fun i hi=>?_) aa hQ
    obtain ⟨a1,a2,a3⟩:=ac i hi
    exact ⟨Nat.lt_of_lt_of_le a1 e3,(e5 i a1).trans a2,(e4 i a1).trans a3⟩
   ·cases hk
  ·cases hk
 ·cases h
end
def Ex.to:Ex→Exit
 | .n=>.normal
 | .x id=>.exit id
 | .r=>.ret
def xLoop (body:Sg→KT→Rs):Nat→Sg→KT→Rs
 | 0,_,_=>none
 | m+1,s,k=>body s fun e s=>match e with
  | .n=>xLoop body m s k
  | e=>k e s
noncomputable def zr8 (P:Program) (lo hi:Nat) (call:zI5) (es:List (Nat × Ent)):Code→Sg→KT→Rs
 | .skip,s,k=>k .n s
 | .region id ops true,s,k=>match zO0 id es with
  | some e=>xDraw P lo hi call ops e s (k .n)
  | none=>none
 | .region _ ops false,s,k=>zK6 P lo hi call ops (List.range ops.size) s (k .n)
 | .seq a b,s,k=>zr8 P lo hi call es a s fun e s=>match e with
  | .n=>zr8 P lo hi call es b s k
  | e=>k e s
 | .cond c a b,s,k=>match ev s.fr c with
  | some (.so (.vc (.cb _ (some true))))=>zr8 P lo hi call es a s k
  | some (.so (.vc (.cb _ (some false))))=>zr8 P lo hi call es b s k
  | some (.so (.vc (.cb t none)))=>zS9 t s fun v s=>match v with
   | true=>zr8 P lo hi call es a s k
   | false=>zr8 P lo hi call es b s k
  | _=>none
 | .block id a,s,k=>zr8 P lo hi call es a s fun e s=>match e with
  | .x j=>if Nat.beq j id then k .n s else k e s
  | e=>k e s
 | .loop a,s,k=>match zO0 (lkey a) es with
  | some (.lp t)=>t s k
  | _=>xLoop (fun s k=>zr8 P lo hi call es a s k) 100 s k
 | .exit id,s,k=>k (.x id) s
 | .ret,s,k=>k .r s
 | _,_,_=>none
section
variable {P:Program} {Post:SV→Prop} {B:Base} {lo hi:Nat} {call:zI5} {es:List (Nat × Ent)}
def KOK (Post:SV→Prop) (B:Base) (k:KT) (Q:Exit→Act→World→Prop):Prop:=∀ e s X w L,k e s=some L→LOK Post L→Rep B X s w→Q e.to (za5 X s.fr) w
def PQ (Q:Exit→Act→World→Prop):Prop:=∀ c (a a':Act) w,Q (.panic c) a w→Q (.panic c) a' w
theorem PQ.then {Q:Exit→Act→World→Prop} (h:PQ Q) (K:Act→World→Prop):PQ (Exit.then K Q):=h
theorem PQ.inBlock {Q:Exit→Act→World→Prop} (h:PQ Q) (id:Nat):PQ (Exit.inBlock id Q):=h
def LpOK (P:Program) (t:Sg→KT→Rs) (a:Code):Prop:=∀ (Post:SV→Prop) (B:Base) (Q:Exit→Act→World→Prop) (k:KT) (X:Env) (s:Sg) (w:World) (L:Lf),PQ Q→KOK Post B k Q→t s k=some L→LOK Post L→Rep B X s w→(Code.loop a).wp P Q (za5 X s.fr) w
def codeLP (P:Program) (es:List (Nat × Ent)):Code→Prop
 | .seq a b=>codeLP P es a∧codeLP P es b
 | .cond _ a b=>codeLP P es a∧codeLP P es b
 | .block _ a=>codeLP P es a
 | .loop a=>match zO0 (lkey a) es with
  | some (.lp t)=>LpOK P t a
  | _=>codeLP P es a
 | _=>True
def noLp (es:List (Nat × Ent)):Bool:=es.all fun x=>match x.2 with
 | .lp _=>false
 | _=>true
theorem zK7:∀ {es:List (Nat × Ent)} {i:Nat} {t:Sg→KT→Rs},noLp es=true→zO0 i es≠some (.lp t)
 | [],_,_,_=>fun h=>by cases h
 | (j,e)::r,i,t,hn=>by
  unfold noLp at hn
  rw [List.all_cons,Bool.and_eq_true] at hn
  unfold zO0
  split
  ·intro h;cases h;have:=hn.1;cases this
  ·exact zK7 (es:=r) hn.2
theorem zT1 {P:Program} {es:List (Nat × Ent)} (h:noLp es=true):∀ c,codeLP P es c:=by
 intro c
 induction c with
 | seq a b iha ihb=>exact ⟨iha,ihb⟩
 | cond c a b iha ihb=>exact ⟨iha,ihb⟩
 | block id a iha=>exact iha
 | loop a iha=>
  unfold codeLP
  split
  ·rename_i t ht;exact absurd ht (zK7 h)
  ·exact iha
 | _=>trivial
def zY1 (n:Nat):Code→Option Code
 | .loop a=>if Nat.beq (lkey a) n then some a else zY1 n a
 | .seq a b=>match zY1 n a with
  | some c=>some c
  | none=>zY1 n b
 | .cond _ a b=>match zY1 n a with
  | some c=>some c
  | none=>zY1 n b
 | .block _ a=>zY1 n a
 | _=>none
theorem ye0 {c:Code} {body:Sg→KT→Rs} (hb:∀ (Q:Exit→Act→World→Prop) (k:KT) X s w L,PQ Q→KOK Post B k Q→body s k=some L→LOK Post L→Rep B X s w→c.wp P Q (za5 X s.fr) w):
  ∀ (m:Nat) {Q:Exit→Act→World→Prop} {k:KT} {X:Env} {s:Sg} {w:World} {L:Lf},PQ Q→KOK Post B k Q→xLoop body m s k=some L→LOK Post L→Rep B X s w→Code.rounds P c Q m (za5 X s.fr) w
 | 0,_,_,_,_,_,_,_,_,h,_,_=>by cases h
 | m+1,Q,k,X,s,w,L,hp,hk,h,hL,hR=>by
  rw [rounds_succ]
  refine hb _ _ X s w L (hp.then _) (fun e s' X' w' L' h' hL' hR'=>?_) h hL hR
  cases e with
  | n=>exact ye0 hb m hp hk h' hL' hR'
  | x id=>exact hk _ _ _ _ _ h' hL' hR'
  | r=>exact hk _ _ _ _ _ h' hL' hR'
theorem ye1 (hC:zu6 P Post B call) (hcl:∀ f,lo≤f→f<hi→okCall P f=true) (hm:P.follows .mixedOrders=true):∀ (c:Code) {Q:Exit→Act→World→Prop} {k:KT} {X:Env} {s:Sg} {w:World} {L:Lf},zh8 P es c=true→codeLP P es c→PQ Q→KOK Post B k Q→
  zr8 P lo hi call es c s k=some L→LOK Post L→Rep B X s w→c.wp P Q (za5 X s.fr) w:=by
 intro c
 induction c with
 | skip=>intro Q k X s w L _ _ _ hk h hL hR;exact wp_skip (hk .n s X w L h hL hR)
 | region id ops draw=>
  intro Q k X s w L hc _ hp hk h hL hR
  cases draw with
  | true=>
   simp only [zr8] at h
   simp only [zh8] at hc
   split at h
   ·rename_i e he
    rw [he] at hc
    exact xDraw_ok hC hcl hm hc (fun c a a' w=>hp c a a' w) h hL hR (fun s' X' w' L'=>hk .n s' X' w' L')
   ·cases h
  | false=>exact wp_region (zu7 hC hcl _ h hL hR (fun s' X' w' L'=>hk .n s' X' w' L'))
 | seq a b iha ihb=>
  intro Q k X s w L hc hlp hp hk h hL hR
  simp only [zh8,Bool.and_eq_true] at hc
  refine wp_seq (iha hc.1 hlp.1 (hp.then _) (fun e s' X' w' L' h' hL' hR'=>?_) h hL hR)
  cases e with
  | n=>exact ihb hc.2 hlp.2 hp hk h' hL' hR'
  | x id=>exact hk _ _ _ _ _ h' hL' hR'
  | r=>exact hk _ _ _ _ _ h' hL' hR'
 | cond c a b iha ihb=>
  intro Q k X s w L hc hlp hp hk h hL hR
  simp only [zh8,Bool.and_eq_true] at hc
  simp only [zr8] at h
  split at h
  ·rename_i t hv
   have he:=zd0 hv hR.fr
   have:(za5 X s.fr).eval c=.bool true:=by rw [he.1];exact congrArg Value.bool (he.2.2 true rfl)
   exact wp_cond_true this (iha hc.1 hlp.1 hp hk h hL hR)
  ·rename_i t hv
   have he:=zd0 hv hR.fr
   have:(za5 X s.fr).eval c=.bool false:=by rw [he.1];exact congrArg Value.bool (he.2.2 false rfl)
   exact wp_cond_false this (ihb hc.2 hlp.2 hp hk h hL hR)
  ·rename_i t hv
   have he:=zd0 hv hR.fr
   obtain ⟨v,d,L',ht,hk',hL'⟩:=zG3 h hL
   have hR':=hR.ds d
   cases v with
   | true=>exact wp_cond_true (by rw [he.1];exact congrArg Value.bool ht) (iha (s:={s with ds:=d}) hc.1 hlp.1 hp hk hk' hL' hR')
   | false=>exact wp_cond_false (by rw [he.1];exact congrArg Value.bool ht) (ihb (s:={s with ds:=d}) hc.2 hlp.2 hp hk hk' hL' hR')
  ·cases h
 | block id a iha=>
  intro Q k X s w L hc hlp hp hk h hL hR
  refine wp_block (iha hc hlp (hp.inBlock id) (fun e s' X' w' L' h' hL' hR'=>?_) h hL hR)
  cases e with
  | n=>exact hk _ _ _ _ _ h' hL' hR'
  | x j=>
   simp only at h'
   show (if j=id then Q .normal (za5 X' s'.fr) w' else Q (.exit j) (za5 X' s'.fr) w')
   split at h'
   ·rename_i e
    have e:j=id:=by simpa using e
    rw [if_pos e]
    exact hk _ _ _ _ _ h' hL' hR'
   ·rename_i e
    have e:¬ j=id:=by simpa using e
    rw [if_neg e]
    exact hk _ _ _ _ _ h' hL' hR'
  | r=>exact hk _ _ _ _ _ h' hL' hR'
 | loop a iha=>
  intro Q k X s w L hc hlp hp hk h hL hR
  simp only [zr8] at h
  unfold codeLP at hlp
  unfold zh8 at hc
  split at h
  ·rename_i t ht
   rw [ht] at hlp
   exact hlp Post B Q k X s w L hp hk h hL hR
  ·rename_i hne
   have e:codeLP P es a∧zh8 P es a=true:=by
    cases ho:zO0 (lkey a) es with
    | none=>rw [ho] at hlp hc;exact ⟨hlp,hc⟩
    | some e=>
     rw [ho] at hlp hc
     cases e with
     | lp t=>exact absurd ho (hne t)
     | _=>exact ⟨hlp,hc⟩
   exact wp_loop_rounds 100 (ye0 (fun Q k X s w L hp hk h hL hR=>iha e.2 e.1 hp hk h hL hR) 100 hp hk h hL hR)
 | exit id=>intro Q k X s w L _ _ _ hk h hL hR;exact wp_exit (hk (.x id) s X w L h hL hR)
 | ret=>intro Q k X s w L _ _ _ hk h hL hR;exact wp_ret (hk .r s X w L h hL hR)
 | _=>intro Q k X s w L _ _ _ _ h;cases h
end

noncomputable def xRes1 (P:Program) (s:Sg):ResultVar→Option SV
 | .tmp t=>nth s.fr t
 | .cell a t=>match nth s.fr a with
  | some (.so (.vc (.cp j 0)))=>match nth s.bl j with
   | some (_,cs)=>match ze3 P t with
    | some n=>if Nat.beq n cs.length then some (.so (.vg cs)) else none
    | none=>if zi3 P t then (match cs with | [c]=>some (.so (.vc c)) | _=>none) else none
   | none=>none
  | _=>none
noncomputable def yv1 (P:Program) (s:Sg):List ResultVar→Option (List TV)
 | []=>some []
 | r::l=>match xRes1 P s r,yv1 P s l with
  | some (.so v),some m=>some (v::m)
  | _,_=>none
noncomputable def xRes (P:Program) (s:Sg) (l:List ResultVar):Option SV:=match l with
 | [r]=>xRes1 P s r
 | _=>match yv1 P s l with
  | some m=>some (.st m)
  | none=>none
noncomputable def resF (tmps:Array Value):ResultVar→Sem Value
 | .tmp t=>pure (tmps.getD t undef)
 | .cell a t=>do loadVar t (← asAddr (tmps.getD a undef))
section
variable {P:Program} {B:Base} {X:Env} {s:Sg} {w:World}
theorem zT2 {t:TypeId} {b:Nat} {v:Value} {tt:TypeId} (hL:Lc w b #[v] tt) (hs:zi3 P t=true):(loadVar t ⟨b,0,none⟩).run P w=.ok v w:=by
 unfold zi3 at hs
 have hc:w.cell? ⟨b,0,none⟩=some v:=by rw [zb4 hL];rfl
 cases hd:P.underlying t with
 | none=>rw [hd] at hs;cases hs
 | some d=>
  rw [hd] at hs
  have hagg:(isAgg t).run P w=.ok false w:=by
   unfold isAgg
   rw [Sem.run_bind,run_underlying hd w]
   cases d<;>first | cases hs | rfl
  simp only [loadVar,Sem.run_bind,hagg,Result.andThen_ok]
  simp [load,Sem.run,hc]
theorem yv2 (hR:Rep B X s w) {r:ResultVar} {v:SV} (h:xRes1 P s r=some v):(resF (za5 X s.fr).tmps r).run P w=.ok (v.den X) w∧v.ok s.nn X w:=by
 unfold xRes1 at h
 split at h
 ·rename_i t
  have e:(za5 X s.fr).tmps.getD t undef=v.den X:=(zd0 (x:=.tmp t) h hR.fr).1
  exact ⟨by simp only [resF,e,Sem.run_pure],(zd0 (x:=.tmp t) h hR.fr).2⟩
 ·rename_i a t
  split at h
  ·rename_i j hj
   have e:(za5 X s.fr).tmps.getD a undef=.pointer (some ⟨X.E j,0,none⟩):=(zd0 (x:=.tmp a) hj hR.fr).1
   split at h
   ·rename_i tt cs hb
    rw [zi5] at hb
    have hL:=(hR.lc j tt cs hb).1
    split at h
    ·rename_i n hn
     split at h
     ·rename_i hl
      simp only [Nat.beq_eq] at hl
      cases h
      refine ⟨?_,hR.bl j tt cs hb⟩
      have:=zi4 (P:=P) (t:=t) hL (by rw [hn,hl];simp [dnL])
      simp only [resF,e,asAddr,Sem.run_bind,Sem.run_pure,Result.andThen_ok,this]
      rfl
     ·cases h
    ·split at h
     ·rename_i h1
      split at h
      ·rename_i c
       cases h
       refine ⟨?_,hR.bl j tt _ hb c (by simp)⟩
       have:=zT2 (P:=P) (t:=t) (v:=c.den X) (by simpa [dnL] using hL) h1
       simp only [resF,e,asAddr,Sem.run_bind,Sem.run_pure,Result.andThen_ok,this]
       rfl
      ·cases h
     ·cases h
   ·cases h
  ·cases h
theorem yv3 (hR:Rep B X s w):∀ {l:List ResultVar} {m:List TV},yv1 P s l=some m→(l.mapM (resF (za5 X s.fr).tmps)).run P w=.ok (m.map (TV.den X)) w∧∀ x ∈ m,x.ok s.nn X w
 | [],m,h=>by cases h;exact ⟨by simp,fun _ hx=>by cases hx⟩
 | r::l,m,h=>by
  unfold yv1 at h
  split at h
  ·rename_i v m' h1 h2
   cases h
   have a:=yv2 hR h1
   have b:=yv3 hR h2
   refine ⟨?_,fun x hx=>?_⟩
   ·have a1:(resF (za5 X s.fr).tmps r).run P w=.ok (v.den X) w:=a.1
    simp [List.mapM_cons,a1,b.1]
   ·rcases List.mem_cons.1 hx with rfl | hx
    ·exact a.2
    ·exact b.2 x hx
  ·cases h
theorem yh8 (fn:Func) (tmps:Array Value):results fn tmps=(do
  let vs ← fn.results.mapM (resF tmps)
  pure (if h:vs.size=1 then vs[0] else .tuple vs)):=by
 unfold results
 congr 1
theorem res_ok (hR:Rep B X s w) {fn:Func} {v:SV} (h:xRes P s fn.results.toList=some v):(results fn (za5 X s.fr).tmps).run P w=.ok (v.den X) w∧v.ok s.nn X w:=by
 rw [yh8]
 unfold xRes at h
 rw [Array.mapM_eq_mapM_toList]
 split at h
 ·rename_i r hr
  have a:=yv2 hR h
  rw [hr]
  exact ⟨by simp [List.mapM_cons,a.1],a.2⟩
 ·rename_i hne
  split at h
  ·rename_i m hm
   cases h
   have b:=yv3 hR hm
   have hl:m.length=fn.results.toList.length:=by
    clear hne b
    revert m
    induction fn.results.toList with
    | nil=>intro m hm;cases hm;rfl
    | cons r l ih=>
     intro m hm
     unfold yv1 at hm
     split at hm
     ·rename_i v m' h1 h2
      cases hm
      simp [ih _ h2]
     ·cases hm
   have h1:¬ m.length=1:=by
    rw [hl]
    intro e
    obtain ⟨r,hr⟩:=List.length_eq_one_iff.1 e
    exact hne r hr
   exact ⟨by simp [b.1,h1,SV.den],b.2⟩
  ·cases h
end
inductive Tr where
 | leaf (v:SV) (dr dz:Nat)
 | br (t:Bool) (a b:Tr)
 | as (t:Bool) (a:Tr)
def Tr.holds (n:Nn) (X:Env) (w:World) (e:Ending) (w':World):Tr→Prop
 | .leaf v dr dz=>∃ X',e=.returned (v.den X')∧Gr w w'∧Agr n X X'∧v.ok ⟨n.b,n.r+dr,n.z+dz⟩ X' w'
 | .br t a b=>(t=true→a.holds n X w e w')∧(t=false→b.holds n X w e w')
 | .as _ a=>a.holds n X w e w'
def Tr.pre:Tr→Prop
 | .as t a=>t=true∧a.pre
 | _=>True
abbrev ConT:=List SV→Nat→Nat→Option Tr
def ConOK (P:Program) (I:World→Prop) (f:Nat) (c:ConT):Prop:=∀ (args:List SV) (X:Env) (n:Nn) (w:World) (T:Tr),I w→okF n X w args→c args n.r n.z=some T→T.pre→
 Calls P f (args.map (SV.den X)).toArray w fun e w'=>T.holds n X w e w'
def xTr:Tr→Sg→(SV→Sg→Rs)→Rs
 | .leaf v dr dz,s,k=>match s with
  | ⟨fr,bl,nu,nr,nz,ds⟩=>k v ⟨fr,bl,nu,nr+dr,nz+dz,ds⟩
 | .br t a b,s,k=>zS9 t s fun u s=>match u with
  | true=>xTr a s k
  | false=>xTr b s k
 | .as t a,s,k=>asL t true (xTr a s k)
def yv4 {α:Type}:Nat→List (Nat × α)→Option α
 | _,[]=>none
 | i,(j,e)::r=>if Nat.beq i j then some e else yv4 i r
structure Sys where
 P:Program
 lo:Nat
 hi:Nat
 tab:List (Nat × List (Nat × Ent))
 con:List (Nat × ConT)
 I:World→Prop
def TV.lt (n:Nn):TV→Bool
 | .vc c=>c.lt n
 | .vg l=>l.all fun c=>c.lt n
def SV.lt (n:Nn):SV→Bool
 | .so x=>x.lt n
 | .st l=>l.all fun x=>x.lt n
 | .su=>true
 | .sj j _=>Nat.blt j n.z
def zG5:Nat→List SV
 | 0=>[]
 | n+1=>.su::zG5 n
noncomputable def xFun (Y:Sys):Nat→zI5
 | 0,_,_,_,_=>none
 | m+1,f,args,s,k=>match yv4 f Y.con with
  | some c=>match c args s.nr s.nz with
   | some T=>xTr T s k
   | none=>none
  | none=>match yv4 f Y.tab,Y.P.funcs[f]? with
   | some es,some fn=>match fn.body with
    | some c=>match s with
     | ⟨fr,bl,nu,nr,nz,ds⟩=>appF args (zG5 (fn.ntmps - args.length)) fun fr'=>zr8 Y.P Y.lo Y.hi (xFun Y m) es c ⟨fr',bl,bl.length,nr,nz,ds⟩ fun e s'=>match e with
      | .x _=>none
      | _=>match xRes Y.P s' fn.results.toList with
       | some v=>if v.lt ⟨bl.length,s'.nr,s'.nz⟩ then k v ⟨fr,bl,nu,s'.nr,s'.nz,s'.ds⟩ else none
       | none=>none
    | none=>none
   | _,_=>none
def okTab (P:Program) (x:Nat × List (Nat × Ent)):Bool:=match P.funcs[x.1]? with
 | some fn=>match fn.body with
  | some c=>zh8 P x.2 c
  | none=>true
 | none=>true
structure Sys.OK (Y:Sys):Prop where
 mixed:Y.P.follows .mixedOrders=true
 calls:∀ f,Y.lo≤f→f<Y.hi→okCall Y.P f=true
 tab:∀ x ∈ Y.tab,okTab Y.P x=true
 lps:∀ x ∈ Y.tab,∀ (fn:Func) (c:Code),Y.P.funcs[x.1]?=some fn→fn.body=some c→codeLP Y.P x.2 c
 con:∀ x ∈ Y.con,ConOK Y.P Y.I x.1 x.2
 inv:∀ w w',Y.I w→Gr w w'→Y.I w'
theorem zK8 {P:Program} {tab:List (Nat × List (Nat × Ent))} (h:tab.all (fun x=>noLp x.2)=true):∀ x ∈ tab,∀ (fn:Func) (c:Code),P.funcs[x.1]?=some fn→fn.body=some c→codeLP P x.2 c:=
 fun x hx _ c _ _=>zT1 (List.all_eq_true.1 h x hx) c
theorem zu8 {α:Type} {f:Nat} {e:α}:∀ {l:List (Nat × α)},yv4 f l=some e→(f,e) ∈ l
 | [],h=>by cases h
 | (j,x)::r,h=>by
  unfold yv4 at h
  split at h
  ·rename_i hj
   simp only [Nat.beq_eq] at hj
   cases h;subst hj;simp
  ·exact List.mem_cons_of_mem _ (zu8 h)
section
variable {Post:SV→Prop} {B:Base} {X:Env} {s:Sg} {w:World}
theorem TV.ok_of {n m:Nn} {x:TV} (h:x.ok m X w) (hl:x.lt n=true):x.ok n X w:=by
 cases x with
 | vc c=>exact ⟨hl,h.2⟩
 | vg l=>exact fun c hc=>⟨List.all_eq_true.1 hl c hc,(h c hc).2⟩
theorem SV.ok_of {n m:Nn} {v:SV} (h:v.ok m X w) (hl:v.lt n=true):v.ok n X w:=by
 cases v with
 | so x=>exact TV.ok_of h hl
 | st l=>exact fun x hx=>TV.ok_of (h x hx) (List.all_eq_true.1 hl x hx)
 | su=>trivial
 | sj j i=>exact hl
theorem Rep.after {X':Env} {w':World} {nr nz:Nat} {d:Dt} (hR:Rep B X s w) (g:Gr w w') (ha:Agr s.nn X X') (hr:s.nr≤nr) (hz:s.nz≤nz):
  Rep B X' {s with nr:=nr,nz:=nz,ds:=d} w':=by
 have hn:s.nn.le ({s with nr:=nr,nz:=nz,ds:=d}:Sg).nn:=⟨Nat.le_refl _,hr,hz⟩
 refine ⟨hR.gr.trans g,hR.ag.trans (ha.mono hR.le),hR.le.trans hn,zS7 hn ha g.kp hR.fr,fun i t cs hi=>zA0 hn ha g.kp (hR.bl i t cs hi),fun i t cs hi=>?_,fun i h1 h2=>?_,fun i j h1 h2 e=>?_,fun x hx=>⟨g.heap (hR.ks x hx).1,fun i hi=>?_⟩⟩
 ·have hl:i<s.bl.length:=(List.getElem?_eq_some_iff.1 hi).1
  have:=hR.lc i t cs hi
  rw [← ha.E i hl,← zu2 ha fun c hc=>(hR.bl i t cs hi c hc).1]
  exact ⟨this.1.gr g,this.2⟩
 ·rw [← ha.E i h2];exact hR.own i h1 h2
 ·rw [← ha.E i h1,← ha.E j h2] at e;exact hR.inj i j h1 h2 e
 ·rw [← ha.E i hi];exact (hR.ks x hx).2 i hi
def yv5 (nz:Nat):List Nat→Nat→List SV→List SV
 | [],_,fr=>fr
 | j::js,i,fr=>yv5 nz js (i+1) (fr.set j (.sj nz i))
theorem yv6 {X:Env} {fr0:List SV} {nz:Nat} {n:Nn} (hz:nz<n.z) (js:List Nat) (hX:∀ i j,js[i]?=some j→X.Z nz (10+i)=(za5 X fr0).tmps.getD j undef):∀ (l1 l2:List Nat) (fr:List SV),l1++l2=js→okF n X w fr→za5 X fr=za5 X fr0→
  okF n X w (yv5 nz l2 l1.length fr)∧za5 X (yv5 nz l2 l1.length fr)=za5 X fr0
 | _,[],fr,_,h1,h2=>⟨h1,h2⟩
 | l1,j::l2,fr,hj,h1,h2=>by
  have ok:(SV.sj nz l1.length).ok n X w:=zm5 hz
  have hv:=hX l1.length j (by rw [← hj];simp)
  have e:za5 X (fr.set j (.sj nz l1.length))=za5 X fr:=by
   have hv':(SV.sj nz l1.length).den X=(za5 X fr).tmps.getD j undef:=by rw [h2];exact hv
   rw [← zX4,hv']
   unfold Act.put
   have:∀ (t:Array Value) (j:Nat),t.setIfInBounds j (t.getD j undef)=t:=fun t j=>by
    apply Array.ext
    ·simp
    ·intro i h3 h4
     rw [Array.getElem_setIfInBounds]
     split
     ·rename_i e;subst e;simp [h4]
     ·rfl
   simp only [this]
  have:=yv6 hz js hX (l1++[j]) l2 (fr.set j (.sj nz l1.length)) (by simp [← hj]) (yt2 h1 ok) (e.trans h2)
  rwa [List.length_append,List.length_singleton] at this
theorem Rep.junk (hR:Rep B X s w) (js:List Nat):∃ X',Rep B X' {s with fr:=yv5 s.nz js 0 s.fr,nz:=s.nz+1} w∧za5 X' (yv5 s.nz js 0 s.fr)=za5 X s.fr:=by
 let X':Env:={X with Z:=fun i c=>if i=s.nz then (za5 X s.fr).tmps.getD (js.getD (c - 10) 0) undef else X.Z i c}
 have ag:Agr s.nn X X':=⟨fun _ _=>rfl,fun _ _ _=>rfl,fun i c hi=>(if_neg (Nat.ne_of_lt hi)).symm,rfl⟩
 have h1:Rep B X' {s with nr:=s.nr,nz:=s.nz+1,ds:=s.ds} w:=hR.after (Gr.refl w) ag (Nat.le_refl _) (Nat.le_succ _)
 have e0:za5 X s.fr=za5 X' s.fr:=zl8 ag hR.fr
 have hg:=yv6 (w:=w) (X:=X') (fr0:=s.fr) (nz:=s.nz) (n:=⟨s.bl.length,s.nr,s.nz+1⟩) (Nat.lt_succ_self _) js (fun i j hi=>by
  rw [← e0]
  show (if s.nz=s.nz then _ else _)=_
  rw [if_pos rfl,Nat.add_sub_cancel_left]
  simp [hi]) [] js s.fr rfl h1.fr rfl
 exact ⟨X',⟨h1.gr,h1.ag,h1.le,hg.1,h1.bl,h1.lc,h1.own,h1.inj,h1.ks⟩,hg.2.trans e0.symm⟩
theorem yv7 {P:Program} {es:List (Nat × Ent)} {a:Code} {s1:Sg} {e1:Ex} {Q:Exit→Act→World→Prop} (hm:P.follows .mixedOrders=true) (hc:zh8 P es a=true) (hn:noLp es=true) (hp:PQ Q)
  (hrun:∀ k:KT,zr8 P 0 0 (fun _ _ _ _=>none) es a s k=k e1 s1) (hR:Rep B X s w) (hQ:∀ X' w',Rep B X' s1 w'→Q e1.to (za5 X' s1.fr) w'):a.wp P Q (za5 X s.fr) w:=by
 classical
 let k:KT:=fun e t=>if e=e1∧t=s1 then some (.ret .su) else none
 refine ye1 (Post:=fun _=>True) (B:=B) (lo:=0) (hi:=0) (call:=fun _ _ _ _=>none) (k:=k) (L:=.ret .su) (fun _ _ _ _ _ _ _ h=>(by cases h)) (fun f _ h=>absurd h (Nat.not_lt_zero f)) hm a hc (zT1 hn a) hp (fun e t X' w' L hk _ hR'=>?_) ((hrun k).trans (if_pos ⟨rfl,rfl⟩)) trivial hR
 have:e=e1∧t=s1:=Classical.byContradiction fun hne=>by
  have:(none:Rs)=some L:=(if_neg hne).symm.trans hk
  cases this
 obtain ⟨rfl,rfl⟩:=this
 exact hQ X' w' hR'
theorem ye2 {L:Lf} {k:SV→Sg→Rs}:∀ (T:Tr) {s:Sg},xTr T s k=some L→LOK Post L→Rep B X s w→∀ {e:Ending} {w':World},T.holds s.nn X w e w'→
  ∃ v s' X' L',e=.returned (v.den X')∧Gr w w'∧Agr s.nn X X'∧Rep B X' s' w'∧v.ok s'.nn X' w'∧s'.fr=s.fr∧s'.bl=s.bl∧s'.nu=s.nu∧k v s'=some L'∧LOK Post L'
 | .leaf v dr dz,s,h,hL,hR,e,w',hT=>by
  obtain ⟨X',h1,h2,h3,h4⟩:=hT
  exact ⟨v,_,X',L,h1,h2,h3,hR.after (d:=s.ds) h2 h3 (Nat.le_add_right _ _) (Nat.le_add_right _ _),h4,rfl,rfl,rfl,h,hL⟩
 | .br t a b,s,h,hL,hR,e,w',hT=>by
  obtain ⟨v,d,L',ht,hk,hL'⟩:=zG3 h hL
  cases v with
  | true=>
   obtain ⟨v,s',X',L2,r⟩:=ye2 a (s:={s with ds:=d}) hk hL' (hR.ds d) (hT.1 ht)
   exact ⟨v,s',X',L2,r⟩
  | false=>
   obtain ⟨v,s',X',L2,r⟩:=ye2 b (s:={s with ds:=d}) hk hL' (hR.ds d) (hT.2 ht)
   exact ⟨v,s',X',L2,r⟩
 | .as t a,s,h,hL,hR,e,w',hT=>by
  obtain ⟨x,h1,rfl⟩:=zq5 h
  exact ye2 a h1 hL.2 hR hT
theorem yv8 {L:Lf} {k:SV→Sg→Rs}:∀ (T:Tr) {s:Sg},xTr T s k=some L→LOK Post L→T.pre
 | .leaf ..,_,_,_=>trivial
 | .br ..,_,_,_=>trivial
 | .as t a,s,h,hL=>by
  obtain ⟨x,h1,rfl⟩:=zq5 h
  exact ⟨hL.1,yv8 a h1 hL.2⟩
theorem zT3 (n:Nn):∀ m,okF n X w (zG5 m)
 | 0,_,h=>by cases h
 | m+1,v,h=>by
  rcases List.mem_cons.1 h with rfl | h
  ·trivial
  ·exact zT3 n m v h
theorem zK9:∀ m,(zG5 m).map (SV.den X)=List.replicate m undef
 | 0=>rfl
 | m+1=>by rw [zG5,List.map_cons,zK9 m,List.replicate_succ];rfl
theorem yv9 (Y:Sys) (hY:Y.OK):∀ m B,Y.I B.w→zu6 Y.P Post B (xFun Y m)
  | 0,B,_=>fun X s w f args k L h=>by cases h
  | m+1,B,hB=>fun X s w f args k L h hL hR ha=>by
    unfold xFun at h
    split at h
    · rename_i c hc
      split at h
      · rename_i T hT
        exact (hY.con _ (zu8 hc) args X s.nn w T (hY.inv _ _ hB hR.gr) ha hT (yv8 T h hL)).mono fun e w' he=>ye2 T h hL hR he
      · cases h
    · split at h
      · rename_i es fn h1 h2
        split at h
        · rename_i c hb
          have hcode:zh8 Y.P es c=true:=by
            have:=hY.tab _ (zu8 h1)
            unfold okTab at this
            simp only [h2,hb] at this
            exact this
          obtain ⟨fr,bl,nu,nr,nz,ds⟩:=s
          simp only [zX3] at h
          have hlen:(args.map (SV.den X)).toArray.size=args.length:=by simp
          refine calls_of_wp h2 hb ?_
          have hact:({tmps:=(args.map (SV.den X)).toArray++Array.replicate (fn.ntmps - (args.map (SV.den X)).toArray.size) undef,defers:=[]}:Act)=za5 (X.wd []) (args++zG5 (fn.ntmps - args.length)):=by
            unfold za5
            rw [hlen,List.map_append,zK9,List.map_congr_left fun x _=>SV.den_D X [] x]
            simp [Env.wd]
          rw [hact]
          have aa:Rep ⟨w,X.wd [],⟨bl.length,nr,nz⟩,[]⟩ (X.wd []) ⟨args++zG5 (fn.ntmps - args.length),bl,bl.length,nr,nz,ds⟩ w:=
            ⟨Gr.refl w,.refl _ _,.refl _,fun v hv=>by
              rcases List.mem_append.1 hv with hv | hv
              · exact SV.ok_D (ha v hv) []
              · exact zT3 _ _ v hv,fun i t cs hi=>okL_D (hR.bl i t cs hi) [],fun i t cs hi=>by rw [dnL_D];exact hR.lc i t cs hi,fun i h1 h2=>absurd h2 (Nat.not_lt.2 h1),hR.inj,fun x hx=>(by cases hx)⟩
          refine ye1 (Q:=bodyPost Y.P fn _) (yv9 Y hY m ⟨w,X.wd [],⟨bl.length,nr,nz⟩,[]⟩ (hY.inv _ _ hB hR.gr)) hY.calls hY.mixed c (X:=X.wd []) hcode (hY.lps _ (zu8 h1) _ _ h2 hb) (fun c a a' w hq=>⟨?_,?_⟩) (fun e s' X' w' L' h' hL' hR'=>?_) h hL aa
          · obtain ⟨_,v,s',X',L',hq,_⟩:=hq;cases hq
          · obtain ⟨_,v,s',X',L',hq,_⟩:=hq;cases hq
          · have fin:∀ {v:SV},xRes Y.P s' fn.results.toList=some v→v.lt ⟨bl.length,s'.nr,s'.nz⟩=true→k v ⟨fr,bl,nu,s'.nr,s'.nz,s'.ds⟩=some L'→
                (za5 X' s'.fr).defers=[]∧∃ u,(results fn (za5 X' s'.fr).tmps).run Y.P w'=.ok u w'∧(∃ v s' X' L',(.returned u:Ending)=.returned (v.den X')∧Gr w w'∧Agr ⟨bl.length,nr,nz⟩ X X'∧Rep B X' s' w'∧v.ok s'.nn X' w'∧s'.fr=fr∧s'.bl=bl∧s'.nu=nu∧k v s'=some L'∧LOK Post L'):=fun {v} hv hl hk=>by
              have hr:=res_ok hR' hv
              have hD:X'.D=[]:=hR'.ag.D.symm
              have hag:Agr ⟨bl.length,nr,nz⟩ X (X'.wd X.D):=⟨hR'.ag.E,hR'.ag.R,hR'.ag.Z,rfl⟩
              refine ⟨hD,v.den X',hr.1,v,⟨fr,bl,nu,s'.nr,s'.nz,s'.ds⟩,X'.wd X.D,L',by rw [SV.den_D],hR'.gr,hag,?_,SV.ok_D (SV.ok_of hr.2 hl) X.D,rfl,rfl,rfl,hk,hL'⟩
              exact hR.after hR'.gr hag hR'.le.r hR'.le.z
            cases e with
            | x id=>cases h'
            | n=>
              simp only at h'
              split at h'
              · rename_i v hv
                split at h'
                · rename_i hl;exact fin hv hl h'
                · cases h'
              · cases h'
            | r=>
              simp only at h'
              split at h'
              · rename_i v hv
                split at h'
                · rename_i hl;exact fin hv hl h'
                · cases h'
              · cases h'
        · cases h
      · cases h
theorem Rep.wt {T:TypeId} {w':World} (h:Rep B X s w) (hw:Wt T w w') (hT:161≠T) (g:Gr B.w w') (ht:∀ x ∈ s.bl,x.1≠T) (hk:∀ x ∈ B.ks,w'.heap[x.1]?=some x.2):Rep B X s w':=
 ⟨g,h.ag,h.le,zS7 (.refl _) (.refl _ _) (hw.kp hT) h.fr,fun i t cs hi=>zA0 (.refl _) (.refl _ _) (hw.kp hT) (h.bl i t cs hi),fun i t cs hi=>⟨hw.lc (h.lc i t cs hi).1 (ht _ (List.mem_of_getElem? hi)),(h.lc i t cs hi).2⟩,h.own,h.inj,fun x hx=>⟨hk x hx,(h.ks x hx).2⟩⟩
noncomputable def runF (Y:Sys) (f:Nat) (args:List SV) (nr nz:Nat) (ds:Dt):Rs:=xFun Y 30 f args ⟨[],[],0,nr,nz,ds⟩ fun v _=>some (.ret v)
theorem zf8 (Y:Sys) (hY:Y.OK) {f:Nat} {args:List SV} {nr nz:Nat} {ds:Dt} {L:Lf} (h:runF Y f args nr nz ds=some L) {X:Env} {w:World} (hI:Y.I w) (ha:okF ⟨0,nr,nz⟩ X w args) (hL:LOK Post L):
  Calls Y.P f (args.map (SV.den X)).toArray w fun e w'=>∃ v X' n,e=.returned (v.den X')∧Gr w w'∧Agr ⟨0,nr,nz⟩ X X'∧v.ok n X' w'∧Post v:=by
 have hR:Rep ⟨w,X,⟨0,nr,nz⟩,[]⟩ X ⟨[],[],0,nr,nz,ds⟩ w:=
  ⟨Gr.refl w,.refl _ _,.refl _,fun _ h=>(by cases h),fun i t cs h=>(by cases h),fun i t cs h=>(by cases h),fun i _ h=>(by cases h),fun i j h=>(by cases h),fun _ h=>(by cases h)⟩
 refine (yv9 Y hY 30 ⟨w,X,⟨0,nr,nz⟩,[]⟩ hI X _ w f args _ L h hL hR ha).mono fun e w' he=>?_
 obtain ⟨v,s',X',L',h1,h2,h3,h4,h5,_,_,_,hk,hL'⟩:=he
 cases hk
 exact ⟨v,X',_,h1,h2,h3,h5,hL'⟩
end
set_option maxRecDepth 100000 in
set_option maxHeartbeats 1000000 in
theorem read_w {k:Nat} (q:Rat) (hq:Sz k q.num∧Sz k (q.den:Int)) (_hk:k≤20000) (aC:64≤k) (most:Int) (_hlong:((za3 q).length:Int)≤most) (w:World) (hm:Mx w) (hw:q.den=1):
    Calls Tryz.prog 120 #[(.string ⟨(za3 (q):List UInt8).toArray⟩),(.int .i64 (most))] w fun e w'=>(∃ c0 c1 c2 c3,e=.returned (.tuple #[.agg #[c0,c1,c2,c3],.int .i64 0])∧IsRat w' k c0 c1 c2 c3 q)∧Gr w w':=by
 have hl:decide (most<((za3 q).length:Int))=false:=by simp;omega
 go_enter Tryz.func120,Tryz.ntmps120
 have hB:=Gr.refl w
 refine wp_seq_k (fun K1 k1=>?_)
 refine rg [0,1] ?_
 refine se ?_
 refine ea 36 #[.bool false,.slice none 0 0,.bool false,.slice none 0 0] 4 hB fun b2 w2 g2 L2 o2 q2 hB=>?_
 simp only [p3,p4]
 refine sv 5 (.int .i64 0) ?_
 refine za0 ?_
 refine k1 _ _ ?_
 try clear k1 K1
 refine wp_seq_k (fun K3 k3=>?_)
 refine rg [0,1] ?_
 refine sv 13 (.string ⟨(za3 (q):List UInt8).toArray⟩) ?_
 refine sv 6 (.string ⟨(za3 (q):List UInt8).toArray⟩) ?_
 refine za0 ?_
 refine k3 _ _ ?_
 try clear k3 K3
 refine wp_seq_k (fun K4 k4=>?_)
 refine rg [0,1,2,3,4,5,6,7,8] ?_
 refine sv 15 (.string ⟨(za3 (q):List UInt8).toArray⟩) ?_
 refine se ?_
 refine ec 16 (cut_w q hq.1 hq.2 (by omega) hw (hm.gr hB)) ?_
 rintro e5 w5 ⟨rfl,g5⟩
 refine ⟨_,rfl,?_⟩
 replace hB:=hB.trans g5
 simp only [p3,p4]
 refine sv 14 (.tuple #[(.string ⟨(Lib.itoa (q.num):List UInt8).toArray⟩),(.string ⟨([]:List UInt8).toArray⟩),.bool false]) ?_
 refine sv 17 (.string ⟨(Lib.itoa (q.num):List UInt8).toArray⟩) ?_
 refine sv 18 (.string ⟨([]:List UInt8).toArray⟩) ?_
 refine sv 19 (.bool false) ?_
 refine sv 7 (.string ⟨(Lib.itoa (q.num):List UInt8).toArray⟩) ?_
 refine sv 8 (.string ⟨([]:List UInt8).toArray⟩) ?_
 refine sv 9 (.bool false) ?_
 refine za0 ?_
 refine k4 _ _ ?_
 try clear k4 K4
 refine wp_seq_k (fun K6 k6=>?_)
 refine wp_block ?_
 refine wp_seq_k (fun K7 k7=>?_)
 refine rg [0,1,2,3,4] ?_
 refine sv 21 (.string ⟨(za3 (q):List UInt8).toArray⟩) ?_
 refine sv 22 (.int .i64 (((za3 (q)).length:Int))) ?_
 refine sv 23 (.int .i64 (most)) ?_
 refine sw 24 (.bool false) rfl (RunV.bool (x:=decide (most<((za3 (q)).length:Int))) (rvk (by kernel_rfl)) hl) ?_
 refine sv 20 (.bool false) ?_
 refine za0 ?_
 refine k7 _ _ ?_
 try clear k7 K7
 refine wp_cond_false rfl ?_
 refine wp_seq_k (fun K8 k8=>?_)
 refine rg [0,1,2,3,4,5,6,7,8,9,10,11,12] ?_
 refine sv 27 (.string ⟨(Lib.itoa (q.num):List UInt8).toArray⟩) ?_
 refine se ?_
 refine ec 28 (zm4 (q.num) _) ?_
 rintro e9 w9 ⟨rfl,g9⟩
 refine ⟨_,rfl,?_⟩
 replace hB:=hB.trans g9
 simp only [p3,p4]
 refine se ?_
 refine ec 29 (zF4 q.num hq.1 (by omega) _) ?_
 rintro aO aK ⟨rfl,aq⟩
 refine ⟨_,rfl,?_⟩
 replace hB:=hB.trans aq
 simp only [p3,p4]
 refine sv 30 (.bool false) ?_
 refine sv 31 (.bool false) ?_
 refine sv 32 (.bool false) ?_
 refine sv 33 (.bool false) ?_
 refine ss 34 ?_
 refine ss 35 ?_
 refine ss 36 ?_
 refine sv 37 (.bool false) ?_
 refine sv 38 (.bool false) ?_
 refine sv 26 (.bool false) ?_
 refine za0 ?_
 refine k8 _ _ ?_
 try clear k8 K8
 refine wp_cond_false rfl ?_
 refine wp_seq_k (fun aG au=>?_)
 refine rg [0,1,2,3,4,5,6] ?_
 refine sv 41 (.bool false) ?_
 refine sv 42 (.bool false) ?_
 refine ss 43 ?_
 refine ss 44 ?_
 refine ss 45 ?_
 refine sv 46 (.bool false) ?_
 refine sv 40 (.bool false) ?_
 refine za0 ?_
 refine au _ _ ?_
 try clear au aG
 refine wp_cond_false rfl ?_
 refine wp_skip ?_
 refine k6 _ _ ?_
 try clear k6 K6
 refine wp_seq_k (fun aE av=>?_)
 refine rg [0,1,2,3,4,5,6,7] ?_
 refine sv 49 (.string ⟨(Lib.itoa (q.num):List UInt8).toArray⟩) ?_
 refine se ?_
 refine ec 50 (zV8 (q.num) hq.1 (by omega) _) ?_
 rintro e13 aP ⟨⟨aa,ab,rfl,ad⟩,ar⟩
 refine ⟨_,rfl,?_⟩
 replace hB:=hB.trans ar
 simp only [p3,p4]
 refine sv 48 (.tuple #[(.agg #[aa,ab]),.int .i64 0]) ?_
 refine sv 51 (.agg #[aa,ab]) ?_
 refine sv 52 (.int .i64 0) ?_
 refine se ?_
 refine ea 34 #[.bool false,.slice none 0 0] 10 hB fun aM aL ak ai az aB hB=>?_
 replace L2:=L2.gr (g5.trans (g9.trans (aq.trans ar)))
 have ac:=L2.ne az
 simp only [p3,p4]
 refine se ?_
 refine es 34 0 (.agg #[aa,ab]) [aa,ab] #[aa,ab] ai hB aB ⟨ad.one0,ad.one1,trivial⟩ fun aJ ae af ai hB=>?_
 refine sv 11 (.int .i64 0) ?_
 refine za0 ?_
 refine av _ _ ?_
 try clear av aE
 refine wp_seq_k (fun aA ap=>?_)
 refine wp_seq_k (fun aH al=>?_)
 refine rg [0,1] ?_
 refine sv 53 (.int .i64 0) ?_
 refine sv 54 (.bool false) ?_
 refine za0 ?_
 refine al _ _ ?_
 try clear al aH
 refine wp_cond_false rfl ?_
 refine wp_skip ?_
 refine ap _ _ ?_
 try clear ap aA
 refine wp_seq_k (fun aN aI=>?_)
 refine wp_seq_k (fun aD aw=>?_)
 refine rg [0,1] ?_
 refine sv 56 (.bool false) ?_
 refine sv 57 (.bool true) ?_
 refine za0 ?_
 refine aw _ _ ?_
 try clear aw aD
 refine wp_cond_true rfl ?_
 refine wp_seq_k (fun aF ax=>?_)
 refine rg [0,1,2,3] ?_
 refine sw 58 (.agg #[aa,ab]) rfl (rl 34 0 [aa,ab] ai) ?_
 refine sv 59 (.agg #[aa,ab,.bool false,.slice none 0 0]) ?_
 refine se ?_
 replace L2:=ae.lc (L2.gr ak) ac
 refine es 36 0 (.agg #[aa,ab,.bool false,.slice none 0 0]) [aa,ab,.bool false,.slice none 0 0] #[aa,ab,.bool false,.slice none 0 0] L2 hB q2 ⟨ad.one0,ad.one1,rfl,rfl,trivial⟩ fun aQ ay aj L2 hB=>?_
 refine sv 5 (.int .i64 0) ?_
 refine za0 ?_
 refine ax _ _ ?_
 try clear ax aF
 refine wp_ret ?_
 simp only [Exit.then]
 refine bodyPost_ret (v:=(.tuple #[(.agg #[aa,ab,.bool false,.slice none 0 0]),.int .i64 0])) (zc0 _ _ _ rfl rfl L2 (by kernel_rfl) rfl) rfl ⟨?_,hB⟩
 have ah:=ak.kp.trans (af.trans aj)
 replace ad:=ad.kp ah
 exact ⟨_,_,_,_,rfl,by have:=IsRat.int ad aC;rw [zF3 hw] at this;exact this⟩

set_option maxRecDepth 100000 in
set_option maxHeartbeats 1000000 in
theorem read_f {k:Nat} (q:Rat) (hq:Sz k q.num∧Sz k (q.den:Int)) (_hk:k≤20000) (bc:64≤k) (most:Int) (_hlong:((za3 q).length:Int)≤most) (w:World) (hm:Mx w) (hw:¬ q.den=1):
    Calls Tryz.prog 120 #[(.string ⟨(za3 (q):List UInt8).toArray⟩),(.int .i64 (most))] w fun e w'=>(∃ c0 c1 c2 c3,e=.returned (.tuple #[.agg #[c0,c1,c2,c3],.int .i64 0])∧IsRat w' k c0 c1 c2 c3 q)∧Gr w w':=by
 have hl:decide (most<((za3 q).length:Int))=false:=by simp;omega
 have h1:(sgn ((q.den:Int) - 1)==(0:Int))=false:=by rw [beq_eq_false_iff_ne];exact fun e=>hw (by have:=zc8.1 e;omega)
 have h2:(sgn ((Int.gcd (q.num) ((q.den:Int)):Int) - 1) !=(0:Int))=false:=by rw [zX0];rfl
 go_enter Tryz.func120,Tryz.ntmps120
 have hB:=Gr.refl w
 refine wp_seq_k (fun K1 k1=>?_)
 refine rg [0,1] ?_
 refine se ?_
 refine ea 36 #[.bool false,.slice none 0 0,.bool false,.slice none 0 0] 4 hB fun b2 w2 g2 L2 o2 q2 hB=>?_
 simp only [p3,p4]
 refine sv 5 (.int .i64 0) ?_
 refine za0 ?_
 refine k1 _ _ ?_
 try clear k1 K1
 refine wp_seq_k (fun K3 k3=>?_)
 refine rg [0,1] ?_
 refine sv 13 (.string ⟨(za3 (q):List UInt8).toArray⟩) ?_
 refine sv 6 (.string ⟨(za3 (q):List UInt8).toArray⟩) ?_
 refine za0 ?_
 refine k3 _ _ ?_
 try clear k3 K3
 refine wp_seq_k (fun K4 k4=>?_)
 refine rg [0,1,2,3,4,5,6,7,8] ?_
 refine sv 15 (.string ⟨(za3 (q):List UInt8).toArray⟩) ?_
 refine se ?_
 refine ec 16 (cut_f q hq.1 hq.2 (by omega) hw (hm.gr hB)) ?_
 rintro e5 w5 ⟨rfl,g5⟩
 refine ⟨_,rfl,?_⟩
 replace hB:=hB.trans g5
 simp only [p3,p4]
 refine sv 14 (.tuple #[(.string ⟨(Lib.itoa (q.num):List UInt8).toArray⟩),(.string ⟨(Lib.itoa ((q.den:Int)):List UInt8).toArray⟩),.bool true]) ?_
 refine sv 17 (.string ⟨(Lib.itoa (q.num):List UInt8).toArray⟩) ?_
 refine sv 18 (.string ⟨(Lib.itoa ((q.den:Int)):List UInt8).toArray⟩) ?_
 refine sv 19 (.bool true) ?_
 refine sv 7 (.string ⟨(Lib.itoa (q.num):List UInt8).toArray⟩) ?_
 refine sv 8 (.string ⟨(Lib.itoa ((q.den:Int)):List UInt8).toArray⟩) ?_
 refine sv 9 (.bool true) ?_
 refine za0 ?_
 refine k4 _ _ ?_
 try clear k4 K4
 refine wp_seq_k (fun K6 k6=>?_)
 refine wp_block ?_
 refine wp_seq_k (fun K7 k7=>?_)
 refine rg [0,1,2,3,4] ?_
 refine sv 21 (.string ⟨(za3 (q):List UInt8).toArray⟩) ?_
 refine sv 22 (.int .i64 (((za3 (q)).length:Int))) ?_
 refine sv 23 (.int .i64 (most)) ?_
 refine sw 24 (.bool false) rfl (RunV.bool (x:=decide (most<((za3 (q)).length:Int))) (rvk (by kernel_rfl)) hl) ?_
 refine sv 20 (.bool false) ?_
 refine za0 ?_
 refine k7 _ _ ?_
 try clear k7 K7
 refine wp_cond_false rfl ?_
 refine wp_seq_k (fun K8 k8=>?_)
 refine rg [0,1,2,3,4,5,6,7,8,9,10,11,12] ?_
 refine sv 27 (.string ⟨(Lib.itoa (q.num):List UInt8).toArray⟩) ?_
 refine se ?_
 refine ec 28 (zm4 (q.num) _) ?_
 rintro e9 w9 ⟨rfl,g9⟩
 refine ⟨_,rfl,?_⟩
 replace hB:=hB.trans g9
 simp only [p3,p4]
 refine se ?_
 refine ec 29 (zF4 q.num hq.1 (by omega) _) ?_
 rintro bK bF ⟨rfl,aO⟩
 refine ⟨_,rfl,?_⟩
 replace hB:=hB.trans aO
 simp only [p3,p4]
 refine sv 30 (.bool false) ?_
 refine sv 31 (.bool false) ?_
 refine sv 32 (.bool true) ?_
 refine sv 33 (.bool true) ?_
 refine sv 34 (.string ⟨(Lib.itoa ((q.den:Int)):List UInt8).toArray⟩) ?_
 refine se ?_
 refine ec 35 (yr5 q.den hq.2 (by omega) _) ?_
 rintro e11 bQ ⟨rfl,aX⟩
 refine ⟨_,rfl,?_⟩
 replace hB:=hB.trans aX
 simp only [p3,p4]
 refine sv 36 (.bool false) ?_
 refine sv 37 (.bool false) ?_
 refine sv 38 (.bool false) ?_
 refine sv 26 (.bool false) ?_
 refine za0 ?_
 refine k8 _ _ ?_
 try clear k8 K8
 refine wp_cond_false rfl ?_
 refine wp_seq_k (fun bg aT=>?_)
 refine rg [0,1,2,3,4,5,6] ?_
 refine sv 41 (.bool true) ?_
 refine sv 42 (.bool true) ?_
 refine sv 43 (.string ⟨(Lib.itoa ((q.den:Int)):List UInt8).toArray⟩) ?_
 refine se ?_
 refine ec 44 (zW8 q.den hq.2 q.den_pos (by omega) _) ?_
 rintro e13 bL ⟨⟨aL,rfl,aF⟩,aQ⟩
 refine ⟨_,rfl,?_⟩
 replace hB:=hB.trans aQ
 simp only [p3,p4]
 refine sw 45 (.bool false) rfl (RunV.bool (x:=((aL)==([]:List UInt8))) (yd2 9 9 _ _ (aL) ([]) rfl rfl rfl) aF) ?_
 refine sv 46 (.bool false) ?_
 refine sv 40 (.bool false) ?_
 refine za0 ?_
 refine aT _ _ ?_
 try clear aT bg
 refine wp_cond_false rfl ?_
 refine wp_skip ?_
 refine k6 _ _ ?_
 try clear k6 K6
 refine wp_seq_k (fun a8 aU=>?_)
 refine rg [0,1,2,3,4,5,6,7] ?_
 refine sv 49 (.string ⟨(Lib.itoa (q.num):List UInt8).toArray⟩) ?_
 refine se ?_
 refine ec 50 (zV8 (q.num) hq.1 (by omega) _) ?_
 rintro bH bw ⟨⟨af,ae,rfl,aj⟩,aK⟩
 refine ⟨_,rfl,?_⟩
 replace hB:=hB.trans aK
 simp only [p3,p4]
 refine sv 48 (.tuple #[(.agg #[af,ae]),.int .i64 0]) ?_
 refine sv 51 (.agg #[af,ae]) ?_
 refine sv 52 (.int .i64 0) ?_
 refine se ?_
 refine ea 34 #[.bool false,.slice none 0 0] 10 hB fun bj bJ aY aa a1 a2 hB=>?_
 replace L2:=L2.gr (g5.trans (g9.trans (aO.trans (aX.trans (aQ.trans aK)))))
 have al:=L2.ne a1
 simp only [p3,p4]
 refine se ?_
 refine es 34 0 (.agg #[af,ae]) [af,ae] #[af,ae] aa hB a2 ⟨aj.one0,aj.one1,trivial⟩ fun bn aG aI aa hB=>?_
 refine sv 11 (.int .i64 0) ?_
 refine za0 ?_
 refine aU _ _ ?_
 try clear aU a8
 refine wp_seq_k (fun bb aJ=>?_)
 refine wp_seq_k (fun bf aV=>?_)
 refine rg [0,1] ?_
 refine sv 53 (.int .i64 0) ?_
 refine sv 54 (.bool false) ?_
 refine za0 ?_
 refine aV _ _ ?_
 try clear aV bf
 refine wp_cond_false rfl ?_
 refine wp_skip ?_
 refine aJ _ _ ?_
 try clear aJ bb
 refine wp_seq_k (fun bh aZ=>?_)
 refine wp_seq_k (fun a3 aN=>?_)
 refine rg [0,1] ?_
 refine sv 56 (.bool true) ?_
 refine sv 57 (.bool false) ?_
 refine za0 ?_
 refine aN _ _ ?_
 try clear aN a3
 refine wp_cond_false rfl ?_
 refine wp_skip ?_
 refine aZ _ _ ?_
 try clear aZ bh
 refine wp_seq_k (fun a5 aM=>?_)
 refine rg [0,1,2,3,4,5,6,7] ?_
 refine sv 61 (.string ⟨(Lib.itoa ((q.den:Int)):List UInt8).toArray⟩) ?_
 refine se ?_
 refine ec 62 (zV8 ((q.den:Int)) hq.2 (by omega) _) ?_
 rintro e23 bt ⟨⟨ac,ad,rfl,ai⟩,aA⟩
 refine ⟨_,rfl,?_⟩
 replace hB:=hB.trans aA
 simp only [p3,p4]
 refine sv 60 (.tuple #[(.agg #[ac,ad]),.int .i64 0]) ?_
 refine sv 63 (.agg #[ac,ad]) ?_
 refine sv 64 (.int .i64 0) ?_
 refine se ?_
 refine ea 34 #[.bool false,.slice none 0 0] 12 hB fun a4 bE aB ab aS a9 hB=>?_
 replace L2:=(aG.lc (L2.gr aY) al).gr aA
 have ap:=L2.ne aS
 replace aa:=aa.gr aA
 have ak:=aa.ne aS
 simp only [p3,p4]
 refine se ?_
 refine es 34 0 (.agg #[ac,ad]) [ac,ad] #[ac,ad] ab hB a9 ⟨ai.one0,ai.one1,trivial⟩ fun a6 az ax ab hB=>?_
 refine sv 11 (.int .i64 0) ?_
 refine za0 ?_
 refine aM _ _ ?_
 try clear aM a5
 refine wp_seq_k (fun bd aP=>?_)
 refine wp_seq_k (fun bi aW=>?_)
 have ah:=Gr.drew a6
 replace hB:=hB.trans ah
 replace aa:=(az.lc (aa.gr aB) ak).gr ah
 replace ab:=ab.gr ah
 refine za2 (fun w'=>Lc w' bj #[af,ae] 34∧Lc w' a4 #[ac,ad] 34) [(true,0),(true,1),(true,2),(true,3),(false,4),(false,5),(true,6),(true,7),(true,8),(true,9),(true,10),(false,11),(false,12),(false,13),(true,14),(true,15)] (by kernel_rfl) (by kernel_rfl) (by kernel_rfl) (by decide) (fun _ _ _ _ _ h=>h) ⟨aa,ab⟩ ?_
 refine ov 65 (.int .i64 0) ?_
 refine ov 66 (.bool false) ?_
 refine ov 67 (.bool false) ?_
 refine ow 68 (.agg #[ac,ad]) rfl (fun w' hS=>(rl 34 0 [ac,ad] hS.2)) ?_
 refine oe ?_
 refine ec 69 (zQ1 _) ?_
 rintro bM bu ⟨⟨bx,bA,rfl,a0⟩,au⟩
 refine ⟨_,rfl,?_⟩
 replace hB:=hB.trans au
 replace aa:=aa.gr au
 replace ab:=ab.gr au
 refine ⟨⟨aa,ab⟩,?_⟩
 simp only [p3,p4]
 refine oe ?_
 have aH:=aB.kp.trans (ax.trans (ah.kp.trans au.kp))
 replace ai:=ai.kp aH
 refine ec 70 (zf2 ai a0 (by omega) (by omega)) ?_
 rintro bz bC ⟨rfl,ar⟩
 refine ⟨_,rfl,?_⟩
 replace hB:=hB.trans ar
 replace aa:=aa.gr ar
 replace ab:=ab.gr ar
 refine ⟨⟨aa,ab⟩,?_⟩
 simp only [p3,p4]
 refine ow 71 (.bool false) rfl (fun w' hS=>(RunV.bool (x:=(sgn ((q.den:Int) - 1)==(0:Int))) (rvk (by kernel_rfl)) h1)) ?_
 refine ov 72 (.bool false) ?_
 refine ov 73 (.bool false) ?_
 refine ow 74 (.agg #[af,ae]) rfl (fun w' hS=>(rl 34 0 [af,ae] hS.1)) ?_
 refine ow 75 (.agg #[ac,ad]) rfl (fun w' hS=>(rl 34 0 [ac,ad] hS.2)) ?_
 refine oe ?_
 have aC:=aY.kp.trans (aI.trans (aA.kp.trans (aB.kp.trans (ax.trans (ah.kp.trans (au.kp.trans ar.kp))))))
 replace aj:=aj.kp aC
 replace ai:=ai.kp ar.kp
 refine ec 76 (yg0 aj ai (by omega)) ?_
 rintro bG bm ⟨⟨bO,bp,rfl,aE⟩,aw⟩
 refine ⟨_,rfl,?_⟩
 replace hB:=hB.trans aw
 replace aa:=aa.gr aw
 replace ab:=ab.gr aw
 refine ⟨⟨aa,ab⟩,?_⟩
 simp only [p3,p4]
 refine oe ?_
 refine ec 77 (zQ1 _) ?_
 rintro bP bv ⟨⟨bq,bo,rfl,a7⟩,aq⟩
 refine ⟨_,rfl,?_⟩
 replace hB:=hB.trans aq
 replace aa:=aa.gr aq
 replace ab:=ab.gr aq
 refine ⟨⟨aa,ab⟩,?_⟩
 simp only [p3,p4]
 refine oe ?_
 replace aE:=aE.kp aq.kp
 refine ec 78 (zf2 aE a7 (by omega) (by omega)) ?_
 rintro bD bB ⟨rfl,av⟩
 refine ⟨_,rfl,?_⟩
 replace hB:=hB.trans av
 replace aa:=aa.gr av
 replace ab:=ab.gr av
 refine ⟨⟨aa,ab⟩,?_⟩
 simp only [p3,p4]
 refine ow 79 (.bool false) rfl (fun w' hS=>(RunV.bool (x:=(sgn ((Int.gcd (q.num) ((q.den:Int)):Int) - 1) !=(0:Int))) (rvk (by kernel_rfl)) h2)) ?_
 refine ov 80 (.bool false) ?_
 refine zb1 ?_
 refine aW _ _ ?_
 try clear aW bi
 refine wp_cond_false rfl ?_
 refine wp_skip ?_
 refine aP _ _ ?_
 try clear aP bd
 refine wp_seq_k (fun ba aR=>?_)
 refine rg [0,1,2,3,4] ?_
 refine sw 82 (.agg #[af,ae]) rfl (rl 34 0 [af,ae] aa) ?_
 refine sw 83 (.agg #[ac,ad]) rfl (rl 34 0 [ac,ad] ab) ?_
 refine sv 84 (.agg #[af,ae,ac,ad]) ?_
 refine se ?_
 replace L2:=(az.lc (L2.gr aB) ap).gr (ah.trans (au.trans (ar.trans (aw.trans (aq.trans av)))))
 refine es 36 0 (.agg #[af,ae,ac,ad]) [af,ae,ac,ad] #[af,ae,ac,ad] L2 hB q2 ⟨aj.one0,aj.one1,ai.one0,ai.one1,trivial⟩ fun bN bk aD L2 hB=>?_
 refine sv 5 (.int .i64 0) ?_
 refine za0 ?_
 refine aR _ _ ?_
 try clear aR ba
 refine wp_ret ?_
 refine bodyPost_ret (v:=(.tuple #[(.agg #[af,ae,ac,ad]),.int .i64 0])) (zc0 _ _ _ rfl rfl L2 (by kernel_rfl) rfl) rfl ⟨?_,hB⟩
 have ay:=aw.kp.trans (aq.kp.trans (av.kp.trans aD))
 replace aj:=aj.kp ay
 replace ai:=ai.kp ay
 exact ⟨_,_,_,_,rfl,zW9 aj ai bc⟩

theorem read_q {k:Nat} (q:Rat) (hq:Sz k q.num∧Sz k (q.den:Int)) (hk:k≤20000) (h64:64≤k) (most:Int) (hlong:((za3 q).length:Int)≤most) (w:World) (hm:Mx w):
  Calls Tryz.prog 120 #[(.string ⟨(za3 (q):List UInt8).toArray⟩),(.int .i64 (most))] w fun e w'=>(∃ c0 c1 c2 c3,e=.returned (.tuple #[.agg #[c0,c1,c2,c3],.int .i64 0])∧IsRat w' k c0 c1 c2 c3 q)∧Gr w w':=by
 by_cases hw:q.den=1
 ·exact read_w q hq hk h64 most hlong w hm hw
 ·exact read_f q hq hk h64 most hlong w hm hw

set_option maxRecDepth 100000 in
set_option maxHeartbeats 1000000 in
theorem zL8 {k:Nat} (q:Rat) (hq:Sz k q.num∧Sz k (q.den:Int)) (hk:k≤20000) (af:64≤k) (_hlong:((za3 q).length:Int)≤400) (w:World) (hm:Mx w):
    Calls Tryz.prog 94 #[(.string ⟨(za3 (q):List UInt8).toArray⟩)] w fun e w'=>(∃ c0 c1 c2 c3,e=.returned (.tuple #[.agg #[c0,c1,c2,c3],.int .i64 0])∧IsRat w' k c0 c1 c2 c3 q)∧Gr w w':=by
 go_enter Tryz.func94,Tryz.ntmps94
 have hB:=Gr.refl w
 refine wp_seq_k (fun K1 k1=>?_)
 refine rg [0,1] ?_
 refine se ?_
 refine ea 36 #[.bool false,.slice none 0 0,.bool false,.slice none 0 0] 2 hB fun b2 w2 g2 L2 o2 q2 hB=>?_
 simp only [p3,p4]
 refine sv 3 (.int .i64 0) ?_
 refine za0 ?_
 refine k1 _ _ ?_
 try clear k1 K1
 refine wp_seq_k (fun K3 k3=>?_)
 refine rg [0,1,2,3,4,5] ?_
 refine sv 4 (.string ⟨(za3 (q):List UInt8).toArray⟩) ?_
 refine se ?_
 refine ec 5 (read_q q hq hk af 400 (by omega) _ (hm.gr hB)) ?_
 rintro e4 w4 ⟨⟨ad,ac,aa,ab,rfl,h4⟩,g4⟩
 refine ⟨_,rfl,?_⟩
 replace hB:=hB.trans g4
 simp only [p3,p4]
 refine sv 6 (.agg #[ad,ac,aa,ab]) ?_
 refine sv 7 (.int .i64 0) ?_
 refine se ?_
 replace L2:=L2.gr g4
 refine es 36 0 (.agg #[ad,ac,aa,ab]) [ad,ac,aa,ab] #[ad,ac,aa,ab] L2 hB q2 ⟨h4.one0,h4.one1,h4.one2,h4.one3,trivial⟩ fun w5 ah ae L2 hB=>?_
 refine sv 3 (.int .i64 0) ?_
 refine za0 ?_
 refine k3 _ _ ?_
 try clear k3 K3
 refine wp_ret ?_
 refine bodyPost_ret (v:=(.tuple #[(.agg #[ad,ac,aa,ab]),.int .i64 0])) (zc0 _ _ _ rfl rfl L2 (by kernel_rfl) rfl) rfl ⟨?_,hB⟩
 replace h4:=h4.kp ae
 exact ⟨_,_,_,_,rfl,h4⟩

set_option maxRecDepth 100000 in
set_option maxHeartbeats 1000000 in
theorem readr_q {k:Nat} (q:Rat) (hq:Sz k q.num∧Sz k (q.den:Int)) (hk:k≤20000) (af:64≤k) (_hlong:((za3 q).length:Int)≤65536) (w:World) (hm:Mx w):
    Calls Tryz.prog 107 #[(.string ⟨(za3 (q):List UInt8).toArray⟩)] w fun e w'=>(∃ c0 c1 c2 c3,e=.returned (.tuple #[.agg #[c0,c1,c2,c3],.int .i64 0])∧IsRat w' k c0 c1 c2 c3 q)∧Gr w w':=by
 go_enter Tryz.func107,Tryz.ntmps107
 have hB:=Gr.refl w
 refine wp_seq_k (fun K1 k1=>?_)
 refine rg [0,1] ?_
 refine se ?_
 refine ea 36 #[.bool false,.slice none 0 0,.bool false,.slice none 0 0] 2 hB fun b2 w2 g2 L2 o2 q2 hB=>?_
 simp only [p3,p4]
 refine sv 3 (.int .i64 0) ?_
 refine za0 ?_
 refine k1 _ _ ?_
 try clear k1 K1
 refine wp_seq_k (fun K3 k3=>?_)
 refine rg [0,1,2,3,4,5] ?_
 refine sv 4 (.string ⟨(za3 (q):List UInt8).toArray⟩) ?_
 refine se ?_
 refine ec 5 (read_q q hq hk af 65536 (by omega) _ (hm.gr hB)) ?_
 rintro e4 w4 ⟨⟨ad,ac,aa,ab,rfl,h4⟩,g4⟩
 refine ⟨_,rfl,?_⟩
 replace hB:=hB.trans g4
 simp only [p3,p4]
 refine sv 6 (.agg #[ad,ac,aa,ab]) ?_
 refine sv 7 (.int .i64 0) ?_
 refine se ?_
 replace L2:=L2.gr g4
 refine es 36 0 (.agg #[ad,ac,aa,ab]) [ad,ac,aa,ab] #[ad,ac,aa,ab] L2 hB q2 ⟨h4.one0,h4.one1,h4.one2,h4.one3,trivial⟩ fun w5 ah ae L2 hB=>?_
 refine sv 3 (.int .i64 0) ?_
 refine za0 ?_
 refine k3 _ _ ?_
 try clear k3 K3
 refine wp_ret ?_
 refine bodyPost_ret (v:=(.tuple #[(.agg #[ad,ac,aa,ab]),.int .i64 0])) (zc0 _ _ _ rfl rfl L2 (by kernel_rfl) rfl) rfl ⟨?_,hB⟩
 replace h4:=h4.kp ae
 exact ⟨_,_,_,_,rfl,h4⟩

set_option maxRecDepth 100000 in
set_option maxHeartbeats 1000000 in
theorem div_a {k m:Nat} {u0 u1 u2 u3 v0 v1 v2 v3:Value} {a b:Rat} {w:World} (ha:IsRat w k u0 u1 u2 u3 a) (hb:IsRat w m v0 v1 v2 v3 b) (_hk:k+m≤100000) (h0:b.num≠0):
    Calls Tryz.prog 58 #[(.agg #[u0,u1,u2,u3]),(.agg #[v0,v1,v2,v3])] w fun e w'=>(∃ c0 c1 c2 c3,e=.returned (.tuple #[.agg #[c0,c1,c2,c3],.int .i64 0])∧IsRat w' (k+m) c0 c1 c2 c3 (a/b))∧Gr w w':=by
 have hka:=ha.big
 have hkb:=hb.big
 have he:(sgn (b).num==(0:Int))=false:=by rw [beq_eq_false_iff_ne];exact fun e=>h0 (zc8.1 e)
 go_enter Tryz.func58,Tryz.ntmps58
 have hB:=Gr.refl w
 refine wp_seq_k (fun K1 k1=>?_)
 refine rg [0,1,2,3] ?_
 refine se ?_
 refine eb 36 #[u0,u1,u2,u3] 2 hB fun b2 w2 g2 L2 o2 q2 hB=>?_
 simp only [p3,p4]
 refine se ?_
 refine eb 36 #[v0,v1,v2,v3] 3 hB fun b3 w3 g3 L3 o3 q3 hB=>?_
 simp only [p3,p4]
 refine se ?_
 refine ea 36 #[.bool false,.slice none 0 0,.bool false,.slice none 0 0] 4 hB fun b4 w4 g4 L4 o4 q4 hB=>?_
 replace L2:=L2.gr g3
 have ai:=L2.ne o4
 have ah:=L3.ne o4
 simp only [p3,p4]
 refine sv 5 (.int .i64 0) ?_
 refine za0 ?_
 refine k1 _ _ ?_
 try clear k1 K1
 refine wp_seq_k (fun K5 k5=>?_)
 refine wp_seq_k (fun K6 k6=>?_)
 refine rg [0,1,2] ?_
 replace L3:=L3.gr g4
 refine sw 6 (.agg #[v0,v1,v2,v3]) rfl (rl 36 0 [v0,v1,v2,v3] L3) ?_
 refine se ?_
 have aB:=g2.kp.trans (g3.kp.trans g4.kp)
 replace hb:=hb.kp aB
 refine ec 7 (zJ0 hb) ?_
 rintro e7 w7 ⟨rfl,g7⟩
 refine ⟨_,rfl,?_⟩
 replace hB:=hB.trans g7
 simp only [p3,p4]
 refine sw 8 (.bool false) rfl (RunV.bool (x:=(sgn (b).num==(0:Int))) (rvk (by kernel_rfl)) he) ?_
 refine za0 ?_
 refine k6 _ _ ?_
 try clear k6 K6
 refine wp_cond_false rfl ?_
 refine wp_skip ?_
 refine k5 _ _ ?_
 try clear k5 K5
 refine wp_seq_k (fun K9 k9=>?_)
 have aa:=Gr.drew w7
 replace hB:=hB.trans aa
 replace L2:=L2.gr (g4.trans (g7.trans aa))
 replace L3:=L3.gr (g7.trans aa)
 refine za2 (fun w'=>Lc w' b2 #[u0,u1,u2,u3] 36∧Lc w' b3 #[v0,v1,v2,v3] 36) [(true,0),(true,1),(true,2),(true,5),(true,7),(true,8),(false,3),(false,4),(false,6),(false,9),(false,10),(false,11),(true,12)] (by kernel_rfl) (by kernel_rfl) (by kernel_rfl) (by decide) (fun _ _ _ _ _ h=>h) ⟨L2,L3⟩ ?_
 refine ov 10 (.pointer (some ⟨b2,0,none⟩)) ?_
 refine ow 11 (.agg #[u0,u1]) rfl (fun w' hS=>(rl 34 0 [u0,u1] hS.1)) ?_
 refine ow 12 (.agg #[v0,v1,v2,v3]) rfl (fun w' hS=>(rl 36 0 [v0,v1,v2,v3] hS.2)) ?_
 refine ow 15 (.agg #[u0,u1,u2,u3]) rfl (fun w' hS=>(rl 36 0 [u0,u1,u2,u3] hS.1)) ?_
 refine ov 17 (.pointer (some ⟨b3,0,none⟩)) ?_
 refine ow 18 (.agg #[v0,v1]) rfl (fun w' hS=>(rl 34 0 [v0,v1] hS.2)) ?_
 refine oe ?_
 have ay:=g7.kp.trans aa.kp
 replace hb:=hb.kp ay
 refine ec 13 (zl5 hb) ?_
 rintro aE aR ⟨⟨aK,aV,rfl,aA⟩,ae⟩
 refine ⟨_,rfl,?_⟩
 replace hB:=hB.trans ae
 replace L2:=L2.gr ae
 replace L3:=L3.gr ae
 refine ⟨⟨L2,L3⟩,?_⟩
 simp only [p3,p4]
 refine oe ?_
 have aw:=g2.kp.trans (g3.kp.trans (g4.kp.trans (g7.kp.trans (aa.kp.trans ae.kp))))
 replace ha:=ha.kp aw
 refine ec 14 (zm9 ha.num aA (by omega)) ?_
 rintro e32 aI ⟨⟨aN,aL,rfl,av⟩,ac⟩
 refine ⟨_,rfl,?_⟩
 replace hB:=hB.trans ac
 replace L2:=L2.gr ac
 replace L3:=L3.gr ac
 refine ⟨⟨L2,L3⟩,?_⟩
 simp only [p3,p4]
 refine oe ?_
 replace ha:=ha.kp ac.kp
 refine ec 16 (zl5 ha) ?_
 rintro aM aG ⟨⟨aH,aS,rfl,aD⟩,ad⟩
 refine ⟨_,rfl,?_⟩
 replace hB:=hB.trans ad
 replace L2:=L2.gr ad
 replace L3:=L3.gr ad
 refine ⟨⟨L2,L3⟩,?_⟩
 simp only [p3,p4]
 refine oe ?_
 have au:=ae.kp.trans (ac.kp.trans ad.kp)
 replace hb:=hb.kp au
 refine ec 19 (zm9 aD hb.num (by omega)) ?_
 rintro aF aU ⟨⟨aO,aQ,rfl,aC⟩,aj⟩
 refine ⟨_,rfl,?_⟩
 replace hB:=hB.trans aj
 replace L2:=L2.gr aj
 replace L3:=L3.gr aj
 refine ⟨⟨L2,L3⟩,?_⟩
 simp only [p3,p4]
 refine oe ?_
 have ax:=ad.kp.trans aj.kp
 replace av:=av.kp ax
 refine ec 20 (yr0 (k+m) av aC (Int.mul_ne_zero (Int.ne_of_gt (Int.natCast_pos.2 a.den_pos)) h0) (by omega) (by omega) (by omega) (by omega)) ?_
 rintro aP aT ⟨⟨al,ap,ak,ar,rfl,ab⟩,aq⟩
 refine ⟨_,rfl,?_⟩
 replace hB:=hB.trans aq
 replace L2:=L2.gr aq
 replace L3:=L3.gr aq
 refine ⟨⟨L2,L3⟩,?_⟩
 simp only [p3,p4]
 refine oe ?_
 replace L4:=L4.gr (g7.trans (aa.trans (ae.trans (ac.trans (ad.trans (aj.trans aq))))))
 refine es 36 0 (.agg #[al,ap,ak,ar]) [al,ap,ak,ar] #[al,ap,ak,ar] L4 hB q4 ⟨ab.one0,ab.one1,ab.one2,ab.one3,trivial⟩ fun aJ af az L4 hB=>?_
 replace L2:=af.lc L2 ai
 replace L3:=af.lc L3 ah
 refine ⟨⟨L2,L3⟩,?_⟩
 refine ov 5 (.int .i64 0) ?_
 refine zb1 ?_
 refine k9 _ _ ?_
 try clear k9 K9
 refine wp_ret ?_
 refine bodyPost_ret (v:=(.tuple #[(.agg #[al,ap,ak,ar]),.int .i64 0])) (zc0 _ _ _ rfl rfl L4 (by kernel_rfl) rfl) rfl ⟨?_,hB⟩
 replace ab:=ab.kp az
 exact ⟨_,_,_,_,rfl,by rw [← zW6];exact ab⟩

set_option maxRecDepth 100000 in
set_option maxHeartbeats 1000000 in
theorem div_0 {k m:Nat} {u0 u1 u2 u3 v0 v1 v2 v3:Value} {a b:Rat} {w:World} (_ha:IsRat w k u0 u1 u2 u3 a) (hb:IsRat w m v0 v1 v2 v3 b) (h0:b.num=0):
    Calls Tryz.prog 58 #[(.agg #[u0,u1,u2,u3]),(.agg #[v0,v1,v2,v3])] w fun e w'=>e=.returned (.tuple #[.agg #[.bool false,.slice none 0 0,.bool false,.slice none 0 0],.int .i64 19])∧Gr w w':=by
 have he:(sgn (b).num==(0:Int))=true:=by rw [h0];rfl
 go_enter Tryz.func58,Tryz.ntmps58
 have hB:=Gr.refl w
 refine wp_seq_k (fun K1 k1=>?_)
 refine rg [0,1,2,3] ?_
 refine se ?_
 refine eb 36 #[u0,u1,u2,u3] 2 hB fun b2 w2 g2 L2 o2 q2 hB=>?_
 simp only [p3,p4]
 refine se ?_
 refine eb 36 #[v0,v1,v2,v3] 3 hB fun b3 w3 g3 L3 o3 q3 hB=>?_
 simp only [p3,p4]
 refine se ?_
 refine ea 36 #[.bool false,.slice none 0 0,.bool false,.slice none 0 0] 4 hB fun b4 w4 g4 L4 o4 q4 hB=>?_
 simp only [p3,p4]
 refine sv 5 (.int .i64 0) ?_
 refine za0 ?_
 refine k1 _ _ ?_
 try clear k1 K1
 refine wp_seq_k (fun K5 k5=>?_)
 refine wp_seq_k (fun K6 k6=>?_)
 refine rg [0,1,2] ?_
 replace L3:=L3.gr g4
 refine sw 6 (.agg #[v0,v1,v2,v3]) rfl (rl 36 0 [v0,v1,v2,v3] L3) ?_
 refine se ?_
 have ac:=g2.kp.trans (g3.kp.trans g4.kp)
 replace hb:=hb.kp ac
 refine ec 7 (zJ0 hb) ?_
 rintro e7 w7 ⟨rfl,g7⟩
 refine ⟨_,rfl,?_⟩
 replace hB:=hB.trans g7
 simp only [p3,p4]
 refine sw 8 (.bool true) rfl (RunV.bool (x:=(sgn (b).num==(0:Int))) (rvk (by kernel_rfl)) he) ?_
 refine za0 ?_
 refine k6 _ _ ?_
 try clear k6 K6
 refine wp_cond_true rfl ?_
 refine wp_seq_k (fun K9 k9=>?_)
 refine rg [0,1,2] ?_
 refine sv 9 (.agg #[.bool false,.slice none 0 0,.bool false,.slice none 0 0]) ?_
 refine se ?_
 replace L4:=L4.gr g7
 refine es 36 0 (.agg #[.bool false,.slice none 0 0,.bool false,.slice none 0 0]) [.bool false,.slice none 0 0,.bool false,.slice none 0 0] #[.bool false,.slice none 0 0,.bool false,.slice none 0 0] L4 hB q4 ⟨rfl,rfl,rfl,rfl,trivial⟩ fun ad aa ab L4 hB=>?_
 refine sv 5 (.int .i64 19) ?_
 refine za0 ?_
 refine k9 _ _ ?_
 try clear k9 K9
 refine wp_ret ?_
 simp only [Exit.then]
 refine bodyPost_ret (v:=(.tuple #[(.agg #[.bool false,.slice none 0 0,.bool false,.slice none 0 0]),.int .i64 19])) (zc0 _ _ _ rfl rfl L4 (by kernel_rfl) rfl) rfl ⟨?_,hB⟩
 exact rfl

set_option maxRecDepth 100000 in
set_option maxHeartbeats 1000000 in
theorem r2_div {k m:Nat} (a b:Rat) (ha:Sz k a.num∧Sz k (a.den:Int)) (hb:Sz m b.num∧Sz m (b.den:Int)) (h0:b.num≠0) (_hk:k+m≤19998) (w:World):
    Calls Tryz.prog 64 #[(.string ⟨(za3 (a):List UInt8).toArray⟩),(.string ⟨(za3 (b):List UInt8).toArray⟩)] w fun e w'=>e=.returned (.string ⟨(za3 (a/b)).toArray⟩)∧Gr w w':=by
 go_enter Tryz.func64,Tryz.ntmps64
 have hB:=Gr.refl w
 refine wp_seq_k (fun K1 k1=>?_)
 refine rg [0] ?_
 refine sv 4 (.string ⟨([]:List UInt8).toArray⟩) ?_
 refine za0 ?_
 refine k1 _ _ ?_
 try clear k1 K1
 refine wp_seq_k (fun K2 k2=>?_)
 refine rg [0,1,2,3,4,5,6] ?_
 refine sv 10 (.string ⟨(za3 (a):List UInt8).toArray⟩) ?_
 refine se ?_
 refine ec 11 (zg4 a ha.1 ha.2 (by omega) _) ?_
 rintro e3 w3 ⟨rfl,g3⟩
 refine ⟨_,rfl,?_⟩
 replace hB:=hB.trans g3
 simp only [p3,p4]
 refine sv 9 (.tuple #[(.string ⟨(Lib.itoa (a.num):List UInt8).toArray⟩),(.string ⟨(Lib.itoa ((a.den:Int)):List UInt8).toArray⟩)]) ?_
 refine sv 12 (.string ⟨(Lib.itoa (a.num):List UInt8).toArray⟩) ?_
 refine sv 13 (.string ⟨(Lib.itoa ((a.den:Int)):List UInt8).toArray⟩) ?_
 refine sv 5 (.string ⟨(Lib.itoa (a.num):List UInt8).toArray⟩) ?_
 refine sv 6 (.string ⟨(Lib.itoa ((a.den:Int)):List UInt8).toArray⟩) ?_
 refine za0 ?_
 refine k2 _ _ ?_
 try clear k2 K2
 refine wp_seq_k (fun K4 k4=>?_)
 refine rg [0,1,2,3,4,5,6] ?_
 refine sv 15 (.string ⟨(za3 (b):List UInt8).toArray⟩) ?_
 refine se ?_
 refine ec 16 (zg4 b hb.1 hb.2 (by omega) _) ?_
 rintro e5 w5 ⟨rfl,g5⟩
 refine ⟨_,rfl,?_⟩
 replace hB:=hB.trans g5
 simp only [p3,p4]
 refine sv 14 (.tuple #[(.string ⟨(Lib.itoa (b.num):List UInt8).toArray⟩),(.string ⟨(Lib.itoa ((b.den:Int)):List UInt8).toArray⟩)]) ?_
 refine sv 17 (.string ⟨(Lib.itoa (b.num):List UInt8).toArray⟩) ?_
 refine sv 18 (.string ⟨(Lib.itoa ((b.den:Int)):List UInt8).toArray⟩) ?_
 refine sv 7 (.string ⟨(Lib.itoa (b.num):List UInt8).toArray⟩) ?_
 refine sv 8 (.string ⟨(Lib.itoa ((b.den:Int)):List UInt8).toArray⟩) ?_
 refine za0 ?_
 refine k4 _ _ ?_
 try clear k4 K4
 refine wp_seq_k (fun K6 k6=>?_)
 refine rg [0,1,2,3,4,5,6,7] ?_
 refine sv 19 (.string ⟨(Lib.itoa (a.num):List UInt8).toArray⟩) ?_
 refine sv 20 (.string ⟨(Lib.itoa ((b.den:Int)):List UInt8).toArray⟩) ?_
 refine se ?_
 refine ec 21 (zF1 (a.num) ((b.den:Int)) ha.1 hb.2 (by omega) _) ?_
 rintro e7 w7 ⟨rfl,g7⟩
 refine ⟨_,rfl,?_⟩
 replace hB:=hB.trans g7
 simp only [p3,p4]
 refine sv 22 (.string ⟨(Lib.itoa ((a.den:Int)):List UInt8).toArray⟩) ?_
 refine sv 23 (.string ⟨(Lib.itoa (b.num):List UInt8).toArray⟩) ?_
 refine se ?_
 refine ec 24 (zF1 ((a.den:Int)) (b.num) ha.2 hb.1 (by omega) _) ?_
 rintro e8 w8 ⟨rfl,g8⟩
 refine ⟨_,rfl,?_⟩
 replace hB:=hB.trans g8
 simp only [p3,p4]
 refine se ?_
 refine ec 25 (yn6 (a.num*(b.den:Int)) ((a.den:Int)*b.num) _ rfl (ha.1.mul hb.2) ((ha.2.mul hb.1).mono (by omega)) (Int.mul_ne_zero (Int.ne_of_gt (zo4 a)) h0) (by omega) _) ?_
 rintro e9 w9 ⟨rfl,g9⟩
 refine ⟨_,rfl,?_⟩
 replace hB:=hB.trans g9
 simp only [p3,p4]
 refine sv 4 (.string ⟨(za3 (Rat.divInt (a.num*(b.den:Int)) ((a.den:Int)*b.num)):List UInt8).toArray⟩) ?_
 refine za0 ?_
 refine k6 _ _ ?_
 try clear k6 K6
 refine wp_ret ?_
 refine bodyPost_ret (v:=(.string ⟨(za3 (Rat.divInt (a.num*(b.den:Int)) ((a.den:Int)*b.num)):List UInt8).toArray⟩)) (za7 rfl rfl) rfl ⟨?_,hB⟩
 exact (by rw [zW6])

set_option maxRecDepth 100000 in
set_option maxHeartbeats 1000000 in
theorem ya5 {k:Nat} {ak ac ap ab ah al ae ad af aa ai aj:Value} {a1 a2 a3:Rat} {w:World} (aq:IsRat w k ak ac ap ab a1) (au:IsRat w k ah al ae ad a2) (ar:IsRat w k af aa ai aj a3) (_hk:k≤25000) (ht:Tab w):
    Calls Tryz.prog 44 #[(.agg #[ak,ac,ap,ab,ah,al,ae,ad,af,aa,ai,aj])] w fun e w'=>e=.returned (.agg #[.string ⟨(za3 (a1)).toArray⟩,.string ⟨(za3 (a2)).toArray⟩,.string ⟨(za3 (a3)).toArray⟩])∧Gr w w':=by
 go_enter Tryz.func44,Tryz.ntmps44
 have hB:=Gr.refl w
 refine wp_seq_k (fun K1 k1=>?_)
 refine rg [0,1] ?_
 refine se ?_
 refine eb 38 #[ak,ac,ap,ab,ah,al,ae,ad,af,aa,ai,aj] 1 hB fun b2 w2 g2 L2 o2 q2 hB=>?_
 simp only [p3,p4]
 refine se ?_
 refine ea 25 #[(.string ⟨([]:List UInt8).toArray⟩),(.string ⟨([]:List UInt8).toArray⟩),(.string ⟨([]:List UInt8).toArray⟩)] 2 hB fun b3 w3 g3 L3 o3 q3 hB=>?_
 simp only [p3,p4]
 refine za0 ?_
 refine k1 _ _ ?_
 try clear k1 K1
 refine wp_seq_k (fun K4 k4=>?_)
 refine rg [0] ?_
 refine se ?_
 refine ea 25 #[(.string ⟨([]:List UInt8).toArray⟩),(.string ⟨([]:List UInt8).toArray⟩),(.string ⟨([]:List UInt8).toArray⟩)] 3 hB fun b5 w5 g5 L5 o5 q5 hB=>?_
 replace L2:=L2.gr g3
 have av:=L3.ne o5
 simp only [p3,p4]
 refine za0 ?_
 refine k4 _ _ ?_
 try clear k4 K4
 refine wp_seq_k (fun K6 k6=>?_)
 refine wp_seq_k (fun K7 k7=>?_)
 refine rg [0,1] ?_
 replace L2:=L2.gr g5
 refine sw 6 (.agg #[ak,ac,ap,ab,ah,al,ae,ad,af,aa,ai,aj]) rfl (rl 38 0 [ak,ac,ap,ab,ah,al,ae,ad,af,aa,ai,aj] L2) ?_
 refine sv 7 (.int .i64 0) ?_
 refine za0 ?_
 refine k7 _ _ ?_
 try clear k7 K7
 refine wp_block ?_
 refine wp_loop_rounds 4 ?_
 show Code.wp _ _ _ _ _
 refine wp_seq_k (fun K8 k8=>?_)
 refine rg [0] ?_
 refine sv 8 (.bool true) ?_
 refine za0 ?_
 refine k8 _ _ ?_
 try clear k8 K8
 refine wp_seq_k (fun K9 k9=>?_)
 refine wp_cond_true rfl ?_
 refine wp_skip ?_
 refine k9 _ _ ?_
 try clear k9 K9
 refine wp_seq_k (fun bu bc=>?_)
 refine wp_block ?_
 refine wp_seq_k (fun bA a0=>?_)
 refine rg [0,1,2,3,4] ?_
 refine sv 9 (.int .i64 0) ?_
 refine sv 10 (.agg #[ak,ac,ap,ab]) ?_
 refine se ?_
 refine ea 36 #[.bool false,.slice none 0 0,.bool false,.slice none 0 0] 5 hB fun bR bJ aH aR a6 q12 hB=>?_
 replace L3:=L3.gr g5
 have ax:=L3.ne a6
 have aC:=L5.ne a6
 simp only [p3,p4]
 refine sv 4 (.int .i64 0) ?_
 refine se ?_
 refine es 36 0 (.agg #[ak,ac,ap,ab]) [ak,ac,ap,ab] #[ak,ac,ap,ab] aR hB q12 ⟨aq.one0,aq.one1,aq.one2,aq.one3,trivial⟩ fun bP aF aA aR hB=>?_
 refine za0 ?_
 refine a0 _ _ ?_
 try clear a0 bA
 refine rg [0,1,2,3,4] ?_
 refine sv 11 (.int .i64 0) ?_
 refine sw 12 (.agg #[ak,ac,ap,ab]) rfl (rl 36 0 [ak,ac,ap,ab] aR) ?_
 refine se ?_
 have aY:=g2.kp.trans (g3.kp.trans (g5.kp.trans (aH.kp.trans aA)))
 replace aq:=aq.kp aY
 refine ec 13 (zA9 aq (by omega) (ht.gr hB)) ?_
 rintro bE bD ⟨rfl,aE⟩
 refine ⟨_,rfl,?_⟩
 replace hB:=hB.trans aE
 simp only [p3,p4]
 refine sv 14 (.pointer (some ⟨b5,0,none⟩)) ?_
 refine se ?_
 replace L5:=(aF.lc (L5.gr aH) aC).gr aE
 refine es 23 0 (.string ⟨(za3 (a1):List UInt8).toArray⟩) [(.string ⟨(za3 (a1):List UInt8).toArray⟩)] #[(.string ⟨(za3 (a1):List UInt8).toArray⟩),(.string ⟨([]:List UInt8).toArray⟩),(.string ⟨([]:List UInt8).toArray⟩)] L5 hB q5 ⟨rfl,trivial⟩ fun bL aN aD L5 hB=>?_
 refine za0 ?_
 refine bc _ _ ?_
 try clear bc bu
 refine rg [0,1] ?_
 refine sv 15 (.int .i64 1) ?_
 refine sv 7 (.int .i64 1) ?_
 refine za0 ?_
 show Code.rounds _ _ _ _ _ _
 show Code.wp _ _ _ _ _
 refine wp_seq_k (fun bC a5=>?_)
 refine rg [0] ?_
 refine sv 8 (.bool true) ?_
 refine za0 ?_
 refine a5 _ _ ?_
 try clear a5 bC
 refine wp_seq_k (fun bk aZ=>?_)
 refine wp_cond_true rfl ?_
 refine wp_skip ?_
 refine aZ _ _ ?_
 try clear aZ bk
 refine wp_seq_k (fun bq a9=>?_)
 refine wp_block ?_
 refine wp_seq_k (fun bv bg=>?_)
 refine rg [0,1,2,3,4] ?_
 refine sv 9 (.int .i64 1) ?_
 refine sv 10 (.agg #[ah,al,ae,ad]) ?_
 refine se ?_
 refine ea 36 #[.bool false,.slice none 0 0,.bool false,.slice none 0 0] 5 hB fun bH bU aK aM bd bz hB=>?_
 replace L3:=aN.lc ((aF.lc (L3.gr aH) ax).gr aE) av
 have aB:=L3.ne bd
 have az:=L5.ne bd
 simp only [p3,p4]
 refine sv 4 (.int .i64 1) ?_
 refine se ?_
 refine es 36 0 (.agg #[ah,al,ae,ad]) [ah,al,ae,ad] #[ah,al,ae,ad] aM hB bz ⟨au.one0,au.one1,au.one2,au.one3,trivial⟩ fun bG aJ aI aM hB=>?_
 refine za0 ?_
 refine bg _ _ ?_
 try clear bg bv
 refine rg [0,1,2,3,4] ?_
 refine sv 11 (.int .i64 1) ?_
 refine sw 12 (.agg #[ah,al,ae,ad]) rfl (rl 36 0 [ah,al,ae,ad] aM) ?_
 refine se ?_
 have aO:=g2.kp.trans (g3.kp.trans (g5.kp.trans (aH.kp.trans (aA.trans (aE.kp.trans (aD.trans (aK.kp.trans aI)))))))
 replace au:=au.kp aO
 refine ec 13 (zA9 au (by omega) (ht.gr hB)) ?_
 rintro e23 bM ⟨rfl,aL⟩
 refine ⟨_,rfl,?_⟩
 replace hB:=hB.trans aL
 simp only [p3,p4]
 refine sv 14 (.pointer (some ⟨b5,1,none⟩)) ?_
 refine se ?_
 replace L5:=(aJ.lc (L5.gr aK) az).gr aL
 refine es 23 1 (.string ⟨(za3 (a2):List UInt8).toArray⟩) [(.string ⟨(za3 (a2):List UInt8).toArray⟩)] #[(.string ⟨(za3 (a1):List UInt8).toArray⟩),(.string ⟨(za3 (a2):List UInt8).toArray⟩),(.string ⟨([]:List UInt8).toArray⟩)] L5 hB q5 ⟨rfl,trivial⟩ fun bS aX aW L5 hB=>?_
 refine za0 ?_
 refine a9 _ _ ?_
 try clear a9 bq
 refine rg [0,1] ?_
 refine sv 15 (.int .i64 2) ?_
 refine sv 7 (.int .i64 2) ?_
 refine za0 ?_
 show Code.rounds _ _ _ _ _ _
 show Code.wp _ _ _ _ _
 refine wp_seq_k (fun bn bh=>?_)
 refine rg [0] ?_
 refine sv 8 (.bool true) ?_
 refine za0 ?_
 refine bh _ _ ?_
 try clear bh bn
 refine wp_seq_k (fun bx bb=>?_)
 refine wp_cond_true rfl ?_
 refine wp_skip ?_
 refine bb _ _ ?_
 try clear bb bx
 refine wp_seq_k (fun bt a7=>?_)
 refine wp_block ?_
 refine wp_seq_k (fun bm a4=>?_)
 refine rg [0,1,2,3,4] ?_
 refine sv 9 (.int .i64 2) ?_
 refine sv 10 (.agg #[af,aa,ai,aj]) ?_
 refine se ?_
 refine ea 36 #[.bool false,.slice none 0 0,.bool false,.slice none 0 0] 5 hB fun bV bN aS aU ba bo hB=>?_
 replace L3:=aX.lc ((aJ.lc (L3.gr aK) aB).gr aL) av
 have ay:=L3.ne ba
 have aw:=L5.ne ba
 simp only [p3,p4]
 refine sv 4 (.int .i64 2) ?_
 refine se ?_
 refine es 36 0 (.agg #[af,aa,ai,aj]) [af,aa,ai,aj] #[af,aa,ai,aj] aU hB bo ⟨ar.one0,ar.one1,ar.one2,ar.one3,trivial⟩ fun bT aG aT aU hB=>?_
 refine za0 ?_
 refine a4 _ _ ?_
 try clear a4 bm
 refine rg [0,1,2,3,4] ?_
 refine sv 11 (.int .i64 2) ?_
 refine sw 12 (.agg #[af,aa,ai,aj]) rfl (rl 36 0 [af,aa,ai,aj] aU) ?_
 refine se ?_
 have aV:=g2.kp.trans (g3.kp.trans (g5.kp.trans (aH.kp.trans (aA.trans (aE.kp.trans (aD.trans (aK.kp.trans (aI.trans (aL.kp.trans (aW.trans (aS.kp.trans aT)))))))))))
 replace ar:=ar.kp aV
 refine ec 13 (zA9 ar (by omega) (ht.gr hB)) ?_
 rintro e32 bK ⟨rfl,aQ⟩
 refine ⟨_,rfl,?_⟩
 replace hB:=hB.trans aQ
 simp only [p3,p4]
 refine sv 14 (.pointer (some ⟨b5,2,none⟩)) ?_
 refine se ?_
 replace L5:=(aG.lc (L5.gr aS) aw).gr aQ
 refine es 23 2 (.string ⟨(za3 (a3):List UInt8).toArray⟩) [(.string ⟨(za3 (a3):List UInt8).toArray⟩)] #[(.string ⟨(za3 (a1):List UInt8).toArray⟩),(.string ⟨(za3 (a2):List UInt8).toArray⟩),(.string ⟨(za3 (a3):List UInt8).toArray⟩)] L5 hB q5 ⟨rfl,trivial⟩ fun bF aP bw L5 hB=>?_
 refine za0 ?_
 refine a7 _ _ ?_
 try clear a7 bt
 refine rg [0,1] ?_
 refine sv 15 (.int .i64 3) ?_
 refine sv 7 (.int .i64 3) ?_
 refine za0 ?_
 show Code.rounds _ _ _ _ _ _
 show Code.wp _ _ _ _ _
 refine wp_seq_k (fun bB a8=>?_)
 refine rg [0] ?_
 refine sv 8 (.bool false) ?_
 refine za0 ?_
 refine a8 _ _ ?_
 try clear a8 bB
 refine wp_seq_k (fun bW bO=>?_)
 refine wp_cond_false rfl ?_
 refine wp_exit ?_
 simp only [Exit.then,Exit.inBlock,↓reduceIte]
 refine k6 _ _ ?_
 try clear k6 K6
 refine wp_seq_k (fun bj bf=>?_)
 refine rg [0,1] ?_
 refine sw 16 (.agg #[(.string ⟨(za3 (a1):List UInt8).toArray⟩),(.string ⟨(za3 (a2):List UInt8).toArray⟩),(.string ⟨(za3 (a3):List UInt8).toArray⟩)]) rfl (rl 25 0 [(.string ⟨(za3 (a1):List UInt8).toArray⟩),(.string ⟨(za3 (a2):List UInt8).toArray⟩),(.string ⟨(za3 (a3):List UInt8).toArray⟩)] L5) ?_
 refine se ?_
 replace L3:=aP.lc ((aG.lc (L3.gr aS) ay).gr aQ) av
 refine es 25 0 (.agg #[(.string ⟨(za3 (a1):List UInt8).toArray⟩),(.string ⟨(za3 (a2):List UInt8).toArray⟩),(.string ⟨(za3 (a3):List UInt8).toArray⟩)]) [(.string ⟨(za3 (a1):List UInt8).toArray⟩),(.string ⟨(za3 (a2):List UInt8).toArray⟩),(.string ⟨(za3 (a3):List UInt8).toArray⟩)] #[(.string ⟨(za3 (a1):List UInt8).toArray⟩),(.string ⟨(za3 (a2):List UInt8).toArray⟩),(.string ⟨(za3 (a3):List UInt8).toArray⟩)] L3 hB q3 ⟨rfl,rfl,rfl,trivial⟩ fun bQ bp bi L3 hB=>?_
 refine za0 ?_
 refine bf _ _ ?_
 try clear bf bj
 refine wp_ret ?_
 refine bodyPost_ret (v:=(.agg #[(.string ⟨(za3 (a1):List UInt8).toArray⟩),(.string ⟨(za3 (a2):List UInt8).toArray⟩),(.string ⟨(za3 (a3):List UInt8).toArray⟩)])) (zb0 _ _ _ rfl rfl L3 (by kernel_rfl)) rfl ⟨?_,hB⟩
 exact rfl

set_option maxRecDepth 10000 in
set_option maxHeartbeats 4000000 in
theorem yq4 (n:Int) (h0:0≤n) (h1:n≤9223372036854775807) (w:World):
  Calls Tryz.prog 102 #[.int .i64 n] w fun e w'=>e=.returned (.string ⟨(Lib.itoa n).toArray⟩)∧Gr w w':=by
 obtain ⟨len,hnx⟩:=NX.exists n.toNat
 have hl:len≤64:=hnx.len_bits (k:=63) (by omega)
 rw [show ((n.toNat:Nat):Int)=n by omega] at hnx
 go_enter Tryz.func102,Tryz.ntmps102
 go_wp2
 go_loopw [3,4] (fun d m wr=>∃ (k:Nat) (v:Value) (M:Int),d=v∧m=.int .i64 M∧0≤M∧M≤9223372036854775807∧k≤len∧Hid (M=tn n k∧OwnS wr 3 w.heap.size v (zi8 .i64 k (td n)))∧Below w.heap.size w wr) (fun _ m _=>(intOf m).toNat)
 case atStart=>exact ⟨0,_,n,rfl,rfl,h0,h1,Nat.zero_le _,⟨rfl,OwnS.nil _ _ _⟩,Below.refl _ _⟩
 case round=>
  obtain ⟨k,v,M,rfl,rfl,m0,m1,hk,hz,hB⟩:=hrel
  by_cases hp:0<M
  ·have hne:(M !=0)=true:=by simp;omega
   have hkl:k<len:=by
    rcases Nat.lt_or_ge k len with h | h
    ·exact h
    ·have:=zy7 hnx.top h
     have:=hz.out.1
     omega
   have d0:0≤M % 10:=by omega
   go_wp2_with (at_builtin;refine zb9 rfl (.tmp 17) (.tmp 19) _ (by rfl) 3 w.heap.size _ _ _ (by rfl) (hz.out.2.gr (Gr.alloc _ _)) _ _ _ (by rfl) (heap_alloc_new _ _) rfl w (hB.alloc hB.size _) (by rw [zb3];omega) 8 (by decide) Tryz.underlying175 ze4 rfl (by have:=hB.size;simp;omega) ?_)
   intro v1 w1 hown aa _ _
   go_wp2
   go_roundw
   case rel=>
    refine ⟨k+1,_,M/10,rfl,rfl,by omega,by omega,hkl,⟨by rw [zd1,hz.out.1],?_⟩,aa⟩
    rw [zd2,show td n k=M % 10 by unfold td;rw [hz.out.1]]
    exact hown
   case measure=>simp [intOf];omega
  ·have hM:M=0:=by omega
   subst hM
   obtain ⟨ao,cap,rfl,hcap,_,hrow⟩:=hz.out.2.drow
   have hx:tn ((n.toNat:Nat):Int) k=0:=by rw [show ((n.toNat:Nat):Int)=n by omega];exact hz.out.1.symm
   have hrow':DRow wr ao k (td ((n.toNat:Nat):Int)):=by rw [show ((n.toNat:Nat):Int)=n by omega];exact hrow
   have ab:¬ n<0:=by omega
   have htx:=zN0 false ao k cap n.toNat wr (by omega) hcap hx hrow'
   rw [ze8 (z:=n) (.inr ⟨rfl,by omega⟩)] at htx
   clear hx hrow hrow'
   go_wp2_with fail
   (with_reducible refine htx.mono ?_)
   rintro e w2 ⟨rfl,g2⟩
   clear htx
   go_wp2
   go_ret
   exact ⟨rfl,Below.trans hB (Below.mono g2 hB.size)⟩
set_option maxRecDepth 10000 in
set_option maxHeartbeats 4000000 in
theorem yq5 (n:Int) (h0:n<0) (h1:-9223372036854775808≤n) (w:World):
  Calls Tryz.prog 102 #[.int .i64 n] w fun e w'=>e=.returned (.string ⟨(Lib.itoa n).toArray⟩)∧Gr w w':=by
 obtain ⟨len,hnx⟩:=NX.exists n.natAbs
 have hl:len≤65:=hnx.len_bits (k:=64) (by omega)
 go_enter Tryz.func102,Tryz.ntmps102
 go_wp2
 go_loopw [3,4] (fun d m wr=>∃ (k:Nat) (v:Value) (M:Int),d=v∧m=.int .i64 M∧M≤0∧-9223372036854775808≤M∧k≤len∧Hid (-M=tn (n.natAbs:Int) k∧OwnS wr 3 w.heap.size v (zi8 .i64 k (td (n.natAbs:Int))))∧Below w.heap.size w wr) (fun _ m _=>(-intOf m).toNat)
 case atStart=>exact ⟨0,_,n,rfl,rfl,by omega,h1,Nat.zero_le _,⟨by rw [zg5];omega,OwnS.nil _ _ _⟩,Below.refl _ _⟩
 case round=>
  obtain ⟨k,v,M,rfl,rfl,m0,m1,hk,hz,hB⟩:=hrel
  by_cases hp:M<0
  ·have hne:(M !=0)=true:=by simp;omega
   have hkl:k<len:=by
    rcases Nat.lt_or_ge k len with h | h
    ·exact h
    ·have:=zy7 hnx.top h
     have:=hz.out.1
     omega
   obtain ⟨A,hA⟩:∃ A:Int,A=-M:=⟨_,rfl⟩
   have htm:M.tmod 10=-(A % 10):=by
    rw [hA,show M=-(-M) by omega,Int.neg_tmod,Int.tmod_eq_emod_of_nonneg (by omega),Int.neg_neg]
   have htd:M.tdiv 10=-(A/10):=by
    rw [hA,show M=-(-M) by omega,Int.neg_tdiv,Int.tdiv_eq_ediv_of_nonneg (by omega),Int.neg_neg]
   have d0:0≤A % 10:=by omega
   have d1:A % 10<10:=by omega
   have d2:0≤A/10:=by omega
   have d3:A/10≤9223372036854775807:=by omega
   have HA:=Lib.hid hA
   clear hA
   by_cases hx:A % 10=0
   ·have hxx:¬ -(A % 10)<0:=by omega
    go_wp2_with (at_builtin;refine zb9 rfl (.tmp 17) (.tmp 19) _ (by rfl) 3 w.heap.size _ _ _ (by rfl) (hz.out.2.gr (Gr.alloc _ _)) _ _ _ (by rfl) (heap_alloc_new _ _) rfl w (hB.alloc hB.size _) (by rw [zb3];omega) 8 (by decide) Tryz.underlying175 ze4 rfl (by have:=hB.size;simp;omega) ?_)
    intro v1 w1 hown aa _ _
    go_wp2
    go_roundw
    case rel=>
     refine ⟨k+1,_,-(A/10),rfl,rfl,by omega,by omega,hkl,⟨by rw [zd1,← hz.out.1,HA.out];omega,?_⟩,aa⟩
     rw [zd2,show td (n.natAbs:Int) k=0 by unfold td;rw [← hz.out.1,← HA.out];exact hx]
     exact hown
    case measure=>simp [intOf];have:=HA.out;omega
   ·have hxx:-(A % 10)<0:=by omega
    go_wp2_with (at_builtin;refine zb9 rfl (.tmp 17) (.tmp 19) _ (by rfl) 3 w.heap.size _ _ _ (by rfl) (hz.out.2.gr (Gr.alloc _ _)) _ _ _ (by rfl) (heap_alloc_new _ _) rfl w (hB.alloc hB.size _) (by rw [zb3];omega) 8 (by decide) Tryz.underlying175 ze4 rfl (by have:=hB.size;simp;omega) ?_)
    intro v1 w1 hown aa _ _
    go_wp2
    go_roundw
    case rel=>
     refine ⟨k+1,_,-(A/10),rfl,rfl,by omega,by omega,hkl,⟨by rw [zd1,← hz.out.1,HA.out];omega,?_⟩,aa⟩
     rw [zd2,show td (n.natAbs:Int) k=A % 10 by unfold td;rw [← hz.out.1,← HA.out]]
     exact hown
    case measure=>simp [intOf];have:=HA.out;omega
  ·have hM:M=0:=by omega
   subst hM
   obtain ⟨ao,cap,rfl,hcap,_,hrow⟩:=hz.out.2.drow
   have hx:tn (n.natAbs:Int) k=0:=by have:=hz.out.1;omega
   have htx:=zN0 true ao k cap n.natAbs wr (by omega) hcap hx hrow
   rw [ze8 (z:=n) (.inl ⟨rfl,by omega⟩)] at htx
   clear hx hrow
   go_wp2_with fail
   (with_reducible refine htx.mono ?_)
   rintro e w2 ⟨rfl,g2⟩
   clear htx
   go_wp2
   go_ret
   exact ⟨rfl,Below.trans hB (Below.mono g2 hB.size)⟩
theorem r1_from (n:Int) (h0:-9223372036854775808≤n) (h1:n≤9223372036854775807) (w:World):
  Calls Tryz.prog 102 #[.int .i64 n] w fun e w'=>e=.returned (.string ⟨(Lib.itoa n).toArray⟩)∧Gr w w':=by
 rcases Int.lt_or_le n 0 with h | h
 ·exact yq5 n h h0 w
 ·exact yq4 n h h1 w
section
variable {P:Program} {ops:Array Oper} {Q:Exit→Act→World→Prop} {S0:World→Prop} {HS:List (List Nat × (World→Prop))}
end
end Go.Proofs.YtaldbfflkpgfoaaGreatDoor
