/- Joined of: Gen173, Lq, Gen176, Scale, Pa1, Pa2, Rd1, Rd2, Gen34, Rd3, Gen36, Gen33, Ok2, Gen177, Lr, Ls, Gen180, Gen178, Gen179, Gen174, Gen175. -/
import Derived.Test.YtepgkcimmdmgcaaGreatDoorPartF
import Derived.Test.YtepgkcimmdmgcaaGreatDoorPartA
import Derived.Test.YtepgkcimmdmgcaaGreatDoorPartD
import Derived.Lib.SmallJoins
import Derived.Laws.RangeString
import Derived.Test.YtepgkcimmdmgcaaGreatDoorPartB
import Derived.Shelf.Strings.SlTrimAscii
namespace Go.Proofs.YtepgkcimmdmgcaaGreatDoor
open Go.RowKit

/-- whatever the number of columns of a matrix without rows -/
theorem f5_reduceW {K R D:Nat} {v:Value} {m:Mx_} (hR2:R≤1000) (hN2:D≤1000) (hK:4*K≤19990) (hz:∀ k i,k<D→Fd R m k i→∀ a,a<R→∀ b,b<D→RZ K K ((rs R m k).m a b)) {w:World} (hs:Sl (ERw EFr 84 2) 51 1 w v (tb (fun z0=>tb (fun z1=>(m z0 z1)) D) R)):
    Calls Tryz.prog 17 #[v] w fun e w'=>(∃ u v,e=.returned (.tuple #[u,v])∧Sl (ERw EFr 84 2) 51 1 w' u (tb (fun z0=>tb (fun z1=>((rs R m D).m z0 z1)) D) (pl R m D))∧Sl EI64 3 1 w' v (tb (fun z1=>((pv (rs R m D) z1:Nat):Int)) (pl R m D)))∧Gr w w':=by
  by_cases h0:R=0
  · have hs0:Sl (ERw EFr 84 2) 51 1 w v (tb (fun z0=>tb (fun z1=>(m z0 z1)) 0) R):=by
      rw [h0] at hs ⊢;exact hs
    have:=f5_reduce (K:=K) (fun _=>rfl) hR2 (Nat.zero_le _) hK (fun k i h=>absurd h (Nat.not_lt_zero k)) hs0
    have e1:pl R m 0=0:=rs_zero h0
    have e2:pl R m D=0:=rs_zero h0
    rw [e1] at this;rw [e2];exact this
  · exact f5_reduce (fun h=>absurd h h0) hR2 hN2 hK hz hs
set_option maxRecDepth 100000 in
set_option maxHeartbeats 1000000 in
theorem f5_kernel {K L R D:Nat} {v:Value} {m:Mx_} (_hR2:R≤1000) (_hN2:D≤1000) (hK:4*K≤19990) (hz:∀ k i,k<D→Fd R m k i→∀ a,a<R→∀ b,b<D→RZ K K ((rs R m k).m a b)) (hzn:∀ a,a<R→∀ b,b<D→RZ L L ((rs R m D).m a b)) (_hL:L≤19990) {w:World} (hs:Sl (ERw EFr 84 2) 51 1 w v (tb (fun z0=>tb (fun z1=>(m z0 z1)) D) R)):
    Calls Tryz.prog 21 #[v,(.int .i64 ((D:Int)))] w fun e w'=>(∃ u,e=.returned u∧Sl (ERw EFr 84 2) 51 1 w' u (tb (fun z0=>tb (fun z1=>kv (rs R m D) (frc R m D D z0) z1) D) (nfr R m D D)))∧Gr w w':=by
 go_enter Tryz.func21,Tryz.ntmps21
 have hB:=Gr.refl w
 refine wp_seq_k (fun K10 k10=>?_)
 refine rg [0] ?_
 refine sv 4 (.slice none 0 0) ?_
 refine sq_nil ?_
 refine k10 _ _ ?_
 try clear k10 K10
 refine wp_seq_k (fun K11 k11=>?_)
 refine rg [0,1,2,3,4,5,6] ?_
 refine sv 13 v ?_
 refine se ?_
 have hlen12:=rs_len R m D
 have hple12:=rs_ple R m D
 refine ec 14 (f5_reduceW (by omega) (by omega) hK hz (hs.gr (stab_rw stab_fr 84 2) hB)) ?_
 rintro e12 w12 ⟨⟨u12,v12,rfl,hs12,hp12⟩,g12⟩
 refine ⟨_,rfl,?_⟩
 replace hB:=hB.trans g12
 have lehc12:=Below.size hB
 have hc12:=Gr.refl w12
 simp only [p3,p4]
 refine sv 12 (.tuple #[u12,v12]) ?_
 refine sv 15 u12 ?_
 refine sv 16 v12 ?_
 refine sv 5 u12 ?_
 refine sv 6 v12 ?_
 refine sq_nil ?_
 refine k11 _ _ ?_
 try clear k11 K11
 refine wp_seq_k (fun K13 k13=>?_)
 refine rg [0] ?_
 refine sv 7 (.slice none 0 0) ?_
 refine sq_nil ?_
 refine k13 _ _ ?_
 try clear k13 K13
 refine wp_seq_k (fun K14 k14=>?_)
 refine wp_seq_k (fun K15 k15=>?_)
 refine rg [0] ?_
 refine sv 8 (.int .i64 0) ?_
 refine sq_nil ?_
 refine k15 _ _ ?_
 try clear k15 K15
 refine wp_block ?_
 refine wp_loop_inv (a:=⟨List.toArray ?l16,[]⟩) (fun n a w'=>∃ (f:Nat) (vo:Value) (u16:Nat→Value),D - f=n∧a=⟨[v,(.int .i64 ((D:Int))),undef,undef,(.slice none 0 0),u12,v12,vo,(.int .i64 ((f:Int))),(u16 9),(u16 10),(u16 11),(u16 12),(u16 13),(u16 14),(u16 15),(u16 16),(u16 17),(u16 18),(u16 19),(u16 20),(u16 21),(u16 22),(u16 23),(u16 24),(u16 25),(u16 26),(u16 27),(u16 28),(u16 29),(u16 30),(u16 31),(u16 32),(u16 33),(u16 34),(u16 35),(u16 36),(u16 37),(u16 38),(u16 39),(u16 40),(u16 41),(u16 42),(u16 43),(u16 44),(u16 45),(u16 46),(u16 47),(u16 48),(u16 49),(u16 50),(u16 51),(u16 52),(u16 53),(u16 54),(u16 55),(u16 56),(u16 57),(u16 58),(u16 59),(u16 60),undef].toArray,[]⟩∧f≤D∧Ow (ERw EFr 84 2) 51 1 w' w12.heap.size vo (tb (fun z0=>tb (fun z1=>kv (rs R m D) (frc R m D f z0) z1) D) (nfr R m D f))∧Gr w12 w'∧Gr w w') (D - 0) ?_ ?_
 ·exact ⟨0,(.slice none 0 0),(fun i=>List.getD ?l16 i undef),rfl,rfl,(Nat.zero_le _),(Ow.nil _ _ _ _ _),hc12,hB⟩
 rintro n16 a16 w16 ⟨f,vo,u16,rfl,rfl,hkf,oo,hc12,hB⟩ K16 k16
 have lehC:=Below.size hB
 have lehC_hc12:=Below.size hc12
 have hC:=Gr.refl w16
 refine wp_seq_k (fun K17 k17=>?_)
 refine wp_seq_k (fun K18 k18=>?_)
 refine rg [0,1,2] ?_
 refine sv 17 (.int .i64 ((f:Int))) ?_
 refine sv 18 (.int .i64 ((D:Int))) ?_
 refine sv 19 (.bool (decide ((f:Int)<(D:Int)))) ?_
 refine sq_nil ?_
 refine k18 _ _ ?_
 try clear k18 K18
 refine wp_cond_split (t:=decide ((f:Int)<(D:Int))) rfl (fun hb19=>?_) (fun hb19=>?_)
 ·have hlf:f<D:=by have:=of_decide_eq_true hb19;omega
  have hnf:=nfr_le R m D f
  refine wp_skip ?_
  refine k17 _ _ ?_
  try clear k17 K17
  refine wp_seq_k (fun K20 k20=>?_)
  refine wp_block ?_
  refine wp_seq_k (fun K21 k21=>?_)
  refine wp_seq_k (fun K22 k22=>?_)
  refine rg [0,1,2,3] ?_
  refine sv 22 v12 ?_
  refine sv 23 (.int .i64 ((f:Int))) ?_
  refine se ?_
  rcases Bool.eq_false_or_eq_true (hasI (fun z1=>((pv (rs R m D) z1:Nat):Int)) (pl R m D) (f:Int)) with hb23 | hb23
  ·have hip:isP R m D f=true:=hb23
   refine ec 24 (f5_at_yes (P:=(fun z1=>((pv (rs R m D) z1:Nat):Int))) (z:=(f:Int)) hb23 (by omega) (hp12.gr stab_i64 hc12)) ?_
   rintro e24 w24 ⟨⟨tt24,rfl,htt24,hee24⟩,g24⟩
   refine ⟨_,rfl,?_⟩
   replace hB:=hB.trans g24
   replace hc12:=hc12.trans g24
   replace hC:=hC.trans g24
   simp only [p3,p4]
   have hb25:(decide ((0:Int)≤(tt24:Int)))=true:=(by simp)
   refine sw 25 (.bool true) rfl (RunV.bool (x:=decide ((0:Int)≤(tt24:Int))) (rvk (by kernel_rfl)) hb25) ?_
   refine sq_nil ?_
   refine k22 _ _ ?_
   try clear k22 K22
   refine wp_cond_true rfl ?_
   refine wp_exit ?_
   simp only [Exit.then,Exit.inBlock,↓reduceIte]
   refine k20 _ _ ?_
   try clear k20 K20
   refine rg [0,1,2] ?_
   refine sv 20 (.int .i64 ((f:Int))) ?_
   refine sw 21 (.int .i64 (((f:Int)+1))) rfl (RunV.int (x:=IntKind.i64.wrap (((f:Int)+1))) (y:=((f:Int)+1)) (rvk (by kernel_rfl)) (by first | rfl | (rw [IntKind.wrap_i64];omega))) ?_
   refine sv 8 (.int .i64 (((f:Int)+1))) ?_
   refine sq_nil ?_
   refine k16 (D - (f+1)) ⟨List.toArray ?l26,[]⟩ _ (by omega) ?_
   exact ⟨f+1,vo,(fun i=>List.getD ?l26 i undef),rfl,rfl,(by omega),((oo.gr (stab_rw stab_fr 84 2) hC).cast (fr_yes hip)),hc12,hB⟩
  ·have hip:isP R m D f=false:=hb23
   refine ec 24 (f5_at_no (P:=(fun z1=>((pv (rs R m D) z1:Nat):Int))) (z:=(f:Int)) hb23 (by omega) (hp12.gr stab_i64 hc12)) ?_
   rintro e27 w27 ⟨rfl,g27⟩
   refine ⟨_,rfl,?_⟩
   replace hB:=hB.trans g27
   replace hc12:=hc12.trans g27
   replace hC:=hC.trans g27
   simp only [p3,p4]
   refine sv 25 (.bool false) ?_
   refine sq_nil ?_
   refine k22 _ _ ?_
   try clear k22 K22
   refine wp_cond_false rfl ?_
   refine wp_skip ?_
   refine k21 _ _ ?_
   try clear k21 K21
   refine wp_seq_k (fun K28 k28=>?_)
   refine rg [0,1,2] ?_
   refine sv 26 (.int .i64 ((D:Int))) ?_
   refine se ?_
   refine eff_mk (E:=EFo) (none:Option Rat) 51 84 (.agg #[(.string ⟨([]:List UInt8).toArray⟩),(.string ⟨([]:List UInt8).toArray⟩)]) D 2 32 (some 27) rfl rfl rfl rfl (by kernel_rfl) (by kernel_rfl) (by decide) (by omega) (by decide) (fun _=>rfl) (fun b29 w29 g29 mk29 q29=>?_)
   have q29_hc12:=Nat.le_trans (Below.size hc12) q29
   have q29_hC:=Nat.le_trans (Below.size hC) q29
   replace q29:=Nat.le_trans (Below.size hB) q29
   replace hB:=hB.trans g29
   replace hc12:=hc12.trans g29
   replace hC:=hC.trans g29
   simp only [putl,p3,p4]
   refine sv 9 (.slice (some ⟨b29,0,none⟩) D D) ?_
   refine sq_nil ?_
   refine k28 _ _ ?_
   try clear k28 K28
   refine wp_seq_k (fun K30 k30=>?_)
   refine wp_seq_k (fun K31 k31=>?_)
   refine rg [0] ?_
   refine sv 10 (.int .i64 0) ?_
   refine sq_nil ?_
   refine k31 _ _ ?_
   try clear k31 K31
   refine wp_block ?_
   refine wp_loop_inv (a:=⟨List.toArray ?l32,[]⟩) (fun n a w'=>∃ (x:Nat) (u32:Nat→Value),D - x=n∧a=⟨[v,(.int .i64 ((D:Int))),undef,undef,(.slice none 0 0),u12,v12,vo,(.int .i64 ((f:Int))),(.slice (some ⟨b29,0,none⟩) D D),(.int .i64 ((x:Int))),(u32 11),(u32 12),(u32 13),(u32 14),(u32 15),(u32 16),(u32 17),(u32 18),(.bool (decide ((f:Int)<(D:Int)))),(u32 20),(u32 21),(u32 22),(u32 23),(u32 24),(.bool false),(u32 26),(u32 27),(u32 28),(u32 29),(u32 30),(u32 31),(u32 32),(u32 33),(u32 34),(u32 35),(u32 36),(u32 37),(u32 38),(u32 39),(u32 40),(u32 41),(u32 42),(u32 43),(u32 44),(u32 45),(u32 46),(u32 47),(u32 48),(u32 49),(u32 50),(u32 51),(u32 52),(u32 53),(u32 54),(u32 55),(u32 56),(u32 57),(u32 58),(u32 59),(u32 60),undef].toArray,[]⟩∧x≤D∧Mk EFo 84 2 w' b29 (fil (fun z1=>some (pik R m D (fun t=>-(rs R m D).m t f) (pl R m D) z1)) (none:Option Rat) D x)∧Gr w12 w'∧Gr w16 w'∧Gr w w') (D - 0) ?_ ?_
   ·exact ⟨0,(fun i=>List.getD ?l32 i undef),rfl,rfl,(Nat.zero_le _),(mk29.cast fil_zero),hc12,hC,hB⟩
   rintro n32 a32 w32 ⟨x,u32,rfl,rfl,hkx,mx,hc12,hC,hB⟩ K32 k32
   refine wp_seq_k (fun K33 k33=>?_)
   refine wp_seq_k (fun K34 k34=>?_)
   refine rg [0,1,2] ?_
   refine sv 28 (.int .i64 ((x:Int))) ?_
   refine sv 29 (.int .i64 ((D:Int))) ?_
   refine sv 30 (.bool (decide ((x:Int)<(D:Int)))) ?_
   refine sq_nil ?_
   refine k34 _ _ ?_
   try clear k34 K34
   refine wp_cond_split (t:=decide ((x:Int)<(D:Int))) rfl (fun hb35=>?_) (fun hb35=>?_)
   ·have hlx:x<D:=by have:=of_decide_eq_true hb35;omega
    refine wp_skip ?_
    refine k33 _ _ ?_
    try clear k33 K33
    refine wp_seq_k (fun K36 k36=>?_)
    refine wp_block ?_
    refine wp_seq_k (fun K37 k37=>?_)
    refine rg [0,1,2,3,4] ?_
    refine sv 33 (.slice (some ⟨b29,0,none⟩) D D) ?_
    refine sv 34 (.int .i64 ((x:Int))) ?_
    refine sv 35 (.agg #[(.string ⟨([48]:List UInt8).toArray⟩),(.string ⟨([49]:List UInt8).toArray⟩)]) ?_
    refine sw 36 (adr (.slice (some ⟨b29,0,none⟩) D D) (x*2)) rfl (rv_idxn (e:=84) (n:=D) (mx.sl_n (n:=D) (cap:=D) (fil_len (by omega)) (Nat.le_refl _)) (fil_len (by omega)) (by decide) x (by omega) _ _ _ rfl rfl rfl (by kernel_rfl) (by kernel_rfl)) ?_
    refine se ?_
    refine eff_stm stab_fo mx x (fil_lt (by omega) (by omega)) (some (0:Rat)) (.agg #[(.string ⟨([48]:List UInt8).toArray⟩),(.string ⟨([49]:List UInt8).toArray⟩)]) [(.string ⟨([48]:List UInt8).toArray⟩),(.string ⟨([49]:List UInt8).toArray⟩)] (D) (D) 84 _ _ rfl rfl rfl rfl rfl (by kernel_rfl) rfl ⟨rfl,rfl,trivial⟩ (efr0 w) (by decide) (fun w38 st38 kt38 mk38=>?_)
    replace hB:=st38.gr hB q29
    replace hc12:=st38.gr hc12 q29_hc12
    replace hC:=st38.gr hC q29_hC
    refine sq_nil ?_
    refine k37 _ _ ?_
    try clear k37 K37
    refine wp_seq_k (fun K39 k39=>?_)
    refine rg [0,1,2,3] ?_
    refine sv 37 v12 ?_
    refine sv 38 (.int .i64 ((x:Int))) ?_
    refine se ?_
    rcases Bool.eq_false_or_eq_true (hasI (fun z1=>((pv (rs R m D) z1:Nat):Int)) (pl R m D) (x:Int)) with hb40 | hb40
    ·have hix:=hb40
     refine ec 39 (f5_at_yes (P:=(fun z1=>((pv (rs R m D) z1:Nat):Int))) (z:=(x:Int)) hb40 (by omega) (hp12.gr stab_i64 hc12)) ?_
     rintro e41 w41 ⟨⟨tt41,rfl,htt41,hee41⟩,g41⟩
     refine ⟨_,rfl,?_⟩
     replace hB:=hB.trans g41
     replace hc12:=hc12.trans g41
     replace hC:=hC.trans g41
     simp only [p3,p4]
     refine sv 11 (.int .i64 ((tt41:Int))) ?_
     refine sq_nil ?_
     refine k39 _ _ ?_
     try clear k39 K39
     refine wp_seq_k (fun K42 k42=>?_)
     refine rg [0,1] ?_
     refine sv 40 (.int .i64 ((tt41:Int))) ?_
     have hb43:(decide ((0:Int)≤(tt41:Int)))=true:=(by simp)
     refine sw 41 (.bool true) rfl (RunV.bool (x:=decide ((0:Int)≤(tt41:Int))) (rvk (by kernel_rfl)) hb43) ?_
     refine sq_nil ?_
     refine k42 _ _ ?_
     try clear k42 K42
     refine wp_cond_true rfl ?_
     refine rg [0,1,2,3,4,5,6,7,8,9,10,11] ?_
     refine sv 42 (.slice (some ⟨b29,0,none⟩) D D) ?_
     refine sv 43 (.int .i64 ((x:Int))) ?_
     refine sv 44 u12 ?_
     refine sv 45 (.int .i64 ((tt41:Int))) ?_
     refine sw 46 (adr u12 (tt41*1)) rfl (rv_idxn (e:=51) hs12 tb_len (by decide) tt41 (by omega) _ _ _ rfl rfl rfl (by kernel_rfl) (by kernel_rfl)) ?_
     obtain ⟨_,_,⟨u44,rfl,hr44⟩,at44⟩:=Sl.get hs12 (by decide) (tb_get (f:=(fun z0=>tb (fun z1=>((rs R m D).m z0 z1)) D)) (n:=(pl R m D)) (i:=tt41) (by omega))
     refine sw 47 u44 rfl (rv_ld1 u44 (at44.gr hc12) _ _ rfl rfl (by kernel_rfl)) ?_
     refine sv 48 (.int .i64 ((f:Int))) ?_
     refine sw 49 (adr u44 (f*2)) rfl (rv_idxn (e:=84) hr44 tb_len (by decide) f (by omega) _ _ _ rfl rfl rfl (by kernel_rfl) (by kernel_rfl)) ?_
     obtain ⟨_,_,rfl,at45⟩:=Sl.get hr44 (by decide) (tb_get (f:=(fun z1=>((rs R m D).m tt41 z1))) (n:=D) (i:=f) (by omega))
     refine sw 50 (.agg #[(.string ⟨(Lib.itoa ((((rs R m D).m tt41 f)).num):List UInt8).toArray⟩),(.string ⟨(Lib.itoa (((((rs R m D).m tt41 f)).den:Int)):List UInt8).toArray⟩)]) rfl (rv_ldn [(.string ⟨(Lib.itoa ((((rs R m D).m tt41 f)).num):List UInt8).toArray⟩),(.string ⟨(Lib.itoa (((((rs R m D).m tt41 f)).den:Int)):List UInt8).toArray⟩)] (at45.gr hc12) _ _ rfl rfl (by kernel_rfl)) ?_
     refine se ?_
     refine ec 51 (f5_neg (((rs R m D).m tt41 f)) (hzn _ (by omega) _ (by omega)) (by omega) _) ?_
     rintro e46 w46 ⟨rfl,g46⟩
     refine ⟨_,rfl,?_⟩
     replace hB:=hB.trans g46
     replace hc12:=hc12.trans g46
     replace hC:=hC.trans g46
     simp only [p3,p4]
     refine sw 52 (adr (.slice (some ⟨b29,0,none⟩) D D) (x*2)) rfl (rv_idxn (e:=84) (n:=D) (mk38.sl_n (n:=D) (cap:=D) (by rw [List.length_set];exact (fil_len (by omega))) (Nat.le_refl _)) (by rw [List.length_set];exact (fil_len (by omega))) (by decide) x (by omega) _ _ _ rfl rfl rfl (by kernel_rfl) (by kernel_rfl)) ?_
     refine se ?_
     replace mk38:=mk38.gr stab_fo (g41.trans g46)
     refine eff_stm stab_fo mk38 x (by rw [List.length_set];exact (fil_lt (by omega) (by omega))) (some (-((rs R m D).m tt41 f))) (.agg #[(.string ⟨(Lib.itoa (((-((rs R m D).m tt41 f))).num):List UInt8).toArray⟩),(.string ⟨(Lib.itoa ((((-((rs R m D).m tt41 f))).den:Int)):List UInt8).toArray⟩)]) [(.string ⟨(Lib.itoa (((-((rs R m D).m tt41 f))).num):List UInt8).toArray⟩),(.string ⟨(Lib.itoa ((((-((rs R m D).m tt41 f))).den:Int)):List UInt8).toArray⟩)] (D) (D) 84 _ _ rfl rfl rfl rfl rfl (by kernel_rfl) rfl ⟨rfl,rfl,trivial⟩ rfl (by decide) (fun w47 st47 kt47 mk47=>?_)
     replace hB:=st47.gr hB q29
     replace hc12:=st47.gr hc12 q29_hc12
     replace hC:=st47.gr hC q29_hC
     refine sq_nil ?_
     refine k36 _ _ ?_
     try clear k36 K36
     refine rg [0,1,2] ?_
     refine sv 31 (.int .i64 ((x:Int))) ?_
     refine sw 32 (.int .i64 (((x:Int)+1))) rfl (RunV.int (x:=IntKind.i64.wrap (((x:Int)+1))) (y:=((x:Int)+1)) (rvk (by kernel_rfl)) (by first | rfl | (rw [IntKind.wrap_i64];omega))) ?_
     refine sv 10 (.int .i64 (((x:Int)+1))) ?_
     refine sq_nil ?_
     refine k32 (D - (x+1)) ⟨List.toArray ?l48,[]⟩ _ (by omega) ?_
     exact ⟨x+1,(fun i=>List.getD ?l48 i undef),rfl,rfl,(by omega),(mk47.cast (fil_two hlx (by rw [pik_at htt41 hee41]))),hc12,hC,hB⟩
    ·have hix:isP R m D x=false:=hb40
     refine ec 39 (f5_at_no (P:=(fun z1=>((pv (rs R m D) z1:Nat):Int))) (z:=(x:Int)) hb40 (by omega) (hp12.gr stab_i64 hc12)) ?_
     rintro e49 w49 ⟨rfl,g49⟩
     refine ⟨_,rfl,?_⟩
     replace hB:=hB.trans g49
     replace hc12:=hc12.trans g49
     replace hC:=hC.trans g49
     simp only [p3,p4]
     refine sv 11 (.int .i64 (-1)) ?_
     refine sq_nil ?_
     refine k39 _ _ ?_
     try clear k39 K39
     refine wp_seq_k (fun K50 k50=>?_)
     refine rg [0,1] ?_
     refine sv 40 (.int .i64 (-1)) ?_
     refine sv 41 (.bool false) ?_
     refine sq_nil ?_
     refine k50 _ _ ?_
     try clear k50 K50
     refine wp_cond_false rfl ?_
     refine wp_skip ?_
     refine k36 _ _ ?_
     try clear k36 K36
     refine rg [0,1,2] ?_
     refine sv 31 (.int .i64 ((x:Int))) ?_
     refine sw 32 (.int .i64 (((x:Int)+1))) rfl (RunV.int (x:=IntKind.i64.wrap (((x:Int)+1))) (y:=((x:Int)+1)) (rvk (by kernel_rfl)) (by first | rfl | (rw [IntKind.wrap_i64];omega))) ?_
     refine sv 10 (.int .i64 (((x:Int)+1))) ?_
     refine sq_nil ?_
     replace mk38:=mk38.gr stab_fo g49
     refine k32 (D - (x+1)) ⟨List.toArray ?l51,[]⟩ _ (by omega) ?_
     exact ⟨x+1,(fun i=>List.getD ?l51 i undef),rfl,rfl,(by omega),(mk38.cast (fil_set hlx (by rw [pik_no hix]))),hc12,hC,hB⟩
   ·have hex:D=x:=by have:=of_decide_eq_false hb35;omega
    subst hex
    refine wp_exit ?_
    simp only [Exit.then,Exit.inBlock,↓reduceIte]
    refine k30 _ _ ?_
    try clear k30 K30
    refine wp_seq_k (fun K52 k52=>?_)
    refine rg [0,1,2,3,4] ?_
    refine sv 53 (.slice (some ⟨b29,0,none⟩) D D) ?_
    refine sv 54 (.int .i64 ((f:Int))) ?_
    refine sv 55 (.agg #[(.string ⟨([49]:List UInt8).toArray⟩),(.string ⟨([49]:List UInt8).toArray⟩)]) ?_
    refine sw 56 (adr (.slice (some ⟨b29,0,none⟩) D D) (f*2)) rfl (rv_idxn (e:=84) (n:=D) (mx.sl_n (n:=D) (cap:=D) (fil_len (by omega)) (Nat.le_refl _)) (fil_len (by omega)) (by decide) f (by omega) _ _ _ rfl rfl rfl (by kernel_rfl) (by kernel_rfl)) ?_
    refine se ?_
    refine eff_stm stab_fo mx f (fil_lt (by omega) (by omega)) (some (1:Rat)) (.agg #[(.string ⟨([49]:List UInt8).toArray⟩),(.string ⟨([49]:List UInt8).toArray⟩)]) [(.string ⟨([49]:List UInt8).toArray⟩),(.string ⟨([49]:List UInt8).toArray⟩)] (D) (D) 84 _ _ rfl rfl rfl rfl rfl (by kernel_rfl) rfl ⟨rfl,rfl,trivial⟩ (efr1 w) (by decide) (fun w53 st53 kt53 mk53=>?_)
    replace hB:=st53.gr hB q29
    replace hc12:=st53.gr hc12 q29_hc12
    replace hC:=st53.gr hC q29_hC
    refine sq_nil ?_
    refine k52 _ _ ?_
    try clear k52 K52
    have hkr54:=(((mk53.cast (by rw [fil_all];exact kv_set)).sl_n (n:=D) (cap:=D) tb_len (Nat.le_refl _)).some)
    refine rg [0,1,2,3,4] ?_
    refine sv 57 vo ?_
    refine sv 58 (.slice (some ⟨b29,0,none⟩) D D) ?_
    refine se ?_
    refine eff_bs 51 1 #[(.slice (some ⟨b29,0,none⟩) D D)] (some 59) rfl (fun _=>by kernel_rfl) (fun b55 w55 g55 L55 q55=>?_)
    have q55_hc12:=Nat.le_trans (Below.size hc12) q55
    have q55_hC:=Nat.le_trans (Below.size hC) q55
    replace hB:=hB.trans g55
    replace hc12:=hc12.trans g55
    replace hC:=hC.trans g55
    simp only [putl,p3,p4]
    refine se ?_
    replace hkr54:=hkr54.gr stab_fr g55
    refine eff_apg (stab_rw stab_fr 84 2) _ _ 26 51 w12.heap.size (.slice none 0 0) vo (tb (fun z0=>tb (fun z1=>kv (rs R m D) (frc R m D f z0) z1) D) (nfr R m D f)) b55 [(.slice (some ⟨b29,0,none⟩) D D)] (tb (fun z1=>(kv (rs R m D) f z1)) D) 1 1 (some 60) 24 rfl rfl rfl rfl (oo.gr (stab_rw stab_fr 84 2) hC) L55 ⟨rfl,trivial⟩ rfl ⟨_,rfl,hkr54⟩ (Below.size hc12) (by rw [tb_len];omega) (by decide) (by kernel_rfl) (by kernel_rfl) (by decide) (by decide) (fun v56 w56 ow56 wt56 hg56=>?_)
    replace hB:=hg56 _ hB lehc12
    replace hc12:=hg56 _ hc12 (Nat.le_refl _)
    replace ow56:=ow56.cast (fr_no hip rfl)
    simp only [putl,p3,p4]
    refine sv 7 v56 ?_
    refine sq_nil ?_
    refine k20 _ _ ?_
    try clear k20 K20
    refine rg [0,1,2] ?_
    refine sv 20 (.int .i64 ((f:Int))) ?_
    refine sw 21 (.int .i64 (((f:Int)+1))) rfl (RunV.int (x:=IntKind.i64.wrap (((f:Int)+1))) (y:=((f:Int)+1)) (rvk (by kernel_rfl)) (by first | rfl | (rw [IntKind.wrap_i64];omega))) ?_
    refine sv 8 (.int .i64 (((f:Int)+1))) ?_
    refine sq_nil ?_
    refine k16 (D - (f+1)) ⟨List.toArray ?l57,[]⟩ _ (by omega) ?_
    exact ⟨f+1,v56,(fun i=>List.getD ?l57 i undef),rfl,rfl,(by omega),ow56,hc12,hB⟩
 ·have hef:D=f:=by have:=of_decide_eq_false hb19;omega
  refine wp_exit ?_
  simp only [Exit.then,Exit.inBlock,↓reduceIte]
  refine k14 _ _ ?_
  try clear k14 K14
  refine wp_seq_k (fun K58 k58=>?_)
  refine rg [0,1] ?_
  refine sv 61 vo ?_
  refine sv 4 vo ?_
  refine sq_nil ?_
  refine k58 _ _ ?_
  try clear k58 K58
  refine wp_ret ?_
  refine bodyPost_ret (v:=vo) (ret_tmp rfl rfl) rfl ⟨?_,hB⟩
  exact (by subst hef;exact ⟨_,rfl,((oo.gr (stab_rw stab_fr 84 2) hC).sl)⟩)

end Go.Proofs.YtepgkcimmdmgcaaGreatDoor
namespace Go.Proofs.YtepgkcimmdmgcaaGreatDoor
/-- the first k members of the expansion -/
def dr (n:Nat) (m:Mx_) (k:Nat):Rat:=sm k fun z9=>sgk z9*(m 0 z9*Dr n (mnr m z9))
end Go.Proofs.YtepgkcimmdmgcaaGreatDoor
namespace Go.Proofs.YtepgkcimmdmgcaaGreatDoor
open Go.RowKit

set_option maxRecDepth 100000 in
set_option maxHeartbeats 2000000 in
theorem scale_c (ao:Option Addr) (la ca:Nat) (m x p:Int) (w:World) (hla:la≤900000) (ha:Mag w ao la ca m) (hx0:0≤x) (hx1:x<4294967296) (hp0:0≤p) (hp1:p<4294967296):
    Calls Tryz.prog 157 #[.slice ao la ca,.int .u32 x,.int .u32 p] w fun e w'=>(∃ go k cap,e=.returned (.slice go k cap)∧Mag w' go k cap (m*x+p)∧k≤la+1)∧Gr w w':=by
  go_enter Tryz.func157,Tryz.ntmps157
  go_wp2_with (at_make;refine wpList_make32 _ rfl _ _ rfl _ _ (la+1) rfl rfl (by omega) (by omega) (by omega) ?_)
  intro w1 hO hB hsz
  go_wp2
  go_loopw [8,19] (fun c i wr=>∃ (k:Nat) (cr:Int) (d:Nat→Int),k≤la∧i=.int .i64 k∧c=.int .u64 cr∧0≤cr∧cr<4294967296∧Hid (hi (m*x+p) k=hi m k*x+cr)∧Below w.heap.size w wr∧
      Own wr w.heap.size (la+1) d∧Hid (∀ j,j<k→d j=dg (m*x+p) j)) (fun _ i _=>la - (intOf i).toNat)
  case atStart=>exact ⟨0,p,_,Nat.zero_le _,rfl,rfl,hp0,hp1,by simp [Hid,hi_zero],hB,hO,fun j hj=>by omega⟩
  case round=>
    obtain ⟨k,cr,d,hk,rfl,rfl,hc0,hc1,hz,hB,hO,hd⟩:=hrel
    by_cases hlt:k<la
    · obtain ⟨b1,off1,rfl,hcs1⟩:=(ha.row.below hB).at_ (by omega)
      have hcell1:=hcs1 k hlt
      clear hcs1
      have d0:=dg_nonneg m k
      have d1:=dg_lt m k
      have hcell3:=hO.cell k (by omega)
      have hfree:=hO.free k
      have hs:=scale_step hz.out hc0 hc1 hx0 hx1
      have z0:=hs.2.2.2.2.1
      have z1:=hs.2.2.2.2.2
      have z2:dg m k*x≤18446744065119617025:=by
        have:=Int.mul_le_mul (show dg m k≤4294967295 by omega) (show x≤4294967295 by omega) hx0 (by omega)
        omega
      have HS:=Lib.hid hs
      clear hs
      go_wp2
      have hs:=HS.out
      go_roundw
      case rel=>
        refine ⟨k+1,_,_,by omega,by go_num,rfl,hs.2.2.1,hs.2.2.2.1,hs.2.1,hB.setCell (Nat.le_refl _) _,hO.set (by omega) _,fun j hj=>?_⟩
        by_cases e:j=k
        · subst e;rw [upd_same,hs.1]
        · rw [upd_other _ _ e];exact hd.out j (by omega)
      case measure=>simp [intOf];omega
    · obtain rfl:k=la:=by omega
      have hcell3:=hO.cell k (by omega)
      have hfree:=hO.free k
      have hm0:0≤m*x+p:=by have:=Int.mul_nonneg ha.nl.nonneg hx0;omega
      have htop:hi (m*x+p) (k+1)=0:=by
        have h1:=hz.out
        rw [ha.nl.top,Int.zero_mul] at h1
        rw [hi_succ];omega
      have hdk:dg (m*x+p) k=cr:=by
        have h1:=hz.out
        rw [ha.nl.top,Int.zero_mul] at h1
        unfold dg;omega
      have HT:=Lib.hid htop
      have HD:=Lib.hid hdk
      clear htop hdk
      go_wp2_with fail
      have hO2:=(hO.set (Nat.lt_succ_self k) cr).congr (d':=dg (m*x+p)) (fun j hj=>by
        by_cases e:j=k
        · subst e;rw [upd_same,HD.out]
        · rw [upd_other _ _ e];exact hd.out j (by omega))
      refine (trim_c _ _ _ (m*x+p) _ (by omega) (Nat.le_refl _) hm0 HT.out hO2.row).mono ?_
      rintro e w3 ⟨⟨n,rfl,hm,hn⟩,rfl⟩
      go_wp2
      go_ret
      exact ⟨⟨_,_,_,rfl,hm,hn⟩,hB.setCell (Nat.le_refl _) _⟩
theorem valL_from (l:List UInt8):∀ acc:Nat,l.foldl (fun a c=>a*10+(c.toNat - 48)) acc=acc*10 ^ l.length+valL l:=by
  induction l with
  | nil=>intro acc;simp [valL]
  | cons c l ih=>
    intro acc
    have hv:valL (c::l)=(c.toNat - 48)*10 ^ l.length+valL l:=by
      show l.foldl _ (0*10+(c.toNat - 48))=_
      rw [ih];simp
    rw [List.foldl_cons,ih,hv,List.length_cons,Nat.pow_succ,Nat.add_mul]
    have:acc*10*10 ^ l.length=acc*(10 ^ l.length*10):=by grind
    omega
theorem valL_append (a b:List UInt8):valL (a++b)=valL a*10 ^ b.length+valL b:=by
  show (a++b).foldl _ 0=_
  rw [List.foldl_append,valL_from];rfl
theorem valL_lt (l:List UInt8) (h:∀ c ∈ l,48≤c.toNat∧c.toNat≤57):valL l<10 ^ l.length:=by
  induction l with
  | nil=>simp [valL]
  | cons c l ih=>
    have h1:=valL_append [c] l
    have h2:=ih (fun x hx=>h x (by simp [hx]))
    have h3:=h c (by simp)
    have h4:valL [c]≤9:=by simp [valL];omega
    rw [List.singleton_append] at h1
    rw [h1,List.length_cons,Nat.pow_succ]
    have:=Nat.mul_le_mul_right (10 ^ l.length) h4
    omega
theorem parseM:∀ (l:List UInt8) (acc:Nat),(∀ c ∈ l,48≤c.toNat∧c.toNat≤57)→acc*10 ^ l.length+10 ^ l.length≤1000000000→Lib.parseUintM (2 ^ 32 - 1) acc l=.ok (acc*10 ^ l.length+valL l)
  | [],acc,_,_=>by simp [Lib.parseUintM,valL]
  | c::l,acc,h,hb=>by
    have hc:=h c (by simp)
    have hp:0<10 ^ l.length:=Nat.pow_pos (by omega)
    rw [List.length_cons,Nat.pow_succ] at hb
    have h1:(acc+1)*(10 ^ l.length*10)≤1000000000:=by rw [Nat.add_mul];omega
    have h2:(acc+1)*10≤1000000000:=by
      have:(acc+1)*10≤(acc+1)*(10 ^ l.length*10):=Nat.mul_le_mul_left _ (by omega)
      omega
    have e:acc*(10 ^ l.length*10)=acc*10*10 ^ l.length:=by grind
    have h3:(c.toNat - 48)*10 ^ l.length≤9*10 ^ l.length:=Nat.mul_le_mul_right _ (by omega)
    have ih:=parseM l (acc*10+(c.toNat - 48)) (fun x hx=>h x (by simp [hx])) (by rw [Nat.add_mul];omega)
    unfold Lib.parseUintM
    rw [if_pos hc,if_neg (by omega),if_neg (by omega),ih]
    have h5:=valL_append [c] l
    rw [List.singleton_append] at h5
    have h6:valL [c]=c.toNat - 48:=by simp [valL]
    rw [h5,h6,List.length_cons,Nat.pow_succ,Nat.add_mul,e]
    congr 1
    omega
theorem parse32 {l:List UInt8} (h:∀ c ∈ l,48≤c.toNat∧c.toNat≤57) (h0:l≠[]) (h9:l.length≤9):Lib.parseUintB 32 l=.ok (valL l):=by
  unfold Lib.parseUintB
  rw [if_neg h0,parseM l 0 h (by
    have:10 ^ l.length≤10 ^ 9:=Nat.pow_le_pow_right (by omega) h9
    omega)]
  simp
theorem parse_uint (R:ByteArray) (h:∀ c ∈ R.data.toList,48≤c.toNat∧c.toNat≤57) (h0:0<R.size) (h9:R.size≤9) (w:World):
    Calls Tryz.prog 156 #[.string R,.int .i64 10,.int .i64 32] w fun e w'=>e=.returned (.tuple #[.int .u64 (valL R.data.toList:Int),.nilIface])∧Gr w w':=by
  have hl:R.data.toList.length=R.size:=by simp
  refine (Tryz.strconv_ParseUint_10_at32_ok R (by omega) (valL R.data.toList) (parse32 h (fun e=>by rw [e] at hl;simp at hl;omega) (by omega)) w).mono ?_
  rintro e w1 ⟨he,hw⟩
  refine ⟨he,?_⟩
  rcases hw with rfl | rfl
  · exact Gr.refl _
  · exact Go.Joins.below_bytesWorld _ _ _ _ (Nat.le_refl _)
/-- the closure:is it no digit? -/
theorem nodigit (x:Nat) (w:World):Calls Tryz.prog 155 #[.int .i32 (x:Int)] w fun e w'=>e=.returned (.bool (decide (x<48)||decide (57<x)))∧∃ q,w'=w.drewN q:=by
  by_cases h1:(x:Int)<48
  · have e1:decide (x<48)=true:=by simp;omega
    have E:=Lib.hid e1
    clear e1
    go_enter Tryz.func155,Tryz.ntmps155
    go_wp2
    go_ret
    exact ⟨by rw [E.out];rfl,0,rfl⟩
  · have e1:decide (x<48)=false:=by simp;omega
    by_cases h2:57<(x:Int)
    · have e2:(decide (x<48)||decide (57<x))=true:=by simp;omega
      have E:=Lib.hid e2
      clear e1 e2
      go_enter Tryz.func155,Tryz.ntmps155
      go_wp2
      go_ret
      exact ⟨by rw [E.out];rfl,0,rfl⟩
    · have e2:(decide (x<48)||decide (57<x))=false:=by simp;omega
      have E:=Lib.hid e2
      clear e1 e2
      go_enter Tryz.func155,Tryz.ntmps155
      go_wp2
      go_ret
      exact ⟨by rw [E.out];rfl,0,rfl⟩
theorem idx_none {D:ByteArray} (h:∀ c ∈ D.data.toList,48≤c.toNat∧c.toNat≤57):∀ (f pos:Nat),Lib.idxFuncFrom (fun x=>decide (x<48)||decide (57<x)) true D f pos=-1
  | 0,_=>rfl
  | f+1,pos=>by
    unfold Lib.idxFuncFrom
    by_cases hp:pos<D.size
    · have hc:=h D[pos] (List.mem_of_getElem? (toList_get hp))
      rw [if_pos hp,decode_ascii D pos hp (by omega),if_neg (by simp;omega)]
      exact idx_none h f _
    · rw [if_neg hp]
theorem contains_no (D:ByteArray) (h:∀ c ∈ D.data.toList,48≤c.toNat∧c.toNat≤57) (w:World):
    Calls Tryz.prog 154 #[.string D,.func (.func 155) #[] #[]] w fun e w'=>e=.returned (.bool false)∧Gr w w':=by
  refine (Tryz.strings_ContainsFunc 155 #[] (enters_of Tryz.func155 (by kernel_rfl) rfl) (fun x=>decide (x<48)||decide (57<x)) D w (fun W x _=>nodigit x W)).mono ?_
  rintro e w1 ⟨he,hb⟩
  refine ⟨?_,hb⟩
  rw [he]
  unfold Lib.idxFunc
  rw [idx_none h]
  rfl
theorem cut_minus (z:Int) (w:World):Calls Tryz.prog 153 #[.string ⟨(Lib.itoa z).toArray⟩,.string ⟨#[45]⟩] w fun e w'=>
    e=.returned (.tuple #[.string ⟨(Lib.decDigits z.natAbs).toArray⟩,.bool (decide (z<0))])∧w=w':=by
  refine (Tryz.strings_CutPrefix _ _ _).mono ?_
  rintro e w1 ⟨he,rfl⟩
  refine ⟨?_,rfl⟩
  rw [he]
  show Ending.returned (.tuple #[.string ⟨(Lib.trimPrefix (Lib.itoa z) [45]).toArray⟩,.bool (Lib.hasPrefix (Lib.itoa z) [45])])=_
  by_cases h:z<0
  · have h1:Lib.hasPrefix (Lib.itoa z) [45]=true:=by rw [itoa_neg h];simp [Lib.hasPrefix]
    rw [Lib.trimPrefix,h1,if_pos rfl,itoa_neg h,decide_eq_true h];rfl
  · have h1:Lib.hasPrefix (Lib.itoa z) [45]=false:=by
      rw [itoa_nonneg (by omega)]
      rcases hd:Lib.decDigits z.natAbs with _ | ⟨c,l⟩
      · rfl
      · have hc:=dec_all z.natAbs c (by rw [hd];simp)
        have hne:¬ (45:UInt8)=c:=fun e=>by rw [← e] at hc;simp at hc
        simp [Lib.hasPrefix,List.isPrefixOf,hne]
    rw [Lib.trimPrefix,h1,if_neg (by decide),itoa_nonneg (by omega),decide_eq_false h]
def strSize (v:Value):Nat:=match v with | .string s=>s.size | _=>0
theorem extract_take (R:ByteArray) (q:Nat):(R.extract 0 q).data.toList=R.data.toList.take q:=by rw [Lib.extract_data];simp
theorem extract_drop (R:ByteArray) (q:Nat):(R.extract q R.size).data.toList=R.data.toList.drop q:=by
  rw [Lib.extract_data,List.take_of_length_le];simp
set_option maxRecDepth 100000 in
set_option maxHeartbeats 4000000 in
theorem parse_i {k:Nat} (z:Int) (hz:Sz k z) (hk:k≤60000) (w:World):
    Calls Tryz.prog 129 #[.string ⟨(Lib.itoa z).toArray⟩] w fun e w'=>(∃ x y,e=.returned (.tuple #[.agg #[x,y],.int .i64 0])∧IsInt w' k x y z)∧Gr w w':=by
  obtain ⟨n,hn⟩:∃ n,n=z.natAbs:=⟨_,rfl⟩
  have hnk:n<2 ^ k:=by rw [hn];exact hz
  have hlen:=dec_len_bits k n hnk
  have hit:(Lib.itoa z).length≤k+2:=by
    by_cases h:z<0
    · rw [itoa_neg h,← hn];simp;omega
    · rw [itoa_nonneg (by omega),← hn];omega
  obtain ⟨s,hs⟩:∃ s:ByteArray,s=⟨(Lib.itoa z).toArray⟩:=⟨_,rfl⟩
  have hss:s.size≤65536:=by rw [hs];show (Lib.itoa z).toArray.size≤_;simp;omega
  obtain ⟨D,hD⟩:∃ D:ByteArray,D=⟨(Lib.decDigits n).toArray⟩:=⟨_,rfl⟩
  have HD:Hid (D.data.toList=Lib.decDigits n):=by rw [Hid,hD]
  have hDs:D.size=(Lib.decDigits n).length:=by rw [hD];show (Lib.decDigits n).toArray.size=_;simp
  have hD0:0<D.size:=by rw [hDs];exact dec_pos n
  have hD1:D.size≤60001:=by omega
  have hc:=cut_minus z (w.alloc (.cells #[.bool false,.slice none 0 0] 69))
  rw [← hn,← hD,← hs] at hc
  have hda:∀ c ∈ D.data.toList,48≤c.toNat∧c.toNat≤57:=by rw [HD.out];exact dec_all n
  have hcn:=contains_no D hda
  have hne:(D.toList==[])=false:=by
    rw [beq_eq_false_iff_ne,ByteArray.toList_eq,HD.out];exact dec_ne' n
  have hz0:(D[0].toNat:Int)=48→D.size=1∧n=0:=by
    intro h
    rcases Nat.eq_zero_or_pos n with e | e
    · rw [hDs,e];exact ⟨by rw [dec_zero];rfl,rfl⟩
    · obtain ⟨c,hc1,hc2,_⟩:=dec_head e
      have:=getElem_toList HD.out hD0 hc1
      rw [this] at h
      omega
  have HN:=Lib.hid hn
  have HZ0:=Lib.hid hz0
  have HDa:=Lib.hid hda
  have HDs:=Lib.hid hDs
  have HS:=Lib.hid hs
  rw [← hs]
  clear hn hz0 hda hDs hD hit hs
  go_enter Tryz.func129,Tryz.ntmps129
  go_wp2_with fail
  (with_reducible refine hc.mono ?_)
  rintro e w1 ⟨rfl,rfl⟩
  clear hc
  go_wp2_with fail
  (with_reducible refine (hcn _).mono ?_)
  rintro e w2 ⟨rfl,g2⟩
  clear hcn
  by_cases h48:(D[0].toNat:Int)=48
  · have hzz:=HZ0.out h48
    have hz1:¬ (1:Int)<(D.size:Int):=by omega
    have hz2:¬ z<0:=by have:=HN.out;omega
    have h48':((D[0].toNat:Int)==48)=true:=by simpa using h48
    clear h48 hzz
    go_wp2
    go_loopw [4,6] (fun r m wr=>∃ (R:ByteArray) (V:Nat) (mo:Option Addr) (ml mc:Nat),r=.string R∧m=.slice mo ml mc∧ml≤k∧R.size≤60001∧Hid (Mag wr mo ml mc (V:Int)∧(∀ c ∈ R.data.toList,48≤c.toNat∧c.toNat≤57)∧V*10 ^ R.size+valL R.data.toList=n)∧Gr (w.alloc (.cells #[.bool false,.slice none 0 0] 69)) wr) (fun r _ _=>strSize r)
    case atStart=>exact ⟨D,0,none,0,0,rfl,rfl,by omega,hD1,⟨⟨Nat.le_refl _,NL.zero,Row.nil _ _ _⟩,HDa.out,by rw [HD.out,valL_dec];simp⟩,g2⟩
    case round=>
      obtain ⟨R,V,mo,ml,mc,rfl,rfl,hml,hR1,hh,hG⟩:=hrel
      by_cases hp:0<R.size
      · obtain ⟨q,hq⟩:∃ q:Nat,q=(R.size - 1) % 9+1:=⟨_,rfl⟩
        have hq9:q≤9:=by omega
        have hq0:0<q:=by omega
        have hqR:q≤R.size:=by omega
        have hqe:((R.size:Int) - 1) % 9+1=(q:Int):=by omega
        have HQ:=Lib.hid hq
        clear hq
        go_wp2
        obtain ⟨wo,hwo⟩:∃ wo:World,wo=wr:=⟨_,rfl⟩
        subst hwo
        go_loopw [8,48] (fun b i wq=>∃ (j:Nat) (x:Int),b=.int .u32 x∧i=.int .i64 j∧j≤q∧1≤x∧x≤1000000000∧Hid (x=10 ^ j)∧wq=wo) (fun _ i _=>q - (intOf i).toNat)
        case atStart=>exact ⟨0,1,rfl,rfl,by omega,by omega,by omega,rfl,rfl⟩
        case round=>
          obtain ⟨j,x,rfl,rfl,hj,hx0,hx1,hx,rfl⟩:=hrel
          by_cases hlt:j<q
          · have hx8:x≤100000000:=by
              rw [hx.out]
              have h8:(10:Nat) ^ j≤100000000:=Nat.le_trans (Nat.pow_le_pow_right (by omega) (show j≤8 by omega)) (by decide)
              have h9:=Int.ofNat_le.2 h8
              rw [Int.natCast_pow] at h9
              exact h9
            go_wp2
            go_roundw
            case rel=>exact ⟨j+1,x*10,rfl,by go_num,by omega,by omega,by omega,by rw [Hid,hx.out,Int.pow_succ],by first | rfl | trivial⟩
            case measure=>simp [intOf];omega
          · obtain rfl:j=q:=by omega
            obtain ⟨T,hT⟩:∃ T,R.extract 0 j=T:=⟨_,rfl⟩
            obtain ⟨U,hU⟩:∃ U,R.extract j R.size=U:=⟨_,rfl⟩
            have hTl:T.data.toList=R.data.toList.take j:=by rw [← hT,extract_take]
            have hUl:U.data.toList=R.data.toList.drop j:=by rw [← hU,extract_drop]
            have hRl:R.data.toList.length=R.size:=by simp
            have hTs:T.size=j:=by
              have h1:=congrArg List.length hTl
              rw [List.length_take,hRl] at h1
              have h2:T.data.toList.length=T.size:=by simp
              omega
            have hUs:U.size=R.size - j:=by
              have h1:=congrArg List.length hUl
              rw [List.length_drop,hRl] at h1
              have h2:U.data.toList.length=U.size:=by simp
              omega
            obtain ⟨hm,hda,hval⟩:=hh.out
            have hTd:∀ c ∈ T.data.toList,48≤c.toNat∧c.toNat≤57:=fun c hc=>hda c (by rw [hTl] at hc;exact List.mem_of_mem_take hc)
            have hUd:∀ c ∈ U.data.toList,48≤c.toNat∧c.toNat≤57:=fun c hc=>hda c (by rw [hUl] at hc;exact List.mem_of_mem_drop hc)
            obtain ⟨u,hu⟩:∃ u,u=valL T.data.toList:=⟨_,rfl⟩
            have hu1:u<1000000000:=by
              have h1:=valL_lt _ hTd
              have h2:T.data.toList.length=T.size:=by simp
              rw [h2,hTs] at h1
              have:(10:Nat) ^ j≤10 ^ 9:=Nat.pow_le_pow_right (by omega) hq9
              omega
            have hval2:(V*10 ^ j+u)*10 ^ U.size+valL U.data.toList=n:=by
              have h1:=valL_append (R.data.toList.take j) (R.data.toList.drop j)
              rw [List.take_append_drop,← hTl,← hUl] at h1
              have h2:U.data.toList.length=U.size:=by simp
              rw [h1,h2,← hu,show R.size=j+U.size by omega,Nat.pow_add] at hval
              rw [← hval];grind
            have hVk:V*10 ^ j+u<2 ^ k:=by
              have h1:V*10 ^ j+u≤(V*10 ^ j+u)*10 ^ U.size:=Nat.le_mul_of_pos_right _ (Nat.pow_pos (by omega))
              omega
            have hpu:=parse_uint T hTd (by omega) (by omega)
            rw [← hu] at hpu
            have HV2:=Lib.hid hval2
            have HVk:=Lib.hid hVk
            have HUd:=Lib.hid hUd
            have HX:=hx
            have hTs1:T.size≤9:=by omega
            have hUs1:U.size<R.size:=by omega
            have hUs2:U.size≤60001:=by omega
            clear hTl hUl hRl hTd hUd hda hval hval2 hVk hu hTs hUs hqe
            have hu2:(u:Int)<1000000000:=by omega
            go_wp2_with fail
            (with_reducible refine (hpu _).mono ?_)
            rintro e w5 ⟨rfl,g5⟩
            clear hpu
            go_wp2_with fail
            (with_reducible refine (scale_c mo ml mc (V:Int) x (u:Int) _ (by omega) (hm.kp g5.kp) (by omega) (by omega) (by omega) (by omega)).mono ?_)
            rintro e w6 ⟨⟨go,k6,c6,rfl,hm6,hk6⟩,g6⟩
            have hm7:Mag w6 go k6 c6 ((V*10 ^ j+u:Nat):Int):=by
              rw [HX.out] at hm6
              have e:((V*10 ^ j+u:Nat):Int)=(V:Int)*10 ^ j+(u:Int):=by push_cast;rfl
              rw [e];exact hm6
            have hk7:k6≤k:=hm7.nl.len_sz (show Sz k _ by unfold Sz;rw [Int.natAbs_natCast];exact HVk.out)
            clear hm6
            go_wp2
            go_roundw
            case rel=>exact ⟨U,V*10 ^ j+u,go,k6,c6,rfl,rfl,hk7,hUs2,⟨hm7,HUd.out,HV2.out⟩,(hG.trans g5).trans g6⟩
            case measure=>simp [strSize];omega
      · have hR0:R.size=0:=by omega
        obtain ⟨hm,hda,hval⟩:=hh.out
        have hVn:V=n:=by
          have h2:R.data.toList.length=R.size:=by simp
          have h1:R.data.toList=[]:=List.length_eq_zero_iff.1 (by rw [h2];exact hR0)
          rw [h1,hR0] at hval
          simpa [valL] using hval
        rw [hVn] at hm
        have HR0:=Lib.hid hR0
        clear hR0 hda hval hh hVn
        have p2:=Gr.heap hG (heap_alloc_new w (.cells #[.bool false,.slice none 0 0] 69))
        go_wp2_with fail
        (with_reducible refine (signed_c (decide (z<0)) mo ml mc (n:Int) _ (by omega) hm.cap hm.nl.nonneg hm.nl.top hm.row).mono ?_)
        rintro e w5 ⟨⟨k5,rfl,hm5,hk5⟩,g5⟩
        have p3:=Gr.heap g5 p2
        have d0:=cells_of p3 0
        have d1:=cells_of p3 1
        have d2:=free_of p3
        have gw3:Gr w w5:=(Gr.alloc w _).trans (hG.trans g5)
        have hint:=IsInt.mk' (z:=z) (s:=decide (z<0)) (k:=k) (hm5.gr g5) (by rw [HN.out]) (fun _=>rfl) hz
        obtain ⟨bb,hbb⟩:∃ bb,bb=(decide (z<0)&&decide (0<k5)):=⟨_,rfl⟩
        rw [← hbb] at hint ⊢
        clear hbb hm hm5 p2
        go_wp2
        have p4:=heap_setCell_at (i:=1) (.slice mo k5 mc) (heap_setCell_at (i:=0) (.bool bb) p3)
        have hst:=(St.setCell w5 w.heap.size 0 (.bool bb)).trans (St.setCell _ w.heap.size 1 (.slice mo k5 mc))
        exact bodyPost_ret (v:=.tuple #[.agg #[.bool bb,.slice mo k5 mc],.int .i64 0]) (ret_cell_tmp' _ _ _ rfl rfl p4 (by kernel_rfl) rfl) rfl ⟨⟨_,_,rfl,hint.kp (hst.kp p3 (by decide))⟩,hst.gr gw3 (Nat.le_refl _)⟩
  · have h48':((D[0].toNat:Int)==48)=false:=by simpa using h48
    clear h48
    go_wp2
    go_loopw [4,6] (fun r m wr=>∃ (R:ByteArray) (V:Nat) (mo:Option Addr) (ml mc:Nat),r=.string R∧m=.slice mo ml mc∧ml≤k∧R.size≤60001∧Hid (Mag wr mo ml mc (V:Int)∧(∀ c ∈ R.data.toList,48≤c.toNat∧c.toNat≤57)∧V*10 ^ R.size+valL R.data.toList=n)∧Gr (w.alloc (.cells #[.bool false,.slice none 0 0] 69)) wr) (fun r _ _=>strSize r)
    case atStart=>exact ⟨D,0,none,0,0,rfl,rfl,by omega,hD1,⟨⟨Nat.le_refl _,NL.zero,Row.nil _ _ _⟩,HDa.out,by rw [HD.out,valL_dec];simp⟩,g2⟩
    case round=>
      obtain ⟨R,V,mo,ml,mc,rfl,rfl,hml,hR1,hh,hG⟩:=hrel
      by_cases hp:0<R.size
      · obtain ⟨q,hq⟩:∃ q:Nat,q=(R.size - 1) % 9+1:=⟨_,rfl⟩
        have hq9:q≤9:=by omega
        have hq0:0<q:=by omega
        have hqR:q≤R.size:=by omega
        have hqe:((R.size:Int) - 1) % 9+1=(q:Int):=by omega
        have HQ:=Lib.hid hq
        clear hq
        go_wp2
        obtain ⟨wo,hwo⟩:∃ wo:World,wo=wr:=⟨_,rfl⟩
        subst hwo
        go_loopw [8,48] (fun b i wq=>∃ (j:Nat) (x:Int),b=.int .u32 x∧i=.int .i64 j∧j≤q∧1≤x∧x≤1000000000∧Hid (x=10 ^ j)∧wq=wo) (fun _ i _=>q - (intOf i).toNat)
        case atStart=>exact ⟨0,1,rfl,rfl,by omega,by omega,by omega,rfl,rfl⟩
        case round=>
          obtain ⟨j,x,rfl,rfl,hj,hx0,hx1,hx,rfl⟩:=hrel
          by_cases hlt:j<q
          · have hx8:x≤100000000:=by
              rw [hx.out]
              have h8:(10:Nat) ^ j≤100000000:=Nat.le_trans (Nat.pow_le_pow_right (by omega) (show j≤8 by omega)) (by decide)
              have h9:=Int.ofNat_le.2 h8
              rw [Int.natCast_pow] at h9
              exact h9
            go_wp2
            go_roundw
            case rel=>exact ⟨j+1,x*10,rfl,by go_num,by omega,by omega,by omega,by rw [Hid,hx.out,Int.pow_succ],by first | rfl | trivial⟩
            case measure=>simp [intOf];omega
          · obtain rfl:j=q:=by omega
            obtain ⟨T,hT⟩:∃ T,R.extract 0 j=T:=⟨_,rfl⟩
            obtain ⟨U,hU⟩:∃ U,R.extract j R.size=U:=⟨_,rfl⟩
            have hTl:T.data.toList=R.data.toList.take j:=by rw [← hT,extract_take]
            have hUl:U.data.toList=R.data.toList.drop j:=by rw [← hU,extract_drop]
            have hRl:R.data.toList.length=R.size:=by simp
            have hTs:T.size=j:=by
              have h1:=congrArg List.length hTl
              rw [List.length_take,hRl] at h1
              have h2:T.data.toList.length=T.size:=by simp
              omega
            have hUs:U.size=R.size - j:=by
              have h1:=congrArg List.length hUl
              rw [List.length_drop,hRl] at h1
              have h2:U.data.toList.length=U.size:=by simp
              omega
            obtain ⟨hm,hda,hval⟩:=hh.out
            have hTd:∀ c ∈ T.data.toList,48≤c.toNat∧c.toNat≤57:=fun c hc=>hda c (by rw [hTl] at hc;exact List.mem_of_mem_take hc)
            have hUd:∀ c ∈ U.data.toList,48≤c.toNat∧c.toNat≤57:=fun c hc=>hda c (by rw [hUl] at hc;exact List.mem_of_mem_drop hc)
            obtain ⟨u,hu⟩:∃ u,u=valL T.data.toList:=⟨_,rfl⟩
            have hu1:u<1000000000:=by
              have h1:=valL_lt _ hTd
              have h2:T.data.toList.length=T.size:=by simp
              rw [h2,hTs] at h1
              have:(10:Nat) ^ j≤10 ^ 9:=Nat.pow_le_pow_right (by omega) hq9
              omega
            have hval2:(V*10 ^ j+u)*10 ^ U.size+valL U.data.toList=n:=by
              have h1:=valL_append (R.data.toList.take j) (R.data.toList.drop j)
              rw [List.take_append_drop,← hTl,← hUl] at h1
              have h2:U.data.toList.length=U.size:=by simp
              rw [h1,h2,← hu,show R.size=j+U.size by omega,Nat.pow_add] at hval
              rw [← hval];grind
            have hVk:V*10 ^ j+u<2 ^ k:=by
              have h1:V*10 ^ j+u≤(V*10 ^ j+u)*10 ^ U.size:=Nat.le_mul_of_pos_right _ (Nat.pow_pos (by omega))
              omega
            have hpu:=parse_uint T hTd (by omega) (by omega)
            rw [← hu] at hpu
            have HV2:=Lib.hid hval2
            have HVk:=Lib.hid hVk
            have HUd:=Lib.hid hUd
            have HX:=hx
            have hTs1:T.size≤9:=by omega
            have hUs1:U.size<R.size:=by omega
            have hUs2:U.size≤60001:=by omega
            clear hTl hUl hRl hTd hUd hda hval hval2 hVk hu hTs hUs hqe
            have hu2:(u:Int)<1000000000:=by omega
            go_wp2_with fail
            (with_reducible refine (hpu _).mono ?_)
            rintro e w5 ⟨rfl,g5⟩
            clear hpu
            go_wp2_with fail
            (with_reducible refine (scale_c mo ml mc (V:Int) x (u:Int) _ (by omega) (hm.kp g5.kp) (by omega) (by omega) (by omega) (by omega)).mono ?_)
            rintro e w6 ⟨⟨go,k6,c6,rfl,hm6,hk6⟩,g6⟩
            have hm7:Mag w6 go k6 c6 ((V*10 ^ j+u:Nat):Int):=by
              rw [HX.out] at hm6
              have e:((V*10 ^ j+u:Nat):Int)=(V:Int)*10 ^ j+(u:Int):=by push_cast;rfl
              rw [e];exact hm6
            have hk7:k6≤k:=hm7.nl.len_sz (show Sz k _ by unfold Sz;rw [Int.natAbs_natCast];exact HVk.out)
            clear hm6
            go_wp2
            go_roundw
            case rel=>exact ⟨U,V*10 ^ j+u,go,k6,c6,rfl,rfl,hk7,hUs2,⟨hm7,HUd.out,HV2.out⟩,(hG.trans g5).trans g6⟩
            case measure=>simp [strSize];omega
      · have hR0:R.size=0:=by omega
        obtain ⟨hm,hda,hval⟩:=hh.out
        have hVn:V=n:=by
          have h2:R.data.toList.length=R.size:=by simp
          have h1:R.data.toList=[]:=List.length_eq_zero_iff.1 (by rw [h2];exact hR0)
          rw [h1,hR0] at hval
          simpa [valL] using hval
        rw [hVn] at hm
        have HR0:=Lib.hid hR0
        clear hR0 hda hval hh hVn
        have p2:=Gr.heap hG (heap_alloc_new w (.cells #[.bool false,.slice none 0 0] 69))
        go_wp2_with fail
        (with_reducible refine (signed_c (decide (z<0)) mo ml mc (n:Int) _ (by omega) hm.cap hm.nl.nonneg hm.nl.top hm.row).mono ?_)
        rintro e w5 ⟨⟨k5,rfl,hm5,hk5⟩,g5⟩
        have p3:=Gr.heap g5 p2
        have d0:=cells_of p3 0
        have d1:=cells_of p3 1
        have d2:=free_of p3
        have gw3:Gr w w5:=(Gr.alloc w _).trans (hG.trans g5)
        have hint:=IsInt.mk' (z:=z) (s:=decide (z<0)) (k:=k) (hm5.gr g5) (by rw [HN.out]) (fun _=>rfl) hz
        obtain ⟨bb,hbb⟩:∃ bb,bb=(decide (z<0)&&decide (0<k5)):=⟨_,rfl⟩
        rw [← hbb] at hint ⊢
        clear hbb hm hm5 p2
        go_wp2
        have p4:=heap_setCell_at (i:=1) (.slice mo k5 mc) (heap_setCell_at (i:=0) (.bool bb) p3)
        have hst:=(St.setCell w5 w.heap.size 0 (.bool bb)).trans (St.setCell _ w.heap.size 1 (.slice mo k5 mc))
        exact bodyPost_ret (v:=.tuple #[.agg #[.bool bb,.slice mo k5 mc],.int .i64 0]) (ret_cell_tmp' _ _ _ rfl rfl p4 (by kernel_rfl) rfl) rfl ⟨⟨_,_,rfl,hint.kp (hst.kp p3 (by decide))⟩,hst.gr gw3 (Nat.le_refl _)⟩
theorem idx_slash:∀ (l:List UInt8),Lib.index l [47]=(match (cutL l).2 with | none=>-1 | some _=>((cutL l).1.length:Int))
  | []=>rfl
  | c::l=>by
    have ih:=idx_slash l
    unfold Lib.index
    by_cases h:c=47
    · subst h
      have e:cutL (47::l)=([],some l):=by simp [cutL]
      rw [e]
      simp [List.isPrefixOf]
    · have e:cutL (c::l)=(c::(cutL l).1,(cutL l).2):=by
        conv=>lhs;unfold cutL
        rw [if_neg h]
      have h2:¬ (47:UInt8)=c:=fun x=>h x.symm
      have h3:[47].isPrefixOf (c::l)=false:=by simp [List.isPrefixOf,h2]
      rw [e,h3,ih]
      cases hd:(cutL l).2 with
      | none=>simp
      | some d=>
        have:¬ (((cutL l).1.length:Int)==-1)=true:=by simp
        simp [this]
theorem cut_slash (l:List UInt8):Lib.cut l [47]=(numL l,((cutL l).2.getD [],(cutL l).2.isSome)):=by
  have h1:=idx_slash l
  have h2:=cutL_eq l
  unfold Lib.cut numL
  cases hd:(cutL l).2 with
  | none=>
    rw [hd] at h1 h2;dsimp only at h1 h2
    rw [h1,if_neg (by omega)]
    simp [← h2]
  | some d=>
    rw [hd] at h1 h2;dsimp only at h1 h2
    rw [h1,if_pos (Int.natCast_nonneg _)]
    generalize (cutL l).1=a at*
    subst h2
    simp
/-- the variable of the library's that says how long a short search is holds some int -/
def Mx (w:World):Prop:=∃ m:Int,w.cell? ⟨0,0,none⟩=some (.int .i64 m)
theorem Mx.gr {w w':World} (h:Mx w) (g:Gr w w'):Mx w':=by
  obtain ⟨m,hm⟩:=h
  exact ⟨m,(Below.cell g (World.block_lt_of_cell? w _ hm)).trans hm⟩
theorem cut_q (q:Rat) {k:Nat} (h1:Sz k q.num) (h2:Sz k (q.den:Int)) (hk:k≤400000) {w:World} (hm:Mx w):
    Calls Tryz.prog 125 #[.string ⟨(ratL q).toArray⟩,.string ⟨#[47]⟩] w fun e w'=>e=.returned (.tuple #[.string ⟨(Lib.itoa q.num).toArray⟩,.string ⟨(if q.den=1 then [] else Lib.itoa (q.den:Int)).toArray⟩,.bool (decide (q.den≠1))])∧Gr w w':=by
  obtain ⟨m,hm⟩:=hm
  have hl:=ratL_len h1 h2
  refine (Tryz.strings_Cut ⟨(ratL q).toArray⟩ ⟨#[47]⟩ m w (by show (ratL q).toArray.size<_;simp;omega) hm).mono ?_
  rintro e w1 ⟨he,n,rfl⟩
  refine ⟨?_,(Below.refl _ _).drewN _⟩
  rw [he]
  have e1:(⟨(ratL q).toArray⟩:ByteArray).data.toList=ratL q:=by simp
  rw [e1,show (⟨#[47]⟩:ByteArray).data.toList=[47] from rfl,cut_slash,numL_ratL,cutL_ratL]
  by_cases h:q.den=1<;>simp [h]
theorem trimprefix_minus (z:Int) (w:World):Calls Tryz.prog 127 #[.string ⟨(Lib.itoa z).toArray⟩,.string ⟨#[45]⟩] w fun e w'=>e=.returned (.string ⟨(Lib.decDigits z.natAbs).toArray⟩)∧Gr w w':=by
  refine (Tryz.strings_TrimPrefix _ _ _).mono ?_
  rintro e w1 ⟨he,rfl⟩
  refine ⟨?_,Gr.refl _⟩
  rw [he]
  show Ending.returned (.string ⟨(Lib.trimPrefix (Lib.itoa z) [45]).toArray⟩)=_
  by_cases h:z<0
  · have h1:Lib.hasPrefix (Lib.itoa z) [45]=true:=by rw [itoa_neg h];simp [Lib.hasPrefix]
    rw [Lib.trimPrefix,h1,if_pos rfl,itoa_neg h];rfl
  · have h1:Lib.hasPrefix (Lib.itoa z) [45]=false:=by
      rw [itoa_nonneg (by omega)]
      rcases hd:Lib.decDigits z.natAbs with _ | ⟨c,l⟩
      · rfl
      · have hc:=dec_all z.natAbs c (by rw [hd];simp)
        have hne:¬ (45:UInt8)=c:=fun e=>by rw [← e] at hc;simp at hc
        simp [Lib.hasPrefix,List.isPrefixOf,hne]
    rw [Lib.trimPrefix,h1,if_neg (by decide),itoa_nonneg (by omega)]
theorem trimS_all {l cs:List UInt8} (h:∀ c ∈ l,cs.contains c=true):Lib.trimS l cs=[]:=by
  have key:∀ {l:List UInt8},(∀ c ∈ l,cs.contains c=true)→l.dropWhile (cs.contains ·)=[]:=by
    intro l
    induction l with
    | nil=>intro _;rfl
    | cons c l ih=>intro h;rw [List.dropWhile_cons,if_pos (h c (by simp))];exact ih (fun x hx=>h x (by simp [hx]))
  unfold Lib.trimS Lib.trimRightS Lib.trimLeftS
  rw [key (l:=l.reverse) (fun c hc=>h c (by simpa using hc))]
  rfl
theorem digit_in {c:UInt8} (h:48≤c.toNat∧c.toNat≤57):[48,49,50,51,52,53,54,55,56,57].contains c=true:=by
  have:c=48∨c=49∨c=50∨c=51∨c=52∨c=53∨c=54∨c=55∨c=56∨c=57:=by
    simp only [← UInt8.toNat_inj]
    simp
    omega
  rcases this with rfl | rfl | rfl | rfl | rfl | rfl | rfl | rfl | rfl | rfl<;>decide
theorem trim_digits (n:Nat) (hn:(Lib.decDigits n).length≤1000000) (w:World):
    Calls Tryz.prog 128 #[.string ⟨(Lib.decDigits n).toArray⟩,.string ⟨#[48,49,50,51,52,53,54,55,56,57]⟩] w fun e w'=>e=.returned (.string ⟨#[]⟩)∧Gr w w':=by
  refine (Any.strings_Trim_laid Tryz.lays160 (by kernel_rfl) ⟨(Lib.decDigits n).toArray⟩ ⟨#[48,49,50,51,52,53,54,55,56,57]⟩ w (by show (Lib.decDigits n).toArray.size≤_;simp;omega) (by decide) (ascii_of_all (by decide))).mono ?_
  rintro e w1 ⟨he,g⟩
  refine ⟨?_,g⟩
  rw [he,trimS_all (l:=(⟨(Lib.decDigits n).toArray⟩:ByteArray).data.toList) (fun c hc=>digit_in (dec_all n c (by simpa using hc)))]
set_option maxHeartbeats 1000000 in
theorem rdigits_t (n:Nat) (hn:(Lib.decDigits n).length≤1000000) (w:World):
    Calls Tryz.prog 126 #[.string ⟨(Lib.decDigits n).toArray⟩] w fun e w'=>e=.returned (.bool true)∧Gr w w':=by
  obtain ⟨D,hD⟩:∃ D:ByteArray,D=⟨(Lib.decDigits n).toArray⟩:=⟨_,rfl⟩
  have hc:=trim_digits n hn
  have hne:(D.toList==[])=false:=by
    rw [beq_eq_false_iff_ne,ByteArray.toList_eq,hD]
    simpa using dec_ne' n
  rw [← hD] at hc ⊢
  clear hD
  go_enter Tryz.func126,Tryz.ntmps126
  go_wp2_with fail
  (with_reducible refine (hc _).mono ?_)
  rintro e w1 ⟨rfl,g1⟩
  clear hc
  go_wp2
  go_ret
  exact ⟨rfl,g1⟩
theorem drop_mem {p:UInt8→Bool}:∀ {l:List UInt8} {c:UInt8},c ∈ l→p c=false→c ∈ l.dropWhile p
  | [],_,h,_=>by cases h
  | x::l,c,h,hc=>by
    rw [List.dropWhile_cons]
    by_cases hx:p x=true
    · rw [if_pos hx]
      rcases List.mem_cons.1 h with e | h
      · rw [e,hx] at hc;cases hc
      · exact drop_mem h hc
    · rw [if_neg hx];exact h
theorem trimS_some {l cs:List UInt8} {c:UInt8} (h:c ∈ l) (hc:cs.contains c=false):Lib.trimS l cs≠[]:=by
  have h1:c ∈ Lib.trimRightS l cs:=by
    unfold Lib.trimRightS
    rw [List.mem_reverse]
    exact drop_mem (by simpa using h) hc
  exact fun e=>by have:=drop_mem (p:=(cs.contains ·)) h1 hc;unfold Lib.trimS Lib.trimLeftS at e;rw [e] at this;cases this
theorem trim_zero (d:Nat) (hd:0<d) (hn:(Lib.decDigits d).length≤1000000) (w:World):
    Calls Tryz.prog 128 #[.string ⟨(Lib.decDigits d).toArray⟩,.string ⟨#[48]⟩] w fun e w'=>(∃ L:List UInt8,e=.returned (.string ⟨L.toArray⟩)∧L≠[])∧Gr w w':=by
  refine (Any.strings_Trim_laid Tryz.lays160 (by kernel_rfl) ⟨(Lib.decDigits d).toArray⟩ ⟨#[48]⟩ w (by show (Lib.decDigits d).toArray.size≤_;simp;omega) (by decide) (ascii_of_all (by decide))).mono ?_
  rintro e w1 ⟨he,g⟩
  obtain ⟨c,hc,h1,_⟩:=dec_head hd
  refine ⟨⟨_,he,trimS_some (c:=c) (by simpa using List.mem_of_getElem? hc) ?_⟩,g⟩
  have:¬ c=48:=fun e=>by rw [e] at h1;simp at h1
  simp [this]
theorem cut_w (q:Rat) {k:Nat} (h1:Sz k q.num) (h2:Sz k (q.den:Int)) (hk:k≤400000) (hw:q.den=1) {w:World} (hm:Mx w):
    Calls Tryz.prog 125 #[.string ⟨(ratL q).toArray⟩,.string ⟨#[47]⟩] w fun e w'=>e=.returned (.tuple #[.string ⟨(Lib.itoa q.num).toArray⟩,.string ⟨([]:List UInt8).toArray⟩,.bool false])∧Gr w w':=by
  have:=cut_q q h1 h2 hk hm
  rw [if_pos hw,show decide (q.den≠1)=false by simp [hw]] at this
  exact this
theorem cut_f (q:Rat) {k:Nat} (h1:Sz k q.num) (h2:Sz k (q.den:Int)) (hk:k≤400000) (hw:¬ q.den=1) {w:World} (hm:Mx w):
    Calls Tryz.prog 125 #[.string ⟨(ratL q).toArray⟩,.string ⟨#[47]⟩] w fun e w'=>e=.returned (.tuple #[.string ⟨(Lib.itoa q.num).toArray⟩,.string ⟨(Lib.itoa (q.den:Int)).toArray⟩,.bool true])∧Gr w w':=by
  have:=cut_q q h1 h2 hk hm
  rw [if_neg hw,show decide (q.den≠1)=true by simp [hw]] at this
  exact this
theorem rdigits_n {k:Nat} (z:Int) (h:Sz k z) (hk:k≤400000) (w:World):
    Calls Tryz.prog 126 #[.string ⟨(Lib.decDigits z.natAbs).toArray⟩] w fun e w'=>e=.returned (.bool true)∧Gr w w':=
  rdigits_t _ (by have:=dec_len_sz h;omega) w
theorem rdigits_d {k:Nat} (d:Nat) (h:Sz k (d:Int)) (hk:k≤400000) (w:World):
    Calls Tryz.prog 126 #[.string ⟨(Lib.itoa (d:Int)).toArray⟩] w fun e w'=>e=.returned (.bool true)∧Gr w w':=by
  have:=rdigits_n (d:Int) h hk w
  rw [← itoa_nonneg (by omega)] at this
  exact this
theorem trim_zero_d {k:Nat} (d:Nat) (h:Sz k (d:Int)) (hd:0<d) (hk:k≤400000) (w:World):
    Calls Tryz.prog 128 #[.string ⟨(Lib.itoa (d:Int)).toArray⟩,.string ⟨#[48]⟩] w fun e w'=>(∃ L:List UInt8,e=.returned (.string ⟨L.toArray⟩)∧(L==[])=false)∧Gr w w':=by
  have:=trim_zero d hd (by have:=dec_len_sz h;rw [Int.natAbs_natCast] at this;omega) w
  rw [itoa_nonneg (by omega),Int.natAbs_natCast]
  refine this.mono ?_
  rintro e w1 ⟨⟨L,he,hL⟩,g⟩
  exact ⟨⟨L,he,beq_eq_false_iff_ne.2 hL⟩,g⟩
theorem isRat_parts {w:World} {k:Nat} {x y x2 y2:Value} {q:Rat} (h1:IsInt w k x y q.num) (h2:IsInt w k x2 y2 (q.den:Int)) (h3:64≤k):IsRat w k x y x2 y2 q:=⟨h1,⟨_,h2,.inl rfl⟩,h3⟩
theorem rat_coprime (q:Rat):(Int.gcd q.num (q.den:Int):Int)=1:=by
  have:=q.reduced
  show ((Nat.gcd q.num.natAbs (q.den:Int).natAbs:Nat):Int)=1
  rw [Int.natAbs_natCast]
  have h:Nat.gcd q.num.natAbs q.den=1:=this
  rw [h];rfl
set_option maxRecDepth 100000 in
set_option maxHeartbeats 1000000 in
theorem read_w {k:Nat} (q:Rat) (hq:Sz k q.num∧Sz k (q.den:Int)) (_hk:k≤20000) (h64:64≤k) (most:Int) (_hlong:((ratL q).length:Int)≤most) (w:World) (hm:Mx w) (hw:q.den=1):
    Calls Tryz.prog 99 #[(.string ⟨(ratL (q):List UInt8).toArray⟩),(.int .i64 (most))] w fun e w'=>(∃ c0 c1 c2 c3,e=.returned (.tuple #[.agg #[c0,c1,c2,c3],.int .i64 0])∧IsRat w' k c0 c1 c2 c3 q)∧Gr w w':=by
 have hl:decide (most<((ratL q).length:Int))=false:=by simp;omega
 go_enter Tryz.func99,Tryz.ntmps99
 have hB:=Gr.refl w
 refine wp_seq_k (fun K1 k1=>?_)
 refine rg [0,1] ?_
 refine se ?_
 refine ea 71 #[(.bool false),(.slice none 0 0),(.bool false),(.slice none 0 0)] 4 hB fun b2 w2 g2 L2 o2 q2 hB=>?_
 simp only [p3,p4]
 refine sv 5 (.int .i64 0) ?_
 refine sq_nil ?_
 refine k1 _ _ ?_
 try clear k1 K1
 refine wp_seq_k (fun K3 k3=>?_)
 refine rg [0,1] ?_
 refine sv 13 (.string ⟨(ratL (q):List UInt8).toArray⟩) ?_
 refine sv 6 (.string ⟨(ratL (q):List UInt8).toArray⟩) ?_
 refine sq_nil ?_
 refine k3 _ _ ?_
 try clear k3 K3
 refine wp_seq_k (fun K4 k4=>?_)
 refine rg [0,1,2,3,4,5,6,7,8] ?_
 refine sv 15 (.string ⟨(ratL (q):List UInt8).toArray⟩) ?_
 refine se ?_
 refine ec 16 (cut_w q hq.1 hq.2 (by omega) hw (hm.gr hB)) ?_
 rintro e5 w5 ⟨rfl,g5⟩
 refine ⟨_,rfl,?_⟩
 replace hB:=hB.trans g5
 simp only [p3,p4]
 refine sv 14 (.tuple #[(.string ⟨(Lib.itoa (q.num):List UInt8).toArray⟩),(.string ⟨([]:List UInt8).toArray⟩),(.bool false)]) ?_
 refine sv 17 (.string ⟨(Lib.itoa (q.num):List UInt8).toArray⟩) ?_
 refine sv 18 (.string ⟨([]:List UInt8).toArray⟩) ?_
 refine sv 19 (.bool false) ?_
 refine sv 7 (.string ⟨(Lib.itoa (q.num):List UInt8).toArray⟩) ?_
 refine sv 8 (.string ⟨([]:List UInt8).toArray⟩) ?_
 refine sv 9 (.bool false) ?_
 refine sq_nil ?_
 refine k4 _ _ ?_
 try clear k4 K4
 refine wp_seq_k (fun K6 k6=>?_)
 refine wp_block ?_
 refine wp_seq_k (fun K7 k7=>?_)
 refine rg [0,1,2,3,4] ?_
 refine sv 21 (.string ⟨(ratL (q):List UInt8).toArray⟩) ?_
 refine sv 22 (.int .i64 (((ratL (q)).length:Int))) ?_
 refine sv 23 (.int .i64 (most)) ?_
 refine sw 24 (.bool false) rfl (RunV.bool (x:=decide (most<((ratL (q)).length:Int))) (rvk (by kernel_rfl)) hl) ?_
 refine sv 20 (.bool false) ?_
 refine sq_nil ?_
 refine k7 _ _ ?_
 try clear k7 K7
 refine wp_cond_false rfl ?_
 refine wp_seq_k (fun K8 k8=>?_)
 refine rg [0,1,2,3,4,5,6,7,8,9,10,11,12] ?_
 refine sv 27 (.string ⟨(Lib.itoa (q.num):List UInt8).toArray⟩) ?_
 refine se ?_
 refine ec 28 (trimprefix_minus (q.num) _) ?_
 rintro e9 w9 ⟨rfl,g9⟩
 refine ⟨_,rfl,?_⟩
 replace hB:=hB.trans g9
 simp only [p3,p4]
 refine se ?_
 refine ec 29 (rdigits_n q.num hq.1 (by omega) _) ?_
 rintro e10 w10 ⟨rfl,g10⟩
 refine ⟨_,rfl,?_⟩
 replace hB:=hB.trans g10
 simp only [p3,p4]
 refine sv 30 (.bool false) ?_
 refine sv 31 (.bool false) ?_
 refine sv 32 (.bool false) ?_
 refine sv 33 (.bool false) ?_
 refine ss 34 ?_
 refine ss 35 ?_
 refine ss 36 ?_
 refine sv 37 (.bool false) ?_
 refine sv 38 (.bool false) ?_
 refine sv 26 (.bool false) ?_
 refine sq_nil ?_
 refine k8 _ _ ?_
 try clear k8 K8
 refine wp_cond_false rfl ?_
 refine wp_seq_k (fun K11 k11=>?_)
 refine rg [0,1,2,3,4,5,6] ?_
 refine sv 41 (.bool false) ?_
 refine sv 42 (.bool false) ?_
 refine ss 43 ?_
 refine ss 44 ?_
 refine ss 45 ?_
 refine sv 46 (.bool false) ?_
 refine sv 40 (.bool false) ?_
 refine sq_nil ?_
 refine k11 _ _ ?_
 try clear k11 K11
 refine wp_cond_false rfl ?_
 refine wp_skip ?_
 refine k6 _ _ ?_
 try clear k6 K6
 refine wp_seq_k (fun K12 k12=>?_)
 refine rg [0,1,2,3,4,5,6,7] ?_
 refine sv 49 (.string ⟨(Lib.itoa (q.num):List UInt8).toArray⟩) ?_
 refine se ?_
 refine ec 50 (parse_i (q.num) hq.1 (by omega) _) ?_
 rintro e13 w13 ⟨⟨x13,y13,rfl,h13⟩,g13⟩
 refine ⟨_,rfl,?_⟩
 replace hB:=hB.trans g13
 simp only [p3,p4]
 refine sv 48 (.tuple #[(.agg #[x13,y13]),(.int .i64 0)]) ?_
 refine sv 51 (.agg #[x13,y13]) ?_
 refine sv 52 (.int .i64 0) ?_
 refine se ?_
 refine ea 69 #[(.bool false),(.slice none 0 0)] 10 hB fun b14 w14 g14 L14 o14 q14 hB=>?_
 replace L2:=L2.gr (g5.trans (g9.trans (g10.trans g13)))
 have ne2_14:=L2.ne o14
 simp only [p3,p4]
 refine se ?_
 refine es 69 0 (.agg #[x13,y13]) [x13,y13] #[x13,y13] L14 hB q14 ⟨h13.one0,h13.one1,trivial⟩ fun w15 st15 kp15 L14 hB=>?_
 refine sv 11 (.int .i64 0) ?_
 refine sq_nil ?_
 refine k12 _ _ ?_
 try clear k12 K12
 refine wp_seq_k (fun K16 k16=>?_)
 refine wp_seq_k (fun K17 k17=>?_)
 refine rg [0,1] ?_
 refine sv 53 (.int .i64 0) ?_
 refine sv 54 (.bool false) ?_
 refine sq_nil ?_
 refine k17 _ _ ?_
 try clear k17 K17
 refine wp_cond_false rfl ?_
 refine wp_skip ?_
 refine k16 _ _ ?_
 try clear k16 K16
 refine wp_seq_k (fun K18 k18=>?_)
 refine wp_seq_k (fun K19 k19=>?_)
 refine rg [0,1] ?_
 refine sv 56 (.bool false) ?_
 refine sv 57 (.bool true) ?_
 refine sq_nil ?_
 refine k19 _ _ ?_
 try clear k19 K19
 refine wp_cond_true rfl ?_
 refine wp_seq_k (fun K20 k20=>?_)
 refine rg [0,1,2,3] ?_
 refine sw 58 (.agg #[x13,y13]) rfl (rl 69 0 [x13,y13] L14) ?_
 refine sv 59 (.agg #[x13,y13,(.bool false),(.slice none 0 0)]) ?_
 refine se ?_
 replace L2:=st15.lc (L2.gr g14) ne2_14
 refine es 71 0 (.agg #[x13,y13,(.bool false),(.slice none 0 0)]) [x13,y13,(.bool false),(.slice none 0 0)] #[x13,y13,(.bool false),(.slice none 0 0)] L2 hB q2 ⟨h13.one0,h13.one1,rfl,rfl,trivial⟩ fun w21 st21 kp21 L2 hB=>?_
 refine sv 5 (.int .i64 0) ?_
 refine sq_nil ?_
 refine k20 _ _ ?_
 try clear k20 K20
 refine wp_ret ?_
 simp only [Exit.then]
 refine bodyPost_ret (v:=(.tuple #[(.agg #[x13,y13,(.bool false),(.slice none 0 0)]),(.int .i64 0)])) (ret_cell_tmp' _ _ _ rfl rfl L2 (by kernel_rfl) rfl) rfl ⟨?_,hB⟩
 have kq22:=g14.kp.trans (kp15.trans kp21)
 replace h13:=h13.kp kq22
 exact ⟨_,_,_,_,rfl,by have:=IsRat.int h13 h64;rw [rat_int hw] at this;exact this⟩

set_option maxRecDepth 100000 in
set_option maxHeartbeats 1000000 in
theorem read_f {k:Nat} (q:Rat) (hq:Sz k q.num∧Sz k (q.den:Int)) (_hk:k≤20000) (h64:64≤k) (most:Int) (_hlong:((ratL q).length:Int)≤most) (w:World) (hm:Mx w) (hw:¬ q.den=1):
    Calls Tryz.prog 99 #[(.string ⟨(ratL (q):List UInt8).toArray⟩),(.int .i64 (most))] w fun e w'=>(∃ c0 c1 c2 c3,e=.returned (.tuple #[.agg #[c0,c1,c2,c3],.int .i64 0])∧IsRat w' k c0 c1 c2 c3 q)∧Gr w w':=by
 have hl:decide (most<((ratL q).length:Int))=false:=by simp;omega
 have h1:(sgn ((q.den:Int) - 1)==(0:Int))=false:=by rw [beq_eq_false_iff_ne];exact fun e=>hw (by have:=sgn_eq_zero.1 e;omega)
 have h2:(sgn ((Int.gcd (q.num) ((q.den:Int)):Int) - 1) !=(0:Int))=false:=by rw [rat_coprime];rfl
 go_enter Tryz.func99,Tryz.ntmps99
 have hB:=Gr.refl w
 refine wp_seq_k (fun K1 k1=>?_)
 refine rg [0,1] ?_
 refine se ?_
 refine ea 71 #[(.bool false),(.slice none 0 0),(.bool false),(.slice none 0 0)] 4 hB fun b2 w2 g2 L2 o2 q2 hB=>?_
 simp only [p3,p4]
 refine sv 5 (.int .i64 0) ?_
 refine sq_nil ?_
 refine k1 _ _ ?_
 try clear k1 K1
 refine wp_seq_k (fun K3 k3=>?_)
 refine rg [0,1] ?_
 refine sv 13 (.string ⟨(ratL (q):List UInt8).toArray⟩) ?_
 refine sv 6 (.string ⟨(ratL (q):List UInt8).toArray⟩) ?_
 refine sq_nil ?_
 refine k3 _ _ ?_
 try clear k3 K3
 refine wp_seq_k (fun K4 k4=>?_)
 refine rg [0,1,2,3,4,5,6,7,8] ?_
 refine sv 15 (.string ⟨(ratL (q):List UInt8).toArray⟩) ?_
 refine se ?_
 refine ec 16 (cut_f q hq.1 hq.2 (by omega) hw (hm.gr hB)) ?_
 rintro e5 w5 ⟨rfl,g5⟩
 refine ⟨_,rfl,?_⟩
 replace hB:=hB.trans g5
 simp only [p3,p4]
 refine sv 14 (.tuple #[(.string ⟨(Lib.itoa (q.num):List UInt8).toArray⟩),(.string ⟨(Lib.itoa ((q.den:Int)):List UInt8).toArray⟩),(.bool true)]) ?_
 refine sv 17 (.string ⟨(Lib.itoa (q.num):List UInt8).toArray⟩) ?_
 refine sv 18 (.string ⟨(Lib.itoa ((q.den:Int)):List UInt8).toArray⟩) ?_
 refine sv 19 (.bool true) ?_
 refine sv 7 (.string ⟨(Lib.itoa (q.num):List UInt8).toArray⟩) ?_
 refine sv 8 (.string ⟨(Lib.itoa ((q.den:Int)):List UInt8).toArray⟩) ?_
 refine sv 9 (.bool true) ?_
 refine sq_nil ?_
 refine k4 _ _ ?_
 try clear k4 K4
 refine wp_seq_k (fun K6 k6=>?_)
 refine wp_block ?_
 refine wp_seq_k (fun K7 k7=>?_)
 refine rg [0,1,2,3,4] ?_
 refine sv 21 (.string ⟨(ratL (q):List UInt8).toArray⟩) ?_
 refine sv 22 (.int .i64 (((ratL (q)).length:Int))) ?_
 refine sv 23 (.int .i64 (most)) ?_
 refine sw 24 (.bool false) rfl (RunV.bool (x:=decide (most<((ratL (q)).length:Int))) (rvk (by kernel_rfl)) hl) ?_
 refine sv 20 (.bool false) ?_
 refine sq_nil ?_
 refine k7 _ _ ?_
 try clear k7 K7
 refine wp_cond_false rfl ?_
 refine wp_seq_k (fun K8 k8=>?_)
 refine rg [0,1,2,3,4,5,6,7,8,9,10,11,12] ?_
 refine sv 27 (.string ⟨(Lib.itoa (q.num):List UInt8).toArray⟩) ?_
 refine se ?_
 refine ec 28 (trimprefix_minus (q.num) _) ?_
 rintro e9 w9 ⟨rfl,g9⟩
 refine ⟨_,rfl,?_⟩
 replace hB:=hB.trans g9
 simp only [p3,p4]
 refine se ?_
 refine ec 29 (rdigits_n q.num hq.1 (by omega) _) ?_
 rintro e10 w10 ⟨rfl,g10⟩
 refine ⟨_,rfl,?_⟩
 replace hB:=hB.trans g10
 simp only [p3,p4]
 refine sv 30 (.bool false) ?_
 refine sv 31 (.bool false) ?_
 refine sv 32 (.bool true) ?_
 refine sv 33 (.bool true) ?_
 refine sv 34 (.string ⟨(Lib.itoa ((q.den:Int)):List UInt8).toArray⟩) ?_
 refine se ?_
 refine ec 35 (rdigits_d q.den hq.2 (by omega) _) ?_
 rintro e11 w11 ⟨rfl,g11⟩
 refine ⟨_,rfl,?_⟩
 replace hB:=hB.trans g11
 simp only [p3,p4]
 refine sv 36 (.bool false) ?_
 refine sv 37 (.bool false) ?_
 refine sv 38 (.bool false) ?_
 refine sv 26 (.bool false) ?_
 refine sq_nil ?_
 refine k8 _ _ ?_
 try clear k8 K8
 refine wp_cond_false rfl ?_
 refine wp_seq_k (fun K12 k12=>?_)
 refine rg [0,1,2,3,4,5,6] ?_
 refine sv 41 (.bool true) ?_
 refine sv 42 (.bool true) ?_
 refine sv 43 (.string ⟨(Lib.itoa ((q.den:Int)):List UInt8).toArray⟩) ?_
 refine se ?_
 refine ec 44 (trim_zero_d q.den hq.2 q.den_pos (by omega) _) ?_
 rintro e13 w13 ⟨⟨L13,rfl,hL13⟩,g13⟩
 refine ⟨_,rfl,?_⟩
 replace hB:=hB.trans g13
 simp only [p3,p4]
 refine sw 45 (.bool false) rfl (RunV.bool (x:=((L13)==([]:List UInt8))) (rv_seq 9 9 _ _ (L13) ([]) rfl rfl rfl) hL13) ?_
 refine sv 46 (.bool false) ?_
 refine sv 40 (.bool false) ?_
 refine sq_nil ?_
 refine k12 _ _ ?_
 try clear k12 K12
 refine wp_cond_false rfl ?_
 refine wp_skip ?_
 refine k6 _ _ ?_
 try clear k6 K6
 refine wp_seq_k (fun K14 k14=>?_)
 refine rg [0,1,2,3,4,5,6,7] ?_
 refine sv 49 (.string ⟨(Lib.itoa (q.num):List UInt8).toArray⟩) ?_
 refine se ?_
 refine ec 50 (parse_i (q.num) hq.1 (by omega) _) ?_
 rintro e15 w15 ⟨⟨x15,y15,rfl,h15⟩,g15⟩
 refine ⟨_,rfl,?_⟩
 replace hB:=hB.trans g15
 simp only [p3,p4]
 refine sv 48 (.tuple #[(.agg #[x15,y15]),(.int .i64 0)]) ?_
 refine sv 51 (.agg #[x15,y15]) ?_
 refine sv 52 (.int .i64 0) ?_
 refine se ?_
 refine ea 69 #[(.bool false),(.slice none 0 0)] 10 hB fun b16 w16 g16 L16 o16 q16 hB=>?_
 replace L2:=L2.gr (g5.trans (g9.trans (g10.trans (g11.trans (g13.trans g15)))))
 have ne2_16:=L2.ne o16
 simp only [p3,p4]
 refine se ?_
 refine es 69 0 (.agg #[x15,y15]) [x15,y15] #[x15,y15] L16 hB q16 ⟨h15.one0,h15.one1,trivial⟩ fun w17 st17 kp17 L16 hB=>?_
 refine sv 11 (.int .i64 0) ?_
 refine sq_nil ?_
 refine k14 _ _ ?_
 try clear k14 K14
 refine wp_seq_k (fun K18 k18=>?_)
 refine wp_seq_k (fun K19 k19=>?_)
 refine rg [0,1] ?_
 refine sv 53 (.int .i64 0) ?_
 refine sv 54 (.bool false) ?_
 refine sq_nil ?_
 refine k19 _ _ ?_
 try clear k19 K19
 refine wp_cond_false rfl ?_
 refine wp_skip ?_
 refine k18 _ _ ?_
 try clear k18 K18
 refine wp_seq_k (fun K20 k20=>?_)
 refine wp_seq_k (fun K21 k21=>?_)
 refine rg [0,1] ?_
 refine sv 56 (.bool true) ?_
 refine sv 57 (.bool false) ?_
 refine sq_nil ?_
 refine k21 _ _ ?_
 try clear k21 K21
 refine wp_cond_false rfl ?_
 refine wp_skip ?_
 refine k20 _ _ ?_
 try clear k20 K20
 refine wp_seq_k (fun K22 k22=>?_)
 refine rg [0,1,2,3,4,5,6,7] ?_
 refine sv 61 (.string ⟨(Lib.itoa ((q.den:Int)):List UInt8).toArray⟩) ?_
 refine se ?_
 refine ec 62 (parse_i ((q.den:Int)) hq.2 (by omega) _) ?_
 rintro e23 w23 ⟨⟨x23,y23,rfl,h23⟩,g23⟩
 refine ⟨_,rfl,?_⟩
 replace hB:=hB.trans g23
 simp only [p3,p4]
 refine sv 60 (.tuple #[(.agg #[x23,y23]),(.int .i64 0)]) ?_
 refine sv 63 (.agg #[x23,y23]) ?_
 refine sv 64 (.int .i64 0) ?_
 refine se ?_
 refine ea 69 #[(.bool false),(.slice none 0 0)] 12 hB fun b24 w24 g24 L24 o24 q24 hB=>?_
 replace L2:=(st17.lc (L2.gr g16) ne2_16).gr g23
 have ne2_24:=L2.ne o24
 replace L16:=L16.gr g23
 have ne16_24:=L16.ne o24
 simp only [p3,p4]
 refine se ?_
 refine es 69 0 (.agg #[x23,y23]) [x23,y23] #[x23,y23] L24 hB q24 ⟨h23.one0,h23.one1,trivial⟩ fun w25 st25 kp25 L24 hB=>?_
 refine sv 11 (.int .i64 0) ?_
 refine sq_nil ?_
 refine k22 _ _ ?_
 try clear k22 K22
 refine wp_seq_k (fun K26 k26=>?_)
 refine wp_seq_k (fun K27 k27=>?_)
 have gd41:=Gr.drew w25
 replace hB:=hB.trans gd41
 replace L16:=(st25.lc (L16.gr g24) ne16_24).gr gd41
 replace L24:=L24.gr gd41
 refine wp_region_ord (fun w'=>Lc w' b16 #[x15,y15] 69∧Lc w' b24 #[x23,y23] 69) [(true,0),(true,1),(true,2),(true,3),(false,4),(false,5),(true,6),(true,7),(true,8),(true,9),(true,10),(false,11),(false,12),(false,13),(true,14),(true,15)] (by kernel_rfl) (by kernel_rfl) (by kernel_rfl) (by decide) (fun _ _ _ _ _ h=>h) ⟨L16,L24⟩ ?_
 refine ov 65 (.int .i64 0) ?_
 refine ov 66 (.bool false) ?_
 refine ov 67 (.bool false) ?_
 refine ow 68 (.agg #[x23,y23]) rfl (fun w' hS=>(rl 69 0 [x23,y23] hS.2)) ?_
 refine oe ?_
 refine ec 69 (one_i _) ?_
 rintro e43 w43 ⟨⟨x43,y43,rfl,h43⟩,g43⟩
 refine ⟨_,rfl,?_⟩
 replace hB:=hB.trans g43
 replace L16:=L16.gr g43
 replace L24:=L24.gr g43
 refine ⟨⟨L16,L24⟩,?_⟩
 simp only [p3,p4]
 refine oe ?_
 have kq46:=g24.kp.trans (kp25.trans (gd41.kp.trans g43.kp))
 replace h23:=h23.kp kq46
 refine ec 70 (compare_i h23 h43 (by omega) (by omega)) ?_
 rintro e45 w45 ⟨rfl,g45⟩
 refine ⟨_,rfl,?_⟩
 replace hB:=hB.trans g45
 replace L16:=L16.gr g45
 replace L24:=L24.gr g45
 refine ⟨⟨L16,L24⟩,?_⟩
 simp only [p3,p4]
 refine ow 71 (.bool false) rfl (fun w' hS=>(RunV.bool (x:=(sgn ((q.den:Int) - 1)==(0:Int))) (rvk (by kernel_rfl)) h1)) ?_
 refine ov 72 (.bool false) ?_
 refine ov 73 (.bool false) ?_
 refine ow 74 (.agg #[x15,y15]) rfl (fun w' hS=>(rl 69 0 [x15,y15] hS.1)) ?_
 refine ow 75 (.agg #[x23,y23]) rfl (fun w' hS=>(rl 69 0 [x23,y23] hS.2)) ?_
 refine oe ?_
 have kq49:=g16.kp.trans (kp17.trans (g23.kp.trans (g24.kp.trans (kp25.trans (gd41.kp.trans (g43.kp.trans g45.kp))))))
 replace h15:=h15.kp kq49
 replace h23:=h23.kp g45.kp
 refine ec 76 (gcd_i h15 h23 (by omega)) ?_
 rintro e48 w48 ⟨⟨x48,y48,rfl,h48⟩,g48⟩
 refine ⟨_,rfl,?_⟩
 replace hB:=hB.trans g48
 replace L16:=L16.gr g48
 replace L24:=L24.gr g48
 refine ⟨⟨L16,L24⟩,?_⟩
 simp only [p3,p4]
 refine oe ?_
 refine ec 77 (one_i _) ?_
 rintro e51 w51 ⟨⟨x51,y51,rfl,h51⟩,g51⟩
 refine ⟨_,rfl,?_⟩
 replace hB:=hB.trans g51
 replace L16:=L16.gr g51
 replace L24:=L24.gr g51
 refine ⟨⟨L16,L24⟩,?_⟩
 simp only [p3,p4]
 refine oe ?_
 replace h48:=h48.kp g51.kp
 refine ec 78 (compare_i h48 h51 (by omega) (by omega)) ?_
 rintro e53 w53 ⟨rfl,g53⟩
 refine ⟨_,rfl,?_⟩
 replace hB:=hB.trans g53
 replace L16:=L16.gr g53
 replace L24:=L24.gr g53
 refine ⟨⟨L16,L24⟩,?_⟩
 simp only [p3,p4]
 refine ow 79 (.bool false) rfl (fun w' hS=>(RunV.bool (x:=(sgn ((Int.gcd (q.num) ((q.den:Int)):Int) - 1) !=(0:Int))) (rvk (by kernel_rfl)) h2)) ?_
 refine ov 80 (.bool false) ?_
 refine ord_nil ?_
 refine k27 _ _ ?_
 try clear k27 K27
 refine wp_cond_false rfl ?_
 refine wp_skip ?_
 refine k26 _ _ ?_
 try clear k26 K26
 refine wp_seq_k (fun K54 k54=>?_)
 refine rg [0,1,2,3,4] ?_
 refine sw 82 (.agg #[x15,y15]) rfl (rl 69 0 [x15,y15] L16) ?_
 refine sw 83 (.agg #[x23,y23]) rfl (rl 69 0 [x23,y23] L24) ?_
 refine sv 84 (.agg #[x15,y15,x23,y23]) ?_
 refine se ?_
 replace L2:=(st25.lc (L2.gr g24) ne2_24).gr (gd41.trans (g43.trans (g45.trans (g48.trans (g51.trans g53)))))
 refine es 71 0 (.agg #[x15,y15,x23,y23]) [x15,y15,x23,y23] #[x15,y15,x23,y23] L2 hB q2 ⟨h15.one0,h15.one1,h23.one0,h23.one1,trivial⟩ fun w55 st55 kp55 L2 hB=>?_
 refine sv 5 (.int .i64 0) ?_
 refine sq_nil ?_
 refine k54 _ _ ?_
 try clear k54 K54
 refine wp_ret ?_
 refine bodyPost_ret (v:=(.tuple #[(.agg #[x15,y15,x23,y23]),(.int .i64 0)])) (ret_cell_tmp' _ _ _ rfl rfl L2 (by kernel_rfl) rfl) rfl ⟨?_,hB⟩
 have kq56:=g48.kp.trans (g51.kp.trans (g53.kp.trans kp55))
 replace h15:=h15.kp kq56
 replace h23:=h23.kp kq56
 exact ⟨_,_,_,_,rfl,isRat_parts h15 h23 h64⟩

theorem read_q {k:Nat} (q:Rat) (hq:Sz k q.num∧Sz k (q.den:Int)) (hk:k≤20000) (h64:64≤k) (most:Int) (hlong:((ratL q).length:Int)≤most) (w:World) (hm:Mx w):
    Calls Tryz.prog 99 #[(.string ⟨(ratL (q):List UInt8).toArray⟩),(.int .i64 (most))] w fun e w'=>(∃ c0 c1 c2 c3,e=.returned (.tuple #[.agg #[c0,c1,c2,c3],.int .i64 0])∧IsRat w' k c0 c1 c2 c3 q)∧Gr w w':=by
  by_cases hw:q.den=1
  · exact read_w q hq hk h64 most hlong w hm hw
  · exact read_f q hq hk h64 most hlong w hm hw

set_option maxRecDepth 100000 in
set_option maxHeartbeats 1000000 in
theorem parse_q {k:Nat} (q:Rat) (hq:Sz k q.num∧Sz k (q.den:Int)) (hk:k≤20000) (h64:64≤k) (_hlong:((ratL q).length:Int)≤400) (w:World) (hm:Mx w):
    Calls Tryz.prog 71 #[(.string ⟨(ratL (q):List UInt8).toArray⟩)] w fun e w'=>(∃ c0 c1 c2 c3,e=.returned (.tuple #[.agg #[c0,c1,c2,c3],.int .i64 0])∧IsRat w' k c0 c1 c2 c3 q)∧Gr w w':=by
 go_enter Tryz.func71,Tryz.ntmps71
 have hB:=Gr.refl w
 refine wp_seq_k (fun K1 k1=>?_)
 refine rg [0,1] ?_
 refine se ?_
 refine ea 71 #[(.bool false),(.slice none 0 0),(.bool false),(.slice none 0 0)] 2 hB fun b2 w2 g2 L2 o2 q2 hB=>?_
 simp only [p3,p4]
 refine sv 3 (.int .i64 0) ?_
 refine sq_nil ?_
 refine k1 _ _ ?_
 try clear k1 K1
 refine wp_seq_k (fun K3 k3=>?_)
 refine rg [0,1,2,3,4,5] ?_
 refine sv 4 (.string ⟨(ratL (q):List UInt8).toArray⟩) ?_
 refine se ?_
 refine ec 5 (read_q q hq hk h64 400 (by omega) _ (hm.gr hB)) ?_
 rintro e4 w4 ⟨⟨cc4_0,cc4_1,cc4_2,cc4_3,rfl,h4⟩,g4⟩
 refine ⟨_,rfl,?_⟩
 replace hB:=hB.trans g4
 simp only [p3,p4]
 refine sv 6 (.agg #[cc4_0,cc4_1,cc4_2,cc4_3]) ?_
 refine sv 7 (.int .i64 0) ?_
 refine se ?_
 replace L2:=L2.gr g4
 refine es 71 0 (.agg #[cc4_0,cc4_1,cc4_2,cc4_3]) [cc4_0,cc4_1,cc4_2,cc4_3] #[cc4_0,cc4_1,cc4_2,cc4_3] L2 hB q2 ⟨h4.one0,h4.one1,h4.one2,h4.one3,trivial⟩ fun w5 st5 kp5 L2 hB=>?_
 refine sv 3 (.int .i64 0) ?_
 refine sq_nil ?_
 refine k3 _ _ ?_
 try clear k3 K3
 refine wp_ret ?_
 refine bodyPost_ret (v:=(.tuple #[(.agg #[cc4_0,cc4_1,cc4_2,cc4_3]),(.int .i64 0)])) (ret_cell_tmp' _ _ _ rfl rfl L2 (by kernel_rfl) rfl) rfl ⟨?_,hB⟩
 replace h4:=h4.kp kp5
 exact ⟨_,_,_,_,rfl,h4⟩

set_option maxRecDepth 100000 in
set_option maxHeartbeats 1000000 in
theorem number_w {k:Nat} {u0 u1 u2 u3:Value} {a:Rat} {w:World} (ha:IsRat w k u0 u1 u2 u3 a) (_hk:k≤800000) (ht:Tab w) (hw:a.den=1):
    Calls Tryz.prog 40 #[(.agg #[u0,u1,u2,u3])] w fun e w'=>e=.returned (.string ⟨(ratL a).toArray⟩)∧Gr w w':=by
 go_enter Tryz.func40,Tryz.ntmps40
 have hB:=Gr.refl w
 refine wp_seq_k (fun K1 k1=>?_)
 refine rg [0,1] ?_
 refine se ?_
 refine eb 71 #[u0,u1,u2,u3] 1 hB fun b2 w2 g2 L2 o2 q2 hB=>?_
 simp only [p3,p4]
 refine sv 2 (.string ⟨([]:List UInt8).toArray⟩) ?_
 refine sq_nil ?_
 refine k1 _ _ ?_
 try clear k1 K1
 refine wp_seq_k (fun K3 k3=>?_)
 refine wp_seq_k (fun K4 k4=>?_)
 refine rg [0,1] ?_
 refine sw 3 (.agg #[u0,u1,u2,u3]) rfl (rl 71 0 [u0,u1,u2,u3] L2) ?_
 refine se ?_
 replace ha:=ha.kp g2.kp
 refine ec 4 (whole_t ha (by omega) hw) ?_
 rintro e5 w5 ⟨rfl,g5⟩
 refine ⟨_,rfl,?_⟩
 replace hB:=hB.trans g5
 simp only [p3,p4]
 refine sq_nil ?_
 refine k4 _ _ ?_
 try clear k4 K4
 refine wp_cond_true rfl ?_
 refine wp_seq_k (fun K6 k6=>?_)
 refine rg [0,1,2,3] ?_
 refine sv 5 (.pointer (some ⟨b2,0,none⟩)) ?_
 replace L2:=L2.gr g5
 refine sw 6 (.agg #[u0,u1]) rfl (rl 69 0 [u0,u1] L2) ?_
 refine se ?_
 replace ha:=ha.kp g5.kp
 refine ec 7 (text_i ha.num (by omega) (ht.gr hB)) ?_
 rintro e7 w7 ⟨rfl,g7⟩
 refine ⟨_,rfl,?_⟩
 replace hB:=hB.trans g7
 simp only [p3,p4]
 refine sv 2 (.string ⟨(Lib.itoa (a.num):List UInt8).toArray⟩) ?_
 refine sq_nil ?_
 refine k6 _ _ ?_
 try clear k6 K6
 refine wp_ret ?_
 simp only [Exit.then]
 refine bodyPost_ret (v:=(.string ⟨(Lib.itoa (a.num):List UInt8).toArray⟩)) (ret_tmp rfl rfl) rfl ⟨?_,hB⟩
 exact (by rw [ratL_w hw])

set_option maxRecDepth 100000 in
set_option maxHeartbeats 1000000 in
theorem number_d {k:Nat} {u0 u1 u2 u3:Value} {a:Rat} {w:World} (ha:IsRat w k u0 u1 u2 u3 a) (_hk:k≤800000) (ht:Tab w) (hd:IsInt w k u2 u3 (a.den:Int)) (hw:¬ a.den=1):
    Calls Tryz.prog 40 #[(.agg #[u0,u1,u2,u3])] w fun e w'=>e=.returned (.string ⟨(ratL a).toArray⟩)∧Gr w w':=by
 have hl1:=itoa_len ha.num.sz
 have hl2:=itoa_len hd.sz
 go_enter Tryz.func40,Tryz.ntmps40
 have hB:=Gr.refl w
 refine wp_seq_k (fun K1 k1=>?_)
 refine rg [0,1] ?_
 refine se ?_
 refine eb 71 #[u0,u1,u2,u3] 1 hB fun b2 w2 g2 L2 o2 q2 hB=>?_
 simp only [p3,p4]
 refine sv 2 (.string ⟨([]:List UInt8).toArray⟩) ?_
 refine sq_nil ?_
 refine k1 _ _ ?_
 try clear k1 K1
 refine wp_seq_k (fun K3 k3=>?_)
 refine wp_seq_k (fun K4 k4=>?_)
 refine rg [0,1] ?_
 refine sw 3 (.agg #[u0,u1,u2,u3]) rfl (rl 71 0 [u0,u1,u2,u3] L2) ?_
 refine se ?_
 replace ha:=ha.kp g2.kp
 refine ec 4 (whole_f ha (by omega) hw) ?_
 rintro e5 w5 ⟨rfl,g5⟩
 refine ⟨_,rfl,?_⟩
 replace hB:=hB.trans g5
 simp only [p3,p4]
 refine sq_nil ?_
 refine k4 _ _ ?_
 try clear k4 K4
 refine wp_cond_false rfl ?_
 refine wp_skip ?_
 refine k3 _ _ ?_
 try clear k3 K3
 refine wp_seq_k (fun K6 k6=>?_)
 have gd14:=Gr.drew w5
 replace hB:=hB.trans gd14
 replace L2:=L2.gr (g5.trans gd14)
 refine wp_region_ord (fun w'=>Lc w' b2 #[u0,u1,u2,u3] 71) [(true,0),(true,1),(true,4),(true,5),(false,2),(true,3),(false,6),(true,7),(true,8)] (by kernel_rfl) (by kernel_rfl) (by kernel_rfl) (by decide) (fun _ _ _ _ _ h=>h) L2 ?_
 refine ov 8 (.pointer (some ⟨b2,0,none⟩)) ?_
 refine ow 9 (.agg #[u0,u1]) rfl (fun w' hS=>(rl 69 0 [u0,u1] hS)) ?_
 refine ov 12 (.pointer (some ⟨b2,2,none⟩)) ?_
 refine ow 13 (.agg #[u2,u3]) rfl (fun w' hS=>(rl 69 2 [u2,u3] hS)) ?_
 refine oe ?_
 have kq17:=g5.kp.trans gd14.kp
 replace ha:=ha.kp kq17
 refine ec 10 (text_i ha.num (by omega) (ht.gr hB)) ?_
 rintro e16 w16 ⟨rfl,g16⟩
 refine ⟨_,rfl,?_⟩
 replace hB:=hB.trans g16
 replace L2:=L2.gr g16
 refine ⟨L2,?_⟩
 simp only [p3,p4]
 refine ow 11 (.string ⟨((Lib.itoa (a.num))++([47]):List UInt8).toArray⟩) rfl (fun w' hS=>(rv_cat 9 9 _ _ (Lib.itoa (a.num)) ([47]) rfl rfl rfl (by simp only [List.length_cons,List.length_nil];omega))) ?_
 refine oe ?_
 have kq20:=g2.kp.trans (g5.kp.trans (gd14.kp.trans g16.kp))
 replace hd:=hd.kp kq20
 refine ec 14 (text_i hd (by omega) (ht.gr hB)) ?_
 rintro e19 w19 ⟨rfl,g19⟩
 refine ⟨_,rfl,?_⟩
 replace hB:=hB.trans g19
 replace L2:=L2.gr g19
 refine ⟨L2,?_⟩
 simp only [p3,p4]
 refine ow 15 (.string ⟨(((Lib.itoa (a.num))++([47]))++(Lib.itoa ((a.den:Int))):List UInt8).toArray⟩) rfl (fun w' hS=>(rv_cat 9 9 _ _ ((Lib.itoa (a.num))++([47])) (Lib.itoa ((a.den:Int))) rfl rfl rfl (by simp only [List.length_append,List.length_cons,List.length_nil];omega))) ?_
 refine ov 2 (.string ⟨(((Lib.itoa (a.num))++([47]))++(Lib.itoa ((a.den:Int))):List UInt8).toArray⟩) ?_
 refine ord_nil ?_
 refine k6 _ _ ?_
 try clear k6 K6
 refine wp_ret ?_
 refine bodyPost_ret (v:=(.string ⟨(((Lib.itoa (a.num))++([47]))++(Lib.itoa ((a.den:Int))):List UInt8).toArray⟩)) (ret_tmp rfl rfl) rfl ⟨?_,hB⟩
 exact (by rw [ratL_f hw])

theorem number_r {k:Nat} {u0 u1 u2 u3:Value} {a:Rat} {w:World} (ha:IsRat w k u0 u1 u2 u3 a) (hk:k≤800000) (ht:Tab w):
    Calls Tryz.prog 40 #[.agg #[u0,u1,u2,u3]] w fun e w'=>e=.returned (.string ⟨(ratL a).toArray⟩)∧Gr w w':=by
  by_cases hw:a.den=1
  · exact number_w ha hk ht hw
  · obtain ⟨D,h2,h3⟩:=ha.den
    rcases h3 with h3 | ⟨_,h4⟩
    · subst h3;exact number_d ha hk ht h2 hw
    · exact absurd h4 hw

theorem ratL_8 {q:Rat} (h:RZ 8 8 q):((ratL q).length:Int)≤400:=by
  have:=ratL_len h.1 h.2
  omega
theorem RZ.s64 {q:Rat} (h:RZ 8 8 q):Sz 64 q.num∧Sz 64 (q.den:Int):=h.mono (by omega) (by omega)
set_option maxRecDepth 100000 in
set_option maxHeartbeats 1000000 in
theorem l5_rat (q:Rat) (hq:RZ 8 8 q) (w:World) (hm:Mx w):
    Calls Tryz.prog 63 #[(.agg #[(.string ⟨(Lib.itoa ((q).num):List UInt8).toArray⟩),(.string ⟨(Lib.itoa (((q).den:Int)):List UInt8).toArray⟩)])] w fun e w'=>(∃ c0 c1 c2 c3,e=.returned (.agg #[c0,c1,c2,c3])∧IsRat w' 64 c0 c1 c2 c3 q)∧Gr w w':=by
 go_enter Tryz.func63,Tryz.ntmps63
 have hB:=Gr.refl w
 refine wp_seq_k (fun K10 k10=>?_)
 refine rg [0,1] ?_
 refine se ?_
 refine eb 84 #[(.string ⟨(Lib.itoa ((q).num):List UInt8).toArray⟩),(.string ⟨(Lib.itoa (((q).den:Int)):List UInt8).toArray⟩)] 1 hB fun b11 w11 g11 L11 o11 q11 hB=>?_
 have qr11:=o11
 simp only [p3,p4]
 refine se ?_
 refine ea 71 #[(.bool false),(.slice none 0 0),(.bool false),(.slice none 0 0)] 2 hB fun b12 w12 g12 L12 o12 q12 hB=>?_
 have qr12:=o12
 simp only [p3,p4]
 refine sq_nil ?_
 refine k10 _ _ ?_
 try clear k10 K10
 refine wp_seq_k (fun K13 k13=>?_)
 refine rg [0,1,2,3,4,5,6,7,8] ?_
 replace L11:=L11.gr g12
 refine sw 6 (.agg #[(.string ⟨(Lib.itoa ((q).num):List UInt8).toArray⟩),(.string ⟨(Lib.itoa (((q).den:Int)):List UInt8).toArray⟩)]) rfl (rl 84 0 [(.string ⟨(Lib.itoa ((q).num):List UInt8).toArray⟩),(.string ⟨(Lib.itoa (((q).den:Int)):List UInt8).toArray⟩)] L11) ?_
 refine se ?_
 refine ec 7 (f5_text (q) hq (by omega) _) ?_
 rintro e14 w14 ⟨rfl,g14⟩
 refine ⟨_,rfl,?_⟩
 replace hB:=hB.trans g14
 simp only [p3,p4]
 refine se ?_
 refine ec 8 (parse_q q hq.s64 (by omega) (by omega) (ratL_8 hq) _ (hm.gr hB)) ?_
 rintro e15 w15 ⟨⟨p15,q15,r15,s15,rfl,h15⟩,g15⟩
 refine ⟨_,rfl,?_⟩
 replace hB:=hB.trans g15
 simp only [p3,p4]
 refine sv 5 (.tuple #[(.agg #[p15,q15,r15,s15]),(.int .i64 0)]) ?_
 refine sv 9 (.agg #[p15,q15,r15,s15]) ?_
 refine sv 10 (.int .i64 0) ?_
 refine se ?_
 refine ea 71 #[(.bool false),(.slice none 0 0),(.bool false),(.slice none 0 0)] 3 hB fun b16 w16 g16 L16 o16 q16 hB=>?_
 replace L12:=L12.gr (g14.trans g15)
 have ne12_16:=L12.ne o16
 have qr16:=o16
 simp only [p3,p4]
 refine se ?_
 have lo17:=L16
 refine es 71 0 (.agg #[p15,q15,r15,s15]) [p15,q15,r15,s15] #[p15,q15,r15,s15] L16 hB q16 ⟨h15.one0,h15.one1,h15.one2,h15.one3,trivial⟩ fun w17 st17 kp17 L16 hB=>?_
 refine sv 4 (.int .i64 0) ?_
 refine sq_nil ?_
 refine k13 _ _ ?_
 try clear k13 K13
 refine wp_seq_k (fun K18 k18=>?_)
 refine rg [0,1] ?_
 refine sw 11 (.agg #[p15,q15,r15,s15]) rfl (rl 71 0 [p15,q15,r15,s15] L16) ?_
 refine se ?_
 replace L12:=st17.lc (L12.gr g16) ne12_16
 have lo19:=L12
 refine es 71 0 (.agg #[p15,q15,r15,s15]) [p15,q15,r15,s15] #[p15,q15,r15,s15] L12 hB q12 ⟨h15.one0,h15.one1,h15.one2,h15.one3,trivial⟩ fun w19 st19 kp19 L12 hB=>?_
 refine sq_nil ?_
 refine k18 _ _ ?_
 try clear k18 K18
 refine wp_ret ?_
 refine bodyPost_ret (v:=(.agg #[p15,q15,r15,s15])) (ret_cell _ _ _ rfl rfl L12 (by kernel_rfl)) rfl ⟨?_,hB⟩
 have kq20:=g16.kp.trans (kp17.trans kp19)
 replace h15:=h15.kp kq20
 exact ⟨_,_,_,_,rfl,h15⟩

set_option maxRecDepth 100000 in
set_option maxHeartbeats 1000000 in
theorem l5_list {N:Nat} {vx:Value} {x:Nat→Rat} (_hN:N≤1000) (hz:∀ j,j<N→RZ 8 8 (x j)) {w:World} (hm:Mx w) (hx:Sl EFr 84 2 w vx (tb (fun z1=>(x z1)) N)):
    Calls Tryz.prog 24 #[vx] w fun e w'=>(∃ u,e=.returned u∧Sl (ERat 64) 71 4 w' u (tb (fun z1=>(x z1)) N))∧Gr w w':=by
 go_enter Tryz.func24,Tryz.ntmps24
 have hB:=Gr.refl w
 refine wp_seq_k (fun K10 k10=>?_)
 refine rg [0] ?_
 refine sv 2 (.slice none 0 0) ?_
 refine sq_nil ?_
 refine k10 _ _ ?_
 try clear k10 K10
 refine wp_seq_k (fun K11 k11=>?_)
 refine rg [0] ?_
 refine sv 3 (.slice none 0 0) ?_
 refine sq_nil ?_
 refine k11 _ _ ?_
 try clear k11 K11
 refine wp_seq_k (fun K12 k12=>?_)
 refine wp_seq_k (fun K13 k13=>?_)
 refine rg [0] ?_
 refine sv 4 (.int .i64 0) ?_
 refine sq_nil ?_
 refine k13 _ _ ?_
 try clear k13 K13
 refine wp_block ?_
 refine wp_loop_inv (a:=⟨List.toArray ?l14,[]⟩) (fun n a w'=>∃ (j:Nat) (vo:Value) (u14:Nat→Value),N - j=n∧a=⟨[vx,undef,(.slice none 0 0),vo,(.int .i64 ((j:Int))),(u14 5),(u14 6),(u14 7),(u14 8),(u14 9),(u14 10),(u14 11),(u14 12),(u14 13),(u14 14),(u14 15),(u14 16),(u14 17),(u14 18),undef].toArray,[]⟩∧j≤N∧Ow (ERat 64) 71 4 w' w.heap.size vo (tb (fun z1=>(x z1)) j)∧Gr w w') (N - 0) ?_ ?_
 ·exact ⟨0,(.slice none 0 0),(fun i=>List.getD ?l14 i undef),rfl,rfl,(Nat.zero_le _),(Ow.nil _ _ _ _ _),hB⟩
 rintro n14 a14 w14 ⟨j,vo,u14,rfl,rfl,hkj,oo,hB⟩ K14 k14
 refine wp_seq_k (fun K15 k15=>?_)
 refine wp_seq_k (fun K16 k16=>?_)
 refine rg [0,1,2,3] ?_
 refine sv 5 (.int .i64 ((j:Int))) ?_
 refine sv 6 vx ?_
 refine sw 7 (.int .i64 ((N:Int))) rfl (rv_lenn (e:=84) hx (tb_lenz rfl) _ _ rfl rfl (by kernel_rfl)) ?_
 refine sv 8 (.bool (decide ((j:Int)<(N:Int)))) ?_
 refine sq_nil ?_
 refine k16 _ _ ?_
 try clear k16 K16
 refine wp_cond_split (t:=decide ((j:Int)<(N:Int))) rfl (fun hb17=>?_) (fun hb17=>?_)
 ·have hlj:j<N:=by have:=of_decide_eq_true hb17;omega
  refine wp_skip ?_
  refine k15 _ _ ?_
  try clear k15 K15
  refine wp_seq_k (fun K18 k18=>?_)
  refine wp_block ?_
  refine rg [0,1,2,3,4,5,6,7,8] ?_
  refine sv 11 vo ?_
  refine sv 12 vx ?_
  refine sv 13 (.int .i64 ((j:Int))) ?_
  refine sw 14 (adr vx (j*2)) rfl (rv_idxn (e:=84) hx tb_len (by decide) j (by omega) _ _ _ rfl rfl rfl (by kernel_rfl) (by kernel_rfl)) ?_
  obtain ⟨_,_,rfl,at19⟩:=Sl.get hx (by decide) (tb_get (f:=(fun z1=>(x z1))) (n:=N) (i:=j) (by omega))
  refine sw 15 (.agg #[(.string ⟨(Lib.itoa (((x j)).num):List UInt8).toArray⟩),(.string ⟨(Lib.itoa ((((x j)).den:Int)):List UInt8).toArray⟩)]) rfl (rv_ldn [(.string ⟨(Lib.itoa (((x j)).num):List UInt8).toArray⟩),(.string ⟨(Lib.itoa ((((x j)).den:Int)):List UInt8).toArray⟩)] (at19.gr hB) _ _ rfl rfl (by kernel_rfl)) ?_
  refine se ?_
  refine ec 16 (l5_rat ((x j)) (hz j hlj) _ (hm.gr hB)) ?_
  rintro e20 w20 ⟨⟨p20,q20,r20,s20,rfl,h20⟩,g20⟩
  refine ⟨_,rfl,?_⟩
  replace hB:=hB.trans g20
  simp only [p3,p4]
  refine se ?_
  refine eff_bs 71 1 #[p20,q20,r20,s20] (some 17) rfl (fun _=>by kernel_rfl) (fun b21 w21 g21 L21 q21=>?_)
  replace hB:=hB.trans g21
  simp only [putl,p3,p4]
  refine se ?_
  replace h20:=h20.kp g21.kp
  replace oo:=oo.gr (stab_rat 64) (g20.trans g21)
  refine eff_apg (stab_rat 64) _ _ 49 71 w.heap.size (.agg #[(.bool false),(.slice none 0 0),(.bool false),(.slice none 0 0)]) vo (tb (fun z1=>(x z1)) j) b21 [p20,q20,r20,s20] ((x j)) 4 1 (some 18) 64 rfl rfl rfl rfl oo L21 ⟨h20.one0,h20.one1,h20.one2,h20.one3,trivial⟩ rfl ⟨_,_,_,_,rfl,h20.mono (by omega)⟩ (Below.size hB) (by rw [tb_len];omega) (by decide) (by kernel_rfl) (by kernel_rfl) (by decide) (by decide) (fun v22 w22 ow22 wt22 hg22=>?_)
  replace hB:=hg22 _ hB (Nat.le_refl _)
  replace ow22:=ow22.cast (tb_snoc (f:=(fun z1=>(x z1))) (n:=j) (by first | rfl | exact fil_all))
  simp only [putl,p3,p4]
  refine sv 3 v22 ?_
  refine sq_nil ?_
  refine k18 _ _ ?_
  try clear k18 K18
  refine rg [0,1,2] ?_
  refine sv 9 (.int .i64 ((j:Int))) ?_
  refine sw 10 (.int .i64 (((j:Int)+1))) rfl (RunV.int (x:=IntKind.i64.wrap (((j:Int)+1))) (y:=((j:Int)+1)) (rvk (by kernel_rfl)) (by first | rfl | (rw [IntKind.wrap_i64];omega))) ?_
  refine sv 4 (.int .i64 (((j:Int)+1))) ?_
  refine sq_nil ?_
  refine k14 (N - (j+1)) ⟨List.toArray ?l23,[]⟩ _ (by omega) ?_
  exact ⟨j+1,v22,(fun i=>List.getD ?l23 i undef),rfl,rfl,(by omega),ow22,hB⟩
 ·have hej:N=j:=by have:=of_decide_eq_false hb17;omega
  subst hej
  refine wp_exit ?_
  simp only [Exit.then,Exit.inBlock,↓reduceIte]
  refine k12 _ _ ?_
  try clear k12 K12
  refine wp_seq_k (fun K24 k24=>?_)
  refine rg [0,1] ?_
  refine sv 19 vo ?_
  refine sv 2 vo ?_
  refine sq_nil ?_
  refine k24 _ _ ?_
  try clear k24 K24
  refine wp_ret ?_
  refine bodyPost_ret (v:=vo) (ret_tmp rfl rfl) rfl ⟨?_,hB⟩
  exact ⟨_,rfl,(oo.sl)⟩

set_option maxRecDepth 100000 in
set_option maxHeartbeats 1000000 in
theorem l5_own {R N:Nat} {v:Value} {m:Nat→Nat→Rat} (_hR2:R≤1000) (_hN2:N≤1000) (hz:∀ i,i<R→∀ j,j<N→RZ 8 8 (m i j)) {w:World} (hm:Mx w) (hs:Sl (ERw EFr 84 2) 51 1 w v (tb (fun z0=>tb (fun z1=>(m z0 z1)) N) R)):
    Calls Tryz.prog 15 #[v] w fun e w'=>(∃ u,e=.returned u∧Sl (ERw (ERat 64) 71 4) 49 1 w' u (tb (fun z0=>tb (fun z1=>(m z0 z1)) N) R))∧Gr w w':=by
 go_enter Tryz.func15,Tryz.ntmps15
 have hB:=Gr.refl w
 refine wp_seq_k (fun K10 k10=>?_)
 refine rg [0] ?_
 refine sv 2 (.slice none 0 0) ?_
 refine sq_nil ?_
 refine k10 _ _ ?_
 try clear k10 K10
 refine wp_seq_k (fun K11 k11=>?_)
 refine rg [0] ?_
 refine sv 3 (.slice none 0 0) ?_
 refine sq_nil ?_
 refine k11 _ _ ?_
 try clear k11 K11
 refine wp_seq_k (fun K12 k12=>?_)
 refine wp_seq_k (fun K13 k13=>?_)
 refine rg [0] ?_
 refine sv 4 (.int .i64 0) ?_
 refine sq_nil ?_
 refine k13 _ _ ?_
 try clear k13 K13
 refine wp_block ?_
 refine wp_loop_inv (a:=⟨List.toArray ?l14,[]⟩) (fun n a w'=>∃ (j:Nat) (vo:Value) (u14:Nat→Value),R - j=n∧a=⟨[v,undef,(.slice none 0 0),vo,(.int .i64 ((j:Int))),(u14 5),(u14 6),(u14 7),(u14 8),(u14 9),(u14 10),(u14 11),(u14 12),(u14 13),(u14 14),(u14 15),(u14 16),(u14 17),(u14 18),undef].toArray,[]⟩∧j≤R∧Ow (ERw (ERat 64) 71 4) 49 1 w' w.heap.size vo (tb (fun z0=>tb (fun z1=>(m z0 z1)) N) j)∧Gr w w') (R - 0) ?_ ?_
 ·exact ⟨0,(.slice none 0 0),(fun i=>List.getD ?l14 i undef),rfl,rfl,(Nat.zero_le _),(Ow.nil _ _ _ _ _),hB⟩
 rintro n14 a14 w14 ⟨j,vo,u14,rfl,rfl,hkj,oo,hB⟩ K14 k14
 have lehC:=Below.size hB
 have hC:=Gr.refl w14
 refine wp_seq_k (fun K15 k15=>?_)
 refine wp_seq_k (fun K16 k16=>?_)
 refine rg [0,1,2,3] ?_
 refine sv 5 (.int .i64 ((j:Int))) ?_
 refine sv 6 v ?_
 refine sw 7 (.int .i64 ((R:Int))) rfl (rv_lenn (e:=51) hs (tb_lenz rfl) _ _ rfl rfl (by kernel_rfl)) ?_
 refine sv 8 (.bool (decide ((j:Int)<(R:Int)))) ?_
 refine sq_nil ?_
 refine k16 _ _ ?_
 try clear k16 K16
 refine wp_cond_split (t:=decide ((j:Int)<(R:Int))) rfl (fun hb17=>?_) (fun hb17=>?_)
 ·have hlj:j<R:=by have:=of_decide_eq_true hb17;omega
  refine wp_skip ?_
  refine k15 _ _ ?_
  try clear k15 K15
  refine wp_seq_k (fun K18 k18=>?_)
  refine wp_block ?_
  refine rg [0,1,2,3,4,5,6,7,8] ?_
  refine sv 11 vo ?_
  refine sv 12 v ?_
  refine sv 13 (.int .i64 ((j:Int))) ?_
  refine sw 14 (adr v (j*1)) rfl (rv_idxn (e:=51) hs tb_len (by decide) j (by omega) _ _ _ rfl rfl rfl (by kernel_rfl) (by kernel_rfl)) ?_
  obtain ⟨_,_,⟨u19,rfl,hr19⟩,at19⟩:=Sl.get hs (by decide) (tb_get (f:=(fun z0=>tb (fun z1=>(m z0 z1)) N)) (n:=R) (i:=j) (by omega))
  refine sw 15 u19 rfl (rv_ld1 u19 (at19.gr hB) _ _ rfl rfl (by kernel_rfl)) ?_
  refine se ?_
  refine ec 16 (l5_list (by omega) (hz j hlj) (hm.gr hB) (hr19.gr stab_fr hB)) ?_
  rintro e20 w20 ⟨⟨u20,rfl,hs20⟩,g20⟩
  refine ⟨_,rfl,?_⟩
  replace hB:=hB.trans g20
  replace hC:=hC.trans g20
  simp only [p3,p4]
  refine se ?_
  refine eff_bs1 29 49 u20 (some 17) rfl rfl rfl hs20.forms (fun _ _ _ _=>by kernel_rfl) (fun b21 w21 g21 L21 q21=>?_)
  have q21_hC:=Nat.le_trans (Below.size hC) q21
  replace hB:=hB.trans g21
  replace hC:=hC.trans g21
  simp only [putl,p3,p4]
  refine se ?_
  replace hs20:=hs20.gr (stab_rat 64) g21
  refine eff_apg (stab_rw (stab_rat 64) 71 4) _ _ 29 49 w.heap.size (.slice none 0 0) vo (tb (fun z0=>tb (fun z1=>(m z0 z1)) N) j) b21 [u20] (tb (fun z1=>(m j z1)) N) 1 1 (some 18) 24 rfl rfl rfl rfl (oo.gr (stab_rw (stab_rat 64) 71 4) hC) L21 ⟨hs20.one,trivial⟩ rfl ⟨_,rfl,hs20⟩ (Below.size hB) (by rw [tb_len];omega) (by decide) (by kernel_rfl) (by kernel_rfl) (by decide) (by decide) (fun v22 w22 ow22 wt22 hg22=>?_)
  replace hB:=hg22 _ hB (Nat.le_refl _)
  replace ow22:=ow22.cast (tb_snoc (f:=(fun z0=>tb (fun z1=>(m z0 z1)) N)) (n:=j) (by first | rfl | exact fil_all))
  simp only [putl,p3,p4]
  refine sv 3 v22 ?_
  refine sq_nil ?_
  refine k18 _ _ ?_
  try clear k18 K18
  refine rg [0,1,2] ?_
  refine sv 9 (.int .i64 ((j:Int))) ?_
  refine sw 10 (.int .i64 (((j:Int)+1))) rfl (RunV.int (x:=IntKind.i64.wrap (((j:Int)+1))) (y:=((j:Int)+1)) (rvk (by kernel_rfl)) (by first | rfl | (rw [IntKind.wrap_i64];omega))) ?_
  refine sv 4 (.int .i64 (((j:Int)+1))) ?_
  refine sq_nil ?_
  refine k14 (R - (j+1)) ⟨List.toArray ?l23,[]⟩ _ (by omega) ?_
  exact ⟨j+1,v22,(fun i=>List.getD ?l23 i undef),rfl,rfl,(by omega),ow22,hB⟩
 ·have hej:R=j:=by have:=of_decide_eq_false hb17;omega
  subst hej
  refine wp_exit ?_
  simp only [Exit.then,Exit.inBlock,↓reduceIte]
  refine k12 _ _ ?_
  try clear k12 K12
  refine wp_seq_k (fun K24 k24=>?_)
  refine rg [0,1] ?_
  refine sv 19 vo ?_
  refine sv 2 vo ?_
  refine sq_nil ?_
  refine k24 _ _ ?_
  try clear k24 K24
  refine wp_ret ?_
  refine bodyPost_ret (v:=vo) (ret_tmp rfl rfl) rfl ⟨?_,hB⟩
  exact ⟨_,rfl,((oo.gr (stab_rw (stab_rat 64) 71 4) hC).sl)⟩

set_option maxRecDepth 100000 in
set_option maxHeartbeats 1000000 in
theorem l5_equal {K L N:Nat} {va vx:Value} {x:Nat→Rat} (_hN:N≤1000) (_hK:K≤100000) (_hL:L≤19000) (hz:∀ j,j<N→RZ L L (x j)) {w:World} (ht:Tab w) (ha:Sl (ERat K) 71 4 w va (tb (fun z1=>(x z1)) N)) (hx:Sl EFr 84 2 w vx (tb (fun z1=>(x z1)) N)):
    Calls Tryz.prog 35 #[va,vx] w fun e w'=>e=.returned (.bool true)∧Gr w w':=by
 go_enter Tryz.func35,Tryz.ntmps35
 have hB:=Gr.refl w
 refine wp_seq_k (fun K10 k10=>?_)
 refine rg [0] ?_
 refine sv 4 (.bool false) ?_
 refine sq_nil ?_
 refine k10 _ _ ?_
 try clear k10 K10
 refine wp_seq_k (fun K11 k11=>?_)
 refine wp_seq_k (fun K12 k12=>?_)
 refine rg [0,1,2,3,4] ?_
 refine sv 6 va ?_
 refine sw 7 (.int .i64 ((N:Int))) rfl (rv_lenn (e:=71) ha (tb_lenz rfl) _ _ rfl rfl (by kernel_rfl)) ?_
 refine sv 8 vx ?_
 refine sw 9 (.int .i64 ((N:Int))) rfl (rv_lenn (e:=84) hx (tb_lenz rfl) _ _ rfl rfl (by kernel_rfl)) ?_
 have hb13:(((N:Int) !=(N:Int)))=false:=(by simp)
 refine sw 10 (.bool false) rfl (RunV.bool (x:=((N:Int) !=(N:Int))) (rvk (by kernel_rfl)) hb13) ?_
 refine sq_nil ?_
 refine k12 _ _ ?_
 try clear k12 K12
 refine wp_cond_false rfl ?_
 refine wp_skip ?_
 refine k11 _ _ ?_
 try clear k11 K11
 refine wp_seq_k (fun K14 k14=>?_)
 refine wp_seq_k (fun K15 k15=>?_)
 refine rg [0] ?_
 refine sv 5 (.int .i64 0) ?_
 refine sq_nil ?_
 refine k15 _ _ ?_
 try clear k15 K15
 refine wp_block ?_
 refine wp_loop_inv (a:=⟨List.toArray ?l16,[]⟩) (fun n a w'=>∃ (j:Nat) (u16:Nat→Value),N - j=n∧a=⟨[va,vx,undef,undef,(u16 4),(.int .i64 ((j:Int))),(u16 6),(u16 7),(u16 8),(u16 9),(.bool false),(u16 11),(u16 12),(u16 13),(u16 14),(u16 15),(u16 16),(u16 17),(u16 18),(u16 19),(u16 20),(u16 21),(u16 22),(u16 23),(u16 24),(u16 25),(u16 26),(u16 27)].toArray,[]⟩∧j≤N∧Gr w w') (N - 0) ?_ ?_
 ·exact ⟨0,(fun i=>List.getD ?l16 i undef),rfl,rfl,(Nat.zero_le _),hB⟩
 rintro n16 a16 w16 ⟨j,u16,rfl,rfl,hkj,hB⟩ K16 k16
 refine wp_seq_k (fun K17 k17=>?_)
 refine wp_seq_k (fun K18 k18=>?_)
 refine rg [0,1,2,3] ?_
 refine sv 11 (.int .i64 ((j:Int))) ?_
 refine sv 12 va ?_
 refine sw 13 (.int .i64 ((N:Int))) rfl (rv_lenn (e:=71) ha (tb_lenz rfl) _ _ rfl rfl (by kernel_rfl)) ?_
 refine sv 14 (.bool (decide ((j:Int)<(N:Int)))) ?_
 refine sq_nil ?_
 refine k18 _ _ ?_
 try clear k18 K18
 refine wp_cond_split (t:=decide ((j:Int)<(N:Int))) rfl (fun hb19=>?_) (fun hb19=>?_)
 ·have hlj:j<N:=by have:=of_decide_eq_true hb19;omega
  refine wp_skip ?_
  refine k17 _ _ ?_
  try clear k17 K17
  refine wp_seq_k (fun K20 k20=>?_)
  refine wp_block ?_
  refine wp_seq_k (fun K21 k21=>?_)
  obtain ⟨_,_,⟨cA28,cB28,cC28,cD28,rfl,h28⟩,at28⟩:=Sl.get ha (by decide) (tb_get (f:=(fun z1=>(x z1))) (n:=N) (i:=j) (by omega))
  obtain ⟨_,_,rfl,at29⟩:=Sl.get hx (by decide) (tb_get (f:=(fun z1=>(x z1))) (n:=N) (i:=j) (by omega))
  have gd30:=Gr.drew w16
  replace hB:=hB.trans gd30
  refine wp_region_ord (fun w'=>AtV w' va (j*4) [cA28,cB28,cC28,cD28]∧AtV w' vx (j*2) [(.string ⟨(Lib.itoa (((x j)).num):List UInt8).toArray⟩),(.string ⟨(Lib.itoa ((((x j)).den:Int)):List UInt8).toArray⟩)]) [(true,0),(true,1),(true,2),(true,3),(true,5),(true,6),(true,7),(true,8),(false,4),(false,9),(true,10)] (by kernel_rfl) (by kernel_rfl) (by kernel_rfl) (by decide) (fun _ _ _ _ _ h=>h) ⟨(at28.gr hB),(at29.gr hB)⟩ ?_
  refine ov 17 va ?_
  refine ov 18 (.int .i64 ((j:Int))) ?_
  refine ow 19 (adr va (j*4)) rfl (fun w' hS=>(rv_idxn (e:=71) ha tb_len (by decide) j (by omega) _ _ _ rfl rfl rfl (by kernel_rfl) (by kernel_rfl))) ?_
  refine ow 20 (.agg #[cA28,cB28,cC28,cD28]) rfl (fun w' hS=>(rv_ldn [cA28,cB28,cC28,cD28] hS.1 _ _ rfl rfl (by kernel_rfl))) ?_
  refine ov 22 vx ?_
  refine ov 23 (.int .i64 ((j:Int))) ?_
  refine ow 24 (adr vx (j*2)) rfl (fun w' hS=>(rv_idxn (e:=84) hx tb_len (by decide) j (by omega) _ _ _ rfl rfl rfl (by kernel_rfl) (by kernel_rfl))) ?_
  refine ow 25 (.agg #[(.string ⟨(Lib.itoa (((x j)).num):List UInt8).toArray⟩),(.string ⟨(Lib.itoa ((((x j)).den:Int)):List UInt8).toArray⟩)]) rfl (fun w' hS=>(rv_ldn [(.string ⟨(Lib.itoa (((x j)).num):List UInt8).toArray⟩),(.string ⟨(Lib.itoa ((((x j)).den:Int)):List UInt8).toArray⟩)] hS.2 _ _ rfl rfl (by kernel_rfl))) ?_
  refine oe ?_
  refine ec 21 (number_r (h28.kp hB.kp) (by omega) (ht.gr hB)) ?_
  rintro e32 w32 ⟨rfl,g32⟩
  refine ⟨_,rfl,?_⟩
  replace hB:=hB.trans g32
  refine ⟨⟨(at28.gr hB),(at29.gr hB)⟩,?_⟩
  simp only [p3,p4]
  refine oe ?_
  refine ec 26 (f5_text ((x j)) (hz j hlj) (by omega) _) ?_
  rintro e34 w34 ⟨rfl,g34⟩
  refine ⟨_,rfl,?_⟩
  replace hB:=hB.trans g34
  refine ⟨⟨(at28.gr hB),(at29.gr hB)⟩,?_⟩
  simp only [p3,p4]
  have hb35:(((ratL ((x j))) !=(ratL ((x j)))))=false:=(by simp)
  refine ow 27 (.bool false) rfl (fun w' hS=>(RunV.bool (x:=((ratL ((x j))) !=(ratL ((x j))))) (rv_sne 9 9 _ _ (ratL ((x j))) (ratL ((x j))) rfl rfl rfl) hb35)) ?_
  refine ord_nil ?_
  refine k21 _ _ ?_
  try clear k21 K21
  refine wp_cond_false rfl ?_
  refine wp_skip ?_
  refine k20 _ _ ?_
  try clear k20 K20
  refine rg [0,1,2] ?_
  refine sv 15 (.int .i64 ((j:Int))) ?_
  refine sw 16 (.int .i64 (((j:Int)+1))) rfl (RunV.int (x:=IntKind.i64.wrap (((j:Int)+1))) (y:=((j:Int)+1)) (rvk (by kernel_rfl)) (by first | rfl | (rw [IntKind.wrap_i64];omega))) ?_
  refine sv 5 (.int .i64 (((j:Int)+1))) ?_
  refine sq_nil ?_
  refine k16 (N - (j+1)) ⟨List.toArray ?l36,[]⟩ _ (by omega) ?_
  exact ⟨j+1,(fun i=>List.getD ?l36 i undef),rfl,rfl,(by omega),hB⟩
 ·have hej:N=j:=by have:=of_decide_eq_false hb19;omega
  subst hej
  refine wp_exit ?_
  simp only [Exit.then,Exit.inBlock,↓reduceIte]
  refine k14 _ _ ?_
  try clear k14 K14
  refine wp_seq_k (fun K37 k37=>?_)
  refine rg [0] ?_
  refine sv 4 (.bool true) ?_
  refine sq_nil ?_
  refine k37 _ _ ?_
  try clear k37 K37
  refine wp_ret ?_
  refine bodyPost_ret (v:=(.bool true)) (ret_tmp rfl rfl) rfl ⟨?_,hB⟩
  exact rfl

set_option maxRecDepth 100000 in
set_option maxHeartbeats 1000000 in
theorem l5_is {K L R N:Nat} {va vx:Value} {m:Nat→Nat→Rat} (_hR2:R≤1000) (_hN:N≤1000) (hK:K≤100000) (hL:L≤19000) (hz:∀ i,i<R→∀ j,j<N→RZ L L (m i j)) {w:World} (ht:Tab w) (ha:Sl (ERw (ERat K) 71 4) 49 1 w va (tb (fun z0=>tb (fun z1=>(m z0 z1)) N) R)) (hx:Sl (ERw EFr 84 2) 51 1 w vx (tb (fun z0=>tb (fun z1=>(m z0 z1)) N) R)):
    Calls Tryz.prog 18 #[va,vx] w fun e w'=>e=.returned (.bool true)∧Gr w w':=by
 go_enter Tryz.func18,Tryz.ntmps18
 have hB:=Gr.refl w
 refine wp_seq_k (fun K10 k10=>?_)
 refine rg [0] ?_
 refine sv 4 (.bool false) ?_
 refine sq_nil ?_
 refine k10 _ _ ?_
 try clear k10 K10
 refine wp_seq_k (fun K11 k11=>?_)
 refine wp_seq_k (fun K12 k12=>?_)
 refine rg [0,1,2,3,4] ?_
 refine sv 6 va ?_
 refine sw 7 (.int .i64 ((R:Int))) rfl (rv_lenn (e:=49) ha (tb_lenz rfl) _ _ rfl rfl (by kernel_rfl)) ?_
 refine sv 8 vx ?_
 refine sw 9 (.int .i64 ((R:Int))) rfl (rv_lenn (e:=51) hx (tb_lenz rfl) _ _ rfl rfl (by kernel_rfl)) ?_
 have hb13:(((R:Int) !=(R:Int)))=false:=(by simp)
 refine sw 10 (.bool false) rfl (RunV.bool (x:=((R:Int) !=(R:Int))) (rvk (by kernel_rfl)) hb13) ?_
 refine sq_nil ?_
 refine k12 _ _ ?_
 try clear k12 K12
 refine wp_cond_false rfl ?_
 refine wp_skip ?_
 refine k11 _ _ ?_
 try clear k11 K11
 refine wp_seq_k (fun K14 k14=>?_)
 refine wp_seq_k (fun K15 k15=>?_)
 refine rg [0] ?_
 refine sv 5 (.int .i64 0) ?_
 refine sq_nil ?_
 refine k15 _ _ ?_
 try clear k15 K15
 refine wp_block ?_
 refine wp_loop_inv (a:=⟨List.toArray ?l16,[]⟩) (fun n a w'=>∃ (j:Nat) (u16:Nat→Value),R - j=n∧a=⟨[va,vx,undef,undef,(u16 4),(.int .i64 ((j:Int))),(u16 6),(u16 7),(u16 8),(u16 9),(.bool false),(u16 11),(u16 12),(u16 13),(u16 14),(u16 15),(u16 16),(u16 17),(u16 18),(u16 19),(u16 20),(u16 21),(u16 22),(u16 23),(u16 24),(u16 25),(u16 26)].toArray,[]⟩∧j≤R∧Gr w w') (R - 0) ?_ ?_
 ·exact ⟨0,(fun i=>List.getD ?l16 i undef),rfl,rfl,(Nat.zero_le _),hB⟩
 rintro n16 a16 w16 ⟨j,u16,rfl,rfl,hkj,hB⟩ K16 k16
 refine wp_seq_k (fun K17 k17=>?_)
 refine wp_seq_k (fun K18 k18=>?_)
 refine rg [0,1,2,3] ?_
 refine sv 11 (.int .i64 ((j:Int))) ?_
 refine sv 12 va ?_
 refine sw 13 (.int .i64 ((R:Int))) rfl (rv_lenn (e:=49) ha (tb_lenz rfl) _ _ rfl rfl (by kernel_rfl)) ?_
 refine sv 14 (.bool (decide ((j:Int)<(R:Int)))) ?_
 refine sq_nil ?_
 refine k18 _ _ ?_
 try clear k18 K18
 refine wp_cond_split (t:=decide ((j:Int)<(R:Int))) rfl (fun hb19=>?_) (fun hb19=>?_)
 ·have hlj:j<R:=by have:=of_decide_eq_true hb19;omega
  refine wp_skip ?_
  refine k17 _ _ ?_
  try clear k17 K17
  refine wp_seq_k (fun K20 k20=>?_)
  refine wp_block ?_
  refine wp_seq_k (fun K21 k21=>?_)
  obtain ⟨_,_,⟨u25,rfl,hr25⟩,at25⟩:=Sl.get ha (by decide) (tb_get (f:=(fun z0=>tb (fun z1=>(m z0 z1)) N)) (n:=R) (i:=j) (by omega))
  obtain ⟨_,_,⟨u26,rfl,hr26⟩,at26⟩:=Sl.get hx (by decide) (tb_get (f:=(fun z0=>tb (fun z1=>(m z0 z1)) N)) (n:=R) (i:=j) (by omega))
  have gd27:=Gr.drew w16
  replace hB:=hB.trans gd27
  refine wp_region_ord (fun w'=>AtV w' va (j*1) [u25]∧AtV w' vx (j*1) [u26]) [(true,0),(true,1),(true,2),(true,3),(true,4),(true,5),(true,6),(true,7),(false,8),(true,9)] (by kernel_rfl) (by kernel_rfl) (by kernel_rfl) (by decide) (fun _ _ _ _ _ h=>h) ⟨(at25.gr hB),(at26.gr hB)⟩ ?_
  refine ov 17 va ?_
  refine ov 18 (.int .i64 ((j:Int))) ?_
  refine ow 19 (adr va (j*1)) rfl (fun w' hS=>(rv_idxn (e:=49) ha tb_len (by decide) j (by omega) _ _ _ rfl rfl rfl (by kernel_rfl) (by kernel_rfl))) ?_
  refine ow 20 u25 rfl (fun w' hS=>(rv_ld1 u25 hS.1 _ _ rfl rfl (by kernel_rfl))) ?_
  refine ov 21 vx ?_
  refine ov 22 (.int .i64 ((j:Int))) ?_
  refine ow 23 (adr vx (j*1)) rfl (fun w' hS=>(rv_idxn (e:=51) hx tb_len (by decide) j (by omega) _ _ _ rfl rfl rfl (by kernel_rfl) (by kernel_rfl))) ?_
  refine ow 24 u26 rfl (fun w' hS=>(rv_ld1 u26 hS.2 _ _ rfl rfl (by kernel_rfl))) ?_
  refine oe ?_
  refine ec 25 (l5_equal (by omega) hK hL (hz j hlj) (ht.gr hB) (hr25.gr (stab_rat K) hB) (hr26.gr stab_fr hB)) ?_
  rintro e29 w29 ⟨rfl,g29⟩
  refine ⟨_,rfl,?_⟩
  replace hB:=hB.trans g29
  refine ⟨⟨(at25.gr hB),(at26.gr hB)⟩,?_⟩
  simp only [p3,p4]
  refine ov 26 (.bool false) ?_
  refine ord_nil ?_
  refine k21 _ _ ?_
  try clear k21 K21
  refine wp_cond_false rfl ?_
  refine wp_skip ?_
  refine k20 _ _ ?_
  try clear k20 K20
  refine rg [0,1,2] ?_
  refine sv 15 (.int .i64 ((j:Int))) ?_
  refine sw 16 (.int .i64 (((j:Int)+1))) rfl (RunV.int (x:=IntKind.i64.wrap (((j:Int)+1))) (y:=((j:Int)+1)) (rvk (by kernel_rfl)) (by first | rfl | (rw [IntKind.wrap_i64];omega))) ?_
  refine sv 5 (.int .i64 (((j:Int)+1))) ?_
  refine sq_nil ?_
  refine k16 (R - (j+1)) ⟨List.toArray ?l30,[]⟩ _ (by omega) ?_
  exact ⟨j+1,(fun i=>List.getD ?l30 i undef),rfl,rfl,(by omega),hB⟩
 ·have hej:R=j:=by have:=of_decide_eq_false hb19;omega
  subst hej
  refine wp_exit ?_
  simp only [Exit.then,Exit.inBlock,↓reduceIte]
  refine k14 _ _ ?_
  try clear k14 K14
  refine wp_seq_k (fun K31 k31=>?_)
  refine rg [0] ?_
  refine sv 4 (.bool true) ?_
  refine sq_nil ?_
  refine k31 _ _ ?_
  try clear k31 K31
  refine wp_ret ?_
  refine bodyPost_ret (v:=(.bool true)) (ret_tmp rfl rfl) rfl ⟨?_,hB⟩
  exact rfl

/-- a pair:a small int,a byte -/
def EEn (_:World) (p:Int × Int) (vs:List Value):Prop:=vs=[.int .i8 p.1,.int .u8 p.2]∧(-128≤p.1∧p.1≤127)∧(0≤p.2∧p.2≤255)
theorem stab_en:Stab EEn []:=fun _ _ _ _ _ h=>h
section
variable {α β:Type} {E:World→α→List Value→Prop} {F:World→β→List Value→Prop} {T:TypeId} {c:Nat} {w:World} {v:Value} {xs:List α}
theorem Sl.mapE (h:Sl E T c w v xs) (g:α→β) (hg:∀ x vs,E w x vs→F w (g x) vs):Sl F T c w v (xs.map g):=by
  obtain ⟨ys,h1,h2⟩:=h
  refine ⟨ys,by rw [List.length_map];exact h1,by rw [h2.1,List.length_map],fun i x hx=>?_⟩
  rw [List.getElem?_map,Option.map_eq_some_iff] at hx
  obtain ⟨y,hy,rfl⟩:=hx
  exact hg _ _ (h2.2 i y hy)
theorem list_tb (d:α) (xs:List α):xs=tb (fun i=>xs.getD i d) xs.length:=by
  apply List.ext_getElem?
  intro i
  by_cases h:i<xs.length
  · rw [tb_get h,List.getD_eq_getElem?_getD,List.getElem?_eq_getElem h];rfl
  · rw [List.getElem?_eq_none (by omega),List.getElem?_eq_none (by rw [tb_len];omega)]
end
theorem ek_en {w:World} {x:List Int} {vs:List Value} (h:EK [.i8,.u8] w x vs):EEn w (x.getD 0 0,x.getD 1 0) vs:=by
  obtain ⟨h1,h2,h3⟩:=h
  match x,h1 with
  | [a,b],_=>
    have ha:IntKind.i8.has a:=h3 0 .i8 rfl
    have hb:IntKind.u8.has b:=h3 1 .u8 rfl
    refine ⟨by simpa using h2,?_,?_⟩
    · exact ha
    · exact hb
section
variable {P:Program} {a:Act} {o:Oper} {w:World}
theorem rv_fld {v:Value} {j off:Nat} {vs:List Value} {w0:World} (h:AtV w0 v j vs) {fs:Array Field} {f:Field} (t:TypeId) (x:Operand) (i:Nat) (hop:o.op=.fieldAddr t x i) (hx:a.eval x=adr v j) (hu:P.underlying t=some (.struct fs)) (hf:fs[i]?=some f) (ho:f.offset=off) {sz:Nat} (hs:(P.info? f.type).map (·.size)=some (sz+1)):
    RunV P a o w (adr v (j+off)):=by
  obtain ⟨b,o2,n,cap,rfl,_⟩:=h
  obtain ⟨inf,hi,hsz⟩:=Option.map_eq_some_iff.1 hs
  have hx':a.eval x=.pointer (some ⟨b,o2+j,none⟩):=hx
  unfold RunV execOp
  simp only [hop,hx']
  by_cases h0:off=0<;>simp [Instr.fieldAt,Instr.sureAddr,fieldPlace,run_underlying hu,hf,ho,h0,adr,Addr.add,Nat.add_assoc,sizeOf,typeInfo,hi,hsz]
def fldAt (P:Program) (t:TypeId) (i:Nat):Option Nat:=
  match P.underlying t with
  | some (.struct fs)=>match fs[i]? with
    | some f=>match P.info? f.type with
      | some inf=>if inf.size=0 then none else some f.offset
      | none=>none
    | none=>none
  | _=>none
theorem rv_fldk {v:Value} {j off:Nat} {vs:List Value} {w0:World} (h:AtV w0 v j vs) (t:TypeId) (x:Operand) (i:Nat) (hop:o.op=.fieldAddr t x i) (hx:a.eval x=adr v j) (hk:fldAt P t i=some off):RunV P a o w (adr v (j+off)):=by
  unfold fldAt at hk
  split at hk
  · next fs hu=>
    split at hk
    · next f hf=>
      split at hk
      · next inf hi=>
        split at hk
        · cases hk
        · next hz=>exact rv_fld h t x i hop hx hu hf (Option.some.inj hk) (sz:=inf.size - 1) (by rw [hi];show some inf.size=_;congr 1;omega)
      · cases hk
    · cases hk
  · cases hk
theorem AtV.part {v:Value} {j i:Nat} {vs us:List Value} (h:AtV w v j vs) (hu:(vs.drop i).take us.length=us):AtV w v (j+i) us:=by
  obtain ⟨b,o2,n,cap,rfl,hr⟩:=h
  refine ⟨b,o2,n,cap,rfl,fun k u hk=>?_⟩
  have hl:k<us.length:=(List.getElem?_eq_some_iff.1 hk).1
  have:vs[i+k]?=some u:=by
    have e:((vs.drop i).take us.length)[k]?=some u:=by rw [hu];exact hk
    rwa [List.getElem?_take_of_lt hl,List.getElem?_drop] at e
  have:=hr (i+k) u this
  rw [show o2+(j+i)+k=o2+j+(i+k) by omega]
  exact this
end
/-- the number of an entry;0 where one is missing -/
def en (e:Nat→Int × Int) (Z k:Nat):Rat:=if k<Z then (((e k).1:Int):Rat)/(((1+(e k).2 % 6:Int):Int):Rat) else (((0:Int):Int):Rat)/(((1:Int):Int):Rat)
theorem en_in {e:Nat→Int × Int} {Z k:Nat} (h:k<Z):(((e k).1:Int):Rat)/(((1+(e k).2 % 6:Int):Int):Rat)=en e Z k:=(if_pos h).symm
theorem en_out {e:Nat→Int × Int} {Z k:Nat} (h:¬ k<Z):(((0:Int):Int):Rat)/(((1:Int):Int):Rat)=en e Z k:=(if_neg h).symm
theorem en_z {e:Nat→Int × Int} {Z k:Nat} (he:∀ k,k<Z→(-128≤(e k).1∧(e k).1≤127)∧(0≤(e k).2∧(e k).2≤255)):RZ 8 3 (en e Z k):=by
  unfold en
  split
  · next h=>
    have:=he k h
    rw [← Rat.divInt_eq_div]
    exact rz_divInt (by unfold Sz;omega) (by unfold Sz;omega) (by omega)
  · rw [← Rat.divInt_eq_div]
    exact rz_divInt (by unfold Sz;decide) (by unfold Sz;decide) (by decide)
end Go.Proofs.YtepgkcimmdmgcaaGreatDoor
namespace Go.Proofs.YtepgkcimmdmgcaaGreatDoor
theorem rz1:RZ 1 1 (1:Rat):=RZ.int (z:=1) (by unfold Sz;decide)
section
variable {R n N b P:Nat} {m:Mx_}
theorem rs_all (z:Bd) (hf:∀ i,i<R→∀ k,k<n→RZ z.a z.d (m i k)) (hs:∀ i,i<R→∀ k,n≤k→k<N→RZ z.A z.D (m i k)) (he:1≤z.e) (hn:n≤P∨R≤P) (hb:max (max (z.it P).a (z.it P).d) (max (max (z.it P).A (z.it P).D) (z.it P).e)≤b):∀ k,k≤n→RdZ R N b (rs R m k):=
  Bnd.all ⟨hf,hs,rz1.mono he he⟩ hn hb
theorem rs_fd (z:Bd) (hf:∀ i,i<R→∀ k,k<n→RZ z.a z.d (m i k)) (hs:∀ i,i<R→∀ k,n≤k→k<N→RZ z.A z.D (m i k)) (he:1≤z.e) (hn:n≤P+1∨R≤P+1) (hb:max (max (z.it P).a (z.it P).d) (max (z.it P).A (z.it P).D)≤b):∀ k i,k<n→Fd R m k i→∀ a,a<R→∀ c,c<N→RZ b b ((rs R m k).m a c):=fun k i hk hf2 a ha c hc=>by
  have h1:Bnd R n N z ⟨m,[],1⟩:=⟨hf,hs,rz1.mono he he⟩
  have h2:=h1.red k (Nat.le_of_lt hk)
  have hl:=hf2.lt
  have hp:=rs_ple R m k
  have h3:=z.le_it (n:=(redR R k ⟨m,[],1⟩).p.length) (m:=P) (by show pl R m k≤P;omega)
  have a1:=h3.1;have a2:=h3.2;have a3:=h3.3;have a4:=h3.4
  rcases Nat.lt_or_ge c n with hc1 | hc1
  · exact (h2.fst a ha c hc1).mono (by omega) (by omega)
  · exact (h2.snd a ha c hc1 hc).mono (by omega) (by omega)
/-- tables of small numbers -/
theorem rs_sm (hz:∀ i,i<R→∀ k,k<N→RZ 8 3 (m i k)) (hn:n≤5∨R≤5) (hN:n≤N):∀ k,k≤n→RdZ R N 4899 (rs R m k):=
  rs_all ⟨8,3,8,3,1⟩ (fun i hi k hk=>hz i hi k (by omega)) (fun i hi k _ hk=>hz i hi k hk) (Nat.le_refl _) hn (by decide)
theorem rs_sf (hz:∀ i,i<R→∀ k,k<N→RZ 8 3 (m i k)) (hn:N≤6∨R≤6):∀ k i,k<N→Fd R m k i→∀ a,a<R→∀ c,c<N→RZ 4899 4899 ((rs R m k).m a c):=
  rs_fd (P:=5) ⟨8,3,8,3,1⟩ hz (fun i hi k h1 h2=>absurd h1 (by omega)) (Nat.le_refl _) hn (by decide)
end
/-! ### the columns without a pivot -/
section
variable {R n N f t k:Nat} {m:Mx_} {g:Nat→Rat}
theorem isP_mem:isP R m n k=(rs R m n).p.contains k:=by
  unfold isP
  cases h:(rs R m n).p.contains k with
  | true=>
    have hm:k ∈ (rs R m n).p:=by simpa using h
    obtain ⟨t,ht,e⟩:=List.mem_iff_getElem.1 hm
    refine hasI_true (i:=t) ht ?_
    show ((pv (rs R m n) t:Nat):Int)=_
    unfold pv
    rw [List.getD_eq_getElem?_getD,List.getElem?_eq_getElem ht,Option.getD_some,e]
  | false=>
    have hm:k ∉ (rs R m n).p:=by simpa using h
    refine hasI_false fun j hj e=>hm ?_
    have e2:pv (rs R m n) j=k:=by have e3:((pv (rs R m n) j:Nat):Int)=(k:Int):=e;omega
    rw [← e2]
    unfold pv
    rw [List.getD_eq_getElem?_getD,List.getElem?_eq_getElem hj,Option.getD_some]
    exact List.getElem_mem hj
theorem frc_in (ht:t<nfr R m n f):frc R m n f t<f∧isP R m n (frc R m n f t)=false:=by
  have e:frc R m n f t ∈ frl R m n f:=by
    unfold frc
    rw [List.getD_eq_getElem?_getD,List.getElem?_eq_getElem ht,Option.getD_some]
    exact List.getElem_mem ht
  unfold frl at e
  rw [List.mem_filter,List.mem_range] at e
  exact ⟨e.1,by simpa using e.2⟩
theorem pik_z {b:Nat} (hb:0<b) (hz:∀ t,t<pl R m n→RZ b b (g t)):RZ b b (pik R m n g (pl R m n) k):=by
  cases h:isP R m n k with
  | false=>rw [pik_no h];exact RZ.zero _ _ hb
  | true=>
    have h2:=h
    rw [isP_mem] at h2
    have hm:k ∈ (rs R m n).p:=by simpa using h2
    obtain ⟨t,ht,e⟩:=List.mem_iff_getElem.1 hm
    rw [pik_at (t:=t) ht (by unfold pv;rw [List.getD_eq_getElem?_getD,List.getElem?_eq_getElem ht,Option.getD_some,e])]
    exact hz t ht
theorem kv_z {b:Nat} (hb:0<b) (hf:f<N) (hz:∀ t,t<R→∀ c,c<N→RZ b b ((rs R m n).m t c)):RZ b b (kv (rs R m n) f k):=by
  by_cases h:k=f
  · unfold kv;rw [if_pos h];exact rz1.mono hb hb
  · have e:kv (rs R m n) f k=pik R m n (fun t=>-(rs R m n).m t f) (pl R m n) k:=by
      unfold kv;rw [if_neg h];rfl
    rw [e]
    exact pik_z hb fun t ht=>(hz t (by have:=rs_len R m n;omega) f hf).neg
theorem sol_z {b:Nat} (hb:0<b) (hf:n<N) (hz:∀ t,t<R→∀ c,c<N→RZ b b ((rs R m n).m t c)):RZ b b (sol (rs R m n) n k):=by
  rw [← sol_pik]
  exact pik_z hb fun t ht=>hz t (by have:=rs_len R m n;omega) n hf
end
/-! ### equations -/
section
variable {R N:Nat} {m:Mx_} {b x:Nat→Rat}
theorem wth_in {i k:Nat} (h:k<N):wth N m b i k=m i k:=if_pos h
theorem wth_at (i:Nat):wth N m b i N=b i:=if_neg (Nat.lt_irrefl _)
/-- the reference asks whether the last column bears a pivot -/
theorem fit_P (W:Mx_):isP R W (N+1) N=false↔∀ t,pl R W N≤t→t<R→(rs R W N).m t N=0:=by
  rw [isP_mem]
  have h:=fit_iff (R:=R) (n:=N) (w:=W) 1
  constructor
  · intro e
    refine Classical.byContradiction fun hn=>?_
    have:=h.2 hn
    have e2:N ∉ (rs R W (N+1)).p:=by simpa using e
    exact e2 this
  · intro e
    cases hc:(rs R W (N+1)).p.contains N with
    | false=>rfl
    | true=>
      have:N ∈ (rs R W (N+1)).p:=by simpa using hc
      exact absurd e (h.1 this)
theorem fit_S (W:Mx_) (h:isP R W (N+1) N=false):rs R W (N+1)=rs R W N:=rs_none ((fit_P W).1 h)
theorem wth_z {a d:Nat} (hz:∀ i,i<R→∀ k,k<N→RZ a d (m i k)) (hb:∀ i,i<R→RZ a d (b i)):∀ i,i<R→∀ k,k<N+1→RZ a d (wth N m b i k):=fun i hi k hk=>by
  by_cases h:k<N
  · rw [wth_in h];exact hz i hi k h
  · rw [show k=N by omega,wth_at];exact hb i hi
end
/-! ### inverses -/
section
variable {R:Nat} {m:Mx_}
theorem one_mul {R:Nat} {x:Nat→Rat} {i:Nat} (hi:i<R):sm R (fun k=>one_ i k*x k)=x i:=by
  rw [sm_one hi fun j _ hj=>by unfold one_;rw [if_neg (Ne.symm hj)];grind]
  unfold one_
  rw [if_pos rfl];grind
end
/-! ### reducing twice -/
section
variable {R N b:Nat} {m:Mx_}
end
/-! ### products -/
theorem mul_z {R S N a d b e:Nat} {x y:Mx_} (hx:∀ i,i<R→∀ k,k<S→RZ a d (x i k)) (hy:∀ i,i<S→∀ k,k<N→RZ b e (y i k)):∀ i,i<R→∀ k,k<N→RZ (S*(a+b+d+e+1)+1) (S*(d+e)+1) (sm S fun j=>x i j*y j k):=
  fun i hi k hk=>rz_sm (fun j hj=>hx i hi j hj) (fun j hj=>hy j hj k hk)
end Go.Proofs.YtepgkcimmdmgcaaGreatDoor
namespace Go.Proofs.YtepgkcimmdmgcaaGreatDoor
open Go.RowKit

set_option maxRecDepth 100000 in
set_option maxHeartbeats 1000000 in
theorem l5_numbers {R N:Nat} {v:Value} {nn:Nat→Nat→Int} (_hR:R≤1000) (_hN:N≤1000) (hb:∀ i,i<R→∀ j,j<N→-9223372036854775808≤nn i j∧nn i j≤9223372036854775807) {w:World} (hs:Sl (ERw EI64 3 1) 30 1 w v (tb (fun z0=>tb (fun z1=>(nn z0 z1)) N) R)):
    Calls Tryz.prog 50 #[v] w fun e w'=>(∃ u,e=.returned u∧Sl (ERw (ERat 64) 71 4) 49 1 w' u (tb (fun z0=>tb (fun z1=>((nn z0 z1:Int):Rat)) N) R))∧Gr w w':=by
 go_enter Tryz.func50,Tryz.ntmps50
 have hB:=Gr.refl w
 refine wp_seq_k (fun K10 k10=>?_)
 refine rg [0] ?_
 refine sv 2 (.slice none 0 0) ?_
 refine sq_nil ?_
 refine k10 _ _ ?_
 try clear k10 K10
 refine wp_seq_k (fun K11 k11=>?_)
 refine rg [0] ?_
 refine sv 3 (.slice none 0 0) ?_
 refine sq_nil ?_
 refine k11 _ _ ?_
 try clear k11 K11
 refine wp_seq_k (fun K12 k12=>?_)
 refine wp_seq_k (fun K13 k13=>?_)
 refine rg [0] ?_
 refine sv 4 (.int .i64 0) ?_
 refine sq_nil ?_
 refine k13 _ _ ?_
 try clear k13 K13
 refine wp_block ?_
 refine wp_loop_inv (a:=⟨List.toArray ?l14,[]⟩) (fun n a w'=>∃ (i:Nat) (vo:Value) (u14:Nat→Value),R - i=n∧a=⟨[v,undef,(.slice none 0 0),vo,(.int .i64 ((i:Int))),(u14 5),(u14 6),(u14 7),(u14 8),(u14 9),(u14 10),(u14 11),(u14 12),(u14 13),(u14 14),(u14 15),(u14 16),(u14 17),(u14 18),(u14 19),(u14 20),(u14 21),(u14 22),(u14 23),(u14 24),(u14 25),(u14 26),(u14 27),(u14 28),(u14 29),(u14 30),(u14 31),(u14 32),(u14 33),(u14 34),(u14 35),(u14 36),undef].toArray,[]⟩∧i≤R∧Ow (ERw (ERat 64) 71 4) 49 1 w' w.heap.size vo (tb (fun z0=>tb (fun z1=>((nn z0 z1:Int):Rat)) N) i)∧Gr w w') (R - 0) ?_ ?_
 ·exact ⟨0,(.slice none 0 0),(fun i=>List.getD ?l14 i undef),rfl,rfl,(Nat.zero_le _),(Ow.nil _ _ _ _ _),hB⟩
 rintro n14 a14 w14 ⟨i,vo,u14,rfl,rfl,hki,oo,hB⟩ K14 k14
 have lehC:=Below.size hB
 have hC:=Gr.refl w14
 refine wp_seq_k (fun K15 k15=>?_)
 refine wp_seq_k (fun K16 k16=>?_)
 refine rg [0,1,2,3] ?_
 refine sv 7 (.int .i64 ((i:Int))) ?_
 refine sv 8 v ?_
 refine sw 9 (.int .i64 ((R:Int))) rfl (rv_lenn (e:=30) hs (tb_lenz rfl) _ _ rfl rfl (by kernel_rfl)) ?_
 refine sv 10 (.bool (decide ((i:Int)<(R:Int)))) ?_
 refine sq_nil ?_
 refine k16 _ _ ?_
 try clear k16 K16
 refine wp_cond_split (t:=decide ((i:Int)<(R:Int))) rfl (fun hb17=>?_) (fun hb17=>?_)
 ·have hli:i<R:=by have:=of_decide_eq_true hb17;omega
  refine wp_skip ?_
  refine k15 _ _ ?_
  try clear k15 K15
  refine wp_seq_k (fun K18 k18=>?_)
  refine wp_block ?_
  refine wp_seq_k (fun K19 k19=>?_)
  refine rg [0] ?_
  refine sv 5 (.slice none 0 0) ?_
  refine sq_nil ?_
  refine k19 _ _ ?_
  try clear k19 K19
  refine wp_seq_k (fun K20 k20=>?_)
  refine wp_seq_k (fun K21 k21=>?_)
  refine rg [0] ?_
  refine sv 6 (.int .i64 0) ?_
  refine sq_nil ?_
  refine k21 _ _ ?_
  try clear k21 K21
  refine wp_block ?_
  refine wp_loop_inv (a:=⟨List.toArray ?l22,[]⟩) (fun n a w'=>∃ (j:Nat) (vi:Value) (u22:Nat→Value),N - j=n∧a=⟨[v,undef,(.slice none 0 0),vo,(.int .i64 ((i:Int))),vi,(.int .i64 ((j:Int))),(u22 7),(u22 8),(u22 9),(.bool (decide ((i:Int)<(R:Int)))),(u22 11),(u22 12),(u22 13),(u22 14),(u22 15),(u22 16),(u22 17),(u22 18),(u22 19),(u22 20),(u22 21),(u22 22),(u22 23),(u22 24),(u22 25),(u22 26),(u22 27),(u22 28),(u22 29),(u22 30),(u22 31),(u22 32),(u22 33),(u22 34),(u22 35),(u22 36),undef].toArray,[]⟩∧j≤N∧Ow (ERat 64) 71 4 w' w14.heap.size vi (tb (fun z1=>((nn i z1:Int):Rat)) j)∧Gr w14 w'∧Gr w w') (N - 0) ?_ ?_
  ·exact ⟨0,(.slice none 0 0),(fun i=>List.getD ?l22 i undef),rfl,rfl,(Nat.zero_le _),(Ow.nil _ _ _ _ _),hC,hB⟩
  rintro n22 a22 w22 ⟨j,vi,u22,rfl,rfl,hkj,oi,hC,hB⟩ K22 k22
  refine wp_seq_k (fun K23 k23=>?_)
  refine wp_seq_k (fun K24 k24=>?_)
  refine rg [0,1,2,3,4,5,6] ?_
  refine sv 13 (.int .i64 ((j:Int))) ?_
  refine sv 14 v ?_
  refine sv 15 (.int .i64 ((i:Int))) ?_
  refine sw 16 (adr v (i*1)) rfl (rv_idxn (e:=30) hs tb_len (by decide) i (by omega) _ _ _ rfl rfl rfl (by kernel_rfl) (by kernel_rfl)) ?_
  obtain ⟨_,_,⟨u25,rfl,hr25⟩,at25⟩:=Sl.get hs (by decide) (tb_get (f:=(fun z0=>tb (fun z1=>(nn z0 z1)) N)) (n:=R) (i:=i) (by omega))
  refine sw 17 u25 rfl (rv_ld1 u25 (at25.gr hB) _ _ rfl rfl (by kernel_rfl)) ?_
  refine sw 18 (.int .i64 ((N:Int))) rfl (rv_lenn (e:=3) hr25 (tb_lenz rfl) _ _ rfl rfl (by kernel_rfl)) ?_
  refine sv 19 (.bool (decide ((j:Int)<(N:Int)))) ?_
  refine sq_nil ?_
  refine k24 _ _ ?_
  try clear k24 K24
  refine wp_cond_split (t:=decide ((j:Int)<(N:Int))) rfl (fun hb26=>?_) (fun hb26=>?_)
  ·have hlj:j<N:=by have:=of_decide_eq_true hb26;omega
   refine wp_skip ?_
   refine k23 _ _ ?_
   try clear k23 K23
   refine wp_seq_k (fun K27 k27=>?_)
   refine wp_block ?_
   refine rg [0,1,2,3,4,5,6,7,8,9,10,11] ?_
   refine sv 22 vi ?_
   refine sv 23 v ?_
   refine sv 24 (.int .i64 ((i:Int))) ?_
   refine sw 25 (adr v (i*1)) rfl (rv_idxn (e:=30) hs tb_len (by decide) i (by omega) _ _ _ rfl rfl rfl (by kernel_rfl) (by kernel_rfl)) ?_
   refine sw 26 u25 rfl (rv_ld1 u25 (at25.gr hB) _ _ rfl rfl (by kernel_rfl)) ?_
   refine sv 27 (.int .i64 ((j:Int))) ?_
   refine sw 28 (adr u25 (j*1)) rfl (rv_idxn (e:=3) hr25 tb_len (by decide) j (by omega) _ _ _ rfl rfl rfl (by kernel_rfl) (by kernel_rfl)) ?_
   obtain ⟨_,_,rfl,at28⟩:=Sl.get hr25 (by decide) (tb_get (f:=(fun z1=>(nn i z1))) (n:=N) (i:=j) (by omega))
   refine sw 29 (.int .i64 ((nn i j))) rfl (rv_ld1 (.int .i64 ((nn i j))) (at28.gr hB) _ _ rfl rfl (by kernel_rfl)) ?_
   refine se ?_
   refine ec 30 (from_r ((nn i j)) (hb i hli j hlj).1 (hb i hli j hlj).2 _) ?_
   rintro e29 w29 ⟨⟨p29,q29,r29,s29,rfl,h29⟩,g29⟩
   refine ⟨_,rfl,?_⟩
   replace hB:=hB.trans g29
   replace hC:=hC.trans g29
   simp only [p3,p4]
   refine se ?_
   refine eff_bs 71 1 #[p29,q29,r29,s29] (some 31) rfl (fun _=>by kernel_rfl) (fun b30 w30 g30 L30 q30=>?_)
   have q30_hC:=Nat.le_trans (Below.size hC) q30
   replace hB:=hB.trans g30
   replace hC:=hC.trans g30
   simp only [putl,p3,p4]
   refine se ?_
   replace h29:=h29.kp g30.kp
   replace oi:=oi.gr (stab_rat 64) (g29.trans g30)
   refine eff_apg (stab_rat 64) _ _ 49 71 w14.heap.size (.agg #[(.bool false),(.slice none 0 0),(.bool false),(.slice none 0 0)]) vi (tb (fun z1=>((nn i z1:Int):Rat)) j) b30 [p29,q29,r29,s29] (((nn i j:Int):Rat)) 4 1 (some 32) 64 rfl rfl rfl rfl oi L30 ⟨h29.one0,h29.one1,h29.one2,h29.one3,trivial⟩ rfl ⟨_,_,_,_,rfl,h29.mono (by omega)⟩ (Below.size hC) (by rw [tb_len];omega) (by decide) (by kernel_rfl) (by kernel_rfl) (by decide) (by decide) (fun v31 w31 ow31 wt31 hg31=>?_)
   replace hB:=hg31 _ hB lehC
   replace hC:=hg31 _ hC (Nat.le_refl _)
   replace ow31:=ow31.cast (tb_snoc (f:=(fun z1=>((nn i z1:Int):Rat))) (n:=j) (by first | rfl | exact fil_all))
   simp only [putl,p3,p4]
   refine sv 5 v31 ?_
   refine sq_nil ?_
   refine k27 _ _ ?_
   try clear k27 K27
   refine rg [0,1,2] ?_
   refine sv 20 (.int .i64 ((j:Int))) ?_
   refine sw 21 (.int .i64 (((j:Int)+1))) rfl (RunV.int (x:=IntKind.i64.wrap (((j:Int)+1))) (y:=((j:Int)+1)) (rvk (by kernel_rfl)) (by first | rfl | (rw [IntKind.wrap_i64];omega))) ?_
   refine sv 6 (.int .i64 (((j:Int)+1))) ?_
   refine sq_nil ?_
   refine k22 (N - (j+1)) ⟨List.toArray ?l32,[]⟩ _ (by omega) ?_
   exact ⟨j+1,v31,(fun i=>List.getD ?l32 i undef),rfl,rfl,(by omega),ow31,hC,hB⟩
  ·have hej:N=j:=by have:=of_decide_eq_false hb26;omega
   subst hej
   refine wp_exit ?_
   simp only [Exit.then,Exit.inBlock,↓reduceIte]
   refine k20 _ _ ?_
   try clear k20 K20
   refine rg [0,1,2,3,4] ?_
   refine sv 33 vo ?_
   refine sv 34 vi ?_
   refine se ?_
   refine eff_bs1 29 49 vi (some 35) rfl rfl rfl (oi.sl).forms (fun _ _ _ _=>by kernel_rfl) (fun b33 w33 g33 L33 q33=>?_)
   have q33_hC:=Nat.le_trans (Below.size hC) q33
   replace hB:=hB.trans g33
   replace hC:=hC.trans g33
   simp only [putl,p3,p4]
   refine se ?_
   replace oi:=oi.gr (stab_rat 64) g33
   refine eff_apg (stab_rw (stab_rat 64) 71 4) _ _ 29 49 w.heap.size (.slice none 0 0) vo (tb (fun z0=>tb (fun z1=>((nn z0 z1:Int):Rat)) N) i) b33 [vi] (tb (fun z1=>((nn i z1:Int):Rat)) N) 1 1 (some 36) 24 rfl rfl rfl rfl (oo.gr (stab_rw (stab_rat 64) 71 4) hC) L33 ⟨oi.one,trivial⟩ rfl ⟨_,rfl,(oi.sl)⟩ (Below.size hB) (by rw [tb_len];omega) (by decide) (by kernel_rfl) (by kernel_rfl) (by decide) (by decide) (fun v34 w34 ow34 wt34 hg34=>?_)
   replace hB:=hg34 _ hB (Nat.le_refl _)
   replace ow34:=ow34.cast (tb_snoc (f:=(fun z0=>tb (fun z1=>((nn z0 z1:Int):Rat)) N)) (n:=i) (by first | rfl | exact fil_all))
   simp only [putl,p3,p4]
   refine sv 3 v34 ?_
   refine sq_nil ?_
   refine k18 _ _ ?_
   try clear k18 K18
   refine rg [0,1,2] ?_
   refine sv 11 (.int .i64 ((i:Int))) ?_
   refine sw 12 (.int .i64 (((i:Int)+1))) rfl (RunV.int (x:=IntKind.i64.wrap (((i:Int)+1))) (y:=((i:Int)+1)) (rvk (by kernel_rfl)) (by first | rfl | (rw [IntKind.wrap_i64];omega))) ?_
   refine sv 4 (.int .i64 (((i:Int)+1))) ?_
   refine sq_nil ?_
   refine k14 (R - (i+1)) ⟨List.toArray ?l35,[]⟩ _ (by omega) ?_
   exact ⟨i+1,v34,(fun i=>List.getD ?l35 i undef),rfl,rfl,(by omega),ow34,hB⟩
 ·have hei:R=i:=by have:=of_decide_eq_false hb17;omega
  subst hei
  refine wp_exit ?_
  simp only [Exit.then,Exit.inBlock,↓reduceIte]
  refine k12 _ _ ?_
  try clear k12 K12
  refine wp_seq_k (fun K36 k36=>?_)
  refine rg [0,1] ?_
  refine sv 37 vo ?_
  refine sv 2 vo ?_
  refine sq_nil ?_
  refine k36 _ _ ?_
  try clear k36 K36
  refine wp_ret ?_
  refine bodyPost_ret (v:=vo) (ret_tmp rfl rfl) rfl ⟨?_,hB⟩
  exact ⟨_,rfl,((oo.gr (stab_rw (stab_rat 64) 71 4) hC).sl)⟩

set_option maxRecDepth 100000 in
set_option maxHeartbeats 1000000 in
theorem l5_line {TT Z:Nat} {v:Value} {ee:Nat→Int × Int} (D:Nat) (_hD:D≤1000) {w:World} (hs:Sl EEn TT 2 w v (tb (fun z1=>(ee z1)) Z)):
    Calls Tryz.prog 25 #[v,(.int .i64 ((D:Int)))] w fun e w'=>(∃ u,e=.returned u∧Sl EFr 84 2 w' u (tb (fun z1=>(en ee Z z1)) D))∧Gr w w':=by
 go_enter Tryz.func25,Tryz.ntmps25
 have hB:=Gr.refl w
 refine wp_seq_k (fun K10 k10=>?_)
 refine rg [0] ?_
 refine sv 4 (.slice none 0 0) ?_
 refine sq_nil ?_
 refine k10 _ _ ?_
 try clear k10 K10
 refine wp_seq_k (fun K11 k11=>?_)
 refine rg [0] ?_
 refine sv 5 (.slice none 0 0) ?_
 refine sq_nil ?_
 refine k11 _ _ ?_
 try clear k11 K11
 refine wp_seq_k (fun K12 k12=>?_)
 refine wp_seq_k (fun K13 k13=>?_)
 refine rg [0] ?_
 refine sv 6 (.int .i64 0) ?_
 refine sq_nil ?_
 refine k13 _ _ ?_
 try clear k13 K13
 refine wp_block ?_
 refine wp_loop_inv (a:=⟨List.toArray ?l14,[]⟩) (fun n a w'=>∃ (k:Nat) (vo:Value) (u14:Nat→Value),D - k=n∧a=⟨[v,(.int .i64 ((D:Int))),undef,undef,(.slice none 0 0),vo,(.int .i64 ((k:Int))),(u14 7),(u14 8),(u14 9),(u14 10),(u14 11),(u14 12),(u14 13),(u14 14),(u14 15),(u14 16),(u14 17),(u14 18),(u14 19),(u14 20),(u14 21),(u14 22),(u14 23),(u14 24),(u14 25),(u14 26),(u14 27),(u14 28),(u14 29),(u14 30),(u14 31),(u14 32),(u14 33),(u14 34),(u14 35),(u14 36),undef].toArray,[]⟩∧k≤D∧Ow EFr 84 2 w' w.heap.size vo (tb (fun z1=>(en ee Z z1)) k)∧Gr w w') (D - 0) ?_ ?_
 ·exact ⟨0,(.slice none 0 0),(fun i=>List.getD ?l14 i undef),rfl,rfl,(Nat.zero_le _),(Ow.nil _ _ _ _ _),hB⟩
 rintro n14 a14 w14 ⟨k,vo,u14,rfl,rfl,hkk,oo,hB⟩ K14 k14
 refine wp_seq_k (fun K15 k15=>?_)
 refine wp_seq_k (fun K16 k16=>?_)
 refine rg [0,1,2] ?_
 refine sv 8 (.int .i64 ((k:Int))) ?_
 refine sv 9 (.int .i64 ((D:Int))) ?_
 refine sv 10 (.bool (decide ((k:Int)<(D:Int)))) ?_
 refine sq_nil ?_
 refine k16 _ _ ?_
 try clear k16 K16
 refine wp_cond_split (t:=decide ((k:Int)<(D:Int))) rfl (fun hb17=>?_) (fun hb17=>?_)
 ·have hlk:k<D:=by have:=of_decide_eq_true hb17;omega
  refine wp_skip ?_
  refine k15 _ _ ?_
  try clear k15 K15
  refine wp_seq_k (fun K18 k18=>?_)
  refine wp_block ?_
  refine wp_seq_k (fun K19 k19=>?_)
  refine rg [0,1,2] ?_
  refine se ?_
  refine ec 13 (f5_of ((0:Int)) ((1:Int)) (by unfold Sz;omega) (by unfold Sz;omega) (by omega) (by omega) (by omega) _) ?_
  rintro e20 w20 ⟨rfl,g20⟩
  refine ⟨_,rfl,?_⟩
  replace hB:=hB.trans g20
  simp only [p3,p4]
  refine se ?_
  refine ea 84 #[(.string ⟨([]:List UInt8).toArray⟩),(.string ⟨([]:List UInt8).toArray⟩)] 7 hB fun b21 w21 g21 L21 o21 q21 hB=>?_
  have qr21:=o21
  simp only [p3,p4]
  refine se ?_
  have lo22:=L21
  refine es 84 0 (.agg #[(.string ⟨(Lib.itoa (((((0:Int):Int):Rat)/(((1:Int):Int):Rat)).num):List UInt8).toArray⟩),(.string ⟨(Lib.itoa ((((((0:Int):Int):Rat)/(((1:Int):Int):Rat)).den:Int)):List UInt8).toArray⟩)]) [(.string ⟨(Lib.itoa (((((0:Int):Int):Rat)/(((1:Int):Int):Rat)).num):List UInt8).toArray⟩),(.string ⟨(Lib.itoa ((((((0:Int):Int):Rat)/(((1:Int):Int):Rat)).den:Int)):List UInt8).toArray⟩)] #[(.string ⟨(Lib.itoa (((((0:Int):Int):Rat)/(((1:Int):Int):Rat)).num):List UInt8).toArray⟩),(.string ⟨(Lib.itoa ((((((0:Int):Int):Rat)/(((1:Int):Int):Rat)).den:Int)):List UInt8).toArray⟩)] L21 hB q21 ⟨rfl,rfl,trivial⟩ fun w22 st22 kp22 L21 hB=>?_
  refine sq_nil ?_
  refine k19 _ _ ?_
  try clear k19 K19
  refine wp_seq_k (fun K23 k23=>?_)
  refine wp_seq_k (fun K24 k24=>?_)
  refine rg [0,1,2,3] ?_
  refine sv 14 (.int .i64 ((k:Int))) ?_
  refine sv 15 v ?_
  refine sw 16 (.int .i64 ((Z:Int))) rfl (rv_lenn (e:=114) hs (tb_lenz rfl) _ _ rfl rfl (by kernel_rfl)) ?_
  refine sv 17 (.bool (decide ((k:Int)<(Z:Int)))) ?_
  refine sq_nil ?_
  refine k24 _ _ ?_
  try clear k24 K24
  refine wp_cond_split (t:=decide ((k:Int)<(Z:Int))) rfl (fun hb25=>?_) (fun hb25=>?_)
  ·have hq26:((k:Int)<(Z:Int)):=of_decide_eq_true hb25
   obtain ⟨_,_,⟨rfl,he32⟩,at32⟩:=Sl.get hs (by decide) (tb_get (f:=(fun z1=>(ee z1))) (n:=Z) (i:=k) (by omega))
   have gd33:=Gr.drew w22
   replace hB:=hB.trans gd33
   refine wp_region_ord (fun w'=>AtV w' v (k*2) [(.int .i8 ((ee k).1)),(.int .u8 ((ee k).2))]) [(true,0),(true,1),(true,2),(true,3),(true,4),(true,5),(true,6),(true,7),(true,8),(true,9),(true,10),(true,11),(true,12),(true,13),(false,14),(false,15)] (by kernel_rfl) (by kernel_rfl) (by kernel_rfl) (by decide) (fun _ _ _ _ _ h=>h) (at32.gr hB) ?_
   refine ov 18 v ?_
   refine ov 19 (.int .i64 ((k:Int))) ?_
   refine ow 20 (adr v (k*2)) rfl (fun w' hS=>(rv_idxn (e:=114) hs tb_len (by decide) k (by omega) _ _ _ rfl rfl rfl (by kernel_rfl) (by kernel_rfl))) ?_
   refine ow 21 (adr v (k*2+0)) rfl (fun w' hS=>(rv_fldk (off:=0) at32 _ _ 0 rfl rfl (by kernel_rfl))) ?_
   refine ow 22 (.int .i8 ((ee k).1)) rfl (fun w' hS=>(rv_ld1 (.int .i8 ((ee k).1)) (AtV.part (i:=0) (us:=[(.int .i8 ((ee k).1))]) hS rfl) _ _ rfl rfl (by kernel_rfl))) ?_
   refine ow 23 (.int .i64 ((ee k).1)) rfl (fun w' hS=>(RunV.int (x:=IntKind.i64.wrap ((ee k).1)) (y:=(ee k).1) (rvk (by kernel_rfl)) (by first | rfl | (rw [IntKind.wrap_i64];omega)))) ?_
   refine ov 24 v ?_
   refine ov 25 (.int .i64 ((k:Int))) ?_
   refine ow 26 (adr v (k*2)) rfl (fun w' hS=>(rv_idxn (e:=114) hs tb_len (by decide) k (by omega) _ _ _ rfl rfl rfl (by kernel_rfl) (by kernel_rfl))) ?_
   refine ow 27 (adr v (k*2+1)) rfl (fun w' hS=>(rv_fldk (off:=1) at32 _ _ 1 rfl rfl (by kernel_rfl))) ?_
   refine ow 28 (.int .u8 ((ee k).2)) rfl (fun w' hS=>(rv_ld1 (.int .u8 ((ee k).2)) (AtV.part (i:=1) (us:=[(.int .u8 ((ee k).2))]) hS rfl) _ _ rfl rfl (by kernel_rfl))) ?_
   refine ow 29 (.int .u8 (((ee k).2 % 6))) rfl (fun w' hS=>(RunV.int (x:=Int.tmod ((ee k).2) 6) (y:=(ee k).2 % 6) (rvk (by kernel_rfl)) (by rw [Int.tmod_eq_emod_of_nonneg (by first | omega | exact Int.natCast_nonneg _)]))) ?_
   refine ow 30 (.int .i64 (((ee k).2 % 6))) rfl (fun w' hS=>(RunV.int (x:=IntKind.i64.wrap (((ee k).2 % 6))) (y:=((ee k).2 % 6)) (rvk (by kernel_rfl)) (by first | rfl | (rw [IntKind.wrap_i64];omega)))) ?_
   refine ow 31 (.int .i64 ((1+((ee k).2 % 6)))) rfl (fun w' hS=>(RunV.int (x:=IntKind.i64.wrap ((1+((ee k).2 % 6)))) (y:=(1+((ee k).2 % 6))) (rvk (by kernel_rfl)) (by first | rfl | (rw [IntKind.wrap_i64];omega)))) ?_
   refine oe ?_
   refine ec 32 (f5_of ((ee k).1) ((1+((ee k).2 % 6))) (by unfold Sz;omega) (by unfold Sz;omega) (by omega) (by omega) (by omega) _) ?_
   rintro e35 w35 ⟨rfl,g35⟩
   refine ⟨_,rfl,?_⟩
   replace hB:=hB.trans g35
   refine ⟨(at32.gr hB),?_⟩
   simp only [p3,p4]
   refine oe ?_
   replace L21:=L21.gr (gd33.trans g35)
   have lo37:=L21
   refine es 84 0 (.agg #[(.string ⟨(Lib.itoa (((((ee k).1:Int):Rat)/(((1+((ee k).2 % 6)):Int):Rat)).num):List UInt8).toArray⟩),(.string ⟨(Lib.itoa ((((((ee k).1:Int):Rat)/(((1+((ee k).2 % 6)):Int):Rat)).den:Int)):List UInt8).toArray⟩)]) [(.string ⟨(Lib.itoa (((((ee k).1:Int):Rat)/(((1+((ee k).2 % 6)):Int):Rat)).num):List UInt8).toArray⟩),(.string ⟨(Lib.itoa ((((((ee k).1:Int):Rat)/(((1+((ee k).2 % 6)):Int):Rat)).den:Int)):List UInt8).toArray⟩)] #[(.string ⟨(Lib.itoa (((((ee k).1:Int):Rat)/(((1+((ee k).2 % 6)):Int):Rat)).num):List UInt8).toArray⟩),(.string ⟨(Lib.itoa ((((((ee k).1:Int):Rat)/(((1+((ee k).2 % 6)):Int):Rat)).den:Int)):List UInt8).toArray⟩)] L21 hB q21 ⟨rfl,rfl,trivial⟩ fun w37 st37 kp37 L21 hB=>?_
   refine ⟨(at32.gr hB),?_⟩
   refine ord_nil ?_
   refine k23 _ _ ?_
   try clear k23 K23
   refine rg [0,1,2,3,4] ?_
   refine sv 33 vo ?_
   refine sw 34 (.agg #[(.string ⟨(Lib.itoa (((((ee k).1:Int):Rat)/(((1+((ee k).2 % 6)):Int):Rat)).num):List UInt8).toArray⟩),(.string ⟨(Lib.itoa ((((((ee k).1:Int):Rat)/(((1+((ee k).2 % 6)):Int):Rat)).den:Int)):List UInt8).toArray⟩)]) rfl (rl 84 0 [(.string ⟨(Lib.itoa (((((ee k).1:Int):Rat)/(((1+((ee k).2 % 6)):Int):Rat)).num):List UInt8).toArray⟩),(.string ⟨(Lib.itoa ((((((ee k).1:Int):Rat)/(((1+((ee k).2 % 6)):Int):Rat)).den:Int)):List UInt8).toArray⟩)] L21) ?_
   refine se ?_
   refine eff_bs 84 1 #[(.string ⟨(Lib.itoa (((((ee k).1:Int):Rat)/(((1+((ee k).2 % 6)):Int):Rat)).num):List UInt8).toArray⟩),(.string ⟨(Lib.itoa ((((((ee k).1:Int):Rat)/(((1+((ee k).2 % 6)):Int):Rat)).den:Int)):List UInt8).toArray⟩)] (some 35) rfl (fun _=>by kernel_rfl) (fun b38 w38 g38 L38 q38=>?_)
   have qr38:=q38
   replace hB:=hB.trans g38
   simp only [putl,p3,p4]
   refine se ?_
   replace oo:=oo.gr stab_fr ((st37.gr (((st22.gr (g20.trans g21) (Nat.le_trans (Below.size g20) qr21)).trans gd33).trans g35) (Nat.le_trans (Below.size g20) qr21)).trans g38)
   refine eff_apg stab_fr _ _ 51 84 w.heap.size (.agg #[(.string ⟨([]:List UInt8).toArray⟩),(.string ⟨([]:List UInt8).toArray⟩)]) vo (tb (fun z1=>(en ee Z z1)) k) b38 [(.string ⟨(Lib.itoa (((((ee k).1:Int):Rat)/(((1+((ee k).2 % 6)):Int):Rat)).num):List UInt8).toArray⟩),(.string ⟨(Lib.itoa ((((((ee k).1:Int):Rat)/(((1+((ee k).2 % 6)):Int):Rat)).den:Int)):List UInt8).toArray⟩)] ((((ee k).1:Int):Rat)/(((1+((ee k).2 % 6)):Int):Rat)) 2 1 (some 36) 32 rfl rfl rfl rfl oo L38 ⟨rfl,rfl,trivial⟩ rfl rfl (Below.size hB) (by rw [tb_len];omega) (by decide) (by kernel_rfl) (by kernel_rfl) (by decide) (by decide) (fun v39 w39 ow39 wt39 hg39=>?_)
   replace hB:=hg39 _ hB (Nat.le_refl _)
   replace ow39:=ow39.cast (tb_snoc (f:=(fun z1=>(en ee Z z1))) (n:=k) (en_in (by omega)))
   simp only [putl,p3,p4]
   refine sv 5 v39 ?_
   refine sq_nil ?_
   refine k18 _ _ ?_
   try clear k18 K18
   refine rg [0,1,2] ?_
   refine sv 11 (.int .i64 ((k:Int))) ?_
   refine sw 12 (.int .i64 (((k:Int)+1))) rfl (RunV.int (x:=IntKind.i64.wrap (((k:Int)+1))) (y:=((k:Int)+1)) (rvk (by kernel_rfl)) (by first | rfl | (rw [IntKind.wrap_i64];omega))) ?_
   refine sv 6 (.int .i64 (((k:Int)+1))) ?_
   refine sq_nil ?_
   refine k14 (D - (k+1)) ⟨List.toArray ?l40,[]⟩ _ (by omega) ?_
   exact ⟨k+1,v39,(fun i=>List.getD ?l40 i undef),rfl,rfl,(by omega),ow39,hB⟩
  ·have hq41:¬ ((k:Int)<(Z:Int)):=of_decide_eq_false hb25
   refine wp_skip ?_
   refine k23 _ _ ?_
   try clear k23 K23
   refine rg [0,1,2,3,4] ?_
   refine sv 33 vo ?_
   refine sw 34 (.agg #[(.string ⟨(Lib.itoa (((((0:Int):Int):Rat)/(((1:Int):Int):Rat)).num):List UInt8).toArray⟩),(.string ⟨(Lib.itoa ((((((0:Int):Int):Rat)/(((1:Int):Int):Rat)).den:Int)):List UInt8).toArray⟩)]) rfl (rl 84 0 [(.string ⟨(Lib.itoa (((((0:Int):Int):Rat)/(((1:Int):Int):Rat)).num):List UInt8).toArray⟩),(.string ⟨(Lib.itoa ((((((0:Int):Int):Rat)/(((1:Int):Int):Rat)).den:Int)):List UInt8).toArray⟩)] L21) ?_
   refine se ?_
   refine eff_bs 84 1 #[(.string ⟨(Lib.itoa (((((0:Int):Int):Rat)/(((1:Int):Int):Rat)).num):List UInt8).toArray⟩),(.string ⟨(Lib.itoa ((((((0:Int):Int):Rat)/(((1:Int):Int):Rat)).den:Int)):List UInt8).toArray⟩)] (some 35) rfl (fun _=>by kernel_rfl) (fun b42 w42 g42 L42 q42=>?_)
   have qr42:=q42
   replace hB:=hB.trans g42
   simp only [putl,p3,p4]
   refine se ?_
   replace oo:=oo.gr stab_fr ((st22.gr (g20.trans g21) (Nat.le_trans (Below.size g20) qr21)).trans g42)
   refine eff_apg stab_fr _ _ 51 84 w.heap.size (.agg #[(.string ⟨([]:List UInt8).toArray⟩),(.string ⟨([]:List UInt8).toArray⟩)]) vo (tb (fun z1=>(en ee Z z1)) k) b42 [(.string ⟨(Lib.itoa (((((0:Int):Int):Rat)/(((1:Int):Int):Rat)).num):List UInt8).toArray⟩),(.string ⟨(Lib.itoa ((((((0:Int):Int):Rat)/(((1:Int):Int):Rat)).den:Int)):List UInt8).toArray⟩)] ((((0:Int):Int):Rat)/(((1:Int):Int):Rat)) 2 1 (some 36) 32 rfl rfl rfl rfl oo L42 ⟨rfl,rfl,trivial⟩ rfl rfl (Below.size hB) (by rw [tb_len];omega) (by decide) (by kernel_rfl) (by kernel_rfl) (by decide) (by decide) (fun v43 w43 ow43 wt43 hg43=>?_)
   replace hB:=hg43 _ hB (Nat.le_refl _)
   replace ow43:=ow43.cast (tb_snoc (f:=(fun z1=>(en ee Z z1))) (n:=k) (en_out (by omega)))
   simp only [putl,p3,p4]
   refine sv 5 v43 ?_
   refine sq_nil ?_
   refine k18 _ _ ?_
   try clear k18 K18
   refine rg [0,1,2] ?_
   refine sv 11 (.int .i64 ((k:Int))) ?_
   refine sw 12 (.int .i64 (((k:Int)+1))) rfl (RunV.int (x:=IntKind.i64.wrap (((k:Int)+1))) (y:=((k:Int)+1)) (rvk (by kernel_rfl)) (by first | rfl | (rw [IntKind.wrap_i64];omega))) ?_
   refine sv 6 (.int .i64 (((k:Int)+1))) ?_
   refine sq_nil ?_
   refine k14 (D - (k+1)) ⟨List.toArray ?l44,[]⟩ _ (by omega) ?_
   exact ⟨k+1,v43,(fun i=>List.getD ?l44 i undef),rfl,rfl,(by omega),ow43,hB⟩
 ·have hek:D=k:=by have:=of_decide_eq_false hb17;omega
  subst hek
  refine wp_exit ?_
  simp only [Exit.then,Exit.inBlock,↓reduceIte]
  refine k12 _ _ ?_
  try clear k12 K12
  refine wp_seq_k (fun K45 k45=>?_)
  refine rg [0,1] ?_
  refine sv 37 vo ?_
  refine sv 4 vo ?_
  refine sq_nil ?_
  refine k45 _ _ ?_
  try clear k45 K45
  refine wp_ret ?_
  refine bodyPost_ret (v:=vo) (ret_tmp rfl rfl) rfl ⟨?_,hB⟩
  exact ⟨_,rfl,(oo.sl)⟩

set_option maxRecDepth 100000 in
set_option maxHeartbeats 1000000 in
theorem l5_rows {TQ Z R cc:Nat} {v:Value} {ee:Nat→Nat→Int × Int} {zl:Nat→Nat} (_hR:R=min Z 5) (_hc:cc≤255) {w:World} (hs:Sl (ESl EEn 2) TQ 1 w v (tb (fun z0=>tb (ee z0) (zl z0)) Z)):
    Calls Tryz.prog 13 #[(.agg #[(.int .u8 ((cc:Int))),v])] w fun e w'=>(∃ u,e=.returned u∧Sl (ERw EFr 84 2) 51 1 w' u (tb (fun z0=>tb (fun z1=>(en (ee z0) (zl z0) z1)) (cc % 7)) R))∧Gr w w':=by
 go_enter Tryz.func13,Tryz.ntmps13
 have hB:=Gr.refl w
 refine wp_seq_k (fun K10 k10=>?_)
 refine rg [0,1] ?_
 refine se ?_
 refine eb 24 #[(.int .u8 ((cc:Int))),v] 1 hB fun b11 w11 g11 L11 o11 q11 hB=>?_
 simp only [p3,p4]
 refine sv 2 (.slice none 0 0) ?_
 refine sq_nil ?_
 refine k10 _ _ ?_
 try clear k10 K10
 refine wp_seq_k (fun K12 k12=>?_)
 refine rg [0] ?_
 refine sv 3 (.slice none 0 0) ?_
 refine sq_nil ?_
 refine k12 _ _ ?_
 try clear k12 K12
 refine wp_seq_k (fun K13 k13=>?_)
 refine wp_seq_k (fun K14 k14=>?_)
 refine rg [0] ?_
 refine sv 4 (.int .i64 0) ?_
 refine sq_nil ?_
 refine k14 _ _ ?_
 try clear k14 K14
 refine wp_block ?_
 refine wp_loop_inv (a:=⟨List.toArray ?l15,[]⟩) (fun n a w'=>∃ (i:Nat) (vo:Value) (u15:Nat→Value),R - i=n∧a=⟨[(.agg #[(.int .u8 ((cc:Int))),v]),(.pointer (some ⟨b11,0,none⟩)),(.slice none 0 0),vo,(.int .i64 ((i:Int))),(u15 5),(u15 6),(u15 7),(u15 8),(u15 9),(u15 10),(u15 11),(u15 12),(u15 13),(u15 14),(u15 15),(u15 16),(u15 17),(u15 18),(u15 19),(u15 20),(u15 21),(u15 22),(u15 23),(u15 24),(u15 25),(u15 26),(u15 27),(u15 28),undef].toArray,[]⟩∧i≤R∧Ow (ERw EFr 84 2) 51 1 w' w.heap.size vo (tb (fun z0=>tb (fun z1=>(en (ee z0) (zl z0) z1)) (cc % 7)) i)∧Lc w' b11 #[(.int .u8 ((cc:Int))),v] 24∧Gr w w') (R - 0) ?_ ?_
 ·exact ⟨0,(.slice none 0 0),(fun i=>List.getD ?l15 i undef),rfl,rfl,(Nat.zero_le _),(Ow.nil _ _ _ _ _),L11,hB⟩
 rintro n15 a15 w15 ⟨i,vo,u15,rfl,rfl,hki,oo,L11,hB⟩ K15 k15
 refine wp_seq_k (fun K16 k16=>?_)
 refine wp_seq_k (fun K17 k17=>?_)
 refine rg [0,1,2,3,4,5,6,7,8] ?_
 refine sv 5 (.int .i64 ((i:Int))) ?_
 refine sv 6 (.pointer (some ⟨b11,1,none⟩)) ?_
 refine sw 7 v rfl (rk 22 1 L11) ?_
 refine sw 8 (.int .i64 ((Z:Int))) rfl (rv_lenn (e:=45) hs (tb_lenz rfl) _ _ rfl rfl (by kernel_rfl)) ?_
 refine sv 9 (.bool (decide ((i:Int)<(Z:Int)))) ?_
 rcases Bool.eq_false_or_eq_true (decide ((i:Int)<(Z:Int))) with hb18 | hb18
 ·have hlz:i<Z:=by have:=of_decide_eq_true hb18;omega
  refine sw 10 (.bool true) rfl (RunV.bool (x:=decide ((i:Int)<(Z:Int))) (rvk (by kernel_rfl)) hb18) ?_
  refine sv 11 (.int .i64 ((i:Int))) ?_
  refine sv 12 (.bool (decide ((i:Int)<(5:Int)))) ?_
  refine sv 13 (.bool (decide ((i:Int)<(5:Int)))) ?_
  refine sq_nil ?_
  refine k17 _ _ ?_
  try clear k17 K17
  refine wp_cond_split (t:=decide ((i:Int)<(5:Int))) rfl (fun hb19=>?_) (fun hb19=>?_)
  ·have hli:i<R:=by have:=of_decide_eq_true hb19;omega
   refine wp_skip ?_
   refine k16 _ _ ?_
   try clear k16 K16
   refine wp_seq_k (fun K20 k20=>?_)
   refine wp_block ?_
   obtain ⟨_,_,⟨u28,TT28,rfl,hr28⟩,at28⟩:=Sl.get hs (by decide) (tb_get (f:=(fun z0=>tb (ee z0) (zl z0))) (n:=Z) (i:=i) (by omega))
   have gd29:=Gr.drew w15
   replace hB:=hB.trans gd29
   replace L11:=L11.gr gd29
   refine wp_region_ord (fun w'=>Lc w' b11 #[(.int .u8 ((cc:Int))),v] 24∧AtV w' v (i*1) [u28]) [(true,0),(true,1),(true,2),(true,3),(true,4),(true,5),(true,6),(true,7),(true,8),(true,9),(false,10),(false,11),(false,12),(true,13)] (by kernel_rfl) (by kernel_rfl) (by kernel_rfl) (by decide) (fun _ _ _ _ _ h=>h) ⟨L11,(at28.gr hB)⟩ ?_
   refine ov 16 vo ?_
   refine ov 17 (.pointer (some ⟨b11,1,none⟩)) ?_
   refine ow 18 v rfl (fun w' hS=>(rk 22 1 hS.1)) ?_
   refine ov 19 (.int .i64 ((i:Int))) ?_
   refine ow 20 (adr v (i*1)) rfl (fun w' hS=>(rv_idxn (e:=45) hs tb_len (by decide) i (by omega) _ _ _ rfl rfl rfl (by kernel_rfl) (by kernel_rfl))) ?_
   refine ow 21 u28 rfl (fun w' hS=>(rv_ld1 u28 hS.2 _ _ rfl rfl (by kernel_rfl))) ?_
   refine ov 22 (.pointer (some ⟨b11,0,none⟩)) ?_
   refine ow 23 (.int .u8 ((cc:Int))) rfl (fun w' hS=>(rk 5 0 hS.1)) ?_
   refine ow 24 (.int .u8 (((cc % 7:Nat):Int))) rfl (fun w' hS=>(RunV.int (x:=Int.tmod (cc:Int) 7) (y:=((cc % 7:Nat):Int)) (rvk (by kernel_rfl)) (by rw [Int.tmod_eq_emod_of_nonneg (Int.natCast_nonneg _)];omega))) ?_
   refine ow 25 (.int .i64 (((cc % 7:Nat):Int))) rfl (fun w' hS=>(RunV.int (x:=IntKind.i64.wrap (((cc % 7:Nat):Int))) (y:=((cc % 7:Nat):Int)) (rvk (by kernel_rfl)) (by first | rfl | (rw [IntKind.wrap_i64];omega)))) ?_
   refine oe ?_
   refine ec 26 (l5_line (cc % 7) (by omega) (hr28.gr stab_en hB)) ?_
   rintro e31 w31 ⟨⟨u31,rfl,hs31⟩,g31⟩
   refine ⟨_,rfl,?_⟩
   replace hB:=hB.trans g31
   replace L11:=L11.gr g31
   refine ⟨⟨L11,(at28.gr hB)⟩,?_⟩
   simp only [p3,p4]
   refine oe ?_
   refine eff_bs1 26 51 u31 (some 27) rfl rfl rfl hs31.forms (fun _ _ _ _=>by kernel_rfl) (fun b33 w33 g33 L33 q33=>?_)
   replace hB:=hB.trans g33
   replace L11:=L11.gr g33
   refine ⟨⟨L11,(at28.gr hB)⟩,?_⟩
   simp only [putl,p3,p4]
   refine oe ?_
   replace hs31:=hs31.gr stab_fr g33
   replace oo:=oo.gr (stab_rw stab_fr 84 2) (gd29.trans (g31.trans g33))
   refine eff_apg (stab_rw stab_fr 84 2) _ _ 26 51 w.heap.size (.slice none 0 0) vo (tb (fun z0=>tb (fun z1=>(en (ee z0) (zl z0) z1)) (cc % 7)) i) b33 [u31] (tb (fun z1=>(en (ee i) (zl i) z1)) (cc % 7)) 1 1 (some 28) 24 rfl rfl rfl rfl oo L33 ⟨hs31.one,trivial⟩ rfl ⟨_,rfl,hs31⟩ (Below.size hB) (by rw [tb_len];omega) (by decide) (by kernel_rfl) (by kernel_rfl) (by decide) (by decide) (fun v35 w35 ow35 wt35 hg35=>?_)
   replace hB:=hg35 _ hB (Nat.le_refl _)
   replace ow35:=ow35.cast (tb_snoc (f:=(fun z0=>tb (fun z1=>(en (ee z0) (zl z0) z1)) (cc % 7))) (n:=i) (by first | rfl | exact fil_all))
   replace L11:=wt35.lc L11 (by decide)
   refine ⟨⟨L11,(at28.gr hB)⟩,?_⟩
   simp only [putl,p3,p4]
   refine ov 3 v35 ?_
   refine ord_nil ?_
   refine k20 _ _ ?_
   try clear k20 K20
   refine rg [0,1,2] ?_
   refine sv 14 (.int .i64 ((i:Int))) ?_
   refine sw 15 (.int .i64 (((i:Int)+1))) rfl (RunV.int (x:=IntKind.i64.wrap (((i:Int)+1))) (y:=((i:Int)+1)) (rvk (by kernel_rfl)) (by first | rfl | (rw [IntKind.wrap_i64];omega))) ?_
   refine sv 4 (.int .i64 (((i:Int)+1))) ?_
   refine sq_nil ?_
   refine k15 (R - (i+1)) ⟨List.toArray ?l36,[]⟩ _ (by omega) ?_
   exact ⟨i+1,v35,(fun i=>List.getD ?l36 i undef),rfl,rfl,(by omega),ow35,L11,hB⟩
  ·have heR:R=i:=by have:=of_decide_eq_false hb19;omega
   refine wp_exit ?_
   simp only [Exit.then,Exit.inBlock,↓reduceIte]
   refine k13 _ _ ?_
   try clear k13 K13
   refine wp_seq_k (fun K37 k37=>?_)
   refine rg [0,1] ?_
   refine sv 29 vo ?_
   refine sv 2 vo ?_
   refine sq_nil ?_
   refine k37 _ _ ?_
   try clear k37 K37
   refine wp_ret ?_
   refine bodyPost_ret (v:=vo) (ret_tmp rfl rfl) rfl ⟨?_,hB⟩
   exact (by subst heR;exact ⟨_,rfl,(oo.sl)⟩)
 ·have heR:R=i:=by have:=of_decide_eq_false hb18;omega
  refine sw 10 (.bool false) rfl (RunV.bool (x:=decide ((i:Int)<(Z:Int))) (rvk (by kernel_rfl)) hb18) ?_
  refine ss 11 ?_
  refine ss 12 ?_
  refine sv 13 (.bool false) ?_
  refine sq_nil ?_
  refine k17 _ _ ?_
  try clear k17 K17
  refine wp_cond_false rfl ?_
  refine wp_exit ?_
  simp only [Exit.then,Exit.inBlock,↓reduceIte]
  refine k13 _ _ ?_
  try clear k13 K13
  refine wp_seq_k (fun K38 k38=>?_)
  refine rg [0,1] ?_
  refine sv 29 vo ?_
  refine sv 2 vo ?_
  refine sq_nil ?_
  refine k38 _ _ ?_
  try clear k38 K38
  refine wp_ret ?_
  refine bodyPost_ret (v:=vo) (ret_tmp rfl rfl) rfl ⟨?_,hB⟩
  exact (by subst heR;exact ⟨_,rfl,(oo.sl)⟩)

set_option maxRecDepth 100000 in
set_option maxHeartbeats 1000000 in
theorem f5_solve_y {K R N:Nat} {v vb:Value} {m:Mx_} {b:Nat→Rat} (hR:R=0→N=0) (_hR2:R≤900) (_hN2:N≤900) (hK:4*K≤19990) (hz:∀ k i,k<N+1→Fd R (wth N m b) k i→∀ a,a<R→∀ b_,b_<N+1→RZ K K ((rs R (wth N m b) k).m a b_)) (hfit:isP R (wth N m b) (N+1) N=false) {w:World} (hs:Sl (ERw EFr 84 2) 51 1 w v (tb (fun z0=>tb (fun z1=>(m z0 z1)) N) R)) (hb:Sl EFr 84 2 w vb (tb (fun z1=>(b z1)) R)):
    Calls Tryz.prog 34 #[v,vb] w fun e w'=>(∃ u,e=.returned (.tuple #[u,.bool true])∧Sl EFr 84 2 w' u (tb (fun z1=>(sol (rs R (wth N m b) (N+1)) N z1)) N))∧Gr w w':=by
 go_enter Tryz.func34,Tryz.ntmps34
 have hB:=Gr.refl w
 refine wp_seq_k (fun K10 k10=>?_)
 refine rg [0,1] ?_
 refine sv 4 (.slice none 0 0) ?_
 refine sv 5 (.bool false) ?_
 refine sq_nil ?_
 refine k10 _ _ ?_
 try clear k10 K10
 refine wp_seq_k (fun K11 k11=>?_)
 refine rg [0] ?_
 refine sv 6 (.slice none 0 0) ?_
 refine sq_nil ?_
 refine k11 _ _ ?_
 try clear k11 K11
 refine wp_seq_k (fun K12 k12=>?_)
 refine wp_seq_k (fun K13 k13=>?_)
 refine rg [0] ?_
 refine sv 7 (.int .i64 0) ?_
 refine sq_nil ?_
 refine k13 _ _ ?_
 try clear k13 K13
 refine wp_block ?_
 refine wp_loop_inv (a:=⟨List.toArray ?l14,[]⟩) (fun n a w'=>∃ (i:Nat) (vo:Value) (u14:Nat→Value),R - i=n∧a=⟨[v,vb,undef,undef,(.slice none 0 0),(.bool false),vo,(.int .i64 ((i:Int))),undef,undef,undef,undef,undef,undef,(u14 14),(u14 15),(u14 16),(u14 17),(u14 18),(u14 19),(u14 20),(u14 21),(u14 22),(u14 23),(u14 24),(u14 25),(u14 26),(u14 27),(u14 28),(u14 29),(u14 30),(u14 31),(u14 32),(u14 33),(u14 34),undef,undef,undef,undef,undef,undef,undef,undef,undef,undef,undef,undef,undef,undef,undef,undef,undef,undef,undef,undef,undef,undef,undef,undef,undef,undef,undef,undef,undef,undef,undef,undef,undef,undef,undef,undef,undef,undef].toArray,[]⟩∧i≤R∧Ow (ERw EFr 84 2) 51 1 w' w.heap.size vo (tb (fun z0=>tb (fun z1=>(wth N m b z0 z1)) (N+1)) i)∧Gr w w') (R - 0) ?_ ?_
 ·exact ⟨0,(.slice none 0 0),(fun i=>List.getD ?l14 i undef),rfl,rfl,(Nat.zero_le _),(Ow.nil _ _ _ _ _),hB⟩
 rintro n14 a14 w14 ⟨i,vo,u14,rfl,rfl,hki,oo,hB⟩ K14 k14
 have lehC:=Below.size hB
 have hC:=Gr.refl w14
 refine wp_seq_k (fun K15 k15=>?_)
 refine wp_seq_k (fun K16 k16=>?_)
 refine rg [0,1,2,3] ?_
 refine sv 14 (.int .i64 ((i:Int))) ?_
 refine sv 15 v ?_
 refine sw 16 (.int .i64 ((R:Int))) rfl (rv_lenn (e:=51) hs (tb_lenz rfl) _ _ rfl rfl (by kernel_rfl)) ?_
 refine sv 17 (.bool (decide ((i:Int)<(R:Int)))) ?_
 refine sq_nil ?_
 refine k16 _ _ ?_
 try clear k16 K16
 refine wp_cond_split (t:=decide ((i:Int)<(R:Int))) rfl (fun hb17=>?_) (fun hb17=>?_)
 ·have hli:i<R:=by have:=of_decide_eq_true hb17;omega
  refine wp_skip ?_
  refine k15 _ _ ?_
  try clear k15 K15
  refine wp_seq_k (fun K18 k18=>?_)
  refine wp_block ?_
  obtain ⟨_,_,⟨u32,rfl,hr32⟩,at32⟩:=Sl.get hs (by decide) (tb_get (f:=(fun z0=>tb (fun z1=>(m z0 z1)) N)) (n:=R) (i:=i) (by omega))
  obtain ⟨_,_,rfl,at33⟩:=Sl.get hb (by decide) (tb_get (f:=(fun z1=>(b z1))) (n:=R) (i:=i) (by omega))
  have gd34:=Gr.drew w14
  replace hB:=hB.trans gd34
  replace hC:=hC.trans gd34
  refine wp_region_tree (fun w'=>AtV w' v (i*1) [u32]∧AtV w' vb (i*2) [(.string ⟨(Lib.itoa (((b i)).num):List UInt8).toArray⟩),(.string ⟨(Lib.itoa ((((b i)).den:Int)):List UInt8).toArray⟩)]) (.two [(true,0),(true,2),(true,3),(true,4),(true,5),(true,7),(true,8),(true,9),(true,10)] 1 11 (.two [] 6 11 (.fin [(false,11),(false,12),(false,13),(false,14),(true,15)]) (.fin [(false,6),(false,12),(false,13),(false,14),(true,15)])) (.fin [(false,1),(false,6),(false,12),(false,13),(false,14),(true,15)])) (by kernel_rfl) (by kernel_rfl) (by kernel_rfl) (by decide) (fun _ _ _ _ _ h=>h) ⟨(at32.gr hB),(at33.gr hB)⟩ ?_
  show wpOrd _ _ (QTwo _ _) _ _ _ _
  refine ov 20 vo ?_
  refine ov 22 v ?_
  refine ov 23 (.int .i64 ((i:Int))) ?_
  refine ow 24 (adr v (i*1)) rfl (fun w' hS=>(rv_idxn (e:=51) hs tb_len (by decide) i (by omega) _ _ _ rfl rfl rfl (by kernel_rfl) (by kernel_rfl))) ?_
  refine ow 25 u32 rfl (fun w' hS=>(rv_ld1 u32 hS.1 _ _ rfl rfl (by kernel_rfl))) ?_
  refine ov 27 vb ?_
  refine ov 28 (.int .i64 ((i:Int))) ?_
  refine ow 29 (adr vb (i*2)) rfl (fun w' hS=>(rv_idxn (e:=84) hb tb_len (by decide) i (by omega) _ _ _ rfl rfl rfl (by kernel_rfl) (by kernel_rfl))) ?_
  refine ow 30 (.agg #[(.string ⟨(Lib.itoa (((b i)).num):List UInt8).toArray⟩),(.string ⟨(Lib.itoa ((((b i)).den:Int)):List UInt8).toArray⟩)]) rfl (fun w' hS=>(rv_ldn [(.string ⟨(Lib.itoa (((b i)).num):List UInt8).toArray⟩),(.string ⟨(Lib.itoa ((((b i)).den:Int)):List UInt8).toArray⟩)] hS.2 _ _ rfl rfl (by kernel_rfl))) ?_
  refine ord_two ⟨?_,?_⟩
  ·refine oe ?_
   refine eff_bs 84 0 #[] (some 21) rfl (fun _=>by kernel_rfl) (fun b36 w36 g36 L36 q36=>?_)
   have q36_hC:=Nat.le_trans (Below.size hC) q36
   replace hB:=hB.trans g36
   replace hC:=hC.trans g36
   refine ⟨⟨(at32.gr hB),(at33.gr hB)⟩,?_⟩
   simp only [putl,p3,p4]
   refine ord_two ?_
   show wpOrd _ _ (QTwo _ _) _ _ _ _
   refine ord_two ⟨?_,?_⟩
   ·refine oe ?_
    refine eff_aps stab_fr _ _ 51 84 w14.heap.size 84 (.agg #[(.string ⟨([]:List UInt8).toArray⟩),(.string ⟨([]:List UInt8).toArray⟩)]) (.slice (some ⟨b36,0,none⟩) 0 0) ([]:List Rat) u32 (tb (fun z1=>(m i z1)) N) 2 (some 26) 32 rfl rfl rfl rfl (ow_empty (E:=EFr) (c:=2) (B:=w14.heap.size) L36 q36_hC) (hr32.gr stab_fr hB) (one_fr _) (Below.size hC) (by simp only [List.length_nil,tb_len];omega) (by decide) (by kernel_rfl) (by kernel_rfl) (by decide) (by decide) (fun v38 w38 ow38 wt38 hg38 ag38=>?_)
    replace hB:=hg38 _ hB lehC
    replace hC:=hg38 _ hC (Nat.le_refl _)
    replace ow38:=ow38.cast (List.nil_append _)
    refine ⟨⟨(at32.gr hB),(at33.gr hB)⟩,?_⟩
    simp only [putl,p3,p4]
    refine ord_two ?_
    show wpOrd _ _ _ _ _ _ _
    refine oe ?_
    refine eff_bs 84 1 #[(.string ⟨(Lib.itoa (((b i)).num):List UInt8).toArray⟩),(.string ⟨(Lib.itoa ((((b i)).den:Int)):List UInt8).toArray⟩)] (some 31) rfl (fun _=>by kernel_rfl) (fun b40 w40 g40 L40 q40=>?_)
    have q40_hC:=Nat.le_trans (Below.size hC) q40
    replace hB:=hB.trans g40
    replace hC:=hC.trans g40
    refine ⟨⟨(at32.gr hB),(at33.gr hB)⟩,?_⟩
    simp only [putl,p3,p4]
    refine oe ?_
    replace ow38:=ow38.gr stab_fr g40
    refine eff_apg stab_fr _ _ 51 84 w14.heap.size (.agg #[(.string ⟨([]:List UInt8).toArray⟩),(.string ⟨([]:List UInt8).toArray⟩)]) v38 (tb (fun z1=>(m i z1)) N) b40 [(.string ⟨(Lib.itoa (((b i)).num):List UInt8).toArray⟩),(.string ⟨(Lib.itoa ((((b i)).den:Int)):List UInt8).toArray⟩)] ((b i)) 2 1 (some 32) 32 rfl rfl rfl rfl ow38 L40 ⟨rfl,rfl,trivial⟩ rfl rfl (Below.size hC) (by rw [tb_len];omega) (by decide) (by kernel_rfl) (by kernel_rfl) (by decide) (by decide) (fun v42 w42 ow42 wt42 hg42=>?_)
    replace hB:=hg42 _ hB lehC
    replace hC:=hg42 _ hC (Nat.le_refl _)
    replace ow42:=ow42.cast (wth_row (b:=b) (i:=i) rfl)
    refine ⟨⟨(at32.gr hB),(at33.gr hB)⟩,?_⟩
    simp only [putl,p3,p4]
    refine oe ?_
    refine eff_bs1 26 51 v42 (some 33) rfl rfl rfl (ow42.sl).forms (fun _ _ _ _=>by kernel_rfl) (fun b44 w44 g44 L44 q44=>?_)
    have q44_hC:=Nat.le_trans (Below.size hC) q44
    replace hB:=hB.trans g44
    replace hC:=hC.trans g44
    refine ⟨⟨(at32.gr hB),(at33.gr hB)⟩,?_⟩
    simp only [putl,p3,p4]
    refine oe ?_
    replace ow42:=ow42.gr stab_fr g44
    refine eff_apg (stab_rw stab_fr 84 2) _ _ 26 51 w.heap.size (.slice none 0 0) vo (tb (fun z0=>tb (fun z1=>(wth N m b z0 z1)) (N+1)) i) b44 [v42] (tb (fun z1=>(wth N m b i z1)) (N+1)) 1 1 (some 34) 24 rfl rfl rfl rfl (oo.gr (stab_rw stab_fr 84 2) hC) L44 ⟨ow42.one,trivial⟩ rfl ⟨_,rfl,(ow42.sl)⟩ (Below.size hB) (by rw [tb_len];omega) (by decide) (by kernel_rfl) (by kernel_rfl) (by decide) (by decide) (fun v46 w46 ow46 wt46 hg46=>?_)
    replace hB:=hg46 _ hB (Nat.le_refl _)
    replace ow46:=ow46.cast (tb_snoc (f:=(fun z0=>tb (fun z1=>(wth N m b z0 z1)) (N+1))) (n:=i) (by first | rfl | exact fil_all))
    refine ⟨⟨(at32.gr hB),(at33.gr hB)⟩,?_⟩
    simp only [putl,p3,p4]
    refine ov 6 v46 ?_
    refine ord_nil ?_
    refine k18 _ _ ?_
    try clear k18 K18
    refine rg [0,1,2] ?_
    refine sv 18 (.int .i64 ((i:Int))) ?_
    refine sw 19 (.int .i64 (((i:Int)+1))) rfl (RunV.int (x:=IntKind.i64.wrap (((i:Int)+1))) (y:=((i:Int)+1)) (rvk (by kernel_rfl)) (by first | rfl | (rw [IntKind.wrap_i64];omega))) ?_
    refine sv 7 (.int .i64 (((i:Int)+1))) ?_
    refine sq_nil ?_
    refine k14 (R - (i+1)) ⟨List.toArray ?l47,[]⟩ _ (by omega) ?_
    exact ⟨i+1,v46,(fun i=>List.getD ?l47 i undef),rfl,rfl,(by omega),ow46,hB⟩
   ·refine oe ?_
    refine eff_bs 84 1 #[(.string ⟨(Lib.itoa (((b i)).num):List UInt8).toArray⟩),(.string ⟨(Lib.itoa ((((b i)).den:Int)):List UInt8).toArray⟩)] (some 31) rfl (fun _=>by kernel_rfl) (fun b49 w49 g49 L49 q49=>?_)
    have ne36_49:=L36.ne q49
    have q49_hC:=Nat.le_trans (Below.size hC) q49
    replace hB:=hB.trans g49
    replace hC:=hC.trans g49
    refine ⟨⟨(at32.gr hB),(at33.gr hB)⟩,?_⟩
    simp only [putl,p3,p4]
    refine ord_two ?_
    show wpOrd _ _ _ _ _ _ _
    refine oe ?_
    replace L36:=L36.gr g49
    refine eff_aps stab_fr _ _ 51 84 w14.heap.size 84 (.agg #[(.string ⟨([]:List UInt8).toArray⟩),(.string ⟨([]:List UInt8).toArray⟩)]) (.slice (some ⟨b36,0,none⟩) 0 0) ([]:List Rat) u32 (tb (fun z1=>(m i z1)) N) 2 (some 26) 32 rfl rfl rfl rfl (ow_empty (E:=EFr) (c:=2) (B:=w14.heap.size) L36 q36_hC) (hr32.gr stab_fr hB) (one_fr _) (Below.size hC) (by simp only [List.length_nil,tb_len];omega) (by decide) (by kernel_rfl) (by kernel_rfl) (by decide) (by decide) (fun v51 w51 ow51 wt51 hg51 ag51=>?_)
    replace hB:=hg51 _ hB lehC
    replace hC:=hg51 _ hC (Nat.le_refl _)
    replace ow51:=ow51.cast (List.nil_append _)
    refine ⟨⟨(at32.gr hB),(at33.gr hB)⟩,?_⟩
    simp only [putl,p3,p4]
    refine oe ?_
    replace L49:=ag51 _ _ _ (fun g n cap e=>by cases e;exact (Ne.symm ne36_49)) L49
    refine eff_apg stab_fr _ _ 51 84 w14.heap.size (.agg #[(.string ⟨([]:List UInt8).toArray⟩),(.string ⟨([]:List UInt8).toArray⟩)]) v51 (tb (fun z1=>(m i z1)) N) b49 [(.string ⟨(Lib.itoa (((b i)).num):List UInt8).toArray⟩),(.string ⟨(Lib.itoa ((((b i)).den:Int)):List UInt8).toArray⟩)] ((b i)) 2 1 (some 32) 32 rfl rfl rfl rfl ow51 L49 ⟨rfl,rfl,trivial⟩ rfl rfl (Below.size hC) (by rw [tb_len];omega) (by decide) (by kernel_rfl) (by kernel_rfl) (by decide) (by decide) (fun v53 w53 ow53 wt53 hg53=>?_)
    replace hB:=hg53 _ hB lehC
    replace hC:=hg53 _ hC (Nat.le_refl _)
    replace ow53:=ow53.cast (wth_row (b:=b) (i:=i) rfl)
    refine ⟨⟨(at32.gr hB),(at33.gr hB)⟩,?_⟩
    simp only [putl,p3,p4]
    refine oe ?_
    refine eff_bs1 26 51 v53 (some 33) rfl rfl rfl (ow53.sl).forms (fun _ _ _ _=>by kernel_rfl) (fun b55 w55 g55 L55 q55=>?_)
    have q55_hC:=Nat.le_trans (Below.size hC) q55
    replace hB:=hB.trans g55
    replace hC:=hC.trans g55
    refine ⟨⟨(at32.gr hB),(at33.gr hB)⟩,?_⟩
    simp only [putl,p3,p4]
    refine oe ?_
    replace ow53:=ow53.gr stab_fr g55
    refine eff_apg (stab_rw stab_fr 84 2) _ _ 26 51 w.heap.size (.slice none 0 0) vo (tb (fun z0=>tb (fun z1=>(wth N m b z0 z1)) (N+1)) i) b55 [v53] (tb (fun z1=>(wth N m b i z1)) (N+1)) 1 1 (some 34) 24 rfl rfl rfl rfl (oo.gr (stab_rw stab_fr 84 2) hC) L55 ⟨ow53.one,trivial⟩ rfl ⟨_,rfl,(ow53.sl)⟩ (Below.size hB) (by rw [tb_len];omega) (by decide) (by kernel_rfl) (by kernel_rfl) (by decide) (by decide) (fun v57 w57 ow57 wt57 hg57=>?_)
    replace hB:=hg57 _ hB (Nat.le_refl _)
    replace ow57:=ow57.cast (tb_snoc (f:=(fun z0=>tb (fun z1=>(wth N m b z0 z1)) (N+1))) (n:=i) (by first | rfl | exact fil_all))
    refine ⟨⟨(at32.gr hB),(at33.gr hB)⟩,?_⟩
    simp only [putl,p3,p4]
    refine ov 6 v57 ?_
    refine ord_nil ?_
    refine k18 _ _ ?_
    try clear k18 K18
    refine rg [0,1,2] ?_
    refine sv 18 (.int .i64 ((i:Int))) ?_
    refine sw 19 (.int .i64 (((i:Int)+1))) rfl (RunV.int (x:=IntKind.i64.wrap (((i:Int)+1))) (y:=((i:Int)+1)) (rvk (by kernel_rfl)) (by first | rfl | (rw [IntKind.wrap_i64];omega))) ?_
    refine sv 7 (.int .i64 (((i:Int)+1))) ?_
    refine sq_nil ?_
    refine k14 (R - (i+1)) ⟨List.toArray ?l58,[]⟩ _ (by omega) ?_
    exact ⟨i+1,v57,(fun i=>List.getD ?l58 i undef),rfl,rfl,(by omega),ow57,hB⟩
  ·refine oe ?_
   refine eff_bs 84 1 #[(.string ⟨(Lib.itoa (((b i)).num):List UInt8).toArray⟩),(.string ⟨(Lib.itoa ((((b i)).den:Int)):List UInt8).toArray⟩)] (some 31) rfl (fun _=>by kernel_rfl) (fun b60 w60 g60 L60 q60=>?_)
   have q60_hC:=Nat.le_trans (Below.size hC) q60
   replace hB:=hB.trans g60
   replace hC:=hC.trans g60
   refine ⟨⟨(at32.gr hB),(at33.gr hB)⟩,?_⟩
   simp only [putl,p3,p4]
   refine ord_two ?_
   show wpOrd _ _ _ _ _ _ _
   refine oe ?_
   refine eff_bs 84 0 #[] (some 21) rfl (fun _=>by kernel_rfl) (fun b62 w62 g62 L62 q62=>?_)
   have ne60_62:=L60.ne q62
   have q62_hC:=Nat.le_trans (Below.size hC) q62
   replace hB:=hB.trans g62
   replace hC:=hC.trans g62
   refine ⟨⟨(at32.gr hB),(at33.gr hB)⟩,?_⟩
   simp only [putl,p3,p4]
   refine oe ?_
   refine eff_aps stab_fr _ _ 51 84 w14.heap.size 84 (.agg #[(.string ⟨([]:List UInt8).toArray⟩),(.string ⟨([]:List UInt8).toArray⟩)]) (.slice (some ⟨b62,0,none⟩) 0 0) ([]:List Rat) u32 (tb (fun z1=>(m i z1)) N) 2 (some 26) 32 rfl rfl rfl rfl (ow_empty (E:=EFr) (c:=2) (B:=w14.heap.size) L62 q62_hC) (hr32.gr stab_fr hB) (one_fr _) (Below.size hC) (by simp only [List.length_nil,tb_len];omega) (by decide) (by kernel_rfl) (by kernel_rfl) (by decide) (by decide) (fun v64 w64 ow64 wt64 hg64 ag64=>?_)
   replace hB:=hg64 _ hB lehC
   replace hC:=hg64 _ hC (Nat.le_refl _)
   replace ow64:=ow64.cast (List.nil_append _)
   refine ⟨⟨(at32.gr hB),(at33.gr hB)⟩,?_⟩
   simp only [putl,p3,p4]
   refine oe ?_
   replace L60:=ag64 _ _ _ (fun g n cap e=>by cases e;exact ne60_62) (L60.gr g62)
   refine eff_apg stab_fr _ _ 51 84 w14.heap.size (.agg #[(.string ⟨([]:List UInt8).toArray⟩),(.string ⟨([]:List UInt8).toArray⟩)]) v64 (tb (fun z1=>(m i z1)) N) b60 [(.string ⟨(Lib.itoa (((b i)).num):List UInt8).toArray⟩),(.string ⟨(Lib.itoa ((((b i)).den:Int)):List UInt8).toArray⟩)] ((b i)) 2 1 (some 32) 32 rfl rfl rfl rfl ow64 L60 ⟨rfl,rfl,trivial⟩ rfl rfl (Below.size hC) (by rw [tb_len];omega) (by decide) (by kernel_rfl) (by kernel_rfl) (by decide) (by decide) (fun v66 w66 ow66 wt66 hg66=>?_)
   replace hB:=hg66 _ hB lehC
   replace hC:=hg66 _ hC (Nat.le_refl _)
   replace ow66:=ow66.cast (wth_row (b:=b) (i:=i) rfl)
   refine ⟨⟨(at32.gr hB),(at33.gr hB)⟩,?_⟩
   simp only [putl,p3,p4]
   refine oe ?_
   refine eff_bs1 26 51 v66 (some 33) rfl rfl rfl (ow66.sl).forms (fun _ _ _ _=>by kernel_rfl) (fun b68 w68 g68 L68 q68=>?_)
   have q68_hC:=Nat.le_trans (Below.size hC) q68
   replace hB:=hB.trans g68
   replace hC:=hC.trans g68
   refine ⟨⟨(at32.gr hB),(at33.gr hB)⟩,?_⟩
   simp only [putl,p3,p4]
   refine oe ?_
   replace ow66:=ow66.gr stab_fr g68
   refine eff_apg (stab_rw stab_fr 84 2) _ _ 26 51 w.heap.size (.slice none 0 0) vo (tb (fun z0=>tb (fun z1=>(wth N m b z0 z1)) (N+1)) i) b68 [v66] (tb (fun z1=>(wth N m b i z1)) (N+1)) 1 1 (some 34) 24 rfl rfl rfl rfl (oo.gr (stab_rw stab_fr 84 2) hC) L68 ⟨ow66.one,trivial⟩ rfl ⟨_,rfl,(ow66.sl)⟩ (Below.size hB) (by rw [tb_len];omega) (by decide) (by kernel_rfl) (by kernel_rfl) (by decide) (by decide) (fun v70 w70 ow70 wt70 hg70=>?_)
   replace hB:=hg70 _ hB (Nat.le_refl _)
   replace ow70:=ow70.cast (tb_snoc (f:=(fun z0=>tb (fun z1=>(wth N m b z0 z1)) (N+1))) (n:=i) (by first | rfl | exact fil_all))
   refine ⟨⟨(at32.gr hB),(at33.gr hB)⟩,?_⟩
   simp only [putl,p3,p4]
   refine ov 6 v70 ?_
   refine ord_nil ?_
   refine k18 _ _ ?_
   try clear k18 K18
   refine rg [0,1,2] ?_
   refine sv 18 (.int .i64 ((i:Int))) ?_
   refine sw 19 (.int .i64 (((i:Int)+1))) rfl (RunV.int (x:=IntKind.i64.wrap (((i:Int)+1))) (y:=((i:Int)+1)) (rvk (by kernel_rfl)) (by first | rfl | (rw [IntKind.wrap_i64];omega))) ?_
   refine sv 7 (.int .i64 (((i:Int)+1))) ?_
   refine sq_nil ?_
   refine k14 (R - (i+1)) ⟨List.toArray ?l71,[]⟩ _ (by omega) ?_
   exact ⟨i+1,v70,(fun i=>List.getD ?l71 i undef),rfl,rfl,(by omega),ow70,hB⟩
 ·have hei:R=i:=by have:=of_decide_eq_false hb17;omega
  subst hei
  refine wp_exit ?_
  simp only [Exit.then,Exit.inBlock,↓reduceIte]
  refine k12 _ _ ?_
  try clear k12 K12
  refine wp_seq_k (fun K72 k72=>?_)
  refine rg [0,1,2] ?_
  refine sv 35 v ?_
  refine se ?_
  refine ec 36 (f5_columns hR (hs.gr (stab_rw stab_fr 84 2) hB)) ?_
  rintro e73 w73 ⟨rfl,g73⟩
  refine ⟨_,rfl,?_⟩
  replace hB:=hB.trans g73
  replace hC:=hC.trans g73
  simp only [p3,p4]
  refine sv 8 (.int .i64 ((N:Int))) ?_
  refine sq_nil ?_
  refine k72 _ _ ?_
  try clear k72 K72
  refine wp_seq_k (fun K74 k74=>?_)
  refine rg [0,1,2,3,4,5,6] ?_
  refine sv 38 vo ?_
  refine se ?_
  have hlen75:=rs_len R (wth N m b) (N+1)
  have hple75:=rs_ple R (wth N m b) (N+1)
  refine ec 39 (f5_reduceW (by omega) (by omega) hK hz ((oo.gr (stab_rw stab_fr 84 2) hC).sl)) ?_
  rintro e75 w75 ⟨⟨u75,v75,rfl,hs75,hp75⟩,g75⟩
  refine ⟨_,rfl,?_⟩
  replace hB:=hB.trans g75
  replace hC:=hC.trans g75
  have lehc75:=Below.size hB
  have lehc75_hC:=Below.size hC
  have hc75:=Gr.refl w75
  simp only [p3,p4]
  refine sv 37 (.tuple #[u75,v75]) ?_
  refine sv 40 u75 ?_
  refine sv 41 v75 ?_
  refine sv 9 u75 ?_
  refine sv 10 v75 ?_
  refine sq_nil ?_
  refine k74 _ _ ?_
  try clear k74 K74
  refine wp_seq_k (fun K76 k76=>?_)
  refine wp_seq_k (fun K77 k77=>?_)
  refine rg [0,1,2,3] ?_
  refine sv 42 v75 ?_
  refine sv 43 (.int .i64 ((N:Int))) ?_
  refine se ?_
  refine ec 44 (f5_at_no (P:=(fun z1=>((pv (rs R (wth N m b) (N+1)) z1:Nat):Int))) (z:=(N:Int)) hfit (by omega) (hp75.gr stab_i64 hc75)) ?_
  rintro e78 w78 ⟨rfl,g78⟩
  refine ⟨_,rfl,?_⟩
  replace hB:=hB.trans g78
  replace hC:=hC.trans g78
  replace hc75:=hc75.trans g78
  simp only [p3,p4]
  refine sv 45 (.bool false) ?_
  refine sq_nil ?_
  refine k77 _ _ ?_
  try clear k77 K77
  refine wp_cond_false rfl ?_
  refine wp_skip ?_
  refine k76 _ _ ?_
  try clear k76 K76
  refine wp_seq_k (fun K79 k79=>?_)
  refine rg [0,1,2] ?_
  refine sv 46 (.int .i64 ((N:Int))) ?_
  refine se ?_
  refine eff_mk (E:=EFo) (none:Option Rat) 51 84 (.agg #[(.string ⟨([]:List UInt8).toArray⟩),(.string ⟨([]:List UInt8).toArray⟩)]) N 2 32 (some 47) rfl rfl rfl rfl (by kernel_rfl) (by kernel_rfl) (by decide) (by omega) (by decide) (fun _=>rfl) (fun b80 w80 g80 mk80 q80=>?_)
  have q80_hC:=Nat.le_trans (Below.size hC) q80
  have q80_hc75:=Nat.le_trans (Below.size hc75) q80
  replace q80:=Nat.le_trans (Below.size hB) q80
  replace hB:=hB.trans g80
  replace hC:=hC.trans g80
  replace hc75:=hc75.trans g80
  simp only [putl,p3,p4]
  refine sv 11 (.slice (some ⟨b80,0,none⟩) N N) ?_
  refine sq_nil ?_
  refine k79 _ _ ?_
  try clear k79 K79
  refine wp_seq_k (fun K81 k81=>?_)
  refine wp_seq_k (fun K82 k82=>?_)
  refine rg [0] ?_
  refine sv 12 (.int .i64 0) ?_
  refine sq_nil ?_
  refine k82 _ _ ?_
  try clear k82 K82
  refine wp_block ?_
  refine wp_loop_inv (a:=⟨List.toArray ?l83,[]⟩) (fun n a w'=>∃ (x:Nat) (u83:Nat→Value),N - x=n∧a=⟨[v,vb,undef,undef,(.slice none 0 0),(.bool false),vo,(.int .i64 ((R:Int))),(.int .i64 ((N:Int))),u75,v75,(.slice (some ⟨b80,0,none⟩) N N),(.int .i64 ((x:Int))),(u83 13),(u83 14),(u83 15),(u83 16),(.bool (decide ((R:Int)<(R:Int)))),(u83 18),(u83 19),(u83 20),(u83 21),(u83 22),(u83 23),(u83 24),(u83 25),(u83 26),(u83 27),(u83 28),(u83 29),(u83 30),(u83 31),(u83 32),(u83 33),(u83 34),(u83 35),(u83 36),(u83 37),(u83 38),(u83 39),(u83 40),(u83 41),(u83 42),(u83 43),(u83 44),(.bool false),(u83 46),(u83 47),(u83 48),(u83 49),(u83 50),(u83 51),(u83 52),(u83 53),(u83 54),(u83 55),(u83 56),(u83 57),(u83 58),(u83 59),(u83 60),(u83 61),(u83 62),(u83 63),(u83 64),(u83 65),(u83 66),(u83 67),(u83 68),(u83 69),(u83 70),(u83 71),undef].toArray,[]⟩∧x≤N∧Mk EFo 84 2 w' b80 (fil (fun z1=>some (pik R (wth N m b) (N+1) (fun t=>(rs R (wth N m b) (N+1)).m t N) (pl R (wth N m b) (N+1)) z1)) (none:Option Rat) N x)∧Gr w14 w'∧Gr w75 w'∧Gr w w') (N - 0) ?_ ?_
  ·exact ⟨0,(fun i=>List.getD ?l83 i undef),rfl,rfl,(Nat.zero_le _),(mk80.cast fil_zero),hC,hc75,hB⟩
  rintro n83 a83 w83 ⟨x,u83,rfl,rfl,hkx,mx,hC,hc75,hB⟩ K83 k83
  refine wp_seq_k (fun K84 k84=>?_)
  refine wp_seq_k (fun K85 k85=>?_)
  refine rg [0,1,2] ?_
  refine sv 48 (.int .i64 ((x:Int))) ?_
  refine sv 49 (.int .i64 ((N:Int))) ?_
  refine sv 50 (.bool (decide ((x:Int)<(N:Int)))) ?_
  refine sq_nil ?_
  refine k85 _ _ ?_
  try clear k85 K85
  refine wp_cond_split (t:=decide ((x:Int)<(N:Int))) rfl (fun hb86=>?_) (fun hb86=>?_)
  ·have hlx:x<N:=by have:=of_decide_eq_true hb86;omega
   refine wp_skip ?_
   refine k84 _ _ ?_
   try clear k84 K84
   refine wp_seq_k (fun K87 k87=>?_)
   refine wp_block ?_
   refine wp_seq_k (fun K88 k88=>?_)
   refine rg [0,1,2,3,4] ?_
   refine sv 53 (.slice (some ⟨b80,0,none⟩) N N) ?_
   refine sv 54 (.int .i64 ((x:Int))) ?_
   refine sv 55 (.agg #[(.string ⟨([48]:List UInt8).toArray⟩),(.string ⟨([49]:List UInt8).toArray⟩)]) ?_
   refine sw 56 (adr (.slice (some ⟨b80,0,none⟩) N N) (x*2)) rfl (rv_idxn (e:=84) (n:=N) (mx.sl_n (n:=N) (cap:=N) (fil_len (by omega)) (Nat.le_refl _)) (fil_len (by omega)) (by decide) x (by omega) _ _ _ rfl rfl rfl (by kernel_rfl) (by kernel_rfl)) ?_
   refine se ?_
   refine eff_stm stab_fo mx x (fil_lt (by omega) (by omega)) (some (0:Rat)) (.agg #[(.string ⟨([48]:List UInt8).toArray⟩),(.string ⟨([49]:List UInt8).toArray⟩)]) [(.string ⟨([48]:List UInt8).toArray⟩),(.string ⟨([49]:List UInt8).toArray⟩)] (N) (N) 84 _ _ rfl rfl rfl rfl rfl (by kernel_rfl) rfl ⟨rfl,rfl,trivial⟩ (efr0 w) (by decide) (fun w89 st89 kt89 mk89=>?_)
   replace hB:=st89.gr hB q80
   replace hC:=st89.gr hC q80_hC
   replace hc75:=st89.gr hc75 q80_hc75
   refine sq_nil ?_
   refine k88 _ _ ?_
   try clear k88 K88
   refine wp_seq_k (fun K90 k90=>?_)
   refine rg [0,1,2,3] ?_
   refine sv 57 v75 ?_
   refine sv 58 (.int .i64 ((x:Int))) ?_
   refine se ?_
   rcases Bool.eq_false_or_eq_true (hasI (fun z1=>((pv (rs R (wth N m b) (N+1)) z1:Nat):Int)) (pl R (wth N m b) (N+1)) (x:Int)) with hb91 | hb91
   ·have hix:=hb91
    refine ec 59 (f5_at_yes (P:=(fun z1=>((pv (rs R (wth N m b) (N+1)) z1:Nat):Int))) (z:=(x:Int)) hb91 (by omega) (hp75.gr stab_i64 hc75)) ?_
    rintro e92 w92 ⟨⟨tt92,rfl,htt92,hee92⟩,g92⟩
    refine ⟨_,rfl,?_⟩
    replace hB:=hB.trans g92
    replace hC:=hC.trans g92
    replace hc75:=hc75.trans g92
    simp only [p3,p4]
    refine sv 13 (.int .i64 ((tt92:Int))) ?_
    refine sq_nil ?_
    refine k90 _ _ ?_
    try clear k90 K90
    refine wp_seq_k (fun K93 k93=>?_)
    refine rg [0,1] ?_
    refine sv 60 (.int .i64 ((tt92:Int))) ?_
    have hb94:(decide ((0:Int)≤(tt92:Int)))=true:=(by simp)
    refine sw 61 (.bool true) rfl (RunV.bool (x:=decide ((0:Int)≤(tt92:Int))) (rvk (by kernel_rfl)) hb94) ?_
    refine sq_nil ?_
    refine k93 _ _ ?_
    try clear k93 K93
    refine wp_cond_true rfl ?_
    refine rg [0,1,2,3,4,5,6,7,8,9,10] ?_
    refine sv 62 (.slice (some ⟨b80,0,none⟩) N N) ?_
    refine sv 63 (.int .i64 ((x:Int))) ?_
    refine sv 64 u75 ?_
    refine sv 65 (.int .i64 ((tt92:Int))) ?_
    refine sw 66 (adr u75 (tt92*1)) rfl (rv_idxn (e:=51) hs75 tb_len (by decide) tt92 (by omega) _ _ _ rfl rfl rfl (by kernel_rfl) (by kernel_rfl)) ?_
    obtain ⟨_,_,⟨u95,rfl,hr95⟩,at95⟩:=Sl.get hs75 (by decide) (tb_get (f:=(fun z0=>tb (fun z1=>((rs R (wth N m b) (N+1)).m z0 z1)) (N+1))) (n:=(pl R (wth N m b) (N+1))) (i:=tt92) (by omega))
    refine sw 67 u95 rfl (rv_ld1 u95 (at95.gr hc75) _ _ rfl rfl (by kernel_rfl)) ?_
    refine sv 68 (.int .i64 ((N:Int))) ?_
    refine sw 69 (adr u95 (N*2)) rfl (rv_idxn (e:=84) hr95 tb_len (by decide) N (by omega) _ _ _ rfl rfl rfl (by kernel_rfl) (by kernel_rfl)) ?_
    obtain ⟨_,_,rfl,at96⟩:=Sl.get hr95 (by decide) (tb_get (f:=(fun z1=>((rs R (wth N m b) (N+1)).m tt92 z1))) (n:=(N+1)) (i:=N) (by omega))
    refine sw 70 (.agg #[(.string ⟨(Lib.itoa ((((rs R (wth N m b) (N+1)).m tt92 N)).num):List UInt8).toArray⟩),(.string ⟨(Lib.itoa (((((rs R (wth N m b) (N+1)).m tt92 N)).den:Int)):List UInt8).toArray⟩)]) rfl (rv_ldn [(.string ⟨(Lib.itoa ((((rs R (wth N m b) (N+1)).m tt92 N)).num):List UInt8).toArray⟩),(.string ⟨(Lib.itoa (((((rs R (wth N m b) (N+1)).m tt92 N)).den:Int)):List UInt8).toArray⟩)] (at96.gr hc75) _ _ rfl rfl (by kernel_rfl)) ?_
    refine sw 71 (adr (.slice (some ⟨b80,0,none⟩) N N) (x*2)) rfl (rv_idxn (e:=84) (n:=N) (mk89.sl_n (n:=N) (cap:=N) (by rw [List.length_set];exact (fil_len (by omega))) (Nat.le_refl _)) (by rw [List.length_set];exact (fil_len (by omega))) (by decide) x (by omega) _ _ _ rfl rfl rfl (by kernel_rfl) (by kernel_rfl)) ?_
    refine se ?_
    replace mk89:=mk89.gr stab_fo g92
    refine eff_stm stab_fo mk89 x (by rw [List.length_set];exact (fil_lt (by omega) (by omega))) (some ((rs R (wth N m b) (N+1)).m tt92 N)) (.agg #[(.string ⟨(Lib.itoa ((((rs R (wth N m b) (N+1)).m tt92 N)).num):List UInt8).toArray⟩),(.string ⟨(Lib.itoa (((((rs R (wth N m b) (N+1)).m tt92 N)).den:Int)):List UInt8).toArray⟩)]) [(.string ⟨(Lib.itoa ((((rs R (wth N m b) (N+1)).m tt92 N)).num):List UInt8).toArray⟩),(.string ⟨(Lib.itoa (((((rs R (wth N m b) (N+1)).m tt92 N)).den:Int)):List UInt8).toArray⟩)] (N) (N) 84 _ _ rfl rfl rfl rfl rfl (by kernel_rfl) rfl ⟨rfl,rfl,trivial⟩ rfl (by decide) (fun w97 st97 kt97 mk97=>?_)
    replace hB:=st97.gr hB q80
    replace hC:=st97.gr hC q80_hC
    replace hc75:=st97.gr hc75 q80_hc75
    refine sq_nil ?_
    refine k87 _ _ ?_
    try clear k87 K87
    refine rg [0,1,2] ?_
    refine sv 51 (.int .i64 ((x:Int))) ?_
    refine sw 52 (.int .i64 (((x:Int)+1))) rfl (RunV.int (x:=IntKind.i64.wrap (((x:Int)+1))) (y:=((x:Int)+1)) (rvk (by kernel_rfl)) (by first | rfl | (rw [IntKind.wrap_i64];omega))) ?_
    refine sv 12 (.int .i64 (((x:Int)+1))) ?_
    refine sq_nil ?_
    refine k83 (N - (x+1)) ⟨List.toArray ?l98,[]⟩ _ (by omega) ?_
    exact ⟨x+1,(fun i=>List.getD ?l98 i undef),rfl,rfl,(by omega),(mk97.cast (fil_two hlx (by rw [pik_at htt92 hee92]))),hC,hc75,hB⟩
   ·have hix:isP R (wth N m b) (N+1) x=false:=hb91
    refine ec 59 (f5_at_no (P:=(fun z1=>((pv (rs R (wth N m b) (N+1)) z1:Nat):Int))) (z:=(x:Int)) hb91 (by omega) (hp75.gr stab_i64 hc75)) ?_
    rintro e99 w99 ⟨rfl,g99⟩
    refine ⟨_,rfl,?_⟩
    replace hB:=hB.trans g99
    replace hC:=hC.trans g99
    replace hc75:=hc75.trans g99
    simp only [p3,p4]
    refine sv 13 (.int .i64 (-1)) ?_
    refine sq_nil ?_
    refine k90 _ _ ?_
    try clear k90 K90
    refine wp_seq_k (fun K100 k100=>?_)
    refine rg [0,1] ?_
    refine sv 60 (.int .i64 (-1)) ?_
    refine sv 61 (.bool false) ?_
    refine sq_nil ?_
    refine k100 _ _ ?_
    try clear k100 K100
    refine wp_cond_false rfl ?_
    refine wp_skip ?_
    refine k87 _ _ ?_
    try clear k87 K87
    refine rg [0,1,2] ?_
    refine sv 51 (.int .i64 ((x:Int))) ?_
    refine sw 52 (.int .i64 (((x:Int)+1))) rfl (RunV.int (x:=IntKind.i64.wrap (((x:Int)+1))) (y:=((x:Int)+1)) (rvk (by kernel_rfl)) (by first | rfl | (rw [IntKind.wrap_i64];omega))) ?_
    refine sv 12 (.int .i64 (((x:Int)+1))) ?_
    refine sq_nil ?_
    replace mk89:=mk89.gr stab_fo g99
    refine k83 (N - (x+1)) ⟨List.toArray ?l101,[]⟩ _ (by omega) ?_
    exact ⟨x+1,(fun i=>List.getD ?l101 i undef),rfl,rfl,(by omega),(mk89.cast (fil_set hlx (by rw [pik_no hix]))),hC,hc75,hB⟩
  ·have hex:N=x:=by have:=of_decide_eq_false hb86;omega
   subst hex
   refine wp_exit ?_
   simp only [Exit.then,Exit.inBlock,↓reduceIte]
   refine k81 _ _ ?_
   try clear k81 K81
   refine wp_seq_k (fun K102 k102=>?_)
   refine rg [0,1,2] ?_
   refine sv 72 (.slice (some ⟨b80,0,none⟩) N N) ?_
   refine sv 4 (.slice (some ⟨b80,0,none⟩) N N) ?_
   refine sv 5 (.bool true) ?_
   refine sq_nil ?_
   refine k102 _ _ ?_
   try clear k102 K102
   refine wp_ret ?_
   refine bodyPost_ret (v:=(.tuple #[(.slice (some ⟨b80,0,none⟩) N N),(.bool true)])) (ret_tmp2 rfl rfl rfl) rfl ⟨?_,hB⟩
   exact ⟨_,rfl,((mx.cast fil_all).sl_n (n:=N) (cap:=N) tb_len (Nat.le_refl _)).some⟩

set_option maxRecDepth 100000 in
set_option maxHeartbeats 1000000 in
theorem f5_solve_n {K R N:Nat} {v vb:Value} {m:Mx_} {b:Nat→Rat} (hR:R=0→N=0) (_hR2:R≤900) (_hN2:N≤900) (hK:4*K≤19990) (hz:∀ k i,k<N+1→Fd R (wth N m b) k i→∀ a,a<R→∀ b_,b_<N+1→RZ K K ((rs R (wth N m b) k).m a b_)) (hfit:isP R (wth N m b) (N+1) N=true) {w:World} (hs:Sl (ERw EFr 84 2) 51 1 w v (tb (fun z0=>tb (fun z1=>(m z0 z1)) N) R)) (hb:Sl EFr 84 2 w vb (tb (fun z1=>(b z1)) R)):
    Calls Tryz.prog 34 #[v,vb] w fun e w'=>e=.returned (.tuple #[.slice none 0 0,.bool false])∧Gr w w':=by
 go_enter Tryz.func34,Tryz.ntmps34
 have hB:=Gr.refl w
 refine wp_seq_k (fun K10 k10=>?_)
 refine rg [0,1] ?_
 refine sv 4 (.slice none 0 0) ?_
 refine sv 5 (.bool false) ?_
 refine sq_nil ?_
 refine k10 _ _ ?_
 try clear k10 K10
 refine wp_seq_k (fun K11 k11=>?_)
 refine rg [0] ?_
 refine sv 6 (.slice none 0 0) ?_
 refine sq_nil ?_
 refine k11 _ _ ?_
 try clear k11 K11
 refine wp_seq_k (fun K12 k12=>?_)
 refine wp_seq_k (fun K13 k13=>?_)
 refine rg [0] ?_
 refine sv 7 (.int .i64 0) ?_
 refine sq_nil ?_
 refine k13 _ _ ?_
 try clear k13 K13
 refine wp_block ?_
 refine wp_loop_inv (a:=⟨List.toArray ?l14,[]⟩) (fun n a w'=>∃ (i:Nat) (vo:Value) (u14:Nat→Value),R - i=n∧a=⟨[v,vb,undef,undef,(.slice none 0 0),(.bool false),vo,(.int .i64 ((i:Int))),undef,undef,undef,undef,undef,undef,(u14 14),(u14 15),(u14 16),(u14 17),(u14 18),(u14 19),(u14 20),(u14 21),(u14 22),(u14 23),(u14 24),(u14 25),(u14 26),(u14 27),(u14 28),(u14 29),(u14 30),(u14 31),(u14 32),(u14 33),(u14 34),undef,undef,undef,undef,undef,undef,undef,undef,undef,undef,undef,undef,undef,undef,undef,undef,undef,undef,undef,undef,undef,undef,undef,undef,undef,undef,undef,undef,undef,undef,undef,undef,undef,undef,undef,undef,undef,undef].toArray,[]⟩∧i≤R∧Ow (ERw EFr 84 2) 51 1 w' w.heap.size vo (tb (fun z0=>tb (fun z1=>(wth N m b z0 z1)) (N+1)) i)∧Gr w w') (R - 0) ?_ ?_
 ·exact ⟨0,(.slice none 0 0),(fun i=>List.getD ?l14 i undef),rfl,rfl,(Nat.zero_le _),(Ow.nil _ _ _ _ _),hB⟩
 rintro n14 a14 w14 ⟨i,vo,u14,rfl,rfl,hki,oo,hB⟩ K14 k14
 have lehC:=Below.size hB
 have hC:=Gr.refl w14
 refine wp_seq_k (fun K15 k15=>?_)
 refine wp_seq_k (fun K16 k16=>?_)
 refine rg [0,1,2,3] ?_
 refine sv 14 (.int .i64 ((i:Int))) ?_
 refine sv 15 v ?_
 refine sw 16 (.int .i64 ((R:Int))) rfl (rv_lenn (e:=51) hs (tb_lenz rfl) _ _ rfl rfl (by kernel_rfl)) ?_
 refine sv 17 (.bool (decide ((i:Int)<(R:Int)))) ?_
 refine sq_nil ?_
 refine k16 _ _ ?_
 try clear k16 K16
 refine wp_cond_split (t:=decide ((i:Int)<(R:Int))) rfl (fun hb17=>?_) (fun hb17=>?_)
 ·have hli:i<R:=by have:=of_decide_eq_true hb17;omega
  refine wp_skip ?_
  refine k15 _ _ ?_
  try clear k15 K15
  refine wp_seq_k (fun K18 k18=>?_)
  refine wp_block ?_
  obtain ⟨_,_,⟨u32,rfl,hr32⟩,at32⟩:=Sl.get hs (by decide) (tb_get (f:=(fun z0=>tb (fun z1=>(m z0 z1)) N)) (n:=R) (i:=i) (by omega))
  obtain ⟨_,_,rfl,at33⟩:=Sl.get hb (by decide) (tb_get (f:=(fun z1=>(b z1))) (n:=R) (i:=i) (by omega))
  have gd34:=Gr.drew w14
  replace hB:=hB.trans gd34
  replace hC:=hC.trans gd34
  refine wp_region_tree (fun w'=>AtV w' v (i*1) [u32]∧AtV w' vb (i*2) [(.string ⟨(Lib.itoa (((b i)).num):List UInt8).toArray⟩),(.string ⟨(Lib.itoa ((((b i)).den:Int)):List UInt8).toArray⟩)]) (.two [(true,0),(true,2),(true,3),(true,4),(true,5),(true,7),(true,8),(true,9),(true,10)] 1 11 (.two [] 6 11 (.fin [(false,11),(false,12),(false,13),(false,14),(true,15)]) (.fin [(false,6),(false,12),(false,13),(false,14),(true,15)])) (.fin [(false,1),(false,6),(false,12),(false,13),(false,14),(true,15)])) (by kernel_rfl) (by kernel_rfl) (by kernel_rfl) (by decide) (fun _ _ _ _ _ h=>h) ⟨(at32.gr hB),(at33.gr hB)⟩ ?_
  show wpOrd _ _ (QTwo _ _) _ _ _ _
  refine ov 20 vo ?_
  refine ov 22 v ?_
  refine ov 23 (.int .i64 ((i:Int))) ?_
  refine ow 24 (adr v (i*1)) rfl (fun w' hS=>(rv_idxn (e:=51) hs tb_len (by decide) i (by omega) _ _ _ rfl rfl rfl (by kernel_rfl) (by kernel_rfl))) ?_
  refine ow 25 u32 rfl (fun w' hS=>(rv_ld1 u32 hS.1 _ _ rfl rfl (by kernel_rfl))) ?_
  refine ov 27 vb ?_
  refine ov 28 (.int .i64 ((i:Int))) ?_
  refine ow 29 (adr vb (i*2)) rfl (fun w' hS=>(rv_idxn (e:=84) hb tb_len (by decide) i (by omega) _ _ _ rfl rfl rfl (by kernel_rfl) (by kernel_rfl))) ?_
  refine ow 30 (.agg #[(.string ⟨(Lib.itoa (((b i)).num):List UInt8).toArray⟩),(.string ⟨(Lib.itoa ((((b i)).den:Int)):List UInt8).toArray⟩)]) rfl (fun w' hS=>(rv_ldn [(.string ⟨(Lib.itoa (((b i)).num):List UInt8).toArray⟩),(.string ⟨(Lib.itoa ((((b i)).den:Int)):List UInt8).toArray⟩)] hS.2 _ _ rfl rfl (by kernel_rfl))) ?_
  refine ord_two ⟨?_,?_⟩
  ·refine oe ?_
   refine eff_bs 84 0 #[] (some 21) rfl (fun _=>by kernel_rfl) (fun b36 w36 g36 L36 q36=>?_)
   have q36_hC:=Nat.le_trans (Below.size hC) q36
   replace hB:=hB.trans g36
   replace hC:=hC.trans g36
   refine ⟨⟨(at32.gr hB),(at33.gr hB)⟩,?_⟩
   simp only [putl,p3,p4]
   refine ord_two ?_
   show wpOrd _ _ (QTwo _ _) _ _ _ _
   refine ord_two ⟨?_,?_⟩
   ·refine oe ?_
    refine eff_aps stab_fr _ _ 51 84 w14.heap.size 84 (.agg #[(.string ⟨([]:List UInt8).toArray⟩),(.string ⟨([]:List UInt8).toArray⟩)]) (.slice (some ⟨b36,0,none⟩) 0 0) ([]:List Rat) u32 (tb (fun z1=>(m i z1)) N) 2 (some 26) 32 rfl rfl rfl rfl (ow_empty (E:=EFr) (c:=2) (B:=w14.heap.size) L36 q36_hC) (hr32.gr stab_fr hB) (one_fr _) (Below.size hC) (by simp only [List.length_nil,tb_len];omega) (by decide) (by kernel_rfl) (by kernel_rfl) (by decide) (by decide) (fun v38 w38 ow38 wt38 hg38 ag38=>?_)
    replace hB:=hg38 _ hB lehC
    replace hC:=hg38 _ hC (Nat.le_refl _)
    replace ow38:=ow38.cast (List.nil_append _)
    refine ⟨⟨(at32.gr hB),(at33.gr hB)⟩,?_⟩
    simp only [putl,p3,p4]
    refine ord_two ?_
    show wpOrd _ _ _ _ _ _ _
    refine oe ?_
    refine eff_bs 84 1 #[(.string ⟨(Lib.itoa (((b i)).num):List UInt8).toArray⟩),(.string ⟨(Lib.itoa ((((b i)).den:Int)):List UInt8).toArray⟩)] (some 31) rfl (fun _=>by kernel_rfl) (fun b40 w40 g40 L40 q40=>?_)
    have q40_hC:=Nat.le_trans (Below.size hC) q40
    replace hB:=hB.trans g40
    replace hC:=hC.trans g40
    refine ⟨⟨(at32.gr hB),(at33.gr hB)⟩,?_⟩
    simp only [putl,p3,p4]
    refine oe ?_
    replace ow38:=ow38.gr stab_fr g40
    refine eff_apg stab_fr _ _ 51 84 w14.heap.size (.agg #[(.string ⟨([]:List UInt8).toArray⟩),(.string ⟨([]:List UInt8).toArray⟩)]) v38 (tb (fun z1=>(m i z1)) N) b40 [(.string ⟨(Lib.itoa (((b i)).num):List UInt8).toArray⟩),(.string ⟨(Lib.itoa ((((b i)).den:Int)):List UInt8).toArray⟩)] ((b i)) 2 1 (some 32) 32 rfl rfl rfl rfl ow38 L40 ⟨rfl,rfl,trivial⟩ rfl rfl (Below.size hC) (by rw [tb_len];omega) (by decide) (by kernel_rfl) (by kernel_rfl) (by decide) (by decide) (fun v42 w42 ow42 wt42 hg42=>?_)
    replace hB:=hg42 _ hB lehC
    replace hC:=hg42 _ hC (Nat.le_refl _)
    replace ow42:=ow42.cast (wth_row (b:=b) (i:=i) rfl)
    refine ⟨⟨(at32.gr hB),(at33.gr hB)⟩,?_⟩
    simp only [putl,p3,p4]
    refine oe ?_
    refine eff_bs1 26 51 v42 (some 33) rfl rfl rfl (ow42.sl).forms (fun _ _ _ _=>by kernel_rfl) (fun b44 w44 g44 L44 q44=>?_)
    have q44_hC:=Nat.le_trans (Below.size hC) q44
    replace hB:=hB.trans g44
    replace hC:=hC.trans g44
    refine ⟨⟨(at32.gr hB),(at33.gr hB)⟩,?_⟩
    simp only [putl,p3,p4]
    refine oe ?_
    replace ow42:=ow42.gr stab_fr g44
    refine eff_apg (stab_rw stab_fr 84 2) _ _ 26 51 w.heap.size (.slice none 0 0) vo (tb (fun z0=>tb (fun z1=>(wth N m b z0 z1)) (N+1)) i) b44 [v42] (tb (fun z1=>(wth N m b i z1)) (N+1)) 1 1 (some 34) 24 rfl rfl rfl rfl (oo.gr (stab_rw stab_fr 84 2) hC) L44 ⟨ow42.one,trivial⟩ rfl ⟨_,rfl,(ow42.sl)⟩ (Below.size hB) (by rw [tb_len];omega) (by decide) (by kernel_rfl) (by kernel_rfl) (by decide) (by decide) (fun v46 w46 ow46 wt46 hg46=>?_)
    replace hB:=hg46 _ hB (Nat.le_refl _)
    replace ow46:=ow46.cast (tb_snoc (f:=(fun z0=>tb (fun z1=>(wth N m b z0 z1)) (N+1))) (n:=i) (by first | rfl | exact fil_all))
    refine ⟨⟨(at32.gr hB),(at33.gr hB)⟩,?_⟩
    simp only [putl,p3,p4]
    refine ov 6 v46 ?_
    refine ord_nil ?_
    refine k18 _ _ ?_
    try clear k18 K18
    refine rg [0,1,2] ?_
    refine sv 18 (.int .i64 ((i:Int))) ?_
    refine sw 19 (.int .i64 (((i:Int)+1))) rfl (RunV.int (x:=IntKind.i64.wrap (((i:Int)+1))) (y:=((i:Int)+1)) (rvk (by kernel_rfl)) (by first | rfl | (rw [IntKind.wrap_i64];omega))) ?_
    refine sv 7 (.int .i64 (((i:Int)+1))) ?_
    refine sq_nil ?_
    refine k14 (R - (i+1)) ⟨List.toArray ?l47,[]⟩ _ (by omega) ?_
    exact ⟨i+1,v46,(fun i=>List.getD ?l47 i undef),rfl,rfl,(by omega),ow46,hB⟩
   ·refine oe ?_
    refine eff_bs 84 1 #[(.string ⟨(Lib.itoa (((b i)).num):List UInt8).toArray⟩),(.string ⟨(Lib.itoa ((((b i)).den:Int)):List UInt8).toArray⟩)] (some 31) rfl (fun _=>by kernel_rfl) (fun b49 w49 g49 L49 q49=>?_)
    have ne36_49:=L36.ne q49
    have q49_hC:=Nat.le_trans (Below.size hC) q49
    replace hB:=hB.trans g49
    replace hC:=hC.trans g49
    refine ⟨⟨(at32.gr hB),(at33.gr hB)⟩,?_⟩
    simp only [putl,p3,p4]
    refine ord_two ?_
    show wpOrd _ _ _ _ _ _ _
    refine oe ?_
    replace L36:=L36.gr g49
    refine eff_aps stab_fr _ _ 51 84 w14.heap.size 84 (.agg #[(.string ⟨([]:List UInt8).toArray⟩),(.string ⟨([]:List UInt8).toArray⟩)]) (.slice (some ⟨b36,0,none⟩) 0 0) ([]:List Rat) u32 (tb (fun z1=>(m i z1)) N) 2 (some 26) 32 rfl rfl rfl rfl (ow_empty (E:=EFr) (c:=2) (B:=w14.heap.size) L36 q36_hC) (hr32.gr stab_fr hB) (one_fr _) (Below.size hC) (by simp only [List.length_nil,tb_len];omega) (by decide) (by kernel_rfl) (by kernel_rfl) (by decide) (by decide) (fun v51 w51 ow51 wt51 hg51 ag51=>?_)
    replace hB:=hg51 _ hB lehC
    replace hC:=hg51 _ hC (Nat.le_refl _)
    replace ow51:=ow51.cast (List.nil_append _)
    refine ⟨⟨(at32.gr hB),(at33.gr hB)⟩,?_⟩
    simp only [putl,p3,p4]
    refine oe ?_
    replace L49:=ag51 _ _ _ (fun g n cap e=>by cases e;exact (Ne.symm ne36_49)) L49
    refine eff_apg stab_fr _ _ 51 84 w14.heap.size (.agg #[(.string ⟨([]:List UInt8).toArray⟩),(.string ⟨([]:List UInt8).toArray⟩)]) v51 (tb (fun z1=>(m i z1)) N) b49 [(.string ⟨(Lib.itoa (((b i)).num):List UInt8).toArray⟩),(.string ⟨(Lib.itoa ((((b i)).den:Int)):List UInt8).toArray⟩)] ((b i)) 2 1 (some 32) 32 rfl rfl rfl rfl ow51 L49 ⟨rfl,rfl,trivial⟩ rfl rfl (Below.size hC) (by rw [tb_len];omega) (by decide) (by kernel_rfl) (by kernel_rfl) (by decide) (by decide) (fun v53 w53 ow53 wt53 hg53=>?_)
    replace hB:=hg53 _ hB lehC
    replace hC:=hg53 _ hC (Nat.le_refl _)
    replace ow53:=ow53.cast (wth_row (b:=b) (i:=i) rfl)
    refine ⟨⟨(at32.gr hB),(at33.gr hB)⟩,?_⟩
    simp only [putl,p3,p4]
    refine oe ?_
    refine eff_bs1 26 51 v53 (some 33) rfl rfl rfl (ow53.sl).forms (fun _ _ _ _=>by kernel_rfl) (fun b55 w55 g55 L55 q55=>?_)
    have q55_hC:=Nat.le_trans (Below.size hC) q55
    replace hB:=hB.trans g55
    replace hC:=hC.trans g55
    refine ⟨⟨(at32.gr hB),(at33.gr hB)⟩,?_⟩
    simp only [putl,p3,p4]
    refine oe ?_
    replace ow53:=ow53.gr stab_fr g55
    refine eff_apg (stab_rw stab_fr 84 2) _ _ 26 51 w.heap.size (.slice none 0 0) vo (tb (fun z0=>tb (fun z1=>(wth N m b z0 z1)) (N+1)) i) b55 [v53] (tb (fun z1=>(wth N m b i z1)) (N+1)) 1 1 (some 34) 24 rfl rfl rfl rfl (oo.gr (stab_rw stab_fr 84 2) hC) L55 ⟨ow53.one,trivial⟩ rfl ⟨_,rfl,(ow53.sl)⟩ (Below.size hB) (by rw [tb_len];omega) (by decide) (by kernel_rfl) (by kernel_rfl) (by decide) (by decide) (fun v57 w57 ow57 wt57 hg57=>?_)
    replace hB:=hg57 _ hB (Nat.le_refl _)
    replace ow57:=ow57.cast (tb_snoc (f:=(fun z0=>tb (fun z1=>(wth N m b z0 z1)) (N+1))) (n:=i) (by first | rfl | exact fil_all))
    refine ⟨⟨(at32.gr hB),(at33.gr hB)⟩,?_⟩
    simp only [putl,p3,p4]
    refine ov 6 v57 ?_
    refine ord_nil ?_
    refine k18 _ _ ?_
    try clear k18 K18
    refine rg [0,1,2] ?_
    refine sv 18 (.int .i64 ((i:Int))) ?_
    refine sw 19 (.int .i64 (((i:Int)+1))) rfl (RunV.int (x:=IntKind.i64.wrap (((i:Int)+1))) (y:=((i:Int)+1)) (rvk (by kernel_rfl)) (by first | rfl | (rw [IntKind.wrap_i64];omega))) ?_
    refine sv 7 (.int .i64 (((i:Int)+1))) ?_
    refine sq_nil ?_
    refine k14 (R - (i+1)) ⟨List.toArray ?l58,[]⟩ _ (by omega) ?_
    exact ⟨i+1,v57,(fun i=>List.getD ?l58 i undef),rfl,rfl,(by omega),ow57,hB⟩
  ·refine oe ?_
   refine eff_bs 84 1 #[(.string ⟨(Lib.itoa (((b i)).num):List UInt8).toArray⟩),(.string ⟨(Lib.itoa ((((b i)).den:Int)):List UInt8).toArray⟩)] (some 31) rfl (fun _=>by kernel_rfl) (fun b60 w60 g60 L60 q60=>?_)
   have q60_hC:=Nat.le_trans (Below.size hC) q60
   replace hB:=hB.trans g60
   replace hC:=hC.trans g60
   refine ⟨⟨(at32.gr hB),(at33.gr hB)⟩,?_⟩
   simp only [putl,p3,p4]
   refine ord_two ?_
   show wpOrd _ _ _ _ _ _ _
   refine oe ?_
   refine eff_bs 84 0 #[] (some 21) rfl (fun _=>by kernel_rfl) (fun b62 w62 g62 L62 q62=>?_)
   have ne60_62:=L60.ne q62
   have q62_hC:=Nat.le_trans (Below.size hC) q62
   replace hB:=hB.trans g62
   replace hC:=hC.trans g62
   refine ⟨⟨(at32.gr hB),(at33.gr hB)⟩,?_⟩
   simp only [putl,p3,p4]
   refine oe ?_
   refine eff_aps stab_fr _ _ 51 84 w14.heap.size 84 (.agg #[(.string ⟨([]:List UInt8).toArray⟩),(.string ⟨([]:List UInt8).toArray⟩)]) (.slice (some ⟨b62,0,none⟩) 0 0) ([]:List Rat) u32 (tb (fun z1=>(m i z1)) N) 2 (some 26) 32 rfl rfl rfl rfl (ow_empty (E:=EFr) (c:=2) (B:=w14.heap.size) L62 q62_hC) (hr32.gr stab_fr hB) (one_fr _) (Below.size hC) (by simp only [List.length_nil,tb_len];omega) (by decide) (by kernel_rfl) (by kernel_rfl) (by decide) (by decide) (fun v64 w64 ow64 wt64 hg64 ag64=>?_)
   replace hB:=hg64 _ hB lehC
   replace hC:=hg64 _ hC (Nat.le_refl _)
   replace ow64:=ow64.cast (List.nil_append _)
   refine ⟨⟨(at32.gr hB),(at33.gr hB)⟩,?_⟩
   simp only [putl,p3,p4]
   refine oe ?_
   replace L60:=ag64 _ _ _ (fun g n cap e=>by cases e;exact ne60_62) (L60.gr g62)
   refine eff_apg stab_fr _ _ 51 84 w14.heap.size (.agg #[(.string ⟨([]:List UInt8).toArray⟩),(.string ⟨([]:List UInt8).toArray⟩)]) v64 (tb (fun z1=>(m i z1)) N) b60 [(.string ⟨(Lib.itoa (((b i)).num):List UInt8).toArray⟩),(.string ⟨(Lib.itoa ((((b i)).den:Int)):List UInt8).toArray⟩)] ((b i)) 2 1 (some 32) 32 rfl rfl rfl rfl ow64 L60 ⟨rfl,rfl,trivial⟩ rfl rfl (Below.size hC) (by rw [tb_len];omega) (by decide) (by kernel_rfl) (by kernel_rfl) (by decide) (by decide) (fun v66 w66 ow66 wt66 hg66=>?_)
   replace hB:=hg66 _ hB lehC
   replace hC:=hg66 _ hC (Nat.le_refl _)
   replace ow66:=ow66.cast (wth_row (b:=b) (i:=i) rfl)
   refine ⟨⟨(at32.gr hB),(at33.gr hB)⟩,?_⟩
   simp only [putl,p3,p4]
   refine oe ?_
   refine eff_bs1 26 51 v66 (some 33) rfl rfl rfl (ow66.sl).forms (fun _ _ _ _=>by kernel_rfl) (fun b68 w68 g68 L68 q68=>?_)
   have q68_hC:=Nat.le_trans (Below.size hC) q68
   replace hB:=hB.trans g68
   replace hC:=hC.trans g68
   refine ⟨⟨(at32.gr hB),(at33.gr hB)⟩,?_⟩
   simp only [putl,p3,p4]
   refine oe ?_
   replace ow66:=ow66.gr stab_fr g68
   refine eff_apg (stab_rw stab_fr 84 2) _ _ 26 51 w.heap.size (.slice none 0 0) vo (tb (fun z0=>tb (fun z1=>(wth N m b z0 z1)) (N+1)) i) b68 [v66] (tb (fun z1=>(wth N m b i z1)) (N+1)) 1 1 (some 34) 24 rfl rfl rfl rfl (oo.gr (stab_rw stab_fr 84 2) hC) L68 ⟨ow66.one,trivial⟩ rfl ⟨_,rfl,(ow66.sl)⟩ (Below.size hB) (by rw [tb_len];omega) (by decide) (by kernel_rfl) (by kernel_rfl) (by decide) (by decide) (fun v70 w70 ow70 wt70 hg70=>?_)
   replace hB:=hg70 _ hB (Nat.le_refl _)
   replace ow70:=ow70.cast (tb_snoc (f:=(fun z0=>tb (fun z1=>(wth N m b z0 z1)) (N+1))) (n:=i) (by first | rfl | exact fil_all))
   refine ⟨⟨(at32.gr hB),(at33.gr hB)⟩,?_⟩
   simp only [putl,p3,p4]
   refine ov 6 v70 ?_
   refine ord_nil ?_
   refine k18 _ _ ?_
   try clear k18 K18
   refine rg [0,1,2] ?_
   refine sv 18 (.int .i64 ((i:Int))) ?_
   refine sw 19 (.int .i64 (((i:Int)+1))) rfl (RunV.int (x:=IntKind.i64.wrap (((i:Int)+1))) (y:=((i:Int)+1)) (rvk (by kernel_rfl)) (by first | rfl | (rw [IntKind.wrap_i64];omega))) ?_
   refine sv 7 (.int .i64 (((i:Int)+1))) ?_
   refine sq_nil ?_
   refine k14 (R - (i+1)) ⟨List.toArray ?l71,[]⟩ _ (by omega) ?_
   exact ⟨i+1,v70,(fun i=>List.getD ?l71 i undef),rfl,rfl,(by omega),ow70,hB⟩
 ·have hei:R=i:=by have:=of_decide_eq_false hb17;omega
  subst hei
  refine wp_exit ?_
  simp only [Exit.then,Exit.inBlock,↓reduceIte]
  refine k12 _ _ ?_
  try clear k12 K12
  refine wp_seq_k (fun K72 k72=>?_)
  refine rg [0,1,2] ?_
  refine sv 35 v ?_
  refine se ?_
  refine ec 36 (f5_columns hR (hs.gr (stab_rw stab_fr 84 2) hB)) ?_
  rintro e73 w73 ⟨rfl,g73⟩
  refine ⟨_,rfl,?_⟩
  replace hB:=hB.trans g73
  replace hC:=hC.trans g73
  simp only [p3,p4]
  refine sv 8 (.int .i64 ((N:Int))) ?_
  refine sq_nil ?_
  refine k72 _ _ ?_
  try clear k72 K72
  refine wp_seq_k (fun K74 k74=>?_)
  refine rg [0,1,2,3,4,5,6] ?_
  refine sv 38 vo ?_
  refine se ?_
  have hlen75:=rs_len R (wth N m b) (N+1)
  have hple75:=rs_ple R (wth N m b) (N+1)
  refine ec 39 (f5_reduceW (by omega) (by omega) hK hz ((oo.gr (stab_rw stab_fr 84 2) hC).sl)) ?_
  rintro e75 w75 ⟨⟨u75,v75,rfl,hs75,hp75⟩,g75⟩
  refine ⟨_,rfl,?_⟩
  replace hB:=hB.trans g75
  replace hC:=hC.trans g75
  have lehc75:=Below.size hB
  have lehc75_hC:=Below.size hC
  have hc75:=Gr.refl w75
  simp only [p3,p4]
  refine sv 37 (.tuple #[u75,v75]) ?_
  refine sv 40 u75 ?_
  refine sv 41 v75 ?_
  refine sv 9 u75 ?_
  refine sv 10 v75 ?_
  refine sq_nil ?_
  refine k74 _ _ ?_
  try clear k74 K74
  refine wp_seq_k (fun K76 k76=>?_)
  refine wp_seq_k (fun K77 k77=>?_)
  refine rg [0,1,2,3] ?_
  refine sv 42 v75 ?_
  refine sv 43 (.int .i64 ((N:Int))) ?_
  refine se ?_
  refine ec 44 (f5_at_yes (P:=(fun z1=>((pv (rs R (wth N m b) (N+1)) z1:Nat):Int))) (z:=(N:Int)) hfit (by omega) (hp75.gr stab_i64 hc75)) ?_
  rintro e78 w78 ⟨⟨tt78,rfl,htt78,hee78⟩,g78⟩
  refine ⟨_,rfl,?_⟩
  replace hB:=hB.trans g78
  replace hC:=hC.trans g78
  replace hc75:=hc75.trans g78
  simp only [p3,p4]
  have hb79:(decide ((0:Int)≤(tt78:Int)))=true:=(by simp)
  refine sw 45 (.bool true) rfl (RunV.bool (x:=decide ((0:Int)≤(tt78:Int))) (rvk (by kernel_rfl)) hb79) ?_
  refine sq_nil ?_
  refine k77 _ _ ?_
  try clear k77 K77
  refine wp_cond_true rfl ?_
  refine wp_seq_k (fun K80 k80=>?_)
  refine rg [0,1] ?_
  refine sv 4 (.slice none 0 0) ?_
  refine sv 5 (.bool false) ?_
  refine sq_nil ?_
  refine k80 _ _ ?_
  try clear k80 K80
  refine wp_ret ?_
  simp only [Exit.then]
  refine bodyPost_ret (v:=(.tuple #[(.slice none 0 0),(.bool false)])) (ret_tmp2 rfl rfl rfl) rfl ⟨?_,hB⟩
  exact rfl

end Go.Proofs.YtepgkcimmdmgcaaGreatDoor
