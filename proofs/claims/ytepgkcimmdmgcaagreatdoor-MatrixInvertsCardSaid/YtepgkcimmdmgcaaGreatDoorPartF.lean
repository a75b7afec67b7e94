/- Joined of: Gen172, Lo, Gen173, Lq, Gen176, Scale, Pa1, Pa2, Rd1, Rd2, Gen34, Rd3, Gen36, Gen33, Ok2, Gen177, Lr, Ls, Gen180. -/
import Derived.Test.YtepgkcimmdmgcaaGreatDoorPartE
import Derived.Test.YtepgkcimmdmgcaaGreatDoorPartD
import Derived.Test.YtepgkcimmdmgcaaGreatDoorPartA
import Derived.Lib.SmallJoins
import Derived.Laws.RangeString
import Derived.Test.YtepgkcimmdmgcaaGreatDoorPartB
import Derived.Test.YtepgkcimmdmgcaaGreatDoorPartC
import Derived.Shelf.Strings.SlTrimAscii
namespace Go.Proofs.YtepgkcimmdmgcaaGreatDoor
open Go.RowKit

set_option maxRecDepth 100000 in
set_option maxHeartbeats 8000000 in
theorem f5_reduce {K R N:Nat} {v:Value} {m:Mx_} (hR:R=0→N=0) (_hR2:R≤1000) (_hN2:N≤1000) (_hK:4*K≤19990) (hz:∀ k i,k<N→Fd R m k i→∀ a,a<R→∀ b,b<N→RZ K K ((rs R m k).m a b)) {w:World} (hs:Sl (ERw EFr 84 2) 51 1 w v (tb (fun z0=>tb (fun z1=>(m z0 z1)) N) R)):
    Calls Tryz.prog 17 #[v] w fun e w'=>(∃ u v,e=.returned (.tuple #[u,v])∧Sl (ERw EFr 84 2) 51 1 w' u (tb (fun z0=>tb (fun z1=>((rs R m N).m z0 z1)) N) (pl R m N))∧Sl EI64 3 1 w' v (tb (fun z1=>((pv (rs R m N) z1:Nat):Int)) (pl R m N)))∧Gr w w':=by
 go_enter Tryz.func17,Tryz.ntmps17
 have hB:=Gr.refl w
 refine wp_seq_k (fun K10 k10=>?_)
 refine rg [0,1] ?_
 refine sv 2 (.slice none 0 0) ?_
 refine sv 3 (.slice none 0 0) ?_
 refine sq_nil ?_
 refine k10 _ _ ?_
 try clear k10 K10
 refine wp_seq_k (fun K11 k11=>?_)
 refine rg [0] ?_
 refine sv 4 (.slice none 0 0) ?_
 refine sq_nil ?_
 refine k11 _ _ ?_
 try clear k11 K11
 refine wp_seq_k (fun K12 k12=>?_)
 refine wp_seq_k (fun K13 k13=>?_)
 refine rg [0] ?_
 refine sv 5 (.int .i64 0) ?_
 refine sq_nil ?_
 refine k13 _ _ ?_
 try clear k13 K13
 refine wp_block ?_
 refine wp_loop_inv (a:=⟨List.toArray ?l14,[]⟩) (fun n a w'=>∃ (ii:Nat) (bs:Nat→Value) (vo:Value) (u14:Nat→Value),R - ii=n∧a=⟨[v,undef,(.slice none 0 0),(.slice none 0 0),vo,(.int .i64 ((ii:Int))),undef,undef,undef,undef,undef,undef,undef,undef,undef,(u14 15),(u14 16),(u14 17),(u14 18),(u14 19),(u14 20),(u14 21),(u14 22),(u14 23),(u14 24),(u14 25),(u14 26),(u14 27),(u14 28),(u14 29),undef,undef,undef,undef,undef,undef,undef,undef,undef,undef,undef,undef,undef,undef,undef,undef,undef,undef,undef,undef,undef,undef,undef,undef,undef,undef,undef,undef,undef,undef,undef,undef,undef,undef,undef,undef,undef,undef,undef,undef,undef,undef,undef,undef,undef,undef,undef,undef,undef,undef,undef,undef,undef,undef,undef,undef,undef,undef,undef,undef,undef,undef,undef,undef,undef,undef,undef,undef,undef,undef,undef,undef,undef,undef,undef,undef,undef,undef,undef,undef,undef,undef,undef,undef,undef,undef,undef,undef,undef,undef,undef,undef,undef,undef,undef,undef,undef,undef,undef,undef,undef,undef,undef,undef,undef,undef,undef,undef,undef,undef,undef,undef,undef,undef,undef,undef,undef,undef,undef,undef,undef,undef,undef,undef,undef,undef,undef,undef,undef,undef,undef,undef,undef,undef].toArray,[]⟩∧ii≤R∧Ow EVs 51 1 w' w.heap.size vo (tb bs ii)∧Mr EFr 84 2 w' w.heap.size bs (fun z0 z1=>(m z0 z1)) ii N∧Gr w w') (R - 0) ?_ ?_
 ·exact ⟨0,(fun _=>undef),(.slice none 0 0),(fun i=>List.getD ?l14 i undef),rfl,rfl,(Nat.zero_le _),(Ow.nil _ _ _ _ _),Mr.zero0,hB⟩
 rintro n14 a14 w14 ⟨ii,bs,vo,u14,rfl,rfl,hki,ov,mr,hB⟩ K14 k14
 have lehC:=Below.size hB
 have hC:=Gr.refl w14
 refine wp_seq_k (fun K15 k15=>?_)
 refine wp_seq_k (fun K16 k16=>?_)
 refine rg [0,1,2,3] ?_
 refine sv 15 (.int .i64 ((ii:Int))) ?_
 refine sv 16 v ?_
 refine sw 17 (.int .i64 ((R:Int))) rfl (rv_lenn (e:=51) hs (tb_lenz rfl) _ _ rfl rfl (by kernel_rfl)) ?_
 refine sv 18 (.bool (decide ((ii:Int)<(R:Int)))) ?_
 refine sq_nil ?_
 refine k16 _ _ ?_
 try clear k16 K16
 refine wp_cond_split (t:=decide ((ii:Int)<(R:Int))) rfl (fun hb17=>?_) (fun hb17=>?_)
 ·have hli:ii<R:=by have:=of_decide_eq_true hb17;omega
  refine wp_skip ?_
  refine k15 _ _ ?_
  try clear k15 K15
  refine wp_seq_k (fun K18 k18=>?_)
  refine wp_block ?_
  refine rg [0,1,2,3,4,5,6,7,8,9] ?_
  refine sv 21 vo ?_
  refine se ?_
  refine eff_bs 84 0 #[] (some 22) rfl (fun _=>by kernel_rfl) (fun b19 w19 g19 L19 q19=>?_)
  have q19_hC:=Nat.le_trans (Below.size hC) q19
  replace hB:=hB.trans g19
  replace hC:=hC.trans g19
  simp only [putl,p3,p4]
  refine sv 23 v ?_
  refine sv 24 (.int .i64 ((ii:Int))) ?_
  refine sw 25 (adr v (ii*1)) rfl (rv_idxn (e:=51) hs tb_len (by decide) ii (by omega) _ _ _ rfl rfl rfl (by kernel_rfl) (by kernel_rfl)) ?_
  obtain ⟨_,_,⟨u20,rfl,hr20⟩,at20⟩:=Sl.get hs (by decide) (tb_get (f:=(fun z0=>tb (fun z1=>(m z0 z1)) N)) (n:=R) (i:=ii) (by omega))
  refine sw 26 u20 rfl (rv_ld1 u20 (at20.gr hB) _ _ rfl rfl (by kernel_rfl)) ?_
  refine se ?_
  refine eff_aps stab_fr _ _ 51 84 w14.heap.size 84 (.agg #[(.string ⟨([]:List UInt8).toArray⟩),(.string ⟨([]:List UInt8).toArray⟩)]) (.slice (some ⟨b19,0,none⟩) 0 0) ([]:List Rat) u20 (tb (fun z1=>(m ii z1)) N) 2 (some 27) 32 rfl rfl rfl rfl (ow_empty (E:=EFr) (c:=2) (B:=w14.heap.size) L19 q19_hC) (hr20.gr stab_fr hB) (one_fr _) (Below.size hC) (by simp only [List.length_nil,tb_len];omega) (by decide) (by kernel_rfl) (by kernel_rfl) (by decide) (by decide) (fun v21 w21 ow21 wt21 hg21 ag21=>?_)
  replace hB:=hg21 _ hB lehC
  replace hC:=hg21 _ hC (Nat.le_refl _)
  replace ow21:=ow21.cast (List.nil_append _)
  simp only [putl,p3,p4]
  refine se ?_
  refine eff_bs1 26 51 v21 (some 28) rfl rfl rfl (ow21.sl).forms (fun _ _ _ _=>by kernel_rfl) (fun b22 w22 g22 L22 q22=>?_)
  have q22_hC:=Nat.le_trans (Below.size hC) q22
  replace hB:=hB.trans g22
  replace hC:=hC.trans g22
  simp only [putl,p3,p4]
  refine se ?_
  replace ow21:=ow21.gr stab_fr g22
  have mr23:=mr.snoc stab_fr hC ow21 lehC
  refine eff_apg stab_vs _ _ 26 51 w.heap.size (.slice none 0 0) vo (tb bs ii) b22 [v21] v21 1 1 (some 29) 24 rfl rfl rfl rfl (ov.gr stab_vs hC) L22 ⟨ow21.one,trivial⟩ rfl (EVs.of (ow21.sl) _) (Below.size hB) (by rw [tb_len];omega) (by decide) (by kernel_rfl) (by kernel_rfl) (by decide) (by decide) (fun v24 w24 ow24 wt24 hg24=>?_)
  replace hB:=hg24 _ hB (Nat.le_refl _)
  replace ow24:=ow24.cast bs_snoc
  simp only [putl,p3,p4]
  refine sv 4 v24 ?_
  refine sq_nil ?_
  refine k18 _ _ ?_
  try clear k18 K18
  refine rg [0,1,2] ?_
  refine sv 19 (.int .i64 ((ii:Int))) ?_
  refine sw 20 (.int .i64 (((ii:Int)+1))) rfl (RunV.int (x:=IntKind.i64.wrap (((ii:Int)+1))) (y:=((ii:Int)+1)) (rvk (by kernel_rfl)) (by first | rfl | (rw [IntKind.wrap_i64];omega))) ?_
  refine sv 5 (.int .i64 (((ii:Int)+1))) ?_
  refine sq_nil ?_
  replace mr23:=mr23.kts stab_fr (wt24.kts (by decide))
  refine k14 (R - (ii+1)) ⟨List.toArray ?l25,[]⟩ _ (by omega) ?_
  exact ⟨ii+1,(fun t=>if t=ii then v21 else bs t),v24,(fun i=>List.getD ?l25 i undef),rfl,rfl,(by omega),ow24,mr23,hB⟩
 ·have hei:R=ii:=by have:=of_decide_eq_false hb17;omega
  subst hei
  refine wp_exit ?_
  simp only [Exit.then,Exit.inBlock,↓reduceIte]
  refine k12 _ _ ?_
  try clear k12 K12
  refine wp_seq_k (fun K26 k26=>?_)
  refine rg [0] ?_
  refine sv 6 (.slice none 0 0) ?_
  refine sq_nil ?_
  refine k26 _ _ ?_
  try clear k26 K26
  refine wp_seq_k (fun K27 k27=>?_)
  refine wp_seq_k (fun K28 k28=>?_)
  refine rg [0] ?_
  refine sv 7 (.int .i64 0) ?_
  refine sq_nil ?_
  refine k28 _ _ ?_
  try clear k28 K28
  refine wp_block ?_
  replace ov:=(ov.gr stab_vs hC)
  refine wp_loop_inv (a:=⟨List.toArray ?l29,[]⟩) (fun n a w'=>∃ (k:Nat) (bs:Nat→Value) (vp:Value) (u29:Nat→Value),N - k=n∧a=⟨[v,undef,(.slice none 0 0),(.slice none 0 0),vo,(.int .i64 ((R:Int))),vp,(.int .i64 ((k:Int))),(u29 8),(u29 9),(u29 10),(u29 11),(u29 12),(u29 13),(u29 14),(u29 15),(u29 16),(u29 17),(.bool (decide ((R:Int)<(R:Int)))),(u29 19),(u29 20),(u29 21),(u29 22),(u29 23),(u29 24),(u29 25),(u29 26),(u29 27),(u29 28),(u29 29),(u29 30),(u29 31),(u29 32),(u29 33),(u29 34),(u29 35),(u29 36),(u29 37),(u29 38),(u29 39),(u29 40),(u29 41),(u29 42),(u29 43),(u29 44),(u29 45),(u29 46),(u29 47),(u29 48),(u29 49),(u29 50),(u29 51),(u29 52),(u29 53),(u29 54),(u29 55),(u29 56),(u29 57),(u29 58),(u29 59),(u29 60),(u29 61),(u29 62),(u29 63),(u29 64),(u29 65),(u29 66),(u29 67),(u29 68),(u29 69),(u29 70),(u29 71),(u29 72),(u29 73),(u29 74),(u29 75),(u29 76),(u29 77),(u29 78),(u29 79),(u29 80),(u29 81),(u29 82),(u29 83),(u29 84),(u29 85),(u29 86),(u29 87),(u29 88),(u29 89),(u29 90),(u29 91),(u29 92),(u29 93),(u29 94),(u29 95),(u29 96),(u29 97),(u29 98),(u29 99),(u29 100),(u29 101),(u29 102),(u29 103),(u29 104),(u29 105),(u29 106),(u29 107),(u29 108),(u29 109),(u29 110),(u29 111),(u29 112),(u29 113),(u29 114),(u29 115),(u29 116),(u29 117),(u29 118),(u29 119),(u29 120),(u29 121),(u29 122),(u29 123),(u29 124),(u29 125),(u29 126),(u29 127),(u29 128),(u29 129),(u29 130),(u29 131),(u29 132),(u29 133),(u29 134),(u29 135),(u29 136),(u29 137),(u29 138),(u29 139),(u29 140),(u29 141),(u29 142),(u29 143),(u29 144),(u29 145),(u29 146),(u29 147),(u29 148),(u29 149),(u29 150),(u29 151),(u29 152),(u29 153),(u29 154),(u29 155),(u29 156),(u29 157),(u29 158),undef,undef,undef,undef,undef].toArray,[]⟩∧k≤N∧Ow EVs 51 1 w' w.heap.size vo (tb bs R)∧Mr EFr 84 2 w' w.heap.size bs (fun z0 z1=>((rs R m k).m z0 z1)) R N∧Ow EI64 3 1 w' w.heap.size vp (tb (fun z1=>((pv (rs R m k) z1:Nat):Int)) (pl R m k))∧Gr w w') (N - 0) ?_ ?_
  ·exact ⟨0,bs,(.slice none 0 0),(fun i=>List.getD ?l29 i undef),rfl,rfl,(Nat.zero_le _),ov,mr,(Ow.nil _ _ _ _ _),hB⟩
  rintro n29 a29 w29 ⟨k,bs,vp,u29,rfl,rfl,hkk,ov,mr,hpv,hB⟩ K29 k29
  refine wp_seq_k (fun K30 k30=>?_)
  refine wp_seq_k (fun K31 k31=>?_)
  refine rg [0,1,2,3] ?_
  refine sv 30 (.int .i64 ((k:Int))) ?_
  refine sv 31 v ?_
  refine se ?_
  refine ec 32 (f5_columns hR (hs.gr (stab_rw stab_fr 84 2) hB)) ?_
  rintro e32 w32 ⟨rfl,g32⟩
  refine ⟨_,rfl,?_⟩
  replace hB:=hB.trans g32
  simp only [p3,p4]
  refine sv 33 (.bool (decide ((k:Int)<(N:Int)))) ?_
  refine sq_nil ?_
  refine k31 _ _ ?_
  try clear k31 K31
  refine wp_cond_split (t:=decide ((k:Int)<(N:Int))) rfl (fun hb33=>?_) (fun hb33=>?_)
  ·have hlk:k<N:=by have:=of_decide_eq_true hb33;omega
   refine wp_skip ?_
   refine k30 _ _ ?_
   try clear k30 K30
   refine wp_seq_k (fun K34 k34=>?_)
   refine wp_block ?_
   refine wp_seq_k (fun K35 k35=>?_)
   refine rg [0,1,2] ?_
   refine sv 36 vp ?_
   refine sw 37 (.int .i64 (((pl R m k:Nat):Int))) rfl (rv_lenn (e:=3) hpv.sl (tb_lenz rfl) _ _ rfl rfl (by kernel_rfl)) ?_
   refine sv 8 (.int .i64 (((pl R m k:Nat):Int))) ?_
   refine sq_nil ?_
   refine k35 _ _ ?_
   try clear k35 K35
   refine wp_seq_k (fun K36 k36=>?_)
   refine rg [0,1] ?_
   refine sv 38 (.int .i64 (((pl R m k:Nat):Int))) ?_
   refine sv 9 (.int .i64 (((pl R m k:Nat):Int))) ?_
   refine sq_nil ?_
   refine k36 _ _ ?_
   try clear k36 K36
   refine wp_seq_k (fun K37 k37=>?_)
   refine wp_block ?_
   replace ov:=ov.gr stab_vs g32
   replace mr:=mr.gr stab_fr g32
   replace hpv:=hpv.gr stab_i64 g32
   refine wp_loop_inv (a:=⟨List.toArray ?l38,[]⟩) (fun n a w'=>∃ (i:Nat) (u38:Nat→Value),R - i=n∧a=⟨[v,undef,(.slice none 0 0),(.slice none 0 0),vo,(.int .i64 ((R:Int))),vp,(.int .i64 ((k:Int))),(.int .i64 (((pl R m k:Nat):Int))),(.int .i64 ((i:Int))),(u29 10),(u29 11),(u29 12),(u29 13),(u29 14),(u38 15),(u38 16),(u38 17),(.bool (decide ((R:Int)<(R:Int)))),(u38 19),(u38 20),(u38 21),(u38 22),(u38 23),(u38 24),(u38 25),(u38 26),(u38 27),(u38 28),(u38 29),(u38 30),(u38 31),(u38 32),(.bool (decide ((k:Int)<(N:Int)))),(u38 34),(u38 35),(u38 36),(u38 37),(u38 38),(u38 39),(u38 40),(u38 41),(u38 42),(u38 43),(u38 44),(u38 45),(u38 46),(u38 47),(u38 48),(u38 49),(u38 50),(u38 51),(u38 52),(u38 53),(u38 54),(u38 55),(u38 56),(u38 57),(u29 58),(u38 59),(u38 60),(u38 61),(u38 62),(u38 63),(u38 64),(u38 65),(u38 66),(u38 67),(u38 68),(u38 69),(u38 70),(u38 71),(u38 72),(u38 73),(u38 74),(u38 75),(u38 76),(u38 77),(u38 78),(u38 79),(u38 80),(u38 81),(u38 82),(u38 83),(u38 84),(u38 85),(u29 86),(u38 87),(u38 88),(u38 89),(u38 90),(u38 91),(u38 92),(u38 93),(u38 94),(u38 95),(u38 96),(u38 97),(u38 98),(u38 99),(u38 100),(u38 101),(u38 102),(u38 103),(u38 104),(u38 105),(u38 106),(u29 107),(u38 108),(u38 109),(u38 110),(u38 111),(u38 112),(u38 113),(u38 114),(u38 115),(u38 116),(u38 117),(u38 118),(u38 119),(u38 120),(u38 121),(u38 122),(u38 123),(u38 124),(u38 125),(u38 126),(u38 127),(u38 128),(u29 129),(u38 130),(u38 131),(u38 132),(u38 133),(u38 134),(u38 135),(u38 136),(u38 137),(u38 138),(u38 139),(u38 140),(u38 141),(u38 142),(u38 143),(u38 144),(u38 145),(u38 146),(u38 147),(u38 148),(u38 149),(u38 150),(u38 151),(u38 152),(u38 153),(u38 154),(u38 155),(u38 156),(u38 157),(u38 158),undef,undef,undef,undef,undef].toArray,[]⟩∧pl R m k≤i∧i≤R∧(∀ t,pl R m k≤t→t<i→(rs R m k).m t k=0)∧Ow EVs 51 1 w' w.heap.size vo (tb bs R)∧Mr EFr 84 2 w' w.heap.size bs (fun z0 z1=>((rs R m k).m z0 z1)) R N∧Ow EI64 3 1 w' w.heap.size vp (tb (fun z1=>((pv (rs R m k) z1:Nat):Int)) (pl R m k))∧Gr w w') (R - pl R m k) ?_ ?_
   ·exact ⟨(pl R m k),(fun i=>List.getD ?l38 i undef),rfl,rfl,(Nat.le_refl _),(rs_len R m k),(fun t h1 h2=>absurd h2 (by omega)),ov,mr,hpv,hB⟩
   rintro n38 a38 w38 ⟨i,u38,rfl,rfl,hri,hiR,hzz,ov,mr,hpv,hB⟩ K38 k38
   refine wp_seq_k (fun K39 k39=>?_)
   refine wp_seq_k (fun K40 k40=>?_)
   refine rg [0,1,2,3,4,5,6,7,8,9,10,11,12,13] ?_
   refine sv 39 (.int .i64 ((i:Int))) ?_
   refine sv 40 vo ?_
   refine sw 41 (.int .i64 ((R:Int))) rfl (rv_lenn (e:=51) ov.sl (tb_lenz rfl) _ _ rfl rfl (by kernel_rfl)) ?_
   refine sv 42 (.bool (decide ((i:Int)<(R:Int)))) ?_
   rcases Bool.eq_false_or_eq_true (decide ((i:Int)<(R:Int))) with hb41 | hb41
   ·have hli:i<R:=by have:=of_decide_eq_true hb41;omega
    refine sw 43 (.bool true) rfl (RunV.bool (x:=decide ((i:Int)<(R:Int))) (rvk (by kernel_rfl)) hb41) ?_
    refine sv 44 vo ?_
    refine sv 45 (.int .i64 ((i:Int))) ?_
    refine sw 46 (adr vo (i*1)) rfl (rv_idxn (e:=51) ov.sl tb_len (by decide) i (by omega) _ _ _ rfl rfl rfl (by kernel_rfl) (by kernel_rfl)) ?_
    obtain ⟨_,_,⟨rfl,_⟩,at42⟩:=Sl.get (ov.sl) (by decide) (tb_get (f:=bs) (n:=R) (i:=i) (by omega))
    refine sw 47 (bs i) rfl (rv_ld1 (bs i) at42 _ _ rfl rfl (by kernel_rfl)) ?_
    refine sv 48 (.int .i64 ((k:Int))) ?_
    have hr43:=(mr.row i (by omega)).sl
    refine sw 49 (adr (bs i) (k*2)) rfl (rv_idxn (e:=84) hr43 tb_len (by decide) k (by omega) _ _ _ rfl rfl rfl (by kernel_rfl) (by kernel_rfl)) ?_
    obtain ⟨_,_,rfl,at44⟩:=Sl.get hr43 (by decide) (tb_get (f:=(fun z1=>((rs R m k).m i z1))) (n:=N) (i:=k) (by omega))
    refine sw 50 (.agg #[(.string ⟨(Lib.itoa ((((rs R m k).m i k)).num):List UInt8).toArray⟩),(.string ⟨(Lib.itoa (((((rs R m k).m i k)).den:Int)):List UInt8).toArray⟩)]) rfl (rv_ldn [(.string ⟨(Lib.itoa ((((rs R m k).m i k)).num):List UInt8).toArray⟩),(.string ⟨(Lib.itoa (((((rs R m k).m i k)).den:Int)):List UInt8).toArray⟩)] at44 _ _ rfl rfl (by kernel_rfl)) ?_
    refine se ?_
    refine ec 51 (f5_zero (((rs R m k).m i k)) _) ?_
    rintro e45 w45 ⟨rfl,g45⟩
    refine ⟨_,rfl,?_⟩
    replace hB:=hB.trans g45
    simp only [p3,p4]
    refine sv 52 (.bool ((Lib.itoa (((rs R m k).m i k)).num==([48]:List UInt8)))) ?_
    refine sq_nil ?_
    refine k40 _ _ ?_
    try clear k40 K40
    refine wp_cond_split (t:=(Lib.itoa (((rs R m k).m i k)).num==([48]:List UInt8))) rfl (fun hb46=>?_) (fun hb46=>?_)
    ·have hzi:=itoa_zero_iff.1 hb46
     refine wp_skip ?_
     refine k39 _ _ ?_
     try clear k39 K39
     refine wp_block ?_
     refine rg [0,1,2] ?_
     refine sv 53 (.int .i64 ((i:Int))) ?_
     refine sw 54 (.int .i64 (((i:Int)+1))) rfl (RunV.int (x:=IntKind.i64.wrap (((i:Int)+1))) (y:=((i:Int)+1)) (rvk (by kernel_rfl)) (by first | rfl | (rw [IntKind.wrap_i64];omega))) ?_
     refine sv 9 (.int .i64 (((i:Int)+1))) ?_
     refine sq_nil ?_
     replace ov:=ov.gr stab_vs g45
     replace mr:=mr.gr stab_fr g45
     replace hpv:=hpv.gr stab_i64 g45
     refine k38 (R - (i+1)) ⟨List.toArray ?l47,[]⟩ _ (by omega) ?_
     exact ⟨i+1,(fun i=>List.getD ?l47 i undef),rfl,rfl,(by omega),(by omega),(zero_succ hzz hzi),ov,mr,hpv,hB⟩
    ·have hf:Fd R m k i:=fd_of hri hli (itoa_nz hb46) hzz
     have hzk:=hz k i hlk hf
     have hrR:pl R m k<R:=by have:=hf.lt;omega
     refine wp_exit ?_
     simp only [Exit.then,Exit.inBlock,↓reduceIte]
     refine k37 _ _ ?_
     try clear k37 K37
     refine wp_seq_k (fun K48 k48=>?_)
     refine wp_seq_k (fun K49 k49=>?_)
     refine rg [0,1,2,3] ?_
     refine sv 55 (.int .i64 ((i:Int))) ?_
     refine sv 56 vo ?_
     refine sw 57 (.int .i64 ((R:Int))) rfl (rv_lenn (e:=51) ov.sl (tb_lenz rfl) _ _ rfl rfl (by kernel_rfl)) ?_
     have hb50:(((i:Int)==(R:Int)))=false:=(by simp;omega)
     refine sw 58 (.bool false) rfl (RunV.bool (x:=((i:Int)==(R:Int))) (rvk (by kernel_rfl)) hb50) ?_
     refine sq_nil ?_
     refine k49 _ _ ?_
     try clear k49 K49
     refine wp_cond_false rfl ?_
     refine wp_skip ?_
     refine k48 _ _ ?_
     try clear k48 K48
     refine wp_seq_k (fun K51 k51=>?_)
     replace ov:=ov.gr stab_vs g45
     obtain ⟨_,_,⟨rfl,_⟩,at58⟩:=Sl.get (ov.sl) (by decide) (tb_get (f:=bs) (n:=R) (i:=(pl R m k)) (by omega))
     have gd59:=Gr.drew w45
     replace hB:=hB.trans gd59
     replace at42:=at42.gr (g45.trans gd59)
     replace at58:=at58.gr gd59
     refine wp_region_ort (fun _=>True) [([13,15],(fun w'=>AtV w' vo (i*1) [(bs i)])),([13,15],(fun w'=>AtV w' vo ((pl R m k)*1) [(bs (pl R m k))]))] [(true,0),(true,1),(true,2),(true,3),(true,4),(true,5),(true,6),(true,7),(true,8),(true,9),(true,10),(true,11),(true,12),(false,13),(true,14),(false,15)] (by kernel_rfl) (by kernel_rfl) (by kernel_rfl) (by decide) (fun _ _ _ _ _ h=>h) trivial ⟨fun _=>at42,fun _=>at58,trivial⟩ ?_
     refine tv 59 vo ?_
     refine tv 60 (.int .i64 (((pl R m k:Nat):Int))) ?_
     refine tv 61 vo ?_
     refine tv 62 (.int .i64 ((i:Int))) ?_
     refine tv 63 vo ?_
     refine tv 64 (.int .i64 ((i:Int))) ?_
     refine tw 65 (adr vo (i*1)) rfl (fun w' hS=>(rv_idxn (e:=51) ov.sl tb_len (by decide) i (by omega) _ _ _ rfl rfl rfl (by kernel_rfl) (by kernel_rfl))) ?_
     refine tw 66 (bs i) rfl (fun w' hS=>(rv_ld1 (bs i) (hS.2.1 (by kernel_rfl)) _ _ rfl rfl (by kernel_rfl))) ?_
     refine tv 67 vo ?_
     refine tv 68 (.int .i64 (((pl R m k:Nat):Int))) ?_
     refine tw 69 (adr vo ((pl R m k)*1)) rfl (fun w' hS=>(rv_idxn (e:=51) ov.sl tb_len (by decide) (pl R m k) (by omega) _ _ _ rfl rfl rfl (by kernel_rfl) (by kernel_rfl))) ?_
     refine tw 70 (bs (pl R m k)) rfl (fun w' hS=>(rv_ld1 (bs (pl R m k)) (hS.2.2.1 (by kernel_rfl)) _ _ rfl rfl (by kernel_rfl))) ?_
     refine tw 71 (adr vo ((pl R m k)*1)) rfl (fun w' hS=>(rv_idxn (e:=51) ov.sl tb_len (by decide) (pl R m k) (by omega) _ _ _ rfl rfl rfl (by kernel_rfl) (by kernel_rfl))) ?_
     refine te ?_
     replace hr43:=hr43.gr stab_fr (g45.trans gd59)
     replace ov:=ov.gr stab_vs gd59
     refine eff_sto stab_vs ov (pl R m k) (by rw [tb_len];omega) (bs i) (bs i) [(bs i)] 51 _ _ rfl rfl rfl rfl (cells_one hr43.one) (by kernel_rfl) rfl ⟨hr43.one,trivial⟩ (EVs.of hr43 _) (by decide) (fun w61 ow61 wt61 hg61=>?_)
     replace hB:=hg61 _ hB (Nat.le_refl _)
     replace ow61:=ow61.cast set_tb
     refine ⟨trivial,⟨cameT (by kernel_rfl),cameT (by kernel_rfl),trivial⟩,?_⟩
     refine tw 72 (adr vo (i*1)) rfl (fun w' hS=>(rv_idxn (e:=51) ow61.sl tb_len (by decide) i (by omega) _ _ _ rfl rfl rfl (by kernel_rfl) (by kernel_rfl))) ?_
     refine te ?_
     replace mr:=((mr.gr stab_fr g45).gr stab_fr gd59).kts stab_fr (wt61.kts (by decide))
     have hr64:=(mr.row (pl R m k) (by omega)).sl
     refine eff_sto stab_vs ow61 i (by rw [tb_len];omega) (bs (pl R m k)) (bs (pl R m k)) [(bs (pl R m k))] 51 _ _ rfl rfl rfl rfl (cells_one hr64.one) (by kernel_rfl) rfl ⟨hr64.one,trivial⟩ (EVs.of hr64 _) (by decide) (fun w63 ow63 wt63 hg63=>?_)
     replace hB:=hg63 _ hB (Nat.le_refl _)
     replace ow63:=ow63.cast set_tb
     refine ⟨trivial,⟨cameT (by kernel_rfl),cameT (by kernel_rfl),trivial⟩,?_⟩
     refine ort_nil ?_
     refine k51 _ _ ?_
     try clear k51 K51
     refine wp_seq_k (fun K65 k65=>?_)
     replace mr:=mr.kts stab_fr (wt63.kts (by decide))
     have mr66:=(mr.swp hli hrR).congr (g:=fun z0 z1=>aa R m k i z0 z1) fun a _ b _=>by rw [swf_swp];rfl
     replace ow63:=ow63.cast (bs_swp (r:=pl R m k))
     refine rg [0,1,2,3,4,5,6,7,8] ?_
     refine sv 73 vo ?_
     refine sv 74 (.int .i64 (((pl R m k:Nat):Int))) ?_
     refine sw 75 (adr vo ((pl R m k)*1)) rfl (rv_idxn (e:=51) ow63.sl tb_len (by decide) (pl R m k) (by omega) _ _ _ rfl rfl rfl (by kernel_rfl) (by kernel_rfl)) ?_
     obtain ⟨_,_,⟨rfl,_⟩,at67⟩:=Sl.get (ow63.sl) (by decide) (tb_get (f:=(sb bs i (pl R m k))) (n:=R) (i:=(pl R m k)) (by omega))
     refine sw 76 ((sb bs i (pl R m k)) (pl R m k)) rfl (rv_ld1 ((sb bs i (pl R m k)) (pl R m k)) at67 _ _ rfl rfl (by kernel_rfl)) ?_
     refine sv 77 (.int .i64 ((k:Int))) ?_
     have hr68:=(mr66.row (pl R m k) (by omega)).sl
     refine sw 78 (adr ((sb bs i (pl R m k)) (pl R m k)) (k*2)) rfl (rv_idxn (e:=84) hr68 tb_len (by decide) k (by omega) _ _ _ rfl rfl rfl (by kernel_rfl) (by kernel_rfl)) ?_
     obtain ⟨_,_,rfl,at69⟩:=Sl.get hr68 (by decide) (tb_get (f:=(fun z1=>(aa R m k i (pl R m k) z1))) (n:=N) (i:=k) (by omega))
     refine sw 79 (.agg #[(.string ⟨(Lib.itoa (((aa R m k i (pl R m k) k)).num):List UInt8).toArray⟩),(.string ⟨(Lib.itoa ((((aa R m k i (pl R m k) k)).den:Int)):List UInt8).toArray⟩)]) rfl (rv_ldn [(.string ⟨(Lib.itoa (((aa R m k i (pl R m k) k)).num):List UInt8).toArray⟩),(.string ⟨(Lib.itoa ((((aa R m k i (pl R m k) k)).den:Int)):List UInt8).toArray⟩)] at69 _ _ rfl rfl (by kernel_rfl)) ?_
     refine se ?_
     refine ea 84 #[(.string ⟨([]:List UInt8).toArray⟩),(.string ⟨([]:List UInt8).toArray⟩)] 10 hB fun b70 w70 g70 L70 o70 q70 hB=>?_
     have nob70:=mr66.nob o70
     simp only [p3,p4]
     refine se ?_
     have lo71:=L70
     refine es 84 0 (.agg #[(.string ⟨(Lib.itoa (((aa R m k i (pl R m k) k)).num):List UInt8).toArray⟩),(.string ⟨(Lib.itoa ((((aa R m k i (pl R m k) k)).den:Int)):List UInt8).toArray⟩)]) [(.string ⟨(Lib.itoa (((aa R m k i (pl R m k) k)).num):List UInt8).toArray⟩),(.string ⟨(Lib.itoa ((((aa R m k i (pl R m k) k)).den:Int)):List UInt8).toArray⟩)] #[(.string ⟨(Lib.itoa (((aa R m k i (pl R m k) k)).num):List UInt8).toArray⟩),(.string ⟨(Lib.itoa ((((aa R m k i (pl R m k) k)).den:Int)):List UInt8).toArray⟩)] L70 hB q70 ⟨rfl,rfl,trivial⟩ fun w71 st71 kp71 L70 hB=>?_
     refine sq_nil ?_
     refine k65 _ _ ?_
     try clear k65 K65
     refine wp_seq_k (fun K72 k72=>?_)
     refine wp_seq_k (fun K73 k73=>?_)
     refine rg [0] ?_
     refine sv 11 (.int .i64 0) ?_
     refine sq_nil ?_
     refine k73 _ _ ?_
     try clear k73 K73
     refine wp_block ?_
     replace ow63:=(ow63.gr stab_vs g70).kts stab_vs (st71.kts lo71 (by decide))
     replace mr66:=(mr66.gr stab_fr g70).st stab_fr st71 nob70 (st71.kts lo71 (by decide))
     replace hpv:=(((((hpv.gr stab_i64 g45).gr stab_i64 gd59).kts stab_i64 (wt61.kts (by decide))).kts stab_i64 (wt63.kts (by decide))).gr stab_i64 g70).kts stab_i64 (st71.kts lo71 (by decide))
     refine wp_loop_inv (a:=⟨List.toArray ?l74,[]⟩) (fun n a w'=>∃ (j:Nat) (u74:Nat→Value),N - j=n∧a=⟨[v,undef,(.slice none 0 0),(.slice none 0 0),vo,(.int .i64 ((R:Int))),vp,(.int .i64 ((k:Int))),(.int .i64 (((pl R m k:Nat):Int))),(.int .i64 ((i:Int))),(.pointer (some ⟨b70,0,none⟩)),(.int .i64 ((j:Int))),(u29 12),(u29 13),(u29 14),(u74 15),(u74 16),(u74 17),(.bool (decide ((R:Int)<(R:Int)))),(u74 19),(u74 20),(u74 21),(u74 22),(u74 23),(u74 24),(u74 25),(u74 26),(u74 27),(u74 28),(u74 29),(u74 30),(u74 31),(u74 32),(.bool (decide ((k:Int)<(N:Int)))),(u74 34),(u74 35),(u74 36),(u74 37),(u74 38),(u74 39),(u74 40),(u74 41),(u74 42),(u74 43),(u74 44),(u74 45),(u74 46),(u74 47),(u74 48),(u74 49),(u74 50),(u74 51),(.bool ((Lib.itoa (((rs R m k).m i k)).num==([48]:List UInt8)))),(u74 53),(u74 54),(u74 55),(u74 56),(u74 57),(.bool false),(u74 59),(u74 60),(u74 61),(u74 62),(u74 63),(u74 64),(u74 65),(u74 66),(u74 67),(u74 68),(u74 69),(u74 70),(u74 71),(u74 72),(u74 73),(u74 74),(u74 75),(u74 76),(u74 77),(u74 78),(u74 79),(u74 80),(u74 81),(u74 82),(u74 83),(u74 84),(u74 85),(u74 86),(u74 87),(u74 88),(u74 89),(u74 90),(u74 91),(u74 92),(u74 93),(u74 94),(u74 95),(u74 96),(u74 97),(u74 98),(u74 99),(u74 100),(u74 101),(u74 102),(u74 103),(u74 104),(u74 105),(u74 106),(u29 107),(u74 108),(u74 109),(u74 110),(u74 111),(u74 112),(u74 113),(u74 114),(u74 115),(u74 116),(u74 117),(u74 118),(u74 119),(u74 120),(u74 121),(u74 122),(u74 123),(u74 124),(u74 125),(u74 126),(u74 127),(u74 128),(u29 129),(u74 130),(u74 131),(u74 132),(u74 133),(u74 134),(u74 135),(u74 136),(u74 137),(u74 138),(u74 139),(u74 140),(u74 141),(u74 142),(u74 143),(u74 144),(u74 145),(u74 146),(u74 147),(u74 148),(u74 149),(u74 150),(u74 151),(u74 152),(u74 153),(u74 154),(u74 155),(u74 156),(u74 157),(u74 158),undef,undef,undef,undef,undef].toArray,[]⟩∧j≤N∧Ow EVs 51 1 w' w.heap.size vo (tb (sb bs i (pl R m k)) R)∧Mr EFr 84 2 w' w.heap.size (sb bs i (pl R m k)) (fun z0 z1=>(s1 R m k i j z0 z1)) R N∧Ow EI64 3 1 w' w.heap.size vp (tb (fun z1=>((pv (rs R m k) z1:Nat):Int)) (pl R m k))∧Lc w' b70 #[(.string ⟨(Lib.itoa (((aa R m k i (pl R m k) k)).num):List UInt8).toArray⟩),(.string ⟨(Lib.itoa ((((aa R m k i (pl R m k) k)).den:Int)):List UInt8).toArray⟩)] 84∧Gr w w') (N - 0) ?_ ?_
     ·exact ⟨0,(fun i=>List.getD ?l74 i undef),rfl,rfl,(Nat.zero_le _),ow63,(mr66.congr fun a _ b _=>s1_zero a b),hpv,L70,hB⟩
     rintro n74 a74 w74 ⟨j,u74,rfl,rfl,hkj,ov,mr,hpv,L70,hB⟩ K74 k74
     refine wp_seq_k (fun K75 k75=>?_)
     refine wp_seq_k (fun K76 k76=>?_)
     refine rg [0,1,2,3,4,5,6] ?_
     refine sv 80 (.int .i64 ((j:Int))) ?_
     refine sv 81 vo ?_
     refine sv 82 (.int .i64 (((pl R m k:Nat):Int))) ?_
     refine sw 83 (adr vo ((pl R m k)*1)) rfl (rv_idxn (e:=51) ov.sl tb_len (by decide) (pl R m k) (by omega) _ _ _ rfl rfl rfl (by kernel_rfl) (by kernel_rfl)) ?_
     obtain ⟨_,_,⟨rfl,_⟩,at77⟩:=Sl.get (ov.sl) (by decide) (tb_get (f:=(sb bs i (pl R m k))) (n:=R) (i:=(pl R m k)) (by omega))
     refine sw 84 ((sb bs i (pl R m k)) (pl R m k)) rfl (rv_ld1 ((sb bs i (pl R m k)) (pl R m k)) at77 _ _ rfl rfl (by kernel_rfl)) ?_
     have hr78:=(mr.row (pl R m k) (by omega)).sl
     refine sw 85 (.int .i64 ((N:Int))) rfl (rv_lenn (e:=84) hr78 (tb_lenz rfl) _ _ rfl rfl (by kernel_rfl)) ?_
     refine sv 86 (.bool (decide ((j:Int)<(N:Int)))) ?_
     refine sq_nil ?_
     refine k76 _ _ ?_
     try clear k76 K76
     refine wp_cond_split (t:=decide ((j:Int)<(N:Int))) rfl (fun hb79=>?_) (fun hb79=>?_)
     ·have hlj:j<N:=by have:=of_decide_eq_true hb79;omega
      refine wp_skip ?_
      refine k75 _ _ ?_
      try clear k75 K75
      refine wp_seq_k (fun K80 k80=>?_)
      refine wp_block ?_
      obtain ⟨_,_,rfl,at86⟩:=Sl.get hr78 (by decide) (tb_get (f:=(fun z1=>(s1 R m k i j (pl R m k) z1))) (n:=N) (i:=j) (by omega))
      have gd87:=Gr.drew w74
      replace hB:=hB.trans gd87
      replace L70:=L70.gr gd87
      replace at77:=at77.gr gd87
      replace at86:=at86.gr gd87
      refine wp_region_ort (fun w'=>Lc w' b70 #[(.string ⟨(Lib.itoa (((aa R m k i (pl R m k) k)).num):List UInt8).toArray⟩),(.string ⟨(Lib.itoa ((((aa R m k i (pl R m k) k)).den:Int)):List UInt8).toArray⟩)] 84) [([15],(fun w'=>AtV w' vo ((pl R m k)*1) [((sb bs i (pl R m k)) (pl R m k))])),([15],(fun w'=>AtV w' ((sb bs i (pl R m k)) (pl R m k)) (j*2) [(.string ⟨(Lib.itoa (((s1 R m k i j (pl R m k) j)).num):List UInt8).toArray⟩),(.string ⟨(Lib.itoa ((((s1 R m k i j (pl R m k) j)).den:Int)):List UInt8).toArray⟩)]))] [(true,0),(true,1),(true,2),(true,3),(true,4),(true,5),(true,6),(true,7),(true,8),(true,9),(true,10),(true,11),(true,12),(false,13),(true,14),(false,15)] (by kernel_rfl) (by kernel_rfl) (by kernel_rfl) (by decide) (fun _ _ _ _ _ h=>h) L70 ⟨fun _=>at77,fun _=>at86,trivial⟩ ?_
      refine tv 89 vo ?_
      refine tv 90 (.int .i64 (((pl R m k:Nat):Int))) ?_
      refine tw 91 (adr vo ((pl R m k)*1)) rfl (fun w' hS=>(rv_idxn (e:=51) ov.sl tb_len (by decide) (pl R m k) (by omega) _ _ _ rfl rfl rfl (by kernel_rfl) (by kernel_rfl))) ?_
      refine tw 92 ((sb bs i (pl R m k)) (pl R m k)) rfl (fun w' hS=>(rv_ld1 ((sb bs i (pl R m k)) (pl R m k)) (hS.2.1 (by kernel_rfl)) _ _ rfl rfl (by kernel_rfl))) ?_
      refine tv 93 (.int .i64 ((j:Int))) ?_
      refine tv 94 vo ?_
      refine tv 95 (.int .i64 (((pl R m k:Nat):Int))) ?_
      refine tw 96 (adr vo ((pl R m k)*1)) rfl (fun w' hS=>(rv_idxn (e:=51) ov.sl tb_len (by decide) (pl R m k) (by omega) _ _ _ rfl rfl rfl (by kernel_rfl) (by kernel_rfl))) ?_
      refine tw 97 ((sb bs i (pl R m k)) (pl R m k)) rfl (fun w' hS=>(rv_ld1 ((sb bs i (pl R m k)) (pl R m k)) (hS.2.1 (by kernel_rfl)) _ _ rfl rfl (by kernel_rfl))) ?_
      refine tv 98 (.int .i64 ((j:Int))) ?_
      refine tw 99 (adr ((sb bs i (pl R m k)) (pl R m k)) (j*2)) rfl (fun w' hS=>(rv_idxn (e:=84) hr78 tb_len (by decide) j (by omega) _ _ _ rfl rfl rfl (by kernel_rfl) (by kernel_rfl))) ?_
      refine tw 100 (.agg #[(.string ⟨(Lib.itoa (((s1 R m k i j (pl R m k) j)).num):List UInt8).toArray⟩),(.string ⟨(Lib.itoa ((((s1 R m k i j (pl R m k) j)).den:Int)):List UInt8).toArray⟩)]) rfl (fun w' hS=>(rv_ldn [(.string ⟨(Lib.itoa (((s1 R m k i j (pl R m k) j)).num):List UInt8).toArray⟩),(.string ⟨(Lib.itoa ((((s1 R m k i j (pl R m k) j)).den:Int)):List UInt8).toArray⟩)] (hS.2.2.1 (by kernel_rfl)) _ _ rfl rfl (by kernel_rfl))) ?_
      refine tw 101 (.agg #[(.string ⟨(Lib.itoa (((aa R m k i (pl R m k) k)).num):List UInt8).toArray⟩),(.string ⟨(Lib.itoa ((((aa R m k i (pl R m k) k)).den:Int)):List UInt8).toArray⟩)]) rfl (fun w' hS=>(rl 84 0 [(.string ⟨(Lib.itoa (((aa R m k i (pl R m k) k)).num):List UInt8).toArray⟩),(.string ⟨(Lib.itoa ((((aa R m k i (pl R m k) k)).den:Int)):List UInt8).toArray⟩)] hS.1)) ?_
      refine te ?_
      refine ec 102 (f5_div ((s1 R m k i j (pl R m k) j)) ((aa R m k i (pl R m k) k)) (show RZ K K _ by rw [s1_at];exact hf.z_aa hzk _ hrR j hlj) (hf.z_aa hzk _ hrR k hlk) hf.num (by omega) _) ?_
      rintro e89 w89 ⟨rfl,g89⟩
      refine ⟨_,rfl,?_⟩
      replace hB:=hB.trans g89
      replace L70:=L70.gr g89
      replace at77:=at77.gr g89
      replace at86:=at86.gr g89
      refine ⟨L70,⟨fun _=>at77,fun _=>at86,trivial⟩,?_⟩
      simp only [p3,p4]
      refine tw 103 (adr ((sb bs i (pl R m k)) (pl R m k)) (j*2)) rfl (fun w' hS=>(rv_idxn (e:=84) hr78 tb_len (by decide) j (by omega) _ _ _ rfl rfl rfl (by kernel_rfl) (by kernel_rfl))) ?_
      refine te ?_
      replace mr:=(mr.gr stab_fr gd87).gr stab_fr g89
      refine eff_mws stab_fr mr (pl R m k) j (by omega) (by omega) (((s1 R m k i j (pl R m k) j)/(aa R m k i (pl R m k) k))) (.agg #[(.string ⟨(Lib.itoa ((((s1 R m k i j (pl R m k) j)/(aa R m k i (pl R m k) k))).num):List UInt8).toArray⟩),(.string ⟨(Lib.itoa (((((s1 R m k i j (pl R m k) j)/(aa R m k i (pl R m k) k))).den:Int)):List UInt8).toArray⟩)]) [(.string ⟨(Lib.itoa ((((s1 R m k i j (pl R m k) j)/(aa R m k i (pl R m k) k))).num):List UInt8).toArray⟩),(.string ⟨(Lib.itoa (((((s1 R m k i j (pl R m k) j)/(aa R m k i (pl R m k) k))).den:Int)):List UInt8).toArray⟩)] 84 _ _ rfl rfl rfl rfl rfl (by kernel_rfl) rfl ⟨rfl,rfl,trivial⟩ rfl (by decide) (fun w91 gg91 mr91 st91 kt91 bb91 hn91=>?_)
      replace hB:=st91.gr hB bb91
      replace mr91:=mr91.congr fun a _ b _=>s1_next j a b
      replace L70:=st91.lc L70 (hn91 _ nob70)
      refine ⟨L70,⟨cameT (by kernel_rfl),cameT (by kernel_rfl),trivial⟩,?_⟩
      refine ort_nil ?_
      refine k80 _ _ ?_
      try clear k80 K80
      refine rg [0,1,2] ?_
      refine sv 87 (.int .i64 ((j:Int))) ?_
      refine sw 88 (.int .i64 (((j:Int)+1))) rfl (RunV.int (x:=IntKind.i64.wrap (((j:Int)+1))) (y:=((j:Int)+1)) (rvk (by kernel_rfl)) (by first | rfl | (rw [IntKind.wrap_i64];omega))) ?_
      refine sv 11 (.int .i64 (((j:Int)+1))) ?_
      refine sq_nil ?_
      replace ov:=((ov.gr stab_vs gd87).gr stab_vs g89).kts stab_vs (fun t hm=>kt91 t (by revert hm;revert t;decide))
      replace hpv:=((hpv.gr stab_i64 gd87).gr stab_i64 g89).kts stab_i64 (fun t hm=>kt91 t (by revert hm;revert t;decide))
      refine k74 (N - (j+1)) ⟨List.toArray ?l92,[]⟩ _ (by omega) ?_
      exact ⟨j+1,(fun i=>List.getD ?l92 i undef),rfl,rfl,(by omega),ov,mr91,hpv,L70,hB⟩
     ·have hej:j=N:=by have:=of_decide_eq_false hb79;omega
      refine wp_exit ?_
      simp only [Exit.then,Exit.inBlock,↓reduceIte]
      refine k72 _ _ ?_
      try clear k72 K72
      refine wp_seq_k (fun K93 k93=>?_)
      refine wp_seq_k (fun K94 k94=>?_)
      refine rg [0] ?_
      refine sv 12 (.int .i64 0) ?_
      refine sq_nil ?_
      refine k94 _ _ ?_
      try clear k94 K94
      refine wp_block ?_
      refine wp_loop_inv (a:=⟨List.toArray ?l95,[]⟩) (fun n a w'=>∃ (t:Nat) (u95:Nat→Value),R - t=n∧a=⟨[v,undef,(.slice none 0 0),(.slice none 0 0),vo,(.int .i64 ((R:Int))),vp,(.int .i64 ((k:Int))),(.int .i64 (((pl R m k:Nat):Int))),(.int .i64 ((i:Int))),(.pointer (some ⟨b70,0,none⟩)),(.int .i64 ((j:Int))),(.int .i64 ((t:Int))),(u95 13),(u95 14),(u95 15),(u95 16),(u95 17),(.bool (decide ((R:Int)<(R:Int)))),(u95 19),(u95 20),(u95 21),(u95 22),(u95 23),(u95 24),(u95 25),(u95 26),(u95 27),(u95 28),(u95 29),(u95 30),(u95 31),(u95 32),(.bool (decide ((k:Int)<(N:Int)))),(u95 34),(u95 35),(u95 36),(u95 37),(u95 38),(u95 39),(u95 40),(u95 41),(u95 42),(u95 43),(u95 44),(u95 45),(u95 46),(u95 47),(u95 48),(u95 49),(u95 50),(u95 51),(.bool ((Lib.itoa (((rs R m k).m i k)).num==([48]:List UInt8)))),(u95 53),(u95 54),(u95 55),(u95 56),(u95 57),(.bool false),(u95 59),(u95 60),(u95 61),(u95 62),(u95 63),(u95 64),(u95 65),(u95 66),(u95 67),(u95 68),(u95 69),(u95 70),(u95 71),(u95 72),(u95 73),(u95 74),(u95 75),(u95 76),(u95 77),(u95 78),(u95 79),(u95 80),(u95 81),(u95 82),(u95 83),(u95 84),(u95 85),(.bool (decide ((j:Int)<(N:Int)))),(u95 87),(u95 88),(u95 89),(u95 90),(u95 91),(u95 92),(u95 93),(u95 94),(u95 95),(u95 96),(u95 97),(u95 98),(u95 99),(u95 100),(u95 101),(u95 102),(u95 103),(u95 104),(u95 105),(u95 106),(u95 107),(u95 108),(u95 109),(u95 110),(u95 111),(u95 112),(u95 113),(u95 114),(u95 115),(u95 116),(u95 117),(u95 118),(u95 119),(u95 120),(u95 121),(u95 122),(u95 123),(u95 124),(u95 125),(u95 126),(u95 127),(u95 128),(u95 129),(u95 130),(u95 131),(u95 132),(u95 133),(u95 134),(u95 135),(u95 136),(u95 137),(u95 138),(u95 139),(u95 140),(u95 141),(u95 142),(u95 143),(u95 144),(u95 145),(u95 146),(u95 147),(u95 148),(u95 149),(u95 150),(u95 151),(u95 152),(u95 153),(u95 154),(u95 155),(u95 156),(u95 157),(u95 158),undef,undef,undef,undef,undef].toArray,[]⟩∧t≤R∧Ow EVs 51 1 w' w.heap.size vo (tb (sb bs i (pl R m k)) R)∧Mr EFr 84 2 w' w.heap.size (sb bs i (pl R m k)) (fun z0 z1=>(md R m k i t z0 z1)) R N∧Ow EI64 3 1 w' w.heap.size vp (tb (fun z1=>((pv (rs R m k) z1:Nat):Int)) (pl R m k))∧Gr w w') (R - 0) ?_ ?_
      ·exact ⟨0,(fun i=>List.getD ?l95 i undef),rfl,rfl,(Nat.zero_le _),ov,(mr.congr fun a _ b hb=>by rw [hej];exact s1_end hb a),hpv,hB⟩
      rintro n95 a95 w95 ⟨t,u95,rfl,rfl,hkt,ov,mr,hpv,hB⟩ K95 k95
      refine wp_seq_k (fun K96 k96=>?_)
      refine wp_seq_k (fun K97 k97=>?_)
      refine rg [0,1,2,3] ?_
      refine sv 104 (.int .i64 ((t:Int))) ?_
      refine sv 105 vo ?_
      refine sw 106 (.int .i64 ((R:Int))) rfl (rv_lenn (e:=51) ov.sl (tb_lenz rfl) _ _ rfl rfl (by kernel_rfl)) ?_
      refine sv 107 (.bool (decide ((t:Int)<(R:Int)))) ?_
      refine sq_nil ?_
      refine k97 _ _ ?_
      try clear k97 K97
      refine wp_cond_split (t:=decide ((t:Int)<(R:Int))) rfl (fun hb98=>?_) (fun hb98=>?_)
      ·have hlt:t<R:=by have:=of_decide_eq_true hb98;omega
       refine wp_skip ?_
       refine k96 _ _ ?_
       try clear k96 K96
       refine wp_seq_k (fun K99 k99=>?_)
       refine wp_block ?_
       refine wp_seq_k (fun K100 k100=>?_)
       refine rg [0,1,2,3,4,5,6,7,8,9] ?_
       refine sv 110 vo ?_
       refine sv 111 (.int .i64 ((t:Int))) ?_
       refine sw 112 (adr vo (t*1)) rfl (rv_idxn (e:=51) ov.sl tb_len (by decide) t (by omega) _ _ _ rfl rfl rfl (by kernel_rfl) (by kernel_rfl)) ?_
       obtain ⟨_,_,⟨rfl,_⟩,at101⟩:=Sl.get (ov.sl) (by decide) (tb_get (f:=(sb bs i (pl R m k))) (n:=R) (i:=t) (by omega))
       refine sw 113 ((sb bs i (pl R m k)) t) rfl (rv_ld1 ((sb bs i (pl R m k)) t) at101 _ _ rfl rfl (by kernel_rfl)) ?_
       refine sv 114 (.int .i64 ((k:Int))) ?_
       have hr102:=(mr.row t (by omega)).sl
       refine sw 115 (adr ((sb bs i (pl R m k)) t) (k*2)) rfl (rv_idxn (e:=84) hr102 tb_len (by decide) k (by omega) _ _ _ rfl rfl rfl (by kernel_rfl) (by kernel_rfl)) ?_
       obtain ⟨_,_,rfl,at103⟩:=Sl.get hr102 (by decide) (tb_get (f:=(fun z1=>(md R m k i t t z1))) (n:=N) (i:=k) (by omega))
       refine sw 116 (.agg #[(.string ⟨(Lib.itoa (((md R m k i t t k)).num):List UInt8).toArray⟩),(.string ⟨(Lib.itoa ((((md R m k i t t k)).den:Int)):List UInt8).toArray⟩)]) rfl (rv_ldn [(.string ⟨(Lib.itoa (((md R m k i t t k)).num):List UInt8).toArray⟩),(.string ⟨(Lib.itoa ((((md R m k i t t k)).den:Int)):List UInt8).toArray⟩)] at103 _ _ rfl rfl (by kernel_rfl)) ?_
       refine se ?_
       refine ec 117 (f5_neg ((md R m k i t t k)) (hf.z_mt hzk hlk hlt) (by omega) _) ?_
       rintro e104 w104 ⟨rfl,g104⟩
       refine ⟨_,rfl,?_⟩
       replace hB:=hB.trans g104
       simp only [p3,p4]
       refine se ?_
       refine ea 84 #[(.string ⟨([]:List UInt8).toArray⟩),(.string ⟨([]:List UInt8).toArray⟩)] 13 hB fun b105 w105 g105 L105 o105 q105 hB=>?_
       replace mr:=mr.gr stab_fr g104
       have nob105:=mr.nob o105
       simp only [p3,p4]
       refine se ?_
       have lo106:=L105
       refine es 84 0 (.agg #[(.string ⟨(Lib.itoa (((-(md R m k i t t k))).num):List UInt8).toArray⟩),(.string ⟨(Lib.itoa ((((-(md R m k i t t k))).den:Int)):List UInt8).toArray⟩)]) [(.string ⟨(Lib.itoa (((-(md R m k i t t k))).num):List UInt8).toArray⟩),(.string ⟨(Lib.itoa ((((-(md R m k i t t k))).den:Int)):List UInt8).toArray⟩)] #[(.string ⟨(Lib.itoa (((-(md R m k i t t k))).num):List UInt8).toArray⟩),(.string ⟨(Lib.itoa ((((-(md R m k i t t k))).den:Int)):List UInt8).toArray⟩)] L105 hB q105 ⟨rfl,rfl,trivial⟩ fun w106 st106 kp106 L105 hB=>?_
       refine sq_nil ?_
       refine k100 _ _ ?_
       try clear k100 K100
       refine wp_seq_k (fun K107 k107=>?_)
       refine rg [0] ?_
       refine sv 14 (.int .i64 0) ?_
       refine sq_nil ?_
       refine k107 _ _ ?_
       try clear k107 K107
       refine wp_block ?_
       replace ov:=((ov.gr stab_vs g104).gr stab_vs g105).kts stab_vs (st106.kts lo106 (by decide))
       replace mr:=(mr.gr stab_fr g105).st stab_fr st106 nob105 (st106.kts lo106 (by decide))
       replace hpv:=((hpv.gr stab_i64 g104).gr stab_i64 g105).kts stab_i64 (st106.kts lo106 (by decide))
       refine wp_loop_inv (a:=⟨List.toArray ?l108,[]⟩) (fun n a w'=>∃ (jj:Nat) (u108:Nat→Value),N - jj=n∧a=⟨[v,undef,(.slice none 0 0),(.slice none 0 0),vo,(.int .i64 ((R:Int))),vp,(.int .i64 ((k:Int))),(.int .i64 (((pl R m k:Nat):Int))),(.int .i64 ((i:Int))),(.pointer (some ⟨b70,0,none⟩)),(.int .i64 ((j:Int))),(.int .i64 ((t:Int))),(.pointer (some ⟨b105,0,none⟩)),(.int .i64 ((jj:Int))),(u108 15),(u108 16),(u108 17),(.bool (decide ((R:Int)<(R:Int)))),(u108 19),(u108 20),(u108 21),(u108 22),(u108 23),(u108 24),(u108 25),(u108 26),(u108 27),(u108 28),(u108 29),(u108 30),(u108 31),(u108 32),(.bool (decide ((k:Int)<(N:Int)))),(u108 34),(u108 35),(u108 36),(u108 37),(u108 38),(u108 39),(u108 40),(u108 41),(u108 42),(u108 43),(u108 44),(u108 45),(u108 46),(u108 47),(u108 48),(u108 49),(u108 50),(u108 51),(.bool ((Lib.itoa (((rs R m k).m i k)).num==([48]:List UInt8)))),(u108 53),(u108 54),(u108 55),(u108 56),(u108 57),(.bool false),(u108 59),(u108 60),(u108 61),(u108 62),(u108 63),(u108 64),(u108 65),(u108 66),(u108 67),(u108 68),(u108 69),(u108 70),(u108 71),(u108 72),(u108 73),(u108 74),(u108 75),(u108 76),(u108 77),(u108 78),(u108 79),(u108 80),(u108 81),(u108 82),(u108 83),(u108 84),(u108 85),(.bool (decide ((j:Int)<(N:Int)))),(u108 87),(u108 88),(u108 89),(u108 90),(u108 91),(u108 92),(u108 93),(u108 94),(u108 95),(u108 96),(u108 97),(u108 98),(u108 99),(u108 100),(u108 101),(u108 102),(u108 103),(u108 104),(u108 105),(u108 106),(.bool (decide ((t:Int)<(R:Int)))),(u108 108),(u108 109),(u108 110),(u108 111),(u108 112),(u108 113),(u108 114),(u108 115),(u108 116),(u108 117),(u108 118),(u108 119),(u108 120),(u108 121),(u108 122),(u108 123),(u108 124),(u108 125),(u108 126),(u108 127),(u108 128),(u108 129),(u108 130),(u108 131),(u108 132),(u108 133),(u108 134),(u108 135),(u108 136),(u108 137),(u108 138),(u108 139),(u108 140),(u108 141),(u108 142),(u108 143),(u108 144),(u108 145),(u108 146),(u108 147),(u108 148),(u108 149),(u108 150),(u108 151),(u108 152),(u108 153),(u108 154),(u108 155),(u108 156),(u108 157),(u108 158),undef,undef,undef,undef,undef].toArray,[]⟩∧jj≤N∧(t=pl R m k→jj=0)∧Ow EVs 51 1 w' w.heap.size vo (tb (sb bs i (pl R m k)) R)∧Mr EFr 84 2 w' w.heap.size (sb bs i (pl R m k)) (fun z0 z1=>(s2 R m k i t jj z0 z1)) R N∧Ow EI64 3 1 w' w.heap.size vp (tb (fun z1=>((pv (rs R m k) z1:Nat):Int)) (pl R m k))∧Lc w' b105 #[(.string ⟨(Lib.itoa (((-(md R m k i t t k))).num):List UInt8).toArray⟩),(.string ⟨(Lib.itoa ((((-(md R m k i t t k))).den:Int)):List UInt8).toArray⟩)] 84∧Gr w w') (N - 0) ?_ ?_
       ·exact ⟨0,(fun i=>List.getD ?l108 i undef),rfl,rfl,(Nat.zero_le _),(fun _=>rfl),ov,(mr.congr fun a _ b _=>s2_zero t a b),hpv,L105,hB⟩
       rintro n108 a108 w108 ⟨jj,u108,rfl,rfl,hkj,hj00,ov,mr,hpv,L105,hB⟩ K108 k108
       refine wp_seq_k (fun K109 k109=>?_)
       refine wp_seq_k (fun K110 k110=>?_)
       refine rg [0,1,2,3,4,5,6,7,8,9,10,11] ?_
       refine sv 118 (.int .i64 ((jj:Int))) ?_
       refine sv 119 vo ?_
       refine sv 120 (.int .i64 ((t:Int))) ?_
       refine sw 121 (adr vo (t*1)) rfl (rv_idxn (e:=51) ov.sl tb_len (by decide) t (by omega) _ _ _ rfl rfl rfl (by kernel_rfl) (by kernel_rfl)) ?_
       obtain ⟨_,_,⟨rfl,_⟩,at111⟩:=Sl.get (ov.sl) (by decide) (tb_get (f:=(sb bs i (pl R m k))) (n:=R) (i:=t) (by omega))
       refine sw 122 ((sb bs i (pl R m k)) t) rfl (rv_ld1 ((sb bs i (pl R m k)) t) at111 _ _ rfl rfl (by kernel_rfl)) ?_
       have hr112:=(mr.row t (by omega)).sl
       refine sw 123 (.int .i64 ((N:Int))) rfl (rv_lenn (e:=84) hr112 (tb_lenz rfl) _ _ rfl rfl (by kernel_rfl)) ?_
       refine sv 124 (.bool (decide ((jj:Int)<(N:Int)))) ?_
       rcases Bool.eq_false_or_eq_true (decide ((jj:Int)<(N:Int))) with hb113 | hb113
       ·have hlj:jj<N:=by have:=of_decide_eq_true hb113;omega
        refine sw 125 (.bool true) rfl (RunV.bool (x:=decide ((jj:Int)<(N:Int))) (rvk (by kernel_rfl)) hb113) ?_
        refine sv 126 (.int .i64 ((t:Int))) ?_
        refine sv 127 (.int .i64 (((pl R m k:Nat):Int))) ?_
        refine sv 128 (.bool (((t:Int) !=((pl R m k:Nat):Int)))) ?_
        refine sv 129 (.bool (((t:Int) !=((pl R m k:Nat):Int)))) ?_
        refine sq_nil ?_
        refine k110 _ _ ?_
        try clear k110 K110
        refine wp_cond_split (t:=((t:Int) !=((pl R m k:Nat):Int))) rfl (fun hb114=>?_) (fun hb114=>?_)
        ·have hnt:¬ t=pl R m k:=bne_t hb114
         refine wp_skip ?_
         refine k109 _ _ ?_
         try clear k109 K109
         refine wp_seq_k (fun K115 k115=>?_)
         refine wp_block ?_
         obtain ⟨_,_,rfl,at124⟩:=Sl.get hr112 (by decide) (tb_get (f:=(fun z1=>(s2 R m k i t jj t z1))) (n:=N) (i:=jj) (by omega))
         obtain ⟨_,_,⟨rfl,_⟩,at125⟩:=Sl.get (ov.sl) (by decide) (tb_get (f:=(sb bs i (pl R m k))) (n:=R) (i:=(pl R m k)) (by omega))
         have hr126:=(mr.row (pl R m k) (by omega)).sl
         obtain ⟨_,_,rfl,at127⟩:=Sl.get hr126 (by decide) (tb_get (f:=(fun z1=>(s2 R m k i t jj (pl R m k) z1))) (n:=N) (i:=jj) (by omega))
         have gd128:=Gr.drew w108
         replace hB:=hB.trans gd128
         replace L105:=L105.gr gd128
         replace at111:=at111.gr gd128
         replace at124:=at124.gr gd128
         replace at125:=at125.gr gd128
         replace at127:=at127.gr gd128
         refine wp_region_ort (fun w'=>Lc w' b105 #[(.string ⟨(Lib.itoa (((-(md R m k i t t k))).num):List UInt8).toArray⟩),(.string ⟨(Lib.itoa ((((-(md R m k i t t k))).den:Int)):List UInt8).toArray⟩)] 84) [([23],(fun w'=>AtV w' vo (t*1) [((sb bs i (pl R m k)) t)])),([23],(fun w'=>AtV w' ((sb bs i (pl R m k)) t) (jj*2) [(.string ⟨(Lib.itoa (((s2 R m k i t jj t jj)).num):List UInt8).toArray⟩),(.string ⟨(Lib.itoa ((((s2 R m k i t jj t jj)).den:Int)):List UInt8).toArray⟩)])),([23],(fun w'=>AtV w' vo ((pl R m k)*1) [((sb bs i (pl R m k)) (pl R m k))])),([23],(fun w'=>AtV w' ((sb bs i (pl R m k)) (pl R m k)) (jj*2) [(.string ⟨(Lib.itoa (((s2 R m k i t jj (pl R m k) jj)).num):List UInt8).toArray⟩),(.string ⟨(Lib.itoa ((((s2 R m k i t jj (pl R m k) jj)).den:Int)):List UInt8).toArray⟩)]))] [(true,0),(true,1),(true,2),(true,3),(true,4),(true,5),(true,6),(true,7),(true,8),(true,9),(true,10),(true,11),(true,12),(true,13),(true,14),(true,15),(true,16),(true,17),(true,18),(true,19),(false,20),(false,21),(true,22),(false,23)] (by kernel_rfl) (by kernel_rfl) (by kernel_rfl) (by decide) (fun _ _ _ _ _ h=>h) L105 ⟨fun _=>at111,fun _=>at124,fun _=>at125,fun _=>at127,trivial⟩ ?_
         refine tv 132 vo ?_
         refine tv 133 (.int .i64 ((t:Int))) ?_
         refine tw 134 (adr vo (t*1)) rfl (fun w' hS=>(rv_idxn (e:=51) ov.sl tb_len (by decide) t (by omega) _ _ _ rfl rfl rfl (by kernel_rfl) (by kernel_rfl))) ?_
         refine tw 135 ((sb bs i (pl R m k)) t) rfl (fun w' hS=>(rv_ld1 ((sb bs i (pl R m k)) t) (hS.2.1 (by kernel_rfl)) _ _ rfl rfl (by kernel_rfl))) ?_
         refine tv 136 (.int .i64 ((jj:Int))) ?_
         refine tv 137 vo ?_
         refine tv 138 (.int .i64 ((t:Int))) ?_
         refine tw 139 (adr vo (t*1)) rfl (fun w' hS=>(rv_idxn (e:=51) ov.sl tb_len (by decide) t (by omega) _ _ _ rfl rfl rfl (by kernel_rfl) (by kernel_rfl))) ?_
         refine tw 140 ((sb bs i (pl R m k)) t) rfl (fun w' hS=>(rv_ld1 ((sb bs i (pl R m k)) t) (hS.2.1 (by kernel_rfl)) _ _ rfl rfl (by kernel_rfl))) ?_
         refine tv 141 (.int .i64 ((jj:Int))) ?_
         refine tw 142 (adr ((sb bs i (pl R m k)) t) (jj*2)) rfl (fun w' hS=>(rv_idxn (e:=84) hr112 tb_len (by decide) jj (by omega) _ _ _ rfl rfl rfl (by kernel_rfl) (by kernel_rfl))) ?_
         refine tw 143 (.agg #[(.string ⟨(Lib.itoa (((s2 R m k i t jj t jj)).num):List UInt8).toArray⟩),(.string ⟨(Lib.itoa ((((s2 R m k i t jj t jj)).den:Int)):List UInt8).toArray⟩)]) rfl (fun w' hS=>(rv_ldn [(.string ⟨(Lib.itoa (((s2 R m k i t jj t jj)).num):List UInt8).toArray⟩),(.string ⟨(Lib.itoa ((((s2 R m k i t jj t jj)).den:Int)):List UInt8).toArray⟩)] (hS.2.2.1 (by kernel_rfl)) _ _ rfl rfl (by kernel_rfl))) ?_
         refine tw 144 (.agg #[(.string ⟨(Lib.itoa (((-(md R m k i t t k))).num):List UInt8).toArray⟩),(.string ⟨(Lib.itoa ((((-(md R m k i t t k))).den:Int)):List UInt8).toArray⟩)]) rfl (fun w' hS=>(rl 84 0 [(.string ⟨(Lib.itoa (((-(md R m k i t t k))).num):List UInt8).toArray⟩),(.string ⟨(Lib.itoa ((((-(md R m k i t t k))).den:Int)):List UInt8).toArray⟩)] hS.1)) ?_
         refine tv 145 vo ?_
         refine tv 146 (.int .i64 (((pl R m k:Nat):Int))) ?_
         refine tw 147 (adr vo ((pl R m k)*1)) rfl (fun w' hS=>(rv_idxn (e:=51) ov.sl tb_len (by decide) (pl R m k) (by omega) _ _ _ rfl rfl rfl (by kernel_rfl) (by kernel_rfl))) ?_
         refine tw 148 ((sb bs i (pl R m k)) (pl R m k)) rfl (fun w' hS=>(rv_ld1 ((sb bs i (pl R m k)) (pl R m k)) (hS.2.2.2.1 (by kernel_rfl)) _ _ rfl rfl (by kernel_rfl))) ?_
         refine tv 149 (.int .i64 ((jj:Int))) ?_
         refine tw 150 (adr ((sb bs i (pl R m k)) (pl R m k)) (jj*2)) rfl (fun w' hS=>(rv_idxn (e:=84) hr126 tb_len (by decide) jj (by omega) _ _ _ rfl rfl rfl (by kernel_rfl) (by kernel_rfl))) ?_
         refine tw 151 (.agg #[(.string ⟨(Lib.itoa (((s2 R m k i t jj (pl R m k) jj)).num):List UInt8).toArray⟩),(.string ⟨(Lib.itoa ((((s2 R m k i t jj (pl R m k) jj)).den:Int)):List UInt8).toArray⟩)]) rfl (fun w' hS=>(rv_ldn [(.string ⟨(Lib.itoa (((s2 R m k i t jj (pl R m k) jj)).num):List UInt8).toArray⟩),(.string ⟨(Lib.itoa ((((s2 R m k i t jj (pl R m k) jj)).den:Int)):List UInt8).toArray⟩)] (hS.2.2.2.2.1 (by kernel_rfl)) _ _ rfl rfl (by kernel_rfl))) ?_
         refine te ?_
         refine ec 152 (f5_mul ((-(md R m k i t t k))) ((s2 R m k i t jj (pl R m k) jj)) (RZ.neg (hf.z_md hzk hnt hlt k hlk)) (show RZ (K+K) (K+K) (s2 R m k i t jj (pl R m k) jj) by rw [s2_r hnt];exact hf.z_mr hzk hlk t jj hlj) (by omega) _) ?_
         rintro e130 w130 ⟨rfl,g130⟩
         refine ⟨_,rfl,?_⟩
         replace hB:=hB.trans g130
         replace L105:=L105.gr g130
         replace at111:=at111.gr g130
         replace at124:=at124.gr g130
         replace at125:=at125.gr g130
         replace at127:=at127.gr g130
         refine ⟨L105,⟨fun _=>at111,fun _=>at124,fun _=>at125,fun _=>at127,trivial⟩,?_⟩
         simp only [p3,p4]
         refine te ?_
         refine ec 153 (f5_add ((s2 R m k i t jj t jj)) (((-(md R m k i t t k))*(s2 R m k i t jj (pl R m k) jj))) (show RZ K K (s2 R m k i t jj t jj) by rw [s2_at];exact hf.z_md hzk hnt hlt jj hlj) (RZ.mul (RZ.neg (hf.z_md hzk hnt hlt k hlk)) (show RZ (K+K) (K+K) (s2 R m k i t jj (pl R m k) jj) by rw [s2_r hnt];exact hf.z_mr hzk hlk t jj hlj)) (by omega) _) ?_
         rintro e132 w132 ⟨rfl,g132⟩
         refine ⟨_,rfl,?_⟩
         replace hB:=hB.trans g132
         replace L105:=L105.gr g132
         replace at111:=at111.gr g132
         replace at124:=at124.gr g132
         replace at125:=at125.gr g132
         replace at127:=at127.gr g132
         refine ⟨L105,⟨fun _=>at111,fun _=>at124,fun _=>at125,fun _=>at127,trivial⟩,?_⟩
         simp only [p3,p4]
         refine tw 154 (adr ((sb bs i (pl R m k)) t) (jj*2)) rfl (fun w' hS=>(rv_idxn (e:=84) hr112 tb_len (by decide) jj (by omega) _ _ _ rfl rfl rfl (by kernel_rfl) (by kernel_rfl))) ?_
         refine te ?_
         replace mr:=((mr.gr stab_fr gd128).gr stab_fr g130).gr stab_fr g132
         refine eff_mws stab_fr mr t jj (by omega) (by omega) (((s2 R m k i t jj t jj)+((-(md R m k i t t k))*(s2 R m k i t jj (pl R m k) jj)))) (.agg #[(.string ⟨(Lib.itoa ((((s2 R m k i t jj t jj)+((-(md R m k i t t k))*(s2 R m k i t jj (pl R m k) jj)))).num):List UInt8).toArray⟩),(.string ⟨(Lib.itoa (((((s2 R m k i t jj t jj)+((-(md R m k i t t k))*(s2 R m k i t jj (pl R m k) jj)))).den:Int)):List UInt8).toArray⟩)]) [(.string ⟨(Lib.itoa ((((s2 R m k i t jj t jj)+((-(md R m k i t t k))*(s2 R m k i t jj (pl R m k) jj)))).num):List UInt8).toArray⟩),(.string ⟨(Lib.itoa (((((s2 R m k i t jj t jj)+((-(md R m k i t t k))*(s2 R m k i t jj (pl R m k) jj)))).den:Int)):List UInt8).toArray⟩)] 84 _ _ rfl rfl rfl rfl rfl (by kernel_rfl) rfl ⟨rfl,rfl,trivial⟩ rfl (by decide) (fun w134 gg134 mr134 st134 kt134 bb134 hn134=>?_)
         replace hB:=st134.gr hB bb134
         replace mr134:=mr134.congr fun a _ b _=>hf.s2_next hnt jj a b
         replace L105:=st134.lc L105 (hn134 _ nob105)
         refine ⟨L105,⟨cameT (by kernel_rfl),cameT (by kernel_rfl),cameT (by kernel_rfl),cameT (by kernel_rfl),trivial⟩,?_⟩
         refine ort_nil ?_
         refine k115 _ _ ?_
         try clear k115 K115
         refine rg [0,1,2] ?_
         refine sv 130 (.int .i64 ((jj:Int))) ?_
         refine sw 131 (.int .i64 (((jj:Int)+1))) rfl (RunV.int (x:=IntKind.i64.wrap (((jj:Int)+1))) (y:=((jj:Int)+1)) (rvk (by kernel_rfl)) (by first | rfl | (rw [IntKind.wrap_i64];omega))) ?_
         refine sv 14 (.int .i64 (((jj:Int)+1))) ?_
         refine sq_nil ?_
         replace ov:=(((ov.gr stab_vs gd128).gr stab_vs g130).gr stab_vs g132).kts stab_vs (fun t hm=>kt134 t (by revert hm;revert t;decide))
         replace hpv:=(((hpv.gr stab_i64 gd128).gr stab_i64 g130).gr stab_i64 g132).kts stab_i64 (fun t hm=>kt134 t (by revert hm;revert t;decide))
         refine k108 (N - (jj+1)) ⟨List.toArray ?l135,[]⟩ _ (by omega) ?_
         exact ⟨jj+1,(fun i=>List.getD ?l135 i undef),rfl,rfl,(by omega),(fun e=>absurd e hnt),ov,mr134,hpv,L105,hB⟩
        ·have hnt:t=pl R m k:=bne_f hb114
         have hj0:jj=0:=hj00 hnt
         refine wp_exit ?_
         simp only [Exit.then,Exit.inBlock,↓reduceIte]
         refine k99 _ _ ?_
         try clear k99 K99
         refine rg [0,1,2] ?_
         refine sv 108 (.int .i64 ((t:Int))) ?_
         refine sw 109 (.int .i64 (((t:Int)+1))) rfl (RunV.int (x:=IntKind.i64.wrap (((t:Int)+1))) (y:=((t:Int)+1)) (rvk (by kernel_rfl)) (by first | rfl | (rw [IntKind.wrap_i64];omega))) ?_
         refine sv 12 (.int .i64 (((t:Int)+1))) ?_
         refine sq_nil ?_
         refine k95 (R - (t+1)) ⟨List.toArray ?l136,[]⟩ _ (by omega) ?_
         exact ⟨t+1,(fun i=>List.getD ?l136 i undef),rfl,rfl,(by omega),ov,(mr.congr fun a _ b _=>by rw [hj0];exact hf.s2_none hnt a b),hpv,hB⟩
       ·have hej:jj=N:=by have:=of_decide_eq_false hb113;omega
        refine swk 125 (.bool false) [(8,126),(9,127),(10,128)] rfl (RunV.bool (x:=decide ((jj:Int)<(N:Int))) (rvk (by kernel_rfl)) hb113) ?_
        refine sv 129 (.bool false) ?_
        refine sq_nil ?_
        refine k110 _ _ ?_
        try clear k110 K110
        refine wp_cond_false rfl ?_
        refine wp_exit ?_
        simp only [Exit.then,Exit.inBlock,↓reduceIte]
        refine k99 _ _ ?_
        try clear k99 K99
        refine rg [0,1,2] ?_
        refine sv 108 (.int .i64 ((t:Int))) ?_
        refine sw 109 (.int .i64 (((t:Int)+1))) rfl (RunV.int (x:=IntKind.i64.wrap (((t:Int)+1))) (y:=((t:Int)+1)) (rvk (by kernel_rfl)) (by first | rfl | (rw [IntKind.wrap_i64];omega))) ?_
        refine sv 12 (.int .i64 (((t:Int)+1))) ?_
        refine sq_nil ?_
        refine k95 (R - (t+1)) ⟨List.toArray ?l137,[]⟩ _ (by omega) ?_
        exact ⟨t+1,(fun i=>List.getD ?l137 i undef),rfl,rfl,(by omega),ov,(mr.congr fun a _ b hb=>by rw [hej];exact s2_end hb a),hpv,hB⟩
      ·have het:R=t:=by have:=of_decide_eq_false hb98;omega
       subst het
       refine wp_exit ?_
       simp only [Exit.then,Exit.inBlock,↓reduceIte]
       refine k93 _ _ ?_
       try clear k93 K93
       refine rg [0,1,2,3,4] ?_
       refine sv 155 vp ?_
       refine sv 156 (.int .i64 ((k:Int))) ?_
       refine se ?_
       refine eff_bs 3 1 #[(.int .i64 ((k:Int)))] (some 157) rfl (fun _=>by kernel_rfl) (fun b138 w138 g138 L138 q138=>?_)
       have nob138:=mr.nob q138
       replace hB:=hB.trans g138
       simp only [putl,p3,p4]
       refine se ?_
       replace hpv:=hpv.gr stab_i64 g138
       refine eff_apg stab_i64 _ _ 30 3 w.heap.size (.int .i64 0) vp (tb (fun z1=>((pv (rs R m k) z1:Nat):Int)) (pl R m k)) b138 [(.int .i64 ((k:Int)))] ((k:Int):Int) 1 1 (some 158) 8 rfl rfl rfl rfl hpv L138 ⟨rfl,trivial⟩ rfl rfl (Below.size hB) (by rw [tb_len];omega) (by decide) (by kernel_rfl) (by kernel_rfl) (by decide) (by decide) (fun v139 w139 ow139 wt139 hg139=>?_)
       replace hB:=hg139 _ hB (Nat.le_refl _)
       replace ow139:=ow139.cast hf.piv
       simp only [putl,p3,p4]
       refine sv 6 v139 ?_
       refine sq_nil ?_
       refine k34 _ _ ?_
       try clear k34 K34
       refine rg [0,1,2] ?_
       refine sv 34 (.int .i64 ((k:Int))) ?_
       refine sw 35 (.int .i64 (((k:Int)+1))) rfl (RunV.int (x:=IntKind.i64.wrap (((k:Int)+1))) (y:=((k:Int)+1)) (rvk (by kernel_rfl)) (by first | rfl | (rw [IntKind.wrap_i64];omega))) ?_
       refine sv 7 (.int .i64 (((k:Int)+1))) ?_
       refine sq_nil ?_
       replace ov:=(ov.gr stab_vs g138).kts stab_vs (wt139.kts (by decide))
       replace mr:=(mr.gr stab_fr g138).kts stab_fr (wt139.kts (by decide))
       refine k29 (N - (k+1)) ⟨List.toArray ?l140,[]⟩ _ (by omega) ?_
       exact ⟨k+1,(sb bs i (pl R m k)),v139,(fun i=>List.getD ?l140 i undef),rfl,rfl,(by omega),ov,(mr.congr fun a ha b _=>md_end ha),ow139,hB⟩
   ·have hei:R=i:=by have:=of_decide_eq_false hb41;omega
    refine swk 43 (.bool false) [(5,44),(6,45),(7,46),(8,47),(9,48),(10,49),(11,50),(12,51)] rfl (RunV.bool (x:=decide ((i:Int)<(R:Int))) (rvk (by kernel_rfl)) hb41) ?_
    refine sv 52 (.bool false) ?_
    refine sq_nil ?_
    refine k40 _ _ ?_
    try clear k40 K40
    refine wp_cond_false rfl ?_
    refine wp_exit ?_
    simp only [Exit.then,Exit.inBlock,↓reduceIte]
    refine k37 _ _ ?_
    try clear k37 K37
    refine wp_seq_k (fun K141 k141=>?_)
    refine wp_seq_k (fun K142 k142=>?_)
    refine rg [0,1,2,3] ?_
    refine sv 55 (.int .i64 ((i:Int))) ?_
    refine sv 56 vo ?_
    refine sw 57 (.int .i64 ((R:Int))) rfl (rv_lenn (e:=51) ov.sl (tb_lenz rfl) _ _ rfl rfl (by kernel_rfl)) ?_
    have hst:rs R m (k+1)=rs R m k:=rs_none fun t h1 h2=>hzz t h1 (by omega)
    have hb143:(((i:Int)==(R:Int)))=true:=(by simp;omega)
    refine sw 58 (.bool true) rfl (RunV.bool (x:=((i:Int)==(R:Int))) (rvk (by kernel_rfl)) hb143) ?_
    refine sq_nil ?_
    refine k142 _ _ ?_
    try clear k142 K142
    refine wp_cond_true rfl ?_
    refine wp_exit ?_
    simp only [Exit.then,Exit.inBlock,↓reduceIte]
    refine k34 _ _ ?_
    try clear k34 K34
    refine rg [0,1,2] ?_
    refine sv 34 (.int .i64 ((k:Int))) ?_
    refine sw 35 (.int .i64 (((k:Int)+1))) rfl (RunV.int (x:=IntKind.i64.wrap (((k:Int)+1))) (y:=((k:Int)+1)) (rvk (by kernel_rfl)) (by first | rfl | (rw [IntKind.wrap_i64];omega))) ?_
    refine sv 7 (.int .i64 (((k:Int)+1))) ?_
    refine sq_nil ?_
    refine k29 (N - (k+1)) ⟨List.toArray ?l144,[]⟩ _ (by omega) ?_
    exact ⟨k+1,bs,vp,(fun i=>List.getD ?l144 i undef),rfl,rfl,(by omega),ov,(by rw [hst];exact mr),(by unfold pl;rw [hst];exact hpv),hB⟩
  ·have hek:N=k:=by have:=of_decide_eq_false hb33;omega
   have hplR:=rs_len R m k
   refine wp_exit ?_
   simp only [Exit.then,Exit.inBlock,↓reduceIte]
   refine k27 _ _ ?_
   try clear k27 K27
   refine wp_seq_k (fun K145 k145=>?_)
   refine rg [0,1,2,3,4,5,6] ?_
   refine sv 159 vo ?_
   refine sv 160 vp ?_
   refine sw 161 (.int .i64 (((pl R m k:Nat):Int))) rfl (rv_lenn (e:=3) hpv.sl (tb_lenz rfl) _ _ rfl rfl (by kernel_rfl)) ?_
   have hs146:=ov.sl.subt (show 0≤(pl R m k) by omega) (show (pl R m k)≤R by omega)
   replace hs146:=hs146.cast (tb_sub0 (f:=bs))
   refine sw 162 (subv vo 0 (pl R m k) 1) rfl (rv_subt (e:=51) ov.sl 0 (pl R m k) (by omega) (by omega) _ _ _ _ rfl rfl (.inl ⟨rfl,rfl⟩) (.inr rfl) (by kernel_rfl) (by kernel_rfl)) ?_
   refine sv 163 vp ?_
   refine sv 2 (subv vo 0 (pl R m k) 1) ?_
   refine sv 3 vp ?_
   refine sq_nil ?_
   refine k145 _ _ ?_
   try clear k145 K145
   refine wp_ret ?_
   refine bodyPost_ret (v:=(.tuple #[(subv vo 0 (pl R m k) 1),vp])) (ret_tmp2 rfl rfl rfl) rfl ⟨?_,hB⟩
   replace ov:=ov.gr stab_vs g32
   replace mr:=mr.gr stab_fr g32
   replace hpv:=hpv.gr stab_i64 g32
   subst hek
   exact ⟨_,_,rfl,(((mr.rows ov).subt (Nat.zero_le _) (rs_len R m N)).cast (tb_sub0 (f:=fun i=>tb (fun j=>(rs R m N).m i j) N))),(hpv.sl)⟩

/-- a fraction,or the zero value -/
def EFo (w:World) (x:Option Rat) (vs:List Value):Prop:=
  match x with
  | none=>vs=[.string ⟨#[]⟩,.string ⟨#[]⟩]
  | some q=>EFr w q vs
theorem Sl.some {T:TypeId} {c n:Nat} {w:World} {v:Value} {g:Nat→Rat} (h:Sl EFo T c w v (tb (fun k=>some (g k)) n)):Sl EFr T c w v (tb g n):=by
  obtain ⟨ys,h1,h2⟩:=h
  rw [tb_len] at h1
  refine ⟨ys,by rw [tb_len];exact h1,by rw [h2.1,tb_len,tb_len],fun i x hx=>?_⟩
  have hi:i<n:=by have:=(List.getElem?_eq_some_iff.1 hx).1;rwa [tb_len] at this
  rw [tb_get hi] at hx
  obtain rfl:=Option.some.inj hx
  exact h2.2 i (Option.some (g i)) (tb_get (f:=fun k=>Option.some (g k)) hi)
section
variable {R n:Nat} {m:Mx_} {g:Nat→Rat}
theorem itoa_1n:Lib.itoa (1:Rat).num=([49]:List UInt8):=by decide+kernel
theorem itoa_1d:Lib.itoa ((1:Rat).den:Int)=([49]:List UInt8):=by decide+kernel
theorem efr0 (w:World):EFr w 0 [.string ⟨([48]:List UInt8).toArray⟩,.string ⟨([49]:List UInt8).toArray⟩]:=by unfold EFr;rw [itoa_0n,itoa_0d]
theorem efr1 (w:World):EFr w 1 [.string ⟨([49]:List UInt8).toArray⟩,.string ⟨([49]:List UInt8).toArray⟩]:=by unfold EFr;rw [itoa_1n,itoa_1d]
theorem rs_zero {D:Nat} (hR:R=0):pl R m D=0:=by have:=rs_len R m D;omega
end
/-- whatever the number of columns of a matrix without rows -/
theorem f5_reduceW {K R D:Nat} {v:Value} {m:Mx_} (hR2:R≤1000) (hN2:D≤1000) (hK:4*K≤19990) (hz:∀ k i,k<D→Fd R m k i→∀ a,a<R→∀ b,b<D→RZ K K ((rs R m k).m a b)) {w:World} (hs:Sl (ERw EFr 84 2) 51 1 w v (tb (fun z0=>tb (fun z1=>(m z0 z1)) D) R)):
    Calls Tryz.prog 17 #[v] w fun e w'=>(∃ u v,e=.returned (.tuple #[u,v])∧Sl (ERw EFr 84 2) 51 1 w' u (tb (fun z0=>tb (fun z1=>((rs R m D).m z0 z1)) D) (pl R m D))∧Sl EI64 3 1 w' v (tb (fun z1=>((pv (rs R m D) z1:Nat):Int)) (pl R m D)))∧Gr w w':=by
  by_cases h0:R=0
  · have hs0:Sl (ERw EFr 84 2) 51 1 w v (tb (fun z0=>tb (fun z1=>(m z0 z1)) 0) R):=by
      rw [h0] at hs ⊢;exact hs
    have:=f5_reduce (K:=K) (fun _=>rfl) hR2 (Nat.zero_le _) hK (fun k i h=>absurd h (Nat.not_lt_zero k)) hs0
    have e1:pl R m 0=0:=rs_zero h0
    have e2:pl R m D=0:=rs_zero h0
    rw [e1] at this;rw [e2];exact this
  · exact f5_reduce (fun h=>absurd h h0) hR2 hN2 hK hz hs
end Go.Proofs.YtepgkcimmdmgcaaGreatDoor
namespace Go.Proofs.YtepgkcimmdmgcaaGreatDoor
def dz:Nat→Nat × Nat
  | 0=>(1,1)
  | n+1=>((n+1)*(8+(dz n).1+3+(dz n).2+1)+1,(n+1)*(3+(dz n).2)+1)
theorem Dr_x (n:Nat) (m:Mx_):Dr (n+1) m=sm (n+1) fun k=>(sgk k*m 0 k)*Dr n (mnr m k):=sm_congr fun k _=>by grind
theorem rz_sgk {a d k:Nat} {x:Rat} (h:RZ a d x):RZ a d (sgk k*x):=by
  unfold sgk
  split
  · have:(-1:Rat)*x=-x:=by grind
    rw [this];exact h.neg
  · have:(1:Rat)*x=x:=by grind
    rw [this];exact h
theorem mnr_z {n k:Nat} {m:Mx_} (h:∀ i,i<n+1→∀ j,j<n+1→RZ 8 3 (m i j)):∀ i,i<n→∀ j,j<n→RZ 8 3 (mnr m k i j):=fun i hi j hj=>h (i+1) (by omega) _ (by unfold skp;split<;>omega)
theorem Dr_rz:∀ (n:Nat) {m:Mx_},(∀ i,i<n→∀ j,j<n→RZ 8 3 (m i j))→RZ (dz n).1 (dz n).2 (Dr n m)
  | 0,m,_=>by
    have:RZ 1 1 (((1:Int):Rat)):=RZ.int (by unfold Sz;decide)
    exact this
  | n+1,m,h=>by
    rw [Dr_x]
    exact rz_sm (fun i hi=>rz_sgk (h 0 (by omega) i hi)) (fun i hi=>Dr_rz n (mnr_z h))
theorem dz_le {n:Nat} (h:n≤4):(dz n).1≤1500∧(dz n).2≤1500:=by
  have:n=0∨n=1∨n=2∨n=3∨n=4:=by omega
  rcases this with rfl | rfl | rfl | rfl | rfl<;>decide
theorem Dr_z {n:Nat} {m:Mx_} (hn:n≤4) (h:∀ i,i<n→∀ j,j<n→RZ 8 3 (m i j)):RZ 1500 1500 (Dr n m):=(Dr_rz n h).mono (dz_le hn).1 (dz_le hn).2
/-- the first k members of the expansion -/
def dr (n:Nat) (m:Mx_) (k:Nat):Rat:=sm k fun z9=>sgk z9*(m 0 z9*Dr n (mnr m z9))
theorem dr_odd {n k:Nat} {m:Mx_} (h:((k:Int) % 2==(1:Int))=true):dr n m k+-(m 0 k*Dr n (mnr m k))=dr n m (k+1):=by
  show _=dr n m k+sgk k*(m 0 k*Dr n (mnr m k))
  have h2:(k:Int) % 2=1:=by simpa using h
  have:sgk k=-1:=if_pos (by omega)
  rw [this];grind
theorem dr_even {n k:Nat} {m:Mx_} (h:((k:Int) % 2==(1:Int))=false):dr n m k+m 0 k*Dr n (mnr m k)=dr n m (k+1):=by
  show _=dr n m k+sgk k*(m 0 k*Dr n (mnr m k))
  have h2:¬ (k:Int) % 2=1:=by simpa using h
  have:sgk k=1:=if_neg (by omega)
  rw [this];grind
theorem dr_z {n k:Nat} {m:Mx_} (hn:n≤4) (hk:k≤n+1) (h:∀ i,i<n+1→∀ j,j<n+1→RZ 8 3 (m i j)):RZ 15100 15100 (dr n m k):=by
  have e:dr n m k=sm k fun z=>(sgk z*m 0 z)*Dr n (mnr m z):=sm_congr fun k _=>by grind
  rw [e]
  have h1:=rz_sm (n:=k) (a:=8) (d:=3) (b:=1500) (e:=1500) (f:=fun z=>sgk z*m 0 z) (g:=fun z=>Dr n (mnr m z)) (fun i hi=>rz_sgk (h 0 (by omega) i (by omega))) (fun i _=>Dr_z hn (mnr_z h))
  exact h1.mono (by omega) (by omega)
theorem mnr_row {n k i:Nat} {m:Mx_} (hk:k<n+1):tb (fun z2=>if z2<k then m (i+1) z2 else m (i+1) ((k+1)+(z2 - k))) (k+((n+1) - (k+1)))=tb (fun z1=>(mnr m k i z1)) n:=by
  rw [show k+((n+1) - (k+1))=n by omega]
  refine tb_congr fun c _=>?_
  unfold mnr skp
  by_cases h:c<k
  · rw [if_pos h,if_pos h]
  · rw [if_neg h,if_neg h,show k+1+(c - k)=c+1 by omega]
end Go.Proofs.YtepgkcimmdmgcaaGreatDoor
namespace Go.Proofs.YtepgkcimmdmgcaaGreatDoor
open Go.RowKit

set_option maxRecDepth 100000 in
set_option maxHeartbeats 1000000 in
theorem f5_det_0 {v:Value} {m:Mx_} {w:World} (hs:Sl (ERw EFr 84 2) 51 1 w v (tb (fun z0=>tb (fun z1=>(m z0 z1)) 0) 0)):
    Calls Tryz.prog 42 #[v] w fun e w'=>e=.returned ((.agg #[(.string ⟨(Lib.itoa (((1:Rat)).num):List UInt8).toArray⟩),(.string ⟨(Lib.itoa ((((1:Rat)).den:Int)):List UInt8).toArray⟩)]))∧Gr w w':=by
 go_enter Tryz.func42,Tryz.ntmps42
 have hB:=Gr.refl w
 refine wp_seq_k (fun K10 k10=>?_)
 refine rg [0] ?_
 refine se ?_
 refine ea 84 #[(.string ⟨([]:List UInt8).toArray⟩),(.string ⟨([]:List UInt8).toArray⟩)] 2 hB fun b11 w11 g11 L11 o11 q11 hB=>?_
 simp only [p3,p4]
 refine sq_nil ?_
 refine k10 _ _ ?_
 try clear k10 K10
 refine wp_seq_k (fun K12 k12=>?_)
 refine wp_seq_k (fun K13 k13=>?_)
 refine rg [0,1,2] ?_
 refine sv 8 v ?_
 refine sw 9 (.int .i64 0) rfl (rv_lenn (e:=51) hs (tb_lenz rfl) _ _ rfl rfl (by kernel_rfl)) ?_
 refine sv 10 (.bool true) ?_
 refine sq_nil ?_
 refine k13 _ _ ?_
 try clear k13 K13
 refine wp_cond_true rfl ?_
 refine wp_seq_k (fun K14 k14=>?_)
 refine rg [0,1] ?_
 refine sv 11 (.agg #[(.string ⟨([49]:List UInt8).toArray⟩),(.string ⟨([49]:List UInt8).toArray⟩)]) ?_
 refine se ?_
 have lo15:=L11
 refine es 84 0 (.agg #[(.string ⟨([49]:List UInt8).toArray⟩),(.string ⟨([49]:List UInt8).toArray⟩)]) [(.string ⟨([49]:List UInt8).toArray⟩),(.string ⟨([49]:List UInt8).toArray⟩)] #[(.string ⟨([49]:List UInt8).toArray⟩),(.string ⟨([49]:List UInt8).toArray⟩)] L11 hB q11 ⟨rfl,rfl,trivial⟩ fun w15 st15 kp15 L11 hB=>?_
 refine sq_nil ?_
 refine k14 _ _ ?_
 try clear k14 K14
 refine wp_ret ?_
 simp only [Exit.then]
 refine bodyPost_ret (v:=(.agg #[(.string ⟨([49]:List UInt8).toArray⟩),(.string ⟨([49]:List UInt8).toArray⟩)])) (ret_cell _ _ _ rfl rfl L11 (by kernel_rfl)) rfl ⟨?_,hB⟩
 exact (by rw [itoa_1n,itoa_1d])

set_option maxRecDepth 100000 in
set_option maxHeartbeats 1000000 in
theorem f5_det_s {P:Nat} (hP:P≤4) (ih:∀ (v:Value) (m:Mx_) (w:World),Sl (ERw EFr 84 2) 51 1 w v (tb (fun z0=>tb (fun z1=>(m z0 z1)) P) P)→(∀ i,i<P→∀ j,j<P→RZ 8 3 (m i j))→Calls Tryz.prog 42 #[v] w fun e w'=>e=.returned ((.agg #[(.string ⟨(Lib.itoa (((Dr P m)).num):List UInt8).toArray⟩),(.string ⟨(Lib.itoa ((((Dr P m)).den:Int)):List UInt8).toArray⟩)]))∧Gr w w') {v:Value} {m:Mx_} (hz:∀ i,i<P+1→∀ j,j<P+1→RZ 8 3 (m i j)) {w:World} (hs:Sl (ERw EFr 84 2) 51 1 w v (tb (fun z0=>tb (fun z1=>(m z0 z1)) (P+1)) (P+1))):
    Calls Tryz.prog 42 #[v] w fun e w'=>e=.returned ((.agg #[(.string ⟨(Lib.itoa (((Dr (P+1) m)).num):List UInt8).toArray⟩),(.string ⟨(Lib.itoa ((((Dr (P+1) m)).den:Int)):List UInt8).toArray⟩)]))∧Gr w w':=by
 go_enter Tryz.func42,Tryz.ntmps42
 have hB:=Gr.refl w
 refine wp_seq_k (fun K10 k10=>?_)
 refine rg [0] ?_
 refine se ?_
 refine ea 84 #[(.string ⟨([]:List UInt8).toArray⟩),(.string ⟨([]:List UInt8).toArray⟩)] 2 hB fun b11 w11 g11 L11 o11 q11 hB=>?_
 simp only [p3,p4]
 refine sq_nil ?_
 refine k10 _ _ ?_
 try clear k10 K10
 refine wp_seq_k (fun K12 k12=>?_)
 refine wp_seq_k (fun K13 k13=>?_)
 refine rg [0,1,2] ?_
 refine sv 8 v ?_
 refine sw 9 (.int .i64 (((P+1:Nat):Int))) rfl (rv_lenn (e:=51) hs (tb_lenz rfl) _ _ rfl rfl (by kernel_rfl)) ?_
 have hb14:((((P+1:Nat):Int)==(0:Int)))=false:=(by simp;omega)
 refine sw 10 (.bool false) rfl (RunV.bool (x:=(((P+1:Nat):Int)==(0:Int))) (rvk (by kernel_rfl)) hb14) ?_
 refine sq_nil ?_
 refine k13 _ _ ?_
 try clear k13 K13
 refine wp_cond_false rfl ?_
 refine wp_skip ?_
 refine k12 _ _ ?_
 try clear k12 K12
 refine wp_seq_k (fun K15 k15=>?_)
 refine rg [0,1,2] ?_
 refine sv 12 (.agg #[(.string ⟨([48]:List UInt8).toArray⟩),(.string ⟨([49]:List UInt8).toArray⟩)]) ?_
 refine se ?_
 refine ea 84 #[(.string ⟨([]:List UInt8).toArray⟩),(.string ⟨([]:List UInt8).toArray⟩)] 3 hB fun b16 w16 g16 L16 o16 q16 hB=>?_
 have ne11_16:=L11.ne o16
 simp only [p3,p4]
 refine se ?_
 have lo17:=L16
 refine es 84 0 (.agg #[(.string ⟨([48]:List UInt8).toArray⟩),(.string ⟨([49]:List UInt8).toArray⟩)]) [(.string ⟨([48]:List UInt8).toArray⟩),(.string ⟨([49]:List UInt8).toArray⟩)] #[(.string ⟨([48]:List UInt8).toArray⟩),(.string ⟨([49]:List UInt8).toArray⟩)] L16 hB q16 ⟨rfl,rfl,trivial⟩ fun w17 st17 kp17 L16 hB=>?_
 refine sq_nil ?_
 refine k15 _ _ ?_
 try clear k15 K15
 refine wp_seq_k (fun K18 k18=>?_)
 refine wp_seq_k (fun K19 k19=>?_)
 refine rg [0] ?_
 refine sv 4 (.int .i64 0) ?_
 refine sq_nil ?_
 refine k19 _ _ ?_
 try clear k19 K19
 refine wp_block ?_
 replace L16:Lc w17 b16 #[(.string ⟨(Lib.itoa (((dr P m 0)).num):List UInt8).toArray⟩),(.string ⟨(Lib.itoa ((((dr P m 0)).den:Int)):List UInt8).toArray⟩)] 84:=by show Lc _ _ #[.string ⟨(Lib.itoa (0:Rat).num).toArray⟩,.string ⟨(Lib.itoa ((0:Rat).den:Int)).toArray⟩] _;rw [itoa_0n,itoa_0d];exact L16
 replace L11:=st17.lc (L11.gr g16) ne11_16
 refine wp_loop_inv (a:=⟨List.toArray ?l20,[]⟩) (fun n a w'=>∃ (k:Nat) (u20:Nat→Value),P+1 - k=n∧a=⟨[v,undef,(.pointer (some ⟨b11,0,none⟩)),(.pointer (some ⟨b16,0,none⟩)),(.int .i64 ((k:Int))),(u20 5),(u20 6),(u20 7),(u20 8),(u20 9),(.bool false),undef,(u20 12),(u20 13),(u20 14),(u20 15),(u20 16),(u20 17),(u20 18),(u20 19),(u20 20),(u20 21),(u20 22),(u20 23),(u20 24),(u20 25),(u20 26),(u20 27),(u20 28),(u20 29),(u20 30),(u20 31),(u20 32),(u20 33),(u20 34),(u20 35),(u20 36),(u20 37),(u20 38),(u20 39),(u20 40),(u20 41),(u20 42),(u20 43),(u20 44),(u20 45),(u20 46),(u20 47),(u20 48),(u20 49),(u20 50),(u20 51),(u20 52),(u20 53),(u20 54),(u20 55),(u20 56),(u20 57),(u20 58),(u20 59),(u20 60),undef].toArray,[]⟩∧k≤P+1∧Lc w' b11 #[(.string ⟨([]:List UInt8).toArray⟩),(.string ⟨([]:List UInt8).toArray⟩)] 84∧Lc w' b16 #[(.string ⟨(Lib.itoa (((dr P m k)).num):List UInt8).toArray⟩),(.string ⟨(Lib.itoa ((((dr P m k)).den:Int)):List UInt8).toArray⟩)] 84∧Gr w w') (P+1 - 0) ?_ ?_
 ·exact ⟨0,(fun i=>List.getD ?l20 i undef),rfl,rfl,(Nat.zero_le _),L11,L16,hB⟩
 rintro n20 a20 w20 ⟨k,u20,rfl,rfl,hkk,L11,L16,hB⟩ K20 k20
 have lehC:=Below.size hB
 have hC:=Gr.refl w20
 refine wp_seq_k (fun K21 k21=>?_)
 refine wp_seq_k (fun K22 k22=>?_)
 refine rg [0,1,2,3] ?_
 refine sv 13 (.int .i64 ((k:Int))) ?_
 refine sv 14 v ?_
 refine sw 15 (.int .i64 (((P+1:Nat):Int))) rfl (rv_lenn (e:=51) hs (tb_lenz rfl) _ _ rfl rfl (by kernel_rfl)) ?_
 refine sv 16 (.bool (decide ((k:Int)<((P+1:Nat):Int)))) ?_
 refine sq_nil ?_
 refine k22 _ _ ?_
 try clear k22 K22
 refine wp_cond_split (t:=decide ((k:Int)<((P+1:Nat):Int))) rfl (fun hb23=>?_) (fun hb23=>?_)
 ·have hlk:k<P+1:=by have:=of_decide_eq_true hb23;omega
  refine wp_skip ?_
  refine k21 _ _ ?_
  try clear k21 K21
  refine wp_seq_k (fun K24 k24=>?_)
  refine wp_block ?_
  refine wp_seq_k (fun K25 k25=>?_)
  refine rg [0] ?_
  refine sv 5 (.slice none 0 0) ?_
  refine sq_nil ?_
  refine k25 _ _ ?_
  try clear k25 K25
  refine wp_seq_k (fun K26 k26=>?_)
  refine wp_seq_k (fun K27 k27=>?_)
  refine rg [0] ?_
  refine sv 6 (.int .i64 1) ?_
  refine sq_nil ?_
  refine k27 _ _ ?_
  try clear k27 K27
  refine wp_block ?_
  refine wp_loop_inv (a:=⟨List.toArray ?l28,[]⟩) (fun n a w'=>∃ (ii:Nat) (vo:Value) (u28:Nat→Value),P - ii=n∧a=⟨[v,undef,(.pointer (some ⟨b11,0,none⟩)),(.pointer (some ⟨b16,0,none⟩)),(.int .i64 ((k:Int))),vo,(.int .i64 (((ii+1:Nat):Int))),(u20 7),(u28 8),(u28 9),(.bool false),undef,(u28 12),(u28 13),(u28 14),(u28 15),(.bool (decide ((k:Int)<((P+1:Nat):Int)))),(u28 17),(u28 18),(u28 19),(u28 20),(u28 21),(u28 22),(u28 23),(u28 24),(u28 25),(u28 26),(u28 27),(u28 28),(u28 29),(u28 30),(u28 31),(u28 32),(u28 33),(u28 34),(u28 35),(u28 36),(u28 37),(u28 38),(u28 39),(u28 40),(u28 41),(u28 42),(u28 43),(u28 44),(u28 45),(u28 46),(u28 47),(u28 48),(u28 49),(u28 50),(u28 51),(u28 52),(u28 53),(u28 54),(u20 55),(u28 56),(u28 57),(u28 58),(u28 59),(u28 60),undef].toArray,[]⟩∧ii≤P∧Ow (ERw EFr 84 2) 51 1 w' w20.heap.size vo (tb (fun z0=>tb (fun z1=>(mnr m k z0 z1)) P) ii)∧Lc w' b11 #[(.string ⟨([]:List UInt8).toArray⟩),(.string ⟨([]:List UInt8).toArray⟩)] 84∧Lc w' b16 #[(.string ⟨(Lib.itoa (((dr P m k)).num):List UInt8).toArray⟩),(.string ⟨(Lib.itoa ((((dr P m k)).den:Int)):List UInt8).toArray⟩)] 84∧Gr w20 w'∧Gr w w') (P - 0) ?_ ?_
  ·exact ⟨0,(.slice none 0 0),(fun i=>List.getD ?l28 i undef),rfl,rfl,(Nat.zero_le _),(Ow.nil _ _ _ _ _),L11,L16,hC,hB⟩
  rintro n28 a28 w28 ⟨ii,vo,u28,rfl,rfl,hki,oo,L11,L16,hC,hB⟩ K28 k28
  have lehE:=Below.size hB
  have lehE_hC:=Below.size hC
  have hE:=Gr.refl w28
  have lthE_11:=L11.lt
  have lthE_16:=L16.lt
  refine wp_seq_k (fun K29 k29=>?_)
  refine wp_seq_k (fun K30 k30=>?_)
  refine rg [0,1,2,3] ?_
  refine sv 19 (.int .i64 (((ii+1:Nat):Int))) ?_
  refine sv 20 v ?_
  refine sw 21 (.int .i64 (((P+1:Nat):Int))) rfl (rv_lenn (e:=51) hs (tb_lenz rfl) _ _ rfl rfl (by kernel_rfl)) ?_
  refine sv 22 (.bool (decide (((ii+1:Nat):Int)<((P+1:Nat):Int)))) ?_
  refine sq_nil ?_
  refine k30 _ _ ?_
  try clear k30 K30
  refine wp_cond_split (t:=decide (((ii+1:Nat):Int)<((P+1:Nat):Int))) rfl (fun hb31=>?_) (fun hb31=>?_)
  ·have hli:ii<P:=by have:=of_decide_eq_true hb31;omega
   refine wp_skip ?_
   refine k29 _ _ ?_
   try clear k29 K29
   refine wp_seq_k (fun K32 k32=>?_)
   refine wp_block ?_
   obtain ⟨_,_,⟨u46,rfl,hr46⟩,at46⟩:=Sl.get hs (by decide) (tb_get (f:=(fun z0=>tb (fun z1=>(m z0 z1)) (P+1))) (n:=(P+1)) (i:=(ii+1)) (by omega))
   have gd47:=Gr.drew w28
   replace hB:=hB.trans gd47
   replace hC:=hC.trans gd47
   replace hE:=hE.trans gd47
   refine wp_region_ord (fun w'=>AtV w' v ((ii+1)*1) [u46]) [(true,0),(true,2),(true,3),(true,4),(true,5),(true,6),(true,7),(true,9),(true,10),(true,11),(true,12),(true,13),(true,14),(true,15),(false,1),(false,8),(false,16),(false,17),(false,18),(true,19)] (by kernel_rfl) (by kernel_rfl) (by kernel_rfl) (by decide) (fun _ _ _ _ _ h=>h) (at46.gr hB) ?_
   refine ov 25 vo ?_
   refine ov 27 v ?_
   refine ov 28 (.int .i64 (((ii+1:Nat):Int))) ?_
   refine ow 29 (adr v ((ii+1)*1)) rfl (fun w' hS=>(rv_idxn (e:=51) hs tb_len (by decide) (ii+1) (by omega) _ _ _ rfl rfl rfl (by kernel_rfl) (by kernel_rfl))) ?_
   refine ow 30 u46 rfl (fun w' hS=>(rv_ld1 u46 hS _ _ rfl rfl (by kernel_rfl))) ?_
   refine ov 31 (.int .i64 ((k:Int))) ?_
   have hs48:=hr46.subt (show 0≤k by omega) (show k≤(P+1) by omega)
   replace hs48:=hs48.cast (tb_sub0 (f:=(fun z1=>(m (ii+1) z1))))
   refine ow 32 (subv u46 0 k 2) rfl (fun w' hS=>(rv_subt (e:=84) hr46 0 k (by omega) (by omega) _ _ _ _ rfl rfl (.inl ⟨rfl,rfl⟩) (.inr rfl) (by kernel_rfl) (by kernel_rfl))) ?_
   refine ov 34 v ?_
   refine ov 35 (.int .i64 (((ii+1:Nat):Int))) ?_
   refine ow 36 (adr v ((ii+1)*1)) rfl (fun w' hS=>(rv_idxn (e:=51) hs tb_len (by decide) (ii+1) (by omega) _ _ _ rfl rfl rfl (by kernel_rfl) (by kernel_rfl))) ?_
   refine ow 37 u46 rfl (fun w' hS=>(rv_ld1 u46 hS _ _ rfl rfl (by kernel_rfl))) ?_
   refine ov 38 (.int .i64 ((k:Int))) ?_
   refine ow 39 (.int .i64 (((k:Int)+1))) rfl (fun w' hS=>(RunV.int (x:=IntKind.i64.wrap (((k:Int)+1))) (y:=((k:Int)+1)) (rvk (by kernel_rfl)) (by first | rfl | (rw [IntKind.wrap_i64];omega)))) ?_
   have hs49:=hr46.subt (show (k+1)≤(P+1) by omega) (show (P+1)≤(P+1) by omega)
   refine ow 40 (subv u46 (k+1) (P+1) 2) rfl (fun w' hS=>(rv_subt (e:=84) hr46 (k+1) (P+1) (by omega) (by omega) _ _ _ _ rfl rfl (.inr rfl) (.inl ⟨rfl,rfl⟩) (by kernel_rfl) (by kernel_rfl))) ?_
   refine oe ?_
   refine eff_bs 84 0 #[] (some 26) rfl (fun _=>by kernel_rfl) (fun b51 w51 g51 L51 q51=>?_)
   replace L11:=L11.gr gd47
   have ne11_51:=L11.ne q51
   replace L16:=L16.gr gd47
   have ne16_51:=L16.ne q51
   have q51_hC:=Nat.le_trans (Below.size hC) q51
   have q51_hE:=Nat.le_trans (Below.size hE) q51
   replace hB:=hB.trans g51
   replace hC:=hC.trans g51
   replace hE:=hE.trans g51
   refine ⟨(at46.gr hB),?_⟩
   simp only [putl,p3,p4]
   refine oe ?_
   refine eff_aps stab_fr _ _ 51 84 w28.heap.size 84 (.agg #[(.string ⟨([]:List UInt8).toArray⟩),(.string ⟨([]:List UInt8).toArray⟩)]) (.slice (some ⟨b51,0,none⟩) 0 0) ([]:List Rat) (subv u46 0 k 2) (tb (fun z1=>(m (ii+1) z1)) k) 2 (some 33) 32 rfl rfl rfl rfl (ow_empty (E:=EFr) (c:=2) (B:=w28.heap.size) L51 q51_hE) (hs48.gr stab_fr hB) (one_fr _) (Below.size hE) (by simp only [List.length_nil,tb_len];omega) (by decide) (by kernel_rfl) (by kernel_rfl) (by decide) (by decide) (fun v53 w53 ow53 wt53 hg53 ag53=>?_)
   replace hB:=hg53 _ hB lehE
   replace hC:=hg53 _ hC lehE_hC
   replace hE:=hg53 _ hE (Nat.le_refl _)
   replace ow53:=ow53.cast (List.nil_append _)
   refine ⟨(at46.gr hB),?_⟩
   simp only [putl,p3,p4]
   refine oe ?_
   refine eff_aps stab_fr _ _ 51 84 w28.heap.size 84 (.agg #[(.string ⟨([]:List UInt8).toArray⟩),(.string ⟨([]:List UInt8).toArray⟩)]) v53 (tb (fun z1=>(m (ii+1) z1)) k) (subv u46 (k+1) (P+1) 2) (tb (fun z3=>(fun z1=>(m (ii+1) z1)) ((k+1)+z3)) ((P+1) - (k+1))) 2 (some 41) 32 rfl rfl rfl rfl ow53 (hs49.gr stab_fr hB) (one_fr _) (Below.size hE) (by simp only [tb_len];omega) (by decide) (by kernel_rfl) (by kernel_rfl) (by decide) (by decide) (fun v55 w55 ow55 wt55 hg55 ag55=>?_)
   replace hB:=hg55 _ hB lehE
   replace hC:=hg55 _ hC lehE_hC
   replace hE:=hg55 _ hE (Nat.le_refl _)
   replace ow55:=ow55.cast tb_app
   refine ⟨(at46.gr hB),?_⟩
   simp only [putl,p3,p4]
   refine oe ?_
   refine eff_bs1 26 51 v55 (some 42) rfl rfl rfl (ow55.sl).forms (fun _ _ _ _=>by kernel_rfl) (fun b57 w57 g57 L57 q57=>?_)
   replace L11:=ag55 _ _ _ (fun g n cap e=>by have:=(ow53.blk e).1;have:=lthE_11;omega) (ag53 _ _ _ (fun g n cap e=>by cases e;exact ne11_51) (L11.gr g51))
   replace L16:=ag55 _ _ _ (fun g n cap e=>by have:=(ow53.blk e).1;have:=lthE_16;omega) (ag53 _ _ _ (fun g n cap e=>by cases e;exact ne16_51) (L16.gr g51))
   have q57_hC:=Nat.le_trans (Below.size hC) q57
   have q57_hE:=Nat.le_trans (Below.size hE) q57
   replace hB:=hB.trans g57
   replace hC:=hC.trans g57
   replace hE:=hE.trans g57
   refine ⟨(at46.gr hB),?_⟩
   simp only [putl,p3,p4]
   refine oe ?_
   replace ow55:=ow55.gr stab_fr g57
   refine eff_apg (stab_rw stab_fr 84 2) _ _ 26 51 w20.heap.size (.slice none 0 0) vo (tb (fun z0=>tb (fun z1=>(mnr m k z0 z1)) P) ii) b57 [v55] (tb (fun z2=>(if z2<k then (m (ii+1) z2) else (m (ii+1) ((k+1)+(z2 - k))))) (k+((P+1) - (k+1)))) 1 1 (some 43) 24 rfl rfl rfl rfl (oo.gr (stab_rw stab_fr 84 2) hE) L57 ⟨ow55.one,trivial⟩ rfl ⟨_,rfl,(ow55.sl)⟩ (Below.size hC) (by rw [tb_len];omega) (by decide) (by kernel_rfl) (by kernel_rfl) (by decide) (by decide) (fun v59 w59 ow59 wt59 hg59=>?_)
   replace hB:=hg59 _ hB lehC
   replace hC:=hg59 _ hC (Nat.le_refl _)
   replace ow59:=ow59.cast (tb_snoc (f:=(fun z0=>tb (fun z1=>(mnr m k z0 z1)) P)) (n:=ii) (mnr_row hlk))
   refine ⟨(at46.gr hB),?_⟩
   simp only [putl,p3,p4]
   refine ov 5 v59 ?_
   refine ord_nil ?_
   refine k32 _ _ ?_
   try clear k32 K32
   refine rg [0,1,2] ?_
   refine sv 23 (.int .i64 (((ii+1:Nat):Int))) ?_
   refine sw 24 (.int .i64 ((((ii+1:Nat):Int)+1))) rfl (RunV.int (x:=IntKind.i64.wrap ((((ii+1:Nat):Int)+1))) (y:=(((ii+1:Nat):Int)+1)) (rvk (by kernel_rfl)) (by first | rfl | (rw [IntKind.wrap_i64];omega))) ?_
   refine sv 6 (.int .i64 ((((ii+1:Nat):Int)+1))) ?_
   refine sq_nil ?_
   replace L11:=wt59.lc (L11.gr g57) (by decide)
   replace L16:=wt59.lc (L16.gr g57) (by decide)
   refine k28 (P - (ii+1)) ⟨List.toArray ?l60,[]⟩ _ (by omega) ?_
   exact ⟨ii+1,v59,(fun i=>List.getD ?l60 i undef),rfl,rfl,(by omega),ow59,L11,L16,hC,hB⟩
  ·have hei:P=ii:=by have:=of_decide_eq_false hb31;omega
   subst hei
   refine wp_exit ?_
   simp only [Exit.then,Exit.inBlock,↓reduceIte]
   refine k26 _ _ ?_
   try clear k26 K26
   refine wp_seq_k (fun K61 k61=>?_)
   have hpz:RZ (8+1500) (8+1500) (m 0 k*Dr P (mnr m k)):=((hz 0 (by omega) k hlk).mono (show 8≤8 by omega) (show 3≤8 by omega)).mul (Dr_z hP (mnr_z hz))
   obtain ⟨_,_,⟨u71,rfl,hr71⟩,at71⟩:=Sl.get hs (by decide) (tb_get (f:=(fun z0=>tb (fun z1=>(m z0 z1)) (P+1))) (n:=(P+1)) (i:=0) (by omega))
   obtain ⟨_,_,rfl,at72⟩:=Sl.get hr71 (by decide) (tb_get (f:=(fun z1=>(m 0 z1))) (n:=(P+1)) (i:=k) (by omega))
   have hz73:=Below.size hB
   have hz73_hC:=Below.size hC
   have hz73_hE:=Below.size hE
   have lt11_73:=L11.lt
   have lt16_73:=L16.lt
   have gd73:=Gr.drew w28
   replace hB:=hB.trans gd73
   replace hC:=hC.trans gd73
   replace hE:=hE.trans gd73
   refine wp_region_flo (fun w'=>AtV w' v (0*1) [u71]∧AtV w' u71 (k*2) [(.string ⟨(Lib.itoa (((m 0 k)).num):List UInt8).toArray⟩),(.string ⟨(Lib.itoa ((((m 0 k)).den:Int)):List UInt8).toArray⟩)]) [(true,0),(true,1),(true,2),(true,3),(true,4),(true,5),(true,6),(false,7),(false,8)] [⟨9,7,84,#[(.string ⟨([]:List UInt8).toArray⟩),(.string ⟨([]:List UInt8).toArray⟩)]⟩] [(false,10)] (by kernel_rfl) (by kernel_rfl) (by kernel_rfl) (by kernel_rfl) (by kernel_rfl) (by decide) (fun _ _ _ _ _ h=>h) (fun _ _ _ _ _ h=>h) (fun w' o h=>⟨AtV.gr h.1 (Gr.alloc w' o),AtV.gr h.2 (Gr.alloc w' o)⟩) ⟨(at71.gr hB),(at72.gr hB)⟩ (by intro f hf;simp only [List.mem_cons,List.not_mem_nil,or_false] at hf;rcases hf with rfl<;>first | exact alloc_zero (z:=(.agg #[(.string ⟨([]:List UInt8).toArray⟩),(.string ⟨([]:List UInt8).toArray⟩)])) (by kernel_rfl) rfl) ?_
   refine fv 44 v ?_
   refine fw 45 (adr v (0*1)) rfl (fun w' hS=>(rv_idxn (e:=51) hs tb_len (by decide) 0 (by omega) _ _ _ rfl rfl rfl (by kernel_rfl) (by kernel_rfl))) ?_
   refine fw 46 u71 rfl (fun w' hS=>(rv_ld1 u71 hS.1 _ _ rfl rfl (by kernel_rfl))) ?_
   refine fv 47 (.int .i64 ((k:Int))) ?_
   refine fw 48 (adr u71 (k*2)) rfl (fun w' hS=>(rv_idxn (e:=84) hr71 tb_len (by decide) k (by omega) _ _ _ rfl rfl rfl (by kernel_rfl) (by kernel_rfl))) ?_
   refine fw 49 (.agg #[(.string ⟨(Lib.itoa (((m 0 k)).num):List UInt8).toArray⟩),(.string ⟨(Lib.itoa ((((m 0 k)).den:Int)):List UInt8).toArray⟩)]) rfl (fun w' hS=>(rv_ldn [(.string ⟨(Lib.itoa (((m 0 k)).num):List UInt8).toArray⟩),(.string ⟨(Lib.itoa ((((m 0 k)).den:Int)):List UInt8).toArray⟩)] hS.2 _ _ rfl rfl (by kernel_rfl))) ?_
   refine fv 50 vo ?_
   refine flo_eff rfl rfl (fun w74 g74 _ K74 k74=>?_)
   replace hB:=hB.trans g74
   replace hC:=hC.trans g74
   replace hE:=hE.trans g74
   refine ec 51 (ih _ _ _ ((oo.gr (stab_rw stab_fr 84 2) hE).sl) (mnr_z hz)) ?_
   rintro e75 w75 ⟨rfl,g75⟩
   refine ⟨_,rfl,?_⟩
   replace hB:=hB.trans g75
   replace hC:=hC.trans g75
   replace hE:=hE.trans g75
   refine k74 _ _ g75 ⟨(at71.gr hB),(at72.gr hB)⟩ ?_
   try clear k74 K74
   simp only [p3,p4]
   refine flo_eff rfl rfl (fun w76 g76 _ K76 k76=>?_)
   replace hB:=hB.trans g76
   replace hC:=hC.trans g76
   replace hE:=hE.trans g76
   refine ec 52 (f5_mul ((m 0 k)) ((Dr P (mnr m k))) ((hz 0 (by omega) k hlk).mono (show 8≤8 by omega) (show 3≤8 by omega)) (Dr_z hP (mnr_z hz)) (by omega) _) ?_
   rintro e77 w77 ⟨rfl,g77⟩
   refine ⟨_,rfl,?_⟩
   replace hB:=hB.trans g77
   replace hC:=hC.trans g77
   replace hE:=hE.trans g77
   refine k76 _ _ g77 ⟨(at71.gr hB),(at72.gr hB)⟩ ?_
   try clear k76 K76
   simp only [p3,p4]
   refine flo_nil (fun w78 g78 _=>?_)
   replace hB:=hB.trans g78
   replace hC:=hC.trans g78
   replace hE:=hE.trans g78
   refine floFin1 (fun b79 (L79:Lc w78 b79 #[(.string ⟨([]:List UInt8).toArray⟩),(.string ⟨([]:List UInt8).toArray⟩)] 84) q79=>?_)
   have ne11_79:b11≠b79:=Nat.ne_of_lt (Nat.lt_of_lt_of_le lt11_73 q79)
   have ne16_79:b16≠b79:=Nat.ne_of_lt (Nat.lt_of_lt_of_le lt16_73 q79)
   have q79_hC:=Nat.le_trans hz73_hC q79
   have q79_hE:=Nat.le_trans hz73_hE q79
   replace q79:=Nat.le_trans hz73 q79
   simp only [putl,p3,p4]
   refine oe ?_
   have lo81:=L79
   refine es 84 0 (.agg #[(.string ⟨(Lib.itoa ((((m 0 k)*(Dr P (mnr m k)))).num):List UInt8).toArray⟩),(.string ⟨(Lib.itoa (((((m 0 k)*(Dr P (mnr m k)))).den:Int)):List UInt8).toArray⟩)]) [(.string ⟨(Lib.itoa ((((m 0 k)*(Dr P (mnr m k)))).num):List UInt8).toArray⟩),(.string ⟨(Lib.itoa (((((m 0 k)*(Dr P (mnr m k)))).den:Int)):List UInt8).toArray⟩)] #[(.string ⟨(Lib.itoa ((((m 0 k)*(Dr P (mnr m k)))).num):List UInt8).toArray⟩),(.string ⟨(Lib.itoa (((((m 0 k)*(Dr P (mnr m k)))).den:Int)):List UInt8).toArray⟩)] L79 hB q79 ⟨rfl,rfl,trivial⟩ fun w81 st81 kp81 L79 hB=>?_
   replace hC:=st81.gr hC q79_hC
   replace hE:=st81.gr hE q79_hE
   refine ⟨⟨(at71.gr hB),(at72.gr hB)⟩,?_⟩
   refine ord_nil ?_
   refine k61 _ _ ?_
   try clear k61 K61
   refine wp_seq_k (fun K82 k82=>?_)
   refine wp_seq_k (fun K83 k83=>?_)
   refine rg [0,1,2] ?_
   refine sv 53 (.int .i64 ((k:Int))) ?_
   refine sw 54 (.int .i64 (((k:Int) % 2))) rfl (RunV.int (x:=Int.tmod ((k:Int)) 2) (y:=(k:Int) % 2) (rvk (by kernel_rfl)) (by rw [Int.tmod_eq_emod_of_nonneg (by first | omega | exact Int.natCast_nonneg _)])) ?_
   refine sv 55 (.bool ((((k:Int) % 2)==(1:Int)))) ?_
   refine sq_nil ?_
   refine k83 _ _ ?_
   try clear k83 K83
   refine wp_cond_split (t:=(((k:Int) % 2)==(1:Int))) rfl (fun hb84=>?_) (fun hb84=>?_)
   ·refine rg [0,1,2] ?_
    refine sw 56 (.agg #[(.string ⟨(Lib.itoa ((((m 0 k)*(Dr P (mnr m k)))).num):List UInt8).toArray⟩),(.string ⟨(Lib.itoa (((((m 0 k)*(Dr P (mnr m k)))).den:Int)):List UInt8).toArray⟩)]) rfl (rl 84 0 [(.string ⟨(Lib.itoa ((((m 0 k)*(Dr P (mnr m k)))).num):List UInt8).toArray⟩),(.string ⟨(Lib.itoa (((((m 0 k)*(Dr P (mnr m k)))).den:Int)):List UInt8).toArray⟩)] L79) ?_
    refine se ?_
    refine ec 57 (f5_neg (((m 0 k)*(Dr P (mnr m k)))) hpz (by omega) _) ?_
    rintro e85 w85 ⟨rfl,g85⟩
    refine ⟨_,rfl,?_⟩
    replace hB:=hB.trans g85
    replace hC:=hC.trans g85
    replace hE:=hE.trans g85
    simp only [p3,p4]
    refine se ?_
    replace L79:=L79.gr g85
    have lo86:=L79
    refine es 84 0 (.agg #[(.string ⟨(Lib.itoa (((-((m 0 k)*(Dr P (mnr m k))))).num):List UInt8).toArray⟩),(.string ⟨(Lib.itoa ((((-((m 0 k)*(Dr P (mnr m k))))).den:Int)):List UInt8).toArray⟩)]) [(.string ⟨(Lib.itoa (((-((m 0 k)*(Dr P (mnr m k))))).num):List UInt8).toArray⟩),(.string ⟨(Lib.itoa ((((-((m 0 k)*(Dr P (mnr m k))))).den:Int)):List UInt8).toArray⟩)] #[(.string ⟨(Lib.itoa (((-((m 0 k)*(Dr P (mnr m k))))).num):List UInt8).toArray⟩),(.string ⟨(Lib.itoa ((((-((m 0 k)*(Dr P (mnr m k))))).den:Int)):List UInt8).toArray⟩)] L79 hB q79 ⟨rfl,rfl,trivial⟩ fun w86 st86 kp86 L79 hB=>?_
    replace hC:=st86.gr hC q79_hC
    replace hE:=st86.gr hE q79_hE
    refine sq_nil ?_
    refine k82 _ _ ?_
    try clear k82 K82
    refine rg [0,1,2,3] ?_
    replace L16:=st86.lc ((st81.lc (L16.gr (gd73.trans (g74.trans (g75.trans (g76.trans (g77.trans g78)))))) ne16_79).gr g85) ne16_79
    refine sw 58 (.agg #[(.string ⟨(Lib.itoa (((dr P m k)).num):List UInt8).toArray⟩),(.string ⟨(Lib.itoa ((((dr P m k)).den:Int)):List UInt8).toArray⟩)]) rfl (rl 84 0 [(.string ⟨(Lib.itoa (((dr P m k)).num):List UInt8).toArray⟩),(.string ⟨(Lib.itoa ((((dr P m k)).den:Int)):List UInt8).toArray⟩)] L16) ?_
    refine sw 59 (.agg #[(.string ⟨(Lib.itoa (((-((m 0 k)*(Dr P (mnr m k))))).num):List UInt8).toArray⟩),(.string ⟨(Lib.itoa ((((-((m 0 k)*(Dr P (mnr m k))))).den:Int)):List UInt8).toArray⟩)]) rfl (rl 84 0 [(.string ⟨(Lib.itoa (((-((m 0 k)*(Dr P (mnr m k))))).num):List UInt8).toArray⟩),(.string ⟨(Lib.itoa ((((-((m 0 k)*(Dr P (mnr m k))))).den:Int)):List UInt8).toArray⟩)] L79) ?_
    refine se ?_
    refine ec 60 (f5_add ((dr P m k)) ((-((m 0 k)*(Dr P (mnr m k))))) (dr_z hP (by omega) hz) (RZ.neg hpz) (by omega) _) ?_
    rintro e87 w87 ⟨rfl,g87⟩
    refine ⟨_,rfl,?_⟩
    replace hB:=hB.trans g87
    replace hC:=hC.trans g87
    replace hE:=hE.trans g87
    simp only [p3,p4]
    refine se ?_
    replace L16:=L16.gr g87
    have lo88:=L16
    refine es 84 0 (.agg #[(.string ⟨(Lib.itoa ((((dr P m k)+(-((m 0 k)*(Dr P (mnr m k)))))).num):List UInt8).toArray⟩),(.string ⟨(Lib.itoa (((((dr P m k)+(-((m 0 k)*(Dr P (mnr m k)))))).den:Int)):List UInt8).toArray⟩)]) [(.string ⟨(Lib.itoa ((((dr P m k)+(-((m 0 k)*(Dr P (mnr m k)))))).num):List UInt8).toArray⟩),(.string ⟨(Lib.itoa (((((dr P m k)+(-((m 0 k)*(Dr P (mnr m k)))))).den:Int)):List UInt8).toArray⟩)] #[(.string ⟨(Lib.itoa ((((dr P m k)+(-((m 0 k)*(Dr P (mnr m k)))))).num):List UInt8).toArray⟩),(.string ⟨(Lib.itoa (((((dr P m k)+(-((m 0 k)*(Dr P (mnr m k)))))).den:Int)):List UInt8).toArray⟩)] L16 hB q16 ⟨rfl,rfl,trivial⟩ fun w88 st88 kp88 L16 hB=>?_
    refine sq_nil ?_
    refine k24 _ _ ?_
    try clear k24 K24
    refine rg [0,1,2] ?_
    refine sv 17 (.int .i64 ((k:Int))) ?_
    refine sw 18 (.int .i64 (((k:Int)+1))) rfl (RunV.int (x:=IntKind.i64.wrap (((k:Int)+1))) (y:=((k:Int)+1)) (rvk (by kernel_rfl)) (by first | rfl | (rw [IntKind.wrap_i64];omega))) ?_
    refine sv 4 (.int .i64 (((k:Int)+1))) ?_
    refine sq_nil ?_
    rw [dr_odd hb84] at L16
    replace L11:=st88.lc ((st86.lc ((st81.lc (L11.gr (gd73.trans (g74.trans (g75.trans (g76.trans (g77.trans g78)))))) ne11_79).gr g85) ne11_79).gr g87) ne11_16
    refine k20 (P+1 - (k+1)) ⟨List.toArray ?l89,[]⟩ _ (by omega) ?_
    exact ⟨k+1,(fun i=>List.getD ?l89 i undef),rfl,rfl,(by omega),L11,L16,hB⟩
   ·refine wp_skip ?_
    refine k82 _ _ ?_
    try clear k82 K82
    refine rg [0,1,2,3] ?_
    replace L16:=st81.lc (L16.gr (gd73.trans (g74.trans (g75.trans (g76.trans (g77.trans g78)))))) ne16_79
    refine sw 58 (.agg #[(.string ⟨(Lib.itoa (((dr P m k)).num):List UInt8).toArray⟩),(.string ⟨(Lib.itoa ((((dr P m k)).den:Int)):List UInt8).toArray⟩)]) rfl (rl 84 0 [(.string ⟨(Lib.itoa (((dr P m k)).num):List UInt8).toArray⟩),(.string ⟨(Lib.itoa ((((dr P m k)).den:Int)):List UInt8).toArray⟩)] L16) ?_
    refine sw 59 (.agg #[(.string ⟨(Lib.itoa ((((m 0 k)*(Dr P (mnr m k)))).num):List UInt8).toArray⟩),(.string ⟨(Lib.itoa (((((m 0 k)*(Dr P (mnr m k)))).den:Int)):List UInt8).toArray⟩)]) rfl (rl 84 0 [(.string ⟨(Lib.itoa ((((m 0 k)*(Dr P (mnr m k)))).num):List UInt8).toArray⟩),(.string ⟨(Lib.itoa (((((m 0 k)*(Dr P (mnr m k)))).den:Int)):List UInt8).toArray⟩)] L79) ?_
    refine se ?_
    refine ec 60 (f5_add ((dr P m k)) (((m 0 k)*(Dr P (mnr m k)))) (dr_z hP (by omega) hz) hpz (by omega) _) ?_
    rintro e90 w90 ⟨rfl,g90⟩
    refine ⟨_,rfl,?_⟩
    replace hB:=hB.trans g90
    replace hC:=hC.trans g90
    replace hE:=hE.trans g90
    simp only [p3,p4]
    refine se ?_
    replace L16:=L16.gr g90
    have lo91:=L16
    refine es 84 0 (.agg #[(.string ⟨(Lib.itoa ((((dr P m k)+((m 0 k)*(Dr P (mnr m k))))).num):List UInt8).toArray⟩),(.string ⟨(Lib.itoa (((((dr P m k)+((m 0 k)*(Dr P (mnr m k))))).den:Int)):List UInt8).toArray⟩)]) [(.string ⟨(Lib.itoa ((((dr P m k)+((m 0 k)*(Dr P (mnr m k))))).num):List UInt8).toArray⟩),(.string ⟨(Lib.itoa (((((dr P m k)+((m 0 k)*(Dr P (mnr m k))))).den:Int)):List UInt8).toArray⟩)] #[(.string ⟨(Lib.itoa ((((dr P m k)+((m 0 k)*(Dr P (mnr m k))))).num):List UInt8).toArray⟩),(.string ⟨(Lib.itoa (((((dr P m k)+((m 0 k)*(Dr P (mnr m k))))).den:Int)):List UInt8).toArray⟩)] L16 hB q16 ⟨rfl,rfl,trivial⟩ fun w91 st91 kp91 L16 hB=>?_
    refine sq_nil ?_
    refine k24 _ _ ?_
    try clear k24 K24
    refine rg [0,1,2] ?_
    refine sv 17 (.int .i64 ((k:Int))) ?_
    refine sw 18 (.int .i64 (((k:Int)+1))) rfl (RunV.int (x:=IntKind.i64.wrap (((k:Int)+1))) (y:=((k:Int)+1)) (rvk (by kernel_rfl)) (by first | rfl | (rw [IntKind.wrap_i64];omega))) ?_
    refine sv 4 (.int .i64 (((k:Int)+1))) ?_
    refine sq_nil ?_
    rw [dr_even hb84] at L16
    replace L11:=st91.lc ((st81.lc (L11.gr (gd73.trans (g74.trans (g75.trans (g76.trans (g77.trans g78)))))) ne11_79).gr g90) ne11_16
    refine k20 (P+1 - (k+1)) ⟨List.toArray ?l92,[]⟩ _ (by omega) ?_
    exact ⟨k+1,(fun i=>List.getD ?l92 i undef),rfl,rfl,(by omega),L11,L16,hB⟩
 ·have hek:P+1=k:=by have:=of_decide_eq_false hb23;omega
  refine wp_exit ?_
  simp only [Exit.then,Exit.inBlock,↓reduceIte]
  refine k18 _ _ ?_
  try clear k18 K18
  refine wp_seq_k (fun K93 k93=>?_)
  refine rg [0,1] ?_
  refine sw 61 (.agg #[(.string ⟨(Lib.itoa (((dr P m k)).num):List UInt8).toArray⟩),(.string ⟨(Lib.itoa ((((dr P m k)).den:Int)):List UInt8).toArray⟩)]) rfl (rl 84 0 [(.string ⟨(Lib.itoa (((dr P m k)).num):List UInt8).toArray⟩),(.string ⟨(Lib.itoa ((((dr P m k)).den:Int)):List UInt8).toArray⟩)] L16) ?_
  refine se ?_
  have lo94:=L11
  refine es 84 0 (.agg #[(.string ⟨(Lib.itoa (((dr P m k)).num):List UInt8).toArray⟩),(.string ⟨(Lib.itoa ((((dr P m k)).den:Int)):List UInt8).toArray⟩)]) [(.string ⟨(Lib.itoa (((dr P m k)).num):List UInt8).toArray⟩),(.string ⟨(Lib.itoa ((((dr P m k)).den:Int)):List UInt8).toArray⟩)] #[(.string ⟨(Lib.itoa (((dr P m k)).num):List UInt8).toArray⟩),(.string ⟨(Lib.itoa ((((dr P m k)).den:Int)):List UInt8).toArray⟩)] L11 hB q11 ⟨rfl,rfl,trivial⟩ fun w94 st94 kp94 L11 hB=>?_
  refine sq_nil ?_
  refine k93 _ _ ?_
  try clear k93 K93
  refine wp_ret ?_
  refine bodyPost_ret (v:=(.agg #[(.string ⟨(Lib.itoa (((dr P m k)).num):List UInt8).toArray⟩),(.string ⟨(Lib.itoa ((((dr P m k)).den:Int)):List UInt8).toArray⟩)])) (ret_cell _ _ _ rfl rfl L11 (by kernel_rfl)) rfl ⟨?_,hB⟩
  exact (by subst hek;rfl)

theorem f5_det:∀ (P:Nat),P≤5→∀ (v:Value) (m:Mx_) (w:World),Sl (ERw EFr 84 2) 51 1 w v (tb (fun z0=>tb (fun z1=>(m z0 z1)) P) P)→(∀ i,i<P→∀ j,j<P→RZ 8 3 (m i j))→Calls Tryz.prog 42 #[v] w fun e w'=>e=.returned ((.agg #[(.string ⟨(Lib.itoa (((Dr P m)).num):List UInt8).toArray⟩),(.string ⟨(Lib.itoa ((((Dr P m)).den:Int)):List UInt8).toArray⟩)]))∧Gr w w'
  | 0,_,_,_,_,hs,_=>f5_det_0 hs
  | P+1,hP,_,_,_,hs,hz=>f5_det_s (by omega) (fun v m w=>f5_det P (by omega) v m w) hz hs
set_option maxRecDepth 100000 in
set_option maxHeartbeats 2000000 in
theorem scale_c (ao:Option Addr) (la ca:Nat) (m x p:Int) (w:World) (hla:la≤900000) (ha:Mag w ao la ca m) (hx0:0≤x) (hx1:x<4294967296) (hp0:0≤p) (hp1:p<4294967296):
    Calls Tryz.prog 157 #[.slice ao la ca,.int .u32 x,.int .u32 p] w fun e w'=>(∃ go k cap,e=.returned (.slice go k cap)∧Mag w' go k cap (m*x+p)∧k≤la+1)∧Gr w w':=by
  go_enter Tryz.func157,Tryz.ntmps157
  go_wp2_with (at_make;refine wpList_make32 _ rfl _ _ rfl _ _ (la+1) rfl rfl (by omega) (by omega) (by omega) ?_)
  intro w1 hO hB hsz
  go_wp2
  go_loopw [8,19] (fun c i wr=>∃ (k:Nat) (cr:Int) (d:Nat→Int),k≤la∧i=.int .i64 k∧c=.int .u64 cr∧0≤cr∧cr<4294967296∧Hid (hi (m*x+p) k=hi m k*x+cr)∧Below w.heap.size w wr∧
      Own wr w.heap.size (la+1) d∧Hid (∀ j,j<k→d j=dg (m*x+p) j)) (fun _ i _=>la - (intOf i).toNat)
  case atStart=>exact ⟨0,p,_,Nat.zero_le _,rfl,rfl,hp0,hp1,by simp [Hid,hi_zero],hB,hO,fun j hj=>by omega⟩
  case round=>
    obtain ⟨k,cr,d,hk,rfl,rfl,hc0,hc1,hz,hB,hO,hd⟩:=hrel
    by_cases hlt:k<la
    · obtain ⟨b1,off1,rfl,hcs1⟩:=(ha.row.below hB).at_ (by omega)
      have hcell1:=hcs1 k hlt
      clear hcs1
      have d0:=dg_nonneg m k
      have d1:=dg_lt m k
      have hcell3:=hO.cell k (by omega)
      have hfree:=hO.free k
      have hs:=scale_step hz.out hc0 hc1 hx0 hx1
      have z0:=hs.2.2.2.2.1
      have z1:=hs.2.2.2.2.2
      have z2:dg m k*x≤18446744065119617025:=by
        have:=Int.mul_le_mul (show dg m k≤4294967295 by omega) (show x≤4294967295 by omega) hx0 (by omega)
        omega
      have HS:=Lib.hid hs
      clear hs
      go_wp2
      have hs:=HS.out
      go_roundw
      case rel=>
        refine ⟨k+1,_,_,by omega,by go_num,rfl,hs.2.2.1,hs.2.2.2.1,hs.2.1,hB.setCell (Nat.le_refl _) _,hO.set (by omega) _,fun j hj=>?_⟩
        by_cases e:j=k
        · subst e;rw [upd_same,hs.1]
        · rw [upd_other _ _ e];exact hd.out j (by omega)
      case measure=>simp [intOf];omega
    · obtain rfl:k=la:=by omega
      have hcell3:=hO.cell k (by omega)
      have hfree:=hO.free k
      have hm0:0≤m*x+p:=by have:=Int.mul_nonneg ha.nl.nonneg hx0;omega
      have htop:hi (m*x+p) (k+1)=0:=by
        have h1:=hz.out
        rw [ha.nl.top,Int.zero_mul] at h1
        rw [hi_succ];omega
      have hdk:dg (m*x+p) k=cr:=by
        have h1:=hz.out
        rw [ha.nl.top,Int.zero_mul] at h1
        unfold dg;omega
      have HT:=Lib.hid htop
      have HD:=Lib.hid hdk
      clear htop hdk
      go_wp2_with fail
      have hO2:=(hO.set (Nat.lt_succ_self k) cr).congr (d':=dg (m*x+p)) (fun j hj=>by
        by_cases e:j=k
        · subst e;rw [upd_same,HD.out]
        · rw [upd_other _ _ e];exact hd.out j (by omega))
      refine (trim_c _ _ _ (m*x+p) _ (by omega) (Nat.le_refl _) hm0 HT.out hO2.row).mono ?_
      rintro e w3 ⟨⟨n,rfl,hm,hn⟩,rfl⟩
      go_wp2
      go_ret
      exact ⟨⟨_,_,_,rfl,hm,hn⟩,hB.setCell (Nat.le_refl _) _⟩
theorem valL_from (l:List UInt8):∀ acc:Nat,l.foldl (fun a c=>a*10+(c.toNat - 48)) acc=acc*10 ^ l.length+valL l:=by
  induction l with
  | nil=>intro acc;simp [valL]
  | cons c l ih=>
    intro acc
    have hv:valL (c::l)=(c.toNat - 48)*10 ^ l.length+valL l:=by
      show l.foldl _ (0*10+(c.toNat - 48))=_
      rw [ih];simp
    rw [List.foldl_cons,ih,hv,List.length_cons,Nat.pow_succ,Nat.add_mul]
    have:acc*10*10 ^ l.length=acc*(10 ^ l.length*10):=by grind
    omega
theorem valL_append (a b:List UInt8):valL (a++b)=valL a*10 ^ b.length+valL b:=by
  show (a++b).foldl _ 0=_
  rw [List.foldl_append,valL_from];rfl
theorem valL_lt (l:List UInt8) (h:∀ c ∈ l,48≤c.toNat∧c.toNat≤57):valL l<10 ^ l.length:=by
  induction l with
  | nil=>simp [valL]
  | cons c l ih=>
    have h1:=valL_append [c] l
    have h2:=ih (fun x hx=>h x (by simp [hx]))
    have h3:=h c (by simp)
    have h4:valL [c]≤9:=by simp [valL];omega
    rw [List.singleton_append] at h1
    rw [h1,List.length_cons,Nat.pow_succ]
    have:=Nat.mul_le_mul_right (10 ^ l.length) h4
    omega
theorem parseM:∀ (l:List UInt8) (acc:Nat),(∀ c ∈ l,48≤c.toNat∧c.toNat≤57)→acc*10 ^ l.length+10 ^ l.length≤1000000000→Lib.parseUintM (2 ^ 32 - 1) acc l=.ok (acc*10 ^ l.length+valL l)
  | [],acc,_,_=>by simp [Lib.parseUintM,valL]
  | c::l,acc,h,hb=>by
    have hc:=h c (by simp)
    have hp:0<10 ^ l.length:=Nat.pow_pos (by omega)
    rw [List.length_cons,Nat.pow_succ] at hb
    have h1:(acc+1)*(10 ^ l.length*10)≤1000000000:=by rw [Nat.add_mul];omega
    have h2:(acc+1)*10≤1000000000:=by
      have:(acc+1)*10≤(acc+1)*(10 ^ l.length*10):=Nat.mul_le_mul_left _ (by omega)
      omega
    have e:acc*(10 ^ l.length*10)=acc*10*10 ^ l.length:=by grind
    have h3:(c.toNat - 48)*10 ^ l.length≤9*10 ^ l.length:=Nat.mul_le_mul_right _ (by omega)
    have ih:=parseM l (acc*10+(c.toNat - 48)) (fun x hx=>h x (by simp [hx])) (by rw [Nat.add_mul];omega)
    unfold Lib.parseUintM
    rw [if_pos hc,if_neg (by omega),if_neg (by omega),ih]
    have h5:=valL_append [c] l
    rw [List.singleton_append] at h5
    have h6:valL [c]=c.toNat - 48:=by simp [valL]
    rw [h5,h6,List.length_cons,Nat.pow_succ,Nat.add_mul,e]
    congr 1
    omega
theorem parse32 {l:List UInt8} (h:∀ c ∈ l,48≤c.toNat∧c.toNat≤57) (h0:l≠[]) (h9:l.length≤9):Lib.parseUintB 32 l=.ok (valL l):=by
  unfold Lib.parseUintB
  rw [if_neg h0,parseM l 0 h (by
    have:10 ^ l.length≤10 ^ 9:=Nat.pow_le_pow_right (by omega) h9
    omega)]
  simp
theorem parse_uint (R:ByteArray) (h:∀ c ∈ R.data.toList,48≤c.toNat∧c.toNat≤57) (h0:0<R.size) (h9:R.size≤9) (w:World):
    Calls Tryz.prog 156 #[.string R,.int .i64 10,.int .i64 32] w fun e w'=>e=.returned (.tuple #[.int .u64 (valL R.data.toList:Int),.nilIface])∧Gr w w':=by
  have hl:R.data.toList.length=R.size:=by simp
  refine (Tryz.strconv_ParseUint_10_at32_ok R (by omega) (valL R.data.toList) (parse32 h (fun e=>by rw [e] at hl;simp at hl;omega) (by omega)) w).mono ?_
  rintro e w1 ⟨he,hw⟩
  refine ⟨he,?_⟩
  rcases hw with rfl | rfl
  · exact Gr.refl _
  · exact Go.Joins.below_bytesWorld _ _ _ _ (Nat.le_refl _)
/-- the closure:is it no digit? -/
theorem nodigit (x:Nat) (w:World):Calls Tryz.prog 155 #[.int .i32 (x:Int)] w fun e w'=>e=.returned (.bool (decide (x<48)||decide (57<x)))∧∃ q,w'=w.drewN q:=by
  by_cases h1:(x:Int)<48
  · have e1:decide (x<48)=true:=by simp;omega
    have E:=Lib.hid e1
    clear e1
    go_enter Tryz.func155,Tryz.ntmps155
    go_wp2
    go_ret
    exact ⟨by rw [E.out];rfl,0,rfl⟩
  · have e1:decide (x<48)=false:=by simp;omega
    by_cases h2:57<(x:Int)
    · have e2:(decide (x<48)||decide (57<x))=true:=by simp;omega
      have E:=Lib.hid e2
      clear e1 e2
      go_enter Tryz.func155,Tryz.ntmps155
      go_wp2
      go_ret
      exact ⟨by rw [E.out];rfl,0,rfl⟩
    · have e2:(decide (x<48)||decide (57<x))=false:=by simp;omega
      have E:=Lib.hid e2
      clear e1 e2
      go_enter Tryz.func155,Tryz.ntmps155
      go_wp2
      go_ret
      exact ⟨by rw [E.out];rfl,0,rfl⟩
theorem idx_none {D:ByteArray} (h:∀ c ∈ D.data.toList,48≤c.toNat∧c.toNat≤57):∀ (f pos:Nat),Lib.idxFuncFrom (fun x=>decide (x<48)||decide (57<x)) true D f pos=-1
  | 0,_=>rfl
  | f+1,pos=>by
    unfold Lib.idxFuncFrom
    by_cases hp:pos<D.size
    · have hc:=h D[pos] (List.mem_of_getElem? (toList_get hp))
      rw [if_pos hp,decode_ascii D pos hp (by omega),if_neg (by simp;omega)]
      exact idx_none h f _
    · rw [if_neg hp]
theorem contains_no (D:ByteArray) (h:∀ c ∈ D.data.toList,48≤c.toNat∧c.toNat≤57) (w:World):
    Calls Tryz.prog 154 #[.string D,.func (.func 155) #[] #[]] w fun e w'=>e=.returned (.bool false)∧Gr w w':=by
  refine (Tryz.strings_ContainsFunc 155 #[] (enters_of Tryz.func155 (by kernel_rfl) rfl) (fun x=>decide (x<48)||decide (57<x)) D w (fun W x _=>nodigit x W)).mono ?_
  rintro e w1 ⟨he,hb⟩
  refine ⟨?_,hb⟩
  rw [he]
  unfold Lib.idxFunc
  rw [idx_none h]
  rfl
theorem cut_minus (z:Int) (w:World):Calls Tryz.prog 153 #[.string ⟨(Lib.itoa z).toArray⟩,.string ⟨#[45]⟩] w fun e w'=>
    e=.returned (.tuple #[.string ⟨(Lib.decDigits z.natAbs).toArray⟩,.bool (decide (z<0))])∧w=w':=by
  refine (Tryz.strings_CutPrefix _ _ _).mono ?_
  rintro e w1 ⟨he,rfl⟩
  refine ⟨?_,rfl⟩
  rw [he]
  show Ending.returned (.tuple #[.string ⟨(Lib.trimPrefix (Lib.itoa z) [45]).toArray⟩,.bool (Lib.hasPrefix (Lib.itoa z) [45])])=_
  by_cases h:z<0
  · have h1:Lib.hasPrefix (Lib.itoa z) [45]=true:=by rw [itoa_neg h];simp [Lib.hasPrefix]
    rw [Lib.trimPrefix,h1,if_pos rfl,itoa_neg h,decide_eq_true h];rfl
  · have h1:Lib.hasPrefix (Lib.itoa z) [45]=false:=by
      rw [itoa_nonneg (by omega)]
      rcases hd:Lib.decDigits z.natAbs with _ | ⟨c,l⟩
      · rfl
      · have hc:=dec_all z.natAbs c (by rw [hd];simp)
        have hne:¬ (45:UInt8)=c:=fun e=>by rw [← e] at hc;simp at hc
        simp [Lib.hasPrefix,List.isPrefixOf,hne]
    rw [Lib.trimPrefix,h1,if_neg (by decide),itoa_nonneg (by omega),decide_eq_false h]
def strSize (v:Value):Nat:=match v with | .string s=>s.size | _=>0
theorem extract_take (R:ByteArray) (q:Nat):(R.extract 0 q).data.toList=R.data.toList.take q:=by rw [Lib.extract_data];simp
theorem extract_drop (R:ByteArray) (q:Nat):(R.extract q R.size).data.toList=R.data.toList.drop q:=by
  rw [Lib.extract_data,List.take_of_length_le];simp
set_option maxRecDepth 100000 in
set_option maxHeartbeats 4000000 in
theorem parse_i {k:Nat} (z:Int) (hz:Sz k z) (hk:k≤60000) (w:World):
    Calls Tryz.prog 129 #[.string ⟨(Lib.itoa z).toArray⟩] w fun e w'=>(∃ x y,e=.returned (.tuple #[.agg #[x,y],.int .i64 0])∧IsInt w' k x y z)∧Gr w w':=by
  obtain ⟨n,hn⟩:∃ n,n=z.natAbs:=⟨_,rfl⟩
  have hnk:n<2 ^ k:=by rw [hn];exact hz
  have hlen:=dec_len_bits k n hnk
  have hit:(Lib.itoa z).length≤k+2:=by
    by_cases h:z<0
    · rw [itoa_neg h,← hn];simp;omega
    · rw [itoa_nonneg (by omega),← hn];omega
  obtain ⟨s,hs⟩:∃ s:ByteArray,s=⟨(Lib.itoa z).toArray⟩:=⟨_,rfl⟩
  have hss:s.size≤65536:=by rw [hs];show (Lib.itoa z).toArray.size≤_;simp;omega
  obtain ⟨D,hD⟩:∃ D:ByteArray,D=⟨(Lib.decDigits n).toArray⟩:=⟨_,rfl⟩
  have HD:Hid (D.data.toList=Lib.decDigits n):=by rw [Hid,hD]
  have hDs:D.size=(Lib.decDigits n).length:=by rw [hD];show (Lib.decDigits n).toArray.size=_;simp
  have hD0:0<D.size:=by rw [hDs];exact dec_pos n
  have hD1:D.size≤60001:=by omega
  have hc:=cut_minus z (w.alloc (.cells #[.bool false,.slice none 0 0] 69))
  rw [← hn,← hD,← hs] at hc
  have hda:∀ c ∈ D.data.toList,48≤c.toNat∧c.toNat≤57:=by rw [HD.out];exact dec_all n
  have hcn:=contains_no D hda
  have hne:(D.toList==[])=false:=by
    rw [beq_eq_false_iff_ne,ByteArray.toList_eq,HD.out];exact dec_ne' n
  have hz0:(D[0].toNat:Int)=48→D.size=1∧n=0:=by
    intro h
    rcases Nat.eq_zero_or_pos n with e | e
    · rw [hDs,e];exact ⟨by rw [dec_zero];rfl,rfl⟩
    · obtain ⟨c,hc1,hc2,_⟩:=dec_head e
      have:=getElem_toList HD.out hD0 hc1
      rw [this] at h
      omega
  have HN:=Lib.hid hn
  have HZ0:=Lib.hid hz0
  have HDa:=Lib.hid hda
  have HDs:=Lib.hid hDs
  have HS:=Lib.hid hs
  rw [← hs]
  clear hn hz0 hda hDs hD hit hs
  go_enter Tryz.func129,Tryz.ntmps129
  go_wp2_with fail
  (with_reducible refine hc.mono ?_)
  rintro e w1 ⟨rfl,rfl⟩
  clear hc
  go_wp2_with fail
  (with_reducible refine (hcn _).mono ?_)
  rintro e w2 ⟨rfl,g2⟩
  clear hcn
  by_cases h48:(D[0].toNat:Int)=48
  · have hzz:=HZ0.out h48
    have hz1:¬ (1:Int)<(D.size:Int):=by omega
    have hz2:¬ z<0:=by have:=HN.out;omega
    have h48':((D[0].toNat:Int)==48)=true:=by simpa using h48
    clear h48 hzz
    go_wp2
    go_loopw [4,6] (fun r m wr=>∃ (R:ByteArray) (V:Nat) (mo:Option Addr) (ml mc:Nat),r=.string R∧m=.slice mo ml mc∧ml≤k∧R.size≤60001∧Hid (Mag wr mo ml mc (V:Int)∧(∀ c ∈ R.data.toList,48≤c.toNat∧c.toNat≤57)∧V*10 ^ R.size+valL R.data.toList=n)∧Gr (w.alloc (.cells #[.bool false,.slice none 0 0] 69)) wr) (fun r _ _=>strSize r)
    case atStart=>exact ⟨D,0,none,0,0,rfl,rfl,by omega,hD1,⟨⟨Nat.le_refl _,NL.zero,Row.nil _ _ _⟩,HDa.out,by rw [HD.out,valL_dec];simp⟩,g2⟩
    case round=>
      obtain ⟨R,V,mo,ml,mc,rfl,rfl,hml,hR1,hh,hG⟩:=hrel
      by_cases hp:0<R.size
      · obtain ⟨q,hq⟩:∃ q:Nat,q=(R.size - 1) % 9+1:=⟨_,rfl⟩
        have hq9:q≤9:=by omega
        have hq0:0<q:=by omega
        have hqR:q≤R.size:=by omega
        have hqe:((R.size:Int) - 1) % 9+1=(q:Int):=by omega
        have HQ:=Lib.hid hq
        clear hq
        go_wp2
        obtain ⟨wo,hwo⟩:∃ wo:World,wo=wr:=⟨_,rfl⟩
        subst hwo
        go_loopw [8,48] (fun b i wq=>∃ (j:Nat) (x:Int),b=.int .u32 x∧i=.int .i64 j∧j≤q∧1≤x∧x≤1000000000∧Hid (x=10 ^ j)∧wq=wo) (fun _ i _=>q - (intOf i).toNat)
        case atStart=>exact ⟨0,1,rfl,rfl,by omega,by omega,by omega,rfl,rfl⟩
        case round=>
          obtain ⟨j,x,rfl,rfl,hj,hx0,hx1,hx,rfl⟩:=hrel
          by_cases hlt:j<q
          · have hx8:x≤100000000:=by
              rw [hx.out]
              have h8:(10:Nat) ^ j≤100000000:=Nat.le_trans (Nat.pow_le_pow_right (by omega) (show j≤8 by omega)) (by decide)
              have h9:=Int.ofNat_le.2 h8
              rw [Int.natCast_pow] at h9
              exact h9
            go_wp2
            go_roundw
            case rel=>exact ⟨j+1,x*10,rfl,by go_num,by omega,by omega,by omega,by rw [Hid,hx.out,Int.pow_succ],by first | rfl | trivial⟩
            case measure=>simp [intOf];omega
          · obtain rfl:j=q:=by omega
            obtain ⟨T,hT⟩:∃ T,R.extract 0 j=T:=⟨_,rfl⟩
            obtain ⟨U,hU⟩:∃ U,R.extract j R.size=U:=⟨_,rfl⟩
            have hTl:T.data.toList=R.data.toList.take j:=by rw [← hT,extract_take]
            have hUl:U.data.toList=R.data.toList.drop j:=by rw [← hU,extract_drop]
            have hRl:R.data.toList.length=R.size:=by simp
            have hTs:T.size=j:=by
              have h1:=congrArg List.length hTl
              rw [List.length_take,hRl] at h1
              have h2:T.data.toList.length=T.size:=by simp
              omega
            have hUs:U.size=R.size - j:=by
              have h1:=congrArg List.length hUl
              rw [List.length_drop,hRl] at h1
              have h2:U.data.toList.length=U.size:=by simp
              omega
            obtain ⟨hm,hda,hval⟩:=hh.out
            have hTd:∀ c ∈ T.data.toList,48≤c.toNat∧c.toNat≤57:=fun c hc=>hda c (by rw [hTl] at hc;exact List.mem_of_mem_take hc)
            have hUd:∀ c ∈ U.data.toList,48≤c.toNat∧c.toNat≤57:=fun c hc=>hda c (by rw [hUl] at hc;exact List.mem_of_mem_drop hc)
            obtain ⟨u,hu⟩:∃ u,u=valL T.data.toList:=⟨_,rfl⟩
            have hu1:u<1000000000:=by
              have h1:=valL_lt _ hTd
              have h2:T.data.toList.length=T.size:=by simp
              rw [h2,hTs] at h1
              have:(10:Nat) ^ j≤10 ^ 9:=Nat.pow_le_pow_right (by omega) hq9
              omega
            have hval2:(V*10 ^ j+u)*10 ^ U.size+valL U.data.toList=n:=by
              have h1:=valL_append (R.data.toList.take j) (R.data.toList.drop j)
              rw [List.take_append_drop,← hTl,← hUl] at h1
              have h2:U.data.toList.length=U.size:=by simp
              rw [h1,h2,← hu,show R.size=j+U.size by omega,Nat.pow_add] at hval
              rw [← hval];grind
            have hVk:V*10 ^ j+u<2 ^ k:=by
              have h1:V*10 ^ j+u≤(V*10 ^ j+u)*10 ^ U.size:=Nat.le_mul_of_pos_right _ (Nat.pow_pos (by omega))
              omega
            have hpu:=parse_uint T hTd (by omega) (by omega)
            rw [← hu] at hpu
            have HV2:=Lib.hid hval2
            have HVk:=Lib.hid hVk
            have HUd:=Lib.hid hUd
            have HX:=hx
            have hTs1:T.size≤9:=by omega
            have hUs1:U.size<R.size:=by omega
            have hUs2:U.size≤60001:=by omega
            clear hTl hUl hRl hTd hUd hda hval hval2 hVk hu hTs hUs hqe
            have hu2:(u:Int)<1000000000:=by omega
            go_wp2_with fail
            (with_reducible refine (hpu _).mono ?_)
            rintro e w5 ⟨rfl,g5⟩
            clear hpu
            go_wp2_with fail
            (with_reducible refine (scale_c mo ml mc (V:Int) x (u:Int) _ (by omega) (hm.kp g5.kp) (by omega) (by omega) (by omega) (by omega)).mono ?_)
            rintro e w6 ⟨⟨go,k6,c6,rfl,hm6,hk6⟩,g6⟩
            have hm7:Mag w6 go k6 c6 ((V*10 ^ j+u:Nat):Int):=by
              rw [HX.out] at hm6
              have e:((V*10 ^ j+u:Nat):Int)=(V:Int)*10 ^ j+(u:Int):=by push_cast;rfl
              rw [e];exact hm6
            have hk7:k6≤k:=hm7.nl.len_sz (show Sz k _ by unfold Sz;rw [Int.natAbs_natCast];exact HVk.out)
            clear hm6
            go_wp2
            go_roundw
            case rel=>exact ⟨U,V*10 ^ j+u,go,k6,c6,rfl,rfl,hk7,hUs2,⟨hm7,HUd.out,HV2.out⟩,(hG.trans g5).trans g6⟩
            case measure=>simp [strSize];omega
      · have hR0:R.size=0:=by omega
        obtain ⟨hm,hda,hval⟩:=hh.out
        have hVn:V=n:=by
          have h2:R.data.toList.length=R.size:=by simp
          have h1:R.data.toList=[]:=List.length_eq_zero_iff.1 (by rw [h2];exact hR0)
          rw [h1,hR0] at hval
          simpa [valL] using hval
        rw [hVn] at hm
        have HR0:=Lib.hid hR0
        clear hR0 hda hval hh hVn
        have p2:=Gr.heap hG (heap_alloc_new w (.cells #[.bool false,.slice none 0 0] 69))
        go_wp2_with fail
        (with_reducible refine (signed_c (decide (z<0)) mo ml mc (n:Int) _ (by omega) hm.cap hm.nl.nonneg hm.nl.top hm.row).mono ?_)
        rintro e w5 ⟨⟨k5,rfl,hm5,hk5⟩,g5⟩
        have p3:=Gr.heap g5 p2
        have d0:=cells_of p3 0
        have d1:=cells_of p3 1
        have d2:=free_of p3
        have gw3:Gr w w5:=(Gr.alloc w _).trans (hG.trans g5)
        have hint:=IsInt.mk' (z:=z) (s:=decide (z<0)) (k:=k) (hm5.gr g5) (by rw [HN.out]) (fun _=>rfl) hz
        obtain ⟨bb,hbb⟩:∃ bb,bb=(decide (z<0)&&decide (0<k5)):=⟨_,rfl⟩
        rw [← hbb] at hint ⊢
        clear hbb hm hm5 p2
        go_wp2
        have p4:=heap_setCell_at (i:=1) (.slice mo k5 mc) (heap_setCell_at (i:=0) (.bool bb) p3)
        have hst:=(St.setCell w5 w.heap.size 0 (.bool bb)).trans (St.setCell _ w.heap.size 1 (.slice mo k5 mc))
        exact bodyPost_ret (v:=.tuple #[.agg #[.bool bb,.slice mo k5 mc],.int .i64 0]) (ret_cell_tmp' _ _ _ rfl rfl p4 (by kernel_rfl) rfl) rfl ⟨⟨_,_,rfl,hint.kp (hst.kp p3 (by decide))⟩,hst.gr gw3 (Nat.le_refl _)⟩
  · have h48':((D[0].toNat:Int)==48)=false:=by simpa using h48
    clear h48
    go_wp2
    go_loopw [4,6] (fun r m wr=>∃ (R:ByteArray) (V:Nat) (mo:Option Addr) (ml mc:Nat),r=.string R∧m=.slice mo ml mc∧ml≤k∧R.size≤60001∧Hid (Mag wr mo ml mc (V:Int)∧(∀ c ∈ R.data.toList,48≤c.toNat∧c.toNat≤57)∧V*10 ^ R.size+valL R.data.toList=n)∧Gr (w.alloc (.cells #[.bool false,.slice none 0 0] 69)) wr) (fun r _ _=>strSize r)
    case atStart=>exact ⟨D,0,none,0,0,rfl,rfl,by omega,hD1,⟨⟨Nat.le_refl _,NL.zero,Row.nil _ _ _⟩,HDa.out,by rw [HD.out,valL_dec];simp⟩,g2⟩
    case round=>
      obtain ⟨R,V,mo,ml,mc,rfl,rfl,hml,hR1,hh,hG⟩:=hrel
      by_cases hp:0<R.size
      · obtain ⟨q,hq⟩:∃ q:Nat,q=(R.size - 1) % 9+1:=⟨_,rfl⟩
        have hq9:q≤9:=by omega
        have hq0:0<q:=by omega
        have hqR:q≤R.size:=by omega
        have hqe:((R.size:Int) - 1) % 9+1=(q:Int):=by omega
        have HQ:=Lib.hid hq
        clear hq
        go_wp2
        obtain ⟨wo,hwo⟩:∃ wo:World,wo=wr:=⟨_,rfl⟩
        subst hwo
        go_loopw [8,48] (fun b i wq=>∃ (j:Nat) (x:Int),b=.int .u32 x∧i=.int .i64 j∧j≤q∧1≤x∧x≤1000000000∧Hid (x=10 ^ j)∧wq=wo) (fun _ i _=>q - (intOf i).toNat)
        case atStart=>exact ⟨0,1,rfl,rfl,by omega,by omega,by omega,rfl,rfl⟩
        case round=>
          obtain ⟨j,x,rfl,rfl,hj,hx0,hx1,hx,rfl⟩:=hrel
          by_cases hlt:j<q
          · have hx8:x≤100000000:=by
              rw [hx.out]
              have h8:(10:Nat) ^ j≤100000000:=Nat.le_trans (Nat.pow_le_pow_right (by omega) (show j≤8 by omega)) (by decide)
              have h9:=Int.ofNat_le.2 h8
              rw [Int.natCast_pow] at h9
              exact h9
            go_wp2
            go_roundw
            case rel=>exact ⟨j+1,x*10,rfl,by go_num,by omega,by omega,by omega,by rw [Hid,hx.out,Int.pow_succ],by first | rfl | trivial⟩
            case measure=>simp [intOf];omega
          · obtain rfl:j=q:=by omega
            obtain ⟨T,hT⟩:∃ T,R.extract 0 j=T:=⟨_,rfl⟩
            obtain ⟨U,hU⟩:∃ U,R.extract j R.size=U:=⟨_,rfl⟩
            have hTl:T.data.toList=R.data.toList.take j:=by rw [← hT,extract_take]
            have hUl:U.data.toList=R.data.toList.drop j:=by rw [← hU,extract_drop]
            have hRl:R.data.toList.length=R.size:=by simp
            have hTs:T.size=j:=by
              have h1:=congrArg List.length hTl
              rw [List.length_take,hRl] at h1
              have h2:T.data.toList.length=T.size:=by simp
              omega
            have hUs:U.size=R.size - j:=by
              have h1:=congrArg List.length hUl
              rw [List.length_drop,hRl] at h1
              have h2:U.data.toList.length=U.size:=by simp
              omega
            obtain ⟨hm,hda,hval⟩:=hh.out
            have hTd:∀ c ∈ T.data.toList,48≤c.toNat∧c.toNat≤57:=fun c hc=>hda c (by rw [hTl] at hc;exact List.mem_of_mem_take hc)
            have hUd:∀ c ∈ U.data.toList,48≤c.toNat∧c.toNat≤57:=fun c hc=>hda c (by rw [hUl] at hc;exact List.mem_of_mem_drop hc)
            obtain ⟨u,hu⟩:∃ u,u=valL T.data.toList:=⟨_,rfl⟩
            have hu1:u<1000000000:=by
              have h1:=valL_lt _ hTd
              have h2:T.data.toList.length=T.size:=by simp
              rw [h2,hTs] at h1
              have:(10:Nat) ^ j≤10 ^ 9:=Nat.pow_le_pow_right (by omega) hq9
              omega
            have hval2:(V*10 ^ j+u)*10 ^ U.size+valL U.data.toList=n:=by
              have h1:=valL_append (R.data.toList.take j) (R.data.toList.drop j)
              rw [List.take_append_drop,← hTl,← hUl] at h1
              have h2:U.data.toList.length=U.size:=by simp
              rw [h1,h2,← hu,show R.size=j+U.size by omega,Nat.pow_add] at hval
              rw [← hval];grind
            have hVk:V*10 ^ j+u<2 ^ k:=by
              have h1:V*10 ^ j+u≤(V*10 ^ j+u)*10 ^ U.size:=Nat.le_mul_of_pos_right _ (Nat.pow_pos (by omega))
              omega
            have hpu:=parse_uint T hTd (by omega) (by omega)
            rw [← hu] at hpu
            have HV2:=Lib.hid hval2
            have HVk:=Lib.hid hVk
            have HUd:=Lib.hid hUd
            have HX:=hx
            have hTs1:T.size≤9:=by omega
            have hUs1:U.size<R.size:=by omega
            have hUs2:U.size≤60001:=by omega
            clear hTl hUl hRl hTd hUd hda hval hval2 hVk hu hTs hUs hqe
            have hu2:(u:Int)<1000000000:=by omega
            go_wp2_with fail
            (with_reducible refine (hpu _).mono ?_)
            rintro e w5 ⟨rfl,g5⟩
            clear hpu
            go_wp2_with fail
            (with_reducible refine (scale_c mo ml mc (V:Int) x (u:Int) _ (by omega) (hm.kp g5.kp) (by omega) (by omega) (by omega) (by omega)).mono ?_)
            rintro e w6 ⟨⟨go,k6,c6,rfl,hm6,hk6⟩,g6⟩
            have hm7:Mag w6 go k6 c6 ((V*10 ^ j+u:Nat):Int):=by
              rw [HX.out] at hm6
              have e:((V*10 ^ j+u:Nat):Int)=(V:Int)*10 ^ j+(u:Int):=by push_cast;rfl
              rw [e];exact hm6
            have hk7:k6≤k:=hm7.nl.len_sz (show Sz k _ by unfold Sz;rw [Int.natAbs_natCast];exact HVk.out)
            clear hm6
            go_wp2
            go_roundw
            case rel=>exact ⟨U,V*10 ^ j+u,go,k6,c6,rfl,rfl,hk7,hUs2,⟨hm7,HUd.out,HV2.out⟩,(hG.trans g5).trans g6⟩
            case measure=>simp [strSize];omega
      · have hR0:R.size=0:=by omega
        obtain ⟨hm,hda,hval⟩:=hh.out
        have hVn:V=n:=by
          have h2:R.data.toList.length=R.size:=by simp
          have h1:R.data.toList=[]:=List.length_eq_zero_iff.1 (by rw [h2];exact hR0)
          rw [h1,hR0] at hval
          simpa [valL] using hval
        rw [hVn] at hm
        have HR0:=Lib.hid hR0
        clear hR0 hda hval hh hVn
        have p2:=Gr.heap hG (heap_alloc_new w (.cells #[.bool false,.slice none 0 0] 69))
        go_wp2_with fail
        (with_reducible refine (signed_c (decide (z<0)) mo ml mc (n:Int) _ (by omega) hm.cap hm.nl.nonneg hm.nl.top hm.row).mono ?_)
        rintro e w5 ⟨⟨k5,rfl,hm5,hk5⟩,g5⟩
        have p3:=Gr.heap g5 p2
        have d0:=cells_of p3 0
        have d1:=cells_of p3 1
        have d2:=free_of p3
        have gw3:Gr w w5:=(Gr.alloc w _).trans (hG.trans g5)
        have hint:=IsInt.mk' (z:=z) (s:=decide (z<0)) (k:=k) (hm5.gr g5) (by rw [HN.out]) (fun _=>rfl) hz
        obtain ⟨bb,hbb⟩:∃ bb,bb=(decide (z<0)&&decide (0<k5)):=⟨_,rfl⟩
        rw [← hbb] at hint ⊢
        clear hbb hm hm5 p2
        go_wp2
        have p4:=heap_setCell_at (i:=1) (.slice mo k5 mc) (heap_setCell_at (i:=0) (.bool bb) p3)
        have hst:=(St.setCell w5 w.heap.size 0 (.bool bb)).trans (St.setCell _ w.heap.size 1 (.slice mo k5 mc))
        exact bodyPost_ret (v:=.tuple #[.agg #[.bool bb,.slice mo k5 mc],.int .i64 0]) (ret_cell_tmp' _ _ _ rfl rfl p4 (by kernel_rfl) rfl) rfl ⟨⟨_,_,rfl,hint.kp (hst.kp p3 (by decide))⟩,hst.gr gw3 (Nat.le_refl _)⟩
theorem idx_slash:∀ (l:List UInt8),Lib.index l [47]=(match (cutL l).2 with | none=>-1 | some _=>((cutL l).1.length:Int))
  | []=>rfl
  | c::l=>by
    have ih:=idx_slash l
    unfold Lib.index
    by_cases h:c=47
    · subst h
      have e:cutL (47::l)=([],some l):=by simp [cutL]
      rw [e]
      simp [List.isPrefixOf]
    · have e:cutL (c::l)=(c::(cutL l).1,(cutL l).2):=by
        conv=>lhs;unfold cutL
        rw [if_neg h]
      have h2:¬ (47:UInt8)=c:=fun x=>h x.symm
      have h3:[47].isPrefixOf (c::l)=false:=by simp [List.isPrefixOf,h2]
      rw [e,h3,ih]
      cases hd:(cutL l).2 with
      | none=>simp
      | some d=>
        have:¬ (((cutL l).1.length:Int)==-1)=true:=by simp
        simp [this]
theorem cut_slash (l:List UInt8):Lib.cut l [47]=(numL l,((cutL l).2.getD [],(cutL l).2.isSome)):=by
  have h1:=idx_slash l
  have h2:=cutL_eq l
  unfold Lib.cut numL
  cases hd:(cutL l).2 with
  | none=>
    rw [hd] at h1 h2;dsimp only at h1 h2
    rw [h1,if_neg (by omega)]
    simp [← h2]
  | some d=>
    rw [hd] at h1 h2;dsimp only at h1 h2
    rw [h1,if_pos (Int.natCast_nonneg _)]
    generalize (cutL l).1=a at*
    subst h2
    simp
/-- the variable of the library's that says how long a short search is holds some int -/
def Mx (w:World):Prop:=∃ m:Int,w.cell? ⟨0,0,none⟩=some (.int .i64 m)
theorem Mx.gr {w w':World} (h:Mx w) (g:Gr w w'):Mx w':=by
  obtain ⟨m,hm⟩:=h
  exact ⟨m,(Below.cell g (World.block_lt_of_cell? w _ hm)).trans hm⟩
theorem cut_q (q:Rat) {k:Nat} (h1:Sz k q.num) (h2:Sz k (q.den:Int)) (hk:k≤400000) {w:World} (hm:Mx w):
    Calls Tryz.prog 125 #[.string ⟨(ratL q).toArray⟩,.string ⟨#[47]⟩] w fun e w'=>e=.returned (.tuple #[.string ⟨(Lib.itoa q.num).toArray⟩,.string ⟨(if q.den=1 then [] else Lib.itoa (q.den:Int)).toArray⟩,.bool (decide (q.den≠1))])∧Gr w w':=by
  obtain ⟨m,hm⟩:=hm
  have hl:=ratL_len h1 h2
  refine (Tryz.strings_Cut ⟨(ratL q).toArray⟩ ⟨#[47]⟩ m w (by show (ratL q).toArray.size<_;simp;omega) hm).mono ?_
  rintro e w1 ⟨he,n,rfl⟩
  refine ⟨?_,(Below.refl _ _).drewN _⟩
  rw [he]
  have e1:(⟨(ratL q).toArray⟩:ByteArray).data.toList=ratL q:=by simp
  rw [e1,show (⟨#[47]⟩:ByteArray).data.toList=[47] from rfl,cut_slash,numL_ratL,cutL_ratL]
  by_cases h:q.den=1<;>simp [h]
theorem trimprefix_minus (z:Int) (w:World):Calls Tryz.prog 127 #[.string ⟨(Lib.itoa z).toArray⟩,.string ⟨#[45]⟩] w fun e w'=>e=.returned (.string ⟨(Lib.decDigits z.natAbs).toArray⟩)∧Gr w w':=by
  refine (Tryz.strings_TrimPrefix _ _ _).mono ?_
  rintro e w1 ⟨he,rfl⟩
  refine ⟨?_,Gr.refl _⟩
  rw [he]
  show Ending.returned (.string ⟨(Lib.trimPrefix (Lib.itoa z) [45]).toArray⟩)=_
  by_cases h:z<0
  · have h1:Lib.hasPrefix (Lib.itoa z) [45]=true:=by rw [itoa_neg h];simp [Lib.hasPrefix]
    rw [Lib.trimPrefix,h1,if_pos rfl,itoa_neg h];rfl
  · have h1:Lib.hasPrefix (Lib.itoa z) [45]=false:=by
      rw [itoa_nonneg (by omega)]
      rcases hd:Lib.decDigits z.natAbs with _ | ⟨c,l⟩
      · rfl
      · have hc:=dec_all z.natAbs c (by rw [hd];simp)
        have hne:¬ (45:UInt8)=c:=fun e=>by rw [← e] at hc;simp at hc
        simp [Lib.hasPrefix,List.isPrefixOf,hne]
    rw [Lib.trimPrefix,h1,if_neg (by decide),itoa_nonneg (by omega)]
theorem trimS_all {l cs:List UInt8} (h:∀ c ∈ l,cs.contains c=true):Lib.trimS l cs=[]:=by
  have key:∀ {l:List UInt8},(∀ c ∈ l,cs.contains c=true)→l.dropWhile (cs.contains ·)=[]:=by
    intro l
    induction l with
    | nil=>intro _;rfl
    | cons c l ih=>intro h;rw [List.dropWhile_cons,if_pos (h c (by simp))];exact ih (fun x hx=>h x (by simp [hx]))
  unfold Lib.trimS Lib.trimRightS Lib.trimLeftS
  rw [key (l:=l.reverse) (fun c hc=>h c (by simpa using hc))]
  rfl
theorem digit_in {c:UInt8} (h:48≤c.toNat∧c.toNat≤57):[48,49,50,51,52,53,54,55,56,57].contains c=true:=by
  have:c=48∨c=49∨c=50∨c=51∨c=52∨c=53∨c=54∨c=55∨c=56∨c=57:=by
    simp only [← UInt8.toNat_inj]
    simp
    omega
  rcases this with rfl | rfl | rfl | rfl | rfl | rfl | rfl | rfl | rfl | rfl<;>decide
theorem trim_digits (n:Nat) (hn:(Lib.decDigits n).length≤1000000) (w:World):
    Calls Tryz.prog 128 #[.string ⟨(Lib.decDigits n).toArray⟩,.string ⟨#[48,49,50,51,52,53,54,55,56,57]⟩] w fun e w'=>e=.returned (.string ⟨#[]⟩)∧Gr w w':=by
  refine (Any.strings_Trim_laid Tryz.lays160 (by kernel_rfl) ⟨(Lib.decDigits n).toArray⟩ ⟨#[48,49,50,51,52,53,54,55,56,57]⟩ w (by show (Lib.decDigits n).toArray.size≤_;simp;omega) (by decide) (ascii_of_all (by decide))).mono ?_
  rintro e w1 ⟨he,g⟩
  refine ⟨?_,g⟩
  rw [he,trimS_all (l:=(⟨(Lib.decDigits n).toArray⟩:ByteArray).data.toList) (fun c hc=>digit_in (dec_all n c (by simpa using hc)))]
set_option maxHeartbeats 1000000 in
theorem rdigits_t (n:Nat) (hn:(Lib.decDigits n).length≤1000000) (w:World):
    Calls Tryz.prog 126 #[.string ⟨(Lib.decDigits n).toArray⟩] w fun e w'=>e=.returned (.bool true)∧Gr w w':=by
  obtain ⟨D,hD⟩:∃ D:ByteArray,D=⟨(Lib.decDigits n).toArray⟩:=⟨_,rfl⟩
  have hc:=trim_digits n hn
  have hne:(D.toList==[])=false:=by
    rw [beq_eq_false_iff_ne,ByteArray.toList_eq,hD]
    simpa using dec_ne' n
  rw [← hD] at hc ⊢
  clear hD
  go_enter Tryz.func126,Tryz.ntmps126
  go_wp2_with fail
  (with_reducible refine (hc _).mono ?_)
  rintro e w1 ⟨rfl,g1⟩
  clear hc
  go_wp2
  go_ret
  exact ⟨rfl,g1⟩
theorem drop_mem {p:UInt8→Bool}:∀ {l:List UInt8} {c:UInt8},c ∈ l→p c=false→c ∈ l.dropWhile p
  | [],_,h,_=>by cases h
  | x::l,c,h,hc=>by
    rw [List.dropWhile_cons]
    by_cases hx:p x=true
    · rw [if_pos hx]
      rcases List.mem_cons.1 h with e | h
      · rw [e,hx] at hc;cases hc
      · exact drop_mem h hc
    · rw [if_neg hx];exact h
theorem trimS_some {l cs:List UInt8} {c:UInt8} (h:c ∈ l) (hc:cs.contains c=false):Lib.trimS l cs≠[]:=by
  have h1:c ∈ Lib.trimRightS l cs:=by
    unfold Lib.trimRightS
    rw [List.mem_reverse]
    exact drop_mem (by simpa using h) hc
  exact fun e=>by have:=drop_mem (p:=(cs.contains ·)) h1 hc;unfold Lib.trimS Lib.trimLeftS at e;rw [e] at this;cases this
theorem trim_zero (d:Nat) (hd:0<d) (hn:(Lib.decDigits d).length≤1000000) (w:World):
    Calls Tryz.prog 128 #[.string ⟨(Lib.decDigits d).toArray⟩,.string ⟨#[48]⟩] w fun e w'=>(∃ L:List UInt8,e=.returned (.string ⟨L.toArray⟩)∧L≠[])∧Gr w w':=by
  refine (Any.strings_Trim_laid Tryz.lays160 (by kernel_rfl) ⟨(Lib.decDigits d).toArray⟩ ⟨#[48]⟩ w (by show (Lib.decDigits d).toArray.size≤_;simp;omega) (by decide) (ascii_of_all (by decide))).mono ?_
  rintro e w1 ⟨he,g⟩
  obtain ⟨c,hc,h1,_⟩:=dec_head hd
  refine ⟨⟨_,he,trimS_some (c:=c) (by simpa using List.mem_of_getElem? hc) ?_⟩,g⟩
  have:¬ c=48:=fun e=>by rw [e] at h1;simp at h1
  simp [this]
theorem cut_w (q:Rat) {k:Nat} (h1:Sz k q.num) (h2:Sz k (q.den:Int)) (hk:k≤400000) (hw:q.den=1) {w:World} (hm:Mx w):
    Calls Tryz.prog 125 #[.string ⟨(ratL q).toArray⟩,.string ⟨#[47]⟩] w fun e w'=>e=.returned (.tuple #[.string ⟨(Lib.itoa q.num).toArray⟩,.string ⟨([]:List UInt8).toArray⟩,.bool false])∧Gr w w':=by
  have:=cut_q q h1 h2 hk hm
  rw [if_pos hw,show decide (q.den≠1)=false by simp [hw]] at this
  exact this
theorem cut_f (q:Rat) {k:Nat} (h1:Sz k q.num) (h2:Sz k (q.den:Int)) (hk:k≤400000) (hw:¬ q.den=1) {w:World} (hm:Mx w):
    Calls Tryz.prog 125 #[.string ⟨(ratL q).toArray⟩,.string ⟨#[47]⟩] w fun e w'=>e=.returned (.tuple #[.string ⟨(Lib.itoa q.num).toArray⟩,.string ⟨(Lib.itoa (q.den:Int)).toArray⟩,.bool true])∧Gr w w':=by
  have:=cut_q q h1 h2 hk hm
  rw [if_neg hw,show decide (q.den≠1)=true by simp [hw]] at this
  exact this
theorem rdigits_n {k:Nat} (z:Int) (h:Sz k z) (hk:k≤400000) (w:World):
    Calls Tryz.prog 126 #[.string ⟨(Lib.decDigits z.natAbs).toArray⟩] w fun e w'=>e=.returned (.bool true)∧Gr w w':=
  rdigits_t _ (by have:=dec_len_sz h;omega) w
theorem rdigits_d {k:Nat} (d:Nat) (h:Sz k (d:Int)) (hk:k≤400000) (w:World):
    Calls Tryz.prog 126 #[.string ⟨(Lib.itoa (d:Int)).toArray⟩] w fun e w'=>e=.returned (.bool true)∧Gr w w':=by
  have:=rdigits_n (d:Int) h hk w
  rw [← itoa_nonneg (by omega)] at this
  exact this
theorem trim_zero_d {k:Nat} (d:Nat) (h:Sz k (d:Int)) (hd:0<d) (hk:k≤400000) (w:World):
    Calls Tryz.prog 128 #[.string ⟨(Lib.itoa (d:Int)).toArray⟩,.string ⟨#[48]⟩] w fun e w'=>(∃ L:List UInt8,e=.returned (.string ⟨L.toArray⟩)∧(L==[])=false)∧Gr w w':=by
  have:=trim_zero d hd (by have:=dec_len_sz h;rw [Int.natAbs_natCast] at this;omega) w
  rw [itoa_nonneg (by omega),Int.natAbs_natCast]
  refine this.mono ?_
  rintro e w1 ⟨⟨L,he,hL⟩,g⟩
  exact ⟨⟨L,he,beq_eq_false_iff_ne.2 hL⟩,g⟩
theorem isRat_parts {w:World} {k:Nat} {x y x2 y2:Value} {q:Rat} (h1:IsInt w k x y q.num) (h2:IsInt w k x2 y2 (q.den:Int)) (h3:64≤k):IsRat w k x y x2 y2 q:=⟨h1,⟨_,h2,.inl rfl⟩,h3⟩
theorem rat_coprime (q:Rat):(Int.gcd q.num (q.den:Int):Int)=1:=by
  have:=q.reduced
  show ((Nat.gcd q.num.natAbs (q.den:Int).natAbs:Nat):Int)=1
  rw [Int.natAbs_natCast]
  have h:Nat.gcd q.num.natAbs q.den=1:=this
  rw [h];rfl
set_option maxRecDepth 100000 in
set_option maxHeartbeats 1000000 in
theorem read_w {k:Nat} (q:Rat) (hq:Sz k q.num∧Sz k (q.den:Int)) (_hk:k≤20000) (h64:64≤k) (most:Int) (_hlong:((ratL q).length:Int)≤most) (w:World) (hm:Mx w) (hw:q.den=1):
    Calls Tryz.prog 99 #[(.string ⟨(ratL (q):List UInt8).toArray⟩),(.int .i64 (most))] w fun e w'=>(∃ c0 c1 c2 c3,e=.returned (.tuple #[.agg #[c0,c1,c2,c3],.int .i64 0])∧IsRat w' k c0 c1 c2 c3 q)∧Gr w w':=by
 have hl:decide (most<((ratL q).length:Int))=false:=by simp;omega
 go_enter Tryz.func99,Tryz.ntmps99
 have hB:=Gr.refl w
 refine wp_seq_k (fun K1 k1=>?_)
 refine rg [0,1] ?_
 refine se ?_
 refine ea 71 #[(.bool false),(.slice none 0 0),(.bool false),(.slice none 0 0)] 4 hB fun b2 w2 g2 L2 o2 q2 hB=>?_
 simp only [p3,p4]
 refine sv 5 (.int .i64 0) ?_
 refine sq_nil ?_
 refine k1 _ _ ?_
 try clear k1 K1
 refine wp_seq_k (fun K3 k3=>?_)
 refine rg [0,1] ?_
 refine sv 13 (.string ⟨(ratL (q):List UInt8).toArray⟩) ?_
 refine sv 6 (.string ⟨(ratL (q):List UInt8).toArray⟩) ?_
 refine sq_nil ?_
 refine k3 _ _ ?_
 try clear k3 K3
 refine wp_seq_k (fun K4 k4=>?_)
 refine rg [0,1,2,3,4,5,6,7,8] ?_
 refine sv 15 (.string ⟨(ratL (q):List UInt8).toArray⟩) ?_
 refine se ?_
 refine ec 16 (cut_w q hq.1 hq.2 (by omega) hw (hm.gr hB)) ?_
 rintro e5 w5 ⟨rfl,g5⟩
 refine ⟨_,rfl,?_⟩
 replace hB:=hB.trans g5
 simp only [p3,p4]
 refine sv 14 (.tuple #[(.string ⟨(Lib.itoa (q.num):List UInt8).toArray⟩),(.string ⟨([]:List UInt8).toArray⟩),(.bool false)]) ?_
 refine sv 17 (.string ⟨(Lib.itoa (q.num):List UInt8).toArray⟩) ?_
 refine sv 18 (.string ⟨([]:List UInt8).toArray⟩) ?_
 refine sv 19 (.bool false) ?_
 refine sv 7 (.string ⟨(Lib.itoa (q.num):List UInt8).toArray⟩) ?_
 refine sv 8 (.string ⟨([]:List UInt8).toArray⟩) ?_
 refine sv 9 (.bool false) ?_
 refine sq_nil ?_
 refine k4 _ _ ?_
 try clear k4 K4
 refine wp_seq_k (fun K6 k6=>?_)
 refine wp_block ?_
 refine wp_seq_k (fun K7 k7=>?_)
 refine rg [0,1,2,3,4] ?_
 refine sv 21 (.string ⟨(ratL (q):List UInt8).toArray⟩) ?_
 refine sv 22 (.int .i64 (((ratL (q)).length:Int))) ?_
 refine sv 23 (.int .i64 (most)) ?_
 refine sw 24 (.bool false) rfl (RunV.bool (x:=decide (most<((ratL (q)).length:Int))) (rvk (by kernel_rfl)) hl) ?_
 refine sv 20 (.bool false) ?_
 refine sq_nil ?_
 refine k7 _ _ ?_
 try clear k7 K7
 refine wp_cond_false rfl ?_
 refine wp_seq_k (fun K8 k8=>?_)
 refine rg [0,1,2,3,4,5,6,7,8,9,10,11,12] ?_
 refine sv 27 (.string ⟨(Lib.itoa (q.num):List UInt8).toArray⟩) ?_
 refine se ?_
 refine ec 28 (trimprefix_minus (q.num) _) ?_
 rintro e9 w9 ⟨rfl,g9⟩
 refine ⟨_,rfl,?_⟩
 replace hB:=hB.trans g9
 simp only [p3,p4]
 refine se ?_
 refine ec 29 (rdigits_n q.num hq.1 (by omega) _) ?_
 rintro e10 w10 ⟨rfl,g10⟩
 refine ⟨_,rfl,?_⟩
 replace hB:=hB.trans g10
 simp only [p3,p4]
 refine sv 30 (.bool false) ?_
 refine sv 31 (.bool false) ?_
 refine sv 32 (.bool false) ?_
 refine sv 33 (.bool false) ?_
 refine ss 34 ?_
 refine ss 35 ?_
 refine ss 36 ?_
 refine sv 37 (.bool false) ?_
 refine sv 38 (.bool false) ?_
 refine sv 26 (.bool false) ?_
 refine sq_nil ?_
 refine k8 _ _ ?_
 try clear k8 K8
 refine wp_cond_false rfl ?_
 refine wp_seq_k (fun K11 k11=>?_)
 refine rg [0,1,2,3,4,5,6] ?_
 refine sv 41 (.bool false) ?_
 refine sv 42 (.bool false) ?_
 refine ss 43 ?_
 refine ss 44 ?_
 refine ss 45 ?_
 refine sv 46 (.bool false) ?_
 refine sv 40 (.bool false) ?_
 refine sq_nil ?_
 refine k11 _ _ ?_
 try clear k11 K11
 refine wp_cond_false rfl ?_
 refine wp_skip ?_
 refine k6 _ _ ?_
 try clear k6 K6
 refine wp_seq_k (fun K12 k12=>?_)
 refine rg [0,1,2,3,4,5,6,7] ?_
 refine sv 49 (.string ⟨(Lib.itoa (q.num):List UInt8).toArray⟩) ?_
 refine se ?_
 refine ec 50 (parse_i (q.num) hq.1 (by omega) _) ?_
 rintro e13 w13 ⟨⟨x13,y13,rfl,h13⟩,g13⟩
 refine ⟨_,rfl,?_⟩
 replace hB:=hB.trans g13
 simp only [p3,p4]
 refine sv 48 (.tuple #[(.agg #[x13,y13]),(.int .i64 0)]) ?_
 refine sv 51 (.agg #[x13,y13]) ?_
 refine sv 52 (.int .i64 0) ?_
 refine se ?_
 refine ea 69 #[(.bool false),(.slice none 0 0)] 10 hB fun b14 w14 g14 L14 o14 q14 hB=>?_
 replace L2:=L2.gr (g5.trans (g9.trans (g10.trans g13)))
 have ne2_14:=L2.ne o14
 simp only [p3,p4]
 refine se ?_
 refine es 69 0 (.agg #[x13,y13]) [x13,y13] #[x13,y13] L14 hB q14 ⟨h13.one0,h13.one1,trivial⟩ fun w15 st15 kp15 L14 hB=>?_
 refine sv 11 (.int .i64 0) ?_
 refine sq_nil ?_
 refine k12 _ _ ?_
 try clear k12 K12
 refine wp_seq_k (fun K16 k16=>?_)
 refine wp_seq_k (fun K17 k17=>?_)
 refine rg [0,1] ?_
 refine sv 53 (.int .i64 0) ?_
 refine sv 54 (.bool false) ?_
 refine sq_nil ?_
 refine k17 _ _ ?_
 try clear k17 K17
 refine wp_cond_false rfl ?_
 refine wp_skip ?_
 refine k16 _ _ ?_
 try clear k16 K16
 refine wp_seq_k (fun K18 k18=>?_)
 refine wp_seq_k (fun K19 k19=>?_)
 refine rg [0,1] ?_
 refine sv 56 (.bool false) ?_
 refine sv 57 (.bool true) ?_
 refine sq_nil ?_
 refine k19 _ _ ?_
 try clear k19 K19
 refine wp_cond_true rfl ?_
 refine wp_seq_k (fun K20 k20=>?_)
 refine rg [0,1,2,3] ?_
 refine sw 58 (.agg #[x13,y13]) rfl (rl 69 0 [x13,y13] L14) ?_
 refine sv 59 (.agg #[x13,y13,(.bool false),(.slice none 0 0)]) ?_
 refine se ?_
 replace L2:=st15.lc (L2.gr g14) ne2_14
 refine es 71 0 (.agg #[x13,y13,(.bool false),(.slice none 0 0)]) [x13,y13,(.bool false),(.slice none 0 0)] #[x13,y13,(.bool false),(.slice none 0 0)] L2 hB q2 ⟨h13.one0,h13.one1,rfl,rfl,trivial⟩ fun w21 st21 kp21 L2 hB=>?_
 refine sv 5 (.int .i64 0) ?_
 refine sq_nil ?_
 refine k20 _ _ ?_
 try clear k20 K20
 refine wp_ret ?_
 simp only [Exit.then]
 refine bodyPost_ret (v:=(.tuple #[(.agg #[x13,y13,(.bool false),(.slice none 0 0)]),(.int .i64 0)])) (ret_cell_tmp' _ _ _ rfl rfl L2 (by kernel_rfl) rfl) rfl ⟨?_,hB⟩
 have kq22:=g14.kp.trans (kp15.trans kp21)
 replace h13:=h13.kp kq22
 exact ⟨_,_,_,_,rfl,by have:=IsRat.int h13 h64;rw [rat_int hw] at this;exact this⟩

set_option maxRecDepth 100000 in
set_option maxHeartbeats 1000000 in
theorem read_f {k:Nat} (q:Rat) (hq:Sz k q.num∧Sz k (q.den:Int)) (_hk:k≤20000) (h64:64≤k) (most:Int) (_hlong:((ratL q).length:Int)≤most) (w:World) (hm:Mx w) (hw:¬ q.den=1):
    Calls Tryz.prog 99 #[(.string ⟨(ratL (q):List UInt8).toArray⟩),(.int .i64 (most))] w fun e w'=>(∃ c0 c1 c2 c3,e=.returned (.tuple #[.agg #[c0,c1,c2,c3],.int .i64 0])∧IsRat w' k c0 c1 c2 c3 q)∧Gr w w':=by
 have hl:decide (most<((ratL q).length:Int))=false:=by simp;omega
 have h1:(sgn ((q.den:Int) - 1)==(0:Int))=false:=by rw [beq_eq_false_iff_ne];exact fun e=>hw (by have:=sgn_eq_zero.1 e;omega)
 have h2:(sgn ((Int.gcd (q.num) ((q.den:Int)):Int) - 1) !=(0:Int))=false:=by rw [rat_coprime];rfl
 go_enter Tryz.func99,Tryz.ntmps99
 have hB:=Gr.refl w
 refine wp_seq_k (fun K1 k1=>?_)
 refine rg [0,1] ?_
 refine se ?_
 refine ea 71 #[(.bool false),(.slice none 0 0),(.bool false),(.slice none 0 0)] 4 hB fun b2 w2 g2 L2 o2 q2 hB=>?_
 simp only [p3,p4]
 refine sv 5 (.int .i64 0) ?_
 refine sq_nil ?_
 refine k1 _ _ ?_
 try clear k1 K1
 refine wp_seq_k (fun K3 k3=>?_)
 refine rg [0,1] ?_
 refine sv 13 (.string ⟨(ratL (q):List UInt8).toArray⟩) ?_
 refine sv 6 (.string ⟨(ratL (q):List UInt8).toArray⟩) ?_
 refine sq_nil ?_
 refine k3 _ _ ?_
 try clear k3 K3
 refine wp_seq_k (fun K4 k4=>?_)
 refine rg [0,1,2,3,4,5,6,7,8] ?_
 refine sv 15 (.string ⟨(ratL (q):List UInt8).toArray⟩) ?_
 refine se ?_
 refine ec 16 (cut_f q hq.1 hq.2 (by omega) hw (hm.gr hB)) ?_
 rintro e5 w5 ⟨rfl,g5⟩
 refine ⟨_,rfl,?_⟩
 replace hB:=hB.trans g5
 simp only [p3,p4]
 refine sv 14 (.tuple #[(.string ⟨(Lib.itoa (q.num):List UInt8).toArray⟩),(.string ⟨(Lib.itoa ((q.den:Int)):List UInt8).toArray⟩),(.bool true)]) ?_
 refine sv 17 (.string ⟨(Lib.itoa (q.num):List UInt8).toArray⟩) ?_
 refine sv 18 (.string ⟨(Lib.itoa ((q.den:Int)):List UInt8).toArray⟩) ?_
 refine sv 19 (.bool true) ?_
 refine sv 7 (.string ⟨(Lib.itoa (q.num):List UInt8).toArray⟩) ?_
 refine sv 8 (.string ⟨(Lib.itoa ((q.den:Int)):List UInt8).toArray⟩) ?_
 refine sv 9 (.bool true) ?_
 refine sq_nil ?_
 refine k4 _ _ ?_
 try clear k4 K4
 refine wp_seq_k (fun K6 k6=>?_)
 refine wp_block ?_
 refine wp_seq_k (fun K7 k7=>?_)
 refine rg [0,1,2,3,4] ?_
 refine sv 21 (.string ⟨(ratL (q):List UInt8).toArray⟩) ?_
 refine sv 22 (.int .i64 (((ratL (q)).length:Int))) ?_
 refine sv 23 (.int .i64 (most)) ?_
 refine sw 24 (.bool false) rfl (RunV.bool (x:=decide (most<((ratL (q)).length:Int))) (rvk (by kernel_rfl)) hl) ?_
 refine sv 20 (.bool false) ?_
 refine sq_nil ?_
 refine k7 _ _ ?_
 try clear k7 K7
 refine wp_cond_false rfl ?_
 refine wp_seq_k (fun K8 k8=>?_)
 refine rg [0,1,2,3,4,5,6,7,8,9,10,11,12] ?_
 refine sv 27 (.string ⟨(Lib.itoa (q.num):List UInt8).toArray⟩) ?_
 refine se ?_
 refine ec 28 (trimprefix_minus (q.num) _) ?_
 rintro e9 w9 ⟨rfl,g9⟩
 refine ⟨_,rfl,?_⟩
 replace hB:=hB.trans g9
 simp only [p3,p4]
 refine se ?_
 refine ec 29 (rdigits_n q.num hq.1 (by omega) _) ?_
 rintro e10 w10 ⟨rfl,g10⟩
 refine ⟨_,rfl,?_⟩
 replace hB:=hB.trans g10
 simp only [p3,p4]
 refine sv 30 (.bool false) ?_
 refine sv 31 (.bool false) ?_
 refine sv 32 (.bool true) ?_
 refine sv 33 (.bool true) ?_
 refine sv 34 (.string ⟨(Lib.itoa ((q.den:Int)):List UInt8).toArray⟩) ?_
 refine se ?_
 refine ec 35 (rdigits_d q.den hq.2 (by omega) _) ?_
 rintro e11 w11 ⟨rfl,g11⟩
 refine ⟨_,rfl,?_⟩
 replace hB:=hB.trans g11
 simp only [p3,p4]
 refine sv 36 (.bool false) ?_
 refine sv 37 (.bool false) ?_
 refine sv 38 (.bool false) ?_
 refine sv 26 (.bool false) ?_
 refine sq_nil ?_
 refine k8 _ _ ?_
 try clear k8 K8
 refine wp_cond_false rfl ?_
 refine wp_seq_k (fun K12 k12=>?_)
 refine rg [0,1,2,3,4,5,6] ?_
 refine sv 41 (.bool true) ?_
 refine sv 42 (.bool true) ?_
 refine sv 43 (.string ⟨(Lib.itoa ((q.den:Int)):List UInt8).toArray⟩) ?_
 refine se ?_
 refine ec 44 (trim_zero_d q.den hq.2 q.den_pos (by omega) _) ?_
 rintro e13 w13 ⟨⟨L13,rfl,hL13⟩,g13⟩
 refine ⟨_,rfl,?_⟩
 replace hB:=hB.trans g13
 simp only [p3,p4]
 refine sw 45 (.bool false) rfl (RunV.bool (x:=((L13)==([]:List UInt8))) (rv_seq 9 9 _ _ (L13) ([]) rfl rfl rfl) hL13) ?_
 refine sv 46 (.bool false) ?_
 refine sv 40 (.bool false) ?_
 refine sq_nil ?_
 refine k12 _ _ ?_
 try clear k12 K12
 refine wp_cond_false rfl ?_
 refine wp_skip ?_
 refine k6 _ _ ?_
 try clear k6 K6
 refine wp_seq_k (fun K14 k14=>?_)
 refine rg [0,1,2,3,4,5,6,7] ?_
 refine sv 49 (.string ⟨(Lib.itoa (q.num):List UInt8).toArray⟩) ?_
 refine se ?_
 refine ec 50 (parse_i (q.num) hq.1 (by omega) _) ?_
 rintro e15 w15 ⟨⟨x15,y15,rfl,h15⟩,g15⟩
 refine ⟨_,rfl,?_⟩
 replace hB:=hB.trans g15
 simp only [p3,p4]
 refine sv 48 (.tuple #[(.agg #[x15,y15]),(.int .i64 0)]) ?_
 refine sv 51 (.agg #[x15,y15]) ?_
 refine sv 52 (.int .i64 0) ?_
 refine se ?_
 refine ea 69 #[(.bool false),(.slice none 0 0)] 10 hB fun b16 w16 g16 L16 o16 q16 hB=>?_
 replace L2:=L2.gr (g5.trans (g9.trans (g10.trans (g11.trans (g13.trans g15)))))
 have ne2_16:=L2.ne o16
 simp only [p3,p4]
 refine se ?_
 refine es 69 0 (.agg #[x15,y15]) [x15,y15] #[x15,y15] L16 hB q16 ⟨h15.one0,h15.one1,trivial⟩ fun w17 st17 kp17 L16 hB=>?_
 refine sv 11 (.int .i64 0) ?_
 refine sq_nil ?_
 refine k14 _ _ ?_
 try clear k14 K14
 refine wp_seq_k (fun K18 k18=>?_)
 refine wp_seq_k (fun K19 k19=>?_)
 refine rg [0,1] ?_
 refine sv 53 (.int .i64 0) ?_
 refine sv 54 (.bool false) ?_
 refine sq_nil ?_
 refine k19 _ _ ?_
 try clear k19 K19
 refine wp_cond_false rfl ?_
 refine wp_skip ?_
 refine k18 _ _ ?_
 try clear k18 K18
 refine wp_seq_k (fun K20 k20=>?_)
 refine wp_seq_k (fun K21 k21=>?_)
 refine rg [0,1] ?_
 refine sv 56 (.bool true) ?_
 refine sv 57 (.bool false) ?_
 refine sq_nil ?_
 refine k21 _ _ ?_
 try clear k21 K21
 refine wp_cond_false rfl ?_
 refine wp_skip ?_
 refine k20 _ _ ?_
 try clear k20 K20
 refine wp_seq_k (fun K22 k22=>?_)
 refine rg [0,1,2,3,4,5,6,7] ?_
 refine sv 61 (.string ⟨(Lib.itoa ((q.den:Int)):List UInt8).toArray⟩) ?_
 refine se ?_
 refine ec 62 (parse_i ((q.den:Int)) hq.2 (by omega) _) ?_
 rintro e23 w23 ⟨⟨x23,y23,rfl,h23⟩,g23⟩
 refine ⟨_,rfl,?_⟩
 replace hB:=hB.trans g23
 simp only [p3,p4]
 refine sv 60 (.tuple #[(.agg #[x23,y23]),(.int .i64 0)]) ?_
 refine sv 63 (.agg #[x23,y23]) ?_
 refine sv 64 (.int .i64 0) ?_
 refine se ?_
 refine ea 69 #[(.bool false),(.slice none 0 0)] 12 hB fun b24 w24 g24 L24 o24 q24 hB=>?_
 replace L2:=(st17.lc (L2.gr g16) ne2_16).gr g23
 have ne2_24:=L2.ne o24
 replace L16:=L16.gr g23
 have ne16_24:=L16.ne o24
 simp only [p3,p4]
 refine se ?_
 refine es 69 0 (.agg #[x23,y23]) [x23,y23] #[x23,y23] L24 hB q24 ⟨h23.one0,h23.one1,trivial⟩ fun w25 st25 kp25 L24 hB=>?_
 refine sv 11 (.int .i64 0) ?_
 refine sq_nil ?_
 refine k22 _ _ ?_
 try clear k22 K22
 refine wp_seq_k (fun K26 k26=>?_)
 refine wp_seq_k (fun K27 k27=>?_)
 have gd41:=Gr.drew w25
 replace hB:=hB.trans gd41
 replace L16:=(st25.lc (L16.gr g24) ne16_24).gr gd41
 replace L24:=L24.gr gd41
 refine wp_region_ord (fun w'=>Lc w' b16 #[x15,y15] 69∧Lc w' b24 #[x23,y23] 69) [(true,0),(true,1),(true,2),(true,3),(false,4),(false,5),(true,6),(true,7),(true,8),(true,9),(true,10),(false,11),(false,12),(false,13),(true,14),(true,15)] (by kernel_rfl) (by kernel_rfl) (by kernel_rfl) (by decide) (fun _ _ _ _ _ h=>h) ⟨L16,L24⟩ ?_
 refine ov 65 (.int .i64 0) ?_
 refine ov 66 (.bool false) ?_
 refine ov 67 (.bool false) ?_
 refine ow 68 (.agg #[x23,y23]) rfl (fun w' hS=>(rl 69 0 [x23,y23] hS.2)) ?_
 refine oe ?_
 refine ec 69 (one_i _) ?_
 rintro e43 w43 ⟨⟨x43,y43,rfl,h43⟩,g43⟩
 refine ⟨_,rfl,?_⟩
 replace hB:=hB.trans g43
 replace L16:=L16.gr g43
 replace L24:=L24.gr g43
 refine ⟨⟨L16,L24⟩,?_⟩
 simp only [p3,p4]
 refine oe ?_
 have kq46:=g24.kp.trans (kp25.trans (gd41.kp.trans g43.kp))
 replace h23:=h23.kp kq46
 refine ec 70 (compare_i h23 h43 (by omega) (by omega)) ?_
 rintro e45 w45 ⟨rfl,g45⟩
 refine ⟨_,rfl,?_⟩
 replace hB:=hB.trans g45
 replace L16:=L16.gr g45
 replace L24:=L24.gr g45
 refine ⟨⟨L16,L24⟩,?_⟩
 simp only [p3,p4]
 refine ow 71 (.bool false) rfl (fun w' hS=>(RunV.bool (x:=(sgn ((q.den:Int) - 1)==(0:Int))) (rvk (by kernel_rfl)) h1)) ?_
 refine ov 72 (.bool false) ?_
 refine ov 73 (.bool false) ?_
 refine ow 74 (.agg #[x15,y15]) rfl (fun w' hS=>(rl 69 0 [x15,y15] hS.1)) ?_
 refine ow 75 (.agg #[x23,y23]) rfl (fun w' hS=>(rl 69 0 [x23,y23] hS.2)) ?_
 refine oe ?_
 have kq49:=g16.kp.trans (kp17.trans (g23.kp.trans (g24.kp.trans (kp25.trans (gd41.kp.trans (g43.kp.trans g45.kp))))))
 replace h15:=h15.kp kq49
 replace h23:=h23.kp g45.kp
 refine ec 76 (gcd_i h15 h23 (by omega)) ?_
 rintro e48 w48 ⟨⟨x48,y48,rfl,h48⟩,g48⟩
 refine ⟨_,rfl,?_⟩
 replace hB:=hB.trans g48
 replace L16:=L16.gr g48
 replace L24:=L24.gr g48
 refine ⟨⟨L16,L24⟩,?_⟩
 simp only [p3,p4]
 refine oe ?_
 refine ec 77 (one_i _) ?_
 rintro e51 w51 ⟨⟨x51,y51,rfl,h51⟩,g51⟩
 refine ⟨_,rfl,?_⟩
 replace hB:=hB.trans g51
 replace L16:=L16.gr g51
 replace L24:=L24.gr g51
 refine ⟨⟨L16,L24⟩,?_⟩
 simp only [p3,p4]
 refine oe ?_
 replace h48:=h48.kp g51.kp
 refine ec 78 (compare_i h48 h51 (by omega) (by omega)) ?_
 rintro e53 w53 ⟨rfl,g53⟩
 refine ⟨_,rfl,?_⟩
 replace hB:=hB.trans g53
 replace L16:=L16.gr g53
 replace L24:=L24.gr g53
 refine ⟨⟨L16,L24⟩,?_⟩
 simp only [p3,p4]
 refine ow 79 (.bool false) rfl (fun w' hS=>(RunV.bool (x:=(sgn ((Int.gcd (q.num) ((q.den:Int)):Int) - 1) !=(0:Int))) (rvk (by kernel_rfl)) h2)) ?_
 refine ov 80 (.bool false) ?_
 refine ord_nil ?_
 refine k27 _ _ ?_
 try clear k27 K27
 refine wp_cond_false rfl ?_
 refine wp_skip ?_
 refine k26 _ _ ?_
 try clear k26 K26
 refine wp_seq_k (fun K54 k54=>?_)
 refine rg [0,1,2,3,4] ?_
 refine sw 82 (.agg #[x15,y15]) rfl (rl 69 0 [x15,y15] L16) ?_
 refine sw 83 (.agg #[x23,y23]) rfl (rl 69 0 [x23,y23] L24) ?_
 refine sv 84 (.agg #[x15,y15,x23,y23]) ?_
 refine se ?_
 replace L2:=(st25.lc (L2.gr g24) ne2_24).gr (gd41.trans (g43.trans (g45.trans (g48.trans (g51.trans g53)))))
 refine es 71 0 (.agg #[x15,y15,x23,y23]) [x15,y15,x23,y23] #[x15,y15,x23,y23] L2 hB q2 ⟨h15.one0,h15.one1,h23.one0,h23.one1,trivial⟩ fun w55 st55 kp55 L2 hB=>?_
 refine sv 5 (.int .i64 0) ?_
 refine sq_nil ?_
 refine k54 _ _ ?_
 try clear k54 K54
 refine wp_ret ?_
 refine bodyPost_ret (v:=(.tuple #[(.agg #[x15,y15,x23,y23]),(.int .i64 0)])) (ret_cell_tmp' _ _ _ rfl rfl L2 (by kernel_rfl) rfl) rfl ⟨?_,hB⟩
 have kq56:=g48.kp.trans (g51.kp.trans (g53.kp.trans kp55))
 replace h15:=h15.kp kq56
 replace h23:=h23.kp kq56
 exact ⟨_,_,_,_,rfl,isRat_parts h15 h23 h64⟩

theorem read_q {k:Nat} (q:Rat) (hq:Sz k q.num∧Sz k (q.den:Int)) (hk:k≤20000) (h64:64≤k) (most:Int) (hlong:((ratL q).length:Int)≤most) (w:World) (hm:Mx w):
    Calls Tryz.prog 99 #[(.string ⟨(ratL (q):List UInt8).toArray⟩),(.int .i64 (most))] w fun e w'=>(∃ c0 c1 c2 c3,e=.returned (.tuple #[.agg #[c0,c1,c2,c3],.int .i64 0])∧IsRat w' k c0 c1 c2 c3 q)∧Gr w w':=by
  by_cases hw:q.den=1
  · exact read_w q hq hk h64 most hlong w hm hw
  · exact read_f q hq hk h64 most hlong w hm hw

set_option maxRecDepth 100000 in
set_option maxHeartbeats 1000000 in
theorem parse_q {k:Nat} (q:Rat) (hq:Sz k q.num∧Sz k (q.den:Int)) (hk:k≤20000) (h64:64≤k) (_hlong:((ratL q).length:Int)≤400) (w:World) (hm:Mx w):
    Calls Tryz.prog 71 #[(.string ⟨(ratL (q):List UInt8).toArray⟩)] w fun e w'=>(∃ c0 c1 c2 c3,e=.returned (.tuple #[.agg #[c0,c1,c2,c3],.int .i64 0])∧IsRat w' k c0 c1 c2 c3 q)∧Gr w w':=by
 go_enter Tryz.func71,Tryz.ntmps71
 have hB:=Gr.refl w
 refine wp_seq_k (fun K1 k1=>?_)
 refine rg [0,1] ?_
 refine se ?_
 refine ea 71 #[(.bool false),(.slice none 0 0),(.bool false),(.slice none 0 0)] 2 hB fun b2 w2 g2 L2 o2 q2 hB=>?_
 simp only [p3,p4]
 refine sv 3 (.int .i64 0) ?_
 refine sq_nil ?_
 refine k1 _ _ ?_
 try clear k1 K1
 refine wp_seq_k (fun K3 k3=>?_)
 refine rg [0,1,2,3,4,5] ?_
 refine sv 4 (.string ⟨(ratL (q):List UInt8).toArray⟩) ?_
 refine se ?_
 refine ec 5 (read_q q hq hk h64 400 (by omega) _ (hm.gr hB)) ?_
 rintro e4 w4 ⟨⟨cc4_0,cc4_1,cc4_2,cc4_3,rfl,h4⟩,g4⟩
 refine ⟨_,rfl,?_⟩
 replace hB:=hB.trans g4
 simp only [p3,p4]
 refine sv 6 (.agg #[cc4_0,cc4_1,cc4_2,cc4_3]) ?_
 refine sv 7 (.int .i64 0) ?_
 refine se ?_
 replace L2:=L2.gr g4
 refine es 71 0 (.agg #[cc4_0,cc4_1,cc4_2,cc4_3]) [cc4_0,cc4_1,cc4_2,cc4_3] #[cc4_0,cc4_1,cc4_2,cc4_3] L2 hB q2 ⟨h4.one0,h4.one1,h4.one2,h4.one3,trivial⟩ fun w5 st5 kp5 L2 hB=>?_
 refine sv 3 (.int .i64 0) ?_
 refine sq_nil ?_
 refine k3 _ _ ?_
 try clear k3 K3
 refine wp_ret ?_
 refine bodyPost_ret (v:=(.tuple #[(.agg #[cc4_0,cc4_1,cc4_2,cc4_3]),(.int .i64 0)])) (ret_cell_tmp' _ _ _ rfl rfl L2 (by kernel_rfl) rfl) rfl ⟨?_,hB⟩
 replace h4:=h4.kp kp5
 exact ⟨_,_,_,_,rfl,h4⟩

set_option maxRecDepth 100000 in
set_option maxHeartbeats 1000000 in
theorem number_w {k:Nat} {u0 u1 u2 u3:Value} {a:Rat} {w:World} (ha:IsRat w k u0 u1 u2 u3 a) (_hk:k≤800000) (ht:Tab w) (hw:a.den=1):
    Calls Tryz.prog 40 #[(.agg #[u0,u1,u2,u3])] w fun e w'=>e=.returned (.string ⟨(ratL a).toArray⟩)∧Gr w w':=by
 go_enter Tryz.func40,Tryz.ntmps40
 have hB:=Gr.refl w
 refine wp_seq_k (fun K1 k1=>?_)
 refine rg [0,1] ?_
 refine se ?_
 refine eb 71 #[u0,u1,u2,u3] 1 hB fun b2 w2 g2 L2 o2 q2 hB=>?_
 simp only [p3,p4]
 refine sv 2 (.string ⟨([]:List UInt8).toArray⟩) ?_
 refine sq_nil ?_
 refine k1 _ _ ?_
 try clear k1 K1
 refine wp_seq_k (fun K3 k3=>?_)
 refine wp_seq_k (fun K4 k4=>?_)
 refine rg [0,1] ?_
 refine sw 3 (.agg #[u0,u1,u2,u3]) rfl (rl 71 0 [u0,u1,u2,u3] L2) ?_
 refine se ?_
 replace ha:=ha.kp g2.kp
 refine ec 4 (whole_t ha (by omega) hw) ?_
 rintro e5 w5 ⟨rfl,g5⟩
 refine ⟨_,rfl,?_⟩
 replace hB:=hB.trans g5
 simp only [p3,p4]
 refine sq_nil ?_
 refine k4 _ _ ?_
 try clear k4 K4
 refine wp_cond_true rfl ?_
 refine wp_seq_k (fun K6 k6=>?_)
 refine rg [0,1,2,3] ?_
 refine sv 5 (.pointer (some ⟨b2,0,none⟩)) ?_
 replace L2:=L2.gr g5
 refine sw 6 (.agg #[u0,u1]) rfl (rl 69 0 [u0,u1] L2) ?_
 refine se ?_
 replace ha:=ha.kp g5.kp
 refine ec 7 (text_i ha.num (by omega) (ht.gr hB)) ?_
 rintro e7 w7 ⟨rfl,g7⟩
 refine ⟨_,rfl,?_⟩
 replace hB:=hB.trans g7
 simp only [p3,p4]
 refine sv 2 (.string ⟨(Lib.itoa (a.num):List UInt8).toArray⟩) ?_
 refine sq_nil ?_
 refine k6 _ _ ?_
 try clear k6 K6
 refine wp_ret ?_
 simp only [Exit.then]
 refine bodyPost_ret (v:=(.string ⟨(Lib.itoa (a.num):List UInt8).toArray⟩)) (ret_tmp rfl rfl) rfl ⟨?_,hB⟩
 exact (by rw [ratL_w hw])

set_option maxRecDepth 100000 in
set_option maxHeartbeats 1000000 in
theorem number_d {k:Nat} {u0 u1 u2 u3:Value} {a:Rat} {w:World} (ha:IsRat w k u0 u1 u2 u3 a) (_hk:k≤800000) (ht:Tab w) (hd:IsInt w k u2 u3 (a.den:Int)) (hw:¬ a.den=1):
    Calls Tryz.prog 40 #[(.agg #[u0,u1,u2,u3])] w fun e w'=>e=.returned (.string ⟨(ratL a).toArray⟩)∧Gr w w':=by
 have hl1:=itoa_len ha.num.sz
 have hl2:=itoa_len hd.sz
 go_enter Tryz.func40,Tryz.ntmps40
 have hB:=Gr.refl w
 refine wp_seq_k (fun K1 k1=>?_)
 refine rg [0,1] ?_
 refine se ?_
 refine eb 71 #[u0,u1,u2,u3] 1 hB fun b2 w2 g2 L2 o2 q2 hB=>?_
 simp only [p3,p4]
 refine sv 2 (.string ⟨([]:List UInt8).toArray⟩) ?_
 refine sq_nil ?_
 refine k1 _ _ ?_
 try clear k1 K1
 refine wp_seq_k (fun K3 k3=>?_)
 refine wp_seq_k (fun K4 k4=>?_)
 refine rg [0,1] ?_
 refine sw 3 (.agg #[u0,u1,u2,u3]) rfl (rl 71 0 [u0,u1,u2,u3] L2) ?_
 refine se ?_
 replace ha:=ha.kp g2.kp
 refine ec 4 (whole_f ha (by omega) hw) ?_
 rintro e5 w5 ⟨rfl,g5⟩
 refine ⟨_,rfl,?_⟩
 replace hB:=hB.trans g5
 simp only [p3,p4]
 refine sq_nil ?_
 refine k4 _ _ ?_
 try clear k4 K4
 refine wp_cond_false rfl ?_
 refine wp_skip ?_
 refine k3 _ _ ?_
 try clear k3 K3
 refine wp_seq_k (fun K6 k6=>?_)
 have gd14:=Gr.drew w5
 replace hB:=hB.trans gd14
 replace L2:=L2.gr (g5.trans gd14)
 refine wp_region_ord (fun w'=>Lc w' b2 #[u0,u1,u2,u3] 71) [(true,0),(true,1),(true,4),(true,5),(false,2),(true,3),(false,6),(true,7),(true,8)] (by kernel_rfl) (by kernel_rfl) (by kernel_rfl) (by decide) (fun _ _ _ _ _ h=>h) L2 ?_
 refine ov 8 (.pointer (some ⟨b2,0,none⟩)) ?_
 refine ow 9 (.agg #[u0,u1]) rfl (fun w' hS=>(rl 69 0 [u0,u1] hS)) ?_
 refine ov 12 (.pointer (some ⟨b2,2,none⟩)) ?_
 refine ow 13 (.agg #[u2,u3]) rfl (fun w' hS=>(rl 69 2 [u2,u3] hS)) ?_
 refine oe ?_
 have kq17:=g5.kp.trans gd14.kp
 replace ha:=ha.kp kq17
 refine ec 10 (text_i ha.num (by omega) (ht.gr hB)) ?_
 rintro e16 w16 ⟨rfl,g16⟩
 refine ⟨_,rfl,?_⟩
 replace hB:=hB.trans g16
 replace L2:=L2.gr g16
 refine ⟨L2,?_⟩
 simp only [p3,p4]
 refine ow 11 (.string ⟨((Lib.itoa (a.num))++([47]):List UInt8).toArray⟩) rfl (fun w' hS=>(rv_cat 9 9 _ _ (Lib.itoa (a.num)) ([47]) rfl rfl rfl (by simp only [List.length_cons,List.length_nil];omega))) ?_
 refine oe ?_
 have kq20:=g2.kp.trans (g5.kp.trans (gd14.kp.trans g16.kp))
 replace hd:=hd.kp kq20
 refine ec 14 (text_i hd (by omega) (ht.gr hB)) ?_
 rintro e19 w19 ⟨rfl,g19⟩
 refine ⟨_,rfl,?_⟩
 replace hB:=hB.trans g19
 replace L2:=L2.gr g19
 refine ⟨L2,?_⟩
 simp only [p3,p4]
 refine ow 15 (.string ⟨(((Lib.itoa (a.num))++([47]))++(Lib.itoa ((a.den:Int))):List UInt8).toArray⟩) rfl (fun w' hS=>(rv_cat 9 9 _ _ ((Lib.itoa (a.num))++([47])) (Lib.itoa ((a.den:Int))) rfl rfl rfl (by simp only [List.length_append,List.length_cons,List.length_nil];omega))) ?_
 refine ov 2 (.string ⟨(((Lib.itoa (a.num))++([47]))++(Lib.itoa ((a.den:Int))):List UInt8).toArray⟩) ?_
 refine ord_nil ?_
 refine k6 _ _ ?_
 try clear k6 K6
 refine wp_ret ?_
 refine bodyPost_ret (v:=(.string ⟨(((Lib.itoa (a.num))++([47]))++(Lib.itoa ((a.den:Int))):List UInt8).toArray⟩)) (ret_tmp rfl rfl) rfl ⟨?_,hB⟩
 exact (by rw [ratL_f hw])

theorem number_r {k:Nat} {u0 u1 u2 u3:Value} {a:Rat} {w:World} (ha:IsRat w k u0 u1 u2 u3 a) (hk:k≤800000) (ht:Tab w):
    Calls Tryz.prog 40 #[.agg #[u0,u1,u2,u3]] w fun e w'=>e=.returned (.string ⟨(ratL a).toArray⟩)∧Gr w w':=by
  by_cases hw:a.den=1
  · exact number_w ha hk ht hw
  · obtain ⟨D,h2,h3⟩:=ha.den
    rcases h3 with h3 | ⟨_,h4⟩
    · subst h3;exact number_d ha hk ht h2 hw
    · exact absurd h4 hw

theorem ratL_8 {q:Rat} (h:RZ 8 8 q):((ratL q).length:Int)≤400:=by
  have:=ratL_len h.1 h.2
  omega
theorem RZ.s64 {q:Rat} (h:RZ 8 8 q):Sz 64 q.num∧Sz 64 (q.den:Int):=h.mono (by omega) (by omega)
set_option maxRecDepth 100000 in
set_option maxHeartbeats 1000000 in
theorem l5_rat (q:Rat) (hq:RZ 8 8 q) (w:World) (hm:Mx w):
    Calls Tryz.prog 63 #[(.agg #[(.string ⟨(Lib.itoa ((q).num):List UInt8).toArray⟩),(.string ⟨(Lib.itoa (((q).den:Int)):List UInt8).toArray⟩)])] w fun e w'=>(∃ c0 c1 c2 c3,e=.returned (.agg #[c0,c1,c2,c3])∧IsRat w' 64 c0 c1 c2 c3 q)∧Gr w w':=by
 go_enter Tryz.func63,Tryz.ntmps63
 have hB:=Gr.refl w
 refine wp_seq_k (fun K10 k10=>?_)
 refine rg [0,1] ?_
 refine se ?_
 refine eb 84 #[(.string ⟨(Lib.itoa ((q).num):List UInt8).toArray⟩),(.string ⟨(Lib.itoa (((q).den:Int)):List UInt8).toArray⟩)] 1 hB fun b11 w11 g11 L11 o11 q11 hB=>?_
 have qr11:=o11
 simp only [p3,p4]
 refine se ?_
 refine ea 71 #[(.bool false),(.slice none 0 0),(.bool false),(.slice none 0 0)] 2 hB fun b12 w12 g12 L12 o12 q12 hB=>?_
 have qr12:=o12
 simp only [p3,p4]
 refine sq_nil ?_
 refine k10 _ _ ?_
 try clear k10 K10
 refine wp_seq_k (fun K13 k13=>?_)
 refine rg [0,1,2,3,4,5,6,7,8] ?_
 replace L11:=L11.gr g12
 refine sw 6 (.agg #[(.string ⟨(Lib.itoa ((q).num):List UInt8).toArray⟩),(.string ⟨(Lib.itoa (((q).den:Int)):List UInt8).toArray⟩)]) rfl (rl 84 0 [(.string ⟨(Lib.itoa ((q).num):List UInt8).toArray⟩),(.string ⟨(Lib.itoa (((q).den:Int)):List UInt8).toArray⟩)] L11) ?_
 refine se ?_
 refine ec 7 (f5_text (q) hq (by omega) _) ?_
 rintro e14 w14 ⟨rfl,g14⟩
 refine ⟨_,rfl,?_⟩
 replace hB:=hB.trans g14
 simp only [p3,p4]
 refine se ?_
 refine ec 8 (parse_q q hq.s64 (by omega) (by omega) (ratL_8 hq) _ (hm.gr hB)) ?_
 rintro e15 w15 ⟨⟨p15,q15,r15,s15,rfl,h15⟩,g15⟩
 refine ⟨_,rfl,?_⟩
 replace hB:=hB.trans g15
 simp only [p3,p4]
 refine sv 5 (.tuple #[(.agg #[p15,q15,r15,s15]),(.int .i64 0)]) ?_
 refine sv 9 (.agg #[p15,q15,r15,s15]) ?_
 refine sv 10 (.int .i64 0) ?_
 refine se ?_
 refine ea 71 #[(.bool false),(.slice none 0 0),(.bool false),(.slice none 0 0)] 3 hB fun b16 w16 g16 L16 o16 q16 hB=>?_
 replace L12:=L12.gr (g14.trans g15)
 have ne12_16:=L12.ne o16
 have qr16:=o16
 simp only [p3,p4]
 refine se ?_
 have lo17:=L16
 refine es 71 0 (.agg #[p15,q15,r15,s15]) [p15,q15,r15,s15] #[p15,q15,r15,s15] L16 hB q16 ⟨h15.one0,h15.one1,h15.one2,h15.one3,trivial⟩ fun w17 st17 kp17 L16 hB=>?_
 refine sv 4 (.int .i64 0) ?_
 refine sq_nil ?_
 refine k13 _ _ ?_
 try clear k13 K13
 refine wp_seq_k (fun K18 k18=>?_)
 refine rg [0,1] ?_
 refine sw 11 (.agg #[p15,q15,r15,s15]) rfl (rl 71 0 [p15,q15,r15,s15] L16) ?_
 refine se ?_
 replace L12:=st17.lc (L12.gr g16) ne12_16
 have lo19:=L12
 refine es 71 0 (.agg #[p15,q15,r15,s15]) [p15,q15,r15,s15] #[p15,q15,r15,s15] L12 hB q12 ⟨h15.one0,h15.one1,h15.one2,h15.one3,trivial⟩ fun w19 st19 kp19 L12 hB=>?_
 refine sq_nil ?_
 refine k18 _ _ ?_
 try clear k18 K18
 refine wp_ret ?_
 refine bodyPost_ret (v:=(.agg #[p15,q15,r15,s15])) (ret_cell _ _ _ rfl rfl L12 (by kernel_rfl)) rfl ⟨?_,hB⟩
 have kq20:=g16.kp.trans (kp17.trans kp19)
 replace h15:=h15.kp kq20
 exact ⟨_,_,_,_,rfl,h15⟩

set_option maxRecDepth 100000 in
set_option maxHeartbeats 1000000 in
theorem l5_list {N:Nat} {vx:Value} {x:Nat→Rat} (_hN:N≤1000) (hz:∀ j,j<N→RZ 8 8 (x j)) {w:World} (hm:Mx w) (hx:Sl EFr 84 2 w vx (tb (fun z1=>(x z1)) N)):
    Calls Tryz.prog 24 #[vx] w fun e w'=>(∃ u,e=.returned u∧Sl (ERat 64) 71 4 w' u (tb (fun z1=>(x z1)) N))∧Gr w w':=by
 go_enter Tryz.func24,Tryz.ntmps24
 have hB:=Gr.refl w
 refine wp_seq_k (fun K10 k10=>?_)
 refine rg [0] ?_
 refine sv 2 (.slice none 0 0) ?_
 refine sq_nil ?_
 refine k10 _ _ ?_
 try clear k10 K10
 refine wp_seq_k (fun K11 k11=>?_)
 refine rg [0] ?_
 refine sv 3 (.slice none 0 0) ?_
 refine sq_nil ?_
 refine k11 _ _ ?_
 try clear k11 K11
 refine wp_seq_k (fun K12 k12=>?_)
 refine wp_seq_k (fun K13 k13=>?_)
 refine rg [0] ?_
 refine sv 4 (.int .i64 0) ?_
 refine sq_nil ?_
 refine k13 _ _ ?_
 try clear k13 K13
 refine wp_block ?_
 refine wp_loop_inv (a:=⟨List.toArray ?l14,[]⟩) (fun n a w'=>∃ (j:Nat) (vo:Value) (u14:Nat→Value),N - j=n∧a=⟨[vx,undef,(.slice none 0 0),vo,(.int .i64 ((j:Int))),(u14 5),(u14 6),(u14 7),(u14 8),(u14 9),(u14 10),(u14 11),(u14 12),(u14 13),(u14 14),(u14 15),(u14 16),(u14 17),(u14 18),undef].toArray,[]⟩∧j≤N∧Ow (ERat 64) 71 4 w' w.heap.size vo (tb (fun z1=>(x z1)) j)∧Gr w w') (N - 0) ?_ ?_
 ·exact ⟨0,(.slice none 0 0),(fun i=>List.getD ?l14 i undef),rfl,rfl,(Nat.zero_le _),(Ow.nil _ _ _ _ _),hB⟩
 rintro n14 a14 w14 ⟨j,vo,u14,rfl,rfl,hkj,oo,hB⟩ K14 k14
 refine wp_seq_k (fun K15 k15=>?_)
 refine wp_seq_k (fun K16 k16=>?_)
 refine rg [0,1,2,3] ?_
 refine sv 5 (.int .i64 ((j:Int))) ?_
 refine sv 6 vx ?_
 refine sw 7 (.int .i64 ((N:Int))) rfl (rv_lenn (e:=84) hx (tb_lenz rfl) _ _ rfl rfl (by kernel_rfl)) ?_
 refine sv 8 (.bool (decide ((j:Int)<(N:Int)))) ?_
 refine sq_nil ?_
 refine k16 _ _ ?_
 try clear k16 K16
 refine wp_cond_split (t:=decide ((j:Int)<(N:Int))) rfl (fun hb17=>?_) (fun hb17=>?_)
 ·have hlj:j<N:=by have:=of_decide_eq_true hb17;omega
  refine wp_skip ?_
  refine k15 _ _ ?_
  try clear k15 K15
  refine wp_seq_k (fun K18 k18=>?_)
  refine wp_block ?_
  refine rg [0,1,2,3,4,5,6,7,8] ?_
  refine sv 11 vo ?_
  refine sv 12 vx ?_
  refine sv 13 (.int .i64 ((j:Int))) ?_
  refine sw 14 (adr vx (j*2)) rfl (rv_idxn (e:=84) hx tb_len (by decide) j (by omega) _ _ _ rfl rfl rfl (by kernel_rfl) (by kernel_rfl)) ?_
  obtain ⟨_,_,rfl,at19⟩:=Sl.get hx (by decide) (tb_get (f:=(fun z1=>(x z1))) (n:=N) (i:=j) (by omega))
  refine sw 15 (.agg #[(.string ⟨(Lib.itoa (((x j)).num):List UInt8).toArray⟩),(.string ⟨(Lib.itoa ((((x j)).den:Int)):List UInt8).toArray⟩)]) rfl (rv_ldn [(.string ⟨(Lib.itoa (((x j)).num):List UInt8).toArray⟩),(.string ⟨(Lib.itoa ((((x j)).den:Int)):List UInt8).toArray⟩)] (at19.gr hB) _ _ rfl rfl (by kernel_rfl)) ?_
  refine se ?_
  refine ec 16 (l5_rat ((x j)) (hz j hlj) _ (hm.gr hB)) ?_
  rintro e20 w20 ⟨⟨p20,q20,r20,s20,rfl,h20⟩,g20⟩
  refine ⟨_,rfl,?_⟩
  replace hB:=hB.trans g20
  simp only [p3,p4]
  refine se ?_
  refine eff_bs 71 1 #[p20,q20,r20,s20] (some 17) rfl (fun _=>by kernel_rfl) (fun b21 w21 g21 L21 q21=>?_)
  replace hB:=hB.trans g21
  simp only [putl,p3,p4]
  refine se ?_
  replace h20:=h20.kp g21.kp
  replace oo:=oo.gr (stab_rat 64) (g20.trans g21)
  refine eff_apg (stab_rat 64) _ _ 49 71 w.heap.size (.agg #[(.bool false),(.slice none 0 0),(.bool false),(.slice none 0 0)]) vo (tb (fun z1=>(x z1)) j) b21 [p20,q20,r20,s20] ((x j)) 4 1 (some 18) 64 rfl rfl rfl rfl oo L21 ⟨h20.one0,h20.one1,h20.one2,h20.one3,trivial⟩ rfl ⟨_,_,_,_,rfl,h20.mono (by omega)⟩ (Below.size hB) (by rw [tb_len];omega) (by decide) (by kernel_rfl) (by kernel_rfl) (by decide) (by decide) (fun v22 w22 ow22 wt22 hg22=>?_)
  replace hB:=hg22 _ hB (Nat.le_refl _)
  replace ow22:=ow22.cast (tb_snoc (f:=(fun z1=>(x z1))) (n:=j) (by first | rfl | exact fil_all))
  simp only [putl,p3,p4]
  refine sv 3 v22 ?_
  refine sq_nil ?_
  refine k18 _ _ ?_
  try clear k18 K18
  refine rg [0,1,2] ?_
  refine sv 9 (.int .i64 ((j:Int))) ?_
  refine sw 10 (.int .i64 (((j:Int)+1))) rfl (RunV.int (x:=IntKind.i64.wrap (((j:Int)+1))) (y:=((j:Int)+1)) (rvk (by kernel_rfl)) (by first | rfl | (rw [IntKind.wrap_i64];omega))) ?_
  refine sv 4 (.int .i64 (((j:Int)+1))) ?_
  refine sq_nil ?_
  refine k14 (N - (j+1)) ⟨List.toArray ?l23,[]⟩ _ (by omega) ?_
  exact ⟨j+1,v22,(fun i=>List.getD ?l23 i undef),rfl,rfl,(by omega),ow22,hB⟩
 ·have hej:N=j:=by have:=of_decide_eq_false hb17;omega
  subst hej
  refine wp_exit ?_
  simp only [Exit.then,Exit.inBlock,↓reduceIte]
  refine k12 _ _ ?_
  try clear k12 K12
  refine wp_seq_k (fun K24 k24=>?_)
  refine rg [0,1] ?_
  refine sv 19 vo ?_
  refine sv 2 vo ?_
  refine sq_nil ?_
  refine k24 _ _ ?_
  try clear k24 K24
  refine wp_ret ?_
  refine bodyPost_ret (v:=vo) (ret_tmp rfl rfl) rfl ⟨?_,hB⟩
  exact ⟨_,rfl,(oo.sl)⟩

set_option maxRecDepth 100000 in
set_option maxHeartbeats 1000000 in
theorem l5_own {R N:Nat} {v:Value} {m:Nat→Nat→Rat} (_hR2:R≤1000) (_hN2:N≤1000) (hz:∀ i,i<R→∀ j,j<N→RZ 8 8 (m i j)) {w:World} (hm:Mx w) (hs:Sl (ERw EFr 84 2) 51 1 w v (tb (fun z0=>tb (fun z1=>(m z0 z1)) N) R)):
    Calls Tryz.prog 15 #[v] w fun e w'=>(∃ u,e=.returned u∧Sl (ERw (ERat 64) 71 4) 49 1 w' u (tb (fun z0=>tb (fun z1=>(m z0 z1)) N) R))∧Gr w w':=by
 go_enter Tryz.func15,Tryz.ntmps15
 have hB:=Gr.refl w
 refine wp_seq_k (fun K10 k10=>?_)
 refine rg [0] ?_
 refine sv 2 (.slice none 0 0) ?_
 refine sq_nil ?_
 refine k10 _ _ ?_
 try clear k10 K10
 refine wp_seq_k (fun K11 k11=>?_)
 refine rg [0] ?_
 refine sv 3 (.slice none 0 0) ?_
 refine sq_nil ?_
 refine k11 _ _ ?_
 try clear k11 K11
 refine wp_seq_k (fun K12 k12=>?_)
 refine wp_seq_k (fun K13 k13=>?_)
 refine rg [0] ?_
 refine sv 4 (.int .i64 0) ?_
 refine sq_nil ?_
 refine k13 _ _ ?_
 try clear k13 K13
 refine wp_block ?_
 refine wp_loop_inv (a:=⟨List.toArray ?l14,[]⟩) (fun n a w'=>∃ (j:Nat) (vo:Value) (u14:Nat→Value),R - j=n∧a=⟨[v,undef,(.slice none 0 0),vo,(.int .i64 ((j:Int))),(u14 5),(u14 6),(u14 7),(u14 8),(u14 9),(u14 10),(u14 11),(u14 12),(u14 13),(u14 14),(u14 15),(u14 16),(u14 17),(u14 18),undef].toArray,[]⟩∧j≤R∧Ow (ERw (ERat 64) 71 4) 49 1 w' w.heap.size vo (tb (fun z0=>tb (fun z1=>(m z0 z1)) N) j)∧Gr w w') (R - 0) ?_ ?_
 ·exact ⟨0,(.slice none 0 0),(fun i=>List.getD ?l14 i undef),rfl,rfl,(Nat.zero_le _),(Ow.nil _ _ _ _ _),hB⟩
 rintro n14 a14 w14 ⟨j,vo,u14,rfl,rfl,hkj,oo,hB⟩ K14 k14
 have lehC:=Below.size hB
 have hC:=Gr.refl w14
 refine wp_seq_k (fun K15 k15=>?_)
 refine wp_seq_k (fun K16 k16=>?_)
 refine rg [0,1,2,3] ?_
 refine sv 5 (.int .i64 ((j:Int))) ?_
 refine sv 6 v ?_
 refine sw 7 (.int .i64 ((R:Int))) rfl (rv_lenn (e:=51) hs (tb_lenz rfl) _ _ rfl rfl (by kernel_rfl)) ?_
 refine sv 8 (.bool (decide ((j:Int)<(R:Int)))) ?_
 refine sq_nil ?_
 refine k16 _ _ ?_
 try clear k16 K16
 refine wp_cond_split (t:=decide ((j:Int)<(R:Int))) rfl (fun hb17=>?_) (fun hb17=>?_)
 ·have hlj:j<R:=by have:=of_decide_eq_true hb17;omega
  refine wp_skip ?_
  refine k15 _ _ ?_
  try clear k15 K15
  refine wp_seq_k (fun K18 k18=>?_)
  refine wp_block ?_
  refine rg [0,1,2,3,4,5,6,7,8] ?_
  refine sv 11 vo ?_
  refine sv 12 v ?_
  refine sv 13 (.int .i64 ((j:Int))) ?_
  refine sw 14 (adr v (j*1)) rfl (rv_idxn (e:=51) hs tb_len (by decide) j (by omega) _ _ _ rfl rfl rfl (by kernel_rfl) (by kernel_rfl)) ?_
  obtain ⟨_,_,⟨u19,rfl,hr19⟩,at19⟩:=Sl.get hs (by decide) (tb_get (f:=(fun z0=>tb (fun z1=>(m z0 z1)) N)) (n:=R) (i:=j) (by omega))
  refine sw 15 u19 rfl (rv_ld1 u19 (at19.gr hB) _ _ rfl rfl (by kernel_rfl)) ?_
  refine se ?_
  refine ec 16 (l5_list (by omega) (hz j hlj) (hm.gr hB) (hr19.gr stab_fr hB)) ?_
  rintro e20 w20 ⟨⟨u20,rfl,hs20⟩,g20⟩
  refine ⟨_,rfl,?_⟩
  replace hB:=hB.trans g20
  replace hC:=hC.trans g20
  simp only [p3,p4]
  refine se ?_
  refine eff_bs1 29 49 u20 (some 17) rfl rfl rfl hs20.forms (fun _ _ _ _=>by kernel_rfl) (fun b21 w21 g21 L21 q21=>?_)
  have q21_hC:=Nat.le_trans (Below.size hC) q21
  replace hB:=hB.trans g21
  replace hC:=hC.trans g21
  simp only [putl,p3,p4]
  refine se ?_
  replace hs20:=hs20.gr (stab_rat 64) g21
  refine eff_apg (stab_rw (stab_rat 64) 71 4) _ _ 29 49 w.heap.size (.slice none 0 0) vo (tb (fun z0=>tb (fun z1=>(m z0 z1)) N) j) b21 [u20] (tb (fun z1=>(m j z1)) N) 1 1 (some 18) 24 rfl rfl rfl rfl (oo.gr (stab_rw (stab_rat 64) 71 4) hC) L21 ⟨hs20.one,trivial⟩ rfl ⟨_,rfl,hs20⟩ (Below.size hB) (by rw [tb_len];omega) (by decide) (by kernel_rfl) (by kernel_rfl) (by decide) (by decide) (fun v22 w22 ow22 wt22 hg22=>?_)
  replace hB:=hg22 _ hB (Nat.le_refl _)
  replace ow22:=ow22.cast (tb_snoc (f:=(fun z0=>tb (fun z1=>(m z0 z1)) N)) (n:=j) (by first | rfl | exact fil_all))
  simp only [putl,p3,p4]
  refine sv 3 v22 ?_
  refine sq_nil ?_
  refine k18 _ _ ?_
  try clear k18 K18
  refine rg [0,1,2] ?_
  refine sv 9 (.int .i64 ((j:Int))) ?_
  refine sw 10 (.int .i64 (((j:Int)+1))) rfl (RunV.int (x:=IntKind.i64.wrap (((j:Int)+1))) (y:=((j:Int)+1)) (rvk (by kernel_rfl)) (by first | rfl | (rw [IntKind.wrap_i64];omega))) ?_
  refine sv 4 (.int .i64 (((j:Int)+1))) ?_
  refine sq_nil ?_
  refine k14 (R - (j+1)) ⟨List.toArray ?l23,[]⟩ _ (by omega) ?_
  exact ⟨j+1,v22,(fun i=>List.getD ?l23 i undef),rfl,rfl,(by omega),ow22,hB⟩
 ·have hej:R=j:=by have:=of_decide_eq_false hb17;omega
  subst hej
  refine wp_exit ?_
  simp only [Exit.then,Exit.inBlock,↓reduceIte]
  refine k12 _ _ ?_
  try clear k12 K12
  refine wp_seq_k (fun K24 k24=>?_)
  refine rg [0,1] ?_
  refine sv 19 vo ?_
  refine sv 2 vo ?_
  refine sq_nil ?_
  refine k24 _ _ ?_
  try clear k24 K24
  refine wp_ret ?_
  refine bodyPost_ret (v:=vo) (ret_tmp rfl rfl) rfl ⟨?_,hB⟩
  exact ⟨_,rfl,((oo.gr (stab_rw (stab_rat 64) 71 4) hC).sl)⟩

set_option maxRecDepth 100000 in
set_option maxHeartbeats 1000000 in
theorem l5_equal {K L N:Nat} {va vx:Value} {x:Nat→Rat} (_hN:N≤1000) (_hK:K≤100000) (_hL:L≤19000) (hz:∀ j,j<N→RZ L L (x j)) {w:World} (ht:Tab w) (ha:Sl (ERat K) 71 4 w va (tb (fun z1=>(x z1)) N)) (hx:Sl EFr 84 2 w vx (tb (fun z1=>(x z1)) N)):
    Calls Tryz.prog 35 #[va,vx] w fun e w'=>e=.returned (.bool true)∧Gr w w':=by
 go_enter Tryz.func35,Tryz.ntmps35
 have hB:=Gr.refl w
 refine wp_seq_k (fun K10 k10=>?_)
 refine rg [0] ?_
 refine sv 4 (.bool false) ?_
 refine sq_nil ?_
 refine k10 _ _ ?_
 try clear k10 K10
 refine wp_seq_k (fun K11 k11=>?_)
 refine wp_seq_k (fun K12 k12=>?_)
 refine rg [0,1,2,3,4] ?_
 refine sv 6 va ?_
 refine sw 7 (.int .i64 ((N:Int))) rfl (rv_lenn (e:=71) ha (tb_lenz rfl) _ _ rfl rfl (by kernel_rfl)) ?_
 refine sv 8 vx ?_
 refine sw 9 (.int .i64 ((N:Int))) rfl (rv_lenn (e:=84) hx (tb_lenz rfl) _ _ rfl rfl (by kernel_rfl)) ?_
 have hb13:(((N:Int) !=(N:Int)))=false:=(by simp)
 refine sw 10 (.bool false) rfl (RunV.bool (x:=((N:Int) !=(N:Int))) (rvk (by kernel_rfl)) hb13) ?_
 refine sq_nil ?_
 refine k12 _ _ ?_
 try clear k12 K12
 refine wp_cond_false rfl ?_
 refine wp_skip ?_
 refine k11 _ _ ?_
 try clear k11 K11
 refine wp_seq_k (fun K14 k14=>?_)
 refine wp_seq_k (fun K15 k15=>?_)
 refine rg [0] ?_
 refine sv 5 (.int .i64 0) ?_
 refine sq_nil ?_
 refine k15 _ _ ?_
 try clear k15 K15
 refine wp_block ?_
 refine wp_loop_inv (a:=⟨List.toArray ?l16,[]⟩) (fun n a w'=>∃ (j:Nat) (u16:Nat→Value),N - j=n∧a=⟨[va,vx,undef,undef,(u16 4),(.int .i64 ((j:Int))),(u16 6),(u16 7),(u16 8),(u16 9),(.bool false),(u16 11),(u16 12),(u16 13),(u16 14),(u16 15),(u16 16),(u16 17),(u16 18),(u16 19),(u16 20),(u16 21),(u16 22),(u16 23),(u16 24),(u16 25),(u16 26),(u16 27)].toArray,[]⟩∧j≤N∧Gr w w') (N - 0) ?_ ?_
 ·exact ⟨0,(fun i=>List.getD ?l16 i undef),rfl,rfl,(Nat.zero_le _),hB⟩
 rintro n16 a16 w16 ⟨j,u16,rfl,rfl,hkj,hB⟩ K16 k16
 refine wp_seq_k (fun K17 k17=>?_)
 refine wp_seq_k (fun K18 k18=>?_)
 refine rg [0,1,2,3] ?_
 refine sv 11 (.int .i64 ((j:Int))) ?_
 refine sv 12 va ?_
 refine sw 13 (.int .i64 ((N:Int))) rfl (rv_lenn (e:=71) ha (tb_lenz rfl) _ _ rfl rfl (by kernel_rfl)) ?_
 refine sv 14 (.bool (decide ((j:Int)<(N:Int)))) ?_
 refine sq_nil ?_
 refine k18 _ _ ?_
 try clear k18 K18
 refine wp_cond_split (t:=decide ((j:Int)<(N:Int))) rfl (fun hb19=>?_) (fun hb19=>?_)
 ·have hlj:j<N:=by have:=of_decide_eq_true hb19;omega
  refine wp_skip ?_
  refine k17 _ _ ?_
  try clear k17 K17
  refine wp_seq_k (fun K20 k20=>?_)
  refine wp_block ?_
  refine wp_seq_k (fun K21 k21=>?_)
  obtain ⟨_,_,⟨cA28,cB28,cC28,cD28,rfl,h28⟩,at28⟩:=Sl.get ha (by decide) (tb_get (f:=(fun z1=>(x z1))) (n:=N) (i:=j) (by omega))
  obtain ⟨_,_,rfl,at29⟩:=Sl.get hx (by decide) (tb_get (f:=(fun z1=>(x z1))) (n:=N) (i:=j) (by omega))
  have gd30:=Gr.drew w16
  replace hB:=hB.trans gd30
  refine wp_region_ord (fun w'=>AtV w' va (j*4) [cA28,cB28,cC28,cD28]∧AtV w' vx (j*2) [(.string ⟨(Lib.itoa (((x j)).num):List UInt8).toArray⟩),(.string ⟨(Lib.itoa ((((x j)).den:Int)):List UInt8).toArray⟩)]) [(true,0),(true,1),(true,2),(true,3),(true,5),(true,6),(true,7),(true,8),(false,4),(false,9),(true,10)] (by kernel_rfl) (by kernel_rfl) (by kernel_rfl) (by decide) (fun _ _ _ _ _ h=>h) ⟨(at28.gr hB),(at29.gr hB)⟩ ?_
  refine ov 17 va ?_
  refine ov 18 (.int .i64 ((j:Int))) ?_
  refine ow 19 (adr va (j*4)) rfl (fun w' hS=>(rv_idxn (e:=71) ha tb_len (by decide) j (by omega) _ _ _ rfl rfl rfl (by kernel_rfl) (by kernel_rfl))) ?_
  refine ow 20 (.agg #[cA28,cB28,cC28,cD28]) rfl (fun w' hS=>(rv_ldn [cA28,cB28,cC28,cD28] hS.1 _ _ rfl rfl (by kernel_rfl))) ?_
  refine ov 22 vx ?_
  refine ov 23 (.int .i64 ((j:Int))) ?_
  refine ow 24 (adr vx (j*2)) rfl (fun w' hS=>(rv_idxn (e:=84) hx tb_len (by decide) j (by omega) _ _ _ rfl rfl rfl (by kernel_rfl) (by kernel_rfl))) ?_
  refine ow 25 (.agg #[(.string ⟨(Lib.itoa (((x j)).num):List UInt8).toArray⟩),(.string ⟨(Lib.itoa ((((x j)).den:Int)):List UInt8).toArray⟩)]) rfl (fun w' hS=>(rv_ldn [(.string ⟨(Lib.itoa (((x j)).num):List UInt8).toArray⟩),(.string ⟨(Lib.itoa ((((x j)).den:Int)):List UInt8).toArray⟩)] hS.2 _ _ rfl rfl (by kernel_rfl))) ?_
  refine oe ?_
  refine ec 21 (number_r (h28.kp hB.kp) (by omega) (ht.gr hB)) ?_
  rintro e32 w32 ⟨rfl,g32⟩
  refine ⟨_,rfl,?_⟩
  replace hB:=hB.trans g32
  refine ⟨⟨(at28.gr hB),(at29.gr hB)⟩,?_⟩
  simp only [p3,p4]
  refine oe ?_
  refine ec 26 (f5_text ((x j)) (hz j hlj) (by omega) _) ?_
  rintro e34 w34 ⟨rfl,g34⟩
  refine ⟨_,rfl,?_⟩
  replace hB:=hB.trans g34
  refine ⟨⟨(at28.gr hB),(at29.gr hB)⟩,?_⟩
  simp only [p3,p4]
  have hb35:(((ratL ((x j))) !=(ratL ((x j)))))=false:=(by simp)
  refine ow 27 (.bool false) rfl (fun w' hS=>(RunV.bool (x:=((ratL ((x j))) !=(ratL ((x j))))) (rv_sne 9 9 _ _ (ratL ((x j))) (ratL ((x j))) rfl rfl rfl) hb35)) ?_
  refine ord_nil ?_
  refine k21 _ _ ?_
  try clear k21 K21
  refine wp_cond_false rfl ?_
  refine wp_skip ?_
  refine k20 _ _ ?_
  try clear k20 K20
  refine rg [0,1,2] ?_
  refine sv 15 (.int .i64 ((j:Int))) ?_
  refine sw 16 (.int .i64 (((j:Int)+1))) rfl (RunV.int (x:=IntKind.i64.wrap (((j:Int)+1))) (y:=((j:Int)+1)) (rvk (by kernel_rfl)) (by first | rfl | (rw [IntKind.wrap_i64];omega))) ?_
  refine sv 5 (.int .i64 (((j:Int)+1))) ?_
  refine sq_nil ?_
  refine k16 (N - (j+1)) ⟨List.toArray ?l36,[]⟩ _ (by omega) ?_
  exact ⟨j+1,(fun i=>List.getD ?l36 i undef),rfl,rfl,(by omega),hB⟩
 ·have hej:N=j:=by have:=of_decide_eq_false hb19;omega
  subst hej
  refine wp_exit ?_
  simp only [Exit.then,Exit.inBlock,↓reduceIte]
  refine k14 _ _ ?_
  try clear k14 K14
  refine wp_seq_k (fun K37 k37=>?_)
  refine rg [0] ?_
  refine sv 4 (.bool true) ?_
  refine sq_nil ?_
  refine k37 _ _ ?_
  try clear k37 K37
  refine wp_ret ?_
  refine bodyPost_ret (v:=(.bool true)) (ret_tmp rfl rfl) rfl ⟨?_,hB⟩
  exact rfl

set_option maxRecDepth 100000 in
set_option maxHeartbeats 1000000 in
theorem l5_is {K L R N:Nat} {va vx:Value} {m:Nat→Nat→Rat} (_hR2:R≤1000) (_hN:N≤1000) (hK:K≤100000) (hL:L≤19000) (hz:∀ i,i<R→∀ j,j<N→RZ L L (m i j)) {w:World} (ht:Tab w) (ha:Sl (ERw (ERat K) 71 4) 49 1 w va (tb (fun z0=>tb (fun z1=>(m z0 z1)) N) R)) (hx:Sl (ERw EFr 84 2) 51 1 w vx (tb (fun z0=>tb (fun z1=>(m z0 z1)) N) R)):
    Calls Tryz.prog 18 #[va,vx] w fun e w'=>e=.returned (.bool true)∧Gr w w':=by
 go_enter Tryz.func18,Tryz.ntmps18
 have hB:=Gr.refl w
 refine wp_seq_k (fun K10 k10=>?_)
 refine rg [0] ?_
 refine sv 4 (.bool false) ?_
 refine sq_nil ?_
 refine k10 _ _ ?_
 try clear k10 K10
 refine wp_seq_k (fun K11 k11=>?_)
 refine wp_seq_k (fun K12 k12=>?_)
 refine rg [0,1,2,3,4] ?_
 refine sv 6 va ?_
 refine sw 7 (.int .i64 ((R:Int))) rfl (rv_lenn (e:=49) ha (tb_lenz rfl) _ _ rfl rfl (by kernel_rfl)) ?_
 refine sv 8 vx ?_
 refine sw 9 (.int .i64 ((R:Int))) rfl (rv_lenn (e:=51) hx (tb_lenz rfl) _ _ rfl rfl (by kernel_rfl)) ?_
 have hb13:(((R:Int) !=(R:Int)))=false:=(by simp)
 refine sw 10 (.bool false) rfl (RunV.bool (x:=((R:Int) !=(R:Int))) (rvk (by kernel_rfl)) hb13) ?_
 refine sq_nil ?_
 refine k12 _ _ ?_
 try clear k12 K12
 refine wp_cond_false rfl ?_
 refine wp_skip ?_
 refine k11 _ _ ?_
 try clear k11 K11
 refine wp_seq_k (fun K14 k14=>?_)
 refine wp_seq_k (fun K15 k15=>?_)
 refine rg [0] ?_
 refine sv 5 (.int .i64 0) ?_
 refine sq_nil ?_
 refine k15 _ _ ?_
 try clear k15 K15
 refine wp_block ?_
 refine wp_loop_inv (a:=⟨List.toArray ?l16,[]⟩) (fun n a w'=>∃ (j:Nat) (u16:Nat→Value),R - j=n∧a=⟨[va,vx,undef,undef,(u16 4),(.int .i64 ((j:Int))),(u16 6),(u16 7),(u16 8),(u16 9),(.bool false),(u16 11),(u16 12),(u16 13),(u16 14),(u16 15),(u16 16),(u16 17),(u16 18),(u16 19),(u16 20),(u16 21),(u16 22),(u16 23),(u16 24),(u16 25),(u16 26)].toArray,[]⟩∧j≤R∧Gr w w') (R - 0) ?_ ?_
 ·exact ⟨0,(fun i=>List.getD ?l16 i undef),rfl,rfl,(Nat.zero_le _),hB⟩
 rintro n16 a16 w16 ⟨j,u16,rfl,rfl,hkj,hB⟩ K16 k16
 refine wp_seq_k (fun K17 k17=>?_)
 refine wp_seq_k (fun K18 k18=>?_)
 refine rg [0,1,2,3] ?_
 refine sv 11 (.int .i64 ((j:Int))) ?_
 refine sv 12 va ?_
 refine sw 13 (.int .i64 ((R:Int))) rfl (rv_lenn (e:=49) ha (tb_lenz rfl) _ _ rfl rfl (by kernel_rfl)) ?_
 refine sv 14 (.bool (decide ((j:Int)<(R:Int)))) ?_
 refine sq_nil ?_
 refine k18 _ _ ?_
 try clear k18 K18
 refine wp_cond_split (t:=decide ((j:Int)<(R:Int))) rfl (fun hb19=>?_) (fun hb19=>?_)
 ·have hlj:j<R:=by have:=of_decide_eq_true hb19;omega
  refine wp_skip ?_
  refine k17 _ _ ?_
  try clear k17 K17
  refine wp_seq_k (fun K20 k20=>?_)
  refine wp_block ?_
  refine wp_seq_k (fun K21 k21=>?_)
  obtain ⟨_,_,⟨u25,rfl,hr25⟩,at25⟩:=Sl.get ha (by decide) (tb_get (f:=(fun z0=>tb (fun z1=>(m z0 z1)) N)) (n:=R) (i:=j) (by omega))
  obtain ⟨_,_,⟨u26,rfl,hr26⟩,at26⟩:=Sl.get hx (by decide) (tb_get (f:=(fun z0=>tb (fun z1=>(m z0 z1)) N)) (n:=R) (i:=j) (by omega))
  have gd27:=Gr.drew w16
  replace hB:=hB.trans gd27
  refine wp_region_ord (fun w'=>AtV w' va (j*1) [u25]∧AtV w' vx (j*1) [u26]) [(true,0),(true,1),(true,2),(true,3),(true,4),(true,5),(true,6),(true,7),(false,8),(true,9)] (by kernel_rfl) (by kernel_rfl) (by kernel_rfl) (by decide) (fun _ _ _ _ _ h=>h) ⟨(at25.gr hB),(at26.gr hB)⟩ ?_
  refine ov 17 va ?_
  refine ov 18 (.int .i64 ((j:Int))) ?_
  refine ow 19 (adr va (j*1)) rfl (fun w' hS=>(rv_idxn (e:=49) ha tb_len (by decide) j (by omega) _ _ _ rfl rfl rfl (by kernel_rfl) (by kernel_rfl))) ?_
  refine ow 20 u25 rfl (fun w' hS=>(rv_ld1 u25 hS.1 _ _ rfl rfl (by kernel_rfl))) ?_
  refine ov 21 vx ?_
  refine ov 22 (.int .i64 ((j:Int))) ?_
  refine ow 23 (adr vx (j*1)) rfl (fun w' hS=>(rv_idxn (e:=51) hx tb_len (by decide) j (by omega) _ _ _ rfl rfl rfl (by kernel_rfl) (by kernel_rfl))) ?_
  refine ow 24 u26 rfl (fun w' hS=>(rv_ld1 u26 hS.2 _ _ rfl rfl (by kernel_rfl))) ?_
  refine oe ?_
  refine ec 25 (l5_equal (by omega) hK hL (hz j hlj) (ht.gr hB) (hr25.gr (stab_rat K) hB) (hr26.gr stab_fr hB)) ?_
  rintro e29 w29 ⟨rfl,g29⟩
  refine ⟨_,rfl,?_⟩
  replace hB:=hB.trans g29
  refine ⟨⟨(at25.gr hB),(at26.gr hB)⟩,?_⟩
  simp only [p3,p4]
  refine ov 26 (.bool false) ?_
  refine ord_nil ?_
  refine k21 _ _ ?_
  try clear k21 K21
  refine wp_cond_false rfl ?_
  refine wp_skip ?_
  refine k20 _ _ ?_
  try clear k20 K20
  refine rg [0,1,2] ?_
  refine sv 15 (.int .i64 ((j:Int))) ?_
  refine sw 16 (.int .i64 (((j:Int)+1))) rfl (RunV.int (x:=IntKind.i64.wrap (((j:Int)+1))) (y:=((j:Int)+1)) (rvk (by kernel_rfl)) (by first | rfl | (rw [IntKind.wrap_i64];omega))) ?_
  refine sv 5 (.int .i64 (((j:Int)+1))) ?_
  refine sq_nil ?_
  refine k16 (R - (j+1)) ⟨List.toArray ?l30,[]⟩ _ (by omega) ?_
  exact ⟨j+1,(fun i=>List.getD ?l30 i undef),rfl,rfl,(by omega),hB⟩
 ·have hej:R=j:=by have:=of_decide_eq_false hb19;omega
  subst hej
  refine wp_exit ?_
  simp only [Exit.then,Exit.inBlock,↓reduceIte]
  refine k14 _ _ ?_
  try clear k14 K14
  refine wp_seq_k (fun K31 k31=>?_)
  refine rg [0] ?_
  refine sv 4 (.bool true) ?_
  refine sq_nil ?_
  refine k31 _ _ ?_
  try clear k31 K31
  refine wp_ret ?_
  refine bodyPost_ret (v:=(.bool true)) (ret_tmp rfl rfl) rfl ⟨?_,hB⟩
  exact rfl

/-- a pair:a small int,a byte -/
def EEn (_:World) (p:Int × Int) (vs:List Value):Prop:=vs=[.int .i8 p.1,.int .u8 p.2]∧(-128≤p.1∧p.1≤127)∧(0≤p.2∧p.2≤255)
theorem stab_en:Stab EEn []:=fun _ _ _ _ _ h=>h
section
variable {α β:Type} {E:World→α→List Value→Prop} {F:World→β→List Value→Prop} {T:TypeId} {c:Nat} {w:World} {v:Value} {xs:List α}
theorem Sl.mapE (h:Sl E T c w v xs) (g:α→β) (hg:∀ x vs,E w x vs→F w (g x) vs):Sl F T c w v (xs.map g):=by
  obtain ⟨ys,h1,h2⟩:=h
  refine ⟨ys,by rw [List.length_map];exact h1,by rw [h2.1,List.length_map],fun i x hx=>?_⟩
  rw [List.getElem?_map,Option.map_eq_some_iff] at hx
  obtain ⟨y,hy,rfl⟩:=hx
  exact hg _ _ (h2.2 i y hy)
theorem list_tb (d:α) (xs:List α):xs=tb (fun i=>xs.getD i d) xs.length:=by
  apply List.ext_getElem?
  intro i
  by_cases h:i<xs.length
  · rw [tb_get h,List.getD_eq_getElem?_getD,List.getElem?_eq_getElem h];rfl
  · rw [List.getElem?_eq_none (by omega),List.getElem?_eq_none (by rw [tb_len];omega)]
end
theorem ek_en {w:World} {x:List Int} {vs:List Value} (h:EK [.i8,.u8] w x vs):EEn w (x.getD 0 0,x.getD 1 0) vs:=by
  obtain ⟨h1,h2,h3⟩:=h
  match x,h1 with
  | [a,b],_=>
    have ha:IntKind.i8.has a:=h3 0 .i8 rfl
    have hb:IntKind.u8.has b:=h3 1 .u8 rfl
    refine ⟨by simpa using h2,?_,?_⟩
    · exact ha
    · exact hb
section
variable {P:Program} {a:Act} {o:Oper} {w:World}
theorem rv_fld {v:Value} {j off:Nat} {vs:List Value} {w0:World} (h:AtV w0 v j vs) {fs:Array Field} {f:Field} (t:TypeId) (x:Operand) (i:Nat) (hop:o.op=.fieldAddr t x i) (hx:a.eval x=adr v j) (hu:P.underlying t=some (.struct fs)) (hf:fs[i]?=some f) (ho:f.offset=off) {sz:Nat} (hs:(P.info? f.type).map (·.size)=some (sz+1)):
    RunV P a o w (adr v (j+off)):=by
  obtain ⟨b,o2,n,cap,rfl,_⟩:=h
  obtain ⟨inf,hi,hsz⟩:=Option.map_eq_some_iff.1 hs
  have hx':a.eval x=.pointer (some ⟨b,o2+j,none⟩):=hx
  unfold RunV execOp
  simp only [hop,hx']
  by_cases h0:off=0<;>simp [Instr.fieldAt,Instr.sureAddr,fieldPlace,run_underlying hu,hf,ho,h0,adr,Addr.add,Nat.add_assoc,sizeOf,typeInfo,hi,hsz]
def fldAt (P:Program) (t:TypeId) (i:Nat):Option Nat:=
  match P.underlying t with
  | some (.struct fs)=>match fs[i]? with
    | some f=>match P.info? f.type with
      | some inf=>if inf.size=0 then none else some f.offset
      | none=>none
    | none=>none
  | _=>none
theorem rv_fldk {v:Value} {j off:Nat} {vs:List Value} {w0:World} (h:AtV w0 v j vs) (t:TypeId) (x:Operand) (i:Nat) (hop:o.op=.fieldAddr t x i) (hx:a.eval x=adr v j) (hk:fldAt P t i=some off):RunV P a o w (adr v (j+off)):=by
  unfold fldAt at hk
  split at hk
  · next fs hu=>
    split at hk
    · next f hf=>
      split at hk
      · next inf hi=>
        split at hk
        · cases hk
        · next hz=>exact rv_fld h t x i hop hx hu hf (Option.some.inj hk) (sz:=inf.size - 1) (by rw [hi];show some inf.size=_;congr 1;omega)
      · cases hk
    · cases hk
  · cases hk
theorem AtV.part {v:Value} {j i:Nat} {vs us:List Value} (h:AtV w v j vs) (hu:(vs.drop i).take us.length=us):AtV w v (j+i) us:=by
  obtain ⟨b,o2,n,cap,rfl,hr⟩:=h
  refine ⟨b,o2,n,cap,rfl,fun k u hk=>?_⟩
  have hl:k<us.length:=(List.getElem?_eq_some_iff.1 hk).1
  have:vs[i+k]?=some u:=by
    have e:((vs.drop i).take us.length)[k]?=some u:=by rw [hu];exact hk
    rwa [List.getElem?_take_of_lt hl,List.getElem?_drop] at e
  have:=hr (i+k) u this
  rw [show o2+(j+i)+k=o2+j+(i+k) by omega]
  exact this
end
/-- the number of an entry;0 where one is missing -/
def en (e:Nat→Int × Int) (Z k:Nat):Rat:=if k<Z then (((e k).1:Int):Rat)/(((1+(e k).2 % 6:Int):Int):Rat) else (((0:Int):Int):Rat)/(((1:Int):Int):Rat)
theorem en_in {e:Nat→Int × Int} {Z k:Nat} (h:k<Z):(((e k).1:Int):Rat)/(((1+(e k).2 % 6:Int):Int):Rat)=en e Z k:=(if_pos h).symm
theorem en_out {e:Nat→Int × Int} {Z k:Nat} (h:¬ k<Z):(((0:Int):Int):Rat)/(((1:Int):Int):Rat)=en e Z k:=(if_neg h).symm
theorem en_z {e:Nat→Int × Int} {Z k:Nat} (he:∀ k,k<Z→(-128≤(e k).1∧(e k).1≤127)∧(0≤(e k).2∧(e k).2≤255)):RZ 8 3 (en e Z k):=by
  unfold en
  split
  · next h=>
    have:=he k h
    rw [← Rat.divInt_eq_div]
    exact rz_divInt (by unfold Sz;omega) (by unfold Sz;omega) (by omega)
  · rw [← Rat.divInt_eq_div]
    exact rz_divInt (by unfold Sz;decide) (by unfold Sz;decide) (by decide)
end Go.Proofs.YtepgkcimmdmgcaaGreatDoor
namespace Go.Proofs.YtepgkcimmdmgcaaGreatDoor
theorem rz1:RZ 1 1 (1:Rat):=RZ.int (z:=1) (by unfold Sz;decide)
section
variable {R n N b P:Nat} {m:Mx_}
theorem rs_all (z:Bd) (hf:∀ i,i<R→∀ k,k<n→RZ z.a z.d (m i k)) (hs:∀ i,i<R→∀ k,n≤k→k<N→RZ z.A z.D (m i k)) (he:1≤z.e) (hn:n≤P∨R≤P) (hb:max (max (z.it P).a (z.it P).d) (max (max (z.it P).A (z.it P).D) (z.it P).e)≤b):∀ k,k≤n→RdZ R N b (rs R m k):=
  Bnd.all ⟨hf,hs,rz1.mono he he⟩ hn hb
theorem rs_fd (z:Bd) (hf:∀ i,i<R→∀ k,k<n→RZ z.a z.d (m i k)) (hs:∀ i,i<R→∀ k,n≤k→k<N→RZ z.A z.D (m i k)) (he:1≤z.e) (hn:n≤P+1∨R≤P+1) (hb:max (max (z.it P).a (z.it P).d) (max (z.it P).A (z.it P).D)≤b):∀ k i,k<n→Fd R m k i→∀ a,a<R→∀ c,c<N→RZ b b ((rs R m k).m a c):=fun k i hk hf2 a ha c hc=>by
  have h1:Bnd R n N z ⟨m,[],1⟩:=⟨hf,hs,rz1.mono he he⟩
  have h2:=h1.red k (Nat.le_of_lt hk)
  have hl:=hf2.lt
  have hp:=rs_ple R m k
  have h3:=z.le_it (n:=(redR R k ⟨m,[],1⟩).p.length) (m:=P) (by show pl R m k≤P;omega)
  have a1:=h3.1;have a2:=h3.2;have a3:=h3.3;have a4:=h3.4
  rcases Nat.lt_or_ge c n with hc1 | hc1
  · exact (h2.fst a ha c hc1).mono (by omega) (by omega)
  · exact (h2.snd a ha c hc1 hc).mono (by omega) (by omega)
/-- tables of small numbers -/
theorem rs_sm (hz:∀ i,i<R→∀ k,k<N→RZ 8 3 (m i k)) (hn:n≤5∨R≤5) (hN:n≤N):∀ k,k≤n→RdZ R N 4899 (rs R m k):=
  rs_all ⟨8,3,8,3,1⟩ (fun i hi k hk=>hz i hi k (by omega)) (fun i hi k _ hk=>hz i hi k hk) (Nat.le_refl _) hn (by decide)
theorem rs_sf (hz:∀ i,i<R→∀ k,k<N→RZ 8 3 (m i k)) (hn:N≤6∨R≤6):∀ k i,k<N→Fd R m k i→∀ a,a<R→∀ c,c<N→RZ 4899 4899 ((rs R m k).m a c):=
  rs_fd (P:=5) ⟨8,3,8,3,1⟩ hz (fun i hi k h1 h2=>absurd h1 (by omega)) (Nat.le_refl _) hn (by decide)
end
/-! ### the columns without a pivot -/
section
variable {R n N f t k:Nat} {m:Mx_} {g:Nat→Rat}
end
/-! ### equations -/
section
variable {R N:Nat} {m:Mx_} {b x:Nat→Rat}
end
/-! ### inverses -/
section
variable {R:Nat} {m:Mx_}
theorem wid_z {a d:Nat} (ha:1≤a) (hd:1≤d) (hz:∀ i,i<R→∀ k,k<R→RZ a d (m i k)):∀ i,i<R→∀ k,k<R+R→RZ a d (wid R m i k):=fun i hi k _=>by
  unfold wid
  split
  · next h=>exact hz i hi k h
  · split
    · exact rz1.mono ha hd
    · exact RZ.zero _ _ hd
theorem full_P (R:Nat) (m:Mx_):(∀ t,t<R→(t<pl R (wid R m) (R+R)∧pv (rs R (wid R m) (R+R)) t=t))↔¬ pl R (wid R m) R<R:=by
  have h:=full_iff (R:=R) (M:=R+R) (w:=wid R m) 1 (by omega)
  have hl:=rs_len R (wid R m) R
  constructor
  · intro h1 h2
    have:=h.1 fun i hi=>by
      obtain ⟨a,b⟩:=h1 i hi
      unfold pv at b
      have e:(rs R (wid R m) (R+R)).p[i]?=some ((rs R (wid R m) (R+R)).p[i]'a):=List.getElem?_eq_getElem a
      rw [List.getD_eq_getElem?_getD,e,Option.getD_some] at b
      show (rs R (wid R m) (R+R)).p[i]?=some i
      rw [e,b]
    have e:pl R (wid R m) R=R:=this
    omega
  · intro h1 t ht
    have h2:=h.2 (by show pl R (wid R m) R=R;omega) t ht
    have e:(rs R (wid R m) (R+R)).p[t]?=some t:=h2
    obtain ⟨a,b⟩:=List.getElem?_eq_some_iff.1 e
    refine ⟨a,?_⟩
    unfold pv
    rw [List.getD_eq_getElem?_getD,e,Option.getD_some]
theorem inv_same (h:¬ pl R (wid R m) R<R):rs R (wid R m) (R+R)=rs R (wid R m) R:=rs_full h (by omega)
theorem one_mul {R:Nat} {x:Nat→Rat} {i:Nat} (hi:i<R):sm R (fun k=>one_ i k*x k)=x i:=by
  rw [sm_one hi fun j _ hj=>by unfold one_;rw [if_neg (Ne.symm hj)];grind]
  unfold one_
  rw [if_pos rfl];grind
end
/-! ### reducing twice -/
section
variable {R N b:Nat} {m:Mx_}
end
/-! ### products -/
end Go.Proofs.YtepgkcimmdmgcaaGreatDoor
namespace Go.Proofs.YtepgkcimmdmgcaaGreatDoor
open Go.RowKit

set_option maxRecDepth 100000 in
set_option maxHeartbeats 1000000 in
theorem l5_numbers {R N:Nat} {v:Value} {nn:Nat→Nat→Int} (_hR:R≤1000) (_hN:N≤1000) (hb:∀ i,i<R→∀ j,j<N→-9223372036854775808≤nn i j∧nn i j≤9223372036854775807) {w:World} (hs:Sl (ERw EI64 3 1) 30 1 w v (tb (fun z0=>tb (fun z1=>(nn z0 z1)) N) R)):
    Calls Tryz.prog 50 #[v] w fun e w'=>(∃ u,e=.returned u∧Sl (ERw (ERat 64) 71 4) 49 1 w' u (tb (fun z0=>tb (fun z1=>((nn z0 z1:Int):Rat)) N) R))∧Gr w w':=by
 go_enter Tryz.func50,Tryz.ntmps50
 have hB:=Gr.refl w
 refine wp_seq_k (fun K10 k10=>?_)
 refine rg [0] ?_
 refine sv 2 (.slice none 0 0) ?_
 refine sq_nil ?_
 refine k10 _ _ ?_
 try clear k10 K10
 refine wp_seq_k (fun K11 k11=>?_)
 refine rg [0] ?_
 refine sv 3 (.slice none 0 0) ?_
 refine sq_nil ?_
 refine k11 _ _ ?_
 try clear k11 K11
 refine wp_seq_k (fun K12 k12=>?_)
 refine wp_seq_k (fun K13 k13=>?_)
 refine rg [0] ?_
 refine sv 4 (.int .i64 0) ?_
 refine sq_nil ?_
 refine k13 _ _ ?_
 try clear k13 K13
 refine wp_block ?_
 refine wp_loop_inv (a:=⟨List.toArray ?l14,[]⟩) (fun n a w'=>∃ (i:Nat) (vo:Value) (u14:Nat→Value),R - i=n∧a=⟨[v,undef,(.slice none 0 0),vo,(.int .i64 ((i:Int))),(u14 5),(u14 6),(u14 7),(u14 8),(u14 9),(u14 10),(u14 11),(u14 12),(u14 13),(u14 14),(u14 15),(u14 16),(u14 17),(u14 18),(u14 19),(u14 20),(u14 21),(u14 22),(u14 23),(u14 24),(u14 25),(u14 26),(u14 27),(u14 28),(u14 29),(u14 30),(u14 31),(u14 32),(u14 33),(u14 34),(u14 35),(u14 36),undef].toArray,[]⟩∧i≤R∧Ow (ERw (ERat 64) 71 4) 49 1 w' w.heap.size vo (tb (fun z0=>tb (fun z1=>((nn z0 z1:Int):Rat)) N) i)∧Gr w w') (R - 0) ?_ ?_
 ·exact ⟨0,(.slice none 0 0),(fun i=>List.getD ?l14 i undef),rfl,rfl,(Nat.zero_le _),(Ow.nil _ _ _ _ _),hB⟩
 rintro n14 a14 w14 ⟨i,vo,u14,rfl,rfl,hki,oo,hB⟩ K14 k14
 have lehC:=Below.size hB
 have hC:=Gr.refl w14
 refine wp_seq_k (fun K15 k15=>?_)
 refine wp_seq_k (fun K16 k16=>?_)
 refine rg [0,1,2,3] ?_
 refine sv 7 (.int .i64 ((i:Int))) ?_
 refine sv 8 v ?_
 refine sw 9 (.int .i64 ((R:Int))) rfl (rv_lenn (e:=30) hs (tb_lenz rfl) _ _ rfl rfl (by kernel_rfl)) ?_
 refine sv 10 (.bool (decide ((i:Int)<(R:Int)))) ?_
 refine sq_nil ?_
 refine k16 _ _ ?_
 try clear k16 K16
 refine wp_cond_split (t:=decide ((i:Int)<(R:Int))) rfl (fun hb17=>?_) (fun hb17=>?_)
 ·have hli:i<R:=by have:=of_decide_eq_true hb17;omega
  refine wp_skip ?_
  refine k15 _ _ ?_
  try clear k15 K15
  refine wp_seq_k (fun K18 k18=>?_)
  refine wp_block ?_
  refine wp_seq_k (fun K19 k19=>?_)
  refine rg [0] ?_
  refine sv 5 (.slice none 0 0) ?_
  refine sq_nil ?_
  refine k19 _ _ ?_
  try clear k19 K19
  refine wp_seq_k (fun K20 k20=>?_)
  refine wp_seq_k (fun K21 k21=>?_)
  refine rg [0] ?_
  refine sv 6 (.int .i64 0) ?_
  refine sq_nil ?_
  refine k21 _ _ ?_
  try clear k21 K21
  refine wp_block ?_
  refine wp_loop_inv (a:=⟨List.toArray ?l22,[]⟩) (fun n a w'=>∃ (j:Nat) (vi:Value) (u22:Nat→Value),N - j=n∧a=⟨[v,undef,(.slice none 0 0),vo,(.int .i64 ((i:Int))),vi,(.int .i64 ((j:Int))),(u22 7),(u22 8),(u22 9),(.bool (decide ((i:Int)<(R:Int)))),(u22 11),(u22 12),(u22 13),(u22 14),(u22 15),(u22 16),(u22 17),(u22 18),(u22 19),(u22 20),(u22 21),(u22 22),(u22 23),(u22 24),(u22 25),(u22 26),(u22 27),(u22 28),(u22 29),(u22 30),(u22 31),(u22 32),(u22 33),(u22 34),(u22 35),(u22 36),undef].toArray,[]⟩∧j≤N∧Ow (ERat 64) 71 4 w' w14.heap.size vi (tb (fun z1=>((nn i z1:Int):Rat)) j)∧Gr w14 w'∧Gr w w') (N - 0) ?_ ?_
  ·exact ⟨0,(.slice none 0 0),(fun i=>List.getD ?l22 i undef),rfl,rfl,(Nat.zero_le _),(Ow.nil _ _ _ _ _),hC,hB⟩
  rintro n22 a22 w22 ⟨j,vi,u22,rfl,rfl,hkj,oi,hC,hB⟩ K22 k22
  refine wp_seq_k (fun K23 k23=>?_)
  refine wp_seq_k (fun K24 k24=>?_)
  refine rg [0,1,2,3,4,5,6] ?_
  refine sv 13 (.int .i64 ((j:Int))) ?_
  refine sv 14 v ?_
  refine sv 15 (.int .i64 ((i:Int))) ?_
  refine sw 16 (adr v (i*1)) rfl (rv_idxn (e:=30) hs tb_len (by decide) i (by omega) _ _ _ rfl rfl rfl (by kernel_rfl) (by kernel_rfl)) ?_
  obtain ⟨_,_,⟨u25,rfl,hr25⟩,at25⟩:=Sl.get hs (by decide) (tb_get (f:=(fun z0=>tb (fun z1=>(nn z0 z1)) N)) (n:=R) (i:=i) (by omega))
  refine sw 17 u25 rfl (rv_ld1 u25 (at25.gr hB) _ _ rfl rfl (by kernel_rfl)) ?_
  refine sw 18 (.int .i64 ((N:Int))) rfl (rv_lenn (e:=3) hr25 (tb_lenz rfl) _ _ rfl rfl (by kernel_rfl)) ?_
  refine sv 19 (.bool (decide ((j:Int)<(N:Int)))) ?_
  refine sq_nil ?_
  refine k24 _ _ ?_
  try clear k24 K24
  refine wp_cond_split (t:=decide ((j:Int)<(N:Int))) rfl (fun hb26=>?_) (fun hb26=>?_)
  ·have hlj:j<N:=by have:=of_decide_eq_true hb26;omega
   refine wp_skip ?_
   refine k23 _ _ ?_
   try clear k23 K23
   refine wp_seq_k (fun K27 k27=>?_)
   refine wp_block ?_
   refine rg [0,1,2,3,4,5,6,7,8,9,10,11] ?_
   refine sv 22 vi ?_
   refine sv 23 v ?_
   refine sv 24 (.int .i64 ((i:Int))) ?_
   refine sw 25 (adr v (i*1)) rfl (rv_idxn (e:=30) hs tb_len (by decide) i (by omega) _ _ _ rfl rfl rfl (by kernel_rfl) (by kernel_rfl)) ?_
   refine sw 26 u25 rfl (rv_ld1 u25 (at25.gr hB) _ _ rfl rfl (by kernel_rfl)) ?_
   refine sv 27 (.int .i64 ((j:Int))) ?_
   refine sw 28 (adr u25 (j*1)) rfl (rv_idxn (e:=3) hr25 tb_len (by decide) j (by omega) _ _ _ rfl rfl rfl (by kernel_rfl) (by kernel_rfl)) ?_
   obtain ⟨_,_,rfl,at28⟩:=Sl.get hr25 (by decide) (tb_get (f:=(fun z1=>(nn i z1))) (n:=N) (i:=j) (by omega))
   refine sw 29 (.int .i64 ((nn i j))) rfl (rv_ld1 (.int .i64 ((nn i j))) (at28.gr hB) _ _ rfl rfl (by kernel_rfl)) ?_
   refine se ?_
   refine ec 30 (from_r ((nn i j)) (hb i hli j hlj).1 (hb i hli j hlj).2 _) ?_
   rintro e29 w29 ⟨⟨p29,q29,r29,s29,rfl,h29⟩,g29⟩
   refine ⟨_,rfl,?_⟩
   replace hB:=hB.trans g29
   replace hC:=hC.trans g29
   simp only [p3,p4]
   refine se ?_
   refine eff_bs 71 1 #[p29,q29,r29,s29] (some 31) rfl (fun _=>by kernel_rfl) (fun b30 w30 g30 L30 q30=>?_)
   have q30_hC:=Nat.le_trans (Below.size hC) q30
   replace hB:=hB.trans g30
   replace hC:=hC.trans g30
   simp only [putl,p3,p4]
   refine se ?_
   replace h29:=h29.kp g30.kp
   replace oi:=oi.gr (stab_rat 64) (g29.trans g30)
   refine eff_apg (stab_rat 64) _ _ 49 71 w14.heap.size (.agg #[(.bool false),(.slice none 0 0),(.bool false),(.slice none 0 0)]) vi (tb (fun z1=>((nn i z1:Int):Rat)) j) b30 [p29,q29,r29,s29] (((nn i j:Int):Rat)) 4 1 (some 32) 64 rfl rfl rfl rfl oi L30 ⟨h29.one0,h29.one1,h29.one2,h29.one3,trivial⟩ rfl ⟨_,_,_,_,rfl,h29.mono (by omega)⟩ (Below.size hC) (by rw [tb_len];omega) (by decide) (by kernel_rfl) (by kernel_rfl) (by decide) (by decide) (fun v31 w31 ow31 wt31 hg31=>?_)
   replace hB:=hg31 _ hB lehC
   replace hC:=hg31 _ hC (Nat.le_refl _)
   replace ow31:=ow31.cast (tb_snoc (f:=(fun z1=>((nn i z1:Int):Rat))) (n:=j) (by first | rfl | exact fil_all))
   simp only [putl,p3,p4]
   refine sv 5 v31 ?_
   refine sq_nil ?_
   refine k27 _ _ ?_
   try clear k27 K27
   refine rg [0,1,2] ?_
   refine sv 20 (.int .i64 ((j:Int))) ?_
   refine sw 21 (.int .i64 (((j:Int)+1))) rfl (RunV.int (x:=IntKind.i64.wrap (((j:Int)+1))) (y:=((j:Int)+1)) (rvk (by kernel_rfl)) (by first | rfl | (rw [IntKind.wrap_i64];omega))) ?_
   refine sv 6 (.int .i64 (((j:Int)+1))) ?_
   refine sq_nil ?_
   refine k22 (N - (j+1)) ⟨List.toArray ?l32,[]⟩ _ (by omega) ?_
   exact ⟨j+1,v31,(fun i=>List.getD ?l32 i undef),rfl,rfl,(by omega),ow31,hC,hB⟩
  ·have hej:N=j:=by have:=of_decide_eq_false hb26;omega
   subst hej
   refine wp_exit ?_
   simp only [Exit.then,Exit.inBlock,↓reduceIte]
   refine k20 _ _ ?_
   try clear k20 K20
   refine rg [0,1,2,3,4] ?_
   refine sv 33 vo ?_
   refine sv 34 vi ?_
   refine se ?_
   refine eff_bs1 29 49 vi (some 35) rfl rfl rfl (oi.sl).forms (fun _ _ _ _=>by kernel_rfl) (fun b33 w33 g33 L33 q33=>?_)
   have q33_hC:=Nat.le_trans (Below.size hC) q33
   replace hB:=hB.trans g33
   replace hC:=hC.trans g33
   simp only [putl,p3,p4]
   refine se ?_
   replace oi:=oi.gr (stab_rat 64) g33
   refine eff_apg (stab_rw (stab_rat 64) 71 4) _ _ 29 49 w.heap.size (.slice none 0 0) vo (tb (fun z0=>tb (fun z1=>((nn z0 z1:Int):Rat)) N) i) b33 [vi] (tb (fun z1=>((nn i z1:Int):Rat)) N) 1 1 (some 36) 24 rfl rfl rfl rfl (oo.gr (stab_rw (stab_rat 64) 71 4) hC) L33 ⟨oi.one,trivial⟩ rfl ⟨_,rfl,(oi.sl)⟩ (Below.size hB) (by rw [tb_len];omega) (by decide) (by kernel_rfl) (by kernel_rfl) (by decide) (by decide) (fun v34 w34 ow34 wt34 hg34=>?_)
   replace hB:=hg34 _ hB (Nat.le_refl _)
   replace ow34:=ow34.cast (tb_snoc (f:=(fun z0=>tb (fun z1=>((nn z0 z1:Int):Rat)) N)) (n:=i) (by first | rfl | exact fil_all))
   simp only [putl,p3,p4]
   refine sv 3 v34 ?_
   refine sq_nil ?_
   refine k18 _ _ ?_
   try clear k18 K18
   refine rg [0,1,2] ?_
   refine sv 11 (.int .i64 ((i:Int))) ?_
   refine sw 12 (.int .i64 (((i:Int)+1))) rfl (RunV.int (x:=IntKind.i64.wrap (((i:Int)+1))) (y:=((i:Int)+1)) (rvk (by kernel_rfl)) (by first | rfl | (rw [IntKind.wrap_i64];omega))) ?_
   refine sv 4 (.int .i64 (((i:Int)+1))) ?_
   refine sq_nil ?_
   refine k14 (R - (i+1)) ⟨List.toArray ?l35,[]⟩ _ (by omega) ?_
   exact ⟨i+1,v34,(fun i=>List.getD ?l35 i undef),rfl,rfl,(by omega),ow34,hB⟩
 ·have hei:R=i:=by have:=of_decide_eq_false hb17;omega
  subst hei
  refine wp_exit ?_
  simp only [Exit.then,Exit.inBlock,↓reduceIte]
  refine k12 _ _ ?_
  try clear k12 K12
  refine wp_seq_k (fun K36 k36=>?_)
  refine rg [0,1] ?_
  refine sv 37 vo ?_
  refine sv 2 vo ?_
  refine sq_nil ?_
  refine k36 _ _ ?_
  try clear k36 K36
  refine wp_ret ?_
  refine bodyPost_ret (v:=vo) (ret_tmp rfl rfl) rfl ⟨?_,hB⟩
  exact ⟨_,rfl,((oo.gr (stab_rw (stab_rat 64) 71 4) hC).sl)⟩

end Go.Proofs.YtepgkcimmdmgcaaGreatDoor
