/- Joined of: Gen168, Gen169, Ln, Gen170, Gen171, Gen172, Lo, Gen173, Lq, Gen176, Scale, Pa1, Pa2, Rd1, Rd2, Gen34, Rd3, Gen36, Gen33, Ok2, Gen177, Lr. -/
import Derived.Test.YtepgkcimmdmgcaaGreatDoorPartE
import Derived.Test.YtepgkcimmdmgcaaGreatDoorPartA
import Derived.Test.YtepgkcimmdmgcaaGreatDoorPartD
import Derived.Lib.SmallJoins
import Derived.Laws.RangeString
import Derived.Test.YtepgkcimmdmgcaaGreatDoorPartB
import Derived.Shelf.Strings.SlTrimAscii
namespace Go.Proofs.YtepgkcimmdmgcaaGreatDoor
open Go.RowKit

set_option maxRecDepth 100000 in
set_option maxHeartbeats 1000000 in
theorem mx_Kernel {K R D:Nat} {v:Value} {m:Mx_} (hK:64≤K) (_hK2:K≤20000) (_hR2:R≤256) (_hN2:D≤96) (hz:∀ k,k≤D→RdZ R D K (rs R m k)) {w:World} (hs:Sl (ERw (ERat K) 71 4) 49 1 w v (tb (fun z0=>tb (fun z1=>(m z0 z1)) D) R)):
    Calls Tryz.prog 19 #[v,(.int .i64 ((D:Int)))] w fun e w'=>(∃ u,e=.returned (.tuple #[u,.int .i64 0])∧Sl (ERw (ERat K) 71 4) 49 1 w' u (tb (fun z0=>tb (fun z1=>kv (rs R m D) (frc R m D D z0) z1) D) (nfr R m D D)))∧Gr w w':=by
 go_enter Tryz.func19,Tryz.ntmps19
 have hB:=Gr.refl w
 refine wp_seq_k (fun K10 k10=>?_)
 refine rg [0,1] ?_
 refine sv 4 (.slice none 0 0) ?_
 refine sv 5 (.int .i64 0) ?_
 refine sq_nil ?_
 refine k10 _ _ ?_
 try clear k10 K10
 refine wp_seq_k (fun K11 k11=>?_)
 refine wp_seq_k (fun K12 k12=>?_)
 refine rg [0,1,2] ?_
 refine sv 15 v ?_
 refine se ?_
 refine ec 16 (mx_size (by omega) (by omega) (hs.gr (stab_rw (stab_rat K) 71 4) hB)) ?_
 rintro e13 w13 ⟨rfl,g13⟩
 refine ⟨_,rfl,?_⟩
 replace hB:=hB.trans g13
 simp only [p3,p4]
 refine sv 6 (.int .i64 0) ?_
 refine sq_nil ?_
 refine k12 _ _ ?_
 try clear k12 K12
 refine wp_seq_k (fun K14 k14=>?_)
 refine rg [0,1] ?_
 refine sv 17 (.int .i64 0) ?_
 refine sv 18 (.bool false) ?_
 refine sq_nil ?_
 refine k14 _ _ ?_
 try clear k14 K14
 refine wp_cond_false rfl ?_
 refine wp_skip ?_
 refine k11 _ _ ?_
 try clear k11 K11
 refine wp_seq_k (fun K15 k15=>?_)
 refine wp_seq_k (fun K16 k16=>?_)
 refine rg [0,1,2,3,4,5,6,7,8] ?_
 refine sv 20 v ?_
 refine sw 21 (.int .i64 ((R:Int))) rfl (rv_lenn (e:=49) hs (tb_lenz rfl) _ _ rfl rfl (by kernel_rfl)) ?_
 refine sv 22 (.bool (decide ((0:Int)<(R:Int)))) ?_
 rcases Bool.eq_false_or_eq_true (decide ((0:Int)<(R:Int))) with hb17 | hb17
 ·have hq18:((0:Int)<(R:Int)):=of_decide_eq_true hb17
  refine sw 23 (.bool true) rfl (RunV.bool (x:=decide ((0:Int)<(R:Int))) (rvk (by kernel_rfl)) hb17) ?_
  refine sv 24 v ?_
  refine se ?_
  refine ec 25 (mx_columnsR (hs.gr (stab_rw (stab_rat K) 71 4) hB) (by omega)) ?_
  rintro e19 w19 ⟨rfl,g19⟩
  refine ⟨_,rfl,?_⟩
  replace hB:=hB.trans g19
  simp only [p3,p4]
  refine sv 26 (.int .i64 ((D:Int))) ?_
  have hb20:(((D:Int) !=(D:Int)))=false:=(by simp)
  refine sw 27 (.bool false) rfl (RunV.bool (x:=((D:Int) !=(D:Int))) (rvk (by kernel_rfl)) hb20) ?_
  refine sv 28 (.bool false) ?_
  refine sq_nil ?_
  refine k16 _ _ ?_
  try clear k16 K16
  refine wp_cond_false rfl ?_
  refine wp_skip ?_
  refine k15 _ _ ?_
  try clear k15 K15
  refine wp_seq_k (fun K21 k21=>?_)
  refine wp_seq_k (fun K22 k22=>?_)
  refine rg [0,1,2,3,4,5] ?_
  refine sv 29 (.int .i64 ((D:Int))) ?_
  have hb23:(decide ((D:Int)<(0:Int)))=false:=(by simp only [decide_eq_false_iff_not];omega)
  refine sw 30 (.bool false) rfl (RunV.bool (x:=decide ((D:Int)<(0:Int))) (rvk (by kernel_rfl)) hb23) ?_
  refine sv 31 (.bool false) ?_
  refine sv 32 (.int .i64 ((D:Int))) ?_
  have hb24:(decide ((96:Int)<(D:Int)))=false:=(by simp only [decide_eq_false_iff_not];omega)
  refine sw 33 (.bool false) rfl (RunV.bool (x:=decide ((96:Int)<(D:Int))) (rvk (by kernel_rfl)) hb24) ?_
  refine sv 34 (.bool false) ?_
  refine sq_nil ?_
  refine k22 _ _ ?_
  try clear k22 K22
  refine wp_cond_false rfl ?_
  refine wp_skip ?_
  refine k21 _ _ ?_
  try clear k21 K21
  refine wp_seq_k (fun K25 k25=>?_)
  refine rg [0,1,2,3,4,5,6,7,8,9,10] ?_
  refine sv 36 v ?_
  refine sv 37 (.int .i64 ((D:Int))) ?_
  refine se ?_
  have hlen26:=rs_len R m D
  have hple26:=rs_ple R m D
  refine ec 38 (mx_reduced (by omega) (by omega) (by omega) (by omega) (by omega) hz (hs.gr (stab_rw (stab_rat K) 71 4) hB)) ?_
  rintro e26 w26 ⟨⟨u26,v26,p26,q26,r26,s26,rfl,hs26,hp26,h26⟩,g26⟩
  refine ⟨_,rfl,?_⟩
  replace hB:=hB.trans g26
  have lehc26:=Below.size hB
  have hc26:=Gr.refl w26
  simp only [p3,p4]
  refine sv 35 (.tuple #[u26,v26,(.agg #[p26,q26,r26,s26])]) ?_
  refine sv 39 u26 ?_
  refine sv 40 v26 ?_
  refine sv 41 (.agg #[p26,q26,r26,s26]) ?_
  refine se ?_
  refine ea 71 #[(.bool false),(.slice none 0 0),(.bool false),(.slice none 0 0)] 9 hB fun b27 w27 g27 L27 o27 q27 hB=>?_
  have q27_hc26:=Nat.le_trans (Below.size hc26) o27
  replace hc26:=hc26.trans g27
  simp only [p3,p4]
  refine sv 7 u26 ?_
  refine sv 8 v26 ?_
  refine se ?_
  have lo28:=L27
  refine es 71 0 (.agg #[p26,q26,r26,s26]) [p26,q26,r26,s26] #[p26,q26,r26,s26] L27 hB q27 ⟨h26.one0,h26.one1,h26.one2,h26.one3,trivial⟩ fun w28 st28 kp28 L27 hB=>?_
  replace hc26:=st28.gr hc26 q27_hc26
  refine sq_nil ?_
  refine k25 _ _ ?_
  try clear k25 K25
  refine wp_seq_k (fun K29 k29=>?_)
  refine rg [0] ?_
  refine sv 10 (.slice none 0 0) ?_
  refine sq_nil ?_
  refine k29 _ _ ?_
  try clear k29 K29
  refine wp_seq_k (fun K30 k30=>?_)
  refine wp_seq_k (fun K31 k31=>?_)
  refine rg [0,1] ?_
  refine sv 42 (.int .i64 ((D:Int))) ?_
  refine sv 43 (.int .i64 0) ?_
  refine sq_nil ?_
  refine k31 _ _ ?_
  try clear k31 K31
  refine wp_block ?_
  refine wp_loop_inv (a:=⟨List.toArray ?l32,[]⟩) (fun n a w'=>∃ (f:Nat) (vo:Value) (u32:Nat→Value),D - f=n∧a=⟨[v,(.int .i64 ((D:Int))),undef,undef,(.slice none 0 0),(.int .i64 0),(.int .i64 0),u26,v26,(u32 9),vo,(u32 11),(u32 12),(u32 13),(u32 14),(u32 15),(u32 16),(u32 17),(.bool false),undef,(u32 20),(u32 21),(u32 22),(u32 23),(u32 24),(u32 25),(u32 26),(u32 27),(.bool false),(u32 29),(u32 30),(u32 31),(u32 32),(u32 33),(.bool false),(u32 35),(u32 36),(u32 37),(u32 38),(u32 39),(u32 40),(u32 41),(.int .i64 ((D:Int))),(.int .i64 ((f:Int))),(u32 44),(u32 45),(u32 46),(u32 47),(u32 48),(u32 49),(u32 50),(u32 51),(u32 52),(u32 53),(u32 54),(u32 55),(u32 56),(u32 57),(u32 58),(u32 59),(u32 60),(u32 61),(u32 62),(u32 63),(u32 64),(u32 65),(u32 66),(u32 67),(u32 68),(u32 69),(u32 70),(u32 71),(u32 72),(u32 73),(u32 74),(u32 75),(u32 76),(u32 77),(u32 78),undef].toArray,[]⟩∧f≤D∧Ow (ERw (ERat K) 71 4) 49 1 w' w26.heap.size vo (tb (fun z0=>tb (fun z1=>kv (rs R m D) (frc R m D f z0) z1) D) (nfr R m D f))∧Gr w26 w'∧Gr w w') (D - 0) ?_ ?_
  ·exact ⟨0,(.slice none 0 0),(fun i=>List.getD ?l32 i undef),rfl,rfl,(Nat.zero_le _),(Ow.nil _ _ _ _ _),hc26,hB⟩
  rintro n32 a32 w32 ⟨f,vo,u32,rfl,rfl,hkf,oo,hc26,hB⟩ K32 k32
  have lehC:=Below.size hB
  have lehC_hc26:=Below.size hc26
  have hC:=Gr.refl w32
  refine wp_seq_k (fun K33 k33=>?_)
  refine rg [0] ?_
  refine sv 44 (.bool (decide ((f:Int)<(D:Int)))) ?_
  refine sq_nil ?_
  refine k33 _ _ ?_
  try clear k33 K33
  refine wp_seq_k (fun K34 k34=>?_)
  refine wp_cond_split (t:=decide ((f:Int)<(D:Int))) rfl (fun hb35=>?_) (fun hb35=>?_)
  ·have hlf:f<D:=by have:=of_decide_eq_true hb35;omega
   have hnf:=nfr_le R m D f
   refine wp_skip ?_
   refine k34 _ _ ?_
   try clear k34 K34
   refine wp_seq_k (fun K36 k36=>?_)
   refine wp_block ?_
   refine wp_seq_k (fun K37 k37=>?_)
   refine rg [0,1] ?_
   refine sv 45 (.int .i64 ((f:Int))) ?_
   refine sv 11 (.int .i64 ((f:Int))) ?_
   refine sq_nil ?_
   refine k37 _ _ ?_
   try clear k37 K37
   refine wp_seq_k (fun K38 k38=>?_)
   refine wp_seq_k (fun K39 k39=>?_)
   refine rg [0,1,2] ?_
   refine sv 46 v26 ?_
   refine sv 47 (.int .i64 ((f:Int))) ?_
   refine se ?_
   refine ec 48 (sl_contains (z:=(f:Int)) (by omega) (hp26.gr stab_i64 hc26)) ?_
   rintro e40 w40 ⟨rfl,g40⟩
   refine ⟨_,rfl,?_⟩
   replace hB:=hB.trans g40
   replace hc26:=hc26.trans g40
   replace hC:=hC.trans g40
   simp only [p3,p4]
   refine sq_nil ?_
   refine k39 _ _ ?_
   try clear k39 K39
   refine wp_cond_split (t:=hasI (fun z1=>((pv (rs R m D) z1:Nat):Int)) (pl R m D) (f:Int)) rfl (fun hb41=>?_) (fun hb41=>?_)
   ·have hip:isP R m D f=true:=hb41
    refine wp_exit ?_
    simp only [Exit.then,Exit.inBlock,↓reduceIte]
    refine k36 _ _ ?_
    try clear k36 K36
    refine rg [0,1] ?_
    refine sw 78 (.int .i64 (((f:Int)+1))) rfl (RunV.int (x:=IntKind.i64.wrap (((f:Int)+1))) (y:=((f:Int)+1)) (rvk (by kernel_rfl)) (by first | rfl | (rw [IntKind.wrap_i64];omega))) ?_
    refine sv 43 (.int .i64 (((f:Int)+1))) ?_
    refine sq_nil ?_
    refine k32 (D - (f+1)) ⟨List.toArray ?l42,[]⟩ _ (by omega) ?_
    exact ⟨f+1,vo,(fun i=>List.getD ?l42 i undef),rfl,rfl,(by omega),((oo.gr (stab_rw (stab_rat K) 71 4) hC).cast (fr_yes hip)),hc26,hB⟩
   ·have hip:isP R m D f=false:=hb41
    refine wp_skip ?_
    refine k38 _ _ ?_
    try clear k38 K38
    refine wp_seq_k (fun K43 k43=>?_)
    refine rg [0,1,2] ?_
    refine sv 49 (.int .i64 ((D:Int))) ?_
    refine se ?_
    refine eff_mk (E:=(ERat K)) (0:Rat) 49 71 (.agg #[(.bool false),(.slice none 0 0),(.bool false),(.slice none 0 0)]) D 4 64 (some 50) rfl rfl rfl rfl (by kernel_rfl) (by kernel_rfl) (by decide) (by omega) (by decide) (fun w2=>erat_zero K hK w2) (fun b44 w44 g44 mk44 q44=>?_)
    have q44_hc26:=Nat.le_trans (Below.size hc26) q44
    have q44_hC:=Nat.le_trans (Below.size hC) q44
    replace q44:=Nat.le_trans (Below.size hB) q44
    replace hB:=hB.trans g44
    replace hc26:=hc26.trans g44
    replace hC:=hC.trans g44
    simp only [putl,p3,p4]
    refine sv 12 (.slice (some ⟨b44,0,none⟩) D D) ?_
    refine sq_nil ?_
    refine k43 _ _ ?_
    try clear k43 K43
    refine wp_seq_k (fun K45 k45=>?_)
    refine rg [0,1,2,3,4] ?_
    refine sv 51 (.slice (some ⟨b44,0,none⟩) D D) ?_
    refine sv 52 (.int .i64 ((f:Int))) ?_
    refine se ?_
    refine ec 53 (from_r (1) (by omega) (by omega) _) ?_
    rintro e46 w46 ⟨⟨p46,q46,r46,s46,rfl,h46⟩,g46⟩
    refine ⟨_,rfl,?_⟩
    replace hB:=hB.trans g46
    replace hc26:=hc26.trans g46
    replace hC:=hC.trans g46
    simp only [p3,p4]
    refine sw 54 (adr (.slice (some ⟨b44,0,none⟩) D D) (f*4)) rfl (rv_idxn (e:=71) (n:=D) (mk44.sl_n (n:=D) (cap:=D) (List.length_replicate) (Nat.le_refl _)) (List.length_replicate) (by decide) f (by omega) _ _ _ rfl rfl rfl (by kernel_rfl) (by kernel_rfl)) ?_
    refine se ?_
    replace mk44:=mk44.gr (stab_rat K) g46
    refine eff_stm (stab_rat K) mk44 f (by rw [List.length_replicate];omega) (((1:Int):Rat)) (.agg #[p46,q46,r46,s46]) [p46,q46,r46,s46] (D) (D) 71 _ _ rfl rfl rfl rfl rfl (by kernel_rfl) rfl ⟨h46.one0,h46.one1,h46.one2,h46.one3,trivial⟩ ⟨_,_,_,_,rfl,h46.mono (by omega)⟩ (by decide) (fun w47 st47 kt47 mk47=>?_)
    replace hB:=st47.gr hB q44
    replace hc26:=st47.gr hc26 q44_hc26
    replace hC:=st47.gr hC q44_hC
    refine sq_nil ?_
    refine k45 _ _ ?_
    try clear k45 K45
    refine wp_seq_k (fun K48 k48=>?_)
    refine wp_seq_k (fun K49 k49=>?_)
    refine rg [0,1,2] ?_
    refine sv 55 v26 ?_
    refine sw 56 (.int .i64 (((pl R m D:Nat):Int))) rfl (rv_lenn (e:=3) hp26 (tb_lenz rfl) _ _ rfl rfl (by kernel_rfl)) ?_
    refine sv 57 (.int .i64 0) ?_
    refine sq_nil ?_
    refine k49 _ _ ?_
    try clear k49 K49
    refine wp_block ?_
    refine wp_loop_inv (a:=⟨List.toArray ?l50,[]⟩) (fun n a w'=>∃ (j:Nat) (u50:Nat→Value),pl R m D - j=n∧a=⟨[v,(.int .i64 ((D:Int))),undef,undef,(.slice none 0 0),(.int .i64 0),(.int .i64 0),u26,v26,(u50 9),vo,(.int .i64 ((f:Int))),(.slice (some ⟨b44,0,none⟩) D D),(u50 13),(u50 14),(u50 15),(u50 16),(u50 17),(.bool false),undef,(u50 20),(u50 21),(u50 22),(u50 23),(u50 24),(u50 25),(u50 26),(u50 27),(.bool false),(u50 29),(u50 30),(u50 31),(u50 32),(u50 33),(.bool false),(u50 35),(u50 36),(u50 37),(u50 38),(u50 39),(u50 40),(u50 41),(.int .i64 ((D:Int))),(.int .i64 ((f:Int))),(.bool (decide ((f:Int)<(D:Int)))),(u50 45),(u50 46),(u50 47),(.bool (hasI (fun z1=>((pv (rs R m D) z1:Nat):Int)) (pl R m D) (f:Int))),(u50 49),(u50 50),(u50 51),(u50 52),(u50 53),(u50 54),v26,(.int .i64 (((pl R m D:Nat):Int))),(.int .i64 ((j:Int))),(u50 58),(u50 59),(u50 60),(u50 61),(u50 62),(u50 63),(u50 64),(u50 65),(u50 66),(u50 67),(u50 68),(u50 69),(u50 70),(u50 71),(u50 72),(u50 73),(u50 74),(u50 75),(u50 76),(u50 77),(u50 78),undef].toArray,[]⟩∧j≤pl R m D∧Mk (ERat K) 71 4 w' b44 (tb (fun z1=>kvp R m D f j z1) D)∧Gr w26 w'∧Gr w32 w'∧Gr w w') (pl R m D - 0) ?_ ?_
    ·exact ⟨0,(fun i=>List.getD ?l50 i undef),rfl,rfl,(Nat.zero_le _),(mk47.cast kvp_zero),hc26,hC,hB⟩
    rintro n50 a50 w50 ⟨j,u50,rfl,rfl,hkj,mx,hc26,hC,hB⟩ K50 k50
    refine wp_seq_k (fun K51 k51=>?_)
    refine rg [0] ?_
    refine sv 58 (.bool (decide ((j:Int)<((pl R m D:Nat):Int)))) ?_
    refine sq_nil ?_
    refine k51 _ _ ?_
    try clear k51 K51
    refine wp_seq_k (fun K52 k52=>?_)
    refine wp_cond_split (t:=decide ((j:Int)<((pl R m D:Nat):Int))) rfl (fun hb53=>?_) (fun hb53=>?_)
    ·have hlj:j<pl R m D:=by have:=of_decide_eq_true hb53;omega
     have hpj:=rs_pv hlj
     refine wp_skip ?_
     refine k52 _ _ ?_
     try clear k52 K52
     refine wp_seq_k (fun K54 k54=>?_)
     refine wp_block ?_
     refine wp_seq_k (fun K55 k55=>?_)
     refine rg [0,1,2,3,4] ?_
     refine sv 59 (.int .i64 ((j:Int))) ?_
     refine sw 60 (adr v26 (j*1)) rfl (rv_idxn (e:=3) hp26 tb_len (by decide) j (by omega) _ _ _ rfl rfl rfl (by kernel_rfl) (by kernel_rfl)) ?_
     obtain ⟨_,_,rfl,at56⟩:=Sl.get hp26 (by decide) (tb_get (f:=(fun z1=>((pv (rs R m D) z1:Nat):Int))) (n:=(pl R m D)) (i:=j) (by omega))
     refine sw 61 (.int .i64 (((pv (rs R m D) j:Nat):Int))) rfl (rv_ld1 (.int .i64 (((pv (rs R m D) j:Nat):Int))) (at56.gr hc26) _ _ rfl rfl (by kernel_rfl)) ?_
     refine sv 13 (.int .i64 ((j:Int))) ?_
     refine sv 14 (.int .i64 (((pv (rs R m D) j:Nat):Int))) ?_
     refine sq_nil ?_
     refine k55 _ _ ?_
     try clear k55 K55
     refine rg [0,1,2,3,4,5,6,7,8,9,10,11] ?_
     refine sv 62 (.slice (some ⟨b44,0,none⟩) D D) ?_
     refine sv 63 (.int .i64 (((pv (rs R m D) j:Nat):Int))) ?_
     refine sv 64 u26 ?_
     refine sv 65 (.int .i64 ((j:Int))) ?_
     refine sw 66 (adr u26 (j*1)) rfl (rv_idxn (e:=49) hs26 tb_len (by decide) j (by omega) _ _ _ rfl rfl rfl (by kernel_rfl) (by kernel_rfl)) ?_
     obtain ⟨_,_,⟨u57,rfl,hr57⟩,at57⟩:=Sl.get hs26 (by decide) (tb_get (f:=(fun z0=>tb (fun z1=>((rs R m D).m z0 z1)) D)) (n:=R) (i:=j) (by omega))
     refine sw 67 u57 rfl (rv_ld1 u57 (at57.gr hc26) _ _ rfl rfl (by kernel_rfl)) ?_
     refine sv 68 (.int .i64 ((f:Int))) ?_
     refine sw 69 (adr u57 (f*4)) rfl (rv_idxn (e:=71) hr57 tb_len (by decide) f (by omega) _ _ _ rfl rfl rfl (by kernel_rfl) (by kernel_rfl)) ?_
     obtain ⟨_,_,⟨cA58,cB58,cC58,cD58,rfl,h58⟩,at58⟩:=Sl.get hr57 (by decide) (tb_get (f:=(fun z1=>((rs R m D).m j z1))) (n:=D) (i:=f) (by omega))
     refine sw 70 (.agg #[cA58,cB58,cC58,cD58]) rfl (rv_ldn [cA58,cB58,cC58,cD58] (at58.gr hc26) _ _ rfl rfl (by kernel_rfl)) ?_
     refine se ?_
     refine ec 71 (neg_r (h58.kp hc26.kp)) ?_
     rintro e59 w59 ⟨⟨p59,q59,r59,s59,rfl,h59⟩,g59⟩
     refine ⟨_,rfl,?_⟩
     replace hB:=hB.trans g59
     replace hc26:=hc26.trans g59
     replace hC:=hC.trans g59
     simp only [p3,p4]
     refine sw 72 (adr (.slice (some ⟨b44,0,none⟩) D D) ((pv (rs R m D) j)*4)) rfl (rv_idxn (e:=71) (n:=D) (mx.sl_n (n:=D) (cap:=D) (tb_len) (Nat.le_refl _)) (tb_len) (by decide) (pv (rs R m D) j) (by omega) _ _ _ rfl rfl rfl (by kernel_rfl) (by kernel_rfl)) ?_
     refine se ?_
     replace mx:=mx.gr (stab_rat K) g59
     refine eff_stm (stab_rat K) mx (pv (rs R m D) j) (by rw [tb_len];omega) ((-((rs R m D).m j f))) (.agg #[p59,q59,r59,s59]) [p59,q59,r59,s59] (D) (D) 71 _ _ rfl rfl rfl rfl rfl (by kernel_rfl) rfl ⟨h59.one0,h59.one1,h59.one2,h59.one3,trivial⟩ ⟨_,_,_,_,rfl,h59.mono (by omega)⟩ (by decide) (fun w60 st60 kt60 mk60=>?_)
     replace hB:=st60.gr hB q44
     replace hc26:=st60.gr hc26 q44_hc26
     replace hC:=st60.gr hC q44_hC
     refine sq_nil ?_
     refine k54 _ _ ?_
     try clear k54 K54
     refine rg [0,1] ?_
     refine sw 73 (.int .i64 (((j:Int)+1))) rfl (RunV.int (x:=IntKind.i64.wrap (((j:Int)+1))) (y:=((j:Int)+1)) (rvk (by kernel_rfl)) (by first | rfl | (rw [IntKind.wrap_i64];omega))) ?_
     refine sv 57 (.int .i64 (((j:Int)+1))) ?_
     refine sq_nil ?_
     refine k50 (pl R m D - (j+1)) ⟨List.toArray ?l61,[]⟩ _ (by omega) ?_
     exact ⟨j+1,(fun i=>List.getD ?l61 i undef),rfl,rfl,(by omega),(mk60.cast (kvp_set hlj (isP_no hip hlj) rfl)),hc26,hC,hB⟩
    ·have hej:pl R m D=j:=by have:=of_decide_eq_false hb53;omega
     subst hej
     refine wp_exit ?_
     simp only [Exit.then,Exit.inBlock,↓reduceIte]
     refine k48 _ _ ?_
     try clear k48 K48
     refine rg [0,1,2,3,4] ?_
     refine sv 74 vo ?_
     refine sv 75 (.slice (some ⟨b44,0,none⟩) D D) ?_
     refine se ?_
     refine eff_bs 49 1 #[(.slice (some ⟨b44,0,none⟩) D D)] (some 76) rfl (fun _=>by kernel_rfl) (fun b62 w62 g62 L62 q62=>?_)
     have q62_hc26:=Nat.le_trans (Below.size hc26) q62
     have q62_hC:=Nat.le_trans (Below.size hC) q62
     replace hB:=hB.trans g62
     replace hc26:=hc26.trans g62
     replace hC:=hC.trans g62
     simp only [putl,p3,p4]
     refine se ?_
     replace mx:=mx.gr (stab_rat K) g62
     refine eff_apg (stab_rw (stab_rat K) 71 4) _ _ 29 49 w26.heap.size (.slice none 0 0) vo (tb (fun z0=>tb (fun z1=>kv (rs R m D) (frc R m D f z0) z1) D) (nfr R m D f)) b62 [(.slice (some ⟨b44,0,none⟩) D D)] (tb (fun z1=>kvp R m D f (pl R m D) z1) D) 1 1 (some 77) 24 rfl rfl rfl rfl (oo.gr (stab_rw (stab_rat K) 71 4) hC) L62 ⟨rfl,trivial⟩ rfl ⟨_,rfl,(mx.sl_n (tb_len) (Nat.le_refl _))⟩ (Below.size hc26) (by rw [tb_len];omega) (by decide) (by kernel_rfl) (by kernel_rfl) (by decide) (by decide) (fun v63 w63 ow63 wt63 hg63=>?_)
     replace hB:=hg63 _ hB lehc26
     replace hc26:=hg63 _ hc26 (Nat.le_refl _)
     replace ow63:=ow63.cast (fr_no hip rfl)
     simp only [putl,p3,p4]
     refine sv 10 v63 ?_
     refine sq_nil ?_
     refine k36 _ _ ?_
     try clear k36 K36
     refine rg [0,1] ?_
     refine sw 78 (.int .i64 (((f:Int)+1))) rfl (RunV.int (x:=IntKind.i64.wrap (((f:Int)+1))) (y:=((f:Int)+1)) (rvk (by kernel_rfl)) (by first | rfl | (rw [IntKind.wrap_i64];omega))) ?_
     refine sv 43 (.int .i64 (((f:Int)+1))) ?_
     refine sq_nil ?_
     refine k32 (D - (f+1)) ⟨List.toArray ?l64,[]⟩ _ (by omega) ?_
     exact ⟨f+1,v63,(fun i=>List.getD ?l64 i undef),rfl,rfl,(by omega),ow63,hc26,hB⟩
  ·have hef:D=f:=by have:=of_decide_eq_false hb35;omega
   refine wp_exit ?_
   simp only [Exit.then,Exit.inBlock,↓reduceIte]
   refine k30 _ _ ?_
   try clear k30 K30
   refine wp_seq_k (fun K65 k65=>?_)
   refine rg [0,1,2] ?_
   refine sv 79 vo ?_
   refine sv 4 vo ?_
   refine sv 5 (.int .i64 0) ?_
   refine sq_nil ?_
   refine k65 _ _ ?_
   try clear k65 K65
   refine wp_ret ?_
   refine bodyPost_ret (v:=(.tuple #[vo,(.int .i64 0)])) (ret_tmp2 rfl rfl rfl) rfl ⟨?_,hB⟩
   exact (by subst hef;exact ⟨_,rfl,((oo.gr (stab_rw (stab_rat K) 71 4) hC).sl)⟩)
 ·have hq66:¬ ((0:Int)<(R:Int)):=of_decide_eq_false hb17
  refine swk 23 (.bool false) [(4,24),(5,25),(6,26),(7,27)] rfl (RunV.bool (x:=decide ((0:Int)<(R:Int))) (rvk (by kernel_rfl)) hb17) ?_
  refine sv 28 (.bool false) ?_
  refine sq_nil ?_
  refine k16 _ _ ?_
  try clear k16 K16
  refine wp_cond_false rfl ?_
  refine wp_skip ?_
  refine k15 _ _ ?_
  try clear k15 K15
  refine wp_seq_k (fun K67 k67=>?_)
  refine wp_seq_k (fun K68 k68=>?_)
  refine rg [0,1,2,3,4,5] ?_
  refine sv 29 (.int .i64 ((D:Int))) ?_
  have hb69:(decide ((D:Int)<(0:Int)))=false:=(by simp only [decide_eq_false_iff_not];omega)
  refine sw 30 (.bool false) rfl (RunV.bool (x:=decide ((D:Int)<(0:Int))) (rvk (by kernel_rfl)) hb69) ?_
  refine sv 31 (.bool false) ?_
  refine sv 32 (.int .i64 ((D:Int))) ?_
  have hb70:(decide ((96:Int)<(D:Int)))=false:=(by simp only [decide_eq_false_iff_not];omega)
  refine sw 33 (.bool false) rfl (RunV.bool (x:=decide ((96:Int)<(D:Int))) (rvk (by kernel_rfl)) hb70) ?_
  refine sv 34 (.bool false) ?_
  refine sq_nil ?_
  refine k68 _ _ ?_
  try clear k68 K68
  refine wp_cond_false rfl ?_
  refine wp_skip ?_
  refine k67 _ _ ?_
  try clear k67 K67
  refine wp_seq_k (fun K71 k71=>?_)
  refine rg [0,1,2,3,4,5,6,7,8,9,10] ?_
  refine sv 36 v ?_
  refine sv 37 (.int .i64 ((D:Int))) ?_
  refine se ?_
  have hlen72:=rs_len R m D
  have hple72:=rs_ple R m D
  refine ec 38 (mx_reduced (by omega) (by omega) (by omega) (by omega) (by omega) hz (hs.gr (stab_rw (stab_rat K) 71 4) hB)) ?_
  rintro e72 w72 ⟨⟨u72,v72,p72,q72,r72,s72,rfl,hs72,hp72,h72⟩,g72⟩
  refine ⟨_,rfl,?_⟩
  replace hB:=hB.trans g72
  have lehc72:=Below.size hB
  have hc72:=Gr.refl w72
  simp only [p3,p4]
  refine sv 35 (.tuple #[u72,v72,(.agg #[p72,q72,r72,s72])]) ?_
  refine sv 39 u72 ?_
  refine sv 40 v72 ?_
  refine sv 41 (.agg #[p72,q72,r72,s72]) ?_
  refine se ?_
  refine ea 71 #[(.bool false),(.slice none 0 0),(.bool false),(.slice none 0 0)] 9 hB fun b73 w73 g73 L73 o73 q73 hB=>?_
  have q73_hc72:=Nat.le_trans (Below.size hc72) o73
  replace hc72:=hc72.trans g73
  simp only [p3,p4]
  refine sv 7 u72 ?_
  refine sv 8 v72 ?_
  refine se ?_
  have lo74:=L73
  refine es 71 0 (.agg #[p72,q72,r72,s72]) [p72,q72,r72,s72] #[p72,q72,r72,s72] L73 hB q73 ⟨h72.one0,h72.one1,h72.one2,h72.one3,trivial⟩ fun w74 st74 kp74 L73 hB=>?_
  replace hc72:=st74.gr hc72 q73_hc72
  refine sq_nil ?_
  refine k71 _ _ ?_
  try clear k71 K71
  refine wp_seq_k (fun K75 k75=>?_)
  refine rg [0] ?_
  refine sv 10 (.slice none 0 0) ?_
  refine sq_nil ?_
  refine k75 _ _ ?_
  try clear k75 K75
  refine wp_seq_k (fun K76 k76=>?_)
  refine wp_seq_k (fun K77 k77=>?_)
  refine rg [0,1] ?_
  refine sv 42 (.int .i64 ((D:Int))) ?_
  refine sv 43 (.int .i64 0) ?_
  refine sq_nil ?_
  refine k77 _ _ ?_
  try clear k77 K77
  refine wp_block ?_
  refine wp_loop_inv (a:=⟨List.toArray ?l78,[]⟩) (fun n a w'=>∃ (f:Nat) (vo:Value) (u78:Nat→Value),D - f=n∧a=⟨[v,(.int .i64 ((D:Int))),undef,undef,(.slice none 0 0),(.int .i64 0),(.int .i64 0),u72,v72,(u78 9),vo,(u78 11),(u78 12),(u78 13),(u78 14),(u78 15),(u78 16),(u78 17),(.bool false),undef,(u78 20),(u78 21),(u78 22),(u78 23),undef,undef,undef,undef,(.bool false),(u78 29),(u78 30),(u78 31),(u78 32),(u78 33),(.bool false),(u78 35),(u78 36),(u78 37),(u78 38),(u78 39),(u78 40),(u78 41),(.int .i64 ((D:Int))),(.int .i64 ((f:Int))),(u78 44),(u78 45),(u78 46),(u78 47),(u78 48),(u78 49),(u78 50),(u78 51),(u78 52),(u78 53),(u78 54),(u78 55),(u78 56),(u78 57),(u78 58),(u78 59),(u78 60),(u78 61),(u78 62),(u78 63),(u78 64),(u78 65),(u78 66),(u78 67),(u78 68),(u78 69),(u78 70),(u78 71),(u78 72),(u78 73),(u78 74),(u78 75),(u78 76),(u78 77),(u78 78),undef].toArray,[]⟩∧f≤D∧Ow (ERw (ERat K) 71 4) 49 1 w' w72.heap.size vo (tb (fun z0=>tb (fun z1=>kv (rs R m D) (frc R m D f z0) z1) D) (nfr R m D f))∧Gr w72 w'∧Gr w w') (D - 0) ?_ ?_
  ·exact ⟨0,(.slice none 0 0),(fun i=>List.getD ?l78 i undef),rfl,rfl,(Nat.zero_le _),(Ow.nil _ _ _ _ _),hc72,hB⟩
  rintro n78 a78 w78 ⟨f,vo,u78,rfl,rfl,hkf,oo,hc72,hB⟩ K78 k78
  have lehC:=Below.size hB
  have lehC_hc72:=Below.size hc72
  have hC:=Gr.refl w78
  refine wp_seq_k (fun K79 k79=>?_)
  refine rg [0] ?_
  refine sv 44 (.bool (decide ((f:Int)<(D:Int)))) ?_
  refine sq_nil ?_
  refine k79 _ _ ?_
  try clear k79 K79
  refine wp_seq_k (fun K80 k80=>?_)
  refine wp_cond_split (t:=decide ((f:Int)<(D:Int))) rfl (fun hb81=>?_) (fun hb81=>?_)
  ·have hlf:f<D:=by have:=of_decide_eq_true hb81;omega
   have hnf:=nfr_le R m D f
   refine wp_skip ?_
   refine k80 _ _ ?_
   try clear k80 K80
   refine wp_seq_k (fun K82 k82=>?_)
   refine wp_block ?_
   refine wp_seq_k (fun K83 k83=>?_)
   refine rg [0,1] ?_
   refine sv 45 (.int .i64 ((f:Int))) ?_
   refine sv 11 (.int .i64 ((f:Int))) ?_
   refine sq_nil ?_
   refine k83 _ _ ?_
   try clear k83 K83
   refine wp_seq_k (fun K84 k84=>?_)
   refine wp_seq_k (fun K85 k85=>?_)
   refine rg [0,1,2] ?_
   refine sv 46 v72 ?_
   refine sv 47 (.int .i64 ((f:Int))) ?_
   refine se ?_
   refine ec 48 (sl_contains (z:=(f:Int)) (by omega) (hp72.gr stab_i64 hc72)) ?_
   rintro e86 w86 ⟨rfl,g86⟩
   refine ⟨_,rfl,?_⟩
   replace hB:=hB.trans g86
   replace hc72:=hc72.trans g86
   replace hC:=hC.trans g86
   simp only [p3,p4]
   refine sq_nil ?_
   refine k85 _ _ ?_
   try clear k85 K85
   refine wp_cond_split (t:=hasI (fun z1=>((pv (rs R m D) z1:Nat):Int)) (pl R m D) (f:Int)) rfl (fun hb87=>?_) (fun hb87=>?_)
   ·have hip:isP R m D f=true:=hb87
    refine wp_exit ?_
    simp only [Exit.then,Exit.inBlock,↓reduceIte]
    refine k82 _ _ ?_
    try clear k82 K82
    refine rg [0,1] ?_
    refine sw 78 (.int .i64 (((f:Int)+1))) rfl (RunV.int (x:=IntKind.i64.wrap (((f:Int)+1))) (y:=((f:Int)+1)) (rvk (by kernel_rfl)) (by first | rfl | (rw [IntKind.wrap_i64];omega))) ?_
    refine sv 43 (.int .i64 (((f:Int)+1))) ?_
    refine sq_nil ?_
    refine k78 (D - (f+1)) ⟨List.toArray ?l88,[]⟩ _ (by omega) ?_
    exact ⟨f+1,vo,(fun i=>List.getD ?l88 i undef),rfl,rfl,(by omega),((oo.gr (stab_rw (stab_rat K) 71 4) hC).cast (fr_yes hip)),hc72,hB⟩
   ·have hip:isP R m D f=false:=hb87
    refine wp_skip ?_
    refine k84 _ _ ?_
    try clear k84 K84
    refine wp_seq_k (fun K89 k89=>?_)
    refine rg [0,1,2] ?_
    refine sv 49 (.int .i64 ((D:Int))) ?_
    refine se ?_
    refine eff_mk (E:=(ERat K)) (0:Rat) 49 71 (.agg #[(.bool false),(.slice none 0 0),(.bool false),(.slice none 0 0)]) D 4 64 (some 50) rfl rfl rfl rfl (by kernel_rfl) (by kernel_rfl) (by decide) (by omega) (by decide) (fun w2=>erat_zero K hK w2) (fun b90 w90 g90 mk90 q90=>?_)
    have q90_hc72:=Nat.le_trans (Below.size hc72) q90
    have q90_hC:=Nat.le_trans (Below.size hC) q90
    replace q90:=Nat.le_trans (Below.size hB) q90
    replace hB:=hB.trans g90
    replace hc72:=hc72.trans g90
    replace hC:=hC.trans g90
    simp only [putl,p3,p4]
    refine sv 12 (.slice (some ⟨b90,0,none⟩) D D) ?_
    refine sq_nil ?_
    refine k89 _ _ ?_
    try clear k89 K89
    refine wp_seq_k (fun K91 k91=>?_)
    refine rg [0,1,2,3,4] ?_
    refine sv 51 (.slice (some ⟨b90,0,none⟩) D D) ?_
    refine sv 52 (.int .i64 ((f:Int))) ?_
    refine se ?_
    refine ec 53 (from_r (1) (by omega) (by omega) _) ?_
    rintro e92 w92 ⟨⟨p92,q92,r92,s92,rfl,h92⟩,g92⟩
    refine ⟨_,rfl,?_⟩
    replace hB:=hB.trans g92
    replace hc72:=hc72.trans g92
    replace hC:=hC.trans g92
    simp only [p3,p4]
    refine sw 54 (adr (.slice (some ⟨b90,0,none⟩) D D) (f*4)) rfl (rv_idxn (e:=71) (n:=D) (mk90.sl_n (n:=D) (cap:=D) (List.length_replicate) (Nat.le_refl _)) (List.length_replicate) (by decide) f (by omega) _ _ _ rfl rfl rfl (by kernel_rfl) (by kernel_rfl)) ?_
    refine se ?_
    replace mk90:=mk90.gr (stab_rat K) g92
    refine eff_stm (stab_rat K) mk90 f (by rw [List.length_replicate];omega) (((1:Int):Rat)) (.agg #[p92,q92,r92,s92]) [p92,q92,r92,s92] (D) (D) 71 _ _ rfl rfl rfl rfl rfl (by kernel_rfl) rfl ⟨h92.one0,h92.one1,h92.one2,h92.one3,trivial⟩ ⟨_,_,_,_,rfl,h92.mono (by omega)⟩ (by decide) (fun w93 st93 kt93 mk93=>?_)
    replace hB:=st93.gr hB q90
    replace hc72:=st93.gr hc72 q90_hc72
    replace hC:=st93.gr hC q90_hC
    refine sq_nil ?_
    refine k91 _ _ ?_
    try clear k91 K91
    refine wp_seq_k (fun K94 k94=>?_)
    refine wp_seq_k (fun K95 k95=>?_)
    refine rg [0,1,2] ?_
    refine sv 55 v72 ?_
    refine sw 56 (.int .i64 (((pl R m D:Nat):Int))) rfl (rv_lenn (e:=3) hp72 (tb_lenz rfl) _ _ rfl rfl (by kernel_rfl)) ?_
    refine sv 57 (.int .i64 0) ?_
    refine sq_nil ?_
    refine k95 _ _ ?_
    try clear k95 K95
    refine wp_block ?_
    refine wp_loop_inv (a:=⟨List.toArray ?l96,[]⟩) (fun n a w'=>∃ (j:Nat) (u96:Nat→Value),pl R m D - j=n∧a=⟨[v,(.int .i64 ((D:Int))),undef,undef,(.slice none 0 0),(.int .i64 0),(.int .i64 0),u72,v72,(u96 9),vo,(.int .i64 ((f:Int))),(.slice (some ⟨b90,0,none⟩) D D),(u96 13),(u96 14),(u96 15),(u96 16),(u96 17),(.bool false),undef,(u96 20),(u96 21),(u96 22),(u96 23),undef,undef,undef,undef,(.bool false),(u96 29),(u96 30),(u96 31),(u96 32),(u96 33),(.bool false),(u96 35),(u96 36),(u96 37),(u96 38),(u96 39),(u96 40),(u96 41),(.int .i64 ((D:Int))),(.int .i64 ((f:Int))),(.bool (decide ((f:Int)<(D:Int)))),(u96 45),(u96 46),(u96 47),(.bool (hasI (fun z1=>((pv (rs R m D) z1:Nat):Int)) (pl R m D) (f:Int))),(u96 49),(u96 50),(u96 51),(u96 52),(u96 53),(u96 54),v72,(.int .i64 (((pl R m D:Nat):Int))),(.int .i64 ((j:Int))),(u96 58),(u96 59),(u96 60),(u96 61),(u96 62),(u96 63),(u96 64),(u96 65),(u96 66),(u96 67),(u96 68),(u96 69),(u96 70),(u96 71),(u96 72),(u96 73),(u96 74),(u96 75),(u96 76),(u96 77),(u96 78),undef].toArray,[]⟩∧j≤pl R m D∧Mk (ERat K) 71 4 w' b90 (tb (fun z1=>kvp R m D f j z1) D)∧Gr w72 w'∧Gr w78 w'∧Gr w w') (pl R m D - 0) ?_ ?_
    ·exact ⟨0,(fun i=>List.getD ?l96 i undef),rfl,rfl,(Nat.zero_le _),(mk93.cast kvp_zero),hc72,hC,hB⟩
    rintro n96 a96 w96 ⟨j,u96,rfl,rfl,hkj,mx,hc72,hC,hB⟩ K96 k96
    refine wp_seq_k (fun K97 k97=>?_)
    refine rg [0] ?_
    refine sv 58 (.bool (decide ((j:Int)<((pl R m D:Nat):Int)))) ?_
    refine sq_nil ?_
    refine k97 _ _ ?_
    try clear k97 K97
    refine wp_seq_k (fun K98 k98=>?_)
    refine wp_cond_split (t:=decide ((j:Int)<((pl R m D:Nat):Int))) rfl (fun hb99=>?_) (fun hb99=>?_)
    ·have hlj:j<pl R m D:=by have:=of_decide_eq_true hb99;omega
     have hpj:=rs_pv hlj
     refine wp_skip ?_
     refine k98 _ _ ?_
     try clear k98 K98
     refine wp_seq_k (fun K100 k100=>?_)
     refine wp_block ?_
     refine wp_seq_k (fun K101 k101=>?_)
     refine rg [0,1,2,3,4] ?_
     refine sv 59 (.int .i64 ((j:Int))) ?_
     refine sw 60 (adr v72 (j*1)) rfl (rv_idxn (e:=3) hp72 tb_len (by decide) j (by omega) _ _ _ rfl rfl rfl (by kernel_rfl) (by kernel_rfl)) ?_
     obtain ⟨_,_,rfl,at102⟩:=Sl.get hp72 (by decide) (tb_get (f:=(fun z1=>((pv (rs R m D) z1:Nat):Int))) (n:=(pl R m D)) (i:=j) (by omega))
     refine sw 61 (.int .i64 (((pv (rs R m D) j:Nat):Int))) rfl (rv_ld1 (.int .i64 (((pv (rs R m D) j:Nat):Int))) (at102.gr hc72) _ _ rfl rfl (by kernel_rfl)) ?_
     refine sv 13 (.int .i64 ((j:Int))) ?_
     refine sv 14 (.int .i64 (((pv (rs R m D) j:Nat):Int))) ?_
     refine sq_nil ?_
     refine k101 _ _ ?_
     try clear k101 K101
     refine rg [0,1,2,3,4,5,6,7,8,9,10,11] ?_
     refine sv 62 (.slice (some ⟨b90,0,none⟩) D D) ?_
     refine sv 63 (.int .i64 (((pv (rs R m D) j:Nat):Int))) ?_
     refine sv 64 u72 ?_
     refine sv 65 (.int .i64 ((j:Int))) ?_
     refine sw 66 (adr u72 (j*1)) rfl (rv_idxn (e:=49) hs72 tb_len (by decide) j (by omega) _ _ _ rfl rfl rfl (by kernel_rfl) (by kernel_rfl)) ?_
     obtain ⟨_,_,⟨u103,rfl,hr103⟩,at103⟩:=Sl.get hs72 (by decide) (tb_get (f:=(fun z0=>tb (fun z1=>((rs R m D).m z0 z1)) D)) (n:=R) (i:=j) (by omega))
     refine sw 67 u103 rfl (rv_ld1 u103 (at103.gr hc72) _ _ rfl rfl (by kernel_rfl)) ?_
     refine sv 68 (.int .i64 ((f:Int))) ?_
     refine sw 69 (adr u103 (f*4)) rfl (rv_idxn (e:=71) hr103 tb_len (by decide) f (by omega) _ _ _ rfl rfl rfl (by kernel_rfl) (by kernel_rfl)) ?_
     obtain ⟨_,_,⟨cA104,cB104,cC104,cD104,rfl,h104⟩,at104⟩:=Sl.get hr103 (by decide) (tb_get (f:=(fun z1=>((rs R m D).m j z1))) (n:=D) (i:=f) (by omega))
     refine sw 70 (.agg #[cA104,cB104,cC104,cD104]) rfl (rv_ldn [cA104,cB104,cC104,cD104] (at104.gr hc72) _ _ rfl rfl (by kernel_rfl)) ?_
     refine se ?_
     refine ec 71 (neg_r (h104.kp hc72.kp)) ?_
     rintro e105 w105 ⟨⟨p105,q105,r105,s105,rfl,h105⟩,g105⟩
     refine ⟨_,rfl,?_⟩
     replace hB:=hB.trans g105
     replace hc72:=hc72.trans g105
     replace hC:=hC.trans g105
     simp only [p3,p4]
     refine sw 72 (adr (.slice (some ⟨b90,0,none⟩) D D) ((pv (rs R m D) j)*4)) rfl (rv_idxn (e:=71) (n:=D) (mx.sl_n (n:=D) (cap:=D) (tb_len) (Nat.le_refl _)) (tb_len) (by decide) (pv (rs R m D) j) (by omega) _ _ _ rfl rfl rfl (by kernel_rfl) (by kernel_rfl)) ?_
     refine se ?_
     replace mx:=mx.gr (stab_rat K) g105
     refine eff_stm (stab_rat K) mx (pv (rs R m D) j) (by rw [tb_len];omega) ((-((rs R m D).m j f))) (.agg #[p105,q105,r105,s105]) [p105,q105,r105,s105] (D) (D) 71 _ _ rfl rfl rfl rfl rfl (by kernel_rfl) rfl ⟨h105.one0,h105.one1,h105.one2,h105.one3,trivial⟩ ⟨_,_,_,_,rfl,h105.mono (by omega)⟩ (by decide) (fun w106 st106 kt106 mk106=>?_)
     replace hB:=st106.gr hB q90
     replace hc72:=st106.gr hc72 q90_hc72
     replace hC:=st106.gr hC q90_hC
     refine sq_nil ?_
     refine k100 _ _ ?_
     try clear k100 K100
     refine rg [0,1] ?_
     refine sw 73 (.int .i64 (((j:Int)+1))) rfl (RunV.int (x:=IntKind.i64.wrap (((j:Int)+1))) (y:=((j:Int)+1)) (rvk (by kernel_rfl)) (by first | rfl | (rw [IntKind.wrap_i64];omega))) ?_
     refine sv 57 (.int .i64 (((j:Int)+1))) ?_
     refine sq_nil ?_
     refine k96 (pl R m D - (j+1)) ⟨List.toArray ?l107,[]⟩ _ (by omega) ?_
     exact ⟨j+1,(fun i=>List.getD ?l107 i undef),rfl,rfl,(by omega),(mk106.cast (kvp_set hlj (isP_no hip hlj) rfl)),hc72,hC,hB⟩
    ·have hej:pl R m D=j:=by have:=of_decide_eq_false hb99;omega
     subst hej
     refine wp_exit ?_
     simp only [Exit.then,Exit.inBlock,↓reduceIte]
     refine k94 _ _ ?_
     try clear k94 K94
     refine rg [0,1,2,3,4] ?_
     refine sv 74 vo ?_
     refine sv 75 (.slice (some ⟨b90,0,none⟩) D D) ?_
     refine se ?_
     refine eff_bs 49 1 #[(.slice (some ⟨b90,0,none⟩) D D)] (some 76) rfl (fun _=>by kernel_rfl) (fun b108 w108 g108 L108 q108=>?_)
     have q108_hc72:=Nat.le_trans (Below.size hc72) q108
     have q108_hC:=Nat.le_trans (Below.size hC) q108
     replace hB:=hB.trans g108
     replace hc72:=hc72.trans g108
     replace hC:=hC.trans g108
     simp only [putl,p3,p4]
     refine se ?_
     replace mx:=mx.gr (stab_rat K) g108
     refine eff_apg (stab_rw (stab_rat K) 71 4) _ _ 29 49 w72.heap.size (.slice none 0 0) vo (tb (fun z0=>tb (fun z1=>kv (rs R m D) (frc R m D f z0) z1) D) (nfr R m D f)) b108 [(.slice (some ⟨b90,0,none⟩) D D)] (tb (fun z1=>kvp R m D f (pl R m D) z1) D) 1 1 (some 77) 24 rfl rfl rfl rfl (oo.gr (stab_rw (stab_rat K) 71 4) hC) L108 ⟨rfl,trivial⟩ rfl ⟨_,rfl,(mx.sl_n (tb_len) (Nat.le_refl _))⟩ (Below.size hc72) (by rw [tb_len];omega) (by decide) (by kernel_rfl) (by kernel_rfl) (by decide) (by decide) (fun v109 w109 ow109 wt109 hg109=>?_)
     replace hB:=hg109 _ hB lehc72
     replace hc72:=hg109 _ hc72 (Nat.le_refl _)
     replace ow109:=ow109.cast (fr_no hip rfl)
     simp only [putl,p3,p4]
     refine sv 10 v109 ?_
     refine sq_nil ?_
     refine k82 _ _ ?_
     try clear k82 K82
     refine rg [0,1] ?_
     refine sw 78 (.int .i64 (((f:Int)+1))) rfl (RunV.int (x:=IntKind.i64.wrap (((f:Int)+1))) (y:=((f:Int)+1)) (rvk (by kernel_rfl)) (by first | rfl | (rw [IntKind.wrap_i64];omega))) ?_
     refine sv 43 (.int .i64 (((f:Int)+1))) ?_
     refine sq_nil ?_
     refine k78 (D - (f+1)) ⟨List.toArray ?l110,[]⟩ _ (by omega) ?_
     exact ⟨f+1,v109,(fun i=>List.getD ?l110 i undef),rfl,rfl,(by omega),ow109,hc72,hB⟩
  ·have hef:D=f:=by have:=of_decide_eq_false hb81;omega
   refine wp_exit ?_
   simp only [Exit.then,Exit.inBlock,↓reduceIte]
   refine k76 _ _ ?_
   try clear k76 K76
   refine wp_seq_k (fun K111 k111=>?_)
   refine rg [0,1,2] ?_
   refine sv 79 vo ?_
   refine sv 4 vo ?_
   refine sv 5 (.int .i64 0) ?_
   refine sq_nil ?_
   refine k111 _ _ ?_
   try clear k111 K111
   refine wp_ret ?_
   refine bodyPost_ret (v:=(.tuple #[vo,(.int .i64 0)])) (ret_tmp2 rfl rfl rfl) rfl ⟨?_,hB⟩
   exact (by subst hef;exact ⟨_,rfl,((oo.gr (stab_rw (stab_rat K) 71 4) hC).sl)⟩)

set_option maxRecDepth 100000 in
set_option maxHeartbeats 1000000 in
theorem mx_Solve_y {K R N:Nat} {v vb:Value} {m:Mx_} {b:Nat→Rat} (hR:R=0→N=0) (hK:64≤K) (hK2:K≤20000) (_hR2:R≤96) (_hN2:N≤95) (hz:∀ k,k≤N→RdZ R (N+1) K (rs R (wth N m b) k)) (hfit:(∀ t,pl R (wth N m b) N≤t→t<R→(rs R (wth N m b) N).m t N=0)) {w:World} (hs:Sl (ERw (ERat K) 71 4) 49 1 w v (tb (fun z0=>tb (fun z1=>(m z0 z1)) N) R)) (hb:Sl (ERat K) 71 4 w vb (tb (fun z1=>(b z1)) R)):
    Calls Tryz.prog 33 #[v,vb] w fun e w'=>(∃ u,e=.returned (.tuple #[u,.int .i64 0])∧Sl (ERat K) 71 4 w' u (tb (fun z1=>(sol (rs R (wth N m b) N) N z1)) N))∧Gr w w':=by
 go_enter Tryz.func33,Tryz.ntmps33
 have hB:=Gr.refl w
 refine wp_seq_k (fun K10 k10=>?_)
 refine rg [0,1] ?_
 refine sv 4 (.slice none 0 0) ?_
 refine sv 5 (.int .i64 0) ?_
 refine sq_nil ?_
 refine k10 _ _ ?_
 try clear k10 K10
 refine wp_seq_k (fun K11 k11=>?_)
 refine wp_seq_k (fun K12 k12=>?_)
 refine rg [0,1,2] ?_
 refine sv 7 v ?_
 refine se ?_
 refine ec 8 (mx_size (by omega) (by omega) (hs.gr (stab_rw (stab_rat K) 71 4) hB)) ?_
 rintro e13 w13 ⟨rfl,g13⟩
 refine ⟨_,rfl,?_⟩
 replace hB:=hB.trans g13
 simp only [p3,p4]
 refine sv 6 (.int .i64 0) ?_
 refine sq_nil ?_
 refine k12 _ _ ?_
 try clear k12 K12
 refine wp_seq_k (fun K14 k14=>?_)
 refine rg [0,1] ?_
 refine sv 9 (.int .i64 0) ?_
 refine sv 10 (.bool false) ?_
 refine sq_nil ?_
 refine k14 _ _ ?_
 try clear k14 K14
 refine wp_cond_false rfl ?_
 refine wp_skip ?_
 refine k11 _ _ ?_
 try clear k11 K11
 refine wp_seq_k (fun K15 k15=>?_)
 refine wp_seq_k (fun K16 k16=>?_)
 refine rg [0,1,2,3,4] ?_
 refine sv 12 vb ?_
 refine sw 13 (.int .i64 ((R:Int))) rfl (rv_lenn (e:=71) hb (tb_lenz rfl) _ _ rfl rfl (by kernel_rfl)) ?_
 refine sv 14 v ?_
 refine sw 15 (.int .i64 ((R:Int))) rfl (rv_lenn (e:=49) hs (tb_lenz rfl) _ _ rfl rfl (by kernel_rfl)) ?_
 have hb17:(((R:Int) !=(R:Int)))=false:=(by simp)
 refine sw 16 (.bool false) rfl (RunV.bool (x:=((R:Int) !=(R:Int))) (rvk (by kernel_rfl)) hb17) ?_
 refine sq_nil ?_
 refine k16 _ _ ?_
 try clear k16 K16
 refine wp_cond_false rfl ?_
 refine wp_skip ?_
 refine k15 _ _ ?_
 try clear k15 K15
 refine wp_seq_k (fun K18 k18=>?_)
 refine rg [0,1,2,3,4,5,6,7,8,9] ?_
 refine sv 17 v ?_
 refine sv 18 vb ?_
 refine se ?_
 refine ec 19 (mx_with (by omega) (by omega) (hs.gr (stab_rw (stab_rat K) 71 4) hB) (hb.gr (stab_rat K) hB)) ?_
 rintro e19 w19 ⟨⟨u19,rfl,hs19⟩,g19⟩
 refine ⟨_,rfl,?_⟩
 replace hB:=hB.trans g19
 simp only [p3,p4]
 refine sv 20 v ?_
 refine se ?_
 refine ec 21 (mx_columnsp (hs.gr (stab_rw (stab_rat K) 71 4) hB) hR) ?_
 rintro e20 w20 ⟨rfl,g20⟩
 refine ⟨_,rfl,?_⟩
 replace hB:=hB.trans g20
 simp only [p3,p4]
 refine se ?_
 replace hs19:=hs19.gr (stab_rw (stab_rat K) 71 4) g20
 refine ec 22 (mx_solved_y hK hK2 (by omega) (by omega) hz hfit hs19) ?_
 rintro e21 w21 ⟨⟨u21,rfl,hs21⟩,g21⟩
 refine ⟨_,rfl,?_⟩
 replace hB:=hB.trans g21
 simp only [p3,p4]
 refine sv 23 u21 ?_
 refine sv 24 (.int .i64 0) ?_
 refine sv 4 u21 ?_
 refine sv 5 (.int .i64 0) ?_
 refine sq_nil ?_
 refine k18 _ _ ?_
 try clear k18 K18
 refine wp_ret ?_
 refine bodyPost_ret (v:=(.tuple #[u21,(.int .i64 0)])) (ret_tmp2 rfl rfl rfl) rfl ⟨?_,hB⟩
 exact ⟨_,rfl,hs21⟩

set_option maxRecDepth 100000 in
set_option maxHeartbeats 1000000 in
theorem mx_Combine_y {K R N:Nat} {v vb:Value} {m:Mx_} {b:Nat→Rat} (hR:R=0→N=0) (hK:64≤K) (hK2:K≤20000) (_hR2:R≤96) (_hN2:N≤95) (hz:∀ k,k≤R→RdZ N (R+1) K (rs N (wth R (fun z7 z8=>m z8 z7) b) k)) (hfit:(∀ t,pl N (wth R (fun z7 z8=>m z8 z7) b) R≤t→t<N→(rs N (wth R (fun z7 z8=>m z8 z7) b) R).m t R=0)) {w:World} (hs:Sl (ERw (ERat K) 71 4) 49 1 w v (tb (fun z0=>tb (fun z1=>(m z0 z1)) N) R)) (hb:Sl (ERat K) 71 4 w vb (tb (fun z1=>(b z1)) N)):
    Calls Tryz.prog 36 #[v,vb] w fun e w'=>(∃ u,e=.returned (.tuple #[u,.int .i64 0])∧Sl (ERat K) 71 4 w' u (tb (fun z1=>(sol (rs N (wth R (fun z7 z8=>m z8 z7) b) R) R z1)) R))∧Gr w w':=by
 go_enter Tryz.func36,Tryz.ntmps36
 have hB:=Gr.refl w
 refine wp_seq_k (fun K10 k10=>?_)
 refine rg [0,1] ?_
 refine sv 4 (.slice none 0 0) ?_
 refine sv 5 (.int .i64 0) ?_
 refine sq_nil ?_
 refine k10 _ _ ?_
 try clear k10 K10
 refine wp_seq_k (fun K11 k11=>?_)
 refine wp_seq_k (fun K12 k12=>?_)
 refine rg [0,1,2] ?_
 refine sv 7 v ?_
 refine se ?_
 refine ec 8 (mx_size (by omega) (by omega) (hs.gr (stab_rw (stab_rat K) 71 4) hB)) ?_
 rintro e13 w13 ⟨rfl,g13⟩
 refine ⟨_,rfl,?_⟩
 replace hB:=hB.trans g13
 simp only [p3,p4]
 refine sv 6 (.int .i64 0) ?_
 refine sq_nil ?_
 refine k12 _ _ ?_
 try clear k12 K12
 refine wp_seq_k (fun K14 k14=>?_)
 refine rg [0,1] ?_
 refine sv 9 (.int .i64 0) ?_
 refine sv 10 (.bool false) ?_
 refine sq_nil ?_
 refine k14 _ _ ?_
 try clear k14 K14
 refine wp_cond_false rfl ?_
 refine wp_skip ?_
 refine k11 _ _ ?_
 try clear k11 K11
 refine wp_seq_k (fun K15 k15=>?_)
 refine wp_seq_k (fun K16 k16=>?_)
 refine rg [0,1,2,3,4] ?_
 refine sv 12 vb ?_
 refine sw 13 (.int .i64 ((N:Int))) rfl (rv_lenn (e:=71) hb (tb_lenz rfl) _ _ rfl rfl (by kernel_rfl)) ?_
 refine sv 14 v ?_
 refine se ?_
 refine ec 15 (mx_columnsp (hs.gr (stab_rw (stab_rat K) 71 4) hB) hR) ?_
 rintro e17 w17 ⟨rfl,g17⟩
 refine ⟨_,rfl,?_⟩
 replace hB:=hB.trans g17
 simp only [p3,p4]
 have hb18:(((N:Int) !=(N:Int)))=false:=(by simp)
 refine sw 16 (.bool false) rfl (RunV.bool (x:=((N:Int) !=(N:Int))) (rvk (by kernel_rfl)) hb18) ?_
 refine sq_nil ?_
 refine k16 _ _ ?_
 try clear k16 K16
 refine wp_cond_false rfl ?_
 refine wp_skip ?_
 refine k15 _ _ ?_
 try clear k15 K15
 refine wp_seq_k (fun K19 k19=>?_)
 refine rg [0,1,2,3,4,5,6,7,8,9,10] ?_
 refine sv 17 v ?_
 refine se ?_
 refine ec 18 (mx_transposed hR hK (by omega) (by omega) (hs.gr (stab_rw (stab_rat K) 71 4) hB)) ?_
 rintro e20 w20 ⟨⟨u20,rfl,hs20⟩,g20⟩
 refine ⟨_,rfl,?_⟩
 replace hB:=hB.trans g20
 simp only [p3,p4]
 refine sv 19 vb ?_
 refine se ?_
 refine ec 20 (mx_with (m:=(fun z7 z8=>m z8 z7)) (by omega) (by omega) hs20 (hb.gr (stab_rat K) hB)) ?_
 rintro e21 w21 ⟨⟨u21,rfl,hs21⟩,g21⟩
 refine ⟨_,rfl,?_⟩
 replace hB:=hB.trans g21
 simp only [p3,p4]
 refine sv 21 v ?_
 refine sw 22 (.int .i64 ((R:Int))) rfl (rv_lenn (e:=49) hs (tb_lenz rfl) _ _ rfl rfl (by kernel_rfl)) ?_
 refine se ?_
 refine ec 23 (mx_solved_y hK hK2 (by omega) (by omega) hz hfit hs21) ?_
 rintro e22 w22 ⟨⟨u22,rfl,hs22⟩,g22⟩
 refine ⟨_,rfl,?_⟩
 replace hB:=hB.trans g22
 simp only [p3,p4]
 refine sv 24 u22 ?_
 refine sv 25 (.int .i64 0) ?_
 refine sv 4 u22 ?_
 refine sv 5 (.int .i64 0) ?_
 refine sq_nil ?_
 refine k19 _ _ ?_
 try clear k19 K19
 refine wp_ret ?_
 refine bodyPost_ret (v:=(.tuple #[u22,(.int .i64 0)])) (ret_tmp2 rfl rfl rfl) rfl ⟨?_,hB⟩
 exact ⟨_,rfl,hs22⟩

set_option maxRecDepth 100000 in
set_option maxHeartbeats 1000000 in
theorem mx_square {K R:Nat} {v:Value} {m:Mx_} (_hR2:R≤96) {w:World} (hs:Sl (ERw (ERat K) 71 4) 49 1 w v (tb (fun z0=>tb (fun z1=>(m z0 z1)) R) R)):
    Calls Tryz.prog 78 #[v] w fun e w'=>e=.returned (.int .i64 0)∧Gr w w':=by
 go_enter Tryz.func78,Tryz.ntmps78
 have hB:=Gr.refl w
 refine wp_seq_k (fun K10 k10=>?_)
 refine rg [0] ?_
 refine sv 2 (.int .i64 0) ?_
 refine sq_nil ?_
 refine k10 _ _ ?_
 try clear k10 K10
 refine wp_seq_k (fun K11 k11=>?_)
 refine wp_seq_k (fun K12 k12=>?_)
 refine rg [0,1,2] ?_
 refine sv 4 v ?_
 refine se ?_
 refine ec 5 (mx_size (by omega) (by omega) (hs.gr (stab_rw (stab_rat K) 71 4) hB)) ?_
 rintro e13 w13 ⟨rfl,g13⟩
 refine ⟨_,rfl,?_⟩
 replace hB:=hB.trans g13
 simp only [p3,p4]
 refine sv 3 (.int .i64 0) ?_
 refine sq_nil ?_
 refine k12 _ _ ?_
 try clear k12 K12
 refine wp_seq_k (fun K14 k14=>?_)
 refine rg [0,1] ?_
 refine sv 6 (.int .i64 0) ?_
 refine sv 7 (.bool false) ?_
 refine sq_nil ?_
 refine k14 _ _ ?_
 try clear k14 K14
 refine wp_cond_false rfl ?_
 refine wp_skip ?_
 refine k11 _ _ ?_
 try clear k11 K11
 refine wp_seq_k (fun K15 k15=>?_)
 refine wp_seq_k (fun K16 k16=>?_)
 refine rg [0,1,2,3,4,5,6,7,8,9] ?_
 refine sv 9 v ?_
 refine sw 10 (.int .i64 ((R:Int))) rfl (rv_lenn (e:=49) hs (tb_lenz rfl) _ _ rfl rfl (by kernel_rfl)) ?_
 refine sv 11 (.bool (decide ((0:Int)<(R:Int)))) ?_
 rcases Bool.eq_false_or_eq_true (decide ((0:Int)<(R:Int))) with hb17 | hb17
 ·have hq18:((0:Int)<(R:Int)):=of_decide_eq_true hb17
  refine sw 12 (.bool true) rfl (RunV.bool (x:=decide ((0:Int)<(R:Int))) (rvk (by kernel_rfl)) hb17) ?_
  refine sv 13 v ?_
  refine se ?_
  refine ec 14 (mx_columnsR (hs.gr (stab_rw (stab_rat K) 71 4) hB) (by omega)) ?_
  rintro e19 w19 ⟨rfl,g19⟩
  refine ⟨_,rfl,?_⟩
  replace hB:=hB.trans g19
  simp only [p3,p4]
  refine sv 15 v ?_
  refine sw 16 (.int .i64 ((R:Int))) rfl (rv_lenn (e:=49) hs (tb_lenz rfl) _ _ rfl rfl (by kernel_rfl)) ?_
  have hb20:(((R:Int) !=(R:Int)))=false:=(by simp)
  refine sw 17 (.bool false) rfl (RunV.bool (x:=((R:Int) !=(R:Int))) (rvk (by kernel_rfl)) hb20) ?_
  refine sv 18 (.bool false) ?_
  refine sq_nil ?_
  refine k16 _ _ ?_
  try clear k16 K16
  refine wp_cond_false rfl ?_
  refine wp_skip ?_
  refine k15 _ _ ?_
  try clear k15 K15
  refine wp_seq_k (fun K21 k21=>?_)
  refine rg [0] ?_
  refine sv 2 (.int .i64 0) ?_
  refine sq_nil ?_
  refine k21 _ _ ?_
  try clear k21 K21
  refine wp_ret ?_
  refine bodyPost_ret (v:=(.int .i64 0)) (ret_tmp rfl rfl) rfl ⟨?_,hB⟩
  exact rfl
 ·have hq22:¬ ((0:Int)<(R:Int)):=of_decide_eq_false hb17
  refine sw 12 (.bool false) rfl (RunV.bool (x:=decide ((0:Int)<(R:Int))) (rvk (by kernel_rfl)) hb17) ?_
  refine ss 13 ?_
  refine ss 14 ?_
  refine ss 15 ?_
  refine ss 16 ?_
  refine ss 17 ?_
  refine sv 18 (.bool false) ?_
  refine sq_nil ?_
  refine k16 _ _ ?_
  try clear k16 K16
  refine wp_cond_false rfl ?_
  refine wp_skip ?_
  refine k15 _ _ ?_
  try clear k15 K15
  refine wp_seq_k (fun K23 k23=>?_)
  refine rg [0] ?_
  refine sv 2 (.int .i64 0) ?_
  refine sq_nil ?_
  refine k23 _ _ ?_
  try clear k23 K23
  refine wp_ret ?_
  refine bodyPost_ret (v:=(.int .i64 0)) (ret_tmp rfl rfl) rfl ⟨?_,hB⟩
  exact rfl

set_option maxRecDepth 100000 in
set_option maxHeartbeats 1000000 in
theorem mx_Determinant {K R:Nat} {v:Value} {m:Mx_} (hK:64≤K) (_hK2:K≤20000) (_hR2:R≤96) (hz:∀ k,k≤R→RdZ R R K (rs R m k)) {w:World} (hs:Sl (ERw (ERat K) 71 4) 49 1 w v (tb (fun z0=>tb (fun z1=>(m z0 z1)) R) R)):
    Calls Tryz.prog 38 #[v] w fun e w'=>(∃ c0 c1 c2 c3,e=.returned (.tuple #[.agg #[c0,c1,c2,c3],.int .i64 0])∧IsRat w' K c0 c1 c2 c3 (dtE R m))∧Gr w w':=by
 go_enter Tryz.func38,Tryz.ntmps38
 have hB:=Gr.refl w
 refine wp_seq_k (fun K10 k10=>?_)
 refine rg [0,1] ?_
 refine se ?_
 refine ea 71 #[(.bool false),(.slice none 0 0),(.bool false),(.slice none 0 0)] 2 hB fun b11 w11 g11 L11 o11 q11 hB=>?_
 simp only [p3,p4]
 refine sv 3 (.int .i64 0) ?_
 refine sq_nil ?_
 refine k10 _ _ ?_
 try clear k10 K10
 refine wp_seq_k (fun K12 k12=>?_)
 refine wp_seq_k (fun K13 k13=>?_)
 refine rg [0,1,2] ?_
 refine sv 8 v ?_
 refine se ?_
 refine ec 9 (mx_square (by omega) (hs.gr (stab_rw (stab_rat K) 71 4) hB)) ?_
 rintro e14 w14 ⟨rfl,g14⟩
 refine ⟨_,rfl,?_⟩
 replace hB:=hB.trans g14
 simp only [p3,p4]
 refine sv 4 (.int .i64 0) ?_
 refine sq_nil ?_
 refine k13 _ _ ?_
 try clear k13 K13
 refine wp_seq_k (fun K15 k15=>?_)
 refine rg [0,1] ?_
 refine sv 10 (.int .i64 0) ?_
 refine sv 11 (.bool false) ?_
 refine sq_nil ?_
 refine k15 _ _ ?_
 try clear k15 K15
 refine wp_cond_false rfl ?_
 refine wp_skip ?_
 refine k12 _ _ ?_
 try clear k12 K12
 refine wp_seq_k (fun K16 k16=>?_)
 refine rg [0,1,2,3,4,5,6,7,8,9,10,11] ?_
 refine sv 15 v ?_
 refine sv 16 v ?_
 refine sw 17 (.int .i64 ((R:Int))) rfl (rv_lenn (e:=49) hs (tb_lenz rfl) _ _ rfl rfl (by kernel_rfl)) ?_
 refine se ?_
 have hlen17:=rs_len R m R
 have hple17:=rs_ple R m R
 refine ec 18 (mx_reduced (by omega) (by omega) (by omega) (by omega) (by omega) hz (hs.gr (stab_rw (stab_rat K) 71 4) hB)) ?_
 rintro e17 w17 ⟨⟨u17,v17,p17,q17,r17,s17,rfl,hs17,hp17,h17⟩,g17⟩
 refine ⟨_,rfl,?_⟩
 replace hB:=hB.trans g17
 have lehc17:=Below.size hB
 have hc17:=Gr.refl w17
 replace L11:=L11.gr (g14.trans g17)
 simp only [p3,p4]
 refine sv 14 (.tuple #[u17,v17,(.agg #[p17,q17,r17,s17])]) ?_
 refine sv 19 u17 ?_
 refine sv 20 v17 ?_
 refine sv 21 (.agg #[p17,q17,r17,s17]) ?_
 refine se ?_
 refine ea 71 #[(.bool false),(.slice none 0 0),(.bool false),(.slice none 0 0)] 7 hB fun b18 w18 g18 L18 o18 q18 hB=>?_
 have ne11_18:=L11.ne o18
 have q18_hc17:=Nat.le_trans (Below.size hc17) o18
 replace hc17:=hc17.trans g18
 simp only [p3,p4]
 refine sv 5 u17 ?_
 refine sv 6 v17 ?_
 refine se ?_
 have lo19:=L18
 refine es 71 0 (.agg #[p17,q17,r17,s17]) [p17,q17,r17,s17] #[p17,q17,r17,s17] L18 hB q18 ⟨h17.one0,h17.one1,h17.one2,h17.one3,trivial⟩ fun w19 st19 kp19 L18 hB=>?_
 replace hc17:=st19.gr hc17 q18_hc17
 refine sq_nil ?_
 refine k16 _ _ ?_
 try clear k16 K16
 refine wp_seq_k (fun K20 k20=>?_)
 refine wp_seq_k (fun K21 k21=>?_)
 refine rg [0,1,2,3,4] ?_
 refine sv 22 v17 ?_
 refine sw 23 (.int .i64 (((pl R m R:Nat):Int))) rfl (rv_lenn (e:=3) hp17 (tb_lenz rfl) _ _ rfl rfl (by kernel_rfl)) ?_
 refine sv 24 v ?_
 refine sw 25 (.int .i64 ((R:Int))) rfl (rv_lenn (e:=49) hs (tb_lenz rfl) _ _ rfl rfl (by kernel_rfl)) ?_
 refine sv 26 (.bool (decide (((pl R m R:Nat):Int)<(R:Int)))) ?_
 refine sq_nil ?_
 refine k21 _ _ ?_
 try clear k21 K21
 refine wp_cond_split (t:=decide (((pl R m R:Nat):Int)<(R:Int))) rfl (fun hb22=>?_) (fun hb22=>?_)
 ·have hlt:pl R m R<R:=by have:=of_decide_eq_true hb22;omega
  refine wp_seq_k (fun K23 k23=>?_)
  refine rg [0,1,2] ?_
  refine sv 27 (.agg #[(.bool false),(.slice none 0 0),(.bool false),(.slice none 0 0)]) ?_
  refine se ?_
  replace L11:=st19.lc (L11.gr g18) ne11_18
  have lo24:=L11
  refine es 71 0 (.agg #[(.bool false),(.slice none 0 0),(.bool false),(.slice none 0 0)]) [(.bool false),(.slice none 0 0),(.bool false),(.slice none 0 0)] #[(.bool false),(.slice none 0 0),(.bool false),(.slice none 0 0)] L11 hB q11 ⟨rfl,rfl,rfl,rfl,trivial⟩ fun w24 st24 kp24 L11 hB=>?_
  refine sv 3 (.int .i64 0) ?_
  refine sq_nil ?_
  refine k23 _ _ ?_
  try clear k23 K23
  refine wp_ret ?_
  simp only [Exit.then]
  refine bodyPost_ret (v:=(.tuple #[(.agg #[(.bool false),(.slice none 0 0),(.bool false),(.slice none 0 0)]),(.int .i64 0)])) (ret_cell_tmp' _ _ _ rfl rfl L11 (by kernel_rfl) rfl) rfl ⟨?_,hB⟩
  exact ⟨_,_,_,_,rfl,((IsRat.zero _ (k:=K) hK).castq (dtE_lt hlt))⟩
 ·have hlt:¬ pl R m R<R:=by have:=of_decide_eq_false hb22;omega
  refine wp_skip ?_
  refine k20 _ _ ?_
  try clear k20 K20
  refine wp_seq_k (fun K25 k25=>?_)
  refine rg [0,1,2] ?_
  refine sw 28 (.agg #[p17,q17,r17,s17]) rfl (rl 71 0 [p17,q17,r17,s17] L18) ?_
  refine se ?_
  replace L11:=st19.lc (L11.gr g18) ne11_18
  have lo26:=L11
  refine es 71 0 (.agg #[p17,q17,r17,s17]) [p17,q17,r17,s17] #[p17,q17,r17,s17] L11 hB q11 ⟨h17.one0,h17.one1,h17.one2,h17.one3,trivial⟩ fun w26 st26 kp26 L11 hB=>?_
  refine sv 3 (.int .i64 0) ?_
  refine sq_nil ?_
  refine k25 _ _ ?_
  try clear k25 K25
  refine wp_ret ?_
  refine bodyPost_ret (v:=(.tuple #[(.agg #[p17,q17,r17,s17]),(.int .i64 0)])) (ret_cell_tmp' _ _ _ rfl rfl L11 (by kernel_rfl) rfl) rfl ⟨?_,hB⟩
  have kq27:=g18.kp.trans (kp19.trans kp26)
  replace h17:=h17.kp kq27
  exact ⟨_,_,_,_,rfl,(h17.castq (dtE_ge hlt))⟩

set_option maxRecDepth 100000 in
set_option maxHeartbeats 1000000 in
theorem sl_grow {K:Nat} (D:Nat) (_hD:D≤100000) (w:World):
    Calls Tryz.prog 100 #[(.slice none 0 0),(.int .i64 ((D:Int)))] w fun e w'=>(∃ u,e=.returned u∧Ow (ERat K) 71 4 w' w.heap.size u ([]:List Rat))∧Gr w w':=by
 go_enter Tryz.func100,Tryz.ntmps100
 have hB:=Gr.refl w
 refine wp_seq_k (fun K10 k10=>?_)
 refine rg [0] ?_
 refine sv 4 (.slice none 0 0) ?_
 refine sq_nil ?_
 refine k10 _ _ ?_
 try clear k10 K10
 refine wp_seq_k (fun K11 k11=>?_)
 refine wp_seq_k (fun K12 k12=>?_)
 refine rg [0,1] ?_
 refine sv 5 (.int .i64 ((D:Int))) ?_
 have hb13:(decide ((D:Int)<(0:Int)))=false:=(by simp only [decide_eq_false_iff_not];omega)
 refine sw 6 (.bool false) rfl (RunV.bool (x:=decide ((D:Int)<(0:Int))) (rvk (by kernel_rfl)) hb13) ?_
 refine sq_nil ?_
 refine k12 _ _ ?_
 try clear k12 K12
 refine wp_cond_false rfl ?_
 refine wp_skip ?_
 refine k11 _ _ ?_
 try clear k11 K11
 refine wp_seq_k (fun K14 k14=>?_)
 refine wp_seq_k (fun K15 k15=>?_)
 refine rg [0,1,2,3,4,5,6,7] ?_
 refine sv 8 (.int .i64 ((D:Int))) ?_
 refine sv 9 (.slice none 0 0) ?_
 refine sv 10 (.int .i64 0) ?_
 refine sv 11 (.slice none 0 0) ?_
 refine sv 12 (.int .i64 0) ?_
 refine sv 13 (.int .i64 0) ?_
 refine sw 14 (.int .i64 ((D:Int))) rfl (RunV.int (x:=IntKind.i64.wrap (((D:Int) - 0))) (y:=(D:Int)) (rvk (by kernel_rfl)) (by first | rfl | (rw [IntKind.wrap_i64];omega))) ?_
 refine sv 1 (.int .i64 ((D:Int))) ?_
 refine sq_nil ?_
 refine k15 _ _ ?_
 try clear k15 K15
 refine wp_seq_k (fun K16 k16=>?_)
 refine rg [0,1] ?_
 refine sv 15 (.int .i64 ((D:Int))) ?_
 refine sv 16 (.bool (decide ((0:Int)<(D:Int)))) ?_
 refine sq_nil ?_
 refine k16 _ _ ?_
 try clear k16 K16
 refine wp_cond_split (t:=decide ((0:Int)<(D:Int))) rfl (fun hb17=>?_) (fun hb17=>?_)
 ·have hq18:((0:Int)<(D:Int)):=of_decide_eq_true hb17
  refine rg [0,1,2,3,4,5,6,7,8,9] ?_
  refine sv 17 (.slice none 0 0) ?_
  refine sv 18 (.slice none 0 0) ?_
  refine sv 19 (.int .i64 0) ?_
  refine sv 20 (.slice none 0 0) ?_
  refine sv 21 (.int .i64 ((D:Int))) ?_
  refine se ?_
  refine eff_appz (α:=Rat) _ _ 49 3 71 (.agg #[(.bool false),(.slice none 0 0),(.bool false),(.slice none 0 0)]) 4 64 D (some 22) rfl rfl rfl rfl (by omega) (by omega) (by decide) (by kernel_rfl) (by kernel_rfl) (by kernel_rfl) (by decide) (fun b19 cp19 w19 g19 _ oz19=>?_)
  replace hB:=hB.trans g19
  simp only [putl,p3,p4]
  refine sv 23 (.slice none 0 0) ?_
  refine sv 24 (.int .i64 0) ?_
  refine sw 25 (.slice (some ⟨b19,0,none⟩) 0 cp19) rfl (rv_cut0 (e:=71) (c:=4) _ _ _ rfl rfl rfl (by kernel_rfl) (by kernel_rfl)) ?_
  refine sv 0 (.slice (some ⟨b19,0,none⟩) 0 cp19) ?_
  refine sq_nil ?_
  refine k14 _ _ ?_
  try clear k14 K14
  refine wp_seq_k (fun K20 k20=>?_)
  refine rg [0,1] ?_
  refine sv 26 (.slice (some ⟨b19,0,none⟩) 0 cp19) ?_
  refine sv 4 (.slice (some ⟨b19,0,none⟩) 0 cp19) ?_
  refine sq_nil ?_
  refine k20 _ _ ?_
  try clear k20 K20
  refine wp_ret ?_
  refine bodyPost_ret (v:=(.slice (some ⟨b19,0,none⟩) 0 cp19)) (ret_tmp rfl rfl) rfl ⟨?_,hB⟩
  exact ⟨_,rfl,oz19 _⟩
 ·have hq21:¬ ((0:Int)<(D:Int)):=of_decide_eq_false hb17
  refine wp_skip ?_
  refine k14 _ _ ?_
  try clear k14 K14
  refine wp_seq_k (fun K22 k22=>?_)
  refine rg [0,1] ?_
  refine sv 26 (.slice none 0 0) ?_
  refine sv 4 (.slice none 0 0) ?_
  refine sq_nil ?_
  refine k22 _ _ ?_
  try clear k22 K22
  refine wp_ret ?_
  refine bodyPost_ret (v:=(.slice none 0 0)) (ret_tmp rfl rfl) rfl ⟨?_,hB⟩
  exact ⟨_,rfl,Ow.nil _ _ _ _ _⟩

set_option maxRecDepth 100000 in
set_option maxHeartbeats 1000000 in
theorem sl_concat {K N M:Nat} {vx vy:Value} {x y:Nat→Rat} {bb:Nat} (_hN:N≤1000) (_hM:M≤1000) {w:World} (hL:Lc w bb #[vx,vy] 49) (hx:Sl (ERat K) 71 4 w vx (tb (fun z1=>(x z1)) N)) (hy:Sl (ERat K) 71 4 w vy (tb (fun z1=>(y z1)) M)):
    Calls Tryz.prog 79 #[(.slice (some ⟨bb,0,none⟩) 2 2)] w fun e w'=>(∃ u,e=.returned u∧Sl (ERat K) 71 4 w' u (tb (fun z2=>(if z2<N then x z2 else y (z2 - N))) (N+M)))∧Gr w w':=by
 go_enter Tryz.func79,Tryz.ntmps79
 have hB:=Gr.refl w
 refine wp_seq_k (fun K10 k10=>?_)
 refine rg [0] ?_
 refine sv 2 (.slice none 0 0) ?_
 refine sq_nil ?_
 refine k10 _ _ ?_
 try clear k10 K10
 refine wp_seq_k (fun K11 k11=>?_)
 refine rg [0] ?_
 refine sv 3 (.int .i64 0) ?_
 refine sq_nil ?_
 refine k11 _ _ ?_
 try clear k11 K11
 refine wp_seq_k (fun K12 k12=>?_)
 refine wp_seq_k (fun K13 k13=>?_)
 refine rg [0,1,2] ?_
 refine sv 9 (.slice (some ⟨bb,0,none⟩) 2 2) ?_
 refine sv 10 (.int .i64 2) ?_
 refine sv 11 (.int .i64 0) ?_
 refine sq_nil ?_
 refine k13 _ _ ?_
 try clear k13 K13
 refine wp_block ?_
 refine wp_loop_rounds 3 ?_
 show Code.wp _ _ _ _ _
 refine wp_seq_k (fun K14 k14=>?_)
 refine rg [0] ?_
 refine sv 12 (.bool true) ?_
 refine sq_nil ?_
 refine k14 _ _ ?_
 try clear k14 K14
 refine wp_seq_k (fun K15 k15=>?_)
 refine wp_cond_true rfl ?_
 refine wp_skip ?_
 refine k15 _ _ ?_
 try clear k15 K15
 refine wp_seq_k (fun K16 k16=>?_)
 refine wp_block ?_
 refine wp_seq_k (fun K17 k17=>?_)
 refine rg [0,1,2] ?_
 refine sv 13 (.pointer (some ⟨bb,0,none⟩)) ?_
 refine sw 14 vx rfl (rk 49 0 hL) ?_
 refine sv 5 vx ?_
 refine sq_nil ?_
 refine k17 _ _ ?_
 try clear k17 K17
 refine wp_seq_k (fun K18 k18=>?_)
 refine rg [0,1,2,3,4] ?_
 refine sv 15 (.int .i64 0) ?_
 refine sv 16 vx ?_
 refine sw 17 (.int .i64 ((N:Int))) rfl (rv_lenn (e:=71) hx (tb_lenz rfl) _ _ rfl rfl (by kernel_rfl)) ?_
 refine sw 18 (.int .i64 ((N:Int))) rfl (RunV.int (x:=IntKind.i64.wrap ((0+(N:Int)))) (y:=(N:Int)) (rvk (by kernel_rfl)) (by first | rfl | (rw [IntKind.wrap_i64];omega))) ?_
 refine sv 3 (.int .i64 ((N:Int))) ?_
 refine sq_nil ?_
 refine k18 _ _ ?_
 try clear k18 K18
 refine wp_seq_k (fun K19 k19=>?_)
 refine rg [0,1] ?_
 refine sv 19 (.int .i64 ((N:Int))) ?_
 have hb20:(decide ((N:Int)<(0:Int)))=false:=(by simp only [decide_eq_false_iff_not];omega)
 refine sw 20 (.bool false) rfl (RunV.bool (x:=decide ((N:Int)<(0:Int))) (rvk (by kernel_rfl)) hb20) ?_
 refine sq_nil ?_
 refine k19 _ _ ?_
 try clear k19 K19
 refine wp_cond_false rfl ?_
 refine wp_skip ?_
 refine k16 _ _ ?_
 try clear k16 K16
 refine rg [0,1] ?_
 refine sv 22 (.int .i64 1) ?_
 refine sv 11 (.int .i64 1) ?_
 refine sq_nil ?_
 show Code.rounds _ _ _ _ _ _
 show Code.wp _ _ _ _ _
 refine wp_seq_k (fun K21 k21=>?_)
 refine rg [0] ?_
 refine sv 12 (.bool true) ?_
 refine sq_nil ?_
 refine k21 _ _ ?_
 try clear k21 K21
 refine wp_seq_k (fun K22 k22=>?_)
 refine wp_cond_true rfl ?_
 refine wp_skip ?_
 refine k22 _ _ ?_
 try clear k22 K22
 refine wp_seq_k (fun K23 k23=>?_)
 refine wp_block ?_
 refine wp_seq_k (fun K24 k24=>?_)
 refine rg [0,1,2] ?_
 refine sv 13 (.pointer (some ⟨bb,1,none⟩)) ?_
 refine sw 14 vy rfl (rk 49 1 hL) ?_
 refine sv 5 vy ?_
 refine sq_nil ?_
 refine k24 _ _ ?_
 try clear k24 K24
 refine wp_seq_k (fun K25 k25=>?_)
 refine rg [0,1,2,3,4] ?_
 refine sv 15 (.int .i64 ((N:Int))) ?_
 refine sv 16 vy ?_
 refine sw 17 (.int .i64 ((M:Int))) rfl (rv_lenn (e:=71) hy (tb_lenz rfl) _ _ rfl rfl (by kernel_rfl)) ?_
 refine sw 18 (.int .i64 (((N+M:Nat):Int))) rfl (RunV.int (x:=IntKind.i64.wrap (((N:Int)+(M:Int)))) (y:=((N+M:Nat):Int)) (rvk (by kernel_rfl)) (by first | rfl | (rw [IntKind.wrap_i64];omega))) ?_
 refine sv 3 (.int .i64 (((N+M:Nat):Int))) ?_
 refine sq_nil ?_
 refine k25 _ _ ?_
 try clear k25 K25
 refine wp_seq_k (fun K26 k26=>?_)
 refine rg [0,1] ?_
 refine sv 19 (.int .i64 (((N+M:Nat):Int))) ?_
 have hb27:(decide (((N+M:Nat):Int)<(0:Int)))=false:=(by simp only [decide_eq_false_iff_not];omega)
 refine sw 20 (.bool false) rfl (RunV.bool (x:=decide (((N+M:Nat):Int)<(0:Int))) (rvk (by kernel_rfl)) hb27) ?_
 refine sq_nil ?_
 refine k26 _ _ ?_
 try clear k26 K26
 refine wp_cond_false rfl ?_
 refine wp_skip ?_
 refine k23 _ _ ?_
 try clear k23 K23
 refine rg [0,1] ?_
 refine sv 22 (.int .i64 2) ?_
 refine sv 11 (.int .i64 2) ?_
 refine sq_nil ?_
 show Code.rounds _ _ _ _ _ _
 show Code.wp _ _ _ _ _
 refine wp_seq_k (fun K28 k28=>?_)
 refine rg [0] ?_
 refine sv 12 (.bool false) ?_
 refine sq_nil ?_
 refine k28 _ _ ?_
 try clear k28 K28
 refine wp_seq_k (fun K29 k29=>?_)
 refine wp_cond_false rfl ?_
 refine wp_exit ?_
 simp only [Exit.then,Exit.inBlock,↓reduceIte]
 refine k12 _ _ ?_
 try clear k12 K12
 refine wp_seq_k (fun K30 k30=>?_)
 refine rg [0,1,2] ?_
 refine sv 23 (.int .i64 (((N+M:Nat):Int))) ?_
 refine se ?_
 have sz31:=Below.size hB
 refine ec 24 (sl_grow (K:=K) (N+M) (by omega) _) ?_
 rintro e31 w31 ⟨⟨u31,rfl,ho31⟩,g31⟩
 refine ⟨_,rfl,?_⟩
 replace hB:=hB.trans g31
 replace ho31:=ho31.mono sz31
 simp only [p3,p4]
 refine sv 6 u31 ?_
 refine sq_nil ?_
 refine k30 _ _ ?_
 try clear k30 K30
 refine wp_seq_k (fun K32 k32=>?_)
 refine wp_seq_k (fun K33 k33=>?_)
 refine rg [0,1,2] ?_
 refine sv 25 (.slice (some ⟨bb,0,none⟩) 2 2) ?_
 refine sv 26 (.int .i64 2) ?_
 refine sv 27 (.int .i64 0) ?_
 refine sq_nil ?_
 refine k33 _ _ ?_
 try clear k33 K33
 refine wp_block ?_
 refine wp_loop_rounds 3 ?_
 show Code.wp _ _ _ _ _
 refine wp_seq_k (fun K34 k34=>?_)
 refine rg [0] ?_
 refine sv 28 (.bool true) ?_
 refine sq_nil ?_
 refine k34 _ _ ?_
 try clear k34 K34
 refine wp_seq_k (fun K35 k35=>?_)
 refine wp_cond_true rfl ?_
 refine wp_skip ?_
 refine k35 _ _ ?_
 try clear k35 K35
 refine wp_seq_k (fun K36 k36=>?_)
 refine wp_block ?_
 refine wp_seq_k (fun K37 k37=>?_)
 refine rg [0,1,2] ?_
 refine sv 29 (.pointer (some ⟨bb,0,none⟩)) ?_
 replace hL:=hL.gr g31
 refine sw 30 vx rfl (rk 49 0 hL) ?_
 refine sv 8 vx ?_
 refine sq_nil ?_
 refine k37 _ _ ?_
 try clear k37 K37
 refine rg [0,1,2,3] ?_
 refine sv 31 u31 ?_
 refine sv 32 vx ?_
 refine se ?_
 refine eff_aps (stab_rat K) _ _ 49 71 w.heap.size 71 (.agg #[(.bool false),(.slice none 0 0),(.bool false),(.slice none 0 0)]) u31 ([]:List Rat) vx (tb (fun z1=>(x z1)) N) 4 (some 33) 64 rfl rfl rfl rfl ho31 (hx.gr (stab_rat K) hB) (one_rat _) (Below.size hB) (by simp only [List.length_nil,tb_len];omega) (by decide) (by kernel_rfl) (by kernel_rfl) (by decide) (by decide) (fun v38 w38 ow38 wt38 hg38 ag38=>?_)
 replace hB:=hg38 _ hB (Nat.le_refl _)
 replace ow38:=ow38.cast (List.nil_append _)
 simp only [putl,p3,p4]
 refine sv 6 v38 ?_
 refine sq_nil ?_
 refine k36 _ _ ?_
 try clear k36 K36
 refine rg [0,1] ?_
 refine sv 34 (.int .i64 1) ?_
 refine sv 27 (.int .i64 1) ?_
 refine sq_nil ?_
 show Code.rounds _ _ _ _ _ _
 show Code.wp _ _ _ _ _
 refine wp_seq_k (fun K39 k39=>?_)
 refine rg [0] ?_
 refine sv 28 (.bool true) ?_
 refine sq_nil ?_
 refine k39 _ _ ?_
 try clear k39 K39
 refine wp_seq_k (fun K40 k40=>?_)
 refine wp_cond_true rfl ?_
 refine wp_skip ?_
 refine k40 _ _ ?_
 try clear k40 K40
 refine wp_seq_k (fun K41 k41=>?_)
 refine wp_block ?_
 refine wp_seq_k (fun K42 k42=>?_)
 refine rg [0,1,2] ?_
 refine sv 29 (.pointer (some ⟨bb,1,none⟩)) ?_
 replace hL:=wt38.lc hL (by decide)
 refine sw 30 vy rfl (rk 49 1 hL) ?_
 refine sv 8 vy ?_
 refine sq_nil ?_
 refine k42 _ _ ?_
 try clear k42 K42
 refine rg [0,1,2,3] ?_
 refine sv 31 v38 ?_
 refine sv 32 vy ?_
 refine se ?_
 refine eff_aps (stab_rat K) _ _ 49 71 w.heap.size 71 (.agg #[(.bool false),(.slice none 0 0),(.bool false),(.slice none 0 0)]) v38 (tb (fun z1=>(x z1)) N) vy (tb (fun z1=>(y z1)) M) 4 (some 33) 64 rfl rfl rfl rfl ow38 (hy.gr (stab_rat K) hB) (one_rat _) (Below.size hB) (by simp only [tb_len];omega) (by decide) (by kernel_rfl) (by kernel_rfl) (by decide) (by decide) (fun v43 w43 ow43 wt43 hg43 ag43=>?_)
 replace hB:=hg43 _ hB (Nat.le_refl _)
 replace ow43:=ow43.cast tb_app
 simp only [putl,p3,p4]
 refine sv 6 v43 ?_
 refine sq_nil ?_
 refine k41 _ _ ?_
 try clear k41 K41
 refine rg [0,1] ?_
 refine sv 34 (.int .i64 2) ?_
 refine sv 27 (.int .i64 2) ?_
 refine sq_nil ?_
 show Code.rounds _ _ _ _ _ _
 show Code.wp _ _ _ _ _
 refine wp_seq_k (fun K44 k44=>?_)
 refine rg [0] ?_
 refine sv 28 (.bool false) ?_
 refine sq_nil ?_
 refine k44 _ _ ?_
 try clear k44 K44
 refine wp_seq_k (fun K45 k45=>?_)
 refine wp_cond_false rfl ?_
 refine wp_exit ?_
 simp only [Exit.then,Exit.inBlock,↓reduceIte]
 refine k32 _ _ ?_
 try clear k32 K32
 refine wp_seq_k (fun K46 k46=>?_)
 refine rg [0,1] ?_
 refine sv 35 v43 ?_
 refine sv 2 v43 ?_
 refine sq_nil ?_
 refine k46 _ _ ?_
 try clear k46 K46
 refine wp_ret ?_
 refine bodyPost_ret (v:=v43) (ret_tmp rfl rfl) rfl ⟨?_,hB⟩
 exact ⟨_,rfl,(ow43.sl)⟩

set_option maxRecDepth 100000 in
set_option maxHeartbeats 1000000 in
theorem mx_Inverse_y {K R:Nat} {v:Value} {m:Mx_} (hK:64≤K) (_hK2:K≤20000) (_hR2:R≤48) (hz:∀ k,k≤R→RdZ R (R+R) K (rs R (wid R m) k)) (_hf:¬ pl R (wid R m) R<R) {w:World} (hs:Sl (ERw (ERat K) 71 4) 49 1 w v (tb (fun z0=>tb (fun z1=>(m z0 z1)) R) R)):
    Calls Tryz.prog 39 #[v] w fun e w'=>(∃ u,e=.returned (.tuple #[u,.int .i64 0])∧Sl (ERw (ERat K) 71 4) 49 1 w' u (tb (fun z0=>tb (fun z1=>((rs R (wid R m) R).m z0 (R+z1))) R) R))∧Gr w w':=by
 go_enter Tryz.func39,Tryz.ntmps39
 have hB:=Gr.refl w
 refine wp_seq_k (fun K10 k10=>?_)
 refine rg [0,1] ?_
 refine sv 2 (.slice none 0 0) ?_
 refine sv 3 (.int .i64 0) ?_
 refine sq_nil ?_
 refine k10 _ _ ?_
 try clear k10 K10
 refine wp_seq_k (fun K11 k11=>?_)
 refine wp_seq_k (fun K12 k12=>?_)
 refine rg [0,1,2] ?_
 refine sv 17 v ?_
 refine se ?_
 refine ec 18 (mx_square (by omega) (hs.gr (stab_rw (stab_rat K) 71 4) hB)) ?_
 rintro e13 w13 ⟨rfl,g13⟩
 refine ⟨_,rfl,?_⟩
 replace hB:=hB.trans g13
 simp only [p3,p4]
 refine sv 4 (.int .i64 0) ?_
 refine sq_nil ?_
 refine k12 _ _ ?_
 try clear k12 K12
 refine wp_seq_k (fun K14 k14=>?_)
 refine rg [0,1] ?_
 refine sv 19 (.int .i64 0) ?_
 refine sv 20 (.bool false) ?_
 refine sq_nil ?_
 refine k14 _ _ ?_
 try clear k14 K14
 refine wp_cond_false rfl ?_
 refine wp_skip ?_
 refine k11 _ _ ?_
 try clear k11 K11
 refine wp_seq_k (fun K15 k15=>?_)
 refine rg [0,1,2] ?_
 refine sv 22 v ?_
 refine sw 23 (.int .i64 ((R:Int))) rfl (rv_lenn (e:=49) hs (tb_lenz rfl) _ _ rfl rfl (by kernel_rfl)) ?_
 refine sv 5 (.int .i64 ((R:Int))) ?_
 refine sq_nil ?_
 refine k15 _ _ ?_
 try clear k15 K15
 refine wp_seq_k (fun K16 k16=>?_)
 refine rg [0,1,2,3,4,5,6] ?_
 refine sv 25 (.int .i64 ((R:Int))) ?_
 refine se ?_
 refine ec 26 (mx_Identity hK R (by omega) _) ?_
 rintro e17 w17 ⟨⟨u17,rfl,hs17⟩,g17⟩
 refine ⟨_,rfl,?_⟩
 replace hB:=hB.trans g17
 have lehc17:=Below.size hB
 have hc17:=Gr.refl w17
 simp only [p3,p4]
 refine sv 24 (.tuple #[u17,(.int .i64 0)]) ?_
 refine sv 27 u17 ?_
 refine sv 28 (.int .i64 0) ?_
 refine sv 6 u17 ?_
 refine sv 7 (.int .i64 0) ?_
 refine sq_nil ?_
 refine k16 _ _ ?_
 try clear k16 K16
 refine wp_seq_k (fun K18 k18=>?_)
 refine rg [0] ?_
 refine sv 8 (.slice none 0 0) ?_
 refine sq_nil ?_
 refine k18 _ _ ?_
 try clear k18 K18
 refine wp_seq_k (fun K19 k19=>?_)
 refine wp_seq_k (fun K20 k20=>?_)
 refine rg [0,1,2] ?_
 refine sv 29 v ?_
 refine sw 30 (.int .i64 ((R:Int))) rfl (rv_lenn (e:=49) hs (tb_lenz rfl) _ _ rfl rfl (by kernel_rfl)) ?_
 refine sv 31 (.int .i64 0) ?_
 refine sq_nil ?_
 refine k20 _ _ ?_
 try clear k20 K20
 refine wp_block ?_
 refine wp_loop_inv (a:=⟨List.toArray ?l21,[]⟩) (fun n a w'=>∃ (j:Nat) (vo:Value) (u21:Nat→Value),R - j=n∧a=⟨[v,undef,(.slice none 0 0),(.int .i64 0),(.int .i64 0),(.int .i64 ((R:Int))),u17,(u21 7),vo,(u21 9),(u21 10),undef,undef,undef,undef,undef,undef,(u21 17),(u21 18),(u21 19),(.bool false),undef,(u21 22),(u21 23),(u21 24),(u21 25),(u21 26),(u21 27),(u21 28),v,(.int .i64 ((R:Int))),(.int .i64 ((j:Int))),(u21 32),(u21 33),(u21 34),(u21 35),(u21 36),(u21 37),(u21 38),(u21 39),(u21 40),(u21 41),(u21 42),(u21 43),(u21 44),(u21 45),(u21 46),undef,undef,undef,undef,undef,undef,undef,undef,undef,undef,undef,undef,undef,undef,undef,undef,undef,undef,undef,undef,undef,undef,undef,undef,undef,undef].toArray,[]⟩∧j≤R∧Ow (ERw (ERat K) 71 4) 49 1 w' w17.heap.size vo (tb (fun z0=>tb (fun z1=>(wid R m z0 z1)) (R+R)) j)∧Gr w17 w'∧Gr w w') (R - 0) ?_ ?_
 ·exact ⟨0,(.slice none 0 0),(fun i=>List.getD ?l21 i undef),rfl,rfl,(Nat.zero_le _),(Ow.nil _ _ _ _ _),hc17,hB⟩
 rintro n21 a21 w21 ⟨j,vo,u21,rfl,rfl,hkj,oo,hc17,hB⟩ K21 k21
 have lehC:=Below.size hB
 have lehC_hc17:=Below.size hc17
 have hC:=Gr.refl w21
 refine wp_seq_k (fun K22 k22=>?_)
 refine rg [0] ?_
 refine sv 32 (.bool (decide ((j:Int)<(R:Int)))) ?_
 refine sq_nil ?_
 refine k22 _ _ ?_
 try clear k22 K22
 refine wp_seq_k (fun K23 k23=>?_)
 refine wp_cond_split (t:=decide ((j:Int)<(R:Int))) rfl (fun hb24=>?_) (fun hb24=>?_)
 ·have hlj:j<R:=by have:=of_decide_eq_true hb24;omega
  refine wp_skip ?_
  refine k23 _ _ ?_
  try clear k23 K23
  refine wp_seq_k (fun K25 k25=>?_)
  refine wp_block ?_
  refine wp_seq_k (fun K26 k26=>?_)
  refine rg [0,1,2,3,4] ?_
  refine sv 33 (.int .i64 ((j:Int))) ?_
  refine sw 34 (adr v (j*1)) rfl (rv_idxn (e:=49) hs tb_len (by decide) j (by omega) _ _ _ rfl rfl rfl (by kernel_rfl) (by kernel_rfl)) ?_
  obtain ⟨_,_,⟨u27,rfl,hr27⟩,at27⟩:=Sl.get hs (by decide) (tb_get (f:=(fun z0=>tb (fun z1=>(m z0 z1)) R)) (n:=R) (i:=j) (by omega))
  refine sw 35 u27 rfl (rv_ld1 u27 (at27.gr hB) _ _ rfl rfl (by kernel_rfl)) ?_
  refine sv 9 (.int .i64 ((j:Int))) ?_
  refine sv 10 u27 ?_
  refine sq_nil ?_
  refine k26 _ _ ?_
  try clear k26 K26
  refine rg [0,1,2,3,4,5,6,7,8,9,10] ?_
  refine sv 36 vo ?_
  refine sv 37 u27 ?_
  refine sv 38 u17 ?_
  refine sv 39 (.int .i64 ((j:Int))) ?_
  refine sw 40 (adr u17 (j*1)) rfl (rv_idxn (e:=49) hs17 tb_len (by decide) j (by omega) _ _ _ rfl rfl rfl (by kernel_rfl) (by kernel_rfl)) ?_
  obtain ⟨_,_,⟨u28,rfl,hr28⟩,at28⟩:=Sl.get hs17 (by decide) (tb_get (f:=(fun z0=>tb (fun z1=>(one_ z0 z1)) R)) (n:=R) (i:=j) (by omega))
  refine sw 41 u28 rfl (rv_ld1 u28 (at28.gr hc17) _ _ rfl rfl (by kernel_rfl)) ?_
  refine se ?_
  refine eff_bs2 28 49 u27 u28 (some 42) rfl rfl rfl rfl (hr27.gr (stab_rat K) hB).forms (hr28.gr (stab_rat K) hc17).forms (fun _ _ _ _ _ _ _=>by kernel_rfl) (fun b29 w29 g29 L29 q29=>?_)
  have q29_hc17:=Nat.le_trans (Below.size hc17) q29
  have q29_hC:=Nat.le_trans (Below.size hC) q29
  replace hB:=hB.trans g29
  replace hc17:=hc17.trans g29
  replace hC:=hC.trans g29
  simp only [putl,p3,p4]
  refine se ?_
  refine ec 43 (sl_concat (by omega) (by omega) L29 (hr27.gr (stab_rat K) hB) (hr28.gr (stab_rat K) hc17)) ?_
  rintro e30 w30 ⟨⟨u30,rfl,hs30⟩,g30⟩
  refine ⟨_,rfl,?_⟩
  replace hB:=hB.trans g30
  replace hc17:=hc17.trans g30
  replace hC:=hC.trans g30
  replace hs30:=hs30.cast wid_row
  simp only [p3,p4]
  refine se ?_
  refine eff_bs1 29 49 u30 (some 44) rfl rfl rfl hs30.forms (fun _ _ _ _=>by kernel_rfl) (fun b31 w31 g31 L31 q31=>?_)
  have q31_hc17:=Nat.le_trans (Below.size hc17) q31
  have q31_hC:=Nat.le_trans (Below.size hC) q31
  replace hB:=hB.trans g31
  replace hc17:=hc17.trans g31
  replace hC:=hC.trans g31
  simp only [putl,p3,p4]
  refine se ?_
  replace hs30:=hs30.gr (stab_rat K) g31
  refine eff_apg (stab_rw (stab_rat K) 71 4) _ _ 29 49 w17.heap.size (.slice none 0 0) vo (tb (fun z0=>tb (fun z1=>(wid R m z0 z1)) (R+R)) j) b31 [u30] (tb (fun z1=>(wid R m j z1)) (R+R)) 1 1 (some 45) 24 rfl rfl rfl rfl (oo.gr (stab_rw (stab_rat K) 71 4) hC) L31 ⟨hs30.one,trivial⟩ rfl ⟨_,rfl,hs30⟩ (Below.size hc17) (by rw [tb_len];omega) (by decide) (by kernel_rfl) (by kernel_rfl) (by decide) (by decide) (fun v32 w32 ow32 wt32 hg32=>?_)
  replace hB:=hg32 _ hB lehc17
  replace hc17:=hg32 _ hc17 (Nat.le_refl _)
  replace ow32:=ow32.cast (tb_snoc (f:=(fun z0=>tb (fun z1=>(wid R m z0 z1)) (R+R))) (n:=j) (by first | rfl | exact fil_all))
  simp only [putl,p3,p4]
  refine sv 8 v32 ?_
  refine sq_nil ?_
  refine k25 _ _ ?_
  try clear k25 K25
  refine rg [0,1] ?_
  refine sw 46 (.int .i64 (((j:Int)+1))) rfl (RunV.int (x:=IntKind.i64.wrap (((j:Int)+1))) (y:=((j:Int)+1)) (rvk (by kernel_rfl)) (by first | rfl | (rw [IntKind.wrap_i64];omega))) ?_
  refine sv 31 (.int .i64 (((j:Int)+1))) ?_
  refine sq_nil ?_
  refine k21 (R - (j+1)) ⟨List.toArray ?l33,[]⟩ _ (by omega) ?_
  exact ⟨j+1,v32,(fun i=>List.getD ?l33 i undef),rfl,rfl,(by omega),ow32,hc17,hB⟩
 ·have hej:R=j:=by have:=of_decide_eq_false hb24;omega
  subst hej
  refine wp_exit ?_
  simp only [Exit.then,Exit.inBlock,↓reduceIte]
  refine k19 _ _ ?_
  try clear k19 K19
  refine wp_seq_k (fun K34 k34=>?_)
  refine rg [0,1,2,3,4,5,6,7,8,9,10] ?_
  refine sv 48 vo ?_
  refine sv 49 (.int .i64 ((R:Int))) ?_
  refine se ?_
  have hlen35:=rs_len R (wid R m) R
  have hple35:=rs_ple R (wid R m) R
  refine ec 50 (mx_reduced (by omega) (by omega) (by omega) (by omega) (by omega) hz ((oo.gr (stab_rw (stab_rat K) 71 4) hC).sl)) ?_
  rintro e35 w35 ⟨⟨u35,v35,p35,q35,r35,s35,rfl,hs35,hp35,h35⟩,g35⟩
  refine ⟨_,rfl,?_⟩
  replace hB:=hB.trans g35
  replace hc17:=hc17.trans g35
  replace hC:=hC.trans g35
  have lehc35:=Below.size hB
  have lehc35_hc17:=Below.size hc17
  have lehc35_hC:=Below.size hC
  have hc35:=Gr.refl w35
  simp only [p3,p4]
  refine sv 47 (.tuple #[u35,v35,(.agg #[p35,q35,r35,s35])]) ?_
  refine sv 51 u35 ?_
  refine sv 52 v35 ?_
  refine sv 53 (.agg #[p35,q35,r35,s35]) ?_
  refine se ?_
  refine ea 71 #[(.bool false),(.slice none 0 0),(.bool false),(.slice none 0 0)] 13 hB fun b36 w36 g36 L36 o36 q36 hB=>?_
  have q36_hc17:=Nat.le_trans (Below.size hc17) o36
  have q36_hC:=Nat.le_trans (Below.size hC) o36
  have q36_hc35:=Nat.le_trans (Below.size hc35) o36
  replace hc17:=hc17.trans g36
  replace hC:=hC.trans g36
  replace hc35:=hc35.trans g36
  simp only [p3,p4]
  refine sv 11 u35 ?_
  refine sv 12 v35 ?_
  refine se ?_
  have lo37:=L36
  refine es 71 0 (.agg #[p35,q35,r35,s35]) [p35,q35,r35,s35] #[p35,q35,r35,s35] L36 hB q36 ⟨h35.one0,h35.one1,h35.one2,h35.one3,trivial⟩ fun w37 st37 kp37 L36 hB=>?_
  replace hc17:=st37.gr hc17 q36_hc17
  replace hC:=st37.gr hC q36_hC
  replace hc35:=st37.gr hc35 q36_hc35
  refine sq_nil ?_
  refine k34 _ _ ?_
  try clear k34 K34
  refine wp_seq_k (fun K38 k38=>?_)
  refine wp_seq_k (fun K39 k39=>?_)
  refine rg [0,1,2,3] ?_
  refine sv 54 v35 ?_
  refine sw 55 (.int .i64 (((pl R (wid R m) R:Nat):Int))) rfl (rv_lenn (e:=3) hp35 (tb_lenz rfl) _ _ rfl rfl (by kernel_rfl)) ?_
  refine sv 56 (.int .i64 ((R:Int))) ?_
  refine sw 57 (.bool false) rfl (RunV.bool (x:=decide (((pl R (wid R m) R:Nat):Int)<(R:Int))) (rvk (by kernel_rfl)) (by simp only [decide_eq_false_iff_not];omega)) ?_
  refine sq_nil ?_
  refine k39 _ _ ?_
  try clear k39 K39
  refine wp_cond_false rfl ?_
  refine wp_skip ?_
  refine k38 _ _ ?_
  try clear k38 K38
  refine wp_seq_k (fun K40 k40=>?_)
  refine rg [0] ?_
  refine sv 14 (.slice none 0 0) ?_
  refine sq_nil ?_
  refine k40 _ _ ?_
  try clear k40 K40
  refine wp_seq_k (fun K41 k41=>?_)
  refine wp_seq_k (fun K42 k42=>?_)
  refine rg [0,1,2] ?_
  refine sv 58 u35 ?_
  refine sw 59 (.int .i64 ((R:Int))) rfl (rv_lenn (e:=49) hs35 (tb_lenz rfl) _ _ rfl rfl (by kernel_rfl)) ?_
  refine sv 60 (.int .i64 0) ?_
  refine sq_nil ?_
  refine k42 _ _ ?_
  try clear k42 K42
  refine wp_block ?_
  refine wp_loop_inv (a:=⟨List.toArray ?l43,[]⟩) (fun n a w'=>∃ (i:Nat) (vq:Value) (u43:Nat→Value),R - i=n∧a=⟨[v,undef,(.slice none 0 0),(.int .i64 0),(.int .i64 0),(.int .i64 ((R:Int))),u17,(u43 7),vo,(u21 9),(u21 10),u35,v35,(u43 13),vq,undef,(u43 16),(u43 17),(u43 18),(u43 19),(.bool false),undef,(u43 22),(u43 23),(u43 24),(u43 25),(u43 26),(u43 27),(u43 28),v,(.int .i64 ((R:Int))),(.int .i64 ((R:Int))),(.bool (decide ((R:Int)<(R:Int)))),(u43 33),(u43 34),(u43 35),(u43 36),(u43 37),(u43 38),(u43 39),(u43 40),(u43 41),(u43 42),(u43 43),(u43 44),(u43 45),(u43 46),(u43 47),(u43 48),(u43 49),(u43 50),(u43 51),(u43 52),(u43 53),(u43 54),(u43 55),(u43 56),(.bool false),u35,(.int .i64 ((R:Int))),(.int .i64 ((i:Int))),(u43 61),(u43 62),(u43 63),(u43 64),(u43 65),(u43 66),(u43 67),(u43 68),(u43 69),(u43 70),(u43 71),undef].toArray,[]⟩∧i≤R∧Ow (ERw (ERat K) 71 4) 49 1 w' w35.heap.size vq (tb (fun z0=>tb (fun z1=>((rs R (wid R m) R).m z0 (R+z1))) R) i)∧Gr w17 w'∧Gr w21 w'∧Gr w35 w'∧Gr w w') (R - 0) ?_ ?_
  ·exact ⟨0,(.slice none 0 0),(fun i=>List.getD ?l43 i undef),rfl,rfl,(Nat.zero_le _),(Ow.nil _ _ _ _ _),hc17,hC,hc35,hB⟩
  rintro n43 a43 w43 ⟨i,vq,u43,rfl,rfl,hki,op,hc17,hC,hc35,hB⟩ K43 k43
  have lehE:=Below.size hB
  have lehE_hc17:=Below.size hc17
  have lehE_hC:=Below.size hC
  have lehE_hc35:=Below.size hc35
  have hE:=Gr.refl w43
  refine wp_seq_k (fun K44 k44=>?_)
  refine rg [0] ?_
  refine sv 61 (.bool (decide ((i:Int)<(R:Int)))) ?_
  refine sq_nil ?_
  refine k44 _ _ ?_
  try clear k44 K44
  refine wp_seq_k (fun K45 k45=>?_)
  refine wp_cond_split (t:=decide ((i:Int)<(R:Int))) rfl (fun hb46=>?_) (fun hb46=>?_)
  ·have hli:i<R:=by have:=of_decide_eq_true hb46;omega
   refine wp_skip ?_
   refine k45 _ _ ?_
   try clear k45 K45
   refine wp_seq_k (fun K47 k47=>?_)
   refine wp_block ?_
   refine wp_seq_k (fun K48 k48=>?_)
   refine rg [0,1,2] ?_
   refine sw 62 (adr u35 (i*1)) rfl (rv_idxn (e:=49) hs35 tb_len (by decide) i (by omega) _ _ _ rfl rfl rfl (by kernel_rfl) (by kernel_rfl)) ?_
   obtain ⟨_,_,⟨u49,rfl,hr49⟩,at49⟩:=Sl.get hs35 (by decide) (tb_get (f:=(fun z0=>tb (fun z1=>((rs R (wid R m) R).m z0 z1)) (R+R))) (n:=R) (i:=i) (by omega))
   refine sw 63 u49 rfl (rv_ld1 u49 (at49.gr hc35) _ _ rfl rfl (by kernel_rfl)) ?_
   refine sv 16 u49 ?_
   refine sq_nil ?_
   refine k48 _ _ ?_
   try clear k48 K48
   refine rg [0,1,2,3,4,5,6,7] ?_
   refine sv 64 vq ?_
   refine sv 65 u49 ?_
   refine sv 66 (.int .i64 ((R:Int))) ?_
   have hs50:=hr49.subt (show R≤(R+R) by omega) (show (R+R)≤(R+R) by omega)
   refine sw 67 (subv u49 R (R+R) 4) rfl (rv_subt (e:=71) hr49 R (R+R) (by omega) (by omega) _ _ _ _ rfl rfl (.inr rfl) (.inl ⟨rfl,rfl⟩) (by kernel_rfl) (by kernel_rfl)) ?_
   refine se ?_
   refine ec 68 (cl_rat (by omega) (hs50.gr (stab_rat K) hc35)) ?_
   rintro e51 w51 ⟨⟨u51,rfl,hs51⟩,g51⟩
   refine ⟨_,rfl,?_⟩
   replace hB:=hB.trans g51
   replace hc17:=hc17.trans g51
   replace hC:=hC.trans g51
   replace hc35:=hc35.trans g51
   replace hE:=hE.trans g51
   replace hs51:=hs51.sl
   simp only [p3,p4]
   refine se ?_
   refine eff_bs1 29 49 u51 (some 69) rfl rfl rfl hs51.forms (fun _ _ _ _=>by kernel_rfl) (fun b52 w52 g52 L52 q52=>?_)
   have q52_hc17:=Nat.le_trans (Below.size hc17) q52
   have q52_hC:=Nat.le_trans (Below.size hC) q52
   have q52_hc35:=Nat.le_trans (Below.size hc35) q52
   have q52_hE:=Nat.le_trans (Below.size hE) q52
   replace hB:=hB.trans g52
   replace hc17:=hc17.trans g52
   replace hC:=hC.trans g52
   replace hc35:=hc35.trans g52
   replace hE:=hE.trans g52
   simp only [putl,p3,p4]
   refine se ?_
   replace hs51:=hs51.gr (stab_rat K) g52
   refine eff_apg (stab_rw (stab_rat K) 71 4) _ _ 29 49 w35.heap.size (.slice none 0 0) vq (tb (fun z0=>tb (fun z1=>((rs R (wid R m) R).m z0 (R+z1))) R) i) b52 [u51] (tb (fun z3=>(fun z1=>((rs R (wid R m) R).m i z1)) (R+z3)) ((R+R) - R)) 1 1 (some 70) 24 rfl rfl rfl rfl (op.gr (stab_rw (stab_rat K) 71 4) hE) L52 ⟨hs51.one,trivial⟩ rfl ⟨_,rfl,hs51⟩ (Below.size hc35) (by rw [tb_len];omega) (by decide) (by kernel_rfl) (by kernel_rfl) (by decide) (by decide) (fun v53 w53 ow53 wt53 hg53=>?_)
   replace hB:=hg53 _ hB lehc35
   replace hc17:=hg53 _ hc17 lehc35_hc17
   replace hC:=hg53 _ hC lehc35_hC
   replace hc35:=hg53 _ hc35 (Nat.le_refl _)
   replace ow53:=ow53.cast (tb_snoc (f:=(fun z0=>tb (fun z1=>((rs R (wid R m) R).m z0 (R+z1))) R)) (n:=i) (by rw [Nat.add_sub_cancel]))
   simp only [putl,p3,p4]
   refine sv 14 v53 ?_
   refine sq_nil ?_
   refine k47 _ _ ?_
   try clear k47 K47
   refine rg [0,1] ?_
   refine sw 71 (.int .i64 (((i:Int)+1))) rfl (RunV.int (x:=IntKind.i64.wrap (((i:Int)+1))) (y:=((i:Int)+1)) (rvk (by kernel_rfl)) (by first | rfl | (rw [IntKind.wrap_i64];omega))) ?_
   refine sv 60 (.int .i64 (((i:Int)+1))) ?_
   refine sq_nil ?_
   refine k43 (R - (i+1)) ⟨List.toArray ?l54,[]⟩ _ (by omega) ?_
   exact ⟨i+1,v53,(fun i=>List.getD ?l54 i undef),rfl,rfl,(by omega),ow53,hc17,hC,hc35,hB⟩
  ·have hei:R=i:=by have:=of_decide_eq_false hb46;omega
   subst hei
   refine wp_exit ?_
   simp only [Exit.then,Exit.inBlock,↓reduceIte]
   refine k41 _ _ ?_
   try clear k41 K41
   refine wp_seq_k (fun K55 k55=>?_)
   refine rg [0,1,2] ?_
   refine sv 72 vq ?_
   refine sv 2 vq ?_
   refine sv 3 (.int .i64 0) ?_
   refine sq_nil ?_
   refine k55 _ _ ?_
   try clear k55 K55
   refine wp_ret ?_
   refine bodyPost_ret (v:=(.tuple #[vq,(.int .i64 0)])) (ret_tmp2 rfl rfl rfl) rfl ⟨?_,hB⟩
   exact ⟨_,rfl,((op.gr (stab_rw (stab_rat K) 71 4) hE).sl)⟩

set_option maxRecDepth 100000 in
set_option maxHeartbeats 1000000 in
theorem mx_Inverse_s {K R:Nat} {v:Value} {m:Mx_} (hK:64≤K) (_hK2:K≤20000) (_hR2:R≤48) (hz:∀ k,k≤R→RdZ R (R+R) K (rs R (wid R m) k)) (_hf:pl R (wid R m) R<R) {w:World} (hs:Sl (ERw (ERat K) 71 4) 49 1 w v (tb (fun z0=>tb (fun z1=>(m z0 z1)) R) R)):
    Calls Tryz.prog 39 #[v] w fun e w'=>e=.returned (.tuple #[.slice none 0 0,.int .i64 20])∧Gr w w':=by
 go_enter Tryz.func39,Tryz.ntmps39
 have hB:=Gr.refl w
 refine wp_seq_k (fun K10 k10=>?_)
 refine rg [0,1] ?_
 refine sv 2 (.slice none 0 0) ?_
 refine sv 3 (.int .i64 0) ?_
 refine sq_nil ?_
 refine k10 _ _ ?_
 try clear k10 K10
 refine wp_seq_k (fun K11 k11=>?_)
 refine wp_seq_k (fun K12 k12=>?_)
 refine rg [0,1,2] ?_
 refine sv 17 v ?_
 refine se ?_
 refine ec 18 (mx_square (by omega) (hs.gr (stab_rw (stab_rat K) 71 4) hB)) ?_
 rintro e13 w13 ⟨rfl,g13⟩
 refine ⟨_,rfl,?_⟩
 replace hB:=hB.trans g13
 simp only [p3,p4]
 refine sv 4 (.int .i64 0) ?_
 refine sq_nil ?_
 refine k12 _ _ ?_
 try clear k12 K12
 refine wp_seq_k (fun K14 k14=>?_)
 refine rg [0,1] ?_
 refine sv 19 (.int .i64 0) ?_
 refine sv 20 (.bool false) ?_
 refine sq_nil ?_
 refine k14 _ _ ?_
 try clear k14 K14
 refine wp_cond_false rfl ?_
 refine wp_skip ?_
 refine k11 _ _ ?_
 try clear k11 K11
 refine wp_seq_k (fun K15 k15=>?_)
 refine rg [0,1,2] ?_
 refine sv 22 v ?_
 refine sw 23 (.int .i64 ((R:Int))) rfl (rv_lenn (e:=49) hs (tb_lenz rfl) _ _ rfl rfl (by kernel_rfl)) ?_
 refine sv 5 (.int .i64 ((R:Int))) ?_
 refine sq_nil ?_
 refine k15 _ _ ?_
 try clear k15 K15
 refine wp_seq_k (fun K16 k16=>?_)
 refine rg [0,1,2,3,4,5,6] ?_
 refine sv 25 (.int .i64 ((R:Int))) ?_
 refine se ?_
 refine ec 26 (mx_Identity hK R (by omega) _) ?_
 rintro e17 w17 ⟨⟨u17,rfl,hs17⟩,g17⟩
 refine ⟨_,rfl,?_⟩
 replace hB:=hB.trans g17
 have lehc17:=Below.size hB
 have hc17:=Gr.refl w17
 simp only [p3,p4]
 refine sv 24 (.tuple #[u17,(.int .i64 0)]) ?_
 refine sv 27 u17 ?_
 refine sv 28 (.int .i64 0) ?_
 refine sv 6 u17 ?_
 refine sv 7 (.int .i64 0) ?_
 refine sq_nil ?_
 refine k16 _ _ ?_
 try clear k16 K16
 refine wp_seq_k (fun K18 k18=>?_)
 refine rg [0] ?_
 refine sv 8 (.slice none 0 0) ?_
 refine sq_nil ?_
 refine k18 _ _ ?_
 try clear k18 K18
 refine wp_seq_k (fun K19 k19=>?_)
 refine wp_seq_k (fun K20 k20=>?_)
 refine rg [0,1,2] ?_
 refine sv 29 v ?_
 refine sw 30 (.int .i64 ((R:Int))) rfl (rv_lenn (e:=49) hs (tb_lenz rfl) _ _ rfl rfl (by kernel_rfl)) ?_
 refine sv 31 (.int .i64 0) ?_
 refine sq_nil ?_
 refine k20 _ _ ?_
 try clear k20 K20
 refine wp_block ?_
 refine wp_loop_inv (a:=⟨List.toArray ?l21,[]⟩) (fun n a w'=>∃ (j:Nat) (vo:Value) (u21:Nat→Value),R - j=n∧a=⟨[v,undef,(.slice none 0 0),(.int .i64 0),(.int .i64 0),(.int .i64 ((R:Int))),u17,(u21 7),vo,(u21 9),(u21 10),undef,undef,undef,undef,undef,undef,(u21 17),(u21 18),(u21 19),(.bool false),undef,(u21 22),(u21 23),(u21 24),(u21 25),(u21 26),(u21 27),(u21 28),v,(.int .i64 ((R:Int))),(.int .i64 ((j:Int))),(u21 32),(u21 33),(u21 34),(u21 35),(u21 36),(u21 37),(u21 38),(u21 39),(u21 40),(u21 41),(u21 42),(u21 43),(u21 44),(u21 45),(u21 46),undef,undef,undef,undef,undef,undef,undef,undef,undef,undef,undef,undef,undef,undef,undef,undef,undef,undef,undef,undef,undef,undef,undef,undef,undef,undef].toArray,[]⟩∧j≤R∧Ow (ERw (ERat K) 71 4) 49 1 w' w17.heap.size vo (tb (fun z0=>tb (fun z1=>(wid R m z0 z1)) (R+R)) j)∧Gr w17 w'∧Gr w w') (R - 0) ?_ ?_
 ·exact ⟨0,(.slice none 0 0),(fun i=>List.getD ?l21 i undef),rfl,rfl,(Nat.zero_le _),(Ow.nil _ _ _ _ _),hc17,hB⟩
 rintro n21 a21 w21 ⟨j,vo,u21,rfl,rfl,hkj,oo,hc17,hB⟩ K21 k21
 have lehC:=Below.size hB
 have lehC_hc17:=Below.size hc17
 have hC:=Gr.refl w21
 refine wp_seq_k (fun K22 k22=>?_)
 refine rg [0] ?_
 refine sv 32 (.bool (decide ((j:Int)<(R:Int)))) ?_
 refine sq_nil ?_
 refine k22 _ _ ?_
 try clear k22 K22
 refine wp_seq_k (fun K23 k23=>?_)
 refine wp_cond_split (t:=decide ((j:Int)<(R:Int))) rfl (fun hb24=>?_) (fun hb24=>?_)
 ·have hlj:j<R:=by have:=of_decide_eq_true hb24;omega
  refine wp_skip ?_
  refine k23 _ _ ?_
  try clear k23 K23
  refine wp_seq_k (fun K25 k25=>?_)
  refine wp_block ?_
  refine wp_seq_k (fun K26 k26=>?_)
  refine rg [0,1,2,3,4] ?_
  refine sv 33 (.int .i64 ((j:Int))) ?_
  refine sw 34 (adr v (j*1)) rfl (rv_idxn (e:=49) hs tb_len (by decide) j (by omega) _ _ _ rfl rfl rfl (by kernel_rfl) (by kernel_rfl)) ?_
  obtain ⟨_,_,⟨u27,rfl,hr27⟩,at27⟩:=Sl.get hs (by decide) (tb_get (f:=(fun z0=>tb (fun z1=>(m z0 z1)) R)) (n:=R) (i:=j) (by omega))
  refine sw 35 u27 rfl (rv_ld1 u27 (at27.gr hB) _ _ rfl rfl (by kernel_rfl)) ?_
  refine sv 9 (.int .i64 ((j:Int))) ?_
  refine sv 10 u27 ?_
  refine sq_nil ?_
  refine k26 _ _ ?_
  try clear k26 K26
  refine rg [0,1,2,3,4,5,6,7,8,9,10] ?_
  refine sv 36 vo ?_
  refine sv 37 u27 ?_
  refine sv 38 u17 ?_
  refine sv 39 (.int .i64 ((j:Int))) ?_
  refine sw 40 (adr u17 (j*1)) rfl (rv_idxn (e:=49) hs17 tb_len (by decide) j (by omega) _ _ _ rfl rfl rfl (by kernel_rfl) (by kernel_rfl)) ?_
  obtain ⟨_,_,⟨u28,rfl,hr28⟩,at28⟩:=Sl.get hs17 (by decide) (tb_get (f:=(fun z0=>tb (fun z1=>(one_ z0 z1)) R)) (n:=R) (i:=j) (by omega))
  refine sw 41 u28 rfl (rv_ld1 u28 (at28.gr hc17) _ _ rfl rfl (by kernel_rfl)) ?_
  refine se ?_
  refine eff_bs2 28 49 u27 u28 (some 42) rfl rfl rfl rfl (hr27.gr (stab_rat K) hB).forms (hr28.gr (stab_rat K) hc17).forms (fun _ _ _ _ _ _ _=>by kernel_rfl) (fun b29 w29 g29 L29 q29=>?_)
  have q29_hc17:=Nat.le_trans (Below.size hc17) q29
  have q29_hC:=Nat.le_trans (Below.size hC) q29
  replace hB:=hB.trans g29
  replace hc17:=hc17.trans g29
  replace hC:=hC.trans g29
  simp only [putl,p3,p4]
  refine se ?_
  refine ec 43 (sl_concat (by omega) (by omega) L29 (hr27.gr (stab_rat K) hB) (hr28.gr (stab_rat K) hc17)) ?_
  rintro e30 w30 ⟨⟨u30,rfl,hs30⟩,g30⟩
  refine ⟨_,rfl,?_⟩
  replace hB:=hB.trans g30
  replace hc17:=hc17.trans g30
  replace hC:=hC.trans g30
  replace hs30:=hs30.cast wid_row
  simp only [p3,p4]
  refine se ?_
  refine eff_bs1 29 49 u30 (some 44) rfl rfl rfl hs30.forms (fun _ _ _ _=>by kernel_rfl) (fun b31 w31 g31 L31 q31=>?_)
  have q31_hc17:=Nat.le_trans (Below.size hc17) q31
  have q31_hC:=Nat.le_trans (Below.size hC) q31
  replace hB:=hB.trans g31
  replace hc17:=hc17.trans g31
  replace hC:=hC.trans g31
  simp only [putl,p3,p4]
  refine se ?_
  replace hs30:=hs30.gr (stab_rat K) g31
  refine eff_apg (stab_rw (stab_rat K) 71 4) _ _ 29 49 w17.heap.size (.slice none 0 0) vo (tb (fun z0=>tb (fun z1=>(wid R m z0 z1)) (R+R)) j) b31 [u30] (tb (fun z1=>(wid R m j z1)) (R+R)) 1 1 (some 45) 24 rfl rfl rfl rfl (oo.gr (stab_rw (stab_rat K) 71 4) hC) L31 ⟨hs30.one,trivial⟩ rfl ⟨_,rfl,hs30⟩ (Below.size hc17) (by rw [tb_len];omega) (by decide) (by kernel_rfl) (by kernel_rfl) (by decide) (by decide) (fun v32 w32 ow32 wt32 hg32=>?_)
  replace hB:=hg32 _ hB lehc17
  replace hc17:=hg32 _ hc17 (Nat.le_refl _)
  replace ow32:=ow32.cast (tb_snoc (f:=(fun z0=>tb (fun z1=>(wid R m z0 z1)) (R+R))) (n:=j) (by first | rfl | exact fil_all))
  simp only [putl,p3,p4]
  refine sv 8 v32 ?_
  refine sq_nil ?_
  refine k25 _ _ ?_
  try clear k25 K25
  refine rg [0,1] ?_
  refine sw 46 (.int .i64 (((j:Int)+1))) rfl (RunV.int (x:=IntKind.i64.wrap (((j:Int)+1))) (y:=((j:Int)+1)) (rvk (by kernel_rfl)) (by first | rfl | (rw [IntKind.wrap_i64];omega))) ?_
  refine sv 31 (.int .i64 (((j:Int)+1))) ?_
  refine sq_nil ?_
  refine k21 (R - (j+1)) ⟨List.toArray ?l33,[]⟩ _ (by omega) ?_
  exact ⟨j+1,v32,(fun i=>List.getD ?l33 i undef),rfl,rfl,(by omega),ow32,hc17,hB⟩
 ·have hej:R=j:=by have:=of_decide_eq_false hb24;omega
  subst hej
  refine wp_exit ?_
  simp only [Exit.then,Exit.inBlock,↓reduceIte]
  refine k19 _ _ ?_
  try clear k19 K19
  refine wp_seq_k (fun K34 k34=>?_)
  refine rg [0,1,2,3,4,5,6,7,8,9,10] ?_
  refine sv 48 vo ?_
  refine sv 49 (.int .i64 ((R:Int))) ?_
  refine se ?_
  have hlen35:=rs_len R (wid R m) R
  have hple35:=rs_ple R (wid R m) R
  refine ec 50 (mx_reduced (by omega) (by omega) (by omega) (by omega) (by omega) hz ((oo.gr (stab_rw (stab_rat K) 71 4) hC).sl)) ?_
  rintro e35 w35 ⟨⟨u35,v35,p35,q35,r35,s35,rfl,hs35,hp35,h35⟩,g35⟩
  refine ⟨_,rfl,?_⟩
  replace hB:=hB.trans g35
  replace hc17:=hc17.trans g35
  replace hC:=hC.trans g35
  have lehc35:=Below.size hB
  have lehc35_hc17:=Below.size hc17
  have lehc35_hC:=Below.size hC
  have hc35:=Gr.refl w35
  simp only [p3,p4]
  refine sv 47 (.tuple #[u35,v35,(.agg #[p35,q35,r35,s35])]) ?_
  refine sv 51 u35 ?_
  refine sv 52 v35 ?_
  refine sv 53 (.agg #[p35,q35,r35,s35]) ?_
  refine se ?_
  refine ea 71 #[(.bool false),(.slice none 0 0),(.bool false),(.slice none 0 0)] 13 hB fun b36 w36 g36 L36 o36 q36 hB=>?_
  have q36_hc17:=Nat.le_trans (Below.size hc17) o36
  have q36_hC:=Nat.le_trans (Below.size hC) o36
  have q36_hc35:=Nat.le_trans (Below.size hc35) o36
  replace hc17:=hc17.trans g36
  replace hC:=hC.trans g36
  replace hc35:=hc35.trans g36
  simp only [p3,p4]
  refine sv 11 u35 ?_
  refine sv 12 v35 ?_
  refine se ?_
  have lo37:=L36
  refine es 71 0 (.agg #[p35,q35,r35,s35]) [p35,q35,r35,s35] #[p35,q35,r35,s35] L36 hB q36 ⟨h35.one0,h35.one1,h35.one2,h35.one3,trivial⟩ fun w37 st37 kp37 L36 hB=>?_
  replace hc17:=st37.gr hc17 q36_hc17
  replace hC:=st37.gr hC q36_hC
  replace hc35:=st37.gr hc35 q36_hc35
  refine sq_nil ?_
  refine k34 _ _ ?_
  try clear k34 K34
  refine wp_seq_k (fun K38 k38=>?_)
  refine wp_seq_k (fun K39 k39=>?_)
  refine rg [0,1,2,3] ?_
  refine sv 54 v35 ?_
  refine sw 55 (.int .i64 (((pl R (wid R m) R:Nat):Int))) rfl (rv_lenn (e:=3) hp35 (tb_lenz rfl) _ _ rfl rfl (by kernel_rfl)) ?_
  refine sv 56 (.int .i64 ((R:Int))) ?_
  refine sw 57 (.bool true) rfl (RunV.bool (x:=decide (((pl R (wid R m) R:Nat):Int)<(R:Int))) (rvk (by kernel_rfl)) (by simp only [decide_eq_true_eq];omega)) ?_
  refine sq_nil ?_
  refine k39 _ _ ?_
  try clear k39 K39
  refine wp_cond_true rfl ?_
  refine wp_seq_k (fun K40 k40=>?_)
  refine rg [0,1] ?_
  refine sv 2 (.slice none 0 0) ?_
  refine sv 3 (.int .i64 20) ?_
  refine sq_nil ?_
  refine k40 _ _ ?_
  try clear k40 K40
  refine wp_ret ?_
  simp only [Exit.then]
  refine bodyPost_ret (v:=(.tuple #[(.slice none 0 0),(.int .i64 20)])) (ret_tmp2 rfl rfl rfl) rfl ⟨?_,hB⟩
  exact rfl

set_option maxRecDepth 100000 in
set_option maxHeartbeats 1000000 in
theorem mx_eq0 {K L:Nat} {f0 f1 f2 f3 j0 j1 j2 j3:Value} {x:Rat} (_hk:K+L≤100000) {w:World} (hx:IsRat w K f0 f1 f2 f3 x) (hy:IsRat w L j0 j1 j2 j3 x):
    Calls Tryz.prog 69 #[(.agg #[f0,f1,f2,f3]),(.agg #[j0,j1,j2,j3])] w fun e w'=>e=.returned (.bool true)∧Gr w w':=by
 go_enter Tryz.func69,Tryz.ntmps69
 have hB:=Gr.refl w
 refine wp_seq_k (fun K10 k10=>?_)
 refine rg [0,1,2] ?_
 refine se ?_
 refine eb 71 #[f0,f1,f2,f3] 2 hB fun b11 w11 g11 L11 o11 q11 hB=>?_
 simp only [p3,p4]
 refine se ?_
 refine eb 71 #[j0,j1,j2,j3] 3 hB fun b12 w12 g12 L12 o12 q12 hB=>?_
 simp only [p3,p4]
 refine sv 4 (.bool false) ?_
 refine sq_nil ?_
 refine k10 _ _ ?_
 try clear k10 K10
 refine wp_seq_k (fun K13 k13=>?_)
 refine rg [0,1,2,3,4] ?_
 replace L11:=L11.gr g12
 refine sw 5 (.agg #[f0,f1,f2,f3]) rfl (rl 71 0 [f0,f1,f2,f3] L11) ?_
 refine sw 6 (.agg #[j0,j1,j2,j3]) rfl (rl 71 0 [j0,j1,j2,j3] L12) ?_
 refine se ?_
 have kq15:=g11.kp.trans g12.kp
 replace hx:=hx.kp kq15
 replace hy:=hy.kp kq15
 refine ec 7 (compare_r hx hy (by omega)) ?_
 rintro e14 w14 ⟨rfl,g14⟩
 refine ⟨_,rfl,?_⟩
 replace hB:=hB.trans g14
 simp only [p3,p4]
 refine sw 8 (.bool true) rfl (RunV.bool (x:=(rcmp x x==(0:Int))) (rvk (by kernel_rfl)) (by rw [rcmp_self];rfl)) ?_
 refine sv 4 (.bool true) ?_
 refine sq_nil ?_
 refine k13 _ _ ?_
 try clear k13 K13
 refine wp_ret ?_
 refine bodyPost_ret (v:=(.bool true)) (ret_tmp rfl rfl) rfl ⟨?_,hB⟩
 exact rfl

set_option maxRecDepth 100000 in
set_option maxHeartbeats 1000000 in
theorem mx_eqr {K L N:Nat} {vx vy:Value} {x:Nat→Rat} (_hk:K+L≤100000) (_hN:N≤1000) {w:World} (hx:Sl (ERat K) 71 4 w vx (tb (fun z1=>(x z1)) N)) (hy:Sl (ERat L) 71 4 w vy (tb (fun z1=>(x z1)) N)):
    Calls Tryz.prog 68 #[vx,vy,(.func (.func 69) #[] #[])] w fun e w'=>e=.returned (.bool true)∧Gr w w':=by
 go_enter Tryz.func68,Tryz.ntmps68
 have hB:=Gr.refl w
 refine wp_seq_k (fun K10 k10=>?_)
 refine rg [0] ?_
 refine sv 6 (.bool false) ?_
 refine sq_nil ?_
 refine k10 _ _ ?_
 try clear k10 K10
 refine wp_seq_k (fun K11 k11=>?_)
 refine wp_seq_k (fun K12 k12=>?_)
 refine rg [0,1,2,3,4] ?_
 refine sv 10 vx ?_
 refine sw 11 (.int .i64 ((N:Int))) rfl (rv_lenn (e:=71) hx (tb_lenz rfl) _ _ rfl rfl (by kernel_rfl)) ?_
 refine sv 12 vy ?_
 refine sw 13 (.int .i64 ((N:Int))) rfl (rv_lenn (e:=71) hy (tb_lenz rfl) _ _ rfl rfl (by kernel_rfl)) ?_
 have hb13:(((N:Int) !=(N:Int)))=false:=(by simp)
 refine sw 14 (.bool false) rfl (RunV.bool (x:=((N:Int) !=(N:Int))) (rvk (by kernel_rfl)) hb13) ?_
 refine sq_nil ?_
 refine k12 _ _ ?_
 try clear k12 K12
 refine wp_cond_false rfl ?_
 refine wp_skip ?_
 refine k11 _ _ ?_
 try clear k11 K11
 refine wp_seq_k (fun K14 k14=>?_)
 refine wp_seq_k (fun K15 k15=>?_)
 refine rg [0,1,2] ?_
 refine sv 15 vx ?_
 refine sw 16 (.int .i64 ((N:Int))) rfl (rv_lenn (e:=71) hx (tb_lenz rfl) _ _ rfl rfl (by kernel_rfl)) ?_
 refine sv 17 (.int .i64 0) ?_
 refine sq_nil ?_
 refine k15 _ _ ?_
 try clear k15 K15
 refine wp_block ?_
 refine wp_loop_inv (a:=⟨List.toArray ?l16,[]⟩) (fun n a w'=>∃ (j:Nat) (u16:Nat→Value),N - j=n∧a=⟨[vx,vy,(.func (.func 69) #[] #[]),undef,undef,undef,(u16 6),(u16 7),(u16 8),(u16 9),(u16 10),(u16 11),(u16 12),(u16 13),(.bool false),vx,(.int .i64 ((N:Int))),(.int .i64 ((j:Int))),(u16 18),(u16 19),(u16 20),(u16 21),(u16 22),(u16 23),(u16 24),(u16 25),(u16 26),(u16 27),(u16 28),(u16 29),(u16 30),(u16 31)].toArray,[]⟩∧j≤N∧Gr w w') (N - 0) ?_ ?_
 ·exact ⟨0,(fun i=>List.getD ?l16 i undef),rfl,rfl,(Nat.zero_le _),hB⟩
 rintro n16 a16 w16 ⟨j,u16,rfl,rfl,hkj,hB⟩ K16 k16
 refine wp_seq_k (fun K17 k17=>?_)
 refine rg [0] ?_
 refine sv 18 (.bool (decide ((j:Int)<(N:Int)))) ?_
 refine sq_nil ?_
 refine k17 _ _ ?_
 try clear k17 K17
 refine wp_seq_k (fun K18 k18=>?_)
 refine wp_cond_split (t:=decide ((j:Int)<(N:Int))) rfl (fun hb19=>?_) (fun hb19=>?_)
 ·have hlj:j<N:=by have:=of_decide_eq_true hb19;omega
  refine wp_skip ?_
  refine k18 _ _ ?_
  try clear k18 K18
  refine wp_seq_k (fun K20 k20=>?_)
  refine wp_block ?_
  refine wp_seq_k (fun K21 k21=>?_)
  refine rg [0,1,2,3,4,5] ?_
  refine sv 19 (.int .i64 ((j:Int))) ?_
  refine sw 20 (adr vx (j*4)) rfl (rv_idxn (e:=71) hx tb_len (by decide) j (by omega) _ _ _ rfl rfl rfl (by kernel_rfl) (by kernel_rfl)) ?_
  obtain ⟨_,_,⟨cA22,cB22,cC22,cD22,rfl,h22⟩,at22⟩:=Sl.get hx (by decide) (tb_get (f:=(fun z1=>(x z1))) (n:=N) (i:=j) (by omega))
  refine sw 21 (.agg #[cA22,cB22,cC22,cD22]) rfl (rv_ldn [cA22,cB22,cC22,cD22] (at22.gr hB) _ _ rfl rfl (by kernel_rfl)) ?_
  refine se ?_
  refine ea 71 #[(.bool false),(.slice none 0 0),(.bool false),(.slice none 0 0)] 8 hB fun b23 w23 g23 L23 o23 q23 hB=>?_
  simp only [p3,p4]
  refine sv 7 (.int .i64 ((j:Int))) ?_
  refine se ?_
  have lo24:=L23
  refine es 71 0 (.agg #[cA22,cB22,cC22,cD22]) [cA22,cB22,cC22,cD22] #[cA22,cB22,cC22,cD22] L23 hB q23 ⟨h22.one0,h22.one1,h22.one2,h22.one3,trivial⟩ fun w24 st24 kp24 L23 hB=>?_
  refine sq_nil ?_
  refine k21 _ _ ?_
  try clear k21 K21
  refine wp_seq_k (fun K25 k25=>?_)
  refine rg [0,1,2,3,4,5] ?_
  refine sv 22 vy ?_
  refine sv 23 (.int .i64 ((j:Int))) ?_
  refine sw 24 (adr vy (j*4)) rfl (rv_idxn (e:=71) hy tb_len (by decide) j (by omega) _ _ _ rfl rfl rfl (by kernel_rfl) (by kernel_rfl)) ?_
  obtain ⟨_,_,⟨cA26,cB26,cC26,cD26,rfl,h26⟩,at26⟩:=Sl.get hy (by decide) (tb_get (f:=(fun z1=>(x z1))) (n:=N) (i:=j) (by omega))
  refine sw 25 (.agg #[cA26,cB26,cC26,cD26]) rfl (rv_ldn [cA26,cB26,cC26,cD26] (at26.gr hB) _ _ rfl rfl (by kernel_rfl)) ?_
  refine se ?_
  refine ea 71 #[(.bool false),(.slice none 0 0),(.bool false),(.slice none 0 0)] 9 hB fun b27 w27 g27 L27 o27 q27 hB=>?_
  have ne23_27:=L23.ne o27
  simp only [p3,p4]
  refine se ?_
  have lo28:=L27
  refine es 71 0 (.agg #[cA26,cB26,cC26,cD26]) [cA26,cB26,cC26,cD26] #[cA26,cB26,cC26,cD26] L27 hB q27 ⟨h26.one0,h26.one1,h26.one2,h26.one3,trivial⟩ fun w28 st28 kp28 L27 hB=>?_
  refine sq_nil ?_
  refine k25 _ _ ?_
  try clear k25 K25
  refine wp_seq_k (fun K29 k29=>?_)
  refine rg [0,1,2,3,4] ?_
  refine sv 26 (.func (.func 69) #[] #[]) ?_
  replace L23:=st28.lc (L23.gr g27) ne23_27
  refine sw 27 (.agg #[cA22,cB22,cC22,cD22]) rfl (rl 71 0 [cA22,cB22,cC22,cD22] L23) ?_
  refine sw 28 (.agg #[cA26,cB26,cC26,cD26]) rfl (rl 71 0 [cA26,cB26,cC26,cD26] L27) ?_
  refine se ?_
  refine ec 29 (mx_eq0 (by omega) (h22.kp hB.kp) (h26.kp hB.kp)) ?_
  rintro e30 w30 ⟨rfl,g30⟩
  refine ⟨_,rfl,?_⟩
  replace hB:=hB.trans g30
  simp only [p3,p4]
  refine sv 30 (.bool false) ?_
  refine sq_nil ?_
  refine k29 _ _ ?_
  try clear k29 K29
  refine wp_cond_false rfl ?_
  refine wp_skip ?_
  refine k20 _ _ ?_
  try clear k20 K20
  refine rg [0,1] ?_
  refine sw 31 (.int .i64 (((j:Int)+1))) rfl (RunV.int (x:=IntKind.i64.wrap (((j:Int)+1))) (y:=((j:Int)+1)) (rvk (by kernel_rfl)) (by first | rfl | (rw [IntKind.wrap_i64];omega))) ?_
  refine sv 17 (.int .i64 (((j:Int)+1))) ?_
  refine sq_nil ?_
  refine k16 (N - (j+1)) ⟨List.toArray ?l31,[]⟩ _ (by omega) ?_
  exact ⟨j+1,(fun i=>List.getD ?l31 i undef),rfl,rfl,(by omega),hB⟩
 ·have hej:N=j:=by have:=of_decide_eq_false hb19;omega
  subst hej
  refine wp_exit ?_
  simp only [Exit.then,Exit.inBlock,↓reduceIte]
  refine k14 _ _ ?_
  try clear k14 K14
  refine wp_seq_k (fun K32 k32=>?_)
  refine rg [0] ?_
  refine sv 6 (.bool true) ?_
  refine sq_nil ?_
  refine k32 _ _ ?_
  try clear k32 K32
  refine wp_ret ?_
  refine bodyPost_ret (v:=(.bool true)) (ret_tmp rfl rfl) rfl ⟨?_,hB⟩
  exact rfl

set_option maxRecDepth 100000 in
set_option maxHeartbeats 1000000 in
theorem mx_eq1 {K L N:Nat} {vx vy:Value} {x:Nat→Rat} (_hk:K+L≤100000) (_hN:N≤1000) {w:World} (hx:Sl (ERat K) 71 4 w vx (tb (fun z1=>(x z1)) N)) (hy:Sl (ERat L) 71 4 w vy (tb (fun z1=>(x z1)) N)):
    Calls Tryz.prog 67 #[vx,vy] w fun e w'=>e=.returned (.bool true)∧Gr w w':=by
 go_enter Tryz.func67,Tryz.ntmps67
 have hB:=Gr.refl w
 refine wp_seq_k (fun K10 k10=>?_)
 refine rg [0] ?_
 refine sv 4 (.bool false) ?_
 refine sq_nil ?_
 refine k10 _ _ ?_
 try clear k10 K10
 refine wp_seq_k (fun K11 k11=>?_)
 refine rg [0,1,2,3] ?_
 refine sv 5 vx ?_
 refine sv 6 vy ?_
 refine se ?_
 refine ec 7 (mx_eqr (by omega) (by omega) (hx.gr (stab_rat K) hB) (hy.gr (stab_rat L) hB)) ?_
 rintro e12 w12 ⟨rfl,g12⟩
 refine ⟨_,rfl,?_⟩
 replace hB:=hB.trans g12
 simp only [p3,p4]
 refine sv 4 (.bool true) ?_
 refine sq_nil ?_
 refine k11 _ _ ?_
 try clear k11 K11
 refine wp_ret ?_
 refine bodyPost_ret (v:=(.bool true)) (ret_tmp rfl rfl) rfl ⟨?_,hB⟩
 exact rfl

set_option maxRecDepth 100000 in
set_option maxHeartbeats 1000000 in
theorem mx_eqm {K L R N:Nat} {vx vy:Value} {m:Mx_} (_hk:K+L≤100000) (_hN:N≤1000) (_hR:R≤1000) {w:World} (hx:Sl (ERw (ERat K) 71 4) 49 1 w vx (tb (fun z0=>tb (fun z1=>(m z0 z1)) N) R)) (hy:Sl (ERw (ERat L) 71 4) 49 1 w vy (tb (fun z0=>tb (fun z1=>(m z0 z1)) N) R)):
    Calls Tryz.prog 66 #[vx,vy,(.func (.func 67) #[] #[])] w fun e w'=>e=.returned (.bool true)∧Gr w w':=by
 go_enter Tryz.func66,Tryz.ntmps66
 have hB:=Gr.refl w
 refine wp_seq_k (fun K10 k10=>?_)
 refine rg [0] ?_
 refine sv 6 (.bool false) ?_
 refine sq_nil ?_
 refine k10 _ _ ?_
 try clear k10 K10
 refine wp_seq_k (fun K11 k11=>?_)
 refine wp_seq_k (fun K12 k12=>?_)
 refine rg [0,1,2,3,4] ?_
 refine sv 10 vx ?_
 refine sw 11 (.int .i64 ((R:Int))) rfl (rv_lenn (e:=49) hx (tb_lenz rfl) _ _ rfl rfl (by kernel_rfl)) ?_
 refine sv 12 vy ?_
 refine sw 13 (.int .i64 ((R:Int))) rfl (rv_lenn (e:=49) hy (tb_lenz rfl) _ _ rfl rfl (by kernel_rfl)) ?_
 have hb13:(((R:Int) !=(R:Int)))=false:=(by simp)
 refine sw 14 (.bool false) rfl (RunV.bool (x:=((R:Int) !=(R:Int))) (rvk (by kernel_rfl)) hb13) ?_
 refine sq_nil ?_
 refine k12 _ _ ?_
 try clear k12 K12
 refine wp_cond_false rfl ?_
 refine wp_skip ?_
 refine k11 _ _ ?_
 try clear k11 K11
 refine wp_seq_k (fun K14 k14=>?_)
 refine wp_seq_k (fun K15 k15=>?_)
 refine rg [0,1,2] ?_
 refine sv 15 vx ?_
 refine sw 16 (.int .i64 ((R:Int))) rfl (rv_lenn (e:=49) hx (tb_lenz rfl) _ _ rfl rfl (by kernel_rfl)) ?_
 refine sv 17 (.int .i64 0) ?_
 refine sq_nil ?_
 refine k15 _ _ ?_
 try clear k15 K15
 refine wp_block ?_
 refine wp_loop_inv (a:=⟨List.toArray ?l16,[]⟩) (fun n a w'=>∃ (j:Nat) (u16:Nat→Value),R - j=n∧a=⟨[vx,vy,(.func (.func 67) #[] #[]),undef,undef,undef,(u16 6),(u16 7),(u16 8),(u16 9),(u16 10),(u16 11),(u16 12),(u16 13),(.bool false),vx,(.int .i64 ((R:Int))),(.int .i64 ((j:Int))),(u16 18),(u16 19),(u16 20),(u16 21),(u16 22),(u16 23),(u16 24),(u16 25),(u16 26),(u16 27),(u16 28),(u16 29),(u16 30),(u16 31)].toArray,[]⟩∧j≤R∧Gr w w') (R - 0) ?_ ?_
 ·exact ⟨0,(fun i=>List.getD ?l16 i undef),rfl,rfl,(Nat.zero_le _),hB⟩
 rintro n16 a16 w16 ⟨j,u16,rfl,rfl,hkj,hB⟩ K16 k16
 refine wp_seq_k (fun K17 k17=>?_)
 refine rg [0] ?_
 refine sv 18 (.bool (decide ((j:Int)<(R:Int)))) ?_
 refine sq_nil ?_
 refine k17 _ _ ?_
 try clear k17 K17
 refine wp_seq_k (fun K18 k18=>?_)
 refine wp_cond_split (t:=decide ((j:Int)<(R:Int))) rfl (fun hb19=>?_) (fun hb19=>?_)
 ·have hlj:j<R:=by have:=of_decide_eq_true hb19;omega
  refine wp_skip ?_
  refine k18 _ _ ?_
  try clear k18 K18
  refine wp_seq_k (fun K20 k20=>?_)
  refine wp_block ?_
  refine wp_seq_k (fun K21 k21=>?_)
  refine rg [0,1,2,3,4] ?_
  refine sv 19 (.int .i64 ((j:Int))) ?_
  refine sw 20 (adr vx (j*1)) rfl (rv_idxn (e:=49) hx tb_len (by decide) j (by omega) _ _ _ rfl rfl rfl (by kernel_rfl) (by kernel_rfl)) ?_
  obtain ⟨_,_,⟨u22,rfl,hr22⟩,at22⟩:=Sl.get hx (by decide) (tb_get (f:=(fun z0=>tb (fun z1=>(m z0 z1)) N)) (n:=R) (i:=j) (by omega))
  refine sw 21 u22 rfl (rv_ld1 u22 (at22.gr hB) _ _ rfl rfl (by kernel_rfl)) ?_
  refine sv 7 (.int .i64 ((j:Int))) ?_
  refine sv 8 u22 ?_
  refine sq_nil ?_
  refine k21 _ _ ?_
  try clear k21 K21
  refine wp_seq_k (fun K23 k23=>?_)
  refine rg [0,1,2,3,4] ?_
  refine sv 22 vy ?_
  refine sv 23 (.int .i64 ((j:Int))) ?_
  refine sw 24 (adr vy (j*1)) rfl (rv_idxn (e:=49) hy tb_len (by decide) j (by omega) _ _ _ rfl rfl rfl (by kernel_rfl) (by kernel_rfl)) ?_
  obtain ⟨_,_,⟨u24,rfl,hr24⟩,at24⟩:=Sl.get hy (by decide) (tb_get (f:=(fun z0=>tb (fun z1=>(m z0 z1)) N)) (n:=R) (i:=j) (by omega))
  refine sw 25 u24 rfl (rv_ld1 u24 (at24.gr hB) _ _ rfl rfl (by kernel_rfl)) ?_
  refine sv 9 u24 ?_
  refine sq_nil ?_
  refine k23 _ _ ?_
  try clear k23 K23
  refine wp_seq_k (fun K25 k25=>?_)
  refine rg [0,1,2,3,4] ?_
  refine sv 26 (.func (.func 67) #[] #[]) ?_
  refine sv 27 u22 ?_
  refine sv 28 u24 ?_
  refine se ?_
  refine ec 29 (mx_eq1 (by omega) (by omega) (hr22.gr (stab_rat K) hB) (hr24.gr (stab_rat L) hB)) ?_
  rintro e26 w26 ⟨rfl,g26⟩
  refine ⟨_,rfl,?_⟩
  replace hB:=hB.trans g26
  simp only [p3,p4]
  refine sv 30 (.bool false) ?_
  refine sq_nil ?_
  refine k25 _ _ ?_
  try clear k25 K25
  refine wp_cond_false rfl ?_
  refine wp_skip ?_
  refine k20 _ _ ?_
  try clear k20 K20
  refine rg [0,1] ?_
  refine sw 31 (.int .i64 (((j:Int)+1))) rfl (RunV.int (x:=IntKind.i64.wrap (((j:Int)+1))) (y:=((j:Int)+1)) (rvk (by kernel_rfl)) (by first | rfl | (rw [IntKind.wrap_i64];omega))) ?_
  refine sv 17 (.int .i64 (((j:Int)+1))) ?_
  refine sq_nil ?_
  refine k16 (R - (j+1)) ⟨List.toArray ?l27,[]⟩ _ (by omega) ?_
  exact ⟨j+1,(fun i=>List.getD ?l27 i undef),rfl,rfl,(by omega),hB⟩
 ·have hej:R=j:=by have:=of_decide_eq_false hb19;omega
  subst hej
  refine wp_exit ?_
  simp only [Exit.then,Exit.inBlock,↓reduceIte]
  refine k14 _ _ ?_
  try clear k14 K14
  refine wp_seq_k (fun K28 k28=>?_)
  refine rg [0] ?_
  refine sv 6 (.bool true) ?_
  refine sq_nil ?_
  refine k28 _ _ ?_
  try clear k28 K28
  refine wp_ret ?_
  refine bodyPost_ret (v:=(.bool true)) (ret_tmp rfl rfl) rfl ⟨?_,hB⟩
  exact rfl

set_option maxRecDepth 100000 in
set_option maxHeartbeats 1000000 in
theorem mx_Equal {K L R N:Nat} {vx vy:Value} {m:Mx_} (_hk:K+L≤100000) (_hN:N≤1000) (_hR:R≤1000) {w:World} (hx:Sl (ERw (ERat K) 71 4) 49 1 w vx (tb (fun z0=>tb (fun z1=>(m z0 z1)) N) R)) (hy:Sl (ERw (ERat L) 71 4) 49 1 w vy (tb (fun z0=>tb (fun z1=>(m z0 z1)) N) R)):
    Calls Tryz.prog 27 #[vx,vy] w fun e w'=>e=.returned (.bool true)∧Gr w w':=by
 go_enter Tryz.func27,Tryz.ntmps27
 have hB:=Gr.refl w
 refine wp_seq_k (fun K10 k10=>?_)
 refine rg [0] ?_
 refine sv 4 (.bool false) ?_
 refine sq_nil ?_
 refine k10 _ _ ?_
 try clear k10 K10
 refine wp_seq_k (fun K11 k11=>?_)
 refine rg [0,1,2,3] ?_
 refine sv 5 vx ?_
 refine sv 6 vy ?_
 refine se ?_
 refine ec 7 (mx_eqm (by omega) (by omega) (by omega) (hx.gr (stab_rw (stab_rat K) 71 4) hB) (hy.gr (stab_rw (stab_rat L) 71 4) hB)) ?_
 rintro e12 w12 ⟨rfl,g12⟩
 refine ⟨_,rfl,?_⟩
 replace hB:=hB.trans g12
 simp only [p3,p4]
 refine sv 4 (.bool true) ?_
 refine sq_nil ?_
 refine k11 _ _ ?_
 try clear k11 K11
 refine wp_ret ?_
 refine bodyPost_ret (v:=(.bool true)) (ret_tmp rfl rfl) rfl ⟨?_,hB⟩
 exact rfl

section
variable {α:Type} {E:World→α→List Value→Prop} {ts:List TypeId} {T TW:TypeId} {c B R N:Nat} {w w':World} {bs:Nat→Value} {f:Nat→Nat→α}
/-- a value that is a slice -/
def EVs (_:World) (u:Value) (vs:List Value):Prop:=vs=[u]∧∃ ao n cap,u=.slice ao n cap
theorem EVs.of {E:World→α→List Value→Prop} {T:TypeId} {c:Nat} {w0:World} {u:Value} {xs:List α} (h:Sl E T c w0 u xs) (w:World):EVs w u [u]:=⟨rfl,h.forms⟩
/-- two slices do not lie in one block -/
def Dj (u v:Value):Prop:=∀ g n cap m dap,u=.slice (some ⟨g,0,none⟩) n cap→v≠.slice (some ⟨g,0,none⟩) m dap
/-- rows of the call's own -/
structure Mr (E:World→α→List Value→Prop) (T:TypeId) (c:Nat) (w:World) (B:Nat) (bs:Nat→Value) (f:Nat→Nat→α) (R N:Nat):Prop where
  row:∀ i,i<R→Ow E T c w B (bs i) (tb (f i) N)
  dj:∀ i j,i<R→j<R→i≠j→Dj (bs i) (bs j)
theorem Mr.kts (h:Mr E T c w B bs f R N) (hS:Stab E ts) (k:Kts (T::ts) w w'):Mr E T c w' B bs f R N:=⟨fun i hi=>(h.row i hi).kts hS k,h.dj⟩
theorem Mr.gr (h:Mr E T c w B bs f R N) (hS:Stab E ts) (g:Gr w w'):Mr E T c w' B bs f R N:=h.kts hS (g.kts _)
theorem Mr.zero0:Mr E T c w B bs f 0 N:=⟨fun i hi=>absurd hi (Nat.not_lt_zero i),fun i _ hi=>absurd hi (Nat.not_lt_zero i)⟩
theorem Mr.congr {g:Nat→Nat→α} (h:Mr E T c w B bs f R N) (e:∀ i,i<R→∀ j,j<N→f i j=g i j):Mr E T c w B bs g R N:=⟨fun i hi=>(h.row i hi).cast (tb_congr fun j hj=>e i hi j hj),h.dj⟩
theorem Mr.snoc {w0:World} {i:Nat} {u:Value} (h:Mr E T c w0 B bs f i N) (hS:Stab E ts) (g:Gr w0 w) (hu:Ow E T c w w0.heap.size u (tb (f i) N)) (hB:B≤w0.heap.size):Mr E T c w B (fun t=>if t=i then u else bs t) f (i+1) N:=by
  have hold:∀ t,t<i→∀ g n cap,bs t=.slice (some ⟨g,0,none⟩) n cap→g<w0.heap.size:=fun t ht g n cap e=>((h.row t ht).blk e).2
  refine ⟨fun t ht=>?_,fun t s ht hs hne=>?_⟩
  · by_cases e:t=i
    · rw [if_pos e,e];exact hu.mono hB
    · rw [if_neg e];exact (h.row t (by omega)).gr hS g
  · intro b n cap m dap e1 e2
    by_cases a1:t=i
    · rw [if_pos a1] at e1
      rw [if_neg (fun a2=>hne (a1.trans a2.symm))] at e2
      have:=(hu.blk e1).1
      have:=hold s (by omega) b m dap e2
      omega
    · rw [if_neg a1] at e1
      by_cases a2:s=i
      · rw [if_pos a2] at e2
        have:=(hu.blk e2).1
        have:=hold t (by omega) b n cap e1
        omega
      · rw [if_neg a2] at e2
        exact h.dj t s (by omega) (by omega) hne b n cap m dap e1 e2
/-- two rows exchanged -/
def sb (bs:Nat→Value) (i r:Nat):Nat→Value:=fun t=>if t=i then bs r else if t=r then bs i else bs t
def swf (f:Nat→Nat→α) (i r:Nat):Nat→Nat→α:=fun t=>if t=i then f r else if t=r then f i else f t
theorem Mr.swp {i r:Nat} (h:Mr E T c w B bs f R N) (hi:i<R) (hr:r<R):Mr E T c w B (sb bs i r) (swf f i r) R N:=by
  have key:∀ t,∃ s,sb bs i r t=bs s∧swf f i r t=f s∧(t<R→s<R)∧s=(if t=i then r else if t=r then i else t):=fun t=>by
    unfold sb swf
    by_cases a:t=i
    · exact ⟨r,by rw [if_pos a],by rw [if_pos a],fun _=>hr,by rw [if_pos a]⟩
    · by_cases b:t=r
      · exact ⟨i,by rw [if_neg a,if_pos b],by rw [if_neg a,if_pos b],fun _=>hi,by rw [if_neg a,if_pos b]⟩
      · exact ⟨t,by rw [if_neg a,if_neg b],by rw [if_neg a,if_neg b],fun h=>h,by rw [if_neg a,if_neg b]⟩
  refine ⟨fun t ht=>?_,fun t u ht hu hne=>?_⟩
  · obtain ⟨s,e1,e2,e3,_⟩:=key t
    rw [e1,e2];exact h.row s (e3 ht)
  · obtain ⟨s,e1,_,e3,e4⟩:=key t
    obtain ⟨s',d1,_,d3,d4⟩:=key u
    rw [e1,d1]
    refine h.dj s s' (e3 ht) (d3 hu) ?_
    rw [e4,d4]
    split<;>split<;>(try split)<;>(try split)<;>omega
/-- a block in which none of the rows lies -/
def NoB (bs:Nat→Value) (R b:Nat):Prop:=∀ i,i<R→OwNe (bs i) b
theorem Mr.st {b:Nat} (h:Mr E T c w B bs f R N) (hS:Stab E ts) (st:St w w' b) (hn:NoB bs R b) (k:Kts ts w w'):Mr E T c w' B bs f R N:=⟨fun i hi=>(h.row i hi).st hS st (hn i hi) k,h.dj⟩
variable {P:Program} {a:Act} {o:Oper} {Q:Exit→Act→World→Prop} {K:Act→World→Prop}
end
/-! ### the reference's steps -/
section
variable {R N k i:Nat} {m:Mx_}
/-- row r divided,up to column j -/
def s1 (R:Nat) (m:Mx_) (k i j:Nat):Mx_:=fun a b=>if a=pl R m k∧b<j then aa R m k i a b/aa R m k i (pl R m k) k else aa R m k i a b
/-- row t cleared,up to column j -/
def s2 (R:Nat) (m:Mx_) (k i t j:Nat):Mx_:=fun a b=>if a=t∧b<j then md R m k i (t+1) a b else md R m k i t a b
variable {K:Nat}
end
set_option maxRecDepth 100000 in
set_option maxHeartbeats 1000000 in
theorem f5_columns {R N:Nat} {v:Value} {m:Nat→Nat→Rat} (hR:R=0→N=0) {w:World} (hs:Sl (ERw EFr 84 2) 51 1 w v (tb (fun z0=>tb (fun z1=>(m z0 z1)) N) R)):
    Calls Tryz.prog 20 #[v] w fun e w'=>e=.returned (.int .i64 (N:Int))∧Gr w w':=by
 go_enter Tryz.func20,Tryz.ntmps20
 have hB:=Gr.refl w
 refine wp_seq_k (fun K10 k10=>?_)
 refine rg [0] ?_
 refine sv 2 (.int .i64 0) ?_
 refine sq_nil ?_
 refine k10 _ _ ?_
 try clear k10 K10
 refine wp_seq_k (fun K11 k11=>?_)
 refine wp_seq_k (fun K12 k12=>?_)
 refine rg [0,1,2] ?_
 refine sv 3 v ?_
 refine sw 4 (.int .i64 ((R:Int))) rfl (rv_lenn (e:=51) hs (tb_lenz rfl) _ _ rfl rfl (by kernel_rfl)) ?_
 refine sv 5 (.bool (((R:Int)==(0:Int)))) ?_
 refine sq_nil ?_
 refine k12 _ _ ?_
 try clear k12 K12
 refine wp_cond_split (t:=((R:Int)==(0:Int))) rfl (fun hb13=>?_) (fun hb13=>?_)
 ·have hq14:(R:Int)=(0:Int):=by have:=hb13;simp at this;omega
  refine wp_seq_k (fun K15 k15=>?_)
  refine rg [0] ?_
  refine sv 2 (.int .i64 0) ?_
  refine sq_nil ?_
  refine k15 _ _ ?_
  try clear k15 K15
  refine wp_ret ?_
  simp only [Exit.then]
  refine bodyPost_ret (v:=(.int .i64 0)) (ret_tmp rfl rfl) rfl ⟨?_,hB⟩
  exact (by rw [hR (by omega)];rfl)
 ·have hq16:¬ (R:Int)=(0:Int):=by have:=hb13;simp at this;omega
  refine wp_skip ?_
  refine k11 _ _ ?_
  try clear k11 K11
  refine wp_seq_k (fun K17 k17=>?_)
  refine rg [0,1,2,3,4] ?_
  refine sv 6 v ?_
  refine sw 7 (adr v (0*1)) rfl (rv_idxn (e:=51) hs tb_len (by decide) 0 (by omega) _ _ _ rfl rfl rfl (by kernel_rfl) (by kernel_rfl)) ?_
  obtain ⟨_,_,⟨u18,rfl,hr18⟩,at18⟩:=Sl.get hs (by decide) (tb_get (f:=(fun z0=>tb (fun z1=>(m z0 z1)) N)) (n:=R) (i:=0) (by omega))
  refine sw 8 u18 rfl (rv_ld1 u18 (at18.gr hB) _ _ rfl rfl (by kernel_rfl)) ?_
  refine sw 9 (.int .i64 ((N:Int))) rfl (rv_lenn (e:=84) hr18 (tb_lenz rfl) _ _ rfl rfl (by kernel_rfl)) ?_
  refine sv 2 (.int .i64 ((N:Int))) ?_
  refine sq_nil ?_
  refine k17 _ _ ?_
  try clear k17 K17
  refine wp_ret ?_
  refine bodyPost_ret (v:=(.int .i64 ((N:Int)))) (ret_tmp rfl rfl) rfl ⟨?_,hB⟩
  exact rfl

/-- a fraction,or the zero value -/
def EFo (w:World) (x:Option Rat) (vs:List Value):Prop:=
  match x with
  | none=>vs=[.string ⟨#[]⟩,.string ⟨#[]⟩]
  | some q=>EFr w q vs
theorem Sl.some {T:TypeId} {c n:Nat} {w:World} {v:Value} {g:Nat→Rat} (h:Sl EFo T c w v (tb (fun k=>some (g k)) n)):Sl EFr T c w v (tb g n):=by
  obtain ⟨ys,h1,h2⟩:=h
  rw [tb_len] at h1
  refine ⟨ys,by rw [tb_len];exact h1,by rw [h2.1,tb_len,tb_len],fun i x hx=>?_⟩
  have hi:i<n:=by have:=(List.getElem?_eq_some_iff.1 hx).1;rwa [tb_len] at this
  rw [tb_get hi] at hx
  obtain rfl:=Option.some.inj hx
  exact h2.2 i (Option.some (g i)) (tb_get (f:=fun k=>Option.some (g k)) hi)
section
variable {R n:Nat} {m:Mx_} {g:Nat→Rat}
theorem rs_zero {D:Nat} (hR:R=0):pl R m D=0:=by have:=rs_len R m D;omega
end
end Go.Proofs.YtepgkcimmdmgcaaGreatDoor
namespace Go.Proofs.YtepgkcimmdmgcaaGreatDoor
/-- the first k members of the expansion -/
def dr (n:Nat) (m:Mx_) (k:Nat):Rat:=sm k fun z9=>sgk z9*(m 0 z9*Dr n (mnr m z9))
end Go.Proofs.YtepgkcimmdmgcaaGreatDoor
namespace Go.Proofs.YtepgkcimmdmgcaaGreatDoor
open Go.RowKit

set_option maxRecDepth 100000 in
set_option maxHeartbeats 2000000 in
theorem scale_c (ao:Option Addr) (la ca:Nat) (m x p:Int) (w:World) (hla:la≤900000) (ha:Mag w ao la ca m) (hx0:0≤x) (hx1:x<4294967296) (hp0:0≤p) (hp1:p<4294967296):
    Calls Tryz.prog 157 #[.slice ao la ca,.int .u32 x,.int .u32 p] w fun e w'=>(∃ go k cap,e=.returned (.slice go k cap)∧Mag w' go k cap (m*x+p)∧k≤la+1)∧Gr w w':=by
  go_enter Tryz.func157,Tryz.ntmps157
  go_wp2_with (at_make;refine wpList_make32 _ rfl _ _ rfl _ _ (la+1) rfl rfl (by omega) (by omega) (by omega) ?_)
  intro w1 hO hB hsz
  go_wp2
  go_loopw [8,19] (fun c i wr=>∃ (k:Nat) (cr:Int) (d:Nat→Int),k≤la∧i=.int .i64 k∧c=.int .u64 cr∧0≤cr∧cr<4294967296∧Hid (hi (m*x+p) k=hi m k*x+cr)∧Below w.heap.size w wr∧
      Own wr w.heap.size (la+1) d∧Hid (∀ j,j<k→d j=dg (m*x+p) j)) (fun _ i _=>la - (intOf i).toNat)
  case atStart=>exact ⟨0,p,_,Nat.zero_le _,rfl,rfl,hp0,hp1,by simp [Hid,hi_zero],hB,hO,fun j hj=>by omega⟩
  case round=>
    obtain ⟨k,cr,d,hk,rfl,rfl,hc0,hc1,hz,hB,hO,hd⟩:=hrel
    by_cases hlt:k<la
    · obtain ⟨b1,off1,rfl,hcs1⟩:=(ha.row.below hB).at_ (by omega)
      have hcell1:=hcs1 k hlt
      clear hcs1
      have d0:=dg_nonneg m k
      have d1:=dg_lt m k
      have hcell3:=hO.cell k (by omega)
      have hfree:=hO.free k
      have hs:=scale_step hz.out hc0 hc1 hx0 hx1
      have z0:=hs.2.2.2.2.1
      have z1:=hs.2.2.2.2.2
      have z2:dg m k*x≤18446744065119617025:=by
        have:=Int.mul_le_mul (show dg m k≤4294967295 by omega) (show x≤4294967295 by omega) hx0 (by omega)
        omega
      have HS:=Lib.hid hs
      clear hs
      go_wp2
      have hs:=HS.out
      go_roundw
      case rel=>
        refine ⟨k+1,_,_,by omega,by go_num,rfl,hs.2.2.1,hs.2.2.2.1,hs.2.1,hB.setCell (Nat.le_refl _) _,hO.set (by omega) _,fun j hj=>?_⟩
        by_cases e:j=k
        · subst e;rw [upd_same,hs.1]
        · rw [upd_other _ _ e];exact hd.out j (by omega)
      case measure=>simp [intOf];omega
    · obtain rfl:k=la:=by omega
      have hcell3:=hO.cell k (by omega)
      have hfree:=hO.free k
      have hm0:0≤m*x+p:=by have:=Int.mul_nonneg ha.nl.nonneg hx0;omega
      have htop:hi (m*x+p) (k+1)=0:=by
        have h1:=hz.out
        rw [ha.nl.top,Int.zero_mul] at h1
        rw [hi_succ];omega
      have hdk:dg (m*x+p) k=cr:=by
        have h1:=hz.out
        rw [ha.nl.top,Int.zero_mul] at h1
        unfold dg;omega
      have HT:=Lib.hid htop
      have HD:=Lib.hid hdk
      clear htop hdk
      go_wp2_with fail
      have hO2:=(hO.set (Nat.lt_succ_self k) cr).congr (d':=dg (m*x+p)) (fun j hj=>by
        by_cases e:j=k
        · subst e;rw [upd_same,HD.out]
        · rw [upd_other _ _ e];exact hd.out j (by omega))
      refine (trim_c _ _ _ (m*x+p) _ (by omega) (Nat.le_refl _) hm0 HT.out hO2.row).mono ?_
      rintro e w3 ⟨⟨n,rfl,hm,hn⟩,rfl⟩
      go_wp2
      go_ret
      exact ⟨⟨_,_,_,rfl,hm,hn⟩,hB.setCell (Nat.le_refl _) _⟩
theorem valL_from (l:List UInt8):∀ acc:Nat,l.foldl (fun a c=>a*10+(c.toNat - 48)) acc=acc*10 ^ l.length+valL l:=by
  induction l with
  | nil=>intro acc;simp [valL]
  | cons c l ih=>
    intro acc
    have hv:valL (c::l)=(c.toNat - 48)*10 ^ l.length+valL l:=by
      show l.foldl _ (0*10+(c.toNat - 48))=_
      rw [ih];simp
    rw [List.foldl_cons,ih,hv,List.length_cons,Nat.pow_succ,Nat.add_mul]
    have:acc*10*10 ^ l.length=acc*(10 ^ l.length*10):=by grind
    omega
theorem valL_append (a b:List UInt8):valL (a++b)=valL a*10 ^ b.length+valL b:=by
  show (a++b).foldl _ 0=_
  rw [List.foldl_append,valL_from];rfl
theorem valL_lt (l:List UInt8) (h:∀ c ∈ l,48≤c.toNat∧c.toNat≤57):valL l<10 ^ l.length:=by
  induction l with
  | nil=>simp [valL]
  | cons c l ih=>
    have h1:=valL_append [c] l
    have h2:=ih (fun x hx=>h x (by simp [hx]))
    have h3:=h c (by simp)
    have h4:valL [c]≤9:=by simp [valL];omega
    rw [List.singleton_append] at h1
    rw [h1,List.length_cons,Nat.pow_succ]
    have:=Nat.mul_le_mul_right (10 ^ l.length) h4
    omega
theorem parseM:∀ (l:List UInt8) (acc:Nat),(∀ c ∈ l,48≤c.toNat∧c.toNat≤57)→acc*10 ^ l.length+10 ^ l.length≤1000000000→Lib.parseUintM (2 ^ 32 - 1) acc l=.ok (acc*10 ^ l.length+valL l)
  | [],acc,_,_=>by simp [Lib.parseUintM,valL]
  | c::l,acc,h,hb=>by
    have hc:=h c (by simp)
    have hp:0<10 ^ l.length:=Nat.pow_pos (by omega)
    rw [List.length_cons,Nat.pow_succ] at hb
    have h1:(acc+1)*(10 ^ l.length*10)≤1000000000:=by rw [Nat.add_mul];omega
    have h2:(acc+1)*10≤1000000000:=by
      have:(acc+1)*10≤(acc+1)*(10 ^ l.length*10):=Nat.mul_le_mul_left _ (by omega)
      omega
    have e:acc*(10 ^ l.length*10)=acc*10*10 ^ l.length:=by grind
    have h3:(c.toNat - 48)*10 ^ l.length≤9*10 ^ l.length:=Nat.mul_le_mul_right _ (by omega)
    have ih:=parseM l (acc*10+(c.toNat - 48)) (fun x hx=>h x (by simp [hx])) (by rw [Nat.add_mul];omega)
    unfold Lib.parseUintM
    rw [if_pos hc,if_neg (by omega),if_neg (by omega),ih]
    have h5:=valL_append [c] l
    rw [List.singleton_append] at h5
    have h6:valL [c]=c.toNat - 48:=by simp [valL]
    rw [h5,h6,List.length_cons,Nat.pow_succ,Nat.add_mul,e]
    congr 1
    omega
theorem parse32 {l:List UInt8} (h:∀ c ∈ l,48≤c.toNat∧c.toNat≤57) (h0:l≠[]) (h9:l.length≤9):Lib.parseUintB 32 l=.ok (valL l):=by
  unfold Lib.parseUintB
  rw [if_neg h0,parseM l 0 h (by
    have:10 ^ l.length≤10 ^ 9:=Nat.pow_le_pow_right (by omega) h9
    omega)]
  simp
theorem parse_uint (R:ByteArray) (h:∀ c ∈ R.data.toList,48≤c.toNat∧c.toNat≤57) (h0:0<R.size) (h9:R.size≤9) (w:World):
    Calls Tryz.prog 156 #[.string R,.int .i64 10,.int .i64 32] w fun e w'=>e=.returned (.tuple #[.int .u64 (valL R.data.toList:Int),.nilIface])∧Gr w w':=by
  have hl:R.data.toList.length=R.size:=by simp
  refine (Tryz.strconv_ParseUint_10_at32_ok R (by omega) (valL R.data.toList) (parse32 h (fun e=>by rw [e] at hl;simp at hl;omega) (by omega)) w).mono ?_
  rintro e w1 ⟨he,hw⟩
  refine ⟨he,?_⟩
  rcases hw with rfl | rfl
  · exact Gr.refl _
  · exact Go.Joins.below_bytesWorld _ _ _ _ (Nat.le_refl _)
/-- the closure:is it no digit? -/
theorem nodigit (x:Nat) (w:World):Calls Tryz.prog 155 #[.int .i32 (x:Int)] w fun e w'=>e=.returned (.bool (decide (x<48)||decide (57<x)))∧∃ q,w'=w.drewN q:=by
  by_cases h1:(x:Int)<48
  · have e1:decide (x<48)=true:=by simp;omega
    have E:=Lib.hid e1
    clear e1
    go_enter Tryz.func155,Tryz.ntmps155
    go_wp2
    go_ret
    exact ⟨by rw [E.out];rfl,0,rfl⟩
  · have e1:decide (x<48)=false:=by simp;omega
    by_cases h2:57<(x:Int)
    · have e2:(decide (x<48)||decide (57<x))=true:=by simp;omega
      have E:=Lib.hid e2
      clear e1 e2
      go_enter Tryz.func155,Tryz.ntmps155
      go_wp2
      go_ret
      exact ⟨by rw [E.out];rfl,0,rfl⟩
    · have e2:(decide (x<48)||decide (57<x))=false:=by simp;omega
      have E:=Lib.hid e2
      clear e1 e2
      go_enter Tryz.func155,Tryz.ntmps155
      go_wp2
      go_ret
      exact ⟨by rw [E.out];rfl,0,rfl⟩
theorem idx_none {D:ByteArray} (h:∀ c ∈ D.data.toList,48≤c.toNat∧c.toNat≤57):∀ (f pos:Nat),Lib.idxFuncFrom (fun x=>decide (x<48)||decide (57<x)) true D f pos=-1
  | 0,_=>rfl
  | f+1,pos=>by
    unfold Lib.idxFuncFrom
    by_cases hp:pos<D.size
    · have hc:=h D[pos] (List.mem_of_getElem? (toList_get hp))
      rw [if_pos hp,decode_ascii D pos hp (by omega),if_neg (by simp;omega)]
      exact idx_none h f _
    · rw [if_neg hp]
theorem contains_no (D:ByteArray) (h:∀ c ∈ D.data.toList,48≤c.toNat∧c.toNat≤57) (w:World):
    Calls Tryz.prog 154 #[.string D,.func (.func 155) #[] #[]] w fun e w'=>e=.returned (.bool false)∧Gr w w':=by
  refine (Tryz.strings_ContainsFunc 155 #[] (enters_of Tryz.func155 (by kernel_rfl) rfl) (fun x=>decide (x<48)||decide (57<x)) D w (fun W x _=>nodigit x W)).mono ?_
  rintro e w1 ⟨he,hb⟩
  refine ⟨?_,hb⟩
  rw [he]
  unfold Lib.idxFunc
  rw [idx_none h]
  rfl
theorem cut_minus (z:Int) (w:World):Calls Tryz.prog 153 #[.string ⟨(Lib.itoa z).toArray⟩,.string ⟨#[45]⟩] w fun e w'=>
    e=.returned (.tuple #[.string ⟨(Lib.decDigits z.natAbs).toArray⟩,.bool (decide (z<0))])∧w=w':=by
  refine (Tryz.strings_CutPrefix _ _ _).mono ?_
  rintro e w1 ⟨he,rfl⟩
  refine ⟨?_,rfl⟩
  rw [he]
  show Ending.returned (.tuple #[.string ⟨(Lib.trimPrefix (Lib.itoa z) [45]).toArray⟩,.bool (Lib.hasPrefix (Lib.itoa z) [45])])=_
  by_cases h:z<0
  · have h1:Lib.hasPrefix (Lib.itoa z) [45]=true:=by rw [itoa_neg h];simp [Lib.hasPrefix]
    rw [Lib.trimPrefix,h1,if_pos rfl,itoa_neg h,decide_eq_true h];rfl
  · have h1:Lib.hasPrefix (Lib.itoa z) [45]=false:=by
      rw [itoa_nonneg (by omega)]
      rcases hd:Lib.decDigits z.natAbs with _ | ⟨c,l⟩
      · rfl
      · have hc:=dec_all z.natAbs c (by rw [hd];simp)
        have hne:¬ (45:UInt8)=c:=fun e=>by rw [← e] at hc;simp at hc
        simp [Lib.hasPrefix,List.isPrefixOf,hne]
    rw [Lib.trimPrefix,h1,if_neg (by decide),itoa_nonneg (by omega),decide_eq_false h]
def strSize (v:Value):Nat:=match v with | .string s=>s.size | _=>0
theorem extract_take (R:ByteArray) (q:Nat):(R.extract 0 q).data.toList=R.data.toList.take q:=by rw [Lib.extract_data];simp
theorem extract_drop (R:ByteArray) (q:Nat):(R.extract q R.size).data.toList=R.data.toList.drop q:=by
  rw [Lib.extract_data,List.take_of_length_le];simp
set_option maxRecDepth 100000 in
set_option maxHeartbeats 4000000 in
theorem parse_i {k:Nat} (z:Int) (hz:Sz k z) (hk:k≤60000) (w:World):
    Calls Tryz.prog 129 #[.string ⟨(Lib.itoa z).toArray⟩] w fun e w'=>(∃ x y,e=.returned (.tuple #[.agg #[x,y],.int .i64 0])∧IsInt w' k x y z)∧Gr w w':=by
  obtain ⟨n,hn⟩:∃ n,n=z.natAbs:=⟨_,rfl⟩
  have hnk:n<2 ^ k:=by rw [hn];exact hz
  have hlen:=dec_len_bits k n hnk
  have hit:(Lib.itoa z).length≤k+2:=by
    by_cases h:z<0
    · rw [itoa_neg h,← hn];simp;omega
    · rw [itoa_nonneg (by omega),← hn];omega
  obtain ⟨s,hs⟩:∃ s:ByteArray,s=⟨(Lib.itoa z).toArray⟩:=⟨_,rfl⟩
  have hss:s.size≤65536:=by rw [hs];show (Lib.itoa z).toArray.size≤_;simp;omega
  obtain ⟨D,hD⟩:∃ D:ByteArray,D=⟨(Lib.decDigits n).toArray⟩:=⟨_,rfl⟩
  have HD:Hid (D.data.toList=Lib.decDigits n):=by rw [Hid,hD]
  have hDs:D.size=(Lib.decDigits n).length:=by rw [hD];show (Lib.decDigits n).toArray.size=_;simp
  have hD0:0<D.size:=by rw [hDs];exact dec_pos n
  have hD1:D.size≤60001:=by omega
  have hc:=cut_minus z (w.alloc (.cells #[.bool false,.slice none 0 0] 69))
  rw [← hn,← hD,← hs] at hc
  have hda:∀ c ∈ D.data.toList,48≤c.toNat∧c.toNat≤57:=by rw [HD.out];exact dec_all n
  have hcn:=contains_no D hda
  have hne:(D.toList==[])=false:=by
    rw [beq_eq_false_iff_ne,ByteArray.toList_eq,HD.out];exact dec_ne' n
  have hz0:(D[0].toNat:Int)=48→D.size=1∧n=0:=by
    intro h
    rcases Nat.eq_zero_or_pos n with e | e
    · rw [hDs,e];exact ⟨by rw [dec_zero];rfl,rfl⟩
    · obtain ⟨c,hc1,hc2,_⟩:=dec_head e
      have:=getElem_toList HD.out hD0 hc1
      rw [this] at h
      omega
  have HN:=Lib.hid hn
  have HZ0:=Lib.hid hz0
  have HDa:=Lib.hid hda
  have HDs:=Lib.hid hDs
  have HS:=Lib.hid hs
  rw [← hs]
  clear hn hz0 hda hDs hD hit hs
  go_enter Tryz.func129,Tryz.ntmps129
  go_wp2_with fail
  (with_reducible refine hc.mono ?_)
  rintro e w1 ⟨rfl,rfl⟩
  clear hc
  go_wp2_with fail
  (with_reducible refine (hcn _).mono ?_)
  rintro e w2 ⟨rfl,g2⟩
  clear hcn
  by_cases h48:(D[0].toNat:Int)=48
  · have hzz:=HZ0.out h48
    have hz1:¬ (1:Int)<(D.size:Int):=by omega
    have hz2:¬ z<0:=by have:=HN.out;omega
    have h48':((D[0].toNat:Int)==48)=true:=by simpa using h48
    clear h48 hzz
    go_wp2
    go_loopw [4,6] (fun r m wr=>∃ (R:ByteArray) (V:Nat) (mo:Option Addr) (ml mc:Nat),r=.string R∧m=.slice mo ml mc∧ml≤k∧R.size≤60001∧Hid (Mag wr mo ml mc (V:Int)∧(∀ c ∈ R.data.toList,48≤c.toNat∧c.toNat≤57)∧V*10 ^ R.size+valL R.data.toList=n)∧Gr (w.alloc (.cells #[.bool false,.slice none 0 0] 69)) wr) (fun r _ _=>strSize r)
    case atStart=>exact ⟨D,0,none,0,0,rfl,rfl,by omega,hD1,⟨⟨Nat.le_refl _,NL.zero,Row.nil _ _ _⟩,HDa.out,by rw [HD.out,valL_dec];simp⟩,g2⟩
    case round=>
      obtain ⟨R,V,mo,ml,mc,rfl,rfl,hml,hR1,hh,hG⟩:=hrel
      by_cases hp:0<R.size
      · obtain ⟨q,hq⟩:∃ q:Nat,q=(R.size - 1) % 9+1:=⟨_,rfl⟩
        have hq9:q≤9:=by omega
        have hq0:0<q:=by omega
        have hqR:q≤R.size:=by omega
        have hqe:((R.size:Int) - 1) % 9+1=(q:Int):=by omega
        have HQ:=Lib.hid hq
        clear hq
        go_wp2
        obtain ⟨wo,hwo⟩:∃ wo:World,wo=wr:=⟨_,rfl⟩
        subst hwo
        go_loopw [8,48] (fun b i wq=>∃ (j:Nat) (x:Int),b=.int .u32 x∧i=.int .i64 j∧j≤q∧1≤x∧x≤1000000000∧Hid (x=10 ^ j)∧wq=wo) (fun _ i _=>q - (intOf i).toNat)
        case atStart=>exact ⟨0,1,rfl,rfl,by omega,by omega,by omega,rfl,rfl⟩
        case round=>
          obtain ⟨j,x,rfl,rfl,hj,hx0,hx1,hx,rfl⟩:=hrel
          by_cases hlt:j<q
          · have hx8:x≤100000000:=by
              rw [hx.out]
              have h8:(10:Nat) ^ j≤100000000:=Nat.le_trans (Nat.pow_le_pow_right (by omega) (show j≤8 by omega)) (by decide)
              have h9:=Int.ofNat_le.2 h8
              rw [Int.natCast_pow] at h9
              exact h9
            go_wp2
            go_roundw
            case rel=>exact ⟨j+1,x*10,rfl,by go_num,by omega,by omega,by omega,by rw [Hid,hx.out,Int.pow_succ],by first | rfl | trivial⟩
            case measure=>simp [intOf];omega
          · obtain rfl:j=q:=by omega
            obtain ⟨T,hT⟩:∃ T,R.extract 0 j=T:=⟨_,rfl⟩
            obtain ⟨U,hU⟩:∃ U,R.extract j R.size=U:=⟨_,rfl⟩
            have hTl:T.data.toList=R.data.toList.take j:=by rw [← hT,extract_take]
            have hUl:U.data.toList=R.data.toList.drop j:=by rw [← hU,extract_drop]
            have hRl:R.data.toList.length=R.size:=by simp
            have hTs:T.size=j:=by
              have h1:=congrArg List.length hTl
              rw [List.length_take,hRl] at h1
              have h2:T.data.toList.length=T.size:=by simp
              omega
            have hUs:U.size=R.size - j:=by
              have h1:=congrArg List.length hUl
              rw [List.length_drop,hRl] at h1
              have h2:U.data.toList.length=U.size:=by simp
              omega
            obtain ⟨hm,hda,hval⟩:=hh.out
            have hTd:∀ c ∈ T.data.toList,48≤c.toNat∧c.toNat≤57:=fun c hc=>hda c (by rw [hTl] at hc;exact List.mem_of_mem_take hc)
            have hUd:∀ c ∈ U.data.toList,48≤c.toNat∧c.toNat≤57:=fun c hc=>hda c (by rw [hUl] at hc;exact List.mem_of_mem_drop hc)
            obtain ⟨u,hu⟩:∃ u,u=valL T.data.toList:=⟨_,rfl⟩
            have hu1:u<1000000000:=by
              have h1:=valL_lt _ hTd
              have h2:T.data.toList.length=T.size:=by simp
              rw [h2,hTs] at h1
              have:(10:Nat) ^ j≤10 ^ 9:=Nat.pow_le_pow_right (by omega) hq9
              omega
            have hval2:(V*10 ^ j+u)*10 ^ U.size+valL U.data.toList=n:=by
              have h1:=valL_append (R.data.toList.take j) (R.data.toList.drop j)
              rw [List.take_append_drop,← hTl,← hUl] at h1
              have h2:U.data.toList.length=U.size:=by simp
              rw [h1,h2,← hu,show R.size=j+U.size by omega,Nat.pow_add] at hval
              rw [← hval];grind
            have hVk:V*10 ^ j+u<2 ^ k:=by
              have h1:V*10 ^ j+u≤(V*10 ^ j+u)*10 ^ U.size:=Nat.le_mul_of_pos_right _ (Nat.pow_pos (by omega))
              omega
            have hpu:=parse_uint T hTd (by omega) (by omega)
            rw [← hu] at hpu
            have HV2:=Lib.hid hval2
            have HVk:=Lib.hid hVk
            have HUd:=Lib.hid hUd
            have HX:=hx
            have hTs1:T.size≤9:=by omega
            have hUs1:U.size<R.size:=by omega
            have hUs2:U.size≤60001:=by omega
            clear hTl hUl hRl hTd hUd hda hval hval2 hVk hu hTs hUs hqe
            have hu2:(u:Int)<1000000000:=by omega
            go_wp2_with fail
            (with_reducible refine (hpu _).mono ?_)
            rintro e w5 ⟨rfl,g5⟩
            clear hpu
            go_wp2_with fail
            (with_reducible refine (scale_c mo ml mc (V:Int) x (u:Int) _ (by omega) (hm.kp g5.kp) (by omega) (by omega) (by omega) (by omega)).mono ?_)
            rintro e w6 ⟨⟨go,k6,c6,rfl,hm6,hk6⟩,g6⟩
            have hm7:Mag w6 go k6 c6 ((V*10 ^ j+u:Nat):Int):=by
              rw [HX.out] at hm6
              have e:((V*10 ^ j+u:Nat):Int)=(V:Int)*10 ^ j+(u:Int):=by push_cast;rfl
              rw [e];exact hm6
            have hk7:k6≤k:=hm7.nl.len_sz (show Sz k _ by unfold Sz;rw [Int.natAbs_natCast];exact HVk.out)
            clear hm6
            go_wp2
            go_roundw
            case rel=>exact ⟨U,V*10 ^ j+u,go,k6,c6,rfl,rfl,hk7,hUs2,⟨hm7,HUd.out,HV2.out⟩,(hG.trans g5).trans g6⟩
            case measure=>simp [strSize];omega
      · have hR0:R.size=0:=by omega
        obtain ⟨hm,hda,hval⟩:=hh.out
        have hVn:V=n:=by
          have h2:R.data.toList.length=R.size:=by simp
          have h1:R.data.toList=[]:=List.length_eq_zero_iff.1 (by rw [h2];exact hR0)
          rw [h1,hR0] at hval
          simpa [valL] using hval
        rw [hVn] at hm
        have HR0:=Lib.hid hR0
        clear hR0 hda hval hh hVn
        have p2:=Gr.heap hG (heap_alloc_new w (.cells #[.bool false,.slice none 0 0] 69))
        go_wp2_with fail
        (with_reducible refine (signed_c (decide (z<0)) mo ml mc (n:Int) _ (by omega) hm.cap hm.nl.nonneg hm.nl.top hm.row).mono ?_)
        rintro e w5 ⟨⟨k5,rfl,hm5,hk5⟩,g5⟩
        have p3:=Gr.heap g5 p2
        have d0:=cells_of p3 0
        have d1:=cells_of p3 1
        have d2:=free_of p3
        have gw3:Gr w w5:=(Gr.alloc w _).trans (hG.trans g5)
        have hint:=IsInt.mk' (z:=z) (s:=decide (z<0)) (k:=k) (hm5.gr g5) (by rw [HN.out]) (fun _=>rfl) hz
        obtain ⟨bb,hbb⟩:∃ bb,bb=(decide (z<0)&&decide (0<k5)):=⟨_,rfl⟩
        rw [← hbb] at hint ⊢
        clear hbb hm hm5 p2
        go_wp2
        have p4:=heap_setCell_at (i:=1) (.slice mo k5 mc) (heap_setCell_at (i:=0) (.bool bb) p3)
        have hst:=(St.setCell w5 w.heap.size 0 (.bool bb)).trans (St.setCell _ w.heap.size 1 (.slice mo k5 mc))
        exact bodyPost_ret (v:=.tuple #[.agg #[.bool bb,.slice mo k5 mc],.int .i64 0]) (ret_cell_tmp' _ _ _ rfl rfl p4 (by kernel_rfl) rfl) rfl ⟨⟨_,_,rfl,hint.kp (hst.kp p3 (by decide))⟩,hst.gr gw3 (Nat.le_refl _)⟩
  · have h48':((D[0].toNat:Int)==48)=false:=by simpa using h48
    clear h48
    go_wp2
    go_loopw [4,6] (fun r m wr=>∃ (R:ByteArray) (V:Nat) (mo:Option Addr) (ml mc:Nat),r=.string R∧m=.slice mo ml mc∧ml≤k∧R.size≤60001∧Hid (Mag wr mo ml mc (V:Int)∧(∀ c ∈ R.data.toList,48≤c.toNat∧c.toNat≤57)∧V*10 ^ R.size+valL R.data.toList=n)∧Gr (w.alloc (.cells #[.bool false,.slice none 0 0] 69)) wr) (fun r _ _=>strSize r)
    case atStart=>exact ⟨D,0,none,0,0,rfl,rfl,by omega,hD1,⟨⟨Nat.le_refl _,NL.zero,Row.nil _ _ _⟩,HDa.out,by rw [HD.out,valL_dec];simp⟩,g2⟩
    case round=>
      obtain ⟨R,V,mo,ml,mc,rfl,rfl,hml,hR1,hh,hG⟩:=hrel
      by_cases hp:0<R.size
      · obtain ⟨q,hq⟩:∃ q:Nat,q=(R.size - 1) % 9+1:=⟨_,rfl⟩
        have hq9:q≤9:=by omega
        have hq0:0<q:=by omega
        have hqR:q≤R.size:=by omega
        have hqe:((R.size:Int) - 1) % 9+1=(q:Int):=by omega
        have HQ:=Lib.hid hq
        clear hq
        go_wp2
        obtain ⟨wo,hwo⟩:∃ wo:World,wo=wr:=⟨_,rfl⟩
        subst hwo
        go_loopw [8,48] (fun b i wq=>∃ (j:Nat) (x:Int),b=.int .u32 x∧i=.int .i64 j∧j≤q∧1≤x∧x≤1000000000∧Hid (x=10 ^ j)∧wq=wo) (fun _ i _=>q - (intOf i).toNat)
        case atStart=>exact ⟨0,1,rfl,rfl,by omega,by omega,by omega,rfl,rfl⟩
        case round=>
          obtain ⟨j,x,rfl,rfl,hj,hx0,hx1,hx,rfl⟩:=hrel
          by_cases hlt:j<q
          · have hx8:x≤100000000:=by
              rw [hx.out]
              have h8:(10:Nat) ^ j≤100000000:=Nat.le_trans (Nat.pow_le_pow_right (by omega) (show j≤8 by omega)) (by decide)
              have h9:=Int.ofNat_le.2 h8
              rw [Int.natCast_pow] at h9
              exact h9
            go_wp2
            go_roundw
            case rel=>exact ⟨j+1,x*10,rfl,by go_num,by omega,by omega,by omega,by rw [Hid,hx.out,Int.pow_succ],by first | rfl | trivial⟩
            case measure=>simp [intOf];omega
          · obtain rfl:j=q:=by omega
            obtain ⟨T,hT⟩:∃ T,R.extract 0 j=T:=⟨_,rfl⟩
            obtain ⟨U,hU⟩:∃ U,R.extract j R.size=U:=⟨_,rfl⟩
            have hTl:T.data.toList=R.data.toList.take j:=by rw [← hT,extract_take]
            have hUl:U.data.toList=R.data.toList.drop j:=by rw [← hU,extract_drop]
            have hRl:R.data.toList.length=R.size:=by simp
            have hTs:T.size=j:=by
              have h1:=congrArg List.length hTl
              rw [List.length_take,hRl] at h1
              have h2:T.data.toList.length=T.size:=by simp
              omega
            have hUs:U.size=R.size - j:=by
              have h1:=congrArg List.length hUl
              rw [List.length_drop,hRl] at h1
              have h2:U.data.toList.length=U.size:=by simp
              omega
            obtain ⟨hm,hda,hval⟩:=hh.out
            have hTd:∀ c ∈ T.data.toList,48≤c.toNat∧c.toNat≤57:=fun c hc=>hda c (by rw [hTl] at hc;exact List.mem_of_mem_take hc)
            have hUd:∀ c ∈ U.data.toList,48≤c.toNat∧c.toNat≤57:=fun c hc=>hda c (by rw [hUl] at hc;exact List.mem_of_mem_drop hc)
            obtain ⟨u,hu⟩:∃ u,u=valL T.data.toList:=⟨_,rfl⟩
            have hu1:u<1000000000:=by
              have h1:=valL_lt _ hTd
              have h2:T.data.toList.length=T.size:=by simp
              rw [h2,hTs] at h1
              have:(10:Nat) ^ j≤10 ^ 9:=Nat.pow_le_pow_right (by omega) hq9
              omega
            have hval2:(V*10 ^ j+u)*10 ^ U.size+valL U.data.toList=n:=by
              have h1:=valL_append (R.data.toList.take j) (R.data.toList.drop j)
              rw [List.take_append_drop,← hTl,← hUl] at h1
              have h2:U.data.toList.length=U.size:=by simp
              rw [h1,h2,← hu,show R.size=j+U.size by omega,Nat.pow_add] at hval
              rw [← hval];grind
            have hVk:V*10 ^ j+u<2 ^ k:=by
              have h1:V*10 ^ j+u≤(V*10 ^ j+u)*10 ^ U.size:=Nat.le_mul_of_pos_right _ (Nat.pow_pos (by omega))
              omega
            have hpu:=parse_uint T hTd (by omega) (by omega)
            rw [← hu] at hpu
            have HV2:=Lib.hid hval2
            have HVk:=Lib.hid hVk
            have HUd:=Lib.hid hUd
            have HX:=hx
            have hTs1:T.size≤9:=by omega
            have hUs1:U.size<R.size:=by omega
            have hUs2:U.size≤60001:=by omega
            clear hTl hUl hRl hTd hUd hda hval hval2 hVk hu hTs hUs hqe
            have hu2:(u:Int)<1000000000:=by omega
            go_wp2_with fail
            (with_reducible refine (hpu _).mono ?_)
            rintro e w5 ⟨rfl,g5⟩
            clear hpu
            go_wp2_with fail
            (with_reducible refine (scale_c mo ml mc (V:Int) x (u:Int) _ (by omega) (hm.kp g5.kp) (by omega) (by omega) (by omega) (by omega)).mono ?_)
            rintro e w6 ⟨⟨go,k6,c6,rfl,hm6,hk6⟩,g6⟩
            have hm7:Mag w6 go k6 c6 ((V*10 ^ j+u:Nat):Int):=by
              rw [HX.out] at hm6
              have e:((V*10 ^ j+u:Nat):Int)=(V:Int)*10 ^ j+(u:Int):=by push_cast;rfl
              rw [e];exact hm6
            have hk7:k6≤k:=hm7.nl.len_sz (show Sz k _ by unfold Sz;rw [Int.natAbs_natCast];exact HVk.out)
            clear hm6
            go_wp2
            go_roundw
            case rel=>exact ⟨U,V*10 ^ j+u,go,k6,c6,rfl,rfl,hk7,hUs2,⟨hm7,HUd.out,HV2.out⟩,(hG.trans g5).trans g6⟩
            case measure=>simp [strSize];omega
      · have hR0:R.size=0:=by omega
        obtain ⟨hm,hda,hval⟩:=hh.out
        have hVn:V=n:=by
          have h2:R.data.toList.length=R.size:=by simp
          have h1:R.data.toList=[]:=List.length_eq_zero_iff.1 (by rw [h2];exact hR0)
          rw [h1,hR0] at hval
          simpa [valL] using hval
        rw [hVn] at hm
        have HR0:=Lib.hid hR0
        clear hR0 hda hval hh hVn
        have p2:=Gr.heap hG (heap_alloc_new w (.cells #[.bool false,.slice none 0 0] 69))
        go_wp2_with fail
        (with_reducible refine (signed_c (decide (z<0)) mo ml mc (n:Int) _ (by omega) hm.cap hm.nl.nonneg hm.nl.top hm.row).mono ?_)
        rintro e w5 ⟨⟨k5,rfl,hm5,hk5⟩,g5⟩
        have p3:=Gr.heap g5 p2
        have d0:=cells_of p3 0
        have d1:=cells_of p3 1
        have d2:=free_of p3
        have gw3:Gr w w5:=(Gr.alloc w _).trans (hG.trans g5)
        have hint:=IsInt.mk' (z:=z) (s:=decide (z<0)) (k:=k) (hm5.gr g5) (by rw [HN.out]) (fun _=>rfl) hz
        obtain ⟨bb,hbb⟩:∃ bb,bb=(decide (z<0)&&decide (0<k5)):=⟨_,rfl⟩
        rw [← hbb] at hint ⊢
        clear hbb hm hm5 p2
        go_wp2
        have p4:=heap_setCell_at (i:=1) (.slice mo k5 mc) (heap_setCell_at (i:=0) (.bool bb) p3)
        have hst:=(St.setCell w5 w.heap.size 0 (.bool bb)).trans (St.setCell _ w.heap.size 1 (.slice mo k5 mc))
        exact bodyPost_ret (v:=.tuple #[.agg #[.bool bb,.slice mo k5 mc],.int .i64 0]) (ret_cell_tmp' _ _ _ rfl rfl p4 (by kernel_rfl) rfl) rfl ⟨⟨_,_,rfl,hint.kp (hst.kp p3 (by decide))⟩,hst.gr gw3 (Nat.le_refl _)⟩
theorem idx_slash:∀ (l:List UInt8),Lib.index l [47]=(match (cutL l).2 with | none=>-1 | some _=>((cutL l).1.length:Int))
  | []=>rfl
  | c::l=>by
    have ih:=idx_slash l
    unfold Lib.index
    by_cases h:c=47
    · subst h
      have e:cutL (47::l)=([],some l):=by simp [cutL]
      rw [e]
      simp [List.isPrefixOf]
    · have e:cutL (c::l)=(c::(cutL l).1,(cutL l).2):=by
        conv=>lhs;unfold cutL
        rw [if_neg h]
      have h2:¬ (47:UInt8)=c:=fun x=>h x.symm
      have h3:[47].isPrefixOf (c::l)=false:=by simp [List.isPrefixOf,h2]
      rw [e,h3,ih]
      cases hd:(cutL l).2 with
      | none=>simp
      | some d=>
        have:¬ (((cutL l).1.length:Int)==-1)=true:=by simp
        simp [this]
theorem cut_slash (l:List UInt8):Lib.cut l [47]=(numL l,((cutL l).2.getD [],(cutL l).2.isSome)):=by
  have h1:=idx_slash l
  have h2:=cutL_eq l
  unfold Lib.cut numL
  cases hd:(cutL l).2 with
  | none=>
    rw [hd] at h1 h2;dsimp only at h1 h2
    rw [h1,if_neg (by omega)]
    simp [← h2]
  | some d=>
    rw [hd] at h1 h2;dsimp only at h1 h2
    rw [h1,if_pos (Int.natCast_nonneg _)]
    generalize (cutL l).1=a at*
    subst h2
    simp
/-- the variable of the library's that says how long a short search is holds some int -/
def Mx (w:World):Prop:=∃ m:Int,w.cell? ⟨0,0,none⟩=some (.int .i64 m)
theorem Mx.gr {w w':World} (h:Mx w) (g:Gr w w'):Mx w':=by
  obtain ⟨m,hm⟩:=h
  exact ⟨m,(Below.cell g (World.block_lt_of_cell? w _ hm)).trans hm⟩
theorem cut_q (q:Rat) {k:Nat} (h1:Sz k q.num) (h2:Sz k (q.den:Int)) (hk:k≤400000) {w:World} (hm:Mx w):
    Calls Tryz.prog 125 #[.string ⟨(ratL q).toArray⟩,.string ⟨#[47]⟩] w fun e w'=>e=.returned (.tuple #[.string ⟨(Lib.itoa q.num).toArray⟩,.string ⟨(if q.den=1 then [] else Lib.itoa (q.den:Int)).toArray⟩,.bool (decide (q.den≠1))])∧Gr w w':=by
  obtain ⟨m,hm⟩:=hm
  have hl:=ratL_len h1 h2
  refine (Tryz.strings_Cut ⟨(ratL q).toArray⟩ ⟨#[47]⟩ m w (by show (ratL q).toArray.size<_;simp;omega) hm).mono ?_
  rintro e w1 ⟨he,n,rfl⟩
  refine ⟨?_,(Below.refl _ _).drewN _⟩
  rw [he]
  have e1:(⟨(ratL q).toArray⟩:ByteArray).data.toList=ratL q:=by simp
  rw [e1,show (⟨#[47]⟩:ByteArray).data.toList=[47] from rfl,cut_slash,numL_ratL,cutL_ratL]
  by_cases h:q.den=1<;>simp [h]
theorem trimprefix_minus (z:Int) (w:World):Calls Tryz.prog 127 #[.string ⟨(Lib.itoa z).toArray⟩,.string ⟨#[45]⟩] w fun e w'=>e=.returned (.string ⟨(Lib.decDigits z.natAbs).toArray⟩)∧Gr w w':=by
  refine (Tryz.strings_TrimPrefix _ _ _).mono ?_
  rintro e w1 ⟨he,rfl⟩
  refine ⟨?_,Gr.refl _⟩
  rw [he]
  show Ending.returned (.string ⟨(Lib.trimPrefix (Lib.itoa z) [45]).toArray⟩)=_
  by_cases h:z<0
  · have h1:Lib.hasPrefix (Lib.itoa z) [45]=true:=by rw [itoa_neg h];simp [Lib.hasPrefix]
    rw [Lib.trimPrefix,h1,if_pos rfl,itoa_neg h];rfl
  · have h1:Lib.hasPrefix (Lib.itoa z) [45]=false:=by
      rw [itoa_nonneg (by omega)]
      rcases hd:Lib.decDigits z.natAbs with _ | ⟨c,l⟩
      · rfl
      · have hc:=dec_all z.natAbs c (by rw [hd];simp)
        have hne:¬ (45:UInt8)=c:=fun e=>by rw [← e] at hc;simp at hc
        simp [Lib.hasPrefix,List.isPrefixOf,hne]
    rw [Lib.trimPrefix,h1,if_neg (by decide),itoa_nonneg (by omega)]
theorem trimS_all {l cs:List UInt8} (h:∀ c ∈ l,cs.contains c=true):Lib.trimS l cs=[]:=by
  have key:∀ {l:List UInt8},(∀ c ∈ l,cs.contains c=true)→l.dropWhile (cs.contains ·)=[]:=by
    intro l
    induction l with
    | nil=>intro _;rfl
    | cons c l ih=>intro h;rw [List.dropWhile_cons,if_pos (h c (by simp))];exact ih (fun x hx=>h x (by simp [hx]))
  unfold Lib.trimS Lib.trimRightS Lib.trimLeftS
  rw [key (l:=l.reverse) (fun c hc=>h c (by simpa using hc))]
  rfl
theorem digit_in {c:UInt8} (h:48≤c.toNat∧c.toNat≤57):[48,49,50,51,52,53,54,55,56,57].contains c=true:=by
  have:c=48∨c=49∨c=50∨c=51∨c=52∨c=53∨c=54∨c=55∨c=56∨c=57:=by
    simp only [← UInt8.toNat_inj]
    simp
    omega
  rcases this with rfl | rfl | rfl | rfl | rfl | rfl | rfl | rfl | rfl | rfl<;>decide
theorem trim_digits (n:Nat) (hn:(Lib.decDigits n).length≤1000000) (w:World):
    Calls Tryz.prog 128 #[.string ⟨(Lib.decDigits n).toArray⟩,.string ⟨#[48,49,50,51,52,53,54,55,56,57]⟩] w fun e w'=>e=.returned (.string ⟨#[]⟩)∧Gr w w':=by
  refine (Any.strings_Trim_laid Tryz.lays160 (by kernel_rfl) ⟨(Lib.decDigits n).toArray⟩ ⟨#[48,49,50,51,52,53,54,55,56,57]⟩ w (by show (Lib.decDigits n).toArray.size≤_;simp;omega) (by decide) (ascii_of_all (by decide))).mono ?_
  rintro e w1 ⟨he,g⟩
  refine ⟨?_,g⟩
  rw [he,trimS_all (l:=(⟨(Lib.decDigits n).toArray⟩:ByteArray).data.toList) (fun c hc=>digit_in (dec_all n c (by simpa using hc)))]
set_option maxHeartbeats 1000000 in
theorem rdigits_t (n:Nat) (hn:(Lib.decDigits n).length≤1000000) (w:World):
    Calls Tryz.prog 126 #[.string ⟨(Lib.decDigits n).toArray⟩] w fun e w'=>e=.returned (.bool true)∧Gr w w':=by
  obtain ⟨D,hD⟩:∃ D:ByteArray,D=⟨(Lib.decDigits n).toArray⟩:=⟨_,rfl⟩
  have hc:=trim_digits n hn
  have hne:(D.toList==[])=false:=by
    rw [beq_eq_false_iff_ne,ByteArray.toList_eq,hD]
    simpa using dec_ne' n
  rw [← hD] at hc ⊢
  clear hD
  go_enter Tryz.func126,Tryz.ntmps126
  go_wp2_with fail
  (with_reducible refine (hc _).mono ?_)
  rintro e w1 ⟨rfl,g1⟩
  clear hc
  go_wp2
  go_ret
  exact ⟨rfl,g1⟩
theorem drop_mem {p:UInt8→Bool}:∀ {l:List UInt8} {c:UInt8},c ∈ l→p c=false→c ∈ l.dropWhile p
  | [],_,h,_=>by cases h
  | x::l,c,h,hc=>by
    rw [List.dropWhile_cons]
    by_cases hx:p x=true
    · rw [if_pos hx]
      rcases List.mem_cons.1 h with e | h
      · rw [e,hx] at hc;cases hc
      · exact drop_mem h hc
    · rw [if_neg hx];exact h
theorem trimS_some {l cs:List UInt8} {c:UInt8} (h:c ∈ l) (hc:cs.contains c=false):Lib.trimS l cs≠[]:=by
  have h1:c ∈ Lib.trimRightS l cs:=by
    unfold Lib.trimRightS
    rw [List.mem_reverse]
    exact drop_mem (by simpa using h) hc
  exact fun e=>by have:=drop_mem (p:=(cs.contains ·)) h1 hc;unfold Lib.trimS Lib.trimLeftS at e;rw [e] at this;cases this
theorem trim_zero (d:Nat) (hd:0<d) (hn:(Lib.decDigits d).length≤1000000) (w:World):
    Calls Tryz.prog 128 #[.string ⟨(Lib.decDigits d).toArray⟩,.string ⟨#[48]⟩] w fun e w'=>(∃ L:List UInt8,e=.returned (.string ⟨L.toArray⟩)∧L≠[])∧Gr w w':=by
  refine (Any.strings_Trim_laid Tryz.lays160 (by kernel_rfl) ⟨(Lib.decDigits d).toArray⟩ ⟨#[48]⟩ w (by show (Lib.decDigits d).toArray.size≤_;simp;omega) (by decide) (ascii_of_all (by decide))).mono ?_
  rintro e w1 ⟨he,g⟩
  obtain ⟨c,hc,h1,_⟩:=dec_head hd
  refine ⟨⟨_,he,trimS_some (c:=c) (by simpa using List.mem_of_getElem? hc) ?_⟩,g⟩
  have:¬ c=48:=fun e=>by rw [e] at h1;simp at h1
  simp [this]
theorem cut_w (q:Rat) {k:Nat} (h1:Sz k q.num) (h2:Sz k (q.den:Int)) (hk:k≤400000) (hw:q.den=1) {w:World} (hm:Mx w):
    Calls Tryz.prog 125 #[.string ⟨(ratL q).toArray⟩,.string ⟨#[47]⟩] w fun e w'=>e=.returned (.tuple #[.string ⟨(Lib.itoa q.num).toArray⟩,.string ⟨([]:List UInt8).toArray⟩,.bool false])∧Gr w w':=by
  have:=cut_q q h1 h2 hk hm
  rw [if_pos hw,show decide (q.den≠1)=false by simp [hw]] at this
  exact this
theorem cut_f (q:Rat) {k:Nat} (h1:Sz k q.num) (h2:Sz k (q.den:Int)) (hk:k≤400000) (hw:¬ q.den=1) {w:World} (hm:Mx w):
    Calls Tryz.prog 125 #[.string ⟨(ratL q).toArray⟩,.string ⟨#[47]⟩] w fun e w'=>e=.returned (.tuple #[.string ⟨(Lib.itoa q.num).toArray⟩,.string ⟨(Lib.itoa (q.den:Int)).toArray⟩,.bool true])∧Gr w w':=by
  have:=cut_q q h1 h2 hk hm
  rw [if_neg hw,show decide (q.den≠1)=true by simp [hw]] at this
  exact this
theorem rdigits_n {k:Nat} (z:Int) (h:Sz k z) (hk:k≤400000) (w:World):
    Calls Tryz.prog 126 #[.string ⟨(Lib.decDigits z.natAbs).toArray⟩] w fun e w'=>e=.returned (.bool true)∧Gr w w':=
  rdigits_t _ (by have:=dec_len_sz h;omega) w
theorem rdigits_d {k:Nat} (d:Nat) (h:Sz k (d:Int)) (hk:k≤400000) (w:World):
    Calls Tryz.prog 126 #[.string ⟨(Lib.itoa (d:Int)).toArray⟩] w fun e w'=>e=.returned (.bool true)∧Gr w w':=by
  have:=rdigits_n (d:Int) h hk w
  rw [← itoa_nonneg (by omega)] at this
  exact this
theorem trim_zero_d {k:Nat} (d:Nat) (h:Sz k (d:Int)) (hd:0<d) (hk:k≤400000) (w:World):
    Calls Tryz.prog 128 #[.string ⟨(Lib.itoa (d:Int)).toArray⟩,.string ⟨#[48]⟩] w fun e w'=>(∃ L:List UInt8,e=.returned (.string ⟨L.toArray⟩)∧(L==[])=false)∧Gr w w':=by
  have:=trim_zero d hd (by have:=dec_len_sz h;rw [Int.natAbs_natCast] at this;omega) w
  rw [itoa_nonneg (by omega),Int.natAbs_natCast]
  refine this.mono ?_
  rintro e w1 ⟨⟨L,he,hL⟩,g⟩
  exact ⟨⟨L,he,beq_eq_false_iff_ne.2 hL⟩,g⟩
theorem isRat_parts {w:World} {k:Nat} {x y x2 y2:Value} {q:Rat} (h1:IsInt w k x y q.num) (h2:IsInt w k x2 y2 (q.den:Int)) (h3:64≤k):IsRat w k x y x2 y2 q:=⟨h1,⟨_,h2,.inl rfl⟩,h3⟩
theorem rat_coprime (q:Rat):(Int.gcd q.num (q.den:Int):Int)=1:=by
  have:=q.reduced
  show ((Nat.gcd q.num.natAbs (q.den:Int).natAbs:Nat):Int)=1
  rw [Int.natAbs_natCast]
  have h:Nat.gcd q.num.natAbs q.den=1:=this
  rw [h];rfl
set_option maxRecDepth 100000 in
set_option maxHeartbeats 1000000 in
theorem read_w {k:Nat} (q:Rat) (hq:Sz k q.num∧Sz k (q.den:Int)) (_hk:k≤20000) (h64:64≤k) (most:Int) (_hlong:((ratL q).length:Int)≤most) (w:World) (hm:Mx w) (hw:q.den=1):
    Calls Tryz.prog 99 #[(.string ⟨(ratL (q):List UInt8).toArray⟩),(.int .i64 (most))] w fun e w'=>(∃ c0 c1 c2 c3,e=.returned (.tuple #[.agg #[c0,c1,c2,c3],.int .i64 0])∧IsRat w' k c0 c1 c2 c3 q)∧Gr w w':=by
 have hl:decide (most<((ratL q).length:Int))=false:=by simp;omega
 go_enter Tryz.func99,Tryz.ntmps99
 have hB:=Gr.refl w
 refine wp_seq_k (fun K1 k1=>?_)
 refine rg [0,1] ?_
 refine se ?_
 refine ea 71 #[(.bool false),(.slice none 0 0),(.bool false),(.slice none 0 0)] 4 hB fun b2 w2 g2 L2 o2 q2 hB=>?_
 simp only [p3,p4]
 refine sv 5 (.int .i64 0) ?_
 refine sq_nil ?_
 refine k1 _ _ ?_
 try clear k1 K1
 refine wp_seq_k (fun K3 k3=>?_)
 refine rg [0,1] ?_
 refine sv 13 (.string ⟨(ratL (q):List UInt8).toArray⟩) ?_
 refine sv 6 (.string ⟨(ratL (q):List UInt8).toArray⟩) ?_
 refine sq_nil ?_
 refine k3 _ _ ?_
 try clear k3 K3
 refine wp_seq_k (fun K4 k4=>?_)
 refine rg [0,1,2,3,4,5,6,7,8] ?_
 refine sv 15 (.string ⟨(ratL (q):List UInt8).toArray⟩) ?_
 refine se ?_
 refine ec 16 (cut_w q hq.1 hq.2 (by omega) hw (hm.gr hB)) ?_
 rintro e5 w5 ⟨rfl,g5⟩
 refine ⟨_,rfl,?_⟩
 replace hB:=hB.trans g5
 simp only [p3,p4]
 refine sv 14 (.tuple #[(.string ⟨(Lib.itoa (q.num):List UInt8).toArray⟩),(.string ⟨([]:List UInt8).toArray⟩),(.bool false)]) ?_
 refine sv 17 (.string ⟨(Lib.itoa (q.num):List UInt8).toArray⟩) ?_
 refine sv 18 (.string ⟨([]:List UInt8).toArray⟩) ?_
 refine sv 19 (.bool false) ?_
 refine sv 7 (.string ⟨(Lib.itoa (q.num):List UInt8).toArray⟩) ?_
 refine sv 8 (.string ⟨([]:List UInt8).toArray⟩) ?_
 refine sv 9 (.bool false) ?_
 refine sq_nil ?_
 refine k4 _ _ ?_
 try clear k4 K4
 refine wp_seq_k (fun K6 k6=>?_)
 refine wp_block ?_
 refine wp_seq_k (fun K7 k7=>?_)
 refine rg [0,1,2,3,4] ?_
 refine sv 21 (.string ⟨(ratL (q):List UInt8).toArray⟩) ?_
 refine sv 22 (.int .i64 (((ratL (q)).length:Int))) ?_
 refine sv 23 (.int .i64 (most)) ?_
 refine sw 24 (.bool false) rfl (RunV.bool (x:=decide (most<((ratL (q)).length:Int))) (rvk (by kernel_rfl)) hl) ?_
 refine sv 20 (.bool false) ?_
 refine sq_nil ?_
 refine k7 _ _ ?_
 try clear k7 K7
 refine wp_cond_false rfl ?_
 refine wp_seq_k (fun K8 k8=>?_)
 refine rg [0,1,2,3,4,5,6,7,8,9,10,11,12] ?_
 refine sv 27 (.string ⟨(Lib.itoa (q.num):List UInt8).toArray⟩) ?_
 refine se ?_
 refine ec 28 (trimprefix_minus (q.num) _) ?_
 rintro e9 w9 ⟨rfl,g9⟩
 refine ⟨_,rfl,?_⟩
 replace hB:=hB.trans g9
 simp only [p3,p4]
 refine se ?_
 refine ec 29 (rdigits_n q.num hq.1 (by omega) _) ?_
 rintro e10 w10 ⟨rfl,g10⟩
 refine ⟨_,rfl,?_⟩
 replace hB:=hB.trans g10
 simp only [p3,p4]
 refine sv 30 (.bool false) ?_
 refine sv 31 (.bool false) ?_
 refine sv 32 (.bool false) ?_
 refine sv 33 (.bool false) ?_
 refine ss 34 ?_
 refine ss 35 ?_
 refine ss 36 ?_
 refine sv 37 (.bool false) ?_
 refine sv 38 (.bool false) ?_
 refine sv 26 (.bool false) ?_
 refine sq_nil ?_
 refine k8 _ _ ?_
 try clear k8 K8
 refine wp_cond_false rfl ?_
 refine wp_seq_k (fun K11 k11=>?_)
 refine rg [0,1,2,3,4,5,6] ?_
 refine sv 41 (.bool false) ?_
 refine sv 42 (.bool false) ?_
 refine ss 43 ?_
 refine ss 44 ?_
 refine ss 45 ?_
 refine sv 46 (.bool false) ?_
 refine sv 40 (.bool false) ?_
 refine sq_nil ?_
 refine k11 _ _ ?_
 try clear k11 K11
 refine wp_cond_false rfl ?_
 refine wp_skip ?_
 refine k6 _ _ ?_
 try clear k6 K6
 refine wp_seq_k (fun K12 k12=>?_)
 refine rg [0,1,2,3,4,5,6,7] ?_
 refine sv 49 (.string ⟨(Lib.itoa (q.num):List UInt8).toArray⟩) ?_
 refine se ?_
 refine ec 50 (parse_i (q.num) hq.1 (by omega) _) ?_
 rintro e13 w13 ⟨⟨x13,y13,rfl,h13⟩,g13⟩
 refine ⟨_,rfl,?_⟩
 replace hB:=hB.trans g13
 simp only [p3,p4]
 refine sv 48 (.tuple #[(.agg #[x13,y13]),(.int .i64 0)]) ?_
 refine sv 51 (.agg #[x13,y13]) ?_
 refine sv 52 (.int .i64 0) ?_
 refine se ?_
 refine ea 69 #[(.bool false),(.slice none 0 0)] 10 hB fun b14 w14 g14 L14 o14 q14 hB=>?_
 replace L2:=L2.gr (g5.trans (g9.trans (g10.trans g13)))
 have ne2_14:=L2.ne o14
 simp only [p3,p4]
 refine se ?_
 refine es 69 0 (.agg #[x13,y13]) [x13,y13] #[x13,y13] L14 hB q14 ⟨h13.one0,h13.one1,trivial⟩ fun w15 st15 kp15 L14 hB=>?_
 refine sv 11 (.int .i64 0) ?_
 refine sq_nil ?_
 refine k12 _ _ ?_
 try clear k12 K12
 refine wp_seq_k (fun K16 k16=>?_)
 refine wp_seq_k (fun K17 k17=>?_)
 refine rg [0,1] ?_
 refine sv 53 (.int .i64 0) ?_
 refine sv 54 (.bool false) ?_
 refine sq_nil ?_
 refine k17 _ _ ?_
 try clear k17 K17
 refine wp_cond_false rfl ?_
 refine wp_skip ?_
 refine k16 _ _ ?_
 try clear k16 K16
 refine wp_seq_k (fun K18 k18=>?_)
 refine wp_seq_k (fun K19 k19=>?_)
 refine rg [0,1] ?_
 refine sv 56 (.bool false) ?_
 refine sv 57 (.bool true) ?_
 refine sq_nil ?_
 refine k19 _ _ ?_
 try clear k19 K19
 refine wp_cond_true rfl ?_
 refine wp_seq_k (fun K20 k20=>?_)
 refine rg [0,1,2,3] ?_
 refine sw 58 (.agg #[x13,y13]) rfl (rl 69 0 [x13,y13] L14) ?_
 refine sv 59 (.agg #[x13,y13,(.bool false),(.slice none 0 0)]) ?_
 refine se ?_
 replace L2:=st15.lc (L2.gr g14) ne2_14
 refine es 71 0 (.agg #[x13,y13,(.bool false),(.slice none 0 0)]) [x13,y13,(.bool false),(.slice none 0 0)] #[x13,y13,(.bool false),(.slice none 0 0)] L2 hB q2 ⟨h13.one0,h13.one1,rfl,rfl,trivial⟩ fun w21 st21 kp21 L2 hB=>?_
 refine sv 5 (.int .i64 0) ?_
 refine sq_nil ?_
 refine k20 _ _ ?_
 try clear k20 K20
 refine wp_ret ?_
 simp only [Exit.then]
 refine bodyPost_ret (v:=(.tuple #[(.agg #[x13,y13,(.bool false),(.slice none 0 0)]),(.int .i64 0)])) (ret_cell_tmp' _ _ _ rfl rfl L2 (by kernel_rfl) rfl) rfl ⟨?_,hB⟩
 have kq22:=g14.kp.trans (kp15.trans kp21)
 replace h13:=h13.kp kq22
 exact ⟨_,_,_,_,rfl,by have:=IsRat.int h13 h64;rw [rat_int hw] at this;exact this⟩

set_option maxRecDepth 100000 in
set_option maxHeartbeats 1000000 in
theorem read_f {k:Nat} (q:Rat) (hq:Sz k q.num∧Sz k (q.den:Int)) (_hk:k≤20000) (h64:64≤k) (most:Int) (_hlong:((ratL q).length:Int)≤most) (w:World) (hm:Mx w) (hw:¬ q.den=1):
    Calls Tryz.prog 99 #[(.string ⟨(ratL (q):List UInt8).toArray⟩),(.int .i64 (most))] w fun e w'=>(∃ c0 c1 c2 c3,e=.returned (.tuple #[.agg #[c0,c1,c2,c3],.int .i64 0])∧IsRat w' k c0 c1 c2 c3 q)∧Gr w w':=by
 have hl:decide (most<((ratL q).length:Int))=false:=by simp;omega
 have h1:(sgn ((q.den:Int) - 1)==(0:Int))=false:=by rw [beq_eq_false_iff_ne];exact fun e=>hw (by have:=sgn_eq_zero.1 e;omega)
 have h2:(sgn ((Int.gcd (q.num) ((q.den:Int)):Int) - 1) !=(0:Int))=false:=by rw [rat_coprime];rfl
 go_enter Tryz.func99,Tryz.ntmps99
 have hB:=Gr.refl w
 refine wp_seq_k (fun K1 k1=>?_)
 refine rg [0,1] ?_
 refine se ?_
 refine ea 71 #[(.bool false),(.slice none 0 0),(.bool false),(.slice none 0 0)] 4 hB fun b2 w2 g2 L2 o2 q2 hB=>?_
 simp only [p3,p4]
 refine sv 5 (.int .i64 0) ?_
 refine sq_nil ?_
 refine k1 _ _ ?_
 try clear k1 K1
 refine wp_seq_k (fun K3 k3=>?_)
 refine rg [0,1] ?_
 refine sv 13 (.string ⟨(ratL (q):List UInt8).toArray⟩) ?_
 refine sv 6 (.string ⟨(ratL (q):List UInt8).toArray⟩) ?_
 refine sq_nil ?_
 refine k3 _ _ ?_
 try clear k3 K3
 refine wp_seq_k (fun K4 k4=>?_)
 refine rg [0,1,2,3,4,5,6,7,8] ?_
 refine sv 15 (.string ⟨(ratL (q):List UInt8).toArray⟩) ?_
 refine se ?_
 refine ec 16 (cut_f q hq.1 hq.2 (by omega) hw (hm.gr hB)) ?_
 rintro e5 w5 ⟨rfl,g5⟩
 refine ⟨_,rfl,?_⟩
 replace hB:=hB.trans g5
 simp only [p3,p4]
 refine sv 14 (.tuple #[(.string ⟨(Lib.itoa (q.num):List UInt8).toArray⟩),(.string ⟨(Lib.itoa ((q.den:Int)):List UInt8).toArray⟩),(.bool true)]) ?_
 refine sv 17 (.string ⟨(Lib.itoa (q.num):List UInt8).toArray⟩) ?_
 refine sv 18 (.string ⟨(Lib.itoa ((q.den:Int)):List UInt8).toArray⟩) ?_
 refine sv 19 (.bool true) ?_
 refine sv 7 (.string ⟨(Lib.itoa (q.num):List UInt8).toArray⟩) ?_
 refine sv 8 (.string ⟨(Lib.itoa ((q.den:Int)):List UInt8).toArray⟩) ?_
 refine sv 9 (.bool true) ?_
 refine sq_nil ?_
 refine k4 _ _ ?_
 try clear k4 K4
 refine wp_seq_k (fun K6 k6=>?_)
 refine wp_block ?_
 refine wp_seq_k (fun K7 k7=>?_)
 refine rg [0,1,2,3,4] ?_
 refine sv 21 (.string ⟨(ratL (q):List UInt8).toArray⟩) ?_
 refine sv 22 (.int .i64 (((ratL (q)).length:Int))) ?_
 refine sv 23 (.int .i64 (most)) ?_
 refine sw 24 (.bool false) rfl (RunV.bool (x:=decide (most<((ratL (q)).length:Int))) (rvk (by kernel_rfl)) hl) ?_
 refine sv 20 (.bool false) ?_
 refine sq_nil ?_
 refine k7 _ _ ?_
 try clear k7 K7
 refine wp_cond_false rfl ?_
 refine wp_seq_k (fun K8 k8=>?_)
 refine rg [0,1,2,3,4,5,6,7,8,9,10,11,12] ?_
 refine sv 27 (.string ⟨(Lib.itoa (q.num):List UInt8).toArray⟩) ?_
 refine se ?_
 refine ec 28 (trimprefix_minus (q.num) _) ?_
 rintro e9 w9 ⟨rfl,g9⟩
 refine ⟨_,rfl,?_⟩
 replace hB:=hB.trans g9
 simp only [p3,p4]
 refine se ?_
 refine ec 29 (rdigits_n q.num hq.1 (by omega) _) ?_
 rintro e10 w10 ⟨rfl,g10⟩
 refine ⟨_,rfl,?_⟩
 replace hB:=hB.trans g10
 simp only [p3,p4]
 refine sv 30 (.bool false) ?_
 refine sv 31 (.bool false) ?_
 refine sv 32 (.bool true) ?_
 refine sv 33 (.bool true) ?_
 refine sv 34 (.string ⟨(Lib.itoa ((q.den:Int)):List UInt8).toArray⟩) ?_
 refine se ?_
 refine ec 35 (rdigits_d q.den hq.2 (by omega) _) ?_
 rintro e11 w11 ⟨rfl,g11⟩
 refine ⟨_,rfl,?_⟩
 replace hB:=hB.trans g11
 simp only [p3,p4]
 refine sv 36 (.bool false) ?_
 refine sv 37 (.bool false) ?_
 refine sv 38 (.bool false) ?_
 refine sv 26 (.bool false) ?_
 refine sq_nil ?_
 refine k8 _ _ ?_
 try clear k8 K8
 refine wp_cond_false rfl ?_
 refine wp_seq_k (fun K12 k12=>?_)
 refine rg [0,1,2,3,4,5,6] ?_
 refine sv 41 (.bool true) ?_
 refine sv 42 (.bool true) ?_
 refine sv 43 (.string ⟨(Lib.itoa ((q.den:Int)):List UInt8).toArray⟩) ?_
 refine se ?_
 refine ec 44 (trim_zero_d q.den hq.2 q.den_pos (by omega) _) ?_
 rintro e13 w13 ⟨⟨L13,rfl,hL13⟩,g13⟩
 refine ⟨_,rfl,?_⟩
 replace hB:=hB.trans g13
 simp only [p3,p4]
 refine sw 45 (.bool false) rfl (RunV.bool (x:=((L13)==([]:List UInt8))) (rv_seq 9 9 _ _ (L13) ([]) rfl rfl rfl) hL13) ?_
 refine sv 46 (.bool false) ?_
 refine sv 40 (.bool false) ?_
 refine sq_nil ?_
 refine k12 _ _ ?_
 try clear k12 K12
 refine wp_cond_false rfl ?_
 refine wp_skip ?_
 refine k6 _ _ ?_
 try clear k6 K6
 refine wp_seq_k (fun K14 k14=>?_)
 refine rg [0,1,2,3,4,5,6,7] ?_
 refine sv 49 (.string ⟨(Lib.itoa (q.num):List UInt8).toArray⟩) ?_
 refine se ?_
 refine ec 50 (parse_i (q.num) hq.1 (by omega) _) ?_
 rintro e15 w15 ⟨⟨x15,y15,rfl,h15⟩,g15⟩
 refine ⟨_,rfl,?_⟩
 replace hB:=hB.trans g15
 simp only [p3,p4]
 refine sv 48 (.tuple #[(.agg #[x15,y15]),(.int .i64 0)]) ?_
 refine sv 51 (.agg #[x15,y15]) ?_
 refine sv 52 (.int .i64 0) ?_
 refine se ?_
 refine ea 69 #[(.bool false),(.slice none 0 0)] 10 hB fun b16 w16 g16 L16 o16 q16 hB=>?_
 replace L2:=L2.gr (g5.trans (g9.trans (g10.trans (g11.trans (g13.trans g15)))))
 have ne2_16:=L2.ne o16
 simp only [p3,p4]
 refine se ?_
 refine es 69 0 (.agg #[x15,y15]) [x15,y15] #[x15,y15] L16 hB q16 ⟨h15.one0,h15.one1,trivial⟩ fun w17 st17 kp17 L16 hB=>?_
 refine sv 11 (.int .i64 0) ?_
 refine sq_nil ?_
 refine k14 _ _ ?_
 try clear k14 K14
 refine wp_seq_k (fun K18 k18=>?_)
 refine wp_seq_k (fun K19 k19=>?_)
 refine rg [0,1] ?_
 refine sv 53 (.int .i64 0) ?_
 refine sv 54 (.bool false) ?_
 refine sq_nil ?_
 refine k19 _ _ ?_
 try clear k19 K19
 refine wp_cond_false rfl ?_
 refine wp_skip ?_
 refine k18 _ _ ?_
 try clear k18 K18
 refine wp_seq_k (fun K20 k20=>?_)
 refine wp_seq_k (fun K21 k21=>?_)
 refine rg [0,1] ?_
 refine sv 56 (.bool true) ?_
 refine sv 57 (.bool false) ?_
 refine sq_nil ?_
 refine k21 _ _ ?_
 try clear k21 K21
 refine wp_cond_false rfl ?_
 refine wp_skip ?_
 refine k20 _ _ ?_
 try clear k20 K20
 refine wp_seq_k (fun K22 k22=>?_)
 refine rg [0,1,2,3,4,5,6,7] ?_
 refine sv 61 (.string ⟨(Lib.itoa ((q.den:Int)):List UInt8).toArray⟩) ?_
 refine se ?_
 refine ec 62 (parse_i ((q.den:Int)) hq.2 (by omega) _) ?_
 rintro e23 w23 ⟨⟨x23,y23,rfl,h23⟩,g23⟩
 refine ⟨_,rfl,?_⟩
 replace hB:=hB.trans g23
 simp only [p3,p4]
 refine sv 60 (.tuple #[(.agg #[x23,y23]),(.int .i64 0)]) ?_
 refine sv 63 (.agg #[x23,y23]) ?_
 refine sv 64 (.int .i64 0) ?_
 refine se ?_
 refine ea 69 #[(.bool false),(.slice none 0 0)] 12 hB fun b24 w24 g24 L24 o24 q24 hB=>?_
 replace L2:=(st17.lc (L2.gr g16) ne2_16).gr g23
 have ne2_24:=L2.ne o24
 replace L16:=L16.gr g23
 have ne16_24:=L16.ne o24
 simp only [p3,p4]
 refine se ?_
 refine es 69 0 (.agg #[x23,y23]) [x23,y23] #[x23,y23] L24 hB q24 ⟨h23.one0,h23.one1,trivial⟩ fun w25 st25 kp25 L24 hB=>?_
 refine sv 11 (.int .i64 0) ?_
 refine sq_nil ?_
 refine k22 _ _ ?_
 try clear k22 K22
 refine wp_seq_k (fun K26 k26=>?_)
 refine wp_seq_k (fun K27 k27=>?_)
 have gd41:=Gr.drew w25
 replace hB:=hB.trans gd41
 replace L16:=(st25.lc (L16.gr g24) ne16_24).gr gd41
 replace L24:=L24.gr gd41
 refine wp_region_ord (fun w'=>Lc w' b16 #[x15,y15] 69∧Lc w' b24 #[x23,y23] 69) [(true,0),(true,1),(true,2),(true,3),(false,4),(false,5),(true,6),(true,7),(true,8),(true,9),(true,10),(false,11),(false,12),(false,13),(true,14),(true,15)] (by kernel_rfl) (by kernel_rfl) (by kernel_rfl) (by decide) (fun _ _ _ _ _ h=>h) ⟨L16,L24⟩ ?_
 refine ov 65 (.int .i64 0) ?_
 refine ov 66 (.bool false) ?_
 refine ov 67 (.bool false) ?_
 refine ow 68 (.agg #[x23,y23]) rfl (fun w' hS=>(rl 69 0 [x23,y23] hS.2)) ?_
 refine oe ?_
 refine ec 69 (one_i _) ?_
 rintro e43 w43 ⟨⟨x43,y43,rfl,h43⟩,g43⟩
 refine ⟨_,rfl,?_⟩
 replace hB:=hB.trans g43
 replace L16:=L16.gr g43
 replace L24:=L24.gr g43
 refine ⟨⟨L16,L24⟩,?_⟩
 simp only [p3,p4]
 refine oe ?_
 have kq46:=g24.kp.trans (kp25.trans (gd41.kp.trans g43.kp))
 replace h23:=h23.kp kq46
 refine ec 70 (compare_i h23 h43 (by omega) (by omega)) ?_
 rintro e45 w45 ⟨rfl,g45⟩
 refine ⟨_,rfl,?_⟩
 replace hB:=hB.trans g45
 replace L16:=L16.gr g45
 replace L24:=L24.gr g45
 refine ⟨⟨L16,L24⟩,?_⟩
 simp only [p3,p4]
 refine ow 71 (.bool false) rfl (fun w' hS=>(RunV.bool (x:=(sgn ((q.den:Int) - 1)==(0:Int))) (rvk (by kernel_rfl)) h1)) ?_
 refine ov 72 (.bool false) ?_
 refine ov 73 (.bool false) ?_
 refine ow 74 (.agg #[x15,y15]) rfl (fun w' hS=>(rl 69 0 [x15,y15] hS.1)) ?_
 refine ow 75 (.agg #[x23,y23]) rfl (fun w' hS=>(rl 69 0 [x23,y23] hS.2)) ?_
 refine oe ?_
 have kq49:=g16.kp.trans (kp17.trans (g23.kp.trans (g24.kp.trans (kp25.trans (gd41.kp.trans (g43.kp.trans g45.kp))))))
 replace h15:=h15.kp kq49
 replace h23:=h23.kp g45.kp
 refine ec 76 (gcd_i h15 h23 (by omega)) ?_
 rintro e48 w48 ⟨⟨x48,y48,rfl,h48⟩,g48⟩
 refine ⟨_,rfl,?_⟩
 replace hB:=hB.trans g48
 replace L16:=L16.gr g48
 replace L24:=L24.gr g48
 refine ⟨⟨L16,L24⟩,?_⟩
 simp only [p3,p4]
 refine oe ?_
 refine ec 77 (one_i _) ?_
 rintro e51 w51 ⟨⟨x51,y51,rfl,h51⟩,g51⟩
 refine ⟨_,rfl,?_⟩
 replace hB:=hB.trans g51
 replace L16:=L16.gr g51
 replace L24:=L24.gr g51
 refine ⟨⟨L16,L24⟩,?_⟩
 simp only [p3,p4]
 refine oe ?_
 replace h48:=h48.kp g51.kp
 refine ec 78 (compare_i h48 h51 (by omega) (by omega)) ?_
 rintro e53 w53 ⟨rfl,g53⟩
 refine ⟨_,rfl,?_⟩
 replace hB:=hB.trans g53
 replace L16:=L16.gr g53
 replace L24:=L24.gr g53
 refine ⟨⟨L16,L24⟩,?_⟩
 simp only [p3,p4]
 refine ow 79 (.bool false) rfl (fun w' hS=>(RunV.bool (x:=(sgn ((Int.gcd (q.num) ((q.den:Int)):Int) - 1) !=(0:Int))) (rvk (by kernel_rfl)) h2)) ?_
 refine ov 80 (.bool false) ?_
 refine ord_nil ?_
 refine k27 _ _ ?_
 try clear k27 K27
 refine wp_cond_false rfl ?_
 refine wp_skip ?_
 refine k26 _ _ ?_
 try clear k26 K26
 refine wp_seq_k (fun K54 k54=>?_)
 refine rg [0,1,2,3,4] ?_
 refine sw 82 (.agg #[x15,y15]) rfl (rl 69 0 [x15,y15] L16) ?_
 refine sw 83 (.agg #[x23,y23]) rfl (rl 69 0 [x23,y23] L24) ?_
 refine sv 84 (.agg #[x15,y15,x23,y23]) ?_
 refine se ?_
 replace L2:=(st25.lc (L2.gr g24) ne2_24).gr (gd41.trans (g43.trans (g45.trans (g48.trans (g51.trans g53)))))
 refine es 71 0 (.agg #[x15,y15,x23,y23]) [x15,y15,x23,y23] #[x15,y15,x23,y23] L2 hB q2 ⟨h15.one0,h15.one1,h23.one0,h23.one1,trivial⟩ fun w55 st55 kp55 L2 hB=>?_
 refine sv 5 (.int .i64 0) ?_
 refine sq_nil ?_
 refine k54 _ _ ?_
 try clear k54 K54
 refine wp_ret ?_
 refine bodyPost_ret (v:=(.tuple #[(.agg #[x15,y15,x23,y23]),(.int .i64 0)])) (ret_cell_tmp' _ _ _ rfl rfl L2 (by kernel_rfl) rfl) rfl ⟨?_,hB⟩
 have kq56:=g48.kp.trans (g51.kp.trans (g53.kp.trans kp55))
 replace h15:=h15.kp kq56
 replace h23:=h23.kp kq56
 exact ⟨_,_,_,_,rfl,isRat_parts h15 h23 h64⟩

theorem read_q {k:Nat} (q:Rat) (hq:Sz k q.num∧Sz k (q.den:Int)) (hk:k≤20000) (h64:64≤k) (most:Int) (hlong:((ratL q).length:Int)≤most) (w:World) (hm:Mx w):
    Calls Tryz.prog 99 #[(.string ⟨(ratL (q):List UInt8).toArray⟩),(.int .i64 (most))] w fun e w'=>(∃ c0 c1 c2 c3,e=.returned (.tuple #[.agg #[c0,c1,c2,c3],.int .i64 0])∧IsRat w' k c0 c1 c2 c3 q)∧Gr w w':=by
  by_cases hw:q.den=1
  · exact read_w q hq hk h64 most hlong w hm hw
  · exact read_f q hq hk h64 most hlong w hm hw

set_option maxRecDepth 100000 in
set_option maxHeartbeats 1000000 in
theorem parse_q {k:Nat} (q:Rat) (hq:Sz k q.num∧Sz k (q.den:Int)) (hk:k≤20000) (h64:64≤k) (_hlong:((ratL q).length:Int)≤400) (w:World) (hm:Mx w):
    Calls Tryz.prog 71 #[(.string ⟨(ratL (q):List UInt8).toArray⟩)] w fun e w'=>(∃ c0 c1 c2 c3,e=.returned (.tuple #[.agg #[c0,c1,c2,c3],.int .i64 0])∧IsRat w' k c0 c1 c2 c3 q)∧Gr w w':=by
 go_enter Tryz.func71,Tryz.ntmps71
 have hB:=Gr.refl w
 refine wp_seq_k (fun K1 k1=>?_)
 refine rg [0,1] ?_
 refine se ?_
 refine ea 71 #[(.bool false),(.slice none 0 0),(.bool false),(.slice none 0 0)] 2 hB fun b2 w2 g2 L2 o2 q2 hB=>?_
 simp only [p3,p4]
 refine sv 3 (.int .i64 0) ?_
 refine sq_nil ?_
 refine k1 _ _ ?_
 try clear k1 K1
 refine wp_seq_k (fun K3 k3=>?_)
 refine rg [0,1,2,3,4,5] ?_
 refine sv 4 (.string ⟨(ratL (q):List UInt8).toArray⟩) ?_
 refine se ?_
 refine ec 5 (read_q q hq hk h64 400 (by omega) _ (hm.gr hB)) ?_
 rintro e4 w4 ⟨⟨cc4_0,cc4_1,cc4_2,cc4_3,rfl,h4⟩,g4⟩
 refine ⟨_,rfl,?_⟩
 replace hB:=hB.trans g4
 simp only [p3,p4]
 refine sv 6 (.agg #[cc4_0,cc4_1,cc4_2,cc4_3]) ?_
 refine sv 7 (.int .i64 0) ?_
 refine se ?_
 replace L2:=L2.gr g4
 refine es 71 0 (.agg #[cc4_0,cc4_1,cc4_2,cc4_3]) [cc4_0,cc4_1,cc4_2,cc4_3] #[cc4_0,cc4_1,cc4_2,cc4_3] L2 hB q2 ⟨h4.one0,h4.one1,h4.one2,h4.one3,trivial⟩ fun w5 st5 kp5 L2 hB=>?_
 refine sv 3 (.int .i64 0) ?_
 refine sq_nil ?_
 refine k3 _ _ ?_
 try clear k3 K3
 refine wp_ret ?_
 refine bodyPost_ret (v:=(.tuple #[(.agg #[cc4_0,cc4_1,cc4_2,cc4_3]),(.int .i64 0)])) (ret_cell_tmp' _ _ _ rfl rfl L2 (by kernel_rfl) rfl) rfl ⟨?_,hB⟩
 replace h4:=h4.kp kp5
 exact ⟨_,_,_,_,rfl,h4⟩

set_option maxRecDepth 100000 in
set_option maxHeartbeats 1000000 in
theorem number_w {k:Nat} {u0 u1 u2 u3:Value} {a:Rat} {w:World} (ha:IsRat w k u0 u1 u2 u3 a) (_hk:k≤800000) (ht:Tab w) (hw:a.den=1):
    Calls Tryz.prog 40 #[(.agg #[u0,u1,u2,u3])] w fun e w'=>e=.returned (.string ⟨(ratL a).toArray⟩)∧Gr w w':=by
 go_enter Tryz.func40,Tryz.ntmps40
 have hB:=Gr.refl w
 refine wp_seq_k (fun K1 k1=>?_)
 refine rg [0,1] ?_
 refine se ?_
 refine eb 71 #[u0,u1,u2,u3] 1 hB fun b2 w2 g2 L2 o2 q2 hB=>?_
 simp only [p3,p4]
 refine sv 2 (.string ⟨([]:List UInt8).toArray⟩) ?_
 refine sq_nil ?_
 refine k1 _ _ ?_
 try clear k1 K1
 refine wp_seq_k (fun K3 k3=>?_)
 refine wp_seq_k (fun K4 k4=>?_)
 refine rg [0,1] ?_
 refine sw 3 (.agg #[u0,u1,u2,u3]) rfl (rl 71 0 [u0,u1,u2,u3] L2) ?_
 refine se ?_
 replace ha:=ha.kp g2.kp
 refine ec 4 (whole_t ha (by omega) hw) ?_
 rintro e5 w5 ⟨rfl,g5⟩
 refine ⟨_,rfl,?_⟩
 replace hB:=hB.trans g5
 simp only [p3,p4]
 refine sq_nil ?_
 refine k4 _ _ ?_
 try clear k4 K4
 refine wp_cond_true rfl ?_
 refine wp_seq_k (fun K6 k6=>?_)
 refine rg [0,1,2,3] ?_
 refine sv 5 (.pointer (some ⟨b2,0,none⟩)) ?_
 replace L2:=L2.gr g5
 refine sw 6 (.agg #[u0,u1]) rfl (rl 69 0 [u0,u1] L2) ?_
 refine se ?_
 replace ha:=ha.kp g5.kp
 refine ec 7 (text_i ha.num (by omega) (ht.gr hB)) ?_
 rintro e7 w7 ⟨rfl,g7⟩
 refine ⟨_,rfl,?_⟩
 replace hB:=hB.trans g7
 simp only [p3,p4]
 refine sv 2 (.string ⟨(Lib.itoa (a.num):List UInt8).toArray⟩) ?_
 refine sq_nil ?_
 refine k6 _ _ ?_
 try clear k6 K6
 refine wp_ret ?_
 simp only [Exit.then]
 refine bodyPost_ret (v:=(.string ⟨(Lib.itoa (a.num):List UInt8).toArray⟩)) (ret_tmp rfl rfl) rfl ⟨?_,hB⟩
 exact (by rw [ratL_w hw])

set_option maxRecDepth 100000 in
set_option maxHeartbeats 1000000 in
theorem number_d {k:Nat} {u0 u1 u2 u3:Value} {a:Rat} {w:World} (ha:IsRat w k u0 u1 u2 u3 a) (_hk:k≤800000) (ht:Tab w) (hd:IsInt w k u2 u3 (a.den:Int)) (hw:¬ a.den=1):
    Calls Tryz.prog 40 #[(.agg #[u0,u1,u2,u3])] w fun e w'=>e=.returned (.string ⟨(ratL a).toArray⟩)∧Gr w w':=by
 have hl1:=itoa_len ha.num.sz
 have hl2:=itoa_len hd.sz
 go_enter Tryz.func40,Tryz.ntmps40
 have hB:=Gr.refl w
 refine wp_seq_k (fun K1 k1=>?_)
 refine rg [0,1] ?_
 refine se ?_
 refine eb 71 #[u0,u1,u2,u3] 1 hB fun b2 w2 g2 L2 o2 q2 hB=>?_
 simp only [p3,p4]
 refine sv 2 (.string ⟨([]:List UInt8).toArray⟩) ?_
 refine sq_nil ?_
 refine k1 _ _ ?_
 try clear k1 K1
 refine wp_seq_k (fun K3 k3=>?_)
 refine wp_seq_k (fun K4 k4=>?_)
 refine rg [0,1] ?_
 refine sw 3 (.agg #[u0,u1,u2,u3]) rfl (rl 71 0 [u0,u1,u2,u3] L2) ?_
 refine se ?_
 replace ha:=ha.kp g2.kp
 refine ec 4 (whole_f ha (by omega) hw) ?_
 rintro e5 w5 ⟨rfl,g5⟩
 refine ⟨_,rfl,?_⟩
 replace hB:=hB.trans g5
 simp only [p3,p4]
 refine sq_nil ?_
 refine k4 _ _ ?_
 try clear k4 K4
 refine wp_cond_false rfl ?_
 refine wp_skip ?_
 refine k3 _ _ ?_
 try clear k3 K3
 refine wp_seq_k (fun K6 k6=>?_)
 have gd14:=Gr.drew w5
 replace hB:=hB.trans gd14
 replace L2:=L2.gr (g5.trans gd14)
 refine wp_region_ord (fun w'=>Lc w' b2 #[u0,u1,u2,u3] 71) [(true,0),(true,1),(true,4),(true,5),(false,2),(true,3),(false,6),(true,7),(true,8)] (by kernel_rfl) (by kernel_rfl) (by kernel_rfl) (by decide) (fun _ _ _ _ _ h=>h) L2 ?_
 refine ov 8 (.pointer (some ⟨b2,0,none⟩)) ?_
 refine ow 9 (.agg #[u0,u1]) rfl (fun w' hS=>(rl 69 0 [u0,u1] hS)) ?_
 refine ov 12 (.pointer (some ⟨b2,2,none⟩)) ?_
 refine ow 13 (.agg #[u2,u3]) rfl (fun w' hS=>(rl 69 2 [u2,u3] hS)) ?_
 refine oe ?_
 have kq17:=g5.kp.trans gd14.kp
 replace ha:=ha.kp kq17
 refine ec 10 (text_i ha.num (by omega) (ht.gr hB)) ?_
 rintro e16 w16 ⟨rfl,g16⟩
 refine ⟨_,rfl,?_⟩
 replace hB:=hB.trans g16
 replace L2:=L2.gr g16
 refine ⟨L2,?_⟩
 simp only [p3,p4]
 refine ow 11 (.string ⟨((Lib.itoa (a.num))++([47]):List UInt8).toArray⟩) rfl (fun w' hS=>(rv_cat 9 9 _ _ (Lib.itoa (a.num)) ([47]) rfl rfl rfl (by simp only [List.length_cons,List.length_nil];omega))) ?_
 refine oe ?_
 have kq20:=g2.kp.trans (g5.kp.trans (gd14.kp.trans g16.kp))
 replace hd:=hd.kp kq20
 refine ec 14 (text_i hd (by omega) (ht.gr hB)) ?_
 rintro e19 w19 ⟨rfl,g19⟩
 refine ⟨_,rfl,?_⟩
 replace hB:=hB.trans g19
 replace L2:=L2.gr g19
 refine ⟨L2,?_⟩
 simp only [p3,p4]
 refine ow 15 (.string ⟨(((Lib.itoa (a.num))++([47]))++(Lib.itoa ((a.den:Int))):List UInt8).toArray⟩) rfl (fun w' hS=>(rv_cat 9 9 _ _ ((Lib.itoa (a.num))++([47])) (Lib.itoa ((a.den:Int))) rfl rfl rfl (by simp only [List.length_append,List.length_cons,List.length_nil];omega))) ?_
 refine ov 2 (.string ⟨(((Lib.itoa (a.num))++([47]))++(Lib.itoa ((a.den:Int))):List UInt8).toArray⟩) ?_
 refine ord_nil ?_
 refine k6 _ _ ?_
 try clear k6 K6
 refine wp_ret ?_
 refine bodyPost_ret (v:=(.string ⟨(((Lib.itoa (a.num))++([47]))++(Lib.itoa ((a.den:Int))):List UInt8).toArray⟩)) (ret_tmp rfl rfl) rfl ⟨?_,hB⟩
 exact (by rw [ratL_f hw])

theorem number_r {k:Nat} {u0 u1 u2 u3:Value} {a:Rat} {w:World} (ha:IsRat w k u0 u1 u2 u3 a) (hk:k≤800000) (ht:Tab w):
    Calls Tryz.prog 40 #[.agg #[u0,u1,u2,u3]] w fun e w'=>e=.returned (.string ⟨(ratL a).toArray⟩)∧Gr w w':=by
  by_cases hw:a.den=1
  · exact number_w ha hk ht hw
  · obtain ⟨D,h2,h3⟩:=ha.den
    rcases h3 with h3 | ⟨_,h4⟩
    · subst h3;exact number_d ha hk ht h2 hw
    · exact absurd h4 hw

theorem ratL_8 {q:Rat} (h:RZ 8 8 q):((ratL q).length:Int)≤400:=by
  have:=ratL_len h.1 h.2
  omega
theorem RZ.s64 {q:Rat} (h:RZ 8 8 q):Sz 64 q.num∧Sz 64 (q.den:Int):=h.mono (by omega) (by omega)
set_option maxRecDepth 100000 in
set_option maxHeartbeats 1000000 in
theorem l5_rat (q:Rat) (hq:RZ 8 8 q) (w:World) (hm:Mx w):
    Calls Tryz.prog 63 #[(.agg #[(.string ⟨(Lib.itoa ((q).num):List UInt8).toArray⟩),(.string ⟨(Lib.itoa (((q).den:Int)):List UInt8).toArray⟩)])] w fun e w'=>(∃ c0 c1 c2 c3,e=.returned (.agg #[c0,c1,c2,c3])∧IsRat w' 64 c0 c1 c2 c3 q)∧Gr w w':=by
 go_enter Tryz.func63,Tryz.ntmps63
 have hB:=Gr.refl w
 refine wp_seq_k (fun K10 k10=>?_)
 refine rg [0,1] ?_
 refine se ?_
 refine eb 84 #[(.string ⟨(Lib.itoa ((q).num):List UInt8).toArray⟩),(.string ⟨(Lib.itoa (((q).den:Int)):List UInt8).toArray⟩)] 1 hB fun b11 w11 g11 L11 o11 q11 hB=>?_
 have qr11:=o11
 simp only [p3,p4]
 refine se ?_
 refine ea 71 #[(.bool false),(.slice none 0 0),(.bool false),(.slice none 0 0)] 2 hB fun b12 w12 g12 L12 o12 q12 hB=>?_
 have qr12:=o12
 simp only [p3,p4]
 refine sq_nil ?_
 refine k10 _ _ ?_
 try clear k10 K10
 refine wp_seq_k (fun K13 k13=>?_)
 refine rg [0,1,2,3,4,5,6,7,8] ?_
 replace L11:=L11.gr g12
 refine sw 6 (.agg #[(.string ⟨(Lib.itoa ((q).num):List UInt8).toArray⟩),(.string ⟨(Lib.itoa (((q).den:Int)):List UInt8).toArray⟩)]) rfl (rl 84 0 [(.string ⟨(Lib.itoa ((q).num):List UInt8).toArray⟩),(.string ⟨(Lib.itoa (((q).den:Int)):List UInt8).toArray⟩)] L11) ?_
 refine se ?_
 refine ec 7 (f5_text (q) hq (by omega) _) ?_
 rintro e14 w14 ⟨rfl,g14⟩
 refine ⟨_,rfl,?_⟩
 replace hB:=hB.trans g14
 simp only [p3,p4]
 refine se ?_
 refine ec 8 (parse_q q hq.s64 (by omega) (by omega) (ratL_8 hq) _ (hm.gr hB)) ?_
 rintro e15 w15 ⟨⟨p15,q15,r15,s15,rfl,h15⟩,g15⟩
 refine ⟨_,rfl,?_⟩
 replace hB:=hB.trans g15
 simp only [p3,p4]
 refine sv 5 (.tuple #[(.agg #[p15,q15,r15,s15]),(.int .i64 0)]) ?_
 refine sv 9 (.agg #[p15,q15,r15,s15]) ?_
 refine sv 10 (.int .i64 0) ?_
 refine se ?_
 refine ea 71 #[(.bool false),(.slice none 0 0),(.bool false),(.slice none 0 0)] 3 hB fun b16 w16 g16 L16 o16 q16 hB=>?_
 replace L12:=L12.gr (g14.trans g15)
 have ne12_16:=L12.ne o16
 have qr16:=o16
 simp only [p3,p4]
 refine se ?_
 have lo17:=L16
 refine es 71 0 (.agg #[p15,q15,r15,s15]) [p15,q15,r15,s15] #[p15,q15,r15,s15] L16 hB q16 ⟨h15.one0,h15.one1,h15.one2,h15.one3,trivial⟩ fun w17 st17 kp17 L16 hB=>?_
 refine sv 4 (.int .i64 0) ?_
 refine sq_nil ?_
 refine k13 _ _ ?_
 try clear k13 K13
 refine wp_seq_k (fun K18 k18=>?_)
 refine rg [0,1] ?_
 refine sw 11 (.agg #[p15,q15,r15,s15]) rfl (rl 71 0 [p15,q15,r15,s15] L16) ?_
 refine se ?_
 replace L12:=st17.lc (L12.gr g16) ne12_16
 have lo19:=L12
 refine es 71 0 (.agg #[p15,q15,r15,s15]) [p15,q15,r15,s15] #[p15,q15,r15,s15] L12 hB q12 ⟨h15.one0,h15.one1,h15.one2,h15.one3,trivial⟩ fun w19 st19 kp19 L12 hB=>?_
 refine sq_nil ?_
 refine k18 _ _ ?_
 try clear k18 K18
 refine wp_ret ?_
 refine bodyPost_ret (v:=(.agg #[p15,q15,r15,s15])) (ret_cell _ _ _ rfl rfl L12 (by kernel_rfl)) rfl ⟨?_,hB⟩
 have kq20:=g16.kp.trans (kp17.trans kp19)
 replace h15:=h15.kp kq20
 exact ⟨_,_,_,_,rfl,h15⟩

set_option maxRecDepth 100000 in
set_option maxHeartbeats 1000000 in
theorem l5_list {N:Nat} {vx:Value} {x:Nat→Rat} (_hN:N≤1000) (hz:∀ j,j<N→RZ 8 8 (x j)) {w:World} (hm:Mx w) (hx:Sl EFr 84 2 w vx (tb (fun z1=>(x z1)) N)):
    Calls Tryz.prog 24 #[vx] w fun e w'=>(∃ u,e=.returned u∧Sl (ERat 64) 71 4 w' u (tb (fun z1=>(x z1)) N))∧Gr w w':=by
 go_enter Tryz.func24,Tryz.ntmps24
 have hB:=Gr.refl w
 refine wp_seq_k (fun K10 k10=>?_)
 refine rg [0] ?_
 refine sv 2 (.slice none 0 0) ?_
 refine sq_nil ?_
 refine k10 _ _ ?_
 try clear k10 K10
 refine wp_seq_k (fun K11 k11=>?_)
 refine rg [0] ?_
 refine sv 3 (.slice none 0 0) ?_
 refine sq_nil ?_
 refine k11 _ _ ?_
 try clear k11 K11
 refine wp_seq_k (fun K12 k12=>?_)
 refine wp_seq_k (fun K13 k13=>?_)
 refine rg [0] ?_
 refine sv 4 (.int .i64 0) ?_
 refine sq_nil ?_
 refine k13 _ _ ?_
 try clear k13 K13
 refine wp_block ?_
 refine wp_loop_inv (a:=⟨List.toArray ?l14,[]⟩) (fun n a w'=>∃ (j:Nat) (vo:Value) (u14:Nat→Value),N - j=n∧a=⟨[vx,undef,(.slice none 0 0),vo,(.int .i64 ((j:Int))),(u14 5),(u14 6),(u14 7),(u14 8),(u14 9),(u14 10),(u14 11),(u14 12),(u14 13),(u14 14),(u14 15),(u14 16),(u14 17),(u14 18),undef].toArray,[]⟩∧j≤N∧Ow (ERat 64) 71 4 w' w.heap.size vo (tb (fun z1=>(x z1)) j)∧Gr w w') (N - 0) ?_ ?_
 ·exact ⟨0,(.slice none 0 0),(fun i=>List.getD ?l14 i undef),rfl,rfl,(Nat.zero_le _),(Ow.nil _ _ _ _ _),hB⟩
 rintro n14 a14 w14 ⟨j,vo,u14,rfl,rfl,hkj,oo,hB⟩ K14 k14
 refine wp_seq_k (fun K15 k15=>?_)
 refine wp_seq_k (fun K16 k16=>?_)
 refine rg [0,1,2,3] ?_
 refine sv 5 (.int .i64 ((j:Int))) ?_
 refine sv 6 vx ?_
 refine sw 7 (.int .i64 ((N:Int))) rfl (rv_lenn (e:=84) hx (tb_lenz rfl) _ _ rfl rfl (by kernel_rfl)) ?_
 refine sv 8 (.bool (decide ((j:Int)<(N:Int)))) ?_
 refine sq_nil ?_
 refine k16 _ _ ?_
 try clear k16 K16
 refine wp_cond_split (t:=decide ((j:Int)<(N:Int))) rfl (fun hb17=>?_) (fun hb17=>?_)
 ·have hlj:j<N:=by have:=of_decide_eq_true hb17;omega
  refine wp_skip ?_
  refine k15 _ _ ?_
  try clear k15 K15
  refine wp_seq_k (fun K18 k18=>?_)
  refine wp_block ?_
  refine rg [0,1,2,3,4,5,6,7,8] ?_
  refine sv 11 vo ?_
  refine sv 12 vx ?_
  refine sv 13 (.int .i64 ((j:Int))) ?_
  refine sw 14 (adr vx (j*2)) rfl (rv_idxn (e:=84) hx tb_len (by decide) j (by omega) _ _ _ rfl rfl rfl (by kernel_rfl) (by kernel_rfl)) ?_
  obtain ⟨_,_,rfl,at19⟩:=Sl.get hx (by decide) (tb_get (f:=(fun z1=>(x z1))) (n:=N) (i:=j) (by omega))
  refine sw 15 (.agg #[(.string ⟨(Lib.itoa (((x j)).num):List UInt8).toArray⟩),(.string ⟨(Lib.itoa ((((x j)).den:Int)):List UInt8).toArray⟩)]) rfl (rv_ldn [(.string ⟨(Lib.itoa (((x j)).num):List UInt8).toArray⟩),(.string ⟨(Lib.itoa ((((x j)).den:Int)):List UInt8).toArray⟩)] (at19.gr hB) _ _ rfl rfl (by kernel_rfl)) ?_
  refine se ?_
  refine ec 16 (l5_rat ((x j)) (hz j hlj) _ (hm.gr hB)) ?_
  rintro e20 w20 ⟨⟨p20,q20,r20,s20,rfl,h20⟩,g20⟩
  refine ⟨_,rfl,?_⟩
  replace hB:=hB.trans g20
  simp only [p3,p4]
  refine se ?_
  refine eff_bs 71 1 #[p20,q20,r20,s20] (some 17) rfl (fun _=>by kernel_rfl) (fun b21 w21 g21 L21 q21=>?_)
  replace hB:=hB.trans g21
  simp only [putl,p3,p4]
  refine se ?_
  replace h20:=h20.kp g21.kp
  replace oo:=oo.gr (stab_rat 64) (g20.trans g21)
  refine eff_apg (stab_rat 64) _ _ 49 71 w.heap.size (.agg #[(.bool false),(.slice none 0 0),(.bool false),(.slice none 0 0)]) vo (tb (fun z1=>(x z1)) j) b21 [p20,q20,r20,s20] ((x j)) 4 1 (some 18) 64 rfl rfl rfl rfl oo L21 ⟨h20.one0,h20.one1,h20.one2,h20.one3,trivial⟩ rfl ⟨_,_,_,_,rfl,h20.mono (by omega)⟩ (Below.size hB) (by rw [tb_len];omega) (by decide) (by kernel_rfl) (by kernel_rfl) (by decide) (by decide) (fun v22 w22 ow22 wt22 hg22=>?_)
  replace hB:=hg22 _ hB (Nat.le_refl _)
  replace ow22:=ow22.cast (tb_snoc (f:=(fun z1=>(x z1))) (n:=j) (by first | rfl | exact fil_all))
  simp only [putl,p3,p4]
  refine sv 3 v22 ?_
  refine sq_nil ?_
  refine k18 _ _ ?_
  try clear k18 K18
  refine rg [0,1,2] ?_
  refine sv 9 (.int .i64 ((j:Int))) ?_
  refine sw 10 (.int .i64 (((j:Int)+1))) rfl (RunV.int (x:=IntKind.i64.wrap (((j:Int)+1))) (y:=((j:Int)+1)) (rvk (by kernel_rfl)) (by first | rfl | (rw [IntKind.wrap_i64];omega))) ?_
  refine sv 4 (.int .i64 (((j:Int)+1))) ?_
  refine sq_nil ?_
  refine k14 (N - (j+1)) ⟨List.toArray ?l23,[]⟩ _ (by omega) ?_
  exact ⟨j+1,v22,(fun i=>List.getD ?l23 i undef),rfl,rfl,(by omega),ow22,hB⟩
 ·have hej:N=j:=by have:=of_decide_eq_false hb17;omega
  subst hej
  refine wp_exit ?_
  simp only [Exit.then,Exit.inBlock,↓reduceIte]
  refine k12 _ _ ?_
  try clear k12 K12
  refine wp_seq_k (fun K24 k24=>?_)
  refine rg [0,1] ?_
  refine sv 19 vo ?_
  refine sv 2 vo ?_
  refine sq_nil ?_
  refine k24 _ _ ?_
  try clear k24 K24
  refine wp_ret ?_
  refine bodyPost_ret (v:=vo) (ret_tmp rfl rfl) rfl ⟨?_,hB⟩
  exact ⟨_,rfl,(oo.sl)⟩

set_option maxRecDepth 100000 in
set_option maxHeartbeats 1000000 in
theorem l5_own {R N:Nat} {v:Value} {m:Nat→Nat→Rat} (_hR2:R≤1000) (_hN2:N≤1000) (hz:∀ i,i<R→∀ j,j<N→RZ 8 8 (m i j)) {w:World} (hm:Mx w) (hs:Sl (ERw EFr 84 2) 51 1 w v (tb (fun z0=>tb (fun z1=>(m z0 z1)) N) R)):
    Calls Tryz.prog 15 #[v] w fun e w'=>(∃ u,e=.returned u∧Sl (ERw (ERat 64) 71 4) 49 1 w' u (tb (fun z0=>tb (fun z1=>(m z0 z1)) N) R))∧Gr w w':=by
 go_enter Tryz.func15,Tryz.ntmps15
 have hB:=Gr.refl w
 refine wp_seq_k (fun K10 k10=>?_)
 refine rg [0] ?_
 refine sv 2 (.slice none 0 0) ?_
 refine sq_nil ?_
 refine k10 _ _ ?_
 try clear k10 K10
 refine wp_seq_k (fun K11 k11=>?_)
 refine rg [0] ?_
 refine sv 3 (.slice none 0 0) ?_
 refine sq_nil ?_
 refine k11 _ _ ?_
 try clear k11 K11
 refine wp_seq_k (fun K12 k12=>?_)
 refine wp_seq_k (fun K13 k13=>?_)
 refine rg [0] ?_
 refine sv 4 (.int .i64 0) ?_
 refine sq_nil ?_
 refine k13 _ _ ?_
 try clear k13 K13
 refine wp_block ?_
 refine wp_loop_inv (a:=⟨List.toArray ?l14,[]⟩) (fun n a w'=>∃ (j:Nat) (vo:Value) (u14:Nat→Value),R - j=n∧a=⟨[v,undef,(.slice none 0 0),vo,(.int .i64 ((j:Int))),(u14 5),(u14 6),(u14 7),(u14 8),(u14 9),(u14 10),(u14 11),(u14 12),(u14 13),(u14 14),(u14 15),(u14 16),(u14 17),(u14 18),undef].toArray,[]⟩∧j≤R∧Ow (ERw (ERat 64) 71 4) 49 1 w' w.heap.size vo (tb (fun z0=>tb (fun z1=>(m z0 z1)) N) j)∧Gr w w') (R - 0) ?_ ?_
 ·exact ⟨0,(.slice none 0 0),(fun i=>List.getD ?l14 i undef),rfl,rfl,(Nat.zero_le _),(Ow.nil _ _ _ _ _),hB⟩
 rintro n14 a14 w14 ⟨j,vo,u14,rfl,rfl,hkj,oo,hB⟩ K14 k14
 have lehC:=Below.size hB
 have hC:=Gr.refl w14
 refine wp_seq_k (fun K15 k15=>?_)
 refine wp_seq_k (fun K16 k16=>?_)
 refine rg [0,1,2,3] ?_
 refine sv 5 (.int .i64 ((j:Int))) ?_
 refine sv 6 v ?_
 refine sw 7 (.int .i64 ((R:Int))) rfl (rv_lenn (e:=51) hs (tb_lenz rfl) _ _ rfl rfl (by kernel_rfl)) ?_
 refine sv 8 (.bool (decide ((j:Int)<(R:Int)))) ?_
 refine sq_nil ?_
 refine k16 _ _ ?_
 try clear k16 K16
 refine wp_cond_split (t:=decide ((j:Int)<(R:Int))) rfl (fun hb17=>?_) (fun hb17=>?_)
 ·have hlj:j<R:=by have:=of_decide_eq_true hb17;omega
  refine wp_skip ?_
  refine k15 _ _ ?_
  try clear k15 K15
  refine wp_seq_k (fun K18 k18=>?_)
  refine wp_block ?_
  refine rg [0,1,2,3,4,5,6,7,8] ?_
  refine sv 11 vo ?_
  refine sv 12 v ?_
  refine sv 13 (.int .i64 ((j:Int))) ?_
  refine sw 14 (adr v (j*1)) rfl (rv_idxn (e:=51) hs tb_len (by decide) j (by omega) _ _ _ rfl rfl rfl (by kernel_rfl) (by kernel_rfl)) ?_
  obtain ⟨_,_,⟨u19,rfl,hr19⟩,at19⟩:=Sl.get hs (by decide) (tb_get (f:=(fun z0=>tb (fun z1=>(m z0 z1)) N)) (n:=R) (i:=j) (by omega))
  refine sw 15 u19 rfl (rv_ld1 u19 (at19.gr hB) _ _ rfl rfl (by kernel_rfl)) ?_
  refine se ?_
  refine ec 16 (l5_list (by omega) (hz j hlj) (hm.gr hB) (hr19.gr stab_fr hB)) ?_
  rintro e20 w20 ⟨⟨u20,rfl,hs20⟩,g20⟩
  refine ⟨_,rfl,?_⟩
  replace hB:=hB.trans g20
  replace hC:=hC.trans g20
  simp only [p3,p4]
  refine se ?_
  refine eff_bs1 29 49 u20 (some 17) rfl rfl rfl hs20.forms (fun _ _ _ _=>by kernel_rfl) (fun b21 w21 g21 L21 q21=>?_)
  have q21_hC:=Nat.le_trans (Below.size hC) q21
  replace hB:=hB.trans g21
  replace hC:=hC.trans g21
  simp only [putl,p3,p4]
  refine se ?_
  replace hs20:=hs20.gr (stab_rat 64) g21
  refine eff_apg (stab_rw (stab_rat 64) 71 4) _ _ 29 49 w.heap.size (.slice none 0 0) vo (tb (fun z0=>tb (fun z1=>(m z0 z1)) N) j) b21 [u20] (tb (fun z1=>(m j z1)) N) 1 1 (some 18) 24 rfl rfl rfl rfl (oo.gr (stab_rw (stab_rat 64) 71 4) hC) L21 ⟨hs20.one,trivial⟩ rfl ⟨_,rfl,hs20⟩ (Below.size hB) (by rw [tb_len];omega) (by decide) (by kernel_rfl) (by kernel_rfl) (by decide) (by decide) (fun v22 w22 ow22 wt22 hg22=>?_)
  replace hB:=hg22 _ hB (Nat.le_refl _)
  replace ow22:=ow22.cast (tb_snoc (f:=(fun z0=>tb (fun z1=>(m z0 z1)) N)) (n:=j) (by first | rfl | exact fil_all))
  simp only [putl,p3,p4]
  refine sv 3 v22 ?_
  refine sq_nil ?_
  refine k18 _ _ ?_
  try clear k18 K18
  refine rg [0,1,2] ?_
  refine sv 9 (.int .i64 ((j:Int))) ?_
  refine sw 10 (.int .i64 (((j:Int)+1))) rfl (RunV.int (x:=IntKind.i64.wrap (((j:Int)+1))) (y:=((j:Int)+1)) (rvk (by kernel_rfl)) (by first | rfl | (rw [IntKind.wrap_i64];omega))) ?_
  refine sv 4 (.int .i64 (((j:Int)+1))) ?_
  refine sq_nil ?_
  refine k14 (R - (j+1)) ⟨List.toArray ?l23,[]⟩ _ (by omega) ?_
  exact ⟨j+1,v22,(fun i=>List.getD ?l23 i undef),rfl,rfl,(by omega),ow22,hB⟩
 ·have hej:R=j:=by have:=of_decide_eq_false hb17;omega
  subst hej
  refine wp_exit ?_
  simp only [Exit.then,Exit.inBlock,↓reduceIte]
  refine k12 _ _ ?_
  try clear k12 K12
  refine wp_seq_k (fun K24 k24=>?_)
  refine rg [0,1] ?_
  refine sv 19 vo ?_
  refine sv 2 vo ?_
  refine sq_nil ?_
  refine k24 _ _ ?_
  try clear k24 K24
  refine wp_ret ?_
  refine bodyPost_ret (v:=vo) (ret_tmp rfl rfl) rfl ⟨?_,hB⟩
  exact ⟨_,rfl,((oo.gr (stab_rw (stab_rat 64) 71 4) hC).sl)⟩

/-- a pair:a small int,a byte -/
def EEn (_:World) (p:Int × Int) (vs:List Value):Prop:=vs=[.int .i8 p.1,.int .u8 p.2]∧(-128≤p.1∧p.1≤127)∧(0≤p.2∧p.2≤255)
theorem stab_en:Stab EEn []:=fun _ _ _ _ _ h=>h
section
variable {α β:Type} {E:World→α→List Value→Prop} {F:World→β→List Value→Prop} {T:TypeId} {c:Nat} {w:World} {v:Value} {xs:List α}
theorem Sl.mapE (h:Sl E T c w v xs) (g:α→β) (hg:∀ x vs,E w x vs→F w (g x) vs):Sl F T c w v (xs.map g):=by
  obtain ⟨ys,h1,h2⟩:=h
  refine ⟨ys,by rw [List.length_map];exact h1,by rw [h2.1,List.length_map],fun i x hx=>?_⟩
  rw [List.getElem?_map,Option.map_eq_some_iff] at hx
  obtain ⟨y,hy,rfl⟩:=hx
  exact hg _ _ (h2.2 i y hy)
theorem list_tb (d:α) (xs:List α):xs=tb (fun i=>xs.getD i d) xs.length:=by
  apply List.ext_getElem?
  intro i
  by_cases h:i<xs.length
  · rw [tb_get h,List.getD_eq_getElem?_getD,List.getElem?_eq_getElem h];rfl
  · rw [List.getElem?_eq_none (by omega),List.getElem?_eq_none (by rw [tb_len];omega)]
end
theorem ek_en {w:World} {x:List Int} {vs:List Value} (h:EK [.i8,.u8] w x vs):EEn w (x.getD 0 0,x.getD 1 0) vs:=by
  obtain ⟨h1,h2,h3⟩:=h
  match x,h1 with
  | [a,b],_=>
    have ha:IntKind.i8.has a:=h3 0 .i8 rfl
    have hb:IntKind.u8.has b:=h3 1 .u8 rfl
    refine ⟨by simpa using h2,?_,?_⟩
    · exact ha
    · exact hb
section
variable {P:Program} {a:Act} {o:Oper} {w:World}
theorem rv_fld {v:Value} {j off:Nat} {vs:List Value} {w0:World} (h:AtV w0 v j vs) {fs:Array Field} {f:Field} (t:TypeId) (x:Operand) (i:Nat) (hop:o.op=.fieldAddr t x i) (hx:a.eval x=adr v j) (hu:P.underlying t=some (.struct fs)) (hf:fs[i]?=some f) (ho:f.offset=off) {sz:Nat} (hs:(P.info? f.type).map (·.size)=some (sz+1)):
    RunV P a o w (adr v (j+off)):=by
  obtain ⟨b,o2,n,cap,rfl,_⟩:=h
  obtain ⟨inf,hi,hsz⟩:=Option.map_eq_some_iff.1 hs
  have hx':a.eval x=.pointer (some ⟨b,o2+j,none⟩):=hx
  unfold RunV execOp
  simp only [hop,hx']
  by_cases h0:off=0<;>simp [Instr.fieldAt,Instr.sureAddr,fieldPlace,run_underlying hu,hf,ho,h0,adr,Addr.add,Nat.add_assoc,sizeOf,typeInfo,hi,hsz]
def fldAt (P:Program) (t:TypeId) (i:Nat):Option Nat:=
  match P.underlying t with
  | some (.struct fs)=>match fs[i]? with
    | some f=>match P.info? f.type with
      | some inf=>if inf.size=0 then none else some f.offset
      | none=>none
    | none=>none
  | _=>none
theorem rv_fldk {v:Value} {j off:Nat} {vs:List Value} {w0:World} (h:AtV w0 v j vs) (t:TypeId) (x:Operand) (i:Nat) (hop:o.op=.fieldAddr t x i) (hx:a.eval x=adr v j) (hk:fldAt P t i=some off):RunV P a o w (adr v (j+off)):=by
  unfold fldAt at hk
  split at hk
  · next fs hu=>
    split at hk
    · next f hf=>
      split at hk
      · next inf hi=>
        split at hk
        · cases hk
        · next hz=>exact rv_fld h t x i hop hx hu hf (Option.some.inj hk) (sz:=inf.size - 1) (by rw [hi];show some inf.size=_;congr 1;omega)
      · cases hk
    · cases hk
  · cases hk
theorem AtV.part {v:Value} {j i:Nat} {vs us:List Value} (h:AtV w v j vs) (hu:(vs.drop i).take us.length=us):AtV w v (j+i) us:=by
  obtain ⟨b,o2,n,cap,rfl,hr⟩:=h
  refine ⟨b,o2,n,cap,rfl,fun k u hk=>?_⟩
  have hl:k<us.length:=(List.getElem?_eq_some_iff.1 hk).1
  have:vs[i+k]?=some u:=by
    have e:((vs.drop i).take us.length)[k]?=some u:=by rw [hu];exact hk
    rwa [List.getElem?_take_of_lt hl,List.getElem?_drop] at e
  have:=hr (i+k) u this
  rw [show o2+(j+i)+k=o2+j+(i+k) by omega]
  exact this
end
/-- the number of an entry;0 where one is missing -/
def en (e:Nat→Int × Int) (Z k:Nat):Rat:=if k<Z then (((e k).1:Int):Rat)/(((1+(e k).2 % 6:Int):Int):Rat) else (((0:Int):Int):Rat)/(((1:Int):Int):Rat)
theorem en_in {e:Nat→Int × Int} {Z k:Nat} (h:k<Z):(((e k).1:Int):Rat)/(((1+(e k).2 % 6:Int):Int):Rat)=en e Z k:=(if_pos h).symm
theorem en_out {e:Nat→Int × Int} {Z k:Nat} (h:¬ k<Z):(((0:Int):Int):Rat)/(((1:Int):Int):Rat)=en e Z k:=(if_neg h).symm
theorem en_z {e:Nat→Int × Int} {Z k:Nat} (he:∀ k,k<Z→(-128≤(e k).1∧(e k).1≤127)∧(0≤(e k).2∧(e k).2≤255)):RZ 8 3 (en e Z k):=by
  unfold en
  split
  · next h=>
    have:=he k h
    rw [← Rat.divInt_eq_div]
    exact rz_divInt (by unfold Sz;omega) (by unfold Sz;omega) (by omega)
  · rw [← Rat.divInt_eq_div]
    exact rz_divInt (by unfold Sz;decide) (by unfold Sz;decide) (by decide)
end Go.Proofs.YtepgkcimmdmgcaaGreatDoor
