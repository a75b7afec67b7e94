/- Joined of: Gen168, Gen169, Ln, Gen170, Gen171, Gen172, Lo. -/
import Derived.Test.YtepgkcimmdmgcaaGreatDoorPartE
import Derived.Test.YtepgkcimmdmgcaaGreatDoorPartD
namespace Go.Proofs.YtepgkcimmdmgcaaGreatDoor
open Go.RowKit

set_option maxRecDepth 100000 in
set_option maxHeartbeats 1000000 in
theorem mx_Kernel {K R D:Nat} {v:Value} {m:Mx_} (hK:64≤K) (_hK2:K≤20000) (_hR2:R≤256) (_hN2:D≤96) (hz:∀ k,k≤D→RdZ R D K (rs R m k)) {w:World} (hs:Sl (ERw (ERat K) 71 4) 49 1 w v (tb (fun z0=>tb (fun z1=>(m z0 z1)) D) R)):
    Calls Tryz.prog 19 #[v,(.int .i64 ((D:Int)))] w fun e w'=>(∃ u,e=.returned (.tuple #[u,.int .i64 0])∧Sl (ERw (ERat K) 71 4) 49 1 w' u (tb (fun z0=>tb (fun z1=>kv (rs R m D) (frc R m D D z0) z1) D) (nfr R m D D)))∧Gr w w':=by
 go_enter Tryz.func19,Tryz.ntmps19
 have hB:=Gr.refl w
 refine wp_seq_k (fun K10 k10=>?_)
 refine rg [0,1] ?_
 refine sv 4 (.slice none 0 0) ?_
 refine sv 5 (.int .i64 0) ?_
 refine sq_nil ?_
 refine k10 _ _ ?_
 try clear k10 K10
 refine wp_seq_k (fun K11 k11=>?_)
 refine wp_seq_k (fun K12 k12=>?_)
 refine rg [0,1,2] ?_
 refine sv 15 v ?_
 refine se ?_
 refine ec 16 (mx_size (by omega) (by omega) (hs.gr (stab_rw (stab_rat K) 71 4) hB)) ?_
 rintro e13 w13 ⟨rfl,g13⟩
 refine ⟨_,rfl,?_⟩
 replace hB:=hB.trans g13
 simp only [p3,p4]
 refine sv 6 (.int .i64 0) ?_
 refine sq_nil ?_
 refine k12 _ _ ?_
 try clear k12 K12
 refine wp_seq_k (fun K14 k14=>?_)
 refine rg [0,1] ?_
 refine sv 17 (.int .i64 0) ?_
 refine sv 18 (.bool false) ?_
 refine sq_nil ?_
 refine k14 _ _ ?_
 try clear k14 K14
 refine wp_cond_false rfl ?_
 refine wp_skip ?_
 refine k11 _ _ ?_
 try clear k11 K11
 refine wp_seq_k (fun K15 k15=>?_)
 refine wp_seq_k (fun K16 k16=>?_)
 refine rg [0,1,2,3,4,5,6,7,8] ?_
 refine sv 20 v ?_
 refine sw 21 (.int .i64 ((R:Int))) rfl (rv_lenn (e:=49) hs (tb_lenz rfl) _ _ rfl rfl (by kernel_rfl)) ?_
 refine sv 22 (.bool (decide ((0:Int)<(R:Int)))) ?_
 rcases Bool.eq_false_or_eq_true (decide ((0:Int)<(R:Int))) with hb17 | hb17
 ·have hq18:((0:Int)<(R:Int)):=of_decide_eq_true hb17
  refine sw 23 (.bool true) rfl (RunV.bool (x:=decide ((0:Int)<(R:Int))) (rvk (by kernel_rfl)) hb17) ?_
  refine sv 24 v ?_
  refine se ?_
  refine ec 25 (mx_columnsR (hs.gr (stab_rw (stab_rat K) 71 4) hB) (by omega)) ?_
  rintro e19 w19 ⟨rfl,g19⟩
  refine ⟨_,rfl,?_⟩
  replace hB:=hB.trans g19
  simp only [p3,p4]
  refine sv 26 (.int .i64 ((D:Int))) ?_
  have hb20:(((D:Int) !=(D:Int)))=false:=(by simp)
  refine sw 27 (.bool false) rfl (RunV.bool (x:=((D:Int) !=(D:Int))) (rvk (by kernel_rfl)) hb20) ?_
  refine sv 28 (.bool false) ?_
  refine sq_nil ?_
  refine k16 _ _ ?_
  try clear k16 K16
  refine wp_cond_false rfl ?_
  refine wp_skip ?_
  refine k15 _ _ ?_
  try clear k15 K15
  refine wp_seq_k (fun K21 k21=>?_)
  refine wp_seq_k (fun K22 k22=>?_)
  refine rg [0,1,2,3,4,5] ?_
  refine sv 29 (.int .i64 ((D:Int))) ?_
  have hb23:(decide ((D:Int)<(0:Int)))=false:=(by simp only [decide_eq_false_iff_not];omega)
  refine sw 30 (.bool false) rfl (RunV.bool (x:=decide ((D:Int)<(0:Int))) (rvk (by kernel_rfl)) hb23) ?_
  refine sv 31 (.bool false) ?_
  refine sv 32 (.int .i64 ((D:Int))) ?_
  have hb24:(decide ((96:Int)<(D:Int)))=false:=(by simp only [decide_eq_false_iff_not];omega)
  refine sw 33 (.bool false) rfl (RunV.bool (x:=decide ((96:Int)<(D:Int))) (rvk (by kernel_rfl)) hb24) ?_
  refine sv 34 (.bool false) ?_
  refine sq_nil ?_
  refine k22 _ _ ?_
  try clear k22 K22
  refine wp_cond_false rfl ?_
  refine wp_skip ?_
  refine k21 _ _ ?_
  try clear k21 K21
  refine wp_seq_k (fun K25 k25=>?_)
  refine rg [0,1,2,3,4,5,6,7,8,9,10] ?_
  refine sv 36 v ?_
  refine sv 37 (.int .i64 ((D:Int))) ?_
  refine se ?_
  have hlen26:=rs_len R m D
  have hple26:=rs_ple R m D
  refine ec 38 (mx_reduced (by omega) (by omega) (by omega) (by omega) (by omega) hz (hs.gr (stab_rw (stab_rat K) 71 4) hB)) ?_
  rintro e26 w26 ⟨⟨u26,v26,p26,q26,r26,s26,rfl,hs26,hp26,h26⟩,g26⟩
  refine ⟨_,rfl,?_⟩
  replace hB:=hB.trans g26
  have lehc26:=Below.size hB
  have hc26:=Gr.refl w26
  simp only [p3,p4]
  refine sv 35 (.tuple #[u26,v26,(.agg #[p26,q26,r26,s26])]) ?_
  refine sv 39 u26 ?_
  refine sv 40 v26 ?_
  refine sv 41 (.agg #[p26,q26,r26,s26]) ?_
  refine se ?_
  refine ea 71 #[(.bool false),(.slice none 0 0),(.bool false),(.slice none 0 0)] 9 hB fun b27 w27 g27 L27 o27 q27 hB=>?_
  have q27_hc26:=Nat.le_trans (Below.size hc26) o27
  replace hc26:=hc26.trans g27
  simp only [p3,p4]
  refine sv 7 u26 ?_
  refine sv 8 v26 ?_
  refine se ?_
  have lo28:=L27
  refine es 71 0 (.agg #[p26,q26,r26,s26]) [p26,q26,r26,s26] #[p26,q26,r26,s26] L27 hB q27 ⟨h26.one0,h26.one1,h26.one2,h26.one3,trivial⟩ fun w28 st28 kp28 L27 hB=>?_
  replace hc26:=st28.gr hc26 q27_hc26
  refine sq_nil ?_
  refine k25 _ _ ?_
  try clear k25 K25
  refine wp_seq_k (fun K29 k29=>?_)
  refine rg [0] ?_
  refine sv 10 (.slice none 0 0) ?_
  refine sq_nil ?_
  refine k29 _ _ ?_
  try clear k29 K29
  refine wp_seq_k (fun K30 k30=>?_)
  refine wp_seq_k (fun K31 k31=>?_)
  refine rg [0,1] ?_
  refine sv 42 (.int .i64 ((D:Int))) ?_
  refine sv 43 (.int .i64 0) ?_
  refine sq_nil ?_
  refine k31 _ _ ?_
  try clear k31 K31
  refine wp_block ?_
  refine wp_loop_inv (a:=⟨List.toArray ?l32,[]⟩) (fun n a w'=>∃ (f:Nat) (vo:Value) (u32:Nat→Value),D - f=n∧a=⟨[v,(.int .i64 ((D:Int))),undef,undef,(.slice none 0 0),(.int .i64 0),(.int .i64 0),u26,v26,(u32 9),vo,(u32 11),(u32 12),(u32 13),(u32 14),(u32 15),(u32 16),(u32 17),(.bool false),undef,(u32 20),(u32 21),(u32 22),(u32 23),(u32 24),(u32 25),(u32 26),(u32 27),(.bool false),(u32 29),(u32 30),(u32 31),(u32 32),(u32 33),(.bool false),(u32 35),(u32 36),(u32 37),(u32 38),(u32 39),(u32 40),(u32 41),(.int .i64 ((D:Int))),(.int .i64 ((f:Int))),(u32 44),(u32 45),(u32 46),(u32 47),(u32 48),(u32 49),(u32 50),(u32 51),(u32 52),(u32 53),(u32 54),(u32 55),(u32 56),(u32 57),(u32 58),(u32 59),(u32 60),(u32 61),(u32 62),(u32 63),(u32 64),(u32 65),(u32 66),(u32 67),(u32 68),(u32 69),(u32 70),(u32 71),(u32 72),(u32 73),(u32 74),(u32 75),(u32 76),(u32 77),(u32 78),undef].toArray,[]⟩∧f≤D∧Ow (ERw (ERat K) 71 4) 49 1 w' w26.heap.size vo (tb (fun z0=>tb (fun z1=>kv (rs R m D) (frc R m D f z0) z1) D) (nfr R m D f))∧Gr w26 w'∧Gr w w') (D - 0) ?_ ?_
  ·exact ⟨0,(.slice none 0 0),(fun i=>List.getD ?l32 i undef),rfl,rfl,(Nat.zero_le _),(Ow.nil _ _ _ _ _),hc26,hB⟩
  rintro n32 a32 w32 ⟨f,vo,u32,rfl,rfl,hkf,oo,hc26,hB⟩ K32 k32
  have lehC:=Below.size hB
  have lehC_hc26:=Below.size hc26
  have hC:=Gr.refl w32
  refine wp_seq_k (fun K33 k33=>?_)
  refine rg [0] ?_
  refine sv 44 (.bool (decide ((f:Int)<(D:Int)))) ?_
  refine sq_nil ?_
  refine k33 _ _ ?_
  try clear k33 K33
  refine wp_seq_k (fun K34 k34=>?_)
  refine wp_cond_split (t:=decide ((f:Int)<(D:Int))) rfl (fun hb35=>?_) (fun hb35=>?_)
  ·have hlf:f<D:=by have:=of_decide_eq_true hb35;omega
   have hnf:=nfr_le R m D f
   refine wp_skip ?_
   refine k34 _ _ ?_
   try clear k34 K34
   refine wp_seq_k (fun K36 k36=>?_)
   refine wp_block ?_
   refine wp_seq_k (fun K37 k37=>?_)
   refine rg [0,1] ?_
   refine sv 45 (.int .i64 ((f:Int))) ?_
   refine sv 11 (.int .i64 ((f:Int))) ?_
   refine sq_nil ?_
   refine k37 _ _ ?_
   try clear k37 K37
   refine wp_seq_k (fun K38 k38=>?_)
   refine wp_seq_k (fun K39 k39=>?_)
   refine rg [0,1,2] ?_
   refine sv 46 v26 ?_
   refine sv 47 (.int .i64 ((f:Int))) ?_
   refine se ?_
   refine ec 48 (sl_contains (z:=(f:Int)) (by omega) (hp26.gr stab_i64 hc26)) ?_
   rintro e40 w40 ⟨rfl,g40⟩
   refine ⟨_,rfl,?_⟩
   replace hB:=hB.trans g40
   replace hc26:=hc26.trans g40
   replace hC:=hC.trans g40
   simp only [p3,p4]
   refine sq_nil ?_
   refine k39 _ _ ?_
   try clear k39 K39
   refine wp_cond_split (t:=hasI (fun z1=>((pv (rs R m D) z1:Nat):Int)) (pl R m D) (f:Int)) rfl (fun hb41=>?_) (fun hb41=>?_)
   ·have hip:isP R m D f=true:=hb41
    refine wp_exit ?_
    simp only [Exit.then,Exit.inBlock,↓reduceIte]
    refine k36 _ _ ?_
    try clear k36 K36
    refine rg [0,1] ?_
    refine sw 78 (.int .i64 (((f:Int)+1))) rfl (RunV.int (x:=IntKind.i64.wrap (((f:Int)+1))) (y:=((f:Int)+1)) (rvk (by kernel_rfl)) (by first | rfl | (rw [IntKind.wrap_i64];omega))) ?_
    refine sv 43 (.int .i64 (((f:Int)+1))) ?_
    refine sq_nil ?_
    refine k32 (D - (f+1)) ⟨List.toArray ?l42,[]⟩ _ (by omega) ?_
    exact ⟨f+1,vo,(fun i=>List.getD ?l42 i undef),rfl,rfl,(by omega),((oo.gr (stab_rw (stab_rat K) 71 4) hC).cast (fr_yes hip)),hc26,hB⟩
   ·have hip:isP R m D f=false:=hb41
    refine wp_skip ?_
    refine k38 _ _ ?_
    try clear k38 K38
    refine wp_seq_k (fun K43 k43=>?_)
    refine rg [0,1,2] ?_
    refine sv 49 (.int .i64 ((D:Int))) ?_
    refine se ?_
    refine eff_mk (E:=(ERat K)) (0:Rat) 49 71 (.agg #[(.bool false),(.slice none 0 0),(.bool false),(.slice none 0 0)]) D 4 64 (some 50) rfl rfl rfl rfl (by kernel_rfl) (by kernel_rfl) (by decide) (by omega) (by decide) (fun w2=>erat_zero K hK w2) (fun b44 w44 g44 mk44 q44=>?_)
    have q44_hc26:=Nat.le_trans (Below.size hc26) q44
    have q44_hC:=Nat.le_trans (Below.size hC) q44
    replace q44:=Nat.le_trans (Below.size hB) q44
    replace hB:=hB.trans g44
    replace hc26:=hc26.trans g44
    replace hC:=hC.trans g44
    simp only [putl,p3,p4]
    refine sv 12 (.slice (some ⟨b44,0,none⟩) D D) ?_
    refine sq_nil ?_
    refine k43 _ _ ?_
    try clear k43 K43
    refine wp_seq_k (fun K45 k45=>?_)
    refine rg [0,1,2,3,4] ?_
    refine sv 51 (.slice (some ⟨b44,0,none⟩) D D) ?_
    refine sv 52 (.int .i64 ((f:Int))) ?_
    refine se ?_
    refine ec 53 (from_r (1) (by omega) (by omega) _) ?_
    rintro e46 w46 ⟨⟨p46,q46,r46,s46,rfl,h46⟩,g46⟩
    refine ⟨_,rfl,?_⟩
    replace hB:=hB.trans g46
    replace hc26:=hc26.trans g46
    replace hC:=hC.trans g46
    simp only [p3,p4]
    refine sw 54 (adr (.slice (some ⟨b44,0,none⟩) D D) (f*4)) rfl (rv_idxn (e:=71) (n:=D) (mk44.sl_n (n:=D) (cap:=D) (List.length_replicate) (Nat.le_refl _)) (List.length_replicate) (by decide) f (by omega) _ _ _ rfl rfl rfl (by kernel_rfl) (by kernel_rfl)) ?_
    refine se ?_
    replace mk44:=mk44.gr (stab_rat K) g46
    refine eff_stm (stab_rat K) mk44 f (by rw [List.length_replicate];omega) (((1:Int):Rat)) (.agg #[p46,q46,r46,s46]) [p46,q46,r46,s46] (D) (D) 71 _ _ rfl rfl rfl rfl rfl (by kernel_rfl) rfl ⟨h46.one0,h46.one1,h46.one2,h46.one3,trivial⟩ ⟨_,_,_,_,rfl,h46.mono (by omega)⟩ (by decide) (fun w47 st47 kt47 mk47=>?_)
    replace hB:=st47.gr hB q44
    replace hc26:=st47.gr hc26 q44_hc26
    replace hC:=st47.gr hC q44_hC
    refine sq_nil ?_
    refine k45 _ _ ?_
    try clear k45 K45
    refine wp_seq_k (fun K48 k48=>?_)
    refine wp_seq_k (fun K49 k49=>?_)
    refine rg [0,1,2] ?_
    refine sv 55 v26 ?_
    refine sw 56 (.int .i64 (((pl R m D:Nat):Int))) rfl (rv_lenn (e:=3) hp26 (tb_lenz rfl) _ _ rfl rfl (by kernel_rfl)) ?_
    refine sv 57 (.int .i64 0) ?_
    refine sq_nil ?_
    refine k49 _ _ ?_
    try clear k49 K49
    refine wp_block ?_
    refine wp_loop_inv (a:=⟨List.toArray ?l50,[]⟩) (fun n a w'=>∃ (j:Nat) (u50:Nat→Value),pl R m D - j=n∧a=⟨[v,(.int .i64 ((D:Int))),undef,undef,(.slice none 0 0),(.int .i64 0),(.int .i64 0),u26,v26,(u50 9),vo,(.int .i64 ((f:Int))),(.slice (some ⟨b44,0,none⟩) D D),(u50 13),(u50 14),(u50 15),(u50 16),(u50 17),(.bool false),undef,(u50 20),(u50 21),(u50 22),(u50 23),(u50 24),(u50 25),(u50 26),(u50 27),(.bool false),(u50 29),(u50 30),(u50 31),(u50 32),(u50 33),(.bool false),(u50 35),(u50 36),(u50 37),(u50 38),(u50 39),(u50 40),(u50 41),(.int .i64 ((D:Int))),(.int .i64 ((f:Int))),(.bool (decide ((f:Int)<(D:Int)))),(u50 45),(u50 46),(u50 47),(.bool (hasI (fun z1=>((pv (rs R m D) z1:Nat):Int)) (pl R m D) (f:Int))),(u50 49),(u50 50),(u50 51),(u50 52),(u50 53),(u50 54),v26,(.int .i64 (((pl R m D:Nat):Int))),(.int .i64 ((j:Int))),(u50 58),(u50 59),(u50 60),(u50 61),(u50 62),(u50 63),(u50 64),(u50 65),(u50 66),(u50 67),(u50 68),(u50 69),(u50 70),(u50 71),(u50 72),(u50 73),(u50 74),(u50 75),(u50 76),(u50 77),(u50 78),undef].toArray,[]⟩∧j≤pl R m D∧Mk (ERat K) 71 4 w' b44 (tb (fun z1=>kvp R m D f j z1) D)∧Gr w26 w'∧Gr w32 w'∧Gr w w') (pl R m D - 0) ?_ ?_
    ·exact ⟨0,(fun i=>List.getD ?l50 i undef),rfl,rfl,(Nat.zero_le _),(mk47.cast kvp_zero),hc26,hC,hB⟩
    rintro n50 a50 w50 ⟨j,u50,rfl,rfl,hkj,mx,hc26,hC,hB⟩ K50 k50
    refine wp_seq_k (fun K51 k51=>?_)
    refine rg [0] ?_
    refine sv 58 (.bool (decide ((j:Int)<((pl R m D:Nat):Int)))) ?_
    refine sq_nil ?_
    refine k51 _ _ ?_
    try clear k51 K51
    refine wp_seq_k (fun K52 k52=>?_)
    refine wp_cond_split (t:=decide ((j:Int)<((pl R m D:Nat):Int))) rfl (fun hb53=>?_) (fun hb53=>?_)
    ·have hlj:j<pl R m D:=by have:=of_decide_eq_true hb53;omega
     have hpj:=rs_pv hlj
     refine wp_skip ?_
     refine k52 _ _ ?_
     try clear k52 K52
     refine wp_seq_k (fun K54 k54=>?_)
     refine wp_block ?_
     refine wp_seq_k (fun K55 k55=>?_)
     refine rg [0,1,2,3,4] ?_
     refine sv 59 (.int .i64 ((j:Int))) ?_
     refine sw 60 (adr v26 (j*1)) rfl (rv_idxn (e:=3) hp26 tb_len (by decide) j (by omega) _ _ _ rfl rfl rfl (by kernel_rfl) (by kernel_rfl)) ?_
     obtain ⟨_,_,rfl,at56⟩:=Sl.get hp26 (by decide) (tb_get (f:=(fun z1=>((pv (rs R m D) z1:Nat):Int))) (n:=(pl R m D)) (i:=j) (by omega))
     refine sw 61 (.int .i64 (((pv (rs R m D) j:Nat):Int))) rfl (rv_ld1 (.int .i64 (((pv (rs R m D) j:Nat):Int))) (at56.gr hc26) _ _ rfl rfl (by kernel_rfl)) ?_
     refine sv 13 (.int .i64 ((j:Int))) ?_
     refine sv 14 (.int .i64 (((pv (rs R m D) j:Nat):Int))) ?_
     refine sq_nil ?_
     refine k55 _ _ ?_
     try clear k55 K55
     refine rg [0,1,2,3,4,5,6,7,8,9,10,11] ?_
     refine sv 62 (.slice (some ⟨b44,0,none⟩) D D) ?_
     refine sv 63 (.int .i64 (((pv (rs R m D) j:Nat):Int))) ?_
     refine sv 64 u26 ?_
     refine sv 65 (.int .i64 ((j:Int))) ?_
     refine sw 66 (adr u26 (j*1)) rfl (rv_idxn (e:=49) hs26 tb_len (by decide) j (by omega) _ _ _ rfl rfl rfl (by kernel_rfl) (by kernel_rfl)) ?_
     obtain ⟨_,_,⟨u57,rfl,hr57⟩,at57⟩:=Sl.get hs26 (by decide) (tb_get (f:=(fun z0=>tb (fun z1=>((rs R m D).m z0 z1)) D)) (n:=R) (i:=j) (by omega))
     refine sw 67 u57 rfl (rv_ld1 u57 (at57.gr hc26) _ _ rfl rfl (by kernel_rfl)) ?_
     refine sv 68 (.int .i64 ((f:Int))) ?_
     refine sw 69 (adr u57 (f*4)) rfl (rv_idxn (e:=71) hr57 tb_len (by decide) f (by omega) _ _ _ rfl rfl rfl (by kernel_rfl) (by kernel_rfl)) ?_
     obtain ⟨_,_,⟨cA58,cB58,cC58,cD58,rfl,h58⟩,at58⟩:=Sl.get hr57 (by decide) (tb_get (f:=(fun z1=>((rs R m D).m j z1))) (n:=D) (i:=f) (by omega))
     refine sw 70 (.agg #[cA58,cB58,cC58,cD58]) rfl (rv_ldn [cA58,cB58,cC58,cD58] (at58.gr hc26) _ _ rfl rfl (by kernel_rfl)) ?_
     refine se ?_
     refine ec 71 (neg_r (h58.kp hc26.kp)) ?_
     rintro e59 w59 ⟨⟨p59,q59,r59,s59,rfl,h59⟩,g59⟩
     refine ⟨_,rfl,?_⟩
     replace hB:=hB.trans g59
     replace hc26:=hc26.trans g59
     replace hC:=hC.trans g59
     simp only [p3,p4]
     refine sw 72 (adr (.slice (some ⟨b44,0,none⟩) D D) ((pv (rs R m D) j)*4)) rfl (rv_idxn (e:=71) (n:=D) (mx.sl_n (n:=D) (cap:=D) (tb_len) (Nat.le_refl _)) (tb_len) (by decide) (pv (rs R m D) j) (by omega) _ _ _ rfl rfl rfl (by kernel_rfl) (by kernel_rfl)) ?_
     refine se ?_
     replace mx:=mx.gr (stab_rat K) g59
     refine eff_stm (stab_rat K) mx (pv (rs R m D) j) (by rw [tb_len];omega) ((-((rs R m D).m j f))) (.agg #[p59,q59,r59,s59]) [p59,q59,r59,s59] (D) (D) 71 _ _ rfl rfl rfl rfl rfl (by kernel_rfl) rfl ⟨h59.one0,h59.one1,h59.one2,h59.one3,trivial⟩ ⟨_,_,_,_,rfl,h59.mono (by omega)⟩ (by decide) (fun w60 st60 kt60 mk60=>?_)
     replace hB:=st60.gr hB q44
     replace hc26:=st60.gr hc26 q44_hc26
     replace hC:=st60.gr hC q44_hC
     refine sq_nil ?_
     refine k54 _ _ ?_
     try clear k54 K54
     refine rg [0,1] ?_
     refine sw 73 (.int .i64 (((j:Int)+1))) rfl (RunV.int (x:=IntKind.i64.wrap (((j:Int)+1))) (y:=((j:Int)+1)) (rvk (by kernel_rfl)) (by first | rfl | (rw [IntKind.wrap_i64];omega))) ?_
     refine sv 57 (.int .i64 (((j:Int)+1))) ?_
     refine sq_nil ?_
     refine k50 (pl R m D - (j+1)) ⟨List.toArray ?l61,[]⟩ _ (by omega) ?_
     exact ⟨j+1,(fun i=>List.getD ?l61 i undef),rfl,rfl,(by omega),(mk60.cast (kvp_set hlj (isP_no hip hlj) rfl)),hc26,hC,hB⟩
    ·have hej:pl R m D=j:=by have:=of_decide_eq_false hb53;omega
     subst hej
     refine wp_exit ?_
     simp only [Exit.then,Exit.inBlock,↓reduceIte]
     refine k48 _ _ ?_
     try clear k48 K48
     refine rg [0,1,2,3,4] ?_
     refine sv 74 vo ?_
     refine sv 75 (.slice (some ⟨b44,0,none⟩) D D) ?_
     refine se ?_
     refine eff_bs 49 1 #[(.slice (some ⟨b44,0,none⟩) D D)] (some 76) rfl (fun _=>by kernel_rfl) (fun b62 w62 g62 L62 q62=>?_)
     have q62_hc26:=Nat.le_trans (Below.size hc26) q62
     have q62_hC:=Nat.le_trans (Below.size hC) q62
     replace hB:=hB.trans g62
     replace hc26:=hc26.trans g62
     replace hC:=hC.trans g62
     simp only [putl,p3,p4]
     refine se ?_
     replace mx:=mx.gr (stab_rat K) g62
     refine eff_apg (stab_rw (stab_rat K) 71 4) _ _ 29 49 w26.heap.size (.slice none 0 0) vo (tb (fun z0=>tb (fun z1=>kv (rs R m D) (frc R m D f z0) z1) D) (nfr R m D f)) b62 [(.slice (some ⟨b44,0,none⟩) D D)] (tb (fun z1=>kvp R m D f (pl R m D) z1) D) 1 1 (some 77) 24 rfl rfl rfl rfl (oo.gr (stab_rw (stab_rat K) 71 4) hC) L62 ⟨rfl,trivial⟩ rfl ⟨_,rfl,(mx.sl_n (tb_len) (Nat.le_refl _))⟩ (Below.size hc26) (by rw [tb_len];omega) (by decide) (by kernel_rfl) (by kernel_rfl) (by decide) (by decide) (fun v63 w63 ow63 wt63 hg63=>?_)
     replace hB:=hg63 _ hB lehc26
     replace hc26:=hg63 _ hc26 (Nat.le_refl _)
     replace ow63:=ow63.cast (fr_no hip rfl)
     simp only [putl,p3,p4]
     refine sv 10 v63 ?_
     refine sq_nil ?_
     refine k36 _ _ ?_
     try clear k36 K36
     refine rg [0,1] ?_
     refine sw 78 (.int .i64 (((f:Int)+1))) rfl (RunV.int (x:=IntKind.i64.wrap (((f:Int)+1))) (y:=((f:Int)+1)) (rvk (by kernel_rfl)) (by first | rfl | (rw [IntKind.wrap_i64];omega))) ?_
     refine sv 43 (.int .i64 (((f:Int)+1))) ?_
     refine sq_nil ?_
     refine k32 (D - (f+1)) ⟨List.toArray ?l64,[]⟩ _ (by omega) ?_
     exact ⟨f+1,v63,(fun i=>List.getD ?l64 i undef),rfl,rfl,(by omega),ow63,hc26,hB⟩
  ·have hef:D=f:=by have:=of_decide_eq_false hb35;omega
   refine wp_exit ?_
   simp only [Exit.then,Exit.inBlock,↓reduceIte]
   refine k30 _ _ ?_
   try clear k30 K30
   refine wp_seq_k (fun K65 k65=>?_)
   refine rg [0,1,2] ?_
   refine sv 79 vo ?_
   refine sv 4 vo ?_
   refine sv 5 (.int .i64 0) ?_
   refine sq_nil ?_
   refine k65 _ _ ?_
   try clear k65 K65
   refine wp_ret ?_
   refine bodyPost_ret (v:=(.tuple #[vo,(.int .i64 0)])) (ret_tmp2 rfl rfl rfl) rfl ⟨?_,hB⟩
   exact (by subst hef;exact ⟨_,rfl,((oo.gr (stab_rw (stab_rat K) 71 4) hC).sl)⟩)
 ·have hq66:¬ ((0:Int)<(R:Int)):=of_decide_eq_false hb17
  refine swk 23 (.bool false) [(4,24),(5,25),(6,26),(7,27)] rfl (RunV.bool (x:=decide ((0:Int)<(R:Int))) (rvk (by kernel_rfl)) hb17) ?_
  refine sv 28 (.bool false) ?_
  refine sq_nil ?_
  refine k16 _ _ ?_
  try clear k16 K16
  refine wp_cond_false rfl ?_
  refine wp_skip ?_
  refine k15 _ _ ?_
  try clear k15 K15
  refine wp_seq_k (fun K67 k67=>?_)
  refine wp_seq_k (fun K68 k68=>?_)
  refine rg [0,1,2,3,4,5] ?_
  refine sv 29 (.int .i64 ((D:Int))) ?_
  have hb69:(decide ((D:Int)<(0:Int)))=false:=(by simp only [decide_eq_false_iff_not];omega)
  refine sw 30 (.bool false) rfl (RunV.bool (x:=decide ((D:Int)<(0:Int))) (rvk (by kernel_rfl)) hb69) ?_
  refine sv 31 (.bool false) ?_
  refine sv 32 (.int .i64 ((D:Int))) ?_
  have hb70:(decide ((96:Int)<(D:Int)))=false:=(by simp only [decide_eq_false_iff_not];omega)
  refine sw 33 (.bool false) rfl (RunV.bool (x:=decide ((96:Int)<(D:Int))) (rvk (by kernel_rfl)) hb70) ?_
  refine sv 34 (.bool false) ?_
  refine sq_nil ?_
  refine k68 _ _ ?_
  try clear k68 K68
  refine wp_cond_false rfl ?_
  refine wp_skip ?_
  refine k67 _ _ ?_
  try clear k67 K67
  refine wp_seq_k (fun K71 k71=>?_)
  refine rg [0,1,2,3,4,5,6,7,8,9,10] ?_
  refine sv 36 v ?_
  refine sv 37 (.int .i64 ((D:Int))) ?_
  refine se ?_
  have hlen72:=rs_len R m D
  have hple72:=rs_ple R m D
  refine ec 38 (mx_reduced (by omega) (by omega) (by omega) (by omega) (by omega) hz (hs.gr (stab_rw (stab_rat K) 71 4) hB)) ?_
  rintro e72 w72 ⟨⟨u72,v72,p72,q72,r72,s72,rfl,hs72,hp72,h72⟩,g72⟩
  refine ⟨_,rfl,?_⟩
  replace hB:=hB.trans g72
  have lehc72:=Below.size hB
  have hc72:=Gr.refl w72
  simp only [p3,p4]
  refine sv 35 (.tuple #[u72,v72,(.agg #[p72,q72,r72,s72])]) ?_
  refine sv 39 u72 ?_
  refine sv 40 v72 ?_
  refine sv 41 (.agg #[p72,q72,r72,s72]) ?_
  refine se ?_
  refine ea 71 #[(.bool false),(.slice none 0 0),(.bool false),(.slice none 0 0)] 9 hB fun b73 w73 g73 L73 o73 q73 hB=>?_
  have q73_hc72:=Nat.le_trans (Below.size hc72) o73
  replace hc72:=hc72.trans g73
  simp only [p3,p4]
  refine sv 7 u72 ?_
  refine sv 8 v72 ?_
  refine se ?_
  have lo74:=L73
  refine es 71 0 (.agg #[p72,q72,r72,s72]) [p72,q72,r72,s72] #[p72,q72,r72,s72] L73 hB q73 ⟨h72.one0,h72.one1,h72.one2,h72.one3,trivial⟩ fun w74 st74 kp74 L73 hB=>?_
  replace hc72:=st74.gr hc72 q73_hc72
  refine sq_nil ?_
  refine k71 _ _ ?_
  try clear k71 K71
  refine wp_seq_k (fun K75 k75=>?_)
  refine rg [0] ?_
  refine sv 10 (.slice none 0 0) ?_
  refine sq_nil ?_
  refine k75 _ _ ?_
  try clear k75 K75
  refine wp_seq_k (fun K76 k76=>?_)
  refine wp_seq_k (fun K77 k77=>?_)
  refine rg [0,1] ?_
  refine sv 42 (.int .i64 ((D:Int))) ?_
  refine sv 43 (.int .i64 0) ?_
  refine sq_nil ?_
  refine k77 _ _ ?_
  try clear k77 K77
  refine wp_block ?_
  refine wp_loop_inv (a:=⟨List.toArray ?l78,[]⟩) (fun n a w'=>∃ (f:Nat) (vo:Value) (u78:Nat→Value),D - f=n∧a=⟨[v,(.int .i64 ((D:Int))),undef,undef,(.slice none 0 0),(.int .i64 0),(.int .i64 0),u72,v72,(u78 9),vo,(u78 11),(u78 12),(u78 13),(u78 14),(u78 15),(u78 16),(u78 17),(.bool false),undef,(u78 20),(u78 21),(u78 22),(u78 23),undef,undef,undef,undef,(.bool false),(u78 29),(u78 30),(u78 31),(u78 32),(u78 33),(.bool false),(u78 35),(u78 36),(u78 37),(u78 38),(u78 39),(u78 40),(u78 41),(.int .i64 ((D:Int))),(.int .i64 ((f:Int))),(u78 44),(u78 45),(u78 46),(u78 47),(u78 48),(u78 49),(u78 50),(u78 51),(u78 52),(u78 53),(u78 54),(u78 55),(u78 56),(u78 57),(u78 58),(u78 59),(u78 60),(u78 61),(u78 62),(u78 63),(u78 64),(u78 65),(u78 66),(u78 67),(u78 68),(u78 69),(u78 70),(u78 71),(u78 72),(u78 73),(u78 74),(u78 75),(u78 76),(u78 77),(u78 78),undef].toArray,[]⟩∧f≤D∧Ow (ERw (ERat K) 71 4) 49 1 w' w72.heap.size vo (tb (fun z0=>tb (fun z1=>kv (rs R m D) (frc R m D f z0) z1) D) (nfr R m D f))∧Gr w72 w'∧Gr w w') (D - 0) ?_ ?_
  ·exact ⟨0,(.slice none 0 0),(fun i=>List.getD ?l78 i undef),rfl,rfl,(Nat.zero_le _),(Ow.nil _ _ _ _ _),hc72,hB⟩
  rintro n78 a78 w78 ⟨f,vo,u78,rfl,rfl,hkf,oo,hc72,hB⟩ K78 k78
  have lehC:=Below.size hB
  have lehC_hc72:=Below.size hc72
  have hC:=Gr.refl w78
  refine wp_seq_k (fun K79 k79=>?_)
  refine rg [0] ?_
  refine sv 44 (.bool (decide ((f:Int)<(D:Int)))) ?_
  refine sq_nil ?_
  refine k79 _ _ ?_
  try clear k79 K79
  refine wp_seq_k (fun K80 k80=>?_)
  refine wp_cond_split (t:=decide ((f:Int)<(D:Int))) rfl (fun hb81=>?_) (fun hb81=>?_)
  ·have hlf:f<D:=by have:=of_decide_eq_true hb81;omega
   have hnf:=nfr_le R m D f
   refine wp_skip ?_
   refine k80 _ _ ?_
   try clear k80 K80
   refine wp_seq_k (fun K82 k82=>?_)
   refine wp_block ?_
   refine wp_seq_k (fun K83 k83=>?_)
   refine rg [0,1] ?_
   refine sv 45 (.int .i64 ((f:Int))) ?_
   refine sv 11 (.int .i64 ((f:Int))) ?_
   refine sq_nil ?_
   refine k83 _ _ ?_
   try clear k83 K83
   refine wp_seq_k (fun K84 k84=>?_)
   refine wp_seq_k (fun K85 k85=>?_)
   refine rg [0,1,2] ?_
   refine sv 46 v72 ?_
   refine sv 47 (.int .i64 ((f:Int))) ?_
   refine se ?_
   refine ec 48 (sl_contains (z:=(f:Int)) (by omega) (hp72.gr stab_i64 hc72)) ?_
   rintro e86 w86 ⟨rfl,g86⟩
   refine ⟨_,rfl,?_⟩
   replace hB:=hB.trans g86
   replace hc72:=hc72.trans g86
   replace hC:=hC.trans g86
   simp only [p3,p4]
   refine sq_nil ?_
   refine k85 _ _ ?_
   try clear k85 K85
   refine wp_cond_split (t:=hasI (fun z1=>((pv (rs R m D) z1:Nat):Int)) (pl R m D) (f:Int)) rfl (fun hb87=>?_) (fun hb87=>?_)
   ·have hip:isP R m D f=true:=hb87
    refine wp_exit ?_
    simp only [Exit.then,Exit.inBlock,↓reduceIte]
    refine k82 _ _ ?_
    try clear k82 K82
    refine rg [0,1] ?_
    refine sw 78 (.int .i64 (((f:Int)+1))) rfl (RunV.int (x:=IntKind.i64.wrap (((f:Int)+1))) (y:=((f:Int)+1)) (rvk (by kernel_rfl)) (by first | rfl | (rw [IntKind.wrap_i64];omega))) ?_
    refine sv 43 (.int .i64 (((f:Int)+1))) ?_
    refine sq_nil ?_
    refine k78 (D - (f+1)) ⟨List.toArray ?l88,[]⟩ _ (by omega) ?_
    exact ⟨f+1,vo,(fun i=>List.getD ?l88 i undef),rfl,rfl,(by omega),((oo.gr (stab_rw (stab_rat K) 71 4) hC).cast (fr_yes hip)),hc72,hB⟩
   ·have hip:isP R m D f=false:=hb87
    refine wp_skip ?_
    refine k84 _ _ ?_
    try clear k84 K84
    refine wp_seq_k (fun K89 k89=>?_)
    refine rg [0,1,2] ?_
    refine sv 49 (.int .i64 ((D:Int))) ?_
    refine se ?_
    refine eff_mk (E:=(ERat K)) (0:Rat) 49 71 (.agg #[(.bool false),(.slice none 0 0),(.bool false),(.slice none 0 0)]) D 4 64 (some 50) rfl rfl rfl rfl (by kernel_rfl) (by kernel_rfl) (by decide) (by omega) (by decide) (fun w2=>erat_zero K hK w2) (fun b90 w90 g90 mk90 q90=>?_)
    have q90_hc72:=Nat.le_trans (Below.size hc72) q90
    have q90_hC:=Nat.le_trans (Below.size hC) q90
    replace q90:=Nat.le_trans (Below.size hB) q90
    replace hB:=hB.trans g90
    replace hc72:=hc72.trans g90
    replace hC:=hC.trans g90
    simp only [putl,p3,p4]
    refine sv 12 (.slice (some ⟨b90,0,none⟩) D D) ?_
    refine sq_nil ?_
    refine k89 _ _ ?_
    try clear k89 K89
    refine wp_seq_k (fun K91 k91=>?_)
    refine rg [0,1,2,3,4] ?_
    refine sv 51 (.slice (some ⟨b90,0,none⟩) D D) ?_
    refine sv 52 (.int .i64 ((f:Int))) ?_
    refine se ?_
    refine ec 53 (from_r (1) (by omega) (by omega) _) ?_
    rintro e92 w92 ⟨⟨p92,q92,r92,s92,rfl,h92⟩,g92⟩
    refine ⟨_,rfl,?_⟩
    replace hB:=hB.trans g92
    replace hc72:=hc72.trans g92
    replace hC:=hC.trans g92
    simp only [p3,p4]
    refine sw 54 (adr (.slice (some ⟨b90,0,none⟩) D D) (f*4)) rfl (rv_idxn (e:=71) (n:=D) (mk90.sl_n (n:=D) (cap:=D) (List.length_replicate) (Nat.le_refl _)) (List.length_replicate) (by decide) f (by omega) _ _ _ rfl rfl rfl (by kernel_rfl) (by kernel_rfl)) ?_
    refine se ?_
    replace mk90:=mk90.gr (stab_rat K) g92
    refine eff_stm (stab_rat K) mk90 f (by rw [List.length_replicate];omega) (((1:Int):Rat)) (.agg #[p92,q92,r92,s92]) [p92,q92,r92,s92] (D) (D) 71 _ _ rfl rfl rfl rfl rfl (by kernel_rfl) rfl ⟨h92.one0,h92.one1,h92.one2,h92.one3,trivial⟩ ⟨_,_,_,_,rfl,h92.mono (by omega)⟩ (by decide) (fun w93 st93 kt93 mk93=>?_)
    replace hB:=st93.gr hB q90
    replace hc72:=st93.gr hc72 q90_hc72
    replace hC:=st93.gr hC q90_hC
    refine sq_nil ?_
    refine k91 _ _ ?_
    try clear k91 K91
    refine wp_seq_k (fun K94 k94=>?_)
    refine wp_seq_k (fun K95 k95=>?_)
    refine rg [0,1,2] ?_
    refine sv 55 v72 ?_
    refine sw 56 (.int .i64 (((pl R m D:Nat):Int))) rfl (rv_lenn (e:=3) hp72 (tb_lenz rfl) _ _ rfl rfl (by kernel_rfl)) ?_
    refine sv 57 (.int .i64 0) ?_
    refine sq_nil ?_
    refine k95 _ _ ?_
    try clear k95 K95
    refine wp_block ?_
    refine wp_loop_inv (a:=⟨List.toArray ?l96,[]⟩) (fun n a w'=>∃ (j:Nat) (u96:Nat→Value),pl R m D - j=n∧a=⟨[v,(.int .i64 ((D:Int))),undef,undef,(.slice none 0 0),(.int .i64 0),(.int .i64 0),u72,v72,(u96 9),vo,(.int .i64 ((f:Int))),(.slice (some ⟨b90,0,none⟩) D D),(u96 13),(u96 14),(u96 15),(u96 16),(u96 17),(.bool false),undef,(u96 20),(u96 21),(u96 22),(u96 23),undef,undef,undef,undef,(.bool false),(u96 29),(u96 30),(u96 31),(u96 32),(u96 33),(.bool false),(u96 35),(u96 36),(u96 37),(u96 38),(u96 39),(u96 40),(u96 41),(.int .i64 ((D:Int))),(.int .i64 ((f:Int))),(.bool (decide ((f:Int)<(D:Int)))),(u96 45),(u96 46),(u96 47),(.bool (hasI (fun z1=>((pv (rs R m D) z1:Nat):Int)) (pl R m D) (f:Int))),(u96 49),(u96 50),(u96 51),(u96 52),(u96 53),(u96 54),v72,(.int .i64 (((pl R m D:Nat):Int))),(.int .i64 ((j:Int))),(u96 58),(u96 59),(u96 60),(u96 61),(u96 62),(u96 63),(u96 64),(u96 65),(u96 66),(u96 67),(u96 68),(u96 69),(u96 70),(u96 71),(u96 72),(u96 73),(u96 74),(u96 75),(u96 76),(u96 77),(u96 78),undef].toArray,[]⟩∧j≤pl R m D∧Mk (ERat K) 71 4 w' b90 (tb (fun z1=>kvp R m D f j z1) D)∧Gr w72 w'∧Gr w78 w'∧Gr w w') (pl R m D - 0) ?_ ?_
    ·exact ⟨0,(fun i=>List.getD ?l96 i undef),rfl,rfl,(Nat.zero_le _),(mk93.cast kvp_zero),hc72,hC,hB⟩
    rintro n96 a96 w96 ⟨j,u96,rfl,rfl,hkj,mx,hc72,hC,hB⟩ K96 k96
    refine wp_seq_k (fun K97 k97=>?_)
    refine rg [0] ?_
    refine sv 58 (.bool (decide ((j:Int)<((pl R m D:Nat):Int)))) ?_
    refine sq_nil ?_
    refine k97 _ _ ?_
    try clear k97 K97
    refine wp_seq_k (fun K98 k98=>?_)
    refine wp_cond_split (t:=decide ((j:Int)<((pl R m D:Nat):Int))) rfl (fun hb99=>?_) (fun hb99=>?_)
    ·have hlj:j<pl R m D:=by have:=of_decide_eq_true hb99;omega
     have hpj:=rs_pv hlj
     refine wp_skip ?_
     refine k98 _ _ ?_
     try clear k98 K98
     refine wp_seq_k (fun K100 k100=>?_)
     refine wp_block ?_
     refine wp_seq_k (fun K101 k101=>?_)
     refine rg [0,1,2,3,4] ?_
     refine sv 59 (.int .i64 ((j:Int))) ?_
     refine sw 60 (adr v72 (j*1)) rfl (rv_idxn (e:=3) hp72 tb_len (by decide) j (by omega) _ _ _ rfl rfl rfl (by kernel_rfl) (by kernel_rfl)) ?_
     obtain ⟨_,_,rfl,at102⟩:=Sl.get hp72 (by decide) (tb_get (f:=(fun z1=>((pv (rs R m D) z1:Nat):Int))) (n:=(pl R m D)) (i:=j) (by omega))
     refine sw 61 (.int .i64 (((pv (rs R m D) j:Nat):Int))) rfl (rv_ld1 (.int .i64 (((pv (rs R m D) j:Nat):Int))) (at102.gr hc72) _ _ rfl rfl (by kernel_rfl)) ?_
     refine sv 13 (.int .i64 ((j:Int))) ?_
     refine sv 14 (.int .i64 (((pv (rs R m D) j:Nat):Int))) ?_
     refine sq_nil ?_
     refine k101 _ _ ?_
     try clear k101 K101
     refine rg [0,1,2,3,4,5,6,7,8,9,10,11] ?_
     refine sv 62 (.slice (some ⟨b90,0,none⟩) D D) ?_
     refine sv 63 (.int .i64 (((pv (rs R m D) j:Nat):Int))) ?_
     refine sv 64 u72 ?_
     refine sv 65 (.int .i64 ((j:Int))) ?_
     refine sw 66 (adr u72 (j*1)) rfl (rv_idxn (e:=49) hs72 tb_len (by decide) j (by omega) _ _ _ rfl rfl rfl (by kernel_rfl) (by kernel_rfl)) ?_
     obtain ⟨_,_,⟨u103,rfl,hr103⟩,at103⟩:=Sl.get hs72 (by decide) (tb_get (f:=(fun z0=>tb (fun z1=>((rs R m D).m z0 z1)) D)) (n:=R) (i:=j) (by omega))
     refine sw 67 u103 rfl (rv_ld1 u103 (at103.gr hc72) _ _ rfl rfl (by kernel_rfl)) ?_
     refine sv 68 (.int .i64 ((f:Int))) ?_
     refine sw 69 (adr u103 (f*4)) rfl (rv_idxn (e:=71) hr103 tb_len (by decide) f (by omega) _ _ _ rfl rfl rfl (by kernel_rfl) (by kernel_rfl)) ?_
     obtain ⟨_,_,⟨cA104,cB104,cC104,cD104,rfl,h104⟩,at104⟩:=Sl.get hr103 (by decide) (tb_get (f:=(fun z1=>((rs R m D).m j z1))) (n:=D) (i:=f) (by omega))
     refine sw 70 (.agg #[cA104,cB104,cC104,cD104]) rfl (rv_ldn [cA104,cB104,cC104,cD104] (at104.gr hc72) _ _ rfl rfl (by kernel_rfl)) ?_
     refine se ?_
     refine ec 71 (neg_r (h104.kp hc72.kp)) ?_
     rintro e105 w105 ⟨⟨p105,q105,r105,s105,rfl,h105⟩,g105⟩
     refine ⟨_,rfl,?_⟩
     replace hB:=hB.trans g105
     replace hc72:=hc72.trans g105
     replace hC:=hC.trans g105
     simp only [p3,p4]
     refine sw 72 (adr (.slice (some ⟨b90,0,none⟩) D D) ((pv (rs R m D) j)*4)) rfl (rv_idxn (e:=71) (n:=D) (mx.sl_n (n:=D) (cap:=D) (tb_len) (Nat.le_refl _)) (tb_len) (by decide) (pv (rs R m D) j) (by omega) _ _ _ rfl rfl rfl (by kernel_rfl) (by kernel_rfl)) ?_
     refine se ?_
     replace mx:=mx.gr (stab_rat K) g105
     refine eff_stm (stab_rat K) mx (pv (rs R m D) j) (by rw [tb_len];omega) ((-((rs R m D).m j f))) (.agg #[p105,q105,r105,s105]) [p105,q105,r105,s105] (D) (D) 71 _ _ rfl rfl rfl rfl rfl (by kernel_rfl) rfl ⟨h105.one0,h105.one1,h105.one2,h105.one3,trivial⟩ ⟨_,_,_,_,rfl,h105.mono (by omega)⟩ (by decide) (fun w106 st106 kt106 mk106=>?_)
     replace hB:=st106.gr hB q90
     replace hc72:=st106.gr hc72 q90_hc72
     replace hC:=st106.gr hC q90_hC
     refine sq_nil ?_
     refine k100 _ _ ?_
     try clear k100 K100
     refine rg [0,1] ?_
     refine sw 73 (.int .i64 (((j:Int)+1))) rfl (RunV.int (x:=IntKind.i64.wrap (((j:Int)+1))) (y:=((j:Int)+1)) (rvk (by kernel_rfl)) (by first | rfl | (rw [IntKind.wrap_i64];omega))) ?_
     refine sv 57 (.int .i64 (((j:Int)+1))) ?_
     refine sq_nil ?_
     refine k96 (pl R m D - (j+1)) ⟨List.toArray ?l107,[]⟩ _ (by omega) ?_
     exact ⟨j+1,(fun i=>List.getD ?l107 i undef),rfl,rfl,(by omega),(mk106.cast (kvp_set hlj (isP_no hip hlj) rfl)),hc72,hC,hB⟩
    ·have hej:pl R m D=j:=by have:=of_decide_eq_false hb99;omega
     subst hej
     refine wp_exit ?_
     simp only [Exit.then,Exit.inBlock,↓reduceIte]
     refine k94 _ _ ?_
     try clear k94 K94
     refine rg [0,1,2,3,4] ?_
     refine sv 74 vo ?_
     refine sv 75 (.slice (some ⟨b90,0,none⟩) D D) ?_
     refine se ?_
     refine eff_bs 49 1 #[(.slice (some ⟨b90,0,none⟩) D D)] (some 76) rfl (fun _=>by kernel_rfl) (fun b108 w108 g108 L108 q108=>?_)
     have q108_hc72:=Nat.le_trans (Below.size hc72) q108
     have q108_hC:=Nat.le_trans (Below.size hC) q108
     replace hB:=hB.trans g108
     replace hc72:=hc72.trans g108
     replace hC:=hC.trans g108
     simp only [putl,p3,p4]
     refine se ?_
     replace mx:=mx.gr (stab_rat K) g108
     refine eff_apg (stab_rw (stab_rat K) 71 4) _ _ 29 49 w72.heap.size (.slice none 0 0) vo (tb (fun z0=>tb (fun z1=>kv (rs R m D) (frc R m D f z0) z1) D) (nfr R m D f)) b108 [(.slice (some ⟨b90,0,none⟩) D D)] (tb (fun z1=>kvp R m D f (pl R m D) z1) D) 1 1 (some 77) 24 rfl rfl rfl rfl (oo.gr (stab_rw (stab_rat K) 71 4) hC) L108 ⟨rfl,trivial⟩ rfl ⟨_,rfl,(mx.sl_n (tb_len) (Nat.le_refl _))⟩ (Below.size hc72) (by rw [tb_len];omega) (by decide) (by kernel_rfl) (by kernel_rfl) (by decide) (by decide) (fun v109 w109 ow109 wt109 hg109=>?_)
     replace hB:=hg109 _ hB lehc72
     replace hc72:=hg109 _ hc72 (Nat.le_refl _)
     replace ow109:=ow109.cast (fr_no hip rfl)
     simp only [putl,p3,p4]
     refine sv 10 v109 ?_
     refine sq_nil ?_
     refine k82 _ _ ?_
     try clear k82 K82
     refine rg [0,1] ?_
     refine sw 78 (.int .i64 (((f:Int)+1))) rfl (RunV.int (x:=IntKind.i64.wrap (((f:Int)+1))) (y:=((f:Int)+1)) (rvk (by kernel_rfl)) (by first | rfl | (rw [IntKind.wrap_i64];omega))) ?_
     refine sv 43 (.int .i64 (((f:Int)+1))) ?_
     refine sq_nil ?_
     refine k78 (D - (f+1)) ⟨List.toArray ?l110,[]⟩ _ (by omega) ?_
     exact ⟨f+1,v109,(fun i=>List.getD ?l110 i undef),rfl,rfl,(by omega),ow109,hc72,hB⟩
  ·have hef:D=f:=by have:=of_decide_eq_false hb81;omega
   refine wp_exit ?_
   simp only [Exit.then,Exit.inBlock,↓reduceIte]
   refine k76 _ _ ?_
   try clear k76 K76
   refine wp_seq_k (fun K111 k111=>?_)
   refine rg [0,1,2] ?_
   refine sv 79 vo ?_
   refine sv 4 vo ?_
   refine sv 5 (.int .i64 0) ?_
   refine sq_nil ?_
   refine k111 _ _ ?_
   try clear k111 K111
   refine wp_ret ?_
   refine bodyPost_ret (v:=(.tuple #[vo,(.int .i64 0)])) (ret_tmp2 rfl rfl rfl) rfl ⟨?_,hB⟩
   exact (by subst hef;exact ⟨_,rfl,((oo.gr (stab_rw (stab_rat K) 71 4) hC).sl)⟩)

set_option maxRecDepth 100000 in
set_option maxHeartbeats 1000000 in
theorem mx_Solve_y {K R N:Nat} {v vb:Value} {m:Mx_} {b:Nat→Rat} (hR:R=0→N=0) (hK:64≤K) (hK2:K≤20000) (_hR2:R≤96) (_hN2:N≤95) (hz:∀ k,k≤N→RdZ R (N+1) K (rs R (wth N m b) k)) (hfit:(∀ t,pl R (wth N m b) N≤t→t<R→(rs R (wth N m b) N).m t N=0)) {w:World} (hs:Sl (ERw (ERat K) 71 4) 49 1 w v (tb (fun z0=>tb (fun z1=>(m z0 z1)) N) R)) (hb:Sl (ERat K) 71 4 w vb (tb (fun z1=>(b z1)) R)):
    Calls Tryz.prog 33 #[v,vb] w fun e w'=>(∃ u,e=.returned (.tuple #[u,.int .i64 0])∧Sl (ERat K) 71 4 w' u (tb (fun z1=>(sol (rs R (wth N m b) N) N z1)) N))∧Gr w w':=by
 go_enter Tryz.func33,Tryz.ntmps33
 have hB:=Gr.refl w
 refine wp_seq_k (fun K10 k10=>?_)
 refine rg [0,1] ?_
 refine sv 4 (.slice none 0 0) ?_
 refine sv 5 (.int .i64 0) ?_
 refine sq_nil ?_
 refine k10 _ _ ?_
 try clear k10 K10
 refine wp_seq_k (fun K11 k11=>?_)
 refine wp_seq_k (fun K12 k12=>?_)
 refine rg [0,1,2] ?_
 refine sv 7 v ?_
 refine se ?_
 refine ec 8 (mx_size (by omega) (by omega) (hs.gr (stab_rw (stab_rat K) 71 4) hB)) ?_
 rintro e13 w13 ⟨rfl,g13⟩
 refine ⟨_,rfl,?_⟩
 replace hB:=hB.trans g13
 simp only [p3,p4]
 refine sv 6 (.int .i64 0) ?_
 refine sq_nil ?_
 refine k12 _ _ ?_
 try clear k12 K12
 refine wp_seq_k (fun K14 k14=>?_)
 refine rg [0,1] ?_
 refine sv 9 (.int .i64 0) ?_
 refine sv 10 (.bool false) ?_
 refine sq_nil ?_
 refine k14 _ _ ?_
 try clear k14 K14
 refine wp_cond_false rfl ?_
 refine wp_skip ?_
 refine k11 _ _ ?_
 try clear k11 K11
 refine wp_seq_k (fun K15 k15=>?_)
 refine wp_seq_k (fun K16 k16=>?_)
 refine rg [0,1,2,3,4] ?_
 refine sv 12 vb ?_
 refine sw 13 (.int .i64 ((R:Int))) rfl (rv_lenn (e:=71) hb (tb_lenz rfl) _ _ rfl rfl (by kernel_rfl)) ?_
 refine sv 14 v ?_
 refine sw 15 (.int .i64 ((R:Int))) rfl (rv_lenn (e:=49) hs (tb_lenz rfl) _ _ rfl rfl (by kernel_rfl)) ?_
 have hb17:(((R:Int) !=(R:Int)))=false:=(by simp)
 refine sw 16 (.bool false) rfl (RunV.bool (x:=((R:Int) !=(R:Int))) (rvk (by kernel_rfl)) hb17) ?_
 refine sq_nil ?_
 refine k16 _ _ ?_
 try clear k16 K16
 refine wp_cond_false rfl ?_
 refine wp_skip ?_
 refine k15 _ _ ?_
 try clear k15 K15
 refine wp_seq_k (fun K18 k18=>?_)
 refine rg [0,1,2,3,4,5,6,7,8,9] ?_
 refine sv 17 v ?_
 refine sv 18 vb ?_
 refine se ?_
 refine ec 19 (mx_with (by omega) (by omega) (hs.gr (stab_rw (stab_rat K) 71 4) hB) (hb.gr (stab_rat K) hB)) ?_
 rintro e19 w19 ⟨⟨u19,rfl,hs19⟩,g19⟩
 refine ⟨_,rfl,?_⟩
 replace hB:=hB.trans g19
 simp only [p3,p4]
 refine sv 20 v ?_
 refine se ?_
 refine ec 21 (mx_columnsp (hs.gr (stab_rw (stab_rat K) 71 4) hB) hR) ?_
 rintro e20 w20 ⟨rfl,g20⟩
 refine ⟨_,rfl,?_⟩
 replace hB:=hB.trans g20
 simp only [p3,p4]
 refine se ?_
 replace hs19:=hs19.gr (stab_rw (stab_rat K) 71 4) g20
 refine ec 22 (mx_solved_y hK hK2 (by omega) (by omega) hz hfit hs19) ?_
 rintro e21 w21 ⟨⟨u21,rfl,hs21⟩,g21⟩
 refine ⟨_,rfl,?_⟩
 replace hB:=hB.trans g21
 simp only [p3,p4]
 refine sv 23 u21 ?_
 refine sv 24 (.int .i64 0) ?_
 refine sv 4 u21 ?_
 refine sv 5 (.int .i64 0) ?_
 refine sq_nil ?_
 refine k18 _ _ ?_
 try clear k18 K18
 refine wp_ret ?_
 refine bodyPost_ret (v:=(.tuple #[u21,(.int .i64 0)])) (ret_tmp2 rfl rfl rfl) rfl ⟨?_,hB⟩
 exact ⟨_,rfl,hs21⟩

set_option maxRecDepth 100000 in
set_option maxHeartbeats 1000000 in
theorem mx_Solve_n {K R N:Nat} {v vb:Value} {m:Mx_} {b:Nat→Rat} (hR:R=0→N=0) (hK:64≤K) (hK2:K≤20000) (_hR2:R≤96) (_hN2:N≤95) (hz:∀ k,k≤N→RdZ R (N+1) K (rs R (wth N m b) k)) (hfit:¬ (∀ t,pl R (wth N m b) N≤t→t<R→(rs R (wth N m b) N).m t N=0)) {w:World} (hs:Sl (ERw (ERat K) 71 4) 49 1 w v (tb (fun z0=>tb (fun z1=>(m z0 z1)) N) R)) (hb:Sl (ERat K) 71 4 w vb (tb (fun z1=>(b z1)) R)):
    Calls Tryz.prog 33 #[v,vb] w fun e w'=>e=.returned (.tuple #[.slice none 0 0,.int .i64 21])∧Gr w w':=by
 go_enter Tryz.func33,Tryz.ntmps33
 have hB:=Gr.refl w
 refine wp_seq_k (fun K10 k10=>?_)
 refine rg [0,1] ?_
 refine sv 4 (.slice none 0 0) ?_
 refine sv 5 (.int .i64 0) ?_
 refine sq_nil ?_
 refine k10 _ _ ?_
 try clear k10 K10
 refine wp_seq_k (fun K11 k11=>?_)
 refine wp_seq_k (fun K12 k12=>?_)
 refine rg [0,1,2] ?_
 refine sv 7 v ?_
 refine se ?_
 refine ec 8 (mx_size (by omega) (by omega) (hs.gr (stab_rw (stab_rat K) 71 4) hB)) ?_
 rintro e13 w13 ⟨rfl,g13⟩
 refine ⟨_,rfl,?_⟩
 replace hB:=hB.trans g13
 simp only [p3,p4]
 refine sv 6 (.int .i64 0) ?_
 refine sq_nil ?_
 refine k12 _ _ ?_
 try clear k12 K12
 refine wp_seq_k (fun K14 k14=>?_)
 refine rg [0,1] ?_
 refine sv 9 (.int .i64 0) ?_
 refine sv 10 (.bool false) ?_
 refine sq_nil ?_
 refine k14 _ _ ?_
 try clear k14 K14
 refine wp_cond_false rfl ?_
 refine wp_skip ?_
 refine k11 _ _ ?_
 try clear k11 K11
 refine wp_seq_k (fun K15 k15=>?_)
 refine wp_seq_k (fun K16 k16=>?_)
 refine rg [0,1,2,3,4] ?_
 refine sv 12 vb ?_
 refine sw 13 (.int .i64 ((R:Int))) rfl (rv_lenn (e:=71) hb (tb_lenz rfl) _ _ rfl rfl (by kernel_rfl)) ?_
 refine sv 14 v ?_
 refine sw 15 (.int .i64 ((R:Int))) rfl (rv_lenn (e:=49) hs (tb_lenz rfl) _ _ rfl rfl (by kernel_rfl)) ?_
 have hb17:(((R:Int) !=(R:Int)))=false:=(by simp)
 refine sw 16 (.bool false) rfl (RunV.bool (x:=((R:Int) !=(R:Int))) (rvk (by kernel_rfl)) hb17) ?_
 refine sq_nil ?_
 refine k16 _ _ ?_
 try clear k16 K16
 refine wp_cond_false rfl ?_
 refine wp_skip ?_
 refine k15 _ _ ?_
 try clear k15 K15
 refine wp_seq_k (fun K18 k18=>?_)
 refine rg [0,1,2,3,4,5,6,7,8,9] ?_
 refine sv 17 v ?_
 refine sv 18 vb ?_
 refine se ?_
 refine ec 19 (mx_with (by omega) (by omega) (hs.gr (stab_rw (stab_rat K) 71 4) hB) (hb.gr (stab_rat K) hB)) ?_
 rintro e19 w19 ⟨⟨u19,rfl,hs19⟩,g19⟩
 refine ⟨_,rfl,?_⟩
 replace hB:=hB.trans g19
 simp only [p3,p4]
 refine sv 20 v ?_
 refine se ?_
 refine ec 21 (mx_columnsp (hs.gr (stab_rw (stab_rat K) 71 4) hB) hR) ?_
 rintro e20 w20 ⟨rfl,g20⟩
 refine ⟨_,rfl,?_⟩
 replace hB:=hB.trans g20
 simp only [p3,p4]
 refine se ?_
 replace hs19:=hs19.gr (stab_rw (stab_rat K) 71 4) g20
 refine ec 22 (mx_solved_n hK hK2 (by omega) (by omega) hz hfit hs19) ?_
 rintro e21 w21 ⟨rfl,g21⟩
 refine ⟨_,rfl,?_⟩
 replace hB:=hB.trans g21
 simp only [p3,p4]
 refine sv 23 (.slice none 0 0) ?_
 refine sv 24 (.int .i64 21) ?_
 refine sv 4 (.slice none 0 0) ?_
 refine sv 5 (.int .i64 21) ?_
 refine sq_nil ?_
 refine k18 _ _ ?_
 try clear k18 K18
 refine wp_ret ?_
 refine bodyPost_ret (v:=(.tuple #[(.slice none 0 0),(.int .i64 21)])) (ret_tmp2 rfl rfl rfl) rfl ⟨?_,hB⟩
 exact rfl

set_option maxRecDepth 100000 in
set_option maxHeartbeats 1000000 in
theorem mx_Combine_y {K R N:Nat} {v vb:Value} {m:Mx_} {b:Nat→Rat} (hR:R=0→N=0) (hK:64≤K) (hK2:K≤20000) (_hR2:R≤96) (_hN2:N≤95) (hz:∀ k,k≤R→RdZ N (R+1) K (rs N (wth R (fun z7 z8=>m z8 z7) b) k)) (hfit:(∀ t,pl N (wth R (fun z7 z8=>m z8 z7) b) R≤t→t<N→(rs N (wth R (fun z7 z8=>m z8 z7) b) R).m t R=0)) {w:World} (hs:Sl (ERw (ERat K) 71 4) 49 1 w v (tb (fun z0=>tb (fun z1=>(m z0 z1)) N) R)) (hb:Sl (ERat K) 71 4 w vb (tb (fun z1=>(b z1)) N)):
    Calls Tryz.prog 36 #[v,vb] w fun e w'=>(∃ u,e=.returned (.tuple #[u,.int .i64 0])∧Sl (ERat K) 71 4 w' u (tb (fun z1=>(sol (rs N (wth R (fun z7 z8=>m z8 z7) b) R) R z1)) R))∧Gr w w':=by
 go_enter Tryz.func36,Tryz.ntmps36
 have hB:=Gr.refl w
 refine wp_seq_k (fun K10 k10=>?_)
 refine rg [0,1] ?_
 refine sv 4 (.slice none 0 0) ?_
 refine sv 5 (.int .i64 0) ?_
 refine sq_nil ?_
 refine k10 _ _ ?_
 try clear k10 K10
 refine wp_seq_k (fun K11 k11=>?_)
 refine wp_seq_k (fun K12 k12=>?_)
 refine rg [0,1,2] ?_
 refine sv 7 v ?_
 refine se ?_
 refine ec 8 (mx_size (by omega) (by omega) (hs.gr (stab_rw (stab_rat K) 71 4) hB)) ?_
 rintro e13 w13 ⟨rfl,g13⟩
 refine ⟨_,rfl,?_⟩
 replace hB:=hB.trans g13
 simp only [p3,p4]
 refine sv 6 (.int .i64 0) ?_
 refine sq_nil ?_
 refine k12 _ _ ?_
 try clear k12 K12
 refine wp_seq_k (fun K14 k14=>?_)
 refine rg [0,1] ?_
 refine sv 9 (.int .i64 0) ?_
 refine sv 10 (.bool false) ?_
 refine sq_nil ?_
 refine k14 _ _ ?_
 try clear k14 K14
 refine wp_cond_false rfl ?_
 refine wp_skip ?_
 refine k11 _ _ ?_
 try clear k11 K11
 refine wp_seq_k (fun K15 k15=>?_)
 refine wp_seq_k (fun K16 k16=>?_)
 refine rg [0,1,2,3,4] ?_
 refine sv 12 vb ?_
 refine sw 13 (.int .i64 ((N:Int))) rfl (rv_lenn (e:=71) hb (tb_lenz rfl) _ _ rfl rfl (by kernel_rfl)) ?_
 refine sv 14 v ?_
 refine se ?_
 refine ec 15 (mx_columnsp (hs.gr (stab_rw (stab_rat K) 71 4) hB) hR) ?_
 rintro e17 w17 ⟨rfl,g17⟩
 refine ⟨_,rfl,?_⟩
 replace hB:=hB.trans g17
 simp only [p3,p4]
 have hb18:(((N:Int) !=(N:Int)))=false:=(by simp)
 refine sw 16 (.bool false) rfl (RunV.bool (x:=((N:Int) !=(N:Int))) (rvk (by kernel_rfl)) hb18) ?_
 refine sq_nil ?_
 refine k16 _ _ ?_
 try clear k16 K16
 refine wp_cond_false rfl ?_
 refine wp_skip ?_
 refine k15 _ _ ?_
 try clear k15 K15
 refine wp_seq_k (fun K19 k19=>?_)
 refine rg [0,1,2,3,4,5,6,7,8,9,10] ?_
 refine sv 17 v ?_
 refine se ?_
 refine ec 18 (mx_transposed hR hK (by omega) (by omega) (hs.gr (stab_rw (stab_rat K) 71 4) hB)) ?_
 rintro e20 w20 ⟨⟨u20,rfl,hs20⟩,g20⟩
 refine ⟨_,rfl,?_⟩
 replace hB:=hB.trans g20
 simp only [p3,p4]
 refine sv 19 vb ?_
 refine se ?_
 refine ec 20 (mx_with (m:=(fun z7 z8=>m z8 z7)) (by omega) (by omega) hs20 (hb.gr (stab_rat K) hB)) ?_
 rintro e21 w21 ⟨⟨u21,rfl,hs21⟩,g21⟩
 refine ⟨_,rfl,?_⟩
 replace hB:=hB.trans g21
 simp only [p3,p4]
 refine sv 21 v ?_
 refine sw 22 (.int .i64 ((R:Int))) rfl (rv_lenn (e:=49) hs (tb_lenz rfl) _ _ rfl rfl (by kernel_rfl)) ?_
 refine se ?_
 refine ec 23 (mx_solved_y hK hK2 (by omega) (by omega) hz hfit hs21) ?_
 rintro e22 w22 ⟨⟨u22,rfl,hs22⟩,g22⟩
 refine ⟨_,rfl,?_⟩
 replace hB:=hB.trans g22
 simp only [p3,p4]
 refine sv 24 u22 ?_
 refine sv 25 (.int .i64 0) ?_
 refine sv 4 u22 ?_
 refine sv 5 (.int .i64 0) ?_
 refine sq_nil ?_
 refine k19 _ _ ?_
 try clear k19 K19
 refine wp_ret ?_
 refine bodyPost_ret (v:=(.tuple #[u22,(.int .i64 0)])) (ret_tmp2 rfl rfl rfl) rfl ⟨?_,hB⟩
 exact ⟨_,rfl,hs22⟩

set_option maxRecDepth 100000 in
set_option maxHeartbeats 1000000 in
theorem mx_Combine_n {K R N:Nat} {v vb:Value} {m:Mx_} {b:Nat→Rat} (hR:R=0→N=0) (hK:64≤K) (hK2:K≤20000) (_hR2:R≤96) (_hN2:N≤95) (hz:∀ k,k≤R→RdZ N (R+1) K (rs N (wth R (fun z7 z8=>m z8 z7) b) k)) (hfit:¬ (∀ t,pl N (wth R (fun z7 z8=>m z8 z7) b) R≤t→t<N→(rs N (wth R (fun z7 z8=>m z8 z7) b) R).m t R=0)) {w:World} (hs:Sl (ERw (ERat K) 71 4) 49 1 w v (tb (fun z0=>tb (fun z1=>(m z0 z1)) N) R)) (hb:Sl (ERat K) 71 4 w vb (tb (fun z1=>(b z1)) N)):
    Calls Tryz.prog 36 #[v,vb] w fun e w'=>e=.returned (.tuple #[.slice none 0 0,.int .i64 21])∧Gr w w':=by
 go_enter Tryz.func36,Tryz.ntmps36
 have hB:=Gr.refl w
 refine wp_seq_k (fun K10 k10=>?_)
 refine rg [0,1] ?_
 refine sv 4 (.slice none 0 0) ?_
 refine sv 5 (.int .i64 0) ?_
 refine sq_nil ?_
 refine k10 _ _ ?_
 try clear k10 K10
 refine wp_seq_k (fun K11 k11=>?_)
 refine wp_seq_k (fun K12 k12=>?_)
 refine rg [0,1,2] ?_
 refine sv 7 v ?_
 refine se ?_
 refine ec 8 (mx_size (by omega) (by omega) (hs.gr (stab_rw (stab_rat K) 71 4) hB)) ?_
 rintro e13 w13 ⟨rfl,g13⟩
 refine ⟨_,rfl,?_⟩
 replace hB:=hB.trans g13
 simp only [p3,p4]
 refine sv 6 (.int .i64 0) ?_
 refine sq_nil ?_
 refine k12 _ _ ?_
 try clear k12 K12
 refine wp_seq_k (fun K14 k14=>?_)
 refine rg [0,1] ?_
 refine sv 9 (.int .i64 0) ?_
 refine sv 10 (.bool false) ?_
 refine sq_nil ?_
 refine k14 _ _ ?_
 try clear k14 K14
 refine wp_cond_false rfl ?_
 refine wp_skip ?_
 refine k11 _ _ ?_
 try clear k11 K11
 refine wp_seq_k (fun K15 k15=>?_)
 refine wp_seq_k (fun K16 k16=>?_)
 refine rg [0,1,2,3,4] ?_
 refine sv 12 vb ?_
 refine sw 13 (.int .i64 ((N:Int))) rfl (rv_lenn (e:=71) hb (tb_lenz rfl) _ _ rfl rfl (by kernel_rfl)) ?_
 refine sv 14 v ?_
 refine se ?_
 refine ec 15 (mx_columnsp (hs.gr (stab_rw (stab_rat K) 71 4) hB) hR) ?_
 rintro e17 w17 ⟨rfl,g17⟩
 refine ⟨_,rfl,?_⟩
 replace hB:=hB.trans g17
 simp only [p3,p4]
 have hb18:(((N:Int) !=(N:Int)))=false:=(by simp)
 refine sw 16 (.bool false) rfl (RunV.bool (x:=((N:Int) !=(N:Int))) (rvk (by kernel_rfl)) hb18) ?_
 refine sq_nil ?_
 refine k16 _ _ ?_
 try clear k16 K16
 refine wp_cond_false rfl ?_
 refine wp_skip ?_
 refine k15 _ _ ?_
 try clear k15 K15
 refine wp_seq_k (fun K19 k19=>?_)
 refine rg [0,1,2,3,4,5,6,7,8,9,10] ?_
 refine sv 17 v ?_
 refine se ?_
 refine ec 18 (mx_transposed hR hK (by omega) (by omega) (hs.gr (stab_rw (stab_rat K) 71 4) hB)) ?_
 rintro e20 w20 ⟨⟨u20,rfl,hs20⟩,g20⟩
 refine ⟨_,rfl,?_⟩
 replace hB:=hB.trans g20
 simp only [p3,p4]
 refine sv 19 vb ?_
 refine se ?_
 refine ec 20 (mx_with (m:=(fun z7 z8=>m z8 z7)) (by omega) (by omega) hs20 (hb.gr (stab_rat K) hB)) ?_
 rintro e21 w21 ⟨⟨u21,rfl,hs21⟩,g21⟩
 refine ⟨_,rfl,?_⟩
 replace hB:=hB.trans g21
 simp only [p3,p4]
 refine sv 21 v ?_
 refine sw 22 (.int .i64 ((R:Int))) rfl (rv_lenn (e:=49) hs (tb_lenz rfl) _ _ rfl rfl (by kernel_rfl)) ?_
 refine se ?_
 refine ec 23 (mx_solved_n hK hK2 (by omega) (by omega) hz hfit hs21) ?_
 rintro e22 w22 ⟨rfl,g22⟩
 refine ⟨_,rfl,?_⟩
 replace hB:=hB.trans g22
 simp only [p3,p4]
 refine sv 24 (.slice none 0 0) ?_
 refine sv 25 (.int .i64 21) ?_
 refine sv 4 (.slice none 0 0) ?_
 refine sv 5 (.int .i64 21) ?_
 refine sq_nil ?_
 refine k19 _ _ ?_
 try clear k19 K19
 refine wp_ret ?_
 refine bodyPost_ret (v:=(.tuple #[(.slice none 0 0),(.int .i64 21)])) (ret_tmp2 rfl rfl rfl) rfl ⟨?_,hB⟩
 exact rfl

set_option maxRecDepth 100000 in
set_option maxHeartbeats 1000000 in
theorem mx_square {K R:Nat} {v:Value} {m:Mx_} (_hR2:R≤96) {w:World} (hs:Sl (ERw (ERat K) 71 4) 49 1 w v (tb (fun z0=>tb (fun z1=>(m z0 z1)) R) R)):
    Calls Tryz.prog 78 #[v] w fun e w'=>e=.returned (.int .i64 0)∧Gr w w':=by
 go_enter Tryz.func78,Tryz.ntmps78
 have hB:=Gr.refl w
 refine wp_seq_k (fun K10 k10=>?_)
 refine rg [0] ?_
 refine sv 2 (.int .i64 0) ?_
 refine sq_nil ?_
 refine k10 _ _ ?_
 try clear k10 K10
 refine wp_seq_k (fun K11 k11=>?_)
 refine wp_seq_k (fun K12 k12=>?_)
 refine rg [0,1,2] ?_
 refine sv 4 v ?_
 refine se ?_
 refine ec 5 (mx_size (by omega) (by omega) (hs.gr (stab_rw (stab_rat K) 71 4) hB)) ?_
 rintro e13 w13 ⟨rfl,g13⟩
 refine ⟨_,rfl,?_⟩
 replace hB:=hB.trans g13
 simp only [p3,p4]
 refine sv 3 (.int .i64 0) ?_
 refine sq_nil ?_
 refine k12 _ _ ?_
 try clear k12 K12
 refine wp_seq_k (fun K14 k14=>?_)
 refine rg [0,1] ?_
 refine sv 6 (.int .i64 0) ?_
 refine sv 7 (.bool false) ?_
 refine sq_nil ?_
 refine k14 _ _ ?_
 try clear k14 K14
 refine wp_cond_false rfl ?_
 refine wp_skip ?_
 refine k11 _ _ ?_
 try clear k11 K11
 refine wp_seq_k (fun K15 k15=>?_)
 refine wp_seq_k (fun K16 k16=>?_)
 refine rg [0,1,2,3,4,5,6,7,8,9] ?_
 refine sv 9 v ?_
 refine sw 10 (.int .i64 ((R:Int))) rfl (rv_lenn (e:=49) hs (tb_lenz rfl) _ _ rfl rfl (by kernel_rfl)) ?_
 refine sv 11 (.bool (decide ((0:Int)<(R:Int)))) ?_
 rcases Bool.eq_false_or_eq_true (decide ((0:Int)<(R:Int))) with hb17 | hb17
 ·have hq18:((0:Int)<(R:Int)):=of_decide_eq_true hb17
  refine sw 12 (.bool true) rfl (RunV.bool (x:=decide ((0:Int)<(R:Int))) (rvk (by kernel_rfl)) hb17) ?_
  refine sv 13 v ?_
  refine se ?_
  refine ec 14 (mx_columnsR (hs.gr (stab_rw (stab_rat K) 71 4) hB) (by omega)) ?_
  rintro e19 w19 ⟨rfl,g19⟩
  refine ⟨_,rfl,?_⟩
  replace hB:=hB.trans g19
  simp only [p3,p4]
  refine sv 15 v ?_
  refine sw 16 (.int .i64 ((R:Int))) rfl (rv_lenn (e:=49) hs (tb_lenz rfl) _ _ rfl rfl (by kernel_rfl)) ?_
  have hb20:(((R:Int) !=(R:Int)))=false:=(by simp)
  refine sw 17 (.bool false) rfl (RunV.bool (x:=((R:Int) !=(R:Int))) (rvk (by kernel_rfl)) hb20) ?_
  refine sv 18 (.bool false) ?_
  refine sq_nil ?_
  refine k16 _ _ ?_
  try clear k16 K16
  refine wp_cond_false rfl ?_
  refine wp_skip ?_
  refine k15 _ _ ?_
  try clear k15 K15
  refine wp_seq_k (fun K21 k21=>?_)
  refine rg [0] ?_
  refine sv 2 (.int .i64 0) ?_
  refine sq_nil ?_
  refine k21 _ _ ?_
  try clear k21 K21
  refine wp_ret ?_
  refine bodyPost_ret (v:=(.int .i64 0)) (ret_tmp rfl rfl) rfl ⟨?_,hB⟩
  exact rfl
 ·have hq22:¬ ((0:Int)<(R:Int)):=of_decide_eq_false hb17
  refine sw 12 (.bool false) rfl (RunV.bool (x:=decide ((0:Int)<(R:Int))) (rvk (by kernel_rfl)) hb17) ?_
  refine ss 13 ?_
  refine ss 14 ?_
  refine ss 15 ?_
  refine ss 16 ?_
  refine ss 17 ?_
  refine sv 18 (.bool false) ?_
  refine sq_nil ?_
  refine k16 _ _ ?_
  try clear k16 K16
  refine wp_cond_false rfl ?_
  refine wp_skip ?_
  refine k15 _ _ ?_
  try clear k15 K15
  refine wp_seq_k (fun K23 k23=>?_)
  refine rg [0] ?_
  refine sv 2 (.int .i64 0) ?_
  refine sq_nil ?_
  refine k23 _ _ ?_
  try clear k23 K23
  refine wp_ret ?_
  refine bodyPost_ret (v:=(.int .i64 0)) (ret_tmp rfl rfl) rfl ⟨?_,hB⟩
  exact rfl

set_option maxRecDepth 100000 in
set_option maxHeartbeats 1000000 in
theorem mx_Determinant {K R:Nat} {v:Value} {m:Mx_} (hK:64≤K) (_hK2:K≤20000) (_hR2:R≤96) (hz:∀ k,k≤R→RdZ R R K (rs R m k)) {w:World} (hs:Sl (ERw (ERat K) 71 4) 49 1 w v (tb (fun z0=>tb (fun z1=>(m z0 z1)) R) R)):
    Calls Tryz.prog 38 #[v] w fun e w'=>(∃ c0 c1 c2 c3,e=.returned (.tuple #[.agg #[c0,c1,c2,c3],.int .i64 0])∧IsRat w' K c0 c1 c2 c3 (dtE R m))∧Gr w w':=by
 go_enter Tryz.func38,Tryz.ntmps38
 have hB:=Gr.refl w
 refine wp_seq_k (fun K10 k10=>?_)
 refine rg [0,1] ?_
 refine se ?_
 refine ea 71 #[(.bool false),(.slice none 0 0),(.bool false),(.slice none 0 0)] 2 hB fun b11 w11 g11 L11 o11 q11 hB=>?_
 simp only [p3,p4]
 refine sv 3 (.int .i64 0) ?_
 refine sq_nil ?_
 refine k10 _ _ ?_
 try clear k10 K10
 refine wp_seq_k (fun K12 k12=>?_)
 refine wp_seq_k (fun K13 k13=>?_)
 refine rg [0,1,2] ?_
 refine sv 8 v ?_
 refine se ?_
 refine ec 9 (mx_square (by omega) (hs.gr (stab_rw (stab_rat K) 71 4) hB)) ?_
 rintro e14 w14 ⟨rfl,g14⟩
 refine ⟨_,rfl,?_⟩
 replace hB:=hB.trans g14
 simp only [p3,p4]
 refine sv 4 (.int .i64 0) ?_
 refine sq_nil ?_
 refine k13 _ _ ?_
 try clear k13 K13
 refine wp_seq_k (fun K15 k15=>?_)
 refine rg [0,1] ?_
 refine sv 10 (.int .i64 0) ?_
 refine sv 11 (.bool false) ?_
 refine sq_nil ?_
 refine k15 _ _ ?_
 try clear k15 K15
 refine wp_cond_false rfl ?_
 refine wp_skip ?_
 refine k12 _ _ ?_
 try clear k12 K12
 refine wp_seq_k (fun K16 k16=>?_)
 refine rg [0,1,2,3,4,5,6,7,8,9,10,11] ?_
 refine sv 15 v ?_
 refine sv 16 v ?_
 refine sw 17 (.int .i64 ((R:Int))) rfl (rv_lenn (e:=49) hs (tb_lenz rfl) _ _ rfl rfl (by kernel_rfl)) ?_
 refine se ?_
 have hlen17:=rs_len R m R
 have hple17:=rs_ple R m R
 refine ec 18 (mx_reduced (by omega) (by omega) (by omega) (by omega) (by omega) hz (hs.gr (stab_rw (stab_rat K) 71 4) hB)) ?_
 rintro e17 w17 ⟨⟨u17,v17,p17,q17,r17,s17,rfl,hs17,hp17,h17⟩,g17⟩
 refine ⟨_,rfl,?_⟩
 replace hB:=hB.trans g17
 have lehc17:=Below.size hB
 have hc17:=Gr.refl w17
 replace L11:=L11.gr (g14.trans g17)
 simp only [p3,p4]
 refine sv 14 (.tuple #[u17,v17,(.agg #[p17,q17,r17,s17])]) ?_
 refine sv 19 u17 ?_
 refine sv 20 v17 ?_
 refine sv 21 (.agg #[p17,q17,r17,s17]) ?_
 refine se ?_
 refine ea 71 #[(.bool false),(.slice none 0 0),(.bool false),(.slice none 0 0)] 7 hB fun b18 w18 g18 L18 o18 q18 hB=>?_
 have ne11_18:=L11.ne o18
 have q18_hc17:=Nat.le_trans (Below.size hc17) o18
 replace hc17:=hc17.trans g18
 simp only [p3,p4]
 refine sv 5 u17 ?_
 refine sv 6 v17 ?_
 refine se ?_
 have lo19:=L18
 refine es 71 0 (.agg #[p17,q17,r17,s17]) [p17,q17,r17,s17] #[p17,q17,r17,s17] L18 hB q18 ⟨h17.one0,h17.one1,h17.one2,h17.one3,trivial⟩ fun w19 st19 kp19 L18 hB=>?_
 replace hc17:=st19.gr hc17 q18_hc17
 refine sq_nil ?_
 refine k16 _ _ ?_
 try clear k16 K16
 refine wp_seq_k (fun K20 k20=>?_)
 refine wp_seq_k (fun K21 k21=>?_)
 refine rg [0,1,2,3,4] ?_
 refine sv 22 v17 ?_
 refine sw 23 (.int .i64 (((pl R m R:Nat):Int))) rfl (rv_lenn (e:=3) hp17 (tb_lenz rfl) _ _ rfl rfl (by kernel_rfl)) ?_
 refine sv 24 v ?_
 refine sw 25 (.int .i64 ((R:Int))) rfl (rv_lenn (e:=49) hs (tb_lenz rfl) _ _ rfl rfl (by kernel_rfl)) ?_
 refine sv 26 (.bool (decide (((pl R m R:Nat):Int)<(R:Int)))) ?_
 refine sq_nil ?_
 refine k21 _ _ ?_
 try clear k21 K21
 refine wp_cond_split (t:=decide (((pl R m R:Nat):Int)<(R:Int))) rfl (fun hb22=>?_) (fun hb22=>?_)
 ·have hlt:pl R m R<R:=by have:=of_decide_eq_true hb22;omega
  refine wp_seq_k (fun K23 k23=>?_)
  refine rg [0,1,2] ?_
  refine sv 27 (.agg #[(.bool false),(.slice none 0 0),(.bool false),(.slice none 0 0)]) ?_
  refine se ?_
  replace L11:=st19.lc (L11.gr g18) ne11_18
  have lo24:=L11
  refine es 71 0 (.agg #[(.bool false),(.slice none 0 0),(.bool false),(.slice none 0 0)]) [(.bool false),(.slice none 0 0),(.bool false),(.slice none 0 0)] #[(.bool false),(.slice none 0 0),(.bool false),(.slice none 0 0)] L11 hB q11 ⟨rfl,rfl,rfl,rfl,trivial⟩ fun w24 st24 kp24 L11 hB=>?_
  refine sv 3 (.int .i64 0) ?_
  refine sq_nil ?_
  refine k23 _ _ ?_
  try clear k23 K23
  refine wp_ret ?_
  simp only [Exit.then]
  refine bodyPost_ret (v:=(.tuple #[(.agg #[(.bool false),(.slice none 0 0),(.bool false),(.slice none 0 0)]),(.int .i64 0)])) (ret_cell_tmp' _ _ _ rfl rfl L11 (by kernel_rfl) rfl) rfl ⟨?_,hB⟩
  exact ⟨_,_,_,_,rfl,((IsRat.zero _ (k:=K) hK).castq (dtE_lt hlt))⟩
 ·have hlt:¬ pl R m R<R:=by have:=of_decide_eq_false hb22;omega
  refine wp_skip ?_
  refine k20 _ _ ?_
  try clear k20 K20
  refine wp_seq_k (fun K25 k25=>?_)
  refine rg [0,1,2] ?_
  refine sw 28 (.agg #[p17,q17,r17,s17]) rfl (rl 71 0 [p17,q17,r17,s17] L18) ?_
  refine se ?_
  replace L11:=st19.lc (L11.gr g18) ne11_18
  have lo26:=L11
  refine es 71 0 (.agg #[p17,q17,r17,s17]) [p17,q17,r17,s17] #[p17,q17,r17,s17] L11 hB q11 ⟨h17.one0,h17.one1,h17.one2,h17.one3,trivial⟩ fun w26 st26 kp26 L11 hB=>?_
  refine sv 3 (.int .i64 0) ?_
  refine sq_nil ?_
  refine k25 _ _ ?_
  try clear k25 K25
  refine wp_ret ?_
  refine bodyPost_ret (v:=(.tuple #[(.agg #[p17,q17,r17,s17]),(.int .i64 0)])) (ret_cell_tmp' _ _ _ rfl rfl L11 (by kernel_rfl) rfl) rfl ⟨?_,hB⟩
  have kq27:=g18.kp.trans (kp19.trans kp26)
  replace h17:=h17.kp kq27
  exact ⟨_,_,_,_,rfl,(h17.castq (dtE_ge hlt))⟩

set_option maxRecDepth 100000 in
set_option maxHeartbeats 1000000 in
theorem mx_eq0 {K L:Nat} {f0 f1 f2 f3 j0 j1 j2 j3:Value} {x:Rat} (_hk:K+L≤100000) {w:World} (hx:IsRat w K f0 f1 f2 f3 x) (hy:IsRat w L j0 j1 j2 j3 x):
    Calls Tryz.prog 69 #[(.agg #[f0,f1,f2,f3]),(.agg #[j0,j1,j2,j3])] w fun e w'=>e=.returned (.bool true)∧Gr w w':=by
 go_enter Tryz.func69,Tryz.ntmps69
 have hB:=Gr.refl w
 refine wp_seq_k (fun K10 k10=>?_)
 refine rg [0,1,2] ?_
 refine se ?_
 refine eb 71 #[f0,f1,f2,f3] 2 hB fun b11 w11 g11 L11 o11 q11 hB=>?_
 simp only [p3,p4]
 refine se ?_
 refine eb 71 #[j0,j1,j2,j3] 3 hB fun b12 w12 g12 L12 o12 q12 hB=>?_
 simp only [p3,p4]
 refine sv 4 (.bool false) ?_
 refine sq_nil ?_
 refine k10 _ _ ?_
 try clear k10 K10
 refine wp_seq_k (fun K13 k13=>?_)
 refine rg [0,1,2,3,4] ?_
 replace L11:=L11.gr g12
 refine sw 5 (.agg #[f0,f1,f2,f3]) rfl (rl 71 0 [f0,f1,f2,f3] L11) ?_
 refine sw 6 (.agg #[j0,j1,j2,j3]) rfl (rl 71 0 [j0,j1,j2,j3] L12) ?_
 refine se ?_
 have kq15:=g11.kp.trans g12.kp
 replace hx:=hx.kp kq15
 replace hy:=hy.kp kq15
 refine ec 7 (compare_r hx hy (by omega)) ?_
 rintro e14 w14 ⟨rfl,g14⟩
 refine ⟨_,rfl,?_⟩
 replace hB:=hB.trans g14
 simp only [p3,p4]
 refine sw 8 (.bool true) rfl (RunV.bool (x:=(rcmp x x==(0:Int))) (rvk (by kernel_rfl)) (by rw [rcmp_self];rfl)) ?_
 refine sv 4 (.bool true) ?_
 refine sq_nil ?_
 refine k13 _ _ ?_
 try clear k13 K13
 refine wp_ret ?_
 refine bodyPost_ret (v:=(.bool true)) (ret_tmp rfl rfl) rfl ⟨?_,hB⟩
 exact rfl

set_option maxRecDepth 100000 in
set_option maxHeartbeats 1000000 in
theorem mx_eqr {K L N:Nat} {vx vy:Value} {x:Nat→Rat} (_hk:K+L≤100000) (_hN:N≤1000) {w:World} (hx:Sl (ERat K) 71 4 w vx (tb (fun z1=>(x z1)) N)) (hy:Sl (ERat L) 71 4 w vy (tb (fun z1=>(x z1)) N)):
    Calls Tryz.prog 68 #[vx,vy,(.func (.func 69) #[] #[])] w fun e w'=>e=.returned (.bool true)∧Gr w w':=by
 go_enter Tryz.func68,Tryz.ntmps68
 have hB:=Gr.refl w
 refine wp_seq_k (fun K10 k10=>?_)
 refine rg [0] ?_
 refine sv 6 (.bool false) ?_
 refine sq_nil ?_
 refine k10 _ _ ?_
 try clear k10 K10
 refine wp_seq_k (fun K11 k11=>?_)
 refine wp_seq_k (fun K12 k12=>?_)
 refine rg [0,1,2,3,4] ?_
 refine sv 10 vx ?_
 refine sw 11 (.int .i64 ((N:Int))) rfl (rv_lenn (e:=71) hx (tb_lenz rfl) _ _ rfl rfl (by kernel_rfl)) ?_
 refine sv 12 vy ?_
 refine sw 13 (.int .i64 ((N:Int))) rfl (rv_lenn (e:=71) hy (tb_lenz rfl) _ _ rfl rfl (by kernel_rfl)) ?_
 have hb13:(((N:Int) !=(N:Int)))=false:=(by simp)
 refine sw 14 (.bool false) rfl (RunV.bool (x:=((N:Int) !=(N:Int))) (rvk (by kernel_rfl)) hb13) ?_
 refine sq_nil ?_
 refine k12 _ _ ?_
 try clear k12 K12
 refine wp_cond_false rfl ?_
 refine wp_skip ?_
 refine k11 _ _ ?_
 try clear k11 K11
 refine wp_seq_k (fun K14 k14=>?_)
 refine wp_seq_k (fun K15 k15=>?_)
 refine rg [0,1,2] ?_
 refine sv 15 vx ?_
 refine sw 16 (.int .i64 ((N:Int))) rfl (rv_lenn (e:=71) hx (tb_lenz rfl) _ _ rfl rfl (by kernel_rfl)) ?_
 refine sv 17 (.int .i64 0) ?_
 refine sq_nil ?_
 refine k15 _ _ ?_
 try clear k15 K15
 refine wp_block ?_
 refine wp_loop_inv (a:=⟨List.toArray ?l16,[]⟩) (fun n a w'=>∃ (j:Nat) (u16:Nat→Value),N - j=n∧a=⟨[vx,vy,(.func (.func 69) #[] #[]),undef,undef,undef,(u16 6),(u16 7),(u16 8),(u16 9),(u16 10),(u16 11),(u16 12),(u16 13),(.bool false),vx,(.int .i64 ((N:Int))),(.int .i64 ((j:Int))),(u16 18),(u16 19),(u16 20),(u16 21),(u16 22),(u16 23),(u16 24),(u16 25),(u16 26),(u16 27),(u16 28),(u16 29),(u16 30),(u16 31)].toArray,[]⟩∧j≤N∧Gr w w') (N - 0) ?_ ?_
 ·exact ⟨0,(fun i=>List.getD ?l16 i undef),rfl,rfl,(Nat.zero_le _),hB⟩
 rintro n16 a16 w16 ⟨j,u16,rfl,rfl,hkj,hB⟩ K16 k16
 refine wp_seq_k (fun K17 k17=>?_)
 refine rg [0] ?_
 refine sv 18 (.bool (decide ((j:Int)<(N:Int)))) ?_
 refine sq_nil ?_
 refine k17 _ _ ?_
 try clear k17 K17
 refine wp_seq_k (fun K18 k18=>?_)
 refine wp_cond_split (t:=decide ((j:Int)<(N:Int))) rfl (fun hb19=>?_) (fun hb19=>?_)
 ·have hlj:j<N:=by have:=of_decide_eq_true hb19;omega
  refine wp_skip ?_
  refine k18 _ _ ?_
  try clear k18 K18
  refine wp_seq_k (fun K20 k20=>?_)
  refine wp_block ?_
  refine wp_seq_k (fun K21 k21=>?_)
  refine rg [0,1,2,3,4,5] ?_
  refine sv 19 (.int .i64 ((j:Int))) ?_
  refine sw 20 (adr vx (j*4)) rfl (rv_idxn (e:=71) hx tb_len (by decide) j (by omega) _ _ _ rfl rfl rfl (by kernel_rfl) (by kernel_rfl)) ?_
  obtain ⟨_,_,⟨cA22,cB22,cC22,cD22,rfl,h22⟩,at22⟩:=Sl.get hx (by decide) (tb_get (f:=(fun z1=>(x z1))) (n:=N) (i:=j) (by omega))
  refine sw 21 (.agg #[cA22,cB22,cC22,cD22]) rfl (rv_ldn [cA22,cB22,cC22,cD22] (at22.gr hB) _ _ rfl rfl (by kernel_rfl)) ?_
  refine se ?_
  refine ea 71 #[(.bool false),(.slice none 0 0),(.bool false),(.slice none 0 0)] 8 hB fun b23 w23 g23 L23 o23 q23 hB=>?_
  simp only [p3,p4]
  refine sv 7 (.int .i64 ((j:Int))) ?_
  refine se ?_
  have lo24:=L23
  refine es 71 0 (.agg #[cA22,cB22,cC22,cD22]) [cA22,cB22,cC22,cD22] #[cA22,cB22,cC22,cD22] L23 hB q23 ⟨h22.one0,h22.one1,h22.one2,h22.one3,trivial⟩ fun w24 st24 kp24 L23 hB=>?_
  refine sq_nil ?_
  refine k21 _ _ ?_
  try clear k21 K21
  refine wp_seq_k (fun K25 k25=>?_)
  refine rg [0,1,2,3,4,5] ?_
  refine sv 22 vy ?_
  refine sv 23 (.int .i64 ((j:Int))) ?_
  refine sw 24 (adr vy (j*4)) rfl (rv_idxn (e:=71) hy tb_len (by decide) j (by omega) _ _ _ rfl rfl rfl (by kernel_rfl) (by kernel_rfl)) ?_
  obtain ⟨_,_,⟨cA26,cB26,cC26,cD26,rfl,h26⟩,at26⟩:=Sl.get hy (by decide) (tb_get (f:=(fun z1=>(x z1))) (n:=N) (i:=j) (by omega))
  refine sw 25 (.agg #[cA26,cB26,cC26,cD26]) rfl (rv_ldn [cA26,cB26,cC26,cD26] (at26.gr hB) _ _ rfl rfl (by kernel_rfl)) ?_
  refine se ?_
  refine ea 71 #[(.bool false),(.slice none 0 0),(.bool false),(.slice none 0 0)] 9 hB fun b27 w27 g27 L27 o27 q27 hB=>?_
  have ne23_27:=L23.ne o27
  simp only [p3,p4]
  refine se ?_
  have lo28:=L27
  refine es 71 0 (.agg #[cA26,cB26,cC26,cD26]) [cA26,cB26,cC26,cD26] #[cA26,cB26,cC26,cD26] L27 hB q27 ⟨h26.one0,h26.one1,h26.one2,h26.one3,trivial⟩ fun w28 st28 kp28 L27 hB=>?_
  refine sq_nil ?_
  refine k25 _ _ ?_
  try clear k25 K25
  refine wp_seq_k (fun K29 k29=>?_)
  refine rg [0,1,2,3,4] ?_
  refine sv 26 (.func (.func 69) #[] #[]) ?_
  replace L23:=st28.lc (L23.gr g27) ne23_27
  refine sw 27 (.agg #[cA22,cB22,cC22,cD22]) rfl (rl 71 0 [cA22,cB22,cC22,cD22] L23) ?_
  refine sw 28 (.agg #[cA26,cB26,cC26,cD26]) rfl (rl 71 0 [cA26,cB26,cC26,cD26] L27) ?_
  refine se ?_
  refine ec 29 (mx_eq0 (by omega) (h22.kp hB.kp) (h26.kp hB.kp)) ?_
  rintro e30 w30 ⟨rfl,g30⟩
  refine ⟨_,rfl,?_⟩
  replace hB:=hB.trans g30
  simp only [p3,p4]
  refine sv 30 (.bool false) ?_
  refine sq_nil ?_
  refine k29 _ _ ?_
  try clear k29 K29
  refine wp_cond_false rfl ?_
  refine wp_skip ?_
  refine k20 _ _ ?_
  try clear k20 K20
  refine rg [0,1] ?_
  refine sw 31 (.int .i64 (((j:Int)+1))) rfl (RunV.int (x:=IntKind.i64.wrap (((j:Int)+1))) (y:=((j:Int)+1)) (rvk (by kernel_rfl)) (by first | rfl | (rw [IntKind.wrap_i64];omega))) ?_
  refine sv 17 (.int .i64 (((j:Int)+1))) ?_
  refine sq_nil ?_
  refine k16 (N - (j+1)) ⟨List.toArray ?l31,[]⟩ _ (by omega) ?_
  exact ⟨j+1,(fun i=>List.getD ?l31 i undef),rfl,rfl,(by omega),hB⟩
 ·have hej:N=j:=by have:=of_decide_eq_false hb19;omega
  subst hej
  refine wp_exit ?_
  simp only [Exit.then,Exit.inBlock,↓reduceIte]
  refine k14 _ _ ?_
  try clear k14 K14
  refine wp_seq_k (fun K32 k32=>?_)
  refine rg [0] ?_
  refine sv 6 (.bool true) ?_
  refine sq_nil ?_
  refine k32 _ _ ?_
  try clear k32 K32
  refine wp_ret ?_
  refine bodyPost_ret (v:=(.bool true)) (ret_tmp rfl rfl) rfl ⟨?_,hB⟩
  exact rfl

set_option maxRecDepth 100000 in
set_option maxHeartbeats 1000000 in
theorem mx_eq1 {K L N:Nat} {vx vy:Value} {x:Nat→Rat} (_hk:K+L≤100000) (_hN:N≤1000) {w:World} (hx:Sl (ERat K) 71 4 w vx (tb (fun z1=>(x z1)) N)) (hy:Sl (ERat L) 71 4 w vy (tb (fun z1=>(x z1)) N)):
    Calls Tryz.prog 67 #[vx,vy] w fun e w'=>e=.returned (.bool true)∧Gr w w':=by
 go_enter Tryz.func67,Tryz.ntmps67
 have hB:=Gr.refl w
 refine wp_seq_k (fun K10 k10=>?_)
 refine rg [0] ?_
 refine sv 4 (.bool false) ?_
 refine sq_nil ?_
 refine k10 _ _ ?_
 try clear k10 K10
 refine wp_seq_k (fun K11 k11=>?_)
 refine rg [0,1,2,3] ?_
 refine sv 5 vx ?_
 refine sv 6 vy ?_
 refine se ?_
 refine ec 7 (mx_eqr (by omega) (by omega) (hx.gr (stab_rat K) hB) (hy.gr (stab_rat L) hB)) ?_
 rintro e12 w12 ⟨rfl,g12⟩
 refine ⟨_,rfl,?_⟩
 replace hB:=hB.trans g12
 simp only [p3,p4]
 refine sv 4 (.bool true) ?_
 refine sq_nil ?_
 refine k11 _ _ ?_
 try clear k11 K11
 refine wp_ret ?_
 refine bodyPost_ret (v:=(.bool true)) (ret_tmp rfl rfl) rfl ⟨?_,hB⟩
 exact rfl

set_option maxRecDepth 100000 in
set_option maxHeartbeats 1000000 in
theorem mx_eqm {K L R N:Nat} {vx vy:Value} {m:Mx_} (_hk:K+L≤100000) (_hN:N≤1000) (_hR:R≤1000) {w:World} (hx:Sl (ERw (ERat K) 71 4) 49 1 w vx (tb (fun z0=>tb (fun z1=>(m z0 z1)) N) R)) (hy:Sl (ERw (ERat L) 71 4) 49 1 w vy (tb (fun z0=>tb (fun z1=>(m z0 z1)) N) R)):
    Calls Tryz.prog 66 #[vx,vy,(.func (.func 67) #[] #[])] w fun e w'=>e=.returned (.bool true)∧Gr w w':=by
 go_enter Tryz.func66,Tryz.ntmps66
 have hB:=Gr.refl w
 refine wp_seq_k (fun K10 k10=>?_)
 refine rg [0] ?_
 refine sv 6 (.bool false) ?_
 refine sq_nil ?_
 refine k10 _ _ ?_
 try clear k10 K10
 refine wp_seq_k (fun K11 k11=>?_)
 refine wp_seq_k (fun K12 k12=>?_)
 refine rg [0,1,2,3,4] ?_
 refine sv 10 vx ?_
 refine sw 11 (.int .i64 ((R:Int))) rfl (rv_lenn (e:=49) hx (tb_lenz rfl) _ _ rfl rfl (by kernel_rfl)) ?_
 refine sv 12 vy ?_
 refine sw 13 (.int .i64 ((R:Int))) rfl (rv_lenn (e:=49) hy (tb_lenz rfl) _ _ rfl rfl (by kernel_rfl)) ?_
 have hb13:(((R:Int) !=(R:Int)))=false:=(by simp)
 refine sw 14 (.bool false) rfl (RunV.bool (x:=((R:Int) !=(R:Int))) (rvk (by kernel_rfl)) hb13) ?_
 refine sq_nil ?_
 refine k12 _ _ ?_
 try clear k12 K12
 refine wp_cond_false rfl ?_
 refine wp_skip ?_
 refine k11 _ _ ?_
 try clear k11 K11
 refine wp_seq_k (fun K14 k14=>?_)
 refine wp_seq_k (fun K15 k15=>?_)
 refine rg [0,1,2] ?_
 refine sv 15 vx ?_
 refine sw 16 (.int .i64 ((R:Int))) rfl (rv_lenn (e:=49) hx (tb_lenz rfl) _ _ rfl rfl (by kernel_rfl)) ?_
 refine sv 17 (.int .i64 0) ?_
 refine sq_nil ?_
 refine k15 _ _ ?_
 try clear k15 K15
 refine wp_block ?_
 refine wp_loop_inv (a:=⟨List.toArray ?l16,[]⟩) (fun n a w'=>∃ (j:Nat) (u16:Nat→Value),R - j=n∧a=⟨[vx,vy,(.func (.func 67) #[] #[]),undef,undef,undef,(u16 6),(u16 7),(u16 8),(u16 9),(u16 10),(u16 11),(u16 12),(u16 13),(.bool false),vx,(.int .i64 ((R:Int))),(.int .i64 ((j:Int))),(u16 18),(u16 19),(u16 20),(u16 21),(u16 22),(u16 23),(u16 24),(u16 25),(u16 26),(u16 27),(u16 28),(u16 29),(u16 30),(u16 31)].toArray,[]⟩∧j≤R∧Gr w w') (R - 0) ?_ ?_
 ·exact ⟨0,(fun i=>List.getD ?l16 i undef),rfl,rfl,(Nat.zero_le _),hB⟩
 rintro n16 a16 w16 ⟨j,u16,rfl,rfl,hkj,hB⟩ K16 k16
 refine wp_seq_k (fun K17 k17=>?_)
 refine rg [0] ?_
 refine sv 18 (.bool (decide ((j:Int)<(R:Int)))) ?_
 refine sq_nil ?_
 refine k17 _ _ ?_
 try clear k17 K17
 refine wp_seq_k (fun K18 k18=>?_)
 refine wp_cond_split (t:=decide ((j:Int)<(R:Int))) rfl (fun hb19=>?_) (fun hb19=>?_)
 ·have hlj:j<R:=by have:=of_decide_eq_true hb19;omega
  refine wp_skip ?_
  refine k18 _ _ ?_
  try clear k18 K18
  refine wp_seq_k (fun K20 k20=>?_)
  refine wp_block ?_
  refine wp_seq_k (fun K21 k21=>?_)
  refine rg [0,1,2,3,4] ?_
  refine sv 19 (.int .i64 ((j:Int))) ?_
  refine sw 20 (adr vx (j*1)) rfl (rv_idxn (e:=49) hx tb_len (by decide) j (by omega) _ _ _ rfl rfl rfl (by kernel_rfl) (by kernel_rfl)) ?_
  obtain ⟨_,_,⟨u22,rfl,hr22⟩,at22⟩:=Sl.get hx (by decide) (tb_get (f:=(fun z0=>tb (fun z1=>(m z0 z1)) N)) (n:=R) (i:=j) (by omega))
  refine sw 21 u22 rfl (rv_ld1 u22 (at22.gr hB) _ _ rfl rfl (by kernel_rfl)) ?_
  refine sv 7 (.int .i64 ((j:Int))) ?_
  refine sv 8 u22 ?_
  refine sq_nil ?_
  refine k21 _ _ ?_
  try clear k21 K21
  refine wp_seq_k (fun K23 k23=>?_)
  refine rg [0,1,2,3,4] ?_
  refine sv 22 vy ?_
  refine sv 23 (.int .i64 ((j:Int))) ?_
  refine sw 24 (adr vy (j*1)) rfl (rv_idxn (e:=49) hy tb_len (by decide) j (by omega) _ _ _ rfl rfl rfl (by kernel_rfl) (by kernel_rfl)) ?_
  obtain ⟨_,_,⟨u24,rfl,hr24⟩,at24⟩:=Sl.get hy (by decide) (tb_get (f:=(fun z0=>tb (fun z1=>(m z0 z1)) N)) (n:=R) (i:=j) (by omega))
  refine sw 25 u24 rfl (rv_ld1 u24 (at24.gr hB) _ _ rfl rfl (by kernel_rfl)) ?_
  refine sv 9 u24 ?_
  refine sq_nil ?_
  refine k23 _ _ ?_
  try clear k23 K23
  refine wp_seq_k (fun K25 k25=>?_)
  refine rg [0,1,2,3,4] ?_
  refine sv 26 (.func (.func 67) #[] #[]) ?_
  refine sv 27 u22 ?_
  refine sv 28 u24 ?_
  refine se ?_
  refine ec 29 (mx_eq1 (by omega) (by omega) (hr22.gr (stab_rat K) hB) (hr24.gr (stab_rat L) hB)) ?_
  rintro e26 w26 ⟨rfl,g26⟩
  refine ⟨_,rfl,?_⟩
  replace hB:=hB.trans g26
  simp only [p3,p4]
  refine sv 30 (.bool false) ?_
  refine sq_nil ?_
  refine k25 _ _ ?_
  try clear k25 K25
  refine wp_cond_false rfl ?_
  refine wp_skip ?_
  refine k20 _ _ ?_
  try clear k20 K20
  refine rg [0,1] ?_
  refine sw 31 (.int .i64 (((j:Int)+1))) rfl (RunV.int (x:=IntKind.i64.wrap (((j:Int)+1))) (y:=((j:Int)+1)) (rvk (by kernel_rfl)) (by first | rfl | (rw [IntKind.wrap_i64];omega))) ?_
  refine sv 17 (.int .i64 (((j:Int)+1))) ?_
  refine sq_nil ?_
  refine k16 (R - (j+1)) ⟨List.toArray ?l27,[]⟩ _ (by omega) ?_
  exact ⟨j+1,(fun i=>List.getD ?l27 i undef),rfl,rfl,(by omega),hB⟩
 ·have hej:R=j:=by have:=of_decide_eq_false hb19;omega
  subst hej
  refine wp_exit ?_
  simp only [Exit.then,Exit.inBlock,↓reduceIte]
  refine k14 _ _ ?_
  try clear k14 K14
  refine wp_seq_k (fun K28 k28=>?_)
  refine rg [0] ?_
  refine sv 6 (.bool true) ?_
  refine sq_nil ?_
  refine k28 _ _ ?_
  try clear k28 K28
  refine wp_ret ?_
  refine bodyPost_ret (v:=(.bool true)) (ret_tmp rfl rfl) rfl ⟨?_,hB⟩
  exact rfl

set_option maxRecDepth 100000 in
set_option maxHeartbeats 1000000 in
theorem mx_Equal {K L R N:Nat} {vx vy:Value} {m:Mx_} (_hk:K+L≤100000) (_hN:N≤1000) (_hR:R≤1000) {w:World} (hx:Sl (ERw (ERat K) 71 4) 49 1 w vx (tb (fun z0=>tb (fun z1=>(m z0 z1)) N) R)) (hy:Sl (ERw (ERat L) 71 4) 49 1 w vy (tb (fun z0=>tb (fun z1=>(m z0 z1)) N) R)):
    Calls Tryz.prog 27 #[vx,vy] w fun e w'=>e=.returned (.bool true)∧Gr w w':=by
 go_enter Tryz.func27,Tryz.ntmps27
 have hB:=Gr.refl w
 refine wp_seq_k (fun K10 k10=>?_)
 refine rg [0] ?_
 refine sv 4 (.bool false) ?_
 refine sq_nil ?_
 refine k10 _ _ ?_
 try clear k10 K10
 refine wp_seq_k (fun K11 k11=>?_)
 refine rg [0,1,2,3] ?_
 refine sv 5 vx ?_
 refine sv 6 vy ?_
 refine se ?_
 refine ec 7 (mx_eqm (by omega) (by omega) (by omega) (hx.gr (stab_rw (stab_rat K) 71 4) hB) (hy.gr (stab_rw (stab_rat L) 71 4) hB)) ?_
 rintro e12 w12 ⟨rfl,g12⟩
 refine ⟨_,rfl,?_⟩
 replace hB:=hB.trans g12
 simp only [p3,p4]
 refine sv 4 (.bool true) ?_
 refine sq_nil ?_
 refine k11 _ _ ?_
 try clear k11 K11
 refine wp_ret ?_
 refine bodyPost_ret (v:=(.bool true)) (ret_tmp rfl rfl) rfl ⟨?_,hB⟩
 exact rfl

section
variable {α:Type} {E:World→α→List Value→Prop} {ts:List TypeId} {T TW:TypeId} {c B R N:Nat} {w w':World} {bs:Nat→Value} {f:Nat→Nat→α}
/-- a value that is a slice -/
def EVs (_:World) (u:Value) (vs:List Value):Prop:=vs=[u]∧∃ ao n cap,u=.slice ao n cap
theorem stab_vs:Stab EVs []:=fun _ _ _ _ _ h=>h
theorem EVs.of {E:World→α→List Value→Prop} {T:TypeId} {c:Nat} {w0:World} {u:Value} {xs:List α} (h:Sl E T c w0 u xs) (w:World):EVs w u [u]:=⟨rfl,h.forms⟩
/-- two slices do not lie in one block -/
def Dj (u v:Value):Prop:=∀ g n cap m dap,u=.slice (some ⟨g,0,none⟩) n cap→v≠.slice (some ⟨g,0,none⟩) m dap
/-- rows of the call's own -/
structure Mr (E:World→α→List Value→Prop) (T:TypeId) (c:Nat) (w:World) (B:Nat) (bs:Nat→Value) (f:Nat→Nat→α) (R N:Nat):Prop where
  row:∀ i,i<R→Ow E T c w B (bs i) (tb (f i) N)
  dj:∀ i j,i<R→j<R→i≠j→Dj (bs i) (bs j)
theorem Mr.kts (h:Mr E T c w B bs f R N) (hS:Stab E ts) (k:Kts (T::ts) w w'):Mr E T c w' B bs f R N:=⟨fun i hi=>(h.row i hi).kts hS k,h.dj⟩
theorem Mr.gr (h:Mr E T c w B bs f R N) (hS:Stab E ts) (g:Gr w w'):Mr E T c w' B bs f R N:=h.kts hS (g.kts _)
theorem Mr.zero0:Mr E T c w B bs f 0 N:=⟨fun i hi=>absurd hi (Nat.not_lt_zero i),fun i _ hi=>absurd hi (Nat.not_lt_zero i)⟩
theorem Mr.congr {g:Nat→Nat→α} (h:Mr E T c w B bs f R N) (e:∀ i,i<R→∀ j,j<N→f i j=g i j):Mr E T c w B bs g R N:=⟨fun i hi=>(h.row i hi).cast (tb_congr fun j hj=>e i hi j hj),h.dj⟩
theorem Mr.snoc {w0:World} {i:Nat} {u:Value} (h:Mr E T c w0 B bs f i N) (hS:Stab E ts) (g:Gr w0 w) (hu:Ow E T c w w0.heap.size u (tb (f i) N)) (hB:B≤w0.heap.size):Mr E T c w B (fun t=>if t=i then u else bs t) f (i+1) N:=by
  have hold:∀ t,t<i→∀ g n cap,bs t=.slice (some ⟨g,0,none⟩) n cap→g<w0.heap.size:=fun t ht g n cap e=>((h.row t ht).blk e).2
  refine ⟨fun t ht=>?_,fun t s ht hs hne=>?_⟩
  · by_cases e:t=i
    · rw [if_pos e,e];exact hu.mono hB
    · rw [if_neg e];exact (h.row t (by omega)).gr hS g
  · intro b n cap m dap e1 e2
    by_cases a1:t=i
    · rw [if_pos a1] at e1
      rw [if_neg (fun a2=>hne (a1.trans a2.symm))] at e2
      have:=(hu.blk e1).1
      have:=hold s (by omega) b m dap e2
      omega
    · rw [if_neg a1] at e1
      by_cases a2:s=i
      · rw [if_pos a2] at e2
        have:=(hu.blk e2).1
        have:=hold t (by omega) b n cap e1
        omega
      · rw [if_neg a2] at e2
        exact h.dj t s (by omega) (by omega) hne b n cap m dap e1 e2
/-- two rows exchanged -/
def sb (bs:Nat→Value) (i r:Nat):Nat→Value:=fun t=>if t=i then bs r else if t=r then bs i else bs t
def swf (f:Nat→Nat→α) (i r:Nat):Nat→Nat→α:=fun t=>if t=i then f r else if t=r then f i else f t
theorem Mr.swp {i r:Nat} (h:Mr E T c w B bs f R N) (hi:i<R) (hr:r<R):Mr E T c w B (sb bs i r) (swf f i r) R N:=by
  have key:∀ t,∃ s,sb bs i r t=bs s∧swf f i r t=f s∧(t<R→s<R)∧s=(if t=i then r else if t=r then i else t):=fun t=>by
    unfold sb swf
    by_cases a:t=i
    · exact ⟨r,by rw [if_pos a],by rw [if_pos a],fun _=>hr,by rw [if_pos a]⟩
    · by_cases b:t=r
      · exact ⟨i,by rw [if_neg a,if_pos b],by rw [if_neg a,if_pos b],fun _=>hi,by rw [if_neg a,if_pos b]⟩
      · exact ⟨t,by rw [if_neg a,if_neg b],by rw [if_neg a,if_neg b],fun h=>h,by rw [if_neg a,if_neg b]⟩
  refine ⟨fun t ht=>?_,fun t u ht hu hne=>?_⟩
  · obtain ⟨s,e1,e2,e3,_⟩:=key t
    rw [e1,e2];exact h.row s (e3 ht)
  · obtain ⟨s,e1,_,e3,e4⟩:=key t
    obtain ⟨s',d1,_,d3,d4⟩:=key u
    rw [e1,d1]
    refine h.dj s s' (e3 ht) (d3 hu) ?_
    rw [e4,d4]
    split<;>split<;>(try split)<;>(try split)<;>omega
/-- a block in which none of the rows lies -/
def NoB (bs:Nat→Value) (R b:Nat):Prop:=∀ i,i<R→OwNe (bs i) b
theorem Mr.nob (h:Mr E T c w B bs f R N) {b:Nat} (hb:w.heap.size≤b):NoB bs R b:=fun i hi=>(h.row i hi).ne hb
theorem Mr.st {b:Nat} (h:Mr E T c w B bs f R N) (hS:Stab E ts) (st:St w w' b) (hn:NoB bs R b) (k:Kts ts w w'):Mr E T c w' B bs f R N:=⟨fun i hi=>(h.row i hi).st hS st (hn i hi) k,h.dj⟩
theorem Mr.rows {v:Value} (h:Mr E T c w B bs f R N) (hv:Ow EVs TW 1 w B v (tb bs R)):Sl (ERw E T c) TW 1 w v (tb (fun i=>tb (fun j=>f i j) N) R):=by
  obtain ⟨ys,h1,h2⟩:=hv.sl
  refine ⟨ys,by rw [tb_len] at*;exact h1,by rw [h2.1,tb_len,tb_len],fun i x hx=>?_⟩
  have hi:i<R:=by have:=(List.getElem?_eq_some_iff.1 hx).1;rwa [tb_len] at this
  rw [tb_get hi] at hx
  obtain rfl:=Option.some.inj hx
  obtain ⟨e,_⟩:=h2.2 i (bs i) (tb_get hi)
  exact ⟨bs i,e,(h.row i hi).sl⟩
variable {P:Program} {a:Act} {o:Oper} {Q:Exit→Act→World→Prop} {K:Act→World→Prop}
/-- a store at an element of a row -/
theorem eff_mws (hS:Stab E ts) (h:Mr E T c w B bs f R N) (i j:Nat) (hi:i<R) (hj:j<N) (x0:α) (u:Value) (vs:List Value) (t:TypeId) (x y:Operand)
    (hop:o.op=.store t x y) (hd:o.dst=none) (hx:a.eval x=adr (bs i) (j*c)) (hy:a.eval y=u) (hv:u.cells=vs.toArray) (hs:(P.info? t).map (·.size)=some c) (hc:vs.length=c) (h1:One1 vs) (hE:E w x0 vs) (hT:(ts.all fun t=>t !=T)=true)
    (hK:∀ w' g,Mr E T c w' B bs (fun a b=>if a=i∧b=j then x0 else f a b) R N→St w w' g→(∀ u,u≠T→Kt u w w')→B≤g→(∀ b,NoB bs R b→b≠g)→K a w'):o.wp P a w K Q:=by
  obtain ⟨ys,hown,hEl⟩:=h.row i hi
  subst hc
  have hle:j*vs.length+vs.length≤ys.length:=by
    rw [hEl.1,tb_len]
    have:=Nat.mul_le_mul_right vs.length (show j+1≤N by omega)
    rw [Nat.add_mul] at this;omega
  rcases hown.2 with ⟨_,h0⟩ | ⟨g,cap,cur,hbs,hb,hg,h3,h4,h5,h6⟩
  · rw [tb_len] at h0;omega
  rw [tb_len] at h3 h6 hown
  have hx':a.eval x=.pointer (some ⟨g,j*vs.length,none⟩):=by rw [hx,hbs];simp [adr]
  have hyl:ys.length=N*vs.length:=hown.1
  have hcl:N*vs.length≤cur.size:=by rw [h5];exact Nat.mul_le_mul_right _ h3
  refine eff_store t x y g (j*vs.length) u vs cur _ T hop hd hx' hy hv hg hs (by omega) h1 rfl (fun w' st L'=>?_)
  have e:writeAt cur (j*vs.length) vs=(cur.toList.take (j*vs.length)++vs++cur.toList.drop (j*vs.length+vs.length)).toArray:=by
    have:=writeAt_list vs (j*vs.length) cur.toList (by simp;omega)
    rwa [Array.toArray_toList] at this
  rw [e] at L'
  have hk:∀ u,u≠T→Kt u w w':=fun u hu=>st.kt hg hu
  have hkts:Kts ts w w':=st.kts hg hT
  have hEl2:=(hEl.set (i:=j) (by rw [tb_len];exact hj) rfl hE).kts hS hkts
  rw [set_tb] at hEl2
  refine hK w' g ⟨fun k hk2=>?_,h.dj⟩ st hk hb fun b hn e=>hn i hi g N cap (by rw [hbs,tb_len]) e.symm
  by_cases ek:k=i
  · subst ek
    have hrow:tb ((fun a b=>if a=k∧b=j then x0 else f a b) k) N=tb (fun z=>if z=j then x0 else f k z) N:=tb_congr fun z _=>by
      show (if k=k∧z=j then x0 else f k z)=_
      by_cases ez:z=j<;>simp [ez]
    rw [hrow]
    refine ⟨_,⟨?_,.inr ⟨g,cap,_,by rw [hbs,tb_len,tb_len],hb,L',by rw [tb_len];exact h3,h4,?_,?_⟩⟩,hEl2⟩
    · exact hEl2.1
    · rw [← h5];simp only [List.size_toArray,List.length_append,List.length_take,List.length_drop,Array.length_toList];omega
    · rw [tb_len];exact take_put h6 hyl (by omega)
  · have hrow:tb ((fun a b=>if a=i∧b=j then x0 else f a b) k) N=tb (f k) N:=tb_congr fun z _=>by
      show (if k=i∧z=j then x0 else f k z)=_
      exact if_neg fun h=>ek h.1
    rw [hrow]
    exact (h.row k hk2).st hS st (fun g' n' cap' e=>by
      intro eg;subst eg
      exact h.dj i k hi hk2 (Ne.symm ek) g' _ cap _ _ hbs e) hkts
end
/-! ### the reference's steps -/
section
variable {R N k i:Nat} {m:Mx_}
theorem swf_swp (f:Mx_) (i r:Nat):swf f i r=swp f i r:=by
  funext t c
  unfold swf swp
  split
  · rfl
  · split<;>rfl
/-- row r divided,up to column j -/
def s1 (R:Nat) (m:Mx_) (k i j:Nat):Mx_:=fun a b=>if a=pl R m k∧b<j then aa R m k i a b/aa R m k i (pl R m k) k else aa R m k i a b
theorem s1_zero (a b:Nat):aa R m k i a b=s1 R m k i 0 a b:=(if_neg fun h=>Nat.not_lt_zero _ h.2).symm
theorem s1_at (j:Nat):s1 R m k i j (pl R m k) j=aa R m k i (pl R m k) j:=if_neg fun h=>Nat.lt_irrefl _ h.2
theorem s1_next (j a b:Nat):(if a=pl R m k∧b=j then s1 R m k i j (pl R m k) j/aa R m k i (pl R m k) k else s1 R m k i j a b)=s1 R m k i (j+1) a b:=by
  rw [s1_at]
  unfold s1
  by_cases h1:a=pl R m k
  · by_cases h2:b=j
    · rw [if_pos ⟨h1,h2⟩,if_pos ⟨h1,by omega⟩,h1,h2]
    · rw [if_neg fun h=>h2 h.2]
      by_cases h3:b<j
      · rw [if_pos ⟨h1,h3⟩,if_pos ⟨h1,by omega⟩]
      · rw [if_neg fun h=>h3 h.2,if_neg fun h=>by have:=h.2;omega]
  · rw [if_neg fun h=>h1 h.1,if_neg fun h=>h1 h.1,if_neg fun h=>h1 h.1]
theorem s1_end {b:Nat} (hb:b<N) (a:Nat):s1 R m k i N a b=md R m k i 0 a b:=by
  unfold s1 md
  rw [if_neg (Nat.not_lt_zero a)]
  by_cases h1:a=pl R m k
  · rw [if_pos ⟨h1,hb⟩,h1,scl_r];exact div_inv _ _
  · rw [if_neg fun h=>h1 h.1,scl_j _ _ _ h1]
/-- row t cleared,up to column j -/
def s2 (R:Nat) (m:Mx_) (k i t j:Nat):Mx_:=fun a b=>if a=t∧b<j then md R m k i (t+1) a b else md R m k i t a b
theorem s2_zero (t a b:Nat):md R m k i t a b=s2 R m k i t 0 a b:=(if_neg fun h=>Nat.not_lt_zero _ h.2).symm
theorem s2_at (t j:Nat):s2 R m k i t j t j=md R m k i t t j:=if_neg fun h=>Nat.lt_irrefl _ h.2
theorem s2_r {t:Nat} (ht:¬ t=pl R m k) (j b:Nat):s2 R m k i t j (pl R m k) b=md R m k i t (pl R m k) b:=if_neg fun h=>ht h.1.symm
theorem Fd.s2_next (h:Fd R m k i) {t:Nat} (ht:¬ t=pl R m k) (j a b:Nat):(if a=t∧b=j then s2 R m k i t j t j+-md R m k i t t k*s2 R m k i t j (pl R m k) j else s2 R m k i t j a b)=s2 R m k i t (j+1) a b:=by
  rw [s2_at,s2_r ht]
  have e:md R m k i t t j+-md R m k i t t k*md R m k i t (pl R m k) j=md R m k i (t+1) t j:=by rw [h.md_next j ht];grind
  rw [e]
  unfold s2
  by_cases h1:a=t
  · by_cases h2:b=j
    · rw [if_pos ⟨h1,h2⟩,if_pos ⟨h1,by omega⟩,h1,h2]
    · rw [if_neg fun h=>h2 h.2]
      by_cases h3:b<j
      · rw [if_pos ⟨h1,h3⟩,if_pos ⟨h1,by omega⟩]
      · rw [if_neg fun h=>h3 h.2,if_neg fun h=>by have:=h.2;omega]
  · rw [if_neg fun h=>h1 h.1,if_neg fun h=>h1 h.1,if_neg fun h=>h1 h.1]
theorem s2_end {t b:Nat} (hb:b<N) (a:Nat):s2 R m k i t N a b=md R m k i (t+1) a b:=by
  unfold s2
  by_cases h1:a=t
  · rw [if_pos ⟨h1,hb⟩]
  · rw [if_neg fun h=>h1 h.1,md_at _ h1]
theorem Fd.s2_none (h:Fd R m k i) {t:Nat} (ht:t=pl R m k) (a b:Nat):s2 R m k i t 0 a b=md R m k i (t+1) a b:=by
  rw [← s2_zero]
  by_cases h1:a=t
  · rw [h1,ht,h.md_r,h.md_r]
  · rw [md_at _ h1]
theorem md_end {a b:Nat} (ha:a<R):md R m k i R a b=(rs R m (k+1)).m a b:=by unfold md;rw [if_pos ha]
variable {K:Nat}
theorem Fd.z_aa (h:Fd R m k i) (hz:∀ a,a<R→∀ b,b<N→RZ K K ((rs R m k).m a b)):∀ a,a<R→∀ b,b<N→RZ K K (aa R m k i a b):=fun a ha b hb=>by
  have hl:=h.lt
  have hr:pl R m k<R:=by have:=h.lt;omega
  unfold aa swp
  split
  · exact hz _ hr b hb
  · split
    · exact hz _ hl.2 b hb
    · exact hz a ha b hb
theorem Fd.z_md (h:Fd R m k i) (hz:∀ a,a<R→∀ b,b<N→RZ K K ((rs R m k).m a b)) {t:Nat} (ht:¬ t=pl R m k) (hR:t<R):∀ b,b<N→RZ K K (md R m k i t t b):=fun b hb=>by
  rw [md_j ht];exact h.z_aa hz t hR b hb
theorem Fd.z_mr (h:Fd R m k i) (hz:∀ a,a<R→∀ b,b<N→RZ K K ((rs R m k).m a b)) (hk:k<N) (t:Nat):∀ b,b<N→RZ (K+K) (K+K) (md R m k i t (pl R m k) b):=fun b hb=>by
  have hr:pl R m k<R:=by have:=h.lt;omega
  rw [h.md_r];exact rz_over (h.z_aa hz _ hr b hb) (h.z_aa hz _ hr k hk) h.ne
end
theorem Fd.z_mt {R N k i K:Nat} {m:Mx_} (h:Fd R m k i) (hz:∀ a,a<R→∀ b,b<N→RZ K K ((rs R m k).m a b)) (hk:k<N) {t:Nat} (hR:t<R):RZ (K+K) (K+K) (md R m k i t t k):=by
  by_cases ht:t=pl R m k
  · have:=h.z_mr hz hk t k hk
    rw [← ht] at this;exact this
  · exact (h.z_md hz ht hR k hk).mono (by omega) (by omega)
theorem bs_snoc {bs:Nat→Value} {n:Nat} {u:Value}:tb bs n++[u]=tb (fun t=>if t=n then u else bs t) (n+1):=by
  rw [← tb_snoc (f:=fun t=>if t=n then u else bs t) (n:=n) (x:=u) (by rw [if_pos rfl])]
  congr 1
  exact tb_congr fun t ht=>by rw [if_neg (by omega)]
theorem bs_swp {bs:Nat→Value} {R i r:Nat}:tb (fun z2=>if z2=i then bs r else (fun z2=>if z2=r then bs i else bs z2) z2) R=tb (sb bs i r) R:=tb_congr fun t _=>rfl
theorem itoa_zero_iff {q:Rat}:(Lib.itoa q.num==([48]:List UInt8))=true↔q=0:=by
  have e:([48]:List UInt8)=Lib.itoa (0:Int):=by decide+kernel
  constructor
  · intro h
    have h1:Lib.itoa q.num=Lib.itoa (0:Int):=by rw [← e];exact eq_of_beq h
    exact Rat.num_eq_zero.1 (itoa_inj h1)
  · intro h
    subst h;decide+kernel
theorem itoa_nz {q:Rat} (h:(Lib.itoa q.num==([48]:List UInt8))=false):q≠0:=fun e=>by rw [itoa_zero_iff.2 e] at h;cases h
theorem itoa_0n:Lib.itoa (0:Rat).num=([48]:List UInt8):=by decide+kernel
theorem itoa_0d:Lib.itoa ((0:Rat).den:Int)=([49]:List UInt8):=by decide+kernel
theorem rz_sm2 {A B n:Nat} {x y:Nat→Rat} (hx:∀ i,i<n→RZ A A (x i)) (hy:∀ i,i<n→RZ B B (y i)):RZ (n*(2*A+2*B+1)+1) (n*(2*A+2*B+1)+1) (sm n fun z9=>(x z9)*(y z9)):=by
  have h:=rz_sm (n:=n) hx hy
  refine h.mono ?_ ?_
  · rw [show A+B+A+B+1=2*A+2*B+1 by omega];exact Nat.le_refl _
  · exact Nat.succ_le_succ (Nat.mul_le_mul_left n (by omega))
set_option maxRecDepth 100000 in
set_option maxHeartbeats 1000000 in
theorem f5_dot {A B N:Nat} {vx vy:Value} {x y:Nat→Rat} (_hN:N≤1000) (hzx:∀ i,i<N→RZ A A (x i)) (hzy:∀ i,i<N→RZ B B (y i)) (_hz:N*(2*A+2*B+1)+2*A+2*B≤19990) {w:World} (hx:Sl EFr 84 2 w vx (tb (fun z1=>(x z1)) N)) (hy:Sl EFr 84 2 w vy (tb (fun z1=>(y z1)) N)):
    Calls Tryz.prog 82 #[vx,vy] w fun e w'=>e=.returned ((.agg #[(.string ⟨(Lib.itoa (((sm N fun z9=>(x z9)*(y z9))).num):List UInt8).toArray⟩),(.string ⟨(Lib.itoa ((((sm N fun z9=>(x z9)*(y z9))).den:Int)):List UInt8).toArray⟩)]))∧Gr w w':=by
 go_enter Tryz.func82,Tryz.ntmps82
 have hB:=Gr.refl w
 refine wp_seq_k (fun K10 k10=>?_)
 refine rg [0] ?_
 refine se ?_
 refine ea 84 #[(.string ⟨([]:List UInt8).toArray⟩),(.string ⟨([]:List UInt8).toArray⟩)] 4 hB fun b11 w11 g11 L11 o11 q11 hB=>?_
 simp only [p3,p4]
 refine sq_nil ?_
 refine k10 _ _ ?_
 try clear k10 K10
 refine wp_seq_k (fun K12 k12=>?_)
 refine rg [0,1,2] ?_
 refine sv 7 (.agg #[(.string ⟨([48]:List UInt8).toArray⟩),(.string ⟨([49]:List UInt8).toArray⟩)]) ?_
 refine se ?_
 refine ea 84 #[(.string ⟨([]:List UInt8).toArray⟩),(.string ⟨([]:List UInt8).toArray⟩)] 5 hB fun b13 w13 g13 L13 o13 q13 hB=>?_
 have ne11_13:=L11.ne o13
 simp only [p3,p4]
 refine se ?_
 have lo14:=L13
 refine es 84 0 (.agg #[(.string ⟨([48]:List UInt8).toArray⟩),(.string ⟨([49]:List UInt8).toArray⟩)]) [(.string ⟨([48]:List UInt8).toArray⟩),(.string ⟨([49]:List UInt8).toArray⟩)] #[(.string ⟨([48]:List UInt8).toArray⟩),(.string ⟨([49]:List UInt8).toArray⟩)] L13 hB q13 ⟨rfl,rfl,trivial⟩ fun w14 st14 kp14 L13 hB=>?_
 refine sq_nil ?_
 refine k12 _ _ ?_
 try clear k12 K12
 refine wp_seq_k (fun K15 k15=>?_)
 refine wp_seq_k (fun K16 k16=>?_)
 refine rg [0] ?_
 refine sv 6 (.int .i64 0) ?_
 refine sq_nil ?_
 refine k16 _ _ ?_
 try clear k16 K16
 refine wp_block ?_
 replace L13:Lc w14 b13 #[(.string ⟨(Lib.itoa (((sm 0 fun z9=>(x z9)*(y z9))).num):List UInt8).toArray⟩),(.string ⟨(Lib.itoa ((((sm 0 fun z9=>(x z9)*(y z9))).den:Int)):List UInt8).toArray⟩)] 84:=by show Lc _ _ #[.string ⟨(Lib.itoa (0:Rat).num).toArray⟩,.string ⟨(Lib.itoa ((0:Rat).den:Int)).toArray⟩] _;rw [itoa_0n,itoa_0d];exact L13
 replace L11:=st14.lc (L11.gr g13) ne11_13
 refine wp_loop_inv (a:=⟨List.toArray ?l17,[]⟩) (fun n a w'=>∃ (i:Nat) (u17:Nat→Value),N - i=n∧a=⟨[vx,vy,undef,undef,(.pointer (some ⟨b11,0,none⟩)),(.pointer (some ⟨b13,0,none⟩)),(.int .i64 ((i:Int))),(u17 7),(u17 8),(u17 9),(u17 10),(u17 11),(u17 12),(u17 13),(u17 14),(u17 15),(u17 16),(u17 17),(u17 18),(u17 19),(u17 20),(u17 21),(u17 22),(u17 23),(u17 24),undef].toArray,[]⟩∧i≤N∧Lc w' b11 #[(.string ⟨([]:List UInt8).toArray⟩),(.string ⟨([]:List UInt8).toArray⟩)] 84∧Lc w' b13 #[(.string ⟨(Lib.itoa (((sm i fun z9=>(x z9)*(y z9))).num):List UInt8).toArray⟩),(.string ⟨(Lib.itoa ((((sm i fun z9=>(x z9)*(y z9))).den:Int)):List UInt8).toArray⟩)] 84∧Gr w w') (N - 0) ?_ ?_
 ·exact ⟨0,(fun i=>List.getD ?l17 i undef),rfl,rfl,(Nat.zero_le _),L11,L13,hB⟩
 rintro n17 a17 w17 ⟨i,u17,rfl,rfl,hki,L11,L13,hB⟩ K17 k17
 refine wp_seq_k (fun K18 k18=>?_)
 refine wp_seq_k (fun K19 k19=>?_)
 refine rg [0,1,2,3] ?_
 refine sv 8 (.int .i64 ((i:Int))) ?_
 refine sv 9 vx ?_
 refine sw 10 (.int .i64 ((N:Int))) rfl (rv_lenn (e:=84) hx (tb_lenz rfl) _ _ rfl rfl (by kernel_rfl)) ?_
 refine sv 11 (.bool (decide ((i:Int)<(N:Int)))) ?_
 refine sq_nil ?_
 refine k19 _ _ ?_
 try clear k19 K19
 refine wp_cond_split (t:=decide ((i:Int)<(N:Int))) rfl (fun hb20=>?_) (fun hb20=>?_)
 ·have hli:i<N:=by have:=of_decide_eq_true hb20;omega
  refine wp_skip ?_
  refine k18 _ _ ?_
  try clear k18 K18
  refine wp_seq_k (fun K21 k21=>?_)
  refine wp_block ?_
  obtain ⟨_,_,rfl,at30⟩:=Sl.get hx (by decide) (tb_get (f:=(fun z1=>(x z1))) (n:=N) (i:=i) (by omega))
  obtain ⟨_,_,rfl,at31⟩:=Sl.get hy (by decide) (tb_get (f:=(fun z1=>(y z1))) (n:=N) (i:=i) (by omega))
  have gd32:=Gr.drew w17
  replace hB:=hB.trans gd32
  replace L13:=L13.gr gd32
  refine wp_region_ort (fun w'=>AtV w' vx (i*2) [(.string ⟨(Lib.itoa (((x i)).num):List UInt8).toArray⟩),(.string ⟨(Lib.itoa ((((x i)).den:Int)):List UInt8).toArray⟩)]∧AtV w' vy (i*2) [(.string ⟨(Lib.itoa (((y i)).num):List UInt8).toArray⟩),(.string ⟨(Lib.itoa ((((y i)).den:Int)):List UInt8).toArray⟩)]) [([11],(fun w'=>Lc w' b13 #[(.string ⟨(Lib.itoa (((sm i fun z9=>(x z9)*(y z9))).num):List UInt8).toArray⟩),(.string ⟨(Lib.itoa ((((sm i fun z9=>(x z9)*(y z9))).den:Int)):List UInt8).toArray⟩)] 84))] [(true,0),(true,1),(true,2),(true,3),(true,4),(true,5),(true,6),(true,7),(true,8),(false,9),(false,10),(false,11)] (by kernel_rfl) (by kernel_rfl) (by kernel_rfl) (by decide) (fun _ _ _ _ _ h=>h) ⟨(at30.gr hB),(at31.gr hB)⟩ ⟨fun _=>L13,trivial⟩ ?_
  refine tw 14 (.agg #[(.string ⟨(Lib.itoa (((sm i fun z9=>(x z9)*(y z9))).num):List UInt8).toArray⟩),(.string ⟨(Lib.itoa ((((sm i fun z9=>(x z9)*(y z9))).den:Int)):List UInt8).toArray⟩)]) rfl (fun w' hS=>(rl 84 0 [(.string ⟨(Lib.itoa (((sm i fun z9=>(x z9)*(y z9))).num):List UInt8).toArray⟩),(.string ⟨(Lib.itoa ((((sm i fun z9=>(x z9)*(y z9))).den:Int)):List UInt8).toArray⟩)] (hS.2.1 (by kernel_rfl)))) ?_
  refine tv 15 vx ?_
  refine tv 16 (.int .i64 ((i:Int))) ?_
  refine tw 17 (adr vx (i*2)) rfl (fun w' hS=>(rv_idxn (e:=84) hx tb_len (by decide) i (by omega) _ _ _ rfl rfl rfl (by kernel_rfl) (by kernel_rfl))) ?_
  refine tw 18 (.agg #[(.string ⟨(Lib.itoa (((x i)).num):List UInt8).toArray⟩),(.string ⟨(Lib.itoa ((((x i)).den:Int)):List UInt8).toArray⟩)]) rfl (fun w' hS=>(rv_ldn [(.string ⟨(Lib.itoa (((x i)).num):List UInt8).toArray⟩),(.string ⟨(Lib.itoa ((((x i)).den:Int)):List UInt8).toArray⟩)] hS.1.1 _ _ rfl rfl (by kernel_rfl))) ?_
  refine tv 19 vy ?_
  refine tv 20 (.int .i64 ((i:Int))) ?_
  refine tw 21 (adr vy (i*2)) rfl (fun w' hS=>(rv_idxn (e:=84) hy tb_len (by decide) i (by omega) _ _ _ rfl rfl rfl (by kernel_rfl) (by kernel_rfl))) ?_
  refine tw 22 (.agg #[(.string ⟨(Lib.itoa (((y i)).num):List UInt8).toArray⟩),(.string ⟨(Lib.itoa ((((y i)).den:Int)):List UInt8).toArray⟩)]) rfl (fun w' hS=>(rv_ldn [(.string ⟨(Lib.itoa (((y i)).num):List UInt8).toArray⟩),(.string ⟨(Lib.itoa ((((y i)).den:Int)):List UInt8).toArray⟩)] hS.1.2 _ _ rfl rfl (by kernel_rfl))) ?_
  refine te ?_
  refine ec 23 (f5_mul ((x i)) ((y i)) (hzx i hli) (hzy i hli) (by omega) _) ?_
  rintro e34 w34 ⟨rfl,g34⟩
  refine ⟨_,rfl,?_⟩
  replace hB:=hB.trans g34
  replace L13:=L13.gr g34
  refine ⟨⟨(at30.gr hB),(at31.gr hB)⟩,⟨fun _=>L13,trivial⟩,?_⟩
  simp only [p3,p4]
  refine te ?_
  refine ec 24 (f5_add ((sm i fun z9=>(x z9)*(y z9))) (((x i)*(y i))) ((rz_sm2 (fun j hj=>hzx j (by omega)) (fun j hj=>hzy j (by omega)) (n:=i)).mono (show _≤N*(2*A+2*B+1)+1 from Nat.succ_le_succ (Nat.mul_le_mul_right _ hki)) (Nat.succ_le_succ (Nat.mul_le_mul_right _ hki))) ((hzx i hli).mul (hzy i hli)) (by omega) _) ?_
  rintro e36 w36 ⟨rfl,g36⟩
  refine ⟨_,rfl,?_⟩
  replace hB:=hB.trans g36
  replace L13:=L13.gr g36
  refine ⟨⟨(at30.gr hB),(at31.gr hB)⟩,⟨fun _=>L13,trivial⟩,?_⟩
  simp only [p3,p4]
  refine te ?_
  have lo38:=L13
  refine es 84 0 (.agg #[(.string ⟨(Lib.itoa ((((sm i fun z9=>(x z9)*(y z9))+((x i)*(y i)))).num):List UInt8).toArray⟩),(.string ⟨(Lib.itoa (((((sm i fun z9=>(x z9)*(y z9))+((x i)*(y i)))).den:Int)):List UInt8).toArray⟩)]) [(.string ⟨(Lib.itoa ((((sm i fun z9=>(x z9)*(y z9))+((x i)*(y i)))).num):List UInt8).toArray⟩),(.string ⟨(Lib.itoa (((((sm i fun z9=>(x z9)*(y z9))+((x i)*(y i)))).den:Int)):List UInt8).toArray⟩)] #[(.string ⟨(Lib.itoa ((((sm i fun z9=>(x z9)*(y z9))+((x i)*(y i)))).num):List UInt8).toArray⟩),(.string ⟨(Lib.itoa (((((sm i fun z9=>(x z9)*(y z9))+((x i)*(y i)))).den:Int)):List UInt8).toArray⟩)] L13 hB q13 ⟨rfl,rfl,trivial⟩ fun w38 st38 kp38 L13 hB=>?_
  refine ⟨⟨(at30.gr hB),(at31.gr hB)⟩,⟨cameT (by kernel_rfl),trivial⟩,?_⟩
  refine ort_nil ?_
  refine k21 _ _ ?_
  try clear k21 K21
  refine rg [0,1,2] ?_
  refine sv 12 (.int .i64 ((i:Int))) ?_
  refine sw 13 (.int .i64 (((i:Int)+1))) rfl (RunV.int (x:=IntKind.i64.wrap (((i:Int)+1))) (y:=((i:Int)+1)) (rvk (by kernel_rfl)) (by first | rfl | (rw [IntKind.wrap_i64];omega))) ?_
  refine sv 6 (.int .i64 (((i:Int)+1))) ?_
  refine sq_nil ?_
  replace L11:=st38.lc (L11.gr (gd32.trans (g34.trans g36))) ne11_13
  refine k17 (N - (i+1)) ⟨List.toArray ?l39,[]⟩ _ (by omega) ?_
  exact ⟨i+1,(fun i=>List.getD ?l39 i undef),rfl,rfl,(by omega),L11,L13,hB⟩
 ·have hei:N=i:=by have:=of_decide_eq_false hb20;omega
  subst hei
  refine wp_exit ?_
  simp only [Exit.then,Exit.inBlock,↓reduceIte]
  refine k15 _ _ ?_
  try clear k15 K15
  refine wp_seq_k (fun K40 k40=>?_)
  refine rg [0,1] ?_
  refine sw 25 (.agg #[(.string ⟨(Lib.itoa (((sm N fun z9=>(x z9)*(y z9))).num):List UInt8).toArray⟩),(.string ⟨(Lib.itoa ((((sm N fun z9=>(x z9)*(y z9))).den:Int)):List UInt8).toArray⟩)]) rfl (rl 84 0 [(.string ⟨(Lib.itoa (((sm N fun z9=>(x z9)*(y z9))).num):List UInt8).toArray⟩),(.string ⟨(Lib.itoa ((((sm N fun z9=>(x z9)*(y z9))).den:Int)):List UInt8).toArray⟩)] L13) ?_
  refine se ?_
  have lo41:=L11
  refine es 84 0 (.agg #[(.string ⟨(Lib.itoa (((sm N fun z9=>(x z9)*(y z9))).num):List UInt8).toArray⟩),(.string ⟨(Lib.itoa ((((sm N fun z9=>(x z9)*(y z9))).den:Int)):List UInt8).toArray⟩)]) [(.string ⟨(Lib.itoa (((sm N fun z9=>(x z9)*(y z9))).num):List UInt8).toArray⟩),(.string ⟨(Lib.itoa ((((sm N fun z9=>(x z9)*(y z9))).den:Int)):List UInt8).toArray⟩)] #[(.string ⟨(Lib.itoa (((sm N fun z9=>(x z9)*(y z9))).num):List UInt8).toArray⟩),(.string ⟨(Lib.itoa ((((sm N fun z9=>(x z9)*(y z9))).den:Int)):List UInt8).toArray⟩)] L11 hB q11 ⟨rfl,rfl,trivial⟩ fun w41 st41 kp41 L11 hB=>?_
  refine sq_nil ?_
  refine k40 _ _ ?_
  try clear k40 K40
  refine wp_ret ?_
  refine bodyPost_ret (v:=(.agg #[(.string ⟨(Lib.itoa (((sm N fun z9=>(x z9)*(y z9))).num):List UInt8).toArray⟩),(.string ⟨(Lib.itoa ((((sm N fun z9=>(x z9)*(y z9))).den:Int)):List UInt8).toArray⟩)])) (ret_cell _ _ _ rfl rfl L11 (by kernel_rfl)) rfl ⟨?_,hB⟩
  exact rfl

set_option maxRecDepth 100000 in
set_option maxHeartbeats 1000000 in
theorem f5_columns {R N:Nat} {v:Value} {m:Nat→Nat→Rat} (hR:R=0→N=0) {w:World} (hs:Sl (ERw EFr 84 2) 51 1 w v (tb (fun z0=>tb (fun z1=>(m z0 z1)) N) R)):
    Calls Tryz.prog 20 #[v] w fun e w'=>e=.returned (.int .i64 (N:Int))∧Gr w w':=by
 go_enter Tryz.func20,Tryz.ntmps20
 have hB:=Gr.refl w
 refine wp_seq_k (fun K10 k10=>?_)
 refine rg [0] ?_
 refine sv 2 (.int .i64 0) ?_
 refine sq_nil ?_
 refine k10 _ _ ?_
 try clear k10 K10
 refine wp_seq_k (fun K11 k11=>?_)
 refine wp_seq_k (fun K12 k12=>?_)
 refine rg [0,1,2] ?_
 refine sv 3 v ?_
 refine sw 4 (.int .i64 ((R:Int))) rfl (rv_lenn (e:=51) hs (tb_lenz rfl) _ _ rfl rfl (by kernel_rfl)) ?_
 refine sv 5 (.bool (((R:Int)==(0:Int)))) ?_
 refine sq_nil ?_
 refine k12 _ _ ?_
 try clear k12 K12
 refine wp_cond_split (t:=((R:Int)==(0:Int))) rfl (fun hb13=>?_) (fun hb13=>?_)
 ·have hq14:(R:Int)=(0:Int):=by have:=hb13;simp at this;omega
  refine wp_seq_k (fun K15 k15=>?_)
  refine rg [0] ?_
  refine sv 2 (.int .i64 0) ?_
  refine sq_nil ?_
  refine k15 _ _ ?_
  try clear k15 K15
  refine wp_ret ?_
  simp only [Exit.then]
  refine bodyPost_ret (v:=(.int .i64 0)) (ret_tmp rfl rfl) rfl ⟨?_,hB⟩
  exact (by rw [hR (by omega)];rfl)
 ·have hq16:¬ (R:Int)=(0:Int):=by have:=hb13;simp at this;omega
  refine wp_skip ?_
  refine k11 _ _ ?_
  try clear k11 K11
  refine wp_seq_k (fun K17 k17=>?_)
  refine rg [0,1,2,3,4] ?_
  refine sv 6 v ?_
  refine sw 7 (adr v (0*1)) rfl (rv_idxn (e:=51) hs tb_len (by decide) 0 (by omega) _ _ _ rfl rfl rfl (by kernel_rfl) (by kernel_rfl)) ?_
  obtain ⟨_,_,⟨u18,rfl,hr18⟩,at18⟩:=Sl.get hs (by decide) (tb_get (f:=(fun z0=>tb (fun z1=>(m z0 z1)) N)) (n:=R) (i:=0) (by omega))
  refine sw 8 u18 rfl (rv_ld1 u18 (at18.gr hB) _ _ rfl rfl (by kernel_rfl)) ?_
  refine sw 9 (.int .i64 ((N:Int))) rfl (rv_lenn (e:=84) hr18 (tb_lenz rfl) _ _ rfl rfl (by kernel_rfl)) ?_
  refine sv 2 (.int .i64 ((N:Int))) ?_
  refine sq_nil ?_
  refine k17 _ _ ?_
  try clear k17 K17
  refine wp_ret ?_
  refine bodyPost_ret (v:=(.int .i64 ((N:Int)))) (ret_tmp rfl rfl) rfl ⟨?_,hB⟩
  exact rfl

set_option maxRecDepth 100000 in
set_option maxHeartbeats 1000000 in
theorem f5_transpose {R N:Nat} {v:Value} {m:Nat→Nat→Rat} (hR:R=0→N=0) (_hR2:R≤1000) (_hN2:N≤1000) {w:World} (hs:Sl (ERw EFr 84 2) 51 1 w v (tb (fun z0=>tb (fun z1=>(m z0 z1)) N) R)):
    Calls Tryz.prog 37 #[v] w fun e w'=>(∃ u,e=.returned u∧Sl (ERw EFr 84 2) 51 1 w' u (tb (fun z0=>tb (fun z1=>(m z1 z0)) R) N))∧Gr w w':=by
 go_enter Tryz.func37,Tryz.ntmps37
 have hB:=Gr.refl w
 refine wp_seq_k (fun K10 k10=>?_)
 refine rg [0] ?_
 refine sv 2 (.slice none 0 0) ?_
 refine sq_nil ?_
 refine k10 _ _ ?_
 try clear k10 K10
 refine wp_seq_k (fun K11 k11=>?_)
 refine rg [0] ?_
 refine sv 3 (.slice none 0 0) ?_
 refine sq_nil ?_
 refine k11 _ _ ?_
 try clear k11 K11
 refine wp_seq_k (fun K12 k12=>?_)
 refine wp_seq_k (fun K13 k13=>?_)
 refine rg [0] ?_
 refine sv 4 (.int .i64 0) ?_
 refine sq_nil ?_
 refine k13 _ _ ?_
 try clear k13 K13
 refine wp_block ?_
 refine wp_loop_inv (a:=⟨List.toArray ?l14,[]⟩) (fun n a w'=>∃ (i:Nat) (vo:Value) (u14:Nat→Value),N - i=n∧a=⟨[v,undef,(.slice none 0 0),vo,(.int .i64 ((i:Int))),(u14 5),(u14 6),(u14 7),(u14 8),(u14 9),(u14 10),(u14 11),(u14 12),(u14 13),(u14 14),(u14 15),(u14 16),(u14 17),(u14 18),(u14 19),(u14 20),(u14 21),(u14 22),(u14 23),(u14 24),(u14 25),(u14 26),(u14 27),(u14 28),(u14 29),(u14 30),(u14 31),(u14 32),undef].toArray,[]⟩∧i≤N∧Ow (ERw EFr 84 2) 51 1 w' w.heap.size vo (tb (fun z0=>tb (fun z1=>(m z1 z0)) R) i)∧Gr w w') (N - 0) ?_ ?_
 ·exact ⟨0,(.slice none 0 0),(fun i=>List.getD ?l14 i undef),rfl,rfl,(Nat.zero_le _),(Ow.nil _ _ _ _ _),hB⟩
 rintro n14 a14 w14 ⟨i,vo,u14,rfl,rfl,hki,oo,hB⟩ K14 k14
 have lehC:=Below.size hB
 have hC:=Gr.refl w14
 refine wp_seq_k (fun K15 k15=>?_)
 refine wp_seq_k (fun K16 k16=>?_)
 refine rg [0,1,2,3] ?_
 refine sv 7 (.int .i64 ((i:Int))) ?_
 refine sv 8 v ?_
 refine se ?_
 refine ec 9 (f5_columns hR (hs.gr (stab_rw stab_fr 84 2) hB)) ?_
 rintro e17 w17 ⟨rfl,g17⟩
 refine ⟨_,rfl,?_⟩
 replace hB:=hB.trans g17
 replace hC:=hC.trans g17
 simp only [p3,p4]
 refine sv 10 (.bool (decide ((i:Int)<(N:Int)))) ?_
 refine sq_nil ?_
 refine k16 _ _ ?_
 try clear k16 K16
 refine wp_cond_split (t:=decide ((i:Int)<(N:Int))) rfl (fun hb18=>?_) (fun hb18=>?_)
 ·have hli:i<N:=by have:=of_decide_eq_true hb18;omega
  refine wp_skip ?_
  refine k15 _ _ ?_
  try clear k15 K15
  refine wp_seq_k (fun K19 k19=>?_)
  refine wp_block ?_
  refine wp_seq_k (fun K20 k20=>?_)
  refine rg [0] ?_
  refine sv 5 (.slice none 0 0) ?_
  refine sq_nil ?_
  refine k20 _ _ ?_
  try clear k20 K20
  refine wp_seq_k (fun K21 k21=>?_)
  refine wp_seq_k (fun K22 k22=>?_)
  refine rg [0] ?_
  refine sv 6 (.int .i64 0) ?_
  refine sq_nil ?_
  refine k22 _ _ ?_
  try clear k22 K22
  refine wp_block ?_
  refine wp_loop_inv (a:=⟨List.toArray ?l23,[]⟩) (fun n a w'=>∃ (j:Nat) (vi:Value) (u23:Nat→Value),R - j=n∧a=⟨[v,undef,(.slice none 0 0),vo,(.int .i64 ((i:Int))),vi,(.int .i64 ((j:Int))),(u23 7),(u23 8),(u23 9),(.bool (decide ((i:Int)<(N:Int)))),(u23 11),(u23 12),(u23 13),(u23 14),(u23 15),(u23 16),(u23 17),(u23 18),(u23 19),(u23 20),(u23 21),(u23 22),(u23 23),(u23 24),(u23 25),(u23 26),(u23 27),(u23 28),(u23 29),(u23 30),(u23 31),(u23 32),undef].toArray,[]⟩∧j≤R∧Ow EFr 84 2 w' w14.heap.size vi (tb (fun z1=>(m z1 i)) j)∧Gr w14 w'∧Gr w w') (R - 0) ?_ ?_
  ·exact ⟨0,(.slice none 0 0),(fun i=>List.getD ?l23 i undef),rfl,rfl,(Nat.zero_le _),(Ow.nil _ _ _ _ _),hC,hB⟩
  rintro n23 a23 w23 ⟨j,vi,u23,rfl,rfl,hkj,oi,hC,hB⟩ K23 k23
  refine wp_seq_k (fun K24 k24=>?_)
  refine wp_seq_k (fun K25 k25=>?_)
  refine rg [0,1,2,3] ?_
  refine sv 13 (.int .i64 ((j:Int))) ?_
  refine sv 14 v ?_
  refine sw 15 (.int .i64 ((R:Int))) rfl (rv_lenn (e:=51) hs (tb_lenz rfl) _ _ rfl rfl (by kernel_rfl)) ?_
  refine sv 16 (.bool (decide ((j:Int)<(R:Int)))) ?_
  refine sq_nil ?_
  refine k25 _ _ ?_
  try clear k25 K25
  refine wp_cond_split (t:=decide ((j:Int)<(R:Int))) rfl (fun hb26=>?_) (fun hb26=>?_)
  ·have hlj:j<R:=by have:=of_decide_eq_true hb26;omega
   refine wp_skip ?_
   refine k24 _ _ ?_
   try clear k24 K24
   refine wp_seq_k (fun K27 k27=>?_)
   refine wp_block ?_
   refine rg [0,1,2,3,4,5,6,7,8,9,10] ?_
   refine sv 19 vi ?_
   refine sv 20 v ?_
   refine sv 21 (.int .i64 ((j:Int))) ?_
   refine sw 22 (adr v (j*1)) rfl (rv_idxn (e:=51) hs tb_len (by decide) j (by omega) _ _ _ rfl rfl rfl (by kernel_rfl) (by kernel_rfl)) ?_
   obtain ⟨_,_,⟨u28,rfl,hr28⟩,at28⟩:=Sl.get hs (by decide) (tb_get (f:=(fun z0=>tb (fun z1=>(m z0 z1)) N)) (n:=R) (i:=j) (by omega))
   refine sw 23 u28 rfl (rv_ld1 u28 (at28.gr hB) _ _ rfl rfl (by kernel_rfl)) ?_
   refine sv 24 (.int .i64 ((i:Int))) ?_
   refine sw 25 (adr u28 (i*2)) rfl (rv_idxn (e:=84) hr28 tb_len (by decide) i (by omega) _ _ _ rfl rfl rfl (by kernel_rfl) (by kernel_rfl)) ?_
   obtain ⟨_,_,rfl,at29⟩:=Sl.get hr28 (by decide) (tb_get (f:=(fun z1=>(m j z1))) (n:=N) (i:=i) (by omega))
   refine sw 26 (.agg #[(.string ⟨(Lib.itoa (((m j i)).num):List UInt8).toArray⟩),(.string ⟨(Lib.itoa ((((m j i)).den:Int)):List UInt8).toArray⟩)]) rfl (rv_ldn [(.string ⟨(Lib.itoa (((m j i)).num):List UInt8).toArray⟩),(.string ⟨(Lib.itoa ((((m j i)).den:Int)):List UInt8).toArray⟩)] (at29.gr hB) _ _ rfl rfl (by kernel_rfl)) ?_
   refine se ?_
   refine eff_bs 84 1 #[(.string ⟨(Lib.itoa (((m j i)).num):List UInt8).toArray⟩),(.string ⟨(Lib.itoa ((((m j i)).den:Int)):List UInt8).toArray⟩)] (some 27) rfl (fun _=>by kernel_rfl) (fun b30 w30 g30 L30 q30=>?_)
   have q30_hC:=Nat.le_trans (Below.size hC) q30
   replace hB:=hB.trans g30
   replace hC:=hC.trans g30
   simp only [putl,p3,p4]
   refine se ?_
   replace oi:=oi.gr stab_fr g30
   refine eff_apg stab_fr _ _ 51 84 w14.heap.size (.agg #[(.string ⟨([]:List UInt8).toArray⟩),(.string ⟨([]:List UInt8).toArray⟩)]) vi (tb (fun z1=>(m z1 i)) j) b30 [(.string ⟨(Lib.itoa (((m j i)).num):List UInt8).toArray⟩),(.string ⟨(Lib.itoa ((((m j i)).den:Int)):List UInt8).toArray⟩)] ((m j i)) 2 1 (some 28) 32 rfl rfl rfl rfl oi L30 ⟨rfl,rfl,trivial⟩ rfl rfl (Below.size hC) (by rw [tb_len];omega) (by decide) (by kernel_rfl) (by kernel_rfl) (by decide) (by decide) (fun v31 w31 ow31 wt31 hg31=>?_)
   replace hB:=hg31 _ hB lehC
   replace hC:=hg31 _ hC (Nat.le_refl _)
   replace ow31:=ow31.cast (tb_snoc (f:=(fun z1=>(m z1 i))) (n:=j) (by first | rfl | exact fil_all))
   simp only [putl,p3,p4]
   refine sv 5 v31 ?_
   refine sq_nil ?_
   refine k27 _ _ ?_
   try clear k27 K27
   refine rg [0,1,2] ?_
   refine sv 17 (.int .i64 ((j:Int))) ?_
   refine sw 18 (.int .i64 (((j:Int)+1))) rfl (RunV.int (x:=IntKind.i64.wrap (((j:Int)+1))) (y:=((j:Int)+1)) (rvk (by kernel_rfl)) (by first | rfl | (rw [IntKind.wrap_i64];omega))) ?_
   refine sv 6 (.int .i64 (((j:Int)+1))) ?_
   refine sq_nil ?_
   refine k23 (R - (j+1)) ⟨List.toArray ?l32,[]⟩ _ (by omega) ?_
   exact ⟨j+1,v31,(fun i=>List.getD ?l32 i undef),rfl,rfl,(by omega),ow31,hC,hB⟩
  ·have hej:R=j:=by have:=of_decide_eq_false hb26;omega
   subst hej
   refine wp_exit ?_
   simp only [Exit.then,Exit.inBlock,↓reduceIte]
   refine k21 _ _ ?_
   try clear k21 K21
   refine rg [0,1,2,3,4] ?_
   refine sv 29 vo ?_
   refine sv 30 vi ?_
   refine se ?_
   refine eff_bs1 26 51 vi (some 31) rfl rfl rfl (oi.sl).forms (fun _ _ _ _=>by kernel_rfl) (fun b33 w33 g33 L33 q33=>?_)
   have q33_hC:=Nat.le_trans (Below.size hC) q33
   replace hB:=hB.trans g33
   replace hC:=hC.trans g33
   simp only [putl,p3,p4]
   refine se ?_
   replace oi:=oi.gr stab_fr g33
   refine eff_apg (stab_rw stab_fr 84 2) _ _ 26 51 w.heap.size (.slice none 0 0) vo (tb (fun z0=>tb (fun z1=>(m z1 z0)) R) i) b33 [vi] (tb (fun z1=>(m z1 i)) R) 1 1 (some 32) 24 rfl rfl rfl rfl (oo.gr (stab_rw stab_fr 84 2) hC) L33 ⟨oi.one,trivial⟩ rfl ⟨_,rfl,(oi.sl)⟩ (Below.size hB) (by rw [tb_len];omega) (by decide) (by kernel_rfl) (by kernel_rfl) (by decide) (by decide) (fun v34 w34 ow34 wt34 hg34=>?_)
   replace hB:=hg34 _ hB (Nat.le_refl _)
   replace ow34:=ow34.cast (tb_snoc (f:=(fun z0=>tb (fun z1=>(m z1 z0)) R)) (n:=i) (by first | rfl | exact fil_all))
   simp only [putl,p3,p4]
   refine sv 3 v34 ?_
   refine sq_nil ?_
   refine k19 _ _ ?_
   try clear k19 K19
   refine rg [0,1,2] ?_
   refine sv 11 (.int .i64 ((i:Int))) ?_
   refine sw 12 (.int .i64 (((i:Int)+1))) rfl (RunV.int (x:=IntKind.i64.wrap (((i:Int)+1))) (y:=((i:Int)+1)) (rvk (by kernel_rfl)) (by first | rfl | (rw [IntKind.wrap_i64];omega))) ?_
   refine sv 4 (.int .i64 (((i:Int)+1))) ?_
   refine sq_nil ?_
   refine k14 (N - (i+1)) ⟨List.toArray ?l35,[]⟩ _ (by omega) ?_
   exact ⟨i+1,v34,(fun i=>List.getD ?l35 i undef),rfl,rfl,(by omega),ow34,hB⟩
 ·have hei:N=i:=by have:=of_decide_eq_false hb18;omega
  subst hei
  refine wp_exit ?_
  simp only [Exit.then,Exit.inBlock,↓reduceIte]
  refine k12 _ _ ?_
  try clear k12 K12
  refine wp_seq_k (fun K36 k36=>?_)
  refine rg [0,1] ?_
  refine sv 33 vo ?_
  refine sv 2 vo ?_
  refine sq_nil ?_
  refine k36 _ _ ?_
  try clear k36 K36
  refine wp_ret ?_
  refine bodyPost_ret (v:=vo) (ret_tmp rfl rfl) rfl ⟨?_,hB⟩
  exact ⟨_,rfl,((oo.gr (stab_rw stab_fr 84 2) hC).sl)⟩

set_option maxRecDepth 100000 in
set_option maxHeartbeats 1000000 in
theorem f5_product {A B R S N:Nat} {va vb:Value} {ma mb:Nat→Nat→Rat} (hSN:S=0→N=0) (_hR2:R≤1000) (_hS2:S≤1000) (_hN2:N≤1000) (hza:∀ i,i<R→∀ j,j<S→RZ A A (ma i j)) (hzb:∀ i,i<S→∀ j,j<N→RZ B B (mb i j)) (hz:S*(2*A+2*B+1)+2*A+2*B≤19990) {w:World} (ha:Sl (ERw EFr 84 2) 51 1 w va (tb (fun z0=>tb (fun z1=>(ma z0 z1)) S) R)) (hb:Sl (ERw EFr 84 2) 51 1 w vb (tb (fun z0=>tb (fun z1=>(mb z0 z1)) N) S)):
    Calls Tryz.prog 45 #[va,vb] w fun e w'=>(∃ u,e=.returned u∧Sl (ERw EFr 84 2) 51 1 w' u (tb (fun z0=>tb (fun z1=>(sm S fun z9=>ma z0 z9*mb z9 z1)) N) R))∧Gr w w':=by
 go_enter Tryz.func45,Tryz.ntmps45
 have hB:=Gr.refl w
 refine wp_seq_k (fun K10 k10=>?_)
 refine rg [0] ?_
 refine sv 4 (.slice none 0 0) ?_
 refine sq_nil ?_
 refine k10 _ _ ?_
 try clear k10 K10
 refine wp_seq_k (fun K11 k11=>?_)
 refine rg [0] ?_
 refine sv 5 (.slice none 0 0) ?_
 refine sq_nil ?_
 refine k11 _ _ ?_
 try clear k11 K11
 refine wp_seq_k (fun K12 k12=>?_)
 refine rg [0,1,2] ?_
 refine sv 10 vb ?_
 refine se ?_
 refine ec 11 (f5_transpose hSN (by omega) (by omega) (hb.gr (stab_rw stab_fr 84 2) hB)) ?_
 rintro e13 w13 ⟨⟨u13,rfl,hs13⟩,g13⟩
 refine ⟨_,rfl,?_⟩
 replace hB:=hB.trans g13
 have lehc13:=Below.size hB
 have hc13:=Gr.refl w13
 simp only [p3,p4]
 refine sv 6 u13 ?_
 refine sq_nil ?_
 refine k12 _ _ ?_
 try clear k12 K12
 refine wp_seq_k (fun K14 k14=>?_)
 refine wp_seq_k (fun K15 k15=>?_)
 refine rg [0] ?_
 refine sv 7 (.int .i64 0) ?_
 refine sq_nil ?_
 refine k15 _ _ ?_
 try clear k15 K15
 refine wp_block ?_
 refine wp_loop_inv (a:=⟨List.toArray ?l16,[]⟩) (fun n a w'=>∃ (i:Nat) (vo:Value) (u16:Nat→Value),R - i=n∧a=⟨[va,vb,undef,undef,(.slice none 0 0),vo,u13,(.int .i64 ((i:Int))),(u16 8),(u16 9),(u16 10),(u16 11),(u16 12),(u16 13),(u16 14),(u16 15),(u16 16),(u16 17),(u16 18),(u16 19),(u16 20),(u16 21),(u16 22),(u16 23),(u16 24),(u16 25),(u16 26),(u16 27),(u16 28),(u16 29),(u16 30),(u16 31),(u16 32),(u16 33),(u16 34),(u16 35),(u16 36),(u16 37),(u16 38),(u16 39),undef].toArray,[]⟩∧i≤R∧Ow (ERw EFr 84 2) 51 1 w' w13.heap.size vo (tb (fun z0=>tb (fun z1=>(sm S fun z9=>ma z0 z9*mb z9 z1)) N) i)∧Gr w13 w'∧Gr w w') (R - 0) ?_ ?_
 ·exact ⟨0,(.slice none 0 0),(fun i=>List.getD ?l16 i undef),rfl,rfl,(Nat.zero_le _),(Ow.nil _ _ _ _ _),hc13,hB⟩
 rintro n16 a16 w16 ⟨i,vo,u16,rfl,rfl,hki,oo,hc13,hB⟩ K16 k16
 have lehC:=Below.size hB
 have lehC_hc13:=Below.size hc13
 have hC:=Gr.refl w16
 refine wp_seq_k (fun K17 k17=>?_)
 refine wp_seq_k (fun K18 k18=>?_)
 refine rg [0,1,2,3] ?_
 refine sv 12 (.int .i64 ((i:Int))) ?_
 refine sv 13 va ?_
 refine sw 14 (.int .i64 ((R:Int))) rfl (rv_lenn (e:=51) ha (tb_lenz rfl) _ _ rfl rfl (by kernel_rfl)) ?_
 refine sv 15 (.bool (decide ((i:Int)<(R:Int)))) ?_
 refine sq_nil ?_
 refine k18 _ _ ?_
 try clear k18 K18
 refine wp_cond_split (t:=decide ((i:Int)<(R:Int))) rfl (fun hb19=>?_) (fun hb19=>?_)
 ·have hli:i<R:=by have:=of_decide_eq_true hb19;omega
  refine wp_skip ?_
  refine k17 _ _ ?_
  try clear k17 K17
  refine wp_seq_k (fun K20 k20=>?_)
  refine wp_block ?_
  refine wp_seq_k (fun K21 k21=>?_)
  refine rg [0] ?_
  refine sv 8 (.slice none 0 0) ?_
  refine sq_nil ?_
  refine k21 _ _ ?_
  try clear k21 K21
  refine wp_seq_k (fun K22 k22=>?_)
  refine wp_seq_k (fun K23 k23=>?_)
  refine rg [0] ?_
  refine sv 9 (.int .i64 0) ?_
  refine sq_nil ?_
  refine k23 _ _ ?_
  try clear k23 K23
  refine wp_block ?_
  refine wp_loop_inv (a:=⟨List.toArray ?l24,[]⟩) (fun n a w'=>∃ (j:Nat) (vi:Value) (u24:Nat→Value),N - j=n∧a=⟨[va,vb,undef,undef,(.slice none 0 0),vo,u13,(.int .i64 ((i:Int))),vi,(.int .i64 ((j:Int))),(u24 10),(u24 11),(u24 12),(u24 13),(u24 14),(.bool (decide ((i:Int)<(R:Int)))),(u24 16),(u24 17),(u24 18),(u24 19),(u24 20),(u24 21),(u24 22),(u24 23),(u24 24),(u24 25),(u24 26),(u24 27),(u24 28),(u24 29),(u24 30),(u24 31),(u24 32),(u24 33),(u24 34),(u24 35),(u24 36),(u24 37),(u24 38),(u24 39),undef].toArray,[]⟩∧j≤N∧Ow EFr 84 2 w' w16.heap.size vi (tb (fun z1=>(sm S fun z9=>ma i z9*mb z9 z1)) j)∧Gr w13 w'∧Gr w16 w'∧Gr w w') (N - 0) ?_ ?_
  ·exact ⟨0,(.slice none 0 0),(fun i=>List.getD ?l24 i undef),rfl,rfl,(Nat.zero_le _),(Ow.nil _ _ _ _ _),hc13,hC,hB⟩
  rintro n24 a24 w24 ⟨j,vi,u24,rfl,rfl,hkj,oi,hc13,hC,hB⟩ K24 k24
  refine wp_seq_k (fun K25 k25=>?_)
  refine wp_seq_k (fun K26 k26=>?_)
  refine rg [0,1,2,3] ?_
  refine sv 18 (.int .i64 ((j:Int))) ?_
  refine sv 19 u13 ?_
  refine sw 20 (.int .i64 ((N:Int))) rfl (rv_lenn (e:=51) hs13 (tb_lenz rfl) _ _ rfl rfl (by kernel_rfl)) ?_
  refine sv 21 (.bool (decide ((j:Int)<(N:Int)))) ?_
  refine sq_nil ?_
  refine k26 _ _ ?_
  try clear k26 K26
  refine wp_cond_split (t:=decide ((j:Int)<(N:Int))) rfl (fun hb27=>?_) (fun hb27=>?_)
  ·have hlj:j<N:=by have:=of_decide_eq_true hb27;omega
   refine wp_skip ?_
   refine k25 _ _ ?_
   try clear k25 K25
   refine wp_seq_k (fun K28 k28=>?_)
   refine wp_block ?_
   obtain ⟨_,_,⟨u36,rfl,hr36⟩,at36⟩:=Sl.get ha (by decide) (tb_get (f:=(fun z0=>tb (fun z1=>(ma z0 z1)) S)) (n:=R) (i:=i) (by omega))
   obtain ⟨_,_,⟨u37,rfl,hr37⟩,at37⟩:=Sl.get hs13 (by decide) (tb_get (f:=(fun z0=>tb (fun z1=>(mb z1 z0)) S)) (n:=N) (i:=j) (by omega))
   have gd38:=Gr.drew w24
   replace hB:=hB.trans gd38
   replace hc13:=hc13.trans gd38
   replace hC:=hC.trans gd38
   refine wp_region_ord (fun w'=>AtV w' va (i*1) [u36]∧AtV w' u13 (j*1) [u37]) [(true,0),(true,1),(true,2),(true,3),(true,4),(true,5),(true,6),(true,7),(true,8),(false,9),(false,10),(false,11),(true,12)] (by kernel_rfl) (by kernel_rfl) (by kernel_rfl) (by decide) (fun _ _ _ _ _ h=>h) ⟨(at36.gr hB),(at37.gr hc13)⟩ ?_
   refine ov 24 vi ?_
   refine ov 25 va ?_
   refine ov 26 (.int .i64 ((i:Int))) ?_
   refine ow 27 (adr va (i*1)) rfl (fun w' hS=>(rv_idxn (e:=51) ha tb_len (by decide) i (by omega) _ _ _ rfl rfl rfl (by kernel_rfl) (by kernel_rfl))) ?_
   refine ow 28 u36 rfl (fun w' hS=>(rv_ld1 u36 hS.1 _ _ rfl rfl (by kernel_rfl))) ?_
   refine ov 29 u13 ?_
   refine ov 30 (.int .i64 ((j:Int))) ?_
   refine ow 31 (adr u13 (j*1)) rfl (fun w' hS=>(rv_idxn (e:=51) hs13 tb_len (by decide) j (by omega) _ _ _ rfl rfl rfl (by kernel_rfl) (by kernel_rfl))) ?_
   refine ow 32 u37 rfl (fun w' hS=>(rv_ld1 u37 hS.2 _ _ rfl rfl (by kernel_rfl))) ?_
   refine oe ?_
   refine ec 33 (f5_dot (A:=A) (B:=B) (by omega) (fun z hz=>hza i hli z hz) (fun z hz=>hzb z hz j hlj) (by omega) (hr36.gr stab_fr hB) (hr37.gr stab_fr hc13)) ?_
   rintro e40 w40 ⟨rfl,g40⟩
   refine ⟨_,rfl,?_⟩
   replace hB:=hB.trans g40
   replace hc13:=hc13.trans g40
   replace hC:=hC.trans g40
   refine ⟨⟨(at36.gr hB),(at37.gr hc13)⟩,?_⟩
   simp only [p3,p4]
   refine oe ?_
   refine eff_bs 84 1 #[(.string ⟨(Lib.itoa (((sm S fun z9=>(ma i z9)*(mb z9 j))).num):List UInt8).toArray⟩),(.string ⟨(Lib.itoa ((((sm S fun z9=>(ma i z9)*(mb z9 j))).den:Int)):List UInt8).toArray⟩)] (some 34) rfl (fun _=>by kernel_rfl) (fun b42 w42 g42 L42 q42=>?_)
   have q42_hc13:=Nat.le_trans (Below.size hc13) q42
   have q42_hC:=Nat.le_trans (Below.size hC) q42
   replace hB:=hB.trans g42
   replace hc13:=hc13.trans g42
   replace hC:=hC.trans g42
   refine ⟨⟨(at36.gr hB),(at37.gr hc13)⟩,?_⟩
   simp only [putl,p3,p4]
   refine oe ?_
   replace oi:=oi.gr stab_fr (gd38.trans (g40.trans g42))
   refine eff_apg stab_fr _ _ 51 84 w16.heap.size (.agg #[(.string ⟨([]:List UInt8).toArray⟩),(.string ⟨([]:List UInt8).toArray⟩)]) vi (tb (fun z1=>(sm S fun z9=>ma i z9*mb z9 z1)) j) b42 [(.string ⟨(Lib.itoa (((sm S fun z9=>(ma i z9)*(mb z9 j))).num):List UInt8).toArray⟩),(.string ⟨(Lib.itoa ((((sm S fun z9=>(ma i z9)*(mb z9 j))).den:Int)):List UInt8).toArray⟩)] ((sm S fun z9=>(ma i z9)*(mb z9 j))) 2 1 (some 35) 32 rfl rfl rfl rfl oi L42 ⟨rfl,rfl,trivial⟩ rfl rfl (Below.size hC) (by rw [tb_len];omega) (by decide) (by kernel_rfl) (by kernel_rfl) (by decide) (by decide) (fun v44 w44 ow44 wt44 hg44=>?_)
   replace hB:=hg44 _ hB lehC
   replace hc13:=hg44 _ hc13 lehC_hc13
   replace hC:=hg44 _ hC (Nat.le_refl _)
   replace ow44:=ow44.cast (tb_snoc (f:=(fun z1=>(sm S fun z9=>ma i z9*mb z9 z1))) (n:=j) (by first | rfl | exact fil_all))
   refine ⟨⟨(at36.gr hB),(at37.gr hc13)⟩,?_⟩
   simp only [putl,p3,p4]
   refine ov 8 v44 ?_
   refine ord_nil ?_
   refine k28 _ _ ?_
   try clear k28 K28
   refine rg [0,1,2] ?_
   refine sv 22 (.int .i64 ((j:Int))) ?_
   refine sw 23 (.int .i64 (((j:Int)+1))) rfl (RunV.int (x:=IntKind.i64.wrap (((j:Int)+1))) (y:=((j:Int)+1)) (rvk (by kernel_rfl)) (by first | rfl | (rw [IntKind.wrap_i64];omega))) ?_
   refine sv 9 (.int .i64 (((j:Int)+1))) ?_
   refine sq_nil ?_
   refine k24 (N - (j+1)) ⟨List.toArray ?l45,[]⟩ _ (by omega) ?_
   exact ⟨j+1,v44,(fun i=>List.getD ?l45 i undef),rfl,rfl,(by omega),ow44,hc13,hC,hB⟩
  ·have hej:N=j:=by have:=of_decide_eq_false hb27;omega
   subst hej
   refine wp_exit ?_
   simp only [Exit.then,Exit.inBlock,↓reduceIte]
   refine k22 _ _ ?_
   try clear k22 K22
   refine rg [0,1,2,3,4] ?_
   refine sv 36 vo ?_
   refine sv 37 vi ?_
   refine se ?_
   refine eff_bs1 26 51 vi (some 38) rfl rfl rfl (oi.sl).forms (fun _ _ _ _=>by kernel_rfl) (fun b46 w46 g46 L46 q46=>?_)
   have q46_hc13:=Nat.le_trans (Below.size hc13) q46
   have q46_hC:=Nat.le_trans (Below.size hC) q46
   replace hB:=hB.trans g46
   replace hc13:=hc13.trans g46
   replace hC:=hC.trans g46
   simp only [putl,p3,p4]
   refine se ?_
   replace oi:=oi.gr stab_fr g46
   refine eff_apg (stab_rw stab_fr 84 2) _ _ 26 51 w13.heap.size (.slice none 0 0) vo (tb (fun z0=>tb (fun z1=>(sm S fun z9=>ma z0 z9*mb z9 z1)) N) i) b46 [vi] (tb (fun z1=>(sm S fun z9=>ma i z9*mb z9 z1)) N) 1 1 (some 39) 24 rfl rfl rfl rfl (oo.gr (stab_rw stab_fr 84 2) hC) L46 ⟨oi.one,trivial⟩ rfl ⟨_,rfl,(oi.sl)⟩ (Below.size hc13) (by rw [tb_len];omega) (by decide) (by kernel_rfl) (by kernel_rfl) (by decide) (by decide) (fun v47 w47 ow47 wt47 hg47=>?_)
   replace hB:=hg47 _ hB lehc13
   replace hc13:=hg47 _ hc13 (Nat.le_refl _)
   replace ow47:=ow47.cast (tb_snoc (f:=(fun z0=>tb (fun z1=>(sm S fun z9=>ma z0 z9*mb z9 z1)) N)) (n:=i) (by first | rfl | exact fil_all))
   simp only [putl,p3,p4]
   refine sv 5 v47 ?_
   refine sq_nil ?_
   refine k20 _ _ ?_
   try clear k20 K20
   refine rg [0,1,2] ?_
   refine sv 16 (.int .i64 ((i:Int))) ?_
   refine sw 17 (.int .i64 (((i:Int)+1))) rfl (RunV.int (x:=IntKind.i64.wrap (((i:Int)+1))) (y:=((i:Int)+1)) (rvk (by kernel_rfl)) (by first | rfl | (rw [IntKind.wrap_i64];omega))) ?_
   refine sv 7 (.int .i64 (((i:Int)+1))) ?_
   refine sq_nil ?_
   refine k16 (R - (i+1)) ⟨List.toArray ?l48,[]⟩ _ (by omega) ?_
   exact ⟨i+1,v47,(fun i=>List.getD ?l48 i undef),rfl,rfl,(by omega),ow47,hc13,hB⟩
 ·have hei:R=i:=by have:=of_decide_eq_false hb19;omega
  subst hei
  refine wp_exit ?_
  simp only [Exit.then,Exit.inBlock,↓reduceIte]
  refine k14 _ _ ?_
  try clear k14 K14
  refine wp_seq_k (fun K49 k49=>?_)
  refine rg [0,1] ?_
  refine sv 40 vo ?_
  refine sv 4 vo ?_
  refine sq_nil ?_
  refine k49 _ _ ?_
  try clear k49 K49
  refine wp_ret ?_
  refine bodyPost_ret (v:=vo) (ret_tmp rfl rfl) rfl ⟨?_,hB⟩
  exact ⟨_,rfl,((oo.gr (stab_rw stab_fr 84 2) hC).sl)⟩

set_option maxRecDepth 100000 in
set_option maxHeartbeats 1000000 in
theorem f5_apply {A B R N:Nat} {v u:Value} {m:Nat→Nat→Rat} {x:Nat→Rat} (_hR2:R≤1000) (_hN2:N≤1000) (hza:∀ i,i<R→∀ j,j<N→RZ A A (m i j)) (hzb:∀ j,j<N→RZ B B (x j)) (hz:N*(2*A+2*B+1)+2*A+2*B≤19990) {w:World} (hs:Sl (ERw EFr 84 2) 51 1 w v (tb (fun z0=>tb (fun z1=>(m z0 z1)) N) R)) (hx:Sl EFr 84 2 w u (tb (fun z1=>(x z1)) N)):
    Calls Tryz.prog 46 #[v,u] w fun e w'=>(∃ u,e=.returned u∧Sl EFr 84 2 w' u (tb (fun z1=>(sm N fun z9=>m z1 z9*x z9)) R))∧Gr w w':=by
 go_enter Tryz.func46,Tryz.ntmps46
 have hB:=Gr.refl w
 refine wp_seq_k (fun K10 k10=>?_)
 refine rg [0] ?_
 refine sv 4 (.slice none 0 0) ?_
 refine sq_nil ?_
 refine k10 _ _ ?_
 try clear k10 K10
 refine wp_seq_k (fun K11 k11=>?_)
 refine rg [0] ?_
 refine sv 5 (.slice none 0 0) ?_
 refine sq_nil ?_
 refine k11 _ _ ?_
 try clear k11 K11
 refine wp_seq_k (fun K12 k12=>?_)
 refine wp_seq_k (fun K13 k13=>?_)
 refine rg [0] ?_
 refine sv 6 (.int .i64 0) ?_
 refine sq_nil ?_
 refine k13 _ _ ?_
 try clear k13 K13
 refine wp_block ?_
 refine wp_loop_inv (a:=⟨List.toArray ?l14,[]⟩) (fun n a w'=>∃ (i:Nat) (vo:Value) (u14:Nat→Value),R - i=n∧a=⟨[v,u,undef,undef,(.slice none 0 0),vo,(.int .i64 ((i:Int))),(u14 7),(u14 8),(u14 9),(u14 10),(u14 11),(u14 12),(u14 13),(u14 14),(u14 15),(u14 16),(u14 17),(u14 18),(u14 19),(u14 20),(u14 21),undef].toArray,[]⟩∧i≤R∧Ow EFr 84 2 w' w.heap.size vo (tb (fun z1=>(sm N fun z9=>m z1 z9*x z9)) i)∧Gr w w') (R - 0) ?_ ?_
 ·exact ⟨0,(.slice none 0 0),(fun i=>List.getD ?l14 i undef),rfl,rfl,(Nat.zero_le _),(Ow.nil _ _ _ _ _),hB⟩
 rintro n14 a14 w14 ⟨i,vo,u14,rfl,rfl,hki,oo,hB⟩ K14 k14
 have lehC:=Below.size hB
 have hC:=Gr.refl w14
 refine wp_seq_k (fun K15 k15=>?_)
 refine wp_seq_k (fun K16 k16=>?_)
 refine rg [0,1,2,3] ?_
 refine sv 7 (.int .i64 ((i:Int))) ?_
 refine sv 8 v ?_
 refine sw 9 (.int .i64 ((R:Int))) rfl (rv_lenn (e:=51) hs (tb_lenz rfl) _ _ rfl rfl (by kernel_rfl)) ?_
 refine sv 10 (.bool (decide ((i:Int)<(R:Int)))) ?_
 refine sq_nil ?_
 refine k16 _ _ ?_
 try clear k16 K16
 refine wp_cond_split (t:=decide ((i:Int)<(R:Int))) rfl (fun hb17=>?_) (fun hb17=>?_)
 ·have hli:i<R:=by have:=of_decide_eq_true hb17;omega
  refine wp_skip ?_
  refine k15 _ _ ?_
  try clear k15 K15
  refine wp_seq_k (fun K18 k18=>?_)
  refine wp_block ?_
  refine rg [0,1,2,3,4,5,6,7,8,9] ?_
  refine sv 13 vo ?_
  refine sv 14 v ?_
  refine sv 15 (.int .i64 ((i:Int))) ?_
  refine sw 16 (adr v (i*1)) rfl (rv_idxn (e:=51) hs tb_len (by decide) i (by omega) _ _ _ rfl rfl rfl (by kernel_rfl) (by kernel_rfl)) ?_
  obtain ⟨_,_,⟨u19,rfl,hr19⟩,at19⟩:=Sl.get hs (by decide) (tb_get (f:=(fun z0=>tb (fun z1=>(m z0 z1)) N)) (n:=R) (i:=i) (by omega))
  refine sw 17 u19 rfl (rv_ld1 u19 (at19.gr hB) _ _ rfl rfl (by kernel_rfl)) ?_
  refine sv 18 u ?_
  refine se ?_
  refine ec 19 (f5_dot (A:=A) (B:=B) (by omega) (fun z hz=>hza i hli z hz) hzb (by omega) (hr19.gr stab_fr hB) (hx.gr stab_fr hB)) ?_
  rintro e20 w20 ⟨rfl,g20⟩
  refine ⟨_,rfl,?_⟩
  replace hB:=hB.trans g20
  replace hC:=hC.trans g20
  simp only [p3,p4]
  refine se ?_
  refine eff_bs 84 1 #[(.string ⟨(Lib.itoa (((sm N fun z9=>(m i z9)*(x z9))).num):List UInt8).toArray⟩),(.string ⟨(Lib.itoa ((((sm N fun z9=>(m i z9)*(x z9))).den:Int)):List UInt8).toArray⟩)] (some 20) rfl (fun _=>by kernel_rfl) (fun b21 w21 g21 L21 q21=>?_)
  have q21_hC:=Nat.le_trans (Below.size hC) q21
  replace hB:=hB.trans g21
  replace hC:=hC.trans g21
  simp only [putl,p3,p4]
  refine se ?_
  refine eff_apg stab_fr _ _ 51 84 w.heap.size (.agg #[(.string ⟨([]:List UInt8).toArray⟩),(.string ⟨([]:List UInt8).toArray⟩)]) vo (tb (fun z1=>(sm N fun z9=>m z1 z9*x z9)) i) b21 [(.string ⟨(Lib.itoa (((sm N fun z9=>(m i z9)*(x z9))).num):List UInt8).toArray⟩),(.string ⟨(Lib.itoa ((((sm N fun z9=>(m i z9)*(x z9))).den:Int)):List UInt8).toArray⟩)] ((sm N fun z9=>(m i z9)*(x z9))) 2 1 (some 21) 32 rfl rfl rfl rfl (oo.gr stab_fr hC) L21 ⟨rfl,rfl,trivial⟩ rfl rfl (Below.size hB) (by rw [tb_len];omega) (by decide) (by kernel_rfl) (by kernel_rfl) (by decide) (by decide) (fun v22 w22 ow22 wt22 hg22=>?_)
  replace hB:=hg22 _ hB (Nat.le_refl _)
  replace ow22:=ow22.cast (tb_snoc (f:=(fun z1=>(sm N fun z9=>m z1 z9*x z9))) (n:=i) (by first | rfl | exact fil_all))
  simp only [putl,p3,p4]
  refine sv 5 v22 ?_
  refine sq_nil ?_
  refine k18 _ _ ?_
  try clear k18 K18
  refine rg [0,1,2] ?_
  refine sv 11 (.int .i64 ((i:Int))) ?_
  refine sw 12 (.int .i64 (((i:Int)+1))) rfl (RunV.int (x:=IntKind.i64.wrap (((i:Int)+1))) (y:=((i:Int)+1)) (rvk (by kernel_rfl)) (by first | rfl | (rw [IntKind.wrap_i64];omega))) ?_
  refine sv 6 (.int .i64 (((i:Int)+1))) ?_
  refine sq_nil ?_
  refine k14 (R - (i+1)) ⟨List.toArray ?l23,[]⟩ _ (by omega) ?_
  exact ⟨i+1,v22,(fun i=>List.getD ?l23 i undef),rfl,rfl,(by omega),ow22,hB⟩
 ·have hei:R=i:=by have:=of_decide_eq_false hb17;omega
  subst hei
  refine wp_exit ?_
  simp only [Exit.then,Exit.inBlock,↓reduceIte]
  refine k12 _ _ ?_
  try clear k12 K12
  refine wp_seq_k (fun K24 k24=>?_)
  refine rg [0,1] ?_
  refine sv 22 vo ?_
  refine sv 4 vo ?_
  refine sq_nil ?_
  refine k24 _ _ ?_
  try clear k24 K24
  refine wp_ret ?_
  refine bodyPost_ret (v:=vo) (ret_tmp rfl rfl) rfl ⟨?_,hB⟩
  exact ⟨_,rfl,((oo.gr stab_fr hC).sl)⟩

set_option maxRecDepth 100000 in
set_option maxHeartbeats 8000000 in
theorem f5_reduce {K R N:Nat} {v:Value} {m:Mx_} (hR:R=0→N=0) (_hR2:R≤1000) (_hN2:N≤1000) (_hK:4*K≤19990) (hz:∀ k i,k<N→Fd R m k i→∀ a,a<R→∀ b,b<N→RZ K K ((rs R m k).m a b)) {w:World} (hs:Sl (ERw EFr 84 2) 51 1 w v (tb (fun z0=>tb (fun z1=>(m z0 z1)) N) R)):
    Calls Tryz.prog 17 #[v] w fun e w'=>(∃ u v,e=.returned (.tuple #[u,v])∧Sl (ERw EFr 84 2) 51 1 w' u (tb (fun z0=>tb (fun z1=>((rs R m N).m z0 z1)) N) (pl R m N))∧Sl EI64 3 1 w' v (tb (fun z1=>((pv (rs R m N) z1:Nat):Int)) (pl R m N)))∧Gr w w':=by
 go_enter Tryz.func17,Tryz.ntmps17
 have hB:=Gr.refl w
 refine wp_seq_k (fun K10 k10=>?_)
 refine rg [0,1] ?_
 refine sv 2 (.slice none 0 0) ?_
 refine sv 3 (.slice none 0 0) ?_
 refine sq_nil ?_
 refine k10 _ _ ?_
 try clear k10 K10
 refine wp_seq_k (fun K11 k11=>?_)
 refine rg [0] ?_
 refine sv 4 (.slice none 0 0) ?_
 refine sq_nil ?_
 refine k11 _ _ ?_
 try clear k11 K11
 refine wp_seq_k (fun K12 k12=>?_)
 refine wp_seq_k (fun K13 k13=>?_)
 refine rg [0] ?_
 refine sv 5 (.int .i64 0) ?_
 refine sq_nil ?_
 refine k13 _ _ ?_
 try clear k13 K13
 refine wp_block ?_
 refine wp_loop_inv (a:=⟨List.toArray ?l14,[]⟩) (fun n a w'=>∃ (ii:Nat) (bs:Nat→Value) (vo:Value) (u14:Nat→Value),R - ii=n∧a=⟨[v,undef,(.slice none 0 0),(.slice none 0 0),vo,(.int .i64 ((ii:Int))),undef,undef,undef,undef,undef,undef,undef,undef,undef,(u14 15),(u14 16),(u14 17),(u14 18),(u14 19),(u14 20),(u14 21),(u14 22),(u14 23),(u14 24),(u14 25),(u14 26),(u14 27),(u14 28),(u14 29),undef,undef,undef,undef,undef,undef,undef,undef,undef,undef,undef,undef,undef,undef,undef,undef,undef,undef,undef,undef,undef,undef,undef,undef,undef,undef,undef,undef,undef,undef,undef,undef,undef,undef,undef,undef,undef,undef,undef,undef,undef,undef,undef,undef,undef,undef,undef,undef,undef,undef,undef,undef,undef,undef,undef,undef,undef,undef,undef,undef,undef,undef,undef,undef,undef,undef,undef,undef,undef,undef,undef,undef,undef,undef,undef,undef,undef,undef,undef,undef,undef,undef,undef,undef,undef,undef,undef,undef,undef,undef,undef,undef,undef,undef,undef,undef,undef,undef,undef,undef,undef,undef,undef,undef,undef,undef,undef,undef,undef,undef,undef,undef,undef,undef,undef,undef,undef,undef,undef,undef,undef,undef,undef,undef,undef,undef,undef,undef,undef,undef,undef,undef,undef,undef].toArray,[]⟩∧ii≤R∧Ow EVs 51 1 w' w.heap.size vo (tb bs ii)∧Mr EFr 84 2 w' w.heap.size bs (fun z0 z1=>(m z0 z1)) ii N∧Gr w w') (R - 0) ?_ ?_
 ·exact ⟨0,(fun _=>undef),(.slice none 0 0),(fun i=>List.getD ?l14 i undef),rfl,rfl,(Nat.zero_le _),(Ow.nil _ _ _ _ _),Mr.zero0,hB⟩
 rintro n14 a14 w14 ⟨ii,bs,vo,u14,rfl,rfl,hki,ov,mr,hB⟩ K14 k14
 have lehC:=Below.size hB
 have hC:=Gr.refl w14
 refine wp_seq_k (fun K15 k15=>?_)
 refine wp_seq_k (fun K16 k16=>?_)
 refine rg [0,1,2,3] ?_
 refine sv 15 (.int .i64 ((ii:Int))) ?_
 refine sv 16 v ?_
 refine sw 17 (.int .i64 ((R:Int))) rfl (rv_lenn (e:=51) hs (tb_lenz rfl) _ _ rfl rfl (by kernel_rfl)) ?_
 refine sv 18 (.bool (decide ((ii:Int)<(R:Int)))) ?_
 refine sq_nil ?_
 refine k16 _ _ ?_
 try clear k16 K16
 refine wp_cond_split (t:=decide ((ii:Int)<(R:Int))) rfl (fun hb17=>?_) (fun hb17=>?_)
 ·have hli:ii<R:=by have:=of_decide_eq_true hb17;omega
  refine wp_skip ?_
  refine k15 _ _ ?_
  try clear k15 K15
  refine wp_seq_k (fun K18 k18=>?_)
  refine wp_block ?_
  refine rg [0,1,2,3,4,5,6,7,8,9] ?_
  refine sv 21 vo ?_
  refine se ?_
  refine eff_bs 84 0 #[] (some 22) rfl (fun _=>by kernel_rfl) (fun b19 w19 g19 L19 q19=>?_)
  have q19_hC:=Nat.le_trans (Below.size hC) q19
  replace hB:=hB.trans g19
  replace hC:=hC.trans g19
  simp only [putl,p3,p4]
  refine sv 23 v ?_
  refine sv 24 (.int .i64 ((ii:Int))) ?_
  refine sw 25 (adr v (ii*1)) rfl (rv_idxn (e:=51) hs tb_len (by decide) ii (by omega) _ _ _ rfl rfl rfl (by kernel_rfl) (by kernel_rfl)) ?_
  obtain ⟨_,_,⟨u20,rfl,hr20⟩,at20⟩:=Sl.get hs (by decide) (tb_get (f:=(fun z0=>tb (fun z1=>(m z0 z1)) N)) (n:=R) (i:=ii) (by omega))
  refine sw 26 u20 rfl (rv_ld1 u20 (at20.gr hB) _ _ rfl rfl (by kernel_rfl)) ?_
  refine se ?_
  refine eff_aps stab_fr _ _ 51 84 w14.heap.size 84 (.agg #[(.string ⟨([]:List UInt8).toArray⟩),(.string ⟨([]:List UInt8).toArray⟩)]) (.slice (some ⟨b19,0,none⟩) 0 0) ([]:List Rat) u20 (tb (fun z1=>(m ii z1)) N) 2 (some 27) 32 rfl rfl rfl rfl (ow_empty (E:=EFr) (c:=2) (B:=w14.heap.size) L19 q19_hC) (hr20.gr stab_fr hB) (one_fr _) (Below.size hC) (by simp only [List.length_nil,tb_len];omega) (by decide) (by kernel_rfl) (by kernel_rfl) (by decide) (by decide) (fun v21 w21 ow21 wt21 hg21 ag21=>?_)
  replace hB:=hg21 _ hB lehC
  replace hC:=hg21 _ hC (Nat.le_refl _)
  replace ow21:=ow21.cast (List.nil_append _)
  simp only [putl,p3,p4]
  refine se ?_
  refine eff_bs1 26 51 v21 (some 28) rfl rfl rfl (ow21.sl).forms (fun _ _ _ _=>by kernel_rfl) (fun b22 w22 g22 L22 q22=>?_)
  have q22_hC:=Nat.le_trans (Below.size hC) q22
  replace hB:=hB.trans g22
  replace hC:=hC.trans g22
  simp only [putl,p3,p4]
  refine se ?_
  replace ow21:=ow21.gr stab_fr g22
  have mr23:=mr.snoc stab_fr hC ow21 lehC
  refine eff_apg stab_vs _ _ 26 51 w.heap.size (.slice none 0 0) vo (tb bs ii) b22 [v21] v21 1 1 (some 29) 24 rfl rfl rfl rfl (ov.gr stab_vs hC) L22 ⟨ow21.one,trivial⟩ rfl (EVs.of (ow21.sl) _) (Below.size hB) (by rw [tb_len];omega) (by decide) (by kernel_rfl) (by kernel_rfl) (by decide) (by decide) (fun v24 w24 ow24 wt24 hg24=>?_)
  replace hB:=hg24 _ hB (Nat.le_refl _)
  replace ow24:=ow24.cast bs_snoc
  simp only [putl,p3,p4]
  refine sv 4 v24 ?_
  refine sq_nil ?_
  refine k18 _ _ ?_
  try clear k18 K18
  refine rg [0,1,2] ?_
  refine sv 19 (.int .i64 ((ii:Int))) ?_
  refine sw 20 (.int .i64 (((ii:Int)+1))) rfl (RunV.int (x:=IntKind.i64.wrap (((ii:Int)+1))) (y:=((ii:Int)+1)) (rvk (by kernel_rfl)) (by first | rfl | (rw [IntKind.wrap_i64];omega))) ?_
  refine sv 5 (.int .i64 (((ii:Int)+1))) ?_
  refine sq_nil ?_
  replace mr23:=mr23.kts stab_fr (wt24.kts (by decide))
  refine k14 (R - (ii+1)) ⟨List.toArray ?l25,[]⟩ _ (by omega) ?_
  exact ⟨ii+1,(fun t=>if t=ii then v21 else bs t),v24,(fun i=>List.getD ?l25 i undef),rfl,rfl,(by omega),ow24,mr23,hB⟩
 ·have hei:R=ii:=by have:=of_decide_eq_false hb17;omega
  subst hei
  refine wp_exit ?_
  simp only [Exit.then,Exit.inBlock,↓reduceIte]
  refine k12 _ _ ?_
  try clear k12 K12
  refine wp_seq_k (fun K26 k26=>?_)
  refine rg [0] ?_
  refine sv 6 (.slice none 0 0) ?_
  refine sq_nil ?_
  refine k26 _ _ ?_
  try clear k26 K26
  refine wp_seq_k (fun K27 k27=>?_)
  refine wp_seq_k (fun K28 k28=>?_)
  refine rg [0] ?_
  refine sv 7 (.int .i64 0) ?_
  refine sq_nil ?_
  refine k28 _ _ ?_
  try clear k28 K28
  refine wp_block ?_
  replace ov:=(ov.gr stab_vs hC)
  refine wp_loop_inv (a:=⟨List.toArray ?l29,[]⟩) (fun n a w'=>∃ (k:Nat) (bs:Nat→Value) (vp:Value) (u29:Nat→Value),N - k=n∧a=⟨[v,undef,(.slice none 0 0),(.slice none 0 0),vo,(.int .i64 ((R:Int))),vp,(.int .i64 ((k:Int))),(u29 8),(u29 9),(u29 10),(u29 11),(u29 12),(u29 13),(u29 14),(u29 15),(u29 16),(u29 17),(.bool (decide ((R:Int)<(R:Int)))),(u29 19),(u29 20),(u29 21),(u29 22),(u29 23),(u29 24),(u29 25),(u29 26),(u29 27),(u29 28),(u29 29),(u29 30),(u29 31),(u29 32),(u29 33),(u29 34),(u29 35),(u29 36),(u29 37),(u29 38),(u29 39),(u29 40),(u29 41),(u29 42),(u29 43),(u29 44),(u29 45),(u29 46),(u29 47),(u29 48),(u29 49),(u29 50),(u29 51),(u29 52),(u29 53),(u29 54),(u29 55),(u29 56),(u29 57),(u29 58),(u29 59),(u29 60),(u29 61),(u29 62),(u29 63),(u29 64),(u29 65),(u29 66),(u29 67),(u29 68),(u29 69),(u29 70),(u29 71),(u29 72),(u29 73),(u29 74),(u29 75),(u29 76),(u29 77),(u29 78),(u29 79),(u29 80),(u29 81),(u29 82),(u29 83),(u29 84),(u29 85),(u29 86),(u29 87),(u29 88),(u29 89),(u29 90),(u29 91),(u29 92),(u29 93),(u29 94),(u29 95),(u29 96),(u29 97),(u29 98),(u29 99),(u29 100),(u29 101),(u29 102),(u29 103),(u29 104),(u29 105),(u29 106),(u29 107),(u29 108),(u29 109),(u29 110),(u29 111),(u29 112),(u29 113),(u29 114),(u29 115),(u29 116),(u29 117),(u29 118),(u29 119),(u29 120),(u29 121),(u29 122),(u29 123),(u29 124),(u29 125),(u29 126),(u29 127),(u29 128),(u29 129),(u29 130),(u29 131),(u29 132),(u29 133),(u29 134),(u29 135),(u29 136),(u29 137),(u29 138),(u29 139),(u29 140),(u29 141),(u29 142),(u29 143),(u29 144),(u29 145),(u29 146),(u29 147),(u29 148),(u29 149),(u29 150),(u29 151),(u29 152),(u29 153),(u29 154),(u29 155),(u29 156),(u29 157),(u29 158),undef,undef,undef,undef,undef].toArray,[]⟩∧k≤N∧Ow EVs 51 1 w' w.heap.size vo (tb bs R)∧Mr EFr 84 2 w' w.heap.size bs (fun z0 z1=>((rs R m k).m z0 z1)) R N∧Ow EI64 3 1 w' w.heap.size vp (tb (fun z1=>((pv (rs R m k) z1:Nat):Int)) (pl R m k))∧Gr w w') (N - 0) ?_ ?_
  ·exact ⟨0,bs,(.slice none 0 0),(fun i=>List.getD ?l29 i undef),rfl,rfl,(Nat.zero_le _),ov,mr,(Ow.nil _ _ _ _ _),hB⟩
  rintro n29 a29 w29 ⟨k,bs,vp,u29,rfl,rfl,hkk,ov,mr,hpv,hB⟩ K29 k29
  refine wp_seq_k (fun K30 k30=>?_)
  refine wp_seq_k (fun K31 k31=>?_)
  refine rg [0,1,2,3] ?_
  refine sv 30 (.int .i64 ((k:Int))) ?_
  refine sv 31 v ?_
  refine se ?_
  refine ec 32 (f5_columns hR (hs.gr (stab_rw stab_fr 84 2) hB)) ?_
  rintro e32 w32 ⟨rfl,g32⟩
  refine ⟨_,rfl,?_⟩
  replace hB:=hB.trans g32
  simp only [p3,p4]
  refine sv 33 (.bool (decide ((k:Int)<(N:Int)))) ?_
  refine sq_nil ?_
  refine k31 _ _ ?_
  try clear k31 K31
  refine wp_cond_split (t:=decide ((k:Int)<(N:Int))) rfl (fun hb33=>?_) (fun hb33=>?_)
  ·have hlk:k<N:=by have:=of_decide_eq_true hb33;omega
   refine wp_skip ?_
   refine k30 _ _ ?_
   try clear k30 K30
   refine wp_seq_k (fun K34 k34=>?_)
   refine wp_block ?_
   refine wp_seq_k (fun K35 k35=>?_)
   refine rg [0,1,2] ?_
   refine sv 36 vp ?_
   refine sw 37 (.int .i64 (((pl R m k:Nat):Int))) rfl (rv_lenn (e:=3) hpv.sl (tb_lenz rfl) _ _ rfl rfl (by kernel_rfl)) ?_
   refine sv 8 (.int .i64 (((pl R m k:Nat):Int))) ?_
   refine sq_nil ?_
   refine k35 _ _ ?_
   try clear k35 K35
   refine wp_seq_k (fun K36 k36=>?_)
   refine rg [0,1] ?_
   refine sv 38 (.int .i64 (((pl R m k:Nat):Int))) ?_
   refine sv 9 (.int .i64 (((pl R m k:Nat):Int))) ?_
   refine sq_nil ?_
   refine k36 _ _ ?_
   try clear k36 K36
   refine wp_seq_k (fun K37 k37=>?_)
   refine wp_block ?_
   replace ov:=ov.gr stab_vs g32
   replace mr:=mr.gr stab_fr g32
   replace hpv:=hpv.gr stab_i64 g32
   refine wp_loop_inv (a:=⟨List.toArray ?l38,[]⟩) (fun n a w'=>∃ (i:Nat) (u38:Nat→Value),R - i=n∧a=⟨[v,undef,(.slice none 0 0),(.slice none 0 0),vo,(.int .i64 ((R:Int))),vp,(.int .i64 ((k:Int))),(.int .i64 (((pl R m k:Nat):Int))),(.int .i64 ((i:Int))),(u29 10),(u29 11),(u29 12),(u29 13),(u29 14),(u38 15),(u38 16),(u38 17),(.bool (decide ((R:Int)<(R:Int)))),(u38 19),(u38 20),(u38 21),(u38 22),(u38 23),(u38 24),(u38 25),(u38 26),(u38 27),(u38 28),(u38 29),(u38 30),(u38 31),(u38 32),(.bool (decide ((k:Int)<(N:Int)))),(u38 34),(u38 35),(u38 36),(u38 37),(u38 38),(u38 39),(u38 40),(u38 41),(u38 42),(u38 43),(u38 44),(u38 45),(u38 46),(u38 47),(u38 48),(u38 49),(u38 50),(u38 51),(u38 52),(u38 53),(u38 54),(u38 55),(u38 56),(u38 57),(u29 58),(u38 59),(u38 60),(u38 61),(u38 62),(u38 63),(u38 64),(u38 65),(u38 66),(u38 67),(u38 68),(u38 69),(u38 70),(u38 71),(u38 72),(u38 73),(u38 74),(u38 75),(u38 76),(u38 77),(u38 78),(u38 79),(u38 80),(u38 81),(u38 82),(u38 83),(u38 84),(u38 85),(u29 86),(u38 87),(u38 88),(u38 89),(u38 90),(u38 91),(u38 92),(u38 93),(u38 94),(u38 95),(u38 96),(u38 97),(u38 98),(u38 99),(u38 100),(u38 101),(u38 102),(u38 103),(u38 104),(u38 105),(u38 106),(u29 107),(u38 108),(u38 109),(u38 110),(u38 111),(u38 112),(u38 113),(u38 114),(u38 115),(u38 116),(u38 117),(u38 118),(u38 119),(u38 120),(u38 121),(u38 122),(u38 123),(u38 124),(u38 125),(u38 126),(u38 127),(u38 128),(u29 129),(u38 130),(u38 131),(u38 132),(u38 133),(u38 134),(u38 135),(u38 136),(u38 137),(u38 138),(u38 139),(u38 140),(u38 141),(u38 142),(u38 143),(u38 144),(u38 145),(u38 146),(u38 147),(u38 148),(u38 149),(u38 150),(u38 151),(u38 152),(u38 153),(u38 154),(u38 155),(u38 156),(u38 157),(u38 158),undef,undef,undef,undef,undef].toArray,[]⟩∧pl R m k≤i∧i≤R∧(∀ t,pl R m k≤t→t<i→(rs R m k).m t k=0)∧Ow EVs 51 1 w' w.heap.size vo (tb bs R)∧Mr EFr 84 2 w' w.heap.size bs (fun z0 z1=>((rs R m k).m z0 z1)) R N∧Ow EI64 3 1 w' w.heap.size vp (tb (fun z1=>((pv (rs R m k) z1:Nat):Int)) (pl R m k))∧Gr w w') (R - pl R m k) ?_ ?_
   ·exact ⟨(pl R m k),(fun i=>List.getD ?l38 i undef),rfl,rfl,(Nat.le_refl _),(rs_len R m k),(fun t h1 h2=>absurd h2 (by omega)),ov,mr,hpv,hB⟩
   rintro n38 a38 w38 ⟨i,u38,rfl,rfl,hri,hiR,hzz,ov,mr,hpv,hB⟩ K38 k38
   refine wp_seq_k (fun K39 k39=>?_)
   refine wp_seq_k (fun K40 k40=>?_)
   refine rg [0,1,2,3,4,5,6,7,8,9,10,11,12,13] ?_
   refine sv 39 (.int .i64 ((i:Int))) ?_
   refine sv 40 vo ?_
   refine sw 41 (.int .i64 ((R:Int))) rfl (rv_lenn (e:=51) ov.sl (tb_lenz rfl) _ _ rfl rfl (by kernel_rfl)) ?_
   refine sv 42 (.bool (decide ((i:Int)<(R:Int)))) ?_
   rcases Bool.eq_false_or_eq_true (decide ((i:Int)<(R:Int))) with hb41 | hb41
   ·have hli:i<R:=by have:=of_decide_eq_true hb41;omega
    refine sw 43 (.bool true) rfl (RunV.bool (x:=decide ((i:Int)<(R:Int))) (rvk (by kernel_rfl)) hb41) ?_
    refine sv 44 vo ?_
    refine sv 45 (.int .i64 ((i:Int))) ?_
    refine sw 46 (adr vo (i*1)) rfl (rv_idxn (e:=51) ov.sl tb_len (by decide) i (by omega) _ _ _ rfl rfl rfl (by kernel_rfl) (by kernel_rfl)) ?_
    obtain ⟨_,_,⟨rfl,_⟩,at42⟩:=Sl.get (ov.sl) (by decide) (tb_get (f:=bs) (n:=R) (i:=i) (by omega))
    refine sw 47 (bs i) rfl (rv_ld1 (bs i) at42 _ _ rfl rfl (by kernel_rfl)) ?_
    refine sv 48 (.int .i64 ((k:Int))) ?_
    have hr43:=(mr.row i (by omega)).sl
    refine sw 49 (adr (bs i) (k*2)) rfl (rv_idxn (e:=84) hr43 tb_len (by decide) k (by omega) _ _ _ rfl rfl rfl (by kernel_rfl) (by kernel_rfl)) ?_
    obtain ⟨_,_,rfl,at44⟩:=Sl.get hr43 (by decide) (tb_get (f:=(fun z1=>((rs R m k).m i z1))) (n:=N) (i:=k) (by omega))
    refine sw 50 (.agg #[(.string ⟨(Lib.itoa ((((rs R m k).m i k)).num):List UInt8).toArray⟩),(.string ⟨(Lib.itoa (((((rs R m k).m i k)).den:Int)):List UInt8).toArray⟩)]) rfl (rv_ldn [(.string ⟨(Lib.itoa ((((rs R m k).m i k)).num):List UInt8).toArray⟩),(.string ⟨(Lib.itoa (((((rs R m k).m i k)).den:Int)):List UInt8).toArray⟩)] at44 _ _ rfl rfl (by kernel_rfl)) ?_
    refine se ?_
    refine ec 51 (f5_zero (((rs R m k).m i k)) _) ?_
    rintro e45 w45 ⟨rfl,g45⟩
    refine ⟨_,rfl,?_⟩
    replace hB:=hB.trans g45
    simp only [p3,p4]
    refine sv 52 (.bool ((Lib.itoa (((rs R m k).m i k)).num==([48]:List UInt8)))) ?_
    refine sq_nil ?_
    refine k40 _ _ ?_
    try clear k40 K40
    refine wp_cond_split (t:=(Lib.itoa (((rs R m k).m i k)).num==([48]:List UInt8))) rfl (fun hb46=>?_) (fun hb46=>?_)
    ·have hzi:=itoa_zero_iff.1 hb46
     refine wp_skip ?_
     refine k39 _ _ ?_
     try clear k39 K39
     refine wp_block ?_
     refine rg [0,1,2] ?_
     refine sv 53 (.int .i64 ((i:Int))) ?_
     refine sw 54 (.int .i64 (((i:Int)+1))) rfl (RunV.int (x:=IntKind.i64.wrap (((i:Int)+1))) (y:=((i:Int)+1)) (rvk (by kernel_rfl)) (by first | rfl | (rw [IntKind.wrap_i64];omega))) ?_
     refine sv 9 (.int .i64 (((i:Int)+1))) ?_
     refine sq_nil ?_
     replace ov:=ov.gr stab_vs g45
     replace mr:=mr.gr stab_fr g45
     replace hpv:=hpv.gr stab_i64 g45
     refine k38 (R - (i+1)) ⟨List.toArray ?l47,[]⟩ _ (by omega) ?_
     exact ⟨i+1,(fun i=>List.getD ?l47 i undef),rfl,rfl,(by omega),(by omega),(zero_succ hzz hzi),ov,mr,hpv,hB⟩
    ·have hf:Fd R m k i:=fd_of hri hli (itoa_nz hb46) hzz
     have hzk:=hz k i hlk hf
     have hrR:pl R m k<R:=by have:=hf.lt;omega
     refine wp_exit ?_
     simp only [Exit.then,Exit.inBlock,↓reduceIte]
     refine k37 _ _ ?_
     try clear k37 K37
     refine wp_seq_k (fun K48 k48=>?_)
     refine wp_seq_k (fun K49 k49=>?_)
     refine rg [0,1,2,3] ?_
     refine sv 55 (.int .i64 ((i:Int))) ?_
     refine sv 56 vo ?_
     refine sw 57 (.int .i64 ((R:Int))) rfl (rv_lenn (e:=51) ov.sl (tb_lenz rfl) _ _ rfl rfl (by kernel_rfl)) ?_
     have hb50:(((i:Int)==(R:Int)))=false:=(by simp;omega)
     refine sw 58 (.bool false) rfl (RunV.bool (x:=((i:Int)==(R:Int))) (rvk (by kernel_rfl)) hb50) ?_
     refine sq_nil ?_
     refine k49 _ _ ?_
     try clear k49 K49
     refine wp_cond_false rfl ?_
     refine wp_skip ?_
     refine k48 _ _ ?_
     try clear k48 K48
     refine wp_seq_k (fun K51 k51=>?_)
     replace ov:=ov.gr stab_vs g45
     obtain ⟨_,_,⟨rfl,_⟩,at58⟩:=Sl.get (ov.sl) (by decide) (tb_get (f:=bs) (n:=R) (i:=(pl R m k)) (by omega))
     have gd59:=Gr.drew w45
     replace hB:=hB.trans gd59
     replace at42:=at42.gr (g45.trans gd59)
     replace at58:=at58.gr gd59
     refine wp_region_ort (fun _=>True) [([13,15],(fun w'=>AtV w' vo (i*1) [(bs i)])),([13,15],(fun w'=>AtV w' vo ((pl R m k)*1) [(bs (pl R m k))]))] [(true,0),(true,1),(true,2),(true,3),(true,4),(true,5),(true,6),(true,7),(true,8),(true,9),(true,10),(true,11),(true,12),(false,13),(true,14),(false,15)] (by kernel_rfl) (by kernel_rfl) (by kernel_rfl) (by decide) (fun _ _ _ _ _ h=>h) trivial ⟨fun _=>at42,fun _=>at58,trivial⟩ ?_
     refine tv 59 vo ?_
     refine tv 60 (.int .i64 (((pl R m k:Nat):Int))) ?_
     refine tv 61 vo ?_
     refine tv 62 (.int .i64 ((i:Int))) ?_
     refine tv 63 vo ?_
     refine tv 64 (.int .i64 ((i:Int))) ?_
     refine tw 65 (adr vo (i*1)) rfl (fun w' hS=>(rv_idxn (e:=51) ov.sl tb_len (by decide) i (by omega) _ _ _ rfl rfl rfl (by kernel_rfl) (by kernel_rfl))) ?_
     refine tw 66 (bs i) rfl (fun w' hS=>(rv_ld1 (bs i) (hS.2.1 (by kernel_rfl)) _ _ rfl rfl (by kernel_rfl))) ?_
     refine tv 67 vo ?_
     refine tv 68 (.int .i64 (((pl R m k:Nat):Int))) ?_
     refine tw 69 (adr vo ((pl R m k)*1)) rfl (fun w' hS=>(rv_idxn (e:=51) ov.sl tb_len (by decide) (pl R m k) (by omega) _ _ _ rfl rfl rfl (by kernel_rfl) (by kernel_rfl))) ?_
     refine tw 70 (bs (pl R m k)) rfl (fun w' hS=>(rv_ld1 (bs (pl R m k)) (hS.2.2.1 (by kernel_rfl)) _ _ rfl rfl (by kernel_rfl))) ?_
     refine tw 71 (adr vo ((pl R m k)*1)) rfl (fun w' hS=>(rv_idxn (e:=51) ov.sl tb_len (by decide) (pl R m k) (by omega) _ _ _ rfl rfl rfl (by kernel_rfl) (by kernel_rfl))) ?_
     refine te ?_
     replace hr43:=hr43.gr stab_fr (g45.trans gd59)
     replace ov:=ov.gr stab_vs gd59
     refine eff_sto stab_vs ov (pl R m k) (by rw [tb_len];omega) (bs i) (bs i) [(bs i)] 51 _ _ rfl rfl rfl rfl (cells_one hr43.one) (by kernel_rfl) rfl ⟨hr43.one,trivial⟩ (EVs.of hr43 _) (by decide) (fun w61 ow61 wt61 hg61=>?_)
     replace hB:=hg61 _ hB (Nat.le_refl _)
     replace ow61:=ow61.cast set_tb
     refine ⟨trivial,⟨cameT (by kernel_rfl),cameT (by kernel_rfl),trivial⟩,?_⟩
     refine tw 72 (adr vo (i*1)) rfl (fun w' hS=>(rv_idxn (e:=51) ow61.sl tb_len (by decide) i (by omega) _ _ _ rfl rfl rfl (by kernel_rfl) (by kernel_rfl))) ?_
     refine te ?_
     replace mr:=((mr.gr stab_fr g45).gr stab_fr gd59).kts stab_fr (wt61.kts (by decide))
     have hr64:=(mr.row (pl R m k) (by omega)).sl
     refine eff_sto stab_vs ow61 i (by rw [tb_len];omega) (bs (pl R m k)) (bs (pl R m k)) [(bs (pl R m k))] 51 _ _ rfl rfl rfl rfl (cells_one hr64.one) (by kernel_rfl) rfl ⟨hr64.one,trivial⟩ (EVs.of hr64 _) (by decide) (fun w63 ow63 wt63 hg63=>?_)
     replace hB:=hg63 _ hB (Nat.le_refl _)
     replace ow63:=ow63.cast set_tb
     refine ⟨trivial,⟨cameT (by kernel_rfl),cameT (by kernel_rfl),trivial⟩,?_⟩
     refine ort_nil ?_
     refine k51 _ _ ?_
     try clear k51 K51
     refine wp_seq_k (fun K65 k65=>?_)
     replace mr:=mr.kts stab_fr (wt63.kts (by decide))
     have mr66:=(mr.swp hli hrR).congr (g:=fun z0 z1=>aa R m k i z0 z1) fun a _ b _=>by rw [swf_swp];rfl
     replace ow63:=ow63.cast (bs_swp (r:=pl R m k))
     refine rg [0,1,2,3,4,5,6,7,8] ?_
     refine sv 73 vo ?_
     refine sv 74 (.int .i64 (((pl R m k:Nat):Int))) ?_
     refine sw 75 (adr vo ((pl R m k)*1)) rfl (rv_idxn (e:=51) ow63.sl tb_len (by decide) (pl R m k) (by omega) _ _ _ rfl rfl rfl (by kernel_rfl) (by kernel_rfl)) ?_
     obtain ⟨_,_,⟨rfl,_⟩,at67⟩:=Sl.get (ow63.sl) (by decide) (tb_get (f:=(sb bs i (pl R m k))) (n:=R) (i:=(pl R m k)) (by omega))
     refine sw 76 ((sb bs i (pl R m k)) (pl R m k)) rfl (rv_ld1 ((sb bs i (pl R m k)) (pl R m k)) at67 _ _ rfl rfl (by kernel_rfl)) ?_
     refine sv 77 (.int .i64 ((k:Int))) ?_
     have hr68:=(mr66.row (pl R m k) (by omega)).sl
     refine sw 78 (adr ((sb bs i (pl R m k)) (pl R m k)) (k*2)) rfl (rv_idxn (e:=84) hr68 tb_len (by decide) k (by omega) _ _ _ rfl rfl rfl (by kernel_rfl) (by kernel_rfl)) ?_
     obtain ⟨_,_,rfl,at69⟩:=Sl.get hr68 (by decide) (tb_get (f:=(fun z1=>(aa R m k i (pl R m k) z1))) (n:=N) (i:=k) (by omega))
     refine sw 79 (.agg #[(.string ⟨(Lib.itoa (((aa R m k i (pl R m k) k)).num):List UInt8).toArray⟩),(.string ⟨(Lib.itoa ((((aa R m k i (pl R m k) k)).den:Int)):List UInt8).toArray⟩)]) rfl (rv_ldn [(.string ⟨(Lib.itoa (((aa R m k i (pl R m k) k)).num):List UInt8).toArray⟩),(.string ⟨(Lib.itoa ((((aa R m k i (pl R m k) k)).den:Int)):List UInt8).toArray⟩)] at69 _ _ rfl rfl (by kernel_rfl)) ?_
     refine se ?_
     refine ea 84 #[(.string ⟨([]:List UInt8).toArray⟩),(.string ⟨([]:List UInt8).toArray⟩)] 10 hB fun b70 w70 g70 L70 o70 q70 hB=>?_
     have nob70:=mr66.nob o70
     simp only [p3,p4]
     refine se ?_
     have lo71:=L70
     refine es 84 0 (.agg #[(.string ⟨(Lib.itoa (((aa R m k i (pl R m k) k)).num):List UInt8).toArray⟩),(.string ⟨(Lib.itoa ((((aa R m k i (pl R m k) k)).den:Int)):List UInt8).toArray⟩)]) [(.string ⟨(Lib.itoa (((aa R m k i (pl R m k) k)).num):List UInt8).toArray⟩),(.string ⟨(Lib.itoa ((((aa R m k i (pl R m k) k)).den:Int)):List UInt8).toArray⟩)] #[(.string ⟨(Lib.itoa (((aa R m k i (pl R m k) k)).num):List UInt8).toArray⟩),(.string ⟨(Lib.itoa ((((aa R m k i (pl R m k) k)).den:Int)):List UInt8).toArray⟩)] L70 hB q70 ⟨rfl,rfl,trivial⟩ fun w71 st71 kp71 L70 hB=>?_
     refine sq_nil ?_
     refine k65 _ _ ?_
     try clear k65 K65
     refine wp_seq_k (fun K72 k72=>?_)
     refine wp_seq_k (fun K73 k73=>?_)
     refine rg [0] ?_
     refine sv 11 (.int .i64 0) ?_
     refine sq_nil ?_
     refine k73 _ _ ?_
     try clear k73 K73
     refine wp_block ?_
     replace ow63:=(ow63.gr stab_vs g70).kts stab_vs (st71.kts lo71 (by decide))
     replace mr66:=(mr66.gr stab_fr g70).st stab_fr st71 nob70 (st71.kts lo71 (by decide))
     replace hpv:=(((((hpv.gr stab_i64 g45).gr stab_i64 gd59).kts stab_i64 (wt61.kts (by decide))).kts stab_i64 (wt63.kts (by decide))).gr stab_i64 g70).kts stab_i64 (st71.kts lo71 (by decide))
     refine wp_loop_inv (a:=⟨List.toArray ?l74,[]⟩) (fun n a w'=>∃ (j:Nat) (u74:Nat→Value),N - j=n∧a=⟨[v,undef,(.slice none 0 0),(.slice none 0 0),vo,(.int .i64 ((R:Int))),vp,(.int .i64 ((k:Int))),(.int .i64 (((pl R m k:Nat):Int))),(.int .i64 ((i:Int))),(.pointer (some ⟨b70,0,none⟩)),(.int .i64 ((j:Int))),(u29 12),(u29 13),(u29 14),(u74 15),(u74 16),(u74 17),(.bool (decide ((R:Int)<(R:Int)))),(u74 19),(u74 20),(u74 21),(u74 22),(u74 23),(u74 24),(u74 25),(u74 26),(u74 27),(u74 28),(u74 29),(u74 30),(u74 31),(u74 32),(.bool (decide ((k:Int)<(N:Int)))),(u74 34),(u74 35),(u74 36),(u74 37),(u74 38),(u74 39),(u74 40),(u74 41),(u74 42),(u74 43),(u74 44),(u74 45),(u74 46),(u74 47),(u74 48),(u74 49),(u74 50),(u74 51),(.bool ((Lib.itoa (((rs R m k).m i k)).num==([48]:List UInt8)))),(u74 53),(u74 54),(u74 55),(u74 56),(u74 57),(.bool false),(u74 59),(u74 60),(u74 61),(u74 62),(u74 63),(u74 64),(u74 65),(u74 66),(u74 67),(u74 68),(u74 69),(u74 70),(u74 71),(u74 72),(u74 73),(u74 74),(u74 75),(u74 76),(u74 77),(u74 78),(u74 79),(u74 80),(u74 81),(u74 82),(u74 83),(u74 84),(u74 85),(u74 86),(u74 87),(u74 88),(u74 89),(u74 90),(u74 91),(u74 92),(u74 93),(u74 94),(u74 95),(u74 96),(u74 97),(u74 98),(u74 99),(u74 100),(u74 101),(u74 102),(u74 103),(u74 104),(u74 105),(u74 106),(u29 107),(u74 108),(u74 109),(u74 110),(u74 111),(u74 112),(u74 113),(u74 114),(u74 115),(u74 116),(u74 117),(u74 118),(u74 119),(u74 120),(u74 121),(u74 122),(u74 123),(u74 124),(u74 125),(u74 126),(u74 127),(u74 128),(u29 129),(u74 130),(u74 131),(u74 132),(u74 133),(u74 134),(u74 135),(u74 136),(u74 137),(u74 138),(u74 139),(u74 140),(u74 141),(u74 142),(u74 143),(u74 144),(u74 145),(u74 146),(u74 147),(u74 148),(u74 149),(u74 150),(u74 151),(u74 152),(u74 153),(u74 154),(u74 155),(u74 156),(u74 157),(u74 158),undef,undef,undef,undef,undef].toArray,[]⟩∧j≤N∧Ow EVs 51 1 w' w.heap.size vo (tb (sb bs i (pl R m k)) R)∧Mr EFr 84 2 w' w.heap.size (sb bs i (pl R m k)) (fun z0 z1=>(s1 R m k i j z0 z1)) R N∧Ow EI64 3 1 w' w.heap.size vp (tb (fun z1=>((pv (rs R m k) z1:Nat):Int)) (pl R m k))∧Lc w' b70 #[(.string ⟨(Lib.itoa (((aa R m k i (pl R m k) k)).num):List UInt8).toArray⟩),(.string ⟨(Lib.itoa ((((aa R m k i (pl R m k) k)).den:Int)):List UInt8).toArray⟩)] 84∧Gr w w') (N - 0) ?_ ?_
     ·exact ⟨0,(fun i=>List.getD ?l74 i undef),rfl,rfl,(Nat.zero_le _),ow63,(mr66.congr fun a _ b _=>s1_zero a b),hpv,L70,hB⟩
     rintro n74 a74 w74 ⟨j,u74,rfl,rfl,hkj,ov,mr,hpv,L70,hB⟩ K74 k74
     refine wp_seq_k (fun K75 k75=>?_)
     refine wp_seq_k (fun K76 k76=>?_)
     refine rg [0,1,2,3,4,5,6] ?_
     refine sv 80 (.int .i64 ((j:Int))) ?_
     refine sv 81 vo ?_
     refine sv 82 (.int .i64 (((pl R m k:Nat):Int))) ?_
     refine sw 83 (adr vo ((pl R m k)*1)) rfl (rv_idxn (e:=51) ov.sl tb_len (by decide) (pl R m k) (by omega) _ _ _ rfl rfl rfl (by kernel_rfl) (by kernel_rfl)) ?_
     obtain ⟨_,_,⟨rfl,_⟩,at77⟩:=Sl.get (ov.sl) (by decide) (tb_get (f:=(sb bs i (pl R m k))) (n:=R) (i:=(pl R m k)) (by omega))
     refine sw 84 ((sb bs i (pl R m k)) (pl R m k)) rfl (rv_ld1 ((sb bs i (pl R m k)) (pl R m k)) at77 _ _ rfl rfl (by kernel_rfl)) ?_
     have hr78:=(mr.row (pl R m k) (by omega)).sl
     refine sw 85 (.int .i64 ((N:Int))) rfl (rv_lenn (e:=84) hr78 (tb_lenz rfl) _ _ rfl rfl (by kernel_rfl)) ?_
     refine sv 86 (.bool (decide ((j:Int)<(N:Int)))) ?_
     refine sq_nil ?_
     refine k76 _ _ ?_
     try clear k76 K76
     refine wp_cond_split (t:=decide ((j:Int)<(N:Int))) rfl (fun hb79=>?_) (fun hb79=>?_)
     ·have hlj:j<N:=by have:=of_decide_eq_true hb79;omega
      refine wp_skip ?_
      refine k75 _ _ ?_
      try clear k75 K75
      refine wp_seq_k (fun K80 k80=>?_)
      refine wp_block ?_
      obtain ⟨_,_,rfl,at86⟩:=Sl.get hr78 (by decide) (tb_get (f:=(fun z1=>(s1 R m k i j (pl R m k) z1))) (n:=N) (i:=j) (by omega))
      have gd87:=Gr.drew w74
      replace hB:=hB.trans gd87
      replace L70:=L70.gr gd87
      replace at77:=at77.gr gd87
      replace at86:=at86.gr gd87
      refine wp_region_ort (fun w'=>Lc w' b70 #[(.string ⟨(Lib.itoa (((aa R m k i (pl R m k) k)).num):List UInt8).toArray⟩),(.string ⟨(Lib.itoa ((((aa R m k i (pl R m k) k)).den:Int)):List UInt8).toArray⟩)] 84) [([15],(fun w'=>AtV w' vo ((pl R m k)*1) [((sb bs i (pl R m k)) (pl R m k))])),([15],(fun w'=>AtV w' ((sb bs i (pl R m k)) (pl R m k)) (j*2) [(.string ⟨(Lib.itoa (((s1 R m k i j (pl R m k) j)).num):List UInt8).toArray⟩),(.string ⟨(Lib.itoa ((((s1 R m k i j (pl R m k) j)).den:Int)):List UInt8).toArray⟩)]))] [(true,0),(true,1),(true,2),(true,3),(true,4),(true,5),(true,6),(true,7),(true,8),(true,9),(true,10),(true,11),(true,12),(false,13),(true,14),(false,15)] (by kernel_rfl) (by kernel_rfl) (by kernel_rfl) (by decide) (fun _ _ _ _ _ h=>h) L70 ⟨fun _=>at77,fun _=>at86,trivial⟩ ?_
      refine tv 89 vo ?_
      refine tv 90 (.int .i64 (((pl R m k:Nat):Int))) ?_
      refine tw 91 (adr vo ((pl R m k)*1)) rfl (fun w' hS=>(rv_idxn (e:=51) ov.sl tb_len (by decide) (pl R m k) (by omega) _ _ _ rfl rfl rfl (by kernel_rfl) (by kernel_rfl))) ?_
      refine tw 92 ((sb bs i (pl R m k)) (pl R m k)) rfl (fun w' hS=>(rv_ld1 ((sb bs i (pl R m k)) (pl R m k)) (hS.2.1 (by kernel_rfl)) _ _ rfl rfl (by kernel_rfl))) ?_
      refine tv 93 (.int .i64 ((j:Int))) ?_
      refine tv 94 vo ?_
      refine tv 95 (.int .i64 (((pl R m k:Nat):Int))) ?_
      refine tw 96 (adr vo ((pl R m k)*1)) rfl (fun w' hS=>(rv_idxn (e:=51) ov.sl tb_len (by decide) (pl R m k) (by omega) _ _ _ rfl rfl rfl (by kernel_rfl) (by kernel_rfl))) ?_
      refine tw 97 ((sb bs i (pl R m k)) (pl R m k)) rfl (fun w' hS=>(rv_ld1 ((sb bs i (pl R m k)) (pl R m k)) (hS.2.1 (by kernel_rfl)) _ _ rfl rfl (by kernel_rfl))) ?_
      refine tv 98 (.int .i64 ((j:Int))) ?_
      refine tw 99 (adr ((sb bs i (pl R m k)) (pl R m k)) (j*2)) rfl (fun w' hS=>(rv_idxn (e:=84) hr78 tb_len (by decide) j (by omega) _ _ _ rfl rfl rfl (by kernel_rfl) (by kernel_rfl))) ?_
      refine tw 100 (.agg #[(.string ⟨(Lib.itoa (((s1 R m k i j (pl R m k) j)).num):List UInt8).toArray⟩),(.string ⟨(Lib.itoa ((((s1 R m k i j (pl R m k) j)).den:Int)):List UInt8).toArray⟩)]) rfl (fun w' hS=>(rv_ldn [(.string ⟨(Lib.itoa (((s1 R m k i j (pl R m k) j)).num):List UInt8).toArray⟩),(.string ⟨(Lib.itoa ((((s1 R m k i j (pl R m k) j)).den:Int)):List UInt8).toArray⟩)] (hS.2.2.1 (by kernel_rfl)) _ _ rfl rfl (by kernel_rfl))) ?_
      refine tw 101 (.agg #[(.string ⟨(Lib.itoa (((aa R m k i (pl R m k) k)).num):List UInt8).toArray⟩),(.string ⟨(Lib.itoa ((((aa R m k i (pl R m k) k)).den:Int)):List UInt8).toArray⟩)]) rfl (fun w' hS=>(rl 84 0 [(.string ⟨(Lib.itoa (((aa R m k i (pl R m k) k)).num):List UInt8).toArray⟩),(.string ⟨(Lib.itoa ((((aa R m k i (pl R m k) k)).den:Int)):List UInt8).toArray⟩)] hS.1)) ?_
      refine te ?_
      refine ec 102 (f5_div ((s1 R m k i j (pl R m k) j)) ((aa R m k i (pl R m k) k)) (show RZ K K _ by rw [s1_at];exact hf.z_aa hzk _ hrR j hlj) (hf.z_aa hzk _ hrR k hlk) hf.num (by omega) _) ?_
      rintro e89 w89 ⟨rfl,g89⟩
      refine ⟨_,rfl,?_⟩
      replace hB:=hB.trans g89
      replace L70:=L70.gr g89
      replace at77:=at77.gr g89
      replace at86:=at86.gr g89
      refine ⟨L70,⟨fun _=>at77,fun _=>at86,trivial⟩,?_⟩
      simp only [p3,p4]
      refine tw 103 (adr ((sb bs i (pl R m k)) (pl R m k)) (j*2)) rfl (fun w' hS=>(rv_idxn (e:=84) hr78 tb_len (by decide) j (by omega) _ _ _ rfl rfl rfl (by kernel_rfl) (by kernel_rfl))) ?_
      refine te ?_
      replace mr:=(mr.gr stab_fr gd87).gr stab_fr g89
      refine eff_mws stab_fr mr (pl R m k) j (by omega) (by omega) (((s1 R m k i j (pl R m k) j)/(aa R m k i (pl R m k) k))) (.agg #[(.string ⟨(Lib.itoa ((((s1 R m k i j (pl R m k) j)/(aa R m k i (pl R m k) k))).num):List UInt8).toArray⟩),(.string ⟨(Lib.itoa (((((s1 R m k i j (pl R m k) j)/(aa R m k i (pl R m k) k))).den:Int)):List UInt8).toArray⟩)]) [(.string ⟨(Lib.itoa ((((s1 R m k i j (pl R m k) j)/(aa R m k i (pl R m k) k))).num):List UInt8).toArray⟩),(.string ⟨(Lib.itoa (((((s1 R m k i j (pl R m k) j)/(aa R m k i (pl R m k) k))).den:Int)):List UInt8).toArray⟩)] 84 _ _ rfl rfl rfl rfl rfl (by kernel_rfl) rfl ⟨rfl,rfl,trivial⟩ rfl (by decide) (fun w91 gg91 mr91 st91 kt91 bb91 hn91=>?_)
      replace hB:=st91.gr hB bb91
      replace mr91:=mr91.congr fun a _ b _=>s1_next j a b
      replace L70:=st91.lc L70 (hn91 _ nob70)
      refine ⟨L70,⟨cameT (by kernel_rfl),cameT (by kernel_rfl),trivial⟩,?_⟩
      refine ort_nil ?_
      refine k80 _ _ ?_
      try clear k80 K80
      refine rg [0,1,2] ?_
      refine sv 87 (.int .i64 ((j:Int))) ?_
      refine sw 88 (.int .i64 (((j:Int)+1))) rfl (RunV.int (x:=IntKind.i64.wrap (((j:Int)+1))) (y:=((j:Int)+1)) (rvk (by kernel_rfl)) (by first | rfl | (rw [IntKind.wrap_i64];omega))) ?_
      refine sv 11 (.int .i64 (((j:Int)+1))) ?_
      refine sq_nil ?_
      replace ov:=((ov.gr stab_vs gd87).gr stab_vs g89).kts stab_vs (fun t hm=>kt91 t (by revert hm;revert t;decide))
      replace hpv:=((hpv.gr stab_i64 gd87).gr stab_i64 g89).kts stab_i64 (fun t hm=>kt91 t (by revert hm;revert t;decide))
      refine k74 (N - (j+1)) ⟨List.toArray ?l92,[]⟩ _ (by omega) ?_
      exact ⟨j+1,(fun i=>List.getD ?l92 i undef),rfl,rfl,(by omega),ov,mr91,hpv,L70,hB⟩
     ·have hej:j=N:=by have:=of_decide_eq_false hb79;omega
      refine wp_exit ?_
      simp only [Exit.then,Exit.inBlock,↓reduceIte]
      refine k72 _ _ ?_
      try clear k72 K72
      refine wp_seq_k (fun K93 k93=>?_)
      refine wp_seq_k (fun K94 k94=>?_)
      refine rg [0] ?_
      refine sv 12 (.int .i64 0) ?_
      refine sq_nil ?_
      refine k94 _ _ ?_
      try clear k94 K94
      refine wp_block ?_
      refine wp_loop_inv (a:=⟨List.toArray ?l95,[]⟩) (fun n a w'=>∃ (t:Nat) (u95:Nat→Value),R - t=n∧a=⟨[v,undef,(.slice none 0 0),(.slice none 0 0),vo,(.int .i64 ((R:Int))),vp,(.int .i64 ((k:Int))),(.int .i64 (((pl R m k:Nat):Int))),(.int .i64 ((i:Int))),(.pointer (some ⟨b70,0,none⟩)),(.int .i64 ((j:Int))),(.int .i64 ((t:Int))),(u95 13),(u95 14),(u95 15),(u95 16),(u95 17),(.bool (decide ((R:Int)<(R:Int)))),(u95 19),(u95 20),(u95 21),(u95 22),(u95 23),(u95 24),(u95 25),(u95 26),(u95 27),(u95 28),(u95 29),(u95 30),(u95 31),(u95 32),(.bool (decide ((k:Int)<(N:Int)))),(u95 34),(u95 35),(u95 36),(u95 37),(u95 38),(u95 39),(u95 40),(u95 41),(u95 42),(u95 43),(u95 44),(u95 45),(u95 46),(u95 47),(u95 48),(u95 49),(u95 50),(u95 51),(.bool ((Lib.itoa (((rs R m k).m i k)).num==([48]:List UInt8)))),(u95 53),(u95 54),(u95 55),(u95 56),(u95 57),(.bool false),(u95 59),(u95 60),(u95 61),(u95 62),(u95 63),(u95 64),(u95 65),(u95 66),(u95 67),(u95 68),(u95 69),(u95 70),(u95 71),(u95 72),(u95 73),(u95 74),(u95 75),(u95 76),(u95 77),(u95 78),(u95 79),(u95 80),(u95 81),(u95 82),(u95 83),(u95 84),(u95 85),(.bool (decide ((j:Int)<(N:Int)))),(u95 87),(u95 88),(u95 89),(u95 90),(u95 91),(u95 92),(u95 93),(u95 94),(u95 95),(u95 96),(u95 97),(u95 98),(u95 99),(u95 100),(u95 101),(u95 102),(u95 103),(u95 104),(u95 105),(u95 106),(u95 107),(u95 108),(u95 109),(u95 110),(u95 111),(u95 112),(u95 113),(u95 114),(u95 115),(u95 116),(u95 117),(u95 118),(u95 119),(u95 120),(u95 121),(u95 122),(u95 123),(u95 124),(u95 125),(u95 126),(u95 127),(u95 128),(u95 129),(u95 130),(u95 131),(u95 132),(u95 133),(u95 134),(u95 135),(u95 136),(u95 137),(u95 138),(u95 139),(u95 140),(u95 141),(u95 142),(u95 143),(u95 144),(u95 145),(u95 146),(u95 147),(u95 148),(u95 149),(u95 150),(u95 151),(u95 152),(u95 153),(u95 154),(u95 155),(u95 156),(u95 157),(u95 158),undef,undef,undef,undef,undef].toArray,[]⟩∧t≤R∧Ow EVs 51 1 w' w.heap.size vo (tb (sb bs i (pl R m k)) R)∧Mr EFr 84 2 w' w.heap.size (sb bs i (pl R m k)) (fun z0 z1=>(md R m k i t z0 z1)) R N∧Ow EI64 3 1 w' w.heap.size vp (tb (fun z1=>((pv (rs R m k) z1:Nat):Int)) (pl R m k))∧Gr w w') (R - 0) ?_ ?_
      ·exact ⟨0,(fun i=>List.getD ?l95 i undef),rfl,rfl,(Nat.zero_le _),ov,(mr.congr fun a _ b hb=>by rw [hej];exact s1_end hb a),hpv,hB⟩
      rintro n95 a95 w95 ⟨t,u95,rfl,rfl,hkt,ov,mr,hpv,hB⟩ K95 k95
      refine wp_seq_k (fun K96 k96=>?_)
      refine wp_seq_k (fun K97 k97=>?_)
      refine rg [0,1,2,3] ?_
      refine sv 104 (.int .i64 ((t:Int))) ?_
      refine sv 105 vo ?_
      refine sw 106 (.int .i64 ((R:Int))) rfl (rv_lenn (e:=51) ov.sl (tb_lenz rfl) _ _ rfl rfl (by kernel_rfl)) ?_
      refine sv 107 (.bool (decide ((t:Int)<(R:Int)))) ?_
      refine sq_nil ?_
      refine k97 _ _ ?_
      try clear k97 K97
      refine wp_cond_split (t:=decide ((t:Int)<(R:Int))) rfl (fun hb98=>?_) (fun hb98=>?_)
      ·have hlt:t<R:=by have:=of_decide_eq_true hb98;omega
       refine wp_skip ?_
       refine k96 _ _ ?_
       try clear k96 K96
       refine wp_seq_k (fun K99 k99=>?_)
       refine wp_block ?_
       refine wp_seq_k (fun K100 k100=>?_)
       refine rg [0,1,2,3,4,5,6,7,8,9] ?_
       refine sv 110 vo ?_
       refine sv 111 (.int .i64 ((t:Int))) ?_
       refine sw 112 (adr vo (t*1)) rfl (rv_idxn (e:=51) ov.sl tb_len (by decide) t (by omega) _ _ _ rfl rfl rfl (by kernel_rfl) (by kernel_rfl)) ?_
       obtain ⟨_,_,⟨rfl,_⟩,at101⟩:=Sl.get (ov.sl) (by decide) (tb_get (f:=(sb bs i (pl R m k))) (n:=R) (i:=t) (by omega))
       refine sw 113 ((sb bs i (pl R m k)) t) rfl (rv_ld1 ((sb bs i (pl R m k)) t) at101 _ _ rfl rfl (by kernel_rfl)) ?_
       refine sv 114 (.int .i64 ((k:Int))) ?_
       have hr102:=(mr.row t (by omega)).sl
       refine sw 115 (adr ((sb bs i (pl R m k)) t) (k*2)) rfl (rv_idxn (e:=84) hr102 tb_len (by decide) k (by omega) _ _ _ rfl rfl rfl (by kernel_rfl) (by kernel_rfl)) ?_
       obtain ⟨_,_,rfl,at103⟩:=Sl.get hr102 (by decide) (tb_get (f:=(fun z1=>(md R m k i t t z1))) (n:=N) (i:=k) (by omega))
       refine sw 116 (.agg #[(.string ⟨(Lib.itoa (((md R m k i t t k)).num):List UInt8).toArray⟩),(.string ⟨(Lib.itoa ((((md R m k i t t k)).den:Int)):List UInt8).toArray⟩)]) rfl (rv_ldn [(.string ⟨(Lib.itoa (((md R m k i t t k)).num):List UInt8).toArray⟩),(.string ⟨(Lib.itoa ((((md R m k i t t k)).den:Int)):List UInt8).toArray⟩)] at103 _ _ rfl rfl (by kernel_rfl)) ?_
       refine se ?_
       refine ec 117 (f5_neg ((md R m k i t t k)) (hf.z_mt hzk hlk hlt) (by omega) _) ?_
       rintro e104 w104 ⟨rfl,g104⟩
       refine ⟨_,rfl,?_⟩
       replace hB:=hB.trans g104
       simp only [p3,p4]
       refine se ?_
       refine ea 84 #[(.string ⟨([]:List UInt8).toArray⟩),(.string ⟨([]:List UInt8).toArray⟩)] 13 hB fun b105 w105 g105 L105 o105 q105 hB=>?_
       replace mr:=mr.gr stab_fr g104
       have nob105:=mr.nob o105
       simp only [p3,p4]
       refine se ?_
       have lo106:=L105
       refine es 84 0 (.agg #[(.string ⟨(Lib.itoa (((-(md R m k i t t k))).num):List UInt8).toArray⟩),(.string ⟨(Lib.itoa ((((-(md R m k i t t k))).den:Int)):List UInt8).toArray⟩)]) [(.string ⟨(Lib.itoa (((-(md R m k i t t k))).num):List UInt8).toArray⟩),(.string ⟨(Lib.itoa ((((-(md R m k i t t k))).den:Int)):List UInt8).toArray⟩)] #[(.string ⟨(Lib.itoa (((-(md R m k i t t k))).num):List UInt8).toArray⟩),(.string ⟨(Lib.itoa ((((-(md R m k i t t k))).den:Int)):List UInt8).toArray⟩)] L105 hB q105 ⟨rfl,rfl,trivial⟩ fun w106 st106 kp106 L105 hB=>?_
       refine sq_nil ?_
       refine k100 _ _ ?_
       try clear k100 K100
       refine wp_seq_k (fun K107 k107=>?_)
       refine rg [0] ?_
       refine sv 14 (.int .i64 0) ?_
       refine sq_nil ?_
       refine k107 _ _ ?_
       try clear k107 K107
       refine wp_block ?_
       replace ov:=((ov.gr stab_vs g104).gr stab_vs g105).kts stab_vs (st106.kts lo106 (by decide))
       replace mr:=(mr.gr stab_fr g105).st stab_fr st106 nob105 (st106.kts lo106 (by decide))
       replace hpv:=((hpv.gr stab_i64 g104).gr stab_i64 g105).kts stab_i64 (st106.kts lo106 (by decide))
       refine wp_loop_inv (a:=⟨List.toArray ?l108,[]⟩) (fun n a w'=>∃ (jj:Nat) (u108:Nat→Value),N - jj=n∧a=⟨[v,undef,(.slice none 0 0),(.slice none 0 0),vo,(.int .i64 ((R:Int))),vp,(.int .i64 ((k:Int))),(.int .i64 (((pl R m k:Nat):Int))),(.int .i64 ((i:Int))),(.pointer (some ⟨b70,0,none⟩)),(.int .i64 ((j:Int))),(.int .i64 ((t:Int))),(.pointer (some ⟨b105,0,none⟩)),(.int .i64 ((jj:Int))),(u108 15),(u108 16),(u108 17),(.bool (decide ((R:Int)<(R:Int)))),(u108 19),(u108 20),(u108 21),(u108 22),(u108 23),(u108 24),(u108 25),(u108 26),(u108 27),(u108 28),(u108 29),(u108 30),(u108 31),(u108 32),(.bool (decide ((k:Int)<(N:Int)))),(u108 34),(u108 35),(u108 36),(u108 37),(u108 38),(u108 39),(u108 40),(u108 41),(u108 42),(u108 43),(u108 44),(u108 45),(u108 46),(u108 47),(u108 48),(u108 49),(u108 50),(u108 51),(.bool ((Lib.itoa (((rs R m k).m i k)).num==([48]:List UInt8)))),(u108 53),(u108 54),(u108 55),(u108 56),(u108 57),(.bool false),(u108 59),(u108 60),(u108 61),(u108 62),(u108 63),(u108 64),(u108 65),(u108 66),(u108 67),(u108 68),(u108 69),(u108 70),(u108 71),(u108 72),(u108 73),(u108 74),(u108 75),(u108 76),(u108 77),(u108 78),(u108 79),(u108 80),(u108 81),(u108 82),(u108 83),(u108 84),(u108 85),(.bool (decide ((j:Int)<(N:Int)))),(u108 87),(u108 88),(u108 89),(u108 90),(u108 91),(u108 92),(u108 93),(u108 94),(u108 95),(u108 96),(u108 97),(u108 98),(u108 99),(u108 100),(u108 101),(u108 102),(u108 103),(u108 104),(u108 105),(u108 106),(.bool (decide ((t:Int)<(R:Int)))),(u108 108),(u108 109),(u108 110),(u108 111),(u108 112),(u108 113),(u108 114),(u108 115),(u108 116),(u108 117),(u108 118),(u108 119),(u108 120),(u108 121),(u108 122),(u108 123),(u108 124),(u108 125),(u108 126),(u108 127),(u108 128),(u108 129),(u108 130),(u108 131),(u108 132),(u108 133),(u108 134),(u108 135),(u108 136),(u108 137),(u108 138),(u108 139),(u108 140),(u108 141),(u108 142),(u108 143),(u108 144),(u108 145),(u108 146),(u108 147),(u108 148),(u108 149),(u108 150),(u108 151),(u108 152),(u108 153),(u108 154),(u108 155),(u108 156),(u108 157),(u108 158),undef,undef,undef,undef,undef].toArray,[]⟩∧jj≤N∧(t=pl R m k→jj=0)∧Ow EVs 51 1 w' w.heap.size vo (tb (sb bs i (pl R m k)) R)∧Mr EFr 84 2 w' w.heap.size (sb bs i (pl R m k)) (fun z0 z1=>(s2 R m k i t jj z0 z1)) R N∧Ow EI64 3 1 w' w.heap.size vp (tb (fun z1=>((pv (rs R m k) z1:Nat):Int)) (pl R m k))∧Lc w' b105 #[(.string ⟨(Lib.itoa (((-(md R m k i t t k))).num):List UInt8).toArray⟩),(.string ⟨(Lib.itoa ((((-(md R m k i t t k))).den:Int)):List UInt8).toArray⟩)] 84∧Gr w w') (N - 0) ?_ ?_
       ·exact ⟨0,(fun i=>List.getD ?l108 i undef),rfl,rfl,(Nat.zero_le _),(fun _=>rfl),ov,(mr.congr fun a _ b _=>s2_zero t a b),hpv,L105,hB⟩
       rintro n108 a108 w108 ⟨jj,u108,rfl,rfl,hkj,hj00,ov,mr,hpv,L105,hB⟩ K108 k108
       refine wp_seq_k (fun K109 k109=>?_)
       refine wp_seq_k (fun K110 k110=>?_)
       refine rg [0,1,2,3,4,5,6,7,8,9,10,11] ?_
       refine sv 118 (.int .i64 ((jj:Int))) ?_
       refine sv 119 vo ?_
       refine sv 120 (.int .i64 ((t:Int))) ?_
       refine sw 121 (adr vo (t*1)) rfl (rv_idxn (e:=51) ov.sl tb_len (by decide) t (by omega) _ _ _ rfl rfl rfl (by kernel_rfl) (by kernel_rfl)) ?_
       obtain ⟨_,_,⟨rfl,_⟩,at111⟩:=Sl.get (ov.sl) (by decide) (tb_get (f:=(sb bs i (pl R m k))) (n:=R) (i:=t) (by omega))
       refine sw 122 ((sb bs i (pl R m k)) t) rfl (rv_ld1 ((sb bs i (pl R m k)) t) at111 _ _ rfl rfl (by kernel_rfl)) ?_
       have hr112:=(mr.row t (by omega)).sl
       refine sw 123 (.int .i64 ((N:Int))) rfl (rv_lenn (e:=84) hr112 (tb_lenz rfl) _ _ rfl rfl (by kernel_rfl)) ?_
       refine sv 124 (.bool (decide ((jj:Int)<(N:Int)))) ?_
       rcases Bool.eq_false_or_eq_true (decide ((jj:Int)<(N:Int))) with hb113 | hb113
       ·have hlj:jj<N:=by have:=of_decide_eq_true hb113;omega
        refine sw 125 (.bool true) rfl (RunV.bool (x:=decide ((jj:Int)<(N:Int))) (rvk (by kernel_rfl)) hb113) ?_
        refine sv 126 (.int .i64 ((t:Int))) ?_
        refine sv 127 (.int .i64 (((pl R m k:Nat):Int))) ?_
        refine sv 128 (.bool (((t:Int) !=((pl R m k:Nat):Int)))) ?_
        refine sv 129 (.bool (((t:Int) !=((pl R m k:Nat):Int)))) ?_
        refine sq_nil ?_
        refine k110 _ _ ?_
        try clear k110 K110
        refine wp_cond_split (t:=((t:Int) !=((pl R m k:Nat):Int))) rfl (fun hb114=>?_) (fun hb114=>?_)
        ·have hnt:¬ t=pl R m k:=bne_t hb114
         refine wp_skip ?_
         refine k109 _ _ ?_
         try clear k109 K109
         refine wp_seq_k (fun K115 k115=>?_)
         refine wp_block ?_
         obtain ⟨_,_,rfl,at124⟩:=Sl.get hr112 (by decide) (tb_get (f:=(fun z1=>(s2 R m k i t jj t z1))) (n:=N) (i:=jj) (by omega))
         obtain ⟨_,_,⟨rfl,_⟩,at125⟩:=Sl.get (ov.sl) (by decide) (tb_get (f:=(sb bs i (pl R m k))) (n:=R) (i:=(pl R m k)) (by omega))
         have hr126:=(mr.row (pl R m k) (by omega)).sl
         obtain ⟨_,_,rfl,at127⟩:=Sl.get hr126 (by decide) (tb_get (f:=(fun z1=>(s2 R m k i t jj (pl R m k) z1))) (n:=N) (i:=jj) (by omega))
         have gd128:=Gr.drew w108
         replace hB:=hB.trans gd128
         replace L105:=L105.gr gd128
         replace at111:=at111.gr gd128
         replace at124:=at124.gr gd128
         replace at125:=at125.gr gd128
         replace at127:=at127.gr gd128
         refine wp_region_ort (fun w'=>Lc w' b105 #[(.string ⟨(Lib.itoa (((-(md R m k i t t k))).num):List UInt8).toArray⟩),(.string ⟨(Lib.itoa ((((-(md R m k i t t k))).den:Int)):List UInt8).toArray⟩)] 84) [([23],(fun w'=>AtV w' vo (t*1) [((sb bs i (pl R m k)) t)])),([23],(fun w'=>AtV w' ((sb bs i (pl R m k)) t) (jj*2) [(.string ⟨(Lib.itoa (((s2 R m k i t jj t jj)).num):List UInt8).toArray⟩),(.string ⟨(Lib.itoa ((((s2 R m k i t jj t jj)).den:Int)):List UInt8).toArray⟩)])),([23],(fun w'=>AtV w' vo ((pl R m k)*1) [((sb bs i (pl R m k)) (pl R m k))])),([23],(fun w'=>AtV w' ((sb bs i (pl R m k)) (pl R m k)) (jj*2) [(.string ⟨(Lib.itoa (((s2 R m k i t jj (pl R m k) jj)).num):List UInt8).toArray⟩),(.string ⟨(Lib.itoa ((((s2 R m k i t jj (pl R m k) jj)).den:Int)):List UInt8).toArray⟩)]))] [(true,0),(true,1),(true,2),(true,3),(true,4),(true,5),(true,6),(true,7),(true,8),(true,9),(true,10),(true,11),(true,12),(true,13),(true,14),(true,15),(true,16),(true,17),(true,18),(true,19),(false,20),(false,21),(true,22),(false,23)] (by kernel_rfl) (by kernel_rfl) (by kernel_rfl) (by decide) (fun _ _ _ _ _ h=>h) L105 ⟨fun _=>at111,fun _=>at124,fun _=>at125,fun _=>at127,trivial⟩ ?_
         refine tv 132 vo ?_
         refine tv 133 (.int .i64 ((t:Int))) ?_
         refine tw 134 (adr vo (t*1)) rfl (fun w' hS=>(rv_idxn (e:=51) ov.sl tb_len (by decide) t (by omega) _ _ _ rfl rfl rfl (by kernel_rfl) (by kernel_rfl))) ?_
         refine tw 135 ((sb bs i (pl R m k)) t) rfl (fun w' hS=>(rv_ld1 ((sb bs i (pl R m k)) t) (hS.2.1 (by kernel_rfl)) _ _ rfl rfl (by kernel_rfl))) ?_
         refine tv 136 (.int .i64 ((jj:Int))) ?_
         refine tv 137 vo ?_
         refine tv 138 (.int .i64 ((t:Int))) ?_
         refine tw 139 (adr vo (t*1)) rfl (fun w' hS=>(rv_idxn (e:=51) ov.sl tb_len (by decide) t (by omega) _ _ _ rfl rfl rfl (by kernel_rfl) (by kernel_rfl))) ?_
         refine tw 140 ((sb bs i (pl R m k)) t) rfl (fun w' hS=>(rv_ld1 ((sb bs i (pl R m k)) t) (hS.2.1 (by kernel_rfl)) _ _ rfl rfl (by kernel_rfl))) ?_
         refine tv 141 (.int .i64 ((jj:Int))) ?_
         refine tw 142 (adr ((sb bs i (pl R m k)) t) (jj*2)) rfl (fun w' hS=>(rv_idxn (e:=84) hr112 tb_len (by decide) jj (by omega) _ _ _ rfl rfl rfl (by kernel_rfl) (by kernel_rfl))) ?_
         refine tw 143 (.agg #[(.string ⟨(Lib.itoa (((s2 R m k i t jj t jj)).num):List UInt8).toArray⟩),(.string ⟨(Lib.itoa ((((s2 R m k i t jj t jj)).den:Int)):List UInt8).toArray⟩)]) rfl (fun w' hS=>(rv_ldn [(.string ⟨(Lib.itoa (((s2 R m k i t jj t jj)).num):List UInt8).toArray⟩),(.string ⟨(Lib.itoa ((((s2 R m k i t jj t jj)).den:Int)):List UInt8).toArray⟩)] (hS.2.2.1 (by kernel_rfl)) _ _ rfl rfl (by kernel_rfl))) ?_
         refine tw 144 (.agg #[(.string ⟨(Lib.itoa (((-(md R m k i t t k))).num):List UInt8).toArray⟩),(.string ⟨(Lib.itoa ((((-(md R m k i t t k))).den:Int)):List UInt8).toArray⟩)]) rfl (fun w' hS=>(rl 84 0 [(.string ⟨(Lib.itoa (((-(md R m k i t t k))).num):List UInt8).toArray⟩),(.string ⟨(Lib.itoa ((((-(md R m k i t t k))).den:Int)):List UInt8).toArray⟩)] hS.1)) ?_
         refine tv 145 vo ?_
         refine tv 146 (.int .i64 (((pl R m k:Nat):Int))) ?_
         refine tw 147 (adr vo ((pl R m k)*1)) rfl (fun w' hS=>(rv_idxn (e:=51) ov.sl tb_len (by decide) (pl R m k) (by omega) _ _ _ rfl rfl rfl (by kernel_rfl) (by kernel_rfl))) ?_
         refine tw 148 ((sb bs i (pl R m k)) (pl R m k)) rfl (fun w' hS=>(rv_ld1 ((sb bs i (pl R m k)) (pl R m k)) (hS.2.2.2.1 (by kernel_rfl)) _ _ rfl rfl (by kernel_rfl))) ?_
         refine tv 149 (.int .i64 ((jj:Int))) ?_
         refine tw 150 (adr ((sb bs i (pl R m k)) (pl R m k)) (jj*2)) rfl (fun w' hS=>(rv_idxn (e:=84) hr126 tb_len (by decide) jj (by omega) _ _ _ rfl rfl rfl (by kernel_rfl) (by kernel_rfl))) ?_
         refine tw 151 (.agg #[(.string ⟨(Lib.itoa (((s2 R m k i t jj (pl R m k) jj)).num):List UInt8).toArray⟩),(.string ⟨(Lib.itoa ((((s2 R m k i t jj (pl R m k) jj)).den:Int)):List UInt8).toArray⟩)]) rfl (fun w' hS=>(rv_ldn [(.string ⟨(Lib.itoa (((s2 R m k i t jj (pl R m k) jj)).num):List UInt8).toArray⟩),(.string ⟨(Lib.itoa ((((s2 R m k i t jj (pl R m k) jj)).den:Int)):List UInt8).toArray⟩)] (hS.2.2.2.2.1 (by kernel_rfl)) _ _ rfl rfl (by kernel_rfl))) ?_
         refine te ?_
         refine ec 152 (f5_mul ((-(md R m k i t t k))) ((s2 R m k i t jj (pl R m k) jj)) (RZ.neg (hf.z_md hzk hnt hlt k hlk)) (show RZ (K+K) (K+K) (s2 R m k i t jj (pl R m k) jj) by rw [s2_r hnt];exact hf.z_mr hzk hlk t jj hlj) (by omega) _) ?_
         rintro e130 w130 ⟨rfl,g130⟩
         refine ⟨_,rfl,?_⟩
         replace hB:=hB.trans g130
         replace L105:=L105.gr g130
         replace at111:=at111.gr g130
         replace at124:=at124.gr g130
         replace at125:=at125.gr g130
         replace at127:=at127.gr g130
         refine ⟨L105,⟨fun _=>at111,fun _=>at124,fun _=>at125,fun _=>at127,trivial⟩,?_⟩
         simp only [p3,p4]
         refine te ?_
         refine ec 153 (f5_add ((s2 R m k i t jj t jj)) (((-(md R m k i t t k))*(s2 R m k i t jj (pl R m k) jj))) (show RZ K K (s2 R m k i t jj t jj) by rw [s2_at];exact hf.z_md hzk hnt hlt jj hlj) (RZ.mul (RZ.neg (hf.z_md hzk hnt hlt k hlk)) (show RZ (K+K) (K+K) (s2 R m k i t jj (pl R m k) jj) by rw [s2_r hnt];exact hf.z_mr hzk hlk t jj hlj)) (by omega) _) ?_
         rintro e132 w132 ⟨rfl,g132⟩
         refine ⟨_,rfl,?_⟩
         replace hB:=hB.trans g132
         replace L105:=L105.gr g132
         replace at111:=at111.gr g132
         replace at124:=at124.gr g132
         replace at125:=at125.gr g132
         replace at127:=at127.gr g132
         refine ⟨L105,⟨fun _=>at111,fun _=>at124,fun _=>at125,fun _=>at127,trivial⟩,?_⟩
         simp only [p3,p4]
         refine tw 154 (adr ((sb bs i (pl R m k)) t) (jj*2)) rfl (fun w' hS=>(rv_idxn (e:=84) hr112 tb_len (by decide) jj (by omega) _ _ _ rfl rfl rfl (by kernel_rfl) (by kernel_rfl))) ?_
         refine te ?_
         replace mr:=((mr.gr stab_fr gd128).gr stab_fr g130).gr stab_fr g132
         refine eff_mws stab_fr mr t jj (by omega) (by omega) (((s2 R m k i t jj t jj)+((-(md R m k i t t k))*(s2 R m k i t jj (pl R m k) jj)))) (.agg #[(.string ⟨(Lib.itoa ((((s2 R m k i t jj t jj)+((-(md R m k i t t k))*(s2 R m k i t jj (pl R m k) jj)))).num):List UInt8).toArray⟩),(.string ⟨(Lib.itoa (((((s2 R m k i t jj t jj)+((-(md R m k i t t k))*(s2 R m k i t jj (pl R m k) jj)))).den:Int)):List UInt8).toArray⟩)]) [(.string ⟨(Lib.itoa ((((s2 R m k i t jj t jj)+((-(md R m k i t t k))*(s2 R m k i t jj (pl R m k) jj)))).num):List UInt8).toArray⟩),(.string ⟨(Lib.itoa (((((s2 R m k i t jj t jj)+((-(md R m k i t t k))*(s2 R m k i t jj (pl R m k) jj)))).den:Int)):List UInt8).toArray⟩)] 84 _ _ rfl rfl rfl rfl rfl (by kernel_rfl) rfl ⟨rfl,rfl,trivial⟩ rfl (by decide) (fun w134 gg134 mr134 st134 kt134 bb134 hn134=>?_)
         replace hB:=st134.gr hB bb134
         replace mr134:=mr134.congr fun a _ b _=>hf.s2_next hnt jj a b
         replace L105:=st134.lc L105 (hn134 _ nob105)
         refine ⟨L105,⟨cameT (by kernel_rfl),cameT (by kernel_rfl),cameT (by kernel_rfl),cameT (by kernel_rfl),trivial⟩,?_⟩
         refine ort_nil ?_
         refine k115 _ _ ?_
         try clear k115 K115
         refine rg [0,1,2] ?_
         refine sv 130 (.int .i64 ((jj:Int))) ?_
         refine sw 131 (.int .i64 (((jj:Int)+1))) rfl (RunV.int (x:=IntKind.i64.wrap (((jj:Int)+1))) (y:=((jj:Int)+1)) (rvk (by kernel_rfl)) (by first | rfl | (rw [IntKind.wrap_i64];omega))) ?_
         refine sv 14 (.int .i64 (((jj:Int)+1))) ?_
         refine sq_nil ?_
         replace ov:=(((ov.gr stab_vs gd128).gr stab_vs g130).gr stab_vs g132).kts stab_vs (fun t hm=>kt134 t (by revert hm;revert t;decide))
         replace hpv:=(((hpv.gr stab_i64 gd128).gr stab_i64 g130).gr stab_i64 g132).kts stab_i64 (fun t hm=>kt134 t (by revert hm;revert t;decide))
         refine k108 (N - (jj+1)) ⟨List.toArray ?l135,[]⟩ _ (by omega) ?_
         exact ⟨jj+1,(fun i=>List.getD ?l135 i undef),rfl,rfl,(by omega),(fun e=>absurd e hnt),ov,mr134,hpv,L105,hB⟩
        ·have hnt:t=pl R m k:=bne_f hb114
         have hj0:jj=0:=hj00 hnt
         refine wp_exit ?_
         simp only [Exit.then,Exit.inBlock,↓reduceIte]
         refine k99 _ _ ?_
         try clear k99 K99
         refine rg [0,1,2] ?_
         refine sv 108 (.int .i64 ((t:Int))) ?_
         refine sw 109 (.int .i64 (((t:Int)+1))) rfl (RunV.int (x:=IntKind.i64.wrap (((t:Int)+1))) (y:=((t:Int)+1)) (rvk (by kernel_rfl)) (by first | rfl | (rw [IntKind.wrap_i64];omega))) ?_
         refine sv 12 (.int .i64 (((t:Int)+1))) ?_
         refine sq_nil ?_
         refine k95 (R - (t+1)) ⟨List.toArray ?l136,[]⟩ _ (by omega) ?_
         exact ⟨t+1,(fun i=>List.getD ?l136 i undef),rfl,rfl,(by omega),ov,(mr.congr fun a _ b _=>by rw [hj0];exact hf.s2_none hnt a b),hpv,hB⟩
       ·have hej:jj=N:=by have:=of_decide_eq_false hb113;omega
        refine swk 125 (.bool false) [(8,126),(9,127),(10,128)] rfl (RunV.bool (x:=decide ((jj:Int)<(N:Int))) (rvk (by kernel_rfl)) hb113) ?_
        refine sv 129 (.bool false) ?_
        refine sq_nil ?_
        refine k110 _ _ ?_
        try clear k110 K110
        refine wp_cond_false rfl ?_
        refine wp_exit ?_
        simp only [Exit.then,Exit.inBlock,↓reduceIte]
        refine k99 _ _ ?_
        try clear k99 K99
        refine rg [0,1,2] ?_
        refine sv 108 (.int .i64 ((t:Int))) ?_
        refine sw 109 (.int .i64 (((t:Int)+1))) rfl (RunV.int (x:=IntKind.i64.wrap (((t:Int)+1))) (y:=((t:Int)+1)) (rvk (by kernel_rfl)) (by first | rfl | (rw [IntKind.wrap_i64];omega))) ?_
        refine sv 12 (.int .i64 (((t:Int)+1))) ?_
        refine sq_nil ?_
        refine k95 (R - (t+1)) ⟨List.toArray ?l137,[]⟩ _ (by omega) ?_
        exact ⟨t+1,(fun i=>List.getD ?l137 i undef),rfl,rfl,(by omega),ov,(mr.congr fun a _ b hb=>by rw [hej];exact s2_end hb a),hpv,hB⟩
      ·have het:R=t:=by have:=of_decide_eq_false hb98;omega
       subst het
       refine wp_exit ?_
       simp only [Exit.then,Exit.inBlock,↓reduceIte]
       refine k93 _ _ ?_
       try clear k93 K93
       refine rg [0,1,2,3,4] ?_
       refine sv 155 vp ?_
       refine sv 156 (.int .i64 ((k:Int))) ?_
       refine se ?_
       refine eff_bs 3 1 #[(.int .i64 ((k:Int)))] (some 157) rfl (fun _=>by kernel_rfl) (fun b138 w138 g138 L138 q138=>?_)
       have nob138:=mr.nob q138
       replace hB:=hB.trans g138
       simp only [putl,p3,p4]
       refine se ?_
       replace hpv:=hpv.gr stab_i64 g138
       refine eff_apg stab_i64 _ _ 30 3 w.heap.size (.int .i64 0) vp (tb (fun z1=>((pv (rs R m k) z1:Nat):Int)) (pl R m k)) b138 [(.int .i64 ((k:Int)))] ((k:Int):Int) 1 1 (some 158) 8 rfl rfl rfl rfl hpv L138 ⟨rfl,trivial⟩ rfl rfl (Below.size hB) (by rw [tb_len];omega) (by decide) (by kernel_rfl) (by kernel_rfl) (by decide) (by decide) (fun v139 w139 ow139 wt139 hg139=>?_)
       replace hB:=hg139 _ hB (Nat.le_refl _)
       replace ow139:=ow139.cast hf.piv
       simp only [putl,p3,p4]
       refine sv 6 v139 ?_
       refine sq_nil ?_
       refine k34 _ _ ?_
       try clear k34 K34
       refine rg [0,1,2] ?_
       refine sv 34 (.int .i64 ((k:Int))) ?_
       refine sw 35 (.int .i64 (((k:Int)+1))) rfl (RunV.int (x:=IntKind.i64.wrap (((k:Int)+1))) (y:=((k:Int)+1)) (rvk (by kernel_rfl)) (by first | rfl | (rw [IntKind.wrap_i64];omega))) ?_
       refine sv 7 (.int .i64 (((k:Int)+1))) ?_
       refine sq_nil ?_
       replace ov:=(ov.gr stab_vs g138).kts stab_vs (wt139.kts (by decide))
       replace mr:=(mr.gr stab_fr g138).kts stab_fr (wt139.kts (by decide))
       refine k29 (N - (k+1)) ⟨List.toArray ?l140,[]⟩ _ (by omega) ?_
       exact ⟨k+1,(sb bs i (pl R m k)),v139,(fun i=>List.getD ?l140 i undef),rfl,rfl,(by omega),ov,(mr.congr fun a ha b _=>md_end ha),ow139,hB⟩
   ·have hei:R=i:=by have:=of_decide_eq_false hb41;omega
    refine swk 43 (.bool false) [(5,44),(6,45),(7,46),(8,47),(9,48),(10,49),(11,50),(12,51)] rfl (RunV.bool (x:=decide ((i:Int)<(R:Int))) (rvk (by kernel_rfl)) hb41) ?_
    refine sv 52 (.bool false) ?_
    refine sq_nil ?_
    refine k40 _ _ ?_
    try clear k40 K40
    refine wp_cond_false rfl ?_
    refine wp_exit ?_
    simp only [Exit.then,Exit.inBlock,↓reduceIte]
    refine k37 _ _ ?_
    try clear k37 K37
    refine wp_seq_k (fun K141 k141=>?_)
    refine wp_seq_k (fun K142 k142=>?_)
    refine rg [0,1,2,3] ?_
    refine sv 55 (.int .i64 ((i:Int))) ?_
    refine sv 56 vo ?_
    refine sw 57 (.int .i64 ((R:Int))) rfl (rv_lenn (e:=51) ov.sl (tb_lenz rfl) _ _ rfl rfl (by kernel_rfl)) ?_
    have hst:rs R m (k+1)=rs R m k:=rs_none fun t h1 h2=>hzz t h1 (by omega)
    have hb143:(((i:Int)==(R:Int)))=true:=(by simp;omega)
    refine sw 58 (.bool true) rfl (RunV.bool (x:=((i:Int)==(R:Int))) (rvk (by kernel_rfl)) hb143) ?_
    refine sq_nil ?_
    refine k142 _ _ ?_
    try clear k142 K142
    refine wp_cond_true rfl ?_
    refine wp_exit ?_
    simp only [Exit.then,Exit.inBlock,↓reduceIte]
    refine k34 _ _ ?_
    try clear k34 K34
    refine rg [0,1,2] ?_
    refine sv 34 (.int .i64 ((k:Int))) ?_
    refine sw 35 (.int .i64 (((k:Int)+1))) rfl (RunV.int (x:=IntKind.i64.wrap (((k:Int)+1))) (y:=((k:Int)+1)) (rvk (by kernel_rfl)) (by first | rfl | (rw [IntKind.wrap_i64];omega))) ?_
    refine sv 7 (.int .i64 (((k:Int)+1))) ?_
    refine sq_nil ?_
    refine k29 (N - (k+1)) ⟨List.toArray ?l144,[]⟩ _ (by omega) ?_
    exact ⟨k+1,bs,vp,(fun i=>List.getD ?l144 i undef),rfl,rfl,(by omega),ov,(by rw [hst];exact mr),(by unfold pl;rw [hst];exact hpv),hB⟩
  ·have hek:N=k:=by have:=of_decide_eq_false hb33;omega
   have hplR:=rs_len R m k
   refine wp_exit ?_
   simp only [Exit.then,Exit.inBlock,↓reduceIte]
   refine k27 _ _ ?_
   try clear k27 K27
   refine wp_seq_k (fun K145 k145=>?_)
   refine rg [0,1,2,3,4,5,6] ?_
   refine sv 159 vo ?_
   refine sv 160 vp ?_
   refine sw 161 (.int .i64 (((pl R m k:Nat):Int))) rfl (rv_lenn (e:=3) hpv.sl (tb_lenz rfl) _ _ rfl rfl (by kernel_rfl)) ?_
   have hs146:=ov.sl.subt (show 0≤(pl R m k) by omega) (show (pl R m k)≤R by omega)
   replace hs146:=hs146.cast (tb_sub0 (f:=bs))
   refine sw 162 (subv vo 0 (pl R m k) 1) rfl (rv_subt (e:=51) ov.sl 0 (pl R m k) (by omega) (by omega) _ _ _ _ rfl rfl (.inl ⟨rfl,rfl⟩) (.inr rfl) (by kernel_rfl) (by kernel_rfl)) ?_
   refine sv 163 vp ?_
   refine sv 2 (subv vo 0 (pl R m k) 1) ?_
   refine sv 3 vp ?_
   refine sq_nil ?_
   refine k145 _ _ ?_
   try clear k145 K145
   refine wp_ret ?_
   refine bodyPost_ret (v:=(.tuple #[(subv vo 0 (pl R m k) 1),vp])) (ret_tmp2 rfl rfl rfl) rfl ⟨?_,hB⟩
   replace ov:=ov.gr stab_vs g32
   replace mr:=mr.gr stab_fr g32
   replace hpv:=hpv.gr stab_i64 g32
   subst hek
   exact ⟨_,_,rfl,(((mr.rows ov).subt (Nat.zero_le _) (rs_len R m N)).cast (tb_sub0 (f:=fun i=>tb (fun j=>(rs R m N).m i j) N))),(hpv.sl)⟩

/-- a fraction,or the zero value -/
def EFo (w:World) (x:Option Rat) (vs:List Value):Prop:=
  match x with
  | none=>vs=[.string ⟨#[]⟩,.string ⟨#[]⟩]
  | some q=>EFr w q vs
theorem stab_fo:Stab EFo []:=fun _ _ x _ _ h=>by cases x<;>exact h
theorem Sl.some {T:TypeId} {c n:Nat} {w:World} {v:Value} {g:Nat→Rat} (h:Sl EFo T c w v (tb (fun k=>some (g k)) n)):Sl EFr T c w v (tb g n):=by
  obtain ⟨ys,h1,h2⟩:=h
  rw [tb_len] at h1
  refine ⟨ys,by rw [tb_len];exact h1,by rw [h2.1,tb_len,tb_len],fun i x hx=>?_⟩
  have hi:i<n:=by have:=(List.getElem?_eq_some_iff.1 hx).1;rwa [tb_len] at this
  rw [tb_get hi] at hx
  obtain rfl:=Option.some.inj hx
  exact h2.2 i (Option.some (g i)) (tb_get (f:=fun k=>Option.some (g k)) hi)
section
variable {R n:Nat} {m:Mx_} {g:Nat→Rat}
theorem sm_only {p i:Nat} {f:Nat→Rat} (hi:i<p) (h:∀ j,j<p→j≠i→f j=0):sm p f=f i:=sm_one hi h
theorem pik_at {t x:Nat} (ht:t<pl R m n) (h:((pv (rs R m n) t:Nat):Int)=(x:Int)):pik R m n g (pl R m n) x=g t:=by
  have e:pv (rs R m n) t=x:=by omega
  unfold pik
  rw [sm_only ht fun j hj hne=>if_neg fun e2=>hne (rs_inj hj ht (e2.trans e.symm)),if_pos e]
theorem pik_no {x:Nat} (h:isP R m n x=false):pik R m n g (pl R m n) x=0:=sm_off fun _ ht=>if_neg (isP_no h ht)
theorem fil_two {α:Type} {F:Nat→α} {d:α} {N k:Nat} {a b:α} (h:k<N) (hx:b=F k):((fil F d N k).set k a).set k b=fil F d N (k+1):=by
  rw [List.set_set];exact fil_set h hx
theorem kv_set {N f:Nat}:(tb (fun z1=>some (pik R m n (fun t=>-(rs R m n).m t f) (pl R m n) z1)) N).set f (some 1)=tb (fun z1=>some (kv (rs R m n) f z1)) N:=by
  rw [set_tb]
  refine tb_congr fun k _=>?_
  by_cases h:k=f
  · rw [if_pos h];unfold kv;rw [if_pos h]
  · rw [if_neg h];unfold kv;rw [if_neg h];rfl
theorem itoa_1n:Lib.itoa (1:Rat).num=([49]:List UInt8):=by decide+kernel
theorem itoa_1d:Lib.itoa ((1:Rat).den:Int)=([49]:List UInt8):=by decide+kernel
theorem efr0 (w:World):EFr w 0 [.string ⟨([48]:List UInt8).toArray⟩,.string ⟨([49]:List UInt8).toArray⟩]:=by unfold EFr;rw [itoa_0n,itoa_0d]
theorem efr1 (w:World):EFr w 1 [.string ⟨([49]:List UInt8).toArray⟩,.string ⟨([49]:List UInt8).toArray⟩]:=by unfold EFr;rw [itoa_1n,itoa_1d]
theorem rs_zero {D:Nat} (hR:R=0):pl R m D=0:=by have:=rs_len R m D;omega
end
end Go.Proofs.YtepgkcimmdmgcaaGreatDoor
