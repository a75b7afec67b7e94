/- Joined of: Gen178, Gen179, Gen174, Gen175, Lt, Gen181, Gen182, Gen184. -/
import Derived.Test.YtepgkcimmdmgcaaGreatDoorPartF
import Derived.Test.YtepgkcimmdmgcaaGreatDoorPartE
namespace Go.Proofs.YtepgkcimmdmgcaaGreatDoor
open Go.RowKit

set_option maxRecDepth 100000 in
set_option maxHeartbeats 1000000 in
theorem l5_line {TT Z:Nat} {v:Value} {ee:Nat→Int × Int} (D:Nat) (_hD:D≤1000) {w:World} (hs:Sl EEn TT 2 w v (tb (fun z1=>(ee z1)) Z)):
    Calls Tryz.prog 25 #[v,(.int .i64 ((D:Int)))] w fun e w'=>(∃ u,e=.returned u∧Sl EFr 84 2 w' u (tb (fun z1=>(en ee Z z1)) D))∧Gr w w':=by
 go_enter Tryz.func25,Tryz.ntmps25
 have hB:=Gr.refl w
 refine wp_seq_k (fun K10 k10=>?_)
 refine rg [0] ?_
 refine sv 4 (.slice none 0 0) ?_
 refine sq_nil ?_
 refine k10 _ _ ?_
 try clear k10 K10
 refine wp_seq_k (fun K11 k11=>?_)
 refine rg [0] ?_
 refine sv 5 (.slice none 0 0) ?_
 refine sq_nil ?_
 refine k11 _ _ ?_
 try clear k11 K11
 refine wp_seq_k (fun K12 k12=>?_)
 refine wp_seq_k (fun K13 k13=>?_)
 refine rg [0] ?_
 refine sv 6 (.int .i64 0) ?_
 refine sq_nil ?_
 refine k13 _ _ ?_
 try clear k13 K13
 refine wp_block ?_
 refine wp_loop_inv (a:=⟨List.toArray ?l14,[]⟩) (fun n a w'=>∃ (k:Nat) (vo:Value) (u14:Nat→Value),D - k=n∧a=⟨[v,(.int .i64 ((D:Int))),undef,undef,(.slice none 0 0),vo,(.int .i64 ((k:Int))),(u14 7),(u14 8),(u14 9),(u14 10),(u14 11),(u14 12),(u14 13),(u14 14),(u14 15),(u14 16),(u14 17),(u14 18),(u14 19),(u14 20),(u14 21),(u14 22),(u14 23),(u14 24),(u14 25),(u14 26),(u14 27),(u14 28),(u14 29),(u14 30),(u14 31),(u14 32),(u14 33),(u14 34),(u14 35),(u14 36),undef].toArray,[]⟩∧k≤D∧Ow EFr 84 2 w' w.heap.size vo (tb (fun z1=>(en ee Z z1)) k)∧Gr w w') (D - 0) ?_ ?_
 ·exact ⟨0,(.slice none 0 0),(fun i=>List.getD ?l14 i undef),rfl,rfl,(Nat.zero_le _),(Ow.nil _ _ _ _ _),hB⟩
 rintro n14 a14 w14 ⟨k,vo,u14,rfl,rfl,hkk,oo,hB⟩ K14 k14
 refine wp_seq_k (fun K15 k15=>?_)
 refine wp_seq_k (fun K16 k16=>?_)
 refine rg [0,1,2] ?_
 refine sv 8 (.int .i64 ((k:Int))) ?_
 refine sv 9 (.int .i64 ((D:Int))) ?_
 refine sv 10 (.bool (decide ((k:Int)<(D:Int)))) ?_
 refine sq_nil ?_
 refine k16 _ _ ?_
 try clear k16 K16
 refine wp_cond_split (t:=decide ((k:Int)<(D:Int))) rfl (fun hb17=>?_) (fun hb17=>?_)
 ·have hlk:k<D:=by have:=of_decide_eq_true hb17;omega
  refine wp_skip ?_
  refine k15 _ _ ?_
  try clear k15 K15
  refine wp_seq_k (fun K18 k18=>?_)
  refine wp_block ?_
  refine wp_seq_k (fun K19 k19=>?_)
  refine rg [0,1,2] ?_
  refine se ?_
  refine ec 13 (f5_of ((0:Int)) ((1:Int)) (by unfold Sz;omega) (by unfold Sz;omega) (by omega) (by omega) (by omega) _) ?_
  rintro e20 w20 ⟨rfl,g20⟩
  refine ⟨_,rfl,?_⟩
  replace hB:=hB.trans g20
  simp only [p3,p4]
  refine se ?_
  refine ea 84 #[(.string ⟨([]:List UInt8).toArray⟩),(.string ⟨([]:List UInt8).toArray⟩)] 7 hB fun b21 w21 g21 L21 o21 q21 hB=>?_
  have qr21:=o21
  simp only [p3,p4]
  refine se ?_
  have lo22:=L21
  refine es 84 0 (.agg #[(.string ⟨(Lib.itoa (((((0:Int):Int):Rat)/(((1:Int):Int):Rat)).num):List UInt8).toArray⟩),(.string ⟨(Lib.itoa ((((((0:Int):Int):Rat)/(((1:Int):Int):Rat)).den:Int)):List UInt8).toArray⟩)]) [(.string ⟨(Lib.itoa (((((0:Int):Int):Rat)/(((1:Int):Int):Rat)).num):List UInt8).toArray⟩),(.string ⟨(Lib.itoa ((((((0:Int):Int):Rat)/(((1:Int):Int):Rat)).den:Int)):List UInt8).toArray⟩)] #[(.string ⟨(Lib.itoa (((((0:Int):Int):Rat)/(((1:Int):Int):Rat)).num):List UInt8).toArray⟩),(.string ⟨(Lib.itoa ((((((0:Int):Int):Rat)/(((1:Int):Int):Rat)).den:Int)):List UInt8).toArray⟩)] L21 hB q21 ⟨rfl,rfl,trivial⟩ fun w22 st22 kp22 L21 hB=>?_
  refine sq_nil ?_
  refine k19 _ _ ?_
  try clear k19 K19
  refine wp_seq_k (fun K23 k23=>?_)
  refine wp_seq_k (fun K24 k24=>?_)
  refine rg [0,1,2,3] ?_
  refine sv 14 (.int .i64 ((k:Int))) ?_
  refine sv 15 v ?_
  refine sw 16 (.int .i64 ((Z:Int))) rfl (rv_lenn (e:=114) hs (tb_lenz rfl) _ _ rfl rfl (by kernel_rfl)) ?_
  refine sv 17 (.bool (decide ((k:Int)<(Z:Int)))) ?_
  refine sq_nil ?_
  refine k24 _ _ ?_
  try clear k24 K24
  refine wp_cond_split (t:=decide ((k:Int)<(Z:Int))) rfl (fun hb25=>?_) (fun hb25=>?_)
  ·have hq26:((k:Int)<(Z:Int)):=of_decide_eq_true hb25
   obtain ⟨_,_,⟨rfl,he32⟩,at32⟩:=Sl.get hs (by decide) (tb_get (f:=(fun z1=>(ee z1))) (n:=Z) (i:=k) (by omega))
   have gd33:=Gr.drew w22
   replace hB:=hB.trans gd33
   refine wp_region_ord (fun w'=>AtV w' v (k*2) [(.int .i8 ((ee k).1)),(.int .u8 ((ee k).2))]) [(true,0),(true,1),(true,2),(true,3),(true,4),(true,5),(true,6),(true,7),(true,8),(true,9),(true,10),(true,11),(true,12),(true,13),(false,14),(false,15)] (by kernel_rfl) (by kernel_rfl) (by kernel_rfl) (by decide) (fun _ _ _ _ _ h=>h) (at32.gr hB) ?_
   refine ov 18 v ?_
   refine ov 19 (.int .i64 ((k:Int))) ?_
   refine ow 20 (adr v (k*2)) rfl (fun w' hS=>(rv_idxn (e:=114) hs tb_len (by decide) k (by omega) _ _ _ rfl rfl rfl (by kernel_rfl) (by kernel_rfl))) ?_
   refine ow 21 (adr v (k*2+0)) rfl (fun w' hS=>(rv_fldk (off:=0) at32 _ _ 0 rfl rfl (by kernel_rfl))) ?_
   refine ow 22 (.int .i8 ((ee k).1)) rfl (fun w' hS=>(rv_ld1 (.int .i8 ((ee k).1)) (AtV.part (i:=0) (us:=[(.int .i8 ((ee k).1))]) hS rfl) _ _ rfl rfl (by kernel_rfl))) ?_
   refine ow 23 (.int .i64 ((ee k).1)) rfl (fun w' hS=>(RunV.int (x:=IntKind.i64.wrap ((ee k).1)) (y:=(ee k).1) (rvk (by kernel_rfl)) (by first | rfl | (rw [IntKind.wrap_i64];omega)))) ?_
   refine ov 24 v ?_
   refine ov 25 (.int .i64 ((k:Int))) ?_
   refine ow 26 (adr v (k*2)) rfl (fun w' hS=>(rv_idxn (e:=114) hs tb_len (by decide) k (by omega) _ _ _ rfl rfl rfl (by kernel_rfl) (by kernel_rfl))) ?_
   refine ow 27 (adr v (k*2+1)) rfl (fun w' hS=>(rv_fldk (off:=1) at32 _ _ 1 rfl rfl (by kernel_rfl))) ?_
   refine ow 28 (.int .u8 ((ee k).2)) rfl (fun w' hS=>(rv_ld1 (.int .u8 ((ee k).2)) (AtV.part (i:=1) (us:=[(.int .u8 ((ee k).2))]) hS rfl) _ _ rfl rfl (by kernel_rfl))) ?_
   refine ow 29 (.int .u8 (((ee k).2 % 6))) rfl (fun w' hS=>(RunV.int (x:=Int.tmod ((ee k).2) 6) (y:=(ee k).2 % 6) (rvk (by kernel_rfl)) (by rw [Int.tmod_eq_emod_of_nonneg (by first | omega | exact Int.natCast_nonneg _)]))) ?_
   refine ow 30 (.int .i64 (((ee k).2 % 6))) rfl (fun w' hS=>(RunV.int (x:=IntKind.i64.wrap (((ee k).2 % 6))) (y:=((ee k).2 % 6)) (rvk (by kernel_rfl)) (by first | rfl | (rw [IntKind.wrap_i64];omega)))) ?_
   refine ow 31 (.int .i64 ((1+((ee k).2 % 6)))) rfl (fun w' hS=>(RunV.int (x:=IntKind.i64.wrap ((1+((ee k).2 % 6)))) (y:=(1+((ee k).2 % 6))) (rvk (by kernel_rfl)) (by first | rfl | (rw [IntKind.wrap_i64];omega)))) ?_
   refine oe ?_
   refine ec 32 (f5_of ((ee k).1) ((1+((ee k).2 % 6))) (by unfold Sz;omega) (by unfold Sz;omega) (by omega) (by omega) (by omega) _) ?_
   rintro e35 w35 ⟨rfl,g35⟩
   refine ⟨_,rfl,?_⟩
   replace hB:=hB.trans g35
   refine ⟨(at32.gr hB),?_⟩
   simp only [p3,p4]
   refine oe ?_
   replace L21:=L21.gr (gd33.trans g35)
   have lo37:=L21
   refine es 84 0 (.agg #[(.string ⟨(Lib.itoa (((((ee k).1:Int):Rat)/(((1+((ee k).2 % 6)):Int):Rat)).num):List UInt8).toArray⟩),(.string ⟨(Lib.itoa ((((((ee k).1:Int):Rat)/(((1+((ee k).2 % 6)):Int):Rat)).den:Int)):List UInt8).toArray⟩)]) [(.string ⟨(Lib.itoa (((((ee k).1:Int):Rat)/(((1+((ee k).2 % 6)):Int):Rat)).num):List UInt8).toArray⟩),(.string ⟨(Lib.itoa ((((((ee k).1:Int):Rat)/(((1+((ee k).2 % 6)):Int):Rat)).den:Int)):List UInt8).toArray⟩)] #[(.string ⟨(Lib.itoa (((((ee k).1:Int):Rat)/(((1+((ee k).2 % 6)):Int):Rat)).num):List UInt8).toArray⟩),(.string ⟨(Lib.itoa ((((((ee k).1:Int):Rat)/(((1+((ee k).2 % 6)):Int):Rat)).den:Int)):List UInt8).toArray⟩)] L21 hB q21 ⟨rfl,rfl,trivial⟩ fun w37 st37 kp37 L21 hB=>?_
   refine ⟨(at32.gr hB),?_⟩
   refine ord_nil ?_
   refine k23 _ _ ?_
   try clear k23 K23
   refine rg [0,1,2,3,4] ?_
   refine sv 33 vo ?_
   refine sw 34 (.agg #[(.string ⟨(Lib.itoa (((((ee k).1:Int):Rat)/(((1+((ee k).2 % 6)):Int):Rat)).num):List UInt8).toArray⟩),(.string ⟨(Lib.itoa ((((((ee k).1:Int):Rat)/(((1+((ee k).2 % 6)):Int):Rat)).den:Int)):List UInt8).toArray⟩)]) rfl (rl 84 0 [(.string ⟨(Lib.itoa (((((ee k).1:Int):Rat)/(((1+((ee k).2 % 6)):Int):Rat)).num):List UInt8).toArray⟩),(.string ⟨(Lib.itoa ((((((ee k).1:Int):Rat)/(((1+((ee k).2 % 6)):Int):Rat)).den:Int)):List UInt8).toArray⟩)] L21) ?_
   refine se ?_
   refine eff_bs 84 1 #[(.string ⟨(Lib.itoa (((((ee k).1:Int):Rat)/(((1+((ee k).2 % 6)):Int):Rat)).num):List UInt8).toArray⟩),(.string ⟨(Lib.itoa ((((((ee k).1:Int):Rat)/(((1+((ee k).2 % 6)):Int):Rat)).den:Int)):List UInt8).toArray⟩)] (some 35) rfl (fun _=>by kernel_rfl) (fun b38 w38 g38 L38 q38=>?_)
   have qr38:=q38
   replace hB:=hB.trans g38
   simp only [putl,p3,p4]
   refine se ?_
   replace oo:=oo.gr stab_fr ((st37.gr (((st22.gr (g20.trans g21) (Nat.le_trans (Below.size g20) qr21)).trans gd33).trans g35) (Nat.le_trans (Below.size g20) qr21)).trans g38)
   refine eff_apg stab_fr _ _ 51 84 w.heap.size (.agg #[(.string ⟨([]:List UInt8).toArray⟩),(.string ⟨([]:List UInt8).toArray⟩)]) vo (tb (fun z1=>(en ee Z z1)) k) b38 [(.string ⟨(Lib.itoa (((((ee k).1:Int):Rat)/(((1+((ee k).2 % 6)):Int):Rat)).num):List UInt8).toArray⟩),(.string ⟨(Lib.itoa ((((((ee k).1:Int):Rat)/(((1+((ee k).2 % 6)):Int):Rat)).den:Int)):List UInt8).toArray⟩)] ((((ee k).1:Int):Rat)/(((1+((ee k).2 % 6)):Int):Rat)) 2 1 (some 36) 32 rfl rfl rfl rfl oo L38 ⟨rfl,rfl,trivial⟩ rfl rfl (Below.size hB) (by rw [tb_len];omega) (by decide) (by kernel_rfl) (by kernel_rfl) (by decide) (by decide) (fun v39 w39 ow39 wt39 hg39=>?_)
   replace hB:=hg39 _ hB (Nat.le_refl _)
   replace ow39:=ow39.cast (tb_snoc (f:=(fun z1=>(en ee Z z1))) (n:=k) (en_in (by omega)))
   simp only [putl,p3,p4]
   refine sv 5 v39 ?_
   refine sq_nil ?_
   refine k18 _ _ ?_
   try clear k18 K18
   refine rg [0,1,2] ?_
   refine sv 11 (.int .i64 ((k:Int))) ?_
   refine sw 12 (.int .i64 (((k:Int)+1))) rfl (RunV.int (x:=IntKind.i64.wrap (((k:Int)+1))) (y:=((k:Int)+1)) (rvk (by kernel_rfl)) (by first | rfl | (rw [IntKind.wrap_i64];omega))) ?_
   refine sv 6 (.int .i64 (((k:Int)+1))) ?_
   refine sq_nil ?_
   refine k14 (D - (k+1)) ⟨List.toArray ?l40,[]⟩ _ (by omega) ?_
   exact ⟨k+1,v39,(fun i=>List.getD ?l40 i undef),rfl,rfl,(by omega),ow39,hB⟩
  ·have hq41:¬ ((k:Int)<(Z:Int)):=of_decide_eq_false hb25
   refine wp_skip ?_
   refine k23 _ _ ?_
   try clear k23 K23
   refine rg [0,1,2,3,4] ?_
   refine sv 33 vo ?_
   refine sw 34 (.agg #[(.string ⟨(Lib.itoa (((((0:Int):Int):Rat)/(((1:Int):Int):Rat)).num):List UInt8).toArray⟩),(.string ⟨(Lib.itoa ((((((0:Int):Int):Rat)/(((1:Int):Int):Rat)).den:Int)):List UInt8).toArray⟩)]) rfl (rl 84 0 [(.string ⟨(Lib.itoa (((((0:Int):Int):Rat)/(((1:Int):Int):Rat)).num):List UInt8).toArray⟩),(.string ⟨(Lib.itoa ((((((0:Int):Int):Rat)/(((1:Int):Int):Rat)).den:Int)):List UInt8).toArray⟩)] L21) ?_
   refine se ?_
   refine eff_bs 84 1 #[(.string ⟨(Lib.itoa (((((0:Int):Int):Rat)/(((1:Int):Int):Rat)).num):List UInt8).toArray⟩),(.string ⟨(Lib.itoa ((((((0:Int):Int):Rat)/(((1:Int):Int):Rat)).den:Int)):List UInt8).toArray⟩)] (some 35) rfl (fun _=>by kernel_rfl) (fun b42 w42 g42 L42 q42=>?_)
   have qr42:=q42
   replace hB:=hB.trans g42
   simp only [putl,p3,p4]
   refine se ?_
   replace oo:=oo.gr stab_fr ((st22.gr (g20.trans g21) (Nat.le_trans (Below.size g20) qr21)).trans g42)
   refine eff_apg stab_fr _ _ 51 84 w.heap.size (.agg #[(.string ⟨([]:List UInt8).toArray⟩),(.string ⟨([]:List UInt8).toArray⟩)]) vo (tb (fun z1=>(en ee Z z1)) k) b42 [(.string ⟨(Lib.itoa (((((0:Int):Int):Rat)/(((1:Int):Int):Rat)).num):List UInt8).toArray⟩),(.string ⟨(Lib.itoa ((((((0:Int):Int):Rat)/(((1:Int):Int):Rat)).den:Int)):List UInt8).toArray⟩)] ((((0:Int):Int):Rat)/(((1:Int):Int):Rat)) 2 1 (some 36) 32 rfl rfl rfl rfl oo L42 ⟨rfl,rfl,trivial⟩ rfl rfl (Below.size hB) (by rw [tb_len];omega) (by decide) (by kernel_rfl) (by kernel_rfl) (by decide) (by decide) (fun v43 w43 ow43 wt43 hg43=>?_)
   replace hB:=hg43 _ hB (Nat.le_refl _)
   replace ow43:=ow43.cast (tb_snoc (f:=(fun z1=>(en ee Z z1))) (n:=k) (en_out (by omega)))
   simp only [putl,p3,p4]
   refine sv 5 v43 ?_
   refine sq_nil ?_
   refine k18 _ _ ?_
   try clear k18 K18
   refine rg [0,1,2] ?_
   refine sv 11 (.int .i64 ((k:Int))) ?_
   refine sw 12 (.int .i64 (((k:Int)+1))) rfl (RunV.int (x:=IntKind.i64.wrap (((k:Int)+1))) (y:=((k:Int)+1)) (rvk (by kernel_rfl)) (by first | rfl | (rw [IntKind.wrap_i64];omega))) ?_
   refine sv 6 (.int .i64 (((k:Int)+1))) ?_
   refine sq_nil ?_
   refine k14 (D - (k+1)) ⟨List.toArray ?l44,[]⟩ _ (by omega) ?_
   exact ⟨k+1,v43,(fun i=>List.getD ?l44 i undef),rfl,rfl,(by omega),ow43,hB⟩
 ·have hek:D=k:=by have:=of_decide_eq_false hb17;omega
  subst hek
  refine wp_exit ?_
  simp only [Exit.then,Exit.inBlock,↓reduceIte]
  refine k12 _ _ ?_
  try clear k12 K12
  refine wp_seq_k (fun K45 k45=>?_)
  refine rg [0,1] ?_
  refine sv 37 vo ?_
  refine sv 4 vo ?_
  refine sq_nil ?_
  refine k45 _ _ ?_
  try clear k45 K45
  refine wp_ret ?_
  refine bodyPost_ret (v:=vo) (ret_tmp rfl rfl) rfl ⟨?_,hB⟩
  exact ⟨_,rfl,(oo.sl)⟩

set_option maxRecDepth 100000 in
set_option maxHeartbeats 1000000 in
theorem l5_rows {TQ Z R cc:Nat} {v:Value} {ee:Nat→Nat→Int × Int} {zl:Nat→Nat} (_hR:R=min Z 5) (_hc:cc≤255) {w:World} (hs:Sl (ESl EEn 2) TQ 1 w v (tb (fun z0=>tb (ee z0) (zl z0)) Z)):
    Calls Tryz.prog 13 #[(.agg #[(.int .u8 ((cc:Int))),v])] w fun e w'=>(∃ u,e=.returned u∧Sl (ERw EFr 84 2) 51 1 w' u (tb (fun z0=>tb (fun z1=>(en (ee z0) (zl z0) z1)) (cc % 7)) R))∧Gr w w':=by
 go_enter Tryz.func13,Tryz.ntmps13
 have hB:=Gr.refl w
 refine wp_seq_k (fun K10 k10=>?_)
 refine rg [0,1] ?_
 refine se ?_
 refine eb 24 #[(.int .u8 ((cc:Int))),v] 1 hB fun b11 w11 g11 L11 o11 q11 hB=>?_
 simp only [p3,p4]
 refine sv 2 (.slice none 0 0) ?_
 refine sq_nil ?_
 refine k10 _ _ ?_
 try clear k10 K10
 refine wp_seq_k (fun K12 k12=>?_)
 refine rg [0] ?_
 refine sv 3 (.slice none 0 0) ?_
 refine sq_nil ?_
 refine k12 _ _ ?_
 try clear k12 K12
 refine wp_seq_k (fun K13 k13=>?_)
 refine wp_seq_k (fun K14 k14=>?_)
 refine rg [0] ?_
 refine sv 4 (.int .i64 0) ?_
 refine sq_nil ?_
 refine k14 _ _ ?_
 try clear k14 K14
 refine wp_block ?_
 refine wp_loop_inv (a:=⟨List.toArray ?l15,[]⟩) (fun n a w'=>∃ (i:Nat) (vo:Value) (u15:Nat→Value),R - i=n∧a=⟨[(.agg #[(.int .u8 ((cc:Int))),v]),(.pointer (some ⟨b11,0,none⟩)),(.slice none 0 0),vo,(.int .i64 ((i:Int))),(u15 5),(u15 6),(u15 7),(u15 8),(u15 9),(u15 10),(u15 11),(u15 12),(u15 13),(u15 14),(u15 15),(u15 16),(u15 17),(u15 18),(u15 19),(u15 20),(u15 21),(u15 22),(u15 23),(u15 24),(u15 25),(u15 26),(u15 27),(u15 28),undef].toArray,[]⟩∧i≤R∧Ow (ERw EFr 84 2) 51 1 w' w.heap.size vo (tb (fun z0=>tb (fun z1=>(en (ee z0) (zl z0) z1)) (cc % 7)) i)∧Lc w' b11 #[(.int .u8 ((cc:Int))),v] 24∧Gr w w') (R - 0) ?_ ?_
 ·exact ⟨0,(.slice none 0 0),(fun i=>List.getD ?l15 i undef),rfl,rfl,(Nat.zero_le _),(Ow.nil _ _ _ _ _),L11,hB⟩
 rintro n15 a15 w15 ⟨i,vo,u15,rfl,rfl,hki,oo,L11,hB⟩ K15 k15
 refine wp_seq_k (fun K16 k16=>?_)
 refine wp_seq_k (fun K17 k17=>?_)
 refine rg [0,1,2,3,4,5,6,7,8] ?_
 refine sv 5 (.int .i64 ((i:Int))) ?_
 refine sv 6 (.pointer (some ⟨b11,1,none⟩)) ?_
 refine sw 7 v rfl (rk 22 1 L11) ?_
 refine sw 8 (.int .i64 ((Z:Int))) rfl (rv_lenn (e:=45) hs (tb_lenz rfl) _ _ rfl rfl (by kernel_rfl)) ?_
 refine sv 9 (.bool (decide ((i:Int)<(Z:Int)))) ?_
 rcases Bool.eq_false_or_eq_true (decide ((i:Int)<(Z:Int))) with hb18 | hb18
 ·have hlz:i<Z:=by have:=of_decide_eq_true hb18;omega
  refine sw 10 (.bool true) rfl (RunV.bool (x:=decide ((i:Int)<(Z:Int))) (rvk (by kernel_rfl)) hb18) ?_
  refine sv 11 (.int .i64 ((i:Int))) ?_
  refine sv 12 (.bool (decide ((i:Int)<(5:Int)))) ?_
  refine sv 13 (.bool (decide ((i:Int)<(5:Int)))) ?_
  refine sq_nil ?_
  refine k17 _ _ ?_
  try clear k17 K17
  refine wp_cond_split (t:=decide ((i:Int)<(5:Int))) rfl (fun hb19=>?_) (fun hb19=>?_)
  ·have hli:i<R:=by have:=of_decide_eq_true hb19;omega
   refine wp_skip ?_
   refine k16 _ _ ?_
   try clear k16 K16
   refine wp_seq_k (fun K20 k20=>?_)
   refine wp_block ?_
   obtain ⟨_,_,⟨u28,TT28,rfl,hr28⟩,at28⟩:=Sl.get hs (by decide) (tb_get (f:=(fun z0=>tb (ee z0) (zl z0))) (n:=Z) (i:=i) (by omega))
   have gd29:=Gr.drew w15
   replace hB:=hB.trans gd29
   replace L11:=L11.gr gd29
   refine wp_region_ord (fun w'=>Lc w' b11 #[(.int .u8 ((cc:Int))),v] 24∧AtV w' v (i*1) [u28]) [(true,0),(true,1),(true,2),(true,3),(true,4),(true,5),(true,6),(true,7),(true,8),(true,9),(false,10),(false,11),(false,12),(true,13)] (by kernel_rfl) (by kernel_rfl) (by kernel_rfl) (by decide) (fun _ _ _ _ _ h=>h) ⟨L11,(at28.gr hB)⟩ ?_
   refine ov 16 vo ?_
   refine ov 17 (.pointer (some ⟨b11,1,none⟩)) ?_
   refine ow 18 v rfl (fun w' hS=>(rk 22 1 hS.1)) ?_
   refine ov 19 (.int .i64 ((i:Int))) ?_
   refine ow 20 (adr v (i*1)) rfl (fun w' hS=>(rv_idxn (e:=45) hs tb_len (by decide) i (by omega) _ _ _ rfl rfl rfl (by kernel_rfl) (by kernel_rfl))) ?_
   refine ow 21 u28 rfl (fun w' hS=>(rv_ld1 u28 hS.2 _ _ rfl rfl (by kernel_rfl))) ?_
   refine ov 22 (.pointer (some ⟨b11,0,none⟩)) ?_
   refine ow 23 (.int .u8 ((cc:Int))) rfl (fun w' hS=>(rk 5 0 hS.1)) ?_
   refine ow 24 (.int .u8 (((cc % 7:Nat):Int))) rfl (fun w' hS=>(RunV.int (x:=Int.tmod (cc:Int) 7) (y:=((cc % 7:Nat):Int)) (rvk (by kernel_rfl)) (by rw [Int.tmod_eq_emod_of_nonneg (Int.natCast_nonneg _)];omega))) ?_
   refine ow 25 (.int .i64 (((cc % 7:Nat):Int))) rfl (fun w' hS=>(RunV.int (x:=IntKind.i64.wrap (((cc % 7:Nat):Int))) (y:=((cc % 7:Nat):Int)) (rvk (by kernel_rfl)) (by first | rfl | (rw [IntKind.wrap_i64];omega)))) ?_
   refine oe ?_
   refine ec 26 (l5_line (cc % 7) (by omega) (hr28.gr stab_en hB)) ?_
   rintro e31 w31 ⟨⟨u31,rfl,hs31⟩,g31⟩
   refine ⟨_,rfl,?_⟩
   replace hB:=hB.trans g31
   replace L11:=L11.gr g31
   refine ⟨⟨L11,(at28.gr hB)⟩,?_⟩
   simp only [p3,p4]
   refine oe ?_
   refine eff_bs1 26 51 u31 (some 27) rfl rfl rfl hs31.forms (fun _ _ _ _=>by kernel_rfl) (fun b33 w33 g33 L33 q33=>?_)
   replace hB:=hB.trans g33
   replace L11:=L11.gr g33
   refine ⟨⟨L11,(at28.gr hB)⟩,?_⟩
   simp only [putl,p3,p4]
   refine oe ?_
   replace hs31:=hs31.gr stab_fr g33
   replace oo:=oo.gr (stab_rw stab_fr 84 2) (gd29.trans (g31.trans g33))
   refine eff_apg (stab_rw stab_fr 84 2) _ _ 26 51 w.heap.size (.slice none 0 0) vo (tb (fun z0=>tb (fun z1=>(en (ee z0) (zl z0) z1)) (cc % 7)) i) b33 [u31] (tb (fun z1=>(en (ee i) (zl i) z1)) (cc % 7)) 1 1 (some 28) 24 rfl rfl rfl rfl oo L33 ⟨hs31.one,trivial⟩ rfl ⟨_,rfl,hs31⟩ (Below.size hB) (by rw [tb_len];omega) (by decide) (by kernel_rfl) (by kernel_rfl) (by decide) (by decide) (fun v35 w35 ow35 wt35 hg35=>?_)
   replace hB:=hg35 _ hB (Nat.le_refl _)
   replace ow35:=ow35.cast (tb_snoc (f:=(fun z0=>tb (fun z1=>(en (ee z0) (zl z0) z1)) (cc % 7))) (n:=i) (by first | rfl | exact fil_all))
   replace L11:=wt35.lc L11 (by decide)
   refine ⟨⟨L11,(at28.gr hB)⟩,?_⟩
   simp only [putl,p3,p4]
   refine ov 3 v35 ?_
   refine ord_nil ?_
   refine k20 _ _ ?_
   try clear k20 K20
   refine rg [0,1,2] ?_
   refine sv 14 (.int .i64 ((i:Int))) ?_
   refine sw 15 (.int .i64 (((i:Int)+1))) rfl (RunV.int (x:=IntKind.i64.wrap (((i:Int)+1))) (y:=((i:Int)+1)) (rvk (by kernel_rfl)) (by first | rfl | (rw [IntKind.wrap_i64];omega))) ?_
   refine sv 4 (.int .i64 (((i:Int)+1))) ?_
   refine sq_nil ?_
   refine k15 (R - (i+1)) ⟨List.toArray ?l36,[]⟩ _ (by omega) ?_
   exact ⟨i+1,v35,(fun i=>List.getD ?l36 i undef),rfl,rfl,(by omega),ow35,L11,hB⟩
  ·have heR:R=i:=by have:=of_decide_eq_false hb19;omega
   refine wp_exit ?_
   simp only [Exit.then,Exit.inBlock,↓reduceIte]
   refine k13 _ _ ?_
   try clear k13 K13
   refine wp_seq_k (fun K37 k37=>?_)
   refine rg [0,1] ?_
   refine sv 29 vo ?_
   refine sv 2 vo ?_
   refine sq_nil ?_
   refine k37 _ _ ?_
   try clear k37 K37
   refine wp_ret ?_
   refine bodyPost_ret (v:=vo) (ret_tmp rfl rfl) rfl ⟨?_,hB⟩
   exact (by subst heR;exact ⟨_,rfl,(oo.sl)⟩)
 ·have heR:R=i:=by have:=of_decide_eq_false hb18;omega
  refine sw 10 (.bool false) rfl (RunV.bool (x:=decide ((i:Int)<(Z:Int))) (rvk (by kernel_rfl)) hb18) ?_
  refine ss 11 ?_
  refine ss 12 ?_
  refine sv 13 (.bool false) ?_
  refine sq_nil ?_
  refine k17 _ _ ?_
  try clear k17 K17
  refine wp_cond_false rfl ?_
  refine wp_exit ?_
  simp only [Exit.then,Exit.inBlock,↓reduceIte]
  refine k13 _ _ ?_
  try clear k13 K13
  refine wp_seq_k (fun K38 k38=>?_)
  refine rg [0,1] ?_
  refine sv 29 vo ?_
  refine sv 2 vo ?_
  refine sq_nil ?_
  refine k38 _ _ ?_
  try clear k38 K38
  refine wp_ret ?_
  refine bodyPost_ret (v:=vo) (ret_tmp rfl rfl) rfl ⟨?_,hB⟩
  exact (by subst heR;exact ⟨_,rfl,(oo.sl)⟩)

theorem wid_0 {R i:Nat} {m:Mx_}:tb (fun z1=>(m i z1)) R=tb (fun z1=>(wid R m i z1)) (R+0):=tb_congr fun c hc=>by unfold wid;rw [if_pos hc]
theorem wid_1 {R i kk:Nat} {m:Mx_} (h:i=kk):(1:Rat)=wid R m i (R+kk):=by subst h;unfold wid;rw [if_neg (by omega),if_pos rfl]
theorem wid_n {R i kk:Nat} {m:Mx_} (h:¬ i=kk):(0:Rat)=wid R m i (R+kk):=by unfold wid;rw [if_neg (by omega),if_neg (by omega)]
theorem all_succ3 {i:Nat} {p:Nat→Prop} (h:∀ t,t<i→p t) (hi:p i):∀ t,t<i+1→p t:=fun t ht=>by
  rcases Nat.lt_or_eq_of_le (Nat.le_of_lt_succ ht) with h1 | rfl
  · exact h t h1
  · exact hi
set_option maxRecDepth 100000 in
set_option maxHeartbeats 1000000 in
theorem f5_inverse_y {K R:Nat} {v:Value} {m:Mx_} (_hR2:R≤400) (hK:4*K≤19990) (hz:∀ k i,k<R+R→Fd R (wid R m) k i→∀ a,a<R→∀ b,b<R+R→RZ K K ((rs R (wid R m) k).m a b)) (hok:(∀ t,t<R→(t<(pl R (wid R m) (R+R))∧(pv (rs R (wid R m) (R+R)) t)=t))) {w:World} (hs:Sl (ERw EFr 84 2) 51 1 w v (tb (fun z0=>tb (fun z1=>(m z0 z1)) R) R)):
    Calls Tryz.prog 43 #[v] w fun e w'=>(∃ u,e=.returned (.tuple #[u,.bool true])∧Sl (ERw EFr 84 2) 51 1 w' u (tb (fun z0=>tb (fun z1=>((rs R (wid R m) (R+R)).m z0 (R+z1))) R) R))∧Gr w w':=by
 go_enter Tryz.func43,Tryz.ntmps43
 have hB:=Gr.refl w
 refine wp_seq_k (fun K10 k10=>?_)
 refine rg [0,1] ?_
 refine sv 2 (.slice none 0 0) ?_
 refine sv 3 (.bool false) ?_
 refine sq_nil ?_
 refine k10 _ _ ?_
 try clear k10 K10
 refine wp_seq_k (fun K11 k11=>?_)
 refine rg [0] ?_
 refine sv 4 (.slice none 0 0) ?_
 refine sq_nil ?_
 refine k11 _ _ ?_
 try clear k11 K11
 refine wp_seq_k (fun K12 k12=>?_)
 refine wp_seq_k (fun K13 k13=>?_)
 refine rg [0] ?_
 refine sv 5 (.int .i64 0) ?_
 refine sq_nil ?_
 refine k13 _ _ ?_
 try clear k13 K13
 refine wp_block ?_
 refine wp_loop_inv (a:=⟨List.toArray ?l14,[]⟩) (fun n a w'=>∃ (i:Nat) (vo:Value) (u14:Nat→Value),R - i=n∧a=⟨[v,undef,(.slice none 0 0),(.bool false),vo,(.int .i64 ((i:Int))),(u14 6),(u14 7),(u14 8),undef,undef,undef,undef,(u14 13),(u14 14),(u14 15),(u14 16),(u14 17),(u14 18),(u14 19),(u14 20),(u14 21),(u14 22),(u14 23),(u14 24),(u14 25),(u14 26),(u14 27),(u14 28),(u14 29),(u14 30),(u14 31),(u14 32),(u14 33),(u14 34),(u14 35),(u14 36),(u14 37),(u14 38),(u14 39),(u14 40),(u14 41),(u14 42),(u14 43),undef,undef,undef,undef,undef,undef,undef,undef,undef,undef,undef,undef,undef,undef,undef,undef,undef,undef,undef,undef,undef,undef,undef,undef,undef,undef,undef,undef,undef,undef,undef,undef,undef,undef].toArray,[]⟩∧i≤R∧Ow (ERw EFr 84 2) 51 1 w' w.heap.size vo (tb (fun z0=>tb (fun z1=>(wid R m z0 z1)) (R+R)) i)∧Gr w w') (R - 0) ?_ ?_
 ·exact ⟨0,(.slice none 0 0),(fun i=>List.getD ?l14 i undef),rfl,rfl,(Nat.zero_le _),(Ow.nil _ _ _ _ _),hB⟩
 rintro n14 a14 w14 ⟨i,vo,u14,rfl,rfl,hki,oo,hB⟩ K14 k14
 have lehC:=Below.size hB
 have hC:=Gr.refl w14
 refine wp_seq_k (fun K15 k15=>?_)
 refine wp_seq_k (fun K16 k16=>?_)
 refine rg [0,1,2,3] ?_
 refine sv 13 (.int .i64 ((i:Int))) ?_
 refine sv 14 v ?_
 refine sw 15 (.int .i64 ((R:Int))) rfl (rv_lenn (e:=51) hs (tb_lenz rfl) _ _ rfl rfl (by kernel_rfl)) ?_
 refine sv 16 (.bool (decide ((i:Int)<(R:Int)))) ?_
 refine sq_nil ?_
 refine k16 _ _ ?_
 try clear k16 K16
 refine wp_cond_split (t:=decide ((i:Int)<(R:Int))) rfl (fun hb17=>?_) (fun hb17=>?_)
 ·have hli:i<R:=by have:=of_decide_eq_true hb17;omega
  refine wp_skip ?_
  refine k15 _ _ ?_
  try clear k15 K15
  refine wp_seq_k (fun K18 k18=>?_)
  refine wp_block ?_
  refine wp_seq_k (fun K19 k19=>?_)
  refine rg [0,1,2,3,4,5,6] ?_
  refine se ?_
  refine eff_bs 84 0 #[] (some 19) rfl (fun _=>by kernel_rfl) (fun b20 w20 g20 L20 q20=>?_)
  have qr20:=q20
  have q20_hC:=Nat.le_trans (Below.size hC) q20
  replace hB:=hB.trans g20
  replace hC:=hC.trans g20
  simp only [putl,p3,p4]
  refine sv 20 v ?_
  refine sv 21 (.int .i64 ((i:Int))) ?_
  refine sw 22 (adr v (i*1)) rfl (rv_idxn (e:=51) hs tb_len (by decide) i (by omega) _ _ _ rfl rfl rfl (by kernel_rfl) (by kernel_rfl)) ?_
  obtain ⟨_,_,⟨u21,rfl,hr21⟩,at21⟩:=Sl.get hs (by decide) (tb_get (f:=(fun z0=>tb (fun z1=>(m z0 z1)) R)) (n:=R) (i:=i) (by omega))
  refine sw 23 u21 rfl (rv_ld1 u21 (at21.gr hB) _ _ rfl rfl (by kernel_rfl)) ?_
  refine se ?_
  refine eff_aps stab_fr _ _ 51 84 w14.heap.size 84 (.agg #[(.string ⟨([]:List UInt8).toArray⟩),(.string ⟨([]:List UInt8).toArray⟩)]) (.slice (some ⟨b20,0,none⟩) 0 0) ([]:List Rat) u21 (tb (fun z1=>(m i z1)) R) 2 (some 24) 32 rfl rfl rfl rfl (ow_empty (E:=EFr) (c:=2) (B:=w14.heap.size) L20 q20_hC) (hr21.gr stab_fr hB) (one_fr _) (Below.size hC) (by simp only [List.length_nil,tb_len];omega) (by decide) (by kernel_rfl) (by kernel_rfl) (by decide) (by decide) (fun v22 w22 ow22 wt22 hg22 ag22=>?_)
  replace hB:=hg22 _ hB lehC
  replace hC:=hg22 _ hC (Nat.le_refl _)
  replace ow22:=ow22.cast (List.nil_append _)
  simp only [putl,p3,p4]
  refine sv 6 v22 ?_
  refine sq_nil ?_
  refine k19 _ _ ?_
  try clear k19 K19
  refine wp_seq_k (fun K23 k23=>?_)
  refine wp_seq_k (fun K24 k24=>?_)
  refine rg [0] ?_
  refine sv 7 (.int .i64 0) ?_
  refine sq_nil ?_
  refine k24 _ _ ?_
  try clear k24 K24
  refine wp_block ?_
  refine wp_loop_inv (a:=⟨List.toArray ?l25,[]⟩) (fun n a w'=>∃ (kk:Nat) (vr:Value) (u25:Nat→Value),R - kk=n∧a=⟨[v,undef,(.slice none 0 0),(.bool false),vo,(.int .i64 ((i:Int))),vr,(.int .i64 ((kk:Int))),(u25 8),undef,undef,undef,undef,(u25 13),(u25 14),(u25 15),(.bool (decide ((i:Int)<(R:Int)))),(u25 17),(u25 18),(u25 19),(u25 20),(u25 21),(u25 22),(u25 23),(u25 24),(u25 25),(u25 26),(u25 27),(u25 28),(u25 29),(u25 30),(u25 31),(u25 32),(u25 33),(u25 34),(u25 35),(u25 36),(u25 37),(u25 38),(u25 39),(u25 40),(u25 41),(u25 42),(u25 43),undef,undef,undef,undef,undef,undef,undef,undef,undef,undef,undef,undef,undef,undef,undef,undef,undef,undef,undef,undef,undef,undef,undef,undef,undef,undef,undef,undef,undef,undef,undef,undef,undef,undef].toArray,[]⟩∧kk≤R∧Ow EFr 84 2 w' w14.heap.size vr (tb (fun z1=>(wid R m i z1)) (R+kk))∧Gr w14 w'∧Gr w w') (R - 0) ?_ ?_
  ·exact ⟨0,v22,(fun i=>List.getD ?l25 i undef),rfl,rfl,(Nat.zero_le _),(ow22.cast wid_0),hC,hB⟩
  rintro n25 a25 w25 ⟨kk,vr,u25,rfl,rfl,hkk,orr,hC,hB⟩ K25 k25
  refine wp_seq_k (fun K26 k26=>?_)
  refine wp_seq_k (fun K27 k27=>?_)
  refine rg [0,1,2,3] ?_
  refine sv 25 (.int .i64 ((kk:Int))) ?_
  refine sv 26 v ?_
  refine sw 27 (.int .i64 ((R:Int))) rfl (rv_lenn (e:=51) hs (tb_lenz rfl) _ _ rfl rfl (by kernel_rfl)) ?_
  refine sv 28 (.bool (decide ((kk:Int)<(R:Int)))) ?_
  refine sq_nil ?_
  refine k27 _ _ ?_
  try clear k27 K27
  refine wp_cond_split (t:=decide ((kk:Int)<(R:Int))) rfl (fun hb28=>?_) (fun hb28=>?_)
  ·have hlk:kk<R:=by have:=of_decide_eq_true hb28;omega
   refine wp_skip ?_
   refine k26 _ _ ?_
   try clear k26 K26
   refine wp_seq_k (fun K29 k29=>?_)
   refine wp_block ?_
   refine wp_seq_k (fun K30 k30=>?_)
   refine rg [0,1,2] ?_
   refine sv 31 (.agg #[(.string ⟨([48]:List UInt8).toArray⟩),(.string ⟨([49]:List UInt8).toArray⟩)]) ?_
   refine se ?_
   refine ea 84 #[(.string ⟨([]:List UInt8).toArray⟩),(.string ⟨([]:List UInt8).toArray⟩)] 8 hB fun b31 w31 g31 L31 o31 q31 hB=>?_
   have qr31:=o31
   have q31_hC:=Nat.le_trans (Below.size hC) o31
   replace hC:=hC.trans g31
   simp only [p3,p4]
   refine se ?_
   have lo32:=L31
   refine es 84 0 (.agg #[(.string ⟨([48]:List UInt8).toArray⟩),(.string ⟨([49]:List UInt8).toArray⟩)]) [(.string ⟨([48]:List UInt8).toArray⟩),(.string ⟨([49]:List UInt8).toArray⟩)] #[(.string ⟨([48]:List UInt8).toArray⟩),(.string ⟨([49]:List UInt8).toArray⟩)] L31 hB q31 ⟨rfl,rfl,trivial⟩ fun w32 st32 kp32 L31 hB=>?_
   replace hC:=st32.gr hC q31_hC
   refine sq_nil ?_
   refine k30 _ _ ?_
   try clear k30 K30
   refine wp_seq_k (fun K33 k33=>?_)
   refine wp_seq_k (fun K34 k34=>?_)
   refine rg [0,1,2] ?_
   refine sv 32 (.int .i64 ((i:Int))) ?_
   refine sv 33 (.int .i64 ((kk:Int))) ?_
   refine sv 34 (.bool (((i:Int)==(kk:Int)))) ?_
   refine sq_nil ?_
   refine k34 _ _ ?_
   try clear k34 K34
   refine wp_cond_split (t:=((i:Int)==(kk:Int))) rfl (fun hb35=>?_) (fun hb35=>?_)
   ·have hq36:(i:Int)=(kk:Int):=by have:=hb35;simp at this;omega
    refine rg [0,1] ?_
    refine sv 35 (.agg #[(.string ⟨([49]:List UInt8).toArray⟩),(.string ⟨([49]:List UInt8).toArray⟩)]) ?_
    refine se ?_
    have lo37:=L31
    refine es 84 0 (.agg #[(.string ⟨([49]:List UInt8).toArray⟩),(.string ⟨([49]:List UInt8).toArray⟩)]) [(.string ⟨([49]:List UInt8).toArray⟩),(.string ⟨([49]:List UInt8).toArray⟩)] #[(.string ⟨([49]:List UInt8).toArray⟩),(.string ⟨([49]:List UInt8).toArray⟩)] L31 hB q31 ⟨rfl,rfl,trivial⟩ fun w37 st37 kp37 L31 hB=>?_
    replace hC:=st37.gr hC q31_hC
    refine sq_nil ?_
    refine k33 _ _ ?_
    try clear k33 K33
    refine rg [0,1,2,3,4] ?_
    refine sv 36 vr ?_
    refine sw 37 (.agg #[(.string ⟨([49]:List UInt8).toArray⟩),(.string ⟨([49]:List UInt8).toArray⟩)]) rfl (rl 84 0 [(.string ⟨([49]:List UInt8).toArray⟩),(.string ⟨([49]:List UInt8).toArray⟩)] L31) ?_
    refine se ?_
    refine eff_bs 84 1 #[(.string ⟨([49]:List UInt8).toArray⟩),(.string ⟨([49]:List UInt8).toArray⟩)] (some 38) rfl (fun _=>by kernel_rfl) (fun b38 w38 g38 L38 q38=>?_)
    have qr38:=q38
    have q38_hC:=Nat.le_trans (Below.size hC) q38
    replace hB:=hB.trans g38
    replace hC:=hC.trans g38
    simp only [putl,p3,p4]
    refine se ?_
    replace orr:=orr.gr stab_fr ((st37.gr (st32.gr g31 qr31) qr31).trans g38)
    refine eff_apg stab_fr _ _ 51 84 w14.heap.size (.agg #[(.string ⟨([]:List UInt8).toArray⟩),(.string ⟨([]:List UInt8).toArray⟩)]) vr (tb (fun z1=>(wid R m i z1)) (R+kk)) b38 [(.string ⟨([49]:List UInt8).toArray⟩),(.string ⟨([49]:List UInt8).toArray⟩)] (1:Rat) 2 1 (some 39) 32 rfl rfl rfl rfl orr L38 ⟨rfl,rfl,trivial⟩ rfl (efr1 w) (Below.size hC) (by rw [tb_len];omega) (by decide) (by kernel_rfl) (by kernel_rfl) (by decide) (by decide) (fun v39 w39 ow39 wt39 hg39=>?_)
    replace hB:=hg39 _ hB lehC
    replace hC:=hg39 _ hC (Nat.le_refl _)
    replace ow39:=ow39.cast (tb_snoc (f:=(fun z1=>(wid R m i z1))) (n:=(R+kk)) (wid_1 (by omega)))
    simp only [putl,p3,p4]
    refine sv 6 v39 ?_
    refine sq_nil ?_
    refine k29 _ _ ?_
    try clear k29 K29
    refine rg [0,1,2] ?_
    refine sv 29 (.int .i64 ((kk:Int))) ?_
    refine sw 30 (.int .i64 (((kk:Int)+1))) rfl (RunV.int (x:=IntKind.i64.wrap (((kk:Int)+1))) (y:=((kk:Int)+1)) (rvk (by kernel_rfl)) (by first | rfl | (rw [IntKind.wrap_i64];omega))) ?_
    refine sv 7 (.int .i64 (((kk:Int)+1))) ?_
    refine sq_nil ?_
    refine k25 (R - (kk+1)) ⟨List.toArray ?l40,[]⟩ _ (by omega) ?_
    exact ⟨kk+1,v39,(fun i=>List.getD ?l40 i undef),rfl,rfl,(by omega),ow39,hC,hB⟩
   ·have hq41:¬ (i:Int)=(kk:Int):=by have:=hb35;simp at this;omega
    refine wp_skip ?_
    refine k33 _ _ ?_
    try clear k33 K33
    refine rg [0,1,2,3,4] ?_
    refine sv 36 vr ?_
    refine sw 37 (.agg #[(.string ⟨([48]:List UInt8).toArray⟩),(.string ⟨([49]:List UInt8).toArray⟩)]) rfl (rl 84 0 [(.string ⟨([48]:List UInt8).toArray⟩),(.string ⟨([49]:List UInt8).toArray⟩)] L31) ?_
    refine se ?_
    refine eff_bs 84 1 #[(.string ⟨([48]:List UInt8).toArray⟩),(.string ⟨([49]:List UInt8).toArray⟩)] (some 38) rfl (fun _=>by kernel_rfl) (fun b42 w42 g42 L42 q42=>?_)
    have qr42:=q42
    have q42_hC:=Nat.le_trans (Below.size hC) q42
    replace hB:=hB.trans g42
    replace hC:=hC.trans g42
    simp only [putl,p3,p4]
    refine se ?_
    replace orr:=orr.gr stab_fr ((st32.gr g31 qr31).trans g42)
    refine eff_apg stab_fr _ _ 51 84 w14.heap.size (.agg #[(.string ⟨([]:List UInt8).toArray⟩),(.string ⟨([]:List UInt8).toArray⟩)]) vr (tb (fun z1=>(wid R m i z1)) (R+kk)) b42 [(.string ⟨([48]:List UInt8).toArray⟩),(.string ⟨([49]:List UInt8).toArray⟩)] (0:Rat) 2 1 (some 39) 32 rfl rfl rfl rfl orr L42 ⟨rfl,rfl,trivial⟩ rfl (efr0 w) (Below.size hC) (by rw [tb_len];omega) (by decide) (by kernel_rfl) (by kernel_rfl) (by decide) (by decide) (fun v43 w43 ow43 wt43 hg43=>?_)
    replace hB:=hg43 _ hB lehC
    replace hC:=hg43 _ hC (Nat.le_refl _)
    replace ow43:=ow43.cast (tb_snoc (f:=(fun z1=>(wid R m i z1))) (n:=(R+kk)) (wid_n (by omega)))
    simp only [putl,p3,p4]
    refine sv 6 v43 ?_
    refine sq_nil ?_
    refine k29 _ _ ?_
    try clear k29 K29
    refine rg [0,1,2] ?_
    refine sv 29 (.int .i64 ((kk:Int))) ?_
    refine sw 30 (.int .i64 (((kk:Int)+1))) rfl (RunV.int (x:=IntKind.i64.wrap (((kk:Int)+1))) (y:=((kk:Int)+1)) (rvk (by kernel_rfl)) (by first | rfl | (rw [IntKind.wrap_i64];omega))) ?_
    refine sv 7 (.int .i64 (((kk:Int)+1))) ?_
    refine sq_nil ?_
    refine k25 (R - (kk+1)) ⟨List.toArray ?l44,[]⟩ _ (by omega) ?_
    exact ⟨kk+1,v43,(fun i=>List.getD ?l44 i undef),rfl,rfl,(by omega),ow43,hC,hB⟩
  ·have hek:R=kk:=by have:=of_decide_eq_false hb28;omega
   subst hek
   refine wp_exit ?_
   simp only [Exit.then,Exit.inBlock,↓reduceIte]
   refine k23 _ _ ?_
   try clear k23 K23
   refine rg [0,1,2,3,4] ?_
   refine sv 40 vo ?_
   refine sv 41 vr ?_
   refine se ?_
   refine eff_bs1 26 51 vr (some 42) rfl rfl rfl (orr.sl).forms (fun _ _ _ _=>by kernel_rfl) (fun b45 w45 g45 L45 q45=>?_)
   have qr45:=q45
   have q45_hC:=Nat.le_trans (Below.size hC) q45
   replace hB:=hB.trans g45
   replace hC:=hC.trans g45
   simp only [putl,p3,p4]
   refine se ?_
   replace orr:=orr.gr stab_fr g45
   refine eff_apg (stab_rw stab_fr 84 2) _ _ 26 51 w.heap.size (.slice none 0 0) vo (tb (fun z0=>tb (fun z1=>(wid R m z0 z1)) (R+R)) i) b45 [vr] (tb (fun z1=>(wid R m i z1)) (R+R)) 1 1 (some 43) 24 rfl rfl rfl rfl (oo.gr (stab_rw stab_fr 84 2) hC) L45 ⟨orr.one,trivial⟩ rfl ⟨_,rfl,(orr.sl)⟩ (Below.size hB) (by rw [tb_len];omega) (by decide) (by kernel_rfl) (by kernel_rfl) (by decide) (by decide) (fun v46 w46 ow46 wt46 hg46=>?_)
   replace hB:=hg46 _ hB (Nat.le_refl _)
   replace ow46:=ow46.cast (tb_snoc (f:=(fun z0=>tb (fun z1=>(wid R m z0 z1)) (R+R))) (n:=i) (by first | rfl | exact fil_all))
   simp only [putl,p3,p4]
   refine sv 4 v46 ?_
   refine sq_nil ?_
   refine k18 _ _ ?_
   try clear k18 K18
   refine rg [0,1,2] ?_
   refine sv 17 (.int .i64 ((i:Int))) ?_
   refine sw 18 (.int .i64 (((i:Int)+1))) rfl (RunV.int (x:=IntKind.i64.wrap (((i:Int)+1))) (y:=((i:Int)+1)) (rvk (by kernel_rfl)) (by first | rfl | (rw [IntKind.wrap_i64];omega))) ?_
   refine sv 5 (.int .i64 (((i:Int)+1))) ?_
   refine sq_nil ?_
   refine k14 (R - (i+1)) ⟨List.toArray ?l47,[]⟩ _ (by omega) ?_
   exact ⟨i+1,v46,(fun i=>List.getD ?l47 i undef),rfl,rfl,(by omega),ow46,hB⟩
 ·have hei:R=i:=by have:=of_decide_eq_false hb17;omega
  subst hei
  refine wp_exit ?_
  simp only [Exit.then,Exit.inBlock,↓reduceIte]
  refine k12 _ _ ?_
  try clear k12 K12
  refine wp_seq_k (fun K48 k48=>?_)
  refine rg [0,1,2,3,4,5,6] ?_
  refine sv 45 vo ?_
  refine se ?_
  have hlen49:=rs_len R (wid R m) (R+R)
  have hple49:=rs_ple R (wid R m) (R+R)
  refine ec 46 (f5_reduceW (by omega) (by omega) hK hz ((oo.gr (stab_rw stab_fr 84 2) hC).sl)) ?_
  rintro e49 w49 ⟨⟨u49,v49,rfl,hs49,hp49⟩,g49⟩
  refine ⟨_,rfl,?_⟩
  replace hB:=hB.trans g49
  replace hC:=hC.trans g49
  have lehc49:=Below.size hB
  have lehc49_hC:=Below.size hC
  have hc49:=Gr.refl w49
  simp only [p3,p4]
  refine sv 44 (.tuple #[u49,v49]) ?_
  refine sv 47 u49 ?_
  refine sv 48 v49 ?_
  refine sv 9 u49 ?_
  refine sv 10 v49 ?_
  refine sq_nil ?_
  refine k48 _ _ ?_
  try clear k48 K48
  refine wp_seq_k (fun K50 k50=>?_)
  refine rg [0] ?_
  refine sv 11 (.slice none 0 0) ?_
  refine sq_nil ?_
  refine k50 _ _ ?_
  try clear k50 K50
  refine wp_seq_k (fun K51 k51=>?_)
  refine wp_seq_k (fun K52 k52=>?_)
  refine rg [0] ?_
  refine sv 12 (.int .i64 0) ?_
  refine sq_nil ?_
  refine k52 _ _ ?_
  try clear k52 K52
  refine wp_block ?_
  refine wp_loop_inv (a:=⟨List.toArray ?l53,[]⟩) (fun n a w'=>∃ (q:Nat) (vq:Value) (u53:Nat→Value),R - q=n∧a=⟨[v,undef,(u53 2),(u53 3),vo,(.int .i64 ((R:Int))),(u14 6),(u14 7),(u14 8),u49,v49,vq,(.int .i64 ((q:Int))),(u53 13),(u53 14),(u53 15),(.bool (decide ((R:Int)<(R:Int)))),(u53 17),(u53 18),(u53 19),(u53 20),(u53 21),(u53 22),(u53 23),(u53 24),(u53 25),(u53 26),(u53 27),(u14 28),(u53 29),(u53 30),(u53 31),(u53 32),(u53 33),(u14 34),(u53 35),(u53 36),(u53 37),(u53 38),(u53 39),(u53 40),(u53 41),(u53 42),(u53 43),(u53 44),(u53 45),(u53 46),(u53 47),(u53 48),(u53 49),(u53 50),(u53 51),(u53 52),(u53 53),(u53 54),(u53 55),(u53 56),(u53 57),(u53 58),(u53 59),(u53 60),(u53 61),(u53 62),(u53 63),(u53 64),(u53 65),(u53 66),(u53 67),(u53 68),(u53 69),(u53 70),(u53 71),(u53 72),(u53 73),(u53 74),(u53 75),(u53 76),undef].toArray,[]⟩∧q≤R∧(∀ t,t<q→(t<(pl R (wid R m) (R+R))∧(pv (rs R (wid R m) (R+R)) t)=t))∧Ow (ERw EFr 84 2) 51 1 w' w49.heap.size vq (tb (fun z0=>tb (fun z1=>((rs R (wid R m) (R+R)).m z0 (R+z1))) R) q)∧Gr w14 w'∧Gr w49 w'∧Gr w w') (R - 0) ?_ ?_
  ·exact ⟨0,(.slice none 0 0),(fun i=>List.getD ?l53 i undef),rfl,rfl,(Nat.zero_le _),(fun t h=>absurd h (Nat.not_lt_zero t)),(Ow.nil _ _ _ _ _),hC,hc49,hB⟩
  rintro n53 a53 w53 ⟨q,vq,u53,rfl,rfl,hkq,hall,oq,hC,hc49,hB⟩ K53 k53
  have lehE:=Below.size hB
  have lehE_hC:=Below.size hC
  have lehE_hc49:=Below.size hc49
  have hE:=Gr.refl w53
  refine wp_seq_k (fun K54 k54=>?_)
  refine wp_seq_k (fun K55 k55=>?_)
  refine rg [0,1,2,3] ?_
  refine sv 49 (.int .i64 ((q:Int))) ?_
  refine sv 50 v ?_
  refine sw 51 (.int .i64 ((R:Int))) rfl (rv_lenn (e:=51) hs (tb_lenz rfl) _ _ rfl rfl (by kernel_rfl)) ?_
  refine sv 52 (.bool (decide ((q:Int)<(R:Int)))) ?_
  refine sq_nil ?_
  refine k55 _ _ ?_
  try clear k55 K55
  refine wp_cond_split (t:=decide ((q:Int)<(R:Int))) rfl (fun hb56=>?_) (fun hb56=>?_)
  ·have hlq:q<R:=by have:=of_decide_eq_true hb56;omega
   refine wp_skip ?_
   refine k54 _ _ ?_
   try clear k54 K54
   refine wp_seq_k (fun K57 k57=>?_)
   refine wp_block ?_
   refine wp_seq_k (fun K58 k58=>?_)
   refine wp_seq_k (fun K59 k59=>?_)
   refine rg [0,1,2,3,4,5,6,7,8,9,10,11] ?_
   refine sv 55 (.int .i64 ((q:Int))) ?_
   refine sv 56 v49 ?_
   refine sw 57 (.int .i64 (((pl R (wid R m) (R+R):Nat):Int))) rfl (rv_lenn (e:=3) hp49 (tb_lenz rfl) _ _ rfl rfl (by kernel_rfl)) ?_
   refine sv 58 (.bool (decide (((pl R (wid R m) (R+R):Nat):Int)≤(q:Int)))) ?_
   rcases Bool.eq_false_or_eq_true (decide (((pl R (wid R m) (R+R):Nat):Int)≤(q:Int))) with hb60 | hb60
   ·have hge:(pl R (wid R m) (R+R))≤q:=by have:=of_decide_eq_true hb60;omega
    refine swk 59 (.bool true) [(5,60),(6,61),(7,62),(8,63),(9,64),(10,65)] rfl (RunV.bool (x:=decide (((pl R (wid R m) (R+R):Nat):Int)≤(q:Int))) (rvk (by kernel_rfl)) hb60) ?_
    refine sv 66 (.bool true) ?_
    refine sq_nil ?_
    refine k59 _ _ ?_
    try clear k59 K59
    refine wp_cond_true rfl ?_
    refine wp_seq_k (fun K61 k61=>?_)
    refine rg [0,1] ?_
    refine sv 2 (.slice none 0 0) ?_
    refine sv 3 (.bool false) ?_
    refine sq_nil ?_
    refine k61 _ _ ?_
    try clear k61 K61
    refine wp_ret ?_
    simp only [Exit.then,Exit.inBlock]
    refine bodyPost_ret (v:=(.tuple #[(.slice none 0 0),(.bool false)])) (ret_tmp2 rfl rfl rfl) rfl ⟨?_,hB⟩
    exact (absurd (hok q hlq).1 (by omega))
   ·have hge:q<(pl R (wid R m) (R+R)):=by have:=of_decide_eq_false hb60;omega
    refine sw 59 (.bool false) rfl (RunV.bool (x:=decide (((pl R (wid R m) (R+R):Nat):Int)≤(q:Int))) (rvk (by kernel_rfl)) hb60) ?_
    refine sv 60 v49 ?_
    refine sv 61 (.int .i64 ((q:Int))) ?_
    refine sw 62 (adr v49 (q*1)) rfl (rv_idxn (e:=3) hp49 tb_len (by decide) q (by omega) _ _ _ rfl rfl rfl (by kernel_rfl) (by kernel_rfl)) ?_
    obtain ⟨_,_,rfl,at62⟩:=Sl.get hp49 (by decide) (tb_get (f:=(fun z1=>((pv (rs R (wid R m) (R+R)) z1:Nat):Int))) (n:=(pl R (wid R m) (R+R))) (i:=q) (by omega))
    refine sw 63 (.int .i64 (((pv (rs R (wid R m) (R+R)) q:Nat):Int))) rfl (rv_ld1 (.int .i64 (((pv (rs R (wid R m) (R+R)) q:Nat):Int))) (at62.gr hc49) _ _ rfl rfl (by kernel_rfl)) ?_
    refine sv 64 (.int .i64 ((q:Int))) ?_
    refine sv 65 (.bool ((((pv (rs R (wid R m) (R+R)) q:Nat):Int) !=(q:Int)))) ?_
    refine sv 66 (.bool ((((pv (rs R (wid R m) (R+R)) q:Nat):Int) !=(q:Int)))) ?_
    refine sq_nil ?_
    refine k59 _ _ ?_
    try clear k59 K59
    refine wp_cond_split (t:=(((pv (rs R (wid R m) (R+R)) q:Nat):Int) !=(q:Int))) rfl (fun hb63=>?_) (fun hb63=>?_)
    ·have hnp:=bne_t hb63
     refine wp_seq_k (fun K64 k64=>?_)
     refine rg [0,1] ?_
     refine sv 2 (.slice none 0 0) ?_
     refine sv 3 (.bool false) ?_
     refine sq_nil ?_
     refine k64 _ _ ?_
     try clear k64 K64
     refine wp_ret ?_
     simp only [Exit.then,Exit.inBlock]
     refine bodyPost_ret (v:=(.tuple #[(.slice none 0 0),(.bool false)])) (ret_tmp2 rfl rfl rfl) rfl ⟨?_,hB⟩
     exact (absurd (hok q hlq).2 hnp)
    ·have hnp:=bne_f hb63
     refine wp_skip ?_
     refine k58 _ _ ?_
     try clear k58 K58
     refine rg [0,1,2,3,4,5,6,7,8,9,10] ?_
     refine sv 67 vq ?_
     refine sv 68 u49 ?_
     refine sv 69 (.int .i64 ((q:Int))) ?_
     refine sw 70 (adr u49 (q*1)) rfl (rv_idxn (e:=51) hs49 tb_len (by decide) q (by omega) _ _ _ rfl rfl rfl (by kernel_rfl) (by kernel_rfl)) ?_
     obtain ⟨_,_,⟨u65,rfl,hr65⟩,at65⟩:=Sl.get hs49 (by decide) (tb_get (f:=(fun z0=>tb (fun z1=>((rs R (wid R m) (R+R)).m z0 z1)) (R+R))) (n:=(pl R (wid R m) (R+R))) (i:=q) (by omega))
     refine sw 71 u65 rfl (rv_ld1 u65 (at65.gr hc49) _ _ rfl rfl (by kernel_rfl)) ?_
     refine sv 72 v ?_
     refine sw 73 (.int .i64 ((R:Int))) rfl (rv_lenn (e:=51) hs (tb_lenz rfl) _ _ rfl rfl (by kernel_rfl)) ?_
     have hs66:=hr65.subt (show R≤(R+R) by omega) (show (R+R)≤(R+R) by omega)
     refine sw 74 (subv u65 R (R+R) 2) rfl (rv_subt (e:=84) hr65 R (R+R) (by omega) (by omega) _ _ _ _ rfl rfl (.inr rfl) (.inl ⟨rfl,rfl⟩) (by kernel_rfl) (by kernel_rfl)) ?_
     refine se ?_
     refine eff_bs1 26 51 (subv u65 R (R+R) 2) (some 75) rfl rfl rfl (hs66.gr stab_fr hc49).forms (fun _ _ _ _=>by kernel_rfl) (fun b67 w67 g67 L67 q67=>?_)
     have qr67:=q67
     have q67_hC:=Nat.le_trans (Below.size hC) q67
     have q67_hc49:=Nat.le_trans (Below.size hc49) q67
     have q67_hE:=Nat.le_trans (Below.size hE) q67
     replace hB:=hB.trans g67
     replace hC:=hC.trans g67
     replace hc49:=hc49.trans g67
     replace hE:=hE.trans g67
     simp only [putl,p3,p4]
     refine se ?_
     refine eff_apg (stab_rw stab_fr 84 2) _ _ 26 51 w49.heap.size (.slice none 0 0) vq (tb (fun z0=>tb (fun z1=>((rs R (wid R m) (R+R)).m z0 (R+z1))) R) q) b67 [(subv u65 R (R+R) 2)] (tb (fun z3=>(fun z1=>((rs R (wid R m) (R+R)).m q z1)) (R+z3)) ((R+R) - R)) 1 1 (some 76) 24 rfl rfl rfl rfl (oq.gr (stab_rw stab_fr 84 2) hE) L67 ⟨hs66.one,trivial⟩ rfl ⟨_,rfl,(hs66.gr stab_fr hc49)⟩ (Below.size hc49) (by rw [tb_len];omega) (by decide) (by kernel_rfl) (by kernel_rfl) (by decide) (by decide) (fun v68 w68 ow68 wt68 hg68=>?_)
     replace hB:=hg68 _ hB lehc49
     replace hC:=hg68 _ hC lehc49_hC
     replace hc49:=hg68 _ hc49 (Nat.le_refl _)
     replace ow68:=ow68.cast (tb_snoc (f:=(fun z0=>tb (fun z1=>((rs R (wid R m) (R+R)).m z0 (R+z1))) R)) (n:=q) (by rw [Nat.add_sub_cancel]))
     simp only [putl,p3,p4]
     refine sv 11 v68 ?_
     refine sq_nil ?_
     refine k57 _ _ ?_
     try clear k57 K57
     refine rg [0,1,2] ?_
     refine sv 53 (.int .i64 ((q:Int))) ?_
     refine sw 54 (.int .i64 (((q:Int)+1))) rfl (RunV.int (x:=IntKind.i64.wrap (((q:Int)+1))) (y:=((q:Int)+1)) (rvk (by kernel_rfl)) (by first | rfl | (rw [IntKind.wrap_i64];omega))) ?_
     refine sv 12 (.int .i64 (((q:Int)+1))) ?_
     refine sq_nil ?_
     refine k53 (R - (q+1)) ⟨List.toArray ?l69,[]⟩ _ (by omega) ?_
     exact ⟨q+1,v68,(fun i=>List.getD ?l69 i undef),rfl,rfl,(by omega),(all_succ3 hall ⟨hge,hnp⟩),ow68,hC,hc49,hB⟩
  ·have heq:R=q:=by have:=of_decide_eq_false hb56;omega
   subst heq
   refine wp_exit ?_
   simp only [Exit.then,Exit.inBlock,↓reduceIte]
   refine k51 _ _ ?_
   try clear k51 K51
   refine wp_seq_k (fun K70 k70=>?_)
   refine rg [0,1,2] ?_
   refine sv 77 vq ?_
   refine sv 2 vq ?_
   refine sv 3 (.bool true) ?_
   refine sq_nil ?_
   refine k70 _ _ ?_
   try clear k70 K70
   refine wp_ret ?_
   refine bodyPost_ret (v:=(.tuple #[vq,(.bool true)])) (ret_tmp2 rfl rfl rfl) rfl ⟨?_,hB⟩
   exact ⟨_,rfl,((oq.gr (stab_rw stab_fr 84 2) hE).sl)⟩

set_option maxRecDepth 100000 in
set_option maxHeartbeats 1000000 in
theorem f5_inverse_n {K R:Nat} {v:Value} {m:Mx_} (_hR2:R≤400) (hK:4*K≤19990) (hz:∀ k i,k<R+R→Fd R (wid R m) k i→∀ a,a<R→∀ b,b<R+R→RZ K K ((rs R (wid R m) k).m a b)) (hok:¬ (∀ t,t<R→(t<(pl R (wid R m) (R+R))∧(pv (rs R (wid R m) (R+R)) t)=t))) {w:World} (hs:Sl (ERw EFr 84 2) 51 1 w v (tb (fun z0=>tb (fun z1=>(m z0 z1)) R) R)):
    Calls Tryz.prog 43 #[v] w fun e w'=>e=.returned (.tuple #[.slice none 0 0,.bool false])∧Gr w w':=by
 go_enter Tryz.func43,Tryz.ntmps43
 have hB:=Gr.refl w
 refine wp_seq_k (fun K10 k10=>?_)
 refine rg [0,1] ?_
 refine sv 2 (.slice none 0 0) ?_
 refine sv 3 (.bool false) ?_
 refine sq_nil ?_
 refine k10 _ _ ?_
 try clear k10 K10
 refine wp_seq_k (fun K11 k11=>?_)
 refine rg [0] ?_
 refine sv 4 (.slice none 0 0) ?_
 refine sq_nil ?_
 refine k11 _ _ ?_
 try clear k11 K11
 refine wp_seq_k (fun K12 k12=>?_)
 refine wp_seq_k (fun K13 k13=>?_)
 refine rg [0] ?_
 refine sv 5 (.int .i64 0) ?_
 refine sq_nil ?_
 refine k13 _ _ ?_
 try clear k13 K13
 refine wp_block ?_
 refine wp_loop_inv (a:=⟨List.toArray ?l14,[]⟩) (fun n a w'=>∃ (i:Nat) (vo:Value) (u14:Nat→Value),R - i=n∧a=⟨[v,undef,(.slice none 0 0),(.bool false),vo,(.int .i64 ((i:Int))),(u14 6),(u14 7),(u14 8),undef,undef,undef,undef,(u14 13),(u14 14),(u14 15),(u14 16),(u14 17),(u14 18),(u14 19),(u14 20),(u14 21),(u14 22),(u14 23),(u14 24),(u14 25),(u14 26),(u14 27),(u14 28),(u14 29),(u14 30),(u14 31),(u14 32),(u14 33),(u14 34),(u14 35),(u14 36),(u14 37),(u14 38),(u14 39),(u14 40),(u14 41),(u14 42),(u14 43),undef,undef,undef,undef,undef,undef,undef,undef,undef,undef,undef,undef,undef,undef,undef,undef,undef,undef,undef,undef,undef,undef,undef,undef,undef,undef,undef,undef,undef,undef,undef,undef,undef,undef].toArray,[]⟩∧i≤R∧Ow (ERw EFr 84 2) 51 1 w' w.heap.size vo (tb (fun z0=>tb (fun z1=>(wid R m z0 z1)) (R+R)) i)∧Gr w w') (R - 0) ?_ ?_
 ·exact ⟨0,(.slice none 0 0),(fun i=>List.getD ?l14 i undef),rfl,rfl,(Nat.zero_le _),(Ow.nil _ _ _ _ _),hB⟩
 rintro n14 a14 w14 ⟨i,vo,u14,rfl,rfl,hki,oo,hB⟩ K14 k14
 have lehC:=Below.size hB
 have hC:=Gr.refl w14
 refine wp_seq_k (fun K15 k15=>?_)
 refine wp_seq_k (fun K16 k16=>?_)
 refine rg [0,1,2,3] ?_
 refine sv 13 (.int .i64 ((i:Int))) ?_
 refine sv 14 v ?_
 refine sw 15 (.int .i64 ((R:Int))) rfl (rv_lenn (e:=51) hs (tb_lenz rfl) _ _ rfl rfl (by kernel_rfl)) ?_
 refine sv 16 (.bool (decide ((i:Int)<(R:Int)))) ?_
 refine sq_nil ?_
 refine k16 _ _ ?_
 try clear k16 K16
 refine wp_cond_split (t:=decide ((i:Int)<(R:Int))) rfl (fun hb17=>?_) (fun hb17=>?_)
 ·have hli:i<R:=by have:=of_decide_eq_true hb17;omega
  refine wp_skip ?_
  refine k15 _ _ ?_
  try clear k15 K15
  refine wp_seq_k (fun K18 k18=>?_)
  refine wp_block ?_
  refine wp_seq_k (fun K19 k19=>?_)
  refine rg [0,1,2,3,4,5,6] ?_
  refine se ?_
  refine eff_bs 84 0 #[] (some 19) rfl (fun _=>by kernel_rfl) (fun b20 w20 g20 L20 q20=>?_)
  have qr20:=q20
  have q20_hC:=Nat.le_trans (Below.size hC) q20
  replace hB:=hB.trans g20
  replace hC:=hC.trans g20
  simp only [putl,p3,p4]
  refine sv 20 v ?_
  refine sv 21 (.int .i64 ((i:Int))) ?_
  refine sw 22 (adr v (i*1)) rfl (rv_idxn (e:=51) hs tb_len (by decide) i (by omega) _ _ _ rfl rfl rfl (by kernel_rfl) (by kernel_rfl)) ?_
  obtain ⟨_,_,⟨u21,rfl,hr21⟩,at21⟩:=Sl.get hs (by decide) (tb_get (f:=(fun z0=>tb (fun z1=>(m z0 z1)) R)) (n:=R) (i:=i) (by omega))
  refine sw 23 u21 rfl (rv_ld1 u21 (at21.gr hB) _ _ rfl rfl (by kernel_rfl)) ?_
  refine se ?_
  refine eff_aps stab_fr _ _ 51 84 w14.heap.size 84 (.agg #[(.string ⟨([]:List UInt8).toArray⟩),(.string ⟨([]:List UInt8).toArray⟩)]) (.slice (some ⟨b20,0,none⟩) 0 0) ([]:List Rat) u21 (tb (fun z1=>(m i z1)) R) 2 (some 24) 32 rfl rfl rfl rfl (ow_empty (E:=EFr) (c:=2) (B:=w14.heap.size) L20 q20_hC) (hr21.gr stab_fr hB) (one_fr _) (Below.size hC) (by simp only [List.length_nil,tb_len];omega) (by decide) (by kernel_rfl) (by kernel_rfl) (by decide) (by decide) (fun v22 w22 ow22 wt22 hg22 ag22=>?_)
  replace hB:=hg22 _ hB lehC
  replace hC:=hg22 _ hC (Nat.le_refl _)
  replace ow22:=ow22.cast (List.nil_append _)
  simp only [putl,p3,p4]
  refine sv 6 v22 ?_
  refine sq_nil ?_
  refine k19 _ _ ?_
  try clear k19 K19
  refine wp_seq_k (fun K23 k23=>?_)
  refine wp_seq_k (fun K24 k24=>?_)
  refine rg [0] ?_
  refine sv 7 (.int .i64 0) ?_
  refine sq_nil ?_
  refine k24 _ _ ?_
  try clear k24 K24
  refine wp_block ?_
  refine wp_loop_inv (a:=⟨List.toArray ?l25,[]⟩) (fun n a w'=>∃ (kk:Nat) (vr:Value) (u25:Nat→Value),R - kk=n∧a=⟨[v,undef,(.slice none 0 0),(.bool false),vo,(.int .i64 ((i:Int))),vr,(.int .i64 ((kk:Int))),(u25 8),undef,undef,undef,undef,(u25 13),(u25 14),(u25 15),(.bool (decide ((i:Int)<(R:Int)))),(u25 17),(u25 18),(u25 19),(u25 20),(u25 21),(u25 22),(u25 23),(u25 24),(u25 25),(u25 26),(u25 27),(u25 28),(u25 29),(u25 30),(u25 31),(u25 32),(u25 33),(u25 34),(u25 35),(u25 36),(u25 37),(u25 38),(u25 39),(u25 40),(u25 41),(u25 42),(u25 43),undef,undef,undef,undef,undef,undef,undef,undef,undef,undef,undef,undef,undef,undef,undef,undef,undef,undef,undef,undef,undef,undef,undef,undef,undef,undef,undef,undef,undef,undef,undef,undef,undef,undef].toArray,[]⟩∧kk≤R∧Ow EFr 84 2 w' w14.heap.size vr (tb (fun z1=>(wid R m i z1)) (R+kk))∧Gr w14 w'∧Gr w w') (R - 0) ?_ ?_
  ·exact ⟨0,v22,(fun i=>List.getD ?l25 i undef),rfl,rfl,(Nat.zero_le _),(ow22.cast wid_0),hC,hB⟩
  rintro n25 a25 w25 ⟨kk,vr,u25,rfl,rfl,hkk,orr,hC,hB⟩ K25 k25
  refine wp_seq_k (fun K26 k26=>?_)
  refine wp_seq_k (fun K27 k27=>?_)
  refine rg [0,1,2,3] ?_
  refine sv 25 (.int .i64 ((kk:Int))) ?_
  refine sv 26 v ?_
  refine sw 27 (.int .i64 ((R:Int))) rfl (rv_lenn (e:=51) hs (tb_lenz rfl) _ _ rfl rfl (by kernel_rfl)) ?_
  refine sv 28 (.bool (decide ((kk:Int)<(R:Int)))) ?_
  refine sq_nil ?_
  refine k27 _ _ ?_
  try clear k27 K27
  refine wp_cond_split (t:=decide ((kk:Int)<(R:Int))) rfl (fun hb28=>?_) (fun hb28=>?_)
  ·have hlk:kk<R:=by have:=of_decide_eq_true hb28;omega
   refine wp_skip ?_
   refine k26 _ _ ?_
   try clear k26 K26
   refine wp_seq_k (fun K29 k29=>?_)
   refine wp_block ?_
   refine wp_seq_k (fun K30 k30=>?_)
   refine rg [0,1,2] ?_
   refine sv 31 (.agg #[(.string ⟨([48]:List UInt8).toArray⟩),(.string ⟨([49]:List UInt8).toArray⟩)]) ?_
   refine se ?_
   refine ea 84 #[(.string ⟨([]:List UInt8).toArray⟩),(.string ⟨([]:List UInt8).toArray⟩)] 8 hB fun b31 w31 g31 L31 o31 q31 hB=>?_
   have qr31:=o31
   have q31_hC:=Nat.le_trans (Below.size hC) o31
   replace hC:=hC.trans g31
   simp only [p3,p4]
   refine se ?_
   have lo32:=L31
   refine es 84 0 (.agg #[(.string ⟨([48]:List UInt8).toArray⟩),(.string ⟨([49]:List UInt8).toArray⟩)]) [(.string ⟨([48]:List UInt8).toArray⟩),(.string ⟨([49]:List UInt8).toArray⟩)] #[(.string ⟨([48]:List UInt8).toArray⟩),(.string ⟨([49]:List UInt8).toArray⟩)] L31 hB q31 ⟨rfl,rfl,trivial⟩ fun w32 st32 kp32 L31 hB=>?_
   replace hC:=st32.gr hC q31_hC
   refine sq_nil ?_
   refine k30 _ _ ?_
   try clear k30 K30
   refine wp_seq_k (fun K33 k33=>?_)
   refine wp_seq_k (fun K34 k34=>?_)
   refine rg [0,1,2] ?_
   refine sv 32 (.int .i64 ((i:Int))) ?_
   refine sv 33 (.int .i64 ((kk:Int))) ?_
   refine sv 34 (.bool (((i:Int)==(kk:Int)))) ?_
   refine sq_nil ?_
   refine k34 _ _ ?_
   try clear k34 K34
   refine wp_cond_split (t:=((i:Int)==(kk:Int))) rfl (fun hb35=>?_) (fun hb35=>?_)
   ·have hq36:(i:Int)=(kk:Int):=by have:=hb35;simp at this;omega
    refine rg [0,1] ?_
    refine sv 35 (.agg #[(.string ⟨([49]:List UInt8).toArray⟩),(.string ⟨([49]:List UInt8).toArray⟩)]) ?_
    refine se ?_
    have lo37:=L31
    refine es 84 0 (.agg #[(.string ⟨([49]:List UInt8).toArray⟩),(.string ⟨([49]:List UInt8).toArray⟩)]) [(.string ⟨([49]:List UInt8).toArray⟩),(.string ⟨([49]:List UInt8).toArray⟩)] #[(.string ⟨([49]:List UInt8).toArray⟩),(.string ⟨([49]:List UInt8).toArray⟩)] L31 hB q31 ⟨rfl,rfl,trivial⟩ fun w37 st37 kp37 L31 hB=>?_
    replace hC:=st37.gr hC q31_hC
    refine sq_nil ?_
    refine k33 _ _ ?_
    try clear k33 K33
    refine rg [0,1,2,3,4] ?_
    refine sv 36 vr ?_
    refine sw 37 (.agg #[(.string ⟨([49]:List UInt8).toArray⟩),(.string ⟨([49]:List UInt8).toArray⟩)]) rfl (rl 84 0 [(.string ⟨([49]:List UInt8).toArray⟩),(.string ⟨([49]:List UInt8).toArray⟩)] L31) ?_
    refine se ?_
    refine eff_bs 84 1 #[(.string ⟨([49]:List UInt8).toArray⟩),(.string ⟨([49]:List UInt8).toArray⟩)] (some 38) rfl (fun _=>by kernel_rfl) (fun b38 w38 g38 L38 q38=>?_)
    have qr38:=q38
    have q38_hC:=Nat.le_trans (Below.size hC) q38
    replace hB:=hB.trans g38
    replace hC:=hC.trans g38
    simp only [putl,p3,p4]
    refine se ?_
    replace orr:=orr.gr stab_fr ((st37.gr (st32.gr g31 qr31) qr31).trans g38)
    refine eff_apg stab_fr _ _ 51 84 w14.heap.size (.agg #[(.string ⟨([]:List UInt8).toArray⟩),(.string ⟨([]:List UInt8).toArray⟩)]) vr (tb (fun z1=>(wid R m i z1)) (R+kk)) b38 [(.string ⟨([49]:List UInt8).toArray⟩),(.string ⟨([49]:List UInt8).toArray⟩)] (1:Rat) 2 1 (some 39) 32 rfl rfl rfl rfl orr L38 ⟨rfl,rfl,trivial⟩ rfl (efr1 w) (Below.size hC) (by rw [tb_len];omega) (by decide) (by kernel_rfl) (by kernel_rfl) (by decide) (by decide) (fun v39 w39 ow39 wt39 hg39=>?_)
    replace hB:=hg39 _ hB lehC
    replace hC:=hg39 _ hC (Nat.le_refl _)
    replace ow39:=ow39.cast (tb_snoc (f:=(fun z1=>(wid R m i z1))) (n:=(R+kk)) (wid_1 (by omega)))
    simp only [putl,p3,p4]
    refine sv 6 v39 ?_
    refine sq_nil ?_
    refine k29 _ _ ?_
    try clear k29 K29
    refine rg [0,1,2] ?_
    refine sv 29 (.int .i64 ((kk:Int))) ?_
    refine sw 30 (.int .i64 (((kk:Int)+1))) rfl (RunV.int (x:=IntKind.i64.wrap (((kk:Int)+1))) (y:=((kk:Int)+1)) (rvk (by kernel_rfl)) (by first | rfl | (rw [IntKind.wrap_i64];omega))) ?_
    refine sv 7 (.int .i64 (((kk:Int)+1))) ?_
    refine sq_nil ?_
    refine k25 (R - (kk+1)) ⟨List.toArray ?l40,[]⟩ _ (by omega) ?_
    exact ⟨kk+1,v39,(fun i=>List.getD ?l40 i undef),rfl,rfl,(by omega),ow39,hC,hB⟩
   ·have hq41:¬ (i:Int)=(kk:Int):=by have:=hb35;simp at this;omega
    refine wp_skip ?_
    refine k33 _ _ ?_
    try clear k33 K33
    refine rg [0,1,2,3,4] ?_
    refine sv 36 vr ?_
    refine sw 37 (.agg #[(.string ⟨([48]:List UInt8).toArray⟩),(.string ⟨([49]:List UInt8).toArray⟩)]) rfl (rl 84 0 [(.string ⟨([48]:List UInt8).toArray⟩),(.string ⟨([49]:List UInt8).toArray⟩)] L31) ?_
    refine se ?_
    refine eff_bs 84 1 #[(.string ⟨([48]:List UInt8).toArray⟩),(.string ⟨([49]:List UInt8).toArray⟩)] (some 38) rfl (fun _=>by kernel_rfl) (fun b42 w42 g42 L42 q42=>?_)
    have qr42:=q42
    have q42_hC:=Nat.le_trans (Below.size hC) q42
    replace hB:=hB.trans g42
    replace hC:=hC.trans g42
    simp only [putl,p3,p4]
    refine se ?_
    replace orr:=orr.gr stab_fr ((st32.gr g31 qr31).trans g42)
    refine eff_apg stab_fr _ _ 51 84 w14.heap.size (.agg #[(.string ⟨([]:List UInt8).toArray⟩),(.string ⟨([]:List UInt8).toArray⟩)]) vr (tb (fun z1=>(wid R m i z1)) (R+kk)) b42 [(.string ⟨([48]:List UInt8).toArray⟩),(.string ⟨([49]:List UInt8).toArray⟩)] (0:Rat) 2 1 (some 39) 32 rfl rfl rfl rfl orr L42 ⟨rfl,rfl,trivial⟩ rfl (efr0 w) (Below.size hC) (by rw [tb_len];omega) (by decide) (by kernel_rfl) (by kernel_rfl) (by decide) (by decide) (fun v43 w43 ow43 wt43 hg43=>?_)
    replace hB:=hg43 _ hB lehC
    replace hC:=hg43 _ hC (Nat.le_refl _)
    replace ow43:=ow43.cast (tb_snoc (f:=(fun z1=>(wid R m i z1))) (n:=(R+kk)) (wid_n (by omega)))
    simp only [putl,p3,p4]
    refine sv 6 v43 ?_
    refine sq_nil ?_
    refine k29 _ _ ?_
    try clear k29 K29
    refine rg [0,1,2] ?_
    refine sv 29 (.int .i64 ((kk:Int))) ?_
    refine sw 30 (.int .i64 (((kk:Int)+1))) rfl (RunV.int (x:=IntKind.i64.wrap (((kk:Int)+1))) (y:=((kk:Int)+1)) (rvk (by kernel_rfl)) (by first | rfl | (rw [IntKind.wrap_i64];omega))) ?_
    refine sv 7 (.int .i64 (((kk:Int)+1))) ?_
    refine sq_nil ?_
    refine k25 (R - (kk+1)) ⟨List.toArray ?l44,[]⟩ _ (by omega) ?_
    exact ⟨kk+1,v43,(fun i=>List.getD ?l44 i undef),rfl,rfl,(by omega),ow43,hC,hB⟩
  ·have hek:R=kk:=by have:=of_decide_eq_false hb28;omega
   subst hek
   refine wp_exit ?_
   simp only [Exit.then,Exit.inBlock,↓reduceIte]
   refine k23 _ _ ?_
   try clear k23 K23
   refine rg [0,1,2,3,4] ?_
   refine sv 40 vo ?_
   refine sv 41 vr ?_
   refine se ?_
   refine eff_bs1 26 51 vr (some 42) rfl rfl rfl (orr.sl).forms (fun _ _ _ _=>by kernel_rfl) (fun b45 w45 g45 L45 q45=>?_)
   have qr45:=q45
   have q45_hC:=Nat.le_trans (Below.size hC) q45
   replace hB:=hB.trans g45
   replace hC:=hC.trans g45
   simp only [putl,p3,p4]
   refine se ?_
   replace orr:=orr.gr stab_fr g45
   refine eff_apg (stab_rw stab_fr 84 2) _ _ 26 51 w.heap.size (.slice none 0 0) vo (tb (fun z0=>tb (fun z1=>(wid R m z0 z1)) (R+R)) i) b45 [vr] (tb (fun z1=>(wid R m i z1)) (R+R)) 1 1 (some 43) 24 rfl rfl rfl rfl (oo.gr (stab_rw stab_fr 84 2) hC) L45 ⟨orr.one,trivial⟩ rfl ⟨_,rfl,(orr.sl)⟩ (Below.size hB) (by rw [tb_len];omega) (by decide) (by kernel_rfl) (by kernel_rfl) (by decide) (by decide) (fun v46 w46 ow46 wt46 hg46=>?_)
   replace hB:=hg46 _ hB (Nat.le_refl _)
   replace ow46:=ow46.cast (tb_snoc (f:=(fun z0=>tb (fun z1=>(wid R m z0 z1)) (R+R))) (n:=i) (by first | rfl | exact fil_all))
   simp only [putl,p3,p4]
   refine sv 4 v46 ?_
   refine sq_nil ?_
   refine k18 _ _ ?_
   try clear k18 K18
   refine rg [0,1,2] ?_
   refine sv 17 (.int .i64 ((i:Int))) ?_
   refine sw 18 (.int .i64 (((i:Int)+1))) rfl (RunV.int (x:=IntKind.i64.wrap (((i:Int)+1))) (y:=((i:Int)+1)) (rvk (by kernel_rfl)) (by first | rfl | (rw [IntKind.wrap_i64];omega))) ?_
   refine sv 5 (.int .i64 (((i:Int)+1))) ?_
   refine sq_nil ?_
   refine k14 (R - (i+1)) ⟨List.toArray ?l47,[]⟩ _ (by omega) ?_
   exact ⟨i+1,v46,(fun i=>List.getD ?l47 i undef),rfl,rfl,(by omega),ow46,hB⟩
 ·have hei:R=i:=by have:=of_decide_eq_false hb17;omega
  subst hei
  refine wp_exit ?_
  simp only [Exit.then,Exit.inBlock,↓reduceIte]
  refine k12 _ _ ?_
  try clear k12 K12
  refine wp_seq_k (fun K48 k48=>?_)
  refine rg [0,1,2,3,4,5,6] ?_
  refine sv 45 vo ?_
  refine se ?_
  have hlen49:=rs_len R (wid R m) (R+R)
  have hple49:=rs_ple R (wid R m) (R+R)
  refine ec 46 (f5_reduceW (by omega) (by omega) hK hz ((oo.gr (stab_rw stab_fr 84 2) hC).sl)) ?_
  rintro e49 w49 ⟨⟨u49,v49,rfl,hs49,hp49⟩,g49⟩
  refine ⟨_,rfl,?_⟩
  replace hB:=hB.trans g49
  replace hC:=hC.trans g49
  have lehc49:=Below.size hB
  have lehc49_hC:=Below.size hC
  have hc49:=Gr.refl w49
  simp only [p3,p4]
  refine sv 44 (.tuple #[u49,v49]) ?_
  refine sv 47 u49 ?_
  refine sv 48 v49 ?_
  refine sv 9 u49 ?_
  refine sv 10 v49 ?_
  refine sq_nil ?_
  refine k48 _ _ ?_
  try clear k48 K48
  refine wp_seq_k (fun K50 k50=>?_)
  refine rg [0] ?_
  refine sv 11 (.slice none 0 0) ?_
  refine sq_nil ?_
  refine k50 _ _ ?_
  try clear k50 K50
  refine wp_seq_k (fun K51 k51=>?_)
  refine wp_seq_k (fun K52 k52=>?_)
  refine rg [0] ?_
  refine sv 12 (.int .i64 0) ?_
  refine sq_nil ?_
  refine k52 _ _ ?_
  try clear k52 K52
  refine wp_block ?_
  refine wp_loop_inv (a:=⟨List.toArray ?l53,[]⟩) (fun n a w'=>∃ (q:Nat) (vq:Value) (u53:Nat→Value),R - q=n∧a=⟨[v,undef,(u53 2),(u53 3),vo,(.int .i64 ((R:Int))),(u14 6),(u14 7),(u14 8),u49,v49,vq,(.int .i64 ((q:Int))),(u53 13),(u53 14),(u53 15),(.bool (decide ((R:Int)<(R:Int)))),(u53 17),(u53 18),(u53 19),(u53 20),(u53 21),(u53 22),(u53 23),(u53 24),(u53 25),(u53 26),(u53 27),(u14 28),(u53 29),(u53 30),(u53 31),(u53 32),(u53 33),(u14 34),(u53 35),(u53 36),(u53 37),(u53 38),(u53 39),(u53 40),(u53 41),(u53 42),(u53 43),(u53 44),(u53 45),(u53 46),(u53 47),(u53 48),(u53 49),(u53 50),(u53 51),(u53 52),(u53 53),(u53 54),(u53 55),(u53 56),(u53 57),(u53 58),(u53 59),(u53 60),(u53 61),(u53 62),(u53 63),(u53 64),(u53 65),(u53 66),(u53 67),(u53 68),(u53 69),(u53 70),(u53 71),(u53 72),(u53 73),(u53 74),(u53 75),(u53 76),undef].toArray,[]⟩∧q≤R∧(∀ t,t<q→(t<(pl R (wid R m) (R+R))∧(pv (rs R (wid R m) (R+R)) t)=t))∧Ow (ERw EFr 84 2) 51 1 w' w49.heap.size vq (tb (fun z0=>tb (fun z1=>((rs R (wid R m) (R+R)).m z0 (R+z1))) R) q)∧Gr w14 w'∧Gr w49 w'∧Gr w w') (R - 0) ?_ ?_
  ·exact ⟨0,(.slice none 0 0),(fun i=>List.getD ?l53 i undef),rfl,rfl,(Nat.zero_le _),(fun t h=>absurd h (Nat.not_lt_zero t)),(Ow.nil _ _ _ _ _),hC,hc49,hB⟩
  rintro n53 a53 w53 ⟨q,vq,u53,rfl,rfl,hkq,hall,oq,hC,hc49,hB⟩ K53 k53
  have lehE:=Below.size hB
  have lehE_hC:=Below.size hC
  have lehE_hc49:=Below.size hc49
  have hE:=Gr.refl w53
  refine wp_seq_k (fun K54 k54=>?_)
  refine wp_seq_k (fun K55 k55=>?_)
  refine rg [0,1,2,3] ?_
  refine sv 49 (.int .i64 ((q:Int))) ?_
  refine sv 50 v ?_
  refine sw 51 (.int .i64 ((R:Int))) rfl (rv_lenn (e:=51) hs (tb_lenz rfl) _ _ rfl rfl (by kernel_rfl)) ?_
  refine sv 52 (.bool (decide ((q:Int)<(R:Int)))) ?_
  refine sq_nil ?_
  refine k55 _ _ ?_
  try clear k55 K55
  refine wp_cond_split (t:=decide ((q:Int)<(R:Int))) rfl (fun hb56=>?_) (fun hb56=>?_)
  ·have hlq:q<R:=by have:=of_decide_eq_true hb56;omega
   refine wp_skip ?_
   refine k54 _ _ ?_
   try clear k54 K54
   refine wp_seq_k (fun K57 k57=>?_)
   refine wp_block ?_
   refine wp_seq_k (fun K58 k58=>?_)
   refine wp_seq_k (fun K59 k59=>?_)
   refine rg [0,1,2,3,4,5,6,7,8,9,10,11] ?_
   refine sv 55 (.int .i64 ((q:Int))) ?_
   refine sv 56 v49 ?_
   refine sw 57 (.int .i64 (((pl R (wid R m) (R+R):Nat):Int))) rfl (rv_lenn (e:=3) hp49 (tb_lenz rfl) _ _ rfl rfl (by kernel_rfl)) ?_
   refine sv 58 (.bool (decide (((pl R (wid R m) (R+R):Nat):Int)≤(q:Int)))) ?_
   rcases Bool.eq_false_or_eq_true (decide (((pl R (wid R m) (R+R):Nat):Int)≤(q:Int))) with hb60 | hb60
   ·have hge:(pl R (wid R m) (R+R))≤q:=by have:=of_decide_eq_true hb60;omega
    refine swk 59 (.bool true) [(5,60),(6,61),(7,62),(8,63),(9,64),(10,65)] rfl (RunV.bool (x:=decide (((pl R (wid R m) (R+R):Nat):Int)≤(q:Int))) (rvk (by kernel_rfl)) hb60) ?_
    refine sv 66 (.bool true) ?_
    refine sq_nil ?_
    refine k59 _ _ ?_
    try clear k59 K59
    refine wp_cond_true rfl ?_
    refine wp_seq_k (fun K61 k61=>?_)
    refine rg [0,1] ?_
    refine sv 2 (.slice none 0 0) ?_
    refine sv 3 (.bool false) ?_
    refine sq_nil ?_
    refine k61 _ _ ?_
    try clear k61 K61
    refine wp_ret ?_
    simp only [Exit.then,Exit.inBlock]
    refine bodyPost_ret (v:=(.tuple #[(.slice none 0 0),(.bool false)])) (ret_tmp2 rfl rfl rfl) rfl ⟨?_,hB⟩
    exact rfl
   ·have hge:q<(pl R (wid R m) (R+R)):=by have:=of_decide_eq_false hb60;omega
    refine sw 59 (.bool false) rfl (RunV.bool (x:=decide (((pl R (wid R m) (R+R):Nat):Int)≤(q:Int))) (rvk (by kernel_rfl)) hb60) ?_
    refine sv 60 v49 ?_
    refine sv 61 (.int .i64 ((q:Int))) ?_
    refine sw 62 (adr v49 (q*1)) rfl (rv_idxn (e:=3) hp49 tb_len (by decide) q (by omega) _ _ _ rfl rfl rfl (by kernel_rfl) (by kernel_rfl)) ?_
    obtain ⟨_,_,rfl,at62⟩:=Sl.get hp49 (by decide) (tb_get (f:=(fun z1=>((pv (rs R (wid R m) (R+R)) z1:Nat):Int))) (n:=(pl R (wid R m) (R+R))) (i:=q) (by omega))
    refine sw 63 (.int .i64 (((pv (rs R (wid R m) (R+R)) q:Nat):Int))) rfl (rv_ld1 (.int .i64 (((pv (rs R (wid R m) (R+R)) q:Nat):Int))) (at62.gr hc49) _ _ rfl rfl (by kernel_rfl)) ?_
    refine sv 64 (.int .i64 ((q:Int))) ?_
    refine sv 65 (.bool ((((pv (rs R (wid R m) (R+R)) q:Nat):Int) !=(q:Int)))) ?_
    refine sv 66 (.bool ((((pv (rs R (wid R m) (R+R)) q:Nat):Int) !=(q:Int)))) ?_
    refine sq_nil ?_
    refine k59 _ _ ?_
    try clear k59 K59
    refine wp_cond_split (t:=(((pv (rs R (wid R m) (R+R)) q:Nat):Int) !=(q:Int))) rfl (fun hb63=>?_) (fun hb63=>?_)
    ·have hnp:=bne_t hb63
     refine wp_seq_k (fun K64 k64=>?_)
     refine rg [0,1] ?_
     refine sv 2 (.slice none 0 0) ?_
     refine sv 3 (.bool false) ?_
     refine sq_nil ?_
     refine k64 _ _ ?_
     try clear k64 K64
     refine wp_ret ?_
     simp only [Exit.then,Exit.inBlock]
     refine bodyPost_ret (v:=(.tuple #[(.slice none 0 0),(.bool false)])) (ret_tmp2 rfl rfl rfl) rfl ⟨?_,hB⟩
     exact rfl
    ·have hnp:=bne_f hb63
     refine wp_skip ?_
     refine k58 _ _ ?_
     try clear k58 K58
     refine rg [0,1,2,3,4,5,6,7,8,9,10] ?_
     refine sv 67 vq ?_
     refine sv 68 u49 ?_
     refine sv 69 (.int .i64 ((q:Int))) ?_
     refine sw 70 (adr u49 (q*1)) rfl (rv_idxn (e:=51) hs49 tb_len (by decide) q (by omega) _ _ _ rfl rfl rfl (by kernel_rfl) (by kernel_rfl)) ?_
     obtain ⟨_,_,⟨u65,rfl,hr65⟩,at65⟩:=Sl.get hs49 (by decide) (tb_get (f:=(fun z0=>tb (fun z1=>((rs R (wid R m) (R+R)).m z0 z1)) (R+R))) (n:=(pl R (wid R m) (R+R))) (i:=q) (by omega))
     refine sw 71 u65 rfl (rv_ld1 u65 (at65.gr hc49) _ _ rfl rfl (by kernel_rfl)) ?_
     refine sv 72 v ?_
     refine sw 73 (.int .i64 ((R:Int))) rfl (rv_lenn (e:=51) hs (tb_lenz rfl) _ _ rfl rfl (by kernel_rfl)) ?_
     have hs66:=hr65.subt (show R≤(R+R) by omega) (show (R+R)≤(R+R) by omega)
     refine sw 74 (subv u65 R (R+R) 2) rfl (rv_subt (e:=84) hr65 R (R+R) (by omega) (by omega) _ _ _ _ rfl rfl (.inr rfl) (.inl ⟨rfl,rfl⟩) (by kernel_rfl) (by kernel_rfl)) ?_
     refine se ?_
     refine eff_bs1 26 51 (subv u65 R (R+R) 2) (some 75) rfl rfl rfl (hs66.gr stab_fr hc49).forms (fun _ _ _ _=>by kernel_rfl) (fun b67 w67 g67 L67 q67=>?_)
     have qr67:=q67
     have q67_hC:=Nat.le_trans (Below.size hC) q67
     have q67_hc49:=Nat.le_trans (Below.size hc49) q67
     have q67_hE:=Nat.le_trans (Below.size hE) q67
     replace hB:=hB.trans g67
     replace hC:=hC.trans g67
     replace hc49:=hc49.trans g67
     replace hE:=hE.trans g67
     simp only [putl,p3,p4]
     refine se ?_
     refine eff_apg (stab_rw stab_fr 84 2) _ _ 26 51 w49.heap.size (.slice none 0 0) vq (tb (fun z0=>tb (fun z1=>((rs R (wid R m) (R+R)).m z0 (R+z1))) R) q) b67 [(subv u65 R (R+R) 2)] (tb (fun z3=>(fun z1=>((rs R (wid R m) (R+R)).m q z1)) (R+z3)) ((R+R) - R)) 1 1 (some 76) 24 rfl rfl rfl rfl (oq.gr (stab_rw stab_fr 84 2) hE) L67 ⟨hs66.one,trivial⟩ rfl ⟨_,rfl,(hs66.gr stab_fr hc49)⟩ (Below.size hc49) (by rw [tb_len];omega) (by decide) (by kernel_rfl) (by kernel_rfl) (by decide) (by decide) (fun v68 w68 ow68 wt68 hg68=>?_)
     replace hB:=hg68 _ hB lehc49
     replace hC:=hg68 _ hC lehc49_hC
     replace hc49:=hg68 _ hc49 (Nat.le_refl _)
     replace ow68:=ow68.cast (tb_snoc (f:=(fun z0=>tb (fun z1=>((rs R (wid R m) (R+R)).m z0 (R+z1))) R)) (n:=q) (by rw [Nat.add_sub_cancel]))
     simp only [putl,p3,p4]
     refine sv 11 v68 ?_
     refine sq_nil ?_
     refine k57 _ _ ?_
     try clear k57 K57
     refine rg [0,1,2] ?_
     refine sv 53 (.int .i64 ((q:Int))) ?_
     refine sw 54 (.int .i64 (((q:Int)+1))) rfl (RunV.int (x:=IntKind.i64.wrap (((q:Int)+1))) (y:=((q:Int)+1)) (rvk (by kernel_rfl)) (by first | rfl | (rw [IntKind.wrap_i64];omega))) ?_
     refine sv 12 (.int .i64 (((q:Int)+1))) ?_
     refine sq_nil ?_
     refine k53 (R - (q+1)) ⟨List.toArray ?l69,[]⟩ _ (by omega) ?_
     exact ⟨q+1,v68,(fun i=>List.getD ?l69 i undef),rfl,rfl,(by omega),(all_succ3 hall ⟨hge,hnp⟩),ow68,hC,hc49,hB⟩
  ·have heq:R=q:=by have:=of_decide_eq_false hb56;omega
   subst heq
   refine wp_exit ?_
   simp only [Exit.then,Exit.inBlock,↓reduceIte]
   refine k51 _ _ ?_
   try clear k51 K51
   refine wp_seq_k (fun K70 k70=>?_)
   refine rg [0,1,2] ?_
   refine sv 77 vq ?_
   refine sv 2 vq ?_
   refine sv 3 (.bool true) ?_
   refine sq_nil ?_
   refine k70 _ _ ?_
   try clear k70 K70
   refine wp_ret ?_
   refine bodyPost_ret (v:=(.tuple #[vq,(.bool true)])) (ret_tmp2 rfl rfl rfl) rfl ⟨?_,hB⟩
   exact (absurd hall hok)

section
variable {α:Type} {E:World→α→List Value→Prop} {ts:List TypeId} {T c:Nat} {w w':World} {v:Value} {xs:List (List α)}
theorem Sl.esl_gr (hS:Stab E ts) (h:Sl (ESl E c) T 1 w v xs) (g:Gr w w'):Sl (ESl E c) T 1 w' v xs:=by
  obtain ⟨ys,h1,h2⟩:=h
  refine ⟨ys,h1.kt (g.kt T),h2.1,fun i x hx=>?_⟩
  obtain ⟨u,T2,e,hs⟩:=h2.2 i x hx
  exact ⟨u,T2,e,hs.gr hS g⟩
end
section
variable {w w':World} {x v:Value} {R N:Nat} {m:Mx_}
theorem en_zs {T Z:Nat} {ee:Nat→Int × Int} (h:Sl EEn T 2 w v (tb ee Z)) (k:Nat):RZ 8 3 (en ee Z k):=
  en_z fun j hj=>by
    obtain ⟨vs,_,h2,_⟩:=h.get (by decide) (tb_get (f:=ee) hj)
    exact h2.2
/-- a table that a law gets:how many rows and columns,which numbers -/
def TA (w:World) (x:Value) (R N:Nat) (m:Mx_):Prop:=
  ∃ (TQ Z cc:Nat) (v:Value) (ee:Nat→Nat→Int × Int) (zl:Nat→Nat),x=.agg #[.int .u8 (cc:Int),v]∧Sl (ESl EEn 2) TQ 1 w v (tb (fun z0=>tb (ee z0) (zl z0)) Z)∧cc≤255∧R=min Z 5∧N=(if R=0 then 0 else cc % 7)∧m=fun i k=>if i<R∧k<N then en (ee i) (zl i) k else 0
theorem TA.gr (h:TA w x R N m) (g:Gr w w'):TA w' x R N m:=by
  obtain ⟨TQ,Z,cc,v,ee,zl,h1,h2,h3⟩:=h
  exact ⟨TQ,Z,cc,v,ee,zl,h1,h2.esl_gr stab_en g,h3⟩
theorem TA.one0 {cc:Int} (h:TA w (.agg #[.int .u8 cc,v]) R N m):v.oneCell'=true:=by
  obtain ⟨_,_,_,v',_,_,h1,h2,_⟩:=h
  obtain rfl:v=v':=by simp at h1;exact h1.2
  exact h2.one
theorem TA.R5 (h:TA w x R N m):R≤5:=by
  obtain ⟨_,_,_,_,_,_,_,_,_,h,_⟩:=h;omega
theorem TA.N6 (h:TA w x R N m):N≤6:=by
  obtain ⟨_,_,_,_,_,_,_,_,_,_,h,_⟩:=h;split at h<;>omega
theorem TA.R0 (h:TA w x R N m):R=0→N=0:=fun e=>by
  obtain ⟨_,_,_,_,_,_,_,_,_,_,h,_⟩:=h;rw [if_pos e] at h;exact h
theorem TA.out (h:TA w x R N m) {i k:Nat} (hn:¬ (i<R∧k<N)):m i k=0:=by
  obtain ⟨_,_,_,_,_,_,_,_,_,_,_,rfl⟩:=h;exact if_neg hn
theorem TA.z (h:TA w x R N m) (i k:Nat):RZ 8 3 (m i k):=by
  by_cases hi:i<R∧k<N
  · obtain ⟨_,_,_,_,_,_,_,hs,_,h2,_,rfl⟩:=h
    simp only [if_pos hi]
    obtain ⟨_,_,hr,_⟩:=hs.get (by decide) (tb_get (i:=i) (by omega))
    obtain ⟨u,T2,_,h3⟩:=hr
    exact en_zs h3 k
  · rw [h.out hi];exact RZ.zero _ _ (by decide)
theorem TA.zz (h:TA w x R N m):∀ i,i<R→∀ k,k<N→RZ 8 3 (m i k):=fun i _ k _=>h.z i k
/-- the rows of such a table -/
theorem l5_rowsT (h:TA w x R N m):Calls Tryz.prog 13 #[x] w fun e w'=>(∃ u,e=.returned u∧Sl (ERw EFr 84 2) 51 1 w' u (tb (fun z0=>tb (fun z1=>m z0 z1) N) R))∧Gr w w':=by
  obtain ⟨TQ,Z,cc,v,ee,zl,rfl,hs,hc,hR,hN,rfl⟩:=h
  refine (l5_rows hR hc hs).mono fun e w'=>?_
  rintro ⟨⟨u,rfl,h1⟩,hg⟩
  refine ⟨⟨u,rfl,h1.cast ?_⟩,hg⟩
  by_cases h0:R=0
  · rw [h0];rfl
  · rw [if_neg h0] at hN
    rw [← hN]
    exact tb_congr fun i hi=>tb_congr fun k hk=>(if_pos ⟨hi,hk⟩).symm
end
/-! ### a law's arguments -/
theorem esl_en {w:World} {x:List (List Int)} {vs:List Value} (h:ESl (EK [.i8,.u8]) 2 w x vs):ESl EEn 2 w (x.map fun y=>(y.getD 0 0,y.getD 1 0)) vs:=by
  obtain ⟨u,T,e,hs⟩:=h
  exact ⟨u,T,e,hs.mapE _ fun _ _=>ek_en⟩
theorem ta_of {T:Nat} {w:World} {u:Value} {xs:List (List (List Int))} (h:Sl (ESl (EK [.i8,.u8]) 2) T 1 w u xs) {cc:Int} (hc:0≤cc∧cc≤255):∃ (R N:Nat) (m:Mx_),TA w (.agg #[.int .u8 cc,u]) R N m:=by
  have h1:=(h.mapE _ fun _ _=>esl_en).cast (list_tb ([]:List (Int × Int)) _)
  refine ⟨_,_,_,T,_,cc.toNat,u,_,_,by rw [Int.toNat_of_nonneg hc.1],h1.cast (tb_congr fun i _=>list_tb (0,0) _),by omega,rfl,rfl,rfl⟩
/-! ### closed slices -/
section
variable {w:World} {b T:Nat}
theorem els_i64 (w:World):∀ zs:List Int,Els EI64 1 w (zs.map fun z=>Value.int .i64 z) zs
  | []=>Els.nil ..
  | zs=>⟨by simp,fun i x hx=>by
      have hi:=(List.getElem?_eq_some_iff.1 hx).1
      have e:(zs.map fun z=>Value.int .i64 z)[i]?=some (.int .i64 x):=by rw [List.getElem?_map,hx];rfl
      show _=_
      obtain ⟨hl,hv⟩:=List.getElem?_eq_some_iff.1 e
      rw [Nat.mul_one,List.drop_eq_getElem_cons hl,hv];rfl⟩
theorem sl_i64 {us:Array Value} (h:Lc w b us T) (zs:List Int) (n:Nat) (hu:us=(zs.map fun z=>Value.int .i64 z).toArray) (hn:zs.length=n):Sl EI64 T 1 w (.slice (some ⟨b,0,none⟩) n n) zs:=by
  subst hu
  exact Mk.sl_n ⟨_,h,els_i64 w zs⟩ hn (Nat.le_refl _)
variable {α:Type} {E:World→α→List Value→Prop} {T2 c:Nat} {u v:Value} {x y:List α}
theorem sl_row1 (h:Lc w b #[u] T) (hu:Sl E T2 c w u x):Sl (ERw E T2 c) T 1 w (.slice (some ⟨b,0,none⟩) 1 1) [x]:=
  Mk.sl_n ⟨[u],h,(Els.nil _ _ _).snoc (x:=x) (vs:=[u]) rfl ⟨u,rfl,hu⟩⟩ rfl (Nat.le_refl _)
theorem sl_row2 (h:Lc w b #[u,v] T) (hu:Sl E T2 c w u x) (hv:Sl E T2 c w v y):Sl (ERw E T2 c) T 1 w (.slice (some ⟨b,0,none⟩) 2 2) [x,y]:=
  Mk.sl_n ⟨[u,v],h,((Els.nil _ _ _).snoc (x:=x) (vs:=[u]) rfl ⟨u,rfl,hu⟩).snoc (x:=y) (vs:=[v]) rfl ⟨v,rfl,hv⟩⟩ rfl (Nat.le_refl _)
end
/-- numbers of rows that are written out -/
def nl (L:List (List Int)) (i k:Nat):Int:=(L.getD i []).getD k 0
abbrev nq (L:List (List Int)):Mx_:=fun i k=>((nl L i k:Int):Rat)
theorem nl_s {L:List (List Int)} (h:(L.all fun l=>l.all fun z=>decide (z.natAbs<256))=true) (i k:Nat):(nl L i k).natAbs<256:=by
  unfold nl
  have e0:L.getD i []=L[i]?.getD []:=List.getD_eq_getElem?_getD ..
  rw [e0]
  cases e:L[i]? with
  | none=>simp
  | some l=>
    rw [Option.getD_some]
    cases e2:l[k]? with
    | none=>rw [List.getD_eq_getElem?_getD,e2];simp
    | some z=>
      rw [List.getD_eq_getElem?_getD,e2,Option.getD_some]
      have h1:=List.all_eq_true.1 h l (List.mem_of_getElem? e)
      have h2:=List.all_eq_true.1 h1 z (List.mem_of_getElem? e2)
      simpa using h2
theorem nl_b {L:List (List Int)} {R N:Nat} (h:(L.all fun l=>l.all fun z=>decide (z.natAbs<256))=true):∀ i,i<R→∀ k,k<N→-9223372036854775808≤nl L i k∧nl L i k≤9223372036854775807:=fun i _ k _=>by
  have:=nl_s h i k;omega
theorem nq_z {L:List (List Int)} {R N:Nat} (h:(L.all fun l=>l.all fun z=>decide (z.natAbs<256))=true):∀ i,i<R→∀ k,k<N→RZ 8 3 (nq L i k):=fun i _ k _=>by
  have hs:=nl_s h i k
  exact (RZ.int (a:=8) (by unfold Sz;omega)).mono (Nat.le_refl _) (by decide)
/-! ### numbers that may be longer -/
theorem Sl.rats {k K T c:Nat} {w:World} {v:Value} {xs:List Rat} (h:Sl (ERat k) T c w v xs) (hk:k≤K):Sl (ERat K) T c w v xs:=h.mono fun _ _ hx=>hx.mono hk
theorem Sl.ratrows {k K T c T2 c2:Nat} {w:World} {v:Value} {xs:List (List Rat)} (h:Sl (ERw (ERat k) T c) T2 c2 w v xs) (hk:k≤K):Sl (ERw (ERat K) T c) T2 c2 w v xs:=
  h.mono fun _ _ hx=>by
    obtain ⟨u,e,hs⟩:=hx
    exact ⟨u,e,hs.rats hk⟩
section
variable {w:World} {x:Value} {R N:Nat} {m:Mx_}
theorem TA.bd (h:TA w x R N m):∀ k,k≤N→RdZ R N 4899 (rs R m k):=rs_sm h.zz (.inr h.R5) (Nat.le_refl _)
end
theorem f5_detE {R:Nat} (hR:R≤5) {v:Value} {m:Mx_} {w:World} (hs:Sl (ERw EFr 84 2) 51 1 w v (tb (fun z0=>tb (fun z1=>m z0 z1) R) R)) (hz:∀ i,i<R→∀ j,j<R→RZ 8 3 (m i j)):
    Calls Tryz.prog 42 #[v] w fun e w'=>e=.returned (.agg #[.string ⟨(Lib.itoa (dtE R m).num).toArray⟩,.string ⟨(Lib.itoa ((dtE R m).den:Int)).toArray⟩])∧Gr w w':=by
  rw [← Dr_dtE];exact f5_det R hR v m w hs hz
theorem dtE_z {R K:Nat} {m:Mx_} (hK:0<K) (h:RdZ R R K (rs R m R)):RZ K K (dtE R m):=by
  by_cases hl:pl R m R<R
  · rw [← dtE_lt hl];exact RZ.zero _ _ hK
  · rw [← dtE_ge hl];exact h.2
set_option maxRecDepth 100000 in
set_option maxHeartbeats 1000000 in
theorem l5_known (w:World) (_hm:Mx w) (ht:Tab w):
    Calls Tryz.prog 12 #[] w fun e w'=>e=.returned (.bool true)∧Gr w w':=by
 go_enter Tryz.func12,Tryz.ntmps12
 have hB:=Gr.refl w
 refine wp_seq_k (fun K10 k10=>?_)
 refine rg [0] ?_
 refine sv 0 (.bool false) ?_
 refine sq_nil ?_
 refine k10 _ _ ?_
 try clear k10 K10
 refine wp_seq_k (fun K11 k11=>?_)
 refine rg [0,1,2,3,4,5,6,7,8,9,10,11] ?_
 refine se ?_
 refine eff_bs 3 3 #[(.int .i64 2),(.int .i64 4),(.int .i64 6)] (some 9) rfl (fun _=>by kernel_rfl) (fun b12 w12 g12 L12 q12=>?_)
 replace hB:=hB.trans g12
 simp only [putl,p3,p4]
 refine se ?_
 refine eff_bs 3 3 #[(.int .i64 1),(.int .i64 2),(.int .i64 4)] (some 10) rfl (fun _=>by kernel_rfl) (fun b13 w13 g13 L13 q13=>?_)
 replace hB:=hB.trans g13
 simp only [putl,p3,p4]
 refine se ?_
 refine eff_bs 30 2 #[(.slice (some ⟨b12,0,none⟩) 3 3),(.slice (some ⟨b13,0,none⟩) 3 3)] (some 11) rfl (fun _=>by kernel_rfl) (fun b14 w14 g14 L14 q14=>?_)
 replace L12:=L12.gr g13
 replace hB:=hB.trans g14
 simp only [putl,p3,p4]
 refine se ?_
 replace L12:=L12.gr g14
 replace L13:=L13.gr g14
 refine ec 12 (l5_numbers (R:=2) (N:=3) (nn:=nl [[2,4,6],[1,2,4]]) (by decide) (by decide) (nl_b (by decide)) ((sl_row2 L14 (sl_i64 L12 [2,4,6] 3 rfl rfl) (sl_i64 L13 [1,2,4] 3 rfl rfl)).cast (show [[2,4,6],[1,2,4]]=tb (fun z0=>tb (fun z1=>nl [[2,4,6],[1,2,4]] z0 z1) 3) 2 from by kernel_rfl))) ?_
 rintro e15 w15 ⟨⟨u15,rfl,hs15⟩,g15⟩
 refine ⟨_,rfl,?_⟩
 replace hB:=hB.trans g15
 simp only [p3,p4]
 refine se ?_
 refine ec 13 (mx_Reduce (K:=4899) (m:=(nq [[2,4,6],[1,2,4]])) (fun h=>absurd h (by decide)) (by decide) (by decide) (by decide) (by decide) (rs_sm (nq_z (by decide)) (.inr (by decide)) (Nat.le_refl _)) (hs15.ratrows (by omega))) ?_
 rintro e16 w16 ⟨⟨u16,v16,rfl,hs16,hp16⟩,g16⟩
 refine ⟨_,rfl,?_⟩
 replace hB:=hB.trans g16
 replace hs16:=hs16.cast (show _=tb (fun z0=>tb (fun z1=>nq [[1,2,0],[0,0,1]] z0 z1) 3) 2 from by kernel_rfl)
 replace hp16:=hp16.cast (show _=tb (fun z1=>([0,2]:List Int).getD z1 0) 2 from by kernel_rfl)
 simp only [p3,p4]
 refine sv 8 (.tuple #[u16,v16,(.int .i64 0)]) ?_
 refine sv 14 u16 ?_
 refine sv 15 v16 ?_
 refine sv 16 (.int .i64 0) ?_
 refine sv 1 u16 ?_
 refine sv 2 v16 ?_
 refine sv 3 (.int .i64 0) ?_
 refine sq_nil ?_
 refine k11 _ _ ?_
 try clear k11 K11
 refine wp_seq_k (fun K17 k17=>?_)
 refine rg [0,1,2,3,4,5,6,7,8,9] ?_
 refine se ?_
 refine eff_bs 3 3 #[(.int .i64 2),(.int .i64 4),(.int .i64 6)] (some 18) rfl (fun _=>by kernel_rfl) (fun b18 w18 g18 L18 q18=>?_)
 replace hB:=hB.trans g18
 simp only [putl,p3,p4]
 refine se ?_
 refine eff_bs 3 3 #[(.int .i64 1),(.int .i64 2),(.int .i64 4)] (some 19) rfl (fun _=>by kernel_rfl) (fun b19 w19 g19 L19 q19=>?_)
 replace hB:=hB.trans g19
 simp only [putl,p3,p4]
 refine se ?_
 refine eff_bs 30 2 #[(.slice (some ⟨b18,0,none⟩) 3 3),(.slice (some ⟨b19,0,none⟩) 3 3)] (some 20) rfl (fun _=>by kernel_rfl) (fun b20 w20 g20 L20 q20=>?_)
 replace L18:=L18.gr g19
 replace hB:=hB.trans g20
 simp only [putl,p3,p4]
 refine se ?_
 replace L18:=L18.gr g20
 replace L19:=L19.gr g20
 refine ec 21 (l5_numbers (R:=2) (N:=3) (nn:=nl [[2,4,6],[1,2,4]]) (by decide) (by decide) (nl_b (by decide)) ((sl_row2 L20 (sl_i64 L18 [2,4,6] 3 rfl rfl) (sl_i64 L19 [1,2,4] 3 rfl rfl)).cast (show [[2,4,6],[1,2,4]]=tb (fun z0=>tb (fun z1=>nl [[2,4,6],[1,2,4]] z0 z1) 3) 2 from by kernel_rfl))) ?_
 rintro e21 w21 ⟨⟨u21,rfl,hs21⟩,g21⟩
 refine ⟨_,rfl,?_⟩
 replace hB:=hB.trans g21
 simp only [p3,p4]
 refine se ?_
 refine ec 22 (mx_Kernel (K:=4899) (D:=3) (m:=nq [[2,4,6],[1,2,4]]) (by decide) (by decide) (by decide) (by decide) (rs_sm (nq_z (by decide)) (.inr (by decide)) (Nat.le_refl _)) (hs21.ratrows (by omega))) ?_
 rintro e22 w22 ⟨⟨u22,rfl,hs22⟩,g22⟩
 refine ⟨_,rfl,?_⟩
 replace hB:=hB.trans g22
 replace hs22:=hs22.cast (show _=tb (fun z0=>tb (fun z1=>nq [[-2,1,0]] z0 z1) 3) 1 from by kernel_rfl)
 simp only [p3,p4]
 refine sv 17 (.tuple #[u22,(.int .i64 0)]) ?_
 refine sv 23 u22 ?_
 refine sv 24 (.int .i64 0) ?_
 refine sv 4 u22 ?_
 refine sv 5 (.int .i64 0) ?_
 refine sq_nil ?_
 refine k17 _ _ ?_
 try clear k17 K17
 refine wp_seq_k (fun K23 k23=>?_)
 have lehC:=Below.size hB
 have hC:=Gr.refl w22
 replace hs15:=hs15.gr (stab_rw (stab_rat 64) 71 4) (g16.trans (g18.trans (g19.trans (g20.trans (g21.trans g22)))))
 replace hs16:=hs16.gr (stab_rw (stab_rat 4899) 71 4) (g18.trans (g19.trans (g20.trans (g21.trans g22))))
 replace hp16:=hp16.gr stab_i64 (g18.trans (g19.trans (g20.trans (g21.trans g22))))
 replace hs21:=hs21.gr (stab_rw (stab_rat 64) 71 4) g22
 refine rg [0,1,2,3,4,5,6,7,8,9,10] ?_
 refine se ?_
 refine eff_bs 3 2 #[(.int .i64 1),(.int .i64 2)] (some 26) rfl (fun _=>by kernel_rfl) (fun b24 w24 g24 L24 q24=>?_)
 have q24_hC:=Nat.le_trans (Below.size hC) q24
 replace hB:=hB.trans g24
 replace hC:=hC.trans g24
 simp only [putl,p3,p4]
 refine se ?_
 refine eff_bs 3 2 #[(.int .i64 3),(.int .i64 4)] (some 27) rfl (fun _=>by kernel_rfl) (fun b25 w25 g25 L25 q25=>?_)
 have q25_hC:=Nat.le_trans (Below.size hC) q25
 replace hB:=hB.trans g25
 replace hC:=hC.trans g25
 simp only [putl,p3,p4]
 refine se ?_
 refine eff_bs 30 2 #[(.slice (some ⟨b24,0,none⟩) 2 2),(.slice (some ⟨b25,0,none⟩) 2 2)] (some 28) rfl (fun _=>by kernel_rfl) (fun b26 w26 g26 L26 q26=>?_)
 replace L24:=L24.gr g25
 have q26_hC:=Nat.le_trans (Below.size hC) q26
 replace hB:=hB.trans g26
 replace hC:=hC.trans g26
 simp only [putl,p3,p4]
 refine se ?_
 replace L24:=L24.gr g26
 replace L25:=L25.gr g26
 refine ec 29 (l5_numbers (R:=2) (N:=2) (nn:=nl [[1,2],[3,4]]) (by decide) (by decide) (nl_b (by decide)) ((sl_row2 L26 (sl_i64 L24 [1,2] 2 rfl rfl) (sl_i64 L25 [3,4] 2 rfl rfl)).cast (show [[1,2],[3,4]]=tb (fun z0=>tb (fun z1=>nl [[1,2],[3,4]] z0 z1) 2) 2 from by kernel_rfl))) ?_
 rintro e27 w27 ⟨⟨u27,rfl,hs27⟩,g27⟩
 refine ⟨_,rfl,?_⟩
 replace hB:=hB.trans g27
 replace hC:=hC.trans g27
 simp only [p3,p4]
 refine se ?_
 refine ec 30 (mx_Determinant (K:=4899) (m:=nq [[1,2],[3,4]]) (by decide) (by decide) (by decide) (rs_sm (nq_z (by decide)) (.inr (by decide)) (Nat.le_refl _)) (hs27.ratrows (by omega))) ?_
 rintro e28 w28 ⟨⟨p28,q28,r28,s28,rfl,h28⟩,g28⟩
 refine ⟨_,rfl,?_⟩
 replace hB:=hB.trans g28
 replace hC:=hC.trans g28
 replace h28:=h28.castq (show _=(-2:Rat) from by kernel_rfl)
 simp only [p3,p4]
 refine sv 25 (.tuple #[(.agg #[p28,q28,r28,s28]),(.int .i64 0)]) ?_
 refine sv 31 (.agg #[p28,q28,r28,s28]) ?_
 refine sv 32 (.int .i64 0) ?_
 refine se ?_
 refine ea 71 #[(.bool false),(.slice none 0 0),(.bool false),(.slice none 0 0)] 6 hB fun b29 w29 g29 L29 o29 q29 hB=>?_
 have q29_hC:=Nat.le_trans (Below.size hC) o29
 replace hC:=hC.trans g29
 simp only [p3,p4]
 refine se ?_
 have lo30:=L29
 refine es 71 0 (.agg #[p28,q28,r28,s28]) [p28,q28,r28,s28] #[p28,q28,r28,s28] L29 hB q29 ⟨h28.one0,h28.one1,h28.one2,h28.one3,trivial⟩ fun w30 st30 kp30 L29 hB=>?_
 replace hC:=st30.gr hC q29_hC
 refine sv 7 (.int .i64 0) ?_
 refine sq_nil ?_
 refine k23 _ _ ?_
 try clear k23 K23
 refine wp_seq_k (fun K31 k31=>?_)
 refine rg [0,1,2,3,4,5,6,7,8,9,10,11,12,13,14,15,16,17,18,19,20,21,22,23,24,25,26,27,28,29,30,31,32,33,34,35,36,37,38,39,40,41,42,43,44,45,46,47] ?_
 refine sv 33 u16 ?_
 refine se ?_
 refine eff_bs 3 3 #[(.int .i64 1),(.int .i64 2),(.int .i64 0)] (some 34) rfl (fun _=>by kernel_rfl) (fun b32 w32 g32 L32 q32=>?_)
 have q32_hC:=Nat.le_trans (Below.size hC) q32
 replace hB:=hB.trans g32
 replace hC:=hC.trans g32
 simp only [putl,p3,p4]
 refine se ?_
 refine eff_bs 3 3 #[(.int .i64 0),(.int .i64 0),(.int .i64 1)] (some 35) rfl (fun _=>by kernel_rfl) (fun b33 w33 g33 L33 q33=>?_)
 replace L29:=L29.gr g32
 have q33_hC:=Nat.le_trans (Below.size hC) q33
 replace hB:=hB.trans g33
 replace hC:=hC.trans g33
 simp only [putl,p3,p4]
 refine se ?_
 refine eff_bs 30 2 #[(.slice (some ⟨b32,0,none⟩) 3 3),(.slice (some ⟨b33,0,none⟩) 3 3)] (some 36) rfl (fun _=>by kernel_rfl) (fun b34 w34 g34 L34 q34=>?_)
 replace L29:=L29.gr g33
 replace L32:=L32.gr g33
 have q34_hC:=Nat.le_trans (Below.size hC) q34
 replace hB:=hB.trans g34
 replace hC:=hC.trans g34
 simp only [putl,p3,p4]
 refine se ?_
 replace L32:=L32.gr g34
 replace L33:=L33.gr g34
 refine ec 37 (l5_numbers (R:=2) (N:=3) (nn:=nl [[1,2,0],[0,0,1]]) (by decide) (by decide) (nl_b (by decide)) ((sl_row2 L34 (sl_i64 L32 [1,2,0] 3 rfl rfl) (sl_i64 L33 [0,0,1] 3 rfl rfl)).cast (show [[1,2,0],[0,0,1]]=tb (fun z0=>tb (fun z1=>nl [[1,2,0],[0,0,1]] z0 z1) 3) 2 from by kernel_rfl))) ?_
 rintro e35 w35 ⟨⟨u35,rfl,hs35⟩,g35⟩
 refine ⟨_,rfl,?_⟩
 replace hB:=hB.trans g35
 replace hC:=hC.trans g35
 simp only [p3,p4]
 refine se ?_
 refine ec 38 (mx_Equal (by omega) (by omega) (by omega) (hs16.gr (stab_rw (stab_rat 4899) 71 4) hC) hs35) ?_
 rintro e36 w36 ⟨rfl,g36⟩
 refine ⟨_,rfl,?_⟩
 replace hB:=hB.trans g36
 replace hC:=hC.trans g36
 simp only [p3,p4]
 refine sv 39 (.bool true) ?_
 refine sv 40 v16 ?_
 refine sw 41 (.int .i64 2) rfl (rv_lenn (e:=3) hp16 (tb_lenz rfl) _ _ rfl rfl (by kernel_rfl)) ?_
 refine sv 42 (.bool true) ?_
 refine sv 43 (.bool true) ?_
 refine sv 44 (.bool true) ?_
 refine sv 45 v16 ?_
 refine sw 46 (adr v16 (0*1)) rfl (rv_idxn (e:=3) hp16 tb_len (by decide) 0 (by omega) _ _ _ rfl rfl rfl (by kernel_rfl) (by kernel_rfl)) ?_
 obtain ⟨_,_,rfl,at37⟩:=Sl.get hp16 (by decide) (tb_get (f:=(fun z1=>([0,2]:List Int).getD z1 0)) (n:=2) (i:=0) (by omega))
 refine sw 47 (.int .i64 0) rfl (rv_ld1 (.int .i64 0) (at37.gr hC) _ _ rfl rfl (by kernel_rfl)) ?_
 refine sv 48 (.bool true) ?_
 refine sv 49 (.bool true) ?_
 refine sv 50 (.bool true) ?_
 refine sv 51 v16 ?_
 refine sw 52 (adr v16 (1*1)) rfl (rv_idxn (e:=3) hp16 tb_len (by decide) 1 (by omega) _ _ _ rfl rfl rfl (by kernel_rfl) (by kernel_rfl)) ?_
 obtain ⟨_,_,rfl,at38⟩:=Sl.get hp16 (by decide) (tb_get (f:=(fun z1=>([0,2]:List Int).getD z1 0)) (n:=2) (i:=1) (by omega))
 refine sw 53 (.int .i64 2) rfl (rv_ld1 (.int .i64 2) (at38.gr hC) _ _ rfl rfl (by kernel_rfl)) ?_
 refine sv 54 (.bool true) ?_
 refine sv 55 (.bool true) ?_
 refine sv 56 (.bool true) ?_
 refine sv 57 (.int .i64 0) ?_
 refine sv 58 (.bool true) ?_
 refine sv 59 (.bool true) ?_
 refine sv 60 (.bool true) ?_
 refine sv 61 u22 ?_
 refine se ?_
 refine eff_bs 3 3 #[(.int .i64 (-2)),(.int .i64 1),(.int .i64 0)] (some 62) rfl (fun _=>by kernel_rfl) (fun b39 w39 g39 L39 q39=>?_)
 replace L29:=L29.gr (g34.trans (g35.trans g36))
 have q39_hC:=Nat.le_trans (Below.size hC) q39
 replace hB:=hB.trans g39
 replace hC:=hC.trans g39
 simp only [putl,p3,p4]
 refine se ?_
 refine eff_bs 30 1 #[(.slice (some ⟨b39,0,none⟩) 3 3)] (some 63) rfl (fun _=>by kernel_rfl) (fun b40 w40 g40 L40 q40=>?_)
 replace L29:=L29.gr g39
 have q40_hC:=Nat.le_trans (Below.size hC) q40
 replace hB:=hB.trans g40
 replace hC:=hC.trans g40
 simp only [putl,p3,p4]
 refine se ?_
 replace L39:=L39.gr g40
 refine ec 64 (l5_numbers (R:=1) (N:=3) (nn:=nl [[-2,1,0]]) (by decide) (by decide) (nl_b (by decide)) ((sl_row1 L40 (sl_i64 L39 [-2,1,0] 3 rfl rfl)).cast (show [[-2,1,0]]=tb (fun z0=>tb (fun z1=>nl [[-2,1,0]] z0 z1) 3) 1 from by kernel_rfl))) ?_
 rintro e41 w41 ⟨⟨u41,rfl,hs41⟩,g41⟩
 refine ⟨_,rfl,?_⟩
 replace hB:=hB.trans g41
 replace hC:=hC.trans g41
 simp only [p3,p4]
 refine se ?_
 refine ec 65 (mx_Equal (by omega) (by omega) (by omega) (hs22.gr (stab_rw (stab_rat 4899) 71 4) hC) hs41) ?_
 rintro e42 w42 ⟨rfl,g42⟩
 refine ⟨_,rfl,?_⟩
 replace hB:=hB.trans g42
 replace hC:=hC.trans g42
 simp only [p3,p4]
 refine sv 66 (.bool true) ?_
 refine sv 67 (.bool true) ?_
 refine sv 68 (.int .i64 0) ?_
 refine sv 69 (.bool true) ?_
 refine sv 70 (.bool true) ?_
 refine sv 71 (.bool true) ?_
 replace L29:=L29.gr (g40.trans (g41.trans g42))
 refine sw 72 (.agg #[p28,q28,r28,s28]) rfl (rl 71 0 [p28,q28,r28,s28] L29) ?_
 refine se ?_
 have kq44:=g29.kp.trans (kp30.trans (g32.kp.trans (g33.kp.trans (g34.kp.trans (g35.kp.trans (g36.kp.trans (g39.kp.trans (g40.kp.trans (g41.kp.trans g42.kp)))))))))
 replace h28:=h28.kp kq44
 refine ec 73 (number_r h28 (by omega) (ht.gr hB)) ?_
 rintro e43 w43 ⟨rfl,g43⟩
 refine ⟨_,rfl,?_⟩
 replace hB:=hB.trans g43
 replace hC:=hC.trans g43
 simp only [p3,p4]
 have hb45:(((ratL (-2:Rat))==([45,50]:List UInt8)))=true:=(by decide+kernel)
 refine sw 74 (.bool true) rfl (RunV.bool (x:=((ratL (-2:Rat))==([45,50]:List UInt8))) (rv_seq 61 61 _ _ (ratL (-2:Rat)) ([45,50]) rfl rfl rfl) hb45) ?_
 refine sv 75 (.bool true) ?_
 refine sv 76 (.bool true) ?_
 refine sv 77 (.int .i64 0) ?_
 refine sv 78 (.bool true) ?_
 refine sv 79 (.bool true) ?_
 refine sv 0 (.bool true) ?_
 refine sq_nil ?_
 refine k31 _ _ ?_
 try clear k31 K31
 refine wp_ret ?_
 refine bodyPost_ret (v:=(.bool true)) (ret_tmp rfl rfl) rfl ⟨?_,hB⟩
 exact rfl

end Go.Proofs.YtepgkcimmdmgcaaGreatDoor
