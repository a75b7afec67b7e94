/- Joined of: Gen183, RowMatrixProducts. -/
import Derived.Test.YtepgkcimmdmgcaaGreatDoorPartH
import Derived.Test.YtepgkcimmdmgcaaGreatDoorCards
import Derived.Test.YtepgkcimmdmgcaaGreatDoorTie
import Derived.Test.YtepgkcimmdmgcaaGreatDoorPartA
import Derived.Test.YtepgkcimmdmgcaaGreatDoorPartB
namespace Go.Proofs.YtepgkcimmdmgcaaGreatDoor
open Go.RowKit

set_option maxRecDepth 100000 in
set_option maxHeartbeats 1000000 in
theorem mp_0 {S M ca cb:Nat} {va vb:Value} {ma mb:Mx_} {w:World} (hm:Mx w) (ht:Tab w) (hta:TA w (.agg #[.int .u8 (ca:Int),va]) 0 0 ma) (htb:TA w (.agg #[.int .u8 (cb:Int),vb]) S M mb):
    Calls Tryz.prog 9 #[(.agg #[(.int .u8 ((ca:Int))),va]),(.agg #[(.int .u8 ((cb:Int))),vb])] w fun e w'=>e=.returned (.bool true)∧Gr w w':=by
 have hR5:=hta.R5
 have hN6:=hta.N6
 have hRN:=hta.R0
 have hS5:=htb.R5
 have hM6:=htb.N6
 have hSM:=htb.R0
 go_enter Tryz.func9,Tryz.ntmps9
 have hB:=Gr.refl w
 refine wp_seq_k (fun K10 k10=>?_)
 refine rg [0,1,2] ?_
 refine se ?_
 refine eb 24 #[(.int .u8 ((ca:Int))),va] 2 hB fun b11 w11 g11 L11 o11 q11 hB=>?_
 simp only [p3,p4]
 refine se ?_
 refine eb 24 #[(.int .u8 ((cb:Int))),vb] 3 hB fun b12 w12 g12 L12 o12 q12 hB=>?_
 simp only [p3,p4]
 refine sv 4 (.bool false) ?_
 refine sq_nil ?_
 refine k10 _ _ ?_
 try clear k10 K10
 refine wp_seq_k (fun K13 k13=>?_)
 refine wp_seq_k (fun K14 k14=>?_)
 refine rg [0,1] ?_
 refine se ?_
 refine ec 13 (l5_known _ (hm.gr hB) (ht.gr hB)) ?_
 rintro e15 w15 ⟨rfl,g15⟩
 refine ⟨_,rfl,?_⟩
 replace hB:=hB.trans g15
 simp only [p3,p4]
 refine sv 14 (.bool false) ?_
 refine sq_nil ?_
 refine k14 _ _ ?_
 try clear k14 K14
 refine wp_cond_false rfl ?_
 refine wp_skip ?_
 refine k13 _ _ ?_
 try clear k13 K13
 refine wp_seq_k (fun K16 k16=>?_)
 have gd22:=Gr.drew w15
 replace hB:=hB.trans gd22
 replace L11:=L11.gr (g12.trans (g15.trans gd22))
 replace L12:=L12.gr (g15.trans gd22)
 refine wp_region_ord (fun w'=>Lc w' b11 #[(.int .u8 ((ca:Int))),va] 24∧Lc w' b12 #[(.int .u8 ((cb:Int))),vb] 24) [(true,0),(true,2),(false,1),(false,3),(true,4),(true,5)] (by kernel_rfl) (by kernel_rfl) (by kernel_rfl) (by decide) (fun _ _ _ _ _ h=>h) ⟨L11,L12⟩ ?_
 refine ow 15 (.agg #[(.int .u8 ((ca:Int))),va]) rfl (fun w' hS=>(rl 24 0 [(.int .u8 ((ca:Int))),va] hS.1)) ?_
 refine ow 17 (.agg #[(.int .u8 ((cb:Int))),vb]) rfl (fun w' hS=>(rl 24 0 [(.int .u8 ((cb:Int))),vb] hS.2)) ?_
 refine oe ?_
 refine ec 16 (l5_rowsT (hta.gr hB)) ?_
 rintro e24 w24 ⟨⟨u24,rfl,hs24⟩,g24⟩
 refine ⟨_,rfl,?_⟩
 replace hB:=hB.trans g24
 replace L11:=L11.gr g24
 replace L12:=L12.gr g24
 refine ⟨⟨L11,L12⟩,?_⟩
 simp only [p3,p4]
 refine oe ?_
 refine ec 18 (l5_rowsT (htb.gr hB)) ?_
 rintro e26 w26 ⟨⟨u26,rfl,hs26⟩,g26⟩
 refine ⟨_,rfl,?_⟩
 replace hB:=hB.trans g26
 replace L11:=L11.gr g26
 replace L12:=L12.gr g26
 refine ⟨⟨L11,L12⟩,?_⟩
 simp only [p3,p4]
 refine ov 5 u24 ?_
 refine ov 6 u26 ?_
 refine ord_nil ?_
 refine k16 _ _ ?_
 try clear k16 K16
 refine wp_seq_k (fun K27 k27=>?_)
 refine rg [0,1,2,3,4,5,6,7] ?_
 refine sv 20 u24 ?_
 refine se ?_
 replace hs24:=hs24.gr (stab_rw stab_fr 84 2) g26
 refine ec 21 (l5_own (by omega) (by omega) (fun i h=>absurd h (Nat.not_lt_zero i)) (hm.gr hB) hs24) ?_
 rintro e28 w28 ⟨⟨u28,rfl,hs28⟩,g28⟩
 refine ⟨_,rfl,?_⟩
 replace hB:=hB.trans g28
 simp only [p3,p4]
 refine se ?_
 refine ec 22 (mx_Transpose (K:=64) (m:=ma) hRN (by omega) (by omega) (by omega) hs28) ?_
 rintro e29 w29 ⟨⟨u29,rfl,hs29⟩,g29⟩
 refine ⟨_,rfl,?_⟩
 replace hB:=hB.trans g29
 simp only [p3,p4]
 refine sv 19 (.tuple #[u29,(.int .i64 0)]) ?_
 refine sv 23 u29 ?_
 refine sv 24 (.int .i64 0) ?_
 refine sv 7 u29 ?_
 refine sv 8 (.int .i64 0) ?_
 refine sq_nil ?_
 refine k27 _ _ ?_
 try clear k27 K27
 refine wp_seq_k (fun K30 k30=>?_)
 refine rg [0,1,2,3,4,5,6,7,8,9] ?_
 refine sv 26 u24 ?_
 refine se ?_
 replace hs24:=hs24.gr (stab_rw stab_fr 84 2) (g28.trans g29)
 refine ec 27 (l5_own (by omega) (by omega) (fun i h=>absurd h (Nat.not_lt_zero i)) (hm.gr hB) hs24) ?_
 rintro e31 w31 ⟨⟨u31,rfl,hs31⟩,g31⟩
 refine ⟨_,rfl,?_⟩
 replace hB:=hB.trans g31
 simp only [p3,p4]
 refine sv 28 u26 ?_
 refine se ?_
 replace hs26:=hs26.gr (stab_rw stab_fr 84 2) (g28.trans (g29.trans g31))
 refine ec 29 (l5_own (by omega) (by omega) (fun i _ k _=>(htb.z i k).mono (by omega) (by omega)) (hm.gr hB) hs26) ?_
 rintro e32 w32 ⟨⟨u32,rfl,hs32⟩,g32⟩
 refine ⟨_,rfl,?_⟩
 replace hB:=hB.trans g32
 simp only [p3,p4]
 refine se ?_
 replace hs31:=hs31.gr (stab_rw (stab_rat 64) 71 4) g32
 refine ec 30 (mx_Mul (K:=64) (L:=64) (R:=0) (S:=S) (ma:=ma) (mb:=mb) hSM (by omega) (by omega) (by omega) (by omega) (by omega) ((hs31).cast (show _=tb (fun z0=>tb (fun z1=>(ma z0 z1)) S) 0 from rfl)) hs32) ?_
 rintro e33 w33 ⟨⟨u33,rfl,hs33⟩,g33⟩
 refine ⟨_,rfl,?_⟩
 replace hB:=hB.trans g33
 simp only [p3,p4]
 refine sv 25 (.tuple #[u33,(.int .i64 0)]) ?_
 refine sv 31 u33 ?_
 refine sv 32 (.int .i64 0) ?_
 refine sv 9 u33 ?_
 refine sv 10 (.int .i64 0) ?_
 refine sq_nil ?_
 refine k30 _ _ ?_
 try clear k30 K30
 refine wp_seq_k (fun K34 k34=>?_)
 refine wp_seq_k (fun K35 k35=>?_)
 refine rg [0,1,2,3,4,5,6,7,8] ?_
 refine sv 33 u29 ?_
 refine sv 34 u24 ?_
 refine se ?_
 replace hs24:=hs24.gr (stab_rw stab_fr 84 2) (g31.trans (g32.trans g33))
 refine ec 35 (f5_transpose (m:=ma) hRN (by omega) (by omega) hs24) ?_
 rintro e36 w36 ⟨⟨u36,rfl,hs36⟩,g36⟩
 refine ⟨_,rfl,?_⟩
 replace hB:=hB.trans g36
 simp only [p3,p4]
 refine se ?_
 replace hs29:=hs29.gr (stab_rw (stab_rat 64) 71 4) (g31.trans (g32.trans (g33.trans g36)))
 refine ec 36 (l5_is (L:=8) (by omega) (by omega) (by omega) (by omega) (fun i _ k _=>(hta.z k i).mono (by omega) (by omega)) (ht.gr hB) hs29 hs36) ?_
 rintro e37 w37 ⟨rfl,g37⟩
 refine ⟨_,rfl,?_⟩
 replace hB:=hB.trans g37
 simp only [p3,p4]
 refine sv 37 (.bool false) ?_
 refine sv 38 (.bool false) ?_
 refine sv 39 (.int .i64 0) ?_
 refine sv 40 (.bool false) ?_
 refine sv 41 (.bool false) ?_
 refine sq_nil ?_
 refine k35 _ _ ?_
 try clear k35 K35
 refine wp_cond_false rfl ?_
 refine wp_skip ?_
 refine k34 _ _ ?_
 try clear k34 K34
 refine wp_seq_k (fun K38 k38=>?_)
 refine wp_seq_k (fun K39 k39=>?_)
 refine rg [0,1,2,3,4,5,6,7,8,9] ?_
 refine sv 42 u24 ?_
 refine sw 43 (.int .i64 0) rfl (rv_lenn (e:=51) hs24 (tb_lenz rfl) _ _ rfl rfl (by kernel_rfl)) ?_
 refine sv 44 (.bool false) ?_
 refine swk 45 (.bool false) [(4,46),(5,47),(6,48),(7,49),(8,50)] rfl (rvk (by kernel_rfl)) ?_
 refine sv 51 (.bool false) ?_
 refine sq_nil ?_
 refine k39 _ _ ?_
 try clear k39 K39
 refine wp_cond_false rfl ?_
 refine wp_seq_k (fun K40 k40=>?_)
 refine rg [0,1,2,3,4,5,6,7,8,9] ?_
 refine sv 59 u33 ?_
 refine sv 60 u24 ?_
 refine sv 61 u26 ?_
 refine se ?_
 replace hs24:=hs24.gr (stab_rw stab_fr 84 2) (g36.trans g37)
 replace hs26:=hs26.gr (stab_rw stab_fr 84 2) (g32.trans (g33.trans (g36.trans g37)))
 refine ec 62 (f5_product (A:=8) (B:=8) (R:=0) (S:=S) (ma:=ma) (mb:=mb) hSM (by omega) (by omega) (by omega) (fun i h=>absurd h (Nat.not_lt_zero i)) (fun i _ k _=>(htb.z i k).mono (by omega) (by omega)) (by omega) ((hs24).cast (show _=tb (fun z0=>tb (fun z1=>(ma z0 z1)) S) 0 from rfl)) hs26) ?_
 rintro e41 w41 ⟨⟨u41,rfl,hs41⟩,g41⟩
 refine ⟨_,rfl,?_⟩
 replace hB:=hB.trans g41
 simp only [p3,p4]
 refine se ?_
 replace hs33:=hs33.gr (stab_rw (stab_rat (64+S*(64+64+1))) 71 4) (g36.trans (g37.trans g41))
 refine ec 63 (l5_is (L:=200) (by omega) (by omega) (by omega) (by omega) (fun i hi k hk=>(mul_z (S:=S) (x:=ma) (y:=mb) (fun i _ k _=>hta.z i k) (fun i _ k _=>htb.z i k) i hi k hk).mono (by omega) (by omega)) (ht.gr hB) hs33 hs41) ?_
 rintro e42 w42 ⟨rfl,g42⟩
 refine ⟨_,rfl,?_⟩
 replace hB:=hB.trans g42
 simp only [p3,p4]
 refine sv 64 (.bool false) ?_
 refine sv 65 (.bool false) ?_
 refine sv 66 (.int .i64 0) ?_
 refine sv 67 (.bool false) ?_
 refine sv 68 (.bool false) ?_
 refine sq_nil ?_
 refine k40 _ _ ?_
 try clear k40 K40
 refine wp_cond_false rfl ?_
 refine wp_skip ?_
 refine k38 _ _ ?_
 try clear k38 K38
 refine wp_seq_k (fun K43 k43=>?_)
 refine wp_seq_k (fun K44 k44=>?_)
 refine rg [0,1,2] ?_
 refine sv 69 u26 ?_
 refine sw 70 (.int .i64 ((S:Int))) rfl (rv_lenn (e:=51) hs26 (tb_lenz rfl) _ _ rfl rfl (by kernel_rfl)) ?_
 refine sv 71 (.bool (((S:Int)==(0:Int)))) ?_
 refine sq_nil ?_
 refine k44 _ _ ?_
 try clear k44 K44
 refine wp_cond_split (t:=((S:Int)==(0:Int))) rfl (fun hb45=>?_) (fun hb45=>?_)
 ·have hq46:(S:Int)=(0:Int):=by have:=hb45;simp at this;omega
  refine wp_seq_k (fun K47 k47=>?_)
  refine rg [0] ?_
  refine sv 4 (.bool true) ?_
  refine sq_nil ?_
  refine k47 _ _ ?_
  try clear k47 K47
  refine wp_ret ?_
  simp only [Exit.then]
  refine bodyPost_ret (v:=(.bool true)) (ret_tmp rfl rfl) rfl ⟨?_,hB⟩
  exact rfl
 ·have hq48:¬ (S:Int)=(0:Int):=by have:=hb45;simp at this;omega
  refine wp_skip ?_
  refine k43 _ _ ?_
  try clear k43 K43
  refine wp_seq_k (fun K49 k49=>?_)
  replace hs26:=hs26.gr (stab_rw stab_fr 84 2) (g41.trans g42)
  obtain ⟨_,_,⟨u57,rfl,hr57⟩,at57⟩:=Sl.get hs26 (by decide) (tb_get (f:=(fun z0=>tb (fun z1=>(mb z0 z1)) M)) (n:=S) (i:=0) (by omega))
  have gd58:=Gr.drew w42
  replace hB:=hB.trans gd58
  replace at57:=at57.gr gd58
  refine wp_region_ord (fun w'=>AtV w' u26 (0*1) [u57]) [(true,0),(true,2),(true,3),(true,4),(false,1),(false,5),(false,6),(true,7),(true,8),(true,9),(true,10),(true,11)] (by kernel_rfl) (by kernel_rfl) (by kernel_rfl) (by decide) (fun _ _ _ _ _ h=>h) at57 ?_
  refine ov 73 u24 ?_
  refine ov 75 u26 ?_
  refine ow 76 (adr u26 (0*1)) rfl (fun w' hS=>(rv_idxn (e:=51) hs26 tb_len (by decide) 0 (by omega) _ _ _ rfl rfl rfl (by kernel_rfl) (by kernel_rfl))) ?_
  refine ow 77 u57 rfl (fun w' hS=>(rv_ld1 u57 hS _ _ rfl rfl (by kernel_rfl))) ?_
  refine oe ?_
  replace hs24:=hs24.gr (stab_rw stab_fr 84 2) (g41.trans (g42.trans gd58))
  refine ec 74 (l5_own (by omega) (by omega) (fun i h=>absurd h (Nat.not_lt_zero i)) (hm.gr hB) hs24) ?_
  rintro e60 w60 ⟨⟨u60,rfl,hs60⟩,g60⟩
  refine ⟨_,rfl,?_⟩
  replace hB:=hB.trans g60
  replace at57:=at57.gr g60
  refine ⟨at57,?_⟩
  simp only [p3,p4]
  refine oe ?_
  replace hr57:=hr57.gr stab_fr (gd58.trans g60)
  refine ec 78 (l5_list (by omega) (fun j _=>(htb.z 0 j).mono (by omega) (by omega)) (hm.gr hB) hr57) ?_
  rintro e62 w62 ⟨⟨u62,rfl,hs62⟩,g62⟩
  refine ⟨_,rfl,?_⟩
  replace hB:=hB.trans g62
  replace at57:=at57.gr g62
  refine ⟨at57,?_⟩
  simp only [p3,p4]
  refine oe ?_
  replace hs60:=hs60.gr (stab_rw (stab_rat 64) 71 4) g62
  refine ec 79 (mx_Apply (K:=64) (L:=64) (R:=0) (N:=M) (m:=ma) (x:=mb 0) (by omega) (by omega) (by omega) ((hs60).cast (show _=tb (fun z0=>tb (fun z1=>(ma z0 z1)) M) 0 from rfl)) hs62) ?_
  rintro e64 w64 ⟨⟨u64,rfl,hs64⟩,g64⟩
  refine ⟨_,rfl,?_⟩
  replace hB:=hB.trans g64
  replace at57:=at57.gr g64
  refine ⟨at57,?_⟩
  simp only [p3,p4]
  refine ov 72 (.tuple #[u64,(.int .i64 0)]) ?_
  refine ov 80 u64 ?_
  refine ov 81 (.int .i64 0) ?_
  refine ov 11 u64 ?_
  refine ov 12 (.int .i64 0) ?_
  refine ord_nil ?_
  refine k49 _ _ ?_
  try clear k49 K49
  refine wp_seq_k (fun K65 k65=>?_)
  refine wp_seq_k (fun K66 k66=>?_)
  have gd68:=Gr.drew w64
  replace hB:=hB.trans gd68
  refine wp_region_ord (fun _=>True) [(true,0),(true,1),(true,2),(true,3),(true,4),(true,5),(true,6),(true,7),(true,8),(false,9),(true,10),(true,11)] (by kernel_rfl) (by kernel_rfl) (by kernel_rfl) (by decide) (fun _ _ _ _ _ h=>h) trivial ?_
  refine ov 82 u24 ?_
  refine ow 83 (.int .i64 0) rfl (fun w' hS=>(rv_lenn (e:=51) hs24 (tb_lenz rfl) _ _ rfl rfl (by kernel_rfl))) ?_
  refine ov 84 (.bool false) ?_
  refine ov 85 (.bool false) ?_
  refine os 86 ?_
  refine os 87 ?_
  refine os 88 ?_
  refine os 89 ?_
  refine os 90 ?_
  refine oz 91 trivial ?_
  refine os 92 ?_
  refine ov 93 (.bool false) ?_
  refine ord_nil ?_
  refine k66 _ _ ?_
  try clear k66 K66
  refine wp_cond_false rfl ?_
  refine wp_skip ?_
  refine k65 _ _ ?_
  try clear k65 K65
  refine wp_seq_k (fun K69 k69=>?_)
  refine rg [0,1,2,3,4,5,6,7,8,9,10,11] ?_
  refine sv 101 u64 ?_
  refine sv 102 u24 ?_
  refine sv 103 u26 ?_
  refine sw 104 (adr u26 (0*1)) rfl (rv_idxn (e:=51) hs26 tb_len (by decide) 0 (by omega) _ _ _ rfl rfl rfl (by kernel_rfl) (by kernel_rfl)) ?_
  replace at57:=at57.gr gd68
  refine sw 105 u57 rfl (rv_ld1 u57 at57 _ _ rfl rfl (by kernel_rfl)) ?_
  refine se ?_
  replace hs24:=hs24.gr (stab_rw stab_fr 84 2) (g60.trans (g62.trans (g64.trans gd68)))
  replace hr57:=hr57.gr stab_fr (g62.trans (g64.trans gd68))
  refine ec 106 (f5_apply (A:=8) (B:=8) (R:=0) (N:=M) (m:=ma) (x:=mb 0) (by omega) (by omega) (fun i h=>absurd h (Nat.not_lt_zero i)) (fun j _=>(htb.z 0 j).mono (by omega) (by omega)) (by omega) ((hs24).cast (show _=tb (fun z0=>tb (fun z1=>(ma z0 z1)) M) 0 from rfl)) hr57) ?_
  rintro e70 w70 ⟨⟨u70,rfl,hs70⟩,g70⟩
  refine ⟨_,rfl,?_⟩
  replace hB:=hB.trans g70
  simp only [p3,p4]
  refine se ?_
  replace hs64:=hs64.gr (stab_rat (64+M*(64+64+1))) (gd68.trans g70)
  refine ec 107 (l5_equal (L:=200) (by omega) (by omega) (by omega) (fun i hi=>(rz_sm (n:=M) (fun k _=>hta.z i k) (fun k _=>htb.z 0 k)).mono (by omega) (by omega)) (ht.gr hB) hs64 hs70) ?_
  rintro e71 w71 ⟨rfl,g71⟩
  refine ⟨_,rfl,?_⟩
  replace hB:=hB.trans g71
  simp only [p3,p4]
  refine sv 108 (.bool true) ?_
  refine sv 109 (.int .i64 0) ?_
  refine sv 110 (.bool true) ?_
  refine sv 111 (.bool true) ?_
  refine sv 4 (.bool true) ?_
  refine sq_nil ?_
  refine k69 _ _ ?_
  try clear k69 K69
  refine wp_ret ?_
  refine bodyPost_ret (v:=(.bool true)) (ret_tmp rfl rfl) rfl ⟨?_,hB⟩
  exact rfl

set_option maxRecDepth 100000 in
set_option maxHeartbeats 1000000 in
theorem mp_yy {R N ca cb:Nat} {va vb:Value} {ma mb:Mx_} (_hR0:0<R) {w:World} (hm:Mx w) (ht:Tab w) (hta:TA w (.agg #[.int .u8 (ca:Int),va]) R N ma) (htb:TA w (.agg #[.int .u8 (cb:Int),vb]) N N mb):
    Calls Tryz.prog 9 #[(.agg #[(.int .u8 ((ca:Int))),va]),(.agg #[(.int .u8 ((cb:Int))),vb])] w fun e w'=>e=.returned (.bool true)∧Gr w w':=by
 have hR5:=hta.R5
 have hN6:=hta.N6
 have hRN:=hta.R0
 have hS5:=htb.R5
 have hM6:=htb.N6
 have hSM:=htb.R0
 go_enter Tryz.func9,Tryz.ntmps9
 have hB:=Gr.refl w
 refine wp_seq_k (fun K10 k10=>?_)
 refine rg [0,1,2] ?_
 refine se ?_
 refine eb 24 #[(.int .u8 ((ca:Int))),va] 2 hB fun b11 w11 g11 L11 o11 q11 hB=>?_
 simp only [p3,p4]
 refine se ?_
 refine eb 24 #[(.int .u8 ((cb:Int))),vb] 3 hB fun b12 w12 g12 L12 o12 q12 hB=>?_
 simp only [p3,p4]
 refine sv 4 (.bool false) ?_
 refine sq_nil ?_
 refine k10 _ _ ?_
 try clear k10 K10
 refine wp_seq_k (fun K13 k13=>?_)
 refine wp_seq_k (fun K14 k14=>?_)
 refine rg [0,1] ?_
 refine se ?_
 refine ec 13 (l5_known _ (hm.gr hB) (ht.gr hB)) ?_
 rintro e15 w15 ⟨rfl,g15⟩
 refine ⟨_,rfl,?_⟩
 replace hB:=hB.trans g15
 simp only [p3,p4]
 refine sv 14 (.bool false) ?_
 refine sq_nil ?_
 refine k14 _ _ ?_
 try clear k14 K14
 refine wp_cond_false rfl ?_
 refine wp_skip ?_
 refine k13 _ _ ?_
 try clear k13 K13
 refine wp_seq_k (fun K16 k16=>?_)
 have gd22:=Gr.drew w15
 replace hB:=hB.trans gd22
 replace L11:=L11.gr (g12.trans (g15.trans gd22))
 replace L12:=L12.gr (g15.trans gd22)
 refine wp_region_ord (fun w'=>Lc w' b11 #[(.int .u8 ((ca:Int))),va] 24∧Lc w' b12 #[(.int .u8 ((cb:Int))),vb] 24) [(true,0),(true,2),(false,1),(false,3),(true,4),(true,5)] (by kernel_rfl) (by kernel_rfl) (by kernel_rfl) (by decide) (fun _ _ _ _ _ h=>h) ⟨L11,L12⟩ ?_
 refine ow 15 (.agg #[(.int .u8 ((ca:Int))),va]) rfl (fun w' hS=>(rl 24 0 [(.int .u8 ((ca:Int))),va] hS.1)) ?_
 refine ow 17 (.agg #[(.int .u8 ((cb:Int))),vb]) rfl (fun w' hS=>(rl 24 0 [(.int .u8 ((cb:Int))),vb] hS.2)) ?_
 refine oe ?_
 refine ec 16 (l5_rowsT (hta.gr hB)) ?_
 rintro e24 w24 ⟨⟨u24,rfl,hs24⟩,g24⟩
 refine ⟨_,rfl,?_⟩
 replace hB:=hB.trans g24
 replace L11:=L11.gr g24
 replace L12:=L12.gr g24
 refine ⟨⟨L11,L12⟩,?_⟩
 simp only [p3,p4]
 refine oe ?_
 refine ec 18 (l5_rowsT (htb.gr hB)) ?_
 rintro e26 w26 ⟨⟨u26,rfl,hs26⟩,g26⟩
 refine ⟨_,rfl,?_⟩
 replace hB:=hB.trans g26
 replace L11:=L11.gr g26
 replace L12:=L12.gr g26
 refine ⟨⟨L11,L12⟩,?_⟩
 simp only [p3,p4]
 refine ov 5 u24 ?_
 refine ov 6 u26 ?_
 refine ord_nil ?_
 refine k16 _ _ ?_
 try clear k16 K16
 refine wp_seq_k (fun K27 k27=>?_)
 refine rg [0,1,2,3,4,5,6,7] ?_
 refine sv 20 u24 ?_
 refine se ?_
 replace hs24:=hs24.gr (stab_rw stab_fr 84 2) g26
 refine ec 21 (l5_own (by omega) (by omega) (fun i _ k _=>(hta.z i k).mono (by omega) (by omega)) (hm.gr hB) hs24) ?_
 rintro e28 w28 ⟨⟨u28,rfl,hs28⟩,g28⟩
 refine ⟨_,rfl,?_⟩
 replace hB:=hB.trans g28
 simp only [p3,p4]
 refine se ?_
 refine ec 22 (mx_Transpose (K:=64) (m:=ma) hRN (by omega) (by omega) (by omega) hs28) ?_
 rintro e29 w29 ⟨⟨u29,rfl,hs29⟩,g29⟩
 refine ⟨_,rfl,?_⟩
 replace hB:=hB.trans g29
 simp only [p3,p4]
 refine sv 19 (.tuple #[u29,(.int .i64 0)]) ?_
 refine sv 23 u29 ?_
 refine sv 24 (.int .i64 0) ?_
 refine sv 7 u29 ?_
 refine sv 8 (.int .i64 0) ?_
 refine sq_nil ?_
 refine k27 _ _ ?_
 try clear k27 K27
 refine wp_seq_k (fun K30 k30=>?_)
 refine rg [0,1,2,3,4,5,6,7,8,9] ?_
 refine sv 26 u24 ?_
 refine se ?_
 replace hs24:=hs24.gr (stab_rw stab_fr 84 2) (g28.trans g29)
 refine ec 27 (l5_own (by omega) (by omega) (fun i _ k _=>(hta.z i k).mono (by omega) (by omega)) (hm.gr hB) hs24) ?_
 rintro e31 w31 ⟨⟨u31,rfl,hs31⟩,g31⟩
 refine ⟨_,rfl,?_⟩
 replace hB:=hB.trans g31
 simp only [p3,p4]
 refine sv 28 u26 ?_
 refine se ?_
 replace hs26:=hs26.gr (stab_rw stab_fr 84 2) (g28.trans (g29.trans g31))
 refine ec 29 (l5_own (by omega) (by omega) (fun i _ k _=>(htb.z i k).mono (by omega) (by omega)) (hm.gr hB) hs26) ?_
 rintro e32 w32 ⟨⟨u32,rfl,hs32⟩,g32⟩
 refine ⟨_,rfl,?_⟩
 replace hB:=hB.trans g32
 simp only [p3,p4]
 refine se ?_
 replace hs31:=hs31.gr (stab_rw (stab_rat 64) 71 4) g32
 refine ec 30 (mx_Mul (K:=64) (L:=64) (R:=R) (S:=N) (ma:=ma) (mb:=mb) hSM (by omega) (by omega) (by omega) (by omega) (by omega) hs31 hs32) ?_
 rintro e33 w33 ⟨⟨u33,rfl,hs33⟩,g33⟩
 refine ⟨_,rfl,?_⟩
 replace hB:=hB.trans g33
 simp only [p3,p4]
 refine sv 25 (.tuple #[u33,(.int .i64 0)]) ?_
 refine sv 31 u33 ?_
 refine sv 32 (.int .i64 0) ?_
 refine sv 9 u33 ?_
 refine sv 10 (.int .i64 0) ?_
 refine sq_nil ?_
 refine k30 _ _ ?_
 try clear k30 K30
 refine wp_seq_k (fun K34 k34=>?_)
 refine wp_seq_k (fun K35 k35=>?_)
 refine rg [0,1,2,3,4,5,6,7,8] ?_
 refine sv 33 u29 ?_
 refine sv 34 u24 ?_
 refine se ?_
 replace hs24:=hs24.gr (stab_rw stab_fr 84 2) (g31.trans (g32.trans g33))
 refine ec 35 (f5_transpose (m:=ma) hRN (by omega) (by omega) hs24) ?_
 rintro e36 w36 ⟨⟨u36,rfl,hs36⟩,g36⟩
 refine ⟨_,rfl,?_⟩
 replace hB:=hB.trans g36
 simp only [p3,p4]
 refine se ?_
 replace hs29:=hs29.gr (stab_rw (stab_rat 64) 71 4) (g31.trans (g32.trans (g33.trans g36)))
 refine ec 36 (l5_is (L:=8) (by omega) (by omega) (by omega) (by omega) (fun i _ k _=>(hta.z k i).mono (by omega) (by omega)) (ht.gr hB) hs29 hs36) ?_
 rintro e37 w37 ⟨rfl,g37⟩
 refine ⟨_,rfl,?_⟩
 replace hB:=hB.trans g37
 simp only [p3,p4]
 refine sv 37 (.bool false) ?_
 refine sv 38 (.bool false) ?_
 refine sv 39 (.int .i64 0) ?_
 refine sv 40 (.bool false) ?_
 refine sv 41 (.bool false) ?_
 refine sq_nil ?_
 refine k35 _ _ ?_
 try clear k35 K35
 refine wp_cond_false rfl ?_
 refine wp_skip ?_
 refine k34 _ _ ?_
 try clear k34 K34
 refine wp_seq_k (fun K38 k38=>?_)
 refine wp_seq_k (fun K39 k39=>?_)
 refine rg [0,1,2,3,4,5,6,7,8,9] ?_
 refine sv 42 u24 ?_
 refine sw 43 (.int .i64 ((R:Int))) rfl (rv_lenn (e:=51) hs24 (tb_lenz rfl) _ _ rfl rfl (by kernel_rfl)) ?_
 have hb40:(decide ((0:Int)<(R:Int)))=true:=(by simp only [decide_eq_true_eq];omega)
 refine sw 44 (.bool true) rfl (RunV.bool (x:=decide ((0:Int)<(R:Int))) (rvk (by kernel_rfl)) hb40) ?_
 refine sv 45 (.bool true) ?_
 refine sv 46 u24 ?_
 refine se ?_
 replace hs24:=hs24.gr (stab_rw stab_fr 84 2) (g36.trans g37)
 refine ec 47 (f5_columns hRN hs24) ?_
 rintro e41 w41 ⟨rfl,g41⟩
 refine ⟨_,rfl,?_⟩
 replace hB:=hB.trans g41
 simp only [p3,p4]
 refine sv 48 u26 ?_
 refine sw 49 (.int .i64 ((N:Int))) rfl (rv_lenn (e:=51) hs26 (tb_lenz rfl) _ _ rfl rfl (by kernel_rfl)) ?_
 have hb42:(((N:Int) !=(N:Int)))=false:=(by simp)
 refine sw 50 (.bool false) rfl (RunV.bool (x:=((N:Int) !=(N:Int))) (rvk (by kernel_rfl)) hb42) ?_
 refine sv 51 (.bool false) ?_
 refine sq_nil ?_
 refine k39 _ _ ?_
 try clear k39 K39
 refine wp_cond_false rfl ?_
 refine wp_seq_k (fun K43 k43=>?_)
 refine rg [0,1,2,3,4,5,6,7,8,9] ?_
 refine sv 59 u33 ?_
 refine sv 60 u24 ?_
 refine sv 61 u26 ?_
 refine se ?_
 replace hs24:=hs24.gr (stab_rw stab_fr 84 2) g41
 replace hs26:=hs26.gr (stab_rw stab_fr 84 2) (g32.trans (g33.trans (g36.trans (g37.trans g41))))
 refine ec 62 (f5_product (A:=8) (B:=8) (R:=R) (S:=N) (ma:=ma) (mb:=mb) hSM (by omega) (by omega) (by omega) (fun i _ k _=>(hta.z i k).mono (by omega) (by omega)) (fun i _ k _=>(htb.z i k).mono (by omega) (by omega)) (by omega) hs24 hs26) ?_
 rintro e44 w44 ⟨⟨u44,rfl,hs44⟩,g44⟩
 refine ⟨_,rfl,?_⟩
 replace hB:=hB.trans g44
 simp only [p3,p4]
 refine se ?_
 replace hs33:=hs33.gr (stab_rw (stab_rat (64+N*(64+64+1))) 71 4) (g36.trans (g37.trans (g41.trans g44)))
 refine ec 63 (l5_is (L:=200) (by omega) (by omega) (by omega) (by omega) (fun i hi k hk=>(mul_z (S:=N) (x:=ma) (y:=mb) (fun i _ k _=>hta.z i k) (fun i _ k _=>htb.z i k) i hi k hk).mono (by omega) (by omega)) (ht.gr hB) hs33 hs44) ?_
 rintro e45 w45 ⟨rfl,g45⟩
 refine ⟨_,rfl,?_⟩
 replace hB:=hB.trans g45
 simp only [p3,p4]
 refine sv 64 (.bool false) ?_
 refine sv 65 (.bool false) ?_
 refine sv 66 (.int .i64 0) ?_
 refine sv 67 (.bool false) ?_
 refine sv 68 (.bool false) ?_
 refine sq_nil ?_
 refine k43 _ _ ?_
 try clear k43 K43
 refine wp_cond_false rfl ?_
 refine wp_skip ?_
 refine k38 _ _ ?_
 try clear k38 K38
 refine wp_seq_k (fun K46 k46=>?_)
 refine wp_seq_k (fun K47 k47=>?_)
 refine rg [0,1,2] ?_
 refine sv 69 u26 ?_
 refine sw 70 (.int .i64 ((N:Int))) rfl (rv_lenn (e:=51) hs26 (tb_lenz rfl) _ _ rfl rfl (by kernel_rfl)) ?_
 refine sv 71 (.bool (((N:Int)==(0:Int)))) ?_
 refine sq_nil ?_
 refine k47 _ _ ?_
 try clear k47 K47
 refine wp_cond_split (t:=((N:Int)==(0:Int))) rfl (fun hb48=>?_) (fun hb48=>?_)
 ·have hq49:(N:Int)=(0:Int):=by have:=hb48;simp at this;omega
  refine wp_seq_k (fun K50 k50=>?_)
  refine rg [0] ?_
  refine sv 4 (.bool true) ?_
  refine sq_nil ?_
  refine k50 _ _ ?_
  try clear k50 K50
  refine wp_ret ?_
  simp only [Exit.then]
  refine bodyPost_ret (v:=(.bool true)) (ret_tmp rfl rfl) rfl ⟨?_,hB⟩
  exact rfl
 ·have hq51:¬ (N:Int)=(0:Int):=by have:=hb48;simp at this;omega
  refine wp_skip ?_
  refine k46 _ _ ?_
  try clear k46 K46
  refine wp_seq_k (fun K52 k52=>?_)
  replace hs26:=hs26.gr (stab_rw stab_fr 84 2) (g44.trans g45)
  obtain ⟨_,_,⟨u60,rfl,hr60⟩,at60⟩:=Sl.get hs26 (by decide) (tb_get (f:=(fun z0=>tb (fun z1=>(mb z0 z1)) N)) (n:=N) (i:=0) (by omega))
  have gd61:=Gr.drew w45
  replace hB:=hB.trans gd61
  replace at60:=at60.gr gd61
  refine wp_region_ord (fun w'=>AtV w' u26 (0*1) [u60]) [(true,0),(true,2),(true,3),(true,4),(false,1),(false,5),(false,6),(true,7),(true,8),(true,9),(true,10),(true,11)] (by kernel_rfl) (by kernel_rfl) (by kernel_rfl) (by decide) (fun _ _ _ _ _ h=>h) at60 ?_
  refine ov 73 u24 ?_
  refine ov 75 u26 ?_
  refine ow 76 (adr u26 (0*1)) rfl (fun w' hS=>(rv_idxn (e:=51) hs26 tb_len (by decide) 0 (by omega) _ _ _ rfl rfl rfl (by kernel_rfl) (by kernel_rfl))) ?_
  refine ow 77 u60 rfl (fun w' hS=>(rv_ld1 u60 hS _ _ rfl rfl (by kernel_rfl))) ?_
  refine oe ?_
  replace hs24:=hs24.gr (stab_rw stab_fr 84 2) (g44.trans (g45.trans gd61))
  refine ec 74 (l5_own (by omega) (by omega) (fun i _ k _=>(hta.z i k).mono (by omega) (by omega)) (hm.gr hB) hs24) ?_
  rintro e63 w63 ⟨⟨u63,rfl,hs63⟩,g63⟩
  refine ⟨_,rfl,?_⟩
  replace hB:=hB.trans g63
  replace at60:=at60.gr g63
  refine ⟨at60,?_⟩
  simp only [p3,p4]
  refine oe ?_
  replace hr60:=hr60.gr stab_fr (gd61.trans g63)
  refine ec 78 (l5_list (by omega) (fun j _=>(htb.z 0 j).mono (by omega) (by omega)) (hm.gr hB) hr60) ?_
  rintro e65 w65 ⟨⟨u65,rfl,hs65⟩,g65⟩
  refine ⟨_,rfl,?_⟩
  replace hB:=hB.trans g65
  replace at60:=at60.gr g65
  refine ⟨at60,?_⟩
  simp only [p3,p4]
  refine oe ?_
  replace hs63:=hs63.gr (stab_rw (stab_rat 64) 71 4) g65
  refine ec 79 (mx_Apply (K:=64) (L:=64) (R:=R) (N:=N) (m:=ma) (x:=mb 0) (by omega) (by omega) (by omega) hs63 hs65) ?_
  rintro e67 w67 ⟨⟨u67,rfl,hs67⟩,g67⟩
  refine ⟨_,rfl,?_⟩
  replace hB:=hB.trans g67
  replace at60:=at60.gr g67
  refine ⟨at60,?_⟩
  simp only [p3,p4]
  refine ov 72 (.tuple #[u67,(.int .i64 0)]) ?_
  refine ov 80 u67 ?_
  refine ov 81 (.int .i64 0) ?_
  refine ov 11 u67 ?_
  refine ov 12 (.int .i64 0) ?_
  refine ord_nil ?_
  refine k52 _ _ ?_
  try clear k52 K52
  refine wp_seq_k (fun K68 k68=>?_)
  refine wp_seq_k (fun K69 k69=>?_)
  have gd73:=Gr.drew w67
  replace hB:=hB.trans gd73
  replace at60:=at60.gr gd73
  refine wp_region_ord (fun w'=>AtV w' u26 (0*1) [u60]) [(true,0),(true,1),(true,2),(true,3),(true,4),(true,5),(true,6),(true,7),(true,8),(false,9),(true,10),(true,11)] (by kernel_rfl) (by kernel_rfl) (by kernel_rfl) (by decide) (fun _ _ _ _ _ h=>h) at60 ?_
  refine ov 82 u24 ?_
  refine ow 83 (.int .i64 ((R:Int))) rfl (fun w' hS=>(rv_lenn (e:=51) hs24 (tb_lenz rfl) _ _ rfl rfl (by kernel_rfl))) ?_
  refine ow 84 (.bool true) rfl (fun w' hS=>(RunV.bool (x:=decide ((0:Int)<(R:Int))) (rvk (by kernel_rfl)) hb40)) ?_
  refine ov 85 (.bool true) ?_
  refine ov 86 u26 ?_
  refine ow 87 (adr u26 (0*1)) rfl (fun w' hS=>(rv_idxn (e:=51) hs26 tb_len (by decide) 0 (by omega) _ _ _ rfl rfl rfl (by kernel_rfl) (by kernel_rfl))) ?_
  refine ow 88 u60 rfl (fun w' hS=>(rv_ld1 u60 hS _ _ rfl rfl (by kernel_rfl))) ?_
  refine ow 89 (.int .i64 ((N:Int))) rfl (fun w' hS=>(rv_lenn (e:=84) hr60 (tb_lenz rfl) _ _ rfl rfl (by kernel_rfl))) ?_
  refine ov 90 u24 ?_
  refine oe ?_
  replace hs24:=hs24.gr (stab_rw stab_fr 84 2) (g63.trans (g65.trans (g67.trans gd73)))
  refine ec 91 (f5_columns hRN hs24) ?_
  rintro e75 w75 ⟨rfl,g75⟩
  refine ⟨_,rfl,?_⟩
  replace hB:=hB.trans g75
  replace at60:=at60.gr g75
  refine ⟨at60,?_⟩
  simp only [p3,p4]
  refine ow 92 (.bool false) rfl (fun w' hS=>(RunV.bool (x:=((N:Int) !=(N:Int))) (rvk (by kernel_rfl)) hb42)) ?_
  refine ov 93 (.bool false) ?_
  refine ord_nil ?_
  refine k69 _ _ ?_
  try clear k69 K69
  refine wp_cond_false rfl ?_
  refine wp_skip ?_
  refine k68 _ _ ?_
  try clear k68 K68
  refine wp_seq_k (fun K76 k76=>?_)
  refine rg [0,1,2,3,4,5,6,7,8,9,10,11] ?_
  refine sv 101 u67 ?_
  refine sv 102 u24 ?_
  refine sv 103 u26 ?_
  refine sw 104 (adr u26 (0*1)) rfl (rv_idxn (e:=51) hs26 tb_len (by decide) 0 (by omega) _ _ _ rfl rfl rfl (by kernel_rfl) (by kernel_rfl)) ?_
  refine sw 105 u60 rfl (rv_ld1 u60 at60 _ _ rfl rfl (by kernel_rfl)) ?_
  refine se ?_
  replace hs24:=hs24.gr (stab_rw stab_fr 84 2) g75
  replace hr60:=hr60.gr stab_fr (g65.trans (g67.trans (gd73.trans g75)))
  refine ec 106 (f5_apply (A:=8) (B:=8) (R:=R) (N:=N) (m:=ma) (x:=mb 0) (by omega) (by omega) (fun i _ k _=>(hta.z i k).mono (by omega) (by omega)) (fun j _=>(htb.z 0 j).mono (by omega) (by omega)) (by omega) hs24 hr60) ?_
  rintro e77 w77 ⟨⟨u77,rfl,hs77⟩,g77⟩
  refine ⟨_,rfl,?_⟩
  replace hB:=hB.trans g77
  simp only [p3,p4]
  refine se ?_
  replace hs67:=hs67.gr (stab_rat (64+N*(64+64+1))) (gd73.trans (g75.trans g77))
  refine ec 107 (l5_equal (L:=200) (by omega) (by omega) (by omega) (fun i hi=>(rz_sm (n:=N) (fun k _=>hta.z i k) (fun k _=>htb.z 0 k)).mono (by omega) (by omega)) (ht.gr hB) hs67 hs77) ?_
  rintro e78 w78 ⟨rfl,g78⟩
  refine ⟨_,rfl,?_⟩
  replace hB:=hB.trans g78
  simp only [p3,p4]
  refine sv 108 (.bool true) ?_
  refine sv 109 (.int .i64 0) ?_
  refine sv 110 (.bool true) ?_
  refine sv 111 (.bool true) ?_
  refine sv 4 (.bool true) ?_
  refine sq_nil ?_
  refine k76 _ _ ?_
  try clear k76 K76
  refine wp_ret ?_
  refine bodyPost_ret (v:=(.bool true)) (ret_tmp rfl rfl) rfl ⟨?_,hB⟩
  exact rfl

set_option maxRecDepth 100000 in
set_option maxHeartbeats 1000000 in
theorem mp_yn {R N M ca cb:Nat} {va vb:Value} {ma mb:Mx_} (hR0:0<R) (hne2:¬ N=M) {w:World} (hm:Mx w) (ht:Tab w) (hta:TA w (.agg #[.int .u8 (ca:Int),va]) R N ma) (htb:TA w (.agg #[.int .u8 (cb:Int),vb]) N M mb):
    Calls Tryz.prog 9 #[(.agg #[(.int .u8 ((ca:Int))),va]),(.agg #[(.int .u8 ((cb:Int))),vb])] w fun e w'=>e=.returned (.bool true)∧Gr w w':=by
 have hR5:=hta.R5
 have hN6:=hta.N6
 have hRN:=hta.R0
 have hS5:=htb.R5
 have hM6:=htb.N6
 have hSM:=htb.R0
 go_enter Tryz.func9,Tryz.ntmps9
 have hB:=Gr.refl w
 refine wp_seq_k (fun K10 k10=>?_)
 refine rg [0,1,2] ?_
 refine se ?_
 refine eb 24 #[(.int .u8 ((ca:Int))),va] 2 hB fun b11 w11 g11 L11 o11 q11 hB=>?_
 simp only [p3,p4]
 refine se ?_
 refine eb 24 #[(.int .u8 ((cb:Int))),vb] 3 hB fun b12 w12 g12 L12 o12 q12 hB=>?_
 simp only [p3,p4]
 refine sv 4 (.bool false) ?_
 refine sq_nil ?_
 refine k10 _ _ ?_
 try clear k10 K10
 refine wp_seq_k (fun K13 k13=>?_)
 refine wp_seq_k (fun K14 k14=>?_)
 refine rg [0,1] ?_
 refine se ?_
 refine ec 13 (l5_known _ (hm.gr hB) (ht.gr hB)) ?_
 rintro e15 w15 ⟨rfl,g15⟩
 refine ⟨_,rfl,?_⟩
 replace hB:=hB.trans g15
 simp only [p3,p4]
 refine sv 14 (.bool false) ?_
 refine sq_nil ?_
 refine k14 _ _ ?_
 try clear k14 K14
 refine wp_cond_false rfl ?_
 refine wp_skip ?_
 refine k13 _ _ ?_
 try clear k13 K13
 refine wp_seq_k (fun K16 k16=>?_)
 have gd22:=Gr.drew w15
 replace hB:=hB.trans gd22
 replace L11:=L11.gr (g12.trans (g15.trans gd22))
 replace L12:=L12.gr (g15.trans gd22)
 refine wp_region_ord (fun w'=>Lc w' b11 #[(.int .u8 ((ca:Int))),va] 24∧Lc w' b12 #[(.int .u8 ((cb:Int))),vb] 24) [(true,0),(true,2),(false,1),(false,3),(true,4),(true,5)] (by kernel_rfl) (by kernel_rfl) (by kernel_rfl) (by decide) (fun _ _ _ _ _ h=>h) ⟨L11,L12⟩ ?_
 refine ow 15 (.agg #[(.int .u8 ((ca:Int))),va]) rfl (fun w' hS=>(rl 24 0 [(.int .u8 ((ca:Int))),va] hS.1)) ?_
 refine ow 17 (.agg #[(.int .u8 ((cb:Int))),vb]) rfl (fun w' hS=>(rl 24 0 [(.int .u8 ((cb:Int))),vb] hS.2)) ?_
 refine oe ?_
 refine ec 16 (l5_rowsT (hta.gr hB)) ?_
 rintro e24 w24 ⟨⟨u24,rfl,hs24⟩,g24⟩
 refine ⟨_,rfl,?_⟩
 replace hB:=hB.trans g24
 replace L11:=L11.gr g24
 replace L12:=L12.gr g24
 refine ⟨⟨L11,L12⟩,?_⟩
 simp only [p3,p4]
 refine oe ?_
 refine ec 18 (l5_rowsT (htb.gr hB)) ?_
 rintro e26 w26 ⟨⟨u26,rfl,hs26⟩,g26⟩
 refine ⟨_,rfl,?_⟩
 replace hB:=hB.trans g26
 replace L11:=L11.gr g26
 replace L12:=L12.gr g26
 refine ⟨⟨L11,L12⟩,?_⟩
 simp only [p3,p4]
 refine ov 5 u24 ?_
 refine ov 6 u26 ?_
 refine ord_nil ?_
 refine k16 _ _ ?_
 try clear k16 K16
 refine wp_seq_k (fun K27 k27=>?_)
 refine rg [0,1,2,3,4,5,6,7] ?_
 refine sv 20 u24 ?_
 refine se ?_
 replace hs24:=hs24.gr (stab_rw stab_fr 84 2) g26
 refine ec 21 (l5_own (by omega) (by omega) (fun i _ k _=>(hta.z i k).mono (by omega) (by omega)) (hm.gr hB) hs24) ?_
 rintro e28 w28 ⟨⟨u28,rfl,hs28⟩,g28⟩
 refine ⟨_,rfl,?_⟩
 replace hB:=hB.trans g28
 simp only [p3,p4]
 refine se ?_
 refine ec 22 (mx_Transpose (K:=64) (m:=ma) hRN (by omega) (by omega) (by omega) hs28) ?_
 rintro e29 w29 ⟨⟨u29,rfl,hs29⟩,g29⟩
 refine ⟨_,rfl,?_⟩
 replace hB:=hB.trans g29
 simp only [p3,p4]
 refine sv 19 (.tuple #[u29,(.int .i64 0)]) ?_
 refine sv 23 u29 ?_
 refine sv 24 (.int .i64 0) ?_
 refine sv 7 u29 ?_
 refine sv 8 (.int .i64 0) ?_
 refine sq_nil ?_
 refine k27 _ _ ?_
 try clear k27 K27
 refine wp_seq_k (fun K30 k30=>?_)
 refine rg [0,1,2,3,4,5,6,7,8,9] ?_
 refine sv 26 u24 ?_
 refine se ?_
 replace hs24:=hs24.gr (stab_rw stab_fr 84 2) (g28.trans g29)
 refine ec 27 (l5_own (by omega) (by omega) (fun i _ k _=>(hta.z i k).mono (by omega) (by omega)) (hm.gr hB) hs24) ?_
 rintro e31 w31 ⟨⟨u31,rfl,hs31⟩,g31⟩
 refine ⟨_,rfl,?_⟩
 replace hB:=hB.trans g31
 simp only [p3,p4]
 refine sv 28 u26 ?_
 refine se ?_
 replace hs26:=hs26.gr (stab_rw stab_fr 84 2) (g28.trans (g29.trans g31))
 refine ec 29 (l5_own (by omega) (by omega) (fun i _ k _=>(htb.z i k).mono (by omega) (by omega)) (hm.gr hB) hs26) ?_
 rintro e32 w32 ⟨⟨u32,rfl,hs32⟩,g32⟩
 refine ⟨_,rfl,?_⟩
 replace hB:=hB.trans g32
 simp only [p3,p4]
 refine se ?_
 replace hs31:=hs31.gr (stab_rw (stab_rat 64) 71 4) g32
 refine ec 30 (mx_Mul (K:=64) (L:=64) (R:=R) (S:=N) (ma:=ma) (mb:=mb) hSM (by omega) (by omega) (by omega) (by omega) (by omega) hs31 hs32) ?_
 rintro e33 w33 ⟨⟨u33,rfl,hs33⟩,g33⟩
 refine ⟨_,rfl,?_⟩
 replace hB:=hB.trans g33
 simp only [p3,p4]
 refine sv 25 (.tuple #[u33,(.int .i64 0)]) ?_
 refine sv 31 u33 ?_
 refine sv 32 (.int .i64 0) ?_
 refine sv 9 u33 ?_
 refine sv 10 (.int .i64 0) ?_
 refine sq_nil ?_
 refine k30 _ _ ?_
 try clear k30 K30
 refine wp_seq_k (fun K34 k34=>?_)
 refine wp_seq_k (fun K35 k35=>?_)
 refine rg [0,1,2,3,4,5,6,7,8] ?_
 refine sv 33 u29 ?_
 refine sv 34 u24 ?_
 refine se ?_
 replace hs24:=hs24.gr (stab_rw stab_fr 84 2) (g31.trans (g32.trans g33))
 refine ec 35 (f5_transpose (m:=ma) hRN (by omega) (by omega) hs24) ?_
 rintro e36 w36 ⟨⟨u36,rfl,hs36⟩,g36⟩
 refine ⟨_,rfl,?_⟩
 replace hB:=hB.trans g36
 simp only [p3,p4]
 refine se ?_
 replace hs29:=hs29.gr (stab_rw (stab_rat 64) 71 4) (g31.trans (g32.trans (g33.trans g36)))
 refine ec 36 (l5_is (L:=8) (by omega) (by omega) (by omega) (by omega) (fun i _ k _=>(hta.z k i).mono (by omega) (by omega)) (ht.gr hB) hs29 hs36) ?_
 rintro e37 w37 ⟨rfl,g37⟩
 refine ⟨_,rfl,?_⟩
 replace hB:=hB.trans g37
 simp only [p3,p4]
 refine sv 37 (.bool false) ?_
 refine sv 38 (.bool false) ?_
 refine sv 39 (.int .i64 0) ?_
 refine sv 40 (.bool false) ?_
 refine sv 41 (.bool false) ?_
 refine sq_nil ?_
 refine k35 _ _ ?_
 try clear k35 K35
 refine wp_cond_false rfl ?_
 refine wp_skip ?_
 refine k34 _ _ ?_
 try clear k34 K34
 refine wp_seq_k (fun K38 k38=>?_)
 refine wp_seq_k (fun K39 k39=>?_)
 refine rg [0,1,2,3,4,5,6,7,8,9] ?_
 refine sv 42 u24 ?_
 refine sw 43 (.int .i64 ((R:Int))) rfl (rv_lenn (e:=51) hs24 (tb_lenz rfl) _ _ rfl rfl (by kernel_rfl)) ?_
 have hb40:(decide ((0:Int)<(R:Int)))=true:=(by simp only [decide_eq_true_eq];omega)
 refine sw 44 (.bool true) rfl (RunV.bool (x:=decide ((0:Int)<(R:Int))) (rvk (by kernel_rfl)) hb40) ?_
 refine sv 45 (.bool true) ?_
 refine sv 46 u24 ?_
 refine se ?_
 replace hs24:=hs24.gr (stab_rw stab_fr 84 2) (g36.trans g37)
 refine ec 47 (f5_columns hRN hs24) ?_
 rintro e41 w41 ⟨rfl,g41⟩
 refine ⟨_,rfl,?_⟩
 replace hB:=hB.trans g41
 simp only [p3,p4]
 refine sv 48 u26 ?_
 refine sw 49 (.int .i64 ((N:Int))) rfl (rv_lenn (e:=51) hs26 (tb_lenz rfl) _ _ rfl rfl (by kernel_rfl)) ?_
 have hb42:(((N:Int) !=(N:Int)))=false:=(by simp)
 refine sw 50 (.bool false) rfl (RunV.bool (x:=((N:Int) !=(N:Int))) (rvk (by kernel_rfl)) hb42) ?_
 refine sv 51 (.bool false) ?_
 refine sq_nil ?_
 refine k39 _ _ ?_
 try clear k39 K39
 refine wp_cond_false rfl ?_
 refine wp_seq_k (fun K43 k43=>?_)
 refine rg [0,1,2,3,4,5,6,7,8,9] ?_
 refine sv 59 u33 ?_
 refine sv 60 u24 ?_
 refine sv 61 u26 ?_
 refine se ?_
 replace hs24:=hs24.gr (stab_rw stab_fr 84 2) g41
 replace hs26:=hs26.gr (stab_rw stab_fr 84 2) (g32.trans (g33.trans (g36.trans (g37.trans g41))))
 refine ec 62 (f5_product (A:=8) (B:=8) (R:=R) (S:=N) (ma:=ma) (mb:=mb) hSM (by omega) (by omega) (by omega) (fun i _ k _=>(hta.z i k).mono (by omega) (by omega)) (fun i _ k _=>(htb.z i k).mono (by omega) (by omega)) (by omega) hs24 hs26) ?_
 rintro e44 w44 ⟨⟨u44,rfl,hs44⟩,g44⟩
 refine ⟨_,rfl,?_⟩
 replace hB:=hB.trans g44
 simp only [p3,p4]
 refine se ?_
 replace hs33:=hs33.gr (stab_rw (stab_rat (64+N*(64+64+1))) 71 4) (g36.trans (g37.trans (g41.trans g44)))
 refine ec 63 (l5_is (L:=200) (by omega) (by omega) (by omega) (by omega) (fun i hi k hk=>(mul_z (S:=N) (x:=ma) (y:=mb) (fun i _ k _=>hta.z i k) (fun i _ k _=>htb.z i k) i hi k hk).mono (by omega) (by omega)) (ht.gr hB) hs33 hs44) ?_
 rintro e45 w45 ⟨rfl,g45⟩
 refine ⟨_,rfl,?_⟩
 replace hB:=hB.trans g45
 simp only [p3,p4]
 refine sv 64 (.bool false) ?_
 refine sv 65 (.bool false) ?_
 refine sv 66 (.int .i64 0) ?_
 refine sv 67 (.bool false) ?_
 refine sv 68 (.bool false) ?_
 refine sq_nil ?_
 refine k43 _ _ ?_
 try clear k43 K43
 refine wp_cond_false rfl ?_
 refine wp_skip ?_
 refine k38 _ _ ?_
 try clear k38 K38
 refine wp_seq_k (fun K46 k46=>?_)
 refine wp_seq_k (fun K47 k47=>?_)
 refine rg [0,1,2] ?_
 refine sv 69 u26 ?_
 refine sw 70 (.int .i64 ((N:Int))) rfl (rv_lenn (e:=51) hs26 (tb_lenz rfl) _ _ rfl rfl (by kernel_rfl)) ?_
 refine sv 71 (.bool (((N:Int)==(0:Int)))) ?_
 refine sq_nil ?_
 refine k47 _ _ ?_
 try clear k47 K47
 refine wp_cond_split (t:=((N:Int)==(0:Int))) rfl (fun hb48=>?_) (fun hb48=>?_)
 ·have hq49:(N:Int)=(0:Int):=by have:=hb48;simp at this;omega
  refine wp_seq_k (fun K50 k50=>?_)
  refine rg [0] ?_
  refine sv 4 (.bool true) ?_
  refine sq_nil ?_
  refine k50 _ _ ?_
  try clear k50 K50
  refine wp_ret ?_
  simp only [Exit.then]
  refine bodyPost_ret (v:=(.bool true)) (ret_tmp rfl rfl) rfl ⟨?_,hB⟩
  exact rfl
 ·have hq51:¬ (N:Int)=(0:Int):=by have:=hb48;simp at this;omega
  refine wp_skip ?_
  refine k46 _ _ ?_
  try clear k46 K46
  refine wp_seq_k (fun K52 k52=>?_)
  replace hs26:=hs26.gr (stab_rw stab_fr 84 2) (g44.trans g45)
  obtain ⟨_,_,⟨u60,rfl,hr60⟩,at60⟩:=Sl.get hs26 (by decide) (tb_get (f:=(fun z0=>tb (fun z1=>(mb z0 z1)) M)) (n:=N) (i:=0) (by omega))
  have gd61:=Gr.drew w45
  replace hB:=hB.trans gd61
  replace at60:=at60.gr gd61
  refine wp_region_ord (fun w'=>AtV w' u26 (0*1) [u60]) [(true,0),(true,2),(true,3),(true,4),(false,1),(false,5),(false,6),(true,7),(true,8),(true,9),(true,10),(true,11)] (by kernel_rfl) (by kernel_rfl) (by kernel_rfl) (by decide) (fun _ _ _ _ _ h=>h) at60 ?_
  refine ov 73 u24 ?_
  refine ov 75 u26 ?_
  refine ow 76 (adr u26 (0*1)) rfl (fun w' hS=>(rv_idxn (e:=51) hs26 tb_len (by decide) 0 (by omega) _ _ _ rfl rfl rfl (by kernel_rfl) (by kernel_rfl))) ?_
  refine ow 77 u60 rfl (fun w' hS=>(rv_ld1 u60 hS _ _ rfl rfl (by kernel_rfl))) ?_
  refine oe ?_
  replace hs24:=hs24.gr (stab_rw stab_fr 84 2) (g44.trans (g45.trans gd61))
  refine ec 74 (l5_own (by omega) (by omega) (fun i _ k _=>(hta.z i k).mono (by omega) (by omega)) (hm.gr hB) hs24) ?_
  rintro e63 w63 ⟨⟨u63,rfl,hs63⟩,g63⟩
  refine ⟨_,rfl,?_⟩
  replace hB:=hB.trans g63
  replace at60:=at60.gr g63
  refine ⟨at60,?_⟩
  simp only [p3,p4]
  refine oe ?_
  replace hr60:=hr60.gr stab_fr (gd61.trans g63)
  refine ec 78 (l5_list (by omega) (fun j _=>(htb.z 0 j).mono (by omega) (by omega)) (hm.gr hB) hr60) ?_
  rintro e65 w65 ⟨⟨u65,rfl,hs65⟩,g65⟩
  refine ⟨_,rfl,?_⟩
  replace hB:=hB.trans g65
  replace at60:=at60.gr g65
  refine ⟨at60,?_⟩
  simp only [p3,p4]
  refine oe ?_
  replace hs63:=hs63.gr (stab_rw (stab_rat 64) 71 4) g65
  refine ec 79 (mx_Apply_n (by omega) (by omega) hR0 hne2 hs63 hs65) ?_
  rintro e67 w67 ⟨rfl,g67⟩
  refine ⟨_,rfl,?_⟩
  replace hB:=hB.trans g67
  replace at60:=at60.gr g67
  refine ⟨at60,?_⟩
  simp only [p3,p4]
  refine ov 72 (.tuple #[(.slice none 0 0),(.int .i64 13)]) ?_
  refine ov 80 (.slice none 0 0) ?_
  refine ov 81 (.int .i64 13) ?_
  refine ov 11 (.slice none 0 0) ?_
  refine ov 12 (.int .i64 13) ?_
  refine ord_nil ?_
  refine k52 _ _ ?_
  try clear k52 K52
  refine wp_seq_k (fun K68 k68=>?_)
  refine wp_seq_k (fun K69 k69=>?_)
  have gd74:=Gr.drew w67
  replace hB:=hB.trans gd74
  replace at60:=at60.gr gd74
  refine wp_region_ord (fun w'=>AtV w' u26 (0*1) [u60]) [(true,0),(true,1),(true,2),(true,3),(true,4),(true,5),(true,6),(true,7),(true,8),(false,9),(true,10),(true,11)] (by kernel_rfl) (by kernel_rfl) (by kernel_rfl) (by decide) (fun _ _ _ _ _ h=>h) at60 ?_
  refine ov 82 u24 ?_
  refine ow 83 (.int .i64 ((R:Int))) rfl (fun w' hS=>(rv_lenn (e:=51) hs24 (tb_lenz rfl) _ _ rfl rfl (by kernel_rfl))) ?_
  refine ow 84 (.bool true) rfl (fun w' hS=>(RunV.bool (x:=decide ((0:Int)<(R:Int))) (rvk (by kernel_rfl)) hb40)) ?_
  refine ov 85 (.bool true) ?_
  refine ov 86 u26 ?_
  refine ow 87 (adr u26 (0*1)) rfl (fun w' hS=>(rv_idxn (e:=51) hs26 tb_len (by decide) 0 (by omega) _ _ _ rfl rfl rfl (by kernel_rfl) (by kernel_rfl))) ?_
  refine ow 88 u60 rfl (fun w' hS=>(rv_ld1 u60 hS _ _ rfl rfl (by kernel_rfl))) ?_
  refine ow 89 (.int .i64 ((M:Int))) rfl (fun w' hS=>(rv_lenn (e:=84) hr60 (tb_lenz rfl) _ _ rfl rfl (by kernel_rfl))) ?_
  refine ov 90 u24 ?_
  refine oe ?_
  replace hs24:=hs24.gr (stab_rw stab_fr 84 2) (g63.trans (g65.trans (g67.trans gd74)))
  refine ec 91 (f5_columns hRN hs24) ?_
  rintro e76 w76 ⟨rfl,g76⟩
  refine ⟨_,rfl,?_⟩
  replace hB:=hB.trans g76
  replace at60:=at60.gr g76
  refine ⟨at60,?_⟩
  simp only [p3,p4]
  have hb77:(((M:Int) !=(N:Int)))=true:=(by simp;omega)
  refine ow 92 (.bool true) rfl (fun w' hS=>(RunV.bool (x:=((M:Int) !=(N:Int))) (rvk (by kernel_rfl)) hb77)) ?_
  refine ov 93 (.bool true) ?_
  refine ord_nil ?_
  refine k69 _ _ ?_
  try clear k69 K69
  refine wp_cond_true rfl ?_
  refine wp_seq_k (fun K78 k78=>?_)
  refine rg [0,1,2,3,4,5,6,7] ?_
  refine sv 94 (.slice none 0 0) ?_
  refine sv 95 (.int .i64 0) ?_
  refine sv 96 (.bool true) ?_
  refine sv 97 (.bool true) ?_
  refine sv 98 (.int .i64 13) ?_
  refine sv 99 (.bool true) ?_
  refine sv 100 (.bool true) ?_
  refine sv 4 (.bool true) ?_
  refine sq_nil ?_
  refine k78 _ _ ?_
  try clear k78 K78
  refine wp_ret ?_
  simp only [Exit.then]
  refine bodyPost_ret (v:=(.bool true)) (ret_tmp rfl rfl) rfl ⟨?_,hB⟩
  exact rfl

set_option maxRecDepth 100000 in
set_option maxHeartbeats 1000000 in
theorem mp_ny {R N S ca cb:Nat} {va vb:Value} {ma mb:Mx_} (hR0:0<R) (hne:¬ N=S) {w:World} (hm:Mx w) (ht:Tab w) (hta:TA w (.agg #[.int .u8 (ca:Int),va]) R N ma) (htb:TA w (.agg #[.int .u8 (cb:Int),vb]) S N mb):
    Calls Tryz.prog 9 #[(.agg #[(.int .u8 ((ca:Int))),va]),(.agg #[(.int .u8 ((cb:Int))),vb])] w fun e w'=>e=.returned (.bool true)∧Gr w w':=by
 have hR5:=hta.R5
 have hN6:=hta.N6
 have hRN:=hta.R0
 have hS5:=htb.R5
 have hM6:=htb.N6
 have hSM:=htb.R0
 go_enter Tryz.func9,Tryz.ntmps9
 have hB:=Gr.refl w
 refine wp_seq_k (fun K10 k10=>?_)
 refine rg [0,1,2] ?_
 refine se ?_
 refine eb 24 #[(.int .u8 ((ca:Int))),va] 2 hB fun b11 w11 g11 L11 o11 q11 hB=>?_
 simp only [p3,p4]
 refine se ?_
 refine eb 24 #[(.int .u8 ((cb:Int))),vb] 3 hB fun b12 w12 g12 L12 o12 q12 hB=>?_
 simp only [p3,p4]
 refine sv 4 (.bool false) ?_
 refine sq_nil ?_
 refine k10 _ _ ?_
 try clear k10 K10
 refine wp_seq_k (fun K13 k13=>?_)
 refine wp_seq_k (fun K14 k14=>?_)
 refine rg [0,1] ?_
 refine se ?_
 refine ec 13 (l5_known _ (hm.gr hB) (ht.gr hB)) ?_
 rintro e15 w15 ⟨rfl,g15⟩
 refine ⟨_,rfl,?_⟩
 replace hB:=hB.trans g15
 simp only [p3,p4]
 refine sv 14 (.bool false) ?_
 refine sq_nil ?_
 refine k14 _ _ ?_
 try clear k14 K14
 refine wp_cond_false rfl ?_
 refine wp_skip ?_
 refine k13 _ _ ?_
 try clear k13 K13
 refine wp_seq_k (fun K16 k16=>?_)
 have gd22:=Gr.drew w15
 replace hB:=hB.trans gd22
 replace L11:=L11.gr (g12.trans (g15.trans gd22))
 replace L12:=L12.gr (g15.trans gd22)
 refine wp_region_ord (fun w'=>Lc w' b11 #[(.int .u8 ((ca:Int))),va] 24∧Lc w' b12 #[(.int .u8 ((cb:Int))),vb] 24) [(true,0),(true,2),(false,1),(false,3),(true,4),(true,5)] (by kernel_rfl) (by kernel_rfl) (by kernel_rfl) (by decide) (fun _ _ _ _ _ h=>h) ⟨L11,L12⟩ ?_
 refine ow 15 (.agg #[(.int .u8 ((ca:Int))),va]) rfl (fun w' hS=>(rl 24 0 [(.int .u8 ((ca:Int))),va] hS.1)) ?_
 refine ow 17 (.agg #[(.int .u8 ((cb:Int))),vb]) rfl (fun w' hS=>(rl 24 0 [(.int .u8 ((cb:Int))),vb] hS.2)) ?_
 refine oe ?_
 refine ec 16 (l5_rowsT (hta.gr hB)) ?_
 rintro e24 w24 ⟨⟨u24,rfl,hs24⟩,g24⟩
 refine ⟨_,rfl,?_⟩
 replace hB:=hB.trans g24
 replace L11:=L11.gr g24
 replace L12:=L12.gr g24
 refine ⟨⟨L11,L12⟩,?_⟩
 simp only [p3,p4]
 refine oe ?_
 refine ec 18 (l5_rowsT (htb.gr hB)) ?_
 rintro e26 w26 ⟨⟨u26,rfl,hs26⟩,g26⟩
 refine ⟨_,rfl,?_⟩
 replace hB:=hB.trans g26
 replace L11:=L11.gr g26
 replace L12:=L12.gr g26
 refine ⟨⟨L11,L12⟩,?_⟩
 simp only [p3,p4]
 refine ov 5 u24 ?_
 refine ov 6 u26 ?_
 refine ord_nil ?_
 refine k16 _ _ ?_
 try clear k16 K16
 refine wp_seq_k (fun K27 k27=>?_)
 refine rg [0,1,2,3,4,5,6,7] ?_
 refine sv 20 u24 ?_
 refine se ?_
 replace hs24:=hs24.gr (stab_rw stab_fr 84 2) g26
 refine ec 21 (l5_own (by omega) (by omega) (fun i _ k _=>(hta.z i k).mono (by omega) (by omega)) (hm.gr hB) hs24) ?_
 rintro e28 w28 ⟨⟨u28,rfl,hs28⟩,g28⟩
 refine ⟨_,rfl,?_⟩
 replace hB:=hB.trans g28
 simp only [p3,p4]
 refine se ?_
 refine ec 22 (mx_Transpose (K:=64) (m:=ma) hRN (by omega) (by omega) (by omega) hs28) ?_
 rintro e29 w29 ⟨⟨u29,rfl,hs29⟩,g29⟩
 refine ⟨_,rfl,?_⟩
 replace hB:=hB.trans g29
 simp only [p3,p4]
 refine sv 19 (.tuple #[u29,(.int .i64 0)]) ?_
 refine sv 23 u29 ?_
 refine sv 24 (.int .i64 0) ?_
 refine sv 7 u29 ?_
 refine sv 8 (.int .i64 0) ?_
 refine sq_nil ?_
 refine k27 _ _ ?_
 try clear k27 K27
 refine wp_seq_k (fun K30 k30=>?_)
 refine rg [0,1,2,3,4,5,6,7,8,9] ?_
 refine sv 26 u24 ?_
 refine se ?_
 replace hs24:=hs24.gr (stab_rw stab_fr 84 2) (g28.trans g29)
 refine ec 27 (l5_own (by omega) (by omega) (fun i _ k _=>(hta.z i k).mono (by omega) (by omega)) (hm.gr hB) hs24) ?_
 rintro e31 w31 ⟨⟨u31,rfl,hs31⟩,g31⟩
 refine ⟨_,rfl,?_⟩
 replace hB:=hB.trans g31
 simp only [p3,p4]
 refine sv 28 u26 ?_
 refine se ?_
 replace hs26:=hs26.gr (stab_rw stab_fr 84 2) (g28.trans (g29.trans g31))
 refine ec 29 (l5_own (by omega) (by omega) (fun i _ k _=>(htb.z i k).mono (by omega) (by omega)) (hm.gr hB) hs26) ?_
 rintro e32 w32 ⟨⟨u32,rfl,hs32⟩,g32⟩
 refine ⟨_,rfl,?_⟩
 replace hB:=hB.trans g32
 simp only [p3,p4]
 refine se ?_
 replace hs31:=hs31.gr (stab_rw (stab_rat 64) 71 4) g32
 refine ec 30 (mx_Mul_n (by omega) (by omega) (by omega) (by omega) hR0 hne hs31 hs32) ?_
 rintro e33 w33 ⟨rfl,g33⟩
 refine ⟨_,rfl,?_⟩
 replace hB:=hB.trans g33
 simp only [p3,p4]
 refine sv 25 (.tuple #[(.slice none 0 0),(.int .i64 13)]) ?_
 refine sv 31 (.slice none 0 0) ?_
 refine sv 32 (.int .i64 13) ?_
 refine sv 9 (.slice none 0 0) ?_
 refine sv 10 (.int .i64 13) ?_
 refine sq_nil ?_
 refine k30 _ _ ?_
 try clear k30 K30
 refine wp_seq_k (fun K34 k34=>?_)
 refine wp_seq_k (fun K35 k35=>?_)
 refine rg [0,1,2,3,4,5,6,7,8] ?_
 refine sv 33 u29 ?_
 refine sv 34 u24 ?_
 refine se ?_
 replace hs24:=hs24.gr (stab_rw stab_fr 84 2) (g31.trans (g32.trans g33))
 refine ec 35 (f5_transpose (m:=ma) hRN (by omega) (by omega) hs24) ?_
 rintro e36 w36 ⟨⟨u36,rfl,hs36⟩,g36⟩
 refine ⟨_,rfl,?_⟩
 replace hB:=hB.trans g36
 simp only [p3,p4]
 refine se ?_
 replace hs29:=hs29.gr (stab_rw (stab_rat 64) 71 4) (g31.trans (g32.trans (g33.trans g36)))
 refine ec 36 (l5_is (L:=8) (by omega) (by omega) (by omega) (by omega) (fun i _ k _=>(hta.z k i).mono (by omega) (by omega)) (ht.gr hB) hs29 hs36) ?_
 rintro e37 w37 ⟨rfl,g37⟩
 refine ⟨_,rfl,?_⟩
 replace hB:=hB.trans g37
 simp only [p3,p4]
 refine sv 37 (.bool false) ?_
 refine sv 38 (.bool false) ?_
 refine sv 39 (.int .i64 0) ?_
 refine sv 40 (.bool false) ?_
 refine sv 41 (.bool false) ?_
 refine sq_nil ?_
 refine k35 _ _ ?_
 try clear k35 K35
 refine wp_cond_false rfl ?_
 refine wp_skip ?_
 refine k34 _ _ ?_
 try clear k34 K34
 refine wp_seq_k (fun K38 k38=>?_)
 refine wp_seq_k (fun K39 k39=>?_)
 refine rg [0,1,2,3,4,5,6,7,8,9] ?_
 refine sv 42 u24 ?_
 refine sw 43 (.int .i64 ((R:Int))) rfl (rv_lenn (e:=51) hs24 (tb_lenz rfl) _ _ rfl rfl (by kernel_rfl)) ?_
 have hb40:(decide ((0:Int)<(R:Int)))=true:=(by simp only [decide_eq_true_eq];omega)
 refine sw 44 (.bool true) rfl (RunV.bool (x:=decide ((0:Int)<(R:Int))) (rvk (by kernel_rfl)) hb40) ?_
 refine sv 45 (.bool true) ?_
 refine sv 46 u24 ?_
 refine se ?_
 replace hs24:=hs24.gr (stab_rw stab_fr 84 2) (g36.trans g37)
 refine ec 47 (f5_columns hRN hs24) ?_
 rintro e41 w41 ⟨rfl,g41⟩
 refine ⟨_,rfl,?_⟩
 replace hB:=hB.trans g41
 simp only [p3,p4]
 refine sv 48 u26 ?_
 refine sw 49 (.int .i64 ((S:Int))) rfl (rv_lenn (e:=51) hs26 (tb_lenz rfl) _ _ rfl rfl (by kernel_rfl)) ?_
 have hb42:(((N:Int) !=(S:Int)))=true:=(by simp;omega)
 refine sw 50 (.bool true) rfl (RunV.bool (x:=((N:Int) !=(S:Int))) (rvk (by kernel_rfl)) hb42) ?_
 refine sv 51 (.bool true) ?_
 refine sq_nil ?_
 refine k39 _ _ ?_
 try clear k39 K39
 refine wp_cond_true rfl ?_
 refine wp_seq_k (fun K43 k43=>?_)
 refine rg [0,1,2,3,4,5,6] ?_
 refine sv 52 (.slice none 0 0) ?_
 refine sv 53 (.int .i64 0) ?_
 refine sv 54 (.bool false) ?_
 refine sv 55 (.bool false) ?_
 refine sv 56 (.int .i64 13) ?_
 refine sv 57 (.bool false) ?_
 refine sv 58 (.bool false) ?_
 refine sq_nil ?_
 refine k43 _ _ ?_
 try clear k43 K43
 refine wp_cond_false rfl ?_
 refine wp_skip ?_
 refine k38 _ _ ?_
 try clear k38 K38
 refine wp_seq_k (fun K44 k44=>?_)
 refine wp_seq_k (fun K45 k45=>?_)
 refine rg [0,1,2] ?_
 refine sv 69 u26 ?_
 refine sw 70 (.int .i64 ((S:Int))) rfl (rv_lenn (e:=51) hs26 (tb_lenz rfl) _ _ rfl rfl (by kernel_rfl)) ?_
 refine sv 71 (.bool (((S:Int)==(0:Int)))) ?_
 refine sq_nil ?_
 refine k45 _ _ ?_
 try clear k45 K45
 refine wp_cond_split (t:=((S:Int)==(0:Int))) rfl (fun hb46=>?_) (fun hb46=>?_)
 ·have hq47:(S:Int)=(0:Int):=by have:=hb46;simp at this;omega
  refine wp_seq_k (fun K48 k48=>?_)
  refine rg [0] ?_
  refine sv 4 (.bool true) ?_
  refine sq_nil ?_
  refine k48 _ _ ?_
  try clear k48 K48
  refine wp_ret ?_
  simp only [Exit.then]
  refine bodyPost_ret (v:=(.bool true)) (ret_tmp rfl rfl) rfl ⟨?_,hB⟩
  exact rfl
 ·have hq49:¬ (S:Int)=(0:Int):=by have:=hb46;simp at this;omega
  refine wp_skip ?_
  refine k44 _ _ ?_
  try clear k44 K44
  refine wp_seq_k (fun K50 k50=>?_)
  replace hs26:=hs26.gr (stab_rw stab_fr 84 2) (g32.trans (g33.trans (g36.trans (g37.trans g41))))
  obtain ⟨_,_,⟨u58,rfl,hr58⟩,at58⟩:=Sl.get hs26 (by decide) (tb_get (f:=(fun z0=>tb (fun z1=>(mb z0 z1)) N)) (n:=S) (i:=0) (by omega))
  have gd59:=Gr.drew w41
  replace hB:=hB.trans gd59
  replace at58:=at58.gr gd59
  refine wp_region_ord (fun w'=>AtV w' u26 (0*1) [u58]) [(true,0),(true,2),(true,3),(true,4),(false,1),(false,5),(false,6),(true,7),(true,8),(true,9),(true,10),(true,11)] (by kernel_rfl) (by kernel_rfl) (by kernel_rfl) (by decide) (fun _ _ _ _ _ h=>h) at58 ?_
  refine ov 73 u24 ?_
  refine ov 75 u26 ?_
  refine ow 76 (adr u26 (0*1)) rfl (fun w' hS=>(rv_idxn (e:=51) hs26 tb_len (by decide) 0 (by omega) _ _ _ rfl rfl rfl (by kernel_rfl) (by kernel_rfl))) ?_
  refine ow 77 u58 rfl (fun w' hS=>(rv_ld1 u58 hS _ _ rfl rfl (by kernel_rfl))) ?_
  refine oe ?_
  replace hs24:=hs24.gr (stab_rw stab_fr 84 2) (g41.trans gd59)
  refine ec 74 (l5_own (by omega) (by omega) (fun i _ k _=>(hta.z i k).mono (by omega) (by omega)) (hm.gr hB) hs24) ?_
  rintro e61 w61 ⟨⟨u61,rfl,hs61⟩,g61⟩
  refine ⟨_,rfl,?_⟩
  replace hB:=hB.trans g61
  replace at58:=at58.gr g61
  refine ⟨at58,?_⟩
  simp only [p3,p4]
  refine oe ?_
  replace hr58:=hr58.gr stab_fr (gd59.trans g61)
  refine ec 78 (l5_list (by omega) (fun j _=>(htb.z 0 j).mono (by omega) (by omega)) (hm.gr hB) hr58) ?_
  rintro e63 w63 ⟨⟨u63,rfl,hs63⟩,g63⟩
  refine ⟨_,rfl,?_⟩
  replace hB:=hB.trans g63
  replace at58:=at58.gr g63
  refine ⟨at58,?_⟩
  simp only [p3,p4]
  refine oe ?_
  replace hs61:=hs61.gr (stab_rw (stab_rat 64) 71 4) g63
  refine ec 79 (mx_Apply (K:=64) (L:=64) (R:=R) (N:=N) (m:=ma) (x:=mb 0) (by omega) (by omega) (by omega) hs61 hs63) ?_
  rintro e65 w65 ⟨⟨u65,rfl,hs65⟩,g65⟩
  refine ⟨_,rfl,?_⟩
  replace hB:=hB.trans g65
  replace at58:=at58.gr g65
  refine ⟨at58,?_⟩
  simp only [p3,p4]
  refine ov 72 (.tuple #[u65,(.int .i64 0)]) ?_
  refine ov 80 u65 ?_
  refine ov 81 (.int .i64 0) ?_
  refine ov 11 u65 ?_
  refine ov 12 (.int .i64 0) ?_
  refine ord_nil ?_
  refine k50 _ _ ?_
  try clear k50 K50
  refine wp_seq_k (fun K66 k66=>?_)
  refine wp_seq_k (fun K67 k67=>?_)
  have gd72:=Gr.drew w65
  replace hB:=hB.trans gd72
  replace at58:=at58.gr gd72
  refine wp_region_ord (fun w'=>AtV w' u26 (0*1) [u58]) [(true,0),(true,1),(true,2),(true,3),(true,4),(true,5),(true,6),(true,7),(true,8),(false,9),(true,10),(true,11)] (by kernel_rfl) (by kernel_rfl) (by kernel_rfl) (by decide) (fun _ _ _ _ _ h=>h) at58 ?_
  refine ov 82 u24 ?_
  refine ow 83 (.int .i64 ((R:Int))) rfl (fun w' hS=>(rv_lenn (e:=51) hs24 (tb_lenz rfl) _ _ rfl rfl (by kernel_rfl))) ?_
  refine ow 84 (.bool true) rfl (fun w' hS=>(RunV.bool (x:=decide ((0:Int)<(R:Int))) (rvk (by kernel_rfl)) hb40)) ?_
  refine ov 85 (.bool true) ?_
  refine ov 86 u26 ?_
  refine ow 87 (adr u26 (0*1)) rfl (fun w' hS=>(rv_idxn (e:=51) hs26 tb_len (by decide) 0 (by omega) _ _ _ rfl rfl rfl (by kernel_rfl) (by kernel_rfl))) ?_
  refine ow 88 u58 rfl (fun w' hS=>(rv_ld1 u58 hS _ _ rfl rfl (by kernel_rfl))) ?_
  refine ow 89 (.int .i64 ((N:Int))) rfl (fun w' hS=>(rv_lenn (e:=84) hr58 (tb_lenz rfl) _ _ rfl rfl (by kernel_rfl))) ?_
  refine ov 90 u24 ?_
  refine oe ?_
  replace hs24:=hs24.gr (stab_rw stab_fr 84 2) (g61.trans (g63.trans (g65.trans gd72)))
  refine ec 91 (f5_columns hRN hs24) ?_
  rintro e74 w74 ⟨rfl,g74⟩
  refine ⟨_,rfl,?_⟩
  replace hB:=hB.trans g74
  replace at58:=at58.gr g74
  refine ⟨at58,?_⟩
  simp only [p3,p4]
  have hb75:(((N:Int) !=(N:Int)))=false:=(by simp)
  refine ow 92 (.bool false) rfl (fun w' hS=>(RunV.bool (x:=((N:Int) !=(N:Int))) (rvk (by kernel_rfl)) hb75)) ?_
  refine ov 93 (.bool false) ?_
  refine ord_nil ?_
  refine k67 _ _ ?_
  try clear k67 K67
  refine wp_cond_false rfl ?_
  refine wp_skip ?_
  refine k66 _ _ ?_
  try clear k66 K66
  refine wp_seq_k (fun K76 k76=>?_)
  refine rg [0,1,2,3,4,5,6,7,8,9,10,11] ?_
  refine sv 101 u65 ?_
  refine sv 102 u24 ?_
  refine sv 103 u26 ?_
  refine sw 104 (adr u26 (0*1)) rfl (rv_idxn (e:=51) hs26 tb_len (by decide) 0 (by omega) _ _ _ rfl rfl rfl (by kernel_rfl) (by kernel_rfl)) ?_
  refine sw 105 u58 rfl (rv_ld1 u58 at58 _ _ rfl rfl (by kernel_rfl)) ?_
  refine se ?_
  replace hs24:=hs24.gr (stab_rw stab_fr 84 2) g74
  replace hr58:=hr58.gr stab_fr (g63.trans (g65.trans (gd72.trans g74)))
  refine ec 106 (f5_apply (A:=8) (B:=8) (R:=R) (N:=N) (m:=ma) (x:=mb 0) (by omega) (by omega) (fun i _ k _=>(hta.z i k).mono (by omega) (by omega)) (fun j _=>(htb.z 0 j).mono (by omega) (by omega)) (by omega) hs24 hr58) ?_
  rintro e77 w77 ⟨⟨u77,rfl,hs77⟩,g77⟩
  refine ⟨_,rfl,?_⟩
  replace hB:=hB.trans g77
  simp only [p3,p4]
  refine se ?_
  replace hs65:=hs65.gr (stab_rat (64+N*(64+64+1))) (gd72.trans (g74.trans g77))
  refine ec 107 (l5_equal (L:=200) (by omega) (by omega) (by omega) (fun i hi=>(rz_sm (n:=N) (fun k _=>hta.z i k) (fun k _=>htb.z 0 k)).mono (by omega) (by omega)) (ht.gr hB) hs65 hs77) ?_
  rintro e78 w78 ⟨rfl,g78⟩
  refine ⟨_,rfl,?_⟩
  replace hB:=hB.trans g78
  simp only [p3,p4]
  refine sv 108 (.bool true) ?_
  refine sv 109 (.int .i64 0) ?_
  refine sv 110 (.bool true) ?_
  refine sv 111 (.bool true) ?_
  refine sv 4 (.bool true) ?_
  refine sq_nil ?_
  refine k76 _ _ ?_
  try clear k76 K76
  refine wp_ret ?_
  refine bodyPost_ret (v:=(.bool true)) (ret_tmp rfl rfl) rfl ⟨?_,hB⟩
  exact rfl

set_option maxRecDepth 100000 in
set_option maxHeartbeats 1000000 in
theorem mp_nn {R N S M ca cb:Nat} {va vb:Value} {ma mb:Mx_} (hR0:0<R) (hne:¬ N=S) (hne2:¬ N=M) {w:World} (hm:Mx w) (ht:Tab w) (hta:TA w (.agg #[.int .u8 (ca:Int),va]) R N ma) (htb:TA w (.agg #[.int .u8 (cb:Int),vb]) S M mb):
    Calls Tryz.prog 9 #[(.agg #[(.int .u8 ((ca:Int))),va]),(.agg #[(.int .u8 ((cb:Int))),vb])] w fun e w'=>e=.returned (.bool true)∧Gr w w':=by
 have hR5:=hta.R5
 have hN6:=hta.N6
 have hRN:=hta.R0
 have hS5:=htb.R5
 have hM6:=htb.N6
 have hSM:=htb.R0
 go_enter Tryz.func9,Tryz.ntmps9
 have hB:=Gr.refl w
 refine wp_seq_k (fun K10 k10=>?_)
 refine rg [0,1,2] ?_
 refine se ?_
 refine eb 24 #[(.int .u8 ((ca:Int))),va] 2 hB fun b11 w11 g11 L11 o11 q11 hB=>?_
 simp only [p3,p4]
 refine se ?_
 refine eb 24 #[(.int .u8 ((cb:Int))),vb] 3 hB fun b12 w12 g12 L12 o12 q12 hB=>?_
 simp only [p3,p4]
 refine sv 4 (.bool false) ?_
 refine sq_nil ?_
 refine k10 _ _ ?_
 try clear k10 K10
 refine wp_seq_k (fun K13 k13=>?_)
 refine wp_seq_k (fun K14 k14=>?_)
 refine rg [0,1] ?_
 refine se ?_
 refine ec 13 (l5_known _ (hm.gr hB) (ht.gr hB)) ?_
 rintro e15 w15 ⟨rfl,g15⟩
 refine ⟨_,rfl,?_⟩
 replace hB:=hB.trans g15
 simp only [p3,p4]
 refine sv 14 (.bool false) ?_
 refine sq_nil ?_
 refine k14 _ _ ?_
 try clear k14 K14
 refine wp_cond_false rfl ?_
 refine wp_skip ?_
 refine k13 _ _ ?_
 try clear k13 K13
 refine wp_seq_k (fun K16 k16=>?_)
 have gd22:=Gr.drew w15
 replace hB:=hB.trans gd22
 replace L11:=L11.gr (g12.trans (g15.trans gd22))
 replace L12:=L12.gr (g15.trans gd22)
 refine wp_region_ord (fun w'=>Lc w' b11 #[(.int .u8 ((ca:Int))),va] 24∧Lc w' b12 #[(.int .u8 ((cb:Int))),vb] 24) [(true,0),(true,2),(false,1),(false,3),(true,4),(true,5)] (by kernel_rfl) (by kernel_rfl) (by kernel_rfl) (by decide) (fun _ _ _ _ _ h=>h) ⟨L11,L12⟩ ?_
 refine ow 15 (.agg #[(.int .u8 ((ca:Int))),va]) rfl (fun w' hS=>(rl 24 0 [(.int .u8 ((ca:Int))),va] hS.1)) ?_
 refine ow 17 (.agg #[(.int .u8 ((cb:Int))),vb]) rfl (fun w' hS=>(rl 24 0 [(.int .u8 ((cb:Int))),vb] hS.2)) ?_
 refine oe ?_
 refine ec 16 (l5_rowsT (hta.gr hB)) ?_
 rintro e24 w24 ⟨⟨u24,rfl,hs24⟩,g24⟩
 refine ⟨_,rfl,?_⟩
 replace hB:=hB.trans g24
 replace L11:=L11.gr g24
 replace L12:=L12.gr g24
 refine ⟨⟨L11,L12⟩,?_⟩
 simp only [p3,p4]
 refine oe ?_
 refine ec 18 (l5_rowsT (htb.gr hB)) ?_
 rintro e26 w26 ⟨⟨u26,rfl,hs26⟩,g26⟩
 refine ⟨_,rfl,?_⟩
 replace hB:=hB.trans g26
 replace L11:=L11.gr g26
 replace L12:=L12.gr g26
 refine ⟨⟨L11,L12⟩,?_⟩
 simp only [p3,p4]
 refine ov 5 u24 ?_
 refine ov 6 u26 ?_
 refine ord_nil ?_
 refine k16 _ _ ?_
 try clear k16 K16
 refine wp_seq_k (fun K27 k27=>?_)
 refine rg [0,1,2,3,4,5,6,7] ?_
 refine sv 20 u24 ?_
 refine se ?_
 replace hs24:=hs24.gr (stab_rw stab_fr 84 2) g26
 refine ec 21 (l5_own (by omega) (by omega) (fun i _ k _=>(hta.z i k).mono (by omega) (by omega)) (hm.gr hB) hs24) ?_
 rintro e28 w28 ⟨⟨u28,rfl,hs28⟩,g28⟩
 refine ⟨_,rfl,?_⟩
 replace hB:=hB.trans g28
 simp only [p3,p4]
 refine se ?_
 refine ec 22 (mx_Transpose (K:=64) (m:=ma) hRN (by omega) (by omega) (by omega) hs28) ?_
 rintro e29 w29 ⟨⟨u29,rfl,hs29⟩,g29⟩
 refine ⟨_,rfl,?_⟩
 replace hB:=hB.trans g29
 simp only [p3,p4]
 refine sv 19 (.tuple #[u29,(.int .i64 0)]) ?_
 refine sv 23 u29 ?_
 refine sv 24 (.int .i64 0) ?_
 refine sv 7 u29 ?_
 refine sv 8 (.int .i64 0) ?_
 refine sq_nil ?_
 refine k27 _ _ ?_
 try clear k27 K27
 refine wp_seq_k (fun K30 k30=>?_)
 refine rg [0,1,2,3,4,5,6,7,8,9] ?_
 refine sv 26 u24 ?_
 refine se ?_
 replace hs24:=hs24.gr (stab_rw stab_fr 84 2) (g28.trans g29)
 refine ec 27 (l5_own (by omega) (by omega) (fun i _ k _=>(hta.z i k).mono (by omega) (by omega)) (hm.gr hB) hs24) ?_
 rintro e31 w31 ⟨⟨u31,rfl,hs31⟩,g31⟩
 refine ⟨_,rfl,?_⟩
 replace hB:=hB.trans g31
 simp only [p3,p4]
 refine sv 28 u26 ?_
 refine se ?_
 replace hs26:=hs26.gr (stab_rw stab_fr 84 2) (g28.trans (g29.trans g31))
 refine ec 29 (l5_own (by omega) (by omega) (fun i _ k _=>(htb.z i k).mono (by omega) (by omega)) (hm.gr hB) hs26) ?_
 rintro e32 w32 ⟨⟨u32,rfl,hs32⟩,g32⟩
 refine ⟨_,rfl,?_⟩
 replace hB:=hB.trans g32
 simp only [p3,p4]
 refine se ?_
 replace hs31:=hs31.gr (stab_rw (stab_rat 64) 71 4) g32
 refine ec 30 (mx_Mul_n (by omega) (by omega) (by omega) (by omega) hR0 hne hs31 hs32) ?_
 rintro e33 w33 ⟨rfl,g33⟩
 refine ⟨_,rfl,?_⟩
 replace hB:=hB.trans g33
 simp only [p3,p4]
 refine sv 25 (.tuple #[(.slice none 0 0),(.int .i64 13)]) ?_
 refine sv 31 (.slice none 0 0) ?_
 refine sv 32 (.int .i64 13) ?_
 refine sv 9 (.slice none 0 0) ?_
 refine sv 10 (.int .i64 13) ?_
 refine sq_nil ?_
 refine k30 _ _ ?_
 try clear k30 K30
 refine wp_seq_k (fun K34 k34=>?_)
 refine wp_seq_k (fun K35 k35=>?_)
 refine rg [0,1,2,3,4,5,6,7,8] ?_
 refine sv 33 u29 ?_
 refine sv 34 u24 ?_
 refine se ?_
 replace hs24:=hs24.gr (stab_rw stab_fr 84 2) (g31.trans (g32.trans g33))
 refine ec 35 (f5_transpose (m:=ma) hRN (by omega) (by omega) hs24) ?_
 rintro e36 w36 ⟨⟨u36,rfl,hs36⟩,g36⟩
 refine ⟨_,rfl,?_⟩
 replace hB:=hB.trans g36
 simp only [p3,p4]
 refine se ?_
 replace hs29:=hs29.gr (stab_rw (stab_rat 64) 71 4) (g31.trans (g32.trans (g33.trans g36)))
 refine ec 36 (l5_is (L:=8) (by omega) (by omega) (by omega) (by omega) (fun i _ k _=>(hta.z k i).mono (by omega) (by omega)) (ht.gr hB) hs29 hs36) ?_
 rintro e37 w37 ⟨rfl,g37⟩
 refine ⟨_,rfl,?_⟩
 replace hB:=hB.trans g37
 simp only [p3,p4]
 refine sv 37 (.bool false) ?_
 refine sv 38 (.bool false) ?_
 refine sv 39 (.int .i64 0) ?_
 refine sv 40 (.bool false) ?_
 refine sv 41 (.bool false) ?_
 refine sq_nil ?_
 refine k35 _ _ ?_
 try clear k35 K35
 refine wp_cond_false rfl ?_
 refine wp_skip ?_
 refine k34 _ _ ?_
 try clear k34 K34
 refine wp_seq_k (fun K38 k38=>?_)
 refine wp_seq_k (fun K39 k39=>?_)
 refine rg [0,1,2,3,4,5,6,7,8,9] ?_
 refine sv 42 u24 ?_
 refine sw 43 (.int .i64 ((R:Int))) rfl (rv_lenn (e:=51) hs24 (tb_lenz rfl) _ _ rfl rfl (by kernel_rfl)) ?_
 have hb40:(decide ((0:Int)<(R:Int)))=true:=(by simp only [decide_eq_true_eq];omega)
 refine sw 44 (.bool true) rfl (RunV.bool (x:=decide ((0:Int)<(R:Int))) (rvk (by kernel_rfl)) hb40) ?_
 refine sv 45 (.bool true) ?_
 refine sv 46 u24 ?_
 refine se ?_
 replace hs24:=hs24.gr (stab_rw stab_fr 84 2) (g36.trans g37)
 refine ec 47 (f5_columns hRN hs24) ?_
 rintro e41 w41 ⟨rfl,g41⟩
 refine ⟨_,rfl,?_⟩
 replace hB:=hB.trans g41
 simp only [p3,p4]
 refine sv 48 u26 ?_
 refine sw 49 (.int .i64 ((S:Int))) rfl (rv_lenn (e:=51) hs26 (tb_lenz rfl) _ _ rfl rfl (by kernel_rfl)) ?_
 have hb42:(((N:Int) !=(S:Int)))=true:=(by simp;omega)
 refine sw 50 (.bool true) rfl (RunV.bool (x:=((N:Int) !=(S:Int))) (rvk (by kernel_rfl)) hb42) ?_
 refine sv 51 (.bool true) ?_
 refine sq_nil ?_
 refine k39 _ _ ?_
 try clear k39 K39
 refine wp_cond_true rfl ?_
 refine wp_seq_k (fun K43 k43=>?_)
 refine rg [0,1,2,3,4,5,6] ?_
 refine sv 52 (.slice none 0 0) ?_
 refine sv 53 (.int .i64 0) ?_
 refine sv 54 (.bool false) ?_
 refine sv 55 (.bool false) ?_
 refine sv 56 (.int .i64 13) ?_
 refine sv 57 (.bool false) ?_
 refine sv 58 (.bool false) ?_
 refine sq_nil ?_
 refine k43 _ _ ?_
 try clear k43 K43
 refine wp_cond_false rfl ?_
 refine wp_skip ?_
 refine k38 _ _ ?_
 try clear k38 K38
 refine wp_seq_k (fun K44 k44=>?_)
 refine wp_seq_k (fun K45 k45=>?_)
 refine rg [0,1,2] ?_
 refine sv 69 u26 ?_
 refine sw 70 (.int .i64 ((S:Int))) rfl (rv_lenn (e:=51) hs26 (tb_lenz rfl) _ _ rfl rfl (by kernel_rfl)) ?_
 refine sv 71 (.bool (((S:Int)==(0:Int)))) ?_
 refine sq_nil ?_
 refine k45 _ _ ?_
 try clear k45 K45
 refine wp_cond_split (t:=((S:Int)==(0:Int))) rfl (fun hb46=>?_) (fun hb46=>?_)
 ·have hq47:(S:Int)=(0:Int):=by have:=hb46;simp at this;omega
  refine wp_seq_k (fun K48 k48=>?_)
  refine rg [0] ?_
  refine sv 4 (.bool true) ?_
  refine sq_nil ?_
  refine k48 _ _ ?_
  try clear k48 K48
  refine wp_ret ?_
  simp only [Exit.then]
  refine bodyPost_ret (v:=(.bool true)) (ret_tmp rfl rfl) rfl ⟨?_,hB⟩
  exact rfl
 ·have hq49:¬ (S:Int)=(0:Int):=by have:=hb46;simp at this;omega
  refine wp_skip ?_
  refine k44 _ _ ?_
  try clear k44 K44
  refine wp_seq_k (fun K50 k50=>?_)
  replace hs26:=hs26.gr (stab_rw stab_fr 84 2) (g32.trans (g33.trans (g36.trans (g37.trans g41))))
  obtain ⟨_,_,⟨u58,rfl,hr58⟩,at58⟩:=Sl.get hs26 (by decide) (tb_get (f:=(fun z0=>tb (fun z1=>(mb z0 z1)) M)) (n:=S) (i:=0) (by omega))
  have gd59:=Gr.drew w41
  replace hB:=hB.trans gd59
  replace at58:=at58.gr gd59
  refine wp_region_ord (fun w'=>AtV w' u26 (0*1) [u58]) [(true,0),(true,2),(true,3),(true,4),(false,1),(false,5),(false,6),(true,7),(true,8),(true,9),(true,10),(true,11)] (by kernel_rfl) (by kernel_rfl) (by kernel_rfl) (by decide) (fun _ _ _ _ _ h=>h) at58 ?_
  refine ov 73 u24 ?_
  refine ov 75 u26 ?_
  refine ow 76 (adr u26 (0*1)) rfl (fun w' hS=>(rv_idxn (e:=51) hs26 tb_len (by decide) 0 (by omega) _ _ _ rfl rfl rfl (by kernel_rfl) (by kernel_rfl))) ?_
  refine ow 77 u58 rfl (fun w' hS=>(rv_ld1 u58 hS _ _ rfl rfl (by kernel_rfl))) ?_
  refine oe ?_
  replace hs24:=hs24.gr (stab_rw stab_fr 84 2) (g41.trans gd59)
  refine ec 74 (l5_own (by omega) (by omega) (fun i _ k _=>(hta.z i k).mono (by omega) (by omega)) (hm.gr hB) hs24) ?_
  rintro e61 w61 ⟨⟨u61,rfl,hs61⟩,g61⟩
  refine ⟨_,rfl,?_⟩
  replace hB:=hB.trans g61
  replace at58:=at58.gr g61
  refine ⟨at58,?_⟩
  simp only [p3,p4]
  refine oe ?_
  replace hr58:=hr58.gr stab_fr (gd59.trans g61)
  refine ec 78 (l5_list (by omega) (fun j _=>(htb.z 0 j).mono (by omega) (by omega)) (hm.gr hB) hr58) ?_
  rintro e63 w63 ⟨⟨u63,rfl,hs63⟩,g63⟩
  refine ⟨_,rfl,?_⟩
  replace hB:=hB.trans g63
  replace at58:=at58.gr g63
  refine ⟨at58,?_⟩
  simp only [p3,p4]
  refine oe ?_
  replace hs61:=hs61.gr (stab_rw (stab_rat 64) 71 4) g63
  refine ec 79 (mx_Apply_n (by omega) (by omega) hR0 hne2 hs61 hs63) ?_
  rintro e65 w65 ⟨rfl,g65⟩
  refine ⟨_,rfl,?_⟩
  replace hB:=hB.trans g65
  replace at58:=at58.gr g65
  refine ⟨at58,?_⟩
  simp only [p3,p4]
  refine ov 72 (.tuple #[(.slice none 0 0),(.int .i64 13)]) ?_
  refine ov 80 (.slice none 0 0) ?_
  refine ov 81 (.int .i64 13) ?_
  refine ov 11 (.slice none 0 0) ?_
  refine ov 12 (.int .i64 13) ?_
  refine ord_nil ?_
  refine k50 _ _ ?_
  try clear k50 K50
  refine wp_seq_k (fun K66 k66=>?_)
  refine wp_seq_k (fun K67 k67=>?_)
  have gd72:=Gr.drew w65
  replace hB:=hB.trans gd72
  replace at58:=at58.gr gd72
  refine wp_region_ord (fun w'=>AtV w' u26 (0*1) [u58]) [(true,0),(true,1),(true,2),(true,3),(true,4),(true,5),(true,6),(true,7),(true,8),(false,9),(true,10),(true,11)] (by kernel_rfl) (by kernel_rfl) (by kernel_rfl) (by decide) (fun _ _ _ _ _ h=>h) at58 ?_
  refine ov 82 u24 ?_
  refine ow 83 (.int .i64 ((R:Int))) rfl (fun w' hS=>(rv_lenn (e:=51) hs24 (tb_lenz rfl) _ _ rfl rfl (by kernel_rfl))) ?_
  refine ow 84 (.bool true) rfl (fun w' hS=>(RunV.bool (x:=decide ((0:Int)<(R:Int))) (rvk (by kernel_rfl)) hb40)) ?_
  refine ov 85 (.bool true) ?_
  refine ov 86 u26 ?_
  refine ow 87 (adr u26 (0*1)) rfl (fun w' hS=>(rv_idxn (e:=51) hs26 tb_len (by decide) 0 (by omega) _ _ _ rfl rfl rfl (by kernel_rfl) (by kernel_rfl))) ?_
  refine ow 88 u58 rfl (fun w' hS=>(rv_ld1 u58 hS _ _ rfl rfl (by kernel_rfl))) ?_
  refine ow 89 (.int .i64 ((M:Int))) rfl (fun w' hS=>(rv_lenn (e:=84) hr58 (tb_lenz rfl) _ _ rfl rfl (by kernel_rfl))) ?_
  refine ov 90 u24 ?_
  refine oe ?_
  replace hs24:=hs24.gr (stab_rw stab_fr 84 2) (g61.trans (g63.trans (g65.trans gd72)))
  refine ec 91 (f5_columns hRN hs24) ?_
  rintro e74 w74 ⟨rfl,g74⟩
  refine ⟨_,rfl,?_⟩
  replace hB:=hB.trans g74
  replace at58:=at58.gr g74
  refine ⟨at58,?_⟩
  simp only [p3,p4]
  have hb75:(((M:Int) !=(N:Int)))=true:=(by simp;omega)
  refine ow 92 (.bool true) rfl (fun w' hS=>(RunV.bool (x:=((M:Int) !=(N:Int))) (rvk (by kernel_rfl)) hb75)) ?_
  refine ov 93 (.bool true) ?_
  refine ord_nil ?_
  refine k67 _ _ ?_
  try clear k67 K67
  refine wp_cond_true rfl ?_
  refine wp_seq_k (fun K76 k76=>?_)
  refine rg [0,1,2,3,4,5,6,7] ?_
  refine sv 94 (.slice none 0 0) ?_
  refine sv 95 (.int .i64 0) ?_
  refine sv 96 (.bool true) ?_
  refine sv 97 (.bool true) ?_
  refine sv 98 (.int .i64 13) ?_
  refine sv 99 (.bool true) ?_
  refine sv 100 (.bool true) ?_
  refine sv 4 (.bool true) ?_
  refine sq_nil ?_
  refine k76 _ _ ?_
  try clear k76 K76
  refine wp_ret ?_
  simp only [Exit.then]
  refine bodyPost_ret (v:=(.bool true)) (ret_tmp rfl rfl) rfl ⟨?_,hB⟩
  exact rfl

theorem matrix_products {R N S M:Nat} {xa xb:Value} {ma mb:Mx_} {w:World} (hta:TA w xa R N ma) (htb:TA w xb S M mb) (W:World) (hW:W=w) (ht:Tab W) (hm:Mx W):Calls Tryz.prog 9 #[xa,xb] W fun e w'=>e=.returned (.bool true)∧Gr W w':=by
  subst hW
  obtain ⟨_,_,ca,va,_,_,rfl,_⟩:=id hta
  obtain ⟨_,_,cb,vb,_,_,rfl,_⟩:=id htb
  rcases Nat.eq_zero_or_pos R with rfl | hR0
  · obtain rfl:=hta.R0 rfl
    exact mp_0 hm ht hta htb
  · by_cases hne:N=S
    · subst hne
      by_cases hne2:N=M
      · subst hne2;exact mp_yy hR0 hm ht hta htb
      · exact mp_yn hR0 hne2 hm ht hta htb
    · by_cases hne2:N=M
      · subst hne2;exact mp_ny hR0 hne hm ht hta htb
      · exact mp_nn hR0 hne hne2 hm ht hta htb
end Go.Proofs.YtepgkcimmdmgcaaGreatDoor
namespace Go.Proofs.YtepgkcimmdmgcaaGreatDoor
open Go.ChangeShapes Go.WideShapes Go.ChangeAt Go.RowKit

theorem matrixProducts_table {W : World} (h : laidMetH Tryz.prog Rows.matrixProductsRow.laid W) : Tab W :=
  Lib.tabIs_of_head (rest := _) (g := 1) (t := 236) (e := 152) (n := 20) (by kernel_rfl) (by kernel_rfl) (by kernel_rfl) (by kernel_rfl) (by kernel_rfl) (by kernel_rfl) ((show laidMet Tryz.prog Rows.matrixProductsRow.laid W from (MakeChecks.laidMetH_plain _ _ _ (by kernel_rfl)) ▸ h).tail.tail)
theorem matrixProducts_maxlen {W : World} (h : W.ShapedOpen Tryz.prog) : Mx W :=
  Go.Proofs.cell_of_shapedOpen_int (zero := #[.int .i64 0]) (g := 0) (t := 3) h (of_decide_eq_true (by kernel_rfl)) (by kernel_rfl) rfl (by kernel_rfl) (by kernel_rfl) Tryz.underlying3
set_option maxRecDepth 100000 in
theorem matrixProducts_contract (H : Type) (enc : TypeId × Value → H) (W : World) (base : Nat) (args : Array Value) (ds gs : List (DataW H)) (before : List MemPlace)
    (hval : ∀ (j : Nat) t v, Tryz.f9.params[j]? = some t → args[j]? = some v → Value.okWide Tryz.prog W .any base t v)
    (hW : DataW.Whole enc Tryz.prog Tryz.f9.params.toList Rows.matrixProductsSpec.vars false W args.toList ds gs before) (hL : laidMetH Tryz.prog Rows.matrixProductsRow.laid W) (hsh : W.ShapedOpen Tryz.prog) :
    Calls Tryz.prog 9 args W fun e W' => ∃ v, e = .returned v ∧ Rows.matrixProductsSpec.post enc Tryz.prog Tryz.f9 false true false false W args v W' := by
  have hW' := hW
  obtain ⟨p, q, hA0, hV, rfl, hfz, hnd⟩ := hW
  have hA : DataW.TrodAll enc Tryz.prog W 0 (fun _ => true) true Tryz.f9.params.toList args.toList ds p := hA0
  rw [Tryz.params9] at hA hval
  obtain ⟨v0, vs0, d0, ds0, p0, q0, hargs, rfl, rfl, h0, r0⟩ := trodAll_cons hA
  obtain ⟨v1, vs1, d1, ds1, p1, q1, rfl, rfl, rfl, h1, r1⟩ := trodAll_cons r0
  obtain ⟨rfl, rfl, rfl⟩ := trodAll_nil r1
  obtain rfl : args = #[v0, v1] := by cases args; simp_all
  obtain ⟨rfl, rfl⟩ := trodVars_none hV
  obtain ⟨z0, u0, T0, Xs0, rfl, bz0, sl0⟩ := open_tabk (E := ESl (EK [.i8, .u8]) 2) (k := .u8) (e := 45) (c := 1) (by kernel_rfl) (by kernel_rfl) (by decide) (fun _ _ _ _ hx => trod_esl (e := 114) (by kernel_rfl) (by kernel_rfl) (by decide) (trod_ek 5 (ks := [.i8, .u8]) (by kernel_rfl)) hx) (hval 0 24 v0 rfl rfl) h0
  obtain ⟨R0, N0, m0, ta0⟩ := ta_of sl0 (has_u8 bz0)
  obtain ⟨z1, u1, T1, Xs1, rfl, bz1, sl1⟩ := open_tabk (E := ESl (EK [.i8, .u8]) 2) (k := .u8) (e := 45) (c := 1) (by kernel_rfl) (by kernel_rfl) (by decide) (fun _ _ _ _ hx => trod_esl (e := 114) (by kernel_rfl) (by kernel_rfl) (by decide) (trod_ek 5 (ks := [.i8, .u8]) (by kernel_rfl)) hx) (hval 1 24 v1 rfl rfl) h1
  obtain ⟨R1, N1, m1, ta1⟩ := ta_of sl1 (has_u8 bz1)
  refine ((fun _ => matrix_products ta0 ta1 _ rfl)  W (matrixProducts_table hL) (matrixProducts_maxlen hsh)).mono fun e W' ⟨he, hg⟩ => ?_
  subst he
  exact ⟨_, rfl, law_post (tb := 4) laidOut (by kernel_rfl) (by kernel_rfl) (by kernel_rfl) rfl hW' rfl hg⟩
noncomputable def matrixProducts_world (os : Os) : World := World.laidAll Tryz.prog os Rows.matrixProductsRow.laid
theorem matrixProducts_met (os : Os) : laidMet Tryz.prog Rows.matrixProductsRow.laid ((matrixProducts_world os).forCall (fun _ _ => 0) ⟨#[], #[.agg #[.int .u8 0, .slice none 0 0], .agg #[.int .u8 0, .slice none 0 0]], []⟩).memory :=
  laidMet_laidAll _ (by kernel_rfl) (by kernel_rfl)
theorem matrixProducts_reads (os : Os) {H : Type} (enc : TypeId × Value → H) : ∃ places, DataW.whole enc Tryz.prog ((matrixProducts_world os).forCall (fun _ _ => 0) ⟨#[], #[.agg #[.int .u8 0, .slice none 0 0], .agg #[.int .u8 0, .slice none 0 0]], []⟩).memory Tryz.f9.params.toList Rows.matrixProductsSpec.vars false (#[.agg #[.int .u8 0, .slice none 0 0], .agg #[.int .u8 0, .slice none 0 0]] : Array Value).toList 8 = some ([.agg [.lit (.int .u8 0), .nil], .agg [.lit (.int .u8 0), .nil]], [], places) :=
  ⟨[], by kernel_rfl⟩
set_option maxRecDepth 100000 in
theorem matrixProducts_lifted (os : Os) (started : os.Started) (H : Type) (enc : TypeId × Value → H) (F : Stop.Interp) :
    ReturnsInHanded {} Tryz.checked os 9 .any ((OpenSpec.ofChange Rows.matrixProductsSpec).preRow enc Tryz.prog Tryz.f9 Rows.matrixProductsRow.domain false Rows.matrixProductsRow.laid) (((OpenSpec.ofChange Rows.matrixProductsSpec).at F).post enc Tryz.prog Tryz.f9 false true false false) := by
  obtain ⟨places, hx⟩ := matrixProducts_reads os enc
  refine returnsInHanded_of_row (C := Tryz.checked) (s := OpenSpec.ofChange Rows.matrixProductsSpec) own started (by kernel_rfl) Tryz.func9
    (witness_row_sh (enc := enc) (C := Tryz.checked) false (matrixProducts_world os) #[.agg #[.int .u8 0, .slice none 0 0], .agg #[.int .u8 0, .slice none 0 0]] (World.laidAll_os _ _ _) (World.shaped_of_ZipB (by kernel_rfl) (by kernel_rfl)) (by kernel_rfl)
      (OpenSpec.preRow_of_cond 8 hx (by kernel_rfl) (fun k hk => by cases hk) (by kernel_rfl) (by rw [MakeChecks.laidMetH_plain _ _ _ (by kernel_rfl)]; exact matrixProducts_met os))) ?_
  intro W base args ds gs before hval hW _ _ _ hL hsh _
  exact matrixProducts_contract H enc W base args ds gs before hval hW hL hsh
theorem matrixProducts_said : Rows.MatrixProductsSaid :=
  OpenClaim.holds_of_cond 9 Tryz.f9 rfl rfl rfl rfl rfl rfl rfl ⟨rfl, rfl, rfl, rfl, rfl⟩ rfl rfl rfl rfl rfl (by kernel_rfl) Tryz.func9 (by kernel_rfl)
    (of_decide_eq_true (by kernel_rfl)) (by unfold Func.isWrapper; first | (rw [if_pos (by decide +kernel)]; kernel_rfl) | (rw [if_neg (by decide +kernel)]; exact ⟨rfl, rfl⟩))
    (fun os started H enc _ F => by rw [OpenClaim.pre_eq_preRow]; exact matrixProducts_lifted os started H enc F)
theorem matrixProducts_plain (f : FuncId) (fn : Func) (hf : Tryz.pinned.checked.prog.funcNamed "dowel/dowellaw05.MatrixProducts" = some f) (hfn : Tryz.pinned.checked.prog.funcs[f]? = some fn) :
    true = Tryz.pinned.checked.prog.looks [] ∧ ∀ (j : Nat) t, fn.params[j]? = some t → Tryz.pinned.checked.prog.wantsStandIn t = false := by
  obtain rfl : f = 9 := Option.some.inj ((show Tryz.prog.funcNamed "dowel/dowellaw05.MatrixProducts" = some 9 by kernel_rfl).symm.trans hf) |>.symm
  obtain rfl : fn = Tryz.f9 := (Option.some.inj (Tryz.func9.symm.trans hfn)).symm
  refine ⟨by kernel_rfl, fun j t ht => ?_⟩
  rw [Tryz.params9] at ht
  have hm := Array.mem_of_getElem? ht
  have hall : (#[24, 24] : Array TypeId).toList.all (fun t => !Tryz.prog.wantsStandIn t) = true := by kernel_rfl
  have := List.all_eq_true.1 hall t (Array.mem_toList_iff.2 hm)
  have h3 : Tryz.prog.wantsStandIn t = false := by simpa using this
  exact h3
/-- the card -/
theorem matrixProducts_card : Rows.MatrixProductsCardSaid :=
  Claim7.holds_tied_plain_at .later [] _ _ _ _ matrixProducts_said (fun _ h => by cases h) (by kernel_rfl) (fun _ h => by cases h) matrixProducts_row_tie rfl ⟨rfl, rfl⟩ (by kernel_rfl) rfl matrixProducts_plain (by kernel_rfl)
end Go.Proofs.YtepgkcimmdmgcaaGreatDoor
