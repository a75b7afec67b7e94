/- Joined of: Gen192, RowMatrixSizes. -/
import Derived.Test.YtepgkcimmdmgcaaGreatDoorPartE
import Derived.Test.YtepgkcimmdmgcaaGreatDoorPartF
import Derived.Test.YtepgkcimmdmgcaaGreatDoorCards
import Derived.Test.YtepgkcimmdmgcaaGreatDoorTie
import Derived.Test.YtepgkcimmdmgcaaGreatDoorPartA
import Derived.Test.YtepgkcimmdmgcaaGreatDoorPartB
namespace Go.Proofs.YtepgkcimmdmgcaaGreatDoor
open Go.RowKit

set_option maxRecDepth 100000 in
set_option maxHeartbeats 1000000 in
theorem szn_ok {Z N:Nat} {v:Value} {X:Nat→Nat→List UInt8} (_hZ:Z≤256) (_hN:N≤96) {w:World} (hs:Sl (ERw ETxt 61 1) 60 1 w v (tb (fun z0=>tb (fun z1=>(X z0 z1)) N) Z)):
    Calls Tryz.prog 72 #[v] w fun e w'=>e=.returned (.int .i64 0)∧Gr w w':=by
 go_enter Tryz.func72,Tryz.ntmps72
 have hB:=Gr.refl w
 refine wp_seq_k (fun K10 k10=>?_)
 refine rg [0] ?_
 refine sv 2 (.int .i64 0) ?_
 refine sq_nil ?_
 refine k10 _ _ ?_
 try clear k10 K10
 refine wp_seq_k (fun K11 k11=>?_)
 refine wp_seq_k (fun K12 k12=>?_)
 refine rg [0,1,2] ?_
 refine sv 5 v ?_
 refine sw 6 (.int .i64 ((Z:Int))) rfl (rv_lenn (e:=60) hs (tb_lenz rfl) _ _ rfl rfl (by kernel_rfl)) ?_
 have hb13:(decide ((256:Int)<(Z:Int)))=false:=(by simp only [decide_eq_false_iff_not];omega)
 refine sw 7 (.bool false) rfl (RunV.bool (x:=decide ((256:Int)<(Z:Int))) (rvk (by kernel_rfl)) hb13) ?_
 refine sq_nil ?_
 refine k12 _ _ ?_
 try clear k12 K12
 refine wp_cond_false rfl ?_
 refine wp_skip ?_
 refine k11 _ _ ?_
 try clear k11 K11
 refine wp_seq_k (fun K14 k14=>?_)
 refine wp_seq_k (fun K15 k15=>?_)
 refine rg [0,1,2] ?_
 refine sv 8 v ?_
 refine sw 9 (.int .i64 ((Z:Int))) rfl (rv_lenn (e:=60) hs (tb_lenz rfl) _ _ rfl rfl (by kernel_rfl)) ?_
 refine sv 10 (.int .i64 0) ?_
 refine sq_nil ?_
 refine k15 _ _ ?_
 try clear k15 K15
 refine wp_block ?_
 refine wp_loop_inv (a:=⟨List.toArray ?l16,[]⟩) (fun n a w'=>∃ (k:Nat) (u16:Nat→Value),Z - k=n∧a=⟨[v,undef,(u16 2),undef,(u16 4),(u16 5),(u16 6),(.bool false),v,(.int .i64 ((Z:Int))),(.int .i64 ((k:Int))),(u16 11),(u16 12),(u16 13),(u16 14),(u16 15),(u16 16),(u16 17),(u16 18),(u16 19),(u16 20),(u16 21),(u16 22),(u16 23),(u16 24)].toArray,[]⟩∧k≤Z∧Gr w w') (Z - 0) ?_ ?_
 ·exact ⟨0,(fun i=>List.getD ?l16 i undef),rfl,rfl,(Nat.zero_le _),hB⟩
 rintro n16 a16 w16 ⟨k,u16,rfl,rfl,hkk,hB⟩ K16 k16
 refine wp_seq_k (fun K17 k17=>?_)
 refine rg [0] ?_
 refine sv 11 (.bool (decide ((k:Int)<(Z:Int)))) ?_
 refine sq_nil ?_
 refine k17 _ _ ?_
 try clear k17 K17
 refine wp_seq_k (fun K18 k18=>?_)
 refine wp_cond_split (t:=decide ((k:Int)<(Z:Int))) rfl (fun hb19=>?_) (fun hb19=>?_)
 ·have hlk:k<Z:=by have:=of_decide_eq_true hb19;omega
  refine wp_skip ?_
  refine k18 _ _ ?_
  try clear k18 K18
  refine wp_seq_k (fun K20 k20=>?_)
  refine wp_block ?_
  refine wp_seq_k (fun K21 k21=>?_)
  refine rg [0,1,2] ?_
  refine sw 12 (adr v (k*1)) rfl (rv_idxn (e:=60) hs tb_len (by decide) k (by omega) _ _ _ rfl rfl rfl (by kernel_rfl) (by kernel_rfl)) ?_
  obtain ⟨_,_,⟨u22,rfl,hr22⟩,at22⟩:=Sl.get hs (by decide) (tb_get (f:=(fun z0=>tb (fun z1=>(X z0 z1)) N)) (n:=Z) (i:=k) (by omega))
  refine sw 13 u22 rfl (rv_ld1 u22 (at22.gr hB) _ _ rfl rfl (by kernel_rfl)) ?_
  refine sv 4 u22 ?_
  refine sq_nil ?_
  refine k21 _ _ ?_
  try clear k21 K21
  refine wp_seq_k (fun K23 k23=>?_)
  refine wp_seq_k (fun K24 k24=>?_)
  refine rg [0,1,2] ?_
  refine sv 14 u22 ?_
  refine sw 15 (.int .i64 ((N:Int))) rfl (rv_lenn (e:=61) hr22 (tb_lenz rfl) _ _ rfl rfl (by kernel_rfl)) ?_
  have hb25:(decide ((96:Int)<(N:Int)))=false:=(by simp only [decide_eq_false_iff_not];omega)
  refine sw 16 (.bool false) rfl (RunV.bool (x:=decide ((96:Int)<(N:Int))) (rvk (by kernel_rfl)) hb25) ?_
  refine sq_nil ?_
  refine k24 _ _ ?_
  try clear k24 K24
  refine wp_cond_false rfl ?_
  refine wp_skip ?_
  refine k23 _ _ ?_
  try clear k23 K23
  refine wp_seq_k (fun K26 k26=>?_)
  refine rg [0,1,2,3,4,5,6] ?_
  refine sv 17 u22 ?_
  refine sw 18 (.int .i64 ((N:Int))) rfl (rv_lenn (e:=61) hr22 (tb_lenz rfl) _ _ rfl rfl (by kernel_rfl)) ?_
  refine sv 19 v ?_
  refine sw 20 (adr v (0*1)) rfl (rv_idxn (e:=60) hs tb_len (by decide) 0 (by omega) _ _ _ rfl rfl rfl (by kernel_rfl) (by kernel_rfl)) ?_
  obtain ⟨_,_,⟨u27,rfl,hr27⟩,at27⟩:=Sl.get hs (by decide) (tb_get (f:=(fun z0=>tb (fun z1=>(X z0 z1)) N)) (n:=Z) (i:=0) (by omega))
  refine sw 21 u27 rfl (rv_ld1 u27 (at27.gr hB) _ _ rfl rfl (by kernel_rfl)) ?_
  refine sw 22 (.int .i64 ((N:Int))) rfl (rv_lenn (e:=61) hr27 (tb_lenz rfl) _ _ rfl rfl (by kernel_rfl)) ?_
  have hb28:(((N:Int) !=(N:Int)))=false:=(by simp)
  refine sw 23 (.bool false) rfl (RunV.bool (x:=((N:Int) !=(N:Int))) (rvk (by kernel_rfl)) hb28) ?_
  refine sq_nil ?_
  refine k26 _ _ ?_
  try clear k26 K26
  refine wp_cond_false rfl ?_
  refine wp_skip ?_
  refine k20 _ _ ?_
  try clear k20 K20
  refine rg [0,1] ?_
  refine sw 24 (.int .i64 (((k:Int)+1))) rfl (RunV.int (x:=IntKind.i64.wrap (((k:Int)+1))) (y:=((k:Int)+1)) (rvk (by kernel_rfl)) (by first | rfl | (rw [IntKind.wrap_i64];omega))) ?_
  refine sv 10 (.int .i64 (((k:Int)+1))) ?_
  refine sq_nil ?_
  refine k16 (Z - (k+1)) ⟨List.toArray ?l29,[]⟩ _ (by omega) ?_
  exact ⟨k+1,(fun i=>List.getD ?l29 i undef),rfl,rfl,(by omega),hB⟩
 ·have hek:Z=k:=by have:=of_decide_eq_false hb19;omega
  subst hek
  refine wp_exit ?_
  simp only [Exit.then,Exit.inBlock,↓reduceIte]
  refine k14 _ _ ?_
  try clear k14 K14
  refine wp_seq_k (fun K30 k30=>?_)
  refine rg [0] ?_
  refine sv 2 (.int .i64 0) ?_
  refine sq_nil ?_
  refine k30 _ _ ?_
  try clear k30 K30
  refine wp_ret ?_
  refine bodyPost_ret (v:=(.int .i64 0)) (ret_tmp rfl rfl) rfl ⟨?_,hB⟩
  exact rfl

set_option maxRecDepth 100000 in
set_option maxHeartbeats 1000000 in
theorem szn_bad {Z:Nat} {v:Value} {X:Nat→Nat→List UInt8} {zl:Nat→Nat} (_hZ:Z≤256) (hbad:¬ szc zl Z=0) {w:World} (hs:Sl (ERw ETxt 61 1) 60 1 w v (tb (fun z0=>tb (fun z1=>(X z0 z1)) (zl z0)) Z)):
    Calls Tryz.prog 72 #[v] w fun e w'=>e=.returned (.int .i64 (szc zl Z))∧Gr w w':=by
 go_enter Tryz.func72,Tryz.ntmps72
 have hB:=Gr.refl w
 refine wp_seq_k (fun K10 k10=>?_)
 refine rg [0] ?_
 refine sv 2 (.int .i64 0) ?_
 refine sq_nil ?_
 refine k10 _ _ ?_
 try clear k10 K10
 refine wp_seq_k (fun K11 k11=>?_)
 refine wp_seq_k (fun K12 k12=>?_)
 refine rg [0,1,2] ?_
 refine sv 5 v ?_
 refine sw 6 (.int .i64 ((Z:Int))) rfl (rv_lenn (e:=60) hs (tb_lenz rfl) _ _ rfl rfl (by kernel_rfl)) ?_
 have hb13:(decide ((256:Int)<(Z:Int)))=false:=(by simp only [decide_eq_false_iff_not];omega)
 refine sw 7 (.bool false) rfl (RunV.bool (x:=decide ((256:Int)<(Z:Int))) (rvk (by kernel_rfl)) hb13) ?_
 refine sq_nil ?_
 refine k12 _ _ ?_
 try clear k12 K12
 refine wp_cond_false rfl ?_
 refine wp_skip ?_
 refine k11 _ _ ?_
 try clear k11 K11
 refine wp_seq_k (fun K14 k14=>?_)
 refine wp_seq_k (fun K15 k15=>?_)
 refine rg [0,1,2] ?_
 refine sv 8 v ?_
 refine sw 9 (.int .i64 ((Z:Int))) rfl (rv_lenn (e:=60) hs (tb_lenz rfl) _ _ rfl rfl (by kernel_rfl)) ?_
 refine sv 10 (.int .i64 0) ?_
 refine sq_nil ?_
 refine k15 _ _ ?_
 try clear k15 K15
 refine wp_block ?_
 refine wp_loop_inv (a:=⟨List.toArray ?l16,[]⟩) (fun n a w'=>∃ (k:Nat) (u16:Nat→Value),Z - k=n∧a=⟨[v,undef,(u16 2),undef,(u16 4),(u16 5),(u16 6),(.bool false),v,(.int .i64 ((Z:Int))),(.int .i64 ((k:Int))),(u16 11),(u16 12),(u16 13),(u16 14),(u16 15),(u16 16),(u16 17),(u16 18),(u16 19),(u16 20),(u16 21),(u16 22),(u16 23),(u16 24)].toArray,[]⟩∧k≤Z∧szc zl k=0∧Gr w w') (Z - 0) ?_ ?_
 ·exact ⟨0,(fun i=>List.getD ?l16 i undef),rfl,rfl,(Nat.zero_le _),rfl,hB⟩
 rintro n16 a16 w16 ⟨k,u16,rfl,rfl,hkk,h0,hB⟩ K16 k16
 refine wp_seq_k (fun K17 k17=>?_)
 refine rg [0] ?_
 refine sv 11 (.bool (decide ((k:Int)<(Z:Int)))) ?_
 refine sq_nil ?_
 refine k17 _ _ ?_
 try clear k17 K17
 refine wp_seq_k (fun K18 k18=>?_)
 refine wp_cond_split (t:=decide ((k:Int)<(Z:Int))) rfl (fun hb19=>?_) (fun hb19=>?_)
 ·have hlk:k<Z:=by have:=of_decide_eq_true hb19;omega
  refine wp_skip ?_
  refine k18 _ _ ?_
  try clear k18 K18
  refine wp_seq_k (fun K20 k20=>?_)
  refine wp_block ?_
  refine wp_seq_k (fun K21 k21=>?_)
  refine rg [0,1,2] ?_
  refine sw 12 (adr v (k*1)) rfl (rv_idxn (e:=60) hs tb_len (by decide) k (by omega) _ _ _ rfl rfl rfl (by kernel_rfl) (by kernel_rfl)) ?_
  obtain ⟨_,_,⟨u22,rfl,hr22⟩,at22⟩:=Sl.get hs (by decide) (tb_get (f:=(fun z0=>tb (fun z1=>(X z0 z1)) (zl z0))) (n:=Z) (i:=k) (by omega))
  refine sw 13 u22 rfl (rv_ld1 u22 (at22.gr hB) _ _ rfl rfl (by kernel_rfl)) ?_
  refine sv 4 u22 ?_
  refine sq_nil ?_
  refine k21 _ _ ?_
  try clear k21 K21
  refine wp_seq_k (fun K23 k23=>?_)
  refine wp_seq_k (fun K24 k24=>?_)
  refine rg [0,1,2] ?_
  refine sv 14 u22 ?_
  refine sw 15 (.int .i64 (((zl k:Nat):Int))) rfl (rv_lenn (e:=61) hr22 (tb_lenz rfl) _ _ rfl rfl (by kernel_rfl)) ?_
  refine sv 16 (.bool (decide ((96:Int)<((zl k:Nat):Int)))) ?_
  refine sq_nil ?_
  refine k24 _ _ ?_
  try clear k24 K24
  refine wp_cond_split (t:=decide ((96:Int)<((zl k:Nat):Int))) rfl (fun hb25=>?_) (fun hb25=>?_)
  ·have hb96:96<zl k:=by have:=of_decide_eq_true hb25;omega
   refine wp_seq_k (fun K26 k26=>?_)
   refine rg [0] ?_
   refine sv 2 (.int .i64 6) ?_
   refine sq_nil ?_
   refine k26 _ _ ?_
   try clear k26 K26
   refine wp_ret ?_
   simp only [Exit.then,Exit.inBlock]
   refine bodyPost_ret (v:=(.int .i64 6)) (ret_tmp rfl rfl) rfl ⟨?_,hB⟩
   exact (by rw [szc_stay (k:=k+1) (by rw [← szc_b h0 hb96];decide) (by omega),← szc_b h0 hb96])
  ·have hb96:¬ 96<zl k:=by have:=of_decide_eq_false hb25;omega
   refine wp_skip ?_
   refine k23 _ _ ?_
   try clear k23 K23
   refine wp_seq_k (fun K27 k27=>?_)
   refine rg [0,1,2,3,4,5,6] ?_
   refine sv 17 u22 ?_
   refine sw 18 (.int .i64 (((zl k:Nat):Int))) rfl (rv_lenn (e:=61) hr22 (tb_lenz rfl) _ _ rfl rfl (by kernel_rfl)) ?_
   refine sv 19 v ?_
   refine sw 20 (adr v (0*1)) rfl (rv_idxn (e:=60) hs tb_len (by decide) 0 (by omega) _ _ _ rfl rfl rfl (by kernel_rfl) (by kernel_rfl)) ?_
   obtain ⟨_,_,⟨u28,rfl,hr28⟩,at28⟩:=Sl.get hs (by decide) (tb_get (f:=(fun z0=>tb (fun z1=>(X z0 z1)) (zl z0))) (n:=Z) (i:=0) (by omega))
   refine sw 21 u28 rfl (rv_ld1 u28 (at28.gr hB) _ _ rfl rfl (by kernel_rfl)) ?_
   refine sw 22 (.int .i64 (((zl 0:Nat):Int))) rfl (rv_lenn (e:=61) hr28 (tb_lenz rfl) _ _ rfl rfl (by kernel_rfl)) ?_
   refine sv 23 (.bool ((((zl k:Nat):Int) !=((zl 0:Nat):Int)))) ?_
   refine sq_nil ?_
   refine k27 _ _ ?_
   try clear k27 K27
   refine wp_cond_split (t:=(((zl k:Nat):Int) !=((zl 0:Nat):Int))) rfl (fun hb29=>?_) (fun hb29=>?_)
   ·have hneq:¬ zl k=zl 0:=bne_t hb29
    refine wp_seq_k (fun K30 k30=>?_)
    refine rg [0] ?_
    refine sv 2 (.int .i64 13) ?_
    refine sq_nil ?_
    refine k30 _ _ ?_
    try clear k30 K30
    refine wp_ret ?_
    simp only [Exit.then,Exit.inBlock]
    refine bodyPost_ret (v:=(.int .i64 13)) (ret_tmp rfl rfl) rfl ⟨?_,hB⟩
    exact (by rw [szc_stay (k:=k+1) (by rw [← szc_c h0 hb96 hneq];decide) (by omega),← szc_c h0 hb96 hneq])
   ·have hneq:zl k=zl 0:=bne_f hb29
    refine wp_skip ?_
    refine k20 _ _ ?_
    try clear k20 K20
    refine rg [0,1] ?_
    refine sw 24 (.int .i64 (((k:Int)+1))) rfl (RunV.int (x:=IntKind.i64.wrap (((k:Int)+1))) (y:=((k:Int)+1)) (rvk (by kernel_rfl)) (by first | rfl | (rw [IntKind.wrap_i64];omega))) ?_
    refine sv 10 (.int .i64 (((k:Int)+1))) ?_
    refine sq_nil ?_
    refine k16 (Z - (k+1)) ⟨List.toArray ?l31,[]⟩ _ (by omega) ?_
    exact ⟨k+1,(fun i=>List.getD ?l31 i undef),rfl,rfl,(by omega),(by rw [← szc_d h0 hb96 hneq];exact h0),hB⟩
 ·have hek:Z=k:=by have:=of_decide_eq_false hb19;omega
  subst hek
  refine wp_exit ?_
  simp only [Exit.then,Exit.inBlock,↓reduceIte]
  refine k14 _ _ ?_
  try clear k14 K14
  refine wp_seq_k (fun K32 k32=>?_)
  refine rg [0] ?_
  refine sv 2 (.int .i64 0) ?_
  refine sq_nil ?_
  refine k32 _ _ ?_
  try clear k32 K32
  refine wp_ret ?_
  refine bodyPost_ret (v:=(.int .i64 0)) (ret_tmp rfl rfl) rfl ⟨?_,hB⟩
  exact (absurd h0 hbad)

theorem parses_1 {N:Nat} {v:Value} {g:Nat→List UInt8} (hN:N≤100) (hl:∀ k,k<N→(g k).length≤20) {w:World} (hs:Sl ETxt 61 1 w v (tb (fun z1=>(g z1)) N)) (hm:Mx w):
    Calls Tryz.prog 28 #[v] w fun e w'=>(∃ u,e=.returned (.tuple #[u,.int .i64 (ferr (tb g N))])∧u.oneCell'=true)∧Gr w w':=by
  refine (parses_l v (tb g N) (by rw [tb_len];exact hN) (tb_short hl) hs hm).mono ?_
  rintro e w' ⟨⟨u,he,h0,h1⟩,hg⟩
  refine ⟨⟨u,he,?_⟩,hg⟩
  by_cases hz:ferr (tb g N)=0
  · exact (h0 hz).one
  · rw [h1 hz];rfl
theorem parses_0 {N:Nat} {v:Value} {g:Nat→List UInt8} (hN:N≤100) (hl:∀ k,k<N→(g k).length≤20) (hz:ferr (tb g N)=0) {w:World} (hs:Sl ETxt 61 1 w v (tb (fun z1=>(g z1)) N)) (hm:Mx w):
    Calls Tryz.prog 28 #[v] w fun e w'=>(∃ u,e=.returned (.tuple #[u,.int .i64 0])∧Sl (ERat 160) 71 4 w' u (tb (fun z1=>(valT (g z1))) N))∧Gr w w':=by
  refine (parses_l v (tb g N) (by rw [tb_len];exact hN) (tb_short hl) hs hm).mono ?_
  rintro e w' ⟨⟨u,he,h0,_⟩,hg⟩
  rw [hz] at he
  exact ⟨⟨u,he,(h0 hz).cast (map_tb _ _ _)⟩,hg⟩
theorem numbers_0 {N:Nat} {v:Value} {g:Nat→List UInt8} (hN:N≤100) (hz:ferr (tb g N)=0) {w:World} (hs:Sl (ERat 160) 71 4 w v (tb (fun z1=>(valT (g z1))) N)) (ht:Tab w):
    Calls Tryz.prog 73 #[v] w fun e w'=>(∃ u,e=.returned u∧Sl ETxt 61 1 w' u (tb (fun z1=>(g z1)) N))∧Gr w w':=by
  refine (numbers_l v (tb (fun z1=>valT (g z1)) N) (by rw [tb_len];exact hN) hs ht).mono ?_
  rintro e w' ⟨⟨u,he,h0⟩,hg⟩
  exact ⟨⟨u,he,(h0.cast (map_tb _ _ _)).cast (tb_back hz)⟩,hg⟩
set_option maxRecDepth 100000 in
set_option maxHeartbeats 1000000 in
theorem mx_Parse_0 {Z N:Nat} {v:Value} {X:Nat→Nat→List UInt8} (_hZ:Z≤256) (_hN:N≤96) (hsh:∀ r,r<Z→∀ k,k<N→(X r k).length≤20) (hr:rfe X N Z=0) {w:World} (hm:Mx w) (hs:Sl (ERw ETxt 61 1) 60 1 w v (tb (fun z0=>tb (fun z1=>(X z0 z1)) N) Z)):
    Calls Tryz.prog 29 #[v] w fun e w'=>(∃ u,e=.returned (.tuple #[u,.int .i64 0])∧Sl (ERw (ERat 160) 71 4) 49 1 w' u (tb (fun z0=>tb (fun z1=>(valT (X z0 z1))) N) Z))∧Gr w w':=by
 go_enter Tryz.func29,Tryz.ntmps29
 have hB:=Gr.refl w
 refine wp_seq_k (fun K10 k10=>?_)
 refine rg [0,1] ?_
 refine sv 2 (.slice none 0 0) ?_
 refine sv 3 (.int .i64 0) ?_
 refine sq_nil ?_
 refine k10 _ _ ?_
 try clear k10 K10
 refine wp_seq_k (fun K11 k11=>?_)
 refine wp_seq_k (fun K12 k12=>?_)
 refine rg [0,1,2] ?_
 refine sv 10 v ?_
 refine se ?_
 refine ec 11 (szn_ok (by omega) (by omega) (hs.gr (stab_rw stab_txt 61 1) hB)) ?_
 rintro e13 w13 ⟨rfl,g13⟩
 refine ⟨_,rfl,?_⟩
 replace hB:=hB.trans g13
 simp only [p3,p4]
 refine sv 4 (.int .i64 0) ?_
 refine sq_nil ?_
 refine k12 _ _ ?_
 try clear k12 K12
 refine wp_seq_k (fun K14 k14=>?_)
 refine rg [0,1] ?_
 refine sv 12 (.int .i64 0) ?_
 refine sv 13 (.bool false) ?_
 refine sq_nil ?_
 refine k14 _ _ ?_
 try clear k14 K14
 refine wp_cond_false rfl ?_
 refine wp_skip ?_
 refine k11 _ _ ?_
 try clear k11 K11
 refine wp_seq_k (fun K15 k15=>?_)
 refine rg [0] ?_
 refine sv 5 (.slice none 0 0) ?_
 refine sq_nil ?_
 refine k15 _ _ ?_
 try clear k15 K15
 refine wp_seq_k (fun K16 k16=>?_)
 refine wp_seq_k (fun K17 k17=>?_)
 refine rg [0,1,2] ?_
 refine sv 15 v ?_
 refine sw 16 (.int .i64 ((Z:Int))) rfl (rv_lenn (e:=60) hs (tb_lenz rfl) _ _ rfl rfl (by kernel_rfl)) ?_
 refine sv 17 (.int .i64 0) ?_
 refine sq_nil ?_
 refine k17 _ _ ?_
 try clear k17 K17
 refine wp_block ?_
 refine wp_loop_inv (a:=⟨List.toArray ?l18,[]⟩) (fun n a w'=>∃ (i:Nat) (vo:Value) (u18:Nat→Value),Z - i=n∧a=⟨[v,undef,(u18 2),(u18 3),(.int .i64 0),vo,undef,(u18 7),(u18 8),(u18 9),(u18 10),(u18 11),(u18 12),(.bool false),undef,v,(.int .i64 ((Z:Int))),(.int .i64 ((i:Int))),(u18 18),(u18 19),(u18 20),(u18 21),(u18 22),(u18 23),(u18 24),(u18 25),(u18 26),(u18 27),(u18 28),(u18 29),(u18 30),(u18 31),(u18 32),(u18 33),undef].toArray,[]⟩∧i≤Z∧Ow (ERw (ERat 160) 71 4) 49 1 w' w.heap.size vo (tb (fun z0=>tb (fun z1=>(valT (X z0 z1))) N) i)∧Gr w w') (Z - 0) ?_ ?_
 ·exact ⟨0,(.slice none 0 0),(fun i=>List.getD ?l18 i undef),rfl,rfl,(Nat.zero_le _),(Ow.nil _ _ _ _ _),hB⟩
 rintro n18 a18 w18 ⟨i,vo,u18,rfl,rfl,hki,oo,hB⟩ K18 k18
 have lehC:=Below.size hB
 have hC:=Gr.refl w18
 refine wp_seq_k (fun K19 k19=>?_)
 refine rg [0] ?_
 refine sv 18 (.bool (decide ((i:Int)<(Z:Int)))) ?_
 refine sq_nil ?_
 refine k19 _ _ ?_
 try clear k19 K19
 refine wp_seq_k (fun K20 k20=>?_)
 refine wp_cond_split (t:=decide ((i:Int)<(Z:Int))) rfl (fun hb21=>?_) (fun hb21=>?_)
 ·have hli:i<Z:=by have:=of_decide_eq_true hb21;omega
  refine wp_skip ?_
  refine k20 _ _ ?_
  try clear k20 K20
  refine wp_seq_k (fun K22 k22=>?_)
  refine wp_block ?_
  refine wp_seq_k (fun K23 k23=>?_)
  refine rg [0,1,2] ?_
  refine sw 19 (adr v (i*1)) rfl (rv_idxn (e:=60) hs tb_len (by decide) i (by omega) _ _ _ rfl rfl rfl (by kernel_rfl) (by kernel_rfl)) ?_
  obtain ⟨_,_,⟨u24,rfl,hr24⟩,at24⟩:=Sl.get hs (by decide) (tb_get (f:=(fun z0=>tb (fun z1=>(X z0 z1)) N)) (n:=Z) (i:=i) (by omega))
  refine sw 20 u24 rfl (rv_ld1 u24 (at24.gr hB) _ _ rfl rfl (by kernel_rfl)) ?_
  refine sv 7 u24 ?_
  refine sq_nil ?_
  refine k23 _ _ ?_
  try clear k23 K23
  refine wp_seq_k (fun K25 k25=>?_)
  refine rg [0,1,2,3,4,5,6] ?_
  refine sv 22 u24 ?_
  refine se ?_
  refine ec 23 (parses_0 (by omega) (hsh i hli) (rfe_zero hr hli) (hr24.gr stab_txt hB) (hm.gr hB)) ?_
  rintro e26 w26 ⟨⟨u26,rfl,hs26⟩,g26⟩
  refine ⟨_,rfl,?_⟩
  replace hB:=hB.trans g26
  replace hC:=hC.trans g26
  simp only [p3,p4]
  refine sv 21 (.tuple #[u26,(.int .i64 0)]) ?_
  refine sv 24 u26 ?_
  refine sv 25 (.int .i64 0) ?_
  refine sv 8 u26 ?_
  refine sv 9 (.int .i64 0) ?_
  refine sq_nil ?_
  refine k25 _ _ ?_
  try clear k25 K25
  refine wp_seq_k (fun K27 k27=>?_)
  refine wp_seq_k (fun K28 k28=>?_)
  refine rg [0,1] ?_
  refine sv 26 (.int .i64 0) ?_
  refine sv 27 (.bool false) ?_
  refine sq_nil ?_
  refine k28 _ _ ?_
  try clear k28 K28
  refine wp_cond_false rfl ?_
  refine wp_skip ?_
  refine k27 _ _ ?_
  try clear k27 K27
  refine rg [0,1,2,3,4] ?_
  refine sv 29 vo ?_
  refine sv 30 u26 ?_
  refine se ?_
  refine eff_bs1 29 49 u26 (some 31) rfl rfl rfl hs26.forms (fun _ _ _ _=>by kernel_rfl) (fun b29 w29 g29 L29 q29=>?_)
  have q29_hC:=Nat.le_trans (Below.size hC) q29
  replace hB:=hB.trans g29
  replace hC:=hC.trans g29
  simp only [putl,p3,p4]
  refine se ?_
  replace hs26:=hs26.gr (stab_rat 160) g29
  refine eff_apg (stab_rw (stab_rat 160) 71 4) _ _ 29 49 w.heap.size (.slice none 0 0) vo (tb (fun z0=>tb (fun z1=>(valT (X z0 z1))) N) i) b29 [u26] (tb (fun z1=>(valT (X i z1))) N) 1 1 (some 32) 24 rfl rfl rfl rfl (oo.gr (stab_rw (stab_rat 160) 71 4) hC) L29 ⟨hs26.one,trivial⟩ rfl ⟨_,rfl,hs26⟩ (Below.size hB) (by rw [tb_len];omega) (by decide) (by kernel_rfl) (by kernel_rfl) (by decide) (by decide) (fun v30 w30 ow30 wt30 hg30=>?_)
  replace hB:=hg30 _ hB (Nat.le_refl _)
  replace ow30:=ow30.cast (tb_snoc (f:=(fun z0=>tb (fun z1=>(valT (X z0 z1))) N)) (n:=i) (by first | rfl | exact fil_all))
  simp only [putl,p3,p4]
  refine sv 5 v30 ?_
  refine sq_nil ?_
  refine k22 _ _ ?_
  try clear k22 K22
  refine rg [0,1] ?_
  refine sw 33 (.int .i64 (((i:Int)+1))) rfl (RunV.int (x:=IntKind.i64.wrap (((i:Int)+1))) (y:=((i:Int)+1)) (rvk (by kernel_rfl)) (by first | rfl | (rw [IntKind.wrap_i64];omega))) ?_
  refine sv 17 (.int .i64 (((i:Int)+1))) ?_
  refine sq_nil ?_
  refine k18 (Z - (i+1)) ⟨List.toArray ?l31,[]⟩ _ (by omega) ?_
  exact ⟨i+1,v30,(fun i=>List.getD ?l31 i undef),rfl,rfl,(by omega),ow30,hB⟩
 ·have hei:Z=i:=by have:=of_decide_eq_false hb21;omega
  subst hei
  refine wp_exit ?_
  simp only [Exit.then,Exit.inBlock,↓reduceIte]
  refine k16 _ _ ?_
  try clear k16 K16
  refine wp_seq_k (fun K32 k32=>?_)
  refine rg [0,1,2] ?_
  refine sv 34 vo ?_
  refine sv 2 vo ?_
  refine sv 3 (.int .i64 0) ?_
  refine sq_nil ?_
  refine k32 _ _ ?_
  try clear k32 K32
  refine wp_ret ?_
  refine bodyPost_ret (v:=(.tuple #[vo,(.int .i64 0)])) (ret_tmp2 rfl rfl rfl) rfl ⟨?_,hB⟩
  exact ⟨_,rfl,((oo.gr (stab_rw (stab_rat 160) 71 4) hC).sl)⟩

theorem parses_2 {N:Nat} {v:Value} {g:Nat→List UInt8} (hN:N≤100) (hl:∀ k,k<N→(g k).length≤20) {w:World} (hs:Sl ETxt 61 1 w v (tb (fun z1=>(g z1)) N)) (hm:Mx w):
    Calls Tryz.prog 28 #[v] w fun e w'=>(∃ u,e=.returned (.tuple #[u,.int .i64 (ferr (tb g N))])∧u.oneCell'=true∧(ferr (tb g N)=0→Sl (ERat 160) 71 4 w' u (tb (fun z1=>(valT (g z1))) N)))∧Gr w w':=by
  refine (parses_l v (tb g N) (by rw [tb_len];exact hN) (tb_short hl) hs hm).mono ?_
  rintro e w' ⟨⟨u,he,h0,h1⟩,hg⟩
  refine ⟨⟨u,he,?_,fun hz=>(h0 hz).cast (map_tb _ _ _)⟩,hg⟩
  by_cases hz:ferr (tb g N)=0
  · exact (h0 hz).one
  · rw [h1 hz];rfl
set_option maxRecDepth 100000 in
set_option maxHeartbeats 1000000 in
theorem mx_Parse_1 {Z N:Nat} {v:Value} {X:Nat→Nat→List UInt8} (_hZ:Z≤256) (_hN:N≤96) (hsh:∀ r,r<Z→∀ k,k<N→(X r k).length≤20) (hr:¬ rfe X N Z=0) {w:World} (hm:Mx w) (hs:Sl (ERw ETxt 61 1) 60 1 w v (tb (fun z0=>tb (fun z1=>(X z0 z1)) N) Z)):
    Calls Tryz.prog 29 #[v] w fun e w'=>e=.returned (.tuple #[.slice none 0 0,.int .i64 (rfe X N Z)])∧Gr w w':=by
 go_enter Tryz.func29,Tryz.ntmps29
 have hB:=Gr.refl w
 refine wp_seq_k (fun K10 k10=>?_)
 refine rg [0,1] ?_
 refine sv 2 (.slice none 0 0) ?_
 refine sv 3 (.int .i64 0) ?_
 refine sq_nil ?_
 refine k10 _ _ ?_
 try clear k10 K10
 refine wp_seq_k (fun K11 k11=>?_)
 refine wp_seq_k (fun K12 k12=>?_)
 refine rg [0,1,2] ?_
 refine sv 10 v ?_
 refine se ?_
 refine ec 11 (szn_ok (by omega) (by omega) (hs.gr (stab_rw stab_txt 61 1) hB)) ?_
 rintro e13 w13 ⟨rfl,g13⟩
 refine ⟨_,rfl,?_⟩
 replace hB:=hB.trans g13
 simp only [p3,p4]
 refine sv 4 (.int .i64 0) ?_
 refine sq_nil ?_
 refine k12 _ _ ?_
 try clear k12 K12
 refine wp_seq_k (fun K14 k14=>?_)
 refine rg [0,1] ?_
 refine sv 12 (.int .i64 0) ?_
 refine sv 13 (.bool false) ?_
 refine sq_nil ?_
 refine k14 _ _ ?_
 try clear k14 K14
 refine wp_cond_false rfl ?_
 refine wp_skip ?_
 refine k11 _ _ ?_
 try clear k11 K11
 refine wp_seq_k (fun K15 k15=>?_)
 refine rg [0] ?_
 refine sv 5 (.slice none 0 0) ?_
 refine sq_nil ?_
 refine k15 _ _ ?_
 try clear k15 K15
 refine wp_seq_k (fun K16 k16=>?_)
 refine wp_seq_k (fun K17 k17=>?_)
 refine rg [0,1,2] ?_
 refine sv 15 v ?_
 refine sw 16 (.int .i64 ((Z:Int))) rfl (rv_lenn (e:=60) hs (tb_lenz rfl) _ _ rfl rfl (by kernel_rfl)) ?_
 refine sv 17 (.int .i64 0) ?_
 refine sq_nil ?_
 refine k17 _ _ ?_
 try clear k17 K17
 refine wp_block ?_
 refine wp_loop_inv (a:=⟨List.toArray ?l18,[]⟩) (fun n a w'=>∃ (i:Nat) (vo:Value) (u18:Nat→Value),Z - i=n∧a=⟨[v,undef,(u18 2),(u18 3),(.int .i64 0),vo,undef,(u18 7),(u18 8),(u18 9),(u18 10),(u18 11),(u18 12),(.bool false),undef,v,(.int .i64 ((Z:Int))),(.int .i64 ((i:Int))),(u18 18),(u18 19),(u18 20),(u18 21),(u18 22),(u18 23),(u18 24),(u18 25),(u18 26),(u18 27),(u18 28),(u18 29),(u18 30),(u18 31),(u18 32),(u18 33),undef].toArray,[]⟩∧i≤Z∧rfe X N i=0∧Ow (ERw (ERat 160) 71 4) 49 1 w' w.heap.size vo (tb (fun z0=>tb (fun z1=>(valT (X z0 z1))) N) i)∧Gr w w') (Z - 0) ?_ ?_
 ·exact ⟨0,(.slice none 0 0),(fun i=>List.getD ?l18 i undef),rfl,rfl,(Nat.zero_le _),rfl,(Ow.nil _ _ _ _ _),hB⟩
 rintro n18 a18 w18 ⟨i,vo,u18,rfl,rfl,hki,h0,oo,hB⟩ K18 k18
 have lehC:=Below.size hB
 have hC:=Gr.refl w18
 refine wp_seq_k (fun K19 k19=>?_)
 refine rg [0] ?_
 refine sv 18 (.bool (decide ((i:Int)<(Z:Int)))) ?_
 refine sq_nil ?_
 refine k19 _ _ ?_
 try clear k19 K19
 refine wp_seq_k (fun K20 k20=>?_)
 refine wp_cond_split (t:=decide ((i:Int)<(Z:Int))) rfl (fun hb21=>?_) (fun hb21=>?_)
 ·have hli:i<Z:=by have:=of_decide_eq_true hb21;omega
  refine wp_skip ?_
  refine k20 _ _ ?_
  try clear k20 K20
  refine wp_seq_k (fun K22 k22=>?_)
  refine wp_block ?_
  refine wp_seq_k (fun K23 k23=>?_)
  refine rg [0,1,2] ?_
  refine sw 19 (adr v (i*1)) rfl (rv_idxn (e:=60) hs tb_len (by decide) i (by omega) _ _ _ rfl rfl rfl (by kernel_rfl) (by kernel_rfl)) ?_
  obtain ⟨_,_,⟨u24,rfl,hr24⟩,at24⟩:=Sl.get hs (by decide) (tb_get (f:=(fun z0=>tb (fun z1=>(X z0 z1)) N)) (n:=Z) (i:=i) (by omega))
  refine sw 20 u24 rfl (rv_ld1 u24 (at24.gr hB) _ _ rfl rfl (by kernel_rfl)) ?_
  refine sv 7 u24 ?_
  refine sq_nil ?_
  refine k23 _ _ ?_
  try clear k23 K23
  refine wp_seq_k (fun K25 k25=>?_)
  refine rg [0,1,2,3,4,5,6] ?_
  refine sv 22 u24 ?_
  refine se ?_
  refine ec 23 (parses_2 (by omega) (hsh i hli) (hr24.gr stab_txt hB) (hm.gr hB)) ?_
  rintro e26 w26 ⟨⟨u26,rfl,hs26,hz_hs26⟩,g26⟩
  refine ⟨_,rfl,?_⟩
  replace hB:=hB.trans g26
  replace hC:=hC.trans g26
  simp only [p3,p4]
  refine sv 21 (.tuple #[u26,(.int .i64 ((ferr (tb (X i) N))))]) ?_
  refine sv 24 u26 ?_
  refine sv 25 (.int .i64 ((ferr (tb (X i) N)))) ?_
  refine sv 8 u26 ?_
  refine sv 9 (.int .i64 ((ferr (tb (X i) N)))) ?_
  refine sq_nil ?_
  refine k25 _ _ ?_
  try clear k25 K25
  refine wp_seq_k (fun K27 k27=>?_)
  refine wp_seq_k (fun K28 k28=>?_)
  refine rg [0,1] ?_
  refine sv 26 (.int .i64 ((ferr (tb (X i) N)))) ?_
  refine sv 27 (.bool (((ferr (tb (X i) N)) !=(0:Int)))) ?_
  refine sq_nil ?_
  refine k28 _ _ ?_
  try clear k28 K28
  refine wp_cond_split (t:=((ferr (tb (X i) N)) !=(0:Int))) rfl (fun hb29=>?_) (fun hb29=>?_)
  ·have hfe:¬ ferr (tb (X i) N)=0:=by simpa using hb29
   refine wp_seq_k (fun K30 k30=>?_)
   refine rg [0,1,2] ?_
   refine sv 28 (.int .i64 ((ferr (tb (X i) N)))) ?_
   refine sv 2 (.slice none 0 0) ?_
   refine sv 3 (.int .i64 ((ferr (tb (X i) N)))) ?_
   refine sq_nil ?_
   refine k30 _ _ ?_
   try clear k30 K30
   refine wp_ret ?_
   simp only [Exit.then,Exit.inBlock]
   refine bodyPost_ret (v:=(.tuple #[(.slice none 0 0),(.int .i64 ((ferr (tb (X i) N))))])) (ret_tmp2 rfl rfl rfl) rfl ⟨?_,hB⟩
   exact (by rw [rfe_stay (k:=i+1) (by rw [← rfe_b h0];exact hfe) (by omega),← rfe_b h0])
  ·have hfe:ferr (tb (X i) N)=0:=by simpa using hb29
   refine wp_skip ?_
   refine k27 _ _ ?_
   try clear k27 K27
   refine rg [0,1,2,3,4] ?_
   refine sv 29 vo ?_
   refine sv 30 u26 ?_
   refine se ?_
   have hq31:=(hz_hs26 hfe)
   refine eff_bs1 29 49 u26 (some 31) rfl rfl rfl hq31.forms (fun _ _ _ _=>by kernel_rfl) (fun b32 w32 g32 L32 q32=>?_)
   have q32_hC:=Nat.le_trans (Below.size hC) q32
   replace hB:=hB.trans g32
   replace hC:=hC.trans g32
   simp only [putl,p3,p4]
   refine se ?_
   replace hq31:=hq31.gr (stab_rat 160) g32
   refine eff_apg (stab_rw (stab_rat 160) 71 4) _ _ 29 49 w.heap.size (.slice none 0 0) vo (tb (fun z0=>tb (fun z1=>(valT (X z0 z1))) N) i) b32 [u26] (tb (fun z1=>(valT (X i z1))) N) 1 1 (some 32) 24 rfl rfl rfl rfl (oo.gr (stab_rw (stab_rat 160) 71 4) hC) L32 ⟨hq31.one,trivial⟩ rfl ⟨_,rfl,hq31⟩ (Below.size hB) (by rw [tb_len];omega) (by decide) (by kernel_rfl) (by kernel_rfl) (by decide) (by decide) (fun v33 w33 ow33 wt33 hg33=>?_)
   replace hB:=hg33 _ hB (Nat.le_refl _)
   replace ow33:=ow33.cast (tb_snoc (f:=(fun z0=>tb (fun z1=>(valT (X z0 z1))) N)) (n:=i) (by first | rfl | exact fil_all))
   simp only [putl,p3,p4]
   refine sv 5 v33 ?_
   refine sq_nil ?_
   refine k22 _ _ ?_
   try clear k22 K22
   refine rg [0,1] ?_
   refine sw 33 (.int .i64 (((i:Int)+1))) rfl (RunV.int (x:=IntKind.i64.wrap (((i:Int)+1))) (y:=((i:Int)+1)) (rvk (by kernel_rfl)) (by first | rfl | (rw [IntKind.wrap_i64];omega))) ?_
   refine sv 17 (.int .i64 (((i:Int)+1))) ?_
   refine sq_nil ?_
   refine k18 (Z - (i+1)) ⟨List.toArray ?l34,[]⟩ _ (by omega) ?_
   exact ⟨i+1,v33,(fun i=>List.getD ?l34 i undef),rfl,rfl,(by omega),(by rw [← rfe_b h0];exact hfe),ow33,hB⟩
 ·have hei:Z=i:=by have:=of_decide_eq_false hb21;omega
  subst hei
  refine wp_exit ?_
  simp only [Exit.then,Exit.inBlock,↓reduceIte]
  refine k16 _ _ ?_
  try clear k16 K16
  refine wp_seq_k (fun K35 k35=>?_)
  refine rg [0,1,2] ?_
  refine sv 34 vo ?_
  refine sv 2 vo ?_
  refine sv 3 (.int .i64 0) ?_
  refine sq_nil ?_
  refine k35 _ _ ?_
  try clear k35 K35
  refine wp_ret ?_
  refine bodyPost_ret (v:=(.tuple #[vo,(.int .i64 0)])) (ret_tmp2 rfl rfl rfl) rfl ⟨?_,hB⟩
  exact (absurd h0 hr)

set_option maxRecDepth 100000 in
set_option maxHeartbeats 1000000 in
theorem mx_Parse_s {Z:Nat} {v:Value} {X:Nat→Nat→List UInt8} {zl:Nat→Nat} (_hZ:Z≤256) (hbad:¬ szc zl Z=0) {w:World} (hs:Sl (ERw ETxt 61 1) 60 1 w v (tb (fun z0=>tb (fun z1=>(X z0 z1)) (zl z0)) Z)):
    Calls Tryz.prog 29 #[v] w fun e w'=>e=.returned (.tuple #[.slice none 0 0,.int .i64 (szc zl Z)])∧Gr w w':=by
 go_enter Tryz.func29,Tryz.ntmps29
 have hB:=Gr.refl w
 refine wp_seq_k (fun K10 k10=>?_)
 refine rg [0,1] ?_
 refine sv 2 (.slice none 0 0) ?_
 refine sv 3 (.int .i64 0) ?_
 refine sq_nil ?_
 refine k10 _ _ ?_
 try clear k10 K10
 refine wp_seq_k (fun K11 k11=>?_)
 refine wp_seq_k (fun K12 k12=>?_)
 refine rg [0,1,2] ?_
 refine sv 10 v ?_
 refine se ?_
 refine ec 11 (szn_bad (by omega) hbad (hs.gr (stab_rw stab_txt 61 1) hB)) ?_
 rintro e13 w13 ⟨rfl,g13⟩
 refine ⟨_,rfl,?_⟩
 replace hB:=hB.trans g13
 simp only [p3,p4]
 refine sv 4 (.int .i64 ((szc zl Z))) ?_
 refine sq_nil ?_
 refine k12 _ _ ?_
 try clear k12 K12
 refine wp_seq_k (fun K14 k14=>?_)
 refine rg [0,1] ?_
 refine sv 12 (.int .i64 ((szc zl Z))) ?_
 have hb15:(((szc zl Z) !=(0:Int)))=true:=(by simp;omega)
 refine sw 13 (.bool true) rfl (RunV.bool (x:=((szc zl Z) !=(0:Int))) (rvk (by kernel_rfl)) hb15) ?_
 refine sq_nil ?_
 refine k14 _ _ ?_
 try clear k14 K14
 refine wp_cond_true rfl ?_
 refine wp_seq_k (fun K16 k16=>?_)
 refine rg [0,1,2] ?_
 refine sv 14 (.int .i64 ((szc zl Z))) ?_
 refine sv 2 (.slice none 0 0) ?_
 refine sv 3 (.int .i64 ((szc zl Z))) ?_
 refine sq_nil ?_
 refine k16 _ _ ?_
 try clear k16 K16
 refine wp_ret ?_
 simp only [Exit.then]
 refine bodyPost_ret (v:=(.tuple #[(.slice none 0 0),(.int .i64 ((szc zl Z)))])) (ret_tmp2 rfl rfl rfl) rfl ⟨?_,hB⟩
 exact rfl

set_option maxRecDepth 100000 in
set_option maxHeartbeats 1000000 in
theorem mx_Numbers {Z N:Nat} {v:Value} {X:Nat→Nat→List UInt8} (_hZ:Z≤256) (_hN:N≤96) (hr:rfe X N Z=0) {w:World} (ht:Tab w) (hs:Sl (ERw (ERat 160) 71 4) 49 1 w v (tb (fun z0=>tb (fun z1=>(valT (X z0 z1))) N) Z)):
    Calls Tryz.prog 30 #[v] w fun e w'=>(∃ u,e=.returned u∧Sl (ERw ETxt 61 1) 60 1 w' u (tb (fun z0=>tb (fun z1=>(X z0 z1)) N) Z))∧Gr w w':=by
 go_enter Tryz.func30,Tryz.ntmps30
 have hB:=Gr.refl w
 refine wp_seq_k (fun K10 k10=>?_)
 refine rg [0] ?_
 refine sv 2 (.slice none 0 0) ?_
 refine sq_nil ?_
 refine k10 _ _ ?_
 try clear k10 K10
 refine wp_seq_k (fun K11 k11=>?_)
 refine rg [0] ?_
 refine sv 3 (.slice none 0 0) ?_
 refine sq_nil ?_
 refine k11 _ _ ?_
 try clear k11 K11
 refine wp_seq_k (fun K12 k12=>?_)
 refine wp_seq_k (fun K13 k13=>?_)
 refine rg [0,1,2] ?_
 refine sv 6 v ?_
 refine sw 7 (.int .i64 ((Z:Int))) rfl (rv_lenn (e:=49) hs (tb_lenz rfl) _ _ rfl rfl (by kernel_rfl)) ?_
 refine sv 8 (.int .i64 0) ?_
 refine sq_nil ?_
 refine k13 _ _ ?_
 try clear k13 K13
 refine wp_block ?_
 refine wp_loop_inv (a:=⟨List.toArray ?l14,[]⟩) (fun n a w'=>∃ (i:Nat) (vo:Value) (u14:Nat→Value),Z - i=n∧a=⟨[v,undef,(.slice none 0 0),vo,undef,(u14 5),v,(.int .i64 ((Z:Int))),(.int .i64 ((i:Int))),(u14 9),(u14 10),(u14 11),(u14 12),(u14 13),(u14 14),(u14 15),(u14 16),(u14 17),undef].toArray,[]⟩∧i≤Z∧Ow (ERw ETxt 61 1) 60 1 w' w.heap.size vo (tb (fun z0=>tb (fun z1=>(X z0 z1)) N) i)∧Gr w w') (Z - 0) ?_ ?_
 ·exact ⟨0,(.slice none 0 0),(fun i=>List.getD ?l14 i undef),rfl,rfl,(Nat.zero_le _),(Ow.nil _ _ _ _ _),hB⟩
 rintro n14 a14 w14 ⟨i,vo,u14,rfl,rfl,hki,oo,hB⟩ K14 k14
 have lehC:=Below.size hB
 have hC:=Gr.refl w14
 refine wp_seq_k (fun K15 k15=>?_)
 refine rg [0] ?_
 refine sv 9 (.bool (decide ((i:Int)<(Z:Int)))) ?_
 refine sq_nil ?_
 refine k15 _ _ ?_
 try clear k15 K15
 refine wp_seq_k (fun K16 k16=>?_)
 refine wp_cond_split (t:=decide ((i:Int)<(Z:Int))) rfl (fun hb17=>?_) (fun hb17=>?_)
 ·have hli:i<Z:=by have:=of_decide_eq_true hb17;omega
  refine wp_skip ?_
  refine k16 _ _ ?_
  try clear k16 K16
  refine wp_seq_k (fun K18 k18=>?_)
  refine wp_block ?_
  refine wp_seq_k (fun K19 k19=>?_)
  refine rg [0,1,2] ?_
  refine sw 10 (adr v (i*1)) rfl (rv_idxn (e:=49) hs tb_len (by decide) i (by omega) _ _ _ rfl rfl rfl (by kernel_rfl) (by kernel_rfl)) ?_
  obtain ⟨_,_,⟨u20,rfl,hr20⟩,at20⟩:=Sl.get hs (by decide) (tb_get (f:=(fun z0=>tb (fun z1=>(valT (X z0 z1))) N)) (n:=Z) (i:=i) (by omega))
  refine sw 11 u20 rfl (rv_ld1 u20 (at20.gr hB) _ _ rfl rfl (by kernel_rfl)) ?_
  refine sv 5 u20 ?_
  refine sq_nil ?_
  refine k19 _ _ ?_
  try clear k19 K19
  refine rg [0,1,2,3,4,5] ?_
  refine sv 12 vo ?_
  refine sv 13 u20 ?_
  refine se ?_
  refine ec 14 (numbers_0 (by omega) (rfe_zero hr hli) (hr20.gr (stab_rat 160) hB) (ht.gr hB)) ?_
  rintro e21 w21 ⟨⟨u21,rfl,hs21⟩,g21⟩
  refine ⟨_,rfl,?_⟩
  replace hB:=hB.trans g21
  replace hC:=hC.trans g21
  simp only [p3,p4]
  refine se ?_
  refine eff_bs1 58 60 u21 (some 15) rfl rfl rfl hs21.forms (fun _ _ _ _=>by kernel_rfl) (fun b22 w22 g22 L22 q22=>?_)
  have q22_hC:=Nat.le_trans (Below.size hC) q22
  replace hB:=hB.trans g22
  replace hC:=hC.trans g22
  simp only [putl,p3,p4]
  refine se ?_
  replace hs21:=hs21.gr stab_txt g22
  refine eff_apg (stab_rw stab_txt 61 1) _ _ 58 60 w.heap.size (.slice none 0 0) vo (tb (fun z0=>tb (fun z1=>(X z0 z1)) N) i) b22 [u21] (tb (fun z1=>(X i z1)) N) 1 1 (some 16) 24 rfl rfl rfl rfl (oo.gr (stab_rw stab_txt 61 1) hC) L22 ⟨hs21.one,trivial⟩ rfl ⟨_,rfl,hs21⟩ (Below.size hB) (by rw [tb_len];omega) (by decide) (by kernel_rfl) (by kernel_rfl) (by decide) (by decide) (fun v23 w23 ow23 wt23 hg23=>?_)
  replace hB:=hg23 _ hB (Nat.le_refl _)
  replace ow23:=ow23.cast (tb_snoc (f:=(fun z0=>tb (fun z1=>(X z0 z1)) N)) (n:=i) (by first | rfl | exact fil_all))
  simp only [putl,p3,p4]
  refine sv 3 v23 ?_
  refine sq_nil ?_
  refine k18 _ _ ?_
  try clear k18 K18
  refine rg [0,1] ?_
  refine sw 17 (.int .i64 (((i:Int)+1))) rfl (RunV.int (x:=IntKind.i64.wrap (((i:Int)+1))) (y:=((i:Int)+1)) (rvk (by kernel_rfl)) (by first | rfl | (rw [IntKind.wrap_i64];omega))) ?_
  refine sv 8 (.int .i64 (((i:Int)+1))) ?_
  refine sq_nil ?_
  refine k14 (Z - (i+1)) ⟨List.toArray ?l24,[]⟩ _ (by omega) ?_
  exact ⟨i+1,v23,(fun i=>List.getD ?l24 i undef),rfl,rfl,(by omega),ow23,hB⟩
 ·have hei:Z=i:=by have:=of_decide_eq_false hb17;omega
  subst hei
  refine wp_exit ?_
  simp only [Exit.then,Exit.inBlock,↓reduceIte]
  refine k12 _ _ ?_
  try clear k12 K12
  refine wp_seq_k (fun K25 k25=>?_)
  refine rg [0,1] ?_
  refine sv 18 vo ?_
  refine sv 2 vo ?_
  refine sq_nil ?_
  refine k25 _ _ ?_
  try clear k25 K25
  refine wp_ret ?_
  refine bodyPost_ret (v:=vo) (ret_tmp rfl rfl) rfl ⟨?_,hB⟩
  exact ⟨_,rfl,((oo.gr (stab_rw stab_txt 61 1) hC).sl)⟩

set_option maxRecDepth 100000 in
set_option maxHeartbeats 1000000 in
theorem mx_size_l {R N:Nat} {v:Value} {m:Mx_} (_hR:256<R) {w:World} (hs:Sl (ERw (ERat 64) 71 4) 49 1 w v (tb (fun z0=>tb (fun z1=>(m z0 z1)) N) R)):
    Calls Tryz.prog 51 #[v] w fun e w'=>e=.returned (.int .i64 6)∧Gr w w':=by
 go_enter Tryz.func51,Tryz.ntmps51
 have hB:=Gr.refl w
 refine wp_seq_k (fun K10 k10=>?_)
 refine rg [0] ?_
 refine sv 2 (.int .i64 0) ?_
 refine sq_nil ?_
 refine k10 _ _ ?_
 try clear k10 K10
 refine wp_seq_k (fun K11 k11=>?_)
 refine wp_seq_k (fun K12 k12=>?_)
 refine rg [0,1,2] ?_
 refine sv 5 v ?_
 refine sw 6 (.int .i64 ((R:Int))) rfl (rv_lenn (e:=49) hs (tb_lenz rfl) _ _ rfl rfl (by kernel_rfl)) ?_
 have hb13:(decide ((256:Int)<(R:Int)))=true:=(by simp only [decide_eq_true_eq];omega)
 refine sw 7 (.bool true) rfl (RunV.bool (x:=decide ((256:Int)<(R:Int))) (rvk (by kernel_rfl)) hb13) ?_
 refine sq_nil ?_
 refine k12 _ _ ?_
 try clear k12 K12
 refine wp_cond_true rfl ?_
 refine wp_seq_k (fun K14 k14=>?_)
 refine rg [0] ?_
 refine sv 2 (.int .i64 6) ?_
 refine sq_nil ?_
 refine k14 _ _ ?_
 try clear k14 K14
 refine wp_ret ?_
 simp only [Exit.then]
 refine bodyPost_ret (v:=(.int .i64 6)) (ret_tmp rfl rfl) rfl ⟨?_,hB⟩
 exact rfl

set_option maxRecDepth 100000 in
set_option maxHeartbeats 1000000 in
theorem mx_Size_l {R N:Nat} {v:Value} {m:Mx_} (hR:256<R) {w:World} (hs:Sl (ERw (ERat 64) 71 4) 49 1 w v (tb (fun z0=>tb (fun z1=>(m z0 z1)) N) R)):
    Calls Tryz.prog 23 #[v] w fun e w'=>e=.returned (.tuple #[.int .i64 0,.int .i64 0,.int .i64 6])∧Gr w w':=by
 go_enter Tryz.func23,Tryz.ntmps23
 have hB:=Gr.refl w
 refine wp_seq_k (fun K10 k10=>?_)
 refine rg [0,1,2] ?_
 refine sv 2 (.int .i64 0) ?_
 refine sv 3 (.int .i64 0) ?_
 refine sv 4 (.int .i64 0) ?_
 refine sq_nil ?_
 refine k10 _ _ ?_
 try clear k10 K10
 refine wp_seq_k (fun K11 k11=>?_)
 refine wp_seq_k (fun K12 k12=>?_)
 refine rg [0,1,2] ?_
 refine sv 6 v ?_
 refine se ?_
 refine ec 7 (mx_size_l hR (hs.gr (stab_rw (stab_rat 64) 71 4) hB)) ?_
 rintro e13 w13 ⟨rfl,g13⟩
 refine ⟨_,rfl,?_⟩
 replace hB:=hB.trans g13
 simp only [p3,p4]
 refine sv 5 (.int .i64 6) ?_
 refine sq_nil ?_
 refine k12 _ _ ?_
 try clear k12 K12
 refine wp_seq_k (fun K14 k14=>?_)
 refine rg [0,1] ?_
 refine sv 8 (.int .i64 6) ?_
 refine sv 9 (.bool true) ?_
 refine sq_nil ?_
 refine k14 _ _ ?_
 try clear k14 K14
 refine wp_cond_true rfl ?_
 refine wp_seq_k (fun K15 k15=>?_)
 refine rg [0,1,2,3] ?_
 refine sv 10 (.int .i64 6) ?_
 refine sv 2 (.int .i64 0) ?_
 refine sv 3 (.int .i64 0) ?_
 refine sv 4 (.int .i64 6) ?_
 refine sq_nil ?_
 refine k15 _ _ ?_
 try clear k15 K15
 refine wp_ret ?_
 simp only [Exit.then]
 refine bodyPost_ret (v:=(.tuple #[(.int .i64 0),(.int .i64 0),(.int .i64 6)])) (ret_tmp3 rfl rfl rfl rfl) rfl ⟨?_,hB⟩
 exact rfl

set_option maxRecDepth 100000 in
set_option maxHeartbeats 1000000 in
theorem mz_s {TQ Z:Nat} {zl:Nat→Nat} {v:Value} {X:Nat→Nat→List UInt8} (hbad:¬ szc zl Z=0) {w:World} (hm:Mx w) (ht:Tab w) (hx:Sl (ESl ETxt 1) TQ 1 w v (tb (fun z0=>tb (fun z1=>(X z0 z1)) (zl z0)) Z)):
    Calls Tryz.prog 5 #[v] w fun e w'=>e=.returned (.bool true)∧Gr w w':=by
 go_enter Tryz.func5,Tryz.ntmps5
 have hB:=Gr.refl w
 refine wp_seq_k (fun K10 k10=>?_)
 refine rg [0] ?_
 refine sv 2 (.bool false) ?_
 refine sq_nil ?_
 refine k10 _ _ ?_
 try clear k10 K10
 refine wp_seq_k (fun K11 k11=>?_)
 refine wp_seq_k (fun K12 k12=>?_)
 refine rg [0,1,2,3,4,5,6] ?_
 refine se ?_
 refine ec 20 (l5_known _ (hm.gr hB) (ht.gr hB)) ?_
 rintro e13 w13 ⟨rfl,g13⟩
 refine ⟨_,rfl,?_⟩
 replace hB:=hB.trans g13
 simp only [p3,p4]
 refine sv 21 (.bool false) ?_
 refine sv 22 (.bool false) ?_
 refine sv 23 v ?_
 refine sw 24 (.int .i64 ((Z:Int))) rfl (rv_lenn (e:=59) hx (tb_lenz rfl) _ _ rfl rfl (by kernel_rfl)) ?_
 refine sv 25 (.bool (decide ((8:Int)<(Z:Int)))) ?_
 refine sv 26 (.bool (decide ((8:Int)<(Z:Int)))) ?_
 refine sq_nil ?_
 refine k12 _ _ ?_
 try clear k12 K12
 refine wp_cond_split (t:=decide ((8:Int)<(Z:Int))) rfl (fun hb14=>?_) (fun hb14=>?_)
 ·have hq15:((8:Int)<(Z:Int)):=of_decide_eq_true hb14
  refine wp_seq_k (fun K16 k16=>?_)
  refine rg [0,1] ?_
  refine se ?_
  refine ec 27 (l5_known _ (hm.gr hB) (ht.gr hB)) ?_
  rintro e17 w17 ⟨rfl,g17⟩
  refine ⟨_,rfl,?_⟩
  replace hB:=hB.trans g17
  simp only [p3,p4]
  refine sv 2 (.bool true) ?_
  refine sq_nil ?_
  refine k16 _ _ ?_
  try clear k16 K16
  refine wp_ret ?_
  simp only [Exit.then]
  refine bodyPost_ret (v:=(.bool true)) (ret_tmp rfl rfl) rfl ⟨?_,hB⟩
  exact rfl
 ·have hq18:¬ ((8:Int)<(Z:Int)):=of_decide_eq_false hb14
  refine wp_skip ?_
  refine k11 _ _ ?_
  try clear k11 K11
  refine wp_seq_k (fun K19 k19=>?_)
  refine rg [0] ?_
  refine sv 3 (.slice none 0 0) ?_
  refine sq_nil ?_
  refine k19 _ _ ?_
  try clear k19 K19
  refine wp_seq_k (fun K20 k20=>?_)
  refine rg [0] ?_
  refine sv 4 (.int .i64 0) ?_
  refine sq_nil ?_
  refine k20 _ _ ?_
  try clear k20 K20
  refine wp_seq_k (fun K21 k21=>?_)
  refine wp_seq_k (fun K22 k22=>?_)
  refine rg [0] ?_
  refine sv 5 (.int .i64 0) ?_
  refine sq_nil ?_
  refine k22 _ _ ?_
  try clear k22 K22
  refine wp_block ?_
  refine wp_loop_inv (a:=⟨List.toArray ?l23,[]⟩) (fun n a w'=>∃ (i:Nat) (vo:Value) (wt:Int) (u23:Nat→Value),Z - i=n∧a=⟨[v,undef,(u23 2),vo,(.int .i64 (wt)),(.int .i64 ((i:Int))),(u23 6),(u23 7),undef,undef,undef,undef,undef,undef,undef,undef,undef,undef,undef,undef,(u23 20),(u23 21),(u23 22),(u23 23),(u23 24),(u23 25),(.bool (decide ((8:Int)<(Z:Int)))),undef,(u23 28),(u23 29),(u23 30),(u23 31),(u23 32),(u23 33),(u23 34),(u23 35),(u23 36),(u23 37),(u23 38),(u23 39),(u23 40),(u23 41),(u23 42),(u23 43),(u23 44),(u23 45),(u23 46),(u23 47),(u23 48),(u23 49),(u23 50),(u23 51),(u23 52),(u23 53),(u23 54),(u23 55),(u23 56),(u23 57),(u23 58),(u23 59),(u23 60),(u23 61),(u23 62),(u23 63),(u23 64),(u23 65),(u23 66),(u23 67),(u23 68),(u23 69),(u23 70),(u23 71),(u23 72),(u23 73),(u23 74),(u23 75),(u23 76),(u23 77),(u23 78),(u23 79),(u23 80),(u23 81),(u23 82),(u23 83),(u23 84),(u23 85),(u23 86),(u23 87),(u23 88),(u23 89),undef,undef,undef,undef,undef,undef,undef,undef,undef,undef,undef,undef,undef,undef,undef,undef,undef,undef,undef,undef,undef,undef,undef,undef,undef,undef,undef,undef,undef,undef,undef,undef,undef,undef,undef,undef,undef,undef,undef,undef,undef,undef,undef,undef,undef,undef,undef,undef,undef,undef,undef,undef,undef,undef,undef,undef,undef,undef,undef,undef,undef,undef,undef,undef,undef,undef,undef,undef,undef,undef,undef,undef,undef,undef,undef,undef,undef,undef,undef,undef,undef,undef,undef,undef,undef,undef,undef,undef,undef,undef,undef,undef,undef,undef,undef,undef,undef,undef,undef,undef,undef,undef,undef,undef,undef,undef,undef,undef,undef,undef,undef,undef,undef,undef,undef,undef,undef,undef,undef,undef,undef,undef,undef,undef,undef].toArray,[]⟩∧i≤Z∧(∀ r,r<i→∀ k,k<zl r→(X r k).length≤20)∧wt=szc zl i∧Ow (ERw ETxt 61 1) 60 1 w' w.heap.size vo (tb (fun z0=>tb (fun z1=>(X z0 z1)) (zl z0)) i)∧Gr w w') (Z - 0) ?_ ?_
  ·exact ⟨0,(.slice none 0 0),0,(fun i=>List.getD ?l23 i undef),rfl,rfl,(Nat.zero_le _),(fun r h=>absurd h (Nat.not_lt_zero r)),rfl,(Ow.nil _ _ _ _ _),hB⟩
  rintro n23 a23 w23 ⟨i,vo,wt,u23,rfl,rfl,hki,hsh,hwt,oo,hB⟩ K23 k23
  have lehC:=Below.size hB
  have hC:=Gr.refl w23
  refine wp_seq_k (fun K24 k24=>?_)
  refine wp_seq_k (fun K25 k25=>?_)
  refine rg [0,1,2,3] ?_
  refine sv 28 (.int .i64 ((i:Int))) ?_
  refine sv 29 v ?_
  refine sw 30 (.int .i64 ((Z:Int))) rfl (rv_lenn (e:=59) hx (tb_lenz rfl) _ _ rfl rfl (by kernel_rfl)) ?_
  refine sv 31 (.bool (decide ((i:Int)<(Z:Int)))) ?_
  refine sq_nil ?_
  refine k25 _ _ ?_
  try clear k25 K25
  refine wp_cond_split (t:=decide ((i:Int)<(Z:Int))) rfl (fun hb26=>?_) (fun hb26=>?_)
  ·have hli:i<Z:=by have:=of_decide_eq_true hb26;omega
   refine wp_skip ?_
   refine k24 _ _ ?_
   try clear k24 K24
   refine wp_seq_k (fun K27 k27=>?_)
   refine wp_block ?_
   refine wp_seq_k (fun K28 k28=>?_)
   refine wp_seq_k (fun K29 k29=>?_)
   refine rg [0,1,2,3,4,5] ?_
   refine sv 34 v ?_
   refine sv 35 (.int .i64 ((i:Int))) ?_
   refine sw 36 (adr v (i*1)) rfl (rv_idxn (e:=59) hx tb_len (by decide) i (by omega) _ _ _ rfl rfl rfl (by kernel_rfl) (by kernel_rfl)) ?_
   obtain ⟨_,_,⟨u30,TT30,rfl,hr30⟩,at30⟩:=Sl.get hx (by decide) (tb_get (f:=(fun z0=>tb (fun z1=>(X z0 z1)) (zl z0))) (n:=Z) (i:=i) (by omega))
   refine sw 37 u30 rfl (rv_ld1 u30 (at30.gr hB) _ _ rfl rfl (by kernel_rfl)) ?_
   refine sw 38 (.int .i64 (((zl i:Nat):Int))) rfl (rv_lenn (e:=9) hr30 (tb_lenz rfl) _ _ rfl rfl (by kernel_rfl)) ?_
   refine sv 39 (.bool (decide ((100:Int)<((zl i:Nat):Int)))) ?_
   refine sq_nil ?_
   refine k29 _ _ ?_
   try clear k29 K29
   refine wp_cond_split (t:=decide ((100:Int)<((zl i:Nat):Int))) rfl (fun hb31=>?_) (fun hb31=>?_)
   ·have h100:100<zl i:=by have:=of_decide_eq_true hb31;omega
    refine wp_seq_k (fun K32 k32=>?_)
    refine rg [0] ?_
    refine sv 2 (.bool true) ?_
    refine sq_nil ?_
    refine k32 _ _ ?_
    try clear k32 K32
    refine wp_ret ?_
    simp only [Exit.then,Exit.inBlock]
    refine bodyPost_ret (v:=(.bool true)) (ret_tmp rfl rfl) rfl ⟨?_,hB⟩
    exact rfl
   ·have h100:¬ 100<zl i:=by have:=of_decide_eq_false hb31;omega
    refine wp_skip ?_
    refine k28 _ _ ?_
    try clear k28 K28
    refine wp_seq_k (fun K33 k33=>?_)
    refine rg [0] ?_
    refine sv 6 (.slice none 0 0) ?_
    refine sq_nil ?_
    refine k33 _ _ ?_
    try clear k33 K33
    refine wp_seq_k (fun K34 k34=>?_)
    refine wp_seq_k (fun K35 k35=>?_)
    refine rg [0] ?_
    refine sv 7 (.int .i64 0) ?_
    refine sq_nil ?_
    refine k35 _ _ ?_
    try clear k35 K35
    refine wp_block ?_
    refine wp_loop_inv (a:=⟨List.toArray ?l36,[]⟩) (fun n a w'=>∃ (j:Nat) (vi:Value) (u36:Nat→Value),(zl i) - j=n∧a=⟨[v,undef,(u36 2),vo,(.int .i64 (wt)),(.int .i64 ((i:Int))),vi,(.int .i64 ((j:Int))),undef,undef,undef,undef,undef,undef,undef,undef,undef,undef,undef,undef,(u36 20),(u36 21),(u36 22),(u36 23),(u36 24),(u36 25),(.bool (decide ((8:Int)<(Z:Int)))),undef,(u36 28),(u36 29),(u36 30),(.bool (decide ((i:Int)<(Z:Int)))),(u36 32),(u36 33),(u36 34),(u36 35),(u36 36),(u36 37),(u36 38),(.bool (decide ((100:Int)<((zl i:Nat):Int)))),(u36 40),(u36 41),(u36 42),(u36 43),(u36 44),(u36 45),(u36 46),(u36 47),(u36 48),(u36 49),(u36 50),(u36 51),(u36 52),(u36 53),(u36 54),(u36 55),(u36 56),(u36 57),(u36 58),(u36 59),(u36 60),(u36 61),(u36 62),(u36 63),(u36 64),(u36 65),(u36 66),(u36 67),(u36 68),(u36 69),(u36 70),(u36 71),(u36 72),(u36 73),(u36 74),(u36 75),(u36 76),(u36 77),(u23 78),(u36 79),(u36 80),(u36 81),(u36 82),(u36 83),(u36 84),(u36 85),(u36 86),(u36 87),(u36 88),(u23 89),undef,undef,undef,undef,undef,undef,undef,undef,undef,undef,undef,undef,undef,undef,undef,undef,undef,undef,undef,undef,undef,undef,undef,undef,undef,undef,undef,undef,undef,undef,undef,undef,undef,undef,undef,undef,undef,undef,undef,undef,undef,undef,undef,undef,undef,undef,undef,undef,undef,undef,undef,undef,undef,undef,undef,undef,undef,undef,undef,undef,undef,undef,undef,undef,undef,undef,undef,undef,undef,undef,undef,undef,undef,undef,undef,undef,undef,undef,undef,undef,undef,undef,undef,undef,undef,undef,undef,undef,undef,undef,undef,undef,undef,undef,undef,undef,undef,undef,undef,undef,undef,undef,undef,undef,undef,undef,undef,undef,undef,undef,undef,undef,undef,undef,undef,undef,undef,undef,undef,undef,undef,undef,undef,undef,undef].toArray,[]⟩∧j≤(zl i)∧(∀ r,r<j→(X i r).length≤20)∧Ow ETxt 61 1 w' w23.heap.size vi (tb (fun z1=>(X i z1)) j)∧Gr w23 w'∧Gr w w') ((zl i) - 0) ?_ ?_
    ·exact ⟨0,(.slice none 0 0),(fun i=>List.getD ?l36 i undef),rfl,rfl,(Nat.zero_le _),(fun r h=>absurd h (Nat.not_lt_zero r)),(Ow.nil _ _ _ _ _),hC,hB⟩
    rintro n36 a36 w36 ⟨j,vi,u36,rfl,rfl,hkj,hrw,oi,hC,hB⟩ K36 k36
    have lehI:=Below.size hB
    have lehI_hC:=Below.size hC
    have hI:=Gr.refl w36
    refine wp_seq_k (fun K37 k37=>?_)
    refine wp_seq_k (fun K38 k38=>?_)
    refine rg [0,1,2,3,4,5,6] ?_
    refine sv 40 (.int .i64 ((j:Int))) ?_
    refine sv 41 v ?_
    refine sv 42 (.int .i64 ((i:Int))) ?_
    refine sw 43 (adr v (i*1)) rfl (rv_idxn (e:=59) hx tb_len (by decide) i (by omega) _ _ _ rfl rfl rfl (by kernel_rfl) (by kernel_rfl)) ?_
    refine sw 44 u30 rfl (rv_ld1 u30 (at30.gr hB) _ _ rfl rfl (by kernel_rfl)) ?_
    refine sw 45 (.int .i64 (((zl i:Nat):Int))) rfl (rv_lenn (e:=9) hr30 (tb_lenz rfl) _ _ rfl rfl (by kernel_rfl)) ?_
    refine sv 46 (.bool (decide ((j:Int)<((zl i:Nat):Int)))) ?_
    refine sq_nil ?_
    refine k38 _ _ ?_
    try clear k38 K38
    refine wp_cond_split (t:=decide ((j:Int)<((zl i:Nat):Int))) rfl (fun hb39=>?_) (fun hb39=>?_)
    ·have hlj:j<(zl i):=by have:=of_decide_eq_true hb39;omega
     refine wp_skip ?_
     refine k37 _ _ ?_
     try clear k37 K37
     refine wp_seq_k (fun K40 k40=>?_)
     refine wp_block ?_
     refine wp_seq_k (fun K41 k41=>?_)
     refine wp_seq_k (fun K42 k42=>?_)
     refine rg [0,1,2,3,4,5,6,7,8] ?_
     refine sv 49 v ?_
     refine sv 50 (.int .i64 ((i:Int))) ?_
     refine sw 51 (adr v (i*1)) rfl (rv_idxn (e:=59) hx tb_len (by decide) i (by omega) _ _ _ rfl rfl rfl (by kernel_rfl) (by kernel_rfl)) ?_
     refine sw 52 u30 rfl (rv_ld1 u30 (at30.gr hB) _ _ rfl rfl (by kernel_rfl)) ?_
     refine sv 53 (.int .i64 ((j:Int))) ?_
     refine sw 54 (adr u30 (j*1)) rfl (rv_idxn (e:=9) hr30 tb_len (by decide) j (by omega) _ _ _ rfl rfl rfl (by kernel_rfl) (by kernel_rfl)) ?_
     obtain ⟨_,_,rfl,at43⟩:=Sl.get hr30 (by decide) (tb_get (f:=(fun z1=>(X i z1))) (n:=(zl i)) (i:=j) (by omega))
     refine sw 55 (.string ⟨((X i j):List UInt8).toArray⟩) rfl (rv_ld1 (.string ⟨((X i j):List UInt8).toArray⟩) (at43.gr hB) _ _ rfl rfl (by kernel_rfl)) ?_
     refine sv 56 (.int .i64 ((((X i j)).length:Int))) ?_
     refine sv 57 (.bool (decide ((20:Int)<(((X i j)).length:Int)))) ?_
     refine sq_nil ?_
     refine k42 _ _ ?_
     try clear k42 K42
     refine wp_cond_split (t:=decide ((20:Int)<(((X i j)).length:Int))) rfl (fun hb44=>?_) (fun hb44=>?_)
     ·have h20:20<(X i j).length:=by have:=of_decide_eq_true hb44;omega
      refine wp_seq_k (fun K45 k45=>?_)
      refine rg [0] ?_
      refine sv 2 (.bool true) ?_
      refine sq_nil ?_
      refine k45 _ _ ?_
      try clear k45 K45
      refine wp_ret ?_
      simp only [Exit.then,Exit.inBlock]
      refine bodyPost_ret (v:=(.bool true)) (ret_tmp rfl rfl) rfl ⟨?_,hB⟩
      exact rfl
     ·have h20:¬ 20<(X i j).length:=by have:=of_decide_eq_false hb44;omega
      refine wp_skip ?_
      refine k41 _ _ ?_
      try clear k41 K41
      refine rg [0,1,2,3,4,5,6,7,8,9,10] ?_
      refine sv 58 vi ?_
      refine sv 59 v ?_
      refine sv 60 (.int .i64 ((i:Int))) ?_
      refine sw 61 (adr v (i*1)) rfl (rv_idxn (e:=59) hx tb_len (by decide) i (by omega) _ _ _ rfl rfl rfl (by kernel_rfl) (by kernel_rfl)) ?_
      refine sw 62 u30 rfl (rv_ld1 u30 (at30.gr hB) _ _ rfl rfl (by kernel_rfl)) ?_
      refine sv 63 (.int .i64 ((j:Int))) ?_
      refine sw 64 (adr u30 (j*1)) rfl (rv_idxn (e:=9) hr30 tb_len (by decide) j (by omega) _ _ _ rfl rfl rfl (by kernel_rfl) (by kernel_rfl)) ?_
      refine sw 65 (.string ⟨((X i j):List UInt8).toArray⟩) rfl (rv_ld1 (.string ⟨((X i j):List UInt8).toArray⟩) (at43.gr hB) _ _ rfl rfl (by kernel_rfl)) ?_
      refine se ?_
      refine eff_bs 61 1 #[(.string ⟨((X i j):List UInt8).toArray⟩)] (some 66) rfl (fun _=>by kernel_rfl) (fun b46 w46 g46 L46 q46=>?_)
      have q46_hC:=Nat.le_trans (Below.size hC) q46
      have q46_hI:=Nat.le_trans (Below.size hI) q46
      replace hB:=hB.trans g46
      replace hC:=hC.trans g46
      replace hI:=hI.trans g46
      simp only [putl,p3,p4]
      refine se ?_
      refine eff_apg stab_txt _ _ 60 61 w23.heap.size (.string ⟨([]:List UInt8).toArray⟩) vi (tb (fun z1=>(X i z1)) j) b46 [(.string ⟨((X i j):List UInt8).toArray⟩)] ((X i j):List UInt8) 1 1 (some 67) 16 rfl rfl rfl rfl (oi.gr stab_txt hI) L46 ⟨rfl,trivial⟩ rfl rfl (Below.size hC) (by rw [tb_len];omega) (by decide) (by kernel_rfl) (by kernel_rfl) (by decide) (by decide) (fun v47 w47 ow47 wt47 hg47=>?_)
      replace hB:=hg47 _ hB lehC
      replace hC:=hg47 _ hC (Nat.le_refl _)
      replace ow47:=ow47.cast (tb_snoc (f:=(fun z1=>(X i z1))) (n:=j) (by first | rfl | exact fil_all))
      simp only [putl,p3,p4]
      refine sv 6 v47 ?_
      refine sq_nil ?_
      refine k40 _ _ ?_
      try clear k40 K40
      refine rg [0,1,2] ?_
      refine sv 47 (.int .i64 ((j:Int))) ?_
      refine sw 48 (.int .i64 (((j:Int)+1))) rfl (RunV.int (x:=IntKind.i64.wrap (((j:Int)+1))) (y:=((j:Int)+1)) (rvk (by kernel_rfl)) (by first | rfl | (rw [IntKind.wrap_i64];omega))) ?_
      refine sv 7 (.int .i64 (((j:Int)+1))) ?_
      refine sq_nil ?_
      refine k36 ((zl i) - (j+1)) ⟨List.toArray ?l48,[]⟩ _ (by omega) ?_
      exact ⟨j+1,v47,(fun i=>List.getD ?l48 i undef),rfl,rfl,(by omega),(all_succ3 hrw (by omega)),ow47,hC,hB⟩
    ·have hej:(zl i)=j:=by have:=of_decide_eq_false hb39;omega
     subst hej
     refine wp_exit ?_
     simp only [Exit.then,Exit.inBlock,↓reduceIte]
     refine k34 _ _ ?_
     try clear k34 K34
     refine wp_seq_k (fun K49 k49=>?_)
     refine rg [0,1,2,3,4] ?_
     refine sv 68 vo ?_
     refine sv 69 vi ?_
     refine se ?_
     refine eff_bs1 58 60 vi (some 70) rfl rfl rfl ((oi.gr stab_txt hI).sl).forms (fun _ _ _ _=>by kernel_rfl) (fun b50 w50 g50 L50 q50=>?_)
     have q50_hC:=Nat.le_trans (Below.size hC) q50
     have q50_hI:=Nat.le_trans (Below.size hI) q50
     replace hB:=hB.trans g50
     replace hC:=hC.trans g50
     replace hI:=hI.trans g50
     simp only [putl,p3,p4]
     refine se ?_
     refine eff_apg (stab_rw stab_txt 61 1) _ _ 58 60 w.heap.size (.slice none 0 0) vo (tb (fun z0=>tb (fun z1=>(X z0 z1)) (zl z0)) i) b50 [vi] (tb (fun z1=>(X i z1)) ((zl i))) 1 1 (some 71) 24 rfl rfl rfl rfl (oo.gr (stab_rw stab_txt 61 1) hC) L50 ⟨oi.one,trivial⟩ rfl ⟨_,rfl,((oi.gr stab_txt hI).sl)⟩ (Below.size hB) (by rw [tb_len];omega) (by decide) (by kernel_rfl) (by kernel_rfl) (by decide) (by decide) (fun v51 w51 ow51 wt51 hg51=>?_)
     replace hB:=hg51 _ hB (Nat.le_refl _)
     replace ow51:=ow51.cast (tb_snoc (f:=(fun z0=>tb (fun z1=>(X z0 z1)) (zl z0))) (n:=i) (by first | rfl | exact fil_all))
     simp only [putl,p3,p4]
     refine sv 3 v51 ?_
     refine sq_nil ?_
     refine k49 _ _ ?_
     try clear k49 K49
     refine wp_seq_k (fun K52 k52=>?_)
     refine wp_seq_k (fun K53 k53=>?_)
     refine rg [0,1,2,3,4,5,6] ?_
     refine sv 72 (.int .i64 (wt)) ?_
     refine sv 73 (.bool ((wt==(0:Int)))) ?_
     rcases Bool.eq_false_or_eq_true ((wt==(0:Int))) with hb54 | hb54
     ·have hw0:wt=0:=by simpa using hb54
      refine sw 74 (.bool true) rfl (RunV.bool (x:=(wt==(0:Int))) (rvk (by kernel_rfl)) hb54) ?_
      refine sv 75 vi ?_
      refine sw 76 (.int .i64 ((((zl i):Nat):Int))) rfl (rv_lenn (e:=61) oi.sl (tb_lenz rfl) _ _ rfl rfl (by kernel_rfl)) ?_
      refine sv 77 (.bool (decide ((96:Int)<(((zl i):Nat):Int)))) ?_
      refine sv 78 (.bool (decide ((96:Int)<(((zl i):Nat):Int)))) ?_
      refine sq_nil ?_
      refine k53 _ _ ?_
      try clear k53 K53
      refine wp_cond_split (t:=decide ((96:Int)<(((zl i):Nat):Int))) rfl (fun hb55=>?_) (fun hb55=>?_)
      ·have hb96:96<zl i:=by have:=of_decide_eq_true hb55;omega
       refine rg [0] ?_
       refine sv 4 (.int .i64 6) ?_
       refine sq_nil ?_
       refine k52 _ _ ?_
       try clear k52 K52
       refine wp_seq_k (fun K56 k56=>?_)
       refine rg [0,1,2,3,4,5,6,7,8,9,10] ?_
       refine sv 79 (.int .i64 6) ?_
       refine sv 80 (.bool false) ?_
       refine swk 81 (.bool false) [(3,82),(4,83),(5,84),(6,85),(7,86),(8,87),(9,88)] rfl (rvk (by kernel_rfl)) ?_
       refine sv 89 (.bool false) ?_
       refine sq_nil ?_
       refine k56 _ _ ?_
       try clear k56 K56
       refine wp_cond_false rfl ?_
       refine wp_skip ?_
       refine k27 _ _ ?_
       try clear k27 K27
       refine rg [0,1,2] ?_
       refine sv 32 (.int .i64 ((i:Int))) ?_
       refine sw 33 (.int .i64 (((i:Int)+1))) rfl (RunV.int (x:=IntKind.i64.wrap (((i:Int)+1))) (y:=((i:Int)+1)) (rvk (by kernel_rfl)) (by first | rfl | (rw [IntKind.wrap_i64];omega))) ?_
       refine sv 5 (.int .i64 (((i:Int)+1))) ?_
       refine sq_nil ?_
       refine k23 (Z - (i+1)) ⟨List.toArray ?l57,[]⟩ _ (by omega) ?_
       exact ⟨i+1,v51,6,(fun i=>List.getD ?l57 i undef),rfl,rfl,(by omega),(all_succ3 hsh hrw),(szc_b (by rw [← hwt];exact hw0) hb96),ow51,hB⟩
      ·have hb96:¬ 96<zl i:=by have:=of_decide_eq_false hb55;omega
       refine wp_skip ?_
       refine k52 _ _ ?_
       try clear k52 K52
       refine wp_seq_k (fun K58 k58=>?_)
       refine rg [0,1,2,3,4,5,6,7,8,9,10] ?_
       refine sv 79 (.int .i64 (wt)) ?_
       refine sw 80 (.bool true) rfl (RunV.bool (x:=(wt==(0:Int))) (rvk (by kernel_rfl)) hb54) ?_
       refine sv 81 (.bool true) ?_
       refine sv 82 vi ?_
       refine sw 83 (.int .i64 ((((zl i):Nat):Int))) rfl (rv_lenn (e:=61) oi.sl (tb_lenz rfl) _ _ rfl rfl (by kernel_rfl)) ?_
       refine sv 84 v ?_
       refine sw 85 (adr v (0*1)) rfl (rv_idxn (e:=59) hx tb_len (by decide) 0 (by omega) _ _ _ rfl rfl rfl (by kernel_rfl) (by kernel_rfl)) ?_
       obtain ⟨_,_,⟨u59,TT59,rfl,hr59⟩,at59⟩:=Sl.get hx (by decide) (tb_get (f:=(fun z0=>tb (fun z1=>(X z0 z1)) (zl z0))) (n:=Z) (i:=0) (by omega))
       refine sw 86 u59 rfl (rv_ld1 u59 (at59.gr hB) _ _ rfl rfl (by kernel_rfl)) ?_
       refine sw 87 (.int .i64 (((zl 0:Nat):Int))) rfl (rv_lenn (e:=9) hr59 (tb_lenz rfl) _ _ rfl rfl (by kernel_rfl)) ?_
       refine sv 88 (.bool (((((zl i):Nat):Int) !=((zl 0:Nat):Int)))) ?_
       refine sv 89 (.bool (((((zl i):Nat):Int) !=((zl 0:Nat):Int)))) ?_
       refine sq_nil ?_
       refine k58 _ _ ?_
       try clear k58 K58
       refine wp_cond_split (t:=((((zl i):Nat):Int) !=((zl 0:Nat):Int))) rfl (fun hb60=>?_) (fun hb60=>?_)
       ·have hneq:¬ zl i=zl 0:=bne_t hb60
        refine rg [0] ?_
        refine sv 4 (.int .i64 13) ?_
        refine sq_nil ?_
        refine k27 _ _ ?_
        try clear k27 K27
        refine rg [0,1,2] ?_
        refine sv 32 (.int .i64 ((i:Int))) ?_
        refine sw 33 (.int .i64 (((i:Int)+1))) rfl (RunV.int (x:=IntKind.i64.wrap (((i:Int)+1))) (y:=((i:Int)+1)) (rvk (by kernel_rfl)) (by first | rfl | (rw [IntKind.wrap_i64];omega))) ?_
        refine sv 5 (.int .i64 (((i:Int)+1))) ?_
        refine sq_nil ?_
        refine k23 (Z - (i+1)) ⟨List.toArray ?l61,[]⟩ _ (by omega) ?_
        exact ⟨i+1,v51,13,(fun i=>List.getD ?l61 i undef),rfl,rfl,(by omega),(all_succ3 hsh hrw),(szc_c (by rw [← hwt];exact hw0) hb96 hneq),ow51,hB⟩
       ·have hneq:zl i=zl 0:=bne_f hb60
        refine wp_skip ?_
        refine k27 _ _ ?_
        try clear k27 K27
        refine rg [0,1,2] ?_
        refine sv 32 (.int .i64 ((i:Int))) ?_
        refine sw 33 (.int .i64 (((i:Int)+1))) rfl (RunV.int (x:=IntKind.i64.wrap (((i:Int)+1))) (y:=((i:Int)+1)) (rvk (by kernel_rfl)) (by first | rfl | (rw [IntKind.wrap_i64];omega))) ?_
        refine sv 5 (.int .i64 (((i:Int)+1))) ?_
        refine sq_nil ?_
        refine k23 (Z - (i+1)) ⟨List.toArray ?l62,[]⟩ _ (by omega) ?_
        exact ⟨i+1,v51,wt,(fun i=>List.getD ?l62 i undef),rfl,rfl,(by omega),(all_succ3 hsh hrw),(by rw [hwt];exact szc_d (by rw [← hwt];exact hw0) hb96 hneq),ow51,hB⟩
     ·have hw0:¬ wt=0:=by simpa using hb54
      refine swk 74 (.bool false) [(3,75),(4,76),(5,77)] rfl (RunV.bool (x:=(wt==(0:Int))) (rvk (by kernel_rfl)) hb54) ?_
      refine sv 78 (.bool false) ?_
      refine sq_nil ?_
      refine k53 _ _ ?_
      try clear k53 K53
      refine wp_cond_false rfl ?_
      refine wp_skip ?_
      refine k52 _ _ ?_
      try clear k52 K52
      refine wp_seq_k (fun K63 k63=>?_)
      refine rg [0,1,2,3,4,5,6,7,8,9,10] ?_
      refine sv 79 (.int .i64 (wt)) ?_
      refine sw 80 (.bool false) rfl (RunV.bool (x:=(wt==(0:Int))) (rvk (by kernel_rfl)) hb54) ?_
      refine swk 81 (.bool false) [(3,82),(4,83),(5,84),(6,85),(7,86),(8,87),(9,88)] rfl (rvk (by kernel_rfl)) ?_
      refine sv 89 (.bool false) ?_
      refine sq_nil ?_
      refine k63 _ _ ?_
      try clear k63 K63
      refine wp_cond_false rfl ?_
      refine wp_skip ?_
      refine k27 _ _ ?_
      try clear k27 K27
      refine rg [0,1,2] ?_
      refine sv 32 (.int .i64 ((i:Int))) ?_
      refine sw 33 (.int .i64 (((i:Int)+1))) rfl (RunV.int (x:=IntKind.i64.wrap (((i:Int)+1))) (y:=((i:Int)+1)) (rvk (by kernel_rfl)) (by first | rfl | (rw [IntKind.wrap_i64];omega))) ?_
      refine sv 5 (.int .i64 (((i:Int)+1))) ?_
      refine sq_nil ?_
      refine k23 (Z - (i+1)) ⟨List.toArray ?l64,[]⟩ _ (by omega) ?_
      exact ⟨i+1,v51,wt,(fun i=>List.getD ?l64 i undef),rfl,rfl,(by omega),(all_succ3 hsh hrw),(by rw [hwt];exact szc_a (by rw [← hwt];exact hw0)),ow51,hB⟩
  ·have hei:Z=i:=by have:=of_decide_eq_false hb26;omega
   subst hei
   refine wp_exit ?_
   simp only [Exit.then,Exit.inBlock,↓reduceIte]
   refine k21 _ _ ?_
   try clear k21 K21
   refine wp_seq_k (fun K65 k65=>?_)
   refine wp_seq_k (fun K66 k66=>?_)
   have lehD:=Below.size hB
   have lehD_hC:=Below.size hC
   have hD:=Gr.refl w23
   refine rg [0] ?_
   refine sv 8 (.int .i64 0) ?_
   refine sq_nil ?_
   refine k66 _ _ ?_
   try clear k66 K66
   refine wp_block ?_
   refine wp_loop_inv (a:=⟨List.toArray ?l67,[]⟩) (fun n a w'=>∃ (q:Nat) (u67:Nat→Value),Z - q=n∧a=⟨[v,undef,(u23 2),vo,(.int .i64 (wt)),(.int .i64 ((Z:Int))),(u23 6),(u23 7),(.int .i64 ((q:Int))),undef,undef,undef,undef,undef,undef,undef,undef,undef,undef,undef,(u67 20),(u67 21),(u67 22),(u67 23),(u67 24),(u67 25),(.bool (decide ((8:Int)<(Z:Int)))),undef,(u67 28),(u67 29),(u67 30),(.bool (decide ((Z:Int)<(Z:Int)))),(u67 32),(u67 33),(u67 34),(u67 35),(u67 36),(u67 37),(u67 38),(u23 39),(u67 40),(u67 41),(u67 42),(u67 43),(u67 44),(u67 45),(u23 46),(u67 47),(u67 48),(u67 49),(u67 50),(u67 51),(u67 52),(u67 53),(u67 54),(u67 55),(u67 56),(u23 57),(u67 58),(u67 59),(u67 60),(u67 61),(u67 62),(u67 63),(u67 64),(u67 65),(u67 66),(u67 67),(u67 68),(u67 69),(u67 70),(u67 71),(u67 72),(u67 73),(u67 74),(u67 75),(u67 76),(u67 77),(u23 78),(u67 79),(u67 80),(u67 81),(u67 82),(u67 83),(u67 84),(u67 85),(u67 86),(u67 87),(u67 88),(u23 89),(u67 90),(u67 91),(u67 92),(u67 93),(u67 94),(u67 95),(u67 96),(u67 97),(u67 98),(u67 99),(u67 100),(u67 101),(u67 102),(u67 103),(u67 104),(u67 105),(u67 106),(u67 107),undef,undef,undef,undef,undef,undef,undef,undef,undef,undef,undef,undef,undef,undef,undef,undef,undef,undef,undef,undef,undef,undef,undef,undef,undef,undef,undef,undef,undef,undef,undef,undef,undef,undef,undef,undef,undef,undef,undef,undef,undef,undef,undef,undef,undef,undef,undef,undef,undef,undef,undef,undef,undef,undef,undef,undef,undef,undef,undef,undef,undef,undef,undef,undef,undef,undef,undef,undef,undef,undef,undef,undef,undef,undef,undef,undef,undef,undef,undef,undef,undef,undef,undef,undef,undef,undef,undef,undef,undef,undef,undef,undef,undef,undef,undef,undef,undef,undef,undef,undef,undef,undef,undef,undef,undef,undef,undef].toArray,[]⟩∧q≤Z∧Gr w23 w'∧Gr w23 w'∧Gr w w') (Z - 0) ?_ ?_
   ·exact ⟨0,(fun i=>List.getD ?l67 i undef),rfl,rfl,(Nat.zero_le _),hC,hD,hB⟩
   rintro n67 a67 w67 ⟨q,u67,rfl,rfl,hkq,hC,hD,hB⟩ K67 k67
   refine wp_seq_k (fun K68 k68=>?_)
   refine wp_seq_k (fun K69 k69=>?_)
   refine rg [0,1,2,3,4,5,6,7] ?_
   refine sv 90 (.int .i64 ((q:Int))) ?_
   refine sv 91 vo ?_
   refine sw 92 (.int .i64 ((Z:Int))) rfl (rv_lenn (e:=60) oo.sl (tb_lenz rfl) _ _ rfl rfl (by kernel_rfl)) ?_
   refine sv 93 (.bool (decide ((q:Int)<(Z:Int)))) ?_
   rcases Bool.eq_false_or_eq_true (decide ((q:Int)<(Z:Int))) with hb70 | hb70
   ·have hlq:q<Z:=by have:=of_decide_eq_true hb70;omega
    refine sw 94 (.bool true) rfl (RunV.bool (x:=decide ((q:Int)<(Z:Int))) (rvk (by kernel_rfl)) hb70) ?_
    refine sv 95 (.int .i64 (wt)) ?_
    have hb71:((wt==(0:Int)))=false:=(by rw [hwt];simpa using hbad)
    refine sw 96 (.bool false) rfl (RunV.bool (x:=(wt==(0:Int))) (rvk (by kernel_rfl)) hb71) ?_
    refine sv 97 (.bool false) ?_
    refine sq_nil ?_
    refine k69 _ _ ?_
    try clear k69 K69
    refine wp_cond_false rfl ?_
    refine wp_exit ?_
    simp only [Exit.then,Exit.inBlock,↓reduceIte]
    refine k65 _ _ ?_
    try clear k65 K65
    refine wp_seq_k (fun K72 k72=>?_)
    refine rg [0,1,2,3,4,5,6] ?_
    refine sv 109 vo ?_
    refine se ?_
    refine ec 110 (mx_Parse_s (by omega) hbad ((oo.gr (stab_rw stab_txt 61 1) hC).sl)) ?_
    rintro e73 w73 ⟨rfl,g73⟩
    refine ⟨_,rfl,?_⟩
    replace hB:=hB.trans g73
    replace hC:=hC.trans g73
    replace hD:=hD.trans g73
    simp only [p3,p4]
    refine sv 108 (.tuple #[(.slice none 0 0),(.int .i64 ((szc zl Z)))]) ?_
    refine sv 111 (.slice none 0 0) ?_
    refine sv 112 (.int .i64 ((szc zl Z))) ?_
    refine sv 9 (.slice none 0 0) ?_
    refine sv 10 (.int .i64 ((szc zl Z))) ?_
    refine sq_nil ?_
    refine k72 _ _ ?_
    try clear k72 K72
    refine wp_seq_k (fun K74 k74=>?_)
    refine rg [0,1,2,3,4,5,6,7,8] ?_
    refine se ?_
    refine eff_mk (E:=ERw (ERat 64) 71 4) ([]:List Rat) 29 49 (.slice none 0 0) 257 1 24 (some 114) rfl rfl rfl rfl (by kernel_rfl) (by kernel_rfl) (by decide) (by decide) (by decide) (fun _=>⟨_,rfl,Sl.nil _ _ _ _ none 0⟩) (fun b75 w75 g75 mk75 q75=>?_)
    have q75_hC:=Nat.le_trans (Below.size hC) q75
    have q75_hD:=Nat.le_trans (Below.size hD) q75
    replace hB:=hB.trans g75
    replace hC:=hC.trans g75
    replace hD:=hD.trans g75
    simp only [putl,p3,p4]
    refine se ?_
    refine ec 115 (mx_Size_l (R:=257) (N:=0) (m:=fun _ _=>0) (by decide) ((mk75.sl_n (List.length_replicate) (Nat.le_refl _)).cast (show _=tb (fun z0=>tb (fun z1=>(0:Rat)) 0) 257 from by kernel_rfl))) ?_
    rintro e76 w76 ⟨rfl,g76⟩
    refine ⟨_,rfl,?_⟩
    replace hB:=hB.trans g76
    replace hC:=hC.trans g76
    replace hD:=hD.trans g76
    simp only [p3,p4]
    refine sv 113 (.tuple #[(.int .i64 0),(.int .i64 0),(.int .i64 6)]) ?_
    refine sv 116 (.int .i64 0) ?_
    refine sv 117 (.int .i64 0) ?_
    refine sv 118 (.int .i64 6) ?_
    refine sv 11 (.int .i64 0) ?_
    refine sv 12 (.int .i64 0) ?_
    refine sv 13 (.int .i64 6) ?_
    refine sq_nil ?_
    refine k74 _ _ ?_
    try clear k74 K74
    refine wp_seq_k (fun K77 k77=>?_)
    refine wp_seq_k (fun K78 k78=>?_)
    refine rg [0,1,2,3,4,5,6] ?_
    refine sv 119 (.int .i64 ((szc zl Z))) ?_
    refine sv 120 (.int .i64 (wt)) ?_
    have hb79:(((szc zl Z) !=wt))=false:=(by rw [hwt];simp)
    refine sw 121 (.bool false) rfl (RunV.bool (x:=((szc zl Z) !=wt)) (rvk (by kernel_rfl)) hb79) ?_
    refine sv 122 (.bool false) ?_
    refine sv 123 (.int .i64 6) ?_
    refine sv 124 (.bool false) ?_
    refine sv 125 (.bool false) ?_
    refine sq_nil ?_
    refine k78 _ _ ?_
    try clear k78 K78
    refine wp_cond_false rfl ?_
    refine wp_skip ?_
    refine k77 _ _ ?_
    try clear k77 K77
    refine wp_seq_k (fun K80 k80=>?_)
    refine wp_seq_k (fun K81 k81=>?_)
    refine rg [0,1] ?_
    refine sv 126 (.int .i64 ((szc zl Z))) ?_
    have hb82:(((szc zl Z) !=(0:Int)))=true:=(by simpa using hbad)
    refine sw 127 (.bool true) rfl (RunV.bool (x:=((szc zl Z) !=(0:Int))) (rvk (by kernel_rfl)) hb82) ?_
    refine sq_nil ?_
    refine k81 _ _ ?_
    try clear k81 K81
    refine wp_cond_true rfl ?_
    refine wp_seq_k (fun K83 k83=>?_)
    refine rg [0,1,2,3] ?_
    refine sv 128 (.slice none 0 0) ?_
    refine sv 129 (.int .i64 0) ?_
    refine sv 130 (.bool true) ?_
    refine sv 2 (.bool true) ?_
    refine sq_nil ?_
    refine k83 _ _ ?_
    try clear k83 K83
    refine wp_ret ?_
    simp only [Exit.then]
    refine bodyPost_ret (v:=(.bool true)) (ret_tmp rfl rfl) rfl ⟨?_,hB⟩
    exact rfl
   ·have heq:Z=q:=by have:=of_decide_eq_false hb70;omega
    refine swk 94 (.bool false) [(5,95),(6,96)] rfl (RunV.bool (x:=decide ((q:Int)<(Z:Int))) (rvk (by kernel_rfl)) hb70) ?_
    refine sv 97 (.bool false) ?_
    refine sq_nil ?_
    refine k69 _ _ ?_
    try clear k69 K69
    refine wp_cond_false rfl ?_
    refine wp_exit ?_
    simp only [Exit.then,Exit.inBlock,↓reduceIte]
    refine k65 _ _ ?_
    try clear k65 K65
    refine wp_seq_k (fun K84 k84=>?_)
    refine rg [0,1,2,3,4,5,6] ?_
    refine sv 109 vo ?_
    refine se ?_
    refine ec 110 (mx_Parse_s (by omega) hbad ((oo.gr (stab_rw stab_txt 61 1) hC).sl)) ?_
    rintro e85 w85 ⟨rfl,g85⟩
    refine ⟨_,rfl,?_⟩
    replace hB:=hB.trans g85
    replace hC:=hC.trans g85
    replace hD:=hD.trans g85
    simp only [p3,p4]
    refine sv 108 (.tuple #[(.slice none 0 0),(.int .i64 ((szc zl Z)))]) ?_
    refine sv 111 (.slice none 0 0) ?_
    refine sv 112 (.int .i64 ((szc zl Z))) ?_
    refine sv 9 (.slice none 0 0) ?_
    refine sv 10 (.int .i64 ((szc zl Z))) ?_
    refine sq_nil ?_
    refine k84 _ _ ?_
    try clear k84 K84
    refine wp_seq_k (fun K86 k86=>?_)
    refine rg [0,1,2,3,4,5,6,7,8] ?_
    refine se ?_
    refine eff_mk (E:=ERw (ERat 64) 71 4) ([]:List Rat) 29 49 (.slice none 0 0) 257 1 24 (some 114) rfl rfl rfl rfl (by kernel_rfl) (by kernel_rfl) (by decide) (by decide) (by decide) (fun _=>⟨_,rfl,Sl.nil _ _ _ _ none 0⟩) (fun b87 w87 g87 mk87 q87=>?_)
    have q87_hC:=Nat.le_trans (Below.size hC) q87
    have q87_hD:=Nat.le_trans (Below.size hD) q87
    replace hB:=hB.trans g87
    replace hC:=hC.trans g87
    replace hD:=hD.trans g87
    simp only [putl,p3,p4]
    refine se ?_
    refine ec 115 (mx_Size_l (R:=257) (N:=0) (m:=fun _ _=>0) (by decide) ((mk87.sl_n (List.length_replicate) (Nat.le_refl _)).cast (show _=tb (fun z0=>tb (fun z1=>(0:Rat)) 0) 257 from by kernel_rfl))) ?_
    rintro e88 w88 ⟨rfl,g88⟩
    refine ⟨_,rfl,?_⟩
    replace hB:=hB.trans g88
    replace hC:=hC.trans g88
    replace hD:=hD.trans g88
    simp only [p3,p4]
    refine sv 113 (.tuple #[(.int .i64 0),(.int .i64 0),(.int .i64 6)]) ?_
    refine sv 116 (.int .i64 0) ?_
    refine sv 117 (.int .i64 0) ?_
    refine sv 118 (.int .i64 6) ?_
    refine sv 11 (.int .i64 0) ?_
    refine sv 12 (.int .i64 0) ?_
    refine sv 13 (.int .i64 6) ?_
    refine sq_nil ?_
    refine k86 _ _ ?_
    try clear k86 K86
    refine wp_seq_k (fun K89 k89=>?_)
    refine wp_seq_k (fun K90 k90=>?_)
    refine rg [0,1,2,3,4,5,6] ?_
    refine sv 119 (.int .i64 ((szc zl Z))) ?_
    refine sv 120 (.int .i64 (wt)) ?_
    have hb91:(((szc zl Z) !=wt))=false:=(by rw [hwt];simp)
    refine sw 121 (.bool false) rfl (RunV.bool (x:=((szc zl Z) !=wt)) (rvk (by kernel_rfl)) hb91) ?_
    refine sv 122 (.bool false) ?_
    refine sv 123 (.int .i64 6) ?_
    refine sv 124 (.bool false) ?_
    refine sv 125 (.bool false) ?_
    refine sq_nil ?_
    refine k90 _ _ ?_
    try clear k90 K90
    refine wp_cond_false rfl ?_
    refine wp_skip ?_
    refine k89 _ _ ?_
    try clear k89 K89
    refine wp_seq_k (fun K92 k92=>?_)
    refine wp_seq_k (fun K93 k93=>?_)
    refine rg [0,1] ?_
    refine sv 126 (.int .i64 ((szc zl Z))) ?_
    have hb94:(((szc zl Z) !=(0:Int)))=true:=(by simpa using hbad)
    refine sw 127 (.bool true) rfl (RunV.bool (x:=((szc zl Z) !=(0:Int))) (rvk (by kernel_rfl)) hb94) ?_
    refine sq_nil ?_
    refine k93 _ _ ?_
    try clear k93 K93
    refine wp_cond_true rfl ?_
    refine wp_seq_k (fun K95 k95=>?_)
    refine rg [0,1,2,3] ?_
    refine sv 128 (.slice none 0 0) ?_
    refine sv 129 (.int .i64 0) ?_
    refine sv 130 (.bool true) ?_
    refine sv 2 (.bool true) ?_
    refine sq_nil ?_
    refine k95 _ _ ?_
    try clear k95 K95
    refine wp_ret ?_
    simp only [Exit.then]
    refine bodyPost_ret (v:=(.bool true)) (ret_tmp rfl rfl) rfl ⟨?_,hB⟩
    exact rfl

set_option maxRecDepth 100000 in
set_option maxHeartbeats 1000000 in
theorem mz_t {TQ Z N:Nat} {v:Value} {X:Nat→Nat→List UInt8} (hN:N≤96) (hr:¬ rfe X N Z=0) {w:World} (hm:Mx w) (ht:Tab w) (hx:Sl (ESl ETxt 1) TQ 1 w v (tb (fun z0=>tb (fun z1=>(X z0 z1)) N) Z)):
    Calls Tryz.prog 5 #[v] w fun e w'=>e=.returned (.bool true)∧Gr w w':=by
 go_enter Tryz.func5,Tryz.ntmps5
 have hB:=Gr.refl w
 refine wp_seq_k (fun K10 k10=>?_)
 refine rg [0] ?_
 refine sv 2 (.bool false) ?_
 refine sq_nil ?_
 refine k10 _ _ ?_
 try clear k10 K10
 refine wp_seq_k (fun K11 k11=>?_)
 refine wp_seq_k (fun K12 k12=>?_)
 refine rg [0,1,2,3,4,5,6] ?_
 refine se ?_
 refine ec 20 (l5_known _ (hm.gr hB) (ht.gr hB)) ?_
 rintro e13 w13 ⟨rfl,g13⟩
 refine ⟨_,rfl,?_⟩
 replace hB:=hB.trans g13
 simp only [p3,p4]
 refine sv 21 (.bool false) ?_
 refine sv 22 (.bool false) ?_
 refine sv 23 v ?_
 refine sw 24 (.int .i64 ((Z:Int))) rfl (rv_lenn (e:=59) hx (tb_lenz rfl) _ _ rfl rfl (by kernel_rfl)) ?_
 refine sv 25 (.bool (decide ((8:Int)<(Z:Int)))) ?_
 refine sv 26 (.bool (decide ((8:Int)<(Z:Int)))) ?_
 refine sq_nil ?_
 refine k12 _ _ ?_
 try clear k12 K12
 refine wp_cond_split (t:=decide ((8:Int)<(Z:Int))) rfl (fun hb14=>?_) (fun hb14=>?_)
 ·have hq15:((8:Int)<(Z:Int)):=of_decide_eq_true hb14
  refine wp_seq_k (fun K16 k16=>?_)
  refine rg [0,1] ?_
  refine se ?_
  refine ec 27 (l5_known _ (hm.gr hB) (ht.gr hB)) ?_
  rintro e17 w17 ⟨rfl,g17⟩
  refine ⟨_,rfl,?_⟩
  replace hB:=hB.trans g17
  simp only [p3,p4]
  refine sv 2 (.bool true) ?_
  refine sq_nil ?_
  refine k16 _ _ ?_
  try clear k16 K16
  refine wp_ret ?_
  simp only [Exit.then]
  refine bodyPost_ret (v:=(.bool true)) (ret_tmp rfl rfl) rfl ⟨?_,hB⟩
  exact rfl
 ·have hq18:¬ ((8:Int)<(Z:Int)):=of_decide_eq_false hb14
  refine wp_skip ?_
  refine k11 _ _ ?_
  try clear k11 K11
  refine wp_seq_k (fun K19 k19=>?_)
  refine rg [0] ?_
  refine sv 3 (.slice none 0 0) ?_
  refine sq_nil ?_
  refine k19 _ _ ?_
  try clear k19 K19
  refine wp_seq_k (fun K20 k20=>?_)
  refine rg [0] ?_
  refine sv 4 (.int .i64 0) ?_
  refine sq_nil ?_
  refine k20 _ _ ?_
  try clear k20 K20
  refine wp_seq_k (fun K21 k21=>?_)
  refine wp_seq_k (fun K22 k22=>?_)
  refine rg [0] ?_
  refine sv 5 (.int .i64 0) ?_
  refine sq_nil ?_
  refine k22 _ _ ?_
  try clear k22 K22
  refine wp_block ?_
  refine wp_loop_inv (a:=⟨List.toArray ?l23,[]⟩) (fun n a w'=>∃ (i:Nat) (vo:Value) (u23:Nat→Value),Z - i=n∧a=⟨[v,undef,(u23 2),vo,(.int .i64 0),(.int .i64 ((i:Int))),(u23 6),(u23 7),undef,undef,undef,undef,undef,undef,undef,undef,undef,undef,undef,undef,(u23 20),(u23 21),(u23 22),(u23 23),(u23 24),(u23 25),(.bool (decide ((8:Int)<(Z:Int)))),undef,(u23 28),(u23 29),(u23 30),(u23 31),(u23 32),(u23 33),(u23 34),(u23 35),(u23 36),(u23 37),(u23 38),(u23 39),(u23 40),(u23 41),(u23 42),(u23 43),(u23 44),(u23 45),(u23 46),(u23 47),(u23 48),(u23 49),(u23 50),(u23 51),(u23 52),(u23 53),(u23 54),(u23 55),(u23 56),(u23 57),(u23 58),(u23 59),(u23 60),(u23 61),(u23 62),(u23 63),(u23 64),(u23 65),(u23 66),(u23 67),(u23 68),(u23 69),(u23 70),(u23 71),(u23 72),(u23 73),(u23 74),(u23 75),(u23 76),(u23 77),(u23 78),(u23 79),(u23 80),(u23 81),(u23 82),(u23 83),(u23 84),(u23 85),(u23 86),(u23 87),(u23 88),(u23 89),undef,undef,undef,undef,undef,undef,undef,undef,undef,undef,undef,undef,undef,undef,undef,undef,undef,undef,undef,undef,undef,undef,undef,undef,undef,undef,undef,undef,undef,undef,undef,undef,undef,undef,undef,undef,undef,undef,undef,undef,undef,undef,undef,undef,undef,undef,undef,undef,undef,undef,undef,undef,undef,undef,undef,undef,undef,undef,undef,undef,undef,undef,undef,undef,undef,undef,undef,undef,undef,undef,undef,undef,undef,undef,undef,undef,undef,undef,undef,undef,undef,undef,undef,undef,undef,undef,undef,undef,undef,undef,undef,undef,undef,undef,undef,undef,undef,undef,undef,undef,undef,undef,undef,undef,undef,undef,undef,undef,undef,undef,undef,undef,undef,undef,undef,undef,undef,undef,undef,undef,undef,undef,undef,undef,undef].toArray,[]⟩∧i≤Z∧(∀ r,r<i→∀ k,k<N→(X r k).length≤20)∧Ow (ERw ETxt 61 1) 60 1 w' w.heap.size vo (tb (fun z0=>tb (fun z1=>(X z0 z1)) N) i)∧Gr w w') (Z - 0) ?_ ?_
  ·exact ⟨0,(.slice none 0 0),(fun i=>List.getD ?l23 i undef),rfl,rfl,(Nat.zero_le _),(fun r h=>absurd h (Nat.not_lt_zero r)),(Ow.nil _ _ _ _ _),hB⟩
  rintro n23 a23 w23 ⟨i,vo,u23,rfl,rfl,hki,hsh,oo,hB⟩ K23 k23
  have lehC:=Below.size hB
  have hC:=Gr.refl w23
  refine wp_seq_k (fun K24 k24=>?_)
  refine wp_seq_k (fun K25 k25=>?_)
  refine rg [0,1,2,3] ?_
  refine sv 28 (.int .i64 ((i:Int))) ?_
  refine sv 29 v ?_
  refine sw 30 (.int .i64 ((Z:Int))) rfl (rv_lenn (e:=59) hx (tb_lenz rfl) _ _ rfl rfl (by kernel_rfl)) ?_
  refine sv 31 (.bool (decide ((i:Int)<(Z:Int)))) ?_
  refine sq_nil ?_
  refine k25 _ _ ?_
  try clear k25 K25
  refine wp_cond_split (t:=decide ((i:Int)<(Z:Int))) rfl (fun hb26=>?_) (fun hb26=>?_)
  ·have hli:i<Z:=by have:=of_decide_eq_true hb26;omega
   refine wp_skip ?_
   refine k24 _ _ ?_
   try clear k24 K24
   refine wp_seq_k (fun K27 k27=>?_)
   refine wp_block ?_
   refine wp_seq_k (fun K28 k28=>?_)
   refine wp_seq_k (fun K29 k29=>?_)
   refine rg [0,1,2,3,4,5] ?_
   refine sv 34 v ?_
   refine sv 35 (.int .i64 ((i:Int))) ?_
   refine sw 36 (adr v (i*1)) rfl (rv_idxn (e:=59) hx tb_len (by decide) i (by omega) _ _ _ rfl rfl rfl (by kernel_rfl) (by kernel_rfl)) ?_
   obtain ⟨_,_,⟨u30,TT30,rfl,hr30⟩,at30⟩:=Sl.get hx (by decide) (tb_get (f:=(fun z0=>tb (fun z1=>(X z0 z1)) N)) (n:=Z) (i:=i) (by omega))
   refine sw 37 u30 rfl (rv_ld1 u30 (at30.gr hB) _ _ rfl rfl (by kernel_rfl)) ?_
   refine sw 38 (.int .i64 ((N:Int))) rfl (rv_lenn (e:=9) hr30 (tb_lenz rfl) _ _ rfl rfl (by kernel_rfl)) ?_
   have hb31:(decide ((100:Int)<(N:Int)))=false:=(by simp only [decide_eq_false_iff_not];omega)
   refine sw 39 (.bool false) rfl (RunV.bool (x:=decide ((100:Int)<(N:Int))) (rvk (by kernel_rfl)) hb31) ?_
   refine sq_nil ?_
   refine k29 _ _ ?_
   try clear k29 K29
   refine wp_cond_false rfl ?_
   refine wp_skip ?_
   refine k28 _ _ ?_
   try clear k28 K28
   refine wp_seq_k (fun K32 k32=>?_)
   refine rg [0] ?_
   refine sv 6 (.slice none 0 0) ?_
   refine sq_nil ?_
   refine k32 _ _ ?_
   try clear k32 K32
   refine wp_seq_k (fun K33 k33=>?_)
   refine wp_seq_k (fun K34 k34=>?_)
   refine rg [0] ?_
   refine sv 7 (.int .i64 0) ?_
   refine sq_nil ?_
   refine k34 _ _ ?_
   try clear k34 K34
   refine wp_block ?_
   refine wp_loop_inv (a:=⟨List.toArray ?l35,[]⟩) (fun n a w'=>∃ (j:Nat) (vi:Value) (u35:Nat→Value),N - j=n∧a=⟨[v,undef,(u35 2),vo,(.int .i64 0),(.int .i64 ((i:Int))),vi,(.int .i64 ((j:Int))),undef,undef,undef,undef,undef,undef,undef,undef,undef,undef,undef,undef,(u35 20),(u35 21),(u35 22),(u35 23),(u35 24),(u35 25),(.bool (decide ((8:Int)<(Z:Int)))),undef,(u35 28),(u35 29),(u35 30),(.bool (decide ((i:Int)<(Z:Int)))),(u35 32),(u35 33),(u35 34),(u35 35),(u35 36),(u35 37),(u35 38),(.bool false),(u35 40),(u35 41),(u35 42),(u35 43),(u35 44),(u35 45),(u35 46),(u35 47),(u35 48),(u35 49),(u35 50),(u35 51),(u35 52),(u35 53),(u35 54),(u35 55),(u35 56),(u35 57),(u35 58),(u35 59),(u35 60),(u35 61),(u35 62),(u35 63),(u35 64),(u35 65),(u35 66),(u35 67),(u35 68),(u35 69),(u35 70),(u35 71),(u35 72),(u35 73),(u35 74),(u35 75),(u35 76),(u35 77),(u23 78),(u35 79),(u35 80),(u35 81),(u35 82),(u35 83),(u35 84),(u35 85),(u35 86),(u35 87),(u35 88),(u23 89),undef,undef,undef,undef,undef,undef,undef,undef,undef,undef,undef,undef,undef,undef,undef,undef,undef,undef,undef,undef,undef,undef,undef,undef,undef,undef,undef,undef,undef,undef,undef,undef,undef,undef,undef,undef,undef,undef,undef,undef,undef,undef,undef,undef,undef,undef,undef,undef,undef,undef,undef,undef,undef,undef,undef,undef,undef,undef,undef,undef,undef,undef,undef,undef,undef,undef,undef,undef,undef,undef,undef,undef,undef,undef,undef,undef,undef,undef,undef,undef,undef,undef,undef,undef,undef,undef,undef,undef,undef,undef,undef,undef,undef,undef,undef,undef,undef,undef,undef,undef,undef,undef,undef,undef,undef,undef,undef,undef,undef,undef,undef,undef,undef,undef,undef,undef,undef,undef,undef,undef,undef,undef,undef,undef,undef].toArray,[]⟩∧j≤N∧(∀ r,r<j→(X i r).length≤20)∧Ow ETxt 61 1 w' w23.heap.size vi (tb (fun z1=>(X i z1)) j)∧Gr w23 w'∧Gr w w') (N - 0) ?_ ?_
   ·exact ⟨0,(.slice none 0 0),(fun i=>List.getD ?l35 i undef),rfl,rfl,(Nat.zero_le _),(fun r h=>absurd h (Nat.not_lt_zero r)),(Ow.nil _ _ _ _ _),hC,hB⟩
   rintro n35 a35 w35 ⟨j,vi,u35,rfl,rfl,hkj,hrw,oi,hC,hB⟩ K35 k35
   have lehI:=Below.size hB
   have lehI_hC:=Below.size hC
   have hI:=Gr.refl w35
   refine wp_seq_k (fun K36 k36=>?_)
   refine wp_seq_k (fun K37 k37=>?_)
   refine rg [0,1,2,3,4,5,6] ?_
   refine sv 40 (.int .i64 ((j:Int))) ?_
   refine sv 41 v ?_
   refine sv 42 (.int .i64 ((i:Int))) ?_
   refine sw 43 (adr v (i*1)) rfl (rv_idxn (e:=59) hx tb_len (by decide) i (by omega) _ _ _ rfl rfl rfl (by kernel_rfl) (by kernel_rfl)) ?_
   refine sw 44 u30 rfl (rv_ld1 u30 (at30.gr hB) _ _ rfl rfl (by kernel_rfl)) ?_
   refine sw 45 (.int .i64 ((N:Int))) rfl (rv_lenn (e:=9) hr30 (tb_lenz rfl) _ _ rfl rfl (by kernel_rfl)) ?_
   refine sv 46 (.bool (decide ((j:Int)<(N:Int)))) ?_
   refine sq_nil ?_
   refine k37 _ _ ?_
   try clear k37 K37
   refine wp_cond_split (t:=decide ((j:Int)<(N:Int))) rfl (fun hb38=>?_) (fun hb38=>?_)
   ·have hlj:j<N:=by have:=of_decide_eq_true hb38;omega
    refine wp_skip ?_
    refine k36 _ _ ?_
    try clear k36 K36
    refine wp_seq_k (fun K39 k39=>?_)
    refine wp_block ?_
    refine wp_seq_k (fun K40 k40=>?_)
    refine wp_seq_k (fun K41 k41=>?_)
    refine rg [0,1,2,3,4,5,6,7,8] ?_
    refine sv 49 v ?_
    refine sv 50 (.int .i64 ((i:Int))) ?_
    refine sw 51 (adr v (i*1)) rfl (rv_idxn (e:=59) hx tb_len (by decide) i (by omega) _ _ _ rfl rfl rfl (by kernel_rfl) (by kernel_rfl)) ?_
    refine sw 52 u30 rfl (rv_ld1 u30 (at30.gr hB) _ _ rfl rfl (by kernel_rfl)) ?_
    refine sv 53 (.int .i64 ((j:Int))) ?_
    refine sw 54 (adr u30 (j*1)) rfl (rv_idxn (e:=9) hr30 tb_len (by decide) j (by omega) _ _ _ rfl rfl rfl (by kernel_rfl) (by kernel_rfl)) ?_
    obtain ⟨_,_,rfl,at42⟩:=Sl.get hr30 (by decide) (tb_get (f:=(fun z1=>(X i z1))) (n:=N) (i:=j) (by omega))
    refine sw 55 (.string ⟨((X i j):List UInt8).toArray⟩) rfl (rv_ld1 (.string ⟨((X i j):List UInt8).toArray⟩) (at42.gr hB) _ _ rfl rfl (by kernel_rfl)) ?_
    refine sv 56 (.int .i64 ((((X i j)).length:Int))) ?_
    refine sv 57 (.bool (decide ((20:Int)<(((X i j)).length:Int)))) ?_
    refine sq_nil ?_
    refine k41 _ _ ?_
    try clear k41 K41
    refine wp_cond_split (t:=decide ((20:Int)<(((X i j)).length:Int))) rfl (fun hb43=>?_) (fun hb43=>?_)
    ·have h20:20<(X i j).length:=by have:=of_decide_eq_true hb43;omega
     refine wp_seq_k (fun K44 k44=>?_)
     refine rg [0] ?_
     refine sv 2 (.bool true) ?_
     refine sq_nil ?_
     refine k44 _ _ ?_
     try clear k44 K44
     refine wp_ret ?_
     simp only [Exit.then,Exit.inBlock]
     refine bodyPost_ret (v:=(.bool true)) (ret_tmp rfl rfl) rfl ⟨?_,hB⟩
     exact rfl
    ·have h20:¬ 20<(X i j).length:=by have:=of_decide_eq_false hb43;omega
     refine wp_skip ?_
     refine k40 _ _ ?_
     try clear k40 K40
     refine rg [0,1,2,3,4,5,6,7,8,9,10] ?_
     refine sv 58 vi ?_
     refine sv 59 v ?_
     refine sv 60 (.int .i64 ((i:Int))) ?_
     refine sw 61 (adr v (i*1)) rfl (rv_idxn (e:=59) hx tb_len (by decide) i (by omega) _ _ _ rfl rfl rfl (by kernel_rfl) (by kernel_rfl)) ?_
     refine sw 62 u30 rfl (rv_ld1 u30 (at30.gr hB) _ _ rfl rfl (by kernel_rfl)) ?_
     refine sv 63 (.int .i64 ((j:Int))) ?_
     refine sw 64 (adr u30 (j*1)) rfl (rv_idxn (e:=9) hr30 tb_len (by decide) j (by omega) _ _ _ rfl rfl rfl (by kernel_rfl) (by kernel_rfl)) ?_
     refine sw 65 (.string ⟨((X i j):List UInt8).toArray⟩) rfl (rv_ld1 (.string ⟨((X i j):List UInt8).toArray⟩) (at42.gr hB) _ _ rfl rfl (by kernel_rfl)) ?_
     refine se ?_
     refine eff_bs 61 1 #[(.string ⟨((X i j):List UInt8).toArray⟩)] (some 66) rfl (fun _=>by kernel_rfl) (fun b45 w45 g45 L45 q45=>?_)
     have q45_hC:=Nat.le_trans (Below.size hC) q45
     have q45_hI:=Nat.le_trans (Below.size hI) q45
     replace hB:=hB.trans g45
     replace hC:=hC.trans g45
     replace hI:=hI.trans g45
     simp only [putl,p3,p4]
     refine se ?_
     refine eff_apg stab_txt _ _ 60 61 w23.heap.size (.string ⟨([]:List UInt8).toArray⟩) vi (tb (fun z1=>(X i z1)) j) b45 [(.string ⟨((X i j):List UInt8).toArray⟩)] ((X i j):List UInt8) 1 1 (some 67) 16 rfl rfl rfl rfl (oi.gr stab_txt hI) L45 ⟨rfl,trivial⟩ rfl rfl (Below.size hC) (by rw [tb_len];omega) (by decide) (by kernel_rfl) (by kernel_rfl) (by decide) (by decide) (fun v46 w46 ow46 wt46 hg46=>?_)
     replace hB:=hg46 _ hB lehC
     replace hC:=hg46 _ hC (Nat.le_refl _)
     replace ow46:=ow46.cast (tb_snoc (f:=(fun z1=>(X i z1))) (n:=j) (by first | rfl | exact fil_all))
     simp only [putl,p3,p4]
     refine sv 6 v46 ?_
     refine sq_nil ?_
     refine k39 _ _ ?_
     try clear k39 K39
     refine rg [0,1,2] ?_
     refine sv 47 (.int .i64 ((j:Int))) ?_
     refine sw 48 (.int .i64 (((j:Int)+1))) rfl (RunV.int (x:=IntKind.i64.wrap (((j:Int)+1))) (y:=((j:Int)+1)) (rvk (by kernel_rfl)) (by first | rfl | (rw [IntKind.wrap_i64];omega))) ?_
     refine sv 7 (.int .i64 (((j:Int)+1))) ?_
     refine sq_nil ?_
     refine k35 (N - (j+1)) ⟨List.toArray ?l47,[]⟩ _ (by omega) ?_
     exact ⟨j+1,v46,(fun i=>List.getD ?l47 i undef),rfl,rfl,(by omega),(all_succ3 hrw (by omega)),ow46,hC,hB⟩
   ·have hej:N=j:=by have:=of_decide_eq_false hb38;omega
    subst hej
    refine wp_exit ?_
    simp only [Exit.then,Exit.inBlock,↓reduceIte]
    refine k33 _ _ ?_
    try clear k33 K33
    refine wp_seq_k (fun K48 k48=>?_)
    refine rg [0,1,2,3,4] ?_
    refine sv 68 vo ?_
    refine sv 69 vi ?_
    refine se ?_
    refine eff_bs1 58 60 vi (some 70) rfl rfl rfl ((oi.gr stab_txt hI).sl).forms (fun _ _ _ _=>by kernel_rfl) (fun b49 w49 g49 L49 q49=>?_)
    have q49_hC:=Nat.le_trans (Below.size hC) q49
    have q49_hI:=Nat.le_trans (Below.size hI) q49
    replace hB:=hB.trans g49
    replace hC:=hC.trans g49
    replace hI:=hI.trans g49
    simp only [putl,p3,p4]
    refine se ?_
    refine eff_apg (stab_rw stab_txt 61 1) _ _ 58 60 w.heap.size (.slice none 0 0) vo (tb (fun z0=>tb (fun z1=>(X z0 z1)) N) i) b49 [vi] (tb (fun z1=>(X i z1)) N) 1 1 (some 71) 24 rfl rfl rfl rfl (oo.gr (stab_rw stab_txt 61 1) hC) L49 ⟨oi.one,trivial⟩ rfl ⟨_,rfl,((oi.gr stab_txt hI).sl)⟩ (Below.size hB) (by rw [tb_len];omega) (by decide) (by kernel_rfl) (by kernel_rfl) (by decide) (by decide) (fun v50 w50 ow50 wt50 hg50=>?_)
    replace hB:=hg50 _ hB (Nat.le_refl _)
    replace ow50:=ow50.cast (tb_snoc (f:=(fun z0=>tb (fun z1=>(X z0 z1)) N)) (n:=i) (by first | rfl | exact fil_all))
    simp only [putl,p3,p4]
    refine sv 3 v50 ?_
    refine sq_nil ?_
    refine k48 _ _ ?_
    try clear k48 K48
    refine wp_seq_k (fun K51 k51=>?_)
    refine wp_seq_k (fun K52 k52=>?_)
    refine rg [0,1,2,3,4,5,6] ?_
    refine sv 72 (.int .i64 0) ?_
    refine sv 73 (.bool true) ?_
    refine sv 74 (.bool true) ?_
    refine sv 75 vi ?_
    refine sw 76 (.int .i64 ((N:Int))) rfl (rv_lenn (e:=61) oi.sl (tb_lenz rfl) _ _ rfl rfl (by kernel_rfl)) ?_
    have hb53:(decide ((96:Int)<(N:Int)))=false:=(by simp only [decide_eq_false_iff_not];omega)
    refine sw 77 (.bool false) rfl (RunV.bool (x:=decide ((96:Int)<(N:Int))) (rvk (by kernel_rfl)) hb53) ?_
    refine sv 78 (.bool false) ?_
    refine sq_nil ?_
    refine k52 _ _ ?_
    try clear k52 K52
    refine wp_cond_false rfl ?_
    refine wp_skip ?_
    refine k51 _ _ ?_
    try clear k51 K51
    refine wp_seq_k (fun K54 k54=>?_)
    refine rg [0,1,2,3,4,5,6,7,8,9,10] ?_
    refine sv 79 (.int .i64 0) ?_
    refine sv 80 (.bool true) ?_
    refine sv 81 (.bool true) ?_
    refine sv 82 vi ?_
    refine sw 83 (.int .i64 ((N:Int))) rfl (rv_lenn (e:=61) oi.sl (tb_lenz rfl) _ _ rfl rfl (by kernel_rfl)) ?_
    refine sv 84 v ?_
    refine sw 85 (adr v (0*1)) rfl (rv_idxn (e:=59) hx tb_len (by decide) 0 (by omega) _ _ _ rfl rfl rfl (by kernel_rfl) (by kernel_rfl)) ?_
    obtain ⟨_,_,⟨u55,TT55,rfl,hr55⟩,at55⟩:=Sl.get hx (by decide) (tb_get (f:=(fun z0=>tb (fun z1=>(X z0 z1)) N)) (n:=Z) (i:=0) (by omega))
    refine sw 86 u55 rfl (rv_ld1 u55 (at55.gr hB) _ _ rfl rfl (by kernel_rfl)) ?_
    refine sw 87 (.int .i64 ((N:Int))) rfl (rv_lenn (e:=9) hr55 (tb_lenz rfl) _ _ rfl rfl (by kernel_rfl)) ?_
    have hb56:(((N:Int) !=(N:Int)))=false:=(by simp)
    refine sw 88 (.bool false) rfl (RunV.bool (x:=((N:Int) !=(N:Int))) (rvk (by kernel_rfl)) hb56) ?_
    refine sv 89 (.bool false) ?_
    refine sq_nil ?_
    refine k54 _ _ ?_
    try clear k54 K54
    refine wp_cond_false rfl ?_
    refine wp_skip ?_
    refine k27 _ _ ?_
    try clear k27 K27
    refine rg [0,1,2] ?_
    refine sv 32 (.int .i64 ((i:Int))) ?_
    refine sw 33 (.int .i64 (((i:Int)+1))) rfl (RunV.int (x:=IntKind.i64.wrap (((i:Int)+1))) (y:=((i:Int)+1)) (rvk (by kernel_rfl)) (by first | rfl | (rw [IntKind.wrap_i64];omega))) ?_
    refine sv 5 (.int .i64 (((i:Int)+1))) ?_
    refine sq_nil ?_
    refine k23 (Z - (i+1)) ⟨List.toArray ?l57,[]⟩ _ (by omega) ?_
    exact ⟨i+1,v50,(fun i=>List.getD ?l57 i undef),rfl,rfl,(by omega),(all_succ3 hsh hrw),ow50,hB⟩
  ·have hei:Z=i:=by have:=of_decide_eq_false hb26;omega
   subst hei
   refine wp_exit ?_
   simp only [Exit.then,Exit.inBlock,↓reduceIte]
   refine k21 _ _ ?_
   try clear k21 K21
   refine wp_seq_k (fun K58 k58=>?_)
   refine wp_seq_k (fun K59 k59=>?_)
   have lehD:=Below.size hB
   have lehD_hC:=Below.size hC
   have hD:=Gr.refl w23
   refine rg [0] ?_
   refine sv 8 (.int .i64 0) ?_
   refine sq_nil ?_
   refine k59 _ _ ?_
   try clear k59 K59
   refine wp_block ?_
   refine wp_loop_inv (a:=⟨List.toArray ?l60,[]⟩) (fun n a w'=>∃ (q:Nat) (wu:Int) (u60:Nat→Value),Z - q=n∧a=⟨[v,undef,(u23 2),vo,(.int .i64 (wu)),(.int .i64 ((Z:Int))),(u23 6),(u23 7),(.int .i64 ((q:Int))),undef,undef,undef,undef,undef,undef,undef,undef,undef,undef,undef,(u60 20),(u60 21),(u60 22),(u60 23),(u60 24),(u60 25),(.bool (decide ((8:Int)<(Z:Int)))),undef,(u60 28),(u60 29),(u60 30),(.bool (decide ((Z:Int)<(Z:Int)))),(u60 32),(u60 33),(u60 34),(u60 35),(u60 36),(u60 37),(u60 38),(u23 39),(u60 40),(u60 41),(u60 42),(u60 43),(u60 44),(u60 45),(u23 46),(u60 47),(u60 48),(u60 49),(u60 50),(u60 51),(u60 52),(u60 53),(u60 54),(u60 55),(u60 56),(u23 57),(u60 58),(u60 59),(u60 60),(u60 61),(u60 62),(u60 63),(u60 64),(u60 65),(u60 66),(u60 67),(u60 68),(u60 69),(u60 70),(u60 71),(u60 72),(u60 73),(u60 74),(u60 75),(u60 76),(u60 77),(u23 78),(u60 79),(u60 80),(u60 81),(u60 82),(u60 83),(u60 84),(u60 85),(u60 86),(u60 87),(u60 88),(u23 89),(u60 90),(u60 91),(u60 92),(u60 93),(u60 94),(u60 95),(u60 96),(u60 97),(u60 98),(u60 99),(u60 100),(u60 101),(u60 102),(u60 103),(u60 104),(u60 105),(u60 106),(u60 107),undef,undef,undef,undef,undef,undef,undef,undef,undef,undef,undef,undef,undef,undef,undef,undef,undef,undef,undef,undef,undef,undef,undef,undef,undef,undef,undef,undef,undef,undef,undef,undef,undef,undef,undef,undef,undef,undef,undef,undef,undef,undef,undef,undef,undef,undef,undef,undef,undef,undef,undef,undef,undef,undef,undef,undef,undef,undef,undef,undef,undef,undef,undef,undef,undef,undef,undef,undef,undef,undef,undef,undef,undef,undef,undef,undef,undef,undef,undef,undef,undef,undef,undef,undef,undef,undef,undef,undef,undef,undef,undef,undef,undef,undef,undef,undef,undef,undef,undef,undef,undef,undef,undef,undef,undef,undef,undef].toArray,[]⟩∧q≤Z∧wu=rfe X N q∧Gr w23 w'∧Gr w23 w'∧Gr w w') (Z - 0) ?_ ?_
   ·exact ⟨0,0,(fun i=>List.getD ?l60 i undef),rfl,rfl,(Nat.zero_le _),rfl,hC,hD,hB⟩
   rintro n60 a60 w60 ⟨q,wu,u60,rfl,rfl,hkq,hwu,hC,hD,hB⟩ K60 k60
   refine wp_seq_k (fun K61 k61=>?_)
   refine wp_seq_k (fun K62 k62=>?_)
   refine rg [0,1,2,3,4,5,6,7] ?_
   refine sv 90 (.int .i64 ((q:Int))) ?_
   refine sv 91 vo ?_
   refine sw 92 (.int .i64 ((Z:Int))) rfl (rv_lenn (e:=60) oo.sl (tb_lenz rfl) _ _ rfl rfl (by kernel_rfl)) ?_
   refine sv 93 (.bool (decide ((q:Int)<(Z:Int)))) ?_
   rcases Bool.eq_false_or_eq_true (decide ((q:Int)<(Z:Int))) with hb63 | hb63
   ·have hlq:q<Z:=by have:=of_decide_eq_true hb63;omega
    refine sw 94 (.bool true) rfl (RunV.bool (x:=decide ((q:Int)<(Z:Int))) (rvk (by kernel_rfl)) hb63) ?_
    refine sv 95 (.int .i64 (wu)) ?_
    refine sv 96 (.bool ((wu==(0:Int)))) ?_
    refine sv 97 (.bool ((wu==(0:Int)))) ?_
    refine sq_nil ?_
    refine k62 _ _ ?_
    try clear k62 K62
    refine wp_cond_split (t:=(wu==(0:Int))) rfl (fun hb64=>?_) (fun hb64=>?_)
    ·have hu0:wu=0:=by simpa using hb64
     refine wp_skip ?_
     refine k61 _ _ ?_
     try clear k61 K61
     refine wp_seq_k (fun K65 k65=>?_)
     refine wp_block ?_
     refine rg [0,1,2,3,4,5,6,7,8] ?_
     refine sv 101 vo ?_
     refine sv 102 (.int .i64 ((q:Int))) ?_
     refine sw 103 (adr vo (q*1)) rfl (rv_idxn (e:=60) oo.sl tb_len (by decide) q (by omega) _ _ _ rfl rfl rfl (by kernel_rfl) (by kernel_rfl)) ?_
     obtain ⟨_,_,⟨u66,rfl,hr66⟩,at66⟩:=Sl.get oo.sl (by decide) (tb_get (f:=(fun z0=>tb (fun z1=>(X z0 z1)) N)) (n:=Z) (i:=q) (by omega))
     refine sw 104 u66 rfl (rv_ld1 u66 (at66.gr hC) _ _ rfl rfl (by kernel_rfl)) ?_
     refine se ?_
     refine ec 105 (parses_1 (by omega) (hsh q hlq) (hr66.gr stab_txt hC) (hm.gr hB)) ?_
     rintro e67 w67 ⟨⟨u67,rfl,hs67⟩,g67⟩
     refine ⟨_,rfl,?_⟩
     replace hB:=hB.trans g67
     replace hC:=hC.trans g67
     replace hD:=hD.trans g67
     simp only [p3,p4]
     refine sv 100 (.tuple #[u67,(.int .i64 ((ferr (tb (X q) N))))]) ?_
     refine sv 106 u67 ?_
     refine sv 107 (.int .i64 ((ferr (tb (X q) N)))) ?_
     refine sv 4 (.int .i64 ((ferr (tb (X q) N)))) ?_
     refine sq_nil ?_
     refine k65 _ _ ?_
     try clear k65 K65
     refine rg [0,1,2] ?_
     refine sv 98 (.int .i64 ((q:Int))) ?_
     refine sw 99 (.int .i64 (((q:Int)+1))) rfl (RunV.int (x:=IntKind.i64.wrap (((q:Int)+1))) (y:=((q:Int)+1)) (rvk (by kernel_rfl)) (by first | rfl | (rw [IntKind.wrap_i64];omega))) ?_
     refine sv 8 (.int .i64 (((q:Int)+1))) ?_
     refine sq_nil ?_
     refine k60 (Z - (q+1)) ⟨List.toArray ?l68,[]⟩ _ (by omega) ?_
     exact ⟨q+1,(ferr (tb (X q) N)),(fun i=>List.getD ?l68 i undef),rfl,rfl,(by omega),(rfe_b (by rw [← hwu];exact hu0)),hC,hD,hB⟩
    ·have hu0:¬ wu=0:=by simpa using hb64
     refine wp_exit ?_
     simp only [Exit.then,Exit.inBlock,↓reduceIte]
     refine k58 _ _ ?_
     try clear k58 K58
     refine wp_seq_k (fun K69 k69=>?_)
     refine rg [0,1,2,3,4,5,6] ?_
     refine sv 109 vo ?_
     refine se ?_
     refine ec 110 (mx_Parse_1 (by omega) hN hsh hr (hm.gr hB) ((oo.gr (stab_rw stab_txt 61 1) hC).sl)) ?_
     rintro e70 w70 ⟨rfl,g70⟩
     refine ⟨_,rfl,?_⟩
     replace hB:=hB.trans g70
     replace hC:=hC.trans g70
     replace hD:=hD.trans g70
     simp only [p3,p4]
     refine sv 108 (.tuple #[(.slice none 0 0),(.int .i64 ((rfe X N Z)))]) ?_
     refine sv 111 (.slice none 0 0) ?_
     refine sv 112 (.int .i64 ((rfe X N Z))) ?_
     refine sv 9 (.slice none 0 0) ?_
     refine sv 10 (.int .i64 ((rfe X N Z))) ?_
     refine sq_nil ?_
     refine k69 _ _ ?_
     try clear k69 K69
     refine wp_seq_k (fun K71 k71=>?_)
     refine rg [0,1,2,3,4,5,6,7,8] ?_
     refine se ?_
     refine eff_mk (E:=ERw (ERat 64) 71 4) ([]:List Rat) 29 49 (.slice none 0 0) 257 1 24 (some 114) rfl rfl rfl rfl (by kernel_rfl) (by kernel_rfl) (by decide) (by decide) (by decide) (fun _=>⟨_,rfl,Sl.nil _ _ _ _ none 0⟩) (fun b72 w72 g72 mk72 q72=>?_)
     have q72_hC:=Nat.le_trans (Below.size hC) q72
     have q72_hD:=Nat.le_trans (Below.size hD) q72
     replace hB:=hB.trans g72
     replace hC:=hC.trans g72
     replace hD:=hD.trans g72
     simp only [putl,p3,p4]
     refine se ?_
     refine ec 115 (mx_Size_l (R:=257) (N:=0) (m:=fun _ _=>0) (by decide) ((mk72.sl_n (List.length_replicate) (Nat.le_refl _)).cast (show _=tb (fun z0=>tb (fun z1=>(0:Rat)) 0) 257 from by kernel_rfl))) ?_
     rintro e73 w73 ⟨rfl,g73⟩
     refine ⟨_,rfl,?_⟩
     replace hB:=hB.trans g73
     replace hC:=hC.trans g73
     replace hD:=hD.trans g73
     simp only [p3,p4]
     refine sv 113 (.tuple #[(.int .i64 0),(.int .i64 0),(.int .i64 6)]) ?_
     refine sv 116 (.int .i64 0) ?_
     refine sv 117 (.int .i64 0) ?_
     refine sv 118 (.int .i64 6) ?_
     refine sv 11 (.int .i64 0) ?_
     refine sv 12 (.int .i64 0) ?_
     refine sv 13 (.int .i64 6) ?_
     refine sq_nil ?_
     refine k71 _ _ ?_
     try clear k71 K71
     refine wp_seq_k (fun K74 k74=>?_)
     refine wp_seq_k (fun K75 k75=>?_)
     refine rg [0,1,2,3,4,5,6] ?_
     refine sv 119 (.int .i64 ((rfe X N Z))) ?_
     refine sv 120 (.int .i64 (wu)) ?_
     have hb76:(((rfe X N Z) !=wu))=false:=(by rw [hwu,rfe_stay (k:=q) (by rw [← hwu];exact hu0) (by omega)];simp)
     refine sw 121 (.bool false) rfl (RunV.bool (x:=((rfe X N Z) !=wu)) (rvk (by kernel_rfl)) hb76) ?_
     refine sv 122 (.bool false) ?_
     refine sv 123 (.int .i64 6) ?_
     refine sv 124 (.bool false) ?_
     refine sv 125 (.bool false) ?_
     refine sq_nil ?_
     refine k75 _ _ ?_
     try clear k75 K75
     refine wp_cond_false rfl ?_
     refine wp_skip ?_
     refine k74 _ _ ?_
     try clear k74 K74
     refine wp_seq_k (fun K77 k77=>?_)
     refine wp_seq_k (fun K78 k78=>?_)
     refine rg [0,1] ?_
     refine sv 126 (.int .i64 ((rfe X N Z))) ?_
     have hb79:(((rfe X N Z) !=(0:Int)))=true:=(by simpa using hr)
     refine sw 127 (.bool true) rfl (RunV.bool (x:=((rfe X N Z) !=(0:Int))) (rvk (by kernel_rfl)) hb79) ?_
     refine sq_nil ?_
     refine k78 _ _ ?_
     try clear k78 K78
     refine wp_cond_true rfl ?_
     refine wp_seq_k (fun K80 k80=>?_)
     refine rg [0,1,2,3] ?_
     refine sv 128 (.slice none 0 0) ?_
     refine sv 129 (.int .i64 0) ?_
     refine sv 130 (.bool true) ?_
     refine sv 2 (.bool true) ?_
     refine sq_nil ?_
     refine k80 _ _ ?_
     try clear k80 K80
     refine wp_ret ?_
     simp only [Exit.then]
     refine bodyPost_ret (v:=(.bool true)) (ret_tmp rfl rfl) rfl ⟨?_,hB⟩
     exact rfl
   ·have heq:Z=q:=by have:=of_decide_eq_false hb63;omega
    refine swk 94 (.bool false) [(5,95),(6,96)] rfl (RunV.bool (x:=decide ((q:Int)<(Z:Int))) (rvk (by kernel_rfl)) hb63) ?_
    refine sv 97 (.bool false) ?_
    refine sq_nil ?_
    refine k62 _ _ ?_
    try clear k62 K62
    refine wp_cond_false rfl ?_
    refine wp_exit ?_
    simp only [Exit.then,Exit.inBlock,↓reduceIte]
    refine k58 _ _ ?_
    try clear k58 K58
    refine wp_seq_k (fun K81 k81=>?_)
    refine rg [0,1,2,3,4,5,6] ?_
    refine sv 109 vo ?_
    refine se ?_
    refine ec 110 (mx_Parse_1 (by omega) hN hsh hr (hm.gr hB) ((oo.gr (stab_rw stab_txt 61 1) hC).sl)) ?_
    rintro e82 w82 ⟨rfl,g82⟩
    refine ⟨_,rfl,?_⟩
    replace hB:=hB.trans g82
    replace hC:=hC.trans g82
    replace hD:=hD.trans g82
    simp only [p3,p4]
    refine sv 108 (.tuple #[(.slice none 0 0),(.int .i64 ((rfe X N Z)))]) ?_
    refine sv 111 (.slice none 0 0) ?_
    refine sv 112 (.int .i64 ((rfe X N Z))) ?_
    refine sv 9 (.slice none 0 0) ?_
    refine sv 10 (.int .i64 ((rfe X N Z))) ?_
    refine sq_nil ?_
    refine k81 _ _ ?_
    try clear k81 K81
    refine wp_seq_k (fun K83 k83=>?_)
    refine rg [0,1,2,3,4,5,6,7,8] ?_
    refine se ?_
    refine eff_mk (E:=ERw (ERat 64) 71 4) ([]:List Rat) 29 49 (.slice none 0 0) 257 1 24 (some 114) rfl rfl rfl rfl (by kernel_rfl) (by kernel_rfl) (by decide) (by decide) (by decide) (fun _=>⟨_,rfl,Sl.nil _ _ _ _ none 0⟩) (fun b84 w84 g84 mk84 q84=>?_)
    have q84_hC:=Nat.le_trans (Below.size hC) q84
    have q84_hD:=Nat.le_trans (Below.size hD) q84
    replace hB:=hB.trans g84
    replace hC:=hC.trans g84
    replace hD:=hD.trans g84
    simp only [putl,p3,p4]
    refine se ?_
    refine ec 115 (mx_Size_l (R:=257) (N:=0) (m:=fun _ _=>0) (by decide) ((mk84.sl_n (List.length_replicate) (Nat.le_refl _)).cast (show _=tb (fun z0=>tb (fun z1=>(0:Rat)) 0) 257 from by kernel_rfl))) ?_
    rintro e85 w85 ⟨rfl,g85⟩
    refine ⟨_,rfl,?_⟩
    replace hB:=hB.trans g85
    replace hC:=hC.trans g85
    replace hD:=hD.trans g85
    simp only [p3,p4]
    refine sv 113 (.tuple #[(.int .i64 0),(.int .i64 0),(.int .i64 6)]) ?_
    refine sv 116 (.int .i64 0) ?_
    refine sv 117 (.int .i64 0) ?_
    refine sv 118 (.int .i64 6) ?_
    refine sv 11 (.int .i64 0) ?_
    refine sv 12 (.int .i64 0) ?_
    refine sv 13 (.int .i64 6) ?_
    refine sq_nil ?_
    refine k83 _ _ ?_
    try clear k83 K83
    refine wp_seq_k (fun K86 k86=>?_)
    refine wp_seq_k (fun K87 k87=>?_)
    refine rg [0,1,2,3,4,5,6] ?_
    refine sv 119 (.int .i64 ((rfe X N Z))) ?_
    refine sv 120 (.int .i64 (wu)) ?_
    have hb88:(((rfe X N Z) !=wu))=false:=(by rw [hwu,heq];simp)
    refine sw 121 (.bool false) rfl (RunV.bool (x:=((rfe X N Z) !=wu)) (rvk (by kernel_rfl)) hb88) ?_
    refine sv 122 (.bool false) ?_
    refine sv 123 (.int .i64 6) ?_
    refine sv 124 (.bool false) ?_
    refine sv 125 (.bool false) ?_
    refine sq_nil ?_
    refine k87 _ _ ?_
    try clear k87 K87
    refine wp_cond_false rfl ?_
    refine wp_skip ?_
    refine k86 _ _ ?_
    try clear k86 K86
    refine wp_seq_k (fun K89 k89=>?_)
    refine wp_seq_k (fun K90 k90=>?_)
    refine rg [0,1] ?_
    refine sv 126 (.int .i64 ((rfe X N Z))) ?_
    have hb91:(((rfe X N Z) !=(0:Int)))=true:=(by simpa using hr)
    refine sw 127 (.bool true) rfl (RunV.bool (x:=((rfe X N Z) !=(0:Int))) (rvk (by kernel_rfl)) hb91) ?_
    refine sq_nil ?_
    refine k90 _ _ ?_
    try clear k90 K90
    refine wp_cond_true rfl ?_
    refine wp_seq_k (fun K92 k92=>?_)
    refine rg [0,1,2,3] ?_
    refine sv 128 (.slice none 0 0) ?_
    refine sv 129 (.int .i64 0) ?_
    refine sv 130 (.bool true) ?_
    refine sv 2 (.bool true) ?_
    refine sq_nil ?_
    refine k92 _ _ ?_
    try clear k92 K92
    refine wp_ret ?_
    simp only [Exit.then]
    refine bodyPost_ret (v:=(.bool true)) (ret_tmp rfl rfl) rfl ⟨?_,hB⟩
    exact rfl

set_option maxRecDepth 100000 in
set_option maxHeartbeats 1000000 in
theorem mz_0 {TQ:Nat} {v:Value} {X:Nat→Nat→List UInt8} {w:World} (hm:Mx w) (ht:Tab w) (hx:Sl (ESl ETxt 1) TQ 1 w v (tb (fun z0=>tb (fun z1=>(X z0 z1)) 0) 0)):
    Calls Tryz.prog 5 #[v] w fun e w'=>e=.returned (.bool true)∧Gr w w':=by
 go_enter Tryz.func5,Tryz.ntmps5
 have hB:=Gr.refl w
 refine wp_seq_k (fun K10 k10=>?_)
 refine rg [0] ?_
 refine sv 2 (.bool false) ?_
 refine sq_nil ?_
 refine k10 _ _ ?_
 try clear k10 K10
 refine wp_seq_k (fun K11 k11=>?_)
 refine wp_seq_k (fun K12 k12=>?_)
 refine rg [0,1,2,3,4,5,6] ?_
 refine se ?_
 refine ec 20 (l5_known _ (hm.gr hB) (ht.gr hB)) ?_
 rintro e13 w13 ⟨rfl,g13⟩
 refine ⟨_,rfl,?_⟩
 replace hB:=hB.trans g13
 simp only [p3,p4]
 refine sv 21 (.bool false) ?_
 refine sv 22 (.bool false) ?_
 refine sv 23 v ?_
 refine sw 24 (.int .i64 0) rfl (rv_lenn (e:=59) hx (tb_lenz rfl) _ _ rfl rfl (by kernel_rfl)) ?_
 refine sv 25 (.bool false) ?_
 refine sv 26 (.bool false) ?_
 refine sq_nil ?_
 refine k12 _ _ ?_
 try clear k12 K12
 refine wp_cond_false rfl ?_
 refine wp_skip ?_
 refine k11 _ _ ?_
 try clear k11 K11
 refine wp_seq_k (fun K14 k14=>?_)
 refine rg [0] ?_
 refine sv 3 (.slice none 0 0) ?_
 refine sq_nil ?_
 refine k14 _ _ ?_
 try clear k14 K14
 refine wp_seq_k (fun K15 k15=>?_)
 refine rg [0] ?_
 refine sv 4 (.int .i64 0) ?_
 refine sq_nil ?_
 refine k15 _ _ ?_
 try clear k15 K15
 refine wp_seq_k (fun K16 k16=>?_)
 refine wp_seq_k (fun K17 k17=>?_)
 refine rg [0] ?_
 refine sv 5 (.int .i64 0) ?_
 refine sq_nil ?_
 refine k17 _ _ ?_
 try clear k17 K17
 refine wp_block ?_
 refine wp_loop_inv (a:=⟨List.toArray ?l18,[]⟩) (fun n a w'=>∃ (i:Nat) (vo:Value) (u18:Nat→Value),0 - i=n∧a=⟨[v,undef,(u18 2),vo,(.int .i64 0),(.int .i64 ((i:Int))),(u18 6),(u18 7),undef,undef,undef,undef,undef,undef,undef,undef,undef,undef,undef,undef,(u18 20),(u18 21),(u18 22),(u18 23),(u18 24),(u18 25),(.bool false),undef,(u18 28),(u18 29),(u18 30),(u18 31),(u18 32),(u18 33),(u18 34),(u18 35),(u18 36),(u18 37),(u18 38),(u18 39),(u18 40),(u18 41),(u18 42),(u18 43),(u18 44),(u18 45),(u18 46),(u18 47),(u18 48),(u18 49),(u18 50),(u18 51),(u18 52),(u18 53),(u18 54),(u18 55),(u18 56),(u18 57),(u18 58),(u18 59),(u18 60),(u18 61),(u18 62),(u18 63),(u18 64),(u18 65),(u18 66),(u18 67),(u18 68),(u18 69),(u18 70),(u18 71),(u18 72),(u18 73),(u18 74),(u18 75),(u18 76),(u18 77),(u18 78),(u18 79),(u18 80),(u18 81),(u18 82),(u18 83),(u18 84),(u18 85),(u18 86),(u18 87),(u18 88),(u18 89),undef,undef,undef,undef,undef,undef,undef,undef,undef,undef,undef,undef,undef,undef,undef,undef,undef,undef,undef,undef,undef,undef,undef,undef,undef,undef,undef,undef,undef,undef,undef,undef,undef,undef,undef,undef,undef,undef,undef,undef,undef,undef,undef,undef,undef,undef,undef,undef,undef,undef,undef,undef,undef,undef,undef,undef,undef,undef,undef,undef,undef,undef,undef,undef,undef,undef,undef,undef,undef,undef,undef,undef,undef,undef,undef,undef,undef,undef,undef,undef,undef,undef,undef,undef,undef,undef,undef,undef,undef,undef,undef,undef,undef,undef,undef,undef,undef,undef,undef,undef,undef,undef,undef,undef,undef,undef,undef,undef,undef,undef,undef,undef,undef,undef,undef,undef,undef,undef,undef,undef,undef,undef,undef,undef,undef].toArray,[]⟩∧i≤0∧(∀ r,r<i→∀ k,k<0→(X r k).length≤20)∧Ow (ERw ETxt 61 1) 60 1 w' w.heap.size vo (tb (fun z0=>tb (fun z1=>(X z0 z1)) 0) i)∧Gr w w') (0 - 0) ?_ ?_
 ·exact ⟨0,(.slice none 0 0),(fun i=>List.getD ?l18 i undef),rfl,rfl,(Nat.zero_le _),(fun r h=>absurd h (Nat.not_lt_zero r)),(Ow.nil _ _ _ _ _),hB⟩
 rintro n18 a18 w18 ⟨i,vo,u18,rfl,rfl,hki,hsh,oo,hB⟩ K18 k18
 have lehC:=Below.size hB
 have hC:=Gr.refl w18
 refine wp_seq_k (fun K19 k19=>?_)
 refine wp_seq_k (fun K20 k20=>?_)
 refine rg [0,1,2,3] ?_
 refine sv 28 (.int .i64 ((i:Int))) ?_
 refine sv 29 v ?_
 refine sw 30 (.int .i64 0) rfl (rv_lenn (e:=59) hx (tb_lenz rfl) _ _ rfl rfl (by kernel_rfl)) ?_
 refine sv 31 (.bool (decide ((i:Int)<(0:Int)))) ?_
 refine sq_nil ?_
 refine k20 _ _ ?_
 try clear k20 K20
 refine wp_cond_split (t:=decide ((i:Int)<(0:Int))) rfl (fun hb21=>?_) (fun hb21=>?_)
 ·have hli:i<0:=by have:=of_decide_eq_true hb21;omega
  refine wp_skip ?_
  refine k19 _ _ ?_
  try clear k19 K19
  refine wp_seq_k (fun K22 k22=>?_)
  refine wp_block ?_
  refine wp_seq_k (fun K23 k23=>?_)
  refine wp_seq_k (fun K24 k24=>?_)
  refine rg [0,1,2,3,4,5] ?_
  refine sv 34 v ?_
  refine sv 35 (.int .i64 ((i:Int))) ?_
  refine sw 36 (adr v (i*1)) rfl (rv_idxn (e:=59) hx tb_len (by decide) i (by omega) _ _ _ rfl rfl rfl (by kernel_rfl) (by kernel_rfl)) ?_
  obtain ⟨_,_,⟨u25,TT25,rfl,hr25⟩,at25⟩:=Sl.get hx (by decide) (tb_get (f:=(fun z0=>tb (fun z1=>(X z0 z1)) 0)) (n:=0) (i:=i) (by omega))
  refine sw 37 u25 rfl (rv_ld1 u25 (at25.gr hB) _ _ rfl rfl (by kernel_rfl)) ?_
  refine sw 38 (.int .i64 0) rfl (rv_lenn (e:=9) hr25 (tb_lenz rfl) _ _ rfl rfl (by kernel_rfl)) ?_
  refine sv 39 (.bool false) ?_
  refine sq_nil ?_
  refine k24 _ _ ?_
  try clear k24 K24
  refine wp_cond_false rfl ?_
  refine wp_skip ?_
  refine k23 _ _ ?_
  try clear k23 K23
  refine wp_seq_k (fun K26 k26=>?_)
  refine rg [0] ?_
  refine sv 6 (.slice none 0 0) ?_
  refine sq_nil ?_
  refine k26 _ _ ?_
  try clear k26 K26
  refine wp_seq_k (fun K27 k27=>?_)
  refine wp_seq_k (fun K28 k28=>?_)
  refine rg [0] ?_
  refine sv 7 (.int .i64 0) ?_
  refine sq_nil ?_
  refine k28 _ _ ?_
  try clear k28 K28
  refine wp_block ?_
  refine wp_loop_inv (a:=⟨List.toArray ?l29,[]⟩) (fun n a w'=>∃ (j:Nat) (vi:Value) (u29:Nat→Value),0 - j=n∧a=⟨[v,undef,(u29 2),vo,(.int .i64 0),(.int .i64 ((i:Int))),vi,(.int .i64 ((j:Int))),undef,undef,undef,undef,undef,undef,undef,undef,undef,undef,undef,undef,(u29 20),(u29 21),(u29 22),(u29 23),(u29 24),(u29 25),(.bool false),undef,(u29 28),(u29 29),(u29 30),(.bool (decide ((i:Int)<(0:Int)))),(u29 32),(u29 33),(u29 34),(u29 35),(u29 36),(u29 37),(u29 38),(.bool false),(u29 40),(u29 41),(u29 42),(u29 43),(u29 44),(u29 45),(u29 46),(u29 47),(u29 48),(u29 49),(u29 50),(u29 51),(u29 52),(u29 53),(u29 54),(u29 55),(u29 56),(u29 57),(u29 58),(u29 59),(u29 60),(u29 61),(u29 62),(u29 63),(u29 64),(u29 65),(u29 66),(u29 67),(u29 68),(u29 69),(u29 70),(u29 71),(u29 72),(u29 73),(u29 74),(u29 75),(u29 76),(u29 77),(u18 78),(u29 79),(u29 80),(u29 81),(u29 82),(u29 83),(u29 84),(u29 85),(u29 86),(u29 87),(u29 88),(u18 89),undef,undef,undef,undef,undef,undef,undef,undef,undef,undef,undef,undef,undef,undef,undef,undef,undef,undef,undef,undef,undef,undef,undef,undef,undef,undef,undef,undef,undef,undef,undef,undef,undef,undef,undef,undef,undef,undef,undef,undef,undef,undef,undef,undef,undef,undef,undef,undef,undef,undef,undef,undef,undef,undef,undef,undef,undef,undef,undef,undef,undef,undef,undef,undef,undef,undef,undef,undef,undef,undef,undef,undef,undef,undef,undef,undef,undef,undef,undef,undef,undef,undef,undef,undef,undef,undef,undef,undef,undef,undef,undef,undef,undef,undef,undef,undef,undef,undef,undef,undef,undef,undef,undef,undef,undef,undef,undef,undef,undef,undef,undef,undef,undef,undef,undef,undef,undef,undef,undef,undef,undef,undef,undef,undef,undef].toArray,[]⟩∧j≤0∧(∀ r,r<j→(X i r).length≤20)∧Ow ETxt 61 1 w' w18.heap.size vi (tb (fun z1=>(X i z1)) j)∧Gr w18 w'∧Gr w w') (0 - 0) ?_ ?_
  ·exact ⟨0,(.slice none 0 0),(fun i=>List.getD ?l29 i undef),rfl,rfl,(Nat.zero_le _),(fun r h=>absurd h (Nat.not_lt_zero r)),(Ow.nil _ _ _ _ _),hC,hB⟩
  rintro n29 a29 w29 ⟨j,vi,u29,rfl,rfl,hkj,hrw,oi,hC,hB⟩ K29 k29
  have lehI:=Below.size hB
  have lehI_hC:=Below.size hC
  have hI:=Gr.refl w29
  refine wp_seq_k (fun K30 k30=>?_)
  refine wp_seq_k (fun K31 k31=>?_)
  refine rg [0,1,2,3,4,5,6] ?_
  refine sv 40 (.int .i64 ((j:Int))) ?_
  refine sv 41 v ?_
  refine sv 42 (.int .i64 ((i:Int))) ?_
  refine sw 43 (adr v (i*1)) rfl (rv_idxn (e:=59) hx tb_len (by decide) i (by omega) _ _ _ rfl rfl rfl (by kernel_rfl) (by kernel_rfl)) ?_
  refine sw 44 u25 rfl (rv_ld1 u25 (at25.gr hB) _ _ rfl rfl (by kernel_rfl)) ?_
  refine sw 45 (.int .i64 0) rfl (rv_lenn (e:=9) hr25 (tb_lenz rfl) _ _ rfl rfl (by kernel_rfl)) ?_
  refine sv 46 (.bool (decide ((j:Int)<(0:Int)))) ?_
  refine sq_nil ?_
  refine k31 _ _ ?_
  try clear k31 K31
  refine wp_cond_split (t:=decide ((j:Int)<(0:Int))) rfl (fun hb32=>?_) (fun hb32=>?_)
  ·have hlj:j<0:=by have:=of_decide_eq_true hb32;omega
   refine wp_skip ?_
   refine k30 _ _ ?_
   try clear k30 K30
   refine wp_seq_k (fun K33 k33=>?_)
   refine wp_block ?_
   refine wp_seq_k (fun K34 k34=>?_)
   refine wp_seq_k (fun K35 k35=>?_)
   refine rg [0,1,2,3,4,5,6,7,8] ?_
   refine sv 49 v ?_
   refine sv 50 (.int .i64 ((i:Int))) ?_
   refine sw 51 (adr v (i*1)) rfl (rv_idxn (e:=59) hx tb_len (by decide) i (by omega) _ _ _ rfl rfl rfl (by kernel_rfl) (by kernel_rfl)) ?_
   refine sw 52 u25 rfl (rv_ld1 u25 (at25.gr hB) _ _ rfl rfl (by kernel_rfl)) ?_
   refine sv 53 (.int .i64 ((j:Int))) ?_
   refine sw 54 (adr u25 (j*1)) rfl (rv_idxn (e:=9) hr25 tb_len (by decide) j (by omega) _ _ _ rfl rfl rfl (by kernel_rfl) (by kernel_rfl)) ?_
   obtain ⟨_,_,rfl,at36⟩:=Sl.get hr25 (by decide) (tb_get (f:=(fun z1=>(X i z1))) (n:=0) (i:=j) (by omega))
   refine sw 55 (.string ⟨((X i j):List UInt8).toArray⟩) rfl (rv_ld1 (.string ⟨((X i j):List UInt8).toArray⟩) (at36.gr hB) _ _ rfl rfl (by kernel_rfl)) ?_
   refine sv 56 (.int .i64 ((((X i j)).length:Int))) ?_
   refine sv 57 (.bool (decide ((20:Int)<(((X i j)).length:Int)))) ?_
   refine sq_nil ?_
   refine k35 _ _ ?_
   try clear k35 K35
   refine wp_cond_split (t:=decide ((20:Int)<(((X i j)).length:Int))) rfl (fun hb37=>?_) (fun hb37=>?_)
   ·have h20:20<(X i j).length:=by have:=of_decide_eq_true hb37;omega
    refine wp_seq_k (fun K38 k38=>?_)
    refine rg [0] ?_
    refine sv 2 (.bool true) ?_
    refine sq_nil ?_
    refine k38 _ _ ?_
    try clear k38 K38
    refine wp_ret ?_
    simp only [Exit.then,Exit.inBlock]
    refine bodyPost_ret (v:=(.bool true)) (ret_tmp rfl rfl) rfl ⟨?_,hB⟩
    exact rfl
   ·have h20:¬ 20<(X i j).length:=by have:=of_decide_eq_false hb37;omega
    refine wp_skip ?_
    refine k34 _ _ ?_
    try clear k34 K34
    refine rg [0,1,2,3,4,5,6,7,8,9,10] ?_
    refine sv 58 vi ?_
    refine sv 59 v ?_
    refine sv 60 (.int .i64 ((i:Int))) ?_
    refine sw 61 (adr v (i*1)) rfl (rv_idxn (e:=59) hx tb_len (by decide) i (by omega) _ _ _ rfl rfl rfl (by kernel_rfl) (by kernel_rfl)) ?_
    refine sw 62 u25 rfl (rv_ld1 u25 (at25.gr hB) _ _ rfl rfl (by kernel_rfl)) ?_
    refine sv 63 (.int .i64 ((j:Int))) ?_
    refine sw 64 (adr u25 (j*1)) rfl (rv_idxn (e:=9) hr25 tb_len (by decide) j (by omega) _ _ _ rfl rfl rfl (by kernel_rfl) (by kernel_rfl)) ?_
    refine sw 65 (.string ⟨((X i j):List UInt8).toArray⟩) rfl (rv_ld1 (.string ⟨((X i j):List UInt8).toArray⟩) (at36.gr hB) _ _ rfl rfl (by kernel_rfl)) ?_
    refine se ?_
    refine eff_bs 61 1 #[(.string ⟨((X i j):List UInt8).toArray⟩)] (some 66) rfl (fun _=>by kernel_rfl) (fun b39 w39 g39 L39 q39=>?_)
    have q39_hC:=Nat.le_trans (Below.size hC) q39
    have q39_hI:=Nat.le_trans (Below.size hI) q39
    replace hB:=hB.trans g39
    replace hC:=hC.trans g39
    replace hI:=hI.trans g39
    simp only [putl,p3,p4]
    refine se ?_
    refine eff_apg stab_txt _ _ 60 61 w18.heap.size (.string ⟨([]:List UInt8).toArray⟩) vi (tb (fun z1=>(X i z1)) j) b39 [(.string ⟨((X i j):List UInt8).toArray⟩)] ((X i j):List UInt8) 1 1 (some 67) 16 rfl rfl rfl rfl (oi.gr stab_txt hI) L39 ⟨rfl,trivial⟩ rfl rfl (Below.size hC) (by rw [tb_len];omega) (by decide) (by kernel_rfl) (by kernel_rfl) (by decide) (by decide) (fun v40 w40 ow40 wt40 hg40=>?_)
    replace hB:=hg40 _ hB lehC
    replace hC:=hg40 _ hC (Nat.le_refl _)
    replace ow40:=ow40.cast (tb_snoc (f:=(fun z1=>(X i z1))) (n:=j) (by first | rfl | exact fil_all))
    simp only [putl,p3,p4]
    refine sv 6 v40 ?_
    refine sq_nil ?_
    refine k33 _ _ ?_
    try clear k33 K33
    refine rg [0,1,2] ?_
    refine sv 47 (.int .i64 ((j:Int))) ?_
    refine sw 48 (.int .i64 (((j:Int)+1))) rfl (RunV.int (x:=IntKind.i64.wrap (((j:Int)+1))) (y:=((j:Int)+1)) (rvk (by kernel_rfl)) (by first | rfl | (rw [IntKind.wrap_i64];omega))) ?_
    refine sv 7 (.int .i64 (((j:Int)+1))) ?_
    refine sq_nil ?_
    refine k29 (0 - (j+1)) ⟨List.toArray ?l41,[]⟩ _ (by omega) ?_
    exact ⟨j+1,v40,(fun i=>List.getD ?l41 i undef),rfl,rfl,(by omega),(all_succ3 hrw (by omega)),ow40,hC,hB⟩
  ·have hej:0=j:=by have:=of_decide_eq_false hb32;omega
   subst hej
   refine wp_exit ?_
   simp only [Exit.then,Exit.inBlock,↓reduceIte]
   refine k27 _ _ ?_
   try clear k27 K27
   refine wp_seq_k (fun K42 k42=>?_)
   refine rg [0,1,2,3,4] ?_
   refine sv 68 vo ?_
   refine sv 69 vi ?_
   refine se ?_
   refine eff_bs1 58 60 vi (some 70) rfl rfl rfl ((oi.gr stab_txt hI).sl).forms (fun _ _ _ _=>by kernel_rfl) (fun b43 w43 g43 L43 q43=>?_)
   have q43_hC:=Nat.le_trans (Below.size hC) q43
   have q43_hI:=Nat.le_trans (Below.size hI) q43
   replace hB:=hB.trans g43
   replace hC:=hC.trans g43
   replace hI:=hI.trans g43
   simp only [putl,p3,p4]
   refine se ?_
   refine eff_apg (stab_rw stab_txt 61 1) _ _ 58 60 w.heap.size (.slice none 0 0) vo (tb (fun z0=>tb (fun z1=>(X z0 z1)) 0) i) b43 [vi] (tb (fun z1=>(X i z1)) 0) 1 1 (some 71) 24 rfl rfl rfl rfl (oo.gr (stab_rw stab_txt 61 1) hC) L43 ⟨oi.one,trivial⟩ rfl ⟨_,rfl,((oi.gr stab_txt hI).sl)⟩ (Below.size hB) (by rw [tb_len];omega) (by decide) (by kernel_rfl) (by kernel_rfl) (by decide) (by decide) (fun v44 w44 ow44 wt44 hg44=>?_)
   replace hB:=hg44 _ hB (Nat.le_refl _)
   replace ow44:=ow44.cast (tb_snoc (f:=(fun z0=>tb (fun z1=>(X z0 z1)) 0)) (n:=i) (by first | rfl | exact fil_all))
   simp only [putl,p3,p4]
   refine sv 3 v44 ?_
   refine sq_nil ?_
   refine k42 _ _ ?_
   try clear k42 K42
   refine wp_seq_k (fun K45 k45=>?_)
   refine wp_seq_k (fun K46 k46=>?_)
   refine rg [0,1,2,3,4,5,6] ?_
   refine sv 72 (.int .i64 0) ?_
   refine sv 73 (.bool true) ?_
   refine sv 74 (.bool true) ?_
   refine sv 75 vi ?_
   refine sw 76 (.int .i64 0) rfl (rv_lenn (e:=61) oi.sl (tb_lenz rfl) _ _ rfl rfl (by kernel_rfl)) ?_
   refine sv 77 (.bool false) ?_
   refine sv 78 (.bool false) ?_
   refine sq_nil ?_
   refine k46 _ _ ?_
   try clear k46 K46
   refine wp_cond_false rfl ?_
   refine wp_skip ?_
   refine k45 _ _ ?_
   try clear k45 K45
   refine wp_seq_k (fun K47 k47=>?_)
   refine rg [0,1,2,3,4,5,6,7,8,9,10] ?_
   refine sv 79 (.int .i64 0) ?_
   refine sv 80 (.bool true) ?_
   refine sv 81 (.bool true) ?_
   refine sv 82 vi ?_
   refine sw 83 (.int .i64 0) rfl (rv_lenn (e:=61) oi.sl (tb_lenz rfl) _ _ rfl rfl (by kernel_rfl)) ?_
   refine sv 84 v ?_
   refine sw 85 (adr v (0*1)) rfl (rv_idxn (e:=59) hx tb_len (by decide) 0 (by omega) _ _ _ rfl rfl rfl (by kernel_rfl) (by kernel_rfl)) ?_
   obtain ⟨_,_,⟨u48,TT48,rfl,hr48⟩,at48⟩:=Sl.get hx (by decide) (tb_get (f:=(fun z0=>tb (fun z1=>(X z0 z1)) 0)) (n:=0) (i:=0) (by omega))
   refine sw 86 u48 rfl (rv_ld1 u48 (at48.gr hB) _ _ rfl rfl (by kernel_rfl)) ?_
   refine sw 87 (.int .i64 0) rfl (rv_lenn (e:=9) hr48 (tb_lenz rfl) _ _ rfl rfl (by kernel_rfl)) ?_
   refine sv 88 (.bool false) ?_
   refine sv 89 (.bool false) ?_
   refine sq_nil ?_
   refine k47 _ _ ?_
   try clear k47 K47
   refine wp_cond_false rfl ?_
   refine wp_skip ?_
   refine k22 _ _ ?_
   try clear k22 K22
   refine rg [0,1,2] ?_
   refine sv 32 (.int .i64 ((i:Int))) ?_
   refine sw 33 (.int .i64 (((i:Int)+1))) rfl (RunV.int (x:=IntKind.i64.wrap (((i:Int)+1))) (y:=((i:Int)+1)) (rvk (by kernel_rfl)) (by first | rfl | (rw [IntKind.wrap_i64];omega))) ?_
   refine sv 5 (.int .i64 (((i:Int)+1))) ?_
   refine sq_nil ?_
   refine k18 (0 - (i+1)) ⟨List.toArray ?l49,[]⟩ _ (by omega) ?_
   exact ⟨i+1,v44,(fun i=>List.getD ?l49 i undef),rfl,rfl,(by omega),(all_succ3 hsh hrw),ow44,hB⟩
 ·have hei:0=i:=by have:=of_decide_eq_false hb21;omega
  subst hei
  refine wp_exit ?_
  simp only [Exit.then,Exit.inBlock,↓reduceIte]
  refine k16 _ _ ?_
  try clear k16 K16
  refine wp_seq_k (fun K50 k50=>?_)
  refine wp_seq_k (fun K51 k51=>?_)
  have lehD:=Below.size hB
  have lehD_hC:=Below.size hC
  have hD:=Gr.refl w18
  refine rg [0] ?_
  refine sv 8 (.int .i64 0) ?_
  refine sq_nil ?_
  refine k51 _ _ ?_
  try clear k51 K51
  refine wp_block ?_
  refine wp_loop_inv (a:=⟨List.toArray ?l52,[]⟩) (fun n a w'=>∃ (q:Nat) (u52:Nat→Value),0 - q=n∧a=⟨[v,undef,(u18 2),vo,(.int .i64 0),(.int .i64 ((0:Int))),(u18 6),(u18 7),(.int .i64 ((q:Int))),undef,undef,undef,undef,undef,undef,undef,undef,undef,undef,undef,(u52 20),(u52 21),(u52 22),(u52 23),(u52 24),(u52 25),(.bool false),undef,(u52 28),(u52 29),(u52 30),(.bool (decide ((0:Int)<(0:Int)))),(u52 32),(u52 33),(u52 34),(u52 35),(u52 36),(u52 37),(u52 38),(u18 39),(u52 40),(u52 41),(u52 42),(u52 43),(u52 44),(u52 45),(u18 46),(u52 47),(u52 48),(u52 49),(u52 50),(u52 51),(u52 52),(u52 53),(u52 54),(u52 55),(u52 56),(u18 57),(u52 58),(u52 59),(u52 60),(u52 61),(u52 62),(u52 63),(u52 64),(u52 65),(u52 66),(u52 67),(u52 68),(u52 69),(u52 70),(u52 71),(u52 72),(u52 73),(u52 74),(u52 75),(u52 76),(u52 77),(u18 78),(u52 79),(u52 80),(u52 81),(u52 82),(u52 83),(u52 84),(u52 85),(u52 86),(u52 87),(u52 88),(u18 89),(u52 90),(u52 91),(u52 92),(u52 93),(u52 94),(u52 95),(u52 96),(u52 97),(u52 98),(u52 99),(u52 100),(u52 101),(u52 102),(u52 103),(u52 104),(u52 105),(u52 106),(u52 107),undef,undef,undef,undef,undef,undef,undef,undef,undef,undef,undef,undef,undef,undef,undef,undef,undef,undef,undef,undef,undef,undef,undef,undef,undef,undef,undef,undef,undef,undef,undef,undef,undef,undef,undef,undef,undef,undef,undef,undef,undef,undef,undef,undef,undef,undef,undef,undef,undef,undef,undef,undef,undef,undef,undef,undef,undef,undef,undef,undef,undef,undef,undef,undef,undef,undef,undef,undef,undef,undef,undef,undef,undef,undef,undef,undef,undef,undef,undef,undef,undef,undef,undef,undef,undef,undef,undef,undef,undef,undef,undef,undef,undef,undef,undef,undef,undef,undef,undef,undef,undef,undef,undef,undef,undef,undef,undef].toArray,[]⟩∧q≤0∧Gr w18 w'∧Gr w18 w'∧Gr w w') (0 - 0) ?_ ?_
  ·exact ⟨0,(fun i=>List.getD ?l52 i undef),rfl,rfl,(Nat.zero_le _),hC,hD,hB⟩
  rintro n52 a52 w52 ⟨q,u52,rfl,rfl,hkq,hC,hD,hB⟩ K52 k52
  refine wp_seq_k (fun K53 k53=>?_)
  refine wp_seq_k (fun K54 k54=>?_)
  refine rg [0,1,2,3,4,5,6,7] ?_
  refine sv 90 (.int .i64 ((q:Int))) ?_
  refine sv 91 vo ?_
  refine sw 92 (.int .i64 0) rfl (rv_lenn (e:=60) oo.sl (tb_lenz rfl) _ _ rfl rfl (by kernel_rfl)) ?_
  refine sv 93 (.bool (decide ((q:Int)<(0:Int)))) ?_
  rcases Bool.eq_false_or_eq_true (decide ((q:Int)<(0:Int))) with hb55 | hb55
  ·have hlq:q<0:=by have:=of_decide_eq_true hb55;omega
   refine sw 94 (.bool true) rfl (RunV.bool (x:=decide ((q:Int)<(0:Int))) (rvk (by kernel_rfl)) hb55) ?_
   refine sv 95 (.int .i64 0) ?_
   refine sv 96 (.bool true) ?_
   refine sv 97 (.bool true) ?_
   refine sq_nil ?_
   refine k54 _ _ ?_
   try clear k54 K54
   refine wp_cond_true rfl ?_
   refine wp_skip ?_
   refine k53 _ _ ?_
   try clear k53 K53
   refine wp_seq_k (fun K56 k56=>?_)
   refine wp_block ?_
   refine rg [0,1,2,3,4,5,6,7,8] ?_
   refine sv 101 vo ?_
   refine sv 102 (.int .i64 ((q:Int))) ?_
   refine sw 103 (adr vo (q*1)) rfl (rv_idxn (e:=60) oo.sl tb_len (by decide) q (by omega) _ _ _ rfl rfl rfl (by kernel_rfl) (by kernel_rfl)) ?_
   obtain ⟨_,_,⟨u57,rfl,hr57⟩,at57⟩:=Sl.get oo.sl (by decide) (tb_get (f:=(fun z0=>tb (fun z1=>(X z0 z1)) 0)) (n:=0) (i:=q) (by omega))
   refine sw 104 u57 rfl (rv_ld1 u57 (at57.gr hC) _ _ rfl rfl (by kernel_rfl)) ?_
   refine se ?_
   exact absurd hlq (Nat.not_lt_zero _)
  ·have heq:0=q:=by have:=of_decide_eq_false hb55;omega
   refine swk 94 (.bool false) [(5,95),(6,96)] rfl (RunV.bool (x:=decide ((q:Int)<(0:Int))) (rvk (by kernel_rfl)) hb55) ?_
   refine sv 97 (.bool false) ?_
   refine sq_nil ?_
   refine k54 _ _ ?_
   try clear k54 K54
   refine wp_cond_false rfl ?_
   refine wp_exit ?_
   simp only [Exit.then,Exit.inBlock,↓reduceIte]
   refine k50 _ _ ?_
   try clear k50 K50
   refine wp_seq_k (fun K58 k58=>?_)
   refine rg [0,1,2,3,4,5,6] ?_
   refine sv 109 vo ?_
   refine se ?_
   refine ec 110 (mx_Parse_0 (Z:=0) (N:=0) (X:=X) (by omega) (by omega) (fun r h=>absurd h (Nat.not_lt_zero r)) rfl (hm.gr hB) ((oo.gr (stab_rw stab_txt 61 1) hC).sl)) ?_
   rintro e59 w59 ⟨⟨u59,rfl,hs59⟩,g59⟩
   refine ⟨_,rfl,?_⟩
   replace hB:=hB.trans g59
   replace hC:=hC.trans g59
   replace hD:=hD.trans g59
   simp only [p3,p4]
   refine sv 108 (.tuple #[u59,(.int .i64 0)]) ?_
   refine sv 111 u59 ?_
   refine sv 112 (.int .i64 0) ?_
   refine sv 9 u59 ?_
   refine sv 10 (.int .i64 0) ?_
   refine sq_nil ?_
   refine k58 _ _ ?_
   try clear k58 K58
   refine wp_seq_k (fun K60 k60=>?_)
   refine rg [0,1,2,3,4,5,6,7,8] ?_
   refine se ?_
   refine eff_mk (E:=ERw (ERat 64) 71 4) ([]:List Rat) 29 49 (.slice none 0 0) 257 1 24 (some 114) rfl rfl rfl rfl (by kernel_rfl) (by kernel_rfl) (by decide) (by decide) (by decide) (fun _=>⟨_,rfl,Sl.nil _ _ _ _ none 0⟩) (fun b61 w61 g61 mk61 q61=>?_)
   have q61_hC:=Nat.le_trans (Below.size hC) q61
   have q61_hD:=Nat.le_trans (Below.size hD) q61
   replace hB:=hB.trans g61
   replace hC:=hC.trans g61
   replace hD:=hD.trans g61
   simp only [putl,p3,p4]
   refine se ?_
   refine ec 115 (mx_Size_l (R:=257) (N:=0) (m:=fun _ _=>0) (by decide) ((mk61.sl_n (List.length_replicate) (Nat.le_refl _)).cast (show _=tb (fun z0=>tb (fun z1=>(0:Rat)) 0) 257 from by kernel_rfl))) ?_
   rintro e62 w62 ⟨rfl,g62⟩
   refine ⟨_,rfl,?_⟩
   replace hB:=hB.trans g62
   replace hC:=hC.trans g62
   replace hD:=hD.trans g62
   simp only [p3,p4]
   refine sv 113 (.tuple #[(.int .i64 0),(.int .i64 0),(.int .i64 6)]) ?_
   refine sv 116 (.int .i64 0) ?_
   refine sv 117 (.int .i64 0) ?_
   refine sv 118 (.int .i64 6) ?_
   refine sv 11 (.int .i64 0) ?_
   refine sv 12 (.int .i64 0) ?_
   refine sv 13 (.int .i64 6) ?_
   refine sq_nil ?_
   refine k60 _ _ ?_
   try clear k60 K60
   refine wp_seq_k (fun K63 k63=>?_)
   refine wp_seq_k (fun K64 k64=>?_)
   refine rg [0,1,2,3,4,5,6] ?_
   refine sv 119 (.int .i64 0) ?_
   refine sv 120 (.int .i64 0) ?_
   refine sv 121 (.bool false) ?_
   refine sv 122 (.bool false) ?_
   refine sv 123 (.int .i64 6) ?_
   refine sv 124 (.bool false) ?_
   refine sv 125 (.bool false) ?_
   refine sq_nil ?_
   refine k64 _ _ ?_
   try clear k64 K64
   refine wp_cond_false rfl ?_
   refine wp_skip ?_
   refine k63 _ _ ?_
   try clear k63 K63
   refine wp_seq_k (fun K65 k65=>?_)
   refine wp_seq_k (fun K66 k66=>?_)
   refine rg [0,1] ?_
   refine sv 126 (.int .i64 0) ?_
   refine sv 127 (.bool false) ?_
   refine sq_nil ?_
   refine k66 _ _ ?_
   try clear k66 K66
   refine wp_cond_false rfl ?_
   refine wp_skip ?_
   refine k65 _ _ ?_
   try clear k65 K65
   refine wp_seq_k (fun K67 k67=>?_)
   refine rg [0,1,2] ?_
   refine sv 131 u59 ?_
   refine se ?_
   replace hs59:=hs59.gr (stab_rw (stab_rat 160) 71 4) (g61.trans g62)
   refine ec 132 (mx_Numbers (Z:=0) (N:=0) (X:=X) (by omega) (by omega) rfl (ht.gr hB) hs59) ?_
   rintro e68 w68 ⟨⟨u68,rfl,hs68⟩,g68⟩
   refine ⟨_,rfl,?_⟩
   replace hB:=hB.trans g68
   replace hC:=hC.trans g68
   replace hD:=hD.trans g68
   simp only [p3,p4]
   refine sv 14 u68 ?_
   refine sq_nil ?_
   refine k67 _ _ ?_
   try clear k67 K67
   refine wp_seq_k (fun K69 k69=>?_)
   refine rg [0,1,2,3,4,5,6,7,8] ?_
   refine sv 134 u59 ?_
   refine se ?_
   replace hs59:=hs59.gr (stab_rw (stab_rat 160) 71 4) g68
   refine ec 135 (mx_Size (m:=fun i k=>valT (X i k)) (by omega) (by omega) (by omega) hs59) ?_
   rintro e70 w70 ⟨rfl,g70⟩
   refine ⟨_,rfl,?_⟩
   replace hB:=hB.trans g70
   replace hC:=hC.trans g70
   replace hD:=hD.trans g70
   simp only [p3,p4]
   refine sv 133 (.tuple #[(.int .i64 0),(.int .i64 0),(.int .i64 0)]) ?_
   refine sv 136 (.int .i64 0) ?_
   refine sv 137 (.int .i64 0) ?_
   refine sv 138 (.int .i64 0) ?_
   refine sv 15 (.int .i64 0) ?_
   refine sv 16 (.int .i64 0) ?_
   refine sv 17 (.int .i64 0) ?_
   refine sq_nil ?_
   refine k69 _ _ ?_
   try clear k69 K69
   refine wp_seq_k (fun K71 k71=>?_)
   refine wp_seq_k (fun K72 k72=>?_)
   refine rg [0,1,2,3,4,5,6,7,8,9,10,11,12,13,14,15,16,17,18,19,20,21,22,23,24,25,26,27,28,29,30,31,32,33,34] ?_
   refine sv 139 u68 ?_
   refine sw 140 (.int .i64 0) rfl (rv_lenn (e:=60) hs68 (tb_lenz rfl) _ _ rfl rfl (by kernel_rfl)) ?_
   refine sv 141 vo ?_
   refine sw 142 (.int .i64 0) rfl (rv_lenn (e:=60) oo.sl (tb_lenz rfl) _ _ rfl rfl (by kernel_rfl)) ?_
   refine sv 143 (.bool false) ?_
   refine sv 144 (.bool false) ?_
   refine sv 145 (.int .i64 0) ?_
   refine sv 146 vo ?_
   refine sw 147 (.int .i64 0) rfl (rv_lenn (e:=60) oo.sl (tb_lenz rfl) _ _ rfl rfl (by kernel_rfl)) ?_
   refine sv 148 (.bool false) ?_
   refine sv 149 (.bool false) ?_
   refine sv 150 (.bool false) ?_
   refine sv 151 (.int .i64 0) ?_
   refine sv 152 (.bool false) ?_
   refine sv 153 (.bool false) ?_
   refine sv 154 (.bool false) ?_
   refine sv 155 (.int .i64 0) ?_
   refine sv 156 (.bool false) ?_
   refine swk 157 (.bool false) [(19,158),(20,159),(21,160),(22,161),(23,162),(24,163)] rfl (rvk (by kernel_rfl)) ?_
   refine sv 164 (.bool false) ?_
   refine sv 165 (.bool false) ?_
   refine sv 166 (.bool false) ?_
   refine sv 167 (.int .i64 0) ?_
   refine sv 168 (.bool true) ?_
   refine sv 169 (.bool true) ?_
   refine sv 170 (.int .i64 0) ?_
   refine sv 171 (.bool false) ?_
   refine sv 172 (.bool false) ?_
   refine sv 173 (.bool false) ?_
   refine sq_nil ?_
   refine k72 _ _ ?_
   try clear k72 K72
   refine wp_cond_false rfl ?_
   refine wp_skip ?_
   refine k71 _ _ ?_
   try clear k71 K71
   refine wp_seq_k (fun K73 k73=>?_)
   refine wp_seq_k (fun K74 k74=>?_)
   have lehE:=Below.size hB
   have lehE_hC:=Below.size hC
   have lehE_hD:=Below.size hD
   have hE:=Gr.refl w70
   replace hs59:=hs59.gr (stab_rw (stab_rat 160) 71 4) g70
   replace hs68:=hs68.gr (stab_rw stab_txt 61 1) g70
   refine rg [0] ?_
   refine sv 18 (.int .i64 0) ?_
   refine sq_nil ?_
   refine k74 _ _ ?_
   try clear k74 K74
   refine wp_block ?_
   refine wp_loop_inv (a:=⟨List.toArray ?l75,[]⟩) (fun n a w'=>∃ (g:Nat) (u75:Nat→Value),0 - g=n∧a=⟨[v,undef,(u75 2),vo,(.int .i64 0),(.int .i64 ((0:Int))),(u18 6),(u18 7),(.int .i64 ((q:Int))),u59,(.int .i64 0),(u75 11),(u75 12),(.int .i64 6),u68,(.int .i64 0),(.int .i64 0),(.int .i64 0),(.int .i64 ((g:Int))),(u75 19),(u75 20),(u75 21),(u75 22),(u75 23),(u75 24),(u75 25),(.bool false),undef,(u75 28),(u75 29),(u75 30),(.bool (decide ((0:Int)<(0:Int)))),(u75 32),(u75 33),(u75 34),(u75 35),(u75 36),(u75 37),(u75 38),(u18 39),(u75 40),(u75 41),(u75 42),(u75 43),(u75 44),(u75 45),(u18 46),(u75 47),(u75 48),(u75 49),(u75 50),(u75 51),(u75 52),(u75 53),(u75 54),(u75 55),(u75 56),(u18 57),(u75 58),(u75 59),(u75 60),(u75 61),(u75 62),(u75 63),(u75 64),(u75 65),(u75 66),(u75 67),(u75 68),(u75 69),(u75 70),(u75 71),(u75 72),(u75 73),(u75 74),(u75 75),(u75 76),(u75 77),(u18 78),(u75 79),(u75 80),(u75 81),(u75 82),(u75 83),(u75 84),(u75 85),(u75 86),(u75 87),(u75 88),(u18 89),(u75 90),(u75 91),(u75 92),(u75 93),(u75 94),undef,undef,(.bool false),(u75 98),(u75 99),(u75 100),(u75 101),(u75 102),(u75 103),(u75 104),(u75 105),(u75 106),(u75 107),(u75 108),(u75 109),(u75 110),(u75 111),(u75 112),(u75 113),(u75 114),(u75 115),(u75 116),(u75 117),(u75 118),(u75 119),(u75 120),(u75 121),(u75 122),(u75 123),(u75 124),(.bool false),(u75 126),(.bool false),undef,undef,undef,(u75 131),(u75 132),(u75 133),(u75 134),(u75 135),(u75 136),(u75 137),(u75 138),(u75 139),(u75 140),(u75 141),(u75 142),(u75 143),(u75 144),(u75 145),(u75 146),(u75 147),(u75 148),(u75 149),(u75 150),(u75 151),(u75 152),(u75 153),(u75 154),(u75 155),(u75 156),(u75 157),undef,undef,undef,undef,undef,undef,(u75 164),(u75 165),(u75 166),(u75 167),(u75 168),(u75 169),(u75 170),(u75 171),(u75 172),(.bool false),(u75 174),(u75 175),(u75 176),(u75 177),(u75 178),(u75 179),(u75 180),(u75 181),(u75 182),(u75 183),(u75 184),(u75 185),(u75 186),(u75 187),(u75 188),(u75 189),(u75 190),(u75 191),(u75 192),(u75 193),(u75 194),(u75 195),(u75 196),(u75 197),(u75 198),(u75 199),(u75 200),(u75 201),(u75 202),(u75 203),(u75 204),(u75 205),(u75 206),(u75 207),(u75 208),(u75 209),(u75 210),(u75 211),(u75 212),(u75 213),(u75 214)].toArray,[]⟩∧g≤0∧Gr w18 w'∧Gr w18 w'∧Gr w70 w'∧Gr w w') (0 - 0) ?_ ?_
   ·exact ⟨0,(fun i=>List.getD ?l75 i undef),rfl,rfl,(Nat.zero_le _),hC,hD,hE,hB⟩
   rintro n75 a75 w75 ⟨g,u75,rfl,rfl,hkg,hC,hD,hE,hB⟩ K75 k75
   refine wp_seq_k (fun K76 k76=>?_)
   refine wp_seq_k (fun K77 k77=>?_)
   refine rg [0,1,2,3] ?_
   refine sv 174 (.int .i64 ((g:Int))) ?_
   refine sv 175 u68 ?_
   refine sw 176 (.int .i64 0) rfl (rv_lenn (e:=60) hs68 (tb_lenz rfl) _ _ rfl rfl (by kernel_rfl)) ?_
   refine sv 177 (.bool (decide ((g:Int)<(0:Int)))) ?_
   refine sq_nil ?_
   refine k77 _ _ ?_
   try clear k77 K77
   refine wp_cond_split (t:=decide ((g:Int)<(0:Int))) rfl (fun hb78=>?_) (fun hb78=>?_)
   ·have hlg:g<0:=by have:=of_decide_eq_true hb78;omega
    refine wp_skip ?_
    refine k76 _ _ ?_
    try clear k76 K76
    refine wp_seq_k (fun K79 k79=>?_)
    refine wp_block ?_
    refine wp_seq_k (fun K80 k80=>?_)
    refine wp_seq_k (fun K81 k81=>?_)
    obtain ⟨_,_,⟨u83,rfl,hr83⟩,at83⟩:=Sl.get hs68 (by decide) (tb_get (f:=(fun z0=>tb (fun z1=>(X z0 z1)) 0)) (n:=0) (i:=g) (by omega))
    obtain ⟨_,_,⟨u84,rfl,hr84⟩,at84⟩:=Sl.get oo.sl (by decide) (tb_get (f:=(fun z0=>tb (fun z1=>(X z0 z1)) 0)) (n:=0) (i:=g) (by omega))
    have gd85:=Gr.drew w75
    replace hB:=hB.trans gd85
    replace hC:=hC.trans gd85
    replace hD:=hD.trans gd85
    replace hE:=hE.trans gd85
    refine wp_region_ord (fun w'=>AtV w' u68 (g*1) [u83]∧AtV w' vo (g*1) [u84]) [(true,0),(true,1),(true,2),(true,3),(true,4),(true,5),(true,6),(true,7),(true,8),(true,9),(true,10)] (by kernel_rfl) (by kernel_rfl) (by kernel_rfl) (by decide) (fun _ _ _ _ _ h=>h) ⟨(at83.gr hE),(at84.gr hC)⟩ ?_
    refine ov 180 u68 ?_
    refine ov 181 (.int .i64 ((g:Int))) ?_
    refine ow 182 (adr u68 (g*1)) rfl (fun w' hS=>(rv_idxn (e:=60) hs68 tb_len (by decide) g (by omega) _ _ _ rfl rfl rfl (by kernel_rfl) (by kernel_rfl))) ?_
    refine ow 183 u83 rfl (fun w' hS=>(rv_ld1 u83 hS.1 _ _ rfl rfl (by kernel_rfl))) ?_
    refine ow 184 (.int .i64 0) rfl (fun w' hS=>(rv_lenn (e:=61) hr83 (tb_lenz rfl) _ _ rfl rfl (by kernel_rfl))) ?_
    refine ov 185 vo ?_
    refine ov 186 (.int .i64 ((g:Int))) ?_
    refine ow 187 (adr vo (g*1)) rfl (fun w' hS=>(rv_idxn (e:=60) oo.sl tb_len (by decide) g (by omega) _ _ _ rfl rfl rfl (by kernel_rfl) (by kernel_rfl))) ?_
    refine ow 188 u84 rfl (fun w' hS=>(rv_ld1 u84 hS.2 _ _ rfl rfl (by kernel_rfl))) ?_
    refine ow 189 (.int .i64 0) rfl (fun w' hS=>(rv_lenn (e:=61) hr84 (tb_lenz rfl) _ _ rfl rfl (by kernel_rfl))) ?_
    refine ov 190 (.bool false) ?_
    refine ord_nil ?_
    refine k81 _ _ ?_
    try clear k81 K81
    refine wp_cond_false rfl ?_
    refine wp_skip ?_
    refine k80 _ _ ?_
    try clear k80 K80
    refine wp_seq_k (fun K86 k86=>?_)
    have lehF:=Below.size hB
    have lehF_hC:=Below.size hC
    have lehF_hD:=Below.size hD
    have lehF_hE:=Below.size hE
    have hF:=Gr.refl (w75.drew)
    refine rg [0] ?_
    refine sv 19 (.int .i64 0) ?_
    refine sq_nil ?_
    refine k86 _ _ ?_
    try clear k86 K86
    refine wp_block ?_
    refine wp_loop_inv (a:=⟨List.toArray ?l87,[]⟩) (fun n a w'=>∃ (h:Nat) (u87:Nat→Value),0 - h=n∧a=⟨[v,undef,(u87 2),vo,(.int .i64 0),(.int .i64 ((0:Int))),(u18 6),(u18 7),(.int .i64 ((q:Int))),u59,(.int .i64 0),(u87 11),(u87 12),(.int .i64 6),u68,(.int .i64 0),(.int .i64 0),(.int .i64 0),(.int .i64 ((g:Int))),(.int .i64 ((h:Int))),(u87 20),(u87 21),(u87 22),(u87 23),(u87 24),(u87 25),(.bool false),undef,(u87 28),(u87 29),(u87 30),(.bool (decide ((0:Int)<(0:Int)))),(u87 32),(u87 33),(u87 34),(u87 35),(u87 36),(u87 37),(u87 38),(u18 39),(u87 40),(u87 41),(u87 42),(u87 43),(u87 44),(u87 45),(u18 46),(u87 47),(u87 48),(u87 49),(u87 50),(u87 51),(u87 52),(u87 53),(u87 54),(u87 55),(u87 56),(u18 57),(u87 58),(u87 59),(u87 60),(u87 61),(u87 62),(u87 63),(u87 64),(u87 65),(u87 66),(u87 67),(u87 68),(u87 69),(u87 70),(u87 71),(u87 72),(u87 73),(u87 74),(u87 75),(u87 76),(u87 77),(u18 78),(u87 79),(u87 80),(u87 81),(u87 82),(u87 83),(u87 84),(u87 85),(u87 86),(u87 87),(u87 88),(u18 89),(u87 90),(u87 91),(u87 92),(u87 93),(u87 94),undef,undef,(.bool false),(u87 98),(u87 99),(u87 100),(u87 101),(u87 102),(u87 103),(u87 104),(u87 105),(u87 106),(u87 107),(u87 108),(u87 109),(u87 110),(u87 111),(u87 112),(u87 113),(u87 114),(u87 115),(u87 116),(u87 117),(u87 118),(u87 119),(u87 120),(u87 121),(u87 122),(u87 123),(u87 124),(.bool false),(u87 126),(.bool false),undef,undef,undef,(u87 131),(u87 132),(u87 133),(u87 134),(u87 135),(u87 136),(u87 137),(u87 138),(u87 139),(u87 140),(u87 141),(u87 142),(u87 143),(u87 144),(u87 145),(u87 146),(u87 147),(u87 148),(u87 149),(u87 150),(u87 151),(u87 152),(u87 153),(u87 154),(u87 155),(u87 156),(u87 157),undef,undef,undef,undef,undef,undef,(u87 164),(u87 165),(u87 166),(u87 167),(u87 168),(u87 169),(u87 170),(u87 171),(u87 172),(.bool false),(u87 174),(u87 175),(u87 176),(.bool (decide ((g:Int)<(0:Int)))),(u87 178),(u87 179),(u87 180),(u87 181),(u87 182),(u87 183),(u87 184),(u87 185),(u87 186),(u87 187),(u87 188),(u87 189),(.bool false),(u87 191),(u87 192),(u87 193),(u87 194),(u87 195),(u87 196),(u87 197),(u87 198),(u87 199),(u87 200),(u87 201),(u87 202),(u87 203),(u87 204),(u87 205),(u87 206),(u87 207),(u87 208),(u87 209),(u87 210),(u87 211),(u87 212),(u87 213),(u87 214)].toArray,[]⟩∧h≤0∧Gr w18 w'∧Gr w18 w'∧Gr w70 w'∧Gr (w75.drew) w'∧Gr w w') (0 - 0) ?_ ?_
    ·exact ⟨0,(fun i=>List.getD ?l87 i undef),rfl,rfl,(Nat.zero_le _),hC,hD,hE,hF,hB⟩
    rintro n87 a87 w87 ⟨h,u87,rfl,rfl,hkh,hC,hD,hE,hF,hB⟩ K87 k87
    refine wp_seq_k (fun K88 k88=>?_)
    refine wp_seq_k (fun K89 k89=>?_)
    refine rg [0,1,2,3,4,5,6] ?_
    refine sv 191 (.int .i64 ((h:Int))) ?_
    refine sv 192 u68 ?_
    refine sv 193 (.int .i64 ((g:Int))) ?_
    refine sw 194 (adr u68 (g*1)) rfl (rv_idxn (e:=60) hs68 tb_len (by decide) g (by omega) _ _ _ rfl rfl rfl (by kernel_rfl) (by kernel_rfl)) ?_
    refine sw 195 u83 rfl (rv_ld1 u83 (at83.gr hE) _ _ rfl rfl (by kernel_rfl)) ?_
    refine sw 196 (.int .i64 0) rfl (rv_lenn (e:=61) hr83 (tb_lenz rfl) _ _ rfl rfl (by kernel_rfl)) ?_
    refine sv 197 (.bool (decide ((h:Int)<(0:Int)))) ?_
    refine sq_nil ?_
    refine k89 _ _ ?_
    try clear k89 K89
    refine wp_cond_split (t:=decide ((h:Int)<(0:Int))) rfl (fun hb90=>?_) (fun hb90=>?_)
    ·have hlh:h<0:=by have:=of_decide_eq_true hb90;omega
     refine wp_skip ?_
     refine k88 _ _ ?_
     try clear k88 K88
     refine wp_seq_k (fun K91 k91=>?_)
     refine wp_block ?_
     refine wp_seq_k (fun K92 k92=>?_)
     obtain ⟨_,_,rfl,at95⟩:=Sl.get hr83 (by decide) (tb_get (f:=(fun z1=>(X g z1))) (n:=0) (i:=h) (by omega))
     obtain ⟨_,_,rfl,at96⟩:=Sl.get hr84 (by decide) (tb_get (f:=(fun z1=>(X g z1))) (n:=0) (i:=h) (by omega))
     have gd97:=Gr.drew w87
     replace hB:=hB.trans gd97
     replace hC:=hC.trans gd97
     replace hD:=hD.trans gd97
     replace hE:=hE.trans gd97
     replace hF:=hF.trans gd97
     refine wp_region_ord (fun w'=>AtV w' u68 (g*1) [u83]∧AtV w' vo (g*1) [u84]∧AtV w' u83 (h*1) [(.string ⟨((X g h):List UInt8).toArray⟩)]∧AtV w' u84 (h*1) [(.string ⟨((X g h):List UInt8).toArray⟩)]) [(true,0),(true,1),(true,2),(true,3),(true,4),(true,5),(true,6),(true,7),(true,8),(true,9),(true,10),(true,11),(true,12),(true,13),(true,14)] (by kernel_rfl) (by kernel_rfl) (by kernel_rfl) (by decide) (fun _ _ _ _ _ h=>h) ⟨(at83.gr hE),(at84.gr hC),(at95.gr hE),(at96.gr hC)⟩ ?_
     refine ov 200 u68 ?_
     refine ov 201 (.int .i64 ((g:Int))) ?_
     refine ow 202 (adr u68 (g*1)) rfl (fun w' hS=>(rv_idxn (e:=60) hs68 tb_len (by decide) g (by omega) _ _ _ rfl rfl rfl (by kernel_rfl) (by kernel_rfl))) ?_
     refine ow 203 u83 rfl (fun w' hS=>(rv_ld1 u83 hS.1 _ _ rfl rfl (by kernel_rfl))) ?_
     refine ov 204 (.int .i64 ((h:Int))) ?_
     refine ow 205 (adr u83 (h*1)) rfl (fun w' hS=>(rv_idxn (e:=61) hr83 tb_len (by decide) h (by omega) _ _ _ rfl rfl rfl (by kernel_rfl) (by kernel_rfl))) ?_
     refine ow 206 (.string ⟨((X g h):List UInt8).toArray⟩) rfl (fun w' hS=>(rv_ld1 (.string ⟨((X g h):List UInt8).toArray⟩) hS.2.2.1 _ _ rfl rfl (by kernel_rfl))) ?_
     refine ov 207 vo ?_
     refine ov 208 (.int .i64 ((g:Int))) ?_
     refine ow 209 (adr vo (g*1)) rfl (fun w' hS=>(rv_idxn (e:=60) oo.sl tb_len (by decide) g (by omega) _ _ _ rfl rfl rfl (by kernel_rfl) (by kernel_rfl))) ?_
     refine ow 210 u84 rfl (fun w' hS=>(rv_ld1 u84 hS.2.1 _ _ rfl rfl (by kernel_rfl))) ?_
     refine ov 211 (.int .i64 ((h:Int))) ?_
     refine ow 212 (adr u84 (h*1)) rfl (fun w' hS=>(rv_idxn (e:=61) hr84 tb_len (by decide) h (by omega) _ _ _ rfl rfl rfl (by kernel_rfl) (by kernel_rfl))) ?_
     refine ow 213 (.string ⟨((X g h):List UInt8).toArray⟩) rfl (fun w' hS=>(rv_ld1 (.string ⟨((X g h):List UInt8).toArray⟩) hS.2.2.2 _ _ rfl rfl (by kernel_rfl))) ?_
     have hb98:((((X g h)) !=((X g h))))=false:=(by simp)
     refine ow 214 (.bool false) rfl (fun w' hS=>(RunV.bool (x:=(((X g h)) !=((X g h)))) (rv_sne 61 61 _ _ ((X g h)) ((X g h)) rfl rfl rfl) hb98)) ?_
     refine ord_nil ?_
     refine k92 _ _ ?_
     try clear k92 K92
     refine wp_cond_false rfl ?_
     refine wp_skip ?_
     refine k91 _ _ ?_
     try clear k91 K91
     refine rg [0,1,2] ?_
     refine sv 198 (.int .i64 ((h:Int))) ?_
     refine sw 199 (.int .i64 (((h:Int)+1))) rfl (RunV.int (x:=IntKind.i64.wrap (((h:Int)+1))) (y:=((h:Int)+1)) (rvk (by kernel_rfl)) (by first | rfl | (rw [IntKind.wrap_i64];omega))) ?_
     refine sv 19 (.int .i64 (((h:Int)+1))) ?_
     refine sq_nil ?_
     refine k87 (0 - (h+1)) ⟨List.toArray ?l99,[]⟩ _ (by omega) ?_
     exact ⟨h+1,(fun i=>List.getD ?l99 i undef),rfl,rfl,(by omega),hC,hD,hE,hF,hB⟩
    ·have heh:0=h:=by have:=of_decide_eq_false hb90;omega
     subst heh
     refine wp_exit ?_
     simp only [Exit.then,Exit.inBlock,↓reduceIte]
     refine k79 _ _ ?_
     try clear k79 K79
     refine rg [0,1,2] ?_
     refine sv 178 (.int .i64 ((g:Int))) ?_
     refine sw 179 (.int .i64 (((g:Int)+1))) rfl (RunV.int (x:=IntKind.i64.wrap (((g:Int)+1))) (y:=((g:Int)+1)) (rvk (by kernel_rfl)) (by first | rfl | (rw [IntKind.wrap_i64];omega))) ?_
     refine sv 18 (.int .i64 (((g:Int)+1))) ?_
     refine sq_nil ?_
     refine k75 (0 - (g+1)) ⟨List.toArray ?l100,[]⟩ _ (by omega) ?_
     exact ⟨g+1,(fun i=>List.getD ?l100 i undef),rfl,rfl,(by omega),hC,hD,hE,hB⟩
   ·have heg:0=g:=by have:=of_decide_eq_false hb78;omega
    subst heg
    refine wp_exit ?_
    simp only [Exit.then,Exit.inBlock,↓reduceIte]
    refine k73 _ _ ?_
    try clear k73 K73
    refine wp_seq_k (fun K101 k101=>?_)
    refine rg [0] ?_
    refine sv 2 (.bool true) ?_
    refine sq_nil ?_
    refine k101 _ _ ?_
    try clear k101 K101
    refine wp_ret ?_
    refine bodyPost_ret (v:=(.bool true)) (ret_tmp rfl rfl) rfl ⟨?_,hB⟩
    exact rfl

set_option maxRecDepth 100000 in
set_option maxHeartbeats 1000000 in
theorem mz_y {TQ Z N:Nat} {v:Value} {X:Nat→Nat→List UInt8} (_hZ0:0<Z) (_hN:N≤96) (hr:rfe X N Z=0) {w:World} (hm:Mx w) (ht:Tab w) (hx:Sl (ESl ETxt 1) TQ 1 w v (tb (fun z0=>tb (fun z1=>(X z0 z1)) N) Z)):
    Calls Tryz.prog 5 #[v] w fun e w'=>e=.returned (.bool true)∧Gr w w':=by
 go_enter Tryz.func5,Tryz.ntmps5
 have hB:=Gr.refl w
 refine wp_seq_k (fun K10 k10=>?_)
 refine rg [0] ?_
 refine sv 2 (.bool false) ?_
 refine sq_nil ?_
 refine k10 _ _ ?_
 try clear k10 K10
 refine wp_seq_k (fun K11 k11=>?_)
 refine wp_seq_k (fun K12 k12=>?_)
 refine rg [0,1,2,3,4,5,6] ?_
 refine se ?_
 refine ec 20 (l5_known _ (hm.gr hB) (ht.gr hB)) ?_
 rintro e13 w13 ⟨rfl,g13⟩
 refine ⟨_,rfl,?_⟩
 replace hB:=hB.trans g13
 simp only [p3,p4]
 refine sv 21 (.bool false) ?_
 refine sv 22 (.bool false) ?_
 refine sv 23 v ?_
 refine sw 24 (.int .i64 ((Z:Int))) rfl (rv_lenn (e:=59) hx (tb_lenz rfl) _ _ rfl rfl (by kernel_rfl)) ?_
 refine sv 25 (.bool (decide ((8:Int)<(Z:Int)))) ?_
 refine sv 26 (.bool (decide ((8:Int)<(Z:Int)))) ?_
 refine sq_nil ?_
 refine k12 _ _ ?_
 try clear k12 K12
 refine wp_cond_split (t:=decide ((8:Int)<(Z:Int))) rfl (fun hb14=>?_) (fun hb14=>?_)
 ·have hq15:((8:Int)<(Z:Int)):=of_decide_eq_true hb14
  refine wp_seq_k (fun K16 k16=>?_)
  refine rg [0,1] ?_
  refine se ?_
  refine ec 27 (l5_known _ (hm.gr hB) (ht.gr hB)) ?_
  rintro e17 w17 ⟨rfl,g17⟩
  refine ⟨_,rfl,?_⟩
  replace hB:=hB.trans g17
  simp only [p3,p4]
  refine sv 2 (.bool true) ?_
  refine sq_nil ?_
  refine k16 _ _ ?_
  try clear k16 K16
  refine wp_ret ?_
  simp only [Exit.then]
  refine bodyPost_ret (v:=(.bool true)) (ret_tmp rfl rfl) rfl ⟨?_,hB⟩
  exact rfl
 ·have hq18:¬ ((8:Int)<(Z:Int)):=of_decide_eq_false hb14
  refine wp_skip ?_
  refine k11 _ _ ?_
  try clear k11 K11
  refine wp_seq_k (fun K19 k19=>?_)
  refine rg [0] ?_
  refine sv 3 (.slice none 0 0) ?_
  refine sq_nil ?_
  refine k19 _ _ ?_
  try clear k19 K19
  refine wp_seq_k (fun K20 k20=>?_)
  refine rg [0] ?_
  refine sv 4 (.int .i64 0) ?_
  refine sq_nil ?_
  refine k20 _ _ ?_
  try clear k20 K20
  refine wp_seq_k (fun K21 k21=>?_)
  refine wp_seq_k (fun K22 k22=>?_)
  refine rg [0] ?_
  refine sv 5 (.int .i64 0) ?_
  refine sq_nil ?_
  refine k22 _ _ ?_
  try clear k22 K22
  refine wp_block ?_
  refine wp_loop_inv (a:=⟨List.toArray ?l23,[]⟩) (fun n a w'=>∃ (i:Nat) (vo:Value) (u23:Nat→Value),Z - i=n∧a=⟨[v,undef,(u23 2),vo,(.int .i64 0),(.int .i64 ((i:Int))),(u23 6),(u23 7),undef,undef,undef,undef,undef,undef,undef,undef,undef,undef,undef,undef,(u23 20),(u23 21),(u23 22),(u23 23),(u23 24),(u23 25),(.bool (decide ((8:Int)<(Z:Int)))),undef,(u23 28),(u23 29),(u23 30),(u23 31),(u23 32),(u23 33),(u23 34),(u23 35),(u23 36),(u23 37),(u23 38),(u23 39),(u23 40),(u23 41),(u23 42),(u23 43),(u23 44),(u23 45),(u23 46),(u23 47),(u23 48),(u23 49),(u23 50),(u23 51),(u23 52),(u23 53),(u23 54),(u23 55),(u23 56),(u23 57),(u23 58),(u23 59),(u23 60),(u23 61),(u23 62),(u23 63),(u23 64),(u23 65),(u23 66),(u23 67),(u23 68),(u23 69),(u23 70),(u23 71),(u23 72),(u23 73),(u23 74),(u23 75),(u23 76),(u23 77),(u23 78),(u23 79),(u23 80),(u23 81),(u23 82),(u23 83),(u23 84),(u23 85),(u23 86),(u23 87),(u23 88),(u23 89),undef,undef,undef,undef,undef,undef,undef,undef,undef,undef,undef,undef,undef,undef,undef,undef,undef,undef,undef,undef,undef,undef,undef,undef,undef,undef,undef,undef,undef,undef,undef,undef,undef,undef,undef,undef,undef,undef,undef,undef,undef,undef,undef,undef,undef,undef,undef,undef,undef,undef,undef,undef,undef,undef,undef,undef,undef,undef,undef,undef,undef,undef,undef,undef,undef,undef,undef,undef,undef,undef,undef,undef,undef,undef,undef,undef,undef,undef,undef,undef,undef,undef,undef,undef,undef,undef,undef,undef,undef,undef,undef,undef,undef,undef,undef,undef,undef,undef,undef,undef,undef,undef,undef,undef,undef,undef,undef,undef,undef,undef,undef,undef,undef,undef,undef,undef,undef,undef,undef,undef,undef,undef,undef,undef,undef].toArray,[]⟩∧i≤Z∧(∀ r,r<i→∀ k,k<N→(X r k).length≤20)∧Ow (ERw ETxt 61 1) 60 1 w' w.heap.size vo (tb (fun z0=>tb (fun z1=>(X z0 z1)) N) i)∧Gr w w') (Z - 0) ?_ ?_
  ·exact ⟨0,(.slice none 0 0),(fun i=>List.getD ?l23 i undef),rfl,rfl,(Nat.zero_le _),(fun r h=>absurd h (Nat.not_lt_zero r)),(Ow.nil _ _ _ _ _),hB⟩
  rintro n23 a23 w23 ⟨i,vo,u23,rfl,rfl,hki,hsh,oo,hB⟩ K23 k23
  have lehC:=Below.size hB
  have hC:=Gr.refl w23
  refine wp_seq_k (fun K24 k24=>?_)
  refine wp_seq_k (fun K25 k25=>?_)
  refine rg [0,1,2,3] ?_
  refine sv 28 (.int .i64 ((i:Int))) ?_
  refine sv 29 v ?_
  refine sw 30 (.int .i64 ((Z:Int))) rfl (rv_lenn (e:=59) hx (tb_lenz rfl) _ _ rfl rfl (by kernel_rfl)) ?_
  refine sv 31 (.bool (decide ((i:Int)<(Z:Int)))) ?_
  refine sq_nil ?_
  refine k25 _ _ ?_
  try clear k25 K25
  refine wp_cond_split (t:=decide ((i:Int)<(Z:Int))) rfl (fun hb26=>?_) (fun hb26=>?_)
  ·have hli:i<Z:=by have:=of_decide_eq_true hb26;omega
   refine wp_skip ?_
   refine k24 _ _ ?_
   try clear k24 K24
   refine wp_seq_k (fun K27 k27=>?_)
   refine wp_block ?_
   refine wp_seq_k (fun K28 k28=>?_)
   refine wp_seq_k (fun K29 k29=>?_)
   refine rg [0,1,2,3,4,5] ?_
   refine sv 34 v ?_
   refine sv 35 (.int .i64 ((i:Int))) ?_
   refine sw 36 (adr v (i*1)) rfl (rv_idxn (e:=59) hx tb_len (by decide) i (by omega) _ _ _ rfl rfl rfl (by kernel_rfl) (by kernel_rfl)) ?_
   obtain ⟨_,_,⟨u30,TT30,rfl,hr30⟩,at30⟩:=Sl.get hx (by decide) (tb_get (f:=(fun z0=>tb (fun z1=>(X z0 z1)) N)) (n:=Z) (i:=i) (by omega))
   refine sw 37 u30 rfl (rv_ld1 u30 (at30.gr hB) _ _ rfl rfl (by kernel_rfl)) ?_
   refine sw 38 (.int .i64 ((N:Int))) rfl (rv_lenn (e:=9) hr30 (tb_lenz rfl) _ _ rfl rfl (by kernel_rfl)) ?_
   have hb31:(decide ((100:Int)<(N:Int)))=false:=(by simp only [decide_eq_false_iff_not];omega)
   refine sw 39 (.bool false) rfl (RunV.bool (x:=decide ((100:Int)<(N:Int))) (rvk (by kernel_rfl)) hb31) ?_
   refine sq_nil ?_
   refine k29 _ _ ?_
   try clear k29 K29
   refine wp_cond_false rfl ?_
   refine wp_skip ?_
   refine k28 _ _ ?_
   try clear k28 K28
   refine wp_seq_k (fun K32 k32=>?_)
   refine rg [0] ?_
   refine sv 6 (.slice none 0 0) ?_
   refine sq_nil ?_
   refine k32 _ _ ?_
   try clear k32 K32
   refine wp_seq_k (fun K33 k33=>?_)
   refine wp_seq_k (fun K34 k34=>?_)
   refine rg [0] ?_
   refine sv 7 (.int .i64 0) ?_
   refine sq_nil ?_
   refine k34 _ _ ?_
   try clear k34 K34
   refine wp_block ?_
   refine wp_loop_inv (a:=⟨List.toArray ?l35,[]⟩) (fun n a w'=>∃ (j:Nat) (vi:Value) (u35:Nat→Value),N - j=n∧a=⟨[v,undef,(u35 2),vo,(.int .i64 0),(.int .i64 ((i:Int))),vi,(.int .i64 ((j:Int))),undef,undef,undef,undef,undef,undef,undef,undef,undef,undef,undef,undef,(u35 20),(u35 21),(u35 22),(u35 23),(u35 24),(u35 25),(.bool (decide ((8:Int)<(Z:Int)))),undef,(u35 28),(u35 29),(u35 30),(.bool (decide ((i:Int)<(Z:Int)))),(u35 32),(u35 33),(u35 34),(u35 35),(u35 36),(u35 37),(u35 38),(.bool false),(u35 40),(u35 41),(u35 42),(u35 43),(u35 44),(u35 45),(u35 46),(u35 47),(u35 48),(u35 49),(u35 50),(u35 51),(u35 52),(u35 53),(u35 54),(u35 55),(u35 56),(u35 57),(u35 58),(u35 59),(u35 60),(u35 61),(u35 62),(u35 63),(u35 64),(u35 65),(u35 66),(u35 67),(u35 68),(u35 69),(u35 70),(u35 71),(u35 72),(u35 73),(u35 74),(u35 75),(u35 76),(u35 77),(u23 78),(u35 79),(u35 80),(u35 81),(u35 82),(u35 83),(u35 84),(u35 85),(u35 86),(u35 87),(u35 88),(u23 89),undef,undef,undef,undef,undef,undef,undef,undef,undef,undef,undef,undef,undef,undef,undef,undef,undef,undef,undef,undef,undef,undef,undef,undef,undef,undef,undef,undef,undef,undef,undef,undef,undef,undef,undef,undef,undef,undef,undef,undef,undef,undef,undef,undef,undef,undef,undef,undef,undef,undef,undef,undef,undef,undef,undef,undef,undef,undef,undef,undef,undef,undef,undef,undef,undef,undef,undef,undef,undef,undef,undef,undef,undef,undef,undef,undef,undef,undef,undef,undef,undef,undef,undef,undef,undef,undef,undef,undef,undef,undef,undef,undef,undef,undef,undef,undef,undef,undef,undef,undef,undef,undef,undef,undef,undef,undef,undef,undef,undef,undef,undef,undef,undef,undef,undef,undef,undef,undef,undef,undef,undef,undef,undef,undef,undef].toArray,[]⟩∧j≤N∧(∀ r,r<j→(X i r).length≤20)∧Ow ETxt 61 1 w' w23.heap.size vi (tb (fun z1=>(X i z1)) j)∧Gr w23 w'∧Gr w w') (N - 0) ?_ ?_
   ·exact ⟨0,(.slice none 0 0),(fun i=>List.getD ?l35 i undef),rfl,rfl,(Nat.zero_le _),(fun r h=>absurd h (Nat.not_lt_zero r)),(Ow.nil _ _ _ _ _),hC,hB⟩
   rintro n35 a35 w35 ⟨j,vi,u35,rfl,rfl,hkj,hrw,oi,hC,hB⟩ K35 k35
   have lehI:=Below.size hB
   have lehI_hC:=Below.size hC
   have hI:=Gr.refl w35
   refine wp_seq_k (fun K36 k36=>?_)
   refine wp_seq_k (fun K37 k37=>?_)
   refine rg [0,1,2,3,4,5,6] ?_
   refine sv 40 (.int .i64 ((j:Int))) ?_
   refine sv 41 v ?_
   refine sv 42 (.int .i64 ((i:Int))) ?_
   refine sw 43 (adr v (i*1)) rfl (rv_idxn (e:=59) hx tb_len (by decide) i (by omega) _ _ _ rfl rfl rfl (by kernel_rfl) (by kernel_rfl)) ?_
   refine sw 44 u30 rfl (rv_ld1 u30 (at30.gr hB) _ _ rfl rfl (by kernel_rfl)) ?_
   refine sw 45 (.int .i64 ((N:Int))) rfl (rv_lenn (e:=9) hr30 (tb_lenz rfl) _ _ rfl rfl (by kernel_rfl)) ?_
   refine sv 46 (.bool (decide ((j:Int)<(N:Int)))) ?_
   refine sq_nil ?_
   refine k37 _ _ ?_
   try clear k37 K37
   refine wp_cond_split (t:=decide ((j:Int)<(N:Int))) rfl (fun hb38=>?_) (fun hb38=>?_)
   ·have hlj:j<N:=by have:=of_decide_eq_true hb38;omega
    refine wp_skip ?_
    refine k36 _ _ ?_
    try clear k36 K36
    refine wp_seq_k (fun K39 k39=>?_)
    refine wp_block ?_
    refine wp_seq_k (fun K40 k40=>?_)
    refine wp_seq_k (fun K41 k41=>?_)
    refine rg [0,1,2,3,4,5,6,7,8] ?_
    refine sv 49 v ?_
    refine sv 50 (.int .i64 ((i:Int))) ?_
    refine sw 51 (adr v (i*1)) rfl (rv_idxn (e:=59) hx tb_len (by decide) i (by omega) _ _ _ rfl rfl rfl (by kernel_rfl) (by kernel_rfl)) ?_
    refine sw 52 u30 rfl (rv_ld1 u30 (at30.gr hB) _ _ rfl rfl (by kernel_rfl)) ?_
    refine sv 53 (.int .i64 ((j:Int))) ?_
    refine sw 54 (adr u30 (j*1)) rfl (rv_idxn (e:=9) hr30 tb_len (by decide) j (by omega) _ _ _ rfl rfl rfl (by kernel_rfl) (by kernel_rfl)) ?_
    obtain ⟨_,_,rfl,at42⟩:=Sl.get hr30 (by decide) (tb_get (f:=(fun z1=>(X i z1))) (n:=N) (i:=j) (by omega))
    refine sw 55 (.string ⟨((X i j):List UInt8).toArray⟩) rfl (rv_ld1 (.string ⟨((X i j):List UInt8).toArray⟩) (at42.gr hB) _ _ rfl rfl (by kernel_rfl)) ?_
    refine sv 56 (.int .i64 ((((X i j)).length:Int))) ?_
    refine sv 57 (.bool (decide ((20:Int)<(((X i j)).length:Int)))) ?_
    refine sq_nil ?_
    refine k41 _ _ ?_
    try clear k41 K41
    refine wp_cond_split (t:=decide ((20:Int)<(((X i j)).length:Int))) rfl (fun hb43=>?_) (fun hb43=>?_)
    ·have h20:20<(X i j).length:=by have:=of_decide_eq_true hb43;omega
     refine wp_seq_k (fun K44 k44=>?_)
     refine rg [0] ?_
     refine sv 2 (.bool true) ?_
     refine sq_nil ?_
     refine k44 _ _ ?_
     try clear k44 K44
     refine wp_ret ?_
     simp only [Exit.then,Exit.inBlock]
     refine bodyPost_ret (v:=(.bool true)) (ret_tmp rfl rfl) rfl ⟨?_,hB⟩
     exact rfl
    ·have h20:¬ 20<(X i j).length:=by have:=of_decide_eq_false hb43;omega
     refine wp_skip ?_
     refine k40 _ _ ?_
     try clear k40 K40
     refine rg [0,1,2,3,4,5,6,7,8,9,10] ?_
     refine sv 58 vi ?_
     refine sv 59 v ?_
     refine sv 60 (.int .i64 ((i:Int))) ?_
     refine sw 61 (adr v (i*1)) rfl (rv_idxn (e:=59) hx tb_len (by decide) i (by omega) _ _ _ rfl rfl rfl (by kernel_rfl) (by kernel_rfl)) ?_
     refine sw 62 u30 rfl (rv_ld1 u30 (at30.gr hB) _ _ rfl rfl (by kernel_rfl)) ?_
     refine sv 63 (.int .i64 ((j:Int))) ?_
     refine sw 64 (adr u30 (j*1)) rfl (rv_idxn (e:=9) hr30 tb_len (by decide) j (by omega) _ _ _ rfl rfl rfl (by kernel_rfl) (by kernel_rfl)) ?_
     refine sw 65 (.string ⟨((X i j):List UInt8).toArray⟩) rfl (rv_ld1 (.string ⟨((X i j):List UInt8).toArray⟩) (at42.gr hB) _ _ rfl rfl (by kernel_rfl)) ?_
     refine se ?_
     refine eff_bs 61 1 #[(.string ⟨((X i j):List UInt8).toArray⟩)] (some 66) rfl (fun _=>by kernel_rfl) (fun b45 w45 g45 L45 q45=>?_)
     have q45_hC:=Nat.le_trans (Below.size hC) q45
     have q45_hI:=Nat.le_trans (Below.size hI) q45
     replace hB:=hB.trans g45
     replace hC:=hC.trans g45
     replace hI:=hI.trans g45
     simp only [putl,p3,p4]
     refine se ?_
     refine eff_apg stab_txt _ _ 60 61 w23.heap.size (.string ⟨([]:List UInt8).toArray⟩) vi (tb (fun z1=>(X i z1)) j) b45 [(.string ⟨((X i j):List UInt8).toArray⟩)] ((X i j):List UInt8) 1 1 (some 67) 16 rfl rfl rfl rfl (oi.gr stab_txt hI) L45 ⟨rfl,trivial⟩ rfl rfl (Below.size hC) (by rw [tb_len];omega) (by decide) (by kernel_rfl) (by kernel_rfl) (by decide) (by decide) (fun v46 w46 ow46 wt46 hg46=>?_)
     replace hB:=hg46 _ hB lehC
     replace hC:=hg46 _ hC (Nat.le_refl _)
     replace ow46:=ow46.cast (tb_snoc (f:=(fun z1=>(X i z1))) (n:=j) (by first | rfl | exact fil_all))
     simp only [putl,p3,p4]
     refine sv 6 v46 ?_
     refine sq_nil ?_
     refine k39 _ _ ?_
     try clear k39 K39
     refine rg [0,1,2] ?_
     refine sv 47 (.int .i64 ((j:Int))) ?_
     refine sw 48 (.int .i64 (((j:Int)+1))) rfl (RunV.int (x:=IntKind.i64.wrap (((j:Int)+1))) (y:=((j:Int)+1)) (rvk (by kernel_rfl)) (by first | rfl | (rw [IntKind.wrap_i64];omega))) ?_
     refine sv 7 (.int .i64 (((j:Int)+1))) ?_
     refine sq_nil ?_
     refine k35 (N - (j+1)) ⟨List.toArray ?l47,[]⟩ _ (by omega) ?_
     exact ⟨j+1,v46,(fun i=>List.getD ?l47 i undef),rfl,rfl,(by omega),(all_succ3 hrw (by omega)),ow46,hC,hB⟩
   ·have hej:N=j:=by have:=of_decide_eq_false hb38;omega
    subst hej
    refine wp_exit ?_
    simp only [Exit.then,Exit.inBlock,↓reduceIte]
    refine k33 _ _ ?_
    try clear k33 K33
    refine wp_seq_k (fun K48 k48=>?_)
    refine rg [0,1,2,3,4] ?_
    refine sv 68 vo ?_
    refine sv 69 vi ?_
    refine se ?_
    refine eff_bs1 58 60 vi (some 70) rfl rfl rfl ((oi.gr stab_txt hI).sl).forms (fun _ _ _ _=>by kernel_rfl) (fun b49 w49 g49 L49 q49=>?_)
    have q49_hC:=Nat.le_trans (Below.size hC) q49
    have q49_hI:=Nat.le_trans (Below.size hI) q49
    replace hB:=hB.trans g49
    replace hC:=hC.trans g49
    replace hI:=hI.trans g49
    simp only [putl,p3,p4]
    refine se ?_
    refine eff_apg (stab_rw stab_txt 61 1) _ _ 58 60 w.heap.size (.slice none 0 0) vo (tb (fun z0=>tb (fun z1=>(X z0 z1)) N) i) b49 [vi] (tb (fun z1=>(X i z1)) N) 1 1 (some 71) 24 rfl rfl rfl rfl (oo.gr (stab_rw stab_txt 61 1) hC) L49 ⟨oi.one,trivial⟩ rfl ⟨_,rfl,((oi.gr stab_txt hI).sl)⟩ (Below.size hB) (by rw [tb_len];omega) (by decide) (by kernel_rfl) (by kernel_rfl) (by decide) (by decide) (fun v50 w50 ow50 wt50 hg50=>?_)
    replace hB:=hg50 _ hB (Nat.le_refl _)
    replace ow50:=ow50.cast (tb_snoc (f:=(fun z0=>tb (fun z1=>(X z0 z1)) N)) (n:=i) (by first | rfl | exact fil_all))
    simp only [putl,p3,p4]
    refine sv 3 v50 ?_
    refine sq_nil ?_
    refine k48 _ _ ?_
    try clear k48 K48
    refine wp_seq_k (fun K51 k51=>?_)
    refine wp_seq_k (fun K52 k52=>?_)
    refine rg [0,1,2,3,4,5,6] ?_
    refine sv 72 (.int .i64 0) ?_
    refine sv 73 (.bool true) ?_
    refine sv 74 (.bool true) ?_
    refine sv 75 vi ?_
    refine sw 76 (.int .i64 ((N:Int))) rfl (rv_lenn (e:=61) oi.sl (tb_lenz rfl) _ _ rfl rfl (by kernel_rfl)) ?_
    have hb53:(decide ((96:Int)<(N:Int)))=false:=(by simp only [decide_eq_false_iff_not];omega)
    refine sw 77 (.bool false) rfl (RunV.bool (x:=decide ((96:Int)<(N:Int))) (rvk (by kernel_rfl)) hb53) ?_
    refine sv 78 (.bool false) ?_
    refine sq_nil ?_
    refine k52 _ _ ?_
    try clear k52 K52
    refine wp_cond_false rfl ?_
    refine wp_skip ?_
    refine k51 _ _ ?_
    try clear k51 K51
    refine wp_seq_k (fun K54 k54=>?_)
    refine rg [0,1,2,3,4,5,6,7,8,9,10] ?_
    refine sv 79 (.int .i64 0) ?_
    refine sv 80 (.bool true) ?_
    refine sv 81 (.bool true) ?_
    refine sv 82 vi ?_
    refine sw 83 (.int .i64 ((N:Int))) rfl (rv_lenn (e:=61) oi.sl (tb_lenz rfl) _ _ rfl rfl (by kernel_rfl)) ?_
    refine sv 84 v ?_
    refine sw 85 (adr v (0*1)) rfl (rv_idxn (e:=59) hx tb_len (by decide) 0 (by omega) _ _ _ rfl rfl rfl (by kernel_rfl) (by kernel_rfl)) ?_
    obtain ⟨_,_,⟨u55,TT55,rfl,hr55⟩,at55⟩:=Sl.get hx (by decide) (tb_get (f:=(fun z0=>tb (fun z1=>(X z0 z1)) N)) (n:=Z) (i:=0) (by omega))
    refine sw 86 u55 rfl (rv_ld1 u55 (at55.gr hB) _ _ rfl rfl (by kernel_rfl)) ?_
    refine sw 87 (.int .i64 ((N:Int))) rfl (rv_lenn (e:=9) hr55 (tb_lenz rfl) _ _ rfl rfl (by kernel_rfl)) ?_
    have hb56:(((N:Int) !=(N:Int)))=false:=(by simp)
    refine sw 88 (.bool false) rfl (RunV.bool (x:=((N:Int) !=(N:Int))) (rvk (by kernel_rfl)) hb56) ?_
    refine sv 89 (.bool false) ?_
    refine sq_nil ?_
    refine k54 _ _ ?_
    try clear k54 K54
    refine wp_cond_false rfl ?_
    refine wp_skip ?_
    refine k27 _ _ ?_
    try clear k27 K27
    refine rg [0,1,2] ?_
    refine sv 32 (.int .i64 ((i:Int))) ?_
    refine sw 33 (.int .i64 (((i:Int)+1))) rfl (RunV.int (x:=IntKind.i64.wrap (((i:Int)+1))) (y:=((i:Int)+1)) (rvk (by kernel_rfl)) (by first | rfl | (rw [IntKind.wrap_i64];omega))) ?_
    refine sv 5 (.int .i64 (((i:Int)+1))) ?_
    refine sq_nil ?_
    refine k23 (Z - (i+1)) ⟨List.toArray ?l57,[]⟩ _ (by omega) ?_
    exact ⟨i+1,v50,(fun i=>List.getD ?l57 i undef),rfl,rfl,(by omega),(all_succ3 hsh hrw),ow50,hB⟩
  ·have hei:Z=i:=by have:=of_decide_eq_false hb26;omega
   subst hei
   refine wp_exit ?_
   simp only [Exit.then,Exit.inBlock,↓reduceIte]
   refine k21 _ _ ?_
   try clear k21 K21
   refine wp_seq_k (fun K58 k58=>?_)
   refine wp_seq_k (fun K59 k59=>?_)
   have lehD:=Below.size hB
   have lehD_hC:=Below.size hC
   have hD:=Gr.refl w23
   refine rg [0] ?_
   refine sv 8 (.int .i64 0) ?_
   refine sq_nil ?_
   refine k59 _ _ ?_
   try clear k59 K59
   refine wp_block ?_
   refine wp_loop_inv (a:=⟨List.toArray ?l60,[]⟩) (fun n a w'=>∃ (q:Nat) (u60:Nat→Value),Z - q=n∧a=⟨[v,undef,(u23 2),vo,(.int .i64 0),(.int .i64 ((Z:Int))),(u23 6),(u23 7),(.int .i64 ((q:Int))),undef,undef,undef,undef,undef,undef,undef,undef,undef,undef,undef,(u60 20),(u60 21),(u60 22),(u60 23),(u60 24),(u60 25),(.bool (decide ((8:Int)<(Z:Int)))),undef,(u60 28),(u60 29),(u60 30),(.bool (decide ((Z:Int)<(Z:Int)))),(u60 32),(u60 33),(u60 34),(u60 35),(u60 36),(u60 37),(u60 38),(u23 39),(u60 40),(u60 41),(u60 42),(u60 43),(u60 44),(u60 45),(u23 46),(u60 47),(u60 48),(u60 49),(u60 50),(u60 51),(u60 52),(u60 53),(u60 54),(u60 55),(u60 56),(u23 57),(u60 58),(u60 59),(u60 60),(u60 61),(u60 62),(u60 63),(u60 64),(u60 65),(u60 66),(u60 67),(u60 68),(u60 69),(u60 70),(u60 71),(u60 72),(u60 73),(u60 74),(u60 75),(u60 76),(u60 77),(u23 78),(u60 79),(u60 80),(u60 81),(u60 82),(u60 83),(u60 84),(u60 85),(u60 86),(u60 87),(u60 88),(u23 89),(u60 90),(u60 91),(u60 92),(u60 93),(u60 94),(u60 95),(u60 96),(u60 97),(u60 98),(u60 99),(u60 100),(u60 101),(u60 102),(u60 103),(u60 104),(u60 105),(u60 106),(u60 107),undef,undef,undef,undef,undef,undef,undef,undef,undef,undef,undef,undef,undef,undef,undef,undef,undef,undef,undef,undef,undef,undef,undef,undef,undef,undef,undef,undef,undef,undef,undef,undef,undef,undef,undef,undef,undef,undef,undef,undef,undef,undef,undef,undef,undef,undef,undef,undef,undef,undef,undef,undef,undef,undef,undef,undef,undef,undef,undef,undef,undef,undef,undef,undef,undef,undef,undef,undef,undef,undef,undef,undef,undef,undef,undef,undef,undef,undef,undef,undef,undef,undef,undef,undef,undef,undef,undef,undef,undef,undef,undef,undef,undef,undef,undef,undef,undef,undef,undef,undef,undef,undef,undef,undef,undef,undef,undef].toArray,[]⟩∧q≤Z∧Gr w23 w'∧Gr w23 w'∧Gr w w') (Z - 0) ?_ ?_
   ·exact ⟨0,(fun i=>List.getD ?l60 i undef),rfl,rfl,(Nat.zero_le _),hC,hD,hB⟩
   rintro n60 a60 w60 ⟨q,u60,rfl,rfl,hkq,hC,hD,hB⟩ K60 k60
   refine wp_seq_k (fun K61 k61=>?_)
   refine wp_seq_k (fun K62 k62=>?_)
   refine rg [0,1,2,3,4,5,6,7] ?_
   refine sv 90 (.int .i64 ((q:Int))) ?_
   refine sv 91 vo ?_
   refine sw 92 (.int .i64 ((Z:Int))) rfl (rv_lenn (e:=60) oo.sl (tb_lenz rfl) _ _ rfl rfl (by kernel_rfl)) ?_
   refine sv 93 (.bool (decide ((q:Int)<(Z:Int)))) ?_
   rcases Bool.eq_false_or_eq_true (decide ((q:Int)<(Z:Int))) with hb63 | hb63
   ·have hlq:q<Z:=by have:=of_decide_eq_true hb63;omega
    refine sw 94 (.bool true) rfl (RunV.bool (x:=decide ((q:Int)<(Z:Int))) (rvk (by kernel_rfl)) hb63) ?_
    refine sv 95 (.int .i64 0) ?_
    refine sv 96 (.bool true) ?_
    refine sv 97 (.bool true) ?_
    refine sq_nil ?_
    refine k62 _ _ ?_
    try clear k62 K62
    refine wp_cond_true rfl ?_
    refine wp_skip ?_
    refine k61 _ _ ?_
    try clear k61 K61
    refine wp_seq_k (fun K64 k64=>?_)
    refine wp_block ?_
    refine rg [0,1,2,3,4,5,6,7,8] ?_
    refine sv 101 vo ?_
    refine sv 102 (.int .i64 ((q:Int))) ?_
    refine sw 103 (adr vo (q*1)) rfl (rv_idxn (e:=60) oo.sl tb_len (by decide) q (by omega) _ _ _ rfl rfl rfl (by kernel_rfl) (by kernel_rfl)) ?_
    obtain ⟨_,_,⟨u65,rfl,hr65⟩,at65⟩:=Sl.get oo.sl (by decide) (tb_get (f:=(fun z0=>tb (fun z1=>(X z0 z1)) N)) (n:=Z) (i:=q) (by omega))
    refine sw 104 u65 rfl (rv_ld1 u65 (at65.gr hC) _ _ rfl rfl (by kernel_rfl)) ?_
    refine se ?_
    refine ec 105 (parses_0 (by omega) (hsh q hlq) (rfe_zero hr hlq) (hr65.gr stab_txt hC) (hm.gr hB)) ?_
    rintro e66 w66 ⟨⟨u66,rfl,hs66⟩,g66⟩
    refine ⟨_,rfl,?_⟩
    replace hB:=hB.trans g66
    replace hC:=hC.trans g66
    replace hD:=hD.trans g66
    simp only [p3,p4]
    refine sv 100 (.tuple #[u66,(.int .i64 0)]) ?_
    refine sv 106 u66 ?_
    refine sv 107 (.int .i64 0) ?_
    refine sv 4 (.int .i64 0) ?_
    refine sq_nil ?_
    refine k64 _ _ ?_
    try clear k64 K64
    refine rg [0,1,2] ?_
    refine sv 98 (.int .i64 ((q:Int))) ?_
    refine sw 99 (.int .i64 (((q:Int)+1))) rfl (RunV.int (x:=IntKind.i64.wrap (((q:Int)+1))) (y:=((q:Int)+1)) (rvk (by kernel_rfl)) (by first | rfl | (rw [IntKind.wrap_i64];omega))) ?_
    refine sv 8 (.int .i64 (((q:Int)+1))) ?_
    refine sq_nil ?_
    refine k60 (Z - (q+1)) ⟨List.toArray ?l67,[]⟩ _ (by omega) ?_
    exact ⟨q+1,(fun i=>List.getD ?l67 i undef),rfl,rfl,(by omega),hC,hD,hB⟩
   ·have heq:Z=q:=by have:=of_decide_eq_false hb63;omega
    refine swk 94 (.bool false) [(5,95),(6,96)] rfl (RunV.bool (x:=decide ((q:Int)<(Z:Int))) (rvk (by kernel_rfl)) hb63) ?_
    refine sv 97 (.bool false) ?_
    refine sq_nil ?_
    refine k62 _ _ ?_
    try clear k62 K62
    refine wp_cond_false rfl ?_
    refine wp_exit ?_
    simp only [Exit.then,Exit.inBlock,↓reduceIte]
    refine k58 _ _ ?_
    try clear k58 K58
    refine wp_seq_k (fun K68 k68=>?_)
    refine rg [0,1,2,3,4,5,6] ?_
    refine sv 109 vo ?_
    refine se ?_
    refine ec 110 (mx_Parse_0 (Z:=Z) (N:=N) (X:=X) (by omega) (by omega) hsh hr (hm.gr hB) ((oo.gr (stab_rw stab_txt 61 1) hC).sl)) ?_
    rintro e69 w69 ⟨⟨u69,rfl,hs69⟩,g69⟩
    refine ⟨_,rfl,?_⟩
    replace hB:=hB.trans g69
    replace hC:=hC.trans g69
    replace hD:=hD.trans g69
    simp only [p3,p4]
    refine sv 108 (.tuple #[u69,(.int .i64 0)]) ?_
    refine sv 111 u69 ?_
    refine sv 112 (.int .i64 0) ?_
    refine sv 9 u69 ?_
    refine sv 10 (.int .i64 0) ?_
    refine sq_nil ?_
    refine k68 _ _ ?_
    try clear k68 K68
    refine wp_seq_k (fun K70 k70=>?_)
    refine rg [0,1,2,3,4,5,6,7,8] ?_
    refine se ?_
    refine eff_mk (E:=ERw (ERat 64) 71 4) ([]:List Rat) 29 49 (.slice none 0 0) 257 1 24 (some 114) rfl rfl rfl rfl (by kernel_rfl) (by kernel_rfl) (by decide) (by decide) (by decide) (fun _=>⟨_,rfl,Sl.nil _ _ _ _ none 0⟩) (fun b71 w71 g71 mk71 q71=>?_)
    have q71_hC:=Nat.le_trans (Below.size hC) q71
    have q71_hD:=Nat.le_trans (Below.size hD) q71
    replace hB:=hB.trans g71
    replace hC:=hC.trans g71
    replace hD:=hD.trans g71
    simp only [putl,p3,p4]
    refine se ?_
    refine ec 115 (mx_Size_l (R:=257) (N:=0) (m:=fun _ _=>0) (by decide) ((mk71.sl_n (List.length_replicate) (Nat.le_refl _)).cast (show _=tb (fun z0=>tb (fun z1=>(0:Rat)) 0) 257 from by kernel_rfl))) ?_
    rintro e72 w72 ⟨rfl,g72⟩
    refine ⟨_,rfl,?_⟩
    replace hB:=hB.trans g72
    replace hC:=hC.trans g72
    replace hD:=hD.trans g72
    simp only [p3,p4]
    refine sv 113 (.tuple #[(.int .i64 0),(.int .i64 0),(.int .i64 6)]) ?_
    refine sv 116 (.int .i64 0) ?_
    refine sv 117 (.int .i64 0) ?_
    refine sv 118 (.int .i64 6) ?_
    refine sv 11 (.int .i64 0) ?_
    refine sv 12 (.int .i64 0) ?_
    refine sv 13 (.int .i64 6) ?_
    refine sq_nil ?_
    refine k70 _ _ ?_
    try clear k70 K70
    refine wp_seq_k (fun K73 k73=>?_)
    refine wp_seq_k (fun K74 k74=>?_)
    refine rg [0,1,2,3,4,5,6] ?_
    refine sv 119 (.int .i64 0) ?_
    refine sv 120 (.int .i64 0) ?_
    refine sv 121 (.bool false) ?_
    refine sv 122 (.bool false) ?_
    refine sv 123 (.int .i64 6) ?_
    refine sv 124 (.bool false) ?_
    refine sv 125 (.bool false) ?_
    refine sq_nil ?_
    refine k74 _ _ ?_
    try clear k74 K74
    refine wp_cond_false rfl ?_
    refine wp_skip ?_
    refine k73 _ _ ?_
    try clear k73 K73
    refine wp_seq_k (fun K75 k75=>?_)
    refine wp_seq_k (fun K76 k76=>?_)
    refine rg [0,1] ?_
    refine sv 126 (.int .i64 0) ?_
    refine sv 127 (.bool false) ?_
    refine sq_nil ?_
    refine k76 _ _ ?_
    try clear k76 K76
    refine wp_cond_false rfl ?_
    refine wp_skip ?_
    refine k75 _ _ ?_
    try clear k75 K75
    refine wp_seq_k (fun K77 k77=>?_)
    refine rg [0,1,2] ?_
    refine sv 131 u69 ?_
    refine se ?_
    replace hs69:=hs69.gr (stab_rw (stab_rat 160) 71 4) (g71.trans g72)
    refine ec 132 (mx_Numbers (Z:=Z) (N:=N) (X:=X) (by omega) (by omega) hr (ht.gr hB) hs69) ?_
    rintro e78 w78 ⟨⟨u78,rfl,hs78⟩,g78⟩
    refine ⟨_,rfl,?_⟩
    replace hB:=hB.trans g78
    replace hC:=hC.trans g78
    replace hD:=hD.trans g78
    simp only [p3,p4]
    refine sv 14 u78 ?_
    refine sq_nil ?_
    refine k77 _ _ ?_
    try clear k77 K77
    refine wp_seq_k (fun K79 k79=>?_)
    refine rg [0,1,2,3,4,5,6,7,8] ?_
    refine sv 134 u69 ?_
    refine se ?_
    replace hs69:=hs69.gr (stab_rw (stab_rat 160) 71 4) g78
    refine ec 135 (mx_Size (m:=fun i k=>valT (X i k)) (by omega) (by omega) (by omega) hs69) ?_
    rintro e80 w80 ⟨rfl,g80⟩
    refine ⟨_,rfl,?_⟩
    replace hB:=hB.trans g80
    replace hC:=hC.trans g80
    replace hD:=hD.trans g80
    simp only [p3,p4]
    refine sv 133 (.tuple #[(.int .i64 ((Z:Int))),(.int .i64 ((N:Int))),(.int .i64 0)]) ?_
    refine sv 136 (.int .i64 ((Z:Int))) ?_
    refine sv 137 (.int .i64 ((N:Int))) ?_
    refine sv 138 (.int .i64 0) ?_
    refine sv 15 (.int .i64 ((Z:Int))) ?_
    refine sv 16 (.int .i64 ((N:Int))) ?_
    refine sv 17 (.int .i64 0) ?_
    refine sq_nil ?_
    refine k79 _ _ ?_
    try clear k79 K79
    refine wp_seq_k (fun K81 k81=>?_)
    refine wp_seq_k (fun K82 k82=>?_)
    refine rg [0,1,2,3,4,5,6,7,8,9,10,11,12,13,14,15,16,17,18,19,20,21,22,23,24,25,26,27,28,29,30,31,32,33,34] ?_
    refine sv 139 u78 ?_
    refine sw 140 (.int .i64 ((Z:Int))) rfl (rv_lenn (e:=60) hs78 (tb_lenz rfl) _ _ rfl rfl (by kernel_rfl)) ?_
    refine sv 141 vo ?_
    refine sw 142 (.int .i64 ((Z:Int))) rfl (rv_lenn (e:=60) oo.sl (tb_lenz rfl) _ _ rfl rfl (by kernel_rfl)) ?_
    have hb83:(((Z:Int) !=(Z:Int)))=false:=(by simp)
    refine sw 143 (.bool false) rfl (RunV.bool (x:=((Z:Int) !=(Z:Int))) (rvk (by kernel_rfl)) hb83) ?_
    refine sv 144 (.bool false) ?_
    refine sv 145 (.int .i64 ((Z:Int))) ?_
    refine sv 146 vo ?_
    refine sw 147 (.int .i64 ((Z:Int))) rfl (rv_lenn (e:=60) oo.sl (tb_lenz rfl) _ _ rfl rfl (by kernel_rfl)) ?_
    refine sw 148 (.bool false) rfl (RunV.bool (x:=((Z:Int) !=(Z:Int))) (rvk (by kernel_rfl)) hb83) ?_
    refine sv 149 (.bool false) ?_
    refine sv 150 (.bool false) ?_
    refine sv 151 (.int .i64 0) ?_
    refine sv 152 (.bool false) ?_
    refine sv 153 (.bool false) ?_
    refine sv 154 (.bool false) ?_
    refine sv 155 (.int .i64 ((Z:Int))) ?_
    have hb84:(decide ((0:Int)<(Z:Int)))=true:=(by simp only [decide_eq_true_eq];omega)
    refine sw 156 (.bool true) rfl (RunV.bool (x:=decide ((0:Int)<(Z:Int))) (rvk (by kernel_rfl)) hb84) ?_
    refine sv 157 (.bool true) ?_
    refine sv 158 (.int .i64 ((N:Int))) ?_
    refine sv 159 vo ?_
    refine sw 160 (adr vo (0*1)) rfl (rv_idxn (e:=60) oo.sl tb_len (by decide) 0 (by omega) _ _ _ rfl rfl rfl (by kernel_rfl) (by kernel_rfl)) ?_
    obtain ⟨_,_,⟨u85,rfl,hr85⟩,at85⟩:=Sl.get oo.sl (by decide) (tb_get (f:=(fun z0=>tb (fun z1=>(X z0 z1)) N)) (n:=Z) (i:=0) (by omega))
    refine sw 161 u85 rfl (rv_ld1 u85 (at85.gr hC) _ _ rfl rfl (by kernel_rfl)) ?_
    refine sw 162 (.int .i64 ((N:Int))) rfl (rv_lenn (e:=61) hr85 (tb_lenz rfl) _ _ rfl rfl (by kernel_rfl)) ?_
    have hb86:(((N:Int) !=(N:Int)))=false:=(by simp)
    refine sw 163 (.bool false) rfl (RunV.bool (x:=((N:Int) !=(N:Int))) (rvk (by kernel_rfl)) hb86) ?_
    refine sv 164 (.bool false) ?_
    refine sv 165 (.bool false) ?_
    refine sv 166 (.bool false) ?_
    refine sv 167 (.int .i64 ((Z:Int))) ?_
    have hb87:(((Z:Int)==(0:Int)))=false:=(by simp;omega)
    refine sw 168 (.bool false) rfl (RunV.bool (x:=((Z:Int)==(0:Int))) (rvk (by kernel_rfl)) hb87) ?_
    refine swk 169 (.bool false) [(31,170),(32,171)] rfl (rvk (by kernel_rfl)) ?_
    refine sv 172 (.bool false) ?_
    refine sv 173 (.bool false) ?_
    refine sq_nil ?_
    refine k82 _ _ ?_
    try clear k82 K82
    refine wp_cond_false rfl ?_
    refine wp_skip ?_
    refine k81 _ _ ?_
    try clear k81 K81
    refine wp_seq_k (fun K88 k88=>?_)
    refine wp_seq_k (fun K89 k89=>?_)
    have lehE:=Below.size hB
    have lehE_hC:=Below.size hC
    have lehE_hD:=Below.size hD
    have hE:=Gr.refl w80
    replace hs69:=hs69.gr (stab_rw (stab_rat 160) 71 4) g80
    replace hs78:=hs78.gr (stab_rw stab_txt 61 1) g80
    refine rg [0] ?_
    refine sv 18 (.int .i64 0) ?_
    refine sq_nil ?_
    refine k89 _ _ ?_
    try clear k89 K89
    refine wp_block ?_
    refine wp_loop_inv (a:=⟨List.toArray ?l90,[]⟩) (fun n a w'=>∃ (g:Nat) (u90:Nat→Value),Z - g=n∧a=⟨[v,undef,(u90 2),vo,(.int .i64 0),(.int .i64 ((Z:Int))),(u23 6),(u23 7),(.int .i64 ((q:Int))),u69,(.int .i64 0),(u90 11),(u90 12),(.int .i64 6),u78,(.int .i64 ((Z:Int))),(.int .i64 ((N:Int))),(.int .i64 0),(.int .i64 ((g:Int))),(u90 19),(u90 20),(u90 21),(u90 22),(u90 23),(u90 24),(u90 25),(.bool (decide ((8:Int)<(Z:Int)))),undef,(u90 28),(u90 29),(u90 30),(.bool (decide ((Z:Int)<(Z:Int)))),(u90 32),(u90 33),(u90 34),(u90 35),(u90 36),(u90 37),(u90 38),(u23 39),(u90 40),(u90 41),(u90 42),(u90 43),(u90 44),(u90 45),(u23 46),(u90 47),(u90 48),(u90 49),(u90 50),(u90 51),(u90 52),(u90 53),(u90 54),(u90 55),(u90 56),(u23 57),(u90 58),(u90 59),(u90 60),(u90 61),(u90 62),(u90 63),(u90 64),(u90 65),(u90 66),(u90 67),(u90 68),(u90 69),(u90 70),(u90 71),(u90 72),(u90 73),(u90 74),(u90 75),(u90 76),(u90 77),(u23 78),(u90 79),(u90 80),(u90 81),(u90 82),(u90 83),(u90 84),(u90 85),(u90 86),(u90 87),(u90 88),(u23 89),(u90 90),(u90 91),(u90 92),(u90 93),(u90 94),undef,undef,(.bool false),(u90 98),(u90 99),(u90 100),(u90 101),(u90 102),(u90 103),(u90 104),(u90 105),(u90 106),(u90 107),(u90 108),(u90 109),(u90 110),(u90 111),(u90 112),(u90 113),(u90 114),(u90 115),(u90 116),(u90 117),(u90 118),(u90 119),(u90 120),(u90 121),(u90 122),(u90 123),(u90 124),(.bool false),(u90 126),(.bool false),undef,undef,undef,(u90 131),(u90 132),(u90 133),(u90 134),(u90 135),(u90 136),(u90 137),(u90 138),(u90 139),(u90 140),(u90 141),(u90 142),(u90 143),(u90 144),(u90 145),(u90 146),(u90 147),(u90 148),(u90 149),(u90 150),(u90 151),(u90 152),(u90 153),(u90 154),(u90 155),(u90 156),(u90 157),(u90 158),(u90 159),(u90 160),(u90 161),(u90 162),(u90 163),(u90 164),(u90 165),(u90 166),(u90 167),(u90 168),(u90 169),undef,undef,(u90 172),(.bool false),(u90 174),(u90 175),(u90 176),(u90 177),(u90 178),(u90 179),(u90 180),(u90 181),(u90 182),(u90 183),(u90 184),(u90 185),(u90 186),(u90 187),(u90 188),(u90 189),(u90 190),(u90 191),(u90 192),(u90 193),(u90 194),(u90 195),(u90 196),(u90 197),(u90 198),(u90 199),(u90 200),(u90 201),(u90 202),(u90 203),(u90 204),(u90 205),(u90 206),(u90 207),(u90 208),(u90 209),(u90 210),(u90 211),(u90 212),(u90 213),(u90 214)].toArray,[]⟩∧g≤Z∧Gr w23 w'∧Gr w23 w'∧Gr w80 w'∧Gr w w') (Z - 0) ?_ ?_
    ·exact ⟨0,(fun i=>List.getD ?l90 i undef),rfl,rfl,(Nat.zero_le _),hC,hD,hE,hB⟩
    rintro n90 a90 w90 ⟨g,u90,rfl,rfl,hkg,hC,hD,hE,hB⟩ K90 k90
    refine wp_seq_k (fun K91 k91=>?_)
    refine wp_seq_k (fun K92 k92=>?_)
    refine rg [0,1,2,3] ?_
    refine sv 174 (.int .i64 ((g:Int))) ?_
    refine sv 175 u78 ?_
    refine sw 176 (.int .i64 ((Z:Int))) rfl (rv_lenn (e:=60) hs78 (tb_lenz rfl) _ _ rfl rfl (by kernel_rfl)) ?_
    refine sv 177 (.bool (decide ((g:Int)<(Z:Int)))) ?_
    refine sq_nil ?_
    refine k92 _ _ ?_
    try clear k92 K92
    refine wp_cond_split (t:=decide ((g:Int)<(Z:Int))) rfl (fun hb93=>?_) (fun hb93=>?_)
    ·have hlg:g<Z:=by have:=of_decide_eq_true hb93;omega
     refine wp_skip ?_
     refine k91 _ _ ?_
     try clear k91 K91
     refine wp_seq_k (fun K94 k94=>?_)
     refine wp_block ?_
     refine wp_seq_k (fun K95 k95=>?_)
     refine wp_seq_k (fun K96 k96=>?_)
     obtain ⟨_,_,⟨u98,rfl,hr98⟩,at98⟩:=Sl.get hs78 (by decide) (tb_get (f:=(fun z0=>tb (fun z1=>(X z0 z1)) N)) (n:=Z) (i:=g) (by omega))
     obtain ⟨_,_,⟨u99,rfl,hr99⟩,at99⟩:=Sl.get oo.sl (by decide) (tb_get (f:=(fun z0=>tb (fun z1=>(X z0 z1)) N)) (n:=Z) (i:=g) (by omega))
     have gd100:=Gr.drew w90
     replace hB:=hB.trans gd100
     replace hC:=hC.trans gd100
     replace hD:=hD.trans gd100
     replace hE:=hE.trans gd100
     refine wp_region_ord (fun w'=>AtV w' u78 (g*1) [u98]∧AtV w' vo (g*1) [u99]) [(true,0),(true,1),(true,2),(true,3),(true,4),(true,5),(true,6),(true,7),(true,8),(true,9),(true,10)] (by kernel_rfl) (by kernel_rfl) (by kernel_rfl) (by decide) (fun _ _ _ _ _ h=>h) ⟨(at98.gr hE),(at99.gr hC)⟩ ?_
     refine ov 180 u78 ?_
     refine ov 181 (.int .i64 ((g:Int))) ?_
     refine ow 182 (adr u78 (g*1)) rfl (fun w' hS=>(rv_idxn (e:=60) hs78 tb_len (by decide) g (by omega) _ _ _ rfl rfl rfl (by kernel_rfl) (by kernel_rfl))) ?_
     refine ow 183 u98 rfl (fun w' hS=>(rv_ld1 u98 hS.1 _ _ rfl rfl (by kernel_rfl))) ?_
     refine ow 184 (.int .i64 ((N:Int))) rfl (fun w' hS=>(rv_lenn (e:=61) hr98 (tb_lenz rfl) _ _ rfl rfl (by kernel_rfl))) ?_
     refine ov 185 vo ?_
     refine ov 186 (.int .i64 ((g:Int))) ?_
     refine ow 187 (adr vo (g*1)) rfl (fun w' hS=>(rv_idxn (e:=60) oo.sl tb_len (by decide) g (by omega) _ _ _ rfl rfl rfl (by kernel_rfl) (by kernel_rfl))) ?_
     refine ow 188 u99 rfl (fun w' hS=>(rv_ld1 u99 hS.2 _ _ rfl rfl (by kernel_rfl))) ?_
     refine ow 189 (.int .i64 ((N:Int))) rfl (fun w' hS=>(rv_lenn (e:=61) hr99 (tb_lenz rfl) _ _ rfl rfl (by kernel_rfl))) ?_
     refine ow 190 (.bool false) rfl (fun w' hS=>(RunV.bool (x:=((N:Int) !=(N:Int))) (rvk (by kernel_rfl)) hb86)) ?_
     refine ord_nil ?_
     refine k96 _ _ ?_
     try clear k96 K96
     refine wp_cond_false rfl ?_
     refine wp_skip ?_
     refine k95 _ _ ?_
     try clear k95 K95
     refine wp_seq_k (fun K101 k101=>?_)
     have lehF:=Below.size hB
     have lehF_hC:=Below.size hC
     have lehF_hD:=Below.size hD
     have lehF_hE:=Below.size hE
     have hF:=Gr.refl (w90.drew)
     refine rg [0] ?_
     refine sv 19 (.int .i64 0) ?_
     refine sq_nil ?_
     refine k101 _ _ ?_
     try clear k101 K101
     refine wp_block ?_
     refine wp_loop_inv (a:=⟨List.toArray ?l102,[]⟩) (fun n a w'=>∃ (h:Nat) (u102:Nat→Value),N - h=n∧a=⟨[v,undef,(u102 2),vo,(.int .i64 0),(.int .i64 ((Z:Int))),(u23 6),(u23 7),(.int .i64 ((q:Int))),u69,(.int .i64 0),(u102 11),(u102 12),(.int .i64 6),u78,(.int .i64 ((Z:Int))),(.int .i64 ((N:Int))),(.int .i64 0),(.int .i64 ((g:Int))),(.int .i64 ((h:Int))),(u102 20),(u102 21),(u102 22),(u102 23),(u102 24),(u102 25),(.bool (decide ((8:Int)<(Z:Int)))),undef,(u102 28),(u102 29),(u102 30),(.bool (decide ((Z:Int)<(Z:Int)))),(u102 32),(u102 33),(u102 34),(u102 35),(u102 36),(u102 37),(u102 38),(u23 39),(u102 40),(u102 41),(u102 42),(u102 43),(u102 44),(u102 45),(u23 46),(u102 47),(u102 48),(u102 49),(u102 50),(u102 51),(u102 52),(u102 53),(u102 54),(u102 55),(u102 56),(u23 57),(u102 58),(u102 59),(u102 60),(u102 61),(u102 62),(u102 63),(u102 64),(u102 65),(u102 66),(u102 67),(u102 68),(u102 69),(u102 70),(u102 71),(u102 72),(u102 73),(u102 74),(u102 75),(u102 76),(u102 77),(u23 78),(u102 79),(u102 80),(u102 81),(u102 82),(u102 83),(u102 84),(u102 85),(u102 86),(u102 87),(u102 88),(u23 89),(u102 90),(u102 91),(u102 92),(u102 93),(u102 94),undef,undef,(.bool false),(u102 98),(u102 99),(u102 100),(u102 101),(u102 102),(u102 103),(u102 104),(u102 105),(u102 106),(u102 107),(u102 108),(u102 109),(u102 110),(u102 111),(u102 112),(u102 113),(u102 114),(u102 115),(u102 116),(u102 117),(u102 118),(u102 119),(u102 120),(u102 121),(u102 122),(u102 123),(u102 124),(.bool false),(u102 126),(.bool false),undef,undef,undef,(u102 131),(u102 132),(u102 133),(u102 134),(u102 135),(u102 136),(u102 137),(u102 138),(u102 139),(u102 140),(u102 141),(u102 142),(u102 143),(u102 144),(u102 145),(u102 146),(u102 147),(u102 148),(u102 149),(u102 150),(u102 151),(u102 152),(u102 153),(u102 154),(u102 155),(u102 156),(u102 157),(u102 158),(u102 159),(u102 160),(u102 161),(u102 162),(u102 163),(u102 164),(u102 165),(u102 166),(u102 167),(u102 168),(u102 169),undef,undef,(u102 172),(.bool false),(u102 174),(u102 175),(u102 176),(.bool (decide ((g:Int)<(Z:Int)))),(u102 178),(u102 179),(u102 180),(u102 181),(u102 182),(u102 183),(u102 184),(u102 185),(u102 186),(u102 187),(u102 188),(u102 189),(.bool false),(u102 191),(u102 192),(u102 193),(u102 194),(u102 195),(u102 196),(u102 197),(u102 198),(u102 199),(u102 200),(u102 201),(u102 202),(u102 203),(u102 204),(u102 205),(u102 206),(u102 207),(u102 208),(u102 209),(u102 210),(u102 211),(u102 212),(u102 213),(u102 214)].toArray,[]⟩∧h≤N∧Gr w23 w'∧Gr w23 w'∧Gr w80 w'∧Gr (w90.drew) w'∧Gr w w') (N - 0) ?_ ?_
     ·exact ⟨0,(fun i=>List.getD ?l102 i undef),rfl,rfl,(Nat.zero_le _),hC,hD,hE,hF,hB⟩
     rintro n102 a102 w102 ⟨h,u102,rfl,rfl,hkh,hC,hD,hE,hF,hB⟩ K102 k102
     refine wp_seq_k (fun K103 k103=>?_)
     refine wp_seq_k (fun K104 k104=>?_)
     refine rg [0,1,2,3,4,5,6] ?_
     refine sv 191 (.int .i64 ((h:Int))) ?_
     refine sv 192 u78 ?_
     refine sv 193 (.int .i64 ((g:Int))) ?_
     refine sw 194 (adr u78 (g*1)) rfl (rv_idxn (e:=60) hs78 tb_len (by decide) g (by omega) _ _ _ rfl rfl rfl (by kernel_rfl) (by kernel_rfl)) ?_
     refine sw 195 u98 rfl (rv_ld1 u98 (at98.gr hE) _ _ rfl rfl (by kernel_rfl)) ?_
     refine sw 196 (.int .i64 ((N:Int))) rfl (rv_lenn (e:=61) hr98 (tb_lenz rfl) _ _ rfl rfl (by kernel_rfl)) ?_
     refine sv 197 (.bool (decide ((h:Int)<(N:Int)))) ?_
     refine sq_nil ?_
     refine k104 _ _ ?_
     try clear k104 K104
     refine wp_cond_split (t:=decide ((h:Int)<(N:Int))) rfl (fun hb105=>?_) (fun hb105=>?_)
     ·have hlh:h<N:=by have:=of_decide_eq_true hb105;omega
      refine wp_skip ?_
      refine k103 _ _ ?_
      try clear k103 K103
      refine wp_seq_k (fun K106 k106=>?_)
      refine wp_block ?_
      refine wp_seq_k (fun K107 k107=>?_)
      obtain ⟨_,_,rfl,at110⟩:=Sl.get hr98 (by decide) (tb_get (f:=(fun z1=>(X g z1))) (n:=N) (i:=h) (by omega))
      obtain ⟨_,_,rfl,at111⟩:=Sl.get hr99 (by decide) (tb_get (f:=(fun z1=>(X g z1))) (n:=N) (i:=h) (by omega))
      have gd112:=Gr.drew w102
      replace hB:=hB.trans gd112
      replace hC:=hC.trans gd112
      replace hD:=hD.trans gd112
      replace hE:=hE.trans gd112
      replace hF:=hF.trans gd112
      refine wp_region_ord (fun w'=>AtV w' u78 (g*1) [u98]∧AtV w' vo (g*1) [u99]∧AtV w' u98 (h*1) [(.string ⟨((X g h):List UInt8).toArray⟩)]∧AtV w' u99 (h*1) [(.string ⟨((X g h):List UInt8).toArray⟩)]) [(true,0),(true,1),(true,2),(true,3),(true,4),(true,5),(true,6),(true,7),(true,8),(true,9),(true,10),(true,11),(true,12),(true,13),(true,14)] (by kernel_rfl) (by kernel_rfl) (by kernel_rfl) (by decide) (fun _ _ _ _ _ h=>h) ⟨(at98.gr hE),(at99.gr hC),(at110.gr hE),(at111.gr hC)⟩ ?_
      refine ov 200 u78 ?_
      refine ov 201 (.int .i64 ((g:Int))) ?_
      refine ow 202 (adr u78 (g*1)) rfl (fun w' hS=>(rv_idxn (e:=60) hs78 tb_len (by decide) g (by omega) _ _ _ rfl rfl rfl (by kernel_rfl) (by kernel_rfl))) ?_
      refine ow 203 u98 rfl (fun w' hS=>(rv_ld1 u98 hS.1 _ _ rfl rfl (by kernel_rfl))) ?_
      refine ov 204 (.int .i64 ((h:Int))) ?_
      refine ow 205 (adr u98 (h*1)) rfl (fun w' hS=>(rv_idxn (e:=61) hr98 tb_len (by decide) h (by omega) _ _ _ rfl rfl rfl (by kernel_rfl) (by kernel_rfl))) ?_
      refine ow 206 (.string ⟨((X g h):List UInt8).toArray⟩) rfl (fun w' hS=>(rv_ld1 (.string ⟨((X g h):List UInt8).toArray⟩) hS.2.2.1 _ _ rfl rfl (by kernel_rfl))) ?_
      refine ov 207 vo ?_
      refine ov 208 (.int .i64 ((g:Int))) ?_
      refine ow 209 (adr vo (g*1)) rfl (fun w' hS=>(rv_idxn (e:=60) oo.sl tb_len (by decide) g (by omega) _ _ _ rfl rfl rfl (by kernel_rfl) (by kernel_rfl))) ?_
      refine ow 210 u99 rfl (fun w' hS=>(rv_ld1 u99 hS.2.1 _ _ rfl rfl (by kernel_rfl))) ?_
      refine ov 211 (.int .i64 ((h:Int))) ?_
      refine ow 212 (adr u99 (h*1)) rfl (fun w' hS=>(rv_idxn (e:=61) hr99 tb_len (by decide) h (by omega) _ _ _ rfl rfl rfl (by kernel_rfl) (by kernel_rfl))) ?_
      refine ow 213 (.string ⟨((X g h):List UInt8).toArray⟩) rfl (fun w' hS=>(rv_ld1 (.string ⟨((X g h):List UInt8).toArray⟩) hS.2.2.2 _ _ rfl rfl (by kernel_rfl))) ?_
      have hb113:((((X g h)) !=((X g h))))=false:=(by simp)
      refine ow 214 (.bool false) rfl (fun w' hS=>(RunV.bool (x:=(((X g h)) !=((X g h)))) (rv_sne 61 61 _ _ ((X g h)) ((X g h)) rfl rfl rfl) hb113)) ?_
      refine ord_nil ?_
      refine k107 _ _ ?_
      try clear k107 K107
      refine wp_cond_false rfl ?_
      refine wp_skip ?_
      refine k106 _ _ ?_
      try clear k106 K106
      refine rg [0,1,2] ?_
      refine sv 198 (.int .i64 ((h:Int))) ?_
      refine sw 199 (.int .i64 (((h:Int)+1))) rfl (RunV.int (x:=IntKind.i64.wrap (((h:Int)+1))) (y:=((h:Int)+1)) (rvk (by kernel_rfl)) (by first | rfl | (rw [IntKind.wrap_i64];omega))) ?_
      refine sv 19 (.int .i64 (((h:Int)+1))) ?_
      refine sq_nil ?_
      refine k102 (N - (h+1)) ⟨List.toArray ?l114,[]⟩ _ (by omega) ?_
      exact ⟨h+1,(fun i=>List.getD ?l114 i undef),rfl,rfl,(by omega),hC,hD,hE,hF,hB⟩
     ·have heh:N=h:=by have:=of_decide_eq_false hb105;omega
      subst heh
      refine wp_exit ?_
      simp only [Exit.then,Exit.inBlock,↓reduceIte]
      refine k94 _ _ ?_
      try clear k94 K94
      refine rg [0,1,2] ?_
      refine sv 178 (.int .i64 ((g:Int))) ?_
      refine sw 179 (.int .i64 (((g:Int)+1))) rfl (RunV.int (x:=IntKind.i64.wrap (((g:Int)+1))) (y:=((g:Int)+1)) (rvk (by kernel_rfl)) (by first | rfl | (rw [IntKind.wrap_i64];omega))) ?_
      refine sv 18 (.int .i64 (((g:Int)+1))) ?_
      refine sq_nil ?_
      refine k90 (Z - (g+1)) ⟨List.toArray ?l115,[]⟩ _ (by omega) ?_
      exact ⟨g+1,(fun i=>List.getD ?l115 i undef),rfl,rfl,(by omega),hC,hD,hE,hB⟩
    ·have heg:Z=g:=by have:=of_decide_eq_false hb93;omega
     subst heg
     refine wp_exit ?_
     simp only [Exit.then,Exit.inBlock,↓reduceIte]
     refine k88 _ _ ?_
     try clear k88 K88
     refine wp_seq_k (fun K116 k116=>?_)
     refine rg [0] ?_
     refine sv 2 (.bool true) ?_
     refine sq_nil ?_
     refine k116 _ _ ?_
     try clear k116 K116
     refine wp_ret ?_
     refine bodyPost_ret (v:=(.bool true)) (ret_tmp rfl rfl) rfl ⟨?_,hB⟩
     exact rfl

theorem matrix_sizes {TQ Z:Nat} {v:Value} {X:Nat→Nat→List UInt8} {zl:Nat→Nat} {w:World} (hx:Sl (ESl ETxt 1) TQ 1 w v (tb (fun z0=>tb (fun z1=>(X z0 z1)) (zl z0)) Z)) (W:World) (hW:W=w) (ht:Tab W) (hm:Mx W):Calls Tryz.prog 5 #[v] W fun e w'=>e=.returned (.bool true)∧Gr W w':=by
  subst hW
  by_cases hbad:szc zl Z=0
  · rcases Nat.eq_zero_or_pos Z with rfl | hZ0
    · exact mz_0 (X:=X) hm ht (hx.cast (show _=tb (fun z0=>tb (fun z1=>(X z0 z1)) 0) 0 from rfl))
    · have hx2:Sl (ESl ETxt 1) TQ 1 W v (tb (fun z0=>tb (fun z1=>(X z0 z1)) (zl 0)) Z):=hx.cast (tb_congr fun i hi=>by rw [(szc_zero hbad hi).2])
      have hN:=(szc_zero hbad hZ0).1
      by_cases hr:rfe X (zl 0) Z=0
      · exact mz_y hZ0 hN hr hm ht hx2
      · exact mz_t hN hr hm ht hx2
  · exact mz_s hbad hm ht hx
end Go.Proofs.YtepgkcimmdmgcaaGreatDoor
namespace Go.Proofs.YtepgkcimmdmgcaaGreatDoor
open Go.ChangeShapes Go.WideShapes Go.ChangeAt Go.RowKit

theorem matrixSizes_table {W : World} (h : laidMetH Tryz.prog Rows.matrixSizesRow.laid W) : Tab W :=
  Lib.tabIs_of_head (rest := _) (g := 1) (t := 236) (e := 152) (n := 20) (by kernel_rfl) (by kernel_rfl) (by kernel_rfl) (by kernel_rfl) (by kernel_rfl) (by kernel_rfl) ((show laidMet Tryz.prog Rows.matrixSizesRow.laid W from (MakeChecks.laidMetH_plain _ _ _ (by kernel_rfl)) ▸ h).tail.tail)
theorem matrixSizes_maxlen {W : World} (h : W.ShapedOpen Tryz.prog) : Mx W :=
  Go.Proofs.cell_of_shapedOpen_int (zero := #[.int .i64 0]) (g := 0) (t := 3) h (of_decide_eq_true (by kernel_rfl)) (by kernel_rfl) rfl (by kernel_rfl) (by kernel_rfl) Tryz.underlying3
set_option maxRecDepth 100000 in
theorem matrixSizes_contract (H : Type) (enc : TypeId × Value → H) (W : World) (base : Nat) (args : Array Value) (ds gs : List (DataW H)) (before : List MemPlace)
    (hval : ∀ (j : Nat) t v, Tryz.f5.params[j]? = some t → args[j]? = some v → Value.okWide Tryz.prog W .any base t v)
    (hW : DataW.Whole enc Tryz.prog Tryz.f5.params.toList Rows.matrixSizesSpec.vars false W args.toList ds gs before) (hL : laidMetH Tryz.prog Rows.matrixSizesRow.laid W) (hsh : W.ShapedOpen Tryz.prog) :
    Calls Tryz.prog 5 args W fun e W' => ∃ v, e = .returned v ∧ Rows.matrixSizesSpec.post enc Tryz.prog Tryz.f5 false true false false W args v W' := by
  have hW' := hW
  obtain ⟨p, q, hA0, hV, rfl, hfz, hnd⟩ := hW
  have hA : DataW.TrodAll enc Tryz.prog W 0 (fun _ => true) true Tryz.f5.params.toList args.toList ds p := hA0
  rw [Tryz.params5] at hA hval
  obtain ⟨v0, vs0, d0, ds0, p0, q0, hargs, rfl, rfl, h0, r0⟩ := trodAll_cons hA
  obtain ⟨rfl, rfl, rfl⟩ := trodAll_nil r0
  obtain rfl : args = #[v0] := by cases args; simp_all
  obtain ⟨rfl, rfl⟩ := trodVars_none hV
  obtain ⟨T0, Xs0, o0⟩ := open_sl (E := ESl ETxt 1) (c := 1) (e := 59) (by kernel_rfl) (by kernel_rfl) (by decide) (fun _ _ _ _ hx => trod_esl (e := 9) (by kernel_rfl) (by kernel_rfl) (by decide) (fun _ _ _ _ hy => trod_txt (by kernel_rfl) hy) hx) (hval 0 57 v0 rfl rfl) h0
  obtain ⟨X0, zl0, Z0, tx0⟩ := txr_of o0
  refine ((fun _ => matrix_sizes tx0 _ rfl)  W (matrixSizes_table hL) (matrixSizes_maxlen hsh)).mono fun e W' ⟨he, hg⟩ => ?_
  subst he
  exact ⟨_, rfl, law_post (tb := 4) laidOut (by kernel_rfl) (by kernel_rfl) (by kernel_rfl) rfl hW' rfl hg⟩
noncomputable def matrixSizes_world (os : Os) : World := World.laidAll Tryz.prog os Rows.matrixSizesRow.laid
theorem matrixSizes_met (os : Os) : laidMet Tryz.prog Rows.matrixSizesRow.laid ((matrixSizes_world os).forCall (fun _ _ => 0) ⟨#[], #[.slice none 0 0], []⟩).memory :=
  laidMet_laidAll _ (by kernel_rfl) (by kernel_rfl)
theorem matrixSizes_reads (os : Os) {H : Type} (enc : TypeId × Value → H) : ∃ places, DataW.whole enc Tryz.prog ((matrixSizes_world os).forCall (fun _ _ => 0) ⟨#[], #[.slice none 0 0], []⟩).memory Tryz.f5.params.toList Rows.matrixSizesSpec.vars false (#[.slice none 0 0] : Array Value).toList 8 = some ([.nil], [], places) :=
  ⟨[], by kernel_rfl⟩
set_option maxRecDepth 100000 in
theorem matrixSizes_lifted (os : Os) (started : os.Started) (H : Type) (enc : TypeId × Value → H) (F : Stop.Interp) :
    ReturnsInHanded {} Tryz.checked os 5 .any ((OpenSpec.ofChange Rows.matrixSizesSpec).preRow enc Tryz.prog Tryz.f5 Rows.matrixSizesRow.domain false Rows.matrixSizesRow.laid) (((OpenSpec.ofChange Rows.matrixSizesSpec).at F).post enc Tryz.prog Tryz.f5 false true false false) := by
  obtain ⟨places, hx⟩ := matrixSizes_reads os enc
  refine returnsInHanded_of_row (C := Tryz.checked) (s := OpenSpec.ofChange Rows.matrixSizesSpec) own started (by kernel_rfl) Tryz.func5
    (witness_row_sh (enc := enc) (C := Tryz.checked) false (matrixSizes_world os) #[.slice none 0 0] (World.laidAll_os _ _ _) (World.shaped_of_ZipB (by kernel_rfl) (by kernel_rfl)) (by kernel_rfl)
      (OpenSpec.preRow_of_cond 8 hx (by kernel_rfl) (fun k hk => by cases hk) (by kernel_rfl) (by rw [MakeChecks.laidMetH_plain _ _ _ (by kernel_rfl)]; exact matrixSizes_met os))) ?_
  intro W base args ds gs before hval hW _ _ _ hL hsh _
  exact matrixSizes_contract H enc W base args ds gs before hval hW hL hsh
theorem matrixSizes_said : Rows.MatrixSizesSaid :=
  OpenClaim.holds_of_cond 5 Tryz.f5 rfl rfl rfl rfl rfl rfl rfl ⟨rfl, rfl, rfl, rfl, rfl⟩ rfl rfl rfl rfl rfl (by kernel_rfl) Tryz.func5 (by kernel_rfl)
    (of_decide_eq_true (by kernel_rfl)) (by unfold Func.isWrapper; first | (rw [if_pos (by decide +kernel)]; kernel_rfl) | (rw [if_neg (by decide +kernel)]; exact ⟨rfl, rfl⟩))
    (fun os started H enc _ F => by rw [OpenClaim.pre_eq_preRow]; exact matrixSizes_lifted os started H enc F)
theorem matrixSizes_plain (f : FuncId) (fn : Func) (hf : Tryz.pinned.checked.prog.funcNamed "dowel/dowellaw05.MatrixSizes" = some f) (hfn : Tryz.pinned.checked.prog.funcs[f]? = some fn) :
    true = Tryz.pinned.checked.prog.looks [] ∧ ∀ (j : Nat) t, fn.params[j]? = some t → Tryz.pinned.checked.prog.wantsStandIn t = false := by
  obtain rfl : f = 5 := Option.some.inj ((show Tryz.prog.funcNamed "dowel/dowellaw05.MatrixSizes" = some 5 by kernel_rfl).symm.trans hf) |>.symm
  obtain rfl : fn = Tryz.f5 := (Option.some.inj (Tryz.func5.symm.trans hfn)).symm
  refine ⟨by kernel_rfl, fun j t ht => ?_⟩
  rw [Tryz.params5] at ht
  have hm := Array.mem_of_getElem? ht
  have hall : (#[57] : Array TypeId).toList.all (fun t => !Tryz.prog.wantsStandIn t) = true := by kernel_rfl
  have := List.all_eq_true.1 hall t (Array.mem_toList_iff.2 hm)
  have h3 : Tryz.prog.wantsStandIn t = false := by simpa using this
  exact h3
/-- the card -/
theorem matrixSizes_card : Rows.MatrixSizesCardSaid :=
  Claim7.holds_tied_plain_at .later [] _ _ _ _ matrixSizes_said (fun _ h => by cases h) (by kernel_rfl) (fun _ h => by cases h) matrixSizes_row_tie rfl ⟨rfl, rfl⟩ (by kernel_rfl) rfl matrixSizes_plain (by kernel_rfl)
end Go.Proofs.YtepgkcimmdmgcaaGreatDoor
