/- Joined of: Ls, Gen180, Gen178, Gen179, Gen174, Gen175, Lt, Gen181, Gen182, Gen184. -/
import Derived.Test.YtepgkcimmdmgcaaGreatDoorPartF
namespace Go.Proofs.YtepgkcimmdmgcaaGreatDoor
theorem rz1:RZ 1 1 (1:Rat):=RZ.int (z:=1) (by unfold Sz;decide)
section
variable {R n N b P:Nat} {m:Mx_}
theorem rs_all (z:Bd) (hf:∀ i,i<R→∀ k,k<n→RZ z.a z.d (m i k)) (hs:∀ i,i<R→∀ k,n≤k→k<N→RZ z.A z.D (m i k)) (he:1≤z.e) (hn:n≤P∨R≤P) (hb:max (max (z.it P).a (z.it P).d) (max (max (z.it P).A (z.it P).D) (z.it P).e)≤b):∀ k,k≤n→RdZ R N b (rs R m k):=
  Bnd.all ⟨hf,hs,rz1.mono he he⟩ hn hb
/-- tables of small numbers -/
theorem rs_sm (hz:∀ i,i<R→∀ k,k<N→RZ 8 3 (m i k)) (hn:n≤5∨R≤5) (hN:n≤N):∀ k,k≤n→RdZ R N 4899 (rs R m k):=
  rs_all ⟨8,3,8,3,1⟩ (fun i hi k hk=>hz i hi k (by omega)) (fun i hi k _ hk=>hz i hi k hk) (Nat.le_refl _) hn (by decide)
end
/-! ### the columns without a pivot -/
section
variable {R n N f t k:Nat} {m:Mx_} {g:Nat→Rat}
theorem isP_mem:isP R m n k=(rs R m n).p.contains k:=by
  unfold isP
  cases h:(rs R m n).p.contains k with
  | true=>
    have hm:k ∈ (rs R m n).p:=by simpa using h
    obtain ⟨t,ht,e⟩:=List.mem_iff_getElem.1 hm
    refine hasI_true (i:=t) ht ?_
    show ((pv (rs R m n) t:Nat):Int)=_
    unfold pv
    rw [List.getD_eq_getElem?_getD,List.getElem?_eq_getElem ht,Option.getD_some,e]
  | false=>
    have hm:k ∉ (rs R m n).p:=by simpa using h
    refine hasI_false fun j hj e=>hm ?_
    have e2:pv (rs R m n) j=k:=by have e3:((pv (rs R m n) j:Nat):Int)=(k:Int):=e;omega
    rw [← e2]
    unfold pv
    rw [List.getD_eq_getElem?_getD,List.getElem?_eq_getElem hj,Option.getD_some]
    exact List.getElem_mem hj
theorem nfr_len (R n:Nat) (m:Mx_):nfr R m n n+pl R m n=n:=by
  have h:=fre_len R m 1 n
  have e:frl R m n n=fre n (rs R m n).p:=by
    unfold frl fre
    exact List.filter_congr fun x _=>by rw [isP_mem]
  unfold nfr
  rw [e];exact h
theorem frc_in (ht:t<nfr R m n f):frc R m n f t<f∧isP R m n (frc R m n f t)=false:=by
  have e:frc R m n f t ∈ frl R m n f:=by
    unfold frc
    rw [List.getD_eq_getElem?_getD,List.getElem?_eq_getElem ht,Option.getD_some]
    exact List.getElem_mem ht
  unfold frl at e
  rw [List.mem_filter,List.mem_range] at e
  exact ⟨e.1,by simpa using e.2⟩
/-- the vectors of the kernel are solutions -/
theorem kv_zero (hz:Zb R N m) (ht:t<nfr R m N N) {i:Nat} (hi:i<R):sm N (fun k=>m i k*kv (rs R m N) (frc R m N N t) k)=0:=by
  obtain ⟨h1,h2⟩:=frc_in ht
  exact kv_sol hz 1 h1 (fun u hu=>isP_no h2 hu) hi
end
/-! ### equations -/
section
variable {R N:Nat} {m:Mx_} {b x:Nat→Rat}
theorem wth_in {i k:Nat} (h:k<N):wth N m b i k=m i k:=if_pos h
theorem wth_at (i:Nat):wth N m b i N=b i:=if_neg (Nat.lt_irrefl _)
theorem fit_wth (h:∀ i,i<R→sm N (fun k=>m i k*x k)=b i):∀ t,pl R (wth N m b) N≤t→t<R→(rs R (wth N m b) N).m t N=0:=
  fit_of 1 x fun i hi=>by
    rw [wth_at,← h i hi]
    exact sm_congr fun k hk=>by rw [wth_in hk]
theorem sol_wth (hf:∀ t,pl R (wth N m b) N≤t→t<R→(rs R (wth N m b) N).m t N=0):∀ i,i<R→sm N (fun k=>m i k*sol (rs R (wth N m b) N) N k)=b i:=fun i hi=>by
  have h:=sol_ok (R:=R) (n:=N) (w:=wth N m b) 1 hf i hi
  rw [wth_at] at h
  rw [← h]
  exact sm_congr fun k hk=>by rw [wth_in hk];rfl
end
/-! ### inverses -/
section
variable {R:Nat} {m:Mx_}
theorem wid_z {a d:Nat} (ha:1≤a) (hd:1≤d) (hz:∀ i,i<R→∀ k,k<R→RZ a d (m i k)):∀ i,i<R→∀ k,k<R+R→RZ a d (wid R m i k):=fun i hi k _=>by
  unfold wid
  split
  · next h=>exact hz i hi k h
  · split
    · exact rz1.mono ha hd
    · exact RZ.zero _ _ hd
theorem rs_d (R:Nat) (m:Mx_):∀ k,(rs R m k).d≠0
  | 0=>by show (1:Rat)≠0;decide
  | k+1=>by
    have ih:=rs_d R m k
    rw [rs_succ]
    unfold stepR
    split
    · exact ih
    · next i e=>
      have h2:Fd R m k i:=e
      have h3:=h2.ne
      show (if i=pl R m k then (rs R m k).d else -(rs R m k).d)*aa R m k i (pl R m k) k≠0
      intro h4
      rcases Rat.mul_eq_zero.1 h4 with h5 | h5
      · split at h5
        · exact ih h5
        · exact ih (by rw [← Rat.neg_neg (a:=(rs R m k).d),h5];rfl)
      · exact h3 h5
theorem wid_pl (R:Nat) (m:Mx_):pl R (wid R m) R=pl R m R:=by
  have:=redR_cong (R:=R) (a:=wid R m) (b:=m) (K:=R) (fun i _ k hk=>if_pos hk) 1
  unfold pl rs
  rw [this]
theorem dtE_zero:dtE R m=0↔pl R (wid R m) R<R:=by
  rw [wid_pl]
  constructor
  · intro h
    refine Classical.byContradiction fun hn=>?_
    rw [← dtE_ge hn] at h
    exact rs_d R m R h
  · exact fun h=>(dtE_lt h).symm
theorem inv_one (h:¬ pl R (wid R m) R<R):∀ i,i<R→∀ k,k<R→sm R (fun j=>m i j*(rs R (wid R m) R).m j (R+k))=one_ i k:=
  inv_r m 1 (by have:=rs_len R (wid R m) R;show pl R (wid R m) R=R;omega)
theorem one_mul {R:Nat} {x:Nat→Rat} {i:Nat} (hi:i<R):sm R (fun k=>one_ i k*x k)=x i:=by
  rw [sm_one hi fun j _ hj=>by unfold one_;rw [if_neg (Ne.symm hj)];grind]
  unfold one_
  rw [if_pos rfl];grind
end
/-! ### reducing twice -/
section
variable {R N b:Nat} {m:Mx_}
theorem twice_d {d2:Rat}:∀ K,K≤N→(redR (pl R m N) K ⟨(rs R m N).m,[],d2⟩).d=d2
  | 0,_=>rfl
  | K+1,hK=>by
    have ih:=twice_d (d2:=d2) K (by omega)
    obtain ⟨t,h1,h2,h3,h4,h5⟩:=red_twice (R:=R) (N:=N) (m:=m) (d:=1) (d2:=d2) K (by omega)
    have hI:=red_inv R m 1 N
    show (stepR (pl R m N) K (redR (pl R m N) K ⟨(rs R m N).m,[],d2⟩)).d=d2
    have h5':∀ i,i<pl R m N→∀ k,(redR (pl R m N) K ⟨(rs R m N).m,[],d2⟩).m i k=(rs R m N).m i k:=h5
    have h2':(redR (pl R m N) K ⟨(rs R m N).m,[],d2⟩).p=(rs R m N).p.take t:=h2
    clear h5 h2
    generalize redR (pl R m N) K ⟨(rs R m N).m,[],d2⟩=u at*
    have h1':t≤pl R m N:=h1
    have hul:u.p.length=t:=by rw [h2',List.length_take];show min t (pl R m N)=t;omega
    unfold stepR
    split
    · exact ih
    · next i e=>
      obtain ⟨e1,e2,e3,e4⟩:=fnd_some e
      rw [hul] at e1 e2
      have hi:i<pl R m N:=by omega
      have hiR:i<R:=by have:=rs_len R m N;omega
      rw [h5' i hi] at e3
      have hle:¬ K<pv (rs R m N) i:=fun h=>e3 (hI.ech i hi K h)
      have hge:=h4 i e1 hi
      have hge':K≤pv (rs R m N) i:=hge
      have hpK:pv (rs R m N) i=K:=by omega
      have hit:i=t:=by
        rcases Nat.eq_or_lt_of_le e1 with h | h
        · exact h.symm
        · have a1:=hI.inc t i h hi
          have a2:=h4 t (Nat.le_refl _) (by show t<pl R m N;omega)
          have a1':pv (rs R m N) t<pv (rs R m N) i:=a1
          have a2':K≤pv (rs R m N) t:=a2
          omega
      have hu:=hI.unit i hi i hiR
      rw [if_pos rfl] at hu
      have hu':(rs R m N).m i K=1:=by rw [← hpK];exact hu
      show (if i=u.p.length then u.d else -u.d)*swp u.m i u.p.length u.p.length K=d2
      rw [hul,hit,if_pos rfl,ih]
      have:swp u.m t t t K=1:=by
        unfold swp
        rw [if_pos rfl,← hit,h5' i hi,hu']
      rw [this];grind
theorem twice_z (hz:RdZ R N b (rs R m N)) (hb:0<b):∀ k,k≤N→RdZ (pl R m N) N b (rs (pl R m N) (rs R m N).m k):=fun k hk=>by
  obtain ⟨t,h1,h2,h3,h4,h5⟩:=red_twice (R:=R) (N:=N) (m:=m) (d:=1) (d2:=1) k hk
  refine ⟨fun i hi c hc=>?_,?_⟩
  · have e:(rs (pl R m N) (rs R m N).m k).m i c=(rs R m N).m i c:=h5 i hi c
    rw [e];exact hz.1 i (by have:=rs_len R m N;omega) c hc
  · have e:(rs (pl R m N) (rs R m N).m k).d=1:=twice_d k hk
    rw [e];exact rz1.mono hb hb
theorem twice_pl:pl (pl R m N) (rs R m N).m N=pl R m N:=by
  have:=(red_idem R N m 1 1).1
  show (redR _ _ _).p.length=_
  exact congrArg List.length this
theorem twice_tb:tb (fun z0=>tb (fun z1=>(rs (pl R m N) (rs R m N).m N).m z0 z1) N) (pl (pl R m N) (rs R m N).m N)=tb (fun z0=>tb (fun z1=>(rs R m N).m z0 z1) N) (pl R m N):=by
  rw [twice_pl]
  exact tb_congr fun i hi=>tb_congr fun c _=>(red_idem R N m 1 1).2 i hi c
end
/-! ### products -/
theorem mul_z {R S N a d b e:Nat} {x y:Mx_} (hx:∀ i,i<R→∀ k,k<S→RZ a d (x i k)) (hy:∀ i,i<S→∀ k,k<N→RZ b e (y i k)):∀ i,i<R→∀ k,k<N→RZ (S*(a+b+d+e+1)+1) (S*(d+e)+1) (sm S fun j=>x i j*y j k):=
  fun i hi k hk=>rz_sm (fun j hj=>hx i hi j hj) (fun j hj=>hy j hj k hk)
end Go.Proofs.YtepgkcimmdmgcaaGreatDoor
namespace Go.Proofs.YtepgkcimmdmgcaaGreatDoor
open Go.RowKit

set_option maxRecDepth 100000 in
set_option maxHeartbeats 1000000 in
theorem l5_numbers {R N:Nat} {v:Value} {nn:Nat→Nat→Int} (_hR:R≤1000) (_hN:N≤1000) (hb:∀ i,i<R→∀ j,j<N→-9223372036854775808≤nn i j∧nn i j≤9223372036854775807) {w:World} (hs:Sl (ERw EI64 3 1) 30 1 w v (tb (fun z0=>tb (fun z1=>(nn z0 z1)) N) R)):
    Calls Tryz.prog 50 #[v] w fun e w'=>(∃ u,e=.returned u∧Sl (ERw (ERat 64) 71 4) 49 1 w' u (tb (fun z0=>tb (fun z1=>((nn z0 z1:Int):Rat)) N) R))∧Gr w w':=by
 go_enter Tryz.func50,Tryz.ntmps50
 have hB:=Gr.refl w
 refine wp_seq_k (fun K10 k10=>?_)
 refine rg [0] ?_
 refine sv 2 (.slice none 0 0) ?_
 refine sq_nil ?_
 refine k10 _ _ ?_
 try clear k10 K10
 refine wp_seq_k (fun K11 k11=>?_)
 refine rg [0] ?_
 refine sv 3 (.slice none 0 0) ?_
 refine sq_nil ?_
 refine k11 _ _ ?_
 try clear k11 K11
 refine wp_seq_k (fun K12 k12=>?_)
 refine wp_seq_k (fun K13 k13=>?_)
 refine rg [0] ?_
 refine sv 4 (.int .i64 0) ?_
 refine sq_nil ?_
 refine k13 _ _ ?_
 try clear k13 K13
 refine wp_block ?_
 refine wp_loop_inv (a:=⟨List.toArray ?l14,[]⟩) (fun n a w'=>∃ (i:Nat) (vo:Value) (u14:Nat→Value),R - i=n∧a=⟨[v,undef,(.slice none 0 0),vo,(.int .i64 ((i:Int))),(u14 5),(u14 6),(u14 7),(u14 8),(u14 9),(u14 10),(u14 11),(u14 12),(u14 13),(u14 14),(u14 15),(u14 16),(u14 17),(u14 18),(u14 19),(u14 20),(u14 21),(u14 22),(u14 23),(u14 24),(u14 25),(u14 26),(u14 27),(u14 28),(u14 29),(u14 30),(u14 31),(u14 32),(u14 33),(u14 34),(u14 35),(u14 36),undef].toArray,[]⟩∧i≤R∧Ow (ERw (ERat 64) 71 4) 49 1 w' w.heap.size vo (tb (fun z0=>tb (fun z1=>((nn z0 z1:Int):Rat)) N) i)∧Gr w w') (R - 0) ?_ ?_
 ·exact ⟨0,(.slice none 0 0),(fun i=>List.getD ?l14 i undef),rfl,rfl,(Nat.zero_le _),(Ow.nil _ _ _ _ _),hB⟩
 rintro n14 a14 w14 ⟨i,vo,u14,rfl,rfl,hki,oo,hB⟩ K14 k14
 have lehC:=Below.size hB
 have hC:=Gr.refl w14
 refine wp_seq_k (fun K15 k15=>?_)
 refine wp_seq_k (fun K16 k16=>?_)
 refine rg [0,1,2,3] ?_
 refine sv 7 (.int .i64 ((i:Int))) ?_
 refine sv 8 v ?_
 refine sw 9 (.int .i64 ((R:Int))) rfl (rv_lenn (e:=30) hs (tb_lenz rfl) _ _ rfl rfl (by kernel_rfl)) ?_
 refine sv 10 (.bool (decide ((i:Int)<(R:Int)))) ?_
 refine sq_nil ?_
 refine k16 _ _ ?_
 try clear k16 K16
 refine wp_cond_split (t:=decide ((i:Int)<(R:Int))) rfl (fun hb17=>?_) (fun hb17=>?_)
 ·have hli:i<R:=by have:=of_decide_eq_true hb17;omega
  refine wp_skip ?_
  refine k15 _ _ ?_
  try clear k15 K15
  refine wp_seq_k (fun K18 k18=>?_)
  refine wp_block ?_
  refine wp_seq_k (fun K19 k19=>?_)
  refine rg [0] ?_
  refine sv 5 (.slice none 0 0) ?_
  refine sq_nil ?_
  refine k19 _ _ ?_
  try clear k19 K19
  refine wp_seq_k (fun K20 k20=>?_)
  refine wp_seq_k (fun K21 k21=>?_)
  refine rg [0] ?_
  refine sv 6 (.int .i64 0) ?_
  refine sq_nil ?_
  refine k21 _ _ ?_
  try clear k21 K21
  refine wp_block ?_
  refine wp_loop_inv (a:=⟨List.toArray ?l22,[]⟩) (fun n a w'=>∃ (j:Nat) (vi:Value) (u22:Nat→Value),N - j=n∧a=⟨[v,undef,(.slice none 0 0),vo,(.int .i64 ((i:Int))),vi,(.int .i64 ((j:Int))),(u22 7),(u22 8),(u22 9),(.bool (decide ((i:Int)<(R:Int)))),(u22 11),(u22 12),(u22 13),(u22 14),(u22 15),(u22 16),(u22 17),(u22 18),(u22 19),(u22 20),(u22 21),(u22 22),(u22 23),(u22 24),(u22 25),(u22 26),(u22 27),(u22 28),(u22 29),(u22 30),(u22 31),(u22 32),(u22 33),(u22 34),(u22 35),(u22 36),undef].toArray,[]⟩∧j≤N∧Ow (ERat 64) 71 4 w' w14.heap.size vi (tb (fun z1=>((nn i z1:Int):Rat)) j)∧Gr w14 w'∧Gr w w') (N - 0) ?_ ?_
  ·exact ⟨0,(.slice none 0 0),(fun i=>List.getD ?l22 i undef),rfl,rfl,(Nat.zero_le _),(Ow.nil _ _ _ _ _),hC,hB⟩
  rintro n22 a22 w22 ⟨j,vi,u22,rfl,rfl,hkj,oi,hC,hB⟩ K22 k22
  refine wp_seq_k (fun K23 k23=>?_)
  refine wp_seq_k (fun K24 k24=>?_)
  refine rg [0,1,2,3,4,5,6] ?_
  refine sv 13 (.int .i64 ((j:Int))) ?_
  refine sv 14 v ?_
  refine sv 15 (.int .i64 ((i:Int))) ?_
  refine sw 16 (adr v (i*1)) rfl (rv_idxn (e:=30) hs tb_len (by decide) i (by omega) _ _ _ rfl rfl rfl (by kernel_rfl) (by kernel_rfl)) ?_
  obtain ⟨_,_,⟨u25,rfl,hr25⟩,at25⟩:=Sl.get hs (by decide) (tb_get (f:=(fun z0=>tb (fun z1=>(nn z0 z1)) N)) (n:=R) (i:=i) (by omega))
  refine sw 17 u25 rfl (rv_ld1 u25 (at25.gr hB) _ _ rfl rfl (by kernel_rfl)) ?_
  refine sw 18 (.int .i64 ((N:Int))) rfl (rv_lenn (e:=3) hr25 (tb_lenz rfl) _ _ rfl rfl (by kernel_rfl)) ?_
  refine sv 19 (.bool (decide ((j:Int)<(N:Int)))) ?_
  refine sq_nil ?_
  refine k24 _ _ ?_
  try clear k24 K24
  refine wp_cond_split (t:=decide ((j:Int)<(N:Int))) rfl (fun hb26=>?_) (fun hb26=>?_)
  ·have hlj:j<N:=by have:=of_decide_eq_true hb26;omega
   refine wp_skip ?_
   refine k23 _ _ ?_
   try clear k23 K23
   refine wp_seq_k (fun K27 k27=>?_)
   refine wp_block ?_
   refine rg [0,1,2,3,4,5,6,7,8,9,10,11] ?_
   refine sv 22 vi ?_
   refine sv 23 v ?_
   refine sv 24 (.int .i64 ((i:Int))) ?_
   refine sw 25 (adr v (i*1)) rfl (rv_idxn (e:=30) hs tb_len (by decide) i (by omega) _ _ _ rfl rfl rfl (by kernel_rfl) (by kernel_rfl)) ?_
   refine sw 26 u25 rfl (rv_ld1 u25 (at25.gr hB) _ _ rfl rfl (by kernel_rfl)) ?_
   refine sv 27 (.int .i64 ((j:Int))) ?_
   refine sw 28 (adr u25 (j*1)) rfl (rv_idxn (e:=3) hr25 tb_len (by decide) j (by omega) _ _ _ rfl rfl rfl (by kernel_rfl) (by kernel_rfl)) ?_
   obtain ⟨_,_,rfl,at28⟩:=Sl.get hr25 (by decide) (tb_get (f:=(fun z1=>(nn i z1))) (n:=N) (i:=j) (by omega))
   refine sw 29 (.int .i64 ((nn i j))) rfl (rv_ld1 (.int .i64 ((nn i j))) (at28.gr hB) _ _ rfl rfl (by kernel_rfl)) ?_
   refine se ?_
   refine ec 30 (from_r ((nn i j)) (hb i hli j hlj).1 (hb i hli j hlj).2 _) ?_
   rintro e29 w29 ⟨⟨p29,q29,r29,s29,rfl,h29⟩,g29⟩
   refine ⟨_,rfl,?_⟩
   replace hB:=hB.trans g29
   replace hC:=hC.trans g29
   simp only [p3,p4]
   refine se ?_
   refine eff_bs 71 1 #[p29,q29,r29,s29] (some 31) rfl (fun _=>by kernel_rfl) (fun b30 w30 g30 L30 q30=>?_)
   have q30_hC:=Nat.le_trans (Below.size hC) q30
   replace hB:=hB.trans g30
   replace hC:=hC.trans g30
   simp only [putl,p3,p4]
   refine se ?_
   replace h29:=h29.kp g30.kp
   replace oi:=oi.gr (stab_rat 64) (g29.trans g30)
   refine eff_apg (stab_rat 64) _ _ 49 71 w14.heap.size (.agg #[(.bool false),(.slice none 0 0),(.bool false),(.slice none 0 0)]) vi (tb (fun z1=>((nn i z1:Int):Rat)) j) b30 [p29,q29,r29,s29] (((nn i j:Int):Rat)) 4 1 (some 32) 64 rfl rfl rfl rfl oi L30 ⟨h29.one0,h29.one1,h29.one2,h29.one3,trivial⟩ rfl ⟨_,_,_,_,rfl,h29.mono (by omega)⟩ (Below.size hC) (by rw [tb_len];omega) (by decide) (by kernel_rfl) (by kernel_rfl) (by decide) (by decide) (fun v31 w31 ow31 wt31 hg31=>?_)
   replace hB:=hg31 _ hB lehC
   replace hC:=hg31 _ hC (Nat.le_refl _)
   replace ow31:=ow31.cast (tb_snoc (f:=(fun z1=>((nn i z1:Int):Rat))) (n:=j) (by first | rfl | exact fil_all))
   simp only [putl,p3,p4]
   refine sv 5 v31 ?_
   refine sq_nil ?_
   refine k27 _ _ ?_
   try clear k27 K27
   refine rg [0,1,2] ?_
   refine sv 20 (.int .i64 ((j:Int))) ?_
   refine sw 21 (.int .i64 (((j:Int)+1))) rfl (RunV.int (x:=IntKind.i64.wrap (((j:Int)+1))) (y:=((j:Int)+1)) (rvk (by kernel_rfl)) (by first | rfl | (rw [IntKind.wrap_i64];omega))) ?_
   refine sv 6 (.int .i64 (((j:Int)+1))) ?_
   refine sq_nil ?_
   refine k22 (N - (j+1)) ⟨List.toArray ?l32,[]⟩ _ (by omega) ?_
   exact ⟨j+1,v31,(fun i=>List.getD ?l32 i undef),rfl,rfl,(by omega),ow31,hC,hB⟩
  ·have hej:N=j:=by have:=of_decide_eq_false hb26;omega
   subst hej
   refine wp_exit ?_
   simp only [Exit.then,Exit.inBlock,↓reduceIte]
   refine k20 _ _ ?_
   try clear k20 K20
   refine rg [0,1,2,3,4] ?_
   refine sv 33 vo ?_
   refine sv 34 vi ?_
   refine se ?_
   refine eff_bs1 29 49 vi (some 35) rfl rfl rfl (oi.sl).forms (fun _ _ _ _=>by kernel_rfl) (fun b33 w33 g33 L33 q33=>?_)
   have q33_hC:=Nat.le_trans (Below.size hC) q33
   replace hB:=hB.trans g33
   replace hC:=hC.trans g33
   simp only [putl,p3,p4]
   refine se ?_
   replace oi:=oi.gr (stab_rat 64) g33
   refine eff_apg (stab_rw (stab_rat 64) 71 4) _ _ 29 49 w.heap.size (.slice none 0 0) vo (tb (fun z0=>tb (fun z1=>((nn z0 z1:Int):Rat)) N) i) b33 [vi] (tb (fun z1=>((nn i z1:Int):Rat)) N) 1 1 (some 36) 24 rfl rfl rfl rfl (oo.gr (stab_rw (stab_rat 64) 71 4) hC) L33 ⟨oi.one,trivial⟩ rfl ⟨_,rfl,(oi.sl)⟩ (Below.size hB) (by rw [tb_len];omega) (by decide) (by kernel_rfl) (by kernel_rfl) (by decide) (by decide) (fun v34 w34 ow34 wt34 hg34=>?_)
   replace hB:=hg34 _ hB (Nat.le_refl _)
   replace ow34:=ow34.cast (tb_snoc (f:=(fun z0=>tb (fun z1=>((nn z0 z1:Int):Rat)) N)) (n:=i) (by first | rfl | exact fil_all))
   simp only [putl,p3,p4]
   refine sv 3 v34 ?_
   refine sq_nil ?_
   refine k18 _ _ ?_
   try clear k18 K18
   refine rg [0,1,2] ?_
   refine sv 11 (.int .i64 ((i:Int))) ?_
   refine sw 12 (.int .i64 (((i:Int)+1))) rfl (RunV.int (x:=IntKind.i64.wrap (((i:Int)+1))) (y:=((i:Int)+1)) (rvk (by kernel_rfl)) (by first | rfl | (rw [IntKind.wrap_i64];omega))) ?_
   refine sv 4 (.int .i64 (((i:Int)+1))) ?_
   refine sq_nil ?_
   refine k14 (R - (i+1)) ⟨List.toArray ?l35,[]⟩ _ (by omega) ?_
   exact ⟨i+1,v34,(fun i=>List.getD ?l35 i undef),rfl,rfl,(by omega),ow34,hB⟩
 ·have hei:R=i:=by have:=of_decide_eq_false hb17;omega
  subst hei
  refine wp_exit ?_
  simp only [Exit.then,Exit.inBlock,↓reduceIte]
  refine k12 _ _ ?_
  try clear k12 K12
  refine wp_seq_k (fun K36 k36=>?_)
  refine rg [0,1] ?_
  refine sv 37 vo ?_
  refine sv 2 vo ?_
  refine sq_nil ?_
  refine k36 _ _ ?_
  try clear k36 K36
  refine wp_ret ?_
  refine bodyPost_ret (v:=vo) (ret_tmp rfl rfl) rfl ⟨?_,hB⟩
  exact ⟨_,rfl,((oo.gr (stab_rw (stab_rat 64) 71 4) hC).sl)⟩

set_option maxRecDepth 100000 in
set_option maxHeartbeats 1000000 in
theorem l5_line {TT Z:Nat} {v:Value} {ee:Nat→Int × Int} (D:Nat) (_hD:D≤1000) {w:World} (hs:Sl EEn TT 2 w v (tb (fun z1=>(ee z1)) Z)):
    Calls Tryz.prog 25 #[v,(.int .i64 ((D:Int)))] w fun e w'=>(∃ u,e=.returned u∧Sl EFr 84 2 w' u (tb (fun z1=>(en ee Z z1)) D))∧Gr w w':=by
 go_enter Tryz.func25,Tryz.ntmps25
 have hB:=Gr.refl w
 refine wp_seq_k (fun K10 k10=>?_)
 refine rg [0] ?_
 refine sv 4 (.slice none 0 0) ?_
 refine sq_nil ?_
 refine k10 _ _ ?_
 try clear k10 K10
 refine wp_seq_k (fun K11 k11=>?_)
 refine rg [0] ?_
 refine sv 5 (.slice none 0 0) ?_
 refine sq_nil ?_
 refine k11 _ _ ?_
 try clear k11 K11
 refine wp_seq_k (fun K12 k12=>?_)
 refine wp_seq_k (fun K13 k13=>?_)
 refine rg [0] ?_
 refine sv 6 (.int .i64 0) ?_
 refine sq_nil ?_
 refine k13 _ _ ?_
 try clear k13 K13
 refine wp_block ?_
 refine wp_loop_inv (a:=⟨List.toArray ?l14,[]⟩) (fun n a w'=>∃ (k:Nat) (vo:Value) (u14:Nat→Value),D - k=n∧a=⟨[v,(.int .i64 ((D:Int))),undef,undef,(.slice none 0 0),vo,(.int .i64 ((k:Int))),(u14 7),(u14 8),(u14 9),(u14 10),(u14 11),(u14 12),(u14 13),(u14 14),(u14 15),(u14 16),(u14 17),(u14 18),(u14 19),(u14 20),(u14 21),(u14 22),(u14 23),(u14 24),(u14 25),(u14 26),(u14 27),(u14 28),(u14 29),(u14 30),(u14 31),(u14 32),(u14 33),(u14 34),(u14 35),(u14 36),undef].toArray,[]⟩∧k≤D∧Ow EFr 84 2 w' w.heap.size vo (tb (fun z1=>(en ee Z z1)) k)∧Gr w w') (D - 0) ?_ ?_
 ·exact ⟨0,(.slice none 0 0),(fun i=>List.getD ?l14 i undef),rfl,rfl,(Nat.zero_le _),(Ow.nil _ _ _ _ _),hB⟩
 rintro n14 a14 w14 ⟨k,vo,u14,rfl,rfl,hkk,oo,hB⟩ K14 k14
 refine wp_seq_k (fun K15 k15=>?_)
 refine wp_seq_k (fun K16 k16=>?_)
 refine rg [0,1,2] ?_
 refine sv 8 (.int .i64 ((k:Int))) ?_
 refine sv 9 (.int .i64 ((D:Int))) ?_
 refine sv 10 (.bool (decide ((k:Int)<(D:Int)))) ?_
 refine sq_nil ?_
 refine k16 _ _ ?_
 try clear k16 K16
 refine wp_cond_split (t:=decide ((k:Int)<(D:Int))) rfl (fun hb17=>?_) (fun hb17=>?_)
 ·have hlk:k<D:=by have:=of_decide_eq_true hb17;omega
  refine wp_skip ?_
  refine k15 _ _ ?_
  try clear k15 K15
  refine wp_seq_k (fun K18 k18=>?_)
  refine wp_block ?_
  refine wp_seq_k (fun K19 k19=>?_)
  refine rg [0,1,2] ?_
  refine se ?_
  refine ec 13 (f5_of ((0:Int)) ((1:Int)) (by unfold Sz;omega) (by unfold Sz;omega) (by omega) (by omega) (by omega) _) ?_
  rintro e20 w20 ⟨rfl,g20⟩
  refine ⟨_,rfl,?_⟩
  replace hB:=hB.trans g20
  simp only [p3,p4]
  refine se ?_
  refine ea 84 #[(.string ⟨([]:List UInt8).toArray⟩),(.string ⟨([]:List UInt8).toArray⟩)] 7 hB fun b21 w21 g21 L21 o21 q21 hB=>?_
  have qr21:=o21
  simp only [p3,p4]
  refine se ?_
  have lo22:=L21
  refine es 84 0 (.agg #[(.string ⟨(Lib.itoa (((((0:Int):Int):Rat)/(((1:Int):Int):Rat)).num):List UInt8).toArray⟩),(.string ⟨(Lib.itoa ((((((0:Int):Int):Rat)/(((1:Int):Int):Rat)).den:Int)):List UInt8).toArray⟩)]) [(.string ⟨(Lib.itoa (((((0:Int):Int):Rat)/(((1:Int):Int):Rat)).num):List UInt8).toArray⟩),(.string ⟨(Lib.itoa ((((((0:Int):Int):Rat)/(((1:Int):Int):Rat)).den:Int)):List UInt8).toArray⟩)] #[(.string ⟨(Lib.itoa (((((0:Int):Int):Rat)/(((1:Int):Int):Rat)).num):List UInt8).toArray⟩),(.string ⟨(Lib.itoa ((((((0:Int):Int):Rat)/(((1:Int):Int):Rat)).den:Int)):List UInt8).toArray⟩)] L21 hB q21 ⟨rfl,rfl,trivial⟩ fun w22 st22 kp22 L21 hB=>?_
  refine sq_nil ?_
  refine k19 _ _ ?_
  try clear k19 K19
  refine wp_seq_k (fun K23 k23=>?_)
  refine wp_seq_k (fun K24 k24=>?_)
  refine rg [0,1,2,3] ?_
  refine sv 14 (.int .i64 ((k:Int))) ?_
  refine sv 15 v ?_
  refine sw 16 (.int .i64 ((Z:Int))) rfl (rv_lenn (e:=114) hs (tb_lenz rfl) _ _ rfl rfl (by kernel_rfl)) ?_
  refine sv 17 (.bool (decide ((k:Int)<(Z:Int)))) ?_
  refine sq_nil ?_
  refine k24 _ _ ?_
  try clear k24 K24
  refine wp_cond_split (t:=decide ((k:Int)<(Z:Int))) rfl (fun hb25=>?_) (fun hb25=>?_)
  ·have hq26:((k:Int)<(Z:Int)):=of_decide_eq_true hb25
   obtain ⟨_,_,⟨rfl,he32⟩,at32⟩:=Sl.get hs (by decide) (tb_get (f:=(fun z1=>(ee z1))) (n:=Z) (i:=k) (by omega))
   have gd33:=Gr.drew w22
   replace hB:=hB.trans gd33
   refine wp_region_ord (fun w'=>AtV w' v (k*2) [(.int .i8 ((ee k).1)),(.int .u8 ((ee k).2))]) [(true,0),(true,1),(true,2),(true,3),(true,4),(true,5),(true,6),(true,7),(true,8),(true,9),(true,10),(true,11),(true,12),(true,13),(false,14),(false,15)] (by kernel_rfl) (by kernel_rfl) (by kernel_rfl) (by decide) (fun _ _ _ _ _ h=>h) (at32.gr hB) ?_
   refine ov 18 v ?_
   refine ov 19 (.int .i64 ((k:Int))) ?_
   refine ow 20 (adr v (k*2)) rfl (fun w' hS=>(rv_idxn (e:=114) hs tb_len (by decide) k (by omega) _ _ _ rfl rfl rfl (by kernel_rfl) (by kernel_rfl))) ?_
   refine ow 21 (adr v (k*2+0)) rfl (fun w' hS=>(rv_fldk (off:=0) at32 _ _ 0 rfl rfl (by kernel_rfl))) ?_
   refine ow 22 (.int .i8 ((ee k).1)) rfl (fun w' hS=>(rv_ld1 (.int .i8 ((ee k).1)) (AtV.part (i:=0) (us:=[(.int .i8 ((ee k).1))]) hS rfl) _ _ rfl rfl (by kernel_rfl))) ?_
   refine ow 23 (.int .i64 ((ee k).1)) rfl (fun w' hS=>(RunV.int (x:=IntKind.i64.wrap ((ee k).1)) (y:=(ee k).1) (rvk (by kernel_rfl)) (by first | rfl | (rw [IntKind.wrap_i64];omega)))) ?_
   refine ov 24 v ?_
   refine ov 25 (.int .i64 ((k:Int))) ?_
   refine ow 26 (adr v (k*2)) rfl (fun w' hS=>(rv_idxn (e:=114) hs tb_len (by decide) k (by omega) _ _ _ rfl rfl rfl (by kernel_rfl) (by kernel_rfl))) ?_
   refine ow 27 (adr v (k*2+1)) rfl (fun w' hS=>(rv_fldk (off:=1) at32 _ _ 1 rfl rfl (by kernel_rfl))) ?_
   refine ow 28 (.int .u8 ((ee k).2)) rfl (fun w' hS=>(rv_ld1 (.int .u8 ((ee k).2)) (AtV.part (i:=1) (us:=[(.int .u8 ((ee k).2))]) hS rfl) _ _ rfl rfl (by kernel_rfl))) ?_
   refine ow 29 (.int .u8 (((ee k).2 % 6))) rfl (fun w' hS=>(RunV.int (x:=Int.tmod ((ee k).2) 6) (y:=(ee k).2 % 6) (rvk (by kernel_rfl)) (by rw [Int.tmod_eq_emod_of_nonneg (by first | omega | exact Int.natCast_nonneg _)]))) ?_
   refine ow 30 (.int .i64 (((ee k).2 % 6))) rfl (fun w' hS=>(RunV.int (x:=IntKind.i64.wrap (((ee k).2 % 6))) (y:=((ee k).2 % 6)) (rvk (by kernel_rfl)) (by first | rfl | (rw [IntKind.wrap_i64];omega)))) ?_
   refine ow 31 (.int .i64 ((1+((ee k).2 % 6)))) rfl (fun w' hS=>(RunV.int (x:=IntKind.i64.wrap ((1+((ee k).2 % 6)))) (y:=(1+((ee k).2 % 6))) (rvk (by kernel_rfl)) (by first | rfl | (rw [IntKind.wrap_i64];omega)))) ?_
   refine oe ?_
   refine ec 32 (f5_of ((ee k).1) ((1+((ee k).2 % 6))) (by unfold Sz;omega) (by unfold Sz;omega) (by omega) (by omega) (by omega) _) ?_
   rintro e35 w35 ⟨rfl,g35⟩
   refine ⟨_,rfl,?_⟩
   replace hB:=hB.trans g35
   refine ⟨(at32.gr hB),?_⟩
   simp only [p3,p4]
   refine oe ?_
   replace L21:=L21.gr (gd33.trans g35)
   have lo37:=L21
   refine es 84 0 (.agg #[(.string ⟨(Lib.itoa (((((ee k).1:Int):Rat)/(((1+((ee k).2 % 6)):Int):Rat)).num):List UInt8).toArray⟩),(.string ⟨(Lib.itoa ((((((ee k).1:Int):Rat)/(((1+((ee k).2 % 6)):Int):Rat)).den:Int)):List UInt8).toArray⟩)]) [(.string ⟨(Lib.itoa (((((ee k).1:Int):Rat)/(((1+((ee k).2 % 6)):Int):Rat)).num):List UInt8).toArray⟩),(.string ⟨(Lib.itoa ((((((ee k).1:Int):Rat)/(((1+((ee k).2 % 6)):Int):Rat)).den:Int)):List UInt8).toArray⟩)] #[(.string ⟨(Lib.itoa (((((ee k).1:Int):Rat)/(((1+((ee k).2 % 6)):Int):Rat)).num):List UInt8).toArray⟩),(.string ⟨(Lib.itoa ((((((ee k).1:Int):Rat)/(((1+((ee k).2 % 6)):Int):Rat)).den:Int)):List UInt8).toArray⟩)] L21 hB q21 ⟨rfl,rfl,trivial⟩ fun w37 st37 kp37 L21 hB=>?_
   refine ⟨(at32.gr hB),?_⟩
   refine ord_nil ?_
   refine k23 _ _ ?_
   try clear k23 K23
   refine rg [0,1,2,3,4] ?_
   refine sv 33 vo ?_
   refine sw 34 (.agg #[(.string ⟨(Lib.itoa (((((ee k).1:Int):Rat)/(((1+((ee k).2 % 6)):Int):Rat)).num):List UInt8).toArray⟩),(.string ⟨(Lib.itoa ((((((ee k).1:Int):Rat)/(((1+((ee k).2 % 6)):Int):Rat)).den:Int)):List UInt8).toArray⟩)]) rfl (rl 84 0 [(.string ⟨(Lib.itoa (((((ee k).1:Int):Rat)/(((1+((ee k).2 % 6)):Int):Rat)).num):List UInt8).toArray⟩),(.string ⟨(Lib.itoa ((((((ee k).1:Int):Rat)/(((1+((ee k).2 % 6)):Int):Rat)).den:Int)):List UInt8).toArray⟩)] L21) ?_
   refine se ?_
   refine eff_bs 84 1 #[(.string ⟨(Lib.itoa (((((ee k).1:Int):Rat)/(((1+((ee k).2 % 6)):Int):Rat)).num):List UInt8).toArray⟩),(.string ⟨(Lib.itoa ((((((ee k).1:Int):Rat)/(((1+((ee k).2 % 6)):Int):Rat)).den:Int)):List UInt8).toArray⟩)] (some 35) rfl (fun _=>by kernel_rfl) (fun b38 w38 g38 L38 q38=>?_)
   have qr38:=q38
   replace hB:=hB.trans g38
   simp only [putl,p3,p4]
   refine se ?_
   replace oo:=oo.gr stab_fr ((st37.gr (((st22.gr (g20.trans g21) (Nat.le_trans (Below.size g20) qr21)).trans gd33).trans g35) (Nat.le_trans (Below.size g20) qr21)).trans g38)
   refine eff_apg stab_fr _ _ 51 84 w.heap.size (.agg #[(.string ⟨([]:List UInt8).toArray⟩),(.string ⟨([]:List UInt8).toArray⟩)]) vo (tb (fun z1=>(en ee Z z1)) k) b38 [(.string ⟨(Lib.itoa (((((ee k).1:Int):Rat)/(((1+((ee k).2 % 6)):Int):Rat)).num):List UInt8).toArray⟩),(.string ⟨(Lib.itoa ((((((ee k).1:Int):Rat)/(((1+((ee k).2 % 6)):Int):Rat)).den:Int)):List UInt8).toArray⟩)] ((((ee k).1:Int):Rat)/(((1+((ee k).2 % 6)):Int):Rat)) 2 1 (some 36) 32 rfl rfl rfl rfl oo L38 ⟨rfl,rfl,trivial⟩ rfl rfl (Below.size hB) (by rw [tb_len];omega) (by decide) (by kernel_rfl) (by kernel_rfl) (by decide) (by decide) (fun v39 w39 ow39 wt39 hg39=>?_)
   replace hB:=hg39 _ hB (Nat.le_refl _)
   replace ow39:=ow39.cast (tb_snoc (f:=(fun z1=>(en ee Z z1))) (n:=k) (en_in (by omega)))
   simp only [putl,p3,p4]
   refine sv 5 v39 ?_
   refine sq_nil ?_
   refine k18 _ _ ?_
   try clear k18 K18
   refine rg [0,1,2] ?_
   refine sv 11 (.int .i64 ((k:Int))) ?_
   refine sw 12 (.int .i64 (((k:Int)+1))) rfl (RunV.int (x:=IntKind.i64.wrap (((k:Int)+1))) (y:=((k:Int)+1)) (rvk (by kernel_rfl)) (by first | rfl | (rw [IntKind.wrap_i64];omega))) ?_
   refine sv 6 (.int .i64 (((k:Int)+1))) ?_
   refine sq_nil ?_
   refine k14 (D - (k+1)) ⟨List.toArray ?l40,[]⟩ _ (by omega) ?_
   exact ⟨k+1,v39,(fun i=>List.getD ?l40 i undef),rfl,rfl,(by omega),ow39,hB⟩
  ·have hq41:¬ ((k:Int)<(Z:Int)):=of_decide_eq_false hb25
   refine wp_skip ?_
   refine k23 _ _ ?_
   try clear k23 K23
   refine rg [0,1,2,3,4] ?_
   refine sv 33 vo ?_
   refine sw 34 (.agg #[(.string ⟨(Lib.itoa (((((0:Int):Int):Rat)/(((1:Int):Int):Rat)).num):List UInt8).toArray⟩),(.string ⟨(Lib.itoa ((((((0:Int):Int):Rat)/(((1:Int):Int):Rat)).den:Int)):List UInt8).toArray⟩)]) rfl (rl 84 0 [(.string ⟨(Lib.itoa (((((0:Int):Int):Rat)/(((1:Int):Int):Rat)).num):List UInt8).toArray⟩),(.string ⟨(Lib.itoa ((((((0:Int):Int):Rat)/(((1:Int):Int):Rat)).den:Int)):List UInt8).toArray⟩)] L21) ?_
   refine se ?_
   refine eff_bs 84 1 #[(.string ⟨(Lib.itoa (((((0:Int):Int):Rat)/(((1:Int):Int):Rat)).num):List UInt8).toArray⟩),(.string ⟨(Lib.itoa ((((((0:Int):Int):Rat)/(((1:Int):Int):Rat)).den:Int)):List UInt8).toArray⟩)] (some 35) rfl (fun _=>by kernel_rfl) (fun b42 w42 g42 L42 q42=>?_)
   have qr42:=q42
   replace hB:=hB.trans g42
   simp only [putl,p3,p4]
   refine se ?_
   replace oo:=oo.gr stab_fr ((st22.gr (g20.trans g21) (Nat.le_trans (Below.size g20) qr21)).trans g42)
   refine eff_apg stab_fr _ _ 51 84 w.heap.size (.agg #[(.string ⟨([]:List UInt8).toArray⟩),(.string ⟨([]:List UInt8).toArray⟩)]) vo (tb (fun z1=>(en ee Z z1)) k) b42 [(.string ⟨(Lib.itoa (((((0:Int):Int):Rat)/(((1:Int):Int):Rat)).num):List UInt8).toArray⟩),(.string ⟨(Lib.itoa ((((((0:Int):Int):Rat)/(((1:Int):Int):Rat)).den:Int)):List UInt8).toArray⟩)] ((((0:Int):Int):Rat)/(((1:Int):Int):Rat)) 2 1 (some 36) 32 rfl rfl rfl rfl oo L42 ⟨rfl,rfl,trivial⟩ rfl rfl (Below.size hB) (by rw [tb_len];omega) (by decide) (by kernel_rfl) (by kernel_rfl) (by decide) (by decide) (fun v43 w43 ow43 wt43 hg43=>?_)
   replace hB:=hg43 _ hB (Nat.le_refl _)
   replace ow43:=ow43.cast (tb_snoc (f:=(fun z1=>(en ee Z z1))) (n:=k) (en_out (by omega)))
   simp only [putl,p3,p4]
   refine sv 5 v43 ?_
   refine sq_nil ?_
   refine k18 _ _ ?_
   try clear k18 K18
   refine rg [0,1,2] ?_
   refine sv 11 (.int .i64 ((k:Int))) ?_
   refine sw 12 (.int .i64 (((k:Int)+1))) rfl (RunV.int (x:=IntKind.i64.wrap (((k:Int)+1))) (y:=((k:Int)+1)) (rvk (by kernel_rfl)) (by first | rfl | (rw [IntKind.wrap_i64];omega))) ?_
   refine sv 6 (.int .i64 (((k:Int)+1))) ?_
   refine sq_nil ?_
   refine k14 (D - (k+1)) ⟨List.toArray ?l44,[]⟩ _ (by omega) ?_
   exact ⟨k+1,v43,(fun i=>List.getD ?l44 i undef),rfl,rfl,(by omega),ow43,hB⟩
 ·have hek:D=k:=by have:=of_decide_eq_false hb17;omega
  subst hek
  refine wp_exit ?_
  simp only [Exit.then,Exit.inBlock,↓reduceIte]
  refine k12 _ _ ?_
  try clear k12 K12
  refine wp_seq_k (fun K45 k45=>?_)
  refine rg [0,1] ?_
  refine sv 37 vo ?_
  refine sv 4 vo ?_
  refine sq_nil ?_
  refine k45 _ _ ?_
  try clear k45 K45
  refine wp_ret ?_
  refine bodyPost_ret (v:=vo) (ret_tmp rfl rfl) rfl ⟨?_,hB⟩
  exact ⟨_,rfl,(oo.sl)⟩

set_option maxRecDepth 100000 in
set_option maxHeartbeats 1000000 in
theorem l5_rows {TQ Z R cc:Nat} {v:Value} {ee:Nat→Nat→Int × Int} {zl:Nat→Nat} (_hR:R=min Z 5) (_hc:cc≤255) {w:World} (hs:Sl (ESl EEn 2) TQ 1 w v (tb (fun z0=>tb (ee z0) (zl z0)) Z)):
    Calls Tryz.prog 13 #[(.agg #[(.int .u8 ((cc:Int))),v])] w fun e w'=>(∃ u,e=.returned u∧Sl (ERw EFr 84 2) 51 1 w' u (tb (fun z0=>tb (fun z1=>(en (ee z0) (zl z0) z1)) (cc % 7)) R))∧Gr w w':=by
 go_enter Tryz.func13,Tryz.ntmps13
 have hB:=Gr.refl w
 refine wp_seq_k (fun K10 k10=>?_)
 refine rg [0,1] ?_
 refine se ?_
 refine eb 24 #[(.int .u8 ((cc:Int))),v] 1 hB fun b11 w11 g11 L11 o11 q11 hB=>?_
 simp only [p3,p4]
 refine sv 2 (.slice none 0 0) ?_
 refine sq_nil ?_
 refine k10 _ _ ?_
 try clear k10 K10
 refine wp_seq_k (fun K12 k12=>?_)
 refine rg [0] ?_
 refine sv 3 (.slice none 0 0) ?_
 refine sq_nil ?_
 refine k12 _ _ ?_
 try clear k12 K12
 refine wp_seq_k (fun K13 k13=>?_)
 refine wp_seq_k (fun K14 k14=>?_)
 refine rg [0] ?_
 refine sv 4 (.int .i64 0) ?_
 refine sq_nil ?_
 refine k14 _ _ ?_
 try clear k14 K14
 refine wp_block ?_
 refine wp_loop_inv (a:=⟨List.toArray ?l15,[]⟩) (fun n a w'=>∃ (i:Nat) (vo:Value) (u15:Nat→Value),R - i=n∧a=⟨[(.agg #[(.int .u8 ((cc:Int))),v]),(.pointer (some ⟨b11,0,none⟩)),(.slice none 0 0),vo,(.int .i64 ((i:Int))),(u15 5),(u15 6),(u15 7),(u15 8),(u15 9),(u15 10),(u15 11),(u15 12),(u15 13),(u15 14),(u15 15),(u15 16),(u15 17),(u15 18),(u15 19),(u15 20),(u15 21),(u15 22),(u15 23),(u15 24),(u15 25),(u15 26),(u15 27),(u15 28),undef].toArray,[]⟩∧i≤R∧Ow (ERw EFr 84 2) 51 1 w' w.heap.size vo (tb (fun z0=>tb (fun z1=>(en (ee z0) (zl z0) z1)) (cc % 7)) i)∧Lc w' b11 #[(.int .u8 ((cc:Int))),v] 24∧Gr w w') (R - 0) ?_ ?_
 ·exact ⟨0,(.slice none 0 0),(fun i=>List.getD ?l15 i undef),rfl,rfl,(Nat.zero_le _),(Ow.nil _ _ _ _ _),L11,hB⟩
 rintro n15 a15 w15 ⟨i,vo,u15,rfl,rfl,hki,oo,L11,hB⟩ K15 k15
 refine wp_seq_k (fun K16 k16=>?_)
 refine wp_seq_k (fun K17 k17=>?_)
 refine rg [0,1,2,3,4,5,6,7,8] ?_
 refine sv 5 (.int .i64 ((i:Int))) ?_
 refine sv 6 (.pointer (some ⟨b11,1,none⟩)) ?_
 refine sw 7 v rfl (rk 22 1 L11) ?_
 refine sw 8 (.int .i64 ((Z:Int))) rfl (rv_lenn (e:=45) hs (tb_lenz rfl) _ _ rfl rfl (by kernel_rfl)) ?_
 refine sv 9 (.bool (decide ((i:Int)<(Z:Int)))) ?_
 rcases Bool.eq_false_or_eq_true (decide ((i:Int)<(Z:Int))) with hb18 | hb18
 ·have hlz:i<Z:=by have:=of_decide_eq_true hb18;omega
  refine sw 10 (.bool true) rfl (RunV.bool (x:=decide ((i:Int)<(Z:Int))) (rvk (by kernel_rfl)) hb18) ?_
  refine sv 11 (.int .i64 ((i:Int))) ?_
  refine sv 12 (.bool (decide ((i:Int)<(5:Int)))) ?_
  refine sv 13 (.bool (decide ((i:Int)<(5:Int)))) ?_
  refine sq_nil ?_
  refine k17 _ _ ?_
  try clear k17 K17
  refine wp_cond_split (t:=decide ((i:Int)<(5:Int))) rfl (fun hb19=>?_) (fun hb19=>?_)
  ·have hli:i<R:=by have:=of_decide_eq_true hb19;omega
   refine wp_skip ?_
   refine k16 _ _ ?_
   try clear k16 K16
   refine wp_seq_k (fun K20 k20=>?_)
   refine wp_block ?_
   obtain ⟨_,_,⟨u28,TT28,rfl,hr28⟩,at28⟩:=Sl.get hs (by decide) (tb_get (f:=(fun z0=>tb (ee z0) (zl z0))) (n:=Z) (i:=i) (by omega))
   have gd29:=Gr.drew w15
   replace hB:=hB.trans gd29
   replace L11:=L11.gr gd29
   refine wp_region_ord (fun w'=>Lc w' b11 #[(.int .u8 ((cc:Int))),v] 24∧AtV w' v (i*1) [u28]) [(true,0),(true,1),(true,2),(true,3),(true,4),(true,5),(true,6),(true,7),(true,8),(true,9),(false,10),(false,11),(false,12),(true,13)] (by kernel_rfl) (by kernel_rfl) (by kernel_rfl) (by decide) (fun _ _ _ _ _ h=>h) ⟨L11,(at28.gr hB)⟩ ?_
   refine ov 16 vo ?_
   refine ov 17 (.pointer (some ⟨b11,1,none⟩)) ?_
   refine ow 18 v rfl (fun w' hS=>(rk 22 1 hS.1)) ?_
   refine ov 19 (.int .i64 ((i:Int))) ?_
   refine ow 20 (adr v (i*1)) rfl (fun w' hS=>(rv_idxn (e:=45) hs tb_len (by decide) i (by omega) _ _ _ rfl rfl rfl (by kernel_rfl) (by kernel_rfl))) ?_
   refine ow 21 u28 rfl (fun w' hS=>(rv_ld1 u28 hS.2 _ _ rfl rfl (by kernel_rfl))) ?_
   refine ov 22 (.pointer (some ⟨b11,0,none⟩)) ?_
   refine ow 23 (.int .u8 ((cc:Int))) rfl (fun w' hS=>(rk 5 0 hS.1)) ?_
   refine ow 24 (.int .u8 (((cc % 7:Nat):Int))) rfl (fun w' hS=>(RunV.int (x:=Int.tmod (cc:Int) 7) (y:=((cc % 7:Nat):Int)) (rvk (by kernel_rfl)) (by rw [Int.tmod_eq_emod_of_nonneg (Int.natCast_nonneg _)];omega))) ?_
   refine ow 25 (.int .i64 (((cc % 7:Nat):Int))) rfl (fun w' hS=>(RunV.int (x:=IntKind.i64.wrap (((cc % 7:Nat):Int))) (y:=((cc % 7:Nat):Int)) (rvk (by kernel_rfl)) (by first | rfl | (rw [IntKind.wrap_i64];omega)))) ?_
   refine oe ?_
   refine ec 26 (l5_line (cc % 7) (by omega) (hr28.gr stab_en hB)) ?_
   rintro e31 w31 ⟨⟨u31,rfl,hs31⟩,g31⟩
   refine ⟨_,rfl,?_⟩
   replace hB:=hB.trans g31
   replace L11:=L11.gr g31
   refine ⟨⟨L11,(at28.gr hB)⟩,?_⟩
   simp only [p3,p4]
   refine oe ?_
   refine eff_bs1 26 51 u31 (some 27) rfl rfl rfl hs31.forms (fun _ _ _ _=>by kernel_rfl) (fun b33 w33 g33 L33 q33=>?_)
   replace hB:=hB.trans g33
   replace L11:=L11.gr g33
   refine ⟨⟨L11,(at28.gr hB)⟩,?_⟩
   simp only [putl,p3,p4]
   refine oe ?_
   replace hs31:=hs31.gr stab_fr g33
   replace oo:=oo.gr (stab_rw stab_fr 84 2) (gd29.trans (g31.trans g33))
   refine eff_apg (stab_rw stab_fr 84 2) _ _ 26 51 w.heap.size (.slice none 0 0) vo (tb (fun z0=>tb (fun z1=>(en (ee z0) (zl z0) z1)) (cc % 7)) i) b33 [u31] (tb (fun z1=>(en (ee i) (zl i) z1)) (cc % 7)) 1 1 (some 28) 24 rfl rfl rfl rfl oo L33 ⟨hs31.one,trivial⟩ rfl ⟨_,rfl,hs31⟩ (Below.size hB) (by rw [tb_len];omega) (by decide) (by kernel_rfl) (by kernel_rfl) (by decide) (by decide) (fun v35 w35 ow35 wt35 hg35=>?_)
   replace hB:=hg35 _ hB (Nat.le_refl _)
   replace ow35:=ow35.cast (tb_snoc (f:=(fun z0=>tb (fun z1=>(en (ee z0) (zl z0) z1)) (cc % 7))) (n:=i) (by first | rfl | exact fil_all))
   replace L11:=wt35.lc L11 (by decide)
   refine ⟨⟨L11,(at28.gr hB)⟩,?_⟩
   simp only [putl,p3,p4]
   refine ov 3 v35 ?_
   refine ord_nil ?_
   refine k20 _ _ ?_
   try clear k20 K20
   refine rg [0,1,2] ?_
   refine sv 14 (.int .i64 ((i:Int))) ?_
   refine sw 15 (.int .i64 (((i:Int)+1))) rfl (RunV.int (x:=IntKind.i64.wrap (((i:Int)+1))) (y:=((i:Int)+1)) (rvk (by kernel_rfl)) (by first | rfl | (rw [IntKind.wrap_i64];omega))) ?_
   refine sv 4 (.int .i64 (((i:Int)+1))) ?_
   refine sq_nil ?_
   refine k15 (R - (i+1)) ⟨List.toArray ?l36,[]⟩ _ (by omega) ?_
   exact ⟨i+1,v35,(fun i=>List.getD ?l36 i undef),rfl,rfl,(by omega),ow35,L11,hB⟩
  ·have heR:R=i:=by have:=of_decide_eq_false hb19;omega
   refine wp_exit ?_
   simp only [Exit.then,Exit.inBlock,↓reduceIte]
   refine k13 _ _ ?_
   try clear k13 K13
   refine wp_seq_k (fun K37 k37=>?_)
   refine rg [0,1] ?_
   refine sv 29 vo ?_
   refine sv 2 vo ?_
   refine sq_nil ?_
   refine k37 _ _ ?_
   try clear k37 K37
   refine wp_ret ?_
   refine bodyPost_ret (v:=vo) (ret_tmp rfl rfl) rfl ⟨?_,hB⟩
   exact (by subst heR;exact ⟨_,rfl,(oo.sl)⟩)
 ·have heR:R=i:=by have:=of_decide_eq_false hb18;omega
  refine sw 10 (.bool false) rfl (RunV.bool (x:=decide ((i:Int)<(Z:Int))) (rvk (by kernel_rfl)) hb18) ?_
  refine ss 11 ?_
  refine ss 12 ?_
  refine sv 13 (.bool false) ?_
  refine sq_nil ?_
  refine k17 _ _ ?_
  try clear k17 K17
  refine wp_cond_false rfl ?_
  refine wp_exit ?_
  simp only [Exit.then,Exit.inBlock,↓reduceIte]
  refine k13 _ _ ?_
  try clear k13 K13
  refine wp_seq_k (fun K38 k38=>?_)
  refine rg [0,1] ?_
  refine sv 29 vo ?_
  refine sv 2 vo ?_
  refine sq_nil ?_
  refine k38 _ _ ?_
  try clear k38 K38
  refine wp_ret ?_
  refine bodyPost_ret (v:=vo) (ret_tmp rfl rfl) rfl ⟨?_,hB⟩
  exact (by subst heR;exact ⟨_,rfl,(oo.sl)⟩)

section
variable {α:Type} {E:World→α→List Value→Prop} {ts:List TypeId} {T c:Nat} {w w':World} {v:Value} {xs:List (List α)}
theorem Sl.esl_gr (hS:Stab E ts) (h:Sl (ESl E c) T 1 w v xs) (g:Gr w w'):Sl (ESl E c) T 1 w' v xs:=by
  obtain ⟨ys,h1,h2⟩:=h
  refine ⟨ys,h1.kt (g.kt T),h2.1,fun i x hx=>?_⟩
  obtain ⟨u,T2,e,hs⟩:=h2.2 i x hx
  exact ⟨u,T2,e,hs.gr hS g⟩
end
section
variable {w w':World} {x v:Value} {R N:Nat} {m:Mx_}
theorem en_zs {T Z:Nat} {ee:Nat→Int × Int} (h:Sl EEn T 2 w v (tb ee Z)) (k:Nat):RZ 8 3 (en ee Z k):=
  en_z fun j hj=>by
    obtain ⟨vs,_,h2,_⟩:=h.get (by decide) (tb_get (f:=ee) hj)
    exact h2.2
/-- a table that a law gets:how many rows and columns,which numbers -/
def TA (w:World) (x:Value) (R N:Nat) (m:Mx_):Prop:=
  ∃ (TQ Z cc:Nat) (v:Value) (ee:Nat→Nat→Int × Int) (zl:Nat→Nat),x=.agg #[.int .u8 (cc:Int),v]∧Sl (ESl EEn 2) TQ 1 w v (tb (fun z0=>tb (ee z0) (zl z0)) Z)∧cc≤255∧R=min Z 5∧N=(if R=0 then 0 else cc % 7)∧m=fun i k=>if i<R∧k<N then en (ee i) (zl i) k else 0
theorem TA.gr (h:TA w x R N m) (g:Gr w w'):TA w' x R N m:=by
  obtain ⟨TQ,Z,cc,v,ee,zl,h1,h2,h3⟩:=h
  exact ⟨TQ,Z,cc,v,ee,zl,h1,h2.esl_gr stab_en g,h3⟩
theorem TA.one0 {cc:Int} (h:TA w (.agg #[.int .u8 cc,v]) R N m):v.oneCell'=true:=by
  obtain ⟨_,_,_,v',_,_,h1,h2,_⟩:=h
  obtain rfl:v=v':=by simp at h1;exact h1.2
  exact h2.one
theorem TA.R5 (h:TA w x R N m):R≤5:=by
  obtain ⟨_,_,_,_,_,_,_,_,_,h,_⟩:=h;omega
theorem TA.N6 (h:TA w x R N m):N≤6:=by
  obtain ⟨_,_,_,_,_,_,_,_,_,_,h,_⟩:=h;split at h<;>omega
theorem TA.R0 (h:TA w x R N m):R=0→N=0:=fun e=>by
  obtain ⟨_,_,_,_,_,_,_,_,_,_,h,_⟩:=h;rw [if_pos e] at h;exact h
theorem TA.out (h:TA w x R N m) {i k:Nat} (hn:¬ (i<R∧k<N)):m i k=0:=by
  obtain ⟨_,_,_,_,_,_,_,_,_,_,_,rfl⟩:=h;exact if_neg hn
theorem TA.zb (h:TA w x R N m):Zb R N m:=fun _ _ _ hk=>h.out fun h=>by omega
theorem TA.z (h:TA w x R N m) (i k:Nat):RZ 8 3 (m i k):=by
  by_cases hi:i<R∧k<N
  · obtain ⟨_,_,_,_,_,_,_,hs,_,h2,_,rfl⟩:=h
    simp only [if_pos hi]
    obtain ⟨_,_,hr,_⟩:=hs.get (by decide) (tb_get (i:=i) (by omega))
    obtain ⟨u,T2,_,h3⟩:=hr
    exact en_zs h3 k
  · rw [h.out hi];exact RZ.zero _ _ (by decide)
theorem TA.zz (h:TA w x R N m):∀ i,i<R→∀ k,k<N→RZ 8 3 (m i k):=fun i _ k _=>h.z i k
/-- the rows of such a table -/
theorem l5_rowsT (h:TA w x R N m):Calls Tryz.prog 13 #[x] w fun e w'=>(∃ u,e=.returned u∧Sl (ERw EFr 84 2) 51 1 w' u (tb (fun z0=>tb (fun z1=>m z0 z1) N) R))∧Gr w w':=by
  obtain ⟨TQ,Z,cc,v,ee,zl,rfl,hs,hc,hR,hN,rfl⟩:=h
  refine (l5_rows hR hc hs).mono fun e w'=>?_
  rintro ⟨⟨u,rfl,h1⟩,hg⟩
  refine ⟨⟨u,rfl,h1.cast ?_⟩,hg⟩
  by_cases h0:R=0
  · rw [h0];rfl
  · rw [if_neg h0] at hN
    rw [← hN]
    exact tb_congr fun i hi=>tb_congr fun k hk=>(if_pos ⟨hi,hk⟩).symm
end
/-! ### a law's arguments -/
theorem esl_en {w:World} {x:List (List Int)} {vs:List Value} (h:ESl (EK [.i8,.u8]) 2 w x vs):ESl EEn 2 w (x.map fun y=>(y.getD 0 0,y.getD 1 0)) vs:=by
  obtain ⟨u,T,e,hs⟩:=h
  exact ⟨u,T,e,hs.mapE _ fun _ _=>ek_en⟩
theorem ent_of {T:Nat} {w:World} {v:Value} {xs:List (List Int)} (h:Sl (EK [.i8,.u8]) T 2 w v xs):∃ (ee:Nat→Int × Int) (Z:Nat),Sl EEn T 2 w v (tb ee Z):=
  ⟨_,_,(h.mapE _ fun _ _=>ek_en).cast (list_tb (0,0) _)⟩
theorem ta_of {T:Nat} {w:World} {u:Value} {xs:List (List (List Int))} (h:Sl (ESl (EK [.i8,.u8]) 2) T 1 w u xs) {cc:Int} (hc:0≤cc∧cc≤255):∃ (R N:Nat) (m:Mx_),TA w (.agg #[.int .u8 cc,u]) R N m:=by
  have h1:=(h.mapE _ fun _ _=>esl_en).cast (list_tb ([]:List (Int × Int)) _)
  refine ⟨_,_,_,T,_,cc.toNat,u,_,_,by rw [Int.toNat_of_nonneg hc.1],h1.cast (tb_congr fun i _=>list_tb (0,0) _),by omega,rfl,rfl,rfl⟩
/-! ### closed slices -/
section
variable {w:World} {b T:Nat}
theorem els_i64 (w:World):∀ zs:List Int,Els EI64 1 w (zs.map fun z=>Value.int .i64 z) zs
  | []=>Els.nil ..
  | zs=>⟨by simp,fun i x hx=>by
      have hi:=(List.getElem?_eq_some_iff.1 hx).1
      have e:(zs.map fun z=>Value.int .i64 z)[i]?=some (.int .i64 x):=by rw [List.getElem?_map,hx];rfl
      show _=_
      obtain ⟨hl,hv⟩:=List.getElem?_eq_some_iff.1 e
      rw [Nat.mul_one,List.drop_eq_getElem_cons hl,hv];rfl⟩
theorem sl_i64 {us:Array Value} (h:Lc w b us T) (zs:List Int) (n:Nat) (hu:us=(zs.map fun z=>Value.int .i64 z).toArray) (hn:zs.length=n):Sl EI64 T 1 w (.slice (some ⟨b,0,none⟩) n n) zs:=by
  subst hu
  exact Mk.sl_n ⟨_,h,els_i64 w zs⟩ hn (Nat.le_refl _)
variable {α:Type} {E:World→α→List Value→Prop} {T2 c:Nat} {u v:Value} {x y:List α}
theorem sl_row1 (h:Lc w b #[u] T) (hu:Sl E T2 c w u x):Sl (ERw E T2 c) T 1 w (.slice (some ⟨b,0,none⟩) 1 1) [x]:=
  Mk.sl_n ⟨[u],h,(Els.nil _ _ _).snoc (x:=x) (vs:=[u]) rfl ⟨u,rfl,hu⟩⟩ rfl (Nat.le_refl _)
theorem sl_row2 (h:Lc w b #[u,v] T) (hu:Sl E T2 c w u x) (hv:Sl E T2 c w v y):Sl (ERw E T2 c) T 1 w (.slice (some ⟨b,0,none⟩) 2 2) [x,y]:=
  Mk.sl_n ⟨[u,v],h,((Els.nil _ _ _).snoc (x:=x) (vs:=[u]) rfl ⟨u,rfl,hu⟩).snoc (x:=y) (vs:=[v]) rfl ⟨v,rfl,hv⟩⟩ rfl (Nat.le_refl _)
end
/-- numbers of rows that are written out -/
def nl (L:List (List Int)) (i k:Nat):Int:=(L.getD i []).getD k 0
abbrev nq (L:List (List Int)):Mx_:=fun i k=>((nl L i k:Int):Rat)
theorem nl_s {L:List (List Int)} (h:(L.all fun l=>l.all fun z=>decide (z.natAbs<256))=true) (i k:Nat):(nl L i k).natAbs<256:=by
  unfold nl
  have e0:L.getD i []=L[i]?.getD []:=List.getD_eq_getElem?_getD ..
  rw [e0]
  cases e:L[i]? with
  | none=>simp
  | some l=>
    rw [Option.getD_some]
    cases e2:l[k]? with
    | none=>rw [List.getD_eq_getElem?_getD,e2];simp
    | some z=>
      rw [List.getD_eq_getElem?_getD,e2,Option.getD_some]
      have h1:=List.all_eq_true.1 h l (List.mem_of_getElem? e)
      have h2:=List.all_eq_true.1 h1 z (List.mem_of_getElem? e2)
      simpa using h2
theorem nl_b {L:List (List Int)} {R N:Nat} (h:(L.all fun l=>l.all fun z=>decide (z.natAbs<256))=true):∀ i,i<R→∀ k,k<N→-9223372036854775808≤nl L i k∧nl L i k≤9223372036854775807:=fun i _ k _=>by
  have:=nl_s h i k;omega
theorem nq_z {L:List (List Int)} {R N:Nat} (h:(L.all fun l=>l.all fun z=>decide (z.natAbs<256))=true):∀ i,i<R→∀ k,k<N→RZ 8 3 (nq L i k):=fun i _ k _=>by
  have hs:=nl_s h i k
  exact (RZ.int (a:=8) (by unfold Sz;omega)).mono (Nat.le_refl _) (by decide)
/-! ### numbers that may be longer -/
theorem Sl.rats {k K T c:Nat} {w:World} {v:Value} {xs:List Rat} (h:Sl (ERat k) T c w v xs) (hk:k≤K):Sl (ERat K) T c w v xs:=h.mono fun _ _ hx=>hx.mono hk
theorem Sl.ratrows {k K T c T2 c2:Nat} {w:World} {v:Value} {xs:List (List Rat)} (h:Sl (ERw (ERat k) T c) T2 c2 w v xs) (hk:k≤K):Sl (ERw (ERat K) T c) T2 c2 w v xs:=
  h.mono fun _ _ hx=>by
    obtain ⟨u,e,hs⟩:=hx
    exact ⟨u,e,hs.rats hk⟩
section
variable {w:World} {x:Value} {R N:Nat} {m:Mx_}
/-- the transpose has the same rank -/
theorem TA.rank (h:TA w x R N m):pl N (fun i k=>m k i) R=pl R m N:=by
  have h1:=rnk_eq_tr h.zb
  have e:tr_ R m=fun i k=>m k i:=by
    funext i k
    unfold tr_
    by_cases hk:k<R
    · rw [if_pos hk]
    · rw [if_neg hk,h.out fun h=>hk h.1]
  rw [e] at h1
  exact h1
theorem TA.bd (h:TA w x R N m):∀ k,k≤N→RdZ R N 4899 (rs R m k):=rs_sm h.zz (.inr h.R5) (Nat.le_refl _)
end
theorem en_none (ee:Nat→Int × Int) (k:Nat):en ee 0 k=0:=by
  unfold en
  rw [if_neg (Nat.not_lt_zero k)]
  kernel_rfl
set_option maxRecDepth 100000 in
set_option maxHeartbeats 1000000 in
theorem mx_Identity_r (z:Int) (hz:z<0∨96<z) (w:World):
    Calls Tryz.prog 22 #[(.int .i64 (z))] w fun e w'=>e=.returned (.tuple #[.slice none 0 0,.int .i64 2])∧Gr w w':=by
 go_enter Tryz.func22,Tryz.ntmps22
 have hB:=Gr.refl w
 refine wp_seq_k (fun K10 k10=>?_)
 refine rg [0,1] ?_
 refine sv 2 (.slice none 0 0) ?_
 refine sv 3 (.int .i64 0) ?_
 refine sq_nil ?_
 refine k10 _ _ ?_
 try clear k10 K10
 refine wp_seq_k (fun K11 k11=>?_)
 refine wp_seq_k (fun K12 k12=>?_)
 refine rg [0,1,2,3,4,5] ?_
 refine sv 7 (.int .i64 (z)) ?_
 refine sv 8 (.bool (decide (z<(0:Int)))) ?_
 rcases Bool.eq_false_or_eq_true (decide (z<(0:Int))) with hb13 | hb13
 ·have h1:z<0:=of_decide_eq_true hb13
  refine sw 9 (.bool true) rfl (RunV.bool (x:=decide (z<(0:Int))) (rvk (by kernel_rfl)) hb13) ?_
  refine ss 10 ?_
  refine ss 11 ?_
  refine sv 12 (.bool true) ?_
  refine sq_nil ?_
  refine k12 _ _ ?_
  try clear k12 K12
  refine wp_cond_true rfl ?_
  refine wp_seq_k (fun K14 k14=>?_)
  refine rg [0,1] ?_
  refine sv 2 (.slice none 0 0) ?_
  refine sv 3 (.int .i64 2) ?_
  refine sq_nil ?_
  refine k14 _ _ ?_
  try clear k14 K14
  refine wp_ret ?_
  simp only [Exit.then]
  refine bodyPost_ret (v:=(.tuple #[(.slice none 0 0),(.int .i64 2)])) (ret_tmp2 rfl rfl rfl) rfl ⟨?_,hB⟩
  exact rfl
 ·have h1:¬ z<0:=of_decide_eq_false hb13
  refine sw 9 (.bool false) rfl (RunV.bool (x:=decide (z<(0:Int))) (rvk (by kernel_rfl)) hb13) ?_
  refine sv 10 (.int .i64 (z)) ?_
  refine sv 11 (.bool (decide ((96:Int)<z))) ?_
  refine sv 12 (.bool (decide ((96:Int)<z))) ?_
  refine sq_nil ?_
  refine k12 _ _ ?_
  try clear k12 K12
  refine wp_cond_split (t:=decide ((96:Int)<z)) rfl (fun hb15=>?_) (fun hb15=>?_)
  ·have h2:96<z:=of_decide_eq_true hb15
   refine wp_seq_k (fun K16 k16=>?_)
   refine rg [0,1] ?_
   refine sv 2 (.slice none 0 0) ?_
   refine sv 3 (.int .i64 2) ?_
   refine sq_nil ?_
   refine k16 _ _ ?_
   try clear k16 K16
   refine wp_ret ?_
   simp only [Exit.then]
   refine bodyPost_ret (v:=(.tuple #[(.slice none 0 0),(.int .i64 2)])) (ret_tmp2 rfl rfl rfl) rfl ⟨?_,hB⟩
   exact rfl
  ·have h2:¬ 96<z:=of_decide_eq_false hb15
   refine wp_skip ?_
   refine k11 _ _ ?_
   try clear k11 K11
   refine wp_seq_k (fun K17 k17=>?_)
   refine rg [0] ?_
   refine sv 4 (.slice none 0 0) ?_
   refine sq_nil ?_
   refine k17 _ _ ?_
   try clear k17 K17
   refine wp_seq_k (fun K18 k18=>?_)
   refine wp_seq_k (fun K19 k19=>?_)
   refine rg [0,1] ?_
   refine sv 13 (.int .i64 (z)) ?_
   refine sv 14 (.int .i64 0) ?_
   refine sq_nil ?_
   refine k19 _ _ ?_
   try clear k19 K19
   refine wp_block ?_
   exact absurd hz (by omega)

set_option maxRecDepth 100000 in
set_option maxHeartbeats 1000000 in
theorem l5_known (w:World) (_hm:Mx w) (ht:Tab w):
    Calls Tryz.prog 12 #[] w fun e w'=>e=.returned (.bool true)∧Gr w w':=by
 go_enter Tryz.func12,Tryz.ntmps12
 have hB:=Gr.refl w
 refine wp_seq_k (fun K10 k10=>?_)
 refine rg [0] ?_
 refine sv 0 (.bool false) ?_
 refine sq_nil ?_
 refine k10 _ _ ?_
 try clear k10 K10
 refine wp_seq_k (fun K11 k11=>?_)
 refine rg [0,1,2,3,4,5,6,7,8,9,10,11] ?_
 refine se ?_
 refine eff_bs 3 3 #[(.int .i64 2),(.int .i64 4),(.int .i64 6)] (some 9) rfl (fun _=>by kernel_rfl) (fun b12 w12 g12 L12 q12=>?_)
 replace hB:=hB.trans g12
 simp only [putl,p3,p4]
 refine se ?_
 refine eff_bs 3 3 #[(.int .i64 1),(.int .i64 2),(.int .i64 4)] (some 10) rfl (fun _=>by kernel_rfl) (fun b13 w13 g13 L13 q13=>?_)
 replace hB:=hB.trans g13
 simp only [putl,p3,p4]
 refine se ?_
 refine eff_bs 30 2 #[(.slice (some ⟨b12,0,none⟩) 3 3),(.slice (some ⟨b13,0,none⟩) 3 3)] (some 11) rfl (fun _=>by kernel_rfl) (fun b14 w14 g14 L14 q14=>?_)
 replace L12:=L12.gr g13
 replace hB:=hB.trans g14
 simp only [putl,p3,p4]
 refine se ?_
 replace L12:=L12.gr g14
 replace L13:=L13.gr g14
 refine ec 12 (l5_numbers (R:=2) (N:=3) (nn:=nl [[2,4,6],[1,2,4]]) (by decide) (by decide) (nl_b (by decide)) ((sl_row2 L14 (sl_i64 L12 [2,4,6] 3 rfl rfl) (sl_i64 L13 [1,2,4] 3 rfl rfl)).cast (show [[2,4,6],[1,2,4]]=tb (fun z0=>tb (fun z1=>nl [[2,4,6],[1,2,4]] z0 z1) 3) 2 from by kernel_rfl))) ?_
 rintro e15 w15 ⟨⟨u15,rfl,hs15⟩,g15⟩
 refine ⟨_,rfl,?_⟩
 replace hB:=hB.trans g15
 simp only [p3,p4]
 refine se ?_
 refine ec 13 (mx_Reduce (K:=4899) (m:=(nq [[2,4,6],[1,2,4]])) (fun h=>absurd h (by decide)) (by decide) (by decide) (by decide) (by decide) (rs_sm (nq_z (by decide)) (.inr (by decide)) (Nat.le_refl _)) (hs15.ratrows (by omega))) ?_
 rintro e16 w16 ⟨⟨u16,v16,rfl,hs16,hp16⟩,g16⟩
 refine ⟨_,rfl,?_⟩
 replace hB:=hB.trans g16
 replace hs16:=hs16.cast (show _=tb (fun z0=>tb (fun z1=>nq [[1,2,0],[0,0,1]] z0 z1) 3) 2 from by kernel_rfl)
 replace hp16:=hp16.cast (show _=tb (fun z1=>([0,2]:List Int).getD z1 0) 2 from by kernel_rfl)
 simp only [p3,p4]
 refine sv 8 (.tuple #[u16,v16,(.int .i64 0)]) ?_
 refine sv 14 u16 ?_
 refine sv 15 v16 ?_
 refine sv 16 (.int .i64 0) ?_
 refine sv 1 u16 ?_
 refine sv 2 v16 ?_
 refine sv 3 (.int .i64 0) ?_
 refine sq_nil ?_
 refine k11 _ _ ?_
 try clear k11 K11
 refine wp_seq_k (fun K17 k17=>?_)
 refine rg [0,1,2,3,4,5,6,7,8,9] ?_
 refine se ?_
 refine eff_bs 3 3 #[(.int .i64 2),(.int .i64 4),(.int .i64 6)] (some 18) rfl (fun _=>by kernel_rfl) (fun b18 w18 g18 L18 q18=>?_)
 replace hB:=hB.trans g18
 simp only [putl,p3,p4]
 refine se ?_
 refine eff_bs 3 3 #[(.int .i64 1),(.int .i64 2),(.int .i64 4)] (some 19) rfl (fun _=>by kernel_rfl) (fun b19 w19 g19 L19 q19=>?_)
 replace hB:=hB.trans g19
 simp only [putl,p3,p4]
 refine se ?_
 refine eff_bs 30 2 #[(.slice (some ⟨b18,0,none⟩) 3 3),(.slice (some ⟨b19,0,none⟩) 3 3)] (some 20) rfl (fun _=>by kernel_rfl) (fun b20 w20 g20 L20 q20=>?_)
 replace L18:=L18.gr g19
 replace hB:=hB.trans g20
 simp only [putl,p3,p4]
 refine se ?_
 replace L18:=L18.gr g20
 replace L19:=L19.gr g20
 refine ec 21 (l5_numbers (R:=2) (N:=3) (nn:=nl [[2,4,6],[1,2,4]]) (by decide) (by decide) (nl_b (by decide)) ((sl_row2 L20 (sl_i64 L18 [2,4,6] 3 rfl rfl) (sl_i64 L19 [1,2,4] 3 rfl rfl)).cast (show [[2,4,6],[1,2,4]]=tb (fun z0=>tb (fun z1=>nl [[2,4,6],[1,2,4]] z0 z1) 3) 2 from by kernel_rfl))) ?_
 rintro e21 w21 ⟨⟨u21,rfl,hs21⟩,g21⟩
 refine ⟨_,rfl,?_⟩
 replace hB:=hB.trans g21
 simp only [p3,p4]
 refine se ?_
 refine ec 22 (mx_Kernel (K:=4899) (D:=3) (m:=nq [[2,4,6],[1,2,4]]) (by decide) (by decide) (by decide) (by decide) (rs_sm (nq_z (by decide)) (.inr (by decide)) (Nat.le_refl _)) (hs21.ratrows (by omega))) ?_
 rintro e22 w22 ⟨⟨u22,rfl,hs22⟩,g22⟩
 refine ⟨_,rfl,?_⟩
 replace hB:=hB.trans g22
 replace hs22:=hs22.cast (show _=tb (fun z0=>tb (fun z1=>nq [[-2,1,0]] z0 z1) 3) 1 from by kernel_rfl)
 simp only [p3,p4]
 refine sv 17 (.tuple #[u22,(.int .i64 0)]) ?_
 refine sv 23 u22 ?_
 refine sv 24 (.int .i64 0) ?_
 refine sv 4 u22 ?_
 refine sv 5 (.int .i64 0) ?_
 refine sq_nil ?_
 refine k17 _ _ ?_
 try clear k17 K17
 refine wp_seq_k (fun K23 k23=>?_)
 have lehC:=Below.size hB
 have hC:=Gr.refl w22
 replace hs15:=hs15.gr (stab_rw (stab_rat 64) 71 4) (g16.trans (g18.trans (g19.trans (g20.trans (g21.trans g22)))))
 replace hs16:=hs16.gr (stab_rw (stab_rat 4899) 71 4) (g18.trans (g19.trans (g20.trans (g21.trans g22))))
 replace hp16:=hp16.gr stab_i64 (g18.trans (g19.trans (g20.trans (g21.trans g22))))
 replace hs21:=hs21.gr (stab_rw (stab_rat 64) 71 4) g22
 refine rg [0,1,2,3,4,5,6,7,8,9,10] ?_
 refine se ?_
 refine eff_bs 3 2 #[(.int .i64 1),(.int .i64 2)] (some 26) rfl (fun _=>by kernel_rfl) (fun b24 w24 g24 L24 q24=>?_)
 have q24_hC:=Nat.le_trans (Below.size hC) q24
 replace hB:=hB.trans g24
 replace hC:=hC.trans g24
 simp only [putl,p3,p4]
 refine se ?_
 refine eff_bs 3 2 #[(.int .i64 3),(.int .i64 4)] (some 27) rfl (fun _=>by kernel_rfl) (fun b25 w25 g25 L25 q25=>?_)
 have q25_hC:=Nat.le_trans (Below.size hC) q25
 replace hB:=hB.trans g25
 replace hC:=hC.trans g25
 simp only [putl,p3,p4]
 refine se ?_
 refine eff_bs 30 2 #[(.slice (some ⟨b24,0,none⟩) 2 2),(.slice (some ⟨b25,0,none⟩) 2 2)] (some 28) rfl (fun _=>by kernel_rfl) (fun b26 w26 g26 L26 q26=>?_)
 replace L24:=L24.gr g25
 have q26_hC:=Nat.le_trans (Below.size hC) q26
 replace hB:=hB.trans g26
 replace hC:=hC.trans g26
 simp only [putl,p3,p4]
 refine se ?_
 replace L24:=L24.gr g26
 replace L25:=L25.gr g26
 refine ec 29 (l5_numbers (R:=2) (N:=2) (nn:=nl [[1,2],[3,4]]) (by decide) (by decide) (nl_b (by decide)) ((sl_row2 L26 (sl_i64 L24 [1,2] 2 rfl rfl) (sl_i64 L25 [3,4] 2 rfl rfl)).cast (show [[1,2],[3,4]]=tb (fun z0=>tb (fun z1=>nl [[1,2],[3,4]] z0 z1) 2) 2 from by kernel_rfl))) ?_
 rintro e27 w27 ⟨⟨u27,rfl,hs27⟩,g27⟩
 refine ⟨_,rfl,?_⟩
 replace hB:=hB.trans g27
 replace hC:=hC.trans g27
 simp only [p3,p4]
 refine se ?_
 refine ec 30 (mx_Determinant (K:=4899) (m:=nq [[1,2],[3,4]]) (by decide) (by decide) (by decide) (rs_sm (nq_z (by decide)) (.inr (by decide)) (Nat.le_refl _)) (hs27.ratrows (by omega))) ?_
 rintro e28 w28 ⟨⟨p28,q28,r28,s28,rfl,h28⟩,g28⟩
 refine ⟨_,rfl,?_⟩
 replace hB:=hB.trans g28
 replace hC:=hC.trans g28
 replace h28:=h28.castq (show _=(-2:Rat) from by kernel_rfl)
 simp only [p3,p4]
 refine sv 25 (.tuple #[(.agg #[p28,q28,r28,s28]),(.int .i64 0)]) ?_
 refine sv 31 (.agg #[p28,q28,r28,s28]) ?_
 refine sv 32 (.int .i64 0) ?_
 refine se ?_
 refine ea 71 #[(.bool false),(.slice none 0 0),(.bool false),(.slice none 0 0)] 6 hB fun b29 w29 g29 L29 o29 q29 hB=>?_
 have q29_hC:=Nat.le_trans (Below.size hC) o29
 replace hC:=hC.trans g29
 simp only [p3,p4]
 refine se ?_
 have lo30:=L29
 refine es 71 0 (.agg #[p28,q28,r28,s28]) [p28,q28,r28,s28] #[p28,q28,r28,s28] L29 hB q29 ⟨h28.one0,h28.one1,h28.one2,h28.one3,trivial⟩ fun w30 st30 kp30 L29 hB=>?_
 replace hC:=st30.gr hC q29_hC
 refine sv 7 (.int .i64 0) ?_
 refine sq_nil ?_
 refine k23 _ _ ?_
 try clear k23 K23
 refine wp_seq_k (fun K31 k31=>?_)
 refine rg [0,1,2,3,4,5,6,7,8,9,10,11,12,13,14,15,16,17,18,19,20,21,22,23,24,25,26,27,28,29,30,31,32,33,34,35,36,37,38,39,40,41,42,43,44,45,46,47] ?_
 refine sv 33 u16 ?_
 refine se ?_
 refine eff_bs 3 3 #[(.int .i64 1),(.int .i64 2),(.int .i64 0)] (some 34) rfl (fun _=>by kernel_rfl) (fun b32 w32 g32 L32 q32=>?_)
 have q32_hC:=Nat.le_trans (Below.size hC) q32
 replace hB:=hB.trans g32
 replace hC:=hC.trans g32
 simp only [putl,p3,p4]
 refine se ?_
 refine eff_bs 3 3 #[(.int .i64 0),(.int .i64 0),(.int .i64 1)] (some 35) rfl (fun _=>by kernel_rfl) (fun b33 w33 g33 L33 q33=>?_)
 replace L29:=L29.gr g32
 have q33_hC:=Nat.le_trans (Below.size hC) q33
 replace hB:=hB.trans g33
 replace hC:=hC.trans g33
 simp only [putl,p3,p4]
 refine se ?_
 refine eff_bs 30 2 #[(.slice (some ⟨b32,0,none⟩) 3 3),(.slice (some ⟨b33,0,none⟩) 3 3)] (some 36) rfl (fun _=>by kernel_rfl) (fun b34 w34 g34 L34 q34=>?_)
 replace L29:=L29.gr g33
 replace L32:=L32.gr g33
 have q34_hC:=Nat.le_trans (Below.size hC) q34
 replace hB:=hB.trans g34
 replace hC:=hC.trans g34
 simp only [putl,p3,p4]
 refine se ?_
 replace L32:=L32.gr g34
 replace L33:=L33.gr g34
 refine ec 37 (l5_numbers (R:=2) (N:=3) (nn:=nl [[1,2,0],[0,0,1]]) (by decide) (by decide) (nl_b (by decide)) ((sl_row2 L34 (sl_i64 L32 [1,2,0] 3 rfl rfl) (sl_i64 L33 [0,0,1] 3 rfl rfl)).cast (show [[1,2,0],[0,0,1]]=tb (fun z0=>tb (fun z1=>nl [[1,2,0],[0,0,1]] z0 z1) 3) 2 from by kernel_rfl))) ?_
 rintro e35 w35 ⟨⟨u35,rfl,hs35⟩,g35⟩
 refine ⟨_,rfl,?_⟩
 replace hB:=hB.trans g35
 replace hC:=hC.trans g35
 simp only [p3,p4]
 refine se ?_
 refine ec 38 (mx_Equal (by omega) (by omega) (by omega) (hs16.gr (stab_rw (stab_rat 4899) 71 4) hC) hs35) ?_
 rintro e36 w36 ⟨rfl,g36⟩
 refine ⟨_,rfl,?_⟩
 replace hB:=hB.trans g36
 replace hC:=hC.trans g36
 simp only [p3,p4]
 refine sv 39 (.bool true) ?_
 refine sv 40 v16 ?_
 refine sw 41 (.int .i64 2) rfl (rv_lenn (e:=3) hp16 (tb_lenz rfl) _ _ rfl rfl (by kernel_rfl)) ?_
 refine sv 42 (.bool true) ?_
 refine sv 43 (.bool true) ?_
 refine sv 44 (.bool true) ?_
 refine sv 45 v16 ?_
 refine sw 46 (adr v16 (0*1)) rfl (rv_idxn (e:=3) hp16 tb_len (by decide) 0 (by omega) _ _ _ rfl rfl rfl (by kernel_rfl) (by kernel_rfl)) ?_
 obtain ⟨_,_,rfl,at37⟩:=Sl.get hp16 (by decide) (tb_get (f:=(fun z1=>([0,2]:List Int).getD z1 0)) (n:=2) (i:=0) (by omega))
 refine sw 47 (.int .i64 0) rfl (rv_ld1 (.int .i64 0) (at37.gr hC) _ _ rfl rfl (by kernel_rfl)) ?_
 refine sv 48 (.bool true) ?_
 refine sv 49 (.bool true) ?_
 refine sv 50 (.bool true) ?_
 refine sv 51 v16 ?_
 refine sw 52 (adr v16 (1*1)) rfl (rv_idxn (e:=3) hp16 tb_len (by decide) 1 (by omega) _ _ _ rfl rfl rfl (by kernel_rfl) (by kernel_rfl)) ?_
 obtain ⟨_,_,rfl,at38⟩:=Sl.get hp16 (by decide) (tb_get (f:=(fun z1=>([0,2]:List Int).getD z1 0)) (n:=2) (i:=1) (by omega))
 refine sw 53 (.int .i64 2) rfl (rv_ld1 (.int .i64 2) (at38.gr hC) _ _ rfl rfl (by kernel_rfl)) ?_
 refine sv 54 (.bool true) ?_
 refine sv 55 (.bool true) ?_
 refine sv 56 (.bool true) ?_
 refine sv 57 (.int .i64 0) ?_
 refine sv 58 (.bool true) ?_
 refine sv 59 (.bool true) ?_
 refine sv 60 (.bool true) ?_
 refine sv 61 u22 ?_
 refine se ?_
 refine eff_bs 3 3 #[(.int .i64 (-2)),(.int .i64 1),(.int .i64 0)] (some 62) rfl (fun _=>by kernel_rfl) (fun b39 w39 g39 L39 q39=>?_)
 replace L29:=L29.gr (g34.trans (g35.trans g36))
 have q39_hC:=Nat.le_trans (Below.size hC) q39
 replace hB:=hB.trans g39
 replace hC:=hC.trans g39
 simp only [putl,p3,p4]
 refine se ?_
 refine eff_bs 30 1 #[(.slice (some ⟨b39,0,none⟩) 3 3)] (some 63) rfl (fun _=>by kernel_rfl) (fun b40 w40 g40 L40 q40=>?_)
 replace L29:=L29.gr g39
 have q40_hC:=Nat.le_trans (Below.size hC) q40
 replace hB:=hB.trans g40
 replace hC:=hC.trans g40
 simp only [putl,p3,p4]
 refine se ?_
 replace L39:=L39.gr g40
 refine ec 64 (l5_numbers (R:=1) (N:=3) (nn:=nl [[-2,1,0]]) (by decide) (by decide) (nl_b (by decide)) ((sl_row1 L40 (sl_i64 L39 [-2,1,0] 3 rfl rfl)).cast (show [[-2,1,0]]=tb (fun z0=>tb (fun z1=>nl [[-2,1,0]] z0 z1) 3) 1 from by kernel_rfl))) ?_
 rintro e41 w41 ⟨⟨u41,rfl,hs41⟩,g41⟩
 refine ⟨_,rfl,?_⟩
 replace hB:=hB.trans g41
 replace hC:=hC.trans g41
 simp only [p3,p4]
 refine se ?_
 refine ec 65 (mx_Equal (by omega) (by omega) (by omega) (hs22.gr (stab_rw (stab_rat 4899) 71 4) hC) hs41) ?_
 rintro e42 w42 ⟨rfl,g42⟩
 refine ⟨_,rfl,?_⟩
 replace hB:=hB.trans g42
 replace hC:=hC.trans g42
 simp only [p3,p4]
 refine sv 66 (.bool true) ?_
 refine sv 67 (.bool true) ?_
 refine sv 68 (.int .i64 0) ?_
 refine sv 69 (.bool true) ?_
 refine sv 70 (.bool true) ?_
 refine sv 71 (.bool true) ?_
 replace L29:=L29.gr (g40.trans (g41.trans g42))
 refine sw 72 (.agg #[p28,q28,r28,s28]) rfl (rl 71 0 [p28,q28,r28,s28] L29) ?_
 refine se ?_
 have kq44:=g29.kp.trans (kp30.trans (g32.kp.trans (g33.kp.trans (g34.kp.trans (g35.kp.trans (g36.kp.trans (g39.kp.trans (g40.kp.trans (g41.kp.trans g42.kp)))))))))
 replace h28:=h28.kp kq44
 refine ec 73 (number_r h28 (by omega) (ht.gr hB)) ?_
 rintro e43 w43 ⟨rfl,g43⟩
 refine ⟨_,rfl,?_⟩
 replace hB:=hB.trans g43
 replace hC:=hC.trans g43
 simp only [p3,p4]
 have hb45:(((ratL (-2:Rat))==([45,50]:List UInt8)))=true:=(by decide+kernel)
 refine sw 74 (.bool true) rfl (RunV.bool (x:=((ratL (-2:Rat))==([45,50]:List UInt8))) (rv_seq 61 61 _ _ (ratL (-2:Rat)) ([45,50]) rfl rfl rfl) hb45) ?_
 refine sv 75 (.bool true) ?_
 refine sv 76 (.bool true) ?_
 refine sv 77 (.int .i64 0) ?_
 refine sv 78 (.bool true) ?_
 refine sv 79 (.bool true) ?_
 refine sv 0 (.bool true) ?_
 refine sq_nil ?_
 refine k31 _ _ ?_
 try clear k31 K31
 refine wp_ret ?_
 refine bodyPost_ret (v:=(.bool true)) (ret_tmp rfl rfl) rfl ⟨?_,hB⟩
 exact rfl

set_option maxRecDepth 100000 in
set_option maxHeartbeats 1000000 in
theorem mi_lt {z:Int} (_hz:z<0) {TT Z:Nat} {ve:Value} {ee:Nat→Int × Int} {w:World} (hm:Mx w) (ht:Tab w) (hse:Sl EEn TT 2 w ve (tb (fun z1=>(ee z1)) Z)):
    Calls Tryz.prog 4 #[(.int .i64 (z)),ve] w fun e w'=>e=.returned (.bool true)∧Gr w w':=by
 go_enter Tryz.func4,Tryz.ntmps4
 have hB:=Gr.refl w
 refine wp_seq_k (fun K10 k10=>?_)
 refine rg [0] ?_
 refine sv 4 (.bool false) ?_
 refine sq_nil ?_
 refine k10 _ _ ?_
 try clear k10 K10
 refine wp_seq_k (fun K11 k11=>?_)
 refine wp_seq_k (fun K12 k12=>?_)
 refine rg [0,1,2,3,4,5,6] ?_
 refine se ?_
 refine ec 13 (l5_known _ (hm.gr hB) (ht.gr hB)) ?_
 rintro e13 w13 ⟨rfl,g13⟩
 refine ⟨_,rfl,?_⟩
 replace hB:=hB.trans g13
 simp only [p3,p4]
 refine sv 14 (.bool false) ?_
 refine sv 15 (.bool false) ?_
 refine sv 16 ve ?_
 refine sw 17 (.int .i64 ((Z:Int))) rfl (rv_lenn (e:=114) hse (tb_lenz rfl) _ _ rfl rfl (by kernel_rfl)) ?_
 refine sv 18 (.bool (decide ((20:Int)<(Z:Int)))) ?_
 refine sv 19 (.bool (decide ((20:Int)<(Z:Int)))) ?_
 refine sq_nil ?_
 refine k12 _ _ ?_
 try clear k12 K12
 refine wp_cond_split (t:=decide ((20:Int)<(Z:Int))) rfl (fun hb14=>?_) (fun hb14=>?_)
 ·have hq15:((20:Int)<(Z:Int)):=of_decide_eq_true hb14
  refine wp_seq_k (fun K16 k16=>?_)
  refine rg [0,1] ?_
  refine se ?_
  refine ec 20 (l5_known _ (hm.gr hB) (ht.gr hB)) ?_
  rintro e17 w17 ⟨rfl,g17⟩
  refine ⟨_,rfl,?_⟩
  replace hB:=hB.trans g17
  simp only [p3,p4]
  refine sv 4 (.bool true) ?_
  refine sq_nil ?_
  refine k16 _ _ ?_
  try clear k16 K16
  refine wp_ret ?_
  simp only [Exit.then]
  refine bodyPost_ret (v:=(.bool true)) (ret_tmp rfl rfl) rfl ⟨?_,hB⟩
  exact rfl
 ·have hq18:¬ ((20:Int)<(Z:Int)):=of_decide_eq_false hb14
  refine wp_skip ?_
  refine k11 _ _ ?_
  try clear k11 K11
  refine wp_seq_k (fun K19 k19=>?_)
  refine rg [0,1,2,3,4,5,6] ?_
  refine sv 22 (.int .i64 (z)) ?_
  refine se ?_
  refine ec 23 (mx_Identity_r z (by omega) _) ?_
  rintro e20 w20 ⟨rfl,g20⟩
  refine ⟨_,rfl,?_⟩
  replace hB:=hB.trans g20
  simp only [p3,p4]
  refine sv 21 (.tuple #[(.slice none 0 0),(.int .i64 2)]) ?_
  refine sv 24 (.slice none 0 0) ?_
  refine sv 25 (.int .i64 2) ?_
  refine sv 5 (.slice none 0 0) ?_
  refine sv 6 (.int .i64 2) ?_
  refine sq_nil ?_
  refine k19 _ _ ?_
  try clear k19 K19
  refine wp_seq_k (fun K21 k21=>?_)
  refine wp_seq_k (fun K22 k22=>?_)
  refine rg [0,1,2,3,4,5] ?_
  refine sv 26 (.int .i64 (z)) ?_
  have hb23:(decide (z<(0:Int)))=true:=(by simp only [decide_eq_true_eq];omega)
  refine sw 27 (.bool true) rfl (RunV.bool (x:=decide (z<(0:Int))) (rvk (by kernel_rfl)) hb23) ?_
  refine swk 28 (.bool true) [(3,29),(4,30)] rfl (rvk (by kernel_rfl)) ?_
  refine sv 31 (.bool true) ?_
  refine sq_nil ?_
  refine k22 _ _ ?_
  try clear k22 K22
  refine wp_cond_true rfl ?_
  refine wp_seq_k (fun K24 k24=>?_)
  refine rg [0,1,2,3,4,5,6,7] ?_
  refine sv 32 (.slice none 0 0) ?_
  refine sv 33 (.int .i64 0) ?_
  refine sv 34 (.bool true) ?_
  refine sv 35 (.bool true) ?_
  refine sv 36 (.int .i64 2) ?_
  refine sv 37 (.bool true) ?_
  refine sv 38 (.bool true) ?_
  refine sv 4 (.bool true) ?_
  refine sq_nil ?_
  refine k24 _ _ ?_
  try clear k24 K24
  refine wp_ret ?_
  simp only [Exit.then]
  refine bodyPost_ret (v:=(.bool true)) (ret_tmp rfl rfl) rfl ⟨?_,hB⟩
  exact rfl

set_option maxRecDepth 100000 in
set_option maxHeartbeats 1000000 in
theorem mi_gt {z:Int} (_hz:96<z) {TT Z:Nat} {ve:Value} {ee:Nat→Int × Int} {w:World} (hm:Mx w) (ht:Tab w) (hse:Sl EEn TT 2 w ve (tb (fun z1=>(ee z1)) Z)):
    Calls Tryz.prog 4 #[(.int .i64 (z)),ve] w fun e w'=>e=.returned (.bool true)∧Gr w w':=by
 go_enter Tryz.func4,Tryz.ntmps4
 have hB:=Gr.refl w
 refine wp_seq_k (fun K10 k10=>?_)
 refine rg [0] ?_
 refine sv 4 (.bool false) ?_
 refine sq_nil ?_
 refine k10 _ _ ?_
 try clear k10 K10
 refine wp_seq_k (fun K11 k11=>?_)
 refine wp_seq_k (fun K12 k12=>?_)
 refine rg [0,1,2,3,4,5,6] ?_
 refine se ?_
 refine ec 13 (l5_known _ (hm.gr hB) (ht.gr hB)) ?_
 rintro e13 w13 ⟨rfl,g13⟩
 refine ⟨_,rfl,?_⟩
 replace hB:=hB.trans g13
 simp only [p3,p4]
 refine sv 14 (.bool false) ?_
 refine sv 15 (.bool false) ?_
 refine sv 16 ve ?_
 refine sw 17 (.int .i64 ((Z:Int))) rfl (rv_lenn (e:=114) hse (tb_lenz rfl) _ _ rfl rfl (by kernel_rfl)) ?_
 refine sv 18 (.bool (decide ((20:Int)<(Z:Int)))) ?_
 refine sv 19 (.bool (decide ((20:Int)<(Z:Int)))) ?_
 refine sq_nil ?_
 refine k12 _ _ ?_
 try clear k12 K12
 refine wp_cond_split (t:=decide ((20:Int)<(Z:Int))) rfl (fun hb14=>?_) (fun hb14=>?_)
 ·have hq15:((20:Int)<(Z:Int)):=of_decide_eq_true hb14
  refine wp_seq_k (fun K16 k16=>?_)
  refine rg [0,1] ?_
  refine se ?_
  refine ec 20 (l5_known _ (hm.gr hB) (ht.gr hB)) ?_
  rintro e17 w17 ⟨rfl,g17⟩
  refine ⟨_,rfl,?_⟩
  replace hB:=hB.trans g17
  simp only [p3,p4]
  refine sv 4 (.bool true) ?_
  refine sq_nil ?_
  refine k16 _ _ ?_
  try clear k16 K16
  refine wp_ret ?_
  simp only [Exit.then]
  refine bodyPost_ret (v:=(.bool true)) (ret_tmp rfl rfl) rfl ⟨?_,hB⟩
  exact rfl
 ·have hq18:¬ ((20:Int)<(Z:Int)):=of_decide_eq_false hb14
  refine wp_skip ?_
  refine k11 _ _ ?_
  try clear k11 K11
  refine wp_seq_k (fun K19 k19=>?_)
  refine rg [0,1,2,3,4,5,6] ?_
  refine sv 22 (.int .i64 (z)) ?_
  refine se ?_
  refine ec 23 (mx_Identity_r z (by omega) _) ?_
  rintro e20 w20 ⟨rfl,g20⟩
  refine ⟨_,rfl,?_⟩
  replace hB:=hB.trans g20
  simp only [p3,p4]
  refine sv 21 (.tuple #[(.slice none 0 0),(.int .i64 2)]) ?_
  refine sv 24 (.slice none 0 0) ?_
  refine sv 25 (.int .i64 2) ?_
  refine sv 5 (.slice none 0 0) ?_
  refine sv 6 (.int .i64 2) ?_
  refine sq_nil ?_
  refine k19 _ _ ?_
  try clear k19 K19
  refine wp_seq_k (fun K21 k21=>?_)
  refine wp_seq_k (fun K22 k22=>?_)
  refine rg [0,1,2,3,4,5] ?_
  refine sv 26 (.int .i64 (z)) ?_
  have hb23:(decide (z<(0:Int)))=false:=(by simp only [decide_eq_false_iff_not];omega)
  refine sw 27 (.bool false) rfl (RunV.bool (x:=decide (z<(0:Int))) (rvk (by kernel_rfl)) hb23) ?_
  refine sv 28 (.bool false) ?_
  refine sv 29 (.int .i64 (z)) ?_
  have hb24:(decide ((96:Int)<z))=true:=(by simp only [decide_eq_true_eq];omega)
  refine sw 30 (.bool true) rfl (RunV.bool (x:=decide ((96:Int)<z)) (rvk (by kernel_rfl)) hb24) ?_
  refine sv 31 (.bool true) ?_
  refine sq_nil ?_
  refine k22 _ _ ?_
  try clear k22 K22
  refine wp_cond_true rfl ?_
  refine wp_seq_k (fun K25 k25=>?_)
  refine rg [0,1,2,3,4,5,6,7] ?_
  refine sv 32 (.slice none 0 0) ?_
  refine sv 33 (.int .i64 0) ?_
  refine sv 34 (.bool true) ?_
  refine sv 35 (.bool true) ?_
  refine sv 36 (.int .i64 2) ?_
  refine sv 37 (.bool true) ?_
  refine sv 38 (.bool true) ?_
  refine sv 4 (.bool true) ?_
  refine sq_nil ?_
  refine k25 _ _ ?_
  try clear k25 K25
  refine wp_ret ?_
  simp only [Exit.then]
  refine bodyPost_ret (v:=(.bool true)) (ret_tmp rfl rfl) rfl ⟨?_,hB⟩
  exact rfl

set_option maxRecDepth 100000 in
set_option maxHeartbeats 1000000 in
theorem mi_in (D:Nat) (_hD:D≤96) {TT Z:Nat} {ve:Value} {ee:Nat→Int × Int} {w:World} (hm:Mx w) (ht:Tab w) (hse:Sl EEn TT 2 w ve (tb (fun z1=>(ee z1)) Z)):
    Calls Tryz.prog 4 #[(.int .i64 ((D:Int))),ve] w fun e w'=>e=.returned (.bool true)∧Gr w w':=by
 go_enter Tryz.func4,Tryz.ntmps4
 have hB:=Gr.refl w
 refine wp_seq_k (fun K10 k10=>?_)
 refine rg [0] ?_
 refine sv 4 (.bool false) ?_
 refine sq_nil ?_
 refine k10 _ _ ?_
 try clear k10 K10
 refine wp_seq_k (fun K11 k11=>?_)
 refine wp_seq_k (fun K12 k12=>?_)
 refine rg [0,1,2,3,4,5,6] ?_
 refine se ?_
 refine ec 13 (l5_known _ (hm.gr hB) (ht.gr hB)) ?_
 rintro e13 w13 ⟨rfl,g13⟩
 refine ⟨_,rfl,?_⟩
 replace hB:=hB.trans g13
 simp only [p3,p4]
 refine sv 14 (.bool false) ?_
 refine sv 15 (.bool false) ?_
 refine sv 16 ve ?_
 refine sw 17 (.int .i64 ((Z:Int))) rfl (rv_lenn (e:=114) hse (tb_lenz rfl) _ _ rfl rfl (by kernel_rfl)) ?_
 refine sv 18 (.bool (decide ((20:Int)<(Z:Int)))) ?_
 refine sv 19 (.bool (decide ((20:Int)<(Z:Int)))) ?_
 refine sq_nil ?_
 refine k12 _ _ ?_
 try clear k12 K12
 refine wp_cond_split (t:=decide ((20:Int)<(Z:Int))) rfl (fun hb14=>?_) (fun hb14=>?_)
 ·have hq15:((20:Int)<(Z:Int)):=of_decide_eq_true hb14
  refine wp_seq_k (fun K16 k16=>?_)
  refine rg [0,1] ?_
  refine se ?_
  refine ec 20 (l5_known _ (hm.gr hB) (ht.gr hB)) ?_
  rintro e17 w17 ⟨rfl,g17⟩
  refine ⟨_,rfl,?_⟩
  replace hB:=hB.trans g17
  simp only [p3,p4]
  refine sv 4 (.bool true) ?_
  refine sq_nil ?_
  refine k16 _ _ ?_
  try clear k16 K16
  refine wp_ret ?_
  simp only [Exit.then]
  refine bodyPost_ret (v:=(.bool true)) (ret_tmp rfl rfl) rfl ⟨?_,hB⟩
  exact rfl
 ·have hq18:¬ ((20:Int)<(Z:Int)):=of_decide_eq_false hb14
  refine wp_skip ?_
  refine k11 _ _ ?_
  try clear k11 K11
  refine wp_seq_k (fun K19 k19=>?_)
  refine rg [0,1,2,3,4,5,6] ?_
  refine sv 22 (.int .i64 ((D:Int))) ?_
  refine se ?_
  refine ec 23 (mx_Identity (K:=64) (by omega) D (by omega) _) ?_
  rintro e20 w20 ⟨⟨u20,rfl,hs20⟩,g20⟩
  refine ⟨_,rfl,?_⟩
  replace hB:=hB.trans g20
  simp only [p3,p4]
  refine sv 21 (.tuple #[u20,(.int .i64 0)]) ?_
  refine sv 24 u20 ?_
  refine sv 25 (.int .i64 0) ?_
  refine sv 5 u20 ?_
  refine sv 6 (.int .i64 0) ?_
  refine sq_nil ?_
  refine k19 _ _ ?_
  try clear k19 K19
  refine wp_seq_k (fun K21 k21=>?_)
  refine wp_seq_k (fun K22 k22=>?_)
  refine rg [0,1,2,3,4,5] ?_
  refine sv 26 (.int .i64 ((D:Int))) ?_
  have hb23:(decide ((D:Int)<(0:Int)))=false:=(by simp only [decide_eq_false_iff_not];omega)
  refine sw 27 (.bool false) rfl (RunV.bool (x:=decide ((D:Int)<(0:Int))) (rvk (by kernel_rfl)) hb23) ?_
  refine sv 28 (.bool false) ?_
  refine sv 29 (.int .i64 ((D:Int))) ?_
  have hb24:(decide ((96:Int)<(D:Int)))=false:=(by simp only [decide_eq_false_iff_not];omega)
  refine sw 30 (.bool false) rfl (RunV.bool (x:=decide ((96:Int)<(D:Int))) (rvk (by kernel_rfl)) hb24) ?_
  refine sv 31 (.bool false) ?_
  refine sq_nil ?_
  refine k22 _ _ ?_
  try clear k22 K22
  refine wp_cond_false rfl ?_
  refine wp_skip ?_
  refine k21 _ _ ?_
  try clear k21 K21
  refine wp_seq_k (fun K25 k25=>?_)
  refine rg [0,1,2,3,4,5,6,7,8] ?_
  refine sv 40 u20 ?_
  refine se ?_
  refine ec 41 (mx_Size (m:=one_) (fun h=>h) (by omega) (by omega) hs20) ?_
  rintro e26 w26 ⟨rfl,g26⟩
  refine ⟨_,rfl,?_⟩
  replace hB:=hB.trans g26
  simp only [p3,p4]
  refine sv 39 (.tuple #[(.int .i64 ((D:Int))),(.int .i64 ((D:Int))),(.int .i64 0)]) ?_
  refine sv 42 (.int .i64 ((D:Int))) ?_
  refine sv 43 (.int .i64 ((D:Int))) ?_
  refine sv 44 (.int .i64 0) ?_
  refine sv 7 (.int .i64 ((D:Int))) ?_
  refine sv 8 (.int .i64 ((D:Int))) ?_
  refine sv 9 (.int .i64 0) ?_
  refine sq_nil ?_
  refine k25 _ _ ?_
  try clear k25 K25
  refine wp_seq_k (fun K27 k27=>?_)
  refine wp_seq_k (fun K28 k28=>?_)
  refine rg [0,1,2,3,4,5,6,7,8,9,10,11,12,13,14,15] ?_
  refine sv 45 (.int .i64 0) ?_
  refine sv 46 (.bool false) ?_
  refine sv 47 (.bool false) ?_
  refine sv 48 (.int .i64 0) ?_
  refine sv 49 (.bool false) ?_
  refine sv 50 (.bool false) ?_
  refine sv 51 (.bool false) ?_
  refine sv 52 (.int .i64 ((D:Int))) ?_
  refine sv 53 (.int .i64 ((D:Int))) ?_
  have hb29:(((D:Int) !=(D:Int)))=false:=(by simp)
  refine sw 54 (.bool false) rfl (RunV.bool (x:=((D:Int) !=(D:Int))) (rvk (by kernel_rfl)) hb29) ?_
  refine sv 55 (.bool false) ?_
  refine sv 56 (.bool false) ?_
  refine sv 57 (.int .i64 ((D:Int))) ?_
  refine sv 58 (.int .i64 ((D:Int))) ?_
  refine sw 59 (.bool false) rfl (RunV.bool (x:=((D:Int) !=(D:Int))) (rvk (by kernel_rfl)) hb29) ?_
  refine sv 60 (.bool false) ?_
  refine sq_nil ?_
  refine k28 _ _ ?_
  try clear k28 K28
  refine wp_cond_false rfl ?_
  refine wp_skip ?_
  refine k27 _ _ ?_
  try clear k27 K27
  refine wp_seq_k (fun K30 k30=>?_)
  refine rg [0,1,2,3,4] ?_
  refine sv 61 ve ?_
  refine sv 62 (.int .i64 ((D:Int))) ?_
  refine se ?_
  refine ec 63 (l5_line D (by omega) (hse.gr stab_en hB)) ?_
  rintro e31 w31 ⟨⟨u31,rfl,hs31⟩,g31⟩
  refine ⟨_,rfl,?_⟩
  replace hB:=hB.trans g31
  simp only [p3,p4]
  refine se ?_
  refine ec 64 (l5_list (by omega) (fun j _=>(en_zs hse j).mono (by omega) (by omega)) (hm.gr hB) hs31) ?_
  rintro e32 w32 ⟨⟨u32,rfl,hs32⟩,g32⟩
  refine ⟨_,rfl,?_⟩
  replace hB:=hB.trans g32
  simp only [p3,p4]
  refine sv 10 u32 ?_
  refine sq_nil ?_
  refine k30 _ _ ?_
  try clear k30 K30
  refine wp_seq_k (fun K33 k33=>?_)
  refine rg [0,1,2,3,4,5,6,7] ?_
  refine sv 66 u20 ?_
  refine sv 67 u32 ?_
  refine se ?_
  replace hs20:=hs20.gr (stab_rw (stab_rat 64) 71 4) (g26.trans (g31.trans g32))
  refine ec 68 (mx_Apply (K:=64) (L:=64) (m:=one_) (x:=en ee Z) (by omega) (by omega) (by omega) hs20 hs32) ?_
  rintro e34 w34 ⟨⟨u34,rfl,hs34⟩,g34⟩
  refine ⟨_,rfl,?_⟩
  replace hB:=hB.trans g34
  simp only [p3,p4]
  refine sv 65 (.tuple #[u34,(.int .i64 0)]) ?_
  refine sv 69 u34 ?_
  refine sv 70 (.int .i64 0) ?_
  refine sv 11 u34 ?_
  refine sv 12 (.int .i64 0) ?_
  refine sq_nil ?_
  refine k33 _ _ ?_
  try clear k33 K33
  refine wp_seq_k (fun K35 k35=>?_)
  refine rg [0,1,2,3,4,5,6,7,8,9] ?_
  refine sv 71 (.int .i64 0) ?_
  refine sv 72 (.bool true) ?_
  refine sv 73 (.bool true) ?_
  refine sv 74 u32 ?_
  refine se ?_
  replace hs32:=hs32.gr (stab_rat 64) g34
  refine eff_bs1 29 49 u32 (some 75) rfl rfl rfl hs32.forms (fun _ _ _ _=>by kernel_rfl) (fun b36 w36 g36 L36 q36=>?_)
  replace hB:=hB.trans g36
  simp only [putl,p3,p4]
  refine sv 76 u34 ?_
  refine se ?_
  replace hs34:=hs34.gr (stab_rat (64+D*(64+64+1))) g36
  refine eff_bs1 29 49 u34 (some 77) rfl rfl rfl hs34.forms (fun _ _ _ _=>by kernel_rfl) (fun b37 w37 g37 L37 q37=>?_)
  replace hB:=hB.trans g37
  simp only [putl,p3,p4]
  refine se ?_
  replace hs32:=hs32.gr (stab_rat 64) (g36.trans g37)
  replace L36:=L36.gr g37
  replace hs34:=hs34.gr (stab_rat (64+D*(64+64+1))) g37
  refine ec 78 (mx_Equal (m:=fun _ k=>en ee Z k) (by omega) (by omega) (by omega) ((sl_row1 L36 hs32).cast (show _=tb (fun z0=>tb (fun z1=>en ee Z z1) D) 1 from rfl)) ((sl_row1 L37 (hs34.cast (tb_congr fun i hi=>one_mul hi))).cast (show _=tb (fun z0=>tb (fun z1=>en ee Z z1) D) 1 from rfl))) ?_
  rintro e38 w38 ⟨rfl,g38⟩
  refine ⟨_,rfl,?_⟩
  replace hB:=hB.trans g38
  simp only [p3,p4]
  refine sv 79 (.bool true) ?_
  refine sv 4 (.bool true) ?_
  refine sq_nil ?_
  refine k35 _ _ ?_
  try clear k35 K35
  refine wp_ret ?_
  refine bodyPost_ret (v:=(.bool true)) (ret_tmp rfl rfl) rfl ⟨?_,hB⟩
  exact rfl

theorem matrix_identity (z:Int) {TT Z:Nat} {ve:Value} {ee:Nat→Int × Int} {w:World} (hse:Sl EEn TT 2 w ve (tb (fun z1=>(ee z1)) Z)) (W:World) (hW:W=w) (ht:Tab W) (hm:Mx W):Calls Tryz.prog 4 #[.int .i64 z,ve] W fun e w'=>e=.returned (.bool true)∧Gr W w':=by
  subst hW
  by_cases h1:z<0
  · exact mi_lt h1 hm ht hse
  · by_cases h2:96<z
    · exact mi_gt h2 hm ht hse
    · obtain ⟨D,rfl⟩:∃ D:Nat,z=(D:Int):=⟨z.toNat,by omega⟩
      exact mi_in D (by omega) hm ht hse
end Go.Proofs.YtepgkcimmdmgcaaGreatDoor
