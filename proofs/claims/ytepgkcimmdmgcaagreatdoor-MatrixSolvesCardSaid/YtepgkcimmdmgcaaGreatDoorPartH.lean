/- Joined of: Lt, Gen181, Gen182, Gen184. -/
import Derived.Test.YtepgkcimmdmgcaaGreatDoorPartG
import Derived.Test.YtepgkcimmdmgcaaGreatDoorPartF
namespace Go.Proofs.YtepgkcimmdmgcaaGreatDoor
open Go.RowKit
section
variable {α:Type} {E:World→α→List Value→Prop} {ts:List TypeId} {T c:Nat} {w w':World} {v:Value} {xs:List (List α)}
theorem Sl.esl_gr (hS:Stab E ts) (h:Sl (ESl E c) T 1 w v xs) (g:Gr w w'):Sl (ESl E c) T 1 w' v xs:=by
  obtain ⟨ys,h1,h2⟩:=h
  refine ⟨ys,h1.kt (g.kt T),h2.1,fun i x hx=>?_⟩
  obtain ⟨u,T2,e,hs⟩:=h2.2 i x hx
  exact ⟨u,T2,e,hs.gr hS g⟩
end
section
variable {w w':World} {x v:Value} {R N:Nat} {m:Mx_}
theorem en_zs {T Z:Nat} {ee:Nat→Int × Int} (h:Sl EEn T 2 w v (tb ee Z)) (k:Nat):RZ 8 3 (en ee Z k):=
  en_z fun j hj=>by
    obtain ⟨vs,_,h2,_⟩:=h.get (by decide) (tb_get (f:=ee) hj)
    exact h2.2
/-- a table that a law gets:how many rows and columns,which numbers -/
def TA (w:World) (x:Value) (R N:Nat) (m:Mx_):Prop:=
  ∃ (TQ Z cc:Nat) (v:Value) (ee:Nat→Nat→Int × Int) (zl:Nat→Nat),x=.agg #[.int .u8 (cc:Int),v]∧Sl (ESl EEn 2) TQ 1 w v (tb (fun z0=>tb (ee z0) (zl z0)) Z)∧cc≤255∧R=min Z 5∧N=(if R=0 then 0 else cc % 7)∧m=fun i k=>if i<R∧k<N then en (ee i) (zl i) k else 0
theorem TA.gr (h:TA w x R N m) (g:Gr w w'):TA w' x R N m:=by
  obtain ⟨TQ,Z,cc,v,ee,zl,h1,h2,h3⟩:=h
  exact ⟨TQ,Z,cc,v,ee,zl,h1,h2.esl_gr stab_en g,h3⟩
theorem TA.one0 {cc:Int} (h:TA w (.agg #[.int .u8 cc,v]) R N m):v.oneCell'=true:=by
  obtain ⟨_,_,_,v',_,_,h1,h2,_⟩:=h
  obtain rfl:v=v':=by simp at h1;exact h1.2
  exact h2.one
theorem TA.R5 (h:TA w x R N m):R≤5:=by
  obtain ⟨_,_,_,_,_,_,_,_,_,h,_⟩:=h;omega
theorem TA.N6 (h:TA w x R N m):N≤6:=by
  obtain ⟨_,_,_,_,_,_,_,_,_,_,h,_⟩:=h;split at h<;>omega
theorem TA.R0 (h:TA w x R N m):R=0→N=0:=fun e=>by
  obtain ⟨_,_,_,_,_,_,_,_,_,_,h,_⟩:=h;rw [if_pos e] at h;exact h
theorem TA.out (h:TA w x R N m) {i k:Nat} (hn:¬ (i<R∧k<N)):m i k=0:=by
  obtain ⟨_,_,_,_,_,_,_,_,_,_,_,rfl⟩:=h;exact if_neg hn
theorem TA.z (h:TA w x R N m) (i k:Nat):RZ 8 3 (m i k):=by
  by_cases hi:i<R∧k<N
  · obtain ⟨_,_,_,_,_,_,_,hs,_,h2,_,rfl⟩:=h
    simp only [if_pos hi]
    obtain ⟨_,_,hr,_⟩:=hs.get (by decide) (tb_get (i:=i) (by omega))
    obtain ⟨u,T2,_,h3⟩:=hr
    exact en_zs h3 k
  · rw [h.out hi];exact RZ.zero _ _ (by decide)
theorem TA.zz (h:TA w x R N m):∀ i,i<R→∀ k,k<N→RZ 8 3 (m i k):=fun i _ k _=>h.z i k
/-- the rows of such a table -/
theorem l5_rowsT (h:TA w x R N m):Calls Tryz.prog 13 #[x] w fun e w'=>(∃ u,e=.returned u∧Sl (ERw EFr 84 2) 51 1 w' u (tb (fun z0=>tb (fun z1=>m z0 z1) N) R))∧Gr w w':=by
  obtain ⟨TQ,Z,cc,v,ee,zl,rfl,hs,hc,hR,hN,rfl⟩:=h
  refine (l5_rows hR hc hs).mono fun e w'=>?_
  rintro ⟨⟨u,rfl,h1⟩,hg⟩
  refine ⟨⟨u,rfl,h1.cast ?_⟩,hg⟩
  by_cases h0:R=0
  · rw [h0];rfl
  · rw [if_neg h0] at hN
    rw [← hN]
    exact tb_congr fun i hi=>tb_congr fun k hk=>(if_pos ⟨hi,hk⟩).symm
end
/-! ### a law's arguments -/
theorem esl_en {w:World} {x:List (List Int)} {vs:List Value} (h:ESl (EK [.i8,.u8]) 2 w x vs):ESl EEn 2 w (x.map fun y=>(y.getD 0 0,y.getD 1 0)) vs:=by
  obtain ⟨u,T,e,hs⟩:=h
  exact ⟨u,T,e,hs.mapE _ fun _ _=>ek_en⟩
theorem ent_of {T:Nat} {w:World} {v:Value} {xs:List (List Int)} (h:Sl (EK [.i8,.u8]) T 2 w v xs):∃ (ee:Nat→Int × Int) (Z:Nat),Sl EEn T 2 w v (tb ee Z):=
  ⟨_,_,(h.mapE _ fun _ _=>ek_en).cast (list_tb (0,0) _)⟩
theorem ta_of {T:Nat} {w:World} {u:Value} {xs:List (List (List Int))} (h:Sl (ESl (EK [.i8,.u8]) 2) T 1 w u xs) {cc:Int} (hc:0≤cc∧cc≤255):∃ (R N:Nat) (m:Mx_),TA w (.agg #[.int .u8 cc,u]) R N m:=by
  have h1:=(h.mapE _ fun _ _=>esl_en).cast (list_tb ([]:List (Int × Int)) _)
  refine ⟨_,_,_,T,_,cc.toNat,u,_,_,by rw [Int.toNat_of_nonneg hc.1],h1.cast (tb_congr fun i _=>list_tb (0,0) _),by omega,rfl,rfl,rfl⟩
/-! ### closed slices -/
section
variable {w:World} {b T:Nat}
theorem els_i64 (w:World):∀ zs:List Int,Els EI64 1 w (zs.map fun z=>Value.int .i64 z) zs
  | []=>Els.nil ..
  | zs=>⟨by simp,fun i x hx=>by
      have hi:=(List.getElem?_eq_some_iff.1 hx).1
      have e:(zs.map fun z=>Value.int .i64 z)[i]?=some (.int .i64 x):=by rw [List.getElem?_map,hx];rfl
      show _=_
      obtain ⟨hl,hv⟩:=List.getElem?_eq_some_iff.1 e
      rw [Nat.mul_one,List.drop_eq_getElem_cons hl,hv];rfl⟩
theorem sl_i64 {us:Array Value} (h:Lc w b us T) (zs:List Int) (n:Nat) (hu:us=(zs.map fun z=>Value.int .i64 z).toArray) (hn:zs.length=n):Sl EI64 T 1 w (.slice (some ⟨b,0,none⟩) n n) zs:=by
  subst hu
  exact Mk.sl_n ⟨_,h,els_i64 w zs⟩ hn (Nat.le_refl _)
variable {α:Type} {E:World→α→List Value→Prop} {T2 c:Nat} {u v:Value} {x y:List α}
theorem sl_row1 (h:Lc w b #[u] T) (hu:Sl E T2 c w u x):Sl (ERw E T2 c) T 1 w (.slice (some ⟨b,0,none⟩) 1 1) [x]:=
  Mk.sl_n ⟨[u],h,(Els.nil _ _ _).snoc (x:=x) (vs:=[u]) rfl ⟨u,rfl,hu⟩⟩ rfl (Nat.le_refl _)
theorem sl_row2 (h:Lc w b #[u,v] T) (hu:Sl E T2 c w u x) (hv:Sl E T2 c w v y):Sl (ERw E T2 c) T 1 w (.slice (some ⟨b,0,none⟩) 2 2) [x,y]:=
  Mk.sl_n ⟨[u,v],h,((Els.nil _ _ _).snoc (x:=x) (vs:=[u]) rfl ⟨u,rfl,hu⟩).snoc (x:=y) (vs:=[v]) rfl ⟨v,rfl,hv⟩⟩ rfl (Nat.le_refl _)
end
/-- numbers of rows that are written out -/
def nl (L:List (List Int)) (i k:Nat):Int:=(L.getD i []).getD k 0
abbrev nq (L:List (List Int)):Mx_:=fun i k=>((nl L i k:Int):Rat)
theorem nl_s {L:List (List Int)} (h:(L.all fun l=>l.all fun z=>decide (z.natAbs<256))=true) (i k:Nat):(nl L i k).natAbs<256:=by
  unfold nl
  have e0:L.getD i []=L[i]?.getD []:=List.getD_eq_getElem?_getD ..
  rw [e0]
  cases e:L[i]? with
  | none=>simp
  | some l=>
    rw [Option.getD_some]
    cases e2:l[k]? with
    | none=>rw [List.getD_eq_getElem?_getD,e2];simp
    | some z=>
      rw [List.getD_eq_getElem?_getD,e2,Option.getD_some]
      have h1:=List.all_eq_true.1 h l (List.mem_of_getElem? e)
      have h2:=List.all_eq_true.1 h1 z (List.mem_of_getElem? e2)
      simpa using h2
theorem nl_b {L:List (List Int)} {R N:Nat} (h:(L.all fun l=>l.all fun z=>decide (z.natAbs<256))=true):∀ i,i<R→∀ k,k<N→-9223372036854775808≤nl L i k∧nl L i k≤9223372036854775807:=fun i _ k _=>by
  have:=nl_s h i k;omega
theorem nq_z {L:List (List Int)} {R N:Nat} (h:(L.all fun l=>l.all fun z=>decide (z.natAbs<256))=true):∀ i,i<R→∀ k,k<N→RZ 8 3 (nq L i k):=fun i _ k _=>by
  have hs:=nl_s h i k
  exact (RZ.int (a:=8) (by unfold Sz;omega)).mono (Nat.le_refl _) (by decide)
/-! ### numbers that may be longer -/
theorem Sl.rats {k K T c:Nat} {w:World} {v:Value} {xs:List Rat} (h:Sl (ERat k) T c w v xs) (hk:k≤K):Sl (ERat K) T c w v xs:=h.mono fun _ _ hx=>hx.mono hk
theorem Sl.ratrows {k K T c T2 c2:Nat} {w:World} {v:Value} {xs:List (List Rat)} (h:Sl (ERw (ERat k) T c) T2 c2 w v xs) (hk:k≤K):Sl (ERw (ERat K) T c) T2 c2 w v xs:=
  h.mono fun _ _ hx=>by
    obtain ⟨u,e,hs⟩:=hx
    exact ⟨u,e,hs.rats hk⟩
section
variable {w:World} {x:Value} {R N:Nat} {m:Mx_}
theorem TA.bd (h:TA w x R N m):∀ k,k≤N→RdZ R N 4899 (rs R m k):=rs_sm h.zz (.inr h.R5) (Nat.le_refl _)
theorem TA.bf (h:TA w x R N m):∀ k i,k<N→Fd R m k i→∀ a,a<R→∀ c,c<N→RZ 4899 4899 ((rs R m k).m a c):=rs_sf h.zz (.inl h.N6)
end
theorem en_none (ee:Nat→Int × Int) (k:Nat):en ee 0 k=0:=by
  unfold en
  rw [if_neg (Nat.not_lt_zero k)]
  kernel_rfl
set_option maxRecDepth 100000 in
set_option maxHeartbeats 1000000 in
theorem mx_Apply_n {K L R N M:Nat} {v u:Value} {m:Mx_} {x:Nat→Rat} (_hR2:R≤256) (_hN2:N≤96) (_hR0:0<R) (_hne:¬ N=M) {w:World} (hs:Sl (ERw (ERat K) 71 4) 49 1 w v (tb (fun z0=>tb (fun z1=>(m z0 z1)) N) R)) (hx:Sl (ERat L) 71 4 w u (tb (fun z1=>(x z1)) M)):
    Calls Tryz.prog 26 #[v,u] w fun e w'=>e=.returned (.tuple #[.slice none 0 0,.int .i64 13])∧Gr w w':=by
 go_enter Tryz.func26,Tryz.ntmps26
 have hB:=Gr.refl w
 refine wp_seq_k (fun K10 k10=>?_)
 refine rg [0,1] ?_
 refine sv 4 (.slice none 0 0) ?_
 refine sv 5 (.int .i64 0) ?_
 refine sq_nil ?_
 refine k10 _ _ ?_
 try clear k10 K10
 refine wp_seq_k (fun K11 k11=>?_)
 refine wp_seq_k (fun K12 k12=>?_)
 refine rg [0,1,2] ?_
 refine sv 10 v ?_
 refine se ?_
 refine ec 11 (mx_size (by omega) (by omega) (hs.gr (stab_rw (stab_rat K) 71 4) hB)) ?_
 rintro e13 w13 ⟨rfl,g13⟩
 refine ⟨_,rfl,?_⟩
 replace hB:=hB.trans g13
 simp only [p3,p4]
 refine sv 6 (.int .i64 0) ?_
 refine sq_nil ?_
 refine k12 _ _ ?_
 try clear k12 K12
 refine wp_seq_k (fun K14 k14=>?_)
 refine rg [0,1] ?_
 refine sv 12 (.int .i64 0) ?_
 refine sv 13 (.bool false) ?_
 refine sq_nil ?_
 refine k14 _ _ ?_
 try clear k14 K14
 refine wp_cond_false rfl ?_
 refine wp_skip ?_
 refine k11 _ _ ?_
 try clear k11 K11
 refine wp_seq_k (fun K15 k15=>?_)
 refine wp_seq_k (fun K16 k16=>?_)
 refine rg [0,1,2,3,4,5,6,7,8,9] ?_
 refine sv 15 v ?_
 refine sw 16 (.int .i64 ((R:Int))) rfl (rv_lenn (e:=49) hs (tb_lenz rfl) _ _ rfl rfl (by kernel_rfl)) ?_
 refine sw 17 (.bool true) rfl (RunV.bool (x:=decide ((0:Int)<(R:Int))) (rvk (by kernel_rfl)) (by simp only [decide_eq_true_eq];omega)) ?_
 refine sv 18 (.bool true) ?_
 refine sv 19 v ?_
 refine se ?_
 refine ec 20 (mx_columnsR (hs.gr (stab_rw (stab_rat K) 71 4) hB) (by omega)) ?_
 rintro e17 w17 ⟨rfl,g17⟩
 refine ⟨_,rfl,?_⟩
 replace hB:=hB.trans g17
 simp only [p3,p4]
 refine sv 21 u ?_
 refine sw 22 (.int .i64 ((M:Int))) rfl (rv_lenn (e:=71) hx (tb_lenz rfl) _ _ rfl rfl (by kernel_rfl)) ?_
 have hb18:(((N:Int) !=(M:Int)))=true:=(by simp;omega)
 refine sw 23 (.bool true) rfl (RunV.bool (x:=((N:Int) !=(M:Int))) (rvk (by kernel_rfl)) hb18) ?_
 refine sv 24 (.bool true) ?_
 refine sq_nil ?_
 refine k16 _ _ ?_
 try clear k16 K16
 refine wp_cond_true rfl ?_
 refine wp_seq_k (fun K19 k19=>?_)
 refine rg [0,1] ?_
 refine sv 4 (.slice none 0 0) ?_
 refine sv 5 (.int .i64 13) ?_
 refine sq_nil ?_
 refine k19 _ _ ?_
 try clear k19 K19
 refine wp_ret ?_
 simp only [Exit.then]
 refine bodyPost_ret (v:=(.tuple #[(.slice none 0 0),(.int .i64 13)])) (ret_tmp2 rfl rfl rfl) rfl ⟨?_,hB⟩
 exact rfl

set_option maxRecDepth 100000 in
set_option maxHeartbeats 1000000 in
theorem mx_Solve_e {K L R N M:Nat} {v u:Value} {m:Mx_} {x:Nat→Rat} (_hR2:R≤256) (_hN2:N≤96) (_hR0:¬ M=R) {w:World} (hs:Sl (ERw (ERat K) 71 4) 49 1 w v (tb (fun z0=>tb (fun z1=>(m z0 z1)) N) R)) (hx:Sl (ERat L) 71 4 w u (tb (fun z1=>(x z1)) M)):
    Calls Tryz.prog 33 #[v,u] w fun e w'=>e=.returned (.tuple #[.slice none 0 0,.int .i64 13])∧Gr w w':=by
 go_enter Tryz.func33,Tryz.ntmps33
 have hB:=Gr.refl w
 refine wp_seq_k (fun K10 k10=>?_)
 refine rg [0,1] ?_
 refine sv 4 (.slice none 0 0) ?_
 refine sv 5 (.int .i64 0) ?_
 refine sq_nil ?_
 refine k10 _ _ ?_
 try clear k10 K10
 refine wp_seq_k (fun K11 k11=>?_)
 refine wp_seq_k (fun K12 k12=>?_)
 refine rg [0,1,2] ?_
 refine sv 7 v ?_
 refine se ?_
 refine ec 8 (mx_size (by omega) (by omega) (hs.gr (stab_rw (stab_rat K) 71 4) hB)) ?_
 rintro e13 w13 ⟨rfl,g13⟩
 refine ⟨_,rfl,?_⟩
 replace hB:=hB.trans g13
 simp only [p3,p4]
 refine sv 6 (.int .i64 0) ?_
 refine sq_nil ?_
 refine k12 _ _ ?_
 try clear k12 K12
 refine wp_seq_k (fun K14 k14=>?_)
 refine rg [0,1] ?_
 refine sv 9 (.int .i64 0) ?_
 refine sv 10 (.bool false) ?_
 refine sq_nil ?_
 refine k14 _ _ ?_
 try clear k14 K14
 refine wp_cond_false rfl ?_
 refine wp_skip ?_
 refine k11 _ _ ?_
 try clear k11 K11
 refine wp_seq_k (fun K15 k15=>?_)
 refine wp_seq_k (fun K16 k16=>?_)
 refine rg [0,1,2,3,4] ?_
 refine sv 12 u ?_
 refine sw 13 (.int .i64 ((M:Int))) rfl (rv_lenn (e:=71) hx (tb_lenz rfl) _ _ rfl rfl (by kernel_rfl)) ?_
 refine sv 14 v ?_
 refine sw 15 (.int .i64 ((R:Int))) rfl (rv_lenn (e:=49) hs (tb_lenz rfl) _ _ rfl rfl (by kernel_rfl)) ?_
 have hb17:(((M:Int) !=(R:Int)))=true:=(by simp;omega)
 refine sw 16 (.bool true) rfl (RunV.bool (x:=((M:Int) !=(R:Int))) (rvk (by kernel_rfl)) hb17) ?_
 refine sq_nil ?_
 refine k16 _ _ ?_
 try clear k16 K16
 refine wp_cond_true rfl ?_
 refine wp_seq_k (fun K18 k18=>?_)
 refine rg [0,1] ?_
 refine sv 4 (.slice none 0 0) ?_
 refine sv 5 (.int .i64 13) ?_
 refine sq_nil ?_
 refine k18 _ _ ?_
 try clear k18 K18
 refine wp_ret ?_
 simp only [Exit.then]
 refine bodyPost_ret (v:=(.tuple #[(.slice none 0 0),(.int .i64 13)])) (ret_tmp2 rfl rfl rfl) rfl ⟨?_,hB⟩
 exact rfl

set_option maxRecDepth 100000 in
set_option maxHeartbeats 1000000 in
theorem mx_Combine_e {K L R N M:Nat} {v u:Value} {m:Mx_} {x:Nat→Rat} (_hR2:R≤256) (_hN2:N≤96) (hR:R=0→N=0) (_hR0:¬ M=N) {w:World} (hs:Sl (ERw (ERat K) 71 4) 49 1 w v (tb (fun z0=>tb (fun z1=>(m z0 z1)) N) R)) (hx:Sl (ERat L) 71 4 w u (tb (fun z1=>(x z1)) M)):
    Calls Tryz.prog 36 #[v,u] w fun e w'=>e=.returned (.tuple #[.slice none 0 0,.int .i64 13])∧Gr w w':=by
 go_enter Tryz.func36,Tryz.ntmps36
 have hB:=Gr.refl w
 refine wp_seq_k (fun K10 k10=>?_)
 refine rg [0,1] ?_
 refine sv 4 (.slice none 0 0) ?_
 refine sv 5 (.int .i64 0) ?_
 refine sq_nil ?_
 refine k10 _ _ ?_
 try clear k10 K10
 refine wp_seq_k (fun K11 k11=>?_)
 refine wp_seq_k (fun K12 k12=>?_)
 refine rg [0,1,2] ?_
 refine sv 7 v ?_
 refine se ?_
 refine ec 8 (mx_size (by omega) (by omega) (hs.gr (stab_rw (stab_rat K) 71 4) hB)) ?_
 rintro e13 w13 ⟨rfl,g13⟩
 refine ⟨_,rfl,?_⟩
 replace hB:=hB.trans g13
 simp only [p3,p4]
 refine sv 6 (.int .i64 0) ?_
 refine sq_nil ?_
 refine k12 _ _ ?_
 try clear k12 K12
 refine wp_seq_k (fun K14 k14=>?_)
 refine rg [0,1] ?_
 refine sv 9 (.int .i64 0) ?_
 refine sv 10 (.bool false) ?_
 refine sq_nil ?_
 refine k14 _ _ ?_
 try clear k14 K14
 refine wp_cond_false rfl ?_
 refine wp_skip ?_
 refine k11 _ _ ?_
 try clear k11 K11
 refine wp_seq_k (fun K15 k15=>?_)
 refine wp_seq_k (fun K16 k16=>?_)
 refine rg [0,1,2,3,4] ?_
 refine sv 12 u ?_
 refine sw 13 (.int .i64 ((M:Int))) rfl (rv_lenn (e:=71) hx (tb_lenz rfl) _ _ rfl rfl (by kernel_rfl)) ?_
 refine sv 14 v ?_
 refine se ?_
 refine ec 15 (mx_columnsp (hs.gr (stab_rw (stab_rat K) 71 4) hB) hR) ?_
 rintro e17 w17 ⟨rfl,g17⟩
 refine ⟨_,rfl,?_⟩
 replace hB:=hB.trans g17
 simp only [p3,p4]
 have hb18:(((M:Int) !=(N:Int)))=true:=(by simp;omega)
 refine sw 16 (.bool true) rfl (RunV.bool (x:=((M:Int) !=(N:Int))) (rvk (by kernel_rfl)) hb18) ?_
 refine sq_nil ?_
 refine k16 _ _ ?_
 try clear k16 K16
 refine wp_cond_true rfl ?_
 refine wp_seq_k (fun K19 k19=>?_)
 refine rg [0,1] ?_
 refine sv 4 (.slice none 0 0) ?_
 refine sv 5 (.int .i64 13) ?_
 refine sq_nil ?_
 refine k19 _ _ ?_
 try clear k19 K19
 refine wp_ret ?_
 simp only [Exit.then]
 refine bodyPost_ret (v:=(.tuple #[(.slice none 0 0),(.int .i64 13)])) (ret_tmp2 rfl rfl rfl) rfl ⟨?_,hB⟩
 exact rfl

set_option maxRecDepth 100000 in
set_option maxHeartbeats 1000000 in
theorem mx_Kernel_s {K R N:Nat} {v:Value} {m:Mx_} {z:Int} (_hR2:R≤256) (_hN2:N≤96) (_hR0:0<R) (_hne:¬ (N:Int)=z) {w:World} (hs:Sl (ERw (ERat K) 71 4) 49 1 w v (tb (fun z0=>tb (fun z1=>(m z0 z1)) N) R)):
    Calls Tryz.prog 19 #[v,(.int .i64 (z))] w fun e w'=>e=.returned (.tuple #[.slice none 0 0,.int .i64 13])∧Gr w w':=by
 go_enter Tryz.func19,Tryz.ntmps19
 have hB:=Gr.refl w
 refine wp_seq_k (fun K10 k10=>?_)
 refine rg [0,1] ?_
 refine sv 4 (.slice none 0 0) ?_
 refine sv 5 (.int .i64 0) ?_
 refine sq_nil ?_
 refine k10 _ _ ?_
 try clear k10 K10
 refine wp_seq_k (fun K11 k11=>?_)
 refine wp_seq_k (fun K12 k12=>?_)
 refine rg [0,1,2] ?_
 refine sv 15 v ?_
 refine se ?_
 refine ec 16 (mx_size (by omega) (by omega) (hs.gr (stab_rw (stab_rat K) 71 4) hB)) ?_
 rintro e13 w13 ⟨rfl,g13⟩
 refine ⟨_,rfl,?_⟩
 replace hB:=hB.trans g13
 simp only [p3,p4]
 refine sv 6 (.int .i64 0) ?_
 refine sq_nil ?_
 refine k12 _ _ ?_
 try clear k12 K12
 refine wp_seq_k (fun K14 k14=>?_)
 refine rg [0,1] ?_
 refine sv 17 (.int .i64 0) ?_
 refine sv 18 (.bool false) ?_
 refine sq_nil ?_
 refine k14 _ _ ?_
 try clear k14 K14
 refine wp_cond_false rfl ?_
 refine wp_skip ?_
 refine k11 _ _ ?_
 try clear k11 K11
 refine wp_seq_k (fun K15 k15=>?_)
 refine wp_seq_k (fun K16 k16=>?_)
 refine rg [0,1,2,3,4,5,6,7,8] ?_
 refine sv 20 v ?_
 refine sw 21 (.int .i64 ((R:Int))) rfl (rv_lenn (e:=49) hs (tb_lenz rfl) _ _ rfl rfl (by kernel_rfl)) ?_
 refine sw 22 (.bool true) rfl (RunV.bool (x:=decide ((0:Int)<(R:Int))) (rvk (by kernel_rfl)) (by simp only [decide_eq_true_eq];omega)) ?_
 refine sv 23 (.bool true) ?_
 refine sv 24 v ?_
 refine se ?_
 refine ec 25 (mx_columnsR (hs.gr (stab_rw (stab_rat K) 71 4) hB) (by omega)) ?_
 rintro e17 w17 ⟨rfl,g17⟩
 refine ⟨_,rfl,?_⟩
 replace hB:=hB.trans g17
 simp only [p3,p4]
 refine sv 26 (.int .i64 (z)) ?_
 refine sw 27 (.bool true) rfl (RunV.bool (x:=((N:Int) !=z)) (rvk (by kernel_rfl)) (by simp;omega)) ?_
 refine sv 28 (.bool true) ?_
 refine sq_nil ?_
 refine k16 _ _ ?_
 try clear k16 K16
 refine wp_cond_true rfl ?_
 refine wp_seq_k (fun K18 k18=>?_)
 refine rg [0,1] ?_
 refine sv 4 (.slice none 0 0) ?_
 refine sv 5 (.int .i64 13) ?_
 refine sq_nil ?_
 refine k18 _ _ ?_
 try clear k18 K18
 refine wp_ret ?_
 simp only [Exit.then]
 refine bodyPost_ret (v:=(.tuple #[(.slice none 0 0),(.int .i64 13)])) (ret_tmp2 rfl rfl rfl) rfl ⟨?_,hB⟩
 exact rfl

set_option maxRecDepth 100000 in
set_option maxHeartbeats 1000000 in
theorem mx_Mul_n {K L R N S M:Nat} {v vb:Value} {m mb:Mx_} (_hR2:R≤256) (_hN2:N≤96) (_hS2:S≤256) (_hM2:M≤96) (_hR0:0<R) (_hne:¬ N=S) {w:World} (hs:Sl (ERw (ERat K) 71 4) 49 1 w v (tb (fun z0=>tb (fun z1=>(m z0 z1)) N) R)) (hb:Sl (ERw (ERat L) 71 4) 49 1 w vb (tb (fun z0=>tb (fun z1=>(mb z0 z1)) M) S)):
    Calls Tryz.prog 44 #[v,vb] w fun e w'=>e=.returned (.tuple #[.slice none 0 0,.int .i64 13])∧Gr w w':=by
 go_enter Tryz.func44,Tryz.ntmps44
 have hB:=Gr.refl w
 refine wp_seq_k (fun K10 k10=>?_)
 refine rg [0,1] ?_
 refine sv 4 (.slice none 0 0) ?_
 refine sv 5 (.int .i64 0) ?_
 refine sq_nil ?_
 refine k10 _ _ ?_
 try clear k10 K10
 refine wp_seq_k (fun K11 k11=>?_)
 refine wp_seq_k (fun K12 k12=>?_)
 refine rg [0,1,2] ?_
 refine sv 15 v ?_
 refine se ?_
 refine ec 16 (mx_size (by omega) (by omega) (hs.gr (stab_rw (stab_rat K) 71 4) hB)) ?_
 rintro e13 w13 ⟨rfl,g13⟩
 refine ⟨_,rfl,?_⟩
 replace hB:=hB.trans g13
 simp only [p3,p4]
 refine sv 6 (.int .i64 0) ?_
 refine sq_nil ?_
 refine k12 _ _ ?_
 try clear k12 K12
 refine wp_seq_k (fun K14 k14=>?_)
 refine rg [0,1] ?_
 refine sv 17 (.int .i64 0) ?_
 refine sv 18 (.bool false) ?_
 refine sq_nil ?_
 refine k14 _ _ ?_
 try clear k14 K14
 refine wp_cond_false rfl ?_
 refine wp_skip ?_
 refine k11 _ _ ?_
 try clear k11 K11
 refine wp_seq_k (fun K15 k15=>?_)
 refine wp_seq_k (fun K16 k16=>?_)
 refine rg [0,1,2] ?_
 refine sv 20 vb ?_
 refine se ?_
 refine ec 21 (mx_size (by omega) (by omega) (hb.gr (stab_rw (stab_rat L) 71 4) hB)) ?_
 rintro e17 w17 ⟨rfl,g17⟩
 refine ⟨_,rfl,?_⟩
 replace hB:=hB.trans g17
 simp only [p3,p4]
 refine sv 7 (.int .i64 0) ?_
 refine sq_nil ?_
 refine k16 _ _ ?_
 try clear k16 K16
 refine wp_seq_k (fun K18 k18=>?_)
 refine rg [0,1] ?_
 refine sv 22 (.int .i64 0) ?_
 refine sv 23 (.bool false) ?_
 refine sq_nil ?_
 refine k18 _ _ ?_
 try clear k18 K18
 refine wp_cond_false rfl ?_
 refine wp_skip ?_
 refine k15 _ _ ?_
 try clear k15 K15
 refine wp_seq_k (fun K19 k19=>?_)
 refine wp_seq_k (fun K20 k20=>?_)
 refine rg [0,1,2,3,4,5,6,7,8,9] ?_
 refine sv 25 v ?_
 refine sw 26 (.int .i64 ((R:Int))) rfl (rv_lenn (e:=49) hs (tb_lenz rfl) _ _ rfl rfl (by kernel_rfl)) ?_
 refine sw 27 (.bool true) rfl (RunV.bool (x:=decide ((0:Int)<(R:Int))) (rvk (by kernel_rfl)) (by simp only [decide_eq_true_eq];omega)) ?_
 refine sv 28 (.bool true) ?_
 refine sv 29 v ?_
 refine se ?_
 refine ec 30 (mx_columnsR (hs.gr (stab_rw (stab_rat K) 71 4) hB) (by omega)) ?_
 rintro e21 w21 ⟨rfl,g21⟩
 refine ⟨_,rfl,?_⟩
 replace hB:=hB.trans g21
 simp only [p3,p4]
 refine sv 31 vb ?_
 refine sw 32 (.int .i64 ((S:Int))) rfl (rv_lenn (e:=49) hb (tb_lenz rfl) _ _ rfl rfl (by kernel_rfl)) ?_
 have hb22:(((N:Int) !=(S:Int)))=true:=(by simp;omega)
 refine sw 33 (.bool true) rfl (RunV.bool (x:=((N:Int) !=(S:Int))) (rvk (by kernel_rfl)) hb22) ?_
 refine sv 34 (.bool true) ?_
 refine sq_nil ?_
 refine k20 _ _ ?_
 try clear k20 K20
 refine wp_cond_true rfl ?_
 refine wp_seq_k (fun K23 k23=>?_)
 refine rg [0,1] ?_
 refine sv 4 (.slice none 0 0) ?_
 refine sv 5 (.int .i64 13) ?_
 refine sq_nil ?_
 refine k23 _ _ ?_
 try clear k23 K23
 refine wp_ret ?_
 simp only [Exit.then]
 refine bodyPost_ret (v:=(.tuple #[(.slice none 0 0),(.int .i64 13)])) (ret_tmp2 rfl rfl rfl) rfl ⟨?_,hB⟩
 exact rfl

set_option maxRecDepth 100000 in
set_option maxHeartbeats 1000000 in
theorem l5_known (w:World) (_hm:Mx w) (ht:Tab w):
    Calls Tryz.prog 12 #[] w fun e w'=>e=.returned (.bool true)∧Gr w w':=by
 go_enter Tryz.func12,Tryz.ntmps12
 have hB:=Gr.refl w
 refine wp_seq_k (fun K10 k10=>?_)
 refine rg [0] ?_
 refine sv 0 (.bool false) ?_
 refine sq_nil ?_
 refine k10 _ _ ?_
 try clear k10 K10
 refine wp_seq_k (fun K11 k11=>?_)
 refine rg [0,1,2,3,4,5,6,7,8,9,10,11] ?_
 refine se ?_
 refine eff_bs 3 3 #[(.int .i64 2),(.int .i64 4),(.int .i64 6)] (some 9) rfl (fun _=>by kernel_rfl) (fun b12 w12 g12 L12 q12=>?_)
 replace hB:=hB.trans g12
 simp only [putl,p3,p4]
 refine se ?_
 refine eff_bs 3 3 #[(.int .i64 1),(.int .i64 2),(.int .i64 4)] (some 10) rfl (fun _=>by kernel_rfl) (fun b13 w13 g13 L13 q13=>?_)
 replace hB:=hB.trans g13
 simp only [putl,p3,p4]
 refine se ?_
 refine eff_bs 30 2 #[(.slice (some ⟨b12,0,none⟩) 3 3),(.slice (some ⟨b13,0,none⟩) 3 3)] (some 11) rfl (fun _=>by kernel_rfl) (fun b14 w14 g14 L14 q14=>?_)
 replace L12:=L12.gr g13
 replace hB:=hB.trans g14
 simp only [putl,p3,p4]
 refine se ?_
 replace L12:=L12.gr g14
 replace L13:=L13.gr g14
 refine ec 12 (l5_numbers (R:=2) (N:=3) (nn:=nl [[2,4,6],[1,2,4]]) (by decide) (by decide) (nl_b (by decide)) ((sl_row2 L14 (sl_i64 L12 [2,4,6] 3 rfl rfl) (sl_i64 L13 [1,2,4] 3 rfl rfl)).cast (show [[2,4,6],[1,2,4]]=tb (fun z0=>tb (fun z1=>nl [[2,4,6],[1,2,4]] z0 z1) 3) 2 from by kernel_rfl))) ?_
 rintro e15 w15 ⟨⟨u15,rfl,hs15⟩,g15⟩
 refine ⟨_,rfl,?_⟩
 replace hB:=hB.trans g15
 simp only [p3,p4]
 refine se ?_
 refine ec 13 (mx_Reduce (K:=4899) (m:=(nq [[2,4,6],[1,2,4]])) (fun h=>absurd h (by decide)) (by decide) (by decide) (by decide) (by decide) (rs_sm (nq_z (by decide)) (.inr (by decide)) (Nat.le_refl _)) (hs15.ratrows (by omega))) ?_
 rintro e16 w16 ⟨⟨u16,v16,rfl,hs16,hp16⟩,g16⟩
 refine ⟨_,rfl,?_⟩
 replace hB:=hB.trans g16
 replace hs16:=hs16.cast (show _=tb (fun z0=>tb (fun z1=>nq [[1,2,0],[0,0,1]] z0 z1) 3) 2 from by kernel_rfl)
 replace hp16:=hp16.cast (show _=tb (fun z1=>([0,2]:List Int).getD z1 0) 2 from by kernel_rfl)
 simp only [p3,p4]
 refine sv 8 (.tuple #[u16,v16,(.int .i64 0)]) ?_
 refine sv 14 u16 ?_
 refine sv 15 v16 ?_
 refine sv 16 (.int .i64 0) ?_
 refine sv 1 u16 ?_
 refine sv 2 v16 ?_
 refine sv 3 (.int .i64 0) ?_
 refine sq_nil ?_
 refine k11 _ _ ?_
 try clear k11 K11
 refine wp_seq_k (fun K17 k17=>?_)
 refine rg [0,1,2,3,4,5,6,7,8,9] ?_
 refine se ?_
 refine eff_bs 3 3 #[(.int .i64 2),(.int .i64 4),(.int .i64 6)] (some 18) rfl (fun _=>by kernel_rfl) (fun b18 w18 g18 L18 q18=>?_)
 replace hB:=hB.trans g18
 simp only [putl,p3,p4]
 refine se ?_
 refine eff_bs 3 3 #[(.int .i64 1),(.int .i64 2),(.int .i64 4)] (some 19) rfl (fun _=>by kernel_rfl) (fun b19 w19 g19 L19 q19=>?_)
 replace hB:=hB.trans g19
 simp only [putl,p3,p4]
 refine se ?_
 refine eff_bs 30 2 #[(.slice (some ⟨b18,0,none⟩) 3 3),(.slice (some ⟨b19,0,none⟩) 3 3)] (some 20) rfl (fun _=>by kernel_rfl) (fun b20 w20 g20 L20 q20=>?_)
 replace L18:=L18.gr g19
 replace hB:=hB.trans g20
 simp only [putl,p3,p4]
 refine se ?_
 replace L18:=L18.gr g20
 replace L19:=L19.gr g20
 refine ec 21 (l5_numbers (R:=2) (N:=3) (nn:=nl [[2,4,6],[1,2,4]]) (by decide) (by decide) (nl_b (by decide)) ((sl_row2 L20 (sl_i64 L18 [2,4,6] 3 rfl rfl) (sl_i64 L19 [1,2,4] 3 rfl rfl)).cast (show [[2,4,6],[1,2,4]]=tb (fun z0=>tb (fun z1=>nl [[2,4,6],[1,2,4]] z0 z1) 3) 2 from by kernel_rfl))) ?_
 rintro e21 w21 ⟨⟨u21,rfl,hs21⟩,g21⟩
 refine ⟨_,rfl,?_⟩
 replace hB:=hB.trans g21
 simp only [p3,p4]
 refine se ?_
 refine ec 22 (mx_Kernel (K:=4899) (D:=3) (m:=nq [[2,4,6],[1,2,4]]) (by decide) (by decide) (by decide) (by decide) (rs_sm (nq_z (by decide)) (.inr (by decide)) (Nat.le_refl _)) (hs21.ratrows (by omega))) ?_
 rintro e22 w22 ⟨⟨u22,rfl,hs22⟩,g22⟩
 refine ⟨_,rfl,?_⟩
 replace hB:=hB.trans g22
 replace hs22:=hs22.cast (show _=tb (fun z0=>tb (fun z1=>nq [[-2,1,0]] z0 z1) 3) 1 from by kernel_rfl)
 simp only [p3,p4]
 refine sv 17 (.tuple #[u22,(.int .i64 0)]) ?_
 refine sv 23 u22 ?_
 refine sv 24 (.int .i64 0) ?_
 refine sv 4 u22 ?_
 refine sv 5 (.int .i64 0) ?_
 refine sq_nil ?_
 refine k17 _ _ ?_
 try clear k17 K17
 refine wp_seq_k (fun K23 k23=>?_)
 have lehC:=Below.size hB
 have hC:=Gr.refl w22
 replace hs15:=hs15.gr (stab_rw (stab_rat 64) 71 4) (g16.trans (g18.trans (g19.trans (g20.trans (g21.trans g22)))))
 replace hs16:=hs16.gr (stab_rw (stab_rat 4899) 71 4) (g18.trans (g19.trans (g20.trans (g21.trans g22))))
 replace hp16:=hp16.gr stab_i64 (g18.trans (g19.trans (g20.trans (g21.trans g22))))
 replace hs21:=hs21.gr (stab_rw (stab_rat 64) 71 4) g22
 refine rg [0,1,2,3,4,5,6,7,8,9,10] ?_
 refine se ?_
 refine eff_bs 3 2 #[(.int .i64 1),(.int .i64 2)] (some 26) rfl (fun _=>by kernel_rfl) (fun b24 w24 g24 L24 q24=>?_)
 have q24_hC:=Nat.le_trans (Below.size hC) q24
 replace hB:=hB.trans g24
 replace hC:=hC.trans g24
 simp only [putl,p3,p4]
 refine se ?_
 refine eff_bs 3 2 #[(.int .i64 3),(.int .i64 4)] (some 27) rfl (fun _=>by kernel_rfl) (fun b25 w25 g25 L25 q25=>?_)
 have q25_hC:=Nat.le_trans (Below.size hC) q25
 replace hB:=hB.trans g25
 replace hC:=hC.trans g25
 simp only [putl,p3,p4]
 refine se ?_
 refine eff_bs 30 2 #[(.slice (some ⟨b24,0,none⟩) 2 2),(.slice (some ⟨b25,0,none⟩) 2 2)] (some 28) rfl (fun _=>by kernel_rfl) (fun b26 w26 g26 L26 q26=>?_)
 replace L24:=L24.gr g25
 have q26_hC:=Nat.le_trans (Below.size hC) q26
 replace hB:=hB.trans g26
 replace hC:=hC.trans g26
 simp only [putl,p3,p4]
 refine se ?_
 replace L24:=L24.gr g26
 replace L25:=L25.gr g26
 refine ec 29 (l5_numbers (R:=2) (N:=2) (nn:=nl [[1,2],[3,4]]) (by decide) (by decide) (nl_b (by decide)) ((sl_row2 L26 (sl_i64 L24 [1,2] 2 rfl rfl) (sl_i64 L25 [3,4] 2 rfl rfl)).cast (show [[1,2],[3,4]]=tb (fun z0=>tb (fun z1=>nl [[1,2],[3,4]] z0 z1) 2) 2 from by kernel_rfl))) ?_
 rintro e27 w27 ⟨⟨u27,rfl,hs27⟩,g27⟩
 refine ⟨_,rfl,?_⟩
 replace hB:=hB.trans g27
 replace hC:=hC.trans g27
 simp only [p3,p4]
 refine se ?_
 refine ec 30 (mx_Determinant (K:=4899) (m:=nq [[1,2],[3,4]]) (by decide) (by decide) (by decide) (rs_sm (nq_z (by decide)) (.inr (by decide)) (Nat.le_refl _)) (hs27.ratrows (by omega))) ?_
 rintro e28 w28 ⟨⟨p28,q28,r28,s28,rfl,h28⟩,g28⟩
 refine ⟨_,rfl,?_⟩
 replace hB:=hB.trans g28
 replace hC:=hC.trans g28
 replace h28:=h28.castq (show _=(-2:Rat) from by kernel_rfl)
 simp only [p3,p4]
 refine sv 25 (.tuple #[(.agg #[p28,q28,r28,s28]),(.int .i64 0)]) ?_
 refine sv 31 (.agg #[p28,q28,r28,s28]) ?_
 refine sv 32 (.int .i64 0) ?_
 refine se ?_
 refine ea 71 #[(.bool false),(.slice none 0 0),(.bool false),(.slice none 0 0)] 6 hB fun b29 w29 g29 L29 o29 q29 hB=>?_
 have q29_hC:=Nat.le_trans (Below.size hC) o29
 replace hC:=hC.trans g29
 simp only [p3,p4]
 refine se ?_
 have lo30:=L29
 refine es 71 0 (.agg #[p28,q28,r28,s28]) [p28,q28,r28,s28] #[p28,q28,r28,s28] L29 hB q29 ⟨h28.one0,h28.one1,h28.one2,h28.one3,trivial⟩ fun w30 st30 kp30 L29 hB=>?_
 replace hC:=st30.gr hC q29_hC
 refine sv 7 (.int .i64 0) ?_
 refine sq_nil ?_
 refine k23 _ _ ?_
 try clear k23 K23
 refine wp_seq_k (fun K31 k31=>?_)
 refine rg [0,1,2,3,4,5,6,7,8,9,10,11,12,13,14,15,16,17,18,19,20,21,22,23,24,25,26,27,28,29,30,31,32,33,34,35,36,37,38,39,40,41,42,43,44,45,46,47] ?_
 refine sv 33 u16 ?_
 refine se ?_
 refine eff_bs 3 3 #[(.int .i64 1),(.int .i64 2),(.int .i64 0)] (some 34) rfl (fun _=>by kernel_rfl) (fun b32 w32 g32 L32 q32=>?_)
 have q32_hC:=Nat.le_trans (Below.size hC) q32
 replace hB:=hB.trans g32
 replace hC:=hC.trans g32
 simp only [putl,p3,p4]
 refine se ?_
 refine eff_bs 3 3 #[(.int .i64 0),(.int .i64 0),(.int .i64 1)] (some 35) rfl (fun _=>by kernel_rfl) (fun b33 w33 g33 L33 q33=>?_)
 replace L29:=L29.gr g32
 have q33_hC:=Nat.le_trans (Below.size hC) q33
 replace hB:=hB.trans g33
 replace hC:=hC.trans g33
 simp only [putl,p3,p4]
 refine se ?_
 refine eff_bs 30 2 #[(.slice (some ⟨b32,0,none⟩) 3 3),(.slice (some ⟨b33,0,none⟩) 3 3)] (some 36) rfl (fun _=>by kernel_rfl) (fun b34 w34 g34 L34 q34=>?_)
 replace L29:=L29.gr g33
 replace L32:=L32.gr g33
 have q34_hC:=Nat.le_trans (Below.size hC) q34
 replace hB:=hB.trans g34
 replace hC:=hC.trans g34
 simp only [putl,p3,p4]
 refine se ?_
 replace L32:=L32.gr g34
 replace L33:=L33.gr g34
 refine ec 37 (l5_numbers (R:=2) (N:=3) (nn:=nl [[1,2,0],[0,0,1]]) (by decide) (by decide) (nl_b (by decide)) ((sl_row2 L34 (sl_i64 L32 [1,2,0] 3 rfl rfl) (sl_i64 L33 [0,0,1] 3 rfl rfl)).cast (show [[1,2,0],[0,0,1]]=tb (fun z0=>tb (fun z1=>nl [[1,2,0],[0,0,1]] z0 z1) 3) 2 from by kernel_rfl))) ?_
 rintro e35 w35 ⟨⟨u35,rfl,hs35⟩,g35⟩
 refine ⟨_,rfl,?_⟩
 replace hB:=hB.trans g35
 replace hC:=hC.trans g35
 simp only [p3,p4]
 refine se ?_
 refine ec 38 (mx_Equal (by omega) (by omega) (by omega) (hs16.gr (stab_rw (stab_rat 4899) 71 4) hC) hs35) ?_
 rintro e36 w36 ⟨rfl,g36⟩
 refine ⟨_,rfl,?_⟩
 replace hB:=hB.trans g36
 replace hC:=hC.trans g36
 simp only [p3,p4]
 refine sv 39 (.bool true) ?_
 refine sv 40 v16 ?_
 refine sw 41 (.int .i64 2) rfl (rv_lenn (e:=3) hp16 (tb_lenz rfl) _ _ rfl rfl (by kernel_rfl)) ?_
 refine sv 42 (.bool true) ?_
 refine sv 43 (.bool true) ?_
 refine sv 44 (.bool true) ?_
 refine sv 45 v16 ?_
 refine sw 46 (adr v16 (0*1)) rfl (rv_idxn (e:=3) hp16 tb_len (by decide) 0 (by omega) _ _ _ rfl rfl rfl (by kernel_rfl) (by kernel_rfl)) ?_
 obtain ⟨_,_,rfl,at37⟩:=Sl.get hp16 (by decide) (tb_get (f:=(fun z1=>([0,2]:List Int).getD z1 0)) (n:=2) (i:=0) (by omega))
 refine sw 47 (.int .i64 0) rfl (rv_ld1 (.int .i64 0) (at37.gr hC) _ _ rfl rfl (by kernel_rfl)) ?_
 refine sv 48 (.bool true) ?_
 refine sv 49 (.bool true) ?_
 refine sv 50 (.bool true) ?_
 refine sv 51 v16 ?_
 refine sw 52 (adr v16 (1*1)) rfl (rv_idxn (e:=3) hp16 tb_len (by decide) 1 (by omega) _ _ _ rfl rfl rfl (by kernel_rfl) (by kernel_rfl)) ?_
 obtain ⟨_,_,rfl,at38⟩:=Sl.get hp16 (by decide) (tb_get (f:=(fun z1=>([0,2]:List Int).getD z1 0)) (n:=2) (i:=1) (by omega))
 refine sw 53 (.int .i64 2) rfl (rv_ld1 (.int .i64 2) (at38.gr hC) _ _ rfl rfl (by kernel_rfl)) ?_
 refine sv 54 (.bool true) ?_
 refine sv 55 (.bool true) ?_
 refine sv 56 (.bool true) ?_
 refine sv 57 (.int .i64 0) ?_
 refine sv 58 (.bool true) ?_
 refine sv 59 (.bool true) ?_
 refine sv 60 (.bool true) ?_
 refine sv 61 u22 ?_
 refine se ?_
 refine eff_bs 3 3 #[(.int .i64 (-2)),(.int .i64 1),(.int .i64 0)] (some 62) rfl (fun _=>by kernel_rfl) (fun b39 w39 g39 L39 q39=>?_)
 replace L29:=L29.gr (g34.trans (g35.trans g36))
 have q39_hC:=Nat.le_trans (Below.size hC) q39
 replace hB:=hB.trans g39
 replace hC:=hC.trans g39
 simp only [putl,p3,p4]
 refine se ?_
 refine eff_bs 30 1 #[(.slice (some ⟨b39,0,none⟩) 3 3)] (some 63) rfl (fun _=>by kernel_rfl) (fun b40 w40 g40 L40 q40=>?_)
 replace L29:=L29.gr g39
 have q40_hC:=Nat.le_trans (Below.size hC) q40
 replace hB:=hB.trans g40
 replace hC:=hC.trans g40
 simp only [putl,p3,p4]
 refine se ?_
 replace L39:=L39.gr g40
 refine ec 64 (l5_numbers (R:=1) (N:=3) (nn:=nl [[-2,1,0]]) (by decide) (by decide) (nl_b (by decide)) ((sl_row1 L40 (sl_i64 L39 [-2,1,0] 3 rfl rfl)).cast (show [[-2,1,0]]=tb (fun z0=>tb (fun z1=>nl [[-2,1,0]] z0 z1) 3) 1 from by kernel_rfl))) ?_
 rintro e41 w41 ⟨⟨u41,rfl,hs41⟩,g41⟩
 refine ⟨_,rfl,?_⟩
 replace hB:=hB.trans g41
 replace hC:=hC.trans g41
 simp only [p3,p4]
 refine se ?_
 refine ec 65 (mx_Equal (by omega) (by omega) (by omega) (hs22.gr (stab_rw (stab_rat 4899) 71 4) hC) hs41) ?_
 rintro e42 w42 ⟨rfl,g42⟩
 refine ⟨_,rfl,?_⟩
 replace hB:=hB.trans g42
 replace hC:=hC.trans g42
 simp only [p3,p4]
 refine sv 66 (.bool true) ?_
 refine sv 67 (.bool true) ?_
 refine sv 68 (.int .i64 0) ?_
 refine sv 69 (.bool true) ?_
 refine sv 70 (.bool true) ?_
 refine sv 71 (.bool true) ?_
 replace L29:=L29.gr (g40.trans (g41.trans g42))
 refine sw 72 (.agg #[p28,q28,r28,s28]) rfl (rl 71 0 [p28,q28,r28,s28] L29) ?_
 refine se ?_
 have kq44:=g29.kp.trans (kp30.trans (g32.kp.trans (g33.kp.trans (g34.kp.trans (g35.kp.trans (g36.kp.trans (g39.kp.trans (g40.kp.trans (g41.kp.trans g42.kp)))))))))
 replace h28:=h28.kp kq44
 refine ec 73 (number_r h28 (by omega) (ht.gr hB)) ?_
 rintro e43 w43 ⟨rfl,g43⟩
 refine ⟨_,rfl,?_⟩
 replace hB:=hB.trans g43
 replace hC:=hC.trans g43
 simp only [p3,p4]
 have hb45:(((ratL (-2:Rat))==([45,50]:List UInt8)))=true:=(by decide+kernel)
 refine sw 74 (.bool true) rfl (RunV.bool (x:=((ratL (-2:Rat))==([45,50]:List UInt8))) (rv_seq 61 61 _ _ (ratL (-2:Rat)) ([45,50]) rfl rfl rfl) hb45) ?_
 refine sv 75 (.bool true) ?_
 refine sv 76 (.bool true) ?_
 refine sv 77 (.int .i64 0) ?_
 refine sv 78 (.bool true) ?_
 refine sv 79 (.bool true) ?_
 refine sv 0 (.bool true) ?_
 refine sq_nil ?_
 refine k31 _ _ ?_
 try clear k31 K31
 refine wp_ret ?_
 refine bodyPost_ret (v:=(.bool true)) (ret_tmp rfl rfl) rfl ⟨?_,hB⟩
 exact rfl

set_option maxRecDepth 100000 in
set_option maxHeartbeats 1000000 in
theorem mx_Kernel_r {K:Nat} {v:Value} {m:Mx_} (z:Int) (hz:z<0∨96<z) {w:World} (hs:Sl (ERw (ERat K) 71 4) 49 1 w v (tb (fun z0=>tb (fun z1=>(m z0 z1)) 0) 0)):
    Calls Tryz.prog 19 #[v,(.int .i64 (z))] w fun e w'=>e=.returned (.tuple #[.slice none 0 0,.int .i64 2])∧Gr w w':=by
 go_enter Tryz.func19,Tryz.ntmps19
 have hB:=Gr.refl w
 refine wp_seq_k (fun K10 k10=>?_)
 refine rg [0,1] ?_
 refine sv 4 (.slice none 0 0) ?_
 refine sv 5 (.int .i64 0) ?_
 refine sq_nil ?_
 refine k10 _ _ ?_
 try clear k10 K10
 refine wp_seq_k (fun K11 k11=>?_)
 refine wp_seq_k (fun K12 k12=>?_)
 refine rg [0,1,2] ?_
 refine sv 15 v ?_
 refine se ?_
 refine ec 16 (mx_size (by omega) (by omega) (hs.gr (stab_rw (stab_rat K) 71 4) hB)) ?_
 rintro e13 w13 ⟨rfl,g13⟩
 refine ⟨_,rfl,?_⟩
 replace hB:=hB.trans g13
 simp only [p3,p4]
 refine sv 6 (.int .i64 0) ?_
 refine sq_nil ?_
 refine k12 _ _ ?_
 try clear k12 K12
 refine wp_seq_k (fun K14 k14=>?_)
 refine rg [0,1] ?_
 refine sv 17 (.int .i64 0) ?_
 refine sv 18 (.bool false) ?_
 refine sq_nil ?_
 refine k14 _ _ ?_
 try clear k14 K14
 refine wp_cond_false rfl ?_
 refine wp_skip ?_
 refine k11 _ _ ?_
 try clear k11 K11
 refine wp_seq_k (fun K15 k15=>?_)
 refine wp_seq_k (fun K16 k16=>?_)
 refine rg [0,1,2,3,4,5,6,7,8] ?_
 refine sv 20 v ?_
 refine sw 21 (.int .i64 0) rfl (rv_lenn (e:=49) hs (tb_lenz rfl) _ _ rfl rfl (by kernel_rfl)) ?_
 refine sv 22 (.bool false) ?_
 refine swk 23 (.bool false) [(4,24),(5,25),(6,26),(7,27)] rfl (rvk (by kernel_rfl)) ?_
 refine sv 28 (.bool false) ?_
 refine sq_nil ?_
 refine k16 _ _ ?_
 try clear k16 K16
 refine wp_cond_false rfl ?_
 refine wp_skip ?_
 refine k15 _ _ ?_
 try clear k15 K15
 refine wp_seq_k (fun K17 k17=>?_)
 refine wp_seq_k (fun K18 k18=>?_)
 refine rg [0,1,2,3,4,5] ?_
 refine sv 29 (.int .i64 (z)) ?_
 refine sv 30 (.bool (decide (z<(0:Int)))) ?_
 rcases Bool.eq_false_or_eq_true (decide (z<(0:Int))) with hb19 | hb19
 ·have h1:z<0:=of_decide_eq_true hb19
  refine swk 31 (.bool true) [(3,32),(4,33)] rfl (RunV.bool (x:=decide (z<(0:Int))) (rvk (by kernel_rfl)) hb19) ?_
  refine sv 34 (.bool true) ?_
  refine sq_nil ?_
  refine k18 _ _ ?_
  try clear k18 K18
  refine wp_cond_true rfl ?_
  refine wp_seq_k (fun K20 k20=>?_)
  refine rg [0,1] ?_
  refine sv 4 (.slice none 0 0) ?_
  refine sv 5 (.int .i64 2) ?_
  refine sq_nil ?_
  refine k20 _ _ ?_
  try clear k20 K20
  refine wp_ret ?_
  simp only [Exit.then]
  refine bodyPost_ret (v:=(.tuple #[(.slice none 0 0),(.int .i64 2)])) (ret_tmp2 rfl rfl rfl) rfl ⟨?_,hB⟩
  exact rfl
 ·have h1:¬ z<0:=of_decide_eq_false hb19
  refine sw 31 (.bool false) rfl (RunV.bool (x:=decide (z<(0:Int))) (rvk (by kernel_rfl)) hb19) ?_
  refine sv 32 (.int .i64 (z)) ?_
  refine sv 33 (.bool (decide ((96:Int)<z))) ?_
  refine sv 34 (.bool (decide ((96:Int)<z))) ?_
  refine sq_nil ?_
  refine k18 _ _ ?_
  try clear k18 K18
  refine wp_cond_split (t:=decide ((96:Int)<z)) rfl (fun hb21=>?_) (fun hb21=>?_)
  ·have h2:96<z:=of_decide_eq_true hb21
   refine wp_seq_k (fun K22 k22=>?_)
   refine rg [0,1] ?_
   refine sv 4 (.slice none 0 0) ?_
   refine sv 5 (.int .i64 2) ?_
   refine sq_nil ?_
   refine k22 _ _ ?_
   try clear k22 K22
   refine wp_ret ?_
   simp only [Exit.then]
   refine bodyPost_ret (v:=(.tuple #[(.slice none 0 0),(.int .i64 2)])) (ret_tmp2 rfl rfl rfl) rfl ⟨?_,hB⟩
   exact rfl
  ·have h2:¬ 96<z:=of_decide_eq_false hb21
   refine wp_skip ?_
   refine k17 _ _ ?_
   try clear k17 K17
   refine wp_seq_k (fun K23 k23=>?_)
   refine rg [0,1,2,3,4,5,6,7,8,9,10] ?_
   refine sv 36 v ?_
   refine sv 37 (.int .i64 (z)) ?_
   refine se ?_
   exact absurd hz (by omega)

end Go.Proofs.YtepgkcimmdmgcaaGreatDoor
