/- Joined of: Arr, Pq, Gen208, Wk, Gen209, Gen210, Vf, Gen211, Gen213, Gen212, Gen215, Nm, Og, Gd, Gen223, Gen224, Mp. -/
import Derived.Test.YtjhflekncldflaaGreatDoorPartA
import Derived.ChangeKeysEq
import Derived.Laws.StructEq
import Derived.Test.YtjhflekncldflaaGreatDoorPartD
import Derived.Test.YtjhflekncldflaaGreatDoorPartC
import Derived.Test.YtjhflekncldflaaGreatDoorPartB
import Derived.Maps.Own
import Derived.Maps.Views
import Derived.StringKeys
namespace Go.Proofs.YtjhflekncldflaaGreatDoor
open Go.RowKit

section
variable {P:Program} {a:Act} {o:Oper} {w:World}
end
section
variable {P:Program} {a:Act} {o:Oper} {w:World}
theorem pq_equal {t tI:TypeId} (z0 z1 y0 y1:Int) (ht:P.underlying t=some (.struct (P.fieldsOf t))) (hs:P.stoodInHeld t=false)
  (hf:((P.fieldsOf t).toList.map fun f=>(f.name=="_",f.type,f.offset))=[(false,tI,0),(false,tI,1)]) (hI:(P.underlying tI,(P.info? tI).isSome,P.plainKey tI)=(some (.int .i64),true,true)):
  (Op.equal t (.agg #[.int .i64 z0,.int .i64 z1]) (.agg #[.int .i64 y0,.int .i64 y1])).run P w=.ok ((z0==y0)&&(z1==y1)) w:=by
 simp only [Prod.mk.injEq] at hI
 obtain ⟨h1,h2,h4⟩:=hI
 obtain ⟨f1,f2,hfs⟩:∃ f1 f2,(P.fieldsOf t).toList=[f1,f2]:=by
  generalize (P.fieldsOf t).toList=l at hf
  rcases l with _ | ⟨f1,_ | ⟨f2,_ | ⟨f3,l⟩⟩⟩
  ·simp at hf
  ·simp at hf
  ·exact ⟨f1,f2,rfl⟩
  simp at hf
 rw [hfs] at hf
 simp only [List.map_cons,List.map_nil,List.cons.injEq,Prod.mk.injEq,and_true,beq_eq_false_iff_ne,ne_eq] at hf
 obtain ⟨⟨n1,t1,o1⟩,n2,t2,o2⟩:=hf
 obtain ⟨i,hi⟩:=Option.isSome_iff_exists.1 h2
 show (Op.equalIn (9999+1) t _ _).run P w=_
 rw [run_equalIn_struct w 9999 t _ _ ht hs,hfs]
 have e0:(Op.equalIn 9999 tI (.int .i64 z0) (.int .i64 y0)).run P w=.ok (z0==y0) w:=run_equalIn_int w 9998 tI .i64 .i64 z0 y0 h1
 have e1:(Op.equalIn 9999 tI (.int .i64 z1) (.int .i64 y1)).run P w=.ok (z1==y1) w:=run_equalIn_int w 9998 tI .i64 .i64 z1 y1 h1
 simp [Op.eqFields,n1,n2,t1,t2,o1,o2,part,isAgg,run_underlying h1,e0,e1]
 cases h3:(z0==y0)<;>cases h5:(z1==y1)<;>simp_all
theorem rv_pqne (t t2 tI:Nat) (x y:Operand) (z0 z1 y0 y1:Int) (hop:o.op=.binOp .neq t x y t2) (hx:a.eval x=.agg #[.int .i64 z0,.int .i64 z1]) (hy:a.eval y=.agg #[.int .i64 y0,.int .i64 y1])
  (ht:P.underlying t=some (.struct (P.fieldsOf t))) (hs:P.stoodInHeld t=false) (hf:((P.fieldsOf t).toList.map fun f=>(f.name=="_",f.type,f.offset))=[(false,tI,0),(false,tI,1)])
  (hI:(P.underlying tI,(P.info? tI).isSome,P.plainKey tI)=(some (.int .i64),true,true)) (hg:P.eqGuardType P.depth t=false):RunV P a o w (.bool (!((z0==y0)&&(z1==y1)))):=by
 have h:=pq_equal (P:=P) (w:=w) z0 z1 y0 y1 ht hs hf hI
 unfold RunV execOp
 simp only [hop,hx,hy]
 simp [go_sem,binOp,eqGuard,hg,h]
end
section
variable {F G:Nat→Int × Int} {N M k:Nat}
theorem tbq_len (h:¬ N=M):decide (tb F N=tb G M)=false:=decide_eq_false fun e=>h (by have:=congrArg List.length e;rwa [za7,za7] at this)
theorem tbq_f (h:k<N) (hx:((F k).1==(G k).1&&(F k).2==(G k).2)=false):decide (tb F N=tb G N)=false:=decide_eq_false fun e=>by
 have:=congrArg (fun l=>l[k]?) e
 simp only [zb5 h,Option.some.injEq] at this
 rw [this] at hx
 simp at hx
theorem tbq_t (h:∀ j,j<N→F j=G j):decide (tb F N=tb G N)=true:=decide_eq_true (zw2 h)
theorem tbq_one (h:∀ j,j<k→F j=G j) (hx:((F k).1==(G k).1&&(F k).2==(G k).2)=true):∀ j,j<k+1→F j=G j:=fun j hj=>by
 rcases Nat.lt_or_eq_of_le (Nat.le_of_lt_succ hj) with h1 | rfl
 ·exact h j h1
 simp at hx;exact Prod.ext hx.1 hx.2
end
end Go.Proofs.YtjhflekncldflaaGreatDoor
namespace Go.Proofs.YtjhflekncldflaaGreatDoor
set_option maxRecDepth 100000
set_option maxHeartbeats 4000000
open Go.RowKit

theorem notq_t {b:Bool} (h:(!b)=true):b=false:=by cases b<;>simp_all
theorem notq_f {b:Bool} (h:(!b)=false):b=true:=by cases b<;>simp_all
theorem eq_pk {N M:Nat} (_hM:M≤1000) {va vb:Value} {G1 G2:Nat→Int × Int} {w:World} (ha:Sl EPk 104 2 w va (tb (fun z1=>(G1 z1)) N)) (hb_:Sl EPk 104 2 w vb (tb (fun z1=>(G2 z1)) M)):
    Calls Tryz.prog 58 #[va,vb] w fun e w'=>e=.returned (.bool (decide (tb G1 N=tb G2 M)))∧Gr w w':=by
 go_enter Tryz.func58,Tryz.ntmps58
 have hB:=Gr.refl w
 refine wp_seq_k (fun aR aj=>rg [0] (sv 4 (.bool false) ?_))
 refine za0 (aj _ _ ?_)
 refine wp_seq_k (fun aG aw=>wp_seq_k (fun aP ap=>rg [0,1,2,3,4] (sv 6 va ?_)))
 refine sw 7 (iT (N:Int)) rfl (za9 (e:=104) ha (za8 rfl) _ _ rfl rfl (by kernel_rfl)) ?_
 refine sv 8 vb ?_
 refine sw 9 (iT (M:Int)) rfl (za9 (e:=104) hb_ (za8 rfl) _ _ rfl rfl (by kernel_rfl)) ?_
 refine sv 10 (.bool ((N:Int) !=(M:Int))) (za0 (ap _ _ ?_))
 refine wp_cond_split rfl (fun ad=>?_) (fun ad=>?_)
 ·have hnm:=bne_t ad
  refine wp_seq_k (fun aM al=>rg [0] (sv 4 (.bool false) ?_))
  refine za0 (al _ _ ?_)
  refine wp_ret ?_
  simp only [Exit.then]
  refine bodyPost_ret (v:=(.bool false)) (za3 rfl rfl) rfl ⟨?_,hB⟩
  exact (by rw [tbq_len hnm])
 have hnm:=bne_f ad
 subst hnm
 refine wp_skip ?_
 refine aw _ _ ?_
 refine wp_seq_k (fun aH ax=>wp_seq_k (fun aF aC=>rg [0,1,2] (sv 11 va ?_)))
 refine sw 12 (iT (N:Int)) rfl (za9 (e:=104) ha (za8 rfl) _ _ rfl rfl (by kernel_rfl)) ?_
 refine sv 13 (iT 0) (za0 (aC _ _ ?_))
 refine wp_block ?_
 refine zb2 (a:=⟨List.toArray ?l17,[]⟩) (fun n a w'=>∃ (k:Nat) (aa:Nat→Value),N - k=n∧a=⟨[va,vb,undef,undef,aa 4,aa 5,aa 6,aa 7,aa 8,aa 9,.bool ((N:Int) !=(N:Int)),aa 11,iT (N:Int),iT (k:Int),aa 14,aa 15,aa 16,aa 17,aa 18,aa 19,aa 20,aa 21,aa 22,aa 23,aa 24,aa 25].toArray,[]⟩∧k≤N∧(∀ j,j<k→G1 j=G2 j)∧Gr w w') (N - 0) ?_ ?_
 ·exact ⟨0,(fun i=>List.getD ?l17 i undef),rfl,rfl,Nat.zero_le _,(fun j hj=>absurd hj (Nat.not_lt_zero j)),hB⟩
 rintro aK aN ay ⟨k,aa,rfl,rfl,hkk,hf,hB⟩ aS au
 refine wp_seq_k (fun aO aB=>rg [0] (sv 14 (.bool (decide ((k:Int)<(N:Int)))) ?_))
 refine za0 (aB _ _ ?_)
 refine wp_seq_k (fun aE av=>?_)
 refine wp_cond_split rfl (fun ae=>?_) (fun ae=>?_)
 ·have hlk:k<N:=by have:=of_decide_eq_true ae;omega
  refine wp_skip ?_
  refine av _ _ ?_
  refine wp_seq_k (fun aD aq=>?_)
  refine wp_block ?_
  refine wp_seq_k (fun aJ aA=>rg [0,1] (sv 15 (iT (k:Int)) ?_))
  refine sv 5 (iT (k:Int)) (za0 (aA _ _ ?_))
  refine wp_seq_k (fun aI az=>?_)
  obtain ⟨_,_,rfl,ai⟩:=Sl.get ha (by decide) (zb5 (f:=(fun z1=>(G1 z1))) (n:=N) (i:=k) (by omega))
  obtain ⟨_,_,rfl,ah⟩:=Sl.get hb_ (by decide) (zb5 (f:=(fun z1=>(G2 z1))) (n:=N) (i:=k) (by omega))
  have af:=Gr.drew ay
  replace hB:=hB.trans af
  refine za5 (fun w'=>AtV w' va (k*2) [iT ((G1 k).1),iT ((G1 k).2)]∧AtV w' vb (k*2) [iT ((G2 k).1),iT ((G2 k).2)]) [(true,0),(true,1),(true,2),(true,3),(true,4),(true,5),(true,6),(true,7),(true,8)] (by kernel_rfl) (by kernel_rfl) (by kernel_rfl) (by decide) (fun _ _ _ _ _ h=>h) ⟨ai.gr hB,ah.gr hB⟩ ?_
  refine ov 16 va ?_
  refine ov 17 (iT (k:Int)) ?_
  refine ow 18 (adr va (k*2)) rfl (fun w' hS=>(zb1 (e:=104) ha za7 (by decide) k (by omega) _ _ _ rfl rfl rfl (by kernel_rfl) (by kernel_rfl))) ?_
  refine ow 19 (.agg #[iT ((G1 k).1),iT ((G1 k).2)]) rfl (fun w' hS=>(ze7 [iT ((G1 k).1),iT ((G1 k).2)] hS.1 _ _ rfl rfl (by kernel_rfl))) ?_
  refine ov 20 vb ?_
  refine ov 21 (iT (k:Int)) ?_
  refine ow 22 (adr vb (k*2)) rfl (fun w' hS=>(zb1 (e:=104) hb_ za7 (by decide) k (by omega) _ _ _ rfl rfl rfl (by kernel_rfl) (by kernel_rfl))) ?_
  refine ow 23 (.agg #[iT ((G2 k).1),iT ((G2 k).2)]) rfl (fun w' hS=>(ze7 [iT ((G2 k).1),iT ((G2 k).2)] hS.2 _ _ rfl rfl (by kernel_rfl))) ?_
  refine ow 24 (.bool (!(((G1 k).1==(G2 k).1)&&((G1 k).2==(G2 k).2)))) rfl (fun w' hS=>(rv_pqne 104 104 3 _ _ ((G1 k).1) ((G1 k).2) ((G2 k).1) ((G2 k).2) rfl rfl rfl (by kernel_rfl) (by kernel_rfl) (by kernel_rfl) (by kernel_rfl) (by kernel_rfl))) ?_
  refine zb4 ?_
  refine az _ _ ?_
  refine wp_cond_split rfl (fun ac=>?_) (fun ac=>?_)
  ·have hx:=notq_t ac
   refine wp_seq_k (fun aL ar=>rg [0] (sv 4 (.bool false) ?_))
   refine za0 (ar _ _ ?_)
   refine wp_ret ?_
   simp only [Exit.then,Exit.inBlock]
   refine bodyPost_ret (v:=(.bool false)) (za3 rfl rfl) rfl ⟨?_,hB⟩
   exact (by rw [tbq_f hlk hx])
  have hx:=notq_f ac
  refine wp_skip ?_
  refine aq _ _ ?_
  refine rg [0,1] ?_
  refine sw 25 (iT ((k:Int)+1)) rfl (rwI ((k:Int)+1)) ?_
  refine sv 13 (iT ((k:Int)+1)) ?_
  refine za0 ?_
  refine au (N - (k+1)) ⟨List.toArray ?l30,[]⟩ _ (by omega) ?_
  exact ⟨k+1,(fun i=>List.getD ?l30 i undef),rfl,rfl,(by omega),tbq_one hf hx,hB⟩
 have hek:N=k:=by have:=of_decide_eq_false ae;omega
 subst hek
 refine wp_exit ?_
 simp only [Exit.then,Exit.inBlock,↓reduceIte]
 refine ax _ _ ?_
 refine wp_seq_k (fun aQ ak=>rg [0] (sv 4 (.bool true) ?_))
 refine za0 (ak _ _ ?_)
 refine wp_ret ?_
 refine bodyPost_ret (v:=(.bool true)) (za3 rfl rfl) rfl ⟨?_,hB⟩
 exact (by rw [tbq_t hf])

theorem eq_pk2 {l:List Nat} (hn:l.length≤12) {fx:List (Int × Int)} {va vb:Value} {w:World} (ha:Sl EPk 104 2 w va fx) (hb:Sl EPk 104 2 w vb (tb (fun z1=>((z1:Int),((Ofr.at_ l z1:Nat):Int))) l.length)):
  Calls Tryz.prog 58 #[va,vb] w fun e w'=>e=.returned (.bool (decide (fx=pk l)))∧Gr w w':=by
 have h:=eq_pk (by omega) (ha.cast (list_tb (d:=(0,0))).symm) hb
 rw [list_tb] at h
 exact h
end Go.Proofs.YtjhflekncldflaaGreatDoor
namespace Go.Proofs.YtjhflekncldflaaGreatDoor
open Go.RowKit
def dLf:Leaf:=⟨[],0,0,[]⟩
def Ofr.wfold (D:Ofr) (b:Bool) (co:Int) (g:Nat) (l:List Nat) (lf:List Leaf) (k:Nat):Bool × List Leaf:=
 (List.range k).foldl (fun (st:Bool × List Leaf) k=>if st.1 then D.walk b co g (l++[k]) st.2 else st) (true,lf)
section
variable {D:Ofr} {b:Bool} {co:Int} {g k:Nat} {l:List Nat} {lf:List Leaf}
theorem zT8 (h:(D.wfold b co g l lf k).1=true):D.walk b co g (l++[k]) (D.wfold b co g l lf k).2=D.wfold b co g l lf (k+1):=by
 have e:D.wfold b co g l lf (k+1)=if (D.wfold b co g l lf k).1 then D.walk b co g (l++[k]) (D.wfold b co g l lf k).2 else D.wfold b co g l lf k:=by
  unfold Ofr.wfold;rw [List.range_succ,List.foldl_append];rfl
 rw [e,if_pos h]
theorem yf1 (h:(D.wfold b co g l lf k).1=false):∀ m,D.wfold b co g l lf (k+m)=D.wfold b co g l lf k
 | 0=>rfl
 | m+1=>by
  have e:D.wfold b co g l lf (k+(m+1))=if (D.wfold b co g l lf (k+m)).1 then D.walk b co g (l++[k+m]) (D.wfold b co g l lf (k+m)).2 else D.wfold b co g l lf (k+m):=by
   unfold Ofr.wfold;rw [← Nat.add_assoc,List.range_succ,List.foldl_append];rfl
  rw [e,yf1 h m,if_neg (by rw [h];decide)]
theorem wk_nil (h:lf.length=0):D.walk b co (g+1) l lf=(false,lf):=by
 obtain rfl:=List.eq_nil_of_length_eq_zero h
 rfl
theorem wk_hit (h:¬ lf.length=0) (hx:(lf.getD 0 dLf).fx=pk l):D.walk b co (g+1) l lf=(D.proves b co (lf.getD 0 dLf) l,tb (fun i=>lf.getD (1+i) dLf) (lf.length - 1)):=by
 cases lf with
 | nil=>exact absurd rfl h
 | cons x r=>
  have hx:x.fx=pk l:=hx
  unfold Ofr.walk
  rw [if_pos hx]
  refine Prod.ext rfl ?_
  show r=tb (fun i=>(x::r).getD (1+i) dLf) ((x::r).length - 1)
  have e:(fun i=>(x::r).getD (1+i) dLf)=fun i=>r.getD i dLf:=by
   funext i;rw [Nat.add_comm];rfl
  rw [e,List.length_cons,Nat.add_sub_cancel,list_tb]
theorem wk_end (h:¬ lf.length=0) (hx:¬ (lf.getD 0 dLf).fx=pk l) (hn:l.length=D.n):D.walk b co (g+1) l lf=(false,lf):=by
 cases lf with
 | nil=>exact absurd rfl h
 | cons x r=>
  have hx:¬ x.fx=pk l:=hx
  unfold Ofr.walk
  rw [if_neg hx,if_pos hn]
theorem wk_go (h:¬ lf.length=0) (hx:¬ (lf.getD 0 dLf).fx=pk l) (hn:¬ l.length=D.n):D.walk b co (g+1) l lf=D.wfold b co g l lf (D.ol l.length):=by
 cases lf with
 | nil=>exact absurd rfl h
 | cons x r=>
  have hx:¬ x.fx=pk l:=hx
  unfold Ofr.walk
  rw [if_neg hx,if_neg hn];rfl
theorem wk_fail (h:¬ lf.length=0) (hx:¬ (lf.getD 0 dLf).fx=pk l) (hn:¬ l.length=D.n) (hk:k<D.ol l.length) (hf:(D.wfold b co g l lf (k+1)).1=false):D.walk b co (g+1) l lf=(false,(D.wfold b co g l lf (k+1)).2):=by
 rw [wk_go h hx hn]
 obtain ⟨m,e⟩:∃ m,D.ol l.length=k+1+m:=⟨D.ol l.length - (k+1),by omega⟩
 rw [e,yf1 hf m]
 exact Prod.ext hf rfl
theorem wk_done (h:¬ lf.length=0) (hx:¬ (lf.getD 0 dLf).fx=pk l) (hn:¬ l.length=D.n) (hf:(D.wfold b co g l lf (D.ol l.length)).1=true):D.walk b co (g+1) l lf=(true,(D.wfold b co g l lf (D.ol l.length)).2):=by
 rw [wk_go h hx hn]
 exact Prod.ext hf rfl
end
end Go.Proofs.YtjhflekncldflaaGreatDoor
namespace Go.Proofs.YtjhflekncldflaaGreatDoor
set_option maxRecDepth 100000
set_option maxHeartbeats 4000000
open Go.RowKit

def WOK (D:Ofr) (b:Bool) (co:Int) (vc vp:Value) (B dk bl bd ba bo bs:Nat) (ds os rs sp cs ch:Value) (g:Nat):Prop:=∀ (l:List Nat) (lf:List Leaf) (w0 w:World) (v vl:Value),D.n<l.length+g→D.vp l→Mx w0→Gr w0 w→w0.heap.size≤B→B≤w.heap.size→Lc w dk #[ds,os,rs,sp,cs,ch] 158→Lc w bd #[.pointer (some ⟨dk,0,none⟩)] 118→Lc w bo #[ds,os,rs] 26→Lc w bs #[(.func (.func 57) #[] #[.pointer (some ⟨bl,0,none⟩),.pointer (some ⟨bd,0,none⟩),.pointer (some ⟨ba,0,none⟩),.pointer (some ⟨bo,0,none⟩),.pointer (some ⟨bs,0,none⟩)])] 132→Lc w ba #[.bool b,vc,.int .i64 co,vp] 43→Lc w bl #[vl] 41→Dsk w D ds os rs sp cs ch→Sl ELf 108 4 w vl lf→Sl EI64 3 1 w v (tb (fun z1=>((Ofr.at_ l z1:Nat):Int)) l.length)→
  Calls Tryz.prog 57 #[v,.pointer (some ⟨bl,0,none⟩),.pointer (some ⟨bd,0,none⟩),.pointer (some ⟨ba,0,none⟩),.pointer (some ⟨bo,0,none⟩),.pointer (some ⟨bs,0,none⟩)] w fun e w'=>(∃ vd,e=.returned (.bool (D.walk b co g l lf).1)∧Lc w' bl #[vd] 41∧Sl ELf 108 4 w' vd (D.walk b co g l lf).2)∧Wx B 41 bl [] w w'
theorem zW3 {b:Bool} (h:(!b)=true):b=false:=by cases b<;>simp_all
theorem zW4 {b:Bool} (h:(!b)=false):b=true:=by cases b<;>simp_all
theorem zW5 {D:Ofr} {b:Bool} {co:Int} {B dk bl bd ba bo bs g:Nat} {ds os rs sp cs ch v vc vp vl:Value} {l:List Nat} {lf:List Leaf} {w0 w:World} (ok:D.Ok) (ih:WOK D b co vc vp B dk bl bd ba bo bs ds os rs sp cs ch g) (hBl:B≤bl) (a8:vc.oneCell'=true) (bE:vp.oneCell'=true) (_hg:D.n<l.length+(g+1)) (hv:D.vp l) (hm:Mx w0) (h0:Gr w0 w) (a5:w0.heap.size≤B) (hBw:B≤w.heap.size) (hL:Lc w dk #[ds,os,rs,sp,cs,ch] 158) (ah:Lc w bd #[pT dk 0] 118) (ai:Lc w bo #[ds,os,rs] 26) (ae:Lc w bs #[(.func (.func 57) #[] #[pT bl 0,pT bd 0,pT ba 0,pT bo 0,pT bs 0])] 132) (af:Lc w ba #[.bool b,vc,iT co,vp] 43) (aa:Lc w bl #[vl] 41) (hD:Dsk w D ds os rs sp cs ch) (a2:Sl ELf 108 4 w vl lf) (hl:Sl EI64 3 1 w v (tb (fun z1=>((Ofr.at_ l z1:Nat):Int)) l.length)):
    Calls Tryz.prog 57 #[v,pT bl 0,pT bd 0,pT ba 0,pT bo 0,pT bs 0] w fun e w'=>(∃ vd,e=.returned (.bool (D.walk b co (g+1) l lf).1)∧Lc w' bl #[vd] 41∧Sl ELf 108 4 w' vd (D.walk b co (g+1) l lf).2)∧Wx B 41 bl [] w w':=by
 have n1:=ok.n1
 have n2:=ok.n2
 have bV:=ok.q2
 have cu:=hv.1
 have hds:=hD.ds
 have hos:=hD.os
 have hrs:=hD.rs
 have hsp:=hD.sp
 have hcs:=hD.cs
 have hch:=hD.ch
 have aM:=Lc.nety hL aa (by decide)
 have aB:=Lc.nety ah aa (by decide)
 have aD:=Lc.nety af aa (by decide)
 have hlf:=a2.cast (list_tb (d:=dLf)).symm
 go_enter Tryz.func57,Tryz.ntmps57
 have hB:=Wx.refl (B:=B) (T0:=41) (bx:=bl) (ts:=[]) w
 refine wp_seq_k (fun cx bu=>rg [0] (sv 7 (.bool false) ?_))
 refine za0 (bu _ _ ?_)
 refine wp_seq_k (fun b5 bB=>wp_seq_k (fun bP bt=>rg [0,1,2] ?_))
 refine sw 10 vl rfl (rk 41 0 aa) ?_
 refine sw 11 (iT ((lf.length:Nat):Int)) rfl (za9 (e:=108) hlf (za8 rfl) _ _ rfl rfl (by kernel_rfl)) ?_
 refine sv 12 (.bool (((lf.length:Nat):Int)==(0:Int))) (za0 (bt _ _ ?_))
 refine wp_cond_split rfl (fun aQ=>?_) (fun aQ=>?_)
 ·have hlen:lf.length=0:=by have:=beq_iff_eq.1 aQ;omega
  refine wp_seq_k (fun bN bG=>rg [0] (sv 7 (.bool false) ?_))
  refine za0 (bG _ _ ?_)
  refine wp_ret ?_
  simp only [Exit.then]
  refine bodyPost_ret (v:=(.bool false)) (za3 rfl rfl) rfl ⟨?_,hB⟩
  exact (by rw [wk_nil hlen];exact ⟨_,rfl,aa,hlf.cast list_tb⟩)
 have hlen:¬ lf.length=0:=by have:=beq_eq_false_iff_ne.1 aQ;omega
 refine wp_skip ?_
 refine bB _ _ ?_
 refine wp_seq_k (fun ck bg=>wp_seq_k (fun bL bF=>rg [0,1,2,3,4] ?_))
 refine sw 13 vl rfl (rk 41 0 aa) ?_
 refine sw 14 (adr vl (0*4)) rfl (zb1 (e:=108) hlf za7 (by decide) 0 (by omega) _ _ _ rfl rfl rfl (by kernel_rfl) (by kernel_rfl)) ?_
 obtain ⟨_,_,⟨aP,aA,rfl,aG,aL⟩,a1⟩:=Sl.get hlf (by decide) (zb5 (f:=(fun z1=>(lf.getD z1 dLf))) (n:=lf.length) (i:=0) (by omega))
 refine sw 15 (.agg #[aP,iT ((lf.getD 0 dLf).least),iT ((lf.getD 0 dLf).rq),aA]) rfl (ze7 [aP,iT ((lf.getD 0 dLf).least),iT ((lf.getD 0 dLf).rq),aA] a1 _ _ rfl rfl (by kernel_rfl)) ?_
 refine se ?_
 refine ze9 108 (.agg #[sN,iT 0,iT 0,sN]) #[sN,iT 0,iT 0,sN] (some 8) rfl rfl (by kernel_rfl) rfl (fun aW b9 au aI aO=>?_)
 have aN:=hL.ne aO
 have az:=ah.ne aO
 have aK:=ai.ne aO
 have aJ:=ae.ne aO
 have ay:=af.ne aO
 have ak:=aa.ne aO
 have ax:=aO
 replace aO:=Nat.le_trans hB.size aO
 replace hB:=hB.trans au
 simp only [zd0,p3,p4]
 refine se ?_
 have aC:=aI
 refine zd6 108 _ _ aW 0 (.agg #[aP,iT ((lf.getD 0 dLf).least),iT ((lf.getD 0 dLf).rq),aA]) [aP,iT ((lf.getD 0 dLf).least),iT ((lf.getD 0 dLf).rq),aA] #[sN,iT 0,iT 0,sN] #[aP,iT ((lf.getD 0 dLf).least),iT ((lf.getD 0 dLf).rq),aA] 108 rfl rfl rfl rfl rfl aC (by kernel_rfl) (Nat.le_of_ble_eq_true rfl) ⟨aG.one,rfl,rfl,aL.one,trivial⟩ (by kernel_rfl) (fun bA ad aI=>?_)
 replace hB:=hB.sto ad aO hBw
 refine za0 (bF _ _ ?_)
 refine wp_seq_k (fun cp bf=>?_)
 have ac:=Gr.drew bA
 replace hB:=hB.trans ac
 replace aI:=aI.gr ac
 refine za5 (fun w'=>Lc w' aW #[aP,iT ((lf.getD 0 dLf).least),iT ((lf.getD 0 dLf).rq),aA] 108) [(true,0),(true,1),(true,2),(false,3),(false,4)] (by kernel_rfl) (by kernel_rfl) (by kernel_rfl) (by decide) (fun _ _ _ _ _ h=>h) aI ?_
 refine ov 16 (pT aW 0) ?_
 refine ow 17 aP rfl (fun w' hS=>(rk 105 0 hS)) ?_
 refine ov 18 v ?_
 refine oe ?_
 replace hl:=hl.gr za2 ((ad.gr au ax).trans ac)
 refine ec 19 (zN8 (by omega) hl) ?_
 rintro bQ bS ⟨⟨cl,rfl,aY⟩,ap⟩
 refine ⟨_,rfl,?_⟩
 replace hB:=hB.trans ap
 replace aI:=aI.gr ap
 refine ⟨aI,?_⟩
 simp only [p3,p4]
 refine oe ?_
 replace aG:=aG.gr zf6 (((ad.gr au ax).trans ac).trans ap)
 refine ec 20 (eq_pk2 (by omega) aG aY) ?_
 rintro bU bT ⟨rfl,al⟩
 refine ⟨_,rfl,?_⟩
 replace hB:=hB.trans al
 replace aI:=aI.gr al
 refine ⟨aI,?_⟩
 simp only [p3,p4]
 refine zb4 ?_
 refine bf _ _ ?_
 refine wp_cond_split rfl (fun aR=>?_) (fun aR=>?_)
 ·have hx:=of_decide_eq_true aR
  refine wp_seq_k (fun cr bC=>rg [0,1,2] ?_)
  replace aa:=(ad.lc (aa.gr au) ak).gr (ac.trans (ap.trans al))
  refine sw 21 vl rfl (rk 41 0 aa) ?_
  have aH:=hlf.subt (show 1≤lf.length by omega) (show lf.length≤lf.length by omega)
  refine sw 22 (subv vl 1 lf.length 4) rfl (yd9 (e:=108) hlf 1 lf.length (by omega) (by omega) _ _ _ _ rfl rfl (.inr rfl) (.inl ⟨rfl,rfl⟩) (by kernel_rfl) (by kernel_rfl)) ?_
  refine se ?_
  have aw:=aa
  replace aH:=aH.gr zc6 ((((ad.gr au ax).trans ac).trans ap).trans al)
  refine zd6 41 _ _ bl 0 (subv vl 1 lf.length 4) [subv vl 1 lf.length 4] #[vl] #[subv vl 1 lf.length 4] 41 rfl rfl rfl rfl (by obtain ⟨_,_,e,_⟩:=aH.form;rw [e];rfl) aw (by kernel_rfl) (Nat.le_of_ble_eq_true rfl) ⟨aH.one,trivial⟩ (by kernel_rfl) (fun cm ar aa=>?_)
  replace hB:=hB.st ar aw hBl
  refine za0 (bC _ _ ?_)
  refine wp_seq_k (fun b0 bp=>rg [0,1,2,3,4,5] ?_)
  replace ah:=ar.lc ((ad.lc (ah.gr au) az).gr (ac.trans (ap.trans al))) aB
  refine sw 23 (pT dk 0) rfl (rk 118 0 ah) ?_
  replace af:=ar.lc ((ad.lc (af.gr au) ay).gr (ac.trans (ap.trans al))) aD
  refine sw 24 (.agg #[.bool (b),vc,iT (co),vp]) rfl (rl 43 0 [.bool (b),vc,iT (co),vp] af) ?_
  replace aI:=ar.lc aI (Ne.symm ak)
  refine sw 25 (.agg #[aP,iT ((lf.getD 0 dLf).least),iT ((lf.getD 0 dLf).rq),aA]) rfl (rl 108 0 [aP,iT ((lf.getD 0 dLf).least),iT ((lf.getD 0 dLf).rq),aA] aI) ?_
  refine sv 26 v ?_
  refine se ?_
  replace aG:=(aG.gr zf6 al).kts zf6 (ar.kts aw (by decide))
  replace aL:=(((((aL.gr zl7 au).kts zl7 (ad.kts aC (by decide))).gr zl7 ac).gr zl7 ap).gr zl7 al).kts zl7 (ar.kts aw (by decide))
  replace hL:=ar.lc ((ad.lc (hL.gr au) aN).gr (ac.trans (ap.trans al))) aM
  replace hds:=(((((hds.gr zb9 au).kts zb9 (ad.kts aC (by decide))).gr zb9 ac).gr zb9 ap).gr zb9 al).kts zb9 (ar.kts aw (by decide))
  replace hos:=(((((hos.gr (za1 za4 68 3) au).kts (za1 za4 68 3) (ad.kts aC (by decide))).gr (za1 za4 68 3) ac).gr (za1 za4 68 3) ap).gr (za1 za4 68 3) al).kts (za1 za4 68 3) (ar.kts aw (by decide))
  replace hrs:=(((((hrs.gr zc0 au).kts zc0 (ad.kts aC (by decide))).gr zc0 ac).gr zc0 ap).gr zc0 al).kts zc0 (ar.kts aw (by decide))
  replace hsp:=(((((hsp.gr (za1 (za1 (zb0 64) 124 8) 162 1) au).kts (za1 (za1 (zb0 64) 124 8) 162 1) (ad.kts aC (by decide))).gr (za1 (za1 (zb0 64) 124 8) 162 1) ac).gr (za1 (za1 (zb0 64) 124 8) 162 1) ap).gr (za1 (za1 (zb0 64) 124 8) 162 1) al).kts (za1 (za1 (zb0 64) 124 8) 162 1) (ar.kts aw (by decide))
  replace hcs:=(((((hcs.gr (za6 64) au).kts (za6 64) (ad.kts aC (by decide))).gr (za6 64) ac).gr (za6 64) ap).gr (za6 64) al).kts (za6 64) (ar.kts aw (by decide))
  replace hch:=(((((hch.gr za2 au).kts za2 (ad.kts aC (by decide))).gr za2 ac).gr za2 ap).gr za2 al).kts za2 (ar.kts aw (by decide))
  replace hl:=((hl.gr za2 ap).gr za2 al).kts za2 (ar.kts aw (by decide))
  refine ec 27 (zW2 (b:=b) (co:=co) (vc:=vc) (vp:=vp) (least:=(lf.getD 0 dLf).least) (z:=(lf.getD 0 dLf).rq) (fx:=(lf.getD 0 dLf).fx) ok hL (⟨hds,hos,hrs,hsp,hcs,hch⟩:Dsk _ D _ _ _ _ _ _) (hm.gr (hB.below _ h0 a5)) aL.one (aL.cast list_tb.symm) aG.one a8 bE hv hl) ?_
  rintro b7 cd ⟨rfl,aX⟩
  refine ⟨_,rfl,?_⟩
  replace hB:=hB.trans aX
  simp only [p3,p4]
  refine sv 7 (.bool (D.proves b co (lf.getD 0 dLf) l)) (za0 (bp _ _ ?_))
  refine wp_ret ?_
  simp only [Exit.then]
  refine bodyPost_ret (v:=(.bool (D.proves b co (lf.getD 0 dLf) l))) (za3 rfl rfl) rfl ⟨?_,hB⟩
  replace aa:=aa.gr aX
  replace aH:=(aH.kts zc6 (ar.kts aw (by decide))).gr zc6 aX
  exact (by rw [wk_hit hlen hx];exact ⟨_,rfl,aa,aH⟩)
 have hx:=of_decide_eq_false aR
 refine wp_skip ?_
 refine bg _ _ ?_
 refine wp_seq_k (fun ct br=>wp_seq_k (fun b3 bh=>rg [0,1,2,3,4,5] (sv 28 v ?_)))
 refine sw 29 (iT ((l.length:Nat):Int)) rfl (za9 (e:=3) hl (za8 rfl) _ _ rfl rfl (by kernel_rfl)) ?_
 refine sv 30 (pT bo 0) ?_
 replace ai:=(ad.lc (ai.gr au) aK).gr (ac.trans (ap.trans al))
 refine sw 31 ds rfl (rk 22 0 ai) ?_
 refine sw 32 (iT ((D.n:Nat):Int)) rfl (za9 (e:=71) hds (za8 rfl) _ _ rfl rfl (by kernel_rfl)) ?_
 refine sv 33 (.bool (((l.length:Nat):Int)==((D.n:Nat):Int))) (za0 (bh _ _ ?_))
 refine wp_cond_split rfl (fun aT=>?_) (fun aT=>?_)
 ·have hn:l.length=D.n:=by have:=aT;simp at this;omega
  refine wp_seq_k (fun b1 bv=>rg [0] (sv 7 (.bool false) ?_))
  refine za0 (bv _ _ ?_)
  refine wp_ret ?_
  simp only [Exit.then]
  refine bodyPost_ret (v:=(.bool false)) (za3 rfl rfl) rfl ⟨?_,hB⟩
  replace aa:=(ad.lc (aa.gr au) ak).gr (ac.trans (ap.trans al))
  replace hlf:=hlf.gr zc6 ((((ad.gr au ax).trans ac).trans ap).trans al)
  exact (by rw [wk_end hlen hx hn];exact ⟨_,rfl,aa,hlf.cast list_tb⟩)
 have hn:¬ l.length=D.n:=by have:=aT;simp at this;omega
 have bM:=ok.o2 l.length (by omega)
 refine wp_skip ?_
 refine br _ _ ?_
 refine wp_seq_k (fun b4 a9=>wp_seq_k (fun bZ bD=>rg [0,1,2,3,4,5,6,7] (sv 34 (pT bo 1) ?_)))
 refine sw 35 os rfl (rk 23 1 ai) ?_
 refine sv 36 v ?_
 refine sw 37 (iT ((l.length:Nat):Int)) rfl (za9 (e:=3) hl (za8 rfl) _ _ rfl rfl (by kernel_rfl)) ?_
 refine sw 38 (adr os (l.length*1)) rfl (zb1 (e:=72) hos za7 (by decide) l.length (by omega) _ _ _ rfl rfl rfl (by kernel_rfl) (by kernel_rfl)) ?_
 replace hos:=hos.gr (za1 za4 68 3) ((((ad.gr au ax).trans ac).trans ap).trans al)
 obtain ⟨_,_,⟨a7,rfl,a3⟩,a6⟩:=Sl.get hos (by decide) (zb5 (f:=(fun z0=>tb (fun z1=>(D.op z0 z1)) (D.ol z0))) (n:=D.n) (i:=l.length) (by omega))
 refine sw 39 a7 rfl (zc7 a7 a6 _ _ rfl rfl (by kernel_rfl)) ?_
 refine sw 40 (iT ((D.ol l.length:Nat):Int)) rfl (za9 (e:=68) a3 (za8 rfl) _ _ rfl rfl (by kernel_rfl)) ?_
 refine sv 41 (iT 0) (za0 (bD _ _ ?_))
 refine wp_block ?_
 replace hds:=hds.gr zb9 ((((ad.gr au ax).trans ac).trans ap).trans al)
 replace hrs:=hrs.gr zc0 ((((ad.gr au ax).trans ac).trans ap).trans al)
 replace hsp:=hsp.gr (za1 (za1 (zb0 64) 124 8) 162 1) ((((ad.gr au ax).trans ac).trans ap).trans al)
 replace hcs:=hcs.gr (za6 64) ((((ad.gr au ax).trans ac).trans ap).trans al)
 replace hch:=hch.gr za2 ((((ad.gr au ax).trans ac).trans ap).trans al)
 replace hl:=hl.gr za2 (ap.trans al)
 replace hlf:=hlf.gr zc6 ((((ad.gr au ax).trans ac).trans ap).trans al)
 replace hL:=(ad.lc (hL.gr au) aN).gr (ac.trans (ap.trans al))
 replace ah:=(ad.lc (ah.gr au) az).gr (ac.trans (ap.trans al))
 replace ae:=(ad.lc (ae.gr au) aJ).gr (ac.trans (ap.trans al))
 replace af:=(ad.lc (af.gr au) ay).gr (ac.trans (ap.trans al))
 replace aa:=(ad.lc (aa.gr au) ak).gr (ac.trans (ap.trans al))
 refine zb2 (a:=⟨List.toArray ?l44,[]⟩) (fun n a w'=>∃ (k:Nat) (vk:Value) (aj:Nat→Value),(D.ol l.length) - k=n∧a=⟨[v,pT bl 0,pT bd 0,pT ba 0,pT bo 0,pT bs 0,undef,aj 7,pT aW 0,aj 9,aj 10,aj 11,.bool (((lf.length:Nat):Int)==(0:Int)),aj 13,aj 14,aj 15,aj 16,aj 17,aj 18,aj 19,.bool (decide ((lf.getD 0 dLf).fx=pk l)),undef,undef,undef,undef,undef,undef,undef,aj 28,aj 29,aj 30,aj 31,aj 32,.bool (((l.length:Nat):Int)==((D.n:Nat):Int)),aj 34,aj 35,aj 36,aj 37,aj 38,aj 39,iT ((D.ol l.length:Nat):Int),iT (k:Int),aj 42,aj 43,aj 44,aj 45,aj 46,aj 47,aj 48,aj 49,aj 50,aj 51,aj 52,aj 53,aj 54,aj 55,aj 56].toArray,[]⟩∧k≤(D.ol l.length)∧(D.wfold b co g l lf k).1=true∧Sl EDm 71 4 w' ds (tb (fun z1=>(D.nom z1)) D.n)∧Sl (ERw EOp 68 3) 72 1 w' os (tb (fun z0=>tb (fun z1=>(D.op z0 z1)) (D.ol z0)) D.n)∧Sl ERq 80 8 w' rs (tb (fun z1=>(D.rq z1)) D.q)∧Sl (ERw (ERw (ESp 64) 124 8) 162 1) 161 1 w' sp (tb (fun z0=>tb (fun z1=>tb (fun z2=>(D.sp z0 z1 z2)) (D.ol z1)) D.n) D.q)∧Sl (ERat 64) 62 4 w' cs (tb (fun z1=>(D.cn z1)) D.q)∧Sl EI64 3 1 w' ch (tb (fun z1=>(D.ch z1)) D.n)∧Sl EI64 3 1 w' v (tb (fun z1=>((Ofr.at_ l z1:Nat):Int)) l.length)∧Sl ELf 108 4 w' vk (D.wfold b co g l lf k).2∧Lc w' dk #[ds,os,rs,sp,cs,ch] 158∧Lc w' bd #[pT dk 0] 118∧Lc w' bo #[ds,os,rs] 26∧Lc w' bs #[(.func (.func 57) #[] #[pT bl 0,pT bd 0,pT ba 0,pT bo 0,pT bs 0])] 132∧Lc w' ba #[.bool (b),vc,iT (co),vp] 43∧Lc w' bl #[vk] 41∧Wx B 41 bl [] w w') ((D.ol l.length) - 0) ?_ ?_
 ·exact ⟨0,vl,(fun i=>List.getD ?l44 i undef),rfl,rfl,Nat.zero_le _,rfl,hds,hos,hrs,hsp,hcs,hch,hl,hlf.cast list_tb,hL,ah,ai,ae,af,aa,hB⟩
 rintro bO bR bJ ⟨k,vk,aj,rfl,rfl,hkk,hwt,hds,hos,hrs,hsp,hcs,hch,hl,hlk_,hL,ah,ai,ae,af,aa,hB⟩ b2 bi
 refine wp_seq_k (fun b6 bq=>rg [0] (sv 42 (.bool (decide ((k:Int)<((D.ol l.length:Nat):Int)))) ?_))
 refine za0 (bq _ _ ?_)
 refine wp_seq_k (fun cg bH=>?_)
 refine wp_cond_split rfl (fun aS=>?_) (fun aS=>?_)
 ·have hlk:k<(D.ol l.length):=by have:=of_decide_eq_true aS;omega
  refine wp_skip ?_
  refine bH _ _ ?_
  refine wp_seq_k (fun cf bw=>?_)
  refine wp_block ?_
  refine wp_seq_k (fun b8 bn=>rg [0,1] (sv 43 (iT (k:Int)) ?_))
  refine sv 9 (iT (k:Int)) (za0 (bn _ _ ?_))
  refine wp_seq_k (fun bK bI=>?_)
  have aq:=Gr.drew bJ
  replace hB:=hB.trans aq
  replace ae:=ae.gr aq
  refine za5 (fun w'=>Lc w' bs #[(.func (.func 57) #[] #[pT bl 0,pT bd 0,pT ba 0,pT bo 0,pT bs 0])] 132) [(true,0),(true,1),(true,2),(true,3),(true,4),(true,5),(true,6),(true,7),(false,8),(false,9),(false,10),(true,11)] (by kernel_rfl) (by kernel_rfl) (by kernel_rfl) (by decide) (fun _ _ _ _ _ h=>h) ae ?_
  refine ow 44 (.func (.func 57) #[] #[pT bl 0,pT bd 0,pT ba 0,pT bo 0,pT bs 0]) rfl (fun w' hS=>(rk 132 0 hS)) ?_
  refine ov 45 v ?_
  refine ov 46 v ?_
  refine ow 47 (iT ((l.length:Nat):Int)) rfl (fun w' hS=>(za9 (e:=3) hl (za8 rfl) _ _ rfl rfl (by kernel_rfl))) ?_
  refine ov 48 v ?_
  refine ow 49 (iT ((l.length:Nat):Int)) rfl (fun w' hS=>(za9 (e:=3) hl (za8 rfl) _ _ rfl rfl (by kernel_rfl))) ?_
  refine ow 50 (capv v l.length 1) rfl (fun w' hS=>(zw4 (e:=3) hl l.length za7 _ _ _ _ rfl rfl rfl rfl (by kernel_rfl) (by kernel_rfl))) ?_
  refine ov 51 (iT (k:Int)) ?_
  refine oe ?_
  refine zc5 3 1 #[iT (k:Int)] (some 52) rfl (fun _=>by kernel_rfl) (fun bj cb aE bk bW=>?_)
  replace hL:=hL.gr aq
  replace ah:=ah.gr aq
  replace ai:=ai.gr aq
  replace af:=af.gr aq
  replace aa:=aa.gr aq
  replace hB:=hB.trans aE
  replace ae:=ae.gr aE
  refine ⟨ae,?_⟩
  simp only [zd0,p3,p4]
  refine oe ?_
  replace hl:=hl.gr za2 (aq.trans aE)
  refine zw5 za2 _ _ 40 3 (iT 0) v l.length (tb (fun z1=>((Ofr.at_ l z1:Nat):Int)) l.length) bj [iT (k:Int)] ((k:Int):Int) 1 1 (some 53) 8 rfl rfl rfl rfl hl za7 bk ⟨rfl,trivial⟩ rfl rfl (by omega) (by decide) (by kernel_rfl) (by kernel_rfl) (by decide) (fun cq bY a0 aF=>?_)
  replace hB:=hB.trans aF
  have a4:=a0.sl.cast zI7
  replace ae:=ae.gr aF
  refine ⟨ae,?_⟩
  simp only [zd0,p3,p4]
  refine oe ?_
  replace hL:=hL.gr (aE.trans aF)
  replace ah:=ah.gr (aE.trans aF)
  replace ai:=ai.gr (aE.trans aF)
  replace af:=af.gr (aE.trans aF)
  replace aa:=aa.gr (aE.trans aF)
  replace hlk_:=hlk_.gr zc6 (aq.trans (aE.trans aF))
  replace hds:=hds.gr zb9 (aq.trans (aE.trans aF))
  replace hos:=hos.gr (za1 za4 68 3) (aq.trans (aE.trans aF))
  replace hrs:=hrs.gr zc0 (aq.trans (aE.trans aF))
  replace hsp:=hsp.gr (za1 (za1 (zb0 64) 124 8) 162 1) (aq.trans (aE.trans aF))
  replace hcs:=hcs.gr (za6 64) (aq.trans (aE.trans aF))
  replace hch:=hch.gr za2 (aq.trans (aE.trans aF))
  have hrec:=ih (l++[k]) (D.wfold b co g l lf k).2 w0 _ _ _ (by rw [List.length_append,List.length_singleton];omega) (hv.snoc (by omega) hlk) hm (hB.below _ h0 a5) a5 (Nat.le_trans hBw hB.size) hL ah ai ae af aa ⟨hds,hos,hrs,hsp,hcs,hch⟩ hlk_ a4
  rw [zT8 hwt] at hrec
  refine zh9 (some 54) rfl (by kernel_rfl) (hrec) ?_
  rintro cw cj ⟨⟨aZ,rfl,aa,aV⟩,av⟩
  refine ⟨_,rfl,?_⟩
  replace hB:=hB.trans2 av
  replace ae:=av.lc ae (by decide)
  refine ⟨ae,?_⟩
  simp only [zd0,p3,p4]
  refine ov 55 (.bool (!((D.wfold b co g l lf (k+1)).1))) ?_
  refine zb4 ?_
  refine bI _ _ ?_
  refine wp_cond_split rfl (fun aU=>?_) (fun aU=>?_)
  ·have hfl:=zW3 aU
   refine wp_seq_k (fun bX bb=>rg [0] (sv 7 (.bool false) ?_))
   refine za0 (bb _ _ ?_)
   refine wp_ret ?_
   simp only [Exit.then,Exit.inBlock]
   refine bodyPost_ret (v:=(.bool false)) (za3 rfl rfl) rfl ⟨?_,hB⟩
   exact (by rw [wk_fail hlen hx hn hlk hfl];exact ⟨_,rfl,aa,aV⟩)
  have hfl:=zW4 aU
  refine wp_skip ?_
  refine bw _ _ ?_
  refine rg [0,1] ?_
  refine sw 56 (iT ((k:Int)+1)) rfl (rwI ((k:Int)+1)) ?_
  refine sv 41 (iT ((k:Int)+1)) ?_
  refine za0 ?_
  replace hds:=hds.kts zb9 (av.kts (by decide))
  replace hos:=hos.kts (za1 za4 68 3) (av.kts (by decide))
  replace hrs:=hrs.kts zc0 (av.kts (by decide))
  replace hsp:=hsp.kts (za1 (za1 (zb0 64) 124 8) 162 1) (av.kts (by decide))
  replace hcs:=hcs.kts (za6 64) (av.kts (by decide))
  replace hch:=hch.kts za2 (av.kts (by decide))
  replace hl:=(hl.gr za2 aF).kts za2 (av.kts (by decide))
  replace hL:=av.lc hL (by decide)
  replace ah:=av.lc ah (by decide)
  replace ai:=av.lc ai (by decide)
  replace af:=av.lc af (by decide)
  refine bi ((D.ol l.length) - (k+1)) ⟨List.toArray ?l67,[]⟩ _ (by omega) ?_
  exact ⟨k+1,aZ,(fun i=>List.getD ?l67 i undef),rfl,rfl,(by omega),hfl,hds,hos,hrs,hsp,hcs,hch,hl,aV,hL,ah,ai,ae,af,aa,hB⟩
 have hek:(D.ol l.length)=k:=by have:=of_decide_eq_false aS;omega
 subst hek
 refine wp_exit ?_
 simp only [Exit.then,Exit.inBlock,↓reduceIte]
 refine a9 _ _ ?_
 refine wp_seq_k (fun cc bm=>rg [0] (sv 7 (.bool true) ?_))
 refine za0 (bm _ _ ?_)
 refine wp_ret ?_
 refine bodyPost_ret (v:=(.bool true)) (za3 rfl rfl) rfl ⟨?_,hB⟩
 exact (by rw [wk_done hlen hx hn hwt];exact ⟨_,rfl,aa,hlk_⟩)

theorem zJ7 {D:Ofr} {b:Bool} {co:Int} {B dk bl bd ba bo bs:Nat} {ds os rs sp cs ch vc vp:Value} (ok:D.Ok) (hBl:B≤bl) (ah:vc.oneCell'=true) (ai:vp.oneCell'=true):∀ g,WOK D b co vc vp B dk bl bd ba bo bs ds os rs sp cs ch g
 | 0=>fun l _ _ _ _ _ hg hv _ _ _ _ _ _ _ _ _ _ _ _ _=>absurd hv.1 (by omega)
 | g+1=>fun _ _ _ _ _ _ hg hv hm h0 aj hBw hL ae af ad ac aa hD hp hl=>zW5 ok (zJ7 ok hBl ah ai g) hBl ah ai hg hv hm h0 aj hBw hL ae af ad ac aa hD hp hl
end Go.Proofs.YtjhflekncldflaaGreatDoor
namespace Go.Proofs.YtjhflekncldflaaGreatDoor
set_option maxRecDepth 100000
set_option maxHeartbeats 4000000
open Go.RowKit

def zO0 (D:Ofr) (ds os rs:Value) (w0:World):Prop:=∀ w,Gr w0 w→Calls Tryz.prog 46 #[.agg #[ds,os,rs]] w fun e w'=>(∃ dk sp cs ch,e=.returned (.tuple #[.pointer (some ⟨dk,0,none⟩),.int .i64 0])∧Lc w' dk #[ds,os,rs,sp,cs,ch] 158∧w.heap.size≤dk∧Dsk w' D ds os rs sp cs ch)∧Gr w w'
theorem zC6 {w:World}:Sl EI64 3 1 w (sN) (tb (fun z1=>((Ofr.at_ [] z1:Nat):Int)) ([]:List Nat).length):=Sl.nil _ _ _ _ none 0
theorem sl_nil1 {w:World}:Sl EI64 3 1 w (sN) (zt7 []):=Sl.nil _ _ _ _ none 0
theorem zO1 {D:Ofr}:D.vp []:=⟨Nat.zero_le _,fun i h=>by simp at h⟩
theorem zJ8 {D:Ofr} {ds os rs:Value} (ok:D.Ok) {w:World} (hm:Mx w) (ht:Tab w) (_h1ds:ds.oneCell'=true) (_h1os:os.oneCell'=true) (_h1rs:rs.oneCell'=true) (hop:zO0 D ds os rs w):
    Calls Tryz.prog 20 #[.agg #[ds,os,rs]] w fun e w'=>(∃ vc vp,e=.returned (.tuple #[.agg #[.bool D.best.ok,vc,iT D.best.co,vp],iT 0])∧Sl EI64 3 1 w' vc (zt7 D.best.ch)∧Sl ELf 108 4 w' vp (D.leaves D.best (D.n+1) []))∧Gr w w':=by
 go_enter Tryz.func20,Tryz.ntmps20
 have hB:=Gr.refl w
 refine wp_seq_k (fun cg bt=>rg [0,1,2] ?_)
 refine se ?_
 refine eb 26 #[ds,os,rs] 1 hB fun aI bS b1 aj bJ cb hB=>?_
 simp only [p3,p4]
 refine se ?_
 refine ea 43 #[.bool false,sN,iT 0,sN] 2 hB fun bM bI bl ar b7 bA hB=>?_
 simp only [p3,p4]
 refine sv 3 (iT 0) (za0 (bt _ _ ?_))
 refine wp_seq_k (fun bH bi=>rg [0,1,2,3,4,5,6,7] ?_)
 replace aj:=aj.gr bl
 refine sw 10 (.agg #[ds,os,rs]) rfl (rl 26 0 [ds,os,rs] aj) ?_
 refine se ?_
 refine ec 11 (hop _ hB) ?_
 rintro bT b3 ⟨⟨aG,bG,bn,bo,rfl,aw,b4,aD⟩,bb⟩
 refine ⟨_,rfl,?_⟩
 replace hB:=hB.trans bb
 have ak:=aD.ds
 have ai:=aD.os
 have al:=aD.rs
 have aq:=aD.sp
 have ap:=aD.cs
 have ah:=aD.ch
 simp only [p3,p4]
 refine sv 9 (.tuple #[pT aG 0,iT 0]) ?_
 refine sv 12 (pT aG 0) ?_
 refine sv 13 (iT 0) ?_
 refine se ?_
 refine ze9 118 (.pointer none) #[.pointer none] (some 4) rfl rfl (by kernel_rfl) rfl (fun aH bV au az a2=>?_)
 replace aj:=aj.gr bb
 have aR:=aj.ne a2
 replace ar:=ar.gr bb
 have aS:=ar.ne a2
 have aV:=aw.ne a2
 have ac:=a2
 replace a2:=Nat.le_trans (Below.size hB) a2
 replace hB:=hB.trans au
 simp only [zd0,p3,p4]
 refine se ?_
 refine es 118 0 (pT aG 0) [pT aG 0] #[pT aG 0] az hB a2 ⟨rfl,trivial⟩ fun cc aa bC az hB=>?_
 refine sv 5 (iT 0) (za0 (bi _ _ ?_))
 refine wp_seq_k (fun bZ bv=>wp_seq_k (fun cd br=>rg [0,1] (sv 14 (iT 0) ?_)))
 refine sv 15 (.bool false) (za0 (br _ _ ?_))
 refine wp_cond_false rfl ?_
 refine wp_skip ?_
 refine bv _ _ ?_
 refine wp_seq_k (fun b0 bk=>rg [0] ?_)
 refine se ?_
 refine ea 43 #[.bool false,sN,iT 0,sN] 6 hB fun aJ bP av ba bp bh hB=>?_
 replace aj:=aa.lc (aj.gr au) aR
 replace ar:=aa.lc (ar.gr au) aS
 have ay:=ar.ne bp
 replace aw:=aa.lc (aw.gr au) aV
 simp only [p3,p4]
 refine za0 (bk _ _ ?_)
 refine wp_seq_k (fun bQ bu=>rg [0] ?_)
 refine se ?_
 refine ze9 128 .nilFunc #[.nilFunc] (some 7) rfl rfl (by kernel_rfl) rfl (fun a4 bY aF a9 aU=>?_)
 replace aj:=aj.gr av
 have aM:=aj.ne aU
 replace ar:=ar.gr av
 have aY:=ar.ne aU
 replace aw:=aw.gr av
 have aK:=aw.ne aU
 replace az:=az.gr av
 have aL:=az.ne aU
 have aN:=ba.ne aU
 have aC:=aU
 replace aU:=Nat.le_trans (Below.size hB) aU
 replace hB:=hB.trans aF
 simp only [zd0,p3,p4]
 refine za0 (bu _ _ ?_)
 refine wp_seq_k (fun b2 bF=>rg [0,1] (sv 18 (.func (.func 52) #[] #[pT aJ 0,pT aH 0,pT aI 0,pT a4 0]) ?_))
 refine se ?_
 refine es 128 0 (.func (.func 52) #[] #[pT aJ 0,pT aH 0,pT aI 0,pT a4 0]) [(.func (.func 52) #[] #[pT aJ 0,pT aH 0,pT aI 0,pT a4 0])] #[(.func (.func 52) #[] #[pT aJ 0,pT aH 0,pT aI 0,pT a4 0])] a9 hB aU ⟨rfl,trivial⟩ fun b8 af bw a9 hB=>?_
 refine za0 (bF _ _ ?_)
 refine wp_seq_k (fun bK bB=>rg [0,1] ?_)
 refine sw 19 (.func (.func 52) #[] #[pT aJ 0,pT aH 0,pT aI 0,pT a4 0]) rfl (rk 128 0 a9) ?_
 refine se ?_
 replace aw:=af.lc (aw.gr aF) aK
 replace az:=af.lc (az.gr aF) aL
 replace aj:=af.lc (aj.gr aF) aM
 replace ba:=af.lc (ba.gr aF) aN
 replace ak:=ak.gr zb9 (af.gr (((aa.gr au ac).trans av).trans aF) (Nat.le_trans (Below.size ((aa.gr au ac).trans av)) aC))
 replace ai:=ai.gr (za1 za4 68 3) (af.gr (((aa.gr au ac).trans av).trans aF) (Nat.le_trans (Below.size ((aa.gr au ac).trans av)) aC))
 replace al:=al.gr zc0 (af.gr (((aa.gr au ac).trans av).trans aF) (Nat.le_trans (Below.size ((aa.gr au ac).trans av)) aC))
 replace aq:=aq.gr (za1 (za1 (zb0 64) 124 8) 162 1) (af.gr (((aa.gr au ac).trans av).trans aF) (Nat.le_trans (Below.size ((aa.gr au ac).trans av)) aC))
 replace ap:=ap.gr (za6 64) (af.gr (((aa.gr au ac).trans av).trans aF) (Nat.le_trans (Below.size ((aa.gr au ac).trans av)) aC))
 replace ah:=ah.gr za2 (af.gr (((aa.gr au ac).trans av).trans aF) (Nat.le_trans (Below.size ((aa.gr au ac).trans av)) aC))
 refine zh9 (some 20) rfl (by kernel_rfl) (zF8 (B:=w.heap.size) ok bh (D.n+1) [] ⟨false,[],0⟩ w _ _ _ (by simp) zO1 hm hB (Nat.le_refl _) aw az aj a9 ba ⟨ak,ai,al,aq,ap,ah⟩ sl_nil1 zC6) ?_
 rintro b6 cf ⟨⟨aA,rfl,aT,aX⟩,ae⟩
 refine ⟨_,rfl,?_⟩
 replace hB:=ae.below _ hB (Nat.le_refl _)
 simp only [zd0,p3,p4]
 refine za0 (bB _ _ ?_)
 refine wp_seq_k (fun bL bq=>rg [0] ?_)
 refine se ?_
 refine ze9 128 .nilFunc #[.nilFunc] (some 8) rfl rfl (by kernel_rfl) rfl (fun a5 bO aE a7 a1=>?_)
 replace aj:=ae.lc aj (by decide)
 have aQ:=aj.ne a1
 replace ar:=ae.lcn (af.lc (ar.gr aF) aY) ay
 have aO:=ar.ne a1
 replace aw:=ae.lc aw (by decide)
 have a0:=aw.ne a1
 replace az:=ae.lc az (by decide)
 have aW:=az.ne a1
 have aP:=aT.ne a1
 replace a1:=Nat.le_trans (Below.size hB) a1
 replace hB:=hB.trans aE
 simp only [zd0,p3,p4]
 refine za0 (bq _ _ ?_)
 refine wp_seq_k (fun b5 bj=>rg [0,1] (sv 21 (.func (.func 54) #[] #[pT aH 0,pT aJ 0,pT aI 0,pT a5 0]) ?_))
 refine se ?_
 have ax:=a7
 refine es 128 0 (.func (.func 54) #[] #[pT aH 0,pT aJ 0,pT aI 0,pT a5 0]) [(.func (.func 54) #[] #[pT aH 0,pT aJ 0,pT aI 0,pT a5 0])] #[(.func (.func 54) #[] #[pT aH 0,pT aJ 0,pT aI 0,pT a5 0])] a7 hB a1 ⟨rfl,trivial⟩ fun bR ad bE a7 hB=>?_
 refine za0 (bj _ _ ?_)
 refine wp_seq_k (fun bX bm=>rg [0,1] ?_)
 refine sw 22 (.func (.func 54) #[] #[pT aH 0,pT aJ 0,pT aI 0,pT a5 0]) rfl (rk 128 0 a7) ?_
 refine se ?_
 replace aw:=ad.lc (aw.gr aE) a0
 replace az:=ad.lc (az.gr aE) aW
 replace aj:=ad.lc (aj.gr aE) aQ
 replace aT:=ad.lc (aT.gr aE) aP
 replace ak:=((ak.kts zb9 (ae.kts (by decide))).gr zb9 aE).kts zb9 (ad.kts ax (by decide))
 replace ai:=((ai.kts (za1 za4 68 3) (ae.kts (by decide))).gr (za1 za4 68 3) aE).kts (za1 za4 68 3) (ad.kts ax (by decide))
 replace al:=((al.kts zc0 (ae.kts (by decide))).gr zc0 aE).kts zc0 (ad.kts ax (by decide))
 replace aq:=((aq.kts (za1 (za1 (zb0 64) 124 8) 162 1) (ae.kts (by decide))).gr (za1 (za1 (zb0 64) 124 8) 162 1) aE).kts (za1 (za1 (zb0 64) 124 8) 162 1) (ad.kts ax (by decide))
 replace ap:=((ap.kts (za6 64) (ae.kts (by decide))).gr (za6 64) aE).kts (za6 64) (ad.kts ax (by decide))
 replace ah:=((ah.kts za2 (ae.kts (by decide))).gr za2 aE).kts za2 (ad.kts ax (by decide))
 refine zh9 (some 23) rfl (by kernel_rfl) (zN9 (B:=w.heap.size) ok (fun c hc=>(best_ok D).2 c hc) bh (D.n+1) [] [] w _ _ _ (by simp) zO1 hm ht hB (Nat.le_refl _) hB.size (by have:=pm_few ok;simp;omega) aw az aj a7 aT ⟨ak,ai,al,aq,ap,ah⟩ (Ow.nil _ _ _ _ _) zC6) ?_
 rintro bN bW ⟨⟨aB,rfl,bf,bg⟩,a3⟩
 refine ⟨_,rfl,?_⟩
 replace hB:=a3.below _ hB (Nat.le_refl _)
 have aZ:=bg.sl
 simp only [zd0,p3,p4]
 refine za0 (bm _ _ ?_)
 refine wp_seq_k (fun bU bs=>rg [0,1,2] ?_)
 refine sw 24 (.agg #[.bool (D.best.ok),aA,iT (D.best.co),aB]) rfl (rl 43 0 [.bool (D.best.ok),aA,iT (D.best.co),aB] bf) ?_
 refine se ?_
 replace ar:=a3.lcn (ad.lc (ar.gr aE) aO) ay
 have a8:=ar
 refine es 43 0 (.agg #[.bool (D.best.ok),aA,iT (D.best.co),aB]) [.bool (D.best.ok),aA,iT (D.best.co),aB] #[.bool (D.best.ok),aA,iT (D.best.co),aB] ar hB bA ⟨rfl,aX.one,rfl,aZ.one,trivial⟩ fun b9 a6 bD ar hB=>?_
 refine sv 3 (iT 0) (za0 (bs _ _ ?_))
 refine wp_ret ?_
 refine bodyPost_ret (v:=(.tuple #[.agg #[.bool (D.best.ok),aA,iT (D.best.co),aB],iT 0])) (zb8 _ _ _ rfl rfl ar (by kernel_rfl) rfl) rfl ⟨?_,hB⟩
 replace aX:=(((aX.gr za2 aE).kts za2 (ad.kts ax (by decide))).kts za2 (a3.kts (by decide))).kts za2 (a6.kts a8 (by decide))
 replace aZ:=aZ.kts zc6 (a6.kts a8 (by decide))
 exact ⟨_,_,rfl,aX,aZ⟩

end Go.Proofs.YtjhflekncldflaaGreatDoor
namespace Go.Proofs.YtjhflekncldflaaGreatDoor
open Go.RowKit
section
variable {D:Ofr} {b:Bool} {c:List Int} {co:Int} {pf:List Leaf}
theorem c_l (h:zt7 (zd5 c)=c):tb (fun z1=>(ca c z1)) c.length=tb (fun z1=>((Ofr.at_ (zd5 c) z1:Nat):Int)) (zd5 c).length:=by
 rw [zV3,h]
 exact list_tb
def Pass (D:Ofr) (b:Bool) (c:List Int) (co:Int):Prop:=(b=true∧D.ce c=0∧co=D.bd (zd5 c)∧(D.ff (zd5 c)).isSome=false)∨(b=false∧c=[]∧co=0)
theorem ver_ce (hb:b=true) (h:D.ce c≠0):D.ver ⟨b,c,co,pf⟩=D.ce c:=by
 unfold Ofr.ver;rw [if_pos (show b=true from hb),if_pos h]
theorem ver_17 (hb:b=true) (h:D.ce c=0) (h2:co≠D.bd (zd5 c)):D.ver ⟨b,c,co,pf⟩=17:=by
 unfold Ofr.ver;rw [if_pos (show b=true from hb),if_neg (fun e=>e h),if_pos h2]
theorem ver_35 (hb:b=true) (h:D.ce c=0) (h2:co=D.bd (zd5 c)) (h3:(fz D (zd5 c)).2≠0):D.ver ⟨b,c,co,pf⟩=35:=by
 unfold Ofr.ver;rw [if_pos (show b=true from hb),if_neg (fun e=>e h),if_neg (fun e=>e h2),if_pos (zp7.1 h3)]
theorem ver_3 (hb:b=false) (h:0<c.length∨co≠0):D.ver ⟨b,c,co,pf⟩=3:=by
 unfold Ofr.ver;rw [if_neg (show ¬ b=true by rw [hb];decide),if_pos]
 rcases h with h | h
 ·exact .inl (List.ne_nil_of_length_pos h)
 exact .inr h
theorem pass_t (hb:b=true) (h:D.ce c=0) (h2:co=D.bd (zd5 c)) (h3:(fz D (zd5 c)).2=0):Pass D b c co:=
 .inl ⟨hb,h,h2,by
  cases e:(D.ff (zd5 c)).isSome with
  | false=>rfl
  | true=>exact absurd h3 (zp7.2 e)⟩
theorem pass_f (hb:b=false) (h:¬ 0<c.length) (h2:co=0):Pass D b c co:=.inr ⟨hb,List.eq_nil_of_length_eq_zero (by omega),h2⟩
theorem zE5 (h:Pass D b c co):D.ver ⟨b,c,co,pf⟩=D.pe2 ⟨b,c,co,pf⟩:=by
 unfold Ofr.ver
 rcases h with ⟨h1,h2,h3,h4⟩ | ⟨h1,h2,h3⟩
 ·rw [if_pos (show b=true from h1),if_neg (fun e=>e h2),if_neg (fun e=>e h3),if_neg (by show ¬ (D.ff (zd5 c)).isSome=true;rw [h4];decide)]
 rw [if_neg (show ¬ b=true by rw [h1];decide),if_neg (fun e=>e.elim (fun h=>h h2) (fun h=>h h3))]
theorem ye6 (h:Pass D b c co) (h1:(D.walk b co (D.n+1) [] pf).1=false):D.ver ⟨b,c,co,pf⟩=27:=by
 rw [zE5 h];unfold Ofr.pe2
 exact if_neg fun e=>by have:=e.1;rw [show (D.walk b co (D.n+1) [] pf).1=true from this] at h1;cases h1
theorem ye7 (h:Pass D b c co) (h1:0<(D.walk b co (D.n+1) [] pf).2.length):D.ver ⟨b,c,co,pf⟩=27:=by
 rw [zE5 h];unfold Ofr.pe2
 exact if_neg fun e=>by have:=e.2;rw [show (D.walk b co (D.n+1) [] pf).2=[] from this] at h1;simp at h1
theorem ver_0 (h:Pass D b c co) (h1:(D.walk b co (D.n+1) [] pf).1=true) (h2:¬ 0<(D.walk b co (D.n+1) [] pf).2.length):D.ver ⟨b,c,co,pf⟩=0:=by
 rw [zE5 h];unfold Ofr.pe2
 exact if_pos ⟨h1,List.eq_nil_of_length_eq_zero (by show (D.walk b co (D.n+1) [] pf).2.length=0;omega)⟩
end
end Go.Proofs.YtjhflekncldflaaGreatDoor
namespace Go.Proofs.YtjhflekncldflaaGreatDoor
set_option maxRecDepth 100000
set_option maxHeartbeats 4000000
open Go.RowKit

theorem zR9 {D:Ofr} {ds os rs:Value} (ok:D.Ok) {w:World} (hm:Mx w) (_h1ds:ds.oneCell'=true) (_h1os:os.oneCell'=true) (_h1rs:rs.oneCell'=true) (hop:zO0 D ds os rs w) {b:Bool} {c:List Int} {co:Int} {pf:List Leaf} {vc:Value} {vpa:Option Addr} {vpn vpc:Nat} (hc:Sl EI64 3 1 w vc (tb (fun z1=>(ca c z1)) c.length)) (hp:Sl ELf 108 4 w (.slice vpa vpn vpc) pf):
    Calls Tryz.prog 21 #[.agg #[ds,os,rs],.agg #[.bool (b),vc,iT (co),.slice vpa vpn vpc]] w fun e w'=>e=.returned (iT (D.ver ⟨b,c,co,pf⟩))∧Gr w w':=by
 have n2:=ok.n2
 go_enter Tryz.func21,Tryz.ntmps21
 have hB:=Gr.refl w
 refine wp_seq_k (fun dS cz=>rg [0,1,2] ?_)
 refine se ?_
 refine eb 26 #[ds,os,rs] 2 hB fun aT dq aD aE de dM hB=>?_
 simp only [p3,p4]
 refine se ?_
 refine eb 43 #[.bool (b),vc,iT (co),.slice vpa vpn vpc] 3 hB fun aH cI az ar dF cZ hB=>?_
 simp only [p3,p4]
 refine sv 4 (iT 0) (za0 (cz _ _ ?_))
 refine wp_seq_k (fun cH cq=>rg [0,1,2,3,4,5,6,7] ?_)
 replace aE:=aE.gr az
 refine sw 13 (.agg #[ds,os,rs]) rfl (rl 26 0 [ds,os,rs] aE) ?_
 refine se ?_
 refine ec 14 (hop _ hB) ?_
 rintro dr cW ⟨⟨aI,cF,cw,b1,rfl,ay,dD,aR⟩,ax⟩
 refine ⟨_,rfl,?_⟩
 replace hB:=hB.trans ax
 have ah:=aR.ds
 have af:=aR.os
 have ai:=aR.rs
 have ak:=aR.sp
 have aj:=aR.cs
 have ae:=aR.ch
 simp only [p3,p4]
 refine sv 12 (.tuple #[pT aI 0,iT 0]) ?_
 refine sv 15 (pT aI 0) ?_
 refine sv 16 (iT 0) ?_
 refine se ?_
 refine ze9 118 (.pointer none) #[.pointer none] (some 5) rfl rfl (by kernel_rfl) rfl (fun aS dw ad aC br=>?_)
 replace aE:=aE.gr ax
 have aQ:=aE.ne br
 replace ar:=ar.gr ax
 have a2:=ar.ne br
 have aP:=ay.ne br
 have ac:=br
 replace br:=Nat.le_trans (Below.size hB) br
 replace hB:=hB.trans ad
 simp only [zd0,p3,p4]
 refine se ?_
 refine es 118 0 (pT aI 0) [pT aI 0] #[pT aI 0] aC hB br ⟨rfl,trivial⟩ fun da aa cB aC hB=>?_
 refine sv 6 (iT 0) (za0 (cq _ _ ?_))
 refine wp_seq_k (fun cT cA=>wp_seq_k (fun dP b5=>rg [0,1] (sv 17 (iT 0) ?_)))
 refine sv 18 (.bool false) (za0 (b5 _ _ ?_))
 refine wp_cond_false rfl ?_
 refine wp_skip ?_
 refine cA _ _ ?_
 refine wp_seq_k (fun cU bP=>wp_seq_k (fun c9 bY=>rg [0,1] (sv 20 (pT aH 0) ?_)))
 replace ar:=aa.lc (ar.gr ad) a2
 refine sw 21 (.bool (b)) rfl (rk 4 0 ar) ?_
 refine za0 (bY _ _ ?_)
 refine wp_cond_split rfl (fun bo=>?_) (fun bo=>?_)
 ·have hbt:=bo
  refine wp_seq_k (fun cJ b4=>wp_seq_k (fun cV cm=>rg [0,1,2,3,4] ?_))
  refine sw 22 (pT aI 0) rfl (rk 118 0 aC) ?_
  refine sv 23 (pT aH 1) ?_
  refine sw 24 vc rfl (rk 40 1 ar) ?_
  refine se ?_
  replace ay:=aa.lc (ay.gr ad) aP
  replace ah:=ah.gr zb9 (aa.gr ad ac)
  replace af:=af.gr (za1 za4 68 3) (aa.gr ad ac)
  replace ai:=ai.gr zc0 (aa.gr ad ac)
  replace ak:=ak.gr (za1 (za1 (zb0 64) 124 8) 162 1) (aa.gr ad ac)
  replace aj:=aj.gr (za6 64) (aa.gr ad ac)
  replace ae:=ae.gr za2 (aa.gr ad ac)
  replace hc:=hc.gr za2 (aa.gr (((aD.trans az).trans ax).trans ad) (Nat.le_trans (Below.size ((aD.trans az).trans ax)) ac))
  refine ec 25 (zl2 ok ay (⟨ah,af,ai,ak,aj,ae⟩:Dsk _ D _ _ _ _ _ _) hc) ?_
  rintro c8 cg ⟨rfl,aM⟩
  refine ⟨_,rfl,?_⟩
  replace hB:=hB.trans aM
  simp only [p3,p4]
  refine sv 7 (iT (D.ce c)) (za0 (cm _ _ ?_))
  refine wp_seq_k (fun df cd=>rg [0,1] (sv 26 (iT (D.ce c)) ?_))
  refine sv 27 (.bool (D.ce c !=(0:Int))) (za0 (cd _ _ ?_))
  refine wp_cond_split rfl (fun bl=>?_) (fun bl=>?_)
  ·have hz:D.ce c≠0:=by simpa using bl
   refine wp_seq_k (fun dh cx=>rg [0,1] (sv 28 (iT (D.ce c)) ?_))
   refine sv 4 (iT (D.ce c)) (za0 (cx _ _ ?_))
   refine wp_ret ?_
   simp only [Exit.then]
   refine bodyPost_ret (v:=(iT (D.ce c))) (za3 rfl rfl) rfl ⟨?_,hB⟩
   exact (by rw [ver_ce hbt hz])
  have hz:D.ce c=0:=by simpa using bl
  have hce:=zA1 hz
  refine wp_skip ?_
  refine b4 _ _ ?_
  refine wp_seq_k (fun cK b3=>wp_seq_k (fun c4 ct=>?_))
  have av:=Gr.drew cg
  replace hB:=hB.trans av
  replace ar:=ar.gr (aM.trans av)
  replace aC:=aC.gr (aM.trans av)
  refine za5 (fun w'=>Lc w' aH #[.bool (b),vc,iT (co),.slice vpa vpn vpc] 43∧Lc w' aS #[pT aI 0] 118) [(true,0),(true,1),(true,2),(true,3),(true,4),(false,5),(true,6)] (by kernel_rfl) (by kernel_rfl) (by kernel_rfl) (by decide) (fun _ _ _ _ _ h=>h) ⟨ar,aC⟩ ?_
  refine ov 29 (pT aH 2) ?_
  refine ow 30 (iT (co)) rfl (fun w' hS=>(rk 3 2 hS.1)) ?_
  refine ow 31 (pT aI 0) rfl (fun w' hS=>(rk 118 0 hS.2)) ?_
  refine ov 32 (pT aH 1) ?_
  refine ow 33 vc rfl (fun w' hS=>(rk 40 1 hS.1)) ?_
  refine oe ?_
  replace ay:=ay.gr (aM.trans av)
  replace ah:=ah.gr zb9 (aM.trans av)
  replace af:=af.gr (za1 za4 68 3) (aM.trans av)
  replace ai:=ai.gr zc0 (aM.trans av)
  replace ak:=ak.gr (za1 (za1 (zb0 64) 124 8) 162 1) (aM.trans av)
  replace aj:=aj.gr (za6 64) (aM.trans av)
  replace ae:=ae.gr za2 (aM.trans av)
  replace hc:=hc.gr za2 (aM.trans av)
  refine ec 34 (zj1 ok ay (⟨ah,af,ai,ak,aj,ae⟩:Dsk _ D _ _ _ _ _ _) hce.1 (hc.cast (c_l hce.2.1))) ?_
  rintro cQ dt ⟨rfl,aL⟩
  refine ⟨_,rfl,?_⟩
  replace hB:=hB.trans aL
  replace ar:=ar.gr aL
  replace aC:=aC.gr aL
  refine ⟨⟨ar,aC⟩,?_⟩
  simp only [p3,p4]
  refine ov 35 (.bool (co !=D.bd (zd5 c))) ?_
  refine zb4 ?_
  refine ct _ _ ?_
  refine wp_cond_split rfl (fun bp=>?_) (fun bp=>?_)
  ·have bD:co≠D.bd (zd5 c):=by simpa using bp
   refine wp_seq_k (fun dO cy=>rg [0] (sv 4 (iT 17) ?_))
   refine za0 (cy _ _ ?_)
   refine wp_ret ?_
   simp only [Exit.then]
   refine bodyPost_ret (v:=(iT 17)) (za3 rfl rfl) rfl ⟨?_,hB⟩
   exact (by rw [ver_17 hbt hz bD])
  have bD:co=D.bd (zd5 c):=by simpa using bp
  refine wp_skip ?_
  refine b3 _ _ ?_
  refine wp_seq_k (fun dA cu=>rg [0,1,2,3,4,5,6,7,8] ?_)
  refine sw 37 (pT aI 0) rfl (rk 118 0 aC) ?_
  refine sv 38 (pT aH 1) ?_
  refine sw 39 vc rfl (rk 40 1 ar) ?_
  refine se ?_
  replace ay:=ay.gr aL
  replace ah:=ah.gr zb9 aL
  replace af:=af.gr (za1 za4 68 3) aL
  replace ai:=ai.gr zc0 aL
  replace ak:=ak.gr (za1 (za1 (zb0 64) 124 8) 162 1) aL
  replace aj:=aj.gr (za6 64) aL
  replace ae:=ae.gr za2 aL
  replace hc:=hc.gr za2 aL
  refine ec 40 (zn8 ok ay (⟨ah,af,ai,ak,aj,ae⟩:Dsk _ D _ _ _ _ _ _) (hm.gr hB) hce.1 (hc.cast (c_l hce.2.1))) ?_
  rintro dv dL ⟨rfl,aq⟩
  refine ⟨_,rfl,?_⟩
  replace hB:=hB.trans aq
  simp only [p3,p4]
  refine sv 36 (.tuple #[iT ((fz D (zd5 c)).1),iT ((fz D (zd5 c)).2)]) ?_
  refine sv 41 (iT ((fz D (zd5 c)).1)) ?_
  refine sv 42 (iT ((fz D (zd5 c)).2)) ?_
  refine sv 8 (iT ((fz D (zd5 c)).1)) ?_
  refine sv 9 (iT ((fz D (zd5 c)).2)) (za0 (cu _ _ ?_))
  refine wp_seq_k (fun dz b6=>rg [0,1] (sv 43 (iT ((fz D (zd5 c)).2)) ?_))
  refine sv 44 (.bool ((fz D (zd5 c)).2 !=(0:Int))) (za0 (b6 _ _ ?_))
  refine wp_cond_split rfl (fun bm=>?_) (fun bm=>?_)
  ·have bL:(fz D (zd5 c)).2≠0:=by simpa using bm
   refine wp_seq_k (fun dx cC=>rg [0] (sv 4 (iT 35) ?_))
   refine za0 (cC _ _ ?_)
   refine wp_ret ?_
   simp only [Exit.then]
   refine bodyPost_ret (v:=(iT 35)) (za3 rfl rfl) rfl ⟨?_,hB⟩
   exact (by rw [ver_35 hbt hz bD bL])
  have bL:(fz D (zd5 c)).2=0:=by simpa using bm
  have hps:=pass_t (D:=D) hbt hz bD bL
  refine wp_skip ?_
  refine bP _ _ ?_
  refine wp_seq_k (fun dN bW=>rg [0,1,2,3] (sv 54 (pT aH 3) ?_))
  replace ar:=ar.gr aq
  refine sw 55 (.slice vpa vpn vpc) rfl (rk 41 3 ar) ?_
  refine se ?_
  refine ze9 41 (sN) #[sN] (some 10) rfl rfl (by kernel_rfl) rfl (fun bC db aG bu a5=>?_)
  replace aE:=(aa.lc (aE.gr ad) aQ).gr (aM.trans (av.trans (aL.trans aq)))
  have aX:=aE.ne a5
  have ba:=ar.ne a5
  replace ay:=ay.gr aq
  have aV:=ay.ne a5
  replace aC:=aC.gr aq
  have a7:=aC.ne a5
  have au:=a5
  replace a5:=Nat.le_trans (Below.size hB) a5
  replace hB:=hB.trans aG
  simp only [zd0,p3,p4]
  refine se ?_
  refine es 41 0 (.slice vpa vpn vpc) [.slice vpa vpn vpc] #[.slice vpa vpn vpc] bu hB a5 ⟨rfl,trivial⟩ fun c6 ap cD bu hB=>?_
  refine za0 (bW _ _ ?_)
  refine wp_seq_k (fun c7 ck=>rg [0] ?_)
  refine se ?_
  refine ze9 132 .nilFunc #[.nilFunc] (some 11) rfl rfl (by kernel_rfl) rfl (fun bB cM aO bE bf=>?_)
  replace aE:=ap.lc (aE.gr aG) aX
  have bi:=aE.ne bf
  replace ar:=ap.lc (ar.gr aG) ba
  have a8:=ar.ne bf
  replace ay:=ap.lc (ay.gr aG) aV
  have bb:=ay.ne bf
  replace aC:=ap.lc (aC.gr aG) a7
  have aY:=aC.ne bf
  have aU:=bu.ne bf
  have aJ:=bf
  replace bf:=Nat.le_trans (Below.size hB) bf
  replace hB:=hB.trans aO
  simp only [zd0,p3,p4]
  refine za0 (ck _ _ ?_)
  refine wp_seq_k (fun dH b8=>rg [0,1] (sv 56 (.func (.func 57) #[] #[pT bC 0,pT aS 0,pT aH 0,pT aT 0,pT bB 0]) ?_))
  refine se ?_
  refine es 132 0 (.func (.func 57) #[] #[pT bC 0,pT aS 0,pT aH 0,pT aT 0,pT bB 0]) [(.func (.func 57) #[] #[pT bC 0,pT aS 0,pT aH 0,pT aT 0,pT bB 0])] #[(.func (.func 57) #[] #[pT bC 0,pT aS 0,pT aH 0,pT aT 0,pT bB 0])] bE hB bf ⟨rfl,trivial⟩ fun dd aA cE bE hB=>?_
  refine za0 (b8 _ _ ?_)
  refine wp_seq_k (fun dc cG=>wp_seq_k (fun cX bR=>rg [0,1,2,3,4,5,6,7] ?_))
  refine sw 57 (.func (.func 57) #[] #[pT bC 0,pT aS 0,pT aH 0,pT aT 0,pT bB 0]) rfl (rk 132 0 bE) ?_
  refine se ?_
  replace hc:=hc.gr za2 (aA.gr ((ap.gr (aq.trans aG) (Nat.le_trans (Below.size aq) au)).trans aO) (Nat.le_trans (Below.size (ap.gr (aq.trans aG) (Nat.le_trans (Below.size aq) au))) aJ))
  replace hp:=hp.gr zc6 (aA.gr ((ap.gr ((((((aa.gr (((aD.trans az).trans ax).trans ad) (Nat.le_trans (Below.size ((aD.trans az).trans ax)) ac)).trans aM).trans av).trans aL).trans aq).trans aG) (Nat.le_trans (Below.size (((((aa.gr (((aD.trans az).trans ax).trans ad) (Nat.le_trans (Below.size ((aD.trans az).trans ax)) ac)).trans aM).trans av).trans aL).trans aq)) au)).trans aO) (Nat.le_trans (Below.size (ap.gr ((((((aa.gr (((aD.trans az).trans ax).trans ad) (Nat.le_trans (Below.size ((aD.trans az).trans ax)) ac)).trans aM).trans av).trans aL).trans aq).trans aG) (Nat.le_trans (Below.size (((((aa.gr (((aD.trans az).trans ax).trans ad) (Nat.le_trans (Below.size ((aD.trans az).trans ax)) ac)).trans aM).trans av).trans aL).trans aq)) au))) aJ))
  replace ay:=aA.lc (ay.gr aO) bb
  replace aC:=aA.lc (aC.gr aO) aY
  replace aE:=aA.lc (aE.gr aO) bi
  replace ar:=aA.lc (ar.gr aO) a8
  replace bu:=aA.lc (bu.gr aO) aU
  replace ah:=ah.gr zb9 (aA.gr ((ap.gr (aq.trans aG) (Nat.le_trans (Below.size aq) au)).trans aO) (Nat.le_trans (Below.size (ap.gr (aq.trans aG) (Nat.le_trans (Below.size aq) au))) aJ))
  replace af:=af.gr (za1 za4 68 3) (aA.gr ((ap.gr (aq.trans aG) (Nat.le_trans (Below.size aq) au)).trans aO) (Nat.le_trans (Below.size (ap.gr (aq.trans aG) (Nat.le_trans (Below.size aq) au))) aJ))
  replace ai:=ai.gr zc0 (aA.gr ((ap.gr (aq.trans aG) (Nat.le_trans (Below.size aq) au)).trans aO) (Nat.le_trans (Below.size (ap.gr (aq.trans aG) (Nat.le_trans (Below.size aq) au))) aJ))
  replace ak:=ak.gr (za1 (za1 (zb0 64) 124 8) 162 1) (aA.gr ((ap.gr (aq.trans aG) (Nat.le_trans (Below.size aq) au)).trans aO) (Nat.le_trans (Below.size (ap.gr (aq.trans aG) (Nat.le_trans (Below.size aq) au))) aJ))
  replace aj:=aj.gr (za6 64) (aA.gr ((ap.gr (aq.trans aG) (Nat.le_trans (Below.size aq) au)).trans aO) (Nat.le_trans (Below.size (ap.gr (aq.trans aG) (Nat.le_trans (Below.size aq) au))) aJ))
  replace ae:=ae.gr za2 (aA.gr ((ap.gr (aq.trans aG) (Nat.le_trans (Below.size aq) au)).trans aO) (Nat.le_trans (Below.size (ap.gr (aq.trans aG) (Nat.le_trans (Below.size aq) au))) aJ))
  refine zh9 (some 58) rfl (by kernel_rfl) (zJ7 (B:=w.heap.size) ok a5 hc.one hp.one (D.n+1) [] pf w _ _ _ (by simp) zO1 hm hB (Nat.le_refl _) hB.size ay aC aE bE ar bu ⟨ah,af,ai,ak,aj,ae⟩ hp zC6) ?_
  rintro di dR ⟨⟨bO,rfl,bK,bG⟩,bH⟩
  refine ⟨_,rfl,?_⟩
  replace hB:=bH.below _ hB (Nat.le_refl _)
  simp only [zd0,p3,p4]
  refine sv 59 (.bool (!((D.walk b co (D.n+1) [] pf).1))) ?_
  rcases Bool.eq_false_or_eq_true (!((D.walk b co (D.n+1) [] pf).1)) with hb53 | hb53
  ·have bn:=zW3 hb53
   refine swk 60 (.bool true) [(4,61),(5,62),(6,63)] rfl (RunV.bool (x:=!((D.walk b co (D.n+1) [] pf).1)) (rvk (by kernel_rfl)) hb53) ?_
   refine sv 64 (.bool true) (za0 (bR _ _ ?_))
   refine wp_cond_true rfl ?_
   refine wp_seq_k (fun cL b7=>rg [0] (sv 4 (iT 27) ?_))
   refine za0 (b7 _ _ ?_)
   refine wp_ret ?_
   simp only [Exit.then]
   refine bodyPost_ret (v:=(iT 27)) (za3 rfl rfl) rfl ⟨?_,hB⟩
   exact (by rw [ye6 hps bn])
  have bn:=zW4 hb53
  refine sw 60 (.bool false) rfl (RunV.bool (x:=!((D.walk b co (D.n+1) [] pf).1)) (rvk (by kernel_rfl)) hb53) ?_
  refine sw 61 bO rfl (rk 41 0 bK) ?_
  refine sw 62 (iT (((D.walk b co (D.n+1) [] pf).2).length:Int)) rfl (zB6 (e:=108) bG _ _ rfl rfl (by kernel_rfl)) ?_
  refine sv 63 (.bool (decide ((0:Int)<(((D.walk b co (D.n+1) [] pf).2).length:Int)))) ?_
  refine sv 64 (.bool (decide ((0:Int)<(((D.walk b co (D.n+1) [] pf).2).length:Int)))) (za0 (bR _ _ ?_))
  refine wp_cond_split rfl (fun bs=>?_) (fun bs=>?_)
  ·have bk:0<(D.walk b co (D.n+1) [] pf).2.length:=by have:=of_decide_eq_true bs;omega
   refine wp_seq_k (fun cS cb=>rg [0] (sv 4 (iT 27) ?_))
   refine za0 (cb _ _ ?_)
   refine wp_ret ?_
   simp only [Exit.then]
   refine bodyPost_ret (v:=(iT 27)) (za3 rfl rfl) rfl ⟨?_,hB⟩
   exact (by rw [ye7 hps bk])
  have bk:¬ 0<(D.walk b co (D.n+1) [] pf).2.length:=by have:=of_decide_eq_false bs;omega
  refine wp_skip ?_
  refine cG _ _ ?_
  refine wp_seq_k (fun dK b9=>rg [0] (sv 4 (iT 0) ?_))
  refine za0 (b9 _ _ ?_)
  refine wp_ret ?_
  refine bodyPost_ret (v:=(iT 0)) (za3 rfl rfl) rfl ⟨?_,hB⟩
  exact (by rw [ver_0 hps bn bk])
 have hbf:=bo
 refine wp_seq_k (fun dB bS=>rg [0,1,2,3,4,5,6,7,8] (sv 45 (pT aH 1) ?_))
 refine sw 46 vc rfl (rk 40 1 ar) ?_
 refine sw 47 (iT ((c.length:Nat):Int)) rfl (za9 (e:=3) hc (za8 rfl) _ _ rfl rfl (by kernel_rfl)) ?_
 refine sv 48 (.bool (decide ((0:Int)<((c.length:Nat):Int)))) ?_
 rcases Bool.eq_false_or_eq_true (decide ((0:Int)<((c.length:Nat):Int))) with hb59 | hb59
 ·have h3:0<c.length∨co≠0:=.inl (by have:=of_decide_eq_true hb59;omega)
  refine swk 49 (.bool true) [(5,50),(6,51),(7,52)] rfl (RunV.bool (x:=decide ((0:Int)<((c.length:Nat):Int))) (rvk (by kernel_rfl)) hb59) ?_
  refine sv 53 (.bool true) (za0 (bS _ _ ?_))
  refine wp_cond_true rfl ?_
  refine wp_seq_k (fun c5 cf=>rg [0] (sv 4 (iT 3) ?_))
  refine za0 (cf _ _ ?_)
  refine wp_ret ?_
  simp only [Exit.then]
  refine bodyPost_ret (v:=(iT 3)) (za3 rfl rfl) rfl ⟨?_,hB⟩
  exact (by rw [ver_3 hbf h3])
 have cp:¬ 0<c.length:=by have:=of_decide_eq_false hb59;omega
 refine sw 49 (.bool false) rfl (RunV.bool (x:=decide ((0:Int)<((c.length:Nat):Int))) (rvk (by kernel_rfl)) hb59) ?_
 refine sv 50 (pT aH 2) ?_
 refine sw 51 (iT (co)) rfl (rk 3 2 ar) ?_
 refine sv 52 (.bool (co !=(0:Int))) ?_
 refine sv 53 (.bool (co !=(0:Int))) (za0 (bS _ _ ?_))
 refine wp_cond_split rfl (fun bt=>?_) (fun bt=>?_)
 ·have h3:0<c.length∨co≠0:=.inr (by simpa using bt)
  refine wp_seq_k (fun cR cl=>rg [0] (sv 4 (iT 3) ?_))
  refine za0 (cl _ _ ?_)
  refine wp_ret ?_
  simp only [Exit.then]
  refine bodyPost_ret (v:=(iT 3)) (za3 rfl rfl) rfl ⟨?_,hB⟩
  exact (by rw [ver_3 hbf h3])
 have b0:co=0:=by simpa using bt
 have hps:=pass_f (D:=D) hbf cp b0
 refine wp_skip ?_
 refine bP _ _ ?_
 refine wp_seq_k (fun dk cc=>rg [0,1,2,3] (sv 54 (pT aH 3) ?_))
 refine sw 55 (.slice vpa vpn vpc) rfl (rk 41 3 ar) ?_
 refine se ?_
 refine ze9 41 (sN) #[sN] (some 10) rfl rfl (by kernel_rfl) rfl (fun bw dJ aF bv aZ=>?_)
 replace aE:=aa.lc (aE.gr ad) aQ
 have a6:=aE.ne aZ
 have a9:=ar.ne aZ
 replace ay:=aa.lc (ay.gr ad) aP
 have aW:=ay.ne aZ
 have a1:=aC.ne aZ
 have aw:=aZ
 replace aZ:=Nat.le_trans (Below.size hB) aZ
 replace hB:=hB.trans aF
 simp only [zd0,p3,p4]
 refine se ?_
 refine es 41 0 (.slice vpa vpn vpc) [.slice vpa vpn vpc] #[.slice vpa vpn vpc] bv hB aZ ⟨rfl,trivial⟩ fun dj al bT bv hB=>?_
 refine za0 (cc _ _ ?_)
 refine wp_seq_k (fun cP bV=>rg [0] ?_)
 refine se ?_
 refine ze9 132 .nilFunc #[.nilFunc] (some 11) rfl rfl (by kernel_rfl) rfl (fun bA dQ aN bF a3=>?_)
 replace aE:=al.lc (aE.gr aF) a6
 have bh:=aE.ne a3
 replace ar:=al.lc (ar.gr aF) a9
 have a0:=ar.ne a3
 replace ay:=al.lc (ay.gr aF) aW
 have bj:=ay.ne a3
 replace aC:=al.lc (aC.gr aF) a1
 have bg:=aC.ne a3
 have a4:=bv.ne a3
 have aK:=a3
 replace a3:=Nat.le_trans (Below.size hB) a3
 replace hB:=hB.trans aN
 simp only [zd0,p3,p4]
 refine za0 (bV _ _ ?_)
 refine wp_seq_k (fun dE bZ=>rg [0,1] (sv 56 (.func (.func 57) #[] #[pT bw 0,pT aS 0,pT aH 0,pT aT 0,pT bA 0]) ?_))
 refine se ?_
 refine es 132 0 (.func (.func 57) #[] #[pT bw 0,pT aS 0,pT aH 0,pT aT 0,pT bA 0]) [(.func (.func 57) #[] #[pT bw 0,pT aS 0,pT aH 0,pT aT 0,pT bA 0])] #[(.func (.func 57) #[] #[pT bw 0,pT aS 0,pT aH 0,pT aT 0,pT bA 0])] bF hB a3 ⟨rfl,trivial⟩ fun dp aB bU bF hB=>?_
 refine za0 (bZ _ _ ?_)
 refine wp_seq_k (fun dI bX=>wp_seq_k (fun cN bQ=>rg [0,1,2,3,4,5,6,7] ?_))
 refine sw 57 (.func (.func 57) #[] #[pT bw 0,pT aS 0,pT aH 0,pT aT 0,pT bA 0]) rfl (rk 132 0 bF) ?_
 refine se ?_
 replace hc:=hc.gr za2 (aB.gr ((al.gr ((aa.gr (((aD.trans az).trans ax).trans ad) (Nat.le_trans (Below.size ((aD.trans az).trans ax)) ac)).trans aF) (Nat.le_trans (Below.size (aa.gr (((aD.trans az).trans ax).trans ad) (Nat.le_trans (Below.size ((aD.trans az).trans ax)) ac))) aw)).trans aN) (Nat.le_trans (Below.size (al.gr ((aa.gr (((aD.trans az).trans ax).trans ad) (Nat.le_trans (Below.size ((aD.trans az).trans ax)) ac)).trans aF) (Nat.le_trans (Below.size (aa.gr (((aD.trans az).trans ax).trans ad) (Nat.le_trans (Below.size ((aD.trans az).trans ax)) ac))) aw))) aK))
 replace hp:=hp.gr zc6 (aB.gr ((al.gr ((aa.gr (((aD.trans az).trans ax).trans ad) (Nat.le_trans (Below.size ((aD.trans az).trans ax)) ac)).trans aF) (Nat.le_trans (Below.size (aa.gr (((aD.trans az).trans ax).trans ad) (Nat.le_trans (Below.size ((aD.trans az).trans ax)) ac))) aw)).trans aN) (Nat.le_trans (Below.size (al.gr ((aa.gr (((aD.trans az).trans ax).trans ad) (Nat.le_trans (Below.size ((aD.trans az).trans ax)) ac)).trans aF) (Nat.le_trans (Below.size (aa.gr (((aD.trans az).trans ax).trans ad) (Nat.le_trans (Below.size ((aD.trans az).trans ax)) ac))) aw))) aK))
 replace ay:=aB.lc (ay.gr aN) bj
 replace aC:=aB.lc (aC.gr aN) bg
 replace aE:=aB.lc (aE.gr aN) bh
 replace ar:=aB.lc (ar.gr aN) a0
 replace bv:=aB.lc (bv.gr aN) a4
 replace ah:=ah.gr zb9 (aB.gr ((al.gr ((aa.gr ad ac).trans aF) (Nat.le_trans (Below.size (aa.gr ad ac)) aw)).trans aN) (Nat.le_trans (Below.size (al.gr ((aa.gr ad ac).trans aF) (Nat.le_trans (Below.size (aa.gr ad ac)) aw))) aK))
 replace af:=af.gr (za1 za4 68 3) (aB.gr ((al.gr ((aa.gr ad ac).trans aF) (Nat.le_trans (Below.size (aa.gr ad ac)) aw)).trans aN) (Nat.le_trans (Below.size (al.gr ((aa.gr ad ac).trans aF) (Nat.le_trans (Below.size (aa.gr ad ac)) aw))) aK))
 replace ai:=ai.gr zc0 (aB.gr ((al.gr ((aa.gr ad ac).trans aF) (Nat.le_trans (Below.size (aa.gr ad ac)) aw)).trans aN) (Nat.le_trans (Below.size (al.gr ((aa.gr ad ac).trans aF) (Nat.le_trans (Below.size (aa.gr ad ac)) aw))) aK))
 replace ak:=ak.gr (za1 (za1 (zb0 64) 124 8) 162 1) (aB.gr ((al.gr ((aa.gr ad ac).trans aF) (Nat.le_trans (Below.size (aa.gr ad ac)) aw)).trans aN) (Nat.le_trans (Below.size (al.gr ((aa.gr ad ac).trans aF) (Nat.le_trans (Below.size (aa.gr ad ac)) aw))) aK))
 replace aj:=aj.gr (za6 64) (aB.gr ((al.gr ((aa.gr ad ac).trans aF) (Nat.le_trans (Below.size (aa.gr ad ac)) aw)).trans aN) (Nat.le_trans (Below.size (al.gr ((aa.gr ad ac).trans aF) (Nat.le_trans (Below.size (aa.gr ad ac)) aw))) aK))
 replace ae:=ae.gr za2 (aB.gr ((al.gr ((aa.gr ad ac).trans aF) (Nat.le_trans (Below.size (aa.gr ad ac)) aw)).trans aN) (Nat.le_trans (Below.size (al.gr ((aa.gr ad ac).trans aF) (Nat.le_trans (Below.size (aa.gr ad ac)) aw))) aK))
 refine zh9 (some 58) rfl (by kernel_rfl) (zJ7 (B:=w.heap.size) ok aZ hc.one hp.one (D.n+1) [] pf w _ _ _ (by simp) zO1 hm hB (Nat.le_refl _) hB.size ay aC aE bF ar bv ⟨ah,af,ai,ak,aj,ae⟩ hp zC6) ?_
 rintro cY dy ⟨⟨bN,rfl,bJ,bM⟩,bI⟩
 refine ⟨_,rfl,?_⟩
 replace hB:=bI.below _ hB (Nat.le_refl _)
 simp only [zd0,p3,p4]
 refine sv 59 (.bool (!((D.walk b co (D.n+1) [] pf).1))) ?_
 rcases Bool.eq_false_or_eq_true (!((D.walk b co (D.n+1) [] pf).1)) with hb73 | hb73
 ·have bn:=zW3 hb73
  refine swk 60 (.bool true) [(4,61),(5,62),(6,63)] rfl (RunV.bool (x:=!((D.walk b co (D.n+1) [] pf).1)) (rvk (by kernel_rfl)) hb73) ?_
  refine sv 64 (.bool true) (za0 (bQ _ _ ?_))
  refine wp_cond_true rfl ?_
  refine wp_seq_k (fun dG cr=>rg [0] (sv 4 (iT 27) ?_))
  refine za0 (cr _ _ ?_)
  refine wp_ret ?_
  simp only [Exit.then]
  refine bodyPost_ret (v:=(iT 27)) (za3 rfl rfl) rfl ⟨?_,hB⟩
  exact (by rw [ye6 hps bn])
 have bn:=zW4 hb73
 refine sw 60 (.bool false) rfl (RunV.bool (x:=!((D.walk b co (D.n+1) [] pf).1)) (rvk (by kernel_rfl)) hb73) ?_
 refine sw 61 bN rfl (rk 41 0 bJ) ?_
 refine sw 62 (iT (((D.walk b co (D.n+1) [] pf).2).length:Int)) rfl (zB6 (e:=108) bM _ _ rfl rfl (by kernel_rfl)) ?_
 refine sv 63 (.bool (decide ((0:Int)<(((D.walk b co (D.n+1) [] pf).2).length:Int)))) ?_
 refine sv 64 (.bool (decide ((0:Int)<(((D.walk b co (D.n+1) [] pf).2).length:Int)))) (za0 (bQ _ _ ?_))
 refine wp_cond_split rfl (fun bq=>?_) (fun bq=>?_)
 ·have bk:0<(D.walk b co (D.n+1) [] pf).2.length:=by have:=of_decide_eq_true bq;omega
  refine wp_seq_k (fun dC b2=>rg [0] (sv 4 (iT 27) ?_))
  refine za0 (b2 _ _ ?_)
  refine wp_ret ?_
  simp only [Exit.then]
  refine bodyPost_ret (v:=(iT 27)) (za3 rfl rfl) rfl ⟨?_,hB⟩
  exact (by rw [ye7 hps bk])
 have bk:¬ 0<(D.walk b co (D.n+1) [] pf).2.length:=by have:=of_decide_eq_false bq;omega
 refine wp_skip ?_
 refine bX _ _ ?_
 refine wp_seq_k (fun cO cj=>rg [0] (sv 4 (iT 0) ?_))
 refine za0 (cj _ _ ?_)
 refine wp_ret ?_
 refine bodyPost_ret (v:=(iT 0)) (za3 rfl rfl) rfl ⟨?_,hB⟩
 exact (by rw [ver_0 hps bn bk])

theorem zW6 {D:Ofr} {ds os rs:Value} (ok:D.Ok) {w:World} (hm:Mx w) (aa:ds.oneCell'=true) (ad:os.oneCell'=true) (ac:rs.oneCell'=true) (hop:zO0 D ds os rs w) {b:Bool} {c:List Int} {co:Int} {pf:List Leaf} {vc vp:Value} (hc:Sl EI64 3 1 w vc c) (hp:Sl ELf 108 4 w vp pf):
  Calls Tryz.prog 21 #[.agg #[ds,os,rs],.agg #[.bool b,vc,iT co,vp]] w fun e w'=>e=.returned (iT (D.ver ⟨b,c,co,pf⟩))∧Gr w w':=by
 obtain ⟨vpa,vpn,vpc,rfl⟩:=hp.forms
 exact zR9 ok hm aa ad ac hop (hc.cast (list_tb (d:=0)).symm) hp
end Go.Proofs.YtjhflekncldflaaGreatDoor
namespace Go.Proofs.YtjhflekncldflaaGreatDoor
set_option maxRecDepth 100000
set_option maxHeartbeats 4000000
open Go.RowKit

theorem zO2 {P:Program} {w:World} {fn:Func} {tmps:Array Value} {t u p q:Tmp} {v x y z:Value} (h:fn.results=#[.tmp t,.tmp u,.tmp p,.tmp q]) (hv:tmps.getD t undef=v) (hx:tmps.getD u undef=x) (hy:tmps.getD p undef=y) (hz:tmps.getD q undef=z):(results fn tmps).run P w=.ok (.tuple #[v,x,y,z]) w:=by
 subst hv hx hy hz;simp [results,h]
theorem al_cost {D:Ofr} {ds os rs:Value} (ok:D.Ok) {w:World} (_hm:Mx w) (_h1ds:ds.oneCell'=true) (_h1os:os.oneCell'=true) (_h1rs:rs.oneCell'=true) (hop:zO0 D ds os rs w) {TT:Nat} {c:List Int} {vc:Value} (hc:Sl EI64 TT 1 w vc (tb (fun z1=>(ca c z1)) c.length)):
    Calls Tryz.prog 15 #[.agg #[ds,os,rs],vc] w fun e w'=>e=.returned (if D.ce c=0 then .tuple #[iT (D.bd (zd5 c)),iT 0] else .tuple #[iT 0,iT (D.ce c)])∧Gr w w':=by
 have n2:=ok.n2
 go_enter Tryz.func15,Tryz.ntmps15
 have hB:=Gr.refl w
 refine wp_seq_k (fun aY aq=>rg [0,1,2] ?_)
 refine se ?_
 refine eb 26 #[ds,os,rs] 2 hB fun aS aN aH av aU aO hB=>?_
 simp only [p3,p4]
 refine sv 4 (iT 0) ?_
 refine sv 5 (iT 0) (za0 (aq _ _ ?_))
 refine wp_seq_k (fun aW aF=>rg [0,1,2,3,4,5,6] ?_)
 refine sw 9 (.agg #[ds,os,rs]) rfl (rl 26 0 [ds,os,rs] av) ?_
 refine se ?_
 refine ec 10 (hop _ hB) ?_
 rintro aK aL ⟨⟨aj,az,aC,aE,rfl,ap,aP,ai⟩,ar⟩
 refine ⟨_,rfl,?_⟩
 replace hB:=hB.trans ar
 have ad:=ai.ds
 have ac:=ai.os
 have ae:=ai.rs
 have ah:=ai.sp
 have aa:=ai.cs
 have af:=ai.ch
 simp only [p3,p4]
 refine sv 8 (.tuple #[pT aj 0,iT 0]) ?_
 refine sv 11 (pT aj 0) ?_
 refine sv 12 (iT 0) ?_
 refine sv 6 (pT aj 0) ?_
 refine sv 7 (iT 0) (za0 (aF _ _ ?_))
 refine wp_seq_k (fun aT au=>wp_seq_k (fun aM aB=>rg [0,1] (sv 13 (iT 0) ?_)))
 refine sv 14 (.bool true) (za0 (aB _ _ ?_))
 refine wp_cond_true rfl ?_
 refine rg [0,1,2,3] (sv 15 (pT aj 0) ?_)
 refine sv 16 vc ?_
 refine se ?_
 refine ec 17 (zl2 ok ap (⟨ad,ac,ae,ah,aa,af⟩:Dsk _ D _ _ _ _ _ _) (hc.gr za2 hB)) ?_
 rintro aJ aQ ⟨rfl,ak⟩
 refine ⟨_,rfl,?_⟩
 replace hB:=hB.trans ak
 simp only [p3,p4]
 refine sv 7 (iT (D.ce c)) (za0 (au _ _ ?_))
 refine wp_seq_k (fun aZ ay=>wp_seq_k (fun aV aD=>rg [0,1] (sv 18 (iT (D.ce c)) ?_)))
 refine sv 19 (.bool (D.ce c !=(0:Int))) (za0 (aD _ _ ?_))
 refine wp_cond_split rfl (fun al=>?_) (fun al=>?_)
 ·have hz:D.ce c≠0:=by simpa using al
  refine wp_seq_k (fun aR aA=>rg [0,1,2] (sv 20 (iT (D.ce c)) ?_))
  refine sv 4 (iT 0) ?_
  refine sv 5 (iT (D.ce c)) (za0 (aA _ _ ?_))
  refine wp_ret ?_
  simp only [Exit.then]
  refine bodyPost_ret (v:=(.tuple #[iT 0,iT (D.ce c)])) (zf2 rfl rfl rfl) rfl ⟨?_,hB⟩
  exact (by rw [if_neg hz])
 have hz:D.ce c=0:=by simpa using al
 have hce:=zA1 hz
 refine wp_skip ?_
 refine ay _ _ ?_
 refine wp_seq_k (fun aG ax=>rg [0,1,2,3,4] (sv 21 (pT aj 0) ?_))
 refine sv 22 vc ?_
 refine se ?_
 replace ap:=ap.gr ak
 replace ad:=ad.gr zb9 ak
 replace ac:=ac.gr (za1 za4 68 3) ak
 replace ae:=ae.gr zc0 ak
 replace ah:=ah.gr (za1 (za1 (zb0 64) 124 8) 162 1) ak
 replace aa:=aa.gr (za6 64) ak
 replace af:=af.gr za2 ak
 refine ec 23 (zj1 ok ap (⟨ad,ac,ae,ah,aa,af⟩:Dsk _ D _ _ _ _ _ _) hce.1 ((hc.gr za2 hB).cast (c_l hce.2.1))) ?_
 rintro aI aX ⟨rfl,aw⟩
 refine ⟨_,rfl,?_⟩
 replace hB:=hB.trans aw
 simp only [p3,p4]
 refine sv 4 (iT (D.bd (zd5 c))) ?_
 refine sv 5 (iT 0) (za0 (ax _ _ ?_))
 refine wp_ret ?_
 refine bodyPost_ret (v:=(.tuple #[iT (D.bd (zd5 c)),iT 0])) (zf2 rfl rfl rfl) rfl ⟨?_,hB⟩
 exact (by rw [if_pos hz])

theorem al_bound {D:Ofr} {ds os rs:Value} (ok:D.Ok) {w:World} (_hm:Mx w) (_h1ds:ds.oneCell'=true) (_h1os:os.oneCell'=true) (_h1rs:rs.oneCell'=true) (hop:zO0 D ds os rs w) {TT:Nat} {c:List Int} {vc:Value} (hc:Sl EI64 TT 1 w vc (tb (fun z1=>(ca c z1)) c.length)):
    Calls Tryz.prog 18 #[.agg #[ds,os,rs],vc] w fun e w'=>e=.returned (if D.pe c=0 then .tuple #[iT (D.bd (zd5 c)),iT 0] else .tuple #[iT 0,iT (D.pe c)])∧Gr w w':=by
 have n2:=ok.n2
 go_enter Tryz.func18,Tryz.ntmps18
 have hB:=Gr.refl w
 refine wp_seq_k (fun aY aq=>rg [0,1,2] ?_)
 refine se ?_
 refine eb 26 #[ds,os,rs] 2 hB fun aS aN aH av aU aO hB=>?_
 simp only [p3,p4]
 refine sv 4 (iT 0) ?_
 refine sv 5 (iT 0) (za0 (aq _ _ ?_))
 refine wp_seq_k (fun aW aF=>rg [0,1,2,3,4,5,6] ?_)
 refine sw 9 (.agg #[ds,os,rs]) rfl (rl 26 0 [ds,os,rs] av) ?_
 refine se ?_
 refine ec 10 (hop _ hB) ?_
 rintro aK aL ⟨⟨aj,az,aC,aE,rfl,ap,aP,ai⟩,ar⟩
 refine ⟨_,rfl,?_⟩
 replace hB:=hB.trans ar
 have ad:=ai.ds
 have ac:=ai.os
 have ae:=ai.rs
 have ah:=ai.sp
 have aa:=ai.cs
 have af:=ai.ch
 simp only [p3,p4]
 refine sv 8 (.tuple #[pT aj 0,iT 0]) ?_
 refine sv 11 (pT aj 0) ?_
 refine sv 12 (iT 0) ?_
 refine sv 6 (pT aj 0) ?_
 refine sv 7 (iT 0) (za0 (aF _ _ ?_))
 refine wp_seq_k (fun aT au=>wp_seq_k (fun aM aB=>rg [0,1] (sv 13 (iT 0) ?_)))
 refine sv 14 (.bool true) (za0 (aB _ _ ?_))
 refine wp_cond_true rfl ?_
 refine rg [0,1,2,3] (sv 15 (pT aj 0) ?_)
 refine sv 16 vc ?_
 refine se ?_
 refine ec 17 (zw9 ok ap (⟨ad,ac,ae,ah,aa,af⟩:Dsk _ D _ _ _ _ _ _) (hc.gr za2 hB)) ?_
 rintro aJ aQ ⟨rfl,ak⟩
 refine ⟨_,rfl,?_⟩
 replace hB:=hB.trans ak
 simp only [p3,p4]
 refine sv 7 (iT (D.pe c)) (za0 (au _ _ ?_))
 refine wp_seq_k (fun aZ ay=>wp_seq_k (fun aV aD=>rg [0,1] (sv 18 (iT (D.pe c)) ?_)))
 refine sv 19 (.bool (D.pe c !=(0:Int))) (za0 (aD _ _ ?_))
 refine wp_cond_split rfl (fun al=>?_) (fun al=>?_)
 ·have hz:D.pe c≠0:=by simpa using al
  refine wp_seq_k (fun aR aA=>rg [0,1,2] (sv 20 (iT (D.pe c)) ?_))
  refine sv 4 (iT 0) ?_
  refine sv 5 (iT (D.pe c)) (za0 (aA _ _ ?_))
  refine wp_ret ?_
  simp only [Exit.then]
  refine bodyPost_ret (v:=(.tuple #[iT 0,iT (D.pe c)])) (zf2 rfl rfl rfl) rfl ⟨?_,hB⟩
  exact (by rw [if_neg hz])
 have hz:D.pe c=0:=by simpa using al
 have hce:=(⟨(zT5 hz).1,(zT5 hz).2,trivial⟩:_∧_∧True)
 refine wp_skip ?_
 refine ay _ _ ?_
 refine wp_seq_k (fun aG ax=>rg [0,1,2,3,4] (sv 21 (pT aj 0) ?_))
 refine sv 22 vc ?_
 refine se ?_
 replace ap:=ap.gr ak
 replace ad:=ad.gr zb9 ak
 replace ac:=ac.gr (za1 za4 68 3) ak
 replace ae:=ae.gr zc0 ak
 replace ah:=ah.gr (za1 (za1 (zb0 64) 124 8) 162 1) ak
 replace aa:=aa.gr (za6 64) ak
 replace af:=af.gr za2 ak
 refine ec 23 (zj1 ok ap (⟨ad,ac,ae,ah,aa,af⟩:Dsk _ D _ _ _ _ _ _) hce.1 ((hc.gr za2 hB).cast (c_l hce.2.1))) ?_
 rintro aI aX ⟨rfl,aw⟩
 refine ⟨_,rfl,?_⟩
 replace hB:=hB.trans aw
 simp only [p3,p4]
 refine sv 4 (iT (D.bd (zd5 c))) ?_
 refine sv 5 (iT 0) (za0 (ax _ _ ?_))
 refine wp_ret ?_
 refine bodyPost_ret (v:=(.tuple #[iT (D.bd (zd5 c)),iT 0])) (zf2 rfl rfl rfl) rfl ⟨?_,hB⟩
 exact (by rw [if_pos hz])

theorem al_meets {D:Ofr} {ds os rs:Value} (ok:D.Ok) {w:World} (hm:Mx w) (_h1ds:ds.oneCell'=true) (_h1os:os.oneCell'=true) (_h1rs:rs.oneCell'=true) (hop:zO0 D ds os rs w) {TT:Nat} {c:List Int} {vc:Value} (hc:Sl EI64 TT 1 w vc (tb (fun z1=>(ca c z1)) c.length)):
    Calls Tryz.prog 17 #[.agg #[ds,os,rs],vc] w fun e w'=>e=.returned (if D.ce c=0 then .tuple #[iT (if 0>(fz D (zd5 c)).1 then 0 else (fz D (zd5 c)).1),.bool ((fz D (zd5 c)).2==(0:Int)),iT 0] else .tuple #[iT 0,.bool false,iT (D.ce c)])∧Gr w w':=by
 have n2:=ok.n2
 go_enter Tryz.func17,Tryz.ntmps17
 have hB:=Gr.refl w
 refine wp_seq_k (fun a0 aq=>rg [0,1,2,3] ?_)
 refine se ?_
 refine eb 26 #[ds,os,rs] 2 hB fun aU aP aI av aW aQ hB=>?_
 simp only [p3,p4]
 refine sv 4 (iT 0) ?_
 refine sv 5 (.bool false) ?_
 refine sv 6 (iT 0) (za0 (aq _ _ ?_))
 refine wp_seq_k (fun aY aG=>rg [0,1,2,3,4,5,6] ?_)
 refine sw 11 (.agg #[ds,os,rs]) rfl (rl 26 0 [ds,os,rs] av) ?_
 refine se ?_
 refine ec 12 (hop _ hB) ?_
 rintro aL aM ⟨⟨aj,az,aD,aF,rfl,ap,aR,ai⟩,ar⟩
 refine ⟨_,rfl,?_⟩
 replace hB:=hB.trans ar
 have ad:=ai.ds
 have ac:=ai.os
 have ae:=ai.rs
 have ah:=ai.sp
 have aa:=ai.cs
 have af:=ai.ch
 simp only [p3,p4]
 refine sv 10 (.tuple #[pT aj 0,iT 0]) ?_
 refine sv 13 (pT aj 0) ?_
 refine sv 14 (iT 0) ?_
 refine sv 7 (pT aj 0) ?_
 refine sv 6 (iT 0) (za0 (aG _ _ ?_))
 refine wp_seq_k (fun aV au=>wp_seq_k (fun aN aB=>rg [0,1] (sv 15 (iT 0) ?_)))
 refine sv 16 (.bool true) (za0 (aB _ _ ?_))
 refine wp_cond_true rfl ?_
 refine rg [0,1,2,3] (sv 17 (pT aj 0) ?_)
 refine sv 18 vc ?_
 refine se ?_
 refine ec 19 (zl2 ok ap (⟨ad,ac,ae,ah,aa,af⟩:Dsk _ D _ _ _ _ _ _) (hc.gr za2 hB)) ?_
 rintro aK aS ⟨rfl,ak⟩
 refine ⟨_,rfl,?_⟩
 replace hB:=hB.trans ak
 simp only [p3,p4]
 refine sv 6 (iT (D.ce c)) (za0 (au _ _ ?_))
 refine wp_seq_k (fun a1 ay=>wp_seq_k (fun aX aE=>rg [0,1] (sv 20 (iT (D.ce c)) ?_)))
 refine sv 21 (.bool (D.ce c !=(0:Int))) (za0 (aE _ _ ?_))
 refine wp_cond_split rfl (fun al=>?_) (fun al=>?_)
 ·have hz:D.ce c≠0:=by simpa using al
  refine wp_seq_k (fun aT aA=>rg [0,1,2,3] (sv 22 (iT (D.ce c)) ?_))
  refine sv 4 (iT 0) ?_
  refine sv 5 (.bool false) ?_
  refine sv 6 (iT (D.ce c)) (za0 (aA _ _ ?_))
  refine wp_ret ?_
  simp only [Exit.then]
  refine bodyPost_ret (v:=(.tuple #[iT 0,.bool false,iT (D.ce c)])) (zo1 rfl rfl rfl rfl) rfl ⟨?_,hB⟩
  exact (by rw [if_neg hz])
 have hz:D.ce c=0:=by simpa using al
 have hce:=zA1 hz
 refine wp_skip ?_
 refine ay _ _ ?_
 refine wp_seq_k (fun aH ax=>rg [0,1,2,3,4,5,6,7] (sv 24 (pT aj 0) ?_))
 refine sv 25 vc ?_
 refine se ?_
 replace ap:=ap.gr ak
 replace ad:=ad.gr zb9 ak
 replace ac:=ac.gr (za1 za4 68 3) ak
 replace ae:=ae.gr zc0 ak
 replace ah:=ah.gr (za1 (za1 (zb0 64) 124 8) 162 1) ak
 replace aa:=aa.gr (za6 64) ak
 replace af:=af.gr za2 ak
 refine ec 26 (zn8 ok ap (⟨ad,ac,ae,ah,aa,af⟩:Dsk _ D _ _ _ _ _ _) (hm.gr hB) hce.1 ((hc.gr za2 hB).cast (c_l hce.2.1))) ?_
 rintro aJ aZ ⟨rfl,aw⟩
 refine ⟨_,rfl,?_⟩
 replace hB:=hB.trans aw
 simp only [p3,p4]
 refine sv 23 (.tuple #[iT ((fz D (zd5 c)).1),iT ((fz D (zd5 c)).2)]) ?_
 refine sv 27 (iT ((fz D (zd5 c)).1)) ?_
 refine sv 28 (iT ((fz D (zd5 c)).2)) ?_
 refine sv 8 (iT ((fz D (zd5 c)).1)) ?_
 refine sv 9 (iT ((fz D (zd5 c)).2)) (za0 (ax _ _ ?_))
 refine wp_seq_k (fun aO aC=>rg [0,1,2,3,4,5,6] (sv 29 (iT ((fz D (zd5 c)).1)) ?_))
 refine sv 30 (iT (if 0>(fz D (zd5 c)).1 then 0 else (fz D (zd5 c)).1)) ?_
 refine sv 31 (iT ((fz D (zd5 c)).2)) ?_
 refine sv 32 (.bool ((fz D (zd5 c)).2==(0:Int))) ?_
 refine sv 4 (iT (if 0>(fz D (zd5 c)).1 then 0 else (fz D (zd5 c)).1)) ?_
 refine sv 5 (.bool ((fz D (zd5 c)).2==(0:Int))) ?_
 refine sv 6 (iT 0) (za0 (aC _ _ ?_))
 refine wp_ret ?_
 refine bodyPost_ret (v:=(.tuple #[iT (if 0>(fz D (zd5 c)).1 then 0 else (fz D (zd5 c)).1),.bool ((fz D (zd5 c)).2==(0:Int)),iT 0])) (zo1 rfl rfl rfl rfl) rfl ⟨?_,hB⟩
 exact (by rw [if_pos hz])

theorem al_fails {D:Ofr} {ds os rs:Value} (ok:D.Ok) {w:World} (hm:Mx w) (_h1ds:ds.oneCell'=true) (_h1os:os.oneCell'=true) (_h1rs:rs.oneCell'=true) (hop:zO0 D ds os rs w) {TT:Nat} {c:List Int} {vc:Value} (hc:Sl EI64 TT 1 w vc (tb (fun z1=>(ca c z1)) c.length)):
    Calls Tryz.prog 19 #[.agg #[ds,os,rs],vc] w fun e w'=>e=.returned (if D.pe c=0 then .tuple #[iT (if 0>(fz D (zd5 c)).1 then 0 else (fz D (zd5 c)).1),iT (fz D (zd5 c)).2,.bool ((fz D (zd5 c)).2 !=(0:Int)),iT 0] else .tuple #[iT 0,iT 0,.bool false,iT (D.pe c)])∧Gr w w':=by
 have n2:=ok.n2
 go_enter Tryz.func19,Tryz.ntmps19
 have hB:=Gr.refl w
 refine wp_seq_k (fun a0 aq=>rg [0,1,2,3,4] ?_)
 refine se ?_
 refine eb 26 #[ds,os,rs] 2 hB fun aU aP aI av aW aQ hB=>?_
 simp only [p3,p4]
 refine sv 4 (iT 0) ?_
 refine sv 5 (iT 0) ?_
 refine sv 6 (.bool false) ?_
 refine sv 7 (iT 0) (za0 (aq _ _ ?_))
 refine wp_seq_k (fun aY aG=>rg [0,1,2,3,4,5,6] ?_)
 refine sw 11 (.agg #[ds,os,rs]) rfl (rl 26 0 [ds,os,rs] av) ?_
 refine se ?_
 refine ec 12 (hop _ hB) ?_
 rintro aL aM ⟨⟨aj,az,aD,aF,rfl,ap,aR,ai⟩,ar⟩
 refine ⟨_,rfl,?_⟩
 replace hB:=hB.trans ar
 have ad:=ai.ds
 have ac:=ai.os
 have ae:=ai.rs
 have ah:=ai.sp
 have aa:=ai.cs
 have af:=ai.ch
 simp only [p3,p4]
 refine sv 10 (.tuple #[pT aj 0,iT 0]) ?_
 refine sv 13 (pT aj 0) ?_
 refine sv 14 (iT 0) ?_
 refine sv 8 (pT aj 0) ?_
 refine sv 7 (iT 0) (za0 (aG _ _ ?_))
 refine wp_seq_k (fun aV au=>wp_seq_k (fun aN aB=>rg [0,1] (sv 15 (iT 0) ?_)))
 refine sv 16 (.bool true) (za0 (aB _ _ ?_))
 refine wp_cond_true rfl ?_
 refine rg [0,1,2,3] (sv 17 (pT aj 0) ?_)
 refine sv 18 vc ?_
 refine se ?_
 refine ec 19 (zw9 ok ap (⟨ad,ac,ae,ah,aa,af⟩:Dsk _ D _ _ _ _ _ _) (hc.gr za2 hB)) ?_
 rintro aK aS ⟨rfl,ak⟩
 refine ⟨_,rfl,?_⟩
 replace hB:=hB.trans ak
 simp only [p3,p4]
 refine sv 7 (iT (D.pe c)) (za0 (au _ _ ?_))
 refine wp_seq_k (fun a1 ay=>wp_seq_k (fun aX aE=>rg [0,1] (sv 20 (iT (D.pe c)) ?_)))
 refine sv 21 (.bool (D.pe c !=(0:Int))) (za0 (aE _ _ ?_))
 refine wp_cond_split rfl (fun al=>?_) (fun al=>?_)
 ·have hz:D.pe c≠0:=by simpa using al
  refine wp_seq_k (fun aT aA=>rg [0,1,2,3,4] (sv 22 (iT (D.pe c)) ?_))
  refine sv 4 (iT 0) ?_
  refine sv 5 (iT 0) ?_
  refine sv 6 (.bool false) ?_
  refine sv 7 (iT (D.pe c)) (za0 (aA _ _ ?_))
  refine wp_ret ?_
  simp only [Exit.then]
  refine bodyPost_ret (v:=(.tuple #[iT 0,iT 0,.bool false,iT (D.pe c)])) (zO2 rfl rfl rfl rfl rfl) rfl ⟨?_,hB⟩
  exact (by rw [if_neg hz])
 have hz:D.pe c=0:=by simpa using al
 have hce:=(⟨(zT5 hz).1,(zT5 hz).2,trivial⟩:_∧_∧True)
 refine wp_skip ?_
 refine ay _ _ ?_
 refine wp_seq_k (fun aH ax=>rg [0,1,2,3,4,5,6,7] (sv 24 (pT aj 0) ?_))
 refine sv 25 vc ?_
 refine se ?_
 replace ap:=ap.gr ak
 replace ad:=ad.gr zb9 ak
 replace ac:=ac.gr (za1 za4 68 3) ak
 replace ae:=ae.gr zc0 ak
 replace ah:=ah.gr (za1 (za1 (zb0 64) 124 8) 162 1) ak
 replace aa:=aa.gr (za6 64) ak
 replace af:=af.gr za2 ak
 refine ec 26 (zn8 ok ap (⟨ad,ac,ae,ah,aa,af⟩:Dsk _ D _ _ _ _ _ _) (hm.gr hB) hce.1 ((hc.gr za2 hB).cast (c_l hce.2.1))) ?_
 rintro aJ aZ ⟨rfl,aw⟩
 refine ⟨_,rfl,?_⟩
 replace hB:=hB.trans aw
 simp only [p3,p4]
 refine sv 23 (.tuple #[iT ((fz D (zd5 c)).1),iT ((fz D (zd5 c)).2)]) ?_
 refine sv 27 (iT ((fz D (zd5 c)).1)) ?_
 refine sv 28 (iT ((fz D (zd5 c)).2)) ?_
 refine sv 9 (iT ((fz D (zd5 c)).1)) ?_
 refine sv 5 (iT ((fz D (zd5 c)).2)) (za0 (ax _ _ ?_))
 refine wp_seq_k (fun aO aC=>rg [0,1,2,3,4,5,6,7,8] (sv 29 (iT ((fz D (zd5 c)).1)) ?_))
 refine sv 30 (iT (if 0>(fz D (zd5 c)).1 then 0 else (fz D (zd5 c)).1)) ?_
 refine sv 31 (iT ((fz D (zd5 c)).2)) ?_
 refine sv 32 (iT ((fz D (zd5 c)).2)) ?_
 refine sv 33 (.bool ((fz D (zd5 c)).2 !=(0:Int))) ?_
 refine sv 4 (iT (if 0>(fz D (zd5 c)).1 then 0 else (fz D (zd5 c)).1)) ?_
 refine sv 5 (iT ((fz D (zd5 c)).2)) ?_
 refine sv 6 (.bool ((fz D (zd5 c)).2 !=(0:Int))) ?_
 refine sv 7 (iT 0) (za0 (aC _ _ ?_))
 refine wp_ret ?_
 refine bodyPost_ret (v:=(.tuple #[iT (if 0>(fz D (zd5 c)).1 then 0 else (fz D (zd5 c)).1),iT ((fz D (zd5 c)).2),.bool ((fz D (zd5 c)).2 !=(0:Int)),iT 0])) (zO2 rfl rfl rfl rfl rfl) rfl ⟨?_,hB⟩
 exact (by rw [if_pos hz])

theorem zJ9 {D:Ofr} {ds os rs:Value} (ok:D.Ok) {w:World} (_hm:Mx w) (_h1ds:ds.oneCell'=true) (_h1os:os.oneCell'=true) (_h1rs:rs.oneCell'=true) (hop:zO0 D ds os rs w) (ht:Tab w) {r:Nat} (hr:r<D.q) {TT:Nat} {c:List Int} {vc:Value} (hc:Sl EI64 TT 1 w vc (tb (fun z1=>(ca c z1)) c.length)) (hz:D.ce c=0):
    Calls Tryz.prog 16 #[.agg #[ds,os,rs],vc,iT (r:Int)] w fun e w'=>e=.returned (.tuple #[sV (zc3 (D.wl (zd5 c) r)),sV (zc3 (D.wu (zd5 c) r)),iT 0])∧Gr w w':=by
 have n2:=ok.n2
 have hce:=zA1 hz
 go_enter Tryz.func16,Tryz.ntmps16
 have hB:=Gr.refl w
 refine wp_seq_k (fun bE aZ=>rg [0,1,2,3] ?_)
 refine se ?_
 refine eb 26 #[ds,os,rs] 3 hB fun a2 bi bl aE bb bw hB=>?_
 simp only [p3,p4]
 refine sv 6 (sV []) ?_
 refine sv 7 (sV []) ?_
 refine sv 8 (iT 0) (za0 (aZ _ _ ?_))
 refine wp_seq_k (fun bg aY=>rg [0,1,2,3,4,5,6] ?_)
 refine sw 12 (.agg #[ds,os,rs]) rfl (rl 26 0 [ds,os,rs] aE) ?_
 refine se ?_
 refine ec 13 (hop _ hB) ?_
 rintro bt bu ⟨⟨az,aR,a3,aU,rfl,aD,a9,ax⟩,aN⟩
 refine ⟨_,rfl,?_⟩
 replace hB:=hB.trans aN
 have ar:=ax.ds
 have aw:=ax.os
 have al:=ax.rs
 have au:=ax.sp
 have aq:=ax.cs
 have av:=ax.ch
 simp only [p3,p4]
 refine sv 11 (.tuple #[pT az 0,iT 0]) ?_
 refine sv 14 (pT az 0) ?_
 refine sv 15 (iT 0) ?_
 refine sv 9 (pT az 0) ?_
 refine sv 8 (iT 0) (za0 (aY _ _ ?_))
 refine wp_seq_k (fun ba a6=>wp_seq_k (fun bs aS=>rg [0,1] (sv 16 (iT 0) ?_)))
 refine sv 17 (.bool true) (za0 (aS _ _ ?_))
 refine wp_cond_true rfl ?_
 refine rg [0,1,2,3] (sv 18 (pT az 0) ?_)
 refine sv 19 vc ?_
 refine se ?_
 refine ec 20 (zl2 ok aD (⟨ar,aw,al,au,aq,av⟩:Dsk _ D _ _ _ _ _ _) (hc.gr za2 hB)) ?_
 rintro br bA ⟨rfl,aB⟩
 refine ⟨_,rfl,?_⟩
 replace hB:=hB.trans aB
 simp only [p3,p4]
 refine sv 8 (iT (D.ce c)) (za0 (a6 _ _ ?_))
 refine wp_seq_k (fun bk a1=>wp_seq_k (fun bB aX=>rg [0,1,2,3,4,5,6,7,8,9,10,11,12] (sv 21 (iT (D.ce c)) ?_)))
 have aL:(D.ce c==(0:Int))=true:=(by simp;omega)
 refine sw 22 (.bool true) rfl (RunV.bool (x:=(D.ce c==(0:Int))) (rvk (by kernel_rfl)) aL) ?_
 refine sv 23 (.bool true) ?_
 refine sv 24 (iT (r:Int)) ?_
 have aF:(decide ((r:Int)<(0:Int)))=false:=(by simp only [decide_eq_false_iff_not];omega)
 refine sw 25 (.bool false) rfl (RunV.bool (x:=decide ((r:Int)<(0:Int))) (rvk (by kernel_rfl)) aF) ?_
 refine sv 26 (.bool false) ?_
 refine sv 27 (iT (r:Int)) ?_
 refine sv 28 (pT a2 2) ?_
 replace aE:=aE.gr (aN.trans aB)
 refine sw 29 rs rfl (rk 24 2 aE) ?_
 refine sw 30 (iT ((D.q:Nat):Int)) rfl (za9 (e:=80) al (za8 rfl) _ _ rfl rfl (by kernel_rfl)) ?_
 have aK:(decide (((D.q:Nat):Int)≤(r:Int)))=false:=(by simp only [decide_eq_false_iff_not];omega)
 refine sw 31 (.bool false) rfl (RunV.bool (x:=decide (((D.q:Nat):Int)≤(r:Int))) (rvk (by kernel_rfl)) aK) ?_
 refine sv 32 (.bool false) ?_
 refine sv 33 (.bool false) (za0 (aX _ _ ?_))
 refine wp_cond_false rfl ?_
 refine wp_skip ?_
 refine a1 _ _ ?_
 refine wp_seq_k (fun a8 aW=>wp_seq_k (fun bn a7=>rg [0,1] (sv 34 (iT (D.ce c)) ?_)))
 have aJ:(D.ce c !=(0:Int))=false:=(by simp;omega)
 refine sw 35 (.bool false) rfl (RunV.bool (x:=(D.ce c !=(0:Int))) (rvk (by kernel_rfl)) aJ) ?_
 refine za0 (a7 _ _ ?_)
 refine wp_cond_false rfl ?_
 refine wp_skip ?_
 refine aW _ _ ?_
 refine wp_seq_k (fun bf a4=>rg [0,1,2,3,4,5] (sv 37 (pT az 0) ?_))
 refine sv 38 vc ?_
 refine sv 39 (iT (r:Int)) ?_
 refine se ?_
 replace aD:=aD.gr aB
 replace ar:=ar.gr zb9 aB
 replace aw:=aw.gr (za1 za4 68 3) aB
 replace al:=al.gr zc0 aB
 replace au:=au.gr (za1 (za1 (zb0 64) 124 8) 162 1) aB
 replace aq:=aq.gr (za6 64) aB
 replace av:=av.gr za2 aB
 refine ec 40 (zN6 ok aD (⟨ar,aw,al,au,aq,av⟩:Dsk _ D _ _ _ _ _ _) hr hce.1 ((hc.gr za2 hB).cast (c_l hce.2.1))) ?_
 rintro bq bD ⟨⟨ai,af,ad,ae,aj,ac,ah,ak,rfl,ap,aa⟩,a5⟩
 refine ⟨_,rfl,?_⟩
 replace hB:=hB.trans a5
 simp only [p3,p4]
 refine se ?_
 refine ea 124 #[.bool false,sN,.bool false,sN,.bool false,sN,.bool false,sN] 10 hB fun aG bm aP ay bh a0 hB=>?_
 simp only [p3,p4]
 refine se ?_
 refine es 124 0 (.agg #[ai,af,ad,ae,aj,ac,ah,ak]) [ai,af,ad,ae,aj,ac,ah,ak] #[ai,af,ad,ae,aj,ac,ah,ak] ay hB a0 ⟨ap.one0,ap.one1,ap.one2,ap.one3,aa.one0,aa.one1,aa.one2,aa.one3,trivial⟩ fun aT aV aC ay hB=>?_
 refine za0 (a4 _ _ ?_)
 refine wp_seq_k (fun bp aQ=>?_)
 have aA:=Gr.drew aT
 replace hB:=hB.trans aA
 replace ay:=ay.gr aA
 refine za5 (fun w'=>Lc w' aG #[ai,af,ad,ae,aj,ac,ah,ak] 124) [(true,0),(true,1),(true,3),(true,4),(false,2),(false,5),(true,6),(true,7),(true,8)] (by kernel_rfl) (by kernel_rfl) (by kernel_rfl) (by decide) (fun _ _ _ _ _ h=>h) ay ?_
 refine ov 41 (pT aG 0) ?_
 refine ow 42 (.agg #[ai,af,ad,ae]) rfl (fun w' hS=>(rl 62 0 [ai,af,ad,ae] hS)) ?_
 refine ov 44 (pT aG 4) ?_
 refine ow 45 (.agg #[aj,ac,ah,ak]) rfl (fun w' hS=>(rl 62 4 [aj,ac,ah,ak] hS)) ?_
 refine oe ?_
 have aI:=aP.kp.trans (aC.trans aA.kp)
 replace ap:=ap.kp aI
 refine ec 43 (zi6 ap (by omega) (ht.gr hB)) ?_
 rintro bj bv ⟨rfl,aH⟩
 refine ⟨_,rfl,?_⟩
 replace hB:=hB.trans aH
 replace ay:=ay.gr aH
 refine ⟨ay,?_⟩
 simp only [p3,p4]
 refine oe ?_
 have aM:=aP.kp.trans (aC.trans (aA.kp.trans aH.kp))
 replace aa:=aa.kp aM
 refine ec 46 (zi6 aa (by omega) (ht.gr hB)) ?_
 rintro bo bC ⟨rfl,aO⟩
 refine ⟨_,rfl,?_⟩
 replace hB:=hB.trans aO
 replace ay:=ay.gr aO
 refine ⟨ay,?_⟩
 simp only [p3,p4]
 refine ov 6 (sV (zc3 (D.wl (zd5 c) r))) ?_
 refine ov 7 (sV (zc3 (D.wu (zd5 c) r))) ?_
 refine ov 8 (iT 0) ?_
 refine zb4 ?_
 refine aQ _ _ ?_
 refine wp_ret ?_
 refine bodyPost_ret (v:=(.tuple #[sV (zc3 (D.wl (zd5 c) r)),sV (zc3 (D.wu (zd5 c) r)),iT 0])) (zo1 rfl rfl rfl rfl) rfl ⟨?_,hB⟩
 exact rfl

theorem zS0 {D:Ofr} {ds os rs:Value} (ok:D.Ok) {w:World} (_hm:Mx w) (_h1ds:ds.oneCell'=true) (_h1os:os.oneCell'=true) (_h1rs:rs.oneCell'=true) (hop:zO0 D ds os rs w) {TT:Nat} {c:List Int} {vc:Value} (hc:Sl EI64 TT 1 w vc (tb (fun z1=>(ca c z1)) c.length)) (_hz:D.ce c≠0) (z:Int):
    Calls Tryz.prog 16 #[.agg #[ds,os,rs],vc,iT (z)] w fun e w'=>e=.returned (.tuple #[sV [],sV [],iT (D.ce c)])∧Gr w w':=by
 have n2:=ok.n2
 go_enter Tryz.func16,Tryz.ntmps16
 have hB:=Gr.refl w
 refine wp_seq_k (fun aY ap=>rg [0,1,2,3] ?_)
 refine se ?_
 refine eb 26 #[ds,os,rs] 3 hB fun aS aN aH au aU aO hB=>?_
 simp only [p3,p4]
 refine sv 6 (sV []) ?_
 refine sv 7 (sV []) ?_
 refine sv 8 (iT 0) (za0 (ap _ _ ?_))
 refine wp_seq_k (fun aX aF=>rg [0,1,2,3,4,5,6] ?_)
 refine sw 12 (.agg #[ds,os,rs]) rfl (rl 26 0 [ds,os,rs] au) ?_
 refine se ?_
 refine ec 13 (hop _ hB) ?_
 rintro aJ aK ⟨⟨ac,ay,aC,aE,rfl,ax,aP,aa⟩,aq⟩
 refine ⟨_,rfl,?_⟩
 replace hB:=hB.trans aq
 have af:=aa.ds
 have ae:=aa.os
 have ah:=aa.rs
 have aj:=aa.sp
 have ad:=aa.cs
 have ai:=aa.ch
 simp only [p3,p4]
 refine sv 11 (.tuple #[pT ac 0,iT 0]) ?_
 refine sv 14 (pT ac 0) ?_
 refine sv 15 (iT 0) ?_
 refine sv 9 (pT ac 0) ?_
 refine sv 8 (iT 0) (za0 (aF _ _ ?_))
 refine wp_seq_k (fun aT ar=>wp_seq_k (fun aL aA=>rg [0,1] (sv 16 (iT 0) ?_)))
 refine sv 17 (.bool true) (za0 (aA _ _ ?_))
 refine wp_cond_true rfl ?_
 refine rg [0,1,2,3] (sv 18 (pT ac 0) ?_)
 refine sv 19 vc ?_
 refine se ?_
 refine ec 20 (zl2 ok ax (⟨af,ae,ah,aj,ad,ai⟩:Dsk _ D _ _ _ _ _ _) (hc.gr za2 hB)) ?_
 rintro aI aQ ⟨rfl,az⟩
 refine ⟨_,rfl,?_⟩
 replace hB:=hB.trans az
 simp only [p3,p4]
 refine sv 8 (iT (D.ce c)) (za0 (ar _ _ ?_))
 refine wp_seq_k (fun aZ aw=>wp_seq_k (fun aV aD=>rg [0,1,2,3,4,5,6,7,8,9,10,11,12] (sv 21 (iT (D.ce c)) ?_)))
 have al:(D.ce c==(0:Int))=false:=(by rw [beq_eq_false_iff_ne];omega)
 refine sw 22 (.bool false) rfl (RunV.bool (x:=(D.ce c==(0:Int))) (rvk (by kernel_rfl)) al) ?_
 refine swk 23 (.bool false) [(3,24),(4,25),(5,26),(6,27),(7,28),(8,29),(9,30),(10,31),(11,32)] rfl (rvk (by kernel_rfl)) ?_
 refine sv 33 (.bool false) (za0 (aD _ _ ?_))
 refine wp_cond_false rfl ?_
 refine wp_skip ?_
 refine aw _ _ ?_
 refine wp_seq_k (fun aR aW=>wp_seq_k (fun aG av=>rg [0,1] (sv 34 (iT (D.ce c)) ?_)))
 have ak:(D.ce c !=(0:Int))=true:=(by simp;omega)
 refine sw 35 (.bool true) rfl (RunV.bool (x:=(D.ce c !=(0:Int))) (rvk (by kernel_rfl)) ak) ?_
 refine za0 (av _ _ ?_)
 refine wp_cond_true rfl ?_
 refine wp_seq_k (fun aM aB=>rg [0,1,2,3] (sv 36 (iT (D.ce c)) ?_))
 refine sv 6 (sV []) ?_
 refine sv 7 (sV []) ?_
 refine sv 8 (iT (D.ce c)) (za0 (aB _ _ ?_))
 refine wp_ret ?_
 simp only [Exit.then]
 refine bodyPost_ret (v:=(.tuple #[sV [],sV [],iT (D.ce c)])) (zo1 rfl rfl rfl rfl) rfl ⟨?_,hB⟩
 exact rfl

theorem zK0 {D:Ofr} {ds os rs:Value} (ok:D.Ok) {w:World} (_hm:Mx w) (_h1ds:ds.oneCell'=true) (_h1os:os.oneCell'=true) (_h1rs:rs.oneCell'=true) (hop:zO0 D ds os rs w) (_hrs:Sl ERq 80 8 w rs (tb (fun z1=>(D.rq z1)) D.q)) {TT:Nat} {c:List Int} {vc:Value} (hc:Sl EI64 TT 1 w vc (tb (fun z1=>(ca c z1)) c.length)) (_hz:D.ce c=0) (z:Int) (_h0:z<0):
    Calls Tryz.prog 16 #[.agg #[ds,os,rs],vc,iT (z)] w fun e w'=>e=.returned (.tuple #[sV [],sV [],iT 2])∧Gr w w':=by
 have n2:=ok.n2
 go_enter Tryz.func16,Tryz.ntmps16
 have hB:=Gr.refl w
 refine wp_seq_k (fun aY ap=>rg [0,1,2,3] ?_)
 refine se ?_
 refine eb 26 #[ds,os,rs] 3 hB fun aL aU aG aA aN aV hB=>?_
 simp only [p3,p4]
 refine sv 6 (sV []) ?_
 refine sv 7 (sV []) ?_
 refine sv 8 (iT 0) (za0 (ap _ _ ?_))
 refine wp_seq_k (fun aO aF=>rg [0,1,2,3,4,5,6] ?_)
 refine sw 12 (.agg #[ds,os,rs]) rfl (rl 26 0 [ds,os,rs] aA) ?_
 refine se ?_
 refine ec 13 (hop _ hB) ?_
 rintro aS aT ⟨⟨ac,av,ax,ay,rfl,au,aK,aa⟩,aq⟩
 refine ⟨_,rfl,?_⟩
 replace hB:=hB.trans aq
 have ah:=aa.ds
 have af:=aa.os
 have ai:=aa.rs
 have aj:=aa.sp
 have ae:=aa.cs
 have ad:=aa.ch
 simp only [p3,p4]
 refine sv 11 (.tuple #[pT ac 0,iT 0]) ?_
 refine sv 14 (pT ac 0) ?_
 refine sv 15 (iT 0) ?_
 refine sv 9 (pT ac 0) ?_
 refine sv 8 (iT 0) (za0 (aF _ _ ?_))
 refine wp_seq_k (fun aM az=>wp_seq_k (fun aR aw=>rg [0,1] (sv 16 (iT 0) ?_)))
 refine sv 17 (.bool true) (za0 (aw _ _ ?_))
 refine wp_cond_true rfl ?_
 refine rg [0,1,2,3] (sv 18 (pT ac 0) ?_)
 refine sv 19 vc ?_
 refine se ?_
 refine ec 20 (zl2 ok au (⟨ah,af,ai,aj,ae,ad⟩:Dsk _ D _ _ _ _ _ _) (hc.gr za2 hB)) ?_
 rintro aQ aW ⟨rfl,aB⟩
 refine ⟨_,rfl,?_⟩
 replace hB:=hB.trans aB
 simp only [p3,p4]
 refine sv 8 (iT (D.ce c)) (za0 (az _ _ ?_))
 refine wp_seq_k (fun aZ ar=>wp_seq_k (fun aX aE=>rg [0,1,2,3,4,5,6,7,8,9,10,11,12] (sv 21 (iT (D.ce c)) ?_)))
 have ak:(D.ce c==(0:Int))=true:=(by simp;omega)
 refine sw 22 (.bool true) rfl (RunV.bool (x:=(D.ce c==(0:Int))) (rvk (by kernel_rfl)) ak) ?_
 refine sv 23 (.bool true) ?_
 refine sv 24 (iT (z)) ?_
 have al:(decide (z<(0:Int)))=true:=(by simp only [decide_eq_true_eq];omega)
 refine sw 25 (.bool true) rfl (RunV.bool (x:=decide (z<(0:Int))) (rvk (by kernel_rfl)) al) ?_
 refine swk 26 (.bool true) [(6,27),(7,28),(8,29),(9,30),(10,31)] rfl (rvk (by kernel_rfl)) ?_
 refine sv 32 (.bool true) ?_
 refine sv 33 (.bool true) (za0 (aE _ _ ?_))
 refine wp_cond_true rfl ?_
 refine rg [0] (sv 8 (iT 2) ?_)
 refine za0 (ar _ _ ?_)
 refine wp_seq_k (fun aP aJ=>wp_seq_k (fun aI aD=>rg [0,1] (sv 34 (iT 2) ?_)))
 refine sv 35 (.bool true) (za0 (aD _ _ ?_))
 refine wp_cond_true rfl ?_
 refine wp_seq_k (fun aH aC=>rg [0,1,2,3] (sv 36 (iT 2) ?_))
 refine sv 6 (sV []) ?_
 refine sv 7 (sV []) ?_
 refine sv 8 (iT 2) (za0 (aC _ _ ?_))
 refine wp_ret ?_
 simp only [Exit.then]
 refine bodyPost_ret (v:=(.tuple #[sV [],sV [],iT 2])) (zo1 rfl rfl rfl rfl) rfl ⟨?_,hB⟩
 exact rfl

theorem zK1 {D:Ofr} {ds os rs:Value} (ok:D.Ok) {w:World} (_hm:Mx w) (_h1ds:ds.oneCell'=true) (_h1os:os.oneCell'=true) (_h1rs:rs.oneCell'=true) (hop:zO0 D ds os rs w) (_hrs:Sl ERq 80 8 w rs (tb (fun z1=>(D.rq z1)) D.q)) {TT:Nat} {c:List Int} {vc:Value} (hc:Sl EI64 TT 1 w vc (tb (fun z1=>(ca c z1)) c.length)) (_hz:D.ce c=0) (z:Int) (_h0:(D.q:Int)≤z):
    Calls Tryz.prog 16 #[.agg #[ds,os,rs],vc,iT (z)] w fun e w'=>e=.returned (.tuple #[sV [],sV [],iT 2])∧Gr w w':=by
 have n2:=ok.n2
 go_enter Tryz.func16,Tryz.ntmps16
 have hB:=Gr.refl w
 refine wp_seq_k (fun aZ av=>rg [0,1,2,3] ?_)
 refine se ?_
 refine eb 26 #[ds,os,rs] 3 hB fun ax aU aI ak aN aV hB=>?_
 simp only [p3,p4]
 refine sv 6 (sV []) ?_
 refine sv 7 (sV []) ?_
 refine sv 8 (iT 0) (za0 (av _ _ ?_))
 refine wp_seq_k (fun aO aH=>rg [0,1,2,3,4,5,6] ?_)
 refine sw 12 (.agg #[ds,os,rs]) rfl (rl 26 0 [ds,os,rs] ak) ?_
 refine se ?_
 refine ec 13 (hop _ hB) ?_
 rintro aS aT ⟨⟨ac,az,aB,aC,rfl,ay,aL,aa⟩,ar⟩
 refine ⟨_,rfl,?_⟩
 replace hB:=hB.trans ar
 have ai:=aa.ds
 have ah:=aa.os
 have ad:=aa.rs
 have aj:=aa.sp
 have af:=aa.cs
 have ae:=aa.ch
 simp only [p3,p4]
 refine sv 11 (.tuple #[pT ac 0,iT 0]) ?_
 refine sv 14 (pT ac 0) ?_
 refine sv 15 (iT 0) ?_
 refine sv 9 (pT ac 0) ?_
 refine sv 8 (iT 0) (za0 (aH _ _ ?_))
 refine wp_seq_k (fun aM aD=>wp_seq_k (fun aR aA=>rg [0,1] (sv 16 (iT 0) ?_)))
 refine sv 17 (.bool true) (za0 (aA _ _ ?_))
 refine wp_cond_true rfl ?_
 refine rg [0,1,2,3] (sv 18 (pT ac 0) ?_)
 refine sv 19 vc ?_
 refine se ?_
 refine ec 20 (zl2 ok ay (⟨ai,ah,ad,aj,af,ae⟩:Dsk _ D _ _ _ _ _ _) (hc.gr za2 hB)) ?_
 rintro aQ aW ⟨rfl,au⟩
 refine ⟨_,rfl,?_⟩
 replace hB:=hB.trans au
 simp only [p3,p4]
 refine sv 8 (iT (D.ce c)) (za0 (aD _ _ ?_))
 refine wp_seq_k (fun a0 aw=>wp_seq_k (fun aX aG=>rg [0,1,2,3,4,5,6,7,8,9,10,11,12] (sv 21 (iT (D.ce c)) ?_)))
 have ap:(D.ce c==(0:Int))=true:=(by simp;omega)
 refine sw 22 (.bool true) rfl (RunV.bool (x:=(D.ce c==(0:Int))) (rvk (by kernel_rfl)) ap) ?_
 refine sv 23 (.bool true) ?_
 refine sv 24 (iT (z)) ?_
 have aq:(decide (z<(0:Int)))=false:=(by simp only [decide_eq_false_iff_not];omega)
 refine sw 25 (.bool false) rfl (RunV.bool (x:=decide (z<(0:Int))) (rvk (by kernel_rfl)) aq) ?_
 refine sv 26 (.bool false) ?_
 refine sv 27 (iT (z)) ?_
 refine sv 28 (pT ax 2) ?_
 replace ak:=ak.gr (ar.trans au)
 refine sw 29 rs rfl (rk 24 2 ak) ?_
 refine sw 30 (iT ((D.q:Nat):Int)) rfl (za9 (e:=80) ad (za8 rfl) _ _ rfl rfl (by kernel_rfl)) ?_
 have al:(decide (((D.q:Nat):Int)≤z))=true:=(by simp only [decide_eq_true_eq];omega)
 refine sw 31 (.bool true) rfl (RunV.bool (x:=decide (((D.q:Nat):Int)≤z)) (rvk (by kernel_rfl)) al) ?_
 refine sv 32 (.bool true) ?_
 refine sv 33 (.bool true) (za0 (aG _ _ ?_))
 refine wp_cond_true rfl ?_
 refine rg [0] (sv 8 (iT 2) ?_)
 refine za0 (aw _ _ ?_)
 refine wp_seq_k (fun aK aY=>wp_seq_k (fun aJ aE=>rg [0,1] (sv 34 (iT 2) ?_)))
 refine sv 35 (.bool true) (za0 (aE _ _ ?_))
 refine wp_cond_true rfl ?_
 refine wp_seq_k (fun aP aF=>rg [0,1,2,3] (sv 36 (iT 2) ?_))
 refine sv 6 (sV []) ?_
 refine sv 7 (sV []) ?_
 refine sv 8 (iT 2) (za0 (aF _ _ ?_))
 refine wp_ret ?_
 simp only [Exit.then]
 refine bodyPost_ret (v:=(.tuple #[sV [],sV [],iT 2])) (zo1 rfl rfl rfl rfl) rfl ⟨?_,hB⟩
 exact rfl

end Go.Proofs.YtjhflekncldflaaGreatDoor
namespace Go.Proofs.YtjhflekncldflaaGreatDoor
set_option maxRecDepth 100000
set_option maxHeartbeats 1000000
open Go.RowKit

theorem imin_t {f:Nat→Int} {k:Nat} (h:f k - zj8 f k<0):f k=zj8 f (k+1):=by
 show _=if f k<zj8 f k then f k else zj8 f k
 rw [if_pos (by omega)]
theorem imin_f {f:Nat→Int} {k:Nat} (h:¬ f k - zj8 f k<0):zj8 f k=zj8 f (k+1):=by
 show _=if f k<zj8 f k then f k else zj8 f k
 rw [if_neg (by omega)]
theorem imin_one {f:Nat→Int}:f 0=zj8 f 1:=by
 show _=if f 0<f 0 then f 0 else f 0
 split<;>rfl
theorem imin_bd {f:Nat→Int}:∀ {k:Nat},0<k→(∀ j,j<k→0≤f j∧f j≤1048576)→0≤zj8 f k∧zj8 f k≤1048576:=fun hk h=>by
 obtain ⟨i,hi,e⟩:=zD3 f hk
 rw [e];exact h i hi
theorem opn_cmp {a0 a1 a2 b0 b1 b2:Int} (_ha:0≤a2∧a2≤1048576) (_hb:0≤b2∧b2≤1048576) {w:World}:
    Calls Tryz.prog 78 #[.agg #[iT (a0),iT (a1),iT (a2)],.agg #[iT (b0),iT (b1),iT (b2)]] w fun e w'=>e=.returned (iT (a2 - b2))∧Gr w w':=by
 go_enter Tryz.func78,Tryz.ntmps78
 have hB:=Gr.refl w
 refine wp_seq_k (fun aw ac=>rg [0,1,2] ?_)
 refine se ?_
 refine eb 68 #[iT (a0),iT (a1),iT (a2)] 2 hB fun ae ap al aa au aq hB=>?_
 simp only [p3,p4]
 refine se ?_
 refine eb 68 #[iT (b0),iT (b1),iT (b2)] 3 hB fun ai ak ah af av ar hB=>?_
 simp only [p3,p4]
 refine sv 4 (iT 0) (za0 (ac _ _ ?_))
 refine wp_seq_k (fun aj ad=>rg [0,1,2,3,4,5] (sv 5 (pT ae 2) ?_))
 replace aa:=aa.gr ah
 refine sw 6 (iT (a2)) rfl (rk 3 2 aa) ?_
 refine sv 7 (pT ai 2) ?_
 refine sw 8 (iT (b2)) rfl (rk 3 2 af) ?_
 refine sw 9 (iT (a2 - b2)) rfl (rwI (a2 - b2)) ?_
 refine sv 4 (iT (a2 - b2)) (za0 (ad _ _ ?_))
 refine wp_ret ?_
 refine bodyPost_ret (v:=(iT (a2 - b2))) (za3 rfl rfl) rfl ⟨?_,hB⟩
 exact rfl

theorem min_opt {D:Ofr} {i:Nat} (ok:D.Ok) (hi:i<D.n) {v:Value} {w:World} (hv:Sl EOp 68 3 w v (tb (fun z1=>(D.op i z1)) (D.ol i))):
    Calls Tryz.prog 77 #[v,(.func (.func 78) #[] #[])] w fun e w'=>(∃ x y,e=.returned (.agg #[iT x,iT y,iT (D.ch i)]))∧Gr w w':=by
 have a8:=ok.o1 i hi
 have aY:=ok.o2 i hi
 go_enter Tryz.func77,Tryz.ntmps77
 have hB:=Gr.refl w
 refine wp_seq_k (fun bk az=>rg [0] ?_)
 refine se ?_
 refine ea 68 #[iT 0,iT 0,iT 0] 4 hB fun aw bf aU ad a2 aL hB=>?_
 simp only [p3,p4]
 refine za0 (az _ _ ?_)
 refine wp_seq_k (fun a6 aR=>wp_seq_k (fun aS aB=>rg [0,1,2] (sv 7 v ?_)))
 refine sw 8 (iT ((D.ol i:Nat):Int)) rfl (za9 (e:=68) hv (za8 rfl) _ _ rfl rfl (by kernel_rfl)) ?_
 have al:(decide (((D.ol i:Nat):Int)<(1:Int)))=false:=(by simp only [decide_eq_false_iff_not];omega)
 refine sw 9 (.bool false) rfl (RunV.bool (x:=decide (((D.ol i:Nat):Int)<(1:Int))) (rvk (by kernel_rfl)) al) ?_
 refine za0 (aB _ _ ?_)
 refine wp_cond_false rfl ?_
 refine wp_skip ?_
 refine aR _ _ ?_
 refine wp_seq_k (fun bb aF=>rg [0,1,2,3,4] (sv 11 v ?_))
 refine sw 12 (adr v (0*3)) rfl (zb1 (e:=68) hv za7 (by decide) 0 (by omega) _ _ _ rfl rfl rfl (by kernel_rfl) (by kernel_rfl)) ?_
 obtain ⟨_,_,rfl,ar⟩:=Sl.get hv (by decide) (zb5 (f:=(fun z1=>(D.op i z1))) (n:=(D.ol i)) (i:=0) (by omega))
 refine sw 13 (.agg #[iT (D.lo i 0),iT (D.up i 0),iT (D.co i 0)]) rfl (ze7 [iT (D.lo i 0),iT (D.up i 0),iT (D.co i 0)] (ar.gr hB) _ _ rfl rfl (by kernel_rfl)) ?_
 refine se ?_
 refine ea 68 #[iT 0,iT 0,iT 0] 5 hB fun ap a4 aQ ac aJ ay hB=>?_
 have ae:=ad.ne aJ
 simp only [p3,p4]
 refine se ?_
 refine es 68 0 (.agg #[iT (D.lo i 0),iT (D.up i 0),iT (D.co i 0)]) [iT (D.lo i 0),iT (D.up i 0),iT (D.co i 0)] #[iT (D.lo i 0),iT (D.up i 0),iT (D.co i 0)] ac hB ay ⟨rfl,rfl,rfl,trivial⟩ fun a7 au aD ac hB=>?_
 refine za0 (aF _ _ ?_)
 refine wp_seq_k (fun aT aC=>wp_seq_k (fun bj aE=>rg [0] (sv 6 (iT 1) ?_)))
 refine za0 (aE _ _ ?_)
 refine wp_block ?_
 rw [imin_one (f:=D.co i)] at ac
 replace ad:=au.lc (ad.gr aQ) ae
 refine zb2 (a:=⟨List.toArray ?l21,[]⟩) (fun n a w'=>∃ (k:Nat) (x:Int) (y:Int) (aa:Nat→Value),(D.ol i) - k=n∧a=⟨[v,(.func (.func 78) #[] #[]),undef,undef,pT aw 0,pT ap 0,iT (k:Int),aa 7,aa 8,.bool false,undef,aa 11,aa 12,aa 13,aa 14,aa 15,aa 16,aa 17,aa 18,aa 19,aa 20,aa 21,aa 22,aa 23,aa 24,aa 25,aa 26,aa 27,aa 28,aa 29,aa 30,aa 31,undef].toArray,[]⟩∧k≤(D.ol i)∧0<k∧Lc w' aw #[iT 0,iT 0,iT 0] 68∧Lc w' ap #[iT (x),iT (y),iT (zj8 (D.co i) k)] 68∧Gr w w') (D.ol i - 1) ?_ ?_
 ·exact ⟨1,_,_,(fun i=>List.getD ?l21 i undef),rfl,rfl,ok.o1 i hi,(by omega),ad,ac,hB⟩
 rintro bh a9 aK ⟨k,x,y,aa,rfl,rfl,hkk,aI,ad,ac,hB⟩ ba av
 have hck:k<D.ol i→0≤D.co i k∧D.co i k≤1048576:=fun h=>ok.co i k hi h
 have hmk:0≤zj8 (D.co i) k∧zj8 (D.co i) k≤1048576:=imin_bd aI fun j hj=>ok.co i j hi (by omega)
 refine wp_seq_k (fun aZ aP=>wp_seq_k (fun aX aO=>rg [0,1,2,3] (sv 14 (iT (k:Int)) ?_)))
 refine sv 15 v ?_
 refine sw 16 (iT ((D.ol i:Nat):Int)) rfl (za9 (e:=68) hv (za8 rfl) _ _ rfl rfl (by kernel_rfl)) ?_
 refine sv 17 (.bool (decide ((k:Int)<((D.ol i:Nat):Int)))) (za0 (aO _ _ ?_))
 refine wp_cond_split rfl (fun ah=>?_) (fun ah=>?_)
 ·have hlk:k<(D.ol i):=by have:=of_decide_eq_true ah;omega
  refine wp_skip ?_
  refine aP _ _ ?_
  refine wp_seq_k (fun a5 ax=>?_)
  refine wp_block ?_
  refine wp_seq_k (fun aW aM=>?_)
  obtain ⟨_,_,rfl,aj⟩:=Sl.get hv (by decide) (zb5 (f:=(fun z1=>(D.op i z1))) (n:=(D.ol i)) (i:=k) (by omega))
  have af:=Gr.drew aK
  replace hB:=hB.trans af
  replace ac:=ac.gr af
  refine za5 (fun w'=>Lc w' ap #[iT (x),iT (y),iT (zj8 (D.co i) k)] 68∧AtV w' v (k*3) [iT (D.lo i k),iT (D.up i k),iT (D.co i k)]) [(true,0),(true,1),(true,2),(true,3),(true,4),(true,5),(false,6),(true,7)] (by kernel_rfl) (by kernel_rfl) (by kernel_rfl) (by decide) (fun _ _ _ _ _ h=>h) ⟨ac,aj.gr hB⟩ ?_
  refine ov 20 (.func (.func 78) #[] #[]) ?_
  refine ov 21 v ?_
  refine ov 22 (iT (k:Int)) ?_
  refine ow 23 (adr v (k*3)) rfl (fun w' hS=>(zb1 (e:=68) hv za7 (by decide) k (by omega) _ _ _ rfl rfl rfl (by kernel_rfl) (by kernel_rfl))) ?_
  refine ow 24 (.agg #[iT (D.lo i k),iT (D.up i k),iT (D.co i k)]) rfl (fun w' hS=>(ze7 [iT (D.lo i k),iT (D.up i k),iT (D.co i k)] hS.2 _ _ rfl rfl (by kernel_rfl))) ?_
  refine ow 25 (.agg #[iT (x),iT (y),iT (zj8 (D.co i) k)]) rfl (fun w' hS=>(rl 68 0 [iT (x),iT (y),iT (zj8 (D.co i) k)] hS.1)) ?_
  refine oe ?_
  refine ec 26 (opn_cmp (a0:=(D.lo i k)) (a1:=(D.up i k)) (b0:=x) (b1:=y) (hck hlk) hmk) ?_
  rintro aV a3 ⟨rfl,ak⟩
  refine ⟨_,rfl,?_⟩
  replace hB:=hB.trans ak
  replace ac:=ac.gr ak
  refine ⟨⟨ac,aj.gr hB⟩,?_⟩
  simp only [p3,p4]
  refine ov 27 (.bool (decide (((D.co i k) - (zj8 (D.co i) k))<(0:Int)))) ?_
  refine zb4 ?_
  refine aM _ _ ?_
  refine wp_cond_split rfl (fun ai=>?_) (fun ai=>?_)
  ·have hlt:=of_decide_eq_true ai
   refine rg [0,1,2,3,4] (sv 28 v ?_)
   refine sv 29 (iT (k:Int)) ?_
   refine sw 30 (adr v (k*3)) rfl (zb1 (e:=68) hv za7 (by decide) k (by omega) _ _ _ rfl rfl rfl (by kernel_rfl) (by kernel_rfl)) ?_
   refine sw 31 (.agg #[iT (D.lo i k),iT (D.up i k),iT (D.co i k)]) rfl (ze7 [iT (D.lo i k),iT (D.up i k),iT (D.co i k)] (aj.gr hB) _ _ rfl rfl (by kernel_rfl)) ?_
   refine se ?_
   refine es 68 0 (.agg #[iT (D.lo i k),iT (D.up i k),iT (D.co i k)]) [iT (D.lo i k),iT (D.up i k),iT (D.co i k)] #[iT (D.lo i k),iT (D.up i k),iT (D.co i k)] ac hB ay ⟨rfl,rfl,rfl,trivial⟩ fun bi aq aA ac hB=>?_
   refine za0 (ax _ _ ?_)
   refine rg [0,1,2] (sv 18 (iT (k:Int)) ?_)
   refine sw 19 (iT ((k:Int)+1)) rfl (rwI ((k:Int)+1)) ?_
   refine sv 6 (iT ((k:Int)+1)) ?_
   refine za0 ?_
   rw [imin_t (f:=D.co i) hlt] at ac
   replace ad:=aq.lc (ad.gr (af.trans ak)) ae
   refine av (D.ol i - (k+1)) ⟨List.toArray ?l36,[]⟩ _ (by omega) ?_
   exact ⟨k+1,_,_,(fun i=>List.getD ?l36 i undef),rfl,rfl,(by omega),(by omega),ad,ac,hB⟩
  have hlt:=of_decide_eq_false ai
  refine wp_skip ?_
  refine ax _ _ ?_
  refine rg [0,1,2] (sv 18 (iT (k:Int)) ?_)
  refine sw 19 (iT ((k:Int)+1)) rfl (rwI ((k:Int)+1)) ?_
  refine sv 6 (iT ((k:Int)+1)) ?_
  refine za0 ?_
  rw [imin_f (f:=D.co i) hlt] at ac
  replace ad:=ad.gr (af.trans ak)
  refine av (D.ol i - (k+1)) ⟨List.toArray ?l37,[]⟩ _ (by omega) ?_
  exact ⟨k+1,_,_,(fun i=>List.getD ?l37 i undef),rfl,rfl,(by omega),(by omega),ad,ac,hB⟩
 have hek:(D.ol i)=k:=by have:=of_decide_eq_false ah;omega
 refine wp_exit ?_
 simp only [Exit.then,Exit.inBlock,↓reduceIte]
 refine aC _ _ ?_
 refine wp_seq_k (fun bl aG=>rg [0,1] ?_)
 refine sw 32 (.agg #[iT (x),iT (y),iT (zj8 (D.co i) k)]) rfl (rl 68 0 [iT (x),iT (y),iT (zj8 (D.co i) k)] ac) ?_
 refine se ?_
 refine es 68 0 (.agg #[iT (x),iT (y),iT (zj8 (D.co i) k)]) [iT (x),iT (y),iT (zj8 (D.co i) k)] #[iT (x),iT (y),iT (zj8 (D.co i) k)] ad hB aL ⟨rfl,rfl,rfl,trivial⟩ fun bg aH aN ad hB=>?_
 refine za0 (aG _ _ ?_)
 refine wp_ret ?_
 refine bodyPost_ret (v:=(.agg #[iT (x),iT (y),iT (zj8 (D.co i) k)])) (zc8 _ _ _ rfl rfl ad (by kernel_rfl)) rfl ⟨?_,hB⟩
 exact ⟨x,y,by unfold Ofr.ch;rw [hek]⟩

end Go.Proofs.YtjhflekncldflaaGreatDoor
namespace Go.Proofs.YtjhflekncldflaaGreatDoor
open Go.RowKit

theorem noname (x:Nat) (w:World):Calls Tryz.prog 99 #[.int .i32 (x:Int)] w fun e w'=>e=.returned (.bool (decide (x<33)||decide (126<x)))∧∃ q,w'=w.drewN q:=by
 by_cases h1:(x:Int)<33
 ·have e1:decide (x<33)=true:=by simp;omega
  have E:=Lib.hid e1
  clear e1
  go_enter Tryz.func99,Tryz.ntmps99
  go_wp2
  go_ret
  exact ⟨by rw [E.out];rfl,0,rfl⟩
 have e1:decide (x<33)=false:=by simp;omega
 by_cases h2:126<(x:Int)
 ·have e2:(decide (x<33)||decide (126<x))=true:=by simp;omega
  have E:=Lib.hid e2
  clear e1 e2
  go_enter Tryz.func99,Tryz.ntmps99
  go_wp2
  go_ret
  exact ⟨by rw [E.out];rfl,0,rfl⟩
 have e2:(decide (x<33)||decide (126<x))=false:=by simp;omega
 have E:=Lib.hid e2
 clear e1 e2
 go_enter Tryz.func99,Tryz.ntmps99
 go_wp2
 go_ret
 exact ⟨by rw [E.out];rfl,0,rfl⟩
end Go.Proofs.YtjhflekncldflaaGreatDoor
namespace Go.Proofs.YtjhflekncldflaaGreatDoor
open Go.ChangeShapes Go.WideShapes Go.ChangeAt Go.RowKit
section
variable {α:Type} {H:Type} {enc:TypeId × Value→H} {P:Program} {W:World} {base base2:Nat} {sp:Nat→Bool} {held:Bool}
def ESl (E:World→α→List Value→Prop) (c:Nat) (w:World) (x:List α) (vs:List Value):Prop:=∃ (u:Value) (T:Nat),vs=[u]∧Sl E T c w u x
end
end Go.Proofs.YtjhflekncldflaaGreatDoor
namespace Go.Proofs.YtjhflekncldflaaGreatDoor
open Go.RowKit
def fe (f:Nat→Int):Nat→Int
 | 0=>0
 | k+1=>if fe f k=0 then f k else fe f k
theorem zp1 {f:Nat→Int}:∀ {n:Nat},fe f n=0↔∀ i,i<n→f i=0
 | 0=>⟨fun _ i h=>absurd h (Nat.not_lt_zero i),fun _=>rfl⟩
 | n+1=>by
  unfold fe
  constructor
  ·intro h i hi
   split at h
   ·next h0=>
    rcases Nat.lt_or_eq_of_le (Nat.le_of_lt_succ hi) with h1 | rfl
    ·exact zp1.1 h0 i h1
    exact h
   next h0=>exact absurd h h0
  intro h
  rw [if_pos (zp1.2 fun i hi=>h i (by omega))]
  exact h n (by omega)
theorem zR7 {f:Nat→Int} {k:Nat} (h0:fe f k=0) (hz:f k=0):fe f (k+1)=0:=by
 unfold fe;rw [if_pos h0];exact hz
theorem zV7 {f:Nat→Int} {k:Nat} (h0:fe f k=0) (hz:f k≠0):∀ {n:Nat},k<n→fe f n=f k
 | n+1,hk=>by
  unfold fe
  rcases Nat.lt_or_eq_of_le (Nat.le_of_lt_succ hk) with h1 | rfl
  ·rw [zV7 h0 hz h1,if_neg hz]
  rw [if_pos h0]
theorem zq6 {f:Nat→Int} {k n:Nat} {z:Int} (h0:fe f k=0) (hk:k<n) (e:f k=z) (hz:z≠0):fe f n=z:=by
 rw [zV7 h0 (by rw [e];exact hz) hk,e]
def isNm (X:List UInt8):Bool:=decide (0<X.length)&&(decide (X.length≤40)&&!(decide (0≤Lib.idxFunc (fun x=>decide (x<33)||decide (126<x)) true ⟨X.toArray⟩)))
noncomputable def zh2 (X:List UInt8):Rat:=if h:ck2 X 400=0 then (zC1 h).1.choose else 0
theorem zV8 {X:List UInt8} (h:ck2 X 400=0):X=zc3 (zh2 X):=by
 unfold zh2
 rw [dif_pos h]
 exact (zC1 h).1.choose_spec
theorem zV9 {X:List UInt8} (h:ck2 X 400≠0):zh2 X=0:=dif_neg h
structure Dmn where
 nm:List UInt8
 no:Int
 lo:Int
 up:Int
structure Exl where
 op:Int
 c:List UInt8
 tn:Nat
 tm:Nat→Int × List UInt8
 k:List UInt8
 na:Nat
structure Rqg where
 nm:List UInt8
 x:Exl
 ag:Nat→Exl
 lo:List UInt8
 hi:List UInt8
structure Offg where
 n:Nat
 dm:Nat→Dmn
 m:Nat
 ol:Nat→Nat
 op:Nat→Nat→Int × Int × Int
 q:Nat
 rq:Nat→Rqg
def zh3 (z:Int):Bool:=decide (1073741824<z)||decide (z< -1073741824)
def zi1 (nm:Nat→List UInt8) (i:Nat) (X:List UInt8):Bool:=(List.range i).any fun j=>nm j==X
def dke (dm:Nat→Dmn) (i:Nat):Int:=
 if isNm (dm i).nm=false then 11 else if zh3 (dm i).no||(zh3 (dm i).lo||zh3 (dm i).up) then 2 else if (dm i).up<(dm i).lo then 8
 else if zi1 (fun j=>(dm j).nm) i (dm i).nm then 9 else 0
def dck (dm:Nat→Dmn) (n:Nat):Int:=if 64<n then 6 else fe (dke dm) n
def tol (dm:Nat→Dmn) (n:Nat):Bool:=(List.range n).any fun i=>(dm i).lo !=0||(dm i).up !=0
def ope (x:Int × Int × Int):Int:=
 if zh3 x.1||(zh3 x.2.1||(decide (x.2.2<0)||decide (1048576<x.2.2))) then 2 else if x.2.1<x.1 then 8 else 0
def opl (f:Nat→Int × Int × Int) (n:Nat):Int:=if n=0 then 7 else if 8<n then 6 else fe (fun k=>ope (f k)) n
def chn (ol:Nat→Nat):Nat→Nat
 | 0=>1
 | k+1=>if 4097<chn ol k*ol k then 4097 else chn ol k*ol k
noncomputable def zJ3 (n:Nat) (tm:Nat→Int × List UInt8) (i:Nat):Int:=
 if (tm i).1<0∨(n:Int)≤(tm i).1 then 2 else if 0<i∧(tm i).1≤(tm (i - 1)).1 then 8
 else if ck2 (tm i).2 400≠0 then ck2 (tm i).2 400 else if zh2 (tm i).2=0 then 19 else 0
noncomputable def zN5 (n:Nat) (c:List UInt8) (tn:Nat) (tm:Nat→Int × List UInt8):Int:=
 if ck2 c 400≠0 then ck2 c 400 else if 64<tn then 6 else fe (zJ3 n tm) tn
def Exl.odd (x:Exl):Bool:=(decide (x.op≠0)&&(decide (x.c≠[])||decide (0<x.tn)))||(decide (x.op≠2)&&decide (x.k≠[]))
noncomputable def nde (n:Nat) (x:Exl):Int:=
 if x.odd then (if 0≤x.op∧x.op≤5 then 3 else 12)
 else if x.op=0 then (if 0<x.na then 3 else zN5 n x.c x.tn x.tm)
 else if x.op=1∨x.op=3∨x.op=4 then (if x.na=0 then 3 else 0)
 else if x.op=5∨x.op=2 then (if x.na≠1 then 3 else if x.op=2 then ck2 x.k 400 else 0)
 else 12
noncomputable def exe (n:Nat) (x:Exl) (ag:Nat→Exl):Int:=if nde n x≠0 then nde n x else fe (fun i=>nde n (ag i)) x.na
noncomputable def rqe (n:Nat) (rq:Nat→Rqg) (i:Nat):Int:=
 if isNm (rq i).nm=false then 11 else if zi1 (fun j=>(rq j).nm) i (rq i).nm then 9
 else if exe n (rq i).x (rq i).ag≠0 then exe n (rq i).x (rq i).ag else if (rq i).x.op≠0 then 12
 else if (rq i).lo≠[]∧ck2 (rq i).lo 400≠0 then ck2 (rq i).lo 400 else if (rq i).hi≠[]∧ck2 (rq i).hi 400≠0 then ck2 (rq i).hi 400
 else if (rq i).lo≠[]∧(rq i).hi≠[]∧zh2 (rq i).hi<zh2 (rq i).lo then 8 else 0
noncomputable def Offg.chk (D:Offg):Int:=
 if D.n=0 then 7 else if 12<D.n then 6 else if dck D.dm D.n≠0 then dck D.dm D.n else if tol D.dm D.n then 3 else if D.m≠D.n then 13
 else if fe (fun i=>opl (D.op i) (D.ol i)) D.m≠0 then fe (fun i=>opl (D.op i) (D.ol i)) D.m
 else if 4096<chn D.ol D.m∨16<D.q then 6 else fe (rqe D.n D.rq) D.q
def EDg (_:World) (d:Dmn) (vs:List Value):Prop:=vs=[zf1 d.nm,.int .i64 d.no,.int .i64 d.lo,.int .i64 d.up]
theorem zb3:zo6 EDg []:=fun _ _ _ _ _ h=>h
def ETr (_:World) (x:Int × List UInt8) (vs:List Value):Prop:=vs=[.int .i64 x.1,zf1 x.2]
theorem zC4:zo6 ETr []:=fun _ _ _ _ _ h=>h
def EXl (w:World) (x:Exl) (vs:List Value):Prop:=∃ (u:Value) (T:Nat) (ao:Option Addr) (cap:Nat),vs=[.int .i64 x.op,zf1 x.c,u,zf1 x.k,.slice ao x.na cap]∧Sl ETr T 2 w u (tb x.tm x.tn)
def ERg (w:World) (r:Rqg) (vs:List Value):Prop:=∃ (u:Value) (T:Nat) (v:Value) (S:Nat),vs=[zf1 r.nm,.int .i64 r.x.op,zf1 r.x.c,u,zf1 r.x.k,v,zf1 r.lo,zf1 r.hi]∧Sl ETr T 2 w u (tb r.x.tm r.x.tn)∧Sl EXl S 5 w v (tb r.ag r.x.na)
end Go.Proofs.YtjhflekncldflaaGreatDoor
namespace Go.Proofs.YtjhflekncldflaaGreatDoor
set_option maxRecDepth 100000
set_option maxHeartbeats 4000000
open Go.RowKit

theorem far_a {z:Int} (h:z< -1073741824):true=zh3 z:=by unfold zh3;simp [h]
theorem far_b {z:Int} (h:1073741824<z):true=zh3 z:=by unfold zh3;simp [h]
theorem far_c {z:Int} (h:¬ z< -1073741824):decide ((1073741824:Int)<z)=zh3 z:=by unfold zh3;simp [h]
theorem far_d {z:Int} (h:¬ 1073741824<z):decide (z<(-1073741824:Int))=zh3 z:=by unfold zh3;simp [h]
theorem zX1 {z:Int} {w:World}:
    Calls Tryz.prog 76 #[iT (z)] w fun e w'=>e=.returned (.bool (zh3 z))∧Gr w w':=by
 go_enter Tryz.func76,Tryz.ntmps76
 have hB:=Gr.refl w
 refine wp_seq_k (fun ad ac=>rg [0] (sv 2 (.bool false) ?_))
 refine za0 (ac _ _ ?_)
 refine wp_seq_k (fun ae aa=>rg [0,1,2,3,4,5,6] (sv 3 (iT (z)) ?_))
 refine sv 4 (.bool (decide (z<(-1073741824:Int)))) ?_
 rcases Bool.eq_false_or_eq_true (decide (z<(-1073741824:Int))) with hb12 | hb12
 ·refine sw 5 (.bool true) rfl (RunV.bool (x:=decide (z<(-1073741824:Int))) (rvk (by kernel_rfl)) hb12) ?_
  refine ss 6 ?_
  refine ss 7 ?_
  refine sv 8 (.bool true) ?_
  refine sv 2 (.bool true) (za0 (aa _ _ ?_))
  refine wp_ret ?_
  refine bodyPost_ret (v:=(.bool true)) (za3 rfl rfl) rfl ⟨?_,hB⟩
  exact congrArg (fun b=>Ending.returned (.bool b)) (by first | exact far_a (of_decide_eq_true (by assumption)) | exact far_b (of_decide_eq_true (by assumption)) | exact far_c (of_decide_eq_false (by assumption)) | exact far_d (of_decide_eq_false (by assumption)))
 refine sw 5 (.bool false) rfl (RunV.bool (x:=decide (z<(-1073741824:Int))) (rvk (by kernel_rfl)) hb12) ?_
 refine sv 6 (iT (z)) ?_
 refine sv 7 (.bool (decide ((1073741824:Int)<z))) ?_
 refine sv 8 (.bool (decide ((1073741824:Int)<z))) ?_
 refine sv 2 (.bool (decide ((1073741824:Int)<z))) (za0 (aa _ _ ?_))
 refine wp_ret ?_
 refine bodyPost_ret (v:=(.bool (decide ((1073741824:Int)<z)))) (za3 rfl rfl) rfl ⟨?_,hB⟩
 exact congrArg (fun b=>Ending.returned (.bool b)) (by first | exact far_a (of_decide_eq_true (by assumption)) | exact far_b (of_decide_eq_true (by assumption)) | exact far_c (of_decide_eq_false (by assumption)) | exact far_d (of_decide_eq_false (by assumption)))

theorem zK2 {z:Int} {w:World}:
    Calls Tryz.prog 71 #[iT (z)] w fun e w'=>e=.returned (.bool (zh3 z))∧Gr w w':=by
 go_enter Tryz.func71,Tryz.ntmps71
 have hB:=Gr.refl w
 refine wp_seq_k (fun ad ac=>rg [0] (sv 2 (.bool false) ?_))
 refine za0 (ac _ _ ?_)
 refine wp_seq_k (fun ae aa=>rg [0,1,2,3,4,5,6] (sv 3 (iT (z)) ?_))
 refine sv 4 (.bool (decide ((1073741824:Int)<z))) ?_
 rcases Bool.eq_false_or_eq_true (decide ((1073741824:Int)<z)) with hb12 | hb12
 ·refine sw 5 (.bool true) rfl (RunV.bool (x:=decide ((1073741824:Int)<z)) (rvk (by kernel_rfl)) hb12) ?_
  refine ss 6 ?_
  refine ss 7 ?_
  refine sv 8 (.bool true) ?_
  refine sv 2 (.bool true) (za0 (aa _ _ ?_))
  refine wp_ret ?_
  refine bodyPost_ret (v:=(.bool true)) (za3 rfl rfl) rfl ⟨?_,hB⟩
  exact congrArg (fun b=>Ending.returned (.bool b)) (by first | exact far_a (of_decide_eq_true (by assumption)) | exact far_b (of_decide_eq_true (by assumption)) | exact far_c (of_decide_eq_false (by assumption)) | exact far_d (of_decide_eq_false (by assumption)))
 refine sw 5 (.bool false) rfl (RunV.bool (x:=decide ((1073741824:Int)<z)) (rvk (by kernel_rfl)) hb12) ?_
 refine sv 6 (iT (z)) ?_
 refine sv 7 (.bool (decide (z<(-1073741824:Int)))) ?_
 refine sv 8 (.bool (decide (z<(-1073741824:Int)))) ?_
 refine sv 2 (.bool (decide (z<(-1073741824:Int)))) (za0 (aa _ _ ?_))
 refine wp_ret ?_
 refine bodyPost_ret (v:=(.bool (decide (z<(-1073741824:Int))))) (za3 rfl rfl) rfl ⟨?_,hB⟩
 exact congrArg (fun b=>Ending.returned (.bool b)) (by first | exact far_a (of_decide_eq_true (by assumption)) | exact far_b (of_decide_eq_true (by assumption)) | exact far_c (of_decide_eq_false (by assumption)) | exact far_d (of_decide_eq_false (by assumption)))

section
variable {m i:Nat} {p:Nat→Int × Int × Int}
theorem opl_7 (h:(m:Int)=0):7=opl p m:=by unfold opl;rw [if_pos (by omega)]
theorem opl_6 (h2:(8:Int)<(m:Int)):6=opl p m:=by unfold opl;rw [if_neg (by omega),if_pos (by omega)]
theorem opl_0 (h:¬ (m:Int)=0) (h2:¬ (8:Int)<(m:Int)) (hf:fe (fun k=>ope (p k)) m=0):0=opl p m:=by unfold opl;rw [if_neg (by omega),if_neg (by omega),hf]
theorem zX2 (h:¬ (m:Int)=0) (h2:¬ (8:Int)<(m:Int)) (hf:fe (fun k=>ope (p k)) i=0) (hi:i<m) {z:Int} (hz:ope (p i)=z) (h0:z≠0):z=opl p m:=by
 unfold opl;rw [if_neg (by omega),if_neg (by omega),zq6 hf hi hz h0]
theorem ope_2 {x:Int × Int × Int} (h:zh3 x.1=true∨zh3 x.2.1=true∨x.2.2<0∨1048576<x.2.2):ope x=2:=by unfold ope;rw [if_pos];rcases h with h | h | h | h<;>simp [h]
theorem ope_8 {x:Int × Int × Int} (h1:zh3 x.1=false) (h2:zh3 x.2.1=false) (h3:¬ x.2.2<0) (h4:¬ 1048576<x.2.2) (h:x.2.1<x.1):ope x=8:=by unfold ope;rw [if_neg (by simp [h1,h2];omega),if_pos h]
theorem ope_0 {x:Int × Int × Int} (h1:zh3 x.1=false) (h2:zh3 x.2.1=false) (h3:¬ x.2.2<0) (h4:¬ 1048576<x.2.2) (h:¬ x.2.1<x.1):ope x=0:=by unfold ope;rw [if_neg (by simp [h1,h2];omega),if_neg h]
end
theorem al_opts {m T:Nat} {p:Nat→Int × Int × Int} {v:Value} {w:World} (hv:Sl EOp T 3 w v (tb (fun z1=>(p z1)) m)):
    Calls Tryz.prog 44 #[v] w fun e w'=>e=.returned (iT (opl p m))∧Gr w w':=by
 go_enter Tryz.func44,Tryz.ntmps44
 have hB:=Gr.refl w
 refine wp_seq_k (fun bo ar=>rg [0] (sv 2 (iT 0) ?_))
 refine za0 (ar _ _ ?_)
 refine wp_seq_k (fun aU aD=>?_)
 refine wp_block ?_
 refine wp_seq_k (fun a1 aQ=>rg [0,1,2,3] (sv 6 v ?_))
 refine sw 7 (iT (m:Int)) rfl (za9 (e:=68) hv (za8 rfl) _ _ rfl rfl (by kernel_rfl)) ?_
 refine sv 8 (.bool ((m:Int)==(0:Int))) ?_
 refine sv 5 (.bool ((m:Int)==(0:Int))) (za0 (aQ _ _ ?_))
 refine wp_cond_split rfl (fun ai=>?_) (fun ai=>?_)
 ·have h7:(m:Int)=0:=beq_iff_eq.1 ai
  refine wp_seq_k (fun aZ aI=>rg [0] (sv 2 (iT 7) ?_))
  refine za0 (aI _ _ ?_)
  refine wp_ret ?_
  simp only [Exit.then,Exit.inBlock]
  refine bodyPost_ret (v:=(iT 7)) (za3 rfl rfl) rfl ⟨?_,hB⟩
  exact congrArg (fun z=>Ending.returned (iT z)) (opl_7 h7)
 have h7:¬ ((m:Int)=0):=beq_eq_false_iff_ne.1 ai
 refine wp_seq_k (fun a9 aF=>rg [0,1,2,3] (sv 10 v ?_))
 refine sw 11 (iT (m:Int)) rfl (za9 (e:=68) hv (za8 rfl) _ _ rfl rfl (by kernel_rfl)) ?_
 refine sv 12 (.bool (decide ((8:Int)<(m:Int)))) ?_
 refine sv 9 (.bool (decide ((8:Int)<(m:Int)))) (za0 (aF _ _ ?_))
 refine wp_cond_split rfl (fun ah=>?_) (fun ah=>?_)
 ·have h6:(8:Int)<(m:Int):=of_decide_eq_true ah
  refine wp_seq_k (fun bp aA=>rg [0] (sv 2 (iT 6) ?_))
  refine za0 (aA _ _ ?_)
  refine wp_ret ?_
  simp only [Exit.then,Exit.inBlock]
  refine bodyPost_ret (v:=(iT 6)) (za3 rfl rfl) rfl ⟨?_,hB⟩
  exact congrArg (fun z=>Ending.returned (iT z)) (opl_6 h6)
 have h6:¬ ((8:Int)<(m:Int)):=of_decide_eq_false ah
 refine wp_skip ?_
 refine aD _ _ ?_
 refine wp_seq_k (fun bk aP=>wp_seq_k (fun aR aB=>rg [0,1,2] (sv 13 v ?_)))
 refine sw 14 (iT (m:Int)) rfl (za9 (e:=68) hv (za8 rfl) _ _ rfl rfl (by kernel_rfl)) ?_
 refine sv 15 (iT 0) (za0 (aB _ _ ?_))
 refine wp_block ?_
 refine zb2 (a:=⟨List.toArray ?l20,[]⟩) (fun n a w'=>∃ (i:Nat) (aa:Nat→Value),m - i=n∧a=⟨[v,undef,aa 2,undef,aa 4,.bool ((m:Int)==(0:Int)),aa 6,aa 7,aa 8,.bool (decide ((8:Int)<(m:Int))),aa 10,aa 11,aa 12,v,iT (m:Int),iT (i:Int),aa 16,aa 17,aa 18,aa 19,aa 20,aa 21,aa 22,aa 23,aa 24,aa 25,aa 26,aa 27,aa 28,aa 29,aa 30,aa 31,aa 32,aa 33,aa 34,aa 35,aa 36,aa 37,aa 38,aa 39,aa 40,aa 41,aa 42].toArray,[]⟩∧i≤m∧fe (fun k=>ope (p k)) i=0∧Gr w w') (m - 0) ?_ ?_
 ·exact ⟨0,(fun i=>List.getD ?l20 i undef),rfl,rfl,Nat.zero_le _,rfl,hB⟩
 rintro aX bf a5 ⟨i,aa,rfl,rfl,hki,hf,hB⟩ bb aE
 refine wp_seq_k (fun a6 ax=>rg [0] (sv 16 (.bool (decide ((i:Int)<(m:Int)))) ?_))
 refine za0 (ax _ _ ?_)
 refine wp_seq_k (fun aV aN=>?_)
 refine wp_cond_split rfl (fun ae=>?_) (fun ae=>?_)
 ·have hli:i<m:=by have:=of_decide_eq_true ae;omega
  refine wp_skip ?_
  refine aN _ _ ?_
  refine wp_seq_k (fun a3 aO=>?_)
  refine wp_block ?_
  refine wp_seq_k (fun a0 aH=>rg [0,1,2,3] ?_)
  refine sw 17 (adr v (i*3)) rfl (zb1 (e:=68) hv za7 (by decide) i (by omega) _ _ _ rfl rfl rfl (by kernel_rfl) (by kernel_rfl)) ?_
  obtain ⟨_,_,rfl,al⟩:=Sl.get hv (by decide) (zb5 (f:=(fun z1=>(p z1))) (n:=m) (i:=i) (by omega))
  refine sw 18 (.agg #[iT ((p i).1),iT ((p i).2.1),iT ((p i).2.2)]) rfl (ze7 [iT ((p i).1),iT ((p i).2.1),iT ((p i).2.2)] (al.gr hB) _ _ rfl rfl (by kernel_rfl)) ?_
  refine se ?_
  refine ea 68 #[iT 0,iT 0,iT 0] 4 hB fun aj aT a7 ac a8 aw hB=>?_
  simp only [p3,p4]
  refine se ?_
  refine es 68 0 (.agg #[iT ((p i).1),iT ((p i).2.1),iT ((p i).2.2)]) [iT ((p i).1),iT ((p i).2.1),iT ((p i).2.2)] #[iT ((p i).1),iT ((p i).2.1),iT ((p i).2.2)] ac hB aw ⟨rfl,rfl,rfl,trivial⟩ fun a4 aJ av ac hB=>?_
  refine za0 (aH _ _ ?_)
  refine wp_seq_k (fun aY ay=>wp_seq_k (fun a2 ak=>rg [0,1,2,3,4,5,6,7,8,9,10,11,12,13,14,15,16,17] (sv 19 (pT aj 0) ?_)))
  refine sw 20 (iT ((p i).1)) rfl (rk 3 0 ac) ?_
  refine se ?_
  refine ec 21 (zX1 (z:=(p i).1)) ?_
  rintro bg bm ⟨rfl,aq⟩
  refine ⟨_,rfl,?_⟩
  replace hB:=hB.trans aq
  simp only [p3,p4]
  rcases Bool.eq_false_or_eq_true (zh3 ((p i).1)) with hb32 | hb32
  ·have h1:zh3 (p i).1=true:=hb32
   refine swk 22 (.bool true) [(4,23),(5,24),(6,25)] rfl (RunV.bool (x:=zh3 ((p i).1)) (rvk (by kernel_rfl)) hb32) ?_
   refine sv 26 (.bool true) ?_
   refine swk 27 (.bool true) [(9,28),(10,29),(11,30)] rfl (rvk (by kernel_rfl)) ?_
   refine sv 31 (.bool true) ?_
   refine swk 32 (.bool true) [(14,33),(15,34),(16,35)] rfl (rvk (by kernel_rfl)) ?_
   refine sv 36 (.bool true) (za0 (ak _ _ ?_))
   refine wp_cond_true rfl ?_
   refine wp_seq_k (fun bh aL=>rg [0] (sv 2 (iT 2) ?_))
   refine za0 (aL _ _ ?_)
   refine wp_ret ?_
   simp only [Exit.then,Exit.inBlock]
   refine bodyPost_ret (v:=(iT 2)) (za3 rfl rfl) rfl ⟨?_,hB⟩
   exact congrArg (fun z=>Ending.returned (iT z)) (zX2 h7 h6 hf hli (ope_2 (by first | exact .inl h1 | exact .inr (.inl h2) | exact .inr (.inr (.inl h3)) | exact .inr (.inr (.inr h4)))) (by decide))
  have h1:zh3 (p i).1=false:=hb32
  refine sw 22 (.bool false) rfl (RunV.bool (x:=zh3 ((p i).1)) (rvk (by kernel_rfl)) hb32) ?_
  refine sv 23 (pT aj 1) ?_
  replace ac:=ac.gr aq
  refine sw 24 (iT ((p i).2.1)) rfl (rk 3 1 ac) ?_
  refine se ?_
  refine ec 25 (zX1 (z:=(p i).2.1)) ?_
  rintro bj ba ⟨rfl,ap⟩
  refine ⟨_,rfl,?_⟩
  replace hB:=hB.trans ap
  simp only [p3,p4]
  refine sv 26 (.bool (zh3 ((p i).2.1))) ?_
  rcases Bool.eq_false_or_eq_true (zh3 ((p i).2.1)) with hb35 | hb35
  ·have h2:zh3 (p i).2.1=true:=hb35
   refine swk 27 (.bool true) [(9,28),(10,29),(11,30)] rfl (RunV.bool (x:=zh3 ((p i).2.1)) (rvk (by kernel_rfl)) hb35) ?_
   refine sv 31 (.bool true) ?_
   refine swk 32 (.bool true) [(14,33),(15,34),(16,35)] rfl (rvk (by kernel_rfl)) ?_
   refine sv 36 (.bool true) (za0 (ak _ _ ?_))
   refine wp_cond_true rfl ?_
   refine wp_seq_k (fun bl aK=>rg [0] (sv 2 (iT 2) ?_))
   refine za0 (aK _ _ ?_)
   refine wp_ret ?_
   simp only [Exit.then,Exit.inBlock]
   refine bodyPost_ret (v:=(iT 2)) (za3 rfl rfl) rfl ⟨?_,hB⟩
   exact congrArg (fun z=>Ending.returned (iT z)) (zX2 h7 h6 hf hli (ope_2 (by first | exact .inl h1 | exact .inr (.inl h2) | exact .inr (.inr (.inl h3)) | exact .inr (.inr (.inr h4)))) (by decide))
  have h2:zh3 (p i).2.1=false:=hb35
  refine sw 27 (.bool false) rfl (RunV.bool (x:=zh3 ((p i).2.1)) (rvk (by kernel_rfl)) hb35) ?_
  refine sv 28 (pT aj 2) ?_
  replace ac:=ac.gr ap
  refine sw 29 (iT ((p i).2.2)) rfl (rk 3 2 ac) ?_
  refine sv 30 (.bool (decide ((p i).2.2<(0:Int)))) ?_
  refine sv 31 (.bool (decide ((p i).2.2<(0:Int)))) ?_
  rcases Bool.eq_false_or_eq_true (decide ((p i).2.2<(0:Int))) with hb37 | hb37
  ·have h3:(p i).2.2<0:=of_decide_eq_true hb37
   refine swk 32 (.bool true) [(14,33),(15,34),(16,35)] rfl (RunV.bool (x:=decide ((p i).2.2<(0:Int))) (rvk (by kernel_rfl)) hb37) ?_
   refine sv 36 (.bool true) (za0 (ak _ _ ?_))
   refine wp_cond_true rfl ?_
   refine wp_seq_k (fun bq aG=>rg [0] (sv 2 (iT 2) ?_))
   refine za0 (aG _ _ ?_)
   refine wp_ret ?_
   simp only [Exit.then,Exit.inBlock]
   refine bodyPost_ret (v:=(iT 2)) (za3 rfl rfl) rfl ⟨?_,hB⟩
   exact congrArg (fun z=>Ending.returned (iT z)) (zX2 h7 h6 hf hli (ope_2 (by first | exact .inl h1 | exact .inr (.inl h2) | exact .inr (.inr (.inl h3)) | exact .inr (.inr (.inr h4)))) (by decide))
  have h3:¬ ((p i).2.2<0):=of_decide_eq_false hb37
  refine sw 32 (.bool false) rfl (RunV.bool (x:=decide ((p i).2.2<(0:Int))) (rvk (by kernel_rfl)) hb37) ?_
  refine sv 33 (pT aj 2) ?_
  refine sw 34 (iT ((p i).2.2)) rfl (rk 3 2 ac) ?_
  refine sv 35 (.bool (decide ((1048576:Int)<(p i).2.2))) ?_
  refine sv 36 (.bool (decide ((1048576:Int)<(p i).2.2))) (za0 (ak _ _ ?_))
  refine wp_cond_split rfl (fun ad=>?_) (fun ad=>?_)
  ·have h4:1048576<(p i).2.2:=of_decide_eq_true ad
   refine wp_seq_k (fun bn au=>rg [0] (sv 2 (iT 2) ?_))
   refine za0 (au _ _ ?_)
   refine wp_ret ?_
   simp only [Exit.then,Exit.inBlock]
   refine bodyPost_ret (v:=(iT 2)) (za3 rfl rfl) rfl ⟨?_,hB⟩
   exact congrArg (fun z=>Ending.returned (iT z)) (zX2 h7 h6 hf hli (ope_2 (by first | exact .inl h1 | exact .inr (.inl h2) | exact .inr (.inr (.inl h3)) | exact .inr (.inr (.inr h4)))) (by decide))
  have h4:¬ (1048576<(p i).2.2):=of_decide_eq_false ad
  refine wp_skip ?_
  refine ay _ _ ?_
  refine wp_seq_k (fun aS az=>rg [0,1,2,3,4] (sv 37 (pT aj 0) ?_))
  refine sw 38 (iT ((p i).1)) rfl (rk 3 0 ac) ?_
  refine sv 39 (pT aj 1) ?_
  refine sw 40 (iT ((p i).2.1)) rfl (rk 3 1 ac) ?_
  refine sv 41 (.bool (decide ((p i).2.1<(p i).1))) (za0 (az _ _ ?_))
  refine wp_cond_split rfl (fun af=>?_) (fun af=>?_)
  ·have h5:(p i).2.1<(p i).1:=of_decide_eq_true af
   refine wp_seq_k (fun bi aC=>rg [0] (sv 2 (iT 8) ?_))
   refine za0 (aC _ _ ?_)
   refine wp_ret ?_
   simp only [Exit.then,Exit.inBlock]
   refine bodyPost_ret (v:=(iT 8)) (za3 rfl rfl) rfl ⟨?_,hB⟩
   exact congrArg (fun z=>Ending.returned (iT z)) (zX2 h7 h6 hf hli (ope_8 h1 h2 h3 h4 h5) (by decide))
  have h5:¬ ((p i).2.1<(p i).1):=of_decide_eq_false af
  refine wp_skip ?_
  refine aO _ _ ?_
  refine rg [0,1] ?_
  refine sw 42 (iT ((i:Int)+1)) rfl (rwI ((i:Int)+1)) ?_
  refine sv 15 (iT ((i:Int)+1)) ?_
  refine za0 ?_
  refine aE (m - (i+1)) ⟨List.toArray ?l44,[]⟩ _ (by omega) ?_
  exact ⟨i+1,(fun i=>List.getD ?l44 i undef),rfl,rfl,(by omega),zR7 hf (ope_0 h1 h2 h3 h4 h5),hB⟩
 have hei:m=i:=by have:=of_decide_eq_false ae;omega
 subst hei
 refine wp_exit ?_
 simp only [Exit.then,Exit.inBlock,↓reduceIte]
 refine aP _ _ ?_
 refine wp_seq_k (fun aW aM=>rg [0] (sv 2 (iT 0) ?_))
 refine za0 (aM _ _ ?_)
 refine wp_ret ?_
 refine bodyPost_ret (v:=(iT 0)) (za3 rfl rfl) rfl ⟨?_,hB⟩
 exact congrArg (fun z=>Ending.returned (iT z)) (opl_0 h7 h6 hf)

theorem zX3 (X:List UInt8) (w:World):
  Calls Tryz.prog 98 #[.string ⟨X.toArray⟩,.func (.func 99) #[] #[]] w fun e w'=>e=.returned (.bool (decide (0≤Lib.idxFunc (fun x=>decide (x<33)||decide (126<x)) true ⟨X.toArray⟩)))∧Gr w w':=by
 refine (Tryz.strings_ContainsFunc 99 #[] (enters_of Tryz.func99 (by kernel_rfl) rfl) (fun x=>decide (x<33)||decide (126<x)) ⟨X.toArray⟩ w (fun W x _=>noname x W)).mono ?_
 rintro e w1 ⟨he,hb⟩
 exact ⟨he,hb⟩
section
variable {X:List UInt8}
theorem nm_a (h:¬ (0:Int)<(X.length:Int)):false=isNm X:=by unfold isNm;rw [show decide (0<X.length)=false from decide_eq_false (by omega)];rfl
theorem nm_b (h2:¬ (X.length:Int)≤(40:Int)):false=isNm X:=by unfold isNm;rw [show decide (X.length≤40)=false from decide_eq_false (by omega),Bool.false_and,Bool.and_false]
theorem nm_c (h:(0:Int)<(X.length:Int)) (h2:(X.length:Int)≤(40:Int)) {b:Bool} (hb:decide (0≤Lib.idxFunc (fun x=>decide (x<33)||decide (126<x)) true ⟨X.toArray⟩)=b):(!b)=isNm X:=by
 unfold isNm;rw [show decide (0<X.length)=true from decide_eq_true (by omega),show decide (X.length≤40)=true from decide_eq_true (by omega),hb];rfl
end
theorem zX4 {X:List UInt8} {w:World}:
    Calls Tryz.prog 70 #[sV X] w fun e w'=>e=.returned (.bool (isNm X))∧Gr w w':=by
 go_enter Tryz.func70,Tryz.ntmps70
 have hB:=Gr.refl w
 refine wp_seq_k (fun ap ac=>rg [0] (sv 2 (.bool false) ?_))
 refine za0 (ac _ _ ?_)
 refine wp_seq_k (fun ak aa=>rg [0,1,2,3,4,5,6,7,8,9,10,11,12,13] (sv 3 (sV X) ?_))
 refine sv 4 (iT ((X).length:Int)) ?_
 refine sv 5 (.bool (decide ((0:Int)<((X).length:Int)))) ?_
 rcases Bool.eq_false_or_eq_true (decide ((0:Int)<((X).length:Int))) with hb12 | hb12
 ·have af:((0:Int)<((X).length:Int)):=of_decide_eq_true hb12
  refine sw 6 (.bool true) rfl (RunV.bool (x:=decide ((0:Int)<((X).length:Int))) (rvk (by kernel_rfl)) hb12) ?_
  refine sv 7 (sV X) ?_
  refine sv 8 (iT ((X).length:Int)) ?_
  refine sv 9 (.bool (decide (((X).length:Int)≤(40:Int)))) ?_
  refine sv 10 (.bool (decide (((X).length:Int)≤(40:Int)))) ?_
  rcases Bool.eq_false_or_eq_true (decide (((X).length:Int)≤(40:Int))) with hb14 | hb14
  ·have ae:(((X).length:Int)≤(40:Int)):=of_decide_eq_true hb14
   refine sw 11 (.bool true) rfl (RunV.bool (x:=decide (((X).length:Int)≤(40:Int))) (rvk (by kernel_rfl)) hb14) ?_
   refine sv 12 (sV X) ?_
   refine se ?_
   refine ec 13 (zX3 X _) ?_
   rintro aj al ⟨rfl,ai⟩
   refine ⟨_,rfl,?_⟩
   replace hB:=hB.trans ai
   simp only [p3,p4]
   refine sv 14 (.bool (!(decide (0≤Lib.idxFunc (fun x=>decide (x<33)||decide (126<x)) true ⟨X.toArray⟩)))) ?_
   refine sv 15 (.bool (!(decide (0≤Lib.idxFunc (fun x=>decide (x<33)||decide (126<x)) true ⟨X.toArray⟩)))) ?_
   refine sv 2 (.bool (!(decide (0≤Lib.idxFunc (fun x=>decide (x<33)||decide (126<x)) true ⟨X.toArray⟩)))) (za0 (aa _ _ ?_))
   refine wp_ret ?_
   refine bodyPost_ret (v:=(.bool (!(decide (0≤Lib.idxFunc (fun x=>decide (x<33)||decide (126<x)) true ⟨X.toArray⟩))))) (za3 rfl rfl) rfl ⟨?_,hB⟩
   exact congrArg (fun b=>Ending.returned (.bool b)) (by first | exact nm_a (by assumption) | exact nm_b (by assumption) | exact nm_c (by assumption) (by assumption) rfl | exact nm_c (by assumption) (by assumption) (by assumption))
  have ad:¬ (((X).length:Int)≤(40:Int)):=of_decide_eq_false hb14
  refine sw 11 (.bool false) rfl (RunV.bool (x:=decide (((X).length:Int)≤(40:Int))) (rvk (by kernel_rfl)) hb14) ?_
  refine ss 12 ?_
  refine ss 13 ?_
  refine ss 14 ?_
  refine sv 15 (.bool false) ?_
  refine sv 2 (.bool false) (za0 (aa _ _ ?_))
  refine wp_ret ?_
  refine bodyPost_ret (v:=(.bool false)) (za3 rfl rfl) rfl ⟨?_,hB⟩
  exact congrArg (fun b=>Ending.returned (.bool b)) (by first | exact nm_a (by assumption) | exact nm_b (by assumption) | exact nm_c (by assumption) (by assumption) rfl | exact nm_c (by assumption) (by assumption) (by assumption))
 have ah:¬ ((0:Int)<((X).length:Int)):=of_decide_eq_false hb12
 refine sw 6 (.bool false) rfl (RunV.bool (x:=decide ((0:Int)<((X).length:Int))) (rvk (by kernel_rfl)) hb12) ?_
 refine ss 7 ?_
 refine ss 8 ?_
 refine ss 9 ?_
 refine sv 10 (.bool false) ?_
 refine sv 11 (.bool false) ?_
 refine ss 12 ?_
 refine ss 13 ?_
 refine ss 14 ?_
 refine sv 15 (.bool false) ?_
 refine sv 2 (.bool false) (za0 (aa _ _ ?_))
 refine wp_ret ?_
 refine bodyPost_ret (v:=(.bool false)) (za3 rfl rfl) rfl ⟨?_,hB⟩
 exact congrArg (fun b=>Ending.returned (.bool b)) (by first | exact nm_a (by assumption) | exact nm_b (by assumption) | exact nm_c (by assumption) (by assumption) rfl | exact nm_c (by assumption) (by assumption) (by assumption))

end Go.Proofs.YtjhflekncldflaaGreatDoor
namespace Go.Proofs.YtjhflekncldflaaGreatDoor
set_option maxRecDepth 100000
set_option maxHeartbeats 4000000
open Go.RowKit

def zx1 (p:Nat→Bool) (n:Nat):Int:=match (List.range n).find? p with | some i=>(i:Int) | none=>-1
theorem zG0 {p:Nat→Bool} {n k:Nat} (hk:k<n) (h:p k=true) (hn:∀ j,j<k→p j=false):(k:Int)=zx1 p n:=by
 unfold zx1
 cases e:(List.range n).find? p with
 | none=>have:=List.find?_eq_none.1 e k (List.mem_range.2 hk);rw [h] at this;simp at this
 | some i=>
  have h1:=List.find?_some e
  obtain ⟨_,l1,l2,e2,h3⟩:=List.find?_eq_some_iff_append.1 e
  have hlen:l1.length=i:=by
   have h4:(List.range n)[l1.length]?=some i:=by rw [e2];simp
   rw [List.getElem?_range (by have:=(List.getElem?_eq_some_iff.1 h4).1;simpa using this)] at h4
   exact Option.some.inj h4
  rcases Nat.lt_trichotomy k i with h5 | h5 | h5
  ·have hm:k ∈ l1:=by
    have h6:(List.range n)[k]?=some k:=List.getElem?_range hk
    rw [e2,List.getElem?_append_left (by omega)] at h6
    exact List.mem_of_getElem? h6
   have:=h3 k hm
   rw [h] at this;simp at this
  ·rw [h5]
  rw [hn i h5] at h1;cases h1
theorem zG1 {p:Nat→Bool} {n:Nat} (hn:∀ j,j<n→p j=false):-1=zx1 p n:=by
 unfold zx1
 rw [List.find?_eq_none.2 fun j hj=>by rw [hn j (List.mem_range.1 hj)];decide]
theorem zO5 {p:Nat→Bool} {n:Nat}:decide ((0:Int)≤zx1 p n)=(List.range n).any p:=by
 unfold zx1
 cases e:(List.range n).find? p with
 | none=>
  rw [List.any_eq_false.2 fun j hj=>by have:=List.find?_eq_none.1 e j hj;exact this]
  rfl
 | some i=>
  rw [List.any_eq_true.2 ⟨i,List.mem_of_find?_eq_some e,List.find?_some e⟩]
  simp
theorem zC8 {q:Nat→Prop} {k:Nat} (h:∀ j,j<k→q j) (hk:q k):∀ j,j<k+1→q j:=fun j hj=>by
 rcases Nat.lt_or_eq_of_le (Nat.le_of_lt_succ hj) with h1 | rfl
 ·exact h j h1
 exact hk
theorem di_find1 {x:Dmn} {Y:List UInt8} {bq:Nat} {w:World} (hL:Lc w bq #[.string ⟨Y.toArray⟩] 9):
    Calls Tryz.prog 100 #[.agg #[sV x.nm,iT (x.no),iT (x.lo),iT (x.up)],pT bq 0] w fun e w'=>e=.returned (.bool (x.nm==Y))∧Gr w w':=by
 go_enter Tryz.func100,Tryz.ntmps100
 have hB:=Gr.refl w
 refine wp_seq_k (fun ak aa=>rg [0,1] ?_)
 refine se ?_
 refine eb 71 #[sV x.nm,iT (x.no),iT (x.lo),iT (x.up)] 2 hB fun af aj ac ad ah al hB=>?_
 simp only [p3,p4]
 refine sv 3 (.bool false) (za0 (aa _ _ ?_))
 refine wp_seq_k (fun ai ae=>rg [0,1,2,3,4] (sv 4 (pT af 0) ?_))
 refine sw 5 (sV x.nm) rfl (rk 9 0 ad) ?_
 replace hL:=hL.gr ac
 refine sw 6 (sV Y) rfl (rk 9 0 hL) ?_
 refine sw 7 (.bool ((x.nm)==(Y))) rfl (zf4 9 9 _ _ (x.nm) (Y) rfl rfl rfl) ?_
 refine sv 3 (.bool ((x.nm)==(Y))) (za0 (ae _ _ ?_))
 refine wp_ret ?_
 refine bodyPost_ret (v:=(.bool ((x.nm)==(Y)))) (za3 rfl rfl) rfl ⟨?_,hB⟩
 exact rfl

theorem di_idxf {N T:Nat} (_hN:N≤1000) {dm:Nat→Dmn} {Y:List UInt8} {bq:Nat} {v:Value} {w:World} (hL:Lc w bq #[.string ⟨Y.toArray⟩] 9) (hv:Sl EDg T 4 w v (tb (fun z1=>(dm z1)) N)):
    Calls Tryz.prog 75 #[v,(.func (.func 100) #[] #[pT bq 0])] w fun e w'=>e=.returned (iT (zx1 (fun j=>(dm j).nm==Y) N))∧Gr w w':=by
 go_enter Tryz.func75,Tryz.ntmps75
 have hB:=Gr.refl w
 refine wp_seq_k (fun aM ah=>rg [0] (sv 4 (iT 0) ?_))
 refine za0 (ah _ _ ?_)
 refine wp_seq_k (fun aC ap=>wp_seq_k (fun aL aw=>rg [0,1,2] (sv 6 v ?_)))
 refine sw 7 (iT (N:Int)) rfl (za9 (e:=71) hv (za8 rfl) _ _ rfl rfl (by kernel_rfl)) ?_
 refine sv 8 (iT 0) (za0 (aw _ _ ?_))
 refine wp_block ?_
 refine zb2 (a:=⟨List.toArray ?l13,[]⟩) (fun n a w'=>∃ (k:Nat) (aa:Nat→Value),N - k=n∧a=⟨[v,(.func (.func 100) #[] #[pT bq 0]),undef,undef,aa 4,aa 5,aa 6,iT (N:Int),iT (k:Int),aa 9,aa 10,aa 11,aa 12,aa 13,aa 14,aa 15,aa 16,aa 17,aa 18].toArray,[]⟩∧k≤N∧(∀ j,j<k→((dm j).nm==Y)=false)∧Lc w' bq #[sV Y] 9∧Gr w w') (N - 0) ?_ ?_
 ·exact ⟨0,(fun i=>List.getD ?l13 i undef),rfl,rfl,Nat.zero_le _,(fun j h=>absurd h (Nat.not_lt_zero j)),hL,hB⟩
 rintro aB aA aD ⟨k,aa,rfl,rfl,hkk,hf,hL,hB⟩ ax aj
 refine wp_seq_k (fun aI ai=>rg [0] (sv 9 (.bool (decide ((k:Int)<(N:Int)))) ?_))
 refine za0 (ai _ _ ?_)
 refine wp_seq_k (fun aE aq=>?_)
 refine wp_cond_split rfl (fun ad=>?_) (fun ad=>?_)
 ·have hlk:k<N:=by have:=of_decide_eq_true ad;omega
  refine wp_skip ?_
  refine aq _ _ ?_
  refine wp_seq_k (fun ay ak=>?_)
  refine wp_block ?_
  refine wp_seq_k (fun aJ av=>rg [0,1] (sv 10 (iT (k:Int)) ?_))
  refine sv 5 (iT (k:Int)) (za0 (av _ _ ?_))
  refine wp_seq_k (fun az al=>rg [0,1,2,3,4,5] (sv 11 (.func (.func 100) #[] #[pT bq 0]) ?_))
  refine sv 12 v ?_
  refine sv 13 (iT (k:Int)) ?_
  refine sw 14 (adr v (k*4)) rfl (zb1 (e:=71) hv za7 (by decide) k (by omega) _ _ _ rfl rfl rfl (by kernel_rfl) (by kernel_rfl)) ?_
  obtain ⟨_,_,rfl,ae⟩:=Sl.get hv (by decide) (zb5 (f:=(fun z1=>(dm z1))) (n:=N) (i:=k) (by omega))
  refine sw 15 (.agg #[sV ((dm k).nm),iT ((dm k).no),iT ((dm k).lo),iT ((dm k).up)]) rfl (ze7 [sV ((dm k).nm),iT ((dm k).no),iT ((dm k).lo),iT ((dm k).up)] (ae.gr hB) _ _ rfl rfl (by kernel_rfl)) ?_
  refine se ?_
  refine ec 16 (di_find1 (x:=(dm k)) hL) ?_
  rintro aH aF ⟨rfl,af⟩
  refine ⟨_,rfl,?_⟩
  replace hB:=hB.trans af
  simp only [p3,p4]
  refine za0 (al _ _ ?_)
  refine wp_cond_split rfl (fun ac=>?_) (fun ac=>?_)
  ·have hn:((dm k).nm==Y)=true:=ac
   refine wp_seq_k (fun aG ar=>rg [0,1] (sv 17 (iT (k:Int)) ?_))
   refine sv 4 (iT (k:Int)) (za0 (ar _ _ ?_))
   refine wp_ret ?_
   simp only [Exit.then,Exit.inBlock]
   refine bodyPost_ret (v:=(iT (k:Int))) (za3 rfl rfl) rfl ⟨?_,hB⟩
   exact congrArg (fun z=>Ending.returned (iT z)) (zG0 (p:=(fun j=>(dm j).nm==Y)) hlk hn hf)
  have hn:((dm k).nm==Y)=false:=ac
  refine wp_skip ?_
  refine ak _ _ ?_
  refine rg [0,1] ?_
  refine sw 18 (iT ((k:Int)+1)) rfl (rwI ((k:Int)+1)) ?_
  refine sv 8 (iT ((k:Int)+1)) ?_
  refine za0 ?_
  replace hL:=hL.gr af
  refine aj (N - (k+1)) ⟨List.toArray ?l24,[]⟩ _ (by omega) ?_
  exact ⟨k+1,(fun i=>List.getD ?l24 i undef),rfl,rfl,(by omega),zC8 hf hn,hL,hB⟩
 have hek:N=k:=by have:=of_decide_eq_false ad;omega
 subst hek
 refine wp_exit ?_
 simp only [Exit.then,Exit.inBlock,↓reduceIte]
 refine ap _ _ ?_
 refine wp_seq_k (fun aK au=>rg [0] (sv 4 (iT (-1)) ?_))
 refine za0 (au _ _ ?_)
 refine wp_ret ?_
 refine bodyPost_ret (v:=(iT (-1))) (za3 rfl rfl) rfl ⟨?_,hB⟩
 exact congrArg (fun z=>Ending.returned (iT z)) (zG1 (p:=(fun j=>(dm j).nm==Y)) hf)

theorem di_findg {N T:Nat} (hN:N≤1000) {dm:Nat→Dmn} {Y:List UInt8} {v:Value} {w:World} (hv:Sl EDg T 4 w v (tb (fun z1=>(dm z1)) N)):
    Calls Tryz.prog 72 #[v,sV Y] w fun e w'=>(∃ z:Int,e=.returned (.tuple #[iT z,.bool (zi1 (fun j=>(dm j).nm) N Y)]))∧Gr w w':=by
 go_enter Tryz.func72,Tryz.ntmps72
 have hB:=Gr.refl w
 refine wp_seq_k (fun ar aa=>rg [0,1,2] ?_)
 refine se ?_
 refine zz5 9 _ (sV Y) #[sV Y] (some 3) rfl rfl rfl rfl (fun ai aq ad af au=>?_)
 replace hB:=hB.trans ad
 simp only [zd0,p3,p4]
 refine sv 4 (iT 0) ?_
 refine sv 5 (.bool false) (za0 (aa _ _ ?_))
 refine wp_seq_k (fun ap ah=>rg [0,1,2,3] (sv 7 v ?_))
 refine sv 8 (.func (.func 100) #[] #[pT ai 0]) ?_
 refine se ?_
 refine ec 9 (di_idxf (Y:=Y) hN af (hv.gr zb3 hB)) ?_
 rintro ak al ⟨rfl,ac⟩
 refine ⟨_,rfl,?_⟩
 replace hB:=hB.trans ac
 simp only [p3,p4]
 refine sv 6 (iT (zx1 (fun j=>(dm j).nm==Y) N)) (za0 (ah _ _ ?_))
 refine wp_seq_k (fun aj ae=>rg [0,1,2,3,4,5] (sv 10 (iT (zx1 (fun j=>(dm j).nm==Y) N)) ?_))
 refine sv 11 (iT (if 0>zx1 (fun j=>(dm j).nm==Y) N then 0 else zx1 (fun j=>(dm j).nm==Y) N)) ?_
 refine sv 12 (iT (zx1 (fun j=>(dm j).nm==Y) N)) ?_
 refine sv 13 (.bool (decide ((0:Int)≤zx1 (fun j=>(dm j).nm==Y) N))) ?_
 refine sv 4 (iT (if 0>zx1 (fun j=>(dm j).nm==Y) N then 0 else zx1 (fun j=>(dm j).nm==Y) N)) ?_
 refine sv 5 (.bool (decide ((0:Int)≤zx1 (fun j=>(dm j).nm==Y) N))) (za0 (ae _ _ ?_))
 refine wp_ret ?_
 refine bodyPost_ret (v:=(.tuple #[iT (if 0>zx1 (fun j=>(dm j).nm==Y) N then 0 else zx1 (fun j=>(dm j).nm==Y) N),.bool (decide ((0:Int)≤zx1 (fun j=>(dm j).nm==Y) N))])) (zf2 rfl rfl rfl) rfl ⟨?_,hB⟩
 exact ⟨_,congrArg (fun b=>Ending.returned (.tuple #[_,.bool b])) zO5⟩

section
variable {dm:Nat→Dmn} {i N:Nat}
theorem dke_11 (h:isNm (dm i).nm=false):dke dm i=11:=by unfold dke;rw [if_pos h]
theorem dke_2 (h:isNm (dm i).nm=true) (h2:zh3 (dm i).no=true∨zh3 (dm i).lo=true∨zh3 (dm i).up=true):dke dm i=2:=by
 unfold dke;rw [if_neg (by rw [h];decide),if_pos];rcases h2 with h2 | h2 | h2<;>simp [h2]
theorem dke_8 (h:isNm (dm i).nm=true) (h1:zh3 (dm i).no=false) (h2:zh3 (dm i).lo=false) (h3:zh3 (dm i).up=false) (h4:(dm i).up<(dm i).lo):dke dm i=8:=by
 unfold dke;rw [if_neg (by rw [h];decide),if_neg (by simp [h1,h2,h3]),if_pos h4]
theorem dke_9 (h:isNm (dm i).nm=true) (h1:zh3 (dm i).no=false) (h2:zh3 (dm i).lo=false) (h3:zh3 (dm i).up=false) (h4:¬ (dm i).up<(dm i).lo) (h5:zi1 (fun j=>(dm j).nm) i (dm i).nm=true):dke dm i=9:=by
 unfold dke;rw [if_neg (by rw [h];decide),if_neg (by simp [h1,h2,h3]),if_neg h4,if_pos h5]
theorem dke_0 (h:isNm (dm i).nm=true) (h1:zh3 (dm i).no=false) (h2:zh3 (dm i).lo=false) (h3:zh3 (dm i).up=false) (h4:¬ (dm i).up<(dm i).lo) (h5:zi1 (fun j=>(dm j).nm) i (dm i).nm=false):dke dm i=0:=by
 unfold dke;rw [if_neg (by rw [h];decide),if_neg (by simp [h1,h2,h3]),if_neg h4,if_neg (by rw [h5];decide)]
theorem dck_6 (h:(64:Int)<(N:Int)):6=dck dm N:=by unfold dck;rw [if_pos (by omega)]
theorem zS4 (h:¬ (64:Int)<(N:Int)) (hf:fe (dke dm) i=0) (hi:i<N) {z:Int} (hz:dke dm i=z) (h0:z≠0):z=dck dm N:=by unfold dck;rw [if_neg (by omega),zq6 hf hi hz h0]
theorem dck_0 (h:¬ (64:Int)<(N:Int)) (hf:fe (dke dm) N=0):0=dck dm N:=by unfold dck;rw [if_neg (by omega),hf]
end
theorem di_chk {N T:Nat} {dm:Nat→Dmn} {v:Value} {w:World} (hv:Sl EDg T 4 w v (tb (fun z1=>(dm z1)) N)):
    Calls Tryz.prog 39 #[v] w fun e w'=>e=.returned (iT (dck dm N))∧Gr w w':=by
 go_enter Tryz.func39,Tryz.ntmps39
 have hB:=Gr.refl w
 refine wp_seq_k (fun bJ aA=>rg [0] (sv 2 (iT 0) ?_))
 refine za0 (aA _ _ ?_)
 refine wp_seq_k (fun a6 aL=>wp_seq_k (fun bh a0=>rg [0,1,2] (sv 7 v ?_)))
 refine sw 8 (iT (N:Int)) rfl (za9 (e:=71) hv (za8 rfl) _ _ rfl rfl (by kernel_rfl)) ?_
 refine sv 9 (.bool (decide ((64:Int)<(N:Int)))) (za0 (a0 _ _ ?_))
 refine wp_cond_split rfl (fun aj=>?_) (fun aj=>?_)
 ·have h6:(64:Int)<(N:Int):=of_decide_eq_true aj
  refine wp_seq_k (fun a8 aQ=>rg [0] (sv 2 (iT 6) ?_))
  refine za0 (aQ _ _ ?_)
  refine wp_ret ?_
  simp only [Exit.then]
  refine bodyPost_ret (v:=(iT 6)) (za3 rfl rfl) rfl ⟨?_,hB⟩
  exact congrArg (fun z=>Ending.returned (iT z)) (dck_6 h6)
 have h6:¬ ((64:Int)<(N:Int)):=of_decide_eq_false aj
 refine wp_skip ?_
 refine aL _ _ ?_
 refine wp_seq_k (fun bp aM=>wp_seq_k (fun a3 aP=>rg [0,1,2] (sv 10 v ?_)))
 refine sw 11 (iT (N:Int)) rfl (za9 (e:=71) hv (za8 rfl) _ _ rfl rfl (by kernel_rfl)) ?_
 refine sv 12 (iT 0) (za0 (aP _ _ ?_))
 refine wp_block ?_
 refine zb2 (a:=⟨List.toArray ?l17,[]⟩) (fun n a w'=>∃ (i:Nat) (aa:Nat→Value),N - i=n∧a=⟨[v,undef,aa 2,aa 3,aa 4,aa 5,aa 6,aa 7,aa 8,.bool (decide ((64:Int)<(N:Int))),v,iT (N:Int),iT (i:Int),aa 13,aa 14,aa 15,aa 16,aa 17,aa 18,aa 19,aa 20,aa 21,aa 22,aa 23,aa 24,aa 25,aa 26,aa 27,aa 28,aa 29,aa 30,aa 31,aa 32,aa 33,aa 34,aa 35,aa 36,aa 37,aa 38,aa 39,aa 40,aa 41,aa 42,aa 43,aa 44,aa 45,aa 46,aa 47,aa 48,aa 49,aa 50,aa 51,aa 52].toArray,[]⟩∧i≤N∧fe (dke dm) i=0∧Gr w w') (N - 0) ?_ ?_
 ·exact ⟨0,(fun i=>List.getD ?l17 i undef),rfl,rfl,Nat.zero_le _,rfl,hB⟩
 rintro bt bD bb ⟨i,aa,rfl,rfl,hki,hf,hB⟩ bK aI
 refine wp_seq_k (fun bE aX=>rg [0] (sv 13 (.bool (decide ((i:Int)<(N:Int)))) ?_))
 refine za0 (aX _ _ ?_)
 refine wp_seq_k (fun a1 aJ=>?_)
 refine wp_cond_split rfl (fun af=>?_) (fun af=>?_)
 ·have hli:i<N:=by have:=of_decide_eq_true af;omega
  refine wp_skip ?_
  refine aJ _ _ ?_
  refine wp_seq_k (fun bn aF=>?_)
  refine wp_block ?_
  refine wp_seq_k (fun a7 aW=>rg [0,1,2,3,4,5] (sv 14 (iT (i:Int)) ?_))
  refine sw 15 (adr v (i*4)) rfl (zb1 (e:=71) hv za7 (by decide) i (by omega) _ _ _ rfl rfl rfl (by kernel_rfl) (by kernel_rfl)) ?_
  obtain ⟨_,_,rfl,aq⟩:=Sl.get hv (by decide) (zb5 (f:=(fun z1=>(dm z1))) (n:=N) (i:=i) (by omega))
  refine sw 16 (.agg #[sV ((dm i).nm),iT ((dm i).no),iT ((dm i).lo),iT ((dm i).up)]) rfl (ze7 [sV ((dm i).nm),iT ((dm i).no),iT ((dm i).lo),iT ((dm i).up)] (aq.gr hB) _ _ rfl rfl (by kernel_rfl)) ?_
  refine se ?_
  refine ea 71 #[sV [],iT 0,iT 0,iT 0] 4 hB fun ad bo bA ac ba aN hB=>?_
  simp only [p3,p4]
  refine sv 3 (iT (i:Int)) ?_
  refine se ?_
  refine es 71 0 (.agg #[sV ((dm i).nm),iT ((dm i).no),iT ((dm i).lo),iT ((dm i).up)]) [sV ((dm i).nm),iT ((dm i).no),iT ((dm i).lo),iT ((dm i).up)] #[sV ((dm i).nm),iT ((dm i).no),iT ((dm i).lo),iT ((dm i).up)] ac hB aN ⟨rfl,rfl,rfl,rfl,trivial⟩ fun bs aY aV ac hB=>?_
  refine za0 (aW _ _ ?_)
  refine wp_seq_k (fun a4 aT=>?_)
  refine wp_block ?_
  refine wp_seq_k (fun bf aS=>rg [0,1,2,3,4] (sv 18 (pT ad 0) ?_))
  refine sw 19 (sV ((dm i).nm)) rfl (rk 9 0 ac) ?_
  refine se ?_
  refine ec 20 (zX4 (X:=(dm i).nm)) ?_
  rintro bj bm ⟨rfl,ax⟩
  refine ⟨_,rfl,?_⟩
  replace hB:=hB.trans ax
  simp only [p3,p4]
  refine sv 21 (.bool (!(isNm ((dm i).nm)))) ?_
  refine sv 17 (.bool (!(isNm ((dm i).nm)))) (za0 (aS _ _ ?_))
  refine wp_cond_split rfl (fun al=>?_) (fun al=>?_)
  ·have hnm:isNm (dm i).nm=false:=by simpa using al
   refine wp_seq_k (fun bi aR=>rg [0] (sv 2 (iT 11) ?_))
   refine za0 (aR _ _ ?_)
   refine wp_ret ?_
   simp only [Exit.then,Exit.inBlock]
   refine bodyPost_ret (v:=(iT 11)) (za3 rfl rfl) rfl ⟨?_,hB⟩
   exact congrArg (fun z=>Ending.returned (iT z)) (zS4 h6 hf hli (dke_11 hnm) (by decide))
  have hnm:isNm (dm i).nm=true:=by simpa using al
  refine wp_seq_k (fun bI ar=>rg [0,1,2,3,4,5,6,7,8,9,10,11,12,13] (sv 23 (pT ad 1) ?_))
  replace ac:=ac.gr ax
  refine sw 24 (iT ((dm i).no)) rfl (rk 3 1 ac) ?_
  refine se ?_
  refine ec 25 (zK2 (z:=(dm i).no)) ?_
  rintro bl bG ⟨rfl,az⟩
  refine ⟨_,rfl,?_⟩
  replace hB:=hB.trans az
  simp only [p3,p4]
  rcases Bool.eq_false_or_eq_true (zh3 ((dm i).no)) with hb33 | hb33
  ·have h1:zh3 (dm i).no=true:=hb33
   refine swk 26 (.bool true) [(4,27),(5,28),(6,29)] rfl (RunV.bool (x:=zh3 ((dm i).no)) (rvk (by kernel_rfl)) hb33) ?_
   refine sv 30 (.bool true) ?_
   refine swk 31 (.bool true) [(9,32),(10,33),(11,34)] rfl (rvk (by kernel_rfl)) ?_
   refine sv 35 (.bool true) ?_
   refine sv 22 (.bool true) (za0 (ar _ _ ?_))
   refine wp_cond_true rfl ?_
   refine wp_seq_k (fun bq aE=>rg [0] (sv 2 (iT 2) ?_))
   refine za0 (aE _ _ ?_)
   refine wp_ret ?_
   simp only [Exit.then,Exit.inBlock]
   refine bodyPost_ret (v:=(iT 2)) (za3 rfl rfl) rfl ⟨?_,hB⟩
   exact congrArg (fun z=>Ending.returned (iT z)) (zS4 h6 hf hli (dke_2 hnm (by first | exact .inl h1 | exact .inr (.inl h2) | exact .inr (.inr h3))) (by decide))
  have h1:zh3 (dm i).no=false:=hb33
  refine sw 26 (.bool false) rfl (RunV.bool (x:=zh3 ((dm i).no)) (rvk (by kernel_rfl)) hb33) ?_
  refine sv 27 (pT ad 2) ?_
  replace ac:=ac.gr az
  refine sw 28 (iT ((dm i).lo)) rfl (rk 3 2 ac) ?_
  refine se ?_
  refine ec 29 (zK2 (z:=(dm i).lo)) ?_
  rintro bw bv ⟨rfl,aw⟩
  refine ⟨_,rfl,?_⟩
  replace hB:=hB.trans aw
  simp only [p3,p4]
  refine sv 30 (.bool (zh3 ((dm i).lo))) ?_
  rcases Bool.eq_false_or_eq_true (zh3 ((dm i).lo)) with hb36 | hb36
  ·have h2:zh3 (dm i).lo=true:=hb36
   refine swk 31 (.bool true) [(9,32),(10,33),(11,34)] rfl (RunV.bool (x:=zh3 ((dm i).lo)) (rvk (by kernel_rfl)) hb36) ?_
   refine sv 35 (.bool true) ?_
   refine sv 22 (.bool true) (za0 (ar _ _ ?_))
   refine wp_cond_true rfl ?_
   refine wp_seq_k (fun bB aZ=>rg [0] (sv 2 (iT 2) ?_))
   refine za0 (aZ _ _ ?_)
   refine wp_ret ?_
   simp only [Exit.then,Exit.inBlock]
   refine bodyPost_ret (v:=(iT 2)) (za3 rfl rfl) rfl ⟨?_,hB⟩
   exact congrArg (fun z=>Ending.returned (iT z)) (zS4 h6 hf hli (dke_2 hnm (by first | exact .inl h1 | exact .inr (.inl h2) | exact .inr (.inr h3))) (by decide))
  have h2:zh3 (dm i).lo=false:=hb36
  refine sw 31 (.bool false) rfl (RunV.bool (x:=zh3 ((dm i).lo)) (rvk (by kernel_rfl)) hb36) ?_
  refine sv 32 (pT ad 3) ?_
  replace ac:=ac.gr aw
  refine sw 33 (iT ((dm i).up)) rfl (rk 3 3 ac) ?_
  refine se ?_
  refine ec 34 (zK2 (z:=(dm i).up)) ?_
  rintro a2 aG ⟨rfl,ay⟩
  refine ⟨_,rfl,?_⟩
  replace hB:=hB.trans ay
  simp only [p3,p4]
  refine sv 35 (.bool (zh3 ((dm i).up))) ?_
  refine sv 22 (.bool (zh3 ((dm i).up))) (za0 (ar _ _ ?_))
  refine wp_cond_split rfl (fun ae=>?_) (fun ae=>?_)
  ·have h3:zh3 (dm i).up=true:=ae
   refine wp_seq_k (fun bH aB=>rg [0] (sv 2 (iT 2) ?_))
   refine za0 (aB _ _ ?_)
   refine wp_ret ?_
   simp only [Exit.then,Exit.inBlock]
   refine bodyPost_ret (v:=(iT 2)) (za3 rfl rfl) rfl ⟨?_,hB⟩
   exact congrArg (fun z=>Ending.returned (iT z)) (zS4 h6 hf hli (dke_2 hnm (by first | exact .inl h1 | exact .inr (.inl h2) | exact .inr (.inr h3))) (by decide))
  have h3:zh3 (dm i).up=false:=ae
  refine wp_seq_k (fun a5 aH=>rg [0,1,2,3,4,5] (sv 37 (pT ad 2) ?_))
  replace ac:=ac.gr ay
  refine sw 38 (iT ((dm i).lo)) rfl (rk 3 2 ac) ?_
  refine sv 39 (pT ad 3) ?_
  refine sw 40 (iT ((dm i).up)) rfl (rk 3 3 ac) ?_
  refine sv 41 (.bool (decide ((dm i).up<(dm i).lo))) ?_
  refine sv 36 (.bool (decide ((dm i).up<(dm i).lo))) (za0 (aH _ _ ?_))
  refine wp_cond_split rfl (fun ah=>?_) (fun ah=>?_)
  ·have h4:(dm i).up<(dm i).lo:=of_decide_eq_true ah
   refine wp_seq_k (fun bC aK=>rg [0] (sv 2 (iT 8) ?_))
   refine za0 (aK _ _ ?_)
   refine wp_ret ?_
   simp only [Exit.then,Exit.inBlock]
   refine bodyPost_ret (v:=(iT 8)) (za3 rfl rfl) rfl ⟨?_,hB⟩
   exact congrArg (fun z=>Ending.returned (iT z)) (zS4 h6 hf hli (dke_8 hnm h1 h2 h3 h4) (by decide))
  have h4:¬ ((dm i).up<(dm i).lo):=of_decide_eq_false ah
  refine wp_skip ?_
  refine aT _ _ ?_
  refine wp_seq_k (fun bk aO=>?_)
  have ap:=Gr.drew aG
  replace hB:=hB.trans ap
  replace ac:=ac.gr ap
  refine za5 (fun w'=>Lc w' ad #[sV ((dm i).nm),iT ((dm i).no),iT ((dm i).lo),iT ((dm i).up)] 71) [(true,0),(true,1),(true,2),(true,3),(true,4),(false,5),(true,6),(true,7),(true,8),(true,9),(true,10)] (by kernel_rfl) (by kernel_rfl) (by kernel_rfl) (by decide) (fun _ _ _ _ _ h=>h) ac ?_
  refine ov 43 v ?_
  refine ov 44 (iT (i:Int)) ?_
  have ai:=hv.subt (show 0≤i by omega) (show i≤N by omega)
  replace ai:=ai.cast (tb_sub0 (f:=(fun z1=>(dm z1))))
  refine ow 45 (subv v 0 i 4) rfl (fun w' hS=>(yd9 (e:=71) hv 0 i (by omega) (by omega) _ _ _ _ rfl rfl (.inl ⟨rfl,rfl⟩) (.inr rfl) (by kernel_rfl) (by kernel_rfl))) ?_
  refine ov 46 (pT ad 0) ?_
  refine ow 47 (sV ((dm i).nm)) rfl (fun w' hS=>(rk 9 0 hS)) ?_
  refine oe ?_
  refine ec 48 (di_findg (N:=i) (Y:=(dm i).nm) (by omega) (ai.gr zb3 hB)) ?_
  rintro bg bF ⟨⟨au,rfl⟩,av⟩
  refine ⟨_,rfl,?_⟩
  replace hB:=hB.trans av
  replace ac:=ac.gr av
  refine ⟨ac,?_⟩
  simp only [p3,p4]
  refine ov 42 (.tuple #[iT (au),.bool (zi1 (fun j=>(dm j).nm) i ((dm i).nm))]) ?_
  refine ov 49 (iT (au)) ?_
  refine ov 50 (.bool (zi1 (fun j=>(dm j).nm) i ((dm i).nm))) ?_
  refine ov 5 (iT (au)) ?_
  refine ov 6 (.bool (zi1 (fun j=>(dm j).nm) i ((dm i).nm))) ?_
  refine zb4 ?_
  refine aO _ _ ?_
  refine wp_seq_k (fun br aU=>rg [0] (sv 51 (.bool (zi1 (fun j=>(dm j).nm) i ((dm i).nm))) ?_))
  refine za0 (aU _ _ ?_)
  refine wp_cond_split rfl (fun ak=>?_) (fun ak=>?_)
  ·have h5:zi1 (fun j=>(dm j).nm) i (dm i).nm=true:=ak
   refine wp_seq_k (fun a9 aC=>rg [0] (sv 2 (iT 9) ?_))
   refine za0 (aC _ _ ?_)
   refine wp_ret ?_
   simp only [Exit.then,Exit.inBlock]
   refine bodyPost_ret (v:=(iT 9)) (za3 rfl rfl) rfl ⟨?_,hB⟩
   exact congrArg (fun z=>Ending.returned (iT z)) (zS4 h6 hf hli (dke_9 hnm h1 h2 h3 h4 h5) (by decide))
  have h5:zi1 (fun j=>(dm j).nm) i (dm i).nm=false:=ak
  refine wp_skip ?_
  refine aF _ _ ?_
  refine rg [0,1] ?_
  refine sw 52 (iT ((i:Int)+1)) rfl (rwI ((i:Int)+1)) ?_
  refine sv 12 (iT ((i:Int)+1)) ?_
  refine za0 ?_
  refine aI (N - (i+1)) ⟨List.toArray ?l56,[]⟩ _ (by omega) ?_
  exact ⟨i+1,(fun i=>List.getD ?l56 i undef),rfl,rfl,(by omega),zR7 hf (dke_0 hnm h1 h2 h3 h4 h5),hB⟩
 have hei:N=i:=by have:=of_decide_eq_false af;omega
 subst hei
 refine wp_exit ?_
 simp only [Exit.then,Exit.inBlock,↓reduceIte]
 refine aM _ _ ?_
 refine wp_seq_k (fun bu aD=>rg [0] (sv 2 (iT 0) ?_))
 refine za0 (aD _ _ ?_)
 refine wp_ret ?_
 refine bodyPost_ret (v:=(iT 0)) (za3 rfl rfl) rfl ⟨?_,hB⟩
 exact congrArg (fun z=>Ending.returned (iT z)) (dck_0 h6 hf)

theorem al_tolg {x:Dmn} {w:World}:
    Calls Tryz.prog 43 #[.agg #[sV x.nm,iT (x.no),iT (x.lo),iT (x.up)]] w fun e w'=>e=.returned (.bool (x.lo !=0||x.up !=0))∧Gr w w':=by
 go_enter Tryz.func43,Tryz.ntmps43
 have hB:=Gr.refl w
 refine wp_seq_k (fun aj ae=>rg [0,1] ?_)
 refine se ?_
 refine eb 71 #[sV x.nm,iT (x.no),iT (x.lo),iT (x.up)] 1 hB fun ad af ai ac ah ak hB=>?_
 simp only [p3,p4]
 refine sv 2 (.bool false) (za0 (ae _ _ ?_))
 refine wp_seq_k (fun al aa=>rg [0,1,2,3,4,5,6,7,8] (sv 3 (pT ad 2) ?_))
 refine sw 4 (iT (x.lo)) rfl (rk 3 2 ac) ?_
 refine sv 5 (.bool (x.lo !=(0:Int))) ?_
 rcases Bool.eq_false_or_eq_true (x.lo !=(0:Int)) with hb13 | hb13
 ·refine sw 6 (.bool true) rfl (RunV.bool (x:=(x.lo !=(0:Int))) (rvk (by kernel_rfl)) hb13) ?_
  refine ss 7 ?_
  refine ss 8 ?_
  refine ss 9 ?_
  refine sv 10 (.bool true) ?_
  refine sv 2 (.bool true) (za0 (aa _ _ ?_))
  refine wp_ret ?_
  refine bodyPost_ret (v:=(.bool true)) (za3 rfl rfl) rfl ⟨?_,hB⟩
  exact congrArg (fun b=>Ending.returned (.bool b)) (by simp only [hb13];rfl)
 refine sw 6 (.bool false) rfl (RunV.bool (x:=(x.lo !=(0:Int))) (rvk (by kernel_rfl)) hb13) ?_
 refine sv 7 (pT ad 3) ?_
 refine sw 8 (iT (x.up)) rfl (rk 3 3 ac) ?_
 refine sv 9 (.bool (x.up !=(0:Int))) ?_
 refine sv 10 (.bool (x.up !=(0:Int))) ?_
 refine sv 2 (.bool (x.up !=(0:Int))) (za0 (aa _ _ ?_))
 refine wp_ret ?_
 refine bodyPost_ret (v:=(.bool (x.up !=(0:Int)))) (za3 rfl rfl) rfl ⟨?_,hB⟩
 exact congrArg (fun b=>Ending.returned (.bool b)) (by simp only [hb13];rfl)

theorem di_idxt {N T:Nat} (_hN:N≤1000) {dm:Nat→Dmn} {v:Value} {w:World} (hv:Sl EDg T 4 w v (tb (fun z1=>(dm z1)) N)):
    Calls Tryz.prog 75 #[v,(.func (.func 43) #[] #[])] w fun e w'=>e=.returned (iT (zx1 (fun j=>(dm j).lo !=0||(dm j).up !=0) N))∧Gr w w':=by
 go_enter Tryz.func75,Tryz.ntmps75
 have hB:=Gr.refl w
 refine wp_seq_k (fun aL af=>rg [0] (sv 4 (iT 0) ?_))
 refine za0 (af _ _ ?_)
 refine wp_seq_k (fun aB ak=>wp_seq_k (fun aF aw=>rg [0,1,2] (sv 6 v ?_)))
 refine sw 7 (iT (N:Int)) rfl (za9 (e:=71) hv (za8 rfl) _ _ rfl rfl (by kernel_rfl)) ?_
 refine sv 8 (iT 0) (za0 (aw _ _ ?_))
 refine wp_block ?_
 refine zb2 (a:=⟨List.toArray ?l13,[]⟩) (fun n a w'=>∃ (k:Nat) (aa:Nat→Value),N - k=n∧a=⟨[v,(.func (.func 43) #[] #[]),undef,undef,aa 4,aa 5,aa 6,iT (N:Int),iT (k:Int),aa 9,aa 10,aa 11,aa 12,aa 13,aa 14,aa 15,aa 16,aa 17,aa 18].toArray,[]⟩∧k≤N∧(∀ j,j<k→((dm j).lo !=0||(dm j).up !=0)=false)∧Gr w w') (N - 0) ?_ ?_
 ·exact ⟨0,(fun i=>List.getD ?l13 i undef),rfl,rfl,Nat.zero_le _,(fun j h=>absurd h (Nat.not_lt_zero j)),hB⟩
 rintro aA az aI ⟨k,aa,rfl,rfl,hkk,hf,hB⟩ ax ah
 refine wp_seq_k (fun aD aq=>rg [0] (sv 9 (.bool (decide ((k:Int)<(N:Int)))) ?_))
 refine za0 (aq _ _ ?_)
 refine wp_seq_k (fun aH al=>?_)
 refine wp_cond_split rfl (fun ad=>?_) (fun ad=>?_)
 ·have hlk:k<N:=by have:=of_decide_eq_true ad;omega
  refine wp_skip ?_
  refine al _ _ ?_
  refine wp_seq_k (fun aM ai=>?_)
  refine wp_block ?_
  refine wp_seq_k (fun aK av=>rg [0,1] (sv 10 (iT (k:Int)) ?_))
  refine sv 5 (iT (k:Int)) (za0 (av _ _ ?_))
  refine wp_seq_k (fun ay aj=>rg [0,1,2,3,4,5] (sv 11 (.func (.func 43) #[] #[]) ?_))
  refine sv 12 v ?_
  refine sv 13 (iT (k:Int)) ?_
  refine sw 14 (adr v (k*4)) rfl (zb1 (e:=71) hv za7 (by decide) k (by omega) _ _ _ rfl rfl rfl (by kernel_rfl) (by kernel_rfl)) ?_
  obtain ⟨_,_,rfl,ae⟩:=Sl.get hv (by decide) (zb5 (f:=(fun z1=>(dm z1))) (n:=N) (i:=k) (by omega))
  refine sw 15 (.agg #[sV ((dm k).nm),iT ((dm k).no),iT ((dm k).lo),iT ((dm k).up)]) rfl (ze7 [sV ((dm k).nm),iT ((dm k).no),iT ((dm k).lo),iT ((dm k).up)] (ae.gr hB) _ _ rfl rfl (by kernel_rfl)) ?_
  refine se ?_
  refine ec 16 (al_tolg (x:=(dm k))) ?_
  rintro aJ aG ⟨rfl,au⟩
  refine ⟨_,rfl,?_⟩
  replace hB:=hB.trans au
  simp only [p3,p4]
  refine za0 (aj _ _ ?_)
  refine wp_cond_split rfl (fun ac=>?_) (fun ac=>?_)
  ·have hn:((dm k).lo !=0||(dm k).up !=0)=true:=ac
   refine wp_seq_k (fun aC ar=>rg [0,1] (sv 17 (iT (k:Int)) ?_))
   refine sv 4 (iT (k:Int)) (za0 (ar _ _ ?_))
   refine wp_ret ?_
   simp only [Exit.then,Exit.inBlock]
   refine bodyPost_ret (v:=(iT (k:Int))) (za3 rfl rfl) rfl ⟨?_,hB⟩
   exact congrArg (fun z=>Ending.returned (iT z)) (zG0 (p:=(fun j=>(dm j).lo !=0||(dm j).up !=0)) hlk hn hf)
  have hn:((dm k).lo !=0||(dm k).up !=0)=false:=ac
  refine wp_skip ?_
  refine ai _ _ ?_
  refine rg [0,1] ?_
  refine sw 18 (iT ((k:Int)+1)) rfl (rwI ((k:Int)+1)) ?_
  refine sv 8 (iT ((k:Int)+1)) ?_
  refine za0 ?_
  refine ah (N - (k+1)) ⟨List.toArray ?l24,[]⟩ _ (by omega) ?_
  exact ⟨k+1,(fun i=>List.getD ?l24 i undef),rfl,rfl,(by omega),zC8 hf hn,hB⟩
 have hek:N=k:=by have:=of_decide_eq_false ad;omega
 subst hek
 refine wp_exit ?_
 simp only [Exit.then,Exit.inBlock,↓reduceIte]
 refine ak _ _ ?_
 refine wp_seq_k (fun aE ap=>rg [0] (sv 4 (iT (-1)) ?_))
 refine za0 (ap _ _ ?_)
 refine wp_ret ?_
 refine bodyPost_ret (v:=(iT (-1))) (za3 rfl rfl) rfl ⟨?_,hB⟩
 exact congrArg (fun z=>Ending.returned (iT z)) (zG1 (p:=(fun j=>(dm j).lo !=0||(dm j).up !=0)) hf)

theorem di_contg {N T:Nat} (hN:N≤1000) {dm:Nat→Dmn} {v:Value} {w:World} (hv:Sl EDg T 4 w v (tb (fun z1=>(dm z1)) N)):
    Calls Tryz.prog 42 #[v,(.func (.func 43) #[] #[])] w fun e w'=>e=.returned (.bool (tol dm N))∧Gr w w':=by
 go_enter Tryz.func42,Tryz.ntmps42
 have hB:=Gr.refl w
 refine wp_seq_k (fun ai aa=>rg [0] (sv 4 (.bool false) ?_))
 refine za0 (aa _ _ ?_)
 refine wp_seq_k (fun ah ac=>rg [0,1,2,3,4] (sv 5 v ?_))
 refine sv 6 (.func (.func 43) #[] #[]) ?_
 refine se ?_
 refine ec 7 (di_idxt hN (hv.gr zb3 hB)) ?_
 rintro af ae ⟨rfl,ad⟩
 refine ⟨_,rfl,?_⟩
 replace hB:=hB.trans ad
 simp only [p3,p4]
 refine sv 8 (.bool (decide ((0:Int)≤zx1 (fun j=>(dm j).lo !=0||(dm j).up !=0) N))) ?_
 refine sv 4 (.bool (decide ((0:Int)≤zx1 (fun j=>(dm j).lo !=0||(dm j).up !=0) N))) (za0 (ac _ _ ?_))
 refine wp_ret ?_
 refine bodyPost_ret (v:=(.bool (decide ((0:Int)≤zx1 (fun j=>(dm j).lo !=0||(dm j).up !=0) N)))) (za3 rfl rfl) rfl ⟨?_,hB⟩
 exact congrArg (fun b=>Ending.returned (.bool b)) zO5

end Go.Proofs.YtjhflekncldflaaGreatDoor
namespace Go.Proofs.YtjhflekncldflaaGreatDoor
open Go.RowKit Go.Maps
def NmS (w:World) (b k:Nat) (nm:Nat→List UInt8):Prop:=∃ D:DataW Unit,w.ownsMap Tryz.prog 9 (plainElem Tryz.prog 4) b k D∧IsMap D∧∀ X:List UInt8,D.atKey (.string X) (.lit (.bool false))=.lit (.bool (zi1 nm k X))
theorem NmS.gr {w w':World} {b k:Nat} {nm:Nat→List UInt8} (h:NmS w b k nm) (g:Gr w w'):NmS w' b k nm:=by
 obtain ⟨D,h1,h2⟩:=h
 exact ⟨D,h1.kept (row:=none) ⟨g.os,g.tape,g.output,g.size,fun j hj _=>g.block j hj⟩ (by simp),h2⟩
theorem NmS.st {w w':World} {b k c:Nat} {nm:Nat→List UInt8} {cs:Array Value} {t:TypeId} (h:NmS w b k nm) (g:St w w' c) (hL:Lc w c cs t):NmS w' b k nm:=by
 obtain ⟨D,h1,h2⟩:=h
 have hne:b≠c:=by
  rintro rfl
  obtain ⟨es,clock,hb,_⟩:=h1
  rw [show w.heap[b]?=_ from hL] at hb;cases hb
 exact ⟨D,h1.kept (row:=some c) ⟨g.os,g.tape,g.output,Nat.le_of_eq g.size.symm,fun j _ hj=>g.block j (fun e=>hj (by rw [e]))⟩ (fun e=>hne (by cases e;rfl)),h2⟩
theorem nkey {X:List UInt8} (h:X.length≤9223372036854775807):keyOf Tryz.prog 9 (.string ⟨X.toArray⟩)=some (.string X):=by
 have:=Go.WideMaps.keyOf_string_mk (P:=Tryz.prog) (k:=9) Tryz.underlying9 (s:=⟨X.toArray⟩) (by show X.toArray.size≤_;simpa [maxLen] using h)
 simpa using this
theorem zr3 {P:Program} {e:TypeId} (he:P.underlying e=some .bool) {v:Value} {z:DataW Unit × List MemPlace} (h:plainElem P e v=some z):∃ x,v=.bool x∧z=(.lit (.bool x),[]):=by
 unfold plainElem at h
 rw [he] at h
 cases v<;>simp at h
 exact ⟨_,rfl,h.symm⟩
section
variable {a:Act} {o:Oper} {w:World} {Q:Exit→Act→World→Prop} {K:Act→World→Prop}
theorem rv_look {b k:Nat} {nm:Nat→List UInt8} (h:NmS w b k nm) (x y:Operand) (X:List UInt8) (hop:o.op=.lookup 116 x y false) (hx:a.eval x=.map (some b)) (hy:a.eval y=.string ⟨X.toArray⟩) (hX:X.length≤9223372036854775807):RunV Tryz.prog a o w (.bool (zi1 nm k X)):=by
 obtain ⟨D,h1,h2,h3⟩:=h
 obtain ⟨v,ps,hrun,hv⟩:=h1.lookup (string_keyed Tryz.underlying9) Tryz.underlying116 (z:=.bool false) (by kernel_rfl) (plainElem_bool Tryz.underlying4 false) (nkey hX)
 rw [h3] at hv
 obtain ⟨z,rfl,hz⟩:=zr3 Tryz.underlying4 hv
 simp only [Prod.mk.injEq,DataW.lit.injEq,Lit.bool.injEq] at hz
 unfold RunV execOp
 simp only [hop,hx,hy,Sem.run_bind,hrun,Result.andThen_ok,Sem.run_pure,hz.1]
theorem ya3 {d:Option Tmp} {nm:Nat→List UInt8} (hd:o.dst=d) (hop:o.op=.makeMap 116 none) (h:∀ b w',w.heap.size≤b→Gr w w'→NmS w' b 0 nm→K (a.put d (.map (some b))) w'):o.wp Tryz.prog a w K Q:=by
 subst hd
 unfold Oper.wp execOp
 simp only [hop,Option.map_none,Sem.run_bind,run_makeMap,Result.andThen_ok,Sem.run_pure]
 exact h w.heap.size _ (Nat.le_refl _) (Gr.alloc w _) ⟨.map [],World.ownsMap_made _ _ _ _,isMap_empty,fun X=>rfl⟩
theorem zS8 {b k:Nat} {nm:Nat→List UInt8} (x y z:Operand) (X:List UInt8) (hN:NmS w b k nm) (hop:o.op=.mapUpdate 116 x y z) (hd:o.dst=none) (hx:a.eval x=.map (some b)) (hy:a.eval y=.string ⟨X.toArray⟩) (hz:a.eval z=.bool true) (hk:k≤1000) (hX:nm k=X) (hl:X.length≤9223372036854775807)
  (h:∀ w',Wt 999999999 w w'→(∀ w0,Gr w0 w→w0.heap.size≤b→Gr w0 w')→NmS w' b (k+1) nm→K a w'):o.wp Tryz.prog a w K Q:=by
 obtain ⟨D,h1,h2,h3⟩:=hN
 have hb:=h1
 obtain ⟨w',hrun,hown,hg⟩:=h1.update (string_keyed Tryz.underlying9) Tryz.underlying116 (by unfold maxLen;omega) (nkey hl) (plainElem_bool Tryz.underlying4 true)
 have hnc:∀ (c:Nat) (cs:Array Value) (t:TypeId) (fr:Nat × Nat),w.heap[c]?=some (.cells cs t fr)→c≠b:=fun c cs t fr hc e=>by
  subst e
  obtain ⟨es,clock,hb,_⟩:=hb
  rw [hc] at hb;cases hb
 unfold Oper.wp execOp
 simp only [hop,hx,hy,hz,Sem.run_bind,hrun,Result.andThen_ok,Sem.run_pure]
 have hput:a.put o.dst undef=a:=by rw [hd];rfl
 refine (show K (a.put o.dst _) w' from ?_)
 rw [hd]
 refine h w' ⟨hg.os,hg.tape,hg.output,hg.size,fun c cs t fr _ hc=>(hg.block c (zf5 hc) (fun e=>hnc c cs t fr hc (by cases e;rfl))).trans hc⟩
  (fun w0 g0 hB=>⟨hg.os.trans g0.os,hg.tape.trans g0.tape,hg.output.trans g0.output,Nat.le_trans g0.size hg.size,fun j hj=>(hg.block j (Nat.lt_of_lt_of_le hj g0.size) (fun e=>by cases e;omega)).trans (g0.block j hj)⟩)
  ⟨_,hown,h2.put _ _,fun Y=>?_⟩
 by_cases hY:Y=X
 ·subst hY
  rw [atKey_put_same h2 (by first | trivial | rfl | decide | exact ⟨⟩)]
  unfold zi1
  rw [List.range_succ,List.any_append]
  simp [hX]
 rw [atKey_put_other (by intro e;cases e;exact hY rfl),h3]
 unfold zi1
 rw [List.range_succ,List.any_append]
 have:(nm k==Y)=false:=by rw [hX,beq_eq_false_iff_ne];exact fun e=>hY e.symm
 simp [this]
end
end Go.Proofs.YtjhflekncldflaaGreatDoor
