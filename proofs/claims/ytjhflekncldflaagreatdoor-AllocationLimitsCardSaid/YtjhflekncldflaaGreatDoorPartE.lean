/- Joined of: Arr, Pq, Gen208, Wk, Gen209, Gen210, Vf, Gen211, Gen213, Gen212, Gen215, Nm, Os, Og, Gd, Gen223, Gen224, Mp. -/
import Derived.Test.YtjhflekncldflaaGreatDoorPartA
import Derived.ChangeKeysEq
import Derived.Laws.StructEq
import Derived.Test.YtjhflekncldflaaGreatDoorPartD
import Derived.Test.YtjhflekncldflaaGreatDoorPartC
import Derived.Test.YtjhflekncldflaaGreatDoorPartB
import Derived.ChangeArms
import Derived.OpenShut
import Derived.Maps.Own
import Derived.Maps.Views
import Derived.StringKeys
namespace Go.Proofs.YtjhflekncldflaaGreatDoor
open Go.RowKit

section
variable {P:Program} {a:Act} {o:Oper} {w:World}
end
section
variable {P:Program} {a:Act} {o:Oper} {w:World}
theorem pq_equal {t tI:TypeId} (z0 z1 y0 y1:Int) (ht:P.underlying t=some (.struct (P.fieldsOf t))) (hs:P.stoodInHeld t=false)
  (hf:((P.fieldsOf t).toList.map fun f=>(f.name=="_",f.type,f.offset))=[(false,tI,0),(false,tI,1)]) (hI:(P.underlying tI,(P.info? tI).isSome,P.plainKey tI)=(some (.int .i64),true,true)):
  (Op.equal t (.agg #[.int .i64 z0,.int .i64 z1]) (.agg #[.int .i64 y0,.int .i64 y1])).run P w=.ok ((z0==y0)&&(z1==y1)) w:=by
 simp only [Prod.mk.injEq] at hI
 obtain ⟨h1,h2,h4⟩:=hI
 obtain ⟨f1,f2,hfs⟩:∃ f1 f2,(P.fieldsOf t).toList=[f1,f2]:=by
  generalize (P.fieldsOf t).toList=l at hf
  rcases l with _ | ⟨f1,_ | ⟨f2,_ | ⟨f3,l⟩⟩⟩
  ·simp at hf
  ·simp at hf
  ·exact ⟨f1,f2,rfl⟩
  simp at hf
 rw [hfs] at hf
 simp only [List.map_cons,List.map_nil,List.cons.injEq,Prod.mk.injEq,and_true,beq_eq_false_iff_ne,ne_eq] at hf
 obtain ⟨⟨n1,t1,o1⟩,n2,t2,o2⟩:=hf
 obtain ⟨i,hi⟩:=Option.isSome_iff_exists.1 h2
 show (Op.equalIn (9999+1) t _ _).run P w=_
 rw [run_equalIn_struct w 9999 t _ _ ht hs,hfs]
 have e0:(Op.equalIn 9999 tI (.int .i64 z0) (.int .i64 y0)).run P w=.ok (z0==y0) w:=run_equalIn_int w 9998 tI .i64 .i64 z0 y0 h1
 have e1:(Op.equalIn 9999 tI (.int .i64 z1) (.int .i64 y1)).run P w=.ok (z1==y1) w:=run_equalIn_int w 9998 tI .i64 .i64 z1 y1 h1
 simp [Op.eqFields,n1,n2,t1,t2,o1,o2,part,isAgg,run_underlying h1,e0,e1]
 cases h3:(z0==y0)<;>cases h5:(z1==y1)<;>simp_all
theorem rv_pqne (t t2 tI:Nat) (x y:Operand) (z0 z1 y0 y1:Int) (hop:o.op=.binOp .neq t x y t2) (hx:a.eval x=.agg #[.int .i64 z0,.int .i64 z1]) (hy:a.eval y=.agg #[.int .i64 y0,.int .i64 y1])
  (ht:P.underlying t=some (.struct (P.fieldsOf t))) (hs:P.stoodInHeld t=false) (hf:((P.fieldsOf t).toList.map fun f=>(f.name=="_",f.type,f.offset))=[(false,tI,0),(false,tI,1)])
  (hI:(P.underlying tI,(P.info? tI).isSome,P.plainKey tI)=(some (.int .i64),true,true)) (hg:P.eqGuardType P.depth t=false):RunV P a o w (.bool (!((z0==y0)&&(z1==y1)))):=by
 have h:=pq_equal (P:=P) (w:=w) z0 z1 y0 y1 ht hs hf hI
 unfold RunV execOp
 simp only [hop,hx,hy]
 simp [go_sem,binOp,eqGuard,hg,h]
end
section
variable {F G:Nat→Int × Int} {N M k:Nat}
theorem tbq_len (h:¬ N=M):decide (tb F N=tb G M)=false:=decide_eq_false fun e=>h (by have:=congrArg List.length e;rwa [za8,za8] at this)
theorem tbq_f (h:k<N) (hx:((F k).1==(G k).1&&(F k).2==(G k).2)=false):decide (tb F N=tb G N)=false:=decide_eq_false fun e=>by
 have:=congrArg (fun l=>l[k]?) e
 simp only [zc3 h,Option.some.injEq] at this
 rw [this] at hx
 simp at hx
theorem tbq_t (h:∀ j,j<N→F j=G j):decide (tb F N=tb G N)=true:=decide_eq_true (zu9 h)
theorem tbq_one (h:∀ j,j<k→F j=G j) (hx:((F k).1==(G k).1&&(F k).2==(G k).2)=true):∀ j,j<k+1→F j=G j:=fun j hj=>by
 rcases Nat.lt_or_eq_of_le (Nat.le_of_lt_succ hj) with h1 | rfl
 ·exact h j h1
 simp at hx;exact Prod.ext hx.1 hx.2
end
end Go.Proofs.YtjhflekncldflaaGreatDoor
namespace Go.Proofs.YtjhflekncldflaaGreatDoor
set_option maxRecDepth 100000
set_option maxHeartbeats 4000000
open Go.RowKit

theorem notq_t {b:Bool} (h:(!b)=true):b=false:=by cases b<;>simp_all
theorem notq_f {b:Bool} (h:(!b)=false):b=true:=by cases b<;>simp_all
theorem eq_pk {N M:Nat} (_hM:M≤1000) {va vb:Value} {G1 G2:Nat→Int × Int} {w:World} (ha:Sl EPk 104 2 w va (tb (fun z1=>(G1 z1)) N)) (hb_:Sl EPk 104 2 w vb (tb (fun z1=>(G2 z1)) M)):
    Calls Tryz.prog 58 #[va,vb] w fun e w'=>e=.returned (.bool (decide (tb G1 N=tb G2 M)))∧Gr w w':=by
 go_enter Tryz.func58,Tryz.ntmps58
 have hB:=Gr.refl w
 refine wp_seq_k (fun aM al=>rg [0] (sv 4 (.bool false) ?_))
 refine za0 (al _ _ ?_)
 refine wp_seq_k (fun aG ap=>wp_seq_k (fun aH aq=>rg [0,1,2,3,4] (sv 6 va ?_)))
 refine sw 7 (iT (N:Int)) rfl (zb0 (e:=104) ha (za9 rfl) _ _ rfl rfl (by kernel_rfl)) ?_
 refine sv 8 vb ?_
 refine sw 9 (iT (M:Int)) rfl (zb0 (e:=104) hb_ (za9 rfl) _ _ rfl rfl (by kernel_rfl)) ?_
 refine sv 10 (.bool ((N:Int) !=(M:Int))) (za0 (aq _ _ ?_))
 refine wp_cond_split rfl (fun ad=>?_) (fun ad=>?_)
 ·have hnm:=bne_t ad
  refine wp_seq_k (fun aJ au=>rg [0] (sv 4 (.bool false) ?_))
  refine za0 (au _ _ ?_)
  refine wp_ret ?_
  simp only [Exit.then]
  refine bodyPost_ret (v:=(.bool false)) (za3 rfl rfl) rfl ⟨?_,hB⟩
  exact (by rw [tbq_len hnm])
 have hnm:=bne_f ad
 subst hnm
 refine wp_skip ?_
 refine ap _ _ ?_
 refine wp_seq_k (fun aE az=>wp_seq_k (fun aN av=>rg [0,1,2] (sv 11 va ?_)))
 refine sw 12 (iT (N:Int)) rfl (zb0 (e:=104) ha (za9 rfl) _ _ rfl rfl (by kernel_rfl)) ?_
 refine sv 13 (iT 0) (za0 (av _ _ ?_))
 refine wp_block ?_
 refine zb1 (a:=⟨List.toArray ?l17,[]⟩) (fun n a w'=>∃ (k:Nat) (aa:Nat→Value),N - k=n∧a=⟨[va,vb,undef,undef,aa 4,aa 5,aa 6,aa 7,aa 8,aa 9,.bool ((N:Int) !=(N:Int)),aa 11,iT (N:Int),iT (k:Int),aa 14,aa 15,aa 16,aa 17,aa 18,aa 19,aa 20,aa 21,aa 22,aa 23,aa 24,aa 25].toArray,[]⟩∧k≤N∧(∀ j,j<k→G1 j=G2 j)∧Gr w w') (N - 0) ?_ ?_
 ·exact ⟨0,(fun i=>List.getD ?l17 i undef),rfl,rfl,Nat.zero_le _,(fun j hj=>absurd hj (Nat.not_lt_zero j)),hB⟩
 rintro aS aP aC ⟨k,aa,rfl,rfl,hkk,hf,hB⟩ aR aA
 refine wp_seq_k (fun aD ax=>rg [0] (sv 14 (.bool (decide ((k:Int)<(N:Int)))) ?_))
 refine za0 (ax _ _ ?_)
 refine wp_seq_k (fun aF ar=>?_)
 refine wp_cond_split rfl (fun ac=>?_) (fun ac=>?_)
 ·have hlk:k<N:=by have:=of_decide_eq_true ac;omega
  refine wp_skip ?_
  refine ar _ _ ?_
  refine wp_seq_k (fun aI aj=>?_)
  refine wp_block ?_
  refine wp_seq_k (fun aO aw=>rg [0,1] (sv 15 (iT (k:Int)) ?_))
  refine sv 5 (iT (k:Int)) (za0 (aw _ _ ?_))
  refine wp_seq_k (fun aL ay=>?_)
  obtain ⟨_,_,rfl,ai⟩:=Sl.get ha (by decide) (zc3 (f:=(fun z1=>(G1 z1))) (n:=N) (i:=k) (by omega))
  obtain ⟨_,_,rfl,af⟩:=Sl.get hb_ (by decide) (zc3 (f:=(fun z1=>(G2 z1))) (n:=N) (i:=k) (by omega))
  have ah:=Gr.drew aC
  replace hB:=hB.trans ah
  refine za4 (fun w'=>AtV w' va (k*2) [iT ((G1 k).1),iT ((G1 k).2)]∧AtV w' vb (k*2) [iT ((G2 k).1),iT ((G2 k).2)]) [(true,0),(true,1),(true,2),(true,3),(true,4),(true,5),(true,6),(true,7),(true,8)] (by kernel_rfl) (by kernel_rfl) (by kernel_rfl) (by decide) (fun _ _ _ _ _ h=>h) ⟨ai.gr hB,af.gr hB⟩ ?_
  refine ov 16 va ?_
  refine ov 17 (iT (k:Int)) ?_
  refine ow 18 (adr va (k*2)) rfl (fun w' hS=>(zc0 (e:=104) ha za8 (by decide) k (by omega) _ _ _ rfl rfl rfl (by kernel_rfl) (by kernel_rfl))) ?_
  refine ow 19 (.agg #[iT ((G1 k).1),iT ((G1 k).2)]) rfl (fun w' hS=>(ze5 [iT ((G1 k).1),iT ((G1 k).2)] hS.1 _ _ rfl rfl (by kernel_rfl))) ?_
  refine ov 20 vb ?_
  refine ov 21 (iT (k:Int)) ?_
  refine ow 22 (adr vb (k*2)) rfl (fun w' hS=>(zc0 (e:=104) hb_ za8 (by decide) k (by omega) _ _ _ rfl rfl rfl (by kernel_rfl) (by kernel_rfl))) ?_
  refine ow 23 (.agg #[iT ((G2 k).1),iT ((G2 k).2)]) rfl (fun w' hS=>(ze5 [iT ((G2 k).1),iT ((G2 k).2)] hS.2 _ _ rfl rfl (by kernel_rfl))) ?_
  refine ow 24 (.bool (!(((G1 k).1==(G2 k).1)&&((G1 k).2==(G2 k).2)))) rfl (fun w' hS=>(rv_pqne 104 104 3 _ _ ((G1 k).1) ((G1 k).2) ((G2 k).1) ((G2 k).2) rfl rfl rfl (by kernel_rfl) (by kernel_rfl) (by kernel_rfl) (by kernel_rfl) (by kernel_rfl))) ?_
  refine zb4 ?_
  refine ay _ _ ?_
  refine wp_cond_split rfl (fun ae=>?_) (fun ae=>?_)
  ·have hx:=notq_t ae
   refine wp_seq_k (fun aK aB=>rg [0] (sv 4 (.bool false) ?_))
   refine za0 (aB _ _ ?_)
   refine wp_ret ?_
   simp only [Exit.then,Exit.inBlock]
   refine bodyPost_ret (v:=(.bool false)) (za3 rfl rfl) rfl ⟨?_,hB⟩
   exact (by rw [tbq_f hlk hx])
  have hx:=notq_f ae
  refine wp_skip ?_
  refine aj _ _ ?_
  refine rg [0,1] ?_
  refine sw 25 (iT ((k:Int)+1)) rfl (rwI ((k:Int)+1)) ?_
  refine sv 13 (iT ((k:Int)+1)) ?_
  refine za0 ?_
  refine aA (N - (k+1)) ⟨List.toArray ?l30,[]⟩ _ (by omega) ?_
  exact ⟨k+1,(fun i=>List.getD ?l30 i undef),rfl,rfl,(by omega),tbq_one hf hx,hB⟩
 have hek:N=k:=by have:=of_decide_eq_false ac;omega
 subst hek
 refine wp_exit ?_
 simp only [Exit.then,Exit.inBlock,↓reduceIte]
 refine az _ _ ?_
 refine wp_seq_k (fun aQ ak=>rg [0] (sv 4 (.bool true) ?_))
 refine za0 (ak _ _ ?_)
 refine wp_ret ?_
 refine bodyPost_ret (v:=(.bool true)) (za3 rfl rfl) rfl ⟨?_,hB⟩
 exact (by rw [tbq_t hf])

theorem eq_pk2 {l:List Nat} (hn:l.length≤12) {fx:List (Int × Int)} {va vb:Value} {w:World} (ha:Sl EPk 104 2 w va fx) (hb:Sl EPk 104 2 w vb (tb (fun z1=>((z1:Int),((Ofr.at_ l z1:Nat):Int))) l.length)):
  Calls Tryz.prog 58 #[va,vb] w fun e w'=>e=.returned (.bool (decide (fx=pk l)))∧Gr w w':=by
 have h:=eq_pk (by omega) (ha.cast (list_tb (d:=(0,0))).symm) hb
 rw [list_tb] at h
 exact h
end Go.Proofs.YtjhflekncldflaaGreatDoor
namespace Go.Proofs.YtjhflekncldflaaGreatDoor
open Go.RowKit
def dLf:Leaf:=⟨[],0,0,[]⟩
def Ofr.wfold (D:Ofr) (b:Bool) (co:Int) (g:Nat) (l:List Nat) (lf:List Leaf) (k:Nat):Bool × List Leaf:=
 (List.range k).foldl (fun (st:Bool × List Leaf) k=>if st.1 then D.walk b co g (l++[k]) st.2 else st) (true,lf)
section
variable {D:Ofr} {b:Bool} {co:Int} {g k:Nat} {l:List Nat} {lf:List Leaf}
theorem zS1 (h:(D.wfold b co g l lf k).1=true):D.walk b co g (l++[k]) (D.wfold b co g l lf k).2=D.wfold b co g l lf (k+1):=by
 have e:D.wfold b co g l lf (k+1)=if (D.wfold b co g l lf k).1 then D.walk b co g (l++[k]) (D.wfold b co g l lf k).2 else D.wfold b co g l lf k:=by
  unfold Ofr.wfold;rw [List.range_succ,List.foldl_append];rfl
 rw [e,if_pos h]
theorem yc5 (h:(D.wfold b co g l lf k).1=false):∀ m,D.wfold b co g l lf (k+m)=D.wfold b co g l lf k
 | 0=>rfl
 | m+1=>by
  have e:D.wfold b co g l lf (k+(m+1))=if (D.wfold b co g l lf (k+m)).1 then D.walk b co g (l++[k+m]) (D.wfold b co g l lf (k+m)).2 else D.wfold b co g l lf (k+m):=by
   unfold Ofr.wfold;rw [← Nat.add_assoc,List.range_succ,List.foldl_append];rfl
  rw [e,yc5 h m,if_neg (by rw [h];decide)]
theorem wk_nil (h:lf.length=0):D.walk b co (g+1) l lf=(false,lf):=by
 obtain rfl:=List.eq_nil_of_length_eq_zero h
 rfl
theorem wk_hit (h:¬ lf.length=0) (hx:(lf.getD 0 dLf).fx=pk l):D.walk b co (g+1) l lf=(D.proves b co (lf.getD 0 dLf) l,tb (fun i=>lf.getD (1+i) dLf) (lf.length - 1)):=by
 cases lf with
 | nil=>exact absurd rfl h
 | cons x r=>
  have hx:x.fx=pk l:=hx
  unfold Ofr.walk
  rw [if_pos hx]
  refine Prod.ext rfl ?_
  show r=tb (fun i=>(x::r).getD (1+i) dLf) ((x::r).length - 1)
  have e:(fun i=>(x::r).getD (1+i) dLf)=fun i=>r.getD i dLf:=by
   funext i;rw [Nat.add_comm];rfl
  rw [e,List.length_cons,Nat.add_sub_cancel,list_tb]
theorem wk_end (h:¬ lf.length=0) (hx:¬ (lf.getD 0 dLf).fx=pk l) (hn:l.length=D.n):D.walk b co (g+1) l lf=(false,lf):=by
 cases lf with
 | nil=>exact absurd rfl h
 | cons x r=>
  have hx:¬ x.fx=pk l:=hx
  unfold Ofr.walk
  rw [if_neg hx,if_pos hn]
theorem wk_go (h:¬ lf.length=0) (hx:¬ (lf.getD 0 dLf).fx=pk l) (hn:¬ l.length=D.n):D.walk b co (g+1) l lf=D.wfold b co g l lf (D.ol l.length):=by
 cases lf with
 | nil=>exact absurd rfl h
 | cons x r=>
  have hx:¬ x.fx=pk l:=hx
  unfold Ofr.walk
  rw [if_neg hx,if_neg hn];rfl
theorem wk_fail (h:¬ lf.length=0) (hx:¬ (lf.getD 0 dLf).fx=pk l) (hn:¬ l.length=D.n) (hk:k<D.ol l.length) (hf:(D.wfold b co g l lf (k+1)).1=false):D.walk b co (g+1) l lf=(false,(D.wfold b co g l lf (k+1)).2):=by
 rw [wk_go h hx hn]
 obtain ⟨m,e⟩:∃ m,D.ol l.length=k+1+m:=⟨D.ol l.length - (k+1),by omega⟩
 rw [e,yc5 hf m]
 exact Prod.ext hf rfl
theorem wk_done (h:¬ lf.length=0) (hx:¬ (lf.getD 0 dLf).fx=pk l) (hn:¬ l.length=D.n) (hf:(D.wfold b co g l lf (D.ol l.length)).1=true):D.walk b co (g+1) l lf=(true,(D.wfold b co g l lf (D.ol l.length)).2):=by
 rw [wk_go h hx hn]
 exact Prod.ext hf rfl
end
end Go.Proofs.YtjhflekncldflaaGreatDoor
namespace Go.Proofs.YtjhflekncldflaaGreatDoor
set_option maxRecDepth 100000
set_option maxHeartbeats 4000000
open Go.RowKit

def WOK (D:Ofr) (b:Bool) (co:Int) (vc vp:Value) (B dk bl bd ba bo bs:Nat) (ds os rs sp cs ch:Value) (g:Nat):Prop:=∀ (l:List Nat) (lf:List Leaf) (w0 w:World) (v vl:Value),D.n<l.length+g→D.vp l→Mx w0→Gr w0 w→w0.heap.size≤B→B≤w.heap.size→Lc w dk #[ds,os,rs,sp,cs,ch] 158→Lc w bd #[.pointer (some ⟨dk,0,none⟩)] 118→Lc w bo #[ds,os,rs] 26→Lc w bs #[(.func (.func 57) #[] #[.pointer (some ⟨bl,0,none⟩),.pointer (some ⟨bd,0,none⟩),.pointer (some ⟨ba,0,none⟩),.pointer (some ⟨bo,0,none⟩),.pointer (some ⟨bs,0,none⟩)])] 132→Lc w ba #[.bool b,vc,.int .i64 co,vp] 43→Lc w bl #[vl] 41→Dsk w D ds os rs sp cs ch→Sl ELf 108 4 w vl lf→Sl EI64 3 1 w v (tb (fun z1=>((Ofr.at_ l z1:Nat):Int)) l.length)→
  Calls Tryz.prog 57 #[v,.pointer (some ⟨bl,0,none⟩),.pointer (some ⟨bd,0,none⟩),.pointer (some ⟨ba,0,none⟩),.pointer (some ⟨bo,0,none⟩),.pointer (some ⟨bs,0,none⟩)] w fun e w'=>(∃ vd,e=.returned (.bool (D.walk b co g l lf).1)∧Lc w' bl #[vd] 41∧Sl ELf 108 4 w' vd (D.walk b co g l lf).2)∧Wx B 41 bl [] w w'
theorem zU5 {b:Bool} (h:(!b)=true):b=false:=by cases b<;>simp_all
theorem zU6 {b:Bool} (h:(!b)=false):b=true:=by cases b<;>simp_all
theorem zU7 {D:Ofr} {b:Bool} {co:Int} {B dk bl bd ba bo bs g:Nat} {ds os rs sp cs ch v vc vp vl:Value} {l:List Nat} {lf:List Leaf} {w0 w:World} (ok:D.Ok) (ih:WOK D b co vc vp B dk bl bd ba bo bs ds os rs sp cs ch g) (hBl:B≤bl) (bE:vc.oneCell'=true) (bm:vp.oneCell'=true) (_hg:D.n<l.length+(g+1)) (hv:D.vp l) (hm:Mx w0) (h0:Gr w0 w) (aZ:w0.heap.size≤B) (hBw:B≤w.heap.size) (hL:Lc w dk #[ds,os,rs,sp,cs,ch] 158) (ah:Lc w bd #[pT dk 0] 118) (ai:Lc w bo #[ds,os,rs] 26) (ae:Lc w bs #[(.func (.func 57) #[] #[pT bl 0,pT bd 0,pT ba 0,pT bo 0,pT bs 0])] 132) (af:Lc w ba #[.bool b,vc,iT co,vp] 43) (aa:Lc w bl #[vl] 41) (hD:Dsk w D ds os rs sp cs ch) (a2:Sl ELf 108 4 w vl lf) (hl:Sl EI64 3 1 w v (tb (fun z1=>((Ofr.at_ l z1:Nat):Int)) l.length)):
    Calls Tryz.prog 57 #[v,pT bl 0,pT bd 0,pT ba 0,pT bo 0,pT bs 0] w fun e w'=>(∃ vd,e=.returned (.bool (D.walk b co (g+1) l lf).1)∧Lc w' bl #[vd] 41∧Sl ELf 108 4 w' vd (D.walk b co (g+1) l lf).2)∧Wx B 41 bl [] w w':=by
 have n1:=ok.n1
 have n2:=ok.n2
 have cf:=ok.q2
 have bK:=hv.1
 have hds:=hD.ds
 have hos:=hD.os
 have hrs:=hD.rs
 have hsp:=hD.sp
 have hcs:=hD.cs
 have hch:=hD.ch
 have aM:=Lc.nety hL aa (by decide)
 have aD:=Lc.nety ah aa (by decide)
 have aC:=Lc.nety af aa (by decide)
 have hlf:=a2.cast (list_tb (d:=dLf)).symm
 go_enter Tryz.func57,Tryz.ntmps57
 have hB:=Wx.refl (B:=B) (T0:=41) (bx:=bl) (ts:=[]) w
 refine wp_seq_k (fun bT bF=>rg [0] (sv 7 (.bool false) ?_))
 refine za0 (bF _ _ ?_)
 refine wp_seq_k (fun bN bG=>wp_seq_k (fun bR bw=>rg [0,1,2] ?_))
 refine sw 10 vl rfl (rk 41 0 aa) ?_
 refine sw 11 (iT ((lf.length:Nat):Int)) rfl (zb0 (e:=108) hlf (za9 rfl) _ _ rfl rfl (by kernel_rfl)) ?_
 refine sv 12 (.bool (((lf.length:Nat):Int)==(0:Int))) (za0 (bw _ _ ?_))
 refine wp_cond_split rfl (fun aU=>?_) (fun aU=>?_)
 ·have hlen:lf.length=0:=by have:=beq_iff_eq.1 aU;omega
  refine wp_seq_k (fun b2 bB=>rg [0] (sv 7 (.bool false) ?_))
  refine za0 (bB _ _ ?_)
  refine wp_ret ?_
  simp only [Exit.then]
  refine bodyPost_ret (v:=(.bool false)) (za3 rfl rfl) rfl ⟨?_,hB⟩
  exact (by rw [wk_nil hlen];exact ⟨_,rfl,aa,hlf.cast list_tb⟩)
 have hlen:¬ lf.length=0:=by have:=beq_eq_false_iff_ne.1 aU;omega
 refine wp_skip ?_
 refine bG _ _ ?_
 refine wp_seq_k (fun bL br=>wp_seq_k (fun b5 a9=>rg [0,1,2,3,4] ?_))
 refine sw 13 vl rfl (rk 41 0 aa) ?_
 refine sw 14 (adr vl (0*4)) rfl (zc0 (e:=108) hlf za8 (by decide) 0 (by omega) _ _ _ rfl rfl rfl (by kernel_rfl) (by kernel_rfl)) ?_
 obtain ⟨_,_,⟨aP,aB,rfl,aE,aN⟩,a4⟩:=Sl.get hlf (by decide) (zc3 (f:=(fun z1=>(lf.getD z1 dLf))) (n:=lf.length) (i:=0) (by omega))
 refine sw 15 (.agg #[aP,iT ((lf.getD 0 dLf).least),iT ((lf.getD 0 dLf).rq),aB]) rfl (ze5 [aP,iT ((lf.getD 0 dLf).least),iT ((lf.getD 0 dLf).rq),aB] a4 _ _ rfl rfl (by kernel_rfl)) ?_
 refine se ?_
 refine ze1 108 (.agg #[sN,iT 0,iT 0,sN]) #[sN,iT 0,iT 0,sN] (some 8) rfl rfl (by kernel_rfl) rfl (fun aW cc au aI aO=>?_)
 have aL:=hL.ne aO
 have az:=ah.ne aO
 have aK:=ai.ne aO
 have aJ:=ae.ne aO
 have ay:=af.ne aO
 have ak:=aa.ne aO
 have ax:=aO
 replace aO:=Nat.le_trans hB.size aO
 replace hB:=hB.trans au
 simp only [zd1,p3,p4]
 refine se ?_
 have aA:=aI
 refine zd2 108 _ _ aW 0 (.agg #[aP,iT ((lf.getD 0 dLf).least),iT ((lf.getD 0 dLf).rq),aB]) [aP,iT ((lf.getD 0 dLf).least),iT ((lf.getD 0 dLf).rq),aB] #[sN,iT 0,iT 0,sN] #[aP,iT ((lf.getD 0 dLf).least),iT ((lf.getD 0 dLf).rq),aB] 108 rfl rfl rfl rfl rfl aA (by kernel_rfl) (Nat.le_of_ble_eq_true rfl) ⟨aE.one,rfl,rfl,aN.one,trivial⟩ (by kernel_rfl) (fun bD ad aI=>?_)
 replace hB:=hB.sto ad aO hBw
 refine za0 (a9 _ _ ?_)
 refine wp_seq_k (fun cd bj=>?_)
 have ac:=Gr.drew bD
 replace hB:=hB.trans ac
 replace aI:=aI.gr ac
 refine za4 (fun w'=>Lc w' aW #[aP,iT ((lf.getD 0 dLf).least),iT ((lf.getD 0 dLf).rq),aB] 108) [(true,0),(true,1),(true,2),(false,3),(false,4)] (by kernel_rfl) (by kernel_rfl) (by kernel_rfl) (by decide) (fun _ _ _ _ _ h=>h) aI ?_
 refine ov 16 (pT aW 0) ?_
 refine ow 17 aP rfl (fun w' hS=>(rk 105 0 hS)) ?_
 refine ov 18 v ?_
 refine oe ?_
 replace hl:=hl.gr za2 ((ad.gr au ax).trans ac)
 refine ec 19 (zL9 (by omega) hl) ?_
 rintro cx bZ ⟨⟨ct,rfl,a5⟩,al⟩
 refine ⟨_,rfl,?_⟩
 replace hB:=hB.trans al
 replace aI:=aI.gr al
 refine ⟨aI,?_⟩
 simp only [p3,p4]
 refine oe ?_
 replace aE:=aE.gr ze9 (((ad.gr au ax).trans ac).trans al)
 refine ec 20 (eq_pk2 (by omega) aE a5) ?_
 rintro bM b0 ⟨rfl,ap⟩
 refine ⟨_,rfl,?_⟩
 replace hB:=hB.trans ap
 replace aI:=aI.gr ap
 refine ⟨aI,?_⟩
 simp only [p3,p4]
 refine zb4 ?_
 refine bj _ _ ?_
 refine wp_cond_split rfl (fun aQ=>?_) (fun aQ=>?_)
 ·have hx:=of_decide_eq_true aQ
  refine wp_seq_k (fun bO bC=>rg [0,1,2] ?_)
  replace aa:=(ad.lc (aa.gr au) ak).gr (ac.trans (al.trans ap))
  refine sw 21 vl rfl (rk 41 0 aa) ?_
  have aH:=hlf.subt (show 1≤lf.length by omega) (show lf.length≤lf.length by omega)
  refine sw 22 (subv vl 1 lf.length 4) rfl (yb4 (e:=108) hlf 1 lf.length (by omega) (by omega) _ _ _ _ rfl rfl (.inr rfl) (.inl ⟨rfl,rfl⟩) (by kernel_rfl) (by kernel_rfl)) ?_
  refine se ?_
  have aw:=aa
  replace aH:=aH.gr zc2 ((((ad.gr au ax).trans ac).trans al).trans ap)
  refine zd2 41 _ _ bl 0 (subv vl 1 lf.length 4) [subv vl 1 lf.length 4] #[vl] #[subv vl 1 lf.length 4] 41 rfl rfl rfl rfl (by obtain ⟨_,_,e,_⟩:=aH.form;rw [e];rfl) aw (by kernel_rfl) (Nat.le_of_ble_eq_true rfl) ⟨aH.one,trivial⟩ (by kernel_rfl) (fun b6 ar aa=>?_)
  replace hB:=hB.st ar aw hBl
  refine za0 (bC _ _ ?_)
  refine wp_seq_k (fun cw bq=>rg [0,1,2,3,4,5] ?_)
  replace ah:=ar.lc ((ad.lc (ah.gr au) az).gr (ac.trans (al.trans ap))) aD
  refine sw 23 (pT dk 0) rfl (rk 118 0 ah) ?_
  replace af:=ar.lc ((ad.lc (af.gr au) ay).gr (ac.trans (al.trans ap))) aC
  refine sw 24 (.agg #[.bool (b),vc,iT (co),vp]) rfl (rl 43 0 [.bool (b),vc,iT (co),vp] af) ?_
  replace aI:=ar.lc aI (Ne.symm ak)
  refine sw 25 (.agg #[aP,iT ((lf.getD 0 dLf).least),iT ((lf.getD 0 dLf).rq),aB]) rfl (rl 108 0 [aP,iT ((lf.getD 0 dLf).least),iT ((lf.getD 0 dLf).rq),aB] aI) ?_
  refine sv 26 v ?_
  refine se ?_
  replace aE:=(aE.gr ze9 ap).kts ze9 (ar.kts aw (by decide))
  replace aN:=(((((aN.gr zk7 au).kts zk7 (ad.kts aA (by decide))).gr zk7 ac).gr zk7 al).gr zk7 ap).kts zk7 (ar.kts aw (by decide))
  replace hL:=ar.lc ((ad.lc (hL.gr au) aL).gr (ac.trans (al.trans ap))) aM
  replace hds:=(((((hds.gr zb8 au).kts zb8 (ad.kts aA (by decide))).gr zb8 ac).gr zb8 al).gr zb8 ap).kts zb8 (ar.kts aw (by decide))
  replace hos:=(((((hos.gr (za1 za6 68 3) au).kts (za1 za6 68 3) (ad.kts aA (by decide))).gr (za1 za6 68 3) ac).gr (za1 za6 68 3) al).gr (za1 za6 68 3) ap).kts (za1 za6 68 3) (ar.kts aw (by decide))
  replace hrs:=(((((hrs.gr zb9 au).kts zb9 (ad.kts aA (by decide))).gr zb9 ac).gr zb9 al).gr zb9 ap).kts zb9 (ar.kts aw (by decide))
  replace hsp:=(((((hsp.gr (za1 (za1 (za7 64) 124 8) 162 1) au).kts (za1 (za1 (za7 64) 124 8) 162 1) (ad.kts aA (by decide))).gr (za1 (za1 (za7 64) 124 8) 162 1) ac).gr (za1 (za1 (za7 64) 124 8) 162 1) al).gr (za1 (za1 (za7 64) 124 8) 162 1) ap).kts (za1 (za1 (za7 64) 124 8) 162 1) (ar.kts aw (by decide))
  replace hcs:=(((((hcs.gr (za5 64) au).kts (za5 64) (ad.kts aA (by decide))).gr (za5 64) ac).gr (za5 64) al).gr (za5 64) ap).kts (za5 64) (ar.kts aw (by decide))
  replace hch:=(((((hch.gr za2 au).kts za2 (ad.kts aA (by decide))).gr za2 ac).gr za2 al).gr za2 ap).kts za2 (ar.kts aw (by decide))
  replace hl:=((hl.gr za2 al).gr za2 ap).kts za2 (ar.kts aw (by decide))
  refine ec 27 (zU4 (b:=b) (co:=co) (vc:=vc) (vp:=vp) (least:=(lf.getD 0 dLf).least) (z:=(lf.getD 0 dLf).rq) (fx:=(lf.getD 0 dLf).fx) ok hL (⟨hds,hos,hrs,hsp,hcs,hch⟩:Dsk _ D _ _ _ _ _ _) (hm.gr (hB.below _ h0 aZ)) aN.one (aN.cast list_tb.symm) aE.one bE bm hv hl) ?_
  rintro cq b3 ⟨rfl,aX⟩
  refine ⟨_,rfl,?_⟩
  replace hB:=hB.trans aX
  simp only [p3,p4]
  refine sv 7 (.bool (D.proves b co (lf.getD 0 dLf) l)) (za0 (bq _ _ ?_))
  refine wp_ret ?_
  simp only [Exit.then]
  refine bodyPost_ret (v:=(.bool (D.proves b co (lf.getD 0 dLf) l))) (za3 rfl rfl) rfl ⟨?_,hB⟩
  replace aa:=aa.gr aX
  replace aH:=(aH.kts zc2 (ar.kts aw (by decide))).gr zc2 aX
  exact (by rw [wk_hit hlen hx];exact ⟨_,rfl,aa,aH⟩)
 have hx:=of_decide_eq_false aQ
 refine wp_skip ?_
 refine br _ _ ?_
 refine wp_seq_k (fun bX bA=>wp_seq_k (fun cg bf=>rg [0,1,2,3,4,5] (sv 28 v ?_)))
 refine sw 29 (iT ((l.length:Nat):Int)) rfl (zb0 (e:=3) hl (za9 rfl) _ _ rfl rfl (by kernel_rfl)) ?_
 refine sv 30 (pT bo 0) ?_
 replace ai:=(ad.lc (ai.gr au) aK).gr (ac.trans (al.trans ap))
 refine sw 31 ds rfl (rk 22 0 ai) ?_
 refine sw 32 (iT ((D.n:Nat):Int)) rfl (zb0 (e:=71) hds (za9 rfl) _ _ rfl rfl (by kernel_rfl)) ?_
 refine sv 33 (.bool (((l.length:Nat):Int)==((D.n:Nat):Int))) (za0 (bf _ _ ?_))
 refine wp_cond_split rfl (fun aT=>?_) (fun aT=>?_)
 ·have hn:l.length=D.n:=by have:=aT;simp at this;omega
  refine wp_seq_k (fun cj bp=>rg [0] (sv 7 (.bool false) ?_))
  refine za0 (bp _ _ ?_)
  refine wp_ret ?_
  simp only [Exit.then]
  refine bodyPost_ret (v:=(.bool false)) (za3 rfl rfl) rfl ⟨?_,hB⟩
  replace aa:=(ad.lc (aa.gr au) ak).gr (ac.trans (al.trans ap))
  replace hlf:=hlf.gr zc2 ((((ad.gr au ax).trans ac).trans al).trans ap)
  exact (by rw [wk_end hlen hx hn];exact ⟨_,rfl,aa,hlf.cast list_tb⟩)
 have hn:¬ l.length=D.n:=by have:=aT;simp at this;omega
 have cb:=ok.o2 l.length (by omega)
 refine wp_skip ?_
 refine bA _ _ ?_
 refine wp_seq_k (fun bQ bt=>wp_seq_k (fun cr bH=>rg [0,1,2,3,4,5,6,7] (sv 34 (pT bo 1) ?_)))
 refine sw 35 os rfl (rk 23 1 ai) ?_
 refine sv 36 v ?_
 refine sw 37 (iT ((l.length:Nat):Int)) rfl (zb0 (e:=3) hl (za9 rfl) _ _ rfl rfl (by kernel_rfl)) ?_
 refine sw 38 (adr os (l.length*1)) rfl (zc0 (e:=72) hos za8 (by decide) l.length (by omega) _ _ _ rfl rfl rfl (by kernel_rfl) (by kernel_rfl)) ?_
 replace hos:=hos.gr (za1 za6 68 3) ((((ad.gr au ax).trans ac).trans al).trans ap)
 obtain ⟨_,_,⟨a7,rfl,a0⟩,a1⟩:=Sl.get hos (by decide) (zc3 (f:=(fun z0=>tb (fun z1=>(D.op z0 z1)) (D.ol z0))) (n:=D.n) (i:=l.length) (by omega))
 refine sw 39 a7 rfl (ze6 a7 a1 _ _ rfl rfl (by kernel_rfl)) ?_
 refine sw 40 (iT ((D.ol l.length:Nat):Int)) rfl (zb0 (e:=68) a0 (za9 rfl) _ _ rfl rfl (by kernel_rfl)) ?_
 refine sv 41 (iT 0) (za0 (bH _ _ ?_))
 refine wp_block ?_
 replace hds:=hds.gr zb8 ((((ad.gr au ax).trans ac).trans al).trans ap)
 replace hrs:=hrs.gr zb9 ((((ad.gr au ax).trans ac).trans al).trans ap)
 replace hsp:=hsp.gr (za1 (za1 (za7 64) 124 8) 162 1) ((((ad.gr au ax).trans ac).trans al).trans ap)
 replace hcs:=hcs.gr (za5 64) ((((ad.gr au ax).trans ac).trans al).trans ap)
 replace hch:=hch.gr za2 ((((ad.gr au ax).trans ac).trans al).trans ap)
 replace hl:=hl.gr za2 (al.trans ap)
 replace hlf:=hlf.gr zc2 ((((ad.gr au ax).trans ac).trans al).trans ap)
 replace hL:=(ad.lc (hL.gr au) aL).gr (ac.trans (al.trans ap))
 replace ah:=(ad.lc (ah.gr au) az).gr (ac.trans (al.trans ap))
 replace ae:=(ad.lc (ae.gr au) aJ).gr (ac.trans (al.trans ap))
 replace af:=(ad.lc (af.gr au) ay).gr (ac.trans (al.trans ap))
 replace aa:=(ad.lc (aa.gr au) ak).gr (ac.trans (al.trans ap))
 refine zb1 (a:=⟨List.toArray ?l44,[]⟩) (fun n a w'=>∃ (k:Nat) (vk:Value) (aj:Nat→Value),(D.ol l.length) - k=n∧a=⟨[v,pT bl 0,pT bd 0,pT ba 0,pT bo 0,pT bs 0,undef,aj 7,pT aW 0,aj 9,aj 10,aj 11,.bool (((lf.length:Nat):Int)==(0:Int)),aj 13,aj 14,aj 15,aj 16,aj 17,aj 18,aj 19,.bool (decide ((lf.getD 0 dLf).fx=pk l)),undef,undef,undef,undef,undef,undef,undef,aj 28,aj 29,aj 30,aj 31,aj 32,.bool (((l.length:Nat):Int)==((D.n:Nat):Int)),aj 34,aj 35,aj 36,aj 37,aj 38,aj 39,iT ((D.ol l.length:Nat):Int),iT (k:Int),aj 42,aj 43,aj 44,aj 45,aj 46,aj 47,aj 48,aj 49,aj 50,aj 51,aj 52,aj 53,aj 54,aj 55,aj 56].toArray,[]⟩∧k≤(D.ol l.length)∧(D.wfold b co g l lf k).1=true∧Sl EDm 71 4 w' ds (tb (fun z1=>(D.nom z1)) D.n)∧Sl (ERw EOp 68 3) 72 1 w' os (tb (fun z0=>tb (fun z1=>(D.op z0 z1)) (D.ol z0)) D.n)∧Sl ERq 80 8 w' rs (tb (fun z1=>(D.rq z1)) D.q)∧Sl (ERw (ERw (ESp 64) 124 8) 162 1) 161 1 w' sp (tb (fun z0=>tb (fun z1=>tb (fun z2=>(D.sp z0 z1 z2)) (D.ol z1)) D.n) D.q)∧Sl (ERat 64) 62 4 w' cs (tb (fun z1=>(D.cn z1)) D.q)∧Sl EI64 3 1 w' ch (tb (fun z1=>(D.ch z1)) D.n)∧Sl EI64 3 1 w' v (tb (fun z1=>((Ofr.at_ l z1:Nat):Int)) l.length)∧Sl ELf 108 4 w' vk (D.wfold b co g l lf k).2∧Lc w' dk #[ds,os,rs,sp,cs,ch] 158∧Lc w' bd #[pT dk 0] 118∧Lc w' bo #[ds,os,rs] 26∧Lc w' bs #[(.func (.func 57) #[] #[pT bl 0,pT bd 0,pT ba 0,pT bo 0,pT bs 0])] 132∧Lc w' ba #[.bool (b),vc,iT (co),vp] 43∧Lc w' bl #[vk] 41∧Wx B 41 bl [] w w') ((D.ol l.length) - 0) ?_ ?_
 ·exact ⟨0,vl,(fun i=>List.getD ?l44 i undef),rfl,rfl,Nat.zero_le _,rfl,hds,hos,hrs,hsp,hcs,hch,hl,hlf.cast list_tb,hL,ah,ai,ae,af,aa,hB⟩
 rintro bV bP bJ ⟨k,vk,aj,rfl,rfl,hkk,hwt,hds,hos,hrs,hsp,hcs,hch,hl,hlk_,hL,ah,ai,ae,af,aa,hB⟩ cu bv
 refine wp_seq_k (fun b1 bi=>rg [0] (sv 42 (.bool (decide ((k:Int)<((D.ol l.length:Nat):Int)))) ?_))
 refine za0 (bi _ _ ?_)
 refine wp_seq_k (fun b8 bn=>?_)
 refine wp_cond_split rfl (fun aS=>?_) (fun aS=>?_)
 ·have hlk:k<(D.ol l.length):=by have:=of_decide_eq_true aS;omega
  refine wp_skip ?_
  refine bn _ _ ?_
  refine wp_seq_k (fun bW bu=>?_)
  refine wp_block ?_
  refine wp_seq_k (fun b9 bg=>rg [0,1] (sv 43 (iT (k:Int)) ?_))
  refine sv 9 (iT (k:Int)) (za0 (bg _ _ ?_))
  refine wp_seq_k (fun bU bI=>?_)
  have aq:=Gr.drew bJ
  replace hB:=hB.trans aq
  replace ae:=ae.gr aq
  refine za4 (fun w'=>Lc w' bs #[(.func (.func 57) #[] #[pT bl 0,pT bd 0,pT ba 0,pT bo 0,pT bs 0])] 132) [(true,0),(true,1),(true,2),(true,3),(true,4),(true,5),(true,6),(true,7),(false,8),(false,9),(false,10),(true,11)] (by kernel_rfl) (by kernel_rfl) (by kernel_rfl) (by decide) (fun _ _ _ _ _ h=>h) ae ?_
  refine ow 44 (.func (.func 57) #[] #[pT bl 0,pT bd 0,pT ba 0,pT bo 0,pT bs 0]) rfl (fun w' hS=>(rk 132 0 hS)) ?_
  refine ov 45 v ?_
  refine ov 46 v ?_
  refine ow 47 (iT ((l.length:Nat):Int)) rfl (fun w' hS=>(zb0 (e:=3) hl (za9 rfl) _ _ rfl rfl (by kernel_rfl))) ?_
  refine ov 48 v ?_
  refine ow 49 (iT ((l.length:Nat):Int)) rfl (fun w' hS=>(zb0 (e:=3) hl (za9 rfl) _ _ rfl rfl (by kernel_rfl))) ?_
  refine ow 50 (capv v l.length 1) rfl (fun w' hS=>(zv2 (e:=3) hl l.length za8 _ _ _ _ rfl rfl rfl rfl (by kernel_rfl) (by kernel_rfl))) ?_
  refine ov 51 (iT (k:Int)) ?_
  refine oe ?_
  refine zc5 3 1 #[iT (k:Int)] (some 52) rfl (fun _=>by kernel_rfl) (fun bh cm aG bk bS=>?_)
  replace hL:=hL.gr aq
  replace ah:=ah.gr aq
  replace ai:=ai.gr aq
  replace af:=af.gr aq
  replace aa:=aa.gr aq
  replace hB:=hB.trans aG
  replace ae:=ae.gr aG
  refine ⟨ae,?_⟩
  simp only [zd1,p3,p4]
  refine oe ?_
  replace hl:=hl.gr za2 (aq.trans aG)
  refine zv3 za2 _ _ 40 3 (iT 0) v l.length (tb (fun z1=>((Ofr.at_ l z1:Nat):Int)) l.length) bh [iT (k:Int)] ((k:Int):Int) 1 1 (some 53) 8 rfl rfl rfl rfl hl za8 bk ⟨rfl,trivial⟩ rfl rfl (by omega) (by decide) (by kernel_rfl) (by kernel_rfl) (by decide) (fun b4 bY a6 aF=>?_)
  replace hB:=hB.trans aF
  have a3:=a6.sl.cast zH0
  replace ae:=ae.gr aF
  refine ⟨ae,?_⟩
  simp only [zd1,p3,p4]
  refine oe ?_
  replace hL:=hL.gr (aG.trans aF)
  replace ah:=ah.gr (aG.trans aF)
  replace ai:=ai.gr (aG.trans aF)
  replace af:=af.gr (aG.trans aF)
  replace aa:=aa.gr (aG.trans aF)
  replace hlk_:=hlk_.gr zc2 (aq.trans (aG.trans aF))
  replace hds:=hds.gr zb8 (aq.trans (aG.trans aF))
  replace hos:=hos.gr (za1 za6 68 3) (aq.trans (aG.trans aF))
  replace hrs:=hrs.gr zb9 (aq.trans (aG.trans aF))
  replace hsp:=hsp.gr (za1 (za1 (za7 64) 124 8) 162 1) (aq.trans (aG.trans aF))
  replace hcs:=hcs.gr (za5 64) (aq.trans (aG.trans aF))
  replace hch:=hch.gr za2 (aq.trans (aG.trans aF))
  have hrec:=ih (l++[k]) (D.wfold b co g l lf k).2 w0 _ _ _ (by rw [List.length_append,List.length_singleton];omega) (hv.snoc (by omega) hlk) hm (hB.below _ h0 aZ) aZ (Nat.le_trans hBw hB.size) hL ah ai ae af aa ⟨hds,hos,hrs,hsp,hcs,hch⟩ hlk_ a3
  rw [zS1 hwt] at hrec
  refine zh0 (some 54) rfl (by kernel_rfl) (hrec) ?_
  rintro ck b7 ⟨⟨aY,rfl,aa,aV⟩,av⟩
  refine ⟨_,rfl,?_⟩
  replace hB:=hB.trans2 av
  replace ae:=av.lc ae (by decide)
  refine ⟨ae,?_⟩
  simp only [zd1,p3,p4]
  refine ov 55 (.bool (!((D.wfold b co g l lf (k+1)).1))) ?_
  refine zb4 ?_
  refine bI _ _ ?_
  refine wp_cond_split rfl (fun aR=>?_) (fun aR=>?_)
  ·have hfl:=zU5 aR
   refine wp_seq_k (fun cl bb=>rg [0] (sv 7 (.bool false) ?_))
   refine za0 (bb _ _ ?_)
   refine wp_ret ?_
   simp only [Exit.then,Exit.inBlock]
   refine bodyPost_ret (v:=(.bool false)) (za3 rfl rfl) rfl ⟨?_,hB⟩
   exact (by rw [wk_fail hlen hx hn hlk hfl];exact ⟨_,rfl,aa,aV⟩)
  have hfl:=zU6 aR
  refine wp_skip ?_
  refine bu _ _ ?_
  refine rg [0,1] ?_
  refine sw 56 (iT ((k:Int)+1)) rfl (rwI ((k:Int)+1)) ?_
  refine sv 41 (iT ((k:Int)+1)) ?_
  refine za0 ?_
  replace hds:=hds.kts zb8 (av.kts (by decide))
  replace hos:=hos.kts (za1 za6 68 3) (av.kts (by decide))
  replace hrs:=hrs.kts zb9 (av.kts (by decide))
  replace hsp:=hsp.kts (za1 (za1 (za7 64) 124 8) 162 1) (av.kts (by decide))
  replace hcs:=hcs.kts (za5 64) (av.kts (by decide))
  replace hch:=hch.kts za2 (av.kts (by decide))
  replace hl:=(hl.gr za2 aF).kts za2 (av.kts (by decide))
  replace hL:=av.lc hL (by decide)
  replace ah:=av.lc ah (by decide)
  replace ai:=av.lc ai (by decide)
  replace af:=av.lc af (by decide)
  refine bv ((D.ol l.length) - (k+1)) ⟨List.toArray ?l67,[]⟩ _ (by omega) ?_
  exact ⟨k+1,aY,(fun i=>List.getD ?l67 i undef),rfl,rfl,(by omega),hfl,hds,hos,hrs,hsp,hcs,hch,hl,aV,hL,ah,ai,ae,af,aa,hB⟩
 have hek:(D.ol l.length)=k:=by have:=of_decide_eq_false aS;omega
 subst hek
 refine wp_exit ?_
 simp only [Exit.then,Exit.inBlock,↓reduceIte]
 refine bt _ _ ?_
 refine wp_seq_k (fun cp a8=>rg [0] (sv 7 (.bool true) ?_))
 refine za0 (a8 _ _ ?_)
 refine wp_ret ?_
 refine bodyPost_ret (v:=(.bool true)) (za3 rfl rfl) rfl ⟨?_,hB⟩
 exact (by rw [wk_done hlen hx hn hwt];exact ⟨_,rfl,aa,hlk_⟩)

theorem zI2 {D:Ofr} {b:Bool} {co:Int} {B dk bl bd ba bo bs:Nat} {ds os rs sp cs ch vc vp:Value} (ok:D.Ok) (hBl:B≤bl) (ah:vc.oneCell'=true) (ai:vp.oneCell'=true):∀ g,WOK D b co vc vp B dk bl bd ba bo bs ds os rs sp cs ch g
 | 0=>fun l _ _ _ _ _ hg hv _ _ _ _ _ _ _ _ _ _ _ _ _=>absurd hv.1 (by omega)
 | g+1=>fun _ _ _ _ _ _ hg hv hm h0 aj hBw hL ad ac af aa ae hD hp hl=>zU7 ok (zI2 ok hBl ah ai g) hBl ah ai hg hv hm h0 aj hBw hL ad ac af aa ae hD hp hl
end Go.Proofs.YtjhflekncldflaaGreatDoor
namespace Go.Proofs.YtjhflekncldflaaGreatDoor
set_option maxRecDepth 100000
set_option maxHeartbeats 4000000
open Go.RowKit

def zS2 (D:Ofr) (ds os rs:Value) (w0:World):Prop:=∀ w,Gr w0 w→Calls Tryz.prog 46 #[.agg #[ds,os,rs]] w fun e w'=>(∃ dk sp cs ch,e=.returned (.tuple #[.pointer (some ⟨dk,0,none⟩),.int .i64 0])∧Lc w' dk #[ds,os,rs,sp,cs,ch] 158∧w.heap.size≤dk∧Dsk w' D ds os rs sp cs ch)∧Gr w w'
theorem zA9 {w:World}:Sl EI64 3 1 w (sN) (tb (fun z1=>((Ofr.at_ [] z1:Nat):Int)) ([]:List Nat).length):=Sl.nil _ _ _ _ none 0
theorem sl_nil1 {w:World}:Sl EI64 3 1 w (sN) (zs6 []):=Sl.nil _ _ _ _ none 0
theorem zM1 {D:Ofr}:D.vp []:=⟨Nat.zero_le _,fun i h=>by simp at h⟩
theorem zI3 {D:Ofr} {ds os rs:Value} (ok:D.Ok) {w:World} (hm:Mx w) (ht:Tab w) (_h1ds:ds.oneCell'=true) (_h1os:os.oneCell'=true) (_h1rs:rs.oneCell'=true) (hop:zS2 D ds os rs w):
    Calls Tryz.prog 20 #[.agg #[ds,os,rs]] w fun e w'=>(∃ vc vp,e=.returned (.tuple #[.agg #[.bool D.best.ok,vc,iT D.best.co,vp],iT 0])∧Sl EI64 3 1 w' vc (zs6 D.best.ch)∧Sl ELf 108 4 w' vp (D.leaves D.best (D.n+1) []))∧Gr w w':=by
 go_enter Tryz.func20,Tryz.ntmps20
 have hB:=Gr.refl w
 refine wp_seq_k (fun bI bA=>rg [0,1,2] ?_)
 refine se ?_
 refine eb 26 #[ds,os,rs] 1 hB fun aH bV b4 ai b7 bJ hB=>?_
 simp only [p3,p4]
 refine se ?_
 refine ea 43 #[.bool false,sN,iT 0,sN] 2 hB fun b6 b8 bC ar bM bp hB=>?_
 simp only [p3,p4]
 refine sv 3 (iT 0) (za0 (bA _ _ ?_))
 refine wp_seq_k (fun b0 bq=>rg [0,1,2,3,4,5,6,7] ?_)
 replace ai:=ai.gr bC
 refine sw 10 (.agg #[ds,os,rs]) rfl (rl 26 0 [ds,os,rs] ai) ?_
 refine se ?_
 refine ec 11 (hop _ hB) ?_
 rintro bW bH ⟨⟨aG,bk,bi,bD,rfl,ax,b5,aC⟩,bg⟩
 refine ⟨_,rfl,?_⟩
 replace hB:=hB.trans bg
 have aj:=aC.ds
 have ak:=aC.os
 have ap:=aC.rs
 have al:=aC.sp
 have aq:=aC.cs
 have ah:=aC.ch
 simp only [p3,p4]
 refine sv 9 (.tuple #[pT aG 0,iT 0]) ?_
 refine sv 12 (pT aG 0) ?_
 refine sv 13 (iT 0) ?_
 refine se ?_
 refine ze1 118 (.pointer none) #[.pointer none] (some 4) rfl rfl (by kernel_rfl) rfl (fun aJ b2 av az a3=>?_)
 replace ai:=ai.gr bg
 have aQ:=ai.ne a3
 replace ar:=ar.gr bg
 have aN:=ar.ne a3
 have aY:=ax.ne a3
 have ad:=a3
 replace a3:=Nat.le_trans (Below.size hB) a3
 replace hB:=hB.trans av
 simp only [zd1,p3,p4]
 refine se ?_
 refine es 118 0 (pT aG 0) [pT aG 0] #[pT aG 0] az hB a3 ⟨rfl,trivial⟩ fun b9 aa bv az hB=>?_
 refine sv 5 (iT 0) (za0 (bq _ _ ?_))
 refine wp_seq_k (fun cg bl=>wp_seq_k (fun bZ bo=>rg [0,1] (sv 14 (iT 0) ?_)))
 refine sv 15 (.bool false) (za0 (bo _ _ ?_))
 refine wp_cond_false rfl ?_
 refine wp_skip ?_
 refine bl _ _ ?_
 refine wp_seq_k (fun bO bB=>rg [0] ?_)
 refine se ?_
 refine ea 43 #[.bool false,sN,iT 0,sN] 6 hB fun aI bT au ba bj bh hB=>?_
 replace ai:=aa.lc (ai.gr av) aQ
 replace ar:=aa.lc (ar.gr av) aN
 have ay:=ar.ne bj
 replace ax:=aa.lc (ax.gr av) aY
 simp only [p3,p4]
 refine za0 (bB _ _ ?_)
 refine wp_seq_k (fun bR bt=>rg [0] ?_)
 refine se ?_
 refine ze1 128 .nilFunc #[.nilFunc] (some 7) rfl rfl (by kernel_rfl) rfl (fun a7 cb aF a9 aT=>?_)
 replace ai:=ai.gr au
 have aW:=ai.ne aT
 replace ar:=ar.gr au
 have a0:=ar.ne aT
 replace ax:=ax.gr au
 have aR:=ax.ne aT
 replace az:=az.gr au
 have aV:=az.ne aT
 have aP:=ba.ne aT
 have aA:=aT
 replace aT:=Nat.le_trans (Below.size hB) aT
 replace hB:=hB.trans aF
 simp only [zd1,p3,p4]
 refine za0 (bt _ _ ?_)
 refine wp_seq_k (fun bL bF=>rg [0,1] (sv 18 (.func (.func 52) #[] #[pT aI 0,pT aJ 0,pT aH 0,pT a7 0]) ?_))
 refine se ?_
 refine es 128 0 (.func (.func 52) #[] #[pT aI 0,pT aJ 0,pT aH 0,pT a7 0]) [(.func (.func 52) #[] #[pT aI 0,pT aJ 0,pT aH 0,pT a7 0])] #[(.func (.func 52) #[] #[pT aI 0,pT aJ 0,pT aH 0,pT a7 0])] a9 hB aT ⟨rfl,trivial⟩ fun bN af bG a9 hB=>?_
 refine za0 (bF _ _ ?_)
 refine wp_seq_k (fun cd bE=>rg [0,1] ?_)
 refine sw 19 (.func (.func 52) #[] #[pT aI 0,pT aJ 0,pT aH 0,pT a7 0]) rfl (rk 128 0 a9) ?_
 refine se ?_
 replace ax:=af.lc (ax.gr aF) aR
 replace az:=af.lc (az.gr aF) aV
 replace ai:=af.lc (ai.gr aF) aW
 replace ba:=af.lc (ba.gr aF) aP
 replace aj:=aj.gr zb8 (af.gr (((aa.gr av ad).trans au).trans aF) (Nat.le_trans (Below.size ((aa.gr av ad).trans au)) aA))
 replace ak:=ak.gr (za1 za6 68 3) (af.gr (((aa.gr av ad).trans au).trans aF) (Nat.le_trans (Below.size ((aa.gr av ad).trans au)) aA))
 replace ap:=ap.gr zb9 (af.gr (((aa.gr av ad).trans au).trans aF) (Nat.le_trans (Below.size ((aa.gr av ad).trans au)) aA))
 replace al:=al.gr (za1 (za1 (za7 64) 124 8) 162 1) (af.gr (((aa.gr av ad).trans au).trans aF) (Nat.le_trans (Below.size ((aa.gr av ad).trans au)) aA))
 replace aq:=aq.gr (za5 64) (af.gr (((aa.gr av ad).trans au).trans aF) (Nat.le_trans (Below.size ((aa.gr av ad).trans au)) aA))
 replace ah:=ah.gr za2 (af.gr (((aa.gr av ad).trans au).trans aF) (Nat.le_trans (Below.size ((aa.gr av ad).trans au)) aA))
 refine zh0 (some 20) rfl (by kernel_rfl) (zE2 (B:=w.heap.size) ok bh (D.n+1) [] ⟨false,[],0⟩ w _ _ _ (by simp) zM1 hm hB (Nat.le_refl _) ax az ai a9 ba ⟨aj,ak,ap,al,aq,ah⟩ sl_nil1 zA9) ?_
 rintro bX b1 ⟨⟨aE,rfl,aL,aU⟩,ae⟩
 refine ⟨_,rfl,?_⟩
 replace hB:=ae.below _ hB (Nat.le_refl _)
 simp only [zd1,p3,p4]
 refine za0 (bE _ _ ?_)
 refine wp_seq_k (fun bY br=>rg [0] ?_)
 refine se ?_
 refine ze1 128 .nilFunc #[.nilFunc] (some 8) rfl rfl (by kernel_rfl) rfl (fun a6 bP aD a8 a1=>?_)
 replace ai:=ae.lc ai (by decide)
 have aZ:=ai.ne a1
 replace ar:=ae.lcn (af.lc (ar.gr aF) a0) ay
 have aX:=ar.ne a1
 replace ax:=ae.lc ax (by decide)
 have aM:=ax.ne a1
 replace az:=ae.lc az (by decide)
 have aK:=az.ne a1
 have aS:=aL.ne a1
 replace a1:=Nat.le_trans (Below.size hB) a1
 replace hB:=hB.trans aD
 simp only [zd1,p3,p4]
 refine za0 (br _ _ ?_)
 refine wp_seq_k (fun cc bm=>rg [0,1] (sv 21 (.func (.func 54) #[] #[pT aJ 0,pT aI 0,pT aH 0,pT a6 0]) ?_))
 refine se ?_
 have aw:=a8
 refine es 128 0 (.func (.func 54) #[] #[pT aJ 0,pT aI 0,pT aH 0,pT a6 0]) [(.func (.func 54) #[] #[pT aJ 0,pT aI 0,pT aH 0,pT a6 0])] #[(.func (.func 54) #[] #[pT aJ 0,pT aI 0,pT aH 0,pT a6 0])] a8 hB a1 ⟨rfl,trivial⟩ fun bQ ac bs a8 hB=>?_
 refine za0 (bm _ _ ?_)
 refine wp_seq_k (fun bK bw=>rg [0,1] ?_)
 refine sw 22 (.func (.func 54) #[] #[pT aJ 0,pT aI 0,pT aH 0,pT a6 0]) rfl (rk 128 0 a8) ?_
 refine se ?_
 replace ax:=ac.lc (ax.gr aD) aM
 replace az:=ac.lc (az.gr aD) aK
 replace ai:=ac.lc (ai.gr aD) aZ
 replace aL:=ac.lc (aL.gr aD) aS
 replace aj:=((aj.kts zb8 (ae.kts (by decide))).gr zb8 aD).kts zb8 (ac.kts aw (by decide))
 replace ak:=((ak.kts (za1 za6 68 3) (ae.kts (by decide))).gr (za1 za6 68 3) aD).kts (za1 za6 68 3) (ac.kts aw (by decide))
 replace ap:=((ap.kts zb9 (ae.kts (by decide))).gr zb9 aD).kts zb9 (ac.kts aw (by decide))
 replace al:=((al.kts (za1 (za1 (za7 64) 124 8) 162 1) (ae.kts (by decide))).gr (za1 (za1 (za7 64) 124 8) 162 1) aD).kts (za1 (za1 (za7 64) 124 8) 162 1) (ac.kts aw (by decide))
 replace aq:=((aq.kts (za5 64) (ae.kts (by decide))).gr (za5 64) aD).kts (za5 64) (ac.kts aw (by decide))
 replace ah:=((ah.kts za2 (ae.kts (by decide))).gr za2 aD).kts za2 (ac.kts aw (by decide))
 refine zh0 (some 23) rfl (by kernel_rfl) (zM0 (B:=w.heap.size) ok (fun c hc=>(best_ok D).2 c hc) bh (D.n+1) [] [] w _ _ _ (by simp) zM1 hm ht hB (Nat.le_refl _) hB.size (by have:=pm_few ok;simp;omega) ax az ai a8 aL ⟨aj,ak,ap,al,aq,ah⟩ (Ow.nil _ _ _ _ _) zA9) ?_
 rintro b3 bS ⟨⟨aB,rfl,bb,bf⟩,a2⟩
 refine ⟨_,rfl,?_⟩
 replace hB:=a2.below _ hB (Nat.le_refl _)
 have aO:=bf.sl
 simp only [zd1,p3,p4]
 refine za0 (bw _ _ ?_)
 refine wp_seq_k (fun cf bu=>rg [0,1,2] ?_)
 refine sw 24 (.agg #[.bool (D.best.ok),aE,iT (D.best.co),aB]) rfl (rl 43 0 [.bool (D.best.ok),aE,iT (D.best.co),aB] bb) ?_
 refine se ?_
 replace ar:=a2.lcn (ac.lc (ar.gr aD) aX) ay
 have a4:=ar
 refine es 43 0 (.agg #[.bool (D.best.ok),aE,iT (D.best.co),aB]) [.bool (D.best.ok),aE,iT (D.best.co),aB] #[.bool (D.best.ok),aE,iT (D.best.co),aB] ar hB bp ⟨rfl,aU.one,rfl,aO.one,trivial⟩ fun bU a5 bn ar hB=>?_
 refine sv 3 (iT 0) (za0 (bu _ _ ?_))
 refine wp_ret ?_
 refine bodyPost_ret (v:=(.tuple #[.agg #[.bool (D.best.ok),aE,iT (D.best.co),aB],iT 0])) (zb5 _ _ _ rfl rfl ar (by kernel_rfl) rfl) rfl ⟨?_,hB⟩
 replace aU:=(((aU.gr za2 aD).kts za2 (ac.kts aw (by decide))).kts za2 (a2.kts (by decide))).kts za2 (a5.kts a4 (by decide))
 replace aO:=aO.kts zc2 (a5.kts a4 (by decide))
 exact ⟨_,_,rfl,aU,aO⟩

end Go.Proofs.YtjhflekncldflaaGreatDoor
namespace Go.Proofs.YtjhflekncldflaaGreatDoor
open Go.RowKit
section
variable {D:Ofr} {b:Bool} {c:List Int} {co:Int} {pf:List Leaf}
theorem c_l (h:zs6 (ze7 c)=c):tb (fun z1=>(ca c z1)) c.length=tb (fun z1=>((Ofr.at_ (ze7 c) z1:Nat):Int)) (ze7 c).length:=by
 rw [zT5,h]
 exact list_tb
def Pass (D:Ofr) (b:Bool) (c:List Int) (co:Int):Prop:=(b=true∧D.ce c=0∧co=D.bd (ze7 c)∧(D.ff (ze7 c)).isSome=false)∨(b=false∧c=[]∧co=0)
theorem ver_ce (hb:b=true) (h:D.ce c≠0):D.ver ⟨b,c,co,pf⟩=D.ce c:=by
 unfold Ofr.ver;rw [if_pos (show b=true from hb),if_pos h]
theorem ver_17 (hb:b=true) (h:D.ce c=0) (h2:co≠D.bd (ze7 c)):D.ver ⟨b,c,co,pf⟩=17:=by
 unfold Ofr.ver;rw [if_pos (show b=true from hb),if_neg (fun e=>e h),if_pos h2]
theorem ver_35 (hb:b=true) (h:D.ce c=0) (h2:co=D.bd (ze7 c)) (h3:(fz D (ze7 c)).2≠0):D.ver ⟨b,c,co,pf⟩=35:=by
 unfold Ofr.ver;rw [if_pos (show b=true from hb),if_neg (fun e=>e h),if_neg (fun e=>e h2),if_pos (zp1.1 h3)]
theorem ver_3 (hb:b=false) (h:0<c.length∨co≠0):D.ver ⟨b,c,co,pf⟩=3:=by
 unfold Ofr.ver;rw [if_neg (show ¬ b=true by rw [hb];decide),if_pos]
 rcases h with h | h
 ·exact .inl (List.ne_nil_of_length_pos h)
 exact .inr h
theorem pass_t (hb:b=true) (h:D.ce c=0) (h2:co=D.bd (ze7 c)) (h3:(fz D (ze7 c)).2=0):Pass D b c co:=
 .inl ⟨hb,h,h2,by
  cases e:(D.ff (ze7 c)).isSome with
  | false=>rfl
  | true=>exact absurd h3 (zp1.2 e)⟩
theorem pass_f (hb:b=false) (h:¬ 0<c.length) (h2:co=0):Pass D b c co:=.inr ⟨hb,List.eq_nil_of_length_eq_zero (by omega),h2⟩
theorem zC9 (h:Pass D b c co):D.ver ⟨b,c,co,pf⟩=D.pe2 ⟨b,c,co,pf⟩:=by
 unfold Ofr.ver
 rcases h with ⟨h1,h2,h3,h4⟩ | ⟨h1,h2,h3⟩
 ·rw [if_pos (show b=true from h1),if_neg (fun e=>e h2),if_neg (fun e=>e h3),if_neg (by show ¬ (D.ff (ze7 c)).isSome=true;rw [h4];decide)]
 rw [if_neg (show ¬ b=true by rw [h1];decide),if_neg (fun e=>e.elim (fun h=>h h2) (fun h=>h h3))]
theorem yc1 (h:Pass D b c co) (h1:(D.walk b co (D.n+1) [] pf).1=false):D.ver ⟨b,c,co,pf⟩=27:=by
 rw [zC9 h];unfold Ofr.pe2
 exact if_neg fun e=>by have:=e.1;rw [show (D.walk b co (D.n+1) [] pf).1=true from this] at h1;cases h1
theorem yc2 (h:Pass D b c co) (h1:0<(D.walk b co (D.n+1) [] pf).2.length):D.ver ⟨b,c,co,pf⟩=27:=by
 rw [zC9 h];unfold Ofr.pe2
 exact if_neg fun e=>by have:=e.2;rw [show (D.walk b co (D.n+1) [] pf).2=[] from this] at h1;simp at h1
theorem ver_0 (h:Pass D b c co) (h1:(D.walk b co (D.n+1) [] pf).1=true) (h2:¬ 0<(D.walk b co (D.n+1) [] pf).2.length):D.ver ⟨b,c,co,pf⟩=0:=by
 rw [zC9 h];unfold Ofr.pe2
 exact if_pos ⟨h1,List.eq_nil_of_length_eq_zero (by show (D.walk b co (D.n+1) [] pf).2.length=0;omega)⟩
end
end Go.Proofs.YtjhflekncldflaaGreatDoor
namespace Go.Proofs.YtjhflekncldflaaGreatDoor
set_option maxRecDepth 100000
set_option maxHeartbeats 4000000
open Go.RowKit

theorem zQ2 {D:Ofr} {ds os rs:Value} (ok:D.Ok) {w:World} (hm:Mx w) (_h1ds:ds.oneCell'=true) (_h1os:os.oneCell'=true) (_h1rs:rs.oneCell'=true) (hop:zS2 D ds os rs w) {b:Bool} {c:List Int} {co:Int} {pf:List Leaf} {vc:Value} {vpa:Option Addr} {vpn vpc:Nat} (hc:Sl EI64 3 1 w vc (tb (fun z1=>(ca c z1)) c.length)) (hp:Sl ELf 108 4 w (.slice vpa vpn vpc) pf):
    Calls Tryz.prog 21 #[.agg #[ds,os,rs],.agg #[.bool (b),vc,iT (co),.slice vpa vpn vpc]] w fun e w'=>e=.returned (iT (D.ver ⟨b,c,co,pf⟩))∧Gr w w':=by
 have n2:=ok.n2
 go_enter Tryz.func21,Tryz.ntmps21
 have hB:=Gr.refl w
 refine wp_seq_k (fun dr cC=>rg [0,1,2] ?_)
 refine se ?_
 refine eb 26 #[ds,os,rs] 2 hB fun aT dD aD aE c8 cM hB=>?_
 simp only [p3,p4]
 refine se ?_
 refine eb 43 #[.bool (b),vc,iT (co),.slice vpa vpn vpc] 3 hB fun aH dN aB ar cR dC hB=>?_
 simp only [p3,p4]
 refine sv 4 (iT 0) (za0 (cC _ _ ?_))
 refine wp_seq_k (fun cZ b4=>rg [0,1,2,3,4,5,6,7] ?_)
 replace aE:=aE.gr aB
 refine sw 13 (.agg #[ds,os,rs]) rfl (rl 26 0 [ds,os,rs] aE) ?_
 refine se ?_
 refine ec 14 (hop _ hB) ?_
 rintro cV dp ⟨⟨aI,bX,bV,cE,rfl,ay,dI,aR⟩,ax⟩
 refine ⟨_,rfl,?_⟩
 replace hB:=hB.trans ax
 have ae:=aR.ds
 have af:=aR.os
 have ai:=aR.rs
 have ah:=aR.sp
 have ak:=aR.cs
 have aj:=aR.ch
 simp only [p3,p4]
 refine sv 12 (.tuple #[pT aI 0,iT 0]) ?_
 refine sv 15 (pT aI 0) ?_
 refine sv 16 (iT 0) ?_
 refine se ?_
 refine ze1 118 (.pointer none) #[.pointer none] (some 5) rfl rfl (by kernel_rfl) rfl (fun aS dH ad aC bn=>?_)
 replace aE:=aE.gr ax
 have aQ:=aE.ne bn
 replace ar:=ar.gr ax
 have aX:=ar.ne bn
 have aP:=ay.ne bn
 have ac:=bn
 replace bn:=Nat.le_trans (Below.size hB) bn
 replace hB:=hB.trans ad
 simp only [zd1,p3,p4]
 refine se ?_
 refine es 118 0 (pT aI 0) [pT aI 0] #[pT aI 0] aC hB bn ⟨rfl,trivial⟩ fun dP aa b9 aC hB=>?_
 refine sv 6 (iT 0) (za0 (b4 _ _ ?_))
 refine wp_seq_k (fun di cl=>wp_seq_k (fun dF b1=>rg [0,1] (sv 17 (iT 0) ?_)))
 refine sv 18 (.bool false) (za0 (b1 _ _ ?_))
 refine wp_cond_false rfl ?_
 refine wp_skip ?_
 refine cl _ _ ?_
 refine wp_seq_k (fun dy bQ=>wp_seq_k (fun dL cp=>rg [0,1] (sv 20 (pT aH 0) ?_)))
 replace ar:=aa.lc (ar.gr ad) aX
 refine sw 21 (.bool (b)) rfl (rk 4 0 ar) ?_
 refine za0 (cp _ _ ?_)
 refine wp_cond_split rfl (fun bo=>?_) (fun bo=>?_)
 ·have hbt:=bo
  refine wp_seq_k (fun cK cD=>wp_seq_k (fun dv cg=>rg [0,1,2,3,4] ?_))
  refine sw 22 (pT aI 0) rfl (rk 118 0 aC) ?_
  refine sv 23 (pT aH 1) ?_
  refine sw 24 vc rfl (rk 40 1 ar) ?_
  refine se ?_
  replace ay:=aa.lc (ay.gr ad) aP
  replace ae:=ae.gr zb8 (aa.gr ad ac)
  replace af:=af.gr (za1 za6 68 3) (aa.gr ad ac)
  replace ai:=ai.gr zb9 (aa.gr ad ac)
  replace ah:=ah.gr (za1 (za1 (za7 64) 124 8) 162 1) (aa.gr ad ac)
  replace ak:=ak.gr (za5 64) (aa.gr ad ac)
  replace aj:=aj.gr za2 (aa.gr ad ac)
  replace hc:=hc.gr za2 (aa.gr (((aD.trans aB).trans ax).trans ad) (Nat.le_trans (Below.size ((aD.trans aB).trans ax)) ac))
  refine ec 25 (zq0 ok ay (⟨ae,af,ai,ah,ak,aj⟩:Dsk _ D _ _ _ _ _ _) hc) ?_
  rintro dR ct ⟨rfl,aM⟩
  refine ⟨_,rfl,?_⟩
  replace hB:=hB.trans aM
  simp only [p3,p4]
  refine sv 7 (iT (D.ce c)) (za0 (cg _ _ ?_))
  refine wp_seq_k (fun dh cf=>rg [0,1] (sv 26 (iT (D.ce c)) ?_))
  refine sv 27 (.bool (D.ce c !=(0:Int))) (za0 (cf _ _ ?_))
  refine wp_cond_split rfl (fun bp=>?_) (fun bp=>?_)
  ·have hz:D.ce c≠0:=by simpa using bp
   refine wp_seq_k (fun dE b5=>rg [0,1] (sv 28 (iT (D.ce c)) ?_))
   refine sv 4 (iT (D.ce c)) (za0 (b5 _ _ ?_))
   refine wp_ret ?_
   simp only [Exit.then]
   refine bodyPost_ret (v:=(iT (D.ce c))) (za3 rfl rfl) rfl ⟨?_,hB⟩
   exact (by rw [ver_ce hbt hz])
  have hz:D.ce c=0:=by simpa using bp
  have hce:=ce_vp hz
  refine wp_skip ?_
  refine cD _ _ ?_
  refine wp_seq_k (fun c4 cB=>wp_seq_k (fun de cm=>?_))
  have aw:=Gr.drew ct
  replace hB:=hB.trans aw
  replace ar:=ar.gr (aM.trans aw)
  replace aC:=aC.gr (aM.trans aw)
  refine za4 (fun w'=>Lc w' aH #[.bool (b),vc,iT (co),.slice vpa vpn vpc] 43∧Lc w' aS #[pT aI 0] 118) [(true,0),(true,1),(true,2),(true,3),(true,4),(false,5),(true,6)] (by kernel_rfl) (by kernel_rfl) (by kernel_rfl) (by decide) (fun _ _ _ _ _ h=>h) ⟨ar,aC⟩ ?_
  refine ov 29 (pT aH 2) ?_
  refine ow 30 (iT (co)) rfl (fun w' hS=>(rk 3 2 hS.1)) ?_
  refine ow 31 (pT aI 0) rfl (fun w' hS=>(rk 118 0 hS.2)) ?_
  refine ov 32 (pT aH 1) ?_
  refine ow 33 vc rfl (fun w' hS=>(rk 40 1 hS.1)) ?_
  refine oe ?_
  replace ay:=ay.gr (aM.trans aw)
  replace ae:=ae.gr zb8 (aM.trans aw)
  replace af:=af.gr (za1 za6 68 3) (aM.trans aw)
  replace ai:=ai.gr zb9 (aM.trans aw)
  replace ah:=ah.gr (za1 (za1 (za7 64) 124 8) 162 1) (aM.trans aw)
  replace ak:=ak.gr (za5 64) (aM.trans aw)
  replace aj:=aj.gr za2 (aM.trans aw)
  replace hc:=hc.gr za2 (aM.trans aw)
  refine ec 34 (zi7 ok ay (⟨ae,af,ai,ah,ak,aj⟩:Dsk _ D _ _ _ _ _ _) hce.1 (hc.cast (c_l hce.2.1))) ?_
  rintro dz dK ⟨rfl,aL⟩
  refine ⟨_,rfl,?_⟩
  replace hB:=hB.trans aL
  replace ar:=ar.gr aL
  replace aC:=aC.gr aL
  refine ⟨⟨ar,aC⟩,?_⟩
  simp only [p3,p4]
  refine ov 35 (.bool (co !=D.bd (ze7 c))) ?_
  refine zb4 ?_
  refine cm _ _ ?_
  refine wp_cond_split rfl (fun bt=>?_) (fun bt=>?_)
  ·have bF:co≠D.bd (ze7 c):=by simpa using bt
   refine wp_seq_k (fun dt b6=>rg [0] (sv 4 (iT 17) ?_))
   refine za0 (b6 _ _ ?_)
   refine wp_ret ?_
   simp only [Exit.then]
   refine bodyPost_ret (v:=(iT 17)) (za3 rfl rfl) rfl ⟨?_,hB⟩
   exact (by rw [ver_17 hbt hz bF])
  have bF:co=D.bd (ze7 c):=by simpa using bt
  refine wp_skip ?_
  refine cB _ _ ?_
  refine wp_seq_k (fun c7 ck=>rg [0,1,2,3,4,5,6,7,8] ?_)
  refine sw 37 (pT aI 0) rfl (rk 118 0 aC) ?_
  refine sv 38 (pT aH 1) ?_
  refine sw 39 vc rfl (rk 40 1 ar) ?_
  refine se ?_
  replace ay:=ay.gr aL
  replace ae:=ae.gr zb8 aL
  replace af:=af.gr (za1 za6 68 3) aL
  replace ai:=ai.gr zb9 aL
  replace ah:=ah.gr (za1 (za1 (za7 64) 124 8) 162 1) aL
  replace ak:=ak.gr (za5 64) aL
  replace aj:=aj.gr za2 aL
  replace hc:=hc.gr za2 aL
  refine ec 40 (zp9 ok ay (⟨ae,af,ai,ah,ak,aj⟩:Dsk _ D _ _ _ _ _ _) (hm.gr hB) hce.1 (hc.cast (c_l hce.2.1))) ?_
  rintro dw cQ ⟨rfl,aq⟩
  refine ⟨_,rfl,?_⟩
  replace hB:=hB.trans aq
  simp only [p3,p4]
  refine sv 36 (.tuple #[iT ((fz D (ze7 c)).1),iT ((fz D (ze7 c)).2)]) ?_
  refine sv 41 (iT ((fz D (ze7 c)).1)) ?_
  refine sv 42 (iT ((fz D (ze7 c)).2)) ?_
  refine sv 8 (iT ((fz D (ze7 c)).1)) ?_
  refine sv 9 (iT ((fz D (ze7 c)).2)) (za0 (ck _ _ ?_))
  refine wp_seq_k (fun c9 bZ=>rg [0,1] (sv 43 (iT ((fz D (ze7 c)).2)) ?_))
  refine sv 44 (.bool ((fz D (ze7 c)).2 !=(0:Int))) (za0 (bZ _ _ ?_))
  refine wp_cond_split rfl (fun bq=>?_) (fun bq=>?_)
  ·have bO:(fz D (ze7 c)).2≠0:=by simpa using bq
   refine wp_seq_k (fun dS cd=>rg [0] (sv 4 (iT 35) ?_))
   refine za0 (cd _ _ ?_)
   refine wp_ret ?_
   simp only [Exit.then]
   refine bodyPost_ret (v:=(iT 35)) (za3 rfl rfl) rfl ⟨?_,hB⟩
   exact (by rw [ver_35 hbt hz bF bO])
  have bO:(fz D (ze7 c)).2=0:=by simpa using bq
  have hps:=pass_t (D:=D) hbt hz bF bO
  refine wp_skip ?_
  refine bQ _ _ ?_
  refine wp_seq_k (fun cJ b0=>rg [0,1,2,3] (sv 54 (pT aH 3) ?_))
  replace ar:=ar.gr aq
  refine sw 55 (.slice vpa vpn vpc) rfl (rk 41 3 ar) ?_
  refine se ?_
  refine ze1 41 (sN) #[sN] (some 10) rfl rfl (by kernel_rfl) rfl (fun bC df aF bv aV=>?_)
  replace aE:=(aa.lc (aE.gr ad) aQ).gr (aM.trans (aw.trans (aL.trans aq)))
  have a8:=aE.ne aV
  have a5:=ar.ne aV
  replace ay:=ay.gr aq
  have aZ:=ay.ne aV
  replace aC:=aC.gr aq
  have aW:=aC.ne aV
  have au:=aV
  replace aV:=Nat.le_trans (Below.size hB) aV
  replace hB:=hB.trans aF
  simp only [zd1,p3,p4]
  refine se ?_
  refine es 41 0 (.slice vpa vpn vpc) [.slice vpa vpn vpc] #[.slice vpa vpn vpc] bv hB aV ⟨rfl,trivial⟩ fun dG al cu bv hB=>?_
  refine za0 (b0 _ _ ?_)
  refine wp_seq_k (fun cY bY=>rg [0] ?_)
  refine se ?_
  refine ze1 132 .nilFunc #[.nilFunc] (some 11) rfl rfl (by kernel_rfl) rfl (fun bA dO aO bD a4=>?_)
  replace aE:=al.lc (aE.gr aF) a8
  have bb:=aE.ne a4
  replace ar:=al.lc (ar.gr aF) a5
  have bf:=ar.ne a4
  replace ay:=al.lc (ay.gr aF) aZ
  have aU:=ay.ne a4
  replace aC:=al.lc (aC.gr aF) aW
  have a1:=aC.ne a4
  have bi:=bv.ne a4
  have aJ:=a4
  replace a4:=Nat.le_trans (Below.size hB) a4
  replace hB:=hB.trans aO
  simp only [zd1,p3,p4]
  refine za0 (bY _ _ ?_)
  refine wp_seq_k (fun cO cy=>rg [0,1] (sv 56 (.func (.func 57) #[] #[pT bC 0,pT aS 0,pT aH 0,pT aT 0,pT bA 0]) ?_))
  refine se ?_
  refine es 132 0 (.func (.func 57) #[] #[pT bC 0,pT aS 0,pT aH 0,pT aT 0,pT bA 0]) [(.func (.func 57) #[] #[pT bC 0,pT aS 0,pT aH 0,pT aT 0,pT bA 0])] #[(.func (.func 57) #[] #[pT bC 0,pT aS 0,pT aH 0,pT aT 0,pT bA 0])] bD hB a4 ⟨rfl,trivial⟩ fun dB aA bW bD hB=>?_
  refine za0 (cy _ _ ?_)
  refine wp_seq_k (fun cL cF=>wp_seq_k (fun c6 bP=>rg [0,1,2,3,4,5,6,7] ?_))
  refine sw 57 (.func (.func 57) #[] #[pT bC 0,pT aS 0,pT aH 0,pT aT 0,pT bA 0]) rfl (rk 132 0 bD) ?_
  refine se ?_
  replace hc:=hc.gr za2 (aA.gr ((al.gr (aq.trans aF) (Nat.le_trans (Below.size aq) au)).trans aO) (Nat.le_trans (Below.size (al.gr (aq.trans aF) (Nat.le_trans (Below.size aq) au))) aJ))
  replace hp:=hp.gr zc2 (aA.gr ((al.gr ((((((aa.gr (((aD.trans aB).trans ax).trans ad) (Nat.le_trans (Below.size ((aD.trans aB).trans ax)) ac)).trans aM).trans aw).trans aL).trans aq).trans aF) (Nat.le_trans (Below.size (((((aa.gr (((aD.trans aB).trans ax).trans ad) (Nat.le_trans (Below.size ((aD.trans aB).trans ax)) ac)).trans aM).trans aw).trans aL).trans aq)) au)).trans aO) (Nat.le_trans (Below.size (al.gr ((((((aa.gr (((aD.trans aB).trans ax).trans ad) (Nat.le_trans (Below.size ((aD.trans aB).trans ax)) ac)).trans aM).trans aw).trans aL).trans aq).trans aF) (Nat.le_trans (Below.size (((((aa.gr (((aD.trans aB).trans ax).trans ad) (Nat.le_trans (Below.size ((aD.trans aB).trans ax)) ac)).trans aM).trans aw).trans aL).trans aq)) au))) aJ))
  replace ay:=aA.lc (ay.gr aO) aU
  replace aC:=aA.lc (aC.gr aO) a1
  replace aE:=aA.lc (aE.gr aO) bb
  replace ar:=aA.lc (ar.gr aO) bf
  replace bv:=aA.lc (bv.gr aO) bi
  replace ae:=ae.gr zb8 (aA.gr ((al.gr (aq.trans aF) (Nat.le_trans (Below.size aq) au)).trans aO) (Nat.le_trans (Below.size (al.gr (aq.trans aF) (Nat.le_trans (Below.size aq) au))) aJ))
  replace af:=af.gr (za1 za6 68 3) (aA.gr ((al.gr (aq.trans aF) (Nat.le_trans (Below.size aq) au)).trans aO) (Nat.le_trans (Below.size (al.gr (aq.trans aF) (Nat.le_trans (Below.size aq) au))) aJ))
  replace ai:=ai.gr zb9 (aA.gr ((al.gr (aq.trans aF) (Nat.le_trans (Below.size aq) au)).trans aO) (Nat.le_trans (Below.size (al.gr (aq.trans aF) (Nat.le_trans (Below.size aq) au))) aJ))
  replace ah:=ah.gr (za1 (za1 (za7 64) 124 8) 162 1) (aA.gr ((al.gr (aq.trans aF) (Nat.le_trans (Below.size aq) au)).trans aO) (Nat.le_trans (Below.size (al.gr (aq.trans aF) (Nat.le_trans (Below.size aq) au))) aJ))
  replace ak:=ak.gr (za5 64) (aA.gr ((al.gr (aq.trans aF) (Nat.le_trans (Below.size aq) au)).trans aO) (Nat.le_trans (Below.size (al.gr (aq.trans aF) (Nat.le_trans (Below.size aq) au))) aJ))
  replace aj:=aj.gr za2 (aA.gr ((al.gr (aq.trans aF) (Nat.le_trans (Below.size aq) au)).trans aO) (Nat.le_trans (Below.size (al.gr (aq.trans aF) (Nat.le_trans (Below.size aq) au))) aJ))
  refine zh0 (some 58) rfl (by kernel_rfl) (zI2 (B:=w.heap.size) ok aV hc.one hp.one (D.n+1) [] pf w _ _ _ (by simp) zM1 hm hB (Nat.le_refl _) hB.size ay aC aE bD ar bv ⟨ae,af,ai,ah,ak,aj⟩ hp zA9) ?_
  rintro cS cI ⟨⟨bK,rfl,bL,bI⟩,bH⟩
  refine ⟨_,rfl,?_⟩
  replace hB:=bH.below _ hB (Nat.le_refl _)
  simp only [zd1,p3,p4]
  refine sv 59 (.bool (!((D.walk b co (D.n+1) [] pf).1))) ?_
  rcases Bool.eq_false_or_eq_true (!((D.walk b co (D.n+1) [] pf).1)) with hb53 | hb53
  ·have bm:=zU5 hb53
   refine swk 60 (.bool true) [(4,61),(5,62),(6,63)] rfl (RunV.bool (x:=!((D.walk b co (D.n+1) [] pf).1)) (rvk (by kernel_rfl)) hb53) ?_
   refine sv 64 (.bool true) (za0 (bP _ _ ?_))
   refine wp_cond_true rfl ?_
   refine wp_seq_k (fun cW cb=>rg [0] (sv 4 (iT 27) ?_))
   refine za0 (cb _ _ ?_)
   refine wp_ret ?_
   simp only [Exit.then]
   refine bodyPost_ret (v:=(iT 27)) (za3 rfl rfl) rfl ⟨?_,hB⟩
   exact (by rw [yc1 hps bm])
  have bm:=zU6 hb53
  refine sw 60 (.bool false) rfl (RunV.bool (x:=!((D.walk b co (D.n+1) [] pf).1)) (rvk (by kernel_rfl)) hb53) ?_
  refine sw 61 bK rfl (rk 41 0 bL) ?_
  refine sw 62 (iT (((D.walk b co (D.n+1) [] pf).2).length:Int)) rfl (zz8 (e:=108) bI _ _ rfl rfl (by kernel_rfl)) ?_
  refine sv 63 (.bool (decide ((0:Int)<(((D.walk b co (D.n+1) [] pf).2).length:Int)))) ?_
  refine sv 64 (.bool (decide ((0:Int)<(((D.walk b co (D.n+1) [] pf).2).length:Int)))) (za0 (bP _ _ ?_))
  refine wp_cond_split rfl (fun bl=>?_) (fun bl=>?_)
  ·have bk:0<(D.walk b co (D.n+1) [] pf).2.length:=by have:=of_decide_eq_true bl;omega
   refine wp_seq_k (fun dx cx=>rg [0] (sv 4 (iT 27) ?_))
   refine za0 (cx _ _ ?_)
   refine wp_ret ?_
   simp only [Exit.then]
   refine bodyPost_ret (v:=(iT 27)) (za3 rfl rfl) rfl ⟨?_,hB⟩
   exact (by rw [yc2 hps bk])
  have bk:¬ 0<(D.walk b co (D.n+1) [] pf).2.length:=by have:=of_decide_eq_false bl;omega
  refine wp_skip ?_
  refine cF _ _ ?_
  refine wp_seq_k (fun c5 b3=>rg [0] (sv 4 (iT 0) ?_))
  refine za0 (b3 _ _ ?_)
  refine wp_ret ?_
  refine bodyPost_ret (v:=(iT 0)) (za3 rfl rfl) rfl ⟨?_,hB⟩
  exact (by rw [ver_0 hps bm bk])
 have hbf:=bo
 refine wp_seq_k (fun dq bR=>rg [0,1,2,3,4,5,6,7,8] (sv 45 (pT aH 1) ?_))
 refine sw 46 vc rfl (rk 40 1 ar) ?_
 refine sw 47 (iT ((c.length:Nat):Int)) rfl (zb0 (e:=3) hc (za9 rfl) _ _ rfl rfl (by kernel_rfl)) ?_
 refine sv 48 (.bool (decide ((0:Int)<((c.length:Nat):Int)))) ?_
 rcases Bool.eq_false_or_eq_true (decide ((0:Int)<((c.length:Nat):Int))) with hb59 | hb59
 ·have h3:0<c.length∨co≠0:=.inl (by have:=of_decide_eq_true hb59;omega)
  refine swk 49 (.bool true) [(5,50),(6,51),(7,52)] rfl (RunV.bool (x:=decide ((0:Int)<((c.length:Nat):Int))) (rvk (by kernel_rfl)) hb59) ?_
  refine sv 53 (.bool true) (za0 (bR _ _ ?_))
  refine wp_cond_true rfl ?_
  refine wp_seq_k (fun dj cq=>rg [0] (sv 4 (iT 3) ?_))
  refine za0 (cq _ _ ?_)
  refine wp_ret ?_
  simp only [Exit.then]
  refine bodyPost_ret (v:=(iT 3)) (za3 rfl rfl) rfl ⟨?_,hB⟩
  exact (by rw [ver_3 hbf h3])
 have bT:¬ 0<c.length:=by have:=of_decide_eq_false hb59;omega
 refine sw 49 (.bool false) rfl (RunV.bool (x:=decide ((0:Int)<((c.length:Nat):Int))) (rvk (by kernel_rfl)) hb59) ?_
 refine sv 50 (pT aH 2) ?_
 refine sw 51 (iT (co)) rfl (rk 3 2 ar) ?_
 refine sv 52 (.bool (co !=(0:Int))) ?_
 refine sv 53 (.bool (co !=(0:Int))) (za0 (bR _ _ ?_))
 refine wp_cond_split rfl (fun bs=>?_) (fun bs=>?_)
 ·have h3:0<c.length∨co≠0:=.inr (by simpa using bs)
  refine wp_seq_k (fun cN b7=>rg [0] (sv 4 (iT 3) ?_))
  refine za0 (b7 _ _ ?_)
  refine wp_ret ?_
  simp only [Exit.then]
  refine bodyPost_ret (v:=(iT 3)) (za3 rfl rfl) rfl ⟨?_,hB⟩
  exact (by rw [ver_3 hbf h3])
 have cG:co=0:=by simpa using bs
 have hps:=pass_f (D:=D) hbf bT cG
 refine wp_skip ?_
 refine bQ _ _ ?_
 refine wp_seq_k (fun cH cr=>rg [0,1,2,3] (sv 54 (pT aH 3) ?_))
 refine sw 55 (.slice vpa vpn vpc) rfl (rk 41 3 ar) ?_
 refine se ?_
 refine ze1 41 (sN) #[sN] (some 10) rfl rfl (by kernel_rfl) rfl (fun bB cU aG bu bh=>?_)
 replace aE:=aa.lc (aE.gr ad) aQ
 have a6:=aE.ne bh
 have a2:=ar.ne bh
 replace ay:=aa.lc (ay.gr ad) aP
 have a3:=ay.ne bh
 have bj:=aC.ne bh
 have av:=bh
 replace bh:=Nat.le_trans (Below.size hB) bh
 replace hB:=hB.trans aG
 simp only [zd1,p3,p4]
 refine se ?_
 refine es 41 0 (.slice vpa vpn vpc) [.slice vpa vpn vpc] #[.slice vpa vpn vpc] bu hB bh ⟨rfl,trivial⟩ fun cX ap cA bu hB=>?_
 refine za0 (cr _ _ ?_)
 refine wp_seq_k (fun da cj=>rg [0] ?_)
 refine se ?_
 refine ze1 132 .nilFunc #[.nilFunc] (some 11) rfl rfl (by kernel_rfl) rfl (fun bw cP aN bE bg=>?_)
 replace aE:=ap.lc (aE.gr aG) a6
 have a0:=aE.ne bg
 replace ar:=ap.lc (ar.gr aG) a2
 have a7:=ar.ne bg
 replace ay:=ap.lc (ay.gr aG) a3
 have ba:=ay.ne bg
 replace aC:=ap.lc (aC.gr aG) bj
 have aY:=aC.ne bg
 have a9:=bu.ne bg
 have aK:=bg
 replace bg:=Nat.le_trans (Below.size hB) bg
 replace hB:=hB.trans aN
 simp only [zd1,p3,p4]
 refine za0 (cj _ _ ?_)
 refine wp_seq_k (fun dd bU=>rg [0,1] (sv 56 (.func (.func 57) #[] #[pT bB 0,pT aS 0,pT aH 0,pT aT 0,pT bw 0]) ?_))
 refine se ?_
 refine es 132 0 (.func (.func 57) #[] #[pT bB 0,pT aS 0,pT aH 0,pT aT 0,pT bw 0]) [(.func (.func 57) #[] #[pT bB 0,pT aS 0,pT aH 0,pT aT 0,pT bw 0])] #[(.func (.func 57) #[] #[pT bB 0,pT aS 0,pT aH 0,pT aT 0,pT bw 0])] bE hB bg ⟨rfl,trivial⟩ fun dM az cz bE hB=>?_
 refine za0 (bU _ _ ?_)
 refine wp_seq_k (fun dc cw=>wp_seq_k (fun dk bS=>rg [0,1,2,3,4,5,6,7] ?_))
 refine sw 57 (.func (.func 57) #[] #[pT bB 0,pT aS 0,pT aH 0,pT aT 0,pT bw 0]) rfl (rk 132 0 bE) ?_
 refine se ?_
 replace hc:=hc.gr za2 (az.gr ((ap.gr ((aa.gr (((aD.trans aB).trans ax).trans ad) (Nat.le_trans (Below.size ((aD.trans aB).trans ax)) ac)).trans aG) (Nat.le_trans (Below.size (aa.gr (((aD.trans aB).trans ax).trans ad) (Nat.le_trans (Below.size ((aD.trans aB).trans ax)) ac))) av)).trans aN) (Nat.le_trans (Below.size (ap.gr ((aa.gr (((aD.trans aB).trans ax).trans ad) (Nat.le_trans (Below.size ((aD.trans aB).trans ax)) ac)).trans aG) (Nat.le_trans (Below.size (aa.gr (((aD.trans aB).trans ax).trans ad) (Nat.le_trans (Below.size ((aD.trans aB).trans ax)) ac))) av))) aK))
 replace hp:=hp.gr zc2 (az.gr ((ap.gr ((aa.gr (((aD.trans aB).trans ax).trans ad) (Nat.le_trans (Below.size ((aD.trans aB).trans ax)) ac)).trans aG) (Nat.le_trans (Below.size (aa.gr (((aD.trans aB).trans ax).trans ad) (Nat.le_trans (Below.size ((aD.trans aB).trans ax)) ac))) av)).trans aN) (Nat.le_trans (Below.size (ap.gr ((aa.gr (((aD.trans aB).trans ax).trans ad) (Nat.le_trans (Below.size ((aD.trans aB).trans ax)) ac)).trans aG) (Nat.le_trans (Below.size (aa.gr (((aD.trans aB).trans ax).trans ad) (Nat.le_trans (Below.size ((aD.trans aB).trans ax)) ac))) av))) aK))
 replace ay:=az.lc (ay.gr aN) ba
 replace aC:=az.lc (aC.gr aN) aY
 replace aE:=az.lc (aE.gr aN) a0
 replace ar:=az.lc (ar.gr aN) a7
 replace bu:=az.lc (bu.gr aN) a9
 replace ae:=ae.gr zb8 (az.gr ((ap.gr ((aa.gr ad ac).trans aG) (Nat.le_trans (Below.size (aa.gr ad ac)) av)).trans aN) (Nat.le_trans (Below.size (ap.gr ((aa.gr ad ac).trans aG) (Nat.le_trans (Below.size (aa.gr ad ac)) av))) aK))
 replace af:=af.gr (za1 za6 68 3) (az.gr ((ap.gr ((aa.gr ad ac).trans aG) (Nat.le_trans (Below.size (aa.gr ad ac)) av)).trans aN) (Nat.le_trans (Below.size (ap.gr ((aa.gr ad ac).trans aG) (Nat.le_trans (Below.size (aa.gr ad ac)) av))) aK))
 replace ai:=ai.gr zb9 (az.gr ((ap.gr ((aa.gr ad ac).trans aG) (Nat.le_trans (Below.size (aa.gr ad ac)) av)).trans aN) (Nat.le_trans (Below.size (ap.gr ((aa.gr ad ac).trans aG) (Nat.le_trans (Below.size (aa.gr ad ac)) av))) aK))
 replace ah:=ah.gr (za1 (za1 (za7 64) 124 8) 162 1) (az.gr ((ap.gr ((aa.gr ad ac).trans aG) (Nat.le_trans (Below.size (aa.gr ad ac)) av)).trans aN) (Nat.le_trans (Below.size (ap.gr ((aa.gr ad ac).trans aG) (Nat.le_trans (Below.size (aa.gr ad ac)) av))) aK))
 replace ak:=ak.gr (za5 64) (az.gr ((ap.gr ((aa.gr ad ac).trans aG) (Nat.le_trans (Below.size (aa.gr ad ac)) av)).trans aN) (Nat.le_trans (Below.size (ap.gr ((aa.gr ad ac).trans aG) (Nat.le_trans (Below.size (aa.gr ad ac)) av))) aK))
 replace aj:=aj.gr za2 (az.gr ((ap.gr ((aa.gr ad ac).trans aG) (Nat.le_trans (Below.size (aa.gr ad ac)) av)).trans aN) (Nat.le_trans (Below.size (ap.gr ((aa.gr ad ac).trans aG) (Nat.le_trans (Below.size (aa.gr ad ac)) av))) aK))
 refine zh0 (some 58) rfl (by kernel_rfl) (zI2 (B:=w.heap.size) ok bh hc.one hp.one (D.n+1) [] pf w _ _ _ (by simp) zM1 hm hB (Nat.le_refl _) hB.size ay aC aE bE ar bu ⟨ae,af,ai,ah,ak,aj⟩ hp zA9) ?_
 rintro dA dQ ⟨⟨bM,rfl,bG,bJ⟩,bN⟩
 refine ⟨_,rfl,?_⟩
 replace hB:=bN.below _ hB (Nat.le_refl _)
 simp only [zd1,p3,p4]
 refine sv 59 (.bool (!((D.walk b co (D.n+1) [] pf).1))) ?_
 rcases Bool.eq_false_or_eq_true (!((D.walk b co (D.n+1) [] pf).1)) with hb73 | hb73
 ·have bm:=zU5 hb73
  refine swk 60 (.bool true) [(4,61),(5,62),(6,63)] rfl (RunV.bool (x:=!((D.walk b co (D.n+1) [] pf).1)) (rvk (by kernel_rfl)) hb73) ?_
  refine sv 64 (.bool true) (za0 (bS _ _ ?_))
  refine wp_cond_true rfl ?_
  refine wp_seq_k (fun dJ b2=>rg [0] (sv 4 (iT 27) ?_))
  refine za0 (b2 _ _ ?_)
  refine wp_ret ?_
  simp only [Exit.then]
  refine bodyPost_ret (v:=(iT 27)) (za3 rfl rfl) rfl ⟨?_,hB⟩
  exact (by rw [yc1 hps bm])
 have bm:=zU6 hb73
 refine sw 60 (.bool false) rfl (RunV.bool (x:=!((D.walk b co (D.n+1) [] pf).1)) (rvk (by kernel_rfl)) hb73) ?_
 refine sw 61 bM rfl (rk 41 0 bG) ?_
 refine sw 62 (iT (((D.walk b co (D.n+1) [] pf).2).length:Int)) rfl (zz8 (e:=108) bJ _ _ rfl rfl (by kernel_rfl)) ?_
 refine sv 63 (.bool (decide ((0:Int)<(((D.walk b co (D.n+1) [] pf).2).length:Int)))) ?_
 refine sv 64 (.bool (decide ((0:Int)<(((D.walk b co (D.n+1) [] pf).2).length:Int)))) (za0 (bS _ _ ?_))
 refine wp_cond_split rfl (fun br=>?_) (fun br=>?_)
 ·have bk:0<(D.walk b co (D.n+1) [] pf).2.length:=by have:=of_decide_eq_true br;omega
  refine wp_seq_k (fun cT cc=>rg [0] (sv 4 (iT 27) ?_))
  refine za0 (cc _ _ ?_)
  refine wp_ret ?_
  simp only [Exit.then]
  refine bodyPost_ret (v:=(iT 27)) (za3 rfl rfl) rfl ⟨?_,hB⟩
  exact (by rw [yc2 hps bk])
 have bk:¬ 0<(D.walk b co (D.n+1) [] pf).2.length:=by have:=of_decide_eq_false br;omega
 refine wp_skip ?_
 refine cw _ _ ?_
 refine wp_seq_k (fun db b8=>rg [0] (sv 4 (iT 0) ?_))
 refine za0 (b8 _ _ ?_)
 refine wp_ret ?_
 refine bodyPost_ret (v:=(iT 0)) (za3 rfl rfl) rfl ⟨?_,hB⟩
 exact (by rw [ver_0 hps bm bk])

theorem zU8 {D:Ofr} {ds os rs:Value} (ok:D.Ok) {w:World} (hm:Mx w) (ad:ds.oneCell'=true) (aa:os.oneCell'=true) (ac:rs.oneCell'=true) (hop:zS2 D ds os rs w) {b:Bool} {c:List Int} {co:Int} {pf:List Leaf} {vc vp:Value} (hc:Sl EI64 3 1 w vc c) (hp:Sl ELf 108 4 w vp pf):
  Calls Tryz.prog 21 #[.agg #[ds,os,rs],.agg #[.bool b,vc,iT co,vp]] w fun e w'=>e=.returned (iT (D.ver ⟨b,c,co,pf⟩))∧Gr w w':=by
 obtain ⟨vpa,vpn,vpc,rfl⟩:=hp.forms
 exact zQ2 ok hm ad aa ac hop (hc.cast (list_tb (d:=0)).symm) hp
end Go.Proofs.YtjhflekncldflaaGreatDoor
namespace Go.Proofs.YtjhflekncldflaaGreatDoor
set_option maxRecDepth 100000
set_option maxHeartbeats 4000000
open Go.RowKit

theorem zM2 {P:Program} {w:World} {fn:Func} {tmps:Array Value} {t u p q:Tmp} {v x y z:Value} (h:fn.results=#[.tmp t,.tmp u,.tmp p,.tmp q]) (hv:tmps.getD t undef=v) (hx:tmps.getD u undef=x) (hy:tmps.getD p undef=y) (hz:tmps.getD q undef=z):(results fn tmps).run P w=.ok (.tuple #[v,x,y,z]) w:=by
 subst hv hx hy hz;simp [results,h]
theorem al_bound {D:Ofr} {ds os rs:Value} (ok:D.Ok) {w:World} (_hm:Mx w) (_h1ds:ds.oneCell'=true) (_h1os:os.oneCell'=true) (_h1rs:rs.oneCell'=true) (hop:zS2 D ds os rs w) {TT:Nat} {c:List Int} {vc:Value} (hc:Sl EI64 TT 1 w vc (tb (fun z1=>(ca c z1)) c.length)):
    Calls Tryz.prog 18 #[.agg #[ds,os,rs],vc] w fun e w'=>e=.returned (if D.pe c=0 then .tuple #[iT (D.bd (ze7 c)),iT 0] else .tuple #[iT 0,iT (D.pe c)])∧Gr w w':=by
 have n2:=ok.n2
 go_enter Tryz.func18,Tryz.ntmps18
 have hB:=Gr.refl w
 refine wp_seq_k (fun aT ar=>rg [0,1,2] ?_)
 refine se ?_
 refine eb 26 #[ds,os,rs] 2 hB fun aS aW aU au aJ aX hB=>?_
 simp only [p3,p4]
 refine sv 4 (iT 0) ?_
 refine sv 5 (iT 0) (za0 (ar _ _ ?_))
 refine wp_seq_k (fun aM av=>rg [0,1,2,3,4,5,6] ?_)
 refine sw 9 (.agg #[ds,os,rs]) rfl (rl 26 0 [ds,os,rs] au) ?_
 refine se ?_
 refine ec 10 (hop _ hB) ?_
 rintro aY aZ ⟨⟨aj,ax,aB,az,rfl,ap,aG,ai⟩,ay⟩
 refine ⟨_,rfl,?_⟩
 replace hB:=hB.trans ay
 have ah:=ai.ds
 have ae:=ai.os
 have af:=ai.rs
 have aa:=ai.sp
 have ad:=ai.cs
 have ac:=ai.ch
 simp only [p3,p4]
 refine sv 8 (.tuple #[pT aj 0,iT 0]) ?_
 refine sv 11 (pT aj 0) ?_
 refine sv 12 (iT 0) ?_
 refine sv 6 (pT aj 0) ?_
 refine sv 7 (iT 0) (za0 (av _ _ ?_))
 refine wp_seq_k (fun aQ aw=>wp_seq_k (fun aK aC=>rg [0,1] (sv 13 (iT 0) ?_)))
 refine sv 14 (.bool true) (za0 (aC _ _ ?_))
 refine wp_cond_true rfl ?_
 refine rg [0,1,2,3] (sv 15 (pT aj 0) ?_)
 refine sv 16 vc ?_
 refine se ?_
 refine ec 17 (zv9 ok ap (⟨ah,ae,af,aa,ad,ac⟩:Dsk _ D _ _ _ _ _ _) (hc.gr za2 hB)) ?_
 rintro aL aN ⟨rfl,ak⟩
 refine ⟨_,rfl,?_⟩
 replace hB:=hB.trans ak
 simp only [p3,p4]
 refine sv 7 (iT (D.pe c)) (za0 (aw _ _ ?_))
 refine wp_seq_k (fun aR aD=>wp_seq_k (fun aI aA=>rg [0,1] (sv 18 (iT (D.pe c)) ?_)))
 refine sv 19 (.bool (D.pe c !=(0:Int))) (za0 (aA _ _ ?_))
 refine wp_cond_split rfl (fun al=>?_) (fun al=>?_)
 ·have hz:D.pe c≠0:=by simpa using al
  refine wp_seq_k (fun aH aE=>rg [0,1,2] (sv 20 (iT (D.pe c)) ?_))
  refine sv 4 (iT 0) ?_
  refine sv 5 (iT (D.pe c)) (za0 (aE _ _ ?_))
  refine wp_ret ?_
  simp only [Exit.then]
  refine bodyPost_ret (v:=(.tuple #[iT 0,iT (D.pe c)])) (zg5 rfl rfl rfl) rfl ⟨?_,hB⟩
  exact (by rw [if_neg hz])
 have hz:D.pe c=0:=by simpa using al
 have hce:=(⟨(zR8 hz).1,(zR8 hz).2,trivial⟩:_∧_∧True)
 refine wp_skip ?_
 refine aD _ _ ?_
 refine wp_seq_k (fun aP aq=>rg [0,1,2,3,4] (sv 21 (pT aj 0) ?_))
 refine sv 22 vc ?_
 refine se ?_
 replace ap:=ap.gr ak
 replace ah:=ah.gr zb8 ak
 replace ae:=ae.gr (za1 za6 68 3) ak
 replace af:=af.gr zb9 ak
 replace aa:=aa.gr (za1 (za1 (za7 64) 124 8) 162 1) ak
 replace ad:=ad.gr (za5 64) ak
 replace ac:=ac.gr za2 ak
 refine ec 23 (zi7 ok ap (⟨ah,ae,af,aa,ad,ac⟩:Dsk _ D _ _ _ _ _ _) hce.1 ((hc.gr za2 hB).cast (c_l hce.2.1))) ?_
 rintro aV aO ⟨rfl,aF⟩
 refine ⟨_,rfl,?_⟩
 replace hB:=hB.trans aF
 simp only [p3,p4]
 refine sv 4 (iT (D.bd (ze7 c))) ?_
 refine sv 5 (iT 0) (za0 (aq _ _ ?_))
 refine wp_ret ?_
 refine bodyPost_ret (v:=(.tuple #[iT (D.bd (ze7 c)),iT 0])) (zg5 rfl rfl rfl) rfl ⟨?_,hB⟩
 exact (by rw [if_pos hz])

theorem al_fails {D:Ofr} {ds os rs:Value} (ok:D.Ok) {w:World} (hm:Mx w) (_h1ds:ds.oneCell'=true) (_h1os:os.oneCell'=true) (_h1rs:rs.oneCell'=true) (hop:zS2 D ds os rs w) {TT:Nat} {c:List Int} {vc:Value} (hc:Sl EI64 TT 1 w vc (tb (fun z1=>(ca c z1)) c.length)):
    Calls Tryz.prog 19 #[.agg #[ds,os,rs],vc] w fun e w'=>e=.returned (if D.pe c=0 then .tuple #[iT (if 0>(fz D (ze7 c)).1 then 0 else (fz D (ze7 c)).1),iT (fz D (ze7 c)).2,.bool ((fz D (ze7 c)).2 !=(0:Int)),iT 0] else .tuple #[iT 0,iT 0,.bool false,iT (D.pe c)])∧Gr w w':=by
 have n2:=ok.n2
 go_enter Tryz.func19,Tryz.ntmps19
 have hB:=Gr.refl w
 refine wp_seq_k (fun aU ar=>rg [0,1,2,3,4] ?_)
 refine se ?_
 refine eb 26 #[ds,os,rs] 2 hB fun aT aX aV au aJ aY hB=>?_
 simp only [p3,p4]
 refine sv 4 (iT 0) ?_
 refine sv 5 (iT 0) ?_
 refine sv 6 (.bool false) ?_
 refine sv 7 (iT 0) (za0 (ar _ _ ?_))
 refine wp_seq_k (fun aN av=>rg [0,1,2,3,4,5,6] ?_)
 refine sw 11 (.agg #[ds,os,rs]) rfl (rl 26 0 [ds,os,rs] au) ?_
 refine se ?_
 refine ec 12 (hop _ hB) ?_
 rintro aZ a0 ⟨⟨aj,ax,aB,az,rfl,ap,aH,ai⟩,ay⟩
 refine ⟨_,rfl,?_⟩
 replace hB:=hB.trans ay
 have ah:=ai.ds
 have ae:=ai.os
 have af:=ai.rs
 have aa:=ai.sp
 have ad:=ai.cs
 have ac:=ai.ch
 simp only [p3,p4]
 refine sv 10 (.tuple #[pT aj 0,iT 0]) ?_
 refine sv 13 (pT aj 0) ?_
 refine sv 14 (iT 0) ?_
 refine sv 8 (pT aj 0) ?_
 refine sv 7 (iT 0) (za0 (av _ _ ?_))
 refine wp_seq_k (fun aR aw=>wp_seq_k (fun aK aC=>rg [0,1] (sv 15 (iT 0) ?_)))
 refine sv 16 (.bool true) (za0 (aC _ _ ?_))
 refine wp_cond_true rfl ?_
 refine rg [0,1,2,3] (sv 17 (pT aj 0) ?_)
 refine sv 18 vc ?_
 refine se ?_
 refine ec 19 (zv9 ok ap (⟨ah,ae,af,aa,ad,ac⟩:Dsk _ D _ _ _ _ _ _) (hc.gr za2 hB)) ?_
 rintro aL aO ⟨rfl,ak⟩
 refine ⟨_,rfl,?_⟩
 replace hB:=hB.trans ak
 simp only [p3,p4]
 refine sv 7 (iT (D.pe c)) (za0 (aw _ _ ?_))
 refine wp_seq_k (fun aS aD=>wp_seq_k (fun aI aA=>rg [0,1] (sv 20 (iT (D.pe c)) ?_)))
 refine sv 21 (.bool (D.pe c !=(0:Int))) (za0 (aA _ _ ?_))
 refine wp_cond_split rfl (fun al=>?_) (fun al=>?_)
 ·have hz:D.pe c≠0:=by simpa using al
  refine wp_seq_k (fun aM aF=>rg [0,1,2,3,4] (sv 22 (iT (D.pe c)) ?_))
  refine sv 4 (iT 0) ?_
  refine sv 5 (iT 0) ?_
  refine sv 6 (.bool false) ?_
  refine sv 7 (iT (D.pe c)) (za0 (aF _ _ ?_))
  refine wp_ret ?_
  simp only [Exit.then]
  refine bodyPost_ret (v:=(.tuple #[iT 0,iT 0,.bool false,iT (D.pe c)])) (zM2 rfl rfl rfl rfl rfl) rfl ⟨?_,hB⟩
  exact (by rw [if_neg hz])
 have hz:D.pe c=0:=by simpa using al
 have hce:=(⟨(zR8 hz).1,(zR8 hz).2,trivial⟩:_∧_∧True)
 refine wp_skip ?_
 refine aD _ _ ?_
 refine wp_seq_k (fun aQ aq=>rg [0,1,2,3,4,5,6,7] (sv 24 (pT aj 0) ?_))
 refine sv 25 vc ?_
 refine se ?_
 replace ap:=ap.gr ak
 replace ah:=ah.gr zb8 ak
 replace ae:=ae.gr (za1 za6 68 3) ak
 replace af:=af.gr zb9 ak
 replace aa:=aa.gr (za1 (za1 (za7 64) 124 8) 162 1) ak
 replace ad:=ad.gr (za5 64) ak
 replace ac:=ac.gr za2 ak
 refine ec 26 (zp9 ok ap (⟨ah,ae,af,aa,ad,ac⟩:Dsk _ D _ _ _ _ _ _) (hm.gr hB) hce.1 ((hc.gr za2 hB).cast (c_l hce.2.1))) ?_
 rintro aW aP ⟨rfl,aG⟩
 refine ⟨_,rfl,?_⟩
 replace hB:=hB.trans aG
 simp only [p3,p4]
 refine sv 23 (.tuple #[iT ((fz D (ze7 c)).1),iT ((fz D (ze7 c)).2)]) ?_
 refine sv 27 (iT ((fz D (ze7 c)).1)) ?_
 refine sv 28 (iT ((fz D (ze7 c)).2)) ?_
 refine sv 9 (iT ((fz D (ze7 c)).1)) ?_
 refine sv 5 (iT ((fz D (ze7 c)).2)) (za0 (aq _ _ ?_))
 refine wp_seq_k (fun a1 aE=>rg [0,1,2,3,4,5,6,7,8] (sv 29 (iT ((fz D (ze7 c)).1)) ?_))
 refine sv 30 (iT (if 0>(fz D (ze7 c)).1 then 0 else (fz D (ze7 c)).1)) ?_
 refine sv 31 (iT ((fz D (ze7 c)).2)) ?_
 refine sv 32 (iT ((fz D (ze7 c)).2)) ?_
 refine sv 33 (.bool ((fz D (ze7 c)).2 !=(0:Int))) ?_
 refine sv 4 (iT (if 0>(fz D (ze7 c)).1 then 0 else (fz D (ze7 c)).1)) ?_
 refine sv 5 (iT ((fz D (ze7 c)).2)) ?_
 refine sv 6 (.bool ((fz D (ze7 c)).2 !=(0:Int))) ?_
 refine sv 7 (iT 0) (za0 (aE _ _ ?_))
 refine wp_ret ?_
 refine bodyPost_ret (v:=(.tuple #[iT (if 0>(fz D (ze7 c)).1 then 0 else (fz D (ze7 c)).1),iT ((fz D (ze7 c)).2),.bool ((fz D (ze7 c)).2 !=(0:Int)),iT 0])) (zM2 rfl rfl rfl rfl rfl) rfl ⟨?_,hB⟩
 exact (by rw [if_pos hz])

theorem zI4 {D:Ofr} {ds os rs:Value} (ok:D.Ok) {w:World} (_hm:Mx w) (_h1ds:ds.oneCell'=true) (_h1os:os.oneCell'=true) (_h1rs:rs.oneCell'=true) (hop:zS2 D ds os rs w) (ht:Tab w) {r:Nat} (hr:r<D.q) {TT:Nat} {c:List Int} {vc:Value} (hc:Sl EI64 TT 1 w vc (tb (fun z1=>(ca c z1)) c.length)) (hz:D.ce c=0):
    Calls Tryz.prog 16 #[.agg #[ds,os,rs],vc,iT (r:Int)] w fun e w'=>e=.returned (.tuple #[sV (zd4 (D.wl (ze7 c) r)),sV (zd4 (D.wu (ze7 c) r)),iT 0])∧Gr w w':=by
 have n2:=ok.n2
 have hce:=ce_vp hz
 go_enter Tryz.func16,Tryz.ntmps16
 have hB:=Gr.refl w
 refine wp_seq_k (fun bf a4=>rg [0,1,2,3] ?_)
 refine se ?_
 refine eb 26 #[ds,os,rs] 3 hB fun aX bo bu aE bw bh hB=>?_
 simp only [p3,p4]
 refine sv 6 (sV []) ?_
 refine sv 7 (sV []) ?_
 refine sv 8 (iT 0) (za0 (a4 _ _ ?_))
 refine wp_seq_k (fun bb aZ=>rg [0,1,2,3,4,5,6] ?_)
 refine sw 12 (.agg #[ds,os,rs]) rfl (rl 26 0 [ds,os,rs] aE) ?_
 refine se ?_
 refine ec 13 (hop _ hB) ?_
 rintro bq bv ⟨⟨az,aQ,a2,a1,rfl,aD,bk,ax⟩,aN⟩
 refine ⟨_,rfl,?_⟩
 replace hB:=hB.trans aN
 have ar:=ax.ds
 have aw:=ax.os
 have al:=ax.rs
 have aq:=ax.sp
 have av:=ax.cs
 have au:=ax.ch
 simp only [p3,p4]
 refine sv 11 (.tuple #[pT az 0,iT 0]) ?_
 refine sv 14 (pT az 0) ?_
 refine sv 15 (iT 0) ?_
 refine sv 9 (pT az 0) ?_
 refine sv 8 (iT 0) (za0 (aZ _ _ ?_))
 refine wp_seq_k (fun bm a0=>wp_seq_k (fun a9 aY=>rg [0,1] (sv 16 (iT 0) ?_)))
 refine sv 17 (.bool true) (za0 (aY _ _ ?_))
 refine wp_cond_true rfl ?_
 refine rg [0,1,2,3] (sv 18 (pT az 0) ?_)
 refine sv 19 vc ?_
 refine se ?_
 refine ec 20 (zq0 ok aD (⟨ar,aw,al,aq,av,au⟩:Dsk _ D _ _ _ _ _ _) (hc.gr za2 hB)) ?_
 rintro ba bA ⟨rfl,aB⟩
 refine ⟨_,rfl,?_⟩
 replace hB:=hB.trans aB
 simp only [p3,p4]
 refine sv 8 (iT (D.ce c)) (za0 (a0 _ _ ?_))
 refine wp_seq_k (fun bE aR=>wp_seq_k (fun bs aV=>rg [0,1,2,3,4,5,6,7,8,9,10,11,12] (sv 21 (iT (D.ce c)) ?_)))
 have aM:(D.ce c==(0:Int))=true:=(by simp;omega)
 refine sw 22 (.bool true) rfl (RunV.bool (x:=(D.ce c==(0:Int))) (rvk (by kernel_rfl)) aM) ?_
 refine sv 23 (.bool true) ?_
 refine sv 24 (iT (r:Int)) ?_
 have aH:(decide ((r:Int)<(0:Int)))=false:=(by simp only [decide_eq_false_iff_not];omega)
 refine sw 25 (.bool false) rfl (RunV.bool (x:=decide ((r:Int)<(0:Int))) (rvk (by kernel_rfl)) aH) ?_
 refine sv 26 (.bool false) ?_
 refine sv 27 (iT (r:Int)) ?_
 refine sv 28 (pT aX 2) ?_
 replace aE:=aE.gr (aN.trans aB)
 refine sw 29 rs rfl (rk 24 2 aE) ?_
 refine sw 30 (iT ((D.q:Nat):Int)) rfl (zb0 (e:=80) al (za9 rfl) _ _ rfl rfl (by kernel_rfl)) ?_
 have aL:(decide (((D.q:Nat):Int)≤(r:Int)))=false:=(by simp only [decide_eq_false_iff_not];omega)
 refine sw 31 (.bool false) rfl (RunV.bool (x:=decide (((D.q:Nat):Int)≤(r:Int))) (rvk (by kernel_rfl)) aL) ?_
 refine sv 32 (.bool false) ?_
 refine sv 33 (.bool false) (za0 (aV _ _ ?_))
 refine wp_cond_false rfl ?_
 refine wp_skip ?_
 refine aR _ _ ?_
 refine wp_seq_k (fun bg a5=>wp_seq_k (fun bi a7=>rg [0,1] (sv 34 (iT (D.ce c)) ?_)))
 have aG:(D.ce c !=(0:Int))=false:=(by simp;omega)
 refine sw 35 (.bool false) rfl (RunV.bool (x:=(D.ce c !=(0:Int))) (rvk (by kernel_rfl)) aG) ?_
 refine za0 (a7 _ _ ?_)
 refine wp_cond_false rfl ?_
 refine wp_skip ?_
 refine a5 _ _ ?_
 refine wp_seq_k (fun bD a6=>rg [0,1,2,3,4,5] (sv 37 (pT az 0) ?_))
 refine sv 38 vc ?_
 refine sv 39 (iT (r:Int)) ?_
 refine se ?_
 replace aD:=aD.gr aB
 replace ar:=ar.gr zb8 aB
 replace aw:=aw.gr (za1 za6 68 3) aB
 replace al:=al.gr zb9 aB
 replace aq:=aq.gr (za1 (za1 (za7 64) 124 8) 162 1) aB
 replace av:=av.gr (za5 64) aB
 replace au:=au.gr za2 aB
 refine ec 40 (zL7 ok aD (⟨ar,aw,al,aq,av,au⟩:Dsk _ D _ _ _ _ _ _) hr hce.1 ((hc.gr za2 hB).cast (c_l hce.2.1))) ?_
 rintro br bt ⟨⟨ah,ae,ac,ak,ai,aj,ad,af,rfl,ap,aa⟩,a3⟩
 refine ⟨_,rfl,?_⟩
 replace hB:=hB.trans a3
 simp only [p3,p4]
 refine se ?_
 refine ea 124 #[.bool false,sN,.bool false,sN,.bool false,sN,.bool false,sN] 10 hB fun aJ a8 aO ay bn aT hB=>?_
 simp only [p3,p4]
 refine se ?_
 refine es 124 0 (.agg #[ah,ae,ac,ak,ai,aj,ad,af]) [ah,ae,ac,ak,ai,aj,ad,af] #[ah,ae,ac,ak,ai,aj,ad,af] ay hB aT ⟨ap.one0,ap.one1,ap.one2,ap.one3,aa.one0,aa.one1,aa.one2,aa.one3,trivial⟩ fun aU aW aC ay hB=>?_
 refine za0 (a6 _ _ ?_)
 refine wp_seq_k (fun bB aS=>?_)
 have aA:=Gr.drew aU
 replace hB:=hB.trans aA
 replace ay:=ay.gr aA
 refine za4 (fun w'=>Lc w' aJ #[ah,ae,ac,ak,ai,aj,ad,af] 124) [(true,0),(true,1),(true,3),(true,4),(false,2),(false,5),(true,6),(true,7),(true,8)] (by kernel_rfl) (by kernel_rfl) (by kernel_rfl) (by decide) (fun _ _ _ _ _ h=>h) ay ?_
 refine ov 41 (pT aJ 0) ?_
 refine ow 42 (.agg #[ah,ae,ac,ak]) rfl (fun w' hS=>(rl 62 0 [ah,ae,ac,ak] hS)) ?_
 refine ov 44 (pT aJ 4) ?_
 refine ow 45 (.agg #[ai,aj,ad,af]) rfl (fun w' hS=>(rl 62 4 [ai,aj,ad,af] hS)) ?_
 refine oe ?_
 have aF:=aO.kp.trans (aC.trans aA.kp)
 replace ap:=ap.kp aF
 refine ec 43 (zu1 ap (by omega) (ht.gr hB)) ?_
 rintro bj bl ⟨rfl,aK⟩
 refine ⟨_,rfl,?_⟩
 replace hB:=hB.trans aK
 replace ay:=ay.gr aK
 refine ⟨ay,?_⟩
 simp only [p3,p4]
 refine oe ?_
 have aI:=aO.kp.trans (aC.trans (aA.kp.trans aK.kp))
 replace aa:=aa.kp aI
 refine ec 46 (zu1 aa (by omega) (ht.gr hB)) ?_
 rintro bp bC ⟨rfl,aP⟩
 refine ⟨_,rfl,?_⟩
 replace hB:=hB.trans aP
 replace ay:=ay.gr aP
 refine ⟨ay,?_⟩
 simp only [p3,p4]
 refine ov 6 (sV (zd4 (D.wl (ze7 c) r))) ?_
 refine ov 7 (sV (zd4 (D.wu (ze7 c) r))) ?_
 refine ov 8 (iT 0) ?_
 refine zb4 ?_
 refine aS _ _ ?_
 refine wp_ret ?_
 refine bodyPost_ret (v:=(.tuple #[sV (zd4 (D.wl (ze7 c) r)),sV (zd4 (D.wu (ze7 c) r)),iT 0])) (zv0 rfl rfl rfl rfl) rfl ⟨?_,hB⟩
 exact rfl

theorem zQ3 {D:Ofr} {ds os rs:Value} (ok:D.Ok) {w:World} (_hm:Mx w) (_h1ds:ds.oneCell'=true) (_h1os:os.oneCell'=true) (_h1rs:rs.oneCell'=true) (hop:zS2 D ds os rs w) {TT:Nat} {c:List Int} {vc:Value} (hc:Sl EI64 TT 1 w vc (tb (fun z1=>(ca c z1)) c.length)) (_hz:D.ce c≠0) (z:Int):
    Calls Tryz.prog 16 #[.agg #[ds,os,rs],vc,iT (z)] w fun e w'=>e=.returned (.tuple #[sV [],sV [],iT (D.ce c)])∧Gr w w':=by
 have n2:=ok.n2
 go_enter Tryz.func16,Tryz.ntmps16
 have hB:=Gr.refl w
 refine wp_seq_k (fun aR ar=>rg [0,1,2,3] ?_)
 refine se ?_
 refine eb 26 #[ds,os,rs] 3 hB fun aS aU aT au aJ aV hB=>?_
 simp only [p3,p4]
 refine sv 6 (sV []) ?_
 refine sv 7 (sV []) ?_
 refine sv 8 (iT 0) (za0 (ar _ _ ?_))
 refine wp_seq_k (fun aM av=>rg [0,1,2,3,4,5,6] ?_)
 refine sw 12 (.agg #[ds,os,rs]) rfl (rl 26 0 [ds,os,rs] au) ?_
 refine se ?_
 refine ec 13 (hop _ hB) ?_
 rintro aX aY ⟨⟨ac,ax,aC,az,rfl,aq,aG,aa⟩,ay⟩
 refine ⟨_,rfl,?_⟩
 replace hB:=hB.trans ay
 have aj:=aa.ds
 have ah:=aa.os
 have ai:=aa.rs
 have ad:=aa.sp
 have af:=aa.cs
 have ae:=aa.ch
 simp only [p3,p4]
 refine sv 11 (.tuple #[pT ac 0,iT 0]) ?_
 refine sv 14 (pT ac 0) ?_
 refine sv 15 (iT 0) ?_
 refine sv 9 (pT ac 0) ?_
 refine sv 8 (iT 0) (za0 (av _ _ ?_))
 refine wp_seq_k (fun aP aw=>wp_seq_k (fun aK aD=>rg [0,1] (sv 16 (iT 0) ?_)))
 refine sv 17 (.bool true) (za0 (aD _ _ ?_))
 refine wp_cond_true rfl ?_
 refine rg [0,1,2,3] (sv 18 (pT ac 0) ?_)
 refine sv 19 vc ?_
 refine se ?_
 refine ec 20 (zq0 ok aq (⟨aj,ah,ai,ad,af,ae⟩:Dsk _ D _ _ _ _ _ _) (hc.gr za2 hB)) ?_
 rintro aL aN ⟨rfl,aB⟩
 refine ⟨_,rfl,?_⟩
 replace hB:=hB.trans aB
 simp only [p3,p4]
 refine sv 8 (iT (D.ce c)) (za0 (aw _ _ ?_))
 refine wp_seq_k (fun aQ aE=>wp_seq_k (fun aI aA=>rg [0,1,2,3,4,5,6,7,8,9,10,11,12] (sv 21 (iT (D.ce c)) ?_)))
 have ak:(D.ce c==(0:Int))=false:=(by rw [beq_eq_false_iff_ne];omega)
 refine sw 22 (.bool false) rfl (RunV.bool (x:=(D.ce c==(0:Int))) (rvk (by kernel_rfl)) ak) ?_
 refine swk 23 (.bool false) [(3,24),(4,25),(5,26),(6,27),(7,28),(8,29),(9,30),(10,31),(11,32)] rfl (rvk (by kernel_rfl)) ?_
 refine sv 33 (.bool false) (za0 (aA _ _ ?_))
 refine wp_cond_false rfl ?_
 refine wp_skip ?_
 refine aE _ _ ?_
 refine wp_seq_k (fun aH aW=>wp_seq_k (fun aO ap=>rg [0,1] (sv 34 (iT (D.ce c)) ?_)))
 have al:(D.ce c !=(0:Int))=true:=(by simp;omega)
 refine sw 35 (.bool true) rfl (RunV.bool (x:=(D.ce c !=(0:Int))) (rvk (by kernel_rfl)) al) ?_
 refine za0 (ap _ _ ?_)
 refine wp_cond_true rfl ?_
 refine wp_seq_k (fun aZ aF=>rg [0,1,2,3] (sv 36 (iT (D.ce c)) ?_))
 refine sv 6 (sV []) ?_
 refine sv 7 (sV []) ?_
 refine sv 8 (iT (D.ce c)) (za0 (aF _ _ ?_))
 refine wp_ret ?_
 simp only [Exit.then]
 refine bodyPost_ret (v:=(.tuple #[sV [],sV [],iT (D.ce c)])) (zv0 rfl rfl rfl rfl) rfl ⟨?_,hB⟩
 exact rfl

theorem zI5 {D:Ofr} {ds os rs:Value} (ok:D.Ok) {w:World} (_hm:Mx w) (_h1ds:ds.oneCell'=true) (_h1os:os.oneCell'=true) (_h1rs:rs.oneCell'=true) (hop:zS2 D ds os rs w) (_hrs:Sl ERq 80 8 w rs (tb (fun z1=>(D.rq z1)) D.q)) {TT:Nat} {c:List Int} {vc:Value} (hc:Sl EI64 TT 1 w vc (tb (fun z1=>(ca c z1)) c.length)) (_hz:D.ce c=0) (z:Int) (_h0:z<0):
    Calls Tryz.prog 16 #[.agg #[ds,os,rs],vc,iT (z)] w fun e w'=>e=.returned (.tuple #[sV [],sV [],iT 2])∧Gr w w':=by
 have n2:=ok.n2
 go_enter Tryz.func16,Tryz.ntmps16
 have hB:=Gr.refl w
 refine wp_seq_k (fun aL aA=>rg [0,1,2,3] ?_)
 refine se ?_
 refine eb 26 #[ds,os,rs] 3 hB fun aX aY aM aq aS aO hB=>?_
 simp only [p3,p4]
 refine sv 6 (sV []) ?_
 refine sv 7 (sV []) ?_
 refine sv 8 (iT 0) (za0 (aA _ _ ?_))
 refine wp_seq_k (fun aK ar=>rg [0,1,2,3,4,5,6] ?_)
 refine sw 12 (.agg #[ds,os,rs]) rfl (rl 26 0 [ds,os,rs] aq) ?_
 refine se ?_
 refine ec 13 (hop _ hB) ?_
 rintro aZ aP ⟨⟨ac,av,ay,ax,rfl,ap,aR,aa⟩,aw⟩
 refine ⟨_,rfl,?_⟩
 replace hB:=hB.trans aw
 have ae:=aa.ds
 have ai:=aa.os
 have aj:=aa.rs
 have ad:=aa.sp
 have ah:=aa.cs
 have af:=aa.ch
 simp only [p3,p4]
 refine sv 11 (.tuple #[pT ac 0,iT 0]) ?_
 refine sv 14 (pT ac 0) ?_
 refine sv 15 (iT 0) ?_
 refine sv 9 (pT ac 0) ?_
 refine sv 8 (iT 0) (za0 (ar _ _ ?_))
 refine wp_seq_k (fun aV au=>wp_seq_k (fun aI aF=>rg [0,1] (sv 16 (iT 0) ?_)))
 refine sv 17 (.bool true) (za0 (aF _ _ ?_))
 refine wp_cond_true rfl ?_
 refine rg [0,1,2,3] (sv 18 (pT ac 0) ?_)
 refine sv 19 vc ?_
 refine se ?_
 refine ec 20 (zq0 ok ap (⟨ae,ai,aj,ad,ah,af⟩:Dsk _ D _ _ _ _ _ _) (hc.gr za2 hB)) ?_
 rintro aJ aT ⟨rfl,aD⟩
 refine ⟨_,rfl,?_⟩
 replace hB:=hB.trans aD
 simp only [p3,p4]
 refine sv 8 (iT (D.ce c)) (za0 (au _ _ ?_))
 refine wp_seq_k (fun aW az=>wp_seq_k (fun aH aC=>rg [0,1,2,3,4,5,6,7,8,9,10,11,12] (sv 21 (iT (D.ce c)) ?_)))
 have al:(D.ce c==(0:Int))=true:=(by simp;omega)
 refine sw 22 (.bool true) rfl (RunV.bool (x:=(D.ce c==(0:Int))) (rvk (by kernel_rfl)) al) ?_
 refine sv 23 (.bool true) ?_
 refine sv 24 (iT (z)) ?_
 have ak:(decide (z<(0:Int)))=true:=(by simp only [decide_eq_true_eq];omega)
 refine sw 25 (.bool true) rfl (RunV.bool (x:=decide (z<(0:Int))) (rvk (by kernel_rfl)) ak) ?_
 refine swk 26 (.bool true) [(6,27),(7,28),(8,29),(9,30),(10,31)] rfl (rvk (by kernel_rfl)) ?_
 refine sv 32 (.bool true) ?_
 refine sv 33 (.bool true) (za0 (aC _ _ ?_))
 refine wp_cond_true rfl ?_
 refine rg [0] (sv 8 (iT 2) ?_)
 refine za0 (az _ _ ?_)
 refine wp_seq_k (fun aU aG=>wp_seq_k (fun aN aB=>rg [0,1] (sv 34 (iT 2) ?_)))
 refine sv 35 (.bool true) (za0 (aB _ _ ?_))
 refine wp_cond_true rfl ?_
 refine wp_seq_k (fun aQ aE=>rg [0,1,2,3] (sv 36 (iT 2) ?_))
 refine sv 6 (sV []) ?_
 refine sv 7 (sV []) ?_
 refine sv 8 (iT 2) (za0 (aE _ _ ?_))
 refine wp_ret ?_
 simp only [Exit.then]
 refine bodyPost_ret (v:=(.tuple #[sV [],sV [],iT 2])) (zv0 rfl rfl rfl rfl) rfl ⟨?_,hB⟩
 exact rfl

theorem zI6 {D:Ofr} {ds os rs:Value} (ok:D.Ok) {w:World} (_hm:Mx w) (_h1ds:ds.oneCell'=true) (_h1os:os.oneCell'=true) (_h1rs:rs.oneCell'=true) (hop:zS2 D ds os rs w) (_hrs:Sl ERq 80 8 w rs (tb (fun z1=>(D.rq z1)) D.q)) {TT:Nat} {c:List Int} {vc:Value} (hc:Sl EI64 TT 1 w vc (tb (fun z1=>(ca c z1)) c.length)) (_hz:D.ce c=0) (z:Int) (_h0:(D.q:Int)≤z):
    Calls Tryz.prog 16 #[.agg #[ds,os,rs],vc,iT (z)] w fun e w'=>e=.returned (.tuple #[sV [],sV [],iT 2])∧Gr w w':=by
 have n2:=ok.n2
 go_enter Tryz.func16,Tryz.ntmps16
 have hB:=Gr.refl w
 refine wp_seq_k (fun aN aC=>rg [0,1,2,3] ?_)
 refine se ?_
 refine eb 26 #[ds,os,rs] 3 hB fun aE aZ aO ak aU aQ hB=>?_
 simp only [p3,p4]
 refine sv 6 (sV []) ?_
 refine sv 7 (sV []) ?_
 refine sv 8 (iT 0) (za0 (aC _ _ ?_))
 refine wp_seq_k (fun aM aw=>rg [0,1,2,3,4,5,6] ?_)
 refine sw 12 (.agg #[ds,os,rs]) rfl (rl 26 0 [ds,os,rs] ak) ?_
 refine se ?_
 refine ec 13 (hop _ hB) ?_
 rintro a0 aR ⟨⟨ac,ay,aA,az,rfl,av,aT,aa⟩,ar⟩
 refine ⟨_,rfl,?_⟩
 replace hB:=hB.trans ar
 have af:=aa.ds
 have aj:=aa.os
 have ad:=aa.rs
 have ae:=aa.sp
 have ai:=aa.cs
 have ah:=aa.ch
 simp only [p3,p4]
 refine sv 11 (.tuple #[pT ac 0,iT 0]) ?_
 refine sv 14 (pT ac 0) ?_
 refine sv 15 (iT 0) ?_
 refine sv 9 (pT ac 0) ?_
 refine sv 8 (iT 0) (za0 (aw _ _ ?_))
 refine wp_seq_k (fun aX ax=>wp_seq_k (fun aK aG=>rg [0,1] (sv 16 (iT 0) ?_)))
 refine sv 17 (.bool true) (za0 (aG _ _ ?_))
 refine wp_cond_true rfl ?_
 refine rg [0,1,2,3] (sv 18 (pT ac 0) ?_)
 refine sv 19 vc ?_
 refine se ?_
 refine ec 20 (zq0 ok av (⟨af,aj,ad,ae,ai,ah⟩:Dsk _ D _ _ _ _ _ _) (hc.gr za2 hB)) ?_
 rintro aL aW ⟨rfl,au⟩
 refine ⟨_,rfl,?_⟩
 replace hB:=hB.trans au
 simp only [p3,p4]
 refine sv 8 (iT (D.ce c)) (za0 (ax _ _ ?_))
 refine wp_seq_k (fun aY aB=>wp_seq_k (fun aJ aD=>rg [0,1,2,3,4,5,6,7,8,9,10,11,12] (sv 21 (iT (D.ce c)) ?_)))
 have aq:(D.ce c==(0:Int))=true:=(by simp;omega)
 refine sw 22 (.bool true) rfl (RunV.bool (x:=(D.ce c==(0:Int))) (rvk (by kernel_rfl)) aq) ?_
 refine sv 23 (.bool true) ?_
 refine sv 24 (iT (z)) ?_
 have al:(decide (z<(0:Int)))=false:=(by simp only [decide_eq_false_iff_not];omega)
 refine sw 25 (.bool false) rfl (RunV.bool (x:=decide (z<(0:Int))) (rvk (by kernel_rfl)) al) ?_
 refine sv 26 (.bool false) ?_
 refine sv 27 (iT (z)) ?_
 refine sv 28 (pT aE 2) ?_
 replace ak:=ak.gr (ar.trans au)
 refine sw 29 rs rfl (rk 24 2 ak) ?_
 refine sw 30 (iT ((D.q:Nat):Int)) rfl (zb0 (e:=80) ad (za9 rfl) _ _ rfl rfl (by kernel_rfl)) ?_
 have ap:(decide (((D.q:Nat):Int)≤z))=true:=(by simp only [decide_eq_true_eq];omega)
 refine sw 31 (.bool true) rfl (RunV.bool (x:=decide (((D.q:Nat):Int)≤z)) (rvk (by kernel_rfl)) ap) ?_
 refine sv 32 (.bool true) ?_
 refine sv 33 (.bool true) (za0 (aD _ _ ?_))
 refine wp_cond_true rfl ?_
 refine rg [0] (sv 8 (iT 2) ?_)
 refine za0 (aB _ _ ?_)
 refine wp_seq_k (fun aP aV=>wp_seq_k (fun aS aF=>rg [0,1] (sv 34 (iT 2) ?_)))
 refine sv 35 (.bool true) (za0 (aF _ _ ?_))
 refine wp_cond_true rfl ?_
 refine wp_seq_k (fun aI aH=>rg [0,1,2,3] (sv 36 (iT 2) ?_))
 refine sv 6 (sV []) ?_
 refine sv 7 (sV []) ?_
 refine sv 8 (iT 2) (za0 (aH _ _ ?_))
 refine wp_ret ?_
 simp only [Exit.then]
 refine bodyPost_ret (v:=(.tuple #[sV [],sV [],iT 2])) (zv0 rfl rfl rfl rfl) rfl ⟨?_,hB⟩
 exact rfl

end Go.Proofs.YtjhflekncldflaaGreatDoor
namespace Go.Proofs.YtjhflekncldflaaGreatDoor
set_option maxRecDepth 100000
set_option maxHeartbeats 1000000
open Go.RowKit

theorem imin_t {f:Nat→Int} {k:Nat} (h:f k - zn3 f k<0):f k=zn3 f (k+1):=by
 show _=if f k<zn3 f k then f k else zn3 f k
 rw [if_pos (by omega)]
theorem imin_f {f:Nat→Int} {k:Nat} (h:¬ f k - zn3 f k<0):zn3 f k=zn3 f (k+1):=by
 show _=if f k<zn3 f k then f k else zn3 f k
 rw [if_neg (by omega)]
theorem imin_one {f:Nat→Int}:f 0=zn3 f 1:=by
 show _=if f 0<f 0 then f 0 else f 0
 split<;>rfl
theorem imin_bd {f:Nat→Int}:∀ {k:Nat},0<k→(∀ j,j<k→0≤f j∧f j≤1048576)→0≤zn3 f k∧zn3 f k≤1048576:=fun hk h=>by
 obtain ⟨i,hi,e⟩:=zB7 f hk
 rw [e];exact h i hi
theorem opn_cmp {a0 a1 a2 b0 b1 b2:Int} (_ha:0≤a2∧a2≤1048576) (_hb:0≤b2∧b2≤1048576) {w:World}:
    Calls Tryz.prog 78 #[.agg #[iT (a0),iT (a1),iT (a2)],.agg #[iT (b0),iT (b1),iT (b2)]] w fun e w'=>e=.returned (iT (a2 - b2))∧Gr w w':=by
 go_enter Tryz.func78,Tryz.ntmps78
 have hB:=Gr.refl w
 refine wp_seq_k (fun aq ac=>rg [0,1,2] ?_)
 refine se ?_
 refine eb 68 #[iT (a0),iT (a1),iT (a2)] 2 hB fun ae av au aa ak aw hB=>?_
 simp only [p3,p4]
 refine se ?_
 refine eb 68 #[iT (b0),iT (b1),iT (b2)] 3 hB fun ai al ad ah aj ar hB=>?_
 simp only [p3,p4]
 refine sv 4 (iT 0) (za0 (ac _ _ ?_))
 refine wp_seq_k (fun ap af=>rg [0,1,2,3,4,5] (sv 5 (pT ae 2) ?_))
 replace aa:=aa.gr ad
 refine sw 6 (iT (a2)) rfl (rk 3 2 aa) ?_
 refine sv 7 (pT ai 2) ?_
 refine sw 8 (iT (b2)) rfl (rk 3 2 ah) ?_
 refine sw 9 (iT (a2 - b2)) rfl (rwI (a2 - b2)) ?_
 refine sv 4 (iT (a2 - b2)) (za0 (af _ _ ?_))
 refine wp_ret ?_
 refine bodyPost_ret (v:=(iT (a2 - b2))) (za3 rfl rfl) rfl ⟨?_,hB⟩
 exact rfl

theorem min_opt {D:Ofr} {i:Nat} (ok:D.Ok) (hi:i<D.n) {v:Value} {w:World} (hv:Sl EOp 68 3 w v (tb (fun z1=>(D.op i z1)) (D.ol i))):
    Calls Tryz.prog 77 #[v,(.func (.func 78) #[] #[])] w fun e w'=>(∃ x y,e=.returned (.agg #[iT x,iT y,iT (D.ch i)]))∧Gr w w':=by
 have aW:=ok.o1 i hi
 have a4:=ok.o2 i hi
 go_enter Tryz.func77,Tryz.ntmps77
 have hB:=Gr.refl w
 refine wp_seq_k (fun aY aI=>rg [0] ?_)
 refine se ?_
 refine ea 68 #[iT 0,iT 0,iT 0] 4 hB fun ax bj aZ ad bb aF hB=>?_
 simp only [p3,p4]
 refine za0 (aI _ _ ?_)
 refine wp_seq_k (fun aV aA=>wp_seq_k (fun aU aR=>rg [0,1,2] (sv 7 v ?_)))
 refine sw 8 (iT ((D.ol i:Nat):Int)) rfl (zb0 (e:=68) hv (za9 rfl) _ _ rfl rfl (by kernel_rfl)) ?_
 have al:(decide (((D.ol i:Nat):Int)<(1:Int)))=false:=(by simp only [decide_eq_false_iff_not];omega)
 refine sw 9 (.bool false) rfl (RunV.bool (x:=decide (((D.ol i:Nat):Int)<(1:Int))) (rvk (by kernel_rfl)) al) ?_
 refine za0 (aR _ _ ?_)
 refine wp_cond_false rfl ?_
 refine wp_skip ?_
 refine aA _ _ ?_
 refine wp_seq_k (fun aS aQ=>rg [0,1,2,3,4] (sv 11 v ?_))
 refine sw 12 (adr v (0*3)) rfl (zc0 (e:=68) hv za8 (by decide) 0 (by omega) _ _ _ rfl rfl rfl (by kernel_rfl) (by kernel_rfl)) ?_
 obtain ⟨_,_,rfl,au⟩:=Sl.get hv (by decide) (zc3 (f:=(fun z1=>(D.op i z1))) (n:=(D.ol i)) (i:=0) (by omega))
 refine sw 13 (.agg #[iT (D.lo i 0),iT (D.up i 0),iT (D.co i 0)]) rfl (ze5 [iT (D.lo i 0),iT (D.up i 0),iT (D.co i 0)] (au.gr hB) _ _ rfl rfl (by kernel_rfl)) ?_
 refine se ?_
 refine ea 68 #[iT 0,iT 0,iT 0] 5 hB fun ar bl aO ac aG aw hB=>?_
 have ae:=ad.ne aG
 simp only [p3,p4]
 refine se ?_
 refine es 68 0 (.agg #[iT (D.lo i 0),iT (D.up i 0),iT (D.co i 0)]) [iT (D.lo i 0),iT (D.up i 0),iT (D.co i 0)] #[iT (D.lo i 0),iT (D.up i 0),iT (D.co i 0)] ac hB aw ⟨rfl,rfl,rfl,trivial⟩ fun a6 aq aK ac hB=>?_
 refine za0 (aQ _ _ ?_)
 refine wp_seq_k (fun bf aJ=>wp_seq_k (fun a9 aE=>rg [0] (sv 6 (iT 1) ?_)))
 refine za0 (aE _ _ ?_)
 refine wp_block ?_
 rw [imin_one (f:=D.co i)] at ac
 replace ad:=aq.lc (ad.gr aO) ae
 refine zb1 (a:=⟨List.toArray ?l21,[]⟩) (fun n a w'=>∃ (k:Nat) (x:Int) (y:Int) (aa:Nat→Value),(D.ol i) - k=n∧a=⟨[v,(.func (.func 78) #[] #[]),undef,undef,pT ax 0,pT ar 0,iT (k:Int),aa 7,aa 8,.bool false,undef,aa 11,aa 12,aa 13,aa 14,aa 15,aa 16,aa 17,aa 18,aa 19,aa 20,aa 21,aa 22,aa 23,aa 24,aa 25,aa 26,aa 27,aa 28,aa 29,aa 30,aa 31,undef].toArray,[]⟩∧k≤(D.ol i)∧0<k∧Lc w' ax #[iT 0,iT 0,iT 0] 68∧Lc w' ar #[iT (x),iT (y),iT (zn3 (D.co i) k)] 68∧Gr w w') (D.ol i - 1) ?_ ?_
 ·exact ⟨1,_,_,(fun i=>List.getD ?l21 i undef),rfl,rfl,ok.o1 i hi,(by omega),ad,ac,hB⟩
 rintro aT bh aH ⟨k,x,y,aa,rfl,rfl,hkk,az,ad,ac,hB⟩ bi av
 have hck:k<D.ol i→0≤D.co i k∧D.co i k≤1048576:=fun h=>ok.co i k hi h
 have hmk:0≤zn3 (D.co i) k∧zn3 (D.co i) k≤1048576:=imin_bd az fun j hj=>ok.co i j hi (by omega)
 refine wp_seq_k (fun a2 aM=>wp_seq_k (fun a5 aP=>rg [0,1,2,3] (sv 14 (iT (k:Int)) ?_)))
 refine sv 15 v ?_
 refine sw 16 (iT ((D.ol i:Nat):Int)) rfl (zb0 (e:=68) hv (za9 rfl) _ _ rfl rfl (by kernel_rfl)) ?_
 refine sv 17 (.bool (decide ((k:Int)<((D.ol i:Nat):Int)))) (za0 (aP _ _ ?_))
 refine wp_cond_split rfl (fun ai=>?_) (fun ai=>?_)
 ·have hlk:k<(D.ol i):=by have:=of_decide_eq_true ai;omega
  refine wp_skip ?_
  refine aM _ _ ?_
  refine wp_seq_k (fun bk ay=>?_)
  refine wp_block ?_
  refine wp_seq_k (fun bg aD=>?_)
  obtain ⟨_,_,rfl,aj⟩:=Sl.get hv (by decide) (zc3 (f:=(fun z1=>(D.op i z1))) (n:=(D.ol i)) (i:=k) (by omega))
  have af:=Gr.drew aH
  replace hB:=hB.trans af
  replace ac:=ac.gr af
  refine za4 (fun w'=>Lc w' ar #[iT (x),iT (y),iT (zn3 (D.co i) k)] 68∧AtV w' v (k*3) [iT (D.lo i k),iT (D.up i k),iT (D.co i k)]) [(true,0),(true,1),(true,2),(true,3),(true,4),(true,5),(false,6),(true,7)] (by kernel_rfl) (by kernel_rfl) (by kernel_rfl) (by decide) (fun _ _ _ _ _ h=>h) ⟨ac,aj.gr hB⟩ ?_
  refine ov 20 (.func (.func 78) #[] #[]) ?_
  refine ov 21 v ?_
  refine ov 22 (iT (k:Int)) ?_
  refine ow 23 (adr v (k*3)) rfl (fun w' hS=>(zc0 (e:=68) hv za8 (by decide) k (by omega) _ _ _ rfl rfl rfl (by kernel_rfl) (by kernel_rfl))) ?_
  refine ow 24 (.agg #[iT (D.lo i k),iT (D.up i k),iT (D.co i k)]) rfl (fun w' hS=>(ze5 [iT (D.lo i k),iT (D.up i k),iT (D.co i k)] hS.2 _ _ rfl rfl (by kernel_rfl))) ?_
  refine ow 25 (.agg #[iT (x),iT (y),iT (zn3 (D.co i) k)]) rfl (fun w' hS=>(rl 68 0 [iT (x),iT (y),iT (zn3 (D.co i) k)] hS.1)) ?_
  refine oe ?_
  refine ec 26 (opn_cmp (a0:=(D.lo i k)) (a1:=(D.up i k)) (b0:=x) (b1:=y) (hck hlk) hmk) ?_
  rintro aX a3 ⟨rfl,ak⟩
  refine ⟨_,rfl,?_⟩
  replace hB:=hB.trans ak
  replace ac:=ac.gr ak
  refine ⟨⟨ac,aj.gr hB⟩,?_⟩
  simp only [p3,p4]
  refine ov 27 (.bool (decide (((D.co i k) - (zn3 (D.co i) k))<(0:Int)))) ?_
  refine zb4 ?_
  refine aD _ _ ?_
  refine wp_cond_split rfl (fun ah=>?_) (fun ah=>?_)
  ·have hlt:=of_decide_eq_true ah
   refine rg [0,1,2,3,4] (sv 28 v ?_)
   refine sv 29 (iT (k:Int)) ?_
   refine sw 30 (adr v (k*3)) rfl (zc0 (e:=68) hv za8 (by decide) k (by omega) _ _ _ rfl rfl rfl (by kernel_rfl) (by kernel_rfl)) ?_
   refine sw 31 (.agg #[iT (D.lo i k),iT (D.up i k),iT (D.co i k)]) rfl (ze5 [iT (D.lo i k),iT (D.up i k),iT (D.co i k)] (aj.gr hB) _ _ rfl rfl (by kernel_rfl)) ?_
   refine se ?_
   refine es 68 0 (.agg #[iT (D.lo i k),iT (D.up i k),iT (D.co i k)]) [iT (D.lo i k),iT (D.up i k),iT (D.co i k)] #[iT (D.lo i k),iT (D.up i k),iT (D.co i k)] ac hB aw ⟨rfl,rfl,rfl,trivial⟩ fun a8 ap aL ac hB=>?_
   refine za0 (ay _ _ ?_)
   refine rg [0,1,2] (sv 18 (iT (k:Int)) ?_)
   refine sw 19 (iT ((k:Int)+1)) rfl (rwI ((k:Int)+1)) ?_
   refine sv 6 (iT ((k:Int)+1)) ?_
   refine za0 ?_
   rw [imin_t (f:=D.co i) hlt] at ac
   replace ad:=ap.lc (ad.gr (af.trans ak)) ae
   refine av (D.ol i - (k+1)) ⟨List.toArray ?l36,[]⟩ _ (by omega) ?_
   exact ⟨k+1,_,_,(fun i=>List.getD ?l36 i undef),rfl,rfl,(by omega),(by omega),ad,ac,hB⟩
  have hlt:=of_decide_eq_false ah
  refine wp_skip ?_
  refine ay _ _ ?_
  refine rg [0,1,2] (sv 18 (iT (k:Int)) ?_)
  refine sw 19 (iT ((k:Int)+1)) rfl (rwI ((k:Int)+1)) ?_
  refine sv 6 (iT ((k:Int)+1)) ?_
  refine za0 ?_
  rw [imin_f (f:=D.co i) hlt] at ac
  replace ad:=ad.gr (af.trans ak)
  refine av (D.ol i - (k+1)) ⟨List.toArray ?l37,[]⟩ _ (by omega) ?_
  exact ⟨k+1,_,_,(fun i=>List.getD ?l37 i undef),rfl,rfl,(by omega),(by omega),ad,ac,hB⟩
 have hek:(D.ol i)=k:=by have:=of_decide_eq_false ai;omega
 refine wp_exit ?_
 simp only [Exit.then,Exit.inBlock,↓reduceIte]
 refine aJ _ _ ?_
 refine wp_seq_k (fun ba aB=>rg [0,1] ?_)
 refine sw 32 (.agg #[iT (x),iT (y),iT (zn3 (D.co i) k)]) rfl (rl 68 0 [iT (x),iT (y),iT (zn3 (D.co i) k)] ac) ?_
 refine se ?_
 refine es 68 0 (.agg #[iT (x),iT (y),iT (zn3 (D.co i) k)]) [iT (x),iT (y),iT (zn3 (D.co i) k)] #[iT (x),iT (y),iT (zn3 (D.co i) k)] ad hB aF ⟨rfl,rfl,rfl,trivial⟩ fun a7 aC aN ad hB=>?_
 refine za0 (aB _ _ ?_)
 refine wp_ret ?_
 refine bodyPost_ret (v:=(.agg #[iT (x),iT (y),iT (zn3 (D.co i) k)])) (zc8 _ _ _ rfl rfl ad (by kernel_rfl)) rfl ⟨?_,hB⟩
 exact ⟨x,y,by unfold Ofr.ch;rw [hek]⟩

end Go.Proofs.YtjhflekncldflaaGreatDoor
namespace Go.Proofs.YtjhflekncldflaaGreatDoor
open Go.RowKit

theorem noname (x:Nat) (w:World):Calls Tryz.prog 99 #[.int .i32 (x:Int)] w fun e w'=>e=.returned (.bool (decide (x<33)||decide (126<x)))∧∃ q,w'=w.drewN q:=by
 by_cases h1:(x:Int)<33
 ·have e1:decide (x<33)=true:=by simp;omega
  have E:=Lib.hid e1
  clear e1
  go_enter Tryz.func99,Tryz.ntmps99
  go_wp2
  go_ret
  exact ⟨by rw [E.out];rfl,0,rfl⟩
 have e1:decide (x<33)=false:=by simp;omega
 by_cases h2:126<(x:Int)
 ·have e2:(decide (x<33)||decide (126<x))=true:=by simp;omega
  have E:=Lib.hid e2
  clear e1 e2
  go_enter Tryz.func99,Tryz.ntmps99
  go_wp2
  go_ret
  exact ⟨by rw [E.out];rfl,0,rfl⟩
 have e2:(decide (x<33)||decide (126<x))=false:=by simp;omega
 have E:=Lib.hid e2
 clear e1 e2
 go_enter Tryz.func99,Tryz.ntmps99
 go_wp2
 go_ret
 exact ⟨by rw [E.out];rfl,0,rfl⟩
end Go.Proofs.YtjhflekncldflaaGreatDoor
namespace Go.Proofs.YtjhflekncldflaaGreatDoor
open Go.ChangeShapes Go.WideShapes Go.ChangeAt Go.RowKit

def fieldsOf (P:Program) (rec:TypeId→Option (List IntKind)):Nat→List Field→Option (List IntKind)
 | _,[]=>some []
 | off,f::fs=>match rec f.type with
  | some ks=>if f.offset=off∧P.cellsOf f.type=ks.length then (fieldsOf P rec (off+ks.length) fs).map (ks++·) else none
  | none=>none
def IntsAre:List IntKind→List Value→Prop
 | k::ks,c::cs=>(∃ z,c=.int k z∧k.has z)∧IntsAre ks cs
 | [],[]=>True
 | _,_=>False
theorem IntsAre.len:∀ {ks:List IntKind} {cs:List Value},IntsAre ks cs→cs.length=ks.length
 | _::_,_::_,h=>by simp [IntsAre.len h.2]
 | [],[],_=>rfl
 | _::_,[],h=>h.elim
 | [],_::_,h=>h.elim
end Go.Proofs.YtjhflekncldflaaGreatDoor
namespace Go.Proofs.YtjhflekncldflaaGreatDoor
open Go.ChangeShapes Go.WideShapes Go.ChangeAt Go.RowKit
section
variable {α:Type} {H:Type} {enc:TypeId × Value→H} {P:Program} {W:World} {base base2:Nat} {sp:Nat→Bool} {held:Bool}
def ESl (E:World→α→List Value→Prop) (c:Nat) (w:World) (x:List α) (vs:List Value):Prop:=∃ (u:Value) (T:Nat),vs=[u]∧Sl E T c w u x
end
end Go.Proofs.YtjhflekncldflaaGreatDoor
namespace Go.Proofs.YtjhflekncldflaaGreatDoor
open Go.RowKit
def fe (f:Nat→Int):Nat→Int
 | 0=>0
 | k+1=>if fe f k=0 then f k else fe f k
theorem zm1 {f:Nat→Int}:∀ {n:Nat},fe f n=0↔∀ i,i<n→f i=0
 | 0=>⟨fun _ i h=>absurd h (Nat.not_lt_zero i),fun _=>rfl⟩
 | n+1=>by
  unfold fe
  constructor
  ·intro h i hi
   split at h
   ·next h0=>
    rcases Nat.lt_or_eq_of_le (Nat.le_of_lt_succ hi) with h1 | rfl
    ·exact zm1.1 h0 i h1
    exact h
   next h0=>exact absurd h h0
  intro h
  rw [if_pos (zm1.2 fun i hi=>h i (by omega))]
  exact h n (by omega)
theorem zQ0 {f:Nat→Int} {k:Nat} (h0:fe f k=0) (hz:f k=0):fe f (k+1)=0:=by
 unfold fe;rw [if_pos h0];exact hz
theorem zT9 {f:Nat→Int} {k:Nat} (h0:fe f k=0) (hz:f k≠0):∀ {n:Nat},k<n→fe f n=f k
 | n+1,hk=>by
  unfold fe
  rcases Nat.lt_or_eq_of_le (Nat.le_of_lt_succ hk) with h1 | rfl
  ·rw [zT9 h0 hz h1,if_neg hz]
  rw [if_pos h0]
theorem zp8 {f:Nat→Int} {k n:Nat} {z:Int} (h0:fe f k=0) (hk:k<n) (e:f k=z) (hz:z≠0):fe f n=z:=by
 rw [zT9 h0 (by rw [e];exact hz) hk,e]
def isNm (X:List UInt8):Bool:=decide (0<X.length)&&(decide (X.length≤40)&&!(decide (0≤Lib.idxFunc (fun x=>decide (x<33)||decide (126<x)) true ⟨X.toArray⟩)))
noncomputable def zg1 (X:List UInt8):Rat:=if h:ck2 X 400=0 then (zA4 h).1.choose else 0
theorem zU0 {X:List UInt8} (h:ck2 X 400=0):X=zd4 (zg1 X):=by
 unfold zg1
 rw [dif_pos h]
 exact (zA4 h).1.choose_spec
theorem zU1 {X:List UInt8} (h:ck2 X 400≠0):zg1 X=0:=dif_neg h
structure Dmn where
 nm:List UInt8
 no:Int
 lo:Int
 up:Int
structure Exl where
 op:Int
 c:List UInt8
 tn:Nat
 tm:Nat→Int × List UInt8
 k:List UInt8
 na:Nat
structure Rqg where
 nm:List UInt8
 x:Exl
 ag:Nat→Exl
 lo:List UInt8
 hi:List UInt8
structure Offg where
 n:Nat
 dm:Nat→Dmn
 m:Nat
 ol:Nat→Nat
 op:Nat→Nat→Int × Int × Int
 q:Nat
 rq:Nat→Rqg
def zg2 (z:Int):Bool:=decide (1073741824<z)||decide (z< -1073741824)
def zg4 (nm:Nat→List UInt8) (i:Nat) (X:List UInt8):Bool:=(List.range i).any fun j=>nm j==X
def dke (dm:Nat→Dmn) (i:Nat):Int:=
 if isNm (dm i).nm=false then 11 else if zg2 (dm i).no||(zg2 (dm i).lo||zg2 (dm i).up) then 2 else if (dm i).up<(dm i).lo then 8
 else if zg4 (fun j=>(dm j).nm) i (dm i).nm then 9 else 0
def dck (dm:Nat→Dmn) (n:Nat):Int:=if 64<n then 6 else fe (dke dm) n
def tol (dm:Nat→Dmn) (n:Nat):Bool:=(List.range n).any fun i=>(dm i).lo !=0||(dm i).up !=0
def ope (x:Int × Int × Int):Int:=
 if zg2 x.1||(zg2 x.2.1||(decide (x.2.2<0)||decide (1048576<x.2.2))) then 2 else if x.2.1<x.1 then 8 else 0
def opl (f:Nat→Int × Int × Int) (n:Nat):Int:=if n=0 then 7 else if 8<n then 6 else fe (fun k=>ope (f k)) n
def chn (ol:Nat→Nat):Nat→Nat
 | 0=>1
 | k+1=>if 4097<chn ol k*ol k then 4097 else chn ol k*ol k
noncomputable def zH7 (n:Nat) (tm:Nat→Int × List UInt8) (i:Nat):Int:=
 if (tm i).1<0∨(n:Int)≤(tm i).1 then 2 else if 0<i∧(tm i).1≤(tm (i - 1)).1 then 8
 else if ck2 (tm i).2 400≠0 then ck2 (tm i).2 400 else if zg1 (tm i).2=0 then 19 else 0
noncomputable def zH8 (n:Nat) (c:List UInt8) (tn:Nat) (tm:Nat→Int × List UInt8):Int:=
 if ck2 c 400≠0 then ck2 c 400 else if 64<tn then 6 else fe (zH7 n tm) tn
def Exl.odd (x:Exl):Bool:=(decide (x.op≠0)&&(decide (x.c≠[])||decide (0<x.tn)))||(decide (x.op≠2)&&decide (x.k≠[]))
noncomputable def nde (n:Nat) (x:Exl):Int:=
 if x.odd then (if 0≤x.op∧x.op≤5 then 3 else 12)
 else if x.op=0 then (if 0<x.na then 3 else zH8 n x.c x.tn x.tm)
 else if x.op=1∨x.op=3∨x.op=4 then (if x.na=0 then 3 else 0)
 else if x.op=5∨x.op=2 then (if x.na≠1 then 3 else if x.op=2 then ck2 x.k 400 else 0)
 else 12
noncomputable def exe (n:Nat) (x:Exl) (ag:Nat→Exl):Int:=if nde n x≠0 then nde n x else fe (fun i=>nde n (ag i)) x.na
noncomputable def rqe (n:Nat) (rq:Nat→Rqg) (i:Nat):Int:=
 if isNm (rq i).nm=false then 11 else if zg4 (fun j=>(rq j).nm) i (rq i).nm then 9
 else if exe n (rq i).x (rq i).ag≠0 then exe n (rq i).x (rq i).ag else if (rq i).x.op≠0 then 12
 else if (rq i).lo≠[]∧ck2 (rq i).lo 400≠0 then ck2 (rq i).lo 400 else if (rq i).hi≠[]∧ck2 (rq i).hi 400≠0 then ck2 (rq i).hi 400
 else if (rq i).lo≠[]∧(rq i).hi≠[]∧zg1 (rq i).hi<zg1 (rq i).lo then 8 else 0
noncomputable def Offg.chk (D:Offg):Int:=
 if D.n=0 then 7 else if 12<D.n then 6 else if dck D.dm D.n≠0 then dck D.dm D.n else if tol D.dm D.n then 3 else if D.m≠D.n then 13
 else if fe (fun i=>opl (D.op i) (D.ol i)) D.m≠0 then fe (fun i=>opl (D.op i) (D.ol i)) D.m
 else if 4096<chn D.ol D.m∨16<D.q then 6 else fe (rqe D.n D.rq) D.q
def EDg (_:World) (d:Dmn) (vs:List Value):Prop:=vs=[ze3 d.nm,.int .i64 d.no,.int .i64 d.lo,.int .i64 d.up]
theorem zc7:zn8 EDg []:=fun _ _ _ _ _ h=>h
def ETr (_:World) (x:Int × List UInt8) (vs:List Value):Prop:=vs=[.int .i64 x.1,ze3 x.2]
theorem zv8:zn8 ETr []:=fun _ _ _ _ _ h=>h
def EXl (w:World) (x:Exl) (vs:List Value):Prop:=∃ (u:Value) (T:Nat) (ao:Option Addr) (cap:Nat),vs=[.int .i64 x.op,ze3 x.c,u,ze3 x.k,.slice ao x.na cap]∧Sl ETr T 2 w u (tb x.tm x.tn)
def ERg (w:World) (r:Rqg) (vs:List Value):Prop:=∃ (u:Value) (T:Nat) (v:Value) (S:Nat),vs=[ze3 r.nm,.int .i64 r.x.op,ze3 r.x.c,u,ze3 r.x.k,v,ze3 r.lo,ze3 r.hi]∧Sl ETr T 2 w u (tb r.x.tm r.x.tn)∧Sl EXl S 5 w v (tb r.ag r.x.na)
end Go.Proofs.YtjhflekncldflaaGreatDoor
namespace Go.Proofs.YtjhflekncldflaaGreatDoor
set_option maxRecDepth 100000
set_option maxHeartbeats 4000000
open Go.RowKit

theorem far_a {z:Int} (h:z< -1073741824):true=zg2 z:=by unfold zg2;simp [h]
theorem far_b {z:Int} (h:1073741824<z):true=zg2 z:=by unfold zg2;simp [h]
theorem far_c {z:Int} (h:¬ z< -1073741824):decide ((1073741824:Int)<z)=zg2 z:=by unfold zg2;simp [h]
theorem far_d {z:Int} (h:¬ 1073741824<z):decide (z<(-1073741824:Int))=zg2 z:=by unfold zg2;simp [h]
theorem zV3 {z:Int} {w:World}:
    Calls Tryz.prog 76 #[iT (z)] w fun e w'=>e=.returned (.bool (zg2 z))∧Gr w w':=by
 go_enter Tryz.func76,Tryz.ntmps76
 have hB:=Gr.refl w
 refine wp_seq_k (fun ae ac=>rg [0] (sv 2 (.bool false) ?_))
 refine za0 (ac _ _ ?_)
 refine wp_seq_k (fun ad aa=>rg [0,1,2,3,4,5,6] (sv 3 (iT (z)) ?_))
 refine sv 4 (.bool (decide (z<(-1073741824:Int)))) ?_
 rcases Bool.eq_false_or_eq_true (decide (z<(-1073741824:Int))) with hb12 | hb12
 ·refine sw 5 (.bool true) rfl (RunV.bool (x:=decide (z<(-1073741824:Int))) (rvk (by kernel_rfl)) hb12) ?_
  refine ss 6 ?_
  refine ss 7 ?_
  refine sv 8 (.bool true) ?_
  refine sv 2 (.bool true) (za0 (aa _ _ ?_))
  refine wp_ret ?_
  refine bodyPost_ret (v:=(.bool true)) (za3 rfl rfl) rfl ⟨?_,hB⟩
  exact congrArg (fun b=>Ending.returned (.bool b)) (by first | exact far_a (of_decide_eq_true (by assumption)) | exact far_b (of_decide_eq_true (by assumption)) | exact far_c (of_decide_eq_false (by assumption)) | exact far_d (of_decide_eq_false (by assumption)))
 refine sw 5 (.bool false) rfl (RunV.bool (x:=decide (z<(-1073741824:Int))) (rvk (by kernel_rfl)) hb12) ?_
 refine sv 6 (iT (z)) ?_
 refine sv 7 (.bool (decide ((1073741824:Int)<z))) ?_
 refine sv 8 (.bool (decide ((1073741824:Int)<z))) ?_
 refine sv 2 (.bool (decide ((1073741824:Int)<z))) (za0 (aa _ _ ?_))
 refine wp_ret ?_
 refine bodyPost_ret (v:=(.bool (decide ((1073741824:Int)<z)))) (za3 rfl rfl) rfl ⟨?_,hB⟩
 exact congrArg (fun b=>Ending.returned (.bool b)) (by first | exact far_a (of_decide_eq_true (by assumption)) | exact far_b (of_decide_eq_true (by assumption)) | exact far_c (of_decide_eq_false (by assumption)) | exact far_d (of_decide_eq_false (by assumption)))

theorem zI7 {z:Int} {w:World}:
    Calls Tryz.prog 71 #[iT (z)] w fun e w'=>e=.returned (.bool (zg2 z))∧Gr w w':=by
 go_enter Tryz.func71,Tryz.ntmps71
 have hB:=Gr.refl w
 refine wp_seq_k (fun ae ac=>rg [0] (sv 2 (.bool false) ?_))
 refine za0 (ac _ _ ?_)
 refine wp_seq_k (fun ad aa=>rg [0,1,2,3,4,5,6] (sv 3 (iT (z)) ?_))
 refine sv 4 (.bool (decide ((1073741824:Int)<z))) ?_
 rcases Bool.eq_false_or_eq_true (decide ((1073741824:Int)<z)) with hb12 | hb12
 ·refine sw 5 (.bool true) rfl (RunV.bool (x:=decide ((1073741824:Int)<z)) (rvk (by kernel_rfl)) hb12) ?_
  refine ss 6 ?_
  refine ss 7 ?_
  refine sv 8 (.bool true) ?_
  refine sv 2 (.bool true) (za0 (aa _ _ ?_))
  refine wp_ret ?_
  refine bodyPost_ret (v:=(.bool true)) (za3 rfl rfl) rfl ⟨?_,hB⟩
  exact congrArg (fun b=>Ending.returned (.bool b)) (by first | exact far_a (of_decide_eq_true (by assumption)) | exact far_b (of_decide_eq_true (by assumption)) | exact far_c (of_decide_eq_false (by assumption)) | exact far_d (of_decide_eq_false (by assumption)))
 refine sw 5 (.bool false) rfl (RunV.bool (x:=decide ((1073741824:Int)<z)) (rvk (by kernel_rfl)) hb12) ?_
 refine sv 6 (iT (z)) ?_
 refine sv 7 (.bool (decide (z<(-1073741824:Int)))) ?_
 refine sv 8 (.bool (decide (z<(-1073741824:Int)))) ?_
 refine sv 2 (.bool (decide (z<(-1073741824:Int)))) (za0 (aa _ _ ?_))
 refine wp_ret ?_
 refine bodyPost_ret (v:=(.bool (decide (z<(-1073741824:Int))))) (za3 rfl rfl) rfl ⟨?_,hB⟩
 exact congrArg (fun b=>Ending.returned (.bool b)) (by first | exact far_a (of_decide_eq_true (by assumption)) | exact far_b (of_decide_eq_true (by assumption)) | exact far_c (of_decide_eq_false (by assumption)) | exact far_d (of_decide_eq_false (by assumption)))

section
variable {m i:Nat} {p:Nat→Int × Int × Int}
theorem opl_7 (h:(m:Int)=0):7=opl p m:=by unfold opl;rw [if_pos (by omega)]
theorem opl_6 (h2:(8:Int)<(m:Int)):6=opl p m:=by unfold opl;rw [if_neg (by omega),if_pos (by omega)]
theorem opl_0 (h:¬ (m:Int)=0) (h2:¬ (8:Int)<(m:Int)) (hf:fe (fun k=>ope (p k)) m=0):0=opl p m:=by unfold opl;rw [if_neg (by omega),if_neg (by omega),hf]
theorem zV4 (h:¬ (m:Int)=0) (h2:¬ (8:Int)<(m:Int)) (hf:fe (fun k=>ope (p k)) i=0) (hi:i<m) {z:Int} (hz:ope (p i)=z) (h0:z≠0):z=opl p m:=by
 unfold opl;rw [if_neg (by omega),if_neg (by omega),zp8 hf hi hz h0]
theorem ope_2 {x:Int × Int × Int} (h:zg2 x.1=true∨zg2 x.2.1=true∨x.2.2<0∨1048576<x.2.2):ope x=2:=by unfold ope;rw [if_pos];rcases h with h | h | h | h<;>simp [h]
theorem ope_8 {x:Int × Int × Int} (h1:zg2 x.1=false) (h2:zg2 x.2.1=false) (h3:¬ x.2.2<0) (h4:¬ 1048576<x.2.2) (h:x.2.1<x.1):ope x=8:=by unfold ope;rw [if_neg (by simp [h1,h2];omega),if_pos h]
theorem ope_0 {x:Int × Int × Int} (h1:zg2 x.1=false) (h2:zg2 x.2.1=false) (h3:¬ x.2.2<0) (h4:¬ 1048576<x.2.2) (h:¬ x.2.1<x.1):ope x=0:=by unfold ope;rw [if_neg (by simp [h1,h2];omega),if_neg h]
end
theorem al_opts {m T:Nat} {p:Nat→Int × Int × Int} {v:Value} {w:World} (hv:Sl EOp T 3 w v (tb (fun z1=>(p z1)) m)):
    Calls Tryz.prog 44 #[v] w fun e w'=>e=.returned (iT (opl p m))∧Gr w w':=by
 go_enter Tryz.func44,Tryz.ntmps44
 have hB:=Gr.refl w
 refine wp_seq_k (fun a2 aF=>rg [0] (sv 2 (iT 0) ?_))
 refine za0 (aF _ _ ?_)
 refine wp_seq_k (fun aW aH=>?_)
 refine wp_block ?_
 refine wp_seq_k (fun aZ av=>rg [0,1,2,3] (sv 6 v ?_))
 refine sw 7 (iT (m:Int)) rfl (zb0 (e:=68) hv (za9 rfl) _ _ rfl rfl (by kernel_rfl)) ?_
 refine sv 8 (.bool ((m:Int)==(0:Int))) ?_
 refine sv 5 (.bool ((m:Int)==(0:Int))) (za0 (av _ _ ?_))
 refine wp_cond_split rfl (fun ae=>?_) (fun ae=>?_)
 ·have h7:(m:Int)=0:=beq_iff_eq.1 ae
  refine wp_seq_k (fun bg aw=>rg [0] (sv 2 (iT 7) ?_))
  refine za0 (aw _ _ ?_)
  refine wp_ret ?_
  simp only [Exit.then,Exit.inBlock]
  refine bodyPost_ret (v:=(iT 7)) (za3 rfl rfl) rfl ⟨?_,hB⟩
  exact congrArg (fun z=>Ending.returned (iT z)) (opl_7 h7)
 have h7:¬ ((m:Int)=0):=beq_eq_false_iff_ne.1 ae
 refine wp_seq_k (fun aV aP=>rg [0,1,2,3] (sv 10 v ?_))
 refine sw 11 (iT (m:Int)) rfl (zb0 (e:=68) hv (za9 rfl) _ _ rfl rfl (by kernel_rfl)) ?_
 refine sv 12 (.bool (decide ((8:Int)<(m:Int)))) ?_
 refine sv 9 (.bool (decide ((8:Int)<(m:Int)))) (za0 (aP _ _ ?_))
 refine wp_cond_split rfl (fun ai=>?_) (fun ai=>?_)
 ·have h6:(8:Int)<(m:Int):=of_decide_eq_true ai
  refine wp_seq_k (fun bq aB=>rg [0] (sv 2 (iT 6) ?_))
  refine za0 (aB _ _ ?_)
  refine wp_ret ?_
  simp only [Exit.then,Exit.inBlock]
  refine bodyPost_ret (v:=(iT 6)) (za3 rfl rfl) rfl ⟨?_,hB⟩
  exact congrArg (fun z=>Ending.returned (iT z)) (opl_6 h6)
 have h6:¬ ((8:Int)<(m:Int)):=of_decide_eq_false ai
 refine wp_skip ?_
 refine aH _ _ ?_
 refine wp_seq_k (fun aU aM=>wp_seq_k (fun a8 aG=>rg [0,1,2] (sv 13 v ?_)))
 refine sw 14 (iT (m:Int)) rfl (zb0 (e:=68) hv (za9 rfl) _ _ rfl rfl (by kernel_rfl)) ?_
 refine sv 15 (iT 0) (za0 (aG _ _ ?_))
 refine wp_block ?_
 refine zb1 (a:=⟨List.toArray ?l20,[]⟩) (fun n a w'=>∃ (i:Nat) (aa:Nat→Value),m - i=n∧a=⟨[v,undef,aa 2,undef,aa 4,.bool ((m:Int)==(0:Int)),aa 6,aa 7,aa 8,.bool (decide ((8:Int)<(m:Int))),aa 10,aa 11,aa 12,v,iT (m:Int),iT (i:Int),aa 16,aa 17,aa 18,aa 19,aa 20,aa 21,aa 22,aa 23,aa 24,aa 25,aa 26,aa 27,aa 28,aa 29,aa 30,aa 31,aa 32,aa 33,aa 34,aa 35,aa 36,aa 37,aa 38,aa 39,aa 40,aa 41,aa 42].toArray,[]⟩∧i≤m∧fe (fun k=>ope (p k)) i=0∧Gr w w') (m - 0) ?_ ?_
 ·exact ⟨0,(fun i=>List.getD ?l20 i undef),rfl,rfl,Nat.zero_le _,rfl,hB⟩
 rintro aX bm bk ⟨i,aa,rfl,rfl,hki,hf,hB⟩ a5 aD
 refine wp_seq_k (fun bb ar=>rg [0] (sv 16 (.bool (decide ((i:Int)<(m:Int)))) ?_))
 refine za0 (ar _ _ ?_)
 refine wp_seq_k (fun a3 aJ=>?_)
 refine wp_cond_split rfl (fun ad=>?_) (fun ad=>?_)
 ·have hli:i<m:=by have:=of_decide_eq_true ad;omega
  refine wp_skip ?_
  refine aJ _ _ ?_
  refine wp_seq_k (fun aS aQ=>?_)
  refine wp_block ?_
  refine wp_seq_k (fun bo aO=>rg [0,1,2,3] ?_)
  refine sw 17 (adr v (i*3)) rfl (zc0 (e:=68) hv za8 (by decide) i (by omega) _ _ _ rfl rfl rfl (by kernel_rfl) (by kernel_rfl)) ?_
  obtain ⟨_,_,rfl,al⟩:=Sl.get hv (by decide) (zc3 (f:=(fun z1=>(p z1))) (n:=m) (i:=i) (by omega))
  refine sw 18 (.agg #[iT ((p i).1),iT ((p i).2.1),iT ((p i).2.2)]) rfl (ze5 [iT ((p i).1),iT ((p i).2.1),iT ((p i).2.2)] (al.gr hB) _ _ rfl rfl (by kernel_rfl)) ?_
  refine se ?_
  refine ea 68 #[iT 0,iT 0,iT 0] 4 hB fun aj aR aT ac bh aE hB=>?_
  simp only [p3,p4]
  refine se ?_
  refine es 68 0 (.agg #[iT ((p i).1),iT ((p i).2.1),iT ((p i).2.2)]) [iT ((p i).1),iT ((p i).2.1),iT ((p i).2.2)] #[iT ((p i).1),iT ((p i).2.1),iT ((p i).2.2)] ac hB aE ⟨rfl,rfl,rfl,trivial⟩ fun ba aN az ac hB=>?_
  refine za0 (aO _ _ ?_)
  refine wp_seq_k (fun bi aC=>wp_seq_k (fun bj ak=>rg [0,1,2,3,4,5,6,7,8,9,10,11,12,13,14,15,16,17] (sv 19 (pT aj 0) ?_)))
  refine sw 20 (iT ((p i).1)) rfl (rk 3 0 ac) ?_
  refine se ?_
  refine ec 21 (zV3 (z:=(p i).1)) ?_
  rintro bn a4 ⟨rfl,aq⟩
  refine ⟨_,rfl,?_⟩
  replace hB:=hB.trans aq
  simp only [p3,p4]
  rcases Bool.eq_false_or_eq_true (zg2 ((p i).1)) with hb32 | hb32
  ·have h1:zg2 (p i).1=true:=hb32
   refine swk 22 (.bool true) [(4,23),(5,24),(6,25)] rfl (RunV.bool (x:=zg2 ((p i).1)) (rvk (by kernel_rfl)) hb32) ?_
   refine sv 26 (.bool true) ?_
   refine swk 27 (.bool true) [(9,28),(10,29),(11,30)] rfl (rvk (by kernel_rfl)) ?_
   refine sv 31 (.bool true) ?_
   refine swk 32 (.bool true) [(14,33),(15,34),(16,35)] rfl (rvk (by kernel_rfl)) ?_
   refine sv 36 (.bool true) (za0 (ak _ _ ?_))
   refine wp_cond_true rfl ?_
   refine wp_seq_k (fun bp ax=>rg [0] (sv 2 (iT 2) ?_))
   refine za0 (ax _ _ ?_)
   refine wp_ret ?_
   simp only [Exit.then,Exit.inBlock]
   refine bodyPost_ret (v:=(iT 2)) (za3 rfl rfl) rfl ⟨?_,hB⟩
   exact congrArg (fun z=>Ending.returned (iT z)) (zV4 h7 h6 hf hli (ope_2 (by first | exact .inl h1 | exact .inr (.inl h2) | exact .inr (.inr (.inl h3)) | exact .inr (.inr (.inr h4)))) (by decide))
  have h1:zg2 (p i).1=false:=hb32
  refine sw 22 (.bool false) rfl (RunV.bool (x:=zg2 ((p i).1)) (rvk (by kernel_rfl)) hb32) ?_
  refine sv 23 (pT aj 1) ?_
  replace ac:=ac.gr aq
  refine sw 24 (iT ((p i).2.1)) rfl (rk 3 1 ac) ?_
  refine se ?_
  refine ec 25 (zV3 (z:=(p i).2.1)) ?_
  rintro a9 bl ⟨rfl,ap⟩
  refine ⟨_,rfl,?_⟩
  replace hB:=hB.trans ap
  simp only [p3,p4]
  refine sv 26 (.bool (zg2 ((p i).2.1))) ?_
  rcases Bool.eq_false_or_eq_true (zg2 ((p i).2.1)) with hb35 | hb35
  ·have h2:zg2 (p i).2.1=true:=hb35
   refine swk 27 (.bool true) [(9,28),(10,29),(11,30)] rfl (RunV.bool (x:=zg2 ((p i).2.1)) (rvk (by kernel_rfl)) hb35) ?_
   refine sv 31 (.bool true) ?_
   refine swk 32 (.bool true) [(14,33),(15,34),(16,35)] rfl (rvk (by kernel_rfl)) ?_
   refine sv 36 (.bool true) (za0 (ak _ _ ?_))
   refine wp_cond_true rfl ?_
   refine wp_seq_k (fun a0 aL=>rg [0] (sv 2 (iT 2) ?_))
   refine za0 (aL _ _ ?_)
   refine wp_ret ?_
   simp only [Exit.then,Exit.inBlock]
   refine bodyPost_ret (v:=(iT 2)) (za3 rfl rfl) rfl ⟨?_,hB⟩
   exact congrArg (fun z=>Ending.returned (iT z)) (zV4 h7 h6 hf hli (ope_2 (by first | exact .inl h1 | exact .inr (.inl h2) | exact .inr (.inr (.inl h3)) | exact .inr (.inr (.inr h4)))) (by decide))
  have h2:zg2 (p i).2.1=false:=hb35
  refine sw 27 (.bool false) rfl (RunV.bool (x:=zg2 ((p i).2.1)) (rvk (by kernel_rfl)) hb35) ?_
  refine sv 28 (pT aj 2) ?_
  replace ac:=ac.gr ap
  refine sw 29 (iT ((p i).2.2)) rfl (rk 3 2 ac) ?_
  refine sv 30 (.bool (decide ((p i).2.2<(0:Int)))) ?_
  refine sv 31 (.bool (decide ((p i).2.2<(0:Int)))) ?_
  rcases Bool.eq_false_or_eq_true (decide ((p i).2.2<(0:Int))) with hb37 | hb37
  ·have h3:(p i).2.2<0:=of_decide_eq_true hb37
   refine swk 32 (.bool true) [(14,33),(15,34),(16,35)] rfl (RunV.bool (x:=decide ((p i).2.2<(0:Int))) (rvk (by kernel_rfl)) hb37) ?_
   refine sv 36 (.bool true) (za0 (ak _ _ ?_))
   refine wp_cond_true rfl ?_
   refine wp_seq_k (fun a6 ay=>rg [0] (sv 2 (iT 2) ?_))
   refine za0 (ay _ _ ?_)
   refine wp_ret ?_
   simp only [Exit.then,Exit.inBlock]
   refine bodyPost_ret (v:=(iT 2)) (za3 rfl rfl) rfl ⟨?_,hB⟩
   exact congrArg (fun z=>Ending.returned (iT z)) (zV4 h7 h6 hf hli (ope_2 (by first | exact .inl h1 | exact .inr (.inl h2) | exact .inr (.inr (.inl h3)) | exact .inr (.inr (.inr h4)))) (by decide))
  have h3:¬ ((p i).2.2<0):=of_decide_eq_false hb37
  refine sw 32 (.bool false) rfl (RunV.bool (x:=decide ((p i).2.2<(0:Int))) (rvk (by kernel_rfl)) hb37) ?_
  refine sv 33 (pT aj 2) ?_
  refine sw 34 (iT ((p i).2.2)) rfl (rk 3 2 ac) ?_
  refine sv 35 (.bool (decide ((1048576:Int)<(p i).2.2))) ?_
  refine sv 36 (.bool (decide ((1048576:Int)<(p i).2.2))) (za0 (ak _ _ ?_))
  refine wp_cond_split rfl (fun ah=>?_) (fun ah=>?_)
  ·have h4:1048576<(p i).2.2:=of_decide_eq_true ah
   refine wp_seq_k (fun a7 aI=>rg [0] (sv 2 (iT 2) ?_))
   refine za0 (aI _ _ ?_)
   refine wp_ret ?_
   simp only [Exit.then,Exit.inBlock]
   refine bodyPost_ret (v:=(iT 2)) (za3 rfl rfl) rfl ⟨?_,hB⟩
   exact congrArg (fun z=>Ending.returned (iT z)) (zV4 h7 h6 hf hli (ope_2 (by first | exact .inl h1 | exact .inr (.inl h2) | exact .inr (.inr (.inl h3)) | exact .inr (.inr (.inr h4)))) (by decide))
  have h4:¬ (1048576<(p i).2.2):=of_decide_eq_false ah
  refine wp_skip ?_
  refine aC _ _ ?_
  refine wp_seq_k (fun aY au=>rg [0,1,2,3,4] (sv 37 (pT aj 0) ?_))
  refine sw 38 (iT ((p i).1)) rfl (rk 3 0 ac) ?_
  refine sv 39 (pT aj 1) ?_
  refine sw 40 (iT ((p i).2.1)) rfl (rk 3 1 ac) ?_
  refine sv 41 (.bool (decide ((p i).2.1<(p i).1))) (za0 (au _ _ ?_))
  refine wp_cond_split rfl (fun af=>?_) (fun af=>?_)
  ·have h5:(p i).2.1<(p i).1:=of_decide_eq_true af
   refine wp_seq_k (fun a1 aK=>rg [0] (sv 2 (iT 8) ?_))
   refine za0 (aK _ _ ?_)
   refine wp_ret ?_
   simp only [Exit.then,Exit.inBlock]
   refine bodyPost_ret (v:=(iT 8)) (za3 rfl rfl) rfl ⟨?_,hB⟩
   exact congrArg (fun z=>Ending.returned (iT z)) (zV4 h7 h6 hf hli (ope_8 h1 h2 h3 h4 h5) (by decide))
  have h5:¬ ((p i).2.1<(p i).1):=of_decide_eq_false af
  refine wp_skip ?_
  refine aQ _ _ ?_
  refine rg [0,1] ?_
  refine sw 42 (iT ((i:Int)+1)) rfl (rwI ((i:Int)+1)) ?_
  refine sv 15 (iT ((i:Int)+1)) ?_
  refine za0 ?_
  refine aD (m - (i+1)) ⟨List.toArray ?l44,[]⟩ _ (by omega) ?_
  exact ⟨i+1,(fun i=>List.getD ?l44 i undef),rfl,rfl,(by omega),zQ0 hf (ope_0 h1 h2 h3 h4 h5),hB⟩
 have hei:m=i:=by have:=of_decide_eq_false ad;omega
 subst hei
 refine wp_exit ?_
 simp only [Exit.then,Exit.inBlock,↓reduceIte]
 refine aM _ _ ?_
 refine wp_seq_k (fun bf aA=>rg [0] (sv 2 (iT 0) ?_))
 refine za0 (aA _ _ ?_)
 refine wp_ret ?_
 refine bodyPost_ret (v:=(iT 0)) (za3 rfl rfl) rfl ⟨?_,hB⟩
 exact congrArg (fun z=>Ending.returned (iT z)) (opl_0 h7 h6 hf)

theorem zV5 (X:List UInt8) (w:World):
  Calls Tryz.prog 98 #[.string ⟨X.toArray⟩,.func (.func 99) #[] #[]] w fun e w'=>e=.returned (.bool (decide (0≤Lib.idxFunc (fun x=>decide (x<33)||decide (126<x)) true ⟨X.toArray⟩)))∧Gr w w':=by
 refine (Tryz.strings_ContainsFunc 99 #[] (enters_of Tryz.func99 (by kernel_rfl) rfl) (fun x=>decide (x<33)||decide (126<x)) ⟨X.toArray⟩ w (fun W x _=>noname x W)).mono ?_
 rintro e w1 ⟨he,hb⟩
 exact ⟨he,hb⟩
section
variable {X:List UInt8}
theorem nm_a (h:¬ (0:Int)<(X.length:Int)):false=isNm X:=by unfold isNm;rw [show decide (0<X.length)=false from decide_eq_false (by omega)];rfl
theorem nm_b (h2:¬ (X.length:Int)≤(40:Int)):false=isNm X:=by unfold isNm;rw [show decide (X.length≤40)=false from decide_eq_false (by omega),Bool.false_and,Bool.and_false]
theorem nm_c (h:(0:Int)<(X.length:Int)) (h2:(X.length:Int)≤(40:Int)) {b:Bool} (hb:decide (0≤Lib.idxFunc (fun x=>decide (x<33)||decide (126<x)) true ⟨X.toArray⟩)=b):(!b)=isNm X:=by
 unfold isNm;rw [show decide (0<X.length)=true from decide_eq_true (by omega),show decide (X.length≤40)=true from decide_eq_true (by omega),hb];rfl
end
theorem zV6 {X:List UInt8} {w:World}:
    Calls Tryz.prog 70 #[sV X] w fun e w'=>e=.returned (.bool (isNm X))∧Gr w w':=by
 go_enter Tryz.func70,Tryz.ntmps70
 have hB:=Gr.refl w
 refine wp_seq_k (fun ap ac=>rg [0] (sv 2 (.bool false) ?_))
 refine za0 (ac _ _ ?_)
 refine wp_seq_k (fun ak aa=>rg [0,1,2,3,4,5,6,7,8,9,10,11,12,13] (sv 3 (sV X) ?_))
 refine sv 4 (iT ((X).length:Int)) ?_
 refine sv 5 (.bool (decide ((0:Int)<((X).length:Int)))) ?_
 rcases Bool.eq_false_or_eq_true (decide ((0:Int)<((X).length:Int))) with hb12 | hb12
 ·have ai:((0:Int)<((X).length:Int)):=of_decide_eq_true hb12
  refine sw 6 (.bool true) rfl (RunV.bool (x:=decide ((0:Int)<((X).length:Int))) (rvk (by kernel_rfl)) hb12) ?_
  refine sv 7 (sV X) ?_
  refine sv 8 (iT ((X).length:Int)) ?_
  refine sv 9 (.bool (decide (((X).length:Int)≤(40:Int)))) ?_
  refine sv 10 (.bool (decide (((X).length:Int)≤(40:Int)))) ?_
  rcases Bool.eq_false_or_eq_true (decide (((X).length:Int)≤(40:Int))) with hb14 | hb14
  ·have ah:(((X).length:Int)≤(40:Int)):=of_decide_eq_true hb14
   refine sw 11 (.bool true) rfl (RunV.bool (x:=decide (((X).length:Int)≤(40:Int))) (rvk (by kernel_rfl)) hb14) ?_
   refine sv 12 (sV X) ?_
   refine se ?_
   refine ec 13 (zV5 X _) ?_
   rintro aj al ⟨rfl,ae⟩
   refine ⟨_,rfl,?_⟩
   replace hB:=hB.trans ae
   simp only [p3,p4]
   refine sv 14 (.bool (!(decide (0≤Lib.idxFunc (fun x=>decide (x<33)||decide (126<x)) true ⟨X.toArray⟩)))) ?_
   refine sv 15 (.bool (!(decide (0≤Lib.idxFunc (fun x=>decide (x<33)||decide (126<x)) true ⟨X.toArray⟩)))) ?_
   refine sv 2 (.bool (!(decide (0≤Lib.idxFunc (fun x=>decide (x<33)||decide (126<x)) true ⟨X.toArray⟩)))) (za0 (aa _ _ ?_))
   refine wp_ret ?_
   refine bodyPost_ret (v:=(.bool (!(decide (0≤Lib.idxFunc (fun x=>decide (x<33)||decide (126<x)) true ⟨X.toArray⟩))))) (za3 rfl rfl) rfl ⟨?_,hB⟩
   exact congrArg (fun b=>Ending.returned (.bool b)) (by first | exact nm_a (by assumption) | exact nm_b (by assumption) | exact nm_c (by assumption) (by assumption) rfl | exact nm_c (by assumption) (by assumption) (by assumption))
  have ad:¬ (((X).length:Int)≤(40:Int)):=of_decide_eq_false hb14
  refine sw 11 (.bool false) rfl (RunV.bool (x:=decide (((X).length:Int)≤(40:Int))) (rvk (by kernel_rfl)) hb14) ?_
  refine ss 12 ?_
  refine ss 13 ?_
  refine ss 14 ?_
  refine sv 15 (.bool false) ?_
  refine sv 2 (.bool false) (za0 (aa _ _ ?_))
  refine wp_ret ?_
  refine bodyPost_ret (v:=(.bool false)) (za3 rfl rfl) rfl ⟨?_,hB⟩
  exact congrArg (fun b=>Ending.returned (.bool b)) (by first | exact nm_a (by assumption) | exact nm_b (by assumption) | exact nm_c (by assumption) (by assumption) rfl | exact nm_c (by assumption) (by assumption) (by assumption))
 have af:¬ ((0:Int)<((X).length:Int)):=of_decide_eq_false hb12
 refine sw 6 (.bool false) rfl (RunV.bool (x:=decide ((0:Int)<((X).length:Int))) (rvk (by kernel_rfl)) hb12) ?_
 refine ss 7 ?_
 refine ss 8 ?_
 refine ss 9 ?_
 refine sv 10 (.bool false) ?_
 refine sv 11 (.bool false) ?_
 refine ss 12 ?_
 refine ss 13 ?_
 refine ss 14 ?_
 refine sv 15 (.bool false) ?_
 refine sv 2 (.bool false) (za0 (aa _ _ ?_))
 refine wp_ret ?_
 refine bodyPost_ret (v:=(.bool false)) (za3 rfl rfl) rfl ⟨?_,hB⟩
 exact congrArg (fun b=>Ending.returned (.bool b)) (by first | exact nm_a (by assumption) | exact nm_b (by assumption) | exact nm_c (by assumption) (by assumption) rfl | exact nm_c (by assumption) (by assumption) (by assumption))

end Go.Proofs.YtjhflekncldflaaGreatDoor
namespace Go.Proofs.YtjhflekncldflaaGreatDoor
set_option maxRecDepth 100000
set_option maxHeartbeats 4000000
open Go.RowKit

def zw1 (p:Nat→Bool) (n:Nat):Int:=match (List.range n).find? p with | some i=>(i:Int) | none=>-1
theorem zE4 {p:Nat→Bool} {n k:Nat} (hk:k<n) (h:p k=true) (hn:∀ j,j<k→p j=false):(k:Int)=zw1 p n:=by
 unfold zw1
 cases e:(List.range n).find? p with
 | none=>have:=List.find?_eq_none.1 e k (List.mem_range.2 hk);rw [h] at this;simp at this
 | some i=>
  have h1:=List.find?_some e
  obtain ⟨_,l1,l2,e2,h3⟩:=List.find?_eq_some_iff_append.1 e
  have hlen:l1.length=i:=by
   have h4:(List.range n)[l1.length]?=some i:=by rw [e2];simp
   rw [List.getElem?_range (by have:=(List.getElem?_eq_some_iff.1 h4).1;simpa using this)] at h4
   exact Option.some.inj h4
  rcases Nat.lt_trichotomy k i with h5 | h5 | h5
  ·have hm:k ∈ l1:=by
    have h6:(List.range n)[k]?=some k:=List.getElem?_range hk
    rw [e2,List.getElem?_append_left (by omega)] at h6
    exact List.mem_of_getElem? h6
   have:=h3 k hm
   rw [h] at this;simp at this
  ·rw [h5]
  rw [hn i h5] at h1;cases h1
theorem zE5 {p:Nat→Bool} {n:Nat} (hn:∀ j,j<n→p j=false):-1=zw1 p n:=by
 unfold zw1
 rw [List.find?_eq_none.2 fun j hj=>by rw [hn j (List.mem_range.1 hj)];decide]
theorem zM5 {p:Nat→Bool} {n:Nat}:decide ((0:Int)≤zw1 p n)=(List.range n).any p:=by
 unfold zw1
 cases e:(List.range n).find? p with
 | none=>
  rw [List.any_eq_false.2 fun j hj=>by have:=List.find?_eq_none.1 e j hj;exact this]
  rfl
 | some i=>
  rw [List.any_eq_true.2 ⟨i,List.mem_of_find?_eq_some e,List.find?_some e⟩]
  simp
theorem zV7 {q:Nat→Prop} {k:Nat} (h:∀ j,j<k→q j) (hk:q k):∀ j,j<k+1→q j:=fun j hj=>by
 rcases Nat.lt_or_eq_of_le (Nat.le_of_lt_succ hj) with h1 | rfl
 ·exact h j h1
 exact hk
theorem di_find1 {x:Dmn} {Y:List UInt8} {bq:Nat} {w:World} (hL:Lc w bq #[.string ⟨Y.toArray⟩] 9):
    Calls Tryz.prog 100 #[.agg #[sV x.nm,iT (x.no),iT (x.lo),iT (x.up)],pT bq 0] w fun e w'=>e=.returned (.bool (x.nm==Y))∧Gr w w':=by
 go_enter Tryz.func100,Tryz.ntmps100
 have hB:=Gr.refl w
 refine wp_seq_k (fun ah ac=>rg [0,1] ?_)
 refine se ?_
 refine eb 71 #[sV x.nm,iT (x.no),iT (x.lo),iT (x.up)] 2 hB fun aa aj af ad ai ak hB=>?_
 simp only [p3,p4]
 refine sv 3 (.bool false) (za0 (ac _ _ ?_))
 refine wp_seq_k (fun al ae=>rg [0,1,2,3,4] (sv 4 (pT aa 0) ?_))
 refine sw 5 (sV x.nm) rfl (rk 9 0 ad) ?_
 replace hL:=hL.gr af
 refine sw 6 (sV Y) rfl (rk 9 0 hL) ?_
 refine sw 7 (.bool ((x.nm)==(Y))) rfl (zi9 9 9 _ _ (x.nm) (Y) rfl rfl rfl) ?_
 refine sv 3 (.bool ((x.nm)==(Y))) (za0 (ae _ _ ?_))
 refine wp_ret ?_
 refine bodyPost_ret (v:=(.bool ((x.nm)==(Y)))) (za3 rfl rfl) rfl ⟨?_,hB⟩
 exact rfl

theorem di_idxf {N T:Nat} (_hN:N≤1000) {dm:Nat→Dmn} {Y:List UInt8} {bq:Nat} {v:Value} {w:World} (hL:Lc w bq #[.string ⟨Y.toArray⟩] 9) (hv:Sl EDg T 4 w v (tb (fun z1=>(dm z1)) N)):
    Calls Tryz.prog 75 #[v,(.func (.func 100) #[] #[pT bq 0])] w fun e w'=>e=.returned (iT (zw1 (fun j=>(dm j).nm==Y) N))∧Gr w w':=by
 go_enter Tryz.func75,Tryz.ntmps75
 have hB:=Gr.refl w
 refine wp_seq_k (fun aH ah=>rg [0] (sv 4 (iT 0) ?_))
 refine za0 (ah _ _ ?_)
 refine wp_seq_k (fun aD ai=>wp_seq_k (fun aE aj=>rg [0,1,2] (sv 6 v ?_)))
 refine sw 7 (iT (N:Int)) rfl (zb0 (e:=71) hv (za9 rfl) _ _ rfl rfl (by kernel_rfl)) ?_
 refine sv 8 (iT 0) (za0 (aj _ _ ?_))
 refine wp_block ?_
 refine zb1 (a:=⟨List.toArray ?l13,[]⟩) (fun n a w'=>∃ (k:Nat) (aa:Nat→Value),N - k=n∧a=⟨[v,(.func (.func 100) #[] #[pT bq 0]),undef,undef,aa 4,aa 5,aa 6,iT (N:Int),iT (k:Int),aa 9,aa 10,aa 11,aa 12,aa 13,aa 14,aa 15,aa 16,aa 17,aa 18].toArray,[]⟩∧k≤N∧(∀ j,j<k→((dm j).nm==Y)=false)∧Lc w' bq #[sV Y] 9∧Gr w w') (N - 0) ?_ ?_
 ·exact ⟨0,(fun i=>List.getD ?l13 i undef),rfl,rfl,Nat.zero_le _,(fun j h=>absurd h (Nat.not_lt_zero j)),hL,hB⟩
 rintro aB aL aK ⟨k,aa,rfl,rfl,hkk,hf,hL,hB⟩ aC aw
 refine wp_seq_k (fun aF al=>rg [0] (sv 9 (.bool (decide ((k:Int)<(N:Int)))) ?_))
 refine za0 (al _ _ ?_)
 refine wp_seq_k (fun az au=>?_)
 refine wp_cond_split rfl (fun ac=>?_) (fun ac=>?_)
 ·have hlk:k<N:=by have:=of_decide_eq_true ac;omega
  refine wp_skip ?_
  refine au _ _ ?_
  refine wp_seq_k (fun aG av=>?_)
  refine wp_block ?_
  refine wp_seq_k (fun ay ap=>rg [0,1] (sv 10 (iT (k:Int)) ?_))
  refine sv 5 (iT (k:Int)) (za0 (ap _ _ ?_))
  refine wp_seq_k (fun aA ak=>rg [0,1,2,3,4,5] (sv 11 (.func (.func 100) #[] #[pT bq 0]) ?_))
  refine sv 12 v ?_
  refine sv 13 (iT (k:Int)) ?_
  refine sw 14 (adr v (k*4)) rfl (zc0 (e:=71) hv za8 (by decide) k (by omega) _ _ _ rfl rfl rfl (by kernel_rfl) (by kernel_rfl)) ?_
  obtain ⟨_,_,rfl,ae⟩:=Sl.get hv (by decide) (zc3 (f:=(fun z1=>(dm z1))) (n:=N) (i:=k) (by omega))
  refine sw 15 (.agg #[sV ((dm k).nm),iT ((dm k).no),iT ((dm k).lo),iT ((dm k).up)]) rfl (ze5 [sV ((dm k).nm),iT ((dm k).no),iT ((dm k).lo),iT ((dm k).up)] (ae.gr hB) _ _ rfl rfl (by kernel_rfl)) ?_
  refine se ?_
  refine ec 16 (di_find1 (x:=(dm k)) hL) ?_
  rintro aI ax ⟨rfl,af⟩
  refine ⟨_,rfl,?_⟩
  replace hB:=hB.trans af
  simp only [p3,p4]
  refine za0 (ak _ _ ?_)
  refine wp_cond_split rfl (fun ad=>?_) (fun ad=>?_)
  ·have hn:((dm k).nm==Y)=true:=ad
   refine wp_seq_k (fun aM ar=>rg [0,1] (sv 17 (iT (k:Int)) ?_))
   refine sv 4 (iT (k:Int)) (za0 (ar _ _ ?_))
   refine wp_ret ?_
   simp only [Exit.then,Exit.inBlock]
   refine bodyPost_ret (v:=(iT (k:Int))) (za3 rfl rfl) rfl ⟨?_,hB⟩
   exact congrArg (fun z=>Ending.returned (iT z)) (zE4 (p:=(fun j=>(dm j).nm==Y)) hlk hn hf)
  have hn:((dm k).nm==Y)=false:=ad
  refine wp_skip ?_
  refine av _ _ ?_
  refine rg [0,1] ?_
  refine sw 18 (iT ((k:Int)+1)) rfl (rwI ((k:Int)+1)) ?_
  refine sv 8 (iT ((k:Int)+1)) ?_
  refine za0 ?_
  replace hL:=hL.gr af
  refine aw (N - (k+1)) ⟨List.toArray ?l24,[]⟩ _ (by omega) ?_
  exact ⟨k+1,(fun i=>List.getD ?l24 i undef),rfl,rfl,(by omega),zV7 hf hn,hL,hB⟩
 have hek:N=k:=by have:=of_decide_eq_false ac;omega
 subst hek
 refine wp_exit ?_
 simp only [Exit.then,Exit.inBlock,↓reduceIte]
 refine ai _ _ ?_
 refine wp_seq_k (fun aJ aq=>rg [0] (sv 4 (iT (-1)) ?_))
 refine za0 (aq _ _ ?_)
 refine wp_ret ?_
 refine bodyPost_ret (v:=(iT (-1))) (za3 rfl rfl) rfl ⟨?_,hB⟩
 exact congrArg (fun z=>Ending.returned (iT z)) (zE5 (p:=(fun j=>(dm j).nm==Y)) hf)

theorem di_findg {N T:Nat} (hN:N≤1000) {dm:Nat→Dmn} {Y:List UInt8} {v:Value} {w:World} (hv:Sl EDg T 4 w v (tb (fun z1=>(dm z1)) N)):
    Calls Tryz.prog 72 #[v,sV Y] w fun e w'=>(∃ z:Int,e=.returned (.tuple #[iT z,.bool (zg4 (fun j=>(dm j).nm) N Y)]))∧Gr w w':=by
 go_enter Tryz.func72,Tryz.ntmps72
 have hB:=Gr.refl w
 refine wp_seq_k (fun aj aa=>rg [0,1,2] ?_)
 refine se ?_
 refine zy0 9 _ (sV Y) #[sV Y] (some 3) rfl rfl rfl rfl (fun ac ak ah ad al=>?_)
 replace hB:=hB.trans ah
 simp only [zd1,p3,p4]
 refine sv 4 (iT 0) ?_
 refine sv 5 (.bool false) (za0 (aa _ _ ?_))
 refine wp_seq_k (fun aq ae=>rg [0,1,2,3] (sv 7 v ?_))
 refine sv 8 (.func (.func 100) #[] #[pT ac 0]) ?_
 refine se ?_
 refine ec 9 (di_idxf (Y:=Y) hN ad (hv.gr zc7 hB)) ?_
 rintro ap ar ⟨rfl,ai⟩
 refine ⟨_,rfl,?_⟩
 replace hB:=hB.trans ai
 simp only [p3,p4]
 refine sv 6 (iT (zw1 (fun j=>(dm j).nm==Y) N)) (za0 (ae _ _ ?_))
 refine wp_seq_k (fun au af=>rg [0,1,2,3,4,5] (sv 10 (iT (zw1 (fun j=>(dm j).nm==Y) N)) ?_))
 refine sv 11 (iT (if 0>zw1 (fun j=>(dm j).nm==Y) N then 0 else zw1 (fun j=>(dm j).nm==Y) N)) ?_
 refine sv 12 (iT (zw1 (fun j=>(dm j).nm==Y) N)) ?_
 refine sv 13 (.bool (decide ((0:Int)≤zw1 (fun j=>(dm j).nm==Y) N))) ?_
 refine sv 4 (iT (if 0>zw1 (fun j=>(dm j).nm==Y) N then 0 else zw1 (fun j=>(dm j).nm==Y) N)) ?_
 refine sv 5 (.bool (decide ((0:Int)≤zw1 (fun j=>(dm j).nm==Y) N))) (za0 (af _ _ ?_))
 refine wp_ret ?_
 refine bodyPost_ret (v:=(.tuple #[iT (if 0>zw1 (fun j=>(dm j).nm==Y) N then 0 else zw1 (fun j=>(dm j).nm==Y) N),.bool (decide ((0:Int)≤zw1 (fun j=>(dm j).nm==Y) N))])) (zg5 rfl rfl rfl) rfl ⟨?_,hB⟩
 exact ⟨_,congrArg (fun b=>Ending.returned (.tuple #[_,.bool b])) zM5⟩

section
variable {dm:Nat→Dmn} {i N:Nat}
theorem dke_11 (h:isNm (dm i).nm=false):dke dm i=11:=by unfold dke;rw [if_pos h]
theorem dke_2 (h:isNm (dm i).nm=true) (h2:zg2 (dm i).no=true∨zg2 (dm i).lo=true∨zg2 (dm i).up=true):dke dm i=2:=by
 unfold dke;rw [if_neg (by rw [h];decide),if_pos];rcases h2 with h2 | h2 | h2<;>simp [h2]
theorem dke_8 (h:isNm (dm i).nm=true) (h1:zg2 (dm i).no=false) (h2:zg2 (dm i).lo=false) (h3:zg2 (dm i).up=false) (h4:(dm i).up<(dm i).lo):dke dm i=8:=by
 unfold dke;rw [if_neg (by rw [h];decide),if_neg (by simp [h1,h2,h3]),if_pos h4]
theorem dke_9 (h:isNm (dm i).nm=true) (h1:zg2 (dm i).no=false) (h2:zg2 (dm i).lo=false) (h3:zg2 (dm i).up=false) (h4:¬ (dm i).up<(dm i).lo) (h5:zg4 (fun j=>(dm j).nm) i (dm i).nm=true):dke dm i=9:=by
 unfold dke;rw [if_neg (by rw [h];decide),if_neg (by simp [h1,h2,h3]),if_neg h4,if_pos h5]
theorem dke_0 (h:isNm (dm i).nm=true) (h1:zg2 (dm i).no=false) (h2:zg2 (dm i).lo=false) (h3:zg2 (dm i).up=false) (h4:¬ (dm i).up<(dm i).lo) (h5:zg4 (fun j=>(dm j).nm) i (dm i).nm=false):dke dm i=0:=by
 unfold dke;rw [if_neg (by rw [h];decide),if_neg (by simp [h1,h2,h3]),if_neg h4,if_neg (by rw [h5];decide)]
theorem dck_6 (h:(64:Int)<(N:Int)):6=dck dm N:=by unfold dck;rw [if_pos (by omega)]
theorem zQ7 (h:¬ (64:Int)<(N:Int)) (hf:fe (dke dm) i=0) (hi:i<N) {z:Int} (hz:dke dm i=z) (h0:z≠0):z=dck dm N:=by unfold dck;rw [if_neg (by omega),zp8 hf hi hz h0]
theorem dck_0 (h:¬ (64:Int)<(N:Int)) (hf:fe (dke dm) N=0):0=dck dm N:=by unfold dck;rw [if_neg (by omega),hf]
end
theorem di_chk {N T:Nat} {dm:Nat→Dmn} {v:Value} {w:World} (hv:Sl EDg T 4 w v (tb (fun z1=>(dm z1)) N)):
    Calls Tryz.prog 39 #[v] w fun e w'=>e=.returned (iT (dck dm N))∧Gr w w':=by
 go_enter Tryz.func39,Tryz.ntmps39
 have hB:=Gr.refl w
 refine wp_seq_k (fun bg aN=>rg [0] (sv 2 (iT 0) ?_))
 refine za0 (aN _ _ ?_)
 refine wp_seq_k (fun a9 aP=>wp_seq_k (fun bb aD=>rg [0,1,2] (sv 7 v ?_)))
 refine sw 8 (iT (N:Int)) rfl (zb0 (e:=71) hv (za9 rfl) _ _ rfl rfl (by kernel_rfl)) ?_
 refine sv 9 (.bool (decide ((64:Int)<(N:Int)))) (za0 (aD _ _ ?_))
 refine wp_cond_split rfl (fun ah=>?_) (fun ah=>?_)
 ·have h6:(64:Int)<(N:Int):=of_decide_eq_true ah
  refine wp_seq_k (fun bC aF=>rg [0] (sv 2 (iT 6) ?_))
  refine za0 (aF _ _ ?_)
  refine wp_ret ?_
  simp only [Exit.then]
  refine bodyPost_ret (v:=(iT 6)) (za3 rfl rfl) rfl ⟨?_,hB⟩
  exact congrArg (fun z=>Ending.returned (iT z)) (dck_6 h6)
 have h6:¬ ((64:Int)<(N:Int)):=of_decide_eq_false ah
 refine wp_skip ?_
 refine aP _ _ ?_
 refine wp_seq_k (fun a5 aX=>wp_seq_k (fun bG aH=>rg [0,1,2] (sv 10 v ?_)))
 refine sw 11 (iT (N:Int)) rfl (zb0 (e:=71) hv (za9 rfl) _ _ rfl rfl (by kernel_rfl)) ?_
 refine sv 12 (iT 0) (za0 (aH _ _ ?_))
 refine wp_block ?_
 refine zb1 (a:=⟨List.toArray ?l17,[]⟩) (fun n a w'=>∃ (i:Nat) (aa:Nat→Value),N - i=n∧a=⟨[v,undef,aa 2,aa 3,aa 4,aa 5,aa 6,aa 7,aa 8,.bool (decide ((64:Int)<(N:Int))),v,iT (N:Int),iT (i:Int),aa 13,aa 14,aa 15,aa 16,aa 17,aa 18,aa 19,aa 20,aa 21,aa 22,aa 23,aa 24,aa 25,aa 26,aa 27,aa 28,aa 29,aa 30,aa 31,aa 32,aa 33,aa 34,aa 35,aa 36,aa 37,aa 38,aa 39,aa 40,aa 41,aa 42,aa 43,aa 44,aa 45,aa 46,aa 47,aa 48,aa 49,aa 50,aa 51,aa 52].toArray,[]⟩∧i≤N∧fe (dke dm) i=0∧Gr w w') (N - 0) ?_ ?_
 ·exact ⟨0,(fun i=>List.getD ?l17 i undef),rfl,rfl,Nat.zero_le _,rfl,hB⟩
 rintro bp bm bJ ⟨i,aa,rfl,rfl,hki,hf,hB⟩ bI aL
 refine wp_seq_k (fun a4 aV=>rg [0] (sv 13 (.bool (decide ((i:Int)<(N:Int)))) ?_))
 refine za0 (aV _ _ ?_)
 refine wp_seq_k (fun bt aO=>?_)
 refine wp_cond_split rfl (fun af=>?_) (fun af=>?_)
 ·have hli:i<N:=by have:=of_decide_eq_true af;omega
  refine wp_skip ?_
  refine aO _ _ ?_
  refine wp_seq_k (fun bB aA=>?_)
  refine wp_block ?_
  refine wp_seq_k (fun bj aS=>rg [0,1,2,3,4,5] (sv 14 (iT (i:Int)) ?_))
  refine sw 15 (adr v (i*4)) rfl (zc0 (e:=71) hv za8 (by decide) i (by omega) _ _ _ rfl rfl rfl (by kernel_rfl) (by kernel_rfl)) ?_
  obtain ⟨_,_,rfl,au⟩:=Sl.get hv (by decide) (zc3 (f:=(fun z1=>(dm z1))) (n:=N) (i:=i) (by omega))
  refine sw 16 (.agg #[sV ((dm i).nm),iT ((dm i).no),iT ((dm i).lo),iT ((dm i).up)]) rfl (ze5 [sV ((dm i).nm),iT ((dm i).no),iT ((dm i).lo),iT ((dm i).up)] (au.gr hB) _ _ rfl rfl (by kernel_rfl)) ?_
  refine se ?_
  refine ea 71 #[sV [],iT 0,iT 0,iT 0] 4 hB fun ad br bv ac a1 aI hB=>?_
  simp only [p3,p4]
  refine sv 3 (iT (i:Int)) ?_
  refine se ?_
  refine es 71 0 (.agg #[sV ((dm i).nm),iT ((dm i).no),iT ((dm i).lo),iT ((dm i).up)]) [sV ((dm i).nm),iT ((dm i).no),iT ((dm i).lo),iT ((dm i).up)] #[sV ((dm i).nm),iT ((dm i).no),iT ((dm i).lo),iT ((dm i).up)] ac hB aI ⟨rfl,rfl,rfl,rfl,trivial⟩ fun a8 aW aU ac hB=>?_
  refine za0 (aS _ _ ?_)
  refine wp_seq_k (fun bu aK=>?_)
  refine wp_block ?_
  refine wp_seq_k (fun a3 aZ=>rg [0,1,2,3,4] (sv 18 (pT ad 0) ?_))
  refine sw 19 (sV ((dm i).nm)) rfl (rk 9 0 ac) ?_
  refine se ?_
  refine ec 20 (zV6 (X:=(dm i).nm)) ?_
  rintro bK bw ⟨rfl,az⟩
  refine ⟨_,rfl,?_⟩
  replace hB:=hB.trans az
  simp only [p3,p4]
  refine sv 21 (.bool (!(isNm ((dm i).nm)))) ?_
  refine sv 17 (.bool (!(isNm ((dm i).nm)))) (za0 (aZ _ _ ?_))
  refine wp_cond_split rfl (fun ak=>?_) (fun ak=>?_)
  ·have hnm:isNm (dm i).nm=false:=by simpa using ak
   refine wp_seq_k (fun bD aJ=>rg [0] (sv 2 (iT 11) ?_))
   refine za0 (aJ _ _ ?_)
   refine wp_ret ?_
   simp only [Exit.then,Exit.inBlock]
   refine bodyPost_ret (v:=(iT 11)) (za3 rfl rfl) rfl ⟨?_,hB⟩
   exact congrArg (fun z=>Ending.returned (iT z)) (zQ7 h6 hf hli (dke_11 hnm) (by decide))
  have hnm:isNm (dm i).nm=true:=by simpa using ak
  refine wp_seq_k (fun bn ar=>rg [0,1,2,3,4,5,6,7,8,9,10,11,12,13] (sv 23 (pT ad 1) ?_))
  replace ac:=ac.gr az
  refine sw 24 (iT ((dm i).no)) rfl (rk 3 1 ac) ?_
  refine se ?_
  refine ec 25 (zI7 (z:=(dm i).no)) ?_
  rintro bh bF ⟨rfl,ax⟩
  refine ⟨_,rfl,?_⟩
  replace hB:=hB.trans ax
  simp only [p3,p4]
  rcases Bool.eq_false_or_eq_true (zg2 ((dm i).no)) with hb33 | hb33
  ·have h1:zg2 (dm i).no=true:=hb33
   refine swk 26 (.bool true) [(4,27),(5,28),(6,29)] rfl (RunV.bool (x:=zg2 ((dm i).no)) (rvk (by kernel_rfl)) hb33) ?_
   refine sv 30 (.bool true) ?_
   refine swk 31 (.bool true) [(9,32),(10,33),(11,34)] rfl (rvk (by kernel_rfl)) ?_
   refine sv 35 (.bool true) ?_
   refine sv 22 (.bool true) (za0 (ar _ _ ?_))
   refine wp_cond_true rfl ?_
   refine wp_seq_k (fun bi aM=>rg [0] (sv 2 (iT 2) ?_))
   refine za0 (aM _ _ ?_)
   refine wp_ret ?_
   simp only [Exit.then,Exit.inBlock]
   refine bodyPost_ret (v:=(iT 2)) (za3 rfl rfl) rfl ⟨?_,hB⟩
   exact congrArg (fun z=>Ending.returned (iT z)) (zQ7 h6 hf hli (dke_2 hnm (by first | exact .inl h1 | exact .inr (.inl h2) | exact .inr (.inr h3))) (by decide))
  have h1:zg2 (dm i).no=false:=hb33
  refine sw 26 (.bool false) rfl (RunV.bool (x:=zg2 ((dm i).no)) (rvk (by kernel_rfl)) hb33) ?_
  refine sv 27 (pT ad 2) ?_
  replace ac:=ac.gr ax
  refine sw 28 (iT ((dm i).lo)) rfl (rk 3 2 ac) ?_
  refine se ?_
  refine ec 29 (zI7 (z:=(dm i).lo)) ?_
  rintro bA bq ⟨rfl,av⟩
  refine ⟨_,rfl,?_⟩
  replace hB:=hB.trans av
  simp only [p3,p4]
  refine sv 30 (.bool (zg2 ((dm i).lo))) ?_
  rcases Bool.eq_false_or_eq_true (zg2 ((dm i).lo)) with hb36 | hb36
  ·have h2:zg2 (dm i).lo=true:=hb36
   refine swk 31 (.bool true) [(9,32),(10,33),(11,34)] rfl (RunV.bool (x:=zg2 ((dm i).lo)) (rvk (by kernel_rfl)) hb36) ?_
   refine sv 35 (.bool true) ?_
   refine sv 22 (.bool true) (za0 (ar _ _ ?_))
   refine wp_cond_true rfl ?_
   refine wp_seq_k (fun bo aE=>rg [0] (sv 2 (iT 2) ?_))
   refine za0 (aE _ _ ?_)
   refine wp_ret ?_
   simp only [Exit.then,Exit.inBlock]
   refine bodyPost_ret (v:=(iT 2)) (za3 rfl rfl) rfl ⟨?_,hB⟩
   exact congrArg (fun z=>Ending.returned (iT z)) (zQ7 h6 hf hli (dke_2 hnm (by first | exact .inl h1 | exact .inr (.inl h2) | exact .inr (.inr h3))) (by decide))
  have h2:zg2 (dm i).lo=false:=hb36
  refine sw 31 (.bool false) rfl (RunV.bool (x:=zg2 ((dm i).lo)) (rvk (by kernel_rfl)) hb36) ?_
  refine sv 32 (pT ad 3) ?_
  replace ac:=ac.gr av
  refine sw 33 (iT ((dm i).up)) rfl (rk 3 3 ac) ?_
  refine se ?_
  refine ec 34 (zI7 (z:=(dm i).up)) ?_
  rintro bk a0 ⟨rfl,ay⟩
  refine ⟨_,rfl,?_⟩
  replace hB:=hB.trans ay
  simp only [p3,p4]
  refine sv 35 (.bool (zg2 ((dm i).up))) ?_
  refine sv 22 (.bool (zg2 ((dm i).up))) (za0 (ar _ _ ?_))
  refine wp_cond_split rfl (fun aj=>?_) (fun aj=>?_)
  ·have h3:zg2 (dm i).up=true:=aj
   refine wp_seq_k (fun bs aQ=>rg [0] (sv 2 (iT 2) ?_))
   refine za0 (aQ _ _ ?_)
   refine wp_ret ?_
   simp only [Exit.then,Exit.inBlock]
   refine bodyPost_ret (v:=(iT 2)) (za3 rfl rfl) rfl ⟨?_,hB⟩
   exact congrArg (fun z=>Ending.returned (iT z)) (zQ7 h6 hf hli (dke_2 hnm (by first | exact .inl h1 | exact .inr (.inl h2) | exact .inr (.inr h3))) (by decide))
  have h3:zg2 (dm i).up=false:=aj
  refine wp_seq_k (fun ba aB=>rg [0,1,2,3,4,5] (sv 37 (pT ad 2) ?_))
  replace ac:=ac.gr ay
  refine sw 38 (iT ((dm i).lo)) rfl (rk 3 2 ac) ?_
  refine sv 39 (pT ad 3) ?_
  refine sw 40 (iT ((dm i).up)) rfl (rk 3 3 ac) ?_
  refine sv 41 (.bool (decide ((dm i).up<(dm i).lo))) ?_
  refine sv 36 (.bool (decide ((dm i).up<(dm i).lo))) (za0 (aB _ _ ?_))
  refine wp_cond_split rfl (fun ai=>?_) (fun ai=>?_)
  ·have h4:(dm i).up<(dm i).lo:=of_decide_eq_true ai
   refine wp_seq_k (fun bf aT=>rg [0] (sv 2 (iT 8) ?_))
   refine za0 (aT _ _ ?_)
   refine wp_ret ?_
   simp only [Exit.then,Exit.inBlock]
   refine bodyPost_ret (v:=(iT 8)) (za3 rfl rfl) rfl ⟨?_,hB⟩
   exact congrArg (fun z=>Ending.returned (iT z)) (zQ7 h6 hf hli (dke_8 hnm h1 h2 h3 h4) (by decide))
  have h4:¬ ((dm i).up<(dm i).lo):=of_decide_eq_false ai
  refine wp_skip ?_
  refine aK _ _ ?_
  refine wp_seq_k (fun bH aC=>?_)
  have ap:=Gr.drew a0
  replace hB:=hB.trans ap
  replace ac:=ac.gr ap
  refine za4 (fun w'=>Lc w' ad #[sV ((dm i).nm),iT ((dm i).no),iT ((dm i).lo),iT ((dm i).up)] 71) [(true,0),(true,1),(true,2),(true,3),(true,4),(false,5),(true,6),(true,7),(true,8),(true,9),(true,10)] (by kernel_rfl) (by kernel_rfl) (by kernel_rfl) (by decide) (fun _ _ _ _ _ h=>h) ac ?_
  refine ov 43 v ?_
  refine ov 44 (iT (i:Int)) ?_
  have ae:=hv.subt (show 0≤i by omega) (show i≤N by omega)
  replace ae:=ae.cast (tb_sub0 (f:=(fun z1=>(dm z1))))
  refine ow 45 (subv v 0 i 4) rfl (fun w' hS=>(yb4 (e:=71) hv 0 i (by omega) (by omega) _ _ _ _ rfl rfl (.inl ⟨rfl,rfl⟩) (.inr rfl) (by kernel_rfl) (by kernel_rfl))) ?_
  refine ov 46 (pT ad 0) ?_
  refine ow 47 (sV ((dm i).nm)) rfl (fun w' hS=>(rk 9 0 hS)) ?_
  refine oe ?_
  refine ec 48 (di_findg (N:=i) (Y:=(dm i).nm) (by omega) (ae.gr zc7 hB)) ?_
  rintro bE a6 ⟨⟨aq,rfl⟩,aw⟩
  refine ⟨_,rfl,?_⟩
  replace hB:=hB.trans aw
  replace ac:=ac.gr aw
  refine ⟨ac,?_⟩
  simp only [p3,p4]
  refine ov 42 (.tuple #[iT (aq),.bool (zg4 (fun j=>(dm j).nm) i ((dm i).nm))]) ?_
  refine ov 49 (iT (aq)) ?_
  refine ov 50 (.bool (zg4 (fun j=>(dm j).nm) i ((dm i).nm))) ?_
  refine ov 5 (iT (aq)) ?_
  refine ov 6 (.bool (zg4 (fun j=>(dm j).nm) i ((dm i).nm))) ?_
  refine zb4 ?_
  refine aC _ _ ?_
  refine wp_seq_k (fun a2 aG=>rg [0] (sv 51 (.bool (zg4 (fun j=>(dm j).nm) i ((dm i).nm))) ?_))
  refine za0 (aG _ _ ?_)
  refine wp_cond_split rfl (fun al=>?_) (fun al=>?_)
  ·have h5:zg4 (fun j=>(dm j).nm) i (dm i).nm=true:=al
   refine wp_seq_k (fun a7 aR=>rg [0] (sv 2 (iT 9) ?_))
   refine za0 (aR _ _ ?_)
   refine wp_ret ?_
   simp only [Exit.then,Exit.inBlock]
   refine bodyPost_ret (v:=(iT 9)) (za3 rfl rfl) rfl ⟨?_,hB⟩
   exact congrArg (fun z=>Ending.returned (iT z)) (zQ7 h6 hf hli (dke_9 hnm h1 h2 h3 h4 h5) (by decide))
  have h5:zg4 (fun j=>(dm j).nm) i (dm i).nm=false:=al
  refine wp_skip ?_
  refine aA _ _ ?_
  refine rg [0,1] ?_
  refine sw 52 (iT ((i:Int)+1)) rfl (rwI ((i:Int)+1)) ?_
  refine sv 12 (iT ((i:Int)+1)) ?_
  refine za0 ?_
  refine aL (N - (i+1)) ⟨List.toArray ?l56,[]⟩ _ (by omega) ?_
  exact ⟨i+1,(fun i=>List.getD ?l56 i undef),rfl,rfl,(by omega),zQ0 hf (dke_0 hnm h1 h2 h3 h4 h5),hB⟩
 have hei:N=i:=by have:=of_decide_eq_false af;omega
 subst hei
 refine wp_exit ?_
 simp only [Exit.then,Exit.inBlock,↓reduceIte]
 refine aX _ _ ?_
 refine wp_seq_k (fun bl aY=>rg [0] (sv 2 (iT 0) ?_))
 refine za0 (aY _ _ ?_)
 refine wp_ret ?_
 refine bodyPost_ret (v:=(iT 0)) (za3 rfl rfl) rfl ⟨?_,hB⟩
 exact congrArg (fun z=>Ending.returned (iT z)) (dck_0 h6 hf)

theorem al_tolg {x:Dmn} {w:World}:
    Calls Tryz.prog 43 #[.agg #[sV x.nm,iT (x.no),iT (x.lo),iT (x.up)]] w fun e w'=>e=.returned (.bool (x.lo !=0||x.up !=0))∧Gr w w':=by
 go_enter Tryz.func43,Tryz.ntmps43
 have hB:=Gr.refl w
 refine wp_seq_k (fun ai ae=>rg [0,1] ?_)
 refine se ?_
 refine eb 71 #[sV x.nm,iT (x.no),iT (x.lo),iT (x.up)] 1 hB fun aa af al ac aj ah hB=>?_
 simp only [p3,p4]
 refine sv 2 (.bool false) (za0 (ae _ _ ?_))
 refine wp_seq_k (fun ak ad=>rg [0,1,2,3,4,5,6,7,8] (sv 3 (pT aa 2) ?_))
 refine sw 4 (iT (x.lo)) rfl (rk 3 2 ac) ?_
 refine sv 5 (.bool (x.lo !=(0:Int))) ?_
 rcases Bool.eq_false_or_eq_true (x.lo !=(0:Int)) with hb13 | hb13
 ·refine sw 6 (.bool true) rfl (RunV.bool (x:=(x.lo !=(0:Int))) (rvk (by kernel_rfl)) hb13) ?_
  refine ss 7 ?_
  refine ss 8 ?_
  refine ss 9 ?_
  refine sv 10 (.bool true) ?_
  refine sv 2 (.bool true) (za0 (ad _ _ ?_))
  refine wp_ret ?_
  refine bodyPost_ret (v:=(.bool true)) (za3 rfl rfl) rfl ⟨?_,hB⟩
  exact congrArg (fun b=>Ending.returned (.bool b)) (by simp only [hb13];rfl)
 refine sw 6 (.bool false) rfl (RunV.bool (x:=(x.lo !=(0:Int))) (rvk (by kernel_rfl)) hb13) ?_
 refine sv 7 (pT aa 3) ?_
 refine sw 8 (iT (x.up)) rfl (rk 3 3 ac) ?_
 refine sv 9 (.bool (x.up !=(0:Int))) ?_
 refine sv 10 (.bool (x.up !=(0:Int))) ?_
 refine sv 2 (.bool (x.up !=(0:Int))) (za0 (ad _ _ ?_))
 refine wp_ret ?_
 refine bodyPost_ret (v:=(.bool (x.up !=(0:Int)))) (za3 rfl rfl) rfl ⟨?_,hB⟩
 exact congrArg (fun b=>Ending.returned (.bool b)) (by simp only [hb13];rfl)

theorem di_idxt {N T:Nat} (_hN:N≤1000) {dm:Nat→Dmn} {v:Value} {w:World} (hv:Sl EDg T 4 w v (tb (fun z1=>(dm z1)) N)):
    Calls Tryz.prog 75 #[v,(.func (.func 43) #[] #[])] w fun e w'=>e=.returned (iT (zw1 (fun j=>(dm j).lo !=0||(dm j).up !=0) N))∧Gr w w':=by
 go_enter Tryz.func75,Tryz.ntmps75
 have hB:=Gr.refl w
 refine wp_seq_k (fun aC aj=>rg [0] (sv 4 (iT 0) ?_))
 refine za0 (aj _ _ ?_)
 refine wp_seq_k (fun aA al=>wp_seq_k (fun aB af=>rg [0,1,2] (sv 6 v ?_)))
 refine sw 7 (iT (N:Int)) rfl (zb0 (e:=71) hv (za9 rfl) _ _ rfl rfl (by kernel_rfl)) ?_
 refine sv 8 (iT 0) (za0 (af _ _ ?_))
 refine wp_block ?_
 refine zb1 (a:=⟨List.toArray ?l13,[]⟩) (fun n a w'=>∃ (k:Nat) (aa:Nat→Value),N - k=n∧a=⟨[v,(.func (.func 43) #[] #[]),undef,undef,aa 4,aa 5,aa 6,iT (N:Int),iT (k:Int),aa 9,aa 10,aa 11,aa 12,aa 13,aa 14,aa 15,aa 16,aa 17,aa 18].toArray,[]⟩∧k≤N∧(∀ j,j<k→((dm j).lo !=0||(dm j).up !=0)=false)∧Gr w w') (N - 0) ?_ ?_
 ·exact ⟨0,(fun i=>List.getD ?l13 i undef),rfl,rfl,Nat.zero_le _,(fun j h=>absurd h (Nat.not_lt_zero j)),hB⟩
 rintro aI aM aE ⟨k,aa,rfl,rfl,hkk,hf,hB⟩ az aw
 refine wp_seq_k (fun aJ ah=>rg [0] (sv 9 (.bool (decide ((k:Int)<(N:Int)))) ?_))
 refine za0 (ah _ _ ?_)
 refine wp_seq_k (fun ay av=>?_)
 refine wp_cond_split rfl (fun ad=>?_) (fun ad=>?_)
 ·have hlk:k<N:=by have:=of_decide_eq_true ad;omega
  refine wp_skip ?_
  refine av _ _ ?_
  refine wp_seq_k (fun aL ai=>?_)
  refine wp_block ?_
  refine wp_seq_k (fun ax aq=>rg [0,1] (sv 10 (iT (k:Int)) ?_))
  refine sv 5 (iT (k:Int)) (za0 (aq _ _ ?_))
  refine wp_seq_k (fun aH ak=>rg [0,1,2,3,4,5] (sv 11 (.func (.func 43) #[] #[]) ?_))
  refine sv 12 v ?_
  refine sv 13 (iT (k:Int)) ?_
  refine sw 14 (adr v (k*4)) rfl (zc0 (e:=71) hv za8 (by decide) k (by omega) _ _ _ rfl rfl rfl (by kernel_rfl) (by kernel_rfl)) ?_
  obtain ⟨_,_,rfl,ae⟩:=Sl.get hv (by decide) (zc3 (f:=(fun z1=>(dm z1))) (n:=N) (i:=k) (by omega))
  refine sw 15 (.agg #[sV ((dm k).nm),iT ((dm k).no),iT ((dm k).lo),iT ((dm k).up)]) rfl (ze5 [sV ((dm k).nm),iT ((dm k).no),iT ((dm k).lo),iT ((dm k).up)] (ae.gr hB) _ _ rfl rfl (by kernel_rfl)) ?_
  refine se ?_
  refine ec 16 (al_tolg (x:=(dm k))) ?_
  rintro aD aG ⟨rfl,ap⟩
  refine ⟨_,rfl,?_⟩
  replace hB:=hB.trans ap
  simp only [p3,p4]
  refine za0 (ak _ _ ?_)
  refine wp_cond_split rfl (fun ac=>?_) (fun ac=>?_)
  ·have hn:((dm k).lo !=0||(dm k).up !=0)=true:=ac
   refine wp_seq_k (fun aF au=>rg [0,1] (sv 17 (iT (k:Int)) ?_))
   refine sv 4 (iT (k:Int)) (za0 (au _ _ ?_))
   refine wp_ret ?_
   simp only [Exit.then,Exit.inBlock]
   refine bodyPost_ret (v:=(iT (k:Int))) (za3 rfl rfl) rfl ⟨?_,hB⟩
   exact congrArg (fun z=>Ending.returned (iT z)) (zE4 (p:=(fun j=>(dm j).lo !=0||(dm j).up !=0)) hlk hn hf)
  have hn:((dm k).lo !=0||(dm k).up !=0)=false:=ac
  refine wp_skip ?_
  refine ai _ _ ?_
  refine rg [0,1] ?_
  refine sw 18 (iT ((k:Int)+1)) rfl (rwI ((k:Int)+1)) ?_
  refine sv 8 (iT ((k:Int)+1)) ?_
  refine za0 ?_
  refine aw (N - (k+1)) ⟨List.toArray ?l24,[]⟩ _ (by omega) ?_
  exact ⟨k+1,(fun i=>List.getD ?l24 i undef),rfl,rfl,(by omega),zV7 hf hn,hB⟩
 have hek:N=k:=by have:=of_decide_eq_false ad;omega
 subst hek
 refine wp_exit ?_
 simp only [Exit.then,Exit.inBlock,↓reduceIte]
 refine al _ _ ?_
 refine wp_seq_k (fun aK ar=>rg [0] (sv 4 (iT (-1)) ?_))
 refine za0 (ar _ _ ?_)
 refine wp_ret ?_
 refine bodyPost_ret (v:=(iT (-1))) (za3 rfl rfl) rfl ⟨?_,hB⟩
 exact congrArg (fun z=>Ending.returned (iT z)) (zE5 (p:=(fun j=>(dm j).lo !=0||(dm j).up !=0)) hf)

theorem di_contg {N T:Nat} (hN:N≤1000) {dm:Nat→Dmn} {v:Value} {w:World} (hv:Sl EDg T 4 w v (tb (fun z1=>(dm z1)) N)):
    Calls Tryz.prog 42 #[v,(.func (.func 43) #[] #[])] w fun e w'=>e=.returned (.bool (tol dm N))∧Gr w w':=by
 go_enter Tryz.func42,Tryz.ntmps42
 have hB:=Gr.refl w
 refine wp_seq_k (fun ae ac=>rg [0] (sv 4 (.bool false) ?_))
 refine za0 (ac _ _ ?_)
 refine wp_seq_k (fun ai ad=>rg [0,1,2,3,4] (sv 5 v ?_))
 refine sv 6 (.func (.func 43) #[] #[]) ?_
 refine se ?_
 refine ec 7 (di_idxt hN (hv.gr zc7 hB)) ?_
 rintro af ah ⟨rfl,aa⟩
 refine ⟨_,rfl,?_⟩
 replace hB:=hB.trans aa
 simp only [p3,p4]
 refine sv 8 (.bool (decide ((0:Int)≤zw1 (fun j=>(dm j).lo !=0||(dm j).up !=0) N))) ?_
 refine sv 4 (.bool (decide ((0:Int)≤zw1 (fun j=>(dm j).lo !=0||(dm j).up !=0) N))) (za0 (ad _ _ ?_))
 refine wp_ret ?_
 refine bodyPost_ret (v:=(.bool (decide ((0:Int)≤zw1 (fun j=>(dm j).lo !=0||(dm j).up !=0) N)))) (za3 rfl rfl) rfl ⟨?_,hB⟩
 exact congrArg (fun b=>Ending.returned (.bool b)) zM5

end Go.Proofs.YtjhflekncldflaaGreatDoor
namespace Go.Proofs.YtjhflekncldflaaGreatDoor
open Go.RowKit Go.Maps
def NmS (w:World) (b k:Nat) (nm:Nat→List UInt8):Prop:=∃ D:DataW Unit,w.ownsMap Tryz.prog 9 (plainElem Tryz.prog 4) b k D∧IsMap D∧∀ X:List UInt8,D.atKey (.string X) (.lit (.bool false))=.lit (.bool (zg4 nm k X))
theorem NmS.gr {w w':World} {b k:Nat} {nm:Nat→List UInt8} (h:NmS w b k nm) (g:Gr w w'):NmS w' b k nm:=by
 obtain ⟨D,h1,h2⟩:=h
 exact ⟨D,h1.kept (row:=none) ⟨g.os,g.tape,g.output,g.size,fun j hj _=>g.block j hj⟩ (by simp),h2⟩
theorem NmS.st {w w':World} {b k c:Nat} {nm:Nat→List UInt8} {cs:Array Value} {t:TypeId} (h:NmS w b k nm) (g:St w w' c) (hL:Lc w c cs t):NmS w' b k nm:=by
 obtain ⟨D,h1,h2⟩:=h
 have hne:b≠c:=by
  rintro rfl
  obtain ⟨es,clock,hb,_⟩:=h1
  rw [show w.heap[b]?=_ from hL] at hb;cases hb
 exact ⟨D,h1.kept (row:=some c) ⟨g.os,g.tape,g.output,Nat.le_of_eq g.size.symm,fun j _ hj=>g.block j (fun e=>hj (by rw [e]))⟩ (fun e=>hne (by cases e;rfl)),h2⟩
theorem nkey {X:List UInt8} (h:X.length≤9223372036854775807):keyOf Tryz.prog 9 (.string ⟨X.toArray⟩)=some (.string X):=by
 have:=Go.WideMaps.keyOf_string_mk (P:=Tryz.prog) (k:=9) Tryz.underlying9 (s:=⟨X.toArray⟩) (by show X.toArray.size≤_;simpa [maxLen] using h)
 simpa using this
theorem zq6 {P:Program} {e:TypeId} (he:P.underlying e=some .bool) {v:Value} {z:DataW Unit × List MemPlace} (h:plainElem P e v=some z):∃ x,v=.bool x∧z=(.lit (.bool x),[]):=by
 unfold plainElem at h
 rw [he] at h
 cases v<;>simp at h
 exact ⟨_,rfl,h.symm⟩
section
variable {a:Act} {o:Oper} {w:World} {Q:Exit→Act→World→Prop} {K:Act→World→Prop}
theorem rv_look {b k:Nat} {nm:Nat→List UInt8} (h:NmS w b k nm) (x y:Operand) (X:List UInt8) (hop:o.op=.lookup 116 x y false) (hx:a.eval x=.map (some b)) (hy:a.eval y=.string ⟨X.toArray⟩) (hX:X.length≤9223372036854775807):RunV Tryz.prog a o w (.bool (zg4 nm k X)):=by
 obtain ⟨D,h1,h2,h3⟩:=h
 obtain ⟨v,ps,hrun,hv⟩:=h1.lookup (string_keyed Tryz.underlying9) Tryz.underlying116 (z:=.bool false) (by kernel_rfl) (plainElem_bool Tryz.underlying4 false) (nkey hX)
 rw [h3] at hv
 obtain ⟨z,rfl,hz⟩:=zq6 Tryz.underlying4 hv
 simp only [Prod.mk.injEq,DataW.lit.injEq,Lit.bool.injEq] at hz
 unfold RunV execOp
 simp only [hop,hx,hy,Sem.run_bind,hrun,Result.andThen_ok,Sem.run_pure,hz.1]
theorem zY1 {d:Option Tmp} {nm:Nat→List UInt8} (hd:o.dst=d) (hop:o.op=.makeMap 116 none) (h:∀ b w',w.heap.size≤b→Gr w w'→NmS w' b 0 nm→K (a.put d (.map (some b))) w'):o.wp Tryz.prog a w K Q:=by
 subst hd
 unfold Oper.wp execOp
 simp only [hop,Option.map_none,Sem.run_bind,run_makeMap,Result.andThen_ok,Sem.run_pure]
 exact h w.heap.size _ (Nat.le_refl _) (Gr.alloc w _) ⟨.map [],World.ownsMap_made _ _ _ _,isMap_empty,fun X=>rfl⟩
theorem zR1 {b k:Nat} {nm:Nat→List UInt8} (x y z:Operand) (X:List UInt8) (hN:NmS w b k nm) (hop:o.op=.mapUpdate 116 x y z) (hd:o.dst=none) (hx:a.eval x=.map (some b)) (hy:a.eval y=.string ⟨X.toArray⟩) (hz:a.eval z=.bool true) (hk:k≤1000) (hX:nm k=X) (hl:X.length≤9223372036854775807)
  (h:∀ w',Wt 999999999 w w'→(∀ w0,Gr w0 w→w0.heap.size≤b→Gr w0 w')→NmS w' b (k+1) nm→K a w'):o.wp Tryz.prog a w K Q:=by
 obtain ⟨D,h1,h2,h3⟩:=hN
 have hb:=h1
 obtain ⟨w',hrun,hown,hg⟩:=h1.update (string_keyed Tryz.underlying9) Tryz.underlying116 (by unfold maxLen;omega) (nkey hl) (plainElem_bool Tryz.underlying4 true)
 have hnc:∀ (c:Nat) (cs:Array Value) (t:TypeId) (fr:Nat × Nat),w.heap[c]?=some (.cells cs t fr)→c≠b:=fun c cs t fr hc e=>by
  subst e
  obtain ⟨es,clock,hb,_⟩:=hb
  rw [hc] at hb;cases hb
 unfold Oper.wp execOp
 simp only [hop,hx,hy,hz,Sem.run_bind,hrun,Result.andThen_ok,Sem.run_pure]
 have hput:a.put o.dst undef=a:=by rw [hd];rfl
 refine (show K (a.put o.dst _) w' from ?_)
 rw [hd]
 refine h w' ⟨hg.os,hg.tape,hg.output,hg.size,fun c cs t fr _ hc=>(hg.block c (ze8 hc) (fun e=>hnc c cs t fr hc (by cases e;rfl))).trans hc⟩
  (fun w0 g0 hB=>⟨hg.os.trans g0.os,hg.tape.trans g0.tape,hg.output.trans g0.output,Nat.le_trans g0.size hg.size,fun j hj=>(hg.block j (Nat.lt_of_lt_of_le hj g0.size) (fun e=>by cases e;omega)).trans (g0.block j hj)⟩)
  ⟨_,hown,h2.put _ _,fun Y=>?_⟩
 by_cases hY:Y=X
 ·subst hY
  rw [atKey_put_same h2 (by first | trivial | rfl | decide | exact ⟨⟩)]
  unfold zg4
  rw [List.range_succ,List.any_append]
  simp [hX]
 rw [atKey_put_other (by intro e;cases e;exact hY rfl),h3]
 unfold zg4
 rw [List.range_succ,List.any_append]
 have:(nm k==Y)=false:=by rw [hX,beq_eq_false_iff_ne];exact fun e=>hY e.symm
 simp [this]
end
end Go.Proofs.YtjhflekncldflaaGreatDoor
