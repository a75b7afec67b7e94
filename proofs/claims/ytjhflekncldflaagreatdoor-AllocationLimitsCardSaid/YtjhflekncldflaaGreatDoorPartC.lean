/- Joined of: Sn, La, Lb, Lc, Ld, Le, Lf, Lg, Lh, Ten, TenM, TenT, R1a, R1b, R1c, R1d, R1e, R1f, Gen30, R1g, R1h, Ck, R1i, Ck2, Txt, Gen12, Nbr, R2a, Lj, R2b, R2c, R2d, R2e, Scale, Pa1, Pa2, Rd1, Rd2, Gen32, Rat2, Gen34, Rd3, Ok2, Mm, Fld, Rord, Gen200, Gen201, Rda, Gen36. -/
import Derived.Test.YtjhflekncldflaaGreatDoorPartB
import Derived.Lib.AppendZeros
import Init.Data.Rat.Lemmas
import Derived.Test.YtjhflekncldflaaGreatDoorPartA
import Derived.Laws.IdiomStrings
import Derived.Lib.SmallJoins
import Derived.Laws.RangeString
import Derived.Shelf.Strings.SlTrimAscii
namespace Go.Proofs.YtjhflekncldflaaGreatDoor
open Go.RowKit
section
variable {α:Type} {P:Program} {a:Act} {o:Oper} {w:World} {Q:Exit→Act→World→Prop} {K:Act→World→Prop}
def subv (v:Value) (l h c:Nat):Value:=
 match v with
 | .slice ao _ cap=>sliced ao l h cap c
 | _=>undef
theorem Sl.sub {E:World→α→List Value→Prop} {T:TypeId} {c:Nat} {v:Value} {xs:List α} (h:Sl E T c w v xs) {l k:Nat} (h1:l≤k) (h2:k≤xs.length):Sl E T c w (subv v l k c) ((xs.drop l).take (k - l)):=by
 obtain ⟨ys,⟨ao,cap,rfl,hn,hc⟩,hE⟩:=h
 have hl:((xs.drop l).take (k - l)).length=k - l:=by rw [List.length_take,List.length_drop];omega
 have aa:l*c≤k*c:=Nat.mul_le_mul_right c h1
 have ad:k*c≤xs.length*c:=Nat.mul_le_mul_right c h2
 have hsub:(k - l)*c=k*c - l*c:=Nat.sub_mul k l c
 have hyl:((ys.drop (l*c)).take ((k - l)*c)).length=(k - l)*c:=by rw [List.length_take,List.length_drop,hE.1,Nat.sub_mul];omega
 refine ⟨(ys.drop (l*c)).take ((k - l)*c),⟨if cap=l then ao else ao.map (·.add (l*c)),cap - l,?_,?_,fun hp=>?_⟩,?_,fun i x hx=>?_⟩
 ·rw [hl];rfl
 ·rw [hl];omega
 ·rw [hyl] at hp
  have hkl:l<k:=by
   rcases Nat.lt_or_ge l k with h | h
   ·exact h
   rw [show k - l=0 by omega,Nat.zero_mul] at hp;exact absurd hp (Nat.lt_irrefl 0)
  obtain ⟨b,off,cs,fr,rfl,h4,h5⟩:=hc (by rw [hE.1];omega)
  refine ⟨b,off+l*c,cs,fr,?_,h4,fun j hj=>?_⟩
  ·rw [if_neg (show ¬ cap=l by omega)]
   by_cases h0:l*c=0<;>simp [Addr.add,h0]
  rw [hyl] at hj
  rw [Nat.add_assoc,h5 (l*c+j) (by rw [hE.1];omega),List.getElem?_take_of_lt hj,List.getElem?_drop]
 ·rw [hyl,hl]
 have hi:i<k - l:=by have:=(List.getElem?_eq_some_iff.1 hx).1;omega
 rw [List.getElem?_take_of_lt hi,List.getElem?_drop] at hx
 have h3:=hE.2 (l+i) x hx
 have ac:i*c+c≤(k - l)*c:=by have:=Nat.mul_le_mul_right c (show i+1≤k - l by omega);rw [Nat.add_mul] at this;omega
 rw [List.drop_take,List.drop_drop,List.take_take,Nat.min_eq_left (by omega),← Nat.add_mul]
 exact h3
theorem tb_sub {f:Nat→α} {n l k:Nat} (h:k≤n):((tb f n).drop l).take (k - l)=tb (fun i=>f (l+i)) (k - l):=by
 apply List.ext_getElem?
 intro j
 by_cases hj:j<k - l
 ·rw [List.getElem?_take_of_lt hj,List.getElem?_drop,zc3 (by omega),zc3 hj]
 rw [List.getElem?_eq_none (by rw [List.length_take];omega),List.getElem?_eq_none (by rw [za8];omega)]
theorem tb_sub0 {f:Nat→α} {n:Nat}:tb (fun i=>f (0+i)) (n - 0)=tb f n:=by rw [Nat.sub_zero];exact zu9 fun i _=>by rw [Nat.zero_add]
theorem Sl.subt {E:World→α→List Value→Prop} {T:TypeId} {c:Nat} {v:Value} {f:Nat→α} {n:Nat} (h:Sl E T c w v (tb f n)) {l k:Nat} (h1:l≤k) (h2:k≤n):Sl E T c w (subv v l k c) (tb (fun i=>f (l+i)) (k - l)):=
 (h.sub h1 (by rw [za8];exact h2)).cast (tb_sub h2)
theorem rv_sub {E:World→α→List Value→Prop} {T:TypeId} {c:Nat} {v:Value} {xs:List α} {w0:World} (h:Sl E T c w0 v xs) (l k:Nat) (h1:l≤k) (h2:k≤xs.length) (t:TypeId) (x:Operand) (lo hi:Option Operand) (hop:o.op=.slice t x lo hi none) (hx:a.eval x=v)
  (hlo:(lo.map a.eval=none∧l=0)∨lo.map a.eval=some (.int .i64 (l:Int))) (hhi:(hi.map a.eval=none∧k=xs.length)∨hi.map a.eval=some (.int .i64 (k:Int))) {e:TypeId} (hu:P.underlying t=some (.slice e)) (hs:(P.info? e).map (·.size)=some c):
  RunV P a o w (subv v l k c):=by
 obtain ⟨ao,cap,rfl,hcap⟩:=h.form
 obtain ⟨i,hi',hsz⟩:=Option.map_eq_some_iff.1 hs
 unfold RunV execOp
 simp only [hop,hx]
 have b1:∀ y:Nat,k≤y→(Instr.sliceBound (.int .i64 (k:Int)) y .sliceAcap).run P w=.ok k w:=fun y hy=>by simp [Instr.sliceBound,asIntOf];omega
 have b2:(Instr.sliceBound (.int .i64 (l:Int)) k .sliceB).run P w=.ok l w:=by simp [Instr.sliceBound,asIntOf];omega
 rcases hlo with ⟨e1,rfl⟩ | e1<;>rcases hhi with ⟨e2,rfl⟩ | e2<;>rw [e1,e2]<;>
  simp [Instr.sliceAt,Instr.slice,run_underlying hu,Instr.sliceBounds,sizeOf,typeInfo,hi',hsz,subv,sliced,b1 cap (by omega),b2]
theorem yb4 {E:World→α→List Value→Prop} {T:TypeId} {c:Nat} {v:Value} {f:Nat→α} {n:Nat} {w0:World} (h:Sl E T c w0 v (tb f n)) (l k:Nat) (h1:l≤k) (h2:k≤n) (t:TypeId) (x:Operand) (lo hi:Option Operand) (hop:o.op=.slice t x lo hi none) (hx:a.eval x=v)
  (hlo:(lo.map a.eval=none∧l=0)∨lo.map a.eval=some (.int .i64 (l:Int))) (hhi:(hi.map a.eval=none∧k=n)∨hi.map a.eval=some (.int .i64 (k:Int))) {e:TypeId} (hu:P.underlying t=some (.slice e)) (hs:(P.info? e).map (·.size)=some c):
  RunV P a o w (subv v l k c):=rv_sub h l k h1 (by rw [za8];exact h2) t x lo hi hop hx hlo (by rwa [za8]) hu hs
theorem run_app0 (w:World) (t ty e:TypeId) (i:TypeInfo) (ht:P.underlying t=some (.slice e)) (hi:P.info? e=some i) (base ao:Option Addr) (n cap c:Nat) (hle:n≤cap):
  (Builtin.append_ #[t,t] ty #[.slice base n cap,.slice ao 0 c]).run P w=.ok (.slice base n cap) w:=by
 cases base<;>cases ao<;>simp [Builtin.append_,run_underlying ht,sizeOf,typeInfo,hi,Builtin.lenOf,Builtin.firstCells,loadCells,loadCellsFrom,hle,storeCells]
theorem zK3 {E:World→α→List Value→Prop} {ts:List TypeId} (hS:zn8 E ts) (s x:Operand) (t:TypeId) (T B T2:Nat) (z:Value) (v:Value) (xs:List α) (u:Value) (aa:List α) (c:Nat) (d:Option Tmp) (bytes:Nat) (hd:o.dst=d)
  (ho:o.op=.call {callee:=.builtin .append,args:=#[s,x],argTypes:=#[t,t]}) (hs:a.eval s=v) (hx:a.eval x=u)
  (hown:Ow E T c w B v xs) (hu:Sl E T2 c w u aa) (h1:∀ x vs,E w x vs→∀ y ∈ vs,y.oneCell'=true) (hBw:B≤w.heap.size) (hn:xs.length+aa.length≤1000000) (hbytes:bytes≤1000)
  (ht:P.underlying t=some (.slice T)) (hi:(P.info? T).map (fun i=>(i.zero,i.size,i.bytes))=some (some z,c,bytes)) (hzs:z.cells.size=c∧0<c) (hT:(ts.all fun t=>t !=T)=true)
  (h:∀ v' w',Ow E T c w' B v' (xs++aa)→Wt T w w'→(∀ w0,Gr w0 w→w0.heap.size≤B→Gr w0 w')→(∀ k cs t,(∀ g n cap,v=.slice (some ⟨g,0,none⟩) n cap→k≠g)→Lc w k cs t→Lc w' k cs t)→K (a.put d v') w'):o.wp P a w K Q:=by
 rcases hu.cases hzs.2 with rfl | ⟨hpos,bx,ox,cx,hux⟩
 ·obtain ⟨ao,cap,rfl,_⟩:=hu.form
  obtain ⟨i,hi,hz,hsize,hby⟩:=info_parts hi
  have hv:∃ base n cap,v=.slice base n cap∧n≤cap:=by
   obtain ⟨ys,h1,_⟩:=hown
   rcases h1.2 with ⟨rfl,_⟩ | ⟨g,cap,cur,rfl,_,_,h3,_⟩
   ·exact ⟨_,_,_,rfl,Nat.le_refl _⟩
   exact ⟨_,_,_,rfl,h3⟩
  obtain ⟨base,n,cp,rfl,hle⟩:=hv
  subst hd
  unfold Oper.wp execOp
  simp only [ho,resolve,invoke,builtin,Sem.run_bind,Sem.run_pure,Result.andThen_ok,List.map_toArray,List.map_cons,List.map_nil,hs,hx,List.length_nil,run_app0 w t _ T i ht hi base ao n cp cap hle]
  exact h _ _ (by rw [List.append_nil];exact hown) ⟨rfl,rfl,rfl,Nat.le_refl _,fun _ _ _ _ _ h=>h⟩ (fun _ h _=>h) fun _ _ _ _ h=>h
 subst hd
 obtain ⟨ys,hown,hEl⟩:=hown
 obtain ⟨i,hi,hz,hsize,hby⟩:=info_parts hi
 have ae:(xs.length+aa.length)*bytes≤1000000*1000:=Nat.mul_le_mul (by omega) hbytes
 subst hux
 obtain ⟨us,⟨ao,cap,hsl,hcap,hraw⟩,ac⟩:=hu
 simp only [Value.slice.injEq] at hsl
 obtain ⟨rfl,_,rfl⟩:=hsl
 refine wp_append_own w s x t ho B T i z c bytes ht hi hz hsize hby hzs.1 hzs.2 v xs.length ys hs hown ⟨bx,ox,none⟩ aa.length cx us hx ac.1 (fun j y hj=>?_) (fun y hy=>?_) (by unfold maxLen;omega) (by omega) hBw ?_
 ·have hj':=(List.getElem?_eq_some_iff.1 hj).1
  obtain ⟨b,off,cs,fr,had,hbk,hcells⟩:=hraw (by omega)
  simp only [Option.some.injEq,Addr.mk.injEq,and_true] at had
  obtain ⟨rfl,rfl⟩:=had
  have e:(⟨bx,ox,none⟩:Addr).add j=⟨bx,ox+j,none⟩:=by by_cases h0:j=0<;>simp [Addr.add,h0]
  rw [e,zc1 hbk,hcells j hj'];exact hj
 ·obtain ⟨j,hj,rfl⟩:=List.mem_iff_getElem.1 hy
  have hjc:j/c<aa.length:=by rw [ac.1] at hj;exact Nat.div_lt_of_lt_mul (by rw [Nat.mul_comm];exact hj)
  have:=ac.2 (j/c) aa[j/c] (List.getElem?_eq_getElem hjc)
  refine h1 _ _ this _ ?_
  have hm:j % c<c:=Nat.mod_lt _ hzs.2
  have hd:j/c*c+j % c=j:=by rw [Nat.mul_comm];exact Nat.div_add_mod j c
  refine List.mem_iff_getElem?.2 ⟨j % c,?_⟩
  rw [List.getElem?_take_of_lt hm,List.getElem?_drop,hd,List.getElem?_eq_getElem hj]
 intro v' w' h2 hg _
 have hown':=hown
 have hnew:∀ k,v.ownBlock=some k→B≤k∧∃ cur,w.heap[k]?=some (.cells cur T (0,0)):=by
  intro k hk
  rcases hown'.2 with ⟨rfl,_⟩ | ⟨g,cap,cur,rfl,hb,hgg,_⟩
  ·simp [Value.ownBlock] at hk
  simp [Value.ownBlock] at hk
  subst hk;exact ⟨hb,cur,hgg⟩
 have hwt:Wt T w w':=⟨hg.os,hg.tape,hg.output,hg.size,fun k cs t fr ht hk=>by
  rw [hg.block k (ze8 hk) (fun e=>?_)]
  ·exact hk
  obtain ⟨_,cur,hc⟩:=hnew k e.symm
  rw [hk] at hc
  simp only [Option.some.injEq,Obj.cells.injEq] at hc
  exact ht hc.2.1⟩
 have hboth:Els E c w (ys++us) (xs++aa):=by
  refine ⟨by rw [List.length_append,List.length_append,hEl.1,ac.1,Nat.add_mul],fun k y hy=>?_⟩
  rcases Nat.lt_or_ge k xs.length with hk | hk
  ·rw [List.getElem?_append_left hk] at hy
   have h3:k*c+c≤ys.length:=by
    rw [hEl.1]
    have:=Nat.mul_le_mul_right c (show k+1≤xs.length by omega)
    rw [Nat.add_mul] at this;omega
   rw [List.drop_append_of_le_length (by omega),List.take_append_of_le_length (by rw [List.length_drop];omega)]
   exact hEl.2 k y hy
  rw [List.getElem?_append_right hk] at hy
  have h3:xs.length*c≤k*c:=Nat.mul_le_mul_right c hk
  rw [List.drop_append,hEl.1,List.drop_eq_nil_of_le (by rw [hEl.1];exact h3),List.nil_append,← Nat.sub_mul]
  exact ac.2 _ y hy
 refine h v' w' ⟨_,by simpa using h2,hboth.kts hS (hwt.kts hT)⟩ hwt (fun w0 hB ad=>?_) fun k cs t hk hL=>(hg.block k (ze8 hL) (fun e2=>by
  rcases hown'.2 with ⟨rfl,_⟩ | ⟨g,cap,cur,rfl,_⟩
  ·simp [Value.ownBlock] at e2
  simp [Value.ownBlock] at e2
  exact hk g _ _ rfl e2)).trans hL
 refine Below.trans hB ⟨hg.os,hg.tape,hg.output,hg.size,fun k hk=>hg.block k (Nat.lt_of_lt_of_le hk hB.size) (fun e=>?_)⟩
 have:=(hnew k e.symm).1
 omega
theorem one_i64 (w:World):∀ x vs,EI64 w x vs→∀ y ∈ vs,y.oneCell'=true:=fun x vs h y hy=>by
 subst h;simp only [List.mem_singleton] at hy;subst hy;rfl
theorem zv0 {P:Program} {w:World} {fn:Func} {tmps:Array Value} {t u s:Tmp} {v x y:Value} (h:fn.results=#[.tmp t,.tmp u,.tmp s]) (hv:tmps.getD t undef=v) (hx:tmps.getD u undef=x) (hy:tmps.getD s undef=y):(results fn tmps).run P w=.ok (.tuple #[v,x,y]) w:=by
 subst hv hx hy;simp [results,h]
theorem zS0 {α:Type} {E:World→α→List Value→Prop} {T:TypeId} {c B n cx:Nat} {w:World} {F:Nat→α} (h:Sl E T c w (.slice none n cx) (tb F n)) (hc:0<c:=by decide):Ow E T c w B (.slice none 0 0) (tb F n):=by
 rcases h.cases hc with h0 | ⟨_,b,off,cap,hv⟩
 ·rw [h0];exact Ow.nil _ _ _ _ _
 cases hv
def Avp (p:Nat→Prop) (u:Value) (x:List α):Prop:=x≠[]→∀ g off o n cap,u=.slice (some ⟨g,off,o⟩) n cap→p g
def ERp (p:Nat→Prop) (E:World→α→List Value→Prop) (T:TypeId) (c:Nat) (w:World) (x:List α) (vs:List Value):Prop:=∃ u,vs=[u]∧Sl E T c w u x∧Avp p u x
theorem ERp.rw {p:Nat→Prop} {E:World→α→List Value→Prop} {T:TypeId} {c:Nat} {w:World} {x:List α} {vs:List Value} (h:ERp p E T c w x vs):ERw E T c w x vs:=by
 obtain ⟨u,hu,hs,_⟩:=h
 exact ⟨u,hu,hs⟩
theorem ERp.mono {p q:Nat→Prop} {E:World→α→List Value→Prop} {T:TypeId} {c:Nat} {w:World} (hpq:∀ g,p g→q g):∀ x vs,ERp p E T c w x vs→ERp q E T c w x vs:=fun x vs h=>by
 obtain ⟨u,hu,hs,ha⟩:=h
 exact ⟨u,hu,hs,fun hne g off o n cap e=>hpq g (ha hne g off o n cap e)⟩
def Nw (B:Nat) (u:Value):Prop:=∀ g off o n cap,u=.slice (some ⟨g,off,o⟩) n cap→B≤g
theorem Nw.mk {B b n cap:Nat} (h:B≤b):Nw B (.slice (some ⟨b,0,none⟩) n cap):=fun g off o n' cap' e=>by cases e;exact h
section
variable {P:Program} {Q:Exit→Act→World→Prop} {a:Act} {w:World}
theorem zz9 {x y:Code} (J:Act→World→Prop) (h1:∀ K:Act→World→Prop,(∀ a w,J a w→K a w)→x.wp P (Exit.then K Q) a w) (h2:∀ a w,J a w→y.wp P Q a w):(x.seq y).wp P Q a w:=
 wp_seq_k fun K hK=>h1 K (fun a w hj=>hK a w (h2 a w hj))
end
end
section
variable {P:Program} {Q:Exit→Act→World→Prop} {ops:Array Oper} {w:World} {ds:List Deferred} {l:List Value} {o:Oper}
def setA:List Value→List (Nat × Nat)→List Value
 | l,[]=>l
 | l,(_,d)::r=>setA (l.set d undef) r
theorem setA_nil (l:List Value):setA l []=l:=rfl
theorem yb5 (l:List Value) (i d:Nat) (r:List (Nat × Nat)):setA l ((i,d)::r)=setA (l.set d undef) r:=rfl
def zP4 (ops:Array Oper):List Value→List (Nat × Nat)→Bool
 | _,[]=>true
 | l,(i,d)::r=>(match ops[i]? with
  | some o=>o.dst==some d&&!Region.wanted o (yielded ops l.toArray)
  | none=>false)&&zP4 ops (l.set d undef) r
theorem sks:∀ (sk:List (Nat × Nat)) {l:List Value} {rest:List Nat},zP4 ops l sk=true→wpOps P ops Q rest ⟨(setA l sk).toArray,ds⟩ w→wpOps P ops Q (sk.map Prod.fst++rest) ⟨l.toArray,ds⟩ w
 | [],_,_,_,h=>h
 | (i,d)::r,l,rest,hk,h=>by
  simp only [zP4,Bool.and_eq_true] at hk
  obtain ⟨h1,h2⟩:=hk
  split at h1
  ·next o ho=>
   simp only [Bool.and_eq_true,beq_iff_eq,Bool.not_eq_true'] at h1
   exact ss (P:=P) d (sks r h2 h) rfl ho h1.1 h1.2
  cases h1
theorem swk {i:Nat} {rest:List Nat} (d:Nat) (v:Value) (sk:List (Nat × Nat)) {l':List Value} (ho:ops[i]?=some o) (hv:RunV P ⟨l.toArray,ds⟩ o w v) (h:wpOps P ops Q rest ⟨l'.toArray,ds⟩ w) (hl:setA (l.set d v) sk=l':=by simp only [yb5,setA_nil,p3,p4]<;>rfl) (hd:o.dst=some d:=by rfl)
  (hw:Region.wanted o (yielded ops (⟨l.toArray,ds⟩:Act).tmps)=true:=by kernel_rfl) (hk:zP4 ops (l.set d v) sk=true:=by kernel_rfl):wpOps P ops Q (i::(sk.map Prod.fst++rest)) ⟨l.toArray,ds⟩ w:=
 sw d v ho hv (sks sk hk (by rw [hl];exact h)) rfl hd hw
end
section
variable {P:Program} {ops:Array Oper} {Q:Exit→Act→World→Prop} {S:World→Prop}
def yb6 (Q:Exit→Act→World→Prop) (A:Act→World→Prop):Exit→Act→World→Prop
 | .normal=>A
 | e=>Q e
end
section
variable {α:Type} {P:Program} {a:Act} {o:Oper} {w:World} {Q:Exit→Act→World→Prop} {K:Act→World→Prop}
theorem zC5 (t e:TypeId) {x:Operand} (u:Value) (d:Option Tmp) (hd:o.dst=d) (hop:o.op=.buildSlice t 1 #[(0,x)]) (hx:a.eval x=u) (hu:∃ ao n cap,u=.slice ao n cap)
  (hrun:∀ ao n cap (w:World),(Instr.buildSlice t 1 #[(0,.slice ao n cap)]).run P w=.ok (.slice (some ⟨w.heap.size,0,none⟩) 1 1) (w.alloc (.cells #[.slice ao n cap] e)))
  (h:∀ b w',Gr w w'→Lc w' b #[u] e→w.heap.size≤b→K (a.put d (.slice (some ⟨b,0,none⟩) 1 1)) w'):o.wp P a w K Q:=by
 obtain ⟨ao,n,cap,rfl⟩:=hu
 refine zc5 e 1 _ d hd (fun w=>?_) h
 unfold execOp
 simp [hop,hx,hrun]
theorem eff_bs2 (t e:TypeId) {x y:Operand} (u v:Value) (d:Option Tmp) (hd:o.dst=d) (hop:o.op=.buildSlice t 2 #[(0,x),(1,y)]) (hx:a.eval x=u) (hy:a.eval y=v) (hu:∃ ao n cap,u=.slice ao n cap) (hv:∃ ao n cap,v=.slice ao n cap)
  (hrun:∀ ao n cap bo m dap (w:World),(Instr.buildSlice t 2 #[(0,.slice ao n cap),(1,.slice bo m dap)]).run P w=.ok (.slice (some ⟨w.heap.size,0,none⟩) 2 2) (w.alloc (.cells #[.slice ao n cap,.slice bo m dap] e)))
  (h:∀ b w',Gr w w'→Lc w' b #[u,v] e→w.heap.size≤b→K (a.put d (.slice (some ⟨b,0,none⟩) 2 2)) w'):o.wp P a w K Q:=by
 obtain ⟨ao,n,cap,rfl⟩:=hu
 obtain ⟨bo,m,dap,rfl⟩:=hv
 refine zc5 e 2 _ d hd (fun w=>?_) h
 unfold execOp
 simp [hop,hx,hy,hrun]
theorem Sl.forms {E:World→α→List Value→Prop} {T:TypeId} {c:Nat} {v:Value} {xs:List α} (h:Sl E T c w v xs):∃ ao n cap,v=.slice ao n cap:=by
 obtain ⟨ao,cap,e,_⟩:=h.form
 exact ⟨ao,_,cap,e⟩
end
section
variable {α:Type} {P:Program} {a:Act} {o:Oper} {w:World} {Q:Exit→Act→World→Prop} {K:Act→World→Prop}
end
section
variable {P:Program} {ops:Array Oper} {Q:Exit→Act→World→Prop} {S:World→Prop}
inductive OT where
 | fin (l:List (Bool × Nat))
 | two (l:List (Bool × Nat)) (i j:Nat) (t s:OT)
def OT.dep:OT→Nat
 | .fin l=>l.length
 | .two l _ _ t s=>l.length+(1+max t.dep s.dep)
theorem zC6 {i:Nat} {a:Act} {w:World} {K A:Act→World→Prop}:wpOp P ops (yb6 Q A) i K a w=wpOp P ops Q i K a w:=by
 unfold wpOp
 split<;>rfl
end
section
variable {α:Type} {E:World→α→List Value→Prop} {T:TypeId} {c B:Nat} {w:World}
theorem Ow.blk {v:Value} {xs:List α} (h:Ow E T c w B v xs) {g n cap:Nat} (e:v=.slice (some ⟨g,0,none⟩) n cap):B≤g∧g<w.heap.size:=by
 obtain ⟨ys,h1,_⟩:=h
 rcases h1.2 with ⟨hn,_⟩ | ⟨g',cap',cur,he,hb,hg,_⟩
 ·rw [hn] at e;cases e
 rw [he] at e;cases e
 exact ⟨hb,ze8 hg⟩
end
end Go.Proofs.YtjhflekncldflaaGreatDoor
namespace Go.Proofs.YtjhflekncldflaaGreatDoor
def sm:Nat→(Nat→Rat)→Rat
 | 0,_=>0
 | n+1,f=>sm n f+f n
theorem zg6:∀ {n:Nat} {f g:Nat→Rat},(∀ i,i<n→f i=g i)→sm n f=sm n g
 | 0,_,_,_=>rfl
 | n+1,f,g,h=>by unfold sm;rw [zg6 fun i hi=>h i (by omega),h n (by omega)]
theorem zw4:∀ {n:Nat} {f:Nat→Rat},(∀ i,i<n→f i=0)→sm n f=0
 | 0,_,_=>rfl
 | n+1,f,h=>by unfold sm;rw [zw4 fun i hi=>h i (by omega),h n (by omega)];grind
theorem zN4:∀ (n:Nat) (f g:Nat→Rat),sm n (fun i=>f i+g i)=sm n f+sm n g
 | 0,_,_=>by unfold sm;grind
 | n+1,f,g=>by unfold sm;rw [zN4 n f g];grind
theorem zN5:∀ (n:Nat) (c:Rat) (f:Nat→Rat),sm n (fun i=>c*f i)=c*sm n f
 | 0,_,_=>by unfold sm;grind
 | n+1,c,f=>by unfold sm;rw [zN5 n c f];grind
theorem zW5 (n:Nat) (c:Rat) (f:Nat→Rat):sm n (fun i=>f i*c)=sm n f*c:=by
 rw [zg6 (g:=fun i=>c*f i) fun i _=>Rat.mul_comm _ _,zN5,Rat.mul_comm]
theorem zW6:∀ (n m:Nat) (f:Nat→Nat→Rat),sm n (fun i=>sm m (f i))=sm m (fun j=>sm n (fun i=>f i j))
 | 0,m,f=>(zw4 fun _ _=>rfl).symm
 | n+1,m,f=>by
  show sm n (fun i=>sm m (f i))+sm m (f n)=_
  rw [zW6 n m f,← zN4];rfl
theorem zw5:∀ {n:Nat} {i:Nat} {f:Nat→Rat},i<n→(∀ j,j<n→j≠i→f j=0)→sm n f=f i
 | 0,_,_,h,_=>absurd h (Nat.not_lt_zero _)
 | n+1,i,f,hi,h=>by
  unfold sm
  by_cases e:i=n
  ·subst e;rw [zw4 fun j hj=>h j (by omega) (by omega)];grind
  rw [zw5 (i:=i) (by omega) fun j hj=>h j (by omega),h n (by omega) (Ne.symm e)];grind
theorem sm_sub (n:Nat) (f g:Nat→Rat):sm n (fun i=>f i - g i)=sm n f - sm n g:=by
 have:=zN4 n f (fun i=>(-1)*g i)
 rw [zN5] at this
 rw [zg6 (g:=fun i=>f i+(-1)*g i) fun i _=>by grind,this];grind
abbrev Mx_:=Nat→Nat→Rat
def Comb (R S:Nat) (a b:Mx_):Prop:=∃ P:Mx_,∀ i,i<S→∀ k,b i k=sm R (fun j=>P i j*a j k)
theorem Comb.refl (R:Nat) (a:Mx_):Comb R R a a:=⟨fun i j=>if j=i then 1 else 0,fun i hi k=>by
 rw [zw5 (i:=i) hi fun j _ hj=>by dsimp only;rw [if_neg hj];grind];dsimp only;rw [if_pos rfl];grind⟩
theorem Comb.trans {R S T:Nat} {a b c:Mx_} (h:Comb R S a b) (g:Comb S T b c):Comb R T a c:=by
 obtain ⟨P,hP⟩:=h
 obtain ⟨Q,hQ⟩:=g
 refine ⟨fun i j=>sm S (fun t=>Q i t*P t j),fun i hi k=>?_⟩
 rw [hQ i hi k]
 have e1:sm S (fun j=>Q i j*b j k)=sm S (fun t=>sm R (fun j=>Q i t*P t j*a j k)):=zg6 fun t ht=>by
  rw [hP t ht k,← zN5]
  exact zg6 fun j _=>by rw [Rat.mul_assoc]
 rw [e1,zW6]
 exact zg6 fun j _=>zW5 S (a j k) _
structure Eqv (R:Nat) (a b:Mx_):Prop where
 lr:Comb R R a b
 rl:Comb R R b a
theorem Eqv.refl (R:Nat) (a:Mx_):Eqv R a a:=⟨.refl R a,.refl R a⟩
theorem Eqv.trans {R:Nat} {a b c:Mx_} (h:Eqv R a b) (g:Eqv R b c):Eqv R a c:=⟨h.lr.trans g.lr,g.rl.trans h.rl⟩
theorem Eqv.symm {R:Nat} {a b:Mx_} (h:Eqv R a b):Eqv R b a:=⟨h.rl,h.lr⟩
def swp (a:Mx_) (i r:Nat):Mx_:=fun j k=>if j=i then a r k else if j=r then a i k else a j k
theorem zN6 {R:Nat} (a:Mx_) {i r:Nat} (hi:i<R) (hr:r<R):Comb R R a (swp a i r):=
 ⟨fun j t=>if t=(if j=i then r else if j=r then i else j) then 1 else 0,fun j hj k=>by
  have hlt:(if j=i then r else if j=r then i else j)<R:=by split<;>(try split)<;>omega
  rw [zw5 hlt fun t _ ht=>by dsimp only;rw [if_neg ht];grind]
  dsimp only
  rw [if_pos rfl]
  unfold swp
  split
  ·grind
  split<;>grind⟩
theorem swp_swp (a:Mx_) (i r:Nat):swp (swp a i r) i r=a:=by
 funext j k
 unfold swp
 grind
theorem swp_eqv {R:Nat} (a:Mx_) {i r:Nat} (hi:i<R) (hr:r<R):Eqv R a (swp a i r):=
 ⟨zN6 a hi hr,by have:=zN6 (swp a i r) hi hr;rwa [swp_swp] at this⟩
def scl (a:Mx_) (r:Nat) (c:Rat):Mx_:=fun j k=>if j=r then a r k*c else a j k
theorem zN7 {R:Nat} (a:Mx_) (r:Nat) (c:Rat):Comb R R a (scl a r c):=
 ⟨fun j t=>if t=j then (if j=r then c else 1) else 0,fun j hj k=>by
  rw [zw5 hj fun t _ ht=>by dsimp only;rw [if_neg ht];grind]
  dsimp only
  rw [if_pos rfl]
  unfold scl
  split
  ·next e=>subst e;grind
  grind⟩
theorem scl_eqv {R:Nat} (a:Mx_) (r:Nat) {c:Rat} (hc:c≠0):Eqv R a (scl a r c):=
 ⟨zN7 a r c,by
  have:=zN7 (R:=R) (scl a r c) r (1/c)
  have e:scl (scl a r c) r (1/c)=a:=by
   funext j k
   unfold scl
   split
   ·next e=>subst e;rw [if_pos rfl];grind
   rfl
  rwa [e] at this⟩
def clr (a:Mx_) (r:Nat) (c:Nat→Rat):Mx_:=fun j k=>if j=r then a r k else a j k - c j*a r k
theorem sm_two {n i r:Nat} {f:Nat→Rat} (hi:i<n) (hr:r<n) (hne:i≠r) (h:∀ j,j<n→j≠i→j≠r→f j=0):sm n f=f i+f r:=by
 have e:=zN4 n (fun j=>if j=i then f i else 0) (fun j=>if j=r then f r else 0)
 rw [zw5 (i:=i) hi fun j _ hj=>if_neg hj,zw5 (i:=r) hr fun j _ hj=>if_neg hj] at e
 rw [if_pos rfl,if_pos rfl] at e
 rw [← e]
 refine zg6 fun j hj=>?_
 by_cases h1:j=i
 ·subst h1;rw [if_pos rfl,if_neg hne];grind
 by_cases h2:j=r
 ·subst h2;rw [if_pos rfl,if_neg h1];grind
 rw [if_neg h1,if_neg h2,h j hj h1 h2];grind
theorem zN8 {R:Nat} (a:Mx_) {r:Nat} (hr:r<R) (c:Nat→Rat):Comb R R a (clr a r c):=
 ⟨fun j t=>if t=j then 1 else if t=r then - c j else 0,fun j hj k=>by
  unfold clr
  by_cases e:j=r
  ·subst e
   rw [zw5 hj fun t _ ht=>by dsimp only;rw [if_neg ht,if_neg ht];grind];dsimp only;rw [if_pos rfl,if_pos rfl];grind
  rw [sm_two hj hr e fun t _ h1 h2=>by dsimp only;rw [if_neg h1,if_neg h2];grind];dsimp only;rw [if_pos rfl,if_neg (Ne.symm e),if_pos rfl,if_neg e];grind⟩
theorem clr_eqv {R:Nat} (a:Mx_) {r:Nat} (hr:r<R) (c:Nat→Rat):Eqv R a (clr a r c):=
 ⟨zN8 a hr c,by
  have:=zN8 (clr a r c) hr (fun j=>- c j)
  have e:clr (clr a r c) r (fun j=>- c j)=a:=by
   funext j k
   unfold clr
   split
   ·next e=>rw [if_pos rfl,e]
   rw [if_pos rfl];grind
  rwa [e] at this⟩
end Go.Proofs.YtjhflekncldflaaGreatDoor
namespace Go.Proofs.YtjhflekncldflaaGreatDoor
def fnd (m:Mx_) (k:Nat):Nat→Nat→Option Nat
 | 0,_=>none
 | n+1,i=>if m i k=0 then fnd m k n (i+1) else some i
theorem zu4 {m:Mx_} {k:Nat}:∀ {n i j:Nat},fnd m k n i=some j→i≤j∧j<i+n∧m j k≠0∧∀ t,i≤t→t<j→m t k=0
 | 0,_,_,h=>by cases h
 | n+1,i,j,h=>by
  unfold fnd at h
  split at h
  ·next e=>
   obtain ⟨h1,h2,h3,h4⟩:=zu4 h
   refine ⟨by omega,by omega,h3,fun t ht hj=>?_⟩
   rcases Nat.eq_or_lt_of_le ht with rfl | h5
   ·exact e
   exact h4 t h5 hj
  next e=>cases h;exact ⟨Nat.le_refl _,by omega,e,fun _ h1 h2=>absurd h2 (by omega)⟩
theorem zN9 {m:Mx_} {k:Nat}:∀ {n i:Nat},fnd m k n i=none→∀ t,i≤t→t<i+n→m t k=0
 | 0,_,_,_,h1,h2=>absurd h2 (by omega)
 | n+1,i,h,t,h1,h2=>by
  unfold fnd at h
  split at h
  ·next e=>
   rcases Nat.eq_or_lt_of_le h1 with rfl | h5
   ·exact e
   exact zN9 h t h5 (by omega)
  cases h
structure Rd where
 m:Mx_
 p:List Nat
 d:Rat
def zq5 (R k:Nat) (s:Rd):Rd:=match fnd s.m k (R - s.p.length) s.p.length with
 | none=>s
 | some i=>
  let a:=swp s.m i s.p.length
  ⟨clr (scl a s.p.length (1/a s.p.length k)) s.p.length (fun j=>a j k),s.p++[k],(if i=s.p.length then s.d else - s.d)*a s.p.length k⟩
def zW7 (R:Nat):Nat→Rd→Rd
 | 0,s=>s
 | k+1,s=>zq5 R k (zW7 R k s)
def pv (s:Rd) (t:Nat):Nat:=s.p.getD t 0
structure Inv (R:Nat) (m0:Mx_) (K:Nat) (s:Rd):Prop where
 eqv:Eqv R m0 s.m
 len:s.p.length≤R
 lt:∀ t,t<s.p.length→pv s t<K
 inc:∀ t u,t<u→u<s.p.length→pv s t<pv s u
 unit:∀ t,t<s.p.length→∀ i,i<R→s.m i (pv s t)=if i=t then 1 else 0
 zero:∀ i,s.p.length≤i→i<R→∀ k,k<K→s.m i k=0
 ech:∀ t,t<s.p.length→∀ k,k<pv s t→s.m t k=0
theorem Inv.start (R:Nat) (m:Mx_) (d:Rat):Inv R m 0 ⟨m,[],d⟩:=
 ⟨.refl R m,Nat.zero_le _,fun t h=>absurd h (Nat.not_lt_zero t),fun _ u _ h=>absurd h (Nat.not_lt_zero u),fun t h=>absurd h (Nat.not_lt_zero t),fun _ _ _ k h=>absurd h (Nat.not_lt_zero k),fun t h=>absurd h (Nat.not_lt_zero t)⟩
theorem zE7 {s:Rd} {k t:Nat} {m:Mx_} {d:Rat} (h:t<s.p.length):pv ⟨m,s.p++[k],d⟩ t=pv s t:=by
 unfold pv
 simp only [List.getD_eq_getElem?_getD]
 rw [List.getElem?_append_left h]
theorem zO0 {s:Rd} {k:Nat} {m:Mx_} {d:Rat}:pv ⟨m,s.p++[k],d⟩ s.p.length=k:=by
 unfold pv
 simp
theorem Inv.step {R:Nat} {m0:Mx_} {K:Nat} {s:Rd} (h:Inv R m0 K s):Inv R m0 (K+1) (zq5 R K s):=by
 unfold zq5
 split
 ·next e=>
  refine ⟨h.eqv,h.len,fun t ht=>Nat.lt_succ_of_lt (h.lt t ht),h.inc,h.unit,fun i h1 h2 k hk=>?_,h.ech⟩
  rcases Nat.eq_or_lt_of_le (Nat.le_of_lt_succ hk) with rfl | hk
  ·exact zN9 e i h1 (by omega)
  exact h.zero i h1 h2 k hk
 next i e=>
 obtain ⟨h1,h2,h3,_⟩:=zu4 e
 have hr:s.p.length<R:=by omega
 have hi:i<R:=by omega
 generalize hq:s.p.length=r at*
 have ha:swp s.m i r r K≠0:=by
  unfold swp
  by_cases e1:r=i
  ·rw [if_pos e1];rw [e1];exact h3
  rw [if_neg e1,if_pos rfl];exact h3
 have hrow:∀ j k,j<r→swp s.m i r j k=s.m j k:=fun j k hj=>by
  unfold swp
  rw [if_neg (by omega),if_neg (by omega)]
 have hlow:∀ j k,r≤j→j<R→k<K→swp s.m i r j k=0:=fun j k hj hR hk=>by
  unfold swp
  split
  ·exact h.zero r (by omega) hr k hk
  split
  ·exact h.zero i (by omega) hi k hk
  exact h.zero j (by omega) hR k hk
 generalize hA:swp s.m i r=a at*
 have hval:∀ j k,clr (scl a r (1/a r K)) r (fun j=>a j K) j k=if j=r then a r k*(1/a r K) else a j k - a j K*(a r k*(1/a r K)):=fun j k=>by
  unfold clr scl
  split
  ·rw [if_pos rfl]
  rw [if_pos rfl]
 have hK:∀ j,clr (scl a r (1/a r K)) r (fun j=>a j K) j K=if j=r then 1 else 0:=fun j=>by
  rw [hval]
  split<;>grind
 have hold:∀ j k,k<K→j<R→clr (scl a r (1/a r K)) r (fun j=>a j K) j k=if j<r then s.m j k else 0:=fun j k hk hj=>by
  rw [hval,hlow r k (Nat.le_refl _) hr hk]
  by_cases e1:j=r
  ·rw [if_pos e1,if_neg (by omega)];grind
  rw [if_neg e1]
  by_cases e2:j<r
  ·rw [if_pos e2,hrow j k e2];grind
  rw [if_neg e2,hlow j k (by omega) hj hk];grind
 have hlen:(s.p++[K]).length=r+1:=by simp [hq]
 refine ⟨?_,by rw [hlen];omega,fun t ht=>?_,fun t u htu hu=>?_,fun t ht j hj=>?_,fun j h4 hj k hk=>?_,fun t ht k hk=>?_⟩
 ·refine h.eqv.trans ?_
  have e1:Eqv R s.m a:=by rw [← hA];exact swp_eqv s.m hi hr
  exact (e1.trans (scl_eqv a r (by grind))).trans (clr_eqv _ hr _)
 ·rw [hlen] at ht
  rcases Nat.eq_or_lt_of_le (Nat.le_of_lt_succ ht) with rfl | ht
  ·rw [← hq,zO0];omega
  rw [zE7 (by omega)];exact Nat.lt_succ_of_lt (h.lt t (by omega))
 ·rw [hlen] at hu
  rw [zE7 (s:=s) (t:=t) (by omega)]
  rcases Nat.eq_or_lt_of_le (Nat.le_of_lt_succ hu) with rfl | hu
  ·have:=h.lt t (by omega)
   rw [← hq,zO0];exact this
  rw [zE7 (s:=s) (t:=u) (by omega)];exact h.inc t u htu (by omega)
 ·rw [hlen] at ht
  rcases Nat.eq_or_lt_of_le (Nat.le_of_lt_succ ht) with rfl | ht
  ·have e2:pv ⟨clr (scl a t (1/a t K)) t (fun j=>a j K),s.p++[K],(if i=t then s.d else - s.d)*a t K⟩ t=K:=by
    have:=zO0 (s:=s) (k:=K) (m:=clr (scl a t (1/a t K)) t (fun j=>a j K)) (d:=(if i=t then s.d else - s.d)*a t K)
    rwa [hq] at this
   rw [e2];exact hK j
  rw [zE7 (by omega)]
  have hl:=h.lt t (by omega)
  show clr (scl a r (1/a r K)) r (fun j=>a j K) j (pv s t)=_
  rw [hold j _ hl hj]
  by_cases e2:j<r
  ·rw [if_pos e2];exact h.unit t (by omega) j hj
  rw [if_neg e2,if_neg (by omega)]
 ·rw [hlen] at h4
  show clr (scl a r (1/a r K)) r (fun j=>a j K) j k=0
  rcases Nat.eq_or_lt_of_le (Nat.le_of_lt_succ hk) with rfl | hk
  ·rw [hK,if_neg (by omega)]
  rw [hold j k hk hj,if_neg (by omega)]
 rw [hlen] at ht
 show clr (scl a r (1/a r K)) r (fun j=>a j K) t k=0
 rcases Nat.eq_or_lt_of_le (Nat.le_of_lt_succ ht) with rfl | ht
 ·have e2:pv ⟨clr (scl a t (1/a t K)) t (fun j=>a j K),s.p++[K],(if i=t then s.d else - s.d)*a t K⟩ t=K:=by
   have:=zO0 (s:=s) (k:=K) (m:=clr (scl a t (1/a t K)) t (fun j=>a j K)) (d:=(if i=t then s.d else - s.d)*a t K)
   rwa [hq] at this
  rw [e2] at hk
  rw [hold t k hk hr,if_neg (by omega)]
 rw [zE7 (by omega)] at hk
 have hl:=h.lt t (by omega)
 rw [hold t k (by omega) (by omega),if_pos ht]
 exact h.ech t (by omega) k hk
theorem zI9 (R:Nat) (m:Mx_) (d:Rat):∀ K,Inv R m K (zW7 R K ⟨m,[],d⟩)
 | 0=>.start R m d
 | K+1=>(zI9 R m d K).step
end Go.Proofs.YtjhflekncldflaaGreatDoor
namespace Go.Proofs.YtjhflekncldflaaGreatDoor
theorem sm_swp (n:Nat) (f:Nat→Rat) {i r:Nat} (hi:i<n) (hr:r<n):sm n (fun j=>f (if j=i then r else if j=r then i else j))=sm n f:=by
 by_cases e:i=r
 ·subst e
  refine zg6 fun j _=>?_
  split
  ·next h=>rw [h]
  rfl
 have h:=sm_sub n (fun j=>f (if j=i then r else if j=r then i else j)) f
 rw [sm_two hi hr e fun j _ h1 h2=>by rw [if_neg h1,if_neg h2];grind] at h
 rw [if_pos rfl,if_neg (Ne.symm e),if_pos rfl] at h
 grind
theorem dep:∀ (r k:Nat) (C:Mx_),r<k→∃ c:Nat→Rat,(∃ i,i<k∧c i≠0)∧∀ j,j<r→sm k (fun i=>c i*C i j)=0
 | 0,k,_,h=>⟨fun _=>1,⟨0,h,by decide⟩,fun j hj=>absurd hj (Nat.not_lt_zero j)⟩
 | r+1,k,C,h=>by
  by_cases hz:∀ i,i<k→C i r=0
  ·obtain ⟨c,hc,h0⟩:=dep r k C (by omega)
   refine ⟨c,hc,fun j hj=>?_⟩
   rcases Nat.eq_or_lt_of_le (Nat.le_of_lt_succ hj) with rfl | hj
   ·exact zw4 fun i hi=>by rw [hz i hi];grind
   exact h0 j hj
  obtain ⟨i0,aa,hne⟩:∃ i,i<k∧C i r≠0:=by
   apply Classical.byContradiction
   intro hn
   exact hz fun i hi=>Classical.byContradiction fun he=>hn ⟨i,hi,he⟩
  obtain ⟨q,rfl⟩:∃ q,k=q+1:=⟨k - 1,by omega⟩
  -- the row in question put last
  let σ:Nat→Nat:=fun j=>if j=i0 then q else if j=q then i0 else j
  have hσ:∀ j,j<q+1→σ j<q+1:=fun j hj=>by dsimp only [σ];split<;>(try split)<;>omega
  have hσσ:∀ j,σ (σ j)=j:=fun j=>by dsimp only [σ];grind
  have hp:C (σ q) r≠0:=by
   have:σ q=i0:=by dsimp only [σ];split<;>first | (next e=>exact e) | simp
   rw [this];exact hne
  obtain ⟨c,⟨i,hi,hci⟩,h0⟩:=dep r q (fun i j=>C (σ i) j - C (σ i) r/C (σ q) r*C (σ q) j) (by omega)
  let d:Nat→Rat:=fun i=>if i<q then c i else - sm q (fun t=>c t*(C (σ t) r/C (σ q) r))
  have hd:∀ j,j<r+1→sm (q+1) (fun i=>d i*C (σ i) j)=0:=fun j hj=>by
   have e1:sm (q+1) (fun i=>d i*C (σ i) j)=sm q (fun i=>c i*C (σ i) j)+- sm q (fun t=>c t*(C (σ t) r/C (σ q) r))*C (σ q) j:=by
    show sm q _+d q*C (σ q) j=_
    rw [zg6 (g:=fun i=>c i*C (σ i) j) fun i hi=>by show d i*_=_;dsimp only [d];rw [if_pos hi]]
    congr 1
    dsimp only [d]
    rw [if_neg (Nat.lt_irrefl q)]
   have e2:sm q (fun i=>c i*(C (σ i) j - C (σ i) r/C (σ q) r*C (σ q) j))=sm q (fun i=>c i*C (σ i) j) - sm q (fun t=>c t*(C (σ t) r/C (σ q) r))*C (σ q) j:=by
    rw [← zW5,← sm_sub]
    exact zg6 fun i _=>by grind
   rw [e1]
   rcases Nat.eq_or_lt_of_le (Nat.le_of_lt_succ hj) with rfl | hj
   ·have e3:sm q (fun i=>c i*(C (σ i) j - C (σ i) j/C (σ q) j*C (σ q) j))=0:=zw4 fun i _=>by grind
    rw [e2] at e3;grind
   have:=h0 j hj
   rw [e2] at this;grind
  refine ⟨fun i=>d (σ i),⟨σ i,hσ i (by omega),by dsimp only;rw [hσσ];dsimp only [d];rw [if_pos hi];exact hci⟩,fun j hj=>?_⟩
  have e:=sm_swp (q+1) (fun i=>d i*C (σ i) j) aa (Nat.lt_succ_self q)
  rw [hd j hj] at e
  rw [← e]
  refine zg6 fun i _=>?_
  show d (σ i)*C i j=d (σ i)*C (σ (σ i)) j
  rw [hσσ]
end Go.Proofs.YtjhflekncldflaaGreatDoor
namespace Go.Proofs.YtjhflekncldflaaGreatDoor
theorem stepR_p (R K:Nat) (s:Rd):(zq5 R K s).p=s.p∨(zq5 R K s).p=s.p++[K]:=by
 unfold zq5
 split
 ·exact .inl rfl
 exact .inr rfl
end Go.Proofs.YtjhflekncldflaaGreatDoor
namespace Go.Proofs.YtjhflekncldflaaGreatDoor
def updm (m:Mx_) (i:Nat) (u:Nat→Rat):Mx_:=fun a b=>if a=i then u b else m a b
theorem zi6 (m:Mx_) (i:Nat):updm m i (m i)=m:=by
 funext a b
 unfold updm
 split
 ·next e=>rw [e]
 rfl
theorem zj9 (m:Mx_) {i j:Nat} (h:i≠j) (u v:Nat→Rat):updm (updm m i u) j v=updm (updm m j v) i u:=by
 funext a b
 unfold updm
 grind
structure Alt (R:Nat) (G:Mx_→Rat):Prop where
 lin:∀ (m:Mx_) (i:Nat),i<R→∀ (u v:Nat→Rat) (c:Rat),G (updm m i (fun k=>u k+c*v k))=G (updm m i u)+c*G (updm m i v)
 adj:∀ (m:Mx_) (i:Nat),i+1<R→(∀ k,m i k=m (i+1) k)→G m=0
 ext:∀ m m':Mx_,(∀ i,i<R→∀ k,m i k=m' i k)→G m=G m'
section
variable {R:Nat} {G:Mx_→Rat} (h:Alt R G)
include h
theorem Alt.zero {m:Mx_} {i:Nat} (hi:i<R) (hz:∀ k,m i k=0):G m=0:=by
 have:=h.lin m i hi (m i) (m i) (-1)
 rw [zi6] at this
 have e:updm m i (fun k=>m i k+-1*m i k)=m:=by
  funext a b
  unfold updm
  split
  ·next e=>rw [e,hz b];grind
  rfl
 rw [e] at this
 grind
theorem Alt.nswp (m:Mx_) {i:Nat} (hi:i+1<R):G (swp m i (i+1))=- G m:=by
 let u:=m i;let v:=m (i+1)
 have key:∀ x y:Nat→Rat,(∀ k,x k=y k)→G (updm (updm m i x) (i+1) y)=0:=fun x y hxy=>h.adj _ i hi fun k=>by
  unfold updm
  rw [if_neg (by omega),if_pos rfl,if_pos rfl,hxy k]
 have l1:∀ x:Nat→Rat,G (updm (updm m i x) (i+1) (fun k=>u k+1*v k))=G (updm (updm m i x) (i+1) u)+1*G (updm (updm m i x) (i+1) v):=fun x=>h.lin _ _ hi u v 1
 have l2:∀ y:Nat→Rat,G (updm (updm m i (fun k=>u k+1*v k)) (i+1) y)=G (updm (updm m i u) (i+1) y)+1*G (updm (updm m i v) (i+1) y):=fun y=>by
  rw [zj9 _ (show i≠i+1 by omega),zj9 _ (show i≠i+1 by omega) u,zj9 _ (show i≠i+1 by omega) v]
  exact h.lin _ _ (by omega) u v 1
 have k0:=key (fun k=>u k+1*v k) (fun k=>u k+1*v k) fun _=>rfl
 have k1:=key u u fun _=>rfl
 have k2:=key v v fun _=>rfl
 rw [l1,l2,l2,k1,k2] at k0
 have e1:updm (updm m i u) (i+1) v=m:=by rw [zi6,zi6]
 have e2:updm (updm m i v) (i+1) u=swp m i (i+1):=by
  funext a b
  unfold updm swp
  grind
 rw [e1,e2] at k0
 grind
theorem Alt.same:∀ (n:Nat) {m:Mx_} {i:Nat},i+1+n<R→(∀ k,m i k=m (i+1+n) k)→G m=0
 | 0,m,i,hi,he=>h.adj m i hi he
 | n+1,m,i,hi,he=>by
  have e:=Alt.same n (m:=swp m (i+1+n) (i+1+n+1)) (i:=i) (by omega) fun k=>by
   unfold swp
   rw [if_neg (by omega),if_neg (by omega),if_pos rfl];exact he k
  rw [h.nswp m (by omega)] at e
  grind
theorem Alt.eq {m:Mx_} {i j:Nat} (hi:i<R) (hj:j<R) (hne:i≠j) (he:∀ k,m i k=m j k):G m=0:=by
 rcases Nat.lt_or_gt_of_ne hne with hl | hl
 ·obtain ⟨n,rfl⟩:∃ n,j=i+1+n:=⟨j - i - 1,by omega⟩
  exact h.same n hj he
 obtain ⟨n,rfl⟩:∃ n,i=j+1+n:=⟨i - j - 1,by omega⟩
 exact h.same n hi fun k=>(he k).symm
theorem Alt.swp (m:Mx_) {i j:Nat} (hi:i<R) (hj:j<R) (hne:i≠j):G (swp m i j)=- G m:=by
 let u:=m i;let v:=m j
 have key:∀ x:Nat→Rat,G (updm (updm m i x) j x)=0:=fun x=>h.eq hi hj hne fun k=>by
  unfold updm
  rw [if_neg hne,if_pos rfl,if_pos rfl]
 have l1:∀ x:Nat→Rat,G (updm (updm m i x) j (fun k=>u k+1*v k))=G (updm (updm m i x) j u)+1*G (updm (updm m i x) j v):=fun x=>h.lin _ _ hj u v 1
 have l2:∀ y:Nat→Rat,G (updm (updm m i (fun k=>u k+1*v k)) j y)=G (updm (updm m i u) j y)+1*G (updm (updm m i v) j y):=fun y=>by
  rw [zj9 _ hne,zj9 _ hne u,zj9 _ hne v]
  exact h.lin _ _ hi u v 1
 have k0:=key (fun k=>u k+1*v k)
 have k1:=key u
 have k2:=key v
 rw [l1,l2,l2,k1,k2] at k0
 have e1:updm (updm m i u) j v=m:=by rw [zi6,zi6]
 have e2:updm (updm m i v) j u=Go.Proofs.YtjhflekncldflaaGreatDoor.swp m i j:=by
  funext a b
  unfold updm Go.Proofs.YtjhflekncldflaaGreatDoor.swp
  grind
 rw [e1,e2] at k0
 grind
theorem Alt.scl (m:Mx_) {r:Nat} (hr:r<R) (c:Rat):G (scl m r c)=c*G m:=by
 have l:=h.lin m r hr (fun _=>0) (m r) c
 rw [zi6,h.zero hr (m:=updm m r fun _=>0) fun k=>by unfold updm;rw [if_pos rfl]] at l
 have e:updm m r (fun k=>0+c*m r k)=Go.Proofs.YtjhflekncldflaaGreatDoor.scl m r c:=by
  funext a b
  unfold updm Go.Proofs.YtjhflekncldflaaGreatDoor.scl
  split<;>grind
 rw [e] at l
 rw [l];grind
theorem Alt.add (m:Mx_) {j r:Nat} (hj:j<R) (hr:r<R) (hne:j≠r) (c:Rat):G (updm m j (fun k=>m j k+c*m r k))=G m:=by
 rw [h.lin m j hj,zi6,h.eq (m:=updm m j (m r)) hj hr hne fun k=>by unfold updm;rw [if_pos rfl,if_neg (Ne.symm hne)]]
 grind
theorem Alt.clr (m:Mx_) {r:Nat} (hr:r<R) (c:Nat→Rat):G (clr m r c)=G m:=by
 have go:∀ n,n≤R→G (fun j k=>if j<n then Go.Proofs.YtjhflekncldflaaGreatDoor.clr m r c j k else m j k)=G m:=by
  intro n
  induction n with
  | zero=>exact fun _=>h.ext _ _ fun i _ k=>if_neg (Nat.not_lt_zero i)
  | succ n ih=>
   intro hn
   rw [← ih (by omega)]
   by_cases e:n=r
   ·refine h.ext _ _ fun i _ k=>?_
    by_cases h1:i<n
    ·rw [if_pos h1,if_pos (by omega)]
    rw [if_neg h1]
    by_cases h2:i<n+1
    ·rw [if_pos h2]
     have:i=r:=by omega
     unfold Go.Proofs.YtjhflekncldflaaGreatDoor.clr
     rw [if_pos this,this]
    rw [if_neg h2]
   have:=h.add (fun j k=>if j<n then Go.Proofs.YtjhflekncldflaaGreatDoor.clr m r c j k else m j k) (j:=n) (r:=r) (by omega) hr e (- c n)
   rw [← this]
   refine h.ext _ _ fun i _ k=>?_
   have er:(if r<n then Go.Proofs.YtjhflekncldflaaGreatDoor.clr m r c r k else m r k)=m r k:=by
    split
    ·unfold Go.Proofs.YtjhflekncldflaaGreatDoor.clr;rw [if_pos rfl]
    rfl
   unfold updm
   dsimp only
   rw [er,if_neg (Nat.lt_irrefl n)]
   by_cases h1:i=n
   ·subst h1
    rw [if_pos (Nat.lt_succ_self i),if_pos rfl]
    unfold Go.Proofs.YtjhflekncldflaaGreatDoor.clr
    rw [if_neg e];grind
   rw [if_neg h1]
   by_cases h2:i<n
   ·rw [if_pos (by omega),if_pos h2]
   rw [if_neg (by omega),if_neg h2]
 rw [← go R (Nat.le_refl _)]
 exact h.ext _ _ fun i hi k=>(if_pos hi).symm
theorem Alt.step (K:Nat) {s:Rd} (hs:s.p.length≤R) {g:Rat} (hg:g=s.d*G s.m):g=(zq5 R K s).d*G (zq5 R K s).m:=by
 unfold zq5
 split
 ·exact hg
 next i e=>
 obtain ⟨h1,h2,h3,_⟩:=zu4 e
 have hr:s.p.length<R:=by omega
 have hi:i<R:=by omega
 dsimp only
 have ha:Go.Proofs.YtjhflekncldflaaGreatDoor.swp s.m i s.p.length s.p.length K≠0:=by
  unfold Go.Proofs.YtjhflekncldflaaGreatDoor.swp
  by_cases e1:s.p.length=i
  ·rw [if_pos e1,e1];exact h3
  rw [if_neg e1,if_pos rfl];exact h3
 rw [h.clr _ hr,h.scl _ hr]
 generalize Go.Proofs.YtjhflekncldflaaGreatDoor.swp s.m i s.p.length s.p.length K=x at ha
 by_cases e2:i=s.p.length
 ·have e3:Go.Proofs.YtjhflekncldflaaGreatDoor.swp s.m i s.p.length=s.m:=by
   rw [e2];funext a b;unfold Go.Proofs.YtjhflekncldflaaGreatDoor.swp;grind
  rw [if_pos e2,e3,hg];grind
 rw [if_neg e2,h.swp _ hi hr e2,hg];grind
theorem Alt.red (m:Mx_) (d:Rat):∀ K,d*G m=(zW7 R K ⟨m,[],d⟩).d*G (zW7 R K ⟨m,[],d⟩).m
 | 0=>rfl
 | K+1=>h.step K (zI9 R m d K).len (Alt.red m d K)
end
end Go.Proofs.YtjhflekncldflaaGreatDoor
namespace Go.Proofs.YtjhflekncldflaaGreatDoor
end Go.Proofs.YtjhflekncldflaaGreatDoor
namespace Go.Proofs.YtjhflekncldflaaGreatDoor
end Go.Proofs.YtjhflekncldflaaGreatDoor
namespace Go.Proofs.YtjhflekncldflaaGreatDoor
end Go.Proofs.YtjhflekncldflaaGreatDoor
namespace Go.Proofs.YtjhflekncldflaaGreatDoor

def tn (n:Int):Nat→Int
 | 0=>n
 | i+1=>tn n i/10
def td (n:Int) (i:Nat):Int:=tn n i % 10
theorem zy1 (n:Int):tn n 0=n:=rfl
theorem zm9 (n:Int) (i:Nat):tn n (i+1)=tn n i/10:=rfl
theorem yb7 (n:Int) (i:Nat):0≤td n i:=by unfold td;omega
theorem td_lt (n:Int) (i:Nat):td n i<10:=by unfold td;omega
theorem tn_split (n:Int) (i:Nat):tn n i=10*tn n (i+1)+td n i:=by unfold td;rw [zm9];omega
theorem zy2 {n:Int} (h:0≤n):∀ i,0≤tn n i
 | 0=>h
 | i+1=>by have:=zy2 h i;rw [zm9];omega
theorem yb8 {a b:Int} (h:a≤b):∀ i,tn a i≤tn b i
 | 0=>h
 | i+1=>by have:=yb8 h i;rw [zm9,zm9];omega
theorem yb9 (n:Int) (i:Nat):∀ k,tn n (i+k)=tn (tn n i) k
 | 0=>rfl
 | k+1=>by rw [← Nat.add_assoc,zm9,yb9 n i k,zm9]
theorem zy3:∀ i,tn 0 i=0
 | 0=>rfl
 | i+1=>by rw [zm9,zy3 i];rfl
theorem tn_ge {n:Int} {i k:Nat} (h:tn n i=0) (hk:i≤k):tn n k=0:=by
 obtain ⟨j,rfl⟩:=Nat.le.dest hk
 rw [yb9,h,zy3]
structure NX (n:Int) (len:Nat):Prop where
 nonneg:0≤n
 top:tn n len=0
 full:0<len→tn n (len - 1)≠0
theorem NX.zero:NX 0 0:=⟨Int.le_refl _,rfl,by omega⟩
theorem NX.len_zero {n:Int} {len:Nat} (h:NX n len):len=0↔n=0:=by
 constructor
 ·rintro rfl;exact h.top
 rintro rfl
 have:=h.full
 rw [zy3] at this
 omega
theorem NX.topdig {n:Int} {len:Nat} (h:NX n len) (hl:0<len):td n (len - 1)=tn n (len - 1)∧0<td n (len - 1):=by
 have h1:=h.top
 have h2:=tn_split n (len - 1)
 rw [show len - 1+1=len by omega,h1] at h2
 have h3:=h.full hl
 have h4:=zy2 h.nonneg (len - 1)
 omega
theorem NX.mk' {n:Int} {len:Nat} (h0:0≤n) (h1:tn n len=0) (h2:0<len→td n (len - 1)≠0):NX n len:=by
 refine ⟨h0,h1,fun hl h3=>h2 hl ?_⟩
 unfold td;rw [h3];rfl
theorem NX.lt_of_len {a b:Int} {la lb:Nat} (ha:NX a la) (hb:NX b lb) (h:la<lb):a<b:=by
 refine Int.lt_of_not_ge fun hge=>?_
 have h1:=yb8 hge (lb - 1)
 have h2:=tn_ge ha.top (show la≤lb - 1 by omega)
 have h3:=hb.full (by omega)
 have h4:=zy2 hb.nonneg (lb - 1)
 omega
theorem NX.len_unique {a:Int} {la lb:Nat} (ha:NX a la) (hb:NX a lb):la=lb:=by
 rcases Nat.lt_trichotomy la lb with h | h | h
 ·have:=ha.lt_of_len hb h;omega
 ·exact h
 have:=hb.lt_of_len ha h;omega
theorem NX.len_le {a b:Int} {la lb:Nat} (ha:NX a la) (hb:NX b lb) (h:a≤b):la≤lb:=by
 rcases Nat.lt_or_ge lb la with h1 | h1
 ·have:=hb.lt_of_len ha h1;omega
 exact h1
end Go.Proofs.YtjhflekncldflaaGreatDoor
namespace Go.Proofs.YtjhflekncldflaaGreatDoor
open Go.RowKit

structure DRow (w:World) (ao:Option Addr) (len:Nat) (d:Nat→Int):Prop where
 raw:0<len→∃ (b off:Nat) (cs:Array Value) (fr:Nat × Nat),ao=some ⟨b,off,none⟩∧w.heap[b]?=some (.cells cs 3 fr)∧∀ i,i<len→cs[off+i]?=some (.int .i64 (d i))
theorem DRow.at_ {w:World} {ao:Option Addr} {len:Nat} {d:Nat→Int} (h:DRow w ao len d) (hp:0<len):
  ∃ b off,ao=some ⟨b,off,none⟩∧∀ i,i<len→w.cell? ⟨b,off+i,none⟩=some (.int .i64 (d i)):=by
 obtain ⟨b,off,cs,fr,e,hb,hc⟩:=h.raw hp
 exact ⟨b,off,e,fun i hi=>by simp only [World.cell?,hb,Option.isSome_none];exact hc i hi⟩
theorem DRow.nil (w:World) (ao:Option Addr) (d:Nat→Int):DRow w ao 0 d:=⟨fun h=>by omega⟩
theorem DRow.shorter {w:World} {ao:Option Addr} {len k:Nat} {d:Nat→Int} (h:DRow w ao len d) (hk:k≤len):DRow w ao k d:=
 ⟨fun hp=>by
  obtain ⟨b,off,cs,fr,e,hb,hc⟩:=h.raw (by omega)
  exact ⟨b,off,cs,fr,e,hb,fun i hi=>hc i (by omega)⟩⟩
theorem DRow.congr {w:World} {ao:Option Addr} {len:Nat} {d d':Nat→Int} (h:DRow w ao len d) (e:∀ i,i<len→d i=d' i):DRow w ao len d':=
 ⟨fun hp=>by
  obtain ⟨b,off,cs,fr,e',hb,hc⟩:=h.raw hp
  exact ⟨b,off,cs,fr,e',hb,fun i hi=>by rw [hc i hi,e i hi]⟩⟩
theorem DRow.gr {w w':World} {ao:Option Addr} {len:Nat} {d:Nat→Int} (h:DRow w ao len d) (hk:Gr w w'):DRow w' ao len d:=
 ⟨fun hp=>by
  obtain ⟨b,off,cs,fr,e,hb,hc⟩:=h.raw hp
  exact ⟨b,off,cs,fr,e,hk.heap hb,hc⟩⟩
theorem DRow.below {w w':World} {ao:Option Addr} {len:Nat} {d:Nat→Int} (h:DRow w ao len d) (hb:Below w.heap.size w w'):DRow w' ao len d:=h.gr hb

def TenS (w:World) (v:Value) (n:Int):Prop:=∃ ao len cap,v=.slice ao len cap∧len≤cap∧NX n len∧DRow w ao len (td n)
def TenZ (w:World) (v:Value) (n:Int):Prop:=∃ ao len cap,v=.slice ao len cap∧len≤cap∧len≤900001∧tn n len=0∧DRow w ao len (td n)
theorem TenS.gr {w w':World} {v:Value} {n:Int} (h:TenS w v n) (g:Gr w w'):TenS w' v n:=by
 obtain ⟨ao,len,cap,h1,h2,h3,h4⟩:=h
 exact ⟨ao,len,cap,h1,h2,h3,h4.gr g⟩
theorem TenZ.gr {w w':World} {v:Value} {n:Int} (h:TenZ w v n) (g:Gr w w'):TenZ w' v n:=by
 obtain ⟨ao,len,cap,h1,h2,h3,h4,h5⟩:=h
 exact ⟨ao,len,cap,h1,h2,h3,h4,h5.gr g⟩
theorem OwnS.cells {w:World} {T B:Nat} {v:Value} {ys:List Value} (h:OwnS w T B v ys) (hp:0<ys.length):
  ∃ g cap cur,v=.slice (some ⟨g,0,none⟩) ys.length cap∧B≤g∧w.heap[g]?=some (.cells cur T (0,0))∧ys.length≤cap∧cap≤maxLen∧∀ i,i<ys.length→cur[i]?=ys[i]?:=by
 obtain ⟨g,cap,cur,e,hb,hg,h1,h2,h3,h4⟩:=h.block hp
 refine ⟨g,cap,cur,e,hb,hg,h1,h2,fun i hi=>?_⟩
 rw [← h4,List.getElem?_take_of_lt hi];simp
def TenF (w:World) (B:Nat) (v:Value) (n:Int):Prop:=∃ ao len cap,v=.slice ao len cap∧len≤cap∧NX n len∧DRow w ao len (td n)∧∀ ad,ao=some ad→B≤ad.block
theorem TenF.s {w:World} {B:Nat} {v:Value} {n:Int} (h:TenF w B v n):TenS w v n:=by
 obtain ⟨ao,len,cap,h1,h2,h3,h4,_⟩:=h
 exact ⟨ao,len,cap,h1,h2,h3,h4⟩
theorem TenF.gr {w w':World} {B:Nat} {v:Value} {n:Int} (h:TenF w B v n) (g:Gr w w'):TenF w' B v n:=by
 obtain ⟨ao,len,cap,h1,h2,h3,h4,h5⟩:=h
 exact ⟨ao,len,cap,h1,h2,h3,h4.gr g,h5⟩
theorem TenF.mono {w:World} {B C:Nat} {v:Value} {n:Int} (h:TenF w B v n) (hC:C≤B):TenF w C v n:=by
 obtain ⟨ao,len,cap,h1,h2,h3,h4,h5⟩:=h
 exact ⟨ao,len,cap,h1,h2,h3,h4,fun ad e=>Nat.le_trans hC (h5 ad e)⟩
theorem TenF.set {w:World} {B g:Nat} {v:Value} {n:Int} (h:TenF w B v n) (hg:g<B) (i:Nat) (u:Value):TenF (w.setCell ⟨g,i,none⟩ u) B v n:=by
 obtain ⟨ao,len,cap,h1,h2,h3,h4,h5⟩:=h
 refine ⟨ao,len,cap,h1,h2,h3,⟨fun hp=>?_⟩,h5⟩
 obtain ⟨b,off,cs,fr,e,hb,hc⟩:=h4.raw hp
 have:=h5 _ e
 exact ⟨b,off,cs,fr,e,(Below.heap_setCell _ _ _ _ (by show b≠g;simp at this;omega)).trans hb,hc⟩
structure DOwn (w:World) (b n:Nat) (d:Nat→Int):Prop where
 raw:∃ cs,w.heap[b]?=some (.cells cs 3)∧∀ i,i<n→cs[i]?=some (.int .i64 (d i))
theorem DOwn.lt {w:World} {b n:Nat} {d:Nat→Int} (h:DOwn w b n d):b<w.heap.size:=by
 obtain ⟨cs,hb,hc⟩:=h.raw;exact ze8 hb
theorem DOwn.cell {w:World} {b n:Nat} {d:Nat→Int} (h:DOwn w b n d):∀ i,i<n→w.cell? ⟨b,i,none⟩=some (.int .i64 (d i)):=by
 obtain ⟨cs,hb,hc⟩:=h.raw
 exact fun i hi=>by simp only [World.cell?,hb,Option.isSome_none];exact hc i hi
theorem DOwn.free {w:World} {b n:Nat} {d:Nat→Int} (h:DOwn w b n d):∀ i,w.frozen? ⟨b,i,none⟩=false:=by
 obtain ⟨cs,hb,hc⟩:=h.raw
 exact fun i=>by simp [World.frozen?,hb]
theorem DOwn.set {w:World} {b n:Nat} {d:Nat→Int} (h:DOwn w b n d) {i:Nat} (_hi:i<n) (v:Int):DOwn (w.setCell ⟨b,i,none⟩ (.int .i64 v)) b n (upd d i v):=by
 obtain ⟨cs,hb,hc⟩:=h.raw
 refine ⟨_,zb2 _ hb,fun j hj=>?_⟩
 by_cases e:i=j
 ·subst e
  have:=(Array.getElem?_eq_some_iff.1 (hc i hj)).1
  rw [zd0];simp [this]
 rw [zb7 d v (Ne.symm e),Array.getElem?_setIfInBounds_ne e];exact hc j hj
theorem DOwn.gr {w w':World} {b n:Nat} {d:Nat→Int} (h:DOwn w b n d) (hb:Gr w w'):DOwn w' b n d:=by
 obtain ⟨cs,hb',hc⟩:=h.raw
 exact ⟨cs,hb.heap hb',hc⟩
theorem DOwn.below {w w':World} {b n:Nat} {d:Nat→Int} (h:DOwn w b n d) (hb:Below w.heap.size w w'):DOwn w' b n d:=h.gr hb
theorem DOwn.congr {w:World} {b n:Nat} {d d':Nat→Int} (h:DOwn w b n d) (e:∀ i,i<n→d i=d' i):DOwn w b n d':=by
 obtain ⟨cs,hb',hc⟩:=h.raw
 exact ⟨cs,hb',fun i hi=>by rw [hc i hi,e i hi]⟩
theorem DOwn.row {w:World} {b n:Nat} {d:Nat→Int} (h:DOwn w b n d):DRow w (some ⟨b,0,none⟩) n d:=by
 obtain ⟨cs,hb',hc⟩:=h.raw
 exact ⟨fun _=>⟨b,0,cs,(0,0),rfl,hb',fun i hi=>by rw [Nat.zero_add];exact hc i hi⟩⟩
theorem DOwn.shorter {w:World} {b n k:Nat} {d:Nat→Int} (h:DOwn w b n d) (hk:k≤n):DOwn w b k d:=by
 obtain ⟨cs,hb',hc⟩:=h.raw
 exact ⟨cs,hb',fun i hi=>hc i (by omega)⟩
end Go.Proofs.YtjhflekncldflaaGreatDoor
namespace Go.Proofs.YtjhflekncldflaaGreatDoor
open Go

theorem zr0 (n:Int) (i:Nat):tn (n/10) i=tn n (i+1):=by
 rw [Nat.add_comm i 1,yb9];rfl
theorem td_tenth (n:Int) (i:Nat):td (n/10) i=td n (i+1):=by unfold td;rw [zr0]
theorem NX.small {n:Int} (h0:0<n) (h1:n<10):NX n 1:=⟨by omega,by rw [zm9,zy1];omega,fun _=>by show tn n 0≠0;rw [zy1];omega⟩
theorem NX.div {n:Int} {len:Nat} (h:NX n (len+1)):NX (n/10) len:=by
 refine ⟨by have:=h.nonneg;omega,by rw [zr0];exact h.top,fun hl=>?_⟩
 rw [zr0]
 have:=h.full (by omega)
 rwa [show len+1 - 1=len - 1+1 by omega] at this
theorem NX.exists (n:Nat):∃ len,NX (n:Int) len:=by
 induction n using Nat.strongRecOn with
 | _ n ih=>
  rcases Nat.eq_zero_or_pos n with e | hp
  ·exact ⟨0,by subst e;exact NX.zero⟩
  obtain ⟨k,hk⟩:=ih (n/10) (by omega)
  refine ⟨k+1,by omega,by rw [← zr0];exact_mod_cast hk.top,fun _=>?_⟩
  rw [Nat.add_sub_cancel]
  rcases Nat.eq_zero_or_pos k with e | hk0
  ·subst e;rw [zy1];omega
  have:=hk.full hk0
  rw [Int.natCast_ediv,show ((10:Nat):Int)=10 from rfl,zr0] at this
  rwa [show k - 1+1=k by omega] at this
theorem yc0:∀ (len n:Nat),NX (n:Int) len→0<n→(Lib.decDigits n).length=len∧∀ i,i<len→(Lib.decDigits n)[len - 1 - i]?=some (UInt8.ofNat (48+(td (n:Int) i).toNat))
 | 0,n,h,hp=>by have:=h.len_zero.1 rfl;omega
 | len+1,n,h,hp=>by
  by_cases h1:n<10
  ·have e:len+1=1:=h.len_unique (NX.small (by omega) (by omega))
   have e0:len=0:=by omega
   subst e0
   rw [zd3 h1]
   refine ⟨rfl,fun i hi=>?_⟩
   have e2:i=0:=by omega
   subst e2
   have:(td (n:Int) 0).toNat=n:=by unfold td;rw [zy1];omega
   rw [this];rfl
  have hd:NX ((n/10:Nat):Int) len:=by
   have:=h.div
   rwa [show ((n:Int)/10)=((n/10:Nat):Int) by omega] at this
  obtain ⟨l1,l2⟩:=yc0 len (n/10) hd (by omega)
  rw [zg3 (by omega)]
  refine ⟨by simp [l1],fun i hi=>?_⟩
  cases i with
  | zero=>
   rw [Nat.sub_zero,Nat.add_sub_cancel,← l1,List.getElem?_append_right (Nat.le_refl _),Nat.sub_self]
   have:(td (n:Int) 0).toNat=n % 10:=by unfold td;rw [zy1];omega
   rw [this];rfl
  | succ i=>
   have hi':i<len:=by omega
   have e:len+1 - 1 - (i+1)=len - 1 - i:=by omega
   rw [e,List.getElem?_append_left (by omega),l2 i hi',← td_tenth]
   rw [show ((n/10:Nat):Int)=(n:Int)/10 by omega]
theorem dec_get {n len:Nat} (h:NX (n:Int) len) (hp:0<n) {k:Nat} (hk:k<len):(Lib.decDigits n)[k]?=some (UInt8.ofNat (48+(td (n:Int) (len - 1 - k)).toNat)):=by
 have:=(yc0 len n h hp).2 (len - 1 - k) (by omega)
 rwa [show len - 1 - (len - 1 - k)=k by omega] at this
theorem td_char (n:Int) (i:Nat):((UInt8.ofNat (48+(td n i).toNat)).toNat:Int)=48+td n i:=by
 have h0:=yb7 n i
 have h1:=td_lt n i
 rw [UInt8.toNat_ofNat']
 omega
theorem zb6 {z:Int} (h:0≤z):Lib.itoa z=Lib.decDigits z.natAbs:=by
 unfold Lib.itoa
 rw [if_neg (by omega)]
 congr 1
 omega
theorem ze4 {z:Int} (h:z<0):Lib.itoa z=45::Lib.decDigits z.natAbs:=by unfold Lib.itoa;rw [if_pos h]
theorem itoa_one:Lib.itoa 1=[49]:=by rw [zb6 (by omega)];exact zd3 (by decide)
theorem zP5 {n:Nat} (hp:0<n):∃ c,(Lib.decDigits n)[0]?=some c∧49≤c.toNat∧c.toNat≤57:=by
 obtain ⟨len,h⟩:=NX.exists n
 have hl:0<len:=by
  rcases Nat.eq_zero_or_pos len with e | e
  ·have:=h.len_zero.1 e;omega
  exact e
 refine ⟨_,dec_get h hp hl,?_⟩
 have h1:=h.topdig hl
 have h2:=td_char (n:Int) (len - 1)
 have h3:=td_lt (n:Int) (len - 1)
 rw [Nat.sub_zero]
 omega
theorem zP6:Lib.decDigits 0=[48]:=zd3 (by omega)
theorem zj6 (n:Nat):∀ c ∈ Lib.decDigits n,48≤c.toNat∧c.toNat≤57:=by
 induction n using Nat.strongRecOn with
 | _ n ih=>
  by_cases h1:n<10
  ·rw [zd3 h1]
   intro c hc
   simp only [List.mem_singleton] at hc
   subst hc
   rw [UInt8.toNat_ofNat'];omega
  rw [zg3 (by omega)]
  intro c hc
  rcases List.mem_append.1 hc with hc | hc
  ·exact ih _ (by omega) c hc
  simp only [List.mem_singleton] at hc
  subst hc
  rw [UInt8.toNat_ofNat'];omega
def zh2 (l:List UInt8):Nat:=l.foldl (fun a c=>a*10+(c.toNat - 48)) 0
theorem zG7 (l:List UInt8) (c:UInt8):zh2 (l++[c])=zh2 l*10+(c.toNat - 48):=by simp [zh2,List.foldl_append]
theorem zr1 (n:Nat):zh2 (Lib.decDigits n)=n:=by
 induction n using Nat.strongRecOn with
 | _ n ih=>
  by_cases h1:n<10
  ·rw [zd3 h1]
   show 0*10+((UInt8.ofNat (48+n)).toNat - 48)=n
   rw [UInt8.toNat_ofNat'];omega
  rw [zg3 (by omega),zG7,ih _ (by omega),UInt8.toNat_ofNat'];omega
theorem zG8:∀ (n:Nat) (l:List UInt8),l.length=n→(∀ c ∈ l,48≤c.toNat∧c.toNat≤57)→l≠[]→(∀ c,l[0]?=some c→c.toNat≠48)→Lib.decDigits (zh2 l)=l∧0<zh2 l
 | 0,l,hl,_,hne,_=>absurd (List.length_eq_zero_iff.1 hl) hne
 | n+1,l,hl,hd,hne,h0=>by
  rcases List.eq_nil_or_concat l with e | ⟨l',c,e⟩
  ·exact absurd e hne
  rw [List.concat_eq_append] at e
  subst e
  have hc:=hd c (by simp)
  rw [zG7]
  rcases List.eq_nil_or_concat l' with e | ⟨l2,c',e⟩
  ·subst e
   have:=h0 c rfl
   have e1:zh2 []*10+(c.toNat - 48)=c.toNat - 48:=by simp [zh2]
   rw [e1]
   refine ⟨?_,by omega⟩
   rw [zd3 (by omega),show 48+(c.toNat - 48)=c.toNat by omega]
   simp
  have hne':l'≠[]:=by rw [e];simp
  obtain ⟨h1,h2⟩:=zG8 n l' (by simpa using hl) (fun x hx=>hd x (by simp [hx])) hne' (fun x hx=>h0 x (by
   rw [List.getElem?_append_left (List.length_pos_iff.2 hne')];exact hx))
  refine ⟨?_,by omega⟩
  rw [zg3 (by omega),show (zh2 l'*10+(c.toNat - 48))/10=zh2 l' by omega,h1,show 48+(zh2 l'*10+(c.toNat - 48)) % 10=c.toNat by omega]
  simp
theorem zC8 (l:List UInt8) (h1:∀ c ∈ l,48≤c.toNat∧c.toNat≤57) (h2:l≠[]) (h3:∀ c,l[0]?=some c→c.toNat≠48):Lib.decDigits (zh2 l)=l∧0<zh2 l:=zG8 _ l rfl h1 h2 h3
theorem zr2 {a b:Nat} (h:Lib.decDigits a=Lib.decDigits b):a=b:=by rw [← zr1 a,← zr1 b,h]
theorem zv1 {a b:Int} (h:Lib.itoa a=Lib.itoa b):a=b:=by
 have key:∀ n:Nat,∀ l,45::l≠Lib.decDigits n:=fun n l e=>by
  have:=zj6 n 45 (by rw [← e];simp)
  simp at this
 by_cases h1:a<0<;>by_cases h2:b<0
 ·rw [ze4 h1,ze4 h2] at h
  have:=zr2 (List.cons.inj h).2
  omega
 ·rw [ze4 h1,zb6 (by omega)] at h
  exact absurd h (key _ _)
 ·rw [zb6 (by omega),ze4 h2] at h
  exact absurd h.symm (key _ _)
 rw [zb6 (by omega),zb6 (by omega)] at h
 have:=zr2 h
 omega
end Go.Proofs.YtjhflekncldflaaGreatDoor
namespace Go.Proofs.YtjhflekncldflaaGreatDoor
open Go.RowKit

theorem zy6 {s:ByteArray} {l:List UInt8} (h:s.data.toList=l) {q:Nat} (hq:q<s.size) {c:UInt8} (hc:l[q]?=some c):s[q]=c:=by
 have h1:s.data.toList[q]?=some c:=by rw [h];exact hc
 rw [Array.getElem?_toList] at h1
 obtain ⟨h2,h3⟩:=Array.getElem?_eq_some_iff.1 h1
 exact h3
-- LEFT OUT:r1_digits r1_order r1_sign_n r1_sign_p r1_sign_z r1_trim
def bvals (l:List UInt8):List Value:=l.map fun c=>.int .u8 (c.toNat:Int)
theorem zt5 (l:List UInt8):(bvals l).length=l.length:=by simp [bvals]
theorem OwnS.conv {w:World} {B:Nat} {v:Value} {l:List UInt8} (h:OwnS w 5 B v (bvals l)) (hp:l≠[]):
  ∃ g cap,v=.slice (some ⟨g,0,none⟩) l.length cap∧(convert 69 9 (.slice (some ⟨g,0,none⟩) l.length cap)).run Tryz.prog w=.ok (.string ⟨l.toArray⟩) w:=by
 obtain ⟨g,cap,cur,e,hb,hg,h1,h2,hc⟩:=h.cells (by rw [zt5];exact List.length_pos_iff.2 hp)
 rw [zt5] at e h1 hc
 refine ⟨g,cap,e,run_convert_bytes_back w _ _ 5 ⟨g,0,none⟩ cap l (by kernel_rfl) (by kernel_rfl) (by kernel_rfl) (fun j hj=>?_)⟩
 have e0:(⟨g,0,none⟩:Addr).add j=⟨g,j,none⟩:=by
  unfold Addr.add
  by_cases h0:j=0<;>simp [h0]
 rw [e0,zc1 hg,hc j hj]
 simp [bvals,hj]
theorem zZ5 (n:Nat):Lib.decDigits n≠[]:=fun e=>by have:=zo2 n;rw [e] at this;simp at this
theorem zz5 {k:Nat} {z:Int} (h:Sz k z):(Lib.decDigits z.natAbs).length≤k+1:=zh5 k _ h
theorem NX.len_bits {n len k:Nat} (h:NX (n:Int) len) (hn:n<2 ^ k):len≤k+1:=by
 rcases Nat.eq_zero_or_pos n with e | hp
 ·have:=h.len_zero.2 (by omega);omega
 have h1:=(yc0 len n h hp).1
 have h2:=zh5 k n hn
 omega
theorem itoa_pos (z:Int):0<(Lib.itoa z).length:=by
 by_cases h:z<0
 ·rw [ze4 h];simp
 rw [zb6 (by omega)];exact zo2 _
theorem TenS.len {w:World} {v:Value} {n k:Nat} (h:TenS w v (n:Int)) (hn:n<2 ^ k):∃ ao len cap,v=.slice ao len cap∧len≤cap∧NX (n:Int) len∧DRow w ao len (td (n:Int))∧len≤k+1:=by
 obtain ⟨ao,len,cap,h1,h2,h3,h4⟩:=h
 exact ⟨ao,len,cap,h1,h2,h3,h4,h3.len_bits hn⟩
theorem zi9 {P:Program} {a:Act} {o:Oper} {w:World} (t t2:TypeId) (x y:Operand) (A B:List UInt8) (hop:o.op=.binOp .eql t x y t2) (hx:a.eval x=.string ⟨A.toArray⟩) (hy:a.eval y=.string ⟨B.toArray⟩):RunV P a o w (.bool (A==B)):=by
 unfold RunV execOp
 simp only [hop,hx,hy]
 simp [go_sem,eqGuard,ByteArray.toList_eq]
theorem zP0 {P:Program} {a:Act} {o:Oper} {w:World} (t t2:TypeId) (x y:Operand) (A B:List UInt8) (hop:o.op=.binOp .neq t x y t2) (hx:a.eval x=.string ⟨A.toArray⟩) (hy:a.eval y=.string ⟨B.toArray⟩):RunV P a o w (.bool (A !=B)):=by
 unfold RunV execOp
 simp only [hop,hx,hy]
 simp [go_sem,eqGuard,ByteArray.toList_eq,bne]
end Go.Proofs.YtjhflekncldflaaGreatDoor
namespace Go.Proofs.YtjhflekncldflaaGreatDoor
open Go

def isD (c:UInt8):Bool:=decide (48≤c.toNat)&&decide (c.toNat≤57)
theorem zH2 {c:UInt8}:isD c=true↔48≤c.toNat∧c.toNat≤57:=by simp [isD]
def zc4:List UInt8→List UInt8
 | []=>[]
 | c::l=>if c=45 then l else c::l
theorem zi2 (c:UInt8) (l:List UInt8):zc4 (c::l)=if c=45 then l else c::l:=rfl
def zf3 (l:List UInt8):Bool:=decide (0<l.length)&&l.all isD
def zD2 (s:List UInt8):Bool:=(zc4 s)[0]?==some 48&&(decide (1<(zc4 s).length)||decide (1<s.length))
theorem zv4 (s:List UInt8):(s=45::zc4 s)∨(s=zc4 s∧s.head?≠some 45):=by
 cases s with
 | nil=>exact .inr ⟨rfl,by simp⟩
 | cons c l=>
  rw [zi2]
  by_cases h:c=45
  ·rw [if_pos h,h];exact .inl rfl
  rw [if_neg h];exact .inr ⟨rfl,by simpa using h⟩
theorem zt8 {l:List UInt8} (h:zf3 l=true):l≠[]∧∀ c ∈ l,48≤c.toNat∧c.toNat≤57:=by
 simp only [zf3,Bool.and_eq_true,decide_eq_true_eq,List.all_eq_true] at h
 exact ⟨List.length_pos_iff.1 h.1,fun c hc=>zH2.1 (h.2 c hc)⟩
theorem zD3 {s:List UInt8} (h1:zf3 (zc4 s)=true) (h2:zD2 s=false):∃ z:Int,s=Lib.itoa z:=by
 obtain ⟨hne,hall⟩:=zt8 h1
 rcases zv4 s with h | ⟨h,_⟩
 ·-- a sign
  have h0:∀ c,(zc4 s)[0]?=some c→c.toNat≠48:=fun c hc e=>by
   have aa:c=48:=by rw [← UInt8.toNat_inj];exact e
   unfold zD2 at h2
   rw [hc,aa] at h2
   have:1<s.length:=by rw [h];simp [List.length_pos_iff.2 hne]
   simp [this] at h2
  obtain ⟨e1,e2⟩:=zC8 _ hall hne h0
  refine ⟨-(zh2 (zc4 s):Int),?_⟩
  rw [ze4 (by omega),show (-(zh2 (zc4 s):Int)).natAbs=zh2 (zc4 s) by omega,e1]
  exact h
 by_cases h0:(zc4 s)[0]?=some 48
 ·unfold zD2 at h2
  rw [h0,← h] at h2
  have hl:s.length=1:=by
   have:0<s.length:=by rw [h];exact List.length_pos_iff.2 hne
   simp at h2;omega
  refine ⟨0,?_⟩
  rw [zb6 (by omega),show (0:Int).natAbs=0 from rfl,zP6]
  rw [← h] at h0
  match s,hl,h0 with
  | [c],_,h0=>simp at h0;rw [h0]
 obtain ⟨e1,e2⟩:=zC8 _ hall hne (fun c hc e=>h0 (by rw [hc];congr 1;rw [← UInt8.toNat_inj];exact e))
 refine ⟨(zh2 (zc4 s):Int),?_⟩
 rw [zb6 (by omega),Int.natAbs_natCast,e1]
 exact h
theorem dec_ne (n:Nat):Lib.decDigits n≠[]:=fun e=>by have:=zo2 n;rw [e] at this;simp at this
theorem zi3 (z:Int):zc4 (Lib.itoa z)=Lib.decDigits z.natAbs:=by
 by_cases h:z<0
 ·rw [ze4 h];simp [zc4]
 rw [zb6 (by omega)]
 rcases hd:Lib.decDigits z.natAbs with _ | ⟨c,l⟩
 ·exact absurd hd (dec_ne _)
 have:=zj6 z.natAbs c (by rw [hd];simp)
 rw [zi2,if_neg (fun e=>by rw [e] at this;simp at this)]
theorem zp5 (n:Nat):zf3 (Lib.decDigits n)=true:=by
 simp only [zf3,Bool.and_eq_true,decide_eq_true_eq,List.all_eq_true]
 exact ⟨zo2 n,fun c hc=>zH2.2 (zj6 n c hc)⟩
theorem zS3 (z:Int) {m:Nat} (h:(Lib.itoa z).length≤m):z.natAbs<10 ^ m:=by
 have key:∀ n:Nat,n<10 ^ (Lib.decDigits n).length:=by
  intro n
  induction n using Nat.strongRecOn with
  | _ n ih=>
   by_cases h1:n<10
   ·rw [zd3 h1];simpa using h1
   rw [zg3 (by omega),List.length_append,List.length_singleton,Nat.pow_succ]
   have:=ih (n/10) (by omega)
   omega
 have h1:=key z.natAbs
 have h2:(Lib.decDigits z.natAbs).length≤m:=by
  by_cases hz:z<0
  ·rw [ze4 hz] at h;simp at h;omega
  rw [zb6 (by omega)] at h;exact h
 exact Nat.lt_of_lt_of_le h1 (Nat.pow_le_pow_right (by omega) h2)
theorem zo1 (z:Int) {m:Nat} (h:(Lib.itoa z).length≤m):z.natAbs<2 ^ (4*m):=by
 have:=zS3 z h
 rw [Nat.pow_mul]
 exact Nat.lt_of_lt_of_le this (Nat.pow_le_pow_left (by decide) m)
end Go.Proofs.YtjhflekncldflaaGreatDoor
namespace Go.Proofs.YtjhflekncldflaaGreatDoor
open Go.RowKit

theorem zz6 {D:ByteArray} {k:Nat} (h:k<D.size):D.data.toList[k]?=some D[k]:=by
 rw [Array.getElem?_toList,Array.getElem?_eq_getElem h];rfl
end Go.Proofs.YtjhflekncldflaaGreatDoor
namespace Go.Proofs.YtjhflekncldflaaGreatDoor
open Go

def zh3:List UInt8→List UInt8 × Option (List UInt8)
 | []=>([],none)
 | c::l=>if c=47 then ([],some l) else (c::(zh3 l).1,(zh3 l).2)
def zt7 (s:List UInt8):List UInt8:=(zh3 s).1
def zD4 (s:List UInt8):List UInt8:=(zh3 s).2.getD [49]
theorem zv5:∀ s,s=(match (zh3 s).2 with | none=>(zh3 s).1 | some d=>(zh3 s).1++47::d)
 | []=>rfl
 | c::l=>by
  have ih:=zv5 l
  unfold zh3
  by_cases h:c=47
  ·rw [if_pos h,h];rfl
  rw [if_neg h]
  dsimp only
  cases hd:(zh3 l).2 with
  | none=>rw [hd] at ih;dsimp only at ih ⊢;rw [← ih]
  | some d=>rw [hd] at ih;dsimp only at ih ⊢;rw [List.cons_append,← ih]
theorem zD5:∀ {s:List UInt8},(∀ c ∈ s,c≠47)→zh3 s=(s,none)
 | [],_=>rfl
 | c::l,h=>by
  unfold zh3
  rw [if_neg (h c (by simp)),zD5 (fun x hx=>h x (by simp [hx]))]
theorem zD6:∀ {a b:List UInt8},(∀ c ∈ a,c≠47)→zh3 (a++47::b)=(a,some b)
 | [],b,_=>by simp [zh3]
 | c::l,b,h=>by
  rw [List.cons_append]
  unfold zh3
  rw [if_neg (h c (by simp)),zD6 (fun x hx=>h x (by simp [hx]))]
def zl1 (l:List UInt8):Bool:=l.all (·==48)
def valZ (s:List UInt8):Int:=if s.head?=some 45 then -(zh2 (zc4 s):Int) else (zh2 (zc4 s):Int)
theorem zj7 (z:Int):valZ (Lib.itoa z)=z:=by
 unfold valZ
 rw [zi3,zr1]
 by_cases h:z<0
 ·rw [ze4 h,List.head?_cons,if_pos rfl];omega
 rw [zb6 (by omega),if_neg]
 ·omega
 intro e
 have:=zj6 z.natAbs 45 (List.mem_of_head? e)
 simp at this
def ck2 (s:List UInt8) (most:Nat):Int:=
 if most<s.length then 5 else
 if (zf3 (zc4 (zt7 s))&&zf3 (zD4 s))=false then 14 else
 if zl1 (zD4 s)=true then 19 else
 if (zD2 (zt7 s)||((zD4 s)[0]?==some 48))=true then 3 else
 if (decide ((zt7 s).length<s.length)&&((zD4 s==[49])||(Int.gcd (valZ (zt7 s)) (valZ (zD4 s)) !=1)))=true then 3 else 0
theorem zA3 (s:List UInt8):(zt7 s).length<s.length↔(zh3 s).2≠none:=by
 have h:=zv5 s
 unfold zt7
 cases hd:(zh3 s).2 with
 | none=>rw [hd] at h;dsimp only at h;rw [← h];simp
 | some d=>
  rw [hd] at h;dsimp only at h
  have:s.length=(zh3 s).1.length+(d.length+1):=by
   conv=>lhs;rw [h]
   simp
  simp;omega
theorem zK5 {d:List UInt8} (h1:zf3 d=true) (h2:(d[0]?==some 48)=false):Lib.decDigits (zh2 d)=d∧0<zh2 d:=by
 obtain ⟨a,b⟩:=zt8 h1
 exact zC8 d b a (fun c hc e=>by
  have:c=48:=by rw [← UInt8.toNat_inj];exact e
  rw [hc,this] at h2
  simp at h2)
theorem zA4 {s:List UInt8} {most:Nat} (h:ck2 s most=0):(∃ q:Rat,s=zd4 q)∧s.length≤most:=by
 unfold ck2 at h
 split at h
 ·exact absurd h (by decide)
 rename_i hlen
 split at h
 ·exact absurd h (by decide)
 rename_i hd
 split at h
 ·exact absurd h (by decide)
 split at h
 ·exact absurd h (by decide)
 rename_i hb
 split at h
 ·exact absurd h (by decide)
 rename_i hg
 refine ⟨?_,by omega⟩
 have hb':zD2 (zt7 s)=false∧((zD4 s)[0]?==some 48)=false:=by
  cases h1:zD2 (zt7 s)<;>cases h2:((zD4 s)[0]?==some 48)<;>simp [h1,h2] at hb ⊢
 have aa:zf3 (zc4 (zt7 s))=true∧zf3 (zD4 s)=true:=by
  cases h1:zf3 (zc4 (zt7 s))<;>cases h2:zf3 (zD4 s)<;>simp [h1,h2] at hd ⊢
 obtain ⟨z,hz⟩:=zD3 aa.1 hb'.1
 obtain ⟨hD,ac⟩:=zK5 aa.2 hb'.2
 have hs:=zv5 s
 cases hc:(zh3 s).2 with
 | none=>
  rw [hc] at hs;dsimp only at hs
  refine ⟨(z:Rat),?_⟩
  rw [zS6 (Rat.den_intCast _),Rat.num_intCast,← hz]
  exact hs
 | some d=>
  have hdd:zD4 s=d:=by unfold zD4;rw [hc];rfl
  have hlt:=(zA3 s).2 (by rw [hc];simp)
  rw [hdd] at hD ac
  have hvd:valZ d=(zh2 d:Int):=by
   have:=zj7 ((zh2 d:Nat):Int)
   rw [zb6 (by omega),Int.natAbs_natCast,hD] at this
   exact this
  have e1:valZ (zt7 s)=z:=by rw [hz,zj7]
  rw [hdd,e1,hvd,decide_eq_true hlt,Bool.true_and] at hg
  have hg':¬ (d==[49])=true∧Int.gcd z (zh2 d:Int)=1:=by
   simp only [Bool.or_eq_true,bne_iff_ne,ne_eq,not_or,Classical.not_not] at hg
   exact hg
  have h1:zh2 d≠1:=fun e=>hg'.1 (by
   rw [← hD,e,zd3 (by omega)];rfl)
  have hcop:Nat.Coprime z.natAbs (zh2 d):=hg'.2
  refine ⟨⟨z,zh2 d,by omega,hcop⟩,?_⟩
  have e2:Lib.itoa ((zh2 d:Nat):Int)=d:=by rw [zb6 (by omega),Int.natAbs_natCast,hD]
  rw [zS7 (by exact h1)]
  rw [hc] at hs;dsimp only at hs
  show s=Lib.itoa z++[47]++Lib.itoa ((zh2 d:Nat):Int)
  rw [e2,← hz,List.append_assoc]
  exact hs
theorem zs0 (z:Int):∀ c ∈ Lib.itoa z,c≠47:=by
 intro c hc e
 subst e
 by_cases h:z<0
 ·rw [ze4 h] at hc
  rcases List.mem_cons.1 hc with h1 | h1
  ·exact absurd h1 (by decide)
  have:=zj6 _ _ h1;simp at this
 rw [zb6 (by omega)] at hc
 have:=zj6 _ _ hc;simp at this
theorem zp6 (q:Rat):zh3 (zd4 q)=(Lib.itoa q.num,if q.den=1 then none else some (Lib.itoa (q.den:Int))):=by
 unfold zd4
 by_cases h:q.den=1
 ·rw [if_pos h,if_pos h,zD5 (zs0 _)]
 rw [if_neg h,if_neg h,List.append_assoc]
 exact zD6 (zs0 _)
theorem zl8 (q:Rat):zt7 (zd4 q)=Lib.itoa q.num:=by unfold zt7;rw [zp6]
theorem zv6 (q:Rat):zD4 (zd4 q)=Lib.itoa (q.den:Int):=by
 unfold zD4;rw [zp6]
 by_cases h:q.den=1
 ·rw [if_pos h,h];exact itoa_one.symm
 rw [if_neg h];rfl
end Go.Proofs.YtjhflekncldflaaGreatDoor
namespace Go.Proofs.YtjhflekncldflaaGreatDoor
open Go.RowKit

theorem itoa_n (n:Nat) (h1:n<1000000000) {w:World} (ht:Tab w):
  Calls Tryz.prog 88 #[.int .i64 (n:Int)] w fun e w'=>e=.returned (.string ⟨(Lib.decDigits n).toArray⟩)∧Gr w w':=itoa_t n (by omega) (by omega) ht
theorem short9 {ao:Option Addr} {la ca u:Nat} {w:World} (h:Mag w ao la ca (u:Int)) (hl:la≤1000000):
  Calls Tryz.prog 87 #[.slice ao la ca,.int .u32 1000000000] w fun e w'=>
   (∃ go k cap,e=.returned (.tuple #[.slice go k cap,.int .u32 ((u % 1000000000:Nat):Int)])∧Mag w' go k cap ((u/1000000000:Nat):Int))∧Gr w w':=
 zS9 ao la ca u 1000000000 w (by omega) h (by omega) (by omega)
theorem Mag.pos0 {w:World} {ao:Option Addr} {la ca u:Nat} (h:Mag w ao la ca (u:Int)) (hb:decide ((0:Int)<(la:Int))=true):0<u:=by
 have h0:(0:Int)<la:=by simpa using hb
 rcases Nat.eq_zero_or_pos u with e | e
 ·have:=h.nl.len_zero.2 (by omega);omega
 exact e
theorem Mag.zero0 {w:World} {ao:Option Addr} {la ca u:Nat} (h:Mag w ao la ca (u:Int)) (hb:decide ((0:Int)<(la:Int))=false):u=0:=by
 have h0:¬ (0:Int)<la:=by simpa using hb
 have:=h.nl.len_zero.1 (by omega)
 omega
theorem Mag.len9 {w:World} {ao:Option Addr} {la ca u k:Nat} (h:Mag w ao la ca (u:Int)) (hu:u<2 ^ k) (hk:k≤1000000):la≤1000000:=by
 have:=h.nl.len_sz (show Sz k (u:Int) by unfold Sz;simpa using hu)
 omega
end Go.Proofs.YtjhflekncldflaaGreatDoor
namespace Go.Proofs.YtjhflekncldflaaGreatDoor
set_option maxRecDepth 100000
set_option maxHeartbeats 4000000
open Go.RowKit

theorem text_pos {k N:Nat} {s:Bool} {ao:Option Addr} {la ca:Nat} {w:World} (ha:Mag w ao la ca (N:Int)) (hN:0<N) (hNk:N<2 ^ k) (_hk:k≤900000) (ht:Tab w):
    Calls Tryz.prog 62 #[.agg #[.bool (s),.slice ao la ca]] w fun e w'=>e=.returned (sV ((if s then [45] else [])++Lib.decDigits N))∧Gr w w':=by
 have hla:0<la:=by
    rcases Nat.eq_zero_or_pos la with e | e
    · have:=ha.nl.len_zero.1 e;omega
    exact e
 have e0:((la:Int)==(0:Int))=false:=by simp;omega
 go_enter Tryz.func62,Tryz.ntmps62
 have hB:=Gr.refl w
 refine wp_seq_k (fun K1 k1=>rg [0,1] ?_)
 refine se ?_
 refine eb 60 #[.bool (s),.slice ao la ca] 1 hB fun b2 w2 g2 L2 o2 q2 hB=>?_
 simp only [p3,p4]
 refine sv 2 (sV []) (za0 (k1 _ _ ?_))
 refine wp_seq_k (fun K3 k3=>wp_seq_k (fun K4 k4=>rg [0,1,2,3] (sv 9 (pT b2 1) ?_)))
 refine sw 10 (.slice ao la ca) rfl (rk 58 1 L2) ?_
 refine sv 11 (iT (la:Int)) ?_
 refine sw 12 (.bool false) rfl (RunV.bool (x:=((la:Int)==(0:Int))) (rvk (by kernel_rfl)) e0) ?_
 refine za0 (k4 _ _ ?_)
 refine wp_cond_false rfl ?_
 refine wp_skip ?_
 refine k3 _ _ ?_
 refine wp_seq_k (fun K5 k5=>rg [0] (sv 3 (sN) ?_))
 refine za0 (k5 _ _ ?_)
 refine wp_seq_k (fun K6 k6=>wp_seq_k (fun K7 k7=>rg [0,1,2] (sv 13 (pT b2 1) ?_)))
 refine sw 14 (.slice ao la ca) rfl (rk 58 1 L2) ?_
 refine sv 4 (.slice ao la ca) (za0 (k7 _ _ ?_))
 refine wp_block ?_
 replace ha:=ha.kp g2.kp
 refine zb1 (a:=⟨List.toArray ?l8,[]⟩) (fun n a w'=>∃ (u:Nat) (L:List (List UInt8)) (v:Value) (mo:Option Addr) (ml:Nat) (mc:Nat) (u8:Nat→Value),u=n∧a=⟨[u8 0,pT b2 0,sV [],v,.slice mo ml mc,u8 5,u8 6,u8 7,undef,u8 9,u8 10,u8 11,.bool false,u8 13,u8 14,u8 15,u8 16,u8 17,u8 18,u8 19,u8 20,u8 21,u8 22,u8 23,u8 24,u8 25,u8 26,u8 27,u8 28,u8 29,u8 30,u8 31,u8 32,u8 33,u8 34,u8 35,u8 36,u8 37,u8 38,u8 39,undef,undef,undef,undef,undef,undef,undef,undef,undef].toArray,[]⟩∧L++zH3 u=zH3 N∧u<2 ^ k∧Mag w' mo ml mc (u:Int)∧OwnS w' 9 w.heap.size v (L.map ze3)∧Lc w' b2 #[.bool (s),.slice ao la ca] 60∧Gr w w') (N) ?_ ?_
 ·exact ⟨N,[],sN,ao,la,ca,(fun i=>List.getD ?l8 i undef),rfl,rfl,(by simp),hNk,ha,OwnS.nil _ _ _,L2,hB⟩
 rintro n8 a8 w8 ⟨u,L,v,mo,ml,mc,u8,rfl,rfl,hX,hu,hm,hown,L2,hB⟩ K8 k8
 have hln:L.length≤1000000:=by have h1:=zK7 k N hNk;rw [← hX,List.length_append] at h1;omega
 have h9:=dec9 u
 have bi:(Lib.repeatL [48] (9 - (Lib.decDigits (u % 1000000000)).length)).length≤9:=by rw [Lib.repeatL_length];simp
 refine wp_seq_k (fun K9 k9=>wp_seq_k (fun a6 aX=>rg [0,1,2] (sv 15 (.slice mo ml mc) ?_)))
 refine sv 16 (iT (ml:Int)) ?_
 refine sv 17 (.bool (decide ((0:Int)<(ml:Int)))) (za0 (aX _ _ ?_))
 refine wp_cond_split rfl (fun ai=>?_) (fun ai=>?_)
 ·have aw:=ai
  refine wp_skip ?_
  refine k9 _ _ ?_
  refine wp_block ?_
  refine wp_seq_k (fun a4 aQ=>rg [0,1,2,3,4,5,6] (sv 19 (.slice mo ml mc) ?_))
  refine se ?_
  refine ec 20 (short9 hm (hm.len9 hu (by omega))) ?_
  rintro bb bn ⟨⟨ac,ad,aa,rfl,ah⟩,aq⟩
  refine ⟨_,rfl,?_⟩
  replace hB:=hB.trans aq
  simp only [p3,p4]
  refine sv 18 (.tuple #[.slice ac ad aa,.int .u32 ((u % 1000000000:Nat):Int)]) ?_
  refine sv 21 (.slice ac ad aa) ?_
  refine sv 22 (.int .u32 ((u % 1000000000:Nat):Int)) ?_
  refine sv 5 (.slice ac ad aa) ?_
  refine sv 6 (.int .u32 ((u % 1000000000:Nat):Int)) (za0 (aQ _ _ ?_))
  refine wp_seq_k (fun a9 aS=>rg [0,1,2,3] (sv 23 (.int .u32 ((u % 1000000000:Nat):Int)) ?_))
  refine sw 24 (iT ((u % 1000000000:Nat):Int)) rfl (rwI ((u % 1000000000:Nat):Int)) ?_
  refine se ?_
  refine ec 25 (itoa_n (u % 1000000000) (by omega) (ht.gr hB)) ?_
  rintro a2 bk ⟨rfl,ak⟩
  refine ⟨_,rfl,?_⟩
  replace hB:=hB.trans ak
  simp only [p3,p4]
  refine sv 7 (sV (Lib.decDigits (u % 1000000000))) (za0 (aS _ _ ?_))
  refine wp_seq_k (fun ba aG=>wp_seq_k (fun bA aL=>rg [0,1,2] (sv 26 (.slice ac ad aa) ?_)))
  refine sv 27 (iT (ad:Int)) ?_
  refine sv 28 (.bool (decide ((0:Int)<(ad:Int)))) (za0 (aL _ _ ?_))
  refine wp_cond_split rfl (fun al=>?_) (fun al=>?_)
  ·refine rg [0,1,2,3,4,5,6] (sv 29 (sV (Lib.decDigits (u % 1000000000))) ?_)
   refine sv 30 (iT ((Lib.decDigits (u % 1000000000)).length:Int)) ?_
   refine sw 31 (iT (9 - ((Lib.decDigits (u % 1000000000)).length:Int))) rfl (rwI (9 - ((Lib.decDigits (u % 1000000000)).length:Int))) ?_
   refine se ?_
   refine ec 32 (repeat9 (Lib.decDigits (u % 1000000000)).length (dec9 u) _) ?_
   rintro bt bh ⟨rfl,av⟩
   refine ⟨_,rfl,?_⟩
   replace hB:=hB.trans av
   simp only [p3,p4]
   refine sv 33 (sV (Lib.decDigits (u % 1000000000))) ?_
   refine sw 34 (sV ((Lib.repeatL [48] (9 - (Lib.decDigits (u % 1000000000)).length))++(Lib.decDigits (u % 1000000000)))) rfl (zO4 9 9 _ _ (Lib.repeatL [48] (9 - (Lib.decDigits (u % 1000000000)).length)) (Lib.decDigits (u % 1000000000)) rfl rfl rfl (by omega)) ?_
   refine sv 7 (sV ((Lib.repeatL [48] (9 - (Lib.decDigits (u % 1000000000)).length))++(Lib.decDigits (u % 1000000000)))) (za0 (aG _ _ ?_))
   refine wp_seq_k (fun bp aM=>rg [0,1,2,3,4] (sv 35 v ?_))
   refine sv 36 (sV ((Lib.repeatL [48] (9 - (Lib.decDigits (u % 1000000000)).length))++(Lib.decDigits (u % 1000000000)))) ?_
   refine se ?_
   refine zc5 9 1 #[sV ((Lib.repeatL [48] (9 - (Lib.decDigits (u % 1000000000)).length))++(Lib.decDigits (u % 1000000000)))] (some 37) rfl (fun _=>by kernel_rfl) (fun aW bo ay aZ a1=>?_)
   replace L2:=L2.gr (aq.trans (ak.trans av))
   replace hB:=hB.trans ay
   simp only [zd1,p3,p4]
   refine se ?_
   replace hown:=hown.gr (aq.trans (ak.trans (av.trans ay)))
   refine zw6 _ _ 170 9 w.heap.size (sV []) v _ aW (sV ((Lib.repeatL [48] (9 - (Lib.decDigits (u % 1000000000)).length))++(Lib.decDigits (u % 1000000000)))) 1 (some 38) 16 rfl rfl rfl rfl hown aZ rfl w hB (Nat.le_refl _) (Below.size hB) (by rw [List.length_map];exact hln) (by decide) (by kernel_rfl) (by kernel_rfl) rfl (fun aI br ae ap az=>?_)
   replace hB:=az
   replace ae:=OwnS.snoc (f:=ze3) ae
   simp only [zd1,p3,p4]
   refine sv 3 aI (za0 (aM _ _ ?_))
   refine rg [0,1] (sv 39 (.slice ac ad aa) ?_)
   refine sv 4 (.slice ac ad aa) ?_
   refine za0 ?_
   have aE:=ak.kp.trans (av.kp.trans (ay.kp.trans (ap.kp (by decide))))
   replace ah:=ah.kp aE
   replace L2:=ap.lc (L2.gr ay) (by decide)
   refine k8 (u/1000000000) ⟨List.toArray ?l24,[]⟩ _ (Nat.div_lt_self (Mag.pos0 hm aw) (by omega)) ?_
   exact ⟨u/1000000000,_,aI,ac,ad,aa,(fun i=>List.getD ?l24 i undef),rfl,rfl,zD8 hX (Mag.pos0 hm aw) (grp_hi (Mag.pos0 ah al)),Nat.lt_of_le_of_lt (Nat.div_le_self _ _) hu,ah,ae,L2,hB⟩
  refine wp_skip ?_
  refine aG _ _ ?_
  refine wp_seq_k (fun bw aY=>rg [0,1,2,3,4] (sv 35 v ?_))
  refine sv 36 (sV (Lib.decDigits (u % 1000000000))) ?_
  refine se ?_
  refine zc5 9 1 #[sV (Lib.decDigits (u % 1000000000))] (some 37) rfl (fun _=>by kernel_rfl) (fun aU bj ax aN bg=>?_)
  replace L2:=L2.gr (aq.trans ak)
  replace hB:=hB.trans ax
  simp only [zd1,p3,p4]
  refine se ?_
  replace hown:=hown.gr (aq.trans (ak.trans ax))
  refine zw6 _ _ 170 9 w.heap.size (sV []) v _ aU (sV (Lib.decDigits (u % 1000000000))) 1 (some 38) 16 rfl rfl rfl rfl hown aN rfl w hB (Nat.le_refl _) (Below.size hB) (by rw [List.length_map];exact hln) (by decide) (by kernel_rfl) (by kernel_rfl) rfl (fun aH a0 af au aD=>?_)
  replace hB:=aD
  replace af:=OwnS.snoc (f:=ze3) af
  simp only [zd1,p3,p4]
  refine sv 3 aH (za0 (aY _ _ ?_))
  refine rg [0,1] (sv 39 (.slice ac ad aa) ?_)
  refine sv 4 (.slice ac ad aa) ?_
  refine za0 ?_
  have aC:=ak.kp.trans (ax.kp.trans (au.kp (by decide)))
  replace ah:=ah.kp aC
  replace L2:=au.lc (L2.gr ax) (by decide)
  refine k8 (u/1000000000) ⟨List.toArray ?l29,[]⟩ _ (Nat.div_lt_self (Mag.pos0 hm aw) (by omega)) ?_
  exact ⟨u/1000000000,_,aH,ac,ad,aa,(fun i=>List.getD ?l29 i undef),rfl,rfl,zD8 hX (Mag.pos0 hm aw) (grp_lo (by rw [Mag.zero0 ah al];omega)),Nat.lt_of_le_of_lt (Nat.div_le_self _ _) hu,ah,af,L2,hB⟩
 have hz:=Mag.zero0 hm ai
 subst hz
 rw [zp7,List.append_nil] at hX
 have aJ:0<L.length:=by rw [hX];exact zS5 hN
 have htx:L.reverse.flatten=Lib.decDigits N:=by rw [hX];exact zS4 N N (Nat.le_refl _) hN
 have hfl:L.reverse.flatten.length≤140737488355328:=by rw [htx];have:=zh5 k N hNk;omega
 refine wp_exit ?_
 simp only [Exit.then,Exit.inBlock,↓reduceIte]
 refine k6 _ _ ?_
 refine wp_seq_k (fun bs aV=>rg [0,1] (sv 40 v ?_))
 refine se ?_
 refine zh0 (some 41) rfl (by kernel_rfl) (zK4 hown aJ) ?_
 rintro bu bm ⟨rfl,ar,aB,aA⟩
 refine ⟨_,rfl,?_⟩
 replace hB:=aA _ hB (Nat.le_refl _)
 simp only [zd1,p3,p4]
 refine za0 (aV _ _ ?_)
 refine wp_seq_k (fun a3 aT=>rg [0,1,2] (sv 42 v ?_))
 refine se ?_
 refine ec 43 (join_own ar (by rw [List.length_reverse];exact aJ) hfl (by rw [List.length_reverse];exact hln)) ?_
 rintro a5 bf ⟨rfl,aF⟩
 refine ⟨_,rfl,?_⟩
 replace hB:=hB.trans aF
 simp only [p3,p4]
 refine sv 8 (sV (((L).reverse).flatten)) (za0 (aT _ _ ?_))
 refine wp_seq_k (fun bl aO=>wp_seq_k (fun bv aP=>rg [0,1] (sv 44 (pT b2 0) ?_)))
 replace L2:=(aB.lc L2 (by decide)).gr aF
 refine sw 45 (.bool (s)) rfl (rk 4 0 L2) ?_
 refine za0 (aP _ _ ?_)
 refine wp_cond_split rfl (fun aj=>?_) (fun aj=>?_)
 ·refine wp_seq_k (fun a7 aR=>rg [0,1,2] (sv 46 (sV (((L).reverse).flatten)) ?_))
  refine sw 47 (sV (([45])++(((L).reverse).flatten))) rfl (zO4 9 9 _ _ ([45]) (((L).reverse).flatten) rfl rfl rfl (by simp only [List.length_cons,List.length_nil];omega)) ?_
  refine sv 2 (sV (([45])++(((L).reverse).flatten))) (za0 (aR _ _ ?_))
  refine wp_ret ?_
  simp only [Exit.then]
  refine bodyPost_ret (v:=(sV (([45])++(((L).reverse).flatten)))) (za3 rfl rfl) rfl ⟨?_,hB⟩
  exact (by rw [aj];show Ending.returned _=_;rw [htx];rfl)
 refine wp_skip ?_
 refine aO _ _ ?_
 refine wp_seq_k (fun bq aK=>rg [0,1] (sv 48 (sV (((L).reverse).flatten)) ?_))
 refine sv 2 (sV (((L).reverse).flatten)) (za0 (aK _ _ ?_))
 refine wp_ret ?_
 refine bodyPost_ret (v:=(sV (((L).reverse).flatten))) (za3 rfl rfl) rfl ⟨?_,hB⟩
 exact (by rw [aj];show Ending.returned _=_;rw [htx];rfl)

theorem zU2 {ao:Option Addr} {ca:Nat} (w:World):
    Calls Tryz.prog 62 #[.agg #[.bool false,.slice ao 0 ca]] w fun e w'=>e=.returned (.string ⟨#[48]⟩)∧Gr w w':=by
 go_enter Tryz.func62,Tryz.ntmps62
 have hB:=Gr.refl w
 refine wp_seq_k (fun K1 k1=>rg [0,1] ?_)
 refine se ?_
 refine eb 60 #[.bool false,.slice ao 0 ca] 1 hB fun b2 w2 g2 L2 o2 q2 hB=>?_
 simp only [p3,p4]
 refine sv 2 (sV []) (za0 (k1 _ _ ?_))
 refine wp_seq_k (fun K3 k3=>wp_seq_k (fun K4 k4=>rg [0,1,2,3] (sv 9 (pT b2 1) ?_)))
 refine sw 10 (.slice ao 0 ca) rfl (rk 58 1 L2) ?_
 refine sv 11 (iT 0) ?_
 refine sv 12 (.bool true) (za0 (k4 _ _ ?_))
 refine wp_cond_true rfl ?_
 refine wp_seq_k (fun K5 k5=>rg [0] (sv 2 (sV [48]) ?_))
 refine za0 (k5 _ _ ?_)
 refine wp_ret ?_
 simp only [Exit.then]
 refine bodyPost_ret (v:=(sV [48])) (za3 rfl rfl) rfl ⟨?_,hB⟩
 exact rfl

theorem zU3 {k:Nat} {x y:Value} {z:Int} {w:World} (hz:IsInt w k x y z) (hk:k≤900000) (ht:Tab w):
  Calls Tryz.prog 62 #[.agg #[x,y]] w fun e w'=>e=.returned (sV (Lib.itoa z))∧Gr w w':=by
 obtain ⟨ao,la,ca,rfl,rfl,ha,hs⟩:=hz
 by_cases h0:z=0
 ·subst h0
  have:la=0:=ha.nl.len_zero.2 rfl
  subst this
  have e1:decide ((0:Int)<0)=false:=by decide
  have e2:Lib.itoa 0=[48]:=by unfold Lib.itoa;rw [if_neg (by omega)];exact zd3 (by decide)
  rw [e1,e2]
  exact zU2 w
 have:=text_pos (s:=decide (z<0)) ha (by omega) (by unfold Sz at hs;exact hs) hk ht
 refine this.mono ?_
 rintro e w1 ⟨he,g⟩
 refine ⟨?_,g⟩
 rw [he]
 unfold Lib.itoa
 by_cases hz:z<0
 ·simp [hz]
 have:z.toNat=z.natAbs:=by omega
 simp [hz,this]

end Go.Proofs.YtjhflekncldflaaGreatDoor
namespace Go.Proofs.YtjhflekncldflaaGreatDoor
open Go.RowKit

theorem zu5 {k:Nat} {z:Int} (h:Sz k z):(Lib.itoa z).length≤k+2:=by
 unfold Lib.itoa
 have h1:=zh5 k z.natAbs h
 split
 ·simp;omega
 have:z.toNat=z.natAbs:=by omega
 rw [this];omega
theorem zF5 {N D:Int} (h0:0<D):(Rat.divInt N D).num=N/(Int.gcd N D:Int)∧((Rat.divInt N D).den:Int)=D/(Int.gcd N D:Int)∧0<(Int.gcd N D:Int):=by
 refine ⟨by rw [Rat.num_divInt,Int.sign_eq_one_of_pos h0,Int.one_mul,Int.gcd_comm],?_,?_⟩
 ·rw [Rat.den_divInt,if_neg (by omega),Int.gcd_comm,Int.natCast_ediv]
  congr 1
  omega
 have:Int.gcd N D≠0:=by rw [Ne,Int.gcd_eq_zero_iff];omega
 omega
theorem sz_div {k:Nat} {N g:Int} (hN:Sz k N) (hg:0<g):Sz k (N/g):=by
 refine hN.of_le ?_
 rcases Int.lt_or_le N 0 with h | h
 ·have h1:N≤N/g:=by
   rw [Int.le_ediv_iff_mul_le hg]
   have:N*g≤N*1:=Int.mul_le_mul_of_nonpos_left (by omega) (by omega)
   omega
  have h2:N/g<0:=Int.ediv_neg_of_neg_of_pos h hg
  omega
 have h1:N/g≤N:=Int.ediv_le_self _ h
 have h2:0≤N/g:=Int.ediv_nonneg h (by omega)
 omega
end Go.Proofs.YtjhflekncldflaaGreatDoor
namespace Go.Proofs.YtjhflekncldflaaGreatDoor
def RZ (a d:Nat) (q:Rat):Prop:=Sz a q.num∧Sz d (q.den:Int)
theorem RZ.mono {a d b e:Nat} {q:Rat} (h:RZ a d q) (h1:a≤b) (h2:d≤e):RZ b e q:=⟨h.1.mono h1,h.2.mono h2⟩
theorem zW8 {a d:Nat} {x y:Int} (hx:Sz a x) (hy:Sz d y) (h0:y≠0):RZ a d (Rat.divInt x y):=by
 have key:∀ {x y:Int},Sz a x→Sz d y→0<y→RZ a d (Rat.divInt x y):=by
  intro x y hx hy h0
  obtain ⟨h1,h2,h3⟩:=zF5 (N:=x) h0
  unfold RZ
  rw [h1,h2]
  exact ⟨sz_div hx h3,sz_div hy h3⟩
 rcases Int.lt_or_gt_of_ne h0 with h | h
 ·have:=key hx.neg hy.neg (by omega)
  rwa [Rat.neg_divInt_neg] at this
 exact key hx hy h
theorem rz_of {a d:Nat} {q:Rat} (x y:Int) (e:q*(y:Rat)=(x:Rat)) (hx:Sz a x) (hy:Sz d y) (h0:y≠0):RZ a d q:=by
 have h1:(y:Rat)≠0:=fun h=>h0 (Rat.intCast_inj.1 (by rw [h];rfl))
 have:q=Rat.divInt x y:=by rw [Rat.divInt_eq_div,← e];grind
 rw [this];exact zW8 hx hy h0
theorem nd (q:Rat):q*((q.den:Int):Rat)=(q.num:Rat)∧(q.den:Int)≠0:=by
 have hd:(q.den:Int)≠0:=by have:=q.den_pos;omega
 have h1:((q.den:Int):Rat)≠0:=fun h=>hd (Rat.intCast_inj.1 (by rw [h];rfl))
 refine ⟨?_,hd⟩
 have h2:(q.num:Rat)/((q.den:Int):Rat)=q:=by rw [← Rat.divInt_eq_div];exact Rat.num_divInt_den q
 have h3:(q.num:Rat)=q*((q.den:Int):Rat):=by grind
 exact h3.symm
theorem RZ.mul {a d b e:Nat} {x y:Rat} (hx:RZ a d x) (hy:RZ b e y):RZ (a+b) (d+e) (x*y):=by
 obtain ⟨h1,h2⟩:=nd x
 obtain ⟨h3,h4⟩:=nd y
 refine rz_of (x.num*y.num) ((x.den:Int)*(y.den:Int)) ?_ (hx.1.mul hy.1) (hx.2.mul hy.2) (Int.mul_ne_zero h2 h4)
 rw [Rat.intCast_mul,Rat.intCast_mul]
 grind
theorem RZ.add {a d b e:Nat} {x y:Rat} (hx:RZ a d x) (hy:RZ b e y):RZ (max (a+e) (b+d)+1) (d+e) (x+y):=by
 obtain ⟨h1,h2⟩:=nd x
 obtain ⟨h3,h4⟩:=nd y
 refine rz_of (x.num*(y.den:Int)+y.num*(x.den:Int)) ((x.den:Int)*(y.den:Int)) ?_ (((hx.1.mul hy.2).mono (Nat.le_max_left ..)).add' ((hy.1.mul hx.2).mono (Nat.le_max_right ..))) (hx.2.mul hy.2) (Int.mul_ne_zero h2 h4)
 rw [Rat.intCast_mul,Rat.intCast_add,Rat.intCast_mul,Rat.intCast_mul]
 grind
theorem RZ.neg {a d:Nat} {x:Rat} (hx:RZ a d x):RZ a d (-x):=by
 unfold RZ
 rw [Rat.neg_num,Rat.neg_den]
 exact ⟨hx.1.neg,hx.2⟩
theorem RZ.int {a:Nat} {z:Int} (h:Sz a z):RZ a 1 (z:Rat):=by
 unfold RZ
 rw [Rat.num_intCast,Rat.den_intCast]
 exact ⟨h,by unfold Sz;decide⟩
theorem RZ.zero (a d:Nat) (hd:0<d):RZ a d 0:=(RZ.int (a:=a) (z:=0) (Sz.zero a)).mono (Nat.le_refl _) hd
theorem num_ne {p:Rat} (h:p≠0):p.num≠0:=fun e=>h (Rat.num_eq_zero.1 e)
theorem RZ.inv {a d:Nat} {x:Rat} (hx:RZ a d x) (h0:x≠0):RZ d a (1/x):=by
 obtain ⟨h1,h2⟩:=nd x
 refine rz_of (x.den:Int) x.num ?_ hx.2 hx.1 (num_ne h0)
 grind
theorem zW9 {A D a d:Nat} {x c y p:Rat} (hx:RZ A D x) (hy:RZ A D y) (hc:RZ a d c) (hp:RZ a d p) (h0:p≠0):RZ (A+D+a+d+1) (2*D+a+d) (x - c*(y*(1/p))):=by
 have h1:RZ (a+(A+d)) (d+(D+a)) (-(c*(y*(1/p)))):=(hc.mul (hy.mul (hp.inv h0))).neg
 obtain ⟨x1,x2⟩:=nd x
 obtain ⟨y1,y2⟩:=nd y
 obtain ⟨c1,c2⟩:=nd c
 obtain ⟨p1,p2⟩:=nd p
 refine rz_of (x.num*((c.den:Int)*(y.den:Int)*p.num)+(-(c.num*y.num*(p.den:Int)))*(x.den:Int)) ((x.den:Int)*((c.den:Int)*(y.den:Int)*p.num)) ?_ ?_ ?_ ?_
 ·rw [Rat.intCast_mul,Rat.intCast_mul,Rat.intCast_mul,Rat.intCast_add,Rat.intCast_mul,Rat.intCast_mul,Rat.intCast_mul,Rat.intCast_mul,Rat.intCast_neg,Rat.intCast_mul,Rat.intCast_mul]
  generalize ((x.den:Int):Rat)=xd at*
  generalize ((y.den:Int):Rat)=yd at*
  generalize ((c.den:Int):Rat)=cd at*
  generalize ((p.den:Int):Rat)=pd at*
  rw [← x1,← y1,← c1,← p1]
  grind
 ·refine ((hx.1.mul ((hc.2.mul hy.2).mul hp.1)).mono (m:=A+D+a+d) (by omega)).add' ((((hc.1.mul hy.1).mul hp.2).neg.mul hx.2).mono (by omega))
 ·exact (hx.2.mul ((hc.2.mul hy.2).mul hp.1)).mono (by omega)
 exact Int.mul_ne_zero x2 (Int.mul_ne_zero (Int.mul_ne_zero c2 y2) (num_ne h0))
theorem zX0 {A D a d:Nat} {y p:Rat} (hy:RZ A D y) (hp:RZ a d p) (h0:p≠0):RZ (A+d) (D+a) (y*(1/p)):=hy.mul (hp.inv h0)

structure Bd where
 a:Nat
 d:Nat
 A:Nat
 D:Nat
 e:Nat
def Bd.nx (z:Bd):Bd:=⟨2*z.a+2*z.d+1,z.a+3*z.d,z.A+z.D+z.a+z.d+1,2*z.D+z.a+z.d,z.e+z.a+z.d⟩
def Bd.it (z:Bd):Nat→Bd
 | 0=>z
 | n+1=>(z.it n).nx
structure Bd.le (z y:Bd):Prop where
 a:z.a≤y.a
 d:z.d≤y.d
 A:z.A≤y.A
 D:z.D≤y.D
 e:z.e≤y.e
theorem Bd.le_nx (z:Bd):z.le z.nx:=⟨by simp only [Bd.nx];omega,by simp only [Bd.nx];omega,by simp only [Bd.nx];omega,by simp only [Bd.nx];omega,by simp only [Bd.nx];omega⟩
theorem Bd.le_it (z:Bd) {n m:Nat} (h:n≤m):(z.it n).le (z.it m):=by
  induction m with
  | zero => obtain rfl : n = 0 := by omega
            exact ⟨Nat.le_refl _,Nat.le_refl _,Nat.le_refl _,Nat.le_refl _,Nat.le_refl _⟩
  | succ m ih=>
    rcases Nat.lt_or_ge m n with h1 | h1
    · obtain rfl:n=m+1:=by omega
      exact ⟨Nat.le_refl _,Nat.le_refl _,Nat.le_refl _,Nat.le_refl _,Nat.le_refl _⟩
    have h2:=ih h1
    have h3:=(z.it m).le_nx
    exact ⟨Nat.le_trans h2.1 h3.1,Nat.le_trans h2.2 h3.2,Nat.le_trans h2.3 h3.3,Nat.le_trans h2.4 h3.4,Nat.le_trans h2.5 h3.5⟩
structure Bnd (R n N:Nat) (z:Bd) (s:Rd):Prop where
 fst:∀ i,i<R→∀ k,k<n→RZ z.a z.d (s.m i k)
 snd:∀ i,i<R→∀ k,n≤k→k<N→RZ z.A z.D (s.m i k)
 det:RZ z.e z.e s.d
theorem Bnd.step {R n N:Nat} {z:Bd} {s:Rd} {K:Nat} (h:Bnd R n N (z.it s.p.length) s) (hK:K<n):Bnd R n N (z.it (zq5 R K s).p.length) (zq5 R K s):=by
 unfold zq5
 split
 ·exact h
 next i hf=>
 obtain ⟨h1,h2,h3,h4⟩:=zu4 hf
 have hi:i<R:=by omega
 have hr:s.p.length<R:=by omega
 simp only [List.length_append,List.length_cons,List.length_nil,Nat.zero_add]
 rw [show z.it (s.p.length+1)=(z.it s.p.length).nx from rfl]
 generalize z.it s.p.length=y at*
 have hs:swp s.m i s.p.length s.p.length K=s.m i K:=by
  unfold swp
  by_cases e:s.p.length=i
  ·rw [if_pos e,e]
  rw [if_neg e,if_pos rfl]
 have fs:∀ j,j<R→∀ k,k<n→RZ y.a y.d (swp s.m i s.p.length j k):=fun j hj k hk=>by
  unfold swp;split
  ·exact h.fst _ hr _ hk
  split
  ·exact h.fst _ hi _ hk
  exact h.fst _ hj _ hk
 have sn:∀ j,j<R→∀ k,n≤k→k<N→RZ y.A y.D (swp s.m i s.p.length j k):=fun j hj k hk aa=>by
  unfold swp;split
  ·exact h.snd _ hr _ hk aa
  split
  ·exact h.snd _ hi _ hk aa
  exact h.snd _ hj _ hk aa
 have hp:RZ y.a y.d (swp s.m i s.p.length s.p.length K):=fs _ hr _ hK
 have h0:swp s.m i s.p.length s.p.length K≠0:=by rw [hs];exact h3
 generalize swp s.m i s.p.length=a at*
 generalize s.p.length=r at*
 refine ⟨fun j hj k hk=>?_,fun j hj k hk aa=>?_,?_⟩
 ·simp only [clr,scl,Bd.nx]
  by_cases e:j=r
  ·rw [if_pos e,if_pos trivial]
   exact (zX0 (fs _ hr _ hk) hp h0).mono (by omega) (by omega)
  rw [if_neg e,if_neg e,if_pos trivial]
  exact (zW9 (fs _ hj _ hk) (fs _ hr _ hk) (fs _ hj _ hK) hp h0).mono (by omega) (by omega)
 ·simp only [clr,scl,Bd.nx]
  by_cases e:j=r
  ·rw [if_pos e,if_pos trivial]
   exact (zX0 (sn _ hr _ hk aa) hp h0).mono (by omega) (by omega)
  rw [if_neg e,if_neg e,if_pos trivial]
  exact (zW9 (sn _ hj _ hk aa) (sn _ hr _ hk aa) (fs _ hj _ hK) hp h0).mono (by omega) (by omega)
 have hd:RZ y.e y.e (if i=r then s.d else -s.d):=by
  split
  ·exact h.det
  exact h.det.neg
 exact (hd.mul hp).mono (by simp only [Bd.nx];omega) (by simp only [Bd.nx];omega)
theorem stepR_le (R K:Nat) (s:Rd):s.p.length≤(zq5 R K s).p.length∧(zq5 R K s).p.length≤s.p.length+1:=by
 rcases stepR_p R K s with h | h<;>rw [h]<;>simp
theorem zX1 (R:Nat) (s:Rd):∀ K,(zW7 R K s).p.length≤s.p.length+K
 | 0=>Nat.le_refl _
 | K+1=>by have:=(stepR_le R K (zW7 R K s)).2;have:=zX1 R s K;simp only [zW7] at*;omega
theorem Bnd.red {R n N:Nat} {z:Bd} {m:Mx_} {d:Rat} (h:Bnd R n N z ⟨m,[],d⟩):∀ K,K≤n→Bnd R n N (z.it (zW7 R K ⟨m,[],d⟩).p.length) (zW7 R K ⟨m,[],d⟩)
 | 0,_=>h
 | K+1,hK=>(Bnd.red h K (by omega)).step hK
def RdZ (R N b:Nat) (s:Rd):Prop:=(∀ i,i<R→∀ k,k<N→RZ b b (s.m i k))∧RZ b b s.d
theorem Bnd.all {R n N b P:Nat} {z:Bd} {m:Mx_} {d:Rat} (h:Bnd R n N z ⟨m,[],d⟩) (hn:n≤P∨R≤P) (hb:max (max (z.it P).a (z.it P).d) (max (max (z.it P).A (z.it P).D) (z.it P).e)≤b):∀ K,K≤n→RdZ R N b (zW7 R K ⟨m,[],d⟩):=fun K hK=>by
 have h1:=h.red K hK
 have hl:=(zI9 R m d K).len
 have hk:=zX1 R ⟨m,[],d⟩ K
 have h2:=z.le_it (n:=(zW7 R K ⟨m,[],d⟩).p.length) (m:=P) (by simp only [List.length_nil] at hk;omega)
 have h3:=h2.1;have h4:=h2.2;have h5:=h2.3;have h6:=h2.4;have h7:=h2.5
 refine ⟨fun i hi k hk=>?_,h1.det.mono (by omega) (by omega)⟩
 rcases Nat.lt_or_ge k n with hkn | hkn
 ·exact (h1.fst i hi k hkn).mono (by omega) (by omega)
 exact (h1.snd i hi k hkn hk).mono (by omega) (by omega)
end Go.Proofs.YtjhflekncldflaaGreatDoor
namespace Go.Proofs.YtjhflekncldflaaGreatDoor
open Go.RowKit

section
variable {l:List UInt8} {most:Nat}
end
theorem head48 {D:ByteArray} (h:0<D.size):(D.data.toList[0]?==some 48)=((D[0].toNat:Int)==48):=by
 rw [zz6 h,Bool.eq_iff_iff]
 simp only [beq_iff_eq,Option.some.injEq]
 rw [← UInt8.toNat_inj]
 have:(48:UInt8).toNat=48:=rfl
 omega
theorem zP1 {k:Nat} {q:Rat} (h1:Sz k q.num) (h2:Sz k (q.den:Int)):(zd4 q).length≤2*k+5:=by
 have a:=zu5 h1
 have b:=zu5 h2
 unfold zd4
 split
 ·omega
 simp only [List.length_append,List.length_singleton];omega
set_option maxRecDepth 100000 in
set_option maxHeartbeats 2000000 in
theorem yb0 (ao:Option Addr) (la ca:Nat) (m x p:Int) (w:World) (hla:la≤900000) (ha:Mag w ao la ca m) (ad:0≤x) (al:x<4294967296) (aj:0≤p) (af:p<4294967296):
  Calls Tryz.prog 150 #[.slice ao la ca,.int .u32 x,.int .u32 p] w fun e w'=>(∃ go k cap,e=.returned (.slice go k cap)∧Mag w' go k cap (m*x+p)∧k≤la+1)∧Gr w w':=by
 go_enter Tryz.func150,Tryz.ntmps150
 go_wp2_with (at_make;refine ze0 _ rfl _ _ rfl _ _ (la+1) rfl rfl (by omega) (by omega) (by omega) ?_)
 intro w1 hO hB hsz
 go_wp2
 go_loopw [8,19] (fun c i wr=>∃ (k:Nat) (cr:Int) (d:Nat→Int),k≤la∧i=.int .i64 k∧c=.int .u64 cr∧0≤cr∧cr<4294967296∧Hid (hi (m*x+p) k=hi m k*x+cr)∧Below w.heap.size w wr∧
   Own wr w.heap.size (la+1) d∧Hid (∀ j,j<k→d j=dg (m*x+p) j)) (fun _ i _=>la - (intOf i).toNat)
 case atStart=>exact ⟨0,p,_,Nat.zero_le _,rfl,rfl,aj,af,by simp [Hid,zd9],hB,hO,fun j hj=>by omega⟩
 case round=>
  obtain ⟨k,cr,d,hk,rfl,rfl,ap,ak,hz,hB,hO,hd⟩:=hrel
  by_cases hlt:k<la
  ·obtain ⟨b1,ah,rfl,ac⟩:=(ha.row.below hB).at_ (by omega)
   have ae:=ac k hlt
   clear ac
   have d0:=zb3 m k
   have d1:=ze2 m k
   have aa:=hO.cell k (by omega)
   have hfree:=hO.free k
   have hs:=zz2 hz.out ap ak ad al
   have z0:=hs.2.2.2.2.1
   have z1:=hs.2.2.2.2.2
   have z2:dg m k*x≤18446744065119617025:=by
    have:=Int.mul_le_mul (show dg m k≤4294967295 by omega) (show x≤4294967295 by omega) ad (by omega)
    omega
   have HS:=Lib.hid hs
   clear hs
   go_wp2
   have hs:=HS.out
   go_roundw
   case rel=>
    refine ⟨k+1,_,_,by omega,by go_num,rfl,hs.2.2.1,hs.2.2.2.1,hs.2.1,hB.setCell (Nat.le_refl _) _,hO.set (by omega) _,fun j hj=>?_⟩
    by_cases e:j=k
    ·subst e;rw [zd0,hs.1]
    rw [zb7 _ _ e];exact hd.out j (by omega)
   case measure=>simp [intOf];omega
  obtain rfl:k=la:=by omega
  have aa:=hO.cell k (by omega)
  have hfree:=hO.free k
  have aq:0≤m*x+p:=by have:=Int.mul_nonneg ha.nl.nonneg ad;omega
  have htop:hi (m*x+p) (k+1)=0:=by
   have h1:=hz.out
   rw [ha.nl.top,Int.zero_mul] at h1
   rw [zc9];omega
  have hdk:dg (m*x+p) k=cr:=by
   have h1:=hz.out
   rw [ha.nl.top,Int.zero_mul] at h1
   unfold dg;omega
  have HT:=Lib.hid htop
  have HD:=Lib.hid hdk
  clear htop hdk
  go_wp2_with fail
  have ai:=(hO.set (Nat.lt_succ_self k) cr).congr (d':=dg (m*x+p)) (fun j hj=>by
   by_cases e:j=k
   ·subst e;rw [zd0,HD.out]
   rw [zb7 _ _ e];exact hd.out j (by omega))
  refine (zq4 _ _ _ (m*x+p) _ (by omega) (Nat.le_refl _) aq HT.out ai.row).mono ?_
  rintro e w3 ⟨⟨n,rfl,hm,hn⟩,rfl⟩
  go_wp2
  go_ret
  exact ⟨⟨_,_,_,rfl,hm,hn⟩,hB.setCell (Nat.le_refl _) _⟩
theorem zZ1 (l:List UInt8):∀ acc:Nat,l.foldl (fun a c=>a*10+(c.toNat - 48)) acc=acc*10 ^ l.length+zh2 l:=by
 induction l with
 | nil=>intro acc;simp [zh2]
 | cons c l ih=>
  intro acc
  have hv:zh2 (c::l)=(c.toNat - 48)*10 ^ l.length+zh2 l:=by
   show l.foldl _ (0*10+(c.toNat - 48))=_
   rw [ih];simp
  rw [List.foldl_cons,ih,hv,List.length_cons,Nat.pow_succ,Nat.add_mul]
  have:acc*10*10 ^ l.length=acc*(10 ^ l.length*10):=by grind
  omega
theorem zk4 (a b:List UInt8):zh2 (a++b)=zh2 a*10 ^ b.length+zh2 b:=by
 show (a++b).foldl _ 0=_
 rw [List.foldl_append,zZ1];rfl
theorem zZ2 (l:List UInt8) (h:∀ c ∈ l,48≤c.toNat∧c.toNat≤57):zh2 l<10 ^ l.length:=by
 induction l with
 | nil=>simp [zh2]
 | cons c l ih=>
  have h1:=zk4 [c] l
  have h2:=ih (fun x hx=>h x (by simp [hx]))
  have h3:=h c (by simp)
  have h4:zh2 [c]≤9:=by simp [zh2];omega
  rw [List.singleton_append] at h1
  rw [h1,List.length_cons,Nat.pow_succ]
  have:=Nat.mul_le_mul_right (10 ^ l.length) h4
  omega
theorem parseM:∀ (l:List UInt8) (acc:Nat),(∀ c ∈ l,48≤c.toNat∧c.toNat≤57)→acc*10 ^ l.length+10 ^ l.length≤1000000000→Lib.parseUintM (2 ^ 32 - 1) acc l=.ok (acc*10 ^ l.length+zh2 l)
 | [],acc,_,_=>by simp [Lib.parseUintM,zh2]
 | c::l,acc,h,hb=>by
  have hc:=h c (by simp)
  have hp:0<10 ^ l.length:=Nat.pow_pos (by omega)
  rw [List.length_cons,Nat.pow_succ] at hb
  have h1:(acc+1)*(10 ^ l.length*10)≤1000000000:=by rw [Nat.add_mul];omega
  have h2:(acc+1)*10≤1000000000:=by
   have:(acc+1)*10≤(acc+1)*(10 ^ l.length*10):=Nat.mul_le_mul_left _ (by omega)
   omega
  have e:acc*(10 ^ l.length*10)=acc*10*10 ^ l.length:=by grind
  have h3:(c.toNat - 48)*10 ^ l.length≤9*10 ^ l.length:=Nat.mul_le_mul_right _ (by omega)
  have ih:=parseM l (acc*10+(c.toNat - 48)) (fun x hx=>h x (by simp [hx])) (by rw [Nat.add_mul];omega)
  unfold Lib.parseUintM
  rw [if_pos hc,if_neg (by omega),if_neg (by omega),ih]
  have h5:=zk4 [c] l
  rw [List.singleton_append] at h5
  have h6:zh2 [c]=c.toNat - 48:=by simp [zh2]
  rw [h5,h6,List.length_cons,Nat.pow_succ,Nat.add_mul,e]
  congr 1
  omega
theorem parse32 {l:List UInt8} (h:∀ c ∈ l,48≤c.toNat∧c.toNat≤57) (h0:l≠[]) (h9:l.length≤9):Lib.parseUintB 32 l=.ok (zh2 l):=by
 unfold Lib.parseUintB
 rw [if_neg h0,parseM l 0 h (by
  have:10 ^ l.length≤10 ^ 9:=Nat.pow_le_pow_right (by omega) h9
  omega)]
 simp
theorem zz4 (R:ByteArray) (h:∀ c ∈ R.data.toList,48≤c.toNat∧c.toNat≤57) (h0:0<R.size) (h9:R.size≤9) (w:World):
  Calls Tryz.prog 149 #[.string R,.int .i64 10,.int .i64 32] w fun e w'=>e=.returned (.tuple #[.int .u64 (zh2 R.data.toList:Int),.nilIface])∧Gr w w':=by
 have hl:R.data.toList.length=R.size:=by simp
 refine (Tryz.strconv_ParseUint_10_at32_ok R (by omega) (zh2 R.data.toList) (parse32 h (fun e=>by rw [e] at hl;simp at hl;omega) (by omega)) w).mono ?_
 rintro e w1 ⟨he,hw⟩
 refine ⟨he,?_⟩
 rcases hw with rfl | rfl
 ·exact Gr.refl _
 exact Go.Joins.below_bytesWorld _ _ _ _ (Nat.le_refl _)
theorem nodigit (x:Nat) (w:World):Calls Tryz.prog 148 #[.int .i32 (x:Int)] w fun e w'=>e=.returned (.bool (decide (x<48)||decide (57<x)))∧∃ q,w'=w.drewN q:=by
 by_cases h1:(x:Int)<48
 ·have e1:decide (x<48)=true:=by simp;omega
  have E:=Lib.hid e1
  clear e1
  go_enter Tryz.func148,Tryz.ntmps148
  go_wp2
  go_ret
  exact ⟨by rw [E.out];rfl,0,rfl⟩
 have e1:decide (x<48)=false:=by simp;omega
 by_cases h2:57<(x:Int)
 ·have e2:(decide (x<48)||decide (57<x))=true:=by simp;omega
  have E:=Lib.hid e2
  clear e1 e2
  go_enter Tryz.func148,Tryz.ntmps148
  go_wp2
  go_ret
  exact ⟨by rw [E.out];rfl,0,rfl⟩
 have e2:(decide (x<48)||decide (57<x))=false:=by simp;omega
 have E:=Lib.hid e2
 clear e1 e2
 go_enter Tryz.func148,Tryz.ntmps148
 go_wp2
 go_ret
 exact ⟨by rw [E.out];rfl,0,rfl⟩
theorem zO9 {D:ByteArray} (h:∀ c ∈ D.data.toList,48≤c.toNat∧c.toNat≤57):∀ (f pos:Nat),Lib.idxFuncFrom (fun x=>decide (x<48)||decide (57<x)) true D f pos=-1
 | 0,_=>rfl
 | f+1,pos=>by
  unfold Lib.idxFuncFrom
  by_cases hp:pos<D.size
  ·have hc:=h D[pos] (List.mem_of_getElem? (zz6 hp))
   rw [if_pos hp,decode_ascii D pos hp (by omega),if_neg (by simp;omega)]
   exact zO9 h f _
  rw [if_neg hp]
theorem zx4 (D:ByteArray) (h:∀ c ∈ D.data.toList,48≤c.toNat∧c.toNat≤57) (w:World):
  Calls Tryz.prog 98 #[.string D,.func (.func 148) #[] #[]] w fun e w'=>e=.returned (.bool false)∧Gr w w':=by
 refine (Tryz.strings_ContainsFunc 148 #[] (enters_of Tryz.func148 (by kernel_rfl) rfl) (fun x=>decide (x<48)||decide (57<x)) D w (fun W x _=>nodigit x W)).mono ?_
 rintro e w1 ⟨he,hb⟩
 refine ⟨?_,hb⟩
 rw [he]
 unfold Lib.idxFunc
 rw [zO9 h]
 rfl
theorem zZ3 (z:Int) (w:World):Calls Tryz.prog 147 #[.string ⟨(Lib.itoa z).toArray⟩,.string ⟨#[45]⟩] w fun e w'=>
  e=.returned (.tuple #[.string ⟨(Lib.decDigits z.natAbs).toArray⟩,.bool (decide (z<0))])∧w=w':=by
 refine (Tryz.strings_CutPrefix _ _ _).mono ?_
 rintro e w1 ⟨he,rfl⟩
 refine ⟨?_,rfl⟩
 rw [he]
 show Ending.returned (.tuple #[.string ⟨(Lib.trimPrefix (Lib.itoa z) [45]).toArray⟩,.bool (Lib.hasPrefix (Lib.itoa z) [45])])=_
 by_cases h:z<0
 ·have h1:Lib.hasPrefix (Lib.itoa z) [45]=true:=by rw [ze4 h];simp [Lib.hasPrefix]
  rw [Lib.trimPrefix,h1,if_pos rfl,ze4 h,decide_eq_true h];rfl
 have h1:Lib.hasPrefix (Lib.itoa z) [45]=false:=by
  rw [zb6 (by omega)]
  rcases hd:Lib.decDigits z.natAbs with _ | ⟨c,l⟩
  ·rfl
  have hc:=zj6 z.natAbs c (by rw [hd];simp)
  have hne:¬ (45:UInt8)=c:=fun e=>by rw [← e] at hc;simp at hc
  simp [Lib.hasPrefix,List.isPrefixOf,hne]
 rw [Lib.trimPrefix,h1,if_neg (by decide),zb6 (by omega),decide_eq_false h]
def zC2 (v:Value):Nat:=match v with | .string s=>s.size | _=>0
theorem zt3 (R:ByteArray) (q:Nat):(R.extract 0 q).data.toList=R.data.toList.take q:=by rw [Lib.extract_data];simp
theorem zt4 (R:ByteArray) (q:Nat):(R.extract q R.size).data.toList=R.data.toList.drop q:=by
 rw [Lib.extract_data,List.take_of_length_le];simp
set_option maxRecDepth 100000 in
set_option maxHeartbeats 4000000 in
theorem zm5 {k:Nat} (z:Int) (hz:Sz k z) (hk:k≤60000) (w:World):
  Calls Tryz.prog 120 #[.string ⟨(Lib.itoa z).toArray⟩] w fun e w'=>(∃ x y,e=.returned (.tuple #[.agg #[x,y],.int .i64 0])∧IsInt w' k x y z)∧Gr w w':=by
 obtain ⟨n,hn⟩:∃ n,n=z.natAbs:=⟨_,rfl⟩
 have hnk:n<2 ^ k:=by rw [hn];exact hz
 have hlen:=zh5 k n hnk
 have hit:(Lib.itoa z).length≤k+2:=by
  by_cases h:z<0
  ·rw [ze4 h,← hn];simp;omega
  rw [zb6 (by omega),← hn];omega
 obtain ⟨s,hs⟩:∃ s:ByteArray,s=⟨(Lib.itoa z).toArray⟩:=⟨_,rfl⟩
 have hss:s.size≤65536:=by rw [hs];show (Lib.itoa z).toArray.size≤_;simp;omega
 obtain ⟨D,hD⟩:∃ D:ByteArray,D=⟨(Lib.decDigits n).toArray⟩:=⟨_,rfl⟩
 have HD:Hid (D.data.toList=Lib.decDigits n):=by rw [Hid,hD]
 have hDs:D.size=(Lib.decDigits n).length:=by rw [hD];show (Lib.decDigits n).toArray.size=_;simp
 have aD:0<D.size:=by rw [hDs];exact zo2 n
 have au:D.size≤60001:=by omega
 have hc:=zZ3 z (w.alloc (.cells #[.bool false,.slice none 0 0] 60))
 rw [← hn,← hD,← hs] at hc
 have hda:∀ c ∈ D.data.toList,48≤c.toNat∧c.toNat≤57:=by rw [HD.out];exact zj6 n
 have hcn:=zx4 D hda
 have hne:(D.toList==[])=false:=by
  rw [beq_eq_false_iff_ne,ByteArray.toList_eq,HD.out];exact zZ5 n
 have av:(D[0].toNat:Int)=48→D.size=1∧n=0:=by
  intro h
  rcases Nat.eq_zero_or_pos n with e | e
  ·rw [hDs,e];exact ⟨by rw [zP6];rfl,rfl⟩
  obtain ⟨c,az,aK,_⟩:=zP5 e
  have:=zy6 HD.out aD az
  rw [this] at h
  omega
 have HN:=Lib.hid hn
 have aC:=Lib.hid av
 have HDa:=Lib.hid hda
 have HDs:=Lib.hid hDs
 have HS:=Lib.hid hs
 rw [← hs]
 clear hn av hda hDs hD hit hs
 go_enter Tryz.func120,Tryz.ntmps120
 go_wp2_with fail
 (with_reducible refine hc.mono ?_)
 rintro e w1 ⟨rfl,rfl⟩
 clear hc
 go_wp2_with fail
 (with_reducible refine (hcn _).mono ?_)
 rintro e w2 ⟨rfl,g2⟩
 clear hcn
 by_cases h48:(D[0].toNat:Int)=48
 ·have hzz:=aC.out h48
  have aL:¬ (1:Int)<(D.size:Int):=by omega
  have aJ:¬ z<0:=by have:=HN.out;omega
  have ak:((D[0].toNat:Int)==48)=true:=by simpa using h48
  clear h48 hzz
  go_wp2
  go_loopw [4,6] (fun r m wr=>∃ (R:ByteArray) (V:Nat) (mo:Option Addr) (ml mc:Nat),r=.string R∧m=.slice mo ml mc∧ml≤k∧R.size≤60001∧Hid (Mag wr mo ml mc (V:Int)∧(∀ c ∈ R.data.toList,48≤c.toNat∧c.toNat≤57)∧V*10 ^ R.size+zh2 R.data.toList=n)∧Gr (w.alloc (.cells #[.bool false,.slice none 0 0] 60)) wr) (fun r _ _=>zC2 r)
  case atStart=>exact ⟨D,0,none,0,0,rfl,rfl,by omega,au,⟨⟨Nat.le_refl _,NL.zero,Row.nil _ _ _⟩,HDa.out,by rw [HD.out,zr1];simp⟩,g2⟩
  case round=>
   obtain ⟨R,V,mo,ml,mc,rfl,rfl,hml,aE,hh,hG⟩:=hrel
   by_cases hp:0<R.size
   ·obtain ⟨q,hq⟩:∃ q:Nat,q=(R.size - 1) % 9+1:=⟨_,rfl⟩
    have ap:q≤9:=by omega
    have ay:0<q:=by omega
    have hqR:q≤R.size:=by omega
    have hqe:((R.size:Int) - 1) % 9+1=(q:Int):=by omega
    have HQ:=Lib.hid hq
    clear hq
    go_wp2
    obtain ⟨wo,hwo⟩:∃ wo:World,wo=wr:=⟨_,rfl⟩
    subst hwo
    go_loopw [8,48] (fun b i wq=>∃ (j:Nat) (x:Int),b=.int .u32 x∧i=.int .i64 j∧j≤q∧1≤x∧x≤1000000000∧Hid (x=10 ^ j)∧wq=wo) (fun _ i _=>q - (intOf i).toNat)
    case atStart=>exact ⟨0,1,rfl,rfl,by omega,by omega,by omega,rfl,rfl⟩
    case round=>
     obtain ⟨j,x,rfl,rfl,hj,aw,aH,hx,rfl⟩:=hrel
     by_cases hlt:j<q
     ·have aG:x≤100000000:=by
       rw [hx.out]
       have h8:(10:Nat) ^ j≤100000000:=Nat.le_trans (Nat.pow_le_pow_right (by omega) (show j≤8 by omega)) (by decide)
       have h9:=Int.ofNat_le.2 h8
       rw [Int.natCast_pow] at h9
       exact h9
      go_wp2
      go_roundw
      case rel=>exact ⟨j+1,x*10,rfl,by go_num,by omega,by omega,by omega,by rw [Hid,hx.out,Int.pow_succ],by first | rfl | trivial⟩
      case measure=>simp [intOf];omega
     obtain rfl:j=q:=by omega
     obtain ⟨T,hT⟩:∃ T,R.extract 0 j=T:=⟨_,rfl⟩
     obtain ⟨U,hU⟩:∃ U,R.extract j R.size=U:=⟨_,rfl⟩
     have hTl:T.data.toList=R.data.toList.take j:=by rw [← hT,zt3]
     have hUl:U.data.toList=R.data.toList.drop j:=by rw [← hU,zt4]
     have hRl:R.data.toList.length=R.size:=by simp
     have hTs:T.size=j:=by
      have h1:=congrArg List.length hTl
      rw [List.length_take,hRl] at h1
      have h2:T.data.toList.length=T.size:=by simp
      omega
     have hUs:U.size=R.size - j:=by
      have h1:=congrArg List.length hUl
      rw [List.length_drop,hRl] at h1
      have h2:U.data.toList.length=U.size:=by simp
      omega
     obtain ⟨hm,hda,hval⟩:=hh.out
     have hTd:∀ c ∈ T.data.toList,48≤c.toNat∧c.toNat≤57:=fun c hc=>hda c (by rw [hTl] at hc;exact List.mem_of_mem_take hc)
     have hUd:∀ c ∈ U.data.toList,48≤c.toNat∧c.toNat≤57:=fun c hc=>hda c (by rw [hUl] at hc;exact List.mem_of_mem_drop hc)
     obtain ⟨u,hu⟩:∃ u,u=zh2 T.data.toList:=⟨_,rfl⟩
     have ax:u<1000000000:=by
      have h1:=zZ2 _ hTd
      have h2:T.data.toList.length=T.size:=by simp
      rw [h2,hTs] at h1
      have:(10:Nat) ^ j≤10 ^ 9:=Nat.pow_le_pow_right (by omega) ap
      omega
     have aa:(V*10 ^ j+u)*10 ^ U.size+zh2 U.data.toList=n:=by
      have h1:=zk4 (R.data.toList.take j) (R.data.toList.drop j)
      rw [List.take_append_drop,← hTl,← hUl] at h1
      have h2:U.data.toList.length=U.size:=by simp
      rw [h1,h2,← hu,show R.size=j+U.size by omega,Nat.pow_add] at hval
      rw [← hval];grind
     have hVk:V*10 ^ j+u<2 ^ k:=by
      have h1:V*10 ^ j+u≤(V*10 ^ j+u)*10 ^ U.size:=Nat.le_mul_of_pos_right _ (Nat.pow_pos (by omega))
      omega
     have hpu:=zz4 T hTd (by omega) (by omega)
     rw [← hu] at hpu
     have ar:=Lib.hid aa
     have HVk:=Lib.hid hVk
     have HUd:=Lib.hid hUd
     have HX:=hx
     have ai:T.size≤9:=by omega
     have al:U.size<R.size:=by omega
     have ae:U.size≤60001:=by omega
     clear hTl hUl hRl hTd hUd hda hval aa hVk hu hTs hUs hqe
     have aA:(u:Int)<1000000000:=by omega
     go_wp2_with fail
     (with_reducible refine (hpu _).mono ?_)
     rintro e w5 ⟨rfl,g5⟩
     clear hpu
     go_wp2_with fail
     (with_reducible refine (yb0 mo ml mc (V:Int) x (u:Int) _ (by omega) (hm.kp g5.kp) (by omega) (by omega) (by omega) (by omega)).mono ?_)
     rintro e w6 ⟨⟨go,k6,c6,rfl,ad,aI⟩,g6⟩
     have af:Mag w6 go k6 c6 ((V*10 ^ j+u:Nat):Int):=by
      rw [HX.out] at ad
      have e:((V*10 ^ j+u:Nat):Int)=(V:Int)*10 ^ j+(u:Int):=by push_cast;rfl
      rw [e];exact ad
     have aq:k6≤k:=af.nl.len_sz (show Sz k _ by unfold Sz;rw [Int.natAbs_natCast];exact HVk.out)
     clear ad
     go_wp2
     go_roundw
     case rel=>exact ⟨U,V*10 ^ j+u,go,k6,c6,rfl,rfl,aq,ae,⟨af,HUd.out,ar.out⟩,(hG.trans g5).trans g6⟩
     case measure=>simp [zC2];omega
   have ac:R.size=0:=by omega
   obtain ⟨hm,hda,hval⟩:=hh.out
   have hVn:V=n:=by
    have h2:R.data.toList.length=R.size:=by simp
    have h1:R.data.toList=[]:=List.length_eq_zero_iff.1 (by rw [h2];exact ac)
    rw [h1,ac] at hval
    simpa [zh2] using hval
   rw [hVn] at hm
   have aF:=Lib.hid ac
   clear ac hda hval hh hVn
   have p2:=Gr.heap hG (heap_alloc_new w (.cells #[.bool false,.slice none 0 0] 60))
   go_wp2_with fail
   (with_reducible refine (zi1 (decide (z<0)) mo ml mc (n:Int) _ (by omega) hm.cap hm.nl.nonneg hm.nl.top hm.row).mono ?_)
   rintro e w5 ⟨⟨k5,rfl,ah,aB⟩,g5⟩
   have p3:=Gr.heap g5 p2
   have d0:=zc1 p3 0
   have d1:=zc1 p3 1
   have d2:=zj0 p3
   have aj:Gr w w5:=(Gr.alloc w _).trans (hG.trans g5)
   have hint:=IsInt.mk' (z:=z) (s:=decide (z<0)) (k:=k) (ah.gr g5) (by rw [HN.out]) (fun _=>rfl) hz
   obtain ⟨bb,hbb⟩:∃ bb,bb=(decide (z<0)&&decide (0<k5)):=⟨_,rfl⟩
   rw [← hbb] at hint ⊢
   clear hbb hm ah p2
   go_wp2
   have p4:=zb2 (i:=1) (.slice mo k5 mc) (zb2 (i:=0) (.bool bb) p3)
   have hst:=(St.setCell w5 w.heap.size 0 (.bool bb)).trans (St.setCell _ w.heap.size 1 (.slice mo k5 mc))
   exact bodyPost_ret (v:=.tuple #[.agg #[.bool bb,.slice mo k5 mc],.int .i64 0]) (zb5 _ _ _ rfl rfl p4 (by kernel_rfl) rfl) rfl ⟨⟨_,_,rfl,hint.kp (hst.kp p3 (by decide))⟩,hst.gr aj (Nat.le_refl _)⟩
 have ak:((D[0].toNat:Int)==48)=false:=by simpa using h48
 clear h48
 go_wp2
 go_loopw [4,6] (fun r m wr=>∃ (R:ByteArray) (V:Nat) (mo:Option Addr) (ml mc:Nat),r=.string R∧m=.slice mo ml mc∧ml≤k∧R.size≤60001∧Hid (Mag wr mo ml mc (V:Int)∧(∀ c ∈ R.data.toList,48≤c.toNat∧c.toNat≤57)∧V*10 ^ R.size+zh2 R.data.toList=n)∧Gr (w.alloc (.cells #[.bool false,.slice none 0 0] 60)) wr) (fun r _ _=>zC2 r)
 case atStart=>exact ⟨D,0,none,0,0,rfl,rfl,by omega,au,⟨⟨Nat.le_refl _,NL.zero,Row.nil _ _ _⟩,HDa.out,by rw [HD.out,zr1];simp⟩,g2⟩
 case round=>
  obtain ⟨R,V,mo,ml,mc,rfl,rfl,hml,aE,hh,hG⟩:=hrel
  by_cases hp:0<R.size
  ·obtain ⟨q,hq⟩:∃ q:Nat,q=(R.size - 1) % 9+1:=⟨_,rfl⟩
   have ap:q≤9:=by omega
   have ay:0<q:=by omega
   have hqR:q≤R.size:=by omega
   have hqe:((R.size:Int) - 1) % 9+1=(q:Int):=by omega
   have HQ:=Lib.hid hq
   clear hq
   go_wp2
   obtain ⟨wo,hwo⟩:∃ wo:World,wo=wr:=⟨_,rfl⟩
   subst hwo
   go_loopw [8,48] (fun b i wq=>∃ (j:Nat) (x:Int),b=.int .u32 x∧i=.int .i64 j∧j≤q∧1≤x∧x≤1000000000∧Hid (x=10 ^ j)∧wq=wo) (fun _ i _=>q - (intOf i).toNat)
   case atStart=>exact ⟨0,1,rfl,rfl,by omega,by omega,by omega,rfl,rfl⟩
   case round=>
    obtain ⟨j,x,rfl,rfl,hj,aw,aH,hx,rfl⟩:=hrel
    by_cases hlt:j<q
    ·have aG:x≤100000000:=by
      rw [hx.out]
      have h8:(10:Nat) ^ j≤100000000:=Nat.le_trans (Nat.pow_le_pow_right (by omega) (show j≤8 by omega)) (by decide)
      have h9:=Int.ofNat_le.2 h8
      rw [Int.natCast_pow] at h9
      exact h9
     go_wp2
     go_roundw
     case rel=>exact ⟨j+1,x*10,rfl,by go_num,by omega,by omega,by omega,by rw [Hid,hx.out,Int.pow_succ],by first | rfl | trivial⟩
     case measure=>simp [intOf];omega
    obtain rfl:j=q:=by omega
    obtain ⟨T,hT⟩:∃ T,R.extract 0 j=T:=⟨_,rfl⟩
    obtain ⟨U,hU⟩:∃ U,R.extract j R.size=U:=⟨_,rfl⟩
    have hTl:T.data.toList=R.data.toList.take j:=by rw [← hT,zt3]
    have hUl:U.data.toList=R.data.toList.drop j:=by rw [← hU,zt4]
    have hRl:R.data.toList.length=R.size:=by simp
    have hTs:T.size=j:=by
     have h1:=congrArg List.length hTl
     rw [List.length_take,hRl] at h1
     have h2:T.data.toList.length=T.size:=by simp
     omega
    have hUs:U.size=R.size - j:=by
     have h1:=congrArg List.length hUl
     rw [List.length_drop,hRl] at h1
     have h2:U.data.toList.length=U.size:=by simp
     omega
    obtain ⟨hm,hda,hval⟩:=hh.out
    have hTd:∀ c ∈ T.data.toList,48≤c.toNat∧c.toNat≤57:=fun c hc=>hda c (by rw [hTl] at hc;exact List.mem_of_mem_take hc)
    have hUd:∀ c ∈ U.data.toList,48≤c.toNat∧c.toNat≤57:=fun c hc=>hda c (by rw [hUl] at hc;exact List.mem_of_mem_drop hc)
    obtain ⟨u,hu⟩:∃ u,u=zh2 T.data.toList:=⟨_,rfl⟩
    have ax:u<1000000000:=by
     have h1:=zZ2 _ hTd
     have h2:T.data.toList.length=T.size:=by simp
     rw [h2,hTs] at h1
     have:(10:Nat) ^ j≤10 ^ 9:=Nat.pow_le_pow_right (by omega) ap
     omega
    have aa:(V*10 ^ j+u)*10 ^ U.size+zh2 U.data.toList=n:=by
     have h1:=zk4 (R.data.toList.take j) (R.data.toList.drop j)
     rw [List.take_append_drop,← hTl,← hUl] at h1
     have h2:U.data.toList.length=U.size:=by simp
     rw [h1,h2,← hu,show R.size=j+U.size by omega,Nat.pow_add] at hval
     rw [← hval];grind
    have hVk:V*10 ^ j+u<2 ^ k:=by
     have h1:V*10 ^ j+u≤(V*10 ^ j+u)*10 ^ U.size:=Nat.le_mul_of_pos_right _ (Nat.pow_pos (by omega))
     omega
    have hpu:=zz4 T hTd (by omega) (by omega)
    rw [← hu] at hpu
    have ar:=Lib.hid aa
    have HVk:=Lib.hid hVk
    have HUd:=Lib.hid hUd
    have HX:=hx
    have ai:T.size≤9:=by omega
    have al:U.size<R.size:=by omega
    have ae:U.size≤60001:=by omega
    clear hTl hUl hRl hTd hUd hda hval aa hVk hu hTs hUs hqe
    have aA:(u:Int)<1000000000:=by omega
    go_wp2_with fail
    (with_reducible refine (hpu _).mono ?_)
    rintro e w5 ⟨rfl,g5⟩
    clear hpu
    go_wp2_with fail
    (with_reducible refine (yb0 mo ml mc (V:Int) x (u:Int) _ (by omega) (hm.kp g5.kp) (by omega) (by omega) (by omega) (by omega)).mono ?_)
    rintro e w6 ⟨⟨go,k6,c6,rfl,ad,aI⟩,g6⟩
    have af:Mag w6 go k6 c6 ((V*10 ^ j+u:Nat):Int):=by
     rw [HX.out] at ad
     have e:((V*10 ^ j+u:Nat):Int)=(V:Int)*10 ^ j+(u:Int):=by push_cast;rfl
     rw [e];exact ad
    have aq:k6≤k:=af.nl.len_sz (show Sz k _ by unfold Sz;rw [Int.natAbs_natCast];exact HVk.out)
    clear ad
    go_wp2
    go_roundw
    case rel=>exact ⟨U,V*10 ^ j+u,go,k6,c6,rfl,rfl,aq,ae,⟨af,HUd.out,ar.out⟩,(hG.trans g5).trans g6⟩
    case measure=>simp [zC2];omega
  have ac:R.size=0:=by omega
  obtain ⟨hm,hda,hval⟩:=hh.out
  have hVn:V=n:=by
   have h2:R.data.toList.length=R.size:=by simp
   have h1:R.data.toList=[]:=List.length_eq_zero_iff.1 (by rw [h2];exact ac)
   rw [h1,ac] at hval
   simpa [zh2] using hval
  rw [hVn] at hm
  have aF:=Lib.hid ac
  clear ac hda hval hh hVn
  have p2:=Gr.heap hG (heap_alloc_new w (.cells #[.bool false,.slice none 0 0] 60))
  go_wp2_with fail
  (with_reducible refine (zi1 (decide (z<0)) mo ml mc (n:Int) _ (by omega) hm.cap hm.nl.nonneg hm.nl.top hm.row).mono ?_)
  rintro e w5 ⟨⟨k5,rfl,ah,aB⟩,g5⟩
  have p3:=Gr.heap g5 p2
  have d0:=zc1 p3 0
  have d1:=zc1 p3 1
  have d2:=zj0 p3
  have aj:Gr w w5:=(Gr.alloc w _).trans (hG.trans g5)
  have hint:=IsInt.mk' (z:=z) (s:=decide (z<0)) (k:=k) (ah.gr g5) (by rw [HN.out]) (fun _=>rfl) hz
  obtain ⟨bb,hbb⟩:∃ bb,bb=(decide (z<0)&&decide (0<k5)):=⟨_,rfl⟩
  rw [← hbb] at hint ⊢
  clear hbb hm ah p2
  go_wp2
  have p4:=zb2 (i:=1) (.slice mo k5 mc) (zb2 (i:=0) (.bool bb) p3)
  have hst:=(St.setCell w5 w.heap.size 0 (.bool bb)).trans (St.setCell _ w.heap.size 1 (.slice mo k5 mc))
  exact bodyPost_ret (v:=.tuple #[.agg #[.bool bb,.slice mo k5 mc],.int .i64 0]) (zb5 _ _ _ rfl rfl p4 (by kernel_rfl) rfl) rfl ⟨⟨_,_,rfl,hint.kp (hst.kp p3 (by decide))⟩,hst.gr aj (Nat.le_refl _)⟩
theorem zF6:∀ (l:List UInt8),Lib.index l [47]=(match (zh3 l).2 with | none=>-1 | some _=>((zh3 l).1.length:Int))
 | []=>rfl
 | c::l=>by
  have ih:=zF6 l
  unfold Lib.index
  by_cases h:c=47
  ·subst h
   have e:zh3 (47::l)=([],some l):=by simp [zh3]
   rw [e]
   simp [List.isPrefixOf]
  have e:zh3 (c::l)=(c::(zh3 l).1,(zh3 l).2):=by
   conv=>lhs;unfold zh3
   rw [if_neg h]
  have h2:¬ (47:UInt8)=c:=fun x=>h x.symm
  have h3:[47].isPrefixOf (c::l)=false:=by simp [List.isPrefixOf,h2]
  rw [e,h3,ih]
  cases hd:(zh3 l).2 with
  | none=>simp
  | some d=>
   have:¬ (((zh3 l).1.length:Int)==-1)=true:=by simp
   simp [this]
theorem zF7 (l:List UInt8):Lib.cut l [47]=(zt7 l,((zh3 l).2.getD [],(zh3 l).2.isSome)):=by
 have h1:=zF6 l
 have h2:=zv5 l
 unfold Lib.cut zt7
 cases hd:(zh3 l).2 with
 | none=>
  rw [hd] at h1 h2;dsimp only at h1 h2
  rw [h1,if_neg (by omega)]
  simp [← h2]
 | some d=>
  rw [hd] at h1 h2;dsimp only at h1 h2
  rw [h1,if_pos (Int.natCast_nonneg _)]
  generalize (zh3 l).1=a at*
  subst h2
  simp
def Mx (w:World):Prop:=∃ m:Int,w.cell? ⟨1,0,none⟩=some (.int .i64 m)
theorem Mx.gr {w w':World} (h:Mx w) (g:Gr w w'):Mx w':=by
 obtain ⟨m,hm⟩:=h
 exact ⟨m,(Below.cell g (World.block_lt_of_cell? w _ hm)).trans hm⟩
theorem cut_q (q:Rat) {k:Nat} (h1:Sz k q.num) (h2:Sz k (q.den:Int)) (hk:k≤400000) {w:World} (hm:Mx w):
  Calls Tryz.prog 116 #[.string ⟨(zd4 q).toArray⟩,.string ⟨#[47]⟩] w fun e w'=>e=.returned (.tuple #[.string ⟨(Lib.itoa q.num).toArray⟩,.string ⟨(if q.den=1 then [] else Lib.itoa (q.den:Int)).toArray⟩,.bool (decide (q.den≠1))])∧Gr w w':=by
 obtain ⟨m,hm⟩:=hm
 have hl:=zP1 h1 h2
 refine (Tryz.strings_Cut ⟨(zd4 q).toArray⟩ ⟨#[47]⟩ m w (by show (zd4 q).toArray.size<_;simp;omega) hm).mono ?_
 rintro e w1 ⟨he,n,rfl⟩
 refine ⟨?_,(Below.refl _ _).drewN _⟩
 rw [he]
 have e1:(⟨(zd4 q).toArray⟩:ByteArray).data.toList=zd4 q:=by simp
 rw [e1,show (⟨#[47]⟩:ByteArray).data.toList=[47] from rfl,zF7,zl8,zp6]
 by_cases h:q.den=1<;>simp [h]
theorem zl3 (z:Int) (w:World):Calls Tryz.prog 118 #[.string ⟨(Lib.itoa z).toArray⟩,.string ⟨#[45]⟩] w fun e w'=>e=.returned (.string ⟨(Lib.decDigits z.natAbs).toArray⟩)∧Gr w w':=by
 refine (Tryz.strings_TrimPrefix _ _ _).mono ?_
 rintro e w1 ⟨he,rfl⟩
 refine ⟨?_,Gr.refl _⟩
 rw [he]
 show Ending.returned (.string ⟨(Lib.trimPrefix (Lib.itoa z) [45]).toArray⟩)=_
 by_cases h:z<0
 ·have h1:Lib.hasPrefix (Lib.itoa z) [45]=true:=by rw [ze4 h];simp [Lib.hasPrefix]
  rw [Lib.trimPrefix,h1,if_pos rfl,ze4 h];rfl
 have h1:Lib.hasPrefix (Lib.itoa z) [45]=false:=by
  rw [zb6 (by omega)]
  rcases hd:Lib.decDigits z.natAbs with _ | ⟨c,l⟩
  ·rfl
  have hc:=zj6 z.natAbs c (by rw [hd];simp)
  have hne:¬ (45:UInt8)=c:=fun e=>by rw [← e] at hc;simp at hc
  simp [Lib.hasPrefix,List.isPrefixOf,hne]
 rw [Lib.trimPrefix,h1,if_neg (by decide),zb6 (by omega)]
theorem zF8 {l cs:List UInt8} (h:∀ c ∈ l,cs.contains c=true):Lib.trimS l cs=[]:=by
 have key:∀ {l:List UInt8},(∀ c ∈ l,cs.contains c=true)→l.dropWhile (cs.contains ·)=[]:=by
  intro l
  induction l with
  | nil=>intro _;rfl
  | cons c l ih=>intro h;rw [List.dropWhile_cons,if_pos (h c (by simp))];exact ih (fun x hx=>h x (by simp [hx]))
 unfold Lib.trimS Lib.trimRightS Lib.trimLeftS
 rw [key (l:=l.reverse) (fun c hc=>h c (by simpa using hc))]
 rfl
theorem zP2 {c:UInt8} (h:48≤c.toNat∧c.toNat≤57):[48,49,50,51,52,53,54,55,56,57].contains c=true:=by
 have:c=48∨c=49∨c=50∨c=51∨c=52∨c=53∨c=54∨c=55∨c=56∨c=57:=by
  simp only [← UInt8.toNat_inj]
  simp
  omega
 rcases this with rfl | rfl | rfl | rfl | rfl | rfl | rfl | rfl | rfl | rfl<;>decide
theorem zJ6 (n:Nat) (hn:(Lib.decDigits n).length≤1000000) (w:World):
  Calls Tryz.prog 119 #[.string ⟨(Lib.decDigits n).toArray⟩,.string ⟨#[48,49,50,51,52,53,54,55,56,57]⟩] w fun e w'=>e=.returned (.string ⟨#[]⟩)∧Gr w w':=by
 refine (Any.strings_Trim_laid Tryz.lays160 (by kernel_rfl) ⟨(Lib.decDigits n).toArray⟩ ⟨#[48,49,50,51,52,53,54,55,56,57]⟩ w (by show (Lib.decDigits n).toArray.size≤_;simp;omega) (by decide) (ascii_of_all (by decide))).mono ?_
 rintro e w1 ⟨he,g⟩
 refine ⟨?_,g⟩
 rw [he,zF8 (l:=(⟨(Lib.decDigits n).toArray⟩:ByteArray).data.toList) (fun c hc=>zP2 (zj6 n c (by simpa using hc)))]
set_option maxHeartbeats 1000000 in
theorem zZ9 (n:Nat) (hn:(Lib.decDigits n).length≤1000000) (w:World):
  Calls Tryz.prog 117 #[.string ⟨(Lib.decDigits n).toArray⟩] w fun e w'=>e=.returned (.bool true)∧Gr w w':=by
 obtain ⟨D,hD⟩:∃ D:ByteArray,D=⟨(Lib.decDigits n).toArray⟩:=⟨_,rfl⟩
 have hc:=zJ6 n hn
 have hne:(D.toList==[])=false:=by
  rw [beq_eq_false_iff_ne,ByteArray.toList_eq,hD]
  simpa using zZ5 n
 rw [← hD] at hc ⊢
 clear hD
 go_enter Tryz.func117,Tryz.ntmps117
 go_wp2_with fail
 (with_reducible refine (hc _).mono ?_)
 rintro e w1 ⟨rfl,g1⟩
 clear hc
 go_wp2
 go_ret
 exact ⟨rfl,g1⟩
theorem zC4 {p:UInt8→Bool}:∀ {l:List UInt8} {c:UInt8},c ∈ l→p c=false→c ∈ l.dropWhile p
 | [],_,h,_=>by cases h
 | x::l,c,h,hc=>by
  rw [List.dropWhile_cons]
  by_cases hx:p x=true
  ·rw [if_pos hx]
   rcases List.mem_cons.1 h with e | h
   ·rw [e,hx] at hc;cases hc
   exact zC4 h hc
  rw [if_neg hx];exact h
theorem zz7 {l cs:List UInt8} {c:UInt8} (h:c ∈ l) (hc:cs.contains c=false):Lib.trimS l cs≠[]:=by
 have h1:c ∈ Lib.trimRightS l cs:=by
  unfold Lib.trimRightS
  rw [List.mem_reverse]
  exact zC4 (by simpa using h) hc
 exact fun e=>by have:=zC4 (p:=(cs.contains ·)) h1 hc;unfold Lib.trimS Lib.trimLeftS at e;rw [e] at this;cases this
theorem ya0 (d:Nat) (hd:0<d) (hn:(Lib.decDigits d).length≤1000000) (w:World):
  Calls Tryz.prog 119 #[.string ⟨(Lib.decDigits d).toArray⟩,.string ⟨#[48]⟩] w fun e w'=>(∃ L:List UInt8,e=.returned (.string ⟨L.toArray⟩)∧L≠[])∧Gr w w':=by
 refine (Any.strings_Trim_laid Tryz.lays160 (by kernel_rfl) ⟨(Lib.decDigits d).toArray⟩ ⟨#[48]⟩ w (by show (Lib.decDigits d).toArray.size≤_;simp;omega) (by decide) (ascii_of_all (by decide))).mono ?_
 rintro e w1 ⟨he,g⟩
 obtain ⟨c,hc,h1,_⟩:=zP5 hd
 refine ⟨⟨_,he,zz7 (c:=c) (by simpa using List.mem_of_getElem? hc) ?_⟩,g⟩
 have:¬ c=48:=fun e=>by rw [e] at h1;simp at h1
 simp [this]
theorem cut_w (q:Rat) {k:Nat} (h1:Sz k q.num) (h2:Sz k (q.den:Int)) (hk:k≤400000) (hw:q.den=1) {w:World} (hm:Mx w):
  Calls Tryz.prog 116 #[.string ⟨(zd4 q).toArray⟩,.string ⟨#[47]⟩] w fun e w'=>e=.returned (.tuple #[.string ⟨(Lib.itoa q.num).toArray⟩,.string ⟨([]:List UInt8).toArray⟩,.bool false])∧Gr w w':=by
 have:=cut_q q h1 h2 hk hm
 rw [if_pos hw,show decide (q.den≠1)=false by simp [hw]] at this
 exact this
theorem cut_f (q:Rat) {k:Nat} (h1:Sz k q.num) (h2:Sz k (q.den:Int)) (hk:k≤400000) (hw:¬ q.den=1) {w:World} (hm:Mx w):
  Calls Tryz.prog 116 #[.string ⟨(zd4 q).toArray⟩,.string ⟨#[47]⟩] w fun e w'=>e=.returned (.tuple #[.string ⟨(Lib.itoa q.num).toArray⟩,.string ⟨(Lib.itoa (q.den:Int)).toArray⟩,.bool true])∧Gr w w':=by
 have:=cut_q q h1 h2 hk hm
 rw [if_neg hw,show decide (q.den≠1)=true by simp [hw]] at this
 exact this
theorem zx7 {k:Nat} (z:Int) (h:Sz k z) (hk:k≤400000) (w:World):
  Calls Tryz.prog 117 #[.string ⟨(Lib.decDigits z.natAbs).toArray⟩] w fun e w'=>e=.returned (.bool true)∧Gr w w':=
 zZ9 _ (by have:=zz5 h;omega) w
theorem ya1 {k:Nat} (d:Nat) (h:Sz k (d:Int)) (hk:k≤400000) (w:World):
  Calls Tryz.prog 117 #[.string ⟨(Lib.itoa (d:Int)).toArray⟩] w fun e w'=>e=.returned (.bool true)∧Gr w w':=by
 have:=zx7 (d:Int) h hk w
 rw [← zb6 (by omega)] at this
 exact this
theorem zJ7 {k:Nat} (d:Nat) (h:Sz k (d:Int)) (hd:0<d) (hk:k≤400000) (w:World):
  Calls Tryz.prog 119 #[.string ⟨(Lib.itoa (d:Int)).toArray⟩,.string ⟨#[48]⟩] w fun e w'=>(∃ L:List UInt8,e=.returned (.string ⟨L.toArray⟩)∧(L==[])=false)∧Gr w w':=by
 have:=ya0 d hd (by have:=zz5 h;rw [Int.natAbs_natCast] at this;omega) w
 rw [zb6 (by omega),Int.natAbs_natCast]
 refine this.mono ?_
 rintro e w1 ⟨⟨L,he,hL⟩,g⟩
 exact ⟨⟨L,he,beq_eq_false_iff_ne.2 hL⟩,g⟩
theorem zJ8 {w:World} {k:Nat} {x y x2 y2:Value} {q:Rat} (h1:IsInt w k x y q.num) (h2:IsInt w k x2 y2 (q.den:Int)) (h3:64≤k):IsRat w k x y x2 y2 q:=⟨h1,⟨_,h2,.inl rfl⟩,h3⟩
theorem zJ9 (q:Rat):(Int.gcd q.num (q.den:Int):Int)=1:=by
 have:=q.reduced
 show ((Nat.gcd q.num.natAbs (q.den:Int).natAbs:Nat):Int)=1
 rw [Int.natAbs_natCast]
 have h:Nat.gcd q.num.natAbs q.den=1:=this
 rw [h];rfl
theorem ratL_sz (q:Rat) {m:Nat} (h:(zd4 q).length≤m):Sz (4*m) q.num∧Sz (4*m) (q.den:Int):=by
 have h1:(Lib.itoa q.num).length≤m∧(q.den=1∨(Lib.itoa (q.den:Int)).length≤m):=by
  by_cases hw:q.den=1
  ·rw [zS6 hw] at h;exact ⟨h,.inl hw⟩
  rw [zS7 hw] at h
  simp only [List.length_append,List.length_cons,List.length_nil] at h
  exact ⟨by omega,.inr (by omega)⟩
 refine ⟨zo1 _ h1.1,?_⟩
 rcases h1.2 with e | e
 ·rw [e]
  have:=itoa_pos q.num
  have:0<4*m:=by omega
  show (1:Nat)<2 ^ (4*m)
  exact Nat.one_lt_two_pow (by omega)
 exact zo1 _ e
end Go.Proofs.YtjhflekncldflaaGreatDoor
namespace Go.Proofs.YtjhflekncldflaaGreatDoor
open Go.RowKit
def tO (b:Bool) (q:Rat):List UInt8:=if b then zd4 q else []
structure Rq where
 c:Rat
 ts:List (Nat × Rat)
 hl:Bool
 vl:Rat
 hh:Bool
 vh:Rat
namespace Ofr
variable (D:Ofr)
def op (i k:Nat):Int × Int × Int:=(D.lo i k,D.up i k,D.co i k)
def nzd (r m:Nat):List Nat:=(List.range m).filter fun i=>decide (D.fc r i≠0)
def tms (r:Nat):List (Nat × Rat):=(D.nzd r D.n).map fun i=>(i,D.fc r i)
def rq (r:Nat):Rq:=⟨D.cn r,D.tms r,D.hl r,D.vl r,D.hh r,D.vh r⟩
def sp (r i k:Nat):Rat × Rat:=(D.sl r i k,D.su r i k)
def pr:Nat→Nat
 | 0=>1
 | k+1=>pr k*D.ol k
structure Ok:Prop where
 n1:0<D.n
 n2:D.n≤12
 o1:∀ i,i<D.n→0<D.ol i
 o2:∀ i,i<D.n→D.ol i≤8
 q2:D.q≤16
 few:D.pr D.n≤4096
 nom:∀ i,i<D.n→-1048576≤D.nom i∧D.nom i≤1048576
 lo:∀ i k,i<D.n→k<D.ol i→-1048576≤D.lo i k∧D.lo i k≤D.up i k∧D.up i k≤1048576
 co:∀ i k,i<D.n→k<D.ol i→0≤D.co i k∧D.co i k≤1048576
 fc:∀ r i,r<D.q→i<D.n→RZ 30 30 (D.fc r i)
 cn:∀ r,r<D.q→RZ 60 60 (D.cn r)
 vl:∀ r,r<D.q→RZ 60 60 (D.vl r)
 vh:∀ r,r<D.q→RZ 60 60 (D.vh r)
end Ofr
section
variable {D:Ofr}
theorem Ofr.Ok.ea (h:D.Ok) {r i k:Nat} (hr:r<D.q) (hi:i<D.n) (hk:k<D.ol i):RZ 60 60 (D.ea r i k):=by
 have h1:=h.nom i hi
 have h2:=h.lo i k hi hk
 exact ((h.fc r i hr hi).mul (RZ.int (a:=23) (z:=D.nom i+D.lo i k) (by unfold Sz;omega))).mono (by omega) (by omega)
theorem Ofr.Ok.eb (h:D.Ok) {r i k:Nat} (hr:r<D.q) (hi:i<D.n) (hk:k<D.ol i):RZ 60 60 (D.eb r i k):=by
 have h1:=h.nom i hi
 have h2:=h.lo i k hi hk
 exact ((h.fc r i hr hi).mul (RZ.int (a:=23) (z:=D.nom i+D.up i k) (by unfold Sz;omega))).mono (by omega) (by omega)
theorem zB7 (f:Nat→Int):∀ {k:Nat},0<k→∃ i,i<k∧zn3 f k=f i
 | 1,_=>⟨0,by decide,by unfold zn3 zn3;split<;>rfl⟩
 | k+2,_=>by
  obtain ⟨i,hi,e⟩:=zB7 f (k:=k+1) (by omega)
  unfold zn3
  split
  ·exact ⟨k+1,by omega,rfl⟩
  exact ⟨i,by omega,e⟩
theorem Ofr.Ok.ch (h:D.Ok) {i:Nat} (hi:i<D.n):0≤D.ch i∧D.ch i≤1048576:=by
 obtain ⟨k,hk,e⟩:=zB7 (D.co i) (h.o1 i hi)
 unfold Ofr.ch
 rw [e];exact h.co i k hi hk
theorem Ofr.Ok.bc (h:D.Ok) {l:List Nat} (hv:D.vp l) {i:Nat} (hi:i<D.n):0≤D.bc l i∧D.bc l i≤1048576:=by
 unfold Ofr.bc
 split
 ·next hl=>exact h.co i _ hi (hv.2 i hl)
 exact h.ch hi
theorem isum_b {f:Nat→Int}:∀ {k:Nat},(∀ i,i<k→0≤f i∧f i≤1048576)→0≤zD1 f k∧zD1 f k≤1048576*(k:Int)
 | 0,_=>⟨Int.le_refl _,by simp [zD1]⟩
 | k+1,h=>by
  have h1:=isum_b (f:=f) (k:=k) fun i hi=>h i (by omega)
  have h2:=h k (by omega)
  show 0≤zD1 f k+f k∧zD1 f k+f k≤_
  omega
theorem bc_in {l:List Nat} {i:Nat} (h:i<l.length):zD1 (D.bc l) i+D.co i (Ofr.at_ l i)=zD1 (D.bc l) (i+1):=by
 show _=zD1 (D.bc l) i+D.bc l i
 unfold Ofr.bc;rw [if_pos h]
theorem bc_out {l:List Nat} {i:Nat} (h:¬ i<l.length):zD1 (D.bc l) i+D.ch i=zD1 (D.bc l) (i+1):=by
 show _=zD1 (D.bc l) i+D.bc l i
 unfold Ofr.bc;rw [if_neg h]
end
def EDm (_:World) (z:Int) (vs:List Value):Prop:=∃ X:List UInt8,vs=[ze3 X,.int .i64 z,.int .i64 0,.int .i64 0]
theorem zb8:zn8 EDm []:=fun _ _ _ _ _ h=>h
def EOp (_:World) (x:Int × Int × Int) (vs:List Value):Prop:=vs=[.int .i64 x.1,.int .i64 x.2.1,.int .i64 x.2.2]
theorem za6:zn8 EOp []:=fun _ _ _ _ _ h=>h
def ETm (_:World) (x:Nat × Rat) (vs:List Value):Prop:=vs=[.int .i64 (x.1:Int),ze3 (zd4 x.2)]
theorem zY0:zn8 ETm []:=fun _ _ _ _ _ h=>h
def ERq (w:World) (x:Rq) (vs:List Value):Prop:=∃ (X:List UInt8) (u:Value),vs=[ze3 X,.int .i64 0,ze3 (zd4 x.c),u,ze3 [],.slice none 0 0,ze3 (tO x.hl x.vl),ze3 (tO x.hh x.vh)]∧Sl ETm 110 2 w u x.ts
theorem zb9:zn8 ERq [110]:=fun w w' x vs hk h=>by
 obtain ⟨X,u,e,hs⟩:=h
 exact ⟨X,u,e,hs.kts zY0 hk⟩
def ESp (k:Nat) (w:World) (x:Rat × Rat) (vs:List Value):Prop:=∃ c0 c1 c2 c3 c4 c5 c6 c7,vs=[c0,c1,c2,c3,c4,c5,c6,c7]∧IsRat w k c0 c1 c2 c3 x.1∧IsRat w k c4 c5 c6 c7 x.2
theorem za7 (k:Nat):zn8 (ESp k) [171]:=fun w w' _ _ hk h=>by
 obtain ⟨c0,c1,c2,c3,c4,c5,c6,c7,e,hp,hq⟩:=h
 exact ⟨c0,c1,c2,c3,c4,c5,c6,c7,e,hp.kp (hk 171 (by simp)),hq.kp (hk 171 (by simp))⟩
structure Dsk (w:World) (D:Ofr) (ds os rs sp cs ch:Value):Prop where
 ds:Sl EDm 71 4 w ds (tb (fun z1=>(D.nom z1)) D.n)
 os:Sl (ERw EOp 68 3) 72 1 w os (tb (fun z0=>tb (fun z1=>(D.op z0 z1)) (D.ol z0)) D.n)
 rs:Sl ERq 80 8 w rs (tb (fun z1=>(D.rq z1)) D.q)
 sp:Sl (ERw (ERw (ESp 64) 124 8) 162 1) 161 1 w sp (tb (fun z0=>tb (fun z1=>tb (fun z2=>(D.sp z0 z1 z2)) (D.ol z1)) D.n) D.q)
 cs:Sl (ERat 64) 62 4 w cs (tb (fun z1=>(D.cn z1)) D.q)
 ch:Sl EI64 3 1 w ch (tb (fun z1=>(D.ch z1)) D.n)
def Dk (w:World) (k:Nat) (D:Ofr):Prop:=∃ ds os rs sp cs ch,Lc w k #[ds,os,rs,sp,cs,ch] 158∧Dsk w D ds os rs sp cs ch
section
variable {w w':World} {D:Ofr} {ds os rs sp cs ch:Value} {k:Nat}
abbrev tysD:List TypeId:=[71,68,72,80,110,124,162,161,62,3,171]
theorem Dsk.kts (h:Dsk w D ds os rs sp cs ch) (g:Kts tysD w w'):Dsk w' D ds os rs sp cs ch where
 ds:=h.ds.kts zb8 fun t ht=>g t (by simp at ht;subst ht;simp)
 os:=h.os.kts (za1 za6 _ _) fun t ht=>g t (by simp at ht;rcases ht with rfl | rfl<;>simp)
 rs:=h.rs.kts zb9 fun t ht=>g t (by simp at ht;rcases ht with rfl | rfl<;>simp)
 sp:=h.sp.kts (za1 (za1 (za7 64) _ _) _ _) fun t ht=>g t (by simp at ht;rcases ht with rfl | rfl | rfl | rfl<;>simp)
 cs:=h.cs.kts (za5 64) fun t ht=>g t (by simp at ht;rcases ht with rfl | rfl<;>simp)
 ch:=h.ch.kts za2 fun t ht=>g t (by simp at ht;subst ht;simp)
theorem Dk.kts (h:Dk w k D) (g:Kts (158::tysD) w w'):Dk w' k D:=by
 obtain ⟨ds,os,rs,sp,cs,ch,hL,hD⟩:=h
 exact ⟨ds,os,rs,sp,cs,ch,g 158 (by simp) _ _ _ hL,hD.kts fun t ht=>g t (List.mem_cons_of_mem _ ht)⟩
theorem Dk.gr (h:Dk w k D) (g:Gr w w'):Dk w' k D:=h.kts (g.kts _)
end
end Go.Proofs.YtjhflekncldflaaGreatDoor
namespace Go.Proofs.YtjhflekncldflaaGreatDoor
open Go.RowKit
section
variable {P:Program} {a:Act} {o:Oper} {w:World}
theorem rv_fld {v:Value} {j off:Nat} {vs:List Value} {w0:World} (h:AtV w0 v j vs) {fs:Array Field} {f:Field} (t:TypeId) (x:Operand) (i:Nat) (hop:o.op=.fieldAddr t x i) (hx:a.eval x=adr v j) (hu:P.underlying t=some (.struct fs)) (hf:fs[i]?=some f) (ho:f.offset=off) {sz:Nat} (hs:(P.info? f.type).map (·.size)=some (sz+1)):
  RunV P a o w (adr v (j+off)):=by
 obtain ⟨b,o2,n,cap,rfl,_⟩:=h
 obtain ⟨inf,hi,hsz⟩:=Option.map_eq_some_iff.1 hs
 have hx':a.eval x=.pointer (some ⟨b,o2+j,none⟩):=hx
 unfold RunV execOp
 simp only [hop,hx']
 by_cases h0:off=0<;>simp [Instr.fieldAt,Instr.sureAddr,fieldPlace,run_underlying hu,hf,ho,h0,adr,Addr.add,Nat.add_assoc,sizeOf,typeInfo,hi,hsz]
def fldAt (P:Program) (t:TypeId) (i:Nat):Option Nat:=
 match P.underlying t with
 | some (.struct fs)=>match fs[i]? with
  | some f=>match P.info? f.type with
   | some inf=>if inf.size=0 then none else some f.offset
   | none=>none
  | none=>none
 | _=>none
theorem zA6 {v:Value} {j off:Nat} {vs:List Value} {w0:World} (h:AtV w0 v j vs) (t:TypeId) (x:Operand) (i:Nat) (hop:o.op=.fieldAddr t x i) (hx:a.eval x=adr v j) (hk:fldAt P t i=some off):RunV P a o w (adr v (j+off)):=by
 unfold fldAt at hk
 split at hk
 ·next fs hu=>
  split at hk
  ·next f hf=>
   split at hk
   ·next inf hi=>
    split at hk
    ·cases hk
    next hz=>exact rv_fld h t x i hop hx hu hf (Option.some.inj hk) (sz:=inf.size - 1) (by rw [hi];show some inf.size=_;congr 1;omega)
   cases hk
  cases hk
 cases hk
theorem AtV.part {v:Value} {j i:Nat} {vs us:List Value} (h:AtV w v j vs) (hu:(vs.drop i).take us.length=us):AtV w v (j+i) us:=by
 obtain ⟨b,o2,n,cap,rfl,hr⟩:=h
 refine ⟨b,o2,n,cap,rfl,fun k u hk=>?_⟩
 have hl:k<us.length:=(List.getElem?_eq_some_iff.1 hk).1
 have:vs[i+k]?=some u:=by
  have e:((vs.drop i).take us.length)[k]?=some u:=by rw [hu];exact hk
  rwa [List.getElem?_take_of_lt hl,List.getElem?_drop] at e
 have:=hr (i+k) u this
 rw [show o2+(j+i)+k=o2+j+(i+k) by omega]
 exact this
theorem Lc.nety {b c:Nat} {cs ds:Array Value} {t u:TypeId} (h:Lc w b cs t) (g:Lc w c ds u) (hn:t≠u):b≠c:=fun e=>by
 subst e
 unfold Lc at h g
 rw [h] at g
 simp only [Option.some.injEq,Obj.cells.injEq] at g
 exact hn g.2.1
end
theorem IsRat.castq {w:World} {k:Nat} {c0 c1 c2 c3:Value} {q r:Rat} (h:IsRat w k c0 c1 c2 c3 q) (e:q=r):IsRat w k c0 c1 c2 c3 r:=e ▸ h
theorem bne_f {x y:Nat} (h:((x:Int) !=(y:Int))=false):x=y:=by simp at h;omega
theorem bne_t {x y:Nat} (h:((x:Int) !=(y:Int))=true):¬ x=y:=by simp at h;omega
theorem sgn_lt0 {z:Int}:sgn z<0↔z<0:=by unfold sgn;split<;>(try split)<;>omega
theorem sgn_pos0 {z:Int}:0<sgn z↔0<z:=by unfold sgn;split<;>(try split)<;>omega
theorem zK1 {a b:Rat}:zl4 a b<0↔a<b:=by
 unfold zl4;rw [sgn_lt0,Rat.lt_iff];omega
theorem zx9 {a b:Rat}:0<zl4 a b↔b<a:=by
 unfold zl4;rw [sgn_pos0,Rat.lt_iff];omega
end Go.Proofs.YtjhflekncldflaaGreatDoor
namespace Go.Proofs.YtjhflekncldflaaGreatDoor
set_option maxRecDepth 100000
set_option maxHeartbeats 1000000
open Go.RowKit

theorem min_r {k:Nat} {u0 u1 u2 u3 v0 v1 v2 v3:Value} {x y:Rat} {w:World} (ha:IsRat w k u0 u1 u2 u3 x) (hb:IsRat w k v0 v1 v2 v3 y) (_hk:k≤50000):
    Calls Tryz.prog 68 #[.agg #[u0,u1,u2,u3],.agg #[v0,v1,v2,v3]] w fun e w'=>(∃ c0 c1 c2 c3,e=.returned (.agg #[c0,c1,c2,c3])∧IsRat w' k c0 c1 c2 c3 (rmin x y))∧Gr w w':=by
 go_enter Tryz.func68,Tryz.ntmps68
 have hB:=Gr.refl w
 refine wp_seq_k (fun K1 k1=>rg [0,1,2] ?_)
 refine se ?_
 refine eb 62 #[u0,u1,u2,u3] 2 hB fun b2 w2 g2 L2 o2 q2 hB=>?_
 simp only [p3,p4]
 refine se ?_
 refine eb 62 #[v0,v1,v2,v3] 3 hB fun b3 w3 g3 L3 o3 q3 hB=>?_
 simp only [p3,p4]
 refine se ?_
 refine ea 62 #[.bool false,sN,.bool false,sN] 4 hB fun b4 w4 g4 L4 o4 q4 hB=>?_
 replace L2:=L2.gr g3
 simp only [p3,p4]
 refine za0 (k1 _ _ ?_)
 refine wp_seq_k (fun K5 k5=>wp_seq_k (fun K6 k6=>rg [0,1,2,3] ?_))
 replace L3:=L3.gr g4
 refine sw 5 (.agg #[v0,v1,v2,v3]) rfl (rl 62 0 [v0,v1,v2,v3] L3) ?_
 replace L2:=L2.gr g4
 refine sw 6 (.agg #[u0,u1,u2,u3]) rfl (rl 62 0 [u0,u1,u2,u3] L2) ?_
 refine se ?_
 have ah:=g2.kp.trans (g3.kp.trans g4.kp)
 replace hb:=hb.kp ah
 replace ha:=ha.kp ah
 refine ec 7 (zj8 hb ha (by omega)) ?_
 rintro e7 w7 ⟨rfl,g7⟩
 refine ⟨_,rfl,?_⟩
 replace hB:=hB.trans g7
 simp only [p3,p4]
 refine sv 8 (.bool (decide (zl4 y x<(0:Int)))) (za0 (k6 _ _ ?_))
 refine wp_cond_split rfl (fun ae=>?_) (fun ae=>?_)
 ·refine wp_seq_k (fun ar aj=>rg [0,1] ?_)
  replace L3:=L3.gr g7
  refine sw 9 (.agg #[v0,v1,v2,v3]) rfl (rl 62 0 [v0,v1,v2,v3] L3) ?_
  refine se ?_
  replace L4:=L4.gr g7
  refine es 62 0 (.agg #[v0,v1,v2,v3]) [v0,v1,v2,v3] #[v0,v1,v2,v3] L4 hB q4 ⟨hb.one0,hb.one1,hb.one2,hb.one3,trivial⟩ fun au ai af L4 hB=>?_
  refine za0 (aj _ _ ?_)
  refine wp_ret ?_
  simp only [Exit.then]
  refine bodyPost_ret (v:=(.agg #[v0,v1,v2,v3])) (zc8 _ _ _ rfl rfl L4 (by kernel_rfl)) rfl ⟨?_,hB⟩
  have ad:=g7.kp.trans af
  replace hb:=hb.kp ad
  exact (by refine ⟨_,_,_,_,rfl,IsRat.castq hb ?_⟩;unfold rmin;rw [if_pos (zK1.1 (of_decide_eq_true ae))])
 refine wp_skip ?_
 refine k5 _ _ ?_
 refine wp_seq_k (fun ap ak=>rg [0,1] ?_)
 replace L2:=L2.gr g7
 refine sw 10 (.agg #[u0,u1,u2,u3]) rfl (rl 62 0 [u0,u1,u2,u3] L2) ?_
 refine se ?_
 replace L4:=L4.gr g7
 refine es 62 0 (.agg #[u0,u1,u2,u3]) [u0,u1,u2,u3] #[u0,u1,u2,u3] L4 hB q4 ⟨ha.one0,ha.one1,ha.one2,ha.one3,trivial⟩ fun aq al aa L4 hB=>?_
 refine za0 (ak _ _ ?_)
 refine wp_ret ?_
 refine bodyPost_ret (v:=(.agg #[u0,u1,u2,u3])) (zc8 _ _ _ rfl rfl L4 (by kernel_rfl)) rfl ⟨?_,hB⟩
 have ac:=g7.kp.trans aa
 replace ha:=ha.kp ac
 exact (by refine ⟨_,_,_,_,rfl,IsRat.castq ha ?_⟩;unfold rmin;rw [if_neg (fun h=>(of_decide_eq_false ae) (zK1.2 h))])

theorem max_r {k:Nat} {u0 u1 u2 u3 v0 v1 v2 v3:Value} {x y:Rat} {w:World} (ha:IsRat w k u0 u1 u2 u3 x) (hb:IsRat w k v0 v1 v2 v3 y) (_hk:k≤50000):
    Calls Tryz.prog 69 #[.agg #[u0,u1,u2,u3],.agg #[v0,v1,v2,v3]] w fun e w'=>(∃ c0 c1 c2 c3,e=.returned (.agg #[c0,c1,c2,c3])∧IsRat w' k c0 c1 c2 c3 (rmax x y))∧Gr w w':=by
 go_enter Tryz.func69,Tryz.ntmps69
 have hB:=Gr.refl w
 refine wp_seq_k (fun K1 k1=>rg [0,1,2] ?_)
 refine se ?_
 refine eb 62 #[u0,u1,u2,u3] 2 hB fun b2 w2 g2 L2 o2 q2 hB=>?_
 simp only [p3,p4]
 refine se ?_
 refine eb 62 #[v0,v1,v2,v3] 3 hB fun b3 w3 g3 L3 o3 q3 hB=>?_
 simp only [p3,p4]
 refine se ?_
 refine ea 62 #[.bool false,sN,.bool false,sN] 4 hB fun b4 w4 g4 L4 o4 q4 hB=>?_
 replace L2:=L2.gr g3
 simp only [p3,p4]
 refine za0 (k1 _ _ ?_)
 refine wp_seq_k (fun K5 k5=>wp_seq_k (fun K6 k6=>rg [0,1,2,3] ?_))
 replace L3:=L3.gr g4
 refine sw 5 (.agg #[v0,v1,v2,v3]) rfl (rl 62 0 [v0,v1,v2,v3] L3) ?_
 replace L2:=L2.gr g4
 refine sw 6 (.agg #[u0,u1,u2,u3]) rfl (rl 62 0 [u0,u1,u2,u3] L2) ?_
 refine se ?_
 have ah:=g2.kp.trans (g3.kp.trans g4.kp)
 replace hb:=hb.kp ah
 replace ha:=ha.kp ah
 refine ec 7 (zj8 hb ha (by omega)) ?_
 rintro e7 w7 ⟨rfl,g7⟩
 refine ⟨_,rfl,?_⟩
 replace hB:=hB.trans g7
 simp only [p3,p4]
 refine sv 8 (.bool (decide ((0:Int)<zl4 y x))) (za0 (k6 _ _ ?_))
 refine wp_cond_split rfl (fun ae=>?_) (fun ae=>?_)
 ·refine wp_seq_k (fun ar aj=>rg [0,1] ?_)
  replace L3:=L3.gr g7
  refine sw 9 (.agg #[v0,v1,v2,v3]) rfl (rl 62 0 [v0,v1,v2,v3] L3) ?_
  refine se ?_
  replace L4:=L4.gr g7
  refine es 62 0 (.agg #[v0,v1,v2,v3]) [v0,v1,v2,v3] #[v0,v1,v2,v3] L4 hB q4 ⟨hb.one0,hb.one1,hb.one2,hb.one3,trivial⟩ fun au ai af L4 hB=>?_
  refine za0 (aj _ _ ?_)
  refine wp_ret ?_
  simp only [Exit.then]
  refine bodyPost_ret (v:=(.agg #[v0,v1,v2,v3])) (zc8 _ _ _ rfl rfl L4 (by kernel_rfl)) rfl ⟨?_,hB⟩
  have ad:=g7.kp.trans af
  replace hb:=hb.kp ad
  exact (by refine ⟨_,_,_,_,rfl,IsRat.castq hb ?_⟩;unfold rmax;rw [if_pos (zx9.1 (of_decide_eq_true ae))])
 refine wp_skip ?_
 refine k5 _ _ ?_
 refine wp_seq_k (fun ap ak=>rg [0,1] ?_)
 replace L2:=L2.gr g7
 refine sw 10 (.agg #[u0,u1,u2,u3]) rfl (rl 62 0 [u0,u1,u2,u3] L2) ?_
 refine se ?_
 replace L4:=L4.gr g7
 refine es 62 0 (.agg #[u0,u1,u2,u3]) [u0,u1,u2,u3] #[u0,u1,u2,u3] L4 hB q4 ⟨ha.one0,ha.one1,ha.one2,ha.one3,trivial⟩ fun aq al aa L4 hB=>?_
 refine za0 (ak _ _ ?_)
 refine wp_ret ?_
 refine bodyPost_ret (v:=(.agg #[u0,u1,u2,u3])) (zc8 _ _ _ rfl rfl L4 (by kernel_rfl)) rfl ⟨?_,hB⟩
 have ac:=g7.kp.trans aa
 replace ha:=ha.kp ac
 exact (by refine ⟨_,_,_,_,rfl,IsRat.castq ha ?_⟩;unfold rmax;rw [if_neg (fun h=>(of_decide_eq_false ae) (zx9.2 h))])

theorem zi7 {D:Ofr} {dk:Nat} {ds os rs sp cs ch:Value} (ok:D.Ok) {w:World} (hL:Lc w dk #[ds,os,rs,sp,cs,ch] 158) (hD:Dsk w D ds os rs sp cs ch) {TT:Nat} {l:List Nat} {v:Value} (hv:D.vp l) (hl:Sl EI64 TT 1 w v (tb (fun z1=>((Ofr.at_ l z1:Nat):Int)) l.length)):
    Calls Tryz.prog 48 #[pT dk 0,v] w fun e w'=>e=.returned (iT (D.bd l))∧Gr w w':=by
 have n1:=ok.n1
 have n2:=ok.n2
 have aU:=ok.q2
 have aE:=hv.1
 go_enter Tryz.func48,Tryz.ntmps48
 have hB:=Gr.refl w
 refine wp_seq_k (fun aI aA=>rg [0] (sv 4 (iT 0) ?_))
 refine za0 (aA _ _ ?_)
 refine wp_seq_k (fun aG aC=>rg [0] (sv 5 (iT 0) ?_))
 refine za0 (aC _ _ ?_)
 refine wp_seq_k (fun aH ay=>wp_seq_k (fun aS ax=>rg [0,1,2,3,4,5] (sv 8 (pT dk 0) ?_)))
 refine sv 9 (pT dk 0) ?_
 refine sv 10 (pT dk 5) ?_
 refine sw 11 ch rfl (rk 40 5 hL) ?_
 refine sw 12 (iT ((D.n:Nat):Int)) rfl (zb0 (e:=3) hD.ch (za9 rfl) _ _ rfl rfl (by kernel_rfl)) ?_
 refine sv 13 (iT 0) (za0 (ax _ _ ?_))
 refine wp_block ?_
 refine zb1 (a:=⟨List.toArray ?l14,[]⟩) (fun n a w'=>∃ (i:Nat) (sm:Int) (aa:Nat→Value),D.n - i=n∧a=⟨[pT dk 0,v,undef,undef,iT 0,iT (sm),aa 6,aa 7,aa 8,aa 9,aa 10,ch,iT ((D.n:Nat):Int),iT (i:Int),aa 14,aa 15,aa 16,aa 17,aa 18,aa 19,aa 20,aa 21,aa 22,aa 23,aa 24,aa 25,aa 26,aa 27,aa 28,aa 29,aa 30,aa 31,aa 32,aa 33,aa 34,aa 35,aa 36,aa 37,aa 38,aa 39,aa 40,undef].toArray,[]⟩∧i≤D.n∧sm=zD1 (D.bc l) i∧Lc w' dk #[ds,os,rs,sp,cs,ch] 158∧Gr w w') (D.n - 0) ?_ ?_
 ·exact ⟨0,0,(fun i=>List.getD ?l14 i undef),rfl,rfl,Nat.zero_le _,rfl,hL,hB⟩
 rintro aJ aQ av ⟨i,sm,aa,rfl,rfl,hki,hsm,hL,hB⟩ aO ar
 have hsr:=isum_b (f:=D.bc l) (k:=i) fun j hj=>ok.bc hv (by omega)
 refine wp_seq_k (fun aF aw=>rg [0] (sv 14 (.bool (decide ((i:Int)<((D.n:Nat):Int)))) ?_))
 refine za0 (aw _ _ ?_)
 refine wp_seq_k (fun aP au=>?_)
 refine wp_cond_split rfl (fun ad=>?_) (fun ad=>?_)
 ·have hli:i<D.n:=by have:=of_decide_eq_true ad;omega
  refine wp_skip ?_
  refine au _ _ ?_
  refine wp_seq_k (fun aR ap=>?_)
  refine wp_block ?_
  refine wp_seq_k (fun aM aB=>rg [0,1,2,3,4] (sv 15 (iT (i:Int)) ?_))
  refine sw 16 (adr ch (i*1)) rfl (zc0 (e:=3) hD.ch za8 (by decide) i (by omega) _ _ _ rfl rfl rfl (by kernel_rfl) (by kernel_rfl)) ?_
  obtain ⟨_,_,rfl,al⟩:=Sl.get hD.ch (by decide) (zc3 (f:=(fun z1=>(D.ch z1))) (n:=D.n) (i:=i) (by omega))
  refine sw 17 (iT (D.ch i)) rfl (ze6 (iT (D.ch i)) (al.gr hB) _ _ rfl rfl (by kernel_rfl)) ?_
  refine sv 6 (iT (i:Int)) ?_
  refine sv 7 (iT (D.ch i)) (za0 (aB _ _ ?_))
  refine wp_seq_k (fun aN aq=>wp_seq_k (fun aK aD=>rg [0,1,2,3] (sv 18 (iT (i:Int)) ?_)))
  refine sv 19 v ?_
  refine sw 20 (iT ((l.length:Nat):Int)) rfl (zb0 (e:=3) hl (za9 rfl) _ _ rfl rfl (by kernel_rfl)) ?_
  refine sv 21 (.bool (decide ((i:Int)<((l.length:Nat):Int)))) (za0 (aD _ _ ?_))
  refine wp_cond_split rfl (fun ac=>?_) (fun ac=>?_)
  ·have hil:i<l.length:=by have:=of_decide_eq_true ac;omega
   have hat:=hv.2 i hil
   have hco:=ok.co i (Ofr.at_ l i) (by omega) hat
   have aT:=ok.o2 i (by omega)
   obtain ⟨_,_,⟨ae,rfl,af⟩,ak⟩:=Sl.get hD.os (by decide) (zc3 (f:=(fun z0=>tb (fun z1=>(D.op z0 z1)) (D.ol z0))) (n:=D.n) (i:=i) (by omega))
   obtain ⟨_,_,rfl,aj⟩:=Sl.get hl (by decide) (zc3 (f:=(fun z1=>((Ofr.at_ l z1:Nat):Int))) (n:=l.length) (i:=i) (by omega))
   obtain ⟨_,_,rfl,ai⟩:=Sl.get af (by decide) (zc3 (f:=(fun z1=>(D.op i z1))) (n:=(D.ol i)) (i:=(Ofr.at_ l i)) (by omega))
   have ah:=Gr.drew av
   replace hB:=hB.trans ah
   replace hL:=hL.gr ah
   refine za4 (fun w'=>Lc w' dk #[ds,os,rs,sp,cs,ch] 158∧AtV w' os (i*1) [ae]∧AtV w' v (i*1) [iT ((Ofr.at_ l i:Nat):Int)]∧AtV w' ae ((Ofr.at_ l i)*3) [iT (D.lo i (Ofr.at_ l i)),iT (D.up i (Ofr.at_ l i)),iT (D.co i (Ofr.at_ l i))]) [(true,0),(true,1),(true,2),(true,3),(true,4),(true,5),(true,6),(true,7),(true,8),(true,9),(true,10),(true,11),(true,12),(true,13),(true,14),(true,15)] (by kernel_rfl) (by kernel_rfl) (by kernel_rfl) (by decide) (fun _ _ _ _ _ h=>h) ⟨hL,ak.gr hB,aj.gr hB,ai.gr hB⟩ ?_
   refine ov 22 (pT dk 0) ?_
   refine ov 23 (pT dk 0) ?_
   refine ov 24 (pT dk 0) ?_
   refine ov 25 (pT dk 1) ?_
   refine ow 26 os rfl (fun w' hS=>(rk 23 1 hS.1)) ?_
   refine ov 27 (iT (i:Int)) ?_
   refine ow 28 (adr os (i*1)) rfl (fun w' hS=>(zc0 (e:=72) hD.os za8 (by decide) i (by omega) _ _ _ rfl rfl rfl (by kernel_rfl) (by kernel_rfl))) ?_
   refine ow 29 ae rfl (fun w' hS=>(ze6 ae hS.2.1 _ _ rfl rfl (by kernel_rfl))) ?_
   refine ov 30 v ?_
   refine ov 31 (iT (i:Int)) ?_
   refine ow 32 (adr v (i*1)) rfl (fun w' hS=>(zc0 (e:=3) hl za8 (by decide) i (by omega) _ _ _ rfl rfl rfl (by kernel_rfl) (by kernel_rfl))) ?_
   refine ow 33 (iT ((Ofr.at_ l i:Nat):Int)) rfl (fun w' hS=>(ze6 (iT ((Ofr.at_ l i:Nat):Int)) hS.2.2.1 _ _ rfl rfl (by kernel_rfl))) ?_
   refine ow 34 (adr ae ((Ofr.at_ l i)*3)) rfl (fun w' hS=>(zc0 (e:=68) af za8 (by decide) (Ofr.at_ l i) (by omega) _ _ _ rfl rfl rfl (by kernel_rfl) (by kernel_rfl))) ?_
   refine ow 35 (adr ae ((Ofr.at_ l i)*3+2)) rfl (fun w' hS=>(zA6 (off:=2) ai _ _ 2 rfl rfl (by kernel_rfl))) ?_
   refine ow 36 (iT (D.co i (Ofr.at_ l i))) rfl (fun w' hS=>(ze6 (iT (D.co i (Ofr.at_ l i))) (AtV.part (i:=2) (us:=[iT (D.co i (Ofr.at_ l i))]) hS.2.2.2 rfl) _ _ rfl rfl (by kernel_rfl))) ?_
   refine ov 7 (iT (D.co i (Ofr.at_ l i))) ?_
   refine zb4 ?_
   refine aq _ _ ?_
   refine rg [0,1,2,3] (sv 37 (iT (sm)) ?_)
   refine sv 38 (iT (D.co i (Ofr.at_ l i))) ?_
   refine sw 39 (iT (sm+(D.co i (Ofr.at_ l i)))) rfl (rwI (sm+(D.co i (Ofr.at_ l i)))) ?_
   refine sv 5 (iT (sm+(D.co i (Ofr.at_ l i)))) (za0 (ap _ _ ?_))
   refine rg [0,1] ?_
   refine sw 40 (iT ((i:Int)+1)) rfl (rwI ((i:Int)+1)) ?_
   refine sv 13 (iT ((i:Int)+1)) ?_
   refine za0 ?_
   refine ar (D.n - (i+1)) ⟨List.toArray ?l29,[]⟩ _ (by omega) ?_
   exact ⟨i+1,(sm+(D.co i (Ofr.at_ l i))),(fun i=>List.getD ?l29 i undef),rfl,rfl,(by omega),(by rw [hsm];exact bc_in hil),hL,hB⟩
  have hil:¬ i<l.length:=by have:=of_decide_eq_false ac;omega
  have hco:=ok.ch (i:=i) (by omega)
  refine wp_skip ?_
  refine aq _ _ ?_
  refine rg [0,1,2,3] (sv 37 (iT (sm)) ?_)
  refine sv 38 (iT (D.ch i)) ?_
  refine sw 39 (iT (sm+(D.ch i))) rfl (rwI (sm+(D.ch i))) ?_
  refine sv 5 (iT (sm+(D.ch i))) (za0 (ap _ _ ?_))
  refine rg [0,1] ?_
  refine sw 40 (iT ((i:Int)+1)) rfl (rwI ((i:Int)+1)) ?_
  refine sv 13 (iT ((i:Int)+1)) ?_
  refine za0 ?_
  refine ar (D.n - (i+1)) ⟨List.toArray ?l30,[]⟩ _ (by omega) ?_
  exact ⟨i+1,(sm+(D.ch i)),(fun i=>List.getD ?l30 i undef),rfl,rfl,(by omega),(by rw [hsm];exact bc_out hil),hL,hB⟩
 have hei:D.n=i:=by have:=of_decide_eq_false ad;omega
 subst hei
 refine wp_exit ?_
 simp only [Exit.then,Exit.inBlock,↓reduceIte]
 refine ay _ _ ?_
 refine wp_seq_k (fun aL az=>rg [0,1] (sv 41 (iT (sm)) ?_))
 refine sv 4 (iT (sm)) (za0 (az _ _ ?_))
 refine wp_ret ?_
 refine bodyPost_ret (v:=(iT (sm))) (za3 rfl rfl) rfl ⟨?_,hB⟩
 exact (by rw [hsm];rfl)

end Go.Proofs.YtjhflekncldflaaGreatDoor
namespace Go.Proofs.YtjhflekncldflaaGreatDoor
set_option maxRecDepth 100000
set_option maxHeartbeats 1000000
open Go.RowKit

theorem xl_in {D:Ofr} {l:List Nat} {r i:Nat} (h:i<l.length):zw7 (D.cn r) (D.xl l r) i+D.sl r i (Ofr.at_ l i)=zw7 (D.cn r) (D.xl l r) (i+1):=by
 show _=zw7 (D.cn r) (D.xl l r) i+D.xl l r i
 unfold Ofr.xl;rw [if_pos h]
theorem xl_out {D:Ofr} {l:List Nat} {r i:Nat} (h:¬ i<l.length):zw7 (D.cn r) (D.xl l r) i+bmax (D.sl r i) (D.ol i)=zw7 (D.cn r) (D.xl l r) (i+1):=by
 show _=zw7 (D.cn r) (D.xl l r) i+D.xl l r i
 unfold Ofr.xl;rw [if_neg h]
theorem xu_in {D:Ofr} {l:List Nat} {r i:Nat} (h:i<l.length):zw7 (D.cn r) (D.xu l r) i+D.su r i (Ofr.at_ l i)=zw7 (D.cn r) (D.xu l r) (i+1):=by
 show _=zw7 (D.cn r) (D.xu l r) i+D.xu l r i
 unfold Ofr.xu;rw [if_pos h]
theorem xu_out {D:Ofr} {l:List Nat} {r i:Nat} (h:¬ i<l.length):zw7 (D.cn r) (D.xu l r) i+bmin (D.su r i) (D.ol i)=zw7 (D.cn r) (D.xu l r) (i+1):=by
 show _=zw7 (D.cn r) (D.xu l r) i+D.xu l r i
 unfold Ofr.xu;rw [if_neg h]
theorem zL7 {D:Ofr} {dk r:Nat} {ds os rs sp cs ch:Value} (ok:D.Ok) {w:World} (hL:Lc w dk #[ds,os,rs,sp,cs,ch] 158) (hD:Dsk w D ds os rs sp cs ch) (_hr:r<D.q) {TT:Nat} {l:List Nat} {v:Value} (hv:D.vp l) (hl:Sl EI64 TT 1 w v (tb (fun z1=>((Ofr.at_ l z1:Nat):Int)) l.length)):
    Calls Tryz.prog 49 #[pT dk 0,v,iT (r:Int)] w fun e w'=>(∃ c0 c1 c2 c3 c4 c5 c6 c7,e=.returned (.agg #[c0,c1,c2,c3,c4,c5,c6,c7])∧IsRat w' 900 c0 c1 c2 c3 (D.wl l r)∧IsRat w' 900 c4 c5 c6 c7 (D.wu l r))∧Gr w w':=by
 have n1:=ok.n1
 have n2:=ok.n2
 have ep:=ok.q2
 have dz:=hv.1
 go_enter Tryz.func49,Tryz.ntmps49
 have hB:=Gr.refl w
 refine wp_seq_k (fun ef dv=>rg [0] ?_)
 refine se ?_
 refine ea 124 #[.bool false,sN,.bool false,sN,.bool false,sN,.bool false,sN] 6 hB fun cl dh dq al dS cP hB=>?_
 simp only [p3,p4]
 refine za0 (dv _ _ ?_)
 refine wp_seq_k (fun ed cV=>?_)
 obtain ⟨_,_,⟨ah,aj,ai,ak,rfl,bf⟩,bp⟩:=Sl.get hD.cs (by decide) (zc3 (f:=(fun z1=>(D.cn z1))) (n:=D.q) (i:=r) (by omega))
 have bv:=Gr.drew dh
 replace hB:=hB.trans bv
 replace hL:=hL.gr (dq.trans bv)
 refine za4 (fun w'=>Lc w' dk #[ds,os,rs,sp,cs,ch] 158∧AtV w' cs (r*4) [ah,aj,ai,ak]) [(true,0),(true,1),(true,2),(true,3),(true,4),(true,5),(true,6),(true,7),(true,8),(true,9),(true,10),(true,11),(true,12),(true,13),(true,14),(false,15),(false,16)] (by kernel_rfl) (by kernel_rfl) (by kernel_rfl) (by decide) (fun _ _ _ _ _ h=>h) ⟨hL,bp.gr hB⟩ ?_
 refine ov 13 (pT dk 0) ?_
 refine ov 14 (pT dk 0) ?_
 refine ov 15 (pT dk 4) ?_
 refine ow 16 cs rfl (fun w' hS=>(rk 146 4 hS.1)) ?_
 refine ov 17 (iT (r:Int)) ?_
 refine ow 18 (adr cs (r*4)) rfl (fun w' hS=>(zc0 (e:=62) hD.cs za8 (by decide) r (by omega) _ _ _ rfl rfl rfl (by kernel_rfl) (by kernel_rfl))) ?_
 refine ow 19 (.agg #[ah,aj,ai,ak]) rfl (fun w' hS=>(ze5 [ah,aj,ai,ak] hS.2 _ _ rfl rfl (by kernel_rfl))) ?_
 refine ov 20 (pT dk 0) ?_
 refine ov 21 (pT dk 0) ?_
 refine ov 22 (pT dk 4) ?_
 refine ow 23 cs rfl (fun w' hS=>(rk 146 4 hS.1)) ?_
 refine ov 24 (iT (r:Int)) ?_
 refine ow 25 (adr cs (r*4)) rfl (fun w' hS=>(zc0 (e:=62) hD.cs za8 (by decide) r (by omega) _ _ _ rfl rfl rfl (by kernel_rfl) (by kernel_rfl))) ?_
 refine ow 26 (.agg #[ah,aj,ai,ak]) rfl (fun w' hS=>(ze5 [ah,aj,ai,ak] hS.2 _ _ rfl rfl (by kernel_rfl))) ?_
 refine ov 27 (.agg #[ah,aj,ai,ak,ah,aj,ai,ak]) ?_
 refine oe ?_
 refine ea 124 #[.bool false,sN,.bool false,sN,.bool false,sN,.bool false,sN] 7 hB fun bb en cJ ae cI cz hB=>?_
 have bG:=hL.ne cI
 replace al:=al.gr bv
 have ar:=al.ne cI
 replace hL:=hL.gr cJ
 refine ⟨⟨hL,bp.gr hB⟩,?_⟩
 simp only [p3,p4]
 refine oe ?_
 refine es 124 0 (.agg #[ah,aj,ai,ak,ah,aj,ai,ak]) [ah,aj,ai,ak,ah,aj,ai,ak] #[ah,aj,ai,ak,ah,aj,ai,ak] ae hB cz ⟨bf.one0,bf.one1,bf.one2,bf.one3,bf.one0,bf.one1,bf.one2,bf.one3,trivial⟩ fun dQ cj dw ae hB=>?_
 replace hL:=cj.lc hL bG
 refine ⟨⟨hL,bp.gr hB⟩,?_⟩
 refine zb4 ?_
 refine cV _ _ ?_
 refine wp_seq_k (fun ei di=>wp_seq_k (fun d8 c8=>rg [0,1,2,3,4,5,6,7,8] (sv 28 (pT dk 0) ?_)))
 refine sv 29 (pT dk 0) ?_
 refine sv 30 (pT dk 3) ?_
 refine sw 31 sp rfl (rk 156 3 hL) ?_
 refine sv 32 (iT (r:Int)) ?_
 refine sw 33 (adr sp (r*1)) rfl (zc0 (e:=161) hD.sp za8 (by decide) r (by omega) _ _ _ rfl rfl rfl (by kernel_rfl) (by kernel_rfl)) ?_
 obtain ⟨_,_,⟨bV,rfl,bA⟩,cm⟩:=Sl.get hD.sp (by decide) (zc3 (f:=(fun z0=>tb (fun z1=>tb (fun z2=>(D.sp z0 z1 z2)) (D.ol z1)) D.n)) (n:=D.q) (i:=r) (by omega))
 refine sw 34 bV rfl (ze6 bV (cm.gr hB) _ _ rfl rfl (by kernel_rfl)) ?_
 refine sw 35 (iT ((D.n:Nat):Int)) rfl (zb0 (e:=162) bA (za9 rfl) _ _ rfl rfl (by kernel_rfl)) ?_
 refine sv 36 (iT 0) (za0 (c8 _ _ ?_))
 refine wp_block ?_
 replace al:=cj.lc (al.gr cJ) ar
 refine zb1 (a:=⟨List.toArray ?l27,[]⟩) (fun n a w'=>∃ (i:Nat) (c0:Value) (c1:Value) (c2:Value) (c3:Value) (c4:Value) (c5:Value) (c6:Value) (c7:Value) (aa:Nat→Value),D.n - i=n∧a=⟨[pT dk 0,v,iT (r:Int),undef,undef,undef,pT cl 0,pT bb 0,aa 8,aa 9,aa 10,undef,aa 12,aa 13,aa 14,aa 15,aa 16,aa 17,aa 18,aa 19,aa 20,aa 21,aa 22,aa 23,aa 24,aa 25,aa 26,aa 27,aa 28,aa 29,aa 30,aa 31,aa 32,aa 33,bV,iT ((D.n:Nat):Int),iT (i:Int),aa 37,aa 38,aa 39,aa 40,aa 41,aa 42,aa 43,aa 44,aa 45,aa 46,aa 47,aa 48,aa 49,aa 50,aa 51,aa 52,aa 53,aa 54,aa 55,aa 56,aa 57,aa 58,aa 59,aa 60,aa 61,aa 62,aa 63,aa 64,aa 65,aa 66,aa 67,aa 68,aa 69,aa 70,aa 71,aa 72,aa 73,aa 74,aa 75,aa 76,aa 77,aa 78,aa 79,aa 80,aa 81,aa 82,aa 83,aa 84,undef].toArray,[]⟩∧i≤D.n∧IsRat w' (64+i*65) c0 c1 c2 c3 (zw7 (D.cn r) (D.xl l r) i)∧IsRat w' (64+i*65) c4 c5 c6 c7 (zw7 (D.cn r) (D.xu l r) i)∧Lc w' cl #[.bool false,sN,.bool false,sN,.bool false,sN,.bool false,sN] 124∧Lc w' bb #[c0,c1,c2,c3,c4,c5,c6,c7] 124∧Gr w w') (D.n - 0) ?_ ?_
 ·exact ⟨0,ah,aj,ai,ak,ah,aj,ai,ak,(fun i=>List.getD ?l27 i undef),rfl,rfl,Nat.zero_le _,bf.kp hB.kp,bf.kp hB.kp,al,ae,hB⟩
 rintro dG dW dy ⟨i,c0,c1,c2,c3,c4,c5,c6,c7,aa,rfl,rfl,hki,hra,hrb,al,ae,hB⟩ ej cH
 have dB:i<D.n→0<D.ol i:=fun h=>ok.o1 i h
 have dP:i<D.n→D.ol i≤8:=fun h=>ok.o2 i h
 refine wp_seq_k (fun dM dr=>rg [0] (sv 37 (.bool (decide ((i:Int)<((D.n:Nat):Int)))) ?_))
 refine za0 (dr _ _ ?_)
 refine wp_seq_k (fun dY db=>?_)
 refine wp_cond_split rfl (fun bo=>?_) (fun bo=>?_)
 ·have hli:i<D.n:=by have:=of_decide_eq_true bo;omega
  refine wp_skip ?_
  refine db _ _ ?_
  refine wp_seq_k (fun dD cM=>?_)
  refine wp_block ?_
  refine wp_seq_k (fun dA dj=>rg [0,1,2,3,4] (sv 38 (iT (i:Int)) ?_))
  refine sw 39 (adr bV (i*1)) rfl (zc0 (e:=162) bA za8 (by decide) i (by omega) _ _ _ rfl rfl rfl (by kernel_rfl) (by kernel_rfl)) ?_
  obtain ⟨_,_,⟨a1,rfl,aM⟩,cr⟩:=Sl.get bA (by decide) (zc3 (f:=(fun z1=>tb (fun z2=>(D.sp r z1 z2)) (D.ol z1))) (n:=D.n) (i:=i) (by omega))
  refine sw 40 a1 rfl (ze6 a1 (cr.gr hB) _ _ rfl rfl (by kernel_rfl)) ?_
  refine sv 8 (iT (i:Int)) ?_
  refine sv 9 a1 (za0 (dj _ _ ?_))
  refine wp_seq_k (fun dN cR=>rg [0,1,2,3,4] (sv 41 a1 ?_))
  refine sw 42 (adr a1 (0*8)) rfl (zc0 (e:=124) aM za8 (by decide) 0 (by omega) _ _ _ rfl rfl rfl (by kernel_rfl) (by kernel_rfl)) ?_
  obtain ⟨_,_,⟨aX,aS,aY,aQ,aR,aT,aW,aU,rfl,cg,bM⟩,cu⟩:=Sl.get aM (by decide) (zc3 (f:=(fun z2=>(D.sp r i z2))) (n:=(D.ol i)) (i:=0) (by omega))
  refine sw 43 (.agg #[aX,aS,aY,aQ,aR,aT,aW,aU]) rfl (ze5 [aX,aS,aY,aQ,aR,aT,aW,aU] (cu.gr hB) _ _ rfl rfl (by kernel_rfl)) ?_
  refine se ?_
  refine ea 124 #[.bool false,sN,.bool false,sN,.bool false,sN,.bool false,sN] 10 hB fun a9 eh bn ad cN cw hB=>?_
  have ap:=al.ne cN
  have af:=ae.ne cN
  simp only [p3,p4]
  refine se ?_
  refine es 124 0 (.agg #[aX,aS,aY,aQ,aR,aT,aW,aU]) [aX,aS,aY,aQ,aR,aT,aW,aU] #[aX,aS,aY,aQ,aR,aT,aW,aU] ad hB cw ⟨cg.one0,cg.one1,cg.one2,cg.one3,bM.one0,bM.one1,bM.one2,bM.one3,trivial⟩ fun dU bi bq ad hB=>?_
  refine za0 (cR _ _ ?_)
  refine wp_seq_k (fun dR cL=>wp_seq_k (fun dO dc=>rg [0,1,2,3] (sv 44 (iT (i:Int)) ?_)))
  refine sv 45 v ?_
  refine sw 46 (iT ((l.length:Nat):Int)) rfl (zb0 (e:=3) hl (za9 rfl) _ _ rfl rfl (by kernel_rfl)) ?_
  refine sv 47 (.bool (decide ((i:Int)<((l.length:Nat):Int)))) (za0 (dc _ _ ?_))
  refine wp_cond_split rfl (fun bH=>?_) (fun bH=>?_)
  ·have hil:i<l.length:=by have:=of_decide_eq_true bH;omega
   have hat:=hv.2 i hil
   refine rg [0,1,2,3,4,5,6,7] (sv 48 a1 ?_)
   refine sv 49 v ?_
   refine sv 50 (iT (i:Int)) ?_
   refine sw 51 (adr v (i*1)) rfl (zc0 (e:=3) hl za8 (by decide) i (by omega) _ _ _ rfl rfl rfl (by kernel_rfl) (by kernel_rfl)) ?_
   obtain ⟨_,_,rfl,cp⟩:=Sl.get hl (by decide) (zc3 (f:=(fun z1=>((Ofr.at_ l z1:Nat):Int))) (n:=l.length) (i:=i) (by omega))
   refine sw 52 (iT ((Ofr.at_ l i:Nat):Int)) rfl (ze6 (iT ((Ofr.at_ l i:Nat):Int)) (cp.gr hB) _ _ rfl rfl (by kernel_rfl)) ?_
   refine sw 53 (adr a1 ((Ofr.at_ l i)*8)) rfl (zc0 (e:=124) aM za8 (by decide) (Ofr.at_ l i) (by omega) _ _ _ rfl rfl rfl (by kernel_rfl) (by kernel_rfl)) ?_
   obtain ⟨_,_,⟨aH,aE,az,ax,aB,av,aD,aJ,rfl,bK,bT⟩,cE⟩:=Sl.get aM (by decide) (zc3 (f:=(fun z2=>(D.sp r i z2))) (n:=(D.ol i)) (i:=(Ofr.at_ l i)) (by omega))
   refine sw 54 (.agg #[aH,aE,az,ax,aB,av,aD,aJ]) rfl (ze5 [aH,aE,az,ax,aB,av,aD,aJ] (cE.gr hB) _ _ rfl rfl (by kernel_rfl)) ?_
   refine se ?_
   refine es 124 0 (.agg #[aH,aE,az,ax,aB,av,aD,aJ]) [aH,aE,az,ax,aB,av,aD,aJ] #[aH,aE,az,ax,aB,av,aD,aJ] ad hB cw ⟨bK.one0,bK.one1,bK.one2,bK.one3,bT.one0,bT.one1,bT.one2,bT.one3,trivial⟩ fun dp bS b6 ad hB=>?_
   refine za0 (cL _ _ ?_)
   have aV:=Gr.drew dp
   replace hB:=hB.trans aV
   replace ad:=ad.gr aV
   replace ae:=(bS.lc (bi.lc (ae.gr bn) af) af).gr aV
   refine zd7 (fun w'=>Lc w' a9 #[aH,aE,az,ax,aB,av,aD,aJ] 124) [([11],(fun w'=>Lc w' bb #[c0,c1,c2,c3,c4,c5,c6,c7] 124))] [(true,0),(true,1),(true,2),(true,3),(true,5),(true,6),(true,7),(true,8),(false,4),(false,9),(true,10),(false,11)] (by kernel_rfl) (by kernel_rfl) (by kernel_rfl) (by decide) (fun _ _ _ _ _ h=>h) ad ⟨fun _=>ae,trivial⟩ ?_
   refine tv 73 (pT bb 0) ?_
   refine tw 74 (.agg #[c0,c1,c2,c3]) rfl (fun w' hS=>(rl 62 0 [c0,c1,c2,c3] (hS.2.1 (by kernel_rfl)))) ?_
   refine tv 75 (pT a9 0) ?_
   refine tw 76 (.agg #[aH,aE,az,ax]) rfl (fun w' hS=>(rl 62 0 [aH,aE,az,ax] hS.1)) ?_
   refine tv 78 (pT bb 4) ?_
   refine tw 79 (.agg #[c4,c5,c6,c7]) rfl (fun w' hS=>(rl 62 4 [c4,c5,c6,c7] (hS.2.1 (by kernel_rfl)))) ?_
   refine tv 80 (pT a9 4) ?_
   refine tw 81 (.agg #[aB,av,aD,aJ]) rfl (fun w' hS=>(rl 62 4 [aB,av,aD,aJ] hS.1)) ?_
   refine te ?_
   have cq:=bn.kp.trans (bq.trans (b6.trans aV.kp))
   replace hra:=hra.kp cq
   refine ec 77 (add_r hra (bK.kp hB.kp) (by omega)) ?_
   rintro dI el ⟨⟨ck,b8,b4,cb,rfl,bw⟩,cf⟩
   refine ⟨_,rfl,?_⟩
   replace hB:=hB.trans cf
   replace ad:=ad.gr cf
   replace ae:=ae.gr cf
   refine ⟨ad,⟨fun _=>ae,trivial⟩,?_⟩
   simp only [p3,p4]
   refine te ?_
   have cD:=bn.kp.trans (bq.trans (b6.trans (aV.kp.trans cf.kp)))
   replace hrb:=hrb.kp cD
   refine ec 82 (add_r hrb (bT.kp hB.kp) (by omega)) ?_
   rintro ee ek ⟨⟨cc,b3,b9,b5,rfl,bB⟩,bZ⟩
   refine ⟨_,rfl,?_⟩
   replace hB:=hB.trans bZ
   replace ad:=ad.gr bZ
   replace ae:=ae.gr bZ
   refine ⟨ad,⟨fun _=>ae,trivial⟩,?_⟩
   simp only [p3,p4]
   refine tv 83 (.agg #[ck,b8,b4,cb,cc,b3,b9,b5]) ?_
   refine te ?_
   refine es 124 0 (.agg #[ck,b8,b4,cb,cc,b3,b9,b5]) [ck,b8,b4,cb,cc,b3,b9,b5] #[ck,b8,b4,cb,cc,b3,b9,b5] ae hB cz ⟨bw.one0,bw.one1,bw.one2,bw.one3,bB.one0,bB.one1,bB.one2,bB.one3,trivial⟩ fun eg bP b7 ae hB=>?_
   replace ad:=bP.lc ad (Ne.symm af)
   refine ⟨ad,⟨zh7 (by kernel_rfl),trivial⟩,?_⟩
   refine zi0 ?_
   refine cM _ _ ?_
   refine rg [0,1] ?_
   refine sw 84 (iT ((i:Int)+1)) rfl (rwI ((i:Int)+1)) ?_
   refine sv 36 (iT ((i:Int)+1)) ?_
   refine za0 ?_
   have cy:=bZ.kp.trans b7
   replace bw:=bw.kp cy
   replace bB:=bB.kp b7
   replace al:=bP.lc ((bS.lc (bi.lc (al.gr bn) ap) ap).gr (aV.trans (cf.trans bZ))) ar
   refine cH (D.n - (i+1)) ⟨List.toArray ?l64,[]⟩ _ (by omega) ?_
   exact ⟨i+1,ck,b8,b4,cb,cc,b3,b9,b5,(fun i=>List.getD ?l64 i undef),rfl,rfl,(by omega),(bw.mono (by omega)).castq (xl_in hil),(bB.mono (by omega)).castq (xu_in hil),al,ae,hB⟩
  have hil:¬ i<l.length:=by have:=of_decide_eq_false bH;omega
  refine wp_seq_k (fun dL cY=>rg [0,1,2] (sv 55 a1 ?_))
  refine sw 56 (iT ((D.ol i:Nat):Int)) rfl (zb0 (e:=124) aM (za9 rfl) _ _ rfl rfl (by kernel_rfl)) ?_
  refine sv 57 (iT 0) (za0 (cY _ _ ?_))
  refine wp_block ?_
  have bO:=bn.kp.trans bq
  replace hra:=hra.kp bO
  replace hrb:=hrb.kp bO
  replace al:=bi.lc (al.gr bn) ap
  replace ae:=bi.lc (ae.gr bn) af
  refine zb1 (a:=⟨List.toArray ?l66,[]⟩) (fun n a w'=>∃ (k:Nat) (d0:Value) (d1:Value) (d2:Value) (d3:Value) (d4:Value) (d5:Value) (d6:Value) (d7:Value) (ac:Nat→Value),(D.ol i) - k=n∧a=⟨[pT dk 0,v,iT (r:Int),undef,undef,undef,pT cl 0,pT bb 0,iT (i:Int),a1,pT a9 0,undef,ac 12,ac 13,ac 14,ac 15,ac 16,ac 17,ac 18,ac 19,ac 20,ac 21,ac 22,ac 23,ac 24,ac 25,ac 26,ac 27,ac 28,ac 29,ac 30,ac 31,ac 32,ac 33,bV,iT ((D.n:Nat):Int),iT (i:Int),.bool (decide ((i:Int)<((D.n:Nat):Int))),ac 38,ac 39,ac 40,ac 41,ac 42,ac 43,ac 44,ac 45,ac 46,.bool (decide ((i:Int)<((l.length:Nat):Int))),ac 48,ac 49,ac 50,ac 51,ac 52,ac 53,ac 54,a1,iT ((D.ol i:Nat):Int),iT (k:Int),ac 58,ac 59,ac 60,ac 61,ac 62,ac 63,ac 64,ac 65,ac 66,ac 67,ac 68,ac 69,ac 70,ac 71,ac 72,ac 73,ac 74,ac 75,ac 76,ac 77,ac 78,ac 79,ac 80,ac 81,ac 82,ac 83,ac 84,undef].toArray,[]⟩∧k≤(D.ol i)∧IsRat w' (64+i*65) c0 c1 c2 c3 (zw7 (D.cn r) (D.xl l r) i)∧IsRat w' (64+i*65) c4 c5 c6 c7 (zw7 (D.cn r) (D.xu l r) i)∧IsRat w' 64 d0 d1 d2 d3 (bmax (D.sl r i) k)∧IsRat w' 64 d4 d5 d6 d7 (bmin (D.su r i) k)∧Lc w' cl #[.bool false,sN,.bool false,sN,.bool false,sN,.bool false,sN] 124∧Lc w' bb #[c0,c1,c2,c3,c4,c5,c6,c7] 124∧Lc w' a9 #[d0,d1,d2,d3,d4,d5,d6,d7] 124∧Gr w w') ((D.ol i) - 0) ?_ ?_
  ·exact ⟨0,aX,aS,aY,aQ,aR,aT,aW,aU,(fun i=>List.getD ?l66 i undef),rfl,rfl,Nat.zero_le _,hra,hrb,cg.kp hB.kp,bM.kp hB.kp,al,ae,ad,hB⟩
  rintro dF er dt ⟨k,d0,d1,d2,d3,d4,d5,d6,d7,ac,rfl,rfl,hkk,hra,hrb,hda,hdb,al,ae,ad,hB⟩ dV c9
  refine wp_seq_k (fun dX cO=>rg [0] (sv 58 (.bool (decide ((k:Int)<((D.ol i:Nat):Int)))) ?_))
  refine za0 (cO _ _ ?_)
  refine wp_seq_k (fun dC cS=>?_)
  refine wp_cond_split rfl (fun bF=>?_) (fun bF=>?_)
  ·have hlk:k<(D.ol i):=by have:=of_decide_eq_true bF;omega
   refine wp_skip ?_
   refine cS _ _ ?_
   refine wp_seq_k (fun d9 dx=>?_)
   refine wp_block ?_
   refine wp_seq_k (fun dK dd=>rg [0,1,2,3] ?_)
   refine sw 59 (adr a1 (k*8)) rfl (zc0 (e:=124) aM za8 (by decide) k (by omega) _ _ _ rfl rfl rfl (by kernel_rfl) (by kernel_rfl)) ?_
   obtain ⟨_,_,⟨aI,aw,aA,aK,aF,aC,aG,ay,rfl,bY,b2⟩,cA⟩:=Sl.get aM (by decide) (zc3 (f:=(fun z2=>(D.sp r i z2))) (n:=(D.ol i)) (i:=k) (by omega))
   refine sw 60 (.agg #[aI,aw,aA,aK,aF,aC,aG,ay]) rfl (ze5 [aI,aw,aA,aK,aF,aC,aG,ay] (cA.gr hB) _ _ rfl rfl (by kernel_rfl)) ?_
   refine se ?_
   refine ea 124 #[.bool false,sN,.bool false,sN,.bool false,sN,.bool false,sN] 12 hB fun cF dT bJ aO ct cQ hB=>?_
   have bh:=al.ne ct
   have bg:=ae.ne ct
   have aP:=ad.ne ct
   simp only [p3,p4]
   refine se ?_
   refine es 124 0 (.agg #[aI,aw,aA,aK,aF,aC,aG,ay]) [aI,aw,aA,aK,aF,aC,aG,ay] #[aI,aw,aA,aK,aF,aC,aG,ay] aO hB cQ ⟨bY.one0,bY.one1,bY.one2,bY.one3,b2.one0,b2.one1,b2.one2,b2.one3,trivial⟩ fun cX bt bD aO hB=>?_
   refine za0 (dd _ _ ?_)
   have au:=Gr.drew cX
   replace hB:=hB.trans au
   replace aO:=aO.gr au
   replace ad:=(bt.lc (ad.gr bJ) aP).gr au
   refine zd7 (fun w'=>Lc w' cF #[aI,aw,aA,aK,aF,aC,aG,ay] 124) [([11],(fun w'=>Lc w' a9 #[d0,d1,d2,d3,d4,d5,d6,d7] 124))] [(true,0),(true,1),(true,2),(true,3),(true,5),(true,6),(true,7),(true,8),(false,4),(false,9),(true,10),(false,11)] (by kernel_rfl) (by kernel_rfl) (by kernel_rfl) (by decide) (fun _ _ _ _ _ h=>h) aO ⟨fun _=>ad,trivial⟩ ?_
   refine tv 61 (pT a9 0) ?_
   refine tw 62 (.agg #[d0,d1,d2,d3]) rfl (fun w' hS=>(rl 62 0 [d0,d1,d2,d3] (hS.2.1 (by kernel_rfl)))) ?_
   refine tv 63 (pT cF 0) ?_
   refine tw 64 (.agg #[aI,aw,aA,aK]) rfl (fun w' hS=>(rl 62 0 [aI,aw,aA,aK] hS.1)) ?_
   refine tv 66 (pT a9 4) ?_
   refine tw 67 (.agg #[d4,d5,d6,d7]) rfl (fun w' hS=>(rl 62 4 [d4,d5,d6,d7] (hS.2.1 (by kernel_rfl)))) ?_
   refine tv 68 (pT cF 4) ?_
   refine tw 69 (.agg #[aF,aC,aG,ay]) rfl (fun w' hS=>(rl 62 4 [aF,aC,aG,ay] hS.1)) ?_
   refine te ?_
   have cB:=bJ.kp.trans (bD.trans au.kp)
   replace hda:=hda.kp cB
   refine ec 65 (max_r hda (bY.kp hB.kp) (by omega)) ?_
   rintro dZ em ⟨⟨bR,bU,bX,bL,rfl,bI⟩,bE⟩
   refine ⟨_,rfl,?_⟩
   replace hB:=hB.trans bE
   replace aO:=aO.gr bE
   replace ad:=ad.gr bE
   refine ⟨aO,⟨fun _=>ad,trivial⟩,?_⟩
   simp only [p3,p4]
   refine te ?_
   have cC:=bJ.kp.trans (bD.trans (au.kp.trans bE.kp))
   replace hdb:=hdb.kp cC
   refine ec 70 (min_r hdb (b2.kp hB.kp) (by omega)) ?_
   rintro dE dJ ⟨⟨b1,bN,cd,bQ,rfl,br⟩,bs⟩
   refine ⟨_,rfl,?_⟩
   replace hB:=hB.trans bs
   replace aO:=aO.gr bs
   replace ad:=ad.gr bs
   refine ⟨aO,⟨fun _=>ad,trivial⟩,?_⟩
   simp only [p3,p4]
   refine tv 71 (.agg #[bR,bU,bX,bL,b1,bN,cd,bQ]) ?_
   refine te ?_
   refine es 124 0 (.agg #[bR,bU,bX,bL,b1,bN,cd,bQ]) [bR,bU,bX,bL,b1,bN,cd,bQ] #[bR,bU,bX,bL,b1,bN,cd,bQ] ad hB cw ⟨bI.one0,bI.one1,bI.one2,bI.one3,br.one0,br.one1,br.one2,br.one3,trivial⟩ fun dH bu bC ad hB=>?_
   replace aO:=bu.lc aO (Ne.symm aP)
   refine ⟨aO,⟨zh7 (by kernel_rfl),trivial⟩,?_⟩
   refine zi0 ?_
   refine dx _ _ ?_
   refine rg [0,1] ?_
   refine sw 72 (iT ((k:Int)+1)) rfl (rwI ((k:Int)+1)) ?_
   refine sv 57 (iT ((k:Int)+1)) ?_
   refine za0 ?_
   have cx:=bs.kp.trans bC
   replace bI:=bI.kp cx
   replace br:=br.kp bC
   have b0:=bJ.kp.trans (bD.trans (au.kp.trans (bE.kp.trans (bs.kp.trans bC))))
   replace hra:=hra.kp b0
   replace hrb:=hrb.kp b0
   replace al:=bu.lc ((bt.lc (al.gr bJ) bh).gr (au.trans (bE.trans bs))) ap
   replace ae:=bu.lc ((bt.lc (ae.gr bJ) bg).gr (au.trans (bE.trans bs))) af
   refine c9 ((D.ol i) - (k+1)) ⟨List.toArray ?l97,[]⟩ _ (by omega) ?_
   exact ⟨k+1,bR,bU,bX,bL,b1,bN,cd,bQ,(fun i=>List.getD ?l97 i undef),rfl,rfl,(by omega),hra,hrb,bI,br,al,ae,ad,hB⟩
  have hek:(D.ol i)=k:=by have:=of_decide_eq_false bF;omega
  subst hek
  refine wp_exit ?_
  simp only [Exit.then,Exit.inBlock,↓reduceIte]
  refine cL _ _ ?_
  have aq:=Gr.drew dt
  replace hB:=hB.trans aq
  replace ad:=ad.gr aq
  replace ae:=ae.gr aq
  refine zd7 (fun w'=>Lc w' a9 #[d0,d1,d2,d3,d4,d5,d6,d7] 124) [([11],(fun w'=>Lc w' bb #[c0,c1,c2,c3,c4,c5,c6,c7] 124))] [(true,0),(true,1),(true,2),(true,3),(true,5),(true,6),(true,7),(true,8),(false,4),(false,9),(true,10),(false,11)] (by kernel_rfl) (by kernel_rfl) (by kernel_rfl) (by decide) (fun _ _ _ _ _ h=>h) ad ⟨fun _=>ae,trivial⟩ ?_
  refine tv 73 (pT bb 0) ?_
  refine tw 74 (.agg #[c0,c1,c2,c3]) rfl (fun w' hS=>(rl 62 0 [c0,c1,c2,c3] (hS.2.1 (by kernel_rfl)))) ?_
  refine tv 75 (pT a9 0) ?_
  refine tw 76 (.agg #[d0,d1,d2,d3]) rfl (fun w' hS=>(rl 62 0 [d0,d1,d2,d3] hS.1)) ?_
  refine tv 78 (pT bb 4) ?_
  refine tw 79 (.agg #[c4,c5,c6,c7]) rfl (fun w' hS=>(rl 62 4 [c4,c5,c6,c7] (hS.2.1 (by kernel_rfl)))) ?_
  refine tv 80 (pT a9 4) ?_
  refine tw 81 (.agg #[d4,d5,d6,d7]) rfl (fun w' hS=>(rl 62 4 [d4,d5,d6,d7] hS.1)) ?_
  refine te ?_
  replace hra:=hra.kp aq.kp
  replace hda:=hda.kp aq.kp
  refine ec 77 (add_r hra hda (by omega)) ?_
  rintro cW cT ⟨⟨a0,a5,a7,aZ,rfl,aL⟩,a8⟩
  refine ⟨_,rfl,?_⟩
  replace hB:=hB.trans a8
  replace ad:=ad.gr a8
  replace ae:=ae.gr a8
  refine ⟨ad,⟨fun _=>ae,trivial⟩,?_⟩
  simp only [p3,p4]
  refine te ?_
  have bl:=aq.kp.trans a8.kp
  replace hrb:=hrb.kp bl
  replace hdb:=hdb.kp bl
  refine ec 82 (add_r hrb hdb (by omega)) ?_
  rintro cU df ⟨⟨a6,a3,ba,a4,rfl,aN⟩,a2⟩
  refine ⟨_,rfl,?_⟩
  replace hB:=hB.trans a2
  replace ad:=ad.gr a2
  replace ae:=ae.gr a2
  refine ⟨ad,⟨fun _=>ae,trivial⟩,?_⟩
  simp only [p3,p4]
  refine tv 83 (.agg #[a0,a5,a7,aZ,a6,a3,ba,a4]) ?_
  refine te ?_
  refine es 124 0 (.agg #[a0,a5,a7,aZ,a6,a3,ba,a4]) [a0,a5,a7,aZ,a6,a3,ba,a4] #[a0,a5,a7,aZ,a6,a3,ba,a4] ae hB cz ⟨aL.one0,aL.one1,aL.one2,aL.one3,aN.one0,aN.one1,aN.one2,aN.one3,trivial⟩ fun da bj bm ae hB=>?_
  replace ad:=bj.lc ad (Ne.symm af)
  refine ⟨ad,⟨zh7 (by kernel_rfl),trivial⟩,?_⟩
  refine zi0 ?_
  refine cM _ _ ?_
  refine rg [0,1] ?_
  refine sw 84 (iT ((i:Int)+1)) rfl (rwI ((i:Int)+1)) ?_
  refine sv 36 (iT ((i:Int)+1)) ?_
  refine za0 ?_
  have bW:=a2.kp.trans bm
  replace aL:=aL.kp bW
  replace aN:=aN.kp bm
  replace al:=bj.lc (al.gr (aq.trans (a8.trans a2))) ar
  refine cH (D.n - (i+1)) ⟨List.toArray ?l116,[]⟩ _ (by omega) ?_
  exact ⟨i+1,a0,a5,a7,aZ,a6,a3,ba,a4,(fun i=>List.getD ?l116 i undef),rfl,rfl,(by omega),(aL.mono (by omega)).castq (xl_out hil),(aN.mono (by omega)).castq (xu_out hil),al,ae,hB⟩
 have hei:D.n=i:=by have:=of_decide_eq_false bo;omega
 subst hei
 refine wp_exit ?_
 simp only [Exit.then,Exit.inBlock,↓reduceIte]
 refine di _ _ ?_
 refine wp_seq_k (fun cZ cG=>rg [0,1] ?_)
 refine sw 85 (.agg #[c0,c1,c2,c3,c4,c5,c6,c7]) rfl (rl 124 0 [c0,c1,c2,c3,c4,c5,c6,c7] ae) ?_
 refine se ?_
 refine es 124 0 (.agg #[c0,c1,c2,c3,c4,c5,c6,c7]) [c0,c1,c2,c3,c4,c5,c6,c7] #[c0,c1,c2,c3,c4,c5,c6,c7] al hB cP ⟨hra.one0,hra.one1,hra.one2,hra.one3,hrb.one0,hrb.one1,hrb.one2,hrb.one3,trivial⟩ fun de cK bk al hB=>?_
 refine za0 (cG _ _ ?_)
 refine wp_ret ?_
 refine bodyPost_ret (v:=(.agg #[c0,c1,c2,c3,c4,c5,c6,c7])) (zc8 _ _ _ rfl rfl al (by kernel_rfl)) rfl ⟨?_,hB⟩
 replace hra:=hra.kp bk
 replace hrb:=hrb.kp bk
 exact ⟨_,_,_,_,_,_,_,_,rfl,hra.mono (by omega),hrb.mono (by omega)⟩

end Go.Proofs.YtjhflekncldflaaGreatDoor
namespace Go.Proofs.YtjhflekncldflaaGreatDoor
open Go.RowKit

theorem zF9 {l cs:List UInt8}:Lib.trimS l cs=[]↔∀ c ∈ l,cs.contains c=true:=by
 constructor
 ·intro h c hc
  rcases Bool.eq_false_or_eq_true (cs.contains c) with e | e
  ·exact e
  exact absurd h (zz7 hc e)
 exact zF8
theorem ya2 {c:UInt8}:[48,49,50,51,52,53,54,55,56,57].contains c=true↔48≤c.toNat∧c.toNat≤57:=by
 constructor
 ·intro h
  simp only [List.contains_cons,List.contains_nil,Bool.or_eq_true,beq_iff_eq,Bool.or_false] at h
  rcases h with rfl | rfl | rfl | rfl | rfl | rfl | rfl | rfl | rfl | rfl<;>decide
 exact zP2
theorem zG0 (l:List UInt8):zf3 l=((l !=([]:List UInt8))&&(Lib.trimS l [48,49,50,51,52,53,54,55,56,57]==([]:List UInt8))):=by
 rw [Bool.eq_iff_iff]
 simp only [zf3,Bool.and_eq_true,decide_eq_true_eq,List.all_eq_true,bne_iff_ne,beq_iff_eq,zF9,ya2,zH2]
 rw [← List.length_pos_iff]
theorem zk0 (l:List UInt8):zl1 l=(Lib.trimS l [48]==([]:List UInt8)):=by
 rw [Bool.eq_iff_iff]
 simp [zl1,zF9]
theorem trim_any (l:List UInt8) (hl:l.length≤1000000) (w:World):
  Calls Tryz.prog 119 #[.string ⟨l.toArray⟩,.string ⟨#[48,49,50,51,52,53,54,55,56,57]⟩] w fun e w'=>e=.returned (.string ⟨(Lib.trimS l [48,49,50,51,52,53,54,55,56,57]).toArray⟩)∧Gr w w':=by
 refine (Any.strings_Trim_laid Tryz.lays160 (by kernel_rfl) ⟨l.toArray⟩ ⟨#[48,49,50,51,52,53,54,55,56,57]⟩ w (by show l.toArray.size≤_;simp;omega) (by decide) (ascii_of_all (by decide))).mono ?_
 rintro e w1 ⟨he,g⟩
 exact ⟨he,g⟩
theorem zm6 (l:List UInt8) (hl:l.length≤1000000) (w:World):
  Calls Tryz.prog 119 #[.string ⟨l.toArray⟩,.string ⟨#[48]⟩] w fun e w'=>e=.returned (.string ⟨(Lib.trimS l [48]).toArray⟩)∧Gr w w':=by
 refine (Any.strings_Trim_laid Tryz.lays160 (by kernel_rfl) ⟨l.toArray⟩ ⟨#[48]⟩ w (by show l.toArray.size≤_;simp;omega) (by decide) (ascii_of_all (by decide))).mono ?_
 rintro e w1 ⟨he,g⟩
 exact ⟨he,g⟩
theorem zd5 (l:List UInt8) (w:World):Calls Tryz.prog 118 #[.string ⟨l.toArray⟩,.string ⟨#[45]⟩] w fun e w'=>e=.returned (.string ⟨(zc4 l).toArray⟩)∧Gr w w':=by
 refine (Tryz.strings_TrimPrefix _ _ _).mono ?_
 rintro e w1 ⟨he,rfl⟩
 refine ⟨?_,Gr.refl _⟩
 rw [he]
 show Ending.returned (.string ⟨(Lib.trimPrefix l [45]).toArray⟩)=_
 have:Lib.trimPrefix l [45]=zc4 l:=by
  cases l with
  | nil=>rfl
  | cons c l=>
   rw [zi2]
   by_cases hc:c=45
   ·subst hc;simp [Lib.trimPrefix,Lib.hasPrefix]
   have:¬ (45:UInt8)=c:=fun e=>hc e.symm
   simp [Lib.trimPrefix,Lib.hasPrefix,List.isPrefixOf,hc,this]
 rw [this]
theorem zK0 (l:List UInt8) (hl:l.length≤1000000) {w:World} (hm:Mx w):
  Calls Tryz.prog 116 #[.string ⟨l.toArray⟩,.string ⟨#[47]⟩] w fun e w'=>e=.returned (.tuple #[.string ⟨(zt7 l).toArray⟩,.string ⟨((zh3 l).2.getD []).toArray⟩,.bool (zh3 l).2.isSome])∧Gr w w':=by
 obtain ⟨m,hm⟩:=hm
 refine (Tryz.strings_Cut ⟨l.toArray⟩ ⟨#[47]⟩ m w (by show l.toArray.size<_;simp;omega) hm).mono ?_
 rintro e w1 ⟨he,n,rfl⟩
 refine ⟨?_,(Below.refl _ _).drewN _⟩
 rw [he]
 have e1:(⟨l.toArray⟩:ByteArray).data.toList=l:=by simp
 rw [e1,show (⟨#[47]⟩:ByteArray).data.toList=[47] from rfl,zF7]
theorem cut_no (l:List UInt8) (hl:l.length≤1000000) (hc:zh3 l=(l,none)) {w:World} (hm:Mx w):
  Calls Tryz.prog 116 #[.string ⟨l.toArray⟩,.string ⟨#[47]⟩] w fun e w'=>e=.returned (.tuple #[.string ⟨l.toArray⟩,.string ⟨([]:List UInt8).toArray⟩,.bool false])∧Gr w w':=by
 refine (zK0 l hl hm).mono ?_
 rintro e w1 ⟨he,g⟩
 exact ⟨by rw [he,zt7,hc];rfl,g⟩
theorem zp3 (X A D:List UInt8) (hl:X.length≤1000000) (hc:zh3 X=(A,some D)) {w:World} (hm:Mx w):
  Calls Tryz.prog 116 #[.string ⟨X.toArray⟩,.string ⟨#[47]⟩] w fun e w'=>e=.returned (.tuple #[.string ⟨A.toArray⟩,.string ⟨D.toArray⟩,.bool true])∧Gr w w':=by
 refine (zK0 X hl hm).mono ?_
 rintro e w1 ⟨he,g⟩
 exact ⟨by rw [he,zt7,hc];rfl,g⟩
theorem zf5 (l:List UInt8):(zc4 l).length≤l.length:=by
 rcases zv4 l with e | ⟨e,_⟩
 ·have:=congrArg List.length e;simp at this;omega
 have:=congrArg List.length e;omega
theorem ya3 {l:List UInt8} (h:zf3 l=true):zf3 (zc4 l)=true:=by
 cases l with
 | nil=>exact h
 | cons c l=>
  rw [zi2]
  by_cases hc:c=45
  ·have:=(zt8 h).2 c (by simp)
   subst hc
   simp at this
  rw [if_neg hc];exact h
theorem ya4 {l:List UInt8} (h:zf3 l=true) (h2:zl1 l=false) (h3:(l[0]?==some 48)=true):zD2 l=true:=by
 cases l with
 | nil=>cases h3
 | cons c l=>
  have hc:c=48:=by simpa using h3
  subst hc
  cases l with
  | nil=>simp [zl1] at h2
  | cons d l=>simp [zD2,zi2]
set_option maxHeartbeats 1000000 in
theorem zx8 (l:List UInt8) (hl:l.length≤60000) (h1:zf3 (zc4 l)=true) (h2:zD2 l=true) (w:World):
  Calls Tryz.prog 120 #[.string ⟨l.toArray⟩] w fun e w'=>e=.returned (.tuple #[.agg #[.bool false,.slice none 0 0],.int .i64 3])∧Gr w w':=by
 have aa:=zt8 h1
 obtain ⟨s,hs⟩:∃ s:ByteArray,s=⟨l.toArray⟩:=⟨_,rfl⟩
 have hss:s.size=l.length:=by rw [hs];show l.toArray.size=_;simp
 obtain ⟨D,hD⟩:∃ D:ByteArray,D=⟨(zc4 l).toArray⟩:=⟨_,rfl⟩
 have hDl:D.data.toList=zc4 l:=by rw [hD]
 have hDs:D.size=(zc4 l).length:=by rw [hD];show (zc4 l).toArray.size=_;simp
 have ad:0<D.size:=by rw [hDs];exact List.length_pos_iff.2 aa.1
 have hslen:=zf5 l
 have hc:∀ w,Calls Tryz.prog 147 #[.string s,.string ⟨#[45]⟩] w fun e w'=>e=.returned (.tuple #[.string D,.bool (decide ((zc4 l).length<l.length))])∧w=w':=by
  intro w
  rw [hs,hD]
  refine (Tryz.strings_CutPrefix _ _ _).mono ?_
  rintro e w1 ⟨he,rfl⟩
  refine ⟨?_,rfl⟩
  rw [he]
  show Ending.returned (.tuple #[.string ⟨(Lib.trimPrefix l [45]).toArray⟩,.bool (Lib.hasPrefix l [45])])=_
  cases l with
  | nil=>rfl
  | cons c l=>
   rw [zi2]
   by_cases hc:c=45
   ·subst hc;simp [Lib.trimPrefix,Lib.hasPrefix]
   have:¬ (45:UInt8)=c:=fun e=>hc e.symm
   simp [Lib.trimPrefix,Lib.hasPrefix,List.isPrefixOf,hc,this]
 have hcn:=zx4 D (by rw [hDl];exact aa.2)
 have hne:(D.toList==[])=false:=by
  rw [beq_eq_false_iff_ne,ByteArray.toList_eq,hDl];exact aa.1
 have ac:(D[0].toNat:Int)=48∧(1<D.size∨(zc4 l).length<l.length):=by
  unfold zD2 at h2
  simp only [Bool.and_eq_true,Bool.or_eq_true,decide_eq_true_eq] at h2
  have hh:=head48 ad
  rw [hDl,h2.1] at hh
  have hh:=(beq_iff_eq.1 hh.symm)
  refine ⟨hh,?_⟩
  rw [hDs]
  omega
 have ae:((D[0].toNat:Int)==48)=true:=by rw [ac.1];rfl
 have hor:=ac.2
 have ah:D.size≤60000:=by omega
 have af:s.size≤60000:=by omega
 rw [← hs]
 have HD:=Lib.hid hDl
 clear ac hDl hDs hD hs hss h2 aa h1 hslen
 go_enter Tryz.func120,Tryz.ntmps120
 go_wp2_with fail
 (with_reducible refine (hc _).mono ?_)
 rintro e w1 ⟨rfl,rfl⟩
 clear hc
 go_wp2_with fail
 (with_reducible refine (hcn _).mono ?_)
 rintro e w2 ⟨rfl,g2⟩
 clear hcn
 have p3:=Gr.heap g2 (heap_alloc_new w (.cells #[.bool false,.slice none 0 0] 60))
 have d0:=zc1 p3 0
 have d1:=zc1 p3 1
 have d2:=zj0 p3
 have gw:Gr w w2:=(Gr.alloc w _).trans g2
 by_cases hD2:(1:Int)<(D.size:Int)
 ·go_wp2
  have p4:=zb2 (i:=1) (.slice none 0 0) (zb2 (i:=0) (.bool false) p3)
  have hst:=(St.setCell w2 w.heap.size 0 (.bool false)).trans (St.setCell _ w.heap.size 1 (.slice none 0 0))
  exact bodyPost_ret (v:=.tuple #[.agg #[.bool false,.slice none 0 0],.int .i64 3]) (zb5 _ _ _ rfl rfl p4 (by kernel_rfl) rfl) rfl ⟨rfl,hst.gr gw (Nat.le_refl _)⟩
 have hlt:(zc4 l).length<l.length:=by
  rcases hor with h | h
  ·omega
  exact h
 go_wp2
 have p4:=zb2 (i:=1) (.slice none 0 0) (zb2 (i:=0) (.bool false) p3)
 have hst:=(St.setCell w2 w.heap.size 0 (.bool false)).trans (St.setCell _ w.heap.size 1 (.slice none 0 0))
 exact bodyPost_ret (v:=.tuple #[.agg #[.bool false,.slice none 0 0],.int .i64 3]) (zb5 _ _ _ rfl rfl p4 (by kernel_rfl) rfl) rfl ⟨rfl,hst.gr gw (Nat.le_refl _)⟩
end Go.Proofs.YtjhflekncldflaaGreatDoor
namespace Go.Proofs.YtjhflekncldflaaGreatDoor
set_option maxRecDepth 100000
set_option maxHeartbeats 1000000
open Go.RowKit

theorem read_w {k:Nat} (q:Rat) (hq:Sz k q.num∧Sz k (q.den:Int)) (_hk:k≤20000) (aw:64≤k) (most:Int) (_hlong:((zd4 q).length:Int)≤most) (w:World) (hm:Mx w) (hw:q.den=1):
    Calls Tryz.prog 92 #[sV (zd4 (q)),iT (most)] w fun e w'=>(∃ c0 c1 c2 c3,e=.returned (.tuple #[.agg #[c0,c1,c2,c3],iT 0])∧IsRat w' k c0 c1 c2 c3 q)∧Gr w w':=by
 have hl:decide (most<((zd4 q).length:Int))=false:=by simp;omega
 go_enter Tryz.func92,Tryz.ntmps92
 have hB:=Gr.refl w
 refine wp_seq_k (fun K1 k1=>rg [0,1] ?_)
 refine se ?_
 refine ea 62 #[.bool false,sN,.bool false,sN] 4 hB fun b2 w2 g2 L2 o2 q2 hB=>?_
 simp only [p3,p4]
 refine sv 5 (iT 0) (za0 (k1 _ _ ?_))
 refine wp_seq_k (fun K3 k3=>rg [0,1] (sv 13 (sV (zd4 (q))) ?_))
 refine sv 6 (sV (zd4 (q))) (za0 (k3 _ _ ?_))
 refine wp_seq_k (fun K4 k4=>rg [0,1,2,3,4,5,6,7,8] (sv 15 (sV (zd4 (q))) ?_))
 refine se ?_
 refine ec 16 (cut_w q hq.1 hq.2 (by omega) hw (hm.gr hB)) ?_
 rintro e5 w5 ⟨rfl,g5⟩
 refine ⟨_,rfl,?_⟩
 replace hB:=hB.trans g5
 simp only [p3,p4]
 refine sv 14 (.tuple #[sV (Lib.itoa (q.num)),sV [],.bool false]) ?_
 refine sv 17 (sV (Lib.itoa (q.num))) ?_
 refine sv 18 (sV []) ?_
 refine sv 19 (.bool false) ?_
 refine sv 7 (sV (Lib.itoa (q.num))) ?_
 refine sv 8 (sV []) ?_
 refine sv 9 (.bool false) (za0 (k4 _ _ ?_))
 refine wp_seq_k (fun K6 k6=>?_)
 refine wp_block ?_
 refine wp_seq_k (fun K7 k7=>rg [0,1,2,3,4] (sv 21 (sV (zd4 (q))) ?_))
 refine sv 22 (iT ((zd4 (q)).length:Int)) ?_
 refine sv 23 (iT (most)) ?_
 refine sw 24 (.bool false) rfl (RunV.bool (x:=decide (most<((zd4 (q)).length:Int))) (rvk (by kernel_rfl)) hl) ?_
 refine sv 20 (.bool false) (za0 (k7 _ _ ?_))
 refine wp_cond_false rfl ?_
 refine wp_seq_k (fun K8 k8=>rg [0,1,2,3,4,5,6,7,8,9,10,11,12] (sv 27 (sV (Lib.itoa (q.num))) ?_))
 refine se ?_
 refine ec 28 (zl3 (q.num) _) ?_
 rintro e9 w9 ⟨rfl,g9⟩
 refine ⟨_,rfl,?_⟩
 replace hB:=hB.trans g9
 simp only [p3,p4]
 refine se ?_
 refine ec 29 (zx7 q.num hq.1 (by omega) _) ?_
 rintro aP aQ ⟨rfl,ap⟩
 refine ⟨_,rfl,?_⟩
 replace hB:=hB.trans ap
 simp only [p3,p4]
 refine sv 30 (.bool false) ?_
 refine sv 31 (.bool false) ?_
 refine sv 32 (.bool false) ?_
 refine sv 33 (.bool false) ?_
 refine ss 34 ?_
 refine ss 35 ?_
 refine ss 36 ?_
 refine sv 37 (.bool false) ?_
 refine sv 38 (.bool false) ?_
 refine sv 26 (.bool false) (za0 (k8 _ _ ?_))
 refine wp_cond_false rfl ?_
 refine wp_seq_k (fun aD aB=>rg [0,1,2,3,4,5,6] (sv 41 (.bool false) ?_))
 refine sv 42 (.bool false) ?_
 refine ss 43 ?_
 refine ss 44 ?_
 refine ss 45 ?_
 refine sv 46 (.bool false) ?_
 refine sv 40 (.bool false) (za0 (aB _ _ ?_))
 refine wp_cond_false rfl ?_
 refine wp_skip ?_
 refine k6 _ _ ?_
 refine wp_seq_k (fun aE ay=>rg [0,1,2,3,4,5,6,7] (sv 49 (sV (Lib.itoa (q.num))) ?_))
 refine se ?_
 refine ec 50 (zm5 (q.num) hq.1 (by omega) _) ?_
 rintro aJ aM ⟨⟨ac,aa,rfl,ad⟩,al⟩
 refine ⟨_,rfl,?_⟩
 replace hB:=hB.trans al
 simp only [p3,p4]
 refine sv 48 (.tuple #[.agg #[ac,aa],iT 0]) ?_
 refine sv 51 (.agg #[ac,aa]) ?_
 refine sv 52 (iT 0) ?_
 refine se ?_
 refine ea 60 #[.bool false,sN] 10 hB fun aR aF aq ai ax az hB=>?_
 replace L2:=L2.gr (g5.trans (g9.trans (ap.trans al)))
 have ae:=L2.ne ax
 simp only [p3,p4]
 refine se ?_
 refine es 60 0 (.agg #[ac,aa]) [ac,aa] #[ac,aa] ai hB az ⟨ad.one0,ad.one1,trivial⟩ fun aL ah ak ai hB=>?_
 refine sv 11 (iT 0) (za0 (ay _ _ ?_))
 refine wp_seq_k (fun aI ar=>wp_seq_k (fun aS au=>rg [0,1] (sv 53 (iT 0) ?_)))
 refine sv 54 (.bool false) (za0 (au _ _ ?_))
 refine wp_cond_false rfl ?_
 refine wp_skip ?_
 refine ar _ _ ?_
 refine wp_seq_k (fun aK aH=>wp_seq_k (fun aG aA=>rg [0,1] (sv 56 (.bool false) ?_)))
 refine sv 57 (.bool true) (za0 (aA _ _ ?_))
 refine wp_cond_true rfl ?_
 refine wp_seq_k (fun aO av=>rg [0,1,2,3] ?_)
 refine sw 58 (.agg #[ac,aa]) rfl (rl 60 0 [ac,aa] ai) ?_
 refine sv 59 (.agg #[ac,aa,.bool false,sN]) ?_
 refine se ?_
 replace L2:=ah.lc (L2.gr aq) ae
 refine es 62 0 (.agg #[ac,aa,.bool false,sN]) [ac,aa,.bool false,sN] #[ac,aa,.bool false,sN] L2 hB q2 ⟨ad.one0,ad.one1,rfl,rfl,trivial⟩ fun aN aC aj L2 hB=>?_
 refine sv 5 (iT 0) (za0 (av _ _ ?_))
 refine wp_ret ?_
 simp only [Exit.then]
 refine bodyPost_ret (v:=(.tuple #[.agg #[ac,aa,.bool false,sN],iT 0])) (zb5 _ _ _ rfl rfl L2 (by kernel_rfl) rfl) rfl ⟨?_,hB⟩
 have af:=aq.kp.trans (ak.trans aj)
 replace ad:=ad.kp af
 exact ⟨_,_,_,_,rfl,by have:=IsRat.int ad aw;rw [zx6 hw] at this;exact this⟩

theorem read_f {k:Nat} (q:Rat) (hq:Sz k q.num∧Sz k (q.den:Int)) (_hk:k≤20000) (a0:64≤k) (most:Int) (_hlong:((zd4 q).length:Int)≤most) (w:World) (hm:Mx w) (hw:¬ q.den=1):
    Calls Tryz.prog 92 #[sV (zd4 (q)),iT (most)] w fun e w'=>(∃ c0 c1 c2 c3,e=.returned (.tuple #[.agg #[c0,c1,c2,c3],iT 0])∧IsRat w' k c0 c1 c2 c3 q)∧Gr w w':=by
 have hl:decide (most<((zd4 q).length:Int))=false:=by simp;omega
 have h1:(sgn ((q.den:Int) - 1)==(0:Int))=false:=by rw [beq_eq_false_iff_ne];exact fun e=>hw (by have:=zf2.1 e;omega)
 have h2:(sgn ((Int.gcd (q.num) (q.den:Int):Int) - 1) !=(0:Int))=false:=by rw [zJ9];rfl
 go_enter Tryz.func92,Tryz.ntmps92
 have hB:=Gr.refl w
 refine wp_seq_k (fun K1 k1=>rg [0,1] ?_)
 refine se ?_
 refine ea 62 #[.bool false,sN,.bool false,sN] 4 hB fun b2 w2 g2 L2 o2 q2 hB=>?_
 simp only [p3,p4]
 refine sv 5 (iT 0) (za0 (k1 _ _ ?_))
 refine wp_seq_k (fun K3 k3=>rg [0,1] (sv 13 (sV (zd4 (q))) ?_))
 refine sv 6 (sV (zd4 (q))) (za0 (k3 _ _ ?_))
 refine wp_seq_k (fun K4 k4=>rg [0,1,2,3,4,5,6,7,8] (sv 15 (sV (zd4 (q))) ?_))
 refine se ?_
 refine ec 16 (cut_f q hq.1 hq.2 (by omega) hw (hm.gr hB)) ?_
 rintro e5 w5 ⟨rfl,g5⟩
 refine ⟨_,rfl,?_⟩
 replace hB:=hB.trans g5
 simp only [p3,p4]
 refine sv 14 (.tuple #[sV (Lib.itoa (q.num)),sV (Lib.itoa (q.den:Int)),.bool true]) ?_
 refine sv 17 (sV (Lib.itoa (q.num))) ?_
 refine sv 18 (sV (Lib.itoa (q.den:Int))) ?_
 refine sv 19 (.bool true) ?_
 refine sv 7 (sV (Lib.itoa (q.num))) ?_
 refine sv 8 (sV (Lib.itoa (q.den:Int))) ?_
 refine sv 9 (.bool true) (za0 (k4 _ _ ?_))
 refine wp_seq_k (fun K6 k6=>?_)
 refine wp_block ?_
 refine wp_seq_k (fun K7 k7=>rg [0,1,2,3,4] (sv 21 (sV (zd4 (q))) ?_))
 refine sv 22 (iT ((zd4 (q)).length:Int)) ?_
 refine sv 23 (iT (most)) ?_
 refine sw 24 (.bool false) rfl (RunV.bool (x:=decide (most<((zd4 (q)).length:Int))) (rvk (by kernel_rfl)) hl) ?_
 refine sv 20 (.bool false) (za0 (k7 _ _ ?_))
 refine wp_cond_false rfl ?_
 refine wp_seq_k (fun K8 k8=>rg [0,1,2,3,4,5,6,7,8,9,10,11,12] (sv 27 (sV (Lib.itoa (q.num))) ?_))
 refine se ?_
 refine ec 28 (zl3 (q.num) _) ?_
 rintro e9 w9 ⟨rfl,g9⟩
 refine ⟨_,rfl,?_⟩
 replace hB:=hB.trans g9
 simp only [p3,p4]
 refine se ?_
 refine ec 29 (zx7 q.num hq.1 (by omega) _) ?_
 rintro bO bP ⟨rfl,aM⟩
 refine ⟨_,rfl,?_⟩
 replace hB:=hB.trans aM
 simp only [p3,p4]
 refine sv 30 (.bool false) ?_
 refine sv 31 (.bool false) ?_
 refine sv 32 (.bool true) ?_
 refine sv 33 (.bool true) ?_
 refine sv 34 (sV (Lib.itoa (q.den:Int))) ?_
 refine se ?_
 refine ec 35 (ya1 q.den hq.2 (by omega) _) ?_
 rintro bf bt ⟨rfl,aP⟩
 refine ⟨_,rfl,?_⟩
 replace hB:=hB.trans aP
 simp only [p3,p4]
 refine sv 36 (.bool false) ?_
 refine sv 37 (.bool false) ?_
 refine sv 38 (.bool false) ?_
 refine sv 26 (.bool false) (za0 (k8 _ _ ?_))
 refine wp_cond_false rfl ?_
 refine wp_seq_k (fun bh a5=>rg [0,1,2,3,4,5,6] (sv 41 (.bool true) ?_))
 refine sv 42 (.bool true) ?_
 refine sv 43 (sV (Lib.itoa (q.den:Int))) ?_
 refine se ?_
 refine ec 44 (zJ7 q.den hq.2 q.den_pos (by omega) _) ?_
 rintro bw bK ⟨⟨aK,rfl,aI⟩,aL⟩
 refine ⟨_,rfl,?_⟩
 replace hB:=hB.trans aL
 simp only [p3,p4]
 refine sw 45 (.bool false) rfl (RunV.bool (x:=((aK)==([]:List UInt8))) (zi9 9 9 _ _ (aK) ([]) rfl rfl rfl) aI) ?_
 refine sv 46 (.bool false) ?_
 refine sv 40 (.bool false) (za0 (a5 _ _ ?_))
 refine wp_cond_false rfl ?_
 refine wp_skip ?_
 refine k6 _ _ ?_
 refine wp_seq_k (fun bq a6=>rg [0,1,2,3,4,5,6,7] (sv 49 (sV (Lib.itoa (q.num))) ?_))
 refine se ?_
 refine ec 50 (zm5 (q.num) hq.1 (by omega) _) ?_
 rintro bg bI ⟨⟨ah,af,rfl,ak⟩,aO⟩
 refine ⟨_,rfl,?_⟩
 replace hB:=hB.trans aO
 simp only [p3,p4]
 refine sv 48 (.tuple #[.agg #[ah,af],iT 0]) ?_
 refine sv 51 (.agg #[ah,af]) ?_
 refine sv 52 (iT 0) ?_
 refine se ?_
 refine ea 60 #[.bool false,sN] 10 hB fun aZ bR aQ aa aX aY hB=>?_
 replace L2:=L2.gr (g5.trans (g9.trans (aM.trans (aP.trans (aL.trans aO)))))
 have ap:=L2.ne aX
 simp only [p3,p4]
 refine se ?_
 refine es 60 0 (.agg #[ah,af]) [ah,af] #[ah,af] aa hB aY ⟨ak.one0,ak.one1,trivial⟩ fun bA aE aG aa hB=>?_
 refine sv 11 (iT 0) (za0 (a6 _ _ ?_))
 refine wp_seq_k (fun bD a1=>wp_seq_k (fun bn a9=>rg [0,1] (sv 53 (iT 0) ?_)))
 refine sv 54 (.bool false) (za0 (a9 _ _ ?_))
 refine wp_cond_false rfl ?_
 refine wp_skip ?_
 refine a1 _ _ ?_
 refine wp_seq_k (fun bN aV=>wp_seq_k (fun bp a4=>rg [0,1] (sv 56 (.bool true) ?_)))
 refine sv 57 (.bool false) (za0 (a4 _ _ ?_))
 refine wp_cond_false rfl ?_
 refine wp_skip ?_
 refine aV _ _ ?_
 refine wp_seq_k (fun bj ba=>rg [0,1,2,3,4,5,6,7] (sv 61 (sV (Lib.itoa (q.den:Int))) ?_))
 refine se ?_
 refine ec 62 (zm5 (q.den:Int) hq.2 (by omega) _) ?_
 rintro bb bM ⟨⟨ae,ad,rfl,aj⟩,aB⟩
 refine ⟨_,rfl,?_⟩
 replace hB:=hB.trans aB
 simp only [p3,p4]
 refine sv 60 (.tuple #[.agg #[ae,ad],iT 0]) ?_
 refine sv 63 (.agg #[ae,ad]) ?_
 refine sv 64 (iT 0) ?_
 refine se ?_
 refine ea 60 #[.bool false,sN] 12 hB fun aT bm aC ac aN a7 hB=>?_
 replace L2:=(aE.lc (L2.gr aQ) ap).gr aB
 have aq:=L2.ne aN
 replace aa:=aa.gr aB
 have al:=aa.ne aN
 simp only [p3,p4]
 refine se ?_
 refine es 60 0 (.agg #[ae,ad]) [ae,ad] #[ae,ad] ac hB a7 ⟨aj.one0,aj.one1,trivial⟩ fun aR ax aA ac hB=>?_
 refine sv 11 (iT 0) (za0 (ba _ _ ?_))
 refine wp_seq_k (fun bo aU=>wp_seq_k (fun bC a3=>?_))
 have ai:=Gr.drew aR
 replace hB:=hB.trans ai
 replace aa:=(ax.lc (aa.gr aC) al).gr ai
 replace ac:=ac.gr ai
 refine za4 (fun w'=>Lc w' aZ #[ah,af] 60∧Lc w' aT #[ae,ad] 60) [(true,0),(true,1),(true,2),(true,3),(false,4),(false,5),(true,6),(true,7),(true,8),(true,9),(true,10),(false,11),(false,12),(false,13),(true,14),(true,15)] (by kernel_rfl) (by kernel_rfl) (by kernel_rfl) (by decide) (fun _ _ _ _ _ h=>h) ⟨aa,ac⟩ ?_
 refine ov 65 (iT 0) ?_
 refine ov 66 (.bool false) ?_
 refine ov 67 (.bool false) ?_
 refine ow 68 (.agg #[ae,ad]) rfl (fun w' hS=>(rl 60 0 [ae,ad] hS.2)) ?_
 refine oe ?_
 refine ec 69 (zA8 _) ?_
 rintro bL bF ⟨⟨bS,bU,rfl,aW⟩,av⟩
 refine ⟨_,rfl,?_⟩
 replace hB:=hB.trans av
 replace aa:=aa.gr av
 replace ac:=ac.gr av
 refine ⟨⟨aa,ac⟩,?_⟩
 simp only [p3,p4]
 refine oe ?_
 have aH:=aC.kp.trans (aA.trans (ai.kp.trans av.kp))
 replace aj:=aj.kp aH
 refine ec 70 (zf1 aj aW (by omega) (by omega)) ?_
 rintro bv bE ⟨rfl,au⟩
 refine ⟨_,rfl,?_⟩
 replace hB:=hB.trans au
 replace aa:=aa.gr au
 replace ac:=ac.gr au
 refine ⟨⟨aa,ac⟩,?_⟩
 simp only [p3,p4]
 refine ow 71 (.bool false) rfl (fun w' hS=>(RunV.bool (x:=(sgn ((q.den:Int) - 1)==(0:Int))) (rvk (by kernel_rfl)) h1)) ?_
 refine ov 72 (.bool false) ?_
 refine ov 73 (.bool false) ?_
 refine ow 74 (.agg #[ah,af]) rfl (fun w' hS=>(rl 60 0 [ah,af] hS.1)) ?_
 refine ow 75 (.agg #[ae,ad]) rfl (fun w' hS=>(rl 60 0 [ae,ad] hS.2)) ?_
 refine oe ?_
 have aF:=aQ.kp.trans (aG.trans (aB.kp.trans (aC.kp.trans (aA.trans (ai.kp.trans (av.kp.trans au.kp))))))
 replace ak:=ak.kp aF
 replace aj:=aj.kp au.kp
 refine ec 76 (gcd_i ak aj (by omega)) ?_
 rintro bs bQ ⟨⟨bu,bl,rfl,aD⟩,az⟩
 refine ⟨_,rfl,?_⟩
 replace hB:=hB.trans az
 replace aa:=aa.gr az
 replace ac:=ac.gr az
 refine ⟨⟨aa,ac⟩,?_⟩
 simp only [p3,p4]
 refine oe ?_
 refine ec 77 (zA8 _) ?_
 rintro bJ br ⟨⟨bG,bk,rfl,a2⟩,ar⟩
 refine ⟨_,rfl,?_⟩
 replace hB:=hB.trans ar
 replace aa:=aa.gr ar
 replace ac:=ac.gr ar
 refine ⟨⟨aa,ac⟩,?_⟩
 simp only [p3,p4]
 refine oe ?_
 replace aD:=aD.kp ar.kp
 refine ec 78 (zf1 aD a2 (by omega) (by omega)) ?_
 rintro bH bi ⟨rfl,aw⟩
 refine ⟨_,rfl,?_⟩
 replace hB:=hB.trans aw
 replace aa:=aa.gr aw
 replace ac:=ac.gr aw
 refine ⟨⟨aa,ac⟩,?_⟩
 simp only [p3,p4]
 refine ow 79 (.bool false) rfl (fun w' hS=>(RunV.bool (x:=(sgn ((Int.gcd (q.num) (q.den:Int):Int) - 1) !=(0:Int))) (rvk (by kernel_rfl)) h2)) ?_
 refine ov 80 (.bool false) ?_
 refine zb4 ?_
 refine a3 _ _ ?_
 refine wp_cond_false rfl ?_
 refine wp_skip ?_
 refine aU _ _ ?_
 refine wp_seq_k (fun bB a8=>rg [0,1,2,3,4] ?_)
 refine sw 82 (.agg #[ah,af]) rfl (rl 60 0 [ah,af] aa) ?_
 refine sw 83 (.agg #[ae,ad]) rfl (rl 60 0 [ae,ad] ac) ?_
 refine sv 84 (.agg #[ah,af,ae,ad]) ?_
 refine se ?_
 replace L2:=(ax.lc (L2.gr aC) aq).gr (ai.trans (av.trans (au.trans (az.trans (ar.trans aw)))))
 refine es 62 0 (.agg #[ah,af,ae,ad]) [ah,af,ae,ad] #[ah,af,ae,ad] L2 hB q2 ⟨ak.one0,ak.one1,aj.one0,aj.one1,trivial⟩ fun bT aS aJ L2 hB=>?_
 refine sv 5 (iT 0) (za0 (a8 _ _ ?_))
 refine wp_ret ?_
 refine bodyPost_ret (v:=(.tuple #[.agg #[ah,af,ae,ad],iT 0])) (zb5 _ _ _ rfl rfl L2 (by kernel_rfl) rfl) rfl ⟨?_,hB⟩
 have ay:=az.kp.trans (ar.kp.trans (aw.kp.trans aJ))
 replace ak:=ak.kp ay
 replace aj:=aj.kp ay
 exact ⟨_,_,_,_,rfl,zJ8 ak aj a0⟩

theorem read_q {k:Nat} (q:Rat) (hq:Sz k q.num∧Sz k (q.den:Int)) (hk:k≤20000) (h64:64≤k) (most:Int) (hlong:((zd4 q).length:Int)≤most) (w:World) (hm:Mx w):
  Calls Tryz.prog 92 #[sV (zd4 (q)),iT (most)] w fun e w'=>(∃ c0 c1 c2 c3,e=.returned (.tuple #[.agg #[c0,c1,c2,c3],iT 0])∧IsRat w' k c0 c1 c2 c3 q)∧Gr w w':=by
 by_cases hw:q.den=1
 ·exact read_w q hq hk h64 most hlong w hm hw
 exact read_f q hq hk h64 most hlong w hm hw

theorem zB1 {k:Nat} (q:Rat) (hq:Sz k q.num∧Sz k (q.den:Int)) (hk:k≤20000) (ah:64≤k) (_hlong:((zd4 q).length:Int)≤400) (w:World) (hm:Mx w):
    Calls Tryz.prog 64 #[sV (zd4 (q))] w fun e w'=>(∃ c0 c1 c2 c3,e=.returned (.tuple #[.agg #[c0,c1,c2,c3],iT 0])∧IsRat w' k c0 c1 c2 c3 q)∧Gr w w':=by
 go_enter Tryz.func64,Tryz.ntmps64
 have hB:=Gr.refl w
 refine wp_seq_k (fun K1 k1=>rg [0,1] ?_)
 refine se ?_
 refine ea 62 #[.bool false,sN,.bool false,sN] 2 hB fun b2 w2 g2 L2 o2 q2 hB=>?_
 simp only [p3,p4]
 refine sv 3 (iT 0) (za0 (k1 _ _ ?_))
 refine wp_seq_k (fun K3 k3=>rg [0,1,2,3,4,5] (sv 4 (sV (zd4 (q))) ?_))
 refine se ?_
 refine ec 5 (read_q q hq hk ah 400 (by omega) _ (hm.gr hB)) ?_
 rintro e4 w4 ⟨⟨aa,ad,ac,ae,rfl,h4⟩,g4⟩
 refine ⟨_,rfl,?_⟩
 replace hB:=hB.trans g4
 simp only [p3,p4]
 refine sv 6 (.agg #[aa,ad,ac,ae]) ?_
 refine sv 7 (iT 0) ?_
 refine se ?_
 replace L2:=L2.gr g4
 refine es 62 0 (.agg #[aa,ad,ac,ae]) [aa,ad,ac,ae] #[aa,ad,ac,ae] L2 hB q2 ⟨h4.one0,h4.one1,h4.one2,h4.one3,trivial⟩ fun w5 ai af L2 hB=>?_
 refine sv 3 (iT 0) (za0 (k3 _ _ ?_))
 refine wp_ret ?_
 refine bodyPost_ret (v:=(.tuple #[.agg #[aa,ad,ac,ae],iT 0])) (zb5 _ _ _ rfl rfl L2 (by kernel_rfl) rfl) rfl ⟨?_,hB⟩
 replace h4:=h4.kp af
 exact ⟨_,_,_,_,rfl,h4⟩

end Go.Proofs.YtjhflekncldflaaGreatDoor
