/- Joined of: Lu, Gen190, RowMatrixDeterminants. -/
import Derived.Test.YtepgkcimmdmgcaaGreatDoorPartG
import Derived.Test.YtepgkcimmdmgcaaGreatDoorCards
import Derived.Test.YtepgkcimmdmgcaaGreatDoorTie
import Derived.Test.YtepgkcimmdmgcaaGreatDoorPartA
import Derived.Test.YtepgkcimmdmgcaaGreatDoorPartB
namespace Go.Proofs.YtepgkcimmdmgcaaGreatDoor
open Go.RowKit
section
variable {α β:Type} {P:Program} {a:Act} {o:Oper} {w w':World} {Q:Exit→Act→World→Prop} {K:Act→World→Prop}
/-- where the result of an append lies -/
theorem run_apo (base:Nat) (t ty e:TypeId) (i:TypeInfo) (z:Value) (size bytes:Nat) (ht:P.underlying t=some (.slice e)) (hi:P.info? e=some i) (hz:i.zero=some z)
    (hsize:i.size=size) (hby:i.bytes=bytes) (hzs:z.cells.size=size) (hsz:0<size) (v:Value) (n:Nat) (xs:List Value) (hown:w.ownsRow base e size v n xs)
    (ad:Addr) (m c:Nat) (news:List Value) (hl:news.length=m*size) (hnews:∀ j u,news[j]?=some u→w.cell? (ad.add j)=some u) (h1:∀ u ∈ news,u.oneCell'=true)
    (h63:n+m≤maxLen) (hbytes:(n+m)*bytes≤140737488355328) (hbase:base≤w.heap.size):
    ∃ v' w',(Builtin.append_ #[t,t] ty #[v,.slice (some ad) m c]).run P w=.ok v' w'∧w'.ownsRow base e size v' (n+m) (xs++news)∧w.grownBy w' v.ownBlock∧∀ k,v'.ownBlock=some k→v.ownBlock=some k∨w.heap.size≤k:=by
  obtain ⟨v',w',hr,h2,h3,_⟩:=run_append_own (P:=P) w base t ty e i z size bytes ht hi hz hsize hby hzs hsz v n xs hown ad m c news hl hnews h1 h63 hbytes hbase
  refine ⟨v',w',hr,h2,h3,fun k hk=>?_⟩
  rcases hown.2 with ⟨rfl,rfl⟩ | ⟨g,cap,cur,rfl,hbg,hg,hnc,hcm,hcs,htake⟩
  · have hx:xs=[]:=List.eq_nil_of_length_eq_zero (by simpa using hown.1)
    subst hx
    obtain ⟨v2,w2,hr2,k2,_,_⟩:=run_append_own (P:=P) w w.heap.size t ty e i z size bytes ht hi hz hsize hby hzs hsz (.slice none 0 0) 0 [] (World.ownsRow_nil ..) ad m c news hl hnews h1 h63 hbytes (Nat.le_refl _)
    rw [hr] at hr2
    injection hr2 with e1 e2
    subst e1
    exact .inr (k2.lt k hk).1
  · by_cases hroom:n+m≤cap
    · subst hsize
      have hfit:n*i.size+news.length≤cur.size:=by rw [hl,hcs,← Nat.add_mul];exact Nat.mul_le_mul_right _ hroom
      have hr2:=run_append_room (P:=P) w t ty e i ht hi g n cap cur hg ad m c news hl hnews h1 hroom hfit
      rw [hr] at hr2
      injection hr2 with e1 e2
      subst e1
      exact .inl hk
    · subst hsize
      subst hby
      have holds:∀ j u,xs[j]?=some u→w.cell? ((⟨g,0,none⟩:Addr).add j)=some u:=hown.cells (g:=g) rfl
      have hr2:=run_append_grow (P:=P) w t ty e i z ht hi hz ⟨g,0,none⟩ n cap xs hown.1 holds ad m c news hl hnews (by omega) (by simp only [maxLen] at h63;omega) (growslice_fits (by omega) hbytes)
      rw [hr] at hr2
      injection hr2 with e1 e2
      subst e1
      simp [Value.ownBlock] at hk
      exact .inr (by omega)
theorem eff_apo {E:World→α→List Value→Prop} {F:World→β→List Value→Prop} {ts ts2:List TypeId} (hS:Stab E ts) (hS2:Stab F ts2) (s x:Operand) (t:TypeId) (T B:Nat) (z:Value) (v:Value) (xs:List α) (b:Nat) (us:List Value) (x0:α) (c cx:Nat) (d:Option Tmp) (bytes:Nat) (hd:o.dst=d)
    (ho:o.op=.call {callee:=.builtin .append,args:=#[s,x],argTypes:=#[t,t]}) (hs:a.eval s=v) (hx:a.eval x=.slice (some ⟨b,0,none⟩) 1 cx)
    (hown:Ow E T c w B v xs) (hL:Lc w b us.toArray T) (hu:One1 us) (hl:us.length=c) (hE:E w x0 us) (hBw:B≤w.heap.size) (hn:xs.length≤1000000) (hbytes:bytes≤1000)
    (ht:P.underlying t=some (.slice T)) (hi:(P.info? T).map (fun i=>(i.zero,i.size,i.bytes))=some (some z,c,bytes)) (hzs:z.cells.size=c∧0<c) (hT:(ts.all fun t=>t !=T)=true) (hT2:(ts2.all fun t=>t !=T)=true)
    {B2 T2 c2:Nat} {u:Value} {ys:List β} (hother:Ow F T2 c2 w B2 u ys) (hdj:Dj u v)
    (h:∀ v' w',Ow E T c w' B v' (xs++[x0])→Wt T w w'→(∀ w0,Gr w0 w→w0.heap.size≤B→Gr w0 w')→Ow F T2 c2 w' B2 u ys→Dj u v'→K (a.put d v') w'):o.wp P a w K Q:=by
  subst hd
  obtain ⟨zs,hown,hEl⟩:=hown
  obtain ⟨i,hi,hz,hsize,hby⟩:=info_parts hi
  have hb1:(xs.length+1)*bytes≤1000001*1000:=Nat.mul_le_mul (by omega) hbytes
  obtain ⟨v',w',hr,h2,hg,h4⟩:=run_apo (P:=P) (w:=w) B t o.type T i z c bytes ht hi hz hsize hby hzs.1 hzs.2 v xs.length zs hown ⟨b,0,none⟩ 1 cx us (by omega) (fun j y hj=>by
    have e:(⟨b,0,none⟩:Addr).add j=⟨b,j,none⟩:=by by_cases h0:j=0<;>simp [Addr.add,h0]
    rw [e,cells_of hL];simpa using hj) hu.all (by unfold maxLen;omega) (by omega) hBw
  have hnew:∀ k,v.ownBlock=some k→B≤k∧∃ cur,w.heap[k]?=some (.cells cur T (0,0)):=by
    intro k hk
    rcases hown.2 with ⟨rfl,_⟩ | ⟨g,cap,cur,rfl,hb,hgg,_⟩
    · simp [Value.ownBlock] at hk
    · simp [Value.ownBlock] at hk
      subst hk;exact ⟨hb,cur,hgg⟩
  have hwt:Wt T w w':=⟨hg.os,hg.tape,hg.output,hg.size,fun k cs t fr ht hk=>by
    rw [hg.block k (heap_lt hk) (fun e=>?_)]
    · exact hk
    · obtain ⟨_,cur,hc⟩:=hnew k e.symm
      rw [hk] at hc
      simp only [Option.some.injEq,Obj.cells.injEq] at hc
      exact ht hc.2.1⟩
  have hvb:∀ k,v.ownBlock=some k→∀ n cap,u≠.slice (some ⟨k,0,none⟩) n cap:=fun k hk n cap e=>by
    rcases hown.2 with ⟨rfl,_⟩ | ⟨g,cap2,cur,rfl,_⟩
    · simp [Value.ownBlock] at hk
    · simp [Value.ownBlock] at hk
      subst hk
      exact hdj _ _ _ _ _ e rfl
  have hlt:∀ g n cap,u=.slice (some ⟨g,0,none⟩) n cap→g<w.heap.size:=fun g n cap e=>(hother.blk e).2
  unfold Oper.wp execOp
  simp only [ho,resolve,invoke,builtin,Sem.run_bind,Sem.run_pure,Result.andThen_ok,List.map_toArray,List.map_cons,List.map_nil,hs,hx,hr]
  refine h v' w' ⟨_,by simpa using h2,(hEl.snoc hl hE).kts hS (hwt.kts hT)⟩ hwt (fun w0 hB hB0=>?_) ?_ fun g n cap m dap e1 e2=>?_
  · refine Below.trans hB ⟨hg.os,hg.tape,hg.output,hg.size,fun k hk=>hg.block k (Nat.lt_of_lt_of_le hk hB.size) (fun e=>?_)⟩
    have:=(hnew k e.symm).1
    omega
  · obtain ⟨qs,ho1,ho2⟩:=hother
    refine ⟨qs,ho1.kept hg ?_,ho2.kts hS2 (hwt.kts hT2)⟩
    cases hk:v.ownBlock with
    | none=>
      cases hku:u.ownBlock with
      | none=>exact .inl rfl
      | some g=>exact .inr (by simp)
    | some k=>
      refine .inr fun e=>?_
      rcases ho1.2 with ⟨rfl,_⟩ | ⟨g,cap,cur,rfl,_⟩
      · simp [Value.ownBlock] at e
      · simp [Value.ownBlock] at e
        subst e
        exact hvb _ hk _ _ rfl
  · rcases h4 g (by rw [e2];rfl) with h5 | h5
    · exact hvb g h5 _ _ e1
    · have:=hlt g _ _ e1
      omega
end
/-- the length of a row,or 0 where it is missing -/
def dl (Z:Nat) (zl:Nat→Nat) (i:Nat):Nat:=if i<Z then zl i else 0
theorem dl_in {Z i:Nat} {zl:Nat→Nat} (h:i<Z):dl Z zl i=zl i:=if_pos h
theorem dl_out {Z i:Nat} {zl:Nat→Nat} (h:¬ i<Z):dl Z zl i=0:=if_neg h
theorem Dj.symm {u v:Value} (h:Dj u v):Dj v u:=fun g n cap m dap e1 e2=>h g m dap n cap e2 e1
theorem Dj.nil (v:Value):Dj (.slice none 0 0) v:=fun _ _ _ _ _ h=>by cases h
theorem dl_z {TQ Z:Nat} {w:World} {v:Value} {ee:Nat→Nat→Int × Int} {zl:Nat→Nat} (hs:Sl (ESl EEn 2) TQ 1 w v (tb (fun z0=>tb (ee z0) (zl z0)) Z)) (i k:Nat):RZ 8 3 (en (ee i) (dl Z zl i) k):=by
  by_cases hi:i<Z
  · rw [dl_in hi]
    obtain ⟨_,_,hr,_⟩:=hs.get (by decide) (tb_get hi)
    obtain ⟨u,T2,_,h3⟩:=hr
    exact en_zs h3 k
  · rw [dl_out hi,en_none];exact RZ.zero _ _ (by decide)
theorem tb_swp {R:Nat} {m:Mx_} (h:2≤R):[tb (m 1) R,tb (m 0) R]++tb (fun z3=>tb (m (2+z3)) R) (R - 2)=tb (fun z0=>tb (fun z1=>swp m 0 1 z0 z1) R) R:=by
  apply List.ext_getElem?
  intro i
  rcases Nat.lt_or_ge i 2 with h2 | h2
  · have:i=0∨i=1:=by omega
    rcases this with rfl | rfl
    · rw [tb_get (by omega)];rfl
    · rw [tb_get (by omega)];rfl
  · obtain ⟨j,rfl⟩:∃ j,i=2+j:=⟨i - 2,by omega⟩
    rw [List.getElem?_append_right (by simp)]
    simp only [List.length_cons,List.length_nil,Nat.zero_add,Nat.reduceAdd,Nat.add_sub_cancel_left]
    by_cases hj:j<R - 2
    · rw [tb_get hj,tb_get (by omega)]
      congr 1
      refine tb_congr fun k _=>?_
      unfold swp
      rw [if_neg (by omega),if_neg (by omega)]
    · rw [List.getElem?_eq_none (by rw [tb_len];omega),List.getElem?_eq_none (by rw [tb_len];omega)]
/-- the numbers of a table of which so many rows and columns are taken -/
def exm (ee:Nat→Nat→Int × Int) (Z:Nat) (zl:Nat→Nat):Mx_:=fun i k=>en (ee i) (dl Z zl i) k
theorem exm_z {TQ Z:Nat} {w:World} {v:Value} {ee:Nat→Nat→Int × Int} {zl:Nat→Nat} (hs:Sl (ESl EEn 2) TQ 1 w v (tb (fun z0=>tb (ee z0) (zl z0)) Z)) (i k:Nat):RZ 8 3 (exm ee Z zl i k):=dl_z hs i k
theorem sgn_t {q:Rat} (h:q=0):(sgn q.num==(0:Int))=true:=by subst h;decide
theorem sgn_f {q:Rat} (h:¬ q=0):(sgn q.num==(0:Int))=false:=by
  cases e:(sgn q.num==(0:Int)) with
  | false=>rfl
  | true=>exact absurd (sgn_z e) h
theorem swp_z {p d i j:Nat} {m:Mx_} (h:∀ i k,RZ p d (m i k)) (t k:Nat):RZ p d (swp m i j t k):=by
  unfold swp
  split
  · exact h _ _
  · split<;>exact h _ _
/-- two rows that are written beside each other,as a slice of the call's own -/
theorem ow_two {α:Type} {E:World→α→List Value→Prop} {w:World} {b B T T2 c:Nat} {u v:Value} {x y:List α} (h:Lc w b #[u,v] T) (hu:Sl E T2 c w u x) (hv:Sl E T2 c w v y) (hB:B≤b):Ow (ERw E T2 c) T 1 w B (.slice (some ⟨b,0,none⟩) 2 2) [x,y]:=
  ⟨[u,v],⟨rfl,.inr ⟨b,2,#[u,v],rfl,hB,h,Nat.le_refl _,by unfold maxLen;omega,rfl,rfl⟩⟩,((Els.nil _ _ _).snoc (x:=x) (vs:=[u]) rfl ⟨u,rfl,hu⟩).snoc (x:=y) (vs:=[v]) rfl ⟨v,rfl,hv⟩⟩
set_option maxRecDepth 100000 in
set_option maxHeartbeats 1000000 in
theorem md_s {D nn ca cb TQa TQb Za Zb:Nat} {va vb:Value} {pea peb:Nat→Nat→Int × Int} {zla zlb:Nat→Nat} (_hD:D=nn % 5) (_hn5:nn≤255) (hf:pl D (wid D (exm pea Za zla)) D<D) {w:World} (hm:Mx w) (ht:Tab w) (hsa:Sl (ESl EEn 2) TQa 1 w va (tb (fun z0=>tb (pea z0) (zla z0)) Za)) (hsb:Sl (ESl EEn 2) TQb 1 w vb (tb (fun z0=>tb (peb z0) (zlb z0)) Zb)):
    Calls Tryz.prog 11 #[(.agg #[(.int .u8 ((ca:Int))),va]),(.agg #[(.int .u8 ((cb:Int))),vb]),(.int .u8 ((nn:Int)))] w fun e w'=>e=.returned (.bool true)∧Gr w w':=by
 have hzx:∀ k,k≤D→RdZ D D 4899 (rs D (exm pea Za zla) k):=rs_sm (fun i _ k _=>exm_z hsa i k) (.inl (by omega)) (Nat.le_refl _)
 have hzy:∀ k,k≤D→RdZ D D 4899 (rs D (exm peb Zb zlb) k):=rs_sm (fun i _ k _=>exm_z hsb i k) (.inl (by omega)) (Nat.le_refl _)
 have hzs:∀ k,k≤D→RdZ D D 4899 (rs D (swp (exm pea Za zla) 0 1) k):=rs_sm (fun i _ k _=>swp_z (exm_z hsa) i k) (.inl (by omega)) (Nat.le_refl _)
 have hmz:∀ i,i<D→∀ k,k<D→RZ 93 25 ((mul_ D (exm pea Za zla) (exm peb Zb zlb)) i k):=fun i hi k hk=>(mul_z (S:=D) (fun i _ k _=>exm_z hsa i k) (fun i _ k _=>exm_z hsb i k) i hi k hk).mono (by omega) (by omega)
 have hzp:∀ k,k≤D→RdZ D D 12279 (rs D (mul_ D (exm pea Za zla) (exm peb Zb zlb)) k):=rs_all (P:=4) ⟨93,25,93,25,1⟩ hmz (fun i _ k h1 h2=>absurd h1 (by omega)) (Nat.le_refl _) (.inl (by omega)) (by decide)
 go_enter Tryz.func11,Tryz.ntmps11
 have hB:=Gr.refl w
 refine wp_seq_k (fun K10 k10=>?_)
 refine rg [0,1,2] ?_
 refine se ?_
 refine eb 24 #[(.int .u8 ((ca:Int))),va] 3 hB fun b11 w11 g11 L11 o11 q11 hB=>?_
 simp only [p3,p4]
 refine se ?_
 refine eb 24 #[(.int .u8 ((cb:Int))),vb] 4 hB fun b12 w12 g12 L12 o12 q12 hB=>?_
 simp only [p3,p4]
 refine sv 6 (.bool false) ?_
 refine sq_nil ?_
 refine k10 _ _ ?_
 try clear k10 K10
 refine wp_seq_k (fun K13 k13=>?_)
 refine wp_seq_k (fun K14 k14=>?_)
 refine rg [0,1] ?_
 refine se ?_
 refine ec 32 (l5_known _ (hm.gr hB) (ht.gr hB)) ?_
 rintro e15 w15 ⟨rfl,g15⟩
 refine ⟨_,rfl,?_⟩
 replace hB:=hB.trans g15
 simp only [p3,p4]
 refine sv 33 (.bool false) ?_
 refine sq_nil ?_
 refine k14 _ _ ?_
 try clear k14 K14
 refine wp_cond_false rfl ?_
 refine wp_skip ?_
 refine k13 _ _ ?_
 try clear k13 K13
 refine wp_seq_k (fun K16 k16=>?_)
 refine rg [0,1,2,3] ?_
 refine sv 34 (.int .u8 ((nn:Int))) ?_
 refine sw 35 (.int .u8 ((D:Int))) rfl (RunV.int (x:=Int.tmod (nn:Int) 5) (y:=(D:Int)) (rvk (by kernel_rfl)) (by rw [Int.tmod_eq_emod_of_nonneg (Int.natCast_nonneg _)];omega)) ?_
 refine sw 36 (.int .i64 ((D:Int))) rfl (RunV.int (x:=IntKind.i64.wrap ((D:Int))) (y:=(D:Int)) (rvk (by kernel_rfl)) (by first | rfl | (rw [IntKind.wrap_i64];omega))) ?_
 refine sv 7 (.int .i64 ((D:Int))) ?_
 refine sq_nil ?_
 refine k16 _ _ ?_
 try clear k16 K16
 refine wp_seq_k (fun K17 k17=>?_)
 refine rg [0,1] ?_
 refine sv 8 (.slice none 0 0) ?_
 refine sv 9 (.slice none 0 0) ?_
 refine sq_nil ?_
 refine k17 _ _ ?_
 try clear k17 K17
 refine wp_seq_k (fun K18 k18=>?_)
 refine wp_seq_k (fun K19 k19=>?_)
 refine rg [0] ?_
 refine sv 10 (.int .i64 0) ?_
 refine sq_nil ?_
 refine k19 _ _ ?_
 try clear k19 K19
 refine wp_block ?_
 replace L11:=L11.gr (g12.trans g15)
 replace L12:=L12.gr g15
 refine wp_loop_inv (a:=⟨List.toArray ?l20,[]⟩) (fun n a w'=>∃ (i:Nat) (vx:Value) (vy:Value) (u20:Nat→Value),D - i=n∧a=⟨[(.agg #[(.int .u8 ((ca:Int))),va]),(.agg #[(.int .u8 ((cb:Int))),vb]),(.int .u8 ((nn:Int))),(.pointer (some ⟨b11,0,none⟩)),(.pointer (some ⟨b12,0,none⟩)),undef,(.bool false),(.int .i64 ((D:Int))),vx,vy,(.int .i64 ((i:Int))),(u20 11),(u20 12),undef,undef,undef,undef,undef,undef,undef,undef,undef,undef,undef,undef,undef,undef,undef,undef,undef,undef,undef,(u20 32),(.bool false),(u20 34),(u20 35),(u20 36),(u20 37),(u20 38),(u20 39),(u20 40),(u20 41),(u20 42),(u20 43),(u20 44),(u20 45),(u20 46),(u20 47),(u20 48),(u20 49),(u20 50),(u20 51),(u20 52),(u20 53),(u20 54),(u20 55),(u20 56),(u20 57),(u20 58),(u20 59),(u20 60),(u20 61),(u20 62),(u20 63),(u20 64),(u20 65),(u20 66),(u20 67),(u20 68),(u20 69),(u20 70),(u20 71),(u20 72),(u20 73),undef,undef,undef,undef,undef,undef,undef,undef,undef,undef,undef,undef,undef,undef,undef,undef,undef,undef,undef,undef,undef,undef,undef,undef,undef,undef,undef,undef,undef,undef,undef,undef,undef,undef,undef,undef,undef,undef,undef,undef,undef,undef,undef,undef,undef,undef,undef,undef,undef,undef,undef,undef,undef,undef,undef,undef,undef,undef,undef,undef,undef,undef,undef,undef,undef,undef,undef,undef,undef,undef,undef,undef,undef,undef,undef,undef,undef,undef,undef,undef,undef,undef,undef,undef,undef,undef,undef,undef,undef,undef,undef,undef,undef,undef,undef,undef,undef,undef,undef,undef,undef,undef,undef,undef,undef,undef,undef,undef,undef].toArray,[]⟩∧i≤D∧Dj vx vy∧Ow (ERw EFr 84 2) 51 1 w' w.heap.size vx (tb (fun z0=>tb (fun z1=>((exm pea Za zla) z0 z1)) D) i)∧Ow (ERw EFr 84 2) 51 1 w' w.heap.size vy (tb (fun z0=>tb (fun z1=>((exm peb Zb zlb) z0 z1)) D) i)∧Lc w' b11 #[(.int .u8 ((ca:Int))),va] 24∧Lc w' b12 #[(.int .u8 ((cb:Int))),vb] 24∧Gr w w') (D - 0) ?_ ?_
 ·exact ⟨0,(.slice none 0 0),(.slice none 0 0),(fun i=>List.getD ?l20 i undef),rfl,rfl,(Nat.zero_le _),(Dj.nil _),(Ow.nil _ _ _ _ _),(Ow.nil _ _ _ _ _),L11,L12,hB⟩
 rintro n20 a20 w20 ⟨i,vx,vy,u20,rfl,rfl,hki,hdj,ox,oy,L11,L12,hB⟩ K20 k20
 refine wp_seq_k (fun K21 k21=>?_)
 refine wp_seq_k (fun K22 k22=>?_)
 refine rg [0,1,2] ?_
 refine sv 37 (.int .i64 ((i:Int))) ?_
 refine sv 38 (.int .i64 ((D:Int))) ?_
 refine sv 39 (.bool (decide ((i:Int)<(D:Int)))) ?_
 refine sq_nil ?_
 refine k22 _ _ ?_
 try clear k22 K22
 refine wp_cond_split (t:=decide ((i:Int)<(D:Int))) rfl (fun hb23=>?_) (fun hb23=>?_)
 ·have hli:i<D:=by have:=of_decide_eq_true hb23;omega
  refine wp_skip ?_
  refine k21 _ _ ?_
  try clear k21 K21
  refine wp_seq_k (fun K24 k24=>?_)
  refine wp_block ?_
  refine wp_seq_k (fun K25 k25=>?_)
  refine rg [0,1] ?_
  refine sv 11 (.slice none 0 0) ?_
  refine sv 12 (.slice none 0 0) ?_
  refine sq_nil ?_
  refine k25 _ _ ?_
  try clear k25 K25
  refine wp_seq_k (fun K26 k26=>?_)
  refine wp_seq_k (fun K27 k27=>?_)
  refine rg [0,1,2,3,4] ?_
  refine sv 42 (.int .i64 ((i:Int))) ?_
  refine sv 43 (.pointer (some ⟨b11,1,none⟩)) ?_
  refine sw 44 va rfl (rk 22 1 L11) ?_
  refine sw 45 (.int .i64 ((Za:Int))) rfl (rv_lenn (e:=45) hsa (tb_lenz rfl) _ _ rfl rfl (by kernel_rfl)) ?_
  refine sv 46 (.bool (decide ((i:Int)<(Za:Int)))) ?_
  refine sq_nil ?_
  refine k27 _ _ ?_
  try clear k27 K27
  refine wp_cond_split (t:=decide ((i:Int)<(Za:Int))) rfl (fun hb28=>?_) (fun hb28=>?_)
  ·have ha:i<Za:=by have:=of_decide_eq_true hb28;omega
   refine rg [0,1,2,3,4,5] ?_
   refine sv 47 (.pointer (some ⟨b11,1,none⟩)) ?_
   refine sw 48 va rfl (rk 22 1 L11) ?_
   refine sv 49 (.int .i64 ((i:Int))) ?_
   refine sw 50 (adr va (i*1)) rfl (rv_idxn (e:=45) hsa tb_len (by decide) i (by omega) _ _ _ rfl rfl rfl (by kernel_rfl) (by kernel_rfl)) ?_
   obtain ⟨_,_,⟨u29,TT29,rfl,hr29⟩,at29⟩:=Sl.get hsa (by decide) (tb_get (f:=(fun z0=>tb (pea z0) (zla z0))) (n:=Za) (i:=i) (by omega))
   refine sw 51 u29 rfl (rv_ld1 u29 (at29.gr hB) _ _ rfl rfl (by kernel_rfl)) ?_
   refine sv 11 u29 ?_
   refine sq_nil ?_
   refine k26 _ _ ?_
   try clear k26 K26
   refine wp_seq_k (fun K30 k30=>?_)
   refine wp_seq_k (fun K31 k31=>?_)
   refine rg [0,1,2,3,4] ?_
   refine sv 52 (.int .i64 ((i:Int))) ?_
   refine sv 53 (.pointer (some ⟨b12,1,none⟩)) ?_
   refine sw 54 vb rfl (rk 22 1 L12) ?_
   refine sw 55 (.int .i64 ((Zb:Int))) rfl (rv_lenn (e:=45) hsb (tb_lenz rfl) _ _ rfl rfl (by kernel_rfl)) ?_
   refine sv 56 (.bool (decide ((i:Int)<(Zb:Int)))) ?_
   refine sq_nil ?_
   refine k31 _ _ ?_
   try clear k31 K31
   refine wp_cond_split (t:=decide ((i:Int)<(Zb:Int))) rfl (fun hb32=>?_) (fun hb32=>?_)
   ·have hb:i<Zb:=by have:=of_decide_eq_true hb32;omega
    refine rg [0,1,2,3,4,5] ?_
    refine sv 57 (.pointer (some ⟨b12,1,none⟩)) ?_
    refine sw 58 vb rfl (rk 22 1 L12) ?_
    refine sv 59 (.int .i64 ((i:Int))) ?_
    refine sw 60 (adr vb (i*1)) rfl (rv_idxn (e:=45) hsb tb_len (by decide) i (by omega) _ _ _ rfl rfl rfl (by kernel_rfl) (by kernel_rfl)) ?_
    obtain ⟨_,_,⟨u33,TT33,rfl,hr33⟩,at33⟩:=Sl.get hsb (by decide) (tb_get (f:=(fun z0=>tb (peb z0) (zlb z0))) (n:=Zb) (i:=i) (by omega))
    refine sw 61 u33 rfl (rv_ld1 u33 (at33.gr hB) _ _ rfl rfl (by kernel_rfl)) ?_
    refine sv 12 u33 ?_
    refine sq_nil ?_
    refine k30 _ _ ?_
    try clear k30 K30
    refine rg [0,1,2,3,4,5,6,7,8,9,10,11,12,13] ?_
    refine sv 62 vx ?_
    refine sv 63 u29 ?_
    refine sv 64 (.int .i64 ((D:Int))) ?_
    refine se ?_
    refine ec 65 (l5_line D (by omega) (hr29.gr stab_en hB)) ?_
    rintro e34 w34 ⟨⟨u34,rfl,hs34⟩,g34⟩
    refine ⟨_,rfl,?_⟩
    replace hB:=hB.trans g34
    simp only [p3,p4]
    refine se ?_
    refine eff_bs1 26 51 u34 (some 66) rfl rfl rfl hs34.forms (fun _ _ _ _=>by kernel_rfl) (fun b35 w35 g35 L35 q35=>?_)
    replace L11:=L11.gr g34
    replace L12:=L12.gr g34
    replace hB:=hB.trans g35
    simp only [putl,p3,p4]
    refine se ?_
    replace hs34:=hs34.gr stab_fr g35
    replace ox:=ox.gr (stab_rw stab_fr 84 2) (g34.trans g35)
    replace oy:=oy.gr (stab_rw stab_fr 84 2) (g34.trans g35)
    refine eff_apo (stab_rw stab_fr 84 2) (stab_rw stab_fr 84 2) _ _ 26 51 w.heap.size (.slice none 0 0) vx (tb (fun z0=>tb (fun z1=>((exm pea Za zla) z0 z1)) D) i) b35 [u34] (tb (fun z1=>(en (pea i) (zla i) z1)) D) 1 1 (some 67) 24 rfl rfl rfl rfl ox L35 ⟨hs34.one,trivial⟩ rfl ⟨_,rfl,hs34⟩ (Below.size hB) (by rw [tb_len];omega) (by decide) (by kernel_rfl) (by kernel_rfl) (by decide) (by decide) (by decide) oy hdj.symm (fun v36 w36 ow36 wt36 hg36 oo36 dj36=>?_)
    replace hB:=hg36 _ hB (Nat.le_refl _)
    replace ow36:=ow36.cast (tb_snoc (f:=(fun z0=>tb (fun z1=>((exm pea Za zla) z0 z1)) D)) (n:=i) (by unfold exm;rw [dl_in ha]))
    simp only [putl,p3,p4]
    refine sv 68 vy ?_
    refine sv 69 u33 ?_
    refine sv 70 (.int .i64 ((D:Int))) ?_
    refine se ?_
    refine ec 71 (l5_line D (by omega) (hr33.gr stab_en hB)) ?_
    rintro e37 w37 ⟨⟨u37,rfl,hs37⟩,g37⟩
    refine ⟨_,rfl,?_⟩
    replace hB:=hB.trans g37
    simp only [p3,p4]
    refine se ?_
    refine eff_bs1 26 51 u37 (some 72) rfl rfl rfl hs37.forms (fun _ _ _ _=>by kernel_rfl) (fun b38 w38 g38 L38 q38=>?_)
    replace L11:=(wt36.lc (L11.gr g35) (by decide)).gr g37
    replace L12:=(wt36.lc (L12.gr g35) (by decide)).gr g37
    replace hB:=hB.trans g38
    simp only [putl,p3,p4]
    refine se ?_
    replace hs37:=hs37.gr stab_fr g38
    replace oo36:=oo36.gr (stab_rw stab_fr 84 2) (g37.trans g38)
    replace ow36:=ow36.gr (stab_rw stab_fr 84 2) (g37.trans g38)
    refine eff_apo (stab_rw stab_fr 84 2) (stab_rw stab_fr 84 2) _ _ 26 51 w.heap.size (.slice none 0 0) vy (tb (fun z0=>tb (fun z1=>((exm peb Zb zlb) z0 z1)) D) i) b38 [u37] (tb (fun z1=>(en (peb i) (zlb i) z1)) D) 1 1 (some 73) 24 rfl rfl rfl rfl oo36 L38 ⟨hs37.one,trivial⟩ rfl ⟨_,rfl,hs37⟩ (Below.size hB) (by rw [tb_len];omega) (by decide) (by kernel_rfl) (by kernel_rfl) (by decide) (by decide) (by decide) ow36 dj36.symm (fun v39 w39 ow39 wt39 hg39 oo39 dj39=>?_)
    replace hB:=hg39 _ hB (Nat.le_refl _)
    replace ow39:=ow39.cast (tb_snoc (f:=(fun z0=>tb (fun z1=>((exm peb Zb zlb) z0 z1)) D)) (n:=i) (by unfold exm;rw [dl_in hb]))
    simp only [putl,p3,p4]
    refine sv 8 v36 ?_
    refine sv 9 v39 ?_
    refine sq_nil ?_
    refine k24 _ _ ?_
    try clear k24 K24
    refine rg [0,1,2] ?_
    refine sv 40 (.int .i64 ((i:Int))) ?_
    refine sw 41 (.int .i64 (((i:Int)+1))) rfl (RunV.int (x:=IntKind.i64.wrap (((i:Int)+1))) (y:=((i:Int)+1)) (rvk (by kernel_rfl)) (by first | rfl | (rw [IntKind.wrap_i64];omega))) ?_
    refine sv 10 (.int .i64 (((i:Int)+1))) ?_
    refine sq_nil ?_
    replace L11:=wt39.lc (L11.gr g38) (by decide)
    replace L12:=wt39.lc (L12.gr g38) (by decide)
    refine k20 (D - (i+1)) ⟨List.toArray ?l40,[]⟩ _ (by omega) ?_
    exact ⟨i+1,v36,v39,(fun i=>List.getD ?l40 i undef),rfl,rfl,(by omega),dj39,oo39,ow39,L11,L12,hB⟩
   ·have hb:¬ i<Zb:=by have:=of_decide_eq_false hb32;omega
    refine wp_skip ?_
    refine k30 _ _ ?_
    try clear k30 K30
    refine rg [0,1,2,3,4,5,6,7,8,9,10,11,12,13] ?_
    refine sv 62 vx ?_
    refine sv 63 u29 ?_
    refine sv 64 (.int .i64 ((D:Int))) ?_
    refine se ?_
    refine ec 65 (l5_line D (by omega) (hr29.gr stab_en hB)) ?_
    rintro e41 w41 ⟨⟨u41,rfl,hs41⟩,g41⟩
    refine ⟨_,rfl,?_⟩
    replace hB:=hB.trans g41
    simp only [p3,p4]
    refine se ?_
    refine eff_bs1 26 51 u41 (some 66) rfl rfl rfl hs41.forms (fun _ _ _ _=>by kernel_rfl) (fun b42 w42 g42 L42 q42=>?_)
    replace L11:=L11.gr g41
    replace L12:=L12.gr g41
    replace hB:=hB.trans g42
    simp only [putl,p3,p4]
    refine se ?_
    replace hs41:=hs41.gr stab_fr g42
    replace ox:=ox.gr (stab_rw stab_fr 84 2) (g41.trans g42)
    replace oy:=oy.gr (stab_rw stab_fr 84 2) (g41.trans g42)
    refine eff_apo (stab_rw stab_fr 84 2) (stab_rw stab_fr 84 2) _ _ 26 51 w.heap.size (.slice none 0 0) vx (tb (fun z0=>tb (fun z1=>((exm pea Za zla) z0 z1)) D) i) b42 [u41] (tb (fun z1=>(en (pea i) (zla i) z1)) D) 1 1 (some 67) 24 rfl rfl rfl rfl ox L42 ⟨hs41.one,trivial⟩ rfl ⟨_,rfl,hs41⟩ (Below.size hB) (by rw [tb_len];omega) (by decide) (by kernel_rfl) (by kernel_rfl) (by decide) (by decide) (by decide) oy hdj.symm (fun v43 w43 ow43 wt43 hg43 oo43 dj43=>?_)
    replace hB:=hg43 _ hB (Nat.le_refl _)
    replace ow43:=ow43.cast (tb_snoc (f:=(fun z0=>tb (fun z1=>((exm pea Za zla) z0 z1)) D)) (n:=i) (by unfold exm;rw [dl_in ha]))
    simp only [putl,p3,p4]
    refine sv 68 vy ?_
    refine sv 69 (.slice none 0 0) ?_
    refine sv 70 (.int .i64 ((D:Int))) ?_
    refine se ?_
    refine ec 71 (l5_line (TT:=0) (ee:=peb i) (Z:=0) D (by omega) (Sl.nil _ _ _ _ none 0)) ?_
    rintro e44 w44 ⟨⟨u44,rfl,hs44⟩,g44⟩
    refine ⟨_,rfl,?_⟩
    replace hB:=hB.trans g44
    simp only [p3,p4]
    refine se ?_
    refine eff_bs1 26 51 u44 (some 72) rfl rfl rfl hs44.forms (fun _ _ _ _=>by kernel_rfl) (fun b45 w45 g45 L45 q45=>?_)
    replace L11:=(wt43.lc (L11.gr g42) (by decide)).gr g44
    replace L12:=(wt43.lc (L12.gr g42) (by decide)).gr g44
    replace hB:=hB.trans g45
    simp only [putl,p3,p4]
    refine se ?_
    replace hs44:=hs44.gr stab_fr g45
    replace oo43:=oo43.gr (stab_rw stab_fr 84 2) (g44.trans g45)
    replace ow43:=ow43.gr (stab_rw stab_fr 84 2) (g44.trans g45)
    refine eff_apo (stab_rw stab_fr 84 2) (stab_rw stab_fr 84 2) _ _ 26 51 w.heap.size (.slice none 0 0) vy (tb (fun z0=>tb (fun z1=>((exm peb Zb zlb) z0 z1)) D) i) b45 [u44] (tb (fun z1=>(en (peb i) 0 z1)) D) 1 1 (some 73) 24 rfl rfl rfl rfl oo43 L45 ⟨hs44.one,trivial⟩ rfl ⟨_,rfl,hs44⟩ (Below.size hB) (by rw [tb_len];omega) (by decide) (by kernel_rfl) (by kernel_rfl) (by decide) (by decide) (by decide) ow43 dj43.symm (fun v46 w46 ow46 wt46 hg46 oo46 dj46=>?_)
    replace hB:=hg46 _ hB (Nat.le_refl _)
    replace ow46:=ow46.cast (tb_snoc (f:=(fun z0=>tb (fun z1=>((exm peb Zb zlb) z0 z1)) D)) (n:=i) (by unfold exm;rw [dl_out hb]))
    simp only [putl,p3,p4]
    refine sv 8 v43 ?_
    refine sv 9 v46 ?_
    refine sq_nil ?_
    refine k24 _ _ ?_
    try clear k24 K24
    refine rg [0,1,2] ?_
    refine sv 40 (.int .i64 ((i:Int))) ?_
    refine sw 41 (.int .i64 (((i:Int)+1))) rfl (RunV.int (x:=IntKind.i64.wrap (((i:Int)+1))) (y:=((i:Int)+1)) (rvk (by kernel_rfl)) (by first | rfl | (rw [IntKind.wrap_i64];omega))) ?_
    refine sv 10 (.int .i64 (((i:Int)+1))) ?_
    refine sq_nil ?_
    replace L11:=wt46.lc (L11.gr g45) (by decide)
    replace L12:=wt46.lc (L12.gr g45) (by decide)
    refine k20 (D - (i+1)) ⟨List.toArray ?l47,[]⟩ _ (by omega) ?_
    exact ⟨i+1,v43,v46,(fun i=>List.getD ?l47 i undef),rfl,rfl,(by omega),dj46,oo46,ow46,L11,L12,hB⟩
  ·have ha:¬ i<Za:=by have:=of_decide_eq_false hb28;omega
   refine wp_skip ?_
   refine k26 _ _ ?_
   try clear k26 K26
   refine wp_seq_k (fun K48 k48=>?_)
   refine wp_seq_k (fun K49 k49=>?_)
   refine rg [0,1,2,3,4] ?_
   refine sv 52 (.int .i64 ((i:Int))) ?_
   refine sv 53 (.pointer (some ⟨b12,1,none⟩)) ?_
   refine sw 54 vb rfl (rk 22 1 L12) ?_
   refine sw 55 (.int .i64 ((Zb:Int))) rfl (rv_lenn (e:=45) hsb (tb_lenz rfl) _ _ rfl rfl (by kernel_rfl)) ?_
   refine sv 56 (.bool (decide ((i:Int)<(Zb:Int)))) ?_
   refine sq_nil ?_
   refine k49 _ _ ?_
   try clear k49 K49
   refine wp_cond_split (t:=decide ((i:Int)<(Zb:Int))) rfl (fun hb50=>?_) (fun hb50=>?_)
   ·have hb:i<Zb:=by have:=of_decide_eq_true hb50;omega
    refine rg [0,1,2,3,4,5] ?_
    refine sv 57 (.pointer (some ⟨b12,1,none⟩)) ?_
    refine sw 58 vb rfl (rk 22 1 L12) ?_
    refine sv 59 (.int .i64 ((i:Int))) ?_
    refine sw 60 (adr vb (i*1)) rfl (rv_idxn (e:=45) hsb tb_len (by decide) i (by omega) _ _ _ rfl rfl rfl (by kernel_rfl) (by kernel_rfl)) ?_
    obtain ⟨_,_,⟨u51,TT51,rfl,hr51⟩,at51⟩:=Sl.get hsb (by decide) (tb_get (f:=(fun z0=>tb (peb z0) (zlb z0))) (n:=Zb) (i:=i) (by omega))
    refine sw 61 u51 rfl (rv_ld1 u51 (at51.gr hB) _ _ rfl rfl (by kernel_rfl)) ?_
    refine sv 12 u51 ?_
    refine sq_nil ?_
    refine k48 _ _ ?_
    try clear k48 K48
    refine rg [0,1,2,3,4,5,6,7,8,9,10,11,12,13] ?_
    refine sv 62 vx ?_
    refine sv 63 (.slice none 0 0) ?_
    refine sv 64 (.int .i64 ((D:Int))) ?_
    refine se ?_
    refine ec 65 (l5_line (TT:=0) (ee:=pea i) (Z:=0) D (by omega) (Sl.nil _ _ _ _ none 0)) ?_
    rintro e52 w52 ⟨⟨u52,rfl,hs52⟩,g52⟩
    refine ⟨_,rfl,?_⟩
    replace hB:=hB.trans g52
    simp only [p3,p4]
    refine se ?_
    refine eff_bs1 26 51 u52 (some 66) rfl rfl rfl hs52.forms (fun _ _ _ _=>by kernel_rfl) (fun b53 w53 g53 L53 q53=>?_)
    replace L11:=L11.gr g52
    replace L12:=L12.gr g52
    replace hB:=hB.trans g53
    simp only [putl,p3,p4]
    refine se ?_
    replace hs52:=hs52.gr stab_fr g53
    replace ox:=ox.gr (stab_rw stab_fr 84 2) (g52.trans g53)
    replace oy:=oy.gr (stab_rw stab_fr 84 2) (g52.trans g53)
    refine eff_apo (stab_rw stab_fr 84 2) (stab_rw stab_fr 84 2) _ _ 26 51 w.heap.size (.slice none 0 0) vx (tb (fun z0=>tb (fun z1=>((exm pea Za zla) z0 z1)) D) i) b53 [u52] (tb (fun z1=>(en (pea i) 0 z1)) D) 1 1 (some 67) 24 rfl rfl rfl rfl ox L53 ⟨hs52.one,trivial⟩ rfl ⟨_,rfl,hs52⟩ (Below.size hB) (by rw [tb_len];omega) (by decide) (by kernel_rfl) (by kernel_rfl) (by decide) (by decide) (by decide) oy hdj.symm (fun v54 w54 ow54 wt54 hg54 oo54 dj54=>?_)
    replace hB:=hg54 _ hB (Nat.le_refl _)
    replace ow54:=ow54.cast (tb_snoc (f:=(fun z0=>tb (fun z1=>((exm pea Za zla) z0 z1)) D)) (n:=i) (by unfold exm;rw [dl_out ha]))
    simp only [putl,p3,p4]
    refine sv 68 vy ?_
    refine sv 69 u51 ?_
    refine sv 70 (.int .i64 ((D:Int))) ?_
    refine se ?_
    refine ec 71 (l5_line D (by omega) (hr51.gr stab_en hB)) ?_
    rintro e55 w55 ⟨⟨u55,rfl,hs55⟩,g55⟩
    refine ⟨_,rfl,?_⟩
    replace hB:=hB.trans g55
    simp only [p3,p4]
    refine se ?_
    refine eff_bs1 26 51 u55 (some 72) rfl rfl rfl hs55.forms (fun _ _ _ _=>by kernel_rfl) (fun b56 w56 g56 L56 q56=>?_)
    replace L11:=(wt54.lc (L11.gr g53) (by decide)).gr g55
    replace L12:=(wt54.lc (L12.gr g53) (by decide)).gr g55
    replace hB:=hB.trans g56
    simp only [putl,p3,p4]
    refine se ?_
    replace hs55:=hs55.gr stab_fr g56
    replace oo54:=oo54.gr (stab_rw stab_fr 84 2) (g55.trans g56)
    replace ow54:=ow54.gr (stab_rw stab_fr 84 2) (g55.trans g56)
    refine eff_apo (stab_rw stab_fr 84 2) (stab_rw stab_fr 84 2) _ _ 26 51 w.heap.size (.slice none 0 0) vy (tb (fun z0=>tb (fun z1=>((exm peb Zb zlb) z0 z1)) D) i) b56 [u55] (tb (fun z1=>(en (peb i) (zlb i) z1)) D) 1 1 (some 73) 24 rfl rfl rfl rfl oo54 L56 ⟨hs55.one,trivial⟩ rfl ⟨_,rfl,hs55⟩ (Below.size hB) (by rw [tb_len];omega) (by decide) (by kernel_rfl) (by kernel_rfl) (by decide) (by decide) (by decide) ow54 dj54.symm (fun v57 w57 ow57 wt57 hg57 oo57 dj57=>?_)
    replace hB:=hg57 _ hB (Nat.le_refl _)
    replace ow57:=ow57.cast (tb_snoc (f:=(fun z0=>tb (fun z1=>((exm peb Zb zlb) z0 z1)) D)) (n:=i) (by unfold exm;rw [dl_in hb]))
    simp only [putl,p3,p4]
    refine sv 8 v54 ?_
    refine sv 9 v57 ?_
    refine sq_nil ?_
    refine k24 _ _ ?_
    try clear k24 K24
    refine rg [0,1,2] ?_
    refine sv 40 (.int .i64 ((i:Int))) ?_
    refine sw 41 (.int .i64 (((i:Int)+1))) rfl (RunV.int (x:=IntKind.i64.wrap (((i:Int)+1))) (y:=((i:Int)+1)) (rvk (by kernel_rfl)) (by first | rfl | (rw [IntKind.wrap_i64];omega))) ?_
    refine sv 10 (.int .i64 (((i:Int)+1))) ?_
    refine sq_nil ?_
    replace L11:=wt57.lc (L11.gr g56) (by decide)
    replace L12:=wt57.lc (L12.gr g56) (by decide)
    refine k20 (D - (i+1)) ⟨List.toArray ?l58,[]⟩ _ (by omega) ?_
    exact ⟨i+1,v54,v57,(fun i=>List.getD ?l58 i undef),rfl,rfl,(by omega),dj57,oo57,ow57,L11,L12,hB⟩
   ·have hb:¬ i<Zb:=by have:=of_decide_eq_false hb50;omega
    refine wp_skip ?_
    refine k48 _ _ ?_
    try clear k48 K48
    refine rg [0,1,2,3,4,5,6,7,8,9,10,11,12,13] ?_
    refine sv 62 vx ?_
    refine sv 63 (.slice none 0 0) ?_
    refine sv 64 (.int .i64 ((D:Int))) ?_
    refine se ?_
    refine ec 65 (l5_line (TT:=0) (ee:=pea i) (Z:=0) D (by omega) (Sl.nil _ _ _ _ none 0)) ?_
    rintro e59 w59 ⟨⟨u59,rfl,hs59⟩,g59⟩
    refine ⟨_,rfl,?_⟩
    replace hB:=hB.trans g59
    simp only [p3,p4]
    refine se ?_
    refine eff_bs1 26 51 u59 (some 66) rfl rfl rfl hs59.forms (fun _ _ _ _=>by kernel_rfl) (fun b60 w60 g60 L60 q60=>?_)
    replace L11:=L11.gr g59
    replace L12:=L12.gr g59
    replace hB:=hB.trans g60
    simp only [putl,p3,p4]
    refine se ?_
    replace hs59:=hs59.gr stab_fr g60
    replace ox:=ox.gr (stab_rw stab_fr 84 2) (g59.trans g60)
    replace oy:=oy.gr (stab_rw stab_fr 84 2) (g59.trans g60)
    refine eff_apo (stab_rw stab_fr 84 2) (stab_rw stab_fr 84 2) _ _ 26 51 w.heap.size (.slice none 0 0) vx (tb (fun z0=>tb (fun z1=>((exm pea Za zla) z0 z1)) D) i) b60 [u59] (tb (fun z1=>(en (pea i) 0 z1)) D) 1 1 (some 67) 24 rfl rfl rfl rfl ox L60 ⟨hs59.one,trivial⟩ rfl ⟨_,rfl,hs59⟩ (Below.size hB) (by rw [tb_len];omega) (by decide) (by kernel_rfl) (by kernel_rfl) (by decide) (by decide) (by decide) oy hdj.symm (fun v61 w61 ow61 wt61 hg61 oo61 dj61=>?_)
    replace hB:=hg61 _ hB (Nat.le_refl _)
    replace ow61:=ow61.cast (tb_snoc (f:=(fun z0=>tb (fun z1=>((exm pea Za zla) z0 z1)) D)) (n:=i) (by unfold exm;rw [dl_out ha]))
    simp only [putl,p3,p4]
    refine sv 68 vy ?_
    refine sv 69 (.slice none 0 0) ?_
    refine sv 70 (.int .i64 ((D:Int))) ?_
    refine se ?_
    refine ec 71 (l5_line (TT:=0) (ee:=peb i) (Z:=0) D (by omega) (Sl.nil _ _ _ _ none 0)) ?_
    rintro e62 w62 ⟨⟨u62,rfl,hs62⟩,g62⟩
    refine ⟨_,rfl,?_⟩
    replace hB:=hB.trans g62
    simp only [p3,p4]
    refine se ?_
    refine eff_bs1 26 51 u62 (some 72) rfl rfl rfl hs62.forms (fun _ _ _ _=>by kernel_rfl) (fun b63 w63 g63 L63 q63=>?_)
    replace L11:=(wt61.lc (L11.gr g60) (by decide)).gr g62
    replace L12:=(wt61.lc (L12.gr g60) (by decide)).gr g62
    replace hB:=hB.trans g63
    simp only [putl,p3,p4]
    refine se ?_
    replace hs62:=hs62.gr stab_fr g63
    replace oo61:=oo61.gr (stab_rw stab_fr 84 2) (g62.trans g63)
    replace ow61:=ow61.gr (stab_rw stab_fr 84 2) (g62.trans g63)
    refine eff_apo (stab_rw stab_fr 84 2) (stab_rw stab_fr 84 2) _ _ 26 51 w.heap.size (.slice none 0 0) vy (tb (fun z0=>tb (fun z1=>((exm peb Zb zlb) z0 z1)) D) i) b63 [u62] (tb (fun z1=>(en (peb i) 0 z1)) D) 1 1 (some 73) 24 rfl rfl rfl rfl oo61 L63 ⟨hs62.one,trivial⟩ rfl ⟨_,rfl,hs62⟩ (Below.size hB) (by rw [tb_len];omega) (by decide) (by kernel_rfl) (by kernel_rfl) (by decide) (by decide) (by decide) ow61 dj61.symm (fun v64 w64 ow64 wt64 hg64 oo64 dj64=>?_)
    replace hB:=hg64 _ hB (Nat.le_refl _)
    replace ow64:=ow64.cast (tb_snoc (f:=(fun z0=>tb (fun z1=>((exm peb Zb zlb) z0 z1)) D)) (n:=i) (by unfold exm;rw [dl_out hb]))
    simp only [putl,p3,p4]
    refine sv 8 v61 ?_
    refine sv 9 v64 ?_
    refine sq_nil ?_
    refine k24 _ _ ?_
    try clear k24 K24
    refine rg [0,1,2] ?_
    refine sv 40 (.int .i64 ((i:Int))) ?_
    refine sw 41 (.int .i64 (((i:Int)+1))) rfl (RunV.int (x:=IntKind.i64.wrap (((i:Int)+1))) (y:=((i:Int)+1)) (rvk (by kernel_rfl)) (by first | rfl | (rw [IntKind.wrap_i64];omega))) ?_
    refine sv 10 (.int .i64 (((i:Int)+1))) ?_
    refine sq_nil ?_
    replace L11:=wt64.lc (L11.gr g63) (by decide)
    replace L12:=wt64.lc (L12.gr g63) (by decide)
    refine k20 (D - (i+1)) ⟨List.toArray ?l65,[]⟩ _ (by omega) ?_
    exact ⟨i+1,v61,v64,(fun i=>List.getD ?l65 i undef),rfl,rfl,(by omega),dj64,oo64,ow64,L11,L12,hB⟩
 ·have hei:D=i:=by have:=of_decide_eq_false hb23;omega
  subst hei
  refine wp_exit ?_
  simp only [Exit.then,Exit.inBlock,↓reduceIte]
  refine k18 _ _ ?_
  try clear k18 K18
  refine wp_seq_k (fun K66 k66=>?_)
  refine rg [0,1,2,3,4,5] ?_
  refine sv 74 vx ?_
  refine se ?_
  refine ec 75 (l5_own (by omega) (by omega) (fun i _ k _=>(exm_z hsa i k).mono (by omega) (by omega)) (hm.gr hB) (ox.sl)) ?_
  rintro e67 w67 ⟨⟨u67,rfl,hs67⟩,g67⟩
  refine ⟨_,rfl,?_⟩
  replace hB:=hB.trans g67
  simp only [p3,p4]
  refine sv 76 vy ?_
  refine se ?_
  replace oy:=oy.gr (stab_rw stab_fr 84 2) g67
  refine ec 77 (l5_own (by omega) (by omega) (fun i _ k _=>(exm_z hsb i k).mono (by omega) (by omega)) (hm.gr hB) (oy.sl)) ?_
  rintro e68 w68 ⟨⟨u68,rfl,hs68⟩,g68⟩
  refine ⟨_,rfl,?_⟩
  replace hB:=hB.trans g68
  simp only [p3,p4]
  refine sv 13 u67 ?_
  refine sv 14 u68 ?_
  refine sq_nil ?_
  refine k66 _ _ ?_
  try clear k66 K66
  refine wp_seq_k (fun K69 k69=>?_)
  refine rg [0,1,2,3,4,5,6,7] ?_
  refine sv 79 u67 ?_
  refine sv 80 u68 ?_
  refine se ?_
  replace hs67:=hs67.gr (stab_rw (stab_rat 64) 71 4) g68
  refine ec 81 (mx_Mul (K:=64) (L:=64) (R:=D) (S:=D) (N:=D) (ma:=(exm pea Za zla)) (mb:=(exm peb Zb zlb)) (fun h=>h) (by omega) (by omega) (by omega) (by omega) (by omega) hs67 hs68) ?_
  rintro e70 w70 ⟨⟨u70,rfl,hs70⟩,g70⟩
  refine ⟨_,rfl,?_⟩
  replace hB:=hB.trans g70
  replace hs70:=hs70.cast (show _=tb (fun z0=>tb (fun z1=>(mul_ D (exm pea Za zla) (exm peb Zb zlb)) z0 z1) D) D from rfl)
  simp only [p3,p4]
  refine sv 78 (.tuple #[u70,(.int .i64 0)]) ?_
  refine sv 82 u70 ?_
  refine sv 83 (.int .i64 0) ?_
  refine sv 15 u70 ?_
  refine sv 16 (.int .i64 0) ?_
  refine sq_nil ?_
  refine k69 _ _ ?_
  try clear k69 K69
  refine wp_seq_k (fun K71 k71=>?_)
  have lehC:=Below.size hB
  have hC:=Gr.refl w70
  replace ox:=ox.gr (stab_rw stab_fr 84 2) (g67.trans (g68.trans g70))
  replace oy:=oy.gr (stab_rw stab_fr 84 2) (g68.trans g70)
  replace hs67:=hs67.gr (stab_rw (stab_rat 64) 71 4) g70
  replace hs68:=hs68.gr (stab_rw (stab_rat 64) 71 4) g70
  refine rg [0,1,2,3,4,5,6,7] ?_
  refine sv 85 u67 ?_
  refine se ?_
  refine ec 86 (mx_Determinant (K:=4899) (m:=(exm pea Za zla)) (by omega) (by omega) (by omega) hzx ((hs67.gr (stab_rw (stab_rat 64) 71 4) hC).ratrows (by omega))) ?_
  rintro e72 w72 ⟨⟨p72,q72,r72,s72,rfl,h72⟩,g72⟩
  refine ⟨_,rfl,?_⟩
  replace hB:=hB.trans g72
  replace hC:=hC.trans g72
  simp only [p3,p4]
  refine sv 84 (.tuple #[(.agg #[p72,q72,r72,s72]),(.int .i64 0)]) ?_
  refine sv 87 (.agg #[p72,q72,r72,s72]) ?_
  refine sv 88 (.int .i64 0) ?_
  refine se ?_
  refine ea 71 #[(.bool false),(.slice none 0 0),(.bool false),(.slice none 0 0)] 17 hB fun b73 w73 g73 L73 o73 q73 hB=>?_
  have q73_hC:=Nat.le_trans (Below.size hC) o73
  replace hC:=hC.trans g73
  simp only [p3,p4]
  refine se ?_
  have lo74:=L73
  refine es 71 0 (.agg #[p72,q72,r72,s72]) [p72,q72,r72,s72] #[p72,q72,r72,s72] L73 hB q73 ⟨h72.one0,h72.one1,h72.one2,h72.one3,trivial⟩ fun w74 st74 kp74 L73 hB=>?_
  replace hC:=st74.gr hC q73_hC
  refine sv 18 (.int .i64 0) ?_
  refine sq_nil ?_
  refine k71 _ _ ?_
  try clear k71 K71
  refine wp_seq_k (fun K75 k75=>?_)
  refine rg [0,1,2,3,4,5,6,7] ?_
  refine sv 90 u68 ?_
  refine se ?_
  refine ec 91 (mx_Determinant (K:=4899) (m:=(exm peb Zb zlb)) (by omega) (by omega) (by omega) hzy ((hs68.gr (stab_rw (stab_rat 64) 71 4) hC).ratrows (by omega))) ?_
  rintro e76 w76 ⟨⟨p76,q76,r76,s76,rfl,h76⟩,g76⟩
  refine ⟨_,rfl,?_⟩
  replace hB:=hB.trans g76
  replace hC:=hC.trans g76
  simp only [p3,p4]
  refine sv 89 (.tuple #[(.agg #[p76,q76,r76,s76]),(.int .i64 0)]) ?_
  refine sv 92 (.agg #[p76,q76,r76,s76]) ?_
  refine sv 93 (.int .i64 0) ?_
  refine se ?_
  refine ea 71 #[(.bool false),(.slice none 0 0),(.bool false),(.slice none 0 0)] 19 hB fun b77 w77 g77 L77 o77 q77 hB=>?_
  replace L73:=L73.gr g76
  have ne73_77:=L73.ne o77
  have q77_hC:=Nat.le_trans (Below.size hC) o77
  replace hC:=hC.trans g77
  simp only [p3,p4]
  refine se ?_
  have lo78:=L77
  refine es 71 0 (.agg #[p76,q76,r76,s76]) [p76,q76,r76,s76] #[p76,q76,r76,s76] L77 hB q77 ⟨h76.one0,h76.one1,h76.one2,h76.one3,trivial⟩ fun w78 st78 kp78 L77 hB=>?_
  replace hC:=st78.gr hC q77_hC
  refine sv 20 (.int .i64 0) ?_
  refine sq_nil ?_
  refine k75 _ _ ?_
  try clear k75 K75
  refine wp_seq_k (fun K79 k79=>?_)
  refine rg [0,1,2,3,4,5,6,7] ?_
  refine sv 95 u70 ?_
  refine se ?_
  refine ec 96 (mx_Determinant (K:=12279) (m:=(mul_ D (exm pea Za zla) (exm peb Zb zlb))) (by omega) (by omega) (by omega) hzp ((hs70.gr (stab_rw (stab_rat (64+D*(64+64+1))) 71 4) hC).ratrows (by omega))) ?_
  rintro e80 w80 ⟨⟨p80,q80,r80,s80,rfl,h80⟩,g80⟩
  refine ⟨_,rfl,?_⟩
  replace hB:=hB.trans g80
  replace hC:=hC.trans g80
  simp only [p3,p4]
  refine sv 94 (.tuple #[(.agg #[p80,q80,r80,s80]),(.int .i64 0)]) ?_
  refine sv 97 (.agg #[p80,q80,r80,s80]) ?_
  refine sv 98 (.int .i64 0) ?_
  refine se ?_
  refine ea 71 #[(.bool false),(.slice none 0 0),(.bool false),(.slice none 0 0)] 21 hB fun b81 w81 g81 L81 o81 q81 hB=>?_
  replace L73:=(st78.lc (L73.gr g77) ne73_77).gr g80
  have ne73_81:=L73.ne o81
  replace L77:=L77.gr g80
  have ne77_81:=L77.ne o81
  have q81_hC:=Nat.le_trans (Below.size hC) o81
  replace hC:=hC.trans g81
  simp only [p3,p4]
  refine se ?_
  have lo82:=L81
  refine es 71 0 (.agg #[p80,q80,r80,s80]) [p80,q80,r80,s80] #[p80,q80,r80,s80] L81 hB q81 ⟨h80.one0,h80.one1,h80.one2,h80.one3,trivial⟩ fun w82 st82 kp82 L81 hB=>?_
  replace hC:=st82.gr hC q81_hC
  refine sv 22 (.int .i64 0) ?_
  refine sq_nil ?_
  refine k79 _ _ ?_
  try clear k79 K79
  refine wp_seq_k (fun K83 k83=>?_)
  refine wp_seq_k (fun K84 k84=>?_)
  have gd94:=Gr.drew w82
  replace hB:=hB.trans gd94
  replace hC:=hC.trans gd94
  replace L73:=(st82.lc (L73.gr g81) ne73_81).gr gd94
  replace L77:=(st82.lc (L77.gr g81) ne77_81).gr gd94
  replace L81:=L81.gr gd94
  refine wp_region_ord (fun w'=>Lc w' b73 #[p72,q72,r72,s72] 71∧Lc w' b77 #[p76,q76,r76,s76] 71∧Lc w' b81 #[p80,q80,r80,s80] 71) [(true,0),(true,1),(true,2),(true,3),(true,4),(true,5),(true,6),(true,7),(true,8),(true,9),(true,10),(true,11),(true,12),(true,13),(true,14),(true,15),(true,16),(true,17),(false,18),(false,19),(true,20),(true,21)] (by kernel_rfl) (by kernel_rfl) (by kernel_rfl) (by decide) (fun _ _ _ _ _ h=>h) ⟨L73,L77,L81⟩ ?_
  refine ov 99 (.int .i64 0) ?_
  refine ov 100 (.bool false) ?_
  refine ov 101 (.bool false) ?_
  refine ov 102 (.int .i64 0) ?_
  refine ov 103 (.bool false) ?_
  refine ov 104 (.bool false) ?_
  refine ov 105 (.bool false) ?_
  refine ov 106 (.int .i64 0) ?_
  refine ov 107 (.bool false) ?_
  refine ov 108 (.bool false) ?_
  refine ov 109 (.bool false) ?_
  refine ov 110 (.int .i64 0) ?_
  refine ov 111 (.bool false) ?_
  refine ov 112 (.bool false) ?_
  refine ov 113 (.bool false) ?_
  refine ow 114 (.agg #[p80,q80,r80,s80]) rfl (fun w' hS=>(rl 71 0 [p80,q80,r80,s80] hS.2.2)) ?_
  refine ow 115 (.agg #[p72,q72,r72,s72]) rfl (fun w' hS=>(rl 71 0 [p72,q72,r72,s72] hS.1)) ?_
  refine ow 116 (.agg #[p76,q76,r76,s76]) rfl (fun w' hS=>(rl 71 0 [p76,q76,r76,s76] hS.2.1)) ?_
  refine oe ?_
  have kq97:=g73.kp.trans (kp74.trans (g76.kp.trans (g77.kp.trans (kp78.trans (g80.kp.trans (g81.kp.trans (kp82.trans gd94.kp)))))))
  replace h72:=h72.kp kq97
  have kq98:=g77.kp.trans (kp78.trans (g80.kp.trans (g81.kp.trans (kp82.trans gd94.kp))))
  replace h76:=h76.kp kq98
  refine ec 117 (mul_r h72 h76 (by omega)) ?_
  rintro e96 w96 ⟨⟨p96,q96,r96,s96,rfl,h96⟩,g96⟩
  refine ⟨_,rfl,?_⟩
  replace hB:=hB.trans g96
  replace hC:=hC.trans g96
  replace L73:=L73.gr g96
  replace L77:=L77.gr g96
  replace L81:=L81.gr g96
  refine ⟨⟨L73,L77,L81⟩,?_⟩
  simp only [p3,p4]
  refine oe ?_
  have kq101:=g81.kp.trans (kp82.trans (gd94.kp.trans g96.kp))
  replace h80:=h80.kp kq101
  refine ec 118 (compare_r h80 h96 (by omega)) ?_
  rintro e100 w100 ⟨rfl,g100⟩
  refine ⟨_,rfl,?_⟩
  replace hB:=hB.trans g100
  replace hC:=hC.trans g100
  replace L73:=L73.gr g100
  replace L77:=L77.gr g100
  replace L81:=L81.gr g100
  refine ⟨⟨L73,L77,L81⟩,?_⟩
  simp only [p3,p4]
  have hb102:((rcmp (dtE D (mul_ D (exm pea Za zla) (exm peb Zb zlb))) ((dtE D (exm pea Za zla))*(dtE D (exm peb Zb zlb))) !=(0:Int)))=false:=(by rw [dtE_mul,rcmp_self];rfl)
  refine ow 119 (.bool false) rfl (fun w' hS=>(RunV.bool (x:=(rcmp (dtE D (mul_ D (exm pea Za zla) (exm peb Zb zlb))) ((dtE D (exm pea Za zla))*(dtE D (exm peb Zb zlb))) !=(0:Int))) (rvk (by kernel_rfl)) hb102)) ?_
  refine ov 120 (.bool false) ?_
  refine ord_nil ?_
  refine k84 _ _ ?_
  try clear k84 K84
  refine wp_cond_false rfl ?_
  refine wp_skip ?_
  refine k83 _ _ ?_
  try clear k83 K83
  refine wp_seq_k (fun K103 k103=>?_)
  refine wp_seq_k (fun K104 k104=>?_)
  refine rg [0,1] ?_
  refine sv 121 (.int .i64 ((D:Int))) ?_
  refine sv 122 (.bool (decide ((1:Int)<(D:Int)))) ?_
  refine sq_nil ?_
  refine k104 _ _ ?_
  try clear k104 K104
  refine wp_cond_split (t:=decide ((1:Int)<(D:Int))) rfl (fun hb105=>?_) (fun hb105=>?_)
  ·have hD1:1<D:=by have:=of_decide_eq_true hb105;omega
   refine wp_seq_k (fun K106 k106=>?_)
   have lehF:=Below.size hB
   have lehF_hC:=Below.size hC
   have hF:=Gr.refl w100
   have kq107:=g96.kp.trans g100.kp
   replace h72:=h72.kp kq107
   obtain ⟨_,_,⟨u115,rfl,hr115⟩,at115⟩:=Sl.get hs67 (by decide) (tb_get (f:=(fun z0=>tb (fun z1=>((exm pea Za zla) z0 z1)) D)) (n:=D) (i:=1) (by omega))
   obtain ⟨_,_,⟨u116,rfl,hr116⟩,at116⟩:=Sl.get hs67 (by decide) (tb_get (f:=(fun z0=>tb (fun z1=>((exm pea Za zla) z0 z1)) D)) (n:=D) (i:=0) (by omega))
   have gd117:=Gr.drew w100
   replace hB:=hB.trans gd117
   replace hC:=hC.trans gd117
   replace hF:=hF.trans gd117
   refine wp_region_ord (fun w'=>AtV w' u67 (1*1) [u115]∧AtV w' u67 (0*1) [u116]) [(true,0),(true,1),(true,2),(true,3),(true,4),(true,5),(true,7),(true,8),(false,6),(false,9),(true,10)] (by kernel_rfl) (by kernel_rfl) (by kernel_rfl) (by decide) (fun _ _ _ _ _ h=>h) ⟨(at115.gr hC),(at116.gr hC)⟩ ?_
   refine ov 123 u67 ?_
   refine ow 124 (adr u67 (1*1)) rfl (fun w' hS=>(rv_idxn (e:=49) hs67 tb_len (by decide) 1 (by omega) _ _ _ rfl rfl rfl (by kernel_rfl) (by kernel_rfl))) ?_
   refine ow 125 u115 rfl (fun w' hS=>(rv_ld1 u115 hS.1 _ _ rfl rfl (by kernel_rfl))) ?_
   refine ov 126 u67 ?_
   refine ow 127 (adr u67 (0*1)) rfl (fun w' hS=>(rv_idxn (e:=49) hs67 tb_len (by decide) 0 (by omega) _ _ _ rfl rfl rfl (by kernel_rfl) (by kernel_rfl))) ?_
   refine ow 128 u116 rfl (fun w' hS=>(rv_ld1 u116 hS.2 _ _ rfl rfl (by kernel_rfl))) ?_
   refine ov 130 u67 ?_
   have hs118:=hs67.subt (show 2≤D by omega) (show D≤D by omega)
   refine ow 131 (subv u67 2 D 1) rfl (fun w' hS=>(rv_subt (e:=49) hs67 2 D (by omega) (by omega) _ _ _ _ rfl rfl (.inr rfl) (.inl ⟨rfl,rfl⟩) (by kernel_rfl) (by kernel_rfl))) ?_
   refine oe ?_
   refine eff_bs2 29 49 u115 u116 (some 129) rfl rfl rfl rfl (hr115.gr (stab_rat 64) hC).forms (hr116.gr (stab_rat 64) hC).forms (fun _ _ _ _ _ _ _=>by kernel_rfl) (fun b120 w120 g120 L120 q120=>?_)
   replace L73:=L73.gr gd117
   have q120_hC:=Nat.le_trans (Below.size hC) q120
   have q120_hF:=Nat.le_trans (Below.size hF) q120
   replace hB:=hB.trans g120
   replace hC:=hC.trans g120
   replace hF:=hF.trans g120
   refine ⟨⟨(at115.gr hC),(at116.gr hC)⟩,?_⟩
   simp only [putl,p3,p4]
   refine oe ?_
   have oq122:=ow_two L120 (hr115.gr (stab_rat 64) hC) (hr116.gr (stab_rat 64) hC) q120_hF
   refine eff_aps (stab_rw (stab_rat 64) 71 4) _ _ 29 49 w100.heap.size 49 (.slice none 0 0) (.slice (some ⟨b120,0,none⟩) 2 2) [(tb (fun z1=>((exm pea Za zla) 1 z1)) D),(tb (fun z1=>((exm pea Za zla) 0 z1)) D)] (subv u67 2 D 1) (tb (fun z3=>(fun z0=>tb (fun z1=>((exm pea Za zla) z0 z1)) D) (2+z3)) (D - 2)) 1 (some 132) 24 rfl rfl rfl rfl oq122 (hs118.gr (stab_rw (stab_rat 64) 71 4) hC) (one_rw _) (Below.size hF) (by simp only [List.length_cons,List.length_nil,tb_len];omega) (by decide) (by kernel_rfl) (by kernel_rfl) (by decide) (by decide) (fun v123 w123 ow123 wt123 hg123 ag123=>?_)
   replace hB:=hg123 _ hB lehF
   replace hC:=hg123 _ hC lehF_hC
   replace hF:=hg123 _ hF (Nat.le_refl _)
   replace ow123:=ow123.cast (tb_swp (m:=(exm pea Za zla)) (by omega))
   refine ⟨⟨(at115.gr hC),(at116.gr hC)⟩,?_⟩
   simp only [putl,p3,p4]
   refine ov 23 v123 ?_
   refine ord_nil ?_
   refine k106 _ _ ?_
   try clear k106 K106
   refine wp_seq_k (fun K124 k124=>?_)
   refine rg [0,1,2,3,4,5,6,7] ?_
   refine sv 134 v123 ?_
   refine se ?_
   refine ec 135 (mx_Determinant (K:=4899) (m:=(swp (exm pea Za zla) 0 1)) (by omega) (by omega) (by omega) hzs ((ow123.sl).ratrows (by omega))) ?_
   rintro e125 w125 ⟨⟨p125,q125,r125,s125,rfl,h125⟩,g125⟩
   refine ⟨_,rfl,?_⟩
   replace hB:=hB.trans g125
   replace hC:=hC.trans g125
   replace hF:=hF.trans g125
   simp only [p3,p4]
   refine sv 133 (.tuple #[(.agg #[p125,q125,r125,s125]),(.int .i64 0)]) ?_
   refine sv 136 (.agg #[p125,q125,r125,s125]) ?_
   refine sv 137 (.int .i64 0) ?_
   refine se ?_
   refine ea 71 #[(.bool false),(.slice none 0 0),(.bool false),(.slice none 0 0)] 24 hB fun b126 w126 g126 L126 o126 q126 hB=>?_
   replace L73:=(wt123.lc (L73.gr g120) (by decide)).gr g125
   have ne73_126:=L73.ne o126
   have q126_hC:=Nat.le_trans (Below.size hC) o126
   have q126_hF:=Nat.le_trans (Below.size hF) o126
   replace hC:=hC.trans g126
   replace hF:=hF.trans g126
   simp only [p3,p4]
   refine se ?_
   have lo127:=L126
   refine es 71 0 (.agg #[p125,q125,r125,s125]) [p125,q125,r125,s125] #[p125,q125,r125,s125] L126 hB q126 ⟨h125.one0,h125.one1,h125.one2,h125.one3,trivial⟩ fun w127 st127 kp127 L126 hB=>?_
   replace hC:=st127.gr hC q126_hC
   replace hF:=st127.gr hF q126_hF
   refine sv 25 (.int .i64 0) ?_
   refine sq_nil ?_
   refine k124 _ _ ?_
   try clear k124 K124
   refine wp_seq_k (fun K128 k128=>?_)
   have gd136:=Gr.drew w127
   replace hB:=hB.trans gd136
   replace hC:=hC.trans gd136
   replace hF:=hF.trans gd136
   replace L73:=(st127.lc (L73.gr g126) ne73_126).gr gd136
   replace L126:=L126.gr gd136
   refine wp_region_ord (fun w'=>Lc w' b73 #[p72,q72,r72,s72] 71∧Lc w' b126 #[p125,q125,r125,s125] 71) [(true,0),(true,1),(true,2),(true,3),(true,4),(false,5),(false,6),(true,7),(true,8)] (by kernel_rfl) (by kernel_rfl) (by kernel_rfl) (by decide) (fun _ _ _ _ _ h=>h) ⟨L73,L126⟩ ?_
   refine ov 138 (.int .i64 0) ?_
   refine ov 139 (.bool false) ?_
   refine ov 140 (.bool false) ?_
   refine ow 141 (.agg #[p125,q125,r125,s125]) rfl (fun w' hS=>(rl 71 0 [p125,q125,r125,s125] hS.2)) ?_
   refine ow 142 (.agg #[p72,q72,r72,s72]) rfl (fun w' hS=>(rl 71 0 [p72,q72,r72,s72] hS.1)) ?_
   refine oe ?_
   refine ec 143 (neg_r (h72.kp hF.kp)) ?_
   rintro e138 w138 ⟨⟨p138,q138,r138,s138,rfl,h138⟩,g138⟩
   refine ⟨_,rfl,?_⟩
   replace hB:=hB.trans g138
   replace hC:=hC.trans g138
   replace hF:=hF.trans g138
   replace L73:=L73.gr g138
   replace L126:=L126.gr g138
   refine ⟨⟨L73,L126⟩,?_⟩
   simp only [p3,p4]
   refine oe ?_
   have kq141:=g126.kp.trans (kp127.trans (gd136.kp.trans g138.kp))
   replace h125:=h125.kp kq141
   refine ec 144 (compare_r h125 h138 (by omega)) ?_
   rintro e140 w140 ⟨rfl,g140⟩
   refine ⟨_,rfl,?_⟩
   replace hB:=hB.trans g140
   replace hC:=hC.trans g140
   replace hF:=hF.trans g140
   replace L73:=L73.gr g140
   replace L126:=L126.gr g140
   refine ⟨⟨L73,L126⟩,?_⟩
   simp only [p3,p4]
   have hb142:((rcmp (dtE D (swp (exm pea Za zla) 0 1)) (-(dtE D (exm pea Za zla))) !=(0:Int)))=false:=(by rw [dtE_swp D _ (by omega) (by omega) (by decide),rcmp_self];rfl)
   refine ow 145 (.bool false) rfl (fun w' hS=>(RunV.bool (x:=(rcmp (dtE D (swp (exm pea Za zla) 0 1)) (-(dtE D (exm pea Za zla))) !=(0:Int))) (rvk (by kernel_rfl)) hb142)) ?_
   refine ov 146 (.bool false) ?_
   refine ord_nil ?_
   refine k128 _ _ ?_
   try clear k128 K128
   refine wp_cond_false rfl ?_
   refine wp_skip ?_
   refine k103 _ _ ?_
   try clear k103 K103
   refine wp_seq_k (fun K143 k143=>?_)
   refine rg [0,1,2,3,4,5,6] ?_
   refine sv 148 u67 ?_
   refine se ?_
   refine ec 149 (mx_Inverse_s (K:=4899) (m:=(exm pea Za zla)) (by omega) (by omega) (by omega) (rs_all (P:=5) ⟨8,3,8,3,1⟩ (fun i hi k hk=>wid_z (by decide) (by decide) (fun i _ k _=>exm_z hsa i k) i hi k (by omega)) (fun i hi k _ hk=>wid_z (by decide) (by decide) (fun i _ k _=>exm_z hsa i k) i hi k hk) (Nat.le_refl _) (.inl (by omega)) (by decide)) hf ((hs67.gr (stab_rw (stab_rat 64) 71 4) hC).ratrows (by omega))) ?_
   rintro e144 w144 ⟨rfl,g144⟩
   refine ⟨_,rfl,?_⟩
   replace hB:=hB.trans g144
   replace hC:=hC.trans g144
   replace hF:=hF.trans g144
   simp only [p3,p4]
   refine sv 147 (.tuple #[(.slice none 0 0),(.int .i64 20)]) ?_
   refine sv 150 (.slice none 0 0) ?_
   refine sv 151 (.int .i64 20) ?_
   refine sv 26 (.slice none 0 0) ?_
   refine sv 27 (.int .i64 20) ?_
   refine sq_nil ?_
   refine k143 _ _ ?_
   try clear k143 K143
   refine wp_seq_k (fun K145 k145=>?_)
   refine wp_seq_k (fun K146 k146=>?_)
   refine rg [0,1,2] ?_
   replace L73:=L73.gr g144
   refine sw 152 (.agg #[p72,q72,r72,s72]) rfl (rl 71 0 [p72,q72,r72,s72] L73) ?_
   refine se ?_
   refine ec 153 (sign_r (h72.kp hF.kp)) ?_
   rintro e147 w147 ⟨rfl,g147⟩
   refine ⟨_,rfl,?_⟩
   replace hB:=hB.trans g147
   replace hC:=hC.trans g147
   replace hF:=hF.trans g147
   simp only [p3,p4]
   have hb148:((sgn ((dtE D (exm pea Za zla))).num==(0:Int)))=true:=(sgn_t (dtE_zero.2 hf))
   refine sw 154 (.bool true) rfl (RunV.bool (x:=(sgn ((dtE D (exm pea Za zla))).num==(0:Int))) (rvk (by kernel_rfl)) hb148) ?_
   refine sq_nil ?_
   refine k146 _ _ ?_
   try clear k146 K146
   refine wp_cond_true rfl ?_
   refine wp_seq_k (fun K149 k149=>?_)
   refine rg [0,1,2] ?_
   refine sv 155 (.int .i64 20) ?_
   refine sv 156 (.bool true) ?_
   refine sv 6 (.bool true) ?_
   refine sq_nil ?_
   refine k149 _ _ ?_
   try clear k149 K149
   refine wp_ret ?_
   simp only [Exit.then]
   refine bodyPost_ret (v:=(.bool true)) (ret_tmp rfl rfl) rfl ⟨?_,hB⟩
   exact rfl
  ·refine wp_skip ?_
   refine k103 _ _ ?_
   try clear k103 K103
   refine wp_seq_k (fun K150 k150=>?_)
   refine rg [0,1,2,3,4,5,6] ?_
   refine sv 148 u67 ?_
   refine se ?_
   refine ec 149 (mx_Inverse_s (K:=4899) (m:=(exm pea Za zla)) (by omega) (by omega) (by omega) (rs_all (P:=5) ⟨8,3,8,3,1⟩ (fun i hi k hk=>wid_z (by decide) (by decide) (fun i _ k _=>exm_z hsa i k) i hi k (by omega)) (fun i hi k _ hk=>wid_z (by decide) (by decide) (fun i _ k _=>exm_z hsa i k) i hi k hk) (Nat.le_refl _) (.inl (by omega)) (by decide)) hf ((hs67.gr (stab_rw (stab_rat 64) 71 4) hC).ratrows (by omega))) ?_
   rintro e151 w151 ⟨rfl,g151⟩
   refine ⟨_,rfl,?_⟩
   replace hB:=hB.trans g151
   replace hC:=hC.trans g151
   simp only [p3,p4]
   refine sv 147 (.tuple #[(.slice none 0 0),(.int .i64 20)]) ?_
   refine sv 150 (.slice none 0 0) ?_
   refine sv 151 (.int .i64 20) ?_
   refine sv 26 (.slice none 0 0) ?_
   refine sv 27 (.int .i64 20) ?_
   refine sq_nil ?_
   refine k150 _ _ ?_
   try clear k150 K150
   refine wp_seq_k (fun K152 k152=>?_)
   refine wp_seq_k (fun K153 k153=>?_)
   refine rg [0,1,2] ?_
   replace L73:=L73.gr g151
   refine sw 152 (.agg #[p72,q72,r72,s72]) rfl (rl 71 0 [p72,q72,r72,s72] L73) ?_
   refine se ?_
   have kq155:=g96.kp.trans (g100.kp.trans g151.kp)
   replace h72:=h72.kp kq155
   refine ec 153 (sign_r h72) ?_
   rintro e154 w154 ⟨rfl,g154⟩
   refine ⟨_,rfl,?_⟩
   replace hB:=hB.trans g154
   replace hC:=hC.trans g154
   simp only [p3,p4]
   have hb156:((sgn ((dtE D (exm pea Za zla))).num==(0:Int)))=true:=(sgn_t (dtE_zero.2 hf))
   refine sw 154 (.bool true) rfl (RunV.bool (x:=(sgn ((dtE D (exm pea Za zla))).num==(0:Int))) (rvk (by kernel_rfl)) hb156) ?_
   refine sq_nil ?_
   refine k153 _ _ ?_
   try clear k153 K153
   refine wp_cond_true rfl ?_
   refine wp_seq_k (fun K157 k157=>?_)
   refine rg [0,1,2] ?_
   refine sv 155 (.int .i64 20) ?_
   refine sv 156 (.bool true) ?_
   refine sv 6 (.bool true) ?_
   refine sq_nil ?_
   refine k157 _ _ ?_
   try clear k157 K157
   refine wp_ret ?_
   simp only [Exit.then]
   refine bodyPost_ret (v:=(.bool true)) (ret_tmp rfl rfl) rfl ⟨?_,hB⟩
   exact rfl

set_option maxRecDepth 100000 in
set_option maxHeartbeats 1000000 in
theorem md_y {D nn ca cb TQa TQb Za Zb:Nat} {va vb:Value} {pea peb:Nat→Nat→Int × Int} {zla zlb:Nat→Nat} (_hD:D=nn % 5) (_hn5:nn≤255) (hf:¬ pl D (wid D (exm pea Za zla)) D<D) {w:World} (hm:Mx w) (ht:Tab w) (hsa:Sl (ESl EEn 2) TQa 1 w va (tb (fun z0=>tb (pea z0) (zla z0)) Za)) (hsb:Sl (ESl EEn 2) TQb 1 w vb (tb (fun z0=>tb (peb z0) (zlb z0)) Zb)):
    Calls Tryz.prog 11 #[(.agg #[(.int .u8 ((ca:Int))),va]),(.agg #[(.int .u8 ((cb:Int))),vb]),(.int .u8 ((nn:Int)))] w fun e w'=>e=.returned (.bool true)∧Gr w w':=by
 have hzx:∀ k,k≤D→RdZ D D 4899 (rs D (exm pea Za zla) k):=rs_sm (fun i _ k _=>exm_z hsa i k) (.inl (by omega)) (Nat.le_refl _)
 have hzy:∀ k,k≤D→RdZ D D 4899 (rs D (exm peb Zb zlb) k):=rs_sm (fun i _ k _=>exm_z hsb i k) (.inl (by omega)) (Nat.le_refl _)
 have hzs:∀ k,k≤D→RdZ D D 4899 (rs D (swp (exm pea Za zla) 0 1) k):=rs_sm (fun i _ k _=>swp_z (exm_z hsa) i k) (.inl (by omega)) (Nat.le_refl _)
 have hmz:∀ i,i<D→∀ k,k<D→RZ 93 25 ((mul_ D (exm pea Za zla) (exm peb Zb zlb)) i k):=fun i hi k hk=>(mul_z (S:=D) (fun i _ k _=>exm_z hsa i k) (fun i _ k _=>exm_z hsb i k) i hi k hk).mono (by omega) (by omega)
 have hzp:∀ k,k≤D→RdZ D D 12279 (rs D (mul_ D (exm pea Za zla) (exm peb Zb zlb)) k):=rs_all (P:=4) ⟨93,25,93,25,1⟩ hmz (fun i _ k h1 h2=>absurd h1 (by omega)) (Nat.le_refl _) (.inl (by omega)) (by decide)
 go_enter Tryz.func11,Tryz.ntmps11
 have hB:=Gr.refl w
 refine wp_seq_k (fun K10 k10=>?_)
 refine rg [0,1,2] ?_
 refine se ?_
 refine eb 24 #[(.int .u8 ((ca:Int))),va] 3 hB fun b11 w11 g11 L11 o11 q11 hB=>?_
 simp only [p3,p4]
 refine se ?_
 refine eb 24 #[(.int .u8 ((cb:Int))),vb] 4 hB fun b12 w12 g12 L12 o12 q12 hB=>?_
 simp only [p3,p4]
 refine sv 6 (.bool false) ?_
 refine sq_nil ?_
 refine k10 _ _ ?_
 try clear k10 K10
 refine wp_seq_k (fun K13 k13=>?_)
 refine wp_seq_k (fun K14 k14=>?_)
 refine rg [0,1] ?_
 refine se ?_
 refine ec 32 (l5_known _ (hm.gr hB) (ht.gr hB)) ?_
 rintro e15 w15 ⟨rfl,g15⟩
 refine ⟨_,rfl,?_⟩
 replace hB:=hB.trans g15
 simp only [p3,p4]
 refine sv 33 (.bool false) ?_
 refine sq_nil ?_
 refine k14 _ _ ?_
 try clear k14 K14
 refine wp_cond_false rfl ?_
 refine wp_skip ?_
 refine k13 _ _ ?_
 try clear k13 K13
 refine wp_seq_k (fun K16 k16=>?_)
 refine rg [0,1,2,3] ?_
 refine sv 34 (.int .u8 ((nn:Int))) ?_
 refine sw 35 (.int .u8 ((D:Int))) rfl (RunV.int (x:=Int.tmod (nn:Int) 5) (y:=(D:Int)) (rvk (by kernel_rfl)) (by rw [Int.tmod_eq_emod_of_nonneg (Int.natCast_nonneg _)];omega)) ?_
 refine sw 36 (.int .i64 ((D:Int))) rfl (RunV.int (x:=IntKind.i64.wrap ((D:Int))) (y:=(D:Int)) (rvk (by kernel_rfl)) (by first | rfl | (rw [IntKind.wrap_i64];omega))) ?_
 refine sv 7 (.int .i64 ((D:Int))) ?_
 refine sq_nil ?_
 refine k16 _ _ ?_
 try clear k16 K16
 refine wp_seq_k (fun K17 k17=>?_)
 refine rg [0,1] ?_
 refine sv 8 (.slice none 0 0) ?_
 refine sv 9 (.slice none 0 0) ?_
 refine sq_nil ?_
 refine k17 _ _ ?_
 try clear k17 K17
 refine wp_seq_k (fun K18 k18=>?_)
 refine wp_seq_k (fun K19 k19=>?_)
 refine rg [0] ?_
 refine sv 10 (.int .i64 0) ?_
 refine sq_nil ?_
 refine k19 _ _ ?_
 try clear k19 K19
 refine wp_block ?_
 replace L11:=L11.gr (g12.trans g15)
 replace L12:=L12.gr g15
 refine wp_loop_inv (a:=⟨List.toArray ?l20,[]⟩) (fun n a w'=>∃ (i:Nat) (vx:Value) (vy:Value) (u20:Nat→Value),D - i=n∧a=⟨[(.agg #[(.int .u8 ((ca:Int))),va]),(.agg #[(.int .u8 ((cb:Int))),vb]),(.int .u8 ((nn:Int))),(.pointer (some ⟨b11,0,none⟩)),(.pointer (some ⟨b12,0,none⟩)),undef,(.bool false),(.int .i64 ((D:Int))),vx,vy,(.int .i64 ((i:Int))),(u20 11),(u20 12),undef,undef,undef,undef,undef,undef,undef,undef,undef,undef,undef,undef,undef,undef,undef,undef,undef,undef,undef,(u20 32),(.bool false),(u20 34),(u20 35),(u20 36),(u20 37),(u20 38),(u20 39),(u20 40),(u20 41),(u20 42),(u20 43),(u20 44),(u20 45),(u20 46),(u20 47),(u20 48),(u20 49),(u20 50),(u20 51),(u20 52),(u20 53),(u20 54),(u20 55),(u20 56),(u20 57),(u20 58),(u20 59),(u20 60),(u20 61),(u20 62),(u20 63),(u20 64),(u20 65),(u20 66),(u20 67),(u20 68),(u20 69),(u20 70),(u20 71),(u20 72),(u20 73),undef,undef,undef,undef,undef,undef,undef,undef,undef,undef,undef,undef,undef,undef,undef,undef,undef,undef,undef,undef,undef,undef,undef,undef,undef,undef,undef,undef,undef,undef,undef,undef,undef,undef,undef,undef,undef,undef,undef,undef,undef,undef,undef,undef,undef,undef,undef,undef,undef,undef,undef,undef,undef,undef,undef,undef,undef,undef,undef,undef,undef,undef,undef,undef,undef,undef,undef,undef,undef,undef,undef,undef,undef,undef,undef,undef,undef,undef,undef,undef,undef,undef,undef,undef,undef,undef,undef,undef,undef,undef,undef,undef,undef,undef,undef,undef,undef,undef,undef,undef,undef,undef,undef,undef,undef,undef,undef,undef,undef].toArray,[]⟩∧i≤D∧Dj vx vy∧Ow (ERw EFr 84 2) 51 1 w' w.heap.size vx (tb (fun z0=>tb (fun z1=>((exm pea Za zla) z0 z1)) D) i)∧Ow (ERw EFr 84 2) 51 1 w' w.heap.size vy (tb (fun z0=>tb (fun z1=>((exm peb Zb zlb) z0 z1)) D) i)∧Lc w' b11 #[(.int .u8 ((ca:Int))),va] 24∧Lc w' b12 #[(.int .u8 ((cb:Int))),vb] 24∧Gr w w') (D - 0) ?_ ?_
 ·exact ⟨0,(.slice none 0 0),(.slice none 0 0),(fun i=>List.getD ?l20 i undef),rfl,rfl,(Nat.zero_le _),(Dj.nil _),(Ow.nil _ _ _ _ _),(Ow.nil _ _ _ _ _),L11,L12,hB⟩
 rintro n20 a20 w20 ⟨i,vx,vy,u20,rfl,rfl,hki,hdj,ox,oy,L11,L12,hB⟩ K20 k20
 refine wp_seq_k (fun K21 k21=>?_)
 refine wp_seq_k (fun K22 k22=>?_)
 refine rg [0,1,2] ?_
 refine sv 37 (.int .i64 ((i:Int))) ?_
 refine sv 38 (.int .i64 ((D:Int))) ?_
 refine sv 39 (.bool (decide ((i:Int)<(D:Int)))) ?_
 refine sq_nil ?_
 refine k22 _ _ ?_
 try clear k22 K22
 refine wp_cond_split (t:=decide ((i:Int)<(D:Int))) rfl (fun hb23=>?_) (fun hb23=>?_)
 ·have hli:i<D:=by have:=of_decide_eq_true hb23;omega
  refine wp_skip ?_
  refine k21 _ _ ?_
  try clear k21 K21
  refine wp_seq_k (fun K24 k24=>?_)
  refine wp_block ?_
  refine wp_seq_k (fun K25 k25=>?_)
  refine rg [0,1] ?_
  refine sv 11 (.slice none 0 0) ?_
  refine sv 12 (.slice none 0 0) ?_
  refine sq_nil ?_
  refine k25 _ _ ?_
  try clear k25 K25
  refine wp_seq_k (fun K26 k26=>?_)
  refine wp_seq_k (fun K27 k27=>?_)
  refine rg [0,1,2,3,4] ?_
  refine sv 42 (.int .i64 ((i:Int))) ?_
  refine sv 43 (.pointer (some ⟨b11,1,none⟩)) ?_
  refine sw 44 va rfl (rk 22 1 L11) ?_
  refine sw 45 (.int .i64 ((Za:Int))) rfl (rv_lenn (e:=45) hsa (tb_lenz rfl) _ _ rfl rfl (by kernel_rfl)) ?_
  refine sv 46 (.bool (decide ((i:Int)<(Za:Int)))) ?_
  refine sq_nil ?_
  refine k27 _ _ ?_
  try clear k27 K27
  refine wp_cond_split (t:=decide ((i:Int)<(Za:Int))) rfl (fun hb28=>?_) (fun hb28=>?_)
  ·have ha:i<Za:=by have:=of_decide_eq_true hb28;omega
   refine rg [0,1,2,3,4,5] ?_
   refine sv 47 (.pointer (some ⟨b11,1,none⟩)) ?_
   refine sw 48 va rfl (rk 22 1 L11) ?_
   refine sv 49 (.int .i64 ((i:Int))) ?_
   refine sw 50 (adr va (i*1)) rfl (rv_idxn (e:=45) hsa tb_len (by decide) i (by omega) _ _ _ rfl rfl rfl (by kernel_rfl) (by kernel_rfl)) ?_
   obtain ⟨_,_,⟨u29,TT29,rfl,hr29⟩,at29⟩:=Sl.get hsa (by decide) (tb_get (f:=(fun z0=>tb (pea z0) (zla z0))) (n:=Za) (i:=i) (by omega))
   refine sw 51 u29 rfl (rv_ld1 u29 (at29.gr hB) _ _ rfl rfl (by kernel_rfl)) ?_
   refine sv 11 u29 ?_
   refine sq_nil ?_
   refine k26 _ _ ?_
   try clear k26 K26
   refine wp_seq_k (fun K30 k30=>?_)
   refine wp_seq_k (fun K31 k31=>?_)
   refine rg [0,1,2,3,4] ?_
   refine sv 52 (.int .i64 ((i:Int))) ?_
   refine sv 53 (.pointer (some ⟨b12,1,none⟩)) ?_
   refine sw 54 vb rfl (rk 22 1 L12) ?_
   refine sw 55 (.int .i64 ((Zb:Int))) rfl (rv_lenn (e:=45) hsb (tb_lenz rfl) _ _ rfl rfl (by kernel_rfl)) ?_
   refine sv 56 (.bool (decide ((i:Int)<(Zb:Int)))) ?_
   refine sq_nil ?_
   refine k31 _ _ ?_
   try clear k31 K31
   refine wp_cond_split (t:=decide ((i:Int)<(Zb:Int))) rfl (fun hb32=>?_) (fun hb32=>?_)
   ·have hb:i<Zb:=by have:=of_decide_eq_true hb32;omega
    refine rg [0,1,2,3,4,5] ?_
    refine sv 57 (.pointer (some ⟨b12,1,none⟩)) ?_
    refine sw 58 vb rfl (rk 22 1 L12) ?_
    refine sv 59 (.int .i64 ((i:Int))) ?_
    refine sw 60 (adr vb (i*1)) rfl (rv_idxn (e:=45) hsb tb_len (by decide) i (by omega) _ _ _ rfl rfl rfl (by kernel_rfl) (by kernel_rfl)) ?_
    obtain ⟨_,_,⟨u33,TT33,rfl,hr33⟩,at33⟩:=Sl.get hsb (by decide) (tb_get (f:=(fun z0=>tb (peb z0) (zlb z0))) (n:=Zb) (i:=i) (by omega))
    refine sw 61 u33 rfl (rv_ld1 u33 (at33.gr hB) _ _ rfl rfl (by kernel_rfl)) ?_
    refine sv 12 u33 ?_
    refine sq_nil ?_
    refine k30 _ _ ?_
    try clear k30 K30
    refine rg [0,1,2,3,4,5,6,7,8,9,10,11,12,13] ?_
    refine sv 62 vx ?_
    refine sv 63 u29 ?_
    refine sv 64 (.int .i64 ((D:Int))) ?_
    refine se ?_
    refine ec 65 (l5_line D (by omega) (hr29.gr stab_en hB)) ?_
    rintro e34 w34 ⟨⟨u34,rfl,hs34⟩,g34⟩
    refine ⟨_,rfl,?_⟩
    replace hB:=hB.trans g34
    simp only [p3,p4]
    refine se ?_
    refine eff_bs1 26 51 u34 (some 66) rfl rfl rfl hs34.forms (fun _ _ _ _=>by kernel_rfl) (fun b35 w35 g35 L35 q35=>?_)
    replace L11:=L11.gr g34
    replace L12:=L12.gr g34
    replace hB:=hB.trans g35
    simp only [putl,p3,p4]
    refine se ?_
    replace hs34:=hs34.gr stab_fr g35
    replace ox:=ox.gr (stab_rw stab_fr 84 2) (g34.trans g35)
    replace oy:=oy.gr (stab_rw stab_fr 84 2) (g34.trans g35)
    refine eff_apo (stab_rw stab_fr 84 2) (stab_rw stab_fr 84 2) _ _ 26 51 w.heap.size (.slice none 0 0) vx (tb (fun z0=>tb (fun z1=>((exm pea Za zla) z0 z1)) D) i) b35 [u34] (tb (fun z1=>(en (pea i) (zla i) z1)) D) 1 1 (some 67) 24 rfl rfl rfl rfl ox L35 ⟨hs34.one,trivial⟩ rfl ⟨_,rfl,hs34⟩ (Below.size hB) (by rw [tb_len];omega) (by decide) (by kernel_rfl) (by kernel_rfl) (by decide) (by decide) (by decide) oy hdj.symm (fun v36 w36 ow36 wt36 hg36 oo36 dj36=>?_)
    replace hB:=hg36 _ hB (Nat.le_refl _)
    replace ow36:=ow36.cast (tb_snoc (f:=(fun z0=>tb (fun z1=>((exm pea Za zla) z0 z1)) D)) (n:=i) (by unfold exm;rw [dl_in ha]))
    simp only [putl,p3,p4]
    refine sv 68 vy ?_
    refine sv 69 u33 ?_
    refine sv 70 (.int .i64 ((D:Int))) ?_
    refine se ?_
    refine ec 71 (l5_line D (by omega) (hr33.gr stab_en hB)) ?_
    rintro e37 w37 ⟨⟨u37,rfl,hs37⟩,g37⟩
    refine ⟨_,rfl,?_⟩
    replace hB:=hB.trans g37
    simp only [p3,p4]
    refine se ?_
    refine eff_bs1 26 51 u37 (some 72) rfl rfl rfl hs37.forms (fun _ _ _ _=>by kernel_rfl) (fun b38 w38 g38 L38 q38=>?_)
    replace L11:=(wt36.lc (L11.gr g35) (by decide)).gr g37
    replace L12:=(wt36.lc (L12.gr g35) (by decide)).gr g37
    replace hB:=hB.trans g38
    simp only [putl,p3,p4]
    refine se ?_
    replace hs37:=hs37.gr stab_fr g38
    replace oo36:=oo36.gr (stab_rw stab_fr 84 2) (g37.trans g38)
    replace ow36:=ow36.gr (stab_rw stab_fr 84 2) (g37.trans g38)
    refine eff_apo (stab_rw stab_fr 84 2) (stab_rw stab_fr 84 2) _ _ 26 51 w.heap.size (.slice none 0 0) vy (tb (fun z0=>tb (fun z1=>((exm peb Zb zlb) z0 z1)) D) i) b38 [u37] (tb (fun z1=>(en (peb i) (zlb i) z1)) D) 1 1 (some 73) 24 rfl rfl rfl rfl oo36 L38 ⟨hs37.one,trivial⟩ rfl ⟨_,rfl,hs37⟩ (Below.size hB) (by rw [tb_len];omega) (by decide) (by kernel_rfl) (by kernel_rfl) (by decide) (by decide) (by decide) ow36 dj36.symm (fun v39 w39 ow39 wt39 hg39 oo39 dj39=>?_)
    replace hB:=hg39 _ hB (Nat.le_refl _)
    replace ow39:=ow39.cast (tb_snoc (f:=(fun z0=>tb (fun z1=>((exm peb Zb zlb) z0 z1)) D)) (n:=i) (by unfold exm;rw [dl_in hb]))
    simp only [putl,p3,p4]
    refine sv 8 v36 ?_
    refine sv 9 v39 ?_
    refine sq_nil ?_
    refine k24 _ _ ?_
    try clear k24 K24
    refine rg [0,1,2] ?_
    refine sv 40 (.int .i64 ((i:Int))) ?_
    refine sw 41 (.int .i64 (((i:Int)+1))) rfl (RunV.int (x:=IntKind.i64.wrap (((i:Int)+1))) (y:=((i:Int)+1)) (rvk (by kernel_rfl)) (by first | rfl | (rw [IntKind.wrap_i64];omega))) ?_
    refine sv 10 (.int .i64 (((i:Int)+1))) ?_
    refine sq_nil ?_
    replace L11:=wt39.lc (L11.gr g38) (by decide)
    replace L12:=wt39.lc (L12.gr g38) (by decide)
    refine k20 (D - (i+1)) ⟨List.toArray ?l40,[]⟩ _ (by omega) ?_
    exact ⟨i+1,v36,v39,(fun i=>List.getD ?l40 i undef),rfl,rfl,(by omega),dj39,oo39,ow39,L11,L12,hB⟩
   ·have hb:¬ i<Zb:=by have:=of_decide_eq_false hb32;omega
    refine wp_skip ?_
    refine k30 _ _ ?_
    try clear k30 K30
    refine rg [0,1,2,3,4,5,6,7,8,9,10,11,12,13] ?_
    refine sv 62 vx ?_
    refine sv 63 u29 ?_
    refine sv 64 (.int .i64 ((D:Int))) ?_
    refine se ?_
    refine ec 65 (l5_line D (by omega) (hr29.gr stab_en hB)) ?_
    rintro e41 w41 ⟨⟨u41,rfl,hs41⟩,g41⟩
    refine ⟨_,rfl,?_⟩
    replace hB:=hB.trans g41
    simp only [p3,p4]
    refine se ?_
    refine eff_bs1 26 51 u41 (some 66) rfl rfl rfl hs41.forms (fun _ _ _ _=>by kernel_rfl) (fun b42 w42 g42 L42 q42=>?_)
    replace L11:=L11.gr g41
    replace L12:=L12.gr g41
    replace hB:=hB.trans g42
    simp only [putl,p3,p4]
    refine se ?_
    replace hs41:=hs41.gr stab_fr g42
    replace ox:=ox.gr (stab_rw stab_fr 84 2) (g41.trans g42)
    replace oy:=oy.gr (stab_rw stab_fr 84 2) (g41.trans g42)
    refine eff_apo (stab_rw stab_fr 84 2) (stab_rw stab_fr 84 2) _ _ 26 51 w.heap.size (.slice none 0 0) vx (tb (fun z0=>tb (fun z1=>((exm pea Za zla) z0 z1)) D) i) b42 [u41] (tb (fun z1=>(en (pea i) (zla i) z1)) D) 1 1 (some 67) 24 rfl rfl rfl rfl ox L42 ⟨hs41.one,trivial⟩ rfl ⟨_,rfl,hs41⟩ (Below.size hB) (by rw [tb_len];omega) (by decide) (by kernel_rfl) (by kernel_rfl) (by decide) (by decide) (by decide) oy hdj.symm (fun v43 w43 ow43 wt43 hg43 oo43 dj43=>?_)
    replace hB:=hg43 _ hB (Nat.le_refl _)
    replace ow43:=ow43.cast (tb_snoc (f:=(fun z0=>tb (fun z1=>((exm pea Za zla) z0 z1)) D)) (n:=i) (by unfold exm;rw [dl_in ha]))
    simp only [putl,p3,p4]
    refine sv 68 vy ?_
    refine sv 69 (.slice none 0 0) ?_
    refine sv 70 (.int .i64 ((D:Int))) ?_
    refine se ?_
    refine ec 71 (l5_line (TT:=0) (ee:=peb i) (Z:=0) D (by omega) (Sl.nil _ _ _ _ none 0)) ?_
    rintro e44 w44 ⟨⟨u44,rfl,hs44⟩,g44⟩
    refine ⟨_,rfl,?_⟩
    replace hB:=hB.trans g44
    simp only [p3,p4]
    refine se ?_
    refine eff_bs1 26 51 u44 (some 72) rfl rfl rfl hs44.forms (fun _ _ _ _=>by kernel_rfl) (fun b45 w45 g45 L45 q45=>?_)
    replace L11:=(wt43.lc (L11.gr g42) (by decide)).gr g44
    replace L12:=(wt43.lc (L12.gr g42) (by decide)).gr g44
    replace hB:=hB.trans g45
    simp only [putl,p3,p4]
    refine se ?_
    replace hs44:=hs44.gr stab_fr g45
    replace oo43:=oo43.gr (stab_rw stab_fr 84 2) (g44.trans g45)
    replace ow43:=ow43.gr (stab_rw stab_fr 84 2) (g44.trans g45)
    refine eff_apo (stab_rw stab_fr 84 2) (stab_rw stab_fr 84 2) _ _ 26 51 w.heap.size (.slice none 0 0) vy (tb (fun z0=>tb (fun z1=>((exm peb Zb zlb) z0 z1)) D) i) b45 [u44] (tb (fun z1=>(en (peb i) 0 z1)) D) 1 1 (some 73) 24 rfl rfl rfl rfl oo43 L45 ⟨hs44.one,trivial⟩ rfl ⟨_,rfl,hs44⟩ (Below.size hB) (by rw [tb_len];omega) (by decide) (by kernel_rfl) (by kernel_rfl) (by decide) (by decide) (by decide) ow43 dj43.symm (fun v46 w46 ow46 wt46 hg46 oo46 dj46=>?_)
    replace hB:=hg46 _ hB (Nat.le_refl _)
    replace ow46:=ow46.cast (tb_snoc (f:=(fun z0=>tb (fun z1=>((exm peb Zb zlb) z0 z1)) D)) (n:=i) (by unfold exm;rw [dl_out hb]))
    simp only [putl,p3,p4]
    refine sv 8 v43 ?_
    refine sv 9 v46 ?_
    refine sq_nil ?_
    refine k24 _ _ ?_
    try clear k24 K24
    refine rg [0,1,2] ?_
    refine sv 40 (.int .i64 ((i:Int))) ?_
    refine sw 41 (.int .i64 (((i:Int)+1))) rfl (RunV.int (x:=IntKind.i64.wrap (((i:Int)+1))) (y:=((i:Int)+1)) (rvk (by kernel_rfl)) (by first | rfl | (rw [IntKind.wrap_i64];omega))) ?_
    refine sv 10 (.int .i64 (((i:Int)+1))) ?_
    refine sq_nil ?_
    replace L11:=wt46.lc (L11.gr g45) (by decide)
    replace L12:=wt46.lc (L12.gr g45) (by decide)
    refine k20 (D - (i+1)) ⟨List.toArray ?l47,[]⟩ _ (by omega) ?_
    exact ⟨i+1,v43,v46,(fun i=>List.getD ?l47 i undef),rfl,rfl,(by omega),dj46,oo46,ow46,L11,L12,hB⟩
  ·have ha:¬ i<Za:=by have:=of_decide_eq_false hb28;omega
   refine wp_skip ?_
   refine k26 _ _ ?_
   try clear k26 K26
   refine wp_seq_k (fun K48 k48=>?_)
   refine wp_seq_k (fun K49 k49=>?_)
   refine rg [0,1,2,3,4] ?_
   refine sv 52 (.int .i64 ((i:Int))) ?_
   refine sv 53 (.pointer (some ⟨b12,1,none⟩)) ?_
   refine sw 54 vb rfl (rk 22 1 L12) ?_
   refine sw 55 (.int .i64 ((Zb:Int))) rfl (rv_lenn (e:=45) hsb (tb_lenz rfl) _ _ rfl rfl (by kernel_rfl)) ?_
   refine sv 56 (.bool (decide ((i:Int)<(Zb:Int)))) ?_
   refine sq_nil ?_
   refine k49 _ _ ?_
   try clear k49 K49
   refine wp_cond_split (t:=decide ((i:Int)<(Zb:Int))) rfl (fun hb50=>?_) (fun hb50=>?_)
   ·have hb:i<Zb:=by have:=of_decide_eq_true hb50;omega
    refine rg [0,1,2,3,4,5] ?_
    refine sv 57 (.pointer (some ⟨b12,1,none⟩)) ?_
    refine sw 58 vb rfl (rk 22 1 L12) ?_
    refine sv 59 (.int .i64 ((i:Int))) ?_
    refine sw 60 (adr vb (i*1)) rfl (rv_idxn (e:=45) hsb tb_len (by decide) i (by omega) _ _ _ rfl rfl rfl (by kernel_rfl) (by kernel_rfl)) ?_
    obtain ⟨_,_,⟨u51,TT51,rfl,hr51⟩,at51⟩:=Sl.get hsb (by decide) (tb_get (f:=(fun z0=>tb (peb z0) (zlb z0))) (n:=Zb) (i:=i) (by omega))
    refine sw 61 u51 rfl (rv_ld1 u51 (at51.gr hB) _ _ rfl rfl (by kernel_rfl)) ?_
    refine sv 12 u51 ?_
    refine sq_nil ?_
    refine k48 _ _ ?_
    try clear k48 K48
    refine rg [0,1,2,3,4,5,6,7,8,9,10,11,12,13] ?_
    refine sv 62 vx ?_
    refine sv 63 (.slice none 0 0) ?_
    refine sv 64 (.int .i64 ((D:Int))) ?_
    refine se ?_
    refine ec 65 (l5_line (TT:=0) (ee:=pea i) (Z:=0) D (by omega) (Sl.nil _ _ _ _ none 0)) ?_
    rintro e52 w52 ⟨⟨u52,rfl,hs52⟩,g52⟩
    refine ⟨_,rfl,?_⟩
    replace hB:=hB.trans g52
    simp only [p3,p4]
    refine se ?_
    refine eff_bs1 26 51 u52 (some 66) rfl rfl rfl hs52.forms (fun _ _ _ _=>by kernel_rfl) (fun b53 w53 g53 L53 q53=>?_)
    replace L11:=L11.gr g52
    replace L12:=L12.gr g52
    replace hB:=hB.trans g53
    simp only [putl,p3,p4]
    refine se ?_
    replace hs52:=hs52.gr stab_fr g53
    replace ox:=ox.gr (stab_rw stab_fr 84 2) (g52.trans g53)
    replace oy:=oy.gr (stab_rw stab_fr 84 2) (g52.trans g53)
    refine eff_apo (stab_rw stab_fr 84 2) (stab_rw stab_fr 84 2) _ _ 26 51 w.heap.size (.slice none 0 0) vx (tb (fun z0=>tb (fun z1=>((exm pea Za zla) z0 z1)) D) i) b53 [u52] (tb (fun z1=>(en (pea i) 0 z1)) D) 1 1 (some 67) 24 rfl rfl rfl rfl ox L53 ⟨hs52.one,trivial⟩ rfl ⟨_,rfl,hs52⟩ (Below.size hB) (by rw [tb_len];omega) (by decide) (by kernel_rfl) (by kernel_rfl) (by decide) (by decide) (by decide) oy hdj.symm (fun v54 w54 ow54 wt54 hg54 oo54 dj54=>?_)
    replace hB:=hg54 _ hB (Nat.le_refl _)
    replace ow54:=ow54.cast (tb_snoc (f:=(fun z0=>tb (fun z1=>((exm pea Za zla) z0 z1)) D)) (n:=i) (by unfold exm;rw [dl_out ha]))
    simp only [putl,p3,p4]
    refine sv 68 vy ?_
    refine sv 69 u51 ?_
    refine sv 70 (.int .i64 ((D:Int))) ?_
    refine se ?_
    refine ec 71 (l5_line D (by omega) (hr51.gr stab_en hB)) ?_
    rintro e55 w55 ⟨⟨u55,rfl,hs55⟩,g55⟩
    refine ⟨_,rfl,?_⟩
    replace hB:=hB.trans g55
    simp only [p3,p4]
    refine se ?_
    refine eff_bs1 26 51 u55 (some 72) rfl rfl rfl hs55.forms (fun _ _ _ _=>by kernel_rfl) (fun b56 w56 g56 L56 q56=>?_)
    replace L11:=(wt54.lc (L11.gr g53) (by decide)).gr g55
    replace L12:=(wt54.lc (L12.gr g53) (by decide)).gr g55
    replace hB:=hB.trans g56
    simp only [putl,p3,p4]
    refine se ?_
    replace hs55:=hs55.gr stab_fr g56
    replace oo54:=oo54.gr (stab_rw stab_fr 84 2) (g55.trans g56)
    replace ow54:=ow54.gr (stab_rw stab_fr 84 2) (g55.trans g56)
    refine eff_apo (stab_rw stab_fr 84 2) (stab_rw stab_fr 84 2) _ _ 26 51 w.heap.size (.slice none 0 0) vy (tb (fun z0=>tb (fun z1=>((exm peb Zb zlb) z0 z1)) D) i) b56 [u55] (tb (fun z1=>(en (peb i) (zlb i) z1)) D) 1 1 (some 73) 24 rfl rfl rfl rfl oo54 L56 ⟨hs55.one,trivial⟩ rfl ⟨_,rfl,hs55⟩ (Below.size hB) (by rw [tb_len];omega) (by decide) (by kernel_rfl) (by kernel_rfl) (by decide) (by decide) (by decide) ow54 dj54.symm (fun v57 w57 ow57 wt57 hg57 oo57 dj57=>?_)
    replace hB:=hg57 _ hB (Nat.le_refl _)
    replace ow57:=ow57.cast (tb_snoc (f:=(fun z0=>tb (fun z1=>((exm peb Zb zlb) z0 z1)) D)) (n:=i) (by unfold exm;rw [dl_in hb]))
    simp only [putl,p3,p4]
    refine sv 8 v54 ?_
    refine sv 9 v57 ?_
    refine sq_nil ?_
    refine k24 _ _ ?_
    try clear k24 K24
    refine rg [0,1,2] ?_
    refine sv 40 (.int .i64 ((i:Int))) ?_
    refine sw 41 (.int .i64 (((i:Int)+1))) rfl (RunV.int (x:=IntKind.i64.wrap (((i:Int)+1))) (y:=((i:Int)+1)) (rvk (by kernel_rfl)) (by first | rfl | (rw [IntKind.wrap_i64];omega))) ?_
    refine sv 10 (.int .i64 (((i:Int)+1))) ?_
    refine sq_nil ?_
    replace L11:=wt57.lc (L11.gr g56) (by decide)
    replace L12:=wt57.lc (L12.gr g56) (by decide)
    refine k20 (D - (i+1)) ⟨List.toArray ?l58,[]⟩ _ (by omega) ?_
    exact ⟨i+1,v54,v57,(fun i=>List.getD ?l58 i undef),rfl,rfl,(by omega),dj57,oo57,ow57,L11,L12,hB⟩
   ·have hb:¬ i<Zb:=by have:=of_decide_eq_false hb50;omega
    refine wp_skip ?_
    refine k48 _ _ ?_
    try clear k48 K48
    refine rg [0,1,2,3,4,5,6,7,8,9,10,11,12,13] ?_
    refine sv 62 vx ?_
    refine sv 63 (.slice none 0 0) ?_
    refine sv 64 (.int .i64 ((D:Int))) ?_
    refine se ?_
    refine ec 65 (l5_line (TT:=0) (ee:=pea i) (Z:=0) D (by omega) (Sl.nil _ _ _ _ none 0)) ?_
    rintro e59 w59 ⟨⟨u59,rfl,hs59⟩,g59⟩
    refine ⟨_,rfl,?_⟩
    replace hB:=hB.trans g59
    simp only [p3,p4]
    refine se ?_
    refine eff_bs1 26 51 u59 (some 66) rfl rfl rfl hs59.forms (fun _ _ _ _=>by kernel_rfl) (fun b60 w60 g60 L60 q60=>?_)
    replace L11:=L11.gr g59
    replace L12:=L12.gr g59
    replace hB:=hB.trans g60
    simp only [putl,p3,p4]
    refine se ?_
    replace hs59:=hs59.gr stab_fr g60
    replace ox:=ox.gr (stab_rw stab_fr 84 2) (g59.trans g60)
    replace oy:=oy.gr (stab_rw stab_fr 84 2) (g59.trans g60)
    refine eff_apo (stab_rw stab_fr 84 2) (stab_rw stab_fr 84 2) _ _ 26 51 w.heap.size (.slice none 0 0) vx (tb (fun z0=>tb (fun z1=>((exm pea Za zla) z0 z1)) D) i) b60 [u59] (tb (fun z1=>(en (pea i) 0 z1)) D) 1 1 (some 67) 24 rfl rfl rfl rfl ox L60 ⟨hs59.one,trivial⟩ rfl ⟨_,rfl,hs59⟩ (Below.size hB) (by rw [tb_len];omega) (by decide) (by kernel_rfl) (by kernel_rfl) (by decide) (by decide) (by decide) oy hdj.symm (fun v61 w61 ow61 wt61 hg61 oo61 dj61=>?_)
    replace hB:=hg61 _ hB (Nat.le_refl _)
    replace ow61:=ow61.cast (tb_snoc (f:=(fun z0=>tb (fun z1=>((exm pea Za zla) z0 z1)) D)) (n:=i) (by unfold exm;rw [dl_out ha]))
    simp only [putl,p3,p4]
    refine sv 68 vy ?_
    refine sv 69 (.slice none 0 0) ?_
    refine sv 70 (.int .i64 ((D:Int))) ?_
    refine se ?_
    refine ec 71 (l5_line (TT:=0) (ee:=peb i) (Z:=0) D (by omega) (Sl.nil _ _ _ _ none 0)) ?_
    rintro e62 w62 ⟨⟨u62,rfl,hs62⟩,g62⟩
    refine ⟨_,rfl,?_⟩
    replace hB:=hB.trans g62
    simp only [p3,p4]
    refine se ?_
    refine eff_bs1 26 51 u62 (some 72) rfl rfl rfl hs62.forms (fun _ _ _ _=>by kernel_rfl) (fun b63 w63 g63 L63 q63=>?_)
    replace L11:=(wt61.lc (L11.gr g60) (by decide)).gr g62
    replace L12:=(wt61.lc (L12.gr g60) (by decide)).gr g62
    replace hB:=hB.trans g63
    simp only [putl,p3,p4]
    refine se ?_
    replace hs62:=hs62.gr stab_fr g63
    replace oo61:=oo61.gr (stab_rw stab_fr 84 2) (g62.trans g63)
    replace ow61:=ow61.gr (stab_rw stab_fr 84 2) (g62.trans g63)
    refine eff_apo (stab_rw stab_fr 84 2) (stab_rw stab_fr 84 2) _ _ 26 51 w.heap.size (.slice none 0 0) vy (tb (fun z0=>tb (fun z1=>((exm peb Zb zlb) z0 z1)) D) i) b63 [u62] (tb (fun z1=>(en (peb i) 0 z1)) D) 1 1 (some 73) 24 rfl rfl rfl rfl oo61 L63 ⟨hs62.one,trivial⟩ rfl ⟨_,rfl,hs62⟩ (Below.size hB) (by rw [tb_len];omega) (by decide) (by kernel_rfl) (by kernel_rfl) (by decide) (by decide) (by decide) ow61 dj61.symm (fun v64 w64 ow64 wt64 hg64 oo64 dj64=>?_)
    replace hB:=hg64 _ hB (Nat.le_refl _)
    replace ow64:=ow64.cast (tb_snoc (f:=(fun z0=>tb (fun z1=>((exm peb Zb zlb) z0 z1)) D)) (n:=i) (by unfold exm;rw [dl_out hb]))
    simp only [putl,p3,p4]
    refine sv 8 v61 ?_
    refine sv 9 v64 ?_
    refine sq_nil ?_
    refine k24 _ _ ?_
    try clear k24 K24
    refine rg [0,1,2] ?_
    refine sv 40 (.int .i64 ((i:Int))) ?_
    refine sw 41 (.int .i64 (((i:Int)+1))) rfl (RunV.int (x:=IntKind.i64.wrap (((i:Int)+1))) (y:=((i:Int)+1)) (rvk (by kernel_rfl)) (by first | rfl | (rw [IntKind.wrap_i64];omega))) ?_
    refine sv 10 (.int .i64 (((i:Int)+1))) ?_
    refine sq_nil ?_
    replace L11:=wt64.lc (L11.gr g63) (by decide)
    replace L12:=wt64.lc (L12.gr g63) (by decide)
    refine k20 (D - (i+1)) ⟨List.toArray ?l65,[]⟩ _ (by omega) ?_
    exact ⟨i+1,v61,v64,(fun i=>List.getD ?l65 i undef),rfl,rfl,(by omega),dj64,oo64,ow64,L11,L12,hB⟩
 ·have hei:D=i:=by have:=of_decide_eq_false hb23;omega
  subst hei
  refine wp_exit ?_
  simp only [Exit.then,Exit.inBlock,↓reduceIte]
  refine k18 _ _ ?_
  try clear k18 K18
  refine wp_seq_k (fun K66 k66=>?_)
  refine rg [0,1,2,3,4,5] ?_
  refine sv 74 vx ?_
  refine se ?_
  refine ec 75 (l5_own (by omega) (by omega) (fun i _ k _=>(exm_z hsa i k).mono (by omega) (by omega)) (hm.gr hB) (ox.sl)) ?_
  rintro e67 w67 ⟨⟨u67,rfl,hs67⟩,g67⟩
  refine ⟨_,rfl,?_⟩
  replace hB:=hB.trans g67
  simp only [p3,p4]
  refine sv 76 vy ?_
  refine se ?_
  replace oy:=oy.gr (stab_rw stab_fr 84 2) g67
  refine ec 77 (l5_own (by omega) (by omega) (fun i _ k _=>(exm_z hsb i k).mono (by omega) (by omega)) (hm.gr hB) (oy.sl)) ?_
  rintro e68 w68 ⟨⟨u68,rfl,hs68⟩,g68⟩
  refine ⟨_,rfl,?_⟩
  replace hB:=hB.trans g68
  simp only [p3,p4]
  refine sv 13 u67 ?_
  refine sv 14 u68 ?_
  refine sq_nil ?_
  refine k66 _ _ ?_
  try clear k66 K66
  refine wp_seq_k (fun K69 k69=>?_)
  refine rg [0,1,2,3,4,5,6,7] ?_
  refine sv 79 u67 ?_
  refine sv 80 u68 ?_
  refine se ?_
  replace hs67:=hs67.gr (stab_rw (stab_rat 64) 71 4) g68
  refine ec 81 (mx_Mul (K:=64) (L:=64) (R:=D) (S:=D) (N:=D) (ma:=(exm pea Za zla)) (mb:=(exm peb Zb zlb)) (fun h=>h) (by omega) (by omega) (by omega) (by omega) (by omega) hs67 hs68) ?_
  rintro e70 w70 ⟨⟨u70,rfl,hs70⟩,g70⟩
  refine ⟨_,rfl,?_⟩
  replace hB:=hB.trans g70
  replace hs70:=hs70.cast (show _=tb (fun z0=>tb (fun z1=>(mul_ D (exm pea Za zla) (exm peb Zb zlb)) z0 z1) D) D from rfl)
  simp only [p3,p4]
  refine sv 78 (.tuple #[u70,(.int .i64 0)]) ?_
  refine sv 82 u70 ?_
  refine sv 83 (.int .i64 0) ?_
  refine sv 15 u70 ?_
  refine sv 16 (.int .i64 0) ?_
  refine sq_nil ?_
  refine k69 _ _ ?_
  try clear k69 K69
  refine wp_seq_k (fun K71 k71=>?_)
  have lehC:=Below.size hB
  have hC:=Gr.refl w70
  replace ox:=ox.gr (stab_rw stab_fr 84 2) (g67.trans (g68.trans g70))
  replace oy:=oy.gr (stab_rw stab_fr 84 2) (g68.trans g70)
  replace hs67:=hs67.gr (stab_rw (stab_rat 64) 71 4) g70
  replace hs68:=hs68.gr (stab_rw (stab_rat 64) 71 4) g70
  refine rg [0,1,2,3,4,5,6,7] ?_
  refine sv 85 u67 ?_
  refine se ?_
  refine ec 86 (mx_Determinant (K:=4899) (m:=(exm pea Za zla)) (by omega) (by omega) (by omega) hzx ((hs67.gr (stab_rw (stab_rat 64) 71 4) hC).ratrows (by omega))) ?_
  rintro e72 w72 ⟨⟨p72,q72,r72,s72,rfl,h72⟩,g72⟩
  refine ⟨_,rfl,?_⟩
  replace hB:=hB.trans g72
  replace hC:=hC.trans g72
  simp only [p3,p4]
  refine sv 84 (.tuple #[(.agg #[p72,q72,r72,s72]),(.int .i64 0)]) ?_
  refine sv 87 (.agg #[p72,q72,r72,s72]) ?_
  refine sv 88 (.int .i64 0) ?_
  refine se ?_
  refine ea 71 #[(.bool false),(.slice none 0 0),(.bool false),(.slice none 0 0)] 17 hB fun b73 w73 g73 L73 o73 q73 hB=>?_
  have q73_hC:=Nat.le_trans (Below.size hC) o73
  replace hC:=hC.trans g73
  simp only [p3,p4]
  refine se ?_
  have lo74:=L73
  refine es 71 0 (.agg #[p72,q72,r72,s72]) [p72,q72,r72,s72] #[p72,q72,r72,s72] L73 hB q73 ⟨h72.one0,h72.one1,h72.one2,h72.one3,trivial⟩ fun w74 st74 kp74 L73 hB=>?_
  replace hC:=st74.gr hC q73_hC
  refine sv 18 (.int .i64 0) ?_
  refine sq_nil ?_
  refine k71 _ _ ?_
  try clear k71 K71
  refine wp_seq_k (fun K75 k75=>?_)
  refine rg [0,1,2,3,4,5,6,7] ?_
  refine sv 90 u68 ?_
  refine se ?_
  refine ec 91 (mx_Determinant (K:=4899) (m:=(exm peb Zb zlb)) (by omega) (by omega) (by omega) hzy ((hs68.gr (stab_rw (stab_rat 64) 71 4) hC).ratrows (by omega))) ?_
  rintro e76 w76 ⟨⟨p76,q76,r76,s76,rfl,h76⟩,g76⟩
  refine ⟨_,rfl,?_⟩
  replace hB:=hB.trans g76
  replace hC:=hC.trans g76
  simp only [p3,p4]
  refine sv 89 (.tuple #[(.agg #[p76,q76,r76,s76]),(.int .i64 0)]) ?_
  refine sv 92 (.agg #[p76,q76,r76,s76]) ?_
  refine sv 93 (.int .i64 0) ?_
  refine se ?_
  refine ea 71 #[(.bool false),(.slice none 0 0),(.bool false),(.slice none 0 0)] 19 hB fun b77 w77 g77 L77 o77 q77 hB=>?_
  replace L73:=L73.gr g76
  have ne73_77:=L73.ne o77
  have q77_hC:=Nat.le_trans (Below.size hC) o77
  replace hC:=hC.trans g77
  simp only [p3,p4]
  refine se ?_
  have lo78:=L77
  refine es 71 0 (.agg #[p76,q76,r76,s76]) [p76,q76,r76,s76] #[p76,q76,r76,s76] L77 hB q77 ⟨h76.one0,h76.one1,h76.one2,h76.one3,trivial⟩ fun w78 st78 kp78 L77 hB=>?_
  replace hC:=st78.gr hC q77_hC
  refine sv 20 (.int .i64 0) ?_
  refine sq_nil ?_
  refine k75 _ _ ?_
  try clear k75 K75
  refine wp_seq_k (fun K79 k79=>?_)
  refine rg [0,1,2,3,4,5,6,7] ?_
  refine sv 95 u70 ?_
  refine se ?_
  refine ec 96 (mx_Determinant (K:=12279) (m:=(mul_ D (exm pea Za zla) (exm peb Zb zlb))) (by omega) (by omega) (by omega) hzp ((hs70.gr (stab_rw (stab_rat (64+D*(64+64+1))) 71 4) hC).ratrows (by omega))) ?_
  rintro e80 w80 ⟨⟨p80,q80,r80,s80,rfl,h80⟩,g80⟩
  refine ⟨_,rfl,?_⟩
  replace hB:=hB.trans g80
  replace hC:=hC.trans g80
  simp only [p3,p4]
  refine sv 94 (.tuple #[(.agg #[p80,q80,r80,s80]),(.int .i64 0)]) ?_
  refine sv 97 (.agg #[p80,q80,r80,s80]) ?_
  refine sv 98 (.int .i64 0) ?_
  refine se ?_
  refine ea 71 #[(.bool false),(.slice none 0 0),(.bool false),(.slice none 0 0)] 21 hB fun b81 w81 g81 L81 o81 q81 hB=>?_
  replace L73:=(st78.lc (L73.gr g77) ne73_77).gr g80
  have ne73_81:=L73.ne o81
  replace L77:=L77.gr g80
  have ne77_81:=L77.ne o81
  have q81_hC:=Nat.le_trans (Below.size hC) o81
  replace hC:=hC.trans g81
  simp only [p3,p4]
  refine se ?_
  have lo82:=L81
  refine es 71 0 (.agg #[p80,q80,r80,s80]) [p80,q80,r80,s80] #[p80,q80,r80,s80] L81 hB q81 ⟨h80.one0,h80.one1,h80.one2,h80.one3,trivial⟩ fun w82 st82 kp82 L81 hB=>?_
  replace hC:=st82.gr hC q81_hC
  refine sv 22 (.int .i64 0) ?_
  refine sq_nil ?_
  refine k79 _ _ ?_
  try clear k79 K79
  refine wp_seq_k (fun K83 k83=>?_)
  refine wp_seq_k (fun K84 k84=>?_)
  have gd94:=Gr.drew w82
  replace hB:=hB.trans gd94
  replace hC:=hC.trans gd94
  replace L73:=(st82.lc (L73.gr g81) ne73_81).gr gd94
  replace L77:=(st82.lc (L77.gr g81) ne77_81).gr gd94
  replace L81:=L81.gr gd94
  refine wp_region_ord (fun w'=>Lc w' b73 #[p72,q72,r72,s72] 71∧Lc w' b77 #[p76,q76,r76,s76] 71∧Lc w' b81 #[p80,q80,r80,s80] 71) [(true,0),(true,1),(true,2),(true,3),(true,4),(true,5),(true,6),(true,7),(true,8),(true,9),(true,10),(true,11),(true,12),(true,13),(true,14),(true,15),(true,16),(true,17),(false,18),(false,19),(true,20),(true,21)] (by kernel_rfl) (by kernel_rfl) (by kernel_rfl) (by decide) (fun _ _ _ _ _ h=>h) ⟨L73,L77,L81⟩ ?_
  refine ov 99 (.int .i64 0) ?_
  refine ov 100 (.bool false) ?_
  refine ov 101 (.bool false) ?_
  refine ov 102 (.int .i64 0) ?_
  refine ov 103 (.bool false) ?_
  refine ov 104 (.bool false) ?_
  refine ov 105 (.bool false) ?_
  refine ov 106 (.int .i64 0) ?_
  refine ov 107 (.bool false) ?_
  refine ov 108 (.bool false) ?_
  refine ov 109 (.bool false) ?_
  refine ov 110 (.int .i64 0) ?_
  refine ov 111 (.bool false) ?_
  refine ov 112 (.bool false) ?_
  refine ov 113 (.bool false) ?_
  refine ow 114 (.agg #[p80,q80,r80,s80]) rfl (fun w' hS=>(rl 71 0 [p80,q80,r80,s80] hS.2.2)) ?_
  refine ow 115 (.agg #[p72,q72,r72,s72]) rfl (fun w' hS=>(rl 71 0 [p72,q72,r72,s72] hS.1)) ?_
  refine ow 116 (.agg #[p76,q76,r76,s76]) rfl (fun w' hS=>(rl 71 0 [p76,q76,r76,s76] hS.2.1)) ?_
  refine oe ?_
  have kq97:=g73.kp.trans (kp74.trans (g76.kp.trans (g77.kp.trans (kp78.trans (g80.kp.trans (g81.kp.trans (kp82.trans gd94.kp)))))))
  replace h72:=h72.kp kq97
  have kq98:=g77.kp.trans (kp78.trans (g80.kp.trans (g81.kp.trans (kp82.trans gd94.kp))))
  replace h76:=h76.kp kq98
  refine ec 117 (mul_r h72 h76 (by omega)) ?_
  rintro e96 w96 ⟨⟨p96,q96,r96,s96,rfl,h96⟩,g96⟩
  refine ⟨_,rfl,?_⟩
  replace hB:=hB.trans g96
  replace hC:=hC.trans g96
  replace L73:=L73.gr g96
  replace L77:=L77.gr g96
  replace L81:=L81.gr g96
  refine ⟨⟨L73,L77,L81⟩,?_⟩
  simp only [p3,p4]
  refine oe ?_
  have kq101:=g81.kp.trans (kp82.trans (gd94.kp.trans g96.kp))
  replace h80:=h80.kp kq101
  refine ec 118 (compare_r h80 h96 (by omega)) ?_
  rintro e100 w100 ⟨rfl,g100⟩
  refine ⟨_,rfl,?_⟩
  replace hB:=hB.trans g100
  replace hC:=hC.trans g100
  replace L73:=L73.gr g100
  replace L77:=L77.gr g100
  replace L81:=L81.gr g100
  refine ⟨⟨L73,L77,L81⟩,?_⟩
  simp only [p3,p4]
  have hb102:((rcmp (dtE D (mul_ D (exm pea Za zla) (exm peb Zb zlb))) ((dtE D (exm pea Za zla))*(dtE D (exm peb Zb zlb))) !=(0:Int)))=false:=(by rw [dtE_mul,rcmp_self];rfl)
  refine ow 119 (.bool false) rfl (fun w' hS=>(RunV.bool (x:=(rcmp (dtE D (mul_ D (exm pea Za zla) (exm peb Zb zlb))) ((dtE D (exm pea Za zla))*(dtE D (exm peb Zb zlb))) !=(0:Int))) (rvk (by kernel_rfl)) hb102)) ?_
  refine ov 120 (.bool false) ?_
  refine ord_nil ?_
  refine k84 _ _ ?_
  try clear k84 K84
  refine wp_cond_false rfl ?_
  refine wp_skip ?_
  refine k83 _ _ ?_
  try clear k83 K83
  refine wp_seq_k (fun K103 k103=>?_)
  refine wp_seq_k (fun K104 k104=>?_)
  refine rg [0,1] ?_
  refine sv 121 (.int .i64 ((D:Int))) ?_
  refine sv 122 (.bool (decide ((1:Int)<(D:Int)))) ?_
  refine sq_nil ?_
  refine k104 _ _ ?_
  try clear k104 K104
  refine wp_cond_split (t:=decide ((1:Int)<(D:Int))) rfl (fun hb105=>?_) (fun hb105=>?_)
  ·have hD1:1<D:=by have:=of_decide_eq_true hb105;omega
   refine wp_seq_k (fun K106 k106=>?_)
   have lehF:=Below.size hB
   have lehF_hC:=Below.size hC
   have hF:=Gr.refl w100
   have kq107:=g96.kp.trans g100.kp
   replace h72:=h72.kp kq107
   obtain ⟨_,_,⟨u115,rfl,hr115⟩,at115⟩:=Sl.get hs67 (by decide) (tb_get (f:=(fun z0=>tb (fun z1=>((exm pea Za zla) z0 z1)) D)) (n:=D) (i:=1) (by omega))
   obtain ⟨_,_,⟨u116,rfl,hr116⟩,at116⟩:=Sl.get hs67 (by decide) (tb_get (f:=(fun z0=>tb (fun z1=>((exm pea Za zla) z0 z1)) D)) (n:=D) (i:=0) (by omega))
   have gd117:=Gr.drew w100
   replace hB:=hB.trans gd117
   replace hC:=hC.trans gd117
   replace hF:=hF.trans gd117
   refine wp_region_ord (fun w'=>AtV w' u67 (1*1) [u115]∧AtV w' u67 (0*1) [u116]) [(true,0),(true,1),(true,2),(true,3),(true,4),(true,5),(true,7),(true,8),(false,6),(false,9),(true,10)] (by kernel_rfl) (by kernel_rfl) (by kernel_rfl) (by decide) (fun _ _ _ _ _ h=>h) ⟨(at115.gr hC),(at116.gr hC)⟩ ?_
   refine ov 123 u67 ?_
   refine ow 124 (adr u67 (1*1)) rfl (fun w' hS=>(rv_idxn (e:=49) hs67 tb_len (by decide) 1 (by omega) _ _ _ rfl rfl rfl (by kernel_rfl) (by kernel_rfl))) ?_
   refine ow 125 u115 rfl (fun w' hS=>(rv_ld1 u115 hS.1 _ _ rfl rfl (by kernel_rfl))) ?_
   refine ov 126 u67 ?_
   refine ow 127 (adr u67 (0*1)) rfl (fun w' hS=>(rv_idxn (e:=49) hs67 tb_len (by decide) 0 (by omega) _ _ _ rfl rfl rfl (by kernel_rfl) (by kernel_rfl))) ?_
   refine ow 128 u116 rfl (fun w' hS=>(rv_ld1 u116 hS.2 _ _ rfl rfl (by kernel_rfl))) ?_
   refine ov 130 u67 ?_
   have hs118:=hs67.subt (show 2≤D by omega) (show D≤D by omega)
   refine ow 131 (subv u67 2 D 1) rfl (fun w' hS=>(rv_subt (e:=49) hs67 2 D (by omega) (by omega) _ _ _ _ rfl rfl (.inr rfl) (.inl ⟨rfl,rfl⟩) (by kernel_rfl) (by kernel_rfl))) ?_
   refine oe ?_
   refine eff_bs2 29 49 u115 u116 (some 129) rfl rfl rfl rfl (hr115.gr (stab_rat 64) hC).forms (hr116.gr (stab_rat 64) hC).forms (fun _ _ _ _ _ _ _=>by kernel_rfl) (fun b120 w120 g120 L120 q120=>?_)
   replace L73:=L73.gr gd117
   have q120_hC:=Nat.le_trans (Below.size hC) q120
   have q120_hF:=Nat.le_trans (Below.size hF) q120
   replace hB:=hB.trans g120
   replace hC:=hC.trans g120
   replace hF:=hF.trans g120
   refine ⟨⟨(at115.gr hC),(at116.gr hC)⟩,?_⟩
   simp only [putl,p3,p4]
   refine oe ?_
   have oq122:=ow_two L120 (hr115.gr (stab_rat 64) hC) (hr116.gr (stab_rat 64) hC) q120_hF
   refine eff_aps (stab_rw (stab_rat 64) 71 4) _ _ 29 49 w100.heap.size 49 (.slice none 0 0) (.slice (some ⟨b120,0,none⟩) 2 2) [(tb (fun z1=>((exm pea Za zla) 1 z1)) D),(tb (fun z1=>((exm pea Za zla) 0 z1)) D)] (subv u67 2 D 1) (tb (fun z3=>(fun z0=>tb (fun z1=>((exm pea Za zla) z0 z1)) D) (2+z3)) (D - 2)) 1 (some 132) 24 rfl rfl rfl rfl oq122 (hs118.gr (stab_rw (stab_rat 64) 71 4) hC) (one_rw _) (Below.size hF) (by simp only [List.length_cons,List.length_nil,tb_len];omega) (by decide) (by kernel_rfl) (by kernel_rfl) (by decide) (by decide) (fun v123 w123 ow123 wt123 hg123 ag123=>?_)
   replace hB:=hg123 _ hB lehF
   replace hC:=hg123 _ hC lehF_hC
   replace hF:=hg123 _ hF (Nat.le_refl _)
   replace ow123:=ow123.cast (tb_swp (m:=(exm pea Za zla)) (by omega))
   refine ⟨⟨(at115.gr hC),(at116.gr hC)⟩,?_⟩
   simp only [putl,p3,p4]
   refine ov 23 v123 ?_
   refine ord_nil ?_
   refine k106 _ _ ?_
   try clear k106 K106
   refine wp_seq_k (fun K124 k124=>?_)
   refine rg [0,1,2,3,4,5,6,7] ?_
   refine sv 134 v123 ?_
   refine se ?_
   refine ec 135 (mx_Determinant (K:=4899) (m:=(swp (exm pea Za zla) 0 1)) (by omega) (by omega) (by omega) hzs ((ow123.sl).ratrows (by omega))) ?_
   rintro e125 w125 ⟨⟨p125,q125,r125,s125,rfl,h125⟩,g125⟩
   refine ⟨_,rfl,?_⟩
   replace hB:=hB.trans g125
   replace hC:=hC.trans g125
   replace hF:=hF.trans g125
   simp only [p3,p4]
   refine sv 133 (.tuple #[(.agg #[p125,q125,r125,s125]),(.int .i64 0)]) ?_
   refine sv 136 (.agg #[p125,q125,r125,s125]) ?_
   refine sv 137 (.int .i64 0) ?_
   refine se ?_
   refine ea 71 #[(.bool false),(.slice none 0 0),(.bool false),(.slice none 0 0)] 24 hB fun b126 w126 g126 L126 o126 q126 hB=>?_
   replace L73:=(wt123.lc (L73.gr g120) (by decide)).gr g125
   have ne73_126:=L73.ne o126
   have q126_hC:=Nat.le_trans (Below.size hC) o126
   have q126_hF:=Nat.le_trans (Below.size hF) o126
   replace hC:=hC.trans g126
   replace hF:=hF.trans g126
   simp only [p3,p4]
   refine se ?_
   have lo127:=L126
   refine es 71 0 (.agg #[p125,q125,r125,s125]) [p125,q125,r125,s125] #[p125,q125,r125,s125] L126 hB q126 ⟨h125.one0,h125.one1,h125.one2,h125.one3,trivial⟩ fun w127 st127 kp127 L126 hB=>?_
   replace hC:=st127.gr hC q126_hC
   replace hF:=st127.gr hF q126_hF
   refine sv 25 (.int .i64 0) ?_
   refine sq_nil ?_
   refine k124 _ _ ?_
   try clear k124 K124
   refine wp_seq_k (fun K128 k128=>?_)
   have gd136:=Gr.drew w127
   replace hB:=hB.trans gd136
   replace hC:=hC.trans gd136
   replace hF:=hF.trans gd136
   replace L73:=(st127.lc (L73.gr g126) ne73_126).gr gd136
   replace L126:=L126.gr gd136
   refine wp_region_ord (fun w'=>Lc w' b73 #[p72,q72,r72,s72] 71∧Lc w' b126 #[p125,q125,r125,s125] 71) [(true,0),(true,1),(true,2),(true,3),(true,4),(false,5),(false,6),(true,7),(true,8)] (by kernel_rfl) (by kernel_rfl) (by kernel_rfl) (by decide) (fun _ _ _ _ _ h=>h) ⟨L73,L126⟩ ?_
   refine ov 138 (.int .i64 0) ?_
   refine ov 139 (.bool false) ?_
   refine ov 140 (.bool false) ?_
   refine ow 141 (.agg #[p125,q125,r125,s125]) rfl (fun w' hS=>(rl 71 0 [p125,q125,r125,s125] hS.2)) ?_
   refine ow 142 (.agg #[p72,q72,r72,s72]) rfl (fun w' hS=>(rl 71 0 [p72,q72,r72,s72] hS.1)) ?_
   refine oe ?_
   refine ec 143 (neg_r (h72.kp hF.kp)) ?_
   rintro e138 w138 ⟨⟨p138,q138,r138,s138,rfl,h138⟩,g138⟩
   refine ⟨_,rfl,?_⟩
   replace hB:=hB.trans g138
   replace hC:=hC.trans g138
   replace hF:=hF.trans g138
   replace L73:=L73.gr g138
   replace L126:=L126.gr g138
   refine ⟨⟨L73,L126⟩,?_⟩
   simp only [p3,p4]
   refine oe ?_
   have kq141:=g126.kp.trans (kp127.trans (gd136.kp.trans g138.kp))
   replace h125:=h125.kp kq141
   refine ec 144 (compare_r h125 h138 (by omega)) ?_
   rintro e140 w140 ⟨rfl,g140⟩
   refine ⟨_,rfl,?_⟩
   replace hB:=hB.trans g140
   replace hC:=hC.trans g140
   replace hF:=hF.trans g140
   replace L73:=L73.gr g140
   replace L126:=L126.gr g140
   refine ⟨⟨L73,L126⟩,?_⟩
   simp only [p3,p4]
   have hb142:((rcmp (dtE D (swp (exm pea Za zla) 0 1)) (-(dtE D (exm pea Za zla))) !=(0:Int)))=false:=(by rw [dtE_swp D _ (by omega) (by omega) (by decide),rcmp_self];rfl)
   refine ow 145 (.bool false) rfl (fun w' hS=>(RunV.bool (x:=(rcmp (dtE D (swp (exm pea Za zla) 0 1)) (-(dtE D (exm pea Za zla))) !=(0:Int))) (rvk (by kernel_rfl)) hb142)) ?_
   refine ov 146 (.bool false) ?_
   refine ord_nil ?_
   refine k128 _ _ ?_
   try clear k128 K128
   refine wp_cond_false rfl ?_
   refine wp_skip ?_
   refine k103 _ _ ?_
   try clear k103 K103
   refine wp_seq_k (fun K143 k143=>?_)
   refine rg [0,1,2,3,4,5,6] ?_
   refine sv 148 u67 ?_
   refine se ?_
   refine ec 149 (mx_Inverse_y (K:=4899) (m:=(exm pea Za zla)) (by omega) (by omega) (by omega) (rs_all (P:=5) ⟨8,3,8,3,1⟩ (fun i hi k hk=>wid_z (by decide) (by decide) (fun i _ k _=>exm_z hsa i k) i hi k (by omega)) (fun i hi k _ hk=>wid_z (by decide) (by decide) (fun i _ k _=>exm_z hsa i k) i hi k hk) (Nat.le_refl _) (.inl (by omega)) (by decide)) hf ((hs67.gr (stab_rw (stab_rat 64) 71 4) hC).ratrows (by omega))) ?_
   rintro e144 w144 ⟨⟨u144,rfl,hs144⟩,g144⟩
   refine ⟨_,rfl,?_⟩
   replace hB:=hB.trans g144
   replace hC:=hC.trans g144
   replace hF:=hF.trans g144
   simp only [p3,p4]
   refine sv 147 (.tuple #[u144,(.int .i64 0)]) ?_
   refine sv 150 u144 ?_
   refine sv 151 (.int .i64 0) ?_
   refine sv 26 u144 ?_
   refine sv 27 (.int .i64 0) ?_
   refine sq_nil ?_
   refine k143 _ _ ?_
   try clear k143 K143
   refine wp_seq_k (fun K145 k145=>?_)
   refine wp_seq_k (fun K146 k146=>?_)
   refine rg [0,1,2] ?_
   replace L73:=L73.gr g144
   refine sw 152 (.agg #[p72,q72,r72,s72]) rfl (rl 71 0 [p72,q72,r72,s72] L73) ?_
   refine se ?_
   refine ec 153 (sign_r (h72.kp hF.kp)) ?_
   rintro e147 w147 ⟨rfl,g147⟩
   refine ⟨_,rfl,?_⟩
   replace hB:=hB.trans g147
   replace hC:=hC.trans g147
   replace hF:=hF.trans g147
   simp only [p3,p4]
   have hb148:((sgn ((dtE D (exm pea Za zla))).num==(0:Int)))=false:=(sgn_f fun h=>hf (dtE_zero.1 h))
   refine sw 154 (.bool false) rfl (RunV.bool (x:=(sgn ((dtE D (exm pea Za zla))).num==(0:Int))) (rvk (by kernel_rfl)) hb148) ?_
   refine sq_nil ?_
   refine k146 _ _ ?_
   try clear k146 K146
   refine wp_cond_false rfl ?_
   refine wp_skip ?_
   refine k145 _ _ ?_
   try clear k145 K145
   refine wp_seq_k (fun K149 k149=>?_)
   refine rg [0,1,2,3,4,5,6,7] ?_
   refine sv 158 u67 ?_
   refine sv 159 u144 ?_
   refine se ?_
   replace hs144:=hs144.gr (stab_rw (stab_rat 4899) 71 4) g147
   refine ec 160 (mx_Mul (K:=64) (L:=4899) (R:=D) (S:=D) (N:=D) (ma:=(exm pea Za zla)) (mb:=fun i k=>(rs D (wid D (exm pea Za zla)) D).m i (D+k)) (fun h=>h) (by omega) (by omega) (by omega) (by omega) (by omega) (hs67.gr (stab_rw (stab_rat 64) 71 4) hC) hs144) ?_
   rintro e150 w150 ⟨⟨u150,rfl,hs150⟩,g150⟩
   refine ⟨_,rfl,?_⟩
   replace hB:=hB.trans g150
   replace hC:=hC.trans g150
   replace hF:=hF.trans g150
   replace hs150:=hs150.cast (show _=tb (fun z0=>tb (fun z1=>one_ z0 z1) D) D from tb_congr fun i hi=>tb_congr fun k hk=>inv_one hf i hi k hk)
   simp only [p3,p4]
   refine sv 157 (.tuple #[u150,(.int .i64 0)]) ?_
   refine sv 161 u150 ?_
   refine sv 162 (.int .i64 0) ?_
   refine sv 28 u150 ?_
   refine sv 29 (.int .i64 0) ?_
   refine sq_nil ?_
   refine k149 _ _ ?_
   try clear k149 K149
   refine wp_seq_k (fun K151 k151=>?_)
   refine rg [0,1,2,3,4,5,6] ?_
   refine sv 164 (.int .i64 ((D:Int))) ?_
   refine se ?_
   refine ec 165 (mx_Identity (K:=64) (by omega) D (by omega) _) ?_
   rintro e152 w152 ⟨⟨u152,rfl,hs152⟩,g152⟩
   refine ⟨_,rfl,?_⟩
   replace hB:=hB.trans g152
   replace hC:=hC.trans g152
   replace hF:=hF.trans g152
   simp only [p3,p4]
   refine sv 163 (.tuple #[u152,(.int .i64 0)]) ?_
   refine sv 166 u152 ?_
   refine sv 167 (.int .i64 0) ?_
   refine sv 30 u152 ?_
   refine sv 31 (.int .i64 0) ?_
   refine sq_nil ?_
   refine k151 _ _ ?_
   try clear k151 K151
   refine wp_seq_k (fun K153 k153=>?_)
   refine rg [0,1,2,3,4,5,6,7,8,9,10,11,12,13,14,15] ?_
   refine sv 168 (.int .i64 0) ?_
   refine sv 169 (.bool true) ?_
   refine sv 170 (.bool true) ?_
   refine sv 171 (.int .i64 0) ?_
   refine sv 172 (.bool true) ?_
   refine sv 173 (.bool true) ?_
   refine sv 174 (.bool true) ?_
   refine sv 175 (.int .i64 0) ?_
   refine sv 176 (.bool true) ?_
   refine sv 177 (.bool true) ?_
   refine sv 178 (.bool true) ?_
   refine sv 179 u150 ?_
   refine sv 180 u152 ?_
   refine se ?_
   replace hs150:=hs150.gr (stab_rw (stab_rat (64+D*(64+4899+1))) 71 4) g152
   refine ec 181 (mx_Equal (by omega) (by omega) (by omega) hs150 hs152) ?_
   rintro e154 w154 ⟨rfl,g154⟩
   refine ⟨_,rfl,?_⟩
   replace hB:=hB.trans g154
   replace hC:=hC.trans g154
   replace hF:=hF.trans g154
   simp only [p3,p4]
   refine sv 182 (.bool true) ?_
   refine sv 6 (.bool true) ?_
   refine sq_nil ?_
   refine k153 _ _ ?_
   try clear k153 K153
   refine wp_ret ?_
   refine bodyPost_ret (v:=(.bool true)) (ret_tmp rfl rfl) rfl ⟨?_,hB⟩
   exact rfl
  ·refine wp_skip ?_
   refine k103 _ _ ?_
   try clear k103 K103
   refine wp_seq_k (fun K155 k155=>?_)
   refine rg [0,1,2,3,4,5,6] ?_
   refine sv 148 u67 ?_
   refine se ?_
   refine ec 149 (mx_Inverse_y (K:=4899) (m:=(exm pea Za zla)) (by omega) (by omega) (by omega) (rs_all (P:=5) ⟨8,3,8,3,1⟩ (fun i hi k hk=>wid_z (by decide) (by decide) (fun i _ k _=>exm_z hsa i k) i hi k (by omega)) (fun i hi k _ hk=>wid_z (by decide) (by decide) (fun i _ k _=>exm_z hsa i k) i hi k hk) (Nat.le_refl _) (.inl (by omega)) (by decide)) hf ((hs67.gr (stab_rw (stab_rat 64) 71 4) hC).ratrows (by omega))) ?_
   rintro e156 w156 ⟨⟨u156,rfl,hs156⟩,g156⟩
   refine ⟨_,rfl,?_⟩
   replace hB:=hB.trans g156
   replace hC:=hC.trans g156
   simp only [p3,p4]
   refine sv 147 (.tuple #[u156,(.int .i64 0)]) ?_
   refine sv 150 u156 ?_
   refine sv 151 (.int .i64 0) ?_
   refine sv 26 u156 ?_
   refine sv 27 (.int .i64 0) ?_
   refine sq_nil ?_
   refine k155 _ _ ?_
   try clear k155 K155
   refine wp_seq_k (fun K157 k157=>?_)
   refine wp_seq_k (fun K158 k158=>?_)
   refine rg [0,1,2] ?_
   replace L73:=L73.gr g156
   refine sw 152 (.agg #[p72,q72,r72,s72]) rfl (rl 71 0 [p72,q72,r72,s72] L73) ?_
   refine se ?_
   have kq160:=g96.kp.trans (g100.kp.trans g156.kp)
   replace h72:=h72.kp kq160
   refine ec 153 (sign_r h72) ?_
   rintro e159 w159 ⟨rfl,g159⟩
   refine ⟨_,rfl,?_⟩
   replace hB:=hB.trans g159
   replace hC:=hC.trans g159
   simp only [p3,p4]
   have hb161:((sgn ((dtE D (exm pea Za zla))).num==(0:Int)))=false:=(sgn_f fun h=>hf (dtE_zero.1 h))
   refine sw 154 (.bool false) rfl (RunV.bool (x:=(sgn ((dtE D (exm pea Za zla))).num==(0:Int))) (rvk (by kernel_rfl)) hb161) ?_
   refine sq_nil ?_
   refine k158 _ _ ?_
   try clear k158 K158
   refine wp_cond_false rfl ?_
   refine wp_skip ?_
   refine k157 _ _ ?_
   try clear k157 K157
   refine wp_seq_k (fun K162 k162=>?_)
   refine rg [0,1,2,3,4,5,6,7] ?_
   refine sv 158 u67 ?_
   refine sv 159 u156 ?_
   refine se ?_
   replace hs156:=hs156.gr (stab_rw (stab_rat 4899) 71 4) g159
   refine ec 160 (mx_Mul (K:=64) (L:=4899) (R:=D) (S:=D) (N:=D) (ma:=(exm pea Za zla)) (mb:=fun i k=>(rs D (wid D (exm pea Za zla)) D).m i (D+k)) (fun h=>h) (by omega) (by omega) (by omega) (by omega) (by omega) (hs67.gr (stab_rw (stab_rat 64) 71 4) hC) hs156) ?_
   rintro e163 w163 ⟨⟨u163,rfl,hs163⟩,g163⟩
   refine ⟨_,rfl,?_⟩
   replace hB:=hB.trans g163
   replace hC:=hC.trans g163
   replace hs163:=hs163.cast (show _=tb (fun z0=>tb (fun z1=>one_ z0 z1) D) D from tb_congr fun i hi=>tb_congr fun k hk=>inv_one hf i hi k hk)
   simp only [p3,p4]
   refine sv 157 (.tuple #[u163,(.int .i64 0)]) ?_
   refine sv 161 u163 ?_
   refine sv 162 (.int .i64 0) ?_
   refine sv 28 u163 ?_
   refine sv 29 (.int .i64 0) ?_
   refine sq_nil ?_
   refine k162 _ _ ?_
   try clear k162 K162
   refine wp_seq_k (fun K164 k164=>?_)
   refine rg [0,1,2,3,4,5,6] ?_
   refine sv 164 (.int .i64 ((D:Int))) ?_
   refine se ?_
   refine ec 165 (mx_Identity (K:=64) (by omega) D (by omega) _) ?_
   rintro e165 w165 ⟨⟨u165,rfl,hs165⟩,g165⟩
   refine ⟨_,rfl,?_⟩
   replace hB:=hB.trans g165
   replace hC:=hC.trans g165
   simp only [p3,p4]
   refine sv 163 (.tuple #[u165,(.int .i64 0)]) ?_
   refine sv 166 u165 ?_
   refine sv 167 (.int .i64 0) ?_
   refine sv 30 u165 ?_
   refine sv 31 (.int .i64 0) ?_
   refine sq_nil ?_
   refine k164 _ _ ?_
   try clear k164 K164
   refine wp_seq_k (fun K166 k166=>?_)
   refine rg [0,1,2,3,4,5,6,7,8,9,10,11,12,13,14,15] ?_
   refine sv 168 (.int .i64 0) ?_
   refine sv 169 (.bool true) ?_
   refine sv 170 (.bool true) ?_
   refine sv 171 (.int .i64 0) ?_
   refine sv 172 (.bool true) ?_
   refine sv 173 (.bool true) ?_
   refine sv 174 (.bool true) ?_
   refine sv 175 (.int .i64 0) ?_
   refine sv 176 (.bool true) ?_
   refine sv 177 (.bool true) ?_
   refine sv 178 (.bool true) ?_
   refine sv 179 u163 ?_
   refine sv 180 u165 ?_
   refine se ?_
   replace hs163:=hs163.gr (stab_rw (stab_rat (64+D*(64+4899+1))) 71 4) g165
   refine ec 181 (mx_Equal (by omega) (by omega) (by omega) hs163 hs165) ?_
   rintro e167 w167 ⟨rfl,g167⟩
   refine ⟨_,rfl,?_⟩
   replace hB:=hB.trans g167
   replace hC:=hC.trans g167
   simp only [p3,p4]
   refine sv 182 (.bool true) ?_
   refine sv 6 (.bool true) ?_
   refine sq_nil ?_
   refine k166 _ _ ?_
   try clear k166 K166
   refine wp_ret ?_
   refine bodyPost_ret (v:=(.bool true)) (ret_tmp rfl rfl) rfl ⟨?_,hB⟩
   exact rfl

theorem matrix_determinants {R N S M:Nat} {xa xb:Value} {ma mb:Mx_} {w:World} (hta:TA w xa R N ma) (htb:TA w xb S M mb) (z:Int) (hz:0≤z∧z≤255) (W:World) (hW:W=w) (ht:Tab W) (hm:Mx W):Calls Tryz.prog 11 #[xa,xb,.int .u8 z] W fun e w'=>e=.returned (.bool true)∧Gr W w':=by
  subst hW
  obtain ⟨_,Za,_,_,ea,zla,rfl,hsa,_⟩:=hta
  obtain ⟨_,_,_,_,_,_,rfl,hsb,_⟩:=htb
  obtain ⟨nn,rfl⟩:∃ nn:Nat,z=(nn:Int):=⟨z.toNat,by omega⟩
  by_cases hf:pl (nn % 5) (wid (nn % 5) (exm ea Za zla)) (nn % 5)<nn % 5
  · exact md_s rfl (by omega) hf hm ht hsa hsb
  · exact md_y rfl (by omega) hf hm ht hsa hsb
end Go.Proofs.YtepgkcimmdmgcaaGreatDoor
namespace Go.Proofs.YtepgkcimmdmgcaaGreatDoor
open Go.ChangeShapes Go.WideShapes Go.ChangeAt Go.RowKit

theorem matrixDeterminants_table {W : World} (h : laidMetH Tryz.prog Rows.matrixDeterminantsRow.laid W) : Tab W :=
  Lib.tabIs_of_head (rest := _) (g := 1) (t := 236) (e := 152) (n := 20) (by kernel_rfl) (by kernel_rfl) (by kernel_rfl) (by kernel_rfl) (by kernel_rfl) (by kernel_rfl) ((show laidMet Tryz.prog Rows.matrixDeterminantsRow.laid W from (MakeChecks.laidMetH_plain _ _ _ (by kernel_rfl)) ▸ h).tail.tail)
theorem matrixDeterminants_maxlen {W : World} (h : W.ShapedOpen Tryz.prog) : Mx W :=
  Go.Proofs.cell_of_shapedOpen_int (zero := #[.int .i64 0]) (g := 0) (t := 3) h (of_decide_eq_true (by kernel_rfl)) (by kernel_rfl) rfl (by kernel_rfl) (by kernel_rfl) Tryz.underlying3
set_option maxRecDepth 100000 in
theorem matrixDeterminants_contract (H : Type) (enc : TypeId × Value → H) (W : World) (base : Nat) (args : Array Value) (ds gs : List (DataW H)) (before : List MemPlace)
    (hval : ∀ (j : Nat) t v, Tryz.f11.params[j]? = some t → args[j]? = some v → Value.okWide Tryz.prog W .any base t v)
    (hW : DataW.Whole enc Tryz.prog Tryz.f11.params.toList Rows.matrixDeterminantsSpec.vars false W args.toList ds gs before) (hL : laidMetH Tryz.prog Rows.matrixDeterminantsRow.laid W) (hsh : W.ShapedOpen Tryz.prog) :
    Calls Tryz.prog 11 args W fun e W' => ∃ v, e = .returned v ∧ Rows.matrixDeterminantsSpec.post enc Tryz.prog Tryz.f11 false true false false W args v W' := by
  have hW' := hW
  obtain ⟨p, q, hA0, hV, rfl, hfz, hnd⟩ := hW
  have hA : DataW.TrodAll enc Tryz.prog W 0 (fun _ => true) true Tryz.f11.params.toList args.toList ds p := hA0
  rw [Tryz.params11] at hA hval
  obtain ⟨v0, vs0, d0, ds0, p0, q0, hargs, rfl, rfl, h0, r0⟩ := trodAll_cons hA
  obtain ⟨v1, vs1, d1, ds1, p1, q1, rfl, rfl, rfl, h1, r1⟩ := trodAll_cons r0
  obtain ⟨v2, vs2, d2, ds2, p2, q2, rfl, rfl, rfl, h2, r2⟩ := trodAll_cons r1
  obtain ⟨rfl, rfl, rfl⟩ := trodAll_nil r2
  obtain rfl : args = #[v0, v1, v2] := by cases args; simp_all
  obtain ⟨rfl, rfl⟩ := trodVars_none hV
  obtain ⟨z0, u0, T0, Xs0, rfl, bz0, sl0⟩ := open_tabk (E := ESl (EK [.i8, .u8]) 2) (k := .u8) (e := 45) (c := 1) (by kernel_rfl) (by kernel_rfl) (by decide) (fun _ _ _ _ hx => trod_esl (e := 114) (by kernel_rfl) (by kernel_rfl) (by decide) (trod_ek 5 (ks := [.i8, .u8]) (by kernel_rfl)) hx) (hval 0 24 v0 rfl rfl) h0
  obtain ⟨R0, N0, m0, ta0⟩ := ta_of sl0 (has_u8 bz0)
  obtain ⟨z1, u1, T1, Xs1, rfl, bz1, sl1⟩ := open_tabk (E := ESl (EK [.i8, .u8]) 2) (k := .u8) (e := 45) (c := 1) (by kernel_rfl) (by kernel_rfl) (by decide) (fun _ _ _ _ hx => trod_esl (e := 114) (by kernel_rfl) (by kernel_rfl) (by decide) (trod_ek 5 (ks := [.i8, .u8]) (by kernel_rfl)) hx) (hval 1 24 v1 rfl rfl) h1
  obtain ⟨R1, N1, m1, ta1⟩ := ta_of sl1 (has_u8 bz1)
  obtain ⟨n2_0, rfl, b2_0⟩ := open_cell (k := .u8) (by kernel_rfl) (hval 2 5 v2 rfl rfl)
  refine ((fun _ => matrix_determinants ta0 ta1 n2_0 (has_u8 b2_0) _ rfl)  W (matrixDeterminants_table hL) (matrixDeterminants_maxlen hsh)).mono fun e W' ⟨he, hg⟩ => ?_
  subst he
  exact ⟨_, rfl, law_post (tb := 4) laidOut (by kernel_rfl) (by kernel_rfl) (by kernel_rfl) rfl hW' rfl hg⟩
noncomputable def matrixDeterminants_world (os : Os) : World := World.laidAll Tryz.prog os Rows.matrixDeterminantsRow.laid
theorem matrixDeterminants_met (os : Os) : laidMet Tryz.prog Rows.matrixDeterminantsRow.laid ((matrixDeterminants_world os).forCall (fun _ _ => 0) ⟨#[], #[.agg #[.int .u8 0, .slice none 0 0], .agg #[.int .u8 0, .slice none 0 0], .int .u8 0], []⟩).memory :=
  laidMet_laidAll _ (by kernel_rfl) (by kernel_rfl)
theorem matrixDeterminants_reads (os : Os) {H : Type} (enc : TypeId × Value → H) : ∃ places, DataW.whole enc Tryz.prog ((matrixDeterminants_world os).forCall (fun _ _ => 0) ⟨#[], #[.agg #[.int .u8 0, .slice none 0 0], .agg #[.int .u8 0, .slice none 0 0], .int .u8 0], []⟩).memory Tryz.f11.params.toList Rows.matrixDeterminantsSpec.vars false (#[.agg #[.int .u8 0, .slice none 0 0], .agg #[.int .u8 0, .slice none 0 0], .int .u8 0] : Array Value).toList 8 = some ([.agg [.lit (.int .u8 0), .nil], .agg [.lit (.int .u8 0), .nil], .lit (.int .u8 0)], [], places) :=
  ⟨[], by kernel_rfl⟩
set_option maxRecDepth 100000 in
theorem matrixDeterminants_lifted (os : Os) (started : os.Started) (H : Type) (enc : TypeId × Value → H) (F : Stop.Interp) :
    ReturnsInHanded {} Tryz.checked os 11 .any ((OpenSpec.ofChange Rows.matrixDeterminantsSpec).preRow enc Tryz.prog Tryz.f11 Rows.matrixDeterminantsRow.domain false Rows.matrixDeterminantsRow.laid) (((OpenSpec.ofChange Rows.matrixDeterminantsSpec).at F).post enc Tryz.prog Tryz.f11 false true false false) := by
  obtain ⟨places, hx⟩ := matrixDeterminants_reads os enc
  refine returnsInHanded_of_row (C := Tryz.checked) (s := OpenSpec.ofChange Rows.matrixDeterminantsSpec) own started (by kernel_rfl) Tryz.func11
    (witness_row_sh (enc := enc) (C := Tryz.checked) false (matrixDeterminants_world os) #[.agg #[.int .u8 0, .slice none 0 0], .agg #[.int .u8 0, .slice none 0 0], .int .u8 0] (World.laidAll_os _ _ _) (World.shaped_of_ZipB (by kernel_rfl) (by kernel_rfl)) (by kernel_rfl)
      (OpenSpec.preRow_of_cond 8 hx (by kernel_rfl) (fun k hk => by cases hk) (by kernel_rfl) (by rw [MakeChecks.laidMetH_plain _ _ _ (by kernel_rfl)]; exact matrixDeterminants_met os))) ?_
  intro W base args ds gs before hval hW _ _ _ hL hsh _
  exact matrixDeterminants_contract H enc W base args ds gs before hval hW hL hsh
theorem matrixDeterminants_said : Rows.MatrixDeterminantsSaid :=
  OpenClaim.holds_of_cond 11 Tryz.f11 rfl rfl rfl rfl rfl rfl rfl ⟨rfl, rfl, rfl, rfl, rfl⟩ rfl rfl rfl rfl rfl (by kernel_rfl) Tryz.func11 (by kernel_rfl)
    (of_decide_eq_true (by kernel_rfl)) (by unfold Func.isWrapper; first | (rw [if_pos (by decide +kernel)]; kernel_rfl) | (rw [if_neg (by decide +kernel)]; exact ⟨rfl, rfl⟩))
    (fun os started H enc _ F => by rw [OpenClaim.pre_eq_preRow]; exact matrixDeterminants_lifted os started H enc F)
theorem matrixDeterminants_plain (f : FuncId) (fn : Func) (hf : Tryz.pinned.checked.prog.funcNamed "dowel/dowellaw05.MatrixDeterminants" = some f) (hfn : Tryz.pinned.checked.prog.funcs[f]? = some fn) :
    true = Tryz.pinned.checked.prog.looks [] ∧ ∀ (j : Nat) t, fn.params[j]? = some t → Tryz.pinned.checked.prog.wantsStandIn t = false := by
  obtain rfl : f = 11 := Option.some.inj ((show Tryz.prog.funcNamed "dowel/dowellaw05.MatrixDeterminants" = some 11 by kernel_rfl).symm.trans hf) |>.symm
  obtain rfl : fn = Tryz.f11 := (Option.some.inj (Tryz.func11.symm.trans hfn)).symm
  refine ⟨by kernel_rfl, fun j t ht => ?_⟩
  rw [Tryz.params11] at ht
  have hm := Array.mem_of_getElem? ht
  have hall : (#[24, 24, 5] : Array TypeId).toList.all (fun t => !Tryz.prog.wantsStandIn t) = true := by kernel_rfl
  have := List.all_eq_true.1 hall t (Array.mem_toList_iff.2 hm)
  have h3 : Tryz.prog.wantsStandIn t = false := by simpa using this
  exact h3
/-- the card -/
theorem matrixDeterminants_card : Rows.MatrixDeterminantsCardSaid :=
  Claim7.holds_tied_plain_at .later [] _ _ _ _ matrixDeterminants_said (fun _ h => by cases h) (by kernel_rfl) (fun _ h => by cases h) matrixDeterminants_row_tie rfl ⟨rfl, rfl⟩ (by kernel_rfl) rfl matrixDeterminants_plain (by kernel_rfl)
end Go.Proofs.YtepgkcimmdmgcaaGreatDoor
