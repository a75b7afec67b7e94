/- Joined of: Fl, Gen92, Scal, Stq, Wh, Gen121, Who, Wg, Qt, Qr, Gen131, Plc, Rda, Gen47, Gen69. -/
import Derived.Test.YtaldbfflkpgfoaaGreatDoorPartE
import Init.Data.Rat.Lemmas
import Derived.Test.YtaldbfflkpgfoaaGreatDoorPartD
import Derived.Test.YtaldbfflkpgfoaaGreatDoorPartA
import Derived.Test.YtaldbfflkpgfoaaGreatDoorPartB
/- An array that a range over a motion's entries fills. -/
namespace Go.Proofs.YtaldbfflkpgfoaaGreatDoor
open Go.RowKit

theorem one1_all {vs:List Value} (h:∀ v ∈ vs,v.oneCell'=true):One1 vs:=by
  induction vs with
  | nil=>trivial
  | cons v vs ih=>exact ⟨h v (by simp),ih (fun u hu=>h u (by simp [hu]))⟩
theorem getD_one {L:List Value} (h:One1 L) {i:Nat} (hi:i<L.length):(L.getD i undef).oneCell'=true:=by
  rw [List.getD_eq_getElem?_getD,List.getElem?_eq_getElem hi]
  exact One1.all h _ (List.getElem_mem hi)
theorem ent_one {L:List Value} (h:One1 L) (h48:L.length=48) (k:Fin 12):One1 (ent L k):=
  ⟨getD_one h (by omega),getD_one h (by omega),getD_one h (by omega),getD_one h (by omega),trivial⟩
theorem ent_take {L:List Value} (h48:L.length=48) (k:Fin 12):(L.drop (4*k.val)).take 4=ent L k:=by
  apply List.ext_getElem?
  intro i
  have hk:=k.isLt
  by_cases hi:i<4
  · rw [List.getElem?_take_of_lt hi,List.getElem?_drop,List.getElem?_eq_getElem (by omega)]
    unfold ent
    simp only [List.getD_eq_getElem?_getD]
    match i,hi with
    | 0,_=>simp [List.getElem?_eq_getElem (show 4*k.val<L.length by omega)]
    | 1,_=>simp [List.getElem?_eq_getElem (show 4*k.val+1<L.length by omega)]
    | 2,_=>simp [List.getElem?_eq_getElem (show 4*k.val+2<L.length by omega)]
    | 3,_=>simp [List.getElem?_eq_getElem (show 4*k.val+3<L.length by omega)]
  · rw [List.getElem?_eq_none (by simp;omega),List.getElem?_eq_none (by simp [ent];omega)]
/-- m entries' place;those of pre are L's -/
structure Fills (m:Nat) (L:List Value) (pre:List (Fin 12)) (xs:List Value):Prop where
  len:xs.length=4*m
  one:One1 xs
  eq:∀ k ∈ pre,k.val<m→(xs.drop (4*k.val)).take 4=ent L k
theorem Fills.skip {m:Nat} {L xs:List Value} {pre:List (Fin 12)} {k:Fin 12} (h:Fills m L pre xs) (hk:¬ k.val<m):Fills m L (pre++[k]) xs:=
  ⟨h.len,h.one,fun j hj hm=>by
    rcases List.mem_append.1 hj with hj | hj
    · exact h.eq j hj hm
    · simp only [List.mem_singleton] at hj;subst hj;exact absurd hm hk⟩
theorem Fills.step {m:Nat} {L xs:List Value} {pre:List (Fin 12)} {k:Fin 12} (h:Fills m L pre xs) (h1:One1 L) (h48:L.length=48) (hk:k.val<m):
    ∃ ys,writeAt xs.toArray (4*k.val) (ent L k)=ys.toArray∧Fills m L (pre++[k]) ys:=by
  have hlen:(ent L k).length=4:=rfl
  have hw:=writeAt_list (ent L k) (4*k.val) xs (by rw [hlen,h.len];omega)
  refine ⟨_,hw,⟨?_,?_,?_⟩⟩
  · simp [hlen,h.len];omega
  · refine one1_all fun v hv=>?_
    rcases List.mem_append.1 hv with hv | hv
    · rcases List.mem_append.1 hv with hv | hv
      · exact One1.all h.one v (List.mem_of_mem_take hv)
      · exact One1.all (ent_one h1 h48 k) v hv
    · exact One1.all h.one v (List.mem_of_mem_drop hv)
  · intro j hj hm
    by_cases e:j=k
    · subst e
      rw [List.append_assoc,List.drop_append_of_le_length (by simp [h.len];omega)]
      rw [List.drop_of_length_le (by simp;omega)]
      rw [List.nil_append,List.take_append_of_le_length (by simp [hlen]),List.take_of_length_le (by simp [hlen])]
    · have hj':j ∈ pre:=by
        rcases List.mem_append.1 hj with hj | hj
        · exact hj
        · simp only [List.mem_singleton] at hj;exact absurd hj e
      rw [← h.eq j hj' hm]
      have hne:j.val≠k.val:=fun h=>e (Fin.ext h)
      apply List.ext_getElem?
      intro i
      by_cases hi:i<4
      · rw [List.getElem?_take_of_lt hi,List.getElem?_take_of_lt hi,List.getElem?_drop,List.getElem?_drop]
        by_cases hlt:j.val<k.val
        · rw [List.append_assoc,List.getElem?_append_left (by simp [h.len];omega),List.getElem?_take_of_lt (by omega)]
        · rw [List.getElem?_append_right (by simp [h.len,hlen];omega),List.getElem?_drop]
          congr 1
          simp [h.len,hlen];omega
      · rw [List.getElem?_eq_none (by simp;omega),List.getElem?_eq_none (by simp;omega)]
theorem Fills.done {m:Nat} {L xs:List Value} (h:Fills m L all12 xs) (hm:m≤12) (h48:L.length=48):xs=L.take (4*m):=by
  apply List.ext_getElem?
  intro i
  by_cases hi:i<4*m
  · have hq:i/4<12:=by omega
    have:=h.eq ⟨i/4,hq⟩ (mem_all12 _) (by show i/4<m;omega)
    rw [← ent_take h48] at this
    have h2:=congrArg (fun l=>l[i % 4]?) this
    simp only [] at h2
    rw [List.getElem?_take_of_lt (by omega),List.getElem?_take_of_lt (by omega),List.getElem?_drop,List.getElem?_drop] at h2
    have e:4*(i/4)+i % 4=i:=by omega
    rw [e] at h2
    rw [h2,List.getElem?_take_of_lt hi]
  · rw [List.getElem?_eq_none (by rw [h.len];omega),List.getElem?_eq_none (by simp;omega)]
/-- an element's place in an array -/
theorem rv_aix {P:Program} {a:Act} {o:Oper} {w:World} (t:TypeId) (x y:Operand) (b len elem sz k:Nat) (hk:k<len) (hop:o.op=.indexAddr t x y:=by rfl) (hx:a.eval x=.pointer (some ⟨b,0,none⟩):=by rfl) (hy:a.eval y=.int .i64 (k:Int):=by rfl)
    (hu:P.underlying t=some (.array len elem):=by kernel_rfl) (hs:(P.info? elem).map (·.size)=some sz:=by kernel_rfl):RunV P a o w (.pointer (some ⟨b,sz*k,none⟩)):=by
  obtain ⟨i,hi,hsz⟩:=Option.map_eq_some_iff.1 hs
  have h2:(0:Int)≤(k:Int)∧(k:Int)<(len:Int):=by omega
  unfold RunV execOp
  simp only [hop,hx,hy]
  by_cases h0:sz*k=0<;>simp [Instr.indexAt,Instr.sureAddr,asIntOf,run_underlying hu,sizeOf,typeInfo,hi,hsz,h2,hk,h0,Addr.add,Nat.mul_comm k sz]
theorem ret_cell1 {P:Program} {w:World} {fn:Func} {tmps:Array Value} {p:Tmp} {t:TypeId} (b:Nat) (v:Value) (tt:TypeId) (h:fn.results=#[.cell p t]) (hp:tmps.getD p undef=.pointer (some ⟨b,0,none⟩)) (hL:Lc w b #[v] tt) (hs:oneSize P t=true):
    (results fn tmps).run P w=.ok v w:=by
  have hl:(loadVar t ⟨b,0,none⟩).run P w=.ok v w:=by
    unfold oneSize at hs
    have hc:w.cell? ⟨b,0,none⟩=some v:=by rw [cells_of hL];rfl
    cases hd:P.underlying t with
    | none=>rw [hd] at hs;cases hs
    | some d=>
      rw [hd] at hs
      have hagg:(isAgg t).run P w=.ok false w:=by
        unfold isAgg
        rw [Sem.run_bind,run_underlying hd w]
        cases d<;>first | cases hs | rfl
      simp only [loadVar,Sem.run_bind,hagg,Result.andThen_ok]
      simp [load,Sem.run,hc]
  simp only [Array.getD_eq_getD_getElem?] at hp
  simp [results,h,asAddr,hp,hl]
def IsMk (w:World) (D:Nat):Prop:=w.heap[D]?=some (.deferred (some []))
theorem IsMk.gr {w w':World} {D:Nat} (h:IsMk w D) (g:Gr w w'):IsMk w' D:=g.heap h
theorem IsMk.lt {w:World} {D:Nat} (h:IsMk w D):D<w.heap.size:=heap_lt h
theorem IsMk.ne {w:World} {D c:Nat} (h:IsMk w D) (hc:w.heap.size≤c):D≠c:=fun e=>by have:=h.lt;omega
theorem IsMk.st {w w':World} {b D:Nat} (hm:IsMk w D) (h:St w w' b) (hne:D≠b):IsMk w' D:=(h.block D hne).trans hm
theorem own_mk {β:Type} {w:World} {D:Nat} (h:IsMk w D):OwnFrom w.heap.size (fun (_:β) W=>IsMk W D):=fun _ X Y row hs hg hr=>
  (hg.block D (heap_lt hs) (fun e=>by have:=(hr D e.symm).1;have:=h.lt;omega)).trans hs
theorem own_kp {β:Type} (B:Nat) (w:World):OwnFrom B (fun (_:β) W=>Kp w W):=fun _ X Y row hs hg hr b cs fr hb=>by
  have h:=hs b cs fr hb
  refine (hg.block b (heap_lt h) (fun e=>?_)).trans h
  obtain ⟨_,o,ho,hc⟩:=hr b e.symm
  rw [h] at ho;cases ho;cases hc
section
variable {P:Program} {ops:Array Oper} {Q:Exit→Act→World→Prop}
/-- an operation that is ready,looked at alone -/
def ready1 (ops:Array Oper) (listed:Array Bool) (i:Nat):Bool:=
  decide (i<ops.size)&&(!listed.getD i true&&((ops[i]?).map (·.after.all fun e=>!Region.binds .any e||listed.getD e.on false)).getD false)
theorem ready1_eq (ops:Array Oper) (listed:Array Bool) (i:Nat):(Region.ready .any ops listed).contains i=ready1 ops listed i:=by
  rw [Bool.eq_iff_iff,List.contains_iff_mem]
  unfold Region.ready ready1
  rw [List.mem_filter,List.mem_range,Bool.and_eq_true (decide _),decide_eq_true_eq]
/-- as okFlo,with less to reckon -/
def okFlo2 (ops:Array Oper) (fl:List Fl) (tl:List (Bool × Nat)):List (Bool × Nat)→Array Bool→Bool
  | [],listed=>okOrd ops tl (setFl listed fl)&&
      fl.all fun f=>ready1 ops listed f.op&&decide (Region.ready .any ops (setFl listed (fl.filter (·.op !=f.op)))=[f.op])
  | (true,i)::rest,listed=>ready1 ops listed i&&Region.free .any ops listed i&&okFlo2 ops fl tl rest (listed.setIfInBounds i true)
  | (false,i)::rest,listed=>ready1 ops listed i&&decide (Region.ready .any ops (setFl listed fl)=[i])&&okFlo2 ops fl tl rest (listed.setIfInBounds i true)
theorem okFlo2_eq (fl:List Fl) (tl:List (Bool × Nat)):∀ (l:List (Bool × Nat)) (listed:Array Bool),okFlo ops fl tl l listed=okFlo2 ops fl tl l listed
  | [],listed=>by simp only [okFlo,okFlo2,ready1_eq]
  | (true,i)::rest,listed=>by simp only [okFlo,okFlo2,ready1_eq,okFlo2_eq fl tl rest]
  | (false,i)::rest,listed=>by simp only [okFlo,okFlo2,ready1_eq,okFlo2_eq fl tl rest]
theorem wp_region_flo2 {id:Nat} {a:Act} {w:World} (S:World→Prop) (l:List (Bool × Nat)) (fl:List Fl) (tl:List (Bool × Nat)) (hm:P.follows .mixedOrders=true) (hs:Region.noSelect ops=true)
    (hok:okFlo2 ops fl tl l (Array.replicate ops.size false)=true) (hap:okAp ops fl l=true) (hal:okAl ops fl=true) (hl:l.length+fl.length+tl.length≤ops.size)
    (hQ:∀ c (a:Act) (d:Tmp) v w,Q (.panic c) (a.put (some d) v) w→Q (.panic c) a w) (hQ':∀ c (a:Act) (d:Tmp) v w,Q (.panic c) a w→Q (.panic c) (a.put (some d) v) w) (hSa:∀ w o,S w→S (w.alloc o)) (hS:S w.drew)
    (hz:∀ f ∈ fl,∀ w,(Instr.alloc f.ty true (.tuple #[])).run P w=.ok (.pointer (some ⟨w.heap.size,0,none⟩)) (w.alloc (.cells f.zero f.ty)))
    (h:wpFlo P ops Q S (FloFin P ops Q S w.heap.size fl tl) l a w.drew):(Code.region id ops true).wp P Q a w:=
  wp_region_flo S l fl tl hm hs (by rw [okFlo2_eq];exact hok) hap hal hl hQ hQ' hSa hS hz h
end
section
variable {P:Program} {ops:Array Oper} {Q:Exit→Act→World→Prop}
/-- a number's bits say what is listed -/
def Agree (n:Nat) (listed:Array Bool) (m:Nat):Prop:=listed.size=n∧∀ i,listed.getD i false=m.testBit i
theorem Agree.t {n:Nat} {listed:Array Bool} {m i:Nat} (h:Agree n listed m) (hi:i<n):listed.getD i true=m.testBit i:=by
  rw [← h.2 i]
  have:i<listed.size:=by rw [h.1];exact hi
  simp [Array.getD,this]
theorem Agree.zero (n:Nat):Agree n (Array.replicate n false) 0:=⟨by simp,fun i=>by simp [Array.getD]⟩
theorem Agree.set {n:Nat} {listed:Array Bool} {m i:Nat} (h:Agree n listed m) (hi:i<n):Agree n (listed.setIfInBounds i true) (m|||2 ^ i):=by
  refine ⟨by simp [h.1],fun j=>?_⟩
  rw [Nat.testBit_or,Nat.testBit_two_pow,← h.2 j]
  have hs:i<listed.size:=by rw [h.1];exact hi
  by_cases e:i=j
  · subst e;simp [Array.getD,hs]
  · simp [Array.getD_eq_getD_getElem?,Array.getElem?_setIfInBounds_ne e,e]
def afterM (m:Nat) (o:Oper):Bool:=o.after.all fun e=>!Region.binds .any e||m.testBit e.on
def readyM:List Oper→Nat→Nat→List Nat
  | [],_,_=>[]
  | o::r,k,m=>if !m.testBit k&&afterM m o then k::readyM r (k+1) m else readyM r (k+1) m
def freeM (ops:Array Oper) (oi:Oper) (i m:Nat):List Oper→Nat→Bool
  | [],_=>true
  | oj::r,k=>(k==i||m.testBit k||(oj.after.any (fun e=>Region.binds .any e&&e.on==i)||oi.apart ops oj))&&freeM ops oi i m r (k+1)
def ready1M (ops:Array Oper) (m i:Nat):Bool:=match ops[i]? with | some o=>!m.testBit i&&afterM m o | none=>false
theorem ready1M_eq {listed:Array Bool} {m:Nat} (h:Agree ops.size listed m) (i:Nat):ready1 ops listed i=ready1M ops m i:=by
  unfold ready1 ready1M afterM
  by_cases hi:i<ops.size
  · rw [decide_eq_true hi,Bool.true_and,Array.getElem?_eq_getElem hi]
    simp only [Option.map_some,Option.getD_some,h.t hi,h.2]
  · rw [decide_eq_false hi,Bool.false_and,Array.getElem?_eq_none (by omega)]
theorem readyM_eq {listed:Array Bool} {m:Nat} (h:Agree ops.size listed m):Region.ready .any ops listed=readyM ops.toList 0 m:=by
  have go:∀ (r:List Oper) (k:Nat),ops.toList.drop k=r→k+r.length=ops.size→(List.range' k r.length).filter (fun i=>!listed.getD i true&&((ops[i]?).map (·.after.all fun e=>!Region.binds .any e||listed.getD e.on false)).getD false)=readyM r k m:=by
    intro r
    induction r with
    | nil=>intro k _ _;rfl
    | cons o r ih=>
      intro k hd hk
      simp only [List.length_cons] at hk
      have hk':k<ops.size:=by omega
      have ho:ops[k]?=some o:=by
        have:ops.toList[k]?=some o:=by
          have:=congrArg List.head? hd
          rw [List.head?_drop] at this
          simpa using this
        simpa using this
      have hd':ops.toList.drop (k+1)=r:=by
        have:=congrArg List.tail hd
        rw [List.tail_drop] at this
        simpa using this
      rw [List.length_cons,List.range'_succ,List.filter_cons,ih (k+1) hd' (by omega)]
      simp only [ho,Option.map_some,Option.getD_some,h.t hk',h.2]
      rfl
  unfold Region.ready
  have:=go ops.toList 0 rfl (by simp)
  rw [List.range_eq_range']
  simpa using this
theorem freeM_eq {listed:Array Bool} {m i:Nat} {oi:Oper} (h:Agree ops.size listed m) (hi:ops[i]?=some oi):Region.free .any ops listed i=freeM ops oi i m ops.toList 0:=by
  have go:∀ (r:List Oper) (k:Nat),ops.toList.drop k=r→k+r.length=ops.size→((List.range' k r.length).all fun j=>j==i||listed.getD j true||match ops[j]? with
      | some oj=>oj.after.any (fun e=>Region.binds .any e&&e.on==i)||oi.apart ops oj
      | none=>true)=freeM ops oi i m r k:=by
    intro r
    induction r with
    | nil=>intro k _ _;rfl
    | cons o r ih=>
      intro k hd hk
      simp only [List.length_cons] at hk
      have hk':k<ops.size:=by omega
      have ho:ops[k]?=some o:=by
        have:ops.toList[k]?=some o:=by
          have:=congrArg List.head? hd
          rw [List.head?_drop] at this
          simpa using this
        simpa using this
      have hd':ops.toList.drop (k+1)=r:=by
        have:=congrArg List.tail hd
        rw [List.tail_drop] at this
        simpa using this
      rw [List.length_cons,List.range'_succ,List.all_cons,ih (k+1) hd' (by omega)]
      simp only [ho,h.t hk']
      rfl
  unfold Region.free
  have:=go ops.toList 0 rfl (by simp)
  rw [Array.length_toList] at this
  simp only [hi]
  rw [List.range_eq_range']
  exact this
def free1M (ops:Array Oper) (m i:Nat):Bool:=match ops[i]? with | some o=>freeM ops o i m ops.toList 0 | none=>false
theorem free1M_eq {listed:Array Bool} {m:Nat} (h:Agree ops.size listed m) (i:Nat):Region.free .any ops listed i=free1M ops m i:=by
  unfold free1M
  cases hi:ops[i]? with
  | none=>unfold Region.free;rw [hi]
  | some o=>exact freeM_eq h hi
def okOrdM (ops:Array Oper):List (Bool × Nat)→Nat→Bool
  | [],m=>(readyM ops.toList 0 m).isEmpty
  | (true,i)::rest,m=>ready1M ops m i&&free1M ops m i&&okOrdM ops rest (m|||2 ^ i)
  | (false,i)::rest,m=>decide (readyM ops.toList 0 m=[i])&&okOrdM ops rest (m|||2 ^ i)
theorem ready1M_lt {m i:Nat} (h:ready1M ops m i=true):i<ops.size:=by
  unfold ready1M at h
  split at h
  · next o ho=>exact (Array.getElem?_eq_some_iff.1 ho).1
  · cases h
theorem readyM_lt {listed:Array Bool} {m i:Nat} (h:Agree ops.size listed m) (hr:readyM ops.toList 0 m=[i]):i<ops.size:=by
  rw [← readyM_eq h] at hr
  have:i ∈ Region.ready .any ops listed:=by rw [hr];simp
  unfold Region.ready at this
  exact List.mem_range.1 (List.mem_filter.1 this).1
theorem okOrdM_ok:∀ (l:List (Bool × Nat)) (listed:Array Bool) (m:Nat),Agree ops.size listed m→okOrdM ops l m=true→okOrd ops l listed=true
  | [],listed,m,h,ho=>by rw [okOrd,readyM_eq h];exact ho
  | (true,i)::rest,listed,m,h,ho=>by
    simp only [okOrdM,Bool.and_eq_true] at ho
    have hi:=ready1M_lt ho.1.1
    rw [okOrd,ready1_eq,ready1M_eq h,free1M_eq h,ho.1.1,ho.1.2,okOrdM_ok rest _ _ (h.set hi) ho.2];rfl
  | (false,i)::rest,listed,m,h,ho=>by
    simp only [okOrdM,Bool.and_eq_true,decide_eq_true_eq] at ho
    have hi:=readyM_lt h ho.1
    rw [okOrd,readyM_eq h,decide_eq_true ho.1,okOrdM_ok rest _ _ (h.set hi) ho.2];rfl
def setM (m:Nat) (fl:List Fl):Nat:=fl.foldl (fun m f=>m|||2 ^ f.op) m
theorem Agree.setFl:∀ (fl:List Fl) {n:Nat} {listed:Array Bool} {m:Nat},Agree n listed m→(∀ f ∈ fl,f.op<n)→Agree n (Go.Proofs.YtaldbfflkpgfoaaGreatDoor.setFl listed fl) (setM m fl)
  | [],_,_,_,h,_=>h
  | f::fl,n,listed,m,h,hf=>Agree.setFl fl (h.set (hf f (by simp))) (fun g hg=>hf g (by simp [hg]))
def okFloM (ops:Array Oper) (fl:List Fl) (tl:List (Bool × Nat)):List (Bool × Nat)→Nat→Bool
  | [],m=>okOrdM ops tl (setM m fl)&&
      fl.all fun f=>ready1M ops m f.op&&decide (readyM ops.toList 0 (setM m (fl.filter (·.op !=f.op)))=[f.op])
  | (true,i)::rest,m=>ready1M ops m i&&free1M ops m i&&okFloM ops fl tl rest (m|||2 ^ i)
  | (false,i)::rest,m=>ready1M ops m i&&decide (readyM ops.toList 0 (setM m fl)=[i])&&okFloM ops fl tl rest (m|||2 ^ i)
theorem okFloM_ok (fl:List Fl) (tl:List (Bool × Nat)) (hfl:∀ f ∈ fl,f.op<ops.size):∀ (l:List (Bool × Nat)) (listed:Array Bool) (m:Nat),Agree ops.size listed m→okFloM ops fl tl l m=true→okFlo2 ops fl tl l listed=true
  | [],listed,m,h,ho=>by
    simp only [okFloM,Bool.and_eq_true,List.all_eq_true] at ho
    simp only [okFlo2,Bool.and_eq_true,List.all_eq_true]
    refine ⟨okOrdM_ok tl _ _ (Agree.setFl fl h hfl) ho.1,fun f hf=>?_⟩
    have hs:=Agree.setFl (fl.filter (·.op !=f.op)) h (fun g hg=>hfl g (List.mem_filter.1 hg).1)
    rw [ready1M_eq h,readyM_eq hs]
    exact ho.2 f hf
  | (true,i)::rest,listed,m,h,ho=>by
    simp only [okFloM,Bool.and_eq_true] at ho
    have hi:=ready1M_lt ho.1.1
    rw [okFlo2,ready1M_eq h,free1M_eq h,ho.1.1,ho.1.2,okFloM_ok fl tl hfl rest _ _ (h.set hi) ho.2];rfl
  | (false,i)::rest,listed,m,h,ho=>by
    simp only [okFloM,Bool.and_eq_true,decide_eq_true_eq] at ho
    have hi:=ready1M_lt ho.1.1
    rw [okFlo2,ready1M_eq h,readyM_eq (Agree.setFl fl h hfl),ho.1.1,decide_eq_true ho.1.2,okFloM_ok fl tl hfl rest _ _ (h.set hi) ho.2];rfl
theorem wp_region_floM {id:Nat} {a:Act} {w:World} (S:World→Prop) (l:List (Bool × Nat)) (fl:List Fl) (tl:List (Bool × Nat)) (hm:P.follows .mixedOrders=true) (hs:Region.noSelect ops=true)
    (hok:(okFloM ops fl tl l 0&&fl.all fun f=>decide (f.op<ops.size))=true) (hap:okAp ops fl l=true) (hal:okAl ops fl=true) (hl:l.length+fl.length+tl.length≤ops.size)
    (hQ:∀ c (a:Act) (d:Tmp) v w,Q (.panic c) (a.put (some d) v) w→Q (.panic c) a w) (hQ':∀ c (a:Act) (d:Tmp) v w,Q (.panic c) a w→Q (.panic c) (a.put (some d) v) w) (hSa:∀ w o,S w→S (w.alloc o)) (hS:S w.drew)
    (hz:∀ f ∈ fl,∀ w,(Instr.alloc f.ty true (.tuple #[])).run P w=.ok (.pointer (some ⟨w.heap.size,0,none⟩)) (w.alloc (.cells f.zero f.ty)))
    (h:wpFlo P ops Q S (FloFin P ops Q S w.heap.size fl tl) l a w.drew):(Code.region id ops true).wp P Q a w:=by
  rw [Bool.and_eq_true,List.all_eq_true] at hok
  exact wp_region_flo2 S l fl tl hm hs (okFloM_ok fl tl (fun f hf=>of_decide_eq_true (hok.2 f hf)) l _ 0 (Agree.zero _) hok.1) hap hal hl hQ hQ' hSa hS hz h
end
end Go.Proofs.YtaldbfflkpgfoaaGreatDoor
/- Printed by a program of the prover's:motions that are compared. -/
namespace Go.Proofs.YtaldbfflkpgfoaaGreatDoor
open Go.RowKit

set_option maxRecDepth 100000 in
set_option maxHeartbeats 1000000 in
theorem ments {c0 c1 c2 c3 c4 c5 c6 c7 c8 c9 c10 c11 c12 c13 c14 c15 c16 c17 c18 c19 c20 c21 c22 c23 c24 c25 c26 c27 c28 c29 c30 c31 c32 c33 c34 c35 c36 c37 c38 c39 c40 c41 c42 c43 c44 c45 c46 c47:Value} (w:World) (_o0:c0.oneCell'=true) (_o1:c1.oneCell'=true) (o2:c2.oneCell'=true) (_o3:c3.oneCell'=true) (_o4:c4.oneCell'=true) (_o5:c5.oneCell'=true) (_o6:c6.oneCell'=true) (_o7:c7.oneCell'=true) (_o8:c8.oneCell'=true) (_o9:c9.oneCell'=true) (_o10:c10.oneCell'=true) (_o11:c11.oneCell'=true) (_o12:c12.oneCell'=true) (_o13:c13.oneCell'=true) (_o14:c14.oneCell'=true) (_o15:c15.oneCell'=true) (_o16:c16.oneCell'=true) (_o17:c17.oneCell'=true) (_o18:c18.oneCell'=true) (_o19:c19.oneCell'=true) (_o20:c20.oneCell'=true) (_o21:c21.oneCell'=true) (_o22:c22.oneCell'=true) (_o23:c23.oneCell'=true) (_o24:c24.oneCell'=true) (_o25:c25.oneCell'=true) (_o26:c26.oneCell'=true) (_o27:c27.oneCell'=true) (_o28:c28.oneCell'=true) (_o29:c29.oneCell'=true) (_o30:c30.oneCell'=true) (_o31:c31.oneCell'=true) (_o32:c32.oneCell'=true) (_o33:c33.oneCell'=true) (_o34:c34.oneCell'=true) (_o35:c35.oneCell'=true) (_o36:c36.oneCell'=true) (_o37:c37.oneCell'=true) (_o38:c38.oneCell'=true) (_o39:c39.oneCell'=true) (_o40:c40.oneCell'=true) (_o41:c41.oneCell'=true) (_o42:c42.oneCell'=true) (_o43:c43.oneCell'=true) (_o44:c44.oneCell'=true) (_o45:c45.oneCell'=true) (_o46:c46.oneCell'=true) (_o47:c47.oneCell'=true):
    Calls Tryz.prog 61 #[(.agg #[c0,c1,c2,c3,c4,c5,c6,c7,c8,c9,c10,c11,c12,c13,c14,c15,c16,c17,c18,c19,c20,c21,c22,c23,c24,c25,c26,c27,c28,c29,c30,c31,c32,c33,c34,c35,c36,c37,c38,c39,c40,c41,c42,c43,c44,c45,c46,c47])] w fun e w'=>(∃ bm,e=.returned (.func (.func 98) #[] #[.pointer (some ⟨bm,0,none⟩)])∧Lc w' bm #[c0,c1,c2,c3,c4,c5,c6,c7,c8,c9,c10,c11,c12,c13,c14,c15,c16,c17,c18,c19,c20,c21,c22,c23,c24,c25,c26,c27,c28,c29,c30,c31,c32,c33,c34,c35,c36,c37,c38,c39,c40,c41,c42,c43,c44,c45,c46,c47] 41)∧Gr w w':=by
 go_enter Tryz.func61,Tryz.ntmps61
 have hB:=Gr.refl w
 refine wp_seq_k (fun K1 k1=>?_)
 refine rg [0,1] ?_
 refine se ?_
 refine eb 41 #[c0,c1,c2,c3,c4,c5,c6,c7,c8,c9,c10,c11,c12,c13,c14,c15,c16,c17,c18,c19,c20,c21,c22,c23,c24,c25,c26,c27,c28,c29,c30,c31,c32,c33,c34,c35,c36,c37,c38,c39,c40,c41,c42,c43,c44,c45,c46,c47] 1 hB fun b2 w2 g2 L2 o2 q2 hB=>?_
 simp only [p3,p4]
 refine sv 2 .nilFunc ?_
 refine sq_nil ?_
 refine k1 _ _ ?_
 try clear k1 K1
 refine wp_seq_k (fun K3 k3=>?_)
 refine rg [0,1] ?_
 refine sv 3 (.func (.func 98) #[] #[(.pointer (some ⟨b2,0,none⟩))]) ?_
 refine sv 2 (.func (.func 98) #[] #[(.pointer (some ⟨b2,0,none⟩))]) ?_
 refine sq_nil ?_
 refine k3 _ _ ?_
 try clear k3 K3
 refine wp_ret ?_
 refine bodyPost_ret (v:=(.func (.func 98) #[] #[(.pointer (some ⟨b2,0,none⟩))])) (ret_tmp rfl rfl) rfl ⟨?_,hB⟩
 exact ⟨_,rfl,L2⟩

theorem rcmp12 {xs ys:List Rat} (hx:xs.length=12) (hy:ys.length=12):(∀ j ∈ all12,rcmp (xs.getD j.val 0) (ys.getD j.val 0)=0)↔xs=ys:=by
  constructor
  · intro h
    apply List.ext_getElem?
    intro i
    by_cases hi:i<12
    · have:=rcmp_zero.1 (h ⟨i,hi⟩ (mem_all12 _))
      simp only [List.getD_eq_getElem?_getD,List.getElem?_eq_getElem (show i<xs.length by omega),List.getElem?_eq_getElem (show i<ys.length by omega),Option.getD_some] at this
      rw [List.getElem?_eq_getElem (show i<xs.length by omega),List.getElem?_eq_getElem (show i<ys.length by omega),this]
    · rw [List.getElem?_eq_none (by omega),List.getElem?_eq_none (by omega)]
  · rintro rfl j _
    exact rcmp_zero.2 rfl
set_option maxRecDepth 100000 in
set_option maxHeartbeats 4000000 in
theorem mequal {k m:Nat} {maax0 maax1 maax2 maax3 maay0 maay1 maay2 maay3 maaz0 maaz1 maaz2 maaz3 mabx0 mabx1 mabx2 mabx3 maby0 maby1 maby2 maby3 mabz0 mabz1 mabz2 mabz3 macx0 macx1 macx2 macx3 macy0 macy1 macy2 macy3 macz0 macz1 macz2 macz3 madx0 madx1 madx2 madx3 mady0 mady1 mady2 mady3 madz0 madz1 madz2 madz3:Value} {ma11 ma12 ma13 ma21 ma22 ma23 ma31 ma32 ma33 ma41 ma42 ma43:Rat} {mbax0 mbax1 mbax2 mbax3 mbay0 mbay1 mbay2 mbay3 mbaz0 mbaz1 mbaz2 mbaz3 mbbx0 mbbx1 mbbx2 mbbx3 mbby0 mbby1 mbby2 mbby3 mbbz0 mbbz1 mbbz2 mbbz3 mbcx0 mbcx1 mbcx2 mbcx3 mbcy0 mbcy1 mbcy2 mbcy3 mbcz0 mbcz1 mbcz2 mbcz3 mbdx0 mbdx1 mbdx2 mbdx3 mbdy0 mbdy1 mbdy2 mbdy3 mbdz0 mbdz1 mbdz2 mbdz3:Value} {mb11 mb12 mb13 mb21 mb22 mb23 mb31 mb32 mb33 mb41 mb42 mb43:Rat} {w:World} (hma11:IsRat w k maax0 maax1 maax2 maax3 ma11) (hma12:IsRat w k maay0 maay1 maay2 maay3 ma12) (hma13:IsRat w k maaz0 maaz1 maaz2 maaz3 ma13) (hma21:IsRat w k mabx0 mabx1 mabx2 mabx3 ma21) (hma22:IsRat w k maby0 maby1 maby2 maby3 ma22) (hma23:IsRat w k mabz0 mabz1 mabz2 mabz3 ma23) (hma31:IsRat w k macx0 macx1 macx2 macx3 ma31) (hma32:IsRat w k macy0 macy1 macy2 macy3 ma32) (hma33:IsRat w k macz0 macz1 macz2 macz3 ma33) (hma41:IsRat w k madx0 madx1 madx2 madx3 ma41) (hma42:IsRat w k mady0 mady1 mady2 mady3 ma42) (hma43:IsRat w k madz0 madz1 madz2 madz3 ma43) (hmb11:IsRat w m mbax0 mbax1 mbax2 mbax3 mb11) (hmb12:IsRat w m mbay0 mbay1 mbay2 mbay3 mb12) (hmb13:IsRat w m mbaz0 mbaz1 mbaz2 mbaz3 mb13) (hmb21:IsRat w m mbbx0 mbbx1 mbbx2 mbbx3 mb21) (hmb22:IsRat w m mbby0 mbby1 mbby2 mbby3 mb22) (hmb23:IsRat w m mbbz0 mbbz1 mbbz2 mbbz3 mb23) (hmb31:IsRat w m mbcx0 mbcx1 mbcx2 mbcx3 mb31) (hmb32:IsRat w m mbcy0 mbcy1 mbcy2 mbcy3 mb32) (hmb33:IsRat w m mbcz0 mbcz1 mbcz2 mbcz3 mb33) (hmb41:IsRat w m mbdx0 mbdx1 mbdx2 mbdx3 mb41) (hmb42:IsRat w m mbdy0 mbdy1 mbdy2 mbdy3 mb42) (hmb43:IsRat w m mbdz0 mbdz1 mbdz2 mbdz3 mb43) (_hk:k+m≤90000):
    Calls Tryz.prog 16 #[(.agg #[maax0,maax1,maax2,maax3,maay0,maay1,maay2,maay3,maaz0,maaz1,maaz2,maaz3,mabx0,mabx1,mabx2,mabx3,maby0,maby1,maby2,maby3,mabz0,mabz1,mabz2,mabz3,macx0,macx1,macx2,macx3,macy0,macy1,macy2,macy3,macz0,macz1,macz2,macz3,madx0,madx1,madx2,madx3,mady0,mady1,mady2,mady3,madz0,madz1,madz2,madz3]),(.agg #[mbax0,mbax1,mbax2,mbax3,mbay0,mbay1,mbay2,mbay3,mbaz0,mbaz1,mbaz2,mbaz3,mbbx0,mbbx1,mbbx2,mbbx3,mbby0,mbby1,mbby2,mbby3,mbbz0,mbbz1,mbbz2,mbbz3,mbcx0,mbcx1,mbcx2,mbcx3,mbcy0,mbcy1,mbcy2,mbcy3,mbcz0,mbcz1,mbcz2,mbcz3,mbdx0,mbdx1,mbdx2,mbdx3,mbdy0,mbdy1,mbdy2,mbdy3,mbdz0,mbdz1,mbdz2,mbdz3])] w fun e w'=>e=.returned (.bool (decide ([ma11,ma12,ma13,ma21,ma22,ma23,ma31,ma32,ma33,ma41,ma42,ma43]=[mb11,mb12,mb13,mb21,mb22,mb23,mb31,mb32,mb33,mb41,mb42,mb43])))∧Gr w w':=by
 have hmaone:One1 [maax0,maax1,maax2,maax3,maay0,maay1,maay2,maay3,maaz0,maaz1,maaz2,maaz3,mabx0,mabx1,mabx2,mabx3,maby0,maby1,maby2,maby3,mabz0,mabz1,mabz2,mabz3,macx0,macx1,macx2,macx3,macy0,macy1,macy2,macy3,macz0,macz1,macz2,macz3,madx0,madx1,madx2,madx3,mady0,mady1,mady2,mady3,madz0,madz1,madz2,madz3]:=⟨hma11.one0,hma11.one1,hma11.one2,hma11.one3,hma12.one0,hma12.one1,hma12.one2,hma12.one3,hma13.one0,hma13.one1,hma13.one2,hma13.one3,hma21.one0,hma21.one1,hma21.one2,hma21.one3,hma22.one0,hma22.one1,hma22.one2,hma22.one3,hma23.one0,hma23.one1,hma23.one2,hma23.one3,hma31.one0,hma31.one1,hma31.one2,hma31.one3,hma32.one0,hma32.one1,hma32.one2,hma32.one3,hma33.one0,hma33.one1,hma33.one2,hma33.one3,hma41.one0,hma41.one1,hma41.one2,hma41.one3,hma42.one0,hma42.one1,hma42.one2,hma42.one3,hma43.one0,hma43.one1,hma43.one2,hma43.one3,trivial⟩
 have hmbone:One1 [mbax0,mbax1,mbax2,mbax3,mbay0,mbay1,mbay2,mbay3,mbaz0,mbaz1,mbaz2,mbaz3,mbbx0,mbbx1,mbbx2,mbbx3,mbby0,mbby1,mbby2,mbby3,mbbz0,mbbz1,mbbz2,mbbz3,mbcx0,mbcx1,mbcx2,mbcx3,mbcy0,mbcy1,mbcy2,mbcy3,mbcz0,mbcz1,mbcz2,mbcz3,mbdx0,mbdx1,mbdx2,mbdx3,mbdy0,mbdy1,mbdy2,mbdy3,mbdz0,mbdz1,mbdz2,mbdz3]:=⟨hmb11.one0,hmb11.one1,hmb11.one2,hmb11.one3,hmb12.one0,hmb12.one1,hmb12.one2,hmb12.one3,hmb13.one0,hmb13.one1,hmb13.one2,hmb13.one3,hmb21.one0,hmb21.one1,hmb21.one2,hmb21.one3,hmb22.one0,hmb22.one1,hmb22.one2,hmb22.one3,hmb23.one0,hmb23.one1,hmb23.one2,hmb23.one3,hmb31.one0,hmb31.one1,hmb31.one2,hmb31.one3,hmb32.one0,hmb32.one1,hmb32.one2,hmb32.one3,hmb33.one0,hmb33.one1,hmb33.one2,hmb33.one3,hmb41.one0,hmb41.one1,hmb41.one2,hmb41.one3,hmb42.one0,hmb42.one1,hmb42.one2,hmb42.one3,hmb43.one0,hmb43.one1,hmb43.one2,hmb43.one3,trivial⟩
 have qa:∀ j:Fin 12,IsRat w k ([maax0,maax1,maax2,maax3,maay0,maay1,maay2,maay3,maaz0,maaz1,maaz2,maaz3,mabx0,mabx1,mabx2,mabx3,maby0,maby1,maby2,maby3,mabz0,mabz1,mabz2,mabz3,macx0,macx1,macx2,macx3,macy0,macy1,macy2,macy3,macz0,macz1,macz2,macz3,madx0,madx1,madx2,madx3,mady0,mady1,mady2,mady3,madz0,madz1,madz2,madz3].getD (4*j.val) undef) ([maax0,maax1,maax2,maax3,maay0,maay1,maay2,maay3,maaz0,maaz1,maaz2,maaz3,mabx0,mabx1,mabx2,mabx3,maby0,maby1,maby2,maby3,mabz0,mabz1,mabz2,mabz3,macx0,macx1,macx2,macx3,macy0,macy1,macy2,macy3,macz0,macz1,macz2,macz3,madx0,madx1,madx2,madx3,mady0,mady1,mady2,mady3,madz0,madz1,madz2,madz3].getD (4*j.val+1) undef) ([maax0,maax1,maax2,maax3,maay0,maay1,maay2,maay3,maaz0,maaz1,maaz2,maaz3,mabx0,mabx1,mabx2,mabx3,maby0,maby1,maby2,maby3,mabz0,mabz1,mabz2,mabz3,macx0,macx1,macx2,macx3,macy0,macy1,macy2,macy3,macz0,macz1,macz2,macz3,madx0,madx1,madx2,madx3,mady0,mady1,mady2,mady3,madz0,madz1,madz2,madz3].getD (4*j.val+2) undef) ([maax0,maax1,maax2,maax3,maay0,maay1,maay2,maay3,maaz0,maaz1,maaz2,maaz3,mabx0,mabx1,mabx2,mabx3,maby0,maby1,maby2,maby3,mabz0,mabz1,mabz2,mabz3,macx0,macx1,macx2,macx3,macy0,macy1,macy2,macy3,macz0,macz1,macz2,macz3,madx0,madx1,madx2,madx3,mady0,mady1,mady2,mady3,madz0,madz1,madz2,madz3].getD (4*j.val+3) undef) ([ma11,ma12,ma13,ma21,ma22,ma23,ma31,ma32,ma33,ma41,ma42,ma43].getD j.val 0):=fin12 hma11 hma12 hma13 hma21 hma22 hma23 hma31 hma32 hma33 hma41 hma42 hma43
 have qb:∀ j:Fin 12,IsRat w m ([mbax0,mbax1,mbax2,mbax3,mbay0,mbay1,mbay2,mbay3,mbaz0,mbaz1,mbaz2,mbaz3,mbbx0,mbbx1,mbbx2,mbbx3,mbby0,mbby1,mbby2,mbby3,mbbz0,mbbz1,mbbz2,mbbz3,mbcx0,mbcx1,mbcx2,mbcx3,mbcy0,mbcy1,mbcy2,mbcy3,mbcz0,mbcz1,mbcz2,mbcz3,mbdx0,mbdx1,mbdx2,mbdx3,mbdy0,mbdy1,mbdy2,mbdy3,mbdz0,mbdz1,mbdz2,mbdz3].getD (4*j.val) undef) ([mbax0,mbax1,mbax2,mbax3,mbay0,mbay1,mbay2,mbay3,mbaz0,mbaz1,mbaz2,mbaz3,mbbx0,mbbx1,mbbx2,mbbx3,mbby0,mbby1,mbby2,mbby3,mbbz0,mbbz1,mbbz2,mbbz3,mbcx0,mbcx1,mbcx2,mbcx3,mbcy0,mbcy1,mbcy2,mbcy3,mbcz0,mbcz1,mbcz2,mbcz3,mbdx0,mbdx1,mbdx2,mbdx3,mbdy0,mbdy1,mbdy2,mbdy3,mbdz0,mbdz1,mbdz2,mbdz3].getD (4*j.val+1) undef) ([mbax0,mbax1,mbax2,mbax3,mbay0,mbay1,mbay2,mbay3,mbaz0,mbaz1,mbaz2,mbaz3,mbbx0,mbbx1,mbbx2,mbbx3,mbby0,mbby1,mbby2,mbby3,mbbz0,mbbz1,mbbz2,mbbz3,mbcx0,mbcx1,mbcx2,mbcx3,mbcy0,mbcy1,mbcy2,mbcy3,mbcz0,mbcz1,mbcz2,mbcz3,mbdx0,mbdx1,mbdx2,mbdx3,mbdy0,mbdy1,mbdy2,mbdy3,mbdz0,mbdz1,mbdz2,mbdz3].getD (4*j.val+2) undef) ([mbax0,mbax1,mbax2,mbax3,mbay0,mbay1,mbay2,mbay3,mbaz0,mbaz1,mbaz2,mbaz3,mbbx0,mbbx1,mbbx2,mbbx3,mbby0,mbby1,mbby2,mbby3,mbbz0,mbbz1,mbbz2,mbbz3,mbcx0,mbcx1,mbcx2,mbcx3,mbcy0,mbcy1,mbcy2,mbcy3,mbcz0,mbcz1,mbcz2,mbcz3,mbdx0,mbdx1,mbdx2,mbdx3,mbdy0,mbdy1,mbdy2,mbdy3,mbdz0,mbdz1,mbdz2,mbdz3].getD (4*j.val+3) undef) ([mb11,mb12,mb13,mb21,mb22,mb23,mb31,mb32,mb33,mb41,mb42,mb43].getD j.val 0):=fin12 hmb11 hmb12 hmb13 hmb21 hmb22 hmb23 hmb31 hmb32 hmb33 hmb41 hmb42 hmb43
 refine enterN Tryz.func16 rfl ?_
 simp only [Tryz.ntmps16,List.size_toArray,List.length_cons,List.length_nil,Nat.reduceAdd,Nat.reduceSub,Array.replicate_succ,Array.replicate_zero,List.push_toArray,List.append_toArray,List.nil_append,List.cons_append]
 have hB:=Gr.refl w
 refine wp_seq_k (fun K1 k1=>?_)
 refine rg [0,1,2] ?_
 refine se ?_
 refine eb 41 #[maax0,maax1,maax2,maax3,maay0,maay1,maay2,maay3,maaz0,maaz1,maaz2,maaz3,mabx0,mabx1,mabx2,mabx3,maby0,maby1,maby2,maby3,mabz0,mabz1,mabz2,mabz3,macx0,macx1,macx2,macx3,macy0,macy1,macy2,macy3,macz0,macz1,macz2,macz3,madx0,madx1,madx2,madx3,mady0,mady1,mady2,mady3,madz0,madz1,madz2,madz3] 2 hB fun b2 w2 g2 L2 o2 q2 hB=>?_
 simp only [p3,p4]
 refine se ?_
 refine eb 41 #[mbax0,mbax1,mbax2,mbax3,mbay0,mbay1,mbay2,mbay3,mbaz0,mbaz1,mbaz2,mbaz3,mbbx0,mbbx1,mbbx2,mbbx3,mbby0,mbby1,mbby2,mbby3,mbbz0,mbbz1,mbbz2,mbbz3,mbcx0,mbcx1,mbcx2,mbcx3,mbcy0,mbcy1,mbcy2,mbcy3,mbcz0,mbcz1,mbcz2,mbcz3,mbdx0,mbdx1,mbdx2,mbdx3,mbdy0,mbdy1,mbdy2,mbdy3,mbdz0,mbdz1,mbdz2,mbdz3] 3 hB fun b3 w3 g3 L3 o3 q3 hB=>?_
 simp only [p3,p4]
 refine se ?_
 refine eff_alloc 4 (.bool false) #[(.bool false)] (some 4) rfl rfl (by kernel_rfl) rfl (fun b4 w4 g4 L4 q4=>?_)
 replace L2:=L2.gr g3
 have ne2_4:=L2.ne q4
 replace q4:=Nat.le_trans (Below.size hB) q4
 replace hB:=hB.trans g4
 simp only [putl,p3,p4]
 refine sq_nil ?_
 refine k1 _ _ ?_
 try clear k1 K1
 refine wp_seq_k (fun K5 k5=>?_)
 refine rg [0] ?_
 refine se ?_
 refine ea 116 #[(.bool false),(.slice none 0 0),(.bool false),(.slice none 0 0),(.bool false),(.slice none 0 0),(.bool false),(.slice none 0 0),(.bool false),(.slice none 0 0),(.bool false),(.slice none 0 0),(.bool false),(.slice none 0 0),(.bool false),(.slice none 0 0),(.bool false),(.slice none 0 0),(.bool false),(.slice none 0 0),(.bool false),(.slice none 0 0),(.bool false),(.slice none 0 0),(.bool false),(.slice none 0 0),(.bool false),(.slice none 0 0),(.bool false),(.slice none 0 0),(.bool false),(.slice none 0 0),(.bool false),(.slice none 0 0),(.bool false),(.slice none 0 0),(.bool false),(.slice none 0 0),(.bool false),(.slice none 0 0),(.bool false),(.slice none 0 0),(.bool false),(.slice none 0 0),(.bool false),(.slice none 0 0),(.bool false),(.slice none 0 0)] 5 hB fun b6 w6 g6 L6 o6 q6 hB=>?_
 replace L2:=L2.gr g4
 have ne2_6:=L2.ne o6
 replace L3:=L3.gr g4
 have ne3_6:=L3.ne o6
 have ne4_6:=L4.ne o6
 simp only [p3,p4]
 refine sq_nil ?_
 refine k5 _ _ ?_
 try clear k5 K5
 refine wp_seq_k (fun K7 k7=>?_)
 refine wp_seq_k (fun K8 k8=>?_)
 refine rg [0,1] ?_
 replace L3:=L3.gr g6
 refine sw 10 (.agg #[mbax0,mbax1,mbax2,mbax3,mbay0,mbay1,mbay2,mbay3,mbaz0,mbaz1,mbaz2,mbaz3,mbbx0,mbbx1,mbbx2,mbbx3,mbby0,mbby1,mbby2,mbby3,mbbz0,mbbz1,mbbz2,mbbz3,mbcx0,mbcx1,mbcx2,mbcx3,mbcy0,mbcy1,mbcy2,mbcy3,mbcz0,mbcz1,mbcz2,mbcz3,mbdx0,mbdx1,mbdx2,mbdx3,mbdy0,mbdy1,mbdy2,mbdy3,mbdz0,mbdz1,mbdz2,mbdz3]) rfl (rl 41 0 [mbax0,mbax1,mbax2,mbax3,mbay0,mbay1,mbay2,mbay3,mbaz0,mbaz1,mbaz2,mbaz3,mbbx0,mbbx1,mbbx2,mbbx3,mbby0,mbby1,mbby2,mbby3,mbbz0,mbbz1,mbbz2,mbbz3,mbcx0,mbcx1,mbcx2,mbcx3,mbcy0,mbcy1,mbcy2,mbcy3,mbcz0,mbcz1,mbcz2,mbcz3,mbdx0,mbdx1,mbdx2,mbdx3,mbdy0,mbdy1,mbdy2,mbdy3,mbdz0,mbdz1,mbdz2,mbdz3] L3) ?_
 refine se ?_
 refine ec 11 (ments _ hmb11.one0 hmb11.one1 hmb11.one2 hmb11.one3 hmb12.one0 hmb12.one1 hmb12.one2 hmb12.one3 hmb13.one0 hmb13.one1 hmb13.one2 hmb13.one3 hmb21.one0 hmb21.one1 hmb21.one2 hmb21.one3 hmb22.one0 hmb22.one1 hmb22.one2 hmb22.one3 hmb23.one0 hmb23.one1 hmb23.one2 hmb23.one3 hmb31.one0 hmb31.one1 hmb31.one2 hmb31.one3 hmb32.one0 hmb32.one1 hmb32.one2 hmb32.one3 hmb33.one0 hmb33.one1 hmb33.one2 hmb33.one3 hmb41.one0 hmb41.one1 hmb41.one2 hmb41.one3 hmb42.one0 hmb42.one1 hmb42.one2 hmb42.one3 hmb43.one0 hmb43.one1 hmb43.one2 hmb43.one3) ?_
 rintro e9 w9 ⟨⟨bm9,rfl,hbm9⟩,g9⟩
 refine ⟨_,rfl,?_⟩
 replace hB:=hB.trans g9
 simp only [p3,p4]
 refine sq_nil ?_
 refine k8 _ _ ?_
 try clear k8 K8
 refine wp_block ?_
 replace L2:=L2.gr (g6.trans g9)
 replace L3:=L3.gr g9
 replace L4:=L4.gr (g6.trans g9)
 replace L6:=L6.gr g9
 refine rf_ent (Ds:=[]) (d1:=6) (d2:=7) (ent_stops _ bm9 mbax0 mbax1 mbax2 mbax3 mbay0 mbay1 mbay2 mbay3 mbaz0 mbaz1 mbaz2 mbaz3 mbbx0 mbbx1 mbbx2 mbbx3 mbby0 mbby1 mbby2 mbby3 mbbz0 mbbz1 mbbz2 mbbz3 mbcx0 mbcx1 mbcx2 mbcx3 mbcy0 mbcy1 mbcy2 mbcy3 mbcz0 mbcz1 mbcz2 mbcz3 mbdx0 mbdx1 mbdx2 mbdx3 mbdy0 mbdy1 mbdy2 mbdy3 mbdz0 mbdz1 mbdz2 mbdz3 hmb11.one0 hmb11.one1 hmb11.one2 hmb11.one3 hmb12.one0 hmb12.one1 hmb12.one2 hmb12.one3 hmb13.one0 hmb13.one1 hmb13.one2 hmb13.one3 hmb21.one0 hmb21.one1 hmb21.one2 hmb21.one3 hmb22.one0 hmb22.one1 hmb22.one2 hmb22.one3 hmb23.one0 hmb23.one1 hmb23.one2 hmb23.one3 hmb31.one0 hmb31.one1 hmb31.one2 hmb31.one3 hmb32.one0 hmb32.one1 hmb32.one2 hmb32.one3 hmb33.one0 hmb33.one1 hmb33.one2 hmb33.one3 hmb41.one0 hmb41.one1 hmb41.one2 hmb41.one3 hmb42.one0 hmb42.one1 hmb42.one2 hmb42.one3 hmb43.one0 hmb43.one1 hmb43.one2 hmb43.one3 _ hbm9) (fun prs W'=>Gr w W'∧Kp w9 W'∧Lc W' b2 #[maax0,maax1,maax2,maax3,maay0,maay1,maay2,maay3,maaz0,maaz1,maaz2,maaz3,mabx0,mabx1,mabx2,mabx3,maby0,maby1,maby2,maby3,mabz0,mabz1,mabz2,mabz3,macx0,macx1,macx2,macx3,macy0,macy1,macy2,macy3,macz0,macz1,macz2,macz3,madx0,madx1,madx2,madx3,mady0,mady1,mady2,mady3,madz0,madz1,madz2,madz3] 41∧Lc W' b3 #[mbax0,mbax1,mbax2,mbax3,mbay0,mbay1,mbay2,mbay3,mbaz0,mbaz1,mbaz2,mbaz3,mbbx0,mbbx1,mbbx2,mbbx3,mbby0,mbby1,mbby2,mbby3,mbbz0,mbbz1,mbbz2,mbbz3,mbcx0,mbcx1,mbcx2,mbcx3,mbcy0,mbcy1,mbcy2,mbcy3,mbcz0,mbcz1,mbcz2,mbcz3,mbdx0,mbdx1,mbdx2,mbdx3,mbdy0,mbdy1,mbdy2,mbdy3,mbdz0,mbdz1,mbdz2,mbdz3] 41∧Lc W' b4 #[(.bool false)] 4∧∃ xs,Fills 12 [mbax0,mbax1,mbax2,mbax3,mbay0,mbay1,mbay2,mbay3,mbaz0,mbaz1,mbaz2,mbaz3,mbbx0,mbbx1,mbbx2,mbbx3,mbby0,mbby1,mbby2,mbby3,mbbz0,mbbz1,mbbz2,mbbz3,mbcx0,mbcx1,mbcx2,mbcx3,mbcy0,mbcy1,mbcy2,mbcy3,mbcz0,mbcz1,mbcz2,mbcz3,mbdx0,mbdx1,mbdx2,mbdx3,mbdy0,mbdy1,mbdy2,mbdy3,mbdz0,mbdz1,mbdz2,mbdz3] prs xs∧Lc W' b6 xs.toArray 116) (fun _ _ _=>False) ((own_gr hB.size).and ((own_kp _ _).and ((own_lc _ _ _ _).and ((own_lc _ _ _ _).and ((own_lc _ _ _ _).and (own_ex fun xs=>(ownFrom_pure _ _).and (own_lc _ _ _ _))))))) (fun _ _ _ _ _ h _ _=>h) ⟨hB,Kp.refl _,L2,L3,L4,⟨_,⟨rfl,one1_all (by decide),fun _ h=>absurd h (by simp)⟩,L6⟩⟩ ?_ ?_ ?_ ?_ rfl (enters_of Tryz.func98 (by kernel_rfl) rfl)
 ·intro ll kk W K hK
  try simp only [p3,p4]
  refine wpIn_seq_k (fun K1 k1=>?_)
  refine rgI (wide_round ll) [0] ?_
  refine sv 6 (.int .i64 (kk.val:Int)) ?_
  try simp only [p3,p4]
  refine sq_nil ?_
  refine k1 _ _ ?_
  refine rgY [0,1] ?_
  refine alstY (wide_round ll) 7 36 (.agg #[(.bool false),(.slice none 0 0),(.bool false),(.slice none 0 0)]) (ent [mbax0,mbax1,mbax2,mbax3,mbay0,mbay1,mbay2,mbay3,mbaz0,mbaz1,mbaz2,mbaz3,mbbx0,mbbx1,mbbx2,mbbx3,mbby0,mbby1,mbby2,mbby3,mbbz0,mbbz1,mbbz2,mbbz3,mbcx0,mbcx1,mbcx2,mbcx3,mbcy0,mbcy1,mbcy2,mbcy3,mbcz0,mbcz1,mbcz2,mbcz3,mbdx0,mbdx1,mbdx2,mbdx3,mbdy0,mbdy1,mbdy2,mbdy3,mbdz0,mbdz1,mbdz2,mbdz3] kk) ?_ (ent_one hmbone rfl kk)
  try simp only [p3,p4]
  refine nilY ?_
  exact hK
 ·rintro ll bB prs kk W ⟨hB,hkW,L2,L3,L4,xs,hF,L6⟩ hqB hLB
  try simp only [p3,p4]
  have hlt:=kk.isLt
  refine wpIn_block ?_
  refine rgI (wide_round ll) [0,1,2,3] ?_
  refine sv 14 (.int .i64 (kk.val:Int)) ?_
  try simp only [p3,p4]
  refine sw 15 (.agg (ent [mbax0,mbax1,mbax2,mbax3,mbay0,mbay1,mbay2,mbay3,mbaz0,mbaz1,mbaz2,mbaz3,mbbx0,mbbx1,mbbx2,mbbx3,mbby0,mbby1,mbby2,mbby3,mbbz0,mbbz1,mbbz2,mbbz3,mbcx0,mbcx1,mbcx2,mbcx3,mbcy0,mbcy1,mbcy2,mbcy3,mbcz0,mbcz1,mbcz2,mbcz3,mbdx0,mbdx1,mbdx2,mbdx3,mbdy0,mbdy1,mbdy2,mbdy3,mbdz0,mbdz1,mbdz2,mbdz3] kk).toArray) rfl (rl 36 0 (ent [mbax0,mbax1,mbax2,mbax3,mbay0,mbay1,mbay2,mbay3,mbaz0,mbaz1,mbaz2,mbaz3,mbbx0,mbbx1,mbbx2,mbbx3,mbby0,mbby1,mbby2,mbby3,mbbz0,mbbz1,mbbz2,mbbz3,mbcx0,mbcx1,mbcx2,mbcx3,mbcy0,mbcy1,mbcy2,mbcy3,mbcz0,mbcz1,mbcz2,mbcz3,mbdx0,mbdx1,mbdx2,mbdx3,mbdy0,mbdy1,mbdy2,mbdy3,mbdz0,mbdz1,mbdz2,mbdz3] kk) hLB) ?_
  try simp only [p3,p4]
  refine sw 16 (.pointer (some ⟨b6,4*kk.val,none⟩)) rfl (rv_aix 116 _ _ b6 12 36 4 kk.val hlt) ?_
  try simp only [p3,p4]
  obtain ⟨ys,hys,hF2⟩:=hF.step hmbone rfl hlt
  refine se ?_
  refine es 36 (4*kk.val) _ (ent [mbax0,mbax1,mbax2,mbax3,mbay0,mbay1,mbay2,mbay3,mbaz0,mbaz1,mbaz2,mbaz3,mbbx0,mbbx1,mbbx2,mbbx3,mbby0,mbby1,mbby2,mbby3,mbbz0,mbbz1,mbbz2,mbbz3,mbcx0,mbcx1,mbcx2,mbcx3,mbcy0,mbcy1,mbcy2,mbcy3,mbcz0,mbcz1,mbcz2,mbcz3,mbdx0,mbdx1,mbdx2,mbdx3,mbdy0,mbdy1,mbdy2,mbdy3,mbdz0,mbdz1,mbdz2,mbdz3] kk) ys.toArray L6 hB q6 (ent_one hmbone rfl kk) ?_ (hoff:=by simp [hF.len,ent];omega) (hcs:=hys)
  intro w1 st kp N g
  refine sq_nil ?_
  have ho:=others_st st L6 (Nat.le_of_eq (by rw [st.size]))
  exact ⟨ho.from _,ho.walks,g,hkW.trans kp,st.lc L2 ne2_6,st.lc L3 ne3_6,st.lc L4 ne4_6,ys,hF2,N⟩
 ·rintro D10 w10 Q10 ⟨hB2,hk10,L2_10,L3_10,L4_10,xs,hF,L6_10⟩ L10
  have he10:=hF.done (by decide) rfl
  subst he10
  clear hF
  have ne4_10:=L4.ne Q10
  replace Q10:=Nat.le_trans (Below.size hB) Q10
  replace hB:=hB2
  replace L2:=L2_10
  replace L4:=L4_10
  replace L6:=L6_10
  change IsMk w10 D10 at L10
  change Lc w10 b6 #[mbax0,mbax1,mbax2,mbax3,mbay0,mbay1,mbay2,mbay3,mbaz0,mbaz1,mbaz2,mbaz3,mbbx0,mbbx1,mbbx2,mbbx3,mbby0,mbby1,mbby2,mbby3,mbbz0,mbbz1,mbbz2,mbbz3,mbcx0,mbcx1,mbcx2,mbcx3,mbcy0,mbcy1,mbcy2,mbcy3,mbcz0,mbcz1,mbcz2,mbcz3,mbdx0,mbdx1,mbdx2,mbdx3,mbdy0,mbdy1,mbdy2,mbdy3,mbdz0,mbdz1,mbdz2,mbdz3] 116 at L6
  refine k7 _ _ ?_
  try clear k7 K7
  refine wp_seq_k (fun K11 k11=>?_)
  refine wp_seq_k (fun K12 k12=>?_)
  refine rg [0,1] ?_
  refine sw 17 (.agg #[maax0,maax1,maax2,maax3,maay0,maay1,maay2,maay3,maaz0,maaz1,maaz2,maaz3,mabx0,mabx1,mabx2,mabx3,maby0,maby1,maby2,maby3,mabz0,mabz1,mabz2,mabz3,macx0,macx1,macx2,macx3,macy0,macy1,macy2,macy3,macz0,macz1,macz2,macz3,madx0,madx1,madx2,madx3,mady0,mady1,mady2,mady3,madz0,madz1,madz2,madz3]) rfl (rl 41 0 [maax0,maax1,maax2,maax3,maay0,maay1,maay2,maay3,maaz0,maaz1,maaz2,maaz3,mabx0,mabx1,mabx2,mabx3,maby0,maby1,maby2,maby3,mabz0,mabz1,mabz2,mabz3,macx0,macx1,macx2,macx3,macy0,macy1,macy2,macy3,macz0,macz1,macz2,macz3,madx0,madx1,madx2,madx3,mady0,mady1,mady2,mady3,madz0,madz1,madz2,madz3] L2) ?_
  refine se ?_
  refine ec 18 (ments _ hma11.one0 hma11.one1 hma11.one2 hma11.one3 hma12.one0 hma12.one1 hma12.one2 hma12.one3 hma13.one0 hma13.one1 hma13.one2 hma13.one3 hma21.one0 hma21.one1 hma21.one2 hma21.one3 hma22.one0 hma22.one1 hma22.one2 hma22.one3 hma23.one0 hma23.one1 hma23.one2 hma23.one3 hma31.one0 hma31.one1 hma31.one2 hma31.one3 hma32.one0 hma32.one1 hma32.one2 hma32.one3 hma33.one0 hma33.one1 hma33.one2 hma33.one3 hma41.one0 hma41.one1 hma41.one2 hma41.one3 hma42.one0 hma42.one1 hma42.one2 hma42.one3 hma43.one0 hma43.one1 hma43.one2 hma43.one3) ?_
  rintro e13 w13 ⟨⟨bm13,rfl,hbm13⟩,g13⟩
  refine ⟨_,rfl,?_⟩
  replace hB:=hB.trans g13
  simp only [p3,p4]
  refine sq_nil ?_
  refine k12 _ _ ?_
  try clear k12 K12
  refine wp_block ?_
  replace L2:=L2.gr g13
  replace L4:=L4.gr g13
  replace L6:=L6.gr g13
  replace L10:=L10.gr g13
  refine rf_ent (Ds:=[D10]) (d1:=8) (d2:=9) (ent_stops _ bm13 maax0 maax1 maax2 maax3 maay0 maay1 maay2 maay3 maaz0 maaz1 maaz2 maaz3 mabx0 mabx1 mabx2 mabx3 maby0 maby1 maby2 maby3 mabz0 mabz1 mabz2 mabz3 macx0 macx1 macx2 macx3 macy0 macy1 macy2 macy3 macz0 macz1 macz2 macz3 madx0 madx1 madx2 madx3 mady0 mady1 mady2 mady3 madz0 madz1 madz2 madz3 hma11.one0 hma11.one1 hma11.one2 hma11.one3 hma12.one0 hma12.one1 hma12.one2 hma12.one3 hma13.one0 hma13.one1 hma13.one2 hma13.one3 hma21.one0 hma21.one1 hma21.one2 hma21.one3 hma22.one0 hma22.one1 hma22.one2 hma22.one3 hma23.one0 hma23.one1 hma23.one2 hma23.one3 hma31.one0 hma31.one1 hma31.one2 hma31.one3 hma32.one0 hma32.one1 hma32.one2 hma32.one3 hma33.one0 hma33.one1 hma33.one2 hma33.one3 hma41.one0 hma41.one1 hma41.one2 hma41.one3 hma42.one0 hma42.one1 hma42.one2 hma42.one3 hma43.one0 hma43.one1 hma43.one2 hma43.one3 _ hbm13) (fun prs W'=>Gr w W'∧Kp w13 W'∧Lc W' b2 #[maax0,maax1,maax2,maax3,maay0,maay1,maay2,maay3,maaz0,maaz1,maaz2,maaz3,mabx0,mabx1,mabx2,mabx3,maby0,maby1,maby2,maby3,mabz0,mabz1,mabz2,mabz3,macx0,macx1,macx2,macx3,macy0,macy1,macy2,macy3,macz0,macz1,macz2,macz3,madx0,madx1,madx2,madx3,mady0,mady1,mady2,mady3,madz0,madz1,madz2,madz3] 41∧Lc W' b4 #[(.bool false)] 4∧Lc W' b6 #[mbax0,mbax1,mbax2,mbax3,mbay0,mbay1,mbay2,mbay3,mbaz0,mbaz1,mbaz2,mbaz3,mbbx0,mbbx1,mbbx2,mbbx3,mbby0,mbby1,mbby2,mbby3,mbbz0,mbbz1,mbbz2,mbbz3,mbcx0,mbcx1,mbcx2,mbcx3,mbcy0,mbcy1,mbcy2,mbcy3,mbcz0,mbcz1,mbcz2,mbcz3,mbdx0,mbdx1,mbdx2,mbdx3,mbdy0,mbdy1,mbdy2,mbdy3,mbdz0,mbdz1,mbdz2,mbdz3] 116∧IsMk W' D10∧(∀ j ∈ prs,rcmp ([ma11,ma12,ma13,ma21,ma22,ma23,ma31,ma32,ma33,ma41,ma42,ma43].getD j.val 0) ([mb11,mb12,mb13,mb21,mb22,mb23,mb31,mb32,mb33,mb41,mb42,mb43].getD j.val 0)=0)) (fun c prs W'=>c=.ret∧Gr w W'∧Kp w13 W'∧Lc W' b2 #[maax0,maax1,maax2,maax3,maay0,maay1,maay2,maay3,maaz0,maaz1,maaz2,maaz3,mabx0,mabx1,mabx2,mabx3,maby0,maby1,maby2,maby3,mabz0,mabz1,mabz2,mabz3,macx0,macx1,macx2,macx3,macy0,macy1,macy2,macy3,macz0,macz1,macz2,macz3,madx0,madx1,madx2,madx3,mady0,mady1,mady2,mady3,madz0,madz1,madz2,madz3] 41∧Lc W' b4 #[(.bool false)] 4∧Lc W' b6 #[mbax0,mbax1,mbax2,mbax3,mbay0,mbay1,mbay2,mbay3,mbaz0,mbaz1,mbaz2,mbaz3,mbbx0,mbbx1,mbbx2,mbbx3,mbby0,mbby1,mbby2,mbby3,mbbz0,mbbz1,mbbz2,mbbz3,mbcx0,mbcx1,mbcx2,mbcx3,mbcy0,mbcy1,mbcy2,mbcy3,mbcz0,mbcz1,mbcz2,mbcz3,mbdx0,mbdx1,mbdx2,mbdx3,mbdy0,mbdy1,mbdy2,mbdy3,mbdz0,mbdz1,mbdz2,mbdz3] 116∧IsMk W' D10∧(∃ j:Fin 12,rcmp ([ma11,ma12,ma13,ma21,ma22,ma23,ma31,ma32,ma33,ma41,ma42,ma43].getD j.val 0) ([mb11,mb12,mb13,mb21,mb22,mb23,mb31,mb32,mb33,mb41,mb42,mb43].getD j.val 0)≠0)) ((own_gr hB.size).and ((own_kp _ _).and ((own_lc _ _ _ _).and ((own_lc _ _ _ _).and ((own_lc _ _ _ _).and ((own_mk L10).and (ownFrom_pure _ _))))))) (fun c=>((ownFrom_pure _ _).and ((own_gr hB.size).and ((own_kp _ _).and ((own_lc _ _ _ _).and ((own_lc _ _ _ _).and ((own_lc _ _ _ _).and ((own_mk L10).and (ownFrom_pure _ _))))))))) ⟨hB,Kp.refl _,L2,L4,L6,L10,fun _ h=>absurd h (by simp)⟩ ?_ ?_ ?_ ?_ rfl (enters_of Tryz.func98 (by kernel_rfl) rfl)
  ·intro ll kk W K hK
   try simp only [p3,p4]
   refine wpIn_seq_k (fun K1 k1=>?_)
   refine rgI (wide_round ll) [0] ?_
   refine sv 8 (.int .i64 (kk.val:Int)) ?_
   try simp only [p3,p4]
   refine sq_nil ?_
   refine k1 _ _ ?_
   refine rgY [0,1] ?_
   refine alstY (wide_round ll) 9 36 (.agg #[(.bool false),(.slice none 0 0),(.bool false),(.slice none 0 0)]) (ent [maax0,maax1,maax2,maax3,maay0,maay1,maay2,maay3,maaz0,maaz1,maaz2,maaz3,mabx0,mabx1,mabx2,mabx3,maby0,maby1,maby2,maby3,mabz0,mabz1,mabz2,mabz3,macx0,macx1,macx2,macx3,macy0,macy1,macy2,macy3,macz0,macz1,macz2,macz3,madx0,madx1,madx2,madx3,mady0,mady1,mady2,mady3,madz0,madz1,madz2,madz3] kk) ?_ (ent_one hmaone rfl kk)
   try simp only [p3,p4]
   refine nilY ?_
   exact hK
  ·rintro ll bB prs kk W ⟨hB,hkW,L2,L4,L6,L10,hq⟩ hqB hLB
   try simp only [p3,p4]
   refine wpIn_block ?_
   refine wpIn_seq_k (fun K1 k1=>?_)
   have gd:=Gr.drew W
   refine ordI (wide_round ll) (fun w'=>Lc w' bB (ent [maax0,maax1,maax2,maax3,maay0,maay1,maay2,maay3,maaz0,maaz1,maaz2,maaz3,mabx0,mabx1,mabx2,mabx3,maby0,maby1,maby2,maby3,mabz0,mabz1,mabz2,mabz3,macx0,macx1,macx2,macx3,macy0,macy1,macy2,macy3,macz0,macz1,macz2,macz3,madx0,madx1,madx2,madx3,mady0,mady1,mady2,mady3,madz0,madz1,madz2,madz3] kk).toArray 36∧Lc w' b6 [mbax0,mbax1,mbax2,mbax3,mbay0,mbay1,mbay2,mbay3,mbaz0,mbaz1,mbaz2,mbaz3,mbbx0,mbbx1,mbbx2,mbbx3,mbby0,mbby1,mbby2,mbby3,mbbz0,mbbz1,mbbz2,mbbz3,mbcx0,mbcx1,mbcx2,mbcx3,mbcy0,mbcy1,mbcy2,mbcy3,mbcz0,mbcz1,mbcz2,mbcz3,mbdx0,mbdx1,mbdx2,mbdx3,mbdy0,mbdy1,mbdy2,mbdy3,mbdz0,mbdz1,mbdz2,mbdz3].toArray 116) [(true,0),(true,1),(true,2),(true,3),(false,4),(true,5)] (by kernel_rfl) (by kernel_rfl) (by kernel_rfl) (by decide) (fun _ _ _ _ _ h=>h) ⟨hLB.gr gd,L6.gr gd⟩ ?_
   refine ow 21 (.agg (ent [maax0,maax1,maax2,maax3,maay0,maay1,maay2,maay3,maaz0,maaz1,maaz2,maaz3,mabx0,mabx1,mabx2,mabx3,maby0,maby1,maby2,maby3,mabz0,mabz1,mabz2,mabz3,macx0,macx1,macx2,macx3,macy0,macy1,macy2,macy3,macz0,macz1,macz2,macz3,madx0,madx1,madx2,madx3,mady0,mady1,mady2,mady3,madz0,madz1,madz2,madz3] kk).toArray) rfl (fun w' hS=>rl 36 0 (ent [maax0,maax1,maax2,maax3,maay0,maay1,maay2,maay3,maaz0,maaz1,maaz2,maaz3,mabx0,mabx1,mabx2,mabx3,maby0,maby1,maby2,maby3,mabz0,mabz1,mabz2,mabz3,macx0,macx1,macx2,macx3,macy0,macy1,macy2,macy3,macz0,macz1,macz2,macz3,madx0,madx1,madx2,madx3,mady0,mady1,mady2,mady3,madz0,madz1,madz2,madz3] kk) hS.1) ?_
   try simp only [p3,p4]
   refine ov 22 (.int .i64 (kk.val:Int)) ?_
   try simp only [p3,p4]
   refine ow 23 (.pointer (some ⟨b6,4*kk.val,none⟩)) rfl (fun w' hS=>rv_aix 116 _ _ b6 12 36 4 kk.val kk.isLt) ?_
   try simp only [p3,p4]
   refine ow 24 (.agg (ent [mbax0,mbax1,mbax2,mbax3,mbay0,mbay1,mbay2,mbay3,mbaz0,mbaz1,mbaz2,mbaz3,mbbx0,mbbx1,mbbx2,mbbx3,mbby0,mbby1,mbby2,mbby3,mbbz0,mbbz1,mbbz2,mbbz3,mbcx0,mbcx1,mbcx2,mbcx3,mbcy0,mbcy1,mbcy2,mbcy3,mbcz0,mbcz1,mbcz2,mbcz3,mbdx0,mbdx1,mbdx2,mbdx3,mbdy0,mbdy1,mbdy2,mbdy3,mbdz0,mbdz1,mbdz2,mbdz3] kk).toArray) rfl (fun w' hS=>rl 36 (4*kk.val) (ent [mbax0,mbax1,mbax2,mbax3,mbay0,mbay1,mbay2,mbay3,mbaz0,mbaz1,mbaz2,mbaz3,mbbx0,mbbx1,mbbx2,mbbx3,mbby0,mbby1,mbby2,mbby3,mbbz0,mbbz1,mbbz2,mbbz3,mbcx0,mbcx1,mbcx2,mbcx3,mbcy0,mbcy1,mbcy2,mbcy3,mbcz0,mbcz1,mbcz2,mbcz3,mbdx0,mbdx1,mbdx2,mbdx3,mbdy0,mbdy1,mbdy2,mbdy3,mbdz0,mbdz1,mbdz2,mbdz3] kk) hS.2 (hv:=ent_take rfl kk)) ?_
   try simp only [p3,p4]
   refine oe ?_
   refine ec 25 (compare_r ((qa kk).kp (hB.trans gd).kp) ((qb kk).kp (hB.trans gd).kp) (by omega)) ?_
   rintro e1 w1 ⟨rfl,g1⟩
   refine ⟨_,rfl,?_⟩
   refine ⟨⟨hLB.gr (gd.trans g1),L6.gr (gd.trans g1)⟩,?_⟩
   try simp only [p3,p4]
   refine ov 26 (.bool (rcmp ([ma11,ma12,ma13,ma21,ma22,ma23,ma31,ma32,ma33,ma41,ma42,ma43].getD kk.val 0) ([mb11,mb12,mb13,mb21,mb22,mb23,mb31,mb32,mb33,mb41,mb42,mb43].getD kk.val 0) !=0)) ?_
   try simp only [p3,p4]
   refine ord_nil ?_
   refine k1 _ _ ?_
   clear k1 K1
   have g:=gd.trans g1
   have ho:=others_gr g
   refine wpIn_cond_split rfl (fun hb=>?_) (fun hb=>?_)
   ·refine wpIn_seq_k (fun K1 k1=>?_)
    refine rgI (wide_round ll) [0] ?_
    refine se ?_
    refine es 4 0 _ [.bool false] #[.bool false] (L4.gr g) (hB.trans g) q4 ⟨rfl,trivial⟩ ?_
    intro w2 st kp N g2
    refine sq_nil ?_
    refine k1 _ _ ?_
    clear k1 K1
    refine wpIn_ret ?_
    have ho2:=others_st st (L4.gr g) (Nat.le_of_eq (by rw [st.size]))
    exact ⟨(ho.trans ho2).from _,rfl,g2,(hkW.trans g.kp).trans kp,st.lc (L2.gr g) ne2_4,N,st.lc (L6.gr g) (Ne.symm ne4_6),(L10.gr g).st st (Ne.symm ne4_10),⟨kk,by simpa using hb⟩⟩
   ·refine wpIn_skip ?_
    refine ⟨ho.from _,ho.walks,hB.trans g,hkW.trans g.kp,L2.gr g,L4.gr g,L6.gr g,L10.gr g,fun j hj=>?_⟩
    rcases List.mem_append.1 hj with hj | hj
    · exact hq j hj
    · simp only [List.mem_singleton] at hj;subst hj;simpa using hb
  ·rintro D14 w14 Q14 ⟨hB2,hk14,L2_14,L4_14,L6_14,L10_14,hqd⟩ L14
   have ne4_14:=L4.ne Q14
   have ne10_14:=L10.ne Q14
   replace Q14:=Nat.le_trans (Below.size hB) Q14
   replace hB:=hB2
   replace L4:=L4_14
   replace L10:=L10_14
   change IsMk w14 D14 at L14
   refine k11 _ _ ?_
   try clear k11 K11
   refine wp_seq_k (fun K15 k15=>?_)
   refine rg [0] ?_
   refine se ?_
   refine es 4 0 (.bool true) [(.bool true)] #[(.bool true)] L4 hB q4 ⟨rfl,trivial⟩ fun w16 st16 kp16 L4 hB=>?_
   refine sq_nil ?_
   refine k15 _ _ ?_
   try clear k15 K15
   refine wp_ret ?_
   replace L14:=L14.st st16 (Ne.symm ne4_14)
   replace L10:=L10.st st16 (Ne.symm ne4_10)
   refine endN [D14,D10] _ (List.Pairwise.cons (List.forall_mem_cons.2 ⟨(Ne.symm ne10_14),(fun _ h=>absurd h (by simp))⟩) (List.Pairwise.cons (fun _ h=>absurd h (by simp)) List.Pairwise.nil)) (List.forall_mem_cons.2 ⟨⟨Q14,L14⟩,(List.forall_mem_cons.2 ⟨⟨Q10,L10⟩,(fun _ h=>absurd h (by simp))⟩)⟩) hB (fun w17 wt17 hB=>?_)
   replace L4:=wt17.lc L4 (by decide)
   refine ⟨(.bool true),(ret_cell1 _ _ _ rfl rfl L4 (by kernel_rfl)),?_,hB⟩
   exact (by rw [show decide (_=_)=true from decide_eq_true ((rcmp12 rfl rfl).1 hqd)])
  ·rintro D14 c prs w14 Q14 ⟨rfl,hB2,hk14,L2_14,L4_14,L6_14,L10_14,hleft⟩ L14
   have ne10_14:=L10.ne Q14
   replace Q14:=Nat.le_trans (Below.size hB) Q14
   replace hB:=hB2
   replace L4:=L4_14
   replace L10:=L10_14
   change IsMk w14 D14 at L14
   refine wp_ret ?_
   simp only [Exit.then,Exit.inBlock]
   refine endN [D14,D10] _ (List.Pairwise.cons (List.forall_mem_cons.2 ⟨(Ne.symm ne10_14),(fun _ h=>absurd h (by simp))⟩) (List.Pairwise.cons (fun _ h=>absurd h (by simp)) List.Pairwise.nil)) (List.forall_mem_cons.2 ⟨⟨Q14,L14⟩,(List.forall_mem_cons.2 ⟨⟨Q10,L10⟩,(fun _ h=>absurd h (by simp))⟩)⟩) hB (fun w18 wt18 hB=>?_)
   replace L4:=wt18.lc L4 (by decide)
   refine ⟨(.bool false),(ret_cell1 _ _ _ rfl rfl L4 (by kernel_rfl)),?_,hB⟩
   exact (by obtain ⟨j,hj⟩:=hleft;rw [show decide (_=_)=false from decide_eq_false (fun h=>hj ((rcmp12 rfl rfl).2 h j (mem_all12 j)))])
 ·intro D c prs W _ h;exact h.elim

end Go.Proofs.YtaldbfflkpgfoaaGreatDoor
/- The primitive multiple of six small numbers:plain facts. -/
namespace Go.Proofs.YtaldbfflkpgfoaaGreatDoor
def tz (M:Int) (a:Rat):Int:=a.num*(M/(a.den:Int))
end Go.Proofs.YtaldbfflkpgfoaaGreatDoor
/- Arrays of texts compared with themselves;an integer among the rationals is small. -/
namespace Go.Proofs.YtaldbfflkpgfoaaGreatDoor
open Go.RowKit
section
variable {P:Program} {a:Act} {o:Oper} {w:World} {Q:Exit→Act→World→Prop}
theorem rv_rem (t t2:TypeId) (x y:Operand) (A B:Int) (hop:o.op=.binOp .rem t x y t2) (hx:a.eval x=.int .i64 A) (hy:a.eval y=.int .i64 B) (hA:0≤A) (hB:0<B):RunV P a o w (.int .i64 (A % B)):=by
  have h0:¬ B=0:=by omega
  have e:Int.tmod A B=A % B:=Int.tmod_eq_emod_of_nonneg hA
  unfold RunV execOp
  simp only [hop,hx,hy]
  simp [go_sem,binOp,eqGuard,Op.intDiv,h0,e]
theorem rv_quo (t t2:TypeId) (x y:Operand) (A B C:Int) (hop:o.op=.binOp .quo t x y t2) (hx:a.eval x=.int .i64 A) (hy:a.eval y=.int .i64 B) (hC:Int.tdiv A B=C) (h1:-9223372036854775808≤C) (h2:C≤9223372036854775807) (hB:0<B):RunV P a o w (.int .i64 C):=by
  have h0:¬ B=0:=by omega
  have e2:IntKind.i64.wrap C=C:=by rw [IntKind.wrap_i64];omega
  unfold RunV execOp
  simp only [hop,hx,hy]
  simp [go_sem,binOp,eqGuard,Op.intDiv,h0,hC,e2]
end

theorem IsRat.small {w:World} {K:Nat} {c0 c1 c2 c3:Value} {z:Int} (h:IsRat w K c0 c1 c2 c3 (z:Rat)) (h0:-9223372036854775808≤z) (h1:z≤9223372036854775807):IsRat w 64 c0 c1 c2 c3 (z:Rat):=by
  obtain ⟨hn,⟨D,hd,hD⟩,_⟩:=h
  have e1:((z:Rat)).num=z:=Rat.num_intCast z
  have e2:((z:Rat)).den=1:=Rat.den_intCast z
  rw [e1] at hn
  refine ⟨by rw [e1];exact hn.resz (Sz.i64 h0 h1),⟨D,hd.resz ?_,hD⟩,Nat.le_refl 64⟩
  unfold Sz
  rw [e2] at hD
  rcases hD with h | ⟨h,_⟩<;>subst h<;>decide
theorem gcd_stepZ {g n:Int} (hg:0≤g) (hn:0<n):Int.gcd n (g % n)=Int.gcd g n:=by
  obtain ⟨a,rfl⟩:=Int.eq_ofNat_of_zero_le hg
  obtain ⟨b,rfl⟩:=Int.eq_ofNat_of_zero_le (Int.le_of_lt hn)
  rw [← Int.natCast_emod,Int.gcd_natCast_natCast,Int.gcd_natCast_natCast,Nat.gcd_comm b,← Nat.gcd_rec,Nat.gcd_comm]
theorem gcd_endZ {g n G v m:Int} (h:Int.gcd g n=Int.gcd G v) (hn:(n !=(0:Int))=false) (hg:0≤g) (hv:v=m∨v=-m):g=(Int.gcd G m:Int):=by
  have h0:n=0:=by simpa using hn
  rw [h0,Int.gcd_zero_right] at h
  have:Int.gcd G v=Int.gcd G m:=by
    rcases hv with e | e
    · rw [e]
    · rw [e,Int.gcd_neg]
  omega
end Go.Proofs.YtaldbfflkpgfoaaGreatDoor
/- What the whole numbers of a rotation's quaternion are made of. -/
namespace Go.Proofs.YtaldbfflkpgfoaaGreatDoor
open Go.RowKit
def pden4 (a1 a2 a3 a4:Rat):Int:=lcmS (lcmS (lcmS (lcmS 1 (a1.den:Int)) (a2.den:Int)) (a3.den:Int)) (a4.den:Int)
/-- the sign of the first number that is not 0 -/
def wsgn (a1 a2 a3 a4:Rat):Int:=if sgn a1.num=0 then (if sgn a2.num=0 then (if sgn a3.num=0 then sgn a4.num else sgn a3.num) else sgn a2.num) else sgn a1.num
def wout (a1 a2 a3 a4 x:Rat):Int:=x.num*(pden4 a1 a2 a3 a4/(x.den:Int))*wsgn a1 a2 a3 a4
def wgcd (a1 a2 a3 a4:Rat):Int:=
  (Int.gcd (Int.gcd (Int.gcd (Int.gcd 0 (wout a1 a2 a3 a4 a1):Int) (wout a1 a2 a3 a4 a2):Int) (wout a1 a2 a3 a4 a3):Int) (wout a1 a2 a3 a4 a4):Int)
def wz (a1 a2 a3 a4 x:Rat):Int:=wout a1 a2 a3 a4 x/wgcd a1 a2 a3 a4
theorem den_posI (a:Rat):0<(a.den:Int):=by have:=a.den_pos;omega
end Go.Proofs.YtaldbfflkpgfoaaGreatDoor
/- Printed by a program of the prover's:the run through motion.whole. -/
namespace Go.Proofs.YtaldbfflkpgfoaaGreatDoor
open Go.RowKit

/-- how the regions that draw their order are run -/
noncomputable def tabW:List (Nat × List (Nat × Ent)):=[(104,[(5,.flo [(true,0),(true,1),(true,2),(false,3),(false,4),(false,5),(true,6),(true,7),(true,8),(true,9)] [(10,7,34),(11,8,34)] [(false,12),(false,13),(true,14)] []),(6,.ord [(true,0),(true,1),(false,2),(false,3),(false,4)] [3]),(15,.flo [(true,0),(true,1),(false,2),(false,3),(true,4),(true,5),(true,6),(true,7)] [(8,14,34),(9,15,34)] [(false,10),(false,11),(true,12)] []),(16,.ord [(true,0),(true,1),(true,3),(true,5),(false,2),(false,4),(false,6),(false,7),(true,8),(false,9)] [10]),(17,.ort [(true,0),(true,1),(true,2),(true,3),(false,4),(false,5)] [11] [([5],11)]),(22,.ort [(true,0),(true,1),(true,2),(true,3),(true,4),(false,5),(true,6),(true,7),(true,8),(true,9),(true,10),(false,11)] [10] [([11],10)])])]
noncomputable def conW:List (Nat × ConT):=[(76,cSign),
 (130,cNum),
 (81,cDen),
 (96,cZFrom),
 (80,cZMul),
 (122,cZGcd),
 (123,cZDiv)]
noncomputable def sysW:Sys:=⟨Tryz.prog,2,199,tabW,conW,fun _=>True⟩
theorem sysW_ok:sysW.OK where
  mixed:=by kernel_rfl
  calls:=fun f h0 h1=>by
    have:(List.range 199).all (fun f=>Nat.blt f 2||okCall Tryz.prog f)=true:=by kernel_rfl
    have:=List.all_eq_true.1 this f (List.mem_range.2 h1)
    simp only [Bool.or_eq_true] at this
    exact this.resolve_left (fun e=>by have:=blt_of e;exact absurd h0 (by show ¬ 2≤f;omega))
  tab:=by
    have:tabW.all (okTab Tryz.prog)=true:=by kernel_rfl
    exact fun x hx=>List.all_eq_true.1 this x hx
  con:=fun x hx=>by
    simp only [sysW,conW,List.mem_cons,List.not_mem_nil,or_false] at hx
    rcases hx with rfl | rfl | rfl | rfl | rfl | rfl | rfl
    · exact cSign_ok
    · exact cNum_ok
    · exact cDen_ok
    · exact cZFrom_ok
    · exact cZMul_ok
    · exact cZGcd_ok
    · exact cZDiv_ok
  inv:=fun _ _ _ _=>trivial
def woS (a1 a2 a3 a4:Rat) (s:Int) (x:Rat):Int:=x.num*(pden4 a1 a2 a3 a4/(x.den:Int))*s
def wgS (a1 a2 a3 a4:Rat) (s:Int):Int:=(Int.gcd (Int.gcd (Int.gcd (Int.gcd 0 (woS a1 a2 a3 a4 s a1):Int) (woS a1 a2 a3 a4 s a2):Int) (woS a1 a2 a3 a4 s a3):Int) (woS a1 a2 a3 a4 s a4):Int)
def retW (z1 z2 z3 z4:Int):SV:=.so (.vg [.cz 57 0 40128 (z1),.cz 57 1 40128 (z1),.cz 59 0 40128 (z2),.cz 59 1 40128 (z2),.cz 61 0 40128 (z3),.cz 61 1 40128 (z3),.cz 63 0 40128 (z4),.cz 63 1 40128 (z4)])
def endW (a1 a2 a3 a4:Rat) (s:Int):Lf:=.as (decide (0<(a1.den:Int))) true (.as (decide (0<(a2.den:Int))) true (.as (decide (0<(a3.den:Int))) true (.as (decide (0<(a4.den:Int))) true (.as (decide (0<wgS a1 a2 a3 a4 s)) true (.as (decide (0<wgS a1 a2 a3 a4 s)) true (.as (decide (0<wgS a1 a2 a3 a4 s)) true (.as (decide (0<wgS a1 a2 a3 a4 s)) true (.ret (retW (woS a1 a2 a3 a4 s a1/wgS a1 a2 a3 a4 s) (woS a1 a2 a3 a4 s a2/wgS a1 a2 a3 a4 s) (woS a1 a2 a3 a4 s a3/wgS a1 a2 a3 a4 s) (woS a1 a2 a3 a4 s a4/wgS a1 a2 a3 a4 s))))))))))
def treeW (a1 a2 a3 a4:Rat):Lf:=.as (decide (0<(Int.gcd 1 (a1.den:Int):Int))) true (.as (decide (0<(Int.gcd (lcmS 1 (a1.den:Int)) (a2.den:Int):Int))) true (.br (sgn a1.num==0)
  (.as (decide (0<(Int.gcd (lcmS (lcmS 1 (a1.den:Int)) (a2.den:Int)) (a3.den:Int):Int))) true (.br (sgn a2.num==0) (.as (decide (0<(Int.gcd (lcmS (lcmS (lcmS 1 (a1.den:Int)) (a2.den:Int)) (a3.den:Int)) (a4.den:Int):Int))) true (.br (sgn a3.num==0) (endW a1 a2 a3 a4 (sgn a4.num)) (endW a1 a2 a3 a4 (sgn a3.num)))) (.as (decide (0<(Int.gcd (lcmS (lcmS (lcmS 1 (a1.den:Int)) (a2.den:Int)) (a3.den:Int)) (a4.den:Int):Int))) true (.as (sgn a2.num==0) false (endW a1 a2 a3 a4 (sgn a2.num))))))
  (.as (decide (0<(Int.gcd (lcmS (lcmS 1 (a1.den:Int)) (a2.den:Int)) (a3.den:Int):Int))) true (.as (sgn a1.num==0) false (.as (decide (0<(Int.gcd (lcmS (lcmS (lcmS 1 (a1.den:Int)) (a2.den:Int)) (a3.den:Int)) (a4.den:Int):Int))) true (.as (sgn a1.num==0) false (endW a1 a2 a3 a4 (sgn a1.num))))))))
theorem runW (a1 a2 a3 a4:Rat):runF sysW 104 [.so (.vg [.cr 0 0 8000 a1,.cr 0 1 8000 a1,.cr 0 2 8000 a1,.cr 0 3 8000 a1,.cr 1 0 8000 a2,.cr 1 1 8000 a2,.cr 1 2 8000 a2,.cr 1 3 8000 a2,.cr 2 0 8000 a3,.cr 2 1 8000 a3,.cr 2 2 8000 a3,.cr 2 3 8000 a3,.cr 3 0 8000 a4,.cr 3 1 8000 a4,.cr 3 2 8000 a4,.cr 3 3 8000 a4])] 4 0 (.s (.s (.s .e .e) (.f .e)) (.f (.f .e)))=some (treeW a1 a2 a3 a4):=by kernel_rfl
end Go.Proofs.YtaldbfflkpgfoaaGreatDoor
/- The whole numbers of four rationals:what the run says. -/
namespace Go.Proofs.YtaldbfflkpgfoaaGreatDoor
open Go.RowKit

/-- rationals as arguments:their cells,the environment -/
def envR (cs:List Value):Env:=⟨fun _=>0,fun j c=>cs.getD (4*j+c) undef,fun _ _=>undef,[]⟩
def okA (n:Nn) (X:Env) (W:World):List Cl→Prop
  | []=>True
  | c::l=>c.ok n X W∧okA n X W l
theorem okA_ok {n:Nn} {X:Env} {W:World}:∀ {l:List Cl},okA n X W l→okL n X W l
  | [],_,_,h=>by cases h
  | c::l,hh,x,h=>by
    rcases List.mem_cons.1 h with rfl | h
    · exact hh.1
    · exact okA_ok hh.2 x h
theorem okF1 {n:Nn} {X:Env} {W:World} {v:SV} (h:v.ok n X W):okF n X W [v]:=fun x hx=>by rw [List.mem_singleton] at hx;exact hx ▸ h
theorem gcd_den_pos (d:Int) (a:Rat):decide (0<(Int.gcd d (a.den:Int):Int))=true:=by
  have h:=a.den_pos
  have:0<Int.gcd d (a.den:Int):=Int.gcd_pos_of_ne_zero_right _ (by omega)
  exact decide_eq_true (by omega)
theorem endW_ok {a1 a2 a3 a4:Rat} {s:Int} (hs:wsgn a1 a2 a3 a4=s) (hg:0<wgcd a1 a2 a3 a4):
    LOK (fun v=>v=retW (wz a1 a2 a3 a4 a1) (wz a1 a2 a3 a4 a2) (wz a1 a2 a3 a4 a3) (wz a1 a2 a3 a4 a4)) (endW a1 a2 a3 a4 s):=by
  subst hs
  have d:=fun a:Rat=>decide_eq_true (den_posI a)
  have g:decide (0<wgS a1 a2 a3 a4 (wsgn a1 a2 a3 a4))=true:=decide_eq_true hg
  exact ⟨d a1,d a2,d a3,d a4,g,g,g,g,rfl⟩
theorem treeW_ok {a1 a2 a3 a4:Rat} (hg:0<wgcd a1 a2 a3 a4):
    LOK (fun v=>v=retW (wz a1 a2 a3 a4 a1) (wz a1 a2 a3 a4 a2) (wz a1 a2 a3 a4 a3) (wz a1 a2 a3 a4 a4)) (treeW a1 a2 a3 a4):=by
  have t:=fun {z:Int} (h:(z==0)=true)=>eq_of_beq h
  have f:=fun {z:Int} (h:(z==0)=false)=>ne_of_beq_false h
  refine ⟨gcd_den_pos _ _,gcd_den_pos _ _,fun h1=>⟨gcd_den_pos _ _,fun h2=>⟨gcd_den_pos _ _,fun h3=>endW_ok ?_ hg,fun h3=>endW_ok ?_ hg⟩,fun h2=>⟨gcd_den_pos _ _,h2,endW_ok ?_ hg⟩⟩,fun h1=>⟨gcd_den_pos _ _,h1,gcd_den_pos _ _,h1,endW_ok ?_ hg⟩⟩
  · unfold wsgn;rw [if_pos (t h1),if_pos (t h2),if_pos (t h3)]
  · unfold wsgn;rw [if_pos (t h1),if_pos (t h2),if_neg (f h3)]
  · unfold wsgn;rw [if_pos (t h1),if_neg (f h2)]
  · unfold wsgn;rw [if_neg (f h1)]
theorem mwhole {k:Nat} {ea0 ea1 ea2 ea3:Value} {a1:Rat} {eb0 eb1 eb2 eb3:Value} {a2:Rat} {ec0 ec1 ec2 ec3:Value} {a3:Rat} {ed0 ed1 ed2 ed3:Value} {a4:Rat} {w:World} (h1:IsRat w k ea0 ea1 ea2 ea3 a1) (h2:IsRat w k eb0 eb1 eb2 eb3 a2) (h3:IsRat w k ec0 ec1 ec2 ec3 a3) (h4:IsRat w k ed0 ed1 ed2 ed3 a4) (hg:0<wgcd a1 a2 a3 a4) (hk:k≤8000):
    Calls Tryz.prog 104 #[.agg #[ea0,ea1,ea2,ea3,eb0,eb1,eb2,eb3,ec0,ec1,ec2,ec3,ed0,ed1,ed2,ed3]] w fun e w'=>(∃ t0 t1 t2 t3 t4 t5 t6 t7,e=.returned (.agg #[t0,t1,t2,t3,t4,t5,t6,t7])∧IsInt w' 40128 t0 t1 (wz a1 a2 a3 a4 a1)∧IsInt w' 40128 t2 t3 (wz a1 a2 a3 a4 a2)∧IsInt w' 40128 t4 t5 (wz a1 a2 a3 a4 a3)∧IsInt w' 40128 t6 t7 (wz a1 a2 a3 a4 a4))∧Gr w w':=by
  replace h1:=h1.mono hk
  replace h2:=h2.mono hk
  replace h3:=h3.mono hk
  replace h4:=h4.mono hk
  refine (run_calls sysW sysW_ok (runW a1 a2 a3 a4) (X:=envR [ea0,ea1,ea2,ea3,eb0,eb1,eb2,eb3,ec0,ec1,ec2,ec3,ed0,ed1,ed2,ed3]) trivial (okF1 (okA_ok ⟨⟨rfl,h1⟩,⟨rfl,h1⟩,⟨rfl,h1⟩,⟨rfl,h1⟩,⟨rfl,h2⟩,⟨rfl,h2⟩,⟨rfl,h2⟩,⟨rfl,h2⟩,⟨rfl,h3⟩,⟨rfl,h3⟩,⟨rfl,h3⟩,⟨rfl,h3⟩,⟨rfl,h4⟩,⟨rfl,h4⟩,⟨rfl,h4⟩,⟨rfl,h4⟩,trivial⟩)) (treeW_ok hg)).mono fun e w' he=>?_
  obtain ⟨v,X',n,rfl,g,_,hv,rfl⟩:=he
  exact ⟨⟨_,_,_,_,_,_,_,_,rfl,(hv _ (.head _)).2,(hv _ (.tail _ (.tail _ (.head _)))).2,(hv _ (.tail _ (.tail _ (.tail _ (.tail _ (.head _)))))).2,(hv _ (.tail _ (.tail _ (.tail _ (.tail _ (.tail _ (.tail _ (.head _)))))))).2⟩,g⟩
end Go.Proofs.YtaldbfflkpgfoaaGreatDoor
/- A rotation's quaternion:which row is taken,and that it is not 0. -/
namespace Go.Proofs.YtaldbfflkpgfoaaGreatDoor
open Go.RowKit
theorem wsgn_ne {a1 a2 a3 a4:Rat} (h:¬(a1=0∧a2=0∧a3=0∧a4=0)):wsgn a1 a2 a3 a4≠0:=by
  unfold wsgn
  have z:∀ a:Rat,sgn a.num=0→a=0:=fun a ha=>Rat.num_eq_zero.1 (sgn_eq_zero.1 ha)
  split
  · next h1=>
    split
    · next h2=>
      split
      · next h3=>exact fun h4=>h ⟨z _ h1,z _ h2,z _ h3,z _ h4⟩
      · assumption
    · assumption
  · assumption
theorem lcmS_dvd {d:Int} (q:Rat) (_h:0<d):d∣lcmS d (q.den:Int)∧(q.den:Int)∣lcmS d (q.den:Int):=by
  obtain ⟨h1,h2⟩:=gcd_ex d q
  unfold lcmS
  refine ⟨?_,Int.dvd_mul_left _ _⟩
  obtain ⟨c,hc⟩:=h2
  have h3:(Int.gcd d (q.den:Int):Int)∣(q.den:Int):=Int.gcd_dvd_right ..
  obtain ⟨e,he⟩:=h3
  generalize (Int.gcd d (q.den:Int):Int)=g at*
  refine ⟨e,?_⟩
  rw [he,hc,Int.mul_ediv_cancel_left c (by omega)]
  rw [← Int.mul_assoc,Int.mul_comm c g,Int.mul_assoc]
theorem pden4_pos (a1 a2 a3 a4:Rat):0<pden4 a1 a2 a3 a4:=lcmS_pos _ (lcmS_pos _ (lcmS_pos _ (lcmS_pos _ (by omega))))
theorem pden4_dvd (a1 a2 a3 a4:Rat):(a1.den:Int)∣pden4 a1 a2 a3 a4∧(a2.den:Int)∣pden4 a1 a2 a3 a4∧(a3.den:Int)∣pden4 a1 a2 a3 a4∧(a4.den:Int)∣pden4 a1 a2 a3 a4:=by
  have p1:(0:Int)<1:=by omega
  have p2:=lcmS_pos a1 p1
  have p3:=lcmS_pos a2 p2
  have p4:=lcmS_pos a3 p3
  have d1:=lcmS_dvd a1 p1
  have d2:=lcmS_dvd a2 p2
  have d3:=lcmS_dvd a3 p3
  have d4:=lcmS_dvd a4 p4
  unfold pden4
  exact ⟨Int.dvd_trans d1.2 (Int.dvd_trans d2.1 (Int.dvd_trans d3.1 d4.1)),Int.dvd_trans d2.2 (Int.dvd_trans d3.1 d4.1),Int.dvd_trans d3.2 d4.1,d4.2⟩
theorem div_pos_of {d x:Int} (hd:0<d) (hx:0<x) (h:x∣d):0<d/x:=by
  obtain ⟨c,rfl⟩:=h
  rw [Int.mul_ediv_cancel_left c (by omega)]
  rcases Int.lt_or_le 0 c with h3 | h3
  · exact h3
  · have:=Int.mul_nonpos_of_nonneg_of_nonpos (Int.le_of_lt hx) h3;omega
theorem wout_zero {a1 a2 a3 a4 x:Rat} (hs:wsgn a1 a2 a3 a4≠0) (hd:(x.den:Int)∣pden4 a1 a2 a3 a4) (h:wout a1 a2 a3 a4 x=0):x=0:=by
  have h1:=div_pos_of (pden4_pos a1 a2 a3 a4) (den_posI x) hd
  unfold wout at h
  rcases Int.mul_eq_zero.1 h with h | h
  · rcases Int.mul_eq_zero.1 h with h | h
    · exact Rat.num_eq_zero.1 h
    · omega
  · exact absurd h hs
theorem wgcd_pos {a1 a2 a3 a4:Rat} (h:¬(a1=0∧a2=0∧a3=0∧a4=0)):0<wgcd a1 a2 a3 a4:=by
  have hs:=wsgn_ne h
  have hd:=pden4_dvd a1 a2 a3 a4
  have h0:0≤wgcd a1 a2 a3 a4:=Int.natCast_nonneg _
  rcases Int.lt_or_le 0 (wgcd a1 a2 a3 a4) with h1 | h1
  · exact h1
  · exfalso
    apply h
    have e:wgcd a1 a2 a3 a4=0:=by omega
    unfold wgcd at e
    have e1:=Int.gcd_eq_zero_iff.1 (Int.natCast_eq_zero.1 e)
    have e2:=Int.gcd_eq_zero_iff.1 (Int.natCast_eq_zero.1 e1.1)
    have e3:=Int.gcd_eq_zero_iff.1 (Int.natCast_eq_zero.1 e2.1)
    have e4:=Int.gcd_eq_zero_iff.1 (Int.natCast_eq_zero.1 e3.1)
    exact ⟨wout_zero hs hd.1 e4.2,wout_zero hs hd.2.1 e3.2,wout_zero hs hd.2.2.1 e2.2,wout_zero hs hd.2.2.2 e1.2⟩
def qrow (a11 a12 a13 a21 a22 a23 a31 a32 a33:Rat):Rat × Rat × Rat × Rat:=
  if sgn ((((0+1)+a11)+a22)+a33).num=0 then (if sgn ((1+a11) - (a22+a33)).num=0 then (if sgn ((1+a22) - (a11+a33)).num=0 then ((a21 - a12),(a13+a31),(a23+a32),((1+a33) - (a11+a22))) else ((a13 - a31),(a12+a21),((1+a22) - (a11+a33)),(a23+a32))) else ((a32 - a23),((1+a11) - (a22+a33)),(a12+a21),(a13+a31))) else (((((0+1)+a11)+a22)+a33),(a32 - a23),(a13 - a31),(a21 - a12))
def wzq (r:Rat × Rat × Rat × Rat) (i:Nat):Int:=wz r.1 r.2.1 r.2.2.1 r.2.2.2 (match i with | 0=>r.1 | 1=>r.2.1 | 2=>r.2.2.1 | _=>r.2.2.2)
section
variable {a11 a12 a13 a21 a22 a23 a31 a32 a33:Rat}
theorem qrow1f (h0:(sgn ((((0+1)+a11)+a22)+a33).num==(0:Int))=false):qrow a11 a12 a13 a21 a22 a23 a31 a32 a33=(((((0+1)+a11)+a22)+a33),(a32 - a23),(a13 - a31),(a21 - a12)):=by
  unfold qrow
  simp only [beq_eq_false_iff_ne,ne_eq] at h0
  rw [if_neg h0]
theorem row_pos1f (h0:(sgn ((((0+1)+a11)+a22)+a33).num==(0:Int))=false):0<wgcd ((((0+1)+a11)+a22)+a33) (a32 - a23) (a13 - a31) (a21 - a12):=wgcd_pos (by
  rintro ⟨h5,h6,h7,h8⟩
  rw [h5] at h0;exact absurd h0 (by decide))
theorem qrow2f (h0:(sgn ((((0+1)+a11)+a22)+a33).num==(0:Int))=true) (h1:(sgn ((1+a11) - (a22+a33)).num==(0:Int))=false):qrow a11 a12 a13 a21 a22 a23 a31 a32 a33=((a32 - a23),((1+a11) - (a22+a33)),(a12+a21),(a13+a31)):=by
  unfold qrow
  simp only [beq_iff_eq,beq_eq_false_iff_ne,ne_eq] at h0 h1
  rw [if_pos h0,if_neg h1]
theorem row_pos2f (_h0:(sgn ((((0+1)+a11)+a22)+a33).num==(0:Int))=true) (h1:(sgn ((1+a11) - (a22+a33)).num==(0:Int))=false):0<wgcd (a32 - a23) ((1+a11) - (a22+a33)) (a12+a21) (a13+a31):=wgcd_pos (by
  rintro ⟨h5,h6,h7,h8⟩
  rw [h6] at h1;exact absurd h1 (by decide))
theorem qrow3f (h0:(sgn ((((0+1)+a11)+a22)+a33).num==(0:Int))=true) (h1:(sgn ((1+a11) - (a22+a33)).num==(0:Int))=true) (h2:(sgn ((1+a22) - (a11+a33)).num==(0:Int))=false):qrow a11 a12 a13 a21 a22 a23 a31 a32 a33=((a13 - a31),(a12+a21),((1+a22) - (a11+a33)),(a23+a32)):=by
  unfold qrow
  simp only [beq_iff_eq,beq_eq_false_iff_ne,ne_eq] at h0 h1 h2
  rw [if_pos h0,if_pos h1,if_neg h2]
theorem row_pos3f (_h0:(sgn ((((0+1)+a11)+a22)+a33).num==(0:Int))=true) (_h1:(sgn ((1+a11) - (a22+a33)).num==(0:Int))=true) (h2:(sgn ((1+a22) - (a11+a33)).num==(0:Int))=false):0<wgcd (a13 - a31) (a12+a21) ((1+a22) - (a11+a33)) (a23+a32):=wgcd_pos (by
  rintro ⟨h5,h6,h7,h8⟩
  rw [h7] at h2;exact absurd h2 (by decide))
theorem qrow3t (h0:(sgn ((((0+1)+a11)+a22)+a33).num==(0:Int))=true) (h1:(sgn ((1+a11) - (a22+a33)).num==(0:Int))=true) (h2:(sgn ((1+a22) - (a11+a33)).num==(0:Int))=true):qrow a11 a12 a13 a21 a22 a23 a31 a32 a33=((a21 - a12),(a13+a31),(a23+a32),((1+a33) - (a11+a22))):=by
  unfold qrow
  simp only [beq_iff_eq] at h0 h1 h2
  rw [if_pos h0,if_pos h1,if_pos h2]
theorem row_pos3t (h0:(sgn ((((0+1)+a11)+a22)+a33).num==(0:Int))=true) (h1:(sgn ((1+a11) - (a22+a33)).num==(0:Int))=true) (h2:(sgn ((1+a22) - (a11+a33)).num==(0:Int))=true):0<wgcd (a21 - a12) (a13+a31) (a23+a32) ((1+a33) - (a11+a22)):=wgcd_pos (by
  rintro ⟨h5,h6,h7,h8⟩
  simp only [beq_iff_eq,sgn_eq_zero,Rat.num_eq_zero] at h0 h1 h2
  grind)
end
end Go.Proofs.YtaldbfflkpgfoaaGreatDoor
/- A quaternion of integers:its primitive one,the rows of its rotation,and that these lead back to it. -/
namespace Go.Proofs.YtaldbfflkpgfoaaGreatDoor
open Go.RowKit
def qgcd (n1 n2 n3 n4:Int):Int:=(Int.gcd (Int.gcd (Int.gcd (Int.gcd 0 n1:Int) n2:Int) n3:Int) n4:Int)
def qsgn (n1 n2 n3 n4:Int):Int:=if n1=0 then (if n2=0 then (if n3=0 then sgn n4 else sgn n3) else sgn n2) else sgn n1
def qprim (n1 n2 n3 n4 n:Int):Int:=n/qgcd n1 n2 n3 n4*qsgn n1 n2 n3 n4
theorem gcd_mulI (k a b:Int):(Int.gcd (k*a) (k*b):Int)=(k.natAbs:Int)*(Int.gcd a b:Int):=by
  rw [Int.gcd_mul_left];exact Int.natCast_mul ..
theorem gcd_mulA (k a b:Int):(Int.gcd ((k.natAbs:Int)*a) (k*b):Int)=(k.natAbs:Int)*(Int.gcd a b:Int):=by
  rw [← gcd_mulI]
  rcases Int.natAbs_eq k with h | h
  · rw [← h]
  · generalize (k.natAbs:Int)=m at h;subst h
    rw [Int.neg_mul,Int.neg_mul,Int.gcd_neg,Int.neg_gcd,Int.gcd_neg]
theorem qgcd_mul (k n1 n2 n3 n4:Int):qgcd (k*n1) (k*n2) (k*n3) (k*n4)=(k.natAbs:Int)*qgcd n1 n2 n3 n4:=by
  unfold qgcd
  have h0:(Int.gcd 0 (k*n1):Int)=(k.natAbs:Int)*(Int.gcd 0 n1:Int):=by
    rw [← gcd_mulI,Int.mul_zero]
  rw [h0,gcd_mulA,gcd_mulA,gcd_mulA]
theorem qgcd_dvd (n1 n2 n3 n4:Int):qgcd n1 n2 n3 n4∣n1∧qgcd n1 n2 n3 n4∣n2∧qgcd n1 n2 n3 n4∣n3∧qgcd n1 n2 n3 n4∣n4:=by
  unfold qgcd
  refine ⟨?_,?_,?_,Int.gcd_dvd_right ..⟩
  · exact Int.dvd_trans (Int.gcd_dvd_left ..) (Int.dvd_trans (Int.gcd_dvd_left ..) (Int.dvd_trans (Int.gcd_dvd_left ..) (Int.gcd_dvd_right ..)))
  · exact Int.dvd_trans (Int.gcd_dvd_left ..) (Int.dvd_trans (Int.gcd_dvd_left ..) (Int.gcd_dvd_right ..))
  · exact Int.dvd_trans (Int.gcd_dvd_left ..) (Int.gcd_dvd_right ..)
theorem qgcd_nonneg (n1 n2 n3 n4:Int):0≤qgcd n1 n2 n3 n4:=Int.natCast_nonneg _
theorem qgcd_zero {n1 n2 n3 n4:Int} (h:qgcd n1 n2 n3 n4=0):n1=0∧n2=0∧n3=0∧n4=0:=by
  obtain ⟨h1,h2,h3,h4⟩:=qgcd_dvd n1 n2 n3 n4
  rw [h] at h1 h2 h3 h4
  exact ⟨Int.zero_dvd.1 h1,Int.zero_dvd.1 h2,Int.zero_dvd.1 h3,Int.zero_dvd.1 h4⟩
theorem qgcd_pos {n1 n2 n3 n4:Int} (h:¬(n1=0∧n2=0∧n3=0∧n4=0)):0<qgcd n1 n2 n3 n4:=by
  have h0:=qgcd_nonneg n1 n2 n3 n4
  have h1:qgcd n1 n2 n3 n4≠0:=fun e=>h (qgcd_zero e)
  omega
theorem sgn_mulq (a b:Int):sgn (a*b)=sgn a*sgn b:=by
  have key:∀ x y:Int,0<x→sgn (x*y)=sgn y:=by
    intro x y hx
    unfold sgn
    rcases Int.lt_trichotomy y 0 with h | h | h
    · rw [if_pos h,if_pos (Int.mul_neg_of_pos_of_neg hx h)]
    · subst h;simp
    · have:=Int.mul_pos hx h
      rw [if_neg (by omega),if_neg (by omega),if_neg (by omega),if_neg (by omega)]
  rcases Int.lt_trichotomy a 0 with h | h | h
  · have e:a*b=-(-a*b):=by rw [Int.neg_mul,Int.neg_neg]
    have h2:=key (-a) b (by omega)
    have h3:sgn a=-1:=by unfold sgn;rw [if_pos h]
    rw [h3,← h2,e]
    unfold sgn
    generalize -a*b=z
    split<;>(try split)<;>(try split)<;>omega
  · subst h;simp [sgn]
  · rw [key a b h,show sgn a=1 by unfold sgn;rw [if_neg (by omega),if_neg (by omega)],Int.one_mul]
theorem qsgn_mul {k:Int} (hk:k≠0) (n1 n2 n3 n4:Int):qsgn (k*n1) (k*n2) (k*n3) (k*n4)=sgn k*qsgn n1 n2 n3 n4:=by
  have z:∀ n:Int,k*n=0↔n=0:=fun n=>by simp [Int.mul_eq_zero,hk]
  unfold qsgn
  simp only [z,sgn_mulq]
  split
  · split
    · split<;>rfl
    · rfl
  · rfl
theorem div_mul_natq (n:Int) {d:Nat} (hd:0<d):Rat.divInt n (d:Int)*((d:Int):Rat)=(n:Rat):=by
  rw [Rat.divInt_eq_div]
  have:((d:Int):Rat)≠0:=by
    intro e
    have:=Rat.intCast_inj.1 (e.trans rfl:((d:Int):Rat)=((0:Int):Rat))
    omega
  exact Rat.div_mul_cancel this
theorem rat_mul_denq (x:Rat):x*((x.den:Int):Rat)=(x.num:Rat):=by
  have:=div_mul_natq x.num x.den_pos
  rw [Rat.num_divInt_den] at this
  exact this
/-- the rows are the rotation of a quaternion -/
structure RotQ (a11 a12 a13 a21 a22 a23 a31 a32 a33 w x y z:Rat):Prop where
  e11:a11*(w*w+x*x+y*y+z*z)=w*w+x*x - y*y - z*z
  e12:a12*(w*w+x*x+y*y+z*z)=2*(x*y - w*z)
  e13:a13*(w*w+x*x+y*y+z*z)=2*(x*z+w*y)
  e21:a21*(w*w+x*x+y*y+z*z)=2*(x*y+w*z)
  e22:a22*(w*w+x*x+y*y+z*z)=w*w - x*x+y*y - z*z
  e23:a23*(w*w+x*x+y*y+z*z)=2*(y*z - w*x)
  e31:a31*(w*w+x*x+y*y+z*z)=2*(x*z - w*y)
  e32:a32*(w*w+x*x+y*y+z*z)=2*(y*z+w*x)
  e33:a33*(w*w+x*x+y*y+z*z)=w*w - x*x - y*y+z*z
theorem norm_mul (a b c d p q r s:Rat):
    (a*p - b*q - c*r - d*s)*(a*p - b*q - c*r - d*s)+(a*q+b*p+c*s - d*r)*(a*q+b*p+c*s - d*r)+(a*r - b*s+c*p+d*q)*(a*r - b*s+c*p+d*q)+(a*s+b*r - c*q+d*p)*(a*s+b*r - c*q+d*p)
    =(a*a+b*b+c*c+d*d)*(p*p+q*q+r*r+s*s):=by grind
theorem rotq_mul {a11 a12 a13 a21 a22 a23 a31 a32 a33 b11 b12 b13 b21 b22 b23 b31 b32 b33 a b c d p q r s:Rat}
    (h:RotQ a11 a12 a13 a21 a22 a23 a31 a32 a33 a b c d) (g:RotQ b11 b12 b13 b21 b22 b23 b31 b32 b33 p q r s):
    RotQ (0+a11*b11+a12*b21+a13*b31) (0+a11*b12+a12*b22+a13*b32) (0+a11*b13+a12*b23+a13*b33)
      (0+a21*b11+a22*b21+a23*b31) (0+a21*b12+a22*b22+a23*b32) (0+a21*b13+a22*b23+a23*b33)
      (0+a31*b11+a32*b21+a33*b31) (0+a31*b12+a32*b22+a33*b32) (0+a31*b13+a32*b23+a33*b33)
      (a*p - b*q - c*r - d*s) (a*q+b*p+c*s - d*r) (a*r - b*s+c*p+d*q) (a*s+b*r - c*q+d*p):=by
  obtain ⟨h11,h12,h13,h21,h22,h23,h31,h32,h33⟩:=h
  obtain ⟨g11,g12,g13,g21,g22,g23,g31,g32,g33⟩:=g
  have key:∀ x y z u v t X Y Z U V T N M:Rat,x*N=X→y*N=Y→z*N=Z→u*M=U→v*M=V→t*M=T→
      (0+x*u+y*v+z*t)*(N*M)=X*U+Y*V+Z*T:=by
    intro x y z u v t X Y Z U V T N M h1 h2 h3 h4 h5 h6
    subst h1 h2 h3 h4 h5 h6
    grind
  constructor<;>rw [norm_mul]
  · rw [key _ _ _ _ _ _ _ _ _ _ _ _ _ _ h11 h12 h13 g11 g21 g31];grind
  · rw [key _ _ _ _ _ _ _ _ _ _ _ _ _ _ h11 h12 h13 g12 g22 g32];grind
  · rw [key _ _ _ _ _ _ _ _ _ _ _ _ _ _ h11 h12 h13 g13 g23 g33];grind
  · rw [key _ _ _ _ _ _ _ _ _ _ _ _ _ _ h21 h22 h23 g11 g21 g31];grind
  · rw [key _ _ _ _ _ _ _ _ _ _ _ _ _ _ h21 h22 h23 g12 g22 g32];grind
  · rw [key _ _ _ _ _ _ _ _ _ _ _ _ _ _ h21 h22 h23 g13 g23 g33];grind
  · rw [key _ _ _ _ _ _ _ _ _ _ _ _ _ _ h31 h32 h33 g11 g21 g31];grind
  · rw [key _ _ _ _ _ _ _ _ _ _ _ _ _ _ h31 h32 h33 g12 g22 g32];grind
  · rw [key _ _ _ _ _ _ _ _ _ _ _ _ _ _ h31 h32 h33 g13 g23 g33];grind
theorem rotq_tr {a11 a12 a13 a21 a22 a23 a31 a32 a33 w x y z:Rat} (h:RotQ a11 a12 a13 a21 a22 a23 a31 a32 a33 w x y z):
    RotQ a11 a21 a31 a12 a22 a32 a13 a23 a33 w (-x) (-y) (-z):=by
  obtain ⟨h11,h12,h13,h21,h22,h23,h31,h32,h33⟩:=h
  have e:w*w+-x*-x+-y*-y+-z*-z=w*w+x*x+y*y+z*z:=by grind
  constructor<;>rw [e]<;>grind
theorem rotq_id:RotQ 1 0 0 0 1 0 0 0 1 1 0 0 0:=by constructor<;>grind
theorem nq_ne {w x y z:Rat} (h:¬(w=0∧x=0∧y=0∧z=0)):w*w+x*x+y*y+z*z≠0:=by
  intro e
  have sq:∀ t:Rat,0≤t*t:=fun t=>by
    rcases (Rat.le_total:(0:Rat)≤t∨t≤0) with ht | ht
    · exact Rat.mul_nonneg ht ht
    · have:=Rat.mul_nonneg (show (0:Rat)≤-t by grind) (show (0:Rat)≤-t by grind)
      grind
  have s1:=sq w;have s2:=sq x;have s3:=sq y;have s4:=sq z
  have z0:∀ t:Rat,t*t=0→t=0:=fun t ht=>by rcases Rat.mul_eq_zero.1 ht with h | h<;>exact h
  exact h ⟨z0 _ (by grind),z0 _ (by grind),z0 _ (by grind),z0 _ (by grind)⟩
theorem cancelN {N a b:Rat} (hN:N≠0) (h:a*N=b*N):a=b:=by grind
theorem rotq_smul {a11 a12 a13 a21 a22 a23 a31 a32 a33 w x y z k:Rat} (hk:k≠0) (h:RotQ a11 a12 a13 a21 a22 a23 a31 a32 a33 (k*w) (k*x) (k*y) (k*z)):
    RotQ a11 a12 a13 a21 a22 a23 a31 a32 a33 w x y z:=by
  obtain ⟨h11,h12,h13,h21,h22,h23,h31,h32,h33⟩:=h
  have hk2:k*k≠0:=fun e=>by rcases Rat.mul_eq_zero.1 e with h | h<;>exact hk h
  constructor<;>apply cancelN hk2<;>grind
theorem rotq_unique {a11 a12 a13 a21 a22 a23 a31 a32 a33 b11 b12 b13 b21 b22 b23 b31 b32 b33 w x y z:Rat} (h0:¬(w=0∧x=0∧y=0∧z=0))
    (h:RotQ a11 a12 a13 a21 a22 a23 a31 a32 a33 w x y z) (g:RotQ b11 b12 b13 b21 b22 b23 b31 b32 b33 w x y z):
    a11=b11∧a12=b12∧a13=b13∧a21=b21∧a22=b22∧a23=b23∧a31=b31∧a32=b32∧a33=b33:=by
  have hN:=nq_ne h0
  exact ⟨cancelN hN (h.e11.trans g.e11.symm),cancelN hN (h.e12.trans g.e12.symm),cancelN hN (h.e13.trans g.e13.symm),cancelN hN (h.e21.trans g.e21.symm),cancelN hN (h.e22.trans g.e22.symm),cancelN hN (h.e23.trans g.e23.symm),cancelN hN (h.e31.trans g.e31.symm),cancelN hN (h.e32.trans g.e32.symm),cancelN hN (h.e33.trans g.e33.symm)⟩
/-- orthonormal:the rows times the columns of the transposed matrix -/
theorem rotq_orth {a11 a12 a13 a21 a22 a23 a31 a32 a33 w x y z:Rat} (h0:¬(w=0∧x=0∧y=0∧z=0))
    (h:RotQ a11 a12 a13 a21 a22 a23 a31 a32 a33 w x y z):
    0+a11*a11+a12*a12+a13*a13=1∧0+a11*a21+a12*a22+a13*a23=0∧0+a11*a31+a12*a32+a13*a33=0∧
    0+a21*a11+a22*a12+a23*a13=0∧0+a21*a21+a22*a22+a23*a23=1∧0+a21*a31+a22*a32+a23*a33=0∧
    0+a31*a11+a32*a12+a33*a13=0∧0+a31*a21+a32*a22+a33*a23=0∧0+a31*a31+a32*a32+a33*a33=1:=by
  have hN:=nq_ne h0
  have m:=rotq_mul h (rotq_tr h)
  have hk:w*w+x*x+y*y+z*z≠0:=hN
  have e1:w*w - x*-x - y*-y - z*-z=(w*w+x*x+y*y+z*z)*1:=by grind
  have e2:w*-x+x*w+y*-z - z*-y=(w*w+x*x+y*y+z*z)*0:=by grind
  have e3:w*-y - x*-z+y*w+z*-x=(w*w+x*x+y*y+z*z)*0:=by grind
  have e4:w*-z+x*-y - y*-x+z*w=(w*w+x*x+y*y+z*z)*0:=by grind
  rw [e1,e2,e3,e4] at m
  exact rotq_unique (by rintro ⟨h,_⟩;exact absurd h (by decide)) (rotq_smul hk m) rotq_id
theorem rotq_det {a11 a12 a13 a21 a22 a23 a31 a32 a33 w x y z:Rat} (h0:¬(w=0∧x=0∧y=0∧z=0))
    (h:RotQ a11 a12 a13 a21 a22 a23 a31 a32 a33 w x y z):
    a11*(a22*a33 - a23*a32)+a12*(a23*a31 - a21*a33)+a13*(a21*a32 - a22*a31)=1:=by
  have hN:=nq_ne h0
  obtain ⟨h11,h12,h13,h21,h22,h23,h31,h32,h33⟩:=h
  generalize hM:w*w+x*x+y*y+z*z=N at*
  have cof:∀ p q r s P Q R S:Rat,p*N=P→q*N=Q→r*N=R→s*N=S→(p*q - r*s)*(N*N)=P*Q - R*S:=by
    intro p q r s P Q R S h1 h2 h3 h4;subst h1 h2 h3 h4;grind
  have c1:=cof _ _ _ _ _ _ _ _ h22 h33 h23 h32
  have c2:=cof _ _ _ _ _ _ _ _ h23 h31 h21 h33
  have c3:=cof _ _ _ _ _ _ _ _ h21 h32 h22 h31
  have d1:(a22*a33 - a23*a32)*(N*N)=(w*w+x*x - y*y - z*z)*N:=by rw [c1,← hM];grind
  have d2:(a23*a31 - a21*a33)*(N*N)=(2*(x*y - w*z))*N:=by rw [c2,← hM];grind
  have d3:(a21*a32 - a22*a31)*(N*N)=(2*(x*z+w*y))*N:=by rw [c3,← hM];grind
  have f1:a22*a33 - a23*a32=a11:=by apply cancelN hN;apply cancelN hN;rw [h11];grind
  have f2:a23*a31 - a21*a33=a12:=by apply cancelN hN;apply cancelN hN;rw [h12];grind
  have f3:a21*a32 - a22*a31=a13:=by apply cancelN hN;apply cancelN hN;rw [h13];grind
  rw [f1,f2,f3]
  have:(a11*a11+a12*a12+a13*a13)*(N*N)=1*(N*N):=by
    have k:(a11*a11+a12*a12+a13*a13)*(N*N)=(a11*N)*(a11*N)+(a12*N)*(a12*N)+(a13*N)*(a13*N):=by grind
    rw [k,h11,h12,h13,← hM];grind
  exact cancelN (fun e=>by rcases Rat.mul_eq_zero.1 e with h | h<;>exact hN h) this
end Go.Proofs.YtaldbfflkpgfoaaGreatDoor
/- The sizes of a rotation of small integers;the integers of a valid turn;the error of a placement. -/
namespace Go.Proofs.YtaldbfflkpgfoaaGreatDoor
open Go.RowKit
theorem num_den_le {a:Rat} {n d:Int} (hd:0<d) (h:a*(d:Rat)=(n:Rat)):a.num.natAbs≤n.natAbs∧(a.den:Int)≤d:=by
  have e:=rat_mul_denq a
  have hp:=den_posI a
  have k:a.num*d=n*(a.den:Int):=by
    have:((a.num*d:Int):Rat)=((n*(a.den:Int):Int):Rat):=by
      rw [Rat.intCast_mul,Rat.intCast_mul,← h,← e]
      generalize ((a.den:Int):Rat)=x
      generalize (d:Rat)=y
      grind
    exact Rat.intCast_inj.1 this
  have hdvd:(a.den:Int)∣a.num*d:=⟨n,by rw [k,Int.mul_comm]⟩
  have h2:(a.den:Int)∣d:=by
    have h1:a.den∣a.num.natAbs*d.natAbs:=by
      have:=Int.natAbs_dvd_natAbs.2 hdvd
      rwa [Int.natAbs_mul] at this
    have h3:=Nat.Coprime.dvd_of_dvd_mul_left (Nat.coprime_comm.1 a.reduced) h1
    rcases Int.natAbs_eq d with e | e
    · rw [e];exact Int.ofNat_dvd.2 h3
    · rw [e];exact Int.dvd_neg.2 (Int.ofNat_dvd.2 h3)
  obtain ⟨c,hc⟩:=h2
  have hcp:0<c:=by
    rcases Int.lt_or_le 0 c with h | h
    · exact h
    · have:=Int.mul_nonpos_of_nonneg_of_nonpos (Int.le_of_lt hp) h;omega
  have hn:n=a.num*c:=by
    rw [hc,← Int.mul_assoc,Int.mul_right_comm] at k
    exact (Int.eq_of_mul_eq_mul_right (by omega) k).symm
  constructor
  · rw [hn,Int.natAbs_mul]
    exact Nat.le_mul_of_pos_right _ (by omega)
  · rw [hc]
    have:=Int.mul_le_mul_of_nonneg_left (show 1≤c by omega) (Int.le_of_lt hp)
    omega
theorem rs_of_mul {k:Nat} {a:Rat} {n d:Int} (hd:0<d) (h:a*(d:Rat)=(n:Rat)) (h1:n.natAbs<2 ^ k) (h2:d<2 ^ k):RS k a:=by
  obtain ⟨e1,e2⟩:=num_den_le hd h
  refine ⟨Nat.lt_of_le_of_lt e1 h1,?_⟩
  unfold Sz
  have:((2 ^ k:Nat):Int)=2 ^ k:=by simp
  have:=den_posI a
  omega
theorem sq_le {a b:Int} (h1:-b≤a) (h2:a≤b):0≤a*a∧a*a≤b*b:=by
  have hb:0≤b:=by omega
  refine ⟨?_,?_⟩
  · rcases Int.le_total 0 a with h | h
    · exact Int.mul_nonneg h h
    · exact Int.mul_nonneg_of_nonpos_of_nonpos h h
  · rcases Int.le_total 0 a with h | h
    · exact Int.mul_le_mul h2 h2 h hb
    · have:=Int.mul_le_mul (show -a≤b by omega) (show -a≤b by omega) (by omega) hb
      rwa [Int.neg_mul_neg] at this
/-- the rows of a rotation by small integers are small -/
theorem rotq_rs {a11 a12 a13 a21 a22 a23 a31 a32 a33:Rat} {w x y z:Int} (h0:¬(w=0∧x=0∧y=0∧z=0))
    (b0:-1000000≤w∧w≤1000000) (b1:-1000000≤x∧x≤1000000) (b2:-1000000≤y∧y≤1000000) (b3:-1000000≤z∧z≤1000000)
    (h:RotQ a11 a12 a13 a21 a22 a23 a31 a32 a33 w x y z):
    RS 50 a11∧RS 50 a12∧RS 50 a13∧RS 50 a21∧RS 50 a22∧RS 50 a23∧RS 50 a31∧RS 50 a32∧RS 50 a33:=by
  obtain ⟨h11,h12,h13,h21,h22,h23,h31,h32,h33⟩:=h
  have sw:=sq_le b0.1 b0.2;have sx:=sq_le b1.1 b1.2;have sy:=sq_le b2.1 b2.2;have sz:=sq_le b3.1 b3.2
  have hN:0<w*w+x*x+y*y+z*z:=by
    have z0:∀ t:Int,t*t=0→t=0:=fun t ht=>by rcases Int.mul_eq_zero.1 ht with h | h<;>exact h
    rcases Int.lt_or_le 0 (w*w+x*x+y*y+z*z) with h | h
    · exact h
    · exact absurd ⟨z0 _ (by omega),z0 _ (by omega),z0 _ (by omega),z0 _ (by omega)⟩ h0
  have pr:∀ p q:Int,-1000000≤p∧p≤1000000→-1000000≤q∧q≤1000000→-1000000000000≤p*q∧p*q≤1000000000000:=by
    intro p q hp hq
    have s1:=sq_le (a:=p+q) (b:=2000000) (by omega) (by omega)
    have s2:=sq_le (a:=p - q) (b:=2000000) (by omega) (by omega)
    have e1:(p+q)*(p+q)=p*p+2*(p*q)+q*q:=by grind
    have e2:(p - q)*(p - q)=p*p - 2*(p*q)+q*q:=by grind
    have:=sq_le hp.1 hp.2
    have:=sq_le hq.1 hq.2
    have e3:(p+q)*(p+q) - (p - q)*(p - q)=4*(p*q):=by grind
    omega
  have wx:=pr w x b0 b1;have wy:=pr w y b0 b2;have wz:=pr w z b0 b3;have xy:=pr x y b1 b2;have xz:=pr x z b1 b3;have yz:=pr y z b2 b3
  have go:∀ (a:Rat) (n:Int),a*(w*w+x*x+y*y+z*z)=(n:Rat)→n.natAbs<2 ^ 50→RS 50 a:=by
    intro a n e hn
    refine rs_of_mul (n:=n) hN ?_ hn (by omega)
    rw [Rat.intCast_add,Rat.intCast_add,Rat.intCast_add,Rat.intCast_mul,Rat.intCast_mul,Rat.intCast_mul,Rat.intCast_mul];exact e
  refine ⟨go _ (w*w+x*x - y*y - z*z) (h11.trans ?_) (by omega),go _ (2*(x*y - w*z)) (h12.trans ?_) (by omega),go _ (2*(x*z+w*y)) (h13.trans ?_) (by omega),
    go _ (2*(x*y+w*z)) (h21.trans ?_) (by omega),go _ (w*w - x*x+y*y - z*z) (h22.trans ?_) (by omega),go _ (2*(y*z - w*x)) (h23.trans ?_) (by omega),
    go _ (2*(x*z - w*y)) (h31.trans ?_) (by omega),go _ (2*(y*z+w*x)) (h32.trans ?_) (by omega),go _ (w*w - x*x - y*y+z*z) (h33.trans ?_) (by omega)⟩<;>
    simp only [Rat.intCast_add,Rat.intCast_sub,Rat.intCast_mul]<;>rfl
theorem nq_int {w x y z:Int} (h:¬(w=0∧x=0∧y=0∧z=0)):¬((w:Rat)=0∧(x:Rat)=0∧(y:Rat)=0∧(z:Rat)=0):=by
  rintro ⟨h0,h1,h2,h3⟩
  exact h ⟨Rat.intCast_eq_zero_iff.1 h0,Rat.intCast_eq_zero_iff.1 h1,Rat.intCast_eq_zero_iff.1 h2,Rat.intCast_eq_zero_iff.1 h3⟩
theorem nq_posI {w x y z:Int} (h:¬(w=0∧x=0∧y=0∧z=0)):0<w*w+x*x+y*y+z*z:=by
  have sq:∀ t:Int,0≤t*t:=fun t=>by
    rcases Int.le_total 0 t with h | h
    · exact Int.mul_nonneg h h
    · exact Int.mul_nonneg_of_nonpos_of_nonpos h h
  have z0:∀ t:Int,t*t=0→t=0:=fun t ht=>by rcases Int.mul_eq_zero.1 ht with h | h<;>exact h
  have s1:=sq w;have s2:=sq x;have s3:=sq y;have s4:=sq z
  rcases Int.lt_or_le 0 (w*w+x*x+y*y+z*z) with hp | hp
  · exact hp
  · exact absurd ⟨z0 _ (by omega),z0 _ (by omega),z0 _ (by omega),z0 _ (by omega)⟩ h
/-- the integers of a valid placement's turn -/
structure VT (q0 q1 q2 q3:Int):Prop where
  b0:-12≤q0∧q0≤12
  b1:-12≤q1∧q1≤12
  b2:-12≤q2∧q2≤12
  b3:-12≤q3∧q3≤12
  g:qgcd q0 q1 q2 q3=1
  s:qsgn q0 q1 q2 q3=1
/-- the error of a placement;e:that of its shift -/
def chk (q0 q1 q2 q3 e:Int):Int:=
  if q0=0∧q1=0∧q2=0∧q3=0 then 19
  else if ¬((-12≤q0∧q0≤12)∧(-12≤q1∧q1≤12)∧(-12≤q2∧q2≤12)∧(-12≤q3∧q3≤12)) then 2
  else if ¬(qgcd q0 q1 q2 q3=1∧qsgn q0 q1 q2 q3=1) then 3 else e
theorem qsgn_cases {q0 q1 q2 q3:Int} (h:¬(q0=0∧q1=0∧q2=0∧q3=0)):qsgn q0 q1 q2 q3=1∨qsgn q0 q1 q2 q3=-1:=by
  have k:∀ z:Int,z≠0→sgn z=1∨sgn z=-1:=fun z hz=>by unfold sgn;split<;>(try split)<;>omega
  unfold qsgn
  split
  · split
    · split
      · exact k _ (by omega)
      · exact k _ (by omega)
    · exact k _ (by omega)
  · exact k _ (by omega)
theorem VT.ne {q0 q1 q2 q3:Int} (h:VT q0 q1 q2 q3):¬(q0=0∧q1=0∧q2=0∧q3=0):=by
  rintro ⟨rfl,rfl,rfl,rfl⟩;exact absurd h.s (by decide)
theorem VT.chk {q0 q1 q2 q3:Int} (h:VT q0 q1 q2 q3) (e:Int):chk q0 q1 q2 q3 e=e:=by
  unfold _root_.Go.Proofs.YtaldbfflkpgfoaaGreatDoor.chk
  rw [if_neg h.ne,if_neg (by simp only [Classical.not_not];exact ⟨h.b0,h.b1,h.b2,h.b3⟩),if_neg (by simp only [Classical.not_not];exact ⟨h.g,h.s⟩)]
theorem chk_ok {q0 q1 q2 q3 e:Int} (h:chk q0 q1 q2 q3 e=0):VT q0 q1 q2 q3∧e=0:=by
  unfold chk at h
  split at h
  · omega
  · split at h
    · omega
    · next h1 h2=>
      split at h
      · omega
      · next h3=>
        simp only [Classical.not_not] at h2 h3
        exact ⟨⟨h2.1,h2.2.1,h2.2.2.1,h2.2.2.2,h3.1,h3.2⟩,h⟩
theorem qprim_tdiv {q0 q1 q2 q3 n:Int} (h0:¬(q0=0∧q1=0∧q2=0∧q3=0)) (h:qgcd q0 q1 q2 q3∣n):Int.tdiv n (qgcd q0 q1 q2 q3*qsgn q0 q1 q2 q3)=qprim q0 q1 q2 q3 n:=by
  have hg:=qgcd_pos h0
  unfold qprim
  obtain ⟨c,rfl⟩:=h
  generalize qgcd q0 q1 q2 q3=g at*
  rw [Int.mul_ediv_cancel_left _ (by omega)]
  rcases qsgn_cases h0 with e | e
  · rw [e,Int.mul_one,Int.mul_one,Int.mul_tdiv_cancel_left _ (by omega)]
  · rw [e,Int.mul_neg,Int.mul_one,Int.tdiv_neg,Int.mul_tdiv_cancel_left _ (by omega)];omega
theorem qprim_ok {q0 q1 q2 q3:Int} (h0:¬(q0=0∧q1=0∧q2=0∧q3=0)):
    qgcd (qprim q0 q1 q2 q3 q0) (qprim q0 q1 q2 q3 q1) (qprim q0 q1 q2 q3 q2) (qprim q0 q1 q2 q3 q3)=1∧qsgn (qprim q0 q1 q2 q3 q0) (qprim q0 q1 q2 q3 q1) (qprim q0 q1 q2 q3 q2) (qprim q0 q1 q2 q3 q3)=1:=by
  have hg:=qgcd_pos h0
  obtain ⟨d0,d1,d2,d3⟩:=qgcd_dvd q0 q1 q2 q3
  have hs:=qsgn_cases h0
  have hk:qgcd q0 q1 q2 q3*qsgn q0 q1 q2 q3≠0:=Int.mul_ne_zero (by omega) (by omega)
  have go:∀ n,qgcd q0 q1 q2 q3∣n→n=qgcd q0 q1 q2 q3*qsgn q0 q1 q2 q3*qprim q0 q1 q2 q3 n:=by
    intro n ⟨c,hc⟩
    unfold qprim
    rw [hc]
    generalize qgcd q0 q1 q2 q3=g at*
    rw [Int.mul_ediv_cancel_left _ (by omega)]
    rcases hs with e | e<;>rw [e]<;>grind
  have e0:=go _ d0;have e1:=go _ d1;have e2:=go _ d2;have e3:=go _ d3
  generalize hp0:qprim q0 q1 q2 q3 q0=p0 at*
  generalize hp1:qprim q0 q1 q2 q3 q1=p1 at*
  generalize hp2:qprim q0 q1 q2 q3 q2=p2 at*
  generalize hp3:qprim q0 q1 q2 q3 q3=p3 at*
  have m1:=qgcd_mul (qgcd q0 q1 q2 q3*qsgn q0 q1 q2 q3) p0 p1 p2 p3
  have m2:=qsgn_mul hk p0 p1 p2 p3
  rw [← e0,← e1,← e2,← e3] at m1 m2
  have hab:((qgcd q0 q1 q2 q3*qsgn q0 q1 q2 q3).natAbs:Int)=qgcd q0 q1 q2 q3:=by
    rcases hs with e | e<;>rw [e]<;>omega
  have hsg:sgn (qgcd q0 q1 q2 q3*qsgn q0 q1 q2 q3)=qsgn q0 q1 q2 q3:=by
    rcases hs with e | e<;>rw [e]<;>unfold sgn<;>split<;>(try split)<;>omega
  rw [hab] at m1
  rw [hsg] at m2
  constructor
  · have:qgcd q0 q1 q2 q3*qgcd p0 p1 p2 p3=qgcd q0 q1 q2 q3*1:=by rw [← m1,Int.mul_one]
    exact Int.eq_of_mul_eq_mul_left (by omega) this
  · rcases hs with e | e<;>rw [e] at m2<;>omega
theorem qprim_le {q0 q1 q2 q3 n:Int} (h0:¬(q0=0∧q1=0∧q2=0∧q3=0)):(qprim q0 q1 q2 q3 n).natAbs≤n.natAbs:=by
  have hg:=qgcd_pos h0
  unfold qprim
  have:(n/qgcd q0 q1 q2 q3).natAbs≤n.natAbs:=by
    generalize qgcd q0 q1 q2 q3=g at*
    have h1:=Int.natAbs_ediv_le_natAbs n g
    exact h1
  rcases qsgn_cases h0 with e | e<;>rw [e]<;>omega
theorem IsInt.tight {w:World} {k m:Nat} {x y:Value} {z:Int} (h:IsInt w k x y z) (hs:Sz m z):IsInt w m x y z:=by
  obtain ⟨ao,len,cap,h1,h2,h3,_⟩:=h
  exact ⟨ao,len,cap,h1,h2,h3,hs⟩
theorem IsRat.tight {w:World} {k m:Nat} {c0 c1 c2 c3:Value} {q:Rat} (h:IsRat w k c0 c1 c2 c3 q) (hs:RS m q) (hm:64≤m):IsRat w m c0 c1 c2 c3 q:=by
  obtain ⟨h1,⟨D,h2,h3⟩,_⟩:=h
  refine ⟨h1.tight hs.1,⟨D,h2.tight ?_,h3⟩,hm⟩
  rcases h3 with rfl | ⟨rfl,_⟩
  · exact hs.2
  · exact Nat.two_pow_pos m
end Go.Proofs.YtaldbfflkpgfoaaGreatDoor
/- Printed by a program of the prover's:the check of a placement. -/
namespace Go.Proofs.YtaldbfflkpgfoaaGreatDoor
open Go.RowKit

section
variable {qq0 qq1 qq2 qq3:Int}
theorem qsgn0 (h:(qq0==(0:Int))=false):qsgn qq0 qq1 qq2 qq3=sgn qq0∧qq0≠0:=by
  have h:qq0≠0:=by simpa using h
  exact ⟨if_neg h,h⟩
theorem qsgn1 (h0:(qq0==(0:Int))=true) (h:(qq1==(0:Int))=false):qsgn qq0 qq1 qq2 qq3=sgn qq1∧qq1≠0:=by
  have h0:qq0=0:=by simpa using h0
  have h:qq1≠0:=by simpa using h
  refine ⟨?_,h⟩
  unfold qsgn;rw [if_pos h0,if_neg h]
theorem qsgn2 (h0:(qq0==(0:Int))=true) (h1:(qq1==(0:Int))=true) (h:(qq2==(0:Int))=false):qsgn qq0 qq1 qq2 qq3=sgn qq2∧qq2≠0:=by
  have h0:qq0=0:=by simpa using h0
  have h1:qq1=0:=by simpa using h1
  have h:qq2≠0:=by simpa using h
  refine ⟨?_,h⟩
  unfold qsgn;rw [if_pos h0,if_pos h1,if_neg h]
theorem qsgn3 (h0:(qq0==(0:Int))=true) (h1:(qq1==(0:Int))=true) (h2:(qq2==(0:Int))=true) (hz:¬(qq0=0∧qq1=0∧qq2=0∧qq3=0)):qsgn qq0 qq1 qq2 qq3=sgn qq3∧qq3≠0:=by
  have h0:qq0=0:=by simpa using h0
  have h1:qq1=0:=by simpa using h1
  have h2:qq2=0:=by simpa using h2
  refine ⟨?_,fun h3=>hz ⟨h0,h1,h2,h3⟩⟩
  unfold qsgn;rw [if_pos h0,if_pos h1,if_pos h2]
theorem chk_g {g E:Int} (hG:g=qgcd qq0 qq1 qq2 qq3) (h:(g !=(1:Int))=true):(3:Int)=(if ¬(qgcd qq0 qq1 qq2 qq3=1∧qsgn qq0 qq1 qq2 qq3=1) then 3 else E):=by
  rw [if_pos]
  rintro ⟨h1,_⟩
  rw [hG,h1] at h;exact absurd h (by decide)
theorem chk_s {s E:Int} (hS:qsgn qq0 qq1 qq2 qq3=sgn s∧s≠0) (h:decide (s<(0:Int))=true):(3:Int)=(if ¬(qgcd qq0 qq1 qq2 qq3=1∧qsgn qq0 qq1 qq2 qq3=1) then 3 else E):=by
  rw [if_pos]
  rintro ⟨_,h1⟩
  rw [hS.1] at h1
  have h:=of_decide_eq_true h
  unfold sgn at h1;rw [if_pos h] at h1;omega
theorem chk_e {g s E:Int} (hG:g=qgcd qq0 qq1 qq2 qq3) (hg:(g !=(1:Int))=false) (hS:qsgn qq0 qq1 qq2 qq3=sgn s∧s≠0) (h:decide (s<(0:Int))=false):E=(if ¬(qgcd qq0 qq1 qq2 qq3=1∧qsgn qq0 qq1 qq2 qq3=1) then 3 else E):=by
  rw [if_neg]
  simp only [Classical.not_not]
  have h:=of_decide_eq_false h
  have hs:=hS.2
  refine ⟨by rw [← hG];simpa using hg,?_⟩
  rw [hS.1];unfold sgn;rw [if_neg h,if_neg hs]
theorem chk_rr (hz:¬(qq0=0∧qq1=0∧qq2=0∧qq3=0)):((qq0==0&&qq1==0&&qq2==0&&qq3==0))=false:=by
  rw [Bool.eq_false_iff];intro h
  simp only [Bool.and_eq_true,beq_iff_eq] at h
  exact hz ⟨h.1.1.1,h.1.1.2,h.1.2,h.2⟩
end
set_option maxRecDepth 100000 in
set_option maxHeartbeats 1000000 in
theorem mcheckr_z {qq0 qq1 qq2 qq3:Int} (_j0:-9223372036854775808≤qq0∧qq0≤9223372036854775807) (_j1:-9223372036854775808≤qq1∧qq1≤9223372036854775807) (_j2:-9223372036854775808≤qq2∧qq2≤9223372036854775807) (_j3:-9223372036854775808≤qq3∧qq3≤9223372036854775807) (sa1 sa2 sa3:Rat) (_hsa1:RS 64 sa1) (_hsa2:RS 64 sa2) (_hsa3:RS 64 sa3) (_lsa1:((ratL sa1).length:Int)≤400) (_lsa2:((ratL sa2).length:Int)≤400) (_lsa3:((ratL sa3).length:Int)≤400) (w:World) (_hm:Mx w) (hz:(qq0==0&&qq1==0&&qq2==0&&qq3==0)=true):
    Calls Tryz.prog 15 #[(.agg #[(.int .i64 (qq0)),(.int .i64 (qq1)),(.int .i64 (qq2)),(.int .i64 (qq3)),(.string ⟨(ratL (sa1):List UInt8).toArray⟩),(.string ⟨(ratL (sa2):List UInt8).toArray⟩),(.string ⟨(ratL (sa3):List UInt8).toArray⟩)])] w fun e w'=>e=.returned (.int .i64 (19))∧Gr w w':=by
 go_enter Tryz.func15,Tryz.ntmps15
 have hB:=Gr.refl w
 refine wp_seq_k (fun K1 k1=>?_)
 refine rg [0,1] ?_
 refine se ?_
 refine eb 27 #[(.int .i64 (qq0)),(.int .i64 (qq1)),(.int .i64 (qq2)),(.int .i64 (qq3)),(.string ⟨(ratL (sa1):List UInt8).toArray⟩),(.string ⟨(ratL (sa2):List UInt8).toArray⟩),(.string ⟨(ratL (sa3):List UInt8).toArray⟩)] 1 hB fun b2 w2 g2 L2 o2 q2 hB=>?_
 simp only [p3,p4]
 refine sv 2 (.int .i64 0) ?_
 refine sq_nil ?_
 refine k1 _ _ ?_
 try clear k1 K1
 refine wp_seq_k (fun K3 k3=>?_)
 refine wp_seq_k (fun K4 k4=>?_)
 refine rg [0,1,2,3] ?_
 refine sv 12 (.pointer (some ⟨b2,0,none⟩)) ?_
 refine sw 13 (.agg #[(.int .i64 (qq0)),(.int .i64 (qq1)),(.int .i64 (qq2)),(.int .i64 (qq3))]) rfl (rl 22 0 [(.int .i64 (qq0)),(.int .i64 (qq1)),(.int .i64 (qq2)),(.int .i64 (qq3))] L2) ?_
 refine sv 14 (.agg #[(.int .i64 0),(.int .i64 0),(.int .i64 0),(.int .i64 0)]) ?_
 refine sw 15 (.bool true) rfl (RunV.bool (x:=(qq0==0&&qq1==0&&qq2==0&&qq3==0)) (rv_arreq 22 22 3 (k:=.i64) _ _ [qq0,qq1,qq2,qq3] [0,0,0,0] rfl rfl rfl (by kernel_rfl) (by kernel_rfl) (by kernel_rfl)) hz) ?_
 refine sq_nil ?_
 refine k4 _ _ ?_
 try clear k4 K4
 refine wp_cond_true rfl ?_
 refine wp_seq_k (fun K5 k5=>?_)
 refine rg [0] ?_
 refine sv 2 (.int .i64 19) ?_
 refine sq_nil ?_
 refine k5 _ _ ?_
 try clear k5 K5
 refine wp_ret ?_
 simp only [Exit.then]
 refine bodyPost_ret (v:=(.int .i64 19)) (ret_tmp rfl rfl) rfl ⟨?_,hB⟩
 exact rfl

set_option maxRecDepth 100000 in
set_option maxHeartbeats 8000000 in
theorem mcheckr_f {qq0 qq1 qq2 qq3:Int} (_j0:-9223372036854775808≤qq0∧qq0≤9223372036854775807) (_j1:-9223372036854775808≤qq1∧qq1≤9223372036854775807) (_j2:-9223372036854775808≤qq2∧qq2≤9223372036854775807) (_j3:-9223372036854775808≤qq3∧qq3≤9223372036854775807) (sa1 sa2 sa3:Rat) (hsa1:RS 64 sa1) (hsa2:RS 64 sa2) (hsa3:RS 64 sa3) (lsa1:((ratL sa1).length:Int)≤400) (lsa2:((ratL sa2).length:Int)≤400) (lsa3:((ratL sa3).length:Int)≤400) (w:World) (hm:Mx w) (hz:(qq0==0&&qq1==0&&qq2==0&&qq3==0)=false) (hnz:¬(qq0=0∧qq1=0∧qq2=0∧qq3=0)) (_i0:(-12≤qq0∧qq0≤12)) (_i1:(-12≤qq1∧qq1≤12)) (_i2:(-12≤qq2∧qq2≤12)) (_i3:(-12≤qq3∧qq3≤12)):
    Calls Tryz.prog 15 #[(.agg #[(.int .i64 (qq0)),(.int .i64 (qq1)),(.int .i64 (qq2)),(.int .i64 (qq3)),(.string ⟨(ratL (sa1):List UInt8).toArray⟩),(.string ⟨(ratL (sa2):List UInt8).toArray⟩),(.string ⟨(ratL (sa3):List UInt8).toArray⟩)])] w fun e w'=>e=.returned (.int .i64 (if ¬(qgcd qq0 qq1 qq2 qq3=1∧qsgn qq0 qq1 qq2 qq3=1) then 3 else 0))∧Gr w w':=by
 have bq0:decide (qq0<(-12:Int))=false∧decide ((12:Int)<qq0)=false:=⟨decide_eq_false (by omega),decide_eq_false (by omega)⟩
 have bq1:decide (qq1<(-12:Int))=false∧decide ((12:Int)<qq1)=false:=⟨decide_eq_false (by omega),decide_eq_false (by omega)⟩
 have bq2:decide (qq2<(-12:Int))=false∧decide ((12:Int)<qq2)=false:=⟨decide_eq_false (by omega),decide_eq_false (by omega)⟩
 have bq3:decide (qq3<(-12:Int))=false∧decide ((12:Int)<qq3)=false:=⟨decide_eq_false (by omega),decide_eq_false (by omega)⟩
 go_enter Tryz.func15,Tryz.ntmps15
 have hB:=Gr.refl w
 refine wp_seq_k (fun K1 k1=>?_)
 refine rg [0,1] ?_
 refine se ?_
 refine eb 27 #[(.int .i64 (qq0)),(.int .i64 (qq1)),(.int .i64 (qq2)),(.int .i64 (qq3)),(.string ⟨(ratL (sa1):List UInt8).toArray⟩),(.string ⟨(ratL (sa2):List UInt8).toArray⟩),(.string ⟨(ratL (sa3):List UInt8).toArray⟩)] 1 hB fun b2 w2 g2 L2 o2 q2 hB=>?_
 simp only [p3,p4]
 refine sv 2 (.int .i64 0) ?_
 refine sq_nil ?_
 refine k1 _ _ ?_
 try clear k1 K1
 refine wp_seq_k (fun K3 k3=>?_)
 refine wp_seq_k (fun K4 k4=>?_)
 refine rg [0,1,2,3] ?_
 refine sv 12 (.pointer (some ⟨b2,0,none⟩)) ?_
 refine sw 13 (.agg #[(.int .i64 (qq0)),(.int .i64 (qq1)),(.int .i64 (qq2)),(.int .i64 (qq3))]) rfl (rl 22 0 [(.int .i64 (qq0)),(.int .i64 (qq1)),(.int .i64 (qq2)),(.int .i64 (qq3))] L2) ?_
 refine sv 14 (.agg #[(.int .i64 0),(.int .i64 0),(.int .i64 0),(.int .i64 0)]) ?_
 refine sw 15 (.bool false) rfl (RunV.bool (x:=(qq0==0&&qq1==0&&qq2==0&&qq3==0)) (rv_arreq 22 22 3 (k:=.i64) _ _ [qq0,qq1,qq2,qq3] [0,0,0,0] rfl rfl rfl (by kernel_rfl) (by kernel_rfl) (by kernel_rfl)) hz) ?_
 refine sq_nil ?_
 refine k4 _ _ ?_
 try clear k4 K4
 refine wp_cond_false rfl ?_
 refine wp_skip ?_
 refine k3 _ _ ?_
 try clear k3 K3
 refine wp_seq_k (fun K5 k5=>?_)
 refine wp_seq_k (fun K6 k6=>?_)
 refine rg [0,1,2] ?_
 refine sv 16 (.pointer (some ⟨b2,0,none⟩)) ?_
 refine sw 17 (.agg #[(.int .i64 (qq0)),(.int .i64 (qq1)),(.int .i64 (qq2)),(.int .i64 (qq3))]) rfl (rl 22 0 [(.int .i64 (qq0)),(.int .i64 (qq1)),(.int .i64 (qq2)),(.int .i64 (qq3))] L2) ?_
 refine sv 18 (.int .i64 0) ?_
 refine sq_nil ?_
 refine k6 _ _ ?_
 try clear k6 K6
 refine wp_block ?_
 refine wp_loop_rounds 6 ?_
 show Code.wp _ _ _ _ _
 refine wp_seq_k (fun K7 k7=>?_)
 refine rg [0] ?_
 refine sv 19 (.bool true) ?_
 refine sq_nil ?_
 refine k7 _ _ ?_
 try clear k7 K7
 refine wp_seq_k (fun K8 k8=>?_)
 refine wp_cond_true rfl ?_
 refine wp_skip ?_
 refine k8 _ _ ?_
 try clear k8 K8
 refine wp_seq_k (fun K9 k9=>?_)
 refine wp_block ?_
 refine wp_seq_k (fun K10 k10=>?_)
 refine rg [0,1] ?_
 refine sv 20 (.int .i64 (qq0)) ?_
 refine sv 4 (.int .i64 (qq0)) ?_
 refine sq_nil ?_
 refine k10 _ _ ?_
 try clear k10 K10
 refine wp_seq_k (fun K11 k11=>?_)
 refine rg [0,1,2,3,4,5] ?_
 refine sv 21 (.int .i64 (qq0)) ?_
 refine sw 22 (.bool false) rfl (RunV.bool (x:=decide (qq0<(-12:Int))) (rvk (by kernel_rfl)) bq0.1) ?_
 refine sv 23 (.bool false) ?_
 refine sv 24 (.int .i64 (qq0)) ?_
 refine sw 25 (.bool false) rfl (RunV.bool (x:=decide ((12:Int)<qq0)) (rvk (by kernel_rfl)) bq0.2) ?_
 refine sv 26 (.bool false) ?_
 refine sq_nil ?_
 refine k11 _ _ ?_
 try clear k11 K11
 refine wp_cond_false rfl ?_
 refine wp_skip ?_
 refine k9 _ _ ?_
 try clear k9 K9
 refine rg [0,1] ?_
 refine sv 27 (.int .i64 1) ?_
 refine sv 18 (.int .i64 1) ?_
 refine sq_nil ?_
 show Code.rounds _ _ _ _ _ _
 show Code.wp _ _ _ _ _
 refine wp_seq_k (fun K12 k12=>?_)
 refine rg [0] ?_
 refine sv 19 (.bool true) ?_
 refine sq_nil ?_
 refine k12 _ _ ?_
 try clear k12 K12
 refine wp_seq_k (fun K13 k13=>?_)
 refine wp_cond_true rfl ?_
 refine wp_skip ?_
 refine k13 _ _ ?_
 try clear k13 K13
 refine wp_seq_k (fun K14 k14=>?_)
 refine wp_block ?_
 refine wp_seq_k (fun K15 k15=>?_)
 refine rg [0,1] ?_
 refine sv 20 (.int .i64 (qq1)) ?_
 refine sv 4 (.int .i64 (qq1)) ?_
 refine sq_nil ?_
 refine k15 _ _ ?_
 try clear k15 K15
 refine wp_seq_k (fun K16 k16=>?_)
 refine rg [0,1,2,3,4,5] ?_
 refine sv 21 (.int .i64 (qq1)) ?_
 refine sw 22 (.bool false) rfl (RunV.bool (x:=decide (qq1<(-12:Int))) (rvk (by kernel_rfl)) bq1.1) ?_
 refine sv 23 (.bool false) ?_
 refine sv 24 (.int .i64 (qq1)) ?_
 refine sw 25 (.bool false) rfl (RunV.bool (x:=decide ((12:Int)<qq1)) (rvk (by kernel_rfl)) bq1.2) ?_
 refine sv 26 (.bool false) ?_
 refine sq_nil ?_
 refine k16 _ _ ?_
 try clear k16 K16
 refine wp_cond_false rfl ?_
 refine wp_skip ?_
 refine k14 _ _ ?_
 try clear k14 K14
 refine rg [0,1] ?_
 refine sv 27 (.int .i64 2) ?_
 refine sv 18 (.int .i64 2) ?_
 refine sq_nil ?_
 show Code.rounds _ _ _ _ _ _
 show Code.wp _ _ _ _ _
 refine wp_seq_k (fun K17 k17=>?_)
 refine rg [0] ?_
 refine sv 19 (.bool true) ?_
 refine sq_nil ?_
 refine k17 _ _ ?_
 try clear k17 K17
 refine wp_seq_k (fun K18 k18=>?_)
 refine wp_cond_true rfl ?_
 refine wp_skip ?_
 refine k18 _ _ ?_
 try clear k18 K18
 refine wp_seq_k (fun K19 k19=>?_)
 refine wp_block ?_
 refine wp_seq_k (fun K20 k20=>?_)
 refine rg [0,1] ?_
 refine sv 20 (.int .i64 (qq2)) ?_
 refine sv 4 (.int .i64 (qq2)) ?_
 refine sq_nil ?_
 refine k20 _ _ ?_
 try clear k20 K20
 refine wp_seq_k (fun K21 k21=>?_)
 refine rg [0,1,2,3,4,5] ?_
 refine sv 21 (.int .i64 (qq2)) ?_
 refine sw 22 (.bool false) rfl (RunV.bool (x:=decide (qq2<(-12:Int))) (rvk (by kernel_rfl)) bq2.1) ?_
 refine sv 23 (.bool false) ?_
 refine sv 24 (.int .i64 (qq2)) ?_
 refine sw 25 (.bool false) rfl (RunV.bool (x:=decide ((12:Int)<qq2)) (rvk (by kernel_rfl)) bq2.2) ?_
 refine sv 26 (.bool false) ?_
 refine sq_nil ?_
 refine k21 _ _ ?_
 try clear k21 K21
 refine wp_cond_false rfl ?_
 refine wp_skip ?_
 refine k19 _ _ ?_
 try clear k19 K19
 refine rg [0,1] ?_
 refine sv 27 (.int .i64 3) ?_
 refine sv 18 (.int .i64 3) ?_
 refine sq_nil ?_
 show Code.rounds _ _ _ _ _ _
 show Code.wp _ _ _ _ _
 refine wp_seq_k (fun K22 k22=>?_)
 refine rg [0] ?_
 refine sv 19 (.bool true) ?_
 refine sq_nil ?_
 refine k22 _ _ ?_
 try clear k22 K22
 refine wp_seq_k (fun K23 k23=>?_)
 refine wp_cond_true rfl ?_
 refine wp_skip ?_
 refine k23 _ _ ?_
 try clear k23 K23
 refine wp_seq_k (fun K24 k24=>?_)
 refine wp_block ?_
 refine wp_seq_k (fun K25 k25=>?_)
 refine rg [0,1] ?_
 refine sv 20 (.int .i64 (qq3)) ?_
 refine sv 4 (.int .i64 (qq3)) ?_
 refine sq_nil ?_
 refine k25 _ _ ?_
 try clear k25 K25
 refine wp_seq_k (fun K26 k26=>?_)
 refine rg [0,1,2,3,4,5] ?_
 refine sv 21 (.int .i64 (qq3)) ?_
 refine sw 22 (.bool false) rfl (RunV.bool (x:=decide (qq3<(-12:Int))) (rvk (by kernel_rfl)) bq3.1) ?_
 refine sv 23 (.bool false) ?_
 refine sv 24 (.int .i64 (qq3)) ?_
 refine sw 25 (.bool false) rfl (RunV.bool (x:=decide ((12:Int)<qq3)) (rvk (by kernel_rfl)) bq3.2) ?_
 refine sv 26 (.bool false) ?_
 refine sq_nil ?_
 refine k26 _ _ ?_
 try clear k26 K26
 refine wp_cond_false rfl ?_
 refine wp_skip ?_
 refine k24 _ _ ?_
 try clear k24 K24
 refine rg [0,1] ?_
 refine sv 27 (.int .i64 4) ?_
 refine sv 18 (.int .i64 4) ?_
 refine sq_nil ?_
 show Code.rounds _ _ _ _ _ _
 show Code.wp _ _ _ _ _
 refine wp_seq_k (fun K27 k27=>?_)
 refine rg [0] ?_
 refine sv 19 (.bool false) ?_
 refine sq_nil ?_
 refine k27 _ _ ?_
 try clear k27 K27
 refine wp_seq_k (fun K28 k28=>?_)
 refine wp_cond_false rfl ?_
 refine wp_exit ?_
 simp only [Exit.then,Exit.inBlock,↓reduceIte]
 refine k5 _ _ ?_
 try clear k5 K5
 refine wp_seq_k (fun K29 k29=>?_)
 refine rg [0,1] ?_
 refine sv 5 (.int .i64 0) ?_
 refine sv 6 (.int .i64 0) ?_
 refine sq_nil ?_
 refine k29 _ _ ?_
 try clear k29 K29
 refine wp_seq_k (fun K30 k30=>?_)
 refine wp_seq_k (fun K31 k31=>?_)
 refine rg [0,1,2] ?_
 refine sv 28 (.pointer (some ⟨b2,0,none⟩)) ?_
 refine sw 29 (.agg #[(.int .i64 (qq0)),(.int .i64 (qq1)),(.int .i64 (qq2)),(.int .i64 (qq3))]) rfl (rl 22 0 [(.int .i64 (qq0)),(.int .i64 (qq1)),(.int .i64 (qq2)),(.int .i64 (qq3))] L2) ?_
 refine sv 30 (.int .i64 0) ?_
 refine sq_nil ?_
 refine k31 _ _ ?_
 try clear k31 K31
 refine wp_block ?_
 refine wp_loop_rounds 6 ?_
 show Code.wp _ _ _ _ _
 refine wp_seq_k (fun K32 k32=>?_)
 refine rg [0] ?_
 refine sv 31 (.bool true) ?_
 refine sq_nil ?_
 refine k32 _ _ ?_
 try clear k32 K32
 refine wp_seq_k (fun K33 k33=>?_)
 refine wp_cond_true rfl ?_
 refine wp_skip ?_
 refine k33 _ _ ?_
 try clear k33 K33
 refine wp_seq_k (fun K34 k34=>?_)
 refine wp_block ?_
 refine wp_seq_k (fun K35 k35=>?_)
 refine rg [0,1] ?_
 refine sv 32 (.int .i64 (qq0)) ?_
 refine sv 8 (.int .i64 (qq0)) ?_
 refine sq_nil ?_
 refine k35 _ _ ?_
 try clear k35 K35
 refine wp_seq_k (fun K36 k36=>?_)
 refine wp_seq_k (fun K37 k37=>?_)
 refine rg [0,1] ?_
 refine sv 33 (.int .i64 0) ?_
 refine sv 34 (.bool true) ?_
 refine sq_nil ?_
 refine k37 _ _ ?_
 try clear k37 K37
 refine wp_cond_true rfl ?_
 refine rg [0,1] ?_
 refine sv 35 (.int .i64 (qq0)) ?_
 refine sv 6 (.int .i64 (qq0)) ?_
 refine sq_nil ?_
 refine k36 _ _ ?_
 try clear k36 K36
 refine wp_seq_k (fun K38 k38=>?_)
 refine rg [0,1,2,3,4] ?_
 refine sv 36 (.int .i64 (qq0)) ?_
 refine sv 37 (.int .i64 (qq0)) ?_
 refine sw 38 (.int .i64 ((-qq0))) rfl (RunV.int (x:=IntKind.i64.wrap (0 - qq0)) (y:=(-qq0)) (rvk (by kernel_rfl)) (by first | rfl | (rw [IntKind.wrap_i64];omega))) ?_
 refine sv 39 (.int .i64 ((if (-qq0)>qq0 then (-qq0) else qq0))) ?_
 refine sv 9 (.int .i64 ((if (-qq0)>qq0 then (-qq0) else qq0))) ?_
 refine sq_nil ?_
 refine k38 _ _ ?_
 try clear k38 K38
 refine wp_block ?_
 refine wp_loop_inv (a:=⟨List.toArray ?l39,[]⟩) (fun n a w'=>∃ (gz40:Int) (nz40:Int) (u39:Nat→Value),nz40.toNat=n∧a=⟨[(u39 0),(.pointer (some ⟨b2,0,none⟩)),(.int .i64 0),undef,(.int .i64 (qq3)),(.int .i64 (gz40)),(.int .i64 (qq0)),undef,(.int .i64 (qq0)),(.int .i64 (nz40)),undef,undef,(u39 12),(u39 13),(u39 14),(.bool false),(u39 16),(.agg #[(.int .i64 (qq0)),(.int .i64 (qq1)),(.int .i64 (qq2)),(.int .i64 (qq3))]),(.int .i64 4),(.bool false),(u39 20),(u39 21),(u39 22),(u39 23),(u39 24),(u39 25),(.bool false),(u39 27),(u39 28),(.agg #[(.int .i64 (qq0)),(.int .i64 (qq1)),(.int .i64 (qq2)),(.int .i64 (qq3))]),(.int .i64 0),(.bool true),(u39 32),(u39 33),(.bool true),(u39 35),(u39 36),(u39 37),(u39 38),(u39 39),(u39 40),(u39 41),(u39 42),(u39 43),(u39 44),(u39 45),undef,undef,undef,undef,undef,undef,undef,undef,undef,undef,undef,undef,undef,undef].toArray,[]⟩∧Int.gcd gz40 nz40=Int.gcd (0:Int) (if (-qq0)>qq0 then (-qq0) else qq0)∧0≤gz40∧0≤nz40∧Lc w' b2 #[(.int .i64 (qq0)),(.int .i64 (qq1)),(.int .i64 (qq2)),(.int .i64 (qq3)),(.string ⟨(ratL (sa1):List UInt8).toArray⟩),(.string ⟨(ratL (sa2):List UInt8).toArray⟩),(.string ⟨(ratL (sa3):List UInt8).toArray⟩)] 27∧Gr w w') (Int.toNat (if (-qq0)>qq0 then (-qq0) else qq0)) ?_ ?_
 ·exact ⟨_,_,(fun i=>List.getD ?l39 i undef),rfl,rfl,rfl,(by omega),(by split<;>omega),L2,hB⟩
 rintro n39 a39 w39 ⟨gz40,nz40,u39,rfl,rfl,hz40,ha40,hc40,L2,hB⟩ K39 k39
 refine wp_seq_k (fun K41 k41=>?_)
 refine wp_seq_k (fun K42 k42=>?_)
 refine rg [0,1] ?_
 refine sv 40 (.int .i64 (nz40)) ?_
 refine sv 41 (.bool ((nz40 !=(0:Int)))) ?_
 refine sq_nil ?_
 refine k42 _ _ ?_
 try clear k42 K42
 refine wp_cond_split (t:=(nz40 !=(0:Int))) rfl (fun hb43=>?_) (fun hb43=>?_)
 ·have hp40:0<nz40:=by have h0:¬ nz40=0:=(by simpa using hb43);omega
  refine wp_skip ?_
  refine k41 _ _ ?_
  try clear k41 K41
  refine wp_block ?_
  have gd45:=Gr.drew w39
  replace hB:=hB.trans gd45
  refine wp_region_ord (fun _=>True) [(true,0),(true,1),(true,2),(true,3),(true,4),(true,5)] (by kernel_rfl) (by kernel_rfl) (by kernel_rfl) (by decide) (fun _ _ _ _ _ h=>h) trivial ?_
  refine ov 42 (.int .i64 (nz40)) ?_
  refine ov 43 (.int .i64 (gz40)) ?_
  refine ov 44 (.int .i64 (nz40)) ?_
  refine ow 45 (.int .i64 ((gz40 % nz40))) rfl (fun w' hS=>(rv_rem 3 3 _ _ gz40 nz40 rfl rfl rfl ha40 hp40)) ?_
  refine ov 5 (.int .i64 (nz40)) ?_
  refine ov 9 (.int .i64 ((gz40 % nz40))) ?_
  refine ord_nil ?_
  replace L2:=L2.gr gd45
  refine k39 ((gz40 % nz40).toNat) ⟨List.toArray ?l46,[]⟩ _ (by have:=Int.emod_lt_of_pos gz40 hp40;omega) ?_
  exact ⟨_,_,(fun i=>List.getD ?l46 i undef),rfl,rfl,(by rw [gcd_stepZ ha40 hp40];exact hz40),(by omega),(Int.emod_nonneg _ (by omega)),L2,hB⟩
 ·have hg40:=gcd_endZ (m:=qq0) hz40 hb43 ha40 (by split;exact .inr rfl;exact .inl rfl)
  refine wp_exit ?_
  simp only [Exit.then,Exit.inBlock,↓reduceIte]
  refine k34 _ _ ?_
  try clear k34 K34
  refine rg [0,1] ?_
  refine sv 46 (.int .i64 1) ?_
  refine sv 30 (.int .i64 1) ?_
  refine sq_nil ?_
  show Code.rounds _ _ _ _ _ _
  show Code.wp _ _ _ _ _
  refine wp_seq_k (fun K47 k47=>?_)
  refine rg [0] ?_
  refine sv 31 (.bool true) ?_
  refine sq_nil ?_
  refine k47 _ _ ?_
  try clear k47 K47
  refine wp_seq_k (fun K48 k48=>?_)
  refine wp_cond_true rfl ?_
  refine wp_skip ?_
  refine k48 _ _ ?_
  try clear k48 K48
  refine wp_seq_k (fun K49 k49=>?_)
  refine wp_block ?_
  refine wp_seq_k (fun K50 k50=>?_)
  refine rg [0,1] ?_
  refine sv 32 (.int .i64 (qq1)) ?_
  refine sv 8 (.int .i64 (qq1)) ?_
  refine sq_nil ?_
  refine k50 _ _ ?_
  try clear k50 K50
  refine wp_seq_k (fun K51 k51=>?_)
  refine wp_seq_k (fun K52 k52=>?_)
  refine rg [0,1] ?_
  refine sv 33 (.int .i64 (qq0)) ?_
  refine sv 34 (.bool ((qq0==(0:Int)))) ?_
  refine sq_nil ?_
  refine k52 _ _ ?_
  try clear k52 K52
  refine wp_cond_split (t:=(qq0==(0:Int))) rfl (fun hb53=>?_) (fun hb53=>?_)
  ·refine rg [0,1] ?_
   refine sv 35 (.int .i64 (qq1)) ?_
   refine sv 6 (.int .i64 (qq1)) ?_
   refine sq_nil ?_
   refine k51 _ _ ?_
   try clear k51 K51
   refine wp_seq_k (fun K54 k54=>?_)
   refine rg [0,1,2,3,4] ?_
   refine sv 36 (.int .i64 (qq1)) ?_
   refine sv 37 (.int .i64 (qq1)) ?_
   refine sw 38 (.int .i64 ((-qq1))) rfl (RunV.int (x:=IntKind.i64.wrap (0 - qq1)) (y:=(-qq1)) (rvk (by kernel_rfl)) (by first | rfl | (rw [IntKind.wrap_i64];omega))) ?_
   refine sv 39 (.int .i64 ((if (-qq1)>qq1 then (-qq1) else qq1))) ?_
   refine sv 9 (.int .i64 ((if (-qq1)>qq1 then (-qq1) else qq1))) ?_
   refine sq_nil ?_
   refine k54 _ _ ?_
   try clear k54 K54
   refine wp_block ?_
   refine wp_loop_inv (a:=⟨List.toArray ?l55,[]⟩) (fun n a w'=>∃ (gz56:Int) (nz56:Int) (u55:Nat→Value),nz56.toNat=n∧a=⟨[(u55 0),(.pointer (some ⟨b2,0,none⟩)),(.int .i64 0),undef,(.int .i64 (qq3)),(.int .i64 (gz56)),(.int .i64 (qq1)),undef,(.int .i64 (qq1)),(.int .i64 (nz56)),undef,undef,(u55 12),(u55 13),(u55 14),(.bool false),(u55 16),(.agg #[(.int .i64 (qq0)),(.int .i64 (qq1)),(.int .i64 (qq2)),(.int .i64 (qq3))]),(.int .i64 4),(.bool false),(u55 20),(u55 21),(u55 22),(u55 23),(u55 24),(u55 25),(.bool false),(u55 27),(u55 28),(.agg #[(.int .i64 (qq0)),(.int .i64 (qq1)),(.int .i64 (qq2)),(.int .i64 (qq3))]),(.int .i64 1),(.bool true),(u55 32),(u55 33),(.bool ((qq0==(0:Int)))),(u55 35),(u55 36),(u55 37),(u55 38),(u55 39),(u55 40),(u55 41),(u55 42),(u55 43),(u55 44),(u55 45),(u55 46),undef,undef,undef,undef,undef,undef,undef,undef,undef,undef,undef,undef,undef].toArray,[]⟩∧Int.gcd gz56 nz56=Int.gcd (gz40:Int) (if (-qq1)>qq1 then (-qq1) else qq1)∧0≤gz56∧0≤nz56∧Lc w' b2 #[(.int .i64 (qq0)),(.int .i64 (qq1)),(.int .i64 (qq2)),(.int .i64 (qq3)),(.string ⟨(ratL (sa1):List UInt8).toArray⟩),(.string ⟨(ratL (sa2):List UInt8).toArray⟩),(.string ⟨(ratL (sa3):List UInt8).toArray⟩)] 27∧Gr w w') (Int.toNat (if (-qq1)>qq1 then (-qq1) else qq1)) ?_ ?_
   ·exact ⟨_,_,(fun i=>List.getD ?l55 i undef),rfl,rfl,rfl,(by omega),(by split<;>omega),L2,hB⟩
   rintro n55 a55 w55 ⟨gz56,nz56,u55,rfl,rfl,hz56,ha56,hc56,L2,hB⟩ K55 k55
   refine wp_seq_k (fun K57 k57=>?_)
   refine wp_seq_k (fun K58 k58=>?_)
   refine rg [0,1] ?_
   refine sv 40 (.int .i64 (nz56)) ?_
   refine sv 41 (.bool ((nz56 !=(0:Int)))) ?_
   refine sq_nil ?_
   refine k58 _ _ ?_
   try clear k58 K58
   refine wp_cond_split (t:=(nz56 !=(0:Int))) rfl (fun hb59=>?_) (fun hb59=>?_)
   ·have hp56:0<nz56:=by have h0:¬ nz56=0:=(by simpa using hb59);omega
    refine wp_skip ?_
    refine k57 _ _ ?_
    try clear k57 K57
    refine wp_block ?_
    have gd61:=Gr.drew w55
    replace hB:=hB.trans gd61
    refine wp_region_ord (fun _=>True) [(true,0),(true,1),(true,2),(true,3),(true,4),(true,5)] (by kernel_rfl) (by kernel_rfl) (by kernel_rfl) (by decide) (fun _ _ _ _ _ h=>h) trivial ?_
    refine ov 42 (.int .i64 (nz56)) ?_
    refine ov 43 (.int .i64 (gz56)) ?_
    refine ov 44 (.int .i64 (nz56)) ?_
    refine ow 45 (.int .i64 ((gz56 % nz56))) rfl (fun w' hS=>(rv_rem 3 3 _ _ gz56 nz56 rfl rfl rfl ha56 hp56)) ?_
    refine ov 5 (.int .i64 (nz56)) ?_
    refine ov 9 (.int .i64 ((gz56 % nz56))) ?_
    refine ord_nil ?_
    replace L2:=L2.gr gd61
    refine k55 ((gz56 % nz56).toNat) ⟨List.toArray ?l62,[]⟩ _ (by have:=Int.emod_lt_of_pos gz56 hp56;omega) ?_
    exact ⟨_,_,(fun i=>List.getD ?l62 i undef),rfl,rfl,(by rw [gcd_stepZ ha56 hp56];exact hz56),(by omega),(Int.emod_nonneg _ (by omega)),L2,hB⟩
   ·have hg56:=gcd_endZ (m:=qq1) hz56 hb59 ha56 (by split;exact .inr rfl;exact .inl rfl)
    refine wp_exit ?_
    simp only [Exit.then,Exit.inBlock,↓reduceIte]
    refine k49 _ _ ?_
    try clear k49 K49
    refine rg [0,1] ?_
    refine sv 46 (.int .i64 2) ?_
    refine sv 30 (.int .i64 2) ?_
    refine sq_nil ?_
    show Code.rounds _ _ _ _ _ _
    show Code.wp _ _ _ _ _
    refine wp_seq_k (fun K63 k63=>?_)
    refine rg [0] ?_
    refine sv 31 (.bool true) ?_
    refine sq_nil ?_
    refine k63 _ _ ?_
    try clear k63 K63
    refine wp_seq_k (fun K64 k64=>?_)
    refine wp_cond_true rfl ?_
    refine wp_skip ?_
    refine k64 _ _ ?_
    try clear k64 K64
    refine wp_seq_k (fun K65 k65=>?_)
    refine wp_block ?_
    refine wp_seq_k (fun K66 k66=>?_)
    refine rg [0,1] ?_
    refine sv 32 (.int .i64 (qq2)) ?_
    refine sv 8 (.int .i64 (qq2)) ?_
    refine sq_nil ?_
    refine k66 _ _ ?_
    try clear k66 K66
    refine wp_seq_k (fun K67 k67=>?_)
    refine wp_seq_k (fun K68 k68=>?_)
    refine rg [0,1] ?_
    refine sv 33 (.int .i64 (qq1)) ?_
    refine sv 34 (.bool ((qq1==(0:Int)))) ?_
    refine sq_nil ?_
    refine k68 _ _ ?_
    try clear k68 K68
    refine wp_cond_split (t:=(qq1==(0:Int))) rfl (fun hb69=>?_) (fun hb69=>?_)
    ·refine rg [0,1] ?_
     refine sv 35 (.int .i64 (qq2)) ?_
     refine sv 6 (.int .i64 (qq2)) ?_
     refine sq_nil ?_
     refine k67 _ _ ?_
     try clear k67 K67
     refine wp_seq_k (fun K70 k70=>?_)
     refine rg [0,1,2,3,4] ?_
     refine sv 36 (.int .i64 (qq2)) ?_
     refine sv 37 (.int .i64 (qq2)) ?_
     refine sw 38 (.int .i64 ((-qq2))) rfl (RunV.int (x:=IntKind.i64.wrap (0 - qq2)) (y:=(-qq2)) (rvk (by kernel_rfl)) (by first | rfl | (rw [IntKind.wrap_i64];omega))) ?_
     refine sv 39 (.int .i64 ((if (-qq2)>qq2 then (-qq2) else qq2))) ?_
     refine sv 9 (.int .i64 ((if (-qq2)>qq2 then (-qq2) else qq2))) ?_
     refine sq_nil ?_
     refine k70 _ _ ?_
     try clear k70 K70
     refine wp_block ?_
     refine wp_loop_inv (a:=⟨List.toArray ?l71,[]⟩) (fun n a w'=>∃ (gz72:Int) (nz72:Int) (u71:Nat→Value),nz72.toNat=n∧a=⟨[(u71 0),(.pointer (some ⟨b2,0,none⟩)),(.int .i64 0),undef,(.int .i64 (qq3)),(.int .i64 (gz72)),(.int .i64 (qq2)),undef,(.int .i64 (qq2)),(.int .i64 (nz72)),undef,undef,(u71 12),(u71 13),(u71 14),(.bool false),(u71 16),(.agg #[(.int .i64 (qq0)),(.int .i64 (qq1)),(.int .i64 (qq2)),(.int .i64 (qq3))]),(.int .i64 4),(.bool false),(u71 20),(u71 21),(u71 22),(u71 23),(u71 24),(u71 25),(.bool false),(u71 27),(u71 28),(.agg #[(.int .i64 (qq0)),(.int .i64 (qq1)),(.int .i64 (qq2)),(.int .i64 (qq3))]),(.int .i64 2),(.bool true),(u71 32),(u71 33),(.bool ((qq1==(0:Int)))),(u71 35),(u71 36),(u71 37),(u71 38),(u71 39),(u71 40),(u71 41),(u71 42),(u71 43),(u71 44),(u71 45),(u71 46),undef,undef,undef,undef,undef,undef,undef,undef,undef,undef,undef,undef,undef].toArray,[]⟩∧Int.gcd gz72 nz72=Int.gcd (gz56:Int) (if (-qq2)>qq2 then (-qq2) else qq2)∧0≤gz72∧0≤nz72∧Lc w' b2 #[(.int .i64 (qq0)),(.int .i64 (qq1)),(.int .i64 (qq2)),(.int .i64 (qq3)),(.string ⟨(ratL (sa1):List UInt8).toArray⟩),(.string ⟨(ratL (sa2):List UInt8).toArray⟩),(.string ⟨(ratL (sa3):List UInt8).toArray⟩)] 27∧Gr w w') (Int.toNat (if (-qq2)>qq2 then (-qq2) else qq2)) ?_ ?_
     ·exact ⟨_,_,(fun i=>List.getD ?l71 i undef),rfl,rfl,rfl,(by omega),(by split<;>omega),L2,hB⟩
     rintro n71 a71 w71 ⟨gz72,nz72,u71,rfl,rfl,hz72,ha72,hc72,L2,hB⟩ K71 k71
     refine wp_seq_k (fun K73 k73=>?_)
     refine wp_seq_k (fun K74 k74=>?_)
     refine rg [0,1] ?_
     refine sv 40 (.int .i64 (nz72)) ?_
     refine sv 41 (.bool ((nz72 !=(0:Int)))) ?_
     refine sq_nil ?_
     refine k74 _ _ ?_
     try clear k74 K74
     refine wp_cond_split (t:=(nz72 !=(0:Int))) rfl (fun hb75=>?_) (fun hb75=>?_)
     ·have hp72:0<nz72:=by have h0:¬ nz72=0:=(by simpa using hb75);omega
      refine wp_skip ?_
      refine k73 _ _ ?_
      try clear k73 K73
      refine wp_block ?_
      have gd77:=Gr.drew w71
      replace hB:=hB.trans gd77
      refine wp_region_ord (fun _=>True) [(true,0),(true,1),(true,2),(true,3),(true,4),(true,5)] (by kernel_rfl) (by kernel_rfl) (by kernel_rfl) (by decide) (fun _ _ _ _ _ h=>h) trivial ?_
      refine ov 42 (.int .i64 (nz72)) ?_
      refine ov 43 (.int .i64 (gz72)) ?_
      refine ov 44 (.int .i64 (nz72)) ?_
      refine ow 45 (.int .i64 ((gz72 % nz72))) rfl (fun w' hS=>(rv_rem 3 3 _ _ gz72 nz72 rfl rfl rfl ha72 hp72)) ?_
      refine ov 5 (.int .i64 (nz72)) ?_
      refine ov 9 (.int .i64 ((gz72 % nz72))) ?_
      refine ord_nil ?_
      replace L2:=L2.gr gd77
      refine k71 ((gz72 % nz72).toNat) ⟨List.toArray ?l78,[]⟩ _ (by have:=Int.emod_lt_of_pos gz72 hp72;omega) ?_
      exact ⟨_,_,(fun i=>List.getD ?l78 i undef),rfl,rfl,(by rw [gcd_stepZ ha72 hp72];exact hz72),(by omega),(Int.emod_nonneg _ (by omega)),L2,hB⟩
     ·have hg72:=gcd_endZ (m:=qq2) hz72 hb75 ha72 (by split;exact .inr rfl;exact .inl rfl)
      refine wp_exit ?_
      simp only [Exit.then,Exit.inBlock,↓reduceIte]
      refine k65 _ _ ?_
      try clear k65 K65
      refine rg [0,1] ?_
      refine sv 46 (.int .i64 3) ?_
      refine sv 30 (.int .i64 3) ?_
      refine sq_nil ?_
      show Code.rounds _ _ _ _ _ _
      show Code.wp _ _ _ _ _
      refine wp_seq_k (fun K79 k79=>?_)
      refine rg [0] ?_
      refine sv 31 (.bool true) ?_
      refine sq_nil ?_
      refine k79 _ _ ?_
      try clear k79 K79
      refine wp_seq_k (fun K80 k80=>?_)
      refine wp_cond_true rfl ?_
      refine wp_skip ?_
      refine k80 _ _ ?_
      try clear k80 K80
      refine wp_seq_k (fun K81 k81=>?_)
      refine wp_block ?_
      refine wp_seq_k (fun K82 k82=>?_)
      refine rg [0,1] ?_
      refine sv 32 (.int .i64 (qq3)) ?_
      refine sv 8 (.int .i64 (qq3)) ?_
      refine sq_nil ?_
      refine k82 _ _ ?_
      try clear k82 K82
      refine wp_seq_k (fun K83 k83=>?_)
      refine wp_seq_k (fun K84 k84=>?_)
      refine rg [0,1] ?_
      refine sv 33 (.int .i64 (qq2)) ?_
      refine sv 34 (.bool ((qq2==(0:Int)))) ?_
      refine sq_nil ?_
      refine k84 _ _ ?_
      try clear k84 K84
      refine wp_cond_split (t:=(qq2==(0:Int))) rfl (fun hb85=>?_) (fun hb85=>?_)
      ·refine rg [0,1] ?_
       refine sv 35 (.int .i64 (qq3)) ?_
       refine sv 6 (.int .i64 (qq3)) ?_
       refine sq_nil ?_
       refine k83 _ _ ?_
       try clear k83 K83
       refine wp_seq_k (fun K86 k86=>?_)
       refine rg [0,1,2,3,4] ?_
       refine sv 36 (.int .i64 (qq3)) ?_
       refine sv 37 (.int .i64 (qq3)) ?_
       refine sw 38 (.int .i64 ((-qq3))) rfl (RunV.int (x:=IntKind.i64.wrap (0 - qq3)) (y:=(-qq3)) (rvk (by kernel_rfl)) (by first | rfl | (rw [IntKind.wrap_i64];omega))) ?_
       refine sv 39 (.int .i64 ((if (-qq3)>qq3 then (-qq3) else qq3))) ?_
       refine sv 9 (.int .i64 ((if (-qq3)>qq3 then (-qq3) else qq3))) ?_
       refine sq_nil ?_
       refine k86 _ _ ?_
       try clear k86 K86
       refine wp_block ?_
       refine wp_loop_inv (a:=⟨List.toArray ?l87,[]⟩) (fun n a w'=>∃ (gz88:Int) (nz88:Int) (u87:Nat→Value),nz88.toNat=n∧a=⟨[(u87 0),(.pointer (some ⟨b2,0,none⟩)),(.int .i64 0),undef,(.int .i64 (qq3)),(.int .i64 (gz88)),(.int .i64 (qq3)),undef,(.int .i64 (qq3)),(.int .i64 (nz88)),undef,undef,(u87 12),(u87 13),(u87 14),(.bool false),(u87 16),(.agg #[(.int .i64 (qq0)),(.int .i64 (qq1)),(.int .i64 (qq2)),(.int .i64 (qq3))]),(.int .i64 4),(.bool false),(u87 20),(u87 21),(u87 22),(u87 23),(u87 24),(u87 25),(.bool false),(u87 27),(u87 28),(.agg #[(.int .i64 (qq0)),(.int .i64 (qq1)),(.int .i64 (qq2)),(.int .i64 (qq3))]),(.int .i64 3),(.bool true),(u87 32),(u87 33),(.bool ((qq2==(0:Int)))),(u87 35),(u87 36),(u87 37),(u87 38),(u87 39),(u87 40),(u87 41),(u87 42),(u87 43),(u87 44),(u87 45),(u87 46),undef,undef,undef,undef,undef,undef,undef,undef,undef,undef,undef,undef,undef].toArray,[]⟩∧Int.gcd gz88 nz88=Int.gcd (gz72:Int) (if (-qq3)>qq3 then (-qq3) else qq3)∧0≤gz88∧0≤nz88∧Lc w' b2 #[(.int .i64 (qq0)),(.int .i64 (qq1)),(.int .i64 (qq2)),(.int .i64 (qq3)),(.string ⟨(ratL (sa1):List UInt8).toArray⟩),(.string ⟨(ratL (sa2):List UInt8).toArray⟩),(.string ⟨(ratL (sa3):List UInt8).toArray⟩)] 27∧Gr w w') (Int.toNat (if (-qq3)>qq3 then (-qq3) else qq3)) ?_ ?_
       ·exact ⟨_,_,(fun i=>List.getD ?l87 i undef),rfl,rfl,rfl,(by omega),(by split<;>omega),L2,hB⟩
       rintro n87 a87 w87 ⟨gz88,nz88,u87,rfl,rfl,hz88,ha88,hc88,L2,hB⟩ K87 k87
       refine wp_seq_k (fun K89 k89=>?_)
       refine wp_seq_k (fun K90 k90=>?_)
       refine rg [0,1] ?_
       refine sv 40 (.int .i64 (nz88)) ?_
       refine sv 41 (.bool ((nz88 !=(0:Int)))) ?_
       refine sq_nil ?_
       refine k90 _ _ ?_
       try clear k90 K90
       refine wp_cond_split (t:=(nz88 !=(0:Int))) rfl (fun hb91=>?_) (fun hb91=>?_)
       ·have hp88:0<nz88:=by have h0:¬ nz88=0:=(by simpa using hb91);omega
        refine wp_skip ?_
        refine k89 _ _ ?_
        try clear k89 K89
        refine wp_block ?_
        have gd93:=Gr.drew w87
        replace hB:=hB.trans gd93
        refine wp_region_ord (fun _=>True) [(true,0),(true,1),(true,2),(true,3),(true,4),(true,5)] (by kernel_rfl) (by kernel_rfl) (by kernel_rfl) (by decide) (fun _ _ _ _ _ h=>h) trivial ?_
        refine ov 42 (.int .i64 (nz88)) ?_
        refine ov 43 (.int .i64 (gz88)) ?_
        refine ov 44 (.int .i64 (nz88)) ?_
        refine ow 45 (.int .i64 ((gz88 % nz88))) rfl (fun w' hS=>(rv_rem 3 3 _ _ gz88 nz88 rfl rfl rfl ha88 hp88)) ?_
        refine ov 5 (.int .i64 (nz88)) ?_
        refine ov 9 (.int .i64 ((gz88 % nz88))) ?_
        refine ord_nil ?_
        replace L2:=L2.gr gd93
        refine k87 ((gz88 % nz88).toNat) ⟨List.toArray ?l94,[]⟩ _ (by have:=Int.emod_lt_of_pos gz88 hp88;omega) ?_
        exact ⟨_,_,(fun i=>List.getD ?l94 i undef),rfl,rfl,(by rw [gcd_stepZ ha88 hp88];exact hz88),(by omega),(Int.emod_nonneg _ (by omega)),L2,hB⟩
       ·have hg88:=gcd_endZ (m:=qq3) hz88 hb91 ha88 (by split;exact .inr rfl;exact .inl rfl)
        refine wp_exit ?_
        simp only [Exit.then,Exit.inBlock,↓reduceIte]
        refine k81 _ _ ?_
        try clear k81 K81
        refine rg [0,1] ?_
        refine sv 46 (.int .i64 4) ?_
        refine sv 30 (.int .i64 4) ?_
        refine sq_nil ?_
        show Code.rounds _ _ _ _ _ _
        show Code.wp _ _ _ _ _
        refine wp_seq_k (fun K95 k95=>?_)
        refine rg [0] ?_
        refine sv 31 (.bool false) ?_
        refine sq_nil ?_
        refine k95 _ _ ?_
        try clear k95 K95
        refine wp_seq_k (fun K96 k96=>?_)
        refine wp_cond_false rfl ?_
        refine wp_exit ?_
        simp only [Exit.then,Exit.inBlock,↓reduceIte]
        refine k30 _ _ ?_
        try clear k30 K30
        refine wp_seq_k (fun K97 k97=>?_)
        refine wp_seq_k (fun K98 k98=>?_)
        refine rg [0,1,2,3,4,5] ?_
        refine sv 47 (.int .i64 (gz88)) ?_
        refine sv 48 (.bool ((gz88 !=(1:Int)))) ?_
        rcases Bool.eq_false_or_eq_true ((gz88 !=(1:Int))) with hb99 | hb99
        ·refine sw 49 (.bool true) rfl (RunV.bool (x:=(gz88 !=(1:Int))) (rvk (by kernel_rfl)) hb99) ?_
         refine ss 50 ?_
         refine ss 51 ?_
         refine sv 52 (.bool true) ?_
         refine sq_nil ?_
         refine k98 _ _ ?_
         try clear k98 K98
         refine wp_cond_true rfl ?_
         refine wp_seq_k (fun K100 k100=>?_)
         refine rg [0] ?_
         refine sv 2 (.int .i64 3) ?_
         refine sq_nil ?_
         refine k100 _ _ ?_
         try clear k100 K100
         refine wp_ret ?_
         simp only [Exit.then]
         refine bodyPost_ret (v:=(.int .i64 3)) (ret_tmp rfl rfl) rfl ⟨?_,hB⟩
         exact (congrArg (fun z=>Ending.returned (.int .i64 z)) (chk_g (g:=gz88) (by rw [hg88,hg72,hg56,hg40];rfl) hb99))
        ·refine sw 49 (.bool false) rfl (RunV.bool (x:=(gz88 !=(1:Int))) (rvk (by kernel_rfl)) hb99) ?_
         refine sv 50 (.int .i64 (qq3)) ?_
         refine sv 51 (.bool (decide (qq3<(0:Int)))) ?_
         refine sv 52 (.bool (decide (qq3<(0:Int)))) ?_
         refine sq_nil ?_
         refine k98 _ _ ?_
         try clear k98 K98
         refine wp_cond_split (t:=decide (qq3<(0:Int))) rfl (fun hb101=>?_) (fun hb101=>?_)
         ·refine wp_seq_k (fun K102 k102=>?_)
          refine rg [0] ?_
          refine sv 2 (.int .i64 3) ?_
          refine sq_nil ?_
          refine k102 _ _ ?_
          try clear k102 K102
          refine wp_ret ?_
          simp only [Exit.then]
          refine bodyPost_ret (v:=(.int .i64 3)) (ret_tmp rfl rfl) rfl ⟨?_,hB⟩
          exact (congrArg (fun z=>Ending.returned (.int .i64 z)) (chk_s (qsgn3 hb53 hb69 hb85 hnz) hb101))
         ·refine wp_skip ?_
          refine k97 _ _ ?_
          try clear k97 K97
          refine wp_seq_k (fun K103 k103=>?_)
          refine rg [0,1,2,3,4,5,6,7,8] ?_
          refine sv 54 (.pointer (some ⟨b2,4,none⟩)) ?_
          refine sw 55 (.agg #[(.string ⟨(ratL (sa1):List UInt8).toArray⟩),(.string ⟨(ratL (sa2):List UInt8).toArray⟩),(.string ⟨(ratL (sa3):List UInt8).toArray⟩)]) rfl (rl 25 4 [(.string ⟨(ratL (sa1):List UInt8).toArray⟩),(.string ⟨(ratL (sa2):List UInt8).toArray⟩),(.string ⟨(ratL (sa3):List UInt8).toArray⟩)] L2) ?_
          refine se ?_
          refine ec 56 (vparse_v sa1 sa2 sa3 hsa1 hsa2 hsa3 (by omega) (by omega) lsa1 lsa2 lsa3 _ (hm.gr hB)) ?_
          rintro e104 w104 ⟨⟨t104_0,t104_1,t104_2,t104_3,t104_4,t104_5,t104_6,t104_7,t104_8,t104_9,t104_10,t104_11,rfl,h104a,h104b,h104c⟩,g104⟩
          refine ⟨_,rfl,?_⟩
          replace hB:=hB.trans g104
          simp only [p3,p4]
          refine sv 53 (.tuple #[(.agg #[t104_0,t104_1,t104_2,t104_3,t104_4,t104_5,t104_6,t104_7,t104_8,t104_9,t104_10,t104_11]),(.int .i64 0)]) ?_
          refine sv 57 (.agg #[t104_0,t104_1,t104_2,t104_3,t104_4,t104_5,t104_6,t104_7,t104_8,t104_9,t104_10,t104_11]) ?_
          refine sv 58 (.int .i64 0) ?_
          refine se ?_
          refine ea 38 #[(.bool false),(.slice none 0 0),(.bool false),(.slice none 0 0),(.bool false),(.slice none 0 0),(.bool false),(.slice none 0 0),(.bool false),(.slice none 0 0),(.bool false),(.slice none 0 0)] 10 hB fun b105 w105 g105 L105 o105 q105 hB=>?_
          replace L2:=L2.gr g104
          simp only [p3,p4]
          refine se ?_
          refine es 38 0 (.agg #[t104_0,t104_1,t104_2,t104_3,t104_4,t104_5,t104_6,t104_7,t104_8,t104_9,t104_10,t104_11]) [t104_0,t104_1,t104_2,t104_3,t104_4,t104_5,t104_6,t104_7,t104_8,t104_9,t104_10,t104_11] #[t104_0,t104_1,t104_2,t104_3,t104_4,t104_5,t104_6,t104_7,t104_8,t104_9,t104_10,t104_11] L105 hB q105 ⟨h104a.one0,h104a.one1,h104a.one2,h104a.one3,h104b.one0,h104b.one1,h104b.one2,h104b.one3,h104c.one0,h104c.one1,h104c.one2,h104c.one3,trivial⟩ fun w106 st106 kp106 L105 hB=>?_
          refine sv 11 (.int .i64 0) ?_
          refine sq_nil ?_
          refine k103 _ _ ?_
          try clear k103 K103
          refine wp_seq_k (fun K107 k107=>?_)
          refine rg [0,1] ?_
          refine sv 59 (.int .i64 0) ?_
          refine sv 2 (.int .i64 0) ?_
          refine sq_nil ?_
          refine k107 _ _ ?_
          try clear k107 K107
          refine wp_ret ?_
          refine bodyPost_ret (v:=(.int .i64 0)) (ret_tmp rfl rfl) rfl ⟨?_,hB⟩
          exact (congrArg (fun z=>Ending.returned (.int .i64 z)) (chk_e (g:=gz88) (by rw [hg88,hg72,hg56,hg40];rfl) hb99 (qsgn3 hb53 hb69 hb85 hnz) hb101))
      ·refine wp_skip ?_
       refine k83 _ _ ?_
       try clear k83 K83
       refine wp_seq_k (fun K108 k108=>?_)
       refine rg [0,1,2,3,4] ?_
       refine sv 36 (.int .i64 (qq3)) ?_
       refine sv 37 (.int .i64 (qq3)) ?_
       refine sw 38 (.int .i64 ((-qq3))) rfl (RunV.int (x:=IntKind.i64.wrap (0 - qq3)) (y:=(-qq3)) (rvk (by kernel_rfl)) (by first | rfl | (rw [IntKind.wrap_i64];omega))) ?_
       refine sv 39 (.int .i64 ((if (-qq3)>qq3 then (-qq3) else qq3))) ?_
       refine sv 9 (.int .i64 ((if (-qq3)>qq3 then (-qq3) else qq3))) ?_
       refine sq_nil ?_
       refine k108 _ _ ?_
       try clear k108 K108
       refine wp_block ?_
       refine wp_loop_inv (a:=⟨List.toArray ?l109,[]⟩) (fun n a w'=>∃ (gz110:Int) (nz110:Int) (u109:Nat→Value),nz110.toNat=n∧a=⟨[(u109 0),(.pointer (some ⟨b2,0,none⟩)),(.int .i64 0),undef,(.int .i64 (qq3)),(.int .i64 (gz110)),(.int .i64 (qq2)),undef,(.int .i64 (qq3)),(.int .i64 (nz110)),undef,undef,(u109 12),(u109 13),(u109 14),(.bool false),(u109 16),(.agg #[(.int .i64 (qq0)),(.int .i64 (qq1)),(.int .i64 (qq2)),(.int .i64 (qq3))]),(.int .i64 4),(.bool false),(u109 20),(u109 21),(u109 22),(u109 23),(u109 24),(u109 25),(.bool false),(u109 27),(u109 28),(.agg #[(.int .i64 (qq0)),(.int .i64 (qq1)),(.int .i64 (qq2)),(.int .i64 (qq3))]),(.int .i64 3),(.bool true),(u109 32),(u109 33),(.bool ((qq2==(0:Int)))),(u109 35),(u109 36),(u109 37),(u109 38),(u109 39),(u109 40),(u109 41),(u109 42),(u109 43),(u109 44),(u109 45),(u109 46),undef,undef,undef,undef,undef,undef,undef,undef,undef,undef,undef,undef,undef].toArray,[]⟩∧Int.gcd gz110 nz110=Int.gcd (gz72:Int) (if (-qq3)>qq3 then (-qq3) else qq3)∧0≤gz110∧0≤nz110∧Lc w' b2 #[(.int .i64 (qq0)),(.int .i64 (qq1)),(.int .i64 (qq2)),(.int .i64 (qq3)),(.string ⟨(ratL (sa1):List UInt8).toArray⟩),(.string ⟨(ratL (sa2):List UInt8).toArray⟩),(.string ⟨(ratL (sa3):List UInt8).toArray⟩)] 27∧Gr w w') (Int.toNat (if (-qq3)>qq3 then (-qq3) else qq3)) ?_ ?_
       ·exact ⟨_,_,(fun i=>List.getD ?l109 i undef),rfl,rfl,rfl,(by omega),(by split<;>omega),L2,hB⟩
       rintro n109 a109 w109 ⟨gz110,nz110,u109,rfl,rfl,hz110,ha110,hc110,L2,hB⟩ K109 k109
       refine wp_seq_k (fun K111 k111=>?_)
       refine wp_seq_k (fun K112 k112=>?_)
       refine rg [0,1] ?_
       refine sv 40 (.int .i64 (nz110)) ?_
       refine sv 41 (.bool ((nz110 !=(0:Int)))) ?_
       refine sq_nil ?_
       refine k112 _ _ ?_
       try clear k112 K112
       refine wp_cond_split (t:=(nz110 !=(0:Int))) rfl (fun hb113=>?_) (fun hb113=>?_)
       ·have hp110:0<nz110:=by have h0:¬ nz110=0:=(by simpa using hb113);omega
        refine wp_skip ?_
        refine k111 _ _ ?_
        try clear k111 K111
        refine wp_block ?_
        have gd115:=Gr.drew w109
        replace hB:=hB.trans gd115
        refine wp_region_ord (fun _=>True) [(true,0),(true,1),(true,2),(true,3),(true,4),(true,5)] (by kernel_rfl) (by kernel_rfl) (by kernel_rfl) (by decide) (fun _ _ _ _ _ h=>h) trivial ?_
        refine ov 42 (.int .i64 (nz110)) ?_
        refine ov 43 (.int .i64 (gz110)) ?_
        refine ov 44 (.int .i64 (nz110)) ?_
        refine ow 45 (.int .i64 ((gz110 % nz110))) rfl (fun w' hS=>(rv_rem 3 3 _ _ gz110 nz110 rfl rfl rfl ha110 hp110)) ?_
        refine ov 5 (.int .i64 (nz110)) ?_
        refine ov 9 (.int .i64 ((gz110 % nz110))) ?_
        refine ord_nil ?_
        replace L2:=L2.gr gd115
        refine k109 ((gz110 % nz110).toNat) ⟨List.toArray ?l116,[]⟩ _ (by have:=Int.emod_lt_of_pos gz110 hp110;omega) ?_
        exact ⟨_,_,(fun i=>List.getD ?l116 i undef),rfl,rfl,(by rw [gcd_stepZ ha110 hp110];exact hz110),(by omega),(Int.emod_nonneg _ (by omega)),L2,hB⟩
       ·have hg110:=gcd_endZ (m:=qq3) hz110 hb113 ha110 (by split;exact .inr rfl;exact .inl rfl)
        refine wp_exit ?_
        simp only [Exit.then,Exit.inBlock,↓reduceIte]
        refine k81 _ _ ?_
        try clear k81 K81
        refine rg [0,1] ?_
        refine sv 46 (.int .i64 4) ?_
        refine sv 30 (.int .i64 4) ?_
        refine sq_nil ?_
        show Code.rounds _ _ _ _ _ _
        show Code.wp _ _ _ _ _
        refine wp_seq_k (fun K117 k117=>?_)
        refine rg [0] ?_
        refine sv 31 (.bool false) ?_
        refine sq_nil ?_
        refine k117 _ _ ?_
        try clear k117 K117
        refine wp_seq_k (fun K118 k118=>?_)
        refine wp_cond_false rfl ?_
        refine wp_exit ?_
        simp only [Exit.then,Exit.inBlock,↓reduceIte]
        refine k30 _ _ ?_
        try clear k30 K30
        refine wp_seq_k (fun K119 k119=>?_)
        refine wp_seq_k (fun K120 k120=>?_)
        refine rg [0,1,2,3,4,5] ?_
        refine sv 47 (.int .i64 (gz110)) ?_
        refine sv 48 (.bool ((gz110 !=(1:Int)))) ?_
        rcases Bool.eq_false_or_eq_true ((gz110 !=(1:Int))) with hb121 | hb121
        ·refine sw 49 (.bool true) rfl (RunV.bool (x:=(gz110 !=(1:Int))) (rvk (by kernel_rfl)) hb121) ?_
         refine ss 50 ?_
         refine ss 51 ?_
         refine sv 52 (.bool true) ?_
         refine sq_nil ?_
         refine k120 _ _ ?_
         try clear k120 K120
         refine wp_cond_true rfl ?_
         refine wp_seq_k (fun K122 k122=>?_)
         refine rg [0] ?_
         refine sv 2 (.int .i64 3) ?_
         refine sq_nil ?_
         refine k122 _ _ ?_
         try clear k122 K122
         refine wp_ret ?_
         simp only [Exit.then]
         refine bodyPost_ret (v:=(.int .i64 3)) (ret_tmp rfl rfl) rfl ⟨?_,hB⟩
         exact (congrArg (fun z=>Ending.returned (.int .i64 z)) (chk_g (g:=gz110) (by rw [hg110,hg72,hg56,hg40];rfl) hb121))
        ·refine sw 49 (.bool false) rfl (RunV.bool (x:=(gz110 !=(1:Int))) (rvk (by kernel_rfl)) hb121) ?_
         refine sv 50 (.int .i64 (qq2)) ?_
         refine sv 51 (.bool (decide (qq2<(0:Int)))) ?_
         refine sv 52 (.bool (decide (qq2<(0:Int)))) ?_
         refine sq_nil ?_
         refine k120 _ _ ?_
         try clear k120 K120
         refine wp_cond_split (t:=decide (qq2<(0:Int))) rfl (fun hb123=>?_) (fun hb123=>?_)
         ·refine wp_seq_k (fun K124 k124=>?_)
          refine rg [0] ?_
          refine sv 2 (.int .i64 3) ?_
          refine sq_nil ?_
          refine k124 _ _ ?_
          try clear k124 K124
          refine wp_ret ?_
          simp only [Exit.then]
          refine bodyPost_ret (v:=(.int .i64 3)) (ret_tmp rfl rfl) rfl ⟨?_,hB⟩
          exact (congrArg (fun z=>Ending.returned (.int .i64 z)) (chk_s (qsgn2 hb53 hb69 hb85) hb123))
         ·refine wp_skip ?_
          refine k119 _ _ ?_
          try clear k119 K119
          refine wp_seq_k (fun K125 k125=>?_)
          refine rg [0,1,2,3,4,5,6,7,8] ?_
          refine sv 54 (.pointer (some ⟨b2,4,none⟩)) ?_
          refine sw 55 (.agg #[(.string ⟨(ratL (sa1):List UInt8).toArray⟩),(.string ⟨(ratL (sa2):List UInt8).toArray⟩),(.string ⟨(ratL (sa3):List UInt8).toArray⟩)]) rfl (rl 25 4 [(.string ⟨(ratL (sa1):List UInt8).toArray⟩),(.string ⟨(ratL (sa2):List UInt8).toArray⟩),(.string ⟨(ratL (sa3):List UInt8).toArray⟩)] L2) ?_
          refine se ?_
          refine ec 56 (vparse_v sa1 sa2 sa3 hsa1 hsa2 hsa3 (by omega) (by omega) lsa1 lsa2 lsa3 _ (hm.gr hB)) ?_
          rintro e126 w126 ⟨⟨t126_0,t126_1,t126_2,t126_3,t126_4,t126_5,t126_6,t126_7,t126_8,t126_9,t126_10,t126_11,rfl,h126a,h126b,h126c⟩,g126⟩
          refine ⟨_,rfl,?_⟩
          replace hB:=hB.trans g126
          simp only [p3,p4]
          refine sv 53 (.tuple #[(.agg #[t126_0,t126_1,t126_2,t126_3,t126_4,t126_5,t126_6,t126_7,t126_8,t126_9,t126_10,t126_11]),(.int .i64 0)]) ?_
          refine sv 57 (.agg #[t126_0,t126_1,t126_2,t126_3,t126_4,t126_5,t126_6,t126_7,t126_8,t126_9,t126_10,t126_11]) ?_
          refine sv 58 (.int .i64 0) ?_
          refine se ?_
          refine ea 38 #[(.bool false),(.slice none 0 0),(.bool false),(.slice none 0 0),(.bool false),(.slice none 0 0),(.bool false),(.slice none 0 0),(.bool false),(.slice none 0 0),(.bool false),(.slice none 0 0)] 10 hB fun b127 w127 g127 L127 o127 q127 hB=>?_
          replace L2:=L2.gr g126
          simp only [p3,p4]
          refine se ?_
          refine es 38 0 (.agg #[t126_0,t126_1,t126_2,t126_3,t126_4,t126_5,t126_6,t126_7,t126_8,t126_9,t126_10,t126_11]) [t126_0,t126_1,t126_2,t126_3,t126_4,t126_5,t126_6,t126_7,t126_8,t126_9,t126_10,t126_11] #[t126_0,t126_1,t126_2,t126_3,t126_4,t126_5,t126_6,t126_7,t126_8,t126_9,t126_10,t126_11] L127 hB q127 ⟨h126a.one0,h126a.one1,h126a.one2,h126a.one3,h126b.one0,h126b.one1,h126b.one2,h126b.one3,h126c.one0,h126c.one1,h126c.one2,h126c.one3,trivial⟩ fun w128 st128 kp128 L127 hB=>?_
          refine sv 11 (.int .i64 0) ?_
          refine sq_nil ?_
          refine k125 _ _ ?_
          try clear k125 K125
          refine wp_seq_k (fun K129 k129=>?_)
          refine rg [0,1] ?_
          refine sv 59 (.int .i64 0) ?_
          refine sv 2 (.int .i64 0) ?_
          refine sq_nil ?_
          refine k129 _ _ ?_
          try clear k129 K129
          refine wp_ret ?_
          refine bodyPost_ret (v:=(.int .i64 0)) (ret_tmp rfl rfl) rfl ⟨?_,hB⟩
          exact (congrArg (fun z=>Ending.returned (.int .i64 z)) (chk_e (g:=gz110) (by rw [hg110,hg72,hg56,hg40];rfl) hb121 (qsgn2 hb53 hb69 hb85) hb123))
    ·refine wp_skip ?_
     refine k67 _ _ ?_
     try clear k67 K67
     refine wp_seq_k (fun K130 k130=>?_)
     refine rg [0,1,2,3,4] ?_
     refine sv 36 (.int .i64 (qq2)) ?_
     refine sv 37 (.int .i64 (qq2)) ?_
     refine sw 38 (.int .i64 ((-qq2))) rfl (RunV.int (x:=IntKind.i64.wrap (0 - qq2)) (y:=(-qq2)) (rvk (by kernel_rfl)) (by first | rfl | (rw [IntKind.wrap_i64];omega))) ?_
     refine sv 39 (.int .i64 ((if (-qq2)>qq2 then (-qq2) else qq2))) ?_
     refine sv 9 (.int .i64 ((if (-qq2)>qq2 then (-qq2) else qq2))) ?_
     refine sq_nil ?_
     refine k130 _ _ ?_
     try clear k130 K130
     refine wp_block ?_
     refine wp_loop_inv (a:=⟨List.toArray ?l131,[]⟩) (fun n a w'=>∃ (gz132:Int) (nz132:Int) (u131:Nat→Value),nz132.toNat=n∧a=⟨[(u131 0),(.pointer (some ⟨b2,0,none⟩)),(.int .i64 0),undef,(.int .i64 (qq3)),(.int .i64 (gz132)),(.int .i64 (qq1)),undef,(.int .i64 (qq2)),(.int .i64 (nz132)),undef,undef,(u131 12),(u131 13),(u131 14),(.bool false),(u131 16),(.agg #[(.int .i64 (qq0)),(.int .i64 (qq1)),(.int .i64 (qq2)),(.int .i64 (qq3))]),(.int .i64 4),(.bool false),(u131 20),(u131 21),(u131 22),(u131 23),(u131 24),(u131 25),(.bool false),(u131 27),(u131 28),(.agg #[(.int .i64 (qq0)),(.int .i64 (qq1)),(.int .i64 (qq2)),(.int .i64 (qq3))]),(.int .i64 2),(.bool true),(u131 32),(u131 33),(.bool ((qq1==(0:Int)))),(u131 35),(u131 36),(u131 37),(u131 38),(u131 39),(u131 40),(u131 41),(u131 42),(u131 43),(u131 44),(u131 45),(u131 46),undef,undef,undef,undef,undef,undef,undef,undef,undef,undef,undef,undef,undef].toArray,[]⟩∧Int.gcd gz132 nz132=Int.gcd (gz56:Int) (if (-qq2)>qq2 then (-qq2) else qq2)∧0≤gz132∧0≤nz132∧Lc w' b2 #[(.int .i64 (qq0)),(.int .i64 (qq1)),(.int .i64 (qq2)),(.int .i64 (qq3)),(.string ⟨(ratL (sa1):List UInt8).toArray⟩),(.string ⟨(ratL (sa2):List UInt8).toArray⟩),(.string ⟨(ratL (sa3):List UInt8).toArray⟩)] 27∧Gr w w') (Int.toNat (if (-qq2)>qq2 then (-qq2) else qq2)) ?_ ?_
     ·exact ⟨_,_,(fun i=>List.getD ?l131 i undef),rfl,rfl,rfl,(by omega),(by split<;>omega),L2,hB⟩
     rintro n131 a131 w131 ⟨gz132,nz132,u131,rfl,rfl,hz132,ha132,hc132,L2,hB⟩ K131 k131
     refine wp_seq_k (fun K133 k133=>?_)
     refine wp_seq_k (fun K134 k134=>?_)
     refine rg [0,1] ?_
     refine sv 40 (.int .i64 (nz132)) ?_
     refine sv 41 (.bool ((nz132 !=(0:Int)))) ?_
     refine sq_nil ?_
     refine k134 _ _ ?_
     try clear k134 K134
     refine wp_cond_split (t:=(nz132 !=(0:Int))) rfl (fun hb135=>?_) (fun hb135=>?_)
     ·have hp132:0<nz132:=by have h0:¬ nz132=0:=(by simpa using hb135);omega
      refine wp_skip ?_
      refine k133 _ _ ?_
      try clear k133 K133
      refine wp_block ?_
      have gd137:=Gr.drew w131
      replace hB:=hB.trans gd137
      refine wp_region_ord (fun _=>True) [(true,0),(true,1),(true,2),(true,3),(true,4),(true,5)] (by kernel_rfl) (by kernel_rfl) (by kernel_rfl) (by decide) (fun _ _ _ _ _ h=>h) trivial ?_
      refine ov 42 (.int .i64 (nz132)) ?_
      refine ov 43 (.int .i64 (gz132)) ?_
      refine ov 44 (.int .i64 (nz132)) ?_
      refine ow 45 (.int .i64 ((gz132 % nz132))) rfl (fun w' hS=>(rv_rem 3 3 _ _ gz132 nz132 rfl rfl rfl ha132 hp132)) ?_
      refine ov 5 (.int .i64 (nz132)) ?_
      refine ov 9 (.int .i64 ((gz132 % nz132))) ?_
      refine ord_nil ?_
      replace L2:=L2.gr gd137
      refine k131 ((gz132 % nz132).toNat) ⟨List.toArray ?l138,[]⟩ _ (by have:=Int.emod_lt_of_pos gz132 hp132;omega) ?_
      exact ⟨_,_,(fun i=>List.getD ?l138 i undef),rfl,rfl,(by rw [gcd_stepZ ha132 hp132];exact hz132),(by omega),(Int.emod_nonneg _ (by omega)),L2,hB⟩
     ·have hg132:=gcd_endZ (m:=qq2) hz132 hb135 ha132 (by split;exact .inr rfl;exact .inl rfl)
      refine wp_exit ?_
      simp only [Exit.then,Exit.inBlock,↓reduceIte]
      refine k65 _ _ ?_
      try clear k65 K65
      refine rg [0,1] ?_
      refine sv 46 (.int .i64 3) ?_
      refine sv 30 (.int .i64 3) ?_
      refine sq_nil ?_
      show Code.rounds _ _ _ _ _ _
      show Code.wp _ _ _ _ _
      refine wp_seq_k (fun K139 k139=>?_)
      refine rg [0] ?_
      refine sv 31 (.bool true) ?_
      refine sq_nil ?_
      refine k139 _ _ ?_
      try clear k139 K139
      refine wp_seq_k (fun K140 k140=>?_)
      refine wp_cond_true rfl ?_
      refine wp_skip ?_
      refine k140 _ _ ?_
      try clear k140 K140
      refine wp_seq_k (fun K141 k141=>?_)
      refine wp_block ?_
      refine wp_seq_k (fun K142 k142=>?_)
      refine rg [0,1] ?_
      refine sv 32 (.int .i64 (qq3)) ?_
      refine sv 8 (.int .i64 (qq3)) ?_
      refine sq_nil ?_
      refine k142 _ _ ?_
      try clear k142 K142
      refine wp_seq_k (fun K143 k143=>?_)
      refine wp_seq_k (fun K144 k144=>?_)
      refine rg [0,1] ?_
      refine sv 33 (.int .i64 (qq1)) ?_
      refine sw 34 (.bool false) rfl (RunV.bool (x:=(qq1==(0:Int))) (rvk (by kernel_rfl)) hb69) ?_
      refine sq_nil ?_
      refine k144 _ _ ?_
      try clear k144 K144
      refine wp_cond_false rfl ?_
      refine wp_skip ?_
      refine k143 _ _ ?_
      try clear k143 K143
      refine wp_seq_k (fun K145 k145=>?_)
      refine rg [0,1,2,3,4] ?_
      refine sv 36 (.int .i64 (qq3)) ?_
      refine sv 37 (.int .i64 (qq3)) ?_
      refine sw 38 (.int .i64 ((-qq3))) rfl (RunV.int (x:=IntKind.i64.wrap (0 - qq3)) (y:=(-qq3)) (rvk (by kernel_rfl)) (by first | rfl | (rw [IntKind.wrap_i64];omega))) ?_
      refine sv 39 (.int .i64 ((if (-qq3)>qq3 then (-qq3) else qq3))) ?_
      refine sv 9 (.int .i64 ((if (-qq3)>qq3 then (-qq3) else qq3))) ?_
      refine sq_nil ?_
      refine k145 _ _ ?_
      try clear k145 K145
      refine wp_block ?_
      refine wp_loop_inv (a:=⟨List.toArray ?l146,[]⟩) (fun n a w'=>∃ (gz147:Int) (nz147:Int) (u146:Nat→Value),nz147.toNat=n∧a=⟨[(u146 0),(.pointer (some ⟨b2,0,none⟩)),(.int .i64 0),undef,(.int .i64 (qq3)),(.int .i64 (gz147)),(.int .i64 (qq1)),undef,(.int .i64 (qq3)),(.int .i64 (nz147)),undef,undef,(u146 12),(u146 13),(u146 14),(.bool false),(u146 16),(.agg #[(.int .i64 (qq0)),(.int .i64 (qq1)),(.int .i64 (qq2)),(.int .i64 (qq3))]),(.int .i64 4),(.bool false),(u146 20),(u146 21),(u146 22),(u146 23),(u146 24),(u146 25),(.bool false),(u146 27),(u146 28),(.agg #[(.int .i64 (qq0)),(.int .i64 (qq1)),(.int .i64 (qq2)),(.int .i64 (qq3))]),(.int .i64 3),(.bool true),(u146 32),(u146 33),(.bool false),(u146 35),(u146 36),(u146 37),(u146 38),(u146 39),(u146 40),(u146 41),(u146 42),(u146 43),(u146 44),(u146 45),(u146 46),undef,undef,undef,undef,undef,undef,undef,undef,undef,undef,undef,undef,undef].toArray,[]⟩∧Int.gcd gz147 nz147=Int.gcd (gz132:Int) (if (-qq3)>qq3 then (-qq3) else qq3)∧0≤gz147∧0≤nz147∧Lc w' b2 #[(.int .i64 (qq0)),(.int .i64 (qq1)),(.int .i64 (qq2)),(.int .i64 (qq3)),(.string ⟨(ratL (sa1):List UInt8).toArray⟩),(.string ⟨(ratL (sa2):List UInt8).toArray⟩),(.string ⟨(ratL (sa3):List UInt8).toArray⟩)] 27∧Gr w w') (Int.toNat (if (-qq3)>qq3 then (-qq3) else qq3)) ?_ ?_
      ·exact ⟨_,_,(fun i=>List.getD ?l146 i undef),rfl,rfl,rfl,(by omega),(by split<;>omega),L2,hB⟩
      rintro n146 a146 w146 ⟨gz147,nz147,u146,rfl,rfl,hz147,ha147,hc147,L2,hB⟩ K146 k146
      refine wp_seq_k (fun K148 k148=>?_)
      refine wp_seq_k (fun K149 k149=>?_)
      refine rg [0,1] ?_
      refine sv 40 (.int .i64 (nz147)) ?_
      refine sv 41 (.bool ((nz147 !=(0:Int)))) ?_
      refine sq_nil ?_
      refine k149 _ _ ?_
      try clear k149 K149
      refine wp_cond_split (t:=(nz147 !=(0:Int))) rfl (fun hb150=>?_) (fun hb150=>?_)
      ·have hp147:0<nz147:=by have h0:¬ nz147=0:=(by simpa using hb150);omega
       refine wp_skip ?_
       refine k148 _ _ ?_
       try clear k148 K148
       refine wp_block ?_
       have gd152:=Gr.drew w146
       replace hB:=hB.trans gd152
       refine wp_region_ord (fun _=>True) [(true,0),(true,1),(true,2),(true,3),(true,4),(true,5)] (by kernel_rfl) (by kernel_rfl) (by kernel_rfl) (by decide) (fun _ _ _ _ _ h=>h) trivial ?_
       refine ov 42 (.int .i64 (nz147)) ?_
       refine ov 43 (.int .i64 (gz147)) ?_
       refine ov 44 (.int .i64 (nz147)) ?_
       refine ow 45 (.int .i64 ((gz147 % nz147))) rfl (fun w' hS=>(rv_rem 3 3 _ _ gz147 nz147 rfl rfl rfl ha147 hp147)) ?_
       refine ov 5 (.int .i64 (nz147)) ?_
       refine ov 9 (.int .i64 ((gz147 % nz147))) ?_
       refine ord_nil ?_
       replace L2:=L2.gr gd152
       refine k146 ((gz147 % nz147).toNat) ⟨List.toArray ?l153,[]⟩ _ (by have:=Int.emod_lt_of_pos gz147 hp147;omega) ?_
       exact ⟨_,_,(fun i=>List.getD ?l153 i undef),rfl,rfl,(by rw [gcd_stepZ ha147 hp147];exact hz147),(by omega),(Int.emod_nonneg _ (by omega)),L2,hB⟩
      ·have hg147:=gcd_endZ (m:=qq3) hz147 hb150 ha147 (by split;exact .inr rfl;exact .inl rfl)
       refine wp_exit ?_
       simp only [Exit.then,Exit.inBlock,↓reduceIte]
       refine k141 _ _ ?_
       try clear k141 K141
       refine rg [0,1] ?_
       refine sv 46 (.int .i64 4) ?_
       refine sv 30 (.int .i64 4) ?_
       refine sq_nil ?_
       show Code.rounds _ _ _ _ _ _
       show Code.wp _ _ _ _ _
       refine wp_seq_k (fun K154 k154=>?_)
       refine rg [0] ?_
       refine sv 31 (.bool false) ?_
       refine sq_nil ?_
       refine k154 _ _ ?_
       try clear k154 K154
       refine wp_seq_k (fun K155 k155=>?_)
       refine wp_cond_false rfl ?_
       refine wp_exit ?_
       simp only [Exit.then,Exit.inBlock,↓reduceIte]
       refine k30 _ _ ?_
       try clear k30 K30
       refine wp_seq_k (fun K156 k156=>?_)
       refine wp_seq_k (fun K157 k157=>?_)
       refine rg [0,1,2,3,4,5] ?_
       refine sv 47 (.int .i64 (gz147)) ?_
       refine sv 48 (.bool ((gz147 !=(1:Int)))) ?_
       rcases Bool.eq_false_or_eq_true ((gz147 !=(1:Int))) with hb158 | hb158
       ·refine sw 49 (.bool true) rfl (RunV.bool (x:=(gz147 !=(1:Int))) (rvk (by kernel_rfl)) hb158) ?_
        refine ss 50 ?_
        refine ss 51 ?_
        refine sv 52 (.bool true) ?_
        refine sq_nil ?_
        refine k157 _ _ ?_
        try clear k157 K157
        refine wp_cond_true rfl ?_
        refine wp_seq_k (fun K159 k159=>?_)
        refine rg [0] ?_
        refine sv 2 (.int .i64 3) ?_
        refine sq_nil ?_
        refine k159 _ _ ?_
        try clear k159 K159
        refine wp_ret ?_
        simp only [Exit.then]
        refine bodyPost_ret (v:=(.int .i64 3)) (ret_tmp rfl rfl) rfl ⟨?_,hB⟩
        exact (congrArg (fun z=>Ending.returned (.int .i64 z)) (chk_g (g:=gz147) (by rw [hg147,hg132,hg56,hg40];rfl) hb158))
       ·refine sw 49 (.bool false) rfl (RunV.bool (x:=(gz147 !=(1:Int))) (rvk (by kernel_rfl)) hb158) ?_
        refine sv 50 (.int .i64 (qq1)) ?_
        refine sv 51 (.bool (decide (qq1<(0:Int)))) ?_
        refine sv 52 (.bool (decide (qq1<(0:Int)))) ?_
        refine sq_nil ?_
        refine k157 _ _ ?_
        try clear k157 K157
        refine wp_cond_split (t:=decide (qq1<(0:Int))) rfl (fun hb160=>?_) (fun hb160=>?_)
        ·refine wp_seq_k (fun K161 k161=>?_)
         refine rg [0] ?_
         refine sv 2 (.int .i64 3) ?_
         refine sq_nil ?_
         refine k161 _ _ ?_
         try clear k161 K161
         refine wp_ret ?_
         simp only [Exit.then]
         refine bodyPost_ret (v:=(.int .i64 3)) (ret_tmp rfl rfl) rfl ⟨?_,hB⟩
         exact (congrArg (fun z=>Ending.returned (.int .i64 z)) (chk_s (qsgn1 hb53 hb69) hb160))
        ·refine wp_skip ?_
         refine k156 _ _ ?_
         try clear k156 K156
         refine wp_seq_k (fun K162 k162=>?_)
         refine rg [0,1,2,3,4,5,6,7,8] ?_
         refine sv 54 (.pointer (some ⟨b2,4,none⟩)) ?_
         refine sw 55 (.agg #[(.string ⟨(ratL (sa1):List UInt8).toArray⟩),(.string ⟨(ratL (sa2):List UInt8).toArray⟩),(.string ⟨(ratL (sa3):List UInt8).toArray⟩)]) rfl (rl 25 4 [(.string ⟨(ratL (sa1):List UInt8).toArray⟩),(.string ⟨(ratL (sa2):List UInt8).toArray⟩),(.string ⟨(ratL (sa3):List UInt8).toArray⟩)] L2) ?_
         refine se ?_
         refine ec 56 (vparse_v sa1 sa2 sa3 hsa1 hsa2 hsa3 (by omega) (by omega) lsa1 lsa2 lsa3 _ (hm.gr hB)) ?_
         rintro e163 w163 ⟨⟨t163_0,t163_1,t163_2,t163_3,t163_4,t163_5,t163_6,t163_7,t163_8,t163_9,t163_10,t163_11,rfl,h163a,h163b,h163c⟩,g163⟩
         refine ⟨_,rfl,?_⟩
         replace hB:=hB.trans g163
         simp only [p3,p4]
         refine sv 53 (.tuple #[(.agg #[t163_0,t163_1,t163_2,t163_3,t163_4,t163_5,t163_6,t163_7,t163_8,t163_9,t163_10,t163_11]),(.int .i64 0)]) ?_
         refine sv 57 (.agg #[t163_0,t163_1,t163_2,t163_3,t163_4,t163_5,t163_6,t163_7,t163_8,t163_9,t163_10,t163_11]) ?_
         refine sv 58 (.int .i64 0) ?_
         refine se ?_
         refine ea 38 #[(.bool false),(.slice none 0 0),(.bool false),(.slice none 0 0),(.bool false),(.slice none 0 0),(.bool false),(.slice none 0 0),(.bool false),(.slice none 0 0),(.bool false),(.slice none 0 0)] 10 hB fun b164 w164 g164 L164 o164 q164 hB=>?_
         replace L2:=L2.gr g163
         simp only [p3,p4]
         refine se ?_
         refine es 38 0 (.agg #[t163_0,t163_1,t163_2,t163_3,t163_4,t163_5,t163_6,t163_7,t163_8,t163_9,t163_10,t163_11]) [t163_0,t163_1,t163_2,t163_3,t163_4,t163_5,t163_6,t163_7,t163_8,t163_9,t163_10,t163_11] #[t163_0,t163_1,t163_2,t163_3,t163_4,t163_5,t163_6,t163_7,t163_8,t163_9,t163_10,t163_11] L164 hB q164 ⟨h163a.one0,h163a.one1,h163a.one2,h163a.one3,h163b.one0,h163b.one1,h163b.one2,h163b.one3,h163c.one0,h163c.one1,h163c.one2,h163c.one3,trivial⟩ fun w165 st165 kp165 L164 hB=>?_
         refine sv 11 (.int .i64 0) ?_
         refine sq_nil ?_
         refine k162 _ _ ?_
         try clear k162 K162
         refine wp_seq_k (fun K166 k166=>?_)
         refine rg [0,1] ?_
         refine sv 59 (.int .i64 0) ?_
         refine sv 2 (.int .i64 0) ?_
         refine sq_nil ?_
         refine k166 _ _ ?_
         try clear k166 K166
         refine wp_ret ?_
         refine bodyPost_ret (v:=(.int .i64 0)) (ret_tmp rfl rfl) rfl ⟨?_,hB⟩
         exact (congrArg (fun z=>Ending.returned (.int .i64 z)) (chk_e (g:=gz147) (by rw [hg147,hg132,hg56,hg40];rfl) hb158 (qsgn1 hb53 hb69) hb160))
  ·refine wp_skip ?_
   refine k51 _ _ ?_
   try clear k51 K51
   refine wp_seq_k (fun K167 k167=>?_)
   refine rg [0,1,2,3,4] ?_
   refine sv 36 (.int .i64 (qq1)) ?_
   refine sv 37 (.int .i64 (qq1)) ?_
   refine sw 38 (.int .i64 ((-qq1))) rfl (RunV.int (x:=IntKind.i64.wrap (0 - qq1)) (y:=(-qq1)) (rvk (by kernel_rfl)) (by first | rfl | (rw [IntKind.wrap_i64];omega))) ?_
   refine sv 39 (.int .i64 ((if (-qq1)>qq1 then (-qq1) else qq1))) ?_
   refine sv 9 (.int .i64 ((if (-qq1)>qq1 then (-qq1) else qq1))) ?_
   refine sq_nil ?_
   refine k167 _ _ ?_
   try clear k167 K167
   refine wp_block ?_
   refine wp_loop_inv (a:=⟨List.toArray ?l168,[]⟩) (fun n a w'=>∃ (gz169:Int) (nz169:Int) (u168:Nat→Value),nz169.toNat=n∧a=⟨[(u168 0),(.pointer (some ⟨b2,0,none⟩)),(.int .i64 0),undef,(.int .i64 (qq3)),(.int .i64 (gz169)),(.int .i64 (qq0)),undef,(.int .i64 (qq1)),(.int .i64 (nz169)),undef,undef,(u168 12),(u168 13),(u168 14),(.bool false),(u168 16),(.agg #[(.int .i64 (qq0)),(.int .i64 (qq1)),(.int .i64 (qq2)),(.int .i64 (qq3))]),(.int .i64 4),(.bool false),(u168 20),(u168 21),(u168 22),(u168 23),(u168 24),(u168 25),(.bool false),(u168 27),(u168 28),(.agg #[(.int .i64 (qq0)),(.int .i64 (qq1)),(.int .i64 (qq2)),(.int .i64 (qq3))]),(.int .i64 1),(.bool true),(u168 32),(u168 33),(.bool ((qq0==(0:Int)))),(u168 35),(u168 36),(u168 37),(u168 38),(u168 39),(u168 40),(u168 41),(u168 42),(u168 43),(u168 44),(u168 45),(u168 46),undef,undef,undef,undef,undef,undef,undef,undef,undef,undef,undef,undef,undef].toArray,[]⟩∧Int.gcd gz169 nz169=Int.gcd (gz40:Int) (if (-qq1)>qq1 then (-qq1) else qq1)∧0≤gz169∧0≤nz169∧Lc w' b2 #[(.int .i64 (qq0)),(.int .i64 (qq1)),(.int .i64 (qq2)),(.int .i64 (qq3)),(.string ⟨(ratL (sa1):List UInt8).toArray⟩),(.string ⟨(ratL (sa2):List UInt8).toArray⟩),(.string ⟨(ratL (sa3):List UInt8).toArray⟩)] 27∧Gr w w') (Int.toNat (if (-qq1)>qq1 then (-qq1) else qq1)) ?_ ?_
   ·exact ⟨_,_,(fun i=>List.getD ?l168 i undef),rfl,rfl,rfl,(by omega),(by split<;>omega),L2,hB⟩
   rintro n168 a168 w168 ⟨gz169,nz169,u168,rfl,rfl,hz169,ha169,hc169,L2,hB⟩ K168 k168
   refine wp_seq_k (fun K170 k170=>?_)
   refine wp_seq_k (fun K171 k171=>?_)
   refine rg [0,1] ?_
   refine sv 40 (.int .i64 (nz169)) ?_
   refine sv 41 (.bool ((nz169 !=(0:Int)))) ?_
   refine sq_nil ?_
   refine k171 _ _ ?_
   try clear k171 K171
   refine wp_cond_split (t:=(nz169 !=(0:Int))) rfl (fun hb172=>?_) (fun hb172=>?_)
   ·have hp169:0<nz169:=by have h0:¬ nz169=0:=(by simpa using hb172);omega
    refine wp_skip ?_
    refine k170 _ _ ?_
    try clear k170 K170
    refine wp_block ?_
    have gd174:=Gr.drew w168
    replace hB:=hB.trans gd174
    refine wp_region_ord (fun _=>True) [(true,0),(true,1),(true,2),(true,3),(true,4),(true,5)] (by kernel_rfl) (by kernel_rfl) (by kernel_rfl) (by decide) (fun _ _ _ _ _ h=>h) trivial ?_
    refine ov 42 (.int .i64 (nz169)) ?_
    refine ov 43 (.int .i64 (gz169)) ?_
    refine ov 44 (.int .i64 (nz169)) ?_
    refine ow 45 (.int .i64 ((gz169 % nz169))) rfl (fun w' hS=>(rv_rem 3 3 _ _ gz169 nz169 rfl rfl rfl ha169 hp169)) ?_
    refine ov 5 (.int .i64 (nz169)) ?_
    refine ov 9 (.int .i64 ((gz169 % nz169))) ?_
    refine ord_nil ?_
    replace L2:=L2.gr gd174
    refine k168 ((gz169 % nz169).toNat) ⟨List.toArray ?l175,[]⟩ _ (by have:=Int.emod_lt_of_pos gz169 hp169;omega) ?_
    exact ⟨_,_,(fun i=>List.getD ?l175 i undef),rfl,rfl,(by rw [gcd_stepZ ha169 hp169];exact hz169),(by omega),(Int.emod_nonneg _ (by omega)),L2,hB⟩
   ·have hg169:=gcd_endZ (m:=qq1) hz169 hb172 ha169 (by split;exact .inr rfl;exact .inl rfl)
    refine wp_exit ?_
    simp only [Exit.then,Exit.inBlock,↓reduceIte]
    refine k49 _ _ ?_
    try clear k49 K49
    refine rg [0,1] ?_
    refine sv 46 (.int .i64 2) ?_
    refine sv 30 (.int .i64 2) ?_
    refine sq_nil ?_
    show Code.rounds _ _ _ _ _ _
    show Code.wp _ _ _ _ _
    refine wp_seq_k (fun K176 k176=>?_)
    refine rg [0] ?_
    refine sv 31 (.bool true) ?_
    refine sq_nil ?_
    refine k176 _ _ ?_
    try clear k176 K176
    refine wp_seq_k (fun K177 k177=>?_)
    refine wp_cond_true rfl ?_
    refine wp_skip ?_
    refine k177 _ _ ?_
    try clear k177 K177
    refine wp_seq_k (fun K178 k178=>?_)
    refine wp_block ?_
    refine wp_seq_k (fun K179 k179=>?_)
    refine rg [0,1] ?_
    refine sv 32 (.int .i64 (qq2)) ?_
    refine sv 8 (.int .i64 (qq2)) ?_
    refine sq_nil ?_
    refine k179 _ _ ?_
    try clear k179 K179
    refine wp_seq_k (fun K180 k180=>?_)
    refine wp_seq_k (fun K181 k181=>?_)
    refine rg [0,1] ?_
    refine sv 33 (.int .i64 (qq0)) ?_
    refine sw 34 (.bool false) rfl (RunV.bool (x:=(qq0==(0:Int))) (rvk (by kernel_rfl)) hb53) ?_
    refine sq_nil ?_
    refine k181 _ _ ?_
    try clear k181 K181
    refine wp_cond_false rfl ?_
    refine wp_skip ?_
    refine k180 _ _ ?_
    try clear k180 K180
    refine wp_seq_k (fun K182 k182=>?_)
    refine rg [0,1,2,3,4] ?_
    refine sv 36 (.int .i64 (qq2)) ?_
    refine sv 37 (.int .i64 (qq2)) ?_
    refine sw 38 (.int .i64 ((-qq2))) rfl (RunV.int (x:=IntKind.i64.wrap (0 - qq2)) (y:=(-qq2)) (rvk (by kernel_rfl)) (by first | rfl | (rw [IntKind.wrap_i64];omega))) ?_
    refine sv 39 (.int .i64 ((if (-qq2)>qq2 then (-qq2) else qq2))) ?_
    refine sv 9 (.int .i64 ((if (-qq2)>qq2 then (-qq2) else qq2))) ?_
    refine sq_nil ?_
    refine k182 _ _ ?_
    try clear k182 K182
    refine wp_block ?_
    refine wp_loop_inv (a:=⟨List.toArray ?l183,[]⟩) (fun n a w'=>∃ (gz184:Int) (nz184:Int) (u183:Nat→Value),nz184.toNat=n∧a=⟨[(u183 0),(.pointer (some ⟨b2,0,none⟩)),(.int .i64 0),undef,(.int .i64 (qq3)),(.int .i64 (gz184)),(.int .i64 (qq0)),undef,(.int .i64 (qq2)),(.int .i64 (nz184)),undef,undef,(u183 12),(u183 13),(u183 14),(.bool false),(u183 16),(.agg #[(.int .i64 (qq0)),(.int .i64 (qq1)),(.int .i64 (qq2)),(.int .i64 (qq3))]),(.int .i64 4),(.bool false),(u183 20),(u183 21),(u183 22),(u183 23),(u183 24),(u183 25),(.bool false),(u183 27),(u183 28),(.agg #[(.int .i64 (qq0)),(.int .i64 (qq1)),(.int .i64 (qq2)),(.int .i64 (qq3))]),(.int .i64 2),(.bool true),(u183 32),(u183 33),(.bool false),(u183 35),(u183 36),(u183 37),(u183 38),(u183 39),(u183 40),(u183 41),(u183 42),(u183 43),(u183 44),(u183 45),(u183 46),undef,undef,undef,undef,undef,undef,undef,undef,undef,undef,undef,undef,undef].toArray,[]⟩∧Int.gcd gz184 nz184=Int.gcd (gz169:Int) (if (-qq2)>qq2 then (-qq2) else qq2)∧0≤gz184∧0≤nz184∧Lc w' b2 #[(.int .i64 (qq0)),(.int .i64 (qq1)),(.int .i64 (qq2)),(.int .i64 (qq3)),(.string ⟨(ratL (sa1):List UInt8).toArray⟩),(.string ⟨(ratL (sa2):List UInt8).toArray⟩),(.string ⟨(ratL (sa3):List UInt8).toArray⟩)] 27∧Gr w w') (Int.toNat (if (-qq2)>qq2 then (-qq2) else qq2)) ?_ ?_
    ·exact ⟨_,_,(fun i=>List.getD ?l183 i undef),rfl,rfl,rfl,(by omega),(by split<;>omega),L2,hB⟩
    rintro n183 a183 w183 ⟨gz184,nz184,u183,rfl,rfl,hz184,ha184,hc184,L2,hB⟩ K183 k183
    refine wp_seq_k (fun K185 k185=>?_)
    refine wp_seq_k (fun K186 k186=>?_)
    refine rg [0,1] ?_
    refine sv 40 (.int .i64 (nz184)) ?_
    refine sv 41 (.bool ((nz184 !=(0:Int)))) ?_
    refine sq_nil ?_
    refine k186 _ _ ?_
    try clear k186 K186
    refine wp_cond_split (t:=(nz184 !=(0:Int))) rfl (fun hb187=>?_) (fun hb187=>?_)
    ·have hp184:0<nz184:=by have h0:¬ nz184=0:=(by simpa using hb187);omega
     refine wp_skip ?_
     refine k185 _ _ ?_
     try clear k185 K185
     refine wp_block ?_
     have gd189:=Gr.drew w183
     replace hB:=hB.trans gd189
     refine wp_region_ord (fun _=>True) [(true,0),(true,1),(true,2),(true,3),(true,4),(true,5)] (by kernel_rfl) (by kernel_rfl) (by kernel_rfl) (by decide) (fun _ _ _ _ _ h=>h) trivial ?_
     refine ov 42 (.int .i64 (nz184)) ?_
     refine ov 43 (.int .i64 (gz184)) ?_
     refine ov 44 (.int .i64 (nz184)) ?_
     refine ow 45 (.int .i64 ((gz184 % nz184))) rfl (fun w' hS=>(rv_rem 3 3 _ _ gz184 nz184 rfl rfl rfl ha184 hp184)) ?_
     refine ov 5 (.int .i64 (nz184)) ?_
     refine ov 9 (.int .i64 ((gz184 % nz184))) ?_
     refine ord_nil ?_
     replace L2:=L2.gr gd189
     refine k183 ((gz184 % nz184).toNat) ⟨List.toArray ?l190,[]⟩ _ (by have:=Int.emod_lt_of_pos gz184 hp184;omega) ?_
     exact ⟨_,_,(fun i=>List.getD ?l190 i undef),rfl,rfl,(by rw [gcd_stepZ ha184 hp184];exact hz184),(by omega),(Int.emod_nonneg _ (by omega)),L2,hB⟩
    ·have hg184:=gcd_endZ (m:=qq2) hz184 hb187 ha184 (by split;exact .inr rfl;exact .inl rfl)
     refine wp_exit ?_
     simp only [Exit.then,Exit.inBlock,↓reduceIte]
     refine k178 _ _ ?_
     try clear k178 K178
     refine rg [0,1] ?_
     refine sv 46 (.int .i64 3) ?_
     refine sv 30 (.int .i64 3) ?_
     refine sq_nil ?_
     show Code.rounds _ _ _ _ _ _
     show Code.wp _ _ _ _ _
     refine wp_seq_k (fun K191 k191=>?_)
     refine rg [0] ?_
     refine sv 31 (.bool true) ?_
     refine sq_nil ?_
     refine k191 _ _ ?_
     try clear k191 K191
     refine wp_seq_k (fun K192 k192=>?_)
     refine wp_cond_true rfl ?_
     refine wp_skip ?_
     refine k192 _ _ ?_
     try clear k192 K192
     refine wp_seq_k (fun K193 k193=>?_)
     refine wp_block ?_
     refine wp_seq_k (fun K194 k194=>?_)
     refine rg [0,1] ?_
     refine sv 32 (.int .i64 (qq3)) ?_
     refine sv 8 (.int .i64 (qq3)) ?_
     refine sq_nil ?_
     refine k194 _ _ ?_
     try clear k194 K194
     refine wp_seq_k (fun K195 k195=>?_)
     refine wp_seq_k (fun K196 k196=>?_)
     refine rg [0,1] ?_
     refine sv 33 (.int .i64 (qq0)) ?_
     refine sw 34 (.bool false) rfl (RunV.bool (x:=(qq0==(0:Int))) (rvk (by kernel_rfl)) hb53) ?_
     refine sq_nil ?_
     refine k196 _ _ ?_
     try clear k196 K196
     refine wp_cond_false rfl ?_
     refine wp_skip ?_
     refine k195 _ _ ?_
     try clear k195 K195
     refine wp_seq_k (fun K197 k197=>?_)
     refine rg [0,1,2,3,4] ?_
     refine sv 36 (.int .i64 (qq3)) ?_
     refine sv 37 (.int .i64 (qq3)) ?_
     refine sw 38 (.int .i64 ((-qq3))) rfl (RunV.int (x:=IntKind.i64.wrap (0 - qq3)) (y:=(-qq3)) (rvk (by kernel_rfl)) (by first | rfl | (rw [IntKind.wrap_i64];omega))) ?_
     refine sv 39 (.int .i64 ((if (-qq3)>qq3 then (-qq3) else qq3))) ?_
     refine sv 9 (.int .i64 ((if (-qq3)>qq3 then (-qq3) else qq3))) ?_
     refine sq_nil ?_
     refine k197 _ _ ?_
     try clear k197 K197
     refine wp_block ?_
     refine wp_loop_inv (a:=⟨List.toArray ?l198,[]⟩) (fun n a w'=>∃ (gz199:Int) (nz199:Int) (u198:Nat→Value),nz199.toNat=n∧a=⟨[(u198 0),(.pointer (some ⟨b2,0,none⟩)),(.int .i64 0),undef,(.int .i64 (qq3)),(.int .i64 (gz199)),(.int .i64 (qq0)),undef,(.int .i64 (qq3)),(.int .i64 (nz199)),undef,undef,(u198 12),(u198 13),(u198 14),(.bool false),(u198 16),(.agg #[(.int .i64 (qq0)),(.int .i64 (qq1)),(.int .i64 (qq2)),(.int .i64 (qq3))]),(.int .i64 4),(.bool false),(u198 20),(u198 21),(u198 22),(u198 23),(u198 24),(u198 25),(.bool false),(u198 27),(u198 28),(.agg #[(.int .i64 (qq0)),(.int .i64 (qq1)),(.int .i64 (qq2)),(.int .i64 (qq3))]),(.int .i64 3),(.bool true),(u198 32),(u198 33),(.bool false),(u198 35),(u198 36),(u198 37),(u198 38),(u198 39),(u198 40),(u198 41),(u198 42),(u198 43),(u198 44),(u198 45),(u198 46),undef,undef,undef,undef,undef,undef,undef,undef,undef,undef,undef,undef,undef].toArray,[]⟩∧Int.gcd gz199 nz199=Int.gcd (gz184:Int) (if (-qq3)>qq3 then (-qq3) else qq3)∧0≤gz199∧0≤nz199∧Lc w' b2 #[(.int .i64 (qq0)),(.int .i64 (qq1)),(.int .i64 (qq2)),(.int .i64 (qq3)),(.string ⟨(ratL (sa1):List UInt8).toArray⟩),(.string ⟨(ratL (sa2):List UInt8).toArray⟩),(.string ⟨(ratL (sa3):List UInt8).toArray⟩)] 27∧Gr w w') (Int.toNat (if (-qq3)>qq3 then (-qq3) else qq3)) ?_ ?_
     ·exact ⟨_,_,(fun i=>List.getD ?l198 i undef),rfl,rfl,rfl,(by omega),(by split<;>omega),L2,hB⟩
     rintro n198 a198 w198 ⟨gz199,nz199,u198,rfl,rfl,hz199,ha199,hc199,L2,hB⟩ K198 k198
     refine wp_seq_k (fun K200 k200=>?_)
     refine wp_seq_k (fun K201 k201=>?_)
     refine rg [0,1] ?_
     refine sv 40 (.int .i64 (nz199)) ?_
     refine sv 41 (.bool ((nz199 !=(0:Int)))) ?_
     refine sq_nil ?_
     refine k201 _ _ ?_
     try clear k201 K201
     refine wp_cond_split (t:=(nz199 !=(0:Int))) rfl (fun hb202=>?_) (fun hb202=>?_)
     ·have hp199:0<nz199:=by have h0:¬ nz199=0:=(by simpa using hb202);omega
      refine wp_skip ?_
      refine k200 _ _ ?_
      try clear k200 K200
      refine wp_block ?_
      have gd204:=Gr.drew w198
      replace hB:=hB.trans gd204
      refine wp_region_ord (fun _=>True) [(true,0),(true,1),(true,2),(true,3),(true,4),(true,5)] (by kernel_rfl) (by kernel_rfl) (by kernel_rfl) (by decide) (fun _ _ _ _ _ h=>h) trivial ?_
      refine ov 42 (.int .i64 (nz199)) ?_
      refine ov 43 (.int .i64 (gz199)) ?_
      refine ov 44 (.int .i64 (nz199)) ?_
      refine ow 45 (.int .i64 ((gz199 % nz199))) rfl (fun w' hS=>(rv_rem 3 3 _ _ gz199 nz199 rfl rfl rfl ha199 hp199)) ?_
      refine ov 5 (.int .i64 (nz199)) ?_
      refine ov 9 (.int .i64 ((gz199 % nz199))) ?_
      refine ord_nil ?_
      replace L2:=L2.gr gd204
      refine k198 ((gz199 % nz199).toNat) ⟨List.toArray ?l205,[]⟩ _ (by have:=Int.emod_lt_of_pos gz199 hp199;omega) ?_
      exact ⟨_,_,(fun i=>List.getD ?l205 i undef),rfl,rfl,(by rw [gcd_stepZ ha199 hp199];exact hz199),(by omega),(Int.emod_nonneg _ (by omega)),L2,hB⟩
     ·have hg199:=gcd_endZ (m:=qq3) hz199 hb202 ha199 (by split;exact .inr rfl;exact .inl rfl)
      refine wp_exit ?_
      simp only [Exit.then,Exit.inBlock,↓reduceIte]
      refine k193 _ _ ?_
      try clear k193 K193
      refine rg [0,1] ?_
      refine sv 46 (.int .i64 4) ?_
      refine sv 30 (.int .i64 4) ?_
      refine sq_nil ?_
      show Code.rounds _ _ _ _ _ _
      show Code.wp _ _ _ _ _
      refine wp_seq_k (fun K206 k206=>?_)
      refine rg [0] ?_
      refine sv 31 (.bool false) ?_
      refine sq_nil ?_
      refine k206 _ _ ?_
      try clear k206 K206
      refine wp_seq_k (fun K207 k207=>?_)
      refine wp_cond_false rfl ?_
      refine wp_exit ?_
      simp only [Exit.then,Exit.inBlock,↓reduceIte]
      refine k30 _ _ ?_
      try clear k30 K30
      refine wp_seq_k (fun K208 k208=>?_)
      refine wp_seq_k (fun K209 k209=>?_)
      refine rg [0,1,2,3,4,5] ?_
      refine sv 47 (.int .i64 (gz199)) ?_
      refine sv 48 (.bool ((gz199 !=(1:Int)))) ?_
      rcases Bool.eq_false_or_eq_true ((gz199 !=(1:Int))) with hb210 | hb210
      ·refine sw 49 (.bool true) rfl (RunV.bool (x:=(gz199 !=(1:Int))) (rvk (by kernel_rfl)) hb210) ?_
       refine ss 50 ?_
       refine ss 51 ?_
       refine sv 52 (.bool true) ?_
       refine sq_nil ?_
       refine k209 _ _ ?_
       try clear k209 K209
       refine wp_cond_true rfl ?_
       refine wp_seq_k (fun K211 k211=>?_)
       refine rg [0] ?_
       refine sv 2 (.int .i64 3) ?_
       refine sq_nil ?_
       refine k211 _ _ ?_
       try clear k211 K211
       refine wp_ret ?_
       simp only [Exit.then]
       refine bodyPost_ret (v:=(.int .i64 3)) (ret_tmp rfl rfl) rfl ⟨?_,hB⟩
       exact (congrArg (fun z=>Ending.returned (.int .i64 z)) (chk_g (g:=gz199) (by rw [hg199,hg184,hg169,hg40];rfl) hb210))
      ·refine sw 49 (.bool false) rfl (RunV.bool (x:=(gz199 !=(1:Int))) (rvk (by kernel_rfl)) hb210) ?_
       refine sv 50 (.int .i64 (qq0)) ?_
       refine sv 51 (.bool (decide (qq0<(0:Int)))) ?_
       refine sv 52 (.bool (decide (qq0<(0:Int)))) ?_
       refine sq_nil ?_
       refine k209 _ _ ?_
       try clear k209 K209
       refine wp_cond_split (t:=decide (qq0<(0:Int))) rfl (fun hb212=>?_) (fun hb212=>?_)
       ·refine wp_seq_k (fun K213 k213=>?_)
        refine rg [0] ?_
        refine sv 2 (.int .i64 3) ?_
        refine sq_nil ?_
        refine k213 _ _ ?_
        try clear k213 K213
        refine wp_ret ?_
        simp only [Exit.then]
        refine bodyPost_ret (v:=(.int .i64 3)) (ret_tmp rfl rfl) rfl ⟨?_,hB⟩
        exact (congrArg (fun z=>Ending.returned (.int .i64 z)) (chk_s (qsgn0 hb53) hb212))
       ·refine wp_skip ?_
        refine k208 _ _ ?_
        try clear k208 K208
        refine wp_seq_k (fun K214 k214=>?_)
        refine rg [0,1,2,3,4,5,6,7,8] ?_
        refine sv 54 (.pointer (some ⟨b2,4,none⟩)) ?_
        refine sw 55 (.agg #[(.string ⟨(ratL (sa1):List UInt8).toArray⟩),(.string ⟨(ratL (sa2):List UInt8).toArray⟩),(.string ⟨(ratL (sa3):List UInt8).toArray⟩)]) rfl (rl 25 4 [(.string ⟨(ratL (sa1):List UInt8).toArray⟩),(.string ⟨(ratL (sa2):List UInt8).toArray⟩),(.string ⟨(ratL (sa3):List UInt8).toArray⟩)] L2) ?_
        refine se ?_
        refine ec 56 (vparse_v sa1 sa2 sa3 hsa1 hsa2 hsa3 (by omega) (by omega) lsa1 lsa2 lsa3 _ (hm.gr hB)) ?_
        rintro e215 w215 ⟨⟨t215_0,t215_1,t215_2,t215_3,t215_4,t215_5,t215_6,t215_7,t215_8,t215_9,t215_10,t215_11,rfl,h215a,h215b,h215c⟩,g215⟩
        refine ⟨_,rfl,?_⟩
        replace hB:=hB.trans g215
        simp only [p3,p4]
        refine sv 53 (.tuple #[(.agg #[t215_0,t215_1,t215_2,t215_3,t215_4,t215_5,t215_6,t215_7,t215_8,t215_9,t215_10,t215_11]),(.int .i64 0)]) ?_
        refine sv 57 (.agg #[t215_0,t215_1,t215_2,t215_3,t215_4,t215_5,t215_6,t215_7,t215_8,t215_9,t215_10,t215_11]) ?_
        refine sv 58 (.int .i64 0) ?_
        refine se ?_
        refine ea 38 #[(.bool false),(.slice none 0 0),(.bool false),(.slice none 0 0),(.bool false),(.slice none 0 0),(.bool false),(.slice none 0 0),(.bool false),(.slice none 0 0),(.bool false),(.slice none 0 0)] 10 hB fun b216 w216 g216 L216 o216 q216 hB=>?_
        simp only [p3,p4]
        refine se ?_
        refine es 38 0 (.agg #[t215_0,t215_1,t215_2,t215_3,t215_4,t215_5,t215_6,t215_7,t215_8,t215_9,t215_10,t215_11]) [t215_0,t215_1,t215_2,t215_3,t215_4,t215_5,t215_6,t215_7,t215_8,t215_9,t215_10,t215_11] #[t215_0,t215_1,t215_2,t215_3,t215_4,t215_5,t215_6,t215_7,t215_8,t215_9,t215_10,t215_11] L216 hB q216 ⟨h215a.one0,h215a.one1,h215a.one2,h215a.one3,h215b.one0,h215b.one1,h215b.one2,h215b.one3,h215c.one0,h215c.one1,h215c.one2,h215c.one3,trivial⟩ fun w217 st217 kp217 L216 hB=>?_
        refine sv 11 (.int .i64 0) ?_
        refine sq_nil ?_
        refine k214 _ _ ?_
        try clear k214 K214
        refine wp_seq_k (fun K218 k218=>?_)
        refine rg [0,1] ?_
        refine sv 59 (.int .i64 0) ?_
        refine sv 2 (.int .i64 0) ?_
        refine sq_nil ?_
        refine k218 _ _ ?_
        try clear k218 K218
        refine wp_ret ?_
        refine bodyPost_ret (v:=(.int .i64 0)) (ret_tmp rfl rfl) rfl ⟨?_,hB⟩
        exact (congrArg (fun z=>Ending.returned (.int .i64 z)) (chk_e (g:=gz199) (by rw [hg199,hg184,hg169,hg40];rfl) hb210 (qsgn0 hb53) hb212))

theorem mcheckr {qq0 qq1 qq2 qq3:Int} (i0:(-12≤qq0∧qq0≤12)) (i1:(-12≤qq1∧qq1≤12)) (i2:(-12≤qq2∧qq2≤12)) (i3:(-12≤qq3∧qq3≤12)) (sa1 sa2 sa3:Rat) (hsa1:RS 64 sa1) (hsa2:RS 64 sa2) (hsa3:RS 64 sa3) (lsa1:((ratL sa1).length:Int)≤400) (lsa2:((ratL sa2).length:Int)≤400) (lsa3:((ratL sa3).length:Int)≤400) (w:World) (hm:Mx w):
    Calls Tryz.prog 15 #[(.agg #[(.int .i64 (qq0)),(.int .i64 (qq1)),(.int .i64 (qq2)),(.int .i64 (qq3)),(.string ⟨(ratL (sa1):List UInt8).toArray⟩),(.string ⟨(ratL (sa2):List UInt8).toArray⟩),(.string ⟨(ratL (sa3):List UInt8).toArray⟩)])] w fun e w'=>e=.returned (.int .i64 (chk qq0 qq1 qq2 qq3 0))∧Gr w w':=by
  unfold chk
  by_cases hz:qq0=0∧qq1=0∧qq2=0∧qq3=0
  · rw [if_pos hz]
    obtain ⟨rfl,rfl,rfl,rfl⟩:=hz
    exact mcheckr_z (by omega) (by omega) (by omega) (by omega) sa1 sa2 sa3 hsa1 hsa2 hsa3 lsa1 lsa2 lsa3 w hm rfl
  · rw [if_neg hz,if_neg (by simp only [Classical.not_not];exact ⟨i0,i1,i2,i3⟩)]
    exact mcheckr_f (by omega) (by omega) (by omega) (by omega) sa1 sa2 sa3 hsa1 hsa2 hsa3 lsa1 lsa2 lsa3 w hm (chk_rr hz) hz i0 i1 i2 i3

end Go.Proofs.YtaldbfflkpgfoaaGreatDoor
/- Placements compared;what a placement's function answers. -/
namespace Go.Proofs.YtaldbfflkpgfoaaGreatDoor
open Go.RowKit
section
variable {P:Program} {a:Act} {o:Oper} {w:World}
theorem rv_quon (t t2:TypeId) (x y:Operand) (A B C:Int) (hop:o.op=.binOp .quo t x y t2) (hx:a.eval x=.int .i64 A) (hy:a.eval y=.int .i64 B) (hC:Int.tdiv A B=C) (h1:-9223372036854775808≤C) (h2:C≤9223372036854775807) (hB:B≠0):RunV P a o w (.int .i64 C):=by
  have e2:IntKind.i64.wrap C=C:=by rw [IntKind.wrap_i64];omega
  unfold RunV execOp
  simp only [hop,hx,hy]
  simp [go_sem,binOp,eqGuard,Op.intDiv,hB,hC,e2]
end
section
variable {q0 q1 q2 q3:Int}
theorem gcd_end0 {g n a b:Int} (h:Int.gcd g n=Int.gcd a b) (hb:decide ((0:Int)<n)=false) (hg:0≤g) (hn:0≤n):g=(Int.gcd a b:Int):=by
  have:=of_decide_eq_false hb
  have h0:n=0:=by omega
  rw [h0,Int.gcd_zero_right] at h
  omega
theorem common_eq:(Int.gcd (Int.gcd (Int.gcd (Int.gcd 0 (q0.natAbs:Int):Int) (q1.natAbs:Int):Int) (q2.natAbs:Int):Int) (q3.natAbs:Int):Int)=qgcd q0 q1 q2 q3:=by
  unfold qgcd;simp [Int.gcd]
theorem pos_sgn {z:Int} (hz:z≠0):decide ((0:Int)<z)=decide (sgn z=1):=by
  unfold sgn
  rw [Bool.eq_iff_iff,decide_eq_true_eq,decide_eq_true_eq]
  split<;>(try split)<;>omega
theorem posq0 (h0:(q0 !=(0:Int))=true):decide ((0:Int)<q0)=decide (qsgn q0 q1 q2 q3=1):=by
  have h0:q0≠0:=by simpa using h0
  rw [show qsgn q0 q1 q2 q3=sgn q0 from if_neg h0];exact pos_sgn h0
theorem posq1 (h0:(q0 !=(0:Int))=false) (h1:(q1 !=(0:Int))=true):decide ((0:Int)<q1)=decide (qsgn q0 q1 q2 q3=1):=by
  have h0:q0=0:=by simpa using h0
  have h1:q1≠0:=by simpa using h1
  rw [show qsgn q0 q1 q2 q3=sgn q1 by unfold qsgn;rw [if_pos h0,if_neg h1]];exact pos_sgn h1
theorem posq2 (h0:(q0 !=(0:Int))=false) (h1:(q1 !=(0:Int))=false) (h2:(q2 !=(0:Int))=true):decide ((0:Int)<q2)=decide (qsgn q0 q1 q2 q3=1):=by
  have h0:q0=0:=by simpa using h0
  have h1:q1=0:=by simpa using h1
  have h2:q2≠0:=by simpa using h2
  rw [show qsgn q0 q1 q2 q3=sgn q2 by unfold qsgn;rw [if_pos h0,if_pos h1,if_neg h2]];exact pos_sgn h2
theorem posq3 (h0:(q0 !=(0:Int))=false) (h1:(q1 !=(0:Int))=false) (h2:(q2 !=(0:Int))=false) (h3:(q3 !=(0:Int))=true):decide ((0:Int)<q3)=decide (qsgn q0 q1 q2 q3=1):=by
  have h0:q0=0:=by simpa using h0
  have h1:q1=0:=by simpa using h1
  have h2:q2=0:=by simpa using h2
  have h3:q3≠0:=by simpa using h3
  rw [show qsgn q0 q1 q2 q3=sgn q3 by unfold qsgn;rw [if_pos h0,if_pos h1,if_pos h2]];exact pos_sgn h3
theorem posq4 (h0:(q0 !=(0:Int))=false) (h1:(q1 !=(0:Int))=false) (h2:(q2 !=(0:Int))=false) (h3:(q3 !=(0:Int))=false):false=decide (qsgn q0 q1 q2 q3=1):=by
  have h0:q0=0:=by simpa using h0
  have h1:q1=0:=by simpa using h1
  have h2:q2=0:=by simpa using h2
  have h3:q3=0:=by simpa using h3
  subst h0 h1 h2 h3;rfl
theorem prim_td {n:Int} (h0:¬(q0=0∧q1=0∧q2=0∧q3=0)) (hd:qgcd q0 q1 q2 q3∣n) (hs:qsgn q0 q1 q2 q3=1):Int.tdiv n (qgcd q0 q1 q2 q3)=qprim q0 q1 q2 q3 n:=by
  have:=qprim_tdiv h0 hd
  rwa [hs,Int.mul_one] at this
theorem prim_tm {n:Int} (h0:¬(q0=0∧q1=0∧q2=0∧q3=0)) (hd:qgcd q0 q1 q2 q3∣n) (hs:qsgn q0 q1 q2 q3=-1):Int.tdiv n (0 - qgcd q0 q1 q2 q3)=qprim q0 q1 q2 q3 n:=by
  have:=qprim_tdiv h0 hd
  rwa [hs,Int.mul_neg,Int.mul_one,← Int.zero_sub] at this
end
theorem zero_mul3 (a b c:Rat):((0+a*0+b*0+c*0)+0:Rat)=0:=by grind
/-- rows that are a rotation -/
def rigidB (ma11 ma12 ma13 ma21 ma22 ma23 ma31 ma32 ma33:Rat):Bool:=decide ([(0+ma11*ma11+ma12*ma12+ma13*ma13),(0+ma11*ma21+ma12*ma22+ma13*ma23),(0+ma11*ma31+ma12*ma32+ma13*ma33),(0+ma21*ma11+ma22*ma12+ma23*ma13),(0+ma21*ma21+ma22*ma22+ma23*ma23),(0+ma21*ma31+ma22*ma32+ma23*ma33),(0+ma31*ma11+ma32*ma12+ma33*ma13),(0+ma31*ma21+ma32*ma22+ma33*ma23),(0+ma31*ma31+ma32*ma32+ma33*ma33),((0+ma11*0+ma12*0+ma13*0)+0),((0+ma21*0+ma22*0+ma23*0)+0),((0+ma31*0+ma32*0+ma33*0)+0)]=[1,0,0,0,1,0,0,0,1,0,0,0])&&decide ((0:Int)<sgn (0+ma11*(ma22*ma33 - ma23*ma32)+ma12*(ma23*ma31 - ma21*ma33)+ma13*(ma21*ma32 - ma22*ma31)).num)
theorem rigid_rot {a11 a12 a13 a21 a22 a23 a31 a32 a33 w x y z:Rat} (h0:¬(w=0∧x=0∧y=0∧z=0)) (h:RotQ a11 a12 a13 a21 a22 a23 a31 a32 a33 w x y z):rigidB a11 a12 a13 a21 a22 a23 a31 a32 a33=true:=by
  obtain ⟨o11,o12,o13,o21,o22,o23,o31,o32,o33⟩:=rotq_orth h0 h
  have hd:=rotq_det h0 h
  unfold rigidB
  rw [Bool.and_eq_true,decide_eq_true_eq,decide_eq_true_eq,o11,o12,o13,o21,o22,o23,o31,o32,o33,zero_mul3,zero_mul3,zero_mul3]
  refine ⟨rfl,?_⟩
  have e:(0+a11*(a22*a33 - a23*a32)+a12*(a23*a31 - a21*a33)+a13*(a21*a32 - a22*a31):Rat)=1:=by rw [← hd];grind
  rw [e];decide
end Go.Proofs.YtaldbfflkpgfoaaGreatDoor
/- What rational.read meets at any text:the library's functions,integer.Parse at texts out of their form. -/
namespace Go.Proofs.YtaldbfflkpgfoaaGreatDoor
open Go.RowKit

end Go.Proofs.YtaldbfflkpgfoaaGreatDoor
/- Printed by a program of the prover's:rational.read at any text. -/
namespace Go.Proofs.YtaldbfflkpgfoaaGreatDoor
open Go.RowKit

end Go.Proofs.YtaldbfflkpgfoaaGreatDoor
/- Printed by a program of the prover's:VectorParses. -/
namespace Go.Proofs.YtaldbfflkpgfoaaGreatDoor
open Go.RowKit

end Go.Proofs.YtaldbfflkpgfoaaGreatDoor
