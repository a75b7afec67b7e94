/- Joined of: Sy6, Sy7, Sy8, Sy9, Sya, Syb, Gen39, Gen9, Gen61, R1j, Ve, Gen62, Syc, Env, Scal, Stq, Wh, Wg, Qt, Qr, Syr, Red, Gen10, Axis. -/
import Derived.Test.YthhbibpaeonecaaGreatDoorPartE
import Derived.Test.YthhbibpaeonecaaGreatDoorPartD
import Derived.Test.YthhbibpaeonecaaGreatDoorPartC
import Derived.Test.YthhbibpaeonecaaGreatDoorPartA
import Init.Data.Rat.Lemmas
import Derived.Test.YthhbibpaeonecaaGreatDoorPartB
namespace Go.Proofs.YthhbibpaeonecaaGreatDoor
open Go.RowKit

/-- decided ahead:true,false,both ways,left open;i:the next int between these bounds is u -/
inductive Dt where
  | e
  | t (d:Dt)
  | f (d:Dt)
  | s (a b:Dt)
  | o (d:Dt)
  | c
  | i (l h u:Int) (d:Dt)
/-- slots,blocks (from nu on the activation's own),how many rationals and integers,what is decided ahead -/
structure Sg where
  fr:List SV
  bl:List (Nat × List Cl)
  nu:Nat
  nr:Nat
  nz:Nat
  ds:Dt
def Sg.nn (s:Sg):Nn:=⟨s.bl.length,s.nr,s.nz⟩
structure Base where
  w:World
  X:Env
  n:Nn
  ks:List (Nat × Obj)
structure Rep (B:Base) (X:Env) (s:Sg) (w:World):Prop where
  gr:Gr B.w w
  ag:Agr B.n B.X X
  le:B.n.le s.nn
  fr:okF s.nn X w s.fr
  bl:∀ (i:Nat) t cs,s.bl[i]?=some (t,cs)→okL s.nn X w cs
  lc:∀ (i:Nat) t cs,s.bl[i]?=some (t,cs)→Lc w (X.E i) (dnL X cs) t∧t≠136
  own:∀ i,s.nu≤i→i<s.bl.length→B.w.heap.size≤X.E i
  inj:∀ i j,i<s.bl.length→j<s.bl.length→X.E i=X.E j→i=j
  ks:∀ x ∈ B.ks,w.heap[x.1]?=some x.2∧∀ i,i<s.bl.length→X.E i≠x.1
  kk:∀ x ∈ B.X.K,B.w.heap[x.1]?=some x.2
theorem Rep.kx {B:Base} {X:Env} {s:Sg} {w:World} (h:Rep B X s w):∀ x ∈ X.K,w.heap[x.1]?=some x.2:=fun x hx=>h.gr.heap (h.kk x (h.ag.k ▸ hx))
theorem Rep.kb {B:Base} {X:Env} {s:Sg} {w:World} (h:Rep B X s w):∀ x ∈ B.X.K,w.heap[x.1]?=some x.2:=fun x hx=>h.gr.heap (h.kk x hx)
/-- blocks other than those of s that may be turned stay as they are -/
def Stay (ro:Nat→Bool) (X:Env) (s:Sg) (w w':World):Prop:=∀ (b:Nat) (cs:Array Value) (t:TypeId),(∀ j,j<s.bl.length→ro j=false→b≠X.E j)→Lc w b cs t→Lc w' b cs t
theorem Stay.gr {ro:Nat→Bool} {X:Env} {s:Sg} {w w':World} (g:Gr w w'):Stay ro X s w w':=fun _ _ _ _ h=>h.gr g
theorem Rep.to {B:Base} {X:Env} {s:Sg} {w w':World} (h:Rep B X s w) (g:Gr w w'):Rep B X s w' where
  gr:=h.gr.trans g
  ag:=h.ag
  le:=h.le
  fr:=okF_to (.refl _) (.refl _ _) g.kp h.fr
  bl:=fun i t cs hi=>okL_to (.refl _) (.refl _ _) g.kp (h.bl i t cs hi)
  lc:=fun i t cs hi=>⟨(h.lc i t cs hi).1.gr g,(h.lc i t cs hi).2⟩
  own:=h.own
  inj:=h.inj
  ks:=fun x hx=>⟨g.heap (h.ks x hx).1,(h.ks x hx).2⟩
  kk:=h.kk
theorem Rep.set {B:Base} {X:Env} {s:Sg} {w:World} (h:Rep B X s w) {d:Nat} {v:SV} (hv:v.ok s.nn X w):Rep B X {s with fr:=s.fr.set d v} w where
  gr:=h.gr
  ag:=h.ag
  le:=h.le
  fr:=okF_set h.fr hv
  bl:=h.bl
  lc:=h.lc
  own:=h.own
  inj:=h.inj
  ks:=h.ks
  kk:=h.kk
theorem Rep.lt {B:Base} {X:Env} {s:Sg} {w:World} (h:Rep B X s w) {i:Nat} (hi:i<s.bl.length):X.E i<w.heap.size:=by
  obtain ⟨x,e⟩:∃ x,s.bl[i]?=some x:=⟨_,List.getElem?_eq_getElem hi⟩
  exact (h.lc i x.1 x.2 e).1.lt
/-- a new block -/
def Env.push (X:Env) (n b:Nat):Env:={X with E:=fun i=>if i=n then b else X.E i}
theorem Env.push_agree (X:Env) (n:Nn) (b:Nat):Agr n X (X.push n.b b):=⟨fun i hi=>by simp only [Env.push];rw [if_neg (by omega)],fun _ _ _=>rfl,fun _ _ _=>rfl,rfl⟩
def Sg.grow (s:Sg) (t:Nat) (cs:List Cl):Sg:={s with bl:=s.bl++[(t,cs)]}
theorem Rep.add {B:Base} {X:Env} {s:Sg} {w w':World} (h:Rep B X s w) {t b:Nat} {cs:List Cl} (hc:okL s.nn X w cs) (ht:t≠136) (g:Gr w w') (hL:Lc w' b (dnL X cs) t) (hb:B.w.heap.size≤b) (hne:∀ i,i<s.bl.length→X.E i≠b) (hnk:∀ x ∈ B.ks,b≠x.1):
    Rep B (X.push s.bl.length b) (s.grow t cs) w'∧Agr s.nn X (X.push s.bl.length b):=by
  have hA:Agr s.nn X (X.push s.bl.length b):=Env.push_agree X s.nn b
  have hn:s.nn.le (s.grow t cs).nn:=⟨by simp [Sg.nn,Sg.grow],Nat.le_refl _,Nat.le_refl _⟩
  have hE:(X.push s.bl.length b).E s.bl.length=b:=by simp [Env.push]
  have hold:∀ i,i<s.bl.length→(X.push s.bl.length b).E i=X.E i:=fun i hi=>(hA.E i hi).symm
  have hget:∀ (i:Nat) x,(s.grow t cs).bl[i]?=some x→(i<s.bl.length∧s.bl[i]?=some x)∨(i=s.bl.length∧x=(t,cs)):=fun i x hx=>by
    simp only [Sg.grow] at hx
    rcases Nat.lt_trichotomy i s.bl.length with hi | rfl | hi
    · rw [List.getElem?_append_left hi] at hx;exact .inl ⟨hi,hx⟩
    · simp at hx;exact .inr ⟨rfl,hx.symm⟩
    · rw [List.getElem?_append_right (by omega),List.getElem?_eq_none (by simp;omega)] at hx;cases hx
  have hlen:(s.grow t cs).bl.length=s.bl.length+1:=by simp [Sg.grow]
  refine ⟨⟨h.gr.trans g,h.ag.trans (hA.mono h.le),h.le.trans hn,okF_to hn hA g.kp h.fr,fun i u ds hi=>?_,fun i u ds hi=>?_,fun i h1 h2=>?_,fun i j hi hj e=>?_,fun x hx=>⟨g.heap (h.ks x hx).1,fun i hi=>?_⟩,h.kk⟩,hA⟩
  · rcases hget i _ hi with ⟨_,hx⟩ | ⟨_,hx⟩
    · exact okL_to hn hA g.kp (h.bl i u ds hx)
    · cases hx;exact okL_to hn hA g.kp hc
  · rcases hget i _ hi with ⟨hl,hx⟩ | ⟨rfl,hx⟩
    · have:=h.lc i u ds hx
      rw [hold i hl,← dnL_agree hA fun c hc'=>(h.bl i u ds hx c hc').1]
      exact ⟨this.1.gr g,this.2⟩
    · cases hx
      rw [hE,← dnL_agree hA fun c hc'=>(hc c hc').1]
      exact ⟨hL,ht⟩
  · rw [hlen] at h2
    rcases Nat.lt_or_ge i s.bl.length with hi | hi
    · rw [hold i hi];exact h.own i h1 hi
    · obtain rfl:i=s.bl.length:=by omega
      rw [hE];exact hb
  · rw [hlen] at hi hj
    rcases Nat.lt_or_ge i s.bl.length with hi' | hi'<;>rcases Nat.lt_or_ge j s.bl.length with hj' | hj'
    · rw [hold i hi',hold j hj'] at e;exact h.inj i j hi' hj' e
    · obtain rfl:j=s.bl.length:=by omega
      rw [hold i hi',hE] at e
      exact absurd e (hne i hi')
    · obtain rfl:i=s.bl.length:=by omega
      rw [hold j hj',hE] at e
      exact absurd e.symm (hne j hj')
    · omega
  · rw [hlen] at hi
    rcases Nat.lt_or_ge i s.bl.length with hi' | hi'
    · rw [hold i hi'];exact (h.ks x hx).2 i hi'
    · obtain rfl:i=s.bl.length:=by omega
      rw [hE];exact hnk x hx
theorem Rep.grow {B:Base} {X:Env} {s:Sg} {w w':World} (h:Rep B X s w) {t b:Nat} {cs:List Cl} (hc:okL s.nn X w cs) (ht:t≠136) (g:Gr w w') (hL:Lc w' b (dnL X cs) t) (hb:w.heap.size≤b):
    Rep B (X.push s.bl.length b) (s.grow t cs) w'∧Agr s.nn X (X.push s.bl.length b):=
  h.add hc ht g hL (Nat.le_trans h.gr.size hb) (fun i hi=>by have:=h.lt hi;omega) (fun x hx=>by have:=heap_lt (h.ks x hx).1;omega)
/-- a store into a block of the activation's own -/
theorem Rep.store {B:Base} {X:Env} {s:Sg} {w w':World} (h:Rep B X s w) {j t:Nat} {cs ds:List Cl} (hj:s.bl[j]?=some (t,cs)) (hu:s.nu≤j) (hd:okL s.nn X w ds) (st:St w w' (X.E j)) (hL:Lc w' (X.E j) (dnL X ds) t):
    Rep B X {s with bl:=s.bl.set j (t,ds)} w':=by
  have hjl:j<s.bl.length:=(List.getElem?_eq_some_iff.1 hj).1
  have hk:Kp w w':=st.kp (h.lc j t cs hj).1 (h.lc j t cs hj).2
  have hnn:({s with bl:=s.bl.set j (t,ds)}:Sg).nn=s.nn:=by simp [Sg.nn]
  have hget:∀ (i:Nat) x,(s.bl.set j (t,ds))[i]?=some x→(i≠j∧s.bl[i]?=some x)∨(i=j∧x=(t,ds)):=fun i x hx=>by
    by_cases e:i=j
    · subst e;rw [List.getElem?_set_self hjl] at hx;exact .inr ⟨rfl,(Option.some.inj hx).symm⟩
    · rw [List.getElem?_set_ne (Ne.symm e)] at hx;exact .inl ⟨e,hx⟩
  refine ⟨st.gr h.gr (h.own j hu hjl),h.ag,by rw [hnn];exact h.le,by rw [hnn];exact okF_to (.refl _) (.refl _ _) hk h.fr,fun i u es hi=>?_,fun i u es hi=>?_,fun i h1 h2=>?_,fun i k h1 h2 e=>?_,fun x hx=>⟨?_,fun i hi=>?_⟩,h.kk⟩
  · rw [hnn]
    rcases hget i _ hi with ⟨_,hx⟩ | ⟨_,hx⟩
    · exact okL_to (.refl _) (.refl _ _) hk (h.bl i u es hx)
    · cases hx;exact okL_to (.refl _) (.refl _ _) hk hd
  · rcases hget i _ hi with ⟨hne,hx⟩ | ⟨rfl,hx⟩
    · have hil:i<s.bl.length:=(List.getElem?_eq_some_iff.1 hx).1
      exact ⟨st.lc (h.lc i u es hx).1 (fun e=>hne (h.inj i j hil hjl e)),(h.lc i u es hx).2⟩
    · cases hx;exact ⟨hL,(h.lc i t cs hj).2⟩
  · exact h.own i h1 (by simpa using h2)
  · exact h.inj i k (by simpa using h1) (by simpa using h2) e
  · rw [st.block _ (Ne.symm ((h.ks x hx).2 j hjl))];exact (h.ks x hx).1
  · exact (h.ks x hx).2 i (by simpa using hi)

/-! ### effects -/
def isU32 (t:Nat):Bool:=Nat.beq t 136
def putD (d:Option Tmp) (v:SV) (fr:List SV):List SV:=match d with | some d=>fr.set d v | none=>fr
/-- the next state,each of its parts at hand -/
noncomputable def Sg.put {β:Type} (s:Sg) (d:Option Tmp) (v:SV) (k:Sg→β):β:=match s with
  | ⟨fr,bl,nu,nr,nz,ds⟩=>match d with
    | some d=>setF fr d v fun fr=>k ⟨fr,bl,nu,nr,nz,ds⟩
    | none=>k ⟨fr,bl,nu,nr,nz,ds⟩
theorem Sg.put_eq {β:Type} (s:Sg) (d:Option Tmp) (v:SV) (k:Sg→β):s.put d v k=k {s with fr:=putD d v s.fr}:=by
  obtain ⟨fr,bl,nu,nr,nz,ds⟩:=s
  cases d
  · rfl
  · simp only [Sg.put,setF_eq,Go.Proofs.YthhbibpaeonecaaGreatDoor.putD]
noncomputable def Sg.new {β:Type} (s:Sg) (t:Nat) (cs:List Cl) (k:Sg→β):β:=match s with
  | ⟨fr,bl,nu,nr,nz,ds⟩=>frcL cs fun cs=>appF bl [(t,cs)] fun bl=>k ⟨fr,bl,nu,nr,nz,ds⟩
theorem Sg.new_eq {β:Type} (s:Sg) (t:Nat) (cs:List Cl) (k:Sg→β):s.new t cs k=k (s.grow t cs):=by
  obtain ⟨fr,bl,nu,nr,nz,ds⟩:=s
  simp only [Sg.new,frcL_eq,appF_eq,Sg.grow]
noncomputable def Sg.sto {β:Type} (s:Sg) (j t:Nat) (cs:List Cl) (k:Sg→β):β:=match s with
  | ⟨fr,bl,nu,nr,nz,ds⟩=>frcL cs fun cs=>setF bl j (t,cs) fun bl=>k ⟨fr,bl,nu,nr,nz,ds⟩
theorem Sg.sto_eq {β:Type} (s:Sg) (j t:Nat) (cs:List Cl) (k:Sg→β):s.sto j t cs k=k {s with bl:=s.bl.set j (t,cs)}:=by
  obtain ⟨fr,bl,nu,nr,nz,ds⟩:=s
  simp only [Sg.sto,frcL_eq,setF_eq]
noncomputable def xNew (o:Oper) (s:Sg) (t:Nat) (cs:List Cl) (v:Cl):Option Sg:=
  if isU32 t||!Nat.ble s.nu s.bl.length then none else s.new t cs fun s=>s.put o.dst (.so (.vc v)) some
noncomputable def xSto (P:Program) (ro:Nat→Bool) (o:Oper) (s:Sg) (t:Nat):Option SV→Option SV→Option Sg
  | some (.so (.vc (.cp j off))),some v=>match v.cells,nth s.bl j with
    | some vs,some (tt,cs)=>match P.info? t with
      | some i=>if Nat.ble s.nu j&&!ro j&&Nat.beq i.size vs.length&&Nat.ble (off+vs.length) cs.length&&o.dst.isNone then s.sto j tt (writeL cs off vs) some else none
      | none=>none
    | _,_=>none
  | _,_=>none
def rpt (n sz:Nat) (cs:List Cl):List Cl:=(List.range n).map fun i=>cs.getD (i % sz) (.cv (.int .i64 0))
noncomputable def xMake (P:Program) (o:Oper) (s:Sg) (t:Nat):Option SV→Option SV→Option Sg
  | some (.so (.vc (.ci .i64 _ l1 h1))),some (.so (.vc (.ci .i64 _ l2 h2)))=>match lit1 l1 h1 100000,lit1 l2 h2 100000,P.underlying t with
    | some L,some C,some (.slice e)=>match P.info? e with
      | some i=>match zeroCls i.zero with
        | some cs=>if Nat.ble L C&&Nat.ble (i.bytes*C) 281474976710656&&Nat.beq cs.length i.size&&Nat.blt 0 i.size then xNew o s e (rpt (C*i.size) i.size cs) (.cs s.bl.length 0 L C) else none
        | none=>none
      | none=>none
    | _,_,_=>none
  | _,_=>none
/-- an effect that is no call -/
noncomputable def xEff (P:Program) (ro:Nat→Bool) (o:Oper) (s:Sg):Option Sg:=
  match o.op with
  | .alloc t=>match P.info? t with
    | some i=>match zeroCls i.zero with
      | some cs=>xNew o s t cs (.cp s.bl.length 0)
      | none=>none
    | none=>none
  | .box t x=>match ev s.fr x with
    | some v=>match v.cells with
      | some cs=>xNew o s t cs (.cp s.bl.length 0)
      | none=>none
    | none=>none
  | .store t x y=>xSto P ro o s t (ev s.fr x) (ev s.fr y)
  | .makeSlice t x y=>xMake P o s t (ev s.fr x) (ev s.fr y)
  | _=>none
theorem xNew_ok {o:Oper} {s s':Sg} {t:Nat} {cs:List Cl} {v:Cl} (h:xNew o s t cs v=some s'):t≠136∧s.nu≤s.bl.length∧s'={s.grow t cs with fr:=putD o.dst (.so (.vc v)) s.fr}:=by
  unfold xNew at h
  split at h
  · cases h
  · rename_i hc
    simp only [Bool.or_eq_true,Bool.not_eq_true',not_or] at hc
    rw [Sg.new_eq,Sg.put_eq] at h
    cases h
    refine ⟨fun e=>hc.1 (by subst e;rfl),?_,rfl⟩
    have h2:=hc.2
    simp only [Bool.not_eq_false,Nat.ble_eq] at h2
    exact h2
theorem Rep.putD {B:Base} {X:Env} {s:Sg} {w:World} (h:Rep B X s w) (d:Option Tmp) {v:SV} (hv:v.ok s.nn X w):Rep B X {s with fr:=Go.Proofs.YthhbibpaeonecaaGreatDoor.putD d v s.fr} w:=by
  cases d with
  | none=>exact h
  | some d=>exact h.set hv
theorem putD_act (X:Env) (fr:List SV) (d:Option Tmp) (v:SV):(actOf X fr).put d (v.den X)=actOf X (putD d v fr):=by
  cases d with
  | none=>rfl
  | some d=>exact put_act X fr d v
theorem one1_den {n:Nn} {X:Env} {w:World}:∀ {l:List Cl},okL n X w l→One1 (l.map (Cl.den X))
  | [],_=>trivial
  | c::l,h=>⟨Cl.one (h c (by simp)),one1_den fun x hx=>h x (by simp [hx])⟩
theorem xEff_ok {P:Program} {ro:Nat→Bool} {o:Oper} {s s':Sg} {B:Base} {X:Env} {w:World} {K:Act→World→Prop} {Q:Exit→Act→World→Prop} (h:xEff P ro o s=some s') (hR:Rep B X s w)
    (hK:∀ X' w',Rep B X' s' w'→Agr s.nn X X'→Stay ro X s w w'→K (actOf X' s'.fr) w'):o.wp P (actOf X s.fr) w K Q:=by
  have new:∀ (t:Nat) (cs:List Cl) (b:Nat) (w':World),okL s.nn X w cs→xNew o s t cs (.cp s.bl.length 0)=some s'→Gr w w'→Lc w' b (dnL X cs) t→w.heap.size≤b→K ((actOf X s.fr).put o.dst (.pointer (some ⟨b,0,none⟩))) w':=by
    intro t cs b w' hc hn g hL hb
    obtain ⟨ht,_,rfl⟩:=xNew_ok hn
    obtain ⟨h1,h2⟩:=hR.grow hc ht g hL hb
    have hp:(SV.so (.vc (.cp s.bl.length 0))).ok (s.grow t cs).nn (X.push s.bl.length b) w':=⟨blt_to (by simp [Sg.nn,Sg.grow]),trivial⟩
    have:=hK (X.push s.bl.length b) w' (h1.putD o.dst hp) h2 (.gr g)
    have e:(actOf X s.fr).put o.dst (.pointer (some ⟨b,0,none⟩))=actOf (X.push s.bl.length b) (putD o.dst (.so (.vc (.cp s.bl.length 0))) s.fr):=by
      rw [← putD_act,← actOf_agree h2 hR.fr]
      simp [SV.den,TV.den,Cl.den,Env.push]
    rw [e]
    exact this
  unfold xEff at h
  split at h
  · rename_i t hop
    split at h
    · rename_i i hi
      split at h
      · rename_i cs hz
        cases hzz:i.zero with
        | none=>rw [hzz] at hz;cases hz
        | some z=>
          rw [hzz] at hz
          have hc:=clsOf_ok (l:=z.cells.toList) hz s.nn X w
          refine eff_alloc t z (dnL X cs) o.dst rfl hop (by rw [hi];simp [hzz]) (by unfold dnL;rw [hc.1]) (fun b w' g hL hb=>new t cs b w' hc.2 h g hL hb)
      · cases h
    · cases h
  · rename_i t x hop
    split at h
    · rename_i v hv
      split at h
      · rename_i cs hc
        have he:=ev_ok hv hR.fr
        have hcs:=SV.cells_ok hc he.2
        exact eff_box t x (v.den X) (dnL X cs) o.dst rfl hop he.1 hcs.1 (fun b w' g hL hb=>new t cs b w' hcs.2 h g hL hb)
      · cases h
    · cases h
  · rename_i t x y hop
    unfold xSto at h
    split at h
    · rename_i j off v h1 h2
      split at h
      · rename_i vs tt cs h3 h4
        rw [nth_eq] at h4
        split at h
        · rename_i i h5
          split at h
          · rename_i hc
            simp only [Bool.and_eq_true,Bool.not_eq_true',Nat.ble_eq,Nat.beq_eq,Option.isNone_iff_eq_none] at hc
            obtain ⟨⟨⟨⟨c1,c2⟩,c3⟩,c4⟩,c5⟩:=hc
            rw [Sg.sto_eq] at h
            cases h
            have hx:=ev_ok h1 hR.fr
            have hy:=ev_ok h2 hR.fr
            have hv:=SV.cells_ok h3 hy.2
            have hL:=hR.lc j tt cs h4
            have hone:=one1_den hv.2
            refine eff_store t x y (X.E j) off (v.den X) (vs.map (Cl.den X)) (dnL X cs) (dnL X (writeL cs off vs)) tt hop c5 hx.1 hy.1 hv.1 hL.1 (by rw [h5];simp [c3]) (by simp [dnL];exact c4) hone (dnL_writeL c4) (fun w' st hL'=>?_)
            refine hK X w' (hR.store h4 c1 (okL_writeL (hR.bl j tt cs h4) hv.2 off) st hL') (.refl _ _) (fun b ds u hb hl=>st.lc hl (hb j (List.getElem?_eq_some_iff.1 h4).1 c2))
          · cases h
        · cases h
      · cases h
    · cases h
  · rename_i t x y hop
    unfold xMake at h
    split at h
    · rename_i z1 l1 h1 z2 l2 h2 e1 e2
      split at h
      · rename_i L C e q1 q2 hu
        split at h
        · rename_i i hi
          split at h
          · rename_i cs hz
            split at h
            · rename_i hc
              simp only [Bool.and_eq_true,Nat.ble_eq,Nat.beq_eq] at hc
              obtain ⟨⟨⟨c1,c2⟩,c3⟩,c4⟩:=hc
              have c4:=blt_of c4
              cases hzz:i.zero with
              | none=>rw [hzz] at hz;cases hz
              | some z=>
                rw [hzz] at hz
                have hcl:=clsOf_ok (l:=z.cells.toList) hz s.nn X w
                have hzc:z.cells=dnL X cs:=by unfold dnL;rw [hcl.1]
                have hx:=ev_ok e1 hR.fr
                have hy:=ev_ok e2 hR.fr
                have k1:=lit1_ok q1 hx.2.2
                have k2:=lit1_ok q2 hy.2.2
                have hxe:(actOf X s.fr).eval x=.int .i64 (L:Int):=by rw [hx.1,← k1.1];rfl
                have hye:(actOf X s.fr).eval y=.int .i64 (C:Int):=by rw [hy.1,← k2.1];rfl
                have hok:okL s.nn X w (rpt (C*i.size) i.size cs):=fun c hc=>by
                  obtain ⟨q,_,rfl⟩:=List.mem_map.1 hc
                  have hq:q % i.size<cs.length:=by rw [c3];exact Nat.mod_lt _ c4
                  rw [List.getD_eq_getElem?_getD,List.getElem?_eq_getElem hq]
                  exact hcl.2 _ (List.getElem_mem hq)
                have hcs:madeCells z.cells (C*i.size)=dnL X (rpt (C*i.size) i.size cs):=by
                  rw [hzc]
                  apply Array.ext
                  · simp [madeCells,dnL,rpt]
                  · intro q h3 h4
                    have hsz:(dnL X cs).size=i.size:=by simp [dnL,c3]
                    have hq:q % i.size<cs.length:=by rw [c3];exact Nat.mod_lt _ c4
                    simp only [madeCells,hsz]
                    simp [dnL,rpt,hq]
                refine eff_make t e z L C i.size _ o.dst rfl hop hxe hye hu (by rw [hi];simp [hzz,c2]) (decide_eq_true ⟨c1,by omega⟩) hcs (fun b w' g hL hb=>?_)
                obtain ⟨ht,_,rfl⟩:=xNew_ok h
                obtain ⟨g1,g2⟩:=hR.grow hok ht g hL hb
                have hp:(SV.so (.vc (.cs s.bl.length 0 L C))).ok (s.grow e (rpt (C*i.size) i.size cs)).nn (X.push s.bl.length b) w':=⟨blt_to (by simp [Sg.nn,Sg.grow]),trivial⟩
                have:=hK (X.push s.bl.length b) w' (g1.putD o.dst hp) g2 (.gr g)
                have e3:(actOf X s.fr).put o.dst (.slice (some ⟨b,0,none⟩) L C)=actOf (X.push s.bl.length b) (putD o.dst (.so (.vc (.cs s.bl.length 0 L C))) s.fr):=by
                  rw [← putD_act,← actOf_agree g2 hR.fr]
                  simp [SV.den,TV.den,Cl.den,Env.push]
                rw [e3]
                exact this
            · cases h
          · cases h
        · cases h
      · cases h
    · cases h
  · cases h
theorem xEff_bl {P:Program} {ro:Nat→Bool} {o:Oper} {s s':Sg} (h:xEff P ro o s=some s'):s.bl.length≤s'.bl.length∧∀ (i:Nat),i<s.bl.length→ro i=true→s'.bl[i]?=s.bl[i]?:=by
  have new:∀ {t:Nat} {cs:List Cl} {v:Cl},xNew o s t cs v=some s'→s.bl.length≤s'.bl.length∧∀ (i:Nat),i<s.bl.length→ro i=true→s'.bl[i]?=s.bl[i]?:=fun hn=>by
    obtain ⟨_,_,rfl⟩:=xNew_ok hn
    refine ⟨by simp [Sg.grow],fun i hi _=>?_⟩
    simp only [Sg.grow]
    rw [List.getElem?_append_left hi]
  unfold xEff at h
  split at h
  · split at h
    · split at h
      · exact new h
      · cases h
    · cases h
  · split at h
    · split at h
      · exact new h
      · cases h
    · cases h
  · unfold xSto at h
    split at h
    · split at h
      · split at h
        · split at h
          · rename_i j off v h1 h2 _ _ vs tt cs h3 h4 _ i h5 hc
            simp only [Bool.and_eq_true,Bool.not_eq_true'] at hc
            rw [Sg.sto_eq] at h
            cases h
            refine ⟨by simp,fun k hk hr=>?_⟩
            simp only
            rw [List.getElem?_set_ne]
            rintro rfl
            rw [hc.1.1.1.2] at hr;cases hr
          · cases h
        · cases h
      · cases h
    · cases h
  · unfold xMake at h
    split at h
    · split at h
      · split at h
        · split at h
          · split at h
            · exact new h
            · cases h
          · cases h
        · cases h
      · cases h
    · cases h
  · cases h
/-- what a run ends in:a value;one of two,by a Bool;an end behind a Bool that must be as said -/
inductive Lf where
  | ret (v:SV)
  | br (t:Bool) (a b:Lf)
  | as (t v:Bool) (a:Lf)
abbrev Rs:=Option Lf
def LOK (Post:SV→Prop):Lf→Prop
  | .ret v=>Post v
  | .br t a b=>(t=true→LOK Post a)∧(t=false→LOK Post b)
  | .as t v a=>t=v∧LOK Post a
def asL (t v:Bool):Rs→Rs
  | some a=>some (.as t v a)
  | none=>none
def brL (t:Bool):Rs→Rs→Rs
  | some a,some b=>some (.br t a b)
  | _,_=>none
theorem asL_some {t v:Bool} {a:Rs} {L:Lf} (h:asL t v a=some L):∃ x,a=some x∧L=.as t v x:=by
  unfold asL at h
  split at h
  · cases h;exact ⟨_,rfl,rfl⟩
  · cases h
theorem brL_some {t:Bool} {a b:Rs} {L:Lf} (h:brL t a b=some L):∃ x y,a=some x∧b=some y∧L=.br t x y:=by
  unfold brL at h
  split at h
  · cases h;exact ⟨_,_,rfl,rfl,rfl⟩
  · cases h
def Sg.pas (s:Sg) (d:Dt):Sg:=match s with
  | ⟨fr,bl,nu,nr,nz,_⟩=>⟨fr,bl,nu,nr,nz,d⟩
theorem Sg.pas_eq (s:Sg) (d:Dt):s.pas d={s with ds:=d}:=by cases s;rfl
def xSplit (t:Bool) (s:Sg) (k:Bool→Sg→Rs):Rs:=
  match s.ds with
  | .t d=>asL t true (k true (s.pas d))
  | .f d=>asL t false (k false (s.pas d))
  | .s a b=>brL t (k true (s.pas a)) (k false (s.pas b))
  | .c=>match t with
    | true=>k true (s.pas .c)
    | false=>k false (s.pas .c)
  | _=>some (.as t (!t) (.ret .su))
section
variable {P:Program} {Post:SV→Prop} {B:Base} {X:Env} {s:Sg} {w:World} {L:Lf}
theorem Rep.ds (h:Rep B X s w) (d:Dt):Rep B X {s with ds:=d} w:=⟨h.gr,h.ag,h.le,h.fr,h.bl,h.lc,h.own,h.inj,h.ks,h.kk⟩
theorem xSplit_ok {t:Bool} {k:Bool→Sg→Rs} (h:xSplit t s k=some L) (hL:LOK Post L):∃ v d L',t=v∧k v {s with ds:=d}=some L'∧LOK Post L':=by
  unfold xSplit at h
  simp only [Sg.pas_eq] at h
  split at h
  · obtain ⟨x,h1,rfl⟩:=asL_some h
    exact ⟨true,_,x,hL.1,h1,hL.2⟩
  · obtain ⟨x,h1,rfl⟩:=asL_some h
    exact ⟨false,_,x,hL.1,h1,hL.2⟩
  · obtain ⟨x,y,h1,h2,rfl⟩:=brL_some h
    cases t with
    | true=>exact ⟨true,_,x,rfl,h1,hL.1 rfl⟩
    | false=>exact ⟨false,_,y,rfl,h2,hL.2 rfl⟩
  · cases t with
    | true=>exact ⟨true,_,L,rfl,h,hL⟩
    | false=>exact ⟨false,_,L,rfl,h,hL⟩
  · cases h
    have:=hL.1
    cases t<;>cases this
/-- a value:a Bool that is not known is decided at once -/
def xVal (v:SV) (s:Sg) (k:SV→Sg→Rs):Rs:=
  match v with
  | .so (.vc (.cb t none))=>match s.ds with
    | .o d=>k v (s.pas d)
    | _=>xSplit t s fun u s=>k (.so (.vc (.cb t (some u)))) s
  | .so (.vc (.ci kd z lo hi))=>match s.ds with
    | .i l h u d=>if isL lo l&&isL l lo&&isL hi h&&isL h hi then asL (decide (z=u)) true (k (.so (.vc (.ci kd u u u))) (s.pas d)) else k v s
    | _=>k v s
  | v=>k v s
/-- the same but for what is assumed -/
structure Same (s s':Sg):Prop where
  fr:s'.fr=s.fr
  bl:s'.bl=s.bl
  nu:s'.nu=s.nu
  nr:s'.nr=s.nr
  nz:s'.nz=s.nz
theorem Same.nn {s s':Sg} (h:Same s s'):s'.nn=s.nn:=by unfold Sg.nn;rw [h.bl,h.nr,h.nz]
theorem Same.refl (s:Sg):Same s s:=⟨rfl,rfl,rfl,rfl,rfl⟩
theorem xVal_ok {v:SV} {k:SV→Sg→Rs} (h:xVal v s k=some L) (hL:LOK Post L) (hR:Rep B X s w) (hv:v.ok s.nn X w):
    ∃ v' s' L',k v' s'=some L'∧LOK Post L'∧Rep B X s' w∧Same s s'∧v'.den X=v.den X∧v'.ok s'.nn X w:=by
  unfold xVal at h
  split at h
  · rename_i t
    split at h
    · rw [Sg.pas_eq] at h
      exact ⟨_,_,L,h,hL,hR.ds _,⟨rfl,rfl,rfl,rfl,rfl⟩,rfl,hv⟩
    · obtain ⟨u,d,L',ht,hk,hL'⟩:=xSplit_ok h hL
      exact ⟨_,_,L',hk,hL',hR.ds d,⟨rfl,rfl,rfl,rfl,rfl⟩,rfl,rfl,fun v hv=>by cases hv;exact ht⟩
  · split at h
    · split at h
      · obtain ⟨x,h1,rfl⟩:=asL_some h
        obtain ⟨e,hL'⟩:=hL
        have e:=of_decide_eq_true e
        subst e
        rw [Sg.pas_eq] at h1
        exact ⟨_,_,x,h1,hL',hR.ds _,⟨rfl,rfl,rfl,rfl,rfl⟩,rfl,rfl,Int.le_refl _,Int.le_refl _⟩
      · exact ⟨_,s,L,h,hL,hR,.refl s,rfl,hv⟩
    · exact ⟨_,s,L,h,hL,hR,.refl s,rfl,hv⟩
  · exact ⟨v,s,L,h,hL,hR,.refl s,rfl,hv⟩
end

/-! ### an operation's guard -/
noncomputable def wantS (ops:Array Oper) (fr:List SV) (o:Oper):Option Bool:=
  match o.guard with
  | none=>some true
  | some (j,want)=>match (ops[j]?).bind (·.dst) with
    | none=>some false
    | some d=>match nth fr d with
      | some (.so (.vc (.cb _ (some v))))=>some (v==want)
      | some .su=>some false
      | _=>none
theorem wantS_ok {ops:Array Oper} {fr:List SV} {o:Oper} {v:Bool} (h:wantS ops fr o=some v) {n:Nn} {X:Env} {W:World} (hf:okF n X W fr):Region.wanted o (yielded ops (actOf X fr).tmps)=v:=by
  unfold wantS at h
  unfold Region.wanted
  split at h
  · rename_i hg;rw [hg];cases h;rfl
  · rename_i j want hg
    rw [hg]
    simp only [yielded]
    split at h
    · rename_i hd;rw [hd];cases h;rfl
    · rename_i d hd
      rw [hd]
      simp only [Option.bind_some]
      split at h
      · rename_i t u hs
        cases h
        rw [nth_eq] at hs
        have ht:t=u:=(hf _ (List.mem_of_getElem? hs)).2 u rfl
        have:(actOf X fr).tmps[d]?=some (.bool t):=by simp [actOf,hs,SV.den,TV.den,Cl.den]
        rw [this,ht]
        cases u<;>cases want<;>rfl
      · rename_i hs
        rw [nth_eq] at hs
        cases h
        have:(actOf X fr).tmps[d]?=some undef:=by simp [actOf,hs,SV.den]
        rw [this];rfl
      · cases h

/-! ### calls -/
noncomputable def evArgs (fr:List SV):List Operand→Option (List SV)
  | []=>some []
  | x::r=>match ev fr x,evArgs fr r with
    | some s,some l=>some (s::l)
    | _,_=>none
theorem evArgs_ok {n:Nn} {X:Env} {W:World} {fr:List SV} (hf:okF n X W fr):∀ {l:List Operand} {r:List SV},evArgs fr l=some r→l.map (actOf X fr).eval=r.map (SV.den X)∧okF n X W r
  | [],r,h=>by cases h;exact ⟨rfl,fun _ hc=>by cases hc⟩
  | x::l,r,h=>by
    unfold evArgs at h
    split at h
    · rename_i s r' h1 h2
      cases h
      have a:=ev_ok h1 hf
      have b:=evArgs_ok hf h2
      refine ⟨by rw [List.map_cons,List.map_cons,a.1,b.1],fun c hc=>?_⟩
      rcases List.mem_cons.1 hc with rfl | hc
      · exact a.2
      · exact b.2 c hc
    · cases h
/-- functions that may be called -/
def okCall (P:Program) (f:Nat):Bool:=match P.funcs[f]? with
  | some fn=>!(fn.name=="runtime.NumGoroutine")&&!fn.body.isNone
  | none=>false
noncomputable def xCall (lo hi:Nat) (call:FuncId→List SV→Sg→(SV→Sg→Rs)→Rs) (o:Oper) (s:Sg) (k:SV→Sg→Rs):Rs:=
  match o.op with
  | .call c=>match c.callee with
    | .value f=>match ev s.fr f,evArgs s.fr c.args.toList with
      | some (.so (.vc (.cf fn cps))),some l=>if Nat.ble lo fn&&Nat.blt fn hi then call fn (l++cps.map fun x=>.so (.vc (.cp x.1 x.2))) s k else none
      | _,_=>none
    | _=>none
  | _=>none
/-- all of l,perhaps more behind it -/
def Pre {α:Type} (l m:List α):Prop:=l.length≤m.length∧∀ i,i<l.length→m[i]?=l[i]?
theorem Pre.refl {α:Type} (l:List α):Pre l l:=⟨Nat.le_refl _,fun _ _=>rfl⟩
def CallOK (P:Program) (Post:SV→Prop) (B:Base) (call:FuncId→List SV→Sg→(SV→Sg→Rs)→Rs):Prop:=
  ∀ (X:Env) (s:Sg) (w:World) (f:FuncId) (args:List SV) (k:SV→Sg→Rs) (L:Lf),call f args s k=some L→LOK Post L→Rep B X s w→okF s.nn X w args→
    Calls P f (args.map (SV.den X)).toArray w fun e w'=>∃ v s' X' L',e=.returned (v.den X')∧Gr w w'∧Agr s.nn X X'∧Rep B X' s' w'∧v.ok s'.nn X' w'∧s'.fr=s.fr∧Pre s.bl s'.bl∧s'.nu=s.nu∧k v s'=some L'∧LOK Post L'
/-- what a step leaves as it was -/
structure Step (ro:Nat→Bool) (X:Env) (s:Sg) (w:World) (X':Env) (s':Sg) (w':World):Prop where
  ag:∀ i,i<s.bl.length→X.E i=X'.E i
  st:Stay ro X s w w'
  le:s.bl.length≤s'.bl.length
  keep:∀ (i:Nat),i<s.bl.length→ro i=true→s'.bl[i]?=s.bl[i]?
section
variable {P:Program} {Post:SV→Prop} {B:Base} {X:Env} {s:Sg} {w:World} {L:Lf} {lo hi:Nat} {call:FuncId→List SV→Sg→(SV→Sg→Rs)→Rs} {o:Oper} {K:Act→World→Prop} {Q:Exit→Act→World→Prop} {ro:Nat→Bool}
theorem run_enter {a:Act} {w:World} {c:Call} {f:Operand} {fn:Nat} {cv:Array Value} (hop:o.op=.call c) (hc:c.callee=.value f) (hf:a.eval f=.func (.func fn) #[] cv) (hok:okCall P fn=true):
    (execOp a.eval o).run P w=.ok (.enter fn ((c.args.map a.eval)++cv)) w:=by
  unfold okCall at hok
  cases hfn:P.funcs[fn]? with
  | none=>rw [hfn] at hok;cases hok
  | some g=>
    rw [hfn] at hok
    simp only [Bool.and_eq_true,Bool.not_eq_true'] at hok
    have h1:¬ g.name="runtime.NumGoroutine":=by simpa using hok.1
    have h2:¬ g.body=none:=fun e=>by rw [e] at hok;cases hok.2
    unfold execOp
    simp [hop,resolve,hc,hf,Deferred.ofValue,invoke,callFunc,hfn,h1,h2]
theorem xCall_ok {k:SV→Sg→Rs} (hC:CallOK P Post B call) (hcl:∀ f,lo≤f→f<hi→okCall P f=true) (h:xCall lo hi call o s k=some L) (hL:LOK Post L) (hR:Rep B X s w)
    (hK:∀ v s' X' w' L',Rep B X' s' w'→v.ok s'.nn X' w'→s'.fr=s.fr→Pre s.bl s'.bl→s'.nu=s.nu→Gr w w'→Agr s.nn X X'→k v s'=some L'→LOK Post L'→K ((actOf X' s'.fr).put o.dst (v.den X')) w'):o.wp P (actOf X s.fr) w K Q:=by
  unfold xCall at h
  split at h
  · rename_i c hop
    split at h
    · rename_i f hc
      split at h
      · rename_i fn cps l h1 h2
        split at h
        · rename_i hb
          simp only [Bool.and_eq_true,Nat.ble_eq] at hb
          have hf:=ev_ok h1 hR.fr
          have ha:=evArgs_ok hR.fr h2
          have hrun:=run_enter (P:=P) (o:=o) (w:=w) hop hc (hf.1.trans rfl) (hcl fn hb.1 (blt_of hb.2))
          have hargs:(c.args.map (actOf X s.fr).eval)++(cps.map X.ptr).toArray=((l++cps.map fun x=>SV.so (.vc (.cp x.1 x.2))).map (SV.den X)).toArray:=by
            rw [List.map_append,← ha.1,List.map_map]
            have:(c.args.map (actOf X s.fr).eval)=(c.args.toList.map (actOf X s.fr).eval).toArray:=by rw [← Array.toList_map,Array.toArray_toList]
            rw [this]
            simp only [List.append_toArray]
            rfl
          rw [hargs] at hrun
          have hok:okF s.nn X w (l++cps.map fun x=>SV.so (.vc (.cp x.1 x.2))):=fun c hc=>by
            rcases List.mem_append.1 hc with hc | hc
            · exact ha.2 c hc
            · obtain ⟨x,hx,rfl⟩:=List.mem_map.1 hc
              have:=hf.2.1
              simp only [Cl.lt,List.all_eq_true] at this
              exact ⟨this x hx,trivial⟩
          refine eff_call o.dst rfl hrun (hC X s w fn _ k L h hL hR hok) (fun e w' he=>?_)
          obtain ⟨v,s',X',L',rfl,hg,hag,hR',hv,e1,e2,e3,hk,hL'⟩:=he
          refine ⟨v.den X',rfl,?_⟩
          rw [actOf_agree hag hR.fr,← e1]
          exact hK v s' X' w' L' hR' hv e1 e2 e3 hg hag hk hL'
        · cases h
      · cases h
    · cases h
  · cases h
/-- an effect -/
noncomputable def xOp (P:Program) (lo hi:Nat) (call:FuncId→List SV→Sg→(SV→Sg→Rs)→Rs) (ro:Nat→Bool) (o:Oper) (s:Sg) (k:Sg→Rs):Rs:=
  match o.op with
  | .call _=>xCall lo hi call o s fun v s=>xVal v s fun v s=>s.put o.dst v k
  | _=>match xEff P ro o s with
    | some s=>k s
    | none=>none
theorem xOp_ok {k:Sg→Rs} (hC:CallOK P Post B call) (hcl:∀ f,lo≤f→f<hi→okCall P f=true) (h:xOp P lo hi call ro o s k=some L) (hL:LOK Post L) (hR:Rep B X s w)
    (hK:∀ s' X' w' L',Rep B X' s' w'→Step ro X s w X' s' w'→k s'=some L'→LOK Post L'→K (actOf X' s'.fr) w'):o.wp P (actOf X s.fr) w K Q:=by
  unfold xOp at h
  split at h
  · refine xCall_ok hC hcl h hL hR (fun v s' X' w' L' hR' hv e1 e2 e3 hg hag hk hL'=>?_)
    obtain ⟨v2,s2,L2,hk2,hL2,hR2,hs,hd,hv2⟩:=xVal_ok hk hL' hR' hv
    rw [Sg.put_eq] at hk2
    have:=hK _ X' w' L2 (hR2.putD o.dst hv2) ⟨fun i hi=>hag.E i hi,.gr hg,by show s.bl.length≤s2.bl.length;rw [hs.bl];exact e2.1,fun i hi _=>by show s2.bl[i]?=_;rw [hs.bl];exact e2.2 i hi⟩ hk2 hL2
    rw [← hd,putD_act,← hs.fr]
    exact this
  · split at h
    · rename_i s2 he
      refine xEff_ok he hR (fun X' w' hR' hag hst=>hK s2 X' w' L hR' ⟨fun i hi=>hag.E i hi,hst,?_,?_⟩ h hL)
      · have:=(xEff_bl he).1;exact this
      · exact (xEff_bl he).2
    · cases h
end
def isEff:Op→Bool
  | .alloc _ | .box _ _ | .store _ _ _ | .makeSlice _ _ _=>true
  | .call c=>match c.callee with
    | .value _=>true
    | _=>false
  | _=>false
abbrev CallT:=FuncId→List SV→Sg→(SV→Sg→Rs)→Rs
noncomputable def xVP (P:Program) (can:Nat→Bool) (o:Oper) (s:Sg) (k:Sg→Rs):Rs:=match xPure P can s.fr s.bl o with
  | some v=>xVal v s fun v s=>s.put o.dst v k
  | none=>none
noncomputable def xPlain (P:Program) (lo hi:Nat) (call:CallT) (ops:Array Oper):List Nat→Sg→(Sg→Rs)→Rs
  | [],s,k=>k s
  | i::r,s,k=>match nth ops.toList i with
    | none=>none
    | some o=>match wantS ops s.fr o with
      | some true=>if isEff o.op then xOp P lo hi call (fun _=>false) o s fun s=>xPlain P lo hi call ops r s k
        else xVP P (fun _=>true) o s fun s=>xPlain P lo hi call ops r s k
      | some false=>s.put o.dst .su fun s=>xPlain P lo hi call ops r s k
      | none=>none
noncomputable def xOrd (P:Program) (lo hi:Nat) (call:CallT) (can:Nat→Bool) (ops:Array Oper):List (Bool × Nat)→Sg→(Sg→Rs)→Rs
  | [],s,k=>k s
  | (b,i)::r,s,k=>match nth ops.toList i with
    | none=>none
    | some o=>match wantS ops s.fr o with
      | some true=>match b with
        | false=>xOp P lo hi call can o s fun s=>xOrd P lo hi call can ops r s k
        | true=>xVP P can o s fun s=>xOrd P lo hi call can ops r s k
      | some false=>s.put o.dst .su fun s=>xOrd P lo hi call can ops r s k
      | none=>none
section
variable {P:Program} {Post:SV→Prop} {B:Base} {lo hi:Nat} {call:CallT} {ops:Array Oper} {Q:Exit→Act→World→Prop}
theorem put_undef (X:Env) (fr:List SV) (d:Option Tmp):(actOf X fr).put d undef=actOf X (putD d .su fr):=putD_act X fr d .su
theorem xPlain_ok (hC:CallOK P Post B call) (hcl:∀ f,lo≤f→f<hi→okCall P f=true):∀ (l:List Nat) {k:Sg→Rs} {X:Env} {s:Sg} {w:World} {L:Lf},xPlain P lo hi call ops l s k=some L→LOK Post L→Rep B X s w→
    (∀ s' X' w' L',k s'=some L'→LOK Post L'→Rep B X' s' w'→Q .normal (actOf X' s'.fr) w')→wpOps P ops Q l (actOf X s.fr) w
  | [],k,X,s,w,L,h,hL,hR,hQ=>hQ s X w L h hL hR
  | i::r,k,X,s,w,L,h,hL,hR,hQ=>by
    unfold xPlain at h
    split at h
    · cases h
    · rename_i o ho
      rw [nth_eq,Array.getElem?_toList] at ho
      split at h
      · rename_i hw
        have hw':=wantS_ok hw hR.fr
        split at h
        · rw [wpOps_cons]
          unfold wpOp
          simp only [ho,hw',if_true]
          exact .inl (xOp_ok hC hcl h hL hR fun s' X' w' L' hR' _ hk hL'=>xPlain_ok hC hcl r hk hL' hR' hQ)
        · unfold xVP at h
          split at h
          · rename_i v hv
            have hp:=xPure_ok (V:=w) hv hR.fr hR.bl (fun i t cs _ hi=>(hR.lc i t cs hi).1) hR.kx
            obtain ⟨v2,s2,L2,hk2,hL2,hR2,hs,hd,hv2⟩:=xVal_ok h hL hR hp.2
            rw [Sg.put_eq] at hk2
            refine sq_val o.dst (v.den X) ho rfl hw' hp.1 ?_
            rw [← hd,putD_act,← hs.fr]
            exact xPlain_ok hC hcl r hk2 hL2 (hR2.putD o.dst hv2) hQ
          · cases h
      · rename_i hw
        rw [Sg.put_eq] at h
        refine sq_skip o.dst ho rfl (wantS_ok hw hR.fr) ?_
        rw [put_undef]
        exact xPlain_ok hC hcl r h hL (hR.putD o.dst (v:=.su) trivial) hQ
      · cases h

/-- the blocks that may be read are as they were at the region's start -/
def Held (can:Nat→Bool) (s0:Sg) (X0 X:Env) (s:Sg):Prop:=∀ i,can i=true→i<s.bl.length∧s.bl[i]?=s0.bl[i]?∧X.E i=X0.E i
def SH (B:Base) (can:Nat→Bool) (s0:Sg) (X0:Env) (w:World):Prop:=(∀ x ∈ B.X.K,w.heap[x.1]?=some x.2)∧∀ (i:Nat) t cs,can i=true→s0.bl[i]?=some (t,cs)→Lc w (X0.E i) (dnL X0 cs) t
theorem SH.kx {can:Nat→Bool} {s0:Sg} {X0 X:Env} {s:Sg} {w V:World} (h:SH B can s0 X0 V) (hR:Rep B X s w):∀ x ∈ X.K,V.heap[x.1]?=some x.2:=fun x hx=>h.1 x (hR.ag.k ▸ hx)
theorem SH.gr {can:Nat→Bool} {s0:Sg} {X0:Env} {w w':World} (h:SH B can s0 X0 w) (g:Gr w w'):SH B can s0 X0 w':=⟨fun x hx=>g.heap (h.1 x hx),fun i t cs hi hx=>(h.2 i t cs hi hx).gr g⟩
theorem Held.load {can:Nat→Bool} {s0 s:Sg} {X0 X:Env} {w V:World} (hH:Held can s0 X0 X s) (hR:Rep B X s w) (hw:SH B can s0 X0 w) (hV:SH B can s0 X0 V):
    ∀ (i:Nat) t cs,can i=true→s.bl[i]?=some (t,cs)→Lc V (X.E i) (dnL X cs) t:=fun i t cs hi hx=>by
  obtain ⟨h1,h2,h3⟩:=hH i hi
  rw [h2] at hx
  have a:=hw.2 i t cs hi hx
  have b:=hV.2 i t cs hi hx
  have c:=(hR.lc i t cs (h2.trans hx)).1
  rw [h3] at c ⊢
  unfold Lc at a b c ⊢
  rw [a] at c
  simp only [Option.some.injEq,Obj.cells.injEq] at c
  rw [b,c.1]
theorem Held.step {can:Nat→Bool} {s0 s s':Sg} {X0 X X':Env} {w w':World} (hH:Held can s0 X0 X s) (hR:Rep B X s w) (hs:Step can X s w X' s' w') (hw:SH B can s0 X0 w) (hR':Rep B X' s' w'):Held can s0 X0 X' s'∧SH B can s0 X0 w':=by
  refine ⟨fun i hi=>?_,hR'.kb,fun i t cs hi hx=>?_⟩
  · obtain ⟨h1,h2,h3⟩:=hH i hi
    exact ⟨Nat.lt_of_lt_of_le h1 hs.le,(hs.keep i h1 hi).trans h2,(hs.ag i h1).symm.trans h3⟩
  · obtain ⟨h1,h2,h3⟩:=hH i hi
    refine hs.st _ _ _ (fun j hj hc e=>?_) (hw.2 i t cs hi hx)
    rw [← h3] at e
    have:=hR.inj i j h1 hj e
    subst this
    rw [hi] at hc;cases hc
theorem xOrd_ok (hC:CallOK P Post B call) (hcl:∀ f,lo≤f→f<hi→okCall P f=true) {can:Nat→Bool} {s0:Sg} {X0:Env}:∀ (l:List (Bool × Nat)) {k:Sg→Rs} {X:Env} {s:Sg} {w:World} {L:Lf},
    xOrd P lo hi call can ops l s k=some L→LOK Post L→Rep B X s w→Held can s0 X0 X s→SH B can s0 X0 w→
    (∀ s' X' w' L',k s'=some L'→LOK Post L'→Rep B X' s' w'→Q .normal (actOf X' s'.fr) w')→wpOrd P ops Q (SH B can s0 X0) l (actOf X s.fr) w
  | [],k,X,s,w,L,h,hL,hR,_,_,hQ=>hQ s X w L h hL hR
  | (b,i)::r,k,X,s,w,L,h,hL,hR,hH,hS,hQ=>by
    unfold xOrd at h
    split at h
    · cases h
    · rename_i o ho
      rw [nth_eq,Array.getElem?_toList] at ho
      split at h
      · rename_i hw
        have hw':=wantS_ok hw hR.fr
        split at h
        · refine oe ?_ ho hw'
          refine xOp_ok hC hcl h hL hR fun s' X' w' L' hR' hst hk hL'=>?_
          obtain ⟨h1,h2⟩:=hH.step hR hst hS hR'
          exact ⟨h2,xOrd_ok hC hcl r hk hL' hR' h1 h2 hQ⟩
        · unfold xVP at h
          split at h
          · rename_i v hv
            have hp:=fun V (hV:SH B can s0 X0 V)=>xPure_ok (V:=V) hv hR.fr hR.bl (hH.load hR hS hV) (hV.kx hR)
            obtain ⟨v2,s2,L2,hk2,hL2,hR2,hs,hd,hv2⟩:=xVal_ok h hL hR (hp w hS).2
            rw [Sg.put_eq] at hk2
            refine ord_pureg o.dst (v.den X) ho rfl hw' (fun V hV=>(hp V hV).1) ?_
            rw [← hd,putD_act,← hs.fr]
            exact xOrd_ok hC hcl r hk2 hL2 (hR2.putD o.dst hv2) (fun i hi=>by have:=hH i hi;rw [← hs.bl] at this;exact this) hS hQ
          · cases h
      · rename_i hw
        rw [Sg.put_eq] at h
        have hw':=wantS_ok hw hR.fr
        cases b with
        | true=>
          refine ord_skip o.dst ho rfl hw' ?_
          rw [put_undef]
          exact xOrd_ok hC hcl r h hL (hR.putD o.dst (v:=.su) trivial) hH hS hQ
        | false=>
          refine ord_effskip o.dst ho rfl hw' hS ?_
          rw [put_undef]
          exact xOrd_ok hC hcl r h hL (hR.putD o.dst (v:=.su) trivial) hH hS hQ
      · cases h
end
inductive Ex where
  | n
  | x (id:Nat)
  | r
abbrev KT:=Ex→Sg→Rs
/-- how a region that draws its order is run:the order;new variables that float between calls;the slots whose blocks are stored into -/
inductive Ent where
  | ord (l:List (Bool × Nat)) (bs:List Nat)
  | ort (l:List (Bool × Nat)) (bs:List Nat) (hs:List (List Nat × Nat))
  | flo (l:List (Bool × Nat)) (fl:List (Nat × Nat × Nat)) (tl:List (Bool × Nat)) (bs:List Nat)
  | lp (t:Sg→KT→Rs)
def zeroA (P:Program) (t:Nat):Array Value:=match P.info? t with
  | some i=>match i.zero with
    | some z=>z.cells
    | none=>#[]
  | none=>#[]
def okZ (P:Program) (t:Nat):Bool:=match P.info? t with
  | some i=>i.zero.isSome
  | none=>false
theorem okZ_ok {P:Program} {t:Nat} (h:okZ P t=true) (w:World):(Instr.alloc t true (.tuple #[])).run P w=.ok (.pointer (some ⟨w.heap.size,0,none⟩)) (w.alloc (.cells (zeroA P t) t)):=by
  unfold okZ at h
  cases hi:P.info? t with
  | none=>rw [hi] at h;cases h
  | some i=>
    rw [hi] at h
    obtain ⟨z,hz⟩:=Option.isSome_iff_exists.1 h
    exact alloc_zero (P:=P) (z:=z) (by rw [hi];simp [hz]) (by unfold zeroA;simp only [hi,hz]) w
def flOf (P:Program) (x:Nat × Nat × Nat):Fl:=⟨x.1,x.2.1,x.2.2,zeroA P x.2.2⟩
def okEnt (P:Program) (ops:Array Oper):Ent→Bool
  | .ord l _=>Region.noSelect ops&&okOrd ops l (Array.replicate ops.size false)&&Nat.ble l.length ops.size
  | .ort l _ hs=>Region.noSelect ops&&okTill ops (hs.map (·.1)) l (Array.replicate ops.size false)&&Nat.ble l.length ops.size
  | .flo l fl tl _=>Region.noSelect ops&&(fl.all fun x=>okZ P x.2.2)&&okFlo ops (fl.map (flOf P)) tl l (Array.replicate ops.size false)&&okAp ops (fl.map (flOf P)) l&&okAl ops (fl.map (flOf P))&&Nat.ble (l.length+(fl.map (flOf P)).length+tl.length) ops.size
  | .lp _=>false
def lookE:Nat→List (Nat × Ent)→Option Ent
  | _,[]=>none
  | i,(j,e)::r=>if Nat.beq i j then some e else lookE i r
/-- a loop's number:that of its first region -/
def lkey:Code→Nat
  | .region id _ _=>100000+id
  | .seq a _=>lkey a
  | .cond _ a _=>lkey a
  | .block _ a=>lkey a
  | .loop a=>lkey a
  | _=>0
def codeOK (P:Program) (es:List (Nat × Ent)):Code→Bool
  | .region id ops true=>match lookE id es with
    | some e=>okEnt P ops e
    | none=>false
  | .seq a b=>codeOK P es a&&codeOK P es b
  | .cond _ a b=>codeOK P es a&&codeOK P es b
  | .block _ a=>codeOK P es a
  | .loop a=>match lookE (lkey a) es with
    | some (.lp _)=>true
    | _=>codeOK P es a
  | _=>true
noncomputable def inB (bs:List Nat) (fr:List SV) (j:Nat):Bool:=bs.any fun t=>match nth fr t with
  | some (.so (.vc (.cp i _))) | some (.so (.vc (.cs i _ _ _)))=>Nat.beq i j
  | _=>false
noncomputable def canR (bs:List Nat) (fr:List SV) (n:Nat) (j:Nat):Bool:=Nat.blt j n&&!inB bs fr j
/-- calls and what only reads,before the new variables are there -/
noncomputable def xFl (P:Program) (lo hi:Nat) (call:CallT) (can:Nat→Bool) (ops:Array Oper):List (Bool × Nat)→Sg→(Sg→Rs)→Rs
  | [],s,k=>k s
  | (b,i)::r,s,k=>match nth ops.toList i with
    | none=>none
    | some o=>match wantS ops s.fr o with
      | some true=>match b with
        | false=>xCall lo hi call o s fun v s=>xVal v s fun v s=>s.put o.dst v fun s=>xFl P lo hi call can ops r s k
        | true=>xVP P can o s fun s=>xFl P lo hi call can ops r s k
      | _=>none
noncomputable def addFl (P:Program):List (Nat × Nat × Nat)→Sg→Option Sg
  | [],s=>some s
  | (_,d,t)::r,s=>match P.info? t with
    | some i=>match zeroCls i.zero with
      | some cs=>if isU32 t then none else addFl P r {s with bl:=s.bl++[(t,cs)],fr:=s.fr.set d (.so (.vc (.cp s.bl.length 0)))}
      | none=>none
    | none=>none
noncomputable def blkOf (fr:List SV) (t:Nat):Nat:=match nth fr t with
  | some (.so (.vc (.cp i _))) | some (.so (.vc (.cs i _ _ _)))=>i
  | _=>1000000
noncomputable def xOrt (P:Program) (lo hi:Nat) (call:CallT) (can:Nat→Bool) (hs:List (List Nat × Nat)) (ops:Array Oper):List (Bool × Nat)→Array Bool→Sg→(Sg→Rs)→Rs
  | [],_,s,k=>k s
  | (b,i)::r,ls,s,k=>match nth ops.toList i with
    | none=>none
    | some o=>match wantS ops s.fr o with
      | some true=>match b with
        | false=>xOp P lo hi call (fun j=>can j||hs.any fun e=>Nat.beq e.2 j&&!e.1.contains i) o s fun s=>xOrt P lo hi call can hs ops r (ls.setIfInBounds i true) s k
        | true=>xVP P (fun j=>can j||hs.any fun e=>Nat.beq e.2 j&&fresh ls e.1&&allWait ops i e.1) o s fun s=>xOrt P lo hi call can hs ops r (ls.setIfInBounds i true) s k
      | some false=>s.put o.dst .su fun s=>xOrt P lo hi call can hs ops r (ls.setIfInBounds i true) s k
      | none=>none
noncomputable def xDraw (P:Program) (lo hi:Nat) (call:CallT) (ops:Array Oper) (e:Ent) (s:Sg) (k:Sg→Rs):Rs:=
  match e with
  | .ord l bs=>xOrd P lo hi call (canR bs s.fr s.bl.length) ops l s k
  | .ort l bs hs=>if (hs.map fun e=>(e.1,blkOf s.fr e.2)).all fun e=>Nat.blt e.2 s.bl.length then xOrt P lo hi call (canR bs s.fr s.bl.length) (hs.map fun e=>(e.1,blkOf s.fr e.2)) ops l (Array.replicate ops.size false) s k else none
  | .flo l fl tl bs=>xFl P lo hi call (canR bs s.fr s.bl.length) ops l s fun s'=>if Nat.beq s'.bl.length s.bl.length then (match addFl P fl s' with
    | some s2=>xOrd P lo hi call (canR bs s.fr s.bl.length) ops tl s2 k
    | none=>none) else none
  | .lp _=>none
section
variable {P:Program} {Post:SV→Prop} {B:Base} {lo hi:Nat} {call:CallT} {ops:Array Oper} {Q:Exit→Act→World→Prop}
theorem xFl_ok (hC:CallOK P Post B call) (hcl:∀ f,lo≤f→f<hi→okCall P f=true) {can:Nat→Bool} {s0:Sg} {X0:Env} {fin:Act→World→Prop}:∀ (l:List (Bool × Nat)) {k:Sg→Rs} {X:Env} {s:Sg} {w:World} {L:Lf},
    xFl P lo hi call can ops l s k=some L→LOK Post L→Rep B X s w→Held can s0 X0 X s→SH B can s0 X0 w→
    (∀ s' X' w' L',k s'=some L'→LOK Post L'→Rep B X' s' w'→Held can s0 X0 X' s'→SH B can s0 X0 w'→Gr w w'→s.bl.length≤s'.bl.length∧(∀ i,i<s.bl.length→X'.E i=X.E i)→fin (actOf X' s'.fr) w')→
      wpFlo P ops Q (SH B can s0 X0) fin l (actOf X s.fr) w
  | [],k,X,s,w,L,h,hL,hR,hH,hS,hQ=>fun w1 g hS1=>hQ s X w1 L h hL (hR.to g) hH hS1 g ⟨Nat.le_refl _,fun _ _=>rfl⟩
  | (b,i)::r,k,X,s,w,L,h,hL,hR,hH,hS,hQ=>by
    unfold xFl at h
    split at h
    · cases h
    · rename_i o ho
      rw [nth_eq,Array.getElem?_toList] at ho
      split at h
      · rename_i hw
        have hw':=wantS_ok hw hR.fr
        split at h
        · intro w1 g1 hS1
          unfold wpOp
          simp only [ho,hw',if_true]
          refine .inl (xCall_ok hC hcl h hL (hR.to g1) fun v s' X' w' L' hR' hv e1 e2 e3 hg hag hk hL'=>?_)
          obtain ⟨v2,s2,L2,hk2,hL2,hR2,hs,hd,hv2⟩:=xVal_ok hk hL' hR' hv
          rw [Sg.put_eq] at hk2
          have hbl:Pre s.bl s2.bl:=by rw [hs.bl];exact e2
          have hH':Held can s0 X0 X' {s2 with fr:=putD o.dst v2 s2.fr}:=fun i hi=>by
            obtain ⟨a1,a2,a3⟩:=hH i hi
            exact ⟨Nat.lt_of_lt_of_le a1 hbl.1,(hbl.2 i a1).trans a2,(hag.E i a1).symm.trans a3⟩
          refine ⟨hg,hS1.gr hg,?_⟩
          rw [← hd,putD_act,← hs.fr]
          refine xFl_ok hC hcl r hk2 hL2 (hR2.putD o.dst hv2) hH' (hS1.gr hg) fun s3 X3 w3 L3 a b c d e f g=>?_
          refine hQ s3 X3 w3 L3 a b c d e (g1.trans (hg.trans f)) ⟨Nat.le_trans hbl.1 g.1,fun i hi=>(g.2 i (Nat.lt_of_lt_of_le hi hbl.1)).trans (hag.E i hi).symm⟩
        · unfold xVP at h
          split at h
          · rename_i v hv
            have hp:=fun V (hV:SH B can s0 X0 V)=>xPure_ok (V:=V) hv hR.fr hR.bl (hH.load hR hS hV) (hV.kx hR)
            obtain ⟨v2,s2,L2,hk2,hL2,hR2,hs,hd,hv2⟩:=xVal_ok h hL hR (hp w hS).2
            rw [Sg.put_eq] at hk2
            refine flo_pureg o.dst (v.den X) ho rfl hw' (fun V hV=>(hp V hV).1) ?_
            rw [← hd,putD_act,← hs.fr]
            refine xFl_ok hC hcl r hk2 hL2 (hR2.putD o.dst hv2) (fun i hi=>by have:=hH i hi;rw [← hs.bl] at this;exact this) hS fun s3 X3 w3 L3 a b c d e f g=>?_
            exact hQ s3 X3 w3 L3 a b c d e f ⟨by have:=g.1;simpa [hs.bl] using this,fun i hi=>g.2 i (by simpa [hs.bl] using hi)⟩
          · cases h
      · cases h
theorem zeroA_of {t:Nat} {i:TypeInfo} {cs:List Cl} (hi:P.info? t=some i) (hz:zeroCls i.zero=some cs) (n:Nn) (X:Env) (w:World):
    zeroA P t=dnL X cs∧okL n X w cs∧∃ z,i.zero=some z∧z.cells=dnL X cs:=by
  cases hzz:i.zero with
  | none=>rw [hzz] at hz;cases hz
  | some z=>
    rw [hzz] at hz
    have hc:=clsOf_ok (l:=z.cells.toList) hz n X w
    have:z.cells=dnL X cs:=by unfold dnL;rw [hc.1]
    exact ⟨by unfold zeroA;rw [hi];simp only [hzz];exact this,hc.2,z,rfl,this⟩
theorem addFl_ok {ps:Nat→Nat} {N:Nat}:∀ {fl:List (Nat × Nat × Nat)} {X:Env} {s s':Sg} {w:World},addFl P fl s=some s'→Rep B X s w→N≤s.bl.length→
    (∀ f ∈ fl.map (flOf P),w.heap[ps f.op]?=some (.cells f.zero f.ty)∧B.w.heap.size≤ps f.op∧(∀ i,i<s.bl.length→X.E i≠ps f.op)∧∀ x ∈ B.ks,ps f.op≠x.1)→((fl.map (flOf P)).map fun f=>ps f.op).Nodup→
    ∃ X',Rep B X' s' w∧(fl.map (flOf P)).foldl (putFl ps) (actOf X s.fr)=actOf X' s'.fr∧s.bl.length≤s'.bl.length∧(∀ i,i<N→X'.E i=X.E i)∧(∀ (i:Nat),i<N→s'.bl[i]?=s.bl[i]?)
  | [],X,s,s',w,h,hR,_,_,_=>by cases h;exact ⟨X,hR,rfl,Nat.le_refl _,fun _ _=>rfl,fun _ _=>rfl⟩
  | (o,d,t)::r,X,s,s',w,h,hR,hN,hf,hn=>by
    unfold addFl at h
    split at h
    · rename_i i hi
      split at h
      · rename_i cs hz
        split at h
        · cases h
        · rename_i hu
          have ht:t≠136:=fun e=>hu (by subst e;rfl)
          obtain ⟨h1,h2,_⟩:=zeroA_of hi hz s.nn X w
          obtain ⟨f1,f2,f3,f4⟩:=hf (flOf P (o,d,t)) (by simp)
          have f1':Lc w (ps o) (dnL X cs) t:=by rw [← h1];exact f1
          obtain ⟨g1,g2⟩:=hR.add h2 ht (Gr.refl w) f1' f2 f3 f4
          have hp:(SV.so (.vc (.cp s.bl.length 0))).ok (s.grow t cs).nn (X.push s.bl.length (ps o)) w:=⟨blt_to (by simp [Sg.nn,Sg.grow]),trivial⟩
          simp only [List.map_cons,List.nodup_cons] at hn
          have hlen:(s.grow t cs).bl.length=s.bl.length+1:=by simp [Sg.grow]
          obtain ⟨X',e1,e2,e3,e4,e5⟩:=addFl_ok (N:=N) h (g1.set (d:=d) hp) (by simp;omega) (fun f hf'=>by
            obtain ⟨a1,a2,a3,a4⟩:=hf f (by simp only [List.map_cons];exact List.mem_cons_of_mem _ hf')
            refine ⟨a1,a2,fun j hj=>?_,a4⟩
            simp only [List.length_append,List.length_cons,List.length_nil] at hj
            rcases Nat.lt_or_ge j s.bl.length with hj' | hj'
            · rw [← g2.E j hj'];exact a3 j hj'
            · obtain rfl:j=s.bl.length:=by omega
              simp only [Env.push,if_true]
              exact fun e=>hn.1 (by rw [show ps (flOf P (o,d,t)).op=ps o from rfl,e];exact List.mem_map.2 ⟨f,hf',rfl⟩)) hn.2
          refine ⟨X',e1,?_,?_,fun i hi=>(e4 i hi).trans (g2.E i (Nat.lt_of_lt_of_le hi hN)).symm,fun i hi=>(e5 i hi).trans ?_⟩
          · rw [List.map_cons,List.foldl_cons,← e2]
            congr 1
            show (actOf X s.fr).put (some d) (.pointer (some ⟨ps o,0,none⟩))=_
            rw [actOf_agree g2 hR.fr,← put_act]
            simp [SV.den,TV.den,Cl.den,Env.push]
          · simp at e3;omega
          · simp only
            rw [List.getElem?_append_left (Nat.lt_of_lt_of_le hi hN)]
      · cases h
    · cases h
/-- what is held of a variable that the region turns at its end -/
def PH (s0:Sg) (X0:Env) (j:Nat) (w:World):Prop:=∀ t cs,s0.bl[j]?=some (t,cs)→Lc w (X0.E j) (dnL X0 cs) t
def HeldT (ls:Array Bool) (hs:List (List Nat × Nat)) (s0:Sg) (X0 X:Env) (s:Sg) (w:World):Prop:=∀ e ∈ hs,fresh ls e.1=true→e.2<s.bl.length∧s.bl[e.2]?=s0.bl[e.2]?∧X.E e.2=X0.E e.2∧PH s0 X0 e.2 w
def HSof (hs:List (List Nat × Nat)) (s0:Sg) (X0:Env):List (List Nat × (World→Prop)):=hs.map fun e=>(e.1,PH s0 X0 e.2)
theorem heldAll_iff {f:List Nat→Bool} {s0:Sg} {X0:Env} {w:World}:∀ {hs:List (List Nat × Nat)},heldAll f (HSof hs s0 X0) w↔∀ e ∈ hs,f e.1=true→PH s0 X0 e.2 w
  | []=>⟨fun _ _ h=>(by cases h),fun _=>trivial⟩
  | e::hs=>by
    have ih:=heldAll_iff (f:=f) (s0:=s0) (X0:=X0) (w:=w) (hs:=hs)
    constructor
    · intro h x hx hf
      rcases List.mem_cons.1 hx with rfl | hx
      · exact h.1 hf
      · exact ih.1 h.2 x hx hf
    · exact fun h=>⟨h e (by simp),ih.2 fun x hx=>h x (by simp [hx])⟩
theorem fresh_un {ls:Array Bool} {i:Nat} {TL:List Nat} (h:fresh (ls.setIfInBounds i true) TL=true):i ∉ TL∧fresh ls TL=true:=by
  have hn:i ∉ TL:=fun hi=>by
    have:=List.all_eq_true.1 h i hi
    simp only [Bool.not_eq_true'] at this
    rcases Nat.lt_or_ge i ls.size with h' | h'
    · simp [h'] at this
    · rw [show (ls.setIfInBounds i true).getD i true=true by simp [Array.getD]] at this;cases this
  exact ⟨hn,by rw [← fresh_set hn];exact h⟩
theorem load2 {s0 s:Sg} {X0 X:Env} {w V:World} {j:Nat} (hR:Rep B X s w) (h:j<s.bl.length∧s.bl[j]?=s0.bl[j]?∧X.E j=X0.E j) (hw:PH s0 X0 j w) (hV:PH s0 X0 j V):∀ t cs,s.bl[j]?=some (t,cs)→Lc V (X.E j) (dnL X cs) t:=fun t cs hx=>by
  obtain ⟨h1,h2,h3⟩:=h
  rw [h2] at hx
  have a:=hw t cs hx
  have b:=hV t cs hx
  have c:=(hR.lc j t cs (h2.trans hx)).1
  rw [h3] at c ⊢
  unfold Lc at a b c ⊢
  rw [a] at c
  simp only [Option.some.injEq,Obj.cells.injEq] at c
  rw [b,c.1]
theorem xOrt_ok (hC:CallOK P Post B call) (hcl:∀ f,lo≤f→f<hi→okCall P f=true) {can:Nat→Bool} {hs:List (List Nat × Nat)} {s0:Sg} {X0:Env}:∀ (l:List (Bool × Nat)) {ls:Array Bool} {k:Sg→Rs} {X:Env} {s:Sg} {w:World} {L:Lf},
    xOrt P lo hi call can hs ops l ls s k=some L→LOK Post L→Rep B X s w→Held can s0 X0 X s→SH B can s0 X0 w→HeldT ls hs s0 X0 X s w→
    (∀ s' X' w' L',k s'=some L'→LOK Post L'→Rep B X' s' w'→Q .normal (actOf X' s'.fr) w')→wpOrt P ops Q (SH B can s0 X0) (HSof hs s0 X0) l ls (actOf X s.fr) w
  | [],_,k,X,s,w,L,h,hL,hR,_,_,_,hQ=>hQ s X w L h hL hR
  | (b,i)::r,ls,k,X,s,w,L,h,hL,hR,hH,hS,hT,hQ=>by
    unfold xOrt at h
    have unset:∀ {X:Env} {s:Sg},HeldT ls hs s0 X0 X s w→HeldT (ls.setIfInBounds i true) hs s0 X0 X s w:=fun h e he hf=>h e he (fresh_un hf).2
    split at h
    · cases h
    · rename_i o ho
      rw [nth_eq,Array.getElem?_toList] at ho
      split at h
      · rename_i hw
        have hw':=wantS_ok hw hR.fr
        split at h
        · refine te ?_ ho hw'
          refine xOp_ok hC hcl h hL hR fun s' X' w' L' hR' hst hk hL'=>?_
          have hc:∀ {j},can j=true→(can j||hs.any fun e=>Nat.beq e.2 j&&!e.1.contains i)=true:=fun h=>by rw [h];rfl
          have hst':Step can X s w X' s' w':=⟨hst.ag,fun b cs t hb=>hst.st b cs t fun j hj hr=>hb j hj (by
            simp only [Bool.or_eq_false_iff] at hr;exact hr.1),hst.le,fun j hj hr=>hst.keep j hj (hc hr)⟩
          obtain ⟨h1,h2⟩:=hH.step hR hst' hS hR'
          have h3:HeldT (ls.setIfInBounds i true) hs s0 X0 X' s' w':=fun e he hf=>by
            obtain ⟨f1,f2⟩:=fresh_un hf
            obtain ⟨a1,a2,a3,a4⟩:=hT e he f2
            have hro:(can e.2||hs.any fun e'=>Nat.beq e'.2 e.2&&!e'.1.contains i)=true:=by
              rw [Bool.or_eq_true]
              refine .inr (List.any_eq_true.2 ⟨e,he,?_⟩)
              simp [f1]
            refine ⟨Nat.lt_of_lt_of_le a1 hst.le,(hst.keep e.2 a1 hro).trans a2,(hst.ag e.2 a1).symm.trans a3,fun t cs hx=>?_⟩
            refine hst.st _ _ _ (fun j hj hc' eq=>?_) (a4 t cs hx)
            rw [← a3] at eq
            have:=hR.inj e.2 j a1 hj eq
            subst this
            rw [hro] at hc';cases hc'
          exact ⟨h2,heldAll_iff.2 fun e he hf=>(h3 e he hf).2.2.2,xOrt_ok hC hcl r hk hL' hR' h1 h2 h3 hQ⟩
        · unfold xVP at h
          split at h
          · rename_i v hv
            have hp:=fun V (hV:SH B can s0 X0 V∧heldAll (allWait ops i) (HSof hs s0 X0) V)=>xPure_ok (V:=V) hv hR.fr hR.bl (fun j t cs hj hx=>by
              rw [Bool.or_eq_true] at hj
              rcases hj with hj | hj
              · exact hH.load hR hS hV.1 j t cs hj hx
              · obtain ⟨e,he,hh⟩:=List.any_eq_true.1 hj
                simp only [Bool.and_eq_true,Nat.beq_eq] at hh
                obtain ⟨⟨rfl,f1⟩,f2⟩:=hh
                obtain ⟨a1,a2,a3,a4⟩:=hT e he f1
                exact load2 hR ⟨a1,a2,a3⟩ a4 (heldAll_iff.1 hV.2 e he f2) t cs hx) (hV.1.kx hR)
            have hok:v.ok s.nn X w:=(xPure_ok (V:=w) hv hR.fr hR.bl (fun j t cs _ hx=>(hR.lc j t cs hx).1) hR.kx).2
            obtain ⟨v2,s2,L2,hk2,hL2,hR2,hs2,hd,hv2⟩:=xVal_ok h hL hR hok
            rw [Sg.put_eq] at hk2
            refine ort_pure o.dst (v.den X) ho rfl hw' (fun V hV=>(hp V hV).1) ?_
            rw [← hd,putD_act,← hs2.fr]
            exact xOrt_ok hC hcl r hk2 hL2 (hR2.putD o.dst hv2) (fun i hi=>by have:=hH i hi;rw [← hs2.bl] at this;exact this) hS (unset fun e he hf=>by have:=hT e he hf;rw [← hs2.bl] at this;exact this) hQ
          · cases h
      · rename_i hw
        rw [Sg.put_eq] at h
        have hw':=wantS_ok hw hR.fr
        cases b with
        | true=>
          refine ort_skip o.dst ho rfl hw' ?_
          rw [put_undef]
          exact xOrt_ok hC hcl r h hL (hR.putD o.dst (v:=.su) trivial) hH hS (unset hT) hQ
        | false=>
          refine ort_effskip o.dst ho rfl hw' hS (heldAll_iff.2 fun e he hf=>(hT e he (fresh_un hf).2).2.2.2) ?_
          rw [put_undef]
          exact xOrt_ok hC hcl r h hL (hR.putD o.dst (v:=.su) trivial) hH hS (unset hT) hQ
      · cases h
theorem xDraw_ok (hC:CallOK P Post B call) (hcl:∀ f,lo≤f→f<hi→okCall P f=true) (hm:P.follows .mixedOrders=true) {e:Ent} {id:Nat} (he:okEnt P ops e=true) {k:Sg→Rs} {X:Env} {s:Sg} {w:World} {L:Lf}
    (hp:∀ c (a a':Act) w,Q (.panic c) a w→Q (.panic c) a' w) (h:xDraw P lo hi call ops e s k=some L) (hL:LOK Post L) (hR:Rep B X s w)
    (hQ:∀ s' X' w' L',k s'=some L'→LOK Post L'→Rep B X' s' w'→Q .normal (actOf X' s'.fr) w'):(Code.region id ops true).wp P Q (actOf X s.fr) w:=by
  have hR':=hR.to (Gr.drew w)
  have hH:∀ bs,Held (canR bs s.fr s.bl.length) s X X s:=fun bs i hi=>by
    unfold canR at hi
    simp only [Bool.and_eq_true] at hi
    exact ⟨blt_of hi.1,rfl,rfl⟩
  have hS:∀ bs,SH B (canR bs s.fr s.bl.length) s X w.drew:=fun bs=>⟨hR'.kb,fun i t cs _ hx=>(hR'.lc i t cs hx).1⟩
  unfold xDraw at h
  split at h
  · rename_i l bs
    simp only [okEnt,Bool.and_eq_true,Nat.ble_eq] at he
    exact wp_region_ord (SH B (canR bs s.fr s.bl.length) s X) l hm he.1.1 he.1.2 he.2 (fun c a d v w=>hp c _ _ w) (hS bs) (xOrd_ok hC hcl l h hL hR' (hH bs) (hS bs) hQ)
  · rename_i l bs hs
    simp only [okEnt,Bool.and_eq_true,Nat.ble_eq] at he
    split at h
    · rename_i hall
      rw [List.all_eq_true] at hall
      have hlc:∀ (i:Nat) t cs,s.bl[i]?=some (t,cs)→Lc w.drew (X.E i) (dnL X cs) t:=fun i t cs hx=>(hR'.lc i t cs hx).1
      have hT:HeldT (Array.replicate ops.size false) (hs.map fun e=>(e.1,blkOf s.fr e.2)) s X X s w.drew:=fun e he _=>⟨blt_of (hall e he),rfl,rfl,fun t cs hx=>hlc _ t cs hx⟩
      have hfst:(HSof (hs.map fun e=>(e.1,blkOf s.fr e.2)) s X).map (·.1)=hs.map (·.1):=by simp [HSof,List.map_map,Function.comp_def]
      refine wp_region_ort (SH B (canR bs s.fr s.bl.length) s X) (HSof (hs.map fun e=>(e.1,blkOf s.fr e.2)) s X) l hm he.1.1 (by rw [hfst];exact he.1.2) he.2 (fun c a d v w=>hp c _ _ w) (hS bs) (heldAll_iff.2 fun e he _=>fun t cs hx=>hlc _ t cs hx) (xOrt_ok hC hcl l h hL hR' (hH bs) (hS bs) hT hQ)
    · cases h
  · rename_i l fl tl bs
    simp only [okEnt,Bool.and_eq_true,Nat.ble_eq] at he
    obtain ⟨⟨⟨⟨⟨c1,c0⟩,c2⟩,c3⟩,c4⟩,c5⟩:=he
    have hz:∀ f ∈ fl.map (flOf P),∀ w,(Instr.alloc f.ty true (.tuple #[])).run P w=.ok (.pointer (some ⟨w.heap.size,0,none⟩)) (w.alloc (.cells f.zero f.ty)):=fun f hf w=>by
      obtain ⟨x,hx,rfl⟩:=List.mem_map.1 hf
      exact okZ_ok (List.all_eq_true.1 c0 x hx) w
    refine wp_region_flo (SH B (canR bs s.fr s.bl.length) s X) l (fl.map (flOf P)) tl hm c1 c2 c3 c4 c5 (fun c a d v w=>hp c _ _ w) (fun c a d v w=>hp c _ _ w) (fun w' o h'=>h'.gr (Gr.alloc w' o)) (hS bs) hz ?_
    refine xFl_ok hC hcl l h hL hR' (hH bs) (hS bs) fun s' X' w' L' hk hL' hR2 hH2 hS2 hg hl=>?_
    split at hk
    · rename_i hbq
      have hl1:s'.bl.length=s.bl.length:=Nat.eq_of_beq_eq_true hbq
      split at hk
      · rename_i s2 ha
        intro ps hps hnd
        have hsz:∀ i,i<s'.bl.length→X'.E i<w.heap.size:=fun i hi=>by
          rw [hl.2 i (hl1 ▸ hi)]
          exact hR.lt (hl1 ▸ hi)
        obtain ⟨X3,e1,e2,e3,e4,e5⟩:=addFl_ok (ps:=ps) (N:=s'.bl.length) ha hR2 (Nat.le_refl _) (fun f hf=>⟨(hps f hf).1,Nat.le_trans hR.gr.size (hps f hf).2,fun i hi=>by have:=hsz i hi;have:=(hps f hf).2;omega,fun x hx=>by have:=heap_lt (hR.ks x hx).1;have:=(hps f hf).2;omega⟩) hnd
        rw [e2]
        refine xOrd_ok hC hcl tl hk hL' e1 (fun i hi=>?_) hS2 hQ
        obtain ⟨a1,a2,a3⟩:=hH2 i hi
        exact ⟨Nat.lt_of_lt_of_le a1 e3,(e5 i a1).trans a2,(e4 i a1).trans a3⟩
      · cases hk
    · cases hk
  · cases h
end
def Ex.to:Ex→Exit
  | .n=>.normal
  | .x id=>.exit id
  | .r=>.ret
def xLoop (body:Sg→KT→Rs):Nat→Sg→KT→Rs
  | 0,_,_=>none
  | m+1,s,k=>body s fun e s=>match e with
    | .n=>xLoop body m s k
    | e=>k e s
noncomputable def xCode (P:Program) (lo hi:Nat) (call:CallT) (es:List (Nat × Ent)):Code→Sg→KT→Rs
  | .skip,s,k=>k .n s
  | .region id ops true,s,k=>match lookE id es with
    | some e=>xDraw P lo hi call ops e s (k .n)
    | none=>none
  | .region _ ops false,s,k=>xPlain P lo hi call ops (List.range ops.size) s (k .n)
  | .seq a b,s,k=>xCode P lo hi call es a s fun e s=>match e with
    | .n=>xCode P lo hi call es b s k
    | e=>k e s
  | .cond c a b,s,k=>match ev s.fr c with
    | some (.so (.vc (.cb _ (some true))))=>xCode P lo hi call es a s k
    | some (.so (.vc (.cb _ (some false))))=>xCode P lo hi call es b s k
    | some (.so (.vc (.cb t none)))=>xSplit t s fun v s=>match v with
      | true=>xCode P lo hi call es a s k
      | false=>xCode P lo hi call es b s k
    | _=>none
  | .block id a,s,k=>xCode P lo hi call es a s fun e s=>match e with
    | .x j=>if Nat.beq j id then k .n s else k e s
    | e=>k e s
  | .loop a,s,k=>match lookE (lkey a) es with
    | some (.lp t)=>t s k
    | _=>xLoop (fun s k=>xCode P lo hi call es a s k) 100 s k
  | .exit id,s,k=>k (.x id) s
  | .ret,s,k=>k .r s
  | _,_,_=>none
section
variable {P:Program} {Post:SV→Prop} {B:Base} {lo hi:Nat} {call:CallT} {es:List (Nat × Ent)}
/-- what holds behind an end -/
def KOK (Post:SV→Prop) (B:Base) (k:KT) (Q:Exit→Act→World→Prop):Prop:=∀ e s X w L,k e s=some L→LOK Post L→Rep B X s w→Q e.to (actOf X s.fr) w
def PQ (Q:Exit→Act→World→Prop):Prop:=∀ c (a a':Act) w,Q (.panic c) a w→Q (.panic c) a' w
theorem PQ.then {Q:Exit→Act→World→Prop} (h:PQ Q) (K:Act→World→Prop):PQ (Exit.then K Q):=h
theorem PQ.inBlock {Q:Exit→Act→World→Prop} (h:PQ Q) (id:Nat):PQ (Exit.inBlock id Q):=h
/-- a loop that is told by what it does -/
def LpOK (P:Program) (t:Sg→KT→Rs) (a:Code):Prop:=∀ (Post:SV→Prop) (B:Base) (Q:Exit→Act→World→Prop) (k:KT) (X:Env) (s:Sg) (w:World) (L:Lf),PQ Q→KOK Post B k Q→t s k=some L→LOK Post L→Rep B X s w→(Code.loop a).wp P Q (actOf X s.fr) w
def codeLP (P:Program) (es:List (Nat × Ent)):Code→Prop
  | .seq a b=>codeLP P es a∧codeLP P es b
  | .cond _ a b=>codeLP P es a∧codeLP P es b
  | .block _ a=>codeLP P es a
  | .loop a=>match lookE (lkey a) es with
    | some (.lp t)=>LpOK P t a
    | _=>codeLP P es a
  | _=>True
def noLp (es:List (Nat × Ent)):Bool:=es.all fun x=>match x.2 with
  | .lp _=>false
  | _=>true
theorem lookE_noLp:∀ {es:List (Nat × Ent)} {i:Nat} {t:Sg→KT→Rs},noLp es=true→lookE i es≠some (.lp t)
  | [],_,_,_=>fun h=>by cases h
  | (j,e)::r,i,t,hn=>by
    unfold noLp at hn
    rw [List.all_cons,Bool.and_eq_true] at hn
    unfold lookE
    split
    · intro h;cases h;have:=hn.1;cases this
    · exact lookE_noLp (es:=r) hn.2
theorem codeLP_no {P:Program} {es:List (Nat × Ent)} (h:noLp es=true):∀ c,codeLP P es c:=by
  intro c
  induction c with
  | seq a b iha ihb=>exact ⟨iha,ihb⟩
  | cond c a b iha ihb=>exact ⟨iha,ihb⟩
  | block id a iha=>exact iha
  | loop a iha=>
    unfold codeLP
    split
    · rename_i t ht;exact absurd ht (lookE_noLp h)
    · exact iha
  | _=>trivial
theorem xLoop_ok {c:Code} {body:Sg→KT→Rs} (hb:∀ (Q:Exit→Act→World→Prop) (k:KT) X s w L,PQ Q→KOK Post B k Q→body s k=some L→LOK Post L→Rep B X s w→c.wp P Q (actOf X s.fr) w):
    ∀ (m:Nat) {Q:Exit→Act→World→Prop} {k:KT} {X:Env} {s:Sg} {w:World} {L:Lf},PQ Q→KOK Post B k Q→xLoop body m s k=some L→LOK Post L→Rep B X s w→Code.rounds P c Q m (actOf X s.fr) w
  | 0,_,_,_,_,_,_,_,_,h,_,_=>by cases h
  | m+1,Q,k,X,s,w,L,hp,hk,h,hL,hR=>by
    rw [rounds_succ]
    refine hb _ _ X s w L (hp.then _) (fun e s' X' w' L' h' hL' hR'=>?_) h hL hR
    cases e with
    | n=>exact xLoop_ok hb m hp hk h' hL' hR'
    | x id=>exact hk _ _ _ _ _ h' hL' hR'
    | r=>exact hk _ _ _ _ _ h' hL' hR'
theorem xCode_ok (hC:CallOK P Post B call) (hcl:∀ f,lo≤f→f<hi→okCall P f=true) (hm:P.follows .mixedOrders=true):∀ (c:Code) {Q:Exit→Act→World→Prop} {k:KT} {X:Env} {s:Sg} {w:World} {L:Lf},codeOK P es c=true→codeLP P es c→PQ Q→KOK Post B k Q→
    xCode P lo hi call es c s k=some L→LOK Post L→Rep B X s w→c.wp P Q (actOf X s.fr) w:=by
  intro c
  induction c with
  | skip=>intro Q k X s w L _ _ _ hk h hL hR;exact wp_skip (hk .n s X w L h hL hR)
  | region id ops draw=>
    intro Q k X s w L hc _ hp hk h hL hR
    cases draw with
    | true=>
      simp only [xCode] at h
      simp only [codeOK] at hc
      split at h
      · rename_i e he
        rw [he] at hc
        exact xDraw_ok hC hcl hm hc (fun c a a' w=>hp c a a' w) h hL hR (fun s' X' w' L'=>hk .n s' X' w' L')
      · cases h
    | false=>exact wp_region (xPlain_ok hC hcl _ h hL hR (fun s' X' w' L'=>hk .n s' X' w' L'))
  | seq a b iha ihb=>
    intro Q k X s w L hc hlp hp hk h hL hR
    simp only [codeOK,Bool.and_eq_true] at hc
    refine wp_seq (iha hc.1 hlp.1 (hp.then _) (fun e s' X' w' L' h' hL' hR'=>?_) h hL hR)
    cases e with
    | n=>exact ihb hc.2 hlp.2 hp hk h' hL' hR'
    | x id=>exact hk _ _ _ _ _ h' hL' hR'
    | r=>exact hk _ _ _ _ _ h' hL' hR'
  | cond c a b iha ihb=>
    intro Q k X s w L hc hlp hp hk h hL hR
    simp only [codeOK,Bool.and_eq_true] at hc
    simp only [xCode] at h
    split at h
    · rename_i t hv
      have he:=ev_ok hv hR.fr
      have:(actOf X s.fr).eval c=.bool true:=by rw [he.1];exact congrArg Value.bool (he.2.2 true rfl)
      exact wp_cond_true this (iha hc.1 hlp.1 hp hk h hL hR)
    · rename_i t hv
      have he:=ev_ok hv hR.fr
      have:(actOf X s.fr).eval c=.bool false:=by rw [he.1];exact congrArg Value.bool (he.2.2 false rfl)
      exact wp_cond_false this (ihb hc.2 hlp.2 hp hk h hL hR)
    · rename_i t hv
      have he:=ev_ok hv hR.fr
      obtain ⟨v,d,L',ht,hk',hL'⟩:=xSplit_ok h hL
      have hR':=hR.ds d
      cases v with
      | true=>exact wp_cond_true (by rw [he.1];exact congrArg Value.bool ht) (iha (s:={s with ds:=d}) hc.1 hlp.1 hp hk hk' hL' hR')
      | false=>exact wp_cond_false (by rw [he.1];exact congrArg Value.bool ht) (ihb (s:={s with ds:=d}) hc.2 hlp.2 hp hk hk' hL' hR')
    · cases h
  | block id a iha=>
    intro Q k X s w L hc hlp hp hk h hL hR
    refine wp_block (iha hc hlp (hp.inBlock id) (fun e s' X' w' L' h' hL' hR'=>?_) h hL hR)
    cases e with
    | n=>exact hk _ _ _ _ _ h' hL' hR'
    | x j=>
      simp only at h'
      show (if j=id then Q .normal (actOf X' s'.fr) w' else Q (.exit j) (actOf X' s'.fr) w')
      split at h'
      · rename_i e
        have e:j=id:=by simpa using e
        rw [if_pos e]
        exact hk _ _ _ _ _ h' hL' hR'
      · rename_i e
        have e:¬ j=id:=by simpa using e
        rw [if_neg e]
        exact hk _ _ _ _ _ h' hL' hR'
    | r=>exact hk _ _ _ _ _ h' hL' hR'
  | loop a iha=>
    intro Q k X s w L hc hlp hp hk h hL hR
    simp only [xCode] at h
    unfold codeLP at hlp
    unfold codeOK at hc
    split at h
    · rename_i t ht
      rw [ht] at hlp
      exact hlp Post B Q k X s w L hp hk h hL hR
    · rename_i hne
      have e:codeLP P es a∧codeOK P es a=true:=by
        cases ho:lookE (lkey a) es with
        | none=>rw [ho] at hlp hc;exact ⟨hlp,hc⟩
        | some e=>
          rw [ho] at hlp hc
          cases e with
          | lp t=>exact absurd ho (hne t)
          | _=>exact ⟨hlp,hc⟩
      exact wp_loop_rounds 100 (xLoop_ok (fun Q k X s w L hp hk h hL hR=>iha e.2 e.1 hp hk h hL hR) 100 hp hk h hL hR)
  | exit id=>intro Q k X s w L _ _ _ hk h hL hR;exact wp_exit (hk (.x id) s X w L h hL hR)
  | ret=>intro Q k X s w L _ _ _ hk h hL hR;exact wp_ret (hk .r s X w L h hL hR)
  | _=>intro Q k X s w L _ _ _ _ h;cases h
end

/-! ### results -/
noncomputable def xRes1 (P:Program) (s:Sg):ResultVar→Option SV
  | .tmp t=>nth s.fr t
  | .cell a t=>match nth s.fr a with
    | some (.so (.vc (.cp j 0)))=>match nth s.bl j with
      | some (_,cs)=>match aggSize P t with
        | some n=>if Nat.beq n cs.length then some (.so (.vg cs)) else none
        | none=>if oneSize P t then (match cs with | [c]=>some (.so (.vc c)) | _=>none) else none
      | none=>none
    | _=>none
noncomputable def xResL (P:Program) (s:Sg):List ResultVar→Option (List TV)
  | []=>some []
  | r::l=>match xRes1 P s r,xResL P s l with
    | some (.so v),some m=>some (v::m)
    | _,_=>none
noncomputable def xRes (P:Program) (s:Sg) (l:List ResultVar):Option SV:=match l with
  | [r]=>xRes1 P s r
  | _=>match xResL P s l with
    | some m=>some (.st m)
    | none=>none
noncomputable def resF (tmps:Array Value):ResultVar→Sem Value
  | .tmp t=>pure (tmps.getD t undef)
  | .cell a t=>do loadVar t (← asAddr (tmps.getD a undef))
section
variable {P:Program} {B:Base} {X:Env} {s:Sg} {w:World}
theorem run_load_one {t:TypeId} {b:Nat} {v:Value} {tt:TypeId} (hL:Lc w b #[v] tt) (hs:oneSize P t=true):(loadVar t ⟨b,0,none⟩).run P w=.ok v w:=by
  unfold oneSize at hs
  have hc:w.cell? ⟨b,0,none⟩=some v:=by rw [cells_of hL];rfl
  cases hd:P.underlying t with
  | none=>rw [hd] at hs;cases hs
  | some d=>
    rw [hd] at hs
    have hagg:(isAgg t).run P w=.ok false w:=by
      unfold isAgg
      rw [Sem.run_bind,run_underlying hd w]
      cases d<;>first | cases hs | rfl
    simp only [loadVar,Sem.run_bind,hagg,Result.andThen_ok]
    simp [load,Sem.run,hc]
theorem res1_ok (hR:Rep B X s w) {r:ResultVar} {v:SV} (h:xRes1 P s r=some v):(resF (actOf X s.fr).tmps r).run P w=.ok (v.den X) w∧v.ok s.nn X w:=by
  unfold xRes1 at h
  split at h
  · rename_i t
    have e:(actOf X s.fr).tmps.getD t undef=v.den X:=(ev_ok (x:=.tmp t) h hR.fr).1
    exact ⟨by simp only [resF,e,Sem.run_pure],(ev_ok (x:=.tmp t) h hR.fr).2⟩
  · rename_i a t
    split at h
    · rename_i j hj
      have e:(actOf X s.fr).tmps.getD a undef=.pointer (some ⟨X.E j,0,none⟩):=(ev_ok (x:=.tmp a) hj hR.fr).1
      split at h
      · rename_i tt cs hb
        rw [nth_eq] at hb
        have hL:=(hR.lc j tt cs hb).1
        split at h
        · rename_i n hn
          split at h
          · rename_i hl
            simp only [Nat.beq_eq] at hl
            cases h
            refine ⟨?_,hR.bl j tt cs hb⟩
            have:=run_load_lc (P:=P) (t:=t) hL (by rw [hn,hl];simp [dnL])
            simp only [resF,e,asAddr,Sem.run_bind,Sem.run_pure,Result.andThen_ok,this]
            rfl
          · cases h
        · split at h
          · rename_i h1
            split at h
            · rename_i c
              cases h
              refine ⟨?_,hR.bl j tt _ hb c (by simp)⟩
              have:=run_load_one (P:=P) (t:=t) (v:=c.den X) (by simpa [dnL] using hL) h1
              simp only [resF,e,asAddr,Sem.run_bind,Sem.run_pure,Result.andThen_ok,this]
              rfl
            · cases h
          · cases h
      · cases h
    · cases h
theorem resL_ok (hR:Rep B X s w):∀ {l:List ResultVar} {m:List TV},xResL P s l=some m→(l.mapM (resF (actOf X s.fr).tmps)).run P w=.ok (m.map (TV.den X)) w∧∀ x ∈ m,x.ok s.nn X w
  | [],m,h=>by cases h;exact ⟨by simp,fun _ hx=>by cases hx⟩
  | r::l,m,h=>by
    unfold xResL at h
    split at h
    · rename_i v m' h1 h2
      cases h
      have a:=res1_ok hR h1
      have b:=resL_ok hR h2
      refine ⟨?_,fun x hx=>?_⟩
      · have a1:(resF (actOf X s.fr).tmps r).run P w=.ok (v.den X) w:=a.1
        simp [List.mapM_cons,a1,b.1]
      · rcases List.mem_cons.1 hx with rfl | hx
        · exact a.2
        · exact b.2 x hx
    · cases h
theorem results_eq (fn:Func) (tmps:Array Value):results fn tmps=(do
    let vs ← fn.results.mapM (resF tmps)
    pure (if h:vs.size=1 then vs[0] else .tuple vs)):=by
  unfold results
  congr 1
theorem res_ok (hR:Rep B X s w) {fn:Func} {v:SV} (h:xRes P s fn.results.toList=some v):(results fn (actOf X s.fr).tmps).run P w=.ok (v.den X) w∧v.ok s.nn X w:=by
  rw [results_eq]
  unfold xRes at h
  rw [Array.mapM_eq_mapM_toList]
  split at h
  · rename_i r hr
    have a:=res1_ok hR h
    rw [hr]
    exact ⟨by simp [List.mapM_cons,a.1],a.2⟩
  · rename_i hne
    split at h
    · rename_i m hm
      cases h
      have b:=resL_ok hR hm
      have hl:m.length=fn.results.toList.length:=by
        clear hne b
        revert m
        induction fn.results.toList with
        | nil=>intro m hm;cases hm;rfl
        | cons r l ih=>
          intro m hm
          unfold xResL at hm
          split at hm
          · rename_i v m' h1 h2
            cases hm
            simp [ih _ h2]
          · cases hm
      have h1:¬ m.length=1:=by
        rw [hl]
        intro e
        obtain ⟨r,hr⟩:=List.length_eq_one_iff.1 e
        exact hne r hr
      exact ⟨by simp [b.1,h1,SV.den],b.2⟩
    · cases h
end
/-- what a contract leaves:a value with so many new rationals and integers;or one of two,by a Bool -/
inductive Tr where
  | leaf (v:SV) (dr dz:Nat)
  | br (t:Bool) (a b:Tr)
  | as (t:Bool) (a:Tr)
def Tr.holds (n:Nn) (X:Env) (w:World) (e:Ending) (w':World):Tr→Prop
  | .leaf v dr dz=>∃ X',e=.returned (v.den X')∧Gr w w'∧Agr n X X'∧v.ok ⟨n.b,n.r+dr,n.z+dz⟩ X' w'
  | .br t a b=>(t=true→a.holds n X w e w')∧(t=false→b.holds n X w e w')
  | .as _ a=>a.holds n X w e w'
/-- what a contract asks for -/
def Tr.pre:Tr→Prop
  | .as t a=>t=true∧a.pre
  | _=>True
abbrev ConT:=List SV→Nat→Nat→Option Tr
def ConOK (P:Program) (I:World→Prop) (f:Nat) (c:ConT):Prop:=∀ (args:List SV) (X:Env) (n:Nn) (w:World) (T:Tr),I w→okF n X w args→c args n.r n.z=some T→T.pre→
  Calls P f (args.map (SV.den X)).toArray w fun e w'=>T.holds n X w e w'
def xTr:Tr→Sg→(SV→Sg→Rs)→Rs
  | .leaf v dr dz,s,k=>match s with
    | ⟨fr,bl,nu,nr,nz,ds⟩=>k v ⟨fr,bl,nu,nr+dr,nz+dz,ds⟩
  | .br t a b,s,k=>xSplit t s fun u s=>match u with
    | true=>xTr a s k
    | false=>xTr b s k
  | .as t a,s,k=>asL t true (xTr a s k)
def lookA {α:Type}:Nat→List (Nat × α)→Option α
  | _,[]=>none
  | i,(j,e)::r=>if Nat.beq i j then some e else lookA i r
/-- all that a run is given -/
structure Sys where
  P:Program
  lo:Nat
  hi:Nat
  tab:List (Nat × List (Nat × Ent))
  con:List (Nat × ConT)
  I:World→Prop
def TV.lt (n:Nn):TV→Bool
  | .vc c=>c.lt n
  | .vg l=>l.all fun c=>c.lt n
def SV.lt (n:Nn):SV→Bool
  | .so x=>x.lt n
  | .st l=>l.all fun x=>x.lt n
  | .su=>true
  | .sj j _=>Nat.blt j n.z
  | .fs _ _ _ xs=>xs.all fun l=>l.all fun c=>c.lt n
  | .fa _ _ l=>l.all fun c=>c.lt n
def undefs:Nat→List SV
  | 0=>[]
  | n+1=>.su::undefs n
noncomputable def xFun (Y:Sys):Nat→CallT
  | 0,_,_,_,_=>none
  | m+1,f,args,s,k=>match lookA f Y.con with
    | some c=>match c args s.nr s.nz with
      | some T=>xTr T s k
      | none=>none
    | none=>match lookA f Y.tab,Y.P.funcs[f]? with
      | some es,some fn=>match fn.body with
        | some c=>match s with
          | ⟨fr,bl,nu,nr,nz,ds⟩=>appF args (undefs (fn.ntmps - args.length)) fun fr'=>xCode Y.P Y.lo Y.hi (xFun Y m) es c ⟨fr',bl,bl.length,nr,nz,ds⟩ fun e s'=>match e with
            | .x _=>none
            | _=>match xRes Y.P s' fn.results.toList with
              | some v=>if v.lt ⟨bl.length,s'.nr,s'.nz⟩ then k v ⟨fr,bl,nu,s'.nr,s'.nz,s'.ds⟩ else if Nat.beq s'.nu bl.length then appF bl (s'.bl.drop bl.length) fun bl2=>k v ⟨fr,bl2,nu,s'.nr,s'.nz,s'.ds⟩ else none
              | none=>none
        | none=>none
      | _,_=>none
def okTab (P:Program) (x:Nat × List (Nat × Ent)):Bool:=match P.funcs[x.1]? with
  | some fn=>match fn.body with
    | some c=>codeOK P x.2 c
    | none=>true
  | none=>true
structure Sys.OK (Y:Sys):Prop where
  mixed:Y.P.follows .mixedOrders=true
  calls:∀ f,Y.lo≤f→f<Y.hi→okCall Y.P f=true
  tab:∀ x ∈ Y.tab,okTab Y.P x=true
  lps:∀ x ∈ Y.tab,∀ (fn:Func) (c:Code),Y.P.funcs[x.1]?=some fn→fn.body=some c→codeLP Y.P x.2 c
  con:∀ x ∈ Y.con,ConOK Y.P Y.I x.1 x.2
  inv:∀ w w',Y.I w→Gr w w'→Y.I w'
theorem lps_no {P:Program} {tab:List (Nat × List (Nat × Ent))} (h:tab.all (fun x=>noLp x.2)=true):∀ x ∈ tab,∀ (fn:Func) (c:Code),P.funcs[x.1]?=some fn→fn.body=some c→codeLP P x.2 c:=
  fun x hx _ c _ _=>codeLP_no (List.all_eq_true.1 h x hx) c
theorem lookA_mem {α:Type} {f:Nat} {e:α}:∀ {l:List (Nat × α)},lookA f l=some e→(f,e) ∈ l
  | [],h=>by cases h
  | (j,x)::r,h=>by
    unfold lookA at h
    split at h
    · rename_i hj
      simp only [Nat.beq_eq] at hj
      cases h;subst hj;simp
    · exact List.mem_cons_of_mem _ (lookA_mem h)
section
variable {Post:SV→Prop} {B:Base} {X:Env} {s:Sg} {w:World}
theorem TV.ok_of {n m:Nn} {x:TV} (h:x.ok m X w) (hl:x.lt n=true):x.ok n X w:=by
  cases x with
  | vc c=>exact ⟨hl,h.2⟩
  | vg l=>exact fun c hc=>⟨List.all_eq_true.1 hl c hc,(h c hc).2⟩
theorem AtK.of {n m:Nn} {v:Value} {j:Nat} {cs:List Cl} (h:AtK m X w v j cs) (hl:(cs.all fun c=>c.lt n)=true):AtK n X w v j cs:=⟨fun c hc=>⟨List.all_eq_true.1 hl c hc,(h.1 c hc).2⟩,h.2⟩
theorem SV.ok_of {n m:Nn} {v:SV} (h:v.ok m X w) (hl:v.lt n=true):v.ok n X w:=by
  cases v with
  | so x=>exact TV.ok_of h hl
  | st l=>exact fun x hx=>TV.ok_of (h x hx) (List.all_eq_true.1 hl x hx)
  | su=>trivial
  | sj j i=>exact hl
  | fs v len c xs=>exact ⟨h.1,fun i cs hi=>(h.2 i cs hi).of (List.all_eq_true.1 hl cs (List.mem_of_getElem? hi))⟩
  | fa v j cs=>exact AtK.of h hl
theorem Rep.after {X':Env} {w':World} {nr nz:Nat} {d:Dt} (hR:Rep B X s w) (g:Gr w w') (ha:Agr s.nn X X') (hr:s.nr≤nr) (hz:s.nz≤nz):
    Rep B X' {s with nr:=nr,nz:=nz,ds:=d} w':=by
  have hn:s.nn.le ({s with nr:=nr,nz:=nz,ds:=d}:Sg).nn:=⟨Nat.le_refl _,hr,hz⟩
  refine ⟨hR.gr.trans g,hR.ag.trans (ha.mono hR.le),hR.le.trans hn,okF_to hn ha g.kp hR.fr,fun i t cs hi=>okL_to hn ha g.kp (hR.bl i t cs hi),fun i t cs hi=>?_,fun i h1 h2=>?_,fun i j h1 h2 e=>?_,fun x hx=>⟨g.heap (hR.ks x hx).1,fun i hi=>?_⟩,hR.kk⟩
  · have hl:i<s.bl.length:=(List.getElem?_eq_some_iff.1 hi).1
    have:=hR.lc i t cs hi
    rw [← ha.E i hl,← dnL_agree ha fun c hc=>(hR.bl i t cs hi c hc).1]
    exact ⟨this.1.gr g,this.2⟩
  · rw [← ha.E i h2];exact hR.own i h1 h2
  · rw [← ha.E i h1,← ha.E j h2] at e;exact hR.inj i j h1 h2 e
  · rw [← ha.E i hi];exact (hR.ks x hx).2 i hi
/-- behind a call whose blocks are kept -/
theorem Rep.keep {X':Env} {s':Sg} {w':World} (hR:Rep B X s w) (hR':Rep ⟨w,X.wd [],s.nn,[]⟩ X' s' w') (hu:s'.nu=s.bl.length) (ha:Agr s.nn X (X'.wd X.D)):
    Rep B (X'.wd X.D) {s with bl:=s.bl++s'.bl.drop s.bl.length,nr:=s'.nr,nz:=s'.nz,ds:=s'.ds} w':=by
  have g:=hR'.gr
  have hb:s.bl.length≤s'.bl.length:=hR'.le.b
  have hlen:(s.bl++s'.bl.drop s.bl.length).length=s'.bl.length:=by simp only [List.length_append,List.length_drop];omega
  have hnn:({s with bl:=s.bl++s'.bl.drop s.bl.length,nr:=s'.nr,nz:=s'.nz,ds:=s'.ds}:Sg).nn=s'.nn:=by simp only [Sg.nn,hlen]
  have hn:s.nn.le s'.nn:=hR'.le
  have get:∀ (i:Nat) x,(s.bl++s'.bl.drop s.bl.length)[i]?=some x→(i<s.bl.length∧s.bl[i]?=some x)∨(s.bl.length≤i∧s'.bl[i]?=some x):=fun i x hx=>by
    rcases Nat.lt_or_ge i s.bl.length with hi | hi
    · rw [List.getElem?_append_left hi] at hx;exact .inl ⟨hi,hx⟩
    · rw [List.getElem?_append_right hi,List.getElem?_drop,show s.bl.length+(i - s.bl.length)=i by omega] at hx;exact .inr ⟨hi,hx⟩
  have eE:∀ i,(X'.wd X.D).E i=X'.E i:=fun _=>rfl
  refine ⟨hR.gr.trans g,hR.ag.trans (ha.mono hR.le),by rw [hnn];exact hR.le.trans hn,by rw [hnn];exact okF_to hn ha g.kp hR.fr,fun i t cs hi=>?_,fun i t cs hi=>?_,fun i h1 h2=>?_,fun i j h1 h2 e=>?_,fun x hx=>⟨g.heap (hR.ks x hx).1,fun i hi=>?_⟩,hR.kk⟩
  · rw [hnn]
    rcases get i _ hi with ⟨_,h⟩ | ⟨_,h⟩
    · exact okL_to hn ha g.kp (hR.bl i t cs h)
    · exact okL_D (hR'.bl i t cs h) X.D
  · rcases get i _ hi with ⟨hl,h⟩ | ⟨_,h⟩
    · have:=hR.lc i t cs h
      rw [← ha.E i hl,← dnL_agree ha fun c hc=>(hR.bl i t cs h c hc).1]
      exact ⟨this.1.gr g,this.2⟩
    · have:=hR'.lc i t cs h
      rw [dnL_D]
      exact this
  · rw [hlen] at h2
    rcases Nat.lt_or_ge i s.bl.length with hi | hi
    · rw [← ha.E i hi];exact hR.own i h1 hi
    · exact Nat.le_trans hR.gr.size (hR'.own i (by omega) h2)
  · rw [hlen] at h1 h2
    exact hR'.inj i j h1 h2 e
  · rw [hlen] at hi
    rcases Nat.lt_or_ge i s.bl.length with hi' | hi'
    · rw [← ha.E i hi'];exact (hR.ks x hx).2 i hi'
    · have h1:w.heap.size≤X'.E i:=hR'.own i (by omega) hi
      have h2:=heap_lt (hR.ks x hx).1
      show X'.E i≠x.1
      omega
theorem xTr_ok {L:Lf} {k:SV→Sg→Rs}:∀ (T:Tr) {s:Sg},xTr T s k=some L→LOK Post L→Rep B X s w→∀ {e:Ending} {w':World},T.holds s.nn X w e w'→
    ∃ v s' X' L',e=.returned (v.den X')∧Gr w w'∧Agr s.nn X X'∧Rep B X' s' w'∧v.ok s'.nn X' w'∧s'.fr=s.fr∧Pre s.bl s'.bl∧s'.nu=s.nu∧k v s'=some L'∧LOK Post L'
  | .leaf v dr dz,s,h,hL,hR,e,w',hT=>by
    obtain ⟨X',h1,h2,h3,h4⟩:=hT
    exact ⟨v,_,X',L,h1,h2,h3,hR.after (d:=s.ds) h2 h3 (Nat.le_add_right _ _) (Nat.le_add_right _ _),h4,rfl,Pre.refl _,rfl,h,hL⟩
  | .br t a b,s,h,hL,hR,e,w',hT=>by
    obtain ⟨v,d,L',ht,hk,hL'⟩:=xSplit_ok h hL
    cases v with
    | true=>
      obtain ⟨v,s',X',L2,r⟩:=xTr_ok a (s:={s with ds:=d}) hk hL' (hR.ds d) (hT.1 ht)
      exact ⟨v,s',X',L2,r⟩
    | false=>
      obtain ⟨v,s',X',L2,r⟩:=xTr_ok b (s:={s with ds:=d}) hk hL' (hR.ds d) (hT.2 ht)
      exact ⟨v,s',X',L2,r⟩
  | .as t a,s,h,hL,hR,e,w',hT=>by
    obtain ⟨x,h1,rfl⟩:=asL_some h
    exact xTr_ok a h1 hL.2 hR hT
theorem xTr_pre {L:Lf} {k:SV→Sg→Rs}:∀ (T:Tr) {s:Sg},xTr T s k=some L→LOK Post L→T.pre
  | .leaf ..,_,_,_=>trivial
  | .br ..,_,_,_=>trivial
  | .as t a,s,h,hL=>by
    obtain ⟨x,h1,rfl⟩:=asL_some h
    exact ⟨hL.1,xTr_pre a h1 hL.2⟩
theorem undefs_ok (n:Nn):∀ m,okF n X w (undefs m)
  | 0,_,h=>by cases h
  | m+1,v,h=>by
    rcases List.mem_cons.1 h with rfl | h
    · trivial
    · exact undefs_ok n m v h
theorem undefs_den:∀ m,(undefs m).map (SV.den X)=List.replicate m undef
  | 0=>rfl
  | m+1=>by rw [undefs,List.map_cons,undefs_den m,List.replicate_succ];rfl
theorem xFun_ok (Y:Sys) (hY:Y.OK):∀ m B,Y.I B.w→CallOK Y.P Post B (xFun Y m)
  | 0,B,_=>fun X s w f args k L h=>by cases h
  | m+1,B,hB=>fun X s w f args k L h hL hR ha=>by
    unfold xFun at h
    split at h
    · rename_i c hc
      split at h
      · rename_i T hT
        exact (hY.con _ (lookA_mem hc) args X s.nn w T (hY.inv _ _ hB hR.gr) ha hT (xTr_pre T h hL)).mono fun e w' he=>xTr_ok T h hL hR he
      · cases h
    · split at h
      · rename_i es fn h1 h2
        split at h
        · rename_i c hb
          have hcode:codeOK Y.P es c=true:=by
            have:=hY.tab _ (lookA_mem h1)
            unfold okTab at this
            simp only [h2,hb] at this
            exact this
          obtain ⟨fr,bl,nu,nr,nz,ds⟩:=s
          simp only [appF_eq] at h
          have hlen:(args.map (SV.den X)).toArray.size=args.length:=by simp
          refine calls_of_wp h2 hb ?_
          have hact:({tmps:=(args.map (SV.den X)).toArray++Array.replicate (fn.ntmps - (args.map (SV.den X)).toArray.size) undef,defers:=[]}:Act)=actOf (X.wd []) (args++undefs (fn.ntmps - args.length)):=by
            unfold actOf
            rw [hlen,List.map_append,undefs_den,List.map_congr_left fun x _=>SV.den_D X [] x]
            simp [Env.wd]
          rw [hact]
          have hR0:Rep ⟨w,X.wd [],⟨bl.length,nr,nz⟩,[]⟩ (X.wd []) ⟨args++undefs (fn.ntmps - args.length),bl,bl.length,nr,nz,ds⟩ w:=
            ⟨Gr.refl w,.refl _ _,.refl _,fun v hv=>by
              rcases List.mem_append.1 hv with hv | hv
              · exact SV.ok_D (ha v hv) []
              · exact undefs_ok _ _ v hv,fun i t cs hi=>okL_D (hR.bl i t cs hi) [],fun i t cs hi=>by rw [dnL_D];exact hR.lc i t cs hi,fun i h1 h2=>absurd h2 (Nat.not_lt.2 h1),hR.inj,fun x hx=>(by cases hx),hR.kx⟩
          refine xCode_ok (Q:=bodyPost Y.P fn _) (xFun_ok Y hY m ⟨w,X.wd [],⟨bl.length,nr,nz⟩,[]⟩ (hY.inv _ _ hB hR.gr)) hY.calls hY.mixed c (X:=X.wd []) hcode (hY.lps _ (lookA_mem h1) _ _ h2 hb) (fun c a a' w hq=>⟨?_,?_⟩) (fun e s' X' w' L' h' hL' hR'=>?_) h hL hR0
          · obtain ⟨_,v,s',X',L',hq,_⟩:=hq;cases hq
          · obtain ⟨_,v,s',X',L',hq,_⟩:=hq;cases hq
          · have fin:∀ {v:SV},xRes Y.P s' fn.results.toList=some v→v.lt ⟨bl.length,s'.nr,s'.nz⟩=true→k v ⟨fr,bl,nu,s'.nr,s'.nz,s'.ds⟩=some L'→
                (actOf X' s'.fr).defers=[]∧∃ u,(results fn (actOf X' s'.fr).tmps).run Y.P w'=.ok u w'∧(∃ v s' X' L',(.returned u:Ending)=.returned (v.den X')∧Gr w w'∧Agr ⟨bl.length,nr,nz⟩ X X'∧Rep B X' s' w'∧v.ok s'.nn X' w'∧s'.fr=fr∧Pre bl s'.bl∧s'.nu=nu∧k v s'=some L'∧LOK Post L'):=fun {v} hv hl hk=>by
              have hr:=res_ok hR' hv
              have hD:X'.D=[]:=hR'.ag.d.symm
              have hag:Agr ⟨bl.length,nr,nz⟩ X (X'.wd X.D):=⟨hR'.ag.E,hR'.ag.R,hR'.ag.Z,Prod.ext rfl hR'.ag.k⟩
              refine ⟨hD,v.den X',hr.1,v,⟨fr,bl,nu,s'.nr,s'.nz,s'.ds⟩,X'.wd X.D,L',by rw [SV.den_D],hR'.gr,hag,?_,SV.ok_D (SV.ok_of hr.2 hl) X.D,rfl,Pre.refl _,rfl,hk,hL'⟩
              exact hR.after hR'.gr hag hR'.le.r hR'.le.z
            have fin2:∀ {v:SV},xRes Y.P s' fn.results.toList=some v→Nat.beq s'.nu bl.length=true→k v ⟨fr,bl++s'.bl.drop bl.length,nu,s'.nr,s'.nz,s'.ds⟩=some L'→
                (actOf X' s'.fr).defers=[]∧∃ u,(results fn (actOf X' s'.fr).tmps).run Y.P w'=.ok u w'∧(∃ v s' X' L',(.returned u:Ending)=.returned (v.den X')∧Gr w w'∧Agr ⟨bl.length,nr,nz⟩ X X'∧Rep B X' s' w'∧v.ok s'.nn X' w'∧s'.fr=fr∧Pre bl s'.bl∧s'.nu=nu∧k v s'=some L'∧LOK Post L'):=fun {v} hv hu hk=>by
              have hr:=res_ok hR' hv
              have hD:X'.D=[]:=hR'.ag.d.symm
              have hag:Agr ⟨bl.length,nr,nz⟩ X (X'.wd X.D):=⟨hR'.ag.E,hR'.ag.R,hR'.ag.Z,Prod.ext rfl hR'.ag.k⟩
              have hlen:(bl++s'.bl.drop bl.length).length=s'.bl.length:=by
                have:=hR'.le.b
                simp only [List.length_append,List.length_drop]
                have:bl.length≤s'.bl.length:=this
                omega
              have hnn:(⟨fr,bl++s'.bl.drop bl.length,nu,s'.nr,s'.nz,s'.ds⟩:Sg).nn=s'.nn:=by simp only [Sg.nn,hlen]
              refine ⟨hD,v.den X',hr.1,v,⟨fr,bl++s'.bl.drop bl.length,nu,s'.nr,s'.nz,s'.ds⟩,X'.wd X.D,L',by rw [SV.den_D],hR'.gr,hag,?_,by rw [hnn];exact SV.ok_D hr.2 X.D,rfl,⟨by rw [hlen];exact hR'.le.b,fun i hi=>List.getElem?_append_left hi⟩,rfl,hk,hL'⟩
              exact hR.keep hR' (Nat.eq_of_beq_eq_true hu) hag
            cases e with
            | x id=>cases h'
            | n=>
              simp only at h'
              split at h'
              · rename_i v hv
                split at h'
                · rename_i hl;exact fin hv hl h'
                · split at h'
                  · rename_i hu;exact fin2 hv hu h'
                  · cases h'
              · cases h'
            | r=>
              simp only at h'
              split at h'
              · rename_i v hv
                split at h'
                · rename_i hl;exact fin hv hl h'
                · split at h'
                  · rename_i hu;exact fin2 hv hu h'
                  · cases h'
              · cases h'
        · cases h
      · cases h
/-- The run of a function:what its ends say,the call says. -/
noncomputable def runF (Y:Sys) (f:Nat) (args:List SV) (nr nz:Nat) (ds:Dt):Rs:=xFun Y 30 f args ⟨[],[],0,nr,nz,ds⟩ fun v _=>some (.ret v)
theorem run_callsK (Y:Sys) (hY:Y.OK) {f:Nat} {args:List SV} {nr nz:Nat} {ds:Dt} {L:Lf} (h:runF Y f args nr nz ds=some L) {X:Env} {w:World} (hI:Y.I w) (hk:∀ x ∈ X.K,w.heap[x.1]?=some x.2) (ha:okF ⟨0,nr,nz⟩ X w args) (hL:LOK Post L):
    Calls Y.P f (args.map (SV.den X)).toArray w fun e w'=>∃ v X' n,e=.returned (v.den X')∧Gr w w'∧Agr ⟨0,nr,nz⟩ X X'∧v.ok n X' w'∧Post v:=by
  have hR:Rep ⟨w,X,⟨0,nr,nz⟩,[]⟩ X ⟨[],[],0,nr,nz,ds⟩ w:=
    ⟨Gr.refl w,.refl _ _,.refl _,fun _ h=>(by cases h),fun i t cs h=>(by cases h),fun i t cs h=>(by cases h),fun i _ h=>(by cases h),fun i j h=>(by cases h),fun _ h=>(by cases h),hk⟩
  refine (xFun_ok Y hY 30 ⟨w,X,⟨0,nr,nz⟩,[]⟩ hI X _ w f args _ L h hL hR ha).mono fun e w' he=>?_
  obtain ⟨v,s',X',L',h1,h2,h3,h4,h5,_,_,_,hk,hL'⟩:=he
  cases hk
  exact ⟨v,X',_,h1,h2,h3,h5,hL'⟩
/-- no slice that came in -/
def SV.pl:SV→Bool
  | .fs .. | .fa ..=>false
  | _=>true
def Env.wk (X:Env) (ks:List (Nat × Obj)):Env:={X with K:=ks}
theorem Cl.ok_K {n:Nn} {X:Env} {W:World} {c:Cl} (h:c.ok n X W) (ks:List (Nat × Obj)):c.ok n (X.wk ks) W:=by
  refine ⟨h.1,?_⟩
  have:=h.2
  cases c<;>exact this
theorem SV.den_K (X:Env) (ks:List (Nat × Obj)) (v:SV):v.den (X.wk ks)=v.den X:=by
  have hc:∀ c:Cl,c.den (X.wk ks)=c.den X:=fun c=>by cases c<;>rfl
  have hl:∀ l:List Cl,dnL (X.wk ks) l=dnL X l:=fun l=>by
    unfold dnL
    rw [List.map_congr_left fun c _=>hc c]
  have ht:∀ x:TV,x.den (X.wk ks)=x.den X:=fun x=>by
    cases x with
    | vc c=>exact hc c
    | vg l=>exact congrArg Value.agg (hl l)
  cases v with
  | so x=>exact ht x
  | st l=>simp only [SV.den];rw [List.map_congr_left fun x _=>ht x]
  | _=>rfl
theorem SV.ok_K {n:Nn} {X:Env} {W:World} {v:SV} (h:v.ok n X W) (ks:List (Nat × Obj)) (hp:v.pl=true∨X.K=[]):v.ok n (X.wk ks) W:=by
  have ht:∀ {x:TV},x.ok n X W→x.ok n (X.wk ks) W:=fun {x} h=>by
    cases x with
    | vc c=>exact Cl.ok_K h ks
    | vg l=>exact fun c hc=>Cl.ok_K (h c hc) ks
  cases v with
  | so x=>exact ht h
  | st l=>exact fun x hx=>ht (h x hx)
  | su=>trivial
  | sj j i=>exact h
  | fs v len c xs=>
    rcases hp with hp | hp
    · cases hp
    · refine ⟨h.1,fun i cs hi=>?_⟩
      obtain ⟨_,b,o,l,cap,us,t,fr,_,h2,_⟩:=h.2 i cs hi
      rw [hp] at h2;cases h2
  | fa v j cs=>
    rcases hp with hp | hp
    · cases hp
    · obtain ⟨_,b,o,l,cap,us,t,fr,_,h2,_⟩:=h
      rw [hp] at h2;cases h2
theorem run_calls (Y:Sys) (hY:Y.OK) {f:Nat} {args:List SV} {nr nz:Nat} {ds:Dt} {L:Lf} (h:runF Y f args nr nz ds=some L) {X:Env} {w:World} (hI:Y.I w) (ha:okF ⟨0,nr,nz⟩ X w args) (hL:LOK Post L) (hp:args.all SV.pl=true:=by rfl):
    Calls Y.P f (args.map (SV.den X)).toArray w fun e w'=>∃ v X' n,e=.returned (v.den X')∧Gr w w'∧Agr ⟨0,nr,nz⟩ X X'∧v.ok n X' w'∧Post v:=by
  have:=run_callsK Y hY h (X:=X.wk []) hI (fun _ hx=>(by cases hx)) (fun c hc=>SV.ok_K (ha c hc) [] (.inl (List.all_eq_true.1 hp c hc))) hL
  rw [List.map_congr_left fun v _=>SV.den_K X [] v] at this
  refine this.mono fun e w' he=>?_
  obtain ⟨v,X',n,h1,h2,h3,h4,h5⟩:=he
  have hk:X'.K=[]:=h3.k.symm
  refine ⟨v,X'.wk X.K,n,by rw [SV.den_K];exact h1,h2,⟨h3.E,h3.R,h3.Z,?_⟩,SV.ok_K h4 X.K (.inr hk),h5⟩
  exact Prod.ext h3.d rfl
end
set_option maxRecDepth 100000 in
set_option maxHeartbeats 1000000 in
theorem div_a {k m:Nat} {u0 u1 u2 u3 v0 v1 v2 v3:Value} {a b:Rat} {w:World} (ha:IsRat w k u0 u1 u2 u3 a) (hb:IsRat w m v0 v1 v2 v3 b) (_hk:k+m≤100000) (h0:b.num≠0):
    Calls Tryz.prog 41 #[(.agg #[u0,u1,u2,u3]),(.agg #[v0,v1,v2,v3])] w fun e w'=>(∃ c0 c1 c2 c3,e=.returned (.tuple #[.agg #[c0,c1,c2,c3],.int .i64 0])∧IsRat w' (k+m) c0 c1 c2 c3 (a/b))∧Gr w w':=by
 have hka:=ha.big
 have hkb:=hb.big
 have he:(sgn (b).num==(0:Int))=false:=by rw [beq_eq_false_iff_ne];exact fun e=>h0 (sgn_eq_zero.1 e)
 go_enter Tryz.func41,Tryz.ntmps41
 have hB:=Gr.refl w
 refine wp_seq_k (fun K1 k1=>?_)
 refine rg [0,1,2,3] ?_
 refine se ?_
 refine eb 33 #[u0,u1,u2,u3] 2 hB fun b2 w2 g2 L2 o2 q2 hB=>?_
 simp only [p3,p4]
 refine se ?_
 refine eb 33 #[v0,v1,v2,v3] 3 hB fun b3 w3 g3 L3 o3 q3 hB=>?_
 simp only [p3,p4]
 refine se ?_
 refine ea 33 #[(.bool false),(.slice none 0 0),(.bool false),(.slice none 0 0)] 4 hB fun b4 w4 g4 L4 o4 q4 hB=>?_
 replace L2:=L2.gr g3
 have ne2_4:=L2.ne o4
 have ne3_4:=L3.ne o4
 simp only [p3,p4]
 refine sv 5 (.int .i64 0) ?_
 refine sq_nil ?_
 refine k1 _ _ ?_
 try clear k1 K1
 refine wp_seq_k (fun K5 k5=>?_)
 refine wp_seq_k (fun K6 k6=>?_)
 refine rg [0,1,2] ?_
 replace L3:=L3.gr g4
 refine sw 6 (.agg #[v0,v1,v2,v3]) rfl (rl 33 0 [v0,v1,v2,v3] L3) ?_
 refine se ?_
 have kq8:=g2.kp.trans (g3.kp.trans g4.kp)
 replace hb:=hb.kp kq8
 refine ec 7 (sign_r hb) ?_
 rintro e7 w7 ⟨rfl,g7⟩
 refine ⟨_,rfl,?_⟩
 replace hB:=hB.trans g7
 simp only [p3,p4]
 refine sw 8 (.bool false) rfl (RunV.bool (x:=(sgn (b).num==(0:Int))) (rvk (by kernel_rfl)) he) ?_
 refine sq_nil ?_
 refine k6 _ _ ?_
 try clear k6 K6
 refine wp_cond_false rfl ?_
 refine wp_skip ?_
 refine k5 _ _ ?_
 try clear k5 K5
 refine wp_seq_k (fun K9 k9=>?_)
 have gd27:=Gr.drew w7
 replace hB:=hB.trans gd27
 replace L2:=L2.gr (g4.trans (g7.trans gd27))
 replace L3:=L3.gr (g7.trans gd27)
 refine wp_region_ord (fun w'=>Lc w' b2 #[u0,u1,u2,u3] 33∧Lc w' b3 #[v0,v1,v2,v3] 33) [(true,0),(true,1),(true,2),(true,5),(true,7),(true,8),(false,3),(false,4),(false,6),(false,9),(false,10),(false,11),(true,12)] (by kernel_rfl) (by kernel_rfl) (by kernel_rfl) (by decide) (fun _ _ _ _ _ h=>h) ⟨L2,L3⟩ ?_
 refine ov 10 (.pointer (some ⟨b2,0,none⟩)) ?_
 refine ow 11 (.agg #[u0,u1]) rfl (fun w' hS=>(rl 31 0 [u0,u1] hS.1)) ?_
 refine ow 12 (.agg #[v0,v1,v2,v3]) rfl (fun w' hS=>(rl 33 0 [v0,v1,v2,v3] hS.2)) ?_
 refine ow 15 (.agg #[u0,u1,u2,u3]) rfl (fun w' hS=>(rl 33 0 [u0,u1,u2,u3] hS.1)) ?_
 refine ov 17 (.pointer (some ⟨b3,0,none⟩)) ?_
 refine ow 18 (.agg #[v0,v1]) rfl (fun w' hS=>(rl 31 0 [v0,v1] hS.2)) ?_
 refine oe ?_
 have kq30:=g7.kp.trans gd27.kp
 replace hb:=hb.kp kq30
 refine ec 13 (den_i hb) ?_
 rintro e29 w29 ⟨⟨x29,y29,rfl,h29⟩,g29⟩
 refine ⟨_,rfl,?_⟩
 replace hB:=hB.trans g29
 replace L2:=L2.gr g29
 replace L3:=L3.gr g29
 refine ⟨⟨L2,L3⟩,?_⟩
 simp only [p3,p4]
 refine oe ?_
 have kq33:=g2.kp.trans (g3.kp.trans (g4.kp.trans (g7.kp.trans (gd27.kp.trans g29.kp))))
 replace ha:=ha.kp kq33
 refine ec 14 (mul_i ha.num h29 (by omega)) ?_
 rintro e32 w32 ⟨⟨x32,y32,rfl,h32⟩,g32⟩
 refine ⟨_,rfl,?_⟩
 replace hB:=hB.trans g32
 replace L2:=L2.gr g32
 replace L3:=L3.gr g32
 refine ⟨⟨L2,L3⟩,?_⟩
 simp only [p3,p4]
 refine oe ?_
 replace ha:=ha.kp g32.kp
 refine ec 16 (den_i ha) ?_
 rintro e35 w35 ⟨⟨x35,y35,rfl,h35⟩,g35⟩
 refine ⟨_,rfl,?_⟩
 replace hB:=hB.trans g35
 replace L2:=L2.gr g35
 replace L3:=L3.gr g35
 refine ⟨⟨L2,L3⟩,?_⟩
 simp only [p3,p4]
 refine oe ?_
 have kq38:=g29.kp.trans (g32.kp.trans g35.kp)
 replace hb:=hb.kp kq38
 refine ec 19 (mul_i h35 hb.num (by omega)) ?_
 rintro e37 w37 ⟨⟨x37,y37,rfl,h37⟩,g37⟩
 refine ⟨_,rfl,?_⟩
 replace hB:=hB.trans g37
 replace L2:=L2.gr g37
 replace L3:=L3.gr g37
 refine ⟨⟨L2,L3⟩,?_⟩
 simp only [p3,p4]
 refine oe ?_
 have kq41:=g35.kp.trans g37.kp
 replace h32:=h32.kp kq41
 refine ec 20 (reduced_a (k+m) h32 h37 (Int.mul_ne_zero (Int.ne_of_gt (Int.natCast_pos.2 a.den_pos)) h0) (by omega) (by omega) (by omega) (by omega)) ?_
 rintro e40 w40 ⟨⟨p40,q40,r40,s40,rfl,h40⟩,g40⟩
 refine ⟨_,rfl,?_⟩
 replace hB:=hB.trans g40
 replace L2:=L2.gr g40
 replace L3:=L3.gr g40
 refine ⟨⟨L2,L3⟩,?_⟩
 simp only [p3,p4]
 refine oe ?_
 replace L4:=L4.gr (g7.trans (gd27.trans (g29.trans (g32.trans (g35.trans (g37.trans g40))))))
 refine es 33 0 (.agg #[p40,q40,r40,s40]) [p40,q40,r40,s40] #[p40,q40,r40,s40] L4 hB q4 ⟨h40.one0,h40.one1,h40.one2,h40.one3,trivial⟩ fun w43 st43 kp43 L4 hB=>?_
 replace L2:=st43.lc L2 ne2_4
 replace L3:=st43.lc L3 ne3_4
 refine ⟨⟨L2,L3⟩,?_⟩
 refine ov 5 (.int .i64 0) ?_
 refine ord_nil ?_
 refine k9 _ _ ?_
 try clear k9 K9
 refine wp_ret ?_
 refine bodyPost_ret (v:=(.tuple #[(.agg #[p40,q40,r40,s40]),(.int .i64 0)])) (ret_cell_tmp' _ _ _ rfl rfl L4 (by kernel_rfl) rfl) rfl ⟨?_,hB⟩
 replace h40:=h40.kp kp43
 exact ⟨_,_,_,_,rfl,by rw [← rat_div];exact h40⟩

set_option maxRecDepth 100000 in
set_option maxHeartbeats 1000000 in
theorem div_0 {k m:Nat} {u0 u1 u2 u3 v0 v1 v2 v3:Value} {a b:Rat} {w:World} (_ha:IsRat w k u0 u1 u2 u3 a) (hb:IsRat w m v0 v1 v2 v3 b) (h0:b.num=0):
    Calls Tryz.prog 41 #[(.agg #[u0,u1,u2,u3]),(.agg #[v0,v1,v2,v3])] w fun e w'=>e=.returned (.tuple #[.agg #[.bool false,.slice none 0 0,.bool false,.slice none 0 0],.int .i64 19])∧Gr w w':=by
 have he:(sgn (b).num==(0:Int))=true:=by rw [h0];rfl
 go_enter Tryz.func41,Tryz.ntmps41
 have hB:=Gr.refl w
 refine wp_seq_k (fun K1 k1=>?_)
 refine rg [0,1,2,3] ?_
 refine se ?_
 refine eb 33 #[u0,u1,u2,u3] 2 hB fun b2 w2 g2 L2 o2 q2 hB=>?_
 simp only [p3,p4]
 refine se ?_
 refine eb 33 #[v0,v1,v2,v3] 3 hB fun b3 w3 g3 L3 o3 q3 hB=>?_
 simp only [p3,p4]
 refine se ?_
 refine ea 33 #[(.bool false),(.slice none 0 0),(.bool false),(.slice none 0 0)] 4 hB fun b4 w4 g4 L4 o4 q4 hB=>?_
 simp only [p3,p4]
 refine sv 5 (.int .i64 0) ?_
 refine sq_nil ?_
 refine k1 _ _ ?_
 try clear k1 K1
 refine wp_seq_k (fun K5 k5=>?_)
 refine wp_seq_k (fun K6 k6=>?_)
 refine rg [0,1,2] ?_
 replace L3:=L3.gr g4
 refine sw 6 (.agg #[v0,v1,v2,v3]) rfl (rl 33 0 [v0,v1,v2,v3] L3) ?_
 refine se ?_
 have kq8:=g2.kp.trans (g3.kp.trans g4.kp)
 replace hb:=hb.kp kq8
 refine ec 7 (sign_r hb) ?_
 rintro e7 w7 ⟨rfl,g7⟩
 refine ⟨_,rfl,?_⟩
 replace hB:=hB.trans g7
 simp only [p3,p4]
 refine sw 8 (.bool true) rfl (RunV.bool (x:=(sgn (b).num==(0:Int))) (rvk (by kernel_rfl)) he) ?_
 refine sq_nil ?_
 refine k6 _ _ ?_
 try clear k6 K6
 refine wp_cond_true rfl ?_
 refine wp_seq_k (fun K9 k9=>?_)
 refine rg [0,1,2] ?_
 refine sv 9 (.agg #[(.bool false),(.slice none 0 0),(.bool false),(.slice none 0 0)]) ?_
 refine se ?_
 replace L4:=L4.gr g7
 refine es 33 0 (.agg #[(.bool false),(.slice none 0 0),(.bool false),(.slice none 0 0)]) [(.bool false),(.slice none 0 0),(.bool false),(.slice none 0 0)] #[(.bool false),(.slice none 0 0),(.bool false),(.slice none 0 0)] L4 hB q4 ⟨rfl,rfl,rfl,rfl,trivial⟩ fun w10 st10 kp10 L4 hB=>?_
 refine sv 5 (.int .i64 19) ?_
 refine sq_nil ?_
 refine k9 _ _ ?_
 try clear k9 K9
 refine wp_ret ?_
 simp only [Exit.then]
 refine bodyPost_ret (v:=(.tuple #[(.agg #[(.bool false),(.slice none 0 0),(.bool false),(.slice none 0 0)]),(.int .i64 19)])) (ret_cell_tmp' _ _ _ rfl rfl L4 (by kernel_rfl) rfl) rfl ⟨?_,hB⟩
 exact rfl

set_option maxRecDepth 100000 in
set_option maxHeartbeats 8000000 in
theorem vprim_ok {k:Nat} {uaa0 uaa1 uaa2 uaa3 uab0 uab1 uab2 uab3 uac0 uac1 uac2 uac3:Value} {a1 a2 a3:Rat} {w:World} (hua1:IsRat w k uaa0 uaa1 uaa2 uaa3 a1) (hua2:IsRat w k uab0 uab1 uab2 uab3 a2) (hua3:IsRat w k uac0 uac1 uac2 uac3 a3) (_hk:k≤2500) (hz0:¬(a1=0∧a2=0∧a3=0)):
    Calls Tryz.prog 51 #[(.agg #[uaa0,uaa1,uaa2,uaa3,uab0,uab1,uab2,uab3,uac0,uac1,uac2,uac3])] w fun e w'=>(∃ t0 t1 t2 t3 t4 t5 t6 t7 t8 t9 t10 t11,e=.returned (.tuple #[.agg #[t0,t1,t2,t3,t4,t5,t6,t7,t8,t9,t10,t11],.int .i64 0])∧IsRat w' ((64+(64+(64+k+k+k+k))+(64+(64+k+k+k+k))+(64+(64+k+k+k+k)))+(64+k+k+k+k)) t0 t1 t2 t3 (prim a1 a2 a3 a1)∧IsRat w' ((64+(64+(64+k+k+k+k))+(64+(64+k+k+k+k))+(64+(64+k+k+k+k)))+(64+k+k+k+k)) t4 t5 t6 t7 (prim a1 a2 a3 a2)∧IsRat w' ((64+(64+(64+k+k+k+k))+(64+(64+k+k+k+k))+(64+(64+k+k+k+k)))+(64+k+k+k+k)) t8 t9 t10 t11 (prim a1 a2 a3 a3))∧Gr w w':=by
 have e1:=vzero_false.2 hz0
 have hbig:=hua1.big
 have hdp:=pden_pos a1 a2 a3
 go_enter Tryz.func51,Tryz.ntmps51
 have hB:=Gr.refl w
 refine wp_seq_k (fun K1 k1=>?_)
 refine rg [0,1,2] ?_
 refine se ?_
 refine eb 35 #[uaa0,uaa1,uaa2,uaa3,uab0,uab1,uab2,uab3,uac0,uac1,uac2,uac3] 1 hB fun b2 w2 g2 L2 o2 q2 hB=>?_
 simp only [p3,p4]
 refine se ?_
 refine ea 35 #[(.bool false),(.slice none 0 0),(.bool false),(.slice none 0 0),(.bool false),(.slice none 0 0),(.bool false),(.slice none 0 0),(.bool false),(.slice none 0 0),(.bool false),(.slice none 0 0)] 2 hB fun b3 w3 g3 L3 o3 q3 hB=>?_
 have ne2_3:=L2.ne o3
 simp only [p3,p4]
 refine sv 3 (.int .i64 0) ?_
 refine sq_nil ?_
 refine k1 _ _ ?_
 try clear k1 K1
 refine wp_seq_k (fun K4 k4=>?_)
 refine wp_seq_k (fun K5 k5=>?_)
 refine rg [0,1] ?_
 replace L2:=L2.gr g3
 refine sw 17 (.agg #[uaa0,uaa1,uaa2,uaa3,uab0,uab1,uab2,uab3,uac0,uac1,uac2,uac3]) rfl (rl 35 0 [uaa0,uaa1,uaa2,uaa3,uab0,uab1,uab2,uab3,uac0,uac1,uac2,uac3] L2) ?_
 refine se ?_
 have kq7:=g2.kp.trans g3.kp
 replace hua1:=hua1.kp kq7
 replace hua2:=hua2.kp kq7
 replace hua3:=hua3.kp kq7
 refine ec 18 (vzero_b hua1 hua2 hua3 (by omega) false e1) ?_
 rintro e6 w6 ⟨rfl,g6⟩
 refine ⟨_,rfl,?_⟩
 replace hB:=hB.trans g6
 simp only [p3,p4]
 refine sq_nil ?_
 refine k5 _ _ ?_
 try clear k5 K5
 refine wp_cond_false rfl ?_
 refine wp_skip ?_
 refine k4 _ _ ?_
 try clear k4 K4
 refine wp_seq_k (fun K8 k8=>?_)
 refine rg [0,1,2] ?_
 refine se ?_
 refine ec 20 (from_i (1) (by omega) (by omega) _) ?_
 rintro e9 w9 ⟨⟨x9,y9,rfl,h9⟩,g9⟩
 refine ⟨_,rfl,?_⟩
 replace hB:=hB.trans g9
 simp only [p3,p4]
 refine se ?_
 refine ea 31 #[(.bool false),(.slice none 0 0)] 4 hB fun b10 w10 g10 L10 o10 q10 hB=>?_
 replace L2:=L2.gr (g6.trans g9)
 have ne2_10:=L2.ne o10
 replace L3:=L3.gr (g6.trans g9)
 have ne3_10:=L3.ne o10
 simp only [p3,p4]
 refine se ?_
 refine es 31 0 (.agg #[x9,y9]) [x9,y9] #[x9,y9] L10 hB q10 ⟨h9.one0,h9.one1,trivial⟩ fun w11 st11 kp11 L10 hB=>?_
 refine sq_nil ?_
 refine k8 _ _ ?_
 try clear k8 K8
 refine wp_seq_k (fun K12 k12=>?_)
 refine wp_seq_k (fun K13 k13=>?_)
 refine rg [0,1] ?_
 replace L2:=st11.lc (L2.gr g10) ne2_10
 refine sw 21 (.agg #[uaa0,uaa1,uaa2,uaa3,uab0,uab1,uab2,uab3,uac0,uac1,uac2,uac3]) rfl (rl 35 0 [uaa0,uaa1,uaa2,uaa3,uab0,uab1,uab2,uab3,uac0,uac1,uac2,uac3] L2) ?_
 refine sv 22 (.int .i64 0) ?_
 refine sq_nil ?_
 refine k13 _ _ ?_
 try clear k13 K13
 refine wp_block ?_
 refine wp_loop_rounds 4 ?_
 show Code.wp _ _ _ _ _
 refine wp_seq_k (fun K14 k14=>?_)
 refine rg [0] ?_
 refine sv 23 (.bool true) ?_
 refine sq_nil ?_
 refine k14 _ _ ?_
 try clear k14 K14
 refine wp_seq_k (fun K15 k15=>?_)
 refine wp_cond_true rfl ?_
 refine wp_skip ?_
 refine k15 _ _ ?_
 try clear k15 K15
 refine wp_seq_k (fun K16 k16=>?_)
 refine wp_block ?_
 refine wp_seq_k (fun K17 k17=>?_)
 refine rg [0,1,2] ?_
 refine sv 24 (.agg #[uaa0,uaa1,uaa2,uaa3]) ?_
 refine se ?_
 refine ea 33 #[(.bool false),(.slice none 0 0),(.bool false),(.slice none 0 0)] 6 hB fun b18 w18 g18 L18 o18 q18 hB=>?_
 have ne2_18:=L2.ne o18
 replace L3:=st11.lc (L3.gr g10) ne3_10
 have ne3_18:=L3.ne o18
 have ne10_18:=L10.ne o18
 simp only [p3,p4]
 refine se ?_
 refine es 33 0 (.agg #[uaa0,uaa1,uaa2,uaa3]) [uaa0,uaa1,uaa2,uaa3] #[uaa0,uaa1,uaa2,uaa3] L18 hB q18 ⟨hua1.one0,hua1.one1,hua1.one2,hua1.one3,trivial⟩ fun w19 st19 kp19 L18 hB=>?_
 refine sq_nil ?_
 refine k17 _ _ ?_
 try clear k17 K17
 refine wp_seq_k (fun K20 k20=>?_)
 have hz21:=Below.size hB
 replace L2:=st19.lc (L2.gr g18) ne2_18
 have lt2_21:=L2.lt
 replace L3:=st19.lc (L3.gr g18) ne3_18
 have lt3_21:=L3.lt
 replace L10:=st19.lc (L10.gr g18) ne10_18
 have lt10_21:=L10.lt
 have lt18_21:=L18.lt
 have gd21:=Gr.drew w19
 replace hB:=hB.trans gd21
 replace L10:=L10.gr gd21
 replace L18:=L18.gr gd21
 refine wp_region_flo (fun w'=>Lc w' b10 #[x9,y9] 31∧Lc w' b18 #[uaa0,uaa1,uaa2,uaa3] 33) [(true,0),(true,1),(true,2),(false,3),(false,4),(false,5),(true,6),(true,7),(true,8),(true,9)] [⟨10,7,31,#[(.bool false),(.slice none 0 0)]⟩,⟨11,8,31,#[(.bool false),(.slice none 0 0)]⟩] [(false,12),(false,13),(true,14)] (by kernel_rfl) (by kernel_rfl) (by kernel_rfl) (by kernel_rfl) (by kernel_rfl) (by decide) (fun _ _ _ _ _ h=>h) (fun _ _ _ _ _ h=>h) (fun w' o h=>⟨Lc.gr h.1 (Gr.alloc w' o),Lc.gr h.2 (Gr.alloc w' o)⟩) ⟨L10,L18⟩ (by intro f hf;simp only [List.mem_cons,List.not_mem_nil,or_false] at hf;rcases hf with rfl | rfl<;>first | exact alloc_zero (z:=(.agg #[(.bool false),(.slice none 0 0)])) (by kernel_rfl) rfl | exact alloc_zero (z:=(.agg #[(.bool false),(.slice none 0 0)])) (by kernel_rfl) rfl) ?_
 refine fw 26 (.agg #[x9,y9]) rfl (fun w' hS=>(rl 31 0 [x9,y9] hS.1)) ?_
 refine fw 27 (.agg #[x9,y9]) rfl (fun w' hS=>(rl 31 0 [x9,y9] hS.1)) ?_
 refine fw 28 (.agg #[uaa0,uaa1,uaa2,uaa3]) rfl (fun w' hS=>(rl 33 0 [uaa0,uaa1,uaa2,uaa3] hS.2)) ?_
 refine flo_eff rfl rfl (fun w22 g22 _ K22 k22=>?_)
 replace hB:=hB.trans g22
 have kq24:=g6.kp.trans (g9.kp.trans (g10.kp.trans (kp11.trans (g18.kp.trans (kp19.trans (gd21.kp.trans g22.kp))))))
 replace hua1:=hua1.kp kq24
 refine ec 29 (den_i hua1) ?_
 rintro e23 w23 ⟨⟨x23,y23,rfl,h23⟩,g23⟩
 refine ⟨_,rfl,?_⟩
 replace hB:=hB.trans g23
 replace L10:=L10.gr (g22.trans g23)
 replace L18:=L18.gr (g22.trans g23)
 refine k22 _ _ g23 ⟨L10,L18⟩ ?_
 try clear k22 K22
 simp only [p3,p4]
 refine flo_eff rfl rfl (fun w25 g25 _ K25 k25=>?_)
 replace hB:=hB.trans g25
 have kq27:=g10.kp.trans (kp11.trans (g18.kp.trans (kp19.trans (gd21.kp.trans (g22.kp.trans (g23.kp.trans g25.kp))))))
 replace h9:=h9.kp kq27
 replace h23:=h23.kp g25.kp
 refine ec 30 (gcd_i h9 h23 (by omega)) ?_
 rintro e26 w26 ⟨⟨x26,y26,rfl,h26⟩,g26⟩
 refine ⟨_,rfl,?_⟩
 replace hB:=hB.trans g26
 replace L10:=L10.gr (g25.trans g26)
 replace L18:=L18.gr (g25.trans g26)
 refine k25 _ _ g26 ⟨L10,L18⟩ ?_
 try clear k25 K25
 simp only [p3,p4]
 refine flo_eff rfl rfl (fun w28 g28 _ K28 k28=>?_)
 replace hB:=hB.trans g28
 have kq30:=g26.kp.trans g28.kp
 replace h9:=h9.kp kq30
 replace h26:=h26.kp g28.kp
 refine ec 31 (divmod_i h9 h26 (gcd_ex _ _).1 (by omega)) ?_
 rintro e29 w29 ⟨⟨x29,y29,xr29,yr29,rfl,h29,hr29⟩,g29⟩
 refine ⟨_,rfl,?_⟩
 replace hB:=hB.trans g29
 replace L10:=L10.gr (g28.trans g29)
 replace L18:=L18.gr (g28.trans g29)
 refine k28 _ _ g29 ⟨L10,L18⟩ ?_
 try clear k28 K28
 simp only [p3,p4]
 refine fv 25 (.tuple #[(.agg #[x29,y29]),(.agg #[xr29,yr29]),(.int .i64 0)]) ?_
 refine fv 32 (.agg #[x29,y29]) ?_
 refine fv 33 (.agg #[xr29,yr29]) ?_
 refine fv 34 (.int .i64 0) ?_
 refine flo_nil (fun w31 g31 _=>?_)
 replace hB:=hB.trans g31
 refine floFin2 (fun b32 b33 (L32:Lc w31 b32 #[(.bool false),(.slice none 0 0)] 31) q32 (L33:Lc w31 b33 #[(.bool false),(.slice none 0 0)] 31) q33 ne32_33=>?_)
 have ne2_32:b2≠b32:=Nat.ne_of_lt (Nat.lt_of_lt_of_le lt2_21 q32)
 have ne3_32:b3≠b32:=Nat.ne_of_lt (Nat.lt_of_lt_of_le lt3_21 q32)
 have ne10_32:b10≠b32:=Nat.ne_of_lt (Nat.lt_of_lt_of_le lt10_21 q32)
 have ne18_32:b18≠b32:=Nat.ne_of_lt (Nat.lt_of_lt_of_le lt18_21 q32)
 replace q32:=Nat.le_trans hz21 q32
 have ne2_33:b2≠b33:=Nat.ne_of_lt (Nat.lt_of_lt_of_le lt2_21 q33)
 have ne3_33:b3≠b33:=Nat.ne_of_lt (Nat.lt_of_lt_of_le lt3_21 q33)
 have ne10_33:b10≠b33:=Nat.ne_of_lt (Nat.lt_of_lt_of_le lt10_21 q33)
 have ne18_33:b18≠b33:=Nat.ne_of_lt (Nat.lt_of_lt_of_le lt18_21 q33)
 replace q33:=Nat.le_trans hz21 q33
 simp only [putl,p3,p4]
 refine oe ?_
 refine es 31 0 (.agg #[x29,y29]) [x29,y29] #[x29,y29] L32 hB q32 ⟨h29.one0,h29.one1,trivial⟩ fun w35 st35 kp35 L32 hB=>?_
 replace L10:=st35.lc (L10.gr g31) ne10_32
 replace L18:=st35.lc (L18.gr g31) ne18_32
 refine ⟨⟨L10,L18⟩,?_⟩
 refine oe ?_
 replace L33:=st35.lc L33 (Ne.symm ne32_33)
 refine es 31 0 (.agg #[xr29,yr29]) [xr29,yr29] #[xr29,yr29] L33 hB q33 ⟨hr29.one0,hr29.one1,trivial⟩ fun w37 st37 kp37 L33 hB=>?_
 replace L10:=st37.lc L10 ne10_33
 replace L18:=st37.lc L18 ne18_33
 refine ⟨⟨L10,L18⟩,?_⟩
 refine ov 9 (.int .i64 0) ?_
 refine ord_nil ?_
 refine k20 _ _ ?_
 try clear k20 K20
 have gd47:=Gr.drew w37
 replace hB:=hB.trans gd47
 replace L18:=L18.gr gd47
 replace L32:=(st37.lc L32 ne32_33).gr gd47
 refine wp_region_ord (fun w'=>Lc w' b18 #[uaa0,uaa1,uaa2,uaa3] 33∧Lc w' b32 #[x29,y29] 31) [(true,0),(true,1),(false,2),(false,3),(false,4)] (by kernel_rfl) (by kernel_rfl) (by kernel_rfl) (by decide) (fun _ _ _ _ _ h=>h) ⟨L18,L32⟩ ?_
 refine ow 35 (.agg #[x29,y29]) rfl (fun w' hS=>(rl 31 0 [x29,y29] hS.2)) ?_
 refine ow 36 (.agg #[uaa0,uaa1,uaa2,uaa3]) rfl (fun w' hS=>(rl 33 0 [uaa0,uaa1,uaa2,uaa3] hS.1)) ?_
 refine oe ?_
 have kq50:=g23.kp.trans (g25.kp.trans (g26.kp.trans (g28.kp.trans (g29.kp.trans (g31.kp.trans (kp35.trans (kp37.trans gd47.kp)))))))
 replace hua1:=hua1.kp kq50
 refine ec 37 (den_i hua1) ?_
 rintro e49 w49 ⟨⟨x49,y49,rfl,h49⟩,g49⟩
 refine ⟨_,rfl,?_⟩
 replace hB:=hB.trans g49
 replace L18:=L18.gr g49
 replace L32:=L32.gr g49
 refine ⟨⟨L18,L32⟩,?_⟩
 simp only [p3,p4]
 refine oe ?_
 have kq53:=g31.kp.trans (kp35.trans (kp37.trans (gd47.kp.trans g49.kp)))
 replace h29:=h29.kp kq53
 refine ec 38 (mul_i h29 h49 (by omega)) ?_
 rintro e52 w52 ⟨⟨x52,y52,rfl,h52⟩,g52⟩
 refine ⟨_,rfl,?_⟩
 replace hB:=hB.trans g52
 replace h52:=(show IsInt _ _ _ _ (lcmS (1) (a1.den:Int)) from h52)
 replace L18:=L18.gr g52
 replace L32:=L32.gr g52
 refine ⟨⟨L18,L32⟩,?_⟩
 simp only [p3,p4]
 refine oe ?_
 replace L10:=L10.gr (gd47.trans (g49.trans g52))
 refine es 31 0 (.agg #[x52,y52]) [x52,y52] #[x52,y52] L10 hB q10 ⟨h52.one0,h52.one1,trivial⟩ fun w55 st55 kp55 L10 hB=>?_
 replace L18:=st55.lc L18 (Ne.symm ne10_18)
 replace L32:=st55.lc L32 (Ne.symm ne10_32)
 refine ⟨⟨L18,L32⟩,?_⟩
 refine ord_nil ?_
 refine k16 _ _ ?_
 try clear k16 K16
 refine rg [0,1] ?_
 refine sv 39 (.int .i64 1) ?_
 refine sv 22 (.int .i64 1) ?_
 refine sq_nil ?_
 show Code.rounds _ _ _ _ _ _
 show Code.wp _ _ _ _ _
 refine wp_seq_k (fun K56 k56=>?_)
 refine rg [0] ?_
 refine sv 23 (.bool true) ?_
 refine sq_nil ?_
 refine k56 _ _ ?_
 try clear k56 K56
 refine wp_seq_k (fun K57 k57=>?_)
 refine wp_cond_true rfl ?_
 refine wp_skip ?_
 refine k57 _ _ ?_
 try clear k57 K57
 refine wp_seq_k (fun K58 k58=>?_)
 refine wp_block ?_
 refine wp_seq_k (fun K59 k59=>?_)
 refine rg [0,1,2] ?_
 refine sv 24 (.agg #[uab0,uab1,uab2,uab3]) ?_
 refine se ?_
 refine ea 33 #[(.bool false),(.slice none 0 0),(.bool false),(.slice none 0 0)] 6 hB fun b60 w60 g60 L60 o60 q60 hB=>?_
 replace L2:=st55.lc ((st37.lc (st35.lc (L2.gr (gd21.trans (g22.trans (g23.trans (g25.trans (g26.trans (g28.trans (g29.trans g31)))))))) ne2_32) ne2_33).gr (gd47.trans (g49.trans g52))) ne2_10
 have ne2_60:=L2.ne o60
 replace L3:=st55.lc ((st37.lc (st35.lc (L3.gr (gd21.trans (g22.trans (g23.trans (g25.trans (g26.trans (g28.trans (g29.trans g31)))))))) ne3_32) ne3_33).gr (gd47.trans (g49.trans g52))) ne3_10
 have ne3_60:=L3.ne o60
 have ne10_60:=L10.ne o60
 have ne32_60:=L32.ne o60
 replace L33:=st55.lc (L33.gr (gd47.trans (g49.trans g52))) (Ne.symm ne10_33)
 have ne33_60:=L33.ne o60
 simp only [p3,p4]
 refine se ?_
 refine es 33 0 (.agg #[uab0,uab1,uab2,uab3]) [uab0,uab1,uab2,uab3] #[uab0,uab1,uab2,uab3] L60 hB q60 ⟨hua2.one0,hua2.one1,hua2.one2,hua2.one3,trivial⟩ fun w61 st61 kp61 L60 hB=>?_
 refine sq_nil ?_
 refine k59 _ _ ?_
 try clear k59 K59
 refine wp_seq_k (fun K62 k62=>?_)
 have hz63:=Below.size hB
 replace L2:=st61.lc (L2.gr g60) ne2_60
 have lt2_63:=L2.lt
 replace L3:=st61.lc (L3.gr g60) ne3_60
 have lt3_63:=L3.lt
 replace L10:=st61.lc (L10.gr g60) ne10_60
 have lt10_63:=L10.lt
 replace L32:=st61.lc (L32.gr g60) ne32_60
 have lt32_63:=L32.lt
 replace L33:=st61.lc (L33.gr g60) ne33_60
 have lt33_63:=L33.lt
 have lt60_63:=L60.lt
 have gd63:=Gr.drew w61
 replace hB:=hB.trans gd63
 replace L10:=L10.gr gd63
 replace L60:=L60.gr gd63
 refine wp_region_flo (fun w'=>Lc w' b10 #[x52,y52] 31∧Lc w' b60 #[uab0,uab1,uab2,uab3] 33) [(true,0),(true,1),(true,2),(false,3),(false,4),(false,5),(true,6),(true,7),(true,8),(true,9)] [⟨10,7,31,#[(.bool false),(.slice none 0 0)]⟩,⟨11,8,31,#[(.bool false),(.slice none 0 0)]⟩] [(false,12),(false,13),(true,14)] (by kernel_rfl) (by kernel_rfl) (by kernel_rfl) (by kernel_rfl) (by kernel_rfl) (by decide) (fun _ _ _ _ _ h=>h) (fun _ _ _ _ _ h=>h) (fun w' o h=>⟨Lc.gr h.1 (Gr.alloc w' o),Lc.gr h.2 (Gr.alloc w' o)⟩) ⟨L10,L60⟩ (by intro f hf;simp only [List.mem_cons,List.not_mem_nil,or_false] at hf;rcases hf with rfl | rfl<;>first | exact alloc_zero (z:=(.agg #[(.bool false),(.slice none 0 0)])) (by kernel_rfl) rfl | exact alloc_zero (z:=(.agg #[(.bool false),(.slice none 0 0)])) (by kernel_rfl) rfl) ?_
 refine fw 26 (.agg #[x52,y52]) rfl (fun w' hS=>(rl 31 0 [x52,y52] hS.1)) ?_
 refine fw 27 (.agg #[x52,y52]) rfl (fun w' hS=>(rl 31 0 [x52,y52] hS.1)) ?_
 refine fw 28 (.agg #[uab0,uab1,uab2,uab3]) rfl (fun w' hS=>(rl 33 0 [uab0,uab1,uab2,uab3] hS.2)) ?_
 refine flo_eff rfl rfl (fun w64 g64 _ K64 k64=>?_)
 replace hB:=hB.trans g64
 have kq66:=g6.kp.trans (g9.kp.trans (g10.kp.trans (kp11.trans (g18.kp.trans (kp19.trans (gd21.kp.trans (g22.kp.trans (g23.kp.trans (g25.kp.trans (g26.kp.trans (g28.kp.trans (g29.kp.trans (g31.kp.trans (kp35.trans (kp37.trans (gd47.kp.trans (g49.kp.trans (g52.kp.trans (kp55.trans (g60.kp.trans (kp61.trans (gd63.kp.trans g64.kp))))))))))))))))))))))
 replace hua2:=hua2.kp kq66
 refine ec 29 (den_i hua2) ?_
 rintro e65 w65 ⟨⟨x65,y65,rfl,h65⟩,g65⟩
 refine ⟨_,rfl,?_⟩
 replace hB:=hB.trans g65
 replace L10:=L10.gr (g64.trans g65)
 replace L60:=L60.gr (g64.trans g65)
 refine k64 _ _ g65 ⟨L10,L60⟩ ?_
 try clear k64 K64
 simp only [p3,p4]
 refine flo_eff rfl rfl (fun w67 g67 _ K67 k67=>?_)
 replace hB:=hB.trans g67
 have kq69:=kp55.trans (g60.kp.trans (kp61.trans (gd63.kp.trans (g64.kp.trans (g65.kp.trans g67.kp)))))
 replace h52:=h52.kp kq69
 replace h65:=h65.kp g67.kp
 refine ec 30 (gcd_i h52 h65 (by omega)) ?_
 rintro e68 w68 ⟨⟨x68,y68,rfl,h68⟩,g68⟩
 refine ⟨_,rfl,?_⟩
 replace hB:=hB.trans g68
 replace L10:=L10.gr (g67.trans g68)
 replace L60:=L60.gr (g67.trans g68)
 refine k67 _ _ g68 ⟨L10,L60⟩ ?_
 try clear k67 K67
 simp only [p3,p4]
 refine flo_eff rfl rfl (fun w70 g70 _ K70 k70=>?_)
 replace hB:=hB.trans g70
 have kq72:=g68.kp.trans g70.kp
 replace h52:=h52.kp kq72
 replace h68:=h68.kp g70.kp
 refine ec 31 (divmod_i h52 h68 (gcd_ex _ _).1 (by omega)) ?_
 rintro e71 w71 ⟨⟨x71,y71,xr71,yr71,rfl,h71,hr71⟩,g71⟩
 refine ⟨_,rfl,?_⟩
 replace hB:=hB.trans g71
 replace L10:=L10.gr (g70.trans g71)
 replace L60:=L60.gr (g70.trans g71)
 refine k70 _ _ g71 ⟨L10,L60⟩ ?_
 try clear k70 K70
 simp only [p3,p4]
 refine fv 25 (.tuple #[(.agg #[x71,y71]),(.agg #[xr71,yr71]),(.int .i64 0)]) ?_
 refine fv 32 (.agg #[x71,y71]) ?_
 refine fv 33 (.agg #[xr71,yr71]) ?_
 refine fv 34 (.int .i64 0) ?_
 refine flo_nil (fun w73 g73 _=>?_)
 replace hB:=hB.trans g73
 refine floFin2 (fun b74 b75 (L74:Lc w73 b74 #[(.bool false),(.slice none 0 0)] 31) q74 (L75:Lc w73 b75 #[(.bool false),(.slice none 0 0)] 31) q75 ne74_75=>?_)
 have ne2_74:b2≠b74:=Nat.ne_of_lt (Nat.lt_of_lt_of_le lt2_63 q74)
 have ne3_74:b3≠b74:=Nat.ne_of_lt (Nat.lt_of_lt_of_le lt3_63 q74)
 have ne10_74:b10≠b74:=Nat.ne_of_lt (Nat.lt_of_lt_of_le lt10_63 q74)
 have ne32_74:b32≠b74:=Nat.ne_of_lt (Nat.lt_of_lt_of_le lt32_63 q74)
 have ne33_74:b33≠b74:=Nat.ne_of_lt (Nat.lt_of_lt_of_le lt33_63 q74)
 have ne60_74:b60≠b74:=Nat.ne_of_lt (Nat.lt_of_lt_of_le lt60_63 q74)
 replace q74:=Nat.le_trans hz63 q74
 have ne2_75:b2≠b75:=Nat.ne_of_lt (Nat.lt_of_lt_of_le lt2_63 q75)
 have ne3_75:b3≠b75:=Nat.ne_of_lt (Nat.lt_of_lt_of_le lt3_63 q75)
 have ne10_75:b10≠b75:=Nat.ne_of_lt (Nat.lt_of_lt_of_le lt10_63 q75)
 have ne32_75:b32≠b75:=Nat.ne_of_lt (Nat.lt_of_lt_of_le lt32_63 q75)
 have ne33_75:b33≠b75:=Nat.ne_of_lt (Nat.lt_of_lt_of_le lt33_63 q75)
 have ne60_75:b60≠b75:=Nat.ne_of_lt (Nat.lt_of_lt_of_le lt60_63 q75)
 replace q75:=Nat.le_trans hz63 q75
 simp only [putl,p3,p4]
 refine oe ?_
 refine es 31 0 (.agg #[x71,y71]) [x71,y71] #[x71,y71] L74 hB q74 ⟨h71.one0,h71.one1,trivial⟩ fun w77 st77 kp77 L74 hB=>?_
 replace L10:=st77.lc (L10.gr g73) ne10_74
 replace L60:=st77.lc (L60.gr g73) ne60_74
 refine ⟨⟨L10,L60⟩,?_⟩
 refine oe ?_
 replace L75:=st77.lc L75 (Ne.symm ne74_75)
 refine es 31 0 (.agg #[xr71,yr71]) [xr71,yr71] #[xr71,yr71] L75 hB q75 ⟨hr71.one0,hr71.one1,trivial⟩ fun w79 st79 kp79 L75 hB=>?_
 replace L10:=st79.lc L10 ne10_75
 replace L60:=st79.lc L60 ne60_75
 refine ⟨⟨L10,L60⟩,?_⟩
 refine ov 9 (.int .i64 0) ?_
 refine ord_nil ?_
 refine k62 _ _ ?_
 try clear k62 K62
 have gd89:=Gr.drew w79
 replace hB:=hB.trans gd89
 replace L60:=L60.gr gd89
 replace L74:=(st79.lc L74 ne74_75).gr gd89
 refine wp_region_ord (fun w'=>Lc w' b60 #[uab0,uab1,uab2,uab3] 33∧Lc w' b74 #[x71,y71] 31) [(true,0),(true,1),(false,2),(false,3),(false,4)] (by kernel_rfl) (by kernel_rfl) (by kernel_rfl) (by decide) (fun _ _ _ _ _ h=>h) ⟨L60,L74⟩ ?_
 refine ow 35 (.agg #[x71,y71]) rfl (fun w' hS=>(rl 31 0 [x71,y71] hS.2)) ?_
 refine ow 36 (.agg #[uab0,uab1,uab2,uab3]) rfl (fun w' hS=>(rl 33 0 [uab0,uab1,uab2,uab3] hS.1)) ?_
 refine oe ?_
 have kq92:=g65.kp.trans (g67.kp.trans (g68.kp.trans (g70.kp.trans (g71.kp.trans (g73.kp.trans (kp77.trans (kp79.trans gd89.kp)))))))
 replace hua2:=hua2.kp kq92
 refine ec 37 (den_i hua2) ?_
 rintro e91 w91 ⟨⟨x91,y91,rfl,h91⟩,g91⟩
 refine ⟨_,rfl,?_⟩
 replace hB:=hB.trans g91
 replace L60:=L60.gr g91
 replace L74:=L74.gr g91
 refine ⟨⟨L60,L74⟩,?_⟩
 simp only [p3,p4]
 refine oe ?_
 have kq95:=g73.kp.trans (kp77.trans (kp79.trans (gd89.kp.trans g91.kp)))
 replace h71:=h71.kp kq95
 refine ec 38 (mul_i h71 h91 (by omega)) ?_
 rintro e94 w94 ⟨⟨x94,y94,rfl,h94⟩,g94⟩
 refine ⟨_,rfl,?_⟩
 replace hB:=hB.trans g94
 replace h94:=(show IsInt _ _ _ _ (lcmS (lcmS (1) (a1.den:Int)) (a2.den:Int)) from h94)
 replace L60:=L60.gr g94
 replace L74:=L74.gr g94
 refine ⟨⟨L60,L74⟩,?_⟩
 simp only [p3,p4]
 refine oe ?_
 replace L10:=L10.gr (gd89.trans (g91.trans g94))
 refine es 31 0 (.agg #[x94,y94]) [x94,y94] #[x94,y94] L10 hB q10 ⟨h94.one0,h94.one1,trivial⟩ fun w97 st97 kp97 L10 hB=>?_
 replace L60:=st97.lc L60 (Ne.symm ne10_60)
 replace L74:=st97.lc L74 (Ne.symm ne10_74)
 refine ⟨⟨L60,L74⟩,?_⟩
 refine ord_nil ?_
 refine k58 _ _ ?_
 try clear k58 K58
 refine rg [0,1] ?_
 refine sv 39 (.int .i64 2) ?_
 refine sv 22 (.int .i64 2) ?_
 refine sq_nil ?_
 show Code.rounds _ _ _ _ _ _
 show Code.wp _ _ _ _ _
 refine wp_seq_k (fun K98 k98=>?_)
 refine rg [0] ?_
 refine sv 23 (.bool true) ?_
 refine sq_nil ?_
 refine k98 _ _ ?_
 try clear k98 K98
 refine wp_seq_k (fun K99 k99=>?_)
 refine wp_cond_true rfl ?_
 refine wp_skip ?_
 refine k99 _ _ ?_
 try clear k99 K99
 refine wp_seq_k (fun K100 k100=>?_)
 refine wp_block ?_
 refine wp_seq_k (fun K101 k101=>?_)
 refine rg [0,1,2] ?_
 refine sv 24 (.agg #[uac0,uac1,uac2,uac3]) ?_
 refine se ?_
 refine ea 33 #[(.bool false),(.slice none 0 0),(.bool false),(.slice none 0 0)] 6 hB fun b102 w102 g102 L102 o102 q102 hB=>?_
 replace L2:=st97.lc ((st79.lc (st77.lc (L2.gr (gd63.trans (g64.trans (g65.trans (g67.trans (g68.trans (g70.trans (g71.trans g73)))))))) ne2_74) ne2_75).gr (gd89.trans (g91.trans g94))) ne2_10
 have ne2_102:=L2.ne o102
 replace L3:=st97.lc ((st79.lc (st77.lc (L3.gr (gd63.trans (g64.trans (g65.trans (g67.trans (g68.trans (g70.trans (g71.trans g73)))))))) ne3_74) ne3_75).gr (gd89.trans (g91.trans g94))) ne3_10
 have ne3_102:=L3.ne o102
 have ne10_102:=L10.ne o102
 have ne74_102:=L74.ne o102
 replace L75:=st97.lc (L75.gr (gd89.trans (g91.trans g94))) (Ne.symm ne10_75)
 have ne75_102:=L75.ne o102
 simp only [p3,p4]
 refine se ?_
 refine es 33 0 (.agg #[uac0,uac1,uac2,uac3]) [uac0,uac1,uac2,uac3] #[uac0,uac1,uac2,uac3] L102 hB q102 ⟨hua3.one0,hua3.one1,hua3.one2,hua3.one3,trivial⟩ fun w103 st103 kp103 L102 hB=>?_
 refine sq_nil ?_
 refine k101 _ _ ?_
 try clear k101 K101
 refine wp_seq_k (fun K104 k104=>?_)
 have hz105:=Below.size hB
 replace L2:=st103.lc (L2.gr g102) ne2_102
 have lt2_105:=L2.lt
 replace L3:=st103.lc (L3.gr g102) ne3_102
 have lt3_105:=L3.lt
 replace L10:=st103.lc (L10.gr g102) ne10_102
 have lt10_105:=L10.lt
 replace L74:=st103.lc (L74.gr g102) ne74_102
 have lt74_105:=L74.lt
 replace L75:=st103.lc (L75.gr g102) ne75_102
 have lt75_105:=L75.lt
 have lt102_105:=L102.lt
 have gd105:=Gr.drew w103
 replace hB:=hB.trans gd105
 replace L10:=L10.gr gd105
 replace L102:=L102.gr gd105
 refine wp_region_flo (fun w'=>Lc w' b10 #[x94,y94] 31∧Lc w' b102 #[uac0,uac1,uac2,uac3] 33) [(true,0),(true,1),(true,2),(false,3),(false,4),(false,5),(true,6),(true,7),(true,8),(true,9)] [⟨10,7,31,#[(.bool false),(.slice none 0 0)]⟩,⟨11,8,31,#[(.bool false),(.slice none 0 0)]⟩] [(false,12),(false,13),(true,14)] (by kernel_rfl) (by kernel_rfl) (by kernel_rfl) (by kernel_rfl) (by kernel_rfl) (by decide) (fun _ _ _ _ _ h=>h) (fun _ _ _ _ _ h=>h) (fun w' o h=>⟨Lc.gr h.1 (Gr.alloc w' o),Lc.gr h.2 (Gr.alloc w' o)⟩) ⟨L10,L102⟩ (by intro f hf;simp only [List.mem_cons,List.not_mem_nil,or_false] at hf;rcases hf with rfl | rfl<;>first | exact alloc_zero (z:=(.agg #[(.bool false),(.slice none 0 0)])) (by kernel_rfl) rfl | exact alloc_zero (z:=(.agg #[(.bool false),(.slice none 0 0)])) (by kernel_rfl) rfl) ?_
 refine fw 26 (.agg #[x94,y94]) rfl (fun w' hS=>(rl 31 0 [x94,y94] hS.1)) ?_
 refine fw 27 (.agg #[x94,y94]) rfl (fun w' hS=>(rl 31 0 [x94,y94] hS.1)) ?_
 refine fw 28 (.agg #[uac0,uac1,uac2,uac3]) rfl (fun w' hS=>(rl 33 0 [uac0,uac1,uac2,uac3] hS.2)) ?_
 refine flo_eff rfl rfl (fun w106 g106 _ K106 k106=>?_)
 replace hB:=hB.trans g106
 have kq108:=g6.kp.trans (g9.kp.trans (g10.kp.trans (kp11.trans (g18.kp.trans (kp19.trans (gd21.kp.trans (g22.kp.trans (g23.kp.trans (g25.kp.trans (g26.kp.trans (g28.kp.trans (g29.kp.trans (g31.kp.trans (kp35.trans (kp37.trans (gd47.kp.trans (g49.kp.trans (g52.kp.trans (kp55.trans (g60.kp.trans (kp61.trans (gd63.kp.trans (g64.kp.trans (g65.kp.trans (g67.kp.trans (g68.kp.trans (g70.kp.trans (g71.kp.trans (g73.kp.trans (kp77.trans (kp79.trans (gd89.kp.trans (g91.kp.trans (g94.kp.trans (kp97.trans (g102.kp.trans (kp103.trans (gd105.kp.trans g106.kp))))))))))))))))))))))))))))))))))))))
 replace hua3:=hua3.kp kq108
 refine ec 29 (den_i hua3) ?_
 rintro e107 w107 ⟨⟨x107,y107,rfl,h107⟩,g107⟩
 refine ⟨_,rfl,?_⟩
 replace hB:=hB.trans g107
 replace L10:=L10.gr (g106.trans g107)
 replace L102:=L102.gr (g106.trans g107)
 refine k106 _ _ g107 ⟨L10,L102⟩ ?_
 try clear k106 K106
 simp only [p3,p4]
 refine flo_eff rfl rfl (fun w109 g109 _ K109 k109=>?_)
 replace hB:=hB.trans g109
 have kq111:=kp97.trans (g102.kp.trans (kp103.trans (gd105.kp.trans (g106.kp.trans (g107.kp.trans g109.kp)))))
 replace h94:=h94.kp kq111
 replace h107:=h107.kp g109.kp
 refine ec 30 (gcd_i h94 h107 (by omega)) ?_
 rintro e110 w110 ⟨⟨x110,y110,rfl,h110⟩,g110⟩
 refine ⟨_,rfl,?_⟩
 replace hB:=hB.trans g110
 replace L10:=L10.gr (g109.trans g110)
 replace L102:=L102.gr (g109.trans g110)
 refine k109 _ _ g110 ⟨L10,L102⟩ ?_
 try clear k109 K109
 simp only [p3,p4]
 refine flo_eff rfl rfl (fun w112 g112 _ K112 k112=>?_)
 replace hB:=hB.trans g112
 have kq114:=g110.kp.trans g112.kp
 replace h94:=h94.kp kq114
 replace h110:=h110.kp g112.kp
 refine ec 31 (divmod_i h94 h110 (gcd_ex _ _).1 (by omega)) ?_
 rintro e113 w113 ⟨⟨x113,y113,xr113,yr113,rfl,h113,hr113⟩,g113⟩
 refine ⟨_,rfl,?_⟩
 replace hB:=hB.trans g113
 replace L10:=L10.gr (g112.trans g113)
 replace L102:=L102.gr (g112.trans g113)
 refine k112 _ _ g113 ⟨L10,L102⟩ ?_
 try clear k112 K112
 simp only [p3,p4]
 refine fv 25 (.tuple #[(.agg #[x113,y113]),(.agg #[xr113,yr113]),(.int .i64 0)]) ?_
 refine fv 32 (.agg #[x113,y113]) ?_
 refine fv 33 (.agg #[xr113,yr113]) ?_
 refine fv 34 (.int .i64 0) ?_
 refine flo_nil (fun w115 g115 _=>?_)
 replace hB:=hB.trans g115
 refine floFin2 (fun b116 b117 (L116:Lc w115 b116 #[(.bool false),(.slice none 0 0)] 31) q116 (L117:Lc w115 b117 #[(.bool false),(.slice none 0 0)] 31) q117 ne116_117=>?_)
 have ne2_116:b2≠b116:=Nat.ne_of_lt (Nat.lt_of_lt_of_le lt2_105 q116)
 have ne3_116:b3≠b116:=Nat.ne_of_lt (Nat.lt_of_lt_of_le lt3_105 q116)
 have ne10_116:b10≠b116:=Nat.ne_of_lt (Nat.lt_of_lt_of_le lt10_105 q116)
 have ne74_116:b74≠b116:=Nat.ne_of_lt (Nat.lt_of_lt_of_le lt74_105 q116)
 have ne75_116:b75≠b116:=Nat.ne_of_lt (Nat.lt_of_lt_of_le lt75_105 q116)
 have ne102_116:b102≠b116:=Nat.ne_of_lt (Nat.lt_of_lt_of_le lt102_105 q116)
 replace q116:=Nat.le_trans hz105 q116
 have ne2_117:b2≠b117:=Nat.ne_of_lt (Nat.lt_of_lt_of_le lt2_105 q117)
 have ne3_117:b3≠b117:=Nat.ne_of_lt (Nat.lt_of_lt_of_le lt3_105 q117)
 have ne10_117:b10≠b117:=Nat.ne_of_lt (Nat.lt_of_lt_of_le lt10_105 q117)
 have ne74_117:b74≠b117:=Nat.ne_of_lt (Nat.lt_of_lt_of_le lt74_105 q117)
 have ne75_117:b75≠b117:=Nat.ne_of_lt (Nat.lt_of_lt_of_le lt75_105 q117)
 have ne102_117:b102≠b117:=Nat.ne_of_lt (Nat.lt_of_lt_of_le lt102_105 q117)
 replace q117:=Nat.le_trans hz105 q117
 simp only [putl,p3,p4]
 refine oe ?_
 refine es 31 0 (.agg #[x113,y113]) [x113,y113] #[x113,y113] L116 hB q116 ⟨h113.one0,h113.one1,trivial⟩ fun w119 st119 kp119 L116 hB=>?_
 replace L10:=st119.lc (L10.gr g115) ne10_116
 replace L102:=st119.lc (L102.gr g115) ne102_116
 refine ⟨⟨L10,L102⟩,?_⟩
 refine oe ?_
 replace L117:=st119.lc L117 (Ne.symm ne116_117)
 refine es 31 0 (.agg #[xr113,yr113]) [xr113,yr113] #[xr113,yr113] L117 hB q117 ⟨hr113.one0,hr113.one1,trivial⟩ fun w121 st121 kp121 L117 hB=>?_
 replace L10:=st121.lc L10 ne10_117
 replace L102:=st121.lc L102 ne102_117
 refine ⟨⟨L10,L102⟩,?_⟩
 refine ov 9 (.int .i64 0) ?_
 refine ord_nil ?_
 refine k104 _ _ ?_
 try clear k104 K104
 have gd131:=Gr.drew w121
 replace hB:=hB.trans gd131
 replace L102:=L102.gr gd131
 replace L116:=(st121.lc L116 ne116_117).gr gd131
 refine wp_region_ord (fun w'=>Lc w' b102 #[uac0,uac1,uac2,uac3] 33∧Lc w' b116 #[x113,y113] 31) [(true,0),(true,1),(false,2),(false,3),(false,4)] (by kernel_rfl) (by kernel_rfl) (by kernel_rfl) (by decide) (fun _ _ _ _ _ h=>h) ⟨L102,L116⟩ ?_
 refine ow 35 (.agg #[x113,y113]) rfl (fun w' hS=>(rl 31 0 [x113,y113] hS.2)) ?_
 refine ow 36 (.agg #[uac0,uac1,uac2,uac3]) rfl (fun w' hS=>(rl 33 0 [uac0,uac1,uac2,uac3] hS.1)) ?_
 refine oe ?_
 have kq134:=g107.kp.trans (g109.kp.trans (g110.kp.trans (g112.kp.trans (g113.kp.trans (g115.kp.trans (kp119.trans (kp121.trans gd131.kp)))))))
 replace hua3:=hua3.kp kq134
 refine ec 37 (den_i hua3) ?_
 rintro e133 w133 ⟨⟨x133,y133,rfl,h133⟩,g133⟩
 refine ⟨_,rfl,?_⟩
 replace hB:=hB.trans g133
 replace L102:=L102.gr g133
 replace L116:=L116.gr g133
 refine ⟨⟨L102,L116⟩,?_⟩
 simp only [p3,p4]
 refine oe ?_
 have kq137:=g115.kp.trans (kp119.trans (kp121.trans (gd131.kp.trans g133.kp)))
 replace h113:=h113.kp kq137
 refine ec 38 (mul_i h113 h133 (by omega)) ?_
 rintro e136 w136 ⟨⟨x136,y136,rfl,h136⟩,g136⟩
 refine ⟨_,rfl,?_⟩
 replace hB:=hB.trans g136
 replace h136:=(show IsInt _ _ _ _ (pden a1 a2 a3) from h136)
 replace L102:=L102.gr g136
 replace L116:=L116.gr g136
 refine ⟨⟨L102,L116⟩,?_⟩
 simp only [p3,p4]
 refine oe ?_
 replace L10:=L10.gr (gd131.trans (g133.trans g136))
 refine es 31 0 (.agg #[x136,y136]) [x136,y136] #[x136,y136] L10 hB q10 ⟨h136.one0,h136.one1,trivial⟩ fun w139 st139 kp139 L10 hB=>?_
 replace L102:=st139.lc L102 (Ne.symm ne10_102)
 replace L116:=st139.lc L116 (Ne.symm ne10_116)
 refine ⟨⟨L102,L116⟩,?_⟩
 refine ord_nil ?_
 refine k100 _ _ ?_
 try clear k100 K100
 refine rg [0,1] ?_
 refine sv 39 (.int .i64 3) ?_
 refine sv 22 (.int .i64 3) ?_
 refine sq_nil ?_
 show Code.rounds _ _ _ _ _ _
 show Code.wp _ _ _ _ _
 refine wp_seq_k (fun K140 k140=>?_)
 refine rg [0] ?_
 refine sv 23 (.bool false) ?_
 refine sq_nil ?_
 refine k140 _ _ ?_
 try clear k140 K140
 refine wp_seq_k (fun K141 k141=>?_)
 refine wp_cond_false rfl ?_
 refine wp_exit ?_
 simp only [Exit.then,Exit.inBlock,↓reduceIte]
 refine k12 _ _ ?_
 try clear k12 K12
 refine wp_seq_k (fun K142 k142=>?_)
 have hz143:=Below.size hB
 replace L2:=st139.lc ((st121.lc (st119.lc (L2.gr (gd105.trans (g106.trans (g107.trans (g109.trans (g110.trans (g112.trans (g113.trans g115)))))))) ne2_116) ne2_117).gr (gd131.trans (g133.trans g136))) ne2_10
 have lt2_143:=L2.lt
 replace L3:=st139.lc ((st121.lc (st119.lc (L3.gr (gd105.trans (g106.trans (g107.trans (g109.trans (g110.trans (g112.trans (g113.trans g115)))))))) ne3_116) ne3_117).gr (gd131.trans (g133.trans g136))) ne3_10
 have lt3_143:=L3.lt
 have lt10_143:=L10.lt
 have gd143:=Gr.drew w139
 replace hB:=hB.trans gd143
 replace L10:=L10.gr gd143
 refine wp_region_flo (fun w'=>Lc w' b10 #[x136,y136] 31) [(true,0),(false,1),(false,2),(true,3),(true,4),(true,5)] [⟨6,10,33,#[(.bool false),(.slice none 0 0),(.bool false),(.slice none 0 0)]⟩] [(false,7),(true,8)] (by kernel_rfl) (by kernel_rfl) (by kernel_rfl) (by kernel_rfl) (by kernel_rfl) (by decide) (fun _ _ _ _ _ h=>h) (fun _ _ _ _ _ h=>h) (fun w' o h=>Lc.gr h (Gr.alloc w' o)) L10 (by intro f hf;simp only [List.mem_cons,List.not_mem_nil,or_false] at hf;rcases hf with rfl<;>first | exact alloc_zero (z:=(.agg #[(.bool false),(.slice none 0 0),(.bool false),(.slice none 0 0)])) (by kernel_rfl) rfl) ?_
 refine fw 41 (.agg #[x136,y136]) rfl (fun w' hS=>(rl 31 0 [x136,y136] hS)) ?_
 refine flo_eff rfl rfl (fun w144 g144 _ K144 k144=>?_)
 replace hB:=hB.trans g144
 refine ec 42 (from_i (1) (by omega) (by omega) _) ?_
 rintro e145 w145 ⟨⟨x145,y145,rfl,h145⟩,g145⟩
 refine ⟨_,rfl,?_⟩
 replace hB:=hB.trans g145
 replace L10:=L10.gr (g144.trans g145)
 refine k144 _ _ g145 L10 ?_
 try clear k144 K144
 simp only [p3,p4]
 refine flo_eff rfl rfl (fun w146 g146 _ K146 k146=>?_)
 replace hB:=hB.trans g146
 have kq148:=kp139.trans (gd143.kp.trans (g144.kp.trans (g145.kp.trans g146.kp)))
 replace h136:=h136.kp kq148
 replace h145:=h145.kp g146.kp
 refine ec 43 (make_r (64+k+k+k) h136 h145 (by omega) (by omega) (by omega) (by omega) (by omega)) ?_
 rintro e147 w147 ⟨⟨p147,q147,r147,s147,rfl,h147⟩,g147⟩
 refine ⟨_,rfl,?_⟩
 replace hB:=hB.trans g147
 replace L10:=L10.gr (g146.trans g147)
 refine k146 _ _ g147 L10 ?_
 try clear k146 K146
 simp only [p3,p4]
 refine fv 40 (.tuple #[(.agg #[p147,q147,r147,s147]),(.int .i64 0)]) ?_
 refine fv 44 (.agg #[p147,q147,r147,s147]) ?_
 refine fv 45 (.int .i64 0) ?_
 refine flo_nil (fun w149 g149 _=>?_)
 replace hB:=hB.trans g149
 refine floFin1 (fun b150 (L150:Lc w149 b150 #[(.bool false),(.slice none 0 0),(.bool false),(.slice none 0 0)] 33) q150=>?_)
 have ne2_150:b2≠b150:=Nat.ne_of_lt (Nat.lt_of_lt_of_le lt2_143 q150)
 have ne3_150:b3≠b150:=Nat.ne_of_lt (Nat.lt_of_lt_of_le lt3_143 q150)
 have ne10_150:b10≠b150:=Nat.ne_of_lt (Nat.lt_of_lt_of_le lt10_143 q150)
 replace q150:=Nat.le_trans hz143 q150
 simp only [putl,p3,p4]
 refine oe ?_
 refine es 33 0 (.agg #[p147,q147,r147,s147]) [p147,q147,r147,s147] #[p147,q147,r147,s147] L150 hB q150 ⟨h147.one0,h147.one1,h147.one2,h147.one3,trivial⟩ fun w152 st152 kp152 L150 hB=>?_
 replace L10:=st152.lc (L10.gr g149) ne10_150
 refine ⟨L10,?_⟩
 refine ov 11 (.int .i64 0) ?_
 refine ord_nil ?_
 refine k142 _ _ ?_
 try clear k142 K142
 refine wp_seq_k (fun K153 k153=>?_)
 refine rg [0,1,2,3] ?_
 replace L2:=st152.lc (L2.gr (gd143.trans (g144.trans (g145.trans (g146.trans (g147.trans g149)))))) ne2_150
 refine sw 46 (.agg #[uaa0,uaa1,uaa2,uaa3,uab0,uab1,uab2,uab3,uac0,uac1,uac2,uac3]) rfl (rl 35 0 [uaa0,uaa1,uaa2,uaa3,uab0,uab1,uab2,uab3,uac0,uac1,uac2,uac3] L2) ?_
 refine sw 47 (.agg #[p147,q147,r147,s147]) rfl (rl 33 0 [p147,q147,r147,s147] L150) ?_
 refine se ?_
 have kq155:=g49.kp.trans (g52.kp.trans (kp55.trans (g60.kp.trans (kp61.trans (gd63.kp.trans (g64.kp.trans (g65.kp.trans (g67.kp.trans (g68.kp.trans (g70.kp.trans (g71.kp.trans (g73.kp.trans (kp77.trans (kp79.trans (gd89.kp.trans (g91.kp.trans (g94.kp.trans (kp97.trans (g102.kp.trans (kp103.trans (gd105.kp.trans (g106.kp.trans (g107.kp.trans (g109.kp.trans (g110.kp.trans (g112.kp.trans (g113.kp.trans (g115.kp.trans (kp119.trans (kp121.trans (gd131.kp.trans (g133.kp.trans (g136.kp.trans (kp139.trans (gd143.kp.trans (g144.kp.trans (g145.kp.trans (g146.kp.trans (g147.kp.trans (g149.kp.trans kp152))))))))))))))))))))))))))))))))))))))))
 replace hua1:=hua1.kp kq155
 have kq156:=g91.kp.trans (g94.kp.trans (kp97.trans (g102.kp.trans (kp103.trans (gd105.kp.trans (g106.kp.trans (g107.kp.trans (g109.kp.trans (g110.kp.trans (g112.kp.trans (g113.kp.trans (g115.kp.trans (kp119.trans (kp121.trans (gd131.kp.trans (g133.kp.trans (g136.kp.trans (kp139.trans (gd143.kp.trans (g144.kp.trans (g145.kp.trans (g146.kp.trans (g147.kp.trans (g149.kp.trans kp152))))))))))))))))))))))))
 replace hua2:=hua2.kp kq156
 have kq157:=g133.kp.trans (g136.kp.trans (kp139.trans (gd143.kp.trans (g144.kp.trans (g145.kp.trans (g146.kp.trans (g147.kp.trans (g149.kp.trans kp152))))))))
 replace hua3:=hua3.kp kq157
 have kq158:=g149.kp.trans kp152
 replace h147:=h147.kp kq158
 refine ec 48 (vscale_v hua1 hua2 hua3 h147 (by omega)) ?_
 rintro e154 w154 ⟨⟨t154_0,t154_1,t154_2,t154_3,t154_4,t154_5,t154_6,t154_7,t154_8,t154_9,t154_10,t154_11,rfl,h154a,h154b,h154c⟩,g154⟩
 refine ⟨_,rfl,?_⟩
 replace hB:=hB.trans g154
 simp only [p3,p4]
 refine se ?_
 replace L2:=L2.gr g154
 refine es 35 0 (.agg #[t154_0,t154_1,t154_2,t154_3,t154_4,t154_5,t154_6,t154_7,t154_8,t154_9,t154_10,t154_11]) [t154_0,t154_1,t154_2,t154_3,t154_4,t154_5,t154_6,t154_7,t154_8,t154_9,t154_10,t154_11] #[t154_0,t154_1,t154_2,t154_3,t154_4,t154_5,t154_6,t154_7,t154_8,t154_9,t154_10,t154_11] L2 hB q2 ⟨h154a.one0,h154a.one1,h154a.one2,h154a.one3,h154b.one0,h154b.one1,h154b.one2,h154b.one3,h154c.one0,h154c.one1,h154c.one2,h154c.one3,trivial⟩ fun w159 st159 kp159 L2 hB=>?_
 refine sq_nil ?_
 refine k153 _ _ ?_
 try clear k153 K153
 refine wp_seq_k (fun K160 k160=>?_)
 refine rg [0] ?_
 refine se ?_
 refine ea 31 #[(.bool false),(.slice none 0 0)] 12 hB fun b161 w161 g161 L161 o161 q161 hB=>?_
 have ne2_161:=L2.ne o161
 replace L3:=st159.lc ((st152.lc (L3.gr (gd143.trans (g144.trans (g145.trans (g146.trans (g147.trans g149)))))) ne3_150).gr g154) (Ne.symm ne2_3)
 have ne3_161:=L3.ne o161
 simp only [p3,p4]
 refine sq_nil ?_
 refine k160 _ _ ?_
 try clear k160 K160
 refine wp_seq_k (fun K162 k162=>?_)
 refine wp_seq_k (fun K163 k163=>?_)
 refine rg [0,1] ?_
 replace L2:=L2.gr g161
 refine sw 49 (.agg #[t154_0,t154_1,t154_2,t154_3,t154_4,t154_5,t154_6,t154_7,t154_8,t154_9,t154_10,t154_11]) rfl (rl 35 0 [t154_0,t154_1,t154_2,t154_3,t154_4,t154_5,t154_6,t154_7,t154_8,t154_9,t154_10,t154_11] L2) ?_
 refine sv 50 (.int .i64 0) ?_
 refine sq_nil ?_
 refine k163 _ _ ?_
 try clear k163 K163
 refine wp_block ?_
 refine wp_loop_rounds 4 ?_
 show Code.wp _ _ _ _ _
 refine wp_seq_k (fun K164 k164=>?_)
 refine rg [0] ?_
 refine sv 51 (.bool true) ?_
 refine sq_nil ?_
 refine k164 _ _ ?_
 try clear k164 K164
 refine wp_seq_k (fun K165 k165=>?_)
 refine wp_cond_true rfl ?_
 refine wp_skip ?_
 refine k165 _ _ ?_
 try clear k165 K165
 refine wp_seq_k (fun K166 k166=>?_)
 refine wp_block ?_
 refine wp_seq_k (fun K167 k167=>?_)
 refine rg [0,1,2] ?_
 refine sv 52 (.agg #[t154_0,t154_1,t154_2,t154_3]) ?_
 refine se ?_
 refine ea 33 #[(.bool false),(.slice none 0 0),(.bool false),(.slice none 0 0)] 14 hB fun b168 w168 g168 L168 o168 q168 hB=>?_
 have ne2_168:=L2.ne o168
 replace L3:=L3.gr g161
 have ne3_168:=L3.ne o168
 have ne161_168:=L161.ne o168
 simp only [p3,p4]
 refine se ?_
 refine es 33 0 (.agg #[t154_0,t154_1,t154_2,t154_3]) [t154_0,t154_1,t154_2,t154_3] #[t154_0,t154_1,t154_2,t154_3] L168 hB q168 ⟨h154a.one0,h154a.one1,h154a.one2,h154a.one3,trivial⟩ fun w169 st169 kp169 L168 hB=>?_
 refine sq_nil ?_
 refine k167 _ _ ?_
 try clear k167 K167
 have gd171:=Gr.drew w169
 replace hB:=hB.trans gd171
 replace L168:=L168.gr gd171
 replace L161:=(st169.lc (L161.gr g168) ne161_168).gr gd171
 refine wp_region_ort (fun w'=>Lc w' b168 #[t154_0,t154_1,t154_2,t154_3] 33) [([4],(fun w'=>Lc w' b161 #[(.bool false),(.slice none 0 0)] 31))] [(true,0),(true,1),(false,2),(false,3),(false,4)] (by kernel_rfl) (by kernel_rfl) (by kernel_rfl) (by decide) (fun _ _ _ _ _ h=>h) L168 ⟨fun _=>L161,trivial⟩ ?_
 refine tw 53 (.agg #[(.bool false),(.slice none 0 0)]) rfl (fun w' hS=>(rl 31 0 [(.bool false),(.slice none 0 0)] (hS.2.1 (by kernel_rfl)))) ?_
 refine tw 54 (.agg #[t154_0,t154_1,t154_2,t154_3]) rfl (fun w' hS=>(rl 33 0 [t154_0,t154_1,t154_2,t154_3] hS.1)) ?_
 refine te ?_
 have kq174:=kp159.trans (g161.kp.trans (g168.kp.trans (kp169.trans gd171.kp)))
 replace h154a:=h154a.kp kq174
 refine ec 55 (num_r h154a) ?_
 rintro e173 w173 ⟨⟨x173,y173,rfl,h173⟩,g173⟩
 refine ⟨_,rfl,?_⟩
 replace hB:=hB.trans g173
 replace L168:=L168.gr g173
 replace L161:=L161.gr g173
 refine ⟨L168,⟨fun _=>L161,trivial⟩,?_⟩
 simp only [p3,p4]
 refine te ?_
 refine ec 56 (gcd_i (IsInt.zero _ 64) h173 (by omega)) ?_
 rintro e176 w176 ⟨⟨x176,y176,rfl,h176⟩,g176⟩
 refine ⟨_,rfl,?_⟩
 replace hB:=hB.trans g176
 replace h176:=(show IsInt _ _ _ _ ((Int.gcd (0) (Rat.divInt (pden a1 a2 a3) 1*a1).num:Int)) from h176)
 replace L168:=L168.gr g176
 replace L161:=L161.gr g176
 refine ⟨L168,⟨fun _=>L161,trivial⟩,?_⟩
 simp only [p3,p4]
 refine te ?_
 refine es 31 0 (.agg #[x176,y176]) [x176,y176] #[x176,y176] L161 hB q161 ⟨h176.one0,h176.one1,trivial⟩ fun w178 st178 kp178 L161 hB=>?_
 replace L168:=st178.lc L168 (Ne.symm ne161_168)
 refine ⟨L168,⟨cameT (by kernel_rfl),trivial⟩,?_⟩
 refine ort_nil ?_
 refine k166 _ _ ?_
 try clear k166 K166
 refine rg [0,1] ?_
 refine sv 57 (.int .i64 1) ?_
 refine sv 50 (.int .i64 1) ?_
 refine sq_nil ?_
 show Code.rounds _ _ _ _ _ _
 show Code.wp _ _ _ _ _
 refine wp_seq_k (fun K179 k179=>?_)
 refine rg [0] ?_
 refine sv 51 (.bool true) ?_
 refine sq_nil ?_
 refine k179 _ _ ?_
 try clear k179 K179
 refine wp_seq_k (fun K180 k180=>?_)
 refine wp_cond_true rfl ?_
 refine wp_skip ?_
 refine k180 _ _ ?_
 try clear k180 K180
 refine wp_seq_k (fun K181 k181=>?_)
 refine wp_block ?_
 refine wp_seq_k (fun K182 k182=>?_)
 refine rg [0,1,2] ?_
 refine sv 52 (.agg #[t154_4,t154_5,t154_6,t154_7]) ?_
 refine se ?_
 refine ea 33 #[(.bool false),(.slice none 0 0),(.bool false),(.slice none 0 0)] 14 hB fun b183 w183 g183 L183 o183 q183 hB=>?_
 replace L2:=st178.lc ((st169.lc (L2.gr g168) ne2_168).gr (gd171.trans (g173.trans g176))) ne2_161
 have ne2_183:=L2.ne o183
 replace L3:=st178.lc ((st169.lc (L3.gr g168) ne3_168).gr (gd171.trans (g173.trans g176))) ne3_161
 have ne3_183:=L3.ne o183
 have ne161_183:=L161.ne o183
 simp only [p3,p4]
 refine se ?_
 refine es 33 0 (.agg #[t154_4,t154_5,t154_6,t154_7]) [t154_4,t154_5,t154_6,t154_7] #[t154_4,t154_5,t154_6,t154_7] L183 hB q183 ⟨h154b.one0,h154b.one1,h154b.one2,h154b.one3,trivial⟩ fun w184 st184 kp184 L183 hB=>?_
 refine sq_nil ?_
 refine k182 _ _ ?_
 try clear k182 K182
 have gd186:=Gr.drew w184
 replace hB:=hB.trans gd186
 replace L183:=L183.gr gd186
 replace L161:=(st184.lc (L161.gr g183) ne161_183).gr gd186
 refine wp_region_ort (fun w'=>Lc w' b183 #[t154_4,t154_5,t154_6,t154_7] 33) [([4],(fun w'=>Lc w' b161 #[x176,y176] 31))] [(true,0),(true,1),(false,2),(false,3),(false,4)] (by kernel_rfl) (by kernel_rfl) (by kernel_rfl) (by decide) (fun _ _ _ _ _ h=>h) L183 ⟨fun _=>L161,trivial⟩ ?_
 refine tw 53 (.agg #[x176,y176]) rfl (fun w' hS=>(rl 31 0 [x176,y176] (hS.2.1 (by kernel_rfl)))) ?_
 refine tw 54 (.agg #[t154_4,t154_5,t154_6,t154_7]) rfl (fun w' hS=>(rl 33 0 [t154_4,t154_5,t154_6,t154_7] hS.1)) ?_
 refine te ?_
 have kq189:=kp159.trans (g161.kp.trans (g168.kp.trans (kp169.trans (gd171.kp.trans (g173.kp.trans (g176.kp.trans (kp178.trans (g183.kp.trans (kp184.trans gd186.kp)))))))))
 replace h154b:=h154b.kp kq189
 refine ec 55 (num_r h154b) ?_
 rintro e188 w188 ⟨⟨x188,y188,rfl,h188⟩,g188⟩
 refine ⟨_,rfl,?_⟩
 replace hB:=hB.trans g188
 replace L183:=L183.gr g188
 replace L161:=L161.gr g188
 refine ⟨L183,⟨fun _=>L161,trivial⟩,?_⟩
 simp only [p3,p4]
 refine te ?_
 have kq192:=kp178.trans (g183.kp.trans (kp184.trans (gd186.kp.trans g188.kp)))
 replace h176:=h176.kp kq192
 refine ec 56 (gcd_i h176 h188 (by omega)) ?_
 rintro e191 w191 ⟨⟨x191,y191,rfl,h191⟩,g191⟩
 refine ⟨_,rfl,?_⟩
 replace hB:=hB.trans g191
 replace h191:=(show IsInt _ _ _ _ ((Int.gcd ((Int.gcd (0) (Rat.divInt (pden a1 a2 a3) 1*a1).num:Int)) (Rat.divInt (pden a1 a2 a3) 1*a2).num:Int)) from h191)
 replace L183:=L183.gr g191
 replace L161:=L161.gr g191
 refine ⟨L183,⟨fun _=>L161,trivial⟩,?_⟩
 simp only [p3,p4]
 refine te ?_
 refine es 31 0 (.agg #[x191,y191]) [x191,y191] #[x191,y191] L161 hB q161 ⟨h191.one0,h191.one1,trivial⟩ fun w194 st194 kp194 L161 hB=>?_
 replace L183:=st194.lc L183 (Ne.symm ne161_183)
 refine ⟨L183,⟨cameT (by kernel_rfl),trivial⟩,?_⟩
 refine ort_nil ?_
 refine k181 _ _ ?_
 try clear k181 K181
 refine rg [0,1] ?_
 refine sv 57 (.int .i64 2) ?_
 refine sv 50 (.int .i64 2) ?_
 refine sq_nil ?_
 show Code.rounds _ _ _ _ _ _
 show Code.wp _ _ _ _ _
 refine wp_seq_k (fun K195 k195=>?_)
 refine rg [0] ?_
 refine sv 51 (.bool true) ?_
 refine sq_nil ?_
 refine k195 _ _ ?_
 try clear k195 K195
 refine wp_seq_k (fun K196 k196=>?_)
 refine wp_cond_true rfl ?_
 refine wp_skip ?_
 refine k196 _ _ ?_
 try clear k196 K196
 refine wp_seq_k (fun K197 k197=>?_)
 refine wp_block ?_
 refine wp_seq_k (fun K198 k198=>?_)
 refine rg [0,1,2] ?_
 refine sv 52 (.agg #[t154_8,t154_9,t154_10,t154_11]) ?_
 refine se ?_
 refine ea 33 #[(.bool false),(.slice none 0 0),(.bool false),(.slice none 0 0)] 14 hB fun b199 w199 g199 L199 o199 q199 hB=>?_
 replace L2:=st194.lc ((st184.lc (L2.gr g183) ne2_183).gr (gd186.trans (g188.trans g191))) ne2_161
 have ne2_199:=L2.ne o199
 replace L3:=st194.lc ((st184.lc (L3.gr g183) ne3_183).gr (gd186.trans (g188.trans g191))) ne3_161
 have ne3_199:=L3.ne o199
 have ne161_199:=L161.ne o199
 simp only [p3,p4]
 refine se ?_
 refine es 33 0 (.agg #[t154_8,t154_9,t154_10,t154_11]) [t154_8,t154_9,t154_10,t154_11] #[t154_8,t154_9,t154_10,t154_11] L199 hB q199 ⟨h154c.one0,h154c.one1,h154c.one2,h154c.one3,trivial⟩ fun w200 st200 kp200 L199 hB=>?_
 refine sq_nil ?_
 refine k198 _ _ ?_
 try clear k198 K198
 have gd202:=Gr.drew w200
 replace hB:=hB.trans gd202
 replace L199:=L199.gr gd202
 replace L161:=(st200.lc (L161.gr g199) ne161_199).gr gd202
 refine wp_region_ort (fun w'=>Lc w' b199 #[t154_8,t154_9,t154_10,t154_11] 33) [([4],(fun w'=>Lc w' b161 #[x191,y191] 31))] [(true,0),(true,1),(false,2),(false,3),(false,4)] (by kernel_rfl) (by kernel_rfl) (by kernel_rfl) (by decide) (fun _ _ _ _ _ h=>h) L199 ⟨fun _=>L161,trivial⟩ ?_
 refine tw 53 (.agg #[x191,y191]) rfl (fun w' hS=>(rl 31 0 [x191,y191] (hS.2.1 (by kernel_rfl)))) ?_
 refine tw 54 (.agg #[t154_8,t154_9,t154_10,t154_11]) rfl (fun w' hS=>(rl 33 0 [t154_8,t154_9,t154_10,t154_11] hS.1)) ?_
 refine te ?_
 have kq205:=kp159.trans (g161.kp.trans (g168.kp.trans (kp169.trans (gd171.kp.trans (g173.kp.trans (g176.kp.trans (kp178.trans (g183.kp.trans (kp184.trans (gd186.kp.trans (g188.kp.trans (g191.kp.trans (kp194.trans (g199.kp.trans (kp200.trans gd202.kp)))))))))))))))
 replace h154c:=h154c.kp kq205
 refine ec 55 (num_r h154c) ?_
 rintro e204 w204 ⟨⟨x204,y204,rfl,h204⟩,g204⟩
 refine ⟨_,rfl,?_⟩
 replace hB:=hB.trans g204
 replace L199:=L199.gr g204
 replace L161:=L161.gr g204
 refine ⟨L199,⟨fun _=>L161,trivial⟩,?_⟩
 simp only [p3,p4]
 refine te ?_
 have kq208:=kp194.trans (g199.kp.trans (kp200.trans (gd202.kp.trans g204.kp)))
 replace h191:=h191.kp kq208
 refine ec 56 (gcd_i h191 h204 (by omega)) ?_
 rintro e207 w207 ⟨⟨x207,y207,rfl,h207⟩,g207⟩
 refine ⟨_,rfl,?_⟩
 replace hB:=hB.trans g207
 replace h207:=(show IsInt _ _ _ _ (pgcd a1 a2 a3) from h207)
 replace L199:=L199.gr g207
 replace L161:=L161.gr g207
 refine ⟨L199,⟨fun _=>L161,trivial⟩,?_⟩
 simp only [p3,p4]
 refine te ?_
 refine es 31 0 (.agg #[x207,y207]) [x207,y207] #[x207,y207] L161 hB q161 ⟨h207.one0,h207.one1,trivial⟩ fun w210 st210 kp210 L161 hB=>?_
 replace L199:=st210.lc L199 (Ne.symm ne161_199)
 refine ⟨L199,⟨cameT (by kernel_rfl),trivial⟩,?_⟩
 refine ort_nil ?_
 refine k197 _ _ ?_
 try clear k197 K197
 refine rg [0,1] ?_
 refine sv 57 (.int .i64 3) ?_
 refine sv 50 (.int .i64 3) ?_
 refine sq_nil ?_
 show Code.rounds _ _ _ _ _ _
 show Code.wp _ _ _ _ _
 refine wp_seq_k (fun K211 k211=>?_)
 refine rg [0] ?_
 refine sv 51 (.bool false) ?_
 refine sq_nil ?_
 refine k211 _ _ ?_
 try clear k211 K211
 refine wp_seq_k (fun K212 k212=>?_)
 refine wp_cond_false rfl ?_
 refine wp_exit ?_
 simp only [Exit.then,Exit.inBlock,↓reduceIte]
 refine k162 _ _ ?_
 try clear k162 K162
 refine wp_seq_k (fun K213 k213=>?_)
 have hz214:=Below.size hB
 replace L2:=st210.lc ((st200.lc (L2.gr g199) ne2_199).gr (gd202.trans (g204.trans g207))) ne2_161
 have lt2_214:=L2.lt
 replace L3:=st210.lc ((st200.lc (L3.gr g199) ne3_199).gr (gd202.trans (g204.trans g207))) ne3_161
 have lt3_214:=L3.lt
 have lt161_214:=L161.lt
 have gd214:=Gr.drew w210
 replace hB:=hB.trans gd214
 replace L161:=L161.gr gd214
 refine wp_region_flo (fun w'=>Lc w' b161 #[x207,y207] 31) [(true,1),(false,0),(false,2),(true,3),(true,4),(true,5)] [⟨6,15,33,#[(.bool false),(.slice none 0 0),(.bool false),(.slice none 0 0)]⟩] [(false,7),(true,8)] (by kernel_rfl) (by kernel_rfl) (by kernel_rfl) (by kernel_rfl) (by kernel_rfl) (by decide) (fun _ _ _ _ _ h=>h) (fun _ _ _ _ _ h=>h) (fun w' o h=>Lc.gr h (Gr.alloc w' o)) L161 (by intro f hf;simp only [List.mem_cons,List.not_mem_nil,or_false] at hf;rcases hf with rfl<;>first | exact alloc_zero (z:=(.agg #[(.bool false),(.slice none 0 0),(.bool false),(.slice none 0 0)])) (by kernel_rfl) rfl) ?_
 refine fw 60 (.agg #[x207,y207]) rfl (fun w' hS=>(rl 31 0 [x207,y207] hS)) ?_
 refine flo_eff rfl rfl (fun w215 g215 _ K215 k215=>?_)
 replace hB:=hB.trans g215
 refine ec 59 (from_i (1) (by omega) (by omega) _) ?_
 rintro e216 w216 ⟨⟨x216,y216,rfl,h216⟩,g216⟩
 refine ⟨_,rfl,?_⟩
 replace hB:=hB.trans g216
 replace L161:=L161.gr (g215.trans g216)
 refine k215 _ _ g216 L161 ?_
 try clear k215 K215
 simp only [p3,p4]
 refine flo_eff rfl rfl (fun w217 g217 _ K217 k217=>?_)
 replace hB:=hB.trans g217
 replace h216:=h216.kp g217.kp
 have kq219:=kp210.trans (gd214.kp.trans (g215.kp.trans (g216.kp.trans g217.kp)))
 replace h207:=h207.kp kq219
 refine ec 61 (make_r ((64+(64+(64+k+k+k+k))+(64+(64+k+k+k+k))+(64+(64+k+k+k+k)))) h216 h207 (pgcd_pos hz0) (by omega) (by omega) (by omega) (by omega)) ?_
 rintro e218 w218 ⟨⟨p218,q218,r218,s218,rfl,h218⟩,g218⟩
 refine ⟨_,rfl,?_⟩
 replace hB:=hB.trans g218
 replace L161:=L161.gr (g217.trans g218)
 refine k217 _ _ g218 L161 ?_
 try clear k217 K217
 simp only [p3,p4]
 refine fv 58 (.tuple #[(.agg #[p218,q218,r218,s218]),(.int .i64 0)]) ?_
 refine fv 62 (.agg #[p218,q218,r218,s218]) ?_
 refine fv 63 (.int .i64 0) ?_
 refine flo_nil (fun w220 g220 _=>?_)
 replace hB:=hB.trans g220
 refine floFin1 (fun b221 (L221:Lc w220 b221 #[(.bool false),(.slice none 0 0),(.bool false),(.slice none 0 0)] 33) q221=>?_)
 have ne2_221:b2≠b221:=Nat.ne_of_lt (Nat.lt_of_lt_of_le lt2_214 q221)
 have ne3_221:b3≠b221:=Nat.ne_of_lt (Nat.lt_of_lt_of_le lt3_214 q221)
 have ne161_221:b161≠b221:=Nat.ne_of_lt (Nat.lt_of_lt_of_le lt161_214 q221)
 replace q221:=Nat.le_trans hz214 q221
 simp only [putl,p3,p4]
 refine oe ?_
 refine es 33 0 (.agg #[p218,q218,r218,s218]) [p218,q218,r218,s218] #[p218,q218,r218,s218] L221 hB q221 ⟨h218.one0,h218.one1,h218.one2,h218.one3,trivial⟩ fun w223 st223 kp223 L221 hB=>?_
 replace L161:=st223.lc (L161.gr g220) ne161_221
 refine ⟨L161,?_⟩
 refine ov 16 (.int .i64 0) ?_
 refine ord_nil ?_
 refine k213 _ _ ?_
 try clear k213 K213
 refine wp_seq_k (fun K224 k224=>?_)
 refine rg [0,1,2,3,4] ?_
 replace L2:=st223.lc (L2.gr (gd214.trans (g215.trans (g216.trans (g217.trans (g218.trans g220)))))) ne2_221
 refine sw 64 (.agg #[t154_0,t154_1,t154_2,t154_3,t154_4,t154_5,t154_6,t154_7,t154_8,t154_9,t154_10,t154_11]) rfl (rl 35 0 [t154_0,t154_1,t154_2,t154_3,t154_4,t154_5,t154_6,t154_7,t154_8,t154_9,t154_10,t154_11] L2) ?_
 refine sw 65 (.agg #[p218,q218,r218,s218]) rfl (rl 33 0 [p218,q218,r218,s218] L221) ?_
 refine se ?_
 have kq226:=g173.kp.trans (g176.kp.trans (kp178.trans (g183.kp.trans (kp184.trans (gd186.kp.trans (g188.kp.trans (g191.kp.trans (kp194.trans (g199.kp.trans (kp200.trans (gd202.kp.trans (g204.kp.trans (g207.kp.trans (kp210.trans (gd214.kp.trans (g215.kp.trans (g216.kp.trans (g217.kp.trans (g218.kp.trans (g220.kp.trans kp223))))))))))))))))))))
 replace h154a:=h154a.kp kq226
 have kq227:=g188.kp.trans (g191.kp.trans (kp194.trans (g199.kp.trans (kp200.trans (gd202.kp.trans (g204.kp.trans (g207.kp.trans (kp210.trans (gd214.kp.trans (g215.kp.trans (g216.kp.trans (g217.kp.trans (g218.kp.trans (g220.kp.trans kp223))))))))))))))
 replace h154b:=h154b.kp kq227
 have kq228:=g204.kp.trans (g207.kp.trans (kp210.trans (gd214.kp.trans (g215.kp.trans (g216.kp.trans (g217.kp.trans (g218.kp.trans (g220.kp.trans kp223))))))))
 replace h154c:=h154c.kp kq228
 have kq229:=g220.kp.trans kp223
 replace h218:=h218.kp kq229
 refine ec 66 (vscale_v h154a h154b h154c h218 (by omega)) ?_
 rintro e225 w225 ⟨⟨t225_0,t225_1,t225_2,t225_3,t225_4,t225_5,t225_6,t225_7,t225_8,t225_9,t225_10,t225_11,rfl,h225a,h225b,h225c⟩,g225⟩
 refine ⟨_,rfl,?_⟩
 replace hB:=hB.trans g225
 simp only [p3,p4]
 refine se ?_
 replace L3:=(st223.lc (L3.gr (gd214.trans (g215.trans (g216.trans (g217.trans (g218.trans g220)))))) ne3_221).gr g225
 refine es 35 0 (.agg #[t225_0,t225_1,t225_2,t225_3,t225_4,t225_5,t225_6,t225_7,t225_8,t225_9,t225_10,t225_11]) [t225_0,t225_1,t225_2,t225_3,t225_4,t225_5,t225_6,t225_7,t225_8,t225_9,t225_10,t225_11] #[t225_0,t225_1,t225_2,t225_3,t225_4,t225_5,t225_6,t225_7,t225_8,t225_9,t225_10,t225_11] L3 hB q3 ⟨h225a.one0,h225a.one1,h225a.one2,h225a.one3,h225b.one0,h225b.one1,h225b.one2,h225b.one3,h225c.one0,h225c.one1,h225c.one2,h225c.one3,trivial⟩ fun w230 st230 kp230 L3 hB=>?_
 refine sv 3 (.int .i64 0) ?_
 refine sq_nil ?_
 refine k224 _ _ ?_
 try clear k224 K224
 refine wp_ret ?_
 refine bodyPost_ret (v:=(.tuple #[(.agg #[t225_0,t225_1,t225_2,t225_3,t225_4,t225_5,t225_6,t225_7,t225_8,t225_9,t225_10,t225_11]),(.int .i64 0)])) (ret_cell_tmp' _ _ _ rfl rfl L3 (by kernel_rfl) rfl) rfl ⟨?_,hB⟩
 replace h225a:=h225a.kp kp230
 replace h225b:=h225b.kp kp230
 replace h225c:=h225c.kp kp230
 exact ⟨_,_,_,_,_,_,_,_,_,_,_,_,rfl,h225a,h225b,h225c⟩

-- LEFT OUT:r1_digits r1_digits_i r1_from r1_from_n r1_from_p r1_minus r1_minus_f r1_minus_i r1_order r1_order_i r1_plus r1_plus_i r1_sign_i r1_sign_n r1_sign_p r1_sign_z r1_text r1_text_s r1_text_z r1_trim wpList_makeI
section
variable {P:Program} {ops:Array Oper} {Q:Exit→Act→World→Prop} {S0:World→Prop} {HS:List (List Nat × (World→Prop))}
end
def nilC:Cl→Bool
  | .cv (.slice none 0 0)=>true
  | _=>false
def falC:Cl→Bool
  | .cb _ (some false)=>true
  | _=>false
/-- the rational that these cells are -/
def asRat:SV→Option (Nat × Rat)
  | .so (.vg [.cr j 0 k q,.cr j1 1 _ _,.cr j2 2 _ _,.cr j3 3 _ _])=>if Nat.beq j1 j&&Nat.beq j2 j&&Nat.beq j3 j then some (k,q) else none
  | .so (.vg [a,b,c,d])=>if falC a&&nilC b&&falC c&&nilC d then some (64,0) else none
  | _=>none
section
variable {n:Nn} {X:Env} {w w':World}
theorem falC_den {c:Cl} (h:falC c=true) (hc:c.ok n X w):c.den X=.bool false:=by
  unfold falC at h
  split at h
  · exact congrArg Value.bool (hc.2 false rfl)
  · cases h
theorem nilC_den {c:Cl} (h:nilC c=true):c.den X=.slice none 0 0:=by
  unfold nilC at h
  split at h
  · rfl
  · cases h
theorem asRat_ok {v:SV} {k:Nat} {q:Rat} (h:asRat v=some (k,q)) (hv:v.ok n X w):∃ a b c d,v.den X=.agg #[a,b,c,d]∧IsRat w k a b c d q:=by
  unfold asRat at h
  split at h
  · rename_i j k' q' j1 _ _ j2 _ _ j3 _ _
    split at h
    · rename_i hj
      simp only [Bool.and_eq_true,Nat.beq_eq] at hj
      obtain ⟨⟨rfl,rfl⟩,rfl⟩:=hj
      cases h
      have:=(hv (.cr j3 0 k q) (by simp)).2
      exact ⟨_,_,_,_,rfl,this⟩
    · cases h
  · rename_i a b c d _
    split at h
    · rename_i hh
      simp only [Bool.and_eq_true] at hh
      obtain ⟨⟨⟨h1,h2⟩,h3⟩,h4⟩:=hh
      cases h
      refine ⟨.bool false,.slice none 0 0,.bool false,.slice none 0 0,?_,IsRat.zero w (Nat.le_refl _)⟩
      simp only [SV.den,TV.den,dnL,List.map_cons,List.map_nil,falC_den h1 (hv a (by simp)),nilC_den h2,falC_den h3 (hv c (by simp)),nilC_den h4]
    · cases h
  · cases h
def newRat (j k:Nat) (q:Rat):SV:=.so (.vg [.cr j 0 k q,.cr j 1 k q,.cr j 2 k q,.cr j 3 k q])
def Env.pushR (X:Env) (n:Nat) (c0 c1 c2 c3:Value):Env:={X with R:=fun i c=>if i=n then (if c=0 then c0 else if c=1 then c1 else if c=2 then c2 else c3) else X.R i c}
theorem Env.pushR_agree (X:Env) (n:Nn) (c0 c1 c2 c3:Value):Agr n X (X.pushR n.r c0 c1 c2 c3):=⟨fun _ _=>rfl,fun i c hi=>by simp only [Env.pushR];rw [if_neg (by omega)],fun _ _ _=>rfl,rfl⟩
theorem newRat_holds {e:Ending} {k:Nat} {q:Rat} (h:(∃ c0 c1 c2 c3,e=.returned (.agg #[c0,c1,c2,c3])∧IsRat w' k c0 c1 c2 c3 q)∧Gr w w'):(Tr.leaf (newRat n.r k q) 1 0).holds n X w e w':=by
  obtain ⟨⟨c0,c1,c2,c3,rfl,h1⟩,g⟩:=h
  refine ⟨X.pushR n.r c0 c1 c2 c3,?_,g,Env.pushR_agree _ _ _ _ _ _,fun c hc=>?_⟩
  · simp [newRat,SV.den,TV.den,dnL,Cl.den,Env.pushR]
  · have hg:IsRat w' k ((X.pushR n.r c0 c1 c2 c3).R n.r 0) ((X.pushR n.r c0 c1 c2 c3).R n.r 1) ((X.pushR n.r c0 c1 c2 c3).R n.r 2) ((X.pushR n.r c0 c1 c2 c3).R n.r 3) q:=by
      simpa [Env.pushR] using h1
    have hlt:Nat.blt n.r (n.r+1)=true:=blt_to (by omega)
    simp only [List.mem_cons,List.not_mem_nil,or_false] at hc
    rcases hc with rfl | rfl | rfl | rfl<;>refine ⟨?_,hg⟩<;>simp only [Cl.lt,hlt]<;>rfl
theorem val_holds {e:Ending} {v:SV} (h:e=.returned (v.den X)∧Gr w w') (hv:v.ok n X w'):(Tr.leaf v 0 0).holds n X w e w':=⟨X,h.1,h.2,.refl _ _,hv⟩
end
def conRR (lim:Nat) (g:Nat→Nat→Nat) (op:Rat→Rat→Rat):ConT:=fun args nr _=>match args with
  | [x,y]=>match asRat x,asRat y with
    | some (k,a),some (m,b)=>if Nat.ble (k+m) lim then some (.leaf (newRat nr (g k m) (op a b)) 1 0) else none
    | _,_=>none
  | _=>none
theorem conRR_ok {P:Program} {I:World→Prop} {f lim:Nat} {g:Nat→Nat→Nat} {op:Rat→Rat→Rat} (h:∀ {k m:Nat} {u0 u1 u2 u3 v0 v1 v2 v3:Value} {a b:Rat} {w:World},IsRat w k u0 u1 u2 u3 a→IsRat w m v0 v1 v2 v3 b→k+m≤lim→
    Calls P f #[.agg #[u0,u1,u2,u3],.agg #[v0,v1,v2,v3]] w fun e w'=>(∃ c0 c1 c2 c3,e=.returned (.agg #[c0,c1,c2,c3])∧IsRat w' (g k m) c0 c1 c2 c3 (op a b))∧Gr w w'):ConOK P I f (conRR lim g op):=by
  intro args X n w T _ ha hT _
  unfold conRR at hT
  split at hT
  · rename_i x y
    split at hT
    · rename_i k a m b h1 h2
      split at hT
      · rename_i hle
        simp only [Nat.ble_eq] at hle
        cases hT
        obtain ⟨u0,u1,u2,u3,e1,f1⟩:=asRat_ok h1 (ha x (by simp))
        obtain ⟨v0,v1,v2,v3,e2,f2⟩:=asRat_ok h2 (ha y (by simp))
        simp only [List.map_cons,List.map_nil,e1,e2]
        exact (h f1 f2 hle).mono fun e w' he=>newRat_holds he
      · cases hT
    · cases hT
  · cases hT

/-! ### one rational,one integer -/
def asInt:SV→Option (Nat × Int)
  | .so (.vg [.cz j 0 k z,.cz j1 1 _ _])=>if Nat.beq j1 j then some (k,z) else none
  | .so (.vg [.cr j 0 k q,.cr j1 1 _ _])=>if Nat.beq j1 j then some (k,q.num) else none
  | .so (.vg [a,b])=>if falC a&&nilC b then some (64,0) else none
  | _=>none
/-- a text that is a rational's;the literal 0 too -/
def txC:Cl→Option (Nat × Rat)
  | .cw _ (some (k,q))=>some (k,q)
  | .cw [b] none=>if Nat.beq b.toNat 48 then some (1,0) else none
  | _=>none
def asTxt:SV→Option (Nat × Rat)
  | .so (.vc c)=>txC c
  | _=>none
def as64:SV→Option Int
  | .so (.vc (.ci .i64 z lo hi))=>if ile (-9223372036854775808) lo&&ile hi 9223372036854775807 then some z else none
  | _=>none
def newInt (j k:Nat) (z:Int):SV:=.so (.vg [.cz j 0 k z,.cz j 1 k z])
def txt (k:Nat) (q:Rat):SV:=.so (.vc (.cw (ratL q) (some (k,q))))
def sgnV (z:Int):SV:=.so (.vc (.ci .i64 z (-1) 1))
section
variable {n:Nn} {X:Env} {w w':World}
theorem asInt_ok {v:SV} {k:Nat} {z:Int} (h:asInt v=some (k,z)) (hv:v.ok n X w):∃ a b,v.den X=.agg #[a,b]∧IsInt w k a b z:=by
  unfold asInt at h
  split at h
  · rename_i j k' q' j1 _ _
    split at h
    · rename_i hj
      simp only [Nat.beq_eq] at hj
      subst hj
      cases h
      exact ⟨_,_,rfl,(hv (.cz j1 0 k z) (by simp)).2⟩
    · cases h
  · rename_i j k' q' j1 _ _
    split at h
    · rename_i hj
      simp only [Nat.beq_eq] at hj
      subst hj
      cases h
      exact ⟨_,_,rfl,IsRat.num (hv (.cr j1 0 k q') (by simp)).2⟩
    · cases h
  · rename_i a b _ _
    split at h
    · rename_i hh
      simp only [Bool.and_eq_true] at hh
      cases h
      refine ⟨.bool false,.slice none 0 0,?_,IsInt.zero w 64⟩
      simp only [SV.den,TV.den,dnL,List.map_cons,List.map_nil,falC_den hh.1 (hv a (by simp)),nilC_den hh.2]
    · cases h
  · cases h
theorem ratL0:ratL 0=([48]:List UInt8):=eq_of_beq (ratL_litw (by kernel_rfl) (itoa_litp 0 (by kernel_rfl) (by decide)))
theorem txC_ok {c:Cl} {k:Nat} {q:Rat} (h:txC c=some (k,q)) (hv:c.ok n X w):c.den X=.string ⟨(ratL q).toArray⟩∧RS k q:=by
  unfold txC at h
  split at h
  · rename_i l k' q'
    cases h
    obtain ⟨h1,h2⟩:=hv.2 k q rfl
    exact ⟨by rw [← h1];rfl,h2⟩
  · rename_i b
    split at h
    · rename_i hb
      cases h
      have:b=48:=UInt8.toNat_inj.1 (Nat.eq_of_beq_eq_true hb)
      exact ⟨by rw [ratL0,this];rfl,Nat.two_pow_pos 1,Nat.one_lt_two_pow (by decide)⟩
    · cases h
  · cases h
theorem asTxt_ok {v:SV} {k:Nat} {q:Rat} (h:asTxt v=some (k,q)) (hv:v.ok n X w):v.den X=.string ⟨(ratL q).toArray⟩∧Sz k q.num∧Sz k (q.den:Int):=by
  unfold asTxt at h
  split at h
  · rename_i c
    exact txC_ok h hv
  · cases h
theorem as64_ok {v:SV} {z:Int} (h:as64 v=some z) (hv:v.ok n X w):v.den X=.int .i64 z∧-9223372036854775808≤z∧z≤9223372036854775807:=by
  unfold as64 at h
  split at h
  · split at h
    · rename_i hh
      simp only [ile_eq,Bool.and_eq_true,decide_eq_true_eq] at hh
      cases h
      exact ⟨rfl,Int.le_trans hh.1 hv.2.1,Int.le_trans hv.2.2 hh.2⟩
    · cases h
  · cases h
def Env.pushZ (X:Env) (n:Nat) (c0 c1:Value):Env:={X with Z:=fun i c=>if i=n then (if c=0 then c0 else c1) else X.Z i c}
theorem Env.pushZ_agree (X:Env) (n:Nn) (c0 c1:Value):Agr n X (X.pushZ n.z c0 c1):=⟨fun _ _=>rfl,fun _ _ _=>rfl,fun i c hi=>by simp only [Env.pushZ];rw [if_neg (by omega)],rfl⟩
theorem newInt_ok {k:Nat} {z:Int} {c0 c1:Value} (h1:IsInt w' k c0 c1 z):(newInt n.z k z).den (X.pushZ n.z c0 c1)=.agg #[c0,c1]∧(newInt n.z k z).ok ⟨n.b,n.r,n.z+1⟩ (X.pushZ n.z c0 c1) w':=by
  refine ⟨by simp [newInt,SV.den,TV.den,dnL,Cl.den,Env.pushZ],fun c hc=>?_⟩
  have hg:IsInt w' k ((X.pushZ n.z c0 c1).Z n.z 0) ((X.pushZ n.z c0 c1).Z n.z 1) z:=by simpa [Env.pushZ] using h1
  have hlt:Nat.blt n.z (n.z+1)=true:=blt_to (by omega)
  simp only [List.mem_cons,List.not_mem_nil,or_false] at hc
  rcases hc with rfl | rfl<;>refine ⟨?_,hg⟩<;>simp only [Cl.lt,hlt]<;>rfl
theorem newInt_holds {e:Ending} {k:Nat} {z:Int} (h:(∃ c0 c1,e=.returned (.agg #[c0,c1])∧IsInt w' k c0 c1 z)∧Gr w w'):(Tr.leaf (newInt n.z k z) 0 1).holds n X w e w':=by
  obtain ⟨⟨c0,c1,rfl,h1⟩,g⟩:=h
  obtain ⟨a,b⟩:=newInt_ok (n:=n) (X:=X) h1
  exact ⟨X.pushZ n.z c0 c1,by rw [a],g,Env.pushZ_agree _ _ _ _,b⟩
theorem newRat_ok {k:Nat} {q:Rat} {c0 c1 c2 c3:Value} (h1:IsRat w' k c0 c1 c2 c3 q):(newRat n.r k q).den (X.pushR n.r c0 c1 c2 c3)=.agg #[c0,c1,c2,c3]∧(newRat n.r k q).ok ⟨n.b,n.r+1,n.z⟩ (X.pushR n.r c0 c1 c2 c3) w':=by
  obtain ⟨X',a,b,c,d⟩:=newRat_holds (n:=n) (X:=X) (w:=w') (e:=.returned (.agg #[c0,c1,c2,c3])) ⟨⟨c0,c1,c2,c3,rfl,h1⟩,Gr.refl w'⟩
  refine ⟨by simp [newRat,SV.den,TV.den,dnL,Cl.den,Env.pushR],fun c hc=>?_⟩
  have hg:IsRat w' k ((X.pushR n.r c0 c1 c2 c3).R n.r 0) ((X.pushR n.r c0 c1 c2 c3).R n.r 1) ((X.pushR n.r c0 c1 c2 c3).R n.r 2) ((X.pushR n.r c0 c1 c2 c3).R n.r 3) q:=by simpa [Env.pushR] using h1
  have hlt:Nat.blt n.r (n.r+1)=true:=blt_to (by omega)
  simp only [List.mem_cons,List.not_mem_nil,or_false] at hc
  rcases hc with rfl | rfl | rfl | rfl<;>refine ⟨?_,hg⟩<;>simp only [Cl.lt,hlt]<;>rfl
/-- a rational and an error -/
def ratE (j k:Nat) (q:Rat) (e:Int):SV:=.st [.vg [.cr j 0 k q,.cr j 1 k q,.cr j 2 k q,.cr j 3 k q],.vc (.ci .i64 e e e)]
theorem ratE_holds {e:Ending} {k:Nat} {q:Rat} {er:Int} (h:(∃ c0 c1 c2 c3,e=.returned (.tuple #[.agg #[c0,c1,c2,c3],.int .i64 er])∧IsRat w' k c0 c1 c2 c3 q)∧Gr w w'):(Tr.leaf (ratE n.r k q er) 1 0).holds n X w e w':=by
  obtain ⟨⟨c0,c1,c2,c3,rfl,h1⟩,g⟩:=h
  obtain ⟨a,b⟩:=newRat_ok (n:=n) (X:=X) h1
  refine ⟨X.pushR n.r c0 c1 c2 c3,?_,g,Env.pushR_agree _ _ _ _ _ _,fun x hx=>?_⟩
  · have a':TV.den (X.pushR n.r c0 c1 c2 c3) (.vg [.cr n.r 0 k q,.cr n.r 1 k q,.cr n.r 2 k q,.cr n.r 3 k q])=.agg #[c0,c1,c2,c3]:=a
    simp only [ratE,SV.den,List.map_cons,List.map_nil,a']
    rfl
  · simp only [List.mem_cons,List.not_mem_nil,or_false] at hx
    rcases hx with rfl | rfl
    · exact b
    · exact ⟨rfl,Int.le_refl _,Int.le_refl _⟩
theorem txt_ok {k:Nat} {q:Rat} (h:Sz k q.num∧Sz k (q.den:Int)):(txt k q).ok n X w:=⟨rfl,fun k' q' e=>by cases e;exact ⟨rfl,h⟩⟩
theorem sgn_range (z:Int):-1≤sgn z∧sgn z≤1:=by unfold sgn;split<;>(try split)<;>decide
end
section
variable {P:Program} {I:World→Prop} {f lim:Nat}
/-- the shape of most proofs:one argument,two arguments -/
def con1 {α:Type} (g:SV→Option α) (c:α→Nat→Nat→Option Tr):ConT:=fun args nr nz=>match args with
  | [x]=>match g x with
    | some a=>c a nr nz
    | none=>none
  | _=>none
def con2 {α β:Type} (g:SV→Option α) (g2:SV→Option β) (c:α→β→Nat→Nat→Option Tr):ConT:=fun args nr nz=>match args with
  | [x,y]=>match g x,g2 y with
    | some a,some b=>c a b nr nz
    | _,_=>none
  | _=>none
theorem con1_ok {α:Type} {g:SV→Option α} {c:α→Nat→Nat→Option Tr}
    (h:∀ (a:α) (x:SV) (n:Nn) (X:Env) (w:World) (T:Tr),I w→g x=some a→x.ok n X w→c a n.r n.z=some T→T.pre→Calls P f #[x.den X] w fun e w'=>T.holds n X w e w'):ConOK P I f (con1 g c):=by
  intro args X n w T hI ha hT hp
  unfold con1 at hT
  split at hT
  · rename_i x
    split at hT
    · rename_i a h1
      exact h a x n X w T hI h1 (ha x (by simp)) hT hp
    · cases hT
  · cases hT
theorem con2_ok {α β:Type} {g:SV→Option α} {g2:SV→Option β} {c:α→β→Nat→Nat→Option Tr}
    (h:∀ (a:α) (b:β) (x y:SV) (n:Nn) (X:Env) (w:World) (T:Tr),I w→g x=some a→g2 y=some b→x.ok n X w→y.ok n X w→c a b n.r n.z=some T→T.pre→Calls P f #[x.den X,y.den X] w fun e w'=>T.holds n X w e w'):ConOK P I f (con2 g g2 c):=by
  intro args X n w T hI ha hT hp
  unfold con2 at hT
  split at hT
  · rename_i x y
    split at hT
    · rename_i a b h1 h2
      exact h a b x y n X w T hI h1 h2 (ha x (by simp)) (ha y (by simp)) hT hp
    · cases hT
  · cases hT
end
def tr (b:Bool) (T:Tr):Option Tr:=if b then some T else none
theorem tr_some {b:Bool} {T U:Tr} (h:tr b T=some U):b=true∧T=U:=by
  unfold tr at h
  split at h
  · cases h;exact ⟨by assumption,rfl⟩
  · cases h
theorem IsRat.szr {w:World} {k:Nat} {c0 c1 c2 c3:Value} {q:Rat} (h:IsRat w k c0 c1 c2 c3 q):Sz k q.num∧Sz k (q.den:Int):=by
  refine ⟨h.num.sz,?_⟩
  obtain ⟨D,h2,rfl | ⟨rfl,e⟩⟩:=h.den
  · exact h2.sz
  · rw [e]
    have:=h.big
    show (1:Nat)<2 ^ k
    exact Nat.one_lt_two_pow (by omega)
/-! ### the contracts -/
def cNeg:ConT:=con1 asRat fun | (k,a),nr,_=>some (.leaf (newRat nr k (-a)) 1 0)
def cFrom:ConT:=con1 as64 fun z nr _=>some (.leaf (newRat nr 64 (z:Rat)) 1 0)
def cComp:ConT:=con2 asRat asRat fun | (k,a),(m,b),_,_=>tr (Nat.ble (k+m) 100000) (.leaf (sgnV (rcmp a b)) 0 0)
def cSign:ConT:=con1 asRat fun | (_k,a),_,_=>some (.leaf (sgnV (sgn a.num)) 0 0)
def cNumb:ConT:=con1 asRat fun | (k,a),_,_=>tr (Nat.ble k 800000) (.leaf (txt k a) 0 0)
def cNum:ConT:=con1 asRat fun | (k,a),_,nz=>some (.leaf (newInt nz k a.num) 0 1)
def cDen:ConT:=con1 asRat fun | (k,a),_,nz=>some (.leaf (newInt nz k (a.den:Int)) 0 1)
def cDiv:ConT:=con2 asRat asRat fun | (k,a),(m,b),nr,_=>tr (Nat.ble (k+m) 100000) (.br (decide (b=0)) (.leaf (.st [.vg [.cb false (some false),.cv (.slice none 0 0),.cb false (some false),.cv (.slice none 0 0)],.vc (.ci .i64 19 19 19)]) 0 0) (.leaf (ratE nr (k+m) (a/b) 0) 1 0))
def cZFrom:ConT:=con1 as64 fun z _ nz=>some (.leaf (newInt nz 64 z) 0 1)
def cZMul:ConT:=con2 asInt asInt fun | (k,a),(m,b),_,nz=>tr (Nat.ble (k+m) 1000000) (.leaf (newInt nz (k+m) (a*b)) 0 1)
def cZGcd:ConT:=con2 asInt asInt fun | (k,a),(m,b),_,nz=>tr (Nat.ble (k+m) 1000000) (.leaf (newInt nz (k+m) (Int.gcd a b)) 0 1)
def cZDiv:ConT:=con2 asInt asInt fun | (k,a),(m,b),_,nz=>tr (Nat.ble (k+k+m+m+66) 1000000) (.as (decide (0<b)) (.leaf (.st [.vg [.cz nz 0 k (a/b),.cz nz 1 k (a/b)],.vg [.cz (nz+1) 0 m (a % b),.cz (nz+1) 1 m (a % b)],.vc (.ci .i64 0 0 0)]) 0 2))
def cPars (most:Nat):ConT:=con1 asTxt fun | (k,a),nr,_=>tr (Nat.ble k 20000&&Nat.ble (2*k+5) most) (.leaf (ratE nr (max k 64) a 0) 1 0)
section
variable {I:World→Prop}
theorem cNeg_ok:ConOK Tryz.prog I 89 cNeg:=con1_ok fun ⟨k,a⟩ x n X w T _ h1 h2 hT _=>by
  cases hT
  obtain ⟨u0,u1,u2,u3,e1,f1⟩:=asRat_ok h1 h2
  rw [e1]
  exact (neg_r f1).mono fun e w' he=>newRat_holds he
theorem cFrom_ok:ConOK Tryz.prog I 42 cFrom:=con1_ok fun a x n X w T _ h1 h2 hT _=>by
  cases hT
  obtain ⟨e1,h3,h4⟩:=as64_ok h1 h2
  rw [e1]
  exact (from_r a h3 h4 w).mono fun e w' he=>newRat_holds he
theorem cComp_ok:ConOK Tryz.prog I 45 cComp:=con2_ok fun ⟨k,a⟩ ⟨m,b⟩ x y n X w T _ h1 h2 hx hy hT _=>by
  obtain ⟨hb,rfl⟩:=tr_some hT
  obtain ⟨u0,u1,u2,u3,e1,f1⟩:=asRat_ok h1 hx
  obtain ⟨v0,v1,v2,v3,e2,f2⟩:=asRat_ok h2 hy
  rw [e1,e2]
  exact (compare_r f1 f2 (by simpa using hb)).mono fun e w' he=>val_holds he ⟨rfl,sgn_range _⟩
theorem cSign_ok:ConOK Tryz.prog I 54 cSign:=con1_ok fun ⟨k,a⟩ x n X w T _ h1 h2 hT _=>by
  cases hT
  obtain ⟨u0,u1,u2,u3,e1,f1⟩:=asRat_ok h1 h2
  rw [e1]
  exact (sign_r f1).mono fun e w' he=>val_holds he ⟨rfl,sgn_range _⟩
theorem cNumb_ok (hI:∀ w,I w→Tab w):ConOK Tryz.prog I 35 cNumb:=con1_ok fun ⟨k,a⟩ x n X w T hw h1 h2 hT _=>by
  obtain ⟨hb,rfl⟩:=tr_some hT
  obtain ⟨u0,u1,u2,u3,e1,f1⟩:=asRat_ok h1 h2
  rw [e1]
  exact (number_r f1 (by simpa using hb) (hI w hw)).mono fun e w' he=>val_holds he (txt_ok f1.szr)
theorem cNum_ok:ConOK Tryz.prog I 79 cNum:=con1_ok fun ⟨k,a⟩ x n X w T _ h1 h2 hT _=>by
  cases hT
  obtain ⟨u0,u1,u2,u3,e1,f1⟩:=asRat_ok h1 h2
  rw [e1]
  exact (num_r f1).mono fun e w' he=>newInt_holds he
theorem cDen_ok:ConOK Tryz.prog I 65 cDen:=con1_ok fun ⟨k,a⟩ x n X w T _ h1 h2 hT _=>by
  cases hT
  obtain ⟨u0,u1,u2,u3,e1,f1⟩:=asRat_ok h1 h2
  rw [e1]
  exact (den_i f1).mono fun e w' he=>newInt_holds he
theorem num_ne {q:Rat} (h:q≠0):q.num≠0:=fun e=>h (Rat.num_eq_zero.1 e)
theorem cDiv_ok:ConOK Tryz.prog I 41 cDiv:=con2_ok fun ⟨k,a⟩ ⟨m,b⟩ x y n X w T _ h1 h2 hx hy hT _=>by
  obtain ⟨hb,rfl⟩:=tr_some hT
  obtain ⟨u0,u1,u2,u3,e1,f1⟩:=asRat_ok h1 hx
  obtain ⟨v0,v1,v2,v3,e2,f2⟩:=asRat_ok h2 hy
  rw [e1,e2]
  by_cases h0:b=0
  · refine (div_0 f1 f2 (by rw [h0];rfl)).mono fun e w' he=>⟨fun _=>val_holds he fun x hx=>?_,fun h=>absurd h0 (of_decide_eq_false h)⟩
    simp only [List.mem_cons,List.not_mem_nil,or_false] at hx
    rcases hx with rfl | rfl
    · intro c hc
      simp only [List.mem_cons,List.not_mem_nil,or_false] at hc
      rcases hc with rfl | rfl | rfl | rfl<;>refine ⟨rfl,?_⟩<;>first | rfl | (intro v hv;cases hv;rfl)
    · exact ⟨rfl,Int.le_refl _,Int.le_refl _⟩
  · exact (div_a f1 f2 (by simpa using hb) (num_ne h0)).mono fun e w' he=>⟨fun h=>absurd (of_decide_eq_true h) h0,fun _=>ratE_holds he⟩
theorem cZFrom_ok:ConOK Tryz.prog I 66 cZFrom:=con1_ok fun a x n X w T _ h1 h2 hT _=>by
  cases hT
  obtain ⟨e1,h3,h4⟩:=as64_ok h1 h2
  rw [e1]
  exact (from_i a h3 h4 w).mono fun e w' he=>newInt_holds he
theorem cZMul_ok:ConOK Tryz.prog I 64 cZMul:=con2_ok fun ⟨k,a⟩ ⟨m,b⟩ x y n X w T _ h1 h2 hx hy hT _=>by
  obtain ⟨hb,rfl⟩:=tr_some hT
  obtain ⟨u0,u1,e1,f1⟩:=asInt_ok h1 hx
  obtain ⟨v0,v1,e2,f2⟩:=asInt_ok h2 hy
  rw [e1,e2]
  exact (mul_i f1 f2 (by simpa using hb)).mono fun e w' he=>newInt_holds he
theorem cZGcd_ok:ConOK Tryz.prog I 75 cZGcd:=con2_ok fun ⟨k,a⟩ ⟨m,b⟩ x y n X w T _ h1 h2 hx hy hT _=>by
  obtain ⟨hb,rfl⟩:=tr_some hT
  obtain ⟨u0,u1,e1,f1⟩:=asInt_ok h1 hx
  obtain ⟨v0,v1,e2,f2⟩:=asInt_ok h2 hy
  rw [e1,e2]
  exact (gcd_i f1 f2 (by simpa using hb)).mono fun e w' he=>newInt_holds he
theorem cZDiv_ok:ConOK Tryz.prog I 77 cZDiv:=con2_ok fun ⟨k,a⟩ ⟨m,b⟩ x y n X w T _ h1 h2 hx hy hT hp=>by
  obtain ⟨hb,rfl⟩:=tr_some hT
  obtain ⟨u0,u1,e1,f1⟩:=asInt_ok h1 hx
  obtain ⟨v0,v1,e2,f2⟩:=asInt_ok h2 hy
  rw [e1,e2]
  refine (divmod_i f1 f2 (of_decide_eq_true hp.1) (by simpa using hb)).mono fun e w' he=>?_
  obtain ⟨⟨c0,c1,c2,c3,rfl,g1,g2⟩,g⟩:=he
  have k1:=newInt_ok (n:=n) (X:=X) g1
  have ag1:=Env.pushZ_agree X n c0 c1
  have k2:=newInt_ok (n:=⟨n.b,n.r,n.z+1⟩) (X:=X.pushZ n.z c0 c1) g2
  have ag2:=Env.pushZ_agree (X.pushZ n.z c0 c1) ⟨n.b,n.r,n.z+1⟩ c2 c3
  refine ⟨_,?_,g,ag1.trans (ag2.mono ⟨Nat.le_refl _,Nat.le_refl _,Nat.le_succ _⟩),fun x hx=>?_⟩
  · have a1:TV.den ((X.pushZ n.z c0 c1).pushZ (n.z+1) c2 c3) (.vg [.cz n.z 0 k (a/b),.cz n.z 1 k (a/b)])=.agg #[c0,c1]:=by
      rw [← TV.den_agree ag2 (x:=.vg _) (W:=w') k1.2];exact k1.1
    have a2:TV.den ((X.pushZ n.z c0 c1).pushZ (n.z+1) c2 c3) (.vg [.cz (n.z+1) 0 m (a % b),.cz (n.z+1) 1 m (a % b)])=.agg #[c2,c3]:=k2.1
    simp only [SV.den,List.map_cons,List.map_nil,a1,a2]
    rfl
  · simp only [List.mem_cons,List.not_mem_nil,or_false] at hx
    rcases hx with rfl | rfl | rfl
    · exact TV.ok_to (x:=.vg _) (m:=⟨n.b,n.r,n.z+1⟩) (n:=⟨n.b,n.r,n.z+2⟩) ⟨Nat.le_refl _,Nat.le_refl _,Nat.le_succ _⟩ ag2 (Kp.refl w') k1.2
    · exact k2.2
    · exact ⟨rfl,Int.le_refl _,Int.le_refl _⟩
theorem cPars_ok (hI:∀ w,I w→Mx w):ConOK Tryz.prog I 121 (cPars 400):=con1_ok fun ⟨k,a⟩ x n X w T hw h1 h2 hT _=>by
  obtain ⟨hb,rfl⟩:=tr_some hT
  simp only [Bool.and_eq_true,Nat.ble_eq] at hb
  obtain ⟨e1,f1⟩:=asTxt_ok h1 h2
  rw [e1]
  have hl:=ratL_len f1.1 f1.2
  exact (parse_q (k:=max k 64) a ⟨f1.1.mono (by omega),f1.2.mono (by omega)⟩ (by omega) (by omega) (by omega) w (hI w hw)).mono fun e w' he=>ratE_holds he
end
-- LEFT OUT:cTAdd_ok cTDiv_ok cTFrom_ok cTMul_ok cTNeg_ok cTSub_ok cZInt_ok int_c int_i r1_check r1_check_l r1_digits r1_digits_i r1_divmod r1_from r1_from_n r1_from_p r1_gcd r1_minus r1_minus_f r1_minus_i r1_mul r1_order r1_order_i r1_plus r1_plus_i r1_sign_i r1_sign_n r1_sign_p r1_sign_v r1_sign_z r1_sub_one r1_text r1_text_s r1_text_z r1_trim r2_check r2_check_l r2_digits r2_parts r2_parts_q r2_slash r2_text_q r2_zeros text_at wpList_makeI
/-- rationals as arguments:their cells,the environment -/
def envR (cs:List Value):Env:=⟨fun _=>0,fun j c=>cs.getD (4*j+c) undef,fun _ _=>undef,[],[]⟩
def okA (n:Nn) (X:Env) (W:World):List Cl→Prop
  | []=>True
  | c::l=>c.ok n X W∧okA n X W l
theorem okA_ok {n:Nn} {X:Env} {W:World}:∀ {l:List Cl},okA n X W l→okL n X W l
  | [],_,_,h=>by cases h
  | c::l,hh,x,h=>by
    rcases List.mem_cons.1 h with rfl | h
    · exact hh.1
    · exact okA_ok hh.2 x h
theorem okF1 {n:Nn} {X:Env} {W:World} {v:SV} (h:v.ok n X W):okF n X W [v]:=fun x hx=>by rw [List.mem_singleton] at hx;exact hx ▸ h
end Go.Proofs.YthhbibpaeonecaaGreatDoor
namespace Go.Proofs.YthhbibpaeonecaaGreatDoor
end Go.Proofs.YthhbibpaeonecaaGreatDoor
namespace Go.Proofs.YthhbibpaeonecaaGreatDoor
open Go.RowKit
section
variable {P:Program} {a:Act} {o:Oper} {w:World} {Q:Exit→Act→World→Prop}
end

theorem IsRat.small {w:World} {K:Nat} {c0 c1 c2 c3:Value} {z:Int} (h:IsRat w K c0 c1 c2 c3 (z:Rat)) (h0:-9223372036854775808≤z) (h1:z≤9223372036854775807):IsRat w 64 c0 c1 c2 c3 (z:Rat):=by
  obtain ⟨hn,⟨D,hd,hD⟩,_⟩:=h
  have e1:((z:Rat)).num=z:=Rat.num_intCast z
  have e2:((z:Rat)).den=1:=Rat.den_intCast z
  rw [e1] at hn
  refine ⟨by rw [e1];exact hn.resz (Sz.i64 h0 h1),⟨D,hd.resz ?_,hD⟩,Nat.le_refl 64⟩
  unfold Sz
  rw [e2] at hD
  rcases hD with h | ⟨h,_⟩<;>subst h<;>decide
def pden4 (a1 a2 a3 a4:Rat):Int:=lcmS (lcmS (lcmS (lcmS 1 (a1.den:Int)) (a2.den:Int)) (a3.den:Int)) (a4.den:Int)
/-- the sign of the first number that is not 0 -/
def wsgn (a1 a2 a3 a4:Rat):Int:=if sgn a1.num=0 then (if sgn a2.num=0 then (if sgn a3.num=0 then sgn a4.num else sgn a3.num) else sgn a2.num) else sgn a1.num
def wout (a1 a2 a3 a4 x:Rat):Int:=x.num*(pden4 a1 a2 a3 a4/(x.den:Int))*wsgn a1 a2 a3 a4
def wgcd (a1 a2 a3 a4:Rat):Int:=
  (Int.gcd (Int.gcd (Int.gcd (Int.gcd 0 (wout a1 a2 a3 a4 a1):Int) (wout a1 a2 a3 a4 a2):Int) (wout a1 a2 a3 a4 a3):Int) (wout a1 a2 a3 a4 a4):Int)
def wz (a1 a2 a3 a4 x:Rat):Int:=wout a1 a2 a3 a4 x/wgcd a1 a2 a3 a4
section
variable {a11 a12 a13 a21 a22 a23 a31 a32 a33:Rat}
end
def qgcd (n1 n2 n3 n4:Int):Int:=(Int.gcd (Int.gcd (Int.gcd (Int.gcd 0 n1:Int) n2:Int) n3:Int) n4:Int)
def qsgn (n1 n2 n3 n4:Int):Int:=if n1=0 then (if n2=0 then (if n3=0 then sgn n4 else sgn n3) else sgn n2) else sgn n1
def qprim (n1 n2 n3 n4 n:Int):Int:=n/qgcd n1 n2 n3 n4*qsgn n1 n2 n3 n4
/-- the integers of a valid placement's turn -/
structure VT (q0 q1 q2 q3:Int):Prop where
  b0:-12≤q0∧q0≤12
  b1:-12≤q1∧q1≤12
  b2:-12≤q2∧q2≤12
  b3:-12≤q3∧q3≤12
  g:qgcd q0 q1 q2 q3=1
  s:qsgn q0 q1 q2 q3=1
theorem VT.ne {q0 q1 q2 q3:Int} (h:VT q0 q1 q2 q3):¬(q0=0∧q1=0∧q2=0∧q3=0):=by
  rintro ⟨rfl,rfl,rfl,rfl⟩;exact absurd h.s (by decide)
theorem VT.prim {q0 q1 q2 q3:Int} (h:VT q0 q1 q2 q3) (n:Int):qprim q0 q1 q2 q3 n=n:=by
  unfold qprim;rw [h.g,h.s,Int.ediv_one,Int.mul_one]
theorem IsInt.tight {w:World} {k m:Nat} {x y:Value} {z:Int} (h:IsInt w k x y z) (hs:Sz m z):IsInt w m x y z:=by
  obtain ⟨ao,len,cap,h1,h2,h3,_⟩:=h
  exact ⟨ao,len,cap,h1,h2,h3,hs⟩
theorem IsRat.tight {w:World} {k m:Nat} {c0 c1 c2 c3:Value} {q:Rat} (h:IsRat w k c0 c1 c2 c3 q) (hs:RS m q) (hm:64≤m):IsRat w m c0 c1 c2 c3 q:=by
  obtain ⟨h1,⟨D,h2,h3⟩,_⟩:=h
  refine ⟨h1.tight hs.1,⟨D,h2.tight ?_,h3⟩,hm⟩
  rcases h3 with rfl | ⟨rfl,_⟩
  · exact hs.2
  · exact Nat.two_pow_pos m
/-- that the values are these rationals -/
def IsRats (w:World):List Value→List (Nat × Rat)→Prop
  | [],[]=>True
  | a::b::c::d::v,x::l=>IsRat w x.1 a b c d x.2∧IsRats w v l
  | _,_=>False
theorem IsRats.cons {w:World} {v:List Value} {x:Nat × Rat} {l:List (Nat × Rat)} (h:IsRats w v (x::l)):∃ a b c d u,v=a::b::c::d::u∧IsRat w x.1 a b c d x.2∧IsRats w u l:=by
  match v,h with
  | a::b::c::d::u,h=>exact ⟨a,b,c,d,u,rfl,h.1,h.2⟩
theorem IsRats.nil {w:World} {v:List Value} (h:IsRats w v []):v=[]:=by
  cases v with
  | nil=>rfl
  | cons a v=>simp [IsRats] at h
/-! ### rows of rationals that come back -/
def Conv:List (Nat × Rat)→List (Nat × Rat)→Prop
  | [],[]=>True
  | (_,q)::l,(m,r)::l'=>(q=r∧RS m r∧64≤m)∧Conv l l'
  | _,_=>False
theorem IsRats.conv {w:World}:∀ {vs:List Value} {l l':List (Nat × Rat)},IsRats w vs l→Conv l l'→IsRats w vs l'
  | [],[],[],_,_=>trivial
  | a::b::c::d::vs,(k,q)::l,(m,r)::l',h,hc=>by
    obtain ⟨⟨rfl,h1,h2⟩,h3⟩:=hc
    exact ⟨h.1.tight h1 h2,IsRats.conv h.2 h3⟩
  | [],[],_::_,_,h=>by cases h
  | _,_::_,[],_,h=>by cases h
  | [],_::_,_::_,h,_=>by cases h
  | [_],_::_,_::_,h,_=>by cases h
  | [_,_],_::_,_::_,h,_=>by cases h
  | [_,_,_],_::_,_::_,h,_=>by cases h
  | _::_,[],_,h,_=>by simp [IsRats] at h
def cellsR:Nat→List (Nat × Rat)→List Cl
  | _,[]=>[]
  | j,(k,q)::l=>.cr j 0 k q::.cr j 1 k q::.cr j 2 k q::.cr j 3 k q::cellsR (j+1) l
def envV (X:Env) (n:Nat) (vs:List Value):Env:={X with R:=fun i c=>if i<n then X.R i c else vs.getD (4*(i - n)+c) undef}
theorem cellsR_ok {w:World} {X:Env} {n:Nn} (vs:List Value):∀ (l:List (Nat × Rat)) (us:List Value) (j m:Nat),IsRats w us l→vs.drop (4*j)=us→m=n.r+j+l.length→
    (cellsR (n.r+j) l).map (Cl.den (envV X n.r vs))=us∧okL ⟨n.b,m,n.z⟩ (envV X n.r vs) w (cellsR (n.r+j) l)
  | [],[],j,m,_,_,_=>⟨rfl,fun _ h=>by cases h⟩
  | (k,q)::l,a::b::c::d::us,j,m,h,hd,hm=>by
    have hR:∀ t,(envV X n.r vs).R (n.r+j) t=vs.getD (4*j+t) undef:=fun t=>by
      show (if n.r+j<n.r then _ else _)=_
      rw [if_neg (by omega),Nat.add_sub_cancel_left]
    have hg:∀ t,vs.getD (4*j+t) undef=(a::b::c::d::us).getD t undef:=fun t=>by
      rw [← hd,List.getD_eq_getElem?_getD,List.getD_eq_getElem?_getD,List.getElem?_drop]
    have e0:(envV X n.r vs).R (n.r+j) 0=a:=by rw [hR,hg];rfl
    have e1:(envV X n.r vs).R (n.r+j) 1=b:=by rw [hR,hg];rfl
    have e2:(envV X n.r vs).R (n.r+j) 2=c:=by rw [hR,hg];rfl
    have e3:(envV X n.r vs).R (n.r+j) 3=d:=by rw [hR,hg];rfl
    simp only [List.length_cons] at hm
    obtain ⟨i1,i2⟩:=cellsR_ok (X:=X) (n:=n) vs l us (j+1) m h.2 (by
      have:=congrArg (List.drop 4) hd
      rw [List.drop_drop] at this
      simpa [Nat.mul_add] using this) (by omega)
    refine ⟨?_,fun x hx=>?_⟩
    · simp only [cellsR,List.map_cons,Cl.den,e0,e1,e2,e3]
      rw [show n.r+j+1=n.r+(j+1) by omega,i1]
    · have hl:Nat.blt (n.r+j) m=true:=blt_to (by omega)
      have hq:IsRat w k ((envV X n.r vs).R (n.r+j) 0) ((envV X n.r vs).R (n.r+j) 1) ((envV X n.r vs).R (n.r+j) 2) ((envV X n.r vs).R (n.r+j) 3) q:=by rw [e0,e1,e2,e3];exact h.1
      simp only [cellsR,List.mem_cons] at hx
      rcases hx with rfl | rfl | rfl | rfl | hx
      · exact ⟨by simp only [Cl.lt,hl];rfl,hq⟩
      · exact ⟨by simp only [Cl.lt,hl];rfl,hq⟩
      · exact ⟨by simp only [Cl.lt,hl];rfl,hq⟩
      · exact ⟨by simp only [Cl.lt,hl];rfl,hq⟩
      · exact i2 x (by rw [show n.r+(j+1)=n.r+j+1 by omega];exact hx)
  | _::_,[],_,_,h,_,_=>by cases h
  | _::_,[_],_,_,h,_,_=>by cases h
  | _::_,[_,_],_,_,h,_,_=>by cases h
  | _::_,[_,_,_],_,_,h,_,_=>by cases h
  | [],_::_,_,_,h,_,_=>by simp [IsRats] at h
theorem envV_agr (X:Env) (n:Nn) (vs:List Value):Agr n X (envV X n.r vs):=⟨fun _ _=>rfl,fun _ _ hi=>(if_pos hi).symm,fun _ _ _=>rfl,rfl⟩
/-- the rational of a text,0 if it is none's -/
noncomputable def valR (X:List UInt8):Rat:=if h:ck2 X 40=0 then (ck2_ratL h).1.choose else 0
theorem valR_ok {X:List UInt8} (h:ck2 X 40=0):X=ratL (valR X):=by
  unfold valR
  rw [dif_pos h]
  exact (ck2_ratL h).1.choose_spec
theorem valR_no {X:List UInt8} (h:ck2 X 40≠0):valR X=0:=dif_neg h
theorem ck2_20 (X:List UInt8) (m:Nat):0≤ck2 X m∧ck2 X m≤20:=by
  unfold ck2
  repeat' split
  all_goals first | omega | decide
theorem red_any (X:List UInt8) (hl:X.length≤40) (w:World) (hm:Mx w):
    Calls Tryz.prog 23 #[.string ⟨X.toArray⟩] w fun e w'=>(∃ vs:List Value,e=.returned (.tuple #[.agg vs.toArray,.int .i64 (ck2 X 40)])∧IsRats w' vs [(160,valR X)])∧Gr w w':=by
  by_cases h:ck2 X 40=0
  · have e:=valR_ok h
    have hs:=ratL_sz (valR X) (m:=40) (by rw [← e];omega)
    have:=readr_q (k:=160) (valR X) hs (by omega) (by omega) (by rw [← e];omega) w hm
    rw [← e] at this
    refine this.mono fun e w' he=>⟨?_,he.2⟩
    obtain ⟨⟨c0,c1,c2,c3,rfl,h1⟩,_⟩:=he
    exact ⟨[c0,c1,c2,c3],by rw [h],h1,trivial⟩
  · have e:ck2 X 40=ck2 X 65536:=by
      unfold ck2
      rw [if_neg (show ¬ 40<X.length by omega),if_neg (show ¬ 65536<X.length by omega)]
    have h2:=h
    rw [e] at h2
    refine (rread_bad X (by omega) h2 w hm).mono fun e' w' he=>⟨?_,he.2⟩
    obtain ⟨rfl,_⟩:=he
    exact ⟨[.bool false,.slice none 0 0,.bool false,.slice none 0 0],by rw [e],by rw [valR_no h];exact ⟨IsRat.zero _ (show 64≤160 by decide),trivial⟩⟩
theorem ratsZ_holds {n:Nn} {X:Env} {w w':World} {e:Ending} {l:List (Nat × Rat)} {z lo hi:Int} (h:(∃ vs:List Value,e=.returned (.tuple #[.agg vs.toArray,.int .i64 z])∧IsRats w' vs l)∧Gr w w') (hz:lo≤z∧z≤hi):(Tr.leaf (.st [.vg (cellsR n.r l),.vc (.ci .i64 z lo hi)]) l.length 0).holds n X w e w':=by
  obtain ⟨⟨vs,rfl,h1⟩,g⟩:=h
  obtain ⟨a,b⟩:=cellsR_ok (X:=X) (n:=n) vs l vs 0 (n.r+l.length) h1 rfl (by omega)
  refine ⟨envV X n.r vs,?_,g,envV_agr X n vs,fun x hx=>?_⟩
  · simp only [SV.den,TV.den,List.map,Cl.den,dnL]
    rw [show cellsR n.r l=cellsR (n.r+0) l from rfl,a]
  · simp only [List.mem_cons,List.not_mem_nil,or_false] at hx
    rcases hx with rfl | rfl
    · exact b
    · exact ⟨rfl,hz⟩
noncomputable def cRed:ConT:=fun args nr _=>match args with
  | [.so (.vc (.ct X))]=>some (.as (decide (X.length≤40)) (.leaf (.st [.vg (cellsR nr [(160,valR X)]),.vc (.ci .i64 (ck2 X 40) 0 20)]) 1 0))
  | _=>none
theorem cRed_ok {I:World→Prop} (hI:∀ w,I w→Mx w):ConOK Tryz.prog I 23 cRed:=by
  intro args E n w T hw ha hT hp
  unfold cRed at hT
  split at hT
  · rename_i X
    cases hT
    exact (red_any X (of_decide_eq_true hp.1) w (hI w hw)).mono fun e w' he=>ratsZ_holds (l:=[(160,valR X)]) he (ck2_20 X 40)
  · cases hT
set_option maxRecDepth 100000 in
set_option maxHeartbeats 4000000 in
theorem joined_v {k m:Nat} {uaa0 uaa1 uaa2 uaa3 uab0 uab1 uab2 uab3 uac0 uac1 uac2 uac3:Value} {a1 a2 a3:Rat} {vaa0 vaa1 vaa2 vaa3 vab0 vab1 vab2 vab3 vac0 vac1 vac2 vac3:Value} {c1 c2 c3:Rat} {w:World} (hua1:IsRat w k uaa0 uaa1 uaa2 uaa3 a1) (hua2:IsRat w k uab0 uab1 uab2 uab3 a2) (hua3:IsRat w k uac0 uac1 uac2 uac3 a3) (hva1:IsRat w m vaa0 vaa1 vaa2 vaa3 c1) (hva2:IsRat w m vab0 vab1 vab2 vab3 c2) (hva3:IsRat w m vac0 vac1 vac2 vac3 c3) (_hk:k+m≤25000):
    Calls Tryz.prog 50 #[(.agg #[uaa0,uaa1,uaa2,uaa3,uab0,uab1,uab2,uab3,uac0,uac1,uac2,uac3]),(.agg #[vaa0,vaa1,vaa2,vaa3,vab0,vab1,vab2,vab3,vac0,vac1,vac2,vac3])] w fun e w'=>(∃ b t0 t1 t2 t3 t4 t5 t6 t7 t8 t9 t10 t11 t12 t13 t14 t15 t16 t17 t18 t19 t20 t21 t22 t23,e=.returned (.slice (some ⟨b,0,none⟩) 6 6)∧Lc w' b #[t0,t1,t2,t3,t4,t5,t6,t7,t8,t9,t10,t11,t12,t13,t14,t15,t16,t17,t18,t19,t20,t21,t22,t23] 33∧w.heap.size≤b∧IsRat w' k t0 t1 t2 t3 (a1)∧IsRat w' k t4 t5 t6 t7 (a2)∧IsRat w' k t8 t9 t10 t11 (a3)∧IsRat w' m t12 t13 t14 t15 (c1)∧IsRat w' m t16 t17 t18 t19 (c2)∧IsRat w' m t20 t21 t22 t23 (c3))∧Gr w w':=by
 go_enter Tryz.func50,Tryz.ntmps50
 have hB:=Gr.refl w
 refine wp_seq_k (fun K1 k1=>?_)
 refine rg [0,1,2] ?_
 refine se ?_
 refine eb 35 #[uaa0,uaa1,uaa2,uaa3,uab0,uab1,uab2,uab3,uac0,uac1,uac2,uac3] 2 hB fun b2 w2 g2 L2 o2 q2 hB=>?_
 simp only [p3,p4]
 refine se ?_
 refine eb 35 #[vaa0,vaa1,vaa2,vaa3,vab0,vab1,vab2,vab3,vac0,vac1,vac2,vac3] 3 hB fun b3 w3 g3 L3 o3 q3 hB=>?_
 simp only [p3,p4]
 refine sv 4 (.slice none 0 0) ?_
 refine sq_nil ?_
 refine k1 _ _ ?_
 try clear k1 K1
 refine wp_seq_k (fun K4 k4=>?_)
 refine rg [0,1] ?_
 refine se ?_
 refine eff_make 102 33 (.agg #[(.bool false),(.slice none 0 0),(.bool false),(.slice none 0 0)]) 6 6 4 #[(.bool false),(.slice none 0 0),(.bool false),(.slice none 0 0),(.bool false),(.slice none 0 0),(.bool false),(.slice none 0 0),(.bool false),(.slice none 0 0),(.bool false),(.slice none 0 0),(.bool false),(.slice none 0 0),(.bool false),(.slice none 0 0),(.bool false),(.slice none 0 0),(.bool false),(.slice none 0 0),(.bool false),(.slice none 0 0),(.bool false),(.slice none 0 0)] (some 7) rfl rfl rfl rfl (by kernel_rfl) (by kernel_rfl) (by kernel_rfl) (by kernel_rfl) (fun b5 w5 g5 L5 q5=>?_)
 replace L2:=L2.gr g3
 have ne2_5:=L2.ne q5
 have ne3_5:=L3.ne q5
 replace q5:=Nat.le_trans (Below.size hB) q5
 replace hB:=hB.trans g5
 simp only [putl,p3,p4]
 refine sv 5 (.slice (some ⟨b5,0,none⟩) 6 6) ?_
 refine sq_nil ?_
 refine k4 _ _ ?_
 try clear k4 K4
 refine wp_seq_k (fun K6 k6=>?_)
 refine wp_seq_k (fun K7 k7=>?_)
 refine rg [0] ?_
 refine sv 8 (.int .i64 0) ?_
 refine sq_nil ?_
 refine k7 _ _ ?_
 try clear k7 K7
 refine wp_block ?_
 refine wp_loop_rounds 4 ?_
 show Code.wp _ _ _ _ _
 refine wp_seq_k (fun K8 k8=>?_)
 refine rg [0] ?_
 refine sv 9 (.bool true) ?_
 refine sq_nil ?_
 refine k8 _ _ ?_
 try clear k8 K8
 refine wp_seq_k (fun K9 k9=>?_)
 refine wp_cond_true rfl ?_
 refine wp_skip ?_
 refine k9 _ _ ?_
 try clear k9 K9
 refine wp_seq_k (fun K10 k10=>?_)
 refine wp_block ?_
 refine wp_seq_k (fun K11 k11=>?_)
 refine rg [0,1] ?_
 refine sv 10 (.int .i64 0) ?_
 refine sv 6 (.int .i64 0) ?_
 refine sq_nil ?_
 refine k11 _ _ ?_
 try clear k11 K11
 have gd17:=Gr.drew w5
 replace hB:=hB.trans gd17
 replace L2:=L2.gr (g5.trans gd17)
 replace L3:=L3.gr (g5.trans gd17)
 refine wp_region_ord (fun w'=>Lc w' b2 #[uaa0,uaa1,uaa2,uaa3,uab0,uab1,uab2,uab3,uac0,uac1,uac2,uac3] 35∧Lc w' b3 #[vaa0,vaa1,vaa2,vaa3,vab0,vab1,vab2,vab3,vac0,vac1,vac2,vac3] 35) [(true,0),(true,1),(true,2),(true,3),(true,4),(true,5),(true,6),(true,7),(true,8),(true,9),(true,10),(true,11),(false,12),(true,13),(false,14)] (by kernel_rfl) (by kernel_rfl) (by kernel_rfl) (by decide) (fun _ _ _ _ _ h=>h) ⟨L2,L3⟩ ?_
 refine ov 11 (.slice (some ⟨b5,0,none⟩) 6 6) ?_
 refine ov 12 (.int .i64 0) ?_
 refine ov 13 (.slice (some ⟨b5,0,none⟩) 6 6) ?_
 refine ov 14 (.int .i64 0) ?_
 refine ov 15 (.int .i64 3) ?_
 refine ov 16 (.int .i64 0) ?_
 refine ov 17 (.pointer (some ⟨b2,0,none⟩)) ?_
 refine ow 18 (.agg #[uaa0,uaa1,uaa2,uaa3]) rfl (fun w' hS=>(rl 33 0 [uaa0,uaa1,uaa2,uaa3] hS.1)) ?_
 refine ov 19 (.int .i64 0) ?_
 refine ov 20 (.pointer (some ⟨b3,0,none⟩)) ?_
 refine ow 21 (.agg #[vaa0,vaa1,vaa2,vaa3]) rfl (fun w' hS=>(rl 33 0 [vaa0,vaa1,vaa2,vaa3] hS.2)) ?_
 refine ov 22 (.pointer (some ⟨b5,0,none⟩)) ?_
 refine oe ?_
 replace L5:=L5.gr gd17
 refine es 33 0 (.agg #[uaa0,uaa1,uaa2,uaa3]) [uaa0,uaa1,uaa2,uaa3] #[uaa0,uaa1,uaa2,uaa3,(.bool false),(.slice none 0 0),(.bool false),(.slice none 0 0),(.bool false),(.slice none 0 0),(.bool false),(.slice none 0 0),(.bool false),(.slice none 0 0),(.bool false),(.slice none 0 0),(.bool false),(.slice none 0 0),(.bool false),(.slice none 0 0),(.bool false),(.slice none 0 0),(.bool false),(.slice none 0 0)] L5 hB q5 ⟨hua1.one0,hua1.one1,hua1.one2,hua1.one3,trivial⟩ fun w19 st19 kp19 L5 hB=>?_
 replace L2:=st19.lc L2 ne2_5
 replace L3:=st19.lc L3 ne3_5
 refine ⟨⟨L2,L3⟩,?_⟩
 refine ov 23 (.pointer (some ⟨b5,12,none⟩)) ?_
 refine oe ?_
 refine es 33 12 (.agg #[vaa0,vaa1,vaa2,vaa3]) [vaa0,vaa1,vaa2,vaa3] #[uaa0,uaa1,uaa2,uaa3,(.bool false),(.slice none 0 0),(.bool false),(.slice none 0 0),(.bool false),(.slice none 0 0),(.bool false),(.slice none 0 0),vaa0,vaa1,vaa2,vaa3,(.bool false),(.slice none 0 0),(.bool false),(.slice none 0 0),(.bool false),(.slice none 0 0),(.bool false),(.slice none 0 0)] L5 hB q5 ⟨hva1.one0,hva1.one1,hva1.one2,hva1.one3,trivial⟩ fun w21 st21 kp21 L5 hB=>?_
 replace L2:=st21.lc L2 ne2_5
 replace L3:=st21.lc L3 ne3_5
 refine ⟨⟨L2,L3⟩,?_⟩
 refine ord_nil ?_
 refine k10 _ _ ?_
 try clear k10 K10
 refine rg [0,1] ?_
 refine sv 24 (.int .i64 1) ?_
 refine sv 8 (.int .i64 1) ?_
 refine sq_nil ?_
 show Code.rounds _ _ _ _ _ _
 show Code.wp _ _ _ _ _
 refine wp_seq_k (fun K22 k22=>?_)
 refine rg [0] ?_
 refine sv 9 (.bool true) ?_
 refine sq_nil ?_
 refine k22 _ _ ?_
 try clear k22 K22
 refine wp_seq_k (fun K23 k23=>?_)
 refine wp_cond_true rfl ?_
 refine wp_skip ?_
 refine k23 _ _ ?_
 try clear k23 K23
 refine wp_seq_k (fun K24 k24=>?_)
 refine wp_block ?_
 refine wp_seq_k (fun K25 k25=>?_)
 refine rg [0,1] ?_
 refine sv 10 (.int .i64 1) ?_
 refine sv 6 (.int .i64 1) ?_
 refine sq_nil ?_
 refine k25 _ _ ?_
 try clear k25 K25
 have gd31:=Gr.drew w21
 replace hB:=hB.trans gd31
 replace L2:=L2.gr gd31
 replace L3:=L3.gr gd31
 refine wp_region_ord (fun w'=>Lc w' b2 #[uaa0,uaa1,uaa2,uaa3,uab0,uab1,uab2,uab3,uac0,uac1,uac2,uac3] 35∧Lc w' b3 #[vaa0,vaa1,vaa2,vaa3,vab0,vab1,vab2,vab3,vac0,vac1,vac2,vac3] 35) [(true,0),(true,1),(true,2),(true,3),(true,4),(true,5),(true,6),(true,7),(true,8),(true,9),(true,10),(true,11),(false,12),(true,13),(false,14)] (by kernel_rfl) (by kernel_rfl) (by kernel_rfl) (by decide) (fun _ _ _ _ _ h=>h) ⟨L2,L3⟩ ?_
 refine ov 11 (.slice (some ⟨b5,0,none⟩) 6 6) ?_
 refine ov 12 (.int .i64 1) ?_
 refine ov 13 (.slice (some ⟨b5,0,none⟩) 6 6) ?_
 refine ov 14 (.int .i64 1) ?_
 refine ov 15 (.int .i64 4) ?_
 refine ov 16 (.int .i64 1) ?_
 refine ov 17 (.pointer (some ⟨b2,4,none⟩)) ?_
 refine ow 18 (.agg #[uab0,uab1,uab2,uab3]) rfl (fun w' hS=>(rl 33 4 [uab0,uab1,uab2,uab3] hS.1)) ?_
 refine ov 19 (.int .i64 1) ?_
 refine ov 20 (.pointer (some ⟨b3,4,none⟩)) ?_
 refine ow 21 (.agg #[vab0,vab1,vab2,vab3]) rfl (fun w' hS=>(rl 33 4 [vab0,vab1,vab2,vab3] hS.2)) ?_
 refine ov 22 (.pointer (some ⟨b5,4,none⟩)) ?_
 refine oe ?_
 replace L5:=L5.gr gd31
 refine es 33 4 (.agg #[uab0,uab1,uab2,uab3]) [uab0,uab1,uab2,uab3] #[uaa0,uaa1,uaa2,uaa3,uab0,uab1,uab2,uab3,(.bool false),(.slice none 0 0),(.bool false),(.slice none 0 0),vaa0,vaa1,vaa2,vaa3,(.bool false),(.slice none 0 0),(.bool false),(.slice none 0 0),(.bool false),(.slice none 0 0),(.bool false),(.slice none 0 0)] L5 hB q5 ⟨hua2.one0,hua2.one1,hua2.one2,hua2.one3,trivial⟩ fun w33 st33 kp33 L5 hB=>?_
 replace L2:=st33.lc L2 ne2_5
 replace L3:=st33.lc L3 ne3_5
 refine ⟨⟨L2,L3⟩,?_⟩
 refine ov 23 (.pointer (some ⟨b5,16,none⟩)) ?_
 refine oe ?_
 refine es 33 16 (.agg #[vab0,vab1,vab2,vab3]) [vab0,vab1,vab2,vab3] #[uaa0,uaa1,uaa2,uaa3,uab0,uab1,uab2,uab3,(.bool false),(.slice none 0 0),(.bool false),(.slice none 0 0),vaa0,vaa1,vaa2,vaa3,vab0,vab1,vab2,vab3,(.bool false),(.slice none 0 0),(.bool false),(.slice none 0 0)] L5 hB q5 ⟨hva2.one0,hva2.one1,hva2.one2,hva2.one3,trivial⟩ fun w35 st35 kp35 L5 hB=>?_
 replace L2:=st35.lc L2 ne2_5
 replace L3:=st35.lc L3 ne3_5
 refine ⟨⟨L2,L3⟩,?_⟩
 refine ord_nil ?_
 refine k24 _ _ ?_
 try clear k24 K24
 refine rg [0,1] ?_
 refine sv 24 (.int .i64 2) ?_
 refine sv 8 (.int .i64 2) ?_
 refine sq_nil ?_
 show Code.rounds _ _ _ _ _ _
 show Code.wp _ _ _ _ _
 refine wp_seq_k (fun K36 k36=>?_)
 refine rg [0] ?_
 refine sv 9 (.bool true) ?_
 refine sq_nil ?_
 refine k36 _ _ ?_
 try clear k36 K36
 refine wp_seq_k (fun K37 k37=>?_)
 refine wp_cond_true rfl ?_
 refine wp_skip ?_
 refine k37 _ _ ?_
 try clear k37 K37
 refine wp_seq_k (fun K38 k38=>?_)
 refine wp_block ?_
 refine wp_seq_k (fun K39 k39=>?_)
 refine rg [0,1] ?_
 refine sv 10 (.int .i64 2) ?_
 refine sv 6 (.int .i64 2) ?_
 refine sq_nil ?_
 refine k39 _ _ ?_
 try clear k39 K39
 have gd45:=Gr.drew w35
 replace hB:=hB.trans gd45
 replace L2:=L2.gr gd45
 replace L3:=L3.gr gd45
 refine wp_region_ord (fun w'=>Lc w' b2 #[uaa0,uaa1,uaa2,uaa3,uab0,uab1,uab2,uab3,uac0,uac1,uac2,uac3] 35∧Lc w' b3 #[vaa0,vaa1,vaa2,vaa3,vab0,vab1,vab2,vab3,vac0,vac1,vac2,vac3] 35) [(true,0),(true,1),(true,2),(true,3),(true,4),(true,5),(true,6),(true,7),(true,8),(true,9),(true,10),(true,11),(false,12),(true,13),(false,14)] (by kernel_rfl) (by kernel_rfl) (by kernel_rfl) (by decide) (fun _ _ _ _ _ h=>h) ⟨L2,L3⟩ ?_
 refine ov 11 (.slice (some ⟨b5,0,none⟩) 6 6) ?_
 refine ov 12 (.int .i64 2) ?_
 refine ov 13 (.slice (some ⟨b5,0,none⟩) 6 6) ?_
 refine ov 14 (.int .i64 2) ?_
 refine ov 15 (.int .i64 5) ?_
 refine ov 16 (.int .i64 2) ?_
 refine ov 17 (.pointer (some ⟨b2,8,none⟩)) ?_
 refine ow 18 (.agg #[uac0,uac1,uac2,uac3]) rfl (fun w' hS=>(rl 33 8 [uac0,uac1,uac2,uac3] hS.1)) ?_
 refine ov 19 (.int .i64 2) ?_
 refine ov 20 (.pointer (some ⟨b3,8,none⟩)) ?_
 refine ow 21 (.agg #[vac0,vac1,vac2,vac3]) rfl (fun w' hS=>(rl 33 8 [vac0,vac1,vac2,vac3] hS.2)) ?_
 refine ov 22 (.pointer (some ⟨b5,8,none⟩)) ?_
 refine oe ?_
 replace L5:=L5.gr gd45
 refine es 33 8 (.agg #[uac0,uac1,uac2,uac3]) [uac0,uac1,uac2,uac3] #[uaa0,uaa1,uaa2,uaa3,uab0,uab1,uab2,uab3,uac0,uac1,uac2,uac3,vaa0,vaa1,vaa2,vaa3,vab0,vab1,vab2,vab3,(.bool false),(.slice none 0 0),(.bool false),(.slice none 0 0)] L5 hB q5 ⟨hua3.one0,hua3.one1,hua3.one2,hua3.one3,trivial⟩ fun w47 st47 kp47 L5 hB=>?_
 replace L2:=st47.lc L2 ne2_5
 replace L3:=st47.lc L3 ne3_5
 refine ⟨⟨L2,L3⟩,?_⟩
 refine ov 23 (.pointer (some ⟨b5,20,none⟩)) ?_
 refine oe ?_
 refine es 33 20 (.agg #[vac0,vac1,vac2,vac3]) [vac0,vac1,vac2,vac3] #[uaa0,uaa1,uaa2,uaa3,uab0,uab1,uab2,uab3,uac0,uac1,uac2,uac3,vaa0,vaa1,vaa2,vaa3,vab0,vab1,vab2,vab3,vac0,vac1,vac2,vac3] L5 hB q5 ⟨hva3.one0,hva3.one1,hva3.one2,hva3.one3,trivial⟩ fun w49 st49 kp49 L5 hB=>?_
 replace L2:=st49.lc L2 ne2_5
 replace L3:=st49.lc L3 ne3_5
 refine ⟨⟨L2,L3⟩,?_⟩
 refine ord_nil ?_
 refine k38 _ _ ?_
 try clear k38 K38
 refine rg [0,1] ?_
 refine sv 24 (.int .i64 3) ?_
 refine sv 8 (.int .i64 3) ?_
 refine sq_nil ?_
 show Code.rounds _ _ _ _ _ _
 show Code.wp _ _ _ _ _
 refine wp_seq_k (fun K50 k50=>?_)
 refine rg [0] ?_
 refine sv 9 (.bool false) ?_
 refine sq_nil ?_
 refine k50 _ _ ?_
 try clear k50 K50
 refine wp_seq_k (fun K51 k51=>?_)
 refine wp_cond_false rfl ?_
 refine wp_exit ?_
 simp only [Exit.then,Exit.inBlock,↓reduceIte]
 refine k6 _ _ ?_
 try clear k6 K6
 refine wp_seq_k (fun K52 k52=>?_)
 refine rg [0,1] ?_
 refine sv 25 (.slice (some ⟨b5,0,none⟩) 6 6) ?_
 refine sv 4 (.slice (some ⟨b5,0,none⟩) 6 6) ?_
 refine sq_nil ?_
 refine k52 _ _ ?_
 try clear k52 K52
 refine wp_ret ?_
 refine bodyPost_ret (v:=(.slice (some ⟨b5,0,none⟩) 6 6)) (ret_tmp rfl rfl) rfl ⟨?_,hB⟩
 have kq53:=g2.kp.trans (g3.kp.trans (g5.kp.trans (gd17.kp.trans (kp19.trans (kp21.trans (gd31.kp.trans (kp33.trans (kp35.trans (gd45.kp.trans (kp47.trans kp49))))))))))
 replace hua1:=hua1.kp kq53
 replace hua2:=hua2.kp kq53
 replace hua3:=hua3.kp kq53
 replace hva1:=hva1.kp kq53
 replace hva2:=hva2.kp kq53
 replace hva3:=hva3.kp kq53
 exact ⟨_,_,_,_,_,_,_,_,_,_,_,_,_,_,_,_,_,_,_,_,_,_,_,_,_,rfl,L5,q5,hua1,hua2,hua3,hva1,hva2,hva3⟩

theorem rat_sq_nonneg (a:Rat):0≤a*a:=by
  rcases Rat.le_total (a:=0) (b:=a) with h | h
  · exact Rat.mul_nonneg h h
  · have:0≤(-a)*(-a):=Rat.mul_nonneg (by grind) (by grind)
    grind
theorem dot_pos {a1 a2 a3:Rat} (h:¬(a1=0∧a2=0∧a3=0)):0<0+a1*a1+a2*a2+a3*a3:=by
  have h1:=rat_sq_nonneg a1
  have h2:=rat_sq_nonneg a2
  have h3:=rat_sq_nonneg a3
  rcases (show 0<a1*a1∨0=a1*a1 by grind) with h1 | h1
  · grind
  rcases (show 0<a2*a2∨0=a2*a2 by grind) with h2 | h2
  · grind
  rcases (show 0<a3*a3∨0=a3*a3 by grind) with h3 | h3
  · grind
  exfalso
  apply h
  refine ⟨?_,?_,?_⟩
  · rcases Rat.mul_eq_zero.1 h1.symm with h | h<;>exact h
  · rcases Rat.mul_eq_zero.1 h2.symm with h | h<;>exact h
  · rcases Rat.mul_eq_zero.1 h3.symm with h | h<;>exact h
theorem num_pos {a:Rat} (h:0<a):0<a.num:=by
  have h1:0≤a.num:=Rat.num_nonneg.2 (by grind)
  have h2:a.num≠0:=fun e=>by rw [Rat.num_eq_zero] at e;grind
  omega
theorem sgnz_t {q:Rat} (h:q≠0):(sgn q.num !=(0:Int))=true:=by
  have:sgn q.num≠0:=fun e=>h (Rat.num_eq_zero.1 (sgn_eq_zero.1 e))
  simpa using this
end Go.Proofs.YthhbibpaeonecaaGreatDoor
