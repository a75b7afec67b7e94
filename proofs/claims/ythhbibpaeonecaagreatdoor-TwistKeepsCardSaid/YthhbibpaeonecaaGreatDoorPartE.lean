/- Joined of: Sy8, Sy9, Sya, Syb, Gen36, Gen39, Gen9, Gen61, R1j, Ve, Gen62, Syc, Env, Scal, Stq, Wh, Wg, Qt, Qr, Syr, Plc, Gen131. -/
import Derived.Test.YthhbibpaeonecaaGreatDoorPartD
import Derived.Test.YthhbibpaeonecaaGreatDoorPartC
import Derived.Test.YthhbibpaeonecaaGreatDoorPartB
import Derived.Test.YthhbibpaeonecaaGreatDoorPartA
import Init.Data.Rat.Lemmas
namespace Go.Proofs.YthhbibpaeonecaaGreatDoor
open Go.RowKit

def isEff:Op→Bool
 | .alloc _ | .box _ _ | .store _ _ _ | .makeSlice _ _ _=>true
 | .call c=>match c.callee with
  | .value _=>true
  | _=>false
 | _=>false
abbrev zx3:=FuncId→List SV→Sg→(SV→Sg→Rs)→Rs
noncomputable def xVP (P:Program) (can:Nat→Bool) (o:Oper) (s:Sg) (k:Sg→Rs):Rs:=match xPure P can s.fr s.bl o with
 | some v=>xVal v s fun v s=>s.put o.dst v k
 | none=>none
noncomputable def zz0 (P:Program) (lo hi:Nat) (call:zx3) (ops:Array Oper):List Nat→Sg→(Sg→Rs)→Rs
 | [],s,k=>k s
 | i::r,s,k=>match nth ops.toList i with
  | none=>none
  | some o=>match zR2 ops s.fr o with
   | some true=>if isEff o.op then xOp P lo hi call (fun _=>false) o s fun s=>zz0 P lo hi call ops r s k
    else xVP P (fun _=>true) o s fun s=>zz0 P lo hi call ops r s k
   | some false=>s.put o.dst .su fun s=>zz0 P lo hi call ops r s k
   | none=>none
noncomputable def xOrd (P:Program) (lo hi:Nat) (call:zx3) (can:Nat→Bool) (ops:Array Oper):List (Bool × Nat)→Sg→(Sg→Rs)→Rs
 | [],s,k=>k s
 | (b,i)::r,s,k=>match nth ops.toList i with
  | none=>none
  | some o=>match zR2 ops s.fr o with
   | some true=>match b with
    | false=>xOp P lo hi call can o s fun s=>xOrd P lo hi call can ops r s k
    | true=>xVP P can o s fun s=>xOrd P lo hi call can ops r s k
   | some false=>s.put o.dst .su fun s=>xOrd P lo hi call can ops r s k
   | none=>none
section
variable {P:Program} {Post:SV→Prop} {B:Base} {lo hi:Nat} {call:zx3} {ops:Array Oper} {Q:Exit→Act→World→Prop}
theorem zj7 (X:Env) (fr:List SV) (d:Option Tmp):(za4 X fr).put d undef=za4 X (putD d .su fr):=zf4 X fr d .su
theorem zn9 (hC:zn8 P Post B call) (hcl:∀ f,lo≤f→f<hi→okCall P f=true):∀ (l:List Nat) {k:Sg→Rs} {X:Env} {s:Sg} {w:World} {L:Lf},zz0 P lo hi call ops l s k=some L→LOK Post L→Rep B X s w→
  (∀ s' X' w' L',k s'=some L'→LOK Post L'→Rep B X' s' w'→Q .normal (za4 X' s'.fr) w')→wpOps P ops Q l (za4 X s.fr) w
 | [],k,X,s,w,L,h,hL,hR,hQ=>hQ s X w L h hL hR
 | i::r,k,X,s,w,L,h,hL,hR,hQ=>by
  unfold zz0 at h
  split at h
  ·cases h
  ·rename_i o ho
   rw [ze9,Array.getElem?_toList] at ho
   split at h
   ·rename_i hw
    have hw':=zi5 hw hR.fr
    split at h
    ·rw [wpOps_cons]
     unfold wpOp
     simp only [ho,hw',if_true]
     exact .inl (zZ7 hC hcl h hL hR fun s' X' w' L' hR' _ hk hL'=>zn9 hC hcl r hk hL' hR' hQ)
    ·unfold xVP at h
     split at h
     ·rename_i v hv
      have hp:=zn7 (V:=w) hv hR.fr hR.bl (fun i t cs _ hi=>(hR.lc i t cs hi).1) hR.kx
      obtain ⟨v2,s2,L2,aa,ac,ad,hs,hd,ab⟩:=zp8 h hL hR hp.2
      rw [Sg.put_eq] at aa
      refine sq_val o.dst (v.den X) ho rfl hw' hp.1 ?_
      rw [← hd,zf4,← hs.fr]
      exact zn9 hC hcl r aa ac (ad.putD o.dst ab) hQ
     ·cases h
   ·rename_i hw
    rw [Sg.put_eq] at h
    refine zX8 o.dst ho rfl (zi5 hw hR.fr) ?_
    rw [zj7]
    exact zn9 hC hcl r h hL (hR.putD o.dst (v:=.su) trivial) hQ
   ·cases h

def Held (can:Nat→Bool) (s0:Sg) (X0 X:Env) (s:Sg):Prop:=∀ i,can i=true→i<s.bl.length∧s.bl[i]?=s0.bl[i]?∧X.E i=X0.E i
def SH (B:Base) (can:Nat→Bool) (s0:Sg) (X0:Env) (w:World):Prop:=(∀ x ∈ B.X.K,w.heap[x.1]?=some x.2)∧∀ (i:Nat) t cs,can i=true→s0.bl[i]?=some (t,cs)→Lc w (X0.E i) (dnL X0 cs) t
theorem SH.kx {can:Nat→Bool} {s0:Sg} {X0 X:Env} {s:Sg} {w V:World} (h:SH B can s0 X0 V) (hR:Rep B X s w):∀ x ∈ X.K,V.heap[x.1]?=some x.2:=fun x hx=>h.1 x (hR.ag.k ▸ hx)
theorem SH.gr {can:Nat→Bool} {s0:Sg} {X0:Env} {w w':World} (h:SH B can s0 X0 w) (g:Gr w w'):SH B can s0 X0 w':=⟨fun x hx=>g.heap (h.1 x hx),fun i t cs hi hx=>(h.2 i t cs hi hx).gr g⟩
theorem Held.load {can:Nat→Bool} {s0 s:Sg} {X0 X:Env} {w V:World} (hH:Held can s0 X0 X s) (hR:Rep B X s w) (hw:SH B can s0 X0 w) (hV:SH B can s0 X0 V):
  ∀ (i:Nat) t cs,can i=true→s.bl[i]?=some (t,cs)→Lc V (X.E i) (dnL X cs) t:=fun i t cs hi hx=>by
 obtain ⟨h1,h2,h3⟩:=hH i hi
 rw [h2] at hx
 have a:=hw.2 i t cs hi hx
 have b:=hV.2 i t cs hi hx
 have c:=(hR.lc i t cs (h2.trans hx)).1
 rw [h3] at c ⊢
 unfold Lc at a b c ⊢
 rw [a] at c
 simp only [Option.some.injEq,Obj.cells.injEq] at c
 rw [b,c.1]
theorem Held.step {can:Nat→Bool} {s0 s s':Sg} {X0 X X':Env} {w w':World} (hH:Held can s0 X0 X s) (hR:Rep B X s w) (hs:Step can X s w X' s' w') (hw:SH B can s0 X0 w) (hR':Rep B X' s' w'):Held can s0 X0 X' s'∧SH B can s0 X0 w':=by
 refine ⟨fun i hi=>?_,hR'.kb,fun i t cs hi hx=>?_⟩
 ·obtain ⟨h1,h2,h3⟩:=hH i hi
  exact ⟨Nat.lt_of_lt_of_le h1 hs.le,(hs.keep i h1 hi).trans h2,(hs.ag i h1).symm.trans h3⟩
 ·obtain ⟨h1,h2,h3⟩:=hH i hi
  refine hs.st _ _ _ (fun j hj hc e=>?_) (hw.2 i t cs hi hx)
  rw [← h3] at e
  have:=hR.inj i j h1 hj e
  subst this
  rw [hi] at hc;cases hc
theorem zp9 (hC:zn8 P Post B call) (hcl:∀ f,lo≤f→f<hi→okCall P f=true) {can:Nat→Bool} {s0:Sg} {X0:Env}:∀ (l:List (Bool × Nat)) {k:Sg→Rs} {X:Env} {s:Sg} {w:World} {L:Lf},
  xOrd P lo hi call can ops l s k=some L→LOK Post L→Rep B X s w→Held can s0 X0 X s→SH B can s0 X0 w→
  (∀ s' X' w' L',k s'=some L'→LOK Post L'→Rep B X' s' w'→Q .normal (za4 X' s'.fr) w')→ze0 P ops Q (SH B can s0 X0) l (za4 X s.fr) w
 | [],k,X,s,w,L,h,hL,hR,_,_,hQ=>hQ s X w L h hL hR
 | (b,i)::r,k,X,s,w,L,h,hL,hR,hH,hS,hQ=>by
  unfold xOrd at h
  split at h
  ·cases h
  ·rename_i o ho
   rw [ze9,Array.getElem?_toList] at ho
   split at h
   ·rename_i hw
    have hw':=zi5 hw hR.fr
    split at h
    ·refine oe ?_ ho hw'
     refine zZ7 hC hcl h hL hR fun s' X' w' L' hR' hst hk hL'=>?_
     obtain ⟨h1,h2⟩:=hH.step hR hst hS hR'
     exact ⟨h2,zp9 hC hcl r hk hL' hR' h1 h2 hQ⟩
    ·unfold xVP at h
     split at h
     ·rename_i v hv
      have hp:=fun V (hV:SH B can s0 X0 V)=>zn7 (V:=V) hv hR.fr hR.bl (hH.load hR hS hV) (hV.kx hR)
      obtain ⟨v2,s2,L2,aa,ac,ad,hs,hd,ab⟩:=zp8 h hL hR (hp w hS).2
      rw [Sg.put_eq] at aa
      refine zD8 o.dst (v.den X) ho rfl hw' (fun V hV=>(hp V hV).1) ?_
      rw [← hd,zf4,← hs.fr]
      exact zp9 hC hcl r aa ac (ad.putD o.dst ab) (fun i hi=>by have:=hH i hi;rw [← hs.bl] at this;exact this) hS hQ
     ·cases h
   ·rename_i hw
    rw [Sg.put_eq] at h
    have hw':=zi5 hw hR.fr
    cases b with
    | true=>
     refine zM3 o.dst ho rfl hw' ?_
     rw [zj7]
     exact zp9 hC hcl r h hL (hR.putD o.dst (v:=.su) trivial) hH hS hQ
    | false=>
     refine zu2 o.dst ho rfl hw' hS ?_
     rw [zj7]
     exact zp9 hC hcl r h hL (hR.putD o.dst (v:=.su) trivial) hH hS hQ
   ·cases h
end
inductive Ex where
 | n
 | x (id:Nat)
 | r
abbrev KT:=Ex→Sg→Rs
inductive Ent where
 | ord (l:List (Bool × Nat)) (bs:List Nat)
 | ort (l:List (Bool × Nat)) (bs:List Nat) (hs:List (List Nat × Nat))
 | flo (l:List (Bool × Nat)) (fl:List (Nat × Nat × Nat)) (tl:List (Bool × Nat)) (bs:List Nat)
 | lp (t:Sg→KT→Rs)
def zZ8 (P:Program) (t:Nat):Array Value:=match P.info? t with
 | some i=>match i.zero with
  | some z=>z.cells
  | none=>#[]
 | none=>#[]
def okZ (P:Program) (t:Nat):Bool:=match P.info? t with
 | some i=>i.zero.isSome
 | none=>false
theorem okZ_ok {P:Program} {t:Nat} (h:okZ P t=true) (w:World):(Instr.alloc t true (.tuple #[])).run P w=.ok (.pointer (some ⟨w.heap.size,0,none⟩)) (w.alloc (.cells (zZ8 P t) t)):=by
 unfold okZ at h
 cases hi:P.info? t with
 | none=>rw [hi] at h;cases h
 | some i=>
  rw [hi] at h
  obtain ⟨z,hz⟩:=Option.isSome_iff_exists.1 h
  exact zc5 (P:=P) (z:=z) (by rw [hi];simp [hz]) (by unfold zZ8;simp only [hi,hz]) w
def zZ9 (P:Program) (x:Nat × Nat × Nat):Fl:=⟨x.1,x.2.1,x.2.2,zZ8 P x.2.2⟩
def ya0 (P:Program) (ops:Array Oper):Ent→Bool
 | .ord l _=>Region.noSelect ops&&zA2 ops l (Array.replicate ops.size false)&&Nat.ble l.length ops.size
 | .ort l _ hs=>Region.noSelect ops&&zq9 ops (hs.map (·.1)) l (Array.replicate ops.size false)&&Nat.ble l.length ops.size
 | .flo l fl tl _=>Region.noSelect ops&&(fl.all fun x=>okZ P x.2.2)&&zw8 ops (fl.map (zZ9 P)) tl l (Array.replicate ops.size false)&&okAp ops (fl.map (zZ9 P)) l&&okAl ops (fl.map (zZ9 P))&&Nat.ble (l.length+(fl.map (zZ9 P)).length+tl.length) ops.size
 | .lp _=>false
def zB2:Nat→List (Nat × Ent)→Option Ent
 | _,[]=>none
 | i,(j,e)::r=>if Nat.beq i j then some e else zB2 i r
def lkey:Code→Nat
 | .region id _ _=>100000+id
 | .seq a _=>lkey a
 | .cond _ a _=>lkey a
 | .block _ a=>lkey a
 | .loop a=>lkey a
 | _=>0
def zf0 (P:Program) (es:List (Nat × Ent)):Code→Bool
 | .region id ops true=>match zB2 id es with
  | some e=>ya0 P ops e
  | none=>false
 | .seq a b=>zf0 P es a&&zf0 P es b
 | .cond _ a b=>zf0 P es a&&zf0 P es b
 | .block _ a=>zf0 P es a
 | .loop a=>match zB2 (lkey a) es with
  | some (.lp _)=>true
  | _=>zf0 P es a
 | _=>true
noncomputable def inB (bs:List Nat) (fr:List SV) (j:Nat):Bool:=bs.any fun t=>match nth fr t with
 | some (.so (.vc (.cp i _))) | some (.so (.vc (.cs i _ _ _)))=>Nat.beq i j
 | _=>false
noncomputable def canR (bs:List Nat) (fr:List SV) (n:Nat) (j:Nat):Bool:=Nat.blt j n&&!inB bs fr j
noncomputable def xFl (P:Program) (lo hi:Nat) (call:zx3) (can:Nat→Bool) (ops:Array Oper):List (Bool × Nat)→Sg→(Sg→Rs)→Rs
 | [],s,k=>k s
 | (b,i)::r,s,k=>match nth ops.toList i with
  | none=>none
  | some o=>match zR2 ops s.fr o with
   | some true=>match b with
    | false=>xCall lo hi call o s fun v s=>xVal v s fun v s=>s.put o.dst v fun s=>xFl P lo hi call can ops r s k
    | true=>xVP P can o s fun s=>xFl P lo hi call can ops r s k
   | _=>none
noncomputable def addFl (P:Program):List (Nat × Nat × Nat)→Sg→Option Sg
 | [],s=>some s
 | (_,d,t)::r,s=>match P.info? t with
  | some i=>match zm1 i.zero with
   | some cs=>if isU32 t then none else addFl P r {s with bl:=s.bl++[(t,cs)],fr:=s.fr.set d (.so (.vc (.cp s.bl.length 0)))}
   | none=>none
  | none=>none
noncomputable def ya1 (fr:List SV) (t:Nat):Nat:=match nth fr t with
 | some (.so (.vc (.cp i _))) | some (.so (.vc (.cs i _ _ _)))=>i
 | _=>1000000
noncomputable def xOrt (P:Program) (lo hi:Nat) (call:zx3) (can:Nat→Bool) (hs:List (List Nat × Nat)) (ops:Array Oper):List (Bool × Nat)→Array Bool→Sg→(Sg→Rs)→Rs
 | [],_,s,k=>k s
 | (b,i)::r,ls,s,k=>match nth ops.toList i with
  | none=>none
  | some o=>match zR2 ops s.fr o with
   | some true=>match b with
    | false=>xOp P lo hi call (fun j=>can j||hs.any fun e=>Nat.beq e.2 j&&!e.1.contains i) o s fun s=>xOrt P lo hi call can hs ops r (ls.setIfInBounds i true) s k
    | true=>xVP P (fun j=>can j||hs.any fun e=>Nat.beq e.2 j&&zr7 ls e.1&&zl8 ops i e.1) o s fun s=>xOrt P lo hi call can hs ops r (ls.setIfInBounds i true) s k
   | some false=>s.put o.dst .su fun s=>xOrt P lo hi call can hs ops r (ls.setIfInBounds i true) s k
   | none=>none
noncomputable def xDraw (P:Program) (lo hi:Nat) (call:zx3) (ops:Array Oper) (e:Ent) (s:Sg) (k:Sg→Rs):Rs:=
 match e with
 | .ord l bs=>xOrd P lo hi call (canR bs s.fr s.bl.length) ops l s k
 | .ort l bs hs=>if (hs.map fun e=>(e.1,ya1 s.fr e.2)).all fun e=>Nat.blt e.2 s.bl.length then xOrt P lo hi call (canR bs s.fr s.bl.length) (hs.map fun e=>(e.1,ya1 s.fr e.2)) ops l (Array.replicate ops.size false) s k else none
 | .flo l fl tl bs=>xFl P lo hi call (canR bs s.fr s.bl.length) ops l s fun s'=>if Nat.beq s'.bl.length s.bl.length then (match addFl P fl s' with
  | some s2=>xOrd P lo hi call (canR bs s.fr s.bl.length) ops tl s2 k
  | none=>none) else none
 | .lp _=>none
section
variable {P:Program} {Post:SV→Prop} {B:Base} {lo hi:Nat} {call:zx3} {ops:Array Oper} {Q:Exit→Act→World→Prop}
theorem ya2 (hC:zn8 P Post B call) (hcl:∀ f,lo≤f→f<hi→okCall P f=true) {can:Nat→Bool} {s0:Sg} {X0:Env} {fin:Act→World→Prop}:∀ (l:List (Bool × Nat)) {k:Sg→Rs} {X:Env} {s:Sg} {w:World} {L:Lf},
  xFl P lo hi call can ops l s k=some L→LOK Post L→Rep B X s w→Held can s0 X0 X s→SH B can s0 X0 w→
  (∀ s' X' w' L',k s'=some L'→LOK Post L'→Rep B X' s' w'→Held can s0 X0 X' s'→SH B can s0 X0 w'→Gr w w'→s'.bl.length=s.bl.length∧(∀ i,i<s.bl.length→X'.E i=X.E i)→fin (za4 X' s'.fr) w')→
   zj0 P ops Q (SH B can s0 X0) fin l (za4 X s.fr) w
 | [],k,X,s,w,L,h,hL,hR,hH,hS,hQ=>fun w1 g ab=>hQ s X w1 L h hL (hR.to g) hH ab g ⟨rfl,fun _ _=>rfl⟩
 | (b,i)::r,k,X,s,w,L,h,hL,hR,hH,hS,hQ=>by
  unfold xFl at h
  split at h
  ·cases h
  ·rename_i o ho
   rw [ze9,Array.getElem?_toList] at ho
   split at h
   ·rename_i hw
    have hw':=zi5 hw hR.fr
    split at h
    ·intro w1 g1 ab
     unfold wpOp
     simp only [ho,hw',if_true]
     refine .inl (zN8 hC hcl h hL (hR.to g1) fun v s' X' w' L' hR' hv e1 e2 e3 hg hag hk hL'=>?_)
     obtain ⟨v2,s2,L2,aa,ad,ae,hs,hd,ac⟩:=zp8 hk hL' hR' hv
     rw [Sg.put_eq] at aa
     have hbl:s2.bl=s.bl:=hs.bl.trans e2
     have hH':Held can s0 X0 X' {s2 with fr:=putD o.dst v2 s2.fr}:=fun i hi=>by
      obtain ⟨a1,a2,a3⟩:=hH i hi
      exact ⟨by simpa [hbl] using a1,by simpa [hbl] using a2,(hag.E i a1).symm.trans a3⟩
     refine ⟨hg,ab.gr hg,?_⟩
     rw [← hd,zf4,← hs.fr]
     refine ya2 hC hcl r aa ad (ae.putD o.dst ac) hH' (ab.gr hg) fun s3 X3 w3 L3 a b c d e f g=>?_
     refine hQ s3 X3 w3 L3 a b c d e (g1.trans (hg.trans f)) ⟨g.1.trans (by simp [hbl]),fun i hi=>(g.2 i (by simpa [hbl] using hi)).trans (hag.E i hi).symm⟩
    ·unfold xVP at h
     split at h
     ·rename_i v hv
      have hp:=fun V (hV:SH B can s0 X0 V)=>zn7 (V:=V) hv hR.fr hR.bl (hH.load hR hS hV) (hV.kx hR)
      obtain ⟨v2,s2,L2,aa,ad,ae,hs,hd,ac⟩:=zp8 h hL hR (hp w hS).2
      rw [Sg.put_eq] at aa
      refine zV5 o.dst (v.den X) ho rfl hw' (fun V hV=>(hp V hV).1) ?_
      rw [← hd,zf4,← hs.fr]
      refine ya2 hC hcl r aa ad (ae.putD o.dst ac) (fun i hi=>by have:=hH i hi;rw [← hs.bl] at this;exact this) hS fun s3 X3 w3 L3 a b c d e f g=>?_
      exact hQ s3 X3 w3 L3 a b c d e f ⟨g.1.trans (by simp [hs.bl]),fun i hi=>g.2 i (by simpa [hs.bl] using hi)⟩
     ·cases h
   ·cases h
theorem zeroA_of {t:Nat} {i:TypeInfo} {cs:List Cl} (hi:P.info? t=some i) (hz:zm1 i.zero=some cs) (n:Nn) (X:Env) (w:World):
  zZ8 P t=dnL X cs∧okL n X w cs∧∃ z,i.zero=some z∧z.cells=dnL X cs:=by
 cases hzz:i.zero with
 | none=>rw [hzz] at hz;cases hz
 | some z=>
  rw [hzz] at hz
  have hc:=zk4 (l:=z.cells.toList) hz n X w
  have:z.cells=dnL X cs:=by unfold dnL;rw [hc.1]
  exact ⟨by unfold zZ8;rw [hi];simp only [hzz];exact this,hc.2,z,rfl,this⟩
theorem zN9 {ps:Nat→Nat} {N:Nat}:∀ {fl:List (Nat × Nat × Nat)} {X:Env} {s s':Sg} {w:World},addFl P fl s=some s'→Rep B X s w→N≤s.bl.length→
  (∀ f ∈ fl.map (zZ9 P),w.heap[ps f.op]?=some (.cells f.zero f.ty)∧B.w.heap.size≤ps f.op∧(∀ i,i<s.bl.length→X.E i≠ps f.op)∧∀ x ∈ B.ks,ps f.op≠x.1)→((fl.map (zZ9 P)).map fun f=>ps f.op).Nodup→
  ∃ X',Rep B X' s' w∧(fl.map (zZ9 P)).foldl (zl0 ps) (za4 X s.fr)=za4 X' s'.fr∧s.bl.length≤s'.bl.length∧(∀ i,i<N→X'.E i=X.E i)∧(∀ (i:Nat),i<N→s'.bl[i]?=s.bl[i]?)
 | [],X,s,s',w,h,hR,_,_,_=>by cases h;exact ⟨X,hR,rfl,Nat.le_refl _,fun _ _=>rfl,fun _ _=>rfl⟩
 | (o,d,t)::r,X,s,s',w,h,hR,hN,hf,hn=>by
  unfold addFl at h
  split at h
  ·rename_i i hi
   split at h
   ·rename_i cs hz
    split at h
    ·cases h
    ·rename_i hu
     have ht:t≠136:=fun e=>hu (by subst e;rfl)
     obtain ⟨h1,h2,_⟩:=zeroA_of hi hz s.nn X w
     obtain ⟨f1,f2,f3,f4⟩:=hf (zZ9 P (o,d,t)) (by simp)
     have aa:Lc w (ps o) (dnL X cs) t:=by rw [← h1];exact f1
     obtain ⟨g1,g2⟩:=hR.add h2 ht (Gr.refl w) aa f2 f3 f4
     have hp:(SV.so (.vc (.cp s.bl.length 0))).ok (s.grow t cs).nn (X.push s.bl.length (ps o)) w:=⟨zn3 (by simp [Sg.nn,Sg.grow]),trivial⟩
     simp only [List.map_cons,List.nodup_cons] at hn
     have hlen:(s.grow t cs).bl.length=s.bl.length+1:=by simp [Sg.grow]
     obtain ⟨X',e1,e2,e3,e4,e5⟩:=zN9 (N:=N) h (g1.set (d:=d) hp) (by simp;omega) (fun f hf'=>by
      obtain ⟨a1,a2,a3,a4⟩:=hf f (by simp only [List.map_cons];exact List.mem_cons_of_mem _ hf')
      refine ⟨a1,a2,fun j hj=>?_,a4⟩
      simp only [List.length_append,List.length_cons,List.length_nil] at hj
      rcases Nat.lt_or_ge j s.bl.length with hj' | hj'
      ·rw [← g2.E j hj'];exact a3 j hj'
      ·obtain rfl:j=s.bl.length:=by omega
       simp only [Env.push,if_true]
       exact fun e=>hn.1 (by rw [show ps (zZ9 P (o,d,t)).op=ps o from rfl,e];exact List.mem_map.2 ⟨f,hf',rfl⟩)) hn.2
     refine ⟨X',e1,?_,?_,fun i hi=>(e4 i hi).trans (g2.E i (Nat.lt_of_lt_of_le hi hN)).symm,fun i hi=>(e5 i hi).trans ?_⟩
     ·rw [List.map_cons,List.foldl_cons,← e2]
      congr 1
      show (za4 X s.fr).put (some d) (.pointer (some ⟨ps o,0,none⟩))=_
      rw [zg3 g2 hR.fr,← zJ0]
      simp [SV.den,TV.den,Cl.den,Env.push]
     ·simp at e3;omega
     ·simp only
      rw [List.getElem?_append_left (Nat.lt_of_lt_of_le hi hN)]
   ·cases h
  ·cases h
def PH (s0:Sg) (X0:Env) (j:Nat) (w:World):Prop:=∀ t cs,s0.bl[j]?=some (t,cs)→Lc w (X0.E j) (dnL X0 cs) t
def ya3 (ls:Array Bool) (hs:List (List Nat × Nat)) (s0:Sg) (X0 X:Env) (s:Sg) (w:World):Prop:=∀ e ∈ hs,zr7 ls e.1=true→e.2<s.bl.length∧s.bl[e.2]?=s0.bl[e.2]?∧X.E e.2=X0.E e.2∧PH s0 X0 e.2 w
def HSof (hs:List (List Nat × Nat)) (s0:Sg) (X0:Env):List (List Nat × (World→Prop)):=hs.map fun e=>(e.1,PH s0 X0 e.2)
theorem zg5 {f:List Nat→Bool} {s0:Sg} {X0:Env} {w:World}:∀ {hs:List (List Nat × Nat)},zd2 f (HSof hs s0 X0) w↔∀ e ∈ hs,f e.1=true→PH s0 X0 e.2 w
 | []=>⟨fun _ _ h=>(by cases h),fun _=>trivial⟩
 | e::hs=>by
  have ih:=zg5 (f:=f) (s0:=s0) (X0:=X0) (w:=w) (hs:=hs)
  constructor
  ·intro h x hx hf
   rcases List.mem_cons.1 hx with rfl | hx
   ·exact h.1 hf
   ·exact ih.1 h.2 x hx hf
  ·exact fun h=>⟨h e (by simp),ih.2 fun x hx=>h x (by simp [hx])⟩
theorem zB3 {ls:Array Bool} {i:Nat} {TL:List Nat} (h:zr7 (ls.setIfInBounds i true) TL=true):i ∉ TL∧zr7 ls TL=true:=by
 have hn:i ∉ TL:=fun hi=>by
  have:=List.all_eq_true.1 h i hi
  simp only [Bool.not_eq_true'] at this
  rcases Nat.lt_or_ge i ls.size with h' | h'
  ·simp [h'] at this
  ·rw [show (ls.setIfInBounds i true).getD i true=true by simp [Array.getD]] at this;cases this
 exact ⟨hn,by rw [← zu3 hn];exact h⟩
theorem load2 {s0 s:Sg} {X0 X:Env} {w V:World} {j:Nat} (hR:Rep B X s w) (h:j<s.bl.length∧s.bl[j]?=s0.bl[j]?∧X.E j=X0.E j) (hw:PH s0 X0 j w) (hV:PH s0 X0 j V):∀ t cs,s.bl[j]?=some (t,cs)→Lc V (X.E j) (dnL X cs) t:=fun t cs hx=>by
 obtain ⟨h1,h2,h3⟩:=h
 rw [h2] at hx
 have a:=hw t cs hx
 have b:=hV t cs hx
 have c:=(hR.lc j t cs (h2.trans hx)).1
 rw [h3] at c ⊢
 unfold Lc at a b c ⊢
 rw [a] at c
 simp only [Option.some.injEq,Obj.cells.injEq] at c
 rw [b,c.1]
theorem zv5 (hC:zn8 P Post B call) (hcl:∀ f,lo≤f→f<hi→okCall P f=true) {can:Nat→Bool} {hs:List (List Nat × Nat)} {s0:Sg} {X0:Env}:∀ (l:List (Bool × Nat)) {ls:Array Bool} {k:Sg→Rs} {X:Env} {s:Sg} {w:World} {L:Lf},
  xOrt P lo hi call can hs ops l ls s k=some L→LOK Post L→Rep B X s w→Held can s0 X0 X s→SH B can s0 X0 w→ya3 ls hs s0 X0 X s w→
  (∀ s' X' w' L',k s'=some L'→LOK Post L'→Rep B X' s' w'→Q .normal (za4 X' s'.fr) w')→zf3 P ops Q (SH B can s0 X0) (HSof hs s0 X0) l ls (za4 X s.fr) w
 | [],_,k,X,s,w,L,h,hL,hR,_,_,_,hQ=>hQ s X w L h hL hR
 | (b,i)::r,ls,k,X,s,w,L,h,hL,hR,hH,hS,hT,hQ=>by
  unfold xOrt at h
  have unset:∀ {X:Env} {s:Sg},ya3 ls hs s0 X0 X s w→ya3 (ls.setIfInBounds i true) hs s0 X0 X s w:=fun h e he hf=>h e he (zB3 hf).2
  split at h
  ·cases h
  ·rename_i o ho
   rw [ze9,Array.getElem?_toList] at ho
   split at h
   ·rename_i hw
    have hw':=zi5 hw hR.fr
    split at h
    ·refine te ?_ ho hw'
     refine zZ7 hC hcl h hL hR fun s' X' w' L' hR' hst hk hL'=>?_
     have hc:∀ {j},can j=true→(can j||hs.any fun e=>Nat.beq e.2 j&&!e.1.contains i)=true:=fun h=>by rw [h];rfl
     have hst':Step can X s w X' s' w':=⟨hst.ag,fun b cs t hb=>hst.st b cs t fun j hj hr=>hb j hj (by
      simp only [Bool.or_eq_false_iff] at hr;exact hr.1),hst.le,fun j hj hr=>hst.keep j hj (hc hr)⟩
     obtain ⟨h1,h2⟩:=hH.step hR hst' hS hR'
     have h3:ya3 (ls.setIfInBounds i true) hs s0 X0 X' s' w':=fun e he hf=>by
      obtain ⟨f1,f2⟩:=zB3 hf
      obtain ⟨a1,a2,a3,a4⟩:=hT e he f2
      have hro:(can e.2||hs.any fun e'=>Nat.beq e'.2 e.2&&!e'.1.contains i)=true:=by
       rw [Bool.or_eq_true]
       refine .inr (List.any_eq_true.2 ⟨e,he,?_⟩)
       simp [f1]
      refine ⟨Nat.lt_of_lt_of_le a1 hst.le,(hst.keep e.2 a1 hro).trans a2,(hst.ag e.2 a1).symm.trans a3,fun t cs hx=>?_⟩
      refine hst.st _ _ _ (fun j hj hc' eq=>?_) (a4 t cs hx)
      rw [← a3] at eq
      have:=hR.inj e.2 j a1 hj eq
      subst this
      rw [hro] at hc';cases hc'
     exact ⟨h2,zg5.2 fun e he hf=>(h3 e he hf).2.2.2,zv5 hC hcl r hk hL' hR' h1 h2 h3 hQ⟩
    ·unfold xVP at h
     split at h
     ·rename_i v hv
      have hp:=fun V (hV:SH B can s0 X0 V∧zd2 (zl8 ops i) (HSof hs s0 X0) V)=>zn7 (V:=V) hv hR.fr hR.bl (fun j t cs hj hx=>by
       rw [Bool.or_eq_true] at hj
       rcases hj with hj | hj
       ·exact hH.load hR hS hV.1 j t cs hj hx
       ·obtain ⟨e,he,hh⟩:=List.any_eq_true.1 hj
        simp only [Bool.and_eq_true,Nat.beq_eq] at hh
        obtain ⟨⟨rfl,f1⟩,f2⟩:=hh
        obtain ⟨a1,a2,a3,a4⟩:=hT e he f1
        exact load2 hR ⟨a1,a2,a3⟩ a4 (zg5.1 hV.2 e he f2) t cs hx) (hV.1.kx hR)
      have hok:v.ok s.nn X w:=(zn7 (V:=w) hv hR.fr hR.bl (fun j t cs _ hx=>(hR.lc j t cs hx).1) hR.kx).2
      obtain ⟨v2,s2,L2,ab,ad,ae,aa,hd,ac⟩:=zp8 h hL hR hok
      rw [Sg.put_eq] at ab
      refine zM4 o.dst (v.den X) ho rfl hw' (fun V hV=>(hp V hV).1) ?_
      rw [← hd,zf4,← aa.fr]
      exact zv5 hC hcl r ab ad (ae.putD o.dst ac) (fun i hi=>by have:=hH i hi;rw [← aa.bl] at this;exact this) hS (unset fun e he hf=>by have:=hT e he hf;rw [← aa.bl] at this;exact this) hQ
     ·cases h
   ·rename_i hw
    rw [Sg.put_eq] at h
    have hw':=zi5 hw hR.fr
    cases b with
    | true=>
     refine zM5 o.dst ho rfl hw' ?_
     rw [zj7]
     exact zv5 hC hcl r h hL (hR.putD o.dst (v:=.su) trivial) hH hS (unset hT) hQ
    | false=>
     refine zH5 o.dst ho rfl hw' hS (zg5.2 fun e he hf=>(hT e he (zB3 hf).2).2.2.2) ?_
     rw [zj7]
     exact zv5 hC hcl r h hL (hR.putD o.dst (v:=.su) trivial) hH hS (unset hT) hQ
   ·cases h
theorem xDraw_ok (hC:zn8 P Post B call) (hcl:∀ f,lo≤f→f<hi→okCall P f=true) (hm:P.follows .mixedOrders=true) {e:Ent} {id:Nat} (he:ya0 P ops e=true) {k:Sg→Rs} {X:Env} {s:Sg} {w:World} {L:Lf}
  (hp:∀ c (a a':Act) w,Q (.panic c) a w→Q (.panic c) a' w) (h:xDraw P lo hi call ops e s k=some L) (hL:LOK Post L) (hR:Rep B X s w)
  (hQ:∀ s' X' w' L',k s'=some L'→LOK Post L'→Rep B X' s' w'→Q .normal (za4 X' s'.fr) w'):(Code.region id ops true).wp P Q (za4 X s.fr) w:=by
 have hR':=hR.to (Gr.drew w)
 have hH:∀ bs,Held (canR bs s.fr s.bl.length) s X X s:=fun bs i hi=>by
  unfold canR at hi
  simp only [Bool.and_eq_true] at hi
  exact ⟨zd6 hi.1,rfl,rfl⟩
 have hS:∀ bs,SH B (canR bs s.fr s.bl.length) s X w.drew:=fun bs=>⟨hR'.kb,fun i t cs _ hx=>(hR'.lc i t cs hx).1⟩
 unfold xDraw at h
 split at h
 ·rename_i l bs
  simp only [ya0,Bool.and_eq_true,Nat.ble_eq] at he
  exact za1 (SH B (canR bs s.fr s.bl.length) s X) l hm he.1.1 he.1.2 he.2 (fun c a d v w=>hp c _ _ w) (hS bs) (zp9 hC hcl l h hL hR' (hH bs) (hS bs) hQ)
 ·rename_i l bs hs
  simp only [ya0,Bool.and_eq_true,Nat.ble_eq] at he
  split at h
  ·rename_i hall
   rw [List.all_eq_true] at hall
   have hlc:∀ (i:Nat) t cs,s.bl[i]?=some (t,cs)→Lc w.drew (X.E i) (dnL X cs) t:=fun i t cs hx=>(hR'.lc i t cs hx).1
   have hT:ya3 (Array.replicate ops.size false) (hs.map fun e=>(e.1,ya1 s.fr e.2)) s X X s w.drew:=fun e he _=>⟨zd6 (hall e he),rfl,rfl,fun t cs hx=>hlc _ t cs hx⟩
   have hfst:(HSof (hs.map fun e=>(e.1,ya1 s.fr e.2)) s X).map (·.1)=hs.map (·.1):=by simp [HSof,List.map_map,Function.comp_def]
   refine zb7 (SH B (canR bs s.fr s.bl.length) s X) (HSof (hs.map fun e=>(e.1,ya1 s.fr e.2)) s X) l hm he.1.1 (by rw [hfst];exact he.1.2) he.2 (fun c a d v w=>hp c _ _ w) (hS bs) (zg5.2 fun e he _=>fun t cs hx=>hlc _ t cs hx) (zv5 hC hcl l h hL hR' (hH bs) (hS bs) hT hQ)
  ·cases h
 ·rename_i l fl tl bs
  simp only [ya0,Bool.and_eq_true,Nat.ble_eq] at he
  obtain ⟨⟨⟨⟨⟨c1,c0⟩,c2⟩,c3⟩,c4⟩,c5⟩:=he
  have hz:∀ f ∈ fl.map (zZ9 P),∀ w,(Instr.alloc f.ty true (.tuple #[])).run P w=.ok (.pointer (some ⟨w.heap.size,0,none⟩)) (w.alloc (.cells f.zero f.ty)):=fun f hf w=>by
   obtain ⟨x,hx,rfl⟩:=List.mem_map.1 hf
   exact okZ_ok (List.all_eq_true.1 c0 x hx) w
  refine zc2 (SH B (canR bs s.fr s.bl.length) s X) l (fl.map (zZ9 P)) tl hm c1 c2 c3 c4 c5 (fun c a d v w=>hp c _ _ w) (fun c a d v w=>hp c _ _ w) (fun w' o h'=>h'.gr (Gr.alloc w' o)) (hS bs) hz ?_
  refine ya2 hC hcl l h hL hR' (hH bs) (hS bs) fun s' X' w' L' hk hL' aa ab ac hg hl=>?_
  split at hk
  ·split at hk
   ·rename_i s2 ha
    intro ps hps hnd
    have hsz:∀ i,i<s'.bl.length→X'.E i<w.heap.size:=fun i hi=>by
     rw [hl.2 i (hl.1 ▸ hi)]
     exact hR.lt (hl.1 ▸ hi)
    obtain ⟨X3,e1,e2,e3,e4,e5⟩:=zN9 (ps:=ps) (N:=s'.bl.length) ha aa (Nat.le_refl _) (fun f hf=>⟨(hps f hf).1,Nat.le_trans hR.gr.size (hps f hf).2,fun i hi=>by have:=hsz i hi;have:=(hps f hf).2;omega,fun x hx=>by have:=zf7 (hR.ks x hx).1;have:=(hps f hf).2;omega⟩) hnd
    rw [e2]
    refine zp9 hC hcl tl hk hL' e1 (fun i hi=>?_) ac hQ
    obtain ⟨a1,a2,a3⟩:=ab i hi
    exact ⟨Nat.lt_of_lt_of_le a1 e3,(e5 i a1).trans a2,(e4 i a1).trans a3⟩
   ·cases hk
  ·cases hk
 ·cases h
end
def Ex.to:Ex→Exit
 | .n=>.normal
 | .x id=>.exit id
 | .r=>.ret
def xLoop (body:Sg→KT→Rs):Nat→Sg→KT→Rs
 | 0,_,_=>none
 | m+1,s,k=>body s fun e s=>match e with
  | .n=>xLoop body m s k
  | e=>k e s
noncomputable def zl1 (P:Program) (lo hi:Nat) (call:zx3) (es:List (Nat × Ent)):Code→Sg→KT→Rs
 | .skip,s,k=>k .n s
 | .region id ops true,s,k=>match zB2 id es with
  | some e=>xDraw P lo hi call ops e s (k .n)
  | none=>none
 | .region _ ops false,s,k=>zz0 P lo hi call ops (List.range ops.size) s (k .n)
 | .seq a b,s,k=>zl1 P lo hi call es a s fun e s=>match e with
  | .n=>zl1 P lo hi call es b s k
  | e=>k e s
 | .cond c a b,s,k=>match ev s.fr c with
  | some (.so (.vc (.cb _ (some true))))=>zl1 P lo hi call es a s k
  | some (.so (.vc (.cb _ (some false))))=>zl1 P lo hi call es b s k
  | some (.so (.vc (.cb t none)))=>zF4 t s fun v s=>match v with
   | true=>zl1 P lo hi call es a s k
   | false=>zl1 P lo hi call es b s k
  | _=>none
 | .block id a,s,k=>zl1 P lo hi call es a s fun e s=>match e with
  | .x j=>if Nat.beq j id then k .n s else k e s
  | e=>k e s
 | .loop a,s,k=>match zB2 (lkey a) es with
  | some (.lp t)=>t s k
  | _=>xLoop (fun s k=>zl1 P lo hi call es a s k) 100 s k
 | .exit id,s,k=>k (.x id) s
 | .ret,s,k=>k .r s
 | _,_,_=>none
section
variable {P:Program} {Post:SV→Prop} {B:Base} {lo hi:Nat} {call:zx3} {es:List (Nat × Ent)}
def KOK (Post:SV→Prop) (B:Base) (k:KT) (Q:Exit→Act→World→Prop):Prop:=∀ e s X w L,k e s=some L→LOK Post L→Rep B X s w→Q e.to (za4 X s.fr) w
def PQ (Q:Exit→Act→World→Prop):Prop:=∀ c (a a':Act) w,Q (.panic c) a w→Q (.panic c) a' w
theorem PQ.then {Q:Exit→Act→World→Prop} (h:PQ Q) (K:Act→World→Prop):PQ (Exit.then K Q):=h
theorem PQ.inBlock {Q:Exit→Act→World→Prop} (h:PQ Q) (id:Nat):PQ (Exit.inBlock id Q):=h
def LpOK (P:Program) (t:Sg→KT→Rs) (a:Code):Prop:=∀ (Post:SV→Prop) (B:Base) (Q:Exit→Act→World→Prop) (k:KT) (X:Env) (s:Sg) (w:World) (L:Lf),PQ Q→KOK Post B k Q→t s k=some L→LOK Post L→Rep B X s w→(Code.loop a).wp P Q (za4 X s.fr) w
def codeLP (P:Program) (es:List (Nat × Ent)):Code→Prop
 | .seq a b=>codeLP P es a∧codeLP P es b
 | .cond _ a b=>codeLP P es a∧codeLP P es b
 | .block _ a=>codeLP P es a
 | .loop a=>match zB2 (lkey a) es with
  | some (.lp t)=>LpOK P t a
  | _=>codeLP P es a
 | _=>True
def noLp (es:List (Nat × Ent)):Bool:=es.all fun x=>match x.2 with
 | .lp _=>false
 | _=>true
theorem zz1:∀ {es:List (Nat × Ent)} {i:Nat} {t:Sg→KT→Rs},noLp es=true→zB2 i es≠some (.lp t)
 | [],_,_,_=>fun h=>by cases h
 | (j,e)::r,i,t,hn=>by
  unfold noLp at hn
  rw [List.all_cons,Bool.and_eq_true] at hn
  unfold zB2
  split
  ·intro h;cases h;have:=hn.1;cases this
  ·exact zz1 (es:=r) hn.2
theorem zF6 {P:Program} {es:List (Nat × Ent)} (h:noLp es=true):∀ c,codeLP P es c:=by
 intro c
 induction c with
 | seq a b iha ihb=>exact ⟨iha,ihb⟩
 | cond c a b iha ihb=>exact ⟨iha,ihb⟩
 | block id a iha=>exact iha
 | loop a iha=>
  unfold codeLP
  split
  ·rename_i t ht;exact absurd ht (zz1 h)
  ·exact iha
 | _=>trivial
def zJ8 (n:Nat):Code→Option Code
 | .loop a=>if Nat.beq (lkey a) n then some a else zJ8 n a
 | .seq a b=>match zJ8 n a with
  | some c=>some c
  | none=>zJ8 n b
 | .cond _ a b=>match zJ8 n a with
  | some c=>some c
  | none=>zJ8 n b
 | .block _ a=>zJ8 n a
 | _=>none
theorem zO0 {c:Code} {body:Sg→KT→Rs} (hb:∀ (Q:Exit→Act→World→Prop) (k:KT) X s w L,PQ Q→KOK Post B k Q→body s k=some L→LOK Post L→Rep B X s w→c.wp P Q (za4 X s.fr) w):
  ∀ (m:Nat) {Q:Exit→Act→World→Prop} {k:KT} {X:Env} {s:Sg} {w:World} {L:Lf},PQ Q→KOK Post B k Q→xLoop body m s k=some L→LOK Post L→Rep B X s w→Code.rounds P c Q m (za4 X s.fr) w
 | 0,_,_,_,_,_,_,_,_,h,_,_=>by cases h
 | m+1,Q,k,X,s,w,L,hp,hk,h,hL,hR=>by
  rw [rounds_succ]
  refine hb _ _ X s w L (hp.then _) (fun e s' X' w' L' h' hL' hR'=>?_) h hL hR
  cases e with
  | n=>exact zO0 hb m hp hk h' hL' hR'
  | x id=>exact hk _ _ _ _ _ h' hL' hR'
  | r=>exact hk _ _ _ _ _ h' hL' hR'
theorem zO1 (hC:zn8 P Post B call) (hcl:∀ f,lo≤f→f<hi→okCall P f=true) (hm:P.follows .mixedOrders=true):∀ (c:Code) {Q:Exit→Act→World→Prop} {k:KT} {X:Env} {s:Sg} {w:World} {L:Lf},zf0 P es c=true→codeLP P es c→PQ Q→KOK Post B k Q→
  zl1 P lo hi call es c s k=some L→LOK Post L→Rep B X s w→c.wp P Q (za4 X s.fr) w:=by
 intro c
 induction c with
 | skip=>intro Q k X s w L _ _ _ hk h hL hR;exact wp_skip (hk .n s X w L h hL hR)
 | region id ops draw=>
  intro Q k X s w L hc _ hp hk h hL hR
  cases draw with
  | true=>
   simp only [zl1] at h
   simp only [zf0] at hc
   split at h
   ·rename_i e he
    rw [he] at hc
    exact xDraw_ok hC hcl hm hc (fun c a a' w=>hp c a a' w) h hL hR (fun s' X' w' L'=>hk .n s' X' w' L')
   ·cases h
  | false=>exact wp_region (zn9 hC hcl _ h hL hR (fun s' X' w' L'=>hk .n s' X' w' L'))
 | seq a b iha ihb=>
  intro Q k X s w L hc hlp hp hk h hL hR
  simp only [zf0,Bool.and_eq_true] at hc
  refine wp_seq (iha hc.1 hlp.1 (hp.then _) (fun e s' X' w' L' h' hL' hR'=>?_) h hL hR)
  cases e with
  | n=>exact ihb hc.2 hlp.2 hp hk h' hL' hR'
  | x id=>exact hk _ _ _ _ _ h' hL' hR'
  | r=>exact hk _ _ _ _ _ h' hL' hR'
 | cond c a b iha ihb=>
  intro Q k X s w L hc hlp hp hk h hL hR
  simp only [zf0,Bool.and_eq_true] at hc
  simp only [zl1] at h
  split at h
  ·rename_i t hv
   have he:=zb4 hv hR.fr
   have:(za4 X s.fr).eval c=.bool true:=by rw [he.1];exact congrArg Value.bool (he.2.2 true rfl)
   exact wp_cond_true this (iha hc.1 hlp.1 hp hk h hL hR)
  ·rename_i t hv
   have he:=zb4 hv hR.fr
   have:(za4 X s.fr).eval c=.bool false:=by rw [he.1];exact congrArg Value.bool (he.2.2 false rfl)
   exact wp_cond_false this (ihb hc.2 hlp.2 hp hk h hL hR)
  ·rename_i t hv
   have he:=zb4 hv hR.fr
   obtain ⟨v,d,L',ht,hk',hL'⟩:=zv4 h hL
   have hR':=hR.ds d
   cases v with
   | true=>exact wp_cond_true (by rw [he.1];exact congrArg Value.bool ht) (iha (s:={s with ds:=d}) hc.1 hlp.1 hp hk hk' hL' hR')
   | false=>exact wp_cond_false (by rw [he.1];exact congrArg Value.bool ht) (ihb (s:={s with ds:=d}) hc.2 hlp.2 hp hk hk' hL' hR')
  ·cases h
 | block id a iha=>
  intro Q k X s w L hc hlp hp hk h hL hR
  refine wp_block (iha hc hlp (hp.inBlock id) (fun e s' X' w' L' h' hL' hR'=>?_) h hL hR)
  cases e with
  | n=>exact hk _ _ _ _ _ h' hL' hR'
  | x j=>
   simp only at h'
   show (if j=id then Q .normal (za4 X' s'.fr) w' else Q (.exit j) (za4 X' s'.fr) w')
   split at h'
   ·rename_i e
    have e:j=id:=by simpa using e
    rw [if_pos e]
    exact hk _ _ _ _ _ h' hL' hR'
   ·rename_i e
    have e:¬ j=id:=by simpa using e
    rw [if_neg e]
    exact hk _ _ _ _ _ h' hL' hR'
  | r=>exact hk _ _ _ _ _ h' hL' hR'
 | loop a iha=>
  intro Q k X s w L hc hlp hp hk h hL hR
  simp only [zl1] at h
  unfold codeLP at hlp
  unfold zf0 at hc
  split at h
  ·rename_i t ht
   rw [ht] at hlp
   exact hlp Post B Q k X s w L hp hk h hL hR
  ·rename_i hne
   have e:codeLP P es a∧zf0 P es a=true:=by
    cases ho:zB2 (lkey a) es with
    | none=>rw [ho] at hlp hc;exact ⟨hlp,hc⟩
    | some e=>
     rw [ho] at hlp hc
     cases e with
     | lp t=>exact absurd ho (hne t)
     | _=>exact ⟨hlp,hc⟩
   exact wp_loop_rounds 100 (zO0 (fun Q k X s w L hp hk h hL hR=>iha e.2 e.1 hp hk h hL hR) 100 hp hk h hL hR)
 | exit id=>intro Q k X s w L _ _ _ hk h hL hR;exact wp_exit (hk (.x id) s X w L h hL hR)
 | ret=>intro Q k X s w L _ _ _ hk h hL hR;exact wp_ret (hk .r s X w L h hL hR)
 | _=>intro Q k X s w L _ _ _ _ h;cases h
end

noncomputable def xRes1 (P:Program) (s:Sg):ResultVar→Option SV
 | .tmp t=>nth s.fr t
 | .cell a t=>match nth s.fr a with
  | some (.so (.vc (.cp j 0)))=>match nth s.bl j with
   | some (_,cs)=>match zc9 P t with
    | some n=>if Nat.beq n cs.length then some (.so (.vg cs)) else none
    | none=>if zi3 P t then (match cs with | [c]=>some (.so (.vc c)) | _=>none) else none
   | none=>none
  | _=>none
noncomputable def ya4 (P:Program) (s:Sg):List ResultVar→Option (List TV)
 | []=>some []
 | r::l=>match xRes1 P s r,ya4 P s l with
  | some (.so v),some m=>some (v::m)
  | _,_=>none
noncomputable def xRes (P:Program) (s:Sg) (l:List ResultVar):Option SV:=match l with
 | [r]=>xRes1 P s r
 | _=>match ya4 P s l with
  | some m=>some (.st m)
  | none=>none
noncomputable def resF (tmps:Array Value):ResultVar→Sem Value
 | .tmp t=>pure (tmps.getD t undef)
 | .cell a t=>do loadVar t (← asAddr (tmps.getD a undef))
section
variable {P:Program} {B:Base} {X:Env} {s:Sg} {w:World}
theorem zF7 {t:TypeId} {b:Nat} {v:Value} {tt:TypeId} (hL:Lc w b #[v] tt) (hs:zi3 P t=true):(loadVar t ⟨b,0,none⟩).run P w=.ok v w:=by
 unfold zi3 at hs
 have hc:w.cell? ⟨b,0,none⟩=some v:=by rw [zb1 hL];rfl
 cases hd:P.underlying t with
 | none=>rw [hd] at hs;cases hs
 | some d=>
  rw [hd] at hs
  have hagg:(isAgg t).run P w=.ok false w:=by
   unfold isAgg
   rw [Sem.run_bind,run_underlying hd w]
   cases d<;>first | cases hs | rfl
  simp only [loadVar,Sem.run_bind,hagg,Result.andThen_ok]
  simp [load,Sem.run,hc]
theorem ya5 (hR:Rep B X s w) {r:ResultVar} {v:SV} (h:xRes1 P s r=some v):(resF (za4 X s.fr).tmps r).run P w=.ok (v.den X) w∧v.ok s.nn X w:=by
 unfold xRes1 at h
 split at h
 ·rename_i t
  have e:(za4 X s.fr).tmps.getD t undef=v.den X:=(zb4 (x:=.tmp t) h hR.fr).1
  exact ⟨by simp only [resF,e,Sem.run_pure],(zb4 (x:=.tmp t) h hR.fr).2⟩
 ·rename_i a t
  split at h
  ·rename_i j hj
   have e:(za4 X s.fr).tmps.getD a undef=.pointer (some ⟨X.E j,0,none⟩):=(zb4 (x:=.tmp a) hj hR.fr).1
   split at h
   ·rename_i tt cs hb
    rw [ze9] at hb
    have hL:=(hR.lc j tt cs hb).1
    split at h
    ·rename_i n hn
     split at h
     ·rename_i hl
      simp only [Nat.beq_eq] at hl
      cases h
      refine ⟨?_,hR.bl j tt cs hb⟩
      have:=zg2 (P:=P) (t:=t) hL (by rw [hn,hl];simp [dnL])
      simp only [resF,e,asAddr,Sem.run_bind,Sem.run_pure,Result.andThen_ok,this]
      rfl
     ·cases h
    ·split at h
     ·rename_i h1
      split at h
      ·rename_i c
       cases h
       refine ⟨?_,hR.bl j tt _ hb c (by simp)⟩
       have:=zF7 (P:=P) (t:=t) (v:=c.den X) (by simpa [dnL] using hL) h1
       simp only [resF,e,asAddr,Sem.run_bind,Sem.run_pure,Result.andThen_ok,this]
       rfl
      ·cases h
     ·cases h
   ·cases h
  ·cases h
theorem ya6 (hR:Rep B X s w):∀ {l:List ResultVar} {m:List TV},ya4 P s l=some m→(l.mapM (resF (za4 X s.fr).tmps)).run P w=.ok (m.map (TV.den X)) w∧∀ x ∈ m,x.ok s.nn X w
 | [],m,h=>by cases h;exact ⟨by simp,fun _ hx=>by cases hx⟩
 | r::l,m,h=>by
  unfold ya4 at h
  split at h
  ·rename_i v m' h1 h2
   cases h
   have a:=ya5 hR h1
   have b:=ya6 hR h2
   refine ⟨?_,fun x hx=>?_⟩
   ·have a1:(resF (za4 X s.fr).tmps r).run P w=.ok (v.den X) w:=a.1
    simp [List.mapM_cons,a1,b.1]
   ·rcases List.mem_cons.1 hx with rfl | hx
    ·exact a.2
    ·exact b.2 x hx
  ·cases h
theorem zR3 (fn:Func) (tmps:Array Value):results fn tmps=(do
  let vs ← fn.results.mapM (resF tmps)
  pure (if h:vs.size=1 then vs[0] else .tuple vs)):=by
 unfold results
 congr 1
theorem res_ok (hR:Rep B X s w) {fn:Func} {v:SV} (h:xRes P s fn.results.toList=some v):(results fn (za4 X s.fr).tmps).run P w=.ok (v.den X) w∧v.ok s.nn X w:=by
 rw [zR3]
 unfold xRes at h
 rw [Array.mapM_eq_mapM_toList]
 split at h
 ·rename_i r hr
  have a:=ya5 hR h
  rw [hr]
  exact ⟨by simp [List.mapM_cons,a.1],a.2⟩
 ·rename_i hne
  split at h
  ·rename_i m hm
   cases h
   have b:=ya6 hR hm
   have hl:m.length=fn.results.toList.length:=by
    clear hne b
    revert m
    induction fn.results.toList with
    | nil=>intro m hm;cases hm;rfl
    | cons r l ih=>
     intro m hm
     unfold ya4 at hm
     split at hm
     ·rename_i v m' h1 h2
      cases hm
      simp [ih _ h2]
     ·cases hm
   have h1:¬ m.length=1:=by
    rw [hl]
    intro e
    obtain ⟨r,hr⟩:=List.length_eq_one_iff.1 e
    exact hne r hr
   exact ⟨by simp [b.1,h1,SV.den],b.2⟩
  ·cases h
end
inductive Tr where
 | leaf (v:SV) (dr dz:Nat)
 | br (t:Bool) (a b:Tr)
 | as (t:Bool) (a:Tr)
def Tr.holds (n:Nn) (X:Env) (w:World) (e:Ending) (w':World):Tr→Prop
 | .leaf v dr dz=>∃ X',e=.returned (v.den X')∧Gr w w'∧Agr n X X'∧v.ok ⟨n.b,n.r+dr,n.z+dz⟩ X' w'
 | .br t a b=>(t=true→a.holds n X w e w')∧(t=false→b.holds n X w e w')
 | .as _ a=>a.holds n X w e w'
def Tr.pre:Tr→Prop
 | .as t a=>t=true∧a.pre
 | _=>True
abbrev ConT:=List SV→Nat→Nat→Option Tr
def ConOK (P:Program) (I:World→Prop) (f:Nat) (c:ConT):Prop:=∀ (args:List SV) (X:Env) (n:Nn) (w:World) (T:Tr),I w→okF n X w args→c args n.r n.z=some T→T.pre→
 Calls P f (args.map (SV.den X)).toArray w fun e w'=>T.holds n X w e w'
def xTr:Tr→Sg→(SV→Sg→Rs)→Rs
 | .leaf v dr dz,s,k=>match s with
  | ⟨fr,bl,nu,nr,nz,ds⟩=>k v ⟨fr,bl,nu,nr+dr,nz+dz,ds⟩
 | .br t a b,s,k=>zF4 t s fun u s=>match u with
  | true=>xTr a s k
  | false=>xTr b s k
 | .as t a,s,k=>asL t true (xTr a s k)
def ya7 {α:Type}:Nat→List (Nat × α)→Option α
 | _,[]=>none
 | i,(j,e)::r=>if Nat.beq i j then some e else ya7 i r
structure Sys where
 P:Program
 lo:Nat
 hi:Nat
 tab:List (Nat × List (Nat × Ent))
 con:List (Nat × ConT)
 I:World→Prop
def TV.lt (n:Nn):TV→Bool
 | .vc c=>c.lt n
 | .vg l=>l.all fun c=>c.lt n
def SV.lt (n:Nn):SV→Bool
 | .so x=>x.lt n
 | .st l=>l.all fun x=>x.lt n
 | .su=>true
 | .sj j _=>Nat.blt j n.z
 | .fs _ _ _ xs=>xs.all fun l=>l.all fun c=>c.lt n
 | .fa _ _ l=>l.all fun c=>c.lt n
def zv6:Nat→List SV
 | 0=>[]
 | n+1=>.su::zv6 n
noncomputable def xFun (Y:Sys):Nat→zx3
 | 0,_,_,_,_=>none
 | m+1,f,args,s,k=>match ya7 f Y.con with
  | some c=>match c args s.nr s.nz with
   | some T=>xTr T s k
   | none=>none
  | none=>match ya7 f Y.tab,Y.P.funcs[f]? with
   | some es,some fn=>match fn.body with
    | some c=>match s with
     | ⟨fr,bl,nu,nr,nz,ds⟩=>appF args (zv6 (fn.ntmps - args.length)) fun fr'=>zl1 Y.P Y.lo Y.hi (xFun Y m) es c ⟨fr',bl,bl.length,nr,nz,ds⟩ fun e s'=>match e with
      | .x _=>none
      | _=>match xRes Y.P s' fn.results.toList with
       | some v=>if v.lt ⟨bl.length,s'.nr,s'.nz⟩ then k v ⟨fr,bl,nu,s'.nr,s'.nz,s'.ds⟩ else none
       | none=>none
    | none=>none
   | _,_=>none
def okTab (P:Program) (x:Nat × List (Nat × Ent)):Bool:=match P.funcs[x.1]? with
 | some fn=>match fn.body with
  | some c=>zf0 P x.2 c
  | none=>true
 | none=>true
structure Sys.OK (Y:Sys):Prop where
 mixed:Y.P.follows .mixedOrders=true
 calls:∀ f,Y.lo≤f→f<Y.hi→okCall Y.P f=true
 tab:∀ x ∈ Y.tab,okTab Y.P x=true
 lps:∀ x ∈ Y.tab,∀ (fn:Func) (c:Code),Y.P.funcs[x.1]?=some fn→fn.body=some c→codeLP Y.P x.2 c
 con:∀ x ∈ Y.con,ConOK Y.P Y.I x.1 x.2
 inv:∀ w w',Y.I w→Gr w w'→Y.I w'
theorem ya8 {P:Program} {tab:List (Nat × List (Nat × Ent))} (h:tab.all (fun x=>noLp x.2)=true):∀ x ∈ tab,∀ (fn:Func) (c:Code),P.funcs[x.1]?=some fn→fn.body=some c→codeLP P x.2 c:=
 fun x hx _ c _ _=>zF6 (List.all_eq_true.1 h x hx) c
theorem zo0 {α:Type} {f:Nat} {e:α}:∀ {l:List (Nat × α)},ya7 f l=some e→(f,e) ∈ l
 | [],h=>by cases h
 | (j,x)::r,h=>by
  unfold ya7 at h
  split at h
  ·rename_i hj
   simp only [Nat.beq_eq] at hj
   cases h;subst hj;simp
  ·exact List.mem_cons_of_mem _ (zo0 h)
section
variable {Post:SV→Prop} {B:Base} {X:Env} {s:Sg} {w:World}
theorem TV.ok_of {n m:Nn} {x:TV} (h:x.ok m X w) (hl:x.lt n=true):x.ok n X w:=by
 cases x with
 | vc c=>exact ⟨hl,h.2⟩
 | vg l=>exact fun c hc=>⟨List.all_eq_true.1 hl c hc,(h c hc).2⟩
theorem AtK.of {n m:Nn} {v:Value} {j:Nat} {cs:List Cl} (h:AtK m X w v j cs) (hl:(cs.all fun c=>c.lt n)=true):AtK n X w v j cs:=⟨fun c hc=>⟨List.all_eq_true.1 hl c hc,(h.1 c hc).2⟩,h.2⟩
theorem SV.ok_of {n m:Nn} {v:SV} (h:v.ok m X w) (hl:v.lt n=true):v.ok n X w:=by
 cases v with
 | so x=>exact TV.ok_of h hl
 | st l=>exact fun x hx=>TV.ok_of (h x hx) (List.all_eq_true.1 hl x hx)
 | su=>trivial
 | sj j i=>exact hl
 | fs v len c xs=>exact ⟨h.1,fun i cs hi=>(h.2 i cs hi).of (List.all_eq_true.1 hl cs (List.mem_of_getElem? hi))⟩
 | fa v j cs=>exact AtK.of h hl
theorem Rep.after {X':Env} {w':World} {nr nz:Nat} {d:Dt} (hR:Rep B X s w) (g:Gr w w') (ha:Agr s.nn X X') (hr:s.nr≤nr) (hz:s.nz≤nz):
  Rep B X' {s with nr:=nr,nz:=nz,ds:=d} w':=by
 have hn:s.nn.le ({s with nr:=nr,nz:=nz,ds:=d}:Sg).nn:=⟨Nat.le_refl _,hr,hz⟩
 refine ⟨hR.gr.trans g,hR.ag.trans (ha.mono hR.le),hR.le.trans hn,zN4 hn ha g.kp hR.fr,fun i t cs hi=>zr4 hn ha g.kp (hR.bl i t cs hi),fun i t cs hi=>?_,fun i h1 h2=>?_,fun i j h1 h2 e=>?_,fun x hx=>⟨g.heap (hR.ks x hx).1,fun i hi=>?_⟩,hR.kk⟩
 ·have hl:i<s.bl.length:=(List.getElem?_eq_some_iff.1 hi).1
  have:=hR.lc i t cs hi
  rw [← ha.E i hl,← zn4 ha fun c hc=>(hR.bl i t cs hi c hc).1]
  exact ⟨this.1.gr g,this.2⟩
 ·rw [← ha.E i h2];exact hR.own i h1 h2
 ·rw [← ha.E i h1,← ha.E j h2] at e;exact hR.inj i j h1 h2 e
 ·rw [← ha.E i hi];exact (hR.ks x hx).2 i hi
def ya9 (nz:Nat):List Nat→Nat→List SV→List SV
 | [],_,fr=>fr
 | j::js,i,fr=>ya9 nz js (i+1) (fr.set j (.sj nz i))
theorem yb0 {X:Env} {fr0:List SV} {nz:Nat} {n:Nn} (hz:nz<n.z) (js:List Nat) (hX:∀ i j,js[i]?=some j→X.Z nz (10+i)=(za4 X fr0).tmps.getD j undef):∀ (l1 l2:List Nat) (fr:List SV),l1++l2=js→okF n X w fr→za4 X fr=za4 X fr0→
  okF n X w (ya9 nz l2 l1.length fr)∧za4 X (ya9 nz l2 l1.length fr)=za4 X fr0
 | _,[],fr,_,h1,h2=>⟨h1,h2⟩
 | l1,j::l2,fr,hj,h1,h2=>by
  have ok:(SV.sj nz l1.length).ok n X w:=zn3 hz
  have hv:=hX l1.length j (by rw [← hj];simp)
  have e:za4 X (fr.set j (.sj nz l1.length))=za4 X fr:=by
   have hv':(SV.sj nz l1.length).den X=(za4 X fr).tmps.getD j undef:=by rw [h2];exact hv
   rw [← zJ0,hv']
   unfold Act.put
   have:∀ (t:Array Value) (j:Nat),t.setIfInBounds j (t.getD j undef)=t:=fun t j=>by
    apply Array.ext
    ·simp
    ·intro i h3 h4
     rw [Array.getElem_setIfInBounds]
     split
     ·rename_i e;subst e;simp [h4]
     ·rfl
   simp only [this]
  have:=yb0 hz js hX (l1++[j]) l2 (fr.set j (.sj nz l1.length)) (by simp [← hj]) (zY6 h1 ok) (e.trans h2)
  rwa [List.length_append,List.length_singleton] at this
theorem Rep.junk (hR:Rep B X s w) (js:List Nat):∃ X',Rep B X' {s with fr:=ya9 s.nz js 0 s.fr,nz:=s.nz+1} w∧za4 X' (ya9 s.nz js 0 s.fr)=za4 X s.fr:=by
 let X':Env:={X with Z:=fun i c=>if i=s.nz then (za4 X s.fr).tmps.getD (js.getD (c - 10) 0) undef else X.Z i c}
 have ag:Agr s.nn X X':=⟨fun _ _=>rfl,fun _ _ _=>rfl,fun i c hi=>(if_neg (Nat.ne_of_lt hi)).symm,rfl⟩
 have h1:Rep B X' {s with nr:=s.nr,nz:=s.nz+1,ds:=s.ds} w:=hR.after (Gr.refl w) ag (Nat.le_refl _) (Nat.le_succ _)
 have e0:za4 X s.fr=za4 X' s.fr:=zg3 ag hR.fr
 have hg:=yb0 (w:=w) (X:=X') (fr0:=s.fr) (nz:=s.nz) (n:=⟨s.bl.length,s.nr,s.nz+1⟩) (Nat.lt_succ_self _) js (fun i j hi=>by
  rw [← e0]
  show (if s.nz=s.nz then _ else _)=_
  rw [if_pos rfl,Nat.add_sub_cancel_left]
  simp [hi]) [] js s.fr rfl h1.fr rfl
 exact ⟨X',⟨h1.gr,h1.ag,h1.le,hg.1,h1.bl,h1.lc,h1.own,h1.inj,h1.ks,h1.kk⟩,hg.2.trans e0.symm⟩
theorem yb1 {P:Program} {es:List (Nat × Ent)} {a:Code} {s1:Sg} {e1:Ex} {Q:Exit→Act→World→Prop} (hm:P.follows .mixedOrders=true) (hc:zf0 P es a=true) (hn:noLp es=true) (hp:PQ Q)
  (hrun:∀ k:KT,zl1 P 0 0 (fun _ _ _ _=>none) es a s k=k e1 s1) (hR:Rep B X s w) (hQ:∀ X' w',Rep B X' s1 w'→Q e1.to (za4 X' s1.fr) w'):a.wp P Q (za4 X s.fr) w:=by
 classical
 let k:KT:=fun e t=>if e=e1∧t=s1 then some (.ret .su) else none
 refine zO1 (Post:=fun _=>True) (B:=B) (lo:=0) (hi:=0) (call:=fun _ _ _ _=>none) (k:=k) (L:=.ret .su) (fun _ _ _ _ _ _ _ h=>(by cases h)) (fun f _ h=>absurd h (Nat.not_lt_zero f)) hm a hc (zF6 hn a) hp (fun e t X' w' L hk _ hR'=>?_) ((hrun k).trans (if_pos ⟨rfl,rfl⟩)) trivial hR
 have:e=e1∧t=s1:=Classical.byContradiction fun hne=>by
  have:(none:Rs)=some L:=(if_neg hne).symm.trans hk
  cases this
 obtain ⟨rfl,rfl⟩:=this
 exact hQ X' w' hR'
theorem zO2 {L:Lf} {k:SV→Sg→Rs}:∀ (T:Tr) {s:Sg},xTr T s k=some L→LOK Post L→Rep B X s w→∀ {e:Ending} {w':World},T.holds s.nn X w e w'→
  ∃ v s' X' L',e=.returned (v.den X')∧Gr w w'∧Agr s.nn X X'∧Rep B X' s' w'∧v.ok s'.nn X' w'∧s'.fr=s.fr∧s'.bl=s.bl∧s'.nu=s.nu∧k v s'=some L'∧LOK Post L'
 | .leaf v dr dz,s,h,hL,hR,e,w',hT=>by
  obtain ⟨X',h1,h2,h3,h4⟩:=hT
  exact ⟨v,_,X',L,h1,h2,h3,hR.after (d:=s.ds) h2 h3 (Nat.le_add_right _ _) (Nat.le_add_right _ _),h4,rfl,rfl,rfl,h,hL⟩
 | .br t a b,s,h,hL,hR,e,w',hT=>by
  obtain ⟨v,d,L',ht,hk,hL'⟩:=zv4 h hL
  cases v with
  | true=>
   obtain ⟨v,s',X',L2,r⟩:=zO2 a (s:={s with ds:=d}) hk hL' (hR.ds d) (hT.1 ht)
   exact ⟨v,s',X',L2,r⟩
  | false=>
   obtain ⟨v,s',X',L2,r⟩:=zO2 b (s:={s with ds:=d}) hk hL' (hR.ds d) (hT.2 ht)
   exact ⟨v,s',X',L2,r⟩
 | .as t a,s,h,hL,hR,e,w',hT=>by
  obtain ⟨x,h1,rfl⟩:=zk6 h
  exact zO2 a h1 hL.2 hR hT
theorem yb2 {L:Lf} {k:SV→Sg→Rs}:∀ (T:Tr) {s:Sg},xTr T s k=some L→LOK Post L→T.pre
 | .leaf ..,_,_,_=>trivial
 | .br ..,_,_,_=>trivial
 | .as t a,s,h,hL=>by
  obtain ⟨x,h1,rfl⟩:=zk6 h
  exact ⟨hL.1,yb2 a h1 hL.2⟩
theorem zF8 (n:Nn):∀ m,okF n X w (zv6 m)
 | 0,_,h=>by cases h
 | m+1,v,h=>by
  rcases List.mem_cons.1 h with rfl | h
  ·trivial
  ·exact zF8 n m v h
theorem zz2:∀ m,(zv6 m).map (SV.den X)=List.replicate m undef
 | 0=>rfl
 | m+1=>by rw [zv6,List.map_cons,zz2 m,List.replicate_succ];rfl
theorem yb3 (Y:Sys) (hY:Y.OK):∀ m B,Y.I B.w→zn8 Y.P Post B (xFun Y m)
  | 0,B,_=>fun X s w f args k L h=>by cases h
  | m+1,B,hB=>fun X s w f args k L h hL hR ha=>by
    unfold xFun at h
    split at h
    · rename_i c hc
      split at h
      · rename_i T hT
        exact (hY.con _ (zo0 hc) args X s.nn w T (hY.inv _ _ hB hR.gr) ha hT (yb2 T h hL)).mono fun e w' he=>zO2 T h hL hR he
      · cases h
    · split at h
      · rename_i es fn h1 h2
        split at h
        · rename_i c hb
          have hcode:zf0 Y.P es c=true:=by
            have:=hY.tab _ (zo0 h1)
            unfold okTab at this
            simp only [h2,hb] at this
            exact this
          obtain ⟨fr,bl,nu,nr,nz,ds⟩:=s
          simp only [zI9] at h
          have hlen:(args.map (SV.den X)).toArray.size=args.length:=by simp
          refine calls_of_wp h2 hb ?_
          have hact:({tmps:=(args.map (SV.den X)).toArray++Array.replicate (fn.ntmps - (args.map (SV.den X)).toArray.size) undef,defers:=[]}:Act)=za4 (X.wd []) (args++zv6 (fn.ntmps - args.length)):=by
            unfold za4
            rw [hlen,List.map_append,zz2,List.map_congr_left fun x _=>SV.den_D X [] x]
            simp [Env.wd]
          rw [hact]
          have aa:Rep ⟨w,X.wd [],⟨bl.length,nr,nz⟩,[]⟩ (X.wd []) ⟨args++zv6 (fn.ntmps - args.length),bl,bl.length,nr,nz,ds⟩ w:=
            ⟨Gr.refl w,.refl _ _,.refl _,fun v hv=>by
              rcases List.mem_append.1 hv with hv | hv
              · exact SV.ok_D (ha v hv) []
              · exact zF8 _ _ v hv,fun i t cs hi=>okL_D (hR.bl i t cs hi) [],fun i t cs hi=>by rw [dnL_D];exact hR.lc i t cs hi,fun i h1 h2=>absurd h2 (Nat.not_lt.2 h1),hR.inj,fun x hx=>(by cases hx),hR.kx⟩
          refine zO1 (Q:=bodyPost Y.P fn _) (yb3 Y hY m ⟨w,X.wd [],⟨bl.length,nr,nz⟩,[]⟩ (hY.inv _ _ hB hR.gr)) hY.calls hY.mixed c (X:=X.wd []) hcode (hY.lps _ (zo0 h1) _ _ h2 hb) (fun c a a' w hq=>⟨?_,?_⟩) (fun e s' X' w' L' h' hL' hR'=>?_) h hL aa
          · obtain ⟨_,v,s',X',L',hq,_⟩:=hq;cases hq
          · obtain ⟨_,v,s',X',L',hq,_⟩:=hq;cases hq
          · have fin:∀ {v:SV},xRes Y.P s' fn.results.toList=some v→v.lt ⟨bl.length,s'.nr,s'.nz⟩=true→k v ⟨fr,bl,nu,s'.nr,s'.nz,s'.ds⟩=some L'→
                (za4 X' s'.fr).defers=[]∧∃ u,(results fn (za4 X' s'.fr).tmps).run Y.P w'=.ok u w'∧(∃ v s' X' L',(.returned u:Ending)=.returned (v.den X')∧Gr w w'∧Agr ⟨bl.length,nr,nz⟩ X X'∧Rep B X' s' w'∧v.ok s'.nn X' w'∧s'.fr=fr∧s'.bl=bl∧s'.nu=nu∧k v s'=some L'∧LOK Post L'):=fun {v} hv hl hk=>by
              have hr:=res_ok hR' hv
              have hD:X'.D=[]:=hR'.ag.d.symm
              have hag:Agr ⟨bl.length,nr,nz⟩ X (X'.wd X.D):=⟨hR'.ag.E,hR'.ag.R,hR'.ag.Z,Prod.ext rfl hR'.ag.k⟩
              refine ⟨hD,v.den X',hr.1,v,⟨fr,bl,nu,s'.nr,s'.nz,s'.ds⟩,X'.wd X.D,L',by rw [SV.den_D],hR'.gr,hag,?_,SV.ok_D (SV.ok_of hr.2 hl) X.D,rfl,rfl,rfl,hk,hL'⟩
              exact hR.after hR'.gr hag hR'.le.r hR'.le.z
            cases e with
            | x id=>cases h'
            | n=>
              simp only at h'
              split at h'
              · rename_i v hv
                split at h'
                · rename_i hl;exact fin hv hl h'
                · cases h'
              · cases h'
            | r=>
              simp only at h'
              split at h'
              · rename_i v hv
                split at h'
                · rename_i hl;exact fin hv hl h'
                · cases h'
              · cases h'
        · cases h
      · cases h
noncomputable def runF (Y:Sys) (f:Nat) (args:List SV) (nr nz:Nat) (ds:Dt):Rs:=xFun Y 30 f args ⟨[],[],0,nr,nz,ds⟩ fun v _=>some (.ret v)
theorem zR4 (Y:Sys) (hY:Y.OK) {f:Nat} {args:List SV} {nr nz:Nat} {ds:Dt} {L:Lf} (h:runF Y f args nr nz ds=some L) {X:Env} {w:World} (hI:Y.I w) (hk:∀ x ∈ X.K,w.heap[x.1]?=some x.2) (ha:okF ⟨0,nr,nz⟩ X w args) (hL:LOK Post L):
  Calls Y.P f (args.map (SV.den X)).toArray w fun e w'=>∃ v X' n,e=.returned (v.den X')∧Gr w w'∧Agr ⟨0,nr,nz⟩ X X'∧v.ok n X' w'∧Post v:=by
 have hR:Rep ⟨w,X,⟨0,nr,nz⟩,[]⟩ X ⟨[],[],0,nr,nz,ds⟩ w:=
  ⟨Gr.refl w,.refl _ _,.refl _,fun _ h=>(by cases h),fun i t cs h=>(by cases h),fun i t cs h=>(by cases h),fun i _ h=>(by cases h),fun i j h=>(by cases h),fun _ h=>(by cases h),hk⟩
 refine (yb3 Y hY 30 ⟨w,X,⟨0,nr,nz⟩,[]⟩ hI X _ w f args _ L h hL hR ha).mono fun e w' he=>?_
 obtain ⟨v,s',X',L',h1,h2,h3,h4,h5,_,_,_,hk,hL'⟩:=he
 cases hk
 exact ⟨v,X',_,h1,h2,h3,h5,hL'⟩
def SV.pl:SV→Bool
 | .fs .. | .fa ..=>false
 | _=>true
def Env.wk (X:Env) (ks:List (Nat × Obj)):Env:={X with K:=ks}
theorem Cl.ok_K {n:Nn} {X:Env} {W:World} {c:Cl} (h:c.ok n X W) (ks:List (Nat × Obj)):c.ok n (X.wk ks) W:=by
 refine ⟨h.1,?_⟩
 have:=h.2
 cases c<;>exact this
theorem SV.den_K (X:Env) (ks:List (Nat × Obj)) (v:SV):v.den (X.wk ks)=v.den X:=by
 have hc:∀ c:Cl,c.den (X.wk ks)=c.den X:=fun c=>by cases c<;>rfl
 have hl:∀ l:List Cl,dnL (X.wk ks) l=dnL X l:=fun l=>by
  unfold dnL
  rw [List.map_congr_left fun c _=>hc c]
 have ht:∀ x:TV,x.den (X.wk ks)=x.den X:=fun x=>by
  cases x with
  | vc c=>exact hc c
  | vg l=>exact congrArg Value.agg (hl l)
 cases v with
 | so x=>exact ht x
 | st l=>simp only [SV.den];rw [List.map_congr_left fun x _=>ht x]
 | _=>rfl
theorem SV.ok_K {n:Nn} {X:Env} {W:World} {v:SV} (h:v.ok n X W) (ks:List (Nat × Obj)) (hp:v.pl=true∨X.K=[]):v.ok n (X.wk ks) W:=by
 have ht:∀ {x:TV},x.ok n X W→x.ok n (X.wk ks) W:=fun {x} h=>by
  cases x with
  | vc c=>exact Cl.ok_K h ks
  | vg l=>exact fun c hc=>Cl.ok_K (h c hc) ks
 cases v with
 | so x=>exact ht h
 | st l=>exact fun x hx=>ht (h x hx)
 | su=>trivial
 | sj j i=>exact h
 | fs v len c xs=>
  rcases hp with hp | hp
  ·cases hp
  ·refine ⟨h.1,fun i cs hi=>?_⟩
   obtain ⟨_,b,o,l,cap,us,t,fr,_,h2,_⟩:=h.2 i cs hi
   rw [hp] at h2;cases h2
 | fa v j cs=>
  rcases hp with hp | hp
  ·cases hp
  ·obtain ⟨_,b,o,l,cap,us,t,fr,_,h2,_⟩:=h
   rw [hp] at h2;cases h2
theorem zo1 (Y:Sys) (hY:Y.OK) {f:Nat} {args:List SV} {nr nz:Nat} {ds:Dt} {L:Lf} (h:runF Y f args nr nz ds=some L) {X:Env} {w:World} (hI:Y.I w) (ha:okF ⟨0,nr,nz⟩ X w args) (hL:LOK Post L) (hp:args.all SV.pl=true:=by rfl):
  Calls Y.P f (args.map (SV.den X)).toArray w fun e w'=>∃ v X' n,e=.returned (v.den X')∧Gr w w'∧Agr ⟨0,nr,nz⟩ X X'∧v.ok n X' w'∧Post v:=by
 have:=zR4 Y hY h (X:=X.wk []) hI (fun _ hx=>(by cases hx)) (fun c hc=>SV.ok_K (ha c hc) [] (.inl (List.all_eq_true.1 hp c hc))) hL
 rw [List.map_congr_left fun v _=>SV.den_K X [] v] at this
 refine this.mono fun e w' he=>?_
 obtain ⟨v,X',n,h1,h2,h3,h4,h5⟩:=he
 have hk:X'.K=[]:=h3.k.symm
 refine ⟨v,X'.wk X.K,n,by rw [SV.den_K];exact h1,h2,⟨h3.E,h3.R,h3.Z,?_⟩,SV.ok_K h4 X.K (.inr hk),h5⟩
 exact Prod.ext h3.d rfl
end
set_option maxRecDepth 100000 in
set_option maxHeartbeats 1000000 in
theorem read_w {k:Nat} (q:Rat) (hq:Sz k q.num∧Sz k (q.den:Int)) (_hk:k≤20000) (az:64≤k) (most:Int) (_hlong:((za3 q).length:Int)≤most) (w:World) (hm:Mx w) (hw:q.den=1):
    Calls Tryz.prog 47 #[(.string ⟨(za3 (q):List UInt8).toArray⟩),(.int .i64 (most))] w fun e w'=>(∃ c0 c1 c2 c3,e=.returned (.tuple #[.agg #[c0,c1,c2,c3],.int .i64 0])∧IsRat w' k c0 c1 c2 c3 q)∧Gr w w':=by
 have hl:decide (most<((za3 q).length:Int))=false:=by simp;omega
 go_enter Tryz.func47,Tryz.ntmps47
 have hB:=Gr.refl w
 refine wp_seq_k (fun K1 k1=>?_)
 refine rg [0,1] ?_
 refine se ?_
 refine ea 33 #[.bool false,.slice none 0 0,.bool false,.slice none 0 0] 4 hB fun b2 w2 g2 L2 o2 q2 hB=>?_
 simp only [p3,p4]
 refine sv 5 (.int .i64 0) ?_
 refine za0 ?_
 refine k1 _ _ ?_
 try clear k1 K1
 refine wp_seq_k (fun K3 k3=>?_)
 refine rg [0,1] ?_
 refine sv 13 (.string ⟨(za3 (q):List UInt8).toArray⟩) ?_
 refine sv 6 (.string ⟨(za3 (q):List UInt8).toArray⟩) ?_
 refine za0 ?_
 refine k3 _ _ ?_
 try clear k3 K3
 refine wp_seq_k (fun K4 k4=>?_)
 refine rg [0,1,2,3,4,5,6,7,8] ?_
 refine sv 15 (.string ⟨(za3 (q):List UInt8).toArray⟩) ?_
 refine se ?_
 refine ec 16 (cut_w q hq.1 hq.2 (by omega) hw (hm.gr hB)) ?_
 rintro e5 w5 ⟨rfl,g5⟩
 refine ⟨_,rfl,?_⟩
 replace hB:=hB.trans g5
 simp only [p3,p4]
 refine sv 14 (.tuple #[(.string ⟨(Lib.itoa (q.num):List UInt8).toArray⟩),(.string ⟨([]:List UInt8).toArray⟩),.bool false]) ?_
 refine sv 17 (.string ⟨(Lib.itoa (q.num):List UInt8).toArray⟩) ?_
 refine sv 18 (.string ⟨([]:List UInt8).toArray⟩) ?_
 refine sv 19 (.bool false) ?_
 refine sv 7 (.string ⟨(Lib.itoa (q.num):List UInt8).toArray⟩) ?_
 refine sv 8 (.string ⟨([]:List UInt8).toArray⟩) ?_
 refine sv 9 (.bool false) ?_
 refine za0 ?_
 refine k4 _ _ ?_
 try clear k4 K4
 refine wp_seq_k (fun K6 k6=>?_)
 refine wp_block ?_
 refine wp_seq_k (fun K7 k7=>?_)
 refine rg [0,1,2,3,4] ?_
 refine sv 21 (.string ⟨(za3 (q):List UInt8).toArray⟩) ?_
 refine sv 22 (.int .i64 (((za3 (q)).length:Int))) ?_
 refine sv 23 (.int .i64 (most)) ?_
 refine sw 24 (.bool false) rfl (RunV.bool (x:=decide (most<((za3 (q)).length:Int))) (rvk (by kernel_rfl)) hl) ?_
 refine sv 20 (.bool false) ?_
 refine za0 ?_
 refine k7 _ _ ?_
 try clear k7 K7
 refine wp_cond_false rfl ?_
 refine wp_seq_k (fun K8 k8=>?_)
 refine rg [0,1,2,3,4,5,6,7,8,9,10,11,12] ?_
 refine sv 27 (.string ⟨(Lib.itoa (q.num):List UInt8).toArray⟩) ?_
 refine se ?_
 refine ec 28 (zi8 (q.num) _) ?_
 rintro e9 w9 ⟨rfl,g9⟩
 refine ⟨_,rfl,?_⟩
 replace hB:=hB.trans g9
 simp only [p3,p4]
 refine se ?_
 refine ec 29 (zu8 q.num hq.1 (by omega) _) ?_
 rintro aH aN ⟨rfl,ak⟩
 refine ⟨_,rfl,?_⟩
 replace hB:=hB.trans ak
 simp only [p3,p4]
 refine sv 30 (.bool false) ?_
 refine sv 31 (.bool false) ?_
 refine sv 32 (.bool false) ?_
 refine sv 33 (.bool false) ?_
 refine ss 34 ?_
 refine ss 35 ?_
 refine ss 36 ?_
 refine sv 37 (.bool false) ?_
 refine sv 38 (.bool false) ?_
 refine sv 26 (.bool false) ?_
 refine za0 ?_
 refine k8 _ _ ?_
 try clear k8 K8
 refine wp_cond_false rfl ?_
 refine wp_seq_k (fun ax k11=>?_)
 refine rg [0,1,2,3,4,5,6] ?_
 refine sv 41 (.bool false) ?_
 refine sv 42 (.bool false) ?_
 refine ss 43 ?_
 refine ss 44 ?_
 refine ss 45 ?_
 refine sv 46 (.bool false) ?_
 refine sv 40 (.bool false) ?_
 refine za0 ?_
 refine k11 _ _ ?_
 try clear k11 ax
 refine wp_cond_false rfl ?_
 refine wp_skip ?_
 refine k6 _ _ ?_
 try clear k6 K6
 refine wp_seq_k (fun aD k12=>?_)
 refine rg [0,1,2,3,4,5,6,7] ?_
 refine sv 49 (.string ⟨(Lib.itoa (q.num):List UInt8).toArray⟩) ?_
 refine se ?_
 refine ec 50 (zH8 (q.num) hq.1 (by omega) _) ?_
 rintro e13 aO ⟨⟨ab,aa,rfl,ac⟩,au⟩
 refine ⟨_,rfl,?_⟩
 replace hB:=hB.trans au
 simp only [p3,p4]
 refine sv 48 (.tuple #[(.agg #[ab,aa]),.int .i64 0]) ?_
 refine sv 51 (.agg #[ab,aa]) ?_
 refine sv 52 (.int .i64 0) ?_
 refine se ?_
 refine ea 31 #[.bool false,.slice none 0 0] 10 hB fun aG aM av ah aE aB hB=>?_
 replace L2:=L2.gr (g5.trans (g9.trans (ak.trans au)))
 have ad:=L2.ne aE
 simp only [p3,p4]
 refine se ?_
 refine es 31 0 (.agg #[ab,aa]) [ab,aa] #[ab,aa] ah hB aB ⟨ac.one0,ac.one1,trivial⟩ fun aK af aj ah hB=>?_
 refine sv 11 (.int .i64 0) ?_
 refine za0 ?_
 refine k12 _ _ ?_
 try clear k12 aD
 refine wp_seq_k (fun aw ap=>?_)
 refine wp_seq_k (fun aF aq=>?_)
 refine rg [0,1] ?_
 refine sv 53 (.int .i64 0) ?_
 refine sv 54 (.bool false) ?_
 refine za0 ?_
 refine aq _ _ ?_
 try clear aq aF
 refine wp_cond_false rfl ?_
 refine wp_skip ?_
 refine ap _ _ ?_
 try clear ap aw
 refine wp_seq_k (fun aL aI=>?_)
 refine wp_seq_k (fun ay ar=>?_)
 refine rg [0,1] ?_
 refine sv 56 (.bool false) ?_
 refine sv 57 (.bool true) ?_
 refine za0 ?_
 refine ar _ _ ?_
 try clear ar ay
 refine wp_cond_true rfl ?_
 refine wp_seq_k (fun aA al=>?_)
 refine rg [0,1,2,3] ?_
 refine sw 58 (.agg #[ab,aa]) rfl (rl 31 0 [ab,aa] ah) ?_
 refine sv 59 (.agg #[ab,aa,.bool false,.slice none 0 0]) ?_
 refine se ?_
 replace L2:=af.lc (L2.gr av) ad
 refine es 33 0 (.agg #[ab,aa,.bool false,.slice none 0 0]) [ab,aa,.bool false,.slice none 0 0] #[ab,aa,.bool false,.slice none 0 0] L2 hB q2 ⟨ac.one0,ac.one1,rfl,rfl,trivial⟩ fun aJ aC ae L2 hB=>?_
 refine sv 5 (.int .i64 0) ?_
 refine za0 ?_
 refine al _ _ ?_
 try clear al aA
 refine wp_ret ?_
 simp only [Exit.then]
 refine bodyPost_ret (v:=(.tuple #[(.agg #[ab,aa,.bool false,.slice none 0 0]),.int .i64 0])) (za9 _ _ _ rfl rfl L2 (by kernel_rfl) rfl) rfl ⟨?_,hB⟩
 have ai:=av.kp.trans (aj.trans ae)
 replace ac:=ac.kp ai
 exact ⟨_,_,_,_,rfl,by have:=IsRat.int ac az;rw [zu7 hw] at this;exact this⟩

set_option maxRecDepth 100000 in
set_option maxHeartbeats 1000000 in
theorem read_f {k:Nat} (q:Rat) (hq:Sz k q.num∧Sz k (q.den:Int)) (_hk:k≤20000) (a6:64≤k) (most:Int) (_hlong:((za3 q).length:Int)≤most) (w:World) (hm:Mx w) (hw:¬ q.den=1):
    Calls Tryz.prog 47 #[(.string ⟨(za3 (q):List UInt8).toArray⟩),(.int .i64 (most))] w fun e w'=>(∃ c0 c1 c2 c3,e=.returned (.tuple #[.agg #[c0,c1,c2,c3],.int .i64 0])∧IsRat w' k c0 c1 c2 c3 q)∧Gr w w':=by
 have hl:decide (most<((za3 q).length:Int))=false:=by simp;omega
 have h1:(sgn ((q.den:Int) - 1)==(0:Int))=false:=by rw [beq_eq_false_iff_ne];exact fun e=>hw (by have:=zd7.1 e;omega)
 have h2:(sgn ((Int.gcd (q.num) ((q.den:Int)):Int) - 1) !=(0:Int))=false:=by rw [zI6];rfl
 go_enter Tryz.func47,Tryz.ntmps47
 have hB:=Gr.refl w
 refine wp_seq_k (fun K1 k1=>?_)
 refine rg [0,1] ?_
 refine se ?_
 refine ea 33 #[.bool false,.slice none 0 0,.bool false,.slice none 0 0] 4 hB fun b2 w2 g2 L2 o2 q2 hB=>?_
 simp only [p3,p4]
 refine sv 5 (.int .i64 0) ?_
 refine za0 ?_
 refine k1 _ _ ?_
 try clear k1 K1
 refine wp_seq_k (fun K3 k3=>?_)
 refine rg [0,1] ?_
 refine sv 13 (.string ⟨(za3 (q):List UInt8).toArray⟩) ?_
 refine sv 6 (.string ⟨(za3 (q):List UInt8).toArray⟩) ?_
 refine za0 ?_
 refine k3 _ _ ?_
 try clear k3 K3
 refine wp_seq_k (fun K4 k4=>?_)
 refine rg [0,1,2,3,4,5,6,7,8] ?_
 refine sv 15 (.string ⟨(za3 (q):List UInt8).toArray⟩) ?_
 refine se ?_
 refine ec 16 (cut_f q hq.1 hq.2 (by omega) hw (hm.gr hB)) ?_
 rintro e5 w5 ⟨rfl,g5⟩
 refine ⟨_,rfl,?_⟩
 replace hB:=hB.trans g5
 simp only [p3,p4]
 refine sv 14 (.tuple #[(.string ⟨(Lib.itoa (q.num):List UInt8).toArray⟩),(.string ⟨(Lib.itoa ((q.den:Int)):List UInt8).toArray⟩),.bool true]) ?_
 refine sv 17 (.string ⟨(Lib.itoa (q.num):List UInt8).toArray⟩) ?_
 refine sv 18 (.string ⟨(Lib.itoa ((q.den:Int)):List UInt8).toArray⟩) ?_
 refine sv 19 (.bool true) ?_
 refine sv 7 (.string ⟨(Lib.itoa (q.num):List UInt8).toArray⟩) ?_
 refine sv 8 (.string ⟨(Lib.itoa ((q.den:Int)):List UInt8).toArray⟩) ?_
 refine sv 9 (.bool true) ?_
 refine za0 ?_
 refine k4 _ _ ?_
 try clear k4 K4
 refine wp_seq_k (fun K6 k6=>?_)
 refine wp_block ?_
 refine wp_seq_k (fun K7 k7=>?_)
 refine rg [0,1,2,3,4] ?_
 refine sv 21 (.string ⟨(za3 (q):List UInt8).toArray⟩) ?_
 refine sv 22 (.int .i64 (((za3 (q)).length:Int))) ?_
 refine sv 23 (.int .i64 (most)) ?_
 refine sw 24 (.bool false) rfl (RunV.bool (x:=decide (most<((za3 (q)).length:Int))) (rvk (by kernel_rfl)) hl) ?_
 refine sv 20 (.bool false) ?_
 refine za0 ?_
 refine k7 _ _ ?_
 try clear k7 K7
 refine wp_cond_false rfl ?_
 refine wp_seq_k (fun K8 k8=>?_)
 refine rg [0,1,2,3,4,5,6,7,8,9,10,11,12] ?_
 refine sv 27 (.string ⟨(Lib.itoa (q.num):List UInt8).toArray⟩) ?_
 refine se ?_
 refine ec 28 (zi8 (q.num) _) ?_
 rintro e9 w9 ⟨rfl,g9⟩
 refine ⟨_,rfl,?_⟩
 replace hB:=hB.trans g9
 simp only [p3,p4]
 refine se ?_
 refine ec 29 (zu8 q.num hq.1 (by omega) _) ?_
 rintro bn bD ⟨rfl,aJ⟩
 refine ⟨_,rfl,?_⟩
 replace hB:=hB.trans aJ
 simp only [p3,p4]
 refine sv 30 (.bool false) ?_
 refine sv 31 (.bool false) ?_
 refine sv 32 (.bool true) ?_
 refine sv 33 (.bool true) ?_
 refine sv 34 (.string ⟨(Lib.itoa ((q.den:Int)):List UInt8).toArray⟩) ?_
 refine se ?_
 refine ec 35 (zX3 q.den hq.2 (by omega) _) ?_
 rintro e11 bj ⟨rfl,aS⟩
 refine ⟨_,rfl,?_⟩
 replace hB:=hB.trans aS
 simp only [p3,p4]
 refine sv 36 (.bool false) ?_
 refine sv 37 (.bool false) ?_
 refine sv 38 (.bool false) ?_
 refine sv 26 (.bool false) ?_
 refine za0 ?_
 refine k8 _ _ ?_
 try clear k8 K8
 refine wp_cond_false rfl ?_
 refine wp_seq_k (fun bg k12=>?_)
 refine rg [0,1,2,3,4,5,6] ?_
 refine sv 41 (.bool true) ?_
 refine sv 42 (.bool true) ?_
 refine sv 43 (.string ⟨(Lib.itoa ((q.den:Int)):List UInt8).toArray⟩) ?_
 refine se ?_
 refine ec 44 (zI4 q.den hq.2 q.den_pos (by omega) _) ?_
 rintro e13 bJ ⟨⟨aT,rfl,aE⟩,aQ⟩
 refine ⟨_,rfl,?_⟩
 replace hB:=hB.trans aQ
 simp only [p3,p4]
 refine sw 45 (.bool false) rfl (RunV.bool (x:=((aT)==([]:List UInt8))) (rv_seq 9 9 _ _ (aT) ([]) rfl rfl rfl) aE) ?_
 refine sv 46 (.bool false) ?_
 refine sv 40 (.bool false) ?_
 refine za0 ?_
 refine k12 _ _ ?_
 try clear k12 bg
 refine wp_cond_false rfl ?_
 refine wp_skip ?_
 refine k6 _ _ ?_
 try clear k6 K6
 refine wp_seq_k (fun bf aP=>?_)
 refine rg [0,1,2,3,4,5,6,7] ?_
 refine sv 49 (.string ⟨(Lib.itoa (q.num):List UInt8).toArray⟩) ?_
 refine se ?_
 refine ec 50 (zH8 (q.num) hq.1 (by omega) _) ?_
 rintro bL bv ⟨⟨ae,af,rfl,aj⟩,aV⟩
 refine ⟨_,rfl,?_⟩
 replace hB:=hB.trans aV
 simp only [p3,p4]
 refine sv 48 (.tuple #[(.agg #[ae,af]),.int .i64 0]) ?_
 refine sv 51 (.agg #[ae,af]) ?_
 refine sv 52 (.int .i64 0) ?_
 refine se ?_
 refine ea 31 #[.bool false,.slice none 0 0] 10 hB fun a4 bM aM aa aZ aY hB=>?_
 replace L2:=L2.gr (g5.trans (g9.trans (aJ.trans (aS.trans (aQ.trans aV)))))
 have ap:=L2.ne aZ
 simp only [p3,p4]
 refine se ?_
 refine es 31 0 (.agg #[ae,af]) [ae,af] #[ae,af] aa hB aY ⟨aj.one0,aj.one1,trivial⟩ fun bo aF aI aa hB=>?_
 refine sv 11 (.int .i64 0) ?_
 refine za0 ?_
 refine aP _ _ ?_
 try clear aP bf
 refine wp_seq_k (fun a9 aN=>?_)
 refine wp_seq_k (fun a2 aO=>?_)
 refine rg [0,1] ?_
 refine sv 53 (.int .i64 0) ?_
 refine sv 54 (.bool false) ?_
 refine za0 ?_
 refine aO _ _ ?_
 try clear aO a2
 refine wp_cond_false rfl ?_
 refine wp_skip ?_
 refine aN _ _ ?_
 try clear aN a9
 refine wp_seq_k (fun a7 aL=>?_)
 refine wp_seq_k (fun a5 aK=>?_)
 refine rg [0,1] ?_
 refine sv 56 (.bool true) ?_
 refine sv 57 (.bool false) ?_
 refine za0 ?_
 refine aK _ _ ?_
 try clear aK a5
 refine wp_cond_false rfl ?_
 refine wp_skip ?_
 refine aL _ _ ?_
 try clear aL a7
 refine wp_seq_k (fun bc k22=>?_)
 refine rg [0,1,2,3,4,5,6,7] ?_
 refine sv 61 (.string ⟨(Lib.itoa ((q.den:Int)):List UInt8).toArray⟩) ?_
 refine se ?_
 refine ec 62 (zH8 ((q.den:Int)) hq.2 (by omega) _) ?_
 rintro e23 bm ⟨⟨ac,ad,rfl,ah⟩,aB⟩
 refine ⟨_,rfl,?_⟩
 replace hB:=hB.trans aB
 simp only [p3,p4]
 refine sv 60 (.tuple #[(.agg #[ac,ad]),.int .i64 0]) ?_
 refine sv 63 (.agg #[ac,ad]) ?_
 refine sv 64 (.int .i64 0) ?_
 refine se ?_
 refine ea 31 #[.bool false,.slice none 0 0] 12 hB fun bi bC aA ab aX a3 hB=>?_
 replace L2:=(aF.lc (L2.gr aM) ap).gr aB
 have al:=L2.ne aX
 replace aa:=aa.gr aB
 have ak:=aa.ne aX
 simp only [p3,p4]
 refine se ?_
 refine es 31 0 (.agg #[ac,ad]) [ac,ad] #[ac,ad] ab hB a3 ⟨ah.one0,ah.one1,trivial⟩ fun a8 ay av ab hB=>?_
 refine sv 11 (.int .i64 0) ?_
 refine za0 ?_
 refine k22 _ _ ?_
 try clear k22 bc
 refine wp_seq_k (fun bh aR=>?_)
 refine wp_seq_k (fun bb aW=>?_)
 have ai:=Gr.drew a8
 replace hB:=hB.trans ai
 replace aa:=(ay.lc (aa.gr aA) ak).gr ai
 replace ab:=ab.gr ai
 refine za1 (fun w'=>Lc w' a4 #[ae,af] 31∧Lc w' bi #[ac,ad] 31) [(true,0),(true,1),(true,2),(true,3),(false,4),(false,5),(true,6),(true,7),(true,8),(true,9),(true,10),(false,11),(false,12),(false,13),(true,14),(true,15)] (by kernel_rfl) (by kernel_rfl) (by kernel_rfl) (by decide) (fun _ _ _ _ _ h=>h) ⟨aa,ab⟩ ?_
 refine ov 65 (.int .i64 0) ?_
 refine ov 66 (.bool false) ?_
 refine ov 67 (.bool false) ?_
 refine ow 68 (.agg #[ac,ad]) rfl (fun w' hS=>(rl 31 0 [ac,ad] hS.2)) ?_
 refine oe ?_
 refine ec 69 (zD4 _) ?_
 rintro bq bA ⟨⟨bH,bt,rfl,bd⟩,aq⟩
 refine ⟨_,rfl,?_⟩
 replace hB:=hB.trans aq
 replace aa:=aa.gr aq
 replace ab:=ab.gr aq
 refine ⟨⟨aa,ab⟩,?_⟩
 simp only [p3,p4]
 refine oe ?_
 have aC:=aA.kp.trans (av.trans (ai.kp.trans aq.kp))
 replace ah:=ah.kp aC
 refine ec 70 (zd4 ah bd (by omega) (by omega)) ?_
 rintro bz bu ⟨rfl,au⟩
 refine ⟨_,rfl,?_⟩
 replace hB:=hB.trans au
 replace aa:=aa.gr au
 replace ab:=ab.gr au
 refine ⟨⟨aa,ab⟩,?_⟩
 simp only [p3,p4]
 refine ow 71 (.bool false) rfl (fun w' hS=>(RunV.bool (x:=(sgn ((q.den:Int) - 1)==(0:Int))) (rvk (by kernel_rfl)) h1)) ?_
 refine ov 72 (.bool false) ?_
 refine ov 73 (.bool false) ?_
 refine ow 74 (.agg #[ae,af]) rfl (fun w' hS=>(rl 31 0 [ae,af] hS.1)) ?_
 refine ow 75 (.agg #[ac,ad]) rfl (fun w' hS=>(rl 31 0 [ac,ad] hS.2)) ?_
 refine oe ?_
 have aG:=aM.kp.trans (aI.trans (aB.kp.trans (aA.kp.trans (av.trans (ai.kp.trans (aq.kp.trans au.kp))))))
 replace aj:=aj.kp aG
 replace ah:=ah.kp au.kp
 refine ec 76 (zr6 aj ah (by omega)) ?_
 rintro bO bE ⟨⟨bk,bw,rfl,aH⟩,az⟩
 refine ⟨_,rfl,?_⟩
 replace hB:=hB.trans az
 replace aa:=aa.gr az
 replace ab:=ab.gr az
 refine ⟨⟨aa,ab⟩,?_⟩
 simp only [p3,p4]
 refine oe ?_
 refine ec 77 (zD4 _) ?_
 rintro bG bp ⟨⟨bK,bB,rfl,a0⟩,ar⟩
 refine ⟨_,rfl,?_⟩
 replace hB:=hB.trans ar
 replace aa:=aa.gr ar
 replace ab:=ab.gr ar
 refine ⟨⟨aa,ab⟩,?_⟩
 simp only [p3,p4]
 refine oe ?_
 replace aH:=aH.kp ar.kp
 refine ec 78 (zd4 aH a0 (by omega) (by omega)) ?_
 rintro bN bF ⟨rfl,ax⟩
 refine ⟨_,rfl,?_⟩
 replace hB:=hB.trans ax
 replace aa:=aa.gr ax
 replace ab:=ab.gr ax
 refine ⟨⟨aa,ab⟩,?_⟩
 simp only [p3,p4]
 refine ow 79 (.bool false) rfl (fun w' hS=>(RunV.bool (x:=(sgn ((Int.gcd (q.num) ((q.den:Int)):Int) - 1) !=(0:Int))) (rvk (by kernel_rfl)) h2)) ?_
 refine ov 80 (.bool false) ?_
 refine za2 ?_
 refine aW _ _ ?_
 try clear aW bb
 refine wp_cond_false rfl ?_
 refine wp_skip ?_
 refine aR _ _ ?_
 try clear aR bh
 refine wp_seq_k (fun a1 aU=>?_)
 refine rg [0,1,2,3,4] ?_
 refine sw 82 (.agg #[ae,af]) rfl (rl 31 0 [ae,af] aa) ?_
 refine sw 83 (.agg #[ac,ad]) rfl (rl 31 0 [ac,ad] ab) ?_
 refine sv 84 (.agg #[ae,af,ac,ad]) ?_
 refine se ?_
 replace L2:=(ay.lc (L2.gr aA) al).gr (ai.trans (aq.trans (au.trans (az.trans (ar.trans ax)))))
 refine es 33 0 (.agg #[ae,af,ac,ad]) [ae,af,ac,ad] #[ae,af,ac,ad] L2 hB q2 ⟨aj.one0,aj.one1,ah.one0,ah.one1,trivial⟩ fun bx ba aD L2 hB=>?_
 refine sv 5 (.int .i64 0) ?_
 refine za0 ?_
 refine aU _ _ ?_
 try clear aU a1
 refine wp_ret ?_
 refine bodyPost_ret (v:=(.tuple #[(.agg #[ae,af,ac,ad]),.int .i64 0])) (za9 _ _ _ rfl rfl L2 (by kernel_rfl) rfl) rfl ⟨?_,hB⟩
 have aw:=az.kp.trans (ar.kp.trans (ax.kp.trans aD))
 replace aj:=aj.kp aw
 replace ah:=ah.kp aw
 exact ⟨_,_,_,_,rfl,zI5 aj ah a6⟩

theorem read_q {k:Nat} (q:Rat) (hq:Sz k q.num∧Sz k (q.den:Int)) (hk:k≤20000) (h64:64≤k) (most:Int) (hlong:((za3 q).length:Int)≤most) (w:World) (hm:Mx w):
  Calls Tryz.prog 47 #[(.string ⟨(za3 (q):List UInt8).toArray⟩),(.int .i64 (most))] w fun e w'=>(∃ c0 c1 c2 c3,e=.returned (.tuple #[.agg #[c0,c1,c2,c3],.int .i64 0])∧IsRat w' k c0 c1 c2 c3 q)∧Gr w w':=by
 by_cases hw:q.den=1
 ·exact read_w q hq hk h64 most hlong w hm hw
 ·exact read_f q hq hk h64 most hlong w hm hw

set_option maxRecDepth 100000 in
set_option maxHeartbeats 1000000 in
theorem zz4 {k:Nat} (q:Rat) (hq:Sz k q.num∧Sz k (q.den:Int)) (hk:k≤20000) (af:64≤k) (_hlong:((za3 q).length:Int)≤400) (w:World) (hm:Mx w):
    Calls Tryz.prog 121 #[(.string ⟨(za3 (q):List UInt8).toArray⟩)] w fun e w'=>(∃ c0 c1 c2 c3,e=.returned (.tuple #[.agg #[c0,c1,c2,c3],.int .i64 0])∧IsRat w' k c0 c1 c2 c3 q)∧Gr w w':=by
 go_enter Tryz.func121,Tryz.ntmps121
 have hB:=Gr.refl w
 refine wp_seq_k (fun K1 k1=>?_)
 refine rg [0,1] ?_
 refine se ?_
 refine ea 33 #[.bool false,.slice none 0 0,.bool false,.slice none 0 0] 2 hB fun b2 w2 g2 L2 o2 q2 hB=>?_
 simp only [p3,p4]
 refine sv 3 (.int .i64 0) ?_
 refine za0 ?_
 refine k1 _ _ ?_
 try clear k1 K1
 refine wp_seq_k (fun K3 k3=>?_)
 refine rg [0,1,2,3,4,5] ?_
 refine sv 4 (.string ⟨(za3 (q):List UInt8).toArray⟩) ?_
 refine se ?_
 refine ec 5 (read_q q hq hk af 400 (by omega) _ (hm.gr hB)) ?_
 rintro e4 w4 ⟨⟨aa,ac,ad,ab,rfl,h4⟩,g4⟩
 refine ⟨_,rfl,?_⟩
 replace hB:=hB.trans g4
 simp only [p3,p4]
 refine sv 6 (.agg #[aa,ac,ad,ab]) ?_
 refine sv 7 (.int .i64 0) ?_
 refine se ?_
 replace L2:=L2.gr g4
 refine es 33 0 (.agg #[aa,ac,ad,ab]) [aa,ac,ad,ab] #[aa,ac,ad,ab] L2 hB q2 ⟨h4.one0,h4.one1,h4.one2,h4.one3,trivial⟩ fun w5 ah ae L2 hB=>?_
 refine sv 3 (.int .i64 0) ?_
 refine za0 ?_
 refine k3 _ _ ?_
 try clear k3 K3
 refine wp_ret ?_
 refine bodyPost_ret (v:=(.tuple #[(.agg #[aa,ac,ad,ab]),.int .i64 0])) (za9 _ _ _ rfl rfl L2 (by kernel_rfl) rfl) rfl ⟨?_,hB⟩
 replace h4:=h4.kp ae
 exact ⟨_,_,_,_,rfl,h4⟩

set_option maxRecDepth 100000 in
set_option maxHeartbeats 1000000 in
theorem readr_q {k:Nat} (q:Rat) (hq:Sz k q.num∧Sz k (q.den:Int)) (hk:k≤20000) (af:64≤k) (_hlong:((za3 q).length:Int)≤65536) (w:World) (hm:Mx w):
    Calls Tryz.prog 23 #[(.string ⟨(za3 (q):List UInt8).toArray⟩)] w fun e w'=>(∃ c0 c1 c2 c3,e=.returned (.tuple #[.agg #[c0,c1,c2,c3],.int .i64 0])∧IsRat w' k c0 c1 c2 c3 q)∧Gr w w':=by
 go_enter Tryz.func23,Tryz.ntmps23
 have hB:=Gr.refl w
 refine wp_seq_k (fun K1 k1=>?_)
 refine rg [0,1] ?_
 refine se ?_
 refine ea 33 #[.bool false,.slice none 0 0,.bool false,.slice none 0 0] 2 hB fun b2 w2 g2 L2 o2 q2 hB=>?_
 simp only [p3,p4]
 refine sv 3 (.int .i64 0) ?_
 refine za0 ?_
 refine k1 _ _ ?_
 try clear k1 K1
 refine wp_seq_k (fun K3 k3=>?_)
 refine rg [0,1,2,3,4,5] ?_
 refine sv 4 (.string ⟨(za3 (q):List UInt8).toArray⟩) ?_
 refine se ?_
 refine ec 5 (read_q q hq hk af 65536 (by omega) _ (hm.gr hB)) ?_
 rintro e4 w4 ⟨⟨aa,ac,ad,ab,rfl,h4⟩,g4⟩
 refine ⟨_,rfl,?_⟩
 replace hB:=hB.trans g4
 simp only [p3,p4]
 refine sv 6 (.agg #[aa,ac,ad,ab]) ?_
 refine sv 7 (.int .i64 0) ?_
 refine se ?_
 replace L2:=L2.gr g4
 refine es 33 0 (.agg #[aa,ac,ad,ab]) [aa,ac,ad,ab] #[aa,ac,ad,ab] L2 hB q2 ⟨h4.one0,h4.one1,h4.one2,h4.one3,trivial⟩ fun w5 ah ae L2 hB=>?_
 refine sv 3 (.int .i64 0) ?_
 refine za0 ?_
 refine k3 _ _ ?_
 try clear k3 K3
 refine wp_ret ?_
 refine bodyPost_ret (v:=(.tuple #[(.agg #[aa,ac,ad,ab]),.int .i64 0])) (za9 _ _ _ rfl rfl L2 (by kernel_rfl) rfl) rfl ⟨?_,hB⟩
 replace h4:=h4.kp ae
 exact ⟨_,_,_,_,rfl,h4⟩

set_option maxRecDepth 100000 in
set_option maxHeartbeats 1000000 in
theorem div_a {k m:Nat} {u0 u1 u2 u3 v0 v1 v2 v3:Value} {a b:Rat} {w:World} (ha:IsRat w k u0 u1 u2 u3 a) (hb:IsRat w m v0 v1 v2 v3 b) (_hk:k+m≤100000) (h0:b.num≠0):
    Calls Tryz.prog 41 #[(.agg #[u0,u1,u2,u3]),(.agg #[v0,v1,v2,v3])] w fun e w'=>(∃ c0 c1 c2 c3,e=.returned (.tuple #[.agg #[c0,c1,c2,c3],.int .i64 0])∧IsRat w' (k+m) c0 c1 c2 c3 (a/b))∧Gr w w':=by
 have hka:=ha.big
 have hkb:=hb.big
 have he:(sgn (b).num==(0:Int))=false:=by rw [beq_eq_false_iff_ne];exact fun e=>h0 (zd7.1 e)
 go_enter Tryz.func41,Tryz.ntmps41
 have hB:=Gr.refl w
 refine wp_seq_k (fun K1 k1=>?_)
 refine rg [0,1,2,3] ?_
 refine se ?_
 refine eb 33 #[u0,u1,u2,u3] 2 hB fun b2 w2 g2 L2 o2 q2 hB=>?_
 simp only [p3,p4]
 refine se ?_
 refine eb 33 #[v0,v1,v2,v3] 3 hB fun b3 w3 g3 L3 o3 q3 hB=>?_
 simp only [p3,p4]
 refine se ?_
 refine ea 33 #[.bool false,.slice none 0 0,.bool false,.slice none 0 0] 4 hB fun b4 w4 g4 L4 o4 q4 hB=>?_
 replace L2:=L2.gr g3
 have ah:=L2.ne o4
 have ai:=L3.ne o4
 simp only [p3,p4]
 refine sv 5 (.int .i64 0) ?_
 refine za0 ?_
 refine k1 _ _ ?_
 try clear k1 K1
 refine wp_seq_k (fun K5 k5=>?_)
 refine wp_seq_k (fun K6 k6=>?_)
 refine rg [0,1,2] ?_
 replace L3:=L3.gr g4
 refine sw 6 (.agg #[v0,v1,v2,v3]) rfl (rl 33 0 [v0,v1,v2,v3] L3) ?_
 refine se ?_
 have aA:=g2.kp.trans (g3.kp.trans g4.kp)
 replace hb:=hb.kp aA
 refine ec 7 (zD5 hb) ?_
 rintro e7 w7 ⟨rfl,g7⟩
 refine ⟨_,rfl,?_⟩
 replace hB:=hB.trans g7
 simp only [p3,p4]
 refine sw 8 (.bool false) rfl (RunV.bool (x:=(sgn (b).num==(0:Int))) (rvk (by kernel_rfl)) he) ?_
 refine za0 ?_
 refine k6 _ _ ?_
 try clear k6 K6
 refine wp_cond_false rfl ?_
 refine wp_skip ?_
 refine k5 _ _ ?_
 try clear k5 K5
 refine wp_seq_k (fun K9 k9=>?_)
 have aa:=Gr.drew w7
 replace hB:=hB.trans aa
 replace L2:=L2.gr (g4.trans (g7.trans aa))
 replace L3:=L3.gr (g7.trans aa)
 refine za1 (fun w'=>Lc w' b2 #[u0,u1,u2,u3] 33∧Lc w' b3 #[v0,v1,v2,v3] 33) [(true,0),(true,1),(true,2),(true,5),(true,7),(true,8),(false,3),(false,4),(false,6),(false,9),(false,10),(false,11),(true,12)] (by kernel_rfl) (by kernel_rfl) (by kernel_rfl) (by decide) (fun _ _ _ _ _ h=>h) ⟨L2,L3⟩ ?_
 refine ov 10 (.pointer (some ⟨b2,0,none⟩)) ?_
 refine ow 11 (.agg #[u0,u1]) rfl (fun w' hS=>(rl 31 0 [u0,u1] hS.1)) ?_
 refine ow 12 (.agg #[v0,v1,v2,v3]) rfl (fun w' hS=>(rl 33 0 [v0,v1,v2,v3] hS.2)) ?_
 refine ow 15 (.agg #[u0,u1,u2,u3]) rfl (fun w' hS=>(rl 33 0 [u0,u1,u2,u3] hS.1)) ?_
 refine ov 17 (.pointer (some ⟨b3,0,none⟩)) ?_
 refine ow 18 (.agg #[v0,v1]) rfl (fun w' hS=>(rl 31 0 [v0,v1] hS.2)) ?_
 refine oe ?_
 have au:=g7.kp.trans aa.kp
 replace hb:=hb.kp au
 refine ec 13 (ze1 hb) ?_
 rintro aK aV ⟨⟨aJ,aE,rfl,aB⟩,ad⟩
 refine ⟨_,rfl,?_⟩
 replace hB:=hB.trans ad
 replace L2:=L2.gr ad
 replace L3:=L3.gr ad
 refine ⟨⟨L2,L3⟩,?_⟩
 simp only [p3,p4]
 refine oe ?_
 have av:=g2.kp.trans (g3.kp.trans (g4.kp.trans (g7.kp.trans (aa.kp.trans ad.kp))))
 replace ha:=ha.kp av
 refine ec 14 (zf9 ha.num aB (by omega)) ?_
 rintro e32 aQ ⟨⟨aF,aR,rfl,ay⟩,ae⟩
 refine ⟨_,rfl,?_⟩
 replace hB:=hB.trans ae
 replace L2:=L2.gr ae
 replace L3:=L3.gr ae
 refine ⟨⟨L2,L3⟩,?_⟩
 simp only [p3,p4]
 refine oe ?_
 replace ha:=ha.kp ae.kp
 refine ec 16 (ze1 ha) ?_
 rintro aO aT ⟨⟨aM,aS,rfl,aC⟩,ac⟩
 refine ⟨_,rfl,?_⟩
 replace hB:=hB.trans ac
 replace L2:=L2.gr ac
 replace L3:=L3.gr ac
 refine ⟨⟨L2,L3⟩,?_⟩
 simp only [p3,p4]
 refine oe ?_
 have aw:=ad.kp.trans (ae.kp.trans ac.kp)
 replace hb:=hb.kp aw
 refine ec 19 (zf9 aC hb.num (by omega)) ?_
 rintro aG aI ⟨⟨aP,aH,rfl,aD⟩,aj⟩
 refine ⟨_,rfl,?_⟩
 replace hB:=hB.trans aj
 replace L2:=L2.gr aj
 replace L3:=L3.gr aj
 refine ⟨⟨L2,L3⟩,?_⟩
 simp only [p3,p4]
 refine oe ?_
 have ax:=ac.kp.trans aj.kp
 replace ay:=ay.kp ax
 refine ec 20 (zW8 (k+m) ay aD (Int.mul_ne_zero (Int.ne_of_gt (Int.natCast_pos.2 a.den_pos)) h0) (by omega) (by omega) (by omega) (by omega)) ?_
 rintro aL aU ⟨⟨al,ap,aq,ar,rfl,ab⟩,ak⟩
 refine ⟨_,rfl,?_⟩
 replace hB:=hB.trans ak
 replace L2:=L2.gr ak
 replace L3:=L3.gr ak
 refine ⟨⟨L2,L3⟩,?_⟩
 simp only [p3,p4]
 refine oe ?_
 replace L4:=L4.gr (g7.trans (aa.trans (ad.trans (ae.trans (ac.trans (aj.trans ak))))))
 refine es 33 0 (.agg #[al,ap,aq,ar]) [al,ap,aq,ar] #[al,ap,aq,ar] L4 hB q4 ⟨ab.one0,ab.one1,ab.one2,ab.one3,trivial⟩ fun aN af az L4 hB=>?_
 replace L2:=af.lc L2 ah
 replace L3:=af.lc L3 ai
 refine ⟨⟨L2,L3⟩,?_⟩
 refine ov 5 (.int .i64 0) ?_
 refine za2 ?_
 refine k9 _ _ ?_
 try clear k9 K9
 refine wp_ret ?_
 refine bodyPost_ret (v:=(.tuple #[(.agg #[al,ap,aq,ar]),.int .i64 0])) (za9 _ _ _ rfl rfl L4 (by kernel_rfl) rfl) rfl ⟨?_,hB⟩
 replace ab:=ab.kp az
 exact ⟨_,_,_,_,rfl,by rw [← zI2];exact ab⟩

set_option maxRecDepth 100000 in
set_option maxHeartbeats 1000000 in
theorem div_0 {k m:Nat} {u0 u1 u2 u3 v0 v1 v2 v3:Value} {a b:Rat} {w:World} (_ha:IsRat w k u0 u1 u2 u3 a) (hb:IsRat w m v0 v1 v2 v3 b) (h0:b.num=0):
    Calls Tryz.prog 41 #[(.agg #[u0,u1,u2,u3]),(.agg #[v0,v1,v2,v3])] w fun e w'=>e=.returned (.tuple #[.agg #[.bool false,.slice none 0 0,.bool false,.slice none 0 0],.int .i64 19])∧Gr w w':=by
 have he:(sgn (b).num==(0:Int))=true:=by rw [h0];rfl
 go_enter Tryz.func41,Tryz.ntmps41
 have hB:=Gr.refl w
 refine wp_seq_k (fun K1 k1=>?_)
 refine rg [0,1,2,3] ?_
 refine se ?_
 refine eb 33 #[u0,u1,u2,u3] 2 hB fun b2 w2 g2 L2 o2 q2 hB=>?_
 simp only [p3,p4]
 refine se ?_
 refine eb 33 #[v0,v1,v2,v3] 3 hB fun b3 w3 g3 L3 o3 q3 hB=>?_
 simp only [p3,p4]
 refine se ?_
 refine ea 33 #[.bool false,.slice none 0 0,.bool false,.slice none 0 0] 4 hB fun b4 w4 g4 L4 o4 q4 hB=>?_
 simp only [p3,p4]
 refine sv 5 (.int .i64 0) ?_
 refine za0 ?_
 refine k1 _ _ ?_
 try clear k1 K1
 refine wp_seq_k (fun K5 k5=>?_)
 refine wp_seq_k (fun K6 k6=>?_)
 refine rg [0,1,2] ?_
 replace L3:=L3.gr g4
 refine sw 6 (.agg #[v0,v1,v2,v3]) rfl (rl 33 0 [v0,v1,v2,v3] L3) ?_
 refine se ?_
 have aa:=g2.kp.trans (g3.kp.trans g4.kp)
 replace hb:=hb.kp aa
 refine ec 7 (zD5 hb) ?_
 rintro e7 w7 ⟨rfl,g7⟩
 refine ⟨_,rfl,?_⟩
 replace hB:=hB.trans g7
 simp only [p3,p4]
 refine sw 8 (.bool true) rfl (RunV.bool (x:=(sgn (b).num==(0:Int))) (rvk (by kernel_rfl)) he) ?_
 refine za0 ?_
 refine k6 _ _ ?_
 try clear k6 K6
 refine wp_cond_true rfl ?_
 refine wp_seq_k (fun K9 k9=>?_)
 refine rg [0,1,2] ?_
 refine sv 9 (.agg #[.bool false,.slice none 0 0,.bool false,.slice none 0 0]) ?_
 refine se ?_
 replace L4:=L4.gr g7
 refine es 33 0 (.agg #[.bool false,.slice none 0 0,.bool false,.slice none 0 0]) [.bool false,.slice none 0 0,.bool false,.slice none 0 0] #[.bool false,.slice none 0 0,.bool false,.slice none 0 0] L4 hB q4 ⟨rfl,rfl,rfl,rfl,trivial⟩ fun ad ab ac L4 hB=>?_
 refine sv 5 (.int .i64 19) ?_
 refine za0 ?_
 refine k9 _ _ ?_
 try clear k9 K9
 refine wp_ret ?_
 simp only [Exit.then]
 refine bodyPost_ret (v:=(.tuple #[(.agg #[.bool false,.slice none 0 0,.bool false,.slice none 0 0]),.int .i64 19])) (za9 _ _ _ rfl rfl L4 (by kernel_rfl) rfl) rfl ⟨?_,hB⟩
 exact rfl

set_option maxRecDepth 100000 in
set_option maxHeartbeats 8000000 in
theorem vprim_ok {k:Nat} {aB aH aE aD aF aJ az aI ay aA aG aC:Value} {a1 a2 a3:Rat} {w:World} (aK:IsRat w k aB aH aE aD a1) (aL:IsRat w k aF aJ az aI a2) (aN:IsRat w k ay aA aG aC a3) (_hk:k≤2500) (i8:¬(a1=0∧a2=0∧a3=0)):
    Calls Tryz.prog 51 #[(.agg #[aB,aH,aE,aD,aF,aJ,az,aI,ay,aA,aG,aC])] w fun e w'=>(∃ t0 t1 t2 t3 t4 t5 t6 t7 t8 t9 iV iR,e=.returned (.tuple #[.agg #[t0,t1,t2,t3,t4,t5,t6,t7,t8,t9,iV,iR],.int .i64 0])∧IsRat w' ((64+(64+(64+k+k+k+k))+(64+(64+k+k+k+k))+(64+(64+k+k+k+k)))+(64+k+k+k+k)) t0 t1 t2 t3 (prim a1 a2 a3 a1)∧IsRat w' ((64+(64+(64+k+k+k+k))+(64+(64+k+k+k+k))+(64+(64+k+k+k+k)))+(64+k+k+k+k)) t4 t5 t6 t7 (prim a1 a2 a3 a2)∧IsRat w' ((64+(64+(64+k+k+k+k))+(64+(64+k+k+k+k))+(64+(64+k+k+k+k)))+(64+k+k+k+k)) t8 t9 iV iR (prim a1 a2 a3 a3))∧Gr w w':=by
 have e1:=zu4.2 i8
 have hbig:=aK.big
 have hdp:=zM9 a1 a2 a3
 go_enter Tryz.func51,Tryz.ntmps51
 have hB:=Gr.refl w
 refine wp_seq_k (fun K1 k1=>?_)
 refine rg [0,1,2] ?_
 refine se ?_
 refine eb 35 #[aB,aH,aE,aD,aF,aJ,az,aI,ay,aA,aG,aC] 1 hB fun b2 w2 g2 L2 o2 q2 hB=>?_
 simp only [p3,p4]
 refine se ?_
 refine ea 35 #[.bool false,.slice none 0 0,.bool false,.slice none 0 0,.bool false,.slice none 0 0,.bool false,.slice none 0 0,.bool false,.slice none 0 0,.bool false,.slice none 0 0] 2 hB fun b3 w3 g3 L3 o3 q3 hB=>?_
 have gh:=L2.ne o3
 simp only [p3,p4]
 refine sv 3 (.int .i64 0) ?_
 refine za0 ?_
 refine k1 _ _ ?_
 try clear k1 K1
 refine wp_seq_k (fun K4 k4=>?_)
 refine wp_seq_k (fun K5 k5=>?_)
 refine rg [0,1] ?_
 replace L2:=L2.gr g3
 refine sw 17 (.agg #[aB,aH,aE,aD,aF,aJ,az,aI,ay,aA,aG,aC]) rfl (rl 35 0 [aB,aH,aE,aD,aF,aJ,az,aI,ay,aA,aG,aC] L2) ?_
 refine se ?_
 have hw:=g2.kp.trans g3.kp
 replace aK:=aK.kp hw
 replace aL:=aL.kp hw
 replace aN:=aN.kp hw
 refine ec 18 (zH2 aK aL aN (by omega) false e1) ?_
 rintro e6 w6 ⟨rfl,g6⟩
 refine ⟨_,rfl,?_⟩
 replace hB:=hB.trans g6
 simp only [p3,p4]
 refine za0 ?_
 refine k5 _ _ ?_
 try clear k5 K5
 refine wp_cond_false rfl ?_
 refine wp_skip ?_
 refine k4 _ _ ?_
 try clear k4 K4
 refine wp_seq_k (fun K8 k8=>?_)
 refine rg [0,1,2] ?_
 refine se ?_
 refine ec 20 (zt3 (1) (by omega) (by omega) _) ?_
 rintro e9 w9 ⟨⟨x9,y9,rfl,h9⟩,g9⟩
 refine ⟨_,rfl,?_⟩
 replace hB:=hB.trans g9
 simp only [p3,p4]
 refine se ?_
 refine ea 31 #[.bool false,.slice none 0 0] 4 hB fun dI lJ f5 ab iS hq hB=>?_
 replace L2:=L2.gr (g6.trans g9)
 have bv:=L2.ne iS
 replace L3:=L3.gr (g6.trans g9)
 have bq:=L3.ne iS
 simp only [p3,p4]
 refine se ?_
 refine es 31 0 (.agg #[x9,y9]) [x9,y9] #[x9,y9] ab hB hq ⟨h9.one0,h9.one1,trivial⟩ fun kX gw fo ab hB=>?_
 refine za0 ?_
 refine k8 _ _ ?_
 try clear k8 K8
 refine wp_seq_k (fun jI k12=>?_)
 refine wp_seq_k (fun km k13=>?_)
 refine rg [0,1] ?_
 replace L2:=gw.lc (L2.gr f5) bv
 refine sw 21 (.agg #[aB,aH,aE,aD,aF,aJ,az,aI,ay,aA,aG,aC]) rfl (rl 35 0 [aB,aH,aE,aD,aF,aJ,az,aI,ay,aA,aG,aC] L2) ?_
 refine sv 22 (.int .i64 0) ?_
 refine za0 ?_
 refine k13 _ _ ?_
 try clear k13 km
 refine wp_block ?_
 refine wp_loop_rounds 4 ?_
 show Code.wp _ _ _ _ _
 refine wp_seq_k (fun kO ja=>?_)
 refine rg [0] ?_
 refine sv 23 (.bool true) ?_
 refine za0 ?_
 refine ja _ _ ?_
 try clear ja kO
 refine wp_seq_k (fun jU iX=>?_)
 refine wp_cond_true rfl ?_
 refine wp_skip ?_
 refine iX _ _ ?_
 try clear iX jU
 refine wp_seq_k (fun jA iQ=>?_)
 refine wp_block ?_
 refine wp_seq_k (fun kJ i7=>?_)
 refine rg [0,1,2] ?_
 refine sv 24 (.agg #[aB,aH,aE,aD]) ?_
 refine se ?_
 refine ea 33 #[.bool false,.slice none 0 0,.bool false,.slice none 0 0] 6 hB fun ho lM fV aO io kh hB=>?_
 have fR:=L2.ne io
 replace L3:=gw.lc (L3.gr f5) bq
 have fG:=L3.ne io
 have cN:=ab.ne io
 simp only [p3,p4]
 refine se ?_
 refine es 33 0 (.agg #[aB,aH,aE,aD]) [aB,aH,aE,aD] #[aB,aH,aE,aD] aO hB kh ⟨aK.one0,aK.one1,aK.one2,aK.one3,trivial⟩ fun jk fN eY aO hB=>?_
 refine za0 ?_
 refine i7 _ _ ?_
 try clear i7 kJ
 refine wp_seq_k (fun j5 iP=>?_)
 have gF:=Below.size hB
 replace L2:=fN.lc (L2.gr fV) fR
 have dP:=L2.lt
 replace L3:=fN.lc (L3.gr fV) fG
 have dG:=L3.lt
 replace ab:=fN.lc (ab.gr fV) cN
 have c9:=ab.lt
 have db:=aO.lt
 have bH:=Gr.drew jk
 replace hB:=hB.trans bH
 replace ab:=ab.gr bH
 replace aO:=aO.gr bH
 refine zc2 (fun w'=>Lc w' dI #[x9,y9] 31∧Lc w' ho #[aB,aH,aE,aD] 33) [(true,0),(true,1),(true,2),(false,3),(false,4),(false,5),(true,6),(true,7),(true,8),(true,9)] [⟨10,7,31,#[.bool false,.slice none 0 0]⟩,⟨11,8,31,#[.bool false,.slice none 0 0]⟩] [(false,12),(false,13),(true,14)] (by kernel_rfl) (by kernel_rfl) (by kernel_rfl) (by kernel_rfl) (by kernel_rfl) (by decide) (fun _ _ _ _ _ h=>h) (fun _ _ _ _ _ h=>h) (fun w' o h=>⟨Lc.gr h.1 (Gr.alloc w' o),Lc.gr h.2 (Gr.alloc w' o)⟩) ⟨ab,aO⟩ (by intro f hf;simp only [List.mem_cons,List.not_mem_nil,or_false] at hf;rcases hf with rfl | rfl<;>first | exact zc5 (z:=(.agg #[.bool false,.slice none 0 0])) (by kernel_rfl) rfl | exact zc5 (z:=(.agg #[.bool false,.slice none 0 0])) (by kernel_rfl) rfl) ?_
 refine fw 26 (.agg #[x9,y9]) rfl (fun w' hS=>(rl 31 0 [x9,y9] hS.1)) ?_
 refine fw 27 (.agg #[x9,y9]) rfl (fun w' hS=>(rl 31 0 [x9,y9] hS.1)) ?_
 refine fw 28 (.agg #[aB,aH,aE,aD]) rfl (fun w' hS=>(rl 33 0 [aB,aH,aE,aD] hS.2)) ?_
 refine zd0 rfl rfl (fun k3 eN _ jG k22=>?_)
 replace hB:=hB.trans eN
 have hV:=g6.kp.trans (g9.kp.trans (f5.kp.trans (fo.trans (fV.kp.trans (eY.trans (bH.kp.trans eN.kp))))))
 replace aK:=aK.kp hV
 refine ec 29 (ze1 aK) ?_
 rintro e23 lF ⟨⟨lH,k6,rfl,iG⟩,el⟩
 refine ⟨_,rfl,?_⟩
 replace hB:=hB.trans el
 replace ab:=ab.gr (eN.trans el)
 replace aO:=aO.gr (eN.trans el)
 refine k22 _ _ el ⟨ab,aO⟩ ?_
 try clear k22 jG
 simp only [p3,p4]
 refine zd0 rfl rfl (fun lB eu _ kP i9=>?_)
 replace hB:=hB.trans eu
 have ib:=f5.kp.trans (fo.trans (fV.kp.trans (eY.trans (bH.kp.trans (eN.kp.trans (el.kp.trans eu.kp))))))
 replace h9:=h9.kp ib
 replace iG:=iG.kp eu.kp
 refine ec 30 (zr6 h9 iG (by omega)) ?_
 rintro ls kW ⟨⟨lA,ll,rfl,hx⟩,ew⟩
 refine ⟨_,rfl,?_⟩
 replace hB:=hB.trans ew
 replace ab:=ab.gr (eu.trans ew)
 replace aO:=aO.gr (eu.trans ew)
 refine i9 _ _ ew ⟨ab,aO⟩ ?_
 try clear i9 kP
 simp only [p3,p4]
 refine zd0 rfl rfl (fun ld en _ kB i5=>?_)
 replace hB:=hB.trans en
 have hZ:=ew.kp.trans en.kp
 replace h9:=h9.kp hZ
 replace hx:=hx.kp en.kp
 refine ec 31 (zg8 h9 hx (zM8 _ _).1 (by omega)) ?_
 rintro lf ly ⟨⟨fu,fA,d2,dD,rfl,gC,gx⟩,eD⟩
 refine ⟨_,rfl,?_⟩
 replace hB:=hB.trans eD
 replace ab:=ab.gr (en.trans eD)
 replace aO:=aO.gr (en.trans eD)
 refine i5 _ _ eD ⟨ab,aO⟩ ?_
 try clear i5 kB
 simp only [p3,p4]
 refine fv 25 (.tuple #[(.agg #[fu,fA]),(.agg #[d2,dD]),.int .i64 0]) ?_
 refine fv 32 (.agg #[fu,fA]) ?_
 refine fv 33 (.agg #[d2,dD]) ?_
 refine fv 34 (.int .i64 0) ?_
 refine zl3 (fun i6 fm _=>?_)
 replace hB:=hB.trans fm
 refine zH6 (fun fz fH (bR:Lc i6 fz #[.bool false,.slice none 0 0] 31) q32 (et:Lc i6 fH #[.bool false,.slice none 0 0] 31) q33 ne32_33=>?_)
 have fU:b2≠fz:=Nat.ne_of_lt (Nat.lt_of_lt_of_le dP q32)
 have fW:b3≠fz:=Nat.ne_of_lt (Nat.lt_of_lt_of_le dG q32)
 have de:dI≠fz:=Nat.ne_of_lt (Nat.lt_of_lt_of_le c9 q32)
 have eV:ho≠fz:=Nat.ne_of_lt (Nat.lt_of_lt_of_le db q32)
 replace q32:=Nat.le_trans gF q32
 have fM:b2≠fH:=Nat.ne_of_lt (Nat.lt_of_lt_of_le dP q33)
 have fZ:b3≠fH:=Nat.ne_of_lt (Nat.lt_of_lt_of_le dG q33)
 have cQ:dI≠fH:=Nat.ne_of_lt (Nat.lt_of_lt_of_le c9 q33)
 have eL:ho≠fH:=Nat.ne_of_lt (Nat.lt_of_lt_of_le db q33)
 replace q33:=Nat.le_trans gF q33
 simp only [zn2,p3,p4]
 refine oe ?_
 refine es 31 0 (.agg #[fu,fA]) [fu,fA] #[fu,fA] bR hB q32 ⟨gC.one0,gC.one1,trivial⟩ fun k9 dW e8 bR hB=>?_
 replace ab:=dW.lc (ab.gr fm) de
 replace aO:=dW.lc (aO.gr fm) eV
 refine ⟨⟨ab,aO⟩,?_⟩
 refine oe ?_
 replace et:=dW.lc et (Ne.symm ne32_33)
 refine es 31 0 (.agg #[d2,dD]) [d2,dD] #[d2,dD] et hB q33 ⟨gx.one0,gx.one1,trivial⟩ fun kz d8 e7 et hB=>?_
 replace ab:=d8.lc ab cQ
 replace aO:=d8.lc aO eL
 refine ⟨⟨ab,aO⟩,?_⟩
 refine ov 9 (.int .i64 0) ?_
 refine za2 ?_
 refine iP _ _ ?_
 try clear iP j5
 have a8:=Gr.drew kz
 replace hB:=hB.trans a8
 replace aO:=aO.gr a8
 replace bR:=(d8.lc bR ne32_33).gr a8
 refine za1 (fun w'=>Lc w' ho #[aB,aH,aE,aD] 33∧Lc w' fz #[fu,fA] 31) [(true,0),(true,1),(false,2),(false,3),(false,4)] (by kernel_rfl) (by kernel_rfl) (by kernel_rfl) (by decide) (fun _ _ _ _ _ h=>h) ⟨aO,bR⟩ ?_
 refine ow 35 (.agg #[fu,fA]) rfl (fun w' hS=>(rl 31 0 [fu,fA] hS.2)) ?_
 refine ow 36 (.agg #[aB,aH,aE,aD]) rfl (fun w' hS=>(rl 33 0 [aB,aH,aE,aD] hS.1)) ?_
 refine oe ?_
 have ic:=el.kp.trans (eu.kp.trans (ew.kp.trans (en.kp.trans (eD.kp.trans (fm.kp.trans (e8.trans (e7.trans a8.kp)))))))
 replace aK:=aK.kp ic
 refine ec 37 (ze1 aK) ?_
 rintro kY lx ⟨⟨lg,la,rfl,jY⟩,dH⟩
 refine ⟨_,rfl,?_⟩
 replace hB:=hB.trans dH
 replace aO:=aO.gr dH
 replace bR:=bR.gr dH
 refine ⟨⟨aO,bR⟩,?_⟩
 simp only [p3,p4]
 refine oe ?_
 have hQ:=fm.kp.trans (e8.trans (e7.trans (a8.kp.trans dH.kp)))
 replace gC:=gC.kp hQ
 refine ec 38 (zf9 gC jY (by omega)) ?_
 rintro lj li ⟨⟨fC,ft,rfl,ey⟩,er⟩
 refine ⟨_,rfl,?_⟩
 replace hB:=hB.trans er
 replace ey:=(show IsInt _ _ _ _ (zR6 (1) (a1.den:Int)) from ey)
 replace aO:=aO.gr er
 replace bR:=bR.gr er
 refine ⟨⟨aO,bR⟩,?_⟩
 simp only [p3,p4]
 refine oe ?_
 replace ab:=ab.gr (a8.trans (dH.trans er))
 refine es 31 0 (.agg #[fC,ft]) [fC,ft] #[fC,ft] ab hB hq ⟨ey.one0,ey.one1,trivial⟩ fun lm dX eH ab hB=>?_
 replace aO:=dX.lc aO (Ne.symm cN)
 replace bR:=dX.lc bR (Ne.symm de)
 refine ⟨⟨aO,bR⟩,?_⟩
 refine za2 ?_
 refine iQ _ _ ?_
 try clear iQ jA
 refine rg [0,1] ?_
 refine sv 39 (.int .i64 1) ?_
 refine sv 22 (.int .i64 1) ?_
 refine za0 ?_
 show Code.rounds _ _ _ _ _ _
 show Code.wp _ _ _ _ _
 refine wp_seq_k (fun jR iM=>?_)
 refine rg [0] ?_
 refine sv 23 (.bool true) ?_
 refine za0 ?_
 refine iM _ _ ?_
 try clear iM jR
 refine wp_seq_k (fun jo iL=>?_)
 refine wp_cond_true rfl ?_
 refine wp_skip ?_
 refine iL _ _ ?_
 try clear iL jo
 refine wp_seq_k (fun kH iT=>?_)
 refine wp_block ?_
 refine wp_seq_k (fun jL iK=>?_)
 refine rg [0,1,2] ?_
 refine sv 24 (.agg #[aF,aJ,az,aI]) ?_
 refine se ?_
 refine ea 33 #[.bool false,.slice none 0 0,.bool false,.slice none 0 0] 6 hB fun ht lz eS aM hn jS hB=>?_
 replace L2:=dX.lc ((d8.lc (dW.lc (L2.gr (bH.trans (eN.trans (el.trans (eu.trans (ew.trans (en.trans (eD.trans fm)))))))) fU) fM).gr (a8.trans (dH.trans er))) bv
 have f0:=L2.ne hn
 replace L3:=dX.lc ((d8.lc (dW.lc (L3.gr (bH.trans (eN.trans (el.trans (eu.trans (ew.trans (en.trans (eD.trans fm)))))))) fW) fZ).gr (a8.trans (dH.trans er))) bq
 have fK:=L3.ne hn
 have dd:=ab.ne hn
 have fg:=bR.ne hn
 replace et:=dX.lc (et.gr (a8.trans (dH.trans er))) (Ne.symm cQ)
 have eK:=et.ne hn
 simp only [p3,p4]
 refine se ?_
 refine es 33 0 (.agg #[aF,aJ,az,aI]) [aF,aJ,az,aI] #[aF,aJ,az,aI] aM hB jS ⟨aL.one0,aL.one1,aL.one2,aL.one3,trivial⟩ fun kn dC eG aM hB=>?_
 refine za0 ?_
 refine iK _ _ ?_
 try clear iK jL
 refine wp_seq_k (fun jT iY=>?_)
 have gW:=Below.size hB
 replace L2:=dC.lc (L2.gr eS) f0
 have dN:=L2.lt
 replace L3:=dC.lc (L3.gr eS) fK
 have d5:=L3.lt
 replace ab:=dC.lc (ab.gr eS) dd
 have da:=ab.lt
 replace bR:=dC.lc (bR.gr eS) fg
 have cP:=bR.lt
 replace et:=dC.lc (et.gr eS) eK
 have cT:=et.lt
 have cM:=aM.lt
 have bF:=Gr.drew kn
 replace hB:=hB.trans bF
 replace ab:=ab.gr bF
 replace aM:=aM.gr bF
 refine zc2 (fun w'=>Lc w' dI #[fC,ft] 31∧Lc w' ht #[aF,aJ,az,aI] 33) [(true,0),(true,1),(true,2),(false,3),(false,4),(false,5),(true,6),(true,7),(true,8),(true,9)] [⟨10,7,31,#[.bool false,.slice none 0 0]⟩,⟨11,8,31,#[.bool false,.slice none 0 0]⟩] [(false,12),(false,13),(true,14)] (by kernel_rfl) (by kernel_rfl) (by kernel_rfl) (by kernel_rfl) (by kernel_rfl) (by decide) (fun _ _ _ _ _ h=>h) (fun _ _ _ _ _ h=>h) (fun w' o h=>⟨Lc.gr h.1 (Gr.alloc w' o),Lc.gr h.2 (Gr.alloc w' o)⟩) ⟨ab,aM⟩ (by intro f hf;simp only [List.mem_cons,List.not_mem_nil,or_false] at hf;rcases hf with rfl | rfl<;>first | exact zc5 (z:=(.agg #[.bool false,.slice none 0 0])) (by kernel_rfl) rfl | exact zc5 (z:=(.agg #[.bool false,.slice none 0 0])) (by kernel_rfl) rfl) ?_
 refine fw 26 (.agg #[fC,ft]) rfl (fun w' hS=>(rl 31 0 [fC,ft] hS.1)) ?_
 refine fw 27 (.agg #[fC,ft]) rfl (fun w' hS=>(rl 31 0 [fC,ft] hS.1)) ?_
 refine fw 28 (.agg #[aF,aJ,az,aI]) rfl (fun w' hS=>(rl 33 0 [aF,aJ,az,aI] hS.2)) ?_
 refine zd0 rfl rfl (fun lk e2 _ kr i4=>?_)
 replace hB:=hB.trans e2
 have ia:=g6.kp.trans (g9.kp.trans (f5.kp.trans (fo.trans (fV.kp.trans (eY.trans (bH.kp.trans (eN.kp.trans (el.kp.trans (eu.kp.trans (ew.kp.trans (en.kp.trans (eD.kp.trans (fm.kp.trans (e8.trans (e7.trans (a8.kp.trans (dH.kp.trans (er.kp.trans (eH.trans (eS.kp.trans (eG.trans (bF.kp.trans e2.kp))))))))))))))))))))))
 replace aL:=aL.kp ia
 refine ec 29 (ze1 aL) ?_
 rintro lv k7 ⟨⟨lw,lb,rfl,hY⟩,eq⟩
 refine ⟨_,rfl,?_⟩
 replace hB:=hB.trans eq
 replace ab:=ab.gr (e2.trans eq)
 replace aM:=aM.gr (e2.trans eq)
 refine i4 _ _ eq ⟨ab,aM⟩ ?_
 try clear i4 kr
 simp only [p3,p4]
 refine zd0 rfl rfl (fun lu ek _ kc iO=>?_)
 replace hB:=hB.trans ek
 have hC:=eH.trans (eS.kp.trans (eG.trans (bF.kp.trans (e2.kp.trans (eq.kp.trans ek.kp)))))
 replace ey:=ey.kp hC
 replace hY:=hY.kp ek.kp
 refine ec 30 (zr6 ey hY (by omega)) ?_
 rintro lK kV ⟨⟨lL,lC,rfl,hE⟩,ei⟩
 refine ⟨_,rfl,?_⟩
 replace hB:=hB.trans ei
 replace ab:=ab.gr (ek.trans ei)
 replace aM:=aM.gr (ek.trans ei)
 refine iO _ _ ei ⟨ab,aM⟩ ?_
 try clear iO kc
 simp only [p3,p4]
 refine zd0 rfl rfl (fun lG em _ kL iW=>?_)
 replace hB:=hB.trans em
 have h7:=ei.kp.trans em.kp
 replace ey:=ey.kp h7
 replace hE:=hE.kp em.kp
 refine ec 31 (zg8 ey hE (zM8 _ _).1 (by omega)) ?_
 rintro lI lh ⟨⟨fy,fB,ed,dQ,rfl,gH,hm⟩,eT⟩
 refine ⟨_,rfl,?_⟩
 replace hB:=hB.trans eT
 replace ab:=ab.gr (em.trans eT)
 replace aM:=aM.gr (em.trans eT)
 refine iW _ _ eT ⟨ab,aM⟩ ?_
 try clear iW kL
 simp only [p3,p4]
 refine fv 25 (.tuple #[(.agg #[fy,fB]),(.agg #[ed,dQ]),.int .i64 0]) ?_
 refine fv 32 (.agg #[fy,fB]) ?_
 refine fv 33 (.agg #[ed,dQ]) ?_
 refine fv 34 (.int .i64 0) ?_
 refine zl3 (fun iJ fc _=>?_)
 replace hB:=hB.trans fc
 refine zH6 (fun ej e4 (bQ:Lc iJ ej #[.bool false,.slice none 0 0] 31) q74 (ex:Lc iJ e4 #[.bool false,.slice none 0 0] 31) q75 ne74_75=>?_)
 have fT:b2≠ej:=Nat.ne_of_lt (Nat.lt_of_lt_of_le dN q74)
 have fI:b3≠ej:=Nat.ne_of_lt (Nat.lt_of_lt_of_le d5 q74)
 have cU:dI≠ej:=Nat.ne_of_lt (Nat.lt_of_lt_of_le da q74)
 have hp:fz≠ej:=Nat.ne_of_lt (Nat.lt_of_lt_of_le cP q74)
 have hv:fH≠ej:=Nat.ne_of_lt (Nat.lt_of_lt_of_le cT q74)
 have fb:ht≠ej:=Nat.ne_of_lt (Nat.lt_of_lt_of_le cM q74)
 replace q74:=Nat.le_trans gW q74
 have fP:b2≠e4:=Nat.ne_of_lt (Nat.lt_of_lt_of_le dN q75)
 have fX:b3≠e4:=Nat.ne_of_lt (Nat.lt_of_lt_of_le d5 q75)
 have di:dI≠e4:=Nat.ne_of_lt (Nat.lt_of_lt_of_le da q75)
 have hu:fz≠e4:=Nat.ne_of_lt (Nat.lt_of_lt_of_le cP q75)
 have hr:fH≠e4:=Nat.ne_of_lt (Nat.lt_of_lt_of_le cT q75)
 have eB:ht≠e4:=Nat.ne_of_lt (Nat.lt_of_lt_of_le cM q75)
 replace q75:=Nat.le_trans gW q75
 simp only [zn2,p3,p4]
 refine oe ?_
 refine es 31 0 (.agg #[fy,fB]) [fy,fB] #[fy,fB] bQ hB q74 ⟨gH.one0,gH.one1,trivial⟩ fun lq dK eQ bQ hB=>?_
 replace ab:=dK.lc (ab.gr fc) cU
 replace aM:=dK.lc (aM.gr fc) fb
 refine ⟨⟨ab,aM⟩,?_⟩
 refine oe ?_
 replace ex:=dK.lc ex (Ne.symm ne74_75)
 refine es 31 0 (.agg #[ed,dQ]) [ed,dQ] #[ed,dQ] ex hB q75 ⟨hm.one0,hm.one1,trivial⟩ fun jh eh eR ex hB=>?_
 replace ab:=eh.lc ab di
 replace aM:=eh.lc aM eB
 refine ⟨⟨ab,aM⟩,?_⟩
 refine ov 9 (.int .i64 0) ?_
 refine za2 ?_
 refine iY _ _ ?_
 try clear iY jT
 have a5:=Gr.drew jh
 replace hB:=hB.trans a5
 replace aM:=aM.gr a5
 replace bQ:=(eh.lc bQ ne74_75).gr a5
 refine za1 (fun w'=>Lc w' ht #[aF,aJ,az,aI] 33∧Lc w' ej #[fy,fB] 31) [(true,0),(true,1),(false,2),(false,3),(false,4)] (by kernel_rfl) (by kernel_rfl) (by kernel_rfl) (by decide) (fun _ _ _ _ _ h=>h) ⟨aM,bQ⟩ ?_
 refine ow 35 (.agg #[fy,fB]) rfl (fun w' hS=>(rl 31 0 [fy,fB] hS.2)) ?_
 refine ow 36 (.agg #[aF,aJ,az,aI]) rfl (fun w' hS=>(rl 33 0 [aF,aJ,az,aI] hS.1)) ?_
 refine oe ?_
 have h0:=eq.kp.trans (ek.kp.trans (ei.kp.trans (em.kp.trans (eT.kp.trans (fc.kp.trans (eQ.trans (eR.trans a5.kp)))))))
 replace aL:=aL.kp h0
 refine ec 37 (ze1 aL) ?_
 rintro k0 lr ⟨⟨k2,kZ,rfl,jM⟩,dM⟩
 refine ⟨_,rfl,?_⟩
 replace hB:=hB.trans dM
 replace aM:=aM.gr dM
 replace bQ:=bQ.gr dM
 refine ⟨⟨aM,bQ⟩,?_⟩
 simp only [p3,p4]
 refine oe ?_
 have iC:=fc.kp.trans (eQ.trans (eR.trans (a5.kp.trans dM.kp)))
 replace gH:=gH.kp iC
 refine ec 38 (zf9 gH jM (by omega)) ?_
 rintro lE lD ⟨⟨fq,fx,rfl,eo⟩,ep⟩
 refine ⟨_,rfl,?_⟩
 replace hB:=hB.trans ep
 replace eo:=(show IsInt _ _ _ _ (zR6 (zR6 (1) (a1.den:Int)) (a2.den:Int)) from eo)
 replace aM:=aM.gr ep
 replace bQ:=bQ.gr ep
 refine ⟨⟨aM,bQ⟩,?_⟩
 simp only [p3,p4]
 refine oe ?_
 replace ab:=ab.gr (a5.trans (dM.trans ep))
 refine es 31 0 (.agg #[fq,fx]) [fq,fx] #[fq,fx] ab hB hq ⟨eo.one0,eo.one1,trivial⟩ fun ln dE fi ab hB=>?_
 replace aM:=dE.lc aM (Ne.symm dd)
 replace bQ:=dE.lc bQ (Ne.symm cU)
 refine ⟨⟨aM,bQ⟩,?_⟩
 refine za2 ?_
 refine iT _ _ ?_
 try clear iT kH
 refine rg [0,1] ?_
 refine sv 39 (.int .i64 2) ?_
 refine sv 22 (.int .i64 2) ?_
 refine za0 ?_
 show Code.rounds _ _ _ _ _ _
 show Code.wp _ _ _ _ _
 refine wp_seq_k (fun jy iU=>?_)
 refine rg [0] ?_
 refine sv 23 (.bool true) ?_
 refine za0 ?_
 refine iU _ _ ?_
 try clear iU jy
 refine wp_seq_k (fun jV iN=>?_)
 refine wp_cond_true rfl ?_
 refine wp_skip ?_
 refine iN _ _ ?_
 try clear iN jV
 refine wp_seq_k (fun hK f9=>?_)
 refine wp_block ?_
 refine wp_seq_k (fun ie gS=>?_)
 refine rg [0,1,2] ?_
 refine sv 24 (.agg #[ay,aA,aG,aC]) ?_
 refine se ?_
 refine ea 33 #[.bool false,.slice none 0 0,.bool false,.slice none 0 0] 6 hB fun eF kM bL ae d9 hI hB=>?_
 replace L2:=dE.lc ((eh.lc (dK.lc (L2.gr (bF.trans (e2.trans (eq.trans (ek.trans (ei.trans (em.trans (eT.trans fc)))))))) fT) fP).gr (a5.trans (dM.trans ep))) bv
 have ff:=L2.ne d9
 replace L3:=dE.lc ((eh.lc (dK.lc (L3.gr (bF.trans (e2.trans (eq.trans (ek.trans (ei.trans (em.trans (eT.trans fc)))))))) fI) fX).gr (a5.trans (dM.trans ep))) bq
 have eX:=L3.ne d9
 have bZ:=ab.ne d9
 have dY:=bQ.ne d9
 replace ex:=dE.lc (ex.gr (a5.trans (dM.trans ep))) (Ne.symm di)
 have d1:=ex.ne d9
 simp only [p3,p4]
 refine se ?_
 refine es 33 0 (.agg #[ay,aA,aG,aC]) [ay,aA,aG,aC] #[ay,aA,aG,aC] ae hB hI ⟨aN.one0,aN.one1,aN.one2,aN.one3,trivial⟩ fun h6 b8 cR ae hB=>?_
 refine za0 ?_
 refine gS _ _ ?_
 try clear gS ie
 refine wp_seq_k (fun hL gT=>?_)
 have fE:=Below.size hB
 replace L2:=b8.lc (L2.gr bL) ff
 have cW:=L2.lt
 replace L3:=b8.lc (L3.gr bL) eX
 have cX:=L3.lt
 replace ab:=b8.lc (ab.gr bL) bZ
 have cj:=ab.lt
 replace bQ:=b8.lc (bQ.gr bL) dY
 have ce:=bQ.lt
 replace ex:=b8.lc (ex.gr bL) d1
 have cl:=ex.lt
 have bi:=ae.lt
 have aR:=Gr.drew h6
 replace hB:=hB.trans aR
 replace ab:=ab.gr aR
 replace ae:=ae.gr aR
 refine zc2 (fun w'=>Lc w' dI #[fq,fx] 31∧Lc w' eF #[ay,aA,aG,aC] 33) [(true,0),(true,1),(true,2),(false,3),(false,4),(false,5),(true,6),(true,7),(true,8),(true,9)] [⟨10,7,31,#[.bool false,.slice none 0 0]⟩,⟨11,8,31,#[.bool false,.slice none 0 0]⟩] [(false,12),(false,13),(true,14)] (by kernel_rfl) (by kernel_rfl) (by kernel_rfl) (by kernel_rfl) (by kernel_rfl) (by decide) (fun _ _ _ _ _ h=>h) (fun _ _ _ _ _ h=>h) (fun w' o h=>⟨Lc.gr h.1 (Gr.alloc w' o),Lc.gr h.2 (Gr.alloc w' o)⟩) ⟨ab,ae⟩ (by intro f hf;simp only [List.mem_cons,List.not_mem_nil,or_false] at hf;rcases hf with rfl | rfl<;>first | exact zc5 (z:=(.agg #[.bool false,.slice none 0 0])) (by kernel_rfl) rfl | exact zc5 (z:=(.agg #[.bool false,.slice none 0 0])) (by kernel_rfl) rfl) ?_
 refine fw 26 (.agg #[fq,fx]) rfl (fun w' hS=>(rl 31 0 [fq,fx] hS.1)) ?_
 refine fw 27 (.agg #[fq,fx]) rfl (fun w' hS=>(rl 31 0 [fq,fx] hS.1)) ?_
 refine fw 28 (.agg #[ay,aA,aG,aC]) rfl (fun w' hS=>(rl 33 0 [ay,aA,aG,aC] hS.2)) ?_
 refine zd0 rfl rfl (fun ke bA _ iy gn=>?_)
 replace hB:=hB.trans bA
 have hj:=g6.kp.trans (g9.kp.trans (f5.kp.trans (fo.trans (fV.kp.trans (eY.trans (bH.kp.trans (eN.kp.trans (el.kp.trans (eu.kp.trans (ew.kp.trans (en.kp.trans (eD.kp.trans (fm.kp.trans (e8.trans (e7.trans (a8.kp.trans (dH.kp.trans (er.kp.trans (eH.trans (eS.kp.trans (eG.trans (bF.kp.trans (e2.kp.trans (eq.kp.trans (ek.kp.trans (ei.kp.trans (em.kp.trans (eT.kp.trans (fc.kp.trans (eQ.trans (eR.trans (a5.kp.trans (dM.kp.trans (ep.kp.trans (fi.trans (bL.kp.trans (cR.trans (aR.kp.trans bA.kp))))))))))))))))))))))))))))))))))))))
 replace aN:=aN.kp hj
 refine ec 29 (ze1 aN) ?_
 rintro kj j8 ⟨⟨kw,jl,rfl,fF⟩,ba⟩
 refine ⟨_,rfl,?_⟩
 replace hB:=hB.trans ba
 replace ab:=ab.gr (bA.trans ba)
 replace ae:=ae.gr (bA.trans ba)
 refine gn _ _ ba ⟨ab,ae⟩ ?_
 try clear gn iy
 simp only [p3,p4]
 refine zd0 rfl rfl (fun ju bf _ iw hb=>?_)
 replace hB:=hB.trans bf
 have gz:=fi.trans (bL.kp.trans (cR.trans (aR.kp.trans (bA.kp.trans (ba.kp.trans bf.kp)))))
 replace eo:=eo.kp gz
 replace fF:=fF.kp bf.kp
 refine ec 30 (zr6 eo fF (by omega)) ?_
 rintro jx kA ⟨⟨jH,jW,rfl,fJ⟩,bb⟩
 refine ⟨_,rfl,?_⟩
 replace hB:=hB.trans bb
 replace ab:=ab.gr (bf.trans bb)
 replace ae:=ae.gr (bf.trans bb)
 refine hb _ _ bb ⟨ab,ae⟩ ?_
 try clear hb iw
 simp only [p3,p4]
 refine zd0 rfl rfl (fun ko bd _ ij gA=>?_)
 replace hB:=hB.trans bd
 have f7:=bb.kp.trans bd.kp
 replace eo:=eo.kp f7
 replace fJ:=fJ.kp bd.kp
 refine ec 31 (zg8 eo fJ (zM8 _ _).1 (by omega)) ?_
 rintro ka jD ⟨⟨cd,bX,bW,bT,rfl,dJ,fD⟩,bO⟩
 refine ⟨_,rfl,?_⟩
 replace hB:=hB.trans bO
 replace ab:=ab.gr (bd.trans bO)
 replace ae:=ae.gr (bd.trans bO)
 refine gA _ _ bO ⟨ab,ae⟩ ?_
 try clear gA ij
 simp only [p3,p4]
 refine fv 25 (.tuple #[(.agg #[cd,bX]),(.agg #[bW,bT]),.int .i64 0]) ?_
 refine fv 32 (.agg #[cd,bX]) ?_
 refine fv 33 (.agg #[bW,bT]) ?_
 refine fv 34 (.int .i64 0) ?_
 refine zl3 (fun gj bG _=>?_)
 replace hB:=hB.trans bG
 refine zH6 (fun bV cD (aT:Lc gj bV #[.bool false,.slice none 0 0] 31) q116 (eM:Lc gj cD #[.bool false,.slice none 0 0] 31) q117 ne116_117=>?_)
 have e0:b2≠bV:=Nat.ne_of_lt (Nat.lt_of_lt_of_le cW q116)
 have eE:b3≠bV:=Nat.ne_of_lt (Nat.lt_of_lt_of_le cX q116)
 have ck:dI≠bV:=Nat.ne_of_lt (Nat.lt_of_lt_of_le cj q116)
 have gy:ej≠bV:=Nat.ne_of_lt (Nat.lt_of_lt_of_le ce q116)
 have gt:e4≠bV:=Nat.ne_of_lt (Nat.lt_of_lt_of_le cl q116)
 have dq:eF≠bV:=Nat.ne_of_lt (Nat.lt_of_lt_of_le bi q116)
 replace q116:=Nat.le_trans fE q116
 have fp:b2≠cD:=Nat.ne_of_lt (Nat.lt_of_lt_of_le cW q117)
 have fk:b3≠cD:=Nat.ne_of_lt (Nat.lt_of_lt_of_le cX q117)
 have ee:dI≠cD:=Nat.ne_of_lt (Nat.lt_of_lt_of_le cj q117)
 have gf:ej≠cD:=Nat.ne_of_lt (Nat.lt_of_lt_of_le ce q117)
 have gc:e4≠cD:=Nat.ne_of_lt (Nat.lt_of_lt_of_le cl q117)
 have dv:eF≠cD:=Nat.ne_of_lt (Nat.lt_of_lt_of_le bi q117)
 replace q117:=Nat.le_trans fE q117
 simp only [zn2,p3,p4]
 refine oe ?_
 refine es 31 0 (.agg #[cd,bX]) [cd,bX] #[cd,bX] aT hB q116 ⟨dJ.one0,dJ.one1,trivial⟩ fun jP bY dj aT hB=>?_
 replace ab:=bY.lc (ab.gr bG) ck
 replace ae:=bY.lc (ae.gr bG) dq
 refine ⟨⟨ab,ae⟩,?_⟩
 refine oe ?_
 replace eM:=bY.lc eM (Ne.symm ne116_117)
 refine es 31 0 (.agg #[bW,bT]) [bW,bT] #[bW,bT] eM hB q117 ⟨fD.one0,fD.one1,trivial⟩ fun iH b4 cL eM hB=>?_
 replace ab:=b4.lc ab ee
 replace ae:=b4.lc ae dv
 refine ⟨⟨ab,ae⟩,?_⟩
 refine ov 9 (.int .i64 0) ?_
 refine za2 ?_
 refine gT _ _ ?_
 try clear gT hL
 have aP:=Gr.drew iH
 replace hB:=hB.trans aP
 replace ae:=ae.gr aP
 replace aT:=(b4.lc aT ne116_117).gr aP
 refine za1 (fun w'=>Lc w' eF #[ay,aA,aG,aC] 33∧Lc w' bV #[cd,bX] 31) [(true,0),(true,1),(false,2),(false,3),(false,4)] (by kernel_rfl) (by kernel_rfl) (by kernel_rfl) (by decide) (fun _ _ _ _ _ h=>h) ⟨ae,aT⟩ ?_
 refine ow 35 (.agg #[cd,bX]) rfl (fun w' hS=>(rl 31 0 [cd,bX] hS.2)) ?_
 refine ow 36 (.agg #[ay,aA,aG,aC]) rfl (fun w' hS=>(rl 33 0 [ay,aA,aG,aC] hS.1)) ?_
 refine oe ?_
 have gX:=ba.kp.trans (bf.kp.trans (bb.kp.trans (bd.kp.trans (bO.kp.trans (bG.kp.trans (dj.trans (cL.trans aP.kp)))))))
 replace aN:=aN.kp gX
 refine ec 37 (ze1 aN) ?_
 rintro jb jv ⟨⟨jJ,jw,rfl,hW⟩,bc⟩
 refine ⟨_,rfl,?_⟩
 replace hB:=hB.trans bc
 replace ae:=ae.gr bc
 replace aT:=aT.gr bc
 refine ⟨⟨ae,aT⟩,?_⟩
 simp only [p3,p4]
 refine oe ?_
 have ga:=bG.kp.trans (dj.trans (cL.trans (aP.kp.trans bc.kp)))
 replace dJ:=dJ.kp ga
 refine ec 38 (zf9 dJ hW (by omega)) ?_
 rintro kF kl ⟨⟨du,dt,rfl,cB⟩,bN⟩
 refine ⟨_,rfl,?_⟩
 replace hB:=hB.trans bN
 replace cB:=(show IsInt _ _ _ _ (pden a1 a2 a3) from cB)
 replace ae:=ae.gr bN
 replace aT:=aT.gr bN
 refine ⟨⟨ae,aT⟩,?_⟩
 simp only [p3,p4]
 refine oe ?_
 replace ab:=ab.gr (aP.trans (bc.trans bN))
 refine es 31 0 (.agg #[du,dt]) [du,dt] #[du,dt] ab hB hq ⟨cB.one0,cB.one1,trivial⟩ fun ik cO cY ab hB=>?_
 replace ae:=cO.lc ae (Ne.symm bZ)
 replace aT:=cO.lc aT (Ne.symm ck)
 refine ⟨⟨ae,aT⟩,?_⟩
 refine za2 ?_
 refine f9 _ _ ?_
 try clear f9 hK
 refine rg [0,1] ?_
 refine sv 39 (.int .i64 3) ?_
 refine sv 22 (.int .i64 3) ?_
 refine za0 ?_
 show Code.rounds _ _ _ _ _ _
 show Code.wp _ _ _ _ _
 refine wp_seq_k (fun hN gQ=>?_)
 refine rg [0] ?_
 refine sv 23 (.bool false) ?_
 refine za0 ?_
 refine gQ _ _ ?_
 try clear gQ hN
 refine wp_seq_k (fun kI jt=>?_)
 refine wp_cond_false rfl ?_
 refine wp_exit ?_
 simp only [Exit.then,Exit.inBlock,↓reduceIte]
 refine k12 _ _ ?_
 try clear k12 jI
 refine wp_seq_k (fun im ha=>?_)
 have gR:=Below.size hB
 replace L2:=cO.lc ((b4.lc (bY.lc (L2.gr (aR.trans (bA.trans (ba.trans (bf.trans (bb.trans (bd.trans (bO.trans bG)))))))) e0) fp).gr (aP.trans (bc.trans bN))) bv
 have eU:=L2.lt
 replace L3:=cO.lc ((b4.lc (bY.lc (L3.gr (aR.trans (bA.trans (ba.trans (bf.trans (bb.trans (bd.trans (bO.trans bG)))))))) eE) fk).gr (aP.trans (bc.trans bN))) bq
 have ez:=L3.lt
 have d7:=ab.lt
 have aX:=Gr.drew ik
 replace hB:=hB.trans aX
 replace ab:=ab.gr aX
 refine zc2 (fun w'=>Lc w' dI #[du,dt] 31) [(true,0),(false,1),(false,2),(true,3),(true,4),(true,5)] [⟨6,10,33,#[.bool false,.slice none 0 0,.bool false,.slice none 0 0]⟩] [(false,7),(true,8)] (by kernel_rfl) (by kernel_rfl) (by kernel_rfl) (by kernel_rfl) (by kernel_rfl) (by decide) (fun _ _ _ _ _ h=>h) (fun _ _ _ _ _ h=>h) (fun w' o h=>Lc.gr h (Gr.alloc w' o)) ab (by intro f hf;simp only [List.mem_cons,List.not_mem_nil,or_false] at hf;rcases hf with rfl<;>first | exact zc5 (z:=(.agg #[.bool false,.slice none 0 0,.bool false,.slice none 0 0])) (by kernel_rfl) rfl) ?_
 refine fw 41 (.agg #[du,dt]) rfl (fun w' hS=>(rl 31 0 [du,dt] hS)) ?_
 refine zd0 rfl rfl (fun kE b9 _ iF gO=>?_)
 replace hB:=hB.trans b9
 refine ec 42 (zt3 (1) (by omega) (by omega) _) ?_
 rintro j3 j0 ⟨⟨kv,j6,rfl,fS⟩,bK⟩
 refine ⟨_,rfl,?_⟩
 replace hB:=hB.trans bK
 replace ab:=ab.gr (b9.trans bK)
 refine gO _ _ bK ab ?_
 try clear gO iF
 simp only [p3,p4]
 refine zd0 rfl rfl (fun jd bw _ hT gP=>?_)
 replace hB:=hB.trans bw
 have g5:=cY.trans (aX.kp.trans (b9.kp.trans (bK.kp.trans bw.kp)))
 replace cB:=cB.kp g5
 replace fS:=fS.kp bw.kp
 refine ec 43 (make_r (64+k+k+k) cB fS (by omega) (by omega) (by omega) (by omega) (by omega)) ?_
 rintro ji jZ ⟨⟨cq,cE,cu,cK,rfl,cC⟩,bU⟩
 refine ⟨_,rfl,?_⟩
 replace hB:=hB.trans bU
 replace ab:=ab.gr (bw.trans bU)
 refine gP _ _ bU ab ?_
 try clear gP hT
 simp only [p3,p4]
 refine fv 40 (.tuple #[(.agg #[cq,cE,cu,cK]),.int .i64 0]) ?_
 refine fv 44 (.agg #[cq,cE,cu,cK]) ?_
 refine fv 45 (.int .i64 0) ?_
 refine zl3 (fun iE b6 _=>?_)
 replace hB:=hB.trans b6
 refine zA3 (fun fh (f3:Lc iE fh #[.bool false,.slice none 0 0,.bool false,.slice none 0 0] 33) q150=>?_)
 have eO:b2≠fh:=Nat.ne_of_lt (Nat.lt_of_lt_of_le eU q150)
 have fe:b3≠fh:=Nat.ne_of_lt (Nat.lt_of_lt_of_le ez q150)
 have dU:dI≠fh:=Nat.ne_of_lt (Nat.lt_of_lt_of_le d7 q150)
 replace q150:=Nat.le_trans gR q150
 simp only [zn2,p3,p4]
 refine oe ?_
 refine es 33 0 (.agg #[cq,cE,cu,cK]) [cq,cE,cu,cK] #[cq,cE,cu,cK] f3 hB q150 ⟨cC.one0,cC.one1,cC.one2,cC.one3,trivial⟩ fun j7 ef df f3 hB=>?_
 replace ab:=ef.lc (ab.gr b6) dU
 refine ⟨ab,?_⟩
 refine ov 11 (.int .i64 0) ?_
 refine za2 ?_
 refine ha _ _ ?_
 try clear ha im
 refine wp_seq_k (fun ii gl=>?_)
 refine rg [0,1,2,3] ?_
 replace L2:=ef.lc (L2.gr (aX.trans (b9.trans (bK.trans (bw.trans (bU.trans b6)))))) eO
 refine sw 46 (.agg #[aB,aH,aE,aD,aF,aJ,az,aI,ay,aA,aG,aC]) rfl (rl 35 0 [aB,aH,aE,aD,aF,aJ,az,aI,ay,aA,aG,aC] L2) ?_
 refine sw 47 (.agg #[cq,cE,cu,cK]) rfl (rl 33 0 [cq,cE,cu,cK] f3) ?_
 refine se ?_
 have gB:=dH.kp.trans (er.kp.trans (eH.trans (eS.kp.trans (eG.trans (bF.kp.trans (e2.kp.trans (eq.kp.trans (ek.kp.trans (ei.kp.trans (em.kp.trans (eT.kp.trans (fc.kp.trans (eQ.trans (eR.trans (a5.kp.trans (dM.kp.trans (ep.kp.trans (fi.trans (bL.kp.trans (cR.trans (aR.kp.trans (bA.kp.trans (ba.kp.trans (bf.kp.trans (bb.kp.trans (bd.kp.trans (bO.kp.trans (bG.kp.trans (dj.trans (cL.trans (aP.kp.trans (bc.kp.trans (bN.kp.trans (cY.trans (aX.kp.trans (b9.kp.trans (bK.kp.trans (bw.kp.trans (bU.kp.trans (b6.kp.trans df))))))))))))))))))))))))))))))))))))))))
 replace aK:=aK.kp gB
 have gL:=dM.kp.trans (ep.kp.trans (fi.trans (bL.kp.trans (cR.trans (aR.kp.trans (bA.kp.trans (ba.kp.trans (bf.kp.trans (bb.kp.trans (bd.kp.trans (bO.kp.trans (bG.kp.trans (dj.trans (cL.trans (aP.kp.trans (bc.kp.trans (bN.kp.trans (cY.trans (aX.kp.trans (b9.kp.trans (bK.kp.trans (bw.kp.trans (bU.kp.trans (b6.kp.trans df))))))))))))))))))))))))
 replace aL:=aL.kp gL
 have gu:=bc.kp.trans (bN.kp.trans (cY.trans (aX.kp.trans (b9.kp.trans (bK.kp.trans (bw.kp.trans (bU.kp.trans (b6.kp.trans df))))))))
 replace aN:=aN.kp gu
 have gN:=b6.kp.trans df
 replace cC:=cC.kp gN
 refine ec 48 (zz6 aK aL aN cC (by omega)) ?_
 rintro js kC ⟨⟨ai,au,ar,ap,af,ak,aj,ah,aq,al,ad,ac,rfl,ax,av,aw⟩,fQ⟩
 refine ⟨_,rfl,?_⟩
 replace hB:=hB.trans fQ
 simp only [p3,p4]
 refine se ?_
 replace L2:=L2.gr fQ
 refine es 35 0 (.agg #[ai,au,ar,ap,af,ak,aj,ah,aq,al,ad,ac]) [ai,au,ar,ap,af,ak,aj,ah,aq,al,ad,ac] #[ai,au,ar,ap,af,ak,aj,ah,aq,al,ad,ac] L2 hB q2 ⟨ax.one0,ax.one1,ax.one2,ax.one3,av.one0,av.one1,av.one2,av.one3,aw.one0,aw.one1,aw.one2,aw.one3,trivial⟩ fun kG hd dS L2 hB=>?_
 refine za0 ?_
 refine gl _ _ ?_
 try clear gl ii
 refine wp_seq_k (fun ig gm=>?_)
 refine rg [0] ?_
 refine se ?_
 refine ea 31 #[.bool false,.slice none 0 0] 12 hB fun dL jq dZ aa gp fO hB=>?_
 have bM:=L2.ne gp
 replace L3:=hd.lc ((ef.lc (L3.gr (aX.trans (b9.trans (bK.trans (bw.trans (bU.trans b6)))))) fe).gr fQ) (Ne.symm gh)
 have bE:=L3.ne gp
 simp only [p3,p4]
 refine za0 ?_
 refine gm _ _ ?_
 try clear gm ig
 refine wp_seq_k (fun iA gU=>?_)
 refine wp_seq_k (fun hz gD=>?_)
 refine rg [0,1] ?_
 replace L2:=L2.gr dZ
 refine sw 49 (.agg #[ai,au,ar,ap,af,ak,aj,ah,aq,al,ad,ac]) rfl (rl 35 0 [ai,au,ar,ap,af,ak,aj,ah,aq,al,ad,ac] L2) ?_
 refine sv 50 (.int .i64 0) ?_
 refine za0 ?_
 refine gD _ _ ?_
 try clear gD hz
 refine wp_block ?_
 refine wp_loop_rounds 4 ?_
 show Code.wp _ _ _ _ _
 refine wp_seq_k (fun h1 hc=>?_)
 refine rg [0] ?_
 refine sv 51 (.bool true) ?_
 refine za0 ?_
 refine hc _ _ ?_
 try clear hc h1
 refine wp_seq_k (fun hF hk=>?_)
 refine wp_cond_true rfl ?_
 refine wp_skip ?_
 refine hk _ _ ?_
 try clear hk hF
 refine wp_seq_k (fun hR gV=>?_)
 refine wp_block ?_
 refine wp_seq_k (fun hX hg=>?_)
 refine rg [0,1,2] ?_
 refine sv 52 (.agg #[ai,au,ar,ap]) ?_
 refine se ?_
 refine ea 33 #[.bool false,.slice none 0 0,.bool false,.slice none 0 0] 14 hB fun hy jp dn aQ f1 hU hB=>?_
 have eI:=L2.ne f1
 replace L3:=L3.gr dZ
 have eW:=L3.ne f1
 have bj:=aa.ne f1
 simp only [p3,p4]
 refine se ?_
 refine es 33 0 (.agg #[ai,au,ar,ap]) [ai,au,ar,ap] #[ai,au,ar,ap] aQ hB hU ⟨ax.one0,ax.one1,ax.one2,ax.one3,trivial⟩ fun iD dR dO aQ hB=>?_
 refine za0 ?_
 refine hg _ _ ?_
 try clear hg hX
 have aY:=Gr.drew iD
 replace hB:=hB.trans aY
 replace aQ:=aQ.gr aY
 replace aa:=(dR.lc (aa.gr dn) bj).gr aY
 refine zb7 (fun w'=>Lc w' hy #[ai,au,ar,ap] 33) [([4],(fun w'=>Lc w' dL #[.bool false,.slice none 0 0] 31))] [(true,0),(true,1),(false,2),(false,3),(false,4)] (by kernel_rfl) (by kernel_rfl) (by kernel_rfl) (by decide) (fun _ _ _ _ _ h=>h) aQ ⟨fun _=>aa,trivial⟩ ?_
 refine tw 53 (.agg #[.bool false,.slice none 0 0]) rfl (fun w' hS=>(rl 31 0 [.bool false,.slice none 0 0] (hS.2.1 (by kernel_rfl)))) ?_
 refine tw 54 (.agg #[ai,au,ar,ap]) rfl (fun w' hS=>(rl 33 0 [ai,au,ar,ap] hS.1)) ?_
 refine te ?_
 have gq:=dS.trans (dZ.kp.trans (dn.kp.trans (dO.trans aY.kp)))
 replace ax:=ax.kp gq
 refine ec 55 (num_r ax) ?_
 rintro kS jg ⟨⟨jn,ku,rfl,iu⟩,b5⟩
 refine ⟨_,rfl,?_⟩
 replace hB:=hB.trans b5
 replace aQ:=aQ.gr b5
 replace aa:=aa.gr b5
 refine ⟨aQ,⟨fun _=>aa,trivial⟩,?_⟩
 simp only [p3,p4]
 refine te ?_
 refine ec 56 (zr6 (IsInt.zero _ 64) iu (by omega)) ?_
 rintro je jX ⟨⟨dA,dl,rfl,cF⟩,bS⟩
 refine ⟨_,rfl,?_⟩
 replace hB:=hB.trans bS
 replace cF:=(show IsInt _ _ _ _ ((Int.gcd (0) (Rat.divInt (pden a1 a2 a3) 1*a1).num:Int)) from cF)
 replace aQ:=aQ.gr bS
 replace aa:=aa.gr bS
 refine ⟨aQ,⟨fun _=>aa,trivial⟩,?_⟩
 simp only [p3,p4]
 refine te ?_
 refine es 31 0 (.agg #[dA,dl]) [dA,dl] #[dA,dl] aa hB fO ⟨cF.one0,cF.one1,trivial⟩ fun jc d4 dh aa hB=>?_
 replace aQ:=d4.lc aQ (Ne.symm bj)
 refine ⟨aQ,⟨zh3 (by kernel_rfl),trivial⟩,?_⟩
 refine zi1 ?_
 refine gV _ _ ?_
 try clear gV hR
 refine rg [0,1] ?_
 refine sv 57 (.int .i64 1) ?_
 refine sv 50 (.int .i64 1) ?_
 refine za0 ?_
 show Code.rounds _ _ _ _ _ _
 show Code.wp _ _ _ _ _
 refine wp_seq_k (fun iI gv=>?_)
 refine rg [0] ?_
 refine sv 51 (.bool true) ?_
 refine za0 ?_
 refine gv _ _ ?_
 try clear gv iI
 refine wp_seq_k (fun hJ hh=>?_)
 refine wp_cond_true rfl ?_
 refine wp_skip ?_
 refine hh _ _ ?_
 try clear hh hJ
 refine wp_seq_k (fun hM gE=>?_)
 refine wp_block ?_
 refine wp_seq_k (fun hP gJ=>?_)
 refine rg [0,1,2] ?_
 refine sv 52 (.agg #[af,ak,aj,ah]) ?_
 refine se ?_
 refine ea 33 #[.bool false,.slice none 0 0,.bool false,.slice none 0 0] 14 hB fun iq j1 cy aW f2 hH hB=>?_
 replace L2:=d4.lc ((dR.lc (L2.gr dn) eI).gr (aY.trans (b5.trans bS))) bM
 have eC:=L2.ne f2
 replace L3:=d4.lc ((dR.lc (L3.gr dn) eW).gr (aY.trans (b5.trans bS))) bE
 have eA:=L3.ne f2
 have bh:=aa.ne f2
 simp only [p3,p4]
 refine se ?_
 refine es 33 0 (.agg #[af,ak,aj,ah]) [af,ak,aj,ah] #[af,ak,aj,ah] aW hB hH ⟨av.one0,av.one1,av.one2,av.one3,trivial⟩ fun h3 dT dc aW hB=>?_
 refine za0 ?_
 refine gJ _ _ ?_
 try clear gJ hP
 have aU:=Gr.drew h3
 replace hB:=hB.trans aU
 replace aW:=aW.gr aU
 replace aa:=(dT.lc (aa.gr cy) bh).gr aU
 refine zb7 (fun w'=>Lc w' iq #[af,ak,aj,ah] 33) [([4],(fun w'=>Lc w' dL #[dA,dl] 31))] [(true,0),(true,1),(false,2),(false,3),(false,4)] (by kernel_rfl) (by kernel_rfl) (by kernel_rfl) (by decide) (fun _ _ _ _ _ h=>h) aW ⟨fun _=>aa,trivial⟩ ?_
 refine tw 53 (.agg #[dA,dl]) rfl (fun w' hS=>(rl 31 0 [dA,dl] (hS.2.1 (by kernel_rfl)))) ?_
 refine tw 54 (.agg #[af,ak,aj,ah]) rfl (fun w' hS=>(rl 33 0 [af,ak,aj,ah] hS.1)) ?_
 refine te ?_
 have gZ:=dS.trans (dZ.kp.trans (dn.kp.trans (dO.trans (aY.kp.trans (b5.kp.trans (bS.kp.trans (dh.trans (cy.kp.trans (dc.trans aU.kp)))))))))
 replace av:=av.kp gZ
 refine ec 55 (num_r av) ?_
 rintro kR jN ⟨⟨kT,kf,rfl,iB⟩,bJ⟩
 refine ⟨_,rfl,?_⟩
 replace hB:=hB.trans bJ
 replace aW:=aW.gr bJ
 replace aa:=aa.gr bJ
 refine ⟨aW,⟨fun _=>aa,trivial⟩,?_⟩
 simp only [p3,p4]
 refine te ?_
 have gK:=dh.trans (cy.kp.trans (dc.trans (aU.kp.trans bJ.kp)))
 replace cF:=cF.kp gK
 refine ec 56 (zr6 cF iB (by omega)) ?_
 rintro jm kN ⟨⟨dw,dB,rfl,cJ⟩,ca⟩
 refine ⟨_,rfl,?_⟩
 replace hB:=hB.trans ca
 replace cJ:=(show IsInt _ _ _ _ ((Int.gcd ((Int.gcd (0) (Rat.divInt (pden a1 a2 a3) 1*a1).num:Int)) (Rat.divInt (pden a1 a2 a3) 1*a2).num:Int)) from cJ)
 replace aW:=aW.gr ca
 replace aa:=aa.gr ca
 refine ⟨aW,⟨fun _=>aa,trivial⟩,?_⟩
 simp only [p3,p4]
 refine te ?_
 refine es 31 0 (.agg #[dw,dB]) [dw,dB] #[dw,dB] aa hB fO ⟨cJ.one0,cJ.one1,trivial⟩ fun jQ dF dk aa hB=>?_
 replace aW:=dF.lc aW (Ne.symm bh)
 refine ⟨aW,⟨zh3 (by kernel_rfl),trivial⟩,?_⟩
 refine zi1 ?_
 refine gE _ _ ?_
 try clear gE hM
 refine rg [0,1] ?_
 refine sv 57 (.int .i64 2) ?_
 refine sv 50 (.int .i64 2) ?_
 refine za0 ?_
 show Code.rounds _ _ _ _ _ _
 show Code.wp _ _ _ _ _
 refine wp_seq_k (fun il f6=>?_)
 refine rg [0] ?_
 refine sv 51 (.bool true) ?_
 refine za0 ?_
 refine f6 _ _ ?_
 try clear f6 il
 refine wp_seq_k (fun hO gg=>?_)
 refine wp_cond_true rfl ?_
 refine wp_skip ?_
 refine gg _ _ ?_
 try clear gg hO
 refine wp_seq_k (fun hD gb=>?_)
 refine wp_block ?_
 refine wp_seq_k (fun ip ge=>?_)
 refine rg [0,1,2] ?_
 refine sv 52 (.agg #[aq,al,ad,ac]) ?_
 refine se ?_
 refine ea 33 #[.bool false,.slice none 0 0,.bool false,.slice none 0 0] 14 hB fun hG jj co aS f4 h4 hB=>?_
 replace L2:=dF.lc ((dT.lc (L2.gr cy) eC).gr (aU.trans (bJ.trans ca))) bM
 have eJ:=L2.ne f4
 replace L3:=dF.lc ((dT.lc (L3.gr cy) eA).gr (aU.trans (bJ.trans ca))) bE
 have e3:=L3.ne f4
 have bg:=aa.ne f4
 simp only [p3,p4]
 refine se ?_
 refine es 33 0 (.agg #[aq,al,ad,ac]) [aq,al,ad,ac] #[aq,al,ad,ac] aS hB h4 ⟨aw.one0,aw.one1,aw.one2,aw.one3,trivial⟩ fun h2 dV cS aS hB=>?_
 refine za0 ?_
 refine ge _ _ ?_
 try clear ge ip
 have aV:=Gr.drew h2
 replace hB:=hB.trans aV
 replace aS:=aS.gr aV
 replace aa:=(dV.lc (aa.gr co) bg).gr aV
 refine zb7 (fun w'=>Lc w' hG #[aq,al,ad,ac] 33) [([4],(fun w'=>Lc w' dL #[dw,dB] 31))] [(true,0),(true,1),(false,2),(false,3),(false,4)] (by kernel_rfl) (by kernel_rfl) (by kernel_rfl) (by decide) (fun _ _ _ _ _ h=>h) aS ⟨fun _=>aa,trivial⟩ ?_
 refine tw 53 (.agg #[dw,dB]) rfl (fun w' hS=>(rl 31 0 [dw,dB] (hS.2.1 (by kernel_rfl)))) ?_
 refine tw 54 (.agg #[aq,al,ad,ac]) rfl (fun w' hS=>(rl 33 0 [aq,al,ad,ac] hS.1)) ?_
 refine te ?_
 have g0:=dS.trans (dZ.kp.trans (dn.kp.trans (dO.trans (aY.kp.trans (b5.kp.trans (bS.kp.trans (dh.trans (cy.kp.trans (dc.trans (aU.kp.trans (bJ.kp.trans (ca.kp.trans (dk.trans (co.kp.trans (cS.trans aV.kp)))))))))))))))
 replace aw:=aw.kp g0
 refine ec 55 (num_r aw) ?_
 rintro ki jz ⟨⟨kU,jE,rfl,ix⟩,bB⟩
 refine ⟨_,rfl,?_⟩
 replace hB:=hB.trans bB
 replace aS:=aS.gr bB
 replace aa:=aa.gr bB
 refine ⟨aS,⟨fun _=>aa,trivial⟩,?_⟩
 simp only [p3,p4]
 refine te ?_
 have f8:=dk.trans (co.kp.trans (cS.trans (aV.kp.trans bB.kp)))
 replace cJ:=cJ.kp f8
 refine ec 56 (zr6 cJ ix (by omega)) ?_
 rintro ky jO ⟨⟨dx,dm,rfl,cH⟩,b7⟩
 refine ⟨_,rfl,?_⟩
 replace hB:=hB.trans b7
 replace cH:=(show IsInt _ _ _ _ (pgcd a1 a2 a3) from cH)
 replace aS:=aS.gr b7
 replace aa:=aa.gr b7
 refine ⟨aS,⟨fun _=>aa,trivial⟩,?_⟩
 simp only [p3,p4]
 refine te ?_
 refine es 31 0 (.agg #[dx,dm]) [dx,dm] #[dx,dm] aa hB fO ⟨cH.one0,cH.one1,trivial⟩ fun h5 d3 cZ aa hB=>?_
 replace aS:=d3.lc aS (Ne.symm bg)
 refine ⟨aS,⟨zh3 (by kernel_rfl),trivial⟩,?_⟩
 refine zi1 ?_
 refine gb _ _ ?_
 try clear gb hD
 refine rg [0,1] ?_
 refine sv 57 (.int .i64 3) ?_
 refine sv 50 (.int .i64 3) ?_
 refine za0 ?_
 show Code.rounds _ _ _ _ _ _
 show Code.wp _ _ _ _ _
 refine wp_seq_k (fun ih g4=>?_)
 refine rg [0] ?_
 refine sv 51 (.bool false) ?_
 refine za0 ?_
 refine g4 _ _ ?_
 try clear g4 ih
 refine wp_seq_k (fun kq j2=>?_)
 refine wp_cond_false rfl ?_
 refine wp_exit ?_
 simp only [Exit.then,Exit.inBlock,↓reduceIte]
 refine gU _ _ ?_
 try clear gU iA
 refine wp_seq_k (fun h8 g1=>?_)
 have hl:=Below.size hB
 replace L2:=d3.lc ((dV.lc (L2.gr co) eJ).gr (aV.trans (bB.trans b7))) bM
 have e5:=L2.lt
 replace L3:=d3.lc ((dV.lc (L3.gr co) e3).gr (aV.trans (bB.trans b7))) bE
 have fj:=L3.lt
 have dp:=aa.lt
 have aZ:=Gr.drew h5
 replace hB:=hB.trans aZ
 replace aa:=aa.gr aZ
 refine zc2 (fun w'=>Lc w' dL #[dx,dm] 31) [(true,1),(false,0),(false,2),(true,3),(true,4),(true,5)] [⟨6,15,33,#[.bool false,.slice none 0 0,.bool false,.slice none 0 0]⟩] [(false,7),(true,8)] (by kernel_rfl) (by kernel_rfl) (by kernel_rfl) (by kernel_rfl) (by kernel_rfl) (by decide) (fun _ _ _ _ _ h=>h) (fun _ _ _ _ _ h=>h) (fun w' o h=>Lc.gr h (Gr.alloc w' o)) aa (by intro f hf;simp only [List.mem_cons,List.not_mem_nil,or_false] at hf;rcases hf with rfl<;>first | exact zc5 (z:=(.agg #[.bool false,.slice none 0 0,.bool false,.slice none 0 0])) (by kernel_rfl) rfl) ?_
 refine fw 60 (.agg #[dx,dm]) rfl (fun w' hS=>(rl 31 0 [dx,dm] hS)) ?_
 refine zd0 rfl rfl (fun kg cc _ ir gY=>?_)
 replace hB:=hB.trans cc
 refine ec 59 (zt3 (1) (by omega) (by omega) _) ?_
 rintro jf j4 ⟨⟨jr,kD,rfl,fL⟩,bo⟩
 refine ⟨_,rfl,?_⟩
 replace hB:=hB.trans bo
 replace aa:=aa.gr (cc.trans bo)
 refine gY _ _ bo aa ?_
 try clear gY ir
 simp only [p3,p4]
 refine zd0 rfl rfl (fun jC bt _ iv g8=>?_)
 replace hB:=hB.trans bt
 replace fL:=fL.kp bt.kp
 have gi:=cZ.trans (aZ.kp.trans (cc.kp.trans (bo.kp.trans bt.kp)))
 replace cH:=cH.kp gi
 refine ec 61 (make_r ((64+(64+(64+k+k+k+k))+(64+(64+k+k+k+k))+(64+(64+k+k+k+k)))) fL cH (pgcd_pos i8) (by omega) (by omega) (by omega) (by omega)) ?_
 rintro j9 jF ⟨⟨cG,cm,cn,cx,rfl,cA⟩,cg⟩
 refine ⟨_,rfl,?_⟩
 replace hB:=hB.trans cg
 replace aa:=aa.gr (bt.trans cg)
 refine g8 _ _ cg aa ?_
 try clear g8 iv
 simp only [p3,p4]
 refine fv 58 (.tuple #[(.agg #[cG,cm,cn,cx]),.int .i64 0]) ?_
 refine fv 62 (.agg #[cG,cm,cn,cx]) ?_
 refine fv 63 (.int .i64 0) ?_
 refine zl3 (fun hA ch _=>?_)
 replace hB:=hB.trans ch
 refine zA3 (fun eZ (fY:Lc hA eZ #[.bool false,.slice none 0 0,.bool false,.slice none 0 0] 33) q221=>?_)
 have eP:b2≠eZ:=Nat.ne_of_lt (Nat.lt_of_lt_of_le e5 q221)
 have fd:b3≠eZ:=Nat.ne_of_lt (Nat.lt_of_lt_of_le fj q221)
 have dy:dL≠eZ:=Nat.ne_of_lt (Nat.lt_of_lt_of_le dp q221)
 replace q221:=Nat.le_trans hl q221
 simp only [zn2,p3,p4]
 refine oe ?_
 refine es 33 0 (.agg #[cG,cm,cn,cx]) [cG,cm,cn,cx] #[cG,cm,cn,cx] fY hB q221 ⟨cA.one0,cA.one1,cA.one2,cA.one3,trivial⟩ fun kK d6 cV fY hB=>?_
 replace aa:=d6.lc (aa.gr ch) dy
 refine ⟨aa,?_⟩
 refine ov 16 (.int .i64 0) ?_
 refine za2 ?_
 refine g1 _ _ ?_
 try clear g1 h8
 refine wp_seq_k (fun iz gs=>?_)
 refine rg [0,1,2,3,4] ?_
 replace L2:=d6.lc (L2.gr (aZ.trans (cc.trans (bo.trans (bt.trans (cg.trans ch)))))) eP
 refine sw 64 (.agg #[ai,au,ar,ap,af,ak,aj,ah,aq,al,ad,ac]) rfl (rl 35 0 [ai,au,ar,ap,af,ak,aj,ah,aq,al,ad,ac] L2) ?_
 refine sw 65 (.agg #[cG,cm,cn,cx]) rfl (rl 33 0 [cG,cm,cn,cx] fY) ?_
 refine se ?_
 have gk:=b5.kp.trans (bS.kp.trans (dh.trans (cy.kp.trans (dc.trans (aU.kp.trans (bJ.kp.trans (ca.kp.trans (dk.trans (co.kp.trans (cS.trans (aV.kp.trans (bB.kp.trans (b7.kp.trans (cZ.trans (aZ.kp.trans (cc.kp.trans (bo.kp.trans (bt.kp.trans (cg.kp.trans (ch.kp.trans cV))))))))))))))))))))
 replace ax:=ax.kp gk
 have gG:=bJ.kp.trans (ca.kp.trans (dk.trans (co.kp.trans (cS.trans (aV.kp.trans (bB.kp.trans (b7.kp.trans (cZ.trans (aZ.kp.trans (cc.kp.trans (bo.kp.trans (bt.kp.trans (cg.kp.trans (ch.kp.trans cV))))))))))))))
 replace av:=av.kp gG
 have g7:=bB.kp.trans (b7.kp.trans (cZ.trans (aZ.kp.trans (cc.kp.trans (bo.kp.trans (bt.kp.trans (cg.kp.trans (ch.kp.trans cV))))))))
 replace aw:=aw.kp g7
 have gd:=ch.kp.trans cV
 replace cA:=cA.kp gd
 refine ec 66 (zz6 ax av aw cA (by omega)) ?_
 rintro jB jK ⟨⟨bP,bk,bp,bx,bn,bD,bz,bu,bm,bC,a0,a4,rfl,a7,a9,a6⟩,gM⟩
 refine ⟨_,rfl,?_⟩
 replace hB:=hB.trans gM
 simp only [p3,p4]
 refine se ?_
 replace L3:=(d6.lc (L3.gr (aZ.trans (cc.trans (bo.trans (bt.trans (cg.trans ch)))))) fd).gr gM
 refine es 35 0 (.agg #[bP,bk,bp,bx,bn,bD,bz,bu,bm,bC,a0,a4]) [bP,bk,bp,bx,bn,bD,bz,bu,bm,bC,a0,a4] #[bP,bk,bp,bx,bn,bD,bz,bu,bm,bC,a0,a4] L3 hB q3 ⟨a7.one0,a7.one1,a7.one2,a7.one3,a9.one0,a9.one1,a9.one2,a9.one3,a6.one0,a6.one1,a6.one2,a6.one3,trivial⟩ fun kQ iZ d0 L3 hB=>?_
 refine sv 3 (.int .i64 0) ?_
 refine za0 ?_
 refine gs _ _ ?_
 try clear gs iz
 refine wp_ret ?_
 refine bodyPost_ret (v:=(.tuple #[(.agg #[bP,bk,bp,bx,bn,bD,bz,bu,bm,bC,a0,a4]),.int .i64 0])) (za9 _ _ _ rfl rfl L3 (by kernel_rfl) rfl) rfl ⟨?_,hB⟩
 replace a7:=a7.kp d0
 replace a9:=a9.kp d0
 replace a6:=a6.kp d0
 exact ⟨_,_,_,_,_,_,_,_,_,_,_,_,rfl,a7,a9,a6⟩

-- LEFT OUT:r1_digits r1_digits_i r1_from r1_from_n r1_from_p r1_minus r1_minus_f r1_minus_i r1_order r1_order_i r1_plus r1_plus_i r1_sign_i r1_sign_n r1_sign_p r1_sign_z r1_text r1_text_s r1_text_z r1_trim wpList_makeI
section
variable {P:Program} {ops:Array Oper} {Q:Exit→Act→World→Prop} {S0:World→Prop} {HS:List (List Nat × (World→Prop))}
end
set_option maxRecDepth 100000 in
set_option maxHeartbeats 4000000 in
theorem vparse0 {k:Nat} (a1:Rat) (a2:Rat) (a3:Rat) (bv:RS k a1) (bP:RS k a2) (bW:RS k a3) (_hk:k≤20000) (_h64:64≤k) (l1:((za3 a1).length:Int)≤400) (l2:((za3 a2).length:Int)≤400) (l3:((za3 a3).length:Int)≤400) (w:World) (hm:Mx w):
    Calls Tryz.prog 120 #[(.agg #[(.string ⟨(za3 (a1):List UInt8).toArray⟩),(.string ⟨(za3 (a2):List UInt8).toArray⟩),(.string ⟨(za3 (a3):List UInt8).toArray⟩)]),(.func (.func 121) #[] #[])] w fun e w'=>(∃ t0 t1 t2 t3 t4 t5 t6 t7 t8 t9 bm bc,e=.returned (.tuple #[.agg #[t0,t1,t2,t3,t4,t5,t6,t7,t8,t9,bm,bc],.int .i64 0])∧IsRat w' k t0 t1 t2 t3 (a1)∧IsRat w' k t4 t5 t6 t7 (a2)∧IsRat w' k t8 t9 bm bc (a3))∧Gr w w':=by
 go_enter Tryz.func120,Tryz.ntmps120
 have hB:=Gr.refl w
 refine wp_seq_k (fun K1 k1=>?_)
 refine rg [0,1,2] ?_
 refine se ?_
 refine eb 85 #[(.string ⟨(za3 (a1):List UInt8).toArray⟩),(.string ⟨(za3 (a2):List UInt8).toArray⟩),(.string ⟨(za3 (a3):List UInt8).toArray⟩)] 2 hB fun b2 w2 g2 L2 o2 q2 hB=>?_
 simp only [p3,p4]
 refine se ?_
 refine ea 35 #[.bool false,.slice none 0 0,.bool false,.slice none 0 0,.bool false,.slice none 0 0,.bool false,.slice none 0 0,.bool false,.slice none 0 0,.bool false,.slice none 0 0] 4 hB fun b3 w3 g3 L3 o3 q3 hB=>?_
 simp only [p3,p4]
 refine sv 5 (.int .i64 0) ?_
 refine za0 ?_
 refine k1 _ _ ?_
 try clear k1 K1
 refine wp_seq_k (fun K4 k4=>?_)
 refine rg [0] ?_
 refine se ?_
 refine ea 35 #[.bool false,.slice none 0 0,.bool false,.slice none 0 0,.bool false,.slice none 0 0,.bool false,.slice none 0 0,.bool false,.slice none 0 0,.bool false,.slice none 0 0] 6 hB fun b5 w5 g5 L5 o5 q5 hB=>?_
 replace L2:=L2.gr g3
 have av:=L3.ne o5
 simp only [p3,p4]
 refine za0 ?_
 refine k4 _ _ ?_
 try clear k4 K4
 refine wp_seq_k (fun K6 k6=>?_)
 refine wp_seq_k (fun K7 k7=>?_)
 refine rg [0,1] ?_
 replace L2:=L2.gr g5
 refine sw 11 (.agg #[(.string ⟨(za3 (a1):List UInt8).toArray⟩),(.string ⟨(za3 (a2):List UInt8).toArray⟩),(.string ⟨(za3 (a3):List UInt8).toArray⟩)]) rfl (rl 85 0 [(.string ⟨(za3 (a1):List UInt8).toArray⟩),(.string ⟨(za3 (a2):List UInt8).toArray⟩),(.string ⟨(za3 (a3):List UInt8).toArray⟩)] L2) ?_
 refine sv 12 (.int .i64 0) ?_
 refine za0 ?_
 refine k7 _ _ ?_
 try clear k7 K7
 refine wp_block ?_
 refine wp_loop_rounds 4 ?_
 show Code.wp _ _ _ _ _
 refine wp_seq_k (fun K8 k8=>?_)
 refine rg [0] ?_
 refine sv 13 (.bool true) ?_
 refine za0 ?_
 refine k8 _ _ ?_
 try clear k8 K8
 refine wp_seq_k (fun K9 k9=>?_)
 refine wp_cond_true rfl ?_
 refine wp_skip ?_
 refine k9 _ _ ?_
 try clear k9 K9
 refine wp_seq_k (fun bH bj=>?_)
 refine wp_block ?_
 refine wp_seq_k (fun bB k11=>?_)
 refine rg [0,1,2,3] ?_
 refine sv 14 (.int .i64 0) ?_
 refine sv 15 (.string ⟨(za3 (a1):List UInt8).toArray⟩) ?_
 refine sv 7 (.int .i64 0) ?_
 refine sv 8 (.string ⟨(za3 (a1):List UInt8).toArray⟩) ?_
 refine za0 ?_
 refine k11 _ _ ?_
 try clear k11 bB
 refine wp_seq_k (fun bT k12=>?_)
 refine rg [0,1,2,3,4,5,6,7,8] ?_
 refine sv 17 (.func (.func 121) #[] #[]) ?_
 refine sv 18 (.string ⟨(za3 (a1):List UInt8).toArray⟩) ?_
 refine se ?_
 refine ec 19 (zz4 (a1) bv (by omega) (by omega) l1 _ (hm.gr hB)) ?_
 rintro e13 ck ⟨⟨ad,ab,ac,aa,rfl,ar⟩,aU⟩
 refine ⟨_,rfl,?_⟩
 replace hB:=hB.trans aU
 simp only [p3,p4]
 refine sv 16 (.tuple #[(.agg #[ad,ab,ac,aa]),.int .i64 0]) ?_
 refine sv 20 (.agg #[ad,ab,ac,aa]) ?_
 refine sv 21 (.int .i64 0) ?_
 refine se ?_
 refine ea 33 #[.bool false,.slice none 0 0,.bool false,.slice none 0 0] 9 hB fun b4 ca a0 aW bn bQ hB=>?_
 replace L3:=L3.gr (g5.trans aU)
 have az:=L3.ne bn
 replace L5:=L5.gr aU
 have aw:=L5.ne bn
 simp only [p3,p4]
 refine se ?_
 refine es 33 0 (.agg #[ad,ab,ac,aa]) [ad,ab,ac,aa] #[ad,ab,ac,aa] aW hB bQ ⟨ar.one0,ar.one1,ar.one2,ar.one3,trivial⟩ fun b7 aH aZ aW hB=>?_
 refine sv 10 (.int .i64 0) ?_
 refine za0 ?_
 refine k12 _ _ ?_
 try clear k12 bT
 refine wp_seq_k (fun bt a9=>?_)
 refine wp_seq_k (fun bV bb=>?_)
 refine rg [0,1] ?_
 refine sv 22 (.int .i64 0) ?_
 refine sv 23 (.bool false) ?_
 refine za0 ?_
 refine bb _ _ ?_
 try clear bb bV
 refine wp_cond_false rfl ?_
 refine wp_skip ?_
 refine a9 _ _ ?_
 try clear a9 bt
 refine rg [0,1,2,3] ?_
 refine sv 26 (.int .i64 0) ?_
 refine sw 27 (.agg #[ad,ab,ac,aa]) rfl (rl 33 0 [ad,ab,ac,aa] aW) ?_
 refine sv 28 (.pointer (some ⟨b5,0,none⟩)) ?_
 refine se ?_
 replace L5:=aH.lc (L5.gr a0) aw
 refine es 33 0 (.agg #[ad,ab,ac,aa]) [ad,ab,ac,aa] #[ad,ab,ac,aa,.bool false,.slice none 0 0,.bool false,.slice none 0 0,.bool false,.slice none 0 0,.bool false,.slice none 0 0] L5 hB q5 ⟨ar.one0,ar.one1,ar.one2,ar.one3,trivial⟩ fun cl aO aQ L5 hB=>?_
 refine za0 ?_
 refine bj _ _ ?_
 try clear bj bH
 refine rg [0,1] ?_
 refine sv 29 (.int .i64 1) ?_
 refine sv 12 (.int .i64 1) ?_
 refine za0 ?_
 show Code.rounds _ _ _ _ _ _
 show Code.wp _ _ _ _ _
 refine wp_seq_k (fun bD bh=>?_)
 refine rg [0] ?_
 refine sv 13 (.bool true) ?_
 refine za0 ?_
 refine bh _ _ ?_
 try clear bh bD
 refine wp_seq_k (fun bK a8=>?_)
 refine wp_cond_true rfl ?_
 refine wp_skip ?_
 refine a8 _ _ ?_
 try clear a8 bK
 refine wp_seq_k (fun bG a7=>?_)
 refine wp_block ?_
 refine wp_seq_k (fun bO k22=>?_)
 refine rg [0,1,2,3] ?_
 refine sv 14 (.int .i64 1) ?_
 refine sv 15 (.string ⟨(za3 (a2):List UInt8).toArray⟩) ?_
 refine sv 7 (.int .i64 1) ?_
 refine sv 8 (.string ⟨(za3 (a2):List UInt8).toArray⟩) ?_
 refine za0 ?_
 refine k22 _ _ ?_
 try clear k22 bO
 refine wp_seq_k (fun bu k23=>?_)
 refine rg [0,1,2,3,4,5,6,7,8] ?_
 refine sv 17 (.func (.func 121) #[] #[]) ?_
 refine sv 18 (.string ⟨(za3 (a2):List UInt8).toArray⟩) ?_
 refine se ?_
 refine ec 19 (zz4 (a2) bP (by omega) (by omega) l2 _ (hm.gr hB)) ?_
 rintro b8 cc ⟨⟨ae,ah,af,ai,rfl,aq⟩,aN⟩
 refine ⟨_,rfl,?_⟩
 replace hB:=hB.trans aN
 simp only [p3,p4]
 refine sv 16 (.tuple #[(.agg #[ae,ah,af,ai]),.int .i64 0]) ?_
 refine sv 20 (.agg #[ae,ah,af,ai]) ?_
 refine sv 21 (.int .i64 0) ?_
 refine se ?_
 refine ea 33 #[.bool false,.slice none 0 0,.bool false,.slice none 0 0] 9 hB fun cg b9 aM aY ba bN hB=>?_
 replace L3:=(aO.lc (aH.lc (L3.gr a0) az) av).gr aN
 have aD:=L3.ne ba
 replace L5:=L5.gr aN
 have aB:=L5.ne ba
 simp only [p3,p4]
 refine se ?_
 refine es 33 0 (.agg #[ae,ah,af,ai]) [ae,ah,af,ai] #[ae,ah,af,ai] aY hB bN ⟨aq.one0,aq.one1,aq.one2,aq.one3,trivial⟩ fun bY aF aL aY hB=>?_
 refine sv 10 (.int .i64 0) ?_
 refine za0 ?_
 refine k23 _ _ ?_
 try clear k23 bu
 refine wp_seq_k (fun bM bo=>?_)
 refine wp_seq_k (fun bE bf=>?_)
 refine rg [0,1] ?_
 refine sv 22 (.int .i64 0) ?_
 refine sv 23 (.bool false) ?_
 refine za0 ?_
 refine bf _ _ ?_
 try clear bf bE
 refine wp_cond_false rfl ?_
 refine wp_skip ?_
 refine bo _ _ ?_
 try clear bo bM
 refine rg [0,1,2,3] ?_
 refine sv 26 (.int .i64 1) ?_
 refine sw 27 (.agg #[ae,ah,af,ai]) rfl (rl 33 0 [ae,ah,af,ai] aY) ?_
 refine sv 28 (.pointer (some ⟨b5,4,none⟩)) ?_
 refine se ?_
 replace L5:=aF.lc (L5.gr aM) aB
 refine es 33 4 (.agg #[ae,ah,af,ai]) [ae,ah,af,ai] #[ad,ab,ac,aa,ae,ah,af,ai,.bool false,.slice none 0 0,.bool false,.slice none 0 0] L5 hB q5 ⟨aq.one0,aq.one1,aq.one2,aq.one3,trivial⟩ fun cn aT aK L5 hB=>?_
 refine za0 ?_
 refine a7 _ _ ?_
 try clear a7 bG
 refine rg [0,1] ?_
 refine sv 29 (.int .i64 2) ?_
 refine sv 12 (.int .i64 2) ?_
 refine za0 ?_
 show Code.rounds _ _ _ _ _ _
 show Code.wp _ _ _ _ _
 refine wp_seq_k (fun bA bq=>?_)
 refine rg [0] ?_
 refine sv 13 (.bool true) ?_
 refine za0 ?_
 refine bq _ _ ?_
 try clear bq bA
 refine wp_seq_k (fun bx bp=>?_)
 refine wp_cond_true rfl ?_
 refine wp_skip ?_
 refine bp _ _ ?_
 try clear bp bx
 refine wp_seq_k (fun bR bk=>?_)
 refine wp_block ?_
 refine wp_seq_k (fun bL k33=>?_)
 refine rg [0,1,2,3] ?_
 refine sv 14 (.int .i64 2) ?_
 refine sv 15 (.string ⟨(za3 (a3):List UInt8).toArray⟩) ?_
 refine sv 7 (.int .i64 2) ?_
 refine sv 8 (.string ⟨(za3 (a3):List UInt8).toArray⟩) ?_
 refine za0 ?_
 refine k33 _ _ ?_
 try clear k33 bL
 refine wp_seq_k (fun bJ bg=>?_)
 refine rg [0,1,2,3,4,5,6,7,8] ?_
 refine sv 17 (.func (.func 121) #[] #[]) ?_
 refine sv 18 (.string ⟨(za3 (a3):List UInt8).toArray⟩) ?_
 refine se ?_
 refine ec 19 (zz4 (a3) bW (by omega) (by omega) l3 _ (hm.gr hB)) ?_
 rintro cd ch ⟨⟨aj,ap,al,ak,rfl,au⟩,aI⟩
 refine ⟨_,rfl,?_⟩
 replace hB:=hB.trans aI
 simp only [p3,p4]
 refine sv 16 (.tuple #[(.agg #[aj,ap,al,ak]),.int .i64 0]) ?_
 refine sv 20 (.agg #[aj,ap,al,ak]) ?_
 refine sv 21 (.int .i64 0) ?_
 refine se ?_
 refine ea 33 #[.bool false,.slice none 0 0,.bool false,.slice none 0 0] 9 hB fun ce b6 aG aX a6 bS hB=>?_
 replace L3:=(aT.lc (aF.lc (L3.gr aM) aD) av).gr aI
 have aC:=L3.ne a6
 replace L5:=L5.gr aI
 have ay:=L5.ne a6
 simp only [p3,p4]
 refine se ?_
 refine es 33 0 (.agg #[aj,ap,al,ak]) [aj,ap,al,ak] #[aj,ap,al,ak] aX hB bS ⟨au.one0,au.one1,au.one2,au.one3,trivial⟩ fun bZ aJ aA aX hB=>?_
 refine sv 10 (.int .i64 0) ?_
 refine za0 ?_
 refine bg _ _ ?_
 try clear bg bJ
 refine wp_seq_k (fun bU bi=>?_)
 refine wp_seq_k (fun bF a4=>?_)
 refine rg [0,1] ?_
 refine sv 22 (.int .i64 0) ?_
 refine sv 23 (.bool false) ?_
 refine za0 ?_
 refine a4 _ _ ?_
 try clear a4 bF
 refine wp_cond_false rfl ?_
 refine wp_skip ?_
 refine bi _ _ ?_
 try clear bi bU
 refine rg [0,1,2,3] ?_
 refine sv 26 (.int .i64 2) ?_
 refine sw 27 (.agg #[aj,ap,al,ak]) rfl (rl 33 0 [aj,ap,al,ak] aX) ?_
 refine sv 28 (.pointer (some ⟨b5,8,none⟩)) ?_
 refine se ?_
 replace L5:=aJ.lc (L5.gr aG) ay
 refine es 33 8 (.agg #[aj,ap,al,ak]) [aj,ap,al,ak] #[ad,ab,ac,aa,ae,ah,af,ai,aj,ap,al,ak] L5 hB q5 ⟨au.one0,au.one1,au.one2,au.one3,trivial⟩ fun cm aR aE L5 hB=>?_
 refine za0 ?_
 refine bk _ _ ?_
 try clear bk bR
 refine rg [0,1] ?_
 refine sv 29 (.int .i64 3) ?_
 refine sv 12 (.int .i64 3) ?_
 refine za0 ?_
 show Code.rounds _ _ _ _ _ _
 show Code.wp _ _ _ _ _
 refine wp_seq_k (fun bC bd=>?_)
 refine rg [0] ?_
 refine sv 13 (.bool false) ?_
 refine za0 ?_
 refine bd _ _ ?_
 try clear bd bC
 refine wp_seq_k (fun bX co=>?_)
 refine wp_cond_false rfl ?_
 refine wp_exit ?_
 simp only [Exit.then,Exit.inBlock,↓reduceIte]
 refine k6 _ _ ?_
 try clear k6 K6
 refine wp_seq_k (fun bw a5=>?_)
 refine rg [0,1,2] ?_
 refine sw 30 (.agg #[ad,ab,ac,aa,ae,ah,af,ai,aj,ap,al,ak]) rfl (rl 35 0 [ad,ab,ac,aa,ae,ah,af,ai,aj,ap,al,ak] L5) ?_
 refine se ?_
 replace L3:=aR.lc (aJ.lc (L3.gr aG) aC) av
 refine es 35 0 (.agg #[ad,ab,ac,aa,ae,ah,af,ai,aj,ap,al,ak]) [ad,ab,ac,aa,ae,ah,af,ai,aj,ap,al,ak] #[ad,ab,ac,aa,ae,ah,af,ai,aj,ap,al,ak] L3 hB q3 ⟨ar.one0,ar.one1,ar.one2,ar.one3,aq.one0,aq.one1,aq.one2,aq.one3,au.one0,au.one1,au.one2,au.one3,trivial⟩ fun cj bz ax L3 hB=>?_
 refine sv 5 (.int .i64 0) ?_
 refine za0 ?_
 refine a5 _ _ ?_
 try clear a5 bw
 refine wp_ret ?_
 refine bodyPost_ret (v:=(.tuple #[(.agg #[ad,ab,ac,aa,ae,ah,af,ai,aj,ap,al,ak]),.int .i64 0])) (za9 _ _ _ rfl rfl L3 (by kernel_rfl) rfl) rfl ⟨?_,hB⟩
 have aV:=a0.kp.trans (aZ.trans (aQ.trans (aN.kp.trans (aM.kp.trans (aL.trans (aK.trans (aI.kp.trans (aG.kp.trans (aA.trans (aE.trans ax))))))))))
 replace ar:=ar.kp aV
 have aP:=aM.kp.trans (aL.trans (aK.trans (aI.kp.trans (aG.kp.trans (aA.trans (aE.trans ax))))))
 replace aq:=aq.kp aP
 have aS:=aG.kp.trans (aA.trans (aE.trans ax))
 replace au:=au.kp aS
 exact ⟨_,_,_,_,_,_,_,_,_,_,_,_,rfl,ar,aq,au⟩

set_option maxRecDepth 100000 in
set_option maxHeartbeats 1000000 in
theorem vparse_v {k:Nat} (a1:Rat) (a2:Rat) (a3:Rat) (ay:RS k a1) (az:RS k a2) (aA:RS k a3) (_hk:k≤20000) (_h64:64≤k) (l1:((za3 a1).length:Int)≤400) (l2:((za3 a2).length:Int)≤400) (l3:((za3 a3).length:Int)≤400) (w:World) (hm:Mx w):
    Calls Tryz.prog 88 #[(.agg #[(.string ⟨(za3 (a1):List UInt8).toArray⟩),(.string ⟨(za3 (a2):List UInt8).toArray⟩),(.string ⟨(za3 (a3):List UInt8).toArray⟩)])] w fun e w'=>(∃ t0 t1 t2 t3 t4 t5 t6 t7 t8 t9 aw ax,e=.returned (.tuple #[.agg #[t0,t1,t2,t3,t4,t5,t6,t7,t8,t9,aw,ax],.int .i64 0])∧IsRat w' k t0 t1 t2 t3 (a1)∧IsRat w' k t4 t5 t6 t7 (a2)∧IsRat w' k t8 t9 aw ax (a3))∧Gr w w':=by
 go_enter Tryz.func88,Tryz.ntmps88
 have hB:=Gr.refl w
 refine wp_seq_k (fun K1 k1=>?_)
 refine rg [0,1,2] ?_
 refine se ?_
 refine eb 85 #[(.string ⟨(za3 (a1):List UInt8).toArray⟩),(.string ⟨(za3 (a2):List UInt8).toArray⟩),(.string ⟨(za3 (a3):List UInt8).toArray⟩)] 1 hB fun b2 w2 g2 L2 o2 q2 hB=>?_
 simp only [p3,p4]
 refine se ?_
 refine ea 35 #[.bool false,.slice none 0 0,.bool false,.slice none 0 0,.bool false,.slice none 0 0,.bool false,.slice none 0 0,.bool false,.slice none 0 0,.bool false,.slice none 0 0] 2 hB fun b3 w3 g3 L3 o3 q3 hB=>?_
 simp only [p3,p4]
 refine sv 3 (.int .i64 0) ?_
 refine za0 ?_
 refine k1 _ _ ?_
 try clear k1 K1
 refine wp_seq_k (fun K4 k4=>?_)
 refine rg [0,1,2,3,4,5] ?_
 replace L2:=L2.gr g3
 refine sw 4 (.agg #[(.string ⟨(za3 (a1):List UInt8).toArray⟩),(.string ⟨(za3 (a2):List UInt8).toArray⟩),(.string ⟨(za3 (a3):List UInt8).toArray⟩)]) rfl (rl 85 0 [(.string ⟨(za3 (a1):List UInt8).toArray⟩),(.string ⟨(za3 (a2):List UInt8).toArray⟩),(.string ⟨(za3 (a3):List UInt8).toArray⟩)] L2) ?_
 refine se ?_
 refine ec 5 (vparse0 (a1) (a2) (a3) ay az aA (by omega) (by omega) l1 l2 l3 _ (hm.gr hB)) ?_
 rintro e5 w5 ⟨⟨aj,al,ac,af,ae,ah,ad,ak,ap,ai,ab,aa,rfl,aq,au,ar⟩,g5⟩
 refine ⟨_,rfl,?_⟩
 replace hB:=hB.trans g5
 simp only [p3,p4]
 refine sv 6 (.agg #[aj,al,ac,af,ae,ah,ad,ak,ap,ai,ab,aa]) ?_
 refine sv 7 (.int .i64 0) ?_
 refine se ?_
 replace L3:=L3.gr g5
 refine es 35 0 (.agg #[aj,al,ac,af,ae,ah,ad,ak,ap,ai,ab,aa]) [aj,al,ac,af,ae,ah,ad,ak,ap,ai,ab,aa] #[aj,al,ac,af,ae,ah,ad,ak,ap,ai,ab,aa] L3 hB q3 ⟨aq.one0,aq.one1,aq.one2,aq.one3,au.one0,au.one1,au.one2,au.one3,ar.one0,ar.one1,ar.one2,ar.one3,trivial⟩ fun w6 aB av L3 hB=>?_
 refine sv 3 (.int .i64 0) ?_
 refine za0 ?_
 refine k4 _ _ ?_
 try clear k4 K4
 refine wp_ret ?_
 refine bodyPost_ret (v:=(.tuple #[(.agg #[aj,al,ac,af,ae,ah,ad,ak,ap,ai,ab,aa]),.int .i64 0])) (za9 _ _ _ rfl rfl L3 (by kernel_rfl) rfl) rfl ⟨?_,hB⟩
 replace aq:=aq.kp av
 replace au:=au.kp av
 replace ar:=ar.kp av
 exact ⟨_,_,_,_,_,_,_,_,_,_,_,_,rfl,aq,au,ar⟩

def nilC:Cl→Bool
 | .cv (.slice none 0 0)=>true
 | _=>false
def falC:Cl→Bool
 | .cb _ (some false)=>true
 | _=>false
def zq0:SV→Option (Nat × Rat)
 | .so (.vg [.cr j 0 k q,.cr j1 1 _ _,.cr j2 2 _ _,.cr j3 3 _ _])=>if Nat.beq j1 j&&Nat.beq j2 j&&Nat.beq j3 j then some (k,q) else none
 | .so (.vg [a,b,c,d])=>if falC a&&nilC b&&falC c&&nilC d then some (64,0) else none
 | _=>none
section
variable {n:Nn} {X:Env} {w w':World}
theorem zo2 {c:Cl} (h:falC c=true) (hc:c.ok n X w):c.den X=.bool false:=by
 unfold falC at h
 split at h
 ·exact congrArg Value.bool (hc.2 false rfl)
 ·cases h
theorem zo3 {c:Cl} (h:nilC c=true):c.den X=.slice none 0 0:=by
 unfold nilC at h
 split at h
 ·rfl
 ·cases h
theorem zd9 {v:SV} {k:Nat} {q:Rat} (h:zq0 v=some (k,q)) (hv:v.ok n X w):∃ a b c d,v.den X=.agg #[a,b,c,d]∧IsRat w k a b c d q:=by
 unfold zq0 at h
 split at h
 ·rename_i j k' q' j1 _ _ j2 _ _ j3 _ _
  split at h
  ·rename_i hj
   simp only [Bool.and_eq_true,Nat.beq_eq] at hj
   obtain ⟨⟨rfl,rfl⟩,rfl⟩:=hj
   cases h
   have:=(hv (.cr j3 0 k q) (by simp)).2
   exact ⟨_,_,_,_,rfl,this⟩
  ·cases h
 ·rename_i a b c d _
  split at h
  ·rename_i hh
   simp only [Bool.and_eq_true] at hh
   obtain ⟨⟨⟨h1,h2⟩,h3⟩,h4⟩:=hh
   cases h
   refine ⟨.bool false,.slice none 0 0,.bool false,.slice none 0 0,?_,IsRat.zero w (Nat.le_refl _)⟩
   simp only [SV.den,TV.den,dnL,List.map_cons,List.map_nil,zo2 h1 (hv a (by simp)),zo3 h2,zo2 h3 (hv c (by simp)),zo3 h4]
  ·cases h
 ·cases h
def zr5 (j k:Nat) (q:Rat):SV:=.so (.vg [.cr j 0 k q,.cr j 1 k q,.cr j 2 k q,.cr j 3 k q])
def Env.pushR (X:Env) (n:Nat) (c0 c1 c2 c3:Value):Env:={X with R:=fun i c=>if i=n then (if c=0 then c0 else if c=1 then c1 else if c=2 then c2 else c3) else X.R i c}
theorem Env.pushR_agree (X:Env) (n:Nn) (c0 c1 c2 c3:Value):Agr n X (X.pushR n.r c0 c1 c2 c3):=⟨fun _ _=>rfl,fun i c hi=>by simp only [Env.pushR];rw [if_neg (by omega)],fun _ _ _=>rfl,rfl⟩
theorem zh0 {e:Ending} {k:Nat} {q:Rat} (h:(∃ c0 c1 c2 c3,e=.returned (.agg #[c0,c1,c2,c3])∧IsRat w' k c0 c1 c2 c3 q)∧Gr w w'):(Tr.leaf (zr5 n.r k q) 1 0).holds n X w e w':=by
 obtain ⟨⟨c0,c1,c2,c3,rfl,h1⟩,g⟩:=h
 refine ⟨X.pushR n.r c0 c1 c2 c3,?_,g,Env.pushR_agree _ _ _ _ _ _,fun c hc=>?_⟩
 ·simp [zr5,SV.den,TV.den,dnL,Cl.den,Env.pushR]
 ·have hg:IsRat w' k ((X.pushR n.r c0 c1 c2 c3).R n.r 0) ((X.pushR n.r c0 c1 c2 c3).R n.r 1) ((X.pushR n.r c0 c1 c2 c3).R n.r 2) ((X.pushR n.r c0 c1 c2 c3).R n.r 3) q:=by
   simpa [Env.pushR] using h1
  have hlt:Nat.blt n.r (n.r+1)=true:=zn3 (by omega)
  simp only [List.mem_cons,List.not_mem_nil,or_false] at hc
  rcases hc with rfl | rfl | rfl | rfl<;>refine ⟨?_,hg⟩<;>simp only [Cl.lt,hlt]<;>rfl
theorem zh7 {e:Ending} {v:SV} (h:e=.returned (v.den X)∧Gr w w') (hv:v.ok n X w'):(Tr.leaf v 0 0).holds n X w e w':=⟨X,h.1,h.2,.refl _ _,hv⟩
end
def zv7 (lim:Nat) (g:Nat→Nat→Nat) (op:Rat→Rat→Rat):ConT:=fun args nr _=>match args with
 | [x,y]=>match zq0 x,zq0 y with
  | some (k,a),some (m,b)=>if Nat.ble (k+m) lim then some (.leaf (zr5 nr (g k m) (op a b)) 1 0) else none
  | _,_=>none
 | _=>none
theorem zf5 {P:Program} {I:World→Prop} {f lim:Nat} {g:Nat→Nat→Nat} {op:Rat→Rat→Rat} (h:∀ {k m:Nat} {u0 u1 u2 u3 v0 v1 v2 v3:Value} {a b:Rat} {w:World},IsRat w k u0 u1 u2 u3 a→IsRat w m v0 v1 v2 v3 b→k+m≤lim→
  Calls P f #[.agg #[u0,u1,u2,u3],.agg #[v0,v1,v2,v3]] w fun e w'=>(∃ c0 c1 c2 c3,e=.returned (.agg #[c0,c1,c2,c3])∧IsRat w' (g k m) c0 c1 c2 c3 (op a b))∧Gr w w'):ConOK P I f (zv7 lim g op):=by
 intro args X n w T _ ha hT _
 unfold zv7 at hT
 split at hT
 ·rename_i x y
  split at hT
  ·rename_i k a m b h1 h2
   split at hT
   ·rename_i hle
    simp only [Nat.ble_eq] at hle
    cases hT
    obtain ⟨u0,u1,u2,u3,e1,f1⟩:=zd9 h1 (ha x (by simp))
    obtain ⟨v0,v1,v2,v3,e2,f2⟩:=zd9 h2 (ha y (by simp))
    simp only [List.map_cons,List.map_nil,e1,e2]
    exact (h f1 f2 hle).mono fun e w' he=>zh0 he
   ·cases hT
  ·cases hT
 ·cases hT

def zF9:SV→Option (Nat × Int)
 | .so (.vg [.cz j 0 k z,.cz j1 1 _ _])=>if Nat.beq j1 j then some (k,z) else none
 | .so (.vg [.cr j 0 k q,.cr j1 1 _ _])=>if Nat.beq j1 j then some (k,q.num) else none
 | .so (.vg [a,b])=>if falC a&&nilC b then some (64,0) else none
 | _=>none
def txC:Cl→Option (Nat × Rat)
 | .cw _ (some (k,q))=>some (k,q)
 | .cw [b] none=>if Nat.beq b.toNat 48 then some (1,0) else none
 | _=>none
def asTxt:SV→Option (Nat × Rat)
 | .so (.vc c)=>txC c
 | _=>none
def as64:SV→Option Int
 | .so (.vc (.ci .i64 z lo hi))=>if ile (-9223372036854775808) lo&&ile hi 9223372036854775807 then some z else none
 | _=>none
def zo4 (j k:Nat) (z:Int):SV:=.so (.vg [.cz j 0 k z,.cz j 1 k z])
def txt (k:Nat) (q:Rat):SV:=.so (.vc (.cw (za3 q) (some (k,q))))
def sgnV (z:Int):SV:=.so (.vc (.ci .i64 z (-1) 1))
section
variable {n:Nn} {X:Env} {w w':World}
theorem zk7 {v:SV} {k:Nat} {z:Int} (h:zF9 v=some (k,z)) (hv:v.ok n X w):∃ a b,v.den X=.agg #[a,b]∧IsInt w k a b z:=by
 unfold zF9 at h
 split at h
 ·rename_i j k' q' j1 _ _
  split at h
  ·rename_i hj
   simp only [Nat.beq_eq] at hj
   subst hj
   cases h
   exact ⟨_,_,rfl,(hv (.cz j1 0 k z) (by simp)).2⟩
  ·cases h
 ·rename_i j k' q' j1 _ _
  split at h
  ·rename_i hj
   simp only [Nat.beq_eq] at hj
   subst hj
   cases h
   exact ⟨_,_,rfl,IsRat.num (hv (.cr j1 0 k q') (by simp)).2⟩
  ·cases h
 ·rename_i a b _ _
  split at h
  ·rename_i hh
   simp only [Bool.and_eq_true] at hh
   cases h
   refine ⟨.bool false,.slice none 0 0,?_,IsInt.zero w 64⟩
   simp only [SV.den,TV.den,dnL,List.map_cons,List.map_nil,zo2 hh.1 (hv a (by simp)),zo3 hh.2]
  ·cases h
 ·cases h
theorem ratL0:za3 0=([48]:List UInt8):=eq_of_beq (zU8 (by kernel_rfl) (zU7 0 (by kernel_rfl) (by decide)))
theorem zv8 {c:Cl} {k:Nat} {q:Rat} (h:txC c=some (k,q)) (hv:c.ok n X w):c.den X=.string ⟨(za3 q).toArray⟩∧RS k q:=by
 unfold txC at h
 split at h
 ·rename_i l k' q'
  cases h
  obtain ⟨h1,h2⟩:=hv.2 k q rfl
  exact ⟨by rw [← h1];rfl,h2⟩
 ·rename_i b
  split at h
  ·rename_i hb
   cases h
   have:b=48:=UInt8.toNat_inj.1 (Nat.eq_of_beq_eq_true hb)
   exact ⟨by rw [ratL0,this];rfl,Nat.two_pow_pos 1,Nat.one_lt_two_pow (by decide)⟩
  ·cases h
 ·cases h
theorem zO3 {v:SV} {k:Nat} {q:Rat} (h:asTxt v=some (k,q)) (hv:v.ok n X w):v.den X=.string ⟨(za3 q).toArray⟩∧Sz k q.num∧Sz k (q.den:Int):=by
 unfold asTxt at h
 split at h
 ·rename_i c
  exact zv8 h hv
 ·cases h
theorem yb4 {v:SV} {z:Int} (h:as64 v=some z) (hv:v.ok n X w):v.den X=.int .i64 z∧-9223372036854775808≤z∧z≤9223372036854775807:=by
 unfold as64 at h
 split at h
 ·split at h
  ·rename_i hh
   simp only [zg4,Bool.and_eq_true,decide_eq_true_eq] at hh
   cases h
   exact ⟨rfl,Int.le_trans hh.1 hv.2.1,Int.le_trans hv.2.2 hh.2⟩
  ·cases h
 ·cases h
def Env.pushZ (X:Env) (n:Nat) (c0 c1:Value):Env:={X with Z:=fun i c=>if i=n then (if c=0 then c0 else c1) else X.Z i c}
theorem Env.pushZ_agree (X:Env) (n:Nn) (c0 c1:Value):Agr n X (X.pushZ n.z c0 c1):=⟨fun _ _=>rfl,fun _ _ _=>rfl,fun i c hi=>by simp only [Env.pushZ];rw [if_neg (by omega)],rfl⟩
theorem zv9 {k:Nat} {z:Int} {c0 c1:Value} (h1:IsInt w' k c0 c1 z):(zo4 n.z k z).den (X.pushZ n.z c0 c1)=.agg #[c0,c1]∧(zo4 n.z k z).ok ⟨n.b,n.r,n.z+1⟩ (X.pushZ n.z c0 c1) w':=by
 refine ⟨by simp [zo4,SV.den,TV.den,dnL,Cl.den,Env.pushZ],fun c hc=>?_⟩
 have hg:IsInt w' k ((X.pushZ n.z c0 c1).Z n.z 0) ((X.pushZ n.z c0 c1).Z n.z 1) z:=by simpa [Env.pushZ] using h1
 have hlt:Nat.blt n.z (n.z+1)=true:=zn3 (by omega)
 simp only [List.mem_cons,List.not_mem_nil,or_false] at hc
 rcases hc with rfl | rfl<;>refine ⟨?_,hg⟩<;>simp only [Cl.lt,hlt]<;>rfl
theorem ze5 {e:Ending} {k:Nat} {z:Int} (h:(∃ c0 c1,e=.returned (.agg #[c0,c1])∧IsInt w' k c0 c1 z)∧Gr w w'):(Tr.leaf (zo4 n.z k z) 0 1).holds n X w e w':=by
 obtain ⟨⟨c0,c1,rfl,h1⟩,g⟩:=h
 obtain ⟨a,b⟩:=zv9 (n:=n) (X:=X) h1
 exact ⟨X.pushZ n.z c0 c1,by rw [a],g,Env.pushZ_agree _ _ _ _,b⟩
theorem yb5 {k:Nat} {q:Rat} {c0 c1 c2 c3:Value} (h1:IsRat w' k c0 c1 c2 c3 q):(zr5 n.r k q).den (X.pushR n.r c0 c1 c2 c3)=.agg #[c0,c1,c2,c3]∧(zr5 n.r k q).ok ⟨n.b,n.r+1,n.z⟩ (X.pushR n.r c0 c1 c2 c3) w':=by
 obtain ⟨X',a,b,c,d⟩:=zh0 (n:=n) (X:=X) (w:=w') (e:=.returned (.agg #[c0,c1,c2,c3])) ⟨⟨c0,c1,c2,c3,rfl,h1⟩,Gr.refl w'⟩
 refine ⟨by simp [zr5,SV.den,TV.den,dnL,Cl.den,Env.pushR],fun c hc=>?_⟩
 have hg:IsRat w' k ((X.pushR n.r c0 c1 c2 c3).R n.r 0) ((X.pushR n.r c0 c1 c2 c3).R n.r 1) ((X.pushR n.r c0 c1 c2 c3).R n.r 2) ((X.pushR n.r c0 c1 c2 c3).R n.r 3) q:=by simpa [Env.pushR] using h1
 have hlt:Nat.blt n.r (n.r+1)=true:=zn3 (by omega)
 simp only [List.mem_cons,List.not_mem_nil,or_false] at hc
 rcases hc with rfl | rfl | rfl | rfl<;>refine ⟨?_,hg⟩<;>simp only [Cl.lt,hlt]<;>rfl
def ratE (j k:Nat) (q:Rat) (e:Int):SV:=.st [.vg [.cr j 0 k q,.cr j 1 k q,.cr j 2 k q,.cr j 3 k q],.vc (.ci .i64 e e e)]
theorem zq1 {e:Ending} {k:Nat} {q:Rat} {er:Int} (h:(∃ c0 c1 c2 c3,e=.returned (.tuple #[.agg #[c0,c1,c2,c3],.int .i64 er])∧IsRat w' k c0 c1 c2 c3 q)∧Gr w w'):(Tr.leaf (ratE n.r k q er) 1 0).holds n X w e w':=by
 obtain ⟨⟨c0,c1,c2,c3,rfl,h1⟩,g⟩:=h
 obtain ⟨a,b⟩:=yb5 (n:=n) (X:=X) h1
 refine ⟨X.pushR n.r c0 c1 c2 c3,?_,g,Env.pushR_agree _ _ _ _ _ _,fun x hx=>?_⟩
 ·have a':TV.den (X.pushR n.r c0 c1 c2 c3) (.vg [.cr n.r 0 k q,.cr n.r 1 k q,.cr n.r 2 k q,.cr n.r 3 k q])=.agg #[c0,c1,c2,c3]:=a
  simp only [ratE,SV.den,List.map_cons,List.map_nil,a']
  rfl
 ·simp only [List.mem_cons,List.not_mem_nil,or_false] at hx
  rcases hx with rfl | rfl
  ·exact b
  ·exact ⟨rfl,Int.le_refl _,Int.le_refl _⟩
theorem txt_ok {k:Nat} {q:Rat} (h:Sz k q.num∧Sz k (q.den:Int)):(txt k q).ok n X w:=⟨rfl,fun k' q' e=>by cases e;exact ⟨rfl,h⟩⟩
theorem zG0 (z:Int):-1≤sgn z∧sgn z≤1:=by unfold sgn;split<;>(try split)<;>decide
end
section
variable {P:Program} {I:World→Prop} {f lim:Nat}
def con1 {α:Type} (g:SV→Option α) (c:α→Nat→Nat→Option Tr):ConT:=fun args nr nz=>match args with
 | [x]=>match g x with
  | some a=>c a nr nz
  | none=>none
 | _=>none
def con2 {α β:Type} (g:SV→Option α) (g2:SV→Option β) (c:α→β→Nat→Nat→Option Tr):ConT:=fun args nr nz=>match args with
 | [x,y]=>match g x,g2 y with
  | some a,some b=>c a b nr nz
  | _,_=>none
 | _=>none
theorem zi6 {α:Type} {g:SV→Option α} {c:α→Nat→Nat→Option Tr}
  (h:∀ (a:α) (x:SV) (n:Nn) (X:Env) (w:World) (T:Tr),I w→g x=some a→x.ok n X w→c a n.r n.z=some T→T.pre→Calls P f #[x.den X] w fun e w'=>T.holds n X w e w'):ConOK P I f (con1 g c):=by
 intro args X n w T hI ha hT hp
 unfold con1 at hT
 split at hT
 ·rename_i x
  split at hT
  ·rename_i a h1
   exact h a x n X w T hI h1 (ha x (by simp)) hT hp
  ·cases hT
 ·cases hT
theorem zw0 {α β:Type} {g:SV→Option α} {g2:SV→Option β} {c:α→β→Nat→Nat→Option Tr}
  (h:∀ (a:α) (b:β) (x y:SV) (n:Nn) (X:Env) (w:World) (T:Tr),I w→g x=some a→g2 y=some b→x.ok n X w→y.ok n X w→c a b n.r n.z=some T→T.pre→Calls P f #[x.den X,y.den X] w fun e w'=>T.holds n X w e w'):ConOK P I f (con2 g g2 c):=by
 intro args X n w T hI ha hT hp
 unfold con2 at hT
 split at hT
 ·rename_i x y
  split at hT
  ·rename_i a b h1 h2
   exact h a b x y n X w T hI h1 h2 (ha x (by simp)) (ha y (by simp)) hT hp
  ·cases hT
 ·cases hT
end
def tr (b:Bool) (T:Tr):Option Tr:=if b then some T else none
theorem zg6 {b:Bool} {T U:Tr} (h:tr b T=some U):b=true∧T=U:=by
 unfold tr at h
 split at h
 ·cases h;exact ⟨by assumption,rfl⟩
 ·cases h
theorem IsRat.szr {w:World} {k:Nat} {c0 c1 c2 c3:Value} {q:Rat} (h:IsRat w k c0 c1 c2 c3 q):Sz k q.num∧Sz k (q.den:Int):=by
 refine ⟨h.num.sz,?_⟩
 obtain ⟨D,h2,rfl | ⟨rfl,e⟩⟩:=h.den
 ·exact h2.sz
 ·rw [e]
  have:=h.big
  show (1:Nat)<2 ^ k
  exact Nat.one_lt_two_pow (by omega)
def cNeg:ConT:=con1 zq0 fun | (k,a),nr,_=>some (.leaf (zr5 nr k (-a)) 1 0)
def cFrom:ConT:=con1 as64 fun z nr _=>some (.leaf (zr5 nr 64 (z:Rat)) 1 0)
def cComp:ConT:=con2 zq0 zq0 fun | (k,a),(m,b),_,_=>tr (Nat.ble (k+m) 100000) (.leaf (sgnV (zc0 a b)) 0 0)
def cSign:ConT:=con1 zq0 fun | (_k,a),_,_=>some (.leaf (sgnV (sgn a.num)) 0 0)
def cNumb:ConT:=con1 zq0 fun | (k,a),_,_=>tr (Nat.ble k 800000) (.leaf (txt k a) 0 0)
def cNum:ConT:=con1 zq0 fun | (k,a),_,nz=>some (.leaf (zo4 nz k a.num) 0 1)
def cDen:ConT:=con1 zq0 fun | (k,a),_,nz=>some (.leaf (zo4 nz k (a.den:Int)) 0 1)
def cDiv:ConT:=con2 zq0 zq0 fun | (k,a),(m,b),nr,_=>tr (Nat.ble (k+m) 100000) (.br (decide (b=0)) (.leaf (.st [.vg [.cb false (some false),.cv (.slice none 0 0),.cb false (some false),.cv (.slice none 0 0)],.vc (.ci .i64 19 19 19)]) 0 0) (.leaf (ratE nr (k+m) (a/b) 0) 1 0))
def zO4:ConT:=con1 as64 fun z _ nz=>some (.leaf (zo4 nz 64 z) 0 1)
def cZMul:ConT:=con2 zF9 zF9 fun | (k,a),(m,b),_,nz=>tr (Nat.ble (k+m) 1000000) (.leaf (zo4 nz (k+m) (a*b)) 0 1)
def cZGcd:ConT:=con2 zF9 zF9 fun | (k,a),(m,b),_,nz=>tr (Nat.ble (k+m) 1000000) (.leaf (zo4 nz (k+m) (Int.gcd a b)) 0 1)
def cZDiv:ConT:=con2 zF9 zF9 fun | (k,a),(m,b),_,nz=>tr (Nat.ble (k+k+m+m+66) 1000000) (.as (decide (0<b)) (.leaf (.st [.vg [.cz nz 0 k (a/b),.cz nz 1 k (a/b)],.vg [.cz (nz+1) 0 m (a % b),.cz (nz+1) 1 m (a % b)],.vc (.ci .i64 0 0 0)]) 0 2))
def zG1 (most:Nat):ConT:=con1 asTxt fun | (k,a),nr,_=>tr (Nat.ble k 20000&&Nat.ble (2*k+5) most) (.leaf (ratE nr (max k 64) a 0) 1 0)
section
variable {I:World→Prop}
theorem zJ9:ConOK Tryz.prog I 89 cNeg:=zi6 fun ⟨k,a⟩ x n X w T _ h1 h2 hT _=>by
 cases hT
 obtain ⟨u0,u1,u2,u3,e1,f1⟩:=zd9 h1 h2
 rw [e1]
 exact (neg_r f1).mono fun e w' he=>zh0 he
theorem zB4:ConOK Tryz.prog I 42 cFrom:=zi6 fun a x n X w T _ h1 h2 hT _=>by
 cases hT
 obtain ⟨e1,h3,h4⟩:=yb4 h1 h2
 rw [e1]
 exact (zt1 a h3 h4 w).mono fun e w' he=>zh0 he
theorem zB5:ConOK Tryz.prog I 45 cComp:=zw0 fun ⟨k,a⟩ ⟨m,b⟩ x y n X w T _ h1 h2 hx hy hT _=>by
 obtain ⟨hb,rfl⟩:=zg6 hT
 obtain ⟨u0,u1,u2,u3,e1,f1⟩:=zd9 h1 hx
 obtain ⟨v0,v1,v2,v3,e2,f2⟩:=zd9 h2 hy
 rw [e1,e2]
 exact (zd3 f1 f2 (by simpa using hb)).mono fun e w' he=>zh7 he ⟨rfl,zG0 _⟩
theorem zB6:ConOK Tryz.prog I 54 cSign:=zi6 fun ⟨k,a⟩ x n X w T _ h1 h2 hT _=>by
 cases hT
 obtain ⟨u0,u1,u2,u3,e1,f1⟩:=zd9 h1 h2
 rw [e1]
 exact (zD5 f1).mono fun e w' he=>zh7 he ⟨rfl,zG0 _⟩
theorem zB7 (hI:∀ w,I w→Tab w):ConOK Tryz.prog I 35 cNumb:=zi6 fun ⟨k,a⟩ x n X w T hw h1 h2 hT _=>by
 obtain ⟨hb,rfl⟩:=zg6 hT
 obtain ⟨u0,u1,u2,u3,e1,f1⟩:=zd9 h1 h2
 rw [e1]
 exact (number_r f1 (by simpa using hb) (hI w hw)).mono fun e w' he=>zh7 he (txt_ok f1.szr)
theorem zK0:ConOK Tryz.prog I 79 cNum:=zi6 fun ⟨k,a⟩ x n X w T _ h1 h2 hT _=>by
 cases hT
 obtain ⟨u0,u1,u2,u3,e1,f1⟩:=zd9 h1 h2
 rw [e1]
 exact (num_r f1).mono fun e w' he=>ze5 he
theorem zK1:ConOK Tryz.prog I 65 cDen:=zi6 fun ⟨k,a⟩ x n X w T _ h1 h2 hT _=>by
 cases hT
 obtain ⟨u0,u1,u2,u3,e1,f1⟩:=zd9 h1 h2
 rw [e1]
 exact (ze1 f1).mono fun e w' he=>ze5 he
theorem num_ne {q:Rat} (h:q≠0):q.num≠0:=fun e=>h (Rat.num_eq_zero.1 e)
theorem zK2:ConOK Tryz.prog I 41 cDiv:=zw0 fun ⟨k,a⟩ ⟨m,b⟩ x y n X w T _ h1 h2 hx hy hT _=>by
 obtain ⟨hb,rfl⟩:=zg6 hT
 obtain ⟨u0,u1,u2,u3,e1,f1⟩:=zd9 h1 hx
 obtain ⟨v0,v1,v2,v3,e2,f2⟩:=zd9 h2 hy
 rw [e1,e2]
 by_cases h0:b=0
 ·refine (div_0 f1 f2 (by rw [h0];rfl)).mono fun e w' he=>⟨fun _=>zh7 he fun x hx=>?_,fun h=>absurd h0 (of_decide_eq_false h)⟩
  simp only [List.mem_cons,List.not_mem_nil,or_false] at hx
  rcases hx with rfl | rfl
  ·intro c hc
   simp only [List.mem_cons,List.not_mem_nil,or_false] at hc
   rcases hc with rfl | rfl | rfl | rfl<;>refine ⟨rfl,?_⟩<;>first | rfl | (intro v hv;cases hv;rfl)
  ·exact ⟨rfl,Int.le_refl _,Int.le_refl _⟩
 ·exact (div_a f1 f2 (by simpa using hb) (num_ne h0)).mono fun e w' he=>⟨fun h=>absurd (of_decide_eq_true h) h0,fun _=>zq1 he⟩
theorem zw1:ConOK Tryz.prog I 66 zO4:=zi6 fun a x n X w T _ h1 h2 hT _=>by
 cases hT
 obtain ⟨e1,h3,h4⟩:=yb4 h1 h2
 rw [e1]
 exact (zt3 a h3 h4 w).mono fun e w' he=>ze5 he
theorem zB8:ConOK Tryz.prog I 64 cZMul:=zw0 fun ⟨k,a⟩ ⟨m,b⟩ x y n X w T _ h1 h2 hx hy hT _=>by
 obtain ⟨hb,rfl⟩:=zg6 hT
 obtain ⟨u0,u1,e1,f1⟩:=zk7 h1 hx
 obtain ⟨v0,v1,e2,f2⟩:=zk7 h2 hy
 rw [e1,e2]
 exact (zf9 f1 f2 (by simpa using hb)).mono fun e w' he=>ze5 he
theorem zB9:ConOK Tryz.prog I 75 cZGcd:=zw0 fun ⟨k,a⟩ ⟨m,b⟩ x y n X w T _ h1 h2 hx hy hT _=>by
 obtain ⟨hb,rfl⟩:=zg6 hT
 obtain ⟨u0,u1,e1,f1⟩:=zk7 h1 hx
 obtain ⟨v0,v1,e2,f2⟩:=zk7 h2 hy
 rw [e1,e2]
 exact (zr6 f1 f2 (by simpa using hb)).mono fun e w' he=>ze5 he
theorem zC0:ConOK Tryz.prog I 77 cZDiv:=zw0 fun ⟨k,a⟩ ⟨m,b⟩ x y n X w T _ h1 h2 hx hy hT hp=>by
 obtain ⟨hb,rfl⟩:=zg6 hT
 obtain ⟨u0,u1,e1,f1⟩:=zk7 h1 hx
 obtain ⟨v0,v1,e2,f2⟩:=zk7 h2 hy
 rw [e1,e2]
 refine (zg8 f1 f2 (of_decide_eq_true hp.1) (by simpa using hb)).mono fun e w' he=>?_
 obtain ⟨⟨c0,c1,c2,c3,rfl,g1,g2⟩,g⟩:=he
 have k1:=zv9 (n:=n) (X:=X) g1
 have ab:=Env.pushZ_agree X n c0 c1
 have k2:=zv9 (n:=⟨n.b,n.r,n.z+1⟩) (X:=X.pushZ n.z c0 c1) g2
 have aa:=Env.pushZ_agree (X.pushZ n.z c0 c1) ⟨n.b,n.r,n.z+1⟩ c2 c3
 refine ⟨_,?_,g,ab.trans (aa.mono ⟨Nat.le_refl _,Nat.le_refl _,Nat.le_succ _⟩),fun x hx=>?_⟩
 ·have a1:TV.den ((X.pushZ n.z c0 c1).pushZ (n.z+1) c2 c3) (.vg [.cz n.z 0 k (a/b),.cz n.z 1 k (a/b)])=.agg #[c0,c1]:=by
   rw [← TV.den_agree aa (x:=.vg _) (W:=w') k1.2];exact k1.1
  have a2:TV.den ((X.pushZ n.z c0 c1).pushZ (n.z+1) c2 c3) (.vg [.cz (n.z+1) 0 m (a % b),.cz (n.z+1) 1 m (a % b)])=.agg #[c2,c3]:=k2.1
  simp only [SV.den,List.map_cons,List.map_nil,a1,a2]
  rfl
 ·simp only [List.mem_cons,List.not_mem_nil,or_false] at hx
  rcases hx with rfl | rfl | rfl
  ·exact TV.ok_to (x:=.vg _) (m:=⟨n.b,n.r,n.z+1⟩) (n:=⟨n.b,n.r,n.z+2⟩) ⟨Nat.le_refl _,Nat.le_refl _,Nat.le_succ _⟩ aa (Kp.refl w') k1.2
  ·exact k2.2
  ·exact ⟨rfl,Int.le_refl _,Int.le_refl _⟩
theorem zC1 (hI:∀ w,I w→Mx w):ConOK Tryz.prog I 121 (zG1 400):=zi6 fun ⟨k,a⟩ x n X w T hw h1 h2 hT _=>by
 obtain ⟨hb,rfl⟩:=zg6 hT
 simp only [Bool.and_eq_true,Nat.ble_eq] at hb
 obtain ⟨e1,f1⟩:=zO3 h1 h2
 rw [e1]
 have hl:=zn1 f1.1 f1.2
 exact (zz4 (k:=max k 64) a ⟨f1.1.mono (by omega),f1.2.mono (by omega)⟩ (by omega) (by omega) (by omega) w (hI w hw)).mono fun e w' he=>zq1 he
theorem zC2 (hI:∀ w,I w→Mx w):ConOK Tryz.prog I 23 (zG1 65536):=zi6 fun ⟨k,a⟩ x n X w T hw h1 h2 hT _=>by
 obtain ⟨hb,rfl⟩:=zg6 hT
 simp only [Bool.and_eq_true,Nat.ble_eq] at hb
 obtain ⟨e1,f1⟩:=zO3 h1 h2
 rw [e1]
 have hl:=zn1 f1.1 f1.2
 exact (readr_q (k:=max k 64) a ⟨f1.1.mono (by omega),f1.2.mono (by omega)⟩ (by omega) (by omega) (by omega) w (hI w hw)).mono fun e w' he=>zq1 he
end
-- LEFT OUT:cTAdd_ok cTDiv_ok cTFrom_ok cTMul_ok cTNeg_ok cTSub_ok cZInt_ok int_c int_i r1_check r1_check_l r1_digits r1_digits_i r1_divmod r1_from r1_from_n r1_from_p r1_gcd r1_minus r1_minus_f r1_minus_i r1_mul r1_order r1_order_i r1_plus r1_plus_i r1_sign_i r1_sign_n r1_sign_p r1_sign_v r1_sign_z r1_sub_one r1_text r1_text_s r1_text_z r1_trim r2_check r2_check_l r2_digits r2_parts r2_parts_q r2_slash r2_text_q r2_zeros text_at wpList_makeI
def envR (cs:List Value):Env:=⟨fun _=>0,fun j c=>cs.getD (4*j+c) undef,fun _ _=>undef,[],[]⟩
def okA (n:Nn) (X:Env) (W:World):List Cl→Prop
 | []=>True
 | c::l=>c.ok n X W∧okA n X W l
theorem zm6 {n:Nn} {X:Env} {W:World}:∀ {l:List Cl},okA n X W l→okL n X W l
 | [],_,_,h=>by cases h
 | c::l,hh,x,h=>by
  rcases List.mem_cons.1 h with rfl | h
  ·exact hh.1
  ·exact zm6 hh.2 x h
theorem okF1 {n:Nn} {X:Env} {W:World} {v:SV} (h:v.ok n X W):okF n X W [v]:=fun x hx=>by rw [List.mem_singleton] at hx;exact hx ▸ h
end Go.Proofs.YthhbibpaeonecaaGreatDoor
namespace Go.Proofs.YthhbibpaeonecaaGreatDoor
end Go.Proofs.YthhbibpaeonecaaGreatDoor
namespace Go.Proofs.YthhbibpaeonecaaGreatDoor
open Go.RowKit
section
variable {P:Program} {a:Act} {o:Oper} {w:World} {Q:Exit→Act→World→Prop}
theorem zY0 (t t2:TypeId) (x y:Operand) (A B C:Int) (hop:o.op=.binOp .quo t x y t2) (hx:a.eval x=.int .i64 A) (hy:a.eval y=.int .i64 B) (hC:Int.tdiv A B=C) (h1:-9223372036854775808≤C) (h2:C≤9223372036854775807) (hB:0<B):RunV P a o w (.int .i64 C):=by
 have h0:¬ B=0:=by omega
 have e2:IntKind.i64.wrap C=C:=by rw [IntKind.wrap_i64];omega
 unfold RunV execOp
 simp only [hop,hx,hy]
 simp [go_sem,binOp,eqGuard,Op.intDiv,h0,hC,e2]
end

theorem IsRat.small {w:World} {K:Nat} {c0 c1 c2 c3:Value} {z:Int} (h:IsRat w K c0 c1 c2 c3 (z:Rat)) (h0:-9223372036854775808≤z) (h1:z≤9223372036854775807):IsRat w 64 c0 c1 c2 c3 (z:Rat):=by
 obtain ⟨hn,⟨D,hd,hD⟩,_⟩:=h
 have e1:((z:Rat)).num=z:=Rat.num_intCast z
 have e2:((z:Rat)).den=1:=Rat.den_intCast z
 rw [e1] at hn
 refine ⟨by rw [e1];exact hn.resz (Sz.i64 h0 h1),⟨D,hd.resz ?_,hD⟩,Nat.le_refl 64⟩
 unfold Sz
 rw [e2] at hD
 rcases hD with h | ⟨h,_⟩<;>subst h<;>decide
theorem zY1 {g n:Int} (hg:0≤g) (hn:0<n):Int.gcd n (g % n)=Int.gcd g n:=by
 obtain ⟨a,rfl⟩:=Int.eq_ofNat_of_zero_le hg
 obtain ⟨b,rfl⟩:=Int.eq_ofNat_of_zero_le (Int.le_of_lt hn)
 rw [← Int.natCast_emod,Int.gcd_natCast_natCast,Int.gcd_natCast_natCast,Nat.gcd_comm b,← Nat.gcd_rec,Nat.gcd_comm]
def pden4 (a1 a2 a3 a4:Rat):Int:=zR6 (zR6 (zR6 (zR6 1 (a1.den:Int)) (a2.den:Int)) (a3.den:Int)) (a4.den:Int)
def wsgn (a1 a2 a3 a4:Rat):Int:=if sgn a1.num=0 then (if sgn a2.num=0 then (if sgn a3.num=0 then sgn a4.num else sgn a3.num) else sgn a2.num) else sgn a1.num
def wout (a1 a2 a3 a4 x:Rat):Int:=x.num*(pden4 a1 a2 a3 a4/(x.den:Int))*wsgn a1 a2 a3 a4
def wgcd (a1 a2 a3 a4:Rat):Int:=
 (Int.gcd (Int.gcd (Int.gcd (Int.gcd 0 (wout a1 a2 a3 a4 a1):Int) (wout a1 a2 a3 a4 a2):Int) (wout a1 a2 a3 a4 a3):Int) (wout a1 a2 a3 a4 a4):Int)
def wz (a1 a2 a3 a4 x:Rat):Int:=wout a1 a2 a3 a4 x/wgcd a1 a2 a3 a4
theorem zO9 (a:Rat):0<(a.den:Int):=by have:=a.den_pos;omega
section
variable {a11 a12 a13 a21 a22 a23 a31 a32 a33:Rat}
end
def qgcd (n1 n2 n3 n4:Int):Int:=(Int.gcd (Int.gcd (Int.gcd (Int.gcd 0 n1:Int) n2:Int) n3:Int) n4:Int)
def qsgn (n1 n2 n3 n4:Int):Int:=if n1=0 then (if n2=0 then (if n3=0 then sgn n4 else sgn n3) else sgn n2) else sgn n1
def qprim (n1 n2 n3 n4 n:Int):Int:=n/qgcd n1 n2 n3 n4*qsgn n1 n2 n3 n4
theorem zE4 (n:Int) {d:Nat} (hd:0<d):Rat.divInt n (d:Int)*((d:Int):Rat)=(n:Rat):=by
 rw [Rat.divInt_eq_div]
 have:((d:Int):Rat)≠0:=by
  intro e
  have:=Rat.intCast_inj.1 (e.trans rfl:((d:Int):Rat)=((0:Int):Rat))
  omega
 exact Rat.div_mul_cancel this
theorem zE5 (x:Rat):x*((x.den:Int):Rat)=(x.num:Rat):=by
 have:=zE4 x.num x.den_pos
 rw [Rat.num_divInt_den] at this
 exact this
structure RotQ (a11 a12 a13 a21 a22 a23 a31 a32 a33 w x y z:Rat):Prop where
 e11:a11*(w*w+x*x+y*y+z*z)=w*w+x*x - y*y - z*z
 e12:a12*(w*w+x*x+y*y+z*z)=2*(x*y - w*z)
 e13:a13*(w*w+x*x+y*y+z*z)=2*(x*z+w*y)
 e21:a21*(w*w+x*x+y*y+z*z)=2*(x*y+w*z)
 e22:a22*(w*w+x*x+y*y+z*z)=w*w - x*x+y*y - z*z
 e23:a23*(w*w+x*x+y*y+z*z)=2*(y*z - w*x)
 e31:a31*(w*w+x*x+y*y+z*z)=2*(x*z - w*y)
 e32:a32*(w*w+x*x+y*y+z*z)=2*(y*z+w*x)
 e33:a33*(w*w+x*x+y*y+z*z)=w*w - x*x - y*y+z*z
theorem norm_mul (a b c d p q r s:Rat):
  (a*p - b*q - c*r - d*s)*(a*p - b*q - c*r - d*s)+(a*q+b*p+c*s - d*r)*(a*q+b*p+c*s - d*r)+(a*r - b*s+c*p+d*q)*(a*r - b*s+c*p+d*q)+(a*s+b*r - c*q+d*p)*(a*s+b*r - c*q+d*p)
  =(a*a+b*b+c*c+d*d)*(p*p+q*q+r*r+s*s):=by grind
theorem rotq_mul {a11 a12 a13 a21 a22 a23 a31 a32 a33 aj ac ai ab ae ad ah aa af a b c d p q r s:Rat}
  (h:RotQ a11 a12 a13 a21 a22 a23 a31 a32 a33 a b c d) (g:RotQ aj ac ai ab ae ad ah aa af p q r s):
  RotQ (0+a11*aj+a12*ab+a13*ah) (0+a11*ac+a12*ae+a13*aa) (0+a11*ai+a12*ad+a13*af)
   (0+a21*aj+a22*ab+a23*ah) (0+a21*ac+a22*ae+a23*aa) (0+a21*ai+a22*ad+a23*af)
   (0+a31*aj+a32*ab+a33*ah) (0+a31*ac+a32*ae+a33*aa) (0+a31*ai+a32*ad+a33*af)
   (a*p - b*q - c*r - d*s) (a*q+b*p+c*s - d*r) (a*r - b*s+c*p+d*q) (a*s+b*r - c*q+d*p):=by
 obtain ⟨av,ar,aC,ap,aE,aw,az,aG,ay⟩:=h
 obtain ⟨au,aF,al,aB,ax,aq,aA,aD,ak⟩:=g
 have key:∀ x y z u v t X Y Z U V T N M:Rat,x*N=X→y*N=Y→z*N=Z→u*M=U→v*M=V→t*M=T→
   (0+x*u+y*v+z*t)*(N*M)=X*U+Y*V+Z*T:=by
  intro x y z u v t X Y Z U V T N M h1 h2 h3 h4 h5 h6
  subst h1 h2 h3 h4 h5 h6
  grind
 constructor<;>rw [norm_mul]
 ·rw [key _ _ _ _ _ _ _ _ _ _ _ _ _ _ av ar aC au aB aA];grind
 ·rw [key _ _ _ _ _ _ _ _ _ _ _ _ _ _ av ar aC aF ax aD];grind
 ·rw [key _ _ _ _ _ _ _ _ _ _ _ _ _ _ av ar aC al aq ak];grind
 ·rw [key _ _ _ _ _ _ _ _ _ _ _ _ _ _ ap aE aw au aB aA];grind
 ·rw [key _ _ _ _ _ _ _ _ _ _ _ _ _ _ ap aE aw aF ax aD];grind
 ·rw [key _ _ _ _ _ _ _ _ _ _ _ _ _ _ ap aE aw al aq ak];grind
 ·rw [key _ _ _ _ _ _ _ _ _ _ _ _ _ _ az aG ay au aB aA];grind
 ·rw [key _ _ _ _ _ _ _ _ _ _ _ _ _ _ az aG ay aF ax aD];grind
 ·rw [key _ _ _ _ _ _ _ _ _ _ _ _ _ _ az aG ay al aq ak];grind
theorem zW2 {a11 a12 a13 a21 a22 a23 a31 a32 a33 w x y z:Rat} (h:RotQ a11 a12 a13 a21 a22 a23 a31 a32 a33 w x y z):
  RotQ a11 a21 a31 a12 a22 a32 a13 a23 a33 w (-x) (-y) (-z):=by
 obtain ⟨h11,h12,h13,h21,h22,h23,h31,h32,h33⟩:=h
 have e:w*w+-x*-x+-y*-y+-z*-z=w*w+x*x+y*y+z*z:=by grind
 constructor<;>rw [e]<;>grind
theorem rotq_id:RotQ 1 0 0 0 1 0 0 0 1 1 0 0 0:=by constructor<;>grind
theorem nq_ne {w x y z:Rat} (h:¬(w=0∧x=0∧y=0∧z=0)):w*w+x*x+y*y+z*z≠0:=by
 intro e
 have sq:∀ t:Rat,0≤t*t:=fun t=>by
  rcases (Rat.le_total:(0:Rat)≤t∨t≤0) with ht | ht
  ·exact Rat.mul_nonneg ht ht
  ·have:=Rat.mul_nonneg (show (0:Rat)≤-t by grind) (show (0:Rat)≤-t by grind)
   grind
 have s1:=sq w;have s2:=sq x;have s3:=sq y;have s4:=sq z
 have z0:∀ t:Rat,t*t=0→t=0:=fun t ht=>by rcases Rat.mul_eq_zero.1 ht with h | h<;>exact h
 exact h ⟨z0 _ (by grind),z0 _ (by grind),z0 _ (by grind),z0 _ (by grind)⟩
theorem zc8 {N a b:Rat} (hN:N≠0) (h:a*N=b*N):a=b:=by grind
theorem zW3 {a11 a12 a13 a21 a22 a23 a31 a32 a33 w x y z k:Rat} (hk:k≠0) (h:RotQ a11 a12 a13 a21 a22 a23 a31 a32 a33 (k*w) (k*x) (k*y) (k*z)):
  RotQ a11 a12 a13 a21 a22 a23 a31 a32 a33 w x y z:=by
 obtain ⟨h11,h12,h13,h21,h22,h23,h31,h32,h33⟩:=h
 have hk2:k*k≠0:=fun e=>by rcases Rat.mul_eq_zero.1 e with h | h<;>exact hk h
 constructor<;>apply zc8 hk2<;>grind
theorem zH9 {a11 a12 a13 a21 a22 a23 a31 a32 a33 ah ae ac ad aa ai aj ab af w x y z:Rat} (h0:¬(w=0∧x=0∧y=0∧z=0))
  (h:RotQ a11 a12 a13 a21 a22 a23 a31 a32 a33 w x y z) (g:RotQ ah ae ac ad aa ai aj ab af w x y z):
  a11=ah∧a12=ae∧a13=ac∧a21=ad∧a22=aa∧a23=ai∧a31=aj∧a32=ab∧a33=af:=by
 have hN:=nq_ne h0
 exact ⟨zc8 hN (h.e11.trans g.e11.symm),zc8 hN (h.e12.trans g.e12.symm),zc8 hN (h.e13.trans g.e13.symm),zc8 hN (h.e21.trans g.e21.symm),zc8 hN (h.e22.trans g.e22.symm),zc8 hN (h.e23.trans g.e23.symm),zc8 hN (h.e31.trans g.e31.symm),zc8 hN (h.e32.trans g.e32.symm),zc8 hN (h.e33.trans g.e33.symm)⟩
theorem zE6 {a11 a12 a13 a21 a22 a23 a31 a32 a33 w x y z:Rat} (h0:¬(w=0∧x=0∧y=0∧z=0))
  (h:RotQ a11 a12 a13 a21 a22 a23 a31 a32 a33 w x y z):
  0+a11*a11+a12*a12+a13*a13=1∧0+a11*a21+a12*a22+a13*a23=0∧0+a11*a31+a12*a32+a13*a33=0∧
  0+a21*a11+a22*a12+a23*a13=0∧0+a21*a21+a22*a22+a23*a23=1∧0+a21*a31+a22*a32+a23*a33=0∧
  0+a31*a11+a32*a12+a33*a13=0∧0+a31*a21+a32*a22+a33*a23=0∧0+a31*a31+a32*a32+a33*a33=1:=by
 have hN:=nq_ne h0
 have m:=rotq_mul h (zW2 h)
 have hk:w*w+x*x+y*y+z*z≠0:=hN
 have e1:w*w - x*-x - y*-y - z*-z=(w*w+x*x+y*y+z*z)*1:=by grind
 have e2:w*-x+x*w+y*-z - z*-y=(w*w+x*x+y*y+z*z)*0:=by grind
 have e3:w*-y - x*-z+y*w+z*-x=(w*w+x*x+y*y+z*z)*0:=by grind
 have e4:w*-z+x*-y - y*-x+z*w=(w*w+x*x+y*y+z*z)*0:=by grind
 rw [e1,e2,e3,e4] at m
 exact zH9 (by rintro ⟨h,_⟩;exact absurd h (by decide)) (zW3 hk m) rotq_id
theorem rotq_det {a11 a12 a13 a21 a22 a23 a31 a32 a33 w x y z:Rat} (h0:¬(w=0∧x=0∧y=0∧z=0))
  (h:RotQ a11 a12 a13 a21 a22 a23 a31 a32 a33 w x y z):
  a11*(a22*a33 - a23*a32)+a12*(a23*a31 - a21*a33)+a13*(a21*a32 - a22*a31)=1:=by
 have hN:=nq_ne h0
 obtain ⟨ae,ad,aa,ab,ac,af,aj,ah,ai⟩:=h
 generalize hM:w*w+x*x+y*y+z*z=N at*
 have cof:∀ p q r s P Q R S:Rat,p*N=P→q*N=Q→r*N=R→s*N=S→(p*q - r*s)*(N*N)=P*Q - R*S:=by
  intro p q r s P Q R S h1 h2 h3 h4;subst h1 h2 h3 h4;grind
 have c1:=cof _ _ _ _ _ _ _ _ ac ai af ah
 have c2:=cof _ _ _ _ _ _ _ _ af aj ab ai
 have c3:=cof _ _ _ _ _ _ _ _ ab ah ac aj
 have d1:(a22*a33 - a23*a32)*(N*N)=(w*w+x*x - y*y - z*z)*N:=by rw [c1,← hM];grind
 have d2:(a23*a31 - a21*a33)*(N*N)=(2*(x*y - w*z))*N:=by rw [c2,← hM];grind
 have d3:(a21*a32 - a22*a31)*(N*N)=(2*(x*z+w*y))*N:=by rw [c3,← hM];grind
 have f1:a22*a33 - a23*a32=a11:=by apply zc8 hN;apply zc8 hN;rw [ae];grind
 have f2:a23*a31 - a21*a33=a12:=by apply zc8 hN;apply zc8 hN;rw [ad];grind
 have f3:a21*a32 - a22*a31=a13:=by apply zc8 hN;apply zc8 hN;rw [aa];grind
 rw [f1,f2,f3]
 have:(a11*a11+a12*a12+a13*a13)*(N*N)=1*(N*N):=by
  have k:(a11*a11+a12*a12+a13*a13)*(N*N)=(a11*N)*(a11*N)+(a12*N)*(a12*N)+(a13*N)*(a13*N):=by grind
  rw [k,ae,ad,aa,← hM];grind
 exact zc8 (fun e=>by rcases Rat.mul_eq_zero.1 e with h | h<;>exact hN h) this
theorem zQ7 {a:Rat} {n d:Int} (hd:0<d) (h:a*(d:Rat)=(n:Rat)):a.num.natAbs≤n.natAbs∧(a.den:Int)≤d:=by
 have e:=zE5 a
 have hp:=zO9 a
 have k:a.num*d=n*(a.den:Int):=by
  have:((a.num*d:Int):Rat)=((n*(a.den:Int):Int):Rat):=by
   rw [Rat.intCast_mul,Rat.intCast_mul,← h,← e]
   generalize ((a.den:Int):Rat)=x
   generalize (d:Rat)=y
   grind
  exact Rat.intCast_inj.1 this
 have hdvd:(a.den:Int)∣a.num*d:=⟨n,by rw [k,Int.mul_comm]⟩
 have h2:(a.den:Int)∣d:=by
  have h1:a.den∣a.num.natAbs*d.natAbs:=by
   have:=Int.natAbs_dvd_natAbs.2 hdvd
   rwa [Int.natAbs_mul] at this
  have h3:=Nat.Coprime.dvd_of_dvd_mul_left (Nat.coprime_comm.1 a.reduced) h1
  rcases Int.natAbs_eq d with e | e
  ·rw [e];exact Int.ofNat_dvd.2 h3
  ·rw [e];exact Int.dvd_neg.2 (Int.ofNat_dvd.2 h3)
 obtain ⟨c,hc⟩:=h2
 have hcp:0<c:=by
  rcases Int.lt_or_le 0 c with h | h
  ·exact h
  ·have:=Int.mul_nonpos_of_nonneg_of_nonpos (Int.le_of_lt hp) h;omega
 have hn:n=a.num*c:=by
  rw [hc,← Int.mul_assoc,Int.mul_right_comm] at k
  exact (Int.eq_of_mul_eq_mul_right (by omega) k).symm
 constructor
 ·rw [hn,Int.natAbs_mul]
  exact Nat.le_mul_of_pos_right _ (by omega)
 ·rw [hc]
  have:=Int.mul_le_mul_of_nonneg_left (show 1≤c by omega) (Int.le_of_lt hp)
  omega
theorem zW1 {k:Nat} {a:Rat} {n d:Int} (hd:0<d) (h:a*(d:Rat)=(n:Rat)) (h1:n.natAbs<2 ^ k) (h2:d<2 ^ k):RS k a:=by
 obtain ⟨e1,e2⟩:=zQ7 hd h
 refine ⟨Nat.lt_of_le_of_lt e1 h1,?_⟩
 unfold Sz
 have:((2 ^ k:Nat):Int)=2 ^ k:=by simp
 have:=zO9 a
 omega
theorem zr8 {a b:Int} (h1:-b≤a) (h2:a≤b):0≤a*a∧a*a≤b*b:=by
 have hb:0≤b:=by omega
 refine ⟨?_,?_⟩
 ·rcases Int.le_total 0 a with h | h
  ·exact Int.mul_nonneg h h
  ·exact Int.mul_nonneg_of_nonpos_of_nonpos h h
 ·rcases Int.le_total 0 a with h | h
  ·exact Int.mul_le_mul h2 h2 h hb
  ·have:=Int.mul_le_mul (show -a≤b by omega) (show -a≤b by omega) (by omega) hb
   rwa [Int.neg_mul_neg] at this
theorem rotq_rs {a11 a12 a13 a21 a22 a23 a31 a32 a33:Rat} {w x y z:Int} (h0:¬(w=0∧x=0∧y=0∧z=0))
  (b0:-1000000≤w∧w≤1000000) (b1:-1000000≤x∧x≤1000000) (b2:-1000000≤y∧y≤1000000) (b3:-1000000≤z∧z≤1000000)
  (h:RotQ a11 a12 a13 a21 a22 a23 a31 a32 a33 w x y z):
  RS 50 a11∧RS 50 a12∧RS 50 a13∧RS 50 a21∧RS 50 a22∧RS 50 a23∧RS 50 a31∧RS 50 a32∧RS 50 a33:=by
 obtain ⟨ac,ab,ah,aa,ai,ad,af,aj,ae⟩:=h
 have sw:=zr8 b0.1 b0.2;have sx:=zr8 b1.1 b1.2;have sy:=zr8 b2.1 b2.2;have sz:=zr8 b3.1 b3.2
 have hN:0<w*w+x*x+y*y+z*z:=by
  have z0:∀ t:Int,t*t=0→t=0:=fun t ht=>by rcases Int.mul_eq_zero.1 ht with h | h<;>exact h
  rcases Int.lt_or_le 0 (w*w+x*x+y*y+z*z) with h | h
  ·exact h
  ·exact absurd ⟨z0 _ (by omega),z0 _ (by omega),z0 _ (by omega),z0 _ (by omega)⟩ h0
 have pr:∀ p q:Int,-1000000≤p∧p≤1000000→-1000000≤q∧q≤1000000→-1000000000000≤p*q∧p*q≤1000000000000:=by
  intro p q hp hq
  have s1:=zr8 (a:=p+q) (b:=2000000) (by omega) (by omega)
  have s2:=zr8 (a:=p - q) (b:=2000000) (by omega) (by omega)
  have e1:(p+q)*(p+q)=p*p+2*(p*q)+q*q:=by grind
  have e2:(p - q)*(p - q)=p*p - 2*(p*q)+q*q:=by grind
  have:=zr8 hp.1 hp.2
  have:=zr8 hq.1 hq.2
  have e3:(p+q)*(p+q) - (p - q)*(p - q)=4*(p*q):=by grind
  omega
 have wx:=pr w x b0 b1;have wy:=pr w y b0 b2;have wz:=pr w z b0 b3;have xy:=pr x y b1 b2;have xz:=pr x z b1 b3;have yz:=pr y z b2 b3
 have go:∀ (a:Rat) (n:Int),a*(w*w+x*x+y*y+z*z)=(n:Rat)→n.natAbs<2 ^ 50→RS 50 a:=by
  intro a n e hn
  refine zW1 (n:=n) hN ?_ hn (by omega)
  rw [Rat.intCast_add,Rat.intCast_add,Rat.intCast_add,Rat.intCast_mul,Rat.intCast_mul,Rat.intCast_mul,Rat.intCast_mul];exact e
 refine ⟨go _ (w*w+x*x - y*y - z*z) (ac.trans ?_) (by omega),go _ (2*(x*y - w*z)) (ab.trans ?_) (by omega),go _ (2*(x*z+w*y)) (ah.trans ?_) (by omega),
  go _ (2*(x*y+w*z)) (aa.trans ?_) (by omega),go _ (w*w - x*x+y*y - z*z) (ai.trans ?_) (by omega),go _ (2*(y*z - w*x)) (ad.trans ?_) (by omega),
  go _ (2*(x*z - w*y)) (af.trans ?_) (by omega),go _ (2*(y*z+w*x)) (aj.trans ?_) (by omega),go _ (w*w - x*x - y*y+z*z) (ae.trans ?_) (by omega)⟩<;>
  simp only [Rat.intCast_add,Rat.intCast_sub,Rat.intCast_mul]<;>rfl
theorem nq_int {w x y z:Int} (h:¬(w=0∧x=0∧y=0∧z=0)):¬((w:Rat)=0∧(x:Rat)=0∧(y:Rat)=0∧(z:Rat)=0):=by
 rintro ⟨h0,h1,h2,h3⟩
 exact h ⟨Rat.intCast_eq_zero_iff.1 h0,Rat.intCast_eq_zero_iff.1 h1,Rat.intCast_eq_zero_iff.1 h2,Rat.intCast_eq_zero_iff.1 h3⟩
theorem nq_posI {w x y z:Int} (h:¬(w=0∧x=0∧y=0∧z=0)):0<w*w+x*x+y*y+z*z:=by
 have sq:∀ t:Int,0≤t*t:=fun t=>by
  rcases Int.le_total 0 t with h | h
  ·exact Int.mul_nonneg h h
  ·exact Int.mul_nonneg_of_nonpos_of_nonpos h h
 have z0:∀ t:Int,t*t=0→t=0:=fun t ht=>by rcases Int.mul_eq_zero.1 ht with h | h<;>exact h
 have s1:=sq w;have s2:=sq x;have s3:=sq y;have s4:=sq z
 rcases Int.lt_or_le 0 (w*w+x*x+y*y+z*z) with hp | hp
 ·exact hp
 ·exact absurd ⟨z0 _ (by omega),z0 _ (by omega),z0 _ (by omega),z0 _ (by omega)⟩ h
structure VT (q0 q1 q2 q3:Int):Prop where
 b0:-12≤q0∧q0≤12
 b1:-12≤q1∧q1≤12
 b2:-12≤q2∧q2≤12
 b3:-12≤q3∧q3≤12
 g:qgcd q0 q1 q2 q3=1
 s:qsgn q0 q1 q2 q3=1
def chk (q0 q1 q2 q3 e:Int):Int:=
 if q0=0∧q1=0∧q2=0∧q3=0 then 19
 else if ¬((-12≤q0∧q0≤12)∧(-12≤q1∧q1≤12)∧(-12≤q2∧q2≤12)∧(-12≤q3∧q3≤12)) then 2
 else if ¬(qgcd q0 q1 q2 q3=1∧qsgn q0 q1 q2 q3=1) then 3 else e
theorem VT.ne {q0 q1 q2 q3:Int} (h:VT q0 q1 q2 q3):¬(q0=0∧q1=0∧q2=0∧q3=0):=by
 rintro ⟨rfl,rfl,rfl,rfl⟩;exact absurd h.s (by decide)
theorem VT.chk {q0 q1 q2 q3:Int} (h:VT q0 q1 q2 q3) (e:Int):chk q0 q1 q2 q3 e=e:=by
 unfold _root_.Go.Proofs.YthhbibpaeonecaaGreatDoor.chk
 rw [if_neg h.ne,if_neg (by simp only [Classical.not_not];exact ⟨h.b0,h.b1,h.b2,h.b3⟩),if_neg (by simp only [Classical.not_not];exact ⟨h.g,h.s⟩)]
theorem VT.prim {q0 q1 q2 q3:Int} (h:VT q0 q1 q2 q3) (n:Int):qprim q0 q1 q2 q3 n=n:=by
 unfold qprim;rw [h.g,h.s,Int.ediv_one,Int.mul_one]
theorem IsInt.tight {w:World} {k m:Nat} {x y:Value} {z:Int} (h:IsInt w k x y z) (hs:Sz m z):IsInt w m x y z:=by
 obtain ⟨ao,len,cap,h1,h2,h3,_⟩:=h
 exact ⟨ao,len,cap,h1,h2,h3,hs⟩
theorem IsRat.tight {w:World} {k m:Nat} {c0 c1 c2 c3:Value} {q:Rat} (h:IsRat w k c0 c1 c2 c3 q) (hs:RS m q) (hm:64≤m):IsRat w m c0 c1 c2 c3 q:=by
 obtain ⟨h1,⟨D,h2,h3⟩,_⟩:=h
 refine ⟨h1.tight hs.1,⟨D,h2.tight ?_,h3⟩,hm⟩
 rcases h3 with rfl | ⟨rfl,_⟩
 ·exact hs.2
 ·exact Nat.two_pow_pos m
def rats:List Cl→Option (List (Nat × Rat))
 | []=>some []
 | .cr j 0 k q::.cr j1 1 _ _::.cr j2 2 _ _::.cr j3 3 _ _::r=>if Nat.beq j1 j&&Nat.beq j2 j&&Nat.beq j3 j then (match rats r with | some l=>some ((k,q)::l) | none=>none) else none
 | a::b::c::d::r=>if falC a&&nilC b&&falC c&&nilC d then (match rats r with | some l=>some ((64,0)::l) | none=>none) else none
 | _=>none
def IsRats (w:World):List Value→List (Nat × Rat)→Prop
 | [],[]=>True
 | a::b::c::d::v,x::l=>IsRat w x.1 a b c d x.2∧IsRats w v l
 | _,_=>False
theorem zK3 {n:Nn} {X:Env} {w:World}:∀ {l:List Cl} {r:List (Nat × Rat)},rats l=some r→okL n X w l→IsRats w (l.map (Cl.den X)) r
 | l,r,h,hl=>by
  unfold rats at h
  split at h
  ·cases h;trivial
  ·rename_i j k q j1 _ _ j2 _ _ j3 _ _ t
   split at h
   ·rename_i hj
    simp only [Bool.and_eq_true,Nat.beq_eq] at hj
    obtain ⟨⟨rfl,rfl⟩,rfl⟩:=hj
    split at h
    ·rename_i l' hr
     cases h
     exact ⟨(hl (.cr j3 0 k q) (by simp)).2,zK3 hr fun c hc=>hl c (by simp [hc])⟩
    ·cases h
   ·cases h
  ·rename_i a b c d t _
   split at h
   ·rename_i hh
    simp only [Bool.and_eq_true] at hh
    obtain ⟨⟨⟨h1,h2⟩,h3⟩,h4⟩:=hh
    split at h
    ·rename_i l' hr
     cases h
     refine ⟨?_,zK3 hr fun c hc=>hl c (by simp [hc])⟩
     rw [zo2 h1 (hl a (by simp)),zo3 h2,zo2 h3 (hl c (by simp)),zo3 h4]
     exact IsRat.zero w (Nat.le_refl _)
    ·cases h
   ·cases h
  ·cases h
theorem IsRats.cons {w:World} {v:List Value} {x:Nat × Rat} {l:List (Nat × Rat)} (h:IsRats w v (x::l)):∃ a b c d u,v=a::b::c::d::u∧IsRat w x.1 a b c d x.2∧IsRats w u l:=by
 match v,h with
 | a::b::c::d::u,h=>exact ⟨a,b,c,d,u,rfl,h.1,h.2⟩
theorem IsRats.nil {w:World} {v:List Value} (h:IsRats w v []):v=[]:=by
 cases v with
 | nil=>rfl
 | cons a v=>simp [IsRats] at h
def Conv:List (Nat × Rat)→List (Nat × Rat)→Prop
 | [],[]=>True
 | (_,q)::l,(m,r)::l'=>(q=r∧RS m r∧64≤m)∧Conv l l'
 | _,_=>False
theorem IsRats.conv {w:World}:∀ {vs:List Value} {l l':List (Nat × Rat)},IsRats w vs l→Conv l l'→IsRats w vs l'
 | [],[],[],_,_=>trivial
 | a::b::c::d::vs,(k,q)::l,(m,r)::l',h,hc=>by
  obtain ⟨⟨rfl,h1,h2⟩,h3⟩:=hc
  exact ⟨h.1.tight h1 h2,IsRats.conv h.2 h3⟩
 | [],[],_::_,_,h=>by cases h
 | _,_::_,[],_,h=>by cases h
 | [],_::_,_::_,h,_=>by cases h
 | [_],_::_,_::_,h,_=>by cases h
 | [_,_],_::_,_::_,h,_=>by cases h
 | [_,_,_],_::_,_::_,h,_=>by cases h
 | _::_,[],_,h,_=>by simp [IsRats] at h
def zh8:Nat→List (Nat × Rat)→List Cl
 | _,[]=>[]
 | j,(k,q)::l=>.cr j 0 k q::.cr j 1 k q::.cr j 2 k q::.cr j 3 k q::zh8 (j+1) l
def zO5 (X:Env) (n:Nat) (vs:List Value):Env:={X with R:=fun i c=>if i<n then X.R i c else vs.getD (4*(i - n)+c) undef}
theorem zw2 {w:World} {X:Env} {n:Nn} (vs:List Value):∀ (l:List (Nat × Rat)) (us:List Value) (j m:Nat),IsRats w us l→vs.drop (4*j)=us→m=n.r+j+l.length→
  (zh8 (n.r+j) l).map (Cl.den (zO5 X n.r vs))=us∧okL ⟨n.b,m,n.z⟩ (zO5 X n.r vs) w (zh8 (n.r+j) l)
 | [],[],j,m,_,_,_=>⟨rfl,fun _ h=>by cases h⟩
 | (k,q)::l,a::b::c::d::us,j,m,h,hd,hm=>by
  have hR:∀ t,(zO5 X n.r vs).R (n.r+j) t=vs.getD (4*j+t) undef:=fun t=>by
   show (if n.r+j<n.r then _ else _)=_
   rw [if_neg (by omega),Nat.add_sub_cancel_left]
  have hg:∀ t,vs.getD (4*j+t) undef=(a::b::c::d::us).getD t undef:=fun t=>by
   rw [← hd,List.getD_eq_getElem?_getD,List.getD_eq_getElem?_getD,List.getElem?_drop]
  have e0:(zO5 X n.r vs).R (n.r+j) 0=a:=by rw [hR,hg];rfl
  have e1:(zO5 X n.r vs).R (n.r+j) 1=b:=by rw [hR,hg];rfl
  have e2:(zO5 X n.r vs).R (n.r+j) 2=c:=by rw [hR,hg];rfl
  have e3:(zO5 X n.r vs).R (n.r+j) 3=d:=by rw [hR,hg];rfl
  simp only [List.length_cons] at hm
  obtain ⟨i1,i2⟩:=zw2 (X:=X) (n:=n) vs l us (j+1) m h.2 (by
   have:=congrArg (List.drop 4) hd
   rw [List.drop_drop] at this
   simpa [Nat.mul_add] using this) (by omega)
  refine ⟨?_,fun x hx=>?_⟩
  ·simp only [zh8,List.map_cons,Cl.den,e0,e1,e2,e3]
   rw [show n.r+j+1=n.r+(j+1) by omega,i1]
  ·have hl:Nat.blt (n.r+j) m=true:=zn3 (by omega)
   have hq:IsRat w k ((zO5 X n.r vs).R (n.r+j) 0) ((zO5 X n.r vs).R (n.r+j) 1) ((zO5 X n.r vs).R (n.r+j) 2) ((zO5 X n.r vs).R (n.r+j) 3) q:=by rw [e0,e1,e2,e3];exact h.1
   simp only [zh8,List.mem_cons] at hx
   rcases hx with rfl | rfl | rfl | rfl | hx
   ·exact ⟨by simp only [Cl.lt,hl];rfl,hq⟩
   ·exact ⟨by simp only [Cl.lt,hl];rfl,hq⟩
   ·exact ⟨by simp only [Cl.lt,hl];rfl,hq⟩
   ·exact ⟨by simp only [Cl.lt,hl];rfl,hq⟩
   ·exact i2 x (by rw [show n.r+(j+1)=n.r+j+1 by omega];exact hx)
 | _::_,[],_,_,h,_,_=>by cases h
 | _::_,[_],_,_,h,_,_=>by cases h
 | _::_,[_,_],_,_,h,_,_=>by cases h
 | _::_,[_,_,_],_,_,h,_,_=>by cases h
 | [],_::_,_,_,h,_,_=>by simp [IsRats] at h
theorem zO6 (X:Env) (n:Nn) (vs:List Value):Agr n X (zO5 X n.r vs):=⟨fun _ _=>rfl,fun _ _ hi=>(if_pos hi).symm,fun _ _ _=>rfl,rfl⟩
theorem zK4 {n:Nn} {X:Env} {w w':World} {e:Ending} {l:List (Nat × Rat)} {t:IntKind} {z:Int} (h:(∃ vs:List Value,e=.returned (.tuple #[.agg vs.toArray,.int t z])∧IsRats w' vs l)∧Gr w w'):(Tr.leaf (.st [.vg (zh8 n.r l),.vc (.ci t z z z)]) l.length 0).holds n X w e w':=by
 obtain ⟨⟨vs,rfl,h1⟩,g⟩:=h
 obtain ⟨a,b⟩:=zw2 (X:=X) (n:=n) vs l vs 0 (n.r+l.length) h1 rfl (by omega)
 refine ⟨zO5 X n.r vs,?_,g,zO6 X n vs,fun x hx=>?_⟩
 ·simp only [SV.den,TV.den,List.map,Cl.den,dnL]
  rw [show zh8 n.r l=zh8 (n.r+0) l from rfl,a]
 ·simp only [List.mem_cons,List.not_mem_nil,or_false] at hx
  rcases hx with rfl | rfl
  ·exact b
  ·exact ⟨rfl,Int.le_refl _,Int.le_refl _⟩
section
variable {P:Program} {a:Act} {o:Oper} {w:World}
end
section
variable {q0 q1 q2 q3:Int}
theorem zV9:(Int.gcd (Int.gcd (Int.gcd (Int.gcd 0 (q0.natAbs:Int):Int) (q1.natAbs:Int):Int) (q2.natAbs:Int):Int) (q3.natAbs:Int):Int)=qgcd q0 q1 q2 q3:=by
 unfold qgcd;simp [Int.gcd]
end
noncomputable def bd15:Code:=(zJ8 100016 ((Tryz.f87.body).getD .skip)).getD .skip
noncomputable def es15:List (Nat × Ent):=[(17,.ord [(true,0),(true,1),(true,2),(true,3),(true,4),(true,5)] [])]
noncomputable def lp15 (s:Sg) (k:KT):Rs:=match s with
 | ⟨(x0::x1::x2::x3::x4::.so (.vc (.ci .i64 g lg hg))::x6::x7::x8::.so (.vc (.ci .i64 m _ _))::x10::x11::x12::x13::x14::x15::x16::x17::x18::x19::x20::x21::x22::x23::x24::x25::x26::x27::x28::x29::x30::x31::x32::x33::x34::x35::x36::x37::x38::x39::_::_::_::_::_::_::x46::x47::x48::x49::x50::x51::x52::x53::x54::x55::x56::x57::x58::x59::[]),bl,nu,nr,nz,ds⟩=>if ile 0 lg&&ile hg 9223372036854775807&&ile 0 0 then asL (decide (0≤m∧m≤9223372036854775807)) true (k (.x 4) ⟨(x0::x1::x2::x3::x4::.so (.vc (.ci .i64 (Int.gcd g m:Int) 0 9223372036854775807))::x6::x7::x8::.so (.vc (.ci .i64 0 0 0))::x10::x11::x12::x13::x14::x15::x16::x17::x18::x19::x20::x21::x22::x23::x24::x25::x26::x27::x28::x29::x30::x31::x32::x33::x34::x35::x36::x37::x38::x39::.so (.vc (.ci .i64 0 0 0))::.so (.vc (.cb false (some false)))::.sj nz 0::.sj nz 1::.sj nz 2::.sj nz 3::x46::x47::x48::x49::x50::x51::x52::x53::x54::x55::x56::x57::x58::x59::[]),bl,nu,nr,nz+1,ds⟩) else none
 | _=>none
theorem ru115 (x0 x1 x2 x3 x4 x6 x7 x8 aO aH au aq aF ad aW aV aG ak aU al aK aS aM ah aa aB aL aP aN aD aw aC aQ az af ac aR ax ay ai aE av ar aA aJ aT ab ap aI aj ae aX aZ a3 a0 a1 aY a2:SV) (g m:Int) (bl:List (Nat × List Cl)) (nu nr nz:Nat) (k:KT):zl1 Tryz.prog 0 0 (fun _ _ _ _=>none) es15 bd15 ⟨(x0::x1::x2::x3::x4::.so (.vc (.ci .i64 g 0 9223372036854775807))::x6::x7::x8::.so (.vc (.ci .i64 m 1 9223372036854775807))::aO::aH::au::aq::aF::ad::aW::aV::aG::ak::aU::al::aK::aS::aM::ah::aa::aB::aL::aP::aN::aD::aw::aC::aQ::az::af::ac::aR::ax::aZ::a3::a0::a1::aY::a2::ay::ai::aE::av::ar::aA::aJ::aT::ab::ap::aI::aj::ae::aX::[]),bl,nu,nr,nz,.e⟩ k=k .n ⟨(x0::x1::x2::x3::x4::.so (.vc (.ci .i64 m 1 9223372036854775807))::x6::x7::x8::.so (.vc (.ci .i64 (g % m) 0 (9223372036854775807 - 1)))::aO::aH::au::aq::aF::ad::aW::aV::aG::ak::aU::al::aK::aS::aM::ah::aa::aB::aL::aP::aN::aD::aw::aC::aQ::az::af::ac::aR::ax::.so (.vc (.ci .i64 m 1 9223372036854775807))::.so (.vc (.cb (m !=0) (some true)))::.so (.vc (.ci .i64 m 1 9223372036854775807))::.so (.vc (.ci .i64 g 0 9223372036854775807))::.so (.vc (.ci .i64 m 1 9223372036854775807))::.so (.vc (.ci .i64 (g % m) 0 (9223372036854775807 - 1)))::ay::ai::aE::av::ar::aA::aJ::aT::ab::ap::aI::aj::ae::aX::[]),bl,nu,nr,nz,.e⟩:=by kernel_rfl
theorem ru015 (x0 x1 x2 x3 x4 x6 x7 x8 aS aK av ar aI ad a0 aZ aJ al aY ap aO aW aQ ah aa aD aP aT aR aG ax aF aU aA af ac aV ay az ai aH aw au aB aN aX ab aq aM ak ae a1 a2 a3 aC aE aj aL:SV) (g:Int) (bl:List (Nat × List Cl)) (nu nr nz:Nat) (k:KT):zl1 Tryz.prog 0 0 (fun _ _ _ _=>none) es15 bd15 ⟨(x0::x1::x2::x3::x4::.so (.vc (.ci .i64 g 0 9223372036854775807))::x6::x7::x8::.so (.vc (.ci .i64 0 0 0))::aS::aK::av::ar::aI::ad::a0::aZ::aJ::al::aY::ap::aO::aW::aQ::ah::aa::aD::aP::aT::aR::aG::ax::aF::aU::aA::af::ac::aV::ay::a2::a3::aC::aE::aj::aL::az::ai::aH::aw::au::aB::aN::aX::ab::aq::aM::ak::ae::a1::[]),bl,nu,nr,nz,.e⟩ k=k (.x 4) ⟨(x0::x1::x2::x3::x4::.so (.vc (.ci .i64 g 0 9223372036854775807))::x6::x7::x8::.so (.vc (.ci .i64 0 0 0))::aS::aK::av::ar::aI::ad::a0::aZ::aJ::al::aY::ap::aO::aW::aQ::ah::aa::aD::aP::aT::aR::aG::ax::aF::aU::aA::af::ac::aV::ay::.so (.vc (.ci .i64 0 0 0))::.so (.vc (.cb false (some false)))::aC::aE::aj::aL::az::ai::aH::aw::au::aB::aN::aX::ab::aq::aM::ak::ae::a1::[]),bl,nu,nr,nz,.e⟩:=by kernel_rfl
theorem lp15_ok:LpOK Tryz.prog lp15 bd15:=by
 intro Post B Q k X s w L hp hk h hL hR
 have hmx:Tryz.prog.follows .mixedOrders=true:=by kernel_rfl
 have hco:zf0 Tryz.prog es15 bd15=true:=by kernel_rfl
 have hno:noLp es15=true:=by kernel_rfl
 unfold lp15 at h
 split at h
 ·rename_i x0 x1 x2 x3 x4 g lg hg x6 x7 x8 m lm hm aG aD aL aw a0 ar a3 aR al aV aQ av aE aH aF ai aJ aZ aN ap a2 aC aj aB aq aA au aT aO aM a5 a6 ba bb a8 a7 az aU ak ay ax aY aS aP aK aX a1 aW ah aI bl nu nr nz ds
  split at h
  ·rename_i hc
   obtain ⟨L',hkk,rfl⟩:=zk6 h
   obtain ⟨hm,hL⟩:=hL
   have hm:=of_decide_eq_true hm
   simp only [Bool.and_eq_true,zg4,decide_eq_true_eq] at hc
   have hg:lg≤g∧g≤hg:=(hR.fr (.so (.vc (.ci .i64 g lg hg))) (List.mem_of_getElem? (i:=5) rfl)).2
   have r0:=((hR.ds .e).set (d:=5) (v:=.so (.vc (.ci .i64 g 0 9223372036854775807))) ⟨rfl,by omega,by omega⟩).set (d:=9) (v:=.so (.vc (.ci .i64 m 0 9223372036854775807))) ⟨rfl,hm.1,hm.2⟩
   refine zl6 (fun n a w'=>∃ (X':Env) (g' m':Int) (aa ae ab ac af ad:SV),m'.toNat=n∧a=za4 X' (x0::x1::x2::x3::x4::.so (.vc (.ci .i64 g' 0 9223372036854775807))::x6::x7::x8::.so (.vc (.ci .i64 m' 0 9223372036854775807))::aG::aD::aL::aw::a0::ar::a3::aR::al::aV::aQ::av::aE::aH::aF::ai::aJ::aZ::aN::ap::a2::aC::aj::aB::aq::aA::au::aT::aO::aM::aa::ae::ab::ac::af::ad::az::aU::ak::ay::ax::aY::aS::aP::aK::aX::a1::aW::ah::aI::[])∧Rep B X' ⟨(x0::x1::x2::x3::x4::.so (.vc (.ci .i64 g' 0 9223372036854775807))::x6::x7::x8::.so (.vc (.ci .i64 m' 0 9223372036854775807))::aG::aD::aL::aw::a0::ar::a3::aR::al::aV::aQ::av::aE::aH::aF::ai::aJ::aZ::aN::ap::a2::aC::aj::aB::aq::aA::au::aT::aO::aM::aa::ae::ab::ac::af::ad::az::aU::ak::ay::ax::aY::aS::aP::aK::aX::a1::aW::ah::aI::[]),bl,nu,nr,nz,.e⟩ w'∧Int.gcd g' m'=Int.gcd g m∧(0≤g'∧g'≤9223372036854775807)∧0≤m'∧m'≤9223372036854775807) m.toNat ⟨X,g,m,a5,a6,ba,bb,a8,a7,rfl,rfl,r0,rfl,⟨by omega,by omega⟩,hm⟩ ?_
   rintro _ _ w' ⟨X',g',m',aa,ae,ab,ac,af,ad,rfl,rfl,hR',hgcd,g0,m0⟩ K hK
   by_cases hz:m'=0
   ·subst hz
    refine yb1 (Q:=Exit.then K Q) hmx hco hno (hp.then K) (ru015 x0 x1 x2 x3 x4 x6 x7 x8 aG aD aL aw a0 ar a3 aR al aV aQ av aE aH aF ai aJ aZ aN ap a2 aC aj aB aq aA au aT aO aM az aU ak ay ax aY aS aP aK aX a1 aW ah aI aa ae ab ac af ad g' bl nu nr nz) (hR'.set (d:=9) (v:=.so (.vc (.ci .i64 0 0 0))) ⟨rfl,Int.le_refl _,Int.le_refl _⟩) fun X2 w2 a4=>?_
    obtain ⟨X3,a9,he⟩:=a4.junk [42,43,44,45]
    have eg:g'=(Int.gcd g m:Int):=by rw [Int.gcd_zero_right] at hgcd;omega
    subst eg
    exact (congrArg (fun a=>Q (.exit 4) a w2) he).mp (hk (.x 4) _ X3 w2 L' hkk hL (a9.ds ds))
   ·refine yb1 (Q:=Exit.then K Q) hmx hco hno (hp.then K) (ru115 x0 x1 x2 x3 x4 x6 x7 x8 aG aD aL aw a0 ar a3 aR al aV aQ av aE aH aF ai aJ aZ aN ap a2 aC aj aB aq aA au aT aO aM az aU ak ay ax aY aS aP aK aX a1 aW ah aI aa ae ab ac af ad g' m' bl nu nr nz) (hR'.set (d:=9) (v:=.so (.vc (.ci .i64 m' 1 9223372036854775807))) ⟨rfl,by omega,m0.2⟩) fun X2 w2 a4=>?_
    have e1:=Int.emod_nonneg g' hz
    have e2:=Int.emod_lt_of_pos g' (show 0<m' by omega)
    refine hK (g' % m').toNat _ _ (by omega) ⟨X2,m',g' % m',_,_,_,_,_,_,rfl,rfl,(a4.set (d:=5) (v:=.so (.vc (.ci .i64 m' 0 9223372036854775807))) ⟨rfl,by omega,m0.2⟩).set (d:=9) (v:=.so (.vc (.ci .i64 (g' % m') 0 9223372036854775807))) ⟨rfl,e1,by omega⟩,(zY1 g0.1 (by omega)).trans hgcd,⟨by omega,m0.2⟩,e1,by omega⟩
  ·cases h
 ·cases h
noncomputable def es15L:List (Nat × Ent):=(100016,.lp lp15)::es15
section
variable {qq0 qq1 qq2 qq3:Int}
theorem qsgn0 (h:(qq0==(0:Int))=false):qsgn qq0 qq1 qq2 qq3=sgn qq0∧qq0≠0:=by
 have h:qq0≠0:=by simpa using h
 exact ⟨if_neg h,h⟩
theorem qsgn1 (h0:(qq0==(0:Int))=true) (h:(qq1==(0:Int))=false):qsgn qq0 qq1 qq2 qq3=sgn qq1∧qq1≠0:=by
 have h0:qq0=0:=by simpa using h0
 have h:qq1≠0:=by simpa using h
 refine ⟨?_,h⟩
 unfold qsgn;rw [if_pos h0,if_neg h]
theorem qsgn2 (h0:(qq0==(0:Int))=true) (h1:(qq1==(0:Int))=true) (h:(qq2==(0:Int))=false):qsgn qq0 qq1 qq2 qq3=sgn qq2∧qq2≠0:=by
 have h0:qq0=0:=by simpa using h0
 have h1:qq1=0:=by simpa using h1
 have h:qq2≠0:=by simpa using h
 refine ⟨?_,h⟩
 unfold qsgn;rw [if_pos h0,if_pos h1,if_neg h]
theorem qsgn3 (h0:(qq0==(0:Int))=true) (h1:(qq1==(0:Int))=true) (h2:(qq2==(0:Int))=true) (hz:¬(qq0=0∧qq1=0∧qq2=0∧qq3=0)):qsgn qq0 qq1 qq2 qq3=sgn qq3∧qq3≠0:=by
 have h0:qq0=0:=by simpa using h0
 have h1:qq1=0:=by simpa using h1
 have h2:qq2=0:=by simpa using h2
 refine ⟨?_,fun h3=>hz ⟨h0,h1,h2,h3⟩⟩
 unfold qsgn;rw [if_pos h0,if_pos h1,if_pos h2]
theorem chk_g {g E:Int} (hG:g=qgcd qq0 qq1 qq2 qq3) (h:(g !=(1:Int))=true):(3:Int)=(if ¬(qgcd qq0 qq1 qq2 qq3=1∧qsgn qq0 qq1 qq2 qq3=1) then 3 else E):=by
 rw [if_pos]
 rintro ⟨h1,_⟩
 rw [hG,h1] at h;exact absurd h (by decide)
theorem chk_s {s E:Int} (hS:qsgn qq0 qq1 qq2 qq3=sgn s∧s≠0) (h:decide (s<(0:Int))=true):(3:Int)=(if ¬(qgcd qq0 qq1 qq2 qq3=1∧qsgn qq0 qq1 qq2 qq3=1) then 3 else E):=by
 rw [if_pos]
 rintro ⟨_,h1⟩
 rw [hS.1] at h1
 have h:=of_decide_eq_true h
 unfold sgn at h1;rw [if_pos h] at h1;omega
theorem chk_e {g s E:Int} (hG:g=qgcd qq0 qq1 qq2 qq3) (hg:(g !=(1:Int))=false) (hS:qsgn qq0 qq1 qq2 qq3=sgn s∧s≠0) (h:decide (s<(0:Int))=false):E=(if ¬(qgcd qq0 qq1 qq2 qq3=1∧qsgn qq0 qq1 qq2 qq3=1) then 3 else E):=by
 rw [if_neg]
 simp only [Classical.not_not]
 have h:=of_decide_eq_false h
 have hs:=hS.2
 refine ⟨by rw [← hG];simpa using hg,?_⟩
 rw [hS.1];unfold sgn;rw [if_neg h,if_neg hs]
end
def cVPv:ConT:=fun args nr _=>match args with
 | [.so (.vg [c1,c2,c3])]=>match txC c1,txC c2,txC c3 with
  | some (k1,x1),some (k2,x2),some (k3,x3)=>tr (Nat.ble k1 64&&Nat.ble k2 64&&Nat.ble k3 64) (.leaf (.st [.vg (zh8 nr [(64,x1),(64,x2),(64,x3)]),.vc (.ci .i64 0 0 0)]) 3 0)
  | _,_,_=>none
 | _=>none
theorem cVPv_ok {I:World→Prop} (hI:∀ w,I w→Mx w):ConOK Tryz.prog I 88 cVPv:=by
 intro args E n w T hw ha hT _
 unfold cVPv at hT
 split at hT
 ·rename_i c1 c2 c3
  split at hT
  ·rename_i k1 x1 k2 x2 k3 x3 e1 e2 e3
   obtain ⟨hb,rfl⟩:=zg6 hT
   simp only [Bool.and_eq_true,Nat.ble_eq] at hb
   obtain ⟨⟨b4,b5⟩,b6⟩:=hb
   have g:=fun c hc=>ha _ (List.mem_singleton.2 rfl) c hc
   obtain ⟨d1,s1⟩:=zv8 e1 (g c1 (by simp))
   obtain ⟨d2,s2⟩:=zv8 e2 (g c2 (by simp))
   obtain ⟨d3,s3⟩:=zv8 e3 (g c3 (by simp))
   have s1:=s1.mono b4
   have s2:=s2.mono b5
   have s3:=s3.mono b6
   have le:∀ {x:Rat},RS 64 x→((za3 x).length:Int)≤400:=fun h=>by have:=zn1 h.1 h.2;omega
   show Calls _ _ #[.agg #[c1.den E,c2.den E,c3.den E]] w _
   rw [d1,d2,d3]
   refine (vparse_v (k:=64) x1 x2 x3 s1 s2 s3 (by decide) (by decide) (le s1) (le s2) (le s3) w (hI w hw)).mono fun e w' he=>zK4 ?_
   obtain ⟨⟨t0,t1,t2,t3,t4,t5,t6,t7,t8,t9,aa,ab,rfl,h1,h2,h3⟩,g⟩:=he
   exact ⟨⟨[t0,t1,t2,t3,t4,t5,t6,t7,t8,t9,aa,ab],rfl,h1,h2,h3,trivial⟩,g⟩
  ·cases hT
 ·cases hT
noncomputable def sysCk:Sys:=⟨Tryz.prog,2,142,[(87,es15L)],[(88,cVPv)],Mx⟩
theorem sysCk_ok:sysCk.OK where
 mixed:=by kernel_rfl
 calls:=fun f h0 h1=>by
  have:(List.range 142).all (fun f=>Nat.blt f 2||okCall Tryz.prog f)=true:=by kernel_rfl
  have:=List.all_eq_true.1 this f (List.mem_range.2 h1)
  simp only [Bool.or_eq_true] at this
  exact this.resolve_left (fun e=>by have:=zd6 e;exact absurd h0 (by show ¬ 2≤f;omega))
 tab:=by
  have:[(87,es15L)].all (okTab Tryz.prog)=true:=by kernel_rfl
  exact fun x hx=>List.all_eq_true.1 this x hx
 lps:=fun x hx fn c h2 hb=>by
  have:x=(87,es15L):=List.mem_singleton.1 hx
  subst this
  have:fn=Tryz.f87:=Option.some.inj (h2.symm.trans Tryz.func87)
  subst this
  have:c=(Tryz.f87.body).getD .skip:=by rw [hb];rfl
  subst this
  repeat' first | exact trivial | exact lp15_ok | refine ⟨?_,?_⟩
 con:=fun x hx=>by
  have:x=(88,cVPv):=List.mem_singleton.1 hx
  subst this
  exact cVPv_ok fun w h=>h
 inv:=fun w w' h g=>h.gr g
def absq (q:Int):Int:=if 0 - q>q then 0 - q else q
def gq4 (q0 q1 q2 q3:Int):Int:=(Int.gcd (Int.gcd (Int.gcd (Int.gcd 0 q0:Int) q1:Int) q2:Int) q3:Int)
def re (n:Int):Lf:=.ret (.so (.vc (.ci .i64 n n n)))
def nng (m:Int) (l:Lf):Lf:=.as (decide (0≤m∧m≤9223372036854775807)) true l
def eg (fin:Lf) (g s:Int):Lf:=.br (g !=1) (re 3) (.br (decide (s<0)) (re 3) fin)
def treeG (ab:Int→Int) (fin:Lf) (q0 q1 q2 q3:Int):Lf:=nng (ab q0) (.br (q0==0)
 (nng (ab q1) (.br (q1==0)
  (nng (ab q2) (.br (q2==0) (nng (ab q3) (eg fin (gq4 (ab q0) (ab q1) (ab q2) (ab q3)) q3)) (nng (ab q3) (eg fin (gq4 (ab q0) (ab q1) (ab q2) (ab q3)) q2))))
  (nng (ab q2) (.as (q1==0) false (nng (ab q3) (eg fin (gq4 (ab q0) (ab q1) (ab q2) (ab q3)) q1))))))
 (nng (ab q1) (.as (q0==0) false (nng (ab q2) (.as (q0==0) false (nng (ab q3) (eg fin (gq4 (ab q0) (ab q1) (ab q2) (ab q3)) q0)))))))
def treeCk (q0 q1 q2 q3:Int):Lf:=.br (zC4 [q0,q1,q2,q3] [0,0,0,0]) (re 19) (treeG absq (re 0) q0 q1 q2 q3)
theorem runCk (q0 q1 q2 q3:Int) (x1 x2 x3:Rat):runF sysCk 87 [.so (.vg [.ci .i64 q0 (-12) 12,.ci .i64 q1 (-12) 12,.ci .i64 q2 (-12) 12,.ci .i64 q3 (-12) 12,.cw (za3 x1) (some (64,x1)),.cw (za3 x2) (some (64,x2)),.cw (za3 x3) (some (64,x3))])] 0 0 (.s .e (.s (.s (.s (.s .e (.s .e .e)) (.s .e (.s .e .e))) (.f (.s .e (.s .e .e)))) (.f (.f (.s .e (.s .e .e))))))=some (treeCk q0 q1 q2 q3):=by kernel_rfl
def CkP (E:Int) (v:SV):Prop:=∃ lo hi,v=.so (.vc (.ci .i64 E lo hi))
theorem re_ok {E n:Int} (h:n=E):LOK (CkP E) (re n):=⟨n,n,by rw [h]⟩
theorem conj0 {qq0 qq1 qq2 qq3:Int}:zC4 [qq0,qq1,qq2,qq3] [0,0,0,0]=decide (qq0=0∧qq1=0∧qq2=0∧qq3=0):=by
 rw [Bool.eq_iff_iff,decide_eq_true_eq];simp [zC4,eqL,and_assoc]
section
variable {qq0 qq1 qq2 qq3:Int} (i0:-12≤qq0∧qq0≤12) (i1:-12≤qq1∧qq1≤12) (i2:-12≤qq2∧qq2≤12) (i3:-12≤qq3∧qq3≤12)
include i0 i1 i2 i3
theorem treeG_ok {ab:Int→Int} (hab:∀ q,-12≤q∧q≤12→ab q=(q.natAbs:Int)) (hz:¬(qq0=0∧qq1=0∧qq2=0∧qq3=0)) {fin:Lf} {E:Int} (hf:LOK (CkP E) fin):
  LOK (CkP (if ¬(qgcd qq0 qq1 qq2 qq3=1∧qsgn qq0 qq1 qq2 qq3=1) then 3 else E)) (treeG ab fin qq0 qq1 qq2 qq3):=by
 have nn:∀ {P:SV→Prop} {q:Int} {l:Lf},-12≤q∧q≤12→LOK P l→LOK P (nng (ab q) l):=fun {P q l} h hl=>⟨decide_eq_true (by rw [hab q h];omega),hl⟩
 have hg:gq4 (ab qq0) (ab qq1) (ab qq2) (ab qq3)=qgcd qq0 qq1 qq2 qq3:=by
  unfold gq4;rw [hab _ i0,hab _ i1,hab _ i2,hab _ i3];exact zV9
 have e:∀ {s:Int},qsgn qq0 qq1 qq2 qq3=sgn s∧s≠0→LOK (CkP (if ¬(qgcd qq0 qq1 qq2 qq3=1∧qsgn qq0 qq1 qq2 qq3=1) then 3 else E)) (eg fin (gq4 (ab qq0) (ab qq1) (ab qq2) (ab qq3)) s):=fun hS=>
  ⟨fun h=>re_ok (chk_g hg h),fun h=>⟨fun k=>re_ok (chk_s hS k),fun k=>by rw [← chk_e (E:=E) hg h hS k];exact hf⟩⟩
 exact nn i0 ⟨fun h0=>nn i1 ⟨fun h1=>nn i2 ⟨fun h2=>nn i3 (e (qsgn3 h0 h1 h2 hz)),fun h2=>nn i3 (e (qsgn2 h0 h1 h2))⟩,
  fun h1=>nn i2 ⟨h1,nn i3 (e (qsgn1 h0 h1))⟩⟩,fun h0=>nn i1 ⟨h0,nn i2 ⟨h0,nn i3 (e (qsgn0 h0))⟩⟩⟩
theorem zT4:LOK (CkP (chk qq0 qq1 qq2 qq3 0)) (treeCk qq0 qq1 qq2 qq3):=by
 refine ⟨fun h=>re_ok ?_,fun h=>?_⟩
 ·rw [conj0] at h;unfold chk;rw [if_pos (of_decide_eq_true h)]
 ·rw [conj0] at h
  have hz:=of_decide_eq_false h
  unfold chk;rw [if_neg hz,if_neg (by simp only [Classical.not_not];exact ⟨i0,i1,i2,i3⟩)]
  exact treeG_ok i0 i1 i2 i3 (fun q h=>by unfold absq;split<;>omega) hz (re_ok rfl)
theorem zT5 (ad ab aa:Rat) (ac:RS 64 ad) (af:RS 64 ab) (ae:RS 64 aa) (w:World) (hm:Mx w):
  Calls Tryz.prog 87 #[.agg #[.int .i64 qq0,.int .i64 qq1,.int .i64 qq2,.int .i64 qq3,.string ⟨(za3 ad).toArray⟩,.string ⟨(za3 ab).toArray⟩,.string ⟨(za3 aa).toArray⟩]] w fun e w'=>e=.returned (.int .i64 (chk qq0 qq1 qq2 qq3 0))∧Gr w w':=by
 have tx:∀ {x},RS 64 x→(Cl.cw (za3 x) (some (64,x))).ok ⟨0,0,0⟩ (envR []) w:=fun h=>⟨rfl,fun k q e=>by cases e;exact ⟨rfl,h⟩⟩
 refine (zo1 sysCk sysCk_ok (runCk qq0 qq1 qq2 qq3 ad ab aa) (X:=envR []) hm (okF1 (zm6 ⟨⟨rfl,i0⟩,⟨rfl,i1⟩,⟨rfl,i2⟩,⟨rfl,i3⟩,tx ac,tx af,tx ae,trivial⟩)) (zT4 i0 i1 i2 i3)).mono fun e w' he=>?_
 obtain ⟨v,X',n,rfl,g,_,_,lo,hi,rfl⟩:=he
 exact ⟨rfl,g⟩
end
end Go.Proofs.YthhbibpaeonecaaGreatDoor
