/- Joined of: Gen135. -/
import Derived.Test.YtaldbfflkpgfoaaGreatDoorPartG
/- Printed by a program of the prover's:a motion's placement;rotations. -/
namespace Go.Proofs.YtaldbfflkpgfoaaGreatDoor
open Go.RowKit

/-- how the regions that draw their order are run -/
noncomputable def tabPm:List (Nat × List (Nat × Ent)):=[(19,[(5,.ord [(true,0),(true,1),(true,3),(true,4),(false,2),(true,5),(false,6)] [1])]),
 (22,[]),
 (24,[(9,.ord [(true,0),(true,1),(true,2),(true,3),(true,5),(true,6),(false,4),(true,7),(false,8)] [5])]),
 (30,[(1,.flo [(true,0),(true,1),(true,2),(true,3),(false,4),(true,5),(false,6)] [(7,3,41)] [(false,8)] []),(2,.ord [(true,0),(false,1),(false,2),(true,3),(true,4),(true,5),(true,6),(true,7),(true,8),(true,9),(true,10),(true,11),(true,12),(false,13),(false,14),(true,15),(true,16),(true,17)] [])]),
 (31,[(10,.ord [(true,0),(true,1),(true,2),(true,3),(true,4),(true,5),(true,6),(true,7),(true,9),(false,8),(true,10)] [])]),
 (36,[]),
 (38,[]),
 (39,[(1,.ord [(true,0),(true,1),(true,2),(false,3),(false,4),(false,5)] [6])]),
 (41,[(6,.ord [(true,0),(true,1),(true,2),(true,3),(true,4),(true,5),(true,6),(true,8),(true,9),(true,10),(true,11),(true,12),(true,13),(false,7),(false,14),(false,15),(true,16),(false,17)] [5])]),
 (43,[(1,.ord [(true,0),(true,1),(true,3),(true,4),(false,2),(false,5),(false,6)] [4])]),
 (44,[]),
 (69,[(8,.ord [(true,0),(true,1),(true,2),(true,3),(true,4),(false,5)] [3])]),
 (71,[(1,.ord [(true,0),(true,1),(true,2),(true,3),(true,5),(true,6),(true,7),(true,8),(true,11),(true,12),(true,13),(true,14),(false,4),(false,9),(false,10),(false,15),(false,16),(true,17)] [])]),
 (74,[(5,.ord [(true,0),(true,1),(true,2),(true,3),(true,4),(true,5),(true,6),(true,7),(false,8),(true,9),(false,10)] [7])]),
 (77,[(1,.ord [(true,0),(true,1),(true,2),(false,3),(false,4),(true,5)] [])]),
 (83,[]),
 (86,[]),
 (110,[(6,.ord [(true,0),(true,1),(true,2),(true,3),(true,4),(true,5),(true,6),(true,8),(true,9),(true,10),(true,11),(true,12),(true,13),(false,7),(false,14),(false,15),(true,16),(false,17)] [5])])]
noncomputable def conPm:List (Nat × ConT):=[(103,conRR 100000 (fun k m=>k+m+1) (fun a b=>a+b)),
 (75,conRR 100000 (fun k m=>k+m+1) (fun a b=>a - b)),
 (82,conRR 100000 (fun k m=>k+m) (fun a b=>a*b)),
 (108,cNeg),
 (59,cFrom),
 (37,cComp),
 (76,cSign),
 (87,cNumb),
 (130,cNum),
 (81,cDen),
 (58,cDiv),
 (96,cZFrom),
 (80,cZMul),
 (122,cZGcd),
 (123,cZDiv),
 (68,cZInt),
 (105,cTT (fun k m=>k+m+1) fun a b=>a+b),
 (132,cTT (fun k m=>k+m+1) fun a b=>a - b),
 (106,cTT (fun k m=>k+m) fun a b=>a*b),
 (64,cTDiv),
 (115,cTNeg),
 (65,cTFrom),
 (94,cPars 400),
 (107,cPars 65536),
 (15,cChk),
 (66,cPrim),
 (14,cOf),
 (16,cMEq),
 (67,cTurn),
 (21,cPlc),
 (11,cKnown)]
noncomputable def sysPm:Sys:=⟨Tryz.prog,2,199,tabPm,conPm,fun w=>Tab w∧Mx w⟩
theorem sysPm_ok:sysPm.OK where
  mixed:=by kernel_rfl
  calls:=fun f h0 h1=>by
    have:(List.range 199).all (fun f=>Nat.blt f 2||okCall Tryz.prog f)=true:=by kernel_rfl
    have:=List.all_eq_true.1 this f (List.mem_range.2 h1)
    simp only [Bool.or_eq_true] at this
    exact this.resolve_left (fun e=>by have:=blt_of e;exact absurd h0 (by show ¬ 2≤f;omega))
  tab:=by
    have:tabPm.all (okTab Tryz.prog)=true:=by kernel_rfl
    exact fun x hx=>List.all_eq_true.1 this x hx
  lps:=lps_no (by kernel_rfl)
  con:=fun x hx=>by
    simp only [sysPm,conPm,List.mem_cons,List.not_mem_nil,or_false] at hx
    rcases hx with rfl | rfl | rfl | rfl | rfl | rfl | rfl | rfl | rfl | rfl | rfl | rfl | rfl | rfl | rfl | rfl | rfl | rfl | rfl | rfl | rfl | rfl | rfl | rfl | rfl | rfl | rfl | rfl | rfl | rfl | rfl
    · exact conRR_ok fun h1 h2 h3=>add_r h1 h2 h3
    · exact conRR_ok fun h1 h2 h3=>sub_r h1 h2 h3
    · exact conRR_ok fun h1 h2 h3=>mul_r h1 h2 h3
    · exact cNeg_ok
    · exact cFrom_ok
    · exact cComp_ok
    · exact cSign_ok
    · exact cNumb_ok fun w h=>h.1
    · exact cNum_ok
    · exact cDen_ok
    · exact cDiv_ok
    · exact cZFrom_ok
    · exact cZMul_ok
    · exact cZGcd_ok
    · exact cZDiv_ok
    · exact cZInt_ok
    · exact cTAdd_ok
    · exact cTSub_ok
    · exact cTMul_ok
    · exact cTDiv_ok
    · exact cTNeg_ok
    · exact cTFrom_ok
    · exact cPars_ok fun w h=>h.2
    · exact cRead_ok fun w h=>h.2
    · exact cChk_ok fun w h=>h.2
    · exact cPrim_ok
    · exact cOf_ok fun w h=>h
    · exact cMEq_ok
    · exact cTurn_ok
    · exact cPlc_ok fun w h=>h
    · exact cKnown_ok fun w h=>h
  inv:=fun w w' h g=>⟨h.1.gr g,h.2.gr g⟩
def mo12 (r0 r1 r2 r3 r4 r5 r6 r7 r8 r9 r10 r11:Rat):Mo
  | 0=>r0
  | 1=>r1
  | 2=>r2
  | 3=>r3
  | 4=>r4
  | 5=>r5
  | 6=>r6
  | 7=>r7
  | 8=>r8
  | 9=>r9
  | 10=>r10
  | 11=>r11
  | _=>0
def rigM (A:Mo):Bool:=decide (l12 (mc (mz A) (mt A))=l12 idm)&&decide (0<sgn (detm A).num)
def zwM (A:Mo) (i:Nat):Int:=wzq (qrow (A 0) (A 1) (A 2) (A 3) (A 4) (A 5) (A 6) (A 7) (A 8)) i
def ePl (A:Mo):Int:=perr (rigM A) (zwM A 0) (zwM A 1) (zwM A 2) (zwM A 3) (ratL (A 9)) (ratL (A 10)) (ratL (A 11))
def plV (A:Mo):SV:=.st [.vg [.ci .i64 (pif (ePl A) (zwM A 0)) (-12) 12,.ci .i64 (pif (ePl A) (zwM A 1)) (-12) 12,.ci .i64 (pif (ePl A) (zwM A 2)) (-12) 12,.ci .i64 (pif (ePl A) (zwM A 3)) (-12) 12,.cw (pit (ePl A) (ratL (A 9))) none,.cw (pit (ePl A) (ratL (A 10))) none,.cw (pit (ePl A) (ratL (A 11))) none],.vc (.ci .i64 (ePl A) 0 5)]
def er (n:Int):Lf:=.ret (.st [.vg [.ci .i64 0 0 0,.ci .i64 0 0 0,.ci .i64 0 0 0,.ci .i64 0 0 0,.cw [] none,.cw [] none,.cw [] none],.vc (.ci .i64 n n n)])
def inC (z:Int) (l:Lf):Lf:=.br (fitsI z) (.br (decide (valI z< -12)) (er 2) (.br (decide (12<valI z)) (er 2) l)) (er 2)
def leC (x:Rat) (l:Lf):Lf:=.br (decide ((400:Int)<((ratL x).length:Int))) (er 5) l
def treePm (A:Mo):Lf:=.br (decide (l12 (mc (mz A) (mt A))=l12 idm)) (.br (decide (0<sgn (detm A).num)) (inC (zwM A 0) (inC (zwM A 1) (inC (zwM A 2) (inC (zwM A 3) (leC (A 9) (leC (A 10) (leC (A 11) (.ret (.st [.vg [.ci .i64 (valI (zwM A 0)) (-9223372036854775808) 9223372036854775807,.ci .i64 (valI (zwM A 1)) (-9223372036854775808) 9223372036854775807,.ci .i64 (valI (zwM A 2)) (-9223372036854775808) 9223372036854775807,.ci .i64 (valI (zwM A 3)) (-9223372036854775808) 9223372036854775807,.cw (ratL (A 9)) (some (20000,A 9)),.cw (ratL (A 10)) (some (20000,A 10)),.cw (ratL (A 11)) (some (20000,A 11))],.vc (.ci .i64 0 0 0)])))))))))
  (er 3)) (er 3)
def PlP (A:Mo) (v:SV):Prop:=∀ X,v.den X=(plV A).den X
theorem er_ok {A:Mo} {n:Int} (h:ePl A=n) (h0:n≠0):LOK (PlP A) (er n):=by
  intro X
  unfold plV
  rw [h]
  have p:∀ z,pif n z=0:=fun z=>if_neg h0
  have q:∀ x,pit n x=[]:=fun x=>if_neg h0
  simp only [p,q]
  rfl
theorem inC_ok {P:SV→Prop} {z:Int} {l:Lf} (h1:¬(-12≤z∧z≤12)→LOK P (er 2)) (h2:-12≤z∧z≤12→LOK P l):LOK P (inC z l):=by
  have f:∀ v,fitsI z=v→(v=true↔(-9223372036854775808≤z∧z≤9223372036854775807)):=fun v e=>by subst e;unfold fitsI;simp
  refine ⟨fun e=>?_,fun e=>h1 fun h=>?_⟩
  · have g:=(f _ e).1 rfl
    have ez:valI z=z:=if_pos e
    refine ⟨fun k=>h1 fun h=>?_,fun k=>⟨fun m=>h1 fun h=>?_,fun m=>h2 ?_⟩⟩
    · have:=of_decide_eq_true k;omega
    · have:=of_decide_eq_true m;omega
    · have:=of_decide_eq_false k;have:=of_decide_eq_false m;omega
  · have:=(f _ e).2 (by omega);cases this
theorem leC_ok {P:SV→Prop} {x:Rat} {l:Lf} (h1:¬(((ratL x).length:Int)≤400)→LOK P (er 5)) (h2:((ratL x).length:Int)≤400→LOK P l):LOK P (leC x l):=
  ⟨fun e=>h1 (by have:=of_decide_eq_true e;omega),fun e=>h2 (by have:=of_decide_eq_false e;omega)⟩
theorem treePm_ok (A:Mo):LOK (PlP A) (treePm A):=by
  refine ⟨fun h1=>⟨fun h2=>?_,fun h2=>er_ok (if_neg (by unfold rigM;rw [h1,h2];decide)) (by decide)⟩,fun h1=>er_ok (if_neg (by unfold rigM;rw [h1];simp)) (by decide)⟩
  have hr:rigM A=true:=by unfold rigM;rw [h1,h2];rfl
  have e2:¬((-12≤zwM A 0∧zwM A 0≤12)∧(-12≤zwM A 1∧zwM A 1≤12)∧(-12≤zwM A 2∧zwM A 2≤12)∧(-12≤zwM A 3∧zwM A 3≤12))→ePl A=2:=fun h=>(if_pos hr).trans (if_neg h)
  refine inC_ok (fun h=>er_ok (e2 fun g=>h g.1) (by decide)) fun b0=>inC_ok (fun h=>er_ok (e2 fun g=>h g.2.1) (by decide)) fun b1=>inC_ok (fun h=>er_ok (e2 fun g=>h g.2.2.1) (by decide)) fun b2=>inC_ok (fun h=>er_ok (e2 fun g=>h g.2.2.2) (by decide)) fun b3=>?_
  have e5:¬(((ratL (A 9)).length:Int)≤400∧((ratL (A 10)).length:Int)≤400∧((ratL (A 11)).length:Int)≤400)→ePl A=5:=fun h=>(if_pos hr).trans ((if_pos ⟨b0,b1,b2,b3⟩).trans (if_neg h))
  refine leC_ok (fun h=>er_ok (e5 fun g=>h g.1) (by decide)) fun l0=>leC_ok (fun h=>er_ok (e5 fun g=>h g.2.1) (by decide)) fun l1=>leC_ok (fun h=>er_ok (e5 fun g=>h g.2.2) (by decide)) fun l2=>?_
  have e0:ePl A=0:=(if_pos hr).trans ((if_pos ⟨b0,b1,b2,b3⟩).trans (if_pos ⟨l0,l1,l2⟩))
  have v:∀ z:Int,-12≤z∧z≤12→valI z=z:=fun z h=>if_pos (by unfold fitsI;simp;omega)
  intro X
  unfold plV
  rw [e0,v _ b0,v _ b1,v _ b2,v _ b3]
  rfl
theorem plV_ok (A:Mo) (n:Nn) (X:Env) (w:World):(plV A).ok n X w:=by
  have h:0≤ePl A∧ePl A≤5∧(ePl A=0→(-12≤zwM A 0∧zwM A 0≤12)∧(-12≤zwM A 1∧zwM A 1≤12)∧(-12≤zwM A 2∧zwM A 2≤12)∧(-12≤zwM A 3∧zwM A 3≤12)):=by
    unfold ePl perr
    split
    · split
      · rename_i h;split<;>simp_all
      · simp
    · simp
  have b:∀ z:Int,(ePl A=0→-12≤z∧z≤12)→-12≤pif (ePl A) z∧pif (ePl A) z≤12:=fun z hz=>by
    unfold pif
    split
    · exact hz ‹_›
    · decide
  intro x hx
  simp only [List.mem_cons,List.not_mem_nil,or_false] at hx
  rcases hx with rfl | rfl
  · exact okA_ok ⟨⟨rfl,b _ fun e=>(h.2.2 e).1⟩,⟨rfl,b _ fun e=>(h.2.2 e).2.1⟩,⟨rfl,b _ fun e=>(h.2.2 e).2.2.1⟩,⟨rfl,b _ fun e=>(h.2.2 e).2.2.2⟩,⟨rfl,fun _ _ e=>by cases e⟩,⟨rfl,fun _ _ e=>by cases e⟩,⟨rfl,fun _ _ e=>by cases e⟩,trivial⟩
  · exact ⟨rfl,h.1,h.2.1⟩
theorem runPm (r0 r1 r2 r3 r4 r5 r6 r7 r8 r9 ab aa:Rat):runF sysPm 22 [.so (.vg [.cr 0 0 500 r0,.cr 0 1 500 r0,.cr 0 2 500 r0,.cr 0 3 500 r0,.cr 1 0 500 r1,.cr 1 1 500 r1,.cr 1 2 500 r1,.cr 1 3 500 r1,.cr 2 0 500 r2,.cr 2 1 500 r2,.cr 2 2 500 r2,.cr 2 3 500 r2,.cr 3 0 500 r3,.cr 3 1 500 r3,.cr 3 2 500 r3,.cr 3 3 500 r3,.cr 4 0 500 r4,.cr 4 1 500 r4,.cr 4 2 500 r4,.cr 4 3 500 r4,.cr 5 0 500 r5,.cr 5 1 500 r5,.cr 5 2 500 r5,.cr 5 3 500 r5,.cr 6 0 500 r6,.cr 6 1 500 r6,.cr 6 2 500 r6,.cr 6 3 500 r6,.cr 7 0 500 r7,.cr 7 1 500 r7,.cr 7 2 500 r7,.cr 7 3 500 r7,.cr 8 0 500 r8,.cr 8 1 500 r8,.cr 8 2 500 r8,.cr 8 3 500 r8,.cr 9 0 20000 r9,.cr 9 1 20000 r9,.cr 9 2 20000 r9,.cr 9 3 20000 r9,.cr 10 0 20000 ab,.cr 10 1 20000 ab,.cr 10 2 20000 ab,.cr 10 3 20000 ab,.cr 11 0 20000 aa,.cr 11 1 20000 aa,.cr 11 2 20000 aa,.cr 11 3 20000 aa])] 12 0 (.s (.s (.s (.s .e (.s .e (.s (.s .e (.s .e (.s (.s .e (.s .e (.s (.s .e (.s .e (.s .e (.s .e (.s .e .e))))) .e))) .e))) .e))) .e) .e) .e)=some (treePm (mo12 r0 r1 r2 r3 r4 r5 r6 r7 r8 r9 ab aa)):=by kernel_rfl
def cPlace:ConT:=con1 asRats fun
  | [(ka0,a0),(ka1,a1),(ka2,a2),(ka3,a3),(ka4,a4),(ka5,a5),(ka6,a6),(ka7,a7),(ka8,a8),(ka9,a9),(ka10,a10),(ka11,a11)],_,_=>tr (Nat.ble ka0 500&&Nat.ble ka1 500&&Nat.ble ka2 500&&Nat.ble ka3 500&&Nat.ble ka4 500&&Nat.ble ka5 500&&Nat.ble ka6 500&&Nat.ble ka7 500&&Nat.ble ka8 500&&Nat.ble ka9 20000&&Nat.ble ka10 20000&&Nat.ble ka11 20000) (.leaf (plV (mo12 a0 a1 a2 a3 a4 a5 a6 a7 a8 a9 a10 a11)) 0 0)
  | _,_,_=>none
theorem cPlace_ok {I:World→Prop} (hI:∀ w,I w→Tab w∧Mx w):ConOK Tryz.prog I 22 cPlace:=con1_ok fun _ _ n X _ _ hw h1 h2 hT _=>by
  split at hT
  · obtain ⟨hb,rfl⟩:=tr_some hT
    simp only [Bool.and_eq_true,Nat.ble_eq] at hb
    obtain ⟨vs,e1,hA⟩:=asRats_ok h1 h2
    rw [e1]
    obtain ⟨aU,a1,aZ,a0,bp,rfl,ah,hA⟩:=hA.cons
    obtain ⟨aT,bg,aM,aJ,bm,rfl,ae,hA⟩:=hA.cons
    obtain ⟨aV,aP,bf,a5,bi,rfl,al,hA⟩:=hA.cons
    obtain ⟨aQ,aO,aC,a9,bq,rfl,ac,hA⟩:=hA.cons
    obtain ⟨bd,aY,aK,a6,bo,rfl,ad,hA⟩:=hA.cons
    obtain ⟨aX,bh,aE,aF,bj,rfl,ak,hA⟩:=hA.cons
    obtain ⟨aR,aN,a8,a4,bn,rfl,aj,hA⟩:=hA.cons
    obtain ⟨ba,aG,a2,aI,bu,rfl,af,hA⟩:=hA.cons
    obtain ⟨a3,bb,aS,aB,bt,rfl,aq,hA⟩:=hA.cons
    obtain ⟨aW,aD,aH,bc,bk,rfl,ai,hA⟩:=hA.cons
    obtain ⟨ay,aA,av,az,aL,rfl,ab,hA⟩:=hA.cons
    obtain ⟨ar,aw,au,ax,a7,rfl,aa,hA⟩:=hA.cons
    obtain rfl:=hA.nil
    replace ah:=ah.mono (m:=500) (by omega)
    replace ae:=ae.mono (m:=500) (by omega)
    replace al:=al.mono (m:=500) (by omega)
    replace ac:=ac.mono (m:=500) (by omega)
    replace ad:=ad.mono (m:=500) (by omega)
    replace ak:=ak.mono (m:=500) (by omega)
    replace aj:=aj.mono (m:=500) (by omega)
    replace af:=af.mono (m:=500) (by omega)
    replace aq:=aq.mono (m:=500) (by omega)
    replace ai:=ai.mono (m:=20000) (by omega)
    replace ab:=ab.mono (m:=20000) (by omega)
    replace aa:=aa.mono (m:=20000) (by omega)
    refine (run_calls sysPm sysPm_ok (runPm _ _ _ _ _ _ _ _ _ _ _ _) (X:=envR [aU,a1,aZ,a0,aT,bg,aM,aJ,aV,aP,bf,a5,aQ,aO,aC,a9,bd,aY,aK,a6,aX,bh,aE,aF,aR,aN,a8,a4,ba,aG,a2,aI,a3,bb,aS,aB,aW,aD,aH,bc,ay,aA,av,az,ar,aw,au,ax]) (hI _ hw) (okF1 (okA_ok ⟨⟨rfl,ah⟩,⟨rfl,ah⟩,⟨rfl,ah⟩,⟨rfl,ah⟩,⟨rfl,ae⟩,⟨rfl,ae⟩,⟨rfl,ae⟩,⟨rfl,ae⟩,⟨rfl,al⟩,⟨rfl,al⟩,⟨rfl,al⟩,⟨rfl,al⟩,⟨rfl,ac⟩,⟨rfl,ac⟩,⟨rfl,ac⟩,⟨rfl,ac⟩,⟨rfl,ad⟩,⟨rfl,ad⟩,⟨rfl,ad⟩,⟨rfl,ad⟩,⟨rfl,ak⟩,⟨rfl,ak⟩,⟨rfl,ak⟩,⟨rfl,ak⟩,⟨rfl,aj⟩,⟨rfl,aj⟩,⟨rfl,aj⟩,⟨rfl,aj⟩,⟨rfl,af⟩,⟨rfl,af⟩,⟨rfl,af⟩,⟨rfl,af⟩,⟨rfl,aq⟩,⟨rfl,aq⟩,⟨rfl,aq⟩,⟨rfl,aq⟩,⟨rfl,ai⟩,⟨rfl,ai⟩,⟨rfl,ai⟩,⟨rfl,ai⟩,⟨rfl,ab⟩,⟨rfl,ab⟩,⟨rfl,ab⟩,⟨rfl,ab⟩,⟨rfl,aa⟩,⟨rfl,aa⟩,⟨rfl,aa⟩,⟨rfl,aa⟩,trivial⟩)) (treePm_ok _)).mono fun e w' he=>?_
    obtain ⟨v,X',m,rfl,g,_,_,hp⟩:=he
    exact val_holds (v:=plV _) ⟨by rw [hp];rfl,g⟩ (plV_ok _ n X _)
  · cases hT
def rgV (A:Mo):SV:=.so (.vc (.cb (rigM A) none))
def treeRg (A:Mo):Lf:=.br (decide (l12 (mc (mz A) (mt A))=l12 idm)) (.ret (.so (.vc (.cb (decide (0<sgn (detm A).num)) none)))) (.ret (.so (.vc (.cb false (some false)))))
def RgP (A:Mo) (v:SV):Prop:=∀ X,v.den X=(rgV A).den X
theorem treeRg_ok (A:Mo):LOK (RgP A) (treeRg A):=by
  refine ⟨fun h X=>?_,fun h X=>?_⟩
  · show Value.bool _=Value.bool (rigM A)
    unfold rigM;rw [h];rfl
  · show Value.bool _=Value.bool (rigM A)
    unfold rigM;rw [h];rfl
theorem runRg (r0 r1 r2 r3 r4 r5 r6 r7 r8 r9 ab aa:Rat):runF sysPm 30 [.so (.vg [.cr 0 0 500 r0,.cr 0 1 500 r0,.cr 0 2 500 r0,.cr 0 3 500 r0,.cr 1 0 500 r1,.cr 1 1 500 r1,.cr 1 2 500 r1,.cr 1 3 500 r1,.cr 2 0 500 r2,.cr 2 1 500 r2,.cr 2 2 500 r2,.cr 2 3 500 r2,.cr 3 0 500 r3,.cr 3 1 500 r3,.cr 3 2 500 r3,.cr 3 3 500 r3,.cr 4 0 500 r4,.cr 4 1 500 r4,.cr 4 2 500 r4,.cr 4 3 500 r4,.cr 5 0 500 r5,.cr 5 1 500 r5,.cr 5 2 500 r5,.cr 5 3 500 r5,.cr 6 0 500 r6,.cr 6 1 500 r6,.cr 6 2 500 r6,.cr 6 3 500 r6,.cr 7 0 500 r7,.cr 7 1 500 r7,.cr 7 2 500 r7,.cr 7 3 500 r7,.cr 8 0 500 r8,.cr 8 1 500 r8,.cr 8 2 500 r8,.cr 8 3 500 r8,.cr 9 0 20000 r9,.cr 9 1 20000 r9,.cr 9 2 20000 r9,.cr 9 3 20000 r9,.cr 10 0 20000 ab,.cr 10 1 20000 ab,.cr 10 2 20000 ab,.cr 10 3 20000 ab,.cr 11 0 20000 aa,.cr 11 1 20000 aa,.cr 11 2 20000 aa,.cr 11 3 20000 aa])] 12 0 (.s (.o (.o (.o .e))) .e)=some (treeRg (mo12 r0 r1 r2 r3 r4 r5 r6 r7 r8 r9 ab aa)):=by kernel_rfl
def cRig:ConT:=con1 asRats fun
  | [(ka0,a0),(ka1,a1),(ka2,a2),(ka3,a3),(ka4,a4),(ka5,a5),(ka6,a6),(ka7,a7),(ka8,a8),(ka9,a9),(ka10,a10),(ka11,a11)],_,_=>tr (Nat.ble ka0 500&&Nat.ble ka1 500&&Nat.ble ka2 500&&Nat.ble ka3 500&&Nat.ble ka4 500&&Nat.ble ka5 500&&Nat.ble ka6 500&&Nat.ble ka7 500&&Nat.ble ka8 500&&Nat.ble ka9 20000&&Nat.ble ka10 20000&&Nat.ble ka11 20000) (.leaf (rgV (mo12 a0 a1 a2 a3 a4 a5 a6 a7 a8 a9 a10 a11)) 0 0)
  | _,_,_=>none
theorem cRig_ok {I:World→Prop} (hI:∀ w,I w→Tab w∧Mx w):ConOK Tryz.prog I 30 cRig:=con1_ok fun _ _ n X _ _ hw h1 h2 hT _=>by
  split at hT
  · obtain ⟨hb,rfl⟩:=tr_some hT
    simp only [Bool.and_eq_true,Nat.ble_eq] at hb
    obtain ⟨vs,e1,hA⟩:=asRats_ok h1 h2
    rw [e1]
    obtain ⟨aU,a1,aZ,a0,bp,rfl,ah,hA⟩:=hA.cons
    obtain ⟨aT,bg,aM,aJ,bm,rfl,ae,hA⟩:=hA.cons
    obtain ⟨aV,aP,bf,a5,bi,rfl,al,hA⟩:=hA.cons
    obtain ⟨aQ,aO,aC,a9,bq,rfl,ac,hA⟩:=hA.cons
    obtain ⟨bd,aY,aK,a6,bo,rfl,ad,hA⟩:=hA.cons
    obtain ⟨aX,bh,aE,aF,bj,rfl,ak,hA⟩:=hA.cons
    obtain ⟨aR,aN,a8,a4,bn,rfl,aj,hA⟩:=hA.cons
    obtain ⟨ba,aG,a2,aI,bu,rfl,af,hA⟩:=hA.cons
    obtain ⟨a3,bb,aS,aB,bt,rfl,aq,hA⟩:=hA.cons
    obtain ⟨aW,aD,aH,bc,bk,rfl,ai,hA⟩:=hA.cons
    obtain ⟨ay,aA,av,az,aL,rfl,ab,hA⟩:=hA.cons
    obtain ⟨ar,aw,au,ax,a7,rfl,aa,hA⟩:=hA.cons
    obtain rfl:=hA.nil
    replace ah:=ah.mono (m:=500) (by omega)
    replace ae:=ae.mono (m:=500) (by omega)
    replace al:=al.mono (m:=500) (by omega)
    replace ac:=ac.mono (m:=500) (by omega)
    replace ad:=ad.mono (m:=500) (by omega)
    replace ak:=ak.mono (m:=500) (by omega)
    replace aj:=aj.mono (m:=500) (by omega)
    replace af:=af.mono (m:=500) (by omega)
    replace aq:=aq.mono (m:=500) (by omega)
    replace ai:=ai.mono (m:=20000) (by omega)
    replace ab:=ab.mono (m:=20000) (by omega)
    replace aa:=aa.mono (m:=20000) (by omega)
    refine (run_calls sysPm sysPm_ok (runRg _ _ _ _ _ _ _ _ _ _ _ _) (X:=envR [aU,a1,aZ,a0,aT,bg,aM,aJ,aV,aP,bf,a5,aQ,aO,aC,a9,bd,aY,aK,a6,aX,bh,aE,aF,aR,aN,a8,a4,ba,aG,a2,aI,a3,bb,aS,aB,aW,aD,aH,bc,ay,aA,av,az,ar,aw,au,ax]) (hI _ hw) (okF1 (okA_ok ⟨⟨rfl,ah⟩,⟨rfl,ah⟩,⟨rfl,ah⟩,⟨rfl,ah⟩,⟨rfl,ae⟩,⟨rfl,ae⟩,⟨rfl,ae⟩,⟨rfl,ae⟩,⟨rfl,al⟩,⟨rfl,al⟩,⟨rfl,al⟩,⟨rfl,al⟩,⟨rfl,ac⟩,⟨rfl,ac⟩,⟨rfl,ac⟩,⟨rfl,ac⟩,⟨rfl,ad⟩,⟨rfl,ad⟩,⟨rfl,ad⟩,⟨rfl,ad⟩,⟨rfl,ak⟩,⟨rfl,ak⟩,⟨rfl,ak⟩,⟨rfl,ak⟩,⟨rfl,aj⟩,⟨rfl,aj⟩,⟨rfl,aj⟩,⟨rfl,aj⟩,⟨rfl,af⟩,⟨rfl,af⟩,⟨rfl,af⟩,⟨rfl,af⟩,⟨rfl,aq⟩,⟨rfl,aq⟩,⟨rfl,aq⟩,⟨rfl,aq⟩,⟨rfl,ai⟩,⟨rfl,ai⟩,⟨rfl,ai⟩,⟨rfl,ai⟩,⟨rfl,ab⟩,⟨rfl,ab⟩,⟨rfl,ab⟩,⟨rfl,ab⟩,⟨rfl,aa⟩,⟨rfl,aa⟩,⟨rfl,aa⟩,⟨rfl,aa⟩,trivial⟩)) (treeRg_ok _)).mono fun e w' he=>?_
    obtain ⟨v,X',m,rfl,g,_,_,hp⟩:=he
    exact val_holds (v:=rgV _) ⟨by rw [hp];rfl,g⟩ (⟨rfl,fun v e=>by cases e⟩)
  · cases hT
def treeRr (A:Mo):Lf:=.br (!(ratL (f3 (A 0) (A 1) (A 2) (A 0) (A 1) (A 2))==([49]:List UInt8))) (.ret (.so (.vc (.cb false (some false)))))
  (.br (!(ratL (f3 (A 0) (A 1) (A 2) (A 3) (A 4) (A 5))==([48]:List UInt8))) (.ret (.so (.vc (.cb false (some false)))))
  (.br (!(ratL (f3 (A 0) (A 1) (A 2) (A 6) (A 7) (A 8))==([48]:List UInt8))) (.ret (.so (.vc (.cb false (some false)))))
  (.br (!(ratL (f3 (A 3) (A 4) (A 5) (A 0) (A 1) (A 2))==([48]:List UInt8))) (.ret (.so (.vc (.cb false (some false)))))
  (.br (!(ratL (f3 (A 3) (A 4) (A 5) (A 3) (A 4) (A 5))==([49]:List UInt8))) (.ret (.so (.vc (.cb false (some false)))))
  (.br (!(ratL (f3 (A 3) (A 4) (A 5) (A 6) (A 7) (A 8))==([48]:List UInt8))) (.ret (.so (.vc (.cb false (some false)))))
  (.br (!(ratL (f3 (A 6) (A 7) (A 8) (A 0) (A 1) (A 2))==([48]:List UInt8))) (.ret (.so (.vc (.cb false (some false)))))
  (.br (!(ratL (f3 (A 6) (A 7) (A 8) (A 3) (A 4) (A 5))==([48]:List UInt8))) (.ret (.so (.vc (.cb false (some false)))))
  (.br (!(ratL (f3 (A 6) (A 7) (A 8) (A 6) (A 7) (A 8))==([49]:List UInt8))) (.ret (.so (.vc (.cb false (some false)))))
  (.ret (.so (.vc (.cb (ratL (f3 (A 0) (A 1) (A 2) (A 4*A 8 - A 5*A 7) (A 5*A 6 - A 3*A 8) (A 3*A 7 - A 4*A 6))==([49]:List UInt8)) none))))))))))))
theorem rigM_B (A:Mo):rigM A=rigidB (A 0) (A 1) (A 2) (A 3) (A 4) (A 5) (A 6) (A 7) (A 8):=rfl
theorem treeRr_ok (A:Mo):LOK (RgP A) (treeRr A):=by
  have no:∀ {x b:Rat} {W:List UInt8},ratL b=W→(!(ratL x==W))=true→(rigidB (A 0) (A 1) (A 2) (A 3) (A 4) (A 5) (A 6) (A 7) (A 8)=true→x=b)→LOK (RgP A) (.ret (.so (.vc (.cb false (some false))))):=fun {x b W} hw h hr X=>by
    show Value.bool false=Value.bool (rigM A)
    rw [rigM_B]
    cases e:rigidB (A 0) (A 1) (A 2) (A 3) (A 4) (A 5) (A 6) (A 7) (A 8) with
    | false=>rfl
    | true=>rw [hr e,hw] at h;simp at h
  have yes:∀ {x b:Rat} {W:List UInt8},ratL b=W→(!(ratL x==W))=false→x=b:=fun {x b W} hw h=>by
    have h:ratL x=W:=by simpa using h
    exact ratL_inj (h.trans hw.symm)
  refine ⟨fun h=>no (ratL1) h fun hr=>by have:=(rigid_iff.1 hr).1.1;unfold f3;grind,fun h0=>?_⟩
  refine ⟨fun h=>no (ratL0) h fun hr=>by have:=(rigid_iff.1 hr).1.2.1;unfold f3;grind,fun h1=>?_⟩
  refine ⟨fun h=>no (ratL0) h fun hr=>by have:=(rigid_iff.1 hr).1.2.2.1;unfold f3;grind,fun h2=>?_⟩
  refine ⟨fun h=>no (ratL0) h fun hr=>by have:=(rigid_iff.1 hr).1.2.1;unfold f3;grind,fun h3=>?_⟩
  refine ⟨fun h=>no (ratL1) h fun hr=>by have:=(rigid_iff.1 hr).1.2.2.2.1;unfold f3;grind,fun h4=>?_⟩
  refine ⟨fun h=>no (ratL0) h fun hr=>by have:=(rigid_iff.1 hr).1.2.2.2.2.1;unfold f3;grind,fun h5=>?_⟩
  refine ⟨fun h=>no (ratL0) h fun hr=>by have:=(rigid_iff.1 hr).1.2.2.1;unfold f3;grind,fun h6=>?_⟩
  refine ⟨fun h=>no (ratL0) h fun hr=>by have:=(rigid_iff.1 hr).1.2.2.2.2.1;unfold f3;grind,fun h7=>?_⟩
  refine ⟨fun h=>no (ratL1) h fun hr=>by have:=(rigid_iff.1 hr).1.2.2.2.2.2;unfold f3;grind,fun h8=>?_⟩
  intro X
  show Value.bool _=Value.bool (rigM A)
  rw [rigM_B,← ratL1,ratL_beq]
  congr 1
  rw [Bool.eq_iff_iff,decide_eq_true_eq,rigid_iff]
  have g0:=yes ratL1 h0;have g1:=yes ratL0 h1;have g2:=yes ratL0 h2;have g4:=yes ratL1 h4;have g5:=yes ratL0 h5;have g8:=yes ratL1 h8
  exact ⟨fun h=>⟨⟨g0,g1,g2,g4,g5,g8⟩,h⟩,fun h=>h.2⟩
def d9:Dt:=(.s .e (.s .e (.s .e (.s .e (.s .e (.s .e (.s .e (.s .e (.s .e (.o (.o (.o .e))))))))))))
theorem runRr (r0 r1 r2 r3 r4 r5 r6 r7 r8:Rat) (x y z:List UInt8) (d e f:Option (Nat × Rat)):runF sysPm 31 [.so (.vg [.cw (ratL r0) (some (500,r0)),.cw (ratL r1) (some (500,r1)),.cw (ratL r2) (some (500,r2)),.cw (ratL r3) (some (500,r3)),.cw (ratL r4) (some (500,r4)),.cw (ratL r5) (some (500,r5)),.cw (ratL r6) (some (500,r6)),.cw (ratL r7) (some (500,r7)),.cw (ratL r8) (some (500,r8)),.cw x d,.cw y e,.cw z f])] 0 0 d9=some (treeRr (mo12 r0 r1 r2 r3 r4 r5 r6 r7 r8 0 0 0)):=by kernel_rfl
def cRRig:ConT:=fun args _ _=>match args with
  | [.so (.vg [c0,c1,c2,c3,c4,c5,c6,c7,c8,.cw _ _,.cw _ _,.cw _ _])]=>match txC c0,txC c1,txC c2,txC c3,txC c4,txC c5,txC c6,txC c7,txC c8 with
    | some (k0,a0),some (k1,a1),some (k2,a2),some (k3,a3),some (k4,a4),some (k5,a5),some (k6,a6),some (k7,a7),some (k8,a8)=>tr (Nat.ble k0 500&&Nat.ble k1 500&&Nat.ble k2 500&&Nat.ble k3 500&&Nat.ble k4 500&&Nat.ble k5 500&&Nat.ble k6 500&&Nat.ble k7 500&&Nat.ble k8 500) (.leaf (rgV (mo12 a0 a1 a2 a3 a4 a5 a6 a7 a8 0 0 0)) 0 0)
    | _,_,_,_,_,_,_,_,_=>none
  | _=>none
theorem cRRig_ok {I:World→Prop} (hI:∀ w,I w→Tab w∧Mx w):ConOK Tryz.prog I 31 cRRig:=by
  intro args X n w T hw ha hT _
  unfold cRRig at hT
  split at hT
  · rename_i c0 c1 c2 c3 c4 c5 c6 c7 c8 x dx y dy z dz
    split at hT
    · rename_i k0 a0 k1 a1 k2 a2 k3 a3 k4 a4 k5 a5 k6 a6 k7 a7 k8 a8 e0 e1 e2 e3 e4 e5 e6 e7 e8
      obtain ⟨hb,rfl⟩:=tr_some hT
      simp only [Bool.and_eq_true,Nat.ble_eq] at hb
      have g:=fun c hc=>ha _ (List.mem_singleton.2 rfl) c hc
      obtain ⟨d0,s0⟩:=txC_ok e0 (g c0 (by simp))
      obtain ⟨d1,s1⟩:=txC_ok e1 (g c1 (by simp))
      obtain ⟨d2,s2⟩:=txC_ok e2 (g c2 (by simp))
      obtain ⟨d3,s3⟩:=txC_ok e3 (g c3 (by simp))
      obtain ⟨d4,s4⟩:=txC_ok e4 (g c4 (by simp))
      obtain ⟨d5,s5⟩:=txC_ok e5 (g c5 (by simp))
      obtain ⟨d6,s6⟩:=txC_ok e6 (g c6 (by simp))
      obtain ⟨d7,s7⟩:=txC_ok e7 (g c7 (by simp))
      obtain ⟨d8,s8⟩:=txC_ok e8 (g c8 (by simp))
      have k1:∀ {k x},k≤500→RS k x→(Cl.cw (ratL x) (some (500,x))).ok ⟨0,0,0⟩ X w:=fun hk h=>⟨rfl,fun k q e=>by cases e;exact ⟨rfl,h.mono hk⟩⟩
      have:=run_calls sysPm sysPm_ok (runRr a0 a1 a2 a3 a4 a5 a6 a7 a8 x y z dx dy dz) (X:=X) (hI w hw) (okF1 (okA_ok ⟨k1 (by omega) s0,k1 (by omega) s1,k1 (by omega) s2,k1 (by omega) s3,k1 (by omega) s4,k1 (by omega) s5,k1 (by omega) s6,k1 (by omega) s7,k1 (by omega) s8,⟨rfl,(g (.cw x dx) (by simp)).2⟩,⟨rfl,(g (.cw y dy) (by simp)).2⟩,⟨rfl,(g (.cw z dz) (by simp)).2⟩,trivial⟩)) (treeRr_ok _)
      show Calls _ _ #[.agg #[c0.den X,c1.den X,c2.den X,c3.den X,c4.den X,c5.den X,c6.den X,c7.den X,c8.den X,.string ⟨x.toArray⟩,.string ⟨y.toArray⟩,.string ⟨z.toArray⟩]] w _
      rw [d0,d1,d2,d3,d4,d5,d6,d7,d8]
      refine this.mono fun e w' he=>?_
      obtain ⟨v,X',m,rfl,g,_,_,hp⟩:=he
      exact val_holds (v:=rgV _) ⟨by rw [hp];rfl,g⟩ ⟨rfl,fun v e=>by cases e⟩
    · cases hT
  · cases hT
end Go.Proofs.YtaldbfflkpgfoaaGreatDoor
