/- Joined of: Gen135, Gen140, Gen141, RowMotionJoins. -/
import Derived.Test.YtaldbfflkpgfoaaGreatDoorPartG
import Derived.Test.YtaldbfflkpgfoaaGreatDoorPartH
import Derived.Test.YtaldbfflkpgfoaaGreatDoorCards
import Derived.Test.YtaldbfflkpgfoaaGreatDoorTie
namespace Go.Proofs.YtaldbfflkpgfoaaGreatDoor
open Go.RowKit

noncomputable def tabPm:List (Nat × List (Nat × Ent)):=[(19,[(5,.ord [(true,0),(true,1),(true,3),(true,4),(false,2),(true,5),(false,6)] [1])]),
 (22,[]),
 (24,[(9,.ord [(true,0),(true,1),(true,2),(true,3),(true,5),(true,6),(false,4),(true,7),(false,8)] [5])]),
 (30,[(1,.flo [(true,0),(true,1),(true,2),(true,3),(false,4),(true,5),(false,6)] [(7,3,41)] [(false,8)] []),(2,.ord [(true,0),(false,1),(false,2),(true,3),(true,4),(true,5),(true,6),(true,7),(true,8),(true,9),(true,10),(true,11),(true,12),(false,13),(false,14),(true,15),(true,16),(true,17)] [])]),
 (31,[(10,.ord [(true,0),(true,1),(true,2),(true,3),(true,4),(true,5),(true,6),(true,7),(true,9),(false,8),(true,10)] [])]),
 (36,[]),
 (38,[]),
 (39,[(1,.ord [(true,0),(true,1),(true,2),(false,3),(false,4),(false,5)] [6])]),
 (41,[(6,.ord [(true,0),(true,1),(true,2),(true,3),(true,4),(true,5),(true,6),(true,8),(true,9),(true,10),(true,11),(true,12),(true,13),(false,7),(false,14),(false,15),(true,16),(false,17)] [5])]),
 (43,[(1,.ord [(true,0),(true,1),(true,3),(true,4),(false,2),(false,5),(false,6)] [4])]),
 (44,[]),
 (69,[(8,.ord [(true,0),(true,1),(true,2),(true,3),(true,4),(false,5)] [3])]),
 (71,[(1,.ord [(true,0),(true,1),(true,2),(true,3),(true,5),(true,6),(true,7),(true,8),(true,11),(true,12),(true,13),(true,14),(false,4),(false,9),(false,10),(false,15),(false,16),(true,17)] [])]),
 (74,[(5,.ord [(true,0),(true,1),(true,2),(true,3),(true,4),(true,5),(true,6),(true,7),(false,8),(true,9),(false,10)] [7])]),
 (77,[(1,.ord [(true,0),(true,1),(true,2),(false,3),(false,4),(true,5)] [])]),
 (83,[]),
 (86,[]),
 (110,[(6,.ord [(true,0),(true,1),(true,2),(true,3),(true,4),(true,5),(true,6),(true,8),(true,9),(true,10),(true,11),(true,12),(true,13),(false,7),(false,14),(false,15),(true,16),(false,17)] [5])])]
noncomputable def conPm:List (Nat × ConT):=[(103,zk5 100000 (fun k m=>k+m+1) (fun a b=>a+b)),
 (75,zk5 100000 (fun k m=>k+m+1) (fun a b=>a - b)),
 (82,zk5 100000 (fun k m=>k+m) (fun a b=>a*b)),
 (108,cNeg),
 (59,ya9),
 (37,yb0),
 (76,zU7),
 (87,yb1),
 (130,cNum),
 (81,cDen),
 (58,cDiv),
 (96,zA2),
 (80,zU8),
 (122,zU9),
 (123,zV0),
 (68,yb2),
 (105,cTT (fun k m=>k+m+1) fun a b=>a+b),
 (132,cTT (fun k m=>k+m+1) fun a b=>a - b),
 (106,cTT (fun k m=>k+m) fun a b=>a*b),
 (64,yb3),
 (115,yb4),
 (65,zE6),
 (94,zv4 400),
 (107,zv4 65536),
 (15,cChk),
 (66,zV4),
 (14,cOf),
 (16,cMEq),
 (67,yn6),
 (21,cPlc),
 (11,zN9)]
noncomputable def sysPm:Sys:=⟨Tryz.prog,2,199,tabPm,conPm,fun w=>Tab w∧Mx w⟩
theorem sysPm_ok:sysPm.OK where
 mixed:=by kernel_rfl
 calls:=fun f h0 h1=>by
  have:(List.range 199).all (fun f=>Nat.blt f 2||okCall Tryz.prog f)=true:=by kernel_rfl
  have:=List.all_eq_true.1 this f (List.mem_range.2 h1)
  simp only [Bool.or_eq_true] at this
  exact this.resolve_left (fun e=>by have:=ze7 e;exact absurd h0 (by show ¬ 2≤f;omega))
 tab:=by
  have:tabPm.all (okTab Tryz.prog)=true:=by kernel_rfl
  exact fun x hx=>List.all_eq_true.1 this x hx
 lps:=zv8 (by kernel_rfl)
 con:=fun x hx=>by
  simp only [sysPm,conPm,List.mem_cons,List.not_mem_nil,or_false] at hx
  rcases hx with rfl | rfl | rfl | rfl | rfl | rfl | rfl | rfl | rfl | rfl | rfl | rfl | rfl | rfl | rfl | rfl | rfl | rfl | rfl | rfl | rfl | rfl | rfl | rfl | rfl | rfl | rfl | rfl | rfl | rfl | rfl
  ·exact zc6 fun h1 h2 h3=>zj5 h1 h2 h3
  ·exact zc6 fun h1 h2 h3=>zv1 h1 h2 h3
  ·exact zc6 fun h1 h2 h3=>yd1 h1 h2 h3
  ·exact zw7
  ·exact zo8
  ·exact zo9
  ·exact zl9
  ·exact zp0 fun w h=>h.1
  ·exact zt0
  ·exact zt1
  ·exact zw8
  ·exact zj0
  ·exact zm0
  ·exact zm1
  ·exact zm2
  ·exact zp1
  ·exact zp2
  ·exact zp3
  ·exact zp4
  ·exact zp5
  ·exact zp6
  ·exact zk6
  ·exact zp7 fun w h=>h.2
  ·exact zp8 fun w h=>h.2
  ·exact zV3 fun w h=>h.2
  ·exact zp9
  ·exact cOf_ok fun w h=>h
  ·exact zH7
  ·exact zx7
  ·exact zR0 fun w h=>h
  ·exact zx8 fun w h=>h
 inv:=fun w w' h g=>⟨h.1.gr g,h.2.gr g⟩
def mo12 (r0 r1 r2 r3 r4 r5 r6 r7 r8 r9 r10 r11:Rat):Mo
 | 0=>r0
 | 1=>r1
 | 2=>r2
 | 3=>r3
 | 4=>r4
 | 5=>r5
 | 6=>r6
 | 7=>r7
 | 8=>r8
 | 9=>r9
 | 10=>r10
 | 11=>r11
 | _=>0
def rigM (A:Mo):Bool:=decide (l12 (mc (mz A) (mt A))=l12 idm)&&decide (0<sgn (detm A).num)
def zwM (A:Mo) (i:Nat):Int:=wzq (zM7 (A 0) (A 1) (A 2) (A 3) (A 4) (A 5) (A 6) (A 7) (A 8)) i
def ePl (A:Mo):Int:=perr (rigM A) (zwM A 0) (zwM A 1) (zwM A 2) (zwM A 3) (za1 (A 9)) (za1 (A 10)) (za1 (A 11))
def plV (A:Mo):SV:=.st [.vg [.ci .i64 (pif (ePl A) (zwM A 0)) (-12) 12,.ci .i64 (pif (ePl A) (zwM A 1)) (-12) 12,.ci .i64 (pif (ePl A) (zwM A 2)) (-12) 12,.ci .i64 (pif (ePl A) (zwM A 3)) (-12) 12,.cw (pit (ePl A) (za1 (A 9))) none,.cw (pit (ePl A) (za1 (A 10))) none,.cw (pit (ePl A) (za1 (A 11))) none],.vc (.ci .i64 (ePl A) 0 5)]
def er (n:Int):Lf:=.ret (.st [.vg [.ci .i64 0 0 0,.ci .i64 0 0 0,.ci .i64 0 0 0,.ci .i64 0 0 0,.cw [] none,.cw [] none,.cw [] none],.vc (.ci .i64 n n n)])
def inC (z:Int) (l:Lf):Lf:=.br (zN0 z) (.br (decide (yq8 z< -12)) (er 2) (.br (decide (12<yq8 z)) (er 2) l)) (er 2)
def leC (x:Rat) (l:Lf):Lf:=.br (decide ((400:Int)<((za1 x).length:Int))) (er 5) l
def treePm (A:Mo):Lf:=.br (decide (l12 (mc (mz A) (mt A))=l12 idm)) (.br (decide (0<sgn (detm A).num)) (inC (zwM A 0) (inC (zwM A 1) (inC (zwM A 2) (inC (zwM A 3) (leC (A 9) (leC (A 10) (leC (A 11) (.ret (.st [.vg [.ci .i64 (yq8 (zwM A 0)) (-9223372036854775808) 9223372036854775807,.ci .i64 (yq8 (zwM A 1)) (-9223372036854775808) 9223372036854775807,.ci .i64 (yq8 (zwM A 2)) (-9223372036854775808) 9223372036854775807,.ci .i64 (yq8 (zwM A 3)) (-9223372036854775808) 9223372036854775807,.cw (za1 (A 9)) (some (20000,A 9)),.cw (za1 (A 10)) (some (20000,A 10)),.cw (za1 (A 11)) (some (20000,A 11))],.vc (.ci .i64 0 0 0)])))))))))
 (er 3)) (er 3)
def PlP (A:Mo) (v:SV):Prop:=∀ X,v.den X=(plV A).den X
theorem zR2 {A:Mo} {n:Int} (h:ePl A=n) (h0:n≠0):LOK (PlP A) (er n):=by
 intro X
 unfold plV
 rw [h]
 have p:∀ z,pif n z=0:=fun z=>if_neg h0
 have q:∀ x,pit n x=[]:=fun x=>if_neg h0
 simp only [p,q]
 rfl
theorem yi3 {P:SV→Prop} {z:Int} {l:Lf} (h1:¬(-12≤z∧z≤12)→LOK P (er 2)) (h2:-12≤z∧z≤12→LOK P l):LOK P (inC z l):=by
 have f:∀ v,zN0 z=v→(v=true↔(-9223372036854775808≤z∧z≤9223372036854775807)):=fun v e=>by subst e;unfold zN0;simp
 refine ⟨fun e=>?_,fun e=>h1 fun h=>?_⟩
 ·have g:=(f _ e).1 rfl
  have ez:yq8 z=z:=if_pos e
  refine ⟨fun k=>h1 fun h=>?_,fun k=>⟨fun m=>h1 fun h=>?_,fun m=>h2 ?_⟩⟩
  ·have:=of_decide_eq_true k;omega
  ·have:=of_decide_eq_true m;omega
  ·have:=of_decide_eq_false k;have:=of_decide_eq_false m;omega
 ·have:=(f _ e).2 (by omega);cases this
theorem zO0 {P:SV→Prop} {x:Rat} {l:Lf} (h1:¬(((za1 x).length:Int)≤400)→LOK P (er 5)) (h2:((za1 x).length:Int)≤400→LOK P l):LOK P (leC x l):=
 ⟨fun e=>h1 (by have:=of_decide_eq_true e;omega),fun e=>h2 (by have:=of_decide_eq_false e;omega)⟩
theorem yt6 (A:Mo):LOK (PlP A) (treePm A):=by
 refine ⟨fun h1=>⟨fun h2=>?_,fun h2=>zR2 (if_neg (by unfold rigM;rw [h1,h2];decide)) (by decide)⟩,fun h1=>zR2 (if_neg (by unfold rigM;rw [h1];simp)) (by decide)⟩
 have hr:rigM A=true:=by unfold rigM;rw [h1,h2];rfl
 have e2:¬((-12≤zwM A 0∧zwM A 0≤12)∧(-12≤zwM A 1∧zwM A 1≤12)∧(-12≤zwM A 2∧zwM A 2≤12)∧(-12≤zwM A 3∧zwM A 3≤12))→ePl A=2:=fun h=>(if_pos hr).trans (if_neg h)
 refine yi3 (fun h=>zR2 (e2 fun g=>h g.1) (by decide)) fun b0=>yi3 (fun h=>zR2 (e2 fun g=>h g.2.1) (by decide)) fun b1=>yi3 (fun h=>zR2 (e2 fun g=>h g.2.2.1) (by decide)) fun b2=>yi3 (fun h=>zR2 (e2 fun g=>h g.2.2.2) (by decide)) fun b3=>?_
 have e5:¬(((za1 (A 9)).length:Int)≤400∧((za1 (A 10)).length:Int)≤400∧((za1 (A 11)).length:Int)≤400)→ePl A=5:=fun h=>(if_pos hr).trans ((if_pos ⟨b0,b1,b2,b3⟩).trans (if_neg h))
 refine zO0 (fun h=>zR2 (e5 fun g=>h g.1) (by decide)) fun l0=>zO0 (fun h=>zR2 (e5 fun g=>h g.2.1) (by decide)) fun l1=>zO0 (fun h=>zR2 (e5 fun g=>h g.2.2) (by decide)) fun l2=>?_
 have e0:ePl A=0:=(if_pos hr).trans ((if_pos ⟨b0,b1,b2,b3⟩).trans (if_pos ⟨l0,l1,l2⟩))
 have v:∀ z:Int,-12≤z∧z≤12→yq8 z=z:=fun z h=>if_pos (by unfold zN0;simp;omega)
 intro X
 unfold plV
 rw [e0,v _ b0,v _ b1,v _ b2,v _ b3]
 rfl
theorem plV_ok (A:Mo) (n:Nn) (X:Env) (w:World):(plV A).ok n X w:=by
 have h:0≤ePl A∧ePl A≤5∧(ePl A=0→(-12≤zwM A 0∧zwM A 0≤12)∧(-12≤zwM A 1∧zwM A 1≤12)∧(-12≤zwM A 2∧zwM A 2≤12)∧(-12≤zwM A 3∧zwM A 3≤12)):=by
  unfold ePl perr
  split
  ·split
   ·rename_i h;split<;>simp_all
   ·simp
  ·simp
 have b:∀ z:Int,(ePl A=0→-12≤z∧z≤12)→-12≤pif (ePl A) z∧pif (ePl A) z≤12:=fun z hz=>by
  unfold pif
  split
  ·exact hz ‹_›
  ·decide
 intro x hx
 simp only [List.mem_cons,List.not_mem_nil,or_false] at hx
 rcases hx with rfl | rfl
 ·exact zf6 ⟨⟨rfl,b _ fun e=>(h.2.2 e).1⟩,⟨rfl,b _ fun e=>(h.2.2 e).2.1⟩,⟨rfl,b _ fun e=>(h.2.2 e).2.2.1⟩,⟨rfl,b _ fun e=>(h.2.2 e).2.2.2⟩,⟨rfl,fun _ _ e=>by cases e⟩,⟨rfl,fun _ _ e=>by cases e⟩,⟨rfl,fun _ _ e=>by cases e⟩,trivial⟩
 ·exact ⟨rfl,h.1,h.2.1⟩
theorem runPm (r0 r1 r2 r3 r4 r5 r6 r7 r8 r9 ab aa:Rat):zV9 sysPm 22 [.so (.vg [.cr 0 0 500 r0,.cr 0 1 500 r0,.cr 0 2 500 r0,.cr 0 3 500 r0,.cr 1 0 500 r1,.cr 1 1 500 r1,.cr 1 2 500 r1,.cr 1 3 500 r1,.cr 2 0 500 r2,.cr 2 1 500 r2,.cr 2 2 500 r2,.cr 2 3 500 r2,.cr 3 0 500 r3,.cr 3 1 500 r3,.cr 3 2 500 r3,.cr 3 3 500 r3,.cr 4 0 500 r4,.cr 4 1 500 r4,.cr 4 2 500 r4,.cr 4 3 500 r4,.cr 5 0 500 r5,.cr 5 1 500 r5,.cr 5 2 500 r5,.cr 5 3 500 r5,.cr 6 0 500 r6,.cr 6 1 500 r6,.cr 6 2 500 r6,.cr 6 3 500 r6,.cr 7 0 500 r7,.cr 7 1 500 r7,.cr 7 2 500 r7,.cr 7 3 500 r7,.cr 8 0 500 r8,.cr 8 1 500 r8,.cr 8 2 500 r8,.cr 8 3 500 r8,.cr 9 0 20000 r9,.cr 9 1 20000 r9,.cr 9 2 20000 r9,.cr 9 3 20000 r9,.cr 10 0 20000 ab,.cr 10 1 20000 ab,.cr 10 2 20000 ab,.cr 10 3 20000 ab,.cr 11 0 20000 aa,.cr 11 1 20000 aa,.cr 11 2 20000 aa,.cr 11 3 20000 aa])] 12 0 (.s (.s (.s (.s .e (.s .e (.s (.s .e (.s .e (.s (.s .e (.s .e (.s (.s .e (.s .e (.s .e (.s .e (.s .e .e))))) .e))) .e))) .e))) .e) .e) .e)=some (treePm (mo12 r0 r1 r2 r3 r4 r5 r6 r7 r8 r9 ab aa)):=by kernel_rfl
def cPlace:ConT:=yc1 zM0 fun
 | [(ka0,a0),(ka1,a1),(ka2,a2),(ka3,a3),(ka4,a4),(ka5,a5),(ka6,a6),(ka7,a7),(ka8,a8),(ka9,a9),(ka10,a10),(ka11,a11)],_,_=>tr (Nat.ble ka0 500&&Nat.ble ka1 500&&Nat.ble ka2 500&&Nat.ble ka3 500&&Nat.ble ka4 500&&Nat.ble ka5 500&&Nat.ble ka6 500&&Nat.ble ka7 500&&Nat.ble ka8 500&&Nat.ble ka9 20000&&Nat.ble ka10 20000&&Nat.ble ka11 20000) (.leaf (plV (mo12 a0 a1 a2 a3 a4 a5 a6 a7 a8 a9 a10 a11)) 0 0)
 | _,_,_=>none
theorem yt7 {I:World→Prop} (hI:∀ w,I w→Tab w∧Mx w):ConOK Tryz.prog I 22 cPlace:=zg6 fun _ _ n X _ _ hw h1 h2 hT _=>by
 split at hT
 ·obtain ⟨hb,rfl⟩:=zd8 hT
  simp only [Bool.and_eq_true,Nat.ble_eq] at hb
  obtain ⟨vs,e1,hA⟩:=zt2 h1 h2
  rw [e1]
  obtain ⟨aX,aY,aS,aO,bg,rfl,aj,hA⟩:=hA.cons
  obtain ⟨pa1,a8,aF,aR,bq,rfl,ac,hA⟩:=hA.cons
  obtain ⟨aA,bf,a3,aC,bk,rfl,ah,hA⟩:=hA.cons
  obtain ⟨a4,aD,aI,a9,bm,rfl,al,hA⟩:=hA.cons
  obtain ⟨aV,a0,a5,bb,bn,rfl,ap,hA⟩:=hA.cons
  obtain ⟨aE,a1,aJ,aB,bj,rfl,ak,hA⟩:=hA.cons
  obtain ⟨aZ,aM,bd,aT,bp,rfl,ai,hA⟩:=hA.cons
  obtain ⟨aL,a6,aN,aU,bh,rfl,af,hA⟩:=hA.cons
  obtain ⟨bc,aH,aP,aG,bo,rfl,ae,hA⟩:=hA.cons
  obtain ⟨a2,a7,ba,aW,bi,rfl,ad,hA⟩:=hA.cons
  obtain ⟨az,ay,ar,au,aQ,rfl,aa,hA⟩:=hA.cons
  obtain ⟨aw,av,aq,ax,aK,rfl,ab,hA⟩:=hA.cons
  obtain rfl:=hA.nil
  replace aj:=aj.mono (m:=500) (by omega)
  replace ac:=ac.mono (m:=500) (by omega)
  replace ah:=ah.mono (m:=500) (by omega)
  replace al:=al.mono (m:=500) (by omega)
  replace ap:=ap.mono (m:=500) (by omega)
  replace ak:=ak.mono (m:=500) (by omega)
  replace ai:=ai.mono (m:=500) (by omega)
  replace af:=af.mono (m:=500) (by omega)
  replace ae:=ae.mono (m:=500) (by omega)
  replace ad:=ad.mono (m:=20000) (by omega)
  replace aa:=aa.mono (m:=20000) (by omega)
  replace ab:=ab.mono (m:=20000) (by omega)
  refine (zc8 sysPm sysPm_ok (runPm _ _ _ _ _ _ _ _ _ _ _ _) (X:=zG5 [aX,aY,aS,aO,pa1,a8,aF,aR,aA,bf,a3,aC,a4,aD,aI,a9,aV,a0,a5,bb,aE,a1,aJ,aB,aZ,aM,bd,aT,aL,a6,aN,aU,bc,aH,aP,aG,a2,a7,ba,aW,az,ay,ar,au,aw,av,aq,ax]) (hI _ hw) (okF1 (zf6 ⟨⟨rfl,aj⟩,⟨rfl,aj⟩,⟨rfl,aj⟩,⟨rfl,aj⟩,⟨rfl,ac⟩,⟨rfl,ac⟩,⟨rfl,ac⟩,⟨rfl,ac⟩,⟨rfl,ah⟩,⟨rfl,ah⟩,⟨rfl,ah⟩,⟨rfl,ah⟩,⟨rfl,al⟩,⟨rfl,al⟩,⟨rfl,al⟩,⟨rfl,al⟩,⟨rfl,ap⟩,⟨rfl,ap⟩,⟨rfl,ap⟩,⟨rfl,ap⟩,⟨rfl,ak⟩,⟨rfl,ak⟩,⟨rfl,ak⟩,⟨rfl,ak⟩,⟨rfl,ai⟩,⟨rfl,ai⟩,⟨rfl,ai⟩,⟨rfl,ai⟩,⟨rfl,af⟩,⟨rfl,af⟩,⟨rfl,af⟩,⟨rfl,af⟩,⟨rfl,ae⟩,⟨rfl,ae⟩,⟨rfl,ae⟩,⟨rfl,ae⟩,⟨rfl,ad⟩,⟨rfl,ad⟩,⟨rfl,ad⟩,⟨rfl,ad⟩,⟨rfl,aa⟩,⟨rfl,aa⟩,⟨rfl,aa⟩,⟨rfl,aa⟩,⟨rfl,ab⟩,⟨rfl,ab⟩,⟨rfl,ab⟩,⟨rfl,ab⟩,trivial⟩)) (yt6 _)).mono fun e w' he=>?_
  obtain ⟨v,X',m,rfl,g,_,_,hp⟩:=he
  exact zb4 (v:=plV _) ⟨by rw [hp];rfl,g⟩ (plV_ok _ n X _)
 ·cases hT
noncomputable def tabOg:List (Nat × List (Nat × Ent)):=[(14,[(5,.ord [(true,0),(true,1),(true,2),(true,3),(true,4),(true,5),(true,6),(true,7),(true,8),(true,9),(true,10),(true,11),(true,12),(true,13),(true,14),(true,15)] []),(12,.ord [(true,0),(true,1),(true,3),(true,5),(false,2),(false,4),(true,6),(false,7)] [14])]),
 (27,[(11,.ord [(true,0),(true,1),(false,2),(true,3),(false,4),(true,5)] [4])]),
 (45,[]),
 (53,[]),
 (60,[]),
 (72,[]),
 (74,[(5,.ord [(true,0),(true,1),(true,2),(true,3),(true,4),(true,5),(true,6),(true,7),(false,8),(true,9),(false,10)] [7])]),
 (97,[])]
noncomputable def conOg:List (Nat × ConT):=[(103,zk5 100000 (fun k m=>k+m+1) (fun a b=>a+b)),
 (75,zk5 100000 (fun k m=>k+m+1) (fun a b=>a - b)),
 (82,zk5 100000 (fun k m=>k+m) (fun a b=>a*b)),
 (108,cNeg),
 (59,ya9),
 (37,yb0),
 (76,zU7),
 (87,yb1),
 (130,cNum),
 (81,cDen),
 (58,cDiv),
 (96,zA2),
 (80,zU8),
 (122,zU9),
 (123,zV0),
 (68,yb2),
 (105,cTT (fun k m=>k+m+1) fun a b=>a+b),
 (132,cTT (fun k m=>k+m+1) fun a b=>a - b),
 (106,cTT (fun k m=>k+m) fun a b=>a*b),
 (64,yb3),
 (115,yb4),
 (65,zE6),
 (94,zv4 400),
 (107,zv4 65536),
 (66,zV4),
 (16,cMEq),
 (67,yn6),
 (21,cPlc),
 (11,zN9),
 (15,cChA),
 (57,cVPa)]
noncomputable def sysOg:Sys:=⟨Tryz.prog,2,199,tabOg,conOg,fun w=>Tab w∧Mx w⟩
theorem yi4:sysOg.OK where
 mixed:=by kernel_rfl
 calls:=fun f h0 h1=>by
  have:(List.range 199).all (fun f=>Nat.blt f 2||okCall Tryz.prog f)=true:=by kernel_rfl
  have:=List.all_eq_true.1 this f (List.mem_range.2 h1)
  simp only [Bool.or_eq_true] at this
  exact this.resolve_left (fun e=>by have:=ze7 e;exact absurd h0 (by show ¬ 2≤f;omega))
 tab:=by
  have:tabOg.all (okTab Tryz.prog)=true:=by kernel_rfl
  exact fun x hx=>List.all_eq_true.1 this x hx
 lps:=zv8 (by kernel_rfl)
 con:=fun x hx=>by
  simp only [sysOg,conOg,List.mem_cons,List.not_mem_nil,or_false] at hx
  rcases hx with rfl | rfl | rfl | rfl | rfl | rfl | rfl | rfl | rfl | rfl | rfl | rfl | rfl | rfl | rfl | rfl | rfl | rfl | rfl | rfl | rfl | rfl | rfl | rfl | rfl | rfl | rfl | rfl | rfl | rfl | rfl
  ·exact zc6 fun h1 h2 h3=>zj5 h1 h2 h3
  ·exact zc6 fun h1 h2 h3=>zv1 h1 h2 h3
  ·exact zc6 fun h1 h2 h3=>yd1 h1 h2 h3
  ·exact zw7
  ·exact zo8
  ·exact zo9
  ·exact zl9
  ·exact zp0 fun w h=>h.1
  ·exact zt0
  ·exact zt1
  ·exact zw8
  ·exact zj0
  ·exact zm0
  ·exact zm1
  ·exact zm2
  ·exact zp1
  ·exact zp2
  ·exact zp3
  ·exact zp4
  ·exact zp5
  ·exact zp6
  ·exact zk6
  ·exact zp7 fun w h=>h.2
  ·exact zp8 fun w h=>h.2
  ·exact zp9
  ·exact zH7
  ·exact zx7
  ·exact zR0 fun w h=>h
  ·exact zx8 fun w h=>h
  ·exact yd0 fun w h=>h.2
  ·exact zR6 fun w h=>h.2
 inv:=fun w w' h g=>⟨h.1.gr g,h.2.gr g⟩
def cj5 (q0 q1 q2 q3:Int) (X Y Z:List UInt8):Bool:=decide (((-9223372036854775808≤q0∧q0≤9223372036854775807)∧(-9223372036854775808≤q1∧q1≤9223372036854775807)∧(-9223372036854775808≤q2∧q2≤9223372036854775807)∧(-9223372036854775808≤q3∧q3≤9223372036854775807))∧X.length≤500∧Y.length≤500∧Z.length≤500)
def zm48:List Cl:=[.cb false (some false),.cv (.slice none 0 0),.cb false (some false),.cv (.slice none 0 0),.cb false (some false),.cv (.slice none 0 0),.cb false (some false),.cv (.slice none 0 0),.cb false (some false),.cv (.slice none 0 0),.cb false (some false),.cv (.slice none 0 0),.cb false (some false),.cv (.slice none 0 0),.cb false (some false),.cv (.slice none 0 0),.cb false (some false),.cv (.slice none 0 0),.cb false (some false),.cv (.slice none 0 0),.cb false (some false),.cv (.slice none 0 0),.cb false (some false),.cv (.slice none 0 0),.cb false (some false),.cv (.slice none 0 0),.cb false (some false),.cv (.slice none 0 0),.cb false (some false),.cv (.slice none 0 0),.cb false (some false),.cv (.slice none 0 0),.cb false (some false),.cv (.slice none 0 0),.cb false (some false),.cv (.slice none 0 0),.cb false (some false),.cv (.slice none 0 0),.cb false (some false),.cv (.slice none 0 0),.cb false (some false),.cv (.slice none 0 0),.cb false (some false),.cv (.slice none 0 0),.cb false (some false),.cv (.slice none 0 0),.cb false (some false),.cv (.slice none 0 0)]
noncomputable def oRawG (q0 q1 q2 q3:Int) (X Y Z:List UInt8):List (Nat × Rat):=[(192,mOf q0 q1 q2 q3 0),(192,mOf q0 q1 q2 q3 1),(192,mOf q0 q1 q2 q3 2),(192,mOf q0 q1 q2 q3 3),(192,mOf q0 q1 q2 q3 4),(192,mOf q0 q1 q2 q3 5),(192,mOf q0 q1 q2 q3 6),(192,mOf q0 q1 q2 q3 7),(192,mOf q0 q1 q2 q3 8),(2000,pq (fe X Y Z) X),(2000,pq (fe X Y Z) Y),(2000,pq (fe X Y Z) Z)]
noncomputable def oLisG (q0 q1 q2 q3:Int) (X Y Z:List UInt8):List (Nat × Rat):=[(64,roE q0 q1 q2 q3 0),(64,roE q0 q1 q2 q3 1),(64,roE q0 q1 q2 q3 2),(64,roE q0 q1 q2 q3 3),(64,roE q0 q1 q2 q3 4),(64,roE q0 q1 q2 q3 5),(64,roE q0 q1 q2 q3 6),(64,roE q0 q1 q2 q3 7),(64,roE q0 q1 q2 q3 8),(2000,pq 0 X),(2000,pq 0 Y),(2000,pq 0 Z)]
noncomputable def treeOg (q0 q1 q2 q3:Int) (X Y Z:List UInt8):Lf:=.as (cj5 q0 q1 q2 q3 X Y Z) true (.as ((chk q0 q1 q2 q3 (fe X Y Z)) !=0) false (.as (decide (X.length≤500∧Y.length≤500∧Z.length≤500)) true (.as (decide (nN q0 q1 q2 q3=0)) false (.ret (.st [.vg (rowC [9,10,11,15,16,17,21,22,23,0,1,2] (oRawG q0 q1 q2 q3 X Y Z)),.vc (.ci .i64 0 0 0)])))))
theorem runOg (q0 q1 q2 q3:Int) (X Y Z:List UInt8) (dx dy dz:Option (Nat × Rat)):zV9 sysOg 14 [.so (.vg [.ci .i64 q0 (-12) 12,.ci .i64 q1 (-12) 12,.ci .i64 q2 (-12) 12,.ci .i64 q3 (-12) 12,.cw X dx,.cw Y dy,.cw Z dz])] 0 0 (.f (.f .e))=some (treeOg q0 q1 q2 q3 X Y Z):=by kernel_rfl
def treeOe (q0 q1 q2 q3:Int) (X Y Z:List UInt8):Lf:=.as (cj5 q0 q1 q2 q3 X Y Z) true (.as ((chk q0 q1 q2 q3 (fe X Y Z)) !=0) true (.ret (.st [.vg zm48,.vc (.ci .i64 (chk q0 q1 q2 q3 (fe X Y Z)) 0 20)])))
theorem runOe (q0 q1 q2 q3:Int) (X Y Z:List UInt8) (dx dy dz:Option (Nat × Rat)):zV9 sysOg 14 [.so (.vg [.ci .i64 q0 (-9223372036854775808) 9223372036854775807,.ci .i64 q1 (-9223372036854775808) 9223372036854775807,.ci .i64 q2 (-9223372036854775808) 9223372036854775807,.ci .i64 q3 (-9223372036854775808) 9223372036854775807,.cw X dx,.cw Y dy,.cw Z dz])] 0 0 (.t .e)=some (treeOe q0 q1 q2 q3 X Y Z):=by kernel_rfl
noncomputable def cOfG:ConT:=fun args nr _=>match args with
 | [.so (.vg [.ci .i64 q0 _ _,.ci .i64 q1 _ _,.ci .i64 q2 _ _,.ci .i64 q3 _ _,.cw X _,.cw Y _,.cw Z _])]=>some (.as (cj5 q0 q1 q2 q3 X Y Z) (.br ((chk q0 q1 q2 q3 (fe X Y Z)) !=0) (.leaf (.st [.vg zm48,.vc (.ci .i64 (chk q0 q1 q2 q3 (fe X Y Z)) 0 20)]) 0 0) (.leaf (.st [.vg (zm3 nr (oLisG q0 q1 q2 q3 X Y Z)),.vc (.ci .i64 0 0 0)]) 12 0)))
 | _=>none
theorem cOfG_ok {I:World→Prop} (hI:∀ w,I w→Tab w∧Mx w):ConOK Tryz.prog I 14 cOfG:=by
 intro args E n w T hw ha hT hp
 unfold cOfG at hT
 split at hT
 ·rename_i q0 _ _ q1 _ _ q2 _ _ q3 _ _ X dx Y dy Z dz
  cases hT
  have hc:=hp.1
  obtain ⟨⟨h0,h1,h2,h3⟩,lx,ly,lz⟩:=of_decide_eq_true hc
  have g:=fun c hc=>(ha _ (List.mem_singleton.2 rfl) c hc)
  have gx:(Cl.cw X dx).ok ⟨0,0,0⟩ E w:=⟨rfl,(g (.cw X dx) (by simp)).2⟩
  have gy:(Cl.cw Y dy).ok ⟨0,0,0⟩ E w:=⟨rfl,(g (.cw Y dy) (by simp)).2⟩
  have gz:(Cl.cw Z dz).ok ⟨0,0,0⟩ E w:=⟨rfl,(g (.cw Z dz) (by simp)).2⟩
  have one:Calls Tryz.prog 14 #[.agg #[.int .i64 q0,.int .i64 q1,.int .i64 q2,.int .i64 q3,.string ⟨X.toArray⟩,.string ⟨Y.toArray⟩,.string ⟨Z.toArray⟩]] w fun e w'=>(((chk q0 q1 q2 q3 (fe X Y Z)) !=0)=true∧e=.returned (.tuple #[.agg (dnL E zm48),.int .i64 (chk q0 q1 q2 q3 (fe X Y Z))])∨((chk q0 q1 q2 q3 (fe X Y Z)) !=0)=false∧∃ vs:List Value,e=.returned (.tuple #[.agg vs.toArray,.int .i64 0])∧IsRats w' vs (oLisG q0 q1 q2 q3 X Y Z))∧Gr w w':=by
   by_cases h:(chk q0 q1 q2 q3 (fe X Y Z))=0
   ·obtain ⟨hv,aa⟩:=yk3 h
    have hf:((chk q0 q1 q2 q3 (fe X Y Z)) !=0)=false:=by rw [h];rfl
    have hl:LOK (fun v=>∃ l,v=.st [.vg l,.vc (.ci .i64 0 0 0)]∧rats l=some (oRawG q0 q1 q2 q3 X Y Z)) (treeOg q0 q1 q2 q3 X Y Z):=⟨hc,hf,decide_eq_true ⟨lx,ly,lz⟩,decide_eq_false (yg3 hv),_,rfl,rfl⟩
    refine (zc8 sysOg yi4 (runOg q0 q1 q2 q3 X Y Z dx dy dz) (X:=E) (hI w hw) (okF1 (zf6 ⟨⟨rfl,hv.b0⟩,⟨rfl,hv.b1⟩,⟨rfl,hv.b2⟩,⟨rfl,hv.b3⟩,gx,gy,gz,trivial⟩)) hl).mono fun e w' he=>?_
    obtain ⟨v,X',m,rfl,g,_,hv',l,rfl,hr⟩:=he
    have hh:=zC8 hr (hv' (.vg l) (by simp))
    have rs:=fun k=>(roE_rs hv k).mono (show 50≤64 by decide)
    have one:=fun k=>@yE9 (nN q0 q1 q2 q3) ((roN q0 q1 q2 q3 k:Int):Rat)
    obtain ⟨e1,e2,e3⟩:=zw9 aa
    have pr:∀ {X:List UInt8},ck2 X 400=0→X.length≤500→pq (fe _ _ _) X=pq 0 X∧RS 2000 (pq 0 X):=fun {X} hx hl=>by
     obtain ⟨a,rfl,ha,_⟩:=zq1 hx (by omega)
     exact ⟨by rw [show fe _ _ _=0 from aa],by rw [zH9];exact ha⟩
    have p1:=pr e1 lx;have p2:=pr e2 ly;have p3:=pr e3 lz
    exact ⟨.inr ⟨hf,_,rfl,hh.conv ⟨⟨one 0,rs 0,Nat.le_refl _⟩,⟨one 1,rs 1,Nat.le_refl _⟩,⟨one 2,rs 2,Nat.le_refl _⟩,⟨one 3,rs 3,Nat.le_refl _⟩,⟨one 4,rs 4,Nat.le_refl _⟩,⟨one 5,rs 5,Nat.le_refl _⟩,⟨one 6,rs 6,Nat.le_refl _⟩,⟨one 7,rs 7,Nat.le_refl _⟩,⟨one 8,rs 8,Nat.le_refl _⟩,⟨p1.1,p1.2,by decide⟩,⟨p2.1,p2.2,by decide⟩,⟨p3.1,p3.2,by decide⟩,trivial⟩⟩,g⟩
   ·have hf:((chk q0 q1 q2 q3 (fe X Y Z)) !=0)=true:=by simpa using h
    refine (zc8 sysOg yi4 (runOe q0 q1 q2 q3 X Y Z dx dy dz) (X:=E) (hI w hw) (okF1 (zf6 ⟨⟨rfl,h0⟩,⟨rfl,h1⟩,⟨rfl,h2⟩,⟨rfl,h3⟩,gx,gy,gz,trivial⟩)) (Post:=fun v=>v=.st [.vg zm48,.vc (.ci .i64 (chk q0 q1 q2 q3 (fe X Y Z)) 0 20)]) ⟨hc,hf,rfl⟩).mono fun e w' he=>?_
    obtain ⟨v,X',m,rfl,g,_,_,rfl⟩:=he
    exact ⟨.inl ⟨hf,rfl⟩,g⟩
  refine one.mono fun e w' he=>?_
  obtain ⟨hr,g⟩:=he
  refine ⟨fun hb=>?_,fun hb=>?_⟩
  ·rcases hr with ⟨_,rfl⟩ | ⟨k,_⟩
   ·refine zb4 ⟨rfl,g⟩ fun x hx=>?_
    simp only [List.mem_cons,List.not_mem_nil,or_false] at hx
    rcases hx with rfl | rfl
    ·intro c hc
     unfold zm48 at hc
     simp only [List.mem_cons,List.not_mem_nil,or_false] at hc
     rcases hc with rfl | rfl | rfl | rfl | rfl | rfl | rfl | rfl | rfl | rfl | rfl | rfl | rfl | rfl | rfl | rfl | rfl | rfl | rfl | rfl | rfl | rfl | rfl | rfl | rfl | rfl | rfl | rfl | rfl | rfl | rfl | rfl | rfl | rfl | rfl | rfl | rfl | rfl | rfl | rfl | rfl | rfl | rfl | rfl | rfl | rfl | rfl | rfl<;>refine ⟨rfl,?_⟩<;>first | rfl | (intro v hv;cases hv;rfl)
    ·exact ⟨rfl,yu1 (fe_le X Y Z)⟩
   ·rw [hb] at k;cases k
  ·rcases hr with ⟨k,_⟩ | ⟨_,vs,rfl,h⟩
   ·rw [hb] at k;cases k
   ·exact zq0 ⟨⟨vs,rfl,h⟩,g⟩
 ·cases hT
def cMag:ConT:=yc1 as64 fun z _ _=>some (.as (decide (-4611686018427387904≤z∧z≤4611686018427387904)) (.leaf (.so (.vc (.ci .i64 (z.natAbs:Int) 0 4611686018427387904))) 0 0))
theorem cMag_ok {I:World→Prop}:ConOK Tryz.prog I 72 cMag:=zg6 fun a x n X w T _ h1 h2 hT hp=>by
 cases hT
 obtain ⟨e1,h3,h4⟩:=zU6 h1 h2
 rw [e1]
 have:=of_decide_eq_true hp.1
 exact (zX3 a this w).mono fun e w' he=>zb4 he ⟨rfl,by omega,by omega⟩
noncomputable def tabPd:List (Nat × List (Nat × Ent)):=[(27,[(11,.ord [(true,0),(true,1),(false,2),(true,3),(false,4),(true,5)] [4])]),
 (45,[])]
noncomputable def conPd:List (Nat × ConT):=[(103,zk5 100000 (fun k m=>k+m+1) (fun a b=>a+b)),
 (75,zk5 100000 (fun k m=>k+m+1) (fun a b=>a - b)),
 (82,zk5 100000 (fun k m=>k+m) (fun a b=>a*b)),
 (108,cNeg),
 (59,ya9),
 (37,yb0),
 (76,zU7),
 (87,yb1),
 (130,cNum),
 (81,cDen),
 (58,cDiv),
 (96,zA2),
 (80,zU8),
 (122,zU9),
 (123,zV0),
 (68,yb2),
 (105,cTT (fun k m=>k+m+1) fun a b=>a+b),
 (132,cTT (fun k m=>k+m+1) fun a b=>a - b),
 (106,cTT (fun k m=>k+m) fun a b=>a*b),
 (64,yb3),
 (115,yb4),
 (65,zE6),
 (94,zv4 400),
 (107,zv4 65536),
 (66,zV4),
 (16,cMEq),
 (67,yn6),
 (21,cPlc),
 (11,zN9),
 (15,cChA),
 (57,cVPa),
 (72,cMag)]
noncomputable def sysPd:Sys:=⟨Tryz.prog,2,199,tabPd,conPd,fun w=>Tab w∧Mx w⟩
theorem sysPd_ok:sysPd.OK where
 mixed:=by kernel_rfl
 calls:=fun f h0 h1=>by
  have:(List.range 199).all (fun f=>Nat.blt f 2||okCall Tryz.prog f)=true:=by kernel_rfl
  have:=List.all_eq_true.1 this f (List.mem_range.2 h1)
  simp only [Bool.or_eq_true] at this
  exact this.resolve_left (fun e=>by have:=ze7 e;exact absurd h0 (by show ¬ 2≤f;omega))
 tab:=by
  have:tabPd.all (okTab Tryz.prog)=true:=by kernel_rfl
  exact fun x hx=>List.all_eq_true.1 this x hx
 lps:=zv8 (by kernel_rfl)
 con:=fun x hx=>by
  simp only [sysPd,conPd,List.mem_cons,List.not_mem_nil,or_false] at hx
  rcases hx with rfl | rfl | rfl | rfl | rfl | rfl | rfl | rfl | rfl | rfl | rfl | rfl | rfl | rfl | rfl | rfl | rfl | rfl | rfl | rfl | rfl | rfl | rfl | rfl | rfl | rfl | rfl | rfl | rfl | rfl | rfl | rfl
  ·exact zc6 fun h1 h2 h3=>zj5 h1 h2 h3
  ·exact zc6 fun h1 h2 h3=>zv1 h1 h2 h3
  ·exact zc6 fun h1 h2 h3=>yd1 h1 h2 h3
  ·exact zw7
  ·exact zo8
  ·exact zo9
  ·exact zl9
  ·exact zp0 fun w h=>h.1
  ·exact zt0
  ·exact zt1
  ·exact zw8
  ·exact zj0
  ·exact zm0
  ·exact zm1
  ·exact zm2
  ·exact zp1
  ·exact zp2
  ·exact zp3
  ·exact zp4
  ·exact zp5
  ·exact zp6
  ·exact zk6
  ·exact zp7 fun w h=>h.2
  ·exact zp8 fun w h=>h.2
  ·exact zp9
  ·exact zH7
  ·exact zx7
  ·exact zR0 fun w h=>h
  ·exact zx8 fun w h=>h
  ·exact yd0 fun w h=>h.2
  ·exact zR6 fun w h=>h.2
  ·exact cMag_ok
 inv:=fun w w' h g=>⟨h.1.gr g,h.2.gr g⟩
def ePd (q0 q1 q2 q3:Int) (x1 x2 x3:Rat):Int:=perr true q0 q1 q2 q3 (za1 x1) (za1 x2) (za1 x3)
def pdV (q0 q1 q2 q3:Int) (x1 x2 x3:Rat):SV:=.st [.vg [.ci .i64 (pif (ePd q0 q1 q2 q3 x1 x2 x3) q0) (-12) 12,.ci .i64 (pif (ePd q0 q1 q2 q3 x1 x2 x3) q1) (-12) 12,.ci .i64 (pif (ePd q0 q1 q2 q3 x1 x2 x3) q2) (-12) 12,.ci .i64 (pif (ePd q0 q1 q2 q3 x1 x2 x3) q3) (-12) 12,.cw (pit (ePd q0 q1 q2 q3 x1 x2 x3) (za1 x1)) none,.cw (pit (ePd q0 q1 q2 q3 x1 x2 x3) (za1 x2)) none,.cw (pit (ePd q0 q1 q2 q3 x1 x2 x3) (za1 x3)) none],.vc (.ci .i64 (ePd q0 q1 q2 q3 x1 x2 x3) 0 5)]
def mgC (q:Int) (l:Lf):Lf:=.as (decide (-4611686018427387904≤q∧q≤4611686018427387904)) true (.br (decide ((12:Int)<(q.natAbs:Int))) (er 2) l)
def treePd (q0 q1 q2 q3:Int) (x1 x2 x3:Rat):Lf:=mgC q0 (mgC q1 (mgC q2 (mgC q3 (leC x1 (leC x2 (leC x3 (.ret (.st [.vg [.ci .i64 q0 (-1099511627776) 1099511627776,.ci .i64 q1 (-1099511627776) 1099511627776,.ci .i64 q2 (-1099511627776) 1099511627776,.ci .i64 q3 (-1099511627776) 1099511627776,.cw (za1 x1) (some (20000,x1)),.cw (za1 x2) (some (20000,x2)),.cw (za1 x3) (some (20000,x3))],.vc (.ci .i64 0 0 0)]))))))))
def PdP (q0 q1 q2 q3:Int) (x1 x2 x3:Rat) (v:SV):Prop:=∀ X,v.den X=(pdV q0 q1 q2 q3 x1 x2 x3).den X
theorem runPd (q0 q1 q2 q3:Int) (x1 x2 x3:Rat):zV9 sysPd 27 [.so (.vg [.ci .i64 q0 (-1099511627776) 1099511627776,.ci .i64 q1 (-1099511627776) 1099511627776,.ci .i64 q2 (-1099511627776) 1099511627776,.ci .i64 q3 (-1099511627776) 1099511627776]),.so (.vg [.cw (za1 x1) (some (20000,x1)),.cw (za1 x2) (some (20000,x2)),.cw (za1 x3) (some (20000,x3))])] 0 0 (.s .e (.s .e (.s .e (.s .e (.s .e (.s .e (.s .e .e)))))))=some (treePd q0 q1 q2 q3 x1 x2 x3):=by kernel_rfl
theorem zI0 {q0 q1 q2 q3 n:Int} {x1 x2 x3:Rat} (h:ePd q0 q1 q2 q3 x1 x2 x3=n) (h0:n≠0):LOK (PdP q0 q1 q2 q3 x1 x2 x3) (er n):=by
 intro X
 unfold pdV
 rw [h]
 have p:∀ z,pif n z=0:=fun z=>if_neg h0
 have q:∀ x,pit n x=[]:=fun x=>if_neg h0
 simp only [p,q]
 rfl
theorem yi5 {P:SV→Prop} {q:Int} {l:Lf} (hq:-4611686018427387904≤q∧q≤4611686018427387904) (h1:¬(-12≤q∧q≤12)→LOK P (er 2)) (h2:-12≤q∧q≤12→LOK P l):LOK P (mgC q l):=
 ⟨decide_eq_true hq,fun h=>h1 (by have:=of_decide_eq_true h;omega),fun h=>h2 (by have:=of_decide_eq_false h;omega)⟩
theorem yu4 {q0 q1 q2 q3:Int} (h0:-4611686018427387904≤q0∧q0≤4611686018427387904) (h1:-4611686018427387904≤q1∧q1≤4611686018427387904) (h2:-4611686018427387904≤q2∧q2≤4611686018427387904) (h3:-4611686018427387904≤q3∧q3≤4611686018427387904) (x1 x2 x3:Rat):LOK (PdP q0 q1 q2 q3 x1 x2 x3) (treePd q0 q1 q2 q3 x1 x2 x3):=by
 have e2:¬((-12≤q0∧q0≤12)∧(-12≤q1∧q1≤12)∧(-12≤q2∧q2≤12)∧(-12≤q3∧q3≤12))→ePd q0 q1 q2 q3 x1 x2 x3=2:=fun h=>by unfold ePd perr;rw [if_pos rfl,if_neg h]
 refine yi5 h0 (fun h=>zI0 (e2 fun g=>h g.1) (by decide)) fun b0=>yi5 h1 (fun h=>zI0 (e2 fun g=>h g.2.1) (by decide)) fun b1=>yi5 h2 (fun h=>zI0 (e2 fun g=>h g.2.2.1) (by decide)) fun b2=>yi5 h3 (fun h=>zI0 (e2 fun g=>h g.2.2.2) (by decide)) fun b3=>?_
 have e5:¬(((za1 x1).length:Int)≤400∧((za1 x2).length:Int)≤400∧((za1 x3).length:Int)≤400)→ePd q0 q1 q2 q3 x1 x2 x3=5:=fun h=>by unfold ePd perr;rw [if_pos rfl,if_pos ⟨b0,b1,b2,b3⟩,if_neg h]
 refine zO0 (fun h=>zI0 (e5 fun g=>h g.1) (by decide)) fun l0=>zO0 (fun h=>zI0 (e5 fun g=>h g.2.1) (by decide)) fun l1=>zO0 (fun h=>zI0 (e5 fun g=>h g.2.2) (by decide)) fun l2=>?_
 have e0:ePd q0 q1 q2 q3 x1 x2 x3=0:=by unfold ePd perr;rw [if_pos rfl,if_pos ⟨b0,b1,b2,b3⟩,if_pos ⟨l0,l1,l2⟩]
 intro X
 unfold pdV
 rw [e0]
 rfl
theorem perr_le (r:Bool) (z0 z1 z2 z3:Int) (x y t:List UInt8):0≤perr r z0 z1 z2 z3 x y t∧perr r z0 z1 z2 z3 x y t≤5∧(perr r z0 z1 z2 z3 x y t=0→(-12≤z0∧z0≤12)∧(-12≤z1∧z1≤12)∧(-12≤z2∧z2≤12)∧(-12≤z3∧z3≤12)):=by
 unfold perr
 split
 ·split
  ·rename_i h;split<;>simp_all
  ·simp
 ·simp
theorem pdV_ok (q0 q1 q2 q3:Int) (x1 x2 x3:Rat) (n:Nn) (X:Env) (w:World):(pdV q0 q1 q2 q3 x1 x2 x3).ok n X w:=by
 have h:=perr_le true q0 q1 q2 q3 (za1 x1) (za1 x2) (za1 x3)
 have b:∀ z:Int,(ePd q0 q1 q2 q3 x1 x2 x3=0→-12≤z∧z≤12)→-12≤pif (ePd q0 q1 q2 q3 x1 x2 x3) z∧pif (ePd q0 q1 q2 q3 x1 x2 x3) z≤12:=fun z hz=>by
  unfold pif
  split
  ·exact hz ‹_›
  ·decide
 intro x hx
 simp only [List.mem_cons,List.not_mem_nil,or_false] at hx
 rcases hx with rfl | rfl
 ·exact zf6 ⟨⟨rfl,b _ fun e=>(h.2.2 e).1⟩,⟨rfl,b _ fun e=>(h.2.2 e).2.1⟩,⟨rfl,b _ fun e=>(h.2.2 e).2.2.1⟩,⟨rfl,b _ fun e=>(h.2.2 e).2.2.2⟩,⟨rfl,fun _ _ e=>by cases e⟩,⟨rfl,fun _ _ e=>by cases e⟩,⟨rfl,fun _ _ e=>by cases e⟩,trivial⟩
 ·exact ⟨rfl,h.1,h.2.1⟩
def cPlcd:ConT:=fun args _ _=>match args with
 | [.so (.vg [.ci .i64 q0 l0 h0,.ci .i64 q1 l1 h1,.ci .i64 q2 l2 h2,.ci .i64 q3 l3 h3]),.so (.vg [c1,c2,c3])]=>match txC c1,txC c2,txC c3 with
  | some (k1,x1),some (k2,x2),some (k3,x3)=>tr (inP l0 h0&&inP l1 h1&&inP l2 h2&&inP l3 h3&&Nat.ble k1 20000&&Nat.ble k2 20000&&Nat.ble k3 20000) (.leaf (pdV q0 q1 q2 q3 x1 x2 x3) 0 0)
  | _,_,_=>none
 | _=>none
theorem cPlcd_ok {I:World→Prop} (hI:∀ w,I w→Tab w∧Mx w):ConOK Tryz.prog I 27 cPlcd:=by
 intro args E n w T hw ha hT _
 unfold cPlcd at hT
 split at hT
 ·rename_i q0 l0 h0 q1 l1 h1 q2 l2 h2 q3 l3 h3 c1 c2 c3
  split at hT
  ·rename_i k1 x1 k2 x2 k3 x3 e1 e2 e3
   obtain ⟨hb,rfl⟩:=zd8 hT
   simp only [Bool.and_eq_true,Nat.ble_eq] at hb
   obtain ⟨⟨⟨⟨⟨⟨b0,b1⟩,b2⟩,b3⟩,b4⟩,b5⟩,b6⟩:=hb
   have g:=fun c hc=>ha (.so (.vg [c1,c2,c3])) (by simp) c hc
   have gq:=fun c hc=>ha (.so (.vg [.ci .i64 q0 l0 h0,.ci .i64 q1 l1 h1,.ci .i64 q2 l2 h2,.ci .i64 q3 l3 h3])) (by simp) c hc
   have g0:=zE7 b0 (gq (.ci .i64 q0 l0 h0) (by simp)).2
   have g1:=zE7 b1 (gq (.ci .i64 q1 l1 h1) (by simp)).2
   have g2:=zE7 b2 (gq (.ci .i64 q2 l2 h2) (by simp)).2
   have g3:=zE7 b3 (gq (.ci .i64 q3 l3 h3) (by simp)).2
   obtain ⟨d1,s1⟩:=zl8 e1 (g c1 (by simp))
   obtain ⟨d2,s2⟩:=zl8 e2 (g c2 (by simp))
   obtain ⟨d3,s3⟩:=zl8 e3 (g c3 (by simp))
   have tx:∀ {k x},k≤20000→RS k x→(Cl.cw (za1 x) (some (20000,x))).ok ⟨0,0,0⟩ (zG5 []) w:=fun hk h=>⟨rfl,fun k q e=>by cases e;exact ⟨rfl,h.mono hk⟩⟩
   have iq:∀ {q:Int},-1099511627776≤q∧q≤1099511627776→(Cl.ci .i64 q (-1099511627776) 1099511627776).ok ⟨0,0,0⟩ (zG5 []) w:=fun h=>⟨rfl,h⟩
   show Calls _ _ #[.agg #[.int .i64 q0,.int .i64 q1,.int .i64 q2,.int .i64 q3],.agg #[c1.den E,c2.den E,c3.den E]] w _
   rw [d1,d2,d3]
   refine (zc8 sysPd sysPd_ok (runPd q0 q1 q2 q3 x1 x2 x3) (X:=zG5 []) (hI w hw) (okF2 (zf6 ⟨iq g0,iq g1,iq g2,iq g3,trivial⟩) (zf6 ⟨tx b4 s1,tx b5 s2,tx b6 s3,trivial⟩)) (yu4 (by omega) (by omega) (by omega) (by omega) x1 x2 x3)).mono fun e w' he=>?_
   obtain ⟨v,X',m,rfl,g,_,_,hp⟩:=he
   exact zb4 (v:=pdV q0 q1 q2 q3 x1 x2 x3) ⟨by rw [hp];rfl,g⟩ (pdV_ok q0 q1 q2 q3 x1 x2 x3 n E w')
  ·cases hT
 ·cases hT
def qm (a0 a1 a2 a3 b0 b1 b2 b3:Int):Nat→Int
 | 0=>a0*b0 - a1*b1 - a2*b2 - a3*b3
 | 1=>a0*b1+a1*b0+a2*b3 - a3*b2
 | 2=>a0*b2 - a1*b3+a2*b0+a3*b1
 | _=>a0*b3+a1*b2 - a2*b1+a3*b0
def qmp (a0 a1 a2 a3 b0 b1 b2 b3:Int) (k:Nat):Int:=za2 (qm a0 a1 a2 a3 b0 b1 b2 b3 0) (qm a0 a1 a2 a3 b0 b1 b2 b3 1) (qm a0 a1 a2 a3 b0 b1 b2 b3 2) (qm a0 a1 a2 a3 b0 b1 b2 b3 3) (qm a0 a1 a2 a3 b0 b1 b2 b3 k)
noncomputable def tabMj:List (Nat × List (Nat × Ent)):=[(6,[(5,.ord [(true,0),(true,2),(false,1),(false,3),(true,4),(true,5)] [])]),
 (18,[(1,.ord [(true,0),(true,1),(true,3),(true,4),(false,2),(false,5),(true,6),(false,7)] [2])]),
 (24,[(9,.ord [(true,0),(true,1),(true,2),(true,3),(true,5),(true,6),(false,4),(true,7),(false,8)] [5])]),
 (25,[]),
 (26,[(9,.ord [(true,0),(true,1),(true,2),(true,3),(true,4),(true,5),(true,6),(true,7),(true,8),(true,10),(true,11),(false,9),(true,12),(false,13)] [6])]),
 (29,[]),
 (32,[]),
 (33,[]),
 (34,[(1,.ord [(true,0),(true,1),(true,2),(true,3),(true,5),(true,7),(false,4),(false,6),(false,8),(false,9),(true,10),(false,11),(true,12),(true,13),(false,14),(true,15)] [4])]),
 (35,[(2,.ord [(true,0),(true,1),(true,2),(true,3),(true,4),(true,5),(true,6),(true,7),(true,8),(true,9),(true,10),(true,11),(true,13),(false,12),(false,14),(false,15),(true,16),(false,17),(true,18),(true,19),(false,20),(true,21)] [2])]),
 (36,[]),
 (38,[]),
 (43,[(1,.ord [(true,0),(true,1),(true,3),(true,4),(false,2),(false,5),(false,6)] [4])]),
 (46,[(1,.ord [(true,0),(true,1),(true,3),(true,4),(false,2),(false,5),(false,6)] [4])]),
 (47,[(1,.ord [(true,0),(true,1),(true,2),(true,3),(true,5),(true,6),(true,7),(true,8),(true,10),(true,11),(true,12),(true,13),(false,4),(false,9),(false,14),(true,15),(false,16)] [4])]),
 (48,[]),
 (49,[]),
 (62,[(1,.ord [(true,0),(true,1),(true,2),(true,3),(true,4),(true,5),(true,6),(true,7),(true,8),(true,9),(true,10),(true,11)] []),(11,.ord [(true,0),(true,1),(true,2),(true,3),(true,4),(true,5),(true,6),(true,8),(true,10),(false,7),(false,9),(true,11),(false,12)] [9])]),
 (63,[]),
 (69,[(8,.ord [(true,0),(true,1),(true,2),(true,3),(true,4),(false,5)] [3])]),
 (70,[(8,.ord [(true,0),(true,1),(true,2),(true,3),(true,4),(true,5),(true,6),(true,7),(true,8),(false,9)] [3])]),
 (71,[(1,.ord [(true,0),(true,1),(true,2),(true,3),(true,5),(true,6),(true,7),(true,8),(true,11),(true,12),(true,13),(true,14),(false,4),(false,9),(false,10),(false,15),(false,16),(true,17)] [])]),
 (74,[(5,.ord [(true,0),(true,1),(true,2),(true,3),(true,4),(true,5),(true,6),(true,7),(false,8),(true,9),(false,10)] [7])]),
 (83,[]),
 (86,[]),
 (88,[(1,.ord [(true,0),(true,1),(true,2),(true,3),(true,5),(true,6),(true,7),(true,8),(true,10),(true,11),(true,12),(true,13),(false,4),(false,9),(false,14),(true,15),(false,16)] [4])]),
 (89,[(1,.ord [(true,0),(true,1),(true,3),(true,4),(true,6),(true,7),(false,2),(false,5),(false,8),(true,9),(false,10)] [2])])]
noncomputable def conMj:List (Nat × ConT):=[(103,zk5 100000 (fun k m=>k+m+1) (fun a b=>a+b)),
 (75,zk5 100000 (fun k m=>k+m+1) (fun a b=>a - b)),
 (82,zk5 100000 (fun k m=>k+m) (fun a b=>a*b)),
 (108,cNeg),
 (59,ya9),
 (37,yb0),
 (76,zU7),
 (87,yb1),
 (130,cNum),
 (81,cDen),
 (58,cDiv),
 (96,zA2),
 (80,zU8),
 (122,zU9),
 (123,zV0),
 (68,yb2),
 (105,cTT (fun k m=>k+m+1) fun a b=>a+b),
 (132,cTT (fun k m=>k+m+1) fun a b=>a - b),
 (106,cTT (fun k m=>k+m) fun a b=>a*b),
 (64,yb3),
 (115,yb4),
 (65,zE6),
 (94,zv4 400),
 (107,zv4 65536),
 (66,zV4),
 (16,cMEq),
 (67,yn6),
 (21,cPlc),
 (11,zN9),
 (15,cChA),
 (57,cVPa),
 (22,cPlace),
 (14,cOfG),
 (27,cPlcd),
 (13,cChA),
 (12,cPln)]
noncomputable def sysMj:Sys:=⟨Tryz.prog,2,199,tabMj,conMj,fun w=>Tab w∧Mx w⟩
theorem zR7:sysMj.OK where
 mixed:=by kernel_rfl
 calls:=fun f h0 h1=>by
  have:(List.range 199).all (fun f=>Nat.blt f 2||okCall Tryz.prog f)=true:=by kernel_rfl
  have:=List.all_eq_true.1 this f (List.mem_range.2 h1)
  simp only [Bool.or_eq_true] at this
  exact this.resolve_left (fun e=>by have:=ze7 e;exact absurd h0 (by show ¬ 2≤f;omega))
 tab:=by
  have:tabMj.all (okTab Tryz.prog)=true:=by kernel_rfl
  exact fun x hx=>List.all_eq_true.1 this x hx
 lps:=zv8 (by kernel_rfl)
 con:=fun x hx=>by
  simp only [sysMj,conMj,List.mem_cons,List.not_mem_nil,or_false] at hx
  rcases hx with rfl | rfl | rfl | rfl | rfl | rfl | rfl | rfl | rfl | rfl | rfl | rfl | rfl | rfl | rfl | rfl | rfl | rfl | rfl | rfl | rfl | rfl | rfl | rfl | rfl | rfl | rfl | rfl | rfl | rfl | rfl | rfl | rfl | rfl | rfl | rfl
  ·exact zc6 fun h1 h2 h3=>zj5 h1 h2 h3
  ·exact zc6 fun h1 h2 h3=>zv1 h1 h2 h3
  ·exact zc6 fun h1 h2 h3=>yd1 h1 h2 h3
  ·exact zw7
  ·exact zo8
  ·exact zo9
  ·exact zl9
  ·exact zp0 fun w h=>h.1
  ·exact zt0
  ·exact zt1
  ·exact zw8
  ·exact zj0
  ·exact zm0
  ·exact zm1
  ·exact zm2
  ·exact zp1
  ·exact zp2
  ·exact zp3
  ·exact zp4
  ·exact zp5
  ·exact zp6
  ·exact zk6
  ·exact zp7 fun w h=>h.2
  ·exact zp8 fun w h=>h.2
  ·exact zp9
  ·exact zH7
  ·exact zx7
  ·exact zR0 fun w h=>h
  ·exact zx8 fun w h=>h
  ·exact yd0 fun w h=>h.2
  ·exact zR6 fun w h=>h.2
  ·exact yt7 fun w h=>h
  ·exact cOfG_ok fun w h=>h
  ·exact cPlcd_ok fun w h=>h
  ·exact cRCh_ok fun w h=>h.2
  ·exact cPln_ok
 inv:=fun w w' h g=>⟨h.1.gr g,h.2.gr g⟩
theorem zR8 {n:Nn} {X:Env} {W:World}:okF n X W []:=fun _ h=>by cases h
theorem zn2 {n:Nn} {X:Env} {W:World} {v:SV} {l:List SV} (h:v.ok n X W) (hl:okF n X W l):okF n X W (v::l):=fun x hx=>by
 rcases List.mem_cons.1 hx with rfl | hx
 ·exact h
 ·exact hl x hx
def l6j (X Y Z:List UInt8):Bool:=decide ((X.length:Int)≤9223372036854775807∧(Y.length:Int)≤9223372036854775807∧(Z.length:Int)≤9223372036854775807)
def yesj:Lf:=.ret (.so (.vc (.cb true (some true))))
def m12 (A:Mo):Mo:=mo12 (A 0) (A 1) (A 2) (A 3) (A 4) (A 5) (A 6) (A 7) (A 8) (A 9) (A 10) (A 11)
def nf (A:Mo) (i:Nat):Rat:=-(f3 (A i) (A (i+3)) (A (i+6)) (A 9) (A 10) (A 11))
def eqP (A:Mo) (q0 q1 q2 q3:Int) (x1 x2 x3:Rat):Bool:=zi3 [pif (ePl A) (zwM A 0),pif (ePl A) (zwM A 1),pif (ePl A) (zwM A 2),pif (ePl A) (zwM A 3)] [pif (ePd q0 q1 q2 q3 x1 x2 x3) q0,pif (ePd q0 q1 q2 q3 x1 x2 x3) q1,pif (ePd q0 q1 q2 q3 x1 x2 x3) q2,pif (ePd q0 q1 q2 q3 x1 x2 x3) q3]&&sEq [pit (ePl A) (za1 (A 9)),pit (ePl A) (za1 (A 10)),pit (ePl A) (za1 (A 11))] [pit (ePd q0 q1 q2 q3 x1 x2 x3) (za1 x1),pit (ePd q0 q1 q2 q3 x1 x2 x3) (za1 x2),pit (ePd q0 q1 q2 q3 x1 x2 x3) (za1 x3)]
noncomputable def mS (q0 q1 q2 q3:Int) (X Y Z:List UInt8):Mo:=pm (roE q0 q1 q2 q3) (pq 0 X) (pq 0 Y) (pq 0 Z)
def qv (a0 a1 a2 a3:Int) (k:Nat):Int:=za2 a0 (0 - a1) (0 - a2) (0 - a3) (match k with | 0=>a0 | 1=>0 - a1 | 2=>0 - a2 | _=>0 - a3)
def treeJx (a0 a1 a2 a3 b0 b1 b2 b3:Int) (U V T X Y Z:List UInt8):Lf:=.as (l6j U V T) true (.br (pl3 U V T) (.as (l6j X Y Z) true (.br (pl3 X Y Z) (.as (cj5 a0 a1 a2 a3 U V T) true (.as ((chk a0 a1 a2 a3 (fe U V T)) !=0) true (.as ((chk a0 a1 a2 a3 (fe U V T)) !=0) true (.as (cj5 a0 a1 a2 a3 U V T) true (.as ((chk a0 a1 a2 a3 (fe U V T)) !=0) true (.as ((chk a0 a1 a2 a3 (fe U V T)) !=0) true (.as (cj5 a0 a1 a2 a3 U V T) true (.as (cj5 b0 b1 b2 b3 X Y Z) true (.as ((chk a0 a1 a2 a3 (fe U V T))==0) false (.as ((chk a0 a1 a2 a3 (fe U V T))==0) false (.as (!(zi3 [0,0,0,0] [0,0,0,0]&&sEq [([]:List UInt8),[],[]] [[],[],[]])) false (.as ((chk a0 a1 a2 a3 (fe U V T)) !=(chk a0 a1 a2 a3 (fe U V T))) false (.as ((chk a0 a1 a2 a3 (fe U V T)) !=0) true (.as ((chk a0 a1 a2 a3 (fe U V T))==(chk a0 a1 a2 a3 (fe U V T))) true (.as ((zi3 [0,0,0,0] [0,0,0,0]&&sEq [([]:List UInt8),[],[]] [[],[],[]])) true (.ret (.so (.vc (.cb ((zi3 [0,0,0,0] [0,0,0,0]&&sEq [([]:List UInt8),[],[]] [[],[],[]])) (some true)))))))))))))))))))) yesj)) yesj)
noncomputable def treeJy (a0 a1 a2 a3 b0 b1 b2 b3:Int) (u1 u2 u3:Rat) (U V T X Y Z:List UInt8):Lf:=.as (l6j U V T) true (.br (pl3 U V T) (.as (l6j X Y Z) true (.br (pl3 X Y Z) (.as (cj5 a0 a1 a2 a3 U V T) true (.as ((chk a0 a1 a2 a3 (fe U V T)) !=0) false (.as (cj5 b0 b1 b2 b3 X Y Z) true (.as ((chk b0 b1 b2 b3 (fe X Y Z)) !=0) true (.as ((chk b0 b1 b2 b3 (fe X Y Z)) !=0) true (.as (cj5 a0 a1 a2 a3 U V T) true (.as ((chk a0 a1 a2 a3 (fe U V T)) !=0) false (.as (cj5 a0 a1 a2 a3 U V T) true (.as (cj5 b0 b1 b2 b3 X Y Z) true (.as ((chk a0 a1 a2 a3 (fe U V T))==0) true (.as ((chk b0 b1 b2 b3 (fe X Y Z))==0) false (.as (!(zi3 [0,0,0,0] [0,0,0,0]&&sEq [([]:List UInt8),[],[]] [[],[],[]])) false (.as ((chk b0 b1 b2 b3 (fe X Y Z)) !=(chk b0 b1 b2 b3 (fe X Y Z))) false (.as ((chk a0 a1 a2 a3 (fe U V T)) !=0) false (.as (decide ¬(a0=0∧0 - a1=0∧0 - a2=0∧0 - a3=0)) true (asN 9 (nN a0 a1 a2 a3) (.as (eqP (m12 (mi (mS a0 a1 a2 a3 U V T))) (qv a0 a1 a2 a3 0) (qv a0 a1 a2 a3 1) (qv a0 a1 a2 a3 2) (qv a0 a1 a2 a3 3) (nf (pm (roE a0 a1 a2 a3) u1 u2 u3) 0) (nf (pm (roE a0 a1 a2 a3) u1 u2 u3) 1) (nf (pm (roE a0 a1 a2 a3) u1 u2 u3) 2)) true (.as (ePl (m12 (mi (mS a0 a1 a2 a3 U V T)))==ePd (qv a0 a1 a2 a3 0) (qv a0 a1 a2 a3 1) (qv a0 a1 a2 a3 2) (qv a0 a1 a2 a3 3) (nf (pm (roE a0 a1 a2 a3) u1 u2 u3) 0) (nf (pm (roE a0 a1 a2 a3) u1 u2 u3) 1) (nf (pm (roE a0 a1 a2 a3) u1 u2 u3) 2)) true (.ret (.so (.vc (.cb (ePl (m12 (mi (mS a0 a1 a2 a3 U V T)))==ePd (qv a0 a1 a2 a3 0) (qv a0 a1 a2 a3 1) (qv a0 a1 a2 a3 2) (qv a0 a1 a2 a3 3) (nf (pm (roE a0 a1 a2 a3) u1 u2 u3) 0) (nf (pm (roE a0 a1 a2 a3) u1 u2 u3) 1) (nf (pm (roE a0 a1 a2 a3) u1 u2 u3) 2)) (some true))))))))))))))))))))))) yesj)) yesj)
noncomputable def treeJg (a0 a1 a2 a3 b0 b1 b2 b3:Int) (u1 u2 u3 x1 x2 x3:Rat) (U V T X Y Z:List UInt8):Lf:=.as (l6j U V T) true (.br (pl3 U V T) (.as (l6j X Y Z) true (.br (pl3 X Y Z) (.as (cj5 a0 a1 a2 a3 U V T) true (.as ((chk a0 a1 a2 a3 (fe U V T)) !=0) false (.as (cj5 b0 b1 b2 b3 X Y Z) true (.as ((chk b0 b1 b2 b3 (fe X Y Z)) !=0) false (.as (cj5 a0 a1 a2 a3 U V T) true (.as ((chk a0 a1 a2 a3 (fe U V T)) !=0) false (.as (cj5 a0 a1 a2 a3 U V T) true (.as (cj5 b0 b1 b2 b3 X Y Z) true (.as ((chk a0 a1 a2 a3 (fe U V T))==0) true (.as ((chk b0 b1 b2 b3 (fe X Y Z))==0) true (.as (decide ¬(qm a0 a1 a2 a3 b0 b1 b2 b3 0=0∧qm a0 a1 a2 a3 b0 b1 b2 b3 1=0∧qm a0 a1 a2 a3 b0 b1 b2 b3 2=0∧qm a0 a1 a2 a3 b0 b1 b2 b3 3=0)) true (asN 9 (nN a0 a1 a2 a3) (asN 9 (nN b0 b1 b2 b3) (.as (!eqP (m12 (mc (mS a0 a1 a2 a3 U V T) (mS b0 b1 b2 b3 X Y Z))) (qmp a0 a1 a2 a3 b0 b1 b2 b3 0) (qmp a0 a1 a2 a3 b0 b1 b2 b3 1) (qmp a0 a1 a2 a3 b0 b1 b2 b3 2) (qmp a0 a1 a2 a3 b0 b1 b2 b3 3) (mf (pm (roE a0 a1 a2 a3) u1 u2 u3) (pm (roE b0 b1 b2 b3) x1 x2 x3) 9) (mf (pm (roE a0 a1 a2 a3) u1 u2 u3) (pm (roE b0 b1 b2 b3) x1 x2 x3) 10) (mf (pm (roE a0 a1 a2 a3) u1 u2 u3) (pm (roE b0 b1 b2 b3) x1 x2 x3) 11)) false (.as (ePl (m12 (mc (mS a0 a1 a2 a3 U V T) (mS b0 b1 b2 b3 X Y Z))) !=ePd (qmp a0 a1 a2 a3 b0 b1 b2 b3 0) (qmp a0 a1 a2 a3 b0 b1 b2 b3 1) (qmp a0 a1 a2 a3 b0 b1 b2 b3 2) (qmp a0 a1 a2 a3 b0 b1 b2 b3 3) (mf (pm (roE a0 a1 a2 a3) u1 u2 u3) (pm (roE b0 b1 b2 b3) x1 x2 x3) 9) (mf (pm (roE a0 a1 a2 a3) u1 u2 u3) (pm (roE b0 b1 b2 b3) x1 x2 x3) 10) (mf (pm (roE a0 a1 a2 a3) u1 u2 u3) (pm (roE b0 b1 b2 b3) x1 x2 x3) 11)) false (.as ((chk a0 a1 a2 a3 (fe U V T)) !=0) false (.as (decide ¬(a0=0∧0 - a1=0∧0 - a2=0∧0 - a3=0)) true (asN 9 (nN a0 a1 a2 a3) (.as (eqP (m12 (mi (mS a0 a1 a2 a3 U V T))) (qv a0 a1 a2 a3 0) (qv a0 a1 a2 a3 1) (qv a0 a1 a2 a3 2) (qv a0 a1 a2 a3 3) (nf (pm (roE a0 a1 a2 a3) u1 u2 u3) 0) (nf (pm (roE a0 a1 a2 a3) u1 u2 u3) 1) (nf (pm (roE a0 a1 a2 a3) u1 u2 u3) 2)) true (.as (ePl (m12 (mi (mS a0 a1 a2 a3 U V T)))==ePd (qv a0 a1 a2 a3 0) (qv a0 a1 a2 a3 1) (qv a0 a1 a2 a3 2) (qv a0 a1 a2 a3 3) (nf (pm (roE a0 a1 a2 a3) u1 u2 u3) 0) (nf (pm (roE a0 a1 a2 a3) u1 u2 u3) 1) (nf (pm (roE a0 a1 a2 a3) u1 u2 u3) 2)) true (.ret (.so (.vc (.cb (ePl (m12 (mi (mS a0 a1 a2 a3 U V T)))==ePd (qv a0 a1 a2 a3 0) (qv a0 a1 a2 a3 1) (qv a0 a1 a2 a3 2) (qv a0 a1 a2 a3 3) (nf (pm (roE a0 a1 a2 a3) u1 u2 u3) 0) (nf (pm (roE a0 a1 a2 a3) u1 u2 u3) 1) (nf (pm (roE a0 a1 a2 a3) u1 u2 u3) 2)) (some true))))))))))))))))))))))))) yesj)) yesj)
theorem runJx (a0 a1 a2 a3 b0 b1 b2 b3:Int) (U V T X Y Z:List UInt8):zV9 sysMj 6 [.so (.vg [.ci .i64 a0 (-9223372036854775808) 9223372036854775807,.ci .i64 a1 (-9223372036854775808) 9223372036854775807,.ci .i64 a2 (-9223372036854775808) 9223372036854775807,.ci .i64 a3 (-9223372036854775808) 9223372036854775807,.cw U none,.cw V none,.cw T none]),.so (.vg [.ci .i64 b0 (-9223372036854775808) 9223372036854775807,.ci .i64 b1 (-9223372036854775808) 9223372036854775807,.ci .i64 b2 (-9223372036854775808) 9223372036854775807,.ci .i64 b3 (-9223372036854775808) 9223372036854775807,.cw X none,.cw Y none,.cw Z none])] 0 0 (.s (.s (.t (.t (.t (.t (.f (.f (.f (.f (.t (.t (.t .e))))))))))) .e) .e)=some (treeJx a0 a1 a2 a3 b0 b1 b2 b3 U V T X Y Z):=by kernel_rfl
theorem runJy (a0 a1 a2 a3 b0 b1 b2 b3:Int) (u1 u2 u3:Rat) (X Y Z:List UInt8):zV9 sysMj 6 [.so (.vg [.ci .i64 a0 (-12) 12,.ci .i64 a1 (-12) 12,.ci .i64 a2 (-12) 12,.ci .i64 a3 (-12) 12,.cw (za1 u1) (some (2000,u1)),.cw (za1 u2) (some (2000,u2)),.cw (za1 u3) (some (2000,u3))]),.so (.vg [.ci .i64 b0 (-9223372036854775808) 9223372036854775807,.ci .i64 b1 (-9223372036854775808) 9223372036854775807,.ci .i64 b2 (-9223372036854775808) 9223372036854775807,.ci .i64 b3 (-9223372036854775808) 9223372036854775807,.cw X none,.cw Y none,.cw Z none])] 0 0 (.s (.s (.f (.t (.t (.f (.t (.f (.f (.f (.f (.t (.t .e))))))))))) .e) .e)=some (treeJy a0 a1 a2 a3 b0 b1 b2 b3 u1 u2 u3 (za1 u1) (za1 u2) (za1 u3) X Y Z):=by kernel_rfl
theorem runJg (a0 a1 a2 a3 b0 b1 b2 b3:Int) (u1 u2 u3 x1 x2 x3:Rat):zV9 sysMj 6 [.so (.vg [.ci .i64 a0 (-12) 12,.ci .i64 a1 (-12) 12,.ci .i64 a2 (-12) 12,.ci .i64 a3 (-12) 12,.cw (za1 u1) (some (2000,u1)),.cw (za1 u2) (some (2000,u2)),.cw (za1 u3) (some (2000,u3))]),.so (.vg [.ci .i64 b0 (-12) 12,.ci .i64 b1 (-12) 12,.ci .i64 b2 (-12) 12,.ci .i64 b3 (-12) 12,.cw (za1 x1) (some (2000,x1)),.cw (za1 x2) (some (2000,x2)),.cw (za1 x3) (some (2000,x3))])] 0 0 (.s (.s (.f (.f (.f (.t (.t (.f (.f (.f (.t (.t .e)))))))))) .e) .e)=some (treeJg a0 a1 a2 a3 b0 b1 b2 b3 u1 u2 u3 x1 x2 x3 (za1 u1) (za1 u2) (za1 u3) (za1 x1) (za1 x2) (za1 x3)):=by kernel_rfl
theorem nej (n:Int):(n !=n)=false:=by simp
theorem eqj (n:Int):(n==n)=true:=by simp
theorem zB2:LOK isT yesj:=yi1 rfl
theorem yu5 {A:Mo} {n0 n1 n2 n3 q0 q1 q2 q3:Int} {x1 x2 x3:Rat} (hn:¬(n0=0∧n1=0∧n2=0∧n3=0)) (h:RotM A n0 n1 n2 n3)
  (e0:q0=za2 n0 n1 n2 n3 n0) (e1:q1=za2 n0 n1 n2 n3 n1) (e2:q2=za2 n0 n1 n2 n3 n2) (e3:q3=za2 n0 n1 n2 n3 n3) (h1:A 9=x1) (h2:A 10=x2) (h3:A 11=x3):
  ePl (m12 A)=ePd q0 q1 q2 q3 x1 x2 x3∧eqP (m12 A) q0 q1 q2 q3 x1 x2 x3=true:=by
 obtain ⟨w0,w1,w2,w3⟩:=wzq_rot hn h
 have hr:rigM (m12 A)=true:=by
  have:=rig_mat hn h
  show rigM A=true
  unfold rigM;rw [this.1,this.2];rfl
 have z0:zwM (m12 A) 0=q0:=w0.trans e0.symm
 have z1:zwM (m12 A) 1=q1:=w1.trans e1.symm
 have z2:zwM (m12 A) 2=q2:=w2.trans e2.symm
 have z3:zwM (m12 A) 3=q3:=w3.trans e3.symm
 have t1:(m12 A) 9=x1:=h1
 have t2:(m12 A) 10=x2:=h2
 have t3:(m12 A) 11=x3:=h3
 have ee:ePl (m12 A)=ePd q0 q1 q2 q3 x1 x2 x3:=by unfold ePl ePd;rw [hr,z0,z1,z2,z3,t1,t2,t3]
 refine ⟨ee,?_⟩
 unfold eqP
 rw [ee,z0,z1,z2,z3,t1,t2,t3]
 exact plc_same _ _
theorem inv_pl {a0 a1 a2 a3:Int} (hv:VT a0 a1 a2 a3) (u1 u2 u3:Rat):ePl (m12 (mi (mS a0 a1 a2 a3 (za1 u1) (za1 u2) (za1 u3))))=ePd (qv a0 a1 a2 a3 0) (qv a0 a1 a2 a3 1) (qv a0 a1 a2 a3 2) (qv a0 a1 a2 a3 3) (nf (pm (roE a0 a1 a2 a3) u1 u2 u3) 0) (nf (pm (roE a0 a1 a2 a3) u1 u2 u3) 1) (nf (pm (roE a0 a1 a2 a3) u1 u2 u3) 2)∧eqP (m12 (mi (mS a0 a1 a2 a3 (za1 u1) (za1 u2) (za1 u3)))) (qv a0 a1 a2 a3 0) (qv a0 a1 a2 a3 1) (qv a0 a1 a2 a3 2) (qv a0 a1 a2 a3 3) (nf (pm (roE a0 a1 a2 a3) u1 u2 u3) 0) (nf (pm (roE a0 a1 a2 a3) u1 u2 u3) 1) (nf (pm (roE a0 a1 a2 a3) u1 u2 u3) 2)=true:=by
 have hn:¬(a0=0∧0 - a1=0∧0 - a2=0∧0 - a3=0):=fun h=>hv.ne ⟨h.1,by omega,by omega,by omega⟩
 have hr:RotM (mi (mS a0 a1 a2 a3 (za1 u1) (za1 u2) (za1 u3))) a0 (0 - a1:Int) (0 - a2:Int) (0 - a3:Int):=rotq_trI (zV5 hv) (by omega) (by omega) (by omega)
 refine yu5 hn hr rfl rfl rfl rfl ?_ ?_ ?_<;>simp only [mi,mS,pm,nf,d3,f3,zH9]<;>grind
theorem join_pl {a0 a1 a2 a3 b0 b1 b2 b3:Int} (hv:VT a0 a1 a2 a3) (hw:VT b0 b1 b2 b3) (u1 u2 u3 x1 x2 x3:Rat):ePl (m12 (mc (mS a0 a1 a2 a3 (za1 u1) (za1 u2) (za1 u3)) (mS b0 b1 b2 b3 (za1 x1) (za1 x2) (za1 x3))))=ePd (qmp a0 a1 a2 a3 b0 b1 b2 b3 0) (qmp a0 a1 a2 a3 b0 b1 b2 b3 1) (qmp a0 a1 a2 a3 b0 b1 b2 b3 2) (qmp a0 a1 a2 a3 b0 b1 b2 b3 3) (mf (pm (roE a0 a1 a2 a3) u1 u2 u3) (pm (roE b0 b1 b2 b3) x1 x2 x3) 9) (mf (pm (roE a0 a1 a2 a3) u1 u2 u3) (pm (roE b0 b1 b2 b3) x1 x2 x3) 10) (mf (pm (roE a0 a1 a2 a3) u1 u2 u3) (pm (roE b0 b1 b2 b3) x1 x2 x3) 11)∧eqP (m12 (mc (mS a0 a1 a2 a3 (za1 u1) (za1 u2) (za1 u3)) (mS b0 b1 b2 b3 (za1 x1) (za1 x2) (za1 x3)))) (qmp a0 a1 a2 a3 b0 b1 b2 b3 0) (qmp a0 a1 a2 a3 b0 b1 b2 b3 1) (qmp a0 a1 a2 a3 b0 b1 b2 b3 2) (qmp a0 a1 a2 a3 b0 b1 b2 b3 3) (mf (pm (roE a0 a1 a2 a3) u1 u2 u3) (pm (roE b0 b1 b2 b3) x1 x2 x3) 9) (mf (pm (roE a0 a1 a2 a3) u1 u2 u3) (pm (roE b0 b1 b2 b3) x1 x2 x3) 10) (mf (pm (roE a0 a1 a2 a3) u1 u2 u3) (pm (roE b0 b1 b2 b3) x1 x2 x3) 11)=true:=by
 have hn:¬(qm a0 a1 a2 a3 b0 b1 b2 b3 0=0∧qm a0 a1 a2 a3 b0 b1 b2 b3 1=0∧qm a0 a1 a2 a3 b0 b1 b2 b3 2=0∧qm a0 a1 a2 a3 b0 b1 b2 b3 3=0):=yx5 hv.ne hw.ne rfl rfl rfl rfl
 have hr:RotM (mc (mS a0 a1 a2 a3 (za1 u1) (za1 u2) (za1 u3)) (mS b0 b1 b2 b3 (za1 x1) (za1 x2) (za1 x3))) (qm a0 a1 a2 a3 b0 b1 b2 b3 0) (qm a0 a1 a2 a3 b0 b1 b2 b3 1) (qm a0 a1 a2 a3 b0 b1 b2 b3 2) (qm a0 a1 a2 a3 b0 b1 b2 b3 3):=mc_rot (zV5 hv) (zV5 hw) rfl rfl rfl rfl
 refine yu5 hn hr rfl rfl rfl rfl ?_ ?_ ?_<;>simp only [mc,mf,mS,pm,d3,f3,zH9]<;>grind
theorem yu6 {a0 a1 a2 a3 b0 b1 b2 b3:Int} {U V T X Y Z:List UInt8} (la:l6j U V T=true) (lb:l6j X Y Z=true) (ha:pl3 U V T=true→cj5 a0 a1 a2 a3 U V T=true) (hb:pl3 X Y Z=true→cj5 b0 b1 b2 b3 X Y Z=true) (hc:((chk a0 a1 a2 a3 (fe U V T)) !=0)=true):LOK isT (treeJx a0 a1 a2 a3 b0 b1 b2 b3 U V T X Y Z):=by
 have h0:((chk a0 a1 a2 a3 (fe U V T))==0)=false:=by simpa using hc
 exact ⟨la,fun h=>⟨lb,fun k=>⟨ha h,hc,hc,ha h,hc,hc,ha h,hb k,h0,h0,rfl,nej _,hc,eqj _,rfl,yi1 rfl⟩,fun _=>zB2⟩,fun _=>zB2⟩
theorem yu7 {a0 a1 a2 a3 b0 b1 b2 b3:Int} {u1 u2 u3:Rat} {X Y Z:List UInt8} (hv:VT a0 a1 a2 a3) (c0:chk a0 a1 a2 a3 (fe (za1 u1) (za1 u2) (za1 u3))=0) (la:l6j (za1 u1) (za1 u2) (za1 u3)=true) (lb:l6j X Y Z=true) (ha:pl3 (za1 u1) (za1 u2) (za1 u3)=true→cj5 a0 a1 a2 a3 (za1 u1) (za1 u2) (za1 u3)=true) (hb:pl3 X Y Z=true→cj5 b0 b1 b2 b3 X Y Z=true) (hd:((chk b0 b1 b2 b3 (fe X Y Z)) !=0)=true):LOK isT (treeJy a0 a1 a2 a3 b0 b1 b2 b3 u1 u2 u3 (za1 u1) (za1 u2) (za1 u3) X Y Z):=by
 have c1:(chk a0 a1 a2 a3 (fe (za1 u1) (za1 u2) (za1 u3)) !=0)=false:=by rw [c0];rfl
 have c2:(chk a0 a1 a2 a3 (fe (za1 u1) (za1 u2) (za1 u3))==0)=true:=by rw [c0];rfl
 have d0:((chk b0 b1 b2 b3 (fe X Y Z))==0)=false:=by simpa using hd
 have hi:=inv_pl hv u1 u2 u3
 have hn:¬(a0=0∧0 - a1=0∧0 - a2=0∧0 - a3=0):=fun h=>hv.ne ⟨h.1,by omega,by omega,by omega⟩
 have he:(ePl (m12 (mi (mS a0 a1 a2 a3 (za1 u1) (za1 u2) (za1 u3))))==ePd (qv a0 a1 a2 a3 0) (qv a0 a1 a2 a3 1) (qv a0 a1 a2 a3 2) (qv a0 a1 a2 a3 3) (nf (pm (roE a0 a1 a2 a3) u1 u2 u3) 0) (nf (pm (roE a0 a1 a2 a3) u1 u2 u3) 1) (nf (pm (roE a0 a1 a2 a3) u1 u2 u3) 2))=true:=by rw [hi.1];exact eqj _
 exact ⟨la,fun h=>⟨lb,fun k=>⟨ha h,c1,hb k,hd,hd,ha h,c1,ha h,hb k,c2,d0,rfl,nej _,c1,decide_eq_true hn,yi0 (yg3 hv) ⟨hi.2,he,yi1 he⟩⟩,fun _=>zB2⟩,fun _=>zB2⟩
theorem yu8 {a0 a1 a2 a3 b0 b1 b2 b3:Int} {u1 u2 u3 x1 x2 x3:Rat} (hv:VT a0 a1 a2 a3) (hw:VT b0 b1 b2 b3) (c0:chk a0 a1 a2 a3 (fe (za1 u1) (za1 u2) (za1 u3))=0) (d0:chk b0 b1 b2 b3 (fe (za1 x1) (za1 x2) (za1 x3))=0) (la:l6j (za1 u1) (za1 u2) (za1 u3)=true) (lb:l6j (za1 x1) (za1 x2) (za1 x3)=true) (ha:pl3 (za1 u1) (za1 u2) (za1 u3)=true→cj5 a0 a1 a2 a3 (za1 u1) (za1 u2) (za1 u3)=true) (hb:pl3 (za1 x1) (za1 x2) (za1 x3)=true→cj5 b0 b1 b2 b3 (za1 x1) (za1 x2) (za1 x3)=true):LOK isT (treeJg a0 a1 a2 a3 b0 b1 b2 b3 u1 u2 u3 x1 x2 x3 (za1 u1) (za1 u2) (za1 u3) (za1 x1) (za1 x2) (za1 x3)):=by
 have c1:(chk a0 a1 a2 a3 (fe (za1 u1) (za1 u2) (za1 u3)) !=0)=false:=by rw [c0];rfl
 have c2:(chk a0 a1 a2 a3 (fe (za1 u1) (za1 u2) (za1 u3))==0)=true:=by rw [c0];rfl
 have d1:(chk b0 b1 b2 b3 (fe (za1 x1) (za1 x2) (za1 x3)) !=0)=false:=by rw [d0];rfl
 have d2:(chk b0 b1 b2 b3 (fe (za1 x1) (za1 x2) (za1 x3))==0)=true:=by rw [d0];rfl
 have hi:=inv_pl hv u1 u2 u3
 have hj:=join_pl hv hw u1 u2 u3 x1 x2 x3
 have hn:¬(a0=0∧0 - a1=0∧0 - a2=0∧0 - a3=0):=fun h=>hv.ne ⟨h.1,by omega,by omega,by omega⟩
 have he:(ePl (m12 (mi (mS a0 a1 a2 a3 (za1 u1) (za1 u2) (za1 u3))))==ePd (qv a0 a1 a2 a3 0) (qv a0 a1 a2 a3 1) (qv a0 a1 a2 a3 2) (qv a0 a1 a2 a3 3) (nf (pm (roE a0 a1 a2 a3) u1 u2 u3) 0) (nf (pm (roE a0 a1 a2 a3) u1 u2 u3) 1) (nf (pm (roE a0 a1 a2 a3) u1 u2 u3) 2))=true:=by rw [hi.1];exact eqj _
 have hk:(ePl (m12 (mc (mS a0 a1 a2 a3 (za1 u1) (za1 u2) (za1 u3)) (mS b0 b1 b2 b3 (za1 x1) (za1 x2) (za1 x3)))) !=ePd (qmp a0 a1 a2 a3 b0 b1 b2 b3 0) (qmp a0 a1 a2 a3 b0 b1 b2 b3 1) (qmp a0 a1 a2 a3 b0 b1 b2 b3 2) (qmp a0 a1 a2 a3 b0 b1 b2 b3 3) (mf (pm (roE a0 a1 a2 a3) u1 u2 u3) (pm (roE b0 b1 b2 b3) x1 x2 x3) 9) (mf (pm (roE a0 a1 a2 a3) u1 u2 u3) (pm (roE b0 b1 b2 b3) x1 x2 x3) 10) (mf (pm (roE a0 a1 a2 a3) u1 u2 u3) (pm (roE b0 b1 b2 b3) x1 x2 x3) 11))=false:=by rw [hj.1];exact nej _
 have sm:decide (¬(qm a0 a1 a2 a3 b0 b1 b2 b3 0=0∧qm a0 a1 a2 a3 b0 b1 b2 b3 1=0∧qm a0 a1 a2 a3 b0 b1 b2 b3 2=0∧qm a0 a1 a2 a3 b0 b1 b2 b3 3=0))=true:=decide_eq_true (yx5 hv.ne hw.ne rfl rfl rfl rfl)
 exact ⟨la,fun h=>⟨lb,fun k=>⟨ha h,c1,hb k,d1,ha h,c1,ha h,hb k,c2,d2,sm,yi0 (yg3 hv) (yi0 (yg3 hw) ⟨by rw [hj.2];rfl,hk,c1,decide_eq_true hn,yi0 (yg3 hv) ⟨hi.2,he,yi1 he⟩⟩)⟩,fun _=>zB2⟩,fun _=>zB2⟩
theorem zX0 (a0 a1 a2 a3:Int) (ae:-9223372036854775808≤a0∧a0≤9223372036854775807) (af:-9223372036854775808≤a1∧a1≤9223372036854775807) (ah:-9223372036854775808≤a2∧a2≤9223372036854775807) (ai:-9223372036854775808≤a3∧a3≤9223372036854775807) (U V T:List UInt8) (rU:(U.length:Int)≤9223372036854775807) (rV:(V.length:Int)≤9223372036854775807) (rT:(T.length:Int)≤9223372036854775807) (b0 b1 b2 b3:Int) (aa:-9223372036854775808≤b0∧b0≤9223372036854775807) (ab:-9223372036854775808≤b1∧b1≤9223372036854775807) (ad:-9223372036854775808≤b2∧b2≤9223372036854775807) (ac:-9223372036854775808≤b3∧b3≤9223372036854775807) (X Y Z:List UInt8) (rX:(X.length:Int)≤9223372036854775807) (rY:(Y.length:Int)≤9223372036854775807) (rZ:(Z.length:Int)≤9223372036854775807) (w:World) (ht:Tab w) (hm:Mx w):
  Calls Tryz.prog 6 #[.agg #[.int .i64 a0,.int .i64 a1,.int .i64 a2,.int .i64 a3,.string ⟨U.toArray⟩,.string ⟨V.toArray⟩,.string ⟨T.toArray⟩],.agg #[.int .i64 b0,.int .i64 b1,.int .i64 b2,.int .i64 b3,.string ⟨X.toArray⟩,.string ⟨Y.toArray⟩,.string ⟨Z.toArray⟩]] w fun e w'=>e=.returned (.bool true)∧Gr w w':=by
 have tx:∀ {X:List UInt8},(Cl.cw X none).ok ⟨0,0,0⟩ (zG5 []) w:=⟨rfl,fun k q e=>by cases e⟩
 have tr_:∀ {x:Rat},RS 2000 x→(Cl.cw (za1 x) (some (2000,x))).ok ⟨0,0,0⟩ (zG5 []) w:=fun h=>⟨rfl,fun k q e=>by cases e;exact ⟨rfl,h⟩⟩
 have la:l6j U V T=true:=decide_eq_true ⟨rU,rV,rT⟩
 have lb:l6j X Y Z=true:=decide_eq_true ⟨rX,rY,rZ⟩
 have pa:pl3 U V T=true→cj5 a0 a1 a2 a3 U V T=true:=fun h=>by
  unfold pl3 at h
  simp only [Bool.and_eq_true] at h
  have l1:=zj9 h.1;have l2:=zj9 h.2.1;have l3:=zj9 h.2.2
  exact decide_eq_true ⟨⟨ae,af,ah,ai⟩,by omega,by omega,by omega⟩
 have pb:pl3 X Y Z=true→cj5 b0 b1 b2 b3 X Y Z=true:=fun h=>by
  unfold pl3 at h
  simp only [Bool.and_eq_true] at h
  have l1:=zj9 h.1;have l2:=zj9 h.2.1;have l3:=zj9 h.2.2
  exact decide_eq_true ⟨⟨aa,ab,ad,ac⟩,by omega,by omega,by omega⟩
 have tor:∀ {X:List UInt8},ck2 X 400=0→∃ a:Rat,X=za1 a∧RS 2000 a:=fun {X} h=>by
  have hl:=(yh0 h).2
  obtain ⟨a,e,h2,_⟩:=zq1 h (by omega)
  exact ⟨a,e,h2⟩
 by_cases hca:(chk a0 a1 a2 a3 (fe U V T))=0
 ·obtain ⟨hv,h3⟩:=yk3 hca
  obtain ⟨k1,k2,k3⟩:=zw9 h3
  obtain ⟨u1,rfl,s1⟩:=tor k1
  obtain ⟨u2,rfl,s2⟩:=tor k2
  obtain ⟨u3,rfl,s3⟩:=tor k3
  have oa:SV.ok ⟨0,0,0⟩ (zG5 []) w (.so (.vg [.ci .i64 a0 (-12) 12,.ci .i64 a1 (-12) 12,.ci .i64 a2 (-12) 12,.ci .i64 a3 (-12) 12,.cw (za1 u1) (some (2000,u1)),.cw (za1 u2) (some (2000,u2)),.cw (za1 u3) (some (2000,u3))])):=zf6 ⟨⟨rfl,hv.b0⟩,⟨rfl,hv.b1⟩,⟨rfl,hv.b2⟩,⟨rfl,hv.b3⟩,tr_ s1,tr_ s2,tr_ s3,trivial⟩
  by_cases hcb:(chk b0 b1 b2 b3 (fe X Y Z))=0
  ·obtain ⟨hw,g3⟩:=yk3 hcb
   obtain ⟨k4,k5,k6⟩:=zw9 g3
   obtain ⟨x1,rfl,s4⟩:=tor k4
   obtain ⟨x2,rfl,s5⟩:=tor k5
   obtain ⟨x3,rfl,s6⟩:=tor k6
   refine (zc8 sysMj zR7 (runJg a0 a1 a2 a3 b0 b1 b2 b3 u1 u2 u3 x1 x2 x3) (X:=zG5 []) ⟨ht,hm⟩ (zn2 oa (zn2 (zf6 ⟨⟨rfl,hw.b0⟩,⟨rfl,hw.b1⟩,⟨rfl,hw.b2⟩,⟨rfl,hw.b3⟩,tr_ s4,tr_ s5,tr_ s6,trivial⟩) zR8)) (Post:=isT) (yu8 hv hw hca hcb la lb pa pb)).mono fun e w' he=>?_
   obtain ⟨v,X',n,rfl,g,_,_,hp⟩:=he
   exact ⟨by rw [hp],g⟩
  ·refine (zc8 sysMj zR7 (runJy a0 a1 a2 a3 b0 b1 b2 b3 u1 u2 u3 X Y Z) (X:=zG5 []) ⟨ht,hm⟩ (zn2 oa (zn2 (zf6 ⟨⟨rfl,aa⟩,⟨rfl,ab⟩,⟨rfl,ad⟩,⟨rfl,ac⟩,tx,tx,tx,trivial⟩) zR8)) (Post:=isT) (yu7 hv hca la lb pa pb (by simpa using hcb))).mono fun e w' he=>?_
   obtain ⟨v,X',n,rfl,g,_,_,hp⟩:=he
   exact ⟨by rw [hp],g⟩
 ·refine (zc8 sysMj zR7 (runJx a0 a1 a2 a3 b0 b1 b2 b3 U V T X Y Z) (X:=zG5 []) ⟨ht,hm⟩ (zn2 (zf6 ⟨⟨rfl,ae⟩,⟨rfl,af⟩,⟨rfl,ah⟩,⟨rfl,ai⟩,tx,tx,tx,trivial⟩) (zn2 (zf6 ⟨⟨rfl,aa⟩,⟨rfl,ab⟩,⟨rfl,ad⟩,⟨rfl,ac⟩,tx,tx,tx,trivial⟩) zR8)) (Post:=isT) (yu6 la lb pa pb (by simpa using hca))).mono fun e w' he=>?_
  obtain ⟨v,X',n,rfl,g,_,_,hp⟩:=he
  exact ⟨by rw [hp],g⟩
end Go.Proofs.YtaldbfflkpgfoaaGreatDoor
namespace Go.Proofs.YtaldbfflkpgfoaaGreatDoor
open Go.ChangeShapes Go.WideShapes Go.ChangeAt Go.RowKit

theorem zB7 {W : World} (h : laidMetH Tryz.prog Rows.motionJoinsRow.laid W) : Tab W :=
 Lib.tabIs_of_head (rest := _) (g := 1) (t := 254) (e := 160) (n := 20) (by kernel_rfl) (by kernel_rfl) (by kernel_rfl) (by kernel_rfl) (by kernel_rfl) (by kernel_rfl) ((show laidMet Tryz.prog Rows.motionJoinsRow.laid W from (MakeChecks.laidMetH_plain _ _ _ (by kernel_rfl)) ▸ h).tail.tail)
theorem zz0 {W : World} (h : W.ShapedOpen Tryz.prog) : Mx W :=
 Go.Proofs.cell_of_shapedOpen_int (zero := #[.int .i64 0]) (g := 0) (t := 3) h (of_decide_eq_true (by kernel_rfl)) (by kernel_rfl) rfl (by kernel_rfl) (by kernel_rfl) Tryz.underlying3
set_option maxRecDepth 100000 in
theorem zv2 (H : Type) (enc : TypeId × Value → H) (W : World) (base : Nat) (args : Array Value) (ds gs : List (DataW H)) (before : List MemPlace)
  (hval : ∀ (j : Nat) t v, Tryz.f6.params[j]? = some t → args[j]? = some v → Value.okWide Tryz.prog W .any base t v)
  (hW : DataW.Whole enc Tryz.prog Tryz.f6.params.toList Rows.motionJoinsSpec.vars false W args.toList ds gs before) (hL : laidMetH Tryz.prog Rows.motionJoinsRow.laid W) (hsh : W.ShapedOpen Tryz.prog) :
  Calls Tryz.prog 6 args W fun e W' => ∃ v, e = .returned v ∧ Rows.motionJoinsSpec.post enc Tryz.prog Tryz.f6 false true false false W args v W' := by
 have hW' := hW
 obtain ⟨p, q, aW, hV, rfl, hfz, hnd⟩ := hW
 have hA : DataW.TrodAll enc Tryz.prog W 0 (fun _ => true) true Tryz.f6.params.toList args.toList ds p := aW
 rw [Tryz.params6] at hA hval
 obtain ⟨v0, aX, d0, a0, p0, q0, hargs, rfl, rfl, h0, r0⟩ := trodAll_cons hA
 obtain ⟨v1, aY, d1, aZ, p1, q1, rfl, rfl, rfl, h1, r1⟩ := trodAll_cons r0
 obtain ⟨rfl, rfl, rfl⟩ := trodAll_nil r1
 obtain rfl : args = #[v0, v1] := by cases args; simp_all
 obtain ⟨rfl, rfl⟩ := trodVars_none hV
 obtain ⟨c0, rfl, z0, o0⟩ := zO2 (ts := [3, 3, 3, 3, 23, 23, 23]) [some .i64, some .i64, some .i64, some .i64, none, none, none] (by kernel_rfl) (by kernel_rfl) (by kernel_rfl) (by kernel_rfl) (hval 0 27 v0 rfl rfl)
 obtain ⟨ar, aQ, aD⟩ := o0 0 (some .i64) rfl
 obtain ⟨af, aN, aG⟩ := o0 1 (some .i64) rfl
 obtain ⟨ab, aS, aF⟩ := o0 2 (some .i64) rfl
 obtain ⟨ad, aT, aC⟩ := o0 3 (some .i64) rfl
 obtain ⟨ap, aK, aH⟩ := o0 4 none rfl
 obtain ⟨ae, ay, aU⟩ := o0 5 none rfl
 obtain ⟨al, az, aB⟩ := o0 6 none rfl
 obtain rfl : c0 = #[.int .i64 ar, .int .i64 af, .int .i64 ab, .int .i64 ad, .string ⟨ap.toArray⟩, .string ⟨ae.toArray⟩, .string ⟨al.toArray⟩] := by
  apply Array.ext_getElem?; intro i
  rcases i with _ | _ | _ | _ | _ | _ | _ | i
  ·exact aQ
  ·exact aN
  ·exact aS
  ·exact aT
  ·exact aK
  ·exact ay
  ·exact az
  ·rw [Array.getElem?_eq_none (by simp at z0; omega), Array.getElem?_eq_none (by simp)]
 obtain ⟨c1, rfl, z1, o1⟩ := zO2 (ts := [3, 3, 3, 3, 23, 23, 23]) [some .i64, some .i64, some .i64, some .i64, none, none, none] (by kernel_rfl) (by kernel_rfl) (by kernel_rfl) (by kernel_rfl) (hval 1 27 v1 rfl rfl)
 obtain ⟨ai, aJ, ax⟩ := o1 0 (some .i64) rfl
 obtain ⟨aa, au, aA⟩ := o1 1 (some .i64) rfl
 obtain ⟨aj, aO, aL⟩ := o1 2 (some .i64) rfl
 obtain ⟨ah, aP, aM⟩ := o1 3 (some .i64) rfl
 obtain ⟨ac, aE, aw⟩ := o1 4 none rfl
 obtain ⟨aq, aV, aI⟩ := o1 5 none rfl
 obtain ⟨ak, aR, av⟩ := o1 6 none rfl
 obtain rfl : c1 = #[.int .i64 ai, .int .i64 aa, .int .i64 aj, .int .i64 ah, .string ⟨ac.toArray⟩, .string ⟨aq.toArray⟩, .string ⟨ak.toArray⟩] := by
  apply Array.ext_getElem?; intro i
  rcases i with _ | _ | _ | _ | _ | _ | _ | i
  ·exact aJ
  ·exact au
  ·exact aO
  ·exact aP
  ·exact aE
  ·exact aV
  ·exact aR
  ·rw [Array.getElem?_eq_none (by simp at z1; omega), Array.getElem?_eq_none (by simp)]
 refine (zX0 ar af ab ad (zr5 aD) (zr5 aG) (zr5 aF) (zr5 aC) ap ae al aH aU aB ai aa aj ah (zr5 ax) (zr5 aA) (zr5 aL) (zr5 aM) ac aq ak aw aI av  W (zB7 hL) (zz0 hsh)).mono fun e W' ⟨he, hg⟩ => ?_
 subst he
 exact ⟨_, rfl, law_post (tb := 4) laidOut (by kernel_rfl) (by kernel_rfl) (by kernel_rfl) rfl hW' rfl hg⟩
noncomputable def zh8 (os : Os) : World := World.laidAll Tryz.prog os Rows.motionJoinsRow.laid
theorem zK9 (os : Os) : laidMet Tryz.prog Rows.motionJoinsRow.laid ((zh8 os).forCall (fun _ _ => 0) ⟨#[], #[.agg #[.int .i64 0, .int .i64 0, .int .i64 0, .int .i64 0, .string ⟨#[]⟩, .string ⟨#[]⟩, .string ⟨#[]⟩], .agg #[.int .i64 0, .int .i64 0, .int .i64 0, .int .i64 0, .string ⟨#[]⟩, .string ⟨#[]⟩, .string ⟨#[]⟩]], []⟩).memory :=
 laidMet_laidAll _ (by kernel_rfl) (by kernel_rfl)
theorem zB8 (os : Os) {H : Type} (enc : TypeId × Value → H) : ∃ places, DataW.whole enc Tryz.prog ((zh8 os).forCall (fun _ _ => 0) ⟨#[], #[.agg #[.int .i64 0, .int .i64 0, .int .i64 0, .int .i64 0, .string ⟨#[]⟩, .string ⟨#[]⟩, .string ⟨#[]⟩], .agg #[.int .i64 0, .int .i64 0, .int .i64 0, .int .i64 0, .string ⟨#[]⟩, .string ⟨#[]⟩, .string ⟨#[]⟩]], []⟩).memory Tryz.f6.params.toList Rows.motionJoinsSpec.vars false (#[.agg #[.int .i64 0, .int .i64 0, .int .i64 0, .int .i64 0, .string ⟨#[]⟩, .string ⟨#[]⟩, .string ⟨#[]⟩], .agg #[.int .i64 0, .int .i64 0, .int .i64 0, .int .i64 0, .string ⟨#[]⟩, .string ⟨#[]⟩, .string ⟨#[]⟩]] : Array Value).toList 8 = some ([.agg [.agg [.lit (.int .i64 0), .lit (.int .i64 0), .lit (.int .i64 0), .lit (.int .i64 0)], .agg [.lit (.string []), .lit (.string []), .lit (.string [])]], .agg [.agg [.lit (.int .i64 0), .lit (.int .i64 0), .lit (.int .i64 0), .lit (.int .i64 0)], .agg [.lit (.string []), .lit (.string []), .lit (.string [])]]], [], places) :=
 ⟨[], by kernel_rfl⟩
set_option maxRecDepth 100000 in
theorem zz1 (os : Os) (started : os.Started) (H : Type) (enc : TypeId × Value → H) (F : Stop.Interp) :
  ReturnsInHanded {} Tryz.checked os 6 .any ((OpenSpec.ofChange Rows.motionJoinsSpec).preRow enc Tryz.prog Tryz.f6 Rows.motionJoinsRow.domain false Rows.motionJoinsRow.laid) (((OpenSpec.ofChange Rows.motionJoinsSpec).at F).post enc Tryz.prog Tryz.f6 false true false false) := by
 obtain ⟨places, hx⟩ := zB8 os enc
 refine returnsInHanded_of_row (C := Tryz.checked) (s := OpenSpec.ofChange Rows.motionJoinsSpec) own started (by kernel_rfl) Tryz.func6
  (zN1 (enc := enc) (C := Tryz.checked) false (zh8 os) #[.agg #[.int .i64 0, .int .i64 0, .int .i64 0, .int .i64 0, .string ⟨#[]⟩, .string ⟨#[]⟩, .string ⟨#[]⟩], .agg #[.int .i64 0, .int .i64 0, .int .i64 0, .int .i64 0, .string ⟨#[]⟩, .string ⟨#[]⟩, .string ⟨#[]⟩]] (World.laidAll_os _ _ _) (World.shaped_of_ZipB (by kernel_rfl) (by kernel_rfl)) (by kernel_rfl)
   (OpenSpec.preRow_of_cond 8 hx (by kernel_rfl) (fun k hk => by cases hk) (by kernel_rfl) (by rw [MakeChecks.laidMetH_plain _ _ _ (by kernel_rfl)]; exact zK9 os))) ?_
 intro W base args ds gs before hval hW _ _ _ hL hsh _
 exact zv2 H enc W base args ds gs before hval hW hL hsh
theorem zF2 : Rows.MotionJoinsSaid :=
 OpenClaim.holds_of_cond 6 Tryz.f6 rfl rfl rfl rfl rfl rfl rfl ⟨rfl, rfl, rfl, rfl, rfl⟩ rfl rfl rfl rfl rfl (by kernel_rfl) Tryz.func6 (by kernel_rfl)
  (of_decide_eq_true (by kernel_rfl)) (by unfold Func.isWrapper; first | (rw [if_pos (by decide +kernel)]; kernel_rfl) | (rw [if_neg (by decide +kernel)]; exact ⟨rfl, rfl⟩))
  (fun os started H enc _ F => by rw [OpenClaim.pre_eq_preRow]; exact zz1 os started H enc F)
theorem zB9 (f : FuncId) (fn : Func) (hf : Tryz.pinned.checked.prog.funcNamed "dowel/dowellaw07.MotionJoins" = some f) (hfn : Tryz.pinned.checked.prog.funcs[f]? = some fn) :
  true = Tryz.pinned.checked.prog.looks [] ∧ ∀ (j : Nat) t, fn.params[j]? = some t → Tryz.pinned.checked.prog.wantsStandIn t = false := by
 obtain rfl : f = 6 := Option.some.inj ((show Tryz.prog.funcNamed "dowel/dowellaw07.MotionJoins" = some 6 by kernel_rfl).symm.trans hf) |>.symm
 obtain rfl : fn = Tryz.f6 := (Option.some.inj (Tryz.func6.symm.trans hfn)).symm
 refine ⟨by kernel_rfl, fun j t ht => ?_⟩
 rw [Tryz.params6] at ht
 have hm := Array.mem_of_getElem? ht
 have hall : (#[27, 27] : Array TypeId).toList.all (fun t => !Tryz.prog.wantsStandIn t) = true := by kernel_rfl
 have := List.all_eq_true.1 hall t (Array.mem_toList_iff.2 hm)
 have h3 : Tryz.prog.wantsStandIn t = false := by simpa using this
 exact h3
theorem motionJoins_card : Rows.MotionJoinsCardSaid :=
 Claim7.holds_tied_plain_at .later [] _ _ _ _ zF2 (fun _ h => by cases h) (by kernel_rfl) (fun _ h => by cases h) motionJoins_row_tie rfl ⟨rfl, rfl⟩ (by kernel_rfl) rfl zB9 (by kernel_rfl)
end Go.Proofs.YtaldbfflkpgfoaaGreatDoor
