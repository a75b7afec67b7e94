/- Joined of: Gen126, Qu, Gen100, Gen127, Gen128, Law, Law2, Law3, Gen130, Pl2, Mat, Gen135, Gen70, Gen142, Qv. -/
import Derived.Test.YtaldbfflkpgfoaaGreatDoorPartF
import Derived.Test.YtaldbfflkpgfoaaGreatDoorPartE
import Derived.Test.YtaldbfflkpgfoaaGreatDoorPartD
import Derived.Test.YtaldbfflkpgfoaaGreatDoorPartC
import Derived.ProofKit
import Derived.Below
import Derived.Deep.DeepHandedRow
import Derived.Lib.LaidTab
import Derived.Stop.LaidErr
import Derived.LaidSub
import Derived.Lay
import Derived.MakeChecks
import Derived.SizedLaws
import Derived.ChangeArms
import Derived.OpenShut
namespace Go.Proofs.YtaldbfflkpgfoaaGreatDoor
open Go.RowKit

noncomputable def tabN:List (Nat × List (Nat × Ent)):=[(19,[(5,.ord [(true,0),(true,1),(true,3),(true,4),(false,2),(true,5),(false,6)] [1])]),
 (22,[]),
 (24,[(9,.ord [(true,0),(true,1),(true,2),(true,3),(true,5),(true,6),(false,4),(true,7),(false,8)] [5])]),
 (30,[(1,.flo [(true,0),(true,1),(true,2),(true,3),(false,4),(true,5),(false,6)] [(7,3,41)] [(false,8)] []),(2,.ord [(true,0),(false,1),(false,2),(true,3),(true,4),(true,5),(true,6),(true,7),(true,8),(true,9),(true,10),(true,11),(true,12),(false,13),(false,14),(true,15),(true,16),(true,17)] [])]),
 (32,[]),
 (36,[]),
 (38,[]),
 (39,[(1,.ord [(true,0),(true,1),(true,2),(false,3),(false,4),(false,5)] [6])]),
 (41,[(6,.ord [(true,0),(true,1),(true,2),(true,3),(true,4),(true,5),(true,6),(true,8),(true,9),(true,10),(true,11),(true,12),(true,13),(false,7),(false,14),(false,15),(true,16),(false,17)] [5])]),
 (43,[(1,.ord [(true,0),(true,1),(true,3),(true,4),(false,2),(false,5),(false,6)] [4])]),
 (44,[]),
 (69,[(8,.ord [(true,0),(true,1),(true,2),(true,3),(true,4),(false,5)] [3])]),
 (74,[(5,.ord [(true,0),(true,1),(true,2),(true,3),(true,4),(true,5),(true,6),(true,7),(false,8),(true,9),(false,10)] [7])]),
 (83,[]),
 (86,[])]
noncomputable def conN:List (Nat × ConT):=[(103,zp1 100000 (fun k m=>k+m+1) (fun a b=>a+b)),
 (75,zp1 100000 (fun k m=>k+m+1) (fun a b=>a - b)),
 (82,zp1 100000 (fun k m=>k+m) (fun a b=>a*b)),
 (108,cNeg),
 (59,yh9),
 (37,yi0),
 (76,zY4),
 (87,yi1),
 (130,cNum),
 (81,cDen),
 (58,cDiv),
 (96,zG8),
 (80,zY5),
 (122,zY6),
 (123,zY7),
 (68,yi2),
 (105,cTT (fun k m=>k+m+1) fun a b=>a+b),
 (132,cTT (fun k m=>k+m+1) fun a b=>a - b),
 (106,cTT (fun k m=>k+m) fun a b=>a*b),
 (64,yi3),
 (115,yi4),
 (65,zL0),
 (94,zA6 400),
 (107,zA6 65536),
 (15,cChk),
 (66,yi5),
 (14,cOf),
 (16,cMEq),
 (67,cTurn)]
noncomputable def sysN:Sys:=⟨Tryz.prog,2,199,tabN,conN,fun w=>Tab w∧Mx w⟩
theorem zV1:sysN.OK where
 mixed:=by kernel_rfl
 calls:=fun f h0 h1=>by
  have:(List.range 199).all (fun f=>Nat.blt f 2||okCall Tryz.prog f)=true:=by kernel_rfl
  have:=List.all_eq_true.1 this f (List.mem_range.2 h1)
  simp only [Bool.or_eq_true] at this
  exact this.resolve_left (fun e=>by have:=zf3 e;exact absurd h0 (by show ¬ 2≤f;omega))
 tab:=by
  have:tabN.all (okTab Tryz.prog)=true:=by kernel_rfl
  exact fun x hx=>List.all_eq_true.1 this x hx
 lps:=zK8 (by kernel_rfl)
 con:=fun x hx=>by
  simp only [sysN,conN,List.mem_cons,List.not_mem_nil,or_false] at hx
  rcases hx with rfl | rfl | rfl | rfl | rfl | rfl | rfl | rfl | rfl | rfl | rfl | rfl | rfl | rfl | rfl | rfl | rfl | rfl | rfl | rfl | rfl | rfl | rfl | rfl | rfl | rfl | rfl | rfl | rfl
  ·exact ze1 fun h1 h2 h3=>zi7 h1 h2 h3
  ·exact ze1 fun h1 h2 h3=>zt2 h1 h2 h3
  ·exact ze1 fun h1 h2 h3=>ym7 h1 h2 h3
  ·exact zG9
  ·exact zv2
  ·exact zv3
  ·exact zq6
  ·exact zv4 fun w h=>h.1
  ·exact zy4
  ·exact zy5
  ·exact zH0
  ·exact zk6
  ·exact zq7
  ·exact zq8
  ·exact zq9
  ·exact zv5
  ·exact zv6
  ·exact zv7
  ·exact zv8
  ·exact zv9
  ·exact zw0
  ·exact zp3
  ·exact zw1 fun w h=>h.2
  ·exact zw2 fun w h=>h.2
  ·exact zO5 fun w h=>h.2
  ·exact zB7
  ·exact yl4 fun w h=>h
  ·exact yl1
  ·exact ya1
 inv:=fun w w' h g=>⟨h.1.gr g,h.2.gr g⟩
def okLf (p:SV→Bool):Lf→Bool
 | .ret v=>p v
 | .br t a b=>match t with
  | true=>okLf p a
  | false=>okLf p b
 | .as t v a=>match t,v with
  | true,true=>okLf p a
  | false,false=>okLf p a
  | _,_=>false
theorem zL6 {p:SV→Bool}:∀ {L:Lf},okLf p L=true→LOK (fun v=>p v=true) L
 | .ret v,h=>h
 | .br t a b,h=>by
  cases t with
  | true=>exact ⟨fun _=>zL6 (L:=a) h,fun e=>by cases e⟩
  | false=>exact ⟨fun e=>(by cases e),fun _=>zL6 (L:=b) h⟩
 | .as t v a,h=>by
  cases t<;>cases v<;>first | exact absurd h (by show ¬(false=true);decide) | exact ⟨rfl,zL6 (L:=a) h⟩
def okRun (p:SV→Bool):Rs→Bool
 | some L=>okLf p L
 | none=>false
theorem ya2 {p:SV→Bool} {r:Rs} (h:okRun p r=true):∃ L,r=some L∧LOK (fun v=>p v=true) L:=by
 cases r with
 | none=>cases h
 | some L=>exact ⟨L,rfl,zL6 h⟩
def tz0 (c:Cl):Bool:=match txC c with
 | some (_,q)=>decide (q=0)
 | none=>false
def tzE:Cl→Bool
 | .cw [] _=>true
 | _=>false
def pJ (z e:Int) (tz:Cl→Bool):SV→Bool
 | .st [.vg [.ci .i64 a _ _,.ci .i64 b _ _,.ci .i64 c _ _,.ci .i64 d _ _,t1,t2,t3],.vc (.ci .i64 f _ _)]=>decide (a=0)&&decide (b=0)&&decide (c=0)&&decide (d=z)&&decide (f=e)&&tz t1&&tz t2&&tz t3
 | _=>false
theorem runJ1:okRun (pJ 1 0 tz0) (runF sysN 32 [.so (.vg [.ci .i64 1 1 1,.ci .i64 0 0 0,.ci .i64 0 0 0,.ci .i64 1 1 1,.cw (za3 0) (some (64,0)),.cw (za3 0) (some (64,0)),.cw (za3 0) (some (64,0))]),.so (.vg [.ci .i64 1 1 1,.ci .i64 0 0 0,.ci .i64 0 0 0,.ci .i64 1 1 1,.cw (za3 0) (some (64,0)),.cw (za3 0) (some (64,0)),.cw (za3 0) (some (64,0))])] 0 0 .c)=true:=by kernel_rfl
theorem runJ2:okRun (pJ 0 2 tzE) (runF sysN 32 [.so (.vg [.ci .i64 12 12 12,.ci .i64 1 1 1,.ci .i64 0 0 0,.ci .i64 0 0 0,.cw (za3 0) (some (64,0)),.cw (za3 0) (some (64,0)),.cw (za3 0) (some (64,0))]),.so (.vg [.ci .i64 12 12 12,.ci .i64 1 1 1,.ci .i64 0 0 0,.ci .i64 0 0 0,.cw (za3 0) (some (64,0)),.cw (za3 0) (some (64,0)),.cw (za3 0) (some (64,0))])] 0 0 .c)=true:=by kernel_rfl
theorem yl5 {n:Nn} {X:Env} {w:World} {c:Cl} (h:tz0 c=true) (hc:c.ok n X w):c.den X=.string ⟨([48]:List UInt8).toArray⟩:=by
 unfold tz0 at h
 split at h
 ·rename_i k q e
  rw [(zp2 e hc).1,of_decide_eq_true h,zT5]
 ·cases h
theorem yl6 {X:Env} {c:Cl} (h:tzE c=true):c.den X=.string ⟨([]:List UInt8).toArray⟩:=by
 unfold tzE at h
 split at h
 ·rfl
 ·cases h
theorem pJ_ok {n:Nn} {X:Env} {w:World} {z e:Int} {tz:Cl→Bool} {v:SV} (h:pJ z e tz v=true) (hv:v.ok n X w):∃ c1 c2 c3:Cl,v.den X=.tuple #[.agg #[.int .i64 0,.int .i64 0,.int .i64 0,.int .i64 z,c1.den X,c2.den X,c3.den X],.int .i64 e]∧(tz c1=true∧c1.ok n X w)∧(tz c2=true∧c2.ok n X w)∧(tz c3=true∧c3.ok n X w):=by
 unfold pJ at h
 split at h
 ·rename_i a _ _ b _ _ c _ _ d _ _ t1 t2 t3 f _ _
  simp only [Bool.and_eq_true,decide_eq_true_eq] at h
  obtain ⟨⟨⟨⟨⟨⟨⟨rfl,rfl⟩,rfl⟩,rfl⟩,rfl⟩,h1⟩,h2⟩,h3⟩:=h
  have g:=hv (.vg _) (.head _)
  exact ⟨t1,t2,t3,rfl,⟨h1,g t1 (by simp)⟩,⟨h2,g t2 (by simp)⟩,⟨h3,g t3 (by simp)⟩⟩
 ·cases h
theorem tx0 (w:World):(Cl.cw (za3 0) (some (64,0))).ok ⟨0,0,0⟩ (zU0 []) w:=⟨rfl,fun k q e=>by cases e;exact ⟨rfl,Nat.two_pow_pos _,Nat.one_lt_two_pow (by decide)⟩⟩
theorem ci0 (z:Int) (w:World):(Cl.ci .i64 z z z).ok ⟨0,0,0⟩ (zU0 []) w:=⟨rfl,Int.le_refl _,Int.le_refl _⟩
theorem okq (a b c d:Int) (w:World):SV.ok ⟨0,0,0⟩ (zU0 []) w (.so (.vg [.ci .i64 a a a,.ci .i64 b b b,.ci .i64 c c c,.ci .i64 d d d,.cw (za3 0) (some (64,0)),.cw (za3 0) (some (64,0)),.cw (za3 0) (some (64,0))])):=zm6 ⟨ci0 _ _,ci0 _ _,ci0 _ _,ci0 _ _,tx0 _,tx0 _,tx0 _,trivial⟩
theorem okF2 {n:Nn} {X:Env} {W:World} {u v:SV} (h1:u.ok n X W) (h2:v.ok n X W):okF n X W [u,v]:=fun x hx=>by
 simp only [List.mem_cons,List.not_mem_nil,or_false] at hx
 rcases hx with rfl | rfl
 ·exact h1
 ·exact h2
theorem join_k1 (w:World) (hm:Mx w) (ht:Tab w):
  Calls Tryz.prog 32 #[.agg #[.int .i64 1,.int .i64 0,.int .i64 0,.int .i64 1,.string ⟨([48]:List UInt8).toArray⟩,.string ⟨([48]:List UInt8).toArray⟩,.string ⟨([48]:List UInt8).toArray⟩],.agg #[.int .i64 1,.int .i64 0,.int .i64 0,.int .i64 1,.string ⟨([48]:List UInt8).toArray⟩,.string ⟨([48]:List UInt8).toArray⟩,.string ⟨([48]:List UInt8).toArray⟩]] w fun e w'=>e=.returned (.tuple #[.agg #[.int .i64 0,.int .i64 0,.int .i64 0,.int .i64 1,.string ⟨([48]:List UInt8).toArray⟩,.string ⟨([48]:List UInt8).toArray⟩,.string ⟨([48]:List UInt8).toArray⟩],.int .i64 0])∧Gr w w':=by
 obtain ⟨L,hr,hL⟩:=ya2 runJ1
 have:=(zf8 sysN zV1 hr (X:=zU0 []) ⟨ht,hm⟩ (okF2 (okq 1 0 0 1 w) (okq 1 0 0 1 w)) hL)
 rw [show ([.so (.vg [.ci .i64 1 1 1,.ci .i64 0 0 0,.ci .i64 0 0 0,.ci .i64 1 1 1,.cw (za3 0) (some (64,0)),.cw (za3 0) (some (64,0)),.cw (za3 0) (some (64,0))]),.so (.vg [.ci .i64 1 1 1,.ci .i64 0 0 0,.ci .i64 0 0 0,.ci .i64 1 1 1,.cw (za3 0) (some (64,0)),.cw (za3 0) (some (64,0)),.cw (za3 0) (some (64,0))])].map (SV.den (zU0 []))).toArray=#[.agg #[.int .i64 1,.int .i64 0,.int .i64 0,.int .i64 1,.string ⟨(za3 0).toArray⟩,.string ⟨(za3 0).toArray⟩,.string ⟨(za3 0).toArray⟩],.agg #[.int .i64 1,.int .i64 0,.int .i64 0,.int .i64 1,.string ⟨(za3 0).toArray⟩,.string ⟨(za3 0).toArray⟩,.string ⟨(za3 0).toArray⟩]] from rfl,zT5] at this
 refine this.mono fun e w' he=>?_
 obtain ⟨v,X',n,rfl,g,_,hv,hp⟩:=he
 obtain ⟨c1,c2,c3,e,h1,h2,h3⟩:=pJ_ok hp hv
 exact ⟨by rw [e,yl5 h1.1 h1.2,yl5 h2.1 h2.2,yl5 h3.1 h3.2],g⟩
theorem join_k2 (w:World) (hm:Mx w) (ht:Tab w):
  Calls Tryz.prog 32 #[.agg #[.int .i64 12,.int .i64 1,.int .i64 0,.int .i64 0,.string ⟨([48]:List UInt8).toArray⟩,.string ⟨([48]:List UInt8).toArray⟩,.string ⟨([48]:List UInt8).toArray⟩],.agg #[.int .i64 12,.int .i64 1,.int .i64 0,.int .i64 0,.string ⟨([48]:List UInt8).toArray⟩,.string ⟨([48]:List UInt8).toArray⟩,.string ⟨([48]:List UInt8).toArray⟩]] w fun e w'=>e=.returned (.tuple #[.agg #[.int .i64 0,.int .i64 0,.int .i64 0,.int .i64 0,.string ⟨([]:List UInt8).toArray⟩,.string ⟨([]:List UInt8).toArray⟩,.string ⟨([]:List UInt8).toArray⟩],.int .i64 2])∧Gr w w':=by
 obtain ⟨L,hr,hL⟩:=ya2 runJ2
 have:=(zf8 sysN zV1 hr (X:=zU0 []) ⟨ht,hm⟩ (okF2 (okq 12 1 0 0 w) (okq 12 1 0 0 w)) hL)
 rw [show ([.so (.vg [.ci .i64 12 12 12,.ci .i64 1 1 1,.ci .i64 0 0 0,.ci .i64 0 0 0,.cw (za3 0) (some (64,0)),.cw (za3 0) (some (64,0)),.cw (za3 0) (some (64,0))]),.so (.vg [.ci .i64 12 12 12,.ci .i64 1 1 1,.ci .i64 0 0 0,.ci .i64 0 0 0,.cw (za3 0) (some (64,0)),.cw (za3 0) (some (64,0)),.cw (za3 0) (some (64,0))])].map (SV.den (zU0 []))).toArray=#[.agg #[.int .i64 12,.int .i64 1,.int .i64 0,.int .i64 0,.string ⟨(za3 0).toArray⟩,.string ⟨(za3 0).toArray⟩,.string ⟨(za3 0).toArray⟩],.agg #[.int .i64 12,.int .i64 1,.int .i64 0,.int .i64 0,.string ⟨(za3 0).toArray⟩,.string ⟨(za3 0).toArray⟩,.string ⟨(za3 0).toArray⟩]] from rfl,zT5] at this
 refine this.mono fun e w' he=>?_
 obtain ⟨v,X',n,rfl,g,_,hv,hp⟩:=he
 obtain ⟨c1,c2,c3,e,h1,h2,h3⟩:=pJ_ok hp hv
 exact ⟨by rw [e,yl6 h1.1,yl6 h2.1,yl6 h3.1],g⟩
theorem IsRats.open12 {w':World} {vs:List Value} {r0 r1 r2 r3 r4 r5 r6 r7 r8 r9 aS aT:Rat} (h:IsRats w' vs [(64,r0),(64,r1),(64,r2),(64,r3),(64,r4),(64,r5),(64,r6),(64,r7),(64,r8),(64,r9),(64,aS),(64,aT)]):∃ t0 t1 t2 t3 t4 t5 t6 t7 t8 t9 ap ai ax aD aH ah aj az aK ay aJ aL aw aP aO aa aA aG aM aR aC ab ad av aB ak ac af aE ae aQ aF aI ar al aq aN au,vs=[t0,t1,t2,t3,t4,t5,t6,t7,t8,t9,ap,ai,ax,aD,aH,ah,aj,az,aK,ay,aJ,aL,aw,aP,aO,aa,aA,aG,aM,aR,aC,ab,ad,av,aB,ak,ac,af,aE,ae,aQ,aF,aI,ar,al,aq,aN,au]∧IsRat w' 64 t0 t1 t2 t3 r0∧IsRat w' 64 t4 t5 t6 t7 r1∧IsRat w' 64 t8 t9 ap ai r2∧IsRat w' 64 ax aD aH ah r3∧IsRat w' 64 aj az aK ay r4∧IsRat w' 64 aJ aL aw aP r5∧IsRat w' 64 aO aa aA aG r6∧IsRat w' 64 aM aR aC ab r7∧IsRat w' 64 ad av aB ak r8∧IsRat w' 64 ac af aE ae r9∧IsRat w' 64 aQ aF aI ar aS∧IsRat w' 64 al aq aN au aT:=by
 obtain ⟨t0,t1,t2,t3,u0,rfl,h0,g0⟩:=h.cons
 obtain ⟨t4,t5,t6,t7,u1,rfl,h1,g1⟩:=g0.cons
 obtain ⟨t8,t9,ap,ai,u2,rfl,h2,g2⟩:=g1.cons
 obtain ⟨ax,aD,aH,ah,u3,rfl,h3,g3⟩:=g2.cons
 obtain ⟨aj,az,aK,ay,u4,rfl,h4,g4⟩:=g3.cons
 obtain ⟨aJ,aL,aw,aP,u5,rfl,h5,g5⟩:=g4.cons
 obtain ⟨aO,aa,aA,aG,u6,rfl,h6,g6⟩:=g5.cons
 obtain ⟨aM,aR,aC,ab,u7,rfl,h7,g7⟩:=g6.cons
 obtain ⟨ad,av,aB,ak,u8,rfl,h8,g8⟩:=g7.cons
 obtain ⟨ac,af,aE,ae,u9,rfl,h9,g9⟩:=g8.cons
 obtain ⟨aQ,aF,aI,ar,aZ,rfl,aW,aV⟩:=g9.cons
 obtain ⟨al,aq,aN,au,aY,rfl,aU,aX⟩:=aV.cons
 obtain rfl:=aX.nil
 exact ⟨t0,t1,t2,t3,t4,t5,t6,t7,t8,t9,ap,ai,ax,aD,aH,ah,aj,az,aK,ay,aJ,aL,aw,aP,aO,aa,aA,aG,aM,aR,aC,ab,ad,av,aB,ak,ac,af,aE,ae,aQ,aF,aI,ar,al,aq,aN,au,rfl,h0,h1,h2,h3,h4,h5,h6,h7,h8,h9,aW,aU⟩
theorem vk1:VT 1 0 0 1:=⟨by decide,by decide,by decide,by decide,by decide+kernel,by decide+kernel⟩
theorem mof_k1 (w:World) (hm:Mx w) (ht:Tab w):
  Calls Tryz.prog 14 #[.agg #[.int .i64 1,.int .i64 0,.int .i64 0,.int .i64 1,.string ⟨([48]:List UInt8).toArray⟩,.string ⟨([48]:List UInt8).toArray⟩,.string ⟨([48]:List UInt8).toArray⟩]] w fun e w'=>(∃ t0 t1 t2 t3 t4 t5 t6 t7 t8 t9 ap aJ ak aN ai aC aK ax az av aw ay af aE aD ab aA ad aB aO aH ac aj aP aF aR ah ar aQ al aL aa aq aI ae au aG aM,e=.returned (.tuple #[.agg #[t0,t1,t2,t3,t4,t5,t6,t7,t8,t9,ap,aJ,ak,aN,ai,aC,aK,ax,az,av,aw,ay,af,aE,aD,ab,aA,ad,aB,aO,aH,ac,aj,aP,aF,aR,ah,ar,aQ,al,aL,aa,aq,aI,ae,au,aG,aM],.int .i64 0])∧IsRat w' 64 t0 t1 t2 t3 0∧IsRat w' 64 t4 t5 t6 t7 (-1)∧IsRat w' 64 t8 t9 ap aJ 0∧IsRat w' 64 ak aN ai aC 1∧IsRat w' 64 aK ax az av 0∧IsRat w' 64 aw ay af aE 0∧IsRat w' 64 aD ab aA ad 0∧IsRat w' 64 aB aO aH ac 0∧IsRat w' 64 aj aP aF aR 1∧IsRat w' 64 ah ar aQ al 0∧IsRat w' 64 aL aa aq aI 0∧IsRat w' 64 ae au aG aM 0)∧Gr w w':=by
 have z:RS 64 (0:Rat):=⟨Nat.two_pow_pos _,Nat.one_lt_two_pow (by decide)⟩
 have:=of_c vk1 z z z w ⟨ht,hm⟩
 rw [zT5,show yl3 1 0 0 1 0 0 0=[(64,0),(64,(-1)),(64,0),(64,1),(64,0),(64,0),(64,0),(64,0),(64,1),(64,0),(64,0),(64,0)] by decide+kernel] at this
 refine this.mono fun e w' he=>?_
 obtain ⟨⟨vs,rfl,h⟩,g⟩:=he
 obtain ⟨t0,t1,t2,t3,t4,t5,t6,t7,t8,t9,ap,aJ,ak,aN,ai,aC,aK,ax,az,av,aw,ay,af,aE,aD,ab,aA,ad,aB,aO,aH,ac,aj,aP,aF,aR,ah,ar,aQ,al,aL,aa,aq,aI,ae,au,aG,aM,rfl,k⟩:=h.open12
 exact ⟨⟨t0,t1,t2,t3,t4,t5,t6,t7,t8,t9,ap,aJ,ak,aN,ai,aC,aK,ax,az,av,aw,ay,af,aE,aD,ab,aA,ad,aB,aO,aH,ac,aj,aP,aF,aR,ah,ar,aQ,al,aL,aa,aq,aI,ae,au,aG,aM,rfl,k⟩,g⟩
theorem vk2:VT 2 1 0 0:=⟨by decide,by decide,by decide,by decide,by decide+kernel,by decide+kernel⟩
theorem mof_k2 (w:World) (hm:Mx w) (ht:Tab w):
  Calls Tryz.prog 14 #[.agg #[.int .i64 2,.int .i64 1,.int .i64 0,.int .i64 0,.string ⟨([48]:List UInt8).toArray⟩,.string ⟨([48]:List UInt8).toArray⟩,.string ⟨([48]:List UInt8).toArray⟩]] w fun e w'=>(∃ t0 t1 t2 t3 t4 t5 t6 t7 t8 t9 ap aJ ak aN ai aC aK ax az av aw ay af aE aD ab aA ad aB aO aH ac aj aP aF aR ah ar aQ al aL aa aq aI ae au aG aM,e=.returned (.tuple #[.agg #[t0,t1,t2,t3,t4,t5,t6,t7,t8,t9,ap,aJ,ak,aN,ai,aC,aK,ax,az,av,aw,ay,af,aE,aD,ab,aA,ad,aB,aO,aH,ac,aj,aP,aF,aR,ah,ar,aQ,al,aL,aa,aq,aI,ae,au,aG,aM],.int .i64 0])∧IsRat w' 64 t0 t1 t2 t3 1∧IsRat w' 64 t4 t5 t6 t7 0∧IsRat w' 64 t8 t9 ap aJ 0∧IsRat w' 64 ak aN ai aC 0∧IsRat w' 64 aK ax az av (3/5)∧IsRat w' 64 aw ay af aE (-4/5)∧IsRat w' 64 aD ab aA ad 0∧IsRat w' 64 aB aO aH ac (4/5)∧IsRat w' 64 aj aP aF aR (3/5)∧IsRat w' 64 ah ar aQ al 0∧IsRat w' 64 aL aa aq aI 0∧IsRat w' 64 ae au aG aM 0)∧Gr w w':=by
 have z:RS 64 (0:Rat):=⟨Nat.two_pow_pos _,Nat.one_lt_two_pow (by decide)⟩
 have:=of_c vk2 z z z w ⟨ht,hm⟩
 rw [zT5,show yl3 2 1 0 0 0 0 0=[(64,1),(64,0),(64,0),(64,0),(64,(3/5)),(64,(-4/5)),(64,0),(64,(4/5)),(64,(3/5)),(64,0),(64,0),(64,0)] by decide+kernel] at this
 refine this.mono fun e w' he=>?_
 obtain ⟨⟨vs,rfl,h⟩,g⟩:=he
 obtain ⟨t0,t1,t2,t3,t4,t5,t6,t7,t8,t9,ap,aJ,ak,aN,ai,aC,aK,ax,az,av,aw,ay,af,aE,aD,ab,aA,ad,aB,aO,aH,ac,aj,aP,aF,aR,ah,ar,aQ,al,aL,aa,aq,aI,ae,au,aG,aM,rfl,k⟩:=h.open12
 exact ⟨⟨t0,t1,t2,t3,t4,t5,t6,t7,t8,t9,ap,aJ,ak,aN,ai,aC,aK,ax,az,av,aw,ay,af,aE,aD,ab,aA,ad,aB,aO,aH,ac,aj,aP,aF,aR,ah,ar,aQ,al,aL,aa,aq,aI,ae,au,aG,aM,rfl,k⟩,g⟩
theorem runA (r0 r1 r2 r3 r4 r5 r6 r7 r8 r9 aa ab v1 v2 v3:Rat):runF sysN 43 [.so (.vg [.cr 0 0 64 r0,.cr 0 1 64 r0,.cr 0 2 64 r0,.cr 0 3 64 r0,.cr 1 0 64 r1,.cr 1 1 64 r1,.cr 1 2 64 r1,.cr 1 3 64 r1,.cr 2 0 64 r2,.cr 2 1 64 r2,.cr 2 2 64 r2,.cr 2 3 64 r2,.cr 3 0 64 r3,.cr 3 1 64 r3,.cr 3 2 64 r3,.cr 3 3 64 r3,.cr 4 0 64 r4,.cr 4 1 64 r4,.cr 4 2 64 r4,.cr 4 3 64 r4,.cr 5 0 64 r5,.cr 5 1 64 r5,.cr 5 2 64 r5,.cr 5 3 64 r5,.cr 6 0 64 r6,.cr 6 1 64 r6,.cr 6 2 64 r6,.cr 6 3 64 r6,.cr 7 0 64 r7,.cr 7 1 64 r7,.cr 7 2 64 r7,.cr 7 3 64 r7,.cr 8 0 64 r8,.cr 8 1 64 r8,.cr 8 2 64 r8,.cr 8 3 64 r8,.cr 9 0 64 r9,.cr 9 1 64 r9,.cr 9 2 64 r9,.cr 9 3 64 r9,.cr 10 0 64 aa,.cr 10 1 64 aa,.cr 10 2 64 aa,.cr 10 3 64 aa,.cr 11 0 64 ab,.cr 11 1 64 ab,.cr 11 2 64 ab,.cr 11 3 64 ab]),.so (.vg [.cr 12 0 64 v1,.cr 12 1 64 v1,.cr 12 2 64 v1,.cr 12 3 64 v1,.cr 13 0 64 v2,.cr 13 1 64 v2,.cr 13 2 64 v2,.cr 13 3 64 v2,.cr 14 0 64 v3,.cr 14 1 64 v3,.cr 14 2 64 v3,.cr 14 3 64 v3])] 15 0 .e=some (.ret (.so (.vg (rowC [33,34,35] [(516,0+r0*v1+r1*v2+r2*v3+r9),(516,0+r3*v1+r4*v2+r5*v3+aa),(516,0+r6*v1+r7*v2+r8*v3+ab)])))):=by kernel_rfl
theorem mapply64 {c0 c1 c2 c3 c4 c5 c6 c7 c8 c9 aQ ba a3 ap a1 aL aX ay ar a6 bc bb ai aO aK az aG al aC aS aI aP aR aV aA ak aw aW aF a5 aT aU a7 au a8 aN aD aH a2 av aB aj aE ax aq a4 a9 aY aM aZ:Value} {r0 r1 r2 r3 r4 r5 r6 r7 r8 r9 ae ad v1 v2 v3:Rat} {w:World} (h0:IsRat w 64 c0 c1 c2 c3 r0) (h1:IsRat w 64 c4 c5 c6 c7 r1) (h2:IsRat w 64 c8 c9 aQ ba r2) (h3:IsRat w 64 a3 ap a1 aL r3) (h4:IsRat w 64 aX ay ar a6 r4) (h5:IsRat w 64 bc bb ai aO r5) (h6:IsRat w 64 aK az aG al r6) (h7:IsRat w 64 aC aS aI aP r7) (h8:IsRat w 64 aR aV aA ak r8) (h9:IsRat w 64 aw aW aF a5 r9) (ac:IsRat w 64 aT aU a7 au ae) (ab:IsRat w 64 a8 aN aD aH ad) (aa:IsRat w 64 a2 av aB aj v1) (ah:IsRat w 64 aE ax aq a4 v2) (af:IsRat w 64 a9 aY aM aZ v3) (ht:Tab w) (hm:Mx w):
  Calls Tryz.prog 43 #[.agg #[c0,c1,c2,c3,c4,c5,c6,c7,c8,c9,aQ,ba,a3,ap,a1,aL,aX,ay,ar,a6,bc,bb,ai,aO,aK,az,aG,al,aC,aS,aI,aP,aR,aV,aA,ak,aw,aW,aF,a5,aT,aU,a7,au,a8,aN,aD,aH],.agg #[a2,av,aB,aj,aE,ax,aq,a4,a9,aY,aM,aZ]] w fun e w'=>(∃ t0 t1 t2 t3 t4 t5 t6 t7 t8 t9 a0 aJ,e=.returned (.agg #[t0,t1,t2,t3,t4,t5,t6,t7,t8,t9,a0,aJ])∧IsRat w' 516 t0 t1 t2 t3 ((0+r0*v1+r1*v2+r2*v3)+r9)∧IsRat w' 516 t4 t5 t6 t7 ((0+r3*v1+r4*v2+r5*v3)+ae)∧IsRat w' 516 t8 t9 a0 aJ ((0+r6*v1+r7*v2+r8*v3)+ad))∧Gr w w':=by
 refine (zf8 sysN zV1 (runA r0 r1 r2 r3 r4 r5 r6 r7 r8 r9 ae ad v1 v2 v3) (X:=zU0 [c0,c1,c2,c3,c4,c5,c6,c7,c8,c9,aQ,ba,a3,ap,a1,aL,aX,ay,ar,a6,bc,bb,ai,aO,aK,az,aG,al,aC,aS,aI,aP,aR,aV,aA,ak,aw,aW,aF,a5,aT,aU,a7,au,a8,aN,aD,aH,a2,av,aB,aj,aE,ax,aq,a4,a9,aY,aM,aZ]) ⟨ht,hm⟩ (okF2 (zm6 ⟨⟨rfl,h0⟩,⟨rfl,h0⟩,⟨rfl,h0⟩,⟨rfl,h0⟩,⟨rfl,h1⟩,⟨rfl,h1⟩,⟨rfl,h1⟩,⟨rfl,h1⟩,⟨rfl,h2⟩,⟨rfl,h2⟩,⟨rfl,h2⟩,⟨rfl,h2⟩,⟨rfl,h3⟩,⟨rfl,h3⟩,⟨rfl,h3⟩,⟨rfl,h3⟩,⟨rfl,h4⟩,⟨rfl,h4⟩,⟨rfl,h4⟩,⟨rfl,h4⟩,⟨rfl,h5⟩,⟨rfl,h5⟩,⟨rfl,h5⟩,⟨rfl,h5⟩,⟨rfl,h6⟩,⟨rfl,h6⟩,⟨rfl,h6⟩,⟨rfl,h6⟩,⟨rfl,h7⟩,⟨rfl,h7⟩,⟨rfl,h7⟩,⟨rfl,h7⟩,⟨rfl,h8⟩,⟨rfl,h8⟩,⟨rfl,h8⟩,⟨rfl,h8⟩,⟨rfl,h9⟩,⟨rfl,h9⟩,⟨rfl,h9⟩,⟨rfl,h9⟩,⟨rfl,ac⟩,⟨rfl,ac⟩,⟨rfl,ac⟩,⟨rfl,ac⟩,⟨rfl,ab⟩,⟨rfl,ab⟩,⟨rfl,ab⟩,⟨rfl,ab⟩,trivial⟩) (zm6 ⟨⟨rfl,aa⟩,⟨rfl,aa⟩,⟨rfl,aa⟩,⟨rfl,aa⟩,⟨rfl,ah⟩,⟨rfl,ah⟩,⟨rfl,ah⟩,⟨rfl,ah⟩,⟨rfl,af⟩,⟨rfl,af⟩,⟨rfl,af⟩,⟨rfl,af⟩,trivial⟩)) (Post:=fun v=>zH1 v=some [(516,0+r0*v1+r1*v2+r2*v3+r9),(516,0+r3*v1+r4*v2+r5*v3+ae),(516,0+r6*v1+r7*v2+r8*v3+ad)]) rfl).mono fun e w' he=>?_
 obtain ⟨v,X',n,rfl,g,_,hv,hr⟩:=he
 obtain ⟨vs,e1,h⟩:=zp4 hr hv
 obtain ⟨t0,t1,t2,t3,u0,rfl,h0,g0⟩:=h.cons
 obtain ⟨t4,t5,t6,t7,u1,rfl,h1,g1⟩:=g0.cons
 obtain ⟨t8,t9,a0,aJ,u2,rfl,h2,g2⟩:=g1.cons
 obtain rfl:=g2.nil
 exact ⟨⟨_,_,_,_,_,_,_,_,_,_,_,_,by rw [e1],h0,h1,h2⟩,g⟩
def EQ4 (_:World) (z:Int × Int × Int × Int) (vs:List Value):Prop:=vs=[.int .i64 z.1,.int .i64 z.2.1,.int .i64 z.2.2.1,.int .i64 z.2.2.2]
theorem za8:Stab EQ4 []:=fun _ _ _ _ _ h=>h
def qAt (n:Nat):Int × Int × Int × Int:=((n:Int)/27 - 1,(n:Int)/9 % 3 - 1,(n:Int)/3 % 3 - 1,(n:Int) % 3 - 1)
def qSq (z:Int × Int × Int × Int):Int:=0+z.1*z.1+z.2.1*z.2.1+z.2.2.1*z.2.2.1+z.2.2.2*z.2.2.2
def qOk (z:Int × Int × Int × Int):Bool:=(qSq z !=3)&&(chk z.1 z.2.1 z.2.2.1 z.2.2.2 0==0)
def zE7 (n:Nat):List (Int × Int × Int × Int):=((List.range n).map qAt).filter qOk
theorem yp4 {n:Nat} {z:Int × Int × Int × Int} (hz:qAt n=z) (h:qOk z=true):zE7 (n+1)=zE7 n++[z]:=by
 unfold zE7
 rw [List.range_succ,List.map_append,List.filter_append,List.map_cons,List.map_nil,hz]
 simp [h]
theorem yc8 {n:Nat} {z:Int × Int × Int × Int} (hz:qAt n=z) (h:qOk z=false):zE7 (n+1)=zE7 n:=by
 unfold zE7
 rw [List.range_succ,List.map_append,List.filter_append,List.map_cons,List.map_nil,hz]
 simp [h]
theorem yp5 (n:Nat):(zE7 n).length≤n:=by
 unfold zE7
 refine Nat.le_trans (List.length_filter_le ..) ?_
 simp
def quarters:List (Int × Int × Int × Int):=zE7 81
theorem zb2:quarters.length=24:=by decide+kernel
theorem mcheck0 {q0 q1 q2 q3:Int} (j0:-12≤q0∧q0≤12) (j1:-12≤q1∧q1≤12) (j2:-12≤q2∧q2≤12) (j3:-12≤q3∧q3≤12) (w:World) (hm:Mx w):
  Calls Tryz.prog 15 #[.agg #[.int .i64 q0,.int .i64 q1,.int .i64 q2,.int .i64 q3,.string ⟨([48]:List UInt8).toArray⟩,.string ⟨([48]:List UInt8).toArray⟩,.string ⟨([48]:List UInt8).toArray⟩]] w fun e w'=>e=.returned (.int .i64 (chk q0 q1 q2 q3 0))∧Gr w w':=by
 have z:RS 64 (0:Rat):=⟨Nat.two_pow_pos _,Nat.one_lt_two_pow (by decide)⟩
 have:=ym0 j0 j1 j2 j3 0 0 0 z z z w hm
 rw [zT5] at this
 exact this
set_option maxRecDepth 100000 in
set_option maxHeartbeats 4000000 in
theorem zP9 (w:World) (hm:Mx w):
    Calls Tryz.prog 50 #[] w fun e w'=>(∃ v,e=.returned v∧Sl EQ4 22 4 w' v quarters)∧Gr w w':=by
 go_enter Tryz.func50,Tryz.ntmps50
 have hB:=Gr.refl w
 refine wp_seq_k (fun K1 k1=>?_)
 refine rg [0] ?_
 refine sv 0 (.slice none 0 0) ?_
 refine za0 ?_
 refine k1 _ _ ?_
 try clear k1 K1
 refine wp_seq_k (fun K2 k2=>?_)
 refine rg [0] ?_
 refine sv 1 (.slice none 0 0) ?_
 refine za0 ?_
 refine k2 _ _ ?_
 try clear k2 K2
 refine wp_seq_k (fun K3 k3=>?_)
 refine wp_seq_k (fun K4 k4=>?_)
 refine rg [0] ?_
 refine sv 7 (.int .i64 0) ?_
 refine za0 ?_
 refine k4 _ _ ?_
 try clear k4 K4
 refine wp_block ?_
 refine zg2 (a:=⟨List.toArray ?l5,[]⟩) (fun n a w'=>∃ (v:Value) (nn:Nat) (u5:Nat→Value),81 - nn=n∧a=⟨[.slice none 0 0,v,(u5 2),(u5 3),(u5 4),undef,(u5 6),(.int .i64 ((nn:Int))),(u5 8),(u5 9),(u5 10),(u5 11),(u5 12),(u5 13),(u5 14),(u5 15),(u5 16),(u5 17),(u5 18),(u5 19),(u5 20),(u5 21),(u5 22),(u5 23),(u5 24),(u5 25),(u5 26),(u5 27),(u5 28),(u5 29),(u5 30),(u5 31),(u5 32),(u5 33),(u5 34),(u5 35),(u5 36),(u5 37),(u5 38),(u5 39),(u5 40),(u5 41),(u5 42),(u5 43),(u5 44),(u5 45),(u5 46),(u5 47),(u5 48),undef].toArray,[]⟩∧nn≤81∧Ow EQ4 22 4 w' w.heap.size v (zE7 nn)∧Gr w w') (81 - 0) ?_ ?_
 ·exact ⟨_,0,(fun i=>List.getD ?l5 i undef),rfl,rfl,(by omega),(Ow.nil _ _ _ _ _),hB⟩
 rintro n5 a5 w5 ⟨v,nn,u5,rfl,rfl,hnn,hv,hB⟩ K5 k5
 refine wp_seq_k (fun K6 k6=>?_)
 refine rg [0] ?_
 refine sv 8 (.bool (decide ((nn:Int)<(81:Int)))) ?_
 refine za0 ?_
 refine k6 _ _ ?_
 try clear k6 K6
 refine wp_seq_k (fun K7 k7=>?_)
 refine wp_cond_split (t:=decide ((nn:Int)<(81:Int))) rfl (fun ak=>?_) (fun ak=>?_)
 ·have hlt:nn<81:=by have:=of_decide_eq_true ak;omega
  refine wp_skip ?_
  refine k7 _ _ ?_
  try clear k7 K7
  refine wp_seq_k (fun K9 k9=>?_)
  refine wp_block ?_
  refine wp_seq_k (fun a0 aC=>?_)
  refine rg [0,1] ?_
  refine sv 9 (.int .i64 ((nn:Int))) ?_
  refine sv 2 (.int .i64 ((nn:Int))) ?_
  refine za0 ?_
  refine aC _ _ ?_
  try clear aC a0
  refine wp_seq_k (fun bo aG=>?_)
  refine rg [0,1,2,3,4,5,6,7,8,9,10,11,12,13,14,15,16] ?_
  refine sv 10 (.int .i64 ((nn:Int))) ?_
  refine sw 11 (.int .i64 (((nn:Int)/27))) rfl (ys7 3 3 _ _ (nn:Int) 27 ((nn:Int)/27) rfl rfl rfl (Int.tdiv_eq_ediv_of_nonneg (by omega)) (by omega) (by omega) (by omega)) ?_
  refine sw 12 (.int .i64 ((((nn:Int)/27) - 1))) rfl (RunV.int (x:=IntKind.i64.wrap ((((nn:Int)/27) - 1))) (y:=(((nn:Int)/27) - 1)) (rvk (by kernel_rfl)) (by first | rfl | (rw [IntKind.wrap_i64];omega))) ?_
  refine sv 13 (.int .i64 ((nn:Int))) ?_
  refine sw 14 (.int .i64 (((nn:Int)/9))) rfl (ys7 3 3 _ _ (nn:Int) 9 ((nn:Int)/9) rfl rfl rfl (Int.tdiv_eq_ediv_of_nonneg (by omega)) (by omega) (by omega) (by omega)) ?_
  refine sw 15 (.int .i64 ((((nn:Int)/9) % 3))) rfl (RunV.int (x:=Int.tmod (((nn:Int)/9)) 3) (y:=((nn:Int)/9) % 3) (rvk (by kernel_rfl)) (by rw [Int.tmod_eq_emod_of_nonneg (by first | omega | exact Int.natCast_nonneg _)])) ?_
  refine sw 16 (.int .i64 (((((nn:Int)/9) % 3) - 1))) rfl (RunV.int (x:=IntKind.i64.wrap (((((nn:Int)/9) % 3) - 1))) (y:=((((nn:Int)/9) % 3) - 1)) (rvk (by kernel_rfl)) (by first | rfl | (rw [IntKind.wrap_i64];omega))) ?_
  refine sv 17 (.int .i64 ((nn:Int))) ?_
  refine sw 18 (.int .i64 (((nn:Int)/3))) rfl (ys7 3 3 _ _ (nn:Int) 3 ((nn:Int)/3) rfl rfl rfl (Int.tdiv_eq_ediv_of_nonneg (by omega)) (by omega) (by omega) (by omega)) ?_
  refine sw 19 (.int .i64 ((((nn:Int)/3) % 3))) rfl (RunV.int (x:=Int.tmod (((nn:Int)/3)) 3) (y:=((nn:Int)/3) % 3) (rvk (by kernel_rfl)) (by rw [Int.tmod_eq_emod_of_nonneg (by first | omega | exact Int.natCast_nonneg _)])) ?_
  refine sw 20 (.int .i64 (((((nn:Int)/3) % 3) - 1))) rfl (RunV.int (x:=IntKind.i64.wrap (((((nn:Int)/3) % 3) - 1))) (y:=((((nn:Int)/3) % 3) - 1)) (rvk (by kernel_rfl)) (by first | rfl | (rw [IntKind.wrap_i64];omega))) ?_
  refine sv 21 (.int .i64 ((nn:Int))) ?_
  refine sw 22 (.int .i64 (((nn:Int) % 3))) rfl (RunV.int (x:=Int.tmod ((nn:Int)) 3) (y:=(nn:Int) % 3) (rvk (by kernel_rfl)) (by rw [Int.tmod_eq_emod_of_nonneg (by first | omega | exact Int.natCast_nonneg _)])) ?_
  refine sw 23 (.int .i64 ((((nn:Int) % 3) - 1))) rfl (RunV.int (x:=IntKind.i64.wrap ((((nn:Int) % 3) - 1))) (y:=(((nn:Int) % 3) - 1)) (rvk (by kernel_rfl)) (by first | rfl | (rw [IntKind.wrap_i64];omega))) ?_
  refine sv 24 (.agg #[(.int .i64 ((((nn:Int)/27) - 1))),(.int .i64 (((((nn:Int)/9) % 3) - 1))),(.int .i64 (((((nn:Int)/3) % 3) - 1))),(.int .i64 ((((nn:Int) % 3) - 1)))]) ?_
  refine se ?_
  refine ea 22 #[.int .i64 0,.int .i64 0,.int .i64 0,.int .i64 0] 3 hB fun bD bv ap ac aY q12 hB=>?_
  have aa:=hv.ne aY
  simp only [p3,p4]
  refine se ?_
  have ad:=ac
  refine es 22 0 (.agg #[(.int .i64 ((((nn:Int)/27) - 1))),(.int .i64 (((((nn:Int)/9) % 3) - 1))),(.int .i64 (((((nn:Int)/3) % 3) - 1))),(.int .i64 ((((nn:Int) % 3) - 1)))]) [(.int .i64 ((((nn:Int)/27) - 1))),(.int .i64 (((((nn:Int)/9) % 3) - 1))),(.int .i64 (((((nn:Int)/3) % 3) - 1))),(.int .i64 ((((nn:Int) % 3) - 1)))] #[(.int .i64 ((((nn:Int)/27) - 1))),(.int .i64 (((((nn:Int)/9) % 3) - 1))),(.int .i64 (((((nn:Int)/3) % 3) - 1))),(.int .i64 ((((nn:Int) % 3) - 1)))] ac hB q12 ⟨rfl,rfl,rfl,rfl,trivial⟩ fun bH ab a3 ac hB=>?_
  refine za0 ?_
  refine aG _ _ ?_
  try clear aG bo
  refine wp_seq_k (fun a8 aI=>?_)
  generalize bh:((((nn:Int)/27) - 1):Int)=qx0 at*
  generalize a2:(((((nn:Int)/9) % 3) - 1):Int)=qx1 at*
  generalize bj:(((((nn:Int)/3) % 3) - 1):Int)=qx2 at*
  generalize bq:((((nn:Int) % 3) - 1):Int)=qx3 at*
  have bw:-1≤qx0∧qx0≤1:=by omega
  have bB:=zk0 (a:=qx0) (b:=1) (by omega) (by omega)
  have bu:-1≤qx1∧qx1≤1:=by omega
  have bA:=zk0 (a:=qx1) (b:=1) (by omega) (by omega)
  have bF:-1≤qx2∧qx2≤1:=by omega
  have bG:=zk0 (a:=qx2) (b:=1) (by omega) (by omega)
  have bJ:-1≤qx3∧qx3≤1:=by omega
  have bC:=zk0 (a:=qx3) (b:=1) (by omega) (by omega)
  have hqa:qAt nn=(qx0,qx1,qx2,qx3):=by unfold qAt;rw [bh,a2,bj,bq]
  refine rg [0] ?_
  refine sv 4 (.int .i64 0) ?_
  refine za0 ?_
  refine aI _ _ ?_
  try clear aI a8
  refine wp_seq_k (fun aV aB=>?_)
  refine wp_seq_k (fun bp av=>?_)
  refine rg [0,1] ?_
  refine sw 25 (.agg #[(.int .i64 (qx0)),(.int .i64 (qx1)),(.int .i64 (qx2)),(.int .i64 (qx3))]) rfl (rl 22 0 [(.int .i64 (qx0)),(.int .i64 (qx1)),(.int .i64 (qx2)),(.int .i64 (qx3))] ac) ?_
  refine sv 26 (.int .i64 0) ?_
  refine za0 ?_
  refine av _ _ ?_
  try clear av bp
  refine wp_block ?_
  refine wp_loop_rounds 6 ?_
  show Code.wp _ _ _ _ _
  refine wp_seq_k (fun a9 aq=>?_)
  refine rg [0] ?_
  refine sv 27 (.bool true) ?_
  refine za0 ?_
  refine aq _ _ ?_
  try clear aq a9
  refine wp_seq_k (fun bi aM=>?_)
  refine wp_cond_true rfl ?_
  refine wp_skip ?_
  refine aM _ _ ?_
  try clear aM bi
  refine wp_seq_k (fun bk aQ=>?_)
  refine wp_block ?_
  refine wp_seq_k (fun a1 ax=>?_)
  refine rg [0,1] ?_
  refine sv 28 (.int .i64 (qx0)) ?_
  refine sv 6 (.int .i64 (qx0)) ?_
  refine za0 ?_
  refine ax _ _ ?_
  try clear ax a1
  refine rg [0,1,2,3,4,5] ?_
  refine sv 29 (.int .i64 0) ?_
  refine sv 30 (.int .i64 (qx0)) ?_
  refine sv 31 (.int .i64 (qx0)) ?_
  refine sw 32 (.int .i64 ((qx0*qx0))) rfl (RunV.int (x:=IntKind.i64.wrap ((qx0*qx0))) (y:=(qx0*qx0)) (rvk (by kernel_rfl)) (by first | rfl | (rw [IntKind.wrap_i64];omega))) ?_
  refine sw 33 (.int .i64 ((0+(qx0*qx0)))) rfl (RunV.int (x:=IntKind.i64.wrap ((0+(qx0*qx0)))) (y:=(0+(qx0*qx0))) (rvk (by kernel_rfl)) (by first | rfl | (rw [IntKind.wrap_i64];omega))) ?_
  refine sv 4 (.int .i64 ((0+(qx0*qx0)))) ?_
  refine za0 ?_
  refine aQ _ _ ?_
  try clear aQ bk
  refine rg [0,1] ?_
  refine sv 34 (.int .i64 1) ?_
  refine sv 26 (.int .i64 1) ?_
  refine za0 ?_
  show Code.rounds _ _ _ _ _ _
  show Code.wp _ _ _ _ _
  refine wp_seq_k (fun a7 au=>?_)
  refine rg [0] ?_
  refine sv 27 (.bool true) ?_
  refine za0 ?_
  refine au _ _ ?_
  try clear au a7
  refine wp_seq_k (fun bc aE=>?_)
  refine wp_cond_true rfl ?_
  refine wp_skip ?_
  refine aE _ _ ?_
  try clear aE bc
  refine wp_seq_k (fun bg aK=>?_)
  refine wp_block ?_
  refine wp_seq_k (fun a4 aH=>?_)
  refine rg [0,1] ?_
  refine sv 28 (.int .i64 (qx1)) ?_
  refine sv 6 (.int .i64 (qx1)) ?_
  refine za0 ?_
  refine aH _ _ ?_
  try clear aH a4
  refine rg [0,1,2,3,4,5] ?_
  refine sv 29 (.int .i64 ((0+(qx0*qx0)))) ?_
  refine sv 30 (.int .i64 (qx1)) ?_
  refine sv 31 (.int .i64 (qx1)) ?_
  refine sw 32 (.int .i64 ((qx1*qx1))) rfl (RunV.int (x:=IntKind.i64.wrap ((qx1*qx1))) (y:=(qx1*qx1)) (rvk (by kernel_rfl)) (by first | rfl | (rw [IntKind.wrap_i64];omega))) ?_
  refine sw 33 (.int .i64 (((0+(qx0*qx0))+(qx1*qx1)))) rfl (RunV.int (x:=IntKind.i64.wrap (((0+(qx0*qx0))+(qx1*qx1)))) (y:=((0+(qx0*qx0))+(qx1*qx1))) (rvk (by kernel_rfl)) (by first | rfl | (rw [IntKind.wrap_i64];omega))) ?_
  refine sv 4 (.int .i64 (((0+(qx0*qx0))+(qx1*qx1)))) ?_
  refine za0 ?_
  refine aK _ _ ?_
  try clear aK bg
  refine rg [0,1] ?_
  refine sv 34 (.int .i64 2) ?_
  refine sv 26 (.int .i64 2) ?_
  refine za0 ?_
  show Code.rounds _ _ _ _ _ _
  show Code.wp _ _ _ _ _
  refine wp_seq_k (fun bd aF=>?_)
  refine rg [0] ?_
  refine sv 27 (.bool true) ?_
  refine za0 ?_
  refine aF _ _ ?_
  try clear aF bd
  refine wp_seq_k (fun bm aO=>?_)
  refine wp_cond_true rfl ?_
  refine wp_skip ?_
  refine aO _ _ ?_
  try clear aO bm
  refine wp_seq_k (fun aZ ay=>?_)
  refine wp_block ?_
  refine wp_seq_k (fun bb aJ=>?_)
  refine rg [0,1] ?_
  refine sv 28 (.int .i64 (qx2)) ?_
  refine sv 6 (.int .i64 (qx2)) ?_
  refine za0 ?_
  refine aJ _ _ ?_
  try clear aJ bb
  refine rg [0,1,2,3,4,5] ?_
  refine sv 29 (.int .i64 (((0+(qx0*qx0))+(qx1*qx1)))) ?_
  refine sv 30 (.int .i64 (qx2)) ?_
  refine sv 31 (.int .i64 (qx2)) ?_
  refine sw 32 (.int .i64 ((qx2*qx2))) rfl (RunV.int (x:=IntKind.i64.wrap ((qx2*qx2))) (y:=(qx2*qx2)) (rvk (by kernel_rfl)) (by first | rfl | (rw [IntKind.wrap_i64];omega))) ?_
  refine sw 33 (.int .i64 ((((0+(qx0*qx0))+(qx1*qx1))+(qx2*qx2)))) rfl (RunV.int (x:=IntKind.i64.wrap ((((0+(qx0*qx0))+(qx1*qx1))+(qx2*qx2)))) (y:=(((0+(qx0*qx0))+(qx1*qx1))+(qx2*qx2))) (rvk (by kernel_rfl)) (by first | rfl | (rw [IntKind.wrap_i64];omega))) ?_
  refine sv 4 (.int .i64 ((((0+(qx0*qx0))+(qx1*qx1))+(qx2*qx2)))) ?_
  refine za0 ?_
  refine ay _ _ ?_
  try clear ay aZ
  refine rg [0,1] ?_
  refine sv 34 (.int .i64 3) ?_
  refine sv 26 (.int .i64 3) ?_
  refine za0 ?_
  show Code.rounds _ _ _ _ _ _
  show Code.wp _ _ _ _ _
  refine wp_seq_k (fun aX aw=>?_)
  refine rg [0] ?_
  refine sv 27 (.bool true) ?_
  refine za0 ?_
  refine aw _ _ ?_
  try clear aw aX
  refine wp_seq_k (fun aS aA=>?_)
  refine wp_cond_true rfl ?_
  refine wp_skip ?_
  refine aA _ _ ?_
  try clear aA aS
  refine wp_seq_k (fun a6 aP=>?_)
  refine wp_block ?_
  refine wp_seq_k (fun aU ar=>?_)
  refine rg [0,1] ?_
  refine sv 28 (.int .i64 (qx3)) ?_
  refine sv 6 (.int .i64 (qx3)) ?_
  refine za0 ?_
  refine ar _ _ ?_
  try clear ar aU
  refine rg [0,1,2,3,4,5] ?_
  refine sv 29 (.int .i64 ((((0+(qx0*qx0))+(qx1*qx1))+(qx2*qx2)))) ?_
  refine sv 30 (.int .i64 (qx3)) ?_
  refine sv 31 (.int .i64 (qx3)) ?_
  refine sw 32 (.int .i64 ((qx3*qx3))) rfl (RunV.int (x:=IntKind.i64.wrap ((qx3*qx3))) (y:=(qx3*qx3)) (rvk (by kernel_rfl)) (by first | rfl | (rw [IntKind.wrap_i64];omega))) ?_
  refine sw 33 (.int .i64 (((((0+(qx0*qx0))+(qx1*qx1))+(qx2*qx2))+(qx3*qx3)))) rfl (RunV.int (x:=IntKind.i64.wrap (((((0+(qx0*qx0))+(qx1*qx1))+(qx2*qx2))+(qx3*qx3)))) (y:=((((0+(qx0*qx0))+(qx1*qx1))+(qx2*qx2))+(qx3*qx3))) (rvk (by kernel_rfl)) (by first | rfl | (rw [IntKind.wrap_i64];omega))) ?_
  refine sv 4 (.int .i64 (((((0+(qx0*qx0))+(qx1*qx1))+(qx2*qx2))+(qx3*qx3)))) ?_
  refine za0 ?_
  refine aP _ _ ?_
  try clear aP a6
  refine rg [0,1] ?_
  refine sv 34 (.int .i64 4) ?_
  refine sv 26 (.int .i64 4) ?_
  refine za0 ?_
  show Code.rounds _ _ _ _ _ _
  show Code.wp _ _ _ _ _
  refine wp_seq_k (fun aW aD=>?_)
  refine rg [0] ?_
  refine sv 27 (.bool false) ?_
  refine za0 ?_
  refine aD _ _ ?_
  try clear aD aW
  refine wp_seq_k (fun bL bx=>?_)
  refine wp_cond_false rfl ?_
  refine wp_exit ?_
  simp only [Exit.then,Exit.inBlock,↓reduceIte]
  refine aB _ _ ?_
  try clear aB aV
  refine wp_seq_k (fun aR ai=>?_)
  refine rg [0,1,2,3,4,5,6,7,8] ?_
  refine sv 35 (.int .i64 (((((0+(qx0*qx0))+(qx1*qx1))+(qx2*qx2))+(qx3*qx3)))) ?_
  refine sv 36 (.bool ((((((0+(qx0*qx0))+(qx1*qx1))+(qx2*qx2))+(qx3*qx3)) !=(3:Int)))) ?_
  rcases Bool.eq_false_or_eq_true ((((((0+(qx0*qx0))+(qx1*qx1))+(qx2*qx2))+(qx3*qx3)) !=(3:Int))) with hb37 | hb37
  ·refine sw 37 (.bool true) rfl (RunV.bool (x:=(((((0+(qx0*qx0))+(qx1*qx1))+(qx2*qx2))+(qx3*qx3)) !=(3:Int))) (rvk (by kernel_rfl)) hb37) ?_
   refine sw 38 (.agg #[(.int .i64 (qx0)),(.int .i64 (qx1)),(.int .i64 (qx2)),(.int .i64 (qx3))]) rfl (rl 22 0 [(.int .i64 (qx0)),(.int .i64 (qx1)),(.int .i64 (qx2)),(.int .i64 (qx3))] ac) ?_
   refine sv 39 (.agg #[(.string ⟨([48]:List UInt8).toArray⟩),(.string ⟨([48]:List UInt8).toArray⟩),(.string ⟨([48]:List UInt8).toArray⟩)]) ?_
   refine sv 40 (.agg #[(.int .i64 (qx0)),(.int .i64 (qx1)),(.int .i64 (qx2)),(.int .i64 (qx3)),(.string ⟨([48]:List UInt8).toArray⟩),(.string ⟨([48]:List UInt8).toArray⟩),(.string ⟨([48]:List UInt8).toArray⟩)]) ?_
   refine se ?_
   refine ec 41 (mcheck0 (q0:=qx0) (q1:=qx1) (q2:=qx2) (q3:=qx3) (by omega) (by omega) (by omega) (by omega) _ (hm.gr hB)) ?_
   rintro bM bK ⟨rfl,ah⟩
   refine ⟨_,rfl,?_⟩
   replace hB:=hB.trans ah
   simp only [p3,p4]
   refine sv 42 (.bool ((chk qx0 qx1 qx2 qx3 0==(0:Int)))) ?_
   refine sv 43 (.bool ((chk qx0 qx1 qx2 qx3 0==(0:Int)))) ?_
   refine za0 ?_
   refine ai _ _ ?_
   try clear ai aR
   refine wp_cond_split (t:=(chk qx0 qx1 qx2 qx3 0==(0:Int))) rfl (fun ae=>?_) (fun ae=>?_)
   ·refine rg [0,1,2,3,4] ?_
    refine sv 44 v ?_
    replace ac:=ac.gr ah
    refine sw 45 (.agg #[(.int .i64 (qx0)),(.int .i64 (qx1)),(.int .i64 (qx2)),(.int .i64 (qx3))]) rfl (rl 22 0 [(.int .i64 (qx0)),(.int .i64 (qx1)),(.int .i64 (qx2)),(.int .i64 (qx3))] ac) ?_
    refine se ?_
    refine yb5 22 1 #[(.int .i64 (qx0)),(.int .i64 (qx1)),(.int .i64 (qx2)),(.int .i64 (qx3))] (some 46) rfl (fun _=>by kernel_rfl) (fun bn bE aL bf ba=>?_)
    replace hv:=((hv.gr za8 ap).st za8 ab aa (ab.kts ad (by decide))).gr za8 ah
    have af:=hv.ne ba
    replace hB:=hB.trans aL
    simp only [zB4,p3,p4]
    refine se ?_
    replace hv:=hv.gr za8 aL
    refine eff_app za8 _ _ 97 22 w.heap.size (.agg #[.int .i64 0,.int .i64 0,.int .i64 0,.int .i64 0]) v (zE7 nn) bn [(.int .i64 (qx0)),(.int .i64 (qx1)),(.int .i64 (qx2)),(.int .i64 (qx3))] ((qx0,qx1,qx2,qx3):Int × Int × Int × Int) 4 1 (some 47) 32 rfl rfl rfl rfl hv bf ⟨rfl,rfl,rfl,rfl,trivial⟩ rfl rfl w hB (Nat.le_refl _) (Below.size hB) (by have:=yp5 nn;simp;omega) (by decide) (by kernel_rfl) (by kernel_rfl) (by decide) (by decide) (fun aN bz al aT aj=>?_)
    replace hB:=aj
    simp only [zB4,p3,p4]
    refine sv 1 aN ?_
    refine za0 ?_
    refine k9 _ _ ?_
    try clear k9 K9
    refine rg [0,1] ?_
    refine sw 48 (.int .i64 (((nn:Int)+1))) rfl (RunV.int (x:=IntKind.i64.wrap (((nn:Int)+1))) (y:=((nn:Int)+1)) (rvk (by kernel_rfl)) (by first | rfl | (rw [IntKind.wrap_i64];omega))) ?_
    refine sv 7 (.int .i64 (((nn:Int)+1))) ?_
    refine za0 ?_
    refine k5 (81 - (nn+1)) ⟨List.toArray ?l42,[]⟩ _ (by omega) ?_
    exact ⟨aN,nn+1,(fun i=>List.getD ?l42 i undef),rfl,rfl,(by omega),(by rw [yp4 hqa (by unfold qOk qSq;rw [Bool.and_eq_true];exact ⟨hb37,ae⟩)];exact al),hB⟩
   ·refine wp_skip ?_
    refine k9 _ _ ?_
    try clear k9 K9
    refine rg [0,1] ?_
    refine sw 48 (.int .i64 (((nn:Int)+1))) rfl (RunV.int (x:=IntKind.i64.wrap (((nn:Int)+1))) (y:=((nn:Int)+1)) (rvk (by kernel_rfl)) (by first | rfl | (rw [IntKind.wrap_i64];omega))) ?_
    refine sv 7 (.int .i64 (((nn:Int)+1))) ?_
    refine za0 ?_
    replace hv:=((hv.gr za8 ap).st za8 ab aa (ab.kts ad (by decide))).gr za8 ah
    refine k5 (81 - (nn+1)) ⟨List.toArray ?l43,[]⟩ _ (by omega) ?_
    exact ⟨v,nn+1,(fun i=>List.getD ?l43 i undef),rfl,rfl,(by omega),(by rw [yc8 hqa (by unfold qOk qSq;rw [hb37,ae,Bool.and_false])];exact hv),hB⟩
  ·refine sw 37 (.bool false) rfl (RunV.bool (x:=(((((0+(qx0*qx0))+(qx1*qx1))+(qx2*qx2))+(qx3*qx3)) !=(3:Int))) (rvk (by kernel_rfl)) hb37) ?_
   refine ss 38 ?_
   refine ss 39 ?_
   refine ss 40 ?_
   refine ss 41 ?_
   refine ss 42 ?_
   refine sv 43 (.bool false) ?_
   refine za0 ?_
   refine ai _ _ ?_
   try clear ai aR
   refine wp_cond_false rfl ?_
   refine wp_skip ?_
   refine k9 _ _ ?_
   try clear k9 K9
   refine rg [0,1] ?_
   refine sw 48 (.int .i64 (((nn:Int)+1))) rfl (RunV.int (x:=IntKind.i64.wrap (((nn:Int)+1))) (y:=((nn:Int)+1)) (rvk (by kernel_rfl)) (by first | rfl | (rw [IntKind.wrap_i64];omega))) ?_
   refine sv 7 (.int .i64 (((nn:Int)+1))) ?_
   refine za0 ?_
   replace hv:=(hv.gr za8 ap).st za8 ab aa (ab.kts ad (by decide))
   refine k5 (81 - (nn+1)) ⟨List.toArray ?l44,[]⟩ _ (by omega) ?_
   exact ⟨v,nn+1,(fun i=>List.getD ?l44 i undef),rfl,rfl,(by omega),(by rw [yc8 hqa (by unfold qOk qSq;rw [hb37,Bool.false_and])];exact hv),hB⟩
 ·have hge:nn=81:=by have:=of_decide_eq_false ak;omega
  refine wp_exit ?_
  simp only [Exit.then,Exit.inBlock,↓reduceIte]
  refine k3 _ _ ?_
  try clear k3 K3
  refine wp_seq_k (fun bt az=>?_)
  refine rg [0,1] ?_
  refine sv 49 v ?_
  refine sv 0 v ?_
  refine za0 ?_
  refine az _ _ ?_
  try clear az bt
  refine wp_ret ?_
  refine bodyPost_ret (v:=v) (za7 rfl rfl) rfl ⟨?_,hB⟩
  subst hge
  exact ⟨_,rfl,(hv.sl)⟩

set_option maxRecDepth 100000 in
set_option maxHeartbeats 1000000 in
theorem zI1 (w:World):
    Calls Tryz.prog 20 #[] w fun e w'=>e=.returned (.agg #[.string ⟨([48]:List UInt8).toArray⟩,.string ⟨([48]:List UInt8).toArray⟩,.string ⟨([48]:List UInt8).toArray⟩])∧Gr w w':=by
 go_enter Tryz.func20,Tryz.ntmps20
 have hB:=Gr.refl w
 refine wp_seq_k (fun K1 k1=>?_)
 refine rg [0] ?_
 refine se ?_
 refine ea 25 #[(.string ⟨([]:List UInt8).toArray⟩),(.string ⟨([]:List UInt8).toArray⟩),(.string ⟨([]:List UInt8).toArray⟩)] 0 hB fun b2 w2 g2 L2 o2 q2 hB=>?_
 simp only [p3]
 refine za0 ?_
 refine k1 _ _ ?_
 try clear k1 K1
 refine wp_seq_k (fun K3 k3=>?_)
 refine rg [0,1] ?_
 refine sv 1 (.agg #[(.string ⟨([48]:List UInt8).toArray⟩),(.string ⟨([48]:List UInt8).toArray⟩),(.string ⟨([48]:List UInt8).toArray⟩)]) ?_
 refine se ?_
 refine es 25 0 (.agg #[(.string ⟨([48]:List UInt8).toArray⟩),(.string ⟨([48]:List UInt8).toArray⟩),(.string ⟨([48]:List UInt8).toArray⟩)]) [(.string ⟨([48]:List UInt8).toArray⟩),(.string ⟨([48]:List UInt8).toArray⟩),(.string ⟨([48]:List UInt8).toArray⟩)] #[(.string ⟨([48]:List UInt8).toArray⟩),(.string ⟨([48]:List UInt8).toArray⟩),(.string ⟨([48]:List UInt8).toArray⟩)] L2 hB q2 ⟨rfl,rfl,rfl,trivial⟩ fun w4 aa ab L2 hB=>?_
 refine za0 ?_
 refine k3 _ _ ?_
 try clear k3 K3
 refine wp_ret ?_
 refine bodyPost_ret (v:=(.agg #[(.string ⟨([48]:List UInt8).toArray⟩),(.string ⟨([48]:List UInt8).toArray⟩),(.string ⟨([48]:List UInt8).toArray⟩)])) (zb0 _ _ _ rfl rfl L2 (by kernel_rfl)) rfl ⟨?_,hB⟩
 exact rfl

theorem lawK70:sEq [(za3 ((0:Rat))),(za3 ((1:Rat))),(za3 ((0:Rat)))] [([48]:List UInt8),([49]:List UInt8),([48]:List UInt8)]=true:=ym9 (zn7 (by kernel_rfl) (zg9 0 (by kernel_rfl) (by decide))) (zn7 (by kernel_rfl) (zg9 1 (by kernel_rfl) (by decide))) (zn7 (by kernel_rfl) (zg9 0 (by kernel_rfl) (by decide)))
theorem lawK71:sEq [(za3 ((0:Rat))),(za3 ((3/5:Rat))),(za3 ((-4/5:Rat)))] [([48]:List UInt8),([51,47,53]:List UInt8),([45,52,47,53]:List UInt8)]=true:=ym9 (zn7 (by kernel_rfl) (zg9 0 (by kernel_rfl) (by decide))) (zQ7 (by kernel_rfl) (zg9 3 (by kernel_rfl) (by decide)) (zg9 5 (by kernel_rfl) (by decide)) rfl) (zQ7 (by kernel_rfl) (yn5 4 (by kernel_rfl) (by decide) (by decide)) (zg9 5 (by kernel_rfl) (by decide)) rfl)
theorem lawK72:((((quarters).length:Int)==(24:Int)))=true:=by decide+kernel
theorem lawK73:((((quarters).getD 1 (0,0,0,0)).1==0&&((quarters).getD 1 (0,0,0,0)).2.1==0&&((quarters).getD 1 (0,0,0,0)).2.2.1==1&&((quarters).getD 1 (0,0,0,0)).2.2.2==(-1)))=true:=by decide+kernel
set_option maxRecDepth 100000 in
set_option maxHeartbeats 8000000 in
theorem known7 (w:World) (ht:Tab w) (hm:Mx w):
    Calls Tryz.prog 11 #[] w fun e w'=>e=.returned (.bool true)∧Gr w w':=by
 go_enter Tryz.func11,Tryz.ntmps11
 have hB:=Gr.refl w
 refine wp_seq_k (fun K1 k1=>?_)
 refine rg [0] ?_
 refine sv 0 (.bool false) ?_
 refine za0 ?_
 refine k1 _ _ ?_
 try clear k1 K1
 refine wp_seq_k (fun K2 k2=>?_)
 refine rg [0,1,2,3,4,5,6,7,8,9] ?_
 refine sv 11 (.agg #[.int .i64 1,.int .i64 0,.int .i64 0,.int .i64 1]) ?_
 refine se ?_
 refine ec 12 (zI1 _) ?_
 rintro e3 w3 ⟨rfl,g3⟩
 refine ⟨_,rfl,?_⟩
 replace hB:=hB.trans g3
 simp only [p3,p4]
 refine sv 13 (.agg #[.int .i64 1,.int .i64 0,.int .i64 0,.int .i64 1,(.string ⟨([48]:List UInt8).toArray⟩),(.string ⟨([48]:List UInt8).toArray⟩),(.string ⟨([48]:List UInt8).toArray⟩)]) ?_
 refine se ?_
 refine ec 14 (mof_k1 _ (hm.gr hB) (ht.gr hB)) ?_
 rintro e4 w4 ⟨⟨bN,bK,bM,bH,bF,bO,bP,bG,bL,bJ,aF,aA,av,ai,au,aj,ak,ah,aY,aw,ap,a0,aL,az,aX,aC,aQ,aJ,aV,aS,aD,aZ,aK,ax,ae,af,aM,ab,aH,aT,aW,aR,aU,a1,aG,ad,aP,aq,rfl,bT,b8,bR,bW,bV,bQ,bZ,bS,b7,b6,a8,a7⟩,g4⟩
 refine ⟨_,rfl,?_⟩
 replace hB:=hB.trans g4
 simp only [p3,p4]
 refine sv 10 (.tuple #[(.agg #[bN,bK,bM,bH,bF,bO,bP,bG,bL,bJ,aF,aA,av,ai,au,aj,ak,ah,aY,aw,ap,a0,aL,az,aX,aC,aQ,aJ,aV,aS,aD,aZ,aK,ax,ae,af,aM,ab,aH,aT,aW,aR,aU,a1,aG,ad,aP,aq]),.int .i64 0]) ?_
 refine sv 15 (.agg #[bN,bK,bM,bH,bF,bO,bP,bG,bL,bJ,aF,aA,av,ai,au,aj,ak,ah,aY,aw,ap,a0,aL,az,aX,aC,aQ,aJ,aV,aS,aD,aZ,aK,ax,ae,af,aM,ab,aH,aT,aW,aR,aU,a1,aG,ad,aP,aq]) ?_
 refine sv 16 (.int .i64 0) ?_
 refine se ?_
 refine ea 41 #[.bool false,.slice none 0 0,.bool false,.slice none 0 0,.bool false,.slice none 0 0,.bool false,.slice none 0 0,.bool false,.slice none 0 0,.bool false,.slice none 0 0,.bool false,.slice none 0 0,.bool false,.slice none 0 0,.bool false,.slice none 0 0,.bool false,.slice none 0 0,.bool false,.slice none 0 0,.bool false,.slice none 0 0,.bool false,.slice none 0 0,.bool false,.slice none 0 0,.bool false,.slice none 0 0,.bool false,.slice none 0 0,.bool false,.slice none 0 0,.bool false,.slice none 0 0,.bool false,.slice none 0 0,.bool false,.slice none 0 0,.bool false,.slice none 0 0,.bool false,.slice none 0 0,.bool false,.slice none 0 0,.bool false,.slice none 0 0] 1 hB fun b5 w5 g5 L5 o5 q5 hB=>?_
 simp only [p3,p4]
 refine se ?_
 have em:=L5
 refine es 41 0 (.agg #[bN,bK,bM,bH,bF,bO,bP,bG,bL,bJ,aF,aA,av,ai,au,aj,ak,ah,aY,aw,ap,a0,aL,az,aX,aC,aQ,aJ,aV,aS,aD,aZ,aK,ax,ae,af,aM,ab,aH,aT,aW,aR,aU,a1,aG,ad,aP,aq]) [bN,bK,bM,bH,bF,bO,bP,bG,bL,bJ,aF,aA,av,ai,au,aj,ak,ah,aY,aw,ap,a0,aL,az,aX,aC,aQ,aJ,aV,aS,aD,aZ,aK,ax,ae,af,aM,ab,aH,aT,aW,aR,aU,a1,aG,ad,aP,aq] #[bN,bK,bM,bH,bF,bO,bP,bG,bL,bJ,aF,aA,av,ai,au,aj,ak,ah,aY,aw,ap,a0,aL,az,aX,aC,aQ,aJ,aV,aS,aD,aZ,aK,ax,ae,af,aM,ab,aH,aT,aW,aR,aU,a1,aG,ad,aP,aq] L5 hB q5 ⟨bT.one0,bT.one1,bT.one2,bT.one3,b8.one0,b8.one1,b8.one2,b8.one3,bR.one0,bR.one1,bR.one2,bR.one3,bW.one0,bW.one1,bW.one2,bW.one3,bV.one0,bV.one1,bV.one2,bV.one3,bQ.one0,bQ.one1,bQ.one2,bQ.one3,bZ.one0,bZ.one1,bZ.one2,bZ.one3,bS.one0,bS.one1,bS.one2,bS.one3,b7.one0,b7.one1,b7.one2,b7.one3,b6.one0,b6.one1,b6.one2,b6.one3,a8.one0,a8.one1,a8.one2,a8.one3,a7.one0,a7.one1,a7.one2,a7.one3,trivial⟩ fun w6 ej dY L5 hB=>?_
 refine sv 2 (.int .i64 0) ?_
 refine za0 ?_
 refine k2 _ _ ?_
 try clear k2 K2
 refine wp_seq_k (fun K7 k7=>?_)
 refine rg [0,1,2,3,4,5,6,7,8,9] ?_
 refine sv 18 (.agg #[.int .i64 2,.int .i64 1,.int .i64 0,.int .i64 0]) ?_
 refine se ?_
 refine ec 19 (zI1 _) ?_
 rintro e8 w8 ⟨rfl,g8⟩
 refine ⟨_,rfl,?_⟩
 replace hB:=hB.trans g8
 simp only [p3,p4]
 refine sv 20 (.agg #[.int .i64 2,.int .i64 1,.int .i64 0,.int .i64 0,(.string ⟨([48]:List UInt8).toArray⟩),(.string ⟨([48]:List UInt8).toArray⟩),(.string ⟨([48]:List UInt8).toArray⟩)]) ?_
 refine se ?_
 refine ec 21 (mof_k2 _ (hm.gr hB) (ht.gr hB)) ?_
 rintro e9 w9 ⟨⟨ce,cl,ck,cm,cj,cg,cn,cc,ch,cd,bg,bf,al,aN,aI,a3,aB,ay,ac,a4,ar,a2,aO,aE,bj,bm,bi,bo,bE,bc,bD,ba,bA,bh,bC,bz,bq,bp,bt,bv,bn,bw,bk,bB,bb,bu,bd,bx,rfl,cx,cy,cq,bX,bU,b4,cA,co,cu,cB,b9,ca⟩,g9⟩
 refine ⟨_,rfl,?_⟩
 replace hB:=hB.trans g9
 simp only [p3,p4]
 refine sv 17 (.tuple #[(.agg #[ce,cl,ck,cm,cj,cg,cn,cc,ch,cd,bg,bf,al,aN,aI,a3,aB,ay,ac,a4,ar,a2,aO,aE,bj,bm,bi,bo,bE,bc,bD,ba,bA,bh,bC,bz,bq,bp,bt,bv,bn,bw,bk,bB,bb,bu,bd,bx]),.int .i64 0]) ?_
 refine sv 22 (.agg #[ce,cl,ck,cm,cj,cg,cn,cc,ch,cd,bg,bf,al,aN,aI,a3,aB,ay,ac,a4,ar,a2,aO,aE,bj,bm,bi,bo,bE,bc,bD,ba,bA,bh,bC,bz,bq,bp,bt,bv,bn,bw,bk,bB,bb,bu,bd,bx]) ?_
 refine sv 23 (.int .i64 0) ?_
 refine se ?_
 refine ea 41 #[.bool false,.slice none 0 0,.bool false,.slice none 0 0,.bool false,.slice none 0 0,.bool false,.slice none 0 0,.bool false,.slice none 0 0,.bool false,.slice none 0 0,.bool false,.slice none 0 0,.bool false,.slice none 0 0,.bool false,.slice none 0 0,.bool false,.slice none 0 0,.bool false,.slice none 0 0,.bool false,.slice none 0 0,.bool false,.slice none 0 0,.bool false,.slice none 0 0,.bool false,.slice none 0 0,.bool false,.slice none 0 0,.bool false,.slice none 0 0,.bool false,.slice none 0 0,.bool false,.slice none 0 0,.bool false,.slice none 0 0,.bool false,.slice none 0 0,.bool false,.slice none 0 0,.bool false,.slice none 0 0,.bool false,.slice none 0 0] 3 hB fun dk ew dh a6 d5 dZ hB=>?_
 replace L5:=L5.gr (g8.trans g9)
 have cO:=L5.ne d5
 simp only [p3,p4]
 refine se ?_
 have dV:=a6
 refine es 41 0 (.agg #[ce,cl,ck,cm,cj,cg,cn,cc,ch,cd,bg,bf,al,aN,aI,a3,aB,ay,ac,a4,ar,a2,aO,aE,bj,bm,bi,bo,bE,bc,bD,ba,bA,bh,bC,bz,bq,bp,bt,bv,bn,bw,bk,bB,bb,bu,bd,bx]) [ce,cl,ck,cm,cj,cg,cn,cc,ch,cd,bg,bf,al,aN,aI,a3,aB,ay,ac,a4,ar,a2,aO,aE,bj,bm,bi,bo,bE,bc,bD,ba,bA,bh,bC,bz,bq,bp,bt,bv,bn,bw,bk,bB,bb,bu,bd,bx] #[ce,cl,ck,cm,cj,cg,cn,cc,ch,cd,bg,bf,al,aN,aI,a3,aB,ay,ac,a4,ar,a2,aO,aE,bj,bm,bi,bo,bE,bc,bD,ba,bA,bh,bC,bz,bq,bp,bt,bv,bn,bw,bk,bB,bb,bu,bd,bx] a6 hB dZ ⟨cx.one0,cx.one1,cx.one2,cx.one3,cy.one0,cy.one1,cy.one2,cy.one3,cq.one0,cq.one1,cq.one2,cq.one3,bX.one0,bX.one1,bX.one2,bX.one3,bU.one0,bU.one1,bU.one2,bU.one3,b4.one0,b4.one1,b4.one2,b4.one3,cA.one0,cA.one1,cA.one2,cA.one3,co.one0,co.one1,co.one2,co.one3,cu.one0,cu.one1,cu.one2,cu.one3,cB.one0,cB.one1,cB.one2,cB.one3,b9.one0,b9.one1,b9.one2,b9.one3,ca.one0,ca.one1,ca.one2,ca.one3,trivial⟩ fun eH dn db a6 hB=>?_
 refine sv 4 (.int .i64 0) ?_
 refine za0 ?_
 refine k7 _ _ ?_
 try clear k7 K7
 refine wp_seq_k (fun d8 dL=>?_)
 refine rg [0,1,2,3,4,5,6,7,8,9,10,11,12] ?_
 refine sv 25 (.agg #[.int .i64 1,.int .i64 0,.int .i64 0,.int .i64 1]) ?_
 refine se ?_
 refine ec 26 (zI1 _) ?_
 rintro e13 eE ⟨rfl,c6⟩
 refine ⟨_,rfl,?_⟩
 replace hB:=hB.trans c6
 simp only [p3,p4]
 refine sv 27 (.agg #[.int .i64 1,.int .i64 0,.int .i64 0,.int .i64 1,(.string ⟨([48]:List UInt8).toArray⟩),(.string ⟨([48]:List UInt8).toArray⟩),(.string ⟨([48]:List UInt8).toArray⟩)]) ?_
 refine sv 28 (.agg #[.int .i64 1,.int .i64 0,.int .i64 0,.int .i64 1]) ?_
 refine se ?_
 refine ec 29 (zI1 _) ?_
 rintro ey ex ⟨rfl,cY⟩
 refine ⟨_,rfl,?_⟩
 replace hB:=hB.trans cY
 simp only [p3,p4]
 refine sv 30 (.agg #[.int .i64 1,.int .i64 0,.int .i64 0,.int .i64 1,(.string ⟨([48]:List UInt8).toArray⟩),(.string ⟨([48]:List UInt8).toArray⟩),(.string ⟨([48]:List UInt8).toArray⟩)]) ?_
 refine se ?_
 refine ec 31 (join_k1 _ (hm.gr hB) (ht.gr hB)) ?_
 rintro eC ek ⟨rfl,cX⟩
 refine ⟨_,rfl,?_⟩
 replace hB:=hB.trans cX
 simp only [p3,p4]
 refine sv 24 (.tuple #[(.agg #[.int .i64 0,.int .i64 0,.int .i64 0,.int .i64 1,(.string ⟨([48]:List UInt8).toArray⟩),(.string ⟨([48]:List UInt8).toArray⟩),(.string ⟨([48]:List UInt8).toArray⟩)]),.int .i64 0]) ?_
 refine sv 32 (.agg #[.int .i64 0,.int .i64 0,.int .i64 0,.int .i64 1,(.string ⟨([48]:List UInt8).toArray⟩),(.string ⟨([48]:List UInt8).toArray⟩),(.string ⟨([48]:List UInt8).toArray⟩)]) ?_
 refine sv 33 (.int .i64 0) ?_
 refine se ?_
 refine ea 27 #[.int .i64 0,.int .i64 0,.int .i64 0,.int .i64 0,(.string ⟨([]:List UInt8).toArray⟩),(.string ⟨([]:List UInt8).toArray⟩),(.string ⟨([]:List UInt8).toArray⟩)] 5 hB fun dS eD dc a9 dy dW hB=>?_
 replace L5:=(dn.lc (L5.gr dh) cO).gr (c6.trans (cY.trans cX))
 have cJ:=L5.ne dy
 replace a6:=a6.gr (c6.trans (cY.trans cX))
 have cC:=a6.ne dy
 simp only [p3,p4]
 refine se ?_
 have d0:=a9
 refine es 27 0 (.agg #[.int .i64 0,.int .i64 0,.int .i64 0,.int .i64 1,(.string ⟨([48]:List UInt8).toArray⟩),(.string ⟨([48]:List UInt8).toArray⟩),(.string ⟨([48]:List UInt8).toArray⟩)]) [.int .i64 0,.int .i64 0,.int .i64 0,.int .i64 1,(.string ⟨([48]:List UInt8).toArray⟩),(.string ⟨([48]:List UInt8).toArray⟩),(.string ⟨([48]:List UInt8).toArray⟩)] #[.int .i64 0,.int .i64 0,.int .i64 0,.int .i64 1,(.string ⟨([48]:List UInt8).toArray⟩),(.string ⟨([48]:List UInt8).toArray⟩),(.string ⟨([48]:List UInt8).toArray⟩)] a9 hB dW ⟨rfl,rfl,rfl,rfl,rfl,rfl,rfl,trivial⟩ fun ee c8 da a9 hB=>?_
 refine sv 6 (.int .i64 0) ?_
 refine za0 ?_
 refine dL _ _ ?_
 try clear dL d8
 refine wp_seq_k (fun d4 du=>?_)
 refine rg [0,1,2,3,4,5,6,7,8,9,10,11,12] ?_
 refine sv 35 (.agg #[.int .i64 12,.int .i64 1,.int .i64 0,.int .i64 0]) ?_
 refine se ?_
 refine ec 36 (zI1 _) ?_
 rintro eo eJ ⟨rfl,cS⟩
 refine ⟨_,rfl,?_⟩
 replace hB:=hB.trans cS
 simp only [p3,p4]
 refine sv 37 (.agg #[.int .i64 12,.int .i64 1,.int .i64 0,.int .i64 0,(.string ⟨([48]:List UInt8).toArray⟩),(.string ⟨([48]:List UInt8).toArray⟩),(.string ⟨([48]:List UInt8).toArray⟩)]) ?_
 refine sv 38 (.agg #[.int .i64 12,.int .i64 1,.int .i64 0,.int .i64 0]) ?_
 refine se ?_
 refine ec 39 (zI1 _) ?_
 rintro eG el ⟨rfl,cT⟩
 refine ⟨_,rfl,?_⟩
 replace hB:=hB.trans cT
 simp only [p3,p4]
 refine sv 40 (.agg #[.int .i64 12,.int .i64 1,.int .i64 0,.int .i64 0,(.string ⟨([48]:List UInt8).toArray⟩),(.string ⟨([48]:List UInt8).toArray⟩),(.string ⟨([48]:List UInt8).toArray⟩)]) ?_
 refine se ?_
 refine ec 41 (join_k2 _ (hm.gr hB) (ht.gr hB)) ?_
 rintro e21 eI ⟨rfl,cR⟩
 refine ⟨_,rfl,?_⟩
 replace hB:=hB.trans cR
 simp only [p3,p4]
 refine sv 34 (.tuple #[(.agg #[.int .i64 0,.int .i64 0,.int .i64 0,.int .i64 0,(.string ⟨([]:List UInt8).toArray⟩),(.string ⟨([]:List UInt8).toArray⟩),(.string ⟨([]:List UInt8).toArray⟩)]),.int .i64 2]) ?_
 refine sv 42 (.agg #[.int .i64 0,.int .i64 0,.int .i64 0,.int .i64 0,(.string ⟨([]:List UInt8).toArray⟩),(.string ⟨([]:List UInt8).toArray⟩),(.string ⟨([]:List UInt8).toArray⟩)]) ?_
 refine sv 43 (.int .i64 2) ?_
 refine se ?_
 refine ea 27 #[.int .i64 0,.int .i64 0,.int .i64 0,.int .i64 0,(.string ⟨([]:List UInt8).toArray⟩),(.string ⟨([]:List UInt8).toArray⟩),(.string ⟨([]:List UInt8).toArray⟩)] 7 hB fun ed eB c9 di df dX hB=>?_
 replace L5:=(c8.lc (L5.gr dc) cJ).gr (cS.trans (cT.trans cR))
 have cK:=L5.ne df
 replace a6:=(c8.lc (a6.gr dc) cC).gr (cS.trans (cT.trans cR))
 have ct:=a6.ne df
 replace a9:=a9.gr (cS.trans (cT.trans cR))
 have cD:=a9.ne df
 simp only [p3,p4]
 refine se ?_
 have d2:=di
 refine es 27 0 (.agg #[.int .i64 0,.int .i64 0,.int .i64 0,.int .i64 0,(.string ⟨([]:List UInt8).toArray⟩),(.string ⟨([]:List UInt8).toArray⟩),(.string ⟨([]:List UInt8).toArray⟩)]) [.int .i64 0,.int .i64 0,.int .i64 0,.int .i64 0,(.string ⟨([]:List UInt8).toArray⟩),(.string ⟨([]:List UInt8).toArray⟩),(.string ⟨([]:List UInt8).toArray⟩)] #[.int .i64 0,.int .i64 0,.int .i64 0,.int .i64 0,(.string ⟨([]:List UInt8).toArray⟩),(.string ⟨([]:List UInt8).toArray⟩),(.string ⟨([]:List UInt8).toArray⟩)] di hB dX ⟨rfl,rfl,rfl,rfl,rfl,rfl,rfl,trivial⟩ fun ei cL cZ di hB=>?_
 refine sv 8 (.int .i64 2) ?_
 refine za0 ?_
 refine du _ _ ?_
 try clear du d4
 refine wp_seq_k (fun d7 dQ=>?_)
 refine rg [0,1] ?_
 refine se ?_
 refine ec 44 (zP9 _ (hm.gr hB)) ?_
 rintro ef d1 ⟨⟨c5,rfl,cN⟩,cP⟩
 refine ⟨_,rfl,?_⟩
 replace hB:=hB.trans cP
 simp only [p3,p4]
 refine sv 9 c5 ?_
 refine za0 ?_
 refine dQ _ _ ?_
 try clear dQ d7
 refine wp_seq_k (fun d6 dK=>?_)
 obtain ⟨_,_,rfl,aa⟩:=cN.get (by decide) (getD_some (d:=((0,0,0,0):Int × Int × Int × Int)) (i:=1) (xs:=quarters) (by rw [zb2];omega))
 have bY:=Gr.drew d1
 replace hB:=hB.trans bY
 replace L5:=(cL.lc (L5.gr c9) cK).gr (cP.trans bY)
 replace a6:=(cL.lc (a6.gr c9) ct).gr (cP.trans bY)
 replace a9:=(cL.lc (a9.gr c9) cD).gr (cP.trans bY)
 replace aa:=aa.gr bY
 refine za2 (fun w'=>Lc w' b5 #[bN,bK,bM,bH,bF,bO,bP,bG,bL,bJ,aF,aA,av,ai,au,aj,ak,ah,aY,aw,ap,a0,aL,az,aX,aC,aQ,aJ,aV,aS,aD,aZ,aK,ax,ae,af,aM,ab,aH,aT,aW,aR,aU,a1,aG,ad,aP,aq] 41∧Lc w' dk #[ce,cl,ck,cm,cj,cg,cn,cc,ch,cd,bg,bf,al,aN,aI,a3,aB,ay,ac,a4,ar,a2,aO,aE,bj,bm,bi,bo,bE,bc,bD,ba,bA,bh,bC,bz,bq,bp,bt,bv,bn,bw,bk,bB,bb,bu,bd,bx] 41∧Lc w' dS #[.int .i64 0,.int .i64 0,.int .i64 0,.int .i64 1,(.string ⟨([48]:List UInt8).toArray⟩),(.string ⟨([48]:List UInt8).toArray⟩),(.string ⟨([48]:List UInt8).toArray⟩)] 27∧AtV w' c5 (1*4) [(.int .i64 (((quarters).getD 1 (0,0,0,0)).1)),(.int .i64 (((quarters).getD 1 (0,0,0,0)).2.1)),(.int .i64 (((quarters).getD 1 (0,0,0,0)).2.2.1)),(.int .i64 (((quarters).getD 1 (0,0,0,0)).2.2.2))]) [(true,0),(true,1),(true,2),(true,3),(true,4),(true,5),(true,6),(true,7),(true,8),(true,9),(true,10),(true,11),(true,12),(true,13),(true,14),(true,15),(true,16),(true,20),(false,17),(false,18),(false,19),(true,21),(true,22),(true,23),(true,24),(true,25),(true,26),(true,28),(false,27),(true,29),(true,30),(true,31),(true,32),(true,33),(true,34),(true,35),(true,36),(true,37),(true,38),(true,39),(true,40),(true,41),(true,42),(true,43),(true,44),(true,45),(true,46),(true,47),(true,48),(true,49)] (by kernel_rfl) (by kernel_rfl) (by kernel_rfl) (by decide) (fun _ _ _ _ _ h=>h) ⟨L5,a6,a9,aa⟩ ?_
 refine ov 45 (.int .i64 0) ?_
 refine ov 46 (.bool true) ?_
 refine ov 47 (.bool true) ?_
 refine ov 48 (.int .i64 0) ?_
 refine ov 49 (.bool true) ?_
 refine ov 50 (.bool true) ?_
 refine ov 51 (.bool true) ?_
 refine ov 52 (.int .i64 0) ?_
 refine ov 53 (.bool true) ?_
 refine ov 54 (.bool true) ?_
 refine ov 55 (.bool true) ?_
 refine ov 56 (.int .i64 2) ?_
 refine ov 57 (.bool true) ?_
 refine ov 58 (.bool true) ?_
 refine ov 59 (.bool true) ?_
 refine ow 60 (.agg #[bN,bK,bM,bH,bF,bO,bP,bG,bL,bJ,aF,aA,av,ai,au,aj,ak,ah,aY,aw,ap,a0,aL,az,aX,aC,aQ,aJ,aV,aS,aD,aZ,aK,ax,ae,af,aM,ab,aH,aT,aW,aR,aU,a1,aG,ad,aP,aq]) rfl (fun w' hS=>(rl 41 0 [bN,bK,bM,bH,bF,bO,bP,bG,bL,bJ,aF,aA,av,ai,au,aj,ak,ah,aY,aw,ap,a0,aL,az,aX,aC,aQ,aJ,aV,aS,aD,aZ,aK,ax,ae,af,aM,ab,aH,aT,aW,aR,aU,a1,aG,ad,aP,aq] hS.1)) ?_
 refine ov 61 (.agg #[.int .i64 1,.int .i64 0,.int .i64 0]) ?_
 refine ov 65 (.agg #[(.string ⟨([48]:List UInt8).toArray⟩),(.string ⟨([49]:List UInt8).toArray⟩),(.string ⟨([48]:List UInt8).toArray⟩)]) ?_
 refine oe ?_
 refine ec 62 (vof_v (1) (0) (0) (by omega) (by omega) (by omega) _) ?_
 rintro en et ⟨⟨dP,dG,dN,dx,dM,dR,dw,dH,dD,dE,dq,de,rfl,cW,c4,c7⟩,cM⟩
 refine ⟨_,rfl,?_⟩
 replace hB:=hB.trans cM
 rw [show ((((1:Int):Rat)):Rat)=(1:Rat) from by kernel_rfl] at cW
 rw [show ((((0:Int):Rat)):Rat)=(0:Rat) from by kernel_rfl] at c4
 rw [show ((((0:Int):Rat)):Rat)=(0:Rat) from by kernel_rfl] at c7
 replace L5:=L5.gr cM
 replace a6:=a6.gr cM
 replace a9:=a9.gr cM
 replace aa:=aa.gr cM
 refine ⟨⟨L5,a6,a9,aa⟩,?_⟩
 simp only [p3,p4]
 refine oe ?_
 have a5:=g5.kp.trans (dY.trans (g8.kp.trans (g9.kp.trans (dh.kp.trans (db.trans (c6.kp.trans (cY.kp.trans (cX.kp.trans (dc.kp.trans (da.trans (cS.kp.trans (cT.kp.trans (cR.kp.trans (c9.kp.trans (cZ.trans (cP.kp.trans (bY.kp.trans cM.kp)))))))))))))))))
 replace bT:=bT.kp a5
 replace b8:=b8.kp a5
 replace bR:=bR.kp a5
 replace bW:=bW.kp a5
 replace bV:=bV.kp a5
 replace bQ:=bQ.kp a5
 replace bZ:=bZ.kp a5
 replace bS:=bS.kp a5
 replace b7:=b7.kp a5
 replace b6:=b6.kp a5
 replace a8:=a8.kp a5
 replace a7:=a7.kp a5
 refine ec 63 (mapply64 bT b8 bR bW bV bQ bZ bS b7 b6 a8 a7 cW c4 c7 (ht.gr hB) (hm.gr hB)) ?_
 rintro eF eh ⟨⟨dC,dA,dB,dT,dO,dI,dJ,dv,dU,dF,dj,dd,rfl,cG,cE,cF⟩,cU⟩
 refine ⟨_,rfl,?_⟩
 replace hB:=hB.trans cU
 rw [show (((0+(0:Rat)*(1:Rat)+(-1:Rat)*(0:Rat)+(0:Rat)*(0:Rat))+(0:Rat)):Rat)=(0:Rat) from by kernel_rfl] at cG
 rw [show (((0+(1:Rat)*(1:Rat)+(0:Rat)*(0:Rat)+(0:Rat)*(0:Rat))+(0:Rat)):Rat)=(1:Rat) from by kernel_rfl] at cE
 rw [show (((0+(0:Rat)*(1:Rat)+(0:Rat)*(0:Rat)+(1:Rat)*(0:Rat))+(0:Rat)):Rat)=(0:Rat) from by kernel_rfl] at cF
 replace L5:=L5.gr cU
 replace a6:=a6.gr cU
 replace a9:=a9.gr cU
 replace aa:=aa.gr cU
 refine ⟨⟨L5,a6,a9,aa⟩,?_⟩
 simp only [p3,p4]
 refine oe ?_
 refine ec 64 (ya5 cG cE cF (by omega) (ht.gr hB)) ?_
 rintro eA ez ⟨rfl,cQ⟩
 refine ⟨_,rfl,?_⟩
 replace hB:=hB.trans cQ
 replace L5:=L5.gr cQ
 replace a6:=a6.gr cQ
 replace a9:=a9.gr cQ
 replace aa:=aa.gr cQ
 refine ⟨⟨L5,a6,a9,aa⟩,?_⟩
 simp only [p3,p4]
 have dp:(sEq [(za3 ((0:Rat))),(za3 ((1:Rat))),(za3 ((0:Rat)))] [([48]:List UInt8),([49]:List UInt8),([48]:List UInt8)])=true:=(lawK70)
 refine ow 66 (.bool true) rfl (fun w' hS=>(RunV.bool (x:=sEq [(za3 ((0:Rat))),(za3 ((1:Rat))),(za3 ((0:Rat)))] [([48]:List UInt8),([49]:List UInt8),([48]:List UInt8)]) (yj2 25 25 23 _ _ [(za3 ((0:Rat))),(za3 ((1:Rat))),(za3 ((0:Rat)))] [([48]:List UInt8),([49]:List UInt8),([48]:List UInt8)] rfl rfl rfl (by kernel_rfl) (by kernel_rfl) (by kernel_rfl)) dp)) ?_
 refine ov 67 (.bool true) ?_
 refine ov 68 (.bool true) ?_
 refine ov 69 (.pointer (some ⟨dk,0,none⟩)) ?_
 refine ov 70 (.pointer (some ⟨dk,12,none⟩)) ?_
 refine ow 71 (.agg #[al,aN,aI,a3,aB,ay,ac,a4,ar,a2,aO,aE]) rfl (fun w' hS=>(rl 38 12 [al,aN,aI,a3,aB,ay,ac,a4,ar,a2,aO,aE] hS.2.1)) ?_
 refine ov 73 (.agg #[(.string ⟨([48]:List UInt8).toArray⟩),(.string ⟨([51,47,53]:List UInt8).toArray⟩),(.string ⟨([45,52,47,53]:List UInt8).toArray⟩)]) ?_
 refine oe ?_
 have cH:=dh.kp.trans (db.trans (c6.kp.trans (cY.kp.trans (cX.kp.trans (dc.kp.trans (da.trans (cS.kp.trans (cT.kp.trans (cR.kp.trans (c9.kp.trans (cZ.trans (cP.kp.trans (bY.kp.trans (cM.kp.trans (cU.kp.trans cQ.kp)))))))))))))))
 replace bX:=bX.kp cH
 replace bU:=bU.kp cH
 replace b4:=b4.kp cH
 refine ec 72 (ya5 bX bU b4 (by omega) (ht.gr hB)) ?_
 rintro eu ep ⟨rfl,cV⟩
 refine ⟨_,rfl,?_⟩
 replace hB:=hB.trans cV
 replace L5:=L5.gr cV
 replace a6:=a6.gr cV
 replace a9:=a9.gr cV
 replace aa:=aa.gr cV
 refine ⟨⟨L5,a6,a9,aa⟩,?_⟩
 simp only [p3,p4]
 have dl:(sEq [(za3 ((0:Rat))),(za3 ((3/5:Rat))),(za3 ((-4/5:Rat)))] [([48]:List UInt8),([51,47,53]:List UInt8),([45,52,47,53]:List UInt8)])=true:=(lawK71)
 refine ow 74 (.bool true) rfl (fun w' hS=>(RunV.bool (x:=sEq [(za3 ((0:Rat))),(za3 ((3/5:Rat))),(za3 ((-4/5:Rat)))] [([48]:List UInt8),([51,47,53]:List UInt8),([45,52,47,53]:List UInt8)]) (yj2 25 25 23 _ _ [(za3 ((0:Rat))),(za3 ((3/5:Rat))),(za3 ((-4/5:Rat)))] [([48]:List UInt8),([51,47,53]:List UInt8),([45,52,47,53]:List UInt8)] rfl rfl rfl (by kernel_rfl) (by kernel_rfl) (by kernel_rfl)) dl)) ?_
 refine ov 75 (.bool true) ?_
 refine ov 76 (.bool true) ?_
 refine ov 77 (.pointer (some ⟨dS,0,none⟩)) ?_
 refine ow 78 (.agg #[.int .i64 0,.int .i64 0,.int .i64 0,.int .i64 1]) rfl (fun w' hS=>(rl 22 0 [.int .i64 0,.int .i64 0,.int .i64 0,.int .i64 1] hS.2.2.1)) ?_
 refine ov 79 (.agg #[.int .i64 0,.int .i64 0,.int .i64 0,.int .i64 1]) ?_
 refine ov 80 (.bool true) ?_
 refine ov 81 (.bool true) ?_
 refine ov 82 (.bool true) ?_
 refine ov 83 c5 ?_
 refine ow 84 (.int .i64 (((quarters).length:Int))) rfl (fun w' hS=>(rv_len (e:=22) cN _ _ rfl rfl (by kernel_rfl))) ?_
 have dt:((((quarters).length:Int)==(24:Int)))=true:=(lawK72)
 refine ow 85 (.bool true) rfl (fun w' hS=>(RunV.bool (x:=(((quarters).length:Int)==(24:Int))) (rvk (by kernel_rfl)) dt)) ?_
 refine ov 86 (.bool true) ?_
 refine ov 87 (.bool true) ?_
 refine ov 88 c5 ?_
 refine ow 89 (adr c5 (1*4)) rfl (fun w' hS=>(zS2 (e:=22) cN (by decide) 1 (by rw [zb2];omega) _ _ _ rfl rfl rfl (by kernel_rfl) (by kernel_rfl))) ?_
 refine ow 90 (.agg #[(.int .i64 (((quarters).getD 1 (0,0,0,0)).1)),(.int .i64 (((quarters).getD 1 (0,0,0,0)).2.1)),(.int .i64 (((quarters).getD 1 (0,0,0,0)).2.2.1)),(.int .i64 (((quarters).getD 1 (0,0,0,0)).2.2.2))]) rfl (fun w' hS=>(zF7 [(.int .i64 (((quarters).getD 1 (0,0,0,0)).1)),(.int .i64 (((quarters).getD 1 (0,0,0,0)).2.1)),(.int .i64 (((quarters).getD 1 (0,0,0,0)).2.2.1)),(.int .i64 (((quarters).getD 1 (0,0,0,0)).2.2.2))] hS.2.2.2 _ _ rfl rfl (by kernel_rfl))) ?_
 refine ov 91 (.agg #[.int .i64 0,.int .i64 0,.int .i64 1,(.int .i64 (-1))]) ?_
 have dm:((((quarters).getD 1 (0,0,0,0)).1==0&&((quarters).getD 1 (0,0,0,0)).2.1==0&&((quarters).getD 1 (0,0,0,0)).2.2.1==1&&((quarters).getD 1 (0,0,0,0)).2.2.2==(-1)))=true:=(lawK73)
 refine ow 92 (.bool true) rfl (fun w' hS=>(RunV.bool (x:=(((quarters).getD 1 (0,0,0,0)).1==0&&((quarters).getD 1 (0,0,0,0)).2.1==0&&((quarters).getD 1 (0,0,0,0)).2.2.1==1&&((quarters).getD 1 (0,0,0,0)).2.2.2==(-1))) (zL4 22 22 3 (k:=.i64) _ _ [((quarters).getD 1 (0,0,0,0)).1,((quarters).getD 1 (0,0,0,0)).2.1,((quarters).getD 1 (0,0,0,0)).2.2.1,((quarters).getD 1 (0,0,0,0)).2.2.2] [0,0,1,-1] rfl rfl rfl (by kernel_rfl) (by kernel_rfl) (by kernel_rfl)) dm)) ?_
 refine ov 93 (.bool true) ?_
 refine ov 0 (.bool true) ?_
 refine zb1 ?_
 refine dK _ _ ?_
 try clear dK d6
 refine wp_ret ?_
 refine bodyPost_ret (v:=(.bool true)) (za7 rfl rfl) rfl ⟨?_,hB⟩
 exact rfl

def yl7:ConT:=fun args _ _=>match args with
 | []=>some (.leaf (.so (.vc (.cb true (some true)))) 0 0)
 | _=>none
theorem yl8 {I:World→Prop} (hI:∀ w,I w→Tab w∧Mx w):ConOK Tryz.prog I 11 yl7:=by
 intro args E n w T hw _ hT _
 unfold yl7 at hT
 split at hT
 ·cases hT
  exact (known7 w (hI w hw).1 (hI w hw).2).mono fun e w' he=>zc4 he ⟨rfl,fun v hv=>by cases hv;rfl⟩
 ·cases hT
end Go.Proofs.YtaldbfflkpgfoaaGreatDoor
namespace Go.Proofs.YtaldbfflkpgfoaaGreatDoor
open Go.ChangeShapes Go.WideShapes Go.ChangeAt Go.RowKit

theorem zz3 {H:Type} {enc:TypeId × Value→H} {P:Program} (hl:laidOutB P=true) {W W':World} (hb:Below W.heap.size W W'):
  ∀ {ts:List TypeId} {vs:List Value} {ds:List (DataW H)} {ps:List MemPlace},(∀ t ∈ ts,P.readableRec t=true∧t<P.types.size)→DataW.TrodAll enc P W 0 (fun _=>true) true ts vs ds ps→
   (∀ x ∈ ps,x.block<W.heap.size)→DataW.TrodAll enc P W' 0 (fun b=>decide (b<W.heap.size)) true ts vs ds ps
 | [],[],[],_,_,h,_=>h
 | t::ts,v::vs,d::ds,ps,ht,h,hp=>by
  obtain ⟨p,q,h1,h2,rfl⟩:=h
  exact ⟨p,q,Below.trod hl (ht t (by simp)).1 (ht t (by simp)).2 h1 hb (fun x hx=>hp x (by simp [hx])),zz3 hl hb (fun u hu=>ht u (by simp [hu])) h2 (fun x hx=>hp x (by simp [hx])),rfl⟩
 | [],[],_::_,_,_,h,_=>by cases h
 | [],_::_,_,_,_,h,_=>by cases h
 | _::_,[],_,_,_,h,_=>by cases h
 | _::_,_::_,[],_,_,h,_=>by cases h

theorem law_post {H:Type} {enc:TypeId × Value→H} {P:Program} {f:Func} {s:ChangeSpec} {W W':World} {args:Array Value} {ds gs:List (DataW H)} {before:List MemPlace} {tb:TypeId}
  (hl:laidOutB P=true) (aa:(f.params.toList.all fun t=>P.readableRec t&&decide (t<P.types.size))=true) (hres:f.resultTypes=#[tb]) (htb:P.underlying tb=some .bool) (hv:s.vars=[])
  (hW:DataW.Whole enc P f.params.toList s.vars false W args.toList ds gs before) (hfn:s.fn H (ds++gs)={results:=[.lit (.bool true)],args:=ds}) (hb:Below W.heap.size W W'):
  s.post enc P f false true false false W args (.bool true) W':=by
 have hr:∀ t ∈ f.params.toList,P.readableRec t=true∧t<P.types.size:=fun t ht=>by
  have:=List.all_eq_true.1 aa t ht
  simpa using this
 have hlt:∀ p ∈ before,p.block<W.heap.size:=fun p hp=>hW.lt p hp
 have hW':=hW
 obtain ⟨p,q,hA,hV,rfl,_,_⟩:=hW
 rw [hv] at hV
 obtain ⟨rfl,rfl⟩:=trodVars_none hV
 refine ⟨ds,[],_,[],p,[],hW',?_,?_,?_,World.keptBut_mono (fun x hx=>⟨hx,.inr (.inl (by simpa using hx))⟩) (hb.frame (· ∈ p++[])),fun h=>by cases h⟩
 ·rw [hfn,hres]
  exact trodAll_mk1 (shut_bool htb true)
 ·rw [hfn]
  exact zz3 hl hb hr hA (fun x hx=>hlt x (by simp [hx]))
 ·rw [hfn,hv];rfl

theorem cell_int {P:Program} {W:World} {base u:Nat} {k:IntKind} {v:Value} (hu:P.underlying u=some (.int k)) (h:Cell.okWide P W .any base u v):∃ n,v=.int k n∧k.has n:=by
 unfold Cell.okWide at h
 rw [hu] at h
 unfold Cell.ok at h
 rw [hu] at h
 cases v<;>simp at h
 obtain ⟨rfl,h⟩:=h
 exact ⟨_,rfl,h⟩
theorem zQ6 {P:Program} {W:World} {base t:Nat} {k:IntKind} {v:Value} (hu:P.underlying t=some (.int k)) (h:Value.okWide P W .any base t v):∃ n,v=.int k n∧k.has n:=by
 unfold Value.okWide at h
 rw [hu] at h
 exact cell_int hu h
theorem has_u8 {n:Int} (h:IntKind.u8.has n):0≤n∧n≤255:=h
theorem own:ownKnob Tryz.prog.godebug=none:=by kernel_rfl
theorem laidOut:laidOutB Tryz.prog=true:=by kernel_rfl
end Go.Proofs.YtaldbfflkpgfoaaGreatDoor
namespace Go.Proofs.YtaldbfflkpgfoaaGreatDoor
open Go.ChangeShapes Go.WideShapes Go.ChangeAt Go.RowKit

section
variable {H:Type} {enc:TypeId × Value→H}
theorem zI2 {C:Checked} {os:Os} {f:FuncId} {fn:Func} {s:OpenSpec} {conds:List PathCond} {apart:Bool} {laid:List (String × DataW Unit)} (modest:Bool) (w0:World) (args:Array Value) (hos:w0.os=os)
  (hsh:(w0.forCall (fun _ _=>0) ⟨#[],args,[]⟩).Shaped C.prog)
  (hok:Input.okWideB C.prog (w0.forCall (fun _ _=>0) ⟨#[],args,[]⟩) f ⟨#[],args,[]⟩=true)
  (hrow:s.preRow enc C.prog fn conds apart laid (w0.forCall (fun _ _=>0) ⟨#[],args,[]⟩).memory args):
  ∃ (w:World) (tape:Tape) (i:Input),w.os=os∧(w.forCall tape i).Shaped C.prog∧i.vars=[]∧Input.okWide C.prog (w.forCall tape i) .any w.heap.size f i∧
   s.preRow enc C.prog fn conds apart laid (w.forCall tape i).memory i.args∧({modest:=modest}:Assume).holds C.prog (lone (Frame.enter C.prog f i.args .normal) [] (w.forCall tape i)):=
 ⟨w0,fun _ _=>0,⟨#[],args,[]⟩,hos,hsh,(Input.okWide_of_okWideB (base:=0) hok).1,(Input.okWide_of_okWideB hok).2,hrow,by
  simp only [Assume.holds]
  exact ⟨by simp,by simp,fun _=>Modest.zero,by simp,by simp⟩⟩
end
end Go.Proofs.YtaldbfflkpgfoaaGreatDoor
namespace Go.Proofs.YtaldbfflkpgfoaaGreatDoor
open Go.ChangeShapes Go.WideShapes Go.ChangeAt Go.RowKit

end Go.Proofs.YtaldbfflkpgfoaaGreatDoor
namespace Go.Proofs.YtaldbfflkpgfoaaGreatDoor
open Go.RowKit

def l3 (a b c:Rat):List (List UInt8):=[za3 a,za3 b,za3 c]
section
variable {P:Program} {a:Act} {o:Oper} {w:World}
end
abbrev Mo:=Nat→Rat
def d3 (a b c x y z:Rat):Rat:=0+a*x+b*y+c*z
def f3 (a b c x y z:Rat):Rat:=a*x+b*y+c*z
def pm (r:Mo) (x y z:Rat):Mo
 | 9=>x
 | 10=>y
 | 11=>z
 | k=>r k
def mc (A B:Mo):Mo
 | 0=>d3 (A 0) (A 1) (A 2) (B 0) (B 3) (B 6)
 | 1=>d3 (A 0) (A 1) (A 2) (B 1) (B 4) (B 7)
 | 2=>d3 (A 0) (A 1) (A 2) (B 2) (B 5) (B 8)
 | 3=>d3 (A 3) (A 4) (A 5) (B 0) (B 3) (B 6)
 | 4=>d3 (A 3) (A 4) (A 5) (B 1) (B 4) (B 7)
 | 5=>d3 (A 3) (A 4) (A 5) (B 2) (B 5) (B 8)
 | 6=>d3 (A 6) (A 7) (A 8) (B 0) (B 3) (B 6)
 | 7=>d3 (A 6) (A 7) (A 8) (B 1) (B 4) (B 7)
 | 8=>d3 (A 6) (A 7) (A 8) (B 2) (B 5) (B 8)
 | 9=>d3 (A 0) (A 1) (A 2) (B 9) (B 10) (B 11)+A 9
 | 10=>d3 (A 3) (A 4) (A 5) (B 9) (B 10) (B 11)+A 10
 | 11=>d3 (A 6) (A 7) (A 8) (B 9) (B 10) (B 11)+A 11
 | _=>0
def mt (A:Mo):Mo
 | 0=>A 0
 | 1=>A 3
 | 2=>A 6
 | 3=>A 1
 | 4=>A 4
 | 5=>A 7
 | 6=>A 2
 | 7=>A 5
 | 8=>A 8
 | _=>0
def mz (A:Mo):Mo
 | 0=>A 0
 | 1=>A 1
 | 2=>A 2
 | 3=>A 3
 | 4=>A 4
 | 5=>A 5
 | 6=>A 6
 | 7=>A 7
 | 8=>A 8
 | _=>0
def idm:Mo
 | 0=>((1:Int):Rat)
 | 4=>((1:Int):Rat)
 | 8=>((1:Int):Rat)
 | _=>0
def l12 (A:Mo):List Rat:=[A 0,A 1,A 2,A 3,A 4,A 5,A 6,A 7,A 8,A 9,A 10,A 11]
def detm (A:Mo):Rat:=d3 (A 0) (A 1) (A 2) (A 4*A 8 - A 5*A 7) (A 5*A 6 - A 3*A 8) (A 3*A 7 - A 4*A 6)
def RotM (A:Mo) (w x y z:Rat):Prop:=RotQ (A 0) (A 1) (A 2) (A 3) (A 4) (A 5) (A 6) (A 7) (A 8) w x y z
section
variable {A B:Mo} {a b c d:Int} (h0:¬(a=0∧b=0∧c=0∧d=0)) (h:RotM A a b c d)
include h0 h
theorem rig_mat:decide (l12 (mc (mz A) (mt A))=l12 idm)=true∧decide (0<sgn (detm A).num)=true:=by
 have:=yo7 (nq_int h0) h
 unfold yo6 at this
 rw [Bool.and_eq_true] at this
 exact this
end
theorem mc_rot {A B:Mo} {a b c d p q r s n0 n1 n2 n3:Int} (h:RotM A a b c d) (g:RotM B p q r s)
  (h0:n0=a*p - b*q - c*r - d*s) (h1:n1=a*q+b*p+c*s - d*r) (h2:n2=a*r - b*s+c*p+d*q) (h3:n3=a*s+b*r - c*q+d*p):RotM (mc A B) n0 n1 n2 n3:=yo9 h g h0 h1 h2 h3
noncomputable def tabPm:List (Nat × List (Nat × Ent)):=[(19,[(5,.ord [(true,0),(true,1),(true,3),(true,4),(false,2),(true,5),(false,6)] [1])]),
 (22,[]),
 (24,[(9,.ord [(true,0),(true,1),(true,2),(true,3),(true,5),(true,6),(false,4),(true,7),(false,8)] [5])]),
 (30,[(1,.flo [(true,0),(true,1),(true,2),(true,3),(false,4),(true,5),(false,6)] [(7,3,41)] [(false,8)] []),(2,.ord [(true,0),(false,1),(false,2),(true,3),(true,4),(true,5),(true,6),(true,7),(true,8),(true,9),(true,10),(true,11),(true,12),(false,13),(false,14),(true,15),(true,16),(true,17)] [])]),
 (31,[(10,.ord [(true,0),(true,1),(true,2),(true,3),(true,4),(true,5),(true,6),(true,7),(true,9),(false,8),(true,10)] [])]),
 (36,[]),
 (38,[]),
 (39,[(1,.ord [(true,0),(true,1),(true,2),(false,3),(false,4),(false,5)] [6])]),
 (41,[(6,.ord [(true,0),(true,1),(true,2),(true,3),(true,4),(true,5),(true,6),(true,8),(true,9),(true,10),(true,11),(true,12),(true,13),(false,7),(false,14),(false,15),(true,16),(false,17)] [5])]),
 (43,[(1,.ord [(true,0),(true,1),(true,3),(true,4),(false,2),(false,5),(false,6)] [4])]),
 (44,[]),
 (69,[(8,.ord [(true,0),(true,1),(true,2),(true,3),(true,4),(false,5)] [3])]),
 (71,[(1,.ord [(true,0),(true,1),(true,2),(true,3),(true,5),(true,6),(true,7),(true,8),(true,11),(true,12),(true,13),(true,14),(false,4),(false,9),(false,10),(false,15),(false,16),(true,17)] [])]),
 (74,[(5,.ord [(true,0),(true,1),(true,2),(true,3),(true,4),(true,5),(true,6),(true,7),(false,8),(true,9),(false,10)] [7])]),
 (77,[(1,.ord [(true,0),(true,1),(true,2),(false,3),(false,4),(true,5)] [])]),
 (83,[]),
 (86,[]),
 (110,[(6,.ord [(true,0),(true,1),(true,2),(true,3),(true,4),(true,5),(true,6),(true,8),(true,9),(true,10),(true,11),(true,12),(true,13),(false,7),(false,14),(false,15),(true,16),(false,17)] [5])])]
noncomputable def conPm:List (Nat × ConT):=[(103,zp1 100000 (fun k m=>k+m+1) (fun a b=>a+b)),
 (75,zp1 100000 (fun k m=>k+m+1) (fun a b=>a - b)),
 (82,zp1 100000 (fun k m=>k+m) (fun a b=>a*b)),
 (108,cNeg),
 (59,yh9),
 (37,yi0),
 (76,zY4),
 (87,yi1),
 (130,cNum),
 (81,cDen),
 (58,cDiv),
 (96,zG8),
 (80,zY5),
 (122,zY6),
 (123,zY7),
 (68,yi2),
 (105,cTT (fun k m=>k+m+1) fun a b=>a+b),
 (132,cTT (fun k m=>k+m+1) fun a b=>a - b),
 (106,cTT (fun k m=>k+m) fun a b=>a*b),
 (64,yi3),
 (115,yi4),
 (65,zL0),
 (94,zA6 400),
 (107,zA6 65536),
 (15,cChk),
 (66,yi5),
 (14,cOf),
 (16,cMEq),
 (67,cTurn),
 (21,cPlc),
 (11,yl7)]
noncomputable def sysPm:Sys:=⟨Tryz.prog,2,199,tabPm,conPm,fun w=>Tab w∧Mx w⟩
theorem sysPm_ok:sysPm.OK where
 mixed:=by kernel_rfl
 calls:=fun f h0 h1=>by
  have:(List.range 199).all (fun f=>Nat.blt f 2||okCall Tryz.prog f)=true:=by kernel_rfl
  have:=List.all_eq_true.1 this f (List.mem_range.2 h1)
  simp only [Bool.or_eq_true] at this
  exact this.resolve_left (fun e=>by have:=zf3 e;exact absurd h0 (by show ¬ 2≤f;omega))
 tab:=by
  have:tabPm.all (okTab Tryz.prog)=true:=by kernel_rfl
  exact fun x hx=>List.all_eq_true.1 this x hx
 lps:=zK8 (by kernel_rfl)
 con:=fun x hx=>by
  simp only [sysPm,conPm,List.mem_cons,List.not_mem_nil,or_false] at hx
  rcases hx with rfl | rfl | rfl | rfl | rfl | rfl | rfl | rfl | rfl | rfl | rfl | rfl | rfl | rfl | rfl | rfl | rfl | rfl | rfl | rfl | rfl | rfl | rfl | rfl | rfl | rfl | rfl | rfl | rfl | rfl | rfl
  ·exact ze1 fun h1 h2 h3=>zi7 h1 h2 h3
  ·exact ze1 fun h1 h2 h3=>zt2 h1 h2 h3
  ·exact ze1 fun h1 h2 h3=>ym7 h1 h2 h3
  ·exact zG9
  ·exact zv2
  ·exact zv3
  ·exact zq6
  ·exact zv4 fun w h=>h.1
  ·exact zy4
  ·exact zy5
  ·exact zH0
  ·exact zk6
  ·exact zq7
  ·exact zq8
  ·exact zq9
  ·exact zv5
  ·exact zv6
  ·exact zv7
  ·exact zv8
  ·exact zv9
  ·exact zw0
  ·exact zp3
  ·exact zw1 fun w h=>h.2
  ·exact zw2 fun w h=>h.2
  ·exact zO5 fun w h=>h.2
  ·exact zB7
  ·exact yl4 fun w h=>h
  ·exact yl1
  ·exact ya1
  ·exact cPlc_ok fun w h=>h
  ·exact yl8 fun w h=>h
 inv:=fun w w' h g=>⟨h.1.gr g,h.2.gr g⟩
def mo12 (r0 r1 r2 r3 r4 r5 r6 r7 r8 r9 r10 r11:Rat):Mo
 | 0=>r0
 | 1=>r1
 | 2=>r2
 | 3=>r3
 | 4=>r4
 | 5=>r5
 | 6=>r6
 | 7=>r7
 | 8=>r8
 | 9=>r9
 | 10=>r10
 | 11=>r11
 | _=>0
def rigM (A:Mo):Bool:=decide (l12 (mc (mz A) (mt A))=l12 idm)&&decide (0<sgn (detm A).num)
def zwM (A:Mo) (i:Nat):Int:=wzq (zH8 (A 0) (A 1) (A 2) (A 3) (A 4) (A 5) (A 6) (A 7) (A 8)) i
def ePl (A:Mo):Int:=zI3 (rigM A) (zwM A 0) (zwM A 1) (zwM A 2) (zwM A 3) (za3 (A 9)) (za3 (A 10)) (za3 (A 11))
def plV (A:Mo):SV:=.st [.vg [.ci .i64 (pif (ePl A) (zwM A 0)) (-12) 12,.ci .i64 (pif (ePl A) (zwM A 1)) (-12) 12,.ci .i64 (pif (ePl A) (zwM A 2)) (-12) 12,.ci .i64 (pif (ePl A) (zwM A 3)) (-12) 12,.cw (pit (ePl A) (za3 (A 9))) none,.cw (pit (ePl A) (za3 (A 10))) none,.cw (pit (ePl A) (za3 (A 11))) none],.vc (.ci .i64 (ePl A) 0 5)]
def er (n:Int):Lf:=.ret (.st [.vg [.ci .i64 0 0 0,.ci .i64 0 0 0,.ci .i64 0 0 0,.ci .i64 0 0 0,.cw [] none,.cw [] none,.cw [] none],.vc (.ci .i64 n n n)])
def inC (z:Int) (l:Lf):Lf:=.br (zn6 z) (.br (decide (zU2 z< -12)) (er 2) (.br (decide (12<zU2 z)) (er 2) l)) (er 2)
def leC (x:Rat) (l:Lf):Lf:=.br (decide ((400:Int)<((za3 x).length:Int))) (er 5) l
def treePm (A:Mo):Lf:=.br (decide (l12 (mc (mz A) (mt A))=l12 idm)) (.br (decide (0<sgn (detm A).num)) (inC (zwM A 0) (inC (zwM A 1) (inC (zwM A 2) (inC (zwM A 3) (leC (A 9) (leC (A 10) (leC (A 11) (.ret (.st [.vg [.ci .i64 (zU2 (zwM A 0)) (-9223372036854775808) 9223372036854775807,.ci .i64 (zU2 (zwM A 1)) (-9223372036854775808) 9223372036854775807,.ci .i64 (zU2 (zwM A 2)) (-9223372036854775808) 9223372036854775807,.ci .i64 (zU2 (zwM A 3)) (-9223372036854775808) 9223372036854775807,.cw (za3 (A 9)) (some (20000,A 9)),.cw (za3 (A 10)) (some (20000,A 10)),.cw (za3 (A 11)) (some (20000,A 11))],.vc (.ci .i64 0 0 0)])))))))))
 (er 3)) (er 3)
def PlP (A:Mo) (v:SV):Prop:=∀ X,v.den X=(plV A).den X
theorem zL7 {A:Mo} {n:Int} (h:ePl A=n) (h0:n≠0):LOK (PlP A) (er n):=by
 intro X
 unfold plV
 rw [h]
 have p:∀ z,pif n z=0:=fun z=>if_neg h0
 have q:∀ x,pit n x=[]:=fun x=>if_neg h0
 simp only [p,q]
 rfl
theorem ya3 {P:SV→Prop} {z:Int} {l:Lf} (h1:¬(-12≤z∧z≤12)→LOK P (er 2)) (h2:-12≤z∧z≤12→LOK P l):LOK P (inC z l):=by
 have f:∀ v,zn6 z=v→(v=true↔(-9223372036854775808≤z∧z≤9223372036854775807)):=fun v e=>by subst e;unfold zn6;simp
 refine ⟨fun e=>?_,fun e=>h1 fun h=>?_⟩
 ·have g:=(f _ e).1 rfl
  have ez:zU2 z=z:=if_pos e
  refine ⟨fun k=>h1 fun h=>?_,fun k=>⟨fun m=>h1 fun h=>?_,fun m=>h2 ?_⟩⟩
  ·have:=of_decide_eq_true k;omega
  ·have:=of_decide_eq_true m;omega
  ·have:=of_decide_eq_false k;have:=of_decide_eq_false m;omega
 ·have:=(f _ e).2 (by omega);cases this
theorem ym1 {P:SV→Prop} {x:Rat} {l:Lf} (h1:¬(((za3 x).length:Int)≤400)→LOK P (er 5)) (h2:((za3 x).length:Int)≤400→LOK P l):LOK P (leC x l):=
 ⟨fun e=>h1 (by have:=of_decide_eq_true e;omega),fun e=>h2 (by have:=of_decide_eq_false e;omega)⟩
theorem ym2 (A:Mo):LOK (PlP A) (treePm A):=by
 refine ⟨fun h1=>⟨fun h2=>?_,fun h2=>zL7 (if_neg (by unfold rigM;rw [h1,h2];decide)) (by decide)⟩,fun h1=>zL7 (if_neg (by unfold rigM;rw [h1];simp)) (by decide)⟩
 have hr:rigM A=true:=by unfold rigM;rw [h1,h2];rfl
 have e2:¬((-12≤zwM A 0∧zwM A 0≤12)∧(-12≤zwM A 1∧zwM A 1≤12)∧(-12≤zwM A 2∧zwM A 2≤12)∧(-12≤zwM A 3∧zwM A 3≤12))→ePl A=2:=fun h=>(if_pos hr).trans (if_neg h)
 refine ya3 (fun h=>zL7 (e2 fun g=>h g.1) (by decide)) fun b0=>ya3 (fun h=>zL7 (e2 fun g=>h g.2.1) (by decide)) fun b1=>ya3 (fun h=>zL7 (e2 fun g=>h g.2.2.1) (by decide)) fun b2=>ya3 (fun h=>zL7 (e2 fun g=>h g.2.2.2) (by decide)) fun b3=>?_
 have e5:¬(((za3 (A 9)).length:Int)≤400∧((za3 (A 10)).length:Int)≤400∧((za3 (A 11)).length:Int)≤400)→ePl A=5:=fun h=>(if_pos hr).trans ((if_pos ⟨b0,b1,b2,b3⟩).trans (if_neg h))
 refine ym1 (fun h=>zL7 (e5 fun g=>h g.1) (by decide)) fun l0=>ym1 (fun h=>zL7 (e5 fun g=>h g.2.1) (by decide)) fun l1=>ym1 (fun h=>zL7 (e5 fun g=>h g.2.2) (by decide)) fun l2=>?_
 have e0:ePl A=0:=(if_pos hr).trans ((if_pos ⟨b0,b1,b2,b3⟩).trans (if_pos ⟨l0,l1,l2⟩))
 have v:∀ z:Int,-12≤z∧z≤12→zU2 z=z:=fun z h=>if_pos (by unfold zn6;simp;omega)
 intro X
 unfold plV
 rw [e0,v _ b0,v _ b1,v _ b2,v _ b3]
 rfl
theorem plV_ok (A:Mo) (n:Nn) (X:Env) (w:World):(plV A).ok n X w:=by
 have h:0≤ePl A∧ePl A≤5∧(ePl A=0→(-12≤zwM A 0∧zwM A 0≤12)∧(-12≤zwM A 1∧zwM A 1≤12)∧(-12≤zwM A 2∧zwM A 2≤12)∧(-12≤zwM A 3∧zwM A 3≤12)):=by
  unfold ePl zI3
  split
  ·split
   ·rename_i h;split<;>simp_all
   ·simp
  ·simp
 have b:∀ z:Int,(ePl A=0→-12≤z∧z≤12)→-12≤pif (ePl A) z∧pif (ePl A) z≤12:=fun z hz=>by
  unfold pif
  split
  ·exact hz ‹_›
  ·decide
 intro x hx
 simp only [List.mem_cons,List.not_mem_nil,or_false] at hx
 rcases hx with rfl | rfl
 ·exact zm6 ⟨⟨rfl,b _ fun e=>(h.2.2 e).1⟩,⟨rfl,b _ fun e=>(h.2.2 e).2.1⟩,⟨rfl,b _ fun e=>(h.2.2 e).2.2.1⟩,⟨rfl,b _ fun e=>(h.2.2 e).2.2.2⟩,⟨rfl,fun _ _ e=>by cases e⟩,⟨rfl,fun _ _ e=>by cases e⟩,⟨rfl,fun _ _ e=>by cases e⟩,trivial⟩
 ·exact ⟨rfl,h.1,h.2.1⟩
theorem runPm (r0 r1 r2 r3 r4 r5 r6 r7 r8 r9 aa ab:Rat):runF sysPm 22 [.so (.vg [.cr 0 0 500 r0,.cr 0 1 500 r0,.cr 0 2 500 r0,.cr 0 3 500 r0,.cr 1 0 500 r1,.cr 1 1 500 r1,.cr 1 2 500 r1,.cr 1 3 500 r1,.cr 2 0 500 r2,.cr 2 1 500 r2,.cr 2 2 500 r2,.cr 2 3 500 r2,.cr 3 0 500 r3,.cr 3 1 500 r3,.cr 3 2 500 r3,.cr 3 3 500 r3,.cr 4 0 500 r4,.cr 4 1 500 r4,.cr 4 2 500 r4,.cr 4 3 500 r4,.cr 5 0 500 r5,.cr 5 1 500 r5,.cr 5 2 500 r5,.cr 5 3 500 r5,.cr 6 0 500 r6,.cr 6 1 500 r6,.cr 6 2 500 r6,.cr 6 3 500 r6,.cr 7 0 500 r7,.cr 7 1 500 r7,.cr 7 2 500 r7,.cr 7 3 500 r7,.cr 8 0 500 r8,.cr 8 1 500 r8,.cr 8 2 500 r8,.cr 8 3 500 r8,.cr 9 0 20000 r9,.cr 9 1 20000 r9,.cr 9 2 20000 r9,.cr 9 3 20000 r9,.cr 10 0 20000 aa,.cr 10 1 20000 aa,.cr 10 2 20000 aa,.cr 10 3 20000 aa,.cr 11 0 20000 ab,.cr 11 1 20000 ab,.cr 11 2 20000 ab,.cr 11 3 20000 ab])] 12 0 (.s (.s (.s (.s .e (.s .e (.s (.s .e (.s .e (.s (.s .e (.s .e (.s (.s .e (.s .e (.s .e (.s .e (.s .e .e))))) .e))) .e))) .e))) .e) .e) .e)=some (treePm (mo12 r0 r1 r2 r3 r4 r5 r6 r7 r8 r9 aa ab)):=by kernel_rfl
def cPlace:ConT:=zY3 zH1 fun
 | [(ka0,a0),(ka1,a1),(ka2,a2),(ka3,a3),(ka4,a4),(ka5,a5),(ka6,a6),(ka7,a7),(ka8,a8),(ka9,a9),(ka10,a10),(ka11,a11)],_,_=>tr (Nat.ble ka0 500&&Nat.ble ka1 500&&Nat.ble ka2 500&&Nat.ble ka3 500&&Nat.ble ka4 500&&Nat.ble ka5 500&&Nat.ble ka6 500&&Nat.ble ka7 500&&Nat.ble ka8 500&&Nat.ble ka9 20000&&Nat.ble ka10 20000&&Nat.ble ka11 20000) (.leaf (plV (mo12 a0 a1 a2 a3 a4 a5 a6 a7 a8 a9 a10 a11)) 0 0)
 | _,_,_=>none
theorem ym3 {I:World→Prop} (hI:∀ w,I w→Tab w∧Mx w):ConOK Tryz.prog I 22 cPlace:=zg1 fun _ _ n X _ _ hw h1 h2 hT _=>by
 split at hT
 ·obtain ⟨hb,rfl⟩:=zd5 hT
  simp only [Bool.and_eq_true,Nat.ble_eq] at hb
  obtain ⟨vs,e1,hA⟩:=zp4 h1 h2
  rw [e1]
  obtain ⟨aN,aG,ba,bb,bp,rfl,ae,hA⟩:=hA.cons
  obtain ⟨a2,aS,aW,bc,bm,rfl,ap,hA⟩:=hA.cons
  obtain ⟨a9,aQ,a8,bg,bt,rfl,af,hA⟩:=hA.cons
  obtain ⟨a3,bd,aP,aM,bk,rfl,al,hA⟩:=hA.cons
  obtain ⟨a5,aF,aA,a4,bi,rfl,ad,hA⟩:=hA.cons
  obtain ⟨aL,aD,aK,a6,bh,rfl,aj,hA⟩:=hA.cons
  obtain ⟨aY,aB,aJ,a1,bo,rfl,ac,hA⟩:=hA.cons
  obtain ⟨aO,aI,aT,aC,bn,rfl,ak,hA⟩:=hA.cons
  obtain ⟨aV,a0,aR,aH,bj,rfl,ah,hA⟩:=hA.cons
  obtain ⟨aU,aX,a7,bf,bq,rfl,ai,hA⟩:=hA.cons
  obtain ⟨av,ax,az,ay,aE,rfl,aa,hA⟩:=hA.cons
  obtain ⟨aq,ar,au,aw,aZ,rfl,ab,hA⟩:=hA.cons
  obtain rfl:=hA.nil
  replace ae:=ae.mono (m:=500) (by omega)
  replace ap:=ap.mono (m:=500) (by omega)
  replace af:=af.mono (m:=500) (by omega)
  replace al:=al.mono (m:=500) (by omega)
  replace ad:=ad.mono (m:=500) (by omega)
  replace aj:=aj.mono (m:=500) (by omega)
  replace ac:=ac.mono (m:=500) (by omega)
  replace ak:=ak.mono (m:=500) (by omega)
  replace ah:=ah.mono (m:=500) (by omega)
  replace ai:=ai.mono (m:=20000) (by omega)
  replace aa:=aa.mono (m:=20000) (by omega)
  replace ab:=ab.mono (m:=20000) (by omega)
  refine (zf8 sysPm sysPm_ok (runPm _ _ _ _ _ _ _ _ _ _ _ _) (X:=zU0 [aN,aG,ba,bb,a2,aS,aW,bc,a9,aQ,a8,bg,a3,bd,aP,aM,a5,aF,aA,a4,aL,aD,aK,a6,aY,aB,aJ,a1,aO,aI,aT,aC,aV,a0,aR,aH,aU,aX,a7,bf,av,ax,az,ay,aq,ar,au,aw]) (hI _ hw) (okF1 (zm6 ⟨⟨rfl,ae⟩,⟨rfl,ae⟩,⟨rfl,ae⟩,⟨rfl,ae⟩,⟨rfl,ap⟩,⟨rfl,ap⟩,⟨rfl,ap⟩,⟨rfl,ap⟩,⟨rfl,af⟩,⟨rfl,af⟩,⟨rfl,af⟩,⟨rfl,af⟩,⟨rfl,al⟩,⟨rfl,al⟩,⟨rfl,al⟩,⟨rfl,al⟩,⟨rfl,ad⟩,⟨rfl,ad⟩,⟨rfl,ad⟩,⟨rfl,ad⟩,⟨rfl,aj⟩,⟨rfl,aj⟩,⟨rfl,aj⟩,⟨rfl,aj⟩,⟨rfl,ac⟩,⟨rfl,ac⟩,⟨rfl,ac⟩,⟨rfl,ac⟩,⟨rfl,ak⟩,⟨rfl,ak⟩,⟨rfl,ak⟩,⟨rfl,ak⟩,⟨rfl,ah⟩,⟨rfl,ah⟩,⟨rfl,ah⟩,⟨rfl,ah⟩,⟨rfl,ai⟩,⟨rfl,ai⟩,⟨rfl,ai⟩,⟨rfl,ai⟩,⟨rfl,aa⟩,⟨rfl,aa⟩,⟨rfl,aa⟩,⟨rfl,aa⟩,⟨rfl,ab⟩,⟨rfl,ab⟩,⟨rfl,ab⟩,⟨rfl,ab⟩,trivial⟩)) (ym2 _)).mono fun e w' he=>?_
  obtain ⟨v,X',m,rfl,g,_,_,hp⟩:=he
  exact zc4 (v:=plV _) ⟨by rw [hp];rfl,g⟩ (plV_ok _ n X _)
 ·cases hT
def d9:Dt:=(.s .e (.s .e (.s .e (.s .e (.s .e (.s .e (.s .e (.s .e (.s .e (.o (.o (.o .e))))))))))))
set_option maxRecDepth 100000 in
set_option maxHeartbeats 1000000 in
theorem vints_3 {k:Nat} {ai aa ak ae ab aj af ah ap al ac ad:Value} {a1 a2 a3:Rat} (e1:zm8 (a1)=true) (e2:zm8 (a2)=true) (e3:zm8 (a3)=true) {w:World} (aq:IsRat w k ai aa ak ae a1) (au:IsRat w k ab aj af ah a2) (ar:IsRat w k ap al ac ad a3) (_hk:k≤25000):
    Calls Tryz.prog 52 #[(.agg #[ai,aa,ak,ae,ab,aj,af,ah,ap,al,ac,ad])] w fun e w'=>e=.returned (.tuple #[.agg #[.int .i64 (zh7 a1),.int .i64 (zh7 a2),.int .i64 (zh7 a3)],.int .i64 0])∧Gr w w':=by
 go_enter Tryz.func52,Tryz.ntmps52
 have hB:=Gr.refl w
 refine wp_seq_k (fun K1 k1=>?_)
 refine rg [0,1,2] ?_
 refine se ?_
 refine eb 38 #[ai,aa,ak,ae,ab,aj,af,ah,ap,al,ac,ad] 1 hB fun b2 w2 g2 L2 o2 q2 hB=>?_
 simp only [p3,p4]
 refine se ?_
 refine ea 101 #[.int .i64 0,.int .i64 0,.int .i64 0] 2 hB fun b3 w3 g3 L3 o3 q3 hB=>?_
 simp only [p3,p4]
 refine sv 3 (.int .i64 0) ?_
 refine za0 ?_
 refine k1 _ _ ?_
 try clear k1 K1
 refine wp_seq_k (fun K4 k4=>?_)
 refine rg [0] ?_
 refine se ?_
 refine ea 101 #[.int .i64 0,.int .i64 0,.int .i64 0] 4 hB fun b5 w5 g5 L5 o5 q5 hB=>?_
 replace L2:=L2.gr g3
 have av:=L3.ne o5
 simp only [p3,p4]
 refine za0 ?_
 refine k4 _ _ ?_
 try clear k4 K4
 refine wp_seq_k (fun K6 k6=>?_)
 refine wp_seq_k (fun K7 k7=>?_)
 refine rg [0,1] ?_
 replace L2:=L2.gr g5
 refine sw 9 (.agg #[ai,aa,ak,ae,ab,aj,af,ah,ap,al,ac,ad]) rfl (rl 38 0 [ai,aa,ak,ae,ab,aj,af,ah,ap,al,ac,ad] L2) ?_
 refine sv 10 (.int .i64 0) ?_
 refine za0 ?_
 refine k7 _ _ ?_
 try clear k7 K7
 refine wp_block ?_
 refine wp_loop_rounds 4 ?_
 show Code.wp _ _ _ _ _
 refine wp_seq_k (fun K8 k8=>?_)
 refine rg [0] ?_
 refine sv 11 (.bool true) ?_
 refine za0 ?_
 refine k8 _ _ ?_
 try clear k8 K8
 refine wp_seq_k (fun K9 k9=>?_)
 refine wp_cond_true rfl ?_
 refine wp_skip ?_
 refine k9 _ _ ?_
 try clear k9 K9
 refine wp_seq_k (fun bM a7=>?_)
 refine wp_block ?_
 refine wp_seq_k (fun bH bm=>?_)
 refine rg [0,1,2,3,4] ?_
 refine sv 12 (.int .i64 0) ?_
 refine sv 13 (.agg #[ai,aa,ak,ae]) ?_
 refine se ?_
 refine ea 36 #[.bool false,.slice none 0 0,.bool false,.slice none 0 0] 6 hB fun cl bX aJ aP bf q12 hB=>?_
 replace L3:=L3.gr g5
 have aB:=L3.ne bf
 have az:=L5.ne bf
 simp only [p3,p4]
 refine sv 5 (.int .i64 0) ?_
 refine se ?_
 refine es 36 0 (.agg #[ai,aa,ak,ae]) [ai,aa,ak,ae] #[ai,aa,ak,ae] aP hB q12 ⟨aq.one0,aq.one1,aq.one2,aq.one3,trivial⟩ fun b9 aI ay aP hB=>?_
 refine za0 ?_
 refine bm _ _ ?_
 try clear bm bH
 refine wp_seq_k (fun bz bn=>?_)
 refine rg [0,1,2,3,4,5,6] ?_
 refine sw 15 (.agg #[ai,aa,ak,ae]) rfl (rl 36 0 [ai,aa,ak,ae] aP) ?_
 refine se ?_
 have aO:=g2.kp.trans (g3.kp.trans (g5.kp.trans (aJ.kp.trans ay)))
 replace aq:=aq.kp aO
 refine ec 16 (ym8 aq (by omega)) ?_
 rintro b8 bZ ⟨rfl,aD⟩
 refine ⟨_,rfl,?_⟩
 replace hB:=hB.trans aD
 simp only [p3,p4]
 refine sv 14 (.tuple #[(.int .i64 (zh7 (a1))),(.bool (zm8 (a1)))]) ?_
 refine sv 17 (.int .i64 (zh7 (a1))) ?_
 refine sw 18 (.bool true) rfl (RunV.bool (x:=zm8 (a1)) (rvk (by kernel_rfl)) e1) ?_
 refine sv 7 (.int .i64 (zh7 (a1))) ?_
 refine sv 8 (.bool true) ?_
 refine za0 ?_
 refine bn _ _ ?_
 try clear bn bz
 refine wp_seq_k (fun bU bd=>?_)
 refine wp_seq_k (fun bB bc=>?_)
 refine rg [0,1] ?_
 refine sv 19 (.bool true) ?_
 refine sv 20 (.bool false) ?_
 refine za0 ?_
 refine bc _ _ ?_
 try clear bc bB
 refine wp_cond_false rfl ?_
 refine wp_skip ?_
 refine bd _ _ ?_
 try clear bd bU
 refine rg [0,1,2,3] ?_
 refine sv 22 (.int .i64 0) ?_
 refine sv 23 (.int .i64 (zh7 (a1))) ?_
 refine sv 24 (.pointer (some ⟨b5,0,none⟩)) ?_
 refine se ?_
 replace L5:=(aI.lc (L5.gr aJ) az).gr aD
 refine es 3 0 (.int .i64 (zh7 (a1))) [(.int .i64 (zh7 (a1)))] #[(.int .i64 (zh7 (a1))),.int .i64 0,.int .i64 0] L5 hB q5 ⟨rfl,trivial⟩ fun co aN aE L5 hB=>?_
 refine za0 ?_
 refine a7 _ _ ?_
 try clear a7 bM
 refine rg [0,1] ?_
 refine sv 25 (.int .i64 1) ?_
 refine sv 10 (.int .i64 1) ?_
 refine za0 ?_
 show Code.rounds _ _ _ _ _ _
 show Code.wp _ _ _ _ _
 refine wp_seq_k (fun bS bt=>?_)
 refine rg [0] ?_
 refine sv 11 (.bool true) ?_
 refine za0 ?_
 refine bt _ _ ?_
 try clear bt bS
 refine wp_seq_k (fun bN a5=>?_)
 refine wp_cond_true rfl ?_
 refine wp_skip ?_
 refine a5 _ _ ?_
 try clear a5 bN
 refine wp_seq_k (fun bP a0=>?_)
 refine wp_block ?_
 refine wp_seq_k (fun bR a8=>?_)
 refine rg [0,1,2,3,4] ?_
 refine sv 12 (.int .i64 1) ?_
 refine sv 13 (.agg #[ab,aj,af,ah]) ?_
 refine se ?_
 refine ea 36 #[.bool false,.slice none 0 0,.bool false,.slice none 0 0] 6 hB fun ck b7 aL aV a9 bQ hB=>?_
 replace L3:=aN.lc ((aI.lc (L3.gr aJ) aB).gr aD) av
 have ax:=L3.ne a9
 have aw:=L5.ne a9
 simp only [p3,p4]
 refine sv 5 (.int .i64 1) ?_
 refine se ?_
 refine es 36 0 (.agg #[ab,aj,af,ah]) [ab,aj,af,ah] #[ab,aj,af,ah] aV hB bQ ⟨au.one0,au.one1,au.one2,au.one3,trivial⟩ fun b4 aG aF aV hB=>?_
 refine za0 ?_
 refine a8 _ _ ?_
 try clear a8 bR
 refine wp_seq_k (fun bD bk=>?_)
 refine rg [0,1,2,3,4,5,6] ?_
 refine sw 15 (.agg #[ab,aj,af,ah]) rfl (rl 36 0 [ab,aj,af,ah] aV) ?_
 refine se ?_
 have aT:=g2.kp.trans (g3.kp.trans (g5.kp.trans (aJ.kp.trans (ay.trans (aD.kp.trans (aE.trans (aL.kp.trans aF)))))))
 replace au:=au.kp aT
 refine ec 16 (ym8 au (by omega)) ?_
 rintro cc cg ⟨rfl,aK⟩
 refine ⟨_,rfl,?_⟩
 replace hB:=hB.trans aK
 simp only [p3,p4]
 refine sv 14 (.tuple #[(.int .i64 (zh7 (a2))),(.bool (zm8 (a2)))]) ?_
 refine sv 17 (.int .i64 (zh7 (a2))) ?_
 refine sw 18 (.bool true) rfl (RunV.bool (x:=zm8 (a2)) (rvk (by kernel_rfl)) e2) ?_
 refine sv 7 (.int .i64 (zh7 (a2))) ?_
 refine sv 8 (.bool true) ?_
 refine za0 ?_
 refine bk _ _ ?_
 try clear bk bD
 refine wp_seq_k (fun bC ba=>?_)
 refine wp_seq_k (fun bw a4=>?_)
 refine rg [0,1] ?_
 refine sv 19 (.bool true) ?_
 refine sv 20 (.bool false) ?_
 refine za0 ?_
 refine a4 _ _ ?_
 try clear a4 bw
 refine wp_cond_false rfl ?_
 refine wp_skip ?_
 refine ba _ _ ?_
 try clear ba bC
 refine rg [0,1,2,3] ?_
 refine sv 22 (.int .i64 1) ?_
 refine sv 23 (.int .i64 (zh7 (a2))) ?_
 refine sv 24 (.pointer (some ⟨b5,1,none⟩)) ?_
 refine se ?_
 replace L5:=(aG.lc (L5.gr aL) aw).gr aK
 refine es 3 1 (.int .i64 (zh7 (a2))) [(.int .i64 (zh7 (a2)))] #[(.int .i64 (zh7 (a1))),(.int .i64 (zh7 (a2))),.int .i64 0] L5 hB q5 ⟨rfl,trivial⟩ fun cm aQ aX L5 hB=>?_
 refine za0 ?_
 refine a0 _ _ ?_
 try clear a0 bP
 refine rg [0,1] ?_
 refine sv 25 (.int .i64 2) ?_
 refine sv 10 (.int .i64 2) ?_
 refine za0 ?_
 show Code.rounds _ _ _ _ _ _
 show Code.wp _ _ _ _ _
 refine wp_seq_k (fun bO bq=>?_)
 refine rg [0] ?_
 refine sv 11 (.bool true) ?_
 refine za0 ?_
 refine bq _ _ ?_
 try clear bq bO
 refine wp_seq_k (fun bu aZ=>?_)
 refine wp_cond_true rfl ?_
 refine wp_skip ?_
 refine aZ _ _ ?_
 try clear aZ bu
 refine wp_seq_k (fun bv bj=>?_)
 refine wp_block ?_
 refine wp_seq_k (fun bJ bh=>?_)
 refine rg [0,1,2,3,4] ?_
 refine sv 12 (.int .i64 2) ?_
 refine sv 13 (.agg #[ap,al,ac,ad]) ?_
 refine se ?_
 refine ea 36 #[.bool false,.slice none 0 0,.bool false,.slice none 0 0] 6 hB fun cn ce aR aW bi bV hB=>?_
 replace L3:=aQ.lc ((aG.lc (L3.gr aL) ax).gr aK) av
 have aC:=L3.ne bi
 have aA:=L5.ne bi
 simp only [p3,p4]
 refine sv 5 (.int .i64 2) ?_
 refine se ?_
 refine es 36 0 (.agg #[ap,al,ac,ad]) [ap,al,ac,ad] #[ap,al,ac,ad] aW hB bV ⟨ar.one0,ar.one1,ar.one2,ar.one3,trivial⟩ fun ca aH aM aW hB=>?_
 refine za0 ?_
 refine bh _ _ ?_
 try clear bh bJ
 refine wp_seq_k (fun bK bg=>?_)
 refine rg [0,1,2,3,4,5,6] ?_
 refine sw 15 (.agg #[ap,al,ac,ad]) rfl (rl 36 0 [ap,al,ac,ad] aW) ?_
 refine se ?_
 have aS:=g2.kp.trans (g3.kp.trans (g5.kp.trans (aJ.kp.trans (ay.trans (aD.kp.trans (aE.trans (aL.kp.trans (aF.trans (aK.kp.trans (aX.trans (aR.kp.trans aM)))))))))))
 replace ar:=ar.kp aS
 refine ec 16 (ym8 ar (by omega)) ?_
 rintro bW b6 ⟨rfl,aY⟩
 refine ⟨_,rfl,?_⟩
 replace hB:=hB.trans aY
 simp only [p3,p4]
 refine sv 14 (.tuple #[(.int .i64 (zh7 (a3))),(.bool (zm8 (a3)))]) ?_
 refine sv 17 (.int .i64 (zh7 (a3))) ?_
 refine sw 18 (.bool true) rfl (RunV.bool (x:=zm8 (a3)) (rvk (by kernel_rfl)) e3) ?_
 refine sv 7 (.int .i64 (zh7 (a3))) ?_
 refine sv 8 (.bool true) ?_
 refine za0 ?_
 refine bg _ _ ?_
 try clear bg bK
 refine wp_seq_k (fun bG bo=>?_)
 refine wp_seq_k (fun bF bp=>?_)
 refine rg [0,1] ?_
 refine sv 19 (.bool true) ?_
 refine sv 20 (.bool false) ?_
 refine za0 ?_
 refine bp _ _ ?_
 try clear bp bF
 refine wp_cond_false rfl ?_
 refine wp_skip ?_
 refine bo _ _ ?_
 try clear bo bG
 refine rg [0,1,2,3] ?_
 refine sv 22 (.int .i64 2) ?_
 refine sv 23 (.int .i64 (zh7 (a3))) ?_
 refine sv 24 (.pointer (some ⟨b5,2,none⟩)) ?_
 refine se ?_
 replace L5:=(aH.lc (L5.gr aR) aA).gr aY
 refine es 3 2 (.int .i64 (zh7 (a3))) [(.int .i64 (zh7 (a3)))] #[(.int .i64 (zh7 (a1))),(.int .i64 (zh7 (a2))),(.int .i64 (zh7 (a3)))] L5 hB q5 ⟨rfl,trivial⟩ fun cj aU bE L5 hB=>?_
 refine za0 ?_
 refine bj _ _ ?_
 try clear bj bv
 refine rg [0,1] ?_
 refine sv 25 (.int .i64 3) ?_
 refine sv 10 (.int .i64 3) ?_
 refine za0 ?_
 show Code.rounds _ _ _ _ _ _
 show Code.wp _ _ _ _ _
 refine wp_seq_k (fun bx bb=>?_)
 refine rg [0] ?_
 refine sv 11 (.bool false) ?_
 refine za0 ?_
 refine bb _ _ ?_
 try clear bb bx
 refine wp_seq_k (fun cd bY=>?_)
 refine wp_cond_false rfl ?_
 refine wp_exit ?_
 simp only [Exit.then,Exit.inBlock,↓reduceIte]
 refine k6 _ _ ?_
 try clear k6 K6
 refine wp_seq_k (fun bL a6=>?_)
 refine rg [0,1,2] ?_
 refine sw 26 (.agg #[(.int .i64 (zh7 (a1))),(.int .i64 (zh7 (a2))),(.int .i64 (zh7 (a3)))]) rfl (rl 101 0 [(.int .i64 (zh7 (a1))),(.int .i64 (zh7 (a2))),(.int .i64 (zh7 (a3)))] L5) ?_
 refine se ?_
 replace L3:=aU.lc ((aH.lc (L3.gr aR) aC).gr aY) av
 refine es 101 0 (.agg #[(.int .i64 (zh7 (a1))),(.int .i64 (zh7 (a2))),(.int .i64 (zh7 (a3)))]) [(.int .i64 (zh7 (a1))),(.int .i64 (zh7 (a2))),(.int .i64 (zh7 (a3)))] #[(.int .i64 (zh7 (a1))),(.int .i64 (zh7 (a2))),(.int .i64 (zh7 (a3)))] L3 hB q3 ⟨rfl,rfl,rfl,trivial⟩ fun ch bT bA L3 hB=>?_
 refine sv 3 (.int .i64 0) ?_
 refine za0 ?_
 refine a6 _ _ ?_
 try clear a6 bL
 refine wp_ret ?_
 refine bodyPost_ret (v:=(.tuple #[(.agg #[(.int .i64 (zh7 (a1))),(.int .i64 (zh7 (a2))),(.int .i64 (zh7 (a3)))]),.int .i64 0])) (zc0 _ _ _ rfl rfl L3 (by kernel_rfl) rfl) rfl ⟨?_,hB⟩
 exact rfl

theorem zx0 {k:Nat} {n1 n2 n3:Int} (ar:-9223372036854775808≤n1∧n1≤9223372036854775807) (au:-9223372036854775808≤n2∧n2≤9223372036854775807) (aq:-9223372036854775808≤n3∧n3≤9223372036854775807) {ak al aj ap ae af ab aa ac ad ah ai:Value} {w:World} (g1:IsRat w k ak al aj ap ((n1:Int):Rat)) (g2:IsRat w k ae af ab aa ((n2:Int):Rat)) (g3:IsRat w k ac ad ah ai ((n3:Int):Rat))(hk:k≤25000):
  Calls Tryz.prog 52 #[(.agg #[ak,al,aj,ap,ae,af,ab,aa,ac,ad,ah,ai])] w fun e w'=>e=.returned (.tuple #[.agg #[.int .i64 n1,.int .i64 n2,.int .i64 n3],.int .i64 0])∧Gr w w':=by
 have h:=vints_3 (zr2 ar.1 ar.2).1 (zr2 au.1 au.2).1 (zr2 aq.1 aq.2).1 g1 g2 g3 (by omega)
 rw [(zr2 ar.1 ar.2).2,(zr2 au.1 au.2).2,(zr2 aq.1 aq.2).2] at h
 exact h

noncomputable def tabJn:List (Nat × List (Nat × Ent)):=[(24,[(9,.ord [(true,0),(true,1),(true,2),(true,3),(true,5),(true,6),(false,4),(true,7),(false,8)] [5])]),
 (32,[]),
 (36,[]),
 (38,[]),
 (43,[(1,.ord [(true,0),(true,1),(true,3),(true,4),(false,2),(false,5),(false,6)] [4])]),
 (69,[(8,.ord [(true,0),(true,1),(true,2),(true,3),(true,4),(false,5)] [3])]),
 (74,[(5,.ord [(true,0),(true,1),(true,2),(true,3),(true,4),(true,5),(true,6),(true,7),(false,8),(true,9),(false,10)] [7])]),
 (83,[]),
 (86,[])]
noncomputable def conJn:List (Nat × ConT):=[(103,zp1 100000 (fun k m=>k+m+1) (fun a b=>a+b)),
 (75,zp1 100000 (fun k m=>k+m+1) (fun a b=>a - b)),
 (82,zp1 100000 (fun k m=>k+m) (fun a b=>a*b)),
 (108,cNeg),
 (59,yh9),
 (37,yi0),
 (76,zY4),
 (87,yi1),
 (130,cNum),
 (81,cDen),
 (58,cDiv),
 (96,zG8),
 (80,zY5),
 (122,zY6),
 (123,zY7),
 (68,yi2),
 (105,cTT (fun k m=>k+m+1) fun a b=>a+b),
 (132,cTT (fun k m=>k+m+1) fun a b=>a - b),
 (106,cTT (fun k m=>k+m) fun a b=>a*b),
 (64,yi3),
 (115,yi4),
 (65,zL0),
 (94,zA6 400),
 (107,zA6 65536),
 (14,cOf),
 (22,cPlace)]
noncomputable def sysJn:Sys:=⟨Tryz.prog,2,199,tabJn,conJn,fun w=>Tab w∧Mx w⟩
theorem sysJn_ok:sysJn.OK where
 mixed:=by kernel_rfl
 calls:=fun f h0 h1=>by
  have:(List.range 199).all (fun f=>Nat.blt f 2||okCall Tryz.prog f)=true:=by kernel_rfl
  have:=List.all_eq_true.1 this f (List.mem_range.2 h1)
  simp only [Bool.or_eq_true] at this
  exact this.resolve_left (fun e=>by have:=zf3 e;exact absurd h0 (by show ¬ 2≤f;omega))
 tab:=by
  have:tabJn.all (okTab Tryz.prog)=true:=by kernel_rfl
  exact fun x hx=>List.all_eq_true.1 this x hx
 lps:=zK8 (by kernel_rfl)
 con:=fun x hx=>by
  simp only [sysJn,conJn,List.mem_cons,List.not_mem_nil,or_false] at hx
  rcases hx with rfl | rfl | rfl | rfl | rfl | rfl | rfl | rfl | rfl | rfl | rfl | rfl | rfl | rfl | rfl | rfl | rfl | rfl | rfl | rfl | rfl | rfl | rfl | rfl | rfl | rfl
  ·exact ze1 fun h1 h2 h3=>zi7 h1 h2 h3
  ·exact ze1 fun h1 h2 h3=>zt2 h1 h2 h3
  ·exact ze1 fun h1 h2 h3=>ym7 h1 h2 h3
  ·exact zG9
  ·exact zv2
  ·exact zv3
  ·exact zq6
  ·exact zv4 fun w h=>h.1
  ·exact zy4
  ·exact zy5
  ·exact zH0
  ·exact zk6
  ·exact zq7
  ·exact zq8
  ·exact zq9
  ·exact zv5
  ·exact zv6
  ·exact zv7
  ·exact zv8
  ·exact zv9
  ·exact zw0
  ·exact zp3
  ·exact zw1 fun w h=>h.2
  ·exact zw2 fun w h=>h.2
  ·exact yl4 fun w h=>h
  ·exact ym3 fun w h=>h
 inv:=fun w w' h g=>⟨h.1.gr g,h.2.gr g⟩
theorem okFn_nil {n:Nn} {X:Env} {W:World}:okF n X W []:=fun _ h=>by cases h
theorem zQ0 {n:Nn} {X:Env} {W:World} {v:SV} {l:List SV} (h:v.ok n X W) (hl:okF n X W l):okF n X W (v::l):=fun x hx=>by
 rcases List.mem_cons.1 hx with rfl | hx
 ·exact h
 ·exact hl x hx
def m12 (A:Mo):Mo:=mo12 (A 0) (A 1) (A 2) (A 3) (A 4) (A 5) (A 6) (A 7) (A 8) (A 9) (A 10) (A 11)
def mT (w x y z:Int):Mo:=pm (roE w x y z) 0 0 0
def treeJn (qa0 qa1 qa2 qa3 qb0 qb1 qb2 qb3:Int):Lf:=.as (decide (chk qa0 qa1 qa2 qa3 0=0)) true (.as (decide (chk qb0 qb1 qb2 qb3 0=0)) true (.ret (plV (m12 (mc (mT qa0 qa1 qa2 qa3) (mT qb0 qb1 qb2 qb3))))))
theorem runJn (ac ae af ai ad ah ab aa:Int):runF sysJn 32 [.so (.vg [.ci .i64 ac (-12) 12,.ci .i64 ae (-12) 12,.ci .i64 af (-12) 12,.ci .i64 ai (-12) 12,.cw (za3 0) (some (64,0)),.cw (za3 0) (some (64,0)),.cw (za3 0) (some (64,0))]),.so (.vg [.ci .i64 ad (-12) 12,.ci .i64 ah (-12) 12,.ci .i64 ab (-12) 12,.ci .i64 aa (-12) 12,.cw (za3 0) (some (64,0)),.cw (za3 0) (some (64,0)),.cw (za3 0) (some (64,0))])] 0 0 (.f (.f .e))=some (treeJn ac ae af ai ad ah ab aa):=by kernel_rfl
theorem ym4:za3 0=[48]:=zT5
theorem rs0 (k:Nat) (hk:0<k):RS k (0:Rat):=⟨Nat.two_pow_pos k,Nat.one_lt_two_pow (by omega)⟩
theorem perr_t {z0 z1 z2 z3:Int} {x y t:List UInt8}:zI3 true z0 z1 z2 z3 x y t=if (-12≤z0∧z0≤12)∧(-12≤z1∧z1≤12)∧(-12≤z2∧z2≤12)∧(-12≤z3∧z3≤12) then (if ((x.length:Int)≤400)∧((y.length:Int)≤400)∧((t.length:Int)≤400) then 0 else 5) else 2:=by unfold zI3;rw [if_pos rfl]
theorem jn_pl {af aj ak ap ah al ae ai:Int} (hv:VT af aj ak ap) (hw:VT ah al ae ai) (aa ac ab ad:Int) (av:aa=af*ah - aj*al - ak*ae - ap*ai) (au:ac=af*al+aj*ah+ak*ai - ap*ae) (ar:ab=af*ae - aj*ai+ak*ah+ap*al) (aq:ad=af*ai+aj*ae - ak*al+ap*ah):(plV (m12 (mc (mT af aj ak ap) (mT ah al ae ai)))).den=fun _=>.tuple #[.agg #[.int .i64 (pif (zI3 true (za1 aa ac ab ad aa) (za1 aa ac ab ad ac) (za1 aa ac ab ad ab) (za1 aa ac ab ad ad) ([48]:List UInt8) ([48]:List UInt8) ([48]:List UInt8)) (za1 aa ac ab ad aa)),.int .i64 (pif (zI3 true (za1 aa ac ab ad aa) (za1 aa ac ab ad ac) (za1 aa ac ab ad ab) (za1 aa ac ab ad ad) ([48]:List UInt8) ([48]:List UInt8) ([48]:List UInt8)) (za1 aa ac ab ad ac)),.int .i64 (pif (zI3 true (za1 aa ac ab ad aa) (za1 aa ac ab ad ac) (za1 aa ac ab ad ab) (za1 aa ac ab ad ad) ([48]:List UInt8) ([48]:List UInt8) ([48]:List UInt8)) (za1 aa ac ab ad ab)),.int .i64 (pif (zI3 true (za1 aa ac ab ad aa) (za1 aa ac ab ad ac) (za1 aa ac ab ad ab) (za1 aa ac ab ad ad) ([48]:List UInt8) ([48]:List UInt8) ([48]:List UInt8)) (za1 aa ac ab ad ad)),.string ⟨(pit (zI3 true (za1 aa ac ab ad aa) (za1 aa ac ab ad ac) (za1 aa ac ab ad ab) (za1 aa ac ab ad ad) ([48]:List UInt8) ([48]:List UInt8) ([48]:List UInt8)) ([48]:List UInt8)).toArray⟩,.string ⟨(pit (zI3 true (za1 aa ac ab ad aa) (za1 aa ac ab ad ac) (za1 aa ac ab ad ab) (za1 aa ac ab ad ad) ([48]:List UInt8) ([48]:List UInt8) ([48]:List UInt8)) ([48]:List UInt8)).toArray⟩,.string ⟨(pit (zI3 true (za1 aa ac ab ad aa) (za1 aa ac ab ad ac) (za1 aa ac ab ad ab) (za1 aa ac ab ad ad) ([48]:List UInt8) ([48]:List UInt8) ([48]:List UInt8)) ([48]:List UInt8)).toArray⟩],.int .i64 (zI3 true (za1 aa ac ab ad aa) (za1 aa ac ab ad ac) (za1 aa ac ab ad ab) (za1 aa ac ab ad ad) ([48]:List UInt8) ([48]:List UInt8) ([48]:List UInt8))]:=by
 have hn:¬(aa=0∧ac=0∧ab=0∧ad=0):=qmul_ne hv.ne hw.ne av au ar aq
 have hr:RotM (mc (mT af aj ak ap) (mT ah al ae ai)) aa ac ab ad:=mc_rot (zO6 hv) (zO6 hw) av au ar aq
 obtain ⟨w0,w1,w2,w3⟩:=wzq_rot hn hr
 have hg:rigM (m12 (mc (mT af aj ak ap) (mT ah al ae ai)))=true:=by
  have:=rig_mat hn hr
  show rigM (mc (mT af aj ak ap) (mT ah al ae ai))=true
  unfold rigM;rw [this.1,this.2];rfl
 have z0:zwM (m12 (mc (mT af aj ak ap) (mT ah al ae ai))) 0=_:=w0
 have z1:zwM (m12 (mc (mT af aj ak ap) (mT ah al ae ai))) 1=_:=w1
 have z2:zwM (m12 (mc (mT af aj ak ap) (mT ah al ae ai))) 2=_:=w2
 have z3:zwM (m12 (mc (mT af aj ak ap) (mT ah al ae ai))) 3=_:=w3
 have t1:(m12 (mc (mT af aj ak ap) (mT ah al ae ai))) 9=0:=by show mc (mT af aj ak ap) (mT ah al ae ai) 9=0;simp only [mc,mT,pm,d3];grind
 have t2:(m12 (mc (mT af aj ak ap) (mT ah al ae ai))) 10=0:=by show mc (mT af aj ak ap) (mT ah al ae ai) 10=0;simp only [mc,mT,pm,d3];grind
 have t3:(m12 (mc (mT af aj ak ap) (mT ah al ae ai))) 11=0:=by show mc (mT af aj ak ap) (mT ah al ae ai) 11=0;simp only [mc,mT,pm,d3];grind
 have ee:ePl (m12 (mc (mT af aj ak ap) (mT ah al ae ai)))=(zI3 true (za1 aa ac ab ad aa) (za1 aa ac ab ad ac) (za1 aa ac ab ad ab) (za1 aa ac ab ad ad) ([48]:List UInt8) ([48]:List UInt8) ([48]:List UInt8)):=by unfold ePl;rw [hg,z0,z1,z2,z3,t1,t2,t3,ym4]
 funext X
 unfold plV
 rw [ee,z0,z1,z2,z3,t1,t2,t3,ym4]
 rfl
theorem mof_0 {aq ak al ap:Int} (va:VT aq ak al ap) {ah ai af ae ad aj ac ab aa:Rat} (oa:RotQ ah ai af ae ad aj ac ab aa aq ak al ap) (w:World) (hm:Mx w) (ht:Tab w):
  Calls Tryz.prog 14 #[.agg #[.int .i64 aq,.int .i64 ak,.int .i64 al,.int .i64 ap,.string ⟨([48]:List UInt8).toArray⟩,.string ⟨([48]:List UInt8).toArray⟩,.string ⟨([48]:List UInt8).toArray⟩]] w fun e w'=>(∃ t0 t1 t2 t3 t4 t5 t6 t7 t8 t9 aE aA aK aQ aU az aB aM aY aL aW aX aJ bc bb ar aN aT aZ bf aP au aw aI aO aC av ay aR ax bd aS aV aG aD aF ba aH,e=.returned (.tuple #[.agg #[t0,t1,t2,t3,t4,t5,t6,t7,t8,t9,aE,aA,aK,aQ,aU,az,aB,aM,aY,aL,aW,aX,aJ,bc,bb,ar,aN,aT,aZ,bf,aP,au,aw,aI,aO,aC,av,ay,aR,ax,bd,aS,aV,aG,aD,aF,ba,aH],.int .i64 0])∧IsRat w' 64 t0 t1 t2 t3 ah∧IsRat w' 64 t4 t5 t6 t7 ai∧IsRat w' 64 t8 t9 aE aA af∧IsRat w' 64 aK aQ aU az ae∧IsRat w' 64 aB aM aY aL ad∧IsRat w' 64 aW aX aJ bc aj∧IsRat w' 64 bb ar aN aT ac∧IsRat w' 64 aZ bf aP au ab∧IsRat w' 64 aw aI aO aC aa∧IsRat w' 64 av ay aR ax 0∧IsRat w' 64 bd aS aV aG 0∧IsRat w' 64 aD aF ba aH 0)∧Gr w w':=by
 have h0:=rs0 64 (by omega)
 have:=of_c va h0 h0 h0 w ⟨ht,hm⟩
 rw [ym4] at this
 refine this.mono fun e w' he=>⟨?_,he.2⟩
 obtain ⟨⟨vs,rfl,h⟩,_⟩:=he
 obtain ⟨u0,u1,u2,u3,u4,u5,u6,u7,u8⟩:=zE6 (nq_int va.ne) (zO6 va) oa
 unfold yl3 at h
 rw [u0,u1,u2,u3,u4,u5,u6,u7,u8] at h
 obtain ⟨a0,b0,c0,d0,v0,rfl,g0,h1⟩:=h.cons
 obtain ⟨a1,b1,c1,d1,v1,rfl,g1,h2⟩:=h1.cons
 obtain ⟨a2,b2,c2,d2,v2,rfl,g2,h3⟩:=h2.cons
 obtain ⟨a3,b3,c3,d3,v3,rfl,g3,h4⟩:=h3.cons
 obtain ⟨a4,b4,c4,d4,v4,rfl,g4,h5⟩:=h4.cons
 obtain ⟨a5,b5,c5,d5,v5,rfl,g5,h6⟩:=h5.cons
 obtain ⟨a6,b6,c6,d6,v6,rfl,g6,h7⟩:=h6.cons
 obtain ⟨a7,b7,c7,d7,v7,rfl,g7,h8⟩:=h7.cons
 obtain ⟨a8,b8,c8,d8,v8,rfl,g8,h9⟩:=h8.cons
 obtain ⟨a9,b9,c9,d9,v9,rfl,g9,bj⟩:=h9.cons
 obtain ⟨bn,bt,bo,bq,bm,rfl,bi,bh⟩:=bj.cons
 obtain ⟨a11,bw,bu,bv,bp,rfl,bk,bg⟩:=bh.cons
 have:=bg.nil
 subst this
 exact ⟨_,_,_,_,_,_,_,_,_,_,_,_,_,_,_,_,_,_,_,_,_,_,_,_,_,_,_,_,_,_,_,_,_,_,_,_,_,_,_,_,_,_,_,_,_,_,_,_,rfl,g0,g1,g2,g3,g4,g5,g6,g7,g8,g9,bi,bk⟩
theorem mjoin_0 {ah aj ak ap:Int} (va:VT ah aj ak ap) {ai al af ae:Int} (vb:VT ai al af ae) (aa ac ab ad:Int) (au:aa=ah*ai - aj*al - ak*af - ap*ae) (ar:ac=ah*al+aj*ai+ak*ae - ap*af) (av:ab=ah*af - aj*ae+ak*ai+ap*al) (aq:ad=ah*ae+aj*af - ak*al+ap*ai) (w:World) (hm:Mx w) (ht:Tab w):
  Calls Tryz.prog 32 #[.agg #[.int .i64 ah,.int .i64 aj,.int .i64 ak,.int .i64 ap,.string ⟨([48]:List UInt8).toArray⟩,.string ⟨([48]:List UInt8).toArray⟩,.string ⟨([48]:List UInt8).toArray⟩],.agg #[.int .i64 ai,.int .i64 al,.int .i64 af,.int .i64 ae,.string ⟨([48]:List UInt8).toArray⟩,.string ⟨([48]:List UInt8).toArray⟩,.string ⟨([48]:List UInt8).toArray⟩]] w fun e w'=>e=.returned (.tuple #[.agg #[.int .i64 (pif (zI3 true (za1 aa ac ab ad aa) (za1 aa ac ab ad ac) (za1 aa ac ab ad ab) (za1 aa ac ab ad ad) ([48]:List UInt8) ([48]:List UInt8) ([48]:List UInt8)) (za1 aa ac ab ad aa)),.int .i64 (pif (zI3 true (za1 aa ac ab ad aa) (za1 aa ac ab ad ac) (za1 aa ac ab ad ab) (za1 aa ac ab ad ad) ([48]:List UInt8) ([48]:List UInt8) ([48]:List UInt8)) (za1 aa ac ab ad ac)),.int .i64 (pif (zI3 true (za1 aa ac ab ad aa) (za1 aa ac ab ad ac) (za1 aa ac ab ad ab) (za1 aa ac ab ad ad) ([48]:List UInt8) ([48]:List UInt8) ([48]:List UInt8)) (za1 aa ac ab ad ab)),.int .i64 (pif (zI3 true (za1 aa ac ab ad aa) (za1 aa ac ab ad ac) (za1 aa ac ab ad ab) (za1 aa ac ab ad ad) ([48]:List UInt8) ([48]:List UInt8) ([48]:List UInt8)) (za1 aa ac ab ad ad)),.string ⟨(pit (zI3 true (za1 aa ac ab ad aa) (za1 aa ac ab ad ac) (za1 aa ac ab ad ab) (za1 aa ac ab ad ad) ([48]:List UInt8) ([48]:List UInt8) ([48]:List UInt8)) ([48]:List UInt8)).toArray⟩,.string ⟨(pit (zI3 true (za1 aa ac ab ad aa) (za1 aa ac ab ad ac) (za1 aa ac ab ad ab) (za1 aa ac ab ad ad) ([48]:List UInt8) ([48]:List UInt8) ([48]:List UInt8)) ([48]:List UInt8)).toArray⟩,.string ⟨(pit (zI3 true (za1 aa ac ab ad aa) (za1 aa ac ab ad ac) (za1 aa ac ab ad ab) (za1 aa ac ab ad ad) ([48]:List UInt8) ([48]:List UInt8) ([48]:List UInt8)) ([48]:List UInt8)).toArray⟩],.int .i64 (zI3 true (za1 aa ac ab ad aa) (za1 aa ac ab ad ac) (za1 aa ac ab ad ab) (za1 aa ac ab ad ad) ([48]:List UInt8) ([48]:List UInt8) ([48]:List UInt8))])∧Gr w w':=by
 have h0:=rs0 64 (by omega)
 have tx:(Cl.cw (za3 0) (some (64,0))).ok ⟨0,0,0⟩ (zU0 []) w:=⟨rfl,fun k q e=>by cases e;exact ⟨rfl,h0⟩⟩
 rw [← ym4]
 refine (zf8 sysJn sysJn_ok (runJn ah aj ak ap ai al af ae) (X:=zU0 []) ⟨ht,hm⟩ (zQ0 (zm6 ⟨⟨rfl,va.b0⟩,⟨rfl,va.b1⟩,⟨rfl,va.b2⟩,⟨rfl,va.b3⟩,tx,tx,tx,trivial⟩) (zQ0 (zm6 ⟨⟨rfl,vb.b0⟩,⟨rfl,vb.b1⟩,⟨rfl,vb.b2⟩,⟨rfl,vb.b3⟩,tx,tx,tx,trivial⟩) okFn_nil)) (Post:=fun v=>v=plV (m12 (mc (mT ah aj ak ap) (mT ai al af ae)))) ⟨decide_eq_true (va.chk 0),decide_eq_true (vb.chk 0),rfl⟩).mono fun e w' he=>?_
 obtain ⟨v,X',n,rfl,g,_,_,rfl⟩:=he
 rw [ym4]
 have hj:=congrFun (jn_pl va vb aa ac ab ad au ar av aq) X'
 exact ⟨congrArg Ending.returned hj,g⟩
def qz (n:Nat):Int × Int × Int × Int:=quarters.getD n (0,0,0,0)
def qnum (z:Int × Int × Int × Int):List Int:=
 let (w,x,y,z):=z
 [w*w+x*x - y*y - z*z,2*(x*y - w*z),2*(x*z+w*y),2*(x*y+w*z),w*w - x*x+y*y - z*z,2*(y*z - w*x),2*(x*z - w*y),2*(y*z+w*x),w*w - x*x - y*y+z*z]
def qe (n i j:Nat):Int:=(qnum (qz n)).getD (3*i+j) 0/qSq (qz n)
def qVT (z:Int × Int × Int × Int):Bool:=
 decide (-12≤z.1∧z.1≤12)&&decide (-12≤z.2.1∧z.2.1≤12)&&decide (-12≤z.2.2.1∧z.2.2.1≤12)&&decide (-12≤z.2.2.2∧z.2.2.2≤12)&&decide (qgcd z.1 z.2.1 z.2.2.1 z.2.2.2=1)&&decide (qsgn z.1 z.2.1 z.2.2.1 z.2.2.2=1)
def qChk (n:Nat):Bool:=
 qVT (qz n)&&((List.range 3).all fun i=>((List.range 3).all fun j=>decide (qe n i j*(0+(qz n).1*(qz n).1+(qz n).2.1*(qz n).2.1+(qz n).2.2.1*(qz n).2.2.1+(qz n).2.2.2*(qz n).2.2.2)=(qnum (qz n)).getD (3*i+j) 0)&&decide (-1≤qe n i j∧qe n i j≤1))&&decide (qe n i 0*qe n i 0+qe n i 1*qe n i 1+qe n i 2*qe n i 2=1))
theorem q_chk:((List.range 24).all qChk)=true:=by decide+kernel
theorem q_at {n:Nat} (hn:n<24):qChk n=true:=List.all_eq_true.1 q_chk n (List.mem_range.2 hn)
theorem q_vt {n:Nat} (hn:n<24):VT (quarters.getD n (0,0,0,0)).1 (quarters.getD n (0,0,0,0)).2.1 (quarters.getD n (0,0,0,0)).2.2.1 (quarters.getD n (0,0,0,0)).2.2.2:=by
 have h:=q_at hn
 unfold qChk qVT at h
 simp only [Bool.and_eq_true,decide_eq_true_eq] at h
 obtain ⟨⟨⟨⟨⟨⟨h0,h1⟩,h2⟩,h3⟩,h4⟩,h5⟩,_⟩:=h
 exact ⟨h0,h1,h2,h3,h4,h5⟩
theorem q_row {n i:Nat} (hn:n<24) (hi:i<3):(∀ j,j<3→qe n i j*(0+(qz n).1*(qz n).1+(qz n).2.1*(qz n).2.1+(qz n).2.2.1*(qz n).2.2.1+(qz n).2.2.2*(qz n).2.2.2)=(qnum (qz n)).getD (3*i+j) 0∧-1≤qe n i j∧qe n i j≤1)∧qe n i 0*qe n i 0+qe n i 1*qe n i 1+qe n i 2*qe n i 2=1:=by
 have h:=q_at hn
 unfold qChk at h
 simp only [Bool.and_eq_true,List.all_eq_true,List.mem_range,decide_eq_true_eq] at h
 obtain ⟨h1,h2⟩:=h.2 i hi
 exact ⟨fun j hj=>h1 j hj,h2⟩
theorem q_b {n i j:Nat} (hn:n<24) (hi:i<3) (hj:j<3):-1≤qe n i j∧qe n i j≤1:=((q_row hn hi).1 j hj).2
theorem yg7 {n i:Nat} (hn:n<24) (hi:i<3):((((qe n i 0)*(qe n i 0))+((qe n i 1)*(qe n i 1)))+((qe n i 2)*(qe n i 2)) !=(1:Int))=false:=by
 rw [(q_row hn hi).2];rfl
theorem q_rot {n:Nat} (hn:n<24):RotQ ((qe n 0 0:Int):Rat) ((qe n 0 1:Int):Rat) ((qe n 0 2:Int):Rat) ((qe n 1 0:Int):Rat) ((qe n 1 1:Int):Rat) ((qe n 1 2:Int):Rat) ((qe n 2 0:Int):Rat) ((qe n 2 1:Int):Rat) ((qe n 2 2:Int):Rat)
  (((quarters.getD n (0,0,0,0)).1:Int):Rat) (((quarters.getD n (0,0,0,0)).2.1:Int):Rat) (((quarters.getD n (0,0,0,0)).2.2.1:Int):Rat) (((quarters.getD n (0,0,0,0)).2.2.2:Int):Rat):=by
 have go:∀ (i j:Nat) (hi:i<3) (hj:j<3) (N e:Rat),N=(((0+(qz n).1*(qz n).1+(qz n).2.1*(qz n).2.1+(qz n).2.2.1*(qz n).2.2.1+(qz n).2.2.2*(qz n).2.2.2:Int)):Rat)→(((qnum (qz n)).getD (3*i+j) 0:Int):Rat)=e→((qe n i j:Int):Rat)*N=e:=by
  intro i j hi hj N e h1 h2
  rw [h1,← h2,← Rat.intCast_mul,((q_row hn hi).1 j hj).1]
 have hN:((quarters.getD n (0,0,0,0)).1:Rat)*(quarters.getD n (0,0,0,0)).1+(quarters.getD n (0,0,0,0)).2.1*(quarters.getD n (0,0,0,0)).2.1+(quarters.getD n (0,0,0,0)).2.2.1*(quarters.getD n (0,0,0,0)).2.2.1+(quarters.getD n (0,0,0,0)).2.2.2*(quarters.getD n (0,0,0,0)).2.2.2
   =(((0+(qz n).1*(qz n).1+(qz n).2.1*(qz n).2.1+(qz n).2.2.1*(qz n).2.2.1+(qz n).2.2.2*(qz n).2.2.2:Int)):Rat):=by
  rw [Int.zero_add]
  simp only [Rat.intCast_add,Rat.intCast_mul]
  rfl
 constructor
 ·refine go 0 0 (by omega) (by omega) _ _ hN ?_;exact (Rat.intCast_sub _ _).trans (by simp only [Rat.intCast_add,Rat.intCast_sub,Rat.intCast_mul];rfl)
 ·refine go 0 1 (by omega) (by omega) _ _ hN ?_;exact (Rat.intCast_mul _ _).trans (by simp only [Rat.intCast_sub,Rat.intCast_mul];rfl)
 ·refine go 0 2 (by omega) (by omega) _ _ hN ?_;exact (Rat.intCast_mul _ _).trans (by simp only [Rat.intCast_add,Rat.intCast_mul];rfl)
 ·refine go 1 0 (by omega) (by omega) _ _ hN ?_;exact (Rat.intCast_mul _ _).trans (by simp only [Rat.intCast_add,Rat.intCast_mul];rfl)
 ·refine go 1 1 (by omega) (by omega) _ _ hN ?_;exact (Rat.intCast_sub _ _).trans (by simp only [Rat.intCast_add,Rat.intCast_sub,Rat.intCast_mul];rfl)
 ·refine go 1 2 (by omega) (by omega) _ _ hN ?_;exact (Rat.intCast_mul _ _).trans (by simp only [Rat.intCast_sub,Rat.intCast_mul];rfl)
 ·refine go 2 0 (by omega) (by omega) _ _ hN ?_;exact (Rat.intCast_mul _ _).trans (by simp only [Rat.intCast_sub,Rat.intCast_mul];rfl)
 ·refine go 2 1 (by omega) (by omega) _ _ hN ?_;exact (Rat.intCast_mul _ _).trans (by simp only [Rat.intCast_add,Rat.intCast_mul];rfl)
 ·refine go 2 2 (by omega) (by omega) _ _ hN ?_;exact (Rat.intCast_add _ _).trans (by simp only [Rat.intCast_sub,Rat.intCast_mul];rfl)
def yp6 (a0 a1 a2 a3 b0 b1 b2 b3:Int):Bool:=if a0 !=b0 then decide (a0<b0) else if a1 !=b1 then decide (a1<b1) else if a2 !=b2 then decide (a2<b2) else if a3 !=b3 then decide (a3<b3) else false
def qLex (a b:Int × Int × Int × Int):Bool:=yp6 a.1 a.2.1 a.2.2.1 a.2.2.2 b.1 b.2.1 b.2.2.1 b.2.2.2
theorem q_lex:((List.range 23).all fun n=>qLex (qz n) (qz (n+1)))=true:=by decide+kernel
theorem q_before {n:Nat} (hp:0<n) (hn:n<24):yp6 (quarters.getD (n - 1) (0,0,0,0)).1 (quarters.getD (n - 1) (0,0,0,0)).2.1 (quarters.getD (n - 1) (0,0,0,0)).2.2.1 (quarters.getD (n - 1) (0,0,0,0)).2.2.2 (quarters.getD n (0,0,0,0)).1 (quarters.getD n (0,0,0,0)).2.1 (quarters.getD n (0,0,0,0)).2.2.1 (quarters.getD n (0,0,0,0)).2.2.2=true:=by
 have h:=List.all_eq_true.1 q_lex (n - 1) (List.mem_range.2 (by omega))
 rw [show n - 1+1=n by omega] at h
 exact h
def qProd (a b:Int × Int × Int × Int):Int × Int × Int × Int:=
 (a.1*b.1 - a.2.1*b.2.1 - a.2.2.1*b.2.2.1 - a.2.2.2*b.2.2.2,a.1*b.2.1+a.2.1*b.1+a.2.2.1*b.2.2.2 - a.2.2.2*b.2.2.1,a.1*b.2.2.1 - a.2.1*b.2.2.2+a.2.2.1*b.1+a.2.2.2*b.2.1,a.1*b.2.2.2+a.2.1*b.2.2.1 - a.2.2.1*b.2.1+a.2.2.2*b.1)
def qPr (n:Int × Int × Int × Int):Int × Int × Int × Int:=(za1 n.1 n.2.1 n.2.2.1 n.2.2.2 n.1,za1 n.1 n.2.1 n.2.2.1 n.2.2.2 n.2.1,za1 n.1 n.2.1 n.2.2.1 n.2.2.2 n.2.2.1,za1 n.1 n.2.1 n.2.2.1 n.2.2.2 n.2.2.2)
theorem q_closed:((List.range 24).all fun i=>(List.range 24).all fun k=>(List.range 24).any fun m=>qPr (qProd (qz i) (qz k))==qz m)=true:=by decide+kernel
theorem qjoin {i k:Nat} (hi:i<24) (hk:k<24) (w:World) (hm:Mx w) (ht:Tab w):
  Calls Tryz.prog 32 #[.agg #[.int .i64 (quarters.getD i (0,0,0,0)).1,.int .i64 (quarters.getD i (0,0,0,0)).2.1,.int .i64 (quarters.getD i (0,0,0,0)).2.2.1,.int .i64 (quarters.getD i (0,0,0,0)).2.2.2,.string ⟨([48]:List UInt8).toArray⟩,.string ⟨([48]:List UInt8).toArray⟩,.string ⟨([48]:List UInt8).toArray⟩],
   .agg #[.int .i64 (quarters.getD k (0,0,0,0)).1,.int .i64 (quarters.getD k (0,0,0,0)).2.1,.int .i64 (quarters.getD k (0,0,0,0)).2.2.1,.int .i64 (quarters.getD k (0,0,0,0)).2.2.2,.string ⟨([48]:List UInt8).toArray⟩,.string ⟨([48]:List UInt8).toArray⟩,.string ⟨([48]:List UInt8).toArray⟩]] w
   fun e w'=>(∃ m,m<24∧e=.returned (.tuple #[.agg #[.int .i64 (quarters.getD m (0,0,0,0)).1,.int .i64 (quarters.getD m (0,0,0,0)).2.1,.int .i64 (quarters.getD m (0,0,0,0)).2.2.1,.int .i64 (quarters.getD m (0,0,0,0)).2.2.2,.string ⟨([48]:List UInt8).toArray⟩,.string ⟨([48]:List UInt8).toArray⟩,.string ⟨([48]:List UInt8).toArray⟩],.int .i64 0]))∧Gr w w':=by
 have h1:=List.all_eq_true.1 (List.all_eq_true.1 q_closed i (List.mem_range.2 hi)) k (List.mem_range.2 hk)
 obtain ⟨m,ab,aa⟩:=List.any_eq_true.1 h1
 have ab:=List.mem_range.1 ab
 have aa:=eq_of_beq aa
 have e0:=congrArg Prod.fst aa
 have e1:=congrArg (fun z=>z.2.1) aa
 have e2:=congrArg (fun z=>z.2.2.1) aa
 have e3:=congrArg (fun z=>z.2.2.2) aa
 have hv:=q_vt ab
 refine (mjoin_0 (q_vt hi) (q_vt hk) _ _ _ _ rfl rfl rfl rfl w hm ht).mono ?_
 rintro e w1 ⟨he,g⟩
 refine ⟨⟨m,ab,he.trans ?_⟩,g⟩
 have f0:za1 _ _ _ _ _=(quarters.getD m (0,0,0,0)).1:=e0
 have f1:za1 _ _ _ _ _=(quarters.getD m (0,0,0,0)).2.1:=e1
 have f2:za1 _ _ _ _ _=(quarters.getD m (0,0,0,0)).2.2.1:=e2
 have f3:za1 _ _ _ _ _=(quarters.getD m (0,0,0,0)).2.2.2:=e3
 simp only [qProd,qz] at f0 f1 f2 f3
 rw [f0,f1,f2,f3,perr_t,if_pos ⟨hv.b0,hv.b1,hv.b2,hv.b3⟩,if_pos (by decide)]
 rfl
section
variable {P:Program} {a:Act} {o:Oper} {w:World}
theorem yp7 {α:Type} {E:World→α→List Value→Prop} {T:TypeId} {c:Nat} {v:Value} {xs:List α} {w0:World} (h:Sl E T c w0 v xs) (hc:0<c) (i:Nat) (hi:i<xs.length) (t:TypeId) (k:IntKind) (x y:Operand) (hop:o.op=.indexAddr t x y) (hx:a.eval x=v) (hy:a.eval y=.int k (i:Int))
  {e:TypeId} (hu:P.underlying t=some (.slice e)) (hs:(P.info? e).map (·.size)=some c):RunV P a o w (adr v (i*c)):=by
 obtain ⟨b,off,cap,rfl⟩:=h.adr_some hc (by omega)
 obtain ⟨j,hj,hsz⟩:=Option.map_eq_some_iff.1 hs
 unfold RunV execOp
 simp only [hop,hx,hy]
 have h1:(0:Int)≤(i:Int)∧(i:Int)<(xs.length:Int):=by omega
 by_cases h0:i*c=0<;>simp [Instr.indexAt,asIntOf,run_underlying hu,sizeOf,typeInfo,hj,hsz,h1,hi,h0,adr,Addr.add]
end
theorem atq4 {T:TypeId} {w:World} {v:Value} {xs:List (Int × Int × Int × Int)} {n:Nat} (h:Sl EQ4 T 4 w v xs) (hn:n<xs.length):
  AtV w v (n*4) [.int .i64 ((xs).getD n (0,0,0,0)).1,.int .i64 ((xs).getD n (0,0,0,0)).2.1,.int .i64 ((xs).getD n (0,0,0,0)).2.2.1,.int .i64 ((xs).getD n (0,0,0,0)).2.2.2]:=by
 obtain ⟨_,_,rfl,ha⟩:=h.get (by decide) (getD_some (d:=(0,0,0,0)) hn)
 exact ha
end Go.Proofs.YtaldbfflkpgfoaaGreatDoor
