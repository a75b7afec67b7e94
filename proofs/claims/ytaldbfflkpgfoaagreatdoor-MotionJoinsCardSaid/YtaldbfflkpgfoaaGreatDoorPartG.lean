/- Joined of: Gen124, Gen125, Gen94, Gen122, Gen126, Qu, Gen100, Gen127, Gen128, Law, Law2, Law3, Gen120, Gen130, Pl2, Mat, Gen137. -/
import Derived.Test.YtaldbfflkpgfoaaGreatDoorPartF
import Derived.Test.YtaldbfflkpgfoaaGreatDoorPartE
import Derived.Test.YtaldbfflkpgfoaaGreatDoorPartD
import Derived.Test.YtaldbfflkpgfoaaGreatDoorPartC
import Derived.ProofKit
import Derived.Below
import Derived.Deep.DeepHandedRow
import Derived.Lib.LaidTab
import Derived.Stop.LaidErr
import Derived.LaidSub
import Derived.Lay
import Derived.MakeChecks
import Derived.SizedLaws
import Derived.ChangeArms
import Derived.OpenShut
namespace Go.Proofs.YtaldbfflkpgfoaaGreatDoor
open Go.RowKit

noncomputable def tabQ:List (Nat × List (Nat × Ent)):=[(21,[(12,.ord [(true,0),(true,1),(true,2),(true,3),(true,4),(true,5),(true,6),(true,8),(true,9),(true,10),(true,11),(true,12),(true,13),(false,7),(false,14),(false,15),(true,16),(false,17)] [5]),(13,.ord [(true,0),(true,2),(false,1),(false,3),(true,4),(false,5)] [2])]),
 (45,[])]
noncomputable def conQ:List (Nat × ConT):=[(103,zk5 100000 (fun k m=>k+m+1) (fun a b=>a+b)),
 (75,zk5 100000 (fun k m=>k+m+1) (fun a b=>a - b)),
 (82,zk5 100000 (fun k m=>k+m) (fun a b=>a*b)),
 (108,cNeg),
 (59,ya9),
 (37,yb0),
 (76,zU7),
 (87,yb1),
 (130,cNum),
 (81,cDen),
 (58,cDiv),
 (96,zA2),
 (80,zU8),
 (122,zU9),
 (123,zV0),
 (68,yb2),
 (105,cTT (fun k m=>k+m+1) fun a b=>a+b),
 (132,cTT (fun k m=>k+m+1) fun a b=>a - b),
 (106,cTT (fun k m=>k+m) fun a b=>a*b),
 (64,yb3),
 (115,yb4),
 (65,zE6),
 (94,zv4 400),
 (107,zv4 65536),
 (15,cChk),
 (66,zV4)]
noncomputable def sysQ:Sys:=⟨Tryz.prog,2,199,tabQ,conQ,fun w=>Tab w∧Mx w⟩
theorem sysQ_ok:sysQ.OK where
 mixed:=by kernel_rfl
 calls:=fun f h0 h1=>by
  have:(List.range 199).all (fun f=>Nat.blt f 2||okCall Tryz.prog f)=true:=by kernel_rfl
  have:=List.all_eq_true.1 this f (List.mem_range.2 h1)
  simp only [Bool.or_eq_true] at this
  exact this.resolve_left (fun e=>by have:=ze7 e;exact absurd h0 (by show ¬ 2≤f;omega))
 tab:=by
  have:tabQ.all (okTab Tryz.prog)=true:=by kernel_rfl
  exact fun x hx=>List.all_eq_true.1 this x hx
 lps:=zv8 (by kernel_rfl)
 con:=fun x hx=>by
  simp only [sysQ,conQ,List.mem_cons,List.not_mem_nil,or_false] at hx
  rcases hx with rfl | rfl | rfl | rfl | rfl | rfl | rfl | rfl | rfl | rfl | rfl | rfl | rfl | rfl | rfl | rfl | rfl | rfl | rfl | rfl | rfl | rfl | rfl | rfl | rfl | rfl
  ·exact zc6 fun h1 h2 h3=>zj5 h1 h2 h3
  ·exact zc6 fun h1 h2 h3=>zv1 h1 h2 h3
  ·exact zc6 fun h1 h2 h3=>yd1 h1 h2 h3
  ·exact zw7
  ·exact zo8
  ·exact zo9
  ·exact zl9
  ·exact zp0 fun w h=>h.1
  ·exact zt0
  ·exact zt1
  ·exact zw8
  ·exact zj0
  ·exact zm0
  ·exact zm1
  ·exact zm2
  ·exact zp1
  ·exact zp2
  ·exact zp3
  ·exact zp4
  ·exact zp5
  ·exact zp6
  ·exact zk6
  ·exact zp7 fun w h=>h.2
  ·exact zp8 fun w h=>h.2
  ·exact zV3 fun w h=>h.2
  ·exact zp9
 inv:=fun w w' h g=>⟨h.1.gr g,h.2.gr g⟩
def treeP (t0 t1 t2 t3 i1 i2 i3 d:Int):Lf:=.br (zx0 [Int.tmod t0 13,Int.tmod t1 13,Int.tmod t2 13,Int.tmod t3 13] [0,0,0,0])
 (.as (decide (((1+d % 6:Int):Rat)≠0)) true (.as (decide (((1+d % 6:Int):Rat)≠0)) true (.as (decide (((1+d % 6:Int):Rat)≠0)) true (.as (decide ¬((1:Int)=0∧Int.tmod t1 13=0∧Int.tmod t2 13=0∧Int.tmod t3 13=0)) true (.ret (.so (.vg [zC7 1 (Int.tmod t1 13) (Int.tmod t2 13) (Int.tmod t3 13) 1 1 1,zC7 1 (Int.tmod t1 13) (Int.tmod t2 13) (Int.tmod t3 13) (Int.tmod t1 13) (-12) 12,zC7 1 (Int.tmod t1 13) (Int.tmod t2 13) (Int.tmod t3 13) (Int.tmod t2 13) (-12) 12,zC7 1 (Int.tmod t1 13) (Int.tmod t2 13) (Int.tmod t3 13) (Int.tmod t3 13) (-12) 12,.cw (za1 (sq i1 d)) (some (128,sq i1 d)),.cw (za1 (sq i2 d)) (some (128,sq i2 d)),.cw (za1 (sq i3 d)) (some (128,sq i3 d))])))))))
 (.as (decide (((1+d % 6:Int):Rat)≠0)) true (.as (decide (((1+d % 6:Int):Rat)≠0)) true (.as (decide (((1+d % 6:Int):Rat)≠0)) true (.as (decide ¬(Int.tmod t0 13=0∧Int.tmod t1 13=0∧Int.tmod t2 13=0∧Int.tmod t3 13=0)) true (.ret (.so (.vg [zC7 (Int.tmod t0 13) (Int.tmod t1 13) (Int.tmod t2 13) (Int.tmod t3 13) (Int.tmod t0 13) (-12) 12,zC7 (Int.tmod t0 13) (Int.tmod t1 13) (Int.tmod t2 13) (Int.tmod t3 13) (Int.tmod t1 13) (-12) 12,zC7 (Int.tmod t0 13) (Int.tmod t1 13) (Int.tmod t2 13) (Int.tmod t3 13) (Int.tmod t2 13) (-12) 12,zC7 (Int.tmod t0 13) (Int.tmod t1 13) (Int.tmod t2 13) (Int.tmod t3 13) (Int.tmod t3 13) (-12) 12,.cw (za1 (sq i1 d)) (some (128,sq i1 d)),.cw (za1 (sq i2 d)) (some (128,sq i2 d)),.cw (za1 (sq i3 d)) (some (128,sq i3 d))])))))))
theorem runP (t0 t1 t2 t3 i1 i2 i3 d:Int):zV9 sysQ 21 [.so (.vg [.ci .i8 t0 (-128) 127,.ci .i8 t1 (-128) 127,.ci .i8 t2 (-128) 127,.ci .i8 t3 (-128) 127,.ci .i8 i1 (-128) 127,.ci .i8 i2 (-128) 127,.ci .i8 i3 (-128) 127,.ci .u8 d 0 255])] 0 0 (.s .e .e)=some (treeP t0 t1 t2 t3 i1 i2 i3 d):=by kernel_rfl
theorem den6 (d:Int):decide (((1+d % 6:Int):Rat)≠0)=true:=decide_eq_true fun e=>by
 have:(1+d % 6:Int)=0:=by exact_mod_cast e
 omega
def postP (t0 t1 t2 t3 i1 i2 i3 d:Int) (v:SV):Prop:=∃ a b c e f g h k m n o,v=.so (.vg [.ci .i64 (qd t0 t1 t2 t3 0) a b,.ci .i64 (qd t0 t1 t2 t3 1) c e,.ci .i64 (qd t0 t1 t2 t3 2) f g,.ci .i64 (qd t0 t1 t2 t3 3) h k,.cw (za1 (sq i1 d)) m,.cw (za1 (sq i2 d)) n,.cw (za1 (sq i3 d)) o])
theorem treeP_ok (t0 t1 t2 t3 i1 i2 i3 d:Int):LOK (postP t0 t1 t2 t3 i1 i2 i3 d) (treeP t0 t1 t2 t3 i1 i2 i3 d):=by
 have hn:=mq_ne t0 t1 t2 t3
 refine ⟨fun h=>?_,fun h=>?_⟩
 ·have e:mq0 t0 t1 t2 t3=1:=if_pos h
  rw [e] at hn
  refine ⟨den6 d,den6 d,den6 d,decide_eq_true hn,?_⟩
  unfold LOK postP
  simp only [qd,e]
  exact ⟨_,_,_,_,_,_,_,_,_,_,_,rfl⟩
 ·have e:mq0 t0 t1 t2 t3=Int.tmod t0 13:=if_neg (by rw [h];decide)
  rw [e] at hn
  refine ⟨den6 d,den6 d,den6 d,decide_eq_true hn,?_⟩
  unfold LOK postP
  simp only [qd,e]
  exact ⟨_,_,_,_,_,_,_,_,_,_,_,rfl⟩
theorem place_c {t0 t1 t2 t3 i1 i2 i3 d:Int} (ht:(-128≤t0∧t0≤127)∧(-128≤t1∧t1≤127)∧(-128≤t2∧t2≤127)∧(-128≤t3∧t3≤127)∧(-128≤i1∧i1≤127)∧(-128≤i2∧i2≤127)∧(-128≤i3∧i3≤127)∧0≤d∧d≤255) (w:World) (hI:Tab w∧Mx w):
  Calls Tryz.prog 21 #[.agg #[.int .i8 t0,.int .i8 t1,.int .i8 t2,.int .i8 t3,.int .i8 i1,.int .i8 i2,.int .i8 i3,.int .u8 d]] w fun e w'=>e=.returned (.agg #[.int .i64 (qd t0 t1 t2 t3 0),.int .i64 (qd t0 t1 t2 t3 1),.int .i64 (qd t0 t1 t2 t3 2),.int .i64 (qd t0 t1 t2 t3 3),.string ⟨(za1 (sq i1 d)).toArray⟩,.string ⟨(za1 (sq i2 d)).toArray⟩,.string ⟨(za1 (sq i3 d)).toArray⟩])∧Gr w w':=by
 obtain ⟨h0,h1,h2,h3,h4,h5,h6,h7⟩:=ht
 refine (zc8 sysQ sysQ_ok (runP t0 t1 t2 t3 i1 i2 i3 d) (X:=zG5 []) hI (okF1 (zf6 ⟨⟨rfl,h0⟩,⟨rfl,h1⟩,⟨rfl,h2⟩,⟨rfl,h3⟩,⟨rfl,h4⟩,⟨rfl,h5⟩,⟨rfl,h6⟩,⟨rfl,h7⟩,trivial⟩)) (treeP_ok t0 t1 t2 t3 i1 i2 i3 d)).mono fun e w' he=>?_
 obtain ⟨v,X',n,rfl,g,_,_,_,_,_,_,_,_,_,_,_,_,_,rfl⟩:=he
 exact ⟨rfl,g⟩
def in8 (l h:Int):Bool:=ile (-128) l&&ile h 127
theorem zH8 {z lo hi:Int} (h:in8 lo hi=true) (h0:lo≤z∧z≤hi):-128≤z∧z≤127:=by
 unfold in8 at h
 simp only [zi8,Bool.and_eq_true,decide_eq_true_eq] at h
 omega
def inu8 (l h:Int):Bool:=ile 0 l&&ile h 255
theorem inu8_ok {z lo hi:Int} (h:inu8 lo hi=true) (h0:lo≤z∧z≤hi):0≤z∧z≤255:=by
 unfold inu8 at h
 simp only [zi8,Bool.and_eq_true,decide_eq_true_eq] at h
 omega
def q12 (t0 t1 t2 t3:Int) (k:Nat):Cl:=.ci .i64 (qd t0 t1 t2 t3 k) (-12) 12
def txs (i d:Int):Cl:=.cw (za1 (sq i d)) (some (16,sq i d))
theorem yt0 {i d:Int} (hi:-128≤i∧i≤127) (hd:0≤d∧d≤255) (n:Nn) (X:Env) (w:World):(txs i d).ok n X w:=⟨rfl,fun k q e=>by cases e;exact ⟨rfl,small_rs hi hd rfl⟩⟩
def cPlc:ConT:=fun args _ _=>match args with
 | [.so (.vg [.ci .i8 t0 a0 b0,.ci .i8 t1 a1 b1,.ci .i8 t2 a2 b2,.ci .i8 t3 a3 b3,.ci .i8 i1 a4 b4,.ci .i8 i2 a5 b5,.ci .i8 i3 a6 b6,.ci .u8 d a7 b7])]=>
  tr (in8 a0 b0&&in8 a1 b1&&in8 a2 b2&&in8 a3 b3&&in8 a4 b4&&in8 a5 b5&&in8 a6 b6&&inu8 a7 b7) (.leaf (.so (.vg [q12 t0 t1 t2 t3 0,q12 t0 t1 t2 t3 1,q12 t0 t1 t2 t3 2,q12 t0 t1 t2 t3 3,txs i1 d,txs i2 d,txs i3 d])) 0 0)
 | _=>none
theorem zR0 {I:World→Prop} (hI:∀ w,I w→Tab w∧Mx w):ConOK Tryz.prog I 21 cPlc:=by
 intro args E n w T hw ha hT _
 unfold cPlc at hT
 split at hT
 ·rename_i t0 a0 b0 t1 a1 b1 t2 a2 b2 t3 a3 b3 i1 a4 b4 i2 a5 b5 i3 a6 b6 d a7 b7
  obtain ⟨hb,rfl⟩:=zd8 hT
  simp only [Bool.and_eq_true] at hb
  obtain ⟨⟨⟨⟨⟨⟨⟨c0,c1⟩,c2⟩,c3⟩,c4⟩,c5⟩,c6⟩,c7⟩:=hb
  have h:=ha _ (List.mem_singleton.2 rfl)
  have g:=fun c hc=>h c hc
  have g0:=zH8 c0 (g (.ci .i8 t0 a0 b0) (by simp)).2
  have g1:=zH8 c1 (g (.ci .i8 t1 a1 b1) (by simp)).2
  have g2:=zH8 c2 (g (.ci .i8 t2 a2 b2) (by simp)).2
  have g3:=zH8 c3 (g (.ci .i8 t3 a3 b3) (by simp)).2
  have g4:=zH8 c4 (g (.ci .i8 i1 a4 b4) (by simp)).2
  have g5:=zH8 c5 (g (.ci .i8 i2 a5 b5) (by simp)).2
  have g6:=zH8 c6 (g (.ci .i8 i3 a6 b6) (by simp)).2
  have g7:=inu8_ok c7 (g (.ci .u8 d a7 b7) (by simp)).2
  refine (place_c ⟨g0,g1,g2,g3,g4,g5,g6,g7⟩ w (hI w hw)).mono fun e w' he=>zb4 he fun c hc=>?_
  have v:=qd_vt t0 t1 t2 t3
  have v0:=v.b0;have v1:=v.b1;have v2:=v.b2;have v3:=v.b3
  simp only [List.mem_cons,List.not_mem_nil,or_false] at hc
  rcases hc with rfl | rfl | rfl | rfl | rfl | rfl | rfl
  ·exact ⟨rfl,v0⟩
  ·exact ⟨rfl,v1⟩
  ·exact ⟨rfl,v2⟩
  ·exact ⟨rfl,v3⟩
  ·exact yt0 g4 g7 n E w'
  ·exact yt0 g5 g7 n E w'
  ·exact yt0 g6 g7 n E w'
 ·cases hT
noncomputable def tabO:List (Nat × List (Nat × Ent)):=[(14,[(5,.ord [(true,0),(true,1),(true,2),(true,3),(true,4),(true,5),(true,6),(true,7),(true,8),(true,9),(true,10),(true,11),(true,12),(true,13),(true,14),(true,15)] []),(12,.ord [(true,0),(true,1),(true,3),(true,5),(false,2),(false,4),(true,6),(false,7)] [14])]),
 (53,[]),
 (57,[]),
 (60,[]),
 (74,[(5,.ord [(true,0),(true,1),(true,2),(true,3),(true,4),(true,5),(true,6),(true,7),(false,8),(true,9),(false,10)] [7])]),
 (93,[]),
 (97,[])]
noncomputable def conO:List (Nat × ConT):=[(103,zk5 100000 (fun k m=>k+m+1) (fun a b=>a+b)),
 (75,zk5 100000 (fun k m=>k+m+1) (fun a b=>a - b)),
 (82,zk5 100000 (fun k m=>k+m) (fun a b=>a*b)),
 (108,cNeg),
 (59,ya9),
 (37,yb0),
 (76,zU7),
 (87,yb1),
 (130,cNum),
 (81,cDen),
 (58,cDiv),
 (96,zA2),
 (80,zU8),
 (122,zU9),
 (123,zV0),
 (68,yb2),
 (105,cTT (fun k m=>k+m+1) fun a b=>a+b),
 (132,cTT (fun k m=>k+m+1) fun a b=>a - b),
 (106,cTT (fun k m=>k+m) fun a b=>a*b),
 (64,yb3),
 (115,yb4),
 (65,zE6),
 (94,zv4 400),
 (107,zv4 65536),
 (15,cChk),
 (66,zV4)]
noncomputable def sysO:Sys:=⟨Tryz.prog,2,199,tabO,conO,fun w=>Tab w∧Mx w⟩
theorem sysO_ok:sysO.OK where
 mixed:=by kernel_rfl
 calls:=fun f h0 h1=>by
  have:(List.range 199).all (fun f=>Nat.blt f 2||okCall Tryz.prog f)=true:=by kernel_rfl
  have:=List.all_eq_true.1 this f (List.mem_range.2 h1)
  simp only [Bool.or_eq_true] at this
  exact this.resolve_left (fun e=>by have:=ze7 e;exact absurd h0 (by show ¬ 2≤f;omega))
 tab:=by
  have:tabO.all (okTab Tryz.prog)=true:=by kernel_rfl
  exact fun x hx=>List.all_eq_true.1 this x hx
 lps:=zv8 (by kernel_rfl)
 con:=fun x hx=>by
  simp only [sysO,conO,List.mem_cons,List.not_mem_nil,or_false] at hx
  rcases hx with rfl | rfl | rfl | rfl | rfl | rfl | rfl | rfl | rfl | rfl | rfl | rfl | rfl | rfl | rfl | rfl | rfl | rfl | rfl | rfl | rfl | rfl | rfl | rfl | rfl | rfl
  ·exact zc6 fun h1 h2 h3=>zj5 h1 h2 h3
  ·exact zc6 fun h1 h2 h3=>zv1 h1 h2 h3
  ·exact zc6 fun h1 h2 h3=>yd1 h1 h2 h3
  ·exact zw7
  ·exact zo8
  ·exact zo9
  ·exact zl9
  ·exact zp0 fun w h=>h.1
  ·exact zt0
  ·exact zt1
  ·exact zw8
  ·exact zj0
  ·exact zm0
  ·exact zm1
  ·exact zm2
  ·exact zp1
  ·exact zp2
  ·exact zp3
  ·exact zp4
  ·exact zp5
  ·exact zp6
  ·exact zk6
  ·exact zp7 fun w h=>h.2
  ·exact zp8 fun w h=>h.2
  ·exact zV3 fun w h=>h.2
  ·exact zp9
 inv:=fun w w' h g=>⟨h.1.gr g,h.2.gr g⟩
def rowC:List Nat→List (Nat × Rat)→List Cl
 | j::l,(k,q)::r=>.cr j 0 k q::.cr j 1 k q::.cr j 2 k q::.cr j 3 k q::rowC l r
 | _,_=>[]
def nN (w x y z:Int):Rat:=((w*w+x*x+y*y+z*z:Int):Rat)
def mOf (w x y z:Int) (k:Nat):Rat:=((1:Int):Rat)/nN w x y z*((roN w x y z k:Int):Rat)
def oRaw (q0 q1 q2 q3:Int) (x1 x2 x3:Rat):List (Nat × Rat):=[(192,mOf q0 q1 q2 q3 0),(192,mOf q0 q1 q2 q3 1),(192,mOf q0 q1 q2 q3 2),(192,mOf q0 q1 q2 q3 3),(192,mOf q0 q1 q2 q3 4),(192,mOf q0 q1 q2 q3 5),(192,mOf q0 q1 q2 q3 6),(192,mOf q0 q1 q2 q3 7),(192,mOf q0 q1 q2 q3 8),(64,x1),(64,x2),(64,x3)]
def oList (q0 q1 q2 q3:Int) (x1 x2 x3:Rat):List (Nat × Rat):=[(64,roE q0 q1 q2 q3 0),(64,roE q0 q1 q2 q3 1),(64,roE q0 q1 q2 q3 2),(64,roE q0 q1 q2 q3 3),(64,roE q0 q1 q2 q3 4),(64,roE q0 q1 q2 q3 5),(64,roE q0 q1 q2 q3 6),(64,roE q0 q1 q2 q3 7),(64,roE q0 q1 q2 q3 8),(64,x1),(64,x2),(64,x3)]
def treeO (q0 q1 q2 q3:Int) (x1 x2 x3:Rat):Lf:=
 .as (decide (chk q0 q1 q2 q3 0=0)) true
 (.as (decide (nN q0 q1 q2 q3=0)) false
 (.ret (.st [.vg (rowC [9,10,11,15,16,17,21,22,23,0,1,2] (oRaw q0 q1 q2 q3 x1 x2 x3)),.vc (.ci .i64 0 0 0)])))
theorem runO (q0 q1 q2 q3:Int) (x1 x2 x3:Rat):zV9 sysO 14 [.so (.vg [.ci .i64 q0 (-12) 12,.ci .i64 q1 (-12) 12,.ci .i64 q2 (-12) 12,.ci .i64 q3 (-12) 12,.cw (za1 x1) (some (64,x1)),.cw (za1 x2) (some (64,x2)),.cw (za1 x3) (some (64,x3))])] 0 0 (.f .e)=some (treeO q0 q1 q2 q3 x1 x2 x3):=by kernel_rfl
theorem of_c {q0 q1 q2 q3:Int} {x1 x2 x3:Rat} (hv:VT q0 q1 q2 q3) (s1:RS 64 x1) (s2:RS 64 x2) (s3:RS 64 x3) (w:World) (hI:Tab w∧Mx w):
  Calls Tryz.prog 14 #[.agg #[.int .i64 q0,.int .i64 q1,.int .i64 q2,.int .i64 q3,.string ⟨(za1 x1).toArray⟩,.string ⟨(za1 x2).toArray⟩,.string ⟨(za1 x3).toArray⟩]] w fun e w'=>(∃ vs:List Value,e=.returned (.tuple #[.agg vs.toArray,.int .i64 0])∧IsRats w' vs (oList q0 q1 q2 q3 x1 x2 x3))∧Gr w w':=by
 have hl:LOK (fun v=>∃ l,v=.st [.vg l,.vc (.ci .i64 0 0 0)]∧rats l=some (oRaw q0 q1 q2 q3 x1 x2 x3)) (treeO q0 q1 q2 q3 x1 x2 x3):=⟨decide_eq_true (hv.chk 0),decide_eq_false (yg3 hv),_,rfl,rfl⟩
 have tx:∀ {x},RS 64 x→(Cl.cw (za1 x) (some (64,x))).ok ⟨0,0,0⟩ (zG5 []) w:=fun h=>⟨rfl,fun k q e=>by cases e;exact ⟨rfl,h⟩⟩
 refine (zc8 sysO sysO_ok (runO q0 q1 q2 q3 x1 x2 x3) (X:=zG5 []) hI (okF1 (zf6 ⟨⟨rfl,hv.b0⟩,⟨rfl,hv.b1⟩,⟨rfl,hv.b2⟩,⟨rfl,hv.b3⟩,tx s1,tx s2,tx s3,trivial⟩)) hl).mono fun e w' he=>?_
 obtain ⟨v,X',n,rfl,g,_,hv',l,rfl,hr⟩:=he
 have h:=zC8 hr (hv' (.vg l) (by simp))
 have rs:=fun k=>(roE_rs hv k).mono (show 50≤64 by decide)
 have one:=fun k=>@yE9 (nN q0 q1 q2 q3) ((roN q0 q1 q2 q3 k:Int):Rat)
 exact ⟨⟨_,rfl,h.conv ⟨⟨one 0,rs 0,Nat.le_refl _⟩,⟨one 1,rs 1,Nat.le_refl _⟩,⟨one 2,rs 2,Nat.le_refl _⟩,⟨one 3,rs 3,Nat.le_refl _⟩,⟨one 4,rs 4,Nat.le_refl _⟩,⟨one 5,rs 5,Nat.le_refl _⟩,⟨one 6,rs 6,Nat.le_refl _⟩,⟨one 7,rs 7,Nat.le_refl _⟩,⟨one 8,rs 8,Nat.le_refl _⟩,⟨rfl,s1,Nat.le_refl _⟩,⟨rfl,s2,Nat.le_refl _⟩,⟨rfl,s3,Nat.le_refl _⟩,trivial⟩⟩,g⟩
def cOf:ConT:=fun args nr _=>match args with
 | [.so (.vg [.ci .i64 q0 _ _,.ci .i64 q1 _ _,.ci .i64 q2 _ _,.ci .i64 q3 _ _,c1,c2,c3])]=>match txC c1,txC c2,txC c3 with
  | some (k1,x1),some (k2,x2),some (k3,x3)=>tr (Nat.ble k1 64&&Nat.ble k2 64&&Nat.ble k3 64) (.as (decide (chk q0 q1 q2 q3 0=0)) (.leaf (.st [.vg (zm3 nr (oList q0 q1 q2 q3 x1 x2 x3)),.vc (.ci .i64 0 0 0)]) 12 0))
  | _,_,_=>none
 | _=>none
theorem cOf_ok {I:World→Prop} (hI:∀ w,I w→Tab w∧Mx w):ConOK Tryz.prog I 14 cOf:=by
 intro args E n w T hw ha hT hp
 unfold cOf at hT
 split at hT
 ·rename_i q0 _ _ q1 _ _ q2 _ _ q3 _ _ c1 c2 c3
  split at hT
  ·rename_i k1 x1 k2 x2 k3 x3 e1 e2 e3
   obtain ⟨hb,rfl⟩:=zd8 hT
   simp only [Bool.and_eq_true,Nat.ble_eq] at hb
   obtain ⟨⟨l1,l2⟩,l3⟩:=hb
   have g:=fun c hc=>ha _ (List.mem_singleton.2 rfl) c hc
   obtain ⟨d1,s1⟩:=zl8 e1 (g c1 (by simp))
   obtain ⟨d2,s2⟩:=zl8 e2 (g c2 (by simp))
   obtain ⟨d3,s3⟩:=zl8 e3 (g c3 (by simp))
   show Calls _ _ #[.agg #[.int .i64 q0,.int .i64 q1,.int .i64 q2,.int .i64 q3,c1.den E,c2.den E,c3.den E]] w _
   rw [d1,d2,d3]
   refine (of_c (yk3 (of_decide_eq_true hp.1)).1 (s1.mono l1) (s2.mono l2) (s3.mono l3) w (hI w hw)).mono fun e w' he=>zq0 he
  ·cases hT
 ·cases hT
set_option maxRecDepth 100000 in
set_option maxHeartbeats 1000000 in
theorem sum_4 {k:Nat} {ab:Nat} {u0 u1 u2 u3:Value} {a:Rat} {v0 v1 v2 v3:Value} {b:Rat} {x0 x1 x2 x3:Value} {c:Rat} {z0 z1 z2 z3:Value} {d:Rat} {w:World} (ha:IsRat w k u0 u1 u2 u3 a) (hb:IsRat w k v0 v1 v2 v3 b) (hc:IsRat w k x0 x1 x2 x3 c) (hd:IsRat w k z0 z1 z2 z3 d) (hL:Lc w ab #[u0,u1,u2,u3,v0,v1,v2,v3,x0,x1,x2,x3,z0,z1,z2,z3] 36) (_hk:k≤20000):
    Calls Tryz.prog 83 #[(.slice (some ⟨ab,0,none⟩) 4 4)] w fun e w'=>(∃ z0 z1 z2 z3,e=.returned (.agg #[z0,z1,z2,z3])∧IsRat w' ((((64+k+1)+k+1)+k+1)+k+1) z0 z1 z2 z3 (((((0+a)+b)+c)+d)))∧Gr w w':=by
 have hbig:=ha.big
 go_enter Tryz.func83,Tryz.ntmps83
 have hB:=Gr.refl w
 refine wp_seq_k (fun K1 k1=>?_)
 refine rg [0] ?_
 refine se ?_
 refine ea 36 #[.bool false,.slice none 0 0,.bool false,.slice none 0 0] 2 hB fun b2 w2 g2 L2 o2 q2 hB=>?_
 simp only [p3,p4]
 refine za0 ?_
 refine k1 _ _ ?_
 try clear k1 K1
 refine wp_seq_k (fun K3 k3=>?_)
 refine rg [0] ?_
 refine se ?_
 refine ea 36 #[.bool false,.slice none 0 0,.bool false,.slice none 0 0] 3 hB fun b4 w4 g4 L4 o4 q4 hB=>?_
 replace hL:=hL.gr g2
 have ad:=hL.ne o4
 have aa:=L2.ne o4
 simp only [p3,p4]
 refine za0 ?_
 refine k3 _ _ ?_
 try clear k3 K3
 refine wp_seq_k (fun K5 k5=>?_)
 refine wp_seq_k (fun K6 k6=>?_)
 refine rg [0,1,2] ?_
 refine sv 6 (.slice (some ⟨ab,0,none⟩) 4 4) ?_
 refine sv 7 (.int .i64 4) ?_
 refine sv 8 (.int .i64 0) ?_
 refine za0 ?_
 refine k6 _ _ ?_
 try clear k6 K6
 refine wp_block ?_
 refine wp_loop_rounds 5 ?_
 show Code.wp _ _ _ _ _
 refine wp_seq_k (fun K7 k7=>?_)
 refine rg [0] ?_
 refine sv 9 (.bool true) ?_
 refine za0 ?_
 refine k7 _ _ ?_
 try clear k7 K7
 refine wp_seq_k (fun K8 k8=>?_)
 refine wp_cond_true rfl ?_
 refine wp_skip ?_
 refine k8 _ _ ?_
 try clear k8 K8
 refine wp_seq_k (fun K9 k9=>?_)
 refine wp_block ?_
 refine wp_seq_k (fun bS bA=>?_)
 refine rg [0,1,2,3] ?_
 refine sv 10 (.pointer (some ⟨ab,0,none⟩)) ?_
 replace hL:=hL.gr g4
 refine sw 11 (.agg #[u0,u1,u2,u3]) rfl (rl 36 0 [u0,u1,u2,u3] hL) ?_
 refine se ?_
 refine ea 36 #[.bool false,.slice none 0 0,.bool false,.slice none 0 0] 5 hB fun cy cJ aH a9 bq b7 hB=>?_
 have aD:=hL.ne bq
 replace L2:=L2.gr g4
 have ay:=L2.ne bq
 have aG:=L4.ne bq
 simp only [p3,p4]
 refine se ?_
 refine es 36 0 (.agg #[u0,u1,u2,u3]) [u0,u1,u2,u3] #[u0,u1,u2,u3] a9 hB b7 ⟨ha.one0,ha.one1,ha.one2,ha.one3,trivial⟩ fun cn ax af a9 hB=>?_
 refine za0 ?_
 refine bA _ _ ?_
 try clear bA bS
 refine rg [0,1,2,3] ?_
 replace L4:=ax.lc (L4.gr aH) aG
 refine sw 12 (.agg #[.bool false,.slice none 0 0,.bool false,.slice none 0 0]) rfl (rl 36 0 [.bool false,.slice none 0 0,.bool false,.slice none 0 0] L4) ?_
 refine sw 13 (.agg #[u0,u1,u2,u3]) rfl (rl 36 0 [u0,u1,u2,u3] a9) ?_
 refine se ?_
 have bn:=g2.kp.trans (g4.kp.trans (aH.kp.trans af))
 replace ha:=ha.kp bn
 refine ec 14 (zj5 (IsRat.zero _ (k:=64) (Nat.le_refl _)) ha (by omega)) ?_
 rintro e13 cE ⟨⟨a0,a5,aZ,a2,rfl,aK⟩,aI⟩
 refine ⟨_,rfl,?_⟩
 replace hB:=hB.trans aI
 simp only [p3,p4]
 refine se ?_
 replace L4:=L4.gr aI
 refine es 36 0 (.agg #[a0,a5,aZ,a2]) [a0,a5,aZ,a2] #[a0,a5,aZ,a2] L4 hB q4 ⟨aK.one0,aK.one1,aK.one2,aK.one3,trivial⟩ fun cm aX aj L4 hB=>?_
 refine za0 ?_
 refine k9 _ _ ?_
 try clear k9 K9
 refine rg [0,1] ?_
 refine sv 15 (.int .i64 1) ?_
 refine sv 8 (.int .i64 1) ?_
 refine za0 ?_
 show Code.rounds _ _ _ _ _ _
 show Code.wp _ _ _ _ _
 refine wp_seq_k (fun cd bw=>?_)
 refine rg [0] ?_
 refine sv 9 (.bool true) ?_
 refine za0 ?_
 refine bw _ _ ?_
 try clear bw cd
 refine wp_seq_k (fun b8 bK=>?_)
 refine wp_cond_true rfl ?_
 refine wp_skip ?_
 refine bK _ _ ?_
 try clear bK b8
 refine wp_seq_k (fun bX bL=>?_)
 refine wp_block ?_
 refine wp_seq_k (fun bP bE=>?_)
 refine rg [0,1,2,3] ?_
 refine sv 10 (.pointer (some ⟨ab,4,none⟩)) ?_
 replace hL:=aX.lc ((ax.lc (hL.gr aH) aD).gr aI) ad
 refine sw 11 (.agg #[v0,v1,v2,v3]) rfl (rl 36 4 [v0,v1,v2,v3] hL) ?_
 refine se ?_
 refine ea 36 #[.bool false,.slice none 0 0,.bool false,.slice none 0 0] 5 hB fun cH ce az bc bg bU hB=>?_
 have av:=hL.ne bg
 replace L2:=aX.lc ((ax.lc (L2.gr aH) ay).gr aI) aa
 have aA:=L2.ne bg
 have aE:=L4.ne bg
 simp only [p3,p4]
 refine se ?_
 refine es 36 0 (.agg #[v0,v1,v2,v3]) [v0,v1,v2,v3] #[v0,v1,v2,v3] bc hB bU ⟨hb.one0,hb.one1,hb.one2,hb.one3,trivial⟩ fun cu au al bc hB=>?_
 refine za0 ?_
 refine bE _ _ ?_
 try clear bE bP
 refine rg [0,1,2,3] ?_
 replace L4:=au.lc (L4.gr az) aE
 refine sw 12 (.agg #[a0,a5,aZ,a2]) rfl (rl 36 0 [a0,a5,aZ,a2] L4) ?_
 refine sw 13 (.agg #[v0,v1,v2,v3]) rfl (rl 36 0 [v0,v1,v2,v3] bc) ?_
 refine se ?_
 have ba:=aj.trans (az.kp.trans al)
 replace aK:=aK.kp ba
 have bu:=g2.kp.trans (g4.kp.trans (aH.kp.trans (af.trans (aI.kp.trans (aj.trans (az.kp.trans al))))))
 replace hb:=hb.kp bu
 refine ec 14 (zj5 aK hb (by omega)) ?_
 rintro e22 cB ⟨⟨aS,a7,aR,aP,rfl,aL⟩,aO⟩
 refine ⟨_,rfl,?_⟩
 replace hB:=hB.trans aO
 simp only [p3,p4]
 refine se ?_
 replace L4:=L4.gr aO
 refine es 36 0 (.agg #[aS,a7,aR,aP]) [aS,a7,aR,aP] #[aS,a7,aR,aP] L4 hB q4 ⟨aL.one0,aL.one1,aL.one2,aL.one3,trivial⟩ fun cj aY aC L4 hB=>?_
 refine za0 ?_
 refine bL _ _ ?_
 try clear bL bX
 refine rg [0,1] ?_
 refine sv 15 (.int .i64 2) ?_
 refine sv 8 (.int .i64 2) ?_
 refine za0 ?_
 show Code.rounds _ _ _ _ _ _
 show Code.wp _ _ _ _ _
 refine wp_seq_k (fun bY bD=>?_)
 refine rg [0] ?_
 refine sv 9 (.bool true) ?_
 refine za0 ?_
 refine bD _ _ ?_
 try clear bD bY
 refine wp_seq_k (fun bV bN=>?_)
 refine wp_cond_true rfl ?_
 refine wp_skip ?_
 refine bN _ _ ?_
 try clear bN bV
 refine wp_seq_k (fun ca bF=>?_)
 refine wp_block ?_
 refine wp_seq_k (fun bO bH=>?_)
 refine rg [0,1,2,3] ?_
 refine sv 10 (.pointer (some ⟨ab,8,none⟩)) ?_
 replace hL:=aY.lc ((au.lc (hL.gr az) av).gr aO) ad
 refine sw 11 (.agg #[x0,x1,x2,x3]) rfl (rl 36 8 [x0,x1,x2,x3] hL) ?_
 refine se ?_
 refine ea 36 #[.bool false,.slice none 0 0,.bool false,.slice none 0 0] 5 hB fun cF ck aN bd bh b6 hB=>?_
 have aB:=hL.ne bh
 replace L2:=aY.lc ((au.lc (L2.gr az) aA).gr aO) aa
 have aw:=L2.ne bh
 have ap:=L4.ne bh
 simp only [p3,p4]
 refine se ?_
 refine es 36 0 (.agg #[x0,x1,x2,x3]) [x0,x1,x2,x3] #[x0,x1,x2,x3] bd hB b6 ⟨hc.one0,hc.one1,hc.one2,hc.one3,trivial⟩ fun cG aJ ar bd hB=>?_
 refine za0 ?_
 refine bH _ _ ?_
 try clear bH bO
 refine rg [0,1,2,3] ?_
 replace L4:=aJ.lc (L4.gr aN) ap
 refine sw 12 (.agg #[aS,a7,aR,aP]) rfl (rl 36 0 [aS,a7,aR,aP] L4) ?_
 refine sw 13 (.agg #[x0,x1,x2,x3]) rfl (rl 36 0 [x0,x1,x2,x3] bd) ?_
 refine se ?_
 have bo:=aC.trans (aN.kp.trans ar)
 replace aL:=aL.kp bo
 have bk:=g2.kp.trans (g4.kp.trans (aH.kp.trans (af.trans (aI.kp.trans (aj.trans (az.kp.trans (al.trans (aO.kp.trans (aC.trans (aN.kp.trans ar))))))))))
 replace hc:=hc.kp bk
 refine ec 14 (zj5 aL hc (by omega)) ?_
 rintro e32 cD ⟨⟨aQ,a4,aV,a1,rfl,aF⟩,a3⟩
 refine ⟨_,rfl,?_⟩
 replace hB:=hB.trans a3
 simp only [p3,p4]
 refine se ?_
 replace L4:=L4.gr a3
 refine es 36 0 (.agg #[aQ,a4,aV,a1]) [aQ,a4,aV,a1] #[aQ,a4,aV,a1] L4 hB q4 ⟨aF.one0,aF.one1,aF.one2,aF.one3,trivial⟩ fun cg aU a6 L4 hB=>?_
 refine za0 ?_
 refine bF _ _ ?_
 try clear bF ca
 refine rg [0,1] ?_
 refine sv 15 (.int .i64 3) ?_
 refine sv 8 (.int .i64 3) ?_
 refine za0 ?_
 show Code.rounds _ _ _ _ _ _
 show Code.wp _ _ _ _ _
 refine wp_seq_k (fun cc bx=>?_)
 refine rg [0] ?_
 refine sv 9 (.bool true) ?_
 refine za0 ?_
 refine bx _ _ ?_
 try clear bx cc
 refine wp_seq_k (fun b5 bG=>?_)
 refine wp_cond_true rfl ?_
 refine wp_skip ?_
 refine bG _ _ ?_
 try clear bG b5
 refine wp_seq_k (fun bQ bz=>?_)
 refine wp_block ?_
 refine wp_seq_k (fun b9 bJ=>?_)
 refine rg [0,1,2,3] ?_
 refine sv 10 (.pointer (some ⟨ab,12,none⟩)) ?_
 replace hL:=aU.lc ((aJ.lc (hL.gr aN) aB).gr a3) ad
 refine sw 11 (.agg #[z0,z1,z2,z3]) rfl (rl 36 12 [z0,z1,z2,z3] hL) ?_
 refine se ?_
 refine ea 36 #[.bool false,.slice none 0 0,.bool false,.slice none 0 0] 5 hB fun cA cK a8 bm bB bW hB=>?_
 replace L2:=aU.lc ((aJ.lc (L2.gr aN) aw).gr a3) aa
 have aM:=L2.ne bB
 have aq:=L4.ne bB
 simp only [p3,p4]
 refine se ?_
 refine es 36 0 (.agg #[z0,z1,z2,z3]) [z0,z1,z2,z3] #[z0,z1,z2,z3] bm hB bW ⟨hd.one0,hd.one1,hd.one2,hd.one3,trivial⟩ fun co aT aW bm hB=>?_
 refine za0 ?_
 refine bJ _ _ ?_
 try clear bJ b9
 refine rg [0,1,2,3] ?_
 replace L4:=aT.lc (L4.gr a8) aq
 refine sw 12 (.agg #[aQ,a4,aV,a1]) rfl (rl 36 0 [aQ,a4,aV,a1] L4) ?_
 refine sw 13 (.agg #[z0,z1,z2,z3]) rfl (rl 36 0 [z0,z1,z2,z3] bm) ?_
 refine se ?_
 have bp:=a6.trans (a8.kp.trans aW)
 replace aF:=aF.kp bp
 have bj:=g2.kp.trans (g4.kp.trans (aH.kp.trans (af.trans (aI.kp.trans (aj.trans (az.kp.trans (al.trans (aO.kp.trans (aC.trans (aN.kp.trans (ar.trans (a3.kp.trans (a6.trans (a8.kp.trans aW))))))))))))))
 replace hd:=hd.kp bj
 refine ec 14 (zj5 aF hd (by omega)) ?_
 rintro cq ch ⟨⟨ak,ae,ai,ah,rfl,ac⟩,bv⟩
 refine ⟨_,rfl,?_⟩
 replace hB:=hB.trans bv
 simp only [p3,p4]
 refine se ?_
 replace L4:=L4.gr bv
 refine es 36 0 (.agg #[ak,ae,ai,ah]) [ak,ae,ai,ah] #[ak,ae,ai,ah] L4 hB q4 ⟨ac.one0,ac.one1,ac.one2,ac.one3,trivial⟩ fun cl bf bb L4 hB=>?_
 refine za0 ?_
 refine bz _ _ ?_
 try clear bz bQ
 refine rg [0,1] ?_
 refine sv 15 (.int .i64 4) ?_
 refine sv 8 (.int .i64 4) ?_
 refine za0 ?_
 show Code.rounds _ _ _ _ _ _
 show Code.wp _ _ _ _ _
 refine wp_seq_k (fun bR bC=>?_)
 refine rg [0] ?_
 refine sv 9 (.bool false) ?_
 refine za0 ?_
 refine bC _ _ ?_
 try clear bC bR
 refine wp_seq_k (fun cC ct=>?_)
 refine wp_cond_false rfl ?_
 refine wp_exit ?_
 simp only [Exit.then,Exit.inBlock,↓reduceIte]
 refine k5 _ _ ?_
 try clear k5 K5
 refine wp_seq_k (fun bZ bM=>?_)
 refine rg [0,1] ?_
 refine sw 16 (.agg #[ak,ae,ai,ah]) rfl (rl 36 0 [ak,ae,ai,ah] L4) ?_
 refine se ?_
 replace L2:=bf.lc ((aT.lc (L2.gr a8) aM).gr bv) aa
 refine es 36 0 (.agg #[ak,ae,ai,ah]) [ak,ae,ai,ah] #[ak,ae,ai,ah] L2 hB q2 ⟨ac.one0,ac.one1,ac.one2,ac.one3,trivial⟩ fun cx bT bt L2 hB=>?_
 refine za0 ?_
 refine bM _ _ ?_
 try clear bM bZ
 refine wp_ret ?_
 refine bodyPost_ret (v:=(.agg #[ak,ae,ai,ah])) (zb3 _ _ _ rfl rfl L2 (by kernel_rfl)) rfl ⟨?_,hB⟩
 have bi:=bb.trans bt
 replace ac:=ac.kp bi
 exact ⟨_,_,_,_,rfl,ac⟩

set_option maxRecDepth 100000 in
set_option maxHeartbeats 16000000 in
theorem mturnq {k ks:Nat} {aq av ab ad aQ aC aM aI aW aY aO aT aK aN aJ aU ap aj al ah aR aL aG aZ aX aP aV aF aS aH aE aD ak aw az aA a2 bb a8 a4 bc a1 a6 a3 ba a9 a7 a5:Value} {bw dI dM dK bR dH dJ dG bV hk gF gP:Rat} {w:World} (aB:IsRat w k aq av ab ad bw) (au:IsRat w k aQ aC aM aI dI) (af:IsRat w k aW aY aO aT dM) (ai:IsRat w k aK aN aJ aU dK) (ar:IsRat w k ap aj al ah bR) (ay:IsRat w k aR aL aG aZ dH) (ae:IsRat w k aX aP aV aF dJ) (ax:IsRat w k aS aH aE aD dG) (ac:IsRat w k ak aw az aA bV) (bd:IsRat w ks a2 bb a8 a4 hk) (bg:IsRat w ks bc a1 a6 a3 gF) (bf:IsRat w ks ba a9 a7 a5 gP) (_hk:k≤800) (dN:64≤k):
    Calls Tryz.prog 67 #[(.agg #[aq,av,ab,ad,aQ,aC,aM,aI,aW,aY,aO,aT,aK,aN,aJ,aU,ap,aj,al,ah,aR,aL,aG,aZ,aX,aP,aV,aF,aS,aH,aE,aD,ak,aw,az,aA,a2,bb,a8,a4,bc,a1,a6,a3,ba,a9,a7,a5])] w fun e w'=>(∃ t0 t1 t2 t3 t4 t5 t6 t7,e=.returned (.agg #[t0,t1,t2,t3,t4,t5,t6,t7])∧IsInt w' (40128) t0 t1 (wzq (zM7 bw dI dM dK bR dH dJ dG bV) 0)∧IsInt w' (40128) t2 t3 (wzq (zM7 bw dI dM dK bR dH dJ dG bV) 1)∧IsInt w' (40128) t4 t5 (wzq (zM7 bw dI dM dK bR dH dJ dG bV) 2)∧IsInt w' (40128) t6 t7 (wzq (zM7 bw dI dM dK bR dH dJ dG bV) 3))∧Gr w w':=by
 have hmaone:One1 [aq,av,ab,ad,aQ,aC,aM,aI,aW,aY,aO,aT,aK,aN,aJ,aU,ap,aj,al,ah,aR,aL,aG,aZ,aX,aP,aV,aF,aS,aH,aE,aD,ak,aw,az,aA,a2,bb,a8,a4,bc,a1,a6,a3,ba,a9,a7,a5]:=⟨aB.one0,aB.one1,aB.one2,aB.one3,au.one0,au.one1,au.one2,au.one3,af.one0,af.one1,af.one2,af.one3,ai.one0,ai.one1,ai.one2,ai.one3,ar.one0,ar.one1,ar.one2,ar.one3,ay.one0,ay.one1,ay.one2,ay.one3,ae.one0,ae.one1,ae.one2,ae.one3,ax.one0,ax.one1,ax.one2,ax.one3,ac.one0,ac.one1,ac.one2,ac.one3,bd.one0,bd.one1,bd.one2,bd.one3,bg.one0,bg.one1,bg.one2,bg.one3,bf.one0,bf.one1,bf.one2,bf.one3,trivial⟩
 refine enterN Tryz.func67 rfl ?_
 simp only [Tryz.ntmps67,List.size_toArray,List.length_cons,List.length_nil,Nat.reduceAdd,Nat.reduceSub,Array.replicate_succ,Array.replicate_zero,List.push_toArray,List.append_toArray,List.nil_append,List.cons_append]
 have hB:=Gr.refl w
 refine wp_seq_k (fun K1 k1=>?_)
 refine rg [0,1] ?_
 refine se ?_
 refine eb 41 #[aq,av,ab,ad,aQ,aC,aM,aI,aW,aY,aO,aT,aK,aN,aJ,aU,ap,aj,al,ah,aR,aL,aG,aZ,aX,aP,aV,aF,aS,aH,aE,aD,ak,aw,az,aA,a2,bb,a8,a4,bc,a1,a6,a3,ba,a9,a7,a5] 1 hB fun b2 w2 g2 L2 o2 q2 hB=>?_
 simp only [p3,p4]
 refine se ?_
 refine ea 125 #[.bool false,.slice none 0 0,.bool false,.slice none 0 0,.bool false,.slice none 0 0,.bool false,.slice none 0 0] 2 hB fun b3 w3 g3 L3 o3 q3 hB=>?_
 simp only [p3,p4]
 refine za0 ?_
 refine k1 _ _ ?_
 try clear k1 K1
 refine wp_seq_k (fun K4 k4=>?_)
 refine rg [0] ?_
 refine se ?_
 refine ea 156 #[.bool false,.slice none 0 0,.bool false,.slice none 0 0,.bool false,.slice none 0 0,.bool false,.slice none 0 0,.bool false,.slice none 0 0,.bool false,.slice none 0 0,.bool false,.slice none 0 0,.bool false,.slice none 0 0,.bool false,.slice none 0 0,.bool false,.slice none 0 0,.bool false,.slice none 0 0,.bool false,.slice none 0 0,.bool false,.slice none 0 0,.bool false,.slice none 0 0,.bool false,.slice none 0 0,.bool false,.slice none 0 0,.bool false,.slice none 0 0,.bool false,.slice none 0 0] 3 hB fun b5 w5 g5 L5 o5 q5 hB=>?_
 replace L2:=L2.gr g3
 have f5:=L2.ne o5
 have fT:=L3.ne o5
 simp only [p3,p4]
 refine za0 ?_
 refine k4 _ _ ?_
 try clear k4 K4
 refine wp_seq_k (fun K6 k6=>?_)
 refine wp_seq_k (fun K7 k7=>?_)
 refine rg [0,1] ?_
 replace L2:=L2.gr g5
 refine sw 9 (.agg #[aq,av,ab,ad,aQ,aC,aM,aI,aW,aY,aO,aT,aK,aN,aJ,aU,ap,aj,al,ah,aR,aL,aG,aZ,aX,aP,aV,aF,aS,aH,aE,aD,ak,aw,az,aA,a2,bb,a8,a4,bc,a1,a6,a3,ba,a9,a7,a5]) rfl (rl 41 0 [aq,av,ab,ad,aQ,aC,aM,aI,aW,aY,aO,aT,aK,aN,aJ,aU,ap,aj,al,ah,aR,aL,aG,aZ,aX,aP,aV,aF,aS,aH,aE,aD,ak,aw,az,aA,a2,bb,a8,a4,bc,a1,a6,a3,ba,a9,a7,a5] L2) ?_
 refine se ?_
 refine ec 10 (ments _ aB.one0 aB.one1 aB.one2 aB.one3 au.one0 au.one1 au.one2 au.one3 af.one0 af.one1 af.one2 af.one3 ai.one0 ai.one1 ai.one2 ai.one3 ar.one0 ar.one1 ar.one2 ar.one3 ay.one0 ay.one1 ay.one2 ay.one3 ae.one0 ae.one1 ae.one2 ae.one3 ax.one0 ax.one1 ax.one2 ax.one3 ac.one0 ac.one1 ac.one2 ac.one3 bd.one0 bd.one1 bd.one2 bd.one3 bg.one0 bg.one1 bg.one2 bg.one3 bf.one0 bf.one1 bf.one2 bf.one3) ?_
 rintro e8 w8 ⟨⟨iH,rfl,hh⟩,g8⟩
 refine ⟨_,rfl,?_⟩
 replace hB:=hB.trans g8
 simp only [p3,p4]
 refine za0 ?_
 refine k7 _ _ ?_
 try clear k7 K7
 refine wp_block ?_
 replace L2:=L2.gr g8
 replace L3:=L3.gr (g5.trans g8)
 replace L5:=L5.gr g8
 refine yB0 (Ds:=[]) (d1:=4) (d2:=5) (zI3 _ iH aq av ab ad aQ aC aM aI aW aY aO aT aK aN aJ aU ap aj al ah aR aL aG aZ aX aP aV aF aS aH aE aD ak aw az aA a2 bb a8 a4 bc a1 a6 a3 ba a9 a7 a5 aB.one0 aB.one1 aB.one2 aB.one3 au.one0 au.one1 au.one2 au.one3 af.one0 af.one1 af.one2 af.one3 ai.one0 ai.one1 ai.one2 ai.one3 ar.one0 ar.one1 ar.one2 ar.one3 ay.one0 ay.one1 ay.one2 ay.one3 ae.one0 ae.one1 ae.one2 ae.one3 ax.one0 ax.one1 ax.one2 ax.one3 ac.one0 ac.one1 ac.one2 ac.one3 bd.one0 bd.one1 bd.one2 bd.one3 bg.one0 bg.one1 bg.one2 bg.one3 bf.one0 bf.one1 bf.one2 bf.one3 _ hh) (fun prs W'=>Gr w W'∧Kp w8 W'∧Lc W' b2 #[aq,av,ab,ad,aQ,aC,aM,aI,aW,aY,aO,aT,aK,aN,aJ,aU,ap,aj,al,ah,aR,aL,aG,aZ,aX,aP,aV,aF,aS,aH,aE,aD,ak,aw,az,aA,a2,bb,a8,a4,bc,a1,a6,a3,ba,a9,a7,a5] 41∧Lc W' b3 #[.bool false,.slice none 0 0,.bool false,.slice none 0 0,.bool false,.slice none 0 0,.bool false,.slice none 0 0] 125∧∃ xs,Fills 9 [aq,av,ab,ad,aQ,aC,aM,aI,aW,aY,aO,aT,aK,aN,aJ,aU,ap,aj,al,ah,aR,aL,aG,aZ,aX,aP,aV,aF,aS,aH,aE,aD,ak,aw,az,aA,a2,bb,a8,a4,bc,a1,a6,a3,ba,a9,a7,a5] prs xs∧Lc W' b5 xs.toArray 156) (fun _ _ _=>False) ((yl5 hB.size).and ((yh6 _ _).and ((zl5 _ _ _ _).and ((zl5 _ _ _ _).and (yA8 fun xs=>(ownFrom_pure _ _).and (zl5 _ _ _ _)))))) (fun _ _ _ _ _ h _ _=>h) ⟨hB,Kp.refl _,L2,L3,⟨_,⟨rfl,zQ9 (by decide),fun _ h=>absurd h (by simp)⟩,L5⟩⟩ ?_ ?_ ?_ ?_ rfl (enters_of Tryz.func98 (by kernel_rfl) rfl)
 ·intro ll kk W K hK
  try simp only [p3,p4]
  refine wpIn_seq_k (fun K1 k1=>?_)
  refine rgI (ze3 ll) [0] ?_
  refine sv 4 (.int .i64 (kk.val:Int)) ?_
  try simp only [p3,p4]
  refine za0 ?_
  refine k1 _ _ ?_
  refine rgY [0,1] ?_
  refine zn8 (ze3 ll) 5 36 (.agg #[.bool false,.slice none 0 0,.bool false,.slice none 0 0]) (ent [aq,av,ab,ad,aQ,aC,aM,aI,aW,aY,aO,aT,aK,aN,aJ,aU,ap,aj,al,ah,aR,aL,aG,aZ,aX,aP,aV,aF,aS,aH,aE,aD,ak,aw,az,aA,a2,bb,a8,a4,bc,a1,a6,a3,ba,a9,a7,a5] kk) ?_ (zB0 hmaone rfl kk)
  try simp only [p3,p4]
  refine zc9 ?_
  exact hK
 ·rintro ll bB prs kk W ⟨hB,hkW,L2,L3,xs,hF,L5⟩ hqB hLB
  try simp only [p3,p4]
  refine wpIn_block ?_
  refine wpIn_seq_k (fun K1 k1=>?_)
  refine rgI (ze3 ll) [0,1] ?_
  refine sv 13 (.int .i64 (kk.val:Int)) ?_
  try simp only [p3,p4]
  refine sv 14 (.bool (decide ((kk.val:Int)<9))) ?_
  try simp only [p3,p4]
  refine za0 ?_
  refine k1 _ _ ?_
  clear k1 K1
  refine wpIn_cond_split rfl (fun hb=>?_) (fun hb=>?_)
  ·have hlt:kk.val<9:=by have:=of_decide_eq_true hb;omega
   refine rgI (ze3 ll) [0,1,2,3] ?_
   refine sv 15 (.int .i64 (kk.val:Int)) ?_
   try simp only [p3,p4]
   refine sw 16 (.agg (ent [aq,av,ab,ad,aQ,aC,aM,aI,aW,aY,aO,aT,aK,aN,aJ,aU,ap,aj,al,ah,aR,aL,aG,aZ,aX,aP,aV,aF,aS,aH,aE,aD,ak,aw,az,aA,a2,bb,a8,a4,bc,a1,a6,a3,ba,a9,a7,a5] kk).toArray) rfl (rl 36 0 (ent [aq,av,ab,ad,aQ,aC,aM,aI,aW,aY,aO,aT,aK,aN,aJ,aU,ap,aj,al,ah,aR,aL,aG,aZ,aX,aP,aV,aF,aS,aH,aE,aD,ak,aw,az,aA,a2,bb,a8,a4,bc,a1,a6,a3,ba,a9,a7,a5] kk) hLB) ?_
   try simp only [p3,p4]
   refine sw 17 (.pointer (some ⟨b5,4*kk.val,none⟩)) rfl (ys1 156 _ _ b5 9 36 4 kk.val hlt) ?_
   try simp only [p3,p4]
   obtain ⟨ys,hys,h1⟩:=hF.step hmaone rfl hlt
   refine se ?_
   refine es 36 (4*kk.val) _ (ent [aq,av,ab,ad,aQ,aC,aM,aI,aW,aY,aO,aT,aK,aN,aJ,aU,ap,aj,al,ah,aR,aL,aG,aZ,aX,aP,aV,aF,aS,aH,aE,aD,ak,aw,az,aA,a2,bb,a8,a4,bc,a1,a6,a3,ba,a9,a7,a5] kk) ys.toArray L5 hB q5 (zB0 hmaone rfl kk) ?_ (hoff:=by simp [hF.len,ent];omega) (hcs:=hys)
   intro w1 st kp N g
   refine za0 ?_
   have ho:=zK7 st L5 (Nat.le_of_eq (by rw [st.size]))
   exact ⟨ho.from _,ho.walks,g,hkW.trans kp,st.lc L2 f5,st.lc L3 fT,ys,h1,N⟩
  ·have hlt:¬ kk.val<9:=by have:=of_decide_eq_false hb;omega
   refine wpIn_skip ?_
   exact ⟨(KeepsOthers.refl _).from _,KeepsWalks.refl _,hB,hkW,L2,L3,xs,hF.skip hlt,L5⟩
 ·rintro D9 w9 Q9 ⟨h8,gB,iv,hd,xs,hF,gJ⟩ L9
  have iT:=hF.done (by decide) rfl
  subst iT
  clear hF
  have dv:=L3.ne Q9
  replace Q9:=Nat.le_trans (Below.size hB) Q9
  replace hB:=h8
  replace L3:=hd
  replace L5:=gJ
  change IsMk w9 D9 at L9
  change Lc w9 b5 #[aq,av,ab,ad,aQ,aC,aM,aI,aW,aY,aO,aT,aK,aN,aJ,aU,ap,aj,al,ah,aR,aL,aG,aZ,aX,aP,aV,aF,aS,aH,aE,aD,ak,aw,az,aA] 156 at L5
  refine k6 _ _ ?_
  try clear k6 K6
  refine wp_seq_k (fun hY hx=>?_)
  refine rg [0,1,2] ?_
  refine se ?_
  refine ec 18 (zX1 (1) (by omega) (by omega) _) ?_
  rintro e11 kC ⟨⟨dD,dE,dF,dC,rfl,du⟩,ed⟩
  refine ⟨_,rfl,?_⟩
  replace hB:=hB.trans ed
  simp only [p3,p4]
  refine se ?_
  refine ea 36 #[.bool false,.slice none 0 0,.bool false,.slice none 0 0] 6 hB fun hO kl ei aa gH q12 hB=>?_
  replace L3:=L3.gr ed
  have e9:=L3.ne gH
  replace L5:=L5.gr ed
  have fK:=L5.ne gH
  replace L9:=L9.gr ed
  have eG:=L9.ne gH
  simp only [p3,p4]
  refine se ?_
  refine es 36 0 (.agg #[dD,dE,dF,dC]) [dD,dE,dF,dC] #[dD,dE,dF,dC] aa hB q12 ⟨du.one0,du.one1,du.one2,du.one3,trivial⟩ fun iF fD dL aa hB=>?_
  refine za0 ?_
  refine hx _ _ ?_
  try clear hx hY
  refine wp_seq_k (fun ig hP=>?_)
  have gZ:=Below.size hB
  replace L3:=fD.lc (L3.gr ei) e9
  have fy:=L3.lt
  replace L5:=fD.lc (L5.gr ei) fK
  have eB:=L5.lt
  have dZ:=aa.lt
  replace L9:=(L9.gr ei).st fD eG
  have eK:=L9.lt
  have cx:=Gr.drew iF
  replace hB:=hB.trans cx
  replace L5:=L5.gr cx
  replace aa:=aa.gr cx
  refine zM9 (fun w'=>Lc w' b5 #[aq,av,ab,ad,aQ,aC,aM,aI,aW,aY,aO,aT,aK,aN,aJ,aU,ap,aj,al,ah,aR,aL,aG,aZ,aX,aP,aV,aF,aS,aH,aE,aD,ak,aw,az,aA] 156∧Lc w' hO #[dD,dE,dF,dC] 36) [(true,0),(true,1),(true,2),(true,3),(true,4),(true,5),(true,6),(true,9),(true,10),(true,11),(true,12),(true,14),(true,15),(true,16),(true,17),(true,19),(true,20),(true,21),(true,22),(true,25),(true,26),(true,27),(true,28),(true,30),(true,31),(true,32),(true,34),(true,35),(true,36),(true,37),(true,40),(true,41),(true,42),(true,43),(true,45),(true,46),(true,47),(true,48),(true,51),(true,52),(true,53),(true,54),(true,56),(true,57),(true,58),(true,59),(true,61),(true,62),(true,63),(true,65),(true,66),(true,67),(true,68),(true,71),(true,72),(true,73),(true,74),(true,77),(true,78),(true,79),(true,80),(true,82),(true,83),(true,84),(true,85),(true,87),(true,88),(true,89),(true,90),(true,92),(true,93),(true,94),(true,96),(true,97),(true,98),(true,99),(false,7),(false,8),(false,13),(false,18),(false,23),(true,24),(false,29),(false,33),(false,38),(false,39),(false,44),(false,49),(true,50),(false,55),(false,60),(false,64),(false,69),(false,70),(false,75),(true,76),(false,81),(false,86),(false,91),(false,95),(false,100),(false,101),(true,102),(true,103)] [⟨104,7,158,#[.bool false,.slice none 0 0,.bool false,.slice none 0 0,.bool false,.slice none 0 0,.bool false,.slice none 0 0,.bool false,.slice none 0 0,.bool false,.slice none 0 0,.bool false,.slice none 0 0,.bool false,.slice none 0 0,.bool false,.slice none 0 0,.bool false,.slice none 0 0,.bool false,.slice none 0 0,.bool false,.slice none 0 0,.bool false,.slice none 0 0,.bool false,.slice none 0 0,.bool false,.slice none 0 0,.bool false,.slice none 0 0,.bool false,.slice none 0 0,.bool false,.slice none 0 0,.bool false,.slice none 0 0,.bool false,.slice none 0 0,.bool false,.slice none 0 0,.bool false,.slice none 0 0,.bool false,.slice none 0 0,.bool false,.slice none 0 0,.bool false,.slice none 0 0,.bool false,.slice none 0 0,.bool false,.slice none 0 0,.bool false,.slice none 0 0,.bool false,.slice none 0 0,.bool false,.slice none 0 0,.bool false,.slice none 0 0,.bool false,.slice none 0 0]⟩] [(false,105)] (by kernel_rfl) (by kernel_rfl) (by kernel_rfl) (by kernel_rfl) (by kernel_rfl) (by decide) (fun _ _ _ _ _ h=>h) (fun _ _ _ _ _ h=>h) (fun w' o h=>⟨Lc.gr h.1 (Gr.alloc w' o),Lc.gr h.2 (Gr.alloc w' o)⟩) ⟨L5,aa⟩ (by intro f hf;simp only [List.mem_cons,List.not_mem_nil,or_false] at hf;rcases hf with rfl<;>first | exact zO6 (z:=(.agg #[.bool false,.slice none 0 0,.bool false,.slice none 0 0,.bool false,.slice none 0 0,.bool false,.slice none 0 0,.bool false,.slice none 0 0,.bool false,.slice none 0 0,.bool false,.slice none 0 0,.bool false,.slice none 0 0,.bool false,.slice none 0 0,.bool false,.slice none 0 0,.bool false,.slice none 0 0,.bool false,.slice none 0 0,.bool false,.slice none 0 0,.bool false,.slice none 0 0,.bool false,.slice none 0 0,.bool false,.slice none 0 0,.bool false,.slice none 0 0,.bool false,.slice none 0 0,.bool false,.slice none 0 0,.bool false,.slice none 0 0,.bool false,.slice none 0 0,.bool false,.slice none 0 0,.bool false,.slice none 0 0,.bool false,.slice none 0 0,.bool false,.slice none 0 0,.bool false,.slice none 0 0,.bool false,.slice none 0 0,.bool false,.slice none 0 0,.bool false,.slice none 0 0,.bool false,.slice none 0 0,.bool false,.slice none 0 0,.bool false,.slice none 0 0])) (by kernel_rfl) rfl) ?_
  refine fw 19 (.agg #[dD,dE,dF,dC]) rfl (fun w' hS=>(rl 36 0 [dD,dE,dF,dC] hS.2)) ?_
  refine fv 20 (.pointer (some ⟨b5,0,none⟩)) ?_
  refine fw 21 (.agg #[aq,av,ab,ad]) rfl (fun w' hS=>(rl 36 0 [aq,av,ab,ad] hS.1)) ?_
  refine fv 22 (.pointer (some ⟨b5,16,none⟩)) ?_
  refine fw 23 (.agg #[ap,aj,al,ah]) rfl (fun w' hS=>(rl 36 16 [ap,aj,al,ah] hS.1)) ?_
  refine fv 24 (.pointer (some ⟨b5,32,none⟩)) ?_
  refine fw 25 (.agg #[ak,aw,az,aA]) rfl (fun w' hS=>(rl 36 32 [ak,aw,az,aA] hS.1)) ?_
  refine fv 28 (.pointer (some ⟨b5,28,none⟩)) ?_
  refine fw 29 (.agg #[aS,aH,aE,aD]) rfl (fun w' hS=>(rl 36 28 [aS,aH,aE,aD] hS.1)) ?_
  refine fv 30 (.pointer (some ⟨b5,20,none⟩)) ?_
  refine fw 31 (.agg #[aR,aL,aG,aZ]) rfl (fun w' hS=>(rl 36 20 [aR,aL,aG,aZ] hS.1)) ?_
  refine fv 33 (.pointer (some ⟨b5,8,none⟩)) ?_
  refine fw 34 (.agg #[aW,aY,aO,aT]) rfl (fun w' hS=>(rl 36 8 [aW,aY,aO,aT] hS.1)) ?_
  refine fv 35 (.pointer (some ⟨b5,24,none⟩)) ?_
  refine fw 36 (.agg #[aX,aP,aV,aF]) rfl (fun w' hS=>(rl 36 24 [aX,aP,aV,aF] hS.1)) ?_
  refine fv 38 (.pointer (some ⟨b5,12,none⟩)) ?_
  refine fw 39 (.agg #[aK,aN,aJ,aU]) rfl (fun w' hS=>(rl 36 12 [aK,aN,aJ,aU] hS.1)) ?_
  refine fv 40 (.pointer (some ⟨b5,4,none⟩)) ?_
  refine fw 41 (.agg #[aQ,aC,aM,aI]) rfl (fun w' hS=>(rl 36 4 [aQ,aC,aM,aI] hS.1)) ?_
  refine fv 44 (.pointer (some ⟨b5,28,none⟩)) ?_
  refine fw 45 (.agg #[aS,aH,aE,aD]) rfl (fun w' hS=>(rl 36 28 [aS,aH,aE,aD] hS.1)) ?_
  refine fv 46 (.pointer (some ⟨b5,20,none⟩)) ?_
  refine fw 47 (.agg #[aR,aL,aG,aZ]) rfl (fun w' hS=>(rl 36 20 [aR,aL,aG,aZ] hS.1)) ?_
  refine fw 49 (.agg #[dD,dE,dF,dC]) rfl (fun w' hS=>(rl 36 0 [dD,dE,dF,dC] hS.2)) ?_
  refine fv 50 (.pointer (some ⟨b5,0,none⟩)) ?_
  refine fw 51 (.agg #[aq,av,ab,ad]) rfl (fun w' hS=>(rl 36 0 [aq,av,ab,ad] hS.1)) ?_
  refine fv 53 (.pointer (some ⟨b5,16,none⟩)) ?_
  refine fw 54 (.agg #[ap,aj,al,ah]) rfl (fun w' hS=>(rl 36 16 [ap,aj,al,ah] hS.1)) ?_
  refine fv 55 (.pointer (some ⟨b5,32,none⟩)) ?_
  refine fw 56 (.agg #[ak,aw,az,aA]) rfl (fun w' hS=>(rl 36 32 [ak,aw,az,aA] hS.1)) ?_
  refine fv 59 (.pointer (some ⟨b5,4,none⟩)) ?_
  refine fw 60 (.agg #[aQ,aC,aM,aI]) rfl (fun w' hS=>(rl 36 4 [aQ,aC,aM,aI] hS.1)) ?_
  refine fv 61 (.pointer (some ⟨b5,12,none⟩)) ?_
  refine fw 62 (.agg #[aK,aN,aJ,aU]) rfl (fun w' hS=>(rl 36 12 [aK,aN,aJ,aU] hS.1)) ?_
  refine fv 64 (.pointer (some ⟨b5,8,none⟩)) ?_
  refine fw 65 (.agg #[aW,aY,aO,aT]) rfl (fun w' hS=>(rl 36 8 [aW,aY,aO,aT] hS.1)) ?_
  refine fv 66 (.pointer (some ⟨b5,24,none⟩)) ?_
  refine fw 67 (.agg #[aX,aP,aV,aF]) rfl (fun w' hS=>(rl 36 24 [aX,aP,aV,aF] hS.1)) ?_
  refine fv 70 (.pointer (some ⟨b5,8,none⟩)) ?_
  refine fw 71 (.agg #[aW,aY,aO,aT]) rfl (fun w' hS=>(rl 36 8 [aW,aY,aO,aT] hS.1)) ?_
  refine fv 72 (.pointer (some ⟨b5,24,none⟩)) ?_
  refine fw 73 (.agg #[aX,aP,aV,aF]) rfl (fun w' hS=>(rl 36 24 [aX,aP,aV,aF] hS.1)) ?_
  refine fv 75 (.pointer (some ⟨b5,4,none⟩)) ?_
  refine fw 76 (.agg #[aQ,aC,aM,aI]) rfl (fun w' hS=>(rl 36 4 [aQ,aC,aM,aI] hS.1)) ?_
  refine fv 77 (.pointer (some ⟨b5,12,none⟩)) ?_
  refine fw 78 (.agg #[aK,aN,aJ,aU]) rfl (fun w' hS=>(rl 36 12 [aK,aN,aJ,aU] hS.1)) ?_
  refine fw 80 (.agg #[dD,dE,dF,dC]) rfl (fun w' hS=>(rl 36 0 [dD,dE,dF,dC] hS.2)) ?_
  refine fv 81 (.pointer (some ⟨b5,16,none⟩)) ?_
  refine fw 82 (.agg #[ap,aj,al,ah]) rfl (fun w' hS=>(rl 36 16 [ap,aj,al,ah] hS.1)) ?_
  refine fv 84 (.pointer (some ⟨b5,0,none⟩)) ?_
  refine fw 85 (.agg #[aq,av,ab,ad]) rfl (fun w' hS=>(rl 36 0 [aq,av,ab,ad] hS.1)) ?_
  refine fv 86 (.pointer (some ⟨b5,32,none⟩)) ?_
  refine fw 87 (.agg #[ak,aw,az,aA]) rfl (fun w' hS=>(rl 36 32 [ak,aw,az,aA] hS.1)) ?_
  refine fv 90 (.pointer (some ⟨b5,20,none⟩)) ?_
  refine fw 91 (.agg #[aR,aL,aG,aZ]) rfl (fun w' hS=>(rl 36 20 [aR,aL,aG,aZ] hS.1)) ?_
  refine fv 92 (.pointer (some ⟨b5,28,none⟩)) ?_
  refine fw 93 (.agg #[aS,aH,aE,aD]) rfl (fun w' hS=>(rl 36 28 [aS,aH,aE,aD] hS.1)) ?_
  refine fv 96 (.pointer (some ⟨b5,12,none⟩)) ?_
  refine fw 97 (.agg #[aK,aN,aJ,aU]) rfl (fun w' hS=>(rl 36 12 [aK,aN,aJ,aU] hS.1)) ?_
  refine fv 98 (.pointer (some ⟨b5,4,none⟩)) ?_
  refine fw 99 (.agg #[aQ,aC,aM,aI]) rfl (fun w' hS=>(rl 36 4 [aQ,aC,aM,aI] hS.1)) ?_
  refine fv 101 (.pointer (some ⟨b5,8,none⟩)) ?_
  refine fw 102 (.agg #[aW,aY,aO,aT]) rfl (fun w' hS=>(rl 36 8 [aW,aY,aO,aT] hS.1)) ?_
  refine fv 103 (.pointer (some ⟨b5,24,none⟩)) ?_
  refine fw 104 (.agg #[aX,aP,aV,aF]) rfl (fun w' hS=>(rl 36 24 [aX,aP,aV,aF] hS.1)) ?_
  refine fv 106 (.pointer (some ⟨b5,20,none⟩)) ?_
  refine fw 107 (.agg #[aR,aL,aG,aZ]) rfl (fun w' hS=>(rl 36 20 [aR,aL,aG,aZ] hS.1)) ?_
  refine fv 108 (.pointer (some ⟨b5,28,none⟩)) ?_
  refine fw 109 (.agg #[aS,aH,aE,aD]) rfl (fun w' hS=>(rl 36 28 [aS,aH,aE,aD] hS.1)) ?_
  refine fw 111 (.agg #[dD,dE,dF,dC]) rfl (fun w' hS=>(rl 36 0 [dD,dE,dF,dC] hS.2)) ?_
  refine fv 112 (.pointer (some ⟨b5,32,none⟩)) ?_
  refine fw 113 (.agg #[ak,aw,az,aA]) rfl (fun w' hS=>(rl 36 32 [ak,aw,az,aA] hS.1)) ?_
  refine fv 115 (.pointer (some ⟨b5,0,none⟩)) ?_
  refine fw 116 (.agg #[aq,av,ab,ad]) rfl (fun w' hS=>(rl 36 0 [aq,av,ab,ad] hS.1)) ?_
  refine fv 117 (.pointer (some ⟨b5,16,none⟩)) ?_
  refine fw 118 (.agg #[ap,aj,al,ah]) rfl (fun w' hS=>(rl 36 16 [ap,aj,al,ah] hS.1)) ?_
  refine zd1 rfl rfl (fun jC dQ _ iU hn=>?_)
  replace hB:=hB.trans dQ
  refine yj5 36 4 #[dD,dE,dF,dC,aq,av,ab,ad,ap,aj,al,ah,ak,aw,az,aA] (some 26) rfl (fun _=>by kernel_rfl) (fun jS jR dq gV iZ=>?_)
  replace L3:=L3.gr (cx.trans dQ)
  replace L5:=L5.gr dQ
  replace aa:=aa.gr dQ
  replace L9:=(L9.gr cx).gr dQ
  replace hB:=hB.trans dq
  replace L5:=L5.gr dq
  replace aa:=aa.gr dq
  refine hn _ _ dq ⟨L5,aa⟩ ?_
  try clear hn iU
  simp only [zM5,p3,p4]
  refine zd1 rfl rfl (fun jh dm _ h5 hu=>?_)
  replace hB:=hB.trans dm
  replace gV:=gV.gr dm
  have g1:=ei.kp.trans (dL.trans (cx.kp.trans (dQ.kp.trans (dq.kp.trans dm.kp))))
  replace du:=du.kp g1
  have fc:=g2.kp.trans (g3.kp.trans (g5.kp.trans (g8.kp.trans (gB.trans (ed.kp.trans (ei.kp.trans (dL.trans (cx.kp.trans (dQ.kp.trans (dq.kp.trans dm.kp))))))))))
  replace aB:=aB.kp fc
  replace ar:=ar.kp fc
  replace ac:=ac.kp fc
  refine ec 27 (sum_4 (k:=k+64) (du.mono (by omega)) (aB.mono (by omega)) (ar.mono (by omega)) (ac.mono (by omega)) gV (by omega)) ?_
  rintro j0 jU ⟨⟨d7,dU,dR,dS,rfl,dP⟩,dt⟩
  refine ⟨_,rfl,?_⟩
  replace hB:=hB.trans dt
  replace L5:=L5.gr (dm.trans dt)
  replace aa:=aa.gr (dm.trans dt)
  refine hu _ _ dt ⟨L5,aa⟩ ?_
  try clear hu h5
  simp only [p3,p4]
  refine zd1 rfl rfl (fun jj dn _ h4 hv=>?_)
  replace hB:=hB.trans dn
  have gy:=g2.kp.trans (g3.kp.trans (g5.kp.trans (g8.kp.trans (gB.trans (ed.kp.trans (ei.kp.trans (dL.trans (cx.kp.trans (dQ.kp.trans (dq.kp.trans (dm.kp.trans (dt.kp.trans dn.kp))))))))))))
  replace ax:=ax.kp gy
  replace ay:=ay.kp gy
  refine ec 32 (zv1 ax ay (by omega)) ?_
  rintro e23 kx ⟨⟨e0,ey,eR,e5,rfl,eQ⟩,dk⟩
  refine ⟨_,rfl,?_⟩
  replace hB:=hB.trans dk
  replace L5:=L5.gr (dn.trans dk)
  replace aa:=aa.gr (dn.trans dk)
  refine hv _ _ dk ⟨L5,aa⟩ ?_
  try clear hv h4
  simp only [p3,p4]
  refine zd1 rfl rfl (fun kg dl _ iR hE=>?_)
  replace hB:=hB.trans dl
  have ga:=g2.kp.trans (g3.kp.trans (g5.kp.trans (g8.kp.trans (gB.trans (ed.kp.trans (ei.kp.trans (dL.trans (cx.kp.trans (dQ.kp.trans (dq.kp.trans (dm.kp.trans (dt.kp.trans (dn.kp.trans (dk.kp.trans dl.kp))))))))))))))
  replace af:=af.kp ga
  replace ae:=ae.kp ga
  refine ec 37 (zv1 af ae (by omega)) ?_
  rintro jZ i9 ⟨⟨ew,fi,fF,e7,rfl,fk⟩,cD⟩
  refine ⟨_,rfl,?_⟩
  replace hB:=hB.trans cD
  replace L5:=L5.gr (dl.trans cD)
  replace aa:=aa.gr (dl.trans cD)
  refine hE _ _ cD ⟨L5,aa⟩ ?_
  try clear hE iR
  simp only [p3,p4]
  refine zd1 rfl rfl (fun j7 cE _ iE hJ=>?_)
  replace hB:=hB.trans cE
  have gl:=g2.kp.trans (g3.kp.trans (g5.kp.trans (g8.kp.trans (gB.trans (ed.kp.trans (ei.kp.trans (dL.trans (cx.kp.trans (dQ.kp.trans (dq.kp.trans (dm.kp.trans (dt.kp.trans (dn.kp.trans (dk.kp.trans (dl.kp.trans (cD.kp.trans cE.kp))))))))))))))))
  replace ai:=ai.kp gl
  replace au:=au.kp gl
  refine ec 42 (zv1 ai au (by omega)) ?_
  rintro js jI ⟨⟨eP,eu,fB,eD,rfl,fd⟩,cB⟩
  refine ⟨_,rfl,?_⟩
  replace hB:=hB.trans cB
  replace L5:=L5.gr (cE.trans cB)
  replace aa:=aa.gr (cE.trans cB)
  refine hJ _ _ cB ⟨L5,aa⟩ ?_
  try clear hJ iE
  simp only [p3,p4]
  refine fv 43 (.agg #[d7,dU,dR,dS,e0,ey,eR,e5,ew,fi,fF,e7,eP,eu,fB,eD]) ?_
  refine zd1 rfl rfl (fun jJ cC _ ik hp=>?_)
  replace hB:=hB.trans cC
  have f0:=dk.kp.trans (dl.kp.trans (cD.kp.trans (cE.kp.trans (cB.kp.trans cC.kp))))
  replace ax:=ax.kp f0
  replace ay:=ay.kp f0
  refine ec 48 (zv1 ax ay (by omega)) ?_
  rintro e32 j9 ⟨⟨eX,ff,e1,fa,rfl,eO⟩,cu⟩
  refine ⟨_,rfl,?_⟩
  replace hB:=hB.trans cu
  replace L5:=L5.gr (cC.trans cu)
  replace aa:=aa.gr (cC.trans cu)
  refine hp _ _ cu ⟨L5,aa⟩ ?_
  try clear hp ik
  simp only [p3,p4]
  refine zd1 rfl rfl (fun iY cy _ il hQ=>?_)
  replace hB:=hB.trans cy
  have gg:=dt.kp.trans (dn.kp.trans (dk.kp.trans (dl.kp.trans (cD.kp.trans (cE.kp.trans (cB.kp.trans (cC.kp.trans (cu.kp.trans cy.kp))))))))
  replace du:=du.kp gg
  replace aB:=aB.kp gg
  refine ec 52 (zj5 du aB (by omega)) ?_
  rintro jH ke ⟨⟨jq,i4,jx,jP,rfl,gG⟩,cq⟩
  refine ⟨_,rfl,?_⟩
  replace hB:=hB.trans cq
  replace L5:=L5.gr (cy.trans cq)
  replace aa:=aa.gr (cy.trans cq)
  refine hQ _ _ cq ⟨L5,aa⟩ ?_
  try clear hQ il
  simp only [p3,p4]
  refine zd1 rfl rfl (fun jN co _ iP hU=>?_)
  replace hB:=hB.trans co
  have gp:=dt.kp.trans (dn.kp.trans (dk.kp.trans (dl.kp.trans (cD.kp.trans (cE.kp.trans (cB.kp.trans (cC.kp.trans (cu.kp.trans (cy.kp.trans (cq.kp.trans co.kp))))))))))
  replace ar:=ar.kp gp
  replace ac:=ac.kp gp
  refine ec 57 (zj5 ar ac (by omega)) ?_
  rintro jm ka ⟨⟨jc,jr,ku,jo,rfl,hc⟩,ch⟩
  refine ⟨_,rfl,?_⟩
  replace hB:=hB.trans ch
  replace L5:=L5.gr (co.trans ch)
  replace aa:=aa.gr (co.trans ch)
  refine hU _ _ ch ⟨L5,aa⟩ ?_
  try clear hU iP
  simp only [p3,p4]
  refine zd1 rfl rfl (fun jL cj _ iB hw=>?_)
  replace hB:=hB.trans cj
  have g7:=co.kp.trans (ch.kp.trans cj.kp)
  replace gG:=gG.kp g7
  replace hc:=hc.kp cj.kp
  refine ec 58 (zv1 gG hc (by omega)) ?_
  rintro kz km ⟨⟨d4,d5,dX,d6,rfl,dO⟩,cl⟩
  refine ⟨_,rfl,?_⟩
  replace hB:=hB.trans cl
  replace L5:=L5.gr (cj.trans cl)
  replace aa:=aa.gr (cj.trans cl)
  refine hw _ _ cl ⟨L5,aa⟩ ?_
  try clear hw iB
  simp only [p3,p4]
  refine zd1 rfl rfl (fun kw cm _ iA ht=>?_)
  replace hB:=hB.trans cm
  have fQ:=cB.kp.trans (cC.kp.trans (cu.kp.trans (cy.kp.trans (cq.kp.trans (co.kp.trans (ch.kp.trans (cj.kp.trans (cl.kp.trans cm.kp))))))))
  replace au:=au.kp fQ
  replace ai:=ai.kp fQ
  refine ec 63 (zj5 au ai (by omega)) ?_
  rintro jQ jy ⟨⟨fH,fE,eC,ez,rfl,eE⟩,ck⟩
  refine ⟨_,rfl,?_⟩
  replace hB:=hB.trans ck
  replace L5:=L5.gr (cm.trans ck)
  replace aa:=aa.gr (cm.trans ck)
  refine ht _ _ ck ⟨L5,aa⟩ ?_
  try clear ht iA
  simp only [p3,p4]
  refine zd1 rfl rfl (fun j6 cg _ hW hy=>?_)
  replace hB:=hB.trans cg
  have gq:=cD.kp.trans (cE.kp.trans (cB.kp.trans (cC.kp.trans (cu.kp.trans (cy.kp.trans (cq.kp.trans (co.kp.trans (ch.kp.trans (cj.kp.trans (cl.kp.trans (cm.kp.trans (ck.kp.trans cg.kp))))))))))))
  replace af:=af.kp gq
  replace ae:=ae.kp gq
  refine ec 68 (zj5 af ae (by omega)) ?_
  rintro jK i5 ⟨⟨eA,et,eY,ej,rfl,fz⟩,cd⟩
  refine ⟨_,rfl,?_⟩
  replace hB:=hB.trans cd
  replace L5:=L5.gr (cg.trans cd)
  replace aa:=aa.gr (cg.trans cd)
  refine hy _ _ cd ⟨L5,aa⟩ ?_
  try clear hy hW
  simp only [p3,p4]
  refine fv 69 (.agg #[eX,ff,e1,fa,d4,d5,dX,d6,fH,fE,eC,ez,eA,et,eY,ej]) ?_
  refine zd1 rfl rfl (fun j1 ce _ hZ hI=>?_)
  replace hB:=hB.trans ce
  have f6:=cd.kp.trans ce.kp
  replace af:=af.kp f6
  replace ae:=ae.kp f6
  refine ec 74 (zv1 af ae (by omega)) ?_
  rintro kj jl ⟨⟨em,eU,ex,eZ,rfl,e2⟩,b9⟩
  refine ⟨_,rfl,?_⟩
  replace hB:=hB.trans b9
  replace L5:=L5.gr (ce.trans b9)
  replace aa:=aa.gr (ce.trans b9)
  refine hI _ _ b9 ⟨L5,aa⟩ ?_
  try clear hI hZ
  simp only [p3,p4]
  refine zd1 rfl rfl (fun ko b7 _ iJ hr=>?_)
  replace hB:=hB.trans b7
  have fX:=ck.kp.trans (cg.kp.trans (cd.kp.trans (ce.kp.trans (b9.kp.trans b7.kp))))
  replace au:=au.kp fX
  replace ai:=ai.kp fX
  refine ec 79 (zj5 au ai (by omega)) ?_
  rintro jV jX ⟨⟨fs,fu,eT,fj,rfl,eH⟩,bZ⟩
  refine ⟨_,rfl,?_⟩
  replace hB:=hB.trans bZ
  replace L5:=L5.gr (b7.trans bZ)
  replace aa:=aa.gr (b7.trans bZ)
  refine hr _ _ bZ ⟨L5,aa⟩ ?_
  try clear hr iJ
  simp only [p3,p4]
  refine zd1 rfl rfl (fun je b6 _ iK hq=>?_)
  replace hB:=hB.trans b6
  have gY:=cq.kp.trans (co.kp.trans (ch.kp.trans (cj.kp.trans (cl.kp.trans (cm.kp.trans (ck.kp.trans (cg.kp.trans (cd.kp.trans (ce.kp.trans (b9.kp.trans (b7.kp.trans (bZ.kp.trans b6.kp))))))))))))
  replace du:=du.kp gY
  have g4:=ch.kp.trans (cj.kp.trans (cl.kp.trans (cm.kp.trans (ck.kp.trans (cg.kp.trans (cd.kp.trans (ce.kp.trans (b9.kp.trans (b7.kp.trans (bZ.kp.trans b6.kp))))))))))
  replace ar:=ar.kp g4
  refine ec 83 (zj5 du ar (by omega)) ?_
  rintro jb kn ⟨⟨j5,kf,jM,iW,rfl,gN⟩,bN⟩
  refine ⟨_,rfl,?_⟩
  replace hB:=hB.trans bN
  replace L5:=L5.gr (b6.trans bN)
  replace aa:=aa.gr (b6.trans bN)
  refine hq _ _ bN ⟨L5,aa⟩ ?_
  try clear hq iK
  simp only [p3,p4]
  refine zd1 rfl rfl (fun kb bK _ iz hN=>?_)
  replace hB:=hB.trans bK
  have gE:=cq.kp.trans (co.kp.trans (ch.kp.trans (cj.kp.trans (cl.kp.trans (cm.kp.trans (ck.kp.trans (cg.kp.trans (cd.kp.trans (ce.kp.trans (b9.kp.trans (b7.kp.trans (bZ.kp.trans (b6.kp.trans (bN.kp.trans bK.kp))))))))))))))
  replace aB:=aB.kp gE
  have gR:=ch.kp.trans (cj.kp.trans (cl.kp.trans (cm.kp.trans (ck.kp.trans (cg.kp.trans (cd.kp.trans (ce.kp.trans (b9.kp.trans (b7.kp.trans (bZ.kp.trans (b6.kp.trans (bN.kp.trans bK.kp))))))))))))
  replace ac:=ac.kp gR
  refine ec 88 (zj5 aB ac (by omega)) ?_
  rintro kA iX ⟨⟨kq,i8,jD,jT,rfl,hg⟩,bp⟩
  refine ⟨_,rfl,?_⟩
  replace hB:=hB.trans bp
  replace L5:=L5.gr (bK.trans bp)
  replace aa:=aa.gr (bK.trans bp)
  refine hN _ _ bp ⟨L5,aa⟩ ?_
  try clear hN iz
  simp only [p3,p4]
  refine zd1 rfl rfl (fun iV bu _ iG hC=>?_)
  replace hB:=hB.trans bu
  have hl:=bK.kp.trans (bp.kp.trans bu.kp)
  replace gN:=gN.kp hl
  replace hg:=hg.kp bu.kp
  refine ec 89 (zv1 gN hg (by omega)) ?_
  rintro i7 jf ⟨⟨dW,dT,dY,d0,rfl,dN⟩,bH⟩
  refine ⟨_,rfl,?_⟩
  replace hB:=hB.trans bH
  replace L5:=L5.gr (bu.trans bH)
  replace aa:=aa.gr (bu.trans bH)
  refine hC _ _ bH ⟨L5,aa⟩ ?_
  try clear hC iG
  simp only [p3,p4]
  refine zd1 rfl rfl (fun j8 bT _ iq hL=>?_)
  replace hB:=hB.trans bT
  have gv:=cu.kp.trans (cy.kp.trans (cq.kp.trans (co.kp.trans (ch.kp.trans (cj.kp.trans (cl.kp.trans (cm.kp.trans (ck.kp.trans (cg.kp.trans (cd.kp.trans (ce.kp.trans (b9.kp.trans (b7.kp.trans (bZ.kp.trans (b6.kp.trans (bN.kp.trans (bK.kp.trans (bp.kp.trans (bu.kp.trans (bH.kp.trans bT.kp))))))))))))))))))))
  replace ay:=ay.kp gv
  replace ax:=ax.kp gv
  refine ec 94 (zj5 ay ax (by omega)) ?_
  rintro jv jG ⟨⟨fC,eo,fx,en,rfl,eI⟩,bm⟩
  refine ⟨_,rfl,?_⟩
  replace hB:=hB.trans bm
  replace L5:=L5.gr (bT.trans bm)
  replace aa:=aa.gr (bT.trans bm)
  refine hL _ _ bm ⟨L5,aa⟩ ?_
  try clear hL iq
  simp only [p3,p4]
  refine fv 95 (.agg #[em,eU,ex,eZ,fs,fu,eT,fj,dW,dT,dY,d0,fC,eo,fx,en]) ?_
  refine zd1 rfl rfl (fun jt bj _ iD hR=>?_)
  replace hB:=hB.trans bj
  have gn:=bZ.kp.trans (b6.kp.trans (bN.kp.trans (bK.kp.trans (bp.kp.trans (bu.kp.trans (bH.kp.trans (bT.kp.trans (bm.kp.trans bj.kp))))))))
  replace ai:=ai.kp gn
  replace au:=au.kp gn
  refine ec 100 (zv1 ai au (by omega)) ?_
  rintro j2 kd ⟨⟨fp,eV,fA,fJ,rfl,fG⟩,bt⟩
  refine ⟨_,rfl,?_⟩
  replace hB:=hB.trans bt
  replace L5:=L5.gr (bj.trans bt)
  replace aa:=aa.gr (bj.trans bt)
  refine hR _ _ bt ⟨L5,aa⟩ ?_
  try clear hR iD
  simp only [p3,p4]
  refine zd1 rfl rfl (fun jd bk _ ib hz=>?_)
  replace hB:=hB.trans bk
  have fO:=b9.kp.trans (b7.kp.trans (bZ.kp.trans (b6.kp.trans (bN.kp.trans (bK.kp.trans (bp.kp.trans (bu.kp.trans (bH.kp.trans (bT.kp.trans (bm.kp.trans (bj.kp.trans (bt.kp.trans bk.kp))))))))))))
  replace af:=af.kp fO
  replace ae:=ae.kp fO
  refine ec 105 (zj5 af ae (by omega)) ?_
  rintro kr kv ⟨⟨eJ,eF,e4,fg,rfl,ft⟩,bo⟩
  refine ⟨_,rfl,?_⟩
  replace hB:=hB.trans bo
  replace L5:=L5.gr (bk.trans bo)
  replace aa:=aa.gr (bk.trans bo)
  refine hz _ _ bo ⟨L5,aa⟩ ?_
  try clear hz ib
  simp only [p3,p4]
  refine zd1 rfl rfl (fun j4 bv _ iw hG=>?_)
  replace hB:=hB.trans bv
  have fN:=bm.kp.trans (bj.kp.trans (bt.kp.trans (bk.kp.trans (bo.kp.trans bv.kp))))
  replace ay:=ay.kp fN
  replace ax:=ax.kp fN
  refine ec 110 (zj5 ay ax (by omega)) ?_
  rintro i6 jE ⟨⟨fo,eW,e6,eM,rfl,el⟩,bn⟩
  refine ⟨_,rfl,?_⟩
  replace hB:=hB.trans bn
  replace L5:=L5.gr (bv.trans bn)
  replace aa:=aa.gr (bv.trans bn)
  refine hG _ _ bn ⟨L5,aa⟩ ?_
  try clear hG iw
  simp only [p3,p4]
  refine zd1 rfl rfl (fun jF bq _ iQ hH=>?_)
  replace hB:=hB.trans bq
  have gX:=bN.kp.trans (bK.kp.trans (bp.kp.trans (bu.kp.trans (bH.kp.trans (bT.kp.trans (bm.kp.trans (bj.kp.trans (bt.kp.trans (bk.kp.trans (bo.kp.trans (bv.kp.trans (bn.kp.trans bq.kp))))))))))))
  replace du:=du.kp gX
  have gC:=bp.kp.trans (bu.kp.trans (bH.kp.trans (bT.kp.trans (bm.kp.trans (bj.kp.trans (bt.kp.trans (bk.kp.trans (bo.kp.trans (bv.kp.trans (bn.kp.trans bq.kp))))))))))
  replace ac:=ac.kp gC
  refine ec 114 (zj5 du ac (by omega)) ?_
  rintro ky j3 ⟨⟨jw,jg,jA,ki,rfl,gS⟩,bP⟩
  refine ⟨_,rfl,?_⟩
  replace hB:=hB.trans bP
  replace L5:=L5.gr (bq.trans bP)
  replace aa:=aa.gr (bq.trans bP)
  refine hH _ _ bP ⟨L5,aa⟩ ?_
  try clear hH iQ
  simp only [p3,p4]
  refine zd1 rfl rfl (fun jB bC _ h3 hM=>?_)
  replace hB:=hB.trans bC
  have g9:=bp.kp.trans (bu.kp.trans (bH.kp.trans (bT.kp.trans (bm.kp.trans (bj.kp.trans (bt.kp.trans (bk.kp.trans (bo.kp.trans (bv.kp.trans (bn.kp.trans (bq.kp.trans (bP.kp.trans bC.kp))))))))))))
  replace aB:=aB.kp g9
  have gM:=bN.kp.trans (bK.kp.trans (bp.kp.trans (bu.kp.trans (bH.kp.trans (bT.kp.trans (bm.kp.trans (bj.kp.trans (bt.kp.trans (bk.kp.trans (bo.kp.trans (bv.kp.trans (bn.kp.trans (bq.kp.trans (bP.kp.trans bC.kp))))))))))))))
  replace ar:=ar.kp gM
  refine ec 119 (zj5 aB ar (by omega)) ?_
  rintro jn jz ⟨⟨jp,ja,ju,jO,rfl,ha⟩,bY⟩
  refine ⟨_,rfl,?_⟩
  replace hB:=hB.trans bY
  replace L5:=L5.gr (bC.trans bY)
  replace aa:=aa.gr (bC.trans bY)
  refine hM _ _ bY ⟨L5,aa⟩ ?_
  try clear hM h3
  simp only [p3,p4]
  refine zd1 rfl rfl (fun kc b4 _ ix hm=>?_)
  replace hB:=hB.trans b4
  have gD:=bC.kp.trans (bY.kp.trans b4.kp)
  replace gS:=gS.kp gD
  replace ha:=ha.kp b4.kp
  refine ec 120 (zv1 gS ha (by omega)) ?_
  rintro jY kh ⟨⟨eN,fb,fh,ek,rfl,eL⟩,ca⟩
  refine ⟨_,rfl,?_⟩
  replace hB:=hB.trans ca
  replace L5:=L5.gr (b4.trans ca)
  replace aa:=aa.gr (b4.trans ca)
  refine hm _ _ ca ⟨L5,aa⟩ ?_
  try clear hm ix
  simp only [p3,p4]
  refine fv 121 (.agg #[fp,eV,fA,fJ,eJ,eF,e4,fg,fo,eW,e6,eM,eN,fb,fh,ek]) ?_
  refine fv 122 (.agg #[d7,dU,dR,dS,e0,ey,eR,e5,ew,fi,fF,e7,eP,eu,fB,eD,eX,ff,e1,fa,d4,d5,dX,d6,fH,fE,eC,ez,eA,et,eY,ej,em,eU,ex,eZ,fs,fu,eT,fj,dW,dT,dY,d0,fC,eo,fx,en,fp,eV,fA,fJ,eJ,eF,e4,fg,fo,eW,e6,eM,eN,fb,fh,ek]) ?_
  refine flo_nil (fun jk b8 _=>?_)
  replace hB:=hB.trans b8
  refine floFin1 (fun dx cn fI=>?_)
  replace cn:Lc _ _ _ _:=cn
  have cK:b3≠dx:=Nat.ne_of_lt (Nat.lt_of_lt_of_le fy fI)
  have ep:b5≠dx:=Nat.ne_of_lt (Nat.lt_of_lt_of_le eB fI)
  have dV:hO≠dx:=Nat.ne_of_lt (Nat.lt_of_lt_of_le dZ fI)
  have cJ:D9≠dx:=Nat.ne_of_lt (Nat.lt_of_lt_of_le eK fI)
  replace fI:=Nat.le_trans gZ fI
  simp only [zM5,p3,p4]
  refine oe ?_
  refine es 158 0 (.agg #[d7,dU,dR,dS,e0,ey,eR,e5,ew,fi,fF,e7,eP,eu,fB,eD,eX,ff,e1,fa,d4,d5,dX,d6,fH,fE,eC,ez,eA,et,eY,ej,em,eU,ex,eZ,fs,fu,eT,fj,dW,dT,dY,d0,fC,eo,fx,en,fp,eV,fA,fJ,eJ,eF,e4,fg,fo,eW,e6,eM,eN,fb,fh,ek]) [d7,dU,dR,dS,e0,ey,eR,e5,ew,fi,fF,e7,eP,eu,fB,eD,eX,ff,e1,fa,d4,d5,dX,d6,fH,fE,eC,ez,eA,et,eY,ej,em,eU,ex,eZ,fs,fu,eT,fj,dW,dT,dY,d0,fC,eo,fx,en,fp,eV,fA,fJ,eJ,eF,e4,fg,fo,eW,e6,eM,eN,fb,fh,ek] #[d7,dU,dR,dS,e0,ey,eR,e5,ew,fi,fF,e7,eP,eu,fB,eD,eX,ff,e1,fa,d4,d5,dX,d6,fH,fE,eC,ez,eA,et,eY,ej,em,eU,ex,eZ,fs,fu,eT,fj,dW,dT,dY,d0,fC,eo,fx,en,fp,eV,fA,fJ,eJ,eF,e4,fg,fo,eW,e6,eM,eN,fb,fh,ek] cn hB fI ⟨dP.one0,dP.one1,dP.one2,dP.one3,eQ.one0,eQ.one1,eQ.one2,eQ.one3,fk.one0,fk.one1,fk.one2,fk.one3,fd.one0,fd.one1,fd.one2,fd.one3,eO.one0,eO.one1,eO.one2,eO.one3,dO.one0,dO.one1,dO.one2,dO.one3,eE.one0,eE.one1,eE.one2,eE.one3,fz.one0,fz.one1,fz.one2,fz.one3,e2.one0,e2.one1,e2.one2,e2.one3,eH.one0,eH.one1,eH.one2,eH.one3,dN.one0,dN.one1,dN.one2,dN.one3,eI.one0,eI.one1,eI.one2,eI.one3,fG.one0,fG.one1,fG.one2,fG.one3,ft.one0,ft.one1,ft.one2,ft.one3,el.one0,el.one1,el.one2,el.one3,eL.one0,eL.one1,eL.one2,eL.one3,trivial⟩ fun ji cA bh cn hB=>?_
  replace L5:=cA.lc (L5.gr b8) ep
  replace aa:=cA.lc (aa.gr b8) dV
  refine ⟨⟨L5,aa⟩,?_⟩
  refine zc0 ?_
  refine hP _ _ ?_
  try clear hP ig
  refine wp_seq_k (fun hV hT=>?_)
  refine rg [0] ?_
  refine sv 8 (.int .i64 0) ?_
  refine za0 ?_
  refine hT _ _ ?_
  try clear hT hV
  refine wp_seq_k (fun gA ee=>?_)
  refine wp_block ?_
  refine wp_loop_rounds 4 ?_
  show Code.wp _ _ _ _ _
  refine wp_seq_k (fun ii hA=>?_)
  refine wp_seq_k (fun hX hD=>?_)
  refine rg [0,1,2,3,4,5,6,7,8,9,10] ?_
  refine sv 123 (.int .i64 0) ?_
  refine sv 124 (.bool true) ?_
  refine sv 125 (.bool true) ?_
  refine sv 126 (.int .i64 0) ?_
  refine sv 127 (.int .i64 0) ?_
  refine sv 128 (.pointer (some ⟨dx,0,none⟩)) ?_
  refine sv 129 (.pointer (some ⟨dx,0,none⟩)) ?_
  refine sw 130 (.agg #[d7,dU,dR,dS]) rfl (rl 36 0 [d7,dU,dR,dS] cn) ?_
  refine se ?_
  have hj:=dn.kp.trans (dk.kp.trans (dl.kp.trans (cD.kp.trans (cE.kp.trans (cB.kp.trans (cC.kp.trans (cu.kp.trans (cy.kp.trans (cq.kp.trans (co.kp.trans (ch.kp.trans (cj.kp.trans (cl.kp.trans (cm.kp.trans (ck.kp.trans (cg.kp.trans (cd.kp.trans (ce.kp.trans (b9.kp.trans (b7.kp.trans (bZ.kp.trans (b6.kp.trans (bN.kp.trans (bK.kp.trans (bp.kp.trans (bu.kp.trans (bH.kp.trans (bT.kp.trans (bm.kp.trans (bj.kp.trans (bt.kp.trans (bk.kp.trans (bo.kp.trans (bv.kp.trans (bn.kp.trans (bq.kp.trans (bP.kp.trans (bC.kp.trans (bY.kp.trans (b4.kp.trans (ca.kp.trans (b8.kp.trans bh))))))))))))))))))))))))))))))))))))))))))
  replace dP:=dP.kp hj
  refine ec 131 (zO1 dP) ?_
  rintro jW kB ⟨rfl,cc⟩
  refine ⟨_,rfl,?_⟩
  replace hB:=hB.trans cc
  simp only [p3,p4]
  refine sv 132 (.bool ((sgn (((((0+1)+bw)+bR)+bV)).num==(0:Int)))) ?_
  refine sv 133 (.bool ((sgn (((((0+1)+bw)+bR)+bV)).num==(0:Int)))) ?_
  refine za0 ?_
  refine hD _ _ ?_
  try clear hD hX
  refine wp_cond_split (t:=(sgn (((((0+1)+bw)+bR)+bV)).num==(0:Int))) rfl (fun da=>?_) (fun da=>?_)
  ·refine wp_skip ?_
   refine hA _ _ ?_
   try clear hA ii
   refine wp_block ?_
   refine rg [0,1,2] ?_
   refine sv 134 (.int .i64 0) ?_
   refine sv 135 (.int .i64 1) ?_
   refine sv 8 (.int .i64 1) ?_
   refine za0 ?_
   show Code.rounds _ _ _ _ _ _
   show Code.wp _ _ _ _ _
   refine wp_seq_k (fun gK f4=>?_)
   refine wp_seq_k (fun g6 f7=>?_)
   refine rg [0,1,2,3,4,5,6,7,8,9,10] ?_
   refine sv 123 (.int .i64 1) ?_
   refine sv 124 (.bool true) ?_
   refine sv 125 (.bool true) ?_
   refine sv 126 (.int .i64 1) ?_
   refine sv 127 (.int .i64 1) ?_
   refine sv 128 (.pointer (some ⟨dx,16,none⟩)) ?_
   refine sv 129 (.pointer (some ⟨dx,20,none⟩)) ?_
   replace cn:=cn.gr cc
   refine sw 130 (.agg #[d4,d5,dX,d6]) rfl (rl 36 20 [d4,d5,dX,d6] cn) ?_
   refine se ?_
   have gd:=cm.kp.trans (ck.kp.trans (cg.kp.trans (cd.kp.trans (ce.kp.trans (b9.kp.trans (b7.kp.trans (bZ.kp.trans (b6.kp.trans (bN.kp.trans (bK.kp.trans (bp.kp.trans (bu.kp.trans (bH.kp.trans (bT.kp.trans (bm.kp.trans (bj.kp.trans (bt.kp.trans (bk.kp.trans (bo.kp.trans (bv.kp.trans (bn.kp.trans (bq.kp.trans (bP.kp.trans (bC.kp.trans (bY.kp.trans (b4.kp.trans (ca.kp.trans (b8.kp.trans (bh.trans cc.kp)))))))))))))))))))))))))))))
   replace dO:=dO.kp gd
   refine ec 131 (zO1 dO) ?_
   rintro h6 iy ⟨rfl,a0⟩
   refine ⟨_,rfl,?_⟩
   replace hB:=hB.trans a0
   simp only [p3,p4]
   refine sv 132 (.bool ((sgn (((1+bw) - (bR+bV))).num==(0:Int)))) ?_
   refine sv 133 (.bool ((sgn (((1+bw) - (bR+bV))).num==(0:Int)))) ?_
   refine za0 ?_
   refine f7 _ _ ?_
   try clear f7 g6
   refine wp_cond_split (t:=(sgn (((1+bw) - (bR+bV))).num==(0:Int))) rfl (fun ct=>?_) (fun ct=>?_)
   ·refine wp_skip ?_
    refine f4 _ _ ?_
    try clear f4 gK
    refine wp_block ?_
    refine rg [0,1,2] ?_
    refine sv 134 (.int .i64 1) ?_
    refine sv 135 (.int .i64 2) ?_
    refine sv 8 (.int .i64 2) ?_
    refine za0 ?_
    show Code.rounds _ _ _ _ _ _
    show Code.wp _ _ _ _ _
    refine wp_seq_k (fun g0 gu=>?_)
    refine wp_seq_k (fun gQ gh=>?_)
    refine rg [0,1,2,3,4,5,6,7,8,9,10] ?_
    refine sv 123 (.int .i64 2) ?_
    refine sv 124 (.bool true) ?_
    refine sv 125 (.bool true) ?_
    refine sv 126 (.int .i64 2) ?_
    refine sv 127 (.int .i64 2) ?_
    refine sv 128 (.pointer (some ⟨dx,32,none⟩)) ?_
    refine sv 129 (.pointer (some ⟨dx,40,none⟩)) ?_
    replace cn:=cn.gr a0
    refine sw 130 (.agg #[dW,dT,dY,d0]) rfl (rl 36 40 [dW,dT,dY,d0] cn) ?_
    refine se ?_
    have gm:=bT.kp.trans (bm.kp.trans (bj.kp.trans (bt.kp.trans (bk.kp.trans (bo.kp.trans (bv.kp.trans (bn.kp.trans (bq.kp.trans (bP.kp.trans (bC.kp.trans (bY.kp.trans (b4.kp.trans (ca.kp.trans (b8.kp.trans (bh.trans (cc.kp.trans a0.kp))))))))))))))))
    replace dN:=dN.kp gm
    refine ec 131 (zO1 dN) ?_
    rintro h9 ij ⟨rfl,bi⟩
    refine ⟨_,rfl,?_⟩
    replace hB:=hB.trans bi
    simp only [p3,p4]
    refine sv 132 (.bool ((sgn (((1+bR) - (bw+bV))).num==(0:Int)))) ?_
    refine sv 133 (.bool ((sgn (((1+bR) - (bw+bV))).num==(0:Int)))) ?_
    refine za0 ?_
    refine gh _ _ ?_
    try clear gh gQ
    refine wp_cond_split (t:=(sgn (((1+bR) - (bw+bV))).num==(0:Int))) rfl (fun dp=>?_) (fun dp=>?_)
    ·refine wp_skip ?_
     refine gu _ _ ?_
     try clear gu g0
     refine wp_block ?_
     refine rg [0,1,2] ?_
     refine sv 134 (.int .i64 2) ?_
     refine sv 135 (.int .i64 3) ?_
     refine sv 8 (.int .i64 3) ?_
     refine za0 ?_
     show Code.rounds _ _ _ _ _ _
     show Code.wp _ _ _ _ _
     refine wp_seq_k (fun h2 ih=>?_)
     refine wp_seq_k (fun gW gj=>?_)
     refine rg [0,1,2,3,4,5,6,7,8,9,10] ?_
     refine sv 123 (.int .i64 3) ?_
     refine sv 124 (.bool false) ?_
     refine sv 125 (.bool false) ?_
     refine ss 126 ?_
     refine ss 127 ?_
     refine ss 128 ?_
     refine ss 129 ?_
     refine ss 130 ?_
     refine ss 131 ?_
     refine ss 132 ?_
     refine sv 133 (.bool false) ?_
     refine za0 ?_
     refine gj _ _ ?_
     try clear gj gW
     refine wp_cond_false rfl ?_
     refine wp_exit ?_
     simp only [Exit.then,Exit.inBlock,↓reduceIte]
     refine ee _ _ ?_
     try clear ee gA
     refine wp_seq_k (fun gO fL=>?_)
     refine rg [0,1,2,3,4] ?_
     refine sv 136 (.int .i64 3) ?_
     refine sv 137 (.pointer (some ⟨dx,48,none⟩)) ?_
     replace cn:=cn.gr bi
     refine sw 138 (.agg #[fp,eV,fA,fJ,eJ,eF,e4,fg,fo,eW,e6,eM,eN,fb,fh,ek]) rfl (rl 157 48 [fp,eV,fA,fJ,eJ,eF,e4,fg,fo,eW,e6,eM,eN,fb,fh,ek] cn) ?_
     refine se ?_
     have gf:=bk.kp.trans (bo.kp.trans (bv.kp.trans (bn.kp.trans (bq.kp.trans (bP.kp.trans (bC.kp.trans (bY.kp.trans (b4.kp.trans (ca.kp.trans (b8.kp.trans (bh.trans (cc.kp.trans (a0.kp.trans bi.kp)))))))))))))
     replace fG:=fG.kp gf
     have fR:=bv.kp.trans (bn.kp.trans (bq.kp.trans (bP.kp.trans (bC.kp.trans (bY.kp.trans (b4.kp.trans (ca.kp.trans (b8.kp.trans (bh.trans (cc.kp.trans (a0.kp.trans bi.kp)))))))))))
     replace ft:=ft.kp fR
     have gb:=bq.kp.trans (bP.kp.trans (bC.kp.trans (bY.kp.trans (b4.kp.trans (ca.kp.trans (b8.kp.trans (bh.trans (cc.kp.trans (a0.kp.trans bi.kp)))))))))
     replace el:=el.kp gb
     have gt:=b8.kp.trans (bh.trans (cc.kp.trans (a0.kp.trans bi.kp)))
     replace eL:=eL.kp gt
     refine ec 139 (yn2 (k:=8*k+900) (fG.mono (by omega)) (ft.mono (by omega)) (el.mono (by omega)) (eL.mono (by omega)) (yF9 da ct dp) (by omega)) ?_
     rintro iL iO ⟨⟨cL,c7,cV,c8,di,c6,cM,cF,rfl,bS,bz,bL,bG⟩,fm⟩
     refine ⟨_,rfl,?_⟩
     replace hB:=hB.trans fm
     simp only [p3,p4]
     refine se ?_
     replace L3:=(cA.lc (L3.gr (dq.trans (dm.trans (dt.trans (dn.trans (dk.trans (dl.trans (cD.trans (cE.trans (cB.trans (cC.trans (cu.trans (cy.trans (cq.trans (co.trans (ch.trans (cj.trans (cl.trans (cm.trans (ck.trans (cg.trans (cd.trans (ce.trans (b9.trans (b7.trans (bZ.trans (b6.trans (bN.trans (bK.trans (bp.trans (bu.trans (bH.trans (bT.trans (bm.trans (bj.trans (bt.trans (bk.trans (bo.trans (bv.trans (bn.trans (bq.trans (bP.trans (bC.trans (bY.trans (b4.trans (ca.trans b8)))))))))))))))))))))))))))))))))))))))))))))) cK).gr (cc.trans (a0.trans (bi.trans fm)))
     refine es 125 0 (.agg #[cL,c7,cV,c8,di,c6,cM,cF]) [cL,c7,cV,c8,di,c6,cM,cF] #[cL,c7,cV,c8,di,c6,cM,cF] L3 hB q3 ⟨bS.one0,bS.one1,bz.one0,bz.one1,bL.one0,bL.one1,bG.one0,bG.one1,trivial⟩ fun iM gx fV L3 hB=>?_
     refine za0 ?_
     refine fL _ _ ?_
     try clear fL gO
     refine wp_ret ?_
     replace L9:=(((((((((((((((((((((((((((((((((((((((((((((((((((L9.gr dq).gr dm).gr dt).gr dn).gr dk).gr dl).gr cD).gr cE).gr cB).gr cC).gr cu).gr cy).gr cq).gr co).gr ch).gr cj).gr cl).gr cm).gr ck).gr cg).gr cd).gr ce).gr b9).gr b7).gr bZ).gr b6).gr bN).gr bK).gr bp).gr bu).gr bH).gr bT).gr bm).gr bj).gr bt).gr bk).gr bo).gr bv).gr bn).gr bq).gr bP).gr bC).gr bY).gr b4).gr ca).gr b8).st cA cJ).gr cc).gr a0).gr bi).gr fm).st gx (Ne.symm dv)
     refine endN [D9] _ (List.Pairwise.cons (fun _ h=>absurd h (by simp)) List.Pairwise.nil) (List.forall_mem_cons.2 ⟨⟨Q9,L9⟩,(fun _ h=>absurd h (by simp))⟩) hB (fun ie eh hB=>?_)
     replace L3:=eh.lc L3 (by decide)
     refine ⟨(.agg #[cL,c7,cV,c8,di,c6,cM,cF]),(zb3 _ _ _ rfl rfl L3 (by kernel_rfl)),?_,hB⟩
     have dA:=fV.trans (eh.kp (by decide))
     replace bS:=bS.kp dA
     replace bz:=bz.kp dA
     replace bL:=bL.kp dA
     replace bG:=bG.kp dA
     exact (by rw [qrow3t da ct dp];exact ⟨_,_,_,_,_,_,_,_,rfl,bS.mono (by omega),bz.mono (by omega),bL.mono (by omega),bG.mono (by omega)⟩)
    ·refine wp_exit ?_
     simp only [Exit.then,Exit.inBlock,↓reduceIte]
     refine ee _ _ ?_
     try clear ee gA
     refine wp_seq_k (fun gU f1=>?_)
     refine rg [0,1,2,3,4] ?_
     refine sv 136 (.int .i64 2) ?_
     refine sv 137 (.pointer (some ⟨dx,32,none⟩)) ?_
     replace cn:=cn.gr bi
     refine sw 138 (.agg #[em,eU,ex,eZ,fs,fu,eT,fj,dW,dT,dY,d0,fC,eo,fx,en]) rfl (rl 157 32 [em,eU,ex,eZ,fs,fu,eT,fj,dW,dT,dY,d0,fC,eo,fx,en] cn) ?_
     refine se ?_
     have gc:=b7.kp.trans (bZ.kp.trans (b6.kp.trans (bN.kp.trans (bK.kp.trans (bp.kp.trans (bu.kp.trans (bH.kp.trans (bT.kp.trans (bm.kp.trans (bj.kp.trans (bt.kp.trans (bk.kp.trans (bo.kp.trans (bv.kp.trans (bn.kp.trans (bq.kp.trans (bP.kp.trans (bC.kp.trans (bY.kp.trans (b4.kp.trans (ca.kp.trans (b8.kp.trans (bh.trans (cc.kp.trans (a0.kp.trans bi.kp)))))))))))))))))))))))))
     replace e2:=e2.kp gc
     have fM:=b6.kp.trans (bN.kp.trans (bK.kp.trans (bp.kp.trans (bu.kp.trans (bH.kp.trans (bT.kp.trans (bm.kp.trans (bj.kp.trans (bt.kp.trans (bk.kp.trans (bo.kp.trans (bv.kp.trans (bn.kp.trans (bq.kp.trans (bP.kp.trans (bC.kp.trans (bY.kp.trans (b4.kp.trans (ca.kp.trans (b8.kp.trans (bh.trans (cc.kp.trans (a0.kp.trans bi.kp)))))))))))))))))))))))
     replace eH:=eH.kp fM
     replace dN:=dN.kp bi.kp
     have f8:=bj.kp.trans (bt.kp.trans (bk.kp.trans (bo.kp.trans (bv.kp.trans (bn.kp.trans (bq.kp.trans (bP.kp.trans (bC.kp.trans (bY.kp.trans (b4.kp.trans (ca.kp.trans (b8.kp.trans (bh.trans (cc.kp.trans (a0.kp.trans bi.kp)))))))))))))))
     replace eI:=eI.kp f8
     refine ec 139 (yn2 (k:=8*k+900) (e2.mono (by omega)) (eH.mono (by omega)) (dN.mono (by omega)) (eI.mono (by omega)) (yF8 da ct dp) (by omega)) ?_
     rintro iS ia ⟨⟨cT,db,cO,cX,cY,dj,cQ,cR,rfl,bU,bJ,bW,bx⟩,fq⟩
     refine ⟨_,rfl,?_⟩
     replace hB:=hB.trans fq
     simp only [p3,p4]
     refine se ?_
     replace L3:=(cA.lc (L3.gr (dq.trans (dm.trans (dt.trans (dn.trans (dk.trans (dl.trans (cD.trans (cE.trans (cB.trans (cC.trans (cu.trans (cy.trans (cq.trans (co.trans (ch.trans (cj.trans (cl.trans (cm.trans (ck.trans (cg.trans (cd.trans (ce.trans (b9.trans (b7.trans (bZ.trans (b6.trans (bN.trans (bK.trans (bp.trans (bu.trans (bH.trans (bT.trans (bm.trans (bj.trans (bt.trans (bk.trans (bo.trans (bv.trans (bn.trans (bq.trans (bP.trans (bC.trans (bY.trans (b4.trans (ca.trans b8)))))))))))))))))))))))))))))))))))))))))))))) cK).gr (cc.trans (a0.trans (bi.trans fq)))
     refine es 125 0 (.agg #[cT,db,cO,cX,cY,dj,cQ,cR]) [cT,db,cO,cX,cY,dj,cQ,cR] #[cT,db,cO,cX,cY,dj,cQ,cR] L3 hB q3 ⟨bU.one0,bU.one1,bJ.one0,bJ.one1,bW.one0,bW.one1,bx.one0,bx.one1,trivial⟩ fun ic gi fW L3 hB=>?_
     refine za0 ?_
     refine f1 _ _ ?_
     try clear f1 gU
     refine wp_ret ?_
     replace L9:=(((((((((((((((((((((((((((((((((((((((((((((((((((L9.gr dq).gr dm).gr dt).gr dn).gr dk).gr dl).gr cD).gr cE).gr cB).gr cC).gr cu).gr cy).gr cq).gr co).gr ch).gr cj).gr cl).gr cm).gr ck).gr cg).gr cd).gr ce).gr b9).gr b7).gr bZ).gr b6).gr bN).gr bK).gr bp).gr bu).gr bH).gr bT).gr bm).gr bj).gr bt).gr bk).gr bo).gr bv).gr bn).gr bq).gr bP).gr bC).gr bY).gr b4).gr ca).gr b8).st cA cJ).gr cc).gr a0).gr bi).gr fq).st gi (Ne.symm dv)
     refine endN [D9] _ (List.Pairwise.cons (fun _ h=>absurd h (by simp)) List.Pairwise.nil) (List.forall_mem_cons.2 ⟨⟨Q9,L9⟩,(fun _ h=>absurd h (by simp))⟩) hB (fun io ef hB=>?_)
     replace L3:=ef.lc L3 (by decide)
     refine ⟨(.agg #[cT,db,cO,cX,cY,dj,cQ,cR]),(zb3 _ _ _ rfl rfl L3 (by kernel_rfl)),?_,hB⟩
     have dy:=fW.trans (ef.kp (by decide))
     replace bU:=bU.kp dy
     replace bJ:=bJ.kp dy
     replace bW:=bW.kp dy
     replace bx:=bx.kp dy
     exact (by rw [qrow3f da ct dp];exact ⟨_,_,_,_,_,_,_,_,rfl,bU.mono (by omega),bJ.mono (by omega),bW.mono (by omega),bx.mono (by omega)⟩)
   ·refine wp_exit ?_
    simp only [Exit.then,Exit.inBlock,↓reduceIte]
    refine ee _ _ ?_
    try clear ee gA
    refine wp_seq_k (fun gT fY=>?_)
    refine rg [0,1,2,3,4] ?_
    refine sv 136 (.int .i64 1) ?_
    refine sv 137 (.pointer (some ⟨dx,16,none⟩)) ?_
    replace cn:=cn.gr a0
    refine sw 138 (.agg #[eX,ff,e1,fa,d4,d5,dX,d6,fH,fE,eC,ez,eA,et,eY,ej]) rfl (rl 157 16 [eX,ff,e1,fa,d4,d5,dX,d6,fH,fE,eC,ez,eA,et,eY,ej] cn) ?_
    refine se ?_
    have fP:=cy.kp.trans (cq.kp.trans (co.kp.trans (ch.kp.trans (cj.kp.trans (cl.kp.trans (cm.kp.trans (ck.kp.trans (cg.kp.trans (cd.kp.trans (ce.kp.trans (b9.kp.trans (b7.kp.trans (bZ.kp.trans (b6.kp.trans (bN.kp.trans (bK.kp.trans (bp.kp.trans (bu.kp.trans (bH.kp.trans (bT.kp.trans (bm.kp.trans (bj.kp.trans (bt.kp.trans (bk.kp.trans (bo.kp.trans (bv.kp.trans (bn.kp.trans (bq.kp.trans (bP.kp.trans (bC.kp.trans (bY.kp.trans (b4.kp.trans (ca.kp.trans (b8.kp.trans (bh.trans (cc.kp.trans a0.kp))))))))))))))))))))))))))))))))))))
    replace eO:=eO.kp fP
    replace dO:=dO.kp a0.kp
    have fS:=cg.kp.trans (cd.kp.trans (ce.kp.trans (b9.kp.trans (b7.kp.trans (bZ.kp.trans (b6.kp.trans (bN.kp.trans (bK.kp.trans (bp.kp.trans (bu.kp.trans (bH.kp.trans (bT.kp.trans (bm.kp.trans (bj.kp.trans (bt.kp.trans (bk.kp.trans (bo.kp.trans (bv.kp.trans (bn.kp.trans (bq.kp.trans (bP.kp.trans (bC.kp.trans (bY.kp.trans (b4.kp.trans (ca.kp.trans (b8.kp.trans (bh.trans (cc.kp.trans a0.kp))))))))))))))))))))))))))))
    replace eE:=eE.kp fS
    have f9:=ce.kp.trans (b9.kp.trans (b7.kp.trans (bZ.kp.trans (b6.kp.trans (bN.kp.trans (bK.kp.trans (bp.kp.trans (bu.kp.trans (bH.kp.trans (bT.kp.trans (bm.kp.trans (bj.kp.trans (bt.kp.trans (bk.kp.trans (bo.kp.trans (bv.kp.trans (bn.kp.trans (bq.kp.trans (bP.kp.trans (bC.kp.trans (bY.kp.trans (b4.kp.trans (ca.kp.trans (b8.kp.trans (bh.trans (cc.kp.trans a0.kp))))))))))))))))))))))))))
    replace fz:=fz.kp f9
    refine ec 139 (yn2 (k:=8*k+900) (eO.mono (by omega)) (dO.mono (by omega)) (eE.mono (by omega)) (fz.mono (by omega)) (yF7 da ct) (by omega)) ?_
    rintro iN iI ⟨⟨cZ,cH,c9,df,c4,cG,dh,cW,rfl,bD,bO,bE,bQ⟩,eS⟩
    refine ⟨_,rfl,?_⟩
    replace hB:=hB.trans eS
    simp only [p3,p4]
    refine se ?_
    replace L3:=(cA.lc (L3.gr (dq.trans (dm.trans (dt.trans (dn.trans (dk.trans (dl.trans (cD.trans (cE.trans (cB.trans (cC.trans (cu.trans (cy.trans (cq.trans (co.trans (ch.trans (cj.trans (cl.trans (cm.trans (ck.trans (cg.trans (cd.trans (ce.trans (b9.trans (b7.trans (bZ.trans (b6.trans (bN.trans (bK.trans (bp.trans (bu.trans (bH.trans (bT.trans (bm.trans (bj.trans (bt.trans (bk.trans (bo.trans (bv.trans (bn.trans (bq.trans (bP.trans (bC.trans (bY.trans (b4.trans (ca.trans b8)))))))))))))))))))))))))))))))))))))))))))))) cK).gr (cc.trans (a0.trans eS))
    refine es 125 0 (.agg #[cZ,cH,c9,df,c4,cG,dh,cW]) [cZ,cH,c9,df,c4,cG,dh,cW] #[cZ,cH,c9,df,c4,cG,dh,cW] L3 hB q3 ⟨bD.one0,bD.one1,bO.one0,bO.one1,bE.one0,bE.one1,bQ.one0,bQ.one1,trivial⟩ fun ir fZ gk L3 hB=>?_
    refine za0 ?_
    refine fY _ _ ?_
    try clear fY gT
    refine wp_ret ?_
    replace L9:=((((((((((((((((((((((((((((((((((((((((((((((((((L9.gr dq).gr dm).gr dt).gr dn).gr dk).gr dl).gr cD).gr cE).gr cB).gr cC).gr cu).gr cy).gr cq).gr co).gr ch).gr cj).gr cl).gr cm).gr ck).gr cg).gr cd).gr ce).gr b9).gr b7).gr bZ).gr b6).gr bN).gr bK).gr bp).gr bu).gr bH).gr bT).gr bm).gr bj).gr bt).gr bk).gr bo).gr bv).gr bn).gr bq).gr bP).gr bC).gr bY).gr b4).gr ca).gr b8).st cA cJ).gr cc).gr a0).gr eS).st fZ (Ne.symm dv)
    refine endN [D9] _ (List.Pairwise.cons (fun _ h=>absurd h (by simp)) List.Pairwise.nil) (List.forall_mem_cons.2 ⟨⟨Q9,L9⟩,(fun _ h=>absurd h (by simp))⟩) hB (fun iu d9 hB=>?_)
    replace L3:=d9.lc L3 (by decide)
    refine ⟨(.agg #[cZ,cH,c9,df,c4,cG,dh,cW]),(zb3 _ _ _ rfl rfl L3 (by kernel_rfl)),?_,hB⟩
    have dB:=gk.trans (d9.kp (by decide))
    replace bD:=bD.kp dB
    replace bO:=bO.kp dB
    replace bE:=bE.kp dB
    replace bQ:=bQ.kp dB
    exact (by rw [qrow2f da ct];exact ⟨_,_,_,_,_,_,_,_,rfl,bD.mono (by omega),bO.mono (by omega),bE.mono (by omega),bQ.mono (by omega)⟩)
  ·refine wp_exit ?_
   simp only [Exit.then,Exit.inBlock,↓reduceIte]
   refine ee _ _ ?_
   try clear ee gA
   refine wp_seq_k (fun gL fU=>?_)
   refine rg [0,1,2,3,4] ?_
   refine sv 136 (.int .i64 0) ?_
   refine sv 137 (.pointer (some ⟨dx,0,none⟩)) ?_
   replace cn:=cn.gr cc
   refine sw 138 (.agg #[d7,dU,dR,dS,e0,ey,eR,e5,ew,fi,fF,e7,eP,eu,fB,eD]) rfl (rl 157 0 [d7,dU,dR,dS,e0,ey,eR,e5,ew,fi,fF,e7,eP,eu,fB,eD] cn) ?_
   refine se ?_
   replace dP:=dP.kp cc.kp
   have gw:=dl.kp.trans (cD.kp.trans (cE.kp.trans (cB.kp.trans (cC.kp.trans (cu.kp.trans (cy.kp.trans (cq.kp.trans (co.kp.trans (ch.kp.trans (cj.kp.trans (cl.kp.trans (cm.kp.trans (ck.kp.trans (cg.kp.trans (cd.kp.trans (ce.kp.trans (b9.kp.trans (b7.kp.trans (bZ.kp.trans (b6.kp.trans (bN.kp.trans (bK.kp.trans (bp.kp.trans (bu.kp.trans (bH.kp.trans (bT.kp.trans (bm.kp.trans (bj.kp.trans (bt.kp.trans (bk.kp.trans (bo.kp.trans (bv.kp.trans (bn.kp.trans (bq.kp.trans (bP.kp.trans (bC.kp.trans (bY.kp.trans (b4.kp.trans (ca.kp.trans (b8.kp.trans (bh.trans cc.kp)))))))))))))))))))))))))))))))))))))))))
   replace eQ:=eQ.kp gw
   have f2:=cE.kp.trans (cB.kp.trans (cC.kp.trans (cu.kp.trans (cy.kp.trans (cq.kp.trans (co.kp.trans (ch.kp.trans (cj.kp.trans (cl.kp.trans (cm.kp.trans (ck.kp.trans (cg.kp.trans (cd.kp.trans (ce.kp.trans (b9.kp.trans (b7.kp.trans (bZ.kp.trans (b6.kp.trans (bN.kp.trans (bK.kp.trans (bp.kp.trans (bu.kp.trans (bH.kp.trans (bT.kp.trans (bm.kp.trans (bj.kp.trans (bt.kp.trans (bk.kp.trans (bo.kp.trans (bv.kp.trans (bn.kp.trans (bq.kp.trans (bP.kp.trans (bC.kp.trans (bY.kp.trans (b4.kp.trans (ca.kp.trans (b8.kp.trans (bh.trans cc.kp)))))))))))))))))))))))))))))))))))))))
   replace fk:=fk.kp f2
   have gs:=cC.kp.trans (cu.kp.trans (cy.kp.trans (cq.kp.trans (co.kp.trans (ch.kp.trans (cj.kp.trans (cl.kp.trans (cm.kp.trans (ck.kp.trans (cg.kp.trans (cd.kp.trans (ce.kp.trans (b9.kp.trans (b7.kp.trans (bZ.kp.trans (b6.kp.trans (bN.kp.trans (bK.kp.trans (bp.kp.trans (bu.kp.trans (bH.kp.trans (bT.kp.trans (bm.kp.trans (bj.kp.trans (bt.kp.trans (bk.kp.trans (bo.kp.trans (bv.kp.trans (bn.kp.trans (bq.kp.trans (bP.kp.trans (bC.kp.trans (bY.kp.trans (b4.kp.trans (ca.kp.trans (b8.kp.trans (bh.trans cc.kp)))))))))))))))))))))))))))))))))))))
   replace fd:=fd.kp gs
   refine ec 139 (yn2 (k:=8*k+900) (dP.mono (by omega)) (eQ.mono (by omega)) (fk.mono (by omega)) (fd.mono (by omega)) (yF6 da) (by omega)) ?_
   rintro ip iC ⟨⟨dd,c5,cN,cU,cS,dc,cP,de,rfl,bX,bM,bA,bF⟩,e3⟩
   refine ⟨_,rfl,?_⟩
   replace hB:=hB.trans e3
   simp only [p3,p4]
   refine se ?_
   replace L3:=(cA.lc (L3.gr (dq.trans (dm.trans (dt.trans (dn.trans (dk.trans (dl.trans (cD.trans (cE.trans (cB.trans (cC.trans (cu.trans (cy.trans (cq.trans (co.trans (ch.trans (cj.trans (cl.trans (cm.trans (ck.trans (cg.trans (cd.trans (ce.trans (b9.trans (b7.trans (bZ.trans (b6.trans (bN.trans (bK.trans (bp.trans (bu.trans (bH.trans (bT.trans (bm.trans (bj.trans (bt.trans (bk.trans (bo.trans (bv.trans (bn.trans (bq.trans (bP.trans (bC.trans (bY.trans (b4.trans (ca.trans b8)))))))))))))))))))))))))))))))))))))))))))))) cK).gr (cc.trans e3)
   refine es 125 0 (.agg #[dd,c5,cN,cU,cS,dc,cP,de]) [dd,c5,cN,cU,cS,dc,cP,de] #[dd,c5,cN,cU,cS,dc,cP,de] L3 hB q3 ⟨bX.one0,bX.one1,bM.one0,bM.one1,bA.one0,bA.one1,bF.one0,bF.one1,trivial⟩ fun im ge gz L3 hB=>?_
   refine za0 ?_
   refine fU _ _ ?_
   try clear fU gL
   refine wp_ret ?_
   replace L9:=(((((((((((((((((((((((((((((((((((((((((((((((((L9.gr dq).gr dm).gr dt).gr dn).gr dk).gr dl).gr cD).gr cE).gr cB).gr cC).gr cu).gr cy).gr cq).gr co).gr ch).gr cj).gr cl).gr cm).gr ck).gr cg).gr cd).gr ce).gr b9).gr b7).gr bZ).gr b6).gr bN).gr bK).gr bp).gr bu).gr bH).gr bT).gr bm).gr bj).gr bt).gr bk).gr bo).gr bv).gr bn).gr bq).gr bP).gr bC).gr bY).gr b4).gr ca).gr b8).st cA cJ).gr cc).gr e3).st ge (Ne.symm dv)
   refine endN [D9] _ (List.Pairwise.cons (fun _ h=>absurd h (by simp)) List.Pairwise.nil) (List.forall_mem_cons.2 ⟨⟨Q9,L9⟩,(fun _ h=>absurd h (by simp))⟩) hB (fun h7 d8 hB=>?_)
   replace L3:=d8.lc L3 (by decide)
   refine ⟨(.agg #[dd,c5,cN,cU,cS,dc,cP,de]),(zb3 _ _ _ rfl rfl L3 (by kernel_rfl)),?_,hB⟩
   have dw:=gz.trans (d8.kp (by decide))
   replace bX:=bX.kp dw
   replace bM:=bM.kp dw
   replace bA:=bA.kp dw
   replace bF:=bF.kp dw
   exact (by rw [qrow1f da];exact ⟨_,_,_,_,_,_,_,_,rfl,bX.mono (by omega),bM.mono (by omega),bA.mono (by omega),bF.mono (by omega)⟩)
 ·intro D c prs W _ h;exact h.elim

def cMEq:ConT:=con2 zM0 zM0 fun
 | [(k0,a0),(k1,a1),(k2,a2),(k3,a3),(k4,a4),(k5,a5),(k6,a6),(k7,a7),(k8,a8),(k9,a9),(k10,a10),(k11,a11)],[(m0,b0),(m1,b1),(m2,b2),(m3,b3),(m4,b4),(m5,b5),(m6,b6),(m7,b7),(m8,b8),(m9,b9),(m10,b10),(m11,b11)],_,_=>tr (Nat.ble k0 40000&&Nat.ble k1 40000&&Nat.ble k2 40000&&Nat.ble k3 40000&&Nat.ble k4 40000&&Nat.ble k5 40000&&Nat.ble k6 40000&&Nat.ble k7 40000&&Nat.ble k8 40000&&Nat.ble k9 40000&&Nat.ble k10 40000&&Nat.ble k11 40000&&Nat.ble m0 40000&&Nat.ble m1 40000&&Nat.ble m2 40000&&Nat.ble m3 40000&&Nat.ble m4 40000&&Nat.ble m5 40000&&Nat.ble m6 40000&&Nat.ble m7 40000&&Nat.ble m8 40000&&Nat.ble m9 40000&&Nat.ble m10 40000&&Nat.ble m11 40000) (.leaf (.so (.vc (.cb (decide ([a0,a1,a2,a3,a4,a5,a6,a7,a8,a9,a10,a11]=[b0,b1,b2,b3,b4,b5,b6,b7,b8,b9,b10,b11])) none))) 0 0)
 | _,_,_,_=>none
def yn6:ConT:=yc1 zM0 fun
 | [(k0,a0),(k1,a1),(k2,a2),(k3,a3),(k4,a4),(k5,a5),(k6,a6),(k7,a7),(k8,a8),(k9,_a9),(k10,_a10),(k11,_a11)],_,nz=>tr (Nat.ble k0 800&&Nat.ble k1 800&&Nat.ble k2 800&&Nat.ble k3 800&&Nat.ble k4 800&&Nat.ble k5 800&&Nat.ble k6 800&&Nat.ble k7 800&&Nat.ble k8 800&&Nat.ble k9 100000&&Nat.ble k10 100000&&Nat.ble k11 100000) (.leaf (yg2 nz 40128 (wzq (zM7 a0 a1 a2 a3 a4 a5 a6 a7 a8) 0) (wzq (zM7 a0 a1 a2 a3 a4 a5 a6 a7 a8) 1) (wzq (zM7 a0 a1 a2 a3 a4 a5 a6 a7 a8) 2) (wzq (zM7 a0 a1 a2 a3 a4 a5 a6 a7 a8) 3)) 0 4)
 | _,_,_=>none
section
variable {I:World→Prop}
theorem zH7:ConOK Tryz.prog I 16 cMEq:=zm9 fun _ _ _ _ _ _ _ _ _ h1 h2 hx hy hT _=>by
 split at hT
 ·obtain ⟨hb,rfl⟩:=zd8 hT
  simp only [Bool.and_eq_true,Nat.ble_eq] at hb
  obtain ⟨vs,e1,hA⟩:=zt2 h1 hx
  obtain ⟨us,e2,hB⟩:=zt2 h2 hy
  rw [e1,e2]
  obtain ⟨bQ,bS,bD,bw,bi,rfl,av,hA⟩:=hA.cons
  obtain ⟨pa1,cD,ba,bz,cP,rfl,ae,hA⟩:=hA.cons
  obtain ⟨a3,cS,cd,a6,b5,rfl,al,hA⟩:=hA.cons
  obtain ⟨cg,a8,bg,cG,ca,rfl,aA,hA⟩:=hA.cons
  obtain ⟨bO,bY,cj,cL,ce,rfl,aD,hA⟩:=hA.cons
  obtain ⟨a9,b6,bh,a5,bV,rfl,aw,hA⟩:=hA.cons
  obtain ⟨bX,bk,cR,bK,cu,rfl,au,hA⟩:=hA.cons
  obtain ⟨bj,cm,bt,bM,bp,rfl,ak,hA⟩:=hA.cons
  obtain ⟨cN,bc,bx,bb,co,rfl,ah,hA⟩:=hA.cons
  obtain ⟨cc,cq,cK,bP,bG,rfl,af,hA⟩:=hA.cons
  obtain ⟨aX,aS,aK,aM,aI,rfl,ab,hA⟩:=hA.cons
  obtain ⟨aP,aO,aJ,aQ,aG,rfl,ad,hA⟩:=hA.cons
  obtain rfl:=hA.nil
  replace av:=av.mono (m:=40000) (by omega)
  replace ae:=ae.mono (m:=40000) (by omega)
  replace al:=al.mono (m:=40000) (by omega)
  replace aA:=aA.mono (m:=40000) (by omega)
  replace aD:=aD.mono (m:=40000) (by omega)
  replace aw:=aw.mono (m:=40000) (by omega)
  replace au:=au.mono (m:=40000) (by omega)
  replace ak:=ak.mono (m:=40000) (by omega)
  replace ah:=ah.mono (m:=40000) (by omega)
  replace af:=af.mono (m:=40000) (by omega)
  replace ab:=ab.mono (m:=40000) (by omega)
  replace ad:=ad.mono (m:=40000) (by omega)
  obtain ⟨aZ,bd,ct,cQ,bL,rfl,aC,hB⟩:=hB.cons
  obtain ⟨a7,cM,a2,bH,bA,rfl,ax,hB⟩:=hB.cons
  obtain ⟨cn,bo,cF,bZ,bf,rfl,ay,hB⟩:=hB.cons
  obtain ⟨cC,ch,bB,a1,bC,rfl,aB,hB⟩:=hB.cons
  obtain ⟨cy,ck,bq,bE,bN,rfl,aj,hB⟩:=hB.cons
  obtain ⟨bJ,bT,bF,cx,bn,rfl,ai,hB⟩:=hB.cons
  obtain ⟨bW,a0,cE,cO,cJ,rfl,az,hB⟩:=hB.cons
  obtain ⟨cB,bm,cH,b7,a4,rfl,ap,hB⟩:=hB.cons
  obtain ⟨cl,aY,b9,bU,bu,rfl,ar,hB⟩:=hB.cons
  obtain ⟨bv,b8,cA,bR,b4,rfl,aq,hB⟩:=hB.cons
  obtain ⟨aV,aE,aL,aF,aU,rfl,aa,hB⟩:=hB.cons
  obtain ⟨aH,aW,aN,aR,aT,rfl,ac,hB⟩:=hB.cons
  obtain rfl:=hB.nil
  replace aC:=aC.mono (m:=40000) (by omega)
  replace ax:=ax.mono (m:=40000) (by omega)
  replace ay:=ay.mono (m:=40000) (by omega)
  replace aB:=aB.mono (m:=40000) (by omega)
  replace aj:=aj.mono (m:=40000) (by omega)
  replace ai:=ai.mono (m:=40000) (by omega)
  replace az:=az.mono (m:=40000) (by omega)
  replace ap:=ap.mono (m:=40000) (by omega)
  replace ar:=ar.mono (m:=40000) (by omega)
  replace aq:=aq.mono (m:=40000) (by omega)
  replace aa:=aa.mono (m:=40000) (by omega)
  replace ac:=ac.mono (m:=40000) (by omega)
  exact (mequal (k:=40000) (m:=40000) av ae al aA aD aw au ak ah af ab ad aC ax ay aB aj ai az ap ar aq aa ac (by decide)).mono fun e w' he=>zb4 he ⟨rfl,fun v hv=>by cases hv⟩
 ·cases hT
theorem zx7:ConOK Tryz.prog I 67 yn6:=zg6 fun _ _ _ _ _ _ _ h1 h2 hT _=>by
 split at hT
 ·obtain ⟨hb,rfl⟩:=zd8 hT
  simp only [Bool.and_eq_true,Nat.ble_eq] at hb
  obtain ⟨vs,e1,hA⟩:=zt2 h1 h2
  rw [e1]
  obtain ⟨a0,a1,aU,aR,aM,rfl,aj,hA⟩:=hA.cons
  obtain ⟨pa1,bi,aH,aT,bo,rfl,ac,hA⟩:=hA.cons
  obtain ⟨aC,bq,a9,aE,a5,rfl,ah,hA⟩:=hA.cons
  obtain ⟨bb,aF,aK,bj,a7,rfl,al,hA⟩:=hA.cons
  obtain ⟨aY,a4,bc,bm,ba,rfl,ap,hA⟩:=hA.cons
  obtain ⟨aG,a6,aL,aD,a2,rfl,ak,hA⟩:=hA.cons
  obtain ⟨a3,aO,bp,aW,bh,rfl,ai,hA⟩:=hA.cons
  obtain ⟨aN,bd,aQ,aX,aP,rfl,af,hA⟩:=hA.cons
  obtain ⟨bn,aJ,aS,aI,bf,rfl,ae,hA⟩:=hA.cons
  obtain ⟨a8,bg,bk,aZ,aV,rfl,ad,hA⟩:=hA.cons
  obtain ⟨aB,aA,av,aw,ar,rfl,aa,hA⟩:=hA.cons
  obtain ⟨ay,ax,au,az,aq,rfl,ab,hA⟩:=hA.cons
  obtain rfl:=hA.nil
  replace aj:=aj.mono (m:=800) (by omega)
  replace ac:=ac.mono (m:=800) (by omega)
  replace ah:=ah.mono (m:=800) (by omega)
  replace al:=al.mono (m:=800) (by omega)
  replace ap:=ap.mono (m:=800) (by omega)
  replace ak:=ak.mono (m:=800) (by omega)
  replace ai:=ai.mono (m:=800) (by omega)
  replace af:=af.mono (m:=800) (by omega)
  replace ae:=ae.mono (m:=800) (by omega)
  replace ad:=ad.mono (m:=100000) (by omega)
  replace aa:=aa.mono (m:=100000) (by omega)
  replace ab:=ab.mono (m:=100000) (by omega)
  exact (mturnq (k:=800) (ks:=100000) aj ac ah al ap ak ai af ae ad aa ab (by decide) (by decide)).mono fun e w' he=>zV1 he
 ·cases hT
end
noncomputable def tabN:List (Nat × List (Nat × Ent)):=[(19,[(5,.ord [(true,0),(true,1),(true,3),(true,4),(false,2),(true,5),(false,6)] [1])]),
 (22,[]),
 (24,[(9,.ord [(true,0),(true,1),(true,2),(true,3),(true,5),(true,6),(false,4),(true,7),(false,8)] [5])]),
 (30,[(1,.flo [(true,0),(true,1),(true,2),(true,3),(false,4),(true,5),(false,6)] [(7,3,41)] [(false,8)] []),(2,.ord [(true,0),(false,1),(false,2),(true,3),(true,4),(true,5),(true,6),(true,7),(true,8),(true,9),(true,10),(true,11),(true,12),(false,13),(false,14),(true,15),(true,16),(true,17)] [])]),
 (32,[]),
 (36,[]),
 (38,[]),
 (39,[(1,.ord [(true,0),(true,1),(true,2),(false,3),(false,4),(false,5)] [6])]),
 (41,[(6,.ord [(true,0),(true,1),(true,2),(true,3),(true,4),(true,5),(true,6),(true,8),(true,9),(true,10),(true,11),(true,12),(true,13),(false,7),(false,14),(false,15),(true,16),(false,17)] [5])]),
 (43,[(1,.ord [(true,0),(true,1),(true,3),(true,4),(false,2),(false,5),(false,6)] [4])]),
 (44,[]),
 (69,[(8,.ord [(true,0),(true,1),(true,2),(true,3),(true,4),(false,5)] [3])]),
 (74,[(5,.ord [(true,0),(true,1),(true,2),(true,3),(true,4),(true,5),(true,6),(true,7),(false,8),(true,9),(false,10)] [7])]),
 (83,[]),
 (86,[])]
noncomputable def conN:List (Nat × ConT):=[(103,zk5 100000 (fun k m=>k+m+1) (fun a b=>a+b)),
 (75,zk5 100000 (fun k m=>k+m+1) (fun a b=>a - b)),
 (82,zk5 100000 (fun k m=>k+m) (fun a b=>a*b)),
 (108,cNeg),
 (59,ya9),
 (37,yb0),
 (76,zU7),
 (87,yb1),
 (130,cNum),
 (81,cDen),
 (58,cDiv),
 (96,zA2),
 (80,zU8),
 (122,zU9),
 (123,zV0),
 (68,yb2),
 (105,cTT (fun k m=>k+m+1) fun a b=>a+b),
 (132,cTT (fun k m=>k+m+1) fun a b=>a - b),
 (106,cTT (fun k m=>k+m) fun a b=>a*b),
 (64,yb3),
 (115,yb4),
 (65,zE6),
 (94,zv4 400),
 (107,zv4 65536),
 (15,cChk),
 (66,zV4),
 (14,cOf),
 (16,cMEq),
 (67,yn6)]
noncomputable def sysN:Sys:=⟨Tryz.prog,2,199,tabN,conN,fun w=>Tab w∧Mx w⟩
theorem yc7:sysN.OK where
 mixed:=by kernel_rfl
 calls:=fun f h0 h1=>by
  have:(List.range 199).all (fun f=>Nat.blt f 2||okCall Tryz.prog f)=true:=by kernel_rfl
  have:=List.all_eq_true.1 this f (List.mem_range.2 h1)
  simp only [Bool.or_eq_true] at this
  exact this.resolve_left (fun e=>by have:=ze7 e;exact absurd h0 (by show ¬ 2≤f;omega))
 tab:=by
  have:tabN.all (okTab Tryz.prog)=true:=by kernel_rfl
  exact fun x hx=>List.all_eq_true.1 this x hx
 lps:=zv8 (by kernel_rfl)
 con:=fun x hx=>by
  simp only [sysN,conN,List.mem_cons,List.not_mem_nil,or_false] at hx
  rcases hx with rfl | rfl | rfl | rfl | rfl | rfl | rfl | rfl | rfl | rfl | rfl | rfl | rfl | rfl | rfl | rfl | rfl | rfl | rfl | rfl | rfl | rfl | rfl | rfl | rfl | rfl | rfl | rfl | rfl
  ·exact zc6 fun h1 h2 h3=>zj5 h1 h2 h3
  ·exact zc6 fun h1 h2 h3=>zv1 h1 h2 h3
  ·exact zc6 fun h1 h2 h3=>yd1 h1 h2 h3
  ·exact zw7
  ·exact zo8
  ·exact zo9
  ·exact zl9
  ·exact zp0 fun w h=>h.1
  ·exact zt0
  ·exact zt1
  ·exact zw8
  ·exact zj0
  ·exact zm0
  ·exact zm1
  ·exact zm2
  ·exact zp1
  ·exact zp2
  ·exact zp3
  ·exact zp4
  ·exact zp5
  ·exact zp6
  ·exact zk6
  ·exact zp7 fun w h=>h.2
  ·exact zp8 fun w h=>h.2
  ·exact zV3 fun w h=>h.2
  ·exact zp9
  ·exact cOf_ok fun w h=>h
  ·exact zH7
  ·exact zx7
 inv:=fun w w' h g=>⟨h.1.gr g,h.2.gr g⟩
def okLf (p:SV→Bool):Lf→Bool
 | .ret v=>p v
 | .br t a b=>match t with
  | true=>okLf p a
  | false=>okLf p b
 | .as t v a=>match t,v with
  | true,true=>okLf p a
  | false,false=>okLf p a
  | _,_=>false
theorem zR1 {p:SV→Bool}:∀ {L:Lf},okLf p L=true→LOK (fun v=>p v=true) L
 | .ret v,h=>h
 | .br t a b,h=>by
  cases t with
  | true=>exact ⟨fun _=>zR1 (L:=a) h,fun e=>by cases e⟩
  | false=>exact ⟨fun e=>(by cases e),fun _=>zR1 (L:=b) h⟩
 | .as t v a,h=>by
  cases t<;>cases v<;>first | exact absurd h (by show ¬(false=true);decide) | exact ⟨rfl,zR1 (L:=a) h⟩
def okRun (p:SV→Bool):Rs→Bool
 | some L=>okLf p L
 | none=>false
theorem yh9 {p:SV→Bool} {r:Rs} (h:okRun p r=true):∃ L,r=some L∧LOK (fun v=>p v=true) L:=by
 cases r with
 | none=>cases h
 | some L=>exact ⟨L,rfl,zR1 h⟩
def tz0 (c:Cl):Bool:=match txC c with
 | some (_,q)=>decide (q=0)
 | none=>false
def tzE:Cl→Bool
 | .cw [] _=>true
 | _=>false
def pJ (z e:Int) (tz:Cl→Bool):SV→Bool
 | .st [.vg [.ci .i64 a _ _,.ci .i64 b _ _,.ci .i64 c _ _,.ci .i64 d _ _,t1,t2,t3],.vc (.ci .i64 f _ _)]=>decide (a=0)&&decide (b=0)&&decide (c=0)&&decide (d=z)&&decide (f=e)&&tz t1&&tz t2&&tz t3
 | _=>false
theorem runJ1:okRun (pJ 1 0 tz0) (zV9 sysN 32 [.so (.vg [.ci .i64 1 1 1,.ci .i64 0 0 0,.ci .i64 0 0 0,.ci .i64 1 1 1,.cw (za1 0) (some (64,0)),.cw (za1 0) (some (64,0)),.cw (za1 0) (some (64,0))]),.so (.vg [.ci .i64 1 1 1,.ci .i64 0 0 0,.ci .i64 0 0 0,.ci .i64 1 1 1,.cw (za1 0) (some (64,0)),.cw (za1 0) (some (64,0)),.cw (za1 0) (some (64,0))])] 0 0 .c)=true:=by kernel_rfl
theorem runJ2:okRun (pJ 0 2 tzE) (zV9 sysN 32 [.so (.vg [.ci .i64 12 12 12,.ci .i64 1 1 1,.ci .i64 0 0 0,.ci .i64 0 0 0,.cw (za1 0) (some (64,0)),.cw (za1 0) (some (64,0)),.cw (za1 0) (some (64,0))]),.so (.vg [.ci .i64 12 12 12,.ci .i64 1 1 1,.ci .i64 0 0 0,.ci .i64 0 0 0,.cw (za1 0) (some (64,0)),.cw (za1 0) (some (64,0)),.cw (za1 0) (some (64,0))])] 0 0 .c)=true:=by kernel_rfl
theorem yt1 {n:Nn} {X:Env} {w:World} {c:Cl} (h:tz0 c=true) (hc:c.ok n X w):c.den X=.string ⟨([48]:List UInt8).toArray⟩:=by
 unfold tz0 at h
 split at h
 ·rename_i k q e
  rw [(zl8 e hc).1,of_decide_eq_true h,yg1]
 ·cases h
theorem yt2 {X:Env} {c:Cl} (h:tzE c=true):c.den X=.string ⟨([]:List UInt8).toArray⟩:=by
 unfold tzE at h
 split at h
 ·rfl
 ·cases h
theorem pJ_ok {n:Nn} {X:Env} {w:World} {z e:Int} {tz:Cl→Bool} {v:SV} (h:pJ z e tz v=true) (hv:v.ok n X w):∃ c1 c2 c3:Cl,v.den X=.tuple #[.agg #[.int .i64 0,.int .i64 0,.int .i64 0,.int .i64 z,c1.den X,c2.den X,c3.den X],.int .i64 e]∧(tz c1=true∧c1.ok n X w)∧(tz c2=true∧c2.ok n X w)∧(tz c3=true∧c3.ok n X w):=by
 unfold pJ at h
 split at h
 ·rename_i a _ _ b _ _ c _ _ d _ _ t1 t2 t3 f _ _
  simp only [Bool.and_eq_true,decide_eq_true_eq] at h
  obtain ⟨⟨⟨⟨⟨⟨⟨rfl,rfl⟩,rfl⟩,rfl⟩,rfl⟩,h1⟩,h2⟩,h3⟩:=h
  have g:=hv (.vg _) (.head _)
  exact ⟨t1,t2,t3,rfl,⟨h1,g t1 (by simp)⟩,⟨h2,g t2 (by simp)⟩,⟨h3,g t3 (by simp)⟩⟩
 ·cases h
theorem tx0 (w:World):(Cl.cw (za1 0) (some (64,0))).ok ⟨0,0,0⟩ (zG5 []) w:=⟨rfl,fun k q e=>by cases e;exact ⟨rfl,Nat.two_pow_pos _,Nat.one_lt_two_pow (by decide)⟩⟩
theorem ci0 (z:Int) (w:World):(Cl.ci .i64 z z z).ok ⟨0,0,0⟩ (zG5 []) w:=⟨rfl,Int.le_refl _,Int.le_refl _⟩
theorem okq (a b c d:Int) (w:World):SV.ok ⟨0,0,0⟩ (zG5 []) w (.so (.vg [.ci .i64 a a a,.ci .i64 b b b,.ci .i64 c c c,.ci .i64 d d d,.cw (za1 0) (some (64,0)),.cw (za1 0) (some (64,0)),.cw (za1 0) (some (64,0))])):=zf6 ⟨ci0 _ _,ci0 _ _,ci0 _ _,ci0 _ _,tx0 _,tx0 _,tx0 _,trivial⟩
theorem okF2 {n:Nn} {X:Env} {W:World} {u v:SV} (h1:u.ok n X W) (h2:v.ok n X W):okF n X W [u,v]:=fun x hx=>by
 simp only [List.mem_cons,List.not_mem_nil,or_false] at hx
 rcases hx with rfl | rfl
 ·exact h1
 ·exact h2
theorem join_k1 (w:World) (hm:Mx w) (ht:Tab w):
  Calls Tryz.prog 32 #[.agg #[.int .i64 1,.int .i64 0,.int .i64 0,.int .i64 1,.string ⟨([48]:List UInt8).toArray⟩,.string ⟨([48]:List UInt8).toArray⟩,.string ⟨([48]:List UInt8).toArray⟩],.agg #[.int .i64 1,.int .i64 0,.int .i64 0,.int .i64 1,.string ⟨([48]:List UInt8).toArray⟩,.string ⟨([48]:List UInt8).toArray⟩,.string ⟨([48]:List UInt8).toArray⟩]] w fun e w'=>e=.returned (.tuple #[.agg #[.int .i64 0,.int .i64 0,.int .i64 0,.int .i64 1,.string ⟨([48]:List UInt8).toArray⟩,.string ⟨([48]:List UInt8).toArray⟩,.string ⟨([48]:List UInt8).toArray⟩],.int .i64 0])∧Gr w w':=by
 obtain ⟨L,hr,hL⟩:=yh9 runJ1
 have:=(zc8 sysN yc7 hr (X:=zG5 []) ⟨ht,hm⟩ (okF2 (okq 1 0 0 1 w) (okq 1 0 0 1 w)) hL)
 rw [show ([.so (.vg [.ci .i64 1 1 1,.ci .i64 0 0 0,.ci .i64 0 0 0,.ci .i64 1 1 1,.cw (za1 0) (some (64,0)),.cw (za1 0) (some (64,0)),.cw (za1 0) (some (64,0))]),.so (.vg [.ci .i64 1 1 1,.ci .i64 0 0 0,.ci .i64 0 0 0,.ci .i64 1 1 1,.cw (za1 0) (some (64,0)),.cw (za1 0) (some (64,0)),.cw (za1 0) (some (64,0))])].map (SV.den (zG5 []))).toArray=#[.agg #[.int .i64 1,.int .i64 0,.int .i64 0,.int .i64 1,.string ⟨(za1 0).toArray⟩,.string ⟨(za1 0).toArray⟩,.string ⟨(za1 0).toArray⟩],.agg #[.int .i64 1,.int .i64 0,.int .i64 0,.int .i64 1,.string ⟨(za1 0).toArray⟩,.string ⟨(za1 0).toArray⟩,.string ⟨(za1 0).toArray⟩]] from rfl,yg1] at this
 refine this.mono fun e w' he=>?_
 obtain ⟨v,X',n,rfl,g,_,hv,hp⟩:=he
 obtain ⟨c1,c2,c3,e,h1,h2,h3⟩:=pJ_ok hp hv
 exact ⟨by rw [e,yt1 h1.1 h1.2,yt1 h2.1 h2.2,yt1 h3.1 h3.2],g⟩
theorem join_k2 (w:World) (hm:Mx w) (ht:Tab w):
  Calls Tryz.prog 32 #[.agg #[.int .i64 12,.int .i64 1,.int .i64 0,.int .i64 0,.string ⟨([48]:List UInt8).toArray⟩,.string ⟨([48]:List UInt8).toArray⟩,.string ⟨([48]:List UInt8).toArray⟩],.agg #[.int .i64 12,.int .i64 1,.int .i64 0,.int .i64 0,.string ⟨([48]:List UInt8).toArray⟩,.string ⟨([48]:List UInt8).toArray⟩,.string ⟨([48]:List UInt8).toArray⟩]] w fun e w'=>e=.returned (.tuple #[.agg #[.int .i64 0,.int .i64 0,.int .i64 0,.int .i64 0,.string ⟨([]:List UInt8).toArray⟩,.string ⟨([]:List UInt8).toArray⟩,.string ⟨([]:List UInt8).toArray⟩],.int .i64 2])∧Gr w w':=by
 obtain ⟨L,hr,hL⟩:=yh9 runJ2
 have:=(zc8 sysN yc7 hr (X:=zG5 []) ⟨ht,hm⟩ (okF2 (okq 12 1 0 0 w) (okq 12 1 0 0 w)) hL)
 rw [show ([.so (.vg [.ci .i64 12 12 12,.ci .i64 1 1 1,.ci .i64 0 0 0,.ci .i64 0 0 0,.cw (za1 0) (some (64,0)),.cw (za1 0) (some (64,0)),.cw (za1 0) (some (64,0))]),.so (.vg [.ci .i64 12 12 12,.ci .i64 1 1 1,.ci .i64 0 0 0,.ci .i64 0 0 0,.cw (za1 0) (some (64,0)),.cw (za1 0) (some (64,0)),.cw (za1 0) (some (64,0))])].map (SV.den (zG5 []))).toArray=#[.agg #[.int .i64 12,.int .i64 1,.int .i64 0,.int .i64 0,.string ⟨(za1 0).toArray⟩,.string ⟨(za1 0).toArray⟩,.string ⟨(za1 0).toArray⟩],.agg #[.int .i64 12,.int .i64 1,.int .i64 0,.int .i64 0,.string ⟨(za1 0).toArray⟩,.string ⟨(za1 0).toArray⟩,.string ⟨(za1 0).toArray⟩]] from rfl,yg1] at this
 refine this.mono fun e w' he=>?_
 obtain ⟨v,X',n,rfl,g,_,hv,hp⟩:=he
 obtain ⟨c1,c2,c3,e,h1,h2,h3⟩:=pJ_ok hp hv
 exact ⟨by rw [e,yt2 h1.1,yt2 h2.1,yt2 h3.1],g⟩
theorem IsRats.open12 {w':World} {vs:List Value} {r0 r1 r2 r3 r4 r5 r6 r7 r8 r9 aT aS:Rat} (h:IsRats w' vs [(64,r0),(64,r1),(64,r2),(64,r3),(64,r4),(64,r5),(64,r6),(64,r7),(64,r8),(64,r9),(64,aT),(64,aS)]):∃ t0 t1 t2 t3 t4 t5 t6 t7 t8 t9 aE au aB aN aC aO ae ax aJ aw aK ap aR aH aA ay aL aa aj ai ar ad av aD al ac aq aP aQ aF aI ak af ab aG az ah aM,vs=[t0,t1,t2,t3,t4,t5,t6,t7,t8,t9,aE,au,aB,aN,aC,aO,ae,ax,aJ,aw,aK,ap,aR,aH,aA,ay,aL,aa,aj,ai,ar,ad,av,aD,al,ac,aq,aP,aQ,aF,aI,ak,af,ab,aG,az,ah,aM]∧IsRat w' 64 t0 t1 t2 t3 r0∧IsRat w' 64 t4 t5 t6 t7 r1∧IsRat w' 64 t8 t9 aE au r2∧IsRat w' 64 aB aN aC aO r3∧IsRat w' 64 ae ax aJ aw r4∧IsRat w' 64 aK ap aR aH r5∧IsRat w' 64 aA ay aL aa r6∧IsRat w' 64 aj ai ar ad r7∧IsRat w' 64 av aD al ac r8∧IsRat w' 64 aq aP aQ aF r9∧IsRat w' 64 aI ak af ab aT∧IsRat w' 64 aG az ah aM aS:=by
 obtain ⟨t0,t1,t2,t3,u0,rfl,h0,g0⟩:=h.cons
 obtain ⟨t4,t5,t6,t7,u1,rfl,h1,g1⟩:=g0.cons
 obtain ⟨t8,t9,aE,au,u2,rfl,h2,g2⟩:=g1.cons
 obtain ⟨aB,aN,aC,aO,u3,rfl,h3,g3⟩:=g2.cons
 obtain ⟨ae,ax,aJ,aw,u4,rfl,h4,g4⟩:=g3.cons
 obtain ⟨aK,ap,aR,aH,u5,rfl,h5,g5⟩:=g4.cons
 obtain ⟨aA,ay,aL,aa,u6,rfl,h6,g6⟩:=g5.cons
 obtain ⟨aj,ai,ar,ad,u7,rfl,h7,g7⟩:=g6.cons
 obtain ⟨av,aD,al,ac,u8,rfl,h8,g8⟩:=g7.cons
 obtain ⟨aq,aP,aQ,aF,u9,rfl,h9,g9⟩:=g8.cons
 obtain ⟨aI,ak,af,ab,aY,rfl,aX,aV⟩:=g9.cons
 obtain ⟨aG,az,ah,aM,aZ,rfl,aU,aW⟩:=aV.cons
 obtain rfl:=aW.nil
 exact ⟨t0,t1,t2,t3,t4,t5,t6,t7,t8,t9,aE,au,aB,aN,aC,aO,ae,ax,aJ,aw,aK,ap,aR,aH,aA,ay,aL,aa,aj,ai,ar,ad,av,aD,al,ac,aq,aP,aQ,aF,aI,ak,af,ab,aG,az,ah,aM,rfl,h0,h1,h2,h3,h4,h5,h6,h7,h8,h9,aX,aU⟩
theorem vk1:VT 1 0 0 1:=⟨by decide,by decide,by decide,by decide,by decide+kernel,by decide+kernel⟩
theorem mof_k1 (w:World) (hm:Mx w) (ht:Tab w):
  Calls Tryz.prog 14 #[.agg #[.int .i64 1,.int .i64 0,.int .i64 0,.int .i64 1,.string ⟨([48]:List UInt8).toArray⟩,.string ⟨([48]:List UInt8).toArray⟩,.string ⟨([48]:List UInt8).toArray⟩]] w fun e w'=>(∃ t0 t1 t2 t3 t4 t5 t6 t7 t8 t9 af ak aM aE aR aH au av aL ar ah aP az aA aI aC ax ac aK aJ ab aq al aa aQ ai ad aN aw aj aB aO ay ae ap aF aG aD,e=.returned (.tuple #[.agg #[t0,t1,t2,t3,t4,t5,t6,t7,t8,t9,af,ak,aM,aE,aR,aH,au,av,aL,ar,ah,aP,az,aA,aI,aC,ax,ac,aK,aJ,ab,aq,al,aa,aQ,ai,ad,aN,aw,aj,aB,aO,ay,ae,ap,aF,aG,aD],.int .i64 0])∧IsRat w' 64 t0 t1 t2 t3 0∧IsRat w' 64 t4 t5 t6 t7 (-1)∧IsRat w' 64 t8 t9 af ak 0∧IsRat w' 64 aM aE aR aH 1∧IsRat w' 64 au av aL ar 0∧IsRat w' 64 ah aP az aA 0∧IsRat w' 64 aI aC ax ac 0∧IsRat w' 64 aK aJ ab aq 0∧IsRat w' 64 al aa aQ ai 1∧IsRat w' 64 ad aN aw aj 0∧IsRat w' 64 aB aO ay ae 0∧IsRat w' 64 ap aF aG aD 0)∧Gr w w':=by
 have z:RS 64 (0:Rat):=⟨Nat.two_pow_pos _,Nat.one_lt_two_pow (by decide)⟩
 have:=of_c vk1 z z z w ⟨ht,hm⟩
 rw [yg1,show oList 1 0 0 1 0 0 0=[(64,0),(64,(-1)),(64,0),(64,1),(64,0),(64,0),(64,0),(64,0),(64,1),(64,0),(64,0),(64,0)] by decide+kernel] at this
 refine this.mono fun e w' he=>?_
 obtain ⟨⟨vs,rfl,h⟩,g⟩:=he
 obtain ⟨t0,t1,t2,t3,t4,t5,t6,t7,t8,t9,af,ak,aM,aE,aR,aH,au,av,aL,ar,ah,aP,az,aA,aI,aC,ax,ac,aK,aJ,ab,aq,al,aa,aQ,ai,ad,aN,aw,aj,aB,aO,ay,ae,ap,aF,aG,aD,rfl,k⟩:=h.open12
 exact ⟨⟨t0,t1,t2,t3,t4,t5,t6,t7,t8,t9,af,ak,aM,aE,aR,aH,au,av,aL,ar,ah,aP,az,aA,aI,aC,ax,ac,aK,aJ,ab,aq,al,aa,aQ,ai,ad,aN,aw,aj,aB,aO,ay,ae,ap,aF,aG,aD,rfl,k⟩,g⟩
theorem vk2:VT 2 1 0 0:=⟨by decide,by decide,by decide,by decide,by decide+kernel,by decide+kernel⟩
theorem mof_k2 (w:World) (hm:Mx w) (ht:Tab w):
  Calls Tryz.prog 14 #[.agg #[.int .i64 2,.int .i64 1,.int .i64 0,.int .i64 0,.string ⟨([48]:List UInt8).toArray⟩,.string ⟨([48]:List UInt8).toArray⟩,.string ⟨([48]:List UInt8).toArray⟩]] w fun e w'=>(∃ t0 t1 t2 t3 t4 t5 t6 t7 t8 t9 af ak aM aE aR aH au av aL ar ah aP az aA aI aC ax ac aK aJ ab aq al aa aQ ai ad aN aw aj aB aO ay ae ap aF aG aD,e=.returned (.tuple #[.agg #[t0,t1,t2,t3,t4,t5,t6,t7,t8,t9,af,ak,aM,aE,aR,aH,au,av,aL,ar,ah,aP,az,aA,aI,aC,ax,ac,aK,aJ,ab,aq,al,aa,aQ,ai,ad,aN,aw,aj,aB,aO,ay,ae,ap,aF,aG,aD],.int .i64 0])∧IsRat w' 64 t0 t1 t2 t3 1∧IsRat w' 64 t4 t5 t6 t7 0∧IsRat w' 64 t8 t9 af ak 0∧IsRat w' 64 aM aE aR aH 0∧IsRat w' 64 au av aL ar (3/5)∧IsRat w' 64 ah aP az aA (-4/5)∧IsRat w' 64 aI aC ax ac 0∧IsRat w' 64 aK aJ ab aq (4/5)∧IsRat w' 64 al aa aQ ai (3/5)∧IsRat w' 64 ad aN aw aj 0∧IsRat w' 64 aB aO ay ae 0∧IsRat w' 64 ap aF aG aD 0)∧Gr w w':=by
 have z:RS 64 (0:Rat):=⟨Nat.two_pow_pos _,Nat.one_lt_two_pow (by decide)⟩
 have:=of_c vk2 z z z w ⟨ht,hm⟩
 rw [yg1,show oList 2 1 0 0 0 0 0=[(64,1),(64,0),(64,0),(64,0),(64,(3/5)),(64,(-4/5)),(64,0),(64,(4/5)),(64,(3/5)),(64,0),(64,0),(64,0)] by decide+kernel] at this
 refine this.mono fun e w' he=>?_
 obtain ⟨⟨vs,rfl,h⟩,g⟩:=he
 obtain ⟨t0,t1,t2,t3,t4,t5,t6,t7,t8,t9,af,ak,aM,aE,aR,aH,au,av,aL,ar,ah,aP,az,aA,aI,aC,ax,ac,aK,aJ,ab,aq,al,aa,aQ,ai,ad,aN,aw,aj,aB,aO,ay,ae,ap,aF,aG,aD,rfl,k⟩:=h.open12
 exact ⟨⟨t0,t1,t2,t3,t4,t5,t6,t7,t8,t9,af,ak,aM,aE,aR,aH,au,av,aL,ar,ah,aP,az,aA,aI,aC,ax,ac,aK,aJ,ab,aq,al,aa,aQ,ai,ad,aN,aw,aj,aB,aO,ay,ae,ap,aF,aG,aD,rfl,k⟩,g⟩
theorem runA (r0 r1 r2 r3 r4 r5 r6 r7 r8 r9 ab aa v1 v2 v3:Rat):zV9 sysN 43 [.so (.vg [.cr 0 0 64 r0,.cr 0 1 64 r0,.cr 0 2 64 r0,.cr 0 3 64 r0,.cr 1 0 64 r1,.cr 1 1 64 r1,.cr 1 2 64 r1,.cr 1 3 64 r1,.cr 2 0 64 r2,.cr 2 1 64 r2,.cr 2 2 64 r2,.cr 2 3 64 r2,.cr 3 0 64 r3,.cr 3 1 64 r3,.cr 3 2 64 r3,.cr 3 3 64 r3,.cr 4 0 64 r4,.cr 4 1 64 r4,.cr 4 2 64 r4,.cr 4 3 64 r4,.cr 5 0 64 r5,.cr 5 1 64 r5,.cr 5 2 64 r5,.cr 5 3 64 r5,.cr 6 0 64 r6,.cr 6 1 64 r6,.cr 6 2 64 r6,.cr 6 3 64 r6,.cr 7 0 64 r7,.cr 7 1 64 r7,.cr 7 2 64 r7,.cr 7 3 64 r7,.cr 8 0 64 r8,.cr 8 1 64 r8,.cr 8 2 64 r8,.cr 8 3 64 r8,.cr 9 0 64 r9,.cr 9 1 64 r9,.cr 9 2 64 r9,.cr 9 3 64 r9,.cr 10 0 64 ab,.cr 10 1 64 ab,.cr 10 2 64 ab,.cr 10 3 64 ab,.cr 11 0 64 aa,.cr 11 1 64 aa,.cr 11 2 64 aa,.cr 11 3 64 aa]),.so (.vg [.cr 12 0 64 v1,.cr 12 1 64 v1,.cr 12 2 64 v1,.cr 12 3 64 v1,.cr 13 0 64 v2,.cr 13 1 64 v2,.cr 13 2 64 v2,.cr 13 3 64 v2,.cr 14 0 64 v3,.cr 14 1 64 v3,.cr 14 2 64 v3,.cr 14 3 64 v3])] 15 0 .e=some (.ret (.so (.vg (rowC [33,34,35] [(516,0+r0*v1+r1*v2+r2*v3+r9),(516,0+r3*v1+r4*v2+r5*v3+ab),(516,0+r6*v1+r7*v2+r8*v3+aa)])))):=by kernel_rfl
theorem mapply64 {c0 c1 c2 c3 c4 c5 c6 c7 c8 c9 aE bb aJ aK a0 aM av ax aI aB ai bc aT a6 aQ a9 ay al aC aX aG aL aR aj a3 a8 aP aN a4 aY ba a5 aU au aV ar a7 aw aD aZ aH a2 aF a1 aW aS aq az ak aA:Value} {r0 r1 r2 r3 r4 r5 r6 r7 r8 r9 af ae v1 v2 v3:Rat} {w:World} (h0:IsRat w 64 c0 c1 c2 c3 r0) (h1:IsRat w 64 c4 c5 c6 c7 r1) (h2:IsRat w 64 c8 c9 aE bb r2) (h3:IsRat w 64 aJ aK a0 aM r3) (h4:IsRat w 64 av ax aI aB r4) (h5:IsRat w 64 ai bc aT a6 r5) (h6:IsRat w 64 aQ a9 ay al r6) (h7:IsRat w 64 aC aX aG aL r7) (h8:IsRat w 64 aR aj a3 a8 r8) (h9:IsRat w 64 aP aN a4 aY r9) (ad:IsRat w 64 ba a5 aU au af) (aa:IsRat w 64 aV ar a7 aw ae) (ah:IsRat w 64 aD aZ aH a2 v1) (ac:IsRat w 64 aF a1 aW aS v2) (ab:IsRat w 64 aq az ak aA v3) (ht:Tab w) (hm:Mx w):
  Calls Tryz.prog 43 #[.agg #[c0,c1,c2,c3,c4,c5,c6,c7,c8,c9,aE,bb,aJ,aK,a0,aM,av,ax,aI,aB,ai,bc,aT,a6,aQ,a9,ay,al,aC,aX,aG,aL,aR,aj,a3,a8,aP,aN,a4,aY,ba,a5,aU,au,aV,ar,a7,aw],.agg #[aD,aZ,aH,a2,aF,a1,aW,aS,aq,az,ak,aA]] w fun e w'=>(∃ t0 t1 t2 t3 t4 t5 t6 t7 t8 t9 ap aO,e=.returned (.agg #[t0,t1,t2,t3,t4,t5,t6,t7,t8,t9,ap,aO])∧IsRat w' 516 t0 t1 t2 t3 ((0+r0*v1+r1*v2+r2*v3)+r9)∧IsRat w' 516 t4 t5 t6 t7 ((0+r3*v1+r4*v2+r5*v3)+af)∧IsRat w' 516 t8 t9 ap aO ((0+r6*v1+r7*v2+r8*v3)+ae))∧Gr w w':=by
 refine (zc8 sysN yc7 (runA r0 r1 r2 r3 r4 r5 r6 r7 r8 r9 af ae v1 v2 v3) (X:=zG5 [c0,c1,c2,c3,c4,c5,c6,c7,c8,c9,aE,bb,aJ,aK,a0,aM,av,ax,aI,aB,ai,bc,aT,a6,aQ,a9,ay,al,aC,aX,aG,aL,aR,aj,a3,a8,aP,aN,a4,aY,ba,a5,aU,au,aV,ar,a7,aw,aD,aZ,aH,a2,aF,a1,aW,aS,aq,az,ak,aA]) ⟨ht,hm⟩ (okF2 (zf6 ⟨⟨rfl,h0⟩,⟨rfl,h0⟩,⟨rfl,h0⟩,⟨rfl,h0⟩,⟨rfl,h1⟩,⟨rfl,h1⟩,⟨rfl,h1⟩,⟨rfl,h1⟩,⟨rfl,h2⟩,⟨rfl,h2⟩,⟨rfl,h2⟩,⟨rfl,h2⟩,⟨rfl,h3⟩,⟨rfl,h3⟩,⟨rfl,h3⟩,⟨rfl,h3⟩,⟨rfl,h4⟩,⟨rfl,h4⟩,⟨rfl,h4⟩,⟨rfl,h4⟩,⟨rfl,h5⟩,⟨rfl,h5⟩,⟨rfl,h5⟩,⟨rfl,h5⟩,⟨rfl,h6⟩,⟨rfl,h6⟩,⟨rfl,h6⟩,⟨rfl,h6⟩,⟨rfl,h7⟩,⟨rfl,h7⟩,⟨rfl,h7⟩,⟨rfl,h7⟩,⟨rfl,h8⟩,⟨rfl,h8⟩,⟨rfl,h8⟩,⟨rfl,h8⟩,⟨rfl,h9⟩,⟨rfl,h9⟩,⟨rfl,h9⟩,⟨rfl,h9⟩,⟨rfl,ad⟩,⟨rfl,ad⟩,⟨rfl,ad⟩,⟨rfl,ad⟩,⟨rfl,aa⟩,⟨rfl,aa⟩,⟨rfl,aa⟩,⟨rfl,aa⟩,trivial⟩) (zf6 ⟨⟨rfl,ah⟩,⟨rfl,ah⟩,⟨rfl,ah⟩,⟨rfl,ah⟩,⟨rfl,ac⟩,⟨rfl,ac⟩,⟨rfl,ac⟩,⟨rfl,ac⟩,⟨rfl,ab⟩,⟨rfl,ab⟩,⟨rfl,ab⟩,⟨rfl,ab⟩,trivial⟩)) (Post:=fun v=>zM0 v=some [(516,0+r0*v1+r1*v2+r2*v3+r9),(516,0+r3*v1+r4*v2+r5*v3+af),(516,0+r6*v1+r7*v2+r8*v3+ae)]) rfl).mono fun e w' he=>?_
 obtain ⟨v,X',n,rfl,g,_,hv,hr⟩:=he
 obtain ⟨vs,e1,h⟩:=zt2 hr hv
 obtain ⟨t0,t1,t2,t3,u0,rfl,h0,g0⟩:=h.cons
 obtain ⟨t4,t5,t6,t7,u1,rfl,h1,g1⟩:=g0.cons
 obtain ⟨t8,t9,ap,aO,u2,rfl,h2,g2⟩:=g1.cons
 obtain rfl:=g2.nil
 exact ⟨⟨_,_,_,_,_,_,_,_,_,_,_,_,by rw [e1],h0,h1,h2⟩,g⟩
def EQ4 (_:World) (z:Int × Int × Int × Int) (vs:List Value):Prop:=vs=[.int .i64 z.1,.int .i64 z.2.1,.int .i64 z.2.2.1,.int .i64 z.2.2.2]
theorem zm7:Stab EQ4 []:=fun _ _ _ _ _ h=>h
def qAt (n:Nat):Int × Int × Int × Int:=((n:Int)/27 - 1,(n:Int)/9 % 3 - 1,(n:Int)/3 % 3 - 1,(n:Int) % 3 - 1)
def qSq (z:Int × Int × Int × Int):Int:=0+z.1*z.1+z.2.1*z.2.1+z.2.2.1*z.2.2.1+z.2.2.2*z.2.2.2
def qOk (z:Int × Int × Int × Int):Bool:=(qSq z !=3)&&(chk z.1 z.2.1 z.2.2.1 z.2.2.2 0==0)
def zJ8 (n:Nat):List (Int × Int × Int × Int):=((List.range n).map qAt).filter qOk
theorem yy0 {n:Nat} {z:Int × Int × Int × Int} (hz:qAt n=z) (h:qOk z=true):zJ8 (n+1)=zJ8 n++[z]:=by
 unfold zJ8
 rw [List.range_succ,List.map_append,List.filter_append,List.map_cons,List.map_nil,hz]
 simp [h]
theorem yk9 {n:Nat} {z:Int × Int × Int × Int} (hz:qAt n=z) (h:qOk z=false):zJ8 (n+1)=zJ8 n:=by
 unfold zJ8
 rw [List.range_succ,List.map_append,List.filter_append,List.map_cons,List.map_nil,hz]
 simp [h]
theorem yy1 (n:Nat):(zJ8 n).length≤n:=by
 unfold zJ8
 refine Nat.le_trans (List.length_filter_le ..) ?_
 simp
def quarters:List (Int × Int × Int × Int):=zJ8 81
theorem zE2:quarters.length=24:=by decide+kernel
theorem mcheck0 {q0 q1 q2 q3:Int} (j0:-12≤q0∧q0≤12) (j1:-12≤q1∧q1≤12) (j2:-12≤q2∧q2≤12) (j3:-12≤q3∧q3≤12) (w:World) (hm:Mx w):
  Calls Tryz.prog 15 #[.agg #[.int .i64 q0,.int .i64 q1,.int .i64 q2,.int .i64 q3,.string ⟨([48]:List UInt8).toArray⟩,.string ⟨([48]:List UInt8).toArray⟩,.string ⟨([48]:List UInt8).toArray⟩]] w fun e w'=>e=.returned (.int .i64 (chk q0 q1 q2 q3 0))∧Gr w w':=by
 have z:RS 64 (0:Rat):=⟨Nat.two_pow_pos _,Nat.one_lt_two_pow (by decide)⟩
 have:=yt5 j0 j1 j2 j3 0 0 0 z z z w hm
 rw [yg1] at this
 exact this
set_option maxRecDepth 100000 in
set_option maxHeartbeats 4000000 in
theorem ys7 (w:World) (hm:Mx w):
    Calls Tryz.prog 50 #[] w fun e w'=>(∃ v,e=.returned v∧Sl EQ4 22 4 w' v quarters)∧Gr w w':=by
 go_enter Tryz.func50,Tryz.ntmps50
 have hB:=Gr.refl w
 refine wp_seq_k (fun K1 k1=>?_)
 refine rg [0] ?_
 refine sv 0 (.slice none 0 0) ?_
 refine za0 ?_
 refine k1 _ _ ?_
 try clear k1 K1
 refine wp_seq_k (fun K2 k2=>?_)
 refine rg [0] ?_
 refine sv 1 (.slice none 0 0) ?_
 refine za0 ?_
 refine k2 _ _ ?_
 try clear k2 K2
 refine wp_seq_k (fun K3 k3=>?_)
 refine wp_seq_k (fun K4 k4=>?_)
 refine rg [0] ?_
 refine sv 7 (.int .i64 0) ?_
 refine za0 ?_
 refine k4 _ _ ?_
 try clear k4 K4
 refine wp_block ?_
 refine zg5 (a:=⟨List.toArray ?l5,[]⟩) (fun n a w'=>∃ (v:Value) (nn:Nat) (u5:Nat→Value),81 - nn=n∧a=⟨[.slice none 0 0,v,(u5 2),(u5 3),(u5 4),undef,(u5 6),(.int .i64 ((nn:Int))),(u5 8),(u5 9),(u5 10),(u5 11),(u5 12),(u5 13),(u5 14),(u5 15),(u5 16),(u5 17),(u5 18),(u5 19),(u5 20),(u5 21),(u5 22),(u5 23),(u5 24),(u5 25),(u5 26),(u5 27),(u5 28),(u5 29),(u5 30),(u5 31),(u5 32),(u5 33),(u5 34),(u5 35),(u5 36),(u5 37),(u5 38),(u5 39),(u5 40),(u5 41),(u5 42),(u5 43),(u5 44),(u5 45),(u5 46),(u5 47),(u5 48),undef].toArray,[]⟩∧nn≤81∧Ow EQ4 22 4 w' w.heap.size v (zJ8 nn)∧Gr w w') (81 - 0) ?_ ?_
 ·exact ⟨_,0,(fun i=>List.getD ?l5 i undef),rfl,rfl,(by omega),(Ow.nil _ _ _ _ _),hB⟩
 rintro n5 a5 w5 ⟨v,nn,u5,rfl,rfl,hnn,hv,hB⟩ K5 k5
 refine wp_seq_k (fun K6 k6=>?_)
 refine rg [0] ?_
 refine sv 8 (.bool (decide ((nn:Int)<(81:Int)))) ?_
 refine za0 ?_
 refine k6 _ _ ?_
 try clear k6 K6
 refine wp_seq_k (fun K7 k7=>?_)
 refine wp_cond_split (t:=decide ((nn:Int)<(81:Int))) rfl (fun ap=>?_) (fun ap=>?_)
 ·have hlt:nn<81:=by have:=of_decide_eq_true ap;omega
  refine wp_skip ?_
  refine k7 _ _ ?_
  try clear k7 K7
  refine wp_seq_k (fun K9 k9=>?_)
  refine wp_block ?_
  refine wp_seq_k (fun bb aE=>?_)
  refine rg [0,1] ?_
  refine sv 9 (.int .i64 ((nn:Int))) ?_
  refine sv 2 (.int .i64 ((nn:Int))) ?_
  refine za0 ?_
  refine aE _ _ ?_
  try clear aE bb
  refine wp_seq_k (fun bq av=>?_)
  refine rg [0,1,2,3,4,5,6,7,8,9,10,11,12,13,14,15,16] ?_
  refine sv 10 (.int .i64 ((nn:Int))) ?_
  refine sw 11 (.int .i64 (((nn:Int)/27))) rfl (yB5 3 3 _ _ (nn:Int) 27 ((nn:Int)/27) rfl rfl rfl (Int.tdiv_eq_ediv_of_nonneg (by omega)) (by omega) (by omega) (by omega)) ?_
  refine sw 12 (.int .i64 ((((nn:Int)/27) - 1))) rfl (RunV.int (x:=IntKind.i64.wrap ((((nn:Int)/27) - 1))) (y:=(((nn:Int)/27) - 1)) (rvk (by kernel_rfl)) (by first | rfl | (rw [IntKind.wrap_i64];omega))) ?_
  refine sv 13 (.int .i64 ((nn:Int))) ?_
  refine sw 14 (.int .i64 (((nn:Int)/9))) rfl (yB5 3 3 _ _ (nn:Int) 9 ((nn:Int)/9) rfl rfl rfl (Int.tdiv_eq_ediv_of_nonneg (by omega)) (by omega) (by omega) (by omega)) ?_
  refine sw 15 (.int .i64 ((((nn:Int)/9) % 3))) rfl (RunV.int (x:=Int.tmod (((nn:Int)/9)) 3) (y:=((nn:Int)/9) % 3) (rvk (by kernel_rfl)) (by rw [Int.tmod_eq_emod_of_nonneg (by first | omega | exact Int.natCast_nonneg _)])) ?_
  refine sw 16 (.int .i64 (((((nn:Int)/9) % 3) - 1))) rfl (RunV.int (x:=IntKind.i64.wrap (((((nn:Int)/9) % 3) - 1))) (y:=((((nn:Int)/9) % 3) - 1)) (rvk (by kernel_rfl)) (by first | rfl | (rw [IntKind.wrap_i64];omega))) ?_
  refine sv 17 (.int .i64 ((nn:Int))) ?_
  refine sw 18 (.int .i64 (((nn:Int)/3))) rfl (yB5 3 3 _ _ (nn:Int) 3 ((nn:Int)/3) rfl rfl rfl (Int.tdiv_eq_ediv_of_nonneg (by omega)) (by omega) (by omega) (by omega)) ?_
  refine sw 19 (.int .i64 ((((nn:Int)/3) % 3))) rfl (RunV.int (x:=Int.tmod (((nn:Int)/3)) 3) (y:=((nn:Int)/3) % 3) (rvk (by kernel_rfl)) (by rw [Int.tmod_eq_emod_of_nonneg (by first | omega | exact Int.natCast_nonneg _)])) ?_
  refine sw 20 (.int .i64 (((((nn:Int)/3) % 3) - 1))) rfl (RunV.int (x:=IntKind.i64.wrap (((((nn:Int)/3) % 3) - 1))) (y:=((((nn:Int)/3) % 3) - 1)) (rvk (by kernel_rfl)) (by first | rfl | (rw [IntKind.wrap_i64];omega))) ?_
  refine sv 21 (.int .i64 ((nn:Int))) ?_
  refine sw 22 (.int .i64 (((nn:Int) % 3))) rfl (RunV.int (x:=Int.tmod ((nn:Int)) 3) (y:=(nn:Int) % 3) (rvk (by kernel_rfl)) (by rw [Int.tmod_eq_emod_of_nonneg (by first | omega | exact Int.natCast_nonneg _)])) ?_
  refine sw 23 (.int .i64 ((((nn:Int) % 3) - 1))) rfl (RunV.int (x:=IntKind.i64.wrap ((((nn:Int) % 3) - 1))) (y:=(((nn:Int) % 3) - 1)) (rvk (by kernel_rfl)) (by first | rfl | (rw [IntKind.wrap_i64];omega))) ?_
  refine sv 24 (.agg #[(.int .i64 ((((nn:Int)/27) - 1))),(.int .i64 (((((nn:Int)/9) % 3) - 1))),(.int .i64 (((((nn:Int)/3) % 3) - 1))),(.int .i64 ((((nn:Int) % 3) - 1)))]) ?_
  refine se ?_
  refine ea 22 #[.int .i64 0,.int .i64 0,.int .i64 0,.int .i64 0] 3 hB fun bF bH aj ac bp q12 hB=>?_
  have aa:=hv.ne bp
  simp only [p3,p4]
  refine se ?_
  have ae:=ac
  refine es 22 0 (.agg #[(.int .i64 ((((nn:Int)/27) - 1))),(.int .i64 (((((nn:Int)/9) % 3) - 1))),(.int .i64 (((((nn:Int)/3) % 3) - 1))),(.int .i64 ((((nn:Int) % 3) - 1)))]) [(.int .i64 ((((nn:Int)/27) - 1))),(.int .i64 (((((nn:Int)/9) % 3) - 1))),(.int .i64 (((((nn:Int)/3) % 3) - 1))),(.int .i64 ((((nn:Int) % 3) - 1)))] #[(.int .i64 ((((nn:Int)/27) - 1))),(.int .i64 (((((nn:Int)/9) % 3) - 1))),(.int .i64 (((((nn:Int)/3) % 3) - 1))),(.int .i64 ((((nn:Int) % 3) - 1)))] ac hB q12 ⟨rfl,rfl,rfl,rfl,trivial⟩ fun bJ ab a1 ac hB=>?_
  refine za0 ?_
  refine av _ _ ?_
  try clear av bq
  refine wp_seq_k (fun bc aQ=>?_)
  generalize bn:((((nn:Int)/27) - 1):Int)=qx0 at*
  generalize aV:(((((nn:Int)/9) % 3) - 1):Int)=qx1 at*
  generalize a4:(((((nn:Int)/3) % 3) - 1):Int)=qx2 at*
  generalize bj:((((nn:Int) % 3) - 1):Int)=qx3 at*
  have bM:-1≤qx0∧qx0≤1:=by omega
  have bC:=zF1 (a:=qx0) (b:=1) (by omega) (by omega)
  have bE:-1≤qx1∧qx1≤1:=by omega
  have bu:=zF1 (a:=qx1) (b:=1) (by omega) (by omega)
  have bz:-1≤qx2∧qx2≤1:=by omega
  have bx:=zF1 (a:=qx2) (b:=1) (by omega) (by omega)
  have bw:-1≤qx3∧qx3≤1:=by omega
  have bB:=zF1 (a:=qx3) (b:=1) (by omega) (by omega)
  have hqa:qAt nn=(qx0,qx1,qx2,qx3):=by unfold qAt;rw [bn,aV,a4,bj]
  refine rg [0] ?_
  refine sv 4 (.int .i64 0) ?_
  refine za0 ?_
  refine aQ _ _ ?_
  try clear aQ bc
  refine wp_seq_k (fun bo aB=>?_)
  refine wp_seq_k (fun bh aJ=>?_)
  refine rg [0,1] ?_
  refine sw 25 (.agg #[(.int .i64 (qx0)),(.int .i64 (qx1)),(.int .i64 (qx2)),(.int .i64 (qx3))]) rfl (rl 22 0 [(.int .i64 (qx0)),(.int .i64 (qx1)),(.int .i64 (qx2)),(.int .i64 (qx3))] ac) ?_
  refine sv 26 (.int .i64 0) ?_
  refine za0 ?_
  refine aJ _ _ ?_
  try clear aJ bh
  refine wp_block ?_
  refine wp_loop_rounds 6 ?_
  show Code.wp _ _ _ _ _
  refine wp_seq_k (fun a0 aM=>?_)
  refine rg [0] ?_
  refine sv 27 (.bool true) ?_
  refine za0 ?_
  refine aM _ _ ?_
  try clear aM a0
  refine wp_seq_k (fun aX au=>?_)
  refine wp_cond_true rfl ?_
  refine wp_skip ?_
  refine au _ _ ?_
  try clear au aX
  refine wp_seq_k (fun aW aC=>?_)
  refine wp_block ?_
  refine wp_seq_k (fun bi ay=>?_)
  refine rg [0,1] ?_
  refine sv 28 (.int .i64 (qx0)) ?_
  refine sv 6 (.int .i64 (qx0)) ?_
  refine za0 ?_
  refine ay _ _ ?_
  try clear ay bi
  refine rg [0,1,2,3,4,5] ?_
  refine sv 29 (.int .i64 0) ?_
  refine sv 30 (.int .i64 (qx0)) ?_
  refine sv 31 (.int .i64 (qx0)) ?_
  refine sw 32 (.int .i64 ((qx0*qx0))) rfl (RunV.int (x:=IntKind.i64.wrap ((qx0*qx0))) (y:=(qx0*qx0)) (rvk (by kernel_rfl)) (by first | rfl | (rw [IntKind.wrap_i64];omega))) ?_
  refine sw 33 (.int .i64 ((0+(qx0*qx0)))) rfl (RunV.int (x:=IntKind.i64.wrap ((0+(qx0*qx0)))) (y:=(0+(qx0*qx0))) (rvk (by kernel_rfl)) (by first | rfl | (rw [IntKind.wrap_i64];omega))) ?_
  refine sv 4 (.int .i64 ((0+(qx0*qx0)))) ?_
  refine za0 ?_
  refine aC _ _ ?_
  try clear aC aW
  refine rg [0,1] ?_
  refine sv 34 (.int .i64 1) ?_
  refine sv 26 (.int .i64 1) ?_
  refine za0 ?_
  show Code.rounds _ _ _ _ _ _
  show Code.wp _ _ _ _ _
  refine wp_seq_k (fun aT aN=>?_)
  refine rg [0] ?_
  refine sv 27 (.bool true) ?_
  refine za0 ?_
  refine aN _ _ ?_
  try clear aN aT
  refine wp_seq_k (fun bd aI=>?_)
  refine wp_cond_true rfl ?_
  refine wp_skip ?_
  refine aI _ _ ?_
  try clear aI bd
  refine wp_seq_k (fun bt aK=>?_)
  refine wp_block ?_
  refine wp_seq_k (fun bg aw=>?_)
  refine rg [0,1] ?_
  refine sv 28 (.int .i64 (qx1)) ?_
  refine sv 6 (.int .i64 (qx1)) ?_
  refine za0 ?_
  refine aw _ _ ?_
  try clear aw bg
  refine rg [0,1,2,3,4,5] ?_
  refine sv 29 (.int .i64 ((0+(qx0*qx0)))) ?_
  refine sv 30 (.int .i64 (qx1)) ?_
  refine sv 31 (.int .i64 (qx1)) ?_
  refine sw 32 (.int .i64 ((qx1*qx1))) rfl (RunV.int (x:=IntKind.i64.wrap ((qx1*qx1))) (y:=(qx1*qx1)) (rvk (by kernel_rfl)) (by first | rfl | (rw [IntKind.wrap_i64];omega))) ?_
  refine sw 33 (.int .i64 (((0+(qx0*qx0))+(qx1*qx1)))) rfl (RunV.int (x:=IntKind.i64.wrap (((0+(qx0*qx0))+(qx1*qx1)))) (y:=((0+(qx0*qx0))+(qx1*qx1))) (rvk (by kernel_rfl)) (by first | rfl | (rw [IntKind.wrap_i64];omega))) ?_
  refine sv 4 (.int .i64 (((0+(qx0*qx0))+(qx1*qx1)))) ?_
  refine za0 ?_
  refine aK _ _ ?_
  try clear aK bt
  refine rg [0,1] ?_
  refine sv 34 (.int .i64 2) ?_
  refine sv 26 (.int .i64 2) ?_
  refine za0 ?_
  show Code.rounds _ _ _ _ _ _
  show Code.wp _ _ _ _ _
  refine wp_seq_k (fun a3 aL=>?_)
  refine rg [0] ?_
  refine sv 27 (.bool true) ?_
  refine za0 ?_
  refine aL _ _ ?_
  try clear aL a3
  refine wp_seq_k (fun bf aR=>?_)
  refine wp_cond_true rfl ?_
  refine wp_skip ?_
  refine aR _ _ ?_
  try clear aR bf
  refine wp_seq_k (fun bm ax=>?_)
  refine wp_block ?_
  refine wp_seq_k (fun aS aD=>?_)
  refine rg [0,1] ?_
  refine sv 28 (.int .i64 (qx2)) ?_
  refine sv 6 (.int .i64 (qx2)) ?_
  refine za0 ?_
  refine aD _ _ ?_
  try clear aD aS
  refine rg [0,1,2,3,4,5] ?_
  refine sv 29 (.int .i64 (((0+(qx0*qx0))+(qx1*qx1)))) ?_
  refine sv 30 (.int .i64 (qx2)) ?_
  refine sv 31 (.int .i64 (qx2)) ?_
  refine sw 32 (.int .i64 ((qx2*qx2))) rfl (RunV.int (x:=IntKind.i64.wrap ((qx2*qx2))) (y:=(qx2*qx2)) (rvk (by kernel_rfl)) (by first | rfl | (rw [IntKind.wrap_i64];omega))) ?_
  refine sw 33 (.int .i64 ((((0+(qx0*qx0))+(qx1*qx1))+(qx2*qx2)))) rfl (RunV.int (x:=IntKind.i64.wrap ((((0+(qx0*qx0))+(qx1*qx1))+(qx2*qx2)))) (y:=(((0+(qx0*qx0))+(qx1*qx1))+(qx2*qx2))) (rvk (by kernel_rfl)) (by first | rfl | (rw [IntKind.wrap_i64];omega))) ?_
  refine sv 4 (.int .i64 ((((0+(qx0*qx0))+(qx1*qx1))+(qx2*qx2)))) ?_
  refine za0 ?_
  refine ax _ _ ?_
  try clear ax bm
  refine rg [0,1] ?_
  refine sv 34 (.int .i64 3) ?_
  refine sv 26 (.int .i64 3) ?_
  refine za0 ?_
  show Code.rounds _ _ _ _ _ _
  show Code.wp _ _ _ _ _
  refine wp_seq_k (fun a7 aF=>?_)
  refine rg [0] ?_
  refine sv 27 (.bool true) ?_
  refine za0 ?_
  refine aF _ _ ?_
  try clear aF a7
  refine wp_seq_k (fun a2 aG=>?_)
  refine wp_cond_true rfl ?_
  refine wp_skip ?_
  refine aG _ _ ?_
  try clear aG a2
  refine wp_seq_k (fun a9 az=>?_)
  refine wp_block ?_
  refine wp_seq_k (fun bk aH=>?_)
  refine rg [0,1] ?_
  refine sv 28 (.int .i64 (qx3)) ?_
  refine sv 6 (.int .i64 (qx3)) ?_
  refine za0 ?_
  refine aH _ _ ?_
  try clear aH bk
  refine rg [0,1,2,3,4,5] ?_
  refine sv 29 (.int .i64 ((((0+(qx0*qx0))+(qx1*qx1))+(qx2*qx2)))) ?_
  refine sv 30 (.int .i64 (qx3)) ?_
  refine sv 31 (.int .i64 (qx3)) ?_
  refine sw 32 (.int .i64 ((qx3*qx3))) rfl (RunV.int (x:=IntKind.i64.wrap ((qx3*qx3))) (y:=(qx3*qx3)) (rvk (by kernel_rfl)) (by first | rfl | (rw [IntKind.wrap_i64];omega))) ?_
  refine sw 33 (.int .i64 (((((0+(qx0*qx0))+(qx1*qx1))+(qx2*qx2))+(qx3*qx3)))) rfl (RunV.int (x:=IntKind.i64.wrap (((((0+(qx0*qx0))+(qx1*qx1))+(qx2*qx2))+(qx3*qx3)))) (y:=((((0+(qx0*qx0))+(qx1*qx1))+(qx2*qx2))+(qx3*qx3))) (rvk (by kernel_rfl)) (by first | rfl | (rw [IntKind.wrap_i64];omega))) ?_
  refine sv 4 (.int .i64 (((((0+(qx0*qx0))+(qx1*qx1))+(qx2*qx2))+(qx3*qx3)))) ?_
  refine za0 ?_
  refine az _ _ ?_
  try clear az a9
  refine rg [0,1] ?_
  refine sv 34 (.int .i64 4) ?_
  refine sv 26 (.int .i64 4) ?_
  refine za0 ?_
  show Code.rounds _ _ _ _ _ _
  show Code.wp _ _ _ _ _
  refine wp_seq_k (fun ba ar=>?_)
  refine rg [0] ?_
  refine sv 27 (.bool false) ?_
  refine za0 ?_
  refine ar _ _ ?_
  try clear ar ba
  refine wp_seq_k (fun bv bA=>?_)
  refine wp_cond_false rfl ?_
  refine wp_exit ?_
  simp only [Exit.then,Exit.inBlock,↓reduceIte]
  refine aB _ _ ?_
  try clear aB bo
  refine wp_seq_k (fun aP af=>?_)
  refine rg [0,1,2,3,4,5,6,7,8] ?_
  refine sv 35 (.int .i64 (((((0+(qx0*qx0))+(qx1*qx1))+(qx2*qx2))+(qx3*qx3)))) ?_
  refine sv 36 (.bool ((((((0+(qx0*qx0))+(qx1*qx1))+(qx2*qx2))+(qx3*qx3)) !=(3:Int)))) ?_
  rcases Bool.eq_false_or_eq_true ((((((0+(qx0*qx0))+(qx1*qx1))+(qx2*qx2))+(qx3*qx3)) !=(3:Int))) with hb37 | hb37
  ·refine sw 37 (.bool true) rfl (RunV.bool (x:=(((((0+(qx0*qx0))+(qx1*qx1))+(qx2*qx2))+(qx3*qx3)) !=(3:Int))) (rvk (by kernel_rfl)) hb37) ?_
   refine sw 38 (.agg #[(.int .i64 (qx0)),(.int .i64 (qx1)),(.int .i64 (qx2)),(.int .i64 (qx3))]) rfl (rl 22 0 [(.int .i64 (qx0)),(.int .i64 (qx1)),(.int .i64 (qx2)),(.int .i64 (qx3))] ac) ?_
   refine sv 39 (.agg #[(.string ⟨([48]:List UInt8).toArray⟩),(.string ⟨([48]:List UInt8).toArray⟩),(.string ⟨([48]:List UInt8).toArray⟩)]) ?_
   refine sv 40 (.agg #[(.int .i64 (qx0)),(.int .i64 (qx1)),(.int .i64 (qx2)),(.int .i64 (qx3)),(.string ⟨([48]:List UInt8).toArray⟩),(.string ⟨([48]:List UInt8).toArray⟩),(.string ⟨([48]:List UInt8).toArray⟩)]) ?_
   refine se ?_
   refine ec 41 (mcheck0 (q0:=qx0) (q1:=qx1) (q2:=qx2) (q3:=qx3) (by omega) (by omega) (by omega) (by omega) _ (hm.gr hB)) ?_
   rintro bD bG ⟨rfl,ah⟩
   refine ⟨_,rfl,?_⟩
   replace hB:=hB.trans ah
   simp only [p3,p4]
   refine sv 42 (.bool ((chk qx0 qx1 qx2 qx3 0==(0:Int)))) ?_
   refine sv 43 (.bool ((chk qx0 qx1 qx2 qx3 0==(0:Int)))) ?_
   refine za0 ?_
   refine af _ _ ?_
   try clear af aP
   refine wp_cond_split (t:=(chk qx0 qx1 qx2 qx3 0==(0:Int))) rfl (fun ad=>?_) (fun ad=>?_)
   ·refine rg [0,1,2,3,4] ?_
    refine sv 44 v ?_
    replace ac:=ac.gr ah
    refine sw 45 (.agg #[(.int .i64 (qx0)),(.int .i64 (qx1)),(.int .i64 (qx2)),(.int .i64 (qx3))]) rfl (rl 22 0 [(.int .i64 (qx0)),(.int .i64 (qx1)),(.int .i64 (qx2)),(.int .i64 (qx3))] ac) ?_
    refine se ?_
    refine yj5 22 1 #[(.int .i64 (qx0)),(.int .i64 (qx1)),(.int .i64 (qx2)),(.int .i64 (qx3))] (some 46) rfl (fun _=>by kernel_rfl) (fun a8 bL aA aZ aY=>?_)
    replace hv:=((hv.gr zm7 aj).st zm7 ab aa (ab.kts ae (by decide))).gr zm7 ah
    have ai:=hv.ne aY
    replace hB:=hB.trans aA
    simp only [zM5,p3,p4]
    refine se ?_
    replace hv:=hv.gr zm7 aA
    refine eff_app zm7 _ _ 97 22 w.heap.size (.agg #[.int .i64 0,.int .i64 0,.int .i64 0,.int .i64 0]) v (zJ8 nn) a8 [(.int .i64 (qx0)),(.int .i64 (qx1)),(.int .i64 (qx2)),(.int .i64 (qx3))] ((qx0,qx1,qx2,qx3):Int × Int × Int × Int) 4 1 (some 47) 32 rfl rfl rfl rfl hv aZ ⟨rfl,rfl,rfl,rfl,trivial⟩ rfl rfl w hB (Nat.le_refl _) (Below.size hB) (by have:=yy1 nn;simp;omega) (by decide) (by kernel_rfl) (by kernel_rfl) (by decide) (by decide) (fun aO bK ak a6 al=>?_)
    replace hB:=al
    simp only [zM5,p3,p4]
    refine sv 1 aO ?_
    refine za0 ?_
    refine k9 _ _ ?_
    try clear k9 K9
    refine rg [0,1] ?_
    refine sw 48 (.int .i64 (((nn:Int)+1))) rfl (RunV.int (x:=IntKind.i64.wrap (((nn:Int)+1))) (y:=((nn:Int)+1)) (rvk (by kernel_rfl)) (by first | rfl | (rw [IntKind.wrap_i64];omega))) ?_
    refine sv 7 (.int .i64 (((nn:Int)+1))) ?_
    refine za0 ?_
    refine k5 (81 - (nn+1)) ⟨List.toArray ?l42,[]⟩ _ (by omega) ?_
    exact ⟨aO,nn+1,(fun i=>List.getD ?l42 i undef),rfl,rfl,(by omega),(by rw [yy0 hqa (by unfold qOk qSq;rw [Bool.and_eq_true];exact ⟨hb37,ad⟩)];exact ak),hB⟩
   ·refine wp_skip ?_
    refine k9 _ _ ?_
    try clear k9 K9
    refine rg [0,1] ?_
    refine sw 48 (.int .i64 (((nn:Int)+1))) rfl (RunV.int (x:=IntKind.i64.wrap (((nn:Int)+1))) (y:=((nn:Int)+1)) (rvk (by kernel_rfl)) (by first | rfl | (rw [IntKind.wrap_i64];omega))) ?_
    refine sv 7 (.int .i64 (((nn:Int)+1))) ?_
    refine za0 ?_
    replace hv:=((hv.gr zm7 aj).st zm7 ab aa (ab.kts ae (by decide))).gr zm7 ah
    refine k5 (81 - (nn+1)) ⟨List.toArray ?l43,[]⟩ _ (by omega) ?_
    exact ⟨v,nn+1,(fun i=>List.getD ?l43 i undef),rfl,rfl,(by omega),(by rw [yk9 hqa (by unfold qOk qSq;rw [hb37,ad,Bool.and_false])];exact hv),hB⟩
  ·refine sw 37 (.bool false) rfl (RunV.bool (x:=(((((0+(qx0*qx0))+(qx1*qx1))+(qx2*qx2))+(qx3*qx3)) !=(3:Int))) (rvk (by kernel_rfl)) hb37) ?_
   refine ss 38 ?_
   refine ss 39 ?_
   refine ss 40 ?_
   refine ss 41 ?_
   refine ss 42 ?_
   refine sv 43 (.bool false) ?_
   refine za0 ?_
   refine af _ _ ?_
   try clear af aP
   refine wp_cond_false rfl ?_
   refine wp_skip ?_
   refine k9 _ _ ?_
   try clear k9 K9
   refine rg [0,1] ?_
   refine sw 48 (.int .i64 (((nn:Int)+1))) rfl (RunV.int (x:=IntKind.i64.wrap (((nn:Int)+1))) (y:=((nn:Int)+1)) (rvk (by kernel_rfl)) (by first | rfl | (rw [IntKind.wrap_i64];omega))) ?_
   refine sv 7 (.int .i64 (((nn:Int)+1))) ?_
   refine za0 ?_
   replace hv:=(hv.gr zm7 aj).st zm7 ab aa (ab.kts ae (by decide))
   refine k5 (81 - (nn+1)) ⟨List.toArray ?l44,[]⟩ _ (by omega) ?_
   exact ⟨v,nn+1,(fun i=>List.getD ?l44 i undef),rfl,rfl,(by omega),(by rw [yk9 hqa (by unfold qOk qSq;rw [hb37,Bool.false_and])];exact hv),hB⟩
 ·have hge:nn=81:=by have:=of_decide_eq_false ap;omega
  refine wp_exit ?_
  simp only [Exit.then,Exit.inBlock,↓reduceIte]
  refine k3 _ _ ?_
  try clear k3 K3
  refine wp_seq_k (fun aU aq=>?_)
  refine rg [0,1] ?_
  refine sv 49 v ?_
  refine sv 0 v ?_
  refine za0 ?_
  refine aq _ _ ?_
  try clear aq aU
  refine wp_ret ?_
  refine bodyPost_ret (v:=v) (zb0 rfl rfl) rfl ⟨?_,hB⟩
  subst hge
  exact ⟨_,rfl,(hv.sl)⟩

set_option maxRecDepth 100000 in
set_option maxHeartbeats 1000000 in
theorem yn7 (w:World):
    Calls Tryz.prog 20 #[] w fun e w'=>e=.returned (.agg #[.string ⟨([48]:List UInt8).toArray⟩,.string ⟨([48]:List UInt8).toArray⟩,.string ⟨([48]:List UInt8).toArray⟩])∧Gr w w':=by
 go_enter Tryz.func20,Tryz.ntmps20
 have hB:=Gr.refl w
 refine wp_seq_k (fun K1 k1=>?_)
 refine rg [0] ?_
 refine se ?_
 refine ea 25 #[(.string ⟨([]:List UInt8).toArray⟩),(.string ⟨([]:List UInt8).toArray⟩),(.string ⟨([]:List UInt8).toArray⟩)] 0 hB fun b2 w2 g2 L2 o2 q2 hB=>?_
 simp only [p3]
 refine za0 ?_
 refine k1 _ _ ?_
 try clear k1 K1
 refine wp_seq_k (fun K3 k3=>?_)
 refine rg [0,1] ?_
 refine sv 1 (.agg #[(.string ⟨([48]:List UInt8).toArray⟩),(.string ⟨([48]:List UInt8).toArray⟩),(.string ⟨([48]:List UInt8).toArray⟩)]) ?_
 refine se ?_
 refine es 25 0 (.agg #[(.string ⟨([48]:List UInt8).toArray⟩),(.string ⟨([48]:List UInt8).toArray⟩),(.string ⟨([48]:List UInt8).toArray⟩)]) [(.string ⟨([48]:List UInt8).toArray⟩),(.string ⟨([48]:List UInt8).toArray⟩),(.string ⟨([48]:List UInt8).toArray⟩)] #[(.string ⟨([48]:List UInt8).toArray⟩),(.string ⟨([48]:List UInt8).toArray⟩),(.string ⟨([48]:List UInt8).toArray⟩)] L2 hB q2 ⟨rfl,rfl,rfl,trivial⟩ fun w4 ab aa L2 hB=>?_
 refine za0 ?_
 refine k3 _ _ ?_
 try clear k3 K3
 refine wp_ret ?_
 refine bodyPost_ret (v:=(.agg #[(.string ⟨([48]:List UInt8).toArray⟩),(.string ⟨([48]:List UInt8).toArray⟩),(.string ⟨([48]:List UInt8).toArray⟩)])) (zb3 _ _ _ rfl rfl L2 (by kernel_rfl)) rfl ⟨?_,hB⟩
 exact rfl

theorem lawK70:sEq [(za1 ((0:Rat))),(za1 ((1:Rat))),(za1 ((0:Rat)))] [([48]:List UInt8),([49]:List UInt8),([48]:List UInt8)]=true:=yv2 (zr6 (by kernel_rfl) (zi5 0 (by kernel_rfl) (by decide))) (zr6 (by kernel_rfl) (zi5 1 (by kernel_rfl) (by decide))) (zr6 (by kernel_rfl) (zi5 0 (by kernel_rfl) (by decide)))
theorem lawK71:sEq [(za1 ((0:Rat))),(za1 ((3/5:Rat))),(za1 ((-4/5:Rat)))] [([48]:List UInt8),([51,47,53]:List UInt8),([45,52,47,53]:List UInt8)]=true:=yv2 (zr6 (by kernel_rfl) (zi5 0 (by kernel_rfl) (by decide))) (zX5 (by kernel_rfl) (zi5 3 (by kernel_rfl) (by decide)) (zi5 5 (by kernel_rfl) (by decide)) rfl) (zX5 (by kernel_rfl) (yv8 4 (by kernel_rfl) (by decide) (by decide)) (zi5 5 (by kernel_rfl) (by decide)) rfl)
theorem lawK72:((((quarters).length:Int)==(24:Int)))=true:=by decide+kernel
theorem lawK73:((((quarters).getD 1 (0,0,0,0)).1==0&&((quarters).getD 1 (0,0,0,0)).2.1==0&&((quarters).getD 1 (0,0,0,0)).2.2.1==1&&((quarters).getD 1 (0,0,0,0)).2.2.2==(-1)))=true:=by decide+kernel
set_option maxRecDepth 100000 in
set_option maxHeartbeats 8000000 in
theorem known7 (w:World) (ht:Tab w) (hm:Mx w):
    Calls Tryz.prog 11 #[] w fun e w'=>e=.returned (.bool true)∧Gr w w':=by
 go_enter Tryz.func11,Tryz.ntmps11
 have hB:=Gr.refl w
 refine wp_seq_k (fun K1 k1=>?_)
 refine rg [0] ?_
 refine sv 0 (.bool false) ?_
 refine za0 ?_
 refine k1 _ _ ?_
 try clear k1 K1
 refine wp_seq_k (fun K2 k2=>?_)
 refine rg [0,1,2,3,4,5,6,7,8,9] ?_
 refine sv 11 (.agg #[.int .i64 1,.int .i64 0,.int .i64 0,.int .i64 1]) ?_
 refine se ?_
 refine ec 12 (yn7 _) ?_
 rintro e3 w3 ⟨rfl,g3⟩
 refine ⟨_,rfl,?_⟩
 replace hB:=hB.trans g3
 simp only [p3,p4]
 refine sv 13 (.agg #[.int .i64 1,.int .i64 0,.int .i64 0,.int .i64 1,(.string ⟨([48]:List UInt8).toArray⟩),(.string ⟨([48]:List UInt8).toArray⟩),(.string ⟨([48]:List UInt8).toArray⟩)]) ?_
 refine se ?_
 refine ec 14 (mof_k1 _ (hm.gr hB) (ht.gr hB)) ?_
 rintro e4 w4 ⟨⟨bJ,bG,bP,bF,bO,bK,bN,bH,bM,bL,aT,ab,ah,ak,ay,ad,aR,aW,a0,aA,aQ,aO,ax,aP,av,aI,aY,aB,aU,ac,au,aV,aK,aS,az,a1,aG,ap,a2,ar,aD,aX,ai,aC,aj,aq,al,a4,rfl,bV,b6,bZ,bW,bR,bT,bS,b7,b8,bU,a7,a8⟩,g4⟩
 refine ⟨_,rfl,?_⟩
 replace hB:=hB.trans g4
 simp only [p3,p4]
 refine sv 10 (.tuple #[(.agg #[bJ,bG,bP,bF,bO,bK,bN,bH,bM,bL,aT,ab,ah,ak,ay,ad,aR,aW,a0,aA,aQ,aO,ax,aP,av,aI,aY,aB,aU,ac,au,aV,aK,aS,az,a1,aG,ap,a2,ar,aD,aX,ai,aC,aj,aq,al,a4]),.int .i64 0]) ?_
 refine sv 15 (.agg #[bJ,bG,bP,bF,bO,bK,bN,bH,bM,bL,aT,ab,ah,ak,ay,ad,aR,aW,a0,aA,aQ,aO,ax,aP,av,aI,aY,aB,aU,ac,au,aV,aK,aS,az,a1,aG,ap,a2,ar,aD,aX,ai,aC,aj,aq,al,a4]) ?_
 refine sv 16 (.int .i64 0) ?_
 refine se ?_
 refine ea 41 #[.bool false,.slice none 0 0,.bool false,.slice none 0 0,.bool false,.slice none 0 0,.bool false,.slice none 0 0,.bool false,.slice none 0 0,.bool false,.slice none 0 0,.bool false,.slice none 0 0,.bool false,.slice none 0 0,.bool false,.slice none 0 0,.bool false,.slice none 0 0,.bool false,.slice none 0 0,.bool false,.slice none 0 0,.bool false,.slice none 0 0,.bool false,.slice none 0 0,.bool false,.slice none 0 0,.bool false,.slice none 0 0,.bool false,.slice none 0 0,.bool false,.slice none 0 0,.bool false,.slice none 0 0,.bool false,.slice none 0 0,.bool false,.slice none 0 0,.bool false,.slice none 0 0,.bool false,.slice none 0 0,.bool false,.slice none 0 0] 1 hB fun b5 w5 g5 L5 o5 q5 hB=>?_
 simp only [p3,p4]
 refine se ?_
 have em:=L5
 refine es 41 0 (.agg #[bJ,bG,bP,bF,bO,bK,bN,bH,bM,bL,aT,ab,ah,ak,ay,ad,aR,aW,a0,aA,aQ,aO,ax,aP,av,aI,aY,aB,aU,ac,au,aV,aK,aS,az,a1,aG,ap,a2,ar,aD,aX,ai,aC,aj,aq,al,a4]) [bJ,bG,bP,bF,bO,bK,bN,bH,bM,bL,aT,ab,ah,ak,ay,ad,aR,aW,a0,aA,aQ,aO,ax,aP,av,aI,aY,aB,aU,ac,au,aV,aK,aS,az,a1,aG,ap,a2,ar,aD,aX,ai,aC,aj,aq,al,a4] #[bJ,bG,bP,bF,bO,bK,bN,bH,bM,bL,aT,ab,ah,ak,ay,ad,aR,aW,a0,aA,aQ,aO,ax,aP,av,aI,aY,aB,aU,ac,au,aV,aK,aS,az,a1,aG,ap,a2,ar,aD,aX,ai,aC,aj,aq,al,a4] L5 hB q5 ⟨bV.one0,bV.one1,bV.one2,bV.one3,b6.one0,b6.one1,b6.one2,b6.one3,bZ.one0,bZ.one1,bZ.one2,bZ.one3,bW.one0,bW.one1,bW.one2,bW.one3,bR.one0,bR.one1,bR.one2,bR.one3,bT.one0,bT.one1,bT.one2,bT.one3,bS.one0,bS.one1,bS.one2,bS.one3,b7.one0,b7.one1,b7.one2,b7.one3,b8.one0,b8.one1,b8.one2,b8.one3,bU.one0,bU.one1,bU.one2,bU.one3,a7.one0,a7.one1,a7.one2,a7.one3,a8.one0,a8.one1,a8.one2,a8.one3,trivial⟩ fun w6 eH dZ L5 hB=>?_
 refine sv 2 (.int .i64 0) ?_
 refine za0 ?_
 refine k2 _ _ ?_
 try clear k2 K2
 refine wp_seq_k (fun K7 k7=>?_)
 refine rg [0,1,2,3,4,5,6,7,8,9] ?_
 refine sv 18 (.agg #[.int .i64 2,.int .i64 1,.int .i64 0,.int .i64 0]) ?_
 refine se ?_
 refine ec 19 (yn7 _) ?_
 rintro e8 w8 ⟨rfl,g8⟩
 refine ⟨_,rfl,?_⟩
 replace hB:=hB.trans g8
 simp only [p3,p4]
 refine sv 20 (.agg #[.int .i64 2,.int .i64 1,.int .i64 0,.int .i64 0,(.string ⟨([48]:List UInt8).toArray⟩),(.string ⟨([48]:List UInt8).toArray⟩),(.string ⟨([48]:List UInt8).toArray⟩)]) ?_
 refine se ?_
 refine ec 21 (mof_k2 _ (hm.gr hB) (ht.gr hB)) ?_
 rintro e9 w9 ⟨⟨ce,cg,cl,cc,cm,cd,cj,cn,ck,ch,bd,bB,aH,aL,ae,af,aF,aJ,aZ,a3,aw,aE,aM,aN,ba,bp,bz,bt,bk,bu,bC,bx,bh,bb,bn,bE,bg,bo,bm,bA,bi,bv,bD,bq,bw,bf,bc,bj,rfl,cx,ct,cB,bQ,bY,b4,cC,cq,cy,co,ca,b9⟩,g9⟩
 refine ⟨_,rfl,?_⟩
 replace hB:=hB.trans g9
 simp only [p3,p4]
 refine sv 17 (.tuple #[(.agg #[ce,cg,cl,cc,cm,cd,cj,cn,ck,ch,bd,bB,aH,aL,ae,af,aF,aJ,aZ,a3,aw,aE,aM,aN,ba,bp,bz,bt,bk,bu,bC,bx,bh,bb,bn,bE,bg,bo,bm,bA,bi,bv,bD,bq,bw,bf,bc,bj]),.int .i64 0]) ?_
 refine sv 22 (.agg #[ce,cg,cl,cc,cm,cd,cj,cn,ck,ch,bd,bB,aH,aL,ae,af,aF,aJ,aZ,a3,aw,aE,aM,aN,ba,bp,bz,bt,bk,bu,bC,bx,bh,bb,bn,bE,bg,bo,bm,bA,bi,bv,bD,bq,bw,bf,bc,bj]) ?_
 refine sv 23 (.int .i64 0) ?_
 refine se ?_
 refine ea 41 #[.bool false,.slice none 0 0,.bool false,.slice none 0 0,.bool false,.slice none 0 0,.bool false,.slice none 0 0,.bool false,.slice none 0 0,.bool false,.slice none 0 0,.bool false,.slice none 0 0,.bool false,.slice none 0 0,.bool false,.slice none 0 0,.bool false,.slice none 0 0,.bool false,.slice none 0 0,.bool false,.slice none 0 0,.bool false,.slice none 0 0,.bool false,.slice none 0 0,.bool false,.slice none 0 0,.bool false,.slice none 0 0,.bool false,.slice none 0 0,.bool false,.slice none 0 0,.bool false,.slice none 0 0,.bool false,.slice none 0 0,.bool false,.slice none 0 0,.bool false,.slice none 0 0,.bool false,.slice none 0 0,.bool false,.slice none 0 0] 3 hB fun dm eE dn a6 d5 d1 hB=>?_
 replace L5:=L5.gr (g8.trans g9)
 have cN:=L5.ne d5
 simp only [p3,p4]
 refine se ?_
 have dY:=a6
 refine es 41 0 (.agg #[ce,cg,cl,cc,cm,cd,cj,cn,ck,ch,bd,bB,aH,aL,ae,af,aF,aJ,aZ,a3,aw,aE,aM,aN,ba,bp,bz,bt,bk,bu,bC,bx,bh,bb,bn,bE,bg,bo,bm,bA,bi,bv,bD,bq,bw,bf,bc,bj]) [ce,cg,cl,cc,cm,cd,cj,cn,ck,ch,bd,bB,aH,aL,ae,af,aF,aJ,aZ,a3,aw,aE,aM,aN,ba,bp,bz,bt,bk,bu,bC,bx,bh,bb,bn,bE,bg,bo,bm,bA,bi,bv,bD,bq,bw,bf,bc,bj] #[ce,cg,cl,cc,cm,cd,cj,cn,ck,ch,bd,bB,aH,aL,ae,af,aF,aJ,aZ,a3,aw,aE,aM,aN,ba,bp,bz,bt,bk,bu,bC,bx,bh,bb,bn,bE,bg,bo,bm,bA,bi,bv,bD,bq,bw,bf,bc,bj] a6 hB d1 ⟨cx.one0,cx.one1,cx.one2,cx.one3,ct.one0,ct.one1,ct.one2,ct.one3,cB.one0,cB.one1,cB.one2,cB.one3,bQ.one0,bQ.one1,bQ.one2,bQ.one3,bY.one0,bY.one1,bY.one2,bY.one3,b4.one0,b4.one1,b4.one2,b4.one3,cC.one0,cC.one1,cC.one2,cC.one3,cq.one0,cq.one1,cq.one2,cq.one3,cy.one0,cy.one1,cy.one2,cy.one3,co.one0,co.one1,co.one2,co.one3,ca.one0,ca.one1,ca.one2,ca.one3,b9.one0,b9.one1,b9.one2,b9.one3,trivial⟩ fun eG dt c4 a6 hB=>?_
 refine sv 4 (.int .i64 0) ?_
 refine za0 ?_
 refine k7 _ _ ?_
 try clear k7 K7
 refine wp_seq_k (fun d0 dI=>?_)
 refine rg [0,1,2,3,4,5,6,7,8,9,10,11,12] ?_
 refine sv 25 (.agg #[.int .i64 1,.int .i64 0,.int .i64 0,.int .i64 1]) ?_
 refine se ?_
 refine ec 26 (yn7 _) ?_
 rintro e13 eC ⟨rfl,c5⟩
 refine ⟨_,rfl,?_⟩
 replace hB:=hB.trans c5
 simp only [p3,p4]
 refine sv 27 (.agg #[.int .i64 1,.int .i64 0,.int .i64 0,.int .i64 1,(.string ⟨([48]:List UInt8).toArray⟩),(.string ⟨([48]:List UInt8).toArray⟩),(.string ⟨([48]:List UInt8).toArray⟩)]) ?_
 refine sv 28 (.agg #[.int .i64 1,.int .i64 0,.int .i64 0,.int .i64 1]) ?_
 refine se ?_
 refine ec 29 (yn7 _) ?_
 rintro ew ek ⟨rfl,cV⟩
 refine ⟨_,rfl,?_⟩
 replace hB:=hB.trans cV
 simp only [p3,p4]
 refine sv 30 (.agg #[.int .i64 1,.int .i64 0,.int .i64 0,.int .i64 1,(.string ⟨([48]:List UInt8).toArray⟩),(.string ⟨([48]:List UInt8).toArray⟩),(.string ⟨([48]:List UInt8).toArray⟩)]) ?_
 refine se ?_
 refine ec 31 (join_k1 _ (hm.gr hB) (ht.gr hB)) ?_
 rintro ee ez ⟨rfl,c8⟩
 refine ⟨_,rfl,?_⟩
 replace hB:=hB.trans c8
 simp only [p3,p4]
 refine sv 24 (.tuple #[(.agg #[.int .i64 0,.int .i64 0,.int .i64 0,.int .i64 1,(.string ⟨([48]:List UInt8).toArray⟩),(.string ⟨([48]:List UInt8).toArray⟩),(.string ⟨([48]:List UInt8).toArray⟩)]),.int .i64 0]) ?_
 refine sv 32 (.agg #[.int .i64 0,.int .i64 0,.int .i64 0,.int .i64 1,(.string ⟨([48]:List UInt8).toArray⟩),(.string ⟨([48]:List UInt8).toArray⟩),(.string ⟨([48]:List UInt8).toArray⟩)]) ?_
 refine sv 33 (.int .i64 0) ?_
 refine se ?_
 refine ea 27 #[.int .i64 0,.int .i64 0,.int .i64 0,.int .i64 0,(.string ⟨([]:List UInt8).toArray⟩),(.string ⟨([]:List UInt8).toArray⟩),(.string ⟨([]:List UInt8).toArray⟩)] 5 hB fun dC ei dc a9 dv d2 hB=>?_
 replace L5:=(dt.lc (L5.gr dn) cN).gr (c5.trans (cV.trans c8))
 have cO:=L5.ne dv
 replace a6:=a6.gr (c5.trans (cV.trans c8))
 have cu:=a6.ne dv
 simp only [p3,p4]
 refine se ?_
 have dV:=a9
 refine es 27 0 (.agg #[.int .i64 0,.int .i64 0,.int .i64 0,.int .i64 1,(.string ⟨([48]:List UInt8).toArray⟩),(.string ⟨([48]:List UInt8).toArray⟩),(.string ⟨([48]:List UInt8).toArray⟩)]) [.int .i64 0,.int .i64 0,.int .i64 0,.int .i64 1,(.string ⟨([48]:List UInt8).toArray⟩),(.string ⟨([48]:List UInt8).toArray⟩),(.string ⟨([48]:List UInt8).toArray⟩)] #[.int .i64 0,.int .i64 0,.int .i64 0,.int .i64 1,(.string ⟨([48]:List UInt8).toArray⟩),(.string ⟨([48]:List UInt8).toArray⟩),(.string ⟨([48]:List UInt8).toArray⟩)] a9 hB d2 ⟨rfl,rfl,rfl,rfl,rfl,rfl,rfl,trivial⟩ fun ej db cX a9 hB=>?_
 refine sv 6 (.int .i64 0) ?_
 refine za0 ?_
 refine dI _ _ ?_
 try clear dI d0
 refine wp_seq_k (fun dW dK=>?_)
 refine rg [0,1,2,3,4,5,6,7,8,9,10,11,12] ?_
 refine sv 35 (.agg #[.int .i64 12,.int .i64 1,.int .i64 0,.int .i64 0]) ?_
 refine se ?_
 refine ec 36 (yn7 _) ?_
 rintro eh en ⟨rfl,cP⟩
 refine ⟨_,rfl,?_⟩
 replace hB:=hB.trans cP
 simp only [p3,p4]
 refine sv 37 (.agg #[.int .i64 12,.int .i64 1,.int .i64 0,.int .i64 0,(.string ⟨([48]:List UInt8).toArray⟩),(.string ⟨([48]:List UInt8).toArray⟩),(.string ⟨([48]:List UInt8).toArray⟩)]) ?_
 refine sv 38 (.agg #[.int .i64 12,.int .i64 1,.int .i64 0,.int .i64 0]) ?_
 refine se ?_
 refine ec 39 (yn7 _) ?_
 rintro eI d9 ⟨rfl,cU⟩
 refine ⟨_,rfl,?_⟩
 replace hB:=hB.trans cU
 simp only [p3,p4]
 refine sv 40 (.agg #[.int .i64 12,.int .i64 1,.int .i64 0,.int .i64 0,(.string ⟨([48]:List UInt8).toArray⟩),(.string ⟨([48]:List UInt8).toArray⟩),(.string ⟨([48]:List UInt8).toArray⟩)]) ?_
 refine se ?_
 refine ec 41 (join_k2 _ (hm.gr hB) (ht.gr hB)) ?_
 rintro e21 ef ⟨rfl,cT⟩
 refine ⟨_,rfl,?_⟩
 replace hB:=hB.trans cT
 simp only [p3,p4]
 refine sv 34 (.tuple #[(.agg #[.int .i64 0,.int .i64 0,.int .i64 0,.int .i64 0,(.string ⟨([]:List UInt8).toArray⟩),(.string ⟨([]:List UInt8).toArray⟩),(.string ⟨([]:List UInt8).toArray⟩)]),.int .i64 2]) ?_
 refine sv 42 (.agg #[.int .i64 0,.int .i64 0,.int .i64 0,.int .i64 0,(.string ⟨([]:List UInt8).toArray⟩),(.string ⟨([]:List UInt8).toArray⟩),(.string ⟨([]:List UInt8).toArray⟩)]) ?_
 refine sv 43 (.int .i64 2) ?_
 refine se ?_
 refine ea 27 #[.int .i64 0,.int .i64 0,.int .i64 0,.int .i64 0,(.string ⟨([]:List UInt8).toArray⟩),(.string ⟨([]:List UInt8).toArray⟩),(.string ⟨([]:List UInt8).toArray⟩)] 7 hB fun ed el cY dd de d7 hB=>?_
 replace L5:=(db.lc (L5.gr dc) cO).gr (cP.trans (cU.trans cT))
 have cJ:=L5.ne de
 replace a6:=(db.lc (a6.gr dc) cu).gr (cP.trans (cU.trans cT))
 have cA:=a6.ne de
 replace a9:=a9.gr (cP.trans (cU.trans cT))
 have cD:=a9.ne de
 simp only [p3,p4]
 refine se ?_
 have d6:=dd
 refine es 27 0 (.agg #[.int .i64 0,.int .i64 0,.int .i64 0,.int .i64 0,(.string ⟨([]:List UInt8).toArray⟩),(.string ⟨([]:List UInt8).toArray⟩),(.string ⟨([]:List UInt8).toArray⟩)]) [.int .i64 0,.int .i64 0,.int .i64 0,.int .i64 0,(.string ⟨([]:List UInt8).toArray⟩),(.string ⟨([]:List UInt8).toArray⟩),(.string ⟨([]:List UInt8).toArray⟩)] #[.int .i64 0,.int .i64 0,.int .i64 0,.int .i64 0,(.string ⟨([]:List UInt8).toArray⟩),(.string ⟨([]:List UInt8).toArray⟩),(.string ⟨([]:List UInt8).toArray⟩)] dd hB d7 ⟨rfl,rfl,rfl,rfl,rfl,rfl,rfl,trivial⟩ fun eu cM c6 dd hB=>?_
 refine sv 8 (.int .i64 2) ?_
 refine za0 ?_
 refine dK _ _ ?_
 try clear dK dW
 refine wp_seq_k (fun d8 dF=>?_)
 refine rg [0,1] ?_
 refine se ?_
 refine ec 44 (ys7 _ (hm.gr hB)) ?_
 rintro eB d4 ⟨⟨cZ,rfl,cK⟩,cR⟩
 refine ⟨_,rfl,?_⟩
 replace hB:=hB.trans cR
 simp only [p3,p4]
 refine sv 9 cZ ?_
 refine za0 ?_
 refine dF _ _ ?_
 try clear dF d8
 refine wp_seq_k (fun dX dG=>?_)
 obtain ⟨_,_,rfl,aa⟩:=cK.get (by decide) (getD_some (d:=((0,0,0,0):Int × Int × Int × Int)) (i:=1) (xs:=quarters) (by rw [zE2];omega))
 have bX:=Gr.drew d4
 replace hB:=hB.trans bX
 replace L5:=(cM.lc (L5.gr cY) cJ).gr (cR.trans bX)
 replace a6:=(cM.lc (a6.gr cY) cA).gr (cR.trans bX)
 replace a9:=(cM.lc (a9.gr cY) cD).gr (cR.trans bX)
 replace aa:=aa.gr bX
 refine za3 (fun w'=>Lc w' b5 #[bJ,bG,bP,bF,bO,bK,bN,bH,bM,bL,aT,ab,ah,ak,ay,ad,aR,aW,a0,aA,aQ,aO,ax,aP,av,aI,aY,aB,aU,ac,au,aV,aK,aS,az,a1,aG,ap,a2,ar,aD,aX,ai,aC,aj,aq,al,a4] 41∧Lc w' dm #[ce,cg,cl,cc,cm,cd,cj,cn,ck,ch,bd,bB,aH,aL,ae,af,aF,aJ,aZ,a3,aw,aE,aM,aN,ba,bp,bz,bt,bk,bu,bC,bx,bh,bb,bn,bE,bg,bo,bm,bA,bi,bv,bD,bq,bw,bf,bc,bj] 41∧Lc w' dC #[.int .i64 0,.int .i64 0,.int .i64 0,.int .i64 1,(.string ⟨([48]:List UInt8).toArray⟩),(.string ⟨([48]:List UInt8).toArray⟩),(.string ⟨([48]:List UInt8).toArray⟩)] 27∧AtV w' cZ (1*4) [(.int .i64 (((quarters).getD 1 (0,0,0,0)).1)),(.int .i64 (((quarters).getD 1 (0,0,0,0)).2.1)),(.int .i64 (((quarters).getD 1 (0,0,0,0)).2.2.1)),(.int .i64 (((quarters).getD 1 (0,0,0,0)).2.2.2))]) [(true,0),(true,1),(true,2),(true,3),(true,4),(true,5),(true,6),(true,7),(true,8),(true,9),(true,10),(true,11),(true,12),(true,13),(true,14),(true,15),(true,16),(true,20),(false,17),(false,18),(false,19),(true,21),(true,22),(true,23),(true,24),(true,25),(true,26),(true,28),(false,27),(true,29),(true,30),(true,31),(true,32),(true,33),(true,34),(true,35),(true,36),(true,37),(true,38),(true,39),(true,40),(true,41),(true,42),(true,43),(true,44),(true,45),(true,46),(true,47),(true,48),(true,49)] (by kernel_rfl) (by kernel_rfl) (by kernel_rfl) (by decide) (fun _ _ _ _ _ h=>h) ⟨L5,a6,a9,aa⟩ ?_
 refine ov 45 (.int .i64 0) ?_
 refine ov 46 (.bool true) ?_
 refine ov 47 (.bool true) ?_
 refine ov 48 (.int .i64 0) ?_
 refine ov 49 (.bool true) ?_
 refine ov 50 (.bool true) ?_
 refine ov 51 (.bool true) ?_
 refine ov 52 (.int .i64 0) ?_
 refine ov 53 (.bool true) ?_
 refine ov 54 (.bool true) ?_
 refine ov 55 (.bool true) ?_
 refine ov 56 (.int .i64 2) ?_
 refine ov 57 (.bool true) ?_
 refine ov 58 (.bool true) ?_
 refine ov 59 (.bool true) ?_
 refine ow 60 (.agg #[bJ,bG,bP,bF,bO,bK,bN,bH,bM,bL,aT,ab,ah,ak,ay,ad,aR,aW,a0,aA,aQ,aO,ax,aP,av,aI,aY,aB,aU,ac,au,aV,aK,aS,az,a1,aG,ap,a2,ar,aD,aX,ai,aC,aj,aq,al,a4]) rfl (fun w' hS=>(rl 41 0 [bJ,bG,bP,bF,bO,bK,bN,bH,bM,bL,aT,ab,ah,ak,ay,ad,aR,aW,a0,aA,aQ,aO,ax,aP,av,aI,aY,aB,aU,ac,au,aV,aK,aS,az,a1,aG,ap,a2,ar,aD,aX,ai,aC,aj,aq,al,a4] hS.1)) ?_
 refine ov 61 (.agg #[.int .i64 1,.int .i64 0,.int .i64 0]) ?_
 refine ov 65 (.agg #[(.string ⟨([48]:List UInt8).toArray⟩),(.string ⟨([49]:List UInt8).toArray⟩),(.string ⟨([48]:List UInt8).toArray⟩)]) ?_
 refine oe ?_
 refine ec 62 (vof_v (1) (0) (0) (by omega) (by omega) (by omega) _) ?_
 rintro eD et ⟨⟨dH,dU,dO,dD,dR,dJ,dP,dB,dS,dQ,df,dq,rfl,c9,cW,c7⟩,cL⟩
 refine ⟨_,rfl,?_⟩
 replace hB:=hB.trans cL
 rw [show ((((1:Int):Rat)):Rat)=(1:Rat) from by kernel_rfl] at c9
 rw [show ((((0:Int):Rat)):Rat)=(0:Rat) from by kernel_rfl] at cW
 rw [show ((((0:Int):Rat)):Rat)=(0:Rat) from by kernel_rfl] at c7
 replace L5:=L5.gr cL
 replace a6:=a6.gr cL
 replace a9:=a9.gr cL
 replace aa:=aa.gr cL
 refine ⟨⟨L5,a6,a9,aa⟩,?_⟩
 simp only [p3,p4]
 refine oe ?_
 have a5:=g5.kp.trans (dZ.trans (g8.kp.trans (g9.kp.trans (dn.kp.trans (c4.trans (c5.kp.trans (cV.kp.trans (c8.kp.trans (dc.kp.trans (cX.trans (cP.kp.trans (cU.kp.trans (cT.kp.trans (cY.kp.trans (c6.trans (cR.kp.trans (bX.kp.trans cL.kp)))))))))))))))))
 replace bV:=bV.kp a5
 replace b6:=b6.kp a5
 replace bZ:=bZ.kp a5
 replace bW:=bW.kp a5
 replace bR:=bR.kp a5
 replace bT:=bT.kp a5
 replace bS:=bS.kp a5
 replace b7:=b7.kp a5
 replace b8:=b8.kp a5
 replace bU:=bU.kp a5
 replace a7:=a7.kp a5
 replace a8:=a8.kp a5
 refine ec 63 (mapply64 bV b6 bZ bW bR bT bS b7 b8 bU a7 a8 c9 cW c7 (ht.gr hB) (hm.gr hB)) ?_
 rintro eF eo ⟨⟨dA,du,dM,dT,dN,dE,dy,dx,dw,dL,dl,dk,rfl,cE,cG,cF⟩,cS⟩
 refine ⟨_,rfl,?_⟩
 replace hB:=hB.trans cS
 rw [show (((0+(0:Rat)*(1:Rat)+(-1:Rat)*(0:Rat)+(0:Rat)*(0:Rat))+(0:Rat)):Rat)=(0:Rat) from by kernel_rfl] at cE
 rw [show (((0+(1:Rat)*(1:Rat)+(0:Rat)*(0:Rat)+(0:Rat)*(0:Rat))+(0:Rat)):Rat)=(1:Rat) from by kernel_rfl] at cG
 rw [show (((0+(0:Rat)*(1:Rat)+(0:Rat)*(0:Rat)+(1:Rat)*(0:Rat))+(0:Rat)):Rat)=(0:Rat) from by kernel_rfl] at cF
 replace L5:=L5.gr cS
 replace a6:=a6.gr cS
 replace a9:=a9.gr cS
 replace aa:=aa.gr cS
 refine ⟨⟨L5,a6,a9,aa⟩,?_⟩
 simp only [p3,p4]
 refine oe ?_
 refine ec 64 (yi7 cE cG cF (by omega) (ht.gr hB)) ?_
 rintro eA ex ⟨rfl,cQ⟩
 refine ⟨_,rfl,?_⟩
 replace hB:=hB.trans cQ
 replace L5:=L5.gr cQ
 replace a6:=a6.gr cQ
 replace a9:=a9.gr cQ
 replace aa:=aa.gr cQ
 refine ⟨⟨L5,a6,a9,aa⟩,?_⟩
 simp only [p3,p4]
 have dp:(sEq [(za1 ((0:Rat))),(za1 ((1:Rat))),(za1 ((0:Rat)))] [([48]:List UInt8),([49]:List UInt8),([48]:List UInt8)])=true:=(lawK70)
 refine ow 66 (.bool true) rfl (fun w' hS=>(RunV.bool (x:=sEq [(za1 ((0:Rat))),(za1 ((1:Rat))),(za1 ((0:Rat)))] [([48]:List UInt8),([49]:List UInt8),([48]:List UInt8)]) (yr1 25 25 23 _ _ [(za1 ((0:Rat))),(za1 ((1:Rat))),(za1 ((0:Rat)))] [([48]:List UInt8),([49]:List UInt8),([48]:List UInt8)] rfl rfl rfl (by kernel_rfl) (by kernel_rfl) (by kernel_rfl)) dp)) ?_
 refine ov 67 (.bool true) ?_
 refine ov 68 (.bool true) ?_
 refine ov 69 (.pointer (some ⟨dm,0,none⟩)) ?_
 refine ov 70 (.pointer (some ⟨dm,12,none⟩)) ?_
 refine ow 71 (.agg #[aH,aL,ae,af,aF,aJ,aZ,a3,aw,aE,aM,aN]) rfl (fun w' hS=>(rl 38 12 [aH,aL,ae,af,aF,aJ,aZ,a3,aw,aE,aM,aN] hS.2.1)) ?_
 refine ov 73 (.agg #[(.string ⟨([48]:List UInt8).toArray⟩),(.string ⟨([51,47,53]:List UInt8).toArray⟩),(.string ⟨([45,52,47,53]:List UInt8).toArray⟩)]) ?_
 refine oe ?_
 have cH:=dn.kp.trans (c4.trans (c5.kp.trans (cV.kp.trans (c8.kp.trans (dc.kp.trans (cX.trans (cP.kp.trans (cU.kp.trans (cT.kp.trans (cY.kp.trans (c6.trans (cR.kp.trans (bX.kp.trans (cL.kp.trans (cS.kp.trans cQ.kp)))))))))))))))
 replace bQ:=bQ.kp cH
 replace bY:=bY.kp cH
 replace b4:=b4.kp cH
 refine ec 72 (yi7 bQ bY b4 (by omega) (ht.gr hB)) ?_
 rintro ep ey ⟨rfl,da⟩
 refine ⟨_,rfl,?_⟩
 replace hB:=hB.trans da
 replace L5:=L5.gr da
 replace a6:=a6.gr da
 replace a9:=a9.gr da
 replace aa:=aa.gr da
 refine ⟨⟨L5,a6,a9,aa⟩,?_⟩
 simp only [p3,p4]
 have dh:(sEq [(za1 ((0:Rat))),(za1 ((3/5:Rat))),(za1 ((-4/5:Rat)))] [([48]:List UInt8),([51,47,53]:List UInt8),([45,52,47,53]:List UInt8)])=true:=(lawK71)
 refine ow 74 (.bool true) rfl (fun w' hS=>(RunV.bool (x:=sEq [(za1 ((0:Rat))),(za1 ((3/5:Rat))),(za1 ((-4/5:Rat)))] [([48]:List UInt8),([51,47,53]:List UInt8),([45,52,47,53]:List UInt8)]) (yr1 25 25 23 _ _ [(za1 ((0:Rat))),(za1 ((3/5:Rat))),(za1 ((-4/5:Rat)))] [([48]:List UInt8),([51,47,53]:List UInt8),([45,52,47,53]:List UInt8)] rfl rfl rfl (by kernel_rfl) (by kernel_rfl) (by kernel_rfl)) dh)) ?_
 refine ov 75 (.bool true) ?_
 refine ov 76 (.bool true) ?_
 refine ov 77 (.pointer (some ⟨dC,0,none⟩)) ?_
 refine ow 78 (.agg #[.int .i64 0,.int .i64 0,.int .i64 0,.int .i64 1]) rfl (fun w' hS=>(rl 22 0 [.int .i64 0,.int .i64 0,.int .i64 0,.int .i64 1] hS.2.2.1)) ?_
 refine ov 79 (.agg #[.int .i64 0,.int .i64 0,.int .i64 0,.int .i64 1]) ?_
 refine ov 80 (.bool true) ?_
 refine ov 81 (.bool true) ?_
 refine ov 82 (.bool true) ?_
 refine ov 83 cZ ?_
 refine ow 84 (.int .i64 (((quarters).length:Int))) rfl (fun w' hS=>(rv_len (e:=22) cK _ _ rfl rfl (by kernel_rfl))) ?_
 have di:((((quarters).length:Int)==(24:Int)))=true:=(lawK72)
 refine ow 85 (.bool true) rfl (fun w' hS=>(RunV.bool (x:=(((quarters).length:Int)==(24:Int))) (rvk (by kernel_rfl)) di)) ?_
 refine ov 86 (.bool true) ?_
 refine ov 87 (.bool true) ?_
 refine ov 88 cZ ?_
 refine ow 89 (adr cZ (1*4)) rfl (fun w' hS=>(rv_idx (e:=22) cK (by decide) 1 (by rw [zE2];omega) _ _ _ rfl rfl rfl (by kernel_rfl) (by kernel_rfl))) ?_
 refine ow 90 (.agg #[(.int .i64 (((quarters).getD 1 (0,0,0,0)).1)),(.int .i64 (((quarters).getD 1 (0,0,0,0)).2.1)),(.int .i64 (((quarters).getD 1 (0,0,0,0)).2.2.1)),(.int .i64 (((quarters).getD 1 (0,0,0,0)).2.2.2))]) rfl (fun w' hS=>(rv_ldn [(.int .i64 (((quarters).getD 1 (0,0,0,0)).1)),(.int .i64 (((quarters).getD 1 (0,0,0,0)).2.1)),(.int .i64 (((quarters).getD 1 (0,0,0,0)).2.2.1)),(.int .i64 (((quarters).getD 1 (0,0,0,0)).2.2.2))] hS.2.2.2 _ _ rfl rfl (by kernel_rfl))) ?_
 refine ov 91 (.agg #[.int .i64 0,.int .i64 0,.int .i64 1,(.int .i64 (-1))]) ?_
 have dj:((((quarters).getD 1 (0,0,0,0)).1==0&&((quarters).getD 1 (0,0,0,0)).2.1==0&&((quarters).getD 1 (0,0,0,0)).2.2.1==1&&((quarters).getD 1 (0,0,0,0)).2.2.2==(-1)))=true:=(lawK73)
 refine ow 92 (.bool true) rfl (fun w' hS=>(RunV.bool (x:=(((quarters).getD 1 (0,0,0,0)).1==0&&((quarters).getD 1 (0,0,0,0)).2.1==0&&((quarters).getD 1 (0,0,0,0)).2.2.1==1&&((quarters).getD 1 (0,0,0,0)).2.2.2==(-1))) (yg7 22 22 3 (k:=.i64) _ _ [((quarters).getD 1 (0,0,0,0)).1,((quarters).getD 1 (0,0,0,0)).2.1,((quarters).getD 1 (0,0,0,0)).2.2.1,((quarters).getD 1 (0,0,0,0)).2.2.2] [0,0,1,-1] rfl rfl rfl (by kernel_rfl) (by kernel_rfl) (by kernel_rfl)) dj)) ?_
 refine ov 93 (.bool true) ?_
 refine ov 0 (.bool true) ?_
 refine zc0 ?_
 refine dG _ _ ?_
 try clear dG dX
 refine wp_ret ?_
 refine bodyPost_ret (v:=(.bool true)) (zb0 rfl rfl) rfl ⟨?_,hB⟩
 exact rfl

def zN9:ConT:=fun args _ _=>match args with
 | []=>some (.leaf (.so (.vc (.cb true (some true)))) 0 0)
 | _=>none
theorem zx8 {I:World→Prop} (hI:∀ w,I w→Tab w∧Mx w):ConOK Tryz.prog I 11 zN9:=by
 intro args E n w T hw _ hT _
 unfold zN9 at hT
 split at hT
 ·cases hT
  exact (known7 w (hI w hw).1 (hI w hw).2).mono fun e w' he=>zb4 he ⟨rfl,fun v hv=>by cases hv;rfl⟩
 ·cases hT
end Go.Proofs.YtaldbfflkpgfoaaGreatDoor
namespace Go.Proofs.YtaldbfflkpgfoaaGreatDoor
open Go.ChangeShapes Go.WideShapes Go.ChangeAt Go.RowKit

theorem zD6 {H:Type} {enc:TypeId × Value→H} {P:Program} (hl:laidOutB P=true) {W W':World} (hb:Below W.heap.size W W'):
  ∀ {ts:List TypeId} {vs:List Value} {ds:List (DataW H)} {ps:List MemPlace},(∀ t ∈ ts,P.readableRec t=true∧t<P.types.size)→DataW.TrodAll enc P W 0 (fun _=>true) true ts vs ds ps→
   (∀ x ∈ ps,x.block<W.heap.size)→DataW.TrodAll enc P W' 0 (fun b=>decide (b<W.heap.size)) true ts vs ds ps
 | [],[],[],_,_,h,_=>h
 | t::ts,v::vs,d::ds,ps,ht,h,hp=>by
  obtain ⟨p,q,h1,h2,rfl⟩:=h
  exact ⟨p,q,Below.trod hl (ht t (by simp)).1 (ht t (by simp)).2 h1 hb (fun x hx=>hp x (by simp [hx])),zD6 hl hb (fun u hu=>ht u (by simp [hu])) h2 (fun x hx=>hp x (by simp [hx])),rfl⟩
 | [],[],_::_,_,_,h,_=>by cases h
 | [],_::_,_,_,_,h,_=>by cases h
 | _::_,[],_,_,_,h,_=>by cases h
 | _::_,_::_,[],_,_,h,_=>by cases h

theorem law_post {H:Type} {enc:TypeId × Value→H} {P:Program} {f:Func} {s:ChangeSpec} {W W':World} {args:Array Value} {ds gs:List (DataW H)} {before:List MemPlace} {tb:TypeId}
  (hl:laidOutB P=true) (aa:(f.params.toList.all fun t=>P.readableRec t&&decide (t<P.types.size))=true) (hres:f.resultTypes=#[tb]) (htb:P.underlying tb=some .bool) (hv:s.vars=[])
  (hW:DataW.Whole enc P f.params.toList s.vars false W args.toList ds gs before) (hfn:s.fn H (ds++gs)={results:=[.lit (.bool true)],args:=ds}) (hb:Below W.heap.size W W'):
  s.post enc P f false true false false W args (.bool true) W':=by
 have hr:∀ t ∈ f.params.toList,P.readableRec t=true∧t<P.types.size:=fun t ht=>by
  have:=List.all_eq_true.1 aa t ht
  simpa using this
 have hlt:∀ p ∈ before,p.block<W.heap.size:=fun p hp=>hW.lt p hp
 have hW':=hW
 obtain ⟨p,q,hA,hV,rfl,_,_⟩:=hW
 rw [hv] at hV
 obtain ⟨rfl,rfl⟩:=trodVars_none hV
 refine ⟨ds,[],_,[],p,[],hW',?_,?_,?_,World.keptBut_mono (fun x hx=>⟨hx,.inr (.inl (by simpa using hx))⟩) (hb.frame (· ∈ p++[])),fun h=>by cases h⟩
 ·rw [hfn,hres]
  exact trodAll_mk1 (shut_bool htb true)
 ·rw [hfn]
  exact zD6 hl hb hr hA (fun x hx=>hlt x (by simp [hx]))
 ·rw [hfn,hv];rfl

theorem cell_int {P:Program} {W:World} {base u:Nat} {k:IntKind} {v:Value} (hu:P.underlying u=some (.int k)) (h:Cell.okWide P W .any base u v):∃ n,v=.int k n∧k.has n:=by
 unfold Cell.okWide at h
 rw [hu] at h
 unfold Cell.ok at h
 rw [hu] at h
 cases v<;>simp at h
 obtain ⟨rfl,h⟩:=h
 exact ⟨_,rfl,h⟩
theorem own:ownKnob Tryz.prog.godebug=none:=by kernel_rfl
theorem laidOut:laidOutB Tryz.prog=true:=by kernel_rfl
end Go.Proofs.YtaldbfflkpgfoaaGreatDoor
namespace Go.Proofs.YtaldbfflkpgfoaaGreatDoor
open Go.ChangeShapes Go.WideShapes Go.ChangeAt Go.RowKit

section
variable {H:Type} {enc:TypeId × Value→H}
theorem zN1 {C:Checked} {os:Os} {f:FuncId} {fn:Func} {s:OpenSpec} {conds:List PathCond} {apart:Bool} {laid:List (String × DataW Unit)} (modest:Bool) (w0:World) (args:Array Value) (hos:w0.os=os)
  (hsh:(w0.forCall (fun _ _=>0) ⟨#[],args,[]⟩).Shaped C.prog)
  (hok:Input.okWideB C.prog (w0.forCall (fun _ _=>0) ⟨#[],args,[]⟩) f ⟨#[],args,[]⟩=true)
  (hrow:s.preRow enc C.prog fn conds apart laid (w0.forCall (fun _ _=>0) ⟨#[],args,[]⟩).memory args):
  ∃ (w:World) (tape:Tape) (i:Input),w.os=os∧(w.forCall tape i).Shaped C.prog∧i.vars=[]∧Input.okWide C.prog (w.forCall tape i) .any w.heap.size f i∧
   s.preRow enc C.prog fn conds apart laid (w.forCall tape i).memory i.args∧({modest:=modest}:Assume).holds C.prog (lone (Frame.enter C.prog f i.args .normal) [] (w.forCall tape i)):=
 ⟨w0,fun _ _=>0,⟨#[],args,[]⟩,hos,hsh,(Input.okWide_of_okWideB (base:=0) hok).1,(Input.okWide_of_okWideB hok).2,hrow,by
  simp only [Assume.holds]
  exact ⟨by simp,by simp,fun _=>Modest.zero,by simp,by simp⟩⟩
end
theorem cell_str {P:Program} {W:World} {base u:Nat} {v:Value} (hu:P.underlying u=some .string) (h:Cell.okWide P W .any base u v):∃ X:List UInt8,v=.string ⟨X.toArray⟩∧(X.length:Int)≤9223372036854775807:=by
 unfold Cell.okWide at h
 rw [hu] at h
 unfold Cell.ok at h
 rw [hu] at h
 cases v<;>simp at h
 next s=>exact ⟨s.data.toList,by simp,by simpa using h⟩
def kindD:Option IntKind→TypeDesc
 | some k=>.int k
 | none=>.string
def kindV (k:Option IntKind) (v:Option Value):Prop:=
 match k with
 | some k=>∃ n:Int,v=some (.int k n)∧k.has n
 | none=>∃ X:List UInt8,v=some (.string ⟨X.toArray⟩)∧(X.length:Int)≤9223372036854775807
theorem zO2 {P:Program} {W:World} {base t:Nat} {v:Value} {ts:List TypeId} (ks:List (Option IntKind)) (hagg:(match P.underlying t with | some (.struct _) | some (.array _ _)=>true | _=>false)=true)
  (hct:P.cellTypes P.depth t=some ts) (hC:P.cellsOf t=ts.length) (hk:ts.map (fun u=>P.underlying u)=ks.map fun k=>some (kindD k)) (h:Value.okWide P W .any base t v):
  ∃ cs,v=.agg cs∧cs.size=ks.length∧∀ (i:Nat) (k:Option IntKind),ks[i]?=some k→kindV k cs[i]?:=by
 have hlen:ts.length=ks.length:=by have:=congrArg List.length hk;simpa using this
 have h':∃ cs,v=.agg cs∧cs.size=P.cellsOf t∧Row.okWide P W .any base t cs:=by
  unfold Value.okWide at h
  split at h<;>first | exact h | (rename_i h1 h2;revert hagg;split<;>simp_all)
 obtain ⟨cs,hv,hs,ts',hct',_,hc⟩:=h'
 rw [hct] at hct'
 obtain rfl:=Option.some.inj hct'
 refine ⟨cs,hv,by omega,fun i k hi=>?_⟩
 have hil:i<ks.length:=(List.getElem?_eq_some_iff.1 hi).1
 have hic:i<cs.size:=by omega
 obtain ⟨u,hu,hcell⟩:=hc i cs[i] (Array.getElem?_eq_getElem hic)
 rw [Nat.mod_eq_of_lt (by omega)] at hu
 have:(ts.map (fun u=>P.underlying u))[i]?=some (P.underlying u):=by simp [hu]
 rw [hk] at this
 simp only [List.getElem?_map,hi,Option.map_some,Option.some.injEq] at this
 unfold kindV
 rw [Array.getElem?_eq_getElem hic]
 cases k with
 | some k=>
  obtain ⟨n,hn,hh⟩:=cell_int this.symm hcell
  exact ⟨n,by rw [hn],hh⟩
 | none=>
  obtain ⟨X,hX,hl⟩:=cell_str this.symm hcell
  exact ⟨X,by rw [hX],hl⟩
theorem zr5 {n:Int} (h:IntKind.i64.has n):-9223372036854775808≤n∧n≤9223372036854775807:=h
end Go.Proofs.YtaldbfflkpgfoaaGreatDoor
namespace Go.Proofs.YtaldbfflkpgfoaaGreatDoor
open Go.ChangeShapes Go.WideShapes Go.ChangeAt Go.RowKit

end Go.Proofs.YtaldbfflkpgfoaaGreatDoor
namespace Go.Proofs.YtaldbfflkpgfoaaGreatDoor
open Go.RowKit

def asN:Nat→Rat→Lf→Lf
 | 0,_,l=>l
 | n+1,x,l=>.as (decide (x≠0)) true (asN n x l)
theorem yi0 {P:SV→Prop} {x:Rat} {l:Lf} {n:Nat} (h:x≠0) (hl:LOK P l):LOK P (asN n x l):=by
 induction n with
 | zero=>exact hl
 | succ n ih=>exact ⟨decide_eq_true h,ih⟩
def l3 (a b c:Rat):List (List UInt8):=[za1 a,za1 b,za1 c]
def isT (v:SV):Prop:=∀ X,v.den X=.bool true
theorem yi1 {t:Bool} {d:Option Bool} (h:t=true):isT (.so (.vc (.cb t d))):=fun _=>by rw [h];rfl
section
variable {P:Program} {a:Act} {o:Oper} {w:World}
end
theorem plc_same (Z:List Int) (X:List (List UInt8)):(zi3 Z Z&&sEq X X)=true:=by
 have:∀ Z:List Int,zi3 Z Z=true:=fun Z=>by
  induction Z with
  | nil=>rfl
  | cons z Z ih=>rw [zi3,beq_self_eq_true,ih];rfl
 rw [this,yg8];rfl
abbrev Mo:=Nat→Rat
def d3 (a b c x y z:Rat):Rat:=0+a*x+b*y+c*z
def f3 (a b c x y z:Rat):Rat:=a*x+b*y+c*z
def pm (r:Mo) (x y z:Rat):Mo
 | 9=>x
 | 10=>y
 | 11=>z
 | k=>r k
def mc (A B:Mo):Mo
 | 0=>d3 (A 0) (A 1) (A 2) (B 0) (B 3) (B 6)
 | 1=>d3 (A 0) (A 1) (A 2) (B 1) (B 4) (B 7)
 | 2=>d3 (A 0) (A 1) (A 2) (B 2) (B 5) (B 8)
 | 3=>d3 (A 3) (A 4) (A 5) (B 0) (B 3) (B 6)
 | 4=>d3 (A 3) (A 4) (A 5) (B 1) (B 4) (B 7)
 | 5=>d3 (A 3) (A 4) (A 5) (B 2) (B 5) (B 8)
 | 6=>d3 (A 6) (A 7) (A 8) (B 0) (B 3) (B 6)
 | 7=>d3 (A 6) (A 7) (A 8) (B 1) (B 4) (B 7)
 | 8=>d3 (A 6) (A 7) (A 8) (B 2) (B 5) (B 8)
 | 9=>d3 (A 0) (A 1) (A 2) (B 9) (B 10) (B 11)+A 9
 | 10=>d3 (A 3) (A 4) (A 5) (B 9) (B 10) (B 11)+A 10
 | 11=>d3 (A 6) (A 7) (A 8) (B 9) (B 10) (B 11)+A 11
 | _=>0
def mf (A B:Mo):Mo
 | 0=>f3 (A 0) (A 1) (A 2) (B 0) (B 3) (B 6)
 | 1=>f3 (A 0) (A 1) (A 2) (B 1) (B 4) (B 7)
 | 2=>f3 (A 0) (A 1) (A 2) (B 2) (B 5) (B 8)
 | 3=>f3 (A 3) (A 4) (A 5) (B 0) (B 3) (B 6)
 | 4=>f3 (A 3) (A 4) (A 5) (B 1) (B 4) (B 7)
 | 5=>f3 (A 3) (A 4) (A 5) (B 2) (B 5) (B 8)
 | 6=>f3 (A 6) (A 7) (A 8) (B 0) (B 3) (B 6)
 | 7=>f3 (A 6) (A 7) (A 8) (B 1) (B 4) (B 7)
 | 8=>f3 (A 6) (A 7) (A 8) (B 2) (B 5) (B 8)
 | 9=>f3 (A 0) (A 1) (A 2) (B 9) (B 10) (B 11)+A 9
 | 10=>f3 (A 3) (A 4) (A 5) (B 9) (B 10) (B 11)+A 10
 | 11=>f3 (A 6) (A 7) (A 8) (B 9) (B 10) (B 11)+A 11
 | _=>0
def mt (A:Mo):Mo
 | 0=>A 0
 | 1=>A 3
 | 2=>A 6
 | 3=>A 1
 | 4=>A 4
 | 5=>A 7
 | 6=>A 2
 | 7=>A 5
 | 8=>A 8
 | _=>0
def mz (A:Mo):Mo
 | 0=>A 0
 | 1=>A 1
 | 2=>A 2
 | 3=>A 3
 | 4=>A 4
 | 5=>A 5
 | 6=>A 6
 | 7=>A 7
 | 8=>A 8
 | _=>0
def mi (A:Mo):Mo
 | 0=>A 0
 | 1=>A 3
 | 2=>A 6
 | 3=>A 1
 | 4=>A 4
 | 5=>A 7
 | 6=>A 2
 | 7=>A 5
 | 8=>A 8
 | 9=>0 - d3 (A 0) (A 3) (A 6) (A 9) (A 10) (A 11)
 | 10=>0 - d3 (A 1) (A 4) (A 7) (A 9) (A 10) (A 11)
 | 11=>0 - d3 (A 2) (A 5) (A 8) (A 9) (A 10) (A 11)
 | _=>0
def idm:Mo
 | 0=>((1:Int):Rat)
 | 4=>((1:Int):Rat)
 | 8=>((1:Int):Rat)
 | _=>0
def l12 (A:Mo):List Rat:=[A 0,A 1,A 2,A 3,A 4,A 5,A 6,A 7,A 8,A 9,A 10,A 11]
def detm (A:Mo):Rat:=d3 (A 0) (A 1) (A 2) (A 4*A 8 - A 5*A 7) (A 5*A 6 - A 3*A 8) (A 3*A 7 - A 4*A 6)
def RotM (A:Mo) (w x y z:Rat):Prop:=RotQ (A 0) (A 1) (A 2) (A 3) (A 4) (A 5) (A 6) (A 7) (A 8) w x y z
section
variable {A B:Mo} {a b c d:Int} (h0:¬(a=0∧b=0∧c=0∧d=0)) (h:RotM A a b c d)
include h0 h
theorem rig_mat:decide (l12 (mc (mz A) (mt A))=l12 idm)=true∧decide (0<sgn (detm A).num)=true:=by
 have:=yx1 (nq_int h0) h
 unfold yx0 at this
 rw [Bool.and_eq_true] at this
 exact this
end
theorem mc_rot {A B:Mo} {a b c d p q r s n0 n1 n2 n3:Int} (h:RotM A a b c d) (g:RotM B p q r s)
  (h0:n0=a*p - b*q - c*r - d*s) (h1:n1=a*q+b*p+c*s - d*r) (h2:n2=a*r - b*s+c*p+d*q) (h3:n3=a*s+b*r - c*q+d*p):RotM (mc A B) n0 n1 n2 n3:=yx3 h g h0 h1 h2 h3
def zk9 (X:List UInt8):Bool:=!(X.any (·==47)&&decide ((20:Int)<(X.length:Int)))&&!decide ((400:Int)<(X.length:Int))
theorem zR3 {X:List UInt8} (h:∀ j,j<X.length→(((((X).getD j 0).toNat:Int)==(47:Int))&&decide ((20:Int)<((X).length:Int)))=false) (h4:decide ((400:Int)<((X).length:Int))=false):zk9 X=true:=by
 unfold zk9
 rw [h4,Bool.not_false,Bool.and_true,Bool.not_eq_true',Bool.and_eq_false_iff]
 by_cases hl:decide ((20:Int)<((X).length:Int))=true
 ·left
  rw [List.any_eq_false]
  intro c hc
  obtain ⟨j,hj,rfl⟩:=List.getElem_of_mem hc
  have:=h j hj
  rw [hl,Bool.and_true,beq_eq_false_iff_ne] at this
  intro e
  apply this
  rw [show X.getD j 0=X[j] by simp [hj]]
  have e:X[j]=47:=by simpa using e
  rw [e];rfl
 ·right;simpa using hl
theorem zR4 {X:List UInt8} {k:Nat} (hk:k<X.length) (h1:((((X).getD k 0).toNat:Int)==(47:Int))=true) (h2:decide ((20:Int)<((X).length:Int))=true):zk9 X=false:=by
 have e:X.any (·==47)=true:=by
  rw [List.any_eq_true]
  refine ⟨X[k],List.getElem_mem hk,?_⟩
  have h1:((X.getD k 0).toNat:Int)=47:=by simpa using h1
  rw [show X.getD k 0=X[k] by simp [hk]] at h1
  have:X[k]=47:=by rw [← UInt8.toNat_inj];exact Int.natCast_inj.1 h1
  simpa using this
 unfold zk9
 rw [e,h2];rfl
theorem zR5 {X:List UInt8} (h:decide ((400:Int)<((X).length:Int))=true):zk9 X=false:=by unfold zk9;rw [h,Bool.not_true,Bool.and_false]
theorem zj9 {X:List UInt8} (h:zk9 X=true):X.length≤400:=by
 unfold zk9 at h
 simp only [Bool.and_eq_true,Bool.not_eq_true',decide_eq_false_iff_not] at h
 omega
theorem zu0 {P:Nat→Bool} {k:Nat} (h:∀ j,j<k→P j=false) (hk:P k=false):∀ j,j<k+1→P j=false:=fun j hj=>by
 rcases Nat.lt_or_eq_of_le (Nat.le_of_lt_succ hj) with h1 | rfl
 ·exact h j h1
 ·exact hk
set_option maxRecDepth 100000 in
set_option maxHeartbeats 4000000 in
theorem plain7 (qq0 qq1 qq2 qq3:Int) (X Y Z:List UInt8) (_rX:(X.length:Int)≤9223372036854775807) (_rY:(Y.length:Int)≤9223372036854775807) (_rZ:(Z.length:Int)≤9223372036854775807) (w:World):
    Calls Tryz.prog 12 #[(.agg #[(.int .i64 (qq0)),(.int .i64 (qq1)),(.int .i64 (qq2)),(.int .i64 (qq3)),(.string ⟨(X:List UInt8).toArray⟩),(.string ⟨(Y:List UInt8).toArray⟩),(.string ⟨(Z:List UInt8).toArray⟩)])] w fun e w'=>e=.returned (.bool (zk9 X&&(zk9 Y&&zk9 Z)))∧Gr w w':=by
 go_enter Tryz.func12,Tryz.ntmps12
 have hB:=Gr.refl w
 refine wp_seq_k (fun K1 k1=>?_)
 refine rg [0,1] ?_
 refine se ?_
 refine eb 27 #[(.int .i64 (qq0)),(.int .i64 (qq1)),(.int .i64 (qq2)),(.int .i64 (qq3)),(.string ⟨(X:List UInt8).toArray⟩),(.string ⟨(Y:List UInt8).toArray⟩),(.string ⟨(Z:List UInt8).toArray⟩)] 1 hB fun b2 w2 g2 L2 o2 q2 hB=>?_
 simp only [p3,p4]
 refine sv 2 (.bool false) ?_
 refine za0 ?_
 refine k1 _ _ ?_
 try clear k1 K1
 refine wp_seq_k (fun K3 k3=>?_)
 refine wp_seq_k (fun K4 k4=>?_)
 refine rg [0] ?_
 refine sv 3 (.int .i64 0) ?_
 refine za0 ?_
 refine k4 _ _ ?_
 try clear k4 K4
 refine wp_block ?_
 refine wp_loop_rounds 5 ?_
 show Code.wp _ _ _ _ _
 refine wp_seq_k (fun K5 k5=>?_)
 refine wp_seq_k (fun K6 k6=>?_)
 refine rg [0,1] ?_
 refine sv 6 (.int .i64 0) ?_
 refine sv 7 (.bool true) ?_
 refine za0 ?_
 refine k6 _ _ ?_
 try clear k6 K6
 refine wp_cond_true rfl ?_
 refine wp_skip ?_
 refine k5 _ _ ?_
 try clear k5 K5
 refine wp_seq_k (fun K7 k7=>?_)
 refine wp_block ?_
 refine wp_seq_k (fun K8 k8=>?_)
 refine rg [0,1,2,3,4] ?_
 refine sv 10 (.int .i64 0) ?_
 refine sv 11 (.pointer (some ⟨b2,4,none⟩)) ?_
 refine sv 12 (.pointer (some ⟨b2,4,none⟩)) ?_
 refine sw 13 (.string ⟨(X:List UInt8).toArray⟩) rfl (rk 23 4 L2) ?_
 refine sv 4 (.string ⟨(X:List UInt8).toArray⟩) ?_
 refine za0 ?_
 refine k8 _ _ ?_
 try clear k8 K8
 refine wp_seq_k (fun K9 k9=>?_)
 refine wp_seq_k (fun bp aO=>?_)
 refine rg [0] ?_
 refine sv 5 (.int .i64 0) ?_
 refine za0 ?_
 refine aO _ _ ?_
 try clear aO bp
 refine wp_block ?_
 refine zg5 (a:=⟨List.toArray ?l11,[]⟩) (fun n a w'=>∃ (kk:Nat) (ac:Nat→Value),(X).length - kk=n∧a=⟨[(ac 0),(.pointer (some ⟨b2,0,none⟩)),(ac 2),.int .i64 0,(.string ⟨(X:List UInt8).toArray⟩),(.int .i64 ((kk:Int))),(ac 6),.bool true,undef,undef,(ac 10),(ac 11),(ac 12),(ac 13),(ac 14),(ac 15),(ac 16),(ac 17),(ac 18),(ac 19),(ac 20),(ac 21),(ac 22),(ac 23),(ac 24),(ac 25),(ac 26),(ac 27),(ac 28),undef,undef,undef].toArray,[]⟩∧kk≤(X).length∧(∀ j,j<kk→(((((X).getD j 0).toNat:Int)==(47:Int))&&decide ((20:Int)<((X).length:Int)))=false)∧Lc w' b2 #[(.int .i64 (qq0)),(.int .i64 (qq1)),(.int .i64 (qq2)),(.int .i64 (qq3)),(.string ⟨(X:List UInt8).toArray⟩),(.string ⟨(Y:List UInt8).toArray⟩),(.string ⟨(Z:List UInt8).toArray⟩)] 27∧Gr w w') ((X).length - 0) ?_ ?_
 ·exact ⟨0,(fun i=>List.getD ?l11 i undef),rfl,rfl,(Nat.zero_le _),(fun j h=>absurd h (Nat.not_lt_zero j)),L2,hB⟩
 rintro bQ a11 bW ⟨kk,ac,rfl,rfl,hkk,hall,L2,hB⟩ bU aF
 refine wp_seq_k (fun bo aY=>?_)
 refine wp_seq_k (fun bi ay=>?_)
 refine rg [0,1,2,3] ?_
 refine sv 14 (.int .i64 ((kk:Int))) ?_
 refine sv 15 (.string ⟨(X:List UInt8).toArray⟩) ?_
 refine sv 16 (.int .i64 (((X).length:Int))) ?_
 refine sv 17 (.bool (decide ((kk:Int)<((X).length:Int)))) ?_
 refine za0 ?_
 refine ay _ _ ?_
 try clear ay bi
 refine wp_cond_split (t:=decide ((kk:Int)<((X).length:Int))) rfl (fun ai=>?_) (fun ai=>?_)
 ·have hlt:kk<(X).length:=by have:=of_decide_eq_true ai;omega
  refine wp_skip ?_
  refine aY _ _ ?_
  try clear aY bo
  refine wp_seq_k (fun aC ax=>?_)
  refine wp_block ?_
  refine wp_seq_k (fun a3 ar=>?_)
  refine rg [0,1,2,3,4,5,6,7,8] ?_
  refine sv 20 (.string ⟨(X:List UInt8).toArray⟩) ?_
  refine sv 21 (.int .i64 ((kk:Int))) ?_
  refine sw 22 (.int .u8 ((((X).getD kk 0).toNat:Int))) rfl (yw9 23 _ _ (X) kk rfl rfl rfl (by omega) (by kernel_rfl)) ?_
  refine sv 23 (.bool (((((X).getD kk 0).toNat:Int)==(47:Int)))) ?_
  rcases Bool.eq_false_or_eq_true (((((X).getD kk 0).toNat:Int)==(47:Int))) with hb17 | hb17
  ·refine sw 24 (.bool true) rfl (RunV.bool (x:=((((X).getD kk 0).toNat:Int)==(47:Int))) (rvk (by kernel_rfl)) hb17) ?_
   refine sv 25 (.string ⟨(X:List UInt8).toArray⟩) ?_
   refine sv 26 (.int .i64 (((X).length:Int))) ?_
   refine sv 27 (.bool (decide ((20:Int)<((X).length:Int)))) ?_
   refine sv 28 (.bool (decide ((20:Int)<((X).length:Int)))) ?_
   refine za0 ?_
   refine ar _ _ ?_
   try clear ar a3
   refine wp_cond_split (t:=decide ((20:Int)<((X).length:Int))) rfl (fun ae=>?_) (fun ae=>?_)
   ·refine wp_seq_k (fun bg aB=>?_)
    refine rg [0] ?_
    refine sv 2 (.bool false) ?_
    refine za0 ?_
    refine aB _ _ ?_
    try clear aB bg
    refine wp_ret ?_
    simp only [Exit.then,Exit.inBlock]
    refine bodyPost_ret (v:=(.bool false)) (zb0 rfl rfl) rfl ⟨?_,hB⟩
    exact (by rw [zR4 hlt hb17 ae];rfl)
   ·refine wp_skip ?_
    refine ax _ _ ?_
    try clear ax aC
    refine rg [0,1,2] ?_
    refine sv 18 (.int .i64 ((kk:Int))) ?_
    refine sw 19 (.int .i64 (((kk:Int)+1))) rfl (RunV.int (x:=IntKind.i64.wrap (((kk:Int)+1))) (y:=((kk:Int)+1)) (rvk (by kernel_rfl)) (by first | rfl | (rw [IntKind.wrap_i64];omega))) ?_
    refine sv 5 (.int .i64 (((kk:Int)+1))) ?_
    refine za0 ?_
    refine aF ((X).length - (kk+1)) ⟨List.toArray ?l20,[]⟩ _ (by omega) ?_
    exact ⟨kk+1,(fun i=>List.getD ?l20 i undef),rfl,rfl,(by omega),(zu0 (P:=fun j=>((((X).getD j 0).toNat:Int)==(47:Int))&&decide ((20:Int)<((X).length:Int))) hall (by rw [ae,Bool.and_false])),L2,hB⟩
  ·refine sw 24 (.bool false) rfl (RunV.bool (x:=((((X).getD kk 0).toNat:Int)==(47:Int))) (rvk (by kernel_rfl)) hb17) ?_
   refine ss 25 ?_
   refine ss 26 ?_
   refine ss 27 ?_
   refine sv 28 (.bool false) ?_
   refine za0 ?_
   refine ar _ _ ?_
   try clear ar a3
   refine wp_cond_false rfl ?_
   refine wp_skip ?_
   refine ax _ _ ?_
   try clear ax aC
   refine rg [0,1,2] ?_
   refine sv 18 (.int .i64 ((kk:Int))) ?_
   refine sw 19 (.int .i64 (((kk:Int)+1))) rfl (RunV.int (x:=IntKind.i64.wrap (((kk:Int)+1))) (y:=((kk:Int)+1)) (rvk (by kernel_rfl)) (by first | rfl | (rw [IntKind.wrap_i64];omega))) ?_
   refine sv 5 (.int .i64 (((kk:Int)+1))) ?_
   refine za0 ?_
   refine aF ((X).length - (kk+1)) ⟨List.toArray ?l21,[]⟩ _ (by omega) ?_
   exact ⟨kk+1,(fun i=>List.getD ?l21 i undef),rfl,rfl,(by omega),(zu0 (P:=fun j=>((((X).getD j 0).toNat:Int)==(47:Int))&&decide ((20:Int)<((X).length:Int))) hall (by rw [hb17];rfl)),L2,hB⟩
 ·have hkeX:kk=(X).length:=by have:=of_decide_eq_false ai;omega
  refine wp_exit ?_
  simp only [Exit.then,Exit.inBlock,↓reduceIte]
  refine k9 _ _ ?_
  try clear k9 K9
  refine wp_seq_k (fun bd aZ=>?_)
  refine rg [0,1,2] ?_
  refine sv 29 (.string ⟨(X:List UInt8).toArray⟩) ?_
  refine sv 30 (.int .i64 (((X).length:Int))) ?_
  refine sv 31 (.bool (decide ((400:Int)<((X).length:Int)))) ?_
  refine za0 ?_
  refine aZ _ _ ?_
  try clear aZ bd
  refine wp_cond_split (t:=decide ((400:Int)<((X).length:Int))) rfl (fun ap=>?_) (fun ap=>?_)
  ·refine wp_seq_k (fun bJ aV=>?_)
   refine rg [0] ?_
   refine sv 2 (.bool false) ?_
   refine za0 ?_
   refine aV _ _ ?_
   try clear aV bJ
   refine wp_ret ?_
   simp only [Exit.then,Exit.inBlock]
   refine bodyPost_ret (v:=(.bool false)) (zb0 rfl rfl) rfl ⟨?_,hB⟩
   exact (by rw [zR5 ap];rfl)
  ·have hpX:=zR3 (fun j hj=>hall j (by omega)) ap
   refine wp_skip ?_
   refine k7 _ _ ?_
   try clear k7 K7
   refine rg [0,1,2] ?_
   refine sv 8 (.int .i64 0) ?_
   refine sv 9 (.int .i64 1) ?_
   refine sv 3 (.int .i64 1) ?_
   refine za0 ?_
   show Code.rounds _ _ _ _ _ _
   show Code.wp _ _ _ _ _
   refine wp_seq_k (fun bu aH=>?_)
   refine wp_seq_k (fun bh aX=>?_)
   refine rg [0,1] ?_
   refine sv 6 (.int .i64 1) ?_
   refine sv 7 (.bool true) ?_
   refine za0 ?_
   refine aX _ _ ?_
   try clear aX bh
   refine wp_cond_true rfl ?_
   refine wp_skip ?_
   refine aH _ _ ?_
   try clear aH bu
   refine wp_seq_k (fun bt a9=>?_)
   refine wp_block ?_
   refine wp_seq_k (fun bC aI=>?_)
   refine rg [0,1,2,3,4] ?_
   refine sv 10 (.int .i64 1) ?_
   refine sv 11 (.pointer (some ⟨b2,4,none⟩)) ?_
   refine sv 12 (.pointer (some ⟨b2,5,none⟩)) ?_
   refine sw 13 (.string ⟨(Y:List UInt8).toArray⟩) rfl (rk 23 5 L2) ?_
   refine sv 4 (.string ⟨(Y:List UInt8).toArray⟩) ?_
   refine za0 ?_
   refine aI _ _ ?_
   try clear aI bC
   refine wp_seq_k (fun bb aN=>?_)
   refine wp_seq_k (fun bj aS=>?_)
   refine rg [0] ?_
   refine sv 5 (.int .i64 0) ?_
   refine za0 ?_
   refine aS _ _ ?_
   try clear aS bj
   refine wp_block ?_
   refine zg5 (a:=⟨List.toArray ?l31,[]⟩) (fun n a w'=>∃ (kk:Nat) (aa:Nat→Value),(Y).length - kk=n∧a=⟨[(aa 0),(.pointer (some ⟨b2,0,none⟩)),(aa 2),.int .i64 1,(.string ⟨(Y:List UInt8).toArray⟩),(.int .i64 ((kk:Int))),(aa 6),.bool true,(aa 8),(aa 9),(aa 10),(aa 11),(aa 12),(aa 13),(aa 14),(aa 15),(aa 16),(aa 17),(aa 18),(aa 19),(aa 20),(aa 21),(aa 22),(aa 23),(aa 24),(aa 25),(aa 26),(aa 27),(aa 28),(aa 29),(aa 30),(.bool (decide ((400:Int)<((X).length:Int))))].toArray,[]⟩∧kk≤(Y).length∧(∀ j,j<kk→(((((Y).getD j 0).toNat:Int)==(47:Int))&&decide ((20:Int)<((Y).length:Int)))=false)∧Lc w' b2 #[(.int .i64 (qq0)),(.int .i64 (qq1)),(.int .i64 (qq2)),(.int .i64 (qq3)),(.string ⟨(X:List UInt8).toArray⟩),(.string ⟨(Y:List UInt8).toArray⟩),(.string ⟨(Z:List UInt8).toArray⟩)] 27∧Gr w w') ((Y).length - 0) ?_ ?_
   ·exact ⟨0,(fun i=>List.getD ?l31 i undef),rfl,rfl,(Nat.zero_le _),(fun j h=>absurd h (Nat.not_lt_zero j)),L2,hB⟩
   rintro bT a31 bV ⟨kk,aa,rfl,rfl,hkk,hall,L2,hB⟩ bO aT
   refine wp_seq_k (fun bm aJ=>?_)
   refine wp_seq_k (fun bB aU=>?_)
   refine rg [0,1,2,3] ?_
   refine sv 14 (.int .i64 ((kk:Int))) ?_
   refine sv 15 (.string ⟨(Y:List UInt8).toArray⟩) ?_
   refine sv 16 (.int .i64 (((Y).length:Int))) ?_
   refine sv 17 (.bool (decide ((kk:Int)<((Y).length:Int)))) ?_
   refine za0 ?_
   refine aU _ _ ?_
   try clear aU bB
   refine wp_cond_split (t:=decide ((kk:Int)<((Y).length:Int))) rfl (fun al=>?_) (fun al=>?_)
   ·have hlt:kk<(Y).length:=by have:=of_decide_eq_true al;omega
    refine wp_skip ?_
    refine aJ _ _ ?_
    try clear aJ bm
    refine wp_seq_k (fun aD av=>?_)
    refine wp_block ?_
    refine wp_seq_k (fun a2 au=>?_)
    refine rg [0,1,2,3,4,5,6,7,8] ?_
    refine sv 20 (.string ⟨(Y:List UInt8).toArray⟩) ?_
    refine sv 21 (.int .i64 ((kk:Int))) ?_
    refine sw 22 (.int .u8 ((((Y).getD kk 0).toNat:Int))) rfl (yw9 23 _ _ (Y) kk rfl rfl rfl (by omega) (by kernel_rfl)) ?_
    refine sv 23 (.bool (((((Y).getD kk 0).toNat:Int)==(47:Int)))) ?_
    rcases Bool.eq_false_or_eq_true (((((Y).getD kk 0).toNat:Int)==(47:Int))) with hb37 | hb37
    ·refine sw 24 (.bool true) rfl (RunV.bool (x:=((((Y).getD kk 0).toNat:Int)==(47:Int))) (rvk (by kernel_rfl)) hb37) ?_
     refine sv 25 (.string ⟨(Y:List UInt8).toArray⟩) ?_
     refine sv 26 (.int .i64 (((Y).length:Int))) ?_
     refine sv 27 (.bool (decide ((20:Int)<((Y).length:Int)))) ?_
     refine sv 28 (.bool (decide ((20:Int)<((Y).length:Int)))) ?_
     refine za0 ?_
     refine au _ _ ?_
     try clear au a2
     refine wp_cond_split (t:=decide ((20:Int)<((Y).length:Int))) rfl (fun ak=>?_) (fun ak=>?_)
     ·refine wp_seq_k (fun bx aP=>?_)
      refine rg [0] ?_
      refine sv 2 (.bool false) ?_
      refine za0 ?_
      refine aP _ _ ?_
      try clear aP bx
      refine wp_ret ?_
      simp only [Exit.then,Exit.inBlock]
      refine bodyPost_ret (v:=(.bool false)) (zb0 rfl rfl) rfl ⟨?_,hB⟩
      exact (by rw [hpX,zR4 hlt hb37 ak];rfl)
     ·refine wp_skip ?_
      refine av _ _ ?_
      try clear av aD
      refine rg [0,1,2] ?_
      refine sv 18 (.int .i64 ((kk:Int))) ?_
      refine sw 19 (.int .i64 (((kk:Int)+1))) rfl (RunV.int (x:=IntKind.i64.wrap (((kk:Int)+1))) (y:=((kk:Int)+1)) (rvk (by kernel_rfl)) (by first | rfl | (rw [IntKind.wrap_i64];omega))) ?_
      refine sv 5 (.int .i64 (((kk:Int)+1))) ?_
      refine za0 ?_
      refine aT ((Y).length - (kk+1)) ⟨List.toArray ?l40,[]⟩ _ (by omega) ?_
      exact ⟨kk+1,(fun i=>List.getD ?l40 i undef),rfl,rfl,(by omega),(zu0 (P:=fun j=>((((Y).getD j 0).toNat:Int)==(47:Int))&&decide ((20:Int)<((Y).length:Int))) hall (by rw [ak,Bool.and_false])),L2,hB⟩
    ·refine sw 24 (.bool false) rfl (RunV.bool (x:=((((Y).getD kk 0).toNat:Int)==(47:Int))) (rvk (by kernel_rfl)) hb37) ?_
     refine ss 25 ?_
     refine ss 26 ?_
     refine ss 27 ?_
     refine sv 28 (.bool false) ?_
     refine za0 ?_
     refine au _ _ ?_
     try clear au a2
     refine wp_cond_false rfl ?_
     refine wp_skip ?_
     refine av _ _ ?_
     try clear av aD
     refine rg [0,1,2] ?_
     refine sv 18 (.int .i64 ((kk:Int))) ?_
     refine sw 19 (.int .i64 (((kk:Int)+1))) rfl (RunV.int (x:=IntKind.i64.wrap (((kk:Int)+1))) (y:=((kk:Int)+1)) (rvk (by kernel_rfl)) (by first | rfl | (rw [IntKind.wrap_i64];omega))) ?_
     refine sv 5 (.int .i64 (((kk:Int)+1))) ?_
     refine za0 ?_
     refine aT ((Y).length - (kk+1)) ⟨List.toArray ?l41,[]⟩ _ (by omega) ?_
     exact ⟨kk+1,(fun i=>List.getD ?l41 i undef),rfl,rfl,(by omega),(zu0 (P:=fun j=>((((Y).getD j 0).toNat:Int)==(47:Int))&&decide ((20:Int)<((Y).length:Int))) hall (by rw [hb37];rfl)),L2,hB⟩
   ·have hkeY:kk=(Y).length:=by have:=of_decide_eq_false al;omega
    refine wp_exit ?_
    simp only [Exit.then,Exit.inBlock,↓reduceIte]
    refine aN _ _ ?_
    try clear aN bb
    refine wp_seq_k (fun bE aK=>?_)
    refine rg [0,1,2] ?_
    refine sv 29 (.string ⟨(Y:List UInt8).toArray⟩) ?_
    refine sv 30 (.int .i64 (((Y).length:Int))) ?_
    refine sv 31 (.bool (decide ((400:Int)<((Y).length:Int)))) ?_
    refine za0 ?_
    refine aK _ _ ?_
    try clear aK bE
    refine wp_cond_split (t:=decide ((400:Int)<((Y).length:Int))) rfl (fun aj=>?_) (fun aj=>?_)
    ·refine wp_seq_k (fun bK a0=>?_)
     refine rg [0] ?_
     refine sv 2 (.bool false) ?_
     refine za0 ?_
     refine a0 _ _ ?_
     try clear a0 bK
     refine wp_ret ?_
     simp only [Exit.then,Exit.inBlock]
     refine bodyPost_ret (v:=(.bool false)) (zb0 rfl rfl) rfl ⟨?_,hB⟩
     exact (by rw [hpX,zR5 aj];rfl)
    ·have hpY:=zR3 (fun j hj=>hall j (by omega)) aj
     refine wp_skip ?_
     refine a9 _ _ ?_
     try clear a9 bt
     refine rg [0,1,2] ?_
     refine sv 8 (.int .i64 1) ?_
     refine sv 9 (.int .i64 2) ?_
     refine sv 3 (.int .i64 2) ?_
     refine za0 ?_
     show Code.rounds _ _ _ _ _ _
     show Code.wp _ _ _ _ _
     refine wp_seq_k (fun bf az=>?_)
     refine wp_seq_k (fun bn aW=>?_)
     refine rg [0,1] ?_
     refine sv 6 (.int .i64 2) ?_
     refine sv 7 (.bool true) ?_
     refine za0 ?_
     refine aW _ _ ?_
     try clear aW bn
     refine wp_cond_true rfl ?_
     refine wp_skip ?_
     refine az _ _ ?_
     try clear az bf
     refine wp_seq_k (fun bw aA=>?_)
     refine wp_block ?_
     refine wp_seq_k (fun bk a1=>?_)
     refine rg [0,1,2,3,4] ?_
     refine sv 10 (.int .i64 2) ?_
     refine sv 11 (.pointer (some ⟨b2,4,none⟩)) ?_
     refine sv 12 (.pointer (some ⟨b2,6,none⟩)) ?_
     refine sw 13 (.string ⟨(Z:List UInt8).toArray⟩) rfl (rk 23 6 L2) ?_
     refine sv 4 (.string ⟨(Z:List UInt8).toArray⟩) ?_
     refine za0 ?_
     refine a1 _ _ ?_
     try clear a1 bk
     refine wp_seq_k (fun bq ba=>?_)
     refine wp_seq_k (fun bv aL=>?_)
     refine rg [0] ?_
     refine sv 5 (.int .i64 0) ?_
     refine za0 ?_
     refine aL _ _ ?_
     try clear aL bv
     refine wp_block ?_
     refine zg5 (a:=⟨List.toArray ?l51,[]⟩) (fun n a w'=>∃ (kk:Nat) (ab:Nat→Value),(Z).length - kk=n∧a=⟨[(ab 0),(.pointer (some ⟨b2,0,none⟩)),(ab 2),.int .i64 2,(.string ⟨(Z:List UInt8).toArray⟩),(.int .i64 ((kk:Int))),(ab 6),.bool true,(ab 8),(ab 9),(ab 10),(ab 11),(ab 12),(ab 13),(ab 14),(ab 15),(ab 16),(ab 17),(ab 18),(ab 19),(ab 20),(ab 21),(ab 22),(ab 23),(ab 24),(ab 25),(ab 26),(ab 27),(ab 28),(ab 29),(ab 30),(.bool (decide ((400:Int)<((Y).length:Int))))].toArray,[]⟩∧kk≤(Z).length∧(∀ j,j<kk→(((((Z).getD j 0).toNat:Int)==(47:Int))&&decide ((20:Int)<((Z).length:Int)))=false)∧Lc w' b2 #[(.int .i64 (qq0)),(.int .i64 (qq1)),(.int .i64 (qq2)),(.int .i64 (qq3)),(.string ⟨(X:List UInt8).toArray⟩),(.string ⟨(Y:List UInt8).toArray⟩),(.string ⟨(Z:List UInt8).toArray⟩)] 27∧Gr w w') ((Z).length - 0) ?_ ?_
     ·exact ⟨0,(fun i=>List.getD ?l51 i undef),rfl,rfl,(Nat.zero_le _),(fun j h=>absurd h (Nat.not_lt_zero j)),L2,hB⟩
     rintro bM bP bL ⟨kk,ab,rfl,rfl,hkk,hall,L2,hB⟩ bN aE
     refine wp_seq_k (fun bc aM=>?_)
     refine wp_seq_k (fun bA a4=>?_)
     refine rg [0,1,2,3] ?_
     refine sv 14 (.int .i64 ((kk:Int))) ?_
     refine sv 15 (.string ⟨(Z:List UInt8).toArray⟩) ?_
     refine sv 16 (.int .i64 (((Z).length:Int))) ?_
     refine sv 17 (.bool (decide ((kk:Int)<((Z).length:Int)))) ?_
     refine za0 ?_
     refine a4 _ _ ?_
     try clear a4 bA
     refine wp_cond_split (t:=decide ((kk:Int)<((Z).length:Int))) rfl (fun ad=>?_) (fun ad=>?_)
     ·have hlt:kk<(Z).length:=by have:=of_decide_eq_true ad;omega
      refine wp_skip ?_
      refine aM _ _ ?_
      try clear aM bc
      refine wp_seq_k (fun aG aw=>?_)
      refine wp_block ?_
      refine wp_seq_k (fun a6 aq=>?_)
      refine rg [0,1,2,3,4,5,6,7,8] ?_
      refine sv 20 (.string ⟨(Z:List UInt8).toArray⟩) ?_
      refine sv 21 (.int .i64 ((kk:Int))) ?_
      refine sw 22 (.int .u8 ((((Z).getD kk 0).toNat:Int))) rfl (yw9 23 _ _ (Z) kk rfl rfl rfl (by omega) (by kernel_rfl)) ?_
      refine sv 23 (.bool (((((Z).getD kk 0).toNat:Int)==(47:Int)))) ?_
      rcases Bool.eq_false_or_eq_true (((((Z).getD kk 0).toNat:Int)==(47:Int))) with hb57 | hb57
      ·refine sw 24 (.bool true) rfl (RunV.bool (x:=((((Z).getD kk 0).toNat:Int)==(47:Int))) (rvk (by kernel_rfl)) hb57) ?_
       refine sv 25 (.string ⟨(Z:List UInt8).toArray⟩) ?_
       refine sv 26 (.int .i64 (((Z).length:Int))) ?_
       refine sv 27 (.bool (decide ((20:Int)<((Z).length:Int)))) ?_
       refine sv 28 (.bool (decide ((20:Int)<((Z).length:Int)))) ?_
       refine za0 ?_
       refine aq _ _ ?_
       try clear aq a6
       refine wp_cond_split (t:=decide ((20:Int)<((Z).length:Int))) rfl (fun ah=>?_) (fun ah=>?_)
       ·refine wp_seq_k (fun bG aR=>?_)
        refine rg [0] ?_
        refine sv 2 (.bool false) ?_
        refine za0 ?_
        refine aR _ _ ?_
        try clear aR bG
        refine wp_ret ?_
        simp only [Exit.then,Exit.inBlock]
        refine bodyPost_ret (v:=(.bool false)) (zb0 rfl rfl) rfl ⟨?_,hB⟩
        exact (by rw [hpX,hpY,zR4 hlt hb57 ah];rfl)
       ·refine wp_skip ?_
        refine aw _ _ ?_
        try clear aw aG
        refine rg [0,1,2] ?_
        refine sv 18 (.int .i64 ((kk:Int))) ?_
        refine sw 19 (.int .i64 (((kk:Int)+1))) rfl (RunV.int (x:=IntKind.i64.wrap (((kk:Int)+1))) (y:=((kk:Int)+1)) (rvk (by kernel_rfl)) (by first | rfl | (rw [IntKind.wrap_i64];omega))) ?_
        refine sv 5 (.int .i64 (((kk:Int)+1))) ?_
        refine za0 ?_
        refine aE ((Z).length - (kk+1)) ⟨List.toArray ?l60,[]⟩ _ (by omega) ?_
        exact ⟨kk+1,(fun i=>List.getD ?l60 i undef),rfl,rfl,(by omega),(zu0 (P:=fun j=>((((Z).getD j 0).toNat:Int)==(47:Int))&&decide ((20:Int)<((Z).length:Int))) hall (by rw [ah,Bool.and_false])),L2,hB⟩
      ·refine sw 24 (.bool false) rfl (RunV.bool (x:=((((Z).getD kk 0).toNat:Int)==(47:Int))) (rvk (by kernel_rfl)) hb57) ?_
       refine ss 25 ?_
       refine ss 26 ?_
       refine ss 27 ?_
       refine sv 28 (.bool false) ?_
       refine za0 ?_
       refine aq _ _ ?_
       try clear aq a6
       refine wp_cond_false rfl ?_
       refine wp_skip ?_
       refine aw _ _ ?_
       try clear aw aG
       refine rg [0,1,2] ?_
       refine sv 18 (.int .i64 ((kk:Int))) ?_
       refine sw 19 (.int .i64 (((kk:Int)+1))) rfl (RunV.int (x:=IntKind.i64.wrap (((kk:Int)+1))) (y:=((kk:Int)+1)) (rvk (by kernel_rfl)) (by first | rfl | (rw [IntKind.wrap_i64];omega))) ?_
       refine sv 5 (.int .i64 (((kk:Int)+1))) ?_
       refine za0 ?_
       refine aE ((Z).length - (kk+1)) ⟨List.toArray ?l61,[]⟩ _ (by omega) ?_
       exact ⟨kk+1,(fun i=>List.getD ?l61 i undef),rfl,rfl,(by omega),(zu0 (P:=fun j=>((((Z).getD j 0).toNat:Int)==(47:Int))&&decide ((20:Int)<((Z).length:Int))) hall (by rw [hb57];rfl)),L2,hB⟩
     ·have hkeZ:kk=(Z).length:=by have:=of_decide_eq_false ad;omega
      refine wp_exit ?_
      simp only [Exit.then,Exit.inBlock,↓reduceIte]
      refine ba _ _ ?_
      try clear ba bq
      refine wp_seq_k (fun bH a8=>?_)
      refine rg [0,1,2] ?_
      refine sv 29 (.string ⟨(Z:List UInt8).toArray⟩) ?_
      refine sv 30 (.int .i64 (((Z).length:Int))) ?_
      refine sv 31 (.bool (decide ((400:Int)<((Z).length:Int)))) ?_
      refine za0 ?_
      refine a8 _ _ ?_
      try clear a8 bH
      refine wp_cond_split (t:=decide ((400:Int)<((Z).length:Int))) rfl (fun af=>?_) (fun af=>?_)
      ·refine wp_seq_k (fun bz a7=>?_)
       refine rg [0] ?_
       refine sv 2 (.bool false) ?_
       refine za0 ?_
       refine a7 _ _ ?_
       try clear a7 bz
       refine wp_ret ?_
       simp only [Exit.then,Exit.inBlock]
       refine bodyPost_ret (v:=(.bool false)) (zb0 rfl rfl) rfl ⟨?_,hB⟩
       exact (by rw [hpX,hpY,zR5 af];rfl)
      ·have hpZ:=zR3 (fun j hj=>hall j (by omega)) af
       refine wp_skip ?_
       refine aA _ _ ?_
       try clear aA bw
       refine rg [0,1,2] ?_
       refine sv 8 (.int .i64 2) ?_
       refine sv 9 (.int .i64 3) ?_
       refine sv 3 (.int .i64 3) ?_
       refine za0 ?_
       show Code.rounds _ _ _ _ _ _
       show Code.wp _ _ _ _ _
       refine wp_seq_k (fun bS bR=>?_)
       refine wp_seq_k (fun bD a5=>?_)
       refine rg [0,1] ?_
       refine sv 6 (.int .i64 3) ?_
       refine sv 7 (.bool false) ?_
       refine za0 ?_
       refine a5 _ _ ?_
       try clear a5 bD
       refine wp_cond_false rfl ?_
       refine wp_exit ?_
       simp only [Exit.then,Exit.inBlock,↓reduceIte]
       refine k3 _ _ ?_
       try clear k3 K3
       refine wp_seq_k (fun bF aQ=>?_)
       refine rg [0] ?_
       refine sv 2 (.bool true) ?_
       refine za0 ?_
       refine aQ _ _ ?_
       try clear aQ bF
       refine wp_ret ?_
       refine bodyPost_ret (v:=(.bool true)) (zb0 rfl rfl) rfl ⟨?_,hB⟩
       exact (by rw [hpX,hpY,hpZ];rfl)

end Go.Proofs.YtaldbfflkpgfoaaGreatDoor
