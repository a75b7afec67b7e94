/- Joined of: Gen121, Who, Wg, Qt, Qr, Syr, Plc, Gen131, Rda, Gen47, Gen69, Gen98, Syd, Sye. -/
import Derived.Test.YtaldbfflkpgfoaaGreatDoorPartE
import Derived.Test.YtaldbfflkpgfoaaGreatDoorPartD
namespace Go.Proofs.YtaldbfflkpgfoaaGreatDoor
open Go.RowKit

noncomputable def tabW:List (Nat × List (Nat × Ent)):=[(104,[(5,.flo [(true,0),(true,1),(true,2),(false,3),(false,4),(false,5),(true,6),(true,7),(true,8),(true,9)] [(10,7,34),(11,8,34)] [(false,12),(false,13),(true,14)] []),(6,.ord [(true,0),(true,1),(false,2),(false,3),(false,4)] [3]),(15,.flo [(true,0),(true,1),(false,2),(false,3),(true,4),(true,5),(true,6),(true,7)] [(8,14,34),(9,15,34)] [(false,10),(false,11),(true,12)] []),(16,.ord [(true,0),(true,1),(true,3),(true,5),(false,2),(false,4),(false,6),(false,7),(true,8),(false,9)] [10]),(17,.ort [(true,0),(true,1),(true,2),(true,3),(false,4),(false,5)] [11] [([5],11)]),(22,.ort [(true,0),(true,1),(true,2),(true,3),(true,4),(false,5),(true,6),(true,7),(true,8),(true,9),(true,10),(false,11)] [10] [([11],10)])])]
noncomputable def conW:List (Nat × ConT):=[(76,zU7),
 (130,cNum),
 (81,cDen),
 (96,zA2),
 (80,zU8),
 (122,zU9),
 (123,zV0)]
noncomputable def sysW:Sys:=⟨Tryz.prog,2,199,tabW,conW,fun _=>True⟩
theorem sysW_ok:sysW.OK where
 mixed:=by kernel_rfl
 calls:=fun f h0 h1=>by
  have:(List.range 199).all (fun f=>Nat.blt f 2||okCall Tryz.prog f)=true:=by kernel_rfl
  have:=List.all_eq_true.1 this f (List.mem_range.2 h1)
  simp only [Bool.or_eq_true] at this
  exact this.resolve_left (fun e=>by have:=ze7 e;exact absurd h0 (by show ¬ 2≤f;omega))
 tab:=by
  have:tabW.all (okTab Tryz.prog)=true:=by kernel_rfl
  exact fun x hx=>List.all_eq_true.1 this x hx
 lps:=zv8 (by kernel_rfl)
 con:=fun x hx=>by
  simp only [sysW,conW,List.mem_cons,List.not_mem_nil,or_false] at hx
  rcases hx with rfl | rfl | rfl | rfl | rfl | rfl | rfl
  ·exact zl9
  ·exact zt0
  ·exact zt1
  ·exact zj0
  ·exact zm0
  ·exact zm1
  ·exact zm2
 inv:=fun _ _ _ _=>trivial
def woS (a1 a2 a3 a4:Rat) (s:Int) (x:Rat):Int:=x.num*(zq2 a1 a2 a3 a4/(x.den:Int))*s
def wgS (a1 a2 a3 a4:Rat) (s:Int):Int:=(Int.gcd (Int.gcd (Int.gcd (Int.gcd 0 (woS a1 a2 a3 a4 s a1):Int) (woS a1 a2 a3 a4 s a2):Int) (woS a1 a2 a3 a4 s a3):Int) (woS a1 a2 a3 a4 s a4):Int)
def retW (z1 z2 z3 z4:Int):SV:=.so (.vg [.cz 57 0 40128 (z1),.cz 57 1 40128 (z1),.cz 59 0 40128 (z2),.cz 59 1 40128 (z2),.cz 61 0 40128 (z3),.cz 61 1 40128 (z3),.cz 63 0 40128 (z4),.cz 63 1 40128 (z4)])
def endW (a1 a2 a3 a4:Rat) (s:Int):Lf:=.as (decide (0<(a1.den:Int))) true (.as (decide (0<(a2.den:Int))) true (.as (decide (0<(a3.den:Int))) true (.as (decide (0<(a4.den:Int))) true (.as (decide (0<wgS a1 a2 a3 a4 s)) true (.as (decide (0<wgS a1 a2 a3 a4 s)) true (.as (decide (0<wgS a1 a2 a3 a4 s)) true (.as (decide (0<wgS a1 a2 a3 a4 s)) true (.ret (retW (woS a1 a2 a3 a4 s a1/wgS a1 a2 a3 a4 s) (woS a1 a2 a3 a4 s a2/wgS a1 a2 a3 a4 s) (woS a1 a2 a3 a4 s a3/wgS a1 a2 a3 a4 s) (woS a1 a2 a3 a4 s a4/wgS a1 a2 a3 a4 s))))))))))
def treeW (a1 a2 a3 a4:Rat):Lf:=.as (decide (0<(Int.gcd 1 (a1.den:Int):Int))) true (.as (decide (0<(Int.gcd (zJ7 1 (a1.den:Int)) (a2.den:Int):Int))) true (.br (sgn a1.num==0)
 (.as (decide (0<(Int.gcd (zJ7 (zJ7 1 (a1.den:Int)) (a2.den:Int)) (a3.den:Int):Int))) true (.br (sgn a2.num==0) (.as (decide (0<(Int.gcd (zJ7 (zJ7 (zJ7 1 (a1.den:Int)) (a2.den:Int)) (a3.den:Int)) (a4.den:Int):Int))) true (.br (sgn a3.num==0) (endW a1 a2 a3 a4 (sgn a4.num)) (endW a1 a2 a3 a4 (sgn a3.num)))) (.as (decide (0<(Int.gcd (zJ7 (zJ7 (zJ7 1 (a1.den:Int)) (a2.den:Int)) (a3.den:Int)) (a4.den:Int):Int))) true (.as (sgn a2.num==0) false (endW a1 a2 a3 a4 (sgn a2.num))))))
 (.as (decide (0<(Int.gcd (zJ7 (zJ7 1 (a1.den:Int)) (a2.den:Int)) (a3.den:Int):Int))) true (.as (sgn a1.num==0) false (.as (decide (0<(Int.gcd (zJ7 (zJ7 (zJ7 1 (a1.den:Int)) (a2.den:Int)) (a3.den:Int)) (a4.den:Int):Int))) true (.as (sgn a1.num==0) false (endW a1 a2 a3 a4 (sgn a1.num))))))))
theorem runW (a1 a2 a3 a4:Rat):zV9 sysW 104 [.so (.vg [.cr 0 0 8000 a1,.cr 0 1 8000 a1,.cr 0 2 8000 a1,.cr 0 3 8000 a1,.cr 1 0 8000 a2,.cr 1 1 8000 a2,.cr 1 2 8000 a2,.cr 1 3 8000 a2,.cr 2 0 8000 a3,.cr 2 1 8000 a3,.cr 2 2 8000 a3,.cr 2 3 8000 a3,.cr 3 0 8000 a4,.cr 3 1 8000 a4,.cr 3 2 8000 a4,.cr 3 3 8000 a4])] 4 0 (.s (.s (.s .e .e) (.f .e)) (.f (.f .e)))=some (treeW a1 a2 a3 a4):=by kernel_rfl
def zG5 (cs:List Value):Env:=⟨fun _=>0,fun j c=>cs.getD (4*j+c) undef,fun _ _=>undef,[]⟩
def okA (n:Nn) (X:Env) (W:World):List Cl→Prop
 | []=>True
 | c::l=>c.ok n X W∧okA n X W l
theorem zf6 {n:Nn} {X:Env} {W:World}:∀ {l:List Cl},okA n X W l→okL n X W l
 | [],_,_,h=>by cases h
 | c::l,hh,x,h=>by
  rcases List.mem_cons.1 h with rfl | h
  ·exact hh.1
  ·exact zf6 hh.2 x h
theorem okF1 {n:Nn} {X:Env} {W:World} {v:SV} (h:v.ok n X W):okF n X W [v]:=fun x hx=>by rw [List.mem_singleton] at hx;exact hx ▸ h
theorem zg7 (d:Int) (a:Rat):decide (0<(Int.gcd d (a.den:Int):Int))=true:=by
 have h:=a.den_pos
 have:0<Int.gcd d (a.den:Int):=Int.gcd_pos_of_ne_zero_right _ (by omega)
 exact decide_eq_true (by omega)
theorem zV8 {a1 a2 a3 a4:Rat} {s:Int} (hs:zQ6 a1 a2 a3 a4=s) (hg:0<yn1 a1 a2 a3 a4):
  LOK (fun v=>v=retW (wz a1 a2 a3 a4 a1) (wz a1 a2 a3 a4 a2) (wz a1 a2 a3 a4 a3) (wz a1 a2 a3 a4 a4)) (endW a1 a2 a3 a4 s):=by
 subst hs
 have d:=fun a:Rat=>decide_eq_true (zq3 a)
 have g:decide (0<wgS a1 a2 a3 a4 (zQ6 a1 a2 a3 a4))=true:=decide_eq_true hg
 exact ⟨d a1,d a2,d a3,d a4,g,g,g,g,rfl⟩
theorem treeW_ok {a1 a2 a3 a4:Rat} (hg:0<yn1 a1 a2 a3 a4):
  LOK (fun v=>v=retW (wz a1 a2 a3 a4 a1) (wz a1 a2 a3 a4 a2) (wz a1 a2 a3 a4 a3) (wz a1 a2 a3 a4 a4)) (treeW a1 a2 a3 a4):=by
 have t:=fun {z:Int} (h:(z==0)=true)=>eq_of_beq h
 have f:=fun {z:Int} (h:(z==0)=false)=>ne_of_beq_false h
 refine ⟨zg7 _ _,zg7 _ _,fun h1=>⟨zg7 _ _,fun h2=>⟨zg7 _ _,fun h3=>zV8 ?_ hg,fun h3=>zV8 ?_ hg⟩,fun h2=>⟨zg7 _ _,h2,zV8 ?_ hg⟩⟩,fun h1=>⟨zg7 _ _,h1,zg7 _ _,h1,zV8 ?_ hg⟩⟩
 ·unfold zQ6;rw [if_pos (t h1),if_pos (t h2),if_pos (t h3)]
 ·unfold zQ6;rw [if_pos (t h1),if_pos (t h2),if_neg (f h3)]
 ·unfold zQ6;rw [if_pos (t h1),if_neg (f h2)]
 ·unfold zQ6;rw [if_neg (f h1)]
theorem yn2 {k:Nat} {av ab ah aq:Value} {a1:Rat} {ai ak aj aa:Value} {a2:Rat} {ad af al ap:Value} {a3:Rat} {ar ae ac au:Value} {a4:Rat} {w:World} (h1:IsRat w k av ab ah aq a1) (h2:IsRat w k ai ak aj aa a2) (h3:IsRat w k ad af al ap a3) (h4:IsRat w k ar ae ac au a4) (hg:0<yn1 a1 a2 a3 a4) (hk:k≤8000):
  Calls Tryz.prog 104 #[.agg #[av,ab,ah,aq,ai,ak,aj,aa,ad,af,al,ap,ar,ae,ac,au]] w fun e w'=>(∃ t0 t1 t2 t3 t4 t5 t6 t7,e=.returned (.agg #[t0,t1,t2,t3,t4,t5,t6,t7])∧IsInt w' 40128 t0 t1 (wz a1 a2 a3 a4 a1)∧IsInt w' 40128 t2 t3 (wz a1 a2 a3 a4 a2)∧IsInt w' 40128 t4 t5 (wz a1 a2 a3 a4 a3)∧IsInt w' 40128 t6 t7 (wz a1 a2 a3 a4 a4))∧Gr w w':=by
 replace h1:=h1.mono hk
 replace h2:=h2.mono hk
 replace h3:=h3.mono hk
 replace h4:=h4.mono hk
 refine (zc8 sysW sysW_ok (runW a1 a2 a3 a4) (X:=zG5 [av,ab,ah,aq,ai,ak,aj,aa,ad,af,al,ap,ar,ae,ac,au]) trivial (okF1 (zf6 ⟨⟨rfl,h1⟩,⟨rfl,h1⟩,⟨rfl,h1⟩,⟨rfl,h1⟩,⟨rfl,h2⟩,⟨rfl,h2⟩,⟨rfl,h2⟩,⟨rfl,h2⟩,⟨rfl,h3⟩,⟨rfl,h3⟩,⟨rfl,h3⟩,⟨rfl,h3⟩,⟨rfl,h4⟩,⟨rfl,h4⟩,⟨rfl,h4⟩,⟨rfl,h4⟩,trivial⟩)) (treeW_ok hg)).mono fun e w' he=>?_
 obtain ⟨v,X',n,rfl,g,_,hv,rfl⟩:=he
 exact ⟨⟨_,_,_,_,_,_,_,_,rfl,(hv _ (.head _)).2,(hv _ (.tail _ (.tail _ (.head _)))).2,(hv _ (.tail _ (.tail _ (.tail _ (.tail _ (.head _)))))).2,(hv _ (.tail _ (.tail _ (.tail _ (.tail _ (.tail _ (.tail _ (.head _)))))))).2⟩,g⟩
theorem wsgn_ne {a1 a2 a3 a4:Rat} (h:¬(a1=0∧a2=0∧a3=0∧a4=0)):zQ6 a1 a2 a3 a4≠0:=by
 unfold zQ6
 have z:∀ a:Rat,sgn a.num=0→a=0:=fun a ha=>Rat.num_eq_zero.1 (zc4.1 ha)
 split
 ·next h1=>
  split
  ·next h2=>
   split
   ·next h3=>exact fun h4=>h ⟨z _ h1,z _ h2,z _ h3,z _ h4⟩
   ·assumption
  ·assumption
 ·assumption
theorem zG3 {d:Int} (q:Rat) (_h:0<d):d∣zJ7 d (q.den:Int)∧(q.den:Int)∣zJ7 d (q.den:Int):=by
 obtain ⟨h1,h2⟩:=gcd_ex d q
 unfold zJ7
 refine ⟨?_,Int.dvd_mul_left _ _⟩
 obtain ⟨c,hc⟩:=h2
 have h3:(Int.gcd d (q.den:Int):Int)∣(q.den:Int):=Int.gcd_dvd_right ..
 obtain ⟨e,he⟩:=h3
 generalize (Int.gcd d (q.den:Int):Int)=g at*
 refine ⟨e,?_⟩
 rw [he,hc,Int.mul_ediv_cancel_left c (by omega)]
 rw [← Int.mul_assoc,Int.mul_comm c g,Int.mul_assoc]
theorem zM3 (a1 a2 a3 a4:Rat):0<zq2 a1 a2 a3 a4:=zo2 _ (zo2 _ (zo2 _ (zo2 _ (by omega))))
theorem zM4 (a1 a2 a3 a4:Rat):(a1.den:Int)∣zq2 a1 a2 a3 a4∧(a2.den:Int)∣zq2 a1 a2 a3 a4∧(a3.den:Int)∣zq2 a1 a2 a3 a4∧(a4.den:Int)∣zq2 a1 a2 a3 a4:=by
 have p1:(0:Int)<1:=by omega
 have p2:=zo2 a1 p1
 have p3:=zo2 a2 p2
 have p4:=zo2 a3 p3
 have d1:=zG3 a1 p1
 have d2:=zG3 a2 p2
 have d3:=zG3 a3 p3
 have d4:=zG3 a4 p4
 unfold zq2
 exact ⟨Int.dvd_trans d1.2 (Int.dvd_trans d2.1 (Int.dvd_trans d3.1 d4.1)),Int.dvd_trans d2.2 (Int.dvd_trans d3.1 d4.1),Int.dvd_trans d3.2 d4.1,d4.2⟩
theorem zQ5 {d x:Int} (hd:0<d) (hx:0<x) (h:x∣d):0<d/x:=by
 obtain ⟨c,rfl⟩:=h
 rw [Int.mul_ediv_cancel_left c (by omega)]
 rcases Int.lt_or_le 0 c with h3 | h3
 ·exact h3
 ·have:=Int.mul_nonpos_of_nonneg_of_nonpos (Int.le_of_lt hx) h3;omega
theorem zA6 {a1 a2 a3 a4 x:Rat} (hs:zQ6 a1 a2 a3 a4≠0) (hd:(x.den:Int)∣zq2 a1 a2 a3 a4) (h:yq6 a1 a2 a3 a4 x=0):x=0:=by
 have h1:=zQ5 (zM3 a1 a2 a3 a4) (zq3 x) hd
 unfold yq6 at h
 rcases Int.mul_eq_zero.1 h with h | h
 ·rcases Int.mul_eq_zero.1 h with h | h
  ·exact Rat.num_eq_zero.1 h
  ·omega
 ·exact absurd h hs
theorem zG4 {a1 a2 a3 a4:Rat} (h:¬(a1=0∧a2=0∧a3=0∧a4=0)):0<yn1 a1 a2 a3 a4:=by
 have hs:=wsgn_ne h
 have hd:=zM4 a1 a2 a3 a4
 have h0:0≤yn1 a1 a2 a3 a4:=Int.natCast_nonneg _
 rcases Int.lt_or_le 0 (yn1 a1 a2 a3 a4) with h1 | h1
 ·exact h1
 ·exfalso
  apply h
  have e:yn1 a1 a2 a3 a4=0:=by omega
  unfold yn1 at e
  have e1:=Int.gcd_eq_zero_iff.1 (Int.natCast_eq_zero.1 e)
  have e2:=Int.gcd_eq_zero_iff.1 (Int.natCast_eq_zero.1 e1.1)
  have e3:=Int.gcd_eq_zero_iff.1 (Int.natCast_eq_zero.1 e2.1)
  have e4:=Int.gcd_eq_zero_iff.1 (Int.natCast_eq_zero.1 e3.1)
  exact ⟨zA6 hs hd.1 e4.2,zA6 hs hd.2.1 e3.2,zA6 hs hd.2.2.1 e2.2,zA6 hs hd.2.2.2 e1.2⟩
def zM7 (a11 a12 a13 a21 a22 a23 a31 a32 a33:Rat):Rat × Rat × Rat × Rat:=
 if sgn ((((0+1)+a11)+a22)+a33).num=0 then (if sgn ((1+a11) - (a22+a33)).num=0 then (if sgn ((1+a22) - (a11+a33)).num=0 then ((a21 - a12),(a13+a31),(a23+a32),((1+a33) - (a11+a22))) else ((a13 - a31),(a12+a21),((1+a22) - (a11+a33)),(a23+a32))) else ((a32 - a23),((1+a11) - (a22+a33)),(a12+a21),(a13+a31))) else (((((0+1)+a11)+a22)+a33),(a32 - a23),(a13 - a31),(a21 - a12))
def wzq (r:Rat × Rat × Rat × Rat) (i:Nat):Int:=wz r.1 r.2.1 r.2.2.1 r.2.2.2 (match i with | 0=>r.1 | 1=>r.2.1 | 2=>r.2.2.1 | _=>r.2.2.2)
section
variable {a11 a12 a13 a21 a22 a23 a31 a32 a33:Rat}
theorem qrow1f (h0:(sgn ((((0+1)+a11)+a22)+a33).num==(0:Int))=false):zM7 a11 a12 a13 a21 a22 a23 a31 a32 a33=(((((0+1)+a11)+a22)+a33),(a32 - a23),(a13 - a31),(a21 - a12)):=by
 unfold zM7
 simp only [beq_eq_false_iff_ne,ne_eq] at h0
 rw [if_neg h0]
theorem yF6 (h0:(sgn ((((0+1)+a11)+a22)+a33).num==(0:Int))=false):0<yn1 ((((0+1)+a11)+a22)+a33) (a32 - a23) (a13 - a31) (a21 - a12):=zG4 (by
 rintro ⟨h5,h6,h7,h8⟩
 rw [h5] at h0;exact absurd h0 (by decide))
theorem qrow2f (h0:(sgn ((((0+1)+a11)+a22)+a33).num==(0:Int))=true) (h1:(sgn ((1+a11) - (a22+a33)).num==(0:Int))=false):zM7 a11 a12 a13 a21 a22 a23 a31 a32 a33=((a32 - a23),((1+a11) - (a22+a33)),(a12+a21),(a13+a31)):=by
 unfold zM7
 simp only [beq_iff_eq,beq_eq_false_iff_ne,ne_eq] at h0 h1
 rw [if_pos h0,if_neg h1]
theorem yF7 (_h0:(sgn ((((0+1)+a11)+a22)+a33).num==(0:Int))=true) (h1:(sgn ((1+a11) - (a22+a33)).num==(0:Int))=false):0<yn1 (a32 - a23) ((1+a11) - (a22+a33)) (a12+a21) (a13+a31):=zG4 (by
 rintro ⟨h5,h6,h7,h8⟩
 rw [h6] at h1;exact absurd h1 (by decide))
theorem qrow3f (h0:(sgn ((((0+1)+a11)+a22)+a33).num==(0:Int))=true) (h1:(sgn ((1+a11) - (a22+a33)).num==(0:Int))=true) (h2:(sgn ((1+a22) - (a11+a33)).num==(0:Int))=false):zM7 a11 a12 a13 a21 a22 a23 a31 a32 a33=((a13 - a31),(a12+a21),((1+a22) - (a11+a33)),(a23+a32)):=by
 unfold zM7
 simp only [beq_iff_eq,beq_eq_false_iff_ne,ne_eq] at h0 h1 h2
 rw [if_pos h0,if_pos h1,if_neg h2]
theorem yF8 (_h0:(sgn ((((0+1)+a11)+a22)+a33).num==(0:Int))=true) (_h1:(sgn ((1+a11) - (a22+a33)).num==(0:Int))=true) (h2:(sgn ((1+a22) - (a11+a33)).num==(0:Int))=false):0<yn1 (a13 - a31) (a12+a21) ((1+a22) - (a11+a33)) (a23+a32):=zG4 (by
 rintro ⟨h5,h6,h7,h8⟩
 rw [h7] at h2;exact absurd h2 (by decide))
theorem qrow3t (h0:(sgn ((((0+1)+a11)+a22)+a33).num==(0:Int))=true) (h1:(sgn ((1+a11) - (a22+a33)).num==(0:Int))=true) (h2:(sgn ((1+a22) - (a11+a33)).num==(0:Int))=true):zM7 a11 a12 a13 a21 a22 a23 a31 a32 a33=((a21 - a12),(a13+a31),(a23+a32),((1+a33) - (a11+a22))):=by
 unfold zM7
 simp only [beq_iff_eq] at h0 h1 h2
 rw [if_pos h0,if_pos h1,if_pos h2]
theorem yF9 (h0:(sgn ((((0+1)+a11)+a22)+a33).num==(0:Int))=true) (h1:(sgn ((1+a11) - (a22+a33)).num==(0:Int))=true) (h2:(sgn ((1+a22) - (a11+a33)).num==(0:Int))=true):0<yn1 (a21 - a12) (a13+a31) (a23+a32) ((1+a33) - (a11+a22)):=zG4 (by
 rintro ⟨h5,h6,h7,h8⟩
 simp only [beq_iff_eq,zc4,Rat.num_eq_zero] at h0 h1 h2
 grind)
end
def qgcd (n1 n2 n3 n4:Int):Int:=(Int.gcd (Int.gcd (Int.gcd (Int.gcd 0 n1:Int) n2:Int) n3:Int) n4:Int)
def qsgn (n1 n2 n3 n4:Int):Int:=if n1=0 then (if n2=0 then (if n3=0 then sgn n4 else sgn n3) else sgn n2) else sgn n1
def za2 (n1 n2 n3 n4 n:Int):Int:=n/qgcd n1 n2 n3 n4*qsgn n1 n2 n3 n4
theorem yk4 (k a b:Int):(Int.gcd (k*a) (k*b):Int)=(k.natAbs:Int)*(Int.gcd a b:Int):=by
 rw [Int.gcd_mul_left];exact Int.natCast_mul ..
theorem zS7 (k a b:Int):(Int.gcd ((k.natAbs:Int)*a) (k*b):Int)=(k.natAbs:Int)*(Int.gcd a b:Int):=by
 rw [← yk4]
 rcases Int.natAbs_eq k with h | h
 ·rw [← h]
 ·generalize (k.natAbs:Int)=m at h;subst h
  rw [Int.neg_mul,Int.neg_mul,Int.gcd_neg,Int.neg_gcd,Int.gcd_neg]
theorem zS8 (k n1 n2 n3 n4:Int):qgcd (k*n1) (k*n2) (k*n3) (k*n4)=(k.natAbs:Int)*qgcd n1 n2 n3 n4:=by
 unfold qgcd
 have h0:(Int.gcd 0 (k*n1):Int)=(k.natAbs:Int)*(Int.gcd 0 n1:Int):=by
  rw [← yk4,Int.mul_zero]
 rw [h0,zS7,zS7,zS7]
theorem zl3 (n1 n2 n3 n4:Int):qgcd n1 n2 n3 n4∣n1∧qgcd n1 n2 n3 n4∣n2∧qgcd n1 n2 n3 n4∣n3∧qgcd n1 n2 n3 n4∣n4:=by
 unfold qgcd
 refine ⟨?_,?_,?_,Int.gcd_dvd_right ..⟩
 ·exact Int.dvd_trans (Int.gcd_dvd_left ..) (Int.dvd_trans (Int.gcd_dvd_left ..) (Int.dvd_trans (Int.gcd_dvd_left ..) (Int.gcd_dvd_right ..)))
 ·exact Int.dvd_trans (Int.gcd_dvd_left ..) (Int.dvd_trans (Int.gcd_dvd_left ..) (Int.gcd_dvd_right ..))
 ·exact Int.dvd_trans (Int.gcd_dvd_left ..) (Int.gcd_dvd_right ..)
theorem zw3 (n1 n2 n3 n4:Int):0≤qgcd n1 n2 n3 n4:=Int.natCast_nonneg _
theorem yx6 {n1 n2 n3 n4:Int} (h:qgcd n1 n2 n3 n4=0):n1=0∧n2=0∧n3=0∧n4=0:=by
 obtain ⟨h1,h2,h3,h4⟩:=zl3 n1 n2 n3 n4
 rw [h] at h1 h2 h3 h4
 exact ⟨Int.zero_dvd.1 h1,Int.zero_dvd.1 h2,Int.zero_dvd.1 h3,Int.zero_dvd.1 h4⟩
theorem zy7 {n1 n2 n3 n4:Int} (h:¬(n1=0∧n2=0∧n3=0∧n4=0)):0<qgcd n1 n2 n3 n4:=by
 have h0:=zw3 n1 n2 n3 n4
 have h1:qgcd n1 n2 n3 n4≠0:=fun e=>h (yx6 e)
 omega
theorem yk5 (a b:Int):sgn (a*b)=sgn a*sgn b:=by
 have key:∀ x y:Int,0<x→sgn (x*y)=sgn y:=by
  intro x y hx
  unfold sgn
  rcases Int.lt_trichotomy y 0 with h | h | h
  ·rw [if_pos h,if_pos (Int.mul_neg_of_pos_of_neg hx h)]
  ·subst h;simp
  ·have:=Int.mul_pos hx h
   rw [if_neg (by omega),if_neg (by omega),if_neg (by omega),if_neg (by omega)]
 rcases Int.lt_trichotomy a 0 with h | h | h
 ·have e:a*b=-(-a*b):=by rw [Int.neg_mul,Int.neg_neg]
  have h2:=key (-a) b (by omega)
  have h3:sgn a=-1:=by unfold sgn;rw [if_pos h]
  rw [h3,← h2,e]
  unfold sgn
  generalize -a*b=z
  split<;>(try split)<;>(try split)<;>omega
 ·subst h;simp [sgn]
 ·rw [key a b h,show sgn a=1 by unfold sgn;rw [if_neg (by omega),if_neg (by omega)],Int.one_mul]
theorem yk6 {k:Int} (hk:k≠0) (n1 n2 n3 n4:Int):qsgn (k*n1) (k*n2) (k*n3) (k*n4)=sgn k*qsgn n1 n2 n3 n4:=by
 have z:∀ n:Int,k*n=0↔n=0:=fun n=>by simp [Int.mul_eq_zero,hk]
 unfold qsgn
 simp only [z,yk5]
 split
 ·split
  ·split<;>rfl
  ·rfl
 ·rfl
theorem yp2 (k:Int):k=(k.natAbs:Int)*sgn k:=by unfold sgn;split<;>(try split)<;>omega
theorem sgn_sq {k:Int} (hk:k≠0):sgn k*sgn k=1:=by unfold sgn;rw [if_neg hk];split<;>rfl
theorem zY4 {k:Int} (hk:k≠0) (n1 n2 n3 n4:Int) {n:Int} (h:qgcd n1 n2 n3 n4∣n):za2 (k*n1) (k*n2) (k*n3) (k*n4) (k*n)=za2 n1 n2 n3 n4 n:=by
 unfold za2
 rw [zS8,yk6 hk]
 obtain ⟨c,rfl⟩:=h
 generalize qgcd n1 n2 n3 n4=g
 generalize qsgn n1 n2 n3 n4=σ
 by_cases hg:g=0
 ·subst hg;simp
 ·have e:k*(g*c)=(k.natAbs:Int)*g*(sgn k*c):=by
   conv=>lhs;rw [yp2 k]
   rw [Int.mul_assoc,Int.mul_assoc,Int.mul_left_comm (sgn k)]
  rw [e,Int.mul_ediv_cancel_left _ (by simp [Int.mul_eq_zero];omega),Int.mul_ediv_cancel_left _ hg]
  rw [show sgn k*c*(sgn k*σ)=(sgn k*sgn k)*(c*σ) by rw [Int.mul_assoc,Int.mul_assoc,Int.mul_left_comm c],sgn_sq hk,Int.one_mul]
def wm (a1 a2 a3 a4 x:Rat):Int:=x.num*(zq2 a1 a2 a3 a4/(x.den:Int))
theorem zY5 (n:Int) {d:Nat} (hd:0<d):Rat.divInt n (d:Int)*((d:Int):Rat)=(n:Rat):=by
 rw [Rat.divInt_eq_div]
 have:((d:Int):Rat)≠0:=by
  intro e
  have:=Rat.intCast_inj.1 (e.trans rfl:((d:Int):Rat)=((0:Int):Rat))
  omega
 exact Rat.div_mul_cancel this
theorem zs0 (x:Rat):x*((x.den:Int):Rat)=(x.num:Rat):=by
 have:=zY5 x.num x.den_pos
 rw [Rat.num_divInt_den] at this
 exact this
theorem wm_rat {a1 a2 a3 a4 x:Rat} (h:(x.den:Int)∣zq2 a1 a2 a3 a4):((wm a1 a2 a3 a4 x:Int):Rat)=x*((zq2 a1 a2 a3 a4:Int):Rat):=by
 unfold wm
 obtain ⟨c,hc⟩:=h
 have hd:=zq3 x
 rw [hc,Int.mul_ediv_cancel_left _ (by omega)]
 have e:x*((x.den:Int):Rat)=((x.num:Int):Rat):=zs0 x
 rw [Rat.intCast_mul,Rat.intCast_mul,← Rat.mul_assoc,e]
theorem yk7 (a1 a2 a3 a4 x:Rat) (h:(x.den:Int)∣zq2 a1 a2 a3 a4):sgn (wm a1 a2 a3 a4 x)=sgn x.num:=by
 unfold wm
 have:=zQ5 (zM3 a1 a2 a3 a4) (zq3 x) h
 rw [yk5,show sgn (zq2 a1 a2 a3 a4/(x.den:Int))=1 by unfold sgn;rw [if_neg (by omega),if_neg (by omega)],Int.mul_one]
theorem wz_qprim (a1 a2 a3 a4:Rat) (h:¬(a1=0∧a2=0∧a3=0∧a4=0)) {x:Rat} (hx:x=a1∨x=a2∨x=a3∨x=a4):
  wz a1 a2 a3 a4 x=za2 (wm a1 a2 a3 a4 a1) (wm a1 a2 a3 a4 a2) (wm a1 a2 a3 a4 a3) (wm a1 a2 a3 a4 a4) (wm a1 a2 a3 a4 x):=by
 have hd:=zM4 a1 a2 a3 a4
 have s1:=yk7 a1 a2 a3 a4 a1 hd.1
 have s2:=yk7 a1 a2 a3 a4 a2 hd.2.1
 have s3:=yk7 a1 a2 a3 a4 a3 hd.2.2.1
 have s4:=yk7 a1 a2 a3 a4 a4 hd.2.2.2
 have hs:zQ6 a1 a2 a3 a4=qsgn (wm a1 a2 a3 a4 a1) (wm a1 a2 a3 a4 a2) (wm a1 a2 a3 a4 a3) (wm a1 a2 a3 a4 a4):=by
  unfold zQ6 qsgn
  rw [← s1,← s2,← s3,← s4]
  simp only [zc4]
 have hne:zQ6 a1 a2 a3 a4≠0:=by
  intro e
  have z:∀ a:Rat,sgn a.num=0→a=0:=fun a ha=>Rat.num_eq_zero.1 (zc4.1 ha)
  unfold zQ6 at e
  split at e
  ·next h1=>
   split at e
   ·next h2=>
    split at e
    ·next h3=>exact h ⟨z _ h1,z _ h2,z _ h3,z _ e⟩
    ·contradiction
   ·contradiction
  ·contradiction
 have ho:∀ y,yq6 a1 a2 a3 a4 y=zQ6 a1 a2 a3 a4*wm a1 a2 a3 a4 y:=fun y=>by unfold yq6 wm;rw [Int.mul_comm]
 have hab:((zQ6 a1 a2 a3 a4).natAbs:Int)=1:=by
  have:zQ6 a1 a2 a3 a4=-1∨zQ6 a1 a2 a3 a4=0∨zQ6 a1 a2 a3 a4=1:=by
   have k:∀ z,sgn z=-1∨sgn z=0∨sgn z=1:=fun z=>by unfold sgn;split<;>(try split)<;>omega
   unfold zQ6;split
   ·split
    ·split<;>exact k _
    ·exact k _
   ·exact k _
  omega
 have hg:yn1 a1 a2 a3 a4=qgcd (wm a1 a2 a3 a4 a1) (wm a1 a2 a3 a4 a2) (wm a1 a2 a3 a4 a3) (wm a1 a2 a3 a4 a4):=by
  show qgcd (yq6 a1 a2 a3 a4 a1) (yq6 a1 a2 a3 a4 a2) (yq6 a1 a2 a3 a4 a3) (yq6 a1 a2 a3 a4 a4)=_
  rw [ho,ho,ho,ho,zS8,hab,Int.one_mul]
 have hdv:qgcd (wm a1 a2 a3 a4 a1) (wm a1 a2 a3 a4 a2) (wm a1 a2 a3 a4 a3) (wm a1 a2 a3 a4 a4)∣wm a1 a2 a3 a4 x:=by
  obtain ⟨h1,h2,h3,h4⟩:=zl3 (wm a1 a2 a3 a4 a1) (wm a1 a2 a3 a4 a2) (wm a1 a2 a3 a4 a3) (wm a1 a2 a3 a4 a4)
  rcases hx with rfl | rfl | rfl | rfl<;>assumption
 unfold wz za2
 rw [ho,hg,← hs]
 obtain ⟨c,hc⟩:=hdv
 rw [hc]
 generalize qgcd _ _ _ _=g
 by_cases h0:g=0
 ·subst h0;simp
 ·rw [Int.mul_left_comm,Int.mul_ediv_cancel_left _ h0,Int.mul_ediv_cancel_left _ h0,Int.mul_comm]
theorem wz_of {c:Rat} (hc:c≠0) {n1 n2 n3 n4 n:Int} (hn:¬(n1=0∧n2=0∧n3=0∧n4=0)) (hx:n=n1∨n=n2∨n=n3∨n=n4) {a1 a2 a3 a4 x:Rat}
  (h1:a1=c*((n1:Int):Rat)) (h2:a2=c*((n2:Int):Rat)) (h3:a3=c*((n3:Int):Rat)) (h4:a4=c*((n4:Int):Rat)) (h:x=c*((n:Int):Rat)):
  wz a1 a2 a3 a4 x=za2 n1 n2 n3 n4 n:=by
 have ha:¬(a1=0∧a2=0∧a3=0∧a4=0):=by
  rintro ⟨e1,e2,e3,e4⟩
  have z:∀ m:Int,c*((m:Int):Rat)=0→m=0:=fun m hm=>by
   rcases Rat.mul_eq_zero.1 hm with h | h
   ·exact absurd h hc
   ·exact Rat.intCast_eq_zero_iff.1 h
  exact hn ⟨z _ (h1 ▸ e1),z _ (h2 ▸ e2),z _ (h3 ▸ e3),z _ (h4 ▸ e4)⟩
 have hx':x=a1∨x=a2∨x=a3∨x=a4:=by
  rcases hx with rfl | rfl | rfl | rfl
  ·exact .inl (h.trans h1.symm)
  ·exact .inr (.inl (h.trans h2.symm))
  ·exact .inr (.inr (.inl (h.trans h3.symm)))
  ·exact .inr (.inr (.inr (h.trans h4.symm)))
 rw [wz_qprim a1 a2 a3 a4 ha hx']
 have hd:=zM4 a1 a2 a3 a4
 have hD:=zM3 a1 a2 a3 a4
 -- each integer,times c's denominator,is n times c's numerator and the common denominator
 have key:∀ (y:Rat) (m:Int),(y.den:Int)∣zq2 a1 a2 a3 a4→y=c*((m:Int):Rat)→(c.den:Int)*wm a1 a2 a3 a4 y=(c.num*zq2 a1 a2 a3 a4)*m:=by
  intro y m hy e
  have e1:=wm_rat hy
  have e2:c*((c.den:Int):Rat)=((c.num:Int):Rat):=zs0 c
  have:(((c.den:Int)*wm a1 a2 a3 a4 y:Int):Rat)=(((c.num*zq2 a1 a2 a3 a4)*m:Int):Rat):=by
   rw [Rat.intCast_mul,Rat.intCast_mul,Rat.intCast_mul,e1,e,← e2]
   generalize ((zq2 a1 a2 a3 a4:Int):Rat)=D
   generalize ((c.den:Int):Rat)=d
   generalize ((m:Int):Rat)=mm
   grind
  exact Rat.intCast_inj.1 this
 have hdx:(x.den:Int)∣zq2 a1 a2 a3 a4:=by rcases hx' with rfl | rfl | rfl | rfl<;>first | exact hd.1 | exact hd.2.1 | exact hd.2.2.1 | exact hd.2.2.2
 have k1:=key a1 n1 hd.1 h1
 have k2:=key a2 n2 hd.2.1 h2
 have k3:=key a3 n3 hd.2.2.1 h3
 have k4:=key a4 n4 hd.2.2.2 h4
 have k:=key x n hdx h
 have hcd:=zq3 c
 have hcn:c.num≠0:=fun e=>hc (Rat.num_eq_zero.1 e)
 have aa:qgcd (wm a1 a2 a3 a4 a1) (wm a1 a2 a3 a4 a2) (wm a1 a2 a3 a4 a3) (wm a1 a2 a3 a4 a4)∣wm a1 a2 a3 a4 x:=by
  obtain ⟨h1,h2,h3,h4⟩:=zl3 (wm a1 a2 a3 a4 a1) (wm a1 a2 a3 a4 a2) (wm a1 a2 a3 a4 a3) (wm a1 a2 a3 a4 a4)
  rcases hx' with rfl | rfl | rfl | rfl<;>assumption
 have ab:qgcd n1 n2 n3 n4∣n:=by
  obtain ⟨h1,h2,h3,h4⟩:=zl3 n1 n2 n3 n4
  rcases hx with rfl | rfl | rfl | rfl<;>assumption
 rw [← zY4 (k:=(c.den:Int)) (by omega) _ _ _ _ aa,k1,k2,k3,k4,k]
 exact zY4 (Int.mul_ne_zero hcn (by omega)) _ _ _ _ ab
structure RotQ (a11 a12 a13 a21 a22 a23 a31 a32 a33 w x y z:Rat):Prop where
 e11:a11*(w*w+x*x+y*y+z*z)=w*w+x*x - y*y - z*z
 e12:a12*(w*w+x*x+y*y+z*z)=2*(x*y - w*z)
 e13:a13*(w*w+x*x+y*y+z*z)=2*(x*z+w*y)
 e21:a21*(w*w+x*x+y*y+z*z)=2*(x*y+w*z)
 e22:a22*(w*w+x*x+y*y+z*z)=w*w - x*x+y*y - z*z
 e23:a23*(w*w+x*x+y*y+z*z)=2*(y*z - w*x)
 e31:a31*(w*w+x*x+y*y+z*z)=2*(x*z - w*y)
 e32:a32*(w*w+x*x+y*y+z*z)=2*(y*z+w*x)
 e33:a33*(w*w+x*x+y*y+z*z)=w*w - x*x - y*y+z*z
theorem norm_mul (a b c d p q r s:Rat):
  (a*p - b*q - c*r - d*s)*(a*p - b*q - c*r - d*s)+(a*q+b*p+c*s - d*r)*(a*q+b*p+c*s - d*r)+(a*r - b*s+c*p+d*q)*(a*r - b*s+c*p+d*q)+(a*s+b*r - c*q+d*p)*(a*s+b*r - c*q+d*p)
  =(a*a+b*b+c*c+d*d)*(p*p+q*q+r*r+s*s):=by grind
theorem yk8 {a11 a12 a13 a21 a22 a23 a31 a32 a33 af ae ab ah aa aj ad ai ac a b c d p q r s:Rat}
  (h:RotQ a11 a12 a13 a21 a22 a23 a31 a32 a33 a b c d) (g:RotQ af ae ab ah aa aj ad ai ac p q r s):
  RotQ (0+a11*af+a12*ah+a13*ad) (0+a11*ae+a12*aa+a13*ai) (0+a11*ab+a12*aj+a13*ac)
   (0+a21*af+a22*ah+a23*ad) (0+a21*ae+a22*aa+a23*ai) (0+a21*ab+a22*aj+a23*ac)
   (0+a31*af+a32*ah+a33*ad) (0+a31*ae+a32*aa+a33*ai) (0+a31*ab+a32*aj+a33*ac)
   (a*p - b*q - c*r - d*s) (a*q+b*p+c*s - d*r) (a*r - b*s+c*p+d*q) (a*s+b*r - c*q+d*p):=by
 obtain ⟨au,aG,az,aq,aA,ap,ar,aB,aF⟩:=h
 obtain ⟨av,al,aw,aC,aE,ax,ay,aD,ak⟩:=g
 have key:∀ x y z u v t X Y Z U V T N M:Rat,x*N=X→y*N=Y→z*N=Z→u*M=U→v*M=V→t*M=T→
   (0+x*u+y*v+z*t)*(N*M)=X*U+Y*V+Z*T:=by
  intro x y z u v t X Y Z U V T N M h1 h2 h3 h4 h5 h6
  subst h1 h2 h3 h4 h5 h6
  grind
 constructor<;>rw [norm_mul]
 ·rw [key _ _ _ _ _ _ _ _ _ _ _ _ _ _ au aG az av aC ay];grind
 ·rw [key _ _ _ _ _ _ _ _ _ _ _ _ _ _ au aG az al aE aD];grind
 ·rw [key _ _ _ _ _ _ _ _ _ _ _ _ _ _ au aG az aw ax ak];grind
 ·rw [key _ _ _ _ _ _ _ _ _ _ _ _ _ _ aq aA ap av aC ay];grind
 ·rw [key _ _ _ _ _ _ _ _ _ _ _ _ _ _ aq aA ap al aE aD];grind
 ·rw [key _ _ _ _ _ _ _ _ _ _ _ _ _ _ aq aA ap aw ax ak];grind
 ·rw [key _ _ _ _ _ _ _ _ _ _ _ _ _ _ ar aB aF av aC ay];grind
 ·rw [key _ _ _ _ _ _ _ _ _ _ _ _ _ _ ar aB aF al aE aD];grind
 ·rw [key _ _ _ _ _ _ _ _ _ _ _ _ _ _ ar aB aF aw ax ak];grind
theorem yx7 {a11 a12 a13 a21 a22 a23 a31 a32 a33 w x y z:Rat} (h:RotQ a11 a12 a13 a21 a22 a23 a31 a32 a33 w x y z):
  RotQ a11 a21 a31 a12 a22 a32 a13 a23 a33 w (-x) (-y) (-z):=by
 obtain ⟨h11,h12,h13,h21,h22,h23,h31,h32,h33⟩:=h
 have e:w*w+-x*-x+-y*-y+-z*-z=w*w+x*x+y*y+z*z:=by grind
 constructor<;>rw [e]<;>grind
theorem rotq_id:RotQ 1 0 0 0 1 0 0 0 1 1 0 0 0:=by constructor<;>grind
theorem nq_ne {w x y z:Rat} (h:¬(w=0∧x=0∧y=0∧z=0)):w*w+x*x+y*y+z*z≠0:=by
 intro e
 have sq:∀ t:Rat,0≤t*t:=fun t=>by
  rcases (Rat.le_total:(0:Rat)≤t∨t≤0) with ht | ht
  ·exact Rat.mul_nonneg ht ht
  ·have:=Rat.mul_nonneg (show (0:Rat)≤-t by grind) (show (0:Rat)≤-t by grind)
   grind
 have s1:=sq w;have s2:=sq x;have s3:=sq y;have s4:=sq z
 have z0:∀ t:Rat,t*t=0→t=0:=fun t ht=>by rcases Rat.mul_eq_zero.1 ht with h | h<;>exact h
 exact h ⟨z0 _ (by grind),z0 _ (by grind),z0 _ (by grind),z0 _ (by grind)⟩
theorem zf1 {N a b:Rat} (hN:N≠0) (h:a*N=b*N):a=b:=by grind
theorem yx8 {a11 a12 a13 a21 a22 a23 a31 a32 a33 w x y z k:Rat} (hk:k≠0) (h:RotQ a11 a12 a13 a21 a22 a23 a31 a32 a33 (k*w) (k*x) (k*y) (k*z)):
  RotQ a11 a12 a13 a21 a22 a23 a31 a32 a33 w x y z:=by
 obtain ⟨h11,h12,h13,h21,h22,h23,h31,h32,h33⟩:=h
 have hk2:k*k≠0:=fun e=>by rcases Rat.mul_eq_zero.1 e with h | h<;>exact hk h
 constructor<;>apply zf1 hk2<;>grind
theorem yd8 {a11 a12 a13 a21 a22 a23 a31 a32 a33 ad ai ac aj aa ah ae ab af w x y z:Rat} (h0:¬(w=0∧x=0∧y=0∧z=0))
  (h:RotQ a11 a12 a13 a21 a22 a23 a31 a32 a33 w x y z) (g:RotQ ad ai ac aj aa ah ae ab af w x y z):
  a11=ad∧a12=ai∧a13=ac∧a21=aj∧a22=aa∧a23=ah∧a31=ae∧a32=ab∧a33=af:=by
 have hN:=nq_ne h0
 exact ⟨zf1 hN (h.e11.trans g.e11.symm),zf1 hN (h.e12.trans g.e12.symm),zf1 hN (h.e13.trans g.e13.symm),zf1 hN (h.e21.trans g.e21.symm),zf1 hN (h.e22.trans g.e22.symm),zf1 hN (h.e23.trans g.e23.symm),zf1 hN (h.e31.trans g.e31.symm),zf1 hN (h.e32.trans g.e32.symm),zf1 hN (h.e33.trans g.e33.symm)⟩
theorem yx9 {a11 a12 a13 a21 a22 a23 a31 a32 a33 w x y z:Rat} (h0:¬(w=0∧x=0∧y=0∧z=0))
  (h:RotQ a11 a12 a13 a21 a22 a23 a31 a32 a33 w x y z):
  0+a11*a11+a12*a12+a13*a13=1∧0+a11*a21+a12*a22+a13*a23=0∧0+a11*a31+a12*a32+a13*a33=0∧
  0+a21*a11+a22*a12+a23*a13=0∧0+a21*a21+a22*a22+a23*a23=1∧0+a21*a31+a22*a32+a23*a33=0∧
  0+a31*a11+a32*a12+a33*a13=0∧0+a31*a21+a32*a22+a33*a23=0∧0+a31*a31+a32*a32+a33*a33=1:=by
 have hN:=nq_ne h0
 have m:=yk8 h (yx7 h)
 have hk:w*w+x*x+y*y+z*z≠0:=hN
 have e1:w*w - x*-x - y*-y - z*-z=(w*w+x*x+y*y+z*z)*1:=by grind
 have e2:w*-x+x*w+y*-z - z*-y=(w*w+x*x+y*y+z*z)*0:=by grind
 have e3:w*-y - x*-z+y*w+z*-x=(w*w+x*x+y*y+z*z)*0:=by grind
 have e4:w*-z+x*-y - y*-x+z*w=(w*w+x*x+y*y+z*z)*0:=by grind
 rw [e1,e2,e3,e4] at m
 exact yd8 (by rintro ⟨h,_⟩;exact absurd h (by decide)) (yx8 hk m) rotq_id
theorem rotq_det {a11 a12 a13 a21 a22 a23 a31 a32 a33 w x y z:Rat} (h0:¬(w=0∧x=0∧y=0∧z=0))
  (h:RotQ a11 a12 a13 a21 a22 a23 a31 a32 a33 w x y z):
  a11*(a22*a33 - a23*a32)+a12*(a23*a31 - a21*a33)+a13*(a21*a32 - a22*a31)=1:=by
 have hN:=nq_ne h0
 obtain ⟨ae,aj,aa,ac,af,ab,ad,ah,ai⟩:=h
 generalize hM:w*w+x*x+y*y+z*z=N at*
 have cof:∀ p q r s P Q R S:Rat,p*N=P→q*N=Q→r*N=R→s*N=S→(p*q - r*s)*(N*N)=P*Q - R*S:=by
  intro p q r s P Q R S h1 h2 h3 h4;subst h1 h2 h3 h4;grind
 have c1:=cof _ _ _ _ _ _ _ _ af ai ab ah
 have c2:=cof _ _ _ _ _ _ _ _ ab ad ac ai
 have c3:=cof _ _ _ _ _ _ _ _ ac ah af ad
 have d1:(a22*a33 - a23*a32)*(N*N)=(w*w+x*x - y*y - z*z)*N:=by rw [c1,← hM];grind
 have d2:(a23*a31 - a21*a33)*(N*N)=(2*(x*y - w*z))*N:=by rw [c2,← hM];grind
 have d3:(a21*a32 - a22*a31)*(N*N)=(2*(x*z+w*y))*N:=by rw [c3,← hM];grind
 have f1:a22*a33 - a23*a32=a11:=by apply zf1 hN;apply zf1 hN;rw [ae];grind
 have f2:a23*a31 - a21*a33=a12:=by apply zf1 hN;apply zf1 hN;rw [aj];grind
 have f3:a21*a32 - a22*a31=a13:=by apply zf1 hN;apply zf1 hN;rw [aa];grind
 rw [f1,f2,f3]
 have:(a11*a11+a12*a12+a13*a13)*(N*N)=1*(N*N):=by
  have k:(a11*a11+a12*a12+a13*a13)*(N*N)=(a11*N)*(a11*N)+(a12*N)*(a12*N)+(a13*N)*(a13*N):=by grind
  rw [k,ae,aj,aa,← hM];grind
 exact zf1 (fun e=>by rcases Rat.mul_eq_zero.1 e with h | h<;>exact hN h) this
theorem sclN {N a m n:Rat} (hN:N≠0) (e:a*N=4*m*n):a=4*m/N*n:=by grind
theorem wzq_rot {a11 a12 a13 a21 a22 a23 a31 a32 a33:Rat} {n0 n1 n2 n3:Int} (hn:¬(n0=0∧n1=0∧n2=0∧n3=0))
  (h:RotQ a11 a12 a13 a21 a22 a23 a31 a32 a33 n0 n1 n2 n3):
  wzq (zM7 a11 a12 a13 a21 a22 a23 a31 a32 a33) 0=za2 n0 n1 n2 n3 n0∧wzq (zM7 a11 a12 a13 a21 a22 a23 a31 a32 a33) 1=za2 n0 n1 n2 n3 n1∧
  wzq (zM7 a11 a12 a13 a21 a22 a23 a31 a32 a33) 2=za2 n0 n1 n2 n3 n2∧wzq (zM7 a11 a12 a13 a21 a22 a23 a31 a32 a33) 3=za2 n0 n1 n2 n3 n3:=by
 have hq:¬((n0:Rat)=0∧(n1:Rat)=0∧(n2:Rat)=0∧(n3:Rat)=0):=by
  rintro ⟨h0,h1,h2,h3⟩
  exact hn ⟨Rat.intCast_eq_zero_iff.1 h0,Rat.intCast_eq_zero_iff.1 h1,Rat.intCast_eq_zero_iff.1 h2,Rat.intCast_eq_zero_iff.1 h3⟩
 have hN:=nq_ne hq
 have hz:∀ n:Int,(n:Rat)=0↔n=0:=fun n=>Rat.intCast_eq_zero_iff
 rw [← hz,← hz,← hz,← hz] at hn
 obtain ⟨af,ak,ab,ad,ah,ac,ae,ai,aj⟩:=h
 have fin:∀ (m:Int),(m:Rat)≠0→∀ a1 a2 a3 a4:Rat,
   a1*((n0:Rat)*n0+n1*n1+n2*n2+n3*n3)=4*m*n0→a2*((n0:Rat)*n0+n1*n1+n2*n2+n3*n3)=4*m*n1→
   a3*((n0:Rat)*n0+n1*n1+n2*n2+n3*n3)=4*m*n2→a4*((n0:Rat)*n0+n1*n1+n2*n2+n3*n3)=4*m*n3→
   wzq (a1,a2,a3,a4) 0=za2 n0 n1 n2 n3 n0∧wzq (a1,a2,a3,a4) 1=za2 n0 n1 n2 n3 n1∧wzq (a1,a2,a3,a4) 2=za2 n0 n1 n2 n3 n2∧wzq (a1,a2,a3,a4) 3=za2 n0 n1 n2 n3 n3:=by
  intro m hm a1 a2 a3 a4 e1 e2 e3 e4
  have hn':¬(n0=0∧n1=0∧n2=0∧n3=0):=by rw [← hz,← hz,← hz,← hz];exact hn
  generalize hM:(n0:Rat)*n0+n1*n1+n2*n2+n3*n3=N at*
  have hc:4*(m:Rat)/N≠0:=by grind
  have sc:∀ (a:Rat) (n:Int),a*N=4*m*n→a=4*(m:Rat)/N*((n:Int):Rat):=fun a n e=>sclN hN e
  have s1:=sc _ _ e1;have s2:=sc _ _ e2;have s3:=sc _ _ e3;have s4:=sc _ _ e4
  exact ⟨wz_of hc hn' (.inl rfl) s1 s2 s3 s4 s1,wz_of hc hn' (.inr (.inl rfl)) s1 s2 s3 s4 s2,wz_of hc hn' (.inr (.inr (.inl rfl))) s1 s2 s3 s4 s3,wz_of hc hn' (.inr (.inr (.inr rfl))) s1 s2 s3 s4 s4⟩
 have zz:∀ (a:Rat) (n:Int),a*((n0:Rat)*n0+n1*n1+n2*n2+n3*n3)=4*n*n→(sgn a.num=0↔(n:Rat)=0):=by
  intro a n e
  rw [zc4,Rat.num_eq_zero]
  constructor
  ·intro ha;rw [ha] at e
   have:(n:Rat)*n=0:=by grind
   rcases Rat.mul_eq_zero.1 this with h | h<;>exact h
  ·intro aa;rw [aa] at e;apply zf1 hN;rw [e];grind
 have d0:=zz ((((0+1)+a11)+a22)+a33) n0 (by grind)
 have d1:=zz ((1+a11) - (a22+a33)) n1 (by grind)
 have d2:=zz ((1+a22) - (a11+a33)) n2 (by grind)
 unfold zM7
 split
 ·next c0=>
  have c0:=d0.1 c0
  split
  ·next c1=>
   have c1:=d1.1 c1
   split
   ·next c2=>
    have c2:=d2.1 c2
    exact fin n3 (fun e=>hn ⟨c0,c1,c2,e⟩) _ _ _ _ (by grind) (by grind) (by grind) (by grind)
   ·next c2=>exact fin n2 (fun e=>c2 (d2.2 e)) _ _ _ _ (by grind) (by grind) (by grind) (by grind)
  ·next c1=>exact fin n1 (fun e=>c1 (d1.2 e)) _ _ _ _ (by grind) (by grind) (by grind) (by grind)
 ·next c0=>exact fin n0 (fun e=>c0 (d0.2 e)) _ _ _ _ (by grind) (by grind) (by grind) (by grind)
theorem yp1 {a:Rat} {n d:Int} (hd:0<d) (h:a*(d:Rat)=(n:Rat)):a.num.natAbs≤n.natAbs∧(a.den:Int)≤d:=by
 have e:=zs0 a
 have hp:=zq3 a
 have k:a.num*d=n*(a.den:Int):=by
  have:((a.num*d:Int):Rat)=((n*(a.den:Int):Int):Rat):=by
   rw [Rat.intCast_mul,Rat.intCast_mul,← h,← e]
   generalize ((a.den:Int):Rat)=x
   generalize (d:Rat)=y
   grind
  exact Rat.intCast_inj.1 this
 have hdvd:(a.den:Int)∣a.num*d:=⟨n,by rw [k,Int.mul_comm]⟩
 have h2:(a.den:Int)∣d:=by
  have h1:a.den∣a.num.natAbs*d.natAbs:=by
   have:=Int.natAbs_dvd_natAbs.2 hdvd
   rwa [Int.natAbs_mul] at this
  have h3:=Nat.Coprime.dvd_of_dvd_mul_left (Nat.coprime_comm.1 a.reduced) h1
  rcases Int.natAbs_eq d with e | e
  ·rw [e];exact Int.ofNat_dvd.2 h3
  ·rw [e];exact Int.dvd_neg.2 (Int.ofNat_dvd.2 h3)
 obtain ⟨c,hc⟩:=h2
 have hcp:0<c:=by
  rcases Int.lt_or_le 0 c with h | h
  ·exact h
  ·have:=Int.mul_nonpos_of_nonneg_of_nonpos (Int.le_of_lt hp) h;omega
 have hn:n=a.num*c:=by
  rw [hc,← Int.mul_assoc,Int.mul_right_comm] at k
  exact (Int.eq_of_mul_eq_mul_right (by omega) k).symm
 constructor
 ·rw [hn,Int.natAbs_mul]
  exact Nat.le_mul_of_pos_right _ (by omega)
 ·rw [hc]
  have:=Int.mul_le_mul_of_nonneg_left (show 1≤c by omega) (Int.le_of_lt hp)
  omega
theorem yx2 {k:Nat} {a:Rat} {n d:Int} (hd:0<d) (h:a*(d:Rat)=(n:Rat)) (h1:n.natAbs<2 ^ k) (h2:d<2 ^ k):RS k a:=by
 obtain ⟨e1,e2⟩:=yp1 hd h
 refine ⟨Nat.lt_of_le_of_lt e1 h1,?_⟩
 unfold Sz
 have:((2 ^ k:Nat):Int)=2 ^ k:=by simp
 have:=zq3 a
 omega
theorem zF1 {a b:Int} (h1:-b≤a) (h2:a≤b):0≤a*a∧a*a≤b*b:=by
 have hb:0≤b:=by omega
 refine ⟨?_,?_⟩
 ·rcases Int.le_total 0 a with h | h
  ·exact Int.mul_nonneg h h
  ·exact Int.mul_nonneg_of_nonpos_of_nonpos h h
 ·rcases Int.le_total 0 a with h | h
  ·exact Int.mul_le_mul h2 h2 h hb
  ·have:=Int.mul_le_mul (show -a≤b by omega) (show -a≤b by omega) (by omega) hb
   rwa [Int.neg_mul_neg] at this
theorem rotq_rs {a11 a12 a13 a21 a22 a23 a31 a32 a33:Rat} {w x y z:Int} (h0:¬(w=0∧x=0∧y=0∧z=0))
  (b0:-1000000≤w∧w≤1000000) (b1:-1000000≤x∧x≤1000000) (b2:-1000000≤y∧y≤1000000) (b3:-1000000≤z∧z≤1000000)
  (h:RotQ a11 a12 a13 a21 a22 a23 a31 a32 a33 w x y z):
  RS 50 a11∧RS 50 a12∧RS 50 a13∧RS 50 a21∧RS 50 a22∧RS 50 a23∧RS 50 a31∧RS 50 a32∧RS 50 a33:=by
 obtain ⟨ad,aj,ae,ab,af,aa,ac,ah,ai⟩:=h
 have sw:=zF1 b0.1 b0.2;have sx:=zF1 b1.1 b1.2;have sy:=zF1 b2.1 b2.2;have sz:=zF1 b3.1 b3.2
 have hN:0<w*w+x*x+y*y+z*z:=by
  have z0:∀ t:Int,t*t=0→t=0:=fun t ht=>by rcases Int.mul_eq_zero.1 ht with h | h<;>exact h
  rcases Int.lt_or_le 0 (w*w+x*x+y*y+z*z) with h | h
  ·exact h
  ·exact absurd ⟨z0 _ (by omega),z0 _ (by omega),z0 _ (by omega),z0 _ (by omega)⟩ h0
 have pr:∀ p q:Int,-1000000≤p∧p≤1000000→-1000000≤q∧q≤1000000→-1000000000000≤p*q∧p*q≤1000000000000:=by
  intro p q hp hq
  have s1:=zF1 (a:=p+q) (b:=2000000) (by omega) (by omega)
  have s2:=zF1 (a:=p - q) (b:=2000000) (by omega) (by omega)
  have e1:(p+q)*(p+q)=p*p+2*(p*q)+q*q:=by grind
  have e2:(p - q)*(p - q)=p*p - 2*(p*q)+q*q:=by grind
  have:=zF1 hp.1 hp.2
  have:=zF1 hq.1 hq.2
  have e3:(p+q)*(p+q) - (p - q)*(p - q)=4*(p*q):=by grind
  omega
 have wx:=pr w x b0 b1;have wy:=pr w y b0 b2;have wz:=pr w z b0 b3;have xy:=pr x y b1 b2;have xz:=pr x z b1 b3;have yz:=pr y z b2 b3
 have go:∀ (a:Rat) (n:Int),a*(w*w+x*x+y*y+z*z)=(n:Rat)→n.natAbs<2 ^ 50→RS 50 a:=by
  intro a n e hn
  refine yx2 (n:=n) hN ?_ hn (by omega)
  rw [Rat.intCast_add,Rat.intCast_add,Rat.intCast_add,Rat.intCast_mul,Rat.intCast_mul,Rat.intCast_mul,Rat.intCast_mul];exact e
 refine ⟨go _ (w*w+x*x - y*y - z*z) (ad.trans ?_) (by omega),go _ (2*(x*y - w*z)) (aj.trans ?_) (by omega),go _ (2*(x*z+w*y)) (ae.trans ?_) (by omega),
  go _ (2*(x*y+w*z)) (ab.trans ?_) (by omega),go _ (w*w - x*x+y*y - z*z) (af.trans ?_) (by omega),go _ (2*(y*z - w*x)) (aa.trans ?_) (by omega),
  go _ (2*(x*z - w*y)) (ac.trans ?_) (by omega),go _ (2*(y*z+w*x)) (ah.trans ?_) (by omega),go _ (w*w - x*x - y*y+z*z) (ai.trans ?_) (by omega)⟩<;>
  simp only [Rat.intCast_add,Rat.intCast_sub,Rat.intCast_mul]<;>rfl
theorem yx3 {a11 a12 a13 a21 a22 a23 a31 a32 a33 ad ai ac aj aa ah ae ab af:Rat} {a b c d p q r s n0 n1 n2 n3:Int}
  (h:RotQ a11 a12 a13 a21 a22 a23 a31 a32 a33 a b c d) (g:RotQ ad ai ac aj aa ah ae ab af p q r s)
  (h0:n0=a*p - b*q - c*r - d*s) (h1:n1=a*q+b*p+c*s - d*r) (h2:n2=a*r - b*s+c*p+d*q) (h3:n3=a*s+b*r - c*q+d*p):
  RotQ (0+a11*ad+a12*aj+a13*ae) (0+a11*ai+a12*aa+a13*ab) (0+a11*ac+a12*ah+a13*af)
   (0+a21*ad+a22*aj+a23*ae) (0+a21*ai+a22*aa+a23*ab) (0+a21*ac+a22*ah+a23*af)
   (0+a31*ad+a32*aj+a33*ae) (0+a31*ai+a32*aa+a33*ab) (0+a31*ac+a32*ah+a33*af)
   n0 n1 n2 n3:=by
 have m:=yk8 h g
 rw [h0,h1,h2,h3]
 simp only [Rat.intCast_add,Rat.intCast_sub,Rat.intCast_mul]
 exact m
theorem rotq_trI {a11 a12 a13 a21 a22 a23 a31 a32 a33:Rat} {w x y z n1 n2 n3:Int} (h:RotQ a11 a12 a13 a21 a22 a23 a31 a32 a33 w x y z)
  (h1:n1=-x) (h2:n2=-y) (h3:n3=-z):RotQ a11 a21 a31 a12 a22 a32 a13 a23 a33 w n1 n2 n3:=by
 have m:=yx7 h
 rw [h1,h2,h3]
 simp only [Rat.intCast_neg]
 exact m
theorem nq_int {w x y z:Int} (h:¬(w=0∧x=0∧y=0∧z=0)):¬((w:Rat)=0∧(x:Rat)=0∧(y:Rat)=0∧(z:Rat)=0):=by
 rintro ⟨h0,h1,h2,h3⟩
 exact h ⟨Rat.intCast_eq_zero_iff.1 h0,Rat.intCast_eq_zero_iff.1 h1,Rat.intCast_eq_zero_iff.1 h2,Rat.intCast_eq_zero_iff.1 h3⟩
theorem yx4 (a b c d p q r s:Int):
  (a*p - b*q - c*r - d*s)*(a*p - b*q - c*r - d*s)+(a*q+b*p+c*s - d*r)*(a*q+b*p+c*s - d*r)+(a*r - b*s+c*p+d*q)*(a*r - b*s+c*p+d*q)+(a*s+b*r - c*q+d*p)*(a*s+b*r - c*q+d*p)
  =(a*a+b*b+c*c+d*d)*(p*p+q*q+r*r+s*s):=by grind
theorem yd7 {w x y z:Int} (h:¬(w=0∧x=0∧y=0∧z=0)):0<w*w+x*x+y*y+z*z:=by
 have sq:∀ t:Int,0≤t*t:=fun t=>by
  rcases Int.le_total 0 t with h | h
  ·exact Int.mul_nonneg h h
  ·exact Int.mul_nonneg_of_nonpos_of_nonpos h h
 have z0:∀ t:Int,t*t=0→t=0:=fun t ht=>by rcases Int.mul_eq_zero.1 ht with h | h<;>exact h
 have s1:=sq w;have s2:=sq x;have s3:=sq y;have s4:=sq z
 rcases Int.lt_or_le 0 (w*w+x*x+y*y+z*z) with hp | hp
 ·exact hp
 ·exact absurd ⟨z0 _ (by omega),z0 _ (by omega),z0 _ (by omega),z0 _ (by omega)⟩ h
theorem yx5 {a b c d p q r s n0 n1 n2 n3:Int} (h:¬(a=0∧b=0∧c=0∧d=0)) (g:¬(p=0∧q=0∧r=0∧s=0))
  (h0:n0=a*p - b*q - c*r - d*s) (h1:n1=a*q+b*p+c*s - d*r) (h2:n2=a*r - b*s+c*p+d*q) (h3:n3=a*s+b*r - c*q+d*p):
  ¬(n0=0∧n1=0∧n2=0∧n3=0):=by
 rintro ⟨e0,e1,e2,e3⟩
 have:=yx4 a b c d p q r s
 rw [← h0,← h1,← h2,← h3,e0,e1,e2,e3] at this
 have k:=Int.mul_pos (yd7 h) (yd7 g)
 rw [← this] at k
 exact absurd k (by decide)
structure VT (q0 q1 q2 q3:Int):Prop where
 b0:-12≤q0∧q0≤12
 b1:-12≤q1∧q1≤12
 b2:-12≤q2∧q2≤12
 b3:-12≤q3∧q3≤12
 g:qgcd q0 q1 q2 q3=1
 s:qsgn q0 q1 q2 q3=1
def chk (q0 q1 q2 q3 e:Int):Int:=
 if q0=0∧q1=0∧q2=0∧q3=0 then 19
 else if ¬((-12≤q0∧q0≤12)∧(-12≤q1∧q1≤12)∧(-12≤q2∧q2≤12)∧(-12≤q3∧q3≤12)) then 2
 else if ¬(qgcd q0 q1 q2 q3=1∧qsgn q0 q1 q2 q3=1) then 3 else e
theorem zu2 {q0 q1 q2 q3:Int} (h:¬(q0=0∧q1=0∧q2=0∧q3=0)):qsgn q0 q1 q2 q3=1∨qsgn q0 q1 q2 q3=-1:=by
 have k:∀ z:Int,z≠0→sgn z=1∨sgn z=-1:=fun z hz=>by unfold sgn;split<;>(try split)<;>omega
 unfold qsgn
 split
 ·split
  ·split
   ·exact k _ (by omega)
   ·exact k _ (by omega)
  ·exact k _ (by omega)
 ·exact k _ (by omega)
theorem VT.ne {q0 q1 q2 q3:Int} (h:VT q0 q1 q2 q3):¬(q0=0∧q1=0∧q2=0∧q3=0):=by
 rintro ⟨rfl,rfl,rfl,rfl⟩;exact absurd h.s (by decide)
theorem VT.chk {q0 q1 q2 q3:Int} (h:VT q0 q1 q2 q3) (e:Int):chk q0 q1 q2 q3 e=e:=by
 unfold _root_.Go.Proofs.YtaldbfflkpgfoaaGreatDoor.chk
 rw [if_neg h.ne,if_neg (by simp only [Classical.not_not];exact ⟨h.b0,h.b1,h.b2,h.b3⟩),if_neg (by simp only [Classical.not_not];exact ⟨h.g,h.s⟩)]
theorem yk3 {q0 q1 q2 q3 e:Int} (h:chk q0 q1 q2 q3 e=0):VT q0 q1 q2 q3∧e=0:=by
 unfold chk at h
 split at h
 ·omega
 ·split at h
  ·omega
  ·next h1 h2=>
   split at h
   ·omega
   ·next h3=>
    simp only [Classical.not_not] at h2 h3
    exact ⟨⟨h2.1,h2.2.1,h2.2.2.1,h2.2.2.2,h3.1,h3.2⟩,h⟩
theorem zO8 {q0 q1 q2 q3 n:Int} (h0:¬(q0=0∧q1=0∧q2=0∧q3=0)) (h:qgcd q0 q1 q2 q3∣n):Int.tdiv n (qgcd q0 q1 q2 q3*qsgn q0 q1 q2 q3)=za2 q0 q1 q2 q3 n:=by
 have hg:=zy7 h0
 unfold za2
 obtain ⟨c,rfl⟩:=h
 generalize qgcd q0 q1 q2 q3=g at*
 rw [Int.mul_ediv_cancel_left _ (by omega)]
 rcases zu2 h0 with e | e
 ·rw [e,Int.mul_one,Int.mul_one,Int.mul_tdiv_cancel_left _ (by omega)]
 ·rw [e,Int.mul_neg,Int.mul_one,Int.tdiv_neg,Int.mul_tdiv_cancel_left _ (by omega)];omega
theorem qprim_ok {q0 q1 q2 q3:Int} (h0:¬(q0=0∧q1=0∧q2=0∧q3=0)):
  qgcd (za2 q0 q1 q2 q3 q0) (za2 q0 q1 q2 q3 q1) (za2 q0 q1 q2 q3 q2) (za2 q0 q1 q2 q3 q3)=1∧qsgn (za2 q0 q1 q2 q3 q0) (za2 q0 q1 q2 q3 q1) (za2 q0 q1 q2 q3 q2) (za2 q0 q1 q2 q3 q3)=1:=by
 have hg:=zy7 h0
 obtain ⟨d0,d1,d2,d3⟩:=zl3 q0 q1 q2 q3
 have hs:=zu2 h0
 have hk:qgcd q0 q1 q2 q3*qsgn q0 q1 q2 q3≠0:=Int.mul_ne_zero (by omega) (by omega)
 have go:∀ n,qgcd q0 q1 q2 q3∣n→n=qgcd q0 q1 q2 q3*qsgn q0 q1 q2 q3*za2 q0 q1 q2 q3 n:=by
  intro n ⟨c,hc⟩
  unfold za2
  rw [hc]
  generalize qgcd q0 q1 q2 q3=g at*
  rw [Int.mul_ediv_cancel_left _ (by omega)]
  rcases hs with e | e<;>rw [e]<;>grind
 have e0:=go _ d0;have e1:=go _ d1;have e2:=go _ d2;have e3:=go _ d3
 generalize aa:za2 q0 q1 q2 q3 q0=p0 at*
 generalize ac:za2 q0 q1 q2 q3 q1=p1 at*
 generalize ad:za2 q0 q1 q2 q3 q2=p2 at*
 generalize ab:za2 q0 q1 q2 q3 q3=p3 at*
 have m1:=zS8 (qgcd q0 q1 q2 q3*qsgn q0 q1 q2 q3) p0 p1 p2 p3
 have m2:=yk6 hk p0 p1 p2 p3
 rw [← e0,← e1,← e2,← e3] at m1 m2
 have hab:((qgcd q0 q1 q2 q3*qsgn q0 q1 q2 q3).natAbs:Int)=qgcd q0 q1 q2 q3:=by
  rcases hs with e | e<;>rw [e]<;>omega
 have hsg:sgn (qgcd q0 q1 q2 q3*qsgn q0 q1 q2 q3)=qsgn q0 q1 q2 q3:=by
  rcases hs with e | e<;>rw [e]<;>unfold sgn<;>split<;>(try split)<;>omega
 rw [hab] at m1
 rw [hsg] at m2
 constructor
 ·have:qgcd q0 q1 q2 q3*qgcd p0 p1 p2 p3=qgcd q0 q1 q2 q3*1:=by rw [← m1,Int.mul_one]
  exact Int.eq_of_mul_eq_mul_left (by omega) this
 ·rcases hs with e | e<;>rw [e] at m2<;>omega
theorem zf7 {q0 q1 q2 q3 n:Int} (h0:¬(q0=0∧q1=0∧q2=0∧q3=0)):(za2 q0 q1 q2 q3 n).natAbs≤n.natAbs:=by
 have hg:=zy7 h0
 unfold za2
 have:(n/qgcd q0 q1 q2 q3).natAbs≤n.natAbs:=by
  generalize qgcd q0 q1 q2 q3=g at*
  have h1:=Int.natAbs_ediv_le_natAbs n g
  exact h1
 rcases zu2 h0 with e | e<;>rw [e]<;>omega
theorem IsInt.tight {w:World} {k m:Nat} {x y:Value} {z:Int} (h:IsInt w k x y z) (hs:Sz m z):IsInt w m x y z:=by
 obtain ⟨ao,len,cap,h1,h2,h3,_⟩:=h
 exact ⟨ao,len,cap,h1,h2,h3,hs⟩
theorem IsRat.tight {w:World} {k m:Nat} {c0 c1 c2 c3:Value} {q:Rat} (h:IsRat w k c0 c1 c2 c3 q) (hs:RS m q) (hm:64≤m):IsRat w m c0 c1 c2 c3 q:=by
 obtain ⟨h1,⟨D,h2,h3⟩,_⟩:=h
 refine ⟨h1.tight hs.1,⟨D,h2.tight ?_,h3⟩,hm⟩
 rcases h3 with rfl | ⟨rfl,_⟩
 ·exact hs.2
 ·exact Nat.two_pow_pos m
def rats:List Cl→Option (List (Nat × Rat))
 | []=>some []
 | .cr j 0 k q::.cr j1 1 _ _::.cr j2 2 _ _::.cr j3 3 _ _::r=>if Nat.beq j1 j&&Nat.beq j2 j&&Nat.beq j3 j then (match rats r with | some l=>some ((k,q)::l) | none=>none) else none
 | a::b::c::d::r=>if falC a&&nilC b&&falC c&&nilC d then (match rats r with | some l=>some ((64,0)::l) | none=>none) else none
 | _=>none
def IsRats (w:World):List Value→List (Nat × Rat)→Prop
 | [],[]=>True
 | a::b::c::d::v,x::l=>IsRat w x.1 a b c d x.2∧IsRats w v l
 | _,_=>False
theorem zC8 {n:Nn} {X:Env} {w:World}:∀ {l:List Cl} {r:List (Nat × Rat)},rats l=some r→okL n X w l→IsRats w (l.map (Cl.den X)) r
 | l,r,h,hl=>by
  unfold rats at h
  split at h
  ·cases h;trivial
  ·rename_i j k q j1 _ _ j2 _ _ j3 _ _ t
   split at h
   ·rename_i hj
    simp only [Bool.and_eq_true,Nat.beq_eq] at hj
    obtain ⟨⟨rfl,rfl⟩,rfl⟩:=hj
    split at h
    ·rename_i l' hr
     cases h
     exact ⟨(hl (.cr j3 0 k q) (by simp)).2,zC8 hr fun c hc=>hl c (by simp [hc])⟩
    ·cases h
   ·cases h
  ·rename_i a b c d t _
   split at h
   ·rename_i hh
    simp only [Bool.and_eq_true] at hh
    obtain ⟨⟨⟨h1,h2⟩,h3⟩,h4⟩:=hh
    split at h
    ·rename_i l' hr
     cases h
     refine ⟨?_,zC8 hr fun c hc=>hl c (by simp [hc])⟩
     rw [zz9 h1 (hl a (by simp)),zA0 h2,zz9 h3 (hl c (by simp)),zA0 h4]
     exact IsRat.zero w (Nat.le_refl _)
    ·cases h
   ·cases h
  ·cases h
def zM0:SV→Option (List (Nat × Rat))
 | .so (.vg l)=>rats l
 | _=>none
theorem zt2 {n:Nn} {X:Env} {w:World} {v:SV} {r:List (Nat × Rat)} (h:zM0 v=some r) (hv:v.ok n X w):∃ vs,v.den X=.agg vs.toArray∧IsRats w vs r:=by
 unfold zM0 at h
 split at h
 ·exact ⟨_,rfl,zC8 h hv⟩
 ·cases h
theorem IsRats.cons {w:World} {v:List Value} {x:Nat × Rat} {l:List (Nat × Rat)} (h:IsRats w v (x::l)):∃ a b c d u,v=a::b::c::d::u∧IsRat w x.1 a b c d x.2∧IsRats w u l:=by
 match v,h with
 | a::b::c::d::u,h=>exact ⟨a,b,c,d,u,rfl,h.1,h.2⟩
theorem IsRats.nil {w:World} {v:List Value} (h:IsRats w v []):v=[]:=by
 cases v with
 | nil=>rfl
 | cons a v=>simp [IsRats] at h
def Conv:List (Nat × Rat)→List (Nat × Rat)→Prop
 | [],[]=>True
 | (_,q)::l,(m,r)::l'=>(q=r∧RS m r∧64≤m)∧Conv l l'
 | _,_=>False
theorem IsRats.conv {w:World}:∀ {vs:List Value} {l l':List (Nat × Rat)},IsRats w vs l→Conv l l'→IsRats w vs l'
 | [],[],[],_,_=>trivial
 | a::b::c::d::vs,(k,q)::l,(m,r)::l',h,hc=>by
  obtain ⟨⟨rfl,h1,h2⟩,h3⟩:=hc
  exact ⟨h.1.tight h1 h2,IsRats.conv h.2 h3⟩
 | [],[],_::_,_,h=>by cases h
 | _,_::_,[],_,h=>by cases h
 | [],_::_,_::_,h,_=>by cases h
 | [_],_::_,_::_,h,_=>by cases h
 | [_,_],_::_,_::_,h,_=>by cases h
 | [_,_,_],_::_,_::_,h,_=>by cases h
 | _::_,[],_,h,_=>by simp [IsRats] at h
def zm3:Nat→List (Nat × Rat)→List Cl
 | _,[]=>[]
 | j,(k,q)::l=>.cr j 0 k q::.cr j 1 k q::.cr j 2 k q::.cr j 3 k q::zm3 (j+1) l
def yq4 (X:Env) (n:Nat) (vs:List Value):Env:={X with R:=fun i c=>if i<n then X.R i c else vs.getD (4*(i - n)+c) undef}
theorem yb5 {w:World} {X:Env} {n:Nn} (vs:List Value):∀ (l:List (Nat × Rat)) (us:List Value) (j m:Nat),IsRats w us l→vs.drop (4*j)=us→m=n.r+j+l.length→
  (zm3 (n.r+j) l).map (Cl.den (yq4 X n.r vs))=us∧okL ⟨n.b,m,n.z⟩ (yq4 X n.r vs) w (zm3 (n.r+j) l)
 | [],[],j,m,_,_,_=>⟨rfl,fun _ h=>by cases h⟩
 | (k,q)::l,a::b::c::d::us,j,m,h,hd,hm=>by
  have hR:∀ t,(yq4 X n.r vs).R (n.r+j) t=vs.getD (4*j+t) undef:=fun t=>by
   show (if n.r+j<n.r then _ else _)=_
   rw [if_neg (by omega),Nat.add_sub_cancel_left]
  have hg:∀ t,vs.getD (4*j+t) undef=(a::b::c::d::us).getD t undef:=fun t=>by
   rw [← hd,List.getD_eq_getElem?_getD,List.getD_eq_getElem?_getD,List.getElem?_drop]
  have e0:(yq4 X n.r vs).R (n.r+j) 0=a:=by rw [hR,hg];rfl
  have e1:(yq4 X n.r vs).R (n.r+j) 1=b:=by rw [hR,hg];rfl
  have e2:(yq4 X n.r vs).R (n.r+j) 2=c:=by rw [hR,hg];rfl
  have e3:(yq4 X n.r vs).R (n.r+j) 3=d:=by rw [hR,hg];rfl
  simp only [List.length_cons] at hm
  obtain ⟨i1,i2⟩:=yb5 (X:=X) (n:=n) vs l us (j+1) m h.2 (by
   have:=congrArg (List.drop 4) hd
   rw [List.drop_drop] at this
   simpa [Nat.mul_add] using this) (by omega)
  refine ⟨?_,fun x hx=>?_⟩
  ·simp only [zm3,List.map_cons,Cl.den,e0,e1,e2,e3]
   rw [show n.r+j+1=n.r+(j+1) by omega,i1]
  ·have hl:Nat.blt (n.r+j) m=true:=zq6 (by omega)
   have hq:IsRat w k ((yq4 X n.r vs).R (n.r+j) 0) ((yq4 X n.r vs).R (n.r+j) 1) ((yq4 X n.r vs).R (n.r+j) 2) ((yq4 X n.r vs).R (n.r+j) 3) q:=by rw [e0,e1,e2,e3];exact h.1
   simp only [zm3,List.mem_cons] at hx
   rcases hx with rfl | rfl | rfl | rfl | hx
   ·exact ⟨by simp only [Cl.lt,hl];rfl,hq⟩
   ·exact ⟨by simp only [Cl.lt,hl];rfl,hq⟩
   ·exact ⟨by simp only [Cl.lt,hl];rfl,hq⟩
   ·exact ⟨by simp only [Cl.lt,hl];rfl,hq⟩
   ·exact i2 x (by rw [show n.r+(j+1)=n.r+j+1 by omega];exact hx)
 | _::_,[],_,_,h,_,_=>by cases h
 | _::_,[_],_,_,h,_,_=>by cases h
 | _::_,[_,_],_,_,h,_,_=>by cases h
 | _::_,[_,_,_],_,_,h,_,_=>by cases h
 | [],_::_,_,_,h,_,_=>by simp [IsRats] at h
theorem envV_agr (X:Env) (n:Nn) (vs:List Value):Agr n X (yq4 X n.r vs):=⟨fun _ _=>rfl,fun _ _ hi=>(if_pos hi).symm,fun _ _ _=>rfl,rfl⟩
theorem zq0 {n:Nn} {X:Env} {w w':World} {e:Ending} {l:List (Nat × Rat)} {t:IntKind} {z:Int} (h:(∃ vs:List Value,e=.returned (.tuple #[.agg vs.toArray,.int t z])∧IsRats w' vs l)∧Gr w w'):(Tr.leaf (.st [.vg (zm3 n.r l),.vc (.ci t z z z)]) l.length 0).holds n X w e w':=by
 obtain ⟨⟨vs,rfl,h1⟩,g⟩:=h
 obtain ⟨a,b⟩:=yb5 (X:=X) (n:=n) vs l vs 0 (n.r+l.length) h1 rfl (by omega)
 refine ⟨yq4 X n.r vs,?_,g,envV_agr X n vs,fun x hx=>?_⟩
 ·simp only [SV.den,TV.den,List.map,Cl.den,dnL]
  rw [show zm3 n.r l=zm3 (n.r+0) l from rfl,a]
 ·simp only [List.mem_cons,List.not_mem_nil,or_false] at hx
  rcases hx with rfl | rfl
  ·exact b
  ·exact ⟨rfl,Int.le_refl _,Int.le_refl _⟩
section
variable {P:Program} {a:Act} {o:Oper} {w:World}
theorem yw9 (t:TypeId) (x y:Operand) (X:List UInt8) (k:Nat) (hop:o.op=.index t x y) (hx:a.eval x=.string ⟨X.toArray⟩) (hy:a.eval y=.int .i64 (k:Int)) (hk:k<X.length) (hu:P.underlying t=some .string):RunV P a o w (.int .u8 ((X.getD k 0).toNat:Int)):=by
 unfold RunV execOp
 simp only [hop,hx,hy]
 simp [go_sem,hu,hk]
 rfl
theorem zr9 (t t2:TypeId) (x y:Operand) (A B C:Int) (hop:o.op=.binOp .quo t x y t2) (hx:a.eval x=.int .i64 A) (hy:a.eval y=.int .i64 B) (hC:Int.tdiv A B=C) (h1:-9223372036854775808≤C) (h2:C≤9223372036854775807) (hB:B≠0):RunV P a o w (.int .i64 C):=by
 have e2:IntKind.i64.wrap C=C:=by rw [IntKind.wrap_i64];omega
 unfold RunV execOp
 simp only [hop,hx,hy]
 simp [go_sem,binOp,eqGuard,Op.intDiv,hB,hC,e2]
end
section
variable {q0 q1 q2 q3:Int}
theorem gcd_end0 {g n a b:Int} (h:Int.gcd g n=Int.gcd a b) (hb:decide ((0:Int)<n)=false) (hg:0≤g) (hn:0≤n):g=(Int.gcd a b:Int):=by
 have:=of_decide_eq_false hb
 have h0:n=0:=by omega
 rw [h0,Int.gcd_zero_right] at h
 omega
theorem zY3:(Int.gcd (Int.gcd (Int.gcd (Int.gcd 0 (q0.natAbs:Int):Int) (q1.natAbs:Int):Int) (q2.natAbs:Int):Int) (q3.natAbs:Int):Int)=qgcd q0 q1 q2 q3:=by
 unfold qgcd;simp [Int.gcd]
theorem zS4 {z:Int} (hz:z≠0):decide ((0:Int)<z)=decide (sgn z=1):=by
 unfold sgn
 rw [Bool.eq_iff_iff,decide_eq_true_eq,decide_eq_true_eq]
 split<;>(try split)<;>omega
theorem posq0 (h0:(q0 !=(0:Int))=true):decide ((0:Int)<q0)=decide (qsgn q0 q1 q2 q3=1):=by
 have h0:q0≠0:=by simpa using h0
 rw [show qsgn q0 q1 q2 q3=sgn q0 from if_neg h0];exact zS4 h0
theorem posq1 (h0:(q0 !=(0:Int))=false) (h1:(q1 !=(0:Int))=true):decide ((0:Int)<q1)=decide (qsgn q0 q1 q2 q3=1):=by
 have h0:q0=0:=by simpa using h0
 have h1:q1≠0:=by simpa using h1
 rw [show qsgn q0 q1 q2 q3=sgn q1 by unfold qsgn;rw [if_pos h0,if_neg h1]];exact zS4 h1
theorem posq2 (h0:(q0 !=(0:Int))=false) (h1:(q1 !=(0:Int))=false) (h2:(q2 !=(0:Int))=true):decide ((0:Int)<q2)=decide (qsgn q0 q1 q2 q3=1):=by
 have h0:q0=0:=by simpa using h0
 have h1:q1=0:=by simpa using h1
 have h2:q2≠0:=by simpa using h2
 rw [show qsgn q0 q1 q2 q3=sgn q2 by unfold qsgn;rw [if_pos h0,if_pos h1,if_neg h2]];exact zS4 h2
theorem posq3 (h0:(q0 !=(0:Int))=false) (h1:(q1 !=(0:Int))=false) (h2:(q2 !=(0:Int))=false) (h3:(q3 !=(0:Int))=true):decide ((0:Int)<q3)=decide (qsgn q0 q1 q2 q3=1):=by
 have h0:q0=0:=by simpa using h0
 have h1:q1=0:=by simpa using h1
 have h2:q2=0:=by simpa using h2
 have h3:q3≠0:=by simpa using h3
 rw [show qsgn q0 q1 q2 q3=sgn q3 by unfold qsgn;rw [if_pos h0,if_pos h1,if_pos h2]];exact zS4 h3
theorem posq4 (h0:(q0 !=(0:Int))=false) (h1:(q1 !=(0:Int))=false) (h2:(q2 !=(0:Int))=false) (h3:(q3 !=(0:Int))=false):false=decide (qsgn q0 q1 q2 q3=1):=by
 have h0:q0=0:=by simpa using h0
 have h1:q1=0:=by simpa using h1
 have h2:q2=0:=by simpa using h2
 have h3:q3=0:=by simpa using h3
 subst h0 h1 h2 h3;rfl
theorem zS5 {n:Int} (h0:¬(q0=0∧q1=0∧q2=0∧q3=0)) (hd:qgcd q0 q1 q2 q3∣n) (hs:qsgn q0 q1 q2 q3=1):Int.tdiv n (qgcd q0 q1 q2 q3)=za2 q0 q1 q2 q3 n:=by
 have:=zO8 h0 hd
 rwa [hs,Int.mul_one] at this
theorem zS6 {n:Int} (h0:¬(q0=0∧q1=0∧q2=0∧q3=0)) (hd:qgcd q0 q1 q2 q3∣n) (hs:qsgn q0 q1 q2 q3=-1):Int.tdiv n (0 - qgcd q0 q1 q2 q3)=za2 q0 q1 q2 q3 n:=by
 have:=zO8 h0 hd
 rwa [hs,Int.mul_neg,Int.mul_one,← Int.zero_sub] at this
end
theorem zJ6 (a b c:Rat):((0+a*0+b*0+c*0)+0:Rat)=0:=by grind
def yx0 (ah ai aj ae ad ab af ac aa:Rat):Bool:=decide ([(0+ah*ah+ai*ai+aj*aj),(0+ah*ae+ai*ad+aj*ab),(0+ah*af+ai*ac+aj*aa),(0+ae*ah+ad*ai+ab*aj),(0+ae*ae+ad*ad+ab*ab),(0+ae*af+ad*ac+ab*aa),(0+af*ah+ac*ai+aa*aj),(0+af*ae+ac*ad+aa*ab),(0+af*af+ac*ac+aa*aa),((0+ah*0+ai*0+aj*0)+0),((0+ae*0+ad*0+ab*0)+0),((0+af*0+ac*0+aa*0)+0)]=[1,0,0,0,1,0,0,0,1,0,0,0])&&decide ((0:Int)<sgn (0+ah*(ad*aa - ab*ac)+ai*(ab*af - ae*aa)+aj*(ae*ac - ad*af)).num)
theorem yx1 {a11 a12 a13 a21 a22 a23 a31 a32 a33 w x y z:Rat} (h0:¬(w=0∧x=0∧y=0∧z=0)) (h:RotQ a11 a12 a13 a21 a22 a23 a31 a32 a33 w x y z):yx0 a11 a12 a13 a21 a22 a23 a31 a32 a33=true:=by
 obtain ⟨af,ac,aj,ae,ah,ai,aa,ab,ad⟩:=yx9 h0 h
 have hd:=rotq_det h0 h
 unfold yx0
 rw [Bool.and_eq_true,decide_eq_true_eq,decide_eq_true_eq,af,ac,aj,ae,ah,ai,aa,ab,ad,zJ6,zJ6,zJ6]
 refine ⟨rfl,?_⟩
 have e:(0+a11*(a22*a33 - a23*a32)+a12*(a23*a31 - a21*a33)+a13*(a21*a32 - a22*a31):Rat)=1:=by rw [← hd];grind
 rw [e];decide
def perr (rg:Bool) (z0 z1 z2 z3:Int) (x y t:List UInt8):Int:=
 if rg=true then (if (-12≤z0∧z0≤12)∧(-12≤z1∧z1≤12)∧(-12≤z2∧z2≤12)∧(-12≤z3∧z3≤12) then (if ((x.length:Int)≤400)∧((y.length:Int)≤400)∧((t.length:Int)≤400) then 0 else 5) else 2) else 3
def pif (e z:Int):Int:=if e=0 then z else 0
def pit (e:Int) (x:List UInt8):List UInt8:=if e=0 then x else []
noncomputable def bd15:Code:=(yg0 100016 ((Tryz.f15.body).getD .skip)).getD .skip
noncomputable def es15:List (Nat × Ent):=[(17,.ord [(true,0),(true,1),(true,2),(true,3),(true,4),(true,5)] [])]
noncomputable def lp15 (s:Sg) (k:KT):Rs:=match s with
 | ⟨(x0::x1::x2::x3::x4::.so (.vc (.ci .i64 g lg hg))::x6::x7::x8::.so (.vc (.ci .i64 m _ _))::x10::x11::x12::x13::x14::x15::x16::x17::x18::x19::x20::x21::x22::x23::x24::x25::x26::x27::x28::x29::x30::x31::x32::x33::x34::x35::x36::x37::x38::x39::_::_::_::_::_::_::x46::x47::x48::x49::x50::x51::x52::x53::x54::x55::x56::x57::x58::x59::[]),bl,nu,nr,nz,ds⟩=>if ile 0 lg&&ile hg 9223372036854775807&&ile 0 0 then asL (decide (0≤m∧m≤9223372036854775807)) true (k (.x 4) ⟨(x0::x1::x2::x3::x4::.so (.vc (.ci .i64 (Int.gcd g m:Int) 0 9223372036854775807))::x6::x7::x8::.so (.vc (.ci .i64 0 0 0))::x10::x11::x12::x13::x14::x15::x16::x17::x18::x19::x20::x21::x22::x23::x24::x25::x26::x27::x28::x29::x30::x31::x32::x33::x34::x35::x36::x37::x38::x39::.so (.vc (.ci .i64 0 0 0))::.so (.vc (.cb false (some false)))::.sj nz 0::.sj nz 1::.sj nz 2::.sj nz 3::x46::x47::x48::x49::x50::x51::x52::x53::x54::x55::x56::x57::x58::x59::[]),bl,nu,nr,nz+1,ds⟩) else none
 | _=>none
theorem ru115 (x0 x1 x2 x3 x4 x6 x7 x8 aV aW aB aT aO ay ac ab aL aF aG aK aX aE aS aI av ak ae aA aw aj al ad ah aP aq ai ax aQ aH aa az af ar aM aR ap aN aC aJ aU au aD a3 a2 aZ aY a0 a1:SV) (g m:Int) (bl:List (Nat × List Cl)) (nu nr nz:Nat) (k:KT):zv3 Tryz.prog 0 0 (fun _ _ _ _=>none) es15 bd15 ⟨(x0::x1::x2::x3::x4::.so (.vc (.ci .i64 g 0 9223372036854775807))::x6::x7::x8::.so (.vc (.ci .i64 m 1 9223372036854775807))::aV::aW::aB::aT::aO::ay::ac::ab::aL::aF::aG::aK::aX::aE::aS::aI::av::ak::ae::aA::aw::aj::al::ad::ah::aP::aq::ai::ax::aQ::a3::a2::aZ::aY::a0::a1::aH::aa::az::af::ar::aM::aR::ap::aN::aC::aJ::aU::au::aD::[]),bl,nu,nr,nz,.e⟩ k=k .n ⟨(x0::x1::x2::x3::x4::.so (.vc (.ci .i64 m 1 9223372036854775807))::x6::x7::x8::.so (.vc (.ci .i64 (g % m) 0 (9223372036854775807 - 1)))::aV::aW::aB::aT::aO::ay::ac::ab::aL::aF::aG::aK::aX::aE::aS::aI::av::ak::ae::aA::aw::aj::al::ad::ah::aP::aq::ai::ax::aQ::.so (.vc (.ci .i64 m 1 9223372036854775807))::.so (.vc (.cb (m !=0) (some true)))::.so (.vc (.ci .i64 m 1 9223372036854775807))::.so (.vc (.ci .i64 g 0 9223372036854775807))::.so (.vc (.ci .i64 m 1 9223372036854775807))::.so (.vc (.ci .i64 (g % m) 0 (9223372036854775807 - 1)))::aH::aa::az::af::ar::aM::aR::ap::aN::aC::aJ::aU::au::aD::[]),bl,nu,nr,nz,.e⟩:=by kernel_rfl
theorem ru015 (x0 x1 x2 x3 x4 x6 x7 x8 aZ a0 aE aX aS aA ad ac aP aJ aK aO a1 aI aW aM ax al af aD ay ak ap ae ai aT ar aj az aU aL aa aB ah au aQ aV aq aR aF aN aY av aH a3 a2 aw ab aC aG:SV) (g:Int) (bl:List (Nat × List Cl)) (nu nr nz:Nat) (k:KT):zv3 Tryz.prog 0 0 (fun _ _ _ _=>none) es15 bd15 ⟨(x0::x1::x2::x3::x4::.so (.vc (.ci .i64 g 0 9223372036854775807))::x6::x7::x8::.so (.vc (.ci .i64 0 0 0))::aZ::a0::aE::aX::aS::aA::ad::ac::aP::aJ::aK::aO::a1::aI::aW::aM::ax::al::af::aD::ay::ak::ap::ae::ai::aT::ar::aj::az::aU::a3::a2::aw::ab::aC::aG::aL::aa::aB::ah::au::aQ::aV::aq::aR::aF::aN::aY::av::aH::[]),bl,nu,nr,nz,.e⟩ k=k (.x 4) ⟨(x0::x1::x2::x3::x4::.so (.vc (.ci .i64 g 0 9223372036854775807))::x6::x7::x8::.so (.vc (.ci .i64 0 0 0))::aZ::a0::aE::aX::aS::aA::ad::ac::aP::aJ::aK::aO::a1::aI::aW::aM::ax::al::af::aD::ay::ak::ap::ae::ai::aT::ar::aj::az::aU::.so (.vc (.ci .i64 0 0 0))::.so (.vc (.cb false (some false)))::aw::ab::aC::aG::aL::aa::aB::ah::au::aQ::aV::aq::aR::aF::aN::aY::av::aH::[]),bl,nu,nr,nz,.e⟩:=by kernel_rfl
theorem yt3:LpOK Tryz.prog lp15 bd15:=by
 intro Post B Q k X s w L hp hk h hL hR
 have hmx:Tryz.prog.follows .mixedOrders=true:=by kernel_rfl
 have hco:zj4 Tryz.prog es15 bd15=true:=by kernel_rfl
 have hno:noLp es15=true:=by kernel_rfl
 unfold lp15 at h
 split at h
 ·rename_i x0 x1 x2 x3 x4 g lg hg x6 x7 x8 m lm hm a1 a2 ak a0 aQ aM aS aR aP aX ax aO aq aw aD ay aW aH aT au aK ai aI aG ar aC aV ah aL aY a5 bb a9 ba a7 a6 ap aF aN aU aj aA aZ aJ aB al az aE a3 av bl nu nr nz ds
  split at h
  ·rename_i hc
   obtain ⟨L',hkk,rfl⟩:=zu6 h
   obtain ⟨hm,hL⟩:=hL
   have hm:=of_decide_eq_true hm
   simp only [Bool.and_eq_true,zi8,decide_eq_true_eq] at hc
   have hg:lg≤g∧g≤hg:=(hR.fr (.so (.vc (.ci .i64 g lg hg))) (List.mem_of_getElem? (i:=5) rfl)).2
   have r0:=((hR.ds .e).set (d:=5) (v:=.so (.vc (.ci .i64 g 0 9223372036854775807))) ⟨rfl,by omega,by omega⟩).set (d:=9) (v:=.so (.vc (.ci .i64 m 0 9223372036854775807))) ⟨rfl,hm.1,hm.2⟩
   refine zg5 (fun n a w'=>∃ (X':Env) (g' m':Int) (ae ab af ac aa ad:SV),m'.toNat=n∧a=za8 X' (x0::x1::x2::x3::x4::.so (.vc (.ci .i64 g' 0 9223372036854775807))::x6::x7::x8::.so (.vc (.ci .i64 m' 0 9223372036854775807))::a1::a2::ak::a0::aQ::aM::aS::aR::aP::aX::ax::aO::aq::aw::aD::ay::aW::aH::aT::au::aK::ai::aI::aG::ar::aC::aV::ah::aL::aY::ae::ab::af::ac::aa::ad::ap::aF::aN::aU::aj::aA::aZ::aJ::aB::al::az::aE::a3::av::[])∧Rep B X' ⟨(x0::x1::x2::x3::x4::.so (.vc (.ci .i64 g' 0 9223372036854775807))::x6::x7::x8::.so (.vc (.ci .i64 m' 0 9223372036854775807))::a1::a2::ak::a0::aQ::aM::aS::aR::aP::aX::ax::aO::aq::aw::aD::ay::aW::aH::aT::au::aK::ai::aI::aG::ar::aC::aV::ah::aL::aY::ae::ab::af::ac::aa::ad::ap::aF::aN::aU::aj::aA::aZ::aJ::aB::al::az::aE::a3::av::[]),bl,nu,nr,nz,.e⟩ w'∧Int.gcd g' m'=Int.gcd g m∧(0≤g'∧g'≤9223372036854775807)∧0≤m'∧m'≤9223372036854775807) m.toNat ⟨X,g,m,a5,bb,a9,ba,a7,a6,rfl,rfl,r0,rfl,⟨by omega,by omega⟩,hm⟩ ?_
   rintro _ _ w' ⟨X',g',m',ae,ab,af,ac,aa,ad,rfl,rfl,hR',hgcd,g0,m0⟩ K hK
   by_cases hz:m'=0
   ·subst hz
    refine yE5 (Q:=Exit.then K Q) hmx hco hno (hp.then K) (ru015 x0 x1 x2 x3 x4 x6 x7 x8 a1 a2 ak a0 aQ aM aS aR aP aX ax aO aq aw aD ay aW aH aT au aK ai aI aG ar aC aV ah aL aY ap aF aN aU aj aA aZ aJ aB al az aE a3 av ae ab af ac aa ad g' bl nu nr nz) (hR'.set (d:=9) (v:=.so (.vc (.ci .i64 0 0 0))) ⟨rfl,Int.le_refl _,Int.le_refl _⟩) fun X2 w2 a4=>?_
    obtain ⟨X3,a8,he⟩:=a4.junk [42,43,44,45]
    have eg:g'=(Int.gcd g m:Int):=by rw [Int.gcd_zero_right] at hgcd;omega
    subst eg
    exact (congrArg (fun a=>Q (.exit 4) a w2) he).mp (hk (.x 4) _ X3 w2 L' hkk hL (a8.ds ds))
   ·refine yE5 (Q:=Exit.then K Q) hmx hco hno (hp.then K) (ru115 x0 x1 x2 x3 x4 x6 x7 x8 a1 a2 ak a0 aQ aM aS aR aP aX ax aO aq aw aD ay aW aH aT au aK ai aI aG ar aC aV ah aL aY ap aF aN aU aj aA aZ aJ aB al az aE a3 av ae ab af ac aa ad g' m' bl nu nr nz) (hR'.set (d:=9) (v:=.so (.vc (.ci .i64 m' 1 9223372036854775807))) ⟨rfl,by omega,m0.2⟩) fun X2 w2 a4=>?_
    have e1:=Int.emod_nonneg g' hz
    have e2:=Int.emod_lt_of_pos g' (show 0<m' by omega)
    refine hK (g' % m').toNat _ _ (by omega) ⟨X2,m',g' % m',_,_,_,_,_,_,rfl,rfl,(a4.set (d:=5) (v:=.so (.vc (.ci .i64 m' 0 9223372036854775807))) ⟨rfl,by omega,m0.2⟩).set (d:=9) (v:=.so (.vc (.ci .i64 (g' % m') 0 9223372036854775807))) ⟨rfl,e1,by omega⟩,(zZ8 g0.1 (by omega)).trans hgcd,⟨by omega,m0.2⟩,e1,by omega⟩
  ·cases h
 ·cases h
noncomputable def yn8:List (Nat × Ent):=(100016,.lp lp15)::es15
section
variable {qq0 qq1 qq2 qq3:Int}
theorem qsgn0 (h:(qq0==(0:Int))=false):qsgn qq0 qq1 qq2 qq3=sgn qq0∧qq0≠0:=by
 have h:qq0≠0:=by simpa using h
 exact ⟨if_neg h,h⟩
theorem qsgn1 (h0:(qq0==(0:Int))=true) (h:(qq1==(0:Int))=false):qsgn qq0 qq1 qq2 qq3=sgn qq1∧qq1≠0:=by
 have h0:qq0=0:=by simpa using h0
 have h:qq1≠0:=by simpa using h
 refine ⟨?_,h⟩
 unfold qsgn;rw [if_pos h0,if_neg h]
theorem qsgn2 (h0:(qq0==(0:Int))=true) (h1:(qq1==(0:Int))=true) (h:(qq2==(0:Int))=false):qsgn qq0 qq1 qq2 qq3=sgn qq2∧qq2≠0:=by
 have h0:qq0=0:=by simpa using h0
 have h1:qq1=0:=by simpa using h1
 have h:qq2≠0:=by simpa using h
 refine ⟨?_,h⟩
 unfold qsgn;rw [if_pos h0,if_pos h1,if_neg h]
theorem qsgn3 (h0:(qq0==(0:Int))=true) (h1:(qq1==(0:Int))=true) (h2:(qq2==(0:Int))=true) (hz:¬(qq0=0∧qq1=0∧qq2=0∧qq3=0)):qsgn qq0 qq1 qq2 qq3=sgn qq3∧qq3≠0:=by
 have h0:qq0=0:=by simpa using h0
 have h1:qq1=0:=by simpa using h1
 have h2:qq2=0:=by simpa using h2
 refine ⟨?_,fun h3=>hz ⟨h0,h1,h2,h3⟩⟩
 unfold qsgn;rw [if_pos h0,if_pos h1,if_pos h2]
theorem chk_g {g E:Int} (hG:g=qgcd qq0 qq1 qq2 qq3) (h:(g !=(1:Int))=true):(3:Int)=(if ¬(qgcd qq0 qq1 qq2 qq3=1∧qsgn qq0 qq1 qq2 qq3=1) then 3 else E):=by
 rw [if_pos]
 rintro ⟨h1,_⟩
 rw [hG,h1] at h;exact absurd h (by decide)
theorem chk_s {s E:Int} (hS:qsgn qq0 qq1 qq2 qq3=sgn s∧s≠0) (h:decide (s<(0:Int))=true):(3:Int)=(if ¬(qgcd qq0 qq1 qq2 qq3=1∧qsgn qq0 qq1 qq2 qq3=1) then 3 else E):=by
 rw [if_pos]
 rintro ⟨_,h1⟩
 rw [hS.1] at h1
 have h:=of_decide_eq_true h
 unfold sgn at h1;rw [if_pos h] at h1;omega
theorem chk_e {g s E:Int} (hG:g=qgcd qq0 qq1 qq2 qq3) (hg:(g !=(1:Int))=false) (hS:qsgn qq0 qq1 qq2 qq3=sgn s∧s≠0) (h:decide (s<(0:Int))=false):E=(if ¬(qgcd qq0 qq1 qq2 qq3=1∧qsgn qq0 qq1 qq2 qq3=1) then 3 else E):=by
 rw [if_neg]
 simp only [Classical.not_not]
 have h:=of_decide_eq_false h
 have hs:=hS.2
 refine ⟨by rw [← hG];simpa using hg,?_⟩
 rw [hS.1];unfold sgn;rw [if_neg h,if_neg hs]
end
def cVPv:ConT:=fun args nr _=>match args with
 | [.so (.vg [c1,c2,c3])]=>match txC c1,txC c2,txC c3 with
  | some (k1,x1),some (k2,x2),some (k3,x3)=>tr (Nat.ble k1 64&&Nat.ble k2 64&&Nat.ble k3 64) (.leaf (.st [.vg (zm3 nr [(64,x1),(64,x2),(64,x3)]),.vc (.ci .i64 0 0 0)]) 3 0)
  | _,_,_=>none
 | _=>none
theorem cVPv_ok {I:World→Prop} (hI:∀ w,I w→Mx w):ConOK Tryz.prog I 57 cVPv:=by
 intro args E n w T hw ha hT _
 unfold cVPv at hT
 split at hT
 ·rename_i c1 c2 c3
  split at hT
  ·rename_i k1 x1 k2 x2 k3 x3 e1 e2 e3
   obtain ⟨hb,rfl⟩:=zd8 hT
   simp only [Bool.and_eq_true,Nat.ble_eq] at hb
   obtain ⟨⟨b4,b5⟩,b6⟩:=hb
   have g:=fun c hc=>ha _ (List.mem_singleton.2 rfl) c hc
   obtain ⟨d1,s1⟩:=zl8 e1 (g c1 (by simp))
   obtain ⟨d2,s2⟩:=zl8 e2 (g c2 (by simp))
   obtain ⟨d3,s3⟩:=zl8 e3 (g c3 (by simp))
   have s1:=s1.mono b4
   have s2:=s2.mono b5
   have s3:=s3.mono b6
   have le:∀ {x:Rat},RS 64 x→((za1 x).length:Int)≤400:=fun h=>by have:=zu4 h.1 h.2;omega
   show Calls _ _ #[.agg #[c1.den E,c2.den E,c3.den E]] w _
   rw [d1,d2,d3]
   refine (vparse_v (k:=64) x1 x2 x3 s1 s2 s3 (by decide) (by decide) (le s1) (le s2) (le s3) w (hI w hw)).mono fun e w' he=>zq0 ?_
   obtain ⟨⟨t0,t1,t2,t3,t4,t5,t6,t7,t8,t9,aa,ab,rfl,h1,h2,h3⟩,g⟩:=he
   exact ⟨⟨[t0,t1,t2,t3,t4,t5,t6,t7,t8,t9,aa,ab],rfl,h1,h2,h3,trivial⟩,g⟩
  ·cases hT
 ·cases hT
noncomputable def sysCk:Sys:=⟨Tryz.prog,2,199,[(15,yn8)],[(57,cVPv)],Mx⟩
theorem sysCk_ok:sysCk.OK where
 mixed:=by kernel_rfl
 calls:=fun f h0 h1=>by
  have:(List.range 199).all (fun f=>Nat.blt f 2||okCall Tryz.prog f)=true:=by kernel_rfl
  have:=List.all_eq_true.1 this f (List.mem_range.2 h1)
  simp only [Bool.or_eq_true] at this
  exact this.resolve_left (fun e=>by have:=ze7 e;exact absurd h0 (by show ¬ 2≤f;omega))
 tab:=by
  have:[(15,yn8)].all (okTab Tryz.prog)=true:=by kernel_rfl
  exact fun x hx=>List.all_eq_true.1 this x hx
 lps:=fun x hx fn c h2 hb=>by
  have:x=(15,yn8):=List.mem_singleton.1 hx
  subst this
  have:fn=Tryz.f15:=Option.some.inj (h2.symm.trans Tryz.func15)
  subst this
  have:c=(Tryz.f15.body).getD .skip:=by rw [hb];rfl
  subst this
  repeat' first | exact trivial | exact yt3 | refine ⟨?_,?_⟩
 con:=fun x hx=>by
  have:x=(57,cVPv):=List.mem_singleton.1 hx
  subst this
  exact cVPv_ok fun w h=>h
 inv:=fun w w' h g=>h.gr g
def absq (q:Int):Int:=if 0 - q>q then 0 - q else q
def gq4 (q0 q1 q2 q3:Int):Int:=(Int.gcd (Int.gcd (Int.gcd (Int.gcd 0 q0:Int) q1:Int) q2:Int) q3:Int)
def re (n:Int):Lf:=.ret (.so (.vc (.ci .i64 n n n)))
def nng (m:Int) (l:Lf):Lf:=.as (decide (0≤m∧m≤9223372036854775807)) true l
def eg (fin:Lf) (g s:Int):Lf:=.br (g !=1) (re 3) (.br (decide (s<0)) (re 3) fin)
def treeG (ab:Int→Int) (fin:Lf) (q0 q1 q2 q3:Int):Lf:=nng (ab q0) (.br (q0==0)
 (nng (ab q1) (.br (q1==0)
  (nng (ab q2) (.br (q2==0) (nng (ab q3) (eg fin (gq4 (ab q0) (ab q1) (ab q2) (ab q3)) q3)) (nng (ab q3) (eg fin (gq4 (ab q0) (ab q1) (ab q2) (ab q3)) q2))))
  (nng (ab q2) (.as (q1==0) false (nng (ab q3) (eg fin (gq4 (ab q0) (ab q1) (ab q2) (ab q3)) q1))))))
 (nng (ab q1) (.as (q0==0) false (nng (ab q2) (.as (q0==0) false (nng (ab q3) (eg fin (gq4 (ab q0) (ab q1) (ab q2) (ab q3)) q0)))))))
def treeCk (q0 q1 q2 q3:Int):Lf:=.br (zx0 [q0,q1,q2,q3] [0,0,0,0]) (re 19) (treeG absq (re 0) q0 q1 q2 q3)
theorem runCk (q0 q1 q2 q3:Int) (x1 x2 x3:Rat):zV9 sysCk 15 [.so (.vg [.ci .i64 q0 (-12) 12,.ci .i64 q1 (-12) 12,.ci .i64 q2 (-12) 12,.ci .i64 q3 (-12) 12,.cw (za1 x1) (some (64,x1)),.cw (za1 x2) (some (64,x2)),.cw (za1 x3) (some (64,x3))])] 0 0 (.s .e (.s (.s (.s (.s .e (.s .e .e)) (.s .e (.s .e .e))) (.f (.s .e (.s .e .e)))) (.f (.f (.s .e (.s .e .e))))))=some (treeCk q0 q1 q2 q3):=by kernel_rfl
def CkP (E:Int) (v:SV):Prop:=∃ lo hi,v=.so (.vc (.ci .i64 E lo hi))
theorem zr4 {E n:Int} (h:n=E):LOK (CkP E) (re n):=⟨n,n,by rw [h]⟩
theorem yn9 {qq0 qq1 qq2 qq3:Int}:zx0 [qq0,qq1,qq2,qq3] [0,0,0,0]=decide (qq0=0∧qq1=0∧qq2=0∧qq3=0):=by
 rw [Bool.eq_iff_iff,decide_eq_true_eq];simp [zx0,eqL,and_assoc]
section
variable {qq0 qq1 qq2 qq3:Int} (i0:-12≤qq0∧qq0≤12) (i1:-12≤qq1∧qq1≤12) (i2:-12≤qq2∧qq2≤12) (i3:-12≤qq3∧qq3≤12)
include i0 i1 i2 i3
theorem yi2 {ab:Int→Int} (hab:∀ q,-12≤q∧q≤12→ab q=(q.natAbs:Int)) (hz:¬(qq0=0∧qq1=0∧qq2=0∧qq3=0)) {fin:Lf} {E:Int} (hf:LOK (CkP E) fin):
  LOK (CkP (if ¬(qgcd qq0 qq1 qq2 qq3=1∧qsgn qq0 qq1 qq2 qq3=1) then 3 else E)) (treeG ab fin qq0 qq1 qq2 qq3):=by
 have nn:∀ {P:SV→Prop} {q:Int} {l:Lf},-12≤q∧q≤12→LOK P l→LOK P (nng (ab q) l):=fun {P q l} h hl=>⟨decide_eq_true (by rw [hab q h];omega),hl⟩
 have hg:gq4 (ab qq0) (ab qq1) (ab qq2) (ab qq3)=qgcd qq0 qq1 qq2 qq3:=by
  unfold gq4;rw [hab _ i0,hab _ i1,hab _ i2,hab _ i3];exact zY3
 have e:∀ {s:Int},qsgn qq0 qq1 qq2 qq3=sgn s∧s≠0→LOK (CkP (if ¬(qgcd qq0 qq1 qq2 qq3=1∧qsgn qq0 qq1 qq2 qq3=1) then 3 else E)) (eg fin (gq4 (ab qq0) (ab qq1) (ab qq2) (ab qq3)) s):=fun hS=>
  ⟨fun h=>zr4 (chk_g hg h),fun h=>⟨fun k=>zr4 (chk_s hS k),fun k=>by rw [← chk_e (E:=E) hg h hS k];exact hf⟩⟩
 exact nn i0 ⟨fun h0=>nn i1 ⟨fun h1=>nn i2 ⟨fun h2=>nn i3 (e (qsgn3 h0 h1 h2 hz)),fun h2=>nn i3 (e (qsgn2 h0 h1 h2))⟩,
  fun h1=>nn i2 ⟨h1,nn i3 (e (qsgn1 h0 h1))⟩⟩,fun h0=>nn i1 ⟨h0,nn i2 ⟨h0,nn i3 (e (qsgn0 h0))⟩⟩⟩
theorem yt4:LOK (CkP (chk qq0 qq1 qq2 qq3 0)) (treeCk qq0 qq1 qq2 qq3):=by
 refine ⟨fun h=>zr4 ?_,fun h=>?_⟩
 ·rw [yn9] at h;unfold chk;rw [if_pos (of_decide_eq_true h)]
 ·rw [yn9] at h
  have hz:=of_decide_eq_false h
  unfold chk;rw [if_neg hz,if_neg (by simp only [Classical.not_not];exact ⟨i0,i1,i2,i3⟩)]
  exact yi2 i0 i1 i2 i3 (fun q h=>by unfold absq;split<;>omega) hz (zr4 rfl)
theorem yt5 (ad aa ab:Rat) (ac:RS 64 ad) (af:RS 64 aa) (ae:RS 64 ab) (w:World) (hm:Mx w):
  Calls Tryz.prog 15 #[.agg #[.int .i64 qq0,.int .i64 qq1,.int .i64 qq2,.int .i64 qq3,.string ⟨(za1 ad).toArray⟩,.string ⟨(za1 aa).toArray⟩,.string ⟨(za1 ab).toArray⟩]] w fun e w'=>e=.returned (.int .i64 (chk qq0 qq1 qq2 qq3 0))∧Gr w w':=by
 have tx:∀ {x},RS 64 x→(Cl.cw (za1 x) (some (64,x))).ok ⟨0,0,0⟩ (zG5 []) w:=fun h=>⟨rfl,fun k q e=>by cases e;exact ⟨rfl,h⟩⟩
 refine (zc8 sysCk sysCk_ok (runCk qq0 qq1 qq2 qq3 ad aa ab) (X:=zG5 []) hm (okF1 (zf6 ⟨⟨rfl,i0⟩,⟨rfl,i1⟩,⟨rfl,i2⟩,⟨rfl,i3⟩,tx ac,tx af,tx ae,trivial⟩)) (yt4 i0 i1 i2 i3)).mono fun e w' he=>?_
 obtain ⟨v,X',n,rfl,g,_,_,lo,hi,rfl⟩:=he
 exact ⟨rfl,g⟩
end
theorem zZ4 {l cs:List UInt8}:Lib.trimS l cs=[]↔∀ c ∈ l,cs.contains c=true:=by
 constructor
 ·intro h c hc
  rcases Bool.eq_false_or_eq_true (cs.contains c) with e | e
  ·exact e
  ·exact absurd h (zP5 hc e)
 ·exact zZ3
theorem yA1 {c:UInt8}:[48,49,50,51,52,53,54,55,56,57].contains c=true↔48≤c.toNat∧c.toNat≤57:=by
 constructor
 ·intro h
  simp only [List.contains_cons,List.contains_nil,Bool.or_eq_true,beq_iff_eq,Bool.or_false] at h
  rcases h with rfl | rfl | rfl | rfl | rfl | rfl | rfl | rfl | rfl | rfl<;>decide
 ·exact yl4
theorem zZ5 (l:List UInt8):zd6 l=((l !=([]:List UInt8))&&(Lib.trimS l [48,49,50,51,52,53,54,55,56,57]==([]:List UInt8))):=by
 rw [Bool.eq_iff_iff]
 simp only [zd6,Bool.and_eq_true,decide_eq_true_eq,List.all_eq_true,bne_iff_ne,beq_iff_eq,zZ4,yA1,zQ7]
 rw [← List.length_pos_iff]
theorem zn6 (l:List UInt8):zf9 l=(Lib.trimS l [48]==([]:List UInt8)):=by
 rw [Bool.eq_iff_iff]
 simp [zf9,zZ4]
theorem trim_any (l:List UInt8) (hl:l.length≤1000000) (w:World):
  Calls Tryz.prog 142 #[.string ⟨l.toArray⟩,.string ⟨#[48,49,50,51,52,53,54,55,56,57]⟩] w fun e w'=>e=.returned (.string ⟨(Lib.trimS l [48,49,50,51,52,53,54,55,56,57]).toArray⟩)∧Gr w w':=by
 refine (Any.strings_Trim_laid Tryz.lays160 (by kernel_rfl) ⟨l.toArray⟩ ⟨#[48,49,50,51,52,53,54,55,56,57]⟩ w (by show l.toArray.size≤_;simp;omega) (by decide) (ascii_of_all (by decide))).mono ?_
 rintro e w1 ⟨he,g⟩
 exact ⟨he,g⟩
theorem zs7 (l:List UInt8) (hl:l.length≤1000000) (w:World):
  Calls Tryz.prog 142 #[.string ⟨l.toArray⟩,.string ⟨#[48]⟩] w fun e w'=>e=.returned (.string ⟨(Lib.trimS l [48]).toArray⟩)∧Gr w w':=by
 refine (Any.strings_Trim_laid Tryz.lays160 (by kernel_rfl) ⟨l.toArray⟩ ⟨#[48]⟩ w (by show l.toArray.size≤_;simp;omega) (by decide) (ascii_of_all (by decide))).mono ?_
 rintro e w1 ⟨he,g⟩
 exact ⟨he,g⟩
theorem zc5 (l:List UInt8) (w:World):Calls Tryz.prog 141 #[.string ⟨l.toArray⟩,.string ⟨#[45]⟩] w fun e w'=>e=.returned (.string ⟨(zb2 l).toArray⟩)∧Gr w w':=by
 refine (Tryz.strings_TrimPrefix _ _ _).mono ?_
 rintro e w1 ⟨he,rfl⟩
 refine ⟨?_,Gr.refl _⟩
 rw [he]
 show Ending.returned (.string ⟨(Lib.trimPrefix l [45]).toArray⟩)=_
 have:Lib.trimPrefix l [45]=zb2 l:=by
  cases l with
  | nil=>rfl
  | cons c l=>
   rw [zg8]
   by_cases hc:c=45
   ·subst hc;simp [Lib.trimPrefix,Lib.hasPrefix]
   ·have:¬ (45:UInt8)=c:=fun e=>hc e.symm
    simp [Lib.trimPrefix,Lib.hasPrefix,List.isPrefixOf,hc,this]
 rw [this]
theorem ye9 (l:List UInt8) (hl:l.length≤1000000) {w:World} (hm:Mx w):
  Calls Tryz.prog 139 #[.string ⟨l.toArray⟩,.string ⟨#[47]⟩] w fun e w'=>e=.returned (.tuple #[.string ⟨(zf4 l).toArray⟩,.string ⟨((zh5 l).2.getD []).toArray⟩,.bool (zh5 l).2.isSome])∧Gr w w':=by
 obtain ⟨m,hm⟩:=hm
 refine (Tryz.strings_Cut ⟨l.toArray⟩ ⟨#[47]⟩ m w (by show l.toArray.size<_;simp;omega) hm).mono ?_
 rintro e w1 ⟨he,n,rfl⟩
 refine ⟨?_,(Below.refl _ _).drewN _⟩
 rw [he]
 have e1:(⟨l.toArray⟩:ByteArray).data.toList=l:=by simp
 rw [e1,show (⟨#[47]⟩:ByteArray).data.toList=[47] from rfl,zZ2]
theorem cut_no (l:List UInt8) (hl:l.length≤1000000) (hc:zh5 l=(l,none)) {w:World} (hm:Mx w):
  Calls Tryz.prog 139 #[.string ⟨l.toArray⟩,.string ⟨#[47]⟩] w fun e w'=>e=.returned (.tuple #[.string ⟨l.toArray⟩,.string ⟨([]:List UInt8).toArray⟩,.bool false])∧Gr w w':=by
 refine (ye9 l hl hm).mono ?_
 rintro e w1 ⟨he,g⟩
 exact ⟨by rw [he,zf4,hc];rfl,g⟩
theorem zw6 (X A D:List UInt8) (hl:X.length≤1000000) (hc:zh5 X=(A,some D)) {w:World} (hm:Mx w):
  Calls Tryz.prog 139 #[.string ⟨X.toArray⟩,.string ⟨#[47]⟩] w fun e w'=>e=.returned (.tuple #[.string ⟨A.toArray⟩,.string ⟨D.toArray⟩,.bool true])∧Gr w w':=by
 refine (ye9 X hl hm).mono ?_
 rintro e w1 ⟨he,g⟩
 exact ⟨by rw [he,zf4,hc];rfl,g⟩
theorem zg2 (l:List UInt8):(zb2 l).length≤l.length:=by
 rcases zv9 l with e | ⟨e,_⟩
 ·have:=congrArg List.length e;simp at this;omega
 ·have:=congrArg List.length e;omega
theorem yA2 {l:List UInt8} (h:zd6 l=true):zd6 (zb2 l)=true:=by
 cases l with
 | nil=>exact h
 | cons c l=>
  rw [zg8]
  by_cases hc:c=45
  ·have:=(zt4 h).2 c (by simp)
   subst hc
   simp at this
  ·rw [if_neg hc];exact h
theorem yA3 {l:List UInt8} (h:zd6 l=true) (h2:zf9 l=false) (h3:(l[0]?==some 48)=true):zF3 l=true:=by
 cases l with
 | nil=>cases h3
 | cons c l=>
  have hc:c=48:=by simpa using h3
  subst hc
  cases l with
  | nil=>simp [zf9] at h2
  | cons d l=>simp [zF3,zg8]
set_option maxHeartbeats 1000000 in
theorem zK6 (l:List UInt8) (hl:l.length≤60000) (h1:zd6 (zb2 l)=true) (h2:zF3 l=true) (w:World):
  Calls Tryz.prog 143 #[.string ⟨l.toArray⟩] w fun e w'=>e=.returned (.tuple #[.agg #[.bool false,.slice none 0 0],.int .i64 3])∧Gr w w':=by
 have aa:=zt4 h1
 obtain ⟨s,hs⟩:∃ s:ByteArray,s=⟨l.toArray⟩:=⟨_,rfl⟩
 have hss:s.size=l.length:=by rw [hs];show l.toArray.size=_;simp
 obtain ⟨D,hD⟩:∃ D:ByteArray,D=⟨(zb2 l).toArray⟩:=⟨_,rfl⟩
 have hDl:D.data.toList=zb2 l:=by rw [hD]
 have hDs:D.size=(zb2 l).length:=by rw [hD];show (zb2 l).toArray.size=_;simp
 have ad:0<D.size:=by rw [hDs];exact List.length_pos_iff.2 aa.1
 have hslen:=zg2 l
 have hc:∀ w,Calls Tryz.prog 169 #[.string s,.string ⟨#[45]⟩] w fun e w'=>e=.returned (.tuple #[.string D,.bool (decide ((zb2 l).length<l.length))])∧w=w':=by
  intro w
  rw [hs,hD]
  refine (Tryz.strings_CutPrefix _ _ _).mono ?_
  rintro e w1 ⟨he,rfl⟩
  refine ⟨?_,rfl⟩
  rw [he]
  show Ending.returned (.tuple #[.string ⟨(Lib.trimPrefix l [45]).toArray⟩,.bool (Lib.hasPrefix l [45])])=_
  cases l with
  | nil=>rfl
  | cons c l=>
   rw [zg8]
   by_cases hc:c=45
   ·subst hc;simp [Lib.trimPrefix,Lib.hasPrefix]
   ·have:¬ (45:UInt8)=c:=fun e=>hc e.symm
    simp [Lib.trimPrefix,Lib.hasPrefix,List.isPrefixOf,hc,this]
 have hcn:=zJ5 D (by rw [hDl];exact aa.2)
 have hne:(D.toList==[])=false:=by
  rw [beq_eq_false_iff_ne,ByteArray.toList_eq,hDl];exact aa.1
 have ab:(D[0].toNat:Int)=48∧(1<D.size∨(zb2 l).length<l.length):=by
  unfold zF3 at h2
  simp only [Bool.and_eq_true,Bool.or_eq_true,decide_eq_true_eq] at h2
  have hh:=yz3 ad
  rw [hDl,h2.1] at hh
  have hh:=(beq_iff_eq.1 hh.symm)
  refine ⟨hh,?_⟩
  rw [hDs]
  omega
 have ac:((D[0].toNat:Int)==48)=true:=by rw [ab.1];rfl
 have hor:=ab.2
 have af:D.size≤60000:=by omega
 have ae:s.size≤60000:=by omega
 rw [← hs]
 have HD:=Lib.hid hDl
 clear ab hDl hDs hD hs hss h2 aa h1 hslen
 go_enter Tryz.func143,Tryz.ntmps143
 go_wp2_with fail
 (with_reducible refine (hc _).mono ?_)
 rintro e w1 ⟨rfl,rfl⟩
 clear hc
 go_wp2_with fail
 (with_reducible refine (hcn _).mono ?_)
 rintro e w2 ⟨rfl,g2⟩
 clear hcn
 have p3:=Gr.heap g2 (heap_alloc_new w (.cells #[.bool false,.slice none 0 0] 34))
 have d0:=zb5 p3 0
 have d1:=zb5 p3 1
 have d2:=zm4 p3
 have gw:Gr w w2:=(Gr.alloc w _).trans g2
 by_cases hD2:(1:Int)<(D.size:Int)
 ·go_wp2
  have p4:=za6 (i:=1) (.slice none 0 0) (za6 (i:=0) (.bool false) p3)
  have hst:=(St.setCell w2 w.heap.size 0 (.bool false)).trans (St.setCell _ w.heap.size 1 (.slice none 0 0))
  exact bodyPost_ret (v:=.tuple #[.agg #[.bool false,.slice none 0 0],.int .i64 3]) (za5 _ _ _ rfl rfl p4 (by kernel_rfl) rfl) rfl ⟨rfl,hst.gr gw (Nat.le_refl _)⟩
 ·have hlt:(zb2 l).length<l.length:=by
   rcases hor with h | h
   ·omega
   ·exact h
  go_wp2
  have p4:=za6 (i:=1) (.slice none 0 0) (za6 (i:=0) (.bool false) p3)
  have hst:=(St.setCell w2 w.heap.size 0 (.bool false)).trans (St.setCell _ w.heap.size 1 (.slice none 0 0))
  exact bodyPost_ret (v:=.tuple #[.agg #[.bool false,.slice none 0 0],.int .i64 3]) (za5 _ _ _ rfl rfl p4 (by kernel_rfl) rfl) rfl ⟨rfl,hst.gr gw (Nat.le_refl _)⟩
set_option maxRecDepth 100000 in
set_option maxHeartbeats 1000000 in
theorem zd2 (l:List UInt8) (_hl:l.length≤1000000) (w:World):
    Calls Tryz.prog 140 #[(.string ⟨(l:List UInt8).toArray⟩)] w fun e w'=>e=.returned (.bool (zd6 l))∧Gr w w':=by
 go_enter Tryz.func140,Tryz.ntmps140
 have hB:=Gr.refl w
 refine wp_seq_k (fun K1 k1=>?_)
 refine rg [0] ?_
 refine sv 2 (.bool false) ?_
 refine za0 ?_
 refine k1 _ _ ?_
 try clear k1 K1
 refine wp_seq_k (fun K2 k2=>?_)
 refine rg [0,1,2,3,4,5,6,7] ?_
 refine sv 3 (.string ⟨(l:List UInt8).toArray⟩) ?_
 refine sw 4 (.bool (((l) !=([]:List UInt8)))) rfl (rv_sne 9 9 _ _ (l) ([]) rfl rfl rfl) ?_
 rcases Bool.eq_false_or_eq_true (((l) !=([]:List UInt8))) with hb3 | hb3
 ·refine sw 5 (.bool true) rfl (RunV.bool (x:=((l) !=([]:List UInt8))) (rvk (by kernel_rfl)) hb3) ?_
  refine sv 6 (.string ⟨(l:List UInt8).toArray⟩) ?_
  refine se ?_
  refine ec 7 (trim_any (l) (by omega) _) ?_
  rintro e4 w4 ⟨rfl,g4⟩
  refine ⟨_,rfl,?_⟩
  replace hB:=hB.trans g4
  simp only [p3,p4]
  refine sw 8 (.bool (((Lib.trimS (l) [48,49,50,51,52,53,54,55,56,57])==([]:List UInt8)))) rfl (zv6 9 9 _ _ (Lib.trimS (l) [48,49,50,51,52,53,54,55,56,57]) ([]) rfl rfl rfl) ?_
  refine sv 9 (.bool (((Lib.trimS (l) [48,49,50,51,52,53,54,55,56,57])==([]:List UInt8)))) ?_
  refine sv 2 (.bool (((Lib.trimS (l) [48,49,50,51,52,53,54,55,56,57])==([]:List UInt8)))) ?_
  refine za0 ?_
  refine k2 _ _ ?_
  try clear k2 K2
  refine wp_ret ?_
  refine bodyPost_ret (v:=(.bool (((Lib.trimS (l) [48,49,50,51,52,53,54,55,56,57])==([]:List UInt8))))) (zb0 rfl rfl) rfl ⟨?_,hB⟩
  exact (by rw [zZ5,hb3];rfl)
 ·refine sw 5 (.bool false) rfl (RunV.bool (x:=((l) !=([]:List UInt8))) (rvk (by kernel_rfl)) hb3) ?_
  refine ss 6 ?_
  refine ss 7 ?_
  refine ss 8 ?_
  refine sv 9 (.bool false) ?_
  refine sv 2 (.bool false) ?_
  refine za0 ?_
  refine k2 _ _ ?_
  try clear k2 K2
  refine wp_ret ?_
  refine bodyPost_ret (v:=(.bool false)) (zb0 rfl rfl) rfl ⟨?_,hB⟩
  exact (by rw [zZ5,hb3];rfl)

set_option maxRecDepth 100000 in
set_option maxHeartbeats 1000000 in
theorem yv1 (X:List UInt8) (most:Int) (_hx:X.length≤1000000) (_hlong:most<(X.length:Int)) (w:World) (hm:Mx w):
    Calls Tryz.prog 120 #[(.string ⟨(X:List UInt8).toArray⟩),(.int .i64 (most))] w fun e w'=>e=.returned (.tuple #[.agg #[.bool false,.slice none 0 0,.bool false,.slice none 0 0],.int .i64 5])∧Gr w w':=by
 have hl:decide (most<((X).length:Int))=true:=by simp;omega
 go_enter Tryz.func120,Tryz.ntmps120
 have hB:=Gr.refl w
 refine wp_seq_k (fun K1 k1=>?_)
 refine rg [0,1] ?_
 refine se ?_
 refine ea 36 #[.bool false,.slice none 0 0,.bool false,.slice none 0 0] 4 hB fun b2 w2 g2 L2 o2 q2 hB=>?_
 simp only [p3,p4]
 refine sv 5 (.int .i64 0) ?_
 refine za0 ?_
 refine k1 _ _ ?_
 try clear k1 K1
 refine wp_seq_k (fun K3 k3=>?_)
 refine rg [0,1] ?_
 refine sv 13 (.string ⟨(X:List UInt8).toArray⟩) ?_
 refine sv 6 (.string ⟨(X:List UInt8).toArray⟩) ?_
 refine za0 ?_
 refine k3 _ _ ?_
 try clear k3 K3
 refine wp_seq_k (fun K4 k4=>?_)
 refine rg [0,1,2,3,4,5,6,7,8] ?_
 refine sv 15 (.string ⟨(X:List UInt8).toArray⟩) ?_
 refine se ?_
 refine ec 16 (ye9 (X) (by omega) (hm.gr hB)) ?_
 rintro e5 w5 ⟨rfl,g5⟩
 refine ⟨_,rfl,?_⟩
 replace hB:=hB.trans g5
 simp only [p3,p4]
 refine sv 14 (.tuple #[(.string ⟨(zf4 (X):List UInt8).toArray⟩),(.string ⟨((zh5 (X)).2.getD []:List UInt8).toArray⟩),(.bool ((zh5 (X)).2.isSome))]) ?_
 refine sv 17 (.string ⟨(zf4 (X):List UInt8).toArray⟩) ?_
 refine sv 18 (.string ⟨((zh5 (X)).2.getD []:List UInt8).toArray⟩) ?_
 refine sv 19 (.bool ((zh5 (X)).2.isSome)) ?_
 refine sv 7 (.string ⟨(zf4 (X):List UInt8).toArray⟩) ?_
 refine sv 8 (.string ⟨((zh5 (X)).2.getD []:List UInt8).toArray⟩) ?_
 refine sv 9 (.bool ((zh5 (X)).2.isSome)) ?_
 refine za0 ?_
 refine k4 _ _ ?_
 try clear k4 K4
 refine wp_seq_k (fun K6 k6=>?_)
 refine wp_block ?_
 refine wp_seq_k (fun K7 k7=>?_)
 refine rg [0,1,2,3,4] ?_
 refine sv 21 (.string ⟨(X:List UInt8).toArray⟩) ?_
 refine sv 22 (.int .i64 (((X).length:Int))) ?_
 refine sv 23 (.int .i64 (most)) ?_
 refine sw 24 (.bool true) rfl (RunV.bool (x:=decide (most<((X).length:Int))) (rvk (by kernel_rfl)) hl) ?_
 refine sv 20 (.bool true) ?_
 refine za0 ?_
 refine k7 _ _ ?_
 try clear k7 K7
 refine wp_cond_true rfl ?_
 refine wp_seq_k (fun K8 k8=>?_)
 refine rg [0,1,2] ?_
 refine sv 25 (.agg #[.bool false,.slice none 0 0,.bool false,.slice none 0 0]) ?_
 refine se ?_
 replace L2:=L2.gr g5
 refine es 36 0 (.agg #[.bool false,.slice none 0 0,.bool false,.slice none 0 0]) [.bool false,.slice none 0 0,.bool false,.slice none 0 0] #[.bool false,.slice none 0 0,.bool false,.slice none 0 0] L2 hB q2 ⟨rfl,rfl,rfl,rfl,trivial⟩ fun w9 ab aa L2 hB=>?_
 refine sv 5 (.int .i64 5) ?_
 refine za0 ?_
 refine k8 _ _ ?_
 try clear k8 K8
 refine wp_ret ?_
 simp only [Exit.then,Exit.inBlock]
 refine bodyPost_ret (v:=(.tuple #[(.agg #[.bool false,.slice none 0 0,.bool false,.slice none 0 0]),.int .i64 5])) (za5 _ _ _ rfl rfl L2 (by kernel_rfl) rfl) rfl ⟨?_,hB⟩
 exact rfl

set_option maxRecDepth 100000 in
set_option maxHeartbeats 1000000 in
theorem read_ns (X:List UInt8) (most:Int) (_hx:X.length≤14000) (_hlong:(X.length:Int)≤most) (hc:zh5 X=(X,none)) (h1:zd6 (zb2 X)=false) (w:World) (hm:Mx w):
    Calls Tryz.prog 120 #[(.string ⟨(X:List UInt8).toArray⟩),(.int .i64 (most))] w fun e w'=>e=.returned (.tuple #[.agg #[.bool false,.slice none 0 0,.bool false,.slice none 0 0],.int .i64 14])∧Gr w w':=by
 have hl:decide (most<((X).length:Int))=false:=by simp;omega
 have hsX:(zb2 (X)).length≤(X).length:=zg2 _
 go_enter Tryz.func120,Tryz.ntmps120
 have hB:=Gr.refl w
 refine wp_seq_k (fun K1 k1=>?_)
 refine rg [0,1] ?_
 refine se ?_
 refine ea 36 #[.bool false,.slice none 0 0,.bool false,.slice none 0 0] 4 hB fun b2 w2 g2 L2 o2 q2 hB=>?_
 simp only [p3,p4]
 refine sv 5 (.int .i64 0) ?_
 refine za0 ?_
 refine k1 _ _ ?_
 try clear k1 K1
 refine wp_seq_k (fun K3 k3=>?_)
 refine rg [0,1] ?_
 refine sv 13 (.string ⟨(X:List UInt8).toArray⟩) ?_
 refine sv 6 (.string ⟨(X:List UInt8).toArray⟩) ?_
 refine za0 ?_
 refine k3 _ _ ?_
 try clear k3 K3
 refine wp_seq_k (fun K4 k4=>?_)
 refine rg [0,1,2,3,4,5,6,7,8] ?_
 refine sv 15 (.string ⟨(X:List UInt8).toArray⟩) ?_
 refine se ?_
 refine ec 16 (cut_no (X) (by omega) hc (hm.gr hB)) ?_
 rintro e5 w5 ⟨rfl,g5⟩
 refine ⟨_,rfl,?_⟩
 replace hB:=hB.trans g5
 simp only [p3,p4]
 refine sv 14 (.tuple #[(.string ⟨(X:List UInt8).toArray⟩),(.string ⟨([]:List UInt8).toArray⟩),.bool false]) ?_
 refine sv 17 (.string ⟨(X:List UInt8).toArray⟩) ?_
 refine sv 18 (.string ⟨([]:List UInt8).toArray⟩) ?_
 refine sv 19 (.bool false) ?_
 refine sv 7 (.string ⟨(X:List UInt8).toArray⟩) ?_
 refine sv 8 (.string ⟨([]:List UInt8).toArray⟩) ?_
 refine sv 9 (.bool false) ?_
 refine za0 ?_
 refine k4 _ _ ?_
 try clear k4 K4
 refine wp_seq_k (fun K6 k6=>?_)
 refine wp_block ?_
 refine wp_seq_k (fun K7 k7=>?_)
 refine rg [0,1,2,3,4] ?_
 refine sv 21 (.string ⟨(X:List UInt8).toArray⟩) ?_
 refine sv 22 (.int .i64 (((X).length:Int))) ?_
 refine sv 23 (.int .i64 (most)) ?_
 refine sw 24 (.bool false) rfl (RunV.bool (x:=decide (most<((X).length:Int))) (rvk (by kernel_rfl)) hl) ?_
 refine sv 20 (.bool false) ?_
 refine za0 ?_
 refine k7 _ _ ?_
 try clear k7 K7
 refine wp_cond_false rfl ?_
 refine wp_seq_k (fun K8 k8=>?_)
 refine rg [0,1,2,3,4,5,6,7,8,9,10,11,12] ?_
 refine sv 27 (.string ⟨(X:List UInt8).toArray⟩) ?_
 refine se ?_
 refine ec 28 (zc5 (X) _) ?_
 rintro e9 w9 ⟨rfl,g9⟩
 refine ⟨_,rfl,?_⟩
 replace hB:=hB.trans g9
 simp only [p3,p4]
 refine se ?_
 refine ec 29 (zd2 (zb2 (X)) (by omega) _) ?_
 rintro af ai ⟨rfl,ab⟩
 refine ⟨_,rfl,?_⟩
 replace hB:=hB.trans ab
 simp only [p3,p4]
 refine sw 30 (.bool true) rfl (RunV.bool (x:=!(zd6 (zb2 (X)))) (rvk (by kernel_rfl)) (show (!(zd6 (zb2 (X))))=true by rw [h1];rfl)) ?_
 refine sv 31 (.bool true) ?_
 refine ss 32 ?_
 refine ss 33 ?_
 refine ss 34 ?_
 refine ss 35 ?_
 refine ss 36 ?_
 refine ss 37 ?_
 refine sv 38 (.bool true) ?_
 refine sv 26 (.bool true) ?_
 refine za0 ?_
 refine k8 _ _ ?_
 try clear k8 K8
 refine wp_cond_true rfl ?_
 refine wp_seq_k (fun ad aa=>?_)
 refine rg [0,1,2] ?_
 refine sv 39 (.agg #[.bool false,.slice none 0 0,.bool false,.slice none 0 0]) ?_
 refine se ?_
 replace L2:=L2.gr (g5.trans (g9.trans ab))
 refine es 36 0 (.agg #[.bool false,.slice none 0 0,.bool false,.slice none 0 0]) [.bool false,.slice none 0 0,.bool false,.slice none 0 0] #[.bool false,.slice none 0 0,.bool false,.slice none 0 0] L2 hB q2 ⟨rfl,rfl,rfl,rfl,trivial⟩ fun ah ae ac L2 hB=>?_
 refine sv 5 (.int .i64 14) ?_
 refine za0 ?_
 refine aa _ _ ?_
 try clear aa ad
 refine wp_ret ?_
 simp only [Exit.then,Exit.inBlock]
 refine bodyPost_ret (v:=(.tuple #[(.agg #[.bool false,.slice none 0 0,.bool false,.slice none 0 0]),.int .i64 14])) (za5 _ _ _ rfl rfl L2 (by kernel_rfl) rfl) rfl ⟨?_,hB⟩
 exact rfl

set_option maxRecDepth 100000 in
set_option maxHeartbeats 1000000 in
theorem read_nf (X:List UInt8) (most:Int) (_hx:X.length≤14000) (_hlong:(X.length:Int)≤most) (hc:zh5 X=(X,none)) (h1:zd6 (zb2 X)=true) (h2:zF3 X=true) (w:World) (hm:Mx w):
    Calls Tryz.prog 120 #[(.string ⟨(X:List UInt8).toArray⟩),(.int .i64 (most))] w fun e w'=>e=.returned (.tuple #[.agg #[.bool false,.slice none 0 0,.bool false,.slice none 0 0],.int .i64 3])∧Gr w w':=by
 have hl:decide (most<((X).length:Int))=false:=by simp;omega
 have hsX:(zb2 (X)).length≤(X).length:=zg2 _
 go_enter Tryz.func120,Tryz.ntmps120
 have hB:=Gr.refl w
 refine wp_seq_k (fun K1 k1=>?_)
 refine rg [0,1] ?_
 refine se ?_
 refine ea 36 #[.bool false,.slice none 0 0,.bool false,.slice none 0 0] 4 hB fun b2 w2 g2 L2 o2 q2 hB=>?_
 simp only [p3,p4]
 refine sv 5 (.int .i64 0) ?_
 refine za0 ?_
 refine k1 _ _ ?_
 try clear k1 K1
 refine wp_seq_k (fun K3 k3=>?_)
 refine rg [0,1] ?_
 refine sv 13 (.string ⟨(X:List UInt8).toArray⟩) ?_
 refine sv 6 (.string ⟨(X:List UInt8).toArray⟩) ?_
 refine za0 ?_
 refine k3 _ _ ?_
 try clear k3 K3
 refine wp_seq_k (fun K4 k4=>?_)
 refine rg [0,1,2,3,4,5,6,7,8] ?_
 refine sv 15 (.string ⟨(X:List UInt8).toArray⟩) ?_
 refine se ?_
 refine ec 16 (cut_no (X) (by omega) hc (hm.gr hB)) ?_
 rintro e5 w5 ⟨rfl,g5⟩
 refine ⟨_,rfl,?_⟩
 replace hB:=hB.trans g5
 simp only [p3,p4]
 refine sv 14 (.tuple #[(.string ⟨(X:List UInt8).toArray⟩),(.string ⟨([]:List UInt8).toArray⟩),.bool false]) ?_
 refine sv 17 (.string ⟨(X:List UInt8).toArray⟩) ?_
 refine sv 18 (.string ⟨([]:List UInt8).toArray⟩) ?_
 refine sv 19 (.bool false) ?_
 refine sv 7 (.string ⟨(X:List UInt8).toArray⟩) ?_
 refine sv 8 (.string ⟨([]:List UInt8).toArray⟩) ?_
 refine sv 9 (.bool false) ?_
 refine za0 ?_
 refine k4 _ _ ?_
 try clear k4 K4
 refine wp_seq_k (fun K6 k6=>?_)
 refine wp_block ?_
 refine wp_seq_k (fun K7 k7=>?_)
 refine rg [0,1,2,3,4] ?_
 refine sv 21 (.string ⟨(X:List UInt8).toArray⟩) ?_
 refine sv 22 (.int .i64 (((X).length:Int))) ?_
 refine sv 23 (.int .i64 (most)) ?_
 refine sw 24 (.bool false) rfl (RunV.bool (x:=decide (most<((X).length:Int))) (rvk (by kernel_rfl)) hl) ?_
 refine sv 20 (.bool false) ?_
 refine za0 ?_
 refine k7 _ _ ?_
 try clear k7 K7
 refine wp_cond_false rfl ?_
 refine wp_seq_k (fun K8 k8=>?_)
 refine rg [0,1,2,3,4,5,6,7,8,9,10,11,12] ?_
 refine sv 27 (.string ⟨(X:List UInt8).toArray⟩) ?_
 refine se ?_
 refine ec 28 (zc5 (X) _) ?_
 rintro e9 w9 ⟨rfl,g9⟩
 refine ⟨_,rfl,?_⟩
 replace hB:=hB.trans g9
 simp only [p3,p4]
 refine se ?_
 refine ec 29 (zd2 (zb2 (X)) (by omega) _) ?_
 rintro aB aG ⟨rfl,ae⟩
 refine ⟨_,rfl,?_⟩
 replace hB:=hB.trans ae
 simp only [p3,p4]
 refine sw 30 (.bool false) rfl (RunV.bool (x:=!(zd6 (zb2 (X)))) (rvk (by kernel_rfl)) (show (!(zd6 (zb2 (X))))=false by rw [h1];rfl)) ?_
 refine sv 31 (.bool false) ?_
 refine sv 32 (.bool false) ?_
 refine sv 33 (.bool false) ?_
 refine ss 34 ?_
 refine ss 35 ?_
 refine ss 36 ?_
 refine sv 37 (.bool false) ?_
 refine sv 38 (.bool false) ?_
 refine sv 26 (.bool false) ?_
 refine za0 ?_
 refine k8 _ _ ?_
 try clear k8 K8
 refine wp_cond_false rfl ?_
 refine wp_seq_k (fun aq ad=>?_)
 refine rg [0,1,2,3,4,5,6] ?_
 refine sv 41 (.bool false) ?_
 refine sv 42 (.bool false) ?_
 refine ss 43 ?_
 refine ss 44 ?_
 refine ss 45 ?_
 refine sv 46 (.bool false) ?_
 refine sv 40 (.bool false) ?_
 refine za0 ?_
 refine ad _ _ ?_
 try clear ad aq
 refine wp_cond_false rfl ?_
 refine wp_skip ?_
 refine k6 _ _ ?_
 try clear k6 K6
 refine wp_seq_k (fun aw af=>?_)
 refine rg [0,1,2,3,4,5,6,7] ?_
 refine sv 49 (.string ⟨(X:List UInt8).toArray⟩) ?_
 refine se ?_
 refine ec 50 (zK6 (X) (by omega) h1 h2 _) ?_
 rintro e13 aE ⟨rfl,ai⟩
 refine ⟨_,rfl,?_⟩
 replace hB:=hB.trans ai
 simp only [p3,p4]
 refine sv 48 (.tuple #[(.agg #[.bool false,.slice none 0 0]),.int .i64 3]) ?_
 refine sv 51 (.agg #[.bool false,.slice none 0 0]) ?_
 refine sv 52 (.int .i64 3) ?_
 refine se ?_
 refine ea 34 #[.bool false,.slice none 0 0] 10 hB fun aA aF ak ah au ar hB=>?_
 replace L2:=L2.gr (g5.trans (g9.trans (ae.trans ai)))
 have aa:=L2.ne au
 simp only [p3,p4]
 refine se ?_
 refine es 34 0 (.agg #[.bool false,.slice none 0 0]) [.bool false,.slice none 0 0] #[.bool false,.slice none 0 0] ah hB ar ⟨rfl,rfl,trivial⟩ fun aH ab ax ah hB=>?_
 refine sv 11 (.int .i64 3) ?_
 refine za0 ?_
 refine af _ _ ?_
 try clear af aw
 refine wp_seq_k (fun aC aD=>?_)
 refine wp_seq_k (fun ap ac=>?_)
 refine rg [0,1] ?_
 refine sv 53 (.int .i64 3) ?_
 refine sv 54 (.bool true) ?_
 refine za0 ?_
 refine ac _ _ ?_
 try clear ac ap
 refine wp_cond_true rfl ?_
 refine wp_seq_k (fun av aj=>?_)
 refine rg [0,1,2] ?_
 refine sv 55 (.agg #[.bool false,.slice none 0 0,.bool false,.slice none 0 0]) ?_
 refine se ?_
 replace L2:=ab.lc (L2.gr ak) aa
 refine es 36 0 (.agg #[.bool false,.slice none 0 0,.bool false,.slice none 0 0]) [.bool false,.slice none 0 0,.bool false,.slice none 0 0] #[.bool false,.slice none 0 0,.bool false,.slice none 0 0] L2 hB q2 ⟨rfl,rfl,rfl,rfl,trivial⟩ fun az ay al L2 hB=>?_
 refine sv 5 (.int .i64 3) ?_
 refine za0 ?_
 refine aj _ _ ?_
 try clear aj av
 refine wp_ret ?_
 simp only [Exit.then]
 refine bodyPost_ret (v:=(.tuple #[(.agg #[.bool false,.slice none 0 0,.bool false,.slice none 0 0]),.int .i64 3])) (za5 _ _ _ rfl rfl L2 (by kernel_rfl) rfl) rfl ⟨?_,hB⟩
 exact rfl

set_option maxRecDepth 100000 in
set_option maxHeartbeats 1000000 in
theorem read_fs1 (X A D:List UInt8) (most:Int) (_hx:X.length≤14000) (_hlong:(X.length:Int)≤most) (hc:zh5 X=(A,some D)) (_hA:(A).length≤X.length) (_hD:D.length≤X.length) (h1:zd6 (zb2 A)=false) (w:World) (hm:Mx w):
    Calls Tryz.prog 120 #[(.string ⟨(X:List UInt8).toArray⟩),(.int .i64 (most))] w fun e w'=>e=.returned (.tuple #[.agg #[.bool false,.slice none 0 0,.bool false,.slice none 0 0],.int .i64 14])∧Gr w w':=by
 have hl:decide (most<((X).length:Int))=false:=by simp;omega
 have hsA:(zb2 (A)).length≤(A).length:=zg2 _
 go_enter Tryz.func120,Tryz.ntmps120
 have hB:=Gr.refl w
 refine wp_seq_k (fun K1 k1=>?_)
 refine rg [0,1] ?_
 refine se ?_
 refine ea 36 #[.bool false,.slice none 0 0,.bool false,.slice none 0 0] 4 hB fun b2 w2 g2 L2 o2 q2 hB=>?_
 simp only [p3,p4]
 refine sv 5 (.int .i64 0) ?_
 refine za0 ?_
 refine k1 _ _ ?_
 try clear k1 K1
 refine wp_seq_k (fun K3 k3=>?_)
 refine rg [0,1] ?_
 refine sv 13 (.string ⟨(X:List UInt8).toArray⟩) ?_
 refine sv 6 (.string ⟨(X:List UInt8).toArray⟩) ?_
 refine za0 ?_
 refine k3 _ _ ?_
 try clear k3 K3
 refine wp_seq_k (fun K4 k4=>?_)
 refine rg [0,1,2,3,4,5,6,7,8] ?_
 refine sv 15 (.string ⟨(X:List UInt8).toArray⟩) ?_
 refine se ?_
 refine ec 16 (zw6 (X) (A) (D) (by omega) hc (hm.gr hB)) ?_
 rintro e5 w5 ⟨rfl,g5⟩
 refine ⟨_,rfl,?_⟩
 replace hB:=hB.trans g5
 simp only [p3,p4]
 refine sv 14 (.tuple #[(.string ⟨(A:List UInt8).toArray⟩),(.string ⟨(D:List UInt8).toArray⟩),.bool true]) ?_
 refine sv 17 (.string ⟨(A:List UInt8).toArray⟩) ?_
 refine sv 18 (.string ⟨(D:List UInt8).toArray⟩) ?_
 refine sv 19 (.bool true) ?_
 refine sv 7 (.string ⟨(A:List UInt8).toArray⟩) ?_
 refine sv 8 (.string ⟨(D:List UInt8).toArray⟩) ?_
 refine sv 9 (.bool true) ?_
 refine za0 ?_
 refine k4 _ _ ?_
 try clear k4 K4
 refine wp_seq_k (fun K6 k6=>?_)
 refine wp_block ?_
 refine wp_seq_k (fun K7 k7=>?_)
 refine rg [0,1,2,3,4] ?_
 refine sv 21 (.string ⟨(X:List UInt8).toArray⟩) ?_
 refine sv 22 (.int .i64 (((X).length:Int))) ?_
 refine sv 23 (.int .i64 (most)) ?_
 refine sw 24 (.bool false) rfl (RunV.bool (x:=decide (most<((X).length:Int))) (rvk (by kernel_rfl)) hl) ?_
 refine sv 20 (.bool false) ?_
 refine za0 ?_
 refine k7 _ _ ?_
 try clear k7 K7
 refine wp_cond_false rfl ?_
 refine wp_seq_k (fun K8 k8=>?_)
 refine rg [0,1,2,3,4,5,6,7,8,9,10,11,12] ?_
 refine sv 27 (.string ⟨(A:List UInt8).toArray⟩) ?_
 refine se ?_
 refine ec 28 (zc5 (A) _) ?_
 rintro e9 w9 ⟨rfl,g9⟩
 refine ⟨_,rfl,?_⟩
 replace hB:=hB.trans g9
 simp only [p3,p4]
 refine se ?_
 refine ec 29 (zd2 (zb2 (A)) (by omega) _) ?_
 rintro af ai ⟨rfl,ab⟩
 refine ⟨_,rfl,?_⟩
 replace hB:=hB.trans ab
 simp only [p3,p4]
 refine sw 30 (.bool true) rfl (RunV.bool (x:=!(zd6 (zb2 (A)))) (rvk (by kernel_rfl)) (show (!(zd6 (zb2 (A))))=true by rw [h1];rfl)) ?_
 refine sv 31 (.bool true) ?_
 refine ss 32 ?_
 refine ss 33 ?_
 refine ss 34 ?_
 refine ss 35 ?_
 refine ss 36 ?_
 refine ss 37 ?_
 refine sv 38 (.bool true) ?_
 refine sv 26 (.bool true) ?_
 refine za0 ?_
 refine k8 _ _ ?_
 try clear k8 K8
 refine wp_cond_true rfl ?_
 refine wp_seq_k (fun ad aa=>?_)
 refine rg [0,1,2] ?_
 refine sv 39 (.agg #[.bool false,.slice none 0 0,.bool false,.slice none 0 0]) ?_
 refine se ?_
 replace L2:=L2.gr (g5.trans (g9.trans ab))
 refine es 36 0 (.agg #[.bool false,.slice none 0 0,.bool false,.slice none 0 0]) [.bool false,.slice none 0 0,.bool false,.slice none 0 0] #[.bool false,.slice none 0 0,.bool false,.slice none 0 0] L2 hB q2 ⟨rfl,rfl,rfl,rfl,trivial⟩ fun ah ae ac L2 hB=>?_
 refine sv 5 (.int .i64 14) ?_
 refine za0 ?_
 refine aa _ _ ?_
 try clear aa ad
 refine wp_ret ?_
 simp only [Exit.then,Exit.inBlock]
 refine bodyPost_ret (v:=(.tuple #[(.agg #[.bool false,.slice none 0 0,.bool false,.slice none 0 0]),.int .i64 14])) (za5 _ _ _ rfl rfl L2 (by kernel_rfl) rfl) rfl ⟨?_,hB⟩
 exact rfl

set_option maxRecDepth 100000 in
set_option maxHeartbeats 1000000 in
theorem read_fs2 (X A D:List UInt8) (most:Int) (_hx:X.length≤14000) (_hlong:(X.length:Int)≤most) (hc:zh5 X=(A,some D)) (_hA:(A).length≤X.length) (_hD:D.length≤X.length) (h1:zd6 (zb2 A)=true) (h2:zd6 D=false) (w:World) (hm:Mx w):
    Calls Tryz.prog 120 #[(.string ⟨(X:List UInt8).toArray⟩),(.int .i64 (most))] w fun e w'=>e=.returned (.tuple #[.agg #[.bool false,.slice none 0 0,.bool false,.slice none 0 0],.int .i64 14])∧Gr w w':=by
 have hl:decide (most<((X).length:Int))=false:=by simp;omega
 have hsA:(zb2 (A)).length≤(A).length:=zg2 _
 go_enter Tryz.func120,Tryz.ntmps120
 have hB:=Gr.refl w
 refine wp_seq_k (fun K1 k1=>?_)
 refine rg [0,1] ?_
 refine se ?_
 refine ea 36 #[.bool false,.slice none 0 0,.bool false,.slice none 0 0] 4 hB fun b2 w2 g2 L2 o2 q2 hB=>?_
 simp only [p3,p4]
 refine sv 5 (.int .i64 0) ?_
 refine za0 ?_
 refine k1 _ _ ?_
 try clear k1 K1
 refine wp_seq_k (fun K3 k3=>?_)
 refine rg [0,1] ?_
 refine sv 13 (.string ⟨(X:List UInt8).toArray⟩) ?_
 refine sv 6 (.string ⟨(X:List UInt8).toArray⟩) ?_
 refine za0 ?_
 refine k3 _ _ ?_
 try clear k3 K3
 refine wp_seq_k (fun K4 k4=>?_)
 refine rg [0,1,2,3,4,5,6,7,8] ?_
 refine sv 15 (.string ⟨(X:List UInt8).toArray⟩) ?_
 refine se ?_
 refine ec 16 (zw6 (X) (A) (D) (by omega) hc (hm.gr hB)) ?_
 rintro e5 w5 ⟨rfl,g5⟩
 refine ⟨_,rfl,?_⟩
 replace hB:=hB.trans g5
 simp only [p3,p4]
 refine sv 14 (.tuple #[(.string ⟨(A:List UInt8).toArray⟩),(.string ⟨(D:List UInt8).toArray⟩),.bool true]) ?_
 refine sv 17 (.string ⟨(A:List UInt8).toArray⟩) ?_
 refine sv 18 (.string ⟨(D:List UInt8).toArray⟩) ?_
 refine sv 19 (.bool true) ?_
 refine sv 7 (.string ⟨(A:List UInt8).toArray⟩) ?_
 refine sv 8 (.string ⟨(D:List UInt8).toArray⟩) ?_
 refine sv 9 (.bool true) ?_
 refine za0 ?_
 refine k4 _ _ ?_
 try clear k4 K4
 refine wp_seq_k (fun K6 k6=>?_)
 refine wp_block ?_
 refine wp_seq_k (fun K7 k7=>?_)
 refine rg [0,1,2,3,4] ?_
 refine sv 21 (.string ⟨(X:List UInt8).toArray⟩) ?_
 refine sv 22 (.int .i64 (((X).length:Int))) ?_
 refine sv 23 (.int .i64 (most)) ?_
 refine sw 24 (.bool false) rfl (RunV.bool (x:=decide (most<((X).length:Int))) (rvk (by kernel_rfl)) hl) ?_
 refine sv 20 (.bool false) ?_
 refine za0 ?_
 refine k7 _ _ ?_
 try clear k7 K7
 refine wp_cond_false rfl ?_
 refine wp_seq_k (fun K8 k8=>?_)
 refine rg [0,1,2,3,4,5,6,7,8,9,10,11,12] ?_
 refine sv 27 (.string ⟨(A:List UInt8).toArray⟩) ?_
 refine se ?_
 refine ec 28 (zc5 (A) _) ?_
 rintro e9 w9 ⟨rfl,g9⟩
 refine ⟨_,rfl,?_⟩
 replace hB:=hB.trans g9
 simp only [p3,p4]
 refine se ?_
 refine ec 29 (zd2 (zb2 (A)) (by omega) _) ?_
 rintro ah aj ⟨rfl,aa⟩
 refine ⟨_,rfl,?_⟩
 replace hB:=hB.trans aa
 simp only [p3,p4]
 refine sw 30 (.bool false) rfl (RunV.bool (x:=!(zd6 (zb2 (A)))) (rvk (by kernel_rfl)) (show (!(zd6 (zb2 (A))))=false by rw [h1];rfl)) ?_
 refine sv 31 (.bool false) ?_
 refine sv 32 (.bool true) ?_
 refine sv 33 (.bool true) ?_
 refine sv 34 (.string ⟨(D:List UInt8).toArray⟩) ?_
 refine se ?_
 refine ec 35 (zd2 (D) (by omega) _) ?_
 rintro e11 ak ⟨rfl,ac⟩
 refine ⟨_,rfl,?_⟩
 replace hB:=hB.trans ac
 simp only [p3,p4]
 refine sw 36 (.bool true) rfl (RunV.bool (x:=!(zd6 (D))) (rvk (by kernel_rfl)) (show (!(zd6 (D)))=true by rw [h2];rfl)) ?_
 refine sv 37 (.bool true) ?_
 refine sv 38 (.bool true) ?_
 refine sv 26 (.bool true) ?_
 refine za0 ?_
 refine k8 _ _ ?_
 try clear k8 K8
 refine wp_cond_true rfl ?_
 refine wp_seq_k (fun ad ab=>?_)
 refine rg [0,1,2] ?_
 refine sv 39 (.agg #[.bool false,.slice none 0 0,.bool false,.slice none 0 0]) ?_
 refine se ?_
 replace L2:=L2.gr (g5.trans (g9.trans (aa.trans ac)))
 refine es 36 0 (.agg #[.bool false,.slice none 0 0,.bool false,.slice none 0 0]) [.bool false,.slice none 0 0,.bool false,.slice none 0 0] #[.bool false,.slice none 0 0,.bool false,.slice none 0 0] L2 hB q2 ⟨rfl,rfl,rfl,rfl,trivial⟩ fun ai af ae L2 hB=>?_
 refine sv 5 (.int .i64 14) ?_
 refine za0 ?_
 refine ab _ _ ?_
 try clear ab ad
 refine wp_ret ?_
 simp only [Exit.then,Exit.inBlock]
 refine bodyPost_ret (v:=(.tuple #[(.agg #[.bool false,.slice none 0 0,.bool false,.slice none 0 0]),.int .i64 14])) (za5 _ _ _ rfl rfl L2 (by kernel_rfl) rfl) rfl ⟨?_,hB⟩
 exact rfl

set_option maxRecDepth 100000 in
set_option maxHeartbeats 1000000 in
theorem read_fz (X A D:List UInt8) (most:Int) (_hx:X.length≤14000) (_hlong:(X.length:Int)≤most) (hc:zh5 X=(A,some D)) (_hA:(A).length≤X.length) (_hD:D.length≤X.length) (h1:zd6 (zb2 A)=true) (h2:zd6 D=true) (h3:zf9 D=true) (w:World) (hm:Mx w):
    Calls Tryz.prog 120 #[(.string ⟨(X:List UInt8).toArray⟩),(.int .i64 (most))] w fun e w'=>e=.returned (.tuple #[.agg #[.bool false,.slice none 0 0,.bool false,.slice none 0 0],.int .i64 19])∧Gr w w':=by
 have hl:decide (most<((X).length:Int))=false:=by simp;omega
 have hsA:(zb2 (A)).length≤(A).length:=zg2 _
 have h4:((Lib.trimS (D) [48])==([]:List UInt8))=true:=by rw [← zn6];exact h3
 go_enter Tryz.func120,Tryz.ntmps120
 have hB:=Gr.refl w
 refine wp_seq_k (fun K1 k1=>?_)
 refine rg [0,1] ?_
 refine se ?_
 refine ea 36 #[.bool false,.slice none 0 0,.bool false,.slice none 0 0] 4 hB fun b2 w2 g2 L2 o2 q2 hB=>?_
 simp only [p3,p4]
 refine sv 5 (.int .i64 0) ?_
 refine za0 ?_
 refine k1 _ _ ?_
 try clear k1 K1
 refine wp_seq_k (fun K3 k3=>?_)
 refine rg [0,1] ?_
 refine sv 13 (.string ⟨(X:List UInt8).toArray⟩) ?_
 refine sv 6 (.string ⟨(X:List UInt8).toArray⟩) ?_
 refine za0 ?_
 refine k3 _ _ ?_
 try clear k3 K3
 refine wp_seq_k (fun K4 k4=>?_)
 refine rg [0,1,2,3,4,5,6,7,8] ?_
 refine sv 15 (.string ⟨(X:List UInt8).toArray⟩) ?_
 refine se ?_
 refine ec 16 (zw6 (X) (A) (D) (by omega) hc (hm.gr hB)) ?_
 rintro e5 w5 ⟨rfl,g5⟩
 refine ⟨_,rfl,?_⟩
 replace hB:=hB.trans g5
 simp only [p3,p4]
 refine sv 14 (.tuple #[(.string ⟨(A:List UInt8).toArray⟩),(.string ⟨(D:List UInt8).toArray⟩),.bool true]) ?_
 refine sv 17 (.string ⟨(A:List UInt8).toArray⟩) ?_
 refine sv 18 (.string ⟨(D:List UInt8).toArray⟩) ?_
 refine sv 19 (.bool true) ?_
 refine sv 7 (.string ⟨(A:List UInt8).toArray⟩) ?_
 refine sv 8 (.string ⟨(D:List UInt8).toArray⟩) ?_
 refine sv 9 (.bool true) ?_
 refine za0 ?_
 refine k4 _ _ ?_
 try clear k4 K4
 refine wp_seq_k (fun K6 k6=>?_)
 refine wp_block ?_
 refine wp_seq_k (fun K7 k7=>?_)
 refine rg [0,1,2,3,4] ?_
 refine sv 21 (.string ⟨(X:List UInt8).toArray⟩) ?_
 refine sv 22 (.int .i64 (((X).length:Int))) ?_
 refine sv 23 (.int .i64 (most)) ?_
 refine sw 24 (.bool false) rfl (RunV.bool (x:=decide (most<((X).length:Int))) (rvk (by kernel_rfl)) hl) ?_
 refine sv 20 (.bool false) ?_
 refine za0 ?_
 refine k7 _ _ ?_
 try clear k7 K7
 refine wp_cond_false rfl ?_
 refine wp_seq_k (fun K8 k8=>?_)
 refine rg [0,1,2,3,4,5,6,7,8,9,10,11,12] ?_
 refine sv 27 (.string ⟨(A:List UInt8).toArray⟩) ?_
 refine se ?_
 refine ec 28 (zc5 (A) _) ?_
 rintro e9 w9 ⟨rfl,g9⟩
 refine ⟨_,rfl,?_⟩
 replace hB:=hB.trans g9
 simp only [p3,p4]
 refine se ?_
 refine ec 29 (zd2 (zb2 (A)) (by omega) _) ?_
 rintro ak ap ⟨rfl,ab⟩
 refine ⟨_,rfl,?_⟩
 replace hB:=hB.trans ab
 simp only [p3,p4]
 refine sw 30 (.bool false) rfl (RunV.bool (x:=!(zd6 (zb2 (A)))) (rvk (by kernel_rfl)) (show (!(zd6 (zb2 (A))))=false by rw [h1];rfl)) ?_
 refine sv 31 (.bool false) ?_
 refine sv 32 (.bool true) ?_
 refine sv 33 (.bool true) ?_
 refine sv 34 (.string ⟨(D:List UInt8).toArray⟩) ?_
 refine se ?_
 refine ec 35 (zd2 (D) (by omega) _) ?_
 rintro e11 ar ⟨rfl,ad⟩
 refine ⟨_,rfl,?_⟩
 replace hB:=hB.trans ad
 simp only [p3,p4]
 refine sw 36 (.bool false) rfl (RunV.bool (x:=!(zd6 (D))) (rvk (by kernel_rfl)) (show (!(zd6 (D)))=false by rw [h2];rfl)) ?_
 refine sv 37 (.bool false) ?_
 refine sv 38 (.bool false) ?_
 refine sv 26 (.bool false) ?_
 refine za0 ?_
 refine k8 _ _ ?_
 try clear k8 K8
 refine wp_cond_false rfl ?_
 refine wp_seq_k (fun ah ac=>?_)
 refine rg [0,1,2,3,4,5,6] ?_
 refine sv 41 (.bool true) ?_
 refine sv 42 (.bool true) ?_
 refine sv 43 (.string ⟨(D:List UInt8).toArray⟩) ?_
 refine se ?_
 refine ec 44 (zs7 (D) (by omega) _) ?_
 rintro e13 al ⟨rfl,ae⟩
 refine ⟨_,rfl,?_⟩
 replace hB:=hB.trans ae
 simp only [p3,p4]
 refine sw 45 (.bool true) rfl (RunV.bool (x:=((Lib.trimS (D) [48])==([]:List UInt8))) (zv6 9 9 _ _ (Lib.trimS (D) [48]) ([]) rfl rfl rfl) h4) ?_
 refine sv 46 (.bool true) ?_
 refine sv 40 (.bool true) ?_
 refine za0 ?_
 refine ac _ _ ?_
 try clear ac ah
 refine wp_cond_true rfl ?_
 refine wp_seq_k (fun ai aa=>?_)
 refine rg [0,1,2] ?_
 refine sv 47 (.agg #[.bool false,.slice none 0 0,.bool false,.slice none 0 0]) ?_
 refine se ?_
 replace L2:=L2.gr (g5.trans (g9.trans (ab.trans (ad.trans ae))))
 refine es 36 0 (.agg #[.bool false,.slice none 0 0,.bool false,.slice none 0 0]) [.bool false,.slice none 0 0,.bool false,.slice none 0 0] #[.bool false,.slice none 0 0,.bool false,.slice none 0 0] L2 hB q2 ⟨rfl,rfl,rfl,rfl,trivial⟩ fun aq af aj L2 hB=>?_
 refine sv 5 (.int .i64 19) ?_
 refine za0 ?_
 refine aa _ _ ?_
 try clear aa ai
 refine wp_ret ?_
 simp only [Exit.then,Exit.inBlock]
 refine bodyPost_ret (v:=(.tuple #[(.agg #[.bool false,.slice none 0 0,.bool false,.slice none 0 0]),.int .i64 19])) (za5 _ _ _ rfl rfl L2 (by kernel_rfl) rfl) rfl ⟨?_,hB⟩
 exact rfl

set_option maxRecDepth 100000 in
set_option maxHeartbeats 1000000 in
theorem read_fb1 (X A D:List UInt8) (most:Int) (_hx:X.length≤14000) (_hlong:(X.length:Int)≤most) (hc:zh5 X=(A,some D)) (_hA:(A).length≤X.length) (_hD:D.length≤X.length) (h1:zd6 (zb2 A)=true) (h2:zd6 D=true) (h3:zf9 D=false) (h5:zF3 A=true) (w:World) (hm:Mx w):
    Calls Tryz.prog 120 #[(.string ⟨(X:List UInt8).toArray⟩),(.int .i64 (most))] w fun e w'=>e=.returned (.tuple #[.agg #[.bool false,.slice none 0 0,.bool false,.slice none 0 0],.int .i64 3])∧Gr w w':=by
 have hl:decide (most<((X).length:Int))=false:=by simp;omega
 have hsA:(zb2 (A)).length≤(A).length:=zg2 _
 have h4:((Lib.trimS (D) [48])==([]:List UInt8))=false:=by rw [← zn6];exact h3
 go_enter Tryz.func120,Tryz.ntmps120
 have hB:=Gr.refl w
 refine wp_seq_k (fun K1 k1=>?_)
 refine rg [0,1] ?_
 refine se ?_
 refine ea 36 #[.bool false,.slice none 0 0,.bool false,.slice none 0 0] 4 hB fun b2 w2 g2 L2 o2 q2 hB=>?_
 simp only [p3,p4]
 refine sv 5 (.int .i64 0) ?_
 refine za0 ?_
 refine k1 _ _ ?_
 try clear k1 K1
 refine wp_seq_k (fun K3 k3=>?_)
 refine rg [0,1] ?_
 refine sv 13 (.string ⟨(X:List UInt8).toArray⟩) ?_
 refine sv 6 (.string ⟨(X:List UInt8).toArray⟩) ?_
 refine za0 ?_
 refine k3 _ _ ?_
 try clear k3 K3
 refine wp_seq_k (fun K4 k4=>?_)
 refine rg [0,1,2,3,4,5,6,7,8] ?_
 refine sv 15 (.string ⟨(X:List UInt8).toArray⟩) ?_
 refine se ?_
 refine ec 16 (zw6 (X) (A) (D) (by omega) hc (hm.gr hB)) ?_
 rintro e5 w5 ⟨rfl,g5⟩
 refine ⟨_,rfl,?_⟩
 replace hB:=hB.trans g5
 simp only [p3,p4]
 refine sv 14 (.tuple #[(.string ⟨(A:List UInt8).toArray⟩),(.string ⟨(D:List UInt8).toArray⟩),.bool true]) ?_
 refine sv 17 (.string ⟨(A:List UInt8).toArray⟩) ?_
 refine sv 18 (.string ⟨(D:List UInt8).toArray⟩) ?_
 refine sv 19 (.bool true) ?_
 refine sv 7 (.string ⟨(A:List UInt8).toArray⟩) ?_
 refine sv 8 (.string ⟨(D:List UInt8).toArray⟩) ?_
 refine sv 9 (.bool true) ?_
 refine za0 ?_
 refine k4 _ _ ?_
 try clear k4 K4
 refine wp_seq_k (fun K6 k6=>?_)
 refine wp_block ?_
 refine wp_seq_k (fun K7 k7=>?_)
 refine rg [0,1,2,3,4] ?_
 refine sv 21 (.string ⟨(X:List UInt8).toArray⟩) ?_
 refine sv 22 (.int .i64 (((X).length:Int))) ?_
 refine sv 23 (.int .i64 (most)) ?_
 refine sw 24 (.bool false) rfl (RunV.bool (x:=decide (most<((X).length:Int))) (rvk (by kernel_rfl)) hl) ?_
 refine sv 20 (.bool false) ?_
 refine za0 ?_
 refine k7 _ _ ?_
 try clear k7 K7
 refine wp_cond_false rfl ?_
 refine wp_seq_k (fun K8 k8=>?_)
 refine rg [0,1,2,3,4,5,6,7,8,9,10,11,12] ?_
 refine sv 27 (.string ⟨(A:List UInt8).toArray⟩) ?_
 refine se ?_
 refine ec 28 (zc5 (A) _) ?_
 rintro e9 w9 ⟨rfl,g9⟩
 refine ⟨_,rfl,?_⟩
 replace hB:=hB.trans g9
 simp only [p3,p4]
 refine se ?_
 refine ec 29 (zd2 (zb2 (A)) (by omega) _) ?_
 rintro aH aL ⟨rfl,af⟩
 refine ⟨_,rfl,?_⟩
 replace hB:=hB.trans af
 simp only [p3,p4]
 refine sw 30 (.bool false) rfl (RunV.bool (x:=!(zd6 (zb2 (A)))) (rvk (by kernel_rfl)) (show (!(zd6 (zb2 (A))))=false by rw [h1];rfl)) ?_
 refine sv 31 (.bool false) ?_
 refine sv 32 (.bool true) ?_
 refine sv 33 (.bool true) ?_
 refine sv 34 (.string ⟨(D:List UInt8).toArray⟩) ?_
 refine se ?_
 refine ec 35 (zd2 (D) (by omega) _) ?_
 rintro e11 aM ⟨rfl,ai⟩
 refine ⟨_,rfl,?_⟩
 replace hB:=hB.trans ai
 simp only [p3,p4]
 refine sw 36 (.bool false) rfl (RunV.bool (x:=!(zd6 (D))) (rvk (by kernel_rfl)) (show (!(zd6 (D)))=false by rw [h2];rfl)) ?_
 refine sv 37 (.bool false) ?_
 refine sv 38 (.bool false) ?_
 refine sv 26 (.bool false) ?_
 refine za0 ?_
 refine k8 _ _ ?_
 try clear k8 K8
 refine wp_cond_false rfl ?_
 refine wp_seq_k (fun aw ah=>?_)
 refine rg [0,1,2,3,4,5,6] ?_
 refine sv 41 (.bool true) ?_
 refine sv 42 (.bool true) ?_
 refine sv 43 (.string ⟨(D:List UInt8).toArray⟩) ?_
 refine se ?_
 refine ec 44 (zs7 (D) (by omega) _) ?_
 rintro e13 aK ⟨rfl,aj⟩
 refine ⟨_,rfl,?_⟩
 replace hB:=hB.trans aj
 simp only [p3,p4]
 refine sw 45 (.bool false) rfl (RunV.bool (x:=((Lib.trimS (D) [48])==([]:List UInt8))) (zv6 9 9 _ _ (Lib.trimS (D) [48]) ([]) rfl rfl rfl) h4) ?_
 refine sv 46 (.bool false) ?_
 refine sv 40 (.bool false) ?_
 refine za0 ?_
 refine ah _ _ ?_
 try clear ah aw
 refine wp_cond_false rfl ?_
 refine wp_skip ?_
 refine k6 _ _ ?_
 try clear k6 K6
 refine wp_seq_k (fun ax al=>?_)
 refine rg [0,1,2,3,4,5,6,7] ?_
 refine sv 49 (.string ⟨(A:List UInt8).toArray⟩) ?_
 refine se ?_
 refine ec 50 (zK6 (A) (by omega) h1 h5 _) ?_
 rintro aC aI ⟨rfl,ak⟩
 refine ⟨_,rfl,?_⟩
 replace hB:=hB.trans ak
 simp only [p3,p4]
 refine sv 48 (.tuple #[(.agg #[.bool false,.slice none 0 0]),.int .i64 3]) ?_
 refine sv 51 (.agg #[.bool false,.slice none 0 0]) ?_
 refine sv 52 (.int .i64 3) ?_
 refine se ?_
 refine ea 34 #[.bool false,.slice none 0 0] 10 hB fun aG aE az ac ar ay hB=>?_
 replace L2:=L2.gr (g5.trans (g9.trans (af.trans (ai.trans (aj.trans ak)))))
 have aa:=L2.ne ar
 simp only [p3,p4]
 refine se ?_
 refine es 34 0 (.agg #[.bool false,.slice none 0 0]) [.bool false,.slice none 0 0] #[.bool false,.slice none 0 0] ac hB ay ⟨rfl,rfl,trivial⟩ fun aF ab av ac hB=>?_
 refine sv 11 (.int .i64 3) ?_
 refine za0 ?_
 refine al _ _ ?_
 try clear al ax
 refine wp_seq_k (fun aB aJ=>?_)
 refine wp_seq_k (fun aq ad=>?_)
 refine rg [0,1] ?_
 refine sv 53 (.int .i64 3) ?_
 refine sv 54 (.bool true) ?_
 refine za0 ?_
 refine ad _ _ ?_
 try clear ad aq
 refine wp_cond_true rfl ?_
 refine wp_seq_k (fun ap ae=>?_)
 refine rg [0,1,2] ?_
 refine sv 55 (.agg #[.bool false,.slice none 0 0,.bool false,.slice none 0 0]) ?_
 refine se ?_
 replace L2:=ab.lc (L2.gr az) aa
 refine es 36 0 (.agg #[.bool false,.slice none 0 0,.bool false,.slice none 0 0]) [.bool false,.slice none 0 0,.bool false,.slice none 0 0] #[.bool false,.slice none 0 0,.bool false,.slice none 0 0] L2 hB q2 ⟨rfl,rfl,rfl,rfl,trivial⟩ fun aD au aA L2 hB=>?_
 refine sv 5 (.int .i64 3) ?_
 refine za0 ?_
 refine ae _ _ ?_
 try clear ae ap
 refine wp_ret ?_
 simp only [Exit.then]
 refine bodyPost_ret (v:=(.tuple #[(.agg #[.bool false,.slice none 0 0,.bool false,.slice none 0 0]),.int .i64 3])) (za5 _ _ _ rfl rfl L2 (by kernel_rfl) rfl) rfl ⟨?_,hB⟩
 exact rfl

set_option maxRecDepth 100000 in
set_option maxHeartbeats 1000000 in
theorem read_fb2 (X D:List UInt8) (z:Int) (most:Int) (_hx:X.length≤14000) (_hlong:(X.length:Int)≤most) (hc:zh5 X=(Lib.itoa (z),some D)) (_hA:(Lib.itoa (z)).length≤X.length) (_hD:D.length≤X.length) (h2:zd6 D=true) (aZ:zd6 (zb2 D)=true) (h3:zf9 D=false) (h5:zF3 D=true) (w:World) (hm:Mx w):
    Calls Tryz.prog 120 #[(.string ⟨(X:List UInt8).toArray⟩),(.int .i64 (most))] w fun e w'=>e=.returned (.tuple #[.agg #[.bool false,.slice none 0 0,.bool false,.slice none 0 0],.int .i64 3])∧Gr w w':=by
 have hl:decide (most<((X).length:Int))=false:=by simp;omega
 have hsA:(zb2 (Lib.itoa (z))).length≤(Lib.itoa (z)).length:=zg2 _
 have h1:zd6 (zb2 (Lib.itoa (z)))=true:=by rw [zt5];exact zQ8 _
 have h4:((Lib.trimS (D) [48])==([]:List UInt8))=false:=by rw [← zn6];exact h3
 go_enter Tryz.func120,Tryz.ntmps120
 have hB:=Gr.refl w
 refine wp_seq_k (fun K1 k1=>?_)
 refine rg [0,1] ?_
 refine se ?_
 refine ea 36 #[.bool false,.slice none 0 0,.bool false,.slice none 0 0] 4 hB fun b2 w2 g2 L2 o2 q2 hB=>?_
 simp only [p3,p4]
 refine sv 5 (.int .i64 0) ?_
 refine za0 ?_
 refine k1 _ _ ?_
 try clear k1 K1
 refine wp_seq_k (fun K3 k3=>?_)
 refine rg [0,1] ?_
 refine sv 13 (.string ⟨(X:List UInt8).toArray⟩) ?_
 refine sv 6 (.string ⟨(X:List UInt8).toArray⟩) ?_
 refine za0 ?_
 refine k3 _ _ ?_
 try clear k3 K3
 refine wp_seq_k (fun K4 k4=>?_)
 refine rg [0,1,2,3,4,5,6,7,8] ?_
 refine sv 15 (.string ⟨(X:List UInt8).toArray⟩) ?_
 refine se ?_
 refine ec 16 (zw6 (X) (Lib.itoa (z)) (D) (by omega) hc (hm.gr hB)) ?_
 rintro e5 w5 ⟨rfl,g5⟩
 refine ⟨_,rfl,?_⟩
 replace hB:=hB.trans g5
 simp only [p3,p4]
 refine sv 14 (.tuple #[(.string ⟨(Lib.itoa (z):List UInt8).toArray⟩),(.string ⟨(D:List UInt8).toArray⟩),.bool true]) ?_
 refine sv 17 (.string ⟨(Lib.itoa (z):List UInt8).toArray⟩) ?_
 refine sv 18 (.string ⟨(D:List UInt8).toArray⟩) ?_
 refine sv 19 (.bool true) ?_
 refine sv 7 (.string ⟨(Lib.itoa (z):List UInt8).toArray⟩) ?_
 refine sv 8 (.string ⟨(D:List UInt8).toArray⟩) ?_
 refine sv 9 (.bool true) ?_
 refine za0 ?_
 refine k4 _ _ ?_
 try clear k4 K4
 refine wp_seq_k (fun K6 k6=>?_)
 refine wp_block ?_
 refine wp_seq_k (fun K7 k7=>?_)
 refine rg [0,1,2,3,4] ?_
 refine sv 21 (.string ⟨(X:List UInt8).toArray⟩) ?_
 refine sv 22 (.int .i64 (((X).length:Int))) ?_
 refine sv 23 (.int .i64 (most)) ?_
 refine sw 24 (.bool false) rfl (RunV.bool (x:=decide (most<((X).length:Int))) (rvk (by kernel_rfl)) hl) ?_
 refine sv 20 (.bool false) ?_
 refine za0 ?_
 refine k7 _ _ ?_
 try clear k7 K7
 refine wp_cond_false rfl ?_
 refine wp_seq_k (fun K8 k8=>?_)
 refine rg [0,1,2,3,4,5,6,7,8,9,10,11,12] ?_
 refine sv 27 (.string ⟨(Lib.itoa (z):List UInt8).toArray⟩) ?_
 refine se ?_
 refine ec 28 (zc5 (Lib.itoa (z)) _) ?_
 rintro e9 w9 ⟨rfl,g9⟩
 refine ⟨_,rfl,?_⟩
 replace hB:=hB.trans g9
 simp only [p3,p4]
 refine se ?_
 refine ec 29 (zd2 (zb2 (Lib.itoa (z))) (by omega) _) ?_
 rintro a6 bd ⟨rfl,ay⟩
 refine ⟨_,rfl,?_⟩
 replace hB:=hB.trans ay
 simp only [p3,p4]
 refine sw 30 (.bool false) rfl (RunV.bool (x:=!(zd6 (zb2 (Lib.itoa (z))))) (rvk (by kernel_rfl)) (show (!(zd6 (zb2 (Lib.itoa (z)))))=false by rw [h1];rfl)) ?_
 refine sv 31 (.bool false) ?_
 refine sv 32 (.bool true) ?_
 refine sv 33 (.bool true) ?_
 refine sv 34 (.string ⟨(D:List UInt8).toArray⟩) ?_
 refine se ?_
 refine ec 35 (zd2 (D) (by omega) _) ?_
 rintro e11 bf ⟨rfl,aA⟩
 refine ⟨_,rfl,?_⟩
 replace hB:=hB.trans aA
 simp only [p3,p4]
 refine sw 36 (.bool false) rfl (RunV.bool (x:=!(zd6 (D))) (rvk (by kernel_rfl)) (show (!(zd6 (D)))=false by rw [h2];rfl)) ?_
 refine sv 37 (.bool false) ?_
 refine sv 38 (.bool false) ?_
 refine sv 26 (.bool false) ?_
 refine za0 ?_
 refine k8 _ _ ?_
 try clear k8 K8
 refine wp_cond_false rfl ?_
 refine wp_seq_k (fun aR az=>?_)
 refine rg [0,1,2,3,4,5,6] ?_
 refine sv 41 (.bool true) ?_
 refine sv 42 (.bool true) ?_
 refine sv 43 (.string ⟨(D:List UInt8).toArray⟩) ?_
 refine se ?_
 refine ec 44 (zs7 (D) (by omega) _) ?_
 rintro e13 ba ⟨rfl,aB⟩
 refine ⟨_,rfl,?_⟩
 replace hB:=hB.trans aB
 simp only [p3,p4]
 refine sw 45 (.bool false) rfl (RunV.bool (x:=((Lib.trimS (D) [48])==([]:List UInt8))) (zv6 9 9 _ _ (Lib.trimS (D) [48]) ([]) rfl rfl rfl) h4) ?_
 refine sv 46 (.bool false) ?_
 refine sv 40 (.bool false) ?_
 refine za0 ?_
 refine az _ _ ?_
 try clear az aR
 refine wp_cond_false rfl ?_
 refine wp_skip ?_
 refine k6 _ _ ?_
 try clear k6 K6
 refine wp_seq_k (fun aS aF=>?_)
 refine rg [0,1,2,3,4,5,6,7] ?_
 refine sv 49 (.string ⟨(Lib.itoa (z):List UInt8).toArray⟩) ?_
 refine se ?_
 refine ec 50 (zr8 (z) (zg3 (z) (m:=14000) (by omega)) (by omega) _) ?_
 rintro a2 a9 ⟨⟨ai,ah,rfl,ar⟩,aE⟩
 refine ⟨_,rfl,?_⟩
 replace hB:=hB.trans aE
 simp only [p3,p4]
 refine sv 48 (.tuple #[(.agg #[ai,ah]),.int .i64 0]) ?_
 refine sv 51 (.agg #[ai,ah]) ?_
 refine sv 52 (.int .i64 0) ?_
 refine se ?_
 refine ea 34 #[.bool false,.slice none 0 0] 10 hB fun aV a4 aY aa aO aT hB=>?_
 replace L2:=L2.gr (g5.trans (g9.trans (ay.trans (aA.trans (aB.trans aE)))))
 have af:=L2.ne aO
 simp only [p3,p4]
 refine se ?_
 refine es 34 0 (.agg #[ai,ah]) [ai,ah] #[ai,ah] aa hB aT ⟨ar.one0,ar.one1,trivial⟩ fun a5 al aQ aa hB=>?_
 refine sv 11 (.int .i64 0) ?_
 refine za0 ?_
 refine aF _ _ ?_
 try clear aF aS
 refine wp_seq_k (fun aL aC=>?_)
 refine wp_seq_k (fun aJ ap=>?_)
 refine rg [0,1] ?_
 refine sv 53 (.int .i64 0) ?_
 refine sv 54 (.bool false) ?_
 refine za0 ?_
 refine ap _ _ ?_
 try clear ap aJ
 refine wp_cond_false rfl ?_
 refine wp_skip ?_
 refine aC _ _ ?_
 try clear aC aL
 refine wp_seq_k (fun aI au=>?_)
 refine wp_seq_k (fun a0 aq=>?_)
 refine rg [0,1] ?_
 refine sv 56 (.bool true) ?_
 refine sv 57 (.bool false) ?_
 refine za0 ?_
 refine aq _ _ ?_
 try clear aq a0
 refine wp_cond_false rfl ?_
 refine wp_skip ?_
 refine au _ _ ?_
 try clear au aI
 refine wp_seq_k (fun aH aD=>?_)
 refine rg [0,1,2,3,4,5,6,7] ?_
 refine sv 61 (.string ⟨(D:List UInt8).toArray⟩) ?_
 refine se ?_
 refine ec 62 (zK6 (D) (by omega) aZ h5 _) ?_
 rintro e23 a7 ⟨rfl,ak⟩
 refine ⟨_,rfl,?_⟩
 replace hB:=hB.trans ak
 simp only [p3,p4]
 refine sv 60 (.tuple #[(.agg #[.bool false,.slice none 0 0]),.int .i64 3]) ?_
 refine sv 63 (.agg #[.bool false,.slice none 0 0]) ?_
 refine sv 64 (.int .i64 3) ?_
 refine se ?_
 refine ea 34 #[.bool false,.slice none 0 0] 12 hB fun aU bb aw ab ax aM hB=>?_
 replace L2:=(al.lc (L2.gr aY) af).gr ak
 have ae:=L2.ne ax
 replace aa:=aa.gr ak
 have ad:=aa.ne ax
 simp only [p3,p4]
 refine se ?_
 refine es 34 0 (.agg #[.bool false,.slice none 0 0]) [.bool false,.slice none 0 0] #[.bool false,.slice none 0 0] ab hB aM ⟨rfl,rfl,trivial⟩ fun aW aj aK ab hB=>?_
 refine sv 11 (.int .i64 3) ?_
 refine za0 ?_
 refine aD _ _ ?_
 try clear aD aH
 refine wp_seq_k (fun a3 a8=>?_)
 refine wp_seq_k (fun aX aG=>?_)
 have ac:=Gr.drew aW
 replace hB:=hB.trans ac
 replace aa:=(aj.lc (aa.gr aw) ad).gr ac
 replace ab:=ab.gr ac
 refine za3 (fun w'=>Lc w' aV #[ai,ah] 34∧Lc w' aU #[.bool false,.slice none 0 0] 34) [(true,0),(true,1),(true,2),(true,3),(false,4),(false,5),(true,6),(true,7),(true,8),(true,9),(true,10),(false,11),(false,12),(false,13),(true,14),(true,15)] (by kernel_rfl) (by kernel_rfl) (by kernel_rfl) (by decide) (fun _ _ _ _ _ h=>h) ⟨aa,ab⟩ ?_
 refine ov 65 (.int .i64 3) ?_
 refine ov 66 (.bool true) ?_
 refine ov 67 (.bool true) ?_
 refine os 68 ?_
 refine oz 69 ⟨aa,ab⟩ ?_
 refine oz 70 ⟨aa,ab⟩ ?_
 refine os 71 ?_
 refine ov 72 (.bool true) ?_
 refine ov 73 (.bool true) ?_
 refine os 74 ?_
 refine os 75 ?_
 refine oz 76 ⟨aa,ab⟩ ?_
 refine oz 77 ⟨aa,ab⟩ ?_
 refine oz 78 ⟨aa,ab⟩ ?_
 refine os 79 ?_
 refine ov 80 (.bool true) ?_
 refine zc0 ?_
 refine aG _ _ ?_
 try clear aG aX
 refine wp_cond_true rfl ?_
 refine wp_seq_k (fun aP av=>?_)
 refine rg [0,1,2] ?_
 refine sv 81 (.agg #[.bool false,.slice none 0 0,.bool false,.slice none 0 0]) ?_
 refine se ?_
 replace L2:=(aj.lc (L2.gr aw) ae).gr ac
 refine es 36 0 (.agg #[.bool false,.slice none 0 0,.bool false,.slice none 0 0]) [.bool false,.slice none 0 0,.bool false,.slice none 0 0] #[.bool false,.slice none 0 0,.bool false,.slice none 0 0] L2 hB q2 ⟨rfl,rfl,rfl,rfl,trivial⟩ fun bc a1 aN L2 hB=>?_
 refine sv 5 (.int .i64 3) ?_
 refine za0 ?_
 refine av _ _ ?_
 try clear av aP
 refine wp_ret ?_
 simp only [Exit.then]
 refine bodyPost_ret (v:=(.tuple #[(.agg #[.bool false,.slice none 0 0,.bool false,.slice none 0 0]),.int .i64 3])) (za5 _ _ _ rfl rfl L2 (by kernel_rfl) rfl) rfl ⟨?_,hB⟩
 exact rfl

set_option maxRecDepth 100000 in
set_option maxHeartbeats 1000000 in
theorem read_g1 (X:List UInt8) (z d:Int) (most:Int) (_hx:X.length≤14000) (_hlong:(X.length:Int)≤most) (hc:zh5 X=(Lib.itoa (z),some (Lib.itoa (d)))) (_hA:(Lib.itoa (z)).length≤X.length) (_hD:(Lib.itoa (d)).length≤X.length) (h2:zd6 (Lib.itoa d)=true) (h3:zf9 (Lib.itoa d)=false) (h5:d=1) (w:World) (hm:Mx w):
    Calls Tryz.prog 120 #[(.string ⟨(X:List UInt8).toArray⟩),(.int .i64 (most))] w fun e w'=>e=.returned (.tuple #[.agg #[.bool false,.slice none 0 0,.bool false,.slice none 0 0],.int .i64 3])∧Gr w w':=by
 have hl:decide (most<((X).length:Int))=false:=by simp;omega
 have hsA:(zb2 (Lib.itoa (z))).length≤(Lib.itoa (z)).length:=zg2 _
 have h1:zd6 (zb2 (Lib.itoa (z)))=true:=by rw [zt5];exact zQ8 _
 have h4:((Lib.trimS (Lib.itoa (d)) [48])==([]:List UInt8))=false:=by rw [← zn6];exact h3
 have h6:(sgn (d - 1)==(0:Int))=true:=by rw [h5];rfl
 go_enter Tryz.func120,Tryz.ntmps120
 have hB:=Gr.refl w
 refine wp_seq_k (fun K1 k1=>?_)
 refine rg [0,1] ?_
 refine se ?_
 refine ea 36 #[.bool false,.slice none 0 0,.bool false,.slice none 0 0] 4 hB fun b2 w2 g2 L2 o2 q2 hB=>?_
 simp only [p3,p4]
 refine sv 5 (.int .i64 0) ?_
 refine za0 ?_
 refine k1 _ _ ?_
 try clear k1 K1
 refine wp_seq_k (fun K3 k3=>?_)
 refine rg [0,1] ?_
 refine sv 13 (.string ⟨(X:List UInt8).toArray⟩) ?_
 refine sv 6 (.string ⟨(X:List UInt8).toArray⟩) ?_
 refine za0 ?_
 refine k3 _ _ ?_
 try clear k3 K3
 refine wp_seq_k (fun K4 k4=>?_)
 refine rg [0,1,2,3,4,5,6,7,8] ?_
 refine sv 15 (.string ⟨(X:List UInt8).toArray⟩) ?_
 refine se ?_
 refine ec 16 (zw6 (X) (Lib.itoa (z)) (Lib.itoa (d)) (by omega) hc (hm.gr hB)) ?_
 rintro e5 w5 ⟨rfl,g5⟩
 refine ⟨_,rfl,?_⟩
 replace hB:=hB.trans g5
 simp only [p3,p4]
 refine sv 14 (.tuple #[(.string ⟨(Lib.itoa (z):List UInt8).toArray⟩),(.string ⟨(Lib.itoa (d):List UInt8).toArray⟩),.bool true]) ?_
 refine sv 17 (.string ⟨(Lib.itoa (z):List UInt8).toArray⟩) ?_
 refine sv 18 (.string ⟨(Lib.itoa (d):List UInt8).toArray⟩) ?_
 refine sv 19 (.bool true) ?_
 refine sv 7 (.string ⟨(Lib.itoa (z):List UInt8).toArray⟩) ?_
 refine sv 8 (.string ⟨(Lib.itoa (d):List UInt8).toArray⟩) ?_
 refine sv 9 (.bool true) ?_
 refine za0 ?_
 refine k4 _ _ ?_
 try clear k4 K4
 refine wp_seq_k (fun K6 k6=>?_)
 refine wp_block ?_
 refine wp_seq_k (fun K7 k7=>?_)
 refine rg [0,1,2,3,4] ?_
 refine sv 21 (.string ⟨(X:List UInt8).toArray⟩) ?_
 refine sv 22 (.int .i64 (((X).length:Int))) ?_
 refine sv 23 (.int .i64 (most)) ?_
 refine sw 24 (.bool false) rfl (RunV.bool (x:=decide (most<((X).length:Int))) (rvk (by kernel_rfl)) hl) ?_
 refine sv 20 (.bool false) ?_
 refine za0 ?_
 refine k7 _ _ ?_
 try clear k7 K7
 refine wp_cond_false rfl ?_
 refine wp_seq_k (fun K8 k8=>?_)
 refine rg [0,1,2,3,4,5,6,7,8,9,10,11,12] ?_
 refine sv 27 (.string ⟨(Lib.itoa (z):List UInt8).toArray⟩) ?_
 refine se ?_
 refine ec 28 (zc5 (Lib.itoa (z)) _) ?_
 rintro e9 w9 ⟨rfl,g9⟩
 refine ⟨_,rfl,?_⟩
 replace hB:=hB.trans g9
 simp only [p3,p4]
 refine se ?_
 refine ec 29 (zd2 (zb2 (Lib.itoa (z))) (by omega) _) ?_
 rintro bg bt ⟨rfl,aF⟩
 refine ⟨_,rfl,?_⟩
 replace hB:=hB.trans aF
 simp only [p3,p4]
 refine sw 30 (.bool false) rfl (RunV.bool (x:=!(zd6 (zb2 (Lib.itoa (z))))) (rvk (by kernel_rfl)) (show (!(zd6 (zb2 (Lib.itoa (z)))))=false by rw [h1];rfl)) ?_
 refine sv 31 (.bool false) ?_
 refine sv 32 (.bool true) ?_
 refine sv 33 (.bool true) ?_
 refine sv 34 (.string ⟨(Lib.itoa (d):List UInt8).toArray⟩) ?_
 refine se ?_
 refine ec 35 (zd2 (Lib.itoa (d)) (by omega) _) ?_
 rintro e11 bu ⟨rfl,aH⟩
 refine ⟨_,rfl,?_⟩
 replace hB:=hB.trans aH
 simp only [p3,p4]
 refine sw 36 (.bool false) rfl (RunV.bool (x:=!(zd6 (Lib.itoa (d)))) (rvk (by kernel_rfl)) (show (!(zd6 (Lib.itoa (d))))=false by rw [h2];rfl)) ?_
 refine sv 37 (.bool false) ?_
 refine sv 38 (.bool false) ?_
 refine sv 26 (.bool false) ?_
 refine za0 ?_
 refine k8 _ _ ?_
 try clear k8 K8
 refine wp_cond_false rfl ?_
 refine wp_seq_k (fun aX aG=>?_)
 refine rg [0,1,2,3,4,5,6] ?_
 refine sv 41 (.bool true) ?_
 refine sv 42 (.bool true) ?_
 refine sv 43 (.string ⟨(Lib.itoa (d):List UInt8).toArray⟩) ?_
 refine se ?_
 refine ec 44 (zs7 (Lib.itoa (d)) (by omega) _) ?_
 rintro e13 bo ⟨rfl,aI⟩
 refine ⟨_,rfl,?_⟩
 replace hB:=hB.trans aI
 simp only [p3,p4]
 refine sw 45 (.bool false) rfl (RunV.bool (x:=((Lib.trimS (Lib.itoa (d)) [48])==([]:List UInt8))) (zv6 9 9 _ _ (Lib.trimS (Lib.itoa (d)) [48]) ([]) rfl rfl rfl) h4) ?_
 refine sv 46 (.bool false) ?_
 refine sv 40 (.bool false) ?_
 refine za0 ?_
 refine aG _ _ ?_
 try clear aG aX
 refine wp_cond_false rfl ?_
 refine wp_skip ?_
 refine k6 _ _ ?_
 try clear k6 K6
 refine wp_seq_k (fun aY aM=>?_)
 refine rg [0,1,2,3,4,5,6,7] ?_
 refine sv 49 (.string ⟨(Lib.itoa (z):List UInt8).toArray⟩) ?_
 refine se ?_
 refine ec 50 (zr8 (z) (zg3 (z) (m:=14000) (by omega)) (by omega) _) ?_
 rintro a8 bk ⟨⟨ak,aj,rfl,aC⟩,aL⟩
 refine ⟨_,rfl,?_⟩
 replace hB:=hB.trans aL
 simp only [p3,p4]
 refine sv 48 (.tuple #[(.agg #[ak,aj]),.int .i64 0]) ?_
 refine sv 51 (.agg #[ak,aj]) ?_
 refine sv 52 (.int .i64 0) ?_
 refine se ?_
 refine ea 34 #[.bool false,.slice none 0 0] 10 hB fun a1 bc a4 aa aT aZ hB=>?_
 replace L2:=L2.gr (g5.trans (g9.trans (aF.trans (aH.trans (aI.trans aL)))))
 have ai:=L2.ne aT
 simp only [p3,p4]
 refine se ?_
 refine es 34 0 (.agg #[ak,aj]) [ak,aj] #[ak,aj] aa hB aZ ⟨aC.one0,aC.one1,trivial⟩ fun bf ay aV aa hB=>?_
 refine sv 11 (.int .i64 0) ?_
 refine za0 ?_
 refine aM _ _ ?_
 try clear aM aY
 refine wp_seq_k (fun aR aJ=>?_)
 refine wp_seq_k (fun aQ az=>?_)
 refine rg [0,1] ?_
 refine sv 53 (.int .i64 0) ?_
 refine sv 54 (.bool false) ?_
 refine za0 ?_
 refine az _ _ ?_
 try clear az aQ
 refine wp_cond_false rfl ?_
 refine wp_skip ?_
 refine aJ _ _ ?_
 try clear aJ aR
 refine wp_seq_k (fun aP aD=>?_)
 refine wp_seq_k (fun a5 aA=>?_)
 refine rg [0,1] ?_
 refine sv 56 (.bool true) ?_
 refine sv 57 (.bool false) ?_
 refine za0 ?_
 refine aA _ _ ?_
 try clear aA a5
 refine wp_cond_false rfl ?_
 refine wp_skip ?_
 refine aD _ _ ?_
 try clear aD aP
 refine wp_seq_k (fun aO aK=>?_)
 refine rg [0,1,2,3,4,5,6,7] ?_
 refine sv 61 (.string ⟨(Lib.itoa (d):List UInt8).toArray⟩) ?_
 refine se ?_
 refine ec 62 (zr8 (d) (zg3 (d) (m:=14000) (by omega)) (by omega) _) ?_
 rintro e23 bh ⟨⟨af,ae,rfl,ap⟩,aw⟩
 refine ⟨_,rfl,?_⟩
 replace hB:=hB.trans aw
 simp only [p3,p4]
 refine sv 60 (.tuple #[(.agg #[af,ae]),.int .i64 0]) ?_
 refine sv 63 (.agg #[af,ae]) ?_
 refine sv 64 (.int .i64 0) ?_
 refine se ?_
 refine ea 34 #[.bool false,.slice none 0 0] 12 hB fun a0 bq av ab aE aS hB=>?_
 replace L2:=(ay.lc (L2.gr a4) ai).gr aw
 have ah:=L2.ne aE
 replace aa:=aa.gr aw
 have ad:=aa.ne aE
 simp only [p3,p4]
 refine se ?_
 refine es 34 0 (.agg #[af,ae]) [af,ae] #[af,ae] ab hB aS ⟨ap.one0,ap.one1,trivial⟩ fun a2 al au ab hB=>?_
 refine sv 11 (.int .i64 0) ?_
 refine za0 ?_
 refine aK _ _ ?_
 try clear aK aO
 refine wp_seq_k (fun a9 bi=>?_)
 refine wp_seq_k (fun a3 aN=>?_)
 have ac:=Gr.drew a2
 replace hB:=hB.trans ac
 replace aa:=(al.lc (aa.gr av) ad).gr ac
 replace ab:=ab.gr ac
 refine za3 (fun w'=>Lc w' a1 #[ak,aj] 34∧Lc w' a0 #[af,ae] 34) [(true,0),(true,1),(true,2),(true,3),(false,4),(false,5),(true,6),(true,7),(true,8),(true,9),(true,10),(false,11),(false,12),(false,13),(true,14),(true,15)] (by kernel_rfl) (by kernel_rfl) (by kernel_rfl) (by decide) (fun _ _ _ _ _ h=>h) ⟨aa,ab⟩ ?_
 refine ov 65 (.int .i64 0) ?_
 refine ov 66 (.bool false) ?_
 refine ov 67 (.bool false) ?_
 refine ow 68 (.agg #[af,ae]) rfl (fun w' hS=>(rl 34 0 [af,ae] hS.2)) ?_
 refine oe ?_
 refine ec 69 (zI1 _) ?_
 rintro bd bb ⟨⟨bm,ba,rfl,a6⟩,aq⟩
 refine ⟨_,rfl,?_⟩
 replace hB:=hB.trans aq
 replace aa:=aa.gr aq
 replace ab:=ab.gr aq
 refine ⟨⟨aa,ab⟩,?_⟩
 simp only [p3,p4]
 refine oe ?_
 have ax:=av.kp.trans (au.trans (ac.kp.trans aq.kp))
 replace ap:=ap.kp ax
 refine ec 70 (ze5 ap a6 (by omega) (by omega)) ?_
 rintro bj bn ⟨rfl,ar⟩
 refine ⟨_,rfl,?_⟩
 replace hB:=hB.trans ar
 replace aa:=aa.gr ar
 replace ab:=ab.gr ar
 refine ⟨⟨aa,ab⟩,?_⟩
 simp only [p3,p4]
 refine ow 71 (.bool true) rfl (fun w' hS=>(RunV.bool (x:=(sgn (d - 1)==(0:Int))) (rvk (by kernel_rfl)) h6)) ?_
 refine ov 72 (.bool true) ?_
 refine ov 73 (.bool true) ?_
 refine os 74 ?_
 refine os 75 ?_
 refine oz 76 ⟨aa,ab⟩ ?_
 refine oz 77 ⟨aa,ab⟩ ?_
 refine oz 78 ⟨aa,ab⟩ ?_
 refine os 79 ?_
 refine ov 80 (.bool true) ?_
 refine zc0 ?_
 refine aN _ _ ?_
 try clear aN a3
 refine wp_cond_true rfl ?_
 refine wp_seq_k (fun aU aB=>?_)
 refine rg [0,1,2] ?_
 refine sv 81 (.agg #[.bool false,.slice none 0 0,.bool false,.slice none 0 0]) ?_
 refine se ?_
 replace L2:=(al.lc (L2.gr av) ah).gr (ac.trans (aq.trans ar))
 refine es 36 0 (.agg #[.bool false,.slice none 0 0,.bool false,.slice none 0 0]) [.bool false,.slice none 0 0,.bool false,.slice none 0 0] #[.bool false,.slice none 0 0,.bool false,.slice none 0 0] L2 hB q2 ⟨rfl,rfl,rfl,rfl,trivial⟩ fun bp aW a7 L2 hB=>?_
 refine sv 5 (.int .i64 3) ?_
 refine za0 ?_
 refine aB _ _ ?_
 try clear aB aU
 refine wp_ret ?_
 simp only [Exit.then]
 refine bodyPost_ret (v:=(.tuple #[(.agg #[.bool false,.slice none 0 0,.bool false,.slice none 0 0]),.int .i64 3])) (za5 _ _ _ rfl rfl L2 (by kernel_rfl) rfl) rfl ⟨?_,hB⟩
 exact rfl

set_option maxRecDepth 100000 in
set_option maxHeartbeats 1000000 in
theorem read_g2 (X:List UInt8) (z d:Int) (most:Int) (_hx:X.length≤14000) (_hlong:(X.length:Int)≤most) (hc:zh5 X=(Lib.itoa (z),some (Lib.itoa (d)))) (_hA:(Lib.itoa (z)).length≤X.length) (_hD:(Lib.itoa (d)).length≤X.length) (h2:zd6 (Lib.itoa d)=true) (h3:zf9 (Lib.itoa d)=false) (h5:d≠1) (h7:Int.gcd z d≠1) (w:World) (hm:Mx w):
    Calls Tryz.prog 120 #[(.string ⟨(X:List UInt8).toArray⟩),(.int .i64 (most))] w fun e w'=>e=.returned (.tuple #[.agg #[.bool false,.slice none 0 0,.bool false,.slice none 0 0],.int .i64 3])∧Gr w w':=by
 have hl:decide (most<((X).length:Int))=false:=by simp;omega
 have hsA:(zb2 (Lib.itoa (z))).length≤(Lib.itoa (z)).length:=zg2 _
 have h1:zd6 (zb2 (Lib.itoa (z)))=true:=by rw [zt5];exact zQ8 _
 have h4:((Lib.trimS (Lib.itoa (d)) [48])==([]:List UInt8))=false:=by rw [← zn6];exact h3
 have h6:(sgn (d - 1)==(0:Int))=false:=by rw [beq_eq_false_iff_ne];exact fun e=>h5 (by have:=zc4.1 e;omega)
 have h8:(sgn ((Int.gcd (z) (d):Int) - 1) !=(0:Int))=true:=by rw [bne_iff_ne];exact fun e=>h7 (by have:=zc4.1 e;omega)
 go_enter Tryz.func120,Tryz.ntmps120
 have hB:=Gr.refl w
 refine wp_seq_k (fun K1 k1=>?_)
 refine rg [0,1] ?_
 refine se ?_
 refine ea 36 #[.bool false,.slice none 0 0,.bool false,.slice none 0 0] 4 hB fun b2 w2 g2 L2 o2 q2 hB=>?_
 simp only [p3,p4]
 refine sv 5 (.int .i64 0) ?_
 refine za0 ?_
 refine k1 _ _ ?_
 try clear k1 K1
 refine wp_seq_k (fun K3 k3=>?_)
 refine rg [0,1] ?_
 refine sv 13 (.string ⟨(X:List UInt8).toArray⟩) ?_
 refine sv 6 (.string ⟨(X:List UInt8).toArray⟩) ?_
 refine za0 ?_
 refine k3 _ _ ?_
 try clear k3 K3
 refine wp_seq_k (fun K4 k4=>?_)
 refine rg [0,1,2,3,4,5,6,7,8] ?_
 refine sv 15 (.string ⟨(X:List UInt8).toArray⟩) ?_
 refine se ?_
 refine ec 16 (zw6 (X) (Lib.itoa (z)) (Lib.itoa (d)) (by omega) hc (hm.gr hB)) ?_
 rintro e5 w5 ⟨rfl,g5⟩
 refine ⟨_,rfl,?_⟩
 replace hB:=hB.trans g5
 simp only [p3,p4]
 refine sv 14 (.tuple #[(.string ⟨(Lib.itoa (z):List UInt8).toArray⟩),(.string ⟨(Lib.itoa (d):List UInt8).toArray⟩),.bool true]) ?_
 refine sv 17 (.string ⟨(Lib.itoa (z):List UInt8).toArray⟩) ?_
 refine sv 18 (.string ⟨(Lib.itoa (d):List UInt8).toArray⟩) ?_
 refine sv 19 (.bool true) ?_
 refine sv 7 (.string ⟨(Lib.itoa (z):List UInt8).toArray⟩) ?_
 refine sv 8 (.string ⟨(Lib.itoa (d):List UInt8).toArray⟩) ?_
 refine sv 9 (.bool true) ?_
 refine za0 ?_
 refine k4 _ _ ?_
 try clear k4 K4
 refine wp_seq_k (fun K6 k6=>?_)
 refine wp_block ?_
 refine wp_seq_k (fun K7 k7=>?_)
 refine rg [0,1,2,3,4] ?_
 refine sv 21 (.string ⟨(X:List UInt8).toArray⟩) ?_
 refine sv 22 (.int .i64 (((X).length:Int))) ?_
 refine sv 23 (.int .i64 (most)) ?_
 refine sw 24 (.bool false) rfl (RunV.bool (x:=decide (most<((X).length:Int))) (rvk (by kernel_rfl)) hl) ?_
 refine sv 20 (.bool false) ?_
 refine za0 ?_
 refine k7 _ _ ?_
 try clear k7 K7
 refine wp_cond_false rfl ?_
 refine wp_seq_k (fun K8 k8=>?_)
 refine rg [0,1,2,3,4,5,6,7,8,9,10,11,12] ?_
 refine sv 27 (.string ⟨(Lib.itoa (z):List UInt8).toArray⟩) ?_
 refine se ?_
 refine ec 28 (zc5 (Lib.itoa (z)) _) ?_
 rintro e9 w9 ⟨rfl,g9⟩
 refine ⟨_,rfl,?_⟩
 replace hB:=hB.trans g9
 simp only [p3,p4]
 refine se ?_
 refine ec 29 (zd2 (zb2 (Lib.itoa (z))) (by omega) _) ?_
 rintro bx bK ⟨rfl,aM⟩
 refine ⟨_,rfl,?_⟩
 replace hB:=hB.trans aM
 simp only [p3,p4]
 refine sw 30 (.bool false) rfl (RunV.bool (x:=!(zd6 (zb2 (Lib.itoa (z))))) (rvk (by kernel_rfl)) (show (!(zd6 (zb2 (Lib.itoa (z)))))=false by rw [h1];rfl)) ?_
 refine sv 31 (.bool false) ?_
 refine sv 32 (.bool true) ?_
 refine sv 33 (.bool true) ?_
 refine sv 34 (.string ⟨(Lib.itoa (d):List UInt8).toArray⟩) ?_
 refine se ?_
 refine ec 35 (zd2 (Lib.itoa (d)) (by omega) _) ?_
 rintro e11 bM ⟨rfl,aO⟩
 refine ⟨_,rfl,?_⟩
 replace hB:=hB.trans aO
 simp only [p3,p4]
 refine sw 36 (.bool false) rfl (RunV.bool (x:=!(zd6 (Lib.itoa (d)))) (rvk (by kernel_rfl)) (show (!(zd6 (Lib.itoa (d))))=false by rw [h2];rfl)) ?_
 refine sv 37 (.bool false) ?_
 refine sv 38 (.bool false) ?_
 refine sv 26 (.bool false) ?_
 refine za0 ?_
 refine k8 _ _ ?_
 try clear k8 K8
 refine wp_cond_false rfl ?_
 refine wp_seq_k (fun a4 aN=>?_)
 refine rg [0,1,2,3,4,5,6] ?_
 refine sv 41 (.bool true) ?_
 refine sv 42 (.bool true) ?_
 refine sv 43 (.string ⟨(Lib.itoa (d):List UInt8).toArray⟩) ?_
 refine se ?_
 refine ec 44 (zs7 (Lib.itoa (d)) (by omega) _) ?_
 rintro e13 bG ⟨rfl,aP⟩
 refine ⟨_,rfl,?_⟩
 replace hB:=hB.trans aP
 simp only [p3,p4]
 refine sw 45 (.bool false) rfl (RunV.bool (x:=((Lib.trimS (Lib.itoa (d)) [48])==([]:List UInt8))) (zv6 9 9 _ _ (Lib.trimS (Lib.itoa (d)) [48]) ([]) rfl rfl rfl) h4) ?_
 refine sv 46 (.bool false) ?_
 refine sv 40 (.bool false) ?_
 refine za0 ?_
 refine aN _ _ ?_
 try clear aN a4
 refine wp_cond_false rfl ?_
 refine wp_skip ?_
 refine k6 _ _ ?_
 try clear k6 K6
 refine wp_seq_k (fun a5 aT=>?_)
 refine rg [0,1,2,3,4,5,6,7] ?_
 refine sv 49 (.string ⟨(Lib.itoa (z):List UInt8).toArray⟩) ?_
 refine se ?_
 refine ec 50 (zr8 (z) (zg3 (z) (m:=14000) (by omega)) (by omega) _) ?_
 rintro bh bF ⟨⟨aj,ah,rfl,aw⟩,aS⟩
 refine ⟨_,rfl,?_⟩
 replace hB:=hB.trans aS
 simp only [p3,p4]
 refine sv 48 (.tuple #[(.agg #[aj,ah]),.int .i64 0]) ?_
 refine sv 51 (.agg #[aj,ah]) ?_
 refine sv 52 (.int .i64 0) ?_
 refine se ?_
 refine ea 34 #[.bool false,.slice none 0 0] 10 hB fun a8 bp aK aa a2 a6 hB=>?_
 replace L2:=L2.gr (g5.trans (g9.trans (aM.trans (aO.trans (aP.trans aS)))))
 have al:=L2.ne a2
 simp only [p3,p4]
 refine se ?_
 refine es 34 0 (.agg #[aj,ah]) [aj,ah] #[aj,ah] aa hB a6 ⟨aw.one0,aw.one1,trivial⟩ fun bq aF aB aa hB=>?_
 refine sv 11 (.int .i64 0) ?_
 refine za0 ?_
 refine aT _ _ ?_
 try clear aT a5
 refine wp_seq_k (fun a0 aQ=>?_)
 refine wp_seq_k (fun aY aG=>?_)
 refine rg [0,1] ?_
 refine sv 53 (.int .i64 0) ?_
 refine sv 54 (.bool false) ?_
 refine za0 ?_
 refine aG _ _ ?_
 try clear aG aY
 refine wp_cond_false rfl ?_
 refine wp_skip ?_
 refine aQ _ _ ?_
 try clear aQ a0
 refine wp_seq_k (fun aX aJ=>?_)
 refine wp_seq_k (fun bd aH=>?_)
 refine rg [0,1] ?_
 refine sv 56 (.bool true) ?_
 refine sv 57 (.bool false) ?_
 refine za0 ?_
 refine aH _ _ ?_
 try clear aH bd
 refine wp_cond_false rfl ?_
 refine wp_skip ?_
 refine aJ _ _ ?_
 try clear aJ aX
 refine wp_seq_k (fun aV aR=>?_)
 refine rg [0,1,2,3,4,5,6,7] ?_
 refine sv 61 (.string ⟨(Lib.itoa (d):List UInt8).toArray⟩) ?_
 refine se ?_
 refine ec 62 (zr8 (d) (zg3 (d) (m:=14000) (by omega)) (by omega) _) ?_
 rintro e23 bC ⟨⟨ae,ad,rfl,ai⟩,ay⟩
 refine ⟨_,rfl,?_⟩
 replace hB:=hB.trans ay
 simp only [p3,p4]
 refine sv 60 (.tuple #[(.agg #[ae,ad]),.int .i64 0]) ?_
 refine sv 63 (.agg #[ae,ad]) ?_
 refine sv 64 (.int .i64 0) ?_
 refine se ?_
 refine ea 34 #[.bool false,.slice none 0 0] 12 hB fun a7 bJ ax ab aL a1 hB=>?_
 replace L2:=(aF.lc (L2.gr aK) al).gr ay
 have ak:=L2.ne aL
 replace aa:=aa.gr ay
 have af:=aa.ne aL
 simp only [p3,p4]
 refine se ?_
 refine es 34 0 (.agg #[ae,ad]) [ae,ad] #[ae,ad] ab hB a1 ⟨ai.one0,ai.one1,trivial⟩ fun a9 au ar ab hB=>?_
 refine sv 11 (.int .i64 0) ?_
 refine za0 ?_
 refine aR _ _ ?_
 try clear aR aV
 refine wp_seq_k (fun bi bD=>?_)
 refine wp_seq_k (fun ba aU=>?_)
 have ac:=Gr.drew a9
 replace hB:=hB.trans ac
 replace aa:=(au.lc (aa.gr ax) af).gr ac
 replace ab:=ab.gr ac
 refine za3 (fun w'=>Lc w' a8 #[aj,ah] 34∧Lc w' a7 #[ae,ad] 34) [(true,0),(true,1),(true,2),(true,3),(false,4),(false,5),(true,6),(true,7),(true,8),(true,9),(true,10),(false,11),(false,12),(false,13),(true,14),(true,15)] (by kernel_rfl) (by kernel_rfl) (by kernel_rfl) (by decide) (fun _ _ _ _ _ h=>h) ⟨aa,ab⟩ ?_
 refine ov 65 (.int .i64 0) ?_
 refine ov 66 (.bool false) ?_
 refine ov 67 (.bool false) ?_
 refine ow 68 (.agg #[ae,ad]) rfl (fun w' hS=>(rl 34 0 [ae,ad] hS.2)) ?_
 refine oe ?_
 refine ec 69 (zI1 _) ?_
 rintro bj bu ⟨⟨bo,bv,rfl,aW⟩,ap⟩
 refine ⟨_,rfl,?_⟩
 replace hB:=hB.trans ap
 replace aa:=aa.gr ap
 replace ab:=ab.gr ap
 refine ⟨⟨aa,ab⟩,?_⟩
 simp only [p3,p4]
 refine oe ?_
 have aE:=ax.kp.trans (ar.trans (ac.kp.trans ap.kp))
 replace ai:=ai.kp aE
 refine ec 70 (ze5 ai aW (by omega) (by omega)) ?_
 rintro bH bA ⟨rfl,aq⟩
 refine ⟨_,rfl,?_⟩
 replace hB:=hB.trans aq
 replace aa:=aa.gr aq
 replace ab:=ab.gr aq
 refine ⟨⟨aa,ab⟩,?_⟩
 simp only [p3,p4]
 refine ow 71 (.bool false) rfl (fun w' hS=>(RunV.bool (x:=(sgn (d - 1)==(0:Int))) (rvk (by kernel_rfl)) h6)) ?_
 refine ov 72 (.bool false) ?_
 refine ov 73 (.bool false) ?_
 refine ow 74 (.agg #[aj,ah]) rfl (fun w' hS=>(rl 34 0 [aj,ah] hS.1)) ?_
 refine ow 75 (.agg #[ae,ad]) rfl (fun w' hS=>(rl 34 0 [ae,ad] hS.2)) ?_
 refine oe ?_
 have aD:=aK.kp.trans (aB.trans (ay.kp.trans (ax.kp.trans (ar.trans (ac.kp.trans (ap.kp.trans aq.kp))))))
 replace aw:=aw.kp aD
 replace ai:=ai.kp aq.kp
 refine ec 76 (yd3 aw ai (by omega)) ?_
 rintro bk bg ⟨⟨bB,bz,rfl,aC⟩,az⟩
 refine ⟨_,rfl,?_⟩
 replace hB:=hB.trans az
 replace aa:=aa.gr az
 replace ab:=ab.gr az
 refine ⟨⟨aa,ab⟩,?_⟩
 simp only [p3,p4]
 refine oe ?_
 refine ec 77 (zI1 _) ?_
 rintro bn bf ⟨⟨bt,bL,rfl,aZ⟩,av⟩
 refine ⟨_,rfl,?_⟩
 replace hB:=hB.trans av
 replace aa:=aa.gr av
 replace ab:=ab.gr av
 refine ⟨⟨aa,ab⟩,?_⟩
 simp only [p3,p4]
 refine oe ?_
 replace aC:=aC.kp av.kp
 refine ec 78 (ze5 aC aZ (by omega) (by omega)) ?_
 rintro bw bE ⟨rfl,aA⟩
 refine ⟨_,rfl,?_⟩
 replace hB:=hB.trans aA
 replace aa:=aa.gr aA
 replace ab:=ab.gr aA
 refine ⟨⟨aa,ab⟩,?_⟩
 simp only [p3,p4]
 refine ow 79 (.bool true) rfl (fun w' hS=>(RunV.bool (x:=(sgn ((Int.gcd (z) (d):Int) - 1) !=(0:Int))) (rvk (by kernel_rfl)) h8)) ?_
 refine ov 80 (.bool true) ?_
 refine zc0 ?_
 refine aU _ _ ?_
 try clear aU ba
 refine wp_cond_true rfl ?_
 refine wp_seq_k (fun bb aI=>?_)
 refine rg [0,1,2] ?_
 refine sv 81 (.agg #[.bool false,.slice none 0 0,.bool false,.slice none 0 0]) ?_
 refine se ?_
 replace L2:=(au.lc (L2.gr ax) ak).gr (ac.trans (ap.trans (aq.trans (az.trans (av.trans aA)))))
 refine es 36 0 (.agg #[.bool false,.slice none 0 0,.bool false,.slice none 0 0]) [.bool false,.slice none 0 0,.bool false,.slice none 0 0] #[.bool false,.slice none 0 0,.bool false,.slice none 0 0] L2 hB q2 ⟨rfl,rfl,rfl,rfl,trivial⟩ fun bm bc a3 L2 hB=>?_
 refine sv 5 (.int .i64 3) ?_
 refine za0 ?_
 refine aI _ _ ?_
 try clear aI bb
 refine wp_ret ?_
 simp only [Exit.then]
 refine bodyPost_ret (v:=(.tuple #[(.agg #[.bool false,.slice none 0 0,.bool false,.slice none 0 0]),.int .i64 3])) (za5 _ _ _ rfl rfl L2 (by kernel_rfl) rfl) rfl ⟨?_,hB⟩
 exact rfl

theorem read_bad (X:List UInt8) (most:Nat) (hx:X.length≤14000) (h:ck2 X most≠0) (w:World) (hm:Mx w):
  Calls Tryz.prog 120 #[(.string ⟨(X:List UInt8).toArray⟩),(.int .i64 (most))] w fun e w'=>e=.returned (.tuple #[.agg #[.bool false,.slice none 0 0,.bool false,.slice none 0 0],.int .i64 (ck2 X most)])∧Gr w w':=by
 by_cases hl:most<X.length
 ·have e:ck2 X most=5:=by unfold ck2;rw [if_pos hl]
  rw [e];exact yv1 X most (by omega) (by omega) w hm
 have aa:(X.length:Int)≤(most:Int):=by omega
 have hcl:=zA8 X
 have hnl:=yg9 X
 rcases hcut:zh5 X with ⟨A,_ | D⟩
 ·rw [hcut] at hcl hnl
  obtain rfl:X=A:=hcl
  have hn:zf4 X=X:=by unfold zf4;rw [hcut]
  have hd:zg9 X=[49]:=by unfold zg9;rw [hcut];rfl
  unfold ck2 at h ⊢
  rw [if_neg hl,hn,hd] at h ⊢
  rw [show zd6 [49]=true from by decide,Bool.and_true] at h ⊢
  by_cases h1:zd6 (zb2 X)=true
  ·rw [if_neg (by rw [h1];decide),if_neg (by decide)] at h ⊢
   by_cases h2:zF3 X=true
   ·rw [if_pos (by rw [h2];rfl)]
    exact read_nf X most hx aa hcut h1 h2 w hm
   ·rw [Bool.not_eq_true] at h2
    rw [if_neg (by rw [h2];decide),if_neg (by simp)] at h
    exact absurd rfl h
  ·rw [Bool.not_eq_true] at h1
   rw [if_pos h1]
   exact read_ns X most hx aa hcut h1 w hm
 ·rw [hcut] at hcl hnl
  dsimp only at hcl
  have hn:zf4 X=A:=by unfold zf4;rw [hcut]
  have hd:zg9 X=D:=by unfold zg9;rw [hcut];rfl
  have hlen:X.length=A.length+(D.length+1):=by rw [hcl];simp
  have hA:A.length≤X.length:=by omega
  have hD:D.length≤X.length:=by omega
  unfold ck2 at h ⊢
  rw [if_neg hl,hn,hd] at h ⊢
  by_cases h1:zd6 (zb2 A)=true
  ·by_cases h2:zd6 D=true
   ·rw [h1,h2,if_neg (by decide)] at h ⊢
    by_cases h3:zf9 D=true
    ·rw [if_pos h3]
     exact read_fz X A D most hx aa hcut hA hD h1 h2 h3 w hm
    rw [if_neg h3] at h ⊢
    rw [Bool.not_eq_true] at h3
    by_cases h4:zF3 A=true
    ·rw [if_pos (by rw [h4];rfl)]
     exact read_fb1 X A D most hx aa hcut hA hD h1 h2 h3 h4 w hm
    rw [Bool.not_eq_true] at h4
    obtain ⟨z,rfl⟩:=zn0 h1 h4
    have hz:valZ (Lib.itoa z)=z:=zf0 z
    by_cases h5:(D[0]?==some 48)=true
    ·rw [if_pos (by rw [h5,Bool.or_true])]
     exact read_fb2 X D z most hx aa hcut hA hD h2 (yA2 h2) h3 (yA3 h2 h3 h5) w hm
    rw [Bool.not_eq_true] at h5
    obtain ⟨e1,e2⟩:=zt6 h2 h5
    obtain ⟨d,ab⟩:∃ d:Int,d=(zh0 D:Int):=⟨_,rfl⟩
    have e3:Lib.itoa d=D:=by rw [ab,za7 (by omega),Int.natAbs_natCast];exact e1
    subst e3
    have hv:valZ (Lib.itoa d)=d:=zf0 d
    rw [if_neg (by rw [h4,h5];decide),hz,hv] at h ⊢
    have hlt:decide ((Lib.itoa z).length<X.length)=true:=by simp;omega
    rw [hlt,Bool.true_and] at h ⊢
    by_cases h6:d=1
    ·rw [if_pos (by rw [h6,itoa_one];rfl)]
     exact read_g1 X z d most hx aa hcut hA hD h2 h3 h6 w hm
    ·by_cases h7:Int.gcd z d=1
     ·rw [if_neg (by rw [h7];simp;intro e;exact h6 (zj8 (by rw [e,itoa_one])))] at h
      exact absurd rfl h
     ·rw [if_pos (by simp [h7])]
      exact read_g2 X z d most hx aa hcut hA hD h2 h3 h6 h7 w hm
   ·rw [Bool.not_eq_true] at h2
    rw [if_pos (by rw [h2,Bool.and_false])]
    exact read_fs2 X A D most hx aa hcut hA hD h1 h2 w hm
  ·rw [Bool.not_eq_true] at h1
   rw [if_pos (by rw [h1];rfl)]
   exact read_fs1 X A D most hx aa hcut hA hD h1 w hm

set_option maxRecDepth 100000 in
set_option maxHeartbeats 1000000 in
theorem yo4 (X:List UInt8) (hx:X.length≤14000) (h:ck2 X 400≠0) (w:World) (hm:Mx w):
    Calls Tryz.prog 94 #[(.string ⟨(X:List UInt8).toArray⟩)] w fun e w'=>e=.returned (.tuple #[.agg #[.bool false,.slice none 0 0,.bool false,.slice none 0 0],.int .i64 (ck2 X 400)])∧Gr w w':=by
 go_enter Tryz.func94,Tryz.ntmps94
 have hB:=Gr.refl w
 refine wp_seq_k (fun K1 k1=>?_)
 refine rg [0,1] ?_
 refine se ?_
 refine ea 36 #[.bool false,.slice none 0 0,.bool false,.slice none 0 0] 2 hB fun b2 w2 g2 L2 o2 q2 hB=>?_
 simp only [p3,p4]
 refine sv 3 (.int .i64 0) ?_
 refine za0 ?_
 refine k1 _ _ ?_
 try clear k1 K1
 refine wp_seq_k (fun K3 k3=>?_)
 refine rg [0,1,2,3,4,5] ?_
 refine sv 4 (.string ⟨(X:List UInt8).toArray⟩) ?_
 refine se ?_
 refine ec 5 (read_bad X 400 hx h _ (hm.gr hB)) ?_
 rintro e4 w4 ⟨rfl,g4⟩
 refine ⟨_,rfl,?_⟩
 replace hB:=hB.trans g4
 simp only [p3,p4]
 refine sv 6 (.agg #[.bool false,.slice none 0 0,.bool false,.slice none 0 0]) ?_
 refine sv 7 (.int .i64 (ck2 X 400)) ?_
 refine se ?_
 replace L2:=L2.gr g4
 refine es 36 0 (.agg #[.bool false,.slice none 0 0,.bool false,.slice none 0 0]) [.bool false,.slice none 0 0,.bool false,.slice none 0 0] #[.bool false,.slice none 0 0,.bool false,.slice none 0 0] L2 hB q2 ⟨rfl,rfl,rfl,rfl,trivial⟩ fun w5 ab aa L2 hB=>?_
 refine sv 3 (.int .i64 (ck2 X 400)) ?_
 refine za0 ?_
 refine k3 _ _ ?_
 try clear k3 K3
 refine wp_ret ?_
 refine bodyPost_ret (v:=(.tuple #[(.agg #[.bool false,.slice none 0 0,.bool false,.slice none 0 0]),(.int .i64 (ck2 X 400))])) (za5 _ _ _ rfl rfl L2 (by kernel_rfl) rfl) rfl ⟨?_,hB⟩
 exact rfl

set_option maxRecDepth 100000 in
set_option maxHeartbeats 1000000 in
theorem zX3 (z:Int) (_hz:-4611686018427387904≤z∧z≤4611686018427387904) (w:World):
    Calls Tryz.prog 72 #[(.int .i64 (z))] w fun e w'=>e=.returned (.int .i64 ((z.natAbs:Int)))∧Gr w w':=by
 go_enter Tryz.func72,Tryz.ntmps72
 have hB:=Gr.refl w
 refine wp_seq_k (fun K1 k1=>?_)
 refine rg [0] ?_
 refine sv 2 (.int .i64 0) ?_
 refine za0 ?_
 refine k1 _ _ ?_
 try clear k1 K1
 refine wp_seq_k (fun K2 k2=>?_)
 refine wp_seq_k (fun K3 k3=>?_)
 refine rg [0,1] ?_
 refine sv 3 (.int .i64 (z)) ?_
 refine sv 4 (.bool (decide (z<(0:Int)))) ?_
 refine za0 ?_
 refine k3 _ _ ?_
 try clear k3 K3
 refine wp_cond_split (t:=decide (z<(0:Int))) rfl (fun aa=>?_) (fun aa=>?_)
 ·refine wp_seq_k (fun K5 k5=>?_)
  refine rg [0,1,2] ?_
  refine sv 5 (.int .i64 (z)) ?_
  refine sw 6 (.int .i64 ((0 - z))) rfl (RunV.int (x:=IntKind.i64.wrap ((0 - z))) (y:=(0 - z)) (rvk (by kernel_rfl)) (by first | rfl | (rw [IntKind.wrap_i64];omega))) ?_
  refine sv 2 (.int .i64 ((0 - z))) ?_
  refine za0 ?_
  refine k5 _ _ ?_
  try clear k5 K5
  refine wp_ret ?_
  simp only [Exit.then]
  refine bodyPost_ret (v:=(.int .i64 ((0 - z)))) (zb0 rfl rfl) rfl ⟨?_,hB⟩
  exact (congrArg (fun z=>Ending.returned (.int .i64 z)) (by have:=of_decide_eq_true aa;omega))
 ·refine wp_skip ?_
  refine k2 _ _ ?_
  try clear k2 K2
  refine wp_seq_k (fun K6 k6=>?_)
  refine rg [0,1] ?_
  refine sv 7 (.int .i64 (z)) ?_
  refine sv 2 (.int .i64 (z)) ?_
  refine za0 ?_
  refine k6 _ _ ?_
  try clear k6 K6
  refine wp_ret ?_
  refine bodyPost_ret (v:=(.int .i64 (z))) (zb0 rfl rfl) rfl ⟨?_,hB⟩
  exact (congrArg (fun z=>Ending.returned (.int .i64 z)) (by have:=of_decide_eq_false aa;omega))

set_option maxRecDepth 100000 in
set_option maxHeartbeats 1000000 in
theorem yi8 (ga gb:Int) (h1:0≤ga) (h2:0≤gb) (w:World):
    Calls Tryz.prog 91 #[(.int .i64 (ga)),(.int .i64 (gb))] w fun e w'=>e=.returned (.int .i64 ((Int.gcd ga gb:Int)))∧Gr w w':=by
 go_enter Tryz.func91,Tryz.ntmps91
 have hB:=Gr.refl w
 refine wp_seq_k (fun K1 k1=>?_)
 refine rg [0] ?_
 refine sv 4 (.int .i64 0) ?_
 refine za0 ?_
 refine k1 _ _ ?_
 try clear k1 K1
 refine wp_seq_k (fun K2 k2=>?_)
 refine wp_block ?_
 refine zg5 (a:=⟨List.toArray ?l3,[]⟩) (fun n a w'=>∃ (ab:Int) (aa:Int) (u3:Nat→Value),aa.toNat=n∧a=⟨[(.int .i64 (ab)),(.int .i64 (aa)),undef,undef,.int .i64 0,(u3 5),(u3 6),(u3 7),(u3 8),(u3 9),(u3 10),undef].toArray,[]⟩∧Int.gcd ab aa=Int.gcd ga gb∧0≤ab∧0≤aa∧Gr w w') (gb.toNat) ?_ ?_
 ·exact ⟨_,_,(fun i=>List.getD ?l3 i undef),rfl,rfl,rfl,h1,h2,hB⟩
 rintro n3 a3 w3 ⟨ab,aa,u3,rfl,rfl,ai,ad,ak,hB⟩ K3 k3
 refine wp_seq_k (fun K5 k5=>?_)
 refine wp_seq_k (fun K6 k6=>?_)
 refine rg [0,1] ?_
 refine sv 5 (.int .i64 (aa)) ?_
 refine sv 6 (.bool (decide ((0:Int)<aa))) ?_
 refine za0 ?_
 refine k6 _ _ ?_
 try clear k6 K6
 refine wp_cond_split (t:=decide ((0:Int)<aa)) rfl (fun ae=>?_) (fun ae=>?_)
 ·have ac:=of_decide_eq_true ae
  refine wp_skip ?_
  refine k5 _ _ ?_
  try clear k5 K5
  refine wp_block ?_
  have aj:=Gr.drew w3
  replace hB:=hB.trans aj
  refine za3 (fun _=>True) [(true,0),(true,1),(true,2),(true,3),(true,4),(true,5)] (by kernel_rfl) (by kernel_rfl) (by kernel_rfl) (by decide) (fun _ _ _ _ _ h=>h) trivial ?_
  refine ov 7 (.int .i64 (aa)) ?_
  refine ov 8 (.int .i64 (ab)) ?_
  refine ov 9 (.int .i64 (aa)) ?_
  refine ow 10 (.int .i64 ((ab % aa))) rfl (fun w' hS=>(rv_rem 3 3 _ _ ab aa rfl rfl rfl ad ac)) ?_
  refine ov 0 (.int .i64 (aa)) ?_
  refine ov 1 (.int .i64 ((ab % aa))) ?_
  refine zc0 ?_
  refine k3 ((ab % aa).toNat) ⟨List.toArray ?l10,[]⟩ _ (by have:=Int.emod_lt_of_pos ab ac;omega) ?_
  exact ⟨_,_,(fun i=>List.getD ?l10 i undef),rfl,rfl,(by rw [zZ8 ad ac];exact ai),(by omega),(Int.emod_nonneg _ (by omega)),hB⟩
 ·have af:=gcd_end0 ai ae ad ak
  refine wp_exit ?_
  simp only [Exit.then,Exit.inBlock,↓reduceIte]
  refine k2 _ _ ?_
  try clear k2 K2
  refine wp_seq_k (fun al ah=>?_)
  refine rg [0,1] ?_
  refine sv 11 (.int .i64 (ab)) ?_
  refine sv 4 (.int .i64 (ab)) ?_
  refine za0 ?_
  refine ah _ _ ?_
  try clear ah al
  refine wp_ret ?_
  refine bodyPost_ret (v:=(.int .i64 (ab))) (zb0 rfl rfl) rfl ⟨?_,hB⟩
  exact (congrArg (fun z=>Ending.returned (.int .i64 z)) af)

set_option maxRecDepth 100000 in
set_option maxHeartbeats 1000000 in
theorem zI4 (qq0 qq1 qq2 qq3:Int) (_j0:-1099511627776≤qq0∧qq0≤1099511627776) (_j1:-1099511627776≤qq1∧qq1≤1099511627776) (_j2:-1099511627776≤qq2∧qq2≤1099511627776) (_j3:-1099511627776≤qq3∧qq3≤1099511627776) (w:World):
    Calls Tryz.prog 54 #[(.agg #[(.int .i64 (qq0)),(.int .i64 (qq1)),(.int .i64 (qq2)),(.int .i64 (qq3))])] w fun e w'=>e=.returned (.int .i64 (qgcd qq0 qq1 qq2 qq3))∧Gr w w':=by
 go_enter Tryz.func54,Tryz.ntmps54
 have hB:=Gr.refl w
 refine wp_seq_k (fun K1 k1=>?_)
 refine rg [0,1] ?_
 refine se ?_
 refine eb 22 #[(.int .i64 (qq0)),(.int .i64 (qq1)),(.int .i64 (qq2)),(.int .i64 (qq3))] 1 hB fun b2 w2 g2 L2 o2 q2 hB=>?_
 simp only [p3,p4]
 refine sv 2 (.int .i64 0) ?_
 refine za0 ?_
 refine k1 _ _ ?_
 try clear k1 K1
 refine wp_seq_k (fun K3 k3=>?_)
 refine rg [0] ?_
 refine sv 3 (.int .i64 0) ?_
 refine za0 ?_
 refine k3 _ _ ?_
 try clear k3 K3
 refine wp_seq_k (fun K4 k4=>?_)
 refine wp_seq_k (fun K5 k5=>?_)
 refine rg [0] ?_
 refine sv 4 (.int .i64 0) ?_
 refine za0 ?_
 refine k5 _ _ ?_
 try clear k5 K5
 refine wp_block ?_
 refine wp_loop_rounds 6 ?_
 show Code.wp _ _ _ _ _
 refine wp_seq_k (fun K6 k6=>?_)
 refine wp_seq_k (fun K7 k7=>?_)
 refine rg [0,1] ?_
 refine sv 5 (.int .i64 0) ?_
 refine sv 6 (.bool true) ?_
 refine za0 ?_
 refine k7 _ _ ?_
 try clear k7 K7
 refine wp_cond_true rfl ?_
 refine wp_skip ?_
 refine k6 _ _ ?_
 try clear k6 K6
 refine wp_seq_k (fun K8 k8=>?_)
 refine wp_block ?_
 refine rg [0,1,2,3,4,5,6] ?_
 refine sv 9 (.int .i64 0) ?_
 refine sv 10 (.int .i64 0) ?_
 refine sv 11 (.pointer (some ⟨b2,0,none⟩)) ?_
 refine sw 12 (.int .i64 (qq0)) rfl (rk 3 0 L2) ?_
 refine se ?_
 refine ec 13 (zX3 (qq0) (by omega) _) ?_
 rintro e9 w9 ⟨rfl,g9⟩
 refine ⟨_,rfl,?_⟩
 replace hB:=hB.trans g9
 simp only [p3,p4]
 refine se ?_
 refine ec 14 (yi8 (0:Int) (((qq0).natAbs:Int)) (by omega) (by omega) _) ?_
 rintro aR aX ⟨rfl,al⟩
 refine ⟨_,rfl,?_⟩
 replace hB:=hB.trans al
 simp only [p3,p4]
 refine sv 3 (.int .i64 ((Int.gcd (0:Int) (((qq0).natAbs:Int)):Int))) ?_
 refine za0 ?_
 refine k8 _ _ ?_
 try clear k8 K8
 refine rg [0,1,2] ?_
 refine sv 7 (.int .i64 0) ?_
 refine sv 8 (.int .i64 1) ?_
 refine sv 4 (.int .i64 1) ?_
 refine za0 ?_
 show Code.rounds _ _ _ _ _ _
 show Code.wp _ _ _ _ _
 refine wp_seq_k (fun aI ac=>?_)
 refine wp_seq_k (fun aA ap=>?_)
 refine rg [0,1] ?_
 refine sv 5 (.int .i64 1) ?_
 refine sv 6 (.bool true) ?_
 refine za0 ?_
 refine ap _ _ ?_
 try clear ap aA
 refine wp_cond_true rfl ?_
 refine wp_skip ?_
 refine ac _ _ ?_
 try clear ac aI
 refine wp_seq_k (fun ay aa=>?_)
 refine wp_block ?_
 refine rg [0,1,2,3,4,5,6] ?_
 refine sv 9 (.int .i64 ((Int.gcd (0:Int) (((qq0).natAbs:Int)):Int))) ?_
 refine sv 10 (.int .i64 1) ?_
 refine sv 11 (.pointer (some ⟨b2,1,none⟩)) ?_
 replace L2:=L2.gr (g9.trans al)
 refine sw 12 (.int .i64 (qq1)) rfl (rk 3 1 L2) ?_
 refine se ?_
 refine ec 13 (zX3 (qq1) (by omega) _) ?_
 rintro aT aO ⟨rfl,ab⟩
 refine ⟨_,rfl,?_⟩
 replace hB:=hB.trans ab
 simp only [p3,p4]
 refine se ?_
 refine ec 14 (yi8 ((Int.gcd (0:Int) (((qq0).natAbs:Int)):Int)) (((qq1).natAbs:Int)) (by omega) (by omega) _) ?_
 rintro aK aU ⟨rfl,au⟩
 refine ⟨_,rfl,?_⟩
 replace hB:=hB.trans au
 simp only [p3,p4]
 refine sv 3 (.int .i64 ((Int.gcd ((Int.gcd (0:Int) (((qq0).natAbs:Int)):Int)) (((qq1).natAbs:Int)):Int))) ?_
 refine za0 ?_
 refine aa _ _ ?_
 try clear aa ay
 refine rg [0,1,2] ?_
 refine sv 7 (.int .i64 1) ?_
 refine sv 8 (.int .i64 2) ?_
 refine sv 4 (.int .i64 2) ?_
 refine za0 ?_
 show Code.rounds _ _ _ _ _ _
 show Code.wp _ _ _ _ _
 refine wp_seq_k (fun aH ah=>?_)
 refine wp_seq_k (fun aE aj=>?_)
 refine rg [0,1] ?_
 refine sv 5 (.int .i64 2) ?_
 refine sv 6 (.bool true) ?_
 refine za0 ?_
 refine aj _ _ ?_
 try clear aj aE
 refine wp_cond_true rfl ?_
 refine wp_skip ?_
 refine ah _ _ ?_
 try clear ah aH
 refine wp_seq_k (fun ax aq=>?_)
 refine wp_block ?_
 refine rg [0,1,2,3,4,5,6] ?_
 refine sv 9 (.int .i64 ((Int.gcd ((Int.gcd (0:Int) (((qq0).natAbs:Int)):Int)) (((qq1).natAbs:Int)):Int))) ?_
 refine sv 10 (.int .i64 2) ?_
 refine sv 11 (.pointer (some ⟨b2,2,none⟩)) ?_
 replace L2:=L2.gr (ab.trans au)
 refine sw 12 (.int .i64 (qq2)) rfl (rk 3 2 L2) ?_
 refine se ?_
 refine ec 13 (zX3 (qq2) (by omega) _) ?_
 rintro aM aQ ⟨rfl,ad⟩
 refine ⟨_,rfl,?_⟩
 replace hB:=hB.trans ad
 simp only [p3,p4]
 refine se ?_
 refine ec 14 (yi8 ((Int.gcd ((Int.gcd (0:Int) (((qq0).natAbs:Int)):Int)) (((qq1).natAbs:Int)):Int)) (((qq2).natAbs:Int)) (by omega) (by omega) _) ?_
 rintro aY aJ ⟨rfl,ak⟩
 refine ⟨_,rfl,?_⟩
 replace hB:=hB.trans ak
 simp only [p3,p4]
 refine sv 3 (.int .i64 ((Int.gcd ((Int.gcd ((Int.gcd (0:Int) (((qq0).natAbs:Int)):Int)) (((qq1).natAbs:Int)):Int)) (((qq2).natAbs:Int)):Int))) ?_
 refine za0 ?_
 refine aq _ _ ?_
 try clear aq ax
 refine rg [0,1,2] ?_
 refine sv 7 (.int .i64 2) ?_
 refine sv 8 (.int .i64 3) ?_
 refine sv 4 (.int .i64 3) ?_
 refine za0 ?_
 show Code.rounds _ _ _ _ _ _
 show Code.wp _ _ _ _ _
 refine wp_seq_k (fun aF af=>?_)
 refine wp_seq_k (fun aw ar=>?_)
 refine rg [0,1] ?_
 refine sv 5 (.int .i64 3) ?_
 refine sv 6 (.bool true) ?_
 refine za0 ?_
 refine ar _ _ ?_
 try clear ar aw
 refine wp_cond_true rfl ?_
 refine wp_skip ?_
 refine af _ _ ?_
 try clear af aF
 refine wp_seq_k (fun aC ai=>?_)
 refine wp_block ?_
 refine rg [0,1,2,3,4,5,6] ?_
 refine sv 9 (.int .i64 ((Int.gcd ((Int.gcd ((Int.gcd (0:Int) (((qq0).natAbs:Int)):Int)) (((qq1).natAbs:Int)):Int)) (((qq2).natAbs:Int)):Int))) ?_
 refine sv 10 (.int .i64 3) ?_
 refine sv 11 (.pointer (some ⟨b2,3,none⟩)) ?_
 replace L2:=L2.gr (ad.trans ak)
 refine sw 12 (.int .i64 (qq3)) rfl (rk 3 3 L2) ?_
 refine se ?_
 refine ec 13 (zX3 (qq3) (by omega) _) ?_
 rintro aN aW ⟨rfl,aB⟩
 refine ⟨_,rfl,?_⟩
 replace hB:=hB.trans aB
 simp only [p3,p4]
 refine se ?_
 refine ec 14 (yi8 ((Int.gcd ((Int.gcd ((Int.gcd (0:Int) (((qq0).natAbs:Int)):Int)) (((qq1).natAbs:Int)):Int)) (((qq2).natAbs:Int)):Int)) (((qq3).natAbs:Int)) (by omega) (by omega) _) ?_
 rintro aV aP ⟨rfl,az⟩
 refine ⟨_,rfl,?_⟩
 replace hB:=hB.trans az
 simp only [p3,p4]
 refine sv 3 (.int .i64 ((Int.gcd ((Int.gcd ((Int.gcd ((Int.gcd (0:Int) (((qq0).natAbs:Int)):Int)) (((qq1).natAbs:Int)):Int)) (((qq2).natAbs:Int)):Int)) (((qq3).natAbs:Int)):Int))) ?_
 refine za0 ?_
 refine ai _ _ ?_
 try clear ai aC
 refine rg [0,1,2] ?_
 refine sv 7 (.int .i64 3) ?_
 refine sv 8 (.int .i64 4) ?_
 refine sv 4 (.int .i64 4) ?_
 refine za0 ?_
 show Code.rounds _ _ _ _ _ _
 show Code.wp _ _ _ _ _
 refine wp_seq_k (fun aL aS=>?_)
 refine wp_seq_k (fun aD av=>?_)
 refine rg [0,1] ?_
 refine sv 5 (.int .i64 4) ?_
 refine sv 6 (.bool false) ?_
 refine za0 ?_
 refine av _ _ ?_
 try clear av aD
 refine wp_cond_false rfl ?_
 refine wp_exit ?_
 simp only [Exit.then,Exit.inBlock,↓reduceIte]
 refine k4 _ _ ?_
 try clear k4 K4
 refine wp_seq_k (fun aG ae=>?_)
 refine rg [0,1] ?_
 refine sv 15 (.int .i64 ((Int.gcd ((Int.gcd ((Int.gcd ((Int.gcd (0:Int) (((qq0).natAbs:Int)):Int)) (((qq1).natAbs:Int)):Int)) (((qq2).natAbs:Int)):Int)) (((qq3).natAbs:Int)):Int))) ?_
 refine sv 2 (.int .i64 ((Int.gcd ((Int.gcd ((Int.gcd ((Int.gcd (0:Int) (((qq0).natAbs:Int)):Int)) (((qq1).natAbs:Int)):Int)) (((qq2).natAbs:Int)):Int)) (((qq3).natAbs:Int)):Int))) ?_
 refine za0 ?_
 refine ae _ _ ?_
 try clear ae aG
 refine wp_ret ?_
 refine bodyPost_ret (v:=(.int .i64 ((Int.gcd ((Int.gcd ((Int.gcd ((Int.gcd (0:Int) (((qq0).natAbs:Int)):Int)) (((qq1).natAbs:Int)):Int)) (((qq2).natAbs:Int)):Int)) (((qq3).natAbs:Int)):Int)))) (zb0 rfl rfl) rfl ⟨?_,hB⟩
 exact (congrArg (fun z=>Ending.returned (.int .i64 z)) zY3)

set_option maxRecDepth 100000 in
set_option maxHeartbeats 1000000 in
theorem zw0 (qq0 qq1 qq2 qq3:Int) (w:World):
    Calls Tryz.prog 55 #[(.agg #[(.int .i64 (qq0)),(.int .i64 (qq1)),(.int .i64 (qq2)),(.int .i64 (qq3))])] w fun e w'=>e=.returned (.bool (decide (qsgn qq0 qq1 qq2 qq3=1)))∧Gr w w':=by
 go_enter Tryz.func55,Tryz.ntmps55
 have hB:=Gr.refl w
 refine wp_seq_k (fun K1 k1=>?_)
 refine rg [0,1] ?_
 refine se ?_
 refine eb 22 #[(.int .i64 (qq0)),(.int .i64 (qq1)),(.int .i64 (qq2)),(.int .i64 (qq3))] 1 hB fun b2 w2 g2 L2 o2 q2 hB=>?_
 simp only [p3,p4]
 refine sv 2 (.bool false) ?_
 refine za0 ?_
 refine k1 _ _ ?_
 try clear k1 K1
 refine wp_seq_k (fun K3 k3=>?_)
 refine wp_seq_k (fun K4 k4=>?_)
 refine rg [0] ?_
 refine sv 3 (.int .i64 0) ?_
 refine za0 ?_
 refine k4 _ _ ?_
 try clear k4 K4
 refine wp_block ?_
 refine wp_loop_rounds 6 ?_
 show Code.wp _ _ _ _ _
 refine wp_seq_k (fun K5 k5=>?_)
 refine wp_seq_k (fun K6 k6=>?_)
 refine rg [0,1] ?_
 refine sv 4 (.int .i64 0) ?_
 refine sv 5 (.bool true) ?_
 refine za0 ?_
 refine k6 _ _ ?_
 try clear k6 K6
 refine wp_cond_true rfl ?_
 refine wp_skip ?_
 refine k5 _ _ ?_
 try clear k5 K5
 refine wp_seq_k (fun K7 k7=>?_)
 refine wp_block ?_
 refine wp_seq_k (fun K8 k8=>?_)
 refine rg [0,1,2,3] ?_
 refine sv 8 (.int .i64 0) ?_
 refine sv 9 (.pointer (some ⟨b2,0,none⟩)) ?_
 refine sw 10 (.int .i64 (qq0)) rfl (rk 3 0 L2) ?_
 refine sv 11 (.bool ((qq0 !=(0:Int)))) ?_
 refine za0 ?_
 refine k8 _ _ ?_
 try clear k8 K8
 refine wp_cond_split (t:=(qq0 !=(0:Int))) rfl (fun ad=>?_) (fun ad=>?_)
 ·refine wp_seq_k (fun aS az=>?_)
  refine rg [0,1,2,3,4] ?_
  refine sv 12 (.int .i64 0) ?_
  refine sv 13 (.pointer (some ⟨b2,0,none⟩)) ?_
  refine sw 14 (.int .i64 (qq0)) rfl (rk 3 0 L2) ?_
  refine sv 15 (.bool (decide ((0:Int)<qq0))) ?_
  refine sv 2 (.bool (decide ((0:Int)<qq0))) ?_
  refine za0 ?_
  refine az _ _ ?_
  try clear az aS
  refine wp_ret ?_
  simp only [Exit.then,Exit.inBlock]
  refine bodyPost_ret (v:=(.bool (decide ((0:Int)<qq0)))) (zb0 rfl rfl) rfl ⟨?_,hB⟩
  exact (congrArg (fun z=>Ending.returned (.bool z)) (posq0 ad))
 ·refine wp_skip ?_
  refine k7 _ _ ?_
  try clear k7 K7
  refine rg [0,1,2] ?_
  refine sv 6 (.int .i64 0) ?_
  refine sv 7 (.int .i64 1) ?_
  refine sv 3 (.int .i64 1) ?_
  refine za0 ?_
  show Code.rounds _ _ _ _ _ _
  show Code.wp _ _ _ _ _
  refine wp_seq_k (fun aP ak=>?_)
  refine wp_seq_k (fun aR ar=>?_)
  refine rg [0,1] ?_
  refine sv 4 (.int .i64 1) ?_
  refine sv 5 (.bool true) ?_
  refine za0 ?_
  refine ar _ _ ?_
  try clear ar aR
  refine wp_cond_true rfl ?_
  refine wp_skip ?_
  refine ak _ _ ?_
  try clear ak aP
  refine wp_seq_k (fun aL ah=>?_)
  refine wp_block ?_
  refine wp_seq_k (fun aT ax=>?_)
  refine rg [0,1,2,3] ?_
  refine sv 8 (.int .i64 1) ?_
  refine sv 9 (.pointer (some ⟨b2,1,none⟩)) ?_
  refine sw 10 (.int .i64 (qq1)) rfl (rk 3 1 L2) ?_
  refine sv 11 (.bool ((qq1 !=(0:Int)))) ?_
  refine za0 ?_
  refine ax _ _ ?_
  try clear ax aT
  refine wp_cond_split (t:=(qq1 !=(0:Int))) rfl (fun aa=>?_) (fun aa=>?_)
  ·refine wp_seq_k (fun aO aw=>?_)
   refine rg [0,1,2,3,4] ?_
   refine sv 12 (.int .i64 1) ?_
   refine sv 13 (.pointer (some ⟨b2,1,none⟩)) ?_
   refine sw 14 (.int .i64 (qq1)) rfl (rk 3 1 L2) ?_
   refine sv 15 (.bool (decide ((0:Int)<qq1))) ?_
   refine sv 2 (.bool (decide ((0:Int)<qq1))) ?_
   refine za0 ?_
   refine aw _ _ ?_
   try clear aw aO
   refine wp_ret ?_
   simp only [Exit.then,Exit.inBlock]
   refine bodyPost_ret (v:=(.bool (decide ((0:Int)<qq1)))) (zb0 rfl rfl) rfl ⟨?_,hB⟩
   exact (congrArg (fun z=>Ending.returned (.bool z)) (posq1 ad aa))
  ·refine wp_skip ?_
   refine ah _ _ ?_
   try clear ah aL
   refine rg [0,1,2] ?_
   refine sv 6 (.int .i64 1) ?_
   refine sv 7 (.int .i64 2) ?_
   refine sv 3 (.int .i64 2) ?_
   refine za0 ?_
   show Code.rounds _ _ _ _ _ _
   show Code.wp _ _ _ _ _
   refine wp_seq_k (fun aF af=>?_)
   refine wp_seq_k (fun aI au=>?_)
   refine rg [0,1] ?_
   refine sv 4 (.int .i64 2) ?_
   refine sv 5 (.bool true) ?_
   refine za0 ?_
   refine au _ _ ?_
   try clear au aI
   refine wp_cond_true rfl ?_
   refine wp_skip ?_
   refine af _ _ ?_
   try clear af aF
   refine wp_seq_k (fun aH aj=>?_)
   refine wp_block ?_
   refine wp_seq_k (fun aG ay=>?_)
   refine rg [0,1,2,3] ?_
   refine sv 8 (.int .i64 2) ?_
   refine sv 9 (.pointer (some ⟨b2,2,none⟩)) ?_
   refine sw 10 (.int .i64 (qq2)) rfl (rk 3 2 L2) ?_
   refine sv 11 (.bool ((qq2 !=(0:Int)))) ?_
   refine za0 ?_
   refine ay _ _ ?_
   try clear ay aG
   refine wp_cond_split (t:=(qq2 !=(0:Int))) rfl (fun ab=>?_) (fun ab=>?_)
   ·refine wp_seq_k (fun aD av=>?_)
    refine rg [0,1,2,3,4] ?_
    refine sv 12 (.int .i64 2) ?_
    refine sv 13 (.pointer (some ⟨b2,2,none⟩)) ?_
    refine sw 14 (.int .i64 (qq2)) rfl (rk 3 2 L2) ?_
    refine sv 15 (.bool (decide ((0:Int)<qq2))) ?_
    refine sv 2 (.bool (decide ((0:Int)<qq2))) ?_
    refine za0 ?_
    refine av _ _ ?_
    try clear av aD
    refine wp_ret ?_
    simp only [Exit.then,Exit.inBlock]
    refine bodyPost_ret (v:=(.bool (decide ((0:Int)<qq2)))) (zb0 rfl rfl) rfl ⟨?_,hB⟩
    exact (congrArg (fun z=>Ending.returned (.bool z)) (posq2 ad aa ab))
   ·refine wp_skip ?_
    refine aj _ _ ?_
    try clear aj aH
    refine rg [0,1,2] ?_
    refine sv 6 (.int .i64 2) ?_
    refine sv 7 (.int .i64 3) ?_
    refine sv 3 (.int .i64 3) ?_
    refine za0 ?_
    show Code.rounds _ _ _ _ _ _
    show Code.wp _ _ _ _ _
    refine wp_seq_k (fun aC ae=>?_)
    refine wp_seq_k (fun aQ ai=>?_)
    refine rg [0,1] ?_
    refine sv 4 (.int .i64 3) ?_
    refine sv 5 (.bool true) ?_
    refine za0 ?_
    refine ai _ _ ?_
    try clear ai aQ
    refine wp_cond_true rfl ?_
    refine wp_skip ?_
    refine ae _ _ ?_
    try clear ae aC
    refine wp_seq_k (fun aE ap=>?_)
    refine wp_block ?_
    refine wp_seq_k (fun aK al=>?_)
    refine rg [0,1,2,3] ?_
    refine sv 8 (.int .i64 3) ?_
    refine sv 9 (.pointer (some ⟨b2,3,none⟩)) ?_
    refine sw 10 (.int .i64 (qq3)) rfl (rk 3 3 L2) ?_
    refine sv 11 (.bool ((qq3 !=(0:Int)))) ?_
    refine za0 ?_
    refine al _ _ ?_
    try clear al aK
    refine wp_cond_split (t:=(qq3 !=(0:Int))) rfl (fun ac=>?_) (fun ac=>?_)
    ·refine wp_seq_k (fun aM aq=>?_)
     refine rg [0,1,2,3,4] ?_
     refine sv 12 (.int .i64 3) ?_
     refine sv 13 (.pointer (some ⟨b2,3,none⟩)) ?_
     refine sw 14 (.int .i64 (qq3)) rfl (rk 3 3 L2) ?_
     refine sv 15 (.bool (decide ((0:Int)<qq3))) ?_
     refine sv 2 (.bool (decide ((0:Int)<qq3))) ?_
     refine za0 ?_
     refine aq _ _ ?_
     try clear aq aM
     refine wp_ret ?_
     simp only [Exit.then,Exit.inBlock]
     refine bodyPost_ret (v:=(.bool (decide ((0:Int)<qq3)))) (zb0 rfl rfl) rfl ⟨?_,hB⟩
     exact (congrArg (fun z=>Ending.returned (.bool z)) (posq3 ad aa ab ac))
    ·refine wp_skip ?_
     refine ap _ _ ?_
     try clear ap aE
     refine rg [0,1,2] ?_
     refine sv 6 (.int .i64 3) ?_
     refine sv 7 (.int .i64 4) ?_
     refine sv 3 (.int .i64 4) ?_
     refine za0 ?_
     show Code.rounds _ _ _ _ _ _
     show Code.wp _ _ _ _ _
     refine wp_seq_k (fun aU aV=>?_)
     refine wp_seq_k (fun aN aA=>?_)
     refine rg [0,1] ?_
     refine sv 4 (.int .i64 4) ?_
     refine sv 5 (.bool false) ?_
     refine za0 ?_
     refine aA _ _ ?_
     try clear aA aN
     refine wp_cond_false rfl ?_
     refine wp_exit ?_
     simp only [Exit.then,Exit.inBlock,↓reduceIte]
     refine k3 _ _ ?_
     try clear k3 K3
     refine wp_seq_k (fun aJ aB=>?_)
     refine rg [0] ?_
     refine sv 2 (.bool false) ?_
     refine za0 ?_
     refine aB _ _ ?_
     try clear aB aJ
     refine wp_ret ?_
     refine bodyPost_ret (v:=(.bool false)) (zb0 rfl rfl) rfl ⟨?_,hB⟩
     exact (congrArg (fun z=>Ending.returned (.bool z)) (posq4 ad aa ab ac))

set_option maxRecDepth 100000 in
set_option maxHeartbeats 1000000 in
theorem yv3 (qq0 qq1 qq2 qq3:Int) (j0:-1099511627776≤qq0∧qq0≤1099511627776) (j1:-1099511627776≤qq1∧qq1≤1099511627776) (j2:-1099511627776≤qq2∧qq2≤1099511627776) (j3:-1099511627776≤qq3∧qq3≤1099511627776) (hn:¬(qq0=0∧qq1=0∧qq2=0∧qq3=0)) (hs:qsgn qq0 qq1 qq2 qq3=1) (w:World):
    Calls Tryz.prog 66 #[(.agg #[(.int .i64 (qq0)),(.int .i64 (qq1)),(.int .i64 (qq2)),(.int .i64 (qq3))])] w fun e w'=>e=.returned (.agg #[.int .i64 (za2 qq0 qq1 qq2 qq3 qq0),.int .i64 (za2 qq0 qq1 qq2 qq3 qq1),.int .i64 (za2 qq0 qq1 qq2 qq3 qq2),.int .i64 (za2 qq0 qq1 qq2 qq3 qq3)])∧Gr w w':=by
 have hsb:decide (qsgn qq0 qq1 qq2 qq3=1)=true:=by rw [hs];rfl
 have hd:=zl3 qq0 qq1 qq2 qq3
 have hgp:=zy7 hn
 have a4:=zf7 (n:=qq0) hn
 have aW:=zf7 (n:=qq1) hn
 have aV:=zf7 (n:=qq2) hn
 have a2:=zf7 (n:=qq3) hn
 have hgm:qgcd qq0 qq1 qq2 qq3≤1099511627776:=by
    have h1:=hd.1;have h2:=hd.2.1;have h3:=hd.2.2.1;have h4:=hd.2.2.2
    have le:∀ x:Int,x≠0→-1099511627776≤x∧x≤1099511627776→qgcd qq0 qq1 qq2 qq3∣x→qgcd qq0 qq1 qq2 qq3≤1099511627776:=by
      intro x hx hb hdx
      have:=Nat.le_of_dvd (by omega) (Int.natAbs_dvd_natAbs.2 hdx)
      omega
    by_cases z0:qq0=0
    · by_cases z1:qq1=0
      · by_cases z2:qq2=0
        · exact le qq3 (fun z3=>hn ⟨z0,z1,z2,z3⟩) j3 h4
        · exact le qq2 z2 j2 h3
      · exact le qq1 z1 j1 h2
    · exact le qq0 z0 j0 h1
 go_enter Tryz.func66,Tryz.ntmps66
 have hB:=Gr.refl w
 refine wp_seq_k (fun K1 k1=>?_)
 refine rg [0,1] ?_
 refine se ?_
 refine eb 22 #[(.int .i64 (qq0)),(.int .i64 (qq1)),(.int .i64 (qq2)),(.int .i64 (qq3))] 1 hB fun b2 w2 g2 L2 o2 q2 hB=>?_
 simp only [p3,p4]
 refine se ?_
 refine ea 22 #[.int .i64 0,.int .i64 0,.int .i64 0,.int .i64 0] 2 hB fun b3 w3 g3 L3 o3 q3 hB=>?_
 have aa:=L2.ne o3
 simp only [p3,p4]
 refine za0 ?_
 refine k1 _ _ ?_
 try clear k1 K1
 refine wp_seq_k (fun K4 k4=>?_)
 refine rg [0,1,2] ?_
 replace L2:=L2.gr g3
 refine sw 5 (.agg #[(.int .i64 (qq0)),(.int .i64 (qq1)),(.int .i64 (qq2)),(.int .i64 (qq3))]) rfl (rl 22 0 [(.int .i64 (qq0)),(.int .i64 (qq1)),(.int .i64 (qq2)),(.int .i64 (qq3))] L2) ?_
 refine se ?_
 refine ec 6 (zI4 qq0 qq1 qq2 qq3 (by omega) (by omega) (by omega) (by omega) _) ?_
 rintro e5 w5 ⟨rfl,g5⟩
 refine ⟨_,rfl,?_⟩
 replace hB:=hB.trans g5
 simp only [p3,p4]
 refine sv 3 (.int .i64 (qgcd qq0 qq1 qq2 qq3)) ?_
 refine za0 ?_
 refine k4 _ _ ?_
 try clear k4 K4
 refine wp_seq_k (fun K6 k6=>?_)
 refine wp_seq_k (fun K7 k7=>?_)
 refine rg [0,1,2] ?_
 replace L2:=L2.gr g5
 refine sw 7 (.agg #[(.int .i64 (qq0)),(.int .i64 (qq1)),(.int .i64 (qq2)),(.int .i64 (qq3))]) rfl (rl 22 0 [(.int .i64 (qq0)),(.int .i64 (qq1)),(.int .i64 (qq2)),(.int .i64 (qq3))] L2) ?_
 refine se ?_
 refine ec 8 (zw0 qq0 qq1 qq2 qq3 _) ?_
 rintro e8 w8 ⟨rfl,g8⟩
 refine ⟨_,rfl,?_⟩
 replace hB:=hB.trans g8
 simp only [p3,p4]
 refine sw 9 (.bool false) rfl (RunV.bool (x:=!(decide (qsgn qq0 qq1 qq2 qq3=1))) (rvk (by kernel_rfl)) (show (!(decide (qsgn qq0 qq1 qq2 qq3=1)))=false by rw [hsb];rfl)) ?_
 refine za0 ?_
 refine k7 _ _ ?_
 try clear k7 K7
 refine wp_cond_false rfl ?_
 refine wp_skip ?_
 refine k6 _ _ ?_
 try clear k6 K6
 refine wp_seq_k (fun K9 k9=>?_)
 refine wp_seq_k (fun aI au=>?_)
 refine rg [0] ?_
 refine sv 4 (.int .i64 0) ?_
 refine za0 ?_
 refine au _ _ ?_
 try clear au aI
 refine wp_block ?_
 refine wp_loop_rounds 6 ?_
 show Code.wp _ _ _ _ _
 refine wp_seq_k (fun aR ai=>?_)
 refine wp_seq_k (fun aH ay=>?_)
 refine rg [0,1] ?_
 refine sv 12 (.int .i64 0) ?_
 refine sv 13 (.bool true) ?_
 refine za0 ?_
 refine ay _ _ ?_
 try clear ay aH
 refine wp_cond_true rfl ?_
 refine wp_skip ?_
 refine ai _ _ ?_
 try clear ai aR
 refine wp_seq_k (fun aF af=>?_)
 refine wp_block ?_
 refine rg [0,1,2,3,4,5,6,7] ?_
 refine sv 16 (.int .i64 0) ?_
 refine sv 17 (.int .i64 0) ?_
 refine sv 18 (.pointer (some ⟨b2,0,none⟩)) ?_
 replace L2:=L2.gr g8
 refine sw 19 (.int .i64 (qq0)) rfl (rk 3 0 L2) ?_
 refine sv 20 (.int .i64 (qgcd qq0 qq1 qq2 qq3)) ?_
 refine sw 21 (.int .i64 (za2 qq0 qq1 qq2 qq3 qq0)) rfl (zr9 3 3 _ _ qq0 (qgcd qq0 qq1 qq2 qq3) (za2 qq0 qq1 qq2 qq3 qq0) rfl rfl rfl (zS5 hn hd.1 hs) (by omega) (by omega) (by omega)) ?_
 refine sv 22 (.pointer (some ⟨b2,0,none⟩)) ?_
 refine se ?_
 refine es 3 0 (.int .i64 (za2 qq0 qq1 qq2 qq3 qq0)) [(.int .i64 (za2 qq0 qq1 qq2 qq3 qq0))] #[(.int .i64 (za2 qq0 qq1 qq2 qq3 qq0)),(.int .i64 (qq1)),(.int .i64 (qq2)),(.int .i64 (qq3))] L2 hB q2 ⟨rfl,trivial⟩ fun aX ad aJ L2 hB=>?_
 refine za0 ?_
 refine af _ _ ?_
 try clear af aF
 refine rg [0,1,2] ?_
 refine sv 14 (.int .i64 0) ?_
 refine sv 15 (.int .i64 1) ?_
 refine sv 4 (.int .i64 1) ?_
 refine za0 ?_
 show Code.rounds _ _ _ _ _ _
 show Code.wp _ _ _ _ _
 refine wp_seq_k (fun aB az=>?_)
 refine wp_seq_k (fun aQ ap=>?_)
 refine rg [0,1] ?_
 refine sv 12 (.int .i64 1) ?_
 refine sv 13 (.bool true) ?_
 refine za0 ?_
 refine ap _ _ ?_
 try clear ap aQ
 refine wp_cond_true rfl ?_
 refine wp_skip ?_
 refine az _ _ ?_
 try clear az aB
 refine wp_seq_k (fun aN aw=>?_)
 refine wp_block ?_
 refine rg [0,1,2,3,4,5,6,7] ?_
 refine sv 16 (.int .i64 1) ?_
 refine sv 17 (.int .i64 1) ?_
 refine sv 18 (.pointer (some ⟨b2,1,none⟩)) ?_
 refine sw 19 (.int .i64 (qq1)) rfl (rk 3 1 L2) ?_
 refine sv 20 (.int .i64 (qgcd qq0 qq1 qq2 qq3)) ?_
 refine sw 21 (.int .i64 (za2 qq0 qq1 qq2 qq3 qq1)) rfl (zr9 3 3 _ _ qq1 (qgcd qq0 qq1 qq2 qq3) (za2 qq0 qq1 qq2 qq3 qq1) rfl rfl rfl (zS5 hn hd.2.1 hs) (by omega) (by omega) (by omega)) ?_
 refine sv 22 (.pointer (some ⟨b2,1,none⟩)) ?_
 refine se ?_
 refine es 3 1 (.int .i64 (za2 qq0 qq1 qq2 qq3 qq1)) [(.int .i64 (za2 qq0 qq1 qq2 qq3 qq1))] #[(.int .i64 (za2 qq0 qq1 qq2 qq3 qq0)),(.int .i64 (za2 qq0 qq1 qq2 qq3 qq1)),(.int .i64 (qq2)),(.int .i64 (qq3))] L2 hB q2 ⟨rfl,trivial⟩ fun aY ac aG L2 hB=>?_
 refine za0 ?_
 refine aw _ _ ?_
 try clear aw aN
 refine rg [0,1,2] ?_
 refine sv 14 (.int .i64 1) ?_
 refine sv 15 (.int .i64 2) ?_
 refine sv 4 (.int .i64 2) ?_
 refine za0 ?_
 show Code.rounds _ _ _ _ _ _
 show Code.wp _ _ _ _ _
 refine wp_seq_k (fun aD ah=>?_)
 refine wp_seq_k (fun aC aq=>?_)
 refine rg [0,1] ?_
 refine sv 12 (.int .i64 2) ?_
 refine sv 13 (.bool true) ?_
 refine za0 ?_
 refine aq _ _ ?_
 try clear aq aC
 refine wp_cond_true rfl ?_
 refine wp_skip ?_
 refine ah _ _ ?_
 try clear ah aD
 refine wp_seq_k (fun aO al=>?_)
 refine wp_block ?_
 refine rg [0,1,2,3,4,5,6,7] ?_
 refine sv 16 (.int .i64 2) ?_
 refine sv 17 (.int .i64 2) ?_
 refine sv 18 (.pointer (some ⟨b2,2,none⟩)) ?_
 refine sw 19 (.int .i64 (qq2)) rfl (rk 3 2 L2) ?_
 refine sv 20 (.int .i64 (qgcd qq0 qq1 qq2 qq3)) ?_
 refine sw 21 (.int .i64 (za2 qq0 qq1 qq2 qq3 qq2)) rfl (zr9 3 3 _ _ qq2 (qgcd qq0 qq1 qq2 qq3) (za2 qq0 qq1 qq2 qq3 qq2) rfl rfl rfl (zS5 hn hd.2.2.1 hs) (by omega) (by omega) (by omega)) ?_
 refine sv 22 (.pointer (some ⟨b2,2,none⟩)) ?_
 refine se ?_
 refine es 3 2 (.int .i64 (za2 qq0 qq1 qq2 qq3 qq2)) [(.int .i64 (za2 qq0 qq1 qq2 qq3 qq2))] #[(.int .i64 (za2 qq0 qq1 qq2 qq3 qq0)),(.int .i64 (za2 qq0 qq1 qq2 qq3 qq1)),(.int .i64 (za2 qq0 qq1 qq2 qq3 qq2)),(.int .i64 (qq3))] L2 hB q2 ⟨rfl,trivial⟩ fun aZ ab aU L2 hB=>?_
 refine za0 ?_
 refine al _ _ ?_
 try clear al aO
 refine rg [0,1,2] ?_
 refine sv 14 (.int .i64 2) ?_
 refine sv 15 (.int .i64 3) ?_
 refine sv 4 (.int .i64 3) ?_
 refine za0 ?_
 show Code.rounds _ _ _ _ _ _
 show Code.wp _ _ _ _ _
 refine wp_seq_k (fun aL av=>?_)
 refine wp_seq_k (fun aS ax=>?_)
 refine rg [0,1] ?_
 refine sv 12 (.int .i64 3) ?_
 refine sv 13 (.bool true) ?_
 refine za0 ?_
 refine ax _ _ ?_
 try clear ax aS
 refine wp_cond_true rfl ?_
 refine wp_skip ?_
 refine av _ _ ?_
 try clear av aL
 refine wp_seq_k (fun aM aj=>?_)
 refine wp_block ?_
 refine rg [0,1,2,3,4,5,6,7] ?_
 refine sv 16 (.int .i64 3) ?_
 refine sv 17 (.int .i64 3) ?_
 refine sv 18 (.pointer (some ⟨b2,3,none⟩)) ?_
 refine sw 19 (.int .i64 (qq3)) rfl (rk 3 3 L2) ?_
 refine sv 20 (.int .i64 (qgcd qq0 qq1 qq2 qq3)) ?_
 refine sw 21 (.int .i64 (za2 qq0 qq1 qq2 qq3 qq3)) rfl (zr9 3 3 _ _ qq3 (qgcd qq0 qq1 qq2 qq3) (za2 qq0 qq1 qq2 qq3 qq3) rfl rfl rfl (zS5 hn hd.2.2.2 hs) (by omega) (by omega) (by omega)) ?_
 refine sv 22 (.pointer (some ⟨b2,3,none⟩)) ?_
 refine se ?_
 refine es 3 3 (.int .i64 (za2 qq0 qq1 qq2 qq3 qq3)) [(.int .i64 (za2 qq0 qq1 qq2 qq3 qq3))] #[(.int .i64 (za2 qq0 qq1 qq2 qq3 qq0)),(.int .i64 (za2 qq0 qq1 qq2 qq3 qq1)),(.int .i64 (za2 qq0 qq1 qq2 qq3 qq2)),(.int .i64 (za2 qq0 qq1 qq2 qq3 qq3))] L2 hB q2 ⟨rfl,trivial⟩ fun a3 ae aK L2 hB=>?_
 refine za0 ?_
 refine aj _ _ ?_
 try clear aj aM
 refine rg [0,1,2] ?_
 refine sv 14 (.int .i64 3) ?_
 refine sv 15 (.int .i64 4) ?_
 refine sv 4 (.int .i64 4) ?_
 refine za0 ?_
 show Code.rounds _ _ _ _ _ _
 show Code.wp _ _ _ _ _
 refine wp_seq_k (fun a1 a5=>?_)
 refine wp_seq_k (fun aP ak=>?_)
 refine rg [0,1] ?_
 refine sv 12 (.int .i64 4) ?_
 refine sv 13 (.bool false) ?_
 refine za0 ?_
 refine ak _ _ ?_
 try clear ak aP
 refine wp_cond_false rfl ?_
 refine wp_exit ?_
 simp only [Exit.then,Exit.inBlock,↓reduceIte]
 refine k9 _ _ ?_
 try clear k9 K9
 refine wp_seq_k (fun aA ar=>?_)
 refine rg [0,1] ?_
 refine sw 23 (.agg #[(.int .i64 (za2 qq0 qq1 qq2 qq3 qq0)),(.int .i64 (za2 qq0 qq1 qq2 qq3 qq1)),(.int .i64 (za2 qq0 qq1 qq2 qq3 qq2)),(.int .i64 (za2 qq0 qq1 qq2 qq3 qq3))]) rfl (rl 22 0 [(.int .i64 (za2 qq0 qq1 qq2 qq3 qq0)),(.int .i64 (za2 qq0 qq1 qq2 qq3 qq1)),(.int .i64 (za2 qq0 qq1 qq2 qq3 qq2)),(.int .i64 (za2 qq0 qq1 qq2 qq3 qq3))] L2) ?_
 refine se ?_
 replace L3:=ae.lc (ab.lc (ac.lc (ad.lc (L3.gr (g5.trans g8)) (Ne.symm aa)) (Ne.symm aa)) (Ne.symm aa)) (Ne.symm aa)
 refine es 22 0 (.agg #[(.int .i64 (za2 qq0 qq1 qq2 qq3 qq0)),(.int .i64 (za2 qq0 qq1 qq2 qq3 qq1)),(.int .i64 (za2 qq0 qq1 qq2 qq3 qq2)),(.int .i64 (za2 qq0 qq1 qq2 qq3 qq3))]) [(.int .i64 (za2 qq0 qq1 qq2 qq3 qq0)),(.int .i64 (za2 qq0 qq1 qq2 qq3 qq1)),(.int .i64 (za2 qq0 qq1 qq2 qq3 qq2)),(.int .i64 (za2 qq0 qq1 qq2 qq3 qq3))] #[(.int .i64 (za2 qq0 qq1 qq2 qq3 qq0)),(.int .i64 (za2 qq0 qq1 qq2 qq3 qq1)),(.int .i64 (za2 qq0 qq1 qq2 qq3 qq2)),(.int .i64 (za2 qq0 qq1 qq2 qq3 qq3))] L3 hB q3 ⟨rfl,rfl,rfl,rfl,trivial⟩ fun a0 aE aT L3 hB=>?_
 refine za0 ?_
 refine ar _ _ ?_
 try clear ar aA
 refine wp_ret ?_
 refine bodyPost_ret (v:=(.agg #[(.int .i64 (za2 qq0 qq1 qq2 qq3 qq0)),(.int .i64 (za2 qq0 qq1 qq2 qq3 qq1)),(.int .i64 (za2 qq0 qq1 qq2 qq3 qq2)),(.int .i64 (za2 qq0 qq1 qq2 qq3 qq3))])) (zb3 _ _ _ rfl rfl L3 (by kernel_rfl)) rfl ⟨?_,hB⟩
 exact rfl

set_option maxRecDepth 100000 in
set_option maxHeartbeats 1000000 in
theorem yv4 (qq0 qq1 qq2 qq3:Int) (j0:-1099511627776≤qq0∧qq0≤1099511627776) (j1:-1099511627776≤qq1∧qq1≤1099511627776) (j2:-1099511627776≤qq2∧qq2≤1099511627776) (j3:-1099511627776≤qq3∧qq3≤1099511627776) (hn:¬(qq0=0∧qq1=0∧qq2=0∧qq3=0)) (hs:qsgn qq0 qq1 qq2 qq3=-1) (w:World):
    Calls Tryz.prog 66 #[(.agg #[(.int .i64 (qq0)),(.int .i64 (qq1)),(.int .i64 (qq2)),(.int .i64 (qq3))])] w fun e w'=>e=.returned (.agg #[.int .i64 (za2 qq0 qq1 qq2 qq3 qq0),.int .i64 (za2 qq0 qq1 qq2 qq3 qq1),.int .i64 (za2 qq0 qq1 qq2 qq3 qq2),.int .i64 (za2 qq0 qq1 qq2 qq3 qq3)])∧Gr w w':=by
 have hsb:decide (qsgn qq0 qq1 qq2 qq3=1)=false:=by rw [hs];rfl
 have hd:=zl3 qq0 qq1 qq2 qq3
 have hgp:=zy7 hn
 have a4:=zf7 (n:=qq0) hn
 have aW:=zf7 (n:=qq1) hn
 have aV:=zf7 (n:=qq2) hn
 have a2:=zf7 (n:=qq3) hn
 have hgm:qgcd qq0 qq1 qq2 qq3≤1099511627776:=by
    have h1:=hd.1;have h2:=hd.2.1;have h3:=hd.2.2.1;have h4:=hd.2.2.2
    have le:∀ x:Int,x≠0→-1099511627776≤x∧x≤1099511627776→qgcd qq0 qq1 qq2 qq3∣x→qgcd qq0 qq1 qq2 qq3≤1099511627776:=by
      intro x hx hb hdx
      have:=Nat.le_of_dvd (by omega) (Int.natAbs_dvd_natAbs.2 hdx)
      omega
    by_cases z0:qq0=0
    · by_cases z1:qq1=0
      · by_cases z2:qq2=0
        · exact le qq3 (fun z3=>hn ⟨z0,z1,z2,z3⟩) j3 h4
        · exact le qq2 z2 j2 h3
      · exact le qq1 z1 j1 h2
    · exact le qq0 z0 j0 h1
 go_enter Tryz.func66,Tryz.ntmps66
 have hB:=Gr.refl w
 refine wp_seq_k (fun K1 k1=>?_)
 refine rg [0,1] ?_
 refine se ?_
 refine eb 22 #[(.int .i64 (qq0)),(.int .i64 (qq1)),(.int .i64 (qq2)),(.int .i64 (qq3))] 1 hB fun b2 w2 g2 L2 o2 q2 hB=>?_
 simp only [p3,p4]
 refine se ?_
 refine ea 22 #[.int .i64 0,.int .i64 0,.int .i64 0,.int .i64 0] 2 hB fun b3 w3 g3 L3 o3 q3 hB=>?_
 have aa:=L2.ne o3
 simp only [p3,p4]
 refine za0 ?_
 refine k1 _ _ ?_
 try clear k1 K1
 refine wp_seq_k (fun K4 k4=>?_)
 refine rg [0,1,2] ?_
 replace L2:=L2.gr g3
 refine sw 5 (.agg #[(.int .i64 (qq0)),(.int .i64 (qq1)),(.int .i64 (qq2)),(.int .i64 (qq3))]) rfl (rl 22 0 [(.int .i64 (qq0)),(.int .i64 (qq1)),(.int .i64 (qq2)),(.int .i64 (qq3))] L2) ?_
 refine se ?_
 refine ec 6 (zI4 qq0 qq1 qq2 qq3 (by omega) (by omega) (by omega) (by omega) _) ?_
 rintro e5 w5 ⟨rfl,g5⟩
 refine ⟨_,rfl,?_⟩
 replace hB:=hB.trans g5
 simp only [p3,p4]
 refine sv 3 (.int .i64 (qgcd qq0 qq1 qq2 qq3)) ?_
 refine za0 ?_
 refine k4 _ _ ?_
 try clear k4 K4
 refine wp_seq_k (fun K6 k6=>?_)
 refine wp_seq_k (fun K7 k7=>?_)
 refine rg [0,1,2] ?_
 replace L2:=L2.gr g5
 refine sw 7 (.agg #[(.int .i64 (qq0)),(.int .i64 (qq1)),(.int .i64 (qq2)),(.int .i64 (qq3))]) rfl (rl 22 0 [(.int .i64 (qq0)),(.int .i64 (qq1)),(.int .i64 (qq2)),(.int .i64 (qq3))] L2) ?_
 refine se ?_
 refine ec 8 (zw0 qq0 qq1 qq2 qq3 _) ?_
 rintro e8 w8 ⟨rfl,g8⟩
 refine ⟨_,rfl,?_⟩
 replace hB:=hB.trans g8
 simp only [p3,p4]
 refine sw 9 (.bool true) rfl (RunV.bool (x:=!(decide (qsgn qq0 qq1 qq2 qq3=1))) (rvk (by kernel_rfl)) (show (!(decide (qsgn qq0 qq1 qq2 qq3=1)))=true by rw [hsb];rfl)) ?_
 refine za0 ?_
 refine k7 _ _ ?_
 try clear k7 K7
 refine wp_cond_true rfl ?_
 refine rg [0,1,2] ?_
 refine sv 10 (.int .i64 (qgcd qq0 qq1 qq2 qq3)) ?_
 refine sw 11 (.int .i64 ((0 - qgcd qq0 qq1 qq2 qq3))) rfl (RunV.int (x:=IntKind.i64.wrap ((0 - qgcd qq0 qq1 qq2 qq3))) (y:=(0 - qgcd qq0 qq1 qq2 qq3)) (rvk (by kernel_rfl)) (by first | rfl | (rw [IntKind.wrap_i64];omega))) ?_
 refine sv 3 (.int .i64 ((0 - qgcd qq0 qq1 qq2 qq3))) ?_
 refine za0 ?_
 refine k6 _ _ ?_
 try clear k6 K6
 refine wp_seq_k (fun K9 k9=>?_)
 refine wp_seq_k (fun aI au=>?_)
 refine rg [0] ?_
 refine sv 4 (.int .i64 0) ?_
 refine za0 ?_
 refine au _ _ ?_
 try clear au aI
 refine wp_block ?_
 refine wp_loop_rounds 6 ?_
 show Code.wp _ _ _ _ _
 refine wp_seq_k (fun aR ai=>?_)
 refine wp_seq_k (fun aH ay=>?_)
 refine rg [0,1] ?_
 refine sv 12 (.int .i64 0) ?_
 refine sv 13 (.bool true) ?_
 refine za0 ?_
 refine ay _ _ ?_
 try clear ay aH
 refine wp_cond_true rfl ?_
 refine wp_skip ?_
 refine ai _ _ ?_
 try clear ai aR
 refine wp_seq_k (fun aF af=>?_)
 refine wp_block ?_
 refine rg [0,1,2,3,4,5,6,7] ?_
 refine sv 16 (.int .i64 0) ?_
 refine sv 17 (.int .i64 0) ?_
 refine sv 18 (.pointer (some ⟨b2,0,none⟩)) ?_
 replace L2:=L2.gr g8
 refine sw 19 (.int .i64 (qq0)) rfl (rk 3 0 L2) ?_
 refine sv 20 (.int .i64 ((0 - qgcd qq0 qq1 qq2 qq3))) ?_
 refine sw 21 (.int .i64 (za2 qq0 qq1 qq2 qq3 qq0)) rfl (zr9 3 3 _ _ qq0 ((0 - qgcd qq0 qq1 qq2 qq3)) (za2 qq0 qq1 qq2 qq3 qq0) rfl rfl rfl (zS6 hn hd.1 hs) (by omega) (by omega) (by omega)) ?_
 refine sv 22 (.pointer (some ⟨b2,0,none⟩)) ?_
 refine se ?_
 refine es 3 0 (.int .i64 (za2 qq0 qq1 qq2 qq3 qq0)) [(.int .i64 (za2 qq0 qq1 qq2 qq3 qq0))] #[(.int .i64 (za2 qq0 qq1 qq2 qq3 qq0)),(.int .i64 (qq1)),(.int .i64 (qq2)),(.int .i64 (qq3))] L2 hB q2 ⟨rfl,trivial⟩ fun aX ad aJ L2 hB=>?_
 refine za0 ?_
 refine af _ _ ?_
 try clear af aF
 refine rg [0,1,2] ?_
 refine sv 14 (.int .i64 0) ?_
 refine sv 15 (.int .i64 1) ?_
 refine sv 4 (.int .i64 1) ?_
 refine za0 ?_
 show Code.rounds _ _ _ _ _ _
 show Code.wp _ _ _ _ _
 refine wp_seq_k (fun aB az=>?_)
 refine wp_seq_k (fun aQ ap=>?_)
 refine rg [0,1] ?_
 refine sv 12 (.int .i64 1) ?_
 refine sv 13 (.bool true) ?_
 refine za0 ?_
 refine ap _ _ ?_
 try clear ap aQ
 refine wp_cond_true rfl ?_
 refine wp_skip ?_
 refine az _ _ ?_
 try clear az aB
 refine wp_seq_k (fun aN aw=>?_)
 refine wp_block ?_
 refine rg [0,1,2,3,4,5,6,7] ?_
 refine sv 16 (.int .i64 1) ?_
 refine sv 17 (.int .i64 1) ?_
 refine sv 18 (.pointer (some ⟨b2,1,none⟩)) ?_
 refine sw 19 (.int .i64 (qq1)) rfl (rk 3 1 L2) ?_
 refine sv 20 (.int .i64 ((0 - qgcd qq0 qq1 qq2 qq3))) ?_
 refine sw 21 (.int .i64 (za2 qq0 qq1 qq2 qq3 qq1)) rfl (zr9 3 3 _ _ qq1 ((0 - qgcd qq0 qq1 qq2 qq3)) (za2 qq0 qq1 qq2 qq3 qq1) rfl rfl rfl (zS6 hn hd.2.1 hs) (by omega) (by omega) (by omega)) ?_
 refine sv 22 (.pointer (some ⟨b2,1,none⟩)) ?_
 refine se ?_
 refine es 3 1 (.int .i64 (za2 qq0 qq1 qq2 qq3 qq1)) [(.int .i64 (za2 qq0 qq1 qq2 qq3 qq1))] #[(.int .i64 (za2 qq0 qq1 qq2 qq3 qq0)),(.int .i64 (za2 qq0 qq1 qq2 qq3 qq1)),(.int .i64 (qq2)),(.int .i64 (qq3))] L2 hB q2 ⟨rfl,trivial⟩ fun aY ac aG L2 hB=>?_
 refine za0 ?_
 refine aw _ _ ?_
 try clear aw aN
 refine rg [0,1,2] ?_
 refine sv 14 (.int .i64 1) ?_
 refine sv 15 (.int .i64 2) ?_
 refine sv 4 (.int .i64 2) ?_
 refine za0 ?_
 show Code.rounds _ _ _ _ _ _
 show Code.wp _ _ _ _ _
 refine wp_seq_k (fun aD ah=>?_)
 refine wp_seq_k (fun aC aq=>?_)
 refine rg [0,1] ?_
 refine sv 12 (.int .i64 2) ?_
 refine sv 13 (.bool true) ?_
 refine za0 ?_
 refine aq _ _ ?_
 try clear aq aC
 refine wp_cond_true rfl ?_
 refine wp_skip ?_
 refine ah _ _ ?_
 try clear ah aD
 refine wp_seq_k (fun aO al=>?_)
 refine wp_block ?_
 refine rg [0,1,2,3,4,5,6,7] ?_
 refine sv 16 (.int .i64 2) ?_
 refine sv 17 (.int .i64 2) ?_
 refine sv 18 (.pointer (some ⟨b2,2,none⟩)) ?_
 refine sw 19 (.int .i64 (qq2)) rfl (rk 3 2 L2) ?_
 refine sv 20 (.int .i64 ((0 - qgcd qq0 qq1 qq2 qq3))) ?_
 refine sw 21 (.int .i64 (za2 qq0 qq1 qq2 qq3 qq2)) rfl (zr9 3 3 _ _ qq2 ((0 - qgcd qq0 qq1 qq2 qq3)) (za2 qq0 qq1 qq2 qq3 qq2) rfl rfl rfl (zS6 hn hd.2.2.1 hs) (by omega) (by omega) (by omega)) ?_
 refine sv 22 (.pointer (some ⟨b2,2,none⟩)) ?_
 refine se ?_
 refine es 3 2 (.int .i64 (za2 qq0 qq1 qq2 qq3 qq2)) [(.int .i64 (za2 qq0 qq1 qq2 qq3 qq2))] #[(.int .i64 (za2 qq0 qq1 qq2 qq3 qq0)),(.int .i64 (za2 qq0 qq1 qq2 qq3 qq1)),(.int .i64 (za2 qq0 qq1 qq2 qq3 qq2)),(.int .i64 (qq3))] L2 hB q2 ⟨rfl,trivial⟩ fun aZ ab aU L2 hB=>?_
 refine za0 ?_
 refine al _ _ ?_
 try clear al aO
 refine rg [0,1,2] ?_
 refine sv 14 (.int .i64 2) ?_
 refine sv 15 (.int .i64 3) ?_
 refine sv 4 (.int .i64 3) ?_
 refine za0 ?_
 show Code.rounds _ _ _ _ _ _
 show Code.wp _ _ _ _ _
 refine wp_seq_k (fun aL av=>?_)
 refine wp_seq_k (fun aS ax=>?_)
 refine rg [0,1] ?_
 refine sv 12 (.int .i64 3) ?_
 refine sv 13 (.bool true) ?_
 refine za0 ?_
 refine ax _ _ ?_
 try clear ax aS
 refine wp_cond_true rfl ?_
 refine wp_skip ?_
 refine av _ _ ?_
 try clear av aL
 refine wp_seq_k (fun aM aj=>?_)
 refine wp_block ?_
 refine rg [0,1,2,3,4,5,6,7] ?_
 refine sv 16 (.int .i64 3) ?_
 refine sv 17 (.int .i64 3) ?_
 refine sv 18 (.pointer (some ⟨b2,3,none⟩)) ?_
 refine sw 19 (.int .i64 (qq3)) rfl (rk 3 3 L2) ?_
 refine sv 20 (.int .i64 ((0 - qgcd qq0 qq1 qq2 qq3))) ?_
 refine sw 21 (.int .i64 (za2 qq0 qq1 qq2 qq3 qq3)) rfl (zr9 3 3 _ _ qq3 ((0 - qgcd qq0 qq1 qq2 qq3)) (za2 qq0 qq1 qq2 qq3 qq3) rfl rfl rfl (zS6 hn hd.2.2.2 hs) (by omega) (by omega) (by omega)) ?_
 refine sv 22 (.pointer (some ⟨b2,3,none⟩)) ?_
 refine se ?_
 refine es 3 3 (.int .i64 (za2 qq0 qq1 qq2 qq3 qq3)) [(.int .i64 (za2 qq0 qq1 qq2 qq3 qq3))] #[(.int .i64 (za2 qq0 qq1 qq2 qq3 qq0)),(.int .i64 (za2 qq0 qq1 qq2 qq3 qq1)),(.int .i64 (za2 qq0 qq1 qq2 qq3 qq2)),(.int .i64 (za2 qq0 qq1 qq2 qq3 qq3))] L2 hB q2 ⟨rfl,trivial⟩ fun a3 ae aK L2 hB=>?_
 refine za0 ?_
 refine aj _ _ ?_
 try clear aj aM
 refine rg [0,1,2] ?_
 refine sv 14 (.int .i64 3) ?_
 refine sv 15 (.int .i64 4) ?_
 refine sv 4 (.int .i64 4) ?_
 refine za0 ?_
 show Code.rounds _ _ _ _ _ _
 show Code.wp _ _ _ _ _
 refine wp_seq_k (fun a1 a5=>?_)
 refine wp_seq_k (fun aP ak=>?_)
 refine rg [0,1] ?_
 refine sv 12 (.int .i64 4) ?_
 refine sv 13 (.bool false) ?_
 refine za0 ?_
 refine ak _ _ ?_
 try clear ak aP
 refine wp_cond_false rfl ?_
 refine wp_exit ?_
 simp only [Exit.then,Exit.inBlock,↓reduceIte]
 refine k9 _ _ ?_
 try clear k9 K9
 refine wp_seq_k (fun aA ar=>?_)
 refine rg [0,1] ?_
 refine sw 23 (.agg #[(.int .i64 (za2 qq0 qq1 qq2 qq3 qq0)),(.int .i64 (za2 qq0 qq1 qq2 qq3 qq1)),(.int .i64 (za2 qq0 qq1 qq2 qq3 qq2)),(.int .i64 (za2 qq0 qq1 qq2 qq3 qq3))]) rfl (rl 22 0 [(.int .i64 (za2 qq0 qq1 qq2 qq3 qq0)),(.int .i64 (za2 qq0 qq1 qq2 qq3 qq1)),(.int .i64 (za2 qq0 qq1 qq2 qq3 qq2)),(.int .i64 (za2 qq0 qq1 qq2 qq3 qq3))] L2) ?_
 refine se ?_
 replace L3:=ae.lc (ab.lc (ac.lc (ad.lc (L3.gr (g5.trans g8)) (Ne.symm aa)) (Ne.symm aa)) (Ne.symm aa)) (Ne.symm aa)
 refine es 22 0 (.agg #[(.int .i64 (za2 qq0 qq1 qq2 qq3 qq0)),(.int .i64 (za2 qq0 qq1 qq2 qq3 qq1)),(.int .i64 (za2 qq0 qq1 qq2 qq3 qq2)),(.int .i64 (za2 qq0 qq1 qq2 qq3 qq3))]) [(.int .i64 (za2 qq0 qq1 qq2 qq3 qq0)),(.int .i64 (za2 qq0 qq1 qq2 qq3 qq1)),(.int .i64 (za2 qq0 qq1 qq2 qq3 qq2)),(.int .i64 (za2 qq0 qq1 qq2 qq3 qq3))] #[(.int .i64 (za2 qq0 qq1 qq2 qq3 qq0)),(.int .i64 (za2 qq0 qq1 qq2 qq3 qq1)),(.int .i64 (za2 qq0 qq1 qq2 qq3 qq2)),(.int .i64 (za2 qq0 qq1 qq2 qq3 qq3))] L3 hB q3 ⟨rfl,rfl,rfl,rfl,trivial⟩ fun a0 aE aT L3 hB=>?_
 refine za0 ?_
 refine ar _ _ ?_
 try clear ar aA
 refine wp_ret ?_
 refine bodyPost_ret (v:=(.agg #[(.int .i64 (za2 qq0 qq1 qq2 qq3 qq0)),(.int .i64 (za2 qq0 qq1 qq2 qq3 qq1)),(.int .i64 (za2 qq0 qq1 qq2 qq3 qq2)),(.int .i64 (za2 qq0 qq1 qq2 qq3 qq3))])) (zb3 _ _ _ rfl rfl L3 (by kernel_rfl)) rfl ⟨?_,hB⟩
 exact rfl

theorem zX4 (qq0 qq1 qq2 qq3:Int) (j0:-1099511627776≤qq0∧qq0≤1099511627776) (j1:-1099511627776≤qq1∧qq1≤1099511627776) (j2:-1099511627776≤qq2∧qq2≤1099511627776) (j3:-1099511627776≤qq3∧qq3≤1099511627776) (hn:¬(qq0=0∧qq1=0∧qq2=0∧qq3=0)) (w:World):
  Calls Tryz.prog 66 #[(.agg #[(.int .i64 (qq0)),(.int .i64 (qq1)),(.int .i64 (qq2)),(.int .i64 (qq3))])] w fun e w'=>e=.returned (.agg #[.int .i64 (za2 qq0 qq1 qq2 qq3 qq0),.int .i64 (za2 qq0 qq1 qq2 qq3 qq1),.int .i64 (za2 qq0 qq1 qq2 qq3 qq2),.int .i64 (za2 qq0 qq1 qq2 qq3 qq3)])∧Gr w w':=by
 rcases zu2 hn with hs | hs
 ·exact yv3 qq0 qq1 qq2 qq3 j0 j1 j2 j3 hn hs w
 ·exact yv4 qq0 qq1 qq2 qq3 j0 j1 j2 j3 hn hs w

def yg2 (j k:Nat) (z0 z1 z2 z3:Int):SV:=.so (.vg [.cz j 0 k z0,.cz j 1 k z0,.cz (j+1) 0 k z1,.cz (j+1) 1 k z1,.cz (j+2) 0 k z2,.cz (j+2) 1 k z2,.cz (j+3) 0 k z3,.cz (j+3) 1 k z3])
theorem zV1 {n:Nn} {X:Env} {w w':World} {e:Ending} {k:Nat} {z0 z1 z2 z3:Int} (h:(∃ t0 t1 t2 t3 t4 t5 t6 t7,e=.returned (.agg #[t0,t1,t2,t3,t4,t5,t6,t7])∧IsInt w' k t0 t1 z0∧IsInt w' k t2 t3 z1∧IsInt w' k t4 t5 z2∧IsInt w' k t6 t7 z3)∧Gr w w'):
  (Tr.leaf (yg2 n.z k z0 z1 z2 z3) 0 4).holds n X w e w':=by
 obtain ⟨⟨t0,t1,t2,t3,t4,t5,t6,t7,rfl,h0,h1,h2,h3⟩,g⟩:=h
 let Y:Env:={X with Z:=fun i c=>if i<n.z then X.Z i c else ([t0,t1,t2,t3,t4,t5,t6,t7]:List Value).getD (2*(i - n.z)+c) undef}
 have e0:∀ i c,Y.Z (n.z+i) c=([t0,t1,t2,t3,t4,t5,t6,t7]:List Value).getD (2*i+c) undef:=fun i c=>by
  show (if n.z+i<n.z then _ else _)=_
  rw [if_neg (by omega),Nat.add_sub_cancel_left]
 have aa:∀ c,Y.Z n.z c=([t0,t1,t2,t3,t4,t5,t6,t7]:List Value).getD c undef:=fun c=>by have:=e0 0 c;simpa using this
 refine ⟨Y,?_,g,⟨fun _ _=>rfl,fun _ _ _=>rfl,fun i c hi=>(if_pos hi).symm,rfl⟩,fun c hc=>?_⟩
 ·simp [yg2,SV.den,TV.den,dnL,Cl.den,e0,aa]
 ·simp only [List.mem_cons,List.not_mem_nil,or_false] at hc
  have l0:Nat.blt n.z (n.z+4)=true:=zq6 (by omega)
  have l1:Nat.blt (n.z+1) (n.z+4)=true:=zq6 (by omega)
  have l2:Nat.blt (n.z+2) (n.z+4)=true:=zq6 (by omega)
  have l3:Nat.blt (n.z+3) (n.z+4)=true:=zq6 (by omega)
  rcases hc with rfl | rfl | rfl | rfl | rfl | rfl | rfl | rfl<;>refine ⟨by simp only [Cl.lt,l0,l1,l2,l3];rfl,?_⟩<;>simp only [Cl.good,e0,aa]<;>assumption
def in12 (lo hi:Int):Bool:=ile (-12) lo&&ile hi 12
theorem zV2 {z lo hi:Int} (h:in12 lo hi=true) (h0:lo≤z∧z≤hi):-12≤z∧z≤12:=by
 unfold in12 at h
 simp only [zi8,Bool.and_eq_true,decide_eq_true_eq] at h
 omega
def cChk:ConT:=fun args _ _=>match args with
 | [.so (.vg [.ci .i64 q0 l0 h0,.ci .i64 q1 l1 h1,.ci .i64 q2 l2 h2,.ci .i64 q3 l3 h3,c1,c2,c3])]=>match txC c1,txC c2,txC c3 with
  | some (k1,_x1),some (k2,_x2),some (k3,_x3)=>tr (in12 l0 h0&&in12 l1 h1&&in12 l2 h2&&in12 l3 h3&&Nat.ble k1 64&&Nat.ble k2 64&&Nat.ble k3 64) (.as (decide (chk q0 q1 q2 q3 0=0)) (.leaf (.so (.vc (.ci .i64 0 0 0))) 0 0))
  | _,_,_=>none
 | _=>none
theorem zV3 {I:World→Prop} (hI:∀ w,I w→Mx w):ConOK Tryz.prog I 15 cChk:=by
 intro args E n w T hw ha hT hp
 unfold cChk at hT
 split at hT
 ·rename_i q0 l0 h0 q1 l1 h1 q2 l2 h2 q3 l3 h3 c1 c2 c3
  split at hT
  ·rename_i k1 x1 k2 x2 k3 x3 e1 e2 e3
   obtain ⟨hb,rfl⟩:=zd8 hT
   simp only [Bool.and_eq_true,Nat.ble_eq] at hb
   obtain ⟨⟨⟨⟨⟨⟨b0,b1⟩,b2⟩,b3⟩,b4⟩,b5⟩,b6⟩:=hb
   have g:=fun c hc=>ha _ (List.mem_singleton.2 rfl) c hc
   obtain ⟨d1,s1⟩:=zl8 e1 (g c1 (by simp))
   obtain ⟨d2,s2⟩:=zl8 e2 (g c2 (by simp))
   obtain ⟨d3,s3⟩:=zl8 e3 (g c3 (by simp))
   have s1:=s1.mono b4
   have s2:=s2.mono b5
   have s3:=s3.mono b6
   show Calls _ _ #[.agg #[.int .i64 q0,.int .i64 q1,.int .i64 q2,.int .i64 q3,c1.den E,c2.den E,c3.den E]] w _
   rw [d1,d2,d3]
   refine (yt5 (zV2 b0 (g (.ci .i64 q0 l0 h0) (by simp)).2) (zV2 b1 (g (.ci .i64 q1 l1 h1) (by simp)).2) (zV2 b2 (g (.ci .i64 q2 l2 h2) (by simp)).2) (zV2 b3 (g (.ci .i64 q3 l3 h3) (by simp)).2) x1 x2 x3 s1 s2 s3 w (hI w hw)).mono fun e w' he=>?_
   rw [of_decide_eq_true hp.1] at he
   exact zb4 he ⟨rfl,Int.le_refl _,Int.le_refl _⟩
  ·cases hT
 ·cases hT
def mag4 (l h:Int):Int:=max (-l) h
def inP (l h:Int):Bool:=ile (-1099511627776) l&&ile h 1099511627776
theorem zE7 {z lo hi:Int} (h:inP lo hi=true) (h0:lo≤z∧z≤hi):-1099511627776≤z∧z≤1099511627776:=by
 unfold inP at h
 simp only [zi8,Bool.and_eq_true,decide_eq_true_eq] at h
 omega
def zC7 (q0 q1 q2 q3 q l h:Int):Cl:=.ci .i64 (za2 q0 q1 q2 q3 q) (-mag4 l h) (mag4 l h)
theorem zG2 {n:Nn} {X:Env} {w:World} {q0 q1 q2 q3 q l h:Int} (hn:¬(q0=0∧q1=0∧q2=0∧q3=0)) (h0:l≤q∧q≤h):(zC7 q0 q1 q2 q3 q l h).ok n X w:=by
 refine ⟨rfl,?_⟩
 have:=zf7 (n:=q) hn
 show -mag4 l h≤_∧_≤mag4 l h
 unfold mag4
 omega
def zV4:ConT:=fun args _ _=>match args with
 | [.so (.vg [.ci .i64 q0 l0 h0,.ci .i64 q1 l1 h1,.ci .i64 q2 l2 h2,.ci .i64 q3 l3 h3])]=>
  tr (inP l0 h0&&inP l1 h1&&inP l2 h2&&inP l3 h3) (.as (decide (¬(q0=0∧q1=0∧q2=0∧q3=0))) (.leaf (.so (.vg [zC7 q0 q1 q2 q3 q0 l0 h0,zC7 q0 q1 q2 q3 q1 l1 h1,zC7 q0 q1 q2 q3 q2 l2 h2,zC7 q0 q1 q2 q3 q3 l3 h3])) 0 0))
 | _=>none
theorem zp9 {I:World→Prop}:ConOK Tryz.prog I 66 zV4:=by
 intro args E n w T _ ha hT hp
 unfold zV4 at hT
 split at hT
 ·rename_i q0 l0 h0 q1 l1 h1 q2 l2 h2 q3 l3 h3
  obtain ⟨hb,rfl⟩:=zd8 hT
  simp only [Bool.and_eq_true] at hb
  obtain ⟨⟨⟨b0,b1⟩,b2⟩,b3⟩:=hb
  have h:=ha _ (List.mem_singleton.2 rfl)
  have g:=fun c hc=>h c hc
  have hn:=of_decide_eq_true hp.1
  have g0:=(g (.ci .i64 q0 l0 h0) (by simp)).2
  have g1:=(g (.ci .i64 q1 l1 h1) (by simp)).2
  have g2:=(g (.ci .i64 q2 l2 h2) (by simp)).2
  have g3:=(g (.ci .i64 q3 l3 h3) (by simp)).2
  refine (zX4 q0 q1 q2 q3 (zE7 b0 g0) (zE7 b1 g1) (zE7 b2 g2) (zE7 b3 g3) hn w).mono fun e w' he=>zb4 he fun c hc=>?_
  simp only [List.mem_cons,List.not_mem_nil,or_false] at hc
  rcases hc with rfl | rfl | rfl | rfl
  ·exact zG2 hn g0
  ·exact zG2 hn g1
  ·exact zG2 hn g2
  ·exact zG2 hn g3
 ·cases hT
theorem ym5 (t:Int):-12≤Int.tmod t 13∧Int.tmod t 13≤12:=by
 have h1:=Int.tmod_lt_of_pos t (show (0:Int)<13 by decide)
 have h2:=Int.tmod_lt_of_pos (-t) (show (0:Int)<13 by decide)
 rw [Int.neg_tmod] at h2
 omega
def mq0 (t0 t1 t2 t3:Int):Int:=if zx0 [Int.tmod t0 13,Int.tmod t1 13,Int.tmod t2 13,Int.tmod t3 13] [0,0,0,0] then 1 else Int.tmod t0 13
def qd (t0 t1 t2 t3:Int):Nat→Int
 | 0=>za2 (mq0 t0 t1 t2 t3) (Int.tmod t1 13) (Int.tmod t2 13) (Int.tmod t3 13) (mq0 t0 t1 t2 t3)
 | 1=>za2 (mq0 t0 t1 t2 t3) (Int.tmod t1 13) (Int.tmod t2 13) (Int.tmod t3 13) (Int.tmod t1 13)
 | 2=>za2 (mq0 t0 t1 t2 t3) (Int.tmod t1 13) (Int.tmod t2 13) (Int.tmod t3 13) (Int.tmod t2 13)
 | _=>za2 (mq0 t0 t1 t2 t3) (Int.tmod t1 13) (Int.tmod t2 13) (Int.tmod t3 13) (Int.tmod t3 13)
theorem conj4 (a b c d:Int):zx0 [a,b,c,d] [0,0,0,0]=decide (a=0∧b=0∧c=0∧d=0):=by
 rw [Bool.eq_iff_iff,decide_eq_true_eq]
 simp [zx0,eqL,and_assoc]
theorem mq_ne (t0 t1 t2 t3:Int):¬(mq0 t0 t1 t2 t3=0∧Int.tmod t1 13=0∧Int.tmod t2 13=0∧Int.tmod t3 13=0):=by
 unfold mq0
 rw [conj4]
 split
 ·rintro ⟨h,_⟩;exact absurd h (by decide)
 ·rename_i h;exact fun g=>h (decide_eq_true g)
theorem mq0_le (t0 t1 t2 t3:Int):-12≤mq0 t0 t1 t2 t3∧mq0 t0 t1 t2 t3≤12:=by
 unfold mq0
 split
 ·decide
 ·exact ym5 t0
theorem qd_vt (t0 t1 t2 t3:Int):VT (qd t0 t1 t2 t3 0) (qd t0 t1 t2 t3 1) (qd t0 t1 t2 t3 2) (qd t0 t1 t2 t3 3):=by
 have hn:=mq_ne t0 t1 t2 t3
 have b0:=mq0_le t0 t1 t2 t3
 have b1:=ym5 t1
 have b2:=ym5 t2
 have b3:=ym5 t3
 simp only [qd]
 generalize mq0 t0 t1 t2 t3=m0 at*
 have l0:=zf7 (n:=m0) hn
 have l1:=zf7 (n:=Int.tmod t1 13) hn
 have l2:=zf7 (n:=Int.tmod t2 13) hn
 have l3:=zf7 (n:=Int.tmod t3 13) hn
 obtain ⟨g,s⟩:=qprim_ok hn
 exact ⟨by omega,by omega,by omega,by omega,g,s⟩
def sq (i d:Int):Rat:=(i:Rat)/((1+d % 6:Int):Rat)
def roN (w x y z:Int):Nat→Int
 | 0=>w*w+x*x - y*y - z*z
 | 1=>2*(x*y - w*z)
 | 2=>2*(x*z+w*y)
 | 3=>2*(x*y+w*z)
 | 4=>w*w - x*x+y*y - z*z
 | 5=>2*(y*z - w*x)
 | 6=>2*(x*z - w*y)
 | 7=>2*(y*z+w*x)
 | _=>w*w - x*x - y*y+z*z
def roE (w x y z:Int) (k:Nat):Rat:=((roN w x y z k:Int):Rat)/((w*w+x*x+y*y+z*z:Int):Rat)
theorem yg3 {w x y z:Int} (h:VT w x y z):((w*w+x*x+y*y+z*z:Int):Rat)≠0:=by
 have:=yd7 h.ne
 intro e
 have:w*w+x*x+y*y+z*z=0:=by exact_mod_cast e
 omega
theorem zV5 {w x y z:Int} (h:VT w x y z):RotQ (roE w x y z 0) (roE w x y z 1) (roE w x y z 2) (roE w x y z 3) (roE w x y z 4) (roE w x y z 5) (roE w x y z 6) (roE w x y z 7) (roE w x y z 8) w x y z:=by
 have hn:=yg3 h
 have c:((w*w+x*x+y*y+z*z:Int):Rat)=(w:Rat)*w+x*x+y*y+z*z:=by simp only [Rat.intCast_add,Rat.intCast_mul]
 have key:∀ k,roE w x y z k*((w:Rat)*w+x*x+y*y+z*z)=((roN w x y z k:Int):Rat):=fun k=>by
  unfold roE
  rw [← c,Rat.div_mul_cancel hn]
 constructor<;>rw [key]<;>simp only [roN,Rat.intCast_add,Rat.intCast_sub,Rat.intCast_mul]<;>rfl
theorem roE_rs {w x y z:Int} (h:VT w x y z):∀ k,RS 50 (roE w x y z k):=by
 have b0:=h.b0;have b1:=h.b1;have b2:=h.b2;have b3:=h.b3
 obtain ⟨h0,h1,h2,h3,h4,h5,h6,h7,h8⟩:=rotq_rs h.ne (by omega) (by omega) (by omega) (by omega) (zV5 h)
 intro k
 match k with
 | 0=>exact h0
 | 1=>exact h1
 | 2=>exact h2
 | 3=>exact h3
 | 4=>exact h4
 | 5=>exact h5
 | 6=>exact h6
 | 7=>exact h7
 | k+8=>exact h8
theorem yE9 {N n:Rat}:((1:Int):Rat)/N*n=n/N:=by
 rw [Rat.div_def,Rat.div_def,Rat.mul_comm n]
 congr 1
 exact Rat.one_mul _

end Go.Proofs.YtaldbfflkpgfoaaGreatDoor
