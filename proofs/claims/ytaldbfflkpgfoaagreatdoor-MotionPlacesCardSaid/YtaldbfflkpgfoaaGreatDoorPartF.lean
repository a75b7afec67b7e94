/- Joined of: Gen121, Who, Wg, Qt, Qr, Syr, Plc, Gen131, Rda, Gen47, Gen69. -/
import Derived.Test.YtaldbfflkpgfoaaGreatDoorPartE
import Derived.Test.YtaldbfflkpgfoaaGreatDoorPartD
namespace Go.Proofs.YtaldbfflkpgfoaaGreatDoor
open Go.RowKit

noncomputable def tabW:List (Nat × List (Nat × Ent)):=[(104,[(5,.flo [(true,0),(true,1),(true,2),(false,3),(false,4),(false,5),(true,6),(true,7),(true,8),(true,9)] [(10,7,34),(11,8,34)] [(false,12),(false,13),(true,14)] []),(6,.ord [(true,0),(true,1),(false,2),(false,3),(false,4)] [3]),(15,.flo [(true,0),(true,1),(false,2),(false,3),(true,4),(true,5),(true,6),(true,7)] [(8,14,34),(9,15,34)] [(false,10),(false,11),(true,12)] []),(16,.ord [(true,0),(true,1),(true,3),(true,5),(false,2),(false,4),(false,6),(false,7),(true,8),(false,9)] [10]),(17,.ort [(true,0),(true,1),(true,2),(true,3),(false,4),(false,5)] [11] [([5],11)]),(22,.ort [(true,0),(true,1),(true,2),(true,3),(true,4),(false,5),(true,6),(true,7),(true,8),(true,9),(true,10),(false,11)] [10] [([11],10)])])]
noncomputable def conW:List (Nat × ConT):=[(76,zS9),
 (130,cNum),
 (81,cDen),
 (96,zy6),
 (80,zT0),
 (122,zT1),
 (123,zT2)]
noncomputable def sysW:Sys:=⟨Tryz.prog,2,199,tabW,conW,fun _=>True⟩
theorem sysW_ok:sysW.OK where
 mixed:=by kernel_rfl
 calls:=fun f h0 h1=>by
  have:(List.range 199).all (fun f=>Nat.blt f 2||okCall Tryz.prog f)=true:=by kernel_rfl
  have:=List.all_eq_true.1 this f (List.mem_range.2 h1)
  simp only [Bool.or_eq_true] at this
  exact this.resolve_left (fun e=>by have:=ze6 e;exact absurd h0 (by show ¬ 2≤f;omega))
 tab:=by
  have:tabW.all (okTab Tryz.prog)=true:=by kernel_rfl
  exact fun x hx=>List.all_eq_true.1 this x hx
 lps:=zy1 (by kernel_rfl)
 con:=fun x hx=>by
  simp only [sysW,conW,List.mem_cons,List.not_mem_nil,or_false] at hx
  rcases hx with rfl | rfl | rfl | rfl | rfl | rfl | rfl
  ·exact zl1
  ·exact zs0
  ·exact zs1
  ·exact zh9
  ·exact zl2
  ·exact zl3
  ·exact zl4
 inv:=fun _ _ _ _=>trivial
def woS (a1 a2 a3 a4:Rat) (s:Int) (x:Rat):Int:=x.num*(zp2 a1 a2 a3 a4/(x.den:Int))*s
def wgS (a1 a2 a3 a4:Rat) (s:Int):Int:=(Int.gcd (Int.gcd (Int.gcd (Int.gcd 0 (woS a1 a2 a3 a4 s a1):Int) (woS a1 a2 a3 a4 s a2):Int) (woS a1 a2 a3 a4 s a3):Int) (woS a1 a2 a3 a4 s a4):Int)
def retW (z1 z2 z3 z4:Int):SV:=.so (.vg [.cz 57 0 40128 (z1),.cz 57 1 40128 (z1),.cz 59 0 40128 (z2),.cz 59 1 40128 (z2),.cz 61 0 40128 (z3),.cz 61 1 40128 (z3),.cz 63 0 40128 (z4),.cz 63 1 40128 (z4)])
def endW (a1 a2 a3 a4:Rat) (s:Int):Lf:=.as (decide (0<(a1.den:Int))) true (.as (decide (0<(a2.den:Int))) true (.as (decide (0<(a3.den:Int))) true (.as (decide (0<(a4.den:Int))) true (.as (decide (0<wgS a1 a2 a3 a4 s)) true (.as (decide (0<wgS a1 a2 a3 a4 s)) true (.as (decide (0<wgS a1 a2 a3 a4 s)) true (.as (decide (0<wgS a1 a2 a3 a4 s)) true (.ret (retW (woS a1 a2 a3 a4 s a1/wgS a1 a2 a3 a4 s) (woS a1 a2 a3 a4 s a2/wgS a1 a2 a3 a4 s) (woS a1 a2 a3 a4 s a3/wgS a1 a2 a3 a4 s) (woS a1 a2 a3 a4 s a4/wgS a1 a2 a3 a4 s))))))))))
def treeW (a1 a2 a3 a4:Rat):Lf:=.as (decide (0<(Int.gcd 1 (a1.den:Int):Int))) true (.as (decide (0<(Int.gcd (zC7 1 (a1.den:Int)) (a2.den:Int):Int))) true (.br (sgn a1.num==0)
 (.as (decide (0<(Int.gcd (zC7 (zC7 1 (a1.den:Int)) (a2.den:Int)) (a3.den:Int):Int))) true (.br (sgn a2.num==0) (.as (decide (0<(Int.gcd (zC7 (zC7 (zC7 1 (a1.den:Int)) (a2.den:Int)) (a3.den:Int)) (a4.den:Int):Int))) true (.br (sgn a3.num==0) (endW a1 a2 a3 a4 (sgn a4.num)) (endW a1 a2 a3 a4 (sgn a3.num)))) (.as (decide (0<(Int.gcd (zC7 (zC7 (zC7 1 (a1.den:Int)) (a2.den:Int)) (a3.den:Int)) (a4.den:Int):Int))) true (.as (sgn a2.num==0) false (endW a1 a2 a3 a4 (sgn a2.num))))))
 (.as (decide (0<(Int.gcd (zC7 (zC7 1 (a1.den:Int)) (a2.den:Int)) (a3.den:Int):Int))) true (.as (sgn a1.num==0) false (.as (decide (0<(Int.gcd (zC7 (zC7 (zC7 1 (a1.den:Int)) (a2.den:Int)) (a3.den:Int)) (a4.den:Int):Int))) true (.as (sgn a1.num==0) false (endW a1 a2 a3 a4 (sgn a1.num))))))))
theorem runW (a1 a2 a3 a4:Rat):zP0 sysW 104 [.so (.vg [.cr 0 0 8000 a1,.cr 0 1 8000 a1,.cr 0 2 8000 a1,.cr 0 3 8000 a1,.cr 1 0 8000 a2,.cr 1 1 8000 a2,.cr 1 2 8000 a2,.cr 1 3 8000 a2,.cr 2 0 8000 a3,.cr 2 1 8000 a3,.cr 2 2 8000 a3,.cr 2 3 8000 a3,.cr 3 0 8000 a4,.cr 3 1 8000 a4,.cr 3 2 8000 a4,.cr 3 3 8000 a4])] 4 0 (.s (.s (.s .e .e) (.f .e)) (.f (.f .e)))=some (treeW a1 a2 a3 a4):=by kernel_rfl
def zF1 (cs:List Value):Env:=⟨fun _=>0,fun j c=>cs.getD (4*j+c) undef,fun _ _=>undef,[],[]⟩
def okA (n:Nn) (X:Env) (W:World):List Cl→Prop
 | []=>True
 | c::l=>c.ok n X W∧okA n X W l
theorem zi1 {n:Nn} {X:Env} {W:World}:∀ {l:List Cl},okA n X W l→okL n X W l
 | [],_,_,h=>by cases h
 | c::l,hh,x,h=>by
  rcases List.mem_cons.1 h with rfl | h
  ·exact hh.1
  ·exact zi1 hh.2 x h
theorem okF1 {n:Nn} {X:Env} {W:World} {v:SV} (h:v.ok n X W):okF n X W [v]:=fun x hx=>by rw [List.mem_singleton] at hx;exact hx ▸ h
theorem zf9 (d:Int) (a:Rat):decide (0<(Int.gcd d (a.den:Int):Int))=true:=by
 have h:=a.den_pos
 have:0<Int.gcd d (a.den:Int):=Int.gcd_pos_of_ne_zero_right _ (by omega)
 exact decide_eq_true (by omega)
theorem zT8 {a1 a2 a3 a4:Rat} {s:Int} (hs:zP4 a1 a2 a3 a4=s) (hg:0<yl3 a1 a2 a3 a4):
  LOK (fun v=>v=retW (wz a1 a2 a3 a4 a1) (wz a1 a2 a3 a4 a2) (wz a1 a2 a3 a4 a3) (wz a1 a2 a3 a4 a4)) (endW a1 a2 a3 a4 s):=by
 subst hs
 have d:=fun a:Rat=>decide_eq_true (zp3 a)
 have g:decide (0<wgS a1 a2 a3 a4 (zP4 a1 a2 a3 a4))=true:=decide_eq_true hg
 exact ⟨d a1,d a2,d a3,d a4,g,g,g,g,rfl⟩
theorem treeW_ok {a1 a2 a3 a4:Rat} (hg:0<yl3 a1 a2 a3 a4):
  LOK (fun v=>v=retW (wz a1 a2 a3 a4 a1) (wz a1 a2 a3 a4 a2) (wz a1 a2 a3 a4 a3) (wz a1 a2 a3 a4 a4)) (treeW a1 a2 a3 a4):=by
 have t:=fun {z:Int} (h:(z==0)=true)=>eq_of_beq h
 have f:=fun {z:Int} (h:(z==0)=false)=>ne_of_beq_false h
 refine ⟨zf9 _ _,zf9 _ _,fun h1=>⟨zf9 _ _,fun h2=>⟨zf9 _ _,fun h3=>zT8 ?_ hg,fun h3=>zT8 ?_ hg⟩,fun h2=>⟨zf9 _ _,h2,zT8 ?_ hg⟩⟩,fun h1=>⟨zf9 _ _,h1,zf9 _ _,h1,zT8 ?_ hg⟩⟩
 ·unfold zP4;rw [if_pos (t h1),if_pos (t h2),if_pos (t h3)]
 ·unfold zP4;rw [if_pos (t h1),if_pos (t h2),if_neg (f h3)]
 ·unfold zP4;rw [if_pos (t h1),if_neg (f h2)]
 ·unfold zP4;rw [if_neg (f h1)]
theorem yl4 {k:Nat} {aa aq ac ar:Value} {a1:Rat} {ae au ap ah:Value} {a2:Rat} {aj ak ai al:Value} {a3:Rat} {ab af av ad:Value} {a4:Rat} {w:World} (h1:IsRat w k aa aq ac ar a1) (h2:IsRat w k ae au ap ah a2) (h3:IsRat w k aj ak ai al a3) (h4:IsRat w k ab af av ad a4) (hg:0<yl3 a1 a2 a3 a4) (hk:k≤8000):
  Calls Tryz.prog 104 #[.agg #[aa,aq,ac,ar,ae,au,ap,ah,aj,ak,ai,al,ab,af,av,ad]] w fun e w'=>(∃ t0 t1 t2 t3 t4 t5 t6 t7,e=.returned (.agg #[t0,t1,t2,t3,t4,t5,t6,t7])∧IsInt w' 40128 t0 t1 (wz a1 a2 a3 a4 a1)∧IsInt w' 40128 t2 t3 (wz a1 a2 a3 a4 a2)∧IsInt w' 40128 t4 t5 (wz a1 a2 a3 a4 a3)∧IsInt w' 40128 t6 t7 (wz a1 a2 a3 a4 a4))∧Gr w w':=by
 replace h1:=h1.mono hk
 replace h2:=h2.mono hk
 replace h3:=h3.mono hk
 replace h4:=h4.mono hk
 refine (ze7 sysW sysW_ok (runW a1 a2 a3 a4) (X:=zF1 [aa,aq,ac,ar,ae,au,ap,ah,aj,ak,ai,al,ab,af,av,ad]) trivial (okF1 (zi1 ⟨⟨rfl,h1⟩,⟨rfl,h1⟩,⟨rfl,h1⟩,⟨rfl,h1⟩,⟨rfl,h2⟩,⟨rfl,h2⟩,⟨rfl,h2⟩,⟨rfl,h2⟩,⟨rfl,h3⟩,⟨rfl,h3⟩,⟨rfl,h3⟩,⟨rfl,h3⟩,⟨rfl,h4⟩,⟨rfl,h4⟩,⟨rfl,h4⟩,⟨rfl,h4⟩,trivial⟩)) (treeW_ok hg)).mono fun e w' he=>?_
 obtain ⟨v,X',n,rfl,g,_,hv,rfl⟩:=he
 exact ⟨⟨_,_,_,_,_,_,_,_,rfl,(hv _ (.head _)).2,(hv _ (.tail _ (.tail _ (.head _)))).2,(hv _ (.tail _ (.tail _ (.tail _ (.tail _ (.head _)))))).2,(hv _ (.tail _ (.tail _ (.tail _ (.tail _ (.tail _ (.tail _ (.head _)))))))).2⟩,g⟩
theorem wsgn_ne {a1 a2 a3 a4:Rat} (h:¬(a1=0∧a2=0∧a3=0∧a4=0)):zP4 a1 a2 a3 a4≠0:=by
 unfold zP4
 have z:∀ a:Rat,sgn a.num=0→a=0:=fun a ha=>Rat.num_eq_zero.1 (zc2.1 ha)
 split
 ·next h1=>
  split
  ·next h2=>
   split
   ·next h3=>exact fun h4=>h ⟨z _ h1,z _ h2,z _ h3,z _ h4⟩
   ·assumption
  ·assumption
 ·assumption
theorem zE9 {d:Int} (q:Rat) (_h:0<d):d∣zC7 d (q.den:Int)∧(q.den:Int)∣zC7 d (q.den:Int):=by
 obtain ⟨h1,h2⟩:=gcd_ex d q
 unfold zC7
 refine ⟨?_,Int.dvd_mul_left _ _⟩
 obtain ⟨c,hc⟩:=h2
 have h3:(Int.gcd d (q.den:Int):Int)∣(q.den:Int):=Int.gcd_dvd_right ..
 obtain ⟨e,he⟩:=h3
 generalize (Int.gcd d (q.den:Int):Int)=g at*
 refine ⟨e,?_⟩
 rw [he,hc,Int.mul_ediv_cancel_left c (by omega)]
 rw [← Int.mul_assoc,Int.mul_comm c g,Int.mul_assoc]
theorem zL0 (a1 a2 a3 a4:Rat):0<zp2 a1 a2 a3 a4:=zn3 _ (zn3 _ (zn3 _ (zn3 _ (by omega))))
theorem zL1 (a1 a2 a3 a4:Rat):(a1.den:Int)∣zp2 a1 a2 a3 a4∧(a2.den:Int)∣zp2 a1 a2 a3 a4∧(a3.den:Int)∣zp2 a1 a2 a3 a4∧(a4.den:Int)∣zp2 a1 a2 a3 a4:=by
 have p1:(0:Int)<1:=by omega
 have p2:=zn3 a1 p1
 have p3:=zn3 a2 p2
 have p4:=zn3 a3 p3
 have d1:=zE9 a1 p1
 have d2:=zE9 a2 p2
 have d3:=zE9 a3 p3
 have d4:=zE9 a4 p4
 unfold zp2
 exact ⟨Int.dvd_trans d1.2 (Int.dvd_trans d2.1 (Int.dvd_trans d3.1 d4.1)),Int.dvd_trans d2.2 (Int.dvd_trans d3.1 d4.1),Int.dvd_trans d3.2 d4.1,d4.2⟩
theorem zP3 {d x:Int} (hd:0<d) (hx:0<x) (h:x∣d):0<d/x:=by
 obtain ⟨c,rfl⟩:=h
 rw [Int.mul_ediv_cancel_left c (by omega)]
 rcases Int.lt_or_le 0 c with h3 | h3
 ·exact h3
 ·have:=Int.mul_nonpos_of_nonneg_of_nonpos (Int.le_of_lt hx) h3;omega
theorem zz2 {a1 a2 a3 a4 x:Rat} (hs:zP4 a1 a2 a3 a4≠0) (hd:(x.den:Int)∣zp2 a1 a2 a3 a4) (h:yo8 a1 a2 a3 a4 x=0):x=0:=by
 have h1:=zP3 (zL0 a1 a2 a3 a4) (zp3 x) hd
 unfold yo8 at h
 rcases Int.mul_eq_zero.1 h with h | h
 ·rcases Int.mul_eq_zero.1 h with h | h
  ·exact Rat.num_eq_zero.1 h
  ·omega
 ·exact absurd h hs
theorem zF0 {a1 a2 a3 a4:Rat} (h:¬(a1=0∧a2=0∧a3=0∧a4=0)):0<yl3 a1 a2 a3 a4:=by
 have hs:=wsgn_ne h
 have hd:=zL1 a1 a2 a3 a4
 have h0:0≤yl3 a1 a2 a3 a4:=Int.natCast_nonneg _
 rcases Int.lt_or_le 0 (yl3 a1 a2 a3 a4) with h1 | h1
 ·exact h1
 ·exfalso
  apply h
  have e:yl3 a1 a2 a3 a4=0:=by omega
  unfold yl3 at e
  have e1:=Int.gcd_eq_zero_iff.1 (Int.natCast_eq_zero.1 e)
  have e2:=Int.gcd_eq_zero_iff.1 (Int.natCast_eq_zero.1 e1.1)
  have e3:=Int.gcd_eq_zero_iff.1 (Int.natCast_eq_zero.1 e2.1)
  have e4:=Int.gcd_eq_zero_iff.1 (Int.natCast_eq_zero.1 e3.1)
  exact ⟨zz2 hs hd.1 e4.2,zz2 hs hd.2.1 e3.2,zz2 hs hd.2.2.1 e2.2,zz2 hs hd.2.2.2 e1.2⟩
def zL4 (a11 a12 a13 a21 a22 a23 a31 a32 a33:Rat):Rat × Rat × Rat × Rat:=
 if sgn ((((0+1)+a11)+a22)+a33).num=0 then (if sgn ((1+a11) - (a22+a33)).num=0 then (if sgn ((1+a22) - (a11+a33)).num=0 then ((a21 - a12),(a13+a31),(a23+a32),((1+a33) - (a11+a22))) else ((a13 - a31),(a12+a21),((1+a22) - (a11+a33)),(a23+a32))) else ((a32 - a23),((1+a11) - (a22+a33)),(a12+a21),(a13+a31))) else (((((0+1)+a11)+a22)+a33),(a32 - a23),(a13 - a31),(a21 - a12))
def wzq (r:Rat × Rat × Rat × Rat) (i:Nat):Int:=wz r.1 r.2.1 r.2.2.1 r.2.2.2 (match i with | 0=>r.1 | 1=>r.2.1 | 2=>r.2.2.1 | _=>r.2.2.2)
section
variable {a11 a12 a13 a21 a22 a23 a31 a32 a33:Rat}
theorem qrow1f (h0:(sgn ((((0+1)+a11)+a22)+a33).num==(0:Int))=false):zL4 a11 a12 a13 a21 a22 a23 a31 a32 a33=(((((0+1)+a11)+a22)+a33),(a32 - a23),(a13 - a31),(a21 - a12)):=by
 unfold zL4
 simp only [beq_eq_false_iff_ne,ne_eq] at h0
 rw [if_neg h0]
theorem yD6 (h0:(sgn ((((0+1)+a11)+a22)+a33).num==(0:Int))=false):0<yl3 ((((0+1)+a11)+a22)+a33) (a32 - a23) (a13 - a31) (a21 - a12):=zF0 (by
 rintro ⟨h5,h6,h7,h8⟩
 rw [h5] at h0;exact absurd h0 (by decide))
theorem qrow2f (h0:(sgn ((((0+1)+a11)+a22)+a33).num==(0:Int))=true) (h1:(sgn ((1+a11) - (a22+a33)).num==(0:Int))=false):zL4 a11 a12 a13 a21 a22 a23 a31 a32 a33=((a32 - a23),((1+a11) - (a22+a33)),(a12+a21),(a13+a31)):=by
 unfold zL4
 simp only [beq_iff_eq,beq_eq_false_iff_ne,ne_eq] at h0 h1
 rw [if_pos h0,if_neg h1]
theorem yD7 (_h0:(sgn ((((0+1)+a11)+a22)+a33).num==(0:Int))=true) (h1:(sgn ((1+a11) - (a22+a33)).num==(0:Int))=false):0<yl3 (a32 - a23) ((1+a11) - (a22+a33)) (a12+a21) (a13+a31):=zF0 (by
 rintro ⟨h5,h6,h7,h8⟩
 rw [h6] at h1;exact absurd h1 (by decide))
theorem qrow3f (h0:(sgn ((((0+1)+a11)+a22)+a33).num==(0:Int))=true) (h1:(sgn ((1+a11) - (a22+a33)).num==(0:Int))=true) (h2:(sgn ((1+a22) - (a11+a33)).num==(0:Int))=false):zL4 a11 a12 a13 a21 a22 a23 a31 a32 a33=((a13 - a31),(a12+a21),((1+a22) - (a11+a33)),(a23+a32)):=by
 unfold zL4
 simp only [beq_iff_eq,beq_eq_false_iff_ne,ne_eq] at h0 h1 h2
 rw [if_pos h0,if_pos h1,if_neg h2]
theorem yD8 (_h0:(sgn ((((0+1)+a11)+a22)+a33).num==(0:Int))=true) (_h1:(sgn ((1+a11) - (a22+a33)).num==(0:Int))=true) (h2:(sgn ((1+a22) - (a11+a33)).num==(0:Int))=false):0<yl3 (a13 - a31) (a12+a21) ((1+a22) - (a11+a33)) (a23+a32):=zF0 (by
 rintro ⟨h5,h6,h7,h8⟩
 rw [h7] at h2;exact absurd h2 (by decide))
theorem qrow3t (h0:(sgn ((((0+1)+a11)+a22)+a33).num==(0:Int))=true) (h1:(sgn ((1+a11) - (a22+a33)).num==(0:Int))=true) (h2:(sgn ((1+a22) - (a11+a33)).num==(0:Int))=true):zL4 a11 a12 a13 a21 a22 a23 a31 a32 a33=((a21 - a12),(a13+a31),(a23+a32),((1+a33) - (a11+a22))):=by
 unfold zL4
 simp only [beq_iff_eq] at h0 h1 h2
 rw [if_pos h0,if_pos h1,if_pos h2]
theorem yD9 (h0:(sgn ((((0+1)+a11)+a22)+a33).num==(0:Int))=true) (h1:(sgn ((1+a11) - (a22+a33)).num==(0:Int))=true) (h2:(sgn ((1+a22) - (a11+a33)).num==(0:Int))=true):0<yl3 (a21 - a12) (a13+a31) (a23+a32) ((1+a33) - (a11+a22)):=zF0 (by
 rintro ⟨h5,h6,h7,h8⟩
 simp only [beq_iff_eq,zc2,Rat.num_eq_zero] at h0 h1 h2
 grind)
end
def qgcd (n1 n2 n3 n4:Int):Int:=(Int.gcd (Int.gcd (Int.gcd (Int.gcd 0 n1:Int) n2:Int) n3:Int) n4:Int)
def qsgn (n1 n2 n3 n4:Int):Int:=if n1=0 then (if n2=0 then (if n3=0 then sgn n4 else sgn n3) else sgn n2) else sgn n1
def qprim (n1 n2 n3 n4 n:Int):Int:=n/qgcd n1 n2 n3 n4*qsgn n1 n2 n3 n4
theorem yi7 (k a b:Int):(Int.gcd (k*a) (k*b):Int)=(k.natAbs:Int)*(Int.gcd a b:Int):=by
 rw [Int.gcd_mul_left];exact Int.natCast_mul ..
theorem zR0 (k a b:Int):(Int.gcd ((k.natAbs:Int)*a) (k*b):Int)=(k.natAbs:Int)*(Int.gcd a b:Int):=by
 rw [← yi7]
 rcases Int.natAbs_eq k with h | h
 ·rw [← h]
 ·generalize (k.natAbs:Int)=m at h;subst h
  rw [Int.neg_mul,Int.neg_mul,Int.gcd_neg,Int.neg_gcd,Int.gcd_neg]
theorem zR1 (k n1 n2 n3 n4:Int):qgcd (k*n1) (k*n2) (k*n3) (k*n4)=(k.natAbs:Int)*qgcd n1 n2 n3 n4:=by
 unfold qgcd
 have h0:(Int.gcd 0 (k*n1):Int)=(k.natAbs:Int)*(Int.gcd 0 n1:Int):=by
  rw [← yi7,Int.mul_zero]
 rw [h0,zR0,zR0,zR0]
theorem zk5 (n1 n2 n3 n4:Int):qgcd n1 n2 n3 n4∣n1∧qgcd n1 n2 n3 n4∣n2∧qgcd n1 n2 n3 n4∣n3∧qgcd n1 n2 n3 n4∣n4:=by
 unfold qgcd
 refine ⟨?_,?_,?_,Int.gcd_dvd_right ..⟩
 ·exact Int.dvd_trans (Int.gcd_dvd_left ..) (Int.dvd_trans (Int.gcd_dvd_left ..) (Int.dvd_trans (Int.gcd_dvd_left ..) (Int.gcd_dvd_right ..)))
 ·exact Int.dvd_trans (Int.gcd_dvd_left ..) (Int.dvd_trans (Int.gcd_dvd_left ..) (Int.gcd_dvd_right ..))
 ·exact Int.dvd_trans (Int.gcd_dvd_left ..) (Int.gcd_dvd_right ..)
theorem yc1 (n1 n2 n3 n4:Int):0≤qgcd n1 n2 n3 n4:=Int.natCast_nonneg _
theorem yw0 {n1 n2 n3 n4:Int} (h:qgcd n1 n2 n3 n4=0):n1=0∧n2=0∧n3=0∧n4=0:=by
 obtain ⟨h1,h2,h3,h4⟩:=zk5 n1 n2 n3 n4
 rw [h] at h1 h2 h3 h4
 exact ⟨Int.zero_dvd.1 h1,Int.zero_dvd.1 h2,Int.zero_dvd.1 h3,Int.zero_dvd.1 h4⟩
theorem zs8 {n1 n2 n3 n4:Int} (h:¬(n1=0∧n2=0∧n3=0∧n4=0)):0<qgcd n1 n2 n3 n4:=by
 have h0:=yc1 n1 n2 n3 n4
 have h1:qgcd n1 n2 n3 n4≠0:=fun e=>h (yw0 e)
 omega
theorem yi8 (a b:Int):sgn (a*b)=sgn a*sgn b:=by
 have key:∀ x y:Int,0<x→sgn (x*y)=sgn y:=by
  intro x y hx
  unfold sgn
  rcases Int.lt_trichotomy y 0 with h | h | h
  ·rw [if_pos h,if_pos (Int.mul_neg_of_pos_of_neg hx h)]
  ·subst h;simp
  ·have:=Int.mul_pos hx h
   rw [if_neg (by omega),if_neg (by omega),if_neg (by omega),if_neg (by omega)]
 rcases Int.lt_trichotomy a 0 with h | h | h
 ·have e:a*b=-(-a*b):=by rw [Int.neg_mul,Int.neg_neg]
  have h2:=key (-a) b (by omega)
  have h3:sgn a=-1:=by unfold sgn;rw [if_pos h]
  rw [h3,← h2,e]
  unfold sgn
  generalize -a*b=z
  split<;>(try split)<;>(try split)<;>omega
 ·subst h;simp [sgn]
 ·rw [key a b h,show sgn a=1 by unfold sgn;rw [if_neg (by omega),if_neg (by omega)],Int.one_mul]
theorem yi9 {k:Int} (hk:k≠0) (n1 n2 n3 n4:Int):qsgn (k*n1) (k*n2) (k*n3) (k*n4)=sgn k*qsgn n1 n2 n3 n4:=by
 have z:∀ n:Int,k*n=0↔n=0:=fun n=>by simp [Int.mul_eq_zero,hk]
 unfold qsgn
 simp only [z,yi8]
 split
 ·split
  ·split<;>rfl
  ·rfl
 ·rfl
theorem yn5 (k:Int):k=(k.natAbs:Int)*sgn k:=by unfold sgn;split<;>(try split)<;>omega
theorem sgn_sq {k:Int} (hk:k≠0):sgn k*sgn k=1:=by unfold sgn;rw [if_neg hk];split<;>rfl
theorem zW4 {k:Int} (hk:k≠0) (n1 n2 n3 n4:Int) {n:Int} (h:qgcd n1 n2 n3 n4∣n):qprim (k*n1) (k*n2) (k*n3) (k*n4) (k*n)=qprim n1 n2 n3 n4 n:=by
 unfold qprim
 rw [zR1,yi9 hk]
 obtain ⟨c,rfl⟩:=h
 generalize qgcd n1 n2 n3 n4=g
 generalize qsgn n1 n2 n3 n4=σ
 by_cases hg:g=0
 ·subst hg;simp
 ·have e:k*(g*c)=(k.natAbs:Int)*g*(sgn k*c):=by
   conv=>lhs;rw [yn5 k]
   rw [Int.mul_assoc,Int.mul_assoc,Int.mul_left_comm (sgn k)]
  rw [e,Int.mul_ediv_cancel_left _ (by simp [Int.mul_eq_zero];omega),Int.mul_ediv_cancel_left _ hg]
  rw [show sgn k*c*(sgn k*σ)=(sgn k*sgn k)*(c*σ) by rw [Int.mul_assoc,Int.mul_assoc,Int.mul_left_comm c],sgn_sq hk,Int.one_mul]
def wm (a1 a2 a3 a4 x:Rat):Int:=x.num*(zp2 a1 a2 a3 a4/(x.den:Int))
theorem zW5 (n:Int) {d:Nat} (hd:0<d):Rat.divInt n (d:Int)*((d:Int):Rat)=(n:Rat):=by
 rw [Rat.divInt_eq_div]
 have:((d:Int):Rat)≠0:=by
  intro e
  have:=Rat.intCast_inj.1 (e.trans rfl:((d:Int):Rat)=((0:Int):Rat))
  omega
 exact Rat.div_mul_cancel this
theorem zr0 (x:Rat):x*((x.den:Int):Rat)=(x.num:Rat):=by
 have:=zW5 x.num x.den_pos
 rw [Rat.num_divInt_den] at this
 exact this
theorem wm_rat {a1 a2 a3 a4 x:Rat} (h:(x.den:Int)∣zp2 a1 a2 a3 a4):((wm a1 a2 a3 a4 x:Int):Rat)=x*((zp2 a1 a2 a3 a4:Int):Rat):=by
 unfold wm
 obtain ⟨c,hc⟩:=h
 have hd:=zp3 x
 rw [hc,Int.mul_ediv_cancel_left _ (by omega)]
 have e:x*((x.den:Int):Rat)=((x.num:Int):Rat):=zr0 x
 rw [Rat.intCast_mul,Rat.intCast_mul,← Rat.mul_assoc,e]
theorem yj0 (a1 a2 a3 a4 x:Rat) (h:(x.den:Int)∣zp2 a1 a2 a3 a4):sgn (wm a1 a2 a3 a4 x)=sgn x.num:=by
 unfold wm
 have:=zP3 (zL0 a1 a2 a3 a4) (zp3 x) h
 rw [yi8,show sgn (zp2 a1 a2 a3 a4/(x.den:Int))=1 by unfold sgn;rw [if_neg (by omega),if_neg (by omega)],Int.mul_one]
theorem wz_qprim (a1 a2 a3 a4:Rat) (h:¬(a1=0∧a2=0∧a3=0∧a4=0)) {x:Rat} (hx:x=a1∨x=a2∨x=a3∨x=a4):
  wz a1 a2 a3 a4 x=qprim (wm a1 a2 a3 a4 a1) (wm a1 a2 a3 a4 a2) (wm a1 a2 a3 a4 a3) (wm a1 a2 a3 a4 a4) (wm a1 a2 a3 a4 x):=by
 have hd:=zL1 a1 a2 a3 a4
 have s1:=yj0 a1 a2 a3 a4 a1 hd.1
 have s2:=yj0 a1 a2 a3 a4 a2 hd.2.1
 have s3:=yj0 a1 a2 a3 a4 a3 hd.2.2.1
 have s4:=yj0 a1 a2 a3 a4 a4 hd.2.2.2
 have hs:zP4 a1 a2 a3 a4=qsgn (wm a1 a2 a3 a4 a1) (wm a1 a2 a3 a4 a2) (wm a1 a2 a3 a4 a3) (wm a1 a2 a3 a4 a4):=by
  unfold zP4 qsgn
  rw [← s1,← s2,← s3,← s4]
  simp only [zc2]
 have hne:zP4 a1 a2 a3 a4≠0:=by
  intro e
  have z:∀ a:Rat,sgn a.num=0→a=0:=fun a ha=>Rat.num_eq_zero.1 (zc2.1 ha)
  unfold zP4 at e
  split at e
  ·next h1=>
   split at e
   ·next h2=>
    split at e
    ·next h3=>exact h ⟨z _ h1,z _ h2,z _ h3,z _ e⟩
    ·contradiction
   ·contradiction
  ·contradiction
 have ho:∀ y,yo8 a1 a2 a3 a4 y=zP4 a1 a2 a3 a4*wm a1 a2 a3 a4 y:=fun y=>by unfold yo8 wm;rw [Int.mul_comm]
 have hab:((zP4 a1 a2 a3 a4).natAbs:Int)=1:=by
  have:zP4 a1 a2 a3 a4=-1∨zP4 a1 a2 a3 a4=0∨zP4 a1 a2 a3 a4=1:=by
   have k:∀ z,sgn z=-1∨sgn z=0∨sgn z=1:=fun z=>by unfold sgn;split<;>(try split)<;>omega
   unfold zP4;split
   ·split
    ·split<;>exact k _
    ·exact k _
   ·exact k _
  omega
 have hg:yl3 a1 a2 a3 a4=qgcd (wm a1 a2 a3 a4 a1) (wm a1 a2 a3 a4 a2) (wm a1 a2 a3 a4 a3) (wm a1 a2 a3 a4 a4):=by
  show qgcd (yo8 a1 a2 a3 a4 a1) (yo8 a1 a2 a3 a4 a2) (yo8 a1 a2 a3 a4 a3) (yo8 a1 a2 a3 a4 a4)=_
  rw [ho,ho,ho,ho,zR1,hab,Int.one_mul]
 have hdv:qgcd (wm a1 a2 a3 a4 a1) (wm a1 a2 a3 a4 a2) (wm a1 a2 a3 a4 a3) (wm a1 a2 a3 a4 a4)∣wm a1 a2 a3 a4 x:=by
  obtain ⟨h1,h2,h3,h4⟩:=zk5 (wm a1 a2 a3 a4 a1) (wm a1 a2 a3 a4 a2) (wm a1 a2 a3 a4 a3) (wm a1 a2 a3 a4 a4)
  rcases hx with rfl | rfl | rfl | rfl<;>assumption
 unfold wz qprim
 rw [ho,hg,← hs]
 obtain ⟨c,hc⟩:=hdv
 rw [hc]
 generalize qgcd _ _ _ _=g
 by_cases h0:g=0
 ·subst h0;simp
 ·rw [Int.mul_left_comm,Int.mul_ediv_cancel_left _ h0,Int.mul_ediv_cancel_left _ h0,Int.mul_comm]
theorem wz_of {c:Rat} (hc:c≠0) {n1 n2 n3 n4 n:Int} (hn:¬(n1=0∧n2=0∧n3=0∧n4=0)) (hx:n=n1∨n=n2∨n=n3∨n=n4) {a1 a2 a3 a4 x:Rat}
  (h1:a1=c*((n1:Int):Rat)) (h2:a2=c*((n2:Int):Rat)) (h3:a3=c*((n3:Int):Rat)) (h4:a4=c*((n4:Int):Rat)) (h:x=c*((n:Int):Rat)):
  wz a1 a2 a3 a4 x=qprim n1 n2 n3 n4 n:=by
 have ha:¬(a1=0∧a2=0∧a3=0∧a4=0):=by
  rintro ⟨e1,e2,e3,e4⟩
  have z:∀ m:Int,c*((m:Int):Rat)=0→m=0:=fun m hm=>by
   rcases Rat.mul_eq_zero.1 hm with h | h
   ·exact absurd h hc
   ·exact Rat.intCast_eq_zero_iff.1 h
  exact hn ⟨z _ (h1 ▸ e1),z _ (h2 ▸ e2),z _ (h3 ▸ e3),z _ (h4 ▸ e4)⟩
 have hx':x=a1∨x=a2∨x=a3∨x=a4:=by
  rcases hx with rfl | rfl | rfl | rfl
  ·exact .inl (h.trans h1.symm)
  ·exact .inr (.inl (h.trans h2.symm))
  ·exact .inr (.inr (.inl (h.trans h3.symm)))
  ·exact .inr (.inr (.inr (h.trans h4.symm)))
 rw [wz_qprim a1 a2 a3 a4 ha hx']
 have hd:=zL1 a1 a2 a3 a4
 have hD:=zL0 a1 a2 a3 a4
 -- each integer,times c's denominator,is n times c's numerator and the common denominator
 have key:∀ (y:Rat) (m:Int),(y.den:Int)∣zp2 a1 a2 a3 a4→y=c*((m:Int):Rat)→(c.den:Int)*wm a1 a2 a3 a4 y=(c.num*zp2 a1 a2 a3 a4)*m:=by
  intro y m hy e
  have e1:=wm_rat hy
  have e2:c*((c.den:Int):Rat)=((c.num:Int):Rat):=zr0 c
  have:(((c.den:Int)*wm a1 a2 a3 a4 y:Int):Rat)=(((c.num*zp2 a1 a2 a3 a4)*m:Int):Rat):=by
   rw [Rat.intCast_mul,Rat.intCast_mul,Rat.intCast_mul,e1,e,← e2]
   generalize ((zp2 a1 a2 a3 a4:Int):Rat)=D
   generalize ((c.den:Int):Rat)=d
   generalize ((m:Int):Rat)=mm
   grind
  exact Rat.intCast_inj.1 this
 have hdx:(x.den:Int)∣zp2 a1 a2 a3 a4:=by rcases hx' with rfl | rfl | rfl | rfl<;>first | exact hd.1 | exact hd.2.1 | exact hd.2.2.1 | exact hd.2.2.2
 have k1:=key a1 n1 hd.1 h1
 have k2:=key a2 n2 hd.2.1 h2
 have k3:=key a3 n3 hd.2.2.1 h3
 have k4:=key a4 n4 hd.2.2.2 h4
 have k:=key x n hdx h
 have hcd:=zp3 c
 have hcn:c.num≠0:=fun e=>hc (Rat.num_eq_zero.1 e)
 have ab:qgcd (wm a1 a2 a3 a4 a1) (wm a1 a2 a3 a4 a2) (wm a1 a2 a3 a4 a3) (wm a1 a2 a3 a4 a4)∣wm a1 a2 a3 a4 x:=by
  obtain ⟨h1,h2,h3,h4⟩:=zk5 (wm a1 a2 a3 a4 a1) (wm a1 a2 a3 a4 a2) (wm a1 a2 a3 a4 a3) (wm a1 a2 a3 a4 a4)
  rcases hx' with rfl | rfl | rfl | rfl<;>assumption
 have aa:qgcd n1 n2 n3 n4∣n:=by
  obtain ⟨h1,h2,h3,h4⟩:=zk5 n1 n2 n3 n4
  rcases hx with rfl | rfl | rfl | rfl<;>assumption
 rw [← zW4 (k:=(c.den:Int)) (by omega) _ _ _ _ ab,k1,k2,k3,k4,k]
 exact zW4 (Int.mul_ne_zero hcn (by omega)) _ _ _ _ aa
structure RotQ (a11 a12 a13 a21 a22 a23 a31 a32 a33 w x y z:Rat):Prop where
 e11:a11*(w*w+x*x+y*y+z*z)=w*w+x*x - y*y - z*z
 e12:a12*(w*w+x*x+y*y+z*z)=2*(x*y - w*z)
 e13:a13*(w*w+x*x+y*y+z*z)=2*(x*z+w*y)
 e21:a21*(w*w+x*x+y*y+z*z)=2*(x*y+w*z)
 e22:a22*(w*w+x*x+y*y+z*z)=w*w - x*x+y*y - z*z
 e23:a23*(w*w+x*x+y*y+z*z)=2*(y*z - w*x)
 e31:a31*(w*w+x*x+y*y+z*z)=2*(x*z - w*y)
 e32:a32*(w*w+x*x+y*y+z*z)=2*(y*z+w*x)
 e33:a33*(w*w+x*x+y*y+z*z)=w*w - x*x - y*y+z*z
theorem norm_mul (a b c d p q r s:Rat):
  (a*p - b*q - c*r - d*s)*(a*p - b*q - c*r - d*s)+(a*q+b*p+c*s - d*r)*(a*q+b*p+c*s - d*r)+(a*r - b*s+c*p+d*q)*(a*r - b*s+c*p+d*q)+(a*s+b*r - c*q+d*p)*(a*s+b*r - c*q+d*p)
  =(a*a+b*b+c*c+d*d)*(p*p+q*q+r*r+s*s):=by grind
theorem yj1 {a11 a12 a13 a21 a22 a23 a31 a32 a33 ad ac ab ae ai af aa ah aj a b c d p q r s:Rat}
  (h:RotQ a11 a12 a13 a21 a22 a23 a31 a32 a33 a b c d) (g:RotQ ad ac ab ae ai af aa ah aj p q r s):
  RotQ (0+a11*ad+a12*ae+a13*aa) (0+a11*ac+a12*ai+a13*ah) (0+a11*ab+a12*af+a13*aj)
   (0+a21*ad+a22*ae+a23*aa) (0+a21*ac+a22*ai+a23*ah) (0+a21*ab+a22*af+a23*aj)
   (0+a31*ad+a32*ae+a33*aa) (0+a31*ac+a32*ai+a33*ah) (0+a31*ab+a32*af+a33*aj)
   (a*p - b*q - c*r - d*s) (a*q+b*p+c*s - d*r) (a*r - b*s+c*p+d*q) (a*s+b*r - c*q+d*p):=by
 obtain ⟨aC,ap,ak,aw,au,ax,aF,aD,al⟩:=h
 obtain ⟨az,av,ar,aE,aG,aq,aA,aB,ay⟩:=g
 have key:∀ x y z u v t X Y Z U V T N M:Rat,x*N=X→y*N=Y→z*N=Z→u*M=U→v*M=V→t*M=T→
   (0+x*u+y*v+z*t)*(N*M)=X*U+Y*V+Z*T:=by
  intro x y z u v t X Y Z U V T N M h1 h2 h3 h4 h5 h6
  subst h1 h2 h3 h4 h5 h6
  grind
 constructor<;>rw [norm_mul]
 ·rw [key _ _ _ _ _ _ _ _ _ _ _ _ _ _ aC ap ak az aE aA];grind
 ·rw [key _ _ _ _ _ _ _ _ _ _ _ _ _ _ aC ap ak av aG aB];grind
 ·rw [key _ _ _ _ _ _ _ _ _ _ _ _ _ _ aC ap ak ar aq ay];grind
 ·rw [key _ _ _ _ _ _ _ _ _ _ _ _ _ _ aw au ax az aE aA];grind
 ·rw [key _ _ _ _ _ _ _ _ _ _ _ _ _ _ aw au ax av aG aB];grind
 ·rw [key _ _ _ _ _ _ _ _ _ _ _ _ _ _ aw au ax ar aq ay];grind
 ·rw [key _ _ _ _ _ _ _ _ _ _ _ _ _ _ aF aD al az aE aA];grind
 ·rw [key _ _ _ _ _ _ _ _ _ _ _ _ _ _ aF aD al av aG aB];grind
 ·rw [key _ _ _ _ _ _ _ _ _ _ _ _ _ _ aF aD al ar aq ay];grind
theorem rotq_tr {a11 a12 a13 a21 a22 a23 a31 a32 a33 w x y z:Rat} (h:RotQ a11 a12 a13 a21 a22 a23 a31 a32 a33 w x y z):
  RotQ a11 a21 a31 a12 a22 a32 a13 a23 a33 w (-x) (-y) (-z):=by
 obtain ⟨h11,h12,h13,h21,h22,h23,h31,h32,h33⟩:=h
 have e:w*w+-x*-x+-y*-y+-z*-z=w*w+x*x+y*y+z*z:=by grind
 constructor<;>rw [e]<;>grind
theorem yw1:RotQ 1 0 0 0 1 0 0 0 1 1 0 0 0:=by constructor<;>grind
theorem nq_ne {w x y z:Rat} (h:¬(w=0∧x=0∧y=0∧z=0)):w*w+x*x+y*y+z*z≠0:=by
 intro e
 have sq:∀ t:Rat,0≤t*t:=fun t=>by
  rcases (Rat.le_total:(0:Rat)≤t∨t≤0) with ht | ht
  ·exact Rat.mul_nonneg ht ht
  ·have:=Rat.mul_nonneg (show (0:Rat)≤-t by grind) (show (0:Rat)≤-t by grind)
   grind
 have s1:=sq w;have s2:=sq x;have s3:=sq y;have s4:=sq z
 have z0:∀ t:Rat,t*t=0→t=0:=fun t ht=>by rcases Rat.mul_eq_zero.1 ht with h | h<;>exact h
 exact h ⟨z0 _ (by grind),z0 _ (by grind),z0 _ (by grind),z0 _ (by grind)⟩
theorem ze9 {N a b:Rat} (hN:N≠0) (h:a*N=b*N):a=b:=by grind
theorem zW6 {a11 a12 a13 a21 a22 a23 a31 a32 a33 w x y z k:Rat} (hk:k≠0) (h:RotQ a11 a12 a13 a21 a22 a23 a31 a32 a33 (k*w) (k*x) (k*y) (k*z)):
  RotQ a11 a12 a13 a21 a22 a23 a31 a32 a33 w x y z:=by
 obtain ⟨h11,h12,h13,h21,h22,h23,h31,h32,h33⟩:=h
 have hk2:k*k≠0:=fun e=>by rcases Rat.mul_eq_zero.1 e with h | h<;>exact hk h
 constructor<;>apply ze9 hk2<;>grind
theorem yc2 {a11 a12 a13 a21 a22 a23 a31 a32 a33 ab af ae ac ai aa ad ah aj w x y z:Rat} (h0:¬(w=0∧x=0∧y=0∧z=0))
  (h:RotQ a11 a12 a13 a21 a22 a23 a31 a32 a33 w x y z) (g:RotQ ab af ae ac ai aa ad ah aj w x y z):
  a11=ab∧a12=af∧a13=ae∧a21=ac∧a22=ai∧a23=aa∧a31=ad∧a32=ah∧a33=aj:=by
 have hN:=nq_ne h0
 exact ⟨ze9 hN (h.e11.trans g.e11.symm),ze9 hN (h.e12.trans g.e12.symm),ze9 hN (h.e13.trans g.e13.symm),ze9 hN (h.e21.trans g.e21.symm),ze9 hN (h.e22.trans g.e22.symm),ze9 hN (h.e23.trans g.e23.symm),ze9 hN (h.e31.trans g.e31.symm),ze9 hN (h.e32.trans g.e32.symm),ze9 hN (h.e33.trans g.e33.symm)⟩
theorem yw2 {a11 a12 a13 a21 a22 a23 a31 a32 a33 w x y z:Rat} (h0:¬(w=0∧x=0∧y=0∧z=0))
  (h:RotQ a11 a12 a13 a21 a22 a23 a31 a32 a33 w x y z):
  0+a11*a11+a12*a12+a13*a13=1∧0+a11*a21+a12*a22+a13*a23=0∧0+a11*a31+a12*a32+a13*a33=0∧
  0+a21*a11+a22*a12+a23*a13=0∧0+a21*a21+a22*a22+a23*a23=1∧0+a21*a31+a22*a32+a23*a33=0∧
  0+a31*a11+a32*a12+a33*a13=0∧0+a31*a21+a32*a22+a33*a23=0∧0+a31*a31+a32*a32+a33*a33=1:=by
 have hN:=nq_ne h0
 have m:=yj1 h (rotq_tr h)
 have hk:w*w+x*x+y*y+z*z≠0:=hN
 have e1:w*w - x*-x - y*-y - z*-z=(w*w+x*x+y*y+z*z)*1:=by grind
 have e2:w*-x+x*w+y*-z - z*-y=(w*w+x*x+y*y+z*z)*0:=by grind
 have e3:w*-y - x*-z+y*w+z*-x=(w*w+x*x+y*y+z*z)*0:=by grind
 have e4:w*-z+x*-y - y*-x+z*w=(w*w+x*x+y*y+z*z)*0:=by grind
 rw [e1,e2,e3,e4] at m
 exact yc2 (by rintro ⟨h,_⟩;exact absurd h (by decide)) (zW6 hk m) yw1
theorem rotq_det {a11 a12 a13 a21 a22 a23 a31 a32 a33 w x y z:Rat} (h0:¬(w=0∧x=0∧y=0∧z=0))
  (h:RotQ a11 a12 a13 a21 a22 a23 a31 a32 a33 w x y z):
  a11*(a22*a33 - a23*a32)+a12*(a23*a31 - a21*a33)+a13*(a21*a32 - a22*a31)=1:=by
 have hN:=nq_ne h0
 obtain ⟨ae,ad,aa,aj,ah,ab,ai,af,ac⟩:=h
 generalize hM:w*w+x*x+y*y+z*z=N at*
 have cof:∀ p q r s P Q R S:Rat,p*N=P→q*N=Q→r*N=R→s*N=S→(p*q - r*s)*(N*N)=P*Q - R*S:=by
  intro p q r s P Q R S h1 h2 h3 h4;subst h1 h2 h3 h4;grind
 have c1:=cof _ _ _ _ _ _ _ _ ah ac ab af
 have c2:=cof _ _ _ _ _ _ _ _ ab ai aj ac
 have c3:=cof _ _ _ _ _ _ _ _ aj af ah ai
 have d1:(a22*a33 - a23*a32)*(N*N)=(w*w+x*x - y*y - z*z)*N:=by rw [c1,← hM];grind
 have d2:(a23*a31 - a21*a33)*(N*N)=(2*(x*y - w*z))*N:=by rw [c2,← hM];grind
 have d3:(a21*a32 - a22*a31)*(N*N)=(2*(x*z+w*y))*N:=by rw [c3,← hM];grind
 have f1:a22*a33 - a23*a32=a11:=by apply ze9 hN;apply ze9 hN;rw [ae];grind
 have f2:a23*a31 - a21*a33=a12:=by apply ze9 hN;apply ze9 hN;rw [ad];grind
 have f3:a21*a32 - a22*a31=a13:=by apply ze9 hN;apply ze9 hN;rw [aa];grind
 rw [f1,f2,f3]
 have:(a11*a11+a12*a12+a13*a13)*(N*N)=1*(N*N):=by
  have k:(a11*a11+a12*a12+a13*a13)*(N*N)=(a11*N)*(a11*N)+(a12*N)*(a12*N)+(a13*N)*(a13*N):=by grind
  rw [k,ae,ad,aa,← hM];grind
 exact ze9 (fun e=>by rcases Rat.mul_eq_zero.1 e with h | h<;>exact hN h) this
theorem sclN {N a m n:Rat} (hN:N≠0) (e:a*N=4*m*n):a=4*m/N*n:=by grind
theorem wzq_rot {a11 a12 a13 a21 a22 a23 a31 a32 a33:Rat} {n0 n1 n2 n3:Int} (hn:¬(n0=0∧n1=0∧n2=0∧n3=0))
  (h:RotQ a11 a12 a13 a21 a22 a23 a31 a32 a33 n0 n1 n2 n3):
  wzq (zL4 a11 a12 a13 a21 a22 a23 a31 a32 a33) 0=qprim n0 n1 n2 n3 n0∧wzq (zL4 a11 a12 a13 a21 a22 a23 a31 a32 a33) 1=qprim n0 n1 n2 n3 n1∧
  wzq (zL4 a11 a12 a13 a21 a22 a23 a31 a32 a33) 2=qprim n0 n1 n2 n3 n2∧wzq (zL4 a11 a12 a13 a21 a22 a23 a31 a32 a33) 3=qprim n0 n1 n2 n3 n3:=by
 have hq:¬((n0:Rat)=0∧(n1:Rat)=0∧(n2:Rat)=0∧(n3:Rat)=0):=by
  rintro ⟨h0,h1,h2,h3⟩
  exact hn ⟨Rat.intCast_eq_zero_iff.1 h0,Rat.intCast_eq_zero_iff.1 h1,Rat.intCast_eq_zero_iff.1 h2,Rat.intCast_eq_zero_iff.1 h3⟩
 have hN:=nq_ne hq
 have hz:∀ n:Int,(n:Rat)=0↔n=0:=fun n=>Rat.intCast_eq_zero_iff
 rw [← hz,← hz,← hz,← hz] at hn
 obtain ⟨af,ae,ab,ak,ai,ac,aj,ah,ad⟩:=h
 have fin:∀ (m:Int),(m:Rat)≠0→∀ a1 a2 a3 a4:Rat,
   a1*((n0:Rat)*n0+n1*n1+n2*n2+n3*n3)=4*m*n0→a2*((n0:Rat)*n0+n1*n1+n2*n2+n3*n3)=4*m*n1→
   a3*((n0:Rat)*n0+n1*n1+n2*n2+n3*n3)=4*m*n2→a4*((n0:Rat)*n0+n1*n1+n2*n2+n3*n3)=4*m*n3→
   wzq (a1,a2,a3,a4) 0=qprim n0 n1 n2 n3 n0∧wzq (a1,a2,a3,a4) 1=qprim n0 n1 n2 n3 n1∧wzq (a1,a2,a3,a4) 2=qprim n0 n1 n2 n3 n2∧wzq (a1,a2,a3,a4) 3=qprim n0 n1 n2 n3 n3:=by
  intro m hm a1 a2 a3 a4 e1 e2 e3 e4
  have hn':¬(n0=0∧n1=0∧n2=0∧n3=0):=by rw [← hz,← hz,← hz,← hz];exact hn
  generalize hM:(n0:Rat)*n0+n1*n1+n2*n2+n3*n3=N at*
  have hc:4*(m:Rat)/N≠0:=by grind
  have sc:∀ (a:Rat) (n:Int),a*N=4*m*n→a=4*(m:Rat)/N*((n:Int):Rat):=fun a n e=>sclN hN e
  have s1:=sc _ _ e1;have s2:=sc _ _ e2;have s3:=sc _ _ e3;have s4:=sc _ _ e4
  exact ⟨wz_of hc hn' (.inl rfl) s1 s2 s3 s4 s1,wz_of hc hn' (.inr (.inl rfl)) s1 s2 s3 s4 s2,wz_of hc hn' (.inr (.inr (.inl rfl))) s1 s2 s3 s4 s3,wz_of hc hn' (.inr (.inr (.inr rfl))) s1 s2 s3 s4 s4⟩
 have zz:∀ (a:Rat) (n:Int),a*((n0:Rat)*n0+n1*n1+n2*n2+n3*n3)=4*n*n→(sgn a.num=0↔(n:Rat)=0):=by
  intro a n e
  rw [zc2,Rat.num_eq_zero]
  constructor
  ·intro ha;rw [ha] at e
   have:(n:Rat)*n=0:=by grind
   rcases Rat.mul_eq_zero.1 this with h | h<;>exact h
  ·intro aa;rw [aa] at e;apply ze9 hN;rw [e];grind
 have d0:=zz ((((0+1)+a11)+a22)+a33) n0 (by grind)
 have d1:=zz ((1+a11) - (a22+a33)) n1 (by grind)
 have d2:=zz ((1+a22) - (a11+a33)) n2 (by grind)
 unfold zL4
 split
 ·next c0=>
  have c0:=d0.1 c0
  split
  ·next c1=>
   have c1:=d1.1 c1
   split
   ·next c2=>
    have c2:=d2.1 c2
    exact fin n3 (fun e=>hn ⟨c0,c1,c2,e⟩) _ _ _ _ (by grind) (by grind) (by grind) (by grind)
   ·next c2=>exact fin n2 (fun e=>c2 (d2.2 e)) _ _ _ _ (by grind) (by grind) (by grind) (by grind)
  ·next c1=>exact fin n1 (fun e=>c1 (d1.2 e)) _ _ _ _ (by grind) (by grind) (by grind) (by grind)
 ·next c0=>exact fin n0 (fun e=>c0 (d0.2 e)) _ _ _ _ (by grind) (by grind) (by grind) (by grind)
theorem yn4 {a:Rat} {n d:Int} (hd:0<d) (h:a*(d:Rat)=(n:Rat)):a.num.natAbs≤n.natAbs∧(a.den:Int)≤d:=by
 have e:=zr0 a
 have hp:=zp3 a
 have k:a.num*d=n*(a.den:Int):=by
  have:((a.num*d:Int):Rat)=((n*(a.den:Int):Int):Rat):=by
   rw [Rat.intCast_mul,Rat.intCast_mul,← h,← e]
   generalize ((a.den:Int):Rat)=x
   generalize (d:Rat)=y
   grind
  exact Rat.intCast_inj.1 this
 have hdvd:(a.den:Int)∣a.num*d:=⟨n,by rw [k,Int.mul_comm]⟩
 have h2:(a.den:Int)∣d:=by
  have h1:a.den∣a.num.natAbs*d.natAbs:=by
   have:=Int.natAbs_dvd_natAbs.2 hdvd
   rwa [Int.natAbs_mul] at this
  have h3:=Nat.Coprime.dvd_of_dvd_mul_left (Nat.coprime_comm.1 a.reduced) h1
  rcases Int.natAbs_eq d with e | e
  ·rw [e];exact Int.ofNat_dvd.2 h3
  ·rw [e];exact Int.dvd_neg.2 (Int.ofNat_dvd.2 h3)
 obtain ⟨c,hc⟩:=h2
 have hcp:0<c:=by
  rcases Int.lt_or_le 0 c with h | h
  ·exact h
  ·have:=Int.mul_nonpos_of_nonneg_of_nonpos (Int.le_of_lt hp) h;omega
 have hn:n=a.num*c:=by
  rw [hc,← Int.mul_assoc,Int.mul_right_comm] at k
  exact (Int.eq_of_mul_eq_mul_right (by omega) k).symm
 constructor
 ·rw [hn,Int.natAbs_mul]
  exact Nat.le_mul_of_pos_right _ (by omega)
 ·rw [hc]
  have:=Int.mul_le_mul_of_nonneg_left (show 1≤c by omega) (Int.le_of_lt hp)
  omega
theorem yv7 {k:Nat} {a:Rat} {n d:Int} (hd:0<d) (h:a*(d:Rat)=(n:Rat)) (h1:n.natAbs<2 ^ k) (h2:d<2 ^ k):RS k a:=by
 obtain ⟨e1,e2⟩:=yn4 hd h
 refine ⟨Nat.lt_of_le_of_lt e1 h1,?_⟩
 unfold Sz
 have:((2 ^ k:Nat):Int)=2 ^ k:=by simp
 have:=zp3 a
 omega
theorem zD7 {a b:Int} (h1:-b≤a) (h2:a≤b):0≤a*a∧a*a≤b*b:=by
 have hb:0≤b:=by omega
 refine ⟨?_,?_⟩
 ·rcases Int.le_total 0 a with h | h
  ·exact Int.mul_nonneg h h
  ·exact Int.mul_nonneg_of_nonpos_of_nonpos h h
 ·rcases Int.le_total 0 a with h | h
  ·exact Int.mul_le_mul h2 h2 h hb
  ·have:=Int.mul_le_mul (show -a≤b by omega) (show -a≤b by omega) (by omega) hb
   rwa [Int.neg_mul_neg] at this
theorem yb9 {a11 a12 a13 a21 a22 a23 a31 a32 a33:Rat} {w x y z:Int} (h0:¬(w=0∧x=0∧y=0∧z=0))
  (b0:-1000000≤w∧w≤1000000) (b1:-1000000≤x∧x≤1000000) (b2:-1000000≤y∧y≤1000000) (b3:-1000000≤z∧z≤1000000)
  (h:RotQ a11 a12 a13 a21 a22 a23 a31 a32 a33 w x y z):
  RS 50 a11∧RS 50 a12∧RS 50 a13∧RS 50 a21∧RS 50 a22∧RS 50 a23∧RS 50 a31∧RS 50 a32∧RS 50 a33:=by
 obtain ⟨ah,ac,aa,ae,ad,af,aj,ai,ab⟩:=h
 have sw:=zD7 b0.1 b0.2;have sx:=zD7 b1.1 b1.2;have sy:=zD7 b2.1 b2.2;have sz:=zD7 b3.1 b3.2
 have hN:0<w*w+x*x+y*y+z*z:=by
  have z0:∀ t:Int,t*t=0→t=0:=fun t ht=>by rcases Int.mul_eq_zero.1 ht with h | h<;>exact h
  rcases Int.lt_or_le 0 (w*w+x*x+y*y+z*z) with h | h
  ·exact h
  ·exact absurd ⟨z0 _ (by omega),z0 _ (by omega),z0 _ (by omega),z0 _ (by omega)⟩ h0
 have pr:∀ p q:Int,-1000000≤p∧p≤1000000→-1000000≤q∧q≤1000000→-1000000000000≤p*q∧p*q≤1000000000000:=by
  intro p q hp hq
  have s1:=zD7 (a:=p+q) (b:=2000000) (by omega) (by omega)
  have s2:=zD7 (a:=p - q) (b:=2000000) (by omega) (by omega)
  have e1:(p+q)*(p+q)=p*p+2*(p*q)+q*q:=by grind
  have e2:(p - q)*(p - q)=p*p - 2*(p*q)+q*q:=by grind
  have:=zD7 hp.1 hp.2
  have:=zD7 hq.1 hq.2
  have e3:(p+q)*(p+q) - (p - q)*(p - q)=4*(p*q):=by grind
  omega
 have wx:=pr w x b0 b1;have wy:=pr w y b0 b2;have wz:=pr w z b0 b3;have xy:=pr x y b1 b2;have xz:=pr x z b1 b3;have yz:=pr y z b2 b3
 have go:∀ (a:Rat) (n:Int),a*(w*w+x*x+y*y+z*z)=(n:Rat)→n.natAbs<2 ^ 50→RS 50 a:=by
  intro a n e hn
  refine yv7 (n:=n) hN ?_ hn (by omega)
  rw [Rat.intCast_add,Rat.intCast_add,Rat.intCast_add,Rat.intCast_mul,Rat.intCast_mul,Rat.intCast_mul,Rat.intCast_mul];exact e
 refine ⟨go _ (w*w+x*x - y*y - z*z) (ah.trans ?_) (by omega),go _ (2*(x*y - w*z)) (ac.trans ?_) (by omega),go _ (2*(x*z+w*y)) (aa.trans ?_) (by omega),
  go _ (2*(x*y+w*z)) (ae.trans ?_) (by omega),go _ (w*w - x*x+y*y - z*z) (ad.trans ?_) (by omega),go _ (2*(y*z - w*x)) (af.trans ?_) (by omega),
  go _ (2*(x*z - w*y)) (aj.trans ?_) (by omega),go _ (2*(y*z+w*x)) (ai.trans ?_) (by omega),go _ (w*w - x*x - y*y+z*z) (ab.trans ?_) (by omega)⟩<;>
  simp only [Rat.intCast_add,Rat.intCast_sub,Rat.intCast_mul]<;>rfl
theorem yv8 {a11 a12 a13 a21 a22 a23 a31 a32 a33 ab af ae ac ah aa ad ai aj:Rat} {a b c d p q r s n0 n1 n2 n3:Int}
  (h:RotQ a11 a12 a13 a21 a22 a23 a31 a32 a33 a b c d) (g:RotQ ab af ae ac ah aa ad ai aj p q r s)
  (h0:n0=a*p - b*q - c*r - d*s) (h1:n1=a*q+b*p+c*s - d*r) (h2:n2=a*r - b*s+c*p+d*q) (h3:n3=a*s+b*r - c*q+d*p):
  RotQ (0+a11*ab+a12*ac+a13*ad) (0+a11*af+a12*ah+a13*ai) (0+a11*ae+a12*aa+a13*aj)
   (0+a21*ab+a22*ac+a23*ad) (0+a21*af+a22*ah+a23*ai) (0+a21*ae+a22*aa+a23*aj)
   (0+a31*ab+a32*ac+a33*ad) (0+a31*af+a32*ah+a33*ai) (0+a31*ae+a32*aa+a33*aj)
   n0 n1 n2 n3:=by
 have m:=yj1 h g
 rw [h0,h1,h2,h3]
 simp only [Rat.intCast_add,Rat.intCast_sub,Rat.intCast_mul]
 exact m
theorem nq_int {w x y z:Int} (h:¬(w=0∧x=0∧y=0∧z=0)):¬((w:Rat)=0∧(x:Rat)=0∧(y:Rat)=0∧(z:Rat)=0):=by
 rintro ⟨h0,h1,h2,h3⟩
 exact h ⟨Rat.intCast_eq_zero_iff.1 h0,Rat.intCast_eq_zero_iff.1 h1,Rat.intCast_eq_zero_iff.1 h2,Rat.intCast_eq_zero_iff.1 h3⟩
theorem yv9 (a b c d p q r s:Int):
  (a*p - b*q - c*r - d*s)*(a*p - b*q - c*r - d*s)+(a*q+b*p+c*s - d*r)*(a*q+b*p+c*s - d*r)+(a*r - b*s+c*p+d*q)*(a*r - b*s+c*p+d*q)+(a*s+b*r - c*q+d*p)*(a*s+b*r - c*q+d*p)
  =(a*a+b*b+c*c+d*d)*(p*p+q*q+r*r+s*s):=by grind
theorem yc0 {w x y z:Int} (h:¬(w=0∧x=0∧y=0∧z=0)):0<w*w+x*x+y*y+z*z:=by
 have sq:∀ t:Int,0≤t*t:=fun t=>by
  rcases Int.le_total 0 t with h | h
  ·exact Int.mul_nonneg h h
  ·exact Int.mul_nonneg_of_nonpos_of_nonpos h h
 have z0:∀ t:Int,t*t=0→t=0:=fun t ht=>by rcases Int.mul_eq_zero.1 ht with h | h<;>exact h
 have s1:=sq w;have s2:=sq x;have s3:=sq y;have s4:=sq z
 rcases Int.lt_or_le 0 (w*w+x*x+y*y+z*z) with hp | hp
 ·exact hp
 ·exact absurd ⟨z0 _ (by omega),z0 _ (by omega),z0 _ (by omega),z0 _ (by omega)⟩ h
theorem qmul_ne {a b c d p q r s n0 n1 n2 n3:Int} (h:¬(a=0∧b=0∧c=0∧d=0)) (g:¬(p=0∧q=0∧r=0∧s=0))
  (h0:n0=a*p - b*q - c*r - d*s) (h1:n1=a*q+b*p+c*s - d*r) (h2:n2=a*r - b*s+c*p+d*q) (h3:n3=a*s+b*r - c*q+d*p):
  ¬(n0=0∧n1=0∧n2=0∧n3=0):=by
 rintro ⟨e0,e1,e2,e3⟩
 have:=yv9 a b c d p q r s
 rw [← h0,← h1,← h2,← h3,e0,e1,e2,e3] at this
 have k:=Int.mul_pos (yc0 h) (yc0 g)
 rw [← this] at k
 exact absurd k (by decide)
theorem ze8 {B C p q:Int} (hp:-B≤p∧p≤B) (hq:-C≤q∧q≤C):-(B*C)≤p*q∧p*q≤B*C:=by
 have hB:0≤B:=by omega
 have hC:0≤C:=by omega
 have h:(p*q).natAbs≤(B*C).natAbs:=by
  rw [Int.natAbs_mul,Int.natAbs_mul]
  exact Nat.mul_le_mul (by omega) (by omega)
 have:=Int.mul_nonneg hB hC
 omega
structure VT (q0 q1 q2 q3:Int):Prop where
 b0:-12≤q0∧q0≤12
 b1:-12≤q1∧q1≤12
 b2:-12≤q2∧q2≤12
 b3:-12≤q3∧q3≤12
 g:qgcd q0 q1 q2 q3=1
 s:qsgn q0 q1 q2 q3=1
def chk (q0 q1 q2 q3 e:Int):Int:=
 if q0=0∧q1=0∧q2=0∧q3=0 then 19
 else if ¬((-12≤q0∧q0≤12)∧(-12≤q1∧q1≤12)∧(-12≤q2∧q2≤12)∧(-12≤q3∧q3≤12)) then 2
 else if ¬(qgcd q0 q1 q2 q3=1∧qsgn q0 q1 q2 q3=1) then 3 else e
theorem zm3 {q0 q1 q2 q3:Int} (h:¬(q0=0∧q1=0∧q2=0∧q3=0)):qsgn q0 q1 q2 q3=1∨qsgn q0 q1 q2 q3=-1:=by
 have k:∀ z:Int,z≠0→sgn z=1∨sgn z=-1:=fun z hz=>by unfold sgn;split<;>(try split)<;>omega
 unfold qsgn
 split
 ·split
  ·split
   ·exact k _ (by omega)
   ·exact k _ (by omega)
  ·exact k _ (by omega)
 ·exact k _ (by omega)
theorem VT.ne {q0 q1 q2 q3:Int} (h:VT q0 q1 q2 q3):¬(q0=0∧q1=0∧q2=0∧q3=0):=by
 rintro ⟨rfl,rfl,rfl,rfl⟩;exact absurd h.s (by decide)
theorem VT.chk {q0 q1 q2 q3:Int} (h:VT q0 q1 q2 q3) (e:Int):chk q0 q1 q2 q3 e=e:=by
 unfold _root_.Go.Proofs.YtaldbfflkpgfoaaGreatDoor.chk
 rw [if_neg h.ne,if_neg (by simp only [Classical.not_not];exact ⟨h.b0,h.b1,h.b2,h.b3⟩),if_neg (by simp only [Classical.not_not];exact ⟨h.g,h.s⟩)]
theorem chk_ok {q0 q1 q2 q3 e:Int} (h:chk q0 q1 q2 q3 e=0):VT q0 q1 q2 q3∧e=0:=by
 unfold chk at h
 split at h
 ·omega
 ·split at h
  ·omega
  ·next h1 h2=>
   split at h
   ·omega
   ·next h3=>
    simp only [Classical.not_not] at h2 h3
    exact ⟨⟨h2.1,h2.2.1,h2.2.2.1,h2.2.2.2,h3.1,h3.2⟩,h⟩
theorem VT.prim {q0 q1 q2 q3:Int} (h:VT q0 q1 q2 q3) (n:Int):qprim q0 q1 q2 q3 n=n:=by
 unfold qprim;rw [h.g,h.s,Int.ediv_one,Int.mul_one]
theorem zN5 {q0 q1 q2 q3 n:Int} (h0:¬(q0=0∧q1=0∧q2=0∧q3=0)) (h:qgcd q0 q1 q2 q3∣n):Int.tdiv n (qgcd q0 q1 q2 q3*qsgn q0 q1 q2 q3)=qprim q0 q1 q2 q3 n:=by
 have hg:=zs8 h0
 unfold qprim
 obtain ⟨c,rfl⟩:=h
 generalize qgcd q0 q1 q2 q3=g at*
 rw [Int.mul_ediv_cancel_left _ (by omega)]
 rcases zm3 h0 with e | e
 ·rw [e,Int.mul_one,Int.mul_one,Int.mul_tdiv_cancel_left _ (by omega)]
 ·rw [e,Int.mul_neg,Int.mul_one,Int.tdiv_neg,Int.mul_tdiv_cancel_left _ (by omega)];omega
theorem qprim_ok {q0 q1 q2 q3:Int} (h0:¬(q0=0∧q1=0∧q2=0∧q3=0)):
  qgcd (qprim q0 q1 q2 q3 q0) (qprim q0 q1 q2 q3 q1) (qprim q0 q1 q2 q3 q2) (qprim q0 q1 q2 q3 q3)=1∧qsgn (qprim q0 q1 q2 q3 q0) (qprim q0 q1 q2 q3 q1) (qprim q0 q1 q2 q3 q2) (qprim q0 q1 q2 q3 q3)=1:=by
 have hg:=zs8 h0
 obtain ⟨d0,d1,d2,d3⟩:=zk5 q0 q1 q2 q3
 have hs:=zm3 h0
 have hk:qgcd q0 q1 q2 q3*qsgn q0 q1 q2 q3≠0:=Int.mul_ne_zero (by omega) (by omega)
 have go:∀ n,qgcd q0 q1 q2 q3∣n→n=qgcd q0 q1 q2 q3*qsgn q0 q1 q2 q3*qprim q0 q1 q2 q3 n:=by
  intro n ⟨c,hc⟩
  unfold qprim
  rw [hc]
  generalize qgcd q0 q1 q2 q3=g at*
  rw [Int.mul_ediv_cancel_left _ (by omega)]
  rcases hs with e | e<;>rw [e]<;>grind
 have e0:=go _ d0;have e1:=go _ d1;have e2:=go _ d2;have e3:=go _ d3
 generalize aa:qprim q0 q1 q2 q3 q0=p0 at*
 generalize ac:qprim q0 q1 q2 q3 q1=p1 at*
 generalize ad:qprim q0 q1 q2 q3 q2=p2 at*
 generalize ab:qprim q0 q1 q2 q3 q3=p3 at*
 have m1:=zR1 (qgcd q0 q1 q2 q3*qsgn q0 q1 q2 q3) p0 p1 p2 p3
 have m2:=yi9 hk p0 p1 p2 p3
 rw [← e0,← e1,← e2,← e3] at m1 m2
 have hab:((qgcd q0 q1 q2 q3*qsgn q0 q1 q2 q3).natAbs:Int)=qgcd q0 q1 q2 q3:=by
  rcases hs with e | e<;>rw [e]<;>omega
 have hsg:sgn (qgcd q0 q1 q2 q3*qsgn q0 q1 q2 q3)=qsgn q0 q1 q2 q3:=by
  rcases hs with e | e<;>rw [e]<;>unfold sgn<;>split<;>(try split)<;>omega
 rw [hab] at m1
 rw [hsg] at m2
 constructor
 ·have:qgcd q0 q1 q2 q3*qgcd p0 p1 p2 p3=qgcd q0 q1 q2 q3*1:=by rw [← m1,Int.mul_one]
  exact Int.eq_of_mul_eq_mul_left (by omega) this
 ·rcases hs with e | e<;>rw [e] at m2<;>omega
theorem ze3 {q0 q1 q2 q3 n:Int} (h0:¬(q0=0∧q1=0∧q2=0∧q3=0)):(qprim q0 q1 q2 q3 n).natAbs≤n.natAbs:=by
 have hg:=zs8 h0
 unfold qprim
 have:(n/qgcd q0 q1 q2 q3).natAbs≤n.natAbs:=by
  generalize qgcd q0 q1 q2 q3=g at*
  have h1:=Int.natAbs_ediv_le_natAbs n g
  exact h1
 rcases zm3 h0 with e | e<;>rw [e]<;>omega
theorem IsInt.tight {w:World} {k m:Nat} {x y:Value} {z:Int} (h:IsInt w k x y z) (hs:Sz m z):IsInt w m x y z:=by
 obtain ⟨ao,len,cap,h1,h2,h3,_⟩:=h
 exact ⟨ao,len,cap,h1,h2,h3,hs⟩
theorem IsRat.tight {w:World} {k m:Nat} {c0 c1 c2 c3:Value} {q:Rat} (h:IsRat w k c0 c1 c2 c3 q) (hs:RS m q) (hm:64≤m):IsRat w m c0 c1 c2 c3 q:=by
 obtain ⟨h1,⟨D,h2,h3⟩,_⟩:=h
 refine ⟨h1.tight hs.1,⟨D,h2.tight ?_,h3⟩,hm⟩
 rcases h3 with rfl | ⟨rfl,_⟩
 ·exact hs.2
 ·exact Nat.two_pow_pos m
def rats:List Cl→Option (List (Nat × Rat))
 | []=>some []
 | .cr j 0 k q::.cr j1 1 _ _::.cr j2 2 _ _::.cr j3 3 _ _::r=>if Nat.beq j1 j&&Nat.beq j2 j&&Nat.beq j3 j then (match rats r with | some l=>some ((k,q)::l) | none=>none) else none
 | a::b::c::d::r=>if falC a&&nilC b&&falC c&&nilC d then (match rats r with | some l=>some ((64,0)::l) | none=>none) else none
 | _=>none
def IsRats (w:World):List Value→List (Nat × Rat)→Prop
 | [],[]=>True
 | a::b::c::d::v,x::l=>IsRat w x.1 a b c d x.2∧IsRats w v l
 | _,_=>False
theorem zB3 {n:Nn} {X:Env} {w:World}:∀ {l:List Cl} {r:List (Nat × Rat)},rats l=some r→okL n X w l→IsRats w (l.map (Cl.den X)) r
 | l,r,h,hl=>by
  unfold rats at h
  split at h
  ·cases h;trivial
  ·rename_i j k q j1 _ _ j2 _ _ j3 _ _ t
   split at h
   ·rename_i hj
    simp only [Bool.and_eq_true,Nat.beq_eq] at hj
    obtain ⟨⟨rfl,rfl⟩,rfl⟩:=hj
    split at h
    ·rename_i l' hr
     cases h
     exact ⟨(hl (.cr j3 0 k q) (by simp)).2,zB3 hr fun c hc=>hl c (by simp [hc])⟩
    ·cases h
   ·cases h
  ·rename_i a b c d t _
   split at h
   ·rename_i hh
    simp only [Bool.and_eq_true] at hh
    obtain ⟨⟨⟨h1,h2⟩,h3⟩,h4⟩:=hh
    split at h
    ·rename_i l' hr
     cases h
     refine ⟨?_,zB3 hr fun c hc=>hl c (by simp [hc])⟩
     rw [zy3 h1 (hl a (by simp)),zy4 h2,zy3 h3 (hl c (by simp)),zy4 h4]
     exact IsRat.zero w (Nat.le_refl _)
    ·cases h
   ·cases h
  ·cases h
def zy7:SV→Option (List (Nat × Rat))
 | .so (.vg l)=>rats l
 | _=>none
theorem zj9 {n:Nn} {X:Env} {w:World} {v:SV} {r:List (Nat × Rat)} (h:zy7 v=some r) (hv:v.ok n X w):∃ vs,v.den X=.agg vs.toArray∧IsRats w vs r:=by
 unfold zy7 at h
 split at h
 ·exact ⟨_,rfl,zB3 h hv⟩
 ·cases h
theorem IsRats.cons {w:World} {v:List Value} {x:Nat × Rat} {l:List (Nat × Rat)} (h:IsRats w v (x::l)):∃ a b c d u,v=a::b::c::d::u∧IsRat w x.1 a b c d x.2∧IsRats w u l:=by
 match v,h with
 | a::b::c::d::u,h=>exact ⟨a,b,c,d,u,rfl,h.1,h.2⟩
theorem IsRats.nil {w:World} {v:List Value} (h:IsRats w v []):v=[]:=by
 cases v with
 | nil=>rfl
 | cons a v=>simp [IsRats] at h
def Conv:List (Nat × Rat)→List (Nat × Rat)→Prop
 | [],[]=>True
 | (_,q)::l,(m,r)::l'=>(q=r∧RS m r∧64≤m)∧Conv l l'
 | _,_=>False
theorem IsRats.conv {w:World}:∀ {vs:List Value} {l l':List (Nat × Rat)},IsRats w vs l→Conv l l'→IsRats w vs l'
 | [],[],[],_,_=>trivial
 | a::b::c::d::vs,(k,q)::l,(m,r)::l',h,hc=>by
  obtain ⟨⟨rfl,h1,h2⟩,h3⟩:=hc
  exact ⟨h.1.tight h1 h2,IsRats.conv h.2 h3⟩
 | [],[],_::_,_,h=>by cases h
 | _,_::_,[],_,h=>by cases h
 | [],_::_,_::_,h,_=>by cases h
 | [_],_::_,_::_,h,_=>by cases h
 | [_,_],_::_,_::_,h,_=>by cases h
 | [_,_,_],_::_,_::_,h,_=>by cases h
 | _::_,[],_,h,_=>by simp [IsRats] at h
def zi0:Nat→List (Nat × Rat)→List Cl
 | _,[]=>[]
 | j,(k,q)::l=>.cr j 0 k q::.cr j 1 k q::.cr j 2 k q::.cr j 3 k q::zi0 (j+1) l
def yk7 (X:Env) (n:Nat) (vs:List Value):Env:={X with R:=fun i c=>if i<n then X.R i c else vs.getD (4*(i - n)+c) undef}
theorem zK6 {w:World} {X:Env} {n:Nn} (vs:List Value):∀ (l:List (Nat × Rat)) (us:List Value) (j m:Nat),IsRats w us l→vs.drop (4*j)=us→m=n.r+j+l.length→
  (zi0 (n.r+j) l).map (Cl.den (yk7 X n.r vs))=us∧okL ⟨n.b,m,n.z⟩ (yk7 X n.r vs) w (zi0 (n.r+j) l)
 | [],[],j,m,_,_,_=>⟨rfl,fun _ h=>by cases h⟩
 | (k,q)::l,a::b::c::d::us,j,m,h,hd,hm=>by
  have hR:∀ t,(yk7 X n.r vs).R (n.r+j) t=vs.getD (4*j+t) undef:=fun t=>by
   show (if n.r+j<n.r then _ else _)=_
   rw [if_neg (by omega),Nat.add_sub_cancel_left]
  have hg:∀ t,vs.getD (4*j+t) undef=(a::b::c::d::us).getD t undef:=fun t=>by
   rw [← hd,List.getD_eq_getElem?_getD,List.getD_eq_getElem?_getD,List.getElem?_drop]
  have e0:(yk7 X n.r vs).R (n.r+j) 0=a:=by rw [hR,hg];rfl
  have e1:(yk7 X n.r vs).R (n.r+j) 1=b:=by rw [hR,hg];rfl
  have e2:(yk7 X n.r vs).R (n.r+j) 2=c:=by rw [hR,hg];rfl
  have e3:(yk7 X n.r vs).R (n.r+j) 3=d:=by rw [hR,hg];rfl
  simp only [List.length_cons] at hm
  obtain ⟨i1,i2⟩:=zK6 (X:=X) (n:=n) vs l us (j+1) m h.2 (by
   have:=congrArg (List.drop 4) hd
   rw [List.drop_drop] at this
   simpa [Nat.mul_add] using this) (by omega)
  refine ⟨?_,fun x hx=>?_⟩
  ·simp only [zi0,List.map_cons,Cl.den,e0,e1,e2,e3]
   rw [show n.r+j+1=n.r+(j+1) by omega,i1]
  ·have hl:Nat.blt (n.r+j) m=true:=zp7 (by omega)
   have hq:IsRat w k ((yk7 X n.r vs).R (n.r+j) 0) ((yk7 X n.r vs).R (n.r+j) 1) ((yk7 X n.r vs).R (n.r+j) 2) ((yk7 X n.r vs).R (n.r+j) 3) q:=by rw [e0,e1,e2,e3];exact h.1
   simp only [zi0,List.mem_cons] at hx
   rcases hx with rfl | rfl | rfl | rfl | hx
   ·exact ⟨by simp only [Cl.lt,hl];rfl,hq⟩
   ·exact ⟨by simp only [Cl.lt,hl];rfl,hq⟩
   ·exact ⟨by simp only [Cl.lt,hl];rfl,hq⟩
   ·exact ⟨by simp only [Cl.lt,hl];rfl,hq⟩
   ·exact i2 x (by rw [show n.r+(j+1)=n.r+j+1 by omega];exact hx)
 | _::_,[],_,_,h,_,_=>by cases h
 | _::_,[_],_,_,h,_,_=>by cases h
 | _::_,[_,_],_,_,h,_,_=>by cases h
 | _::_,[_,_,_],_,_,h,_,_=>by cases h
 | [],_::_,_,_,h,_,_=>by simp [IsRats] at h
theorem yk8 (X:Env) (n:Nn) (vs:List Value):Agr n X (yk7 X n.r vs):=⟨fun _ _=>rfl,fun _ _ hi=>(if_pos hi).symm,fun _ _ _=>rfl,rfl⟩
theorem yo6 {n:Nn} {X:Env} {w w':World} {e:Ending} {l:List (Nat × Rat)} (h:(∃ vs:List Value,e=.returned (.agg vs.toArray)∧IsRats w' vs l)∧Gr w w'):(Tr.leaf (.so (.vg (zi0 n.r l))) l.length 0).holds n X w e w':=by
 obtain ⟨⟨vs,rfl,h1⟩,g⟩:=h
 obtain ⟨a,b⟩:=zK6 (X:=X) (n:=n) vs l vs 0 (n.r+l.length) h1 rfl (by omega)
 refine ⟨yk7 X n.r vs,?_,g,yk8 X n vs,b⟩
 simp only [SV.den,TV.den,dnL]
 rw [show zi0 n.r l=zi0 (n.r+0) l from rfl,a]
theorem zv1 {n:Nn} {X:Env} {w w':World} {e:Ending} {l:List (Nat × Rat)} {t:IntKind} {z:Int} (h:(∃ vs:List Value,e=.returned (.tuple #[.agg vs.toArray,.int t z])∧IsRats w' vs l)∧Gr w w'):(Tr.leaf (.st [.vg (zi0 n.r l),.vc (.ci t z z z)]) l.length 0).holds n X w e w':=by
 obtain ⟨⟨vs,rfl,h1⟩,g⟩:=h
 obtain ⟨a,b⟩:=zK6 (X:=X) (n:=n) vs l vs 0 (n.r+l.length) h1 rfl (by omega)
 refine ⟨yk7 X n.r vs,?_,g,yk8 X n vs,fun x hx=>?_⟩
 ·simp only [SV.den,TV.den,List.map,Cl.den,dnL]
  rw [show zi0 n.r l=zi0 (n.r+0) l from rfl,a]
 ·simp only [List.mem_cons,List.not_mem_nil,or_false] at hx
  rcases hx with rfl | rfl
  ·exact b
  ·exact ⟨rfl,Int.le_refl _,Int.le_refl _⟩
section
variable {P:Program} {a:Act} {o:Oper} {w:World}
theorem zq9 (t t2:TypeId) (x y:Operand) (A B C:Int) (hop:o.op=.binOp .quo t x y t2) (hx:a.eval x=.int .i64 A) (hy:a.eval y=.int .i64 B) (hC:Int.tdiv A B=C) (h1:-9223372036854775808≤C) (h2:C≤9223372036854775807) (hB:B≠0):RunV P a o w (.int .i64 C):=by
 have e2:IntKind.i64.wrap C=C:=by rw [IntKind.wrap_i64];omega
 unfold RunV execOp
 simp only [hop,hx,hy]
 simp [go_sem,binOp,eqGuard,Op.intDiv,hB,hC,e2]
end
section
variable {q0 q1 q2 q3:Int}
theorem gcd_end0 {g n a b:Int} (h:Int.gcd g n=Int.gcd a b) (hb:decide ((0:Int)<n)=false) (hg:0≤g) (hn:0≤n):g=(Int.gcd a b:Int):=by
 have:=of_decide_eq_false hb
 have h0:n=0:=by omega
 rw [h0,Int.gcd_zero_right] at h
 omega
theorem zW3:(Int.gcd (Int.gcd (Int.gcd (Int.gcd 0 (q0.natAbs:Int):Int) (q1.natAbs:Int):Int) (q2.natAbs:Int):Int) (q3.natAbs:Int):Int)=qgcd q0 q1 q2 q3:=by
 unfold qgcd;simp [Int.gcd]
theorem zQ7 {z:Int} (hz:z≠0):decide ((0:Int)<z)=decide (sgn z=1):=by
 unfold sgn
 rw [Bool.eq_iff_iff,decide_eq_true_eq,decide_eq_true_eq]
 split<;>(try split)<;>omega
theorem posq0 (h0:(q0 !=(0:Int))=true):decide ((0:Int)<q0)=decide (qsgn q0 q1 q2 q3=1):=by
 have h0:q0≠0:=by simpa using h0
 rw [show qsgn q0 q1 q2 q3=sgn q0 from if_neg h0];exact zQ7 h0
theorem posq1 (h0:(q0 !=(0:Int))=false) (h1:(q1 !=(0:Int))=true):decide ((0:Int)<q1)=decide (qsgn q0 q1 q2 q3=1):=by
 have h0:q0=0:=by simpa using h0
 have h1:q1≠0:=by simpa using h1
 rw [show qsgn q0 q1 q2 q3=sgn q1 by unfold qsgn;rw [if_pos h0,if_neg h1]];exact zQ7 h1
theorem posq2 (h0:(q0 !=(0:Int))=false) (h1:(q1 !=(0:Int))=false) (h2:(q2 !=(0:Int))=true):decide ((0:Int)<q2)=decide (qsgn q0 q1 q2 q3=1):=by
 have h0:q0=0:=by simpa using h0
 have h1:q1=0:=by simpa using h1
 have h2:q2≠0:=by simpa using h2
 rw [show qsgn q0 q1 q2 q3=sgn q2 by unfold qsgn;rw [if_pos h0,if_pos h1,if_neg h2]];exact zQ7 h2
theorem posq3 (h0:(q0 !=(0:Int))=false) (h1:(q1 !=(0:Int))=false) (h2:(q2 !=(0:Int))=false) (h3:(q3 !=(0:Int))=true):decide ((0:Int)<q3)=decide (qsgn q0 q1 q2 q3=1):=by
 have h0:q0=0:=by simpa using h0
 have h1:q1=0:=by simpa using h1
 have h2:q2=0:=by simpa using h2
 have h3:q3≠0:=by simpa using h3
 rw [show qsgn q0 q1 q2 q3=sgn q3 by unfold qsgn;rw [if_pos h0,if_pos h1,if_pos h2]];exact zQ7 h3
theorem posq4 (h0:(q0 !=(0:Int))=false) (h1:(q1 !=(0:Int))=false) (h2:(q2 !=(0:Int))=false) (h3:(q3 !=(0:Int))=false):false=decide (qsgn q0 q1 q2 q3=1):=by
 have h0:q0=0:=by simpa using h0
 have h1:q1=0:=by simpa using h1
 have h2:q2=0:=by simpa using h2
 have h3:q3=0:=by simpa using h3
 subst h0 h1 h2 h3;rfl
theorem zQ8 {n:Int} (h0:¬(q0=0∧q1=0∧q2=0∧q3=0)) (hd:qgcd q0 q1 q2 q3∣n) (hs:qsgn q0 q1 q2 q3=1):Int.tdiv n (qgcd q0 q1 q2 q3)=qprim q0 q1 q2 q3 n:=by
 have:=zN5 h0 hd
 rwa [hs,Int.mul_one] at this
theorem zQ9 {n:Int} (h0:¬(q0=0∧q1=0∧q2=0∧q3=0)) (hd:qgcd q0 q1 q2 q3∣n) (hs:qsgn q0 q1 q2 q3=-1):Int.tdiv n (0 - qgcd q0 q1 q2 q3)=qprim q0 q1 q2 q3 n:=by
 have:=zN5 h0 hd
 rwa [hs,Int.mul_neg,Int.mul_one,← Int.zero_sub] at this
end
theorem zI3 (a b c:Rat):((0+a*0+b*0+c*0)+0:Rat)=0:=by grind
def yv4 (aj ah ai af ad aa ae ab ac:Rat):Bool:=decide ([(0+aj*aj+ah*ah+ai*ai),(0+aj*af+ah*ad+ai*aa),(0+aj*ae+ah*ab+ai*ac),(0+af*aj+ad*ah+aa*ai),(0+af*af+ad*ad+aa*aa),(0+af*ae+ad*ab+aa*ac),(0+ae*aj+ab*ah+ac*ai),(0+ae*af+ab*ad+ac*aa),(0+ae*ae+ab*ab+ac*ac),((0+aj*0+ah*0+ai*0)+0),((0+af*0+ad*0+aa*0)+0),((0+ae*0+ab*0+ac*0)+0)]=[1,0,0,0,1,0,0,0,1,0,0,0])&&decide ((0:Int)<sgn (0+aj*(ad*ac - aa*ab)+ah*(aa*ae - af*ac)+ai*(af*ab - ad*ae)).num)
theorem yv5 {a11 a12 a13 a21 a22 a23 a31 a32 a33 w x y z:Rat} (h0:¬(w=0∧x=0∧y=0∧z=0)) (h:RotQ a11 a12 a13 a21 a22 a23 a31 a32 a33 w x y z):yv4 a11 a12 a13 a21 a22 a23 a31 a32 a33=true:=by
 obtain ⟨aa,ai,ab,ad,af,ac,aj,ae,ah⟩:=yw2 h0 h
 have hd:=rotq_det h0 h
 unfold yv4
 rw [Bool.and_eq_true,decide_eq_true_eq,decide_eq_true_eq,aa,ai,ab,ad,af,ac,aj,ae,ah,zI3,zI3,zI3]
 refine ⟨rfl,?_⟩
 have e:(0+a11*(a22*a33 - a23*a32)+a12*(a23*a31 - a21*a33)+a13*(a21*a32 - a22*a31):Rat)=1:=by rw [← hd];grind
 rw [e];decide
def yv6 (rg:Bool) (z0 z1 z2 z3:Int) (x y t:List UInt8):Int:=
 if rg=true then (if (-12≤z0∧z0≤12)∧(-12≤z1∧z1≤12)∧(-12≤z2∧z2≤12)∧(-12≤z3∧z3≤12) then (if ((x.length:Int)≤400)∧((y.length:Int)≤400)∧((t.length:Int)≤400) then 0 else 5) else 2) else 3
def pif (e z:Int):Int:=if e=0 then z else 0
def pit (e:Int) (x:List UInt8):List UInt8:=if e=0 then x else []
noncomputable def bd15:Code:=(ye3 100016 ((Tryz.f15.body).getD .skip)).getD .skip
noncomputable def es15:List (Nat × Ent):=[(17,.ord [(true,0),(true,1),(true,2),(true,3),(true,4),(true,5)] [])]
noncomputable def lp15 (s:Sg) (k:KT):Rs:=match s with
 | ⟨(x0::x1::x2::x3::x4::.so (.vc (.ci .i64 g lg hg))::x6::x7::x8::.so (.vc (.ci .i64 m _ _))::x10::x11::x12::x13::x14::x15::x16::x17::x18::x19::x20::x21::x22::x23::x24::x25::x26::x27::x28::x29::x30::x31::x32::x33::x34::x35::x36::x37::x38::x39::_::_::_::_::_::_::x46::x47::x48::x49::x50::x51::x52::x53::x54::x55::x56::x57::x58::x59::[]),bl,nu,nr,nz,ds⟩=>if ile 0 lg&&ile hg 9223372036854775807&&ile 0 0 then asL (decide (0≤m∧m≤9223372036854775807)) true (k (.x 4) ⟨(x0::x1::x2::x3::x4::.so (.vc (.ci .i64 (Int.gcd g m:Int) 0 9223372036854775807))::x6::x7::x8::.so (.vc (.ci .i64 0 0 0))::x10::x11::x12::x13::x14::x15::x16::x17::x18::x19::x20::x21::x22::x23::x24::x25::x26::x27::x28::x29::x30::x31::x32::x33::x34::x35::x36::x37::x38::x39::.so (.vc (.ci .i64 0 0 0))::.so (.vc (.cb false (some false)))::.sj nz 0::.sj nz 1::.sj nz 2::.sj nz 3::x46::x47::x48::x49::x50::x51::x52::x53::x54::x55::x56::x57::x58::x59::[]),bl,nu,nr,nz+1,ds⟩) else none
 | _=>none
theorem ru115 (x0 x1 x2 x3 x4 x6 x7 x8 aw aD aT aK az ad aE aL aa au aB aC ay aN aF aJ ai ax ar aP aH af aS aU ab ak ac aX aO ae aQ aM aA ap aI av aj aG aW aV aR aq ah al a2 aZ aY a3 a0 a1:SV) (g m:Int) (bl:List (Nat × List Cl)) (nu nr nz:Nat) (k:KT):zt7 Tryz.prog 0 0 (fun _ _ _ _=>none) es15 bd15 ⟨(x0::x1::x2::x3::x4::.so (.vc (.ci .i64 g 0 9223372036854775807))::x6::x7::x8::.so (.vc (.ci .i64 m 1 9223372036854775807))::aw::aD::aT::aK::az::ad::aE::aL::aa::au::aB::aC::ay::aN::aF::aJ::ai::ax::ar::aP::aH::af::aS::aU::ab::ak::ac::aX::aO::ae::a2::aZ::aY::a3::a0::a1::aQ::aM::aA::ap::aI::av::aj::aG::aW::aV::aR::aq::ah::al::[]),bl,nu,nr,nz,.e⟩ k=k .n ⟨(x0::x1::x2::x3::x4::.so (.vc (.ci .i64 m 1 9223372036854775807))::x6::x7::x8::.so (.vc (.ci .i64 (g % m) 0 (9223372036854775807 - 1)))::aw::aD::aT::aK::az::ad::aE::aL::aa::au::aB::aC::ay::aN::aF::aJ::ai::ax::ar::aP::aH::af::aS::aU::ab::ak::ac::aX::aO::ae::.so (.vc (.ci .i64 m 1 9223372036854775807))::.so (.vc (.cb (m !=0) (some true)))::.so (.vc (.ci .i64 m 1 9223372036854775807))::.so (.vc (.ci .i64 g 0 9223372036854775807))::.so (.vc (.ci .i64 m 1 9223372036854775807))::.so (.vc (.ci .i64 (g % m) 0 (9223372036854775807 - 1)))::aQ::aM::aA::ap::aI::av::aj::aG::aW::aV::aR::aq::ah::al::[]),bl,nu,nr,nz,.e⟩:=by kernel_rfl
theorem ru015 (x0 x1 x2 x3 x4 x6 x7 x8 ax aF aW aM aB ad aG aN aa av aD aE aA aP aH aL ai az au aR aJ af aV aX ab ak ac a0 aQ ae aS aO aC aq aK aw aj aI aZ aY aT ar ah al a3 a2 ap a1 ay aU:SV) (g:Int) (bl:List (Nat × List Cl)) (nu nr nz:Nat) (k:KT):zt7 Tryz.prog 0 0 (fun _ _ _ _=>none) es15 bd15 ⟨(x0::x1::x2::x3::x4::.so (.vc (.ci .i64 g 0 9223372036854775807))::x6::x7::x8::.so (.vc (.ci .i64 0 0 0))::ax::aF::aW::aM::aB::ad::aG::aN::aa::av::aD::aE::aA::aP::aH::aL::ai::az::au::aR::aJ::af::aV::aX::ab::ak::ac::a0::aQ::ae::a3::a2::ap::a1::ay::aU::aS::aO::aC::aq::aK::aw::aj::aI::aZ::aY::aT::ar::ah::al::[]),bl,nu,nr,nz,.e⟩ k=k (.x 4) ⟨(x0::x1::x2::x3::x4::.so (.vc (.ci .i64 g 0 9223372036854775807))::x6::x7::x8::.so (.vc (.ci .i64 0 0 0))::ax::aF::aW::aM::aB::ad::aG::aN::aa::av::aD::aE::aA::aP::aH::aL::ai::az::au::aR::aJ::af::aV::aX::ab::ak::ac::a0::aQ::ae::.so (.vc (.ci .i64 0 0 0))::.so (.vc (.cb false (some false)))::ap::a1::ay::aU::aS::aO::aC::aq::aK::aw::aj::aI::aZ::aY::aT::ar::ah::al::[]),bl,nu,nr,nz,.e⟩:=by kernel_rfl
theorem yr5:LpOK Tryz.prog lp15 bd15:=by
 intro Post B Q k X s w L hp hk h hL hR
 have hmx:Tryz.prog.follows .mixedOrders=true:=by kernel_rfl
 have hco:zi6 Tryz.prog es15 bd15=true:=by kernel_rfl
 have hno:noLp es15=true:=by kernel_rfl
 unfold lp15 at h
 split at h
 ·rename_i x0 x1 x2 x3 x4 g lg hg x6 x7 x8 m lm hm aM aq aS aG aN aK ar aZ aT aj aX aY ap aQ au aF aU al aW ay aw aB aR aH aJ aD aA a3 ax ah a9 a6 a8 ba bb a5 az a0 aO aE aP ak aC av aI a2 a1 aV aL ai bl nu nr nz ds
  split at h
  ·rename_i hc
   obtain ⟨L',hkk,rfl⟩:=zt1 h
   obtain ⟨hm,hL⟩:=hL
   have hm:=of_decide_eq_true hm
   simp only [Bool.and_eq_true,zh7,decide_eq_true_eq] at hc
   have hg:lg≤g∧g≤hg:=(hR.fr (.so (.vc (.ci .i64 g lg hg))) (List.mem_of_getElem? (i:=5) rfl)).2
   have r0:=((hR.ds .e).set (d:=5) (v:=.so (.vc (.ci .i64 g 0 9223372036854775807))) ⟨rfl,by omega,by omega⟩).set (d:=9) (v:=.so (.vc (.ci .i64 m 0 9223372036854775807))) ⟨rfl,hm.1,hm.2⟩
   refine zm9 (fun n a w'=>∃ (X':Env) (g' m':Int) (ac ae af ad aa ab:SV),m'.toNat=n∧a=za6 X' (x0::x1::x2::x3::x4::.so (.vc (.ci .i64 g' 0 9223372036854775807))::x6::x7::x8::.so (.vc (.ci .i64 m' 0 9223372036854775807))::aM::aq::aS::aG::aN::aK::ar::aZ::aT::aj::aX::aY::ap::aQ::au::aF::aU::al::aW::ay::aw::aB::aR::aH::aJ::aD::aA::a3::ax::ah::ac::ae::af::ad::aa::ab::az::a0::aO::aE::aP::ak::aC::av::aI::a2::a1::aV::aL::ai::[])∧Rep B X' ⟨(x0::x1::x2::x3::x4::.so (.vc (.ci .i64 g' 0 9223372036854775807))::x6::x7::x8::.so (.vc (.ci .i64 m' 0 9223372036854775807))::aM::aq::aS::aG::aN::aK::ar::aZ::aT::aj::aX::aY::ap::aQ::au::aF::aU::al::aW::ay::aw::aB::aR::aH::aJ::aD::aA::a3::ax::ah::ac::ae::af::ad::aa::ab::az::a0::aO::aE::aP::ak::aC::av::aI::a2::a1::aV::aL::ai::[]),bl,nu,nr,nz,.e⟩ w'∧Int.gcd g' m'=Int.gcd g m∧(0≤g'∧g'≤9223372036854775807)∧0≤m'∧m'≤9223372036854775807) m.toNat ⟨X,g,m,a9,a6,a8,ba,bb,a5,rfl,rfl,r0,rfl,⟨by omega,by omega⟩,hm⟩ ?_
   rintro _ _ w' ⟨X',g',m',ac,ae,af,ad,aa,ab,rfl,rfl,hR',hgcd,g0,m0⟩ K hK
   by_cases hz:m'=0
   ·subst hz
    refine yC5 (Q:=Exit.then K Q) hmx hco hno (hp.then K) (ru015 x0 x1 x2 x3 x4 x6 x7 x8 aM aq aS aG aN aK ar aZ aT aj aX aY ap aQ au aF aU al aW ay aw aB aR aH aJ aD aA a3 ax ah az a0 aO aE aP ak aC av aI a2 a1 aV aL ai ac ae af ad aa ab g' bl nu nr nz) (hR'.set (d:=9) (v:=.so (.vc (.ci .i64 0 0 0))) ⟨rfl,Int.le_refl _,Int.le_refl _⟩) fun X2 w2 a4=>?_
    obtain ⟨X3,a7,he⟩:=a4.junk [42,43,44,45]
    have eg:g'=(Int.gcd g m:Int):=by rw [Int.gcd_zero_right] at hgcd;omega
    subst eg
    exact (congrArg (fun a=>Q (.exit 4) a w2) he).mp (hk (.x 4) _ X3 w2 L' hkk hL (a7.ds ds))
   ·refine yC5 (Q:=Exit.then K Q) hmx hco hno (hp.then K) (ru115 x0 x1 x2 x3 x4 x6 x7 x8 aM aq aS aG aN aK ar aZ aT aj aX aY ap aQ au aF aU al aW ay aw aB aR aH aJ aD aA a3 ax ah az a0 aO aE aP ak aC av aI a2 a1 aV aL ai ac ae af ad aa ab g' m' bl nu nr nz) (hR'.set (d:=9) (v:=.so (.vc (.ci .i64 m' 1 9223372036854775807))) ⟨rfl,by omega,m0.2⟩) fun X2 w2 a4=>?_
    have e1:=Int.emod_nonneg g' hz
    have e2:=Int.emod_lt_of_pos g' (show 0<m' by omega)
    refine hK (g' % m').toNat _ _ (by omega) ⟨X2,m',g' % m',_,_,_,_,_,_,rfl,rfl,(a4.set (d:=5) (v:=.so (.vc (.ci .i64 m' 0 9223372036854775807))) ⟨rfl,by omega,m0.2⟩).set (d:=9) (v:=.so (.vc (.ci .i64 (g' % m') 0 9223372036854775807))) ⟨rfl,e1,by omega⟩,(zX7 g0.1 (by omega)).trans hgcd,⟨by omega,m0.2⟩,e1,by omega⟩
  ·cases h
 ·cases h
noncomputable def ym0:List (Nat × Ent):=(100016,.lp lp15)::es15
section
variable {qq0 qq1 qq2 qq3:Int}
theorem qsgn0 (h:(qq0==(0:Int))=false):qsgn qq0 qq1 qq2 qq3=sgn qq0∧qq0≠0:=by
 have h:qq0≠0:=by simpa using h
 exact ⟨if_neg h,h⟩
theorem qsgn1 (h0:(qq0==(0:Int))=true) (h:(qq1==(0:Int))=false):qsgn qq0 qq1 qq2 qq3=sgn qq1∧qq1≠0:=by
 have h0:qq0=0:=by simpa using h0
 have h:qq1≠0:=by simpa using h
 refine ⟨?_,h⟩
 unfold qsgn;rw [if_pos h0,if_neg h]
theorem qsgn2 (h0:(qq0==(0:Int))=true) (h1:(qq1==(0:Int))=true) (h:(qq2==(0:Int))=false):qsgn qq0 qq1 qq2 qq3=sgn qq2∧qq2≠0:=by
 have h0:qq0=0:=by simpa using h0
 have h1:qq1=0:=by simpa using h1
 have h:qq2≠0:=by simpa using h
 refine ⟨?_,h⟩
 unfold qsgn;rw [if_pos h0,if_pos h1,if_neg h]
theorem qsgn3 (h0:(qq0==(0:Int))=true) (h1:(qq1==(0:Int))=true) (h2:(qq2==(0:Int))=true) (hz:¬(qq0=0∧qq1=0∧qq2=0∧qq3=0)):qsgn qq0 qq1 qq2 qq3=sgn qq3∧qq3≠0:=by
 have h0:qq0=0:=by simpa using h0
 have h1:qq1=0:=by simpa using h1
 have h2:qq2=0:=by simpa using h2
 refine ⟨?_,fun h3=>hz ⟨h0,h1,h2,h3⟩⟩
 unfold qsgn;rw [if_pos h0,if_pos h1,if_pos h2]
theorem chk_g {g E:Int} (hG:g=qgcd qq0 qq1 qq2 qq3) (h:(g !=(1:Int))=true):(3:Int)=(if ¬(qgcd qq0 qq1 qq2 qq3=1∧qsgn qq0 qq1 qq2 qq3=1) then 3 else E):=by
 rw [if_pos]
 rintro ⟨h1,_⟩
 rw [hG,h1] at h;exact absurd h (by decide)
theorem chk_s {s E:Int} (hS:qsgn qq0 qq1 qq2 qq3=sgn s∧s≠0) (h:decide (s<(0:Int))=true):(3:Int)=(if ¬(qgcd qq0 qq1 qq2 qq3=1∧qsgn qq0 qq1 qq2 qq3=1) then 3 else E):=by
 rw [if_pos]
 rintro ⟨_,h1⟩
 rw [hS.1] at h1
 have h:=of_decide_eq_true h
 unfold sgn at h1;rw [if_pos h] at h1;omega
theorem chk_e {g s E:Int} (hG:g=qgcd qq0 qq1 qq2 qq3) (hg:(g !=(1:Int))=false) (hS:qsgn qq0 qq1 qq2 qq3=sgn s∧s≠0) (h:decide (s<(0:Int))=false):E=(if ¬(qgcd qq0 qq1 qq2 qq3=1∧qsgn qq0 qq1 qq2 qq3=1) then 3 else E):=by
 rw [if_neg]
 simp only [Classical.not_not]
 have h:=of_decide_eq_false h
 have hs:=hS.2
 refine ⟨by rw [← hG];simpa using hg,?_⟩
 rw [hS.1];unfold sgn;rw [if_neg h,if_neg hs]
end
def cVPv:ConT:=fun args nr _=>match args with
 | [.so (.vg [c1,c2,c3])]=>match txC c1,txC c2,txC c3 with
  | some (k1,x1),some (k2,x2),some (k3,x3)=>tr (Nat.ble k1 64&&Nat.ble k2 64&&Nat.ble k3 64) (.leaf (.st [.vg (zi0 nr [(64,x1),(64,x2),(64,x3)]),.vc (.ci .i64 0 0 0)]) 3 0)
  | _,_,_=>none
 | _=>none
theorem cVPv_ok {I:World→Prop} (hI:∀ w,I w→Mx w):ConOK Tryz.prog I 57 cVPv:=by
 intro args E n w T hw ha hT _
 unfold cVPv at hT
 split at hT
 ·rename_i c1 c2 c3
  split at hT
  ·rename_i k1 x1 k2 x2 k3 x3 e1 e2 e3
   obtain ⟨hb,rfl⟩:=zd1 hT
   simp only [Bool.and_eq_true,Nat.ble_eq] at hb
   obtain ⟨⟨b4,b5⟩,b6⟩:=hb
   have g:=fun c hc=>ha _ (List.mem_singleton.2 rfl) c hc
   obtain ⟨d1,s1⟩:=zl0 e1 (g c1 (by simp))
   obtain ⟨d2,s2⟩:=zl0 e2 (g c2 (by simp))
   obtain ⟨d3,s3⟩:=zl0 e3 (g c3 (by simp))
   have s1:=s1.mono b4
   have s2:=s2.mono b5
   have s3:=s3.mono b6
   have le:∀ {x:Rat},RS 64 x→((za1 x).length:Int)≤400:=fun h=>by have:=zn4 h.1 h.2;omega
   show Calls _ _ #[.agg #[c1.den E,c2.den E,c3.den E]] w _
   rw [d1,d2,d3]
   refine (vparse_v (k:=64) x1 x2 x3 s1 s2 s3 (by decide) (by decide) (le s1) (le s2) (le s3) w (hI w hw)).mono fun e w' he=>zv1 ?_
   obtain ⟨⟨t0,t1,t2,t3,t4,t5,t6,t7,t8,t9,aa,ab,rfl,h1,h2,h3⟩,g⟩:=he
   exact ⟨⟨[t0,t1,t2,t3,t4,t5,t6,t7,t8,t9,aa,ab],rfl,h1,h2,h3,trivial⟩,g⟩
  ·cases hT
 ·cases hT
noncomputable def sysCk:Sys:=⟨Tryz.prog,2,199,[(15,ym0)],[(57,cVPv)],Mx⟩
theorem sysCk_ok:sysCk.OK where
 mixed:=by kernel_rfl
 calls:=fun f h0 h1=>by
  have:(List.range 199).all (fun f=>Nat.blt f 2||okCall Tryz.prog f)=true:=by kernel_rfl
  have:=List.all_eq_true.1 this f (List.mem_range.2 h1)
  simp only [Bool.or_eq_true] at this
  exact this.resolve_left (fun e=>by have:=ze6 e;exact absurd h0 (by show ¬ 2≤f;omega))
 tab:=by
  have:[(15,ym0)].all (okTab Tryz.prog)=true:=by kernel_rfl
  exact fun x hx=>List.all_eq_true.1 this x hx
 lps:=fun x hx fn c h2 hb=>by
  have:x=(15,ym0):=List.mem_singleton.1 hx
  subst this
  have:fn=Tryz.f15:=Option.some.inj (h2.symm.trans Tryz.func15)
  subst this
  have:c=(Tryz.f15.body).getD .skip:=by rw [hb];rfl
  subst this
  repeat' first | exact trivial | exact yr5 | refine ⟨?_,?_⟩
 con:=fun x hx=>by
  have:x=(57,cVPv):=List.mem_singleton.1 hx
  subst this
  exact cVPv_ok fun w h=>h
 inv:=fun w w' h g=>h.gr g
def absq (q:Int):Int:=if 0 - q>q then 0 - q else q
def gq4 (q0 q1 q2 q3:Int):Int:=(Int.gcd (Int.gcd (Int.gcd (Int.gcd 0 q0:Int) q1:Int) q2:Int) q3:Int)
def re (n:Int):Lf:=.ret (.so (.vc (.ci .i64 n n n)))
def nng (m:Int) (l:Lf):Lf:=.as (decide (0≤m∧m≤9223372036854775807)) true l
def eg (fin:Lf) (g s:Int):Lf:=.br (g !=1) (re 3) (.br (decide (s<0)) (re 3) fin)
def treeG (ab:Int→Int) (fin:Lf) (q0 q1 q2 q3:Int):Lf:=nng (ab q0) (.br (q0==0)
 (nng (ab q1) (.br (q1==0)
  (nng (ab q2) (.br (q2==0) (nng (ab q3) (eg fin (gq4 (ab q0) (ab q1) (ab q2) (ab q3)) q3)) (nng (ab q3) (eg fin (gq4 (ab q0) (ab q1) (ab q2) (ab q3)) q2))))
  (nng (ab q2) (.as (q1==0) false (nng (ab q3) (eg fin (gq4 (ab q0) (ab q1) (ab q2) (ab q3)) q1))))))
 (nng (ab q1) (.as (q0==0) false (nng (ab q2) (.as (q0==0) false (nng (ab q3) (eg fin (gq4 (ab q0) (ab q1) (ab q2) (ab q3)) q0)))))))
def treeCk (q0 q1 q2 q3:Int):Lf:=.br (zz3 [q0,q1,q2,q3] [0,0,0,0]) (re 19) (treeG absq (re 0) q0 q1 q2 q3)
theorem runCk (q0 q1 q2 q3:Int) (x1 x2 x3:Rat):zP0 sysCk 15 [.so (.vg [.ci .i64 q0 (-12) 12,.ci .i64 q1 (-12) 12,.ci .i64 q2 (-12) 12,.ci .i64 q3 (-12) 12,.cw (za1 x1) (some (64,x1)),.cw (za1 x2) (some (64,x2)),.cw (za1 x3) (some (64,x3))])] 0 0 (.s .e (.s (.s (.s (.s .e (.s .e .e)) (.s .e (.s .e .e))) (.f (.s .e (.s .e .e)))) (.f (.f (.s .e (.s .e .e))))))=some (treeCk q0 q1 q2 q3):=by kernel_rfl
def CkP (E:Int) (v:SV):Prop:=∃ lo hi,v=.so (.vc (.ci .i64 E lo hi))
theorem zP9 {E n:Int} (h:n=E):LOK (CkP E) (re n):=⟨n,n,by rw [h]⟩
theorem conj0 {qq0 qq1 qq2 qq3:Int}:zz3 [qq0,qq1,qq2,qq3] [0,0,0,0]=decide (qq0=0∧qq1=0∧qq2=0∧qq3=0):=by
 rw [Bool.eq_iff_iff,decide_eq_true_eq];simp [zz3,eqL,and_assoc]
section
variable {qq0 qq1 qq2 qq3:Int} (i0:-12≤qq0∧qq0≤12) (i1:-12≤qq1∧qq1≤12) (i2:-12≤qq2∧qq2≤12) (i3:-12≤qq3∧qq3≤12)
include i0 i1 i2 i3
theorem yg4 {ab:Int→Int} (hab:∀ q,-12≤q∧q≤12→ab q=(q.natAbs:Int)) (hz:¬(qq0=0∧qq1=0∧qq2=0∧qq3=0)) {fin:Lf} {E:Int} (hf:LOK (CkP E) fin):
  LOK (CkP (if ¬(qgcd qq0 qq1 qq2 qq3=1∧qsgn qq0 qq1 qq2 qq3=1) then 3 else E)) (treeG ab fin qq0 qq1 qq2 qq3):=by
 have nn:∀ {P:SV→Prop} {q:Int} {l:Lf},-12≤q∧q≤12→LOK P l→LOK P (nng (ab q) l):=fun {P q l} h hl=>⟨decide_eq_true (by rw [hab q h];omega),hl⟩
 have hg:gq4 (ab qq0) (ab qq1) (ab qq2) (ab qq3)=qgcd qq0 qq1 qq2 qq3:=by
  unfold gq4;rw [hab _ i0,hab _ i1,hab _ i2,hab _ i3];exact zW3
 have e:∀ {s:Int},qsgn qq0 qq1 qq2 qq3=sgn s∧s≠0→LOK (CkP (if ¬(qgcd qq0 qq1 qq2 qq3=1∧qsgn qq0 qq1 qq2 qq3=1) then 3 else E)) (eg fin (gq4 (ab qq0) (ab qq1) (ab qq2) (ab qq3)) s):=fun hS=>
  ⟨fun h=>zP9 (chk_g hg h),fun h=>⟨fun k=>zP9 (chk_s hS k),fun k=>by rw [← chk_e (E:=E) hg h hS k];exact hf⟩⟩
 exact nn i0 ⟨fun h0=>nn i1 ⟨fun h1=>nn i2 ⟨fun h2=>nn i3 (e (qsgn3 h0 h1 h2 hz)),fun h2=>nn i3 (e (qsgn2 h0 h1 h2))⟩,
  fun h1=>nn i2 ⟨h1,nn i3 (e (qsgn1 h0 h1))⟩⟩,fun h0=>nn i1 ⟨h0,nn i2 ⟨h0,nn i3 (e (qsgn0 h0))⟩⟩⟩
theorem yr6:LOK (CkP (chk qq0 qq1 qq2 qq3 0)) (treeCk qq0 qq1 qq2 qq3):=by
 refine ⟨fun h=>zP9 ?_,fun h=>?_⟩
 ·rw [conj0] at h;unfold chk;rw [if_pos (of_decide_eq_true h)]
 ·rw [conj0] at h
  have hz:=of_decide_eq_false h
  unfold chk;rw [if_neg hz,if_neg (by simp only [Classical.not_not];exact ⟨i0,i1,i2,i3⟩)]
  exact yg4 i0 i1 i2 i3 (fun q h=>by unfold absq;split<;>omega) hz (zP9 rfl)
theorem yr7 (ae ac aa:Rat) (af:RS 64 ae) (ab:RS 64 ac) (ad:RS 64 aa) (w:World) (hm:Mx w):
  Calls Tryz.prog 15 #[.agg #[.int .i64 qq0,.int .i64 qq1,.int .i64 qq2,.int .i64 qq3,.string ⟨(za1 ae).toArray⟩,.string ⟨(za1 ac).toArray⟩,.string ⟨(za1 aa).toArray⟩]] w fun e w'=>e=.returned (.int .i64 (chk qq0 qq1 qq2 qq3 0))∧Gr w w':=by
 have tx:∀ {x},RS 64 x→(Cl.cw (za1 x) (some (64,x))).ok ⟨0,0,0⟩ (zF1 []) w:=fun h=>⟨rfl,fun k q e=>by cases e;exact ⟨rfl,h⟩⟩
 refine (ze7 sysCk sysCk_ok (runCk qq0 qq1 qq2 qq3 ae ac aa) (X:=zF1 []) hm (okF1 (zi1 ⟨⟨rfl,i0⟩,⟨rfl,i1⟩,⟨rfl,i2⟩,⟨rfl,i3⟩,tx af,tx ab,tx ad,trivial⟩)) (yr6 i0 i1 i2 i3)).mono fun e w' he=>?_
 obtain ⟨v,X',n,rfl,g,_,_,lo,hi,rfl⟩:=he
 exact ⟨rfl,g⟩
end
theorem zX3 {l cs:List UInt8}:Lib.trimS l cs=[]↔∀ c ∈ l,cs.contains c=true:=by
 constructor
 ·intro h c hc
  rcases Bool.eq_false_or_eq_true (cs.contains c) with e | e
  ·exact e
  ·exact absurd h (zO1 hc e)
 ·exact zX2
theorem yy1 {c:UInt8}:[48,49,50,51,52,53,54,55,56,57].contains c=true↔48≤c.toNat∧c.toNat≤57:=by
 constructor
 ·intro h
  simp only [List.contains_cons,List.contains_nil,Bool.or_eq_true,beq_iff_eq,Bool.or_false] at h
  rcases h with rfl | rfl | rfl | rfl | rfl | rfl | rfl | rfl | rfl | rfl<;>decide
 ·exact yj5
theorem zX4 (l:List UInt8):zf3 l=((l !=([]:List UInt8))&&(Lib.trimS l [48,49,50,51,52,53,54,55,56,57]==([]:List UInt8))):=by
 rw [Bool.eq_iff_iff]
 simp only [zf3,Bool.and_eq_true,decide_eq_true_eq,List.all_eq_true,bne_iff_ne,beq_iff_eq,zX3,yy1,ya0]
 rw [← List.length_pos_iff]
theorem zm6 (l:List UInt8):zq0 l=(Lib.trimS l [48]==([]:List UInt8)):=by
 rw [Bool.eq_iff_iff]
 simp [zq0,zX3]
theorem trim_any (l:List UInt8) (hl:l.length≤1000000) (w:World):
  Calls Tryz.prog 142 #[.string ⟨l.toArray⟩,.string ⟨#[48,49,50,51,52,53,54,55,56,57]⟩] w fun e w'=>e=.returned (.string ⟨(Lib.trimS l [48,49,50,51,52,53,54,55,56,57]).toArray⟩)∧Gr w w':=by
 refine (Any.strings_Trim_laid Tryz.lays160 (by kernel_rfl) ⟨l.toArray⟩ ⟨#[48,49,50,51,52,53,54,55,56,57]⟩ w (by show l.toArray.size≤_;simp;omega) (by decide) (ascii_of_all (by decide))).mono ?_
 rintro e w1 ⟨he,g⟩
 exact ⟨he,g⟩
theorem zr6 (l:List UInt8) (hl:l.length≤1000000) (w:World):
  Calls Tryz.prog 142 #[.string ⟨l.toArray⟩,.string ⟨#[48]⟩] w fun e w'=>e=.returned (.string ⟨(Lib.trimS l [48]).toArray⟩)∧Gr w w':=by
 refine (Any.strings_Trim_laid Tryz.lays160 (by kernel_rfl) ⟨l.toArray⟩ ⟨#[48]⟩ w (by show l.toArray.size≤_;simp;omega) (by decide) (ascii_of_all (by decide))).mono ?_
 rintro e w1 ⟨he,g⟩
 exact ⟨he,g⟩
theorem zc3 (l:List UInt8) (w:World):Calls Tryz.prog 141 #[.string ⟨l.toArray⟩,.string ⟨#[45]⟩] w fun e w'=>e=.returned (.string ⟨(zb3 l).toArray⟩)∧Gr w w':=by
 refine (Tryz.strings_TrimPrefix _ _ _).mono ?_
 rintro e w1 ⟨he,rfl⟩
 refine ⟨?_,Gr.refl _⟩
 rw [he]
 show Ending.returned (.string ⟨(Lib.trimPrefix l [45]).toArray⟩)=_
 have:Lib.trimPrefix l [45]=zb3 l:=by
  cases l with
  | nil=>rfl
  | cons c l=>
   rw [zj0]
   by_cases hc:c=45
   ·subst hc;simp [Lib.trimPrefix,Lib.hasPrefix]
   ·have:¬ (45:UInt8)=c:=fun e=>hc e.symm
    simp [Lib.trimPrefix,Lib.hasPrefix,List.isPrefixOf,hc,this]
 rw [this]
theorem yd3 (l:List UInt8) (hl:l.length≤1000000) {w:World} (hm:Mx w):
  Calls Tryz.prog 139 #[.string ⟨l.toArray⟩,.string ⟨#[47]⟩] w fun e w'=>e=.returned (.tuple #[.string ⟨(zm0 l).toArray⟩,.string ⟨((zg5 l).2.getD []).toArray⟩,.bool (zg5 l).2.isSome])∧Gr w w':=by
 obtain ⟨m,hm⟩:=hm
 refine (Tryz.strings_Cut ⟨l.toArray⟩ ⟨#[47]⟩ m w (by show l.toArray.size<_;simp;omega) hm).mono ?_
 rintro e w1 ⟨he,n,rfl⟩
 refine ⟨?_,(Below.refl _ _).drewN _⟩
 rw [he]
 have e1:(⟨l.toArray⟩:ByteArray).data.toList=l:=by simp
 rw [e1,show (⟨#[47]⟩:ByteArray).data.toList=[47] from rfl,zX1]
theorem cut_no (l:List UInt8) (hl:l.length≤1000000) (hc:zg5 l=(l,none)) {w:World} (hm:Mx w):
  Calls Tryz.prog 139 #[.string ⟨l.toArray⟩,.string ⟨#[47]⟩] w fun e w'=>e=.returned (.tuple #[.string ⟨l.toArray⟩,.string ⟨([]:List UInt8).toArray⟩,.bool false])∧Gr w w':=by
 refine (yd3 l hl hm).mono ?_
 rintro e w1 ⟨he,g⟩
 exact ⟨by rw [he,zm0,hc];rfl,g⟩
theorem zu6 (X A D:List UInt8) (hl:X.length≤1000000) (hc:zg5 X=(A,some D)) {w:World} (hm:Mx w):
  Calls Tryz.prog 139 #[.string ⟨X.toArray⟩,.string ⟨#[47]⟩] w fun e w'=>e=.returned (.tuple #[.string ⟨A.toArray⟩,.string ⟨D.toArray⟩,.bool true])∧Gr w w':=by
 refine (yd3 X hl hm).mono ?_
 rintro e w1 ⟨he,g⟩
 exact ⟨by rw [he,zm0,hc];rfl,g⟩
theorem zf6 (l:List UInt8):(zb3 l).length≤l.length:=by
 rcases zF3 l with e | ⟨e,_⟩
 ·have:=congrArg List.length e;simp at this;omega
 ·have:=congrArg List.length e;omega
theorem yy2 {l:List UInt8} (h:zf3 l=true):zf3 (zb3 l)=true:=by
 cases l with
 | nil=>exact h
 | cons c l=>
  rw [zj0]
  by_cases hc:c=45
  ·have:=(zD9 h).2 c (by simp)
   subst hc
   simp at this
  ·rw [if_neg hc];exact h
theorem yy3 {l:List UInt8} (h:zf3 l=true) (h2:zq0 l=false) (h3:(l[0]?==some 48)=true):ya1 l=true:=by
 cases l with
 | nil=>cases h3
 | cons c l=>
  have hc:c=48:=by simpa using h3
  subst hc
  cases l with
  | nil=>simp [zq0] at h2
  | cons d l=>simp [ya1,zj0]
set_option maxHeartbeats 1000000 in
theorem zJ2 (l:List UInt8) (hl:l.length≤60000) (h1:zf3 (zb3 l)=true) (h2:ya1 l=true) (w:World):
  Calls Tryz.prog 143 #[.string ⟨l.toArray⟩] w fun e w'=>e=.returned (.tuple #[.agg #[.bool false,.slice none 0 0],.int .i64 3])∧Gr w w':=by
 have aa:=zD9 h1
 obtain ⟨s,hs⟩:∃ s:ByteArray,s=⟨l.toArray⟩:=⟨_,rfl⟩
 have hss:s.size=l.length:=by rw [hs];show l.toArray.size=_;simp
 obtain ⟨D,hD⟩:∃ D:ByteArray,D=⟨(zb3 l).toArray⟩:=⟨_,rfl⟩
 have hDl:D.data.toList=zb3 l:=by rw [hD]
 have hDs:D.size=(zb3 l).length:=by rw [hD];show (zb3 l).toArray.size=_;simp
 have ad:0<D.size:=by rw [hDs];exact List.length_pos_iff.2 aa.1
 have hslen:=zf6 l
 have hc:∀ w,Calls Tryz.prog 169 #[.string s,.string ⟨#[45]⟩] w fun e w'=>e=.returned (.tuple #[.string D,.bool (decide ((zb3 l).length<l.length))])∧w=w':=by
  intro w
  rw [hs,hD]
  refine (Tryz.strings_CutPrefix _ _ _).mono ?_
  rintro e w1 ⟨he,rfl⟩
  refine ⟨?_,rfl⟩
  rw [he]
  show Ending.returned (.tuple #[.string ⟨(Lib.trimPrefix l [45]).toArray⟩,.bool (Lib.hasPrefix l [45])])=_
  cases l with
  | nil=>rfl
  | cons c l=>
   rw [zj0]
   by_cases hc:c=45
   ·subst hc;simp [Lib.trimPrefix,Lib.hasPrefix]
   ·have:¬ (45:UInt8)=c:=fun e=>hc e.symm
    simp [Lib.trimPrefix,Lib.hasPrefix,List.isPrefixOf,hc,this]
 have hcn:=zI2 D (by rw [hDl];exact aa.2)
 have hne:(D.toList==[])=false:=by
  rw [beq_eq_false_iff_ne,ByteArray.toList_eq,hDl];exact aa.1
 have ab:(D[0].toNat:Int)=48∧(1<D.size∨(zb3 l).length<l.length):=by
  unfold ya1 at h2
  simp only [Bool.and_eq_true,Bool.or_eq_true,decide_eq_true_eq] at h2
  have hh:=head48 ad
  rw [hDl,h2.1] at hh
  have hh:=(beq_iff_eq.1 hh.symm)
  refine ⟨hh,?_⟩
  rw [hDs]
  omega
 have ac:((D[0].toNat:Int)==48)=true:=by rw [ab.1];rfl
 have hor:=ab.2
 have af:D.size≤60000:=by omega
 have ae:s.size≤60000:=by omega
 rw [← hs]
 have HD:=Lib.hid hDl
 clear ab hDl hDs hD hs hss h2 aa h1 hslen
 go_enter Tryz.func143,Tryz.ntmps143
 go_wp2_with fail
 (with_reducible refine (hc _).mono ?_)
 rintro e w1 ⟨rfl,rfl⟩
 clear hc
 go_wp2_with fail
 (with_reducible refine (hcn _).mono ?_)
 rintro e w2 ⟨rfl,g2⟩
 clear hcn
 have p3:=Gr.heap g2 (heap_alloc_new w (.cells #[.bool false,.slice none 0 0] 34))
 have d0:=zb1 p3 0
 have d1:=zb1 p3 1
 have d2:=zl5 p3
 have gw:Gr w w2:=(Gr.alloc w _).trans g2
 by_cases hD2:(1:Int)<(D.size:Int)
 ·go_wp2
  have p4:=za5 (i:=1) (.slice none 0 0) (za5 (i:=0) (.bool false) p3)
  have hst:=(St.setCell w2 w.heap.size 0 (.bool false)).trans (St.setCell _ w.heap.size 1 (.slice none 0 0))
  exact bodyPost_ret (v:=.tuple #[.agg #[.bool false,.slice none 0 0],.int .i64 3]) (za4 _ _ _ rfl rfl p4 (by kernel_rfl) rfl) rfl ⟨rfl,hst.gr gw (Nat.le_refl _)⟩
 ·have hlt:(zb3 l).length<l.length:=by
   rcases hor with h | h
   ·omega
   ·exact h
  go_wp2
  have p4:=za5 (i:=1) (.slice none 0 0) (za5 (i:=0) (.bool false) p3)
  have hst:=(St.setCell w2 w.heap.size 0 (.bool false)).trans (St.setCell _ w.heap.size 1 (.slice none 0 0))
  exact bodyPost_ret (v:=.tuple #[.agg #[.bool false,.slice none 0 0],.int .i64 3]) (za4 _ _ _ rfl rfl p4 (by kernel_rfl) rfl) rfl ⟨rfl,hst.gr gw (Nat.le_refl _)⟩
set_option maxRecDepth 100000 in
set_option maxHeartbeats 1000000 in
theorem zc9 (l:List UInt8) (_hl:l.length≤1000000) (w:World):
    Calls Tryz.prog 140 #[(.string ⟨(l:List UInt8).toArray⟩)] w fun e w'=>e=.returned (.bool (zf3 l))∧Gr w w':=by
 go_enter Tryz.func140,Tryz.ntmps140
 have hB:=Gr.refl w
 refine wp_seq_k (fun K1 k1=>?_)
 refine rg [0] ?_
 refine sv 2 (.bool false) ?_
 refine za0 ?_
 refine k1 _ _ ?_
 try clear k1 K1
 refine wp_seq_k (fun K2 k2=>?_)
 refine rg [0,1,2,3,4,5,6,7] ?_
 refine sv 3 (.string ⟨(l:List UInt8).toArray⟩) ?_
 refine sw 4 (.bool (((l) !=([]:List UInt8)))) rfl (rv_sne 9 9 _ _ (l) ([]) rfl rfl rfl) ?_
 rcases Bool.eq_false_or_eq_true (((l) !=([]:List UInt8))) with hb3 | hb3
 ·refine sw 5 (.bool true) rfl (RunV.bool (x:=((l) !=([]:List UInt8))) (rvk (by kernel_rfl)) hb3) ?_
  refine sv 6 (.string ⟨(l:List UInt8).toArray⟩) ?_
  refine se ?_
  refine ec 7 (trim_any (l) (by omega) _) ?_
  rintro e4 w4 ⟨rfl,g4⟩
  refine ⟨_,rfl,?_⟩
  replace hB:=hB.trans g4
  simp only [p3,p4]
  refine sw 8 (.bool (((Lib.trimS (l) [48,49,50,51,52,53,54,55,56,57])==([]:List UInt8)))) rfl (zu0 9 9 _ _ (Lib.trimS (l) [48,49,50,51,52,53,54,55,56,57]) ([]) rfl rfl rfl) ?_
  refine sv 9 (.bool (((Lib.trimS (l) [48,49,50,51,52,53,54,55,56,57])==([]:List UInt8)))) ?_
  refine sv 2 (.bool (((Lib.trimS (l) [48,49,50,51,52,53,54,55,56,57])==([]:List UInt8)))) ?_
  refine za0 ?_
  refine k2 _ _ ?_
  try clear k2 K2
  refine wp_ret ?_
  refine bodyPost_ret (v:=(.bool (((Lib.trimS (l) [48,49,50,51,52,53,54,55,56,57])==([]:List UInt8))))) (zb0 rfl rfl) rfl ⟨?_,hB⟩
  exact (by rw [zX4,hb3];rfl)
 ·refine sw 5 (.bool false) rfl (RunV.bool (x:=((l) !=([]:List UInt8))) (rvk (by kernel_rfl)) hb3) ?_
  refine ss 6 ?_
  refine ss 7 ?_
  refine ss 8 ?_
  refine sv 9 (.bool false) ?_
  refine sv 2 (.bool false) ?_
  refine za0 ?_
  refine k2 _ _ ?_
  try clear k2 K2
  refine wp_ret ?_
  refine bodyPost_ret (v:=(.bool false)) (zb0 rfl rfl) rfl ⟨?_,hB⟩
  exact (by rw [zX4,hb3];rfl)

set_option maxRecDepth 100000 in
set_option maxHeartbeats 1000000 in
theorem yt0 (X:List UInt8) (most:Int) (_hx:X.length≤1000000) (_hlong:most<(X.length:Int)) (w:World) (hm:Mx w):
    Calls Tryz.prog 120 #[(.string ⟨(X:List UInt8).toArray⟩),(.int .i64 (most))] w fun e w'=>e=.returned (.tuple #[.agg #[.bool false,.slice none 0 0,.bool false,.slice none 0 0],.int .i64 5])∧Gr w w':=by
 have hl:decide (most<((X).length:Int))=true:=by simp;omega
 go_enter Tryz.func120,Tryz.ntmps120
 have hB:=Gr.refl w
 refine wp_seq_k (fun K1 k1=>?_)
 refine rg [0,1] ?_
 refine se ?_
 refine ea 36 #[.bool false,.slice none 0 0,.bool false,.slice none 0 0] 4 hB fun b2 w2 g2 L2 o2 q2 hB=>?_
 simp only [p3,p4]
 refine sv 5 (.int .i64 0) ?_
 refine za0 ?_
 refine k1 _ _ ?_
 try clear k1 K1
 refine wp_seq_k (fun K3 k3=>?_)
 refine rg [0,1] ?_
 refine sv 13 (.string ⟨(X:List UInt8).toArray⟩) ?_
 refine sv 6 (.string ⟨(X:List UInt8).toArray⟩) ?_
 refine za0 ?_
 refine k3 _ _ ?_
 try clear k3 K3
 refine wp_seq_k (fun K4 k4=>?_)
 refine rg [0,1,2,3,4,5,6,7,8] ?_
 refine sv 15 (.string ⟨(X:List UInt8).toArray⟩) ?_
 refine se ?_
 refine ec 16 (yd3 (X) (by omega) (hm.gr hB)) ?_
 rintro e5 w5 ⟨rfl,g5⟩
 refine ⟨_,rfl,?_⟩
 replace hB:=hB.trans g5
 simp only [p3,p4]
 refine sv 14 (.tuple #[(.string ⟨(zm0 (X):List UInt8).toArray⟩),(.string ⟨((zg5 (X)).2.getD []:List UInt8).toArray⟩),(.bool ((zg5 (X)).2.isSome))]) ?_
 refine sv 17 (.string ⟨(zm0 (X):List UInt8).toArray⟩) ?_
 refine sv 18 (.string ⟨((zg5 (X)).2.getD []:List UInt8).toArray⟩) ?_
 refine sv 19 (.bool ((zg5 (X)).2.isSome)) ?_
 refine sv 7 (.string ⟨(zm0 (X):List UInt8).toArray⟩) ?_
 refine sv 8 (.string ⟨((zg5 (X)).2.getD []:List UInt8).toArray⟩) ?_
 refine sv 9 (.bool ((zg5 (X)).2.isSome)) ?_
 refine za0 ?_
 refine k4 _ _ ?_
 try clear k4 K4
 refine wp_seq_k (fun K6 k6=>?_)
 refine wp_block ?_
 refine wp_seq_k (fun K7 k7=>?_)
 refine rg [0,1,2,3,4] ?_
 refine sv 21 (.string ⟨(X:List UInt8).toArray⟩) ?_
 refine sv 22 (.int .i64 (((X).length:Int))) ?_
 refine sv 23 (.int .i64 (most)) ?_
 refine sw 24 (.bool true) rfl (RunV.bool (x:=decide (most<((X).length:Int))) (rvk (by kernel_rfl)) hl) ?_
 refine sv 20 (.bool true) ?_
 refine za0 ?_
 refine k7 _ _ ?_
 try clear k7 K7
 refine wp_cond_true rfl ?_
 refine wp_seq_k (fun K8 k8=>?_)
 refine rg [0,1,2] ?_
 refine sv 25 (.agg #[.bool false,.slice none 0 0,.bool false,.slice none 0 0]) ?_
 refine se ?_
 replace L2:=L2.gr g5
 refine es 36 0 (.agg #[.bool false,.slice none 0 0,.bool false,.slice none 0 0]) [.bool false,.slice none 0 0,.bool false,.slice none 0 0] #[.bool false,.slice none 0 0,.bool false,.slice none 0 0] L2 hB q2 ⟨rfl,rfl,rfl,rfl,trivial⟩ fun w9 aa ab L2 hB=>?_
 refine sv 5 (.int .i64 5) ?_
 refine za0 ?_
 refine k8 _ _ ?_
 try clear k8 K8
 refine wp_ret ?_
 simp only [Exit.then,Exit.inBlock]
 refine bodyPost_ret (v:=(.tuple #[(.agg #[.bool false,.slice none 0 0,.bool false,.slice none 0 0]),.int .i64 5])) (za4 _ _ _ rfl rfl L2 (by kernel_rfl) rfl) rfl ⟨?_,hB⟩
 exact rfl

set_option maxRecDepth 100000 in
set_option maxHeartbeats 1000000 in
theorem read_ns (X:List UInt8) (most:Int) (_hx:X.length≤14000) (_hlong:(X.length:Int)≤most) (hc:zg5 X=(X,none)) (h1:zf3 (zb3 X)=false) (w:World) (hm:Mx w):
    Calls Tryz.prog 120 #[(.string ⟨(X:List UInt8).toArray⟩),(.int .i64 (most))] w fun e w'=>e=.returned (.tuple #[.agg #[.bool false,.slice none 0 0,.bool false,.slice none 0 0],.int .i64 14])∧Gr w w':=by
 have hl:decide (most<((X).length:Int))=false:=by simp;omega
 have hsX:(zb3 (X)).length≤(X).length:=zf6 _
 go_enter Tryz.func120,Tryz.ntmps120
 have hB:=Gr.refl w
 refine wp_seq_k (fun K1 k1=>?_)
 refine rg [0,1] ?_
 refine se ?_
 refine ea 36 #[.bool false,.slice none 0 0,.bool false,.slice none 0 0] 4 hB fun b2 w2 g2 L2 o2 q2 hB=>?_
 simp only [p3,p4]
 refine sv 5 (.int .i64 0) ?_
 refine za0 ?_
 refine k1 _ _ ?_
 try clear k1 K1
 refine wp_seq_k (fun K3 k3=>?_)
 refine rg [0,1] ?_
 refine sv 13 (.string ⟨(X:List UInt8).toArray⟩) ?_
 refine sv 6 (.string ⟨(X:List UInt8).toArray⟩) ?_
 refine za0 ?_
 refine k3 _ _ ?_
 try clear k3 K3
 refine wp_seq_k (fun K4 k4=>?_)
 refine rg [0,1,2,3,4,5,6,7,8] ?_
 refine sv 15 (.string ⟨(X:List UInt8).toArray⟩) ?_
 refine se ?_
 refine ec 16 (cut_no (X) (by omega) hc (hm.gr hB)) ?_
 rintro e5 w5 ⟨rfl,g5⟩
 refine ⟨_,rfl,?_⟩
 replace hB:=hB.trans g5
 simp only [p3,p4]
 refine sv 14 (.tuple #[(.string ⟨(X:List UInt8).toArray⟩),(.string ⟨([]:List UInt8).toArray⟩),.bool false]) ?_
 refine sv 17 (.string ⟨(X:List UInt8).toArray⟩) ?_
 refine sv 18 (.string ⟨([]:List UInt8).toArray⟩) ?_
 refine sv 19 (.bool false) ?_
 refine sv 7 (.string ⟨(X:List UInt8).toArray⟩) ?_
 refine sv 8 (.string ⟨([]:List UInt8).toArray⟩) ?_
 refine sv 9 (.bool false) ?_
 refine za0 ?_
 refine k4 _ _ ?_
 try clear k4 K4
 refine wp_seq_k (fun K6 k6=>?_)
 refine wp_block ?_
 refine wp_seq_k (fun K7 k7=>?_)
 refine rg [0,1,2,3,4] ?_
 refine sv 21 (.string ⟨(X:List UInt8).toArray⟩) ?_
 refine sv 22 (.int .i64 (((X).length:Int))) ?_
 refine sv 23 (.int .i64 (most)) ?_
 refine sw 24 (.bool false) rfl (RunV.bool (x:=decide (most<((X).length:Int))) (rvk (by kernel_rfl)) hl) ?_
 refine sv 20 (.bool false) ?_
 refine za0 ?_
 refine k7 _ _ ?_
 try clear k7 K7
 refine wp_cond_false rfl ?_
 refine wp_seq_k (fun K8 k8=>?_)
 refine rg [0,1,2,3,4,5,6,7,8,9,10,11,12] ?_
 refine sv 27 (.string ⟨(X:List UInt8).toArray⟩) ?_
 refine se ?_
 refine ec 28 (zc3 (X) _) ?_
 rintro e9 w9 ⟨rfl,g9⟩
 refine ⟨_,rfl,?_⟩
 replace hB:=hB.trans g9
 simp only [p3,p4]
 refine se ?_
 refine ec 29 (zc9 (zb3 (X)) (by omega) _) ?_
 rintro ai ah ⟨rfl,aa⟩
 refine ⟨_,rfl,?_⟩
 replace hB:=hB.trans aa
 simp only [p3,p4]
 refine sw 30 (.bool true) rfl (RunV.bool (x:=!(zf3 (zb3 (X)))) (rvk (by kernel_rfl)) (show (!(zf3 (zb3 (X))))=true by rw [h1];rfl)) ?_
 refine sv 31 (.bool true) ?_
 refine ss 32 ?_
 refine ss 33 ?_
 refine ss 34 ?_
 refine ss 35 ?_
 refine ss 36 ?_
 refine ss 37 ?_
 refine sv 38 (.bool true) ?_
 refine sv 26 (.bool true) ?_
 refine za0 ?_
 refine k8 _ _ ?_
 try clear k8 K8
 refine wp_cond_true rfl ?_
 refine wp_seq_k (fun ae ab=>?_)
 refine rg [0,1,2] ?_
 refine sv 39 (.agg #[.bool false,.slice none 0 0,.bool false,.slice none 0 0]) ?_
 refine se ?_
 replace L2:=L2.gr (g5.trans (g9.trans aa))
 refine es 36 0 (.agg #[.bool false,.slice none 0 0,.bool false,.slice none 0 0]) [.bool false,.slice none 0 0,.bool false,.slice none 0 0] #[.bool false,.slice none 0 0,.bool false,.slice none 0 0] L2 hB q2 ⟨rfl,rfl,rfl,rfl,trivial⟩ fun af ac ad L2 hB=>?_
 refine sv 5 (.int .i64 14) ?_
 refine za0 ?_
 refine ab _ _ ?_
 try clear ab ae
 refine wp_ret ?_
 simp only [Exit.then,Exit.inBlock]
 refine bodyPost_ret (v:=(.tuple #[(.agg #[.bool false,.slice none 0 0,.bool false,.slice none 0 0]),.int .i64 14])) (za4 _ _ _ rfl rfl L2 (by kernel_rfl) rfl) rfl ⟨?_,hB⟩
 exact rfl

set_option maxRecDepth 100000 in
set_option maxHeartbeats 1000000 in
theorem read_nf (X:List UInt8) (most:Int) (_hx:X.length≤14000) (_hlong:(X.length:Int)≤most) (hc:zg5 X=(X,none)) (h1:zf3 (zb3 X)=true) (h2:ya1 X=true) (w:World) (hm:Mx w):
    Calls Tryz.prog 120 #[(.string ⟨(X:List UInt8).toArray⟩),(.int .i64 (most))] w fun e w'=>e=.returned (.tuple #[.agg #[.bool false,.slice none 0 0,.bool false,.slice none 0 0],.int .i64 3])∧Gr w w':=by
 have hl:decide (most<((X).length:Int))=false:=by simp;omega
 have hsX:(zb3 (X)).length≤(X).length:=zf6 _
 go_enter Tryz.func120,Tryz.ntmps120
 have hB:=Gr.refl w
 refine wp_seq_k (fun K1 k1=>?_)
 refine rg [0,1] ?_
 refine se ?_
 refine ea 36 #[.bool false,.slice none 0 0,.bool false,.slice none 0 0] 4 hB fun b2 w2 g2 L2 o2 q2 hB=>?_
 simp only [p3,p4]
 refine sv 5 (.int .i64 0) ?_
 refine za0 ?_
 refine k1 _ _ ?_
 try clear k1 K1
 refine wp_seq_k (fun K3 k3=>?_)
 refine rg [0,1] ?_
 refine sv 13 (.string ⟨(X:List UInt8).toArray⟩) ?_
 refine sv 6 (.string ⟨(X:List UInt8).toArray⟩) ?_
 refine za0 ?_
 refine k3 _ _ ?_
 try clear k3 K3
 refine wp_seq_k (fun K4 k4=>?_)
 refine rg [0,1,2,3,4,5,6,7,8] ?_
 refine sv 15 (.string ⟨(X:List UInt8).toArray⟩) ?_
 refine se ?_
 refine ec 16 (cut_no (X) (by omega) hc (hm.gr hB)) ?_
 rintro e5 w5 ⟨rfl,g5⟩
 refine ⟨_,rfl,?_⟩
 replace hB:=hB.trans g5
 simp only [p3,p4]
 refine sv 14 (.tuple #[(.string ⟨(X:List UInt8).toArray⟩),(.string ⟨([]:List UInt8).toArray⟩),.bool false]) ?_
 refine sv 17 (.string ⟨(X:List UInt8).toArray⟩) ?_
 refine sv 18 (.string ⟨([]:List UInt8).toArray⟩) ?_
 refine sv 19 (.bool false) ?_
 refine sv 7 (.string ⟨(X:List UInt8).toArray⟩) ?_
 refine sv 8 (.string ⟨([]:List UInt8).toArray⟩) ?_
 refine sv 9 (.bool false) ?_
 refine za0 ?_
 refine k4 _ _ ?_
 try clear k4 K4
 refine wp_seq_k (fun K6 k6=>?_)
 refine wp_block ?_
 refine wp_seq_k (fun K7 k7=>?_)
 refine rg [0,1,2,3,4] ?_
 refine sv 21 (.string ⟨(X:List UInt8).toArray⟩) ?_
 refine sv 22 (.int .i64 (((X).length:Int))) ?_
 refine sv 23 (.int .i64 (most)) ?_
 refine sw 24 (.bool false) rfl (RunV.bool (x:=decide (most<((X).length:Int))) (rvk (by kernel_rfl)) hl) ?_
 refine sv 20 (.bool false) ?_
 refine za0 ?_
 refine k7 _ _ ?_
 try clear k7 K7
 refine wp_cond_false rfl ?_
 refine wp_seq_k (fun K8 k8=>?_)
 refine rg [0,1,2,3,4,5,6,7,8,9,10,11,12] ?_
 refine sv 27 (.string ⟨(X:List UInt8).toArray⟩) ?_
 refine se ?_
 refine ec 28 (zc3 (X) _) ?_
 rintro e9 w9 ⟨rfl,g9⟩
 refine ⟨_,rfl,?_⟩
 replace hB:=hB.trans g9
 simp only [p3,p4]
 refine se ?_
 refine ec 29 (zc9 (zb3 (X)) (by omega) _) ?_
 rintro aG aF ⟨rfl,ac⟩
 refine ⟨_,rfl,?_⟩
 replace hB:=hB.trans ac
 simp only [p3,p4]
 refine sw 30 (.bool false) rfl (RunV.bool (x:=!(zf3 (zb3 (X)))) (rvk (by kernel_rfl)) (show (!(zf3 (zb3 (X))))=false by rw [h1];rfl)) ?_
 refine sv 31 (.bool false) ?_
 refine sv 32 (.bool false) ?_
 refine sv 33 (.bool false) ?_
 refine ss 34 ?_
 refine ss 35 ?_
 refine ss 36 ?_
 refine sv 37 (.bool false) ?_
 refine sv 38 (.bool false) ?_
 refine sv 26 (.bool false) ?_
 refine za0 ?_
 refine k8 _ _ ?_
 try clear k8 K8
 refine wp_cond_false rfl ?_
 refine wp_seq_k (fun ay ad=>?_)
 refine rg [0,1,2,3,4,5,6] ?_
 refine sv 41 (.bool false) ?_
 refine sv 42 (.bool false) ?_
 refine ss 43 ?_
 refine ss 44 ?_
 refine ss 45 ?_
 refine sv 46 (.bool false) ?_
 refine sv 40 (.bool false) ?_
 refine za0 ?_
 refine ad _ _ ?_
 try clear ad ay
 refine wp_cond_false rfl ?_
 refine wp_skip ?_
 refine k6 _ _ ?_
 try clear k6 K6
 refine wp_seq_k (fun ar aj=>?_)
 refine rg [0,1,2,3,4,5,6,7] ?_
 refine sv 49 (.string ⟨(X:List UInt8).toArray⟩) ?_
 refine se ?_
 refine ec 50 (zJ2 (X) (by omega) h1 h2 _) ?_
 rintro e13 aB ⟨rfl,ah⟩
 refine ⟨_,rfl,?_⟩
 replace hB:=hB.trans ah
 simp only [p3,p4]
 refine sv 48 (.tuple #[(.agg #[.bool false,.slice none 0 0]),.int .i64 3]) ?_
 refine sv 51 (.agg #[.bool false,.slice none 0 0]) ?_
 refine sv 52 (.int .i64 3) ?_
 refine se ?_
 refine ea 34 #[.bool false,.slice none 0 0] 10 hB fun aC az au ae av al hB=>?_
 replace L2:=L2.gr (g5.trans (g9.trans (ac.trans ah)))
 have aa:=L2.ne av
 simp only [p3,p4]
 refine se ?_
 refine es 34 0 (.agg #[.bool false,.slice none 0 0]) [.bool false,.slice none 0 0] #[.bool false,.slice none 0 0] ae hB al ⟨rfl,rfl,trivial⟩ fun aD ab ak ae hB=>?_
 refine sv 11 (.int .i64 3) ?_
 refine za0 ?_
 refine aj _ _ ?_
 try clear aj ar
 refine wp_seq_k (fun aE aA=>?_)
 refine wp_seq_k (fun aw af=>?_)
 refine rg [0,1] ?_
 refine sv 53 (.int .i64 3) ?_
 refine sv 54 (.bool true) ?_
 refine za0 ?_
 refine af _ _ ?_
 try clear af aw
 refine wp_cond_true rfl ?_
 refine wp_seq_k (fun ap ai=>?_)
 refine rg [0,1,2] ?_
 refine sv 55 (.agg #[.bool false,.slice none 0 0,.bool false,.slice none 0 0]) ?_
 refine se ?_
 replace L2:=ab.lc (L2.gr au) aa
 refine es 36 0 (.agg #[.bool false,.slice none 0 0,.bool false,.slice none 0 0]) [.bool false,.slice none 0 0,.bool false,.slice none 0 0] #[.bool false,.slice none 0 0,.bool false,.slice none 0 0] L2 hB q2 ⟨rfl,rfl,rfl,rfl,trivial⟩ fun aH ax aq L2 hB=>?_
 refine sv 5 (.int .i64 3) ?_
 refine za0 ?_
 refine ai _ _ ?_
 try clear ai ap
 refine wp_ret ?_
 simp only [Exit.then]
 refine bodyPost_ret (v:=(.tuple #[(.agg #[.bool false,.slice none 0 0,.bool false,.slice none 0 0]),.int .i64 3])) (za4 _ _ _ rfl rfl L2 (by kernel_rfl) rfl) rfl ⟨?_,hB⟩
 exact rfl

set_option maxRecDepth 100000 in
set_option maxHeartbeats 1000000 in
theorem read_fs1 (X A D:List UInt8) (most:Int) (_hx:X.length≤14000) (_hlong:(X.length:Int)≤most) (hc:zg5 X=(A,some D)) (_hA:(A).length≤X.length) (_hD:D.length≤X.length) (h1:zf3 (zb3 A)=false) (w:World) (hm:Mx w):
    Calls Tryz.prog 120 #[(.string ⟨(X:List UInt8).toArray⟩),(.int .i64 (most))] w fun e w'=>e=.returned (.tuple #[.agg #[.bool false,.slice none 0 0,.bool false,.slice none 0 0],.int .i64 14])∧Gr w w':=by
 have hl:decide (most<((X).length:Int))=false:=by simp;omega
 have hsA:(zb3 (A)).length≤(A).length:=zf6 _
 go_enter Tryz.func120,Tryz.ntmps120
 have hB:=Gr.refl w
 refine wp_seq_k (fun K1 k1=>?_)
 refine rg [0,1] ?_
 refine se ?_
 refine ea 36 #[.bool false,.slice none 0 0,.bool false,.slice none 0 0] 4 hB fun b2 w2 g2 L2 o2 q2 hB=>?_
 simp only [p3,p4]
 refine sv 5 (.int .i64 0) ?_
 refine za0 ?_
 refine k1 _ _ ?_
 try clear k1 K1
 refine wp_seq_k (fun K3 k3=>?_)
 refine rg [0,1] ?_
 refine sv 13 (.string ⟨(X:List UInt8).toArray⟩) ?_
 refine sv 6 (.string ⟨(X:List UInt8).toArray⟩) ?_
 refine za0 ?_
 refine k3 _ _ ?_
 try clear k3 K3
 refine wp_seq_k (fun K4 k4=>?_)
 refine rg [0,1,2,3,4,5,6,7,8] ?_
 refine sv 15 (.string ⟨(X:List UInt8).toArray⟩) ?_
 refine se ?_
 refine ec 16 (zu6 (X) (A) (D) (by omega) hc (hm.gr hB)) ?_
 rintro e5 w5 ⟨rfl,g5⟩
 refine ⟨_,rfl,?_⟩
 replace hB:=hB.trans g5
 simp only [p3,p4]
 refine sv 14 (.tuple #[(.string ⟨(A:List UInt8).toArray⟩),(.string ⟨(D:List UInt8).toArray⟩),.bool true]) ?_
 refine sv 17 (.string ⟨(A:List UInt8).toArray⟩) ?_
 refine sv 18 (.string ⟨(D:List UInt8).toArray⟩) ?_
 refine sv 19 (.bool true) ?_
 refine sv 7 (.string ⟨(A:List UInt8).toArray⟩) ?_
 refine sv 8 (.string ⟨(D:List UInt8).toArray⟩) ?_
 refine sv 9 (.bool true) ?_
 refine za0 ?_
 refine k4 _ _ ?_
 try clear k4 K4
 refine wp_seq_k (fun K6 k6=>?_)
 refine wp_block ?_
 refine wp_seq_k (fun K7 k7=>?_)
 refine rg [0,1,2,3,4] ?_
 refine sv 21 (.string ⟨(X:List UInt8).toArray⟩) ?_
 refine sv 22 (.int .i64 (((X).length:Int))) ?_
 refine sv 23 (.int .i64 (most)) ?_
 refine sw 24 (.bool false) rfl (RunV.bool (x:=decide (most<((X).length:Int))) (rvk (by kernel_rfl)) hl) ?_
 refine sv 20 (.bool false) ?_
 refine za0 ?_
 refine k7 _ _ ?_
 try clear k7 K7
 refine wp_cond_false rfl ?_
 refine wp_seq_k (fun K8 k8=>?_)
 refine rg [0,1,2,3,4,5,6,7,8,9,10,11,12] ?_
 refine sv 27 (.string ⟨(A:List UInt8).toArray⟩) ?_
 refine se ?_
 refine ec 28 (zc3 (A) _) ?_
 rintro e9 w9 ⟨rfl,g9⟩
 refine ⟨_,rfl,?_⟩
 replace hB:=hB.trans g9
 simp only [p3,p4]
 refine se ?_
 refine ec 29 (zc9 (zb3 (A)) (by omega) _) ?_
 rintro ai ah ⟨rfl,aa⟩
 refine ⟨_,rfl,?_⟩
 replace hB:=hB.trans aa
 simp only [p3,p4]
 refine sw 30 (.bool true) rfl (RunV.bool (x:=!(zf3 (zb3 (A)))) (rvk (by kernel_rfl)) (show (!(zf3 (zb3 (A))))=true by rw [h1];rfl)) ?_
 refine sv 31 (.bool true) ?_
 refine ss 32 ?_
 refine ss 33 ?_
 refine ss 34 ?_
 refine ss 35 ?_
 refine ss 36 ?_
 refine ss 37 ?_
 refine sv 38 (.bool true) ?_
 refine sv 26 (.bool true) ?_
 refine za0 ?_
 refine k8 _ _ ?_
 try clear k8 K8
 refine wp_cond_true rfl ?_
 refine wp_seq_k (fun ae ab=>?_)
 refine rg [0,1,2] ?_
 refine sv 39 (.agg #[.bool false,.slice none 0 0,.bool false,.slice none 0 0]) ?_
 refine se ?_
 replace L2:=L2.gr (g5.trans (g9.trans aa))
 refine es 36 0 (.agg #[.bool false,.slice none 0 0,.bool false,.slice none 0 0]) [.bool false,.slice none 0 0,.bool false,.slice none 0 0] #[.bool false,.slice none 0 0,.bool false,.slice none 0 0] L2 hB q2 ⟨rfl,rfl,rfl,rfl,trivial⟩ fun af ac ad L2 hB=>?_
 refine sv 5 (.int .i64 14) ?_
 refine za0 ?_
 refine ab _ _ ?_
 try clear ab ae
 refine wp_ret ?_
 simp only [Exit.then,Exit.inBlock]
 refine bodyPost_ret (v:=(.tuple #[(.agg #[.bool false,.slice none 0 0,.bool false,.slice none 0 0]),.int .i64 14])) (za4 _ _ _ rfl rfl L2 (by kernel_rfl) rfl) rfl ⟨?_,hB⟩
 exact rfl

set_option maxRecDepth 100000 in
set_option maxHeartbeats 1000000 in
theorem read_fs2 (X A D:List UInt8) (most:Int) (_hx:X.length≤14000) (_hlong:(X.length:Int)≤most) (hc:zg5 X=(A,some D)) (_hA:(A).length≤X.length) (_hD:D.length≤X.length) (h1:zf3 (zb3 A)=true) (h2:zf3 D=false) (w:World) (hm:Mx w):
    Calls Tryz.prog 120 #[(.string ⟨(X:List UInt8).toArray⟩),(.int .i64 (most))] w fun e w'=>e=.returned (.tuple #[.agg #[.bool false,.slice none 0 0,.bool false,.slice none 0 0],.int .i64 14])∧Gr w w':=by
 have hl:decide (most<((X).length:Int))=false:=by simp;omega
 have hsA:(zb3 (A)).length≤(A).length:=zf6 _
 go_enter Tryz.func120,Tryz.ntmps120
 have hB:=Gr.refl w
 refine wp_seq_k (fun K1 k1=>?_)
 refine rg [0,1] ?_
 refine se ?_
 refine ea 36 #[.bool false,.slice none 0 0,.bool false,.slice none 0 0] 4 hB fun b2 w2 g2 L2 o2 q2 hB=>?_
 simp only [p3,p4]
 refine sv 5 (.int .i64 0) ?_
 refine za0 ?_
 refine k1 _ _ ?_
 try clear k1 K1
 refine wp_seq_k (fun K3 k3=>?_)
 refine rg [0,1] ?_
 refine sv 13 (.string ⟨(X:List UInt8).toArray⟩) ?_
 refine sv 6 (.string ⟨(X:List UInt8).toArray⟩) ?_
 refine za0 ?_
 refine k3 _ _ ?_
 try clear k3 K3
 refine wp_seq_k (fun K4 k4=>?_)
 refine rg [0,1,2,3,4,5,6,7,8] ?_
 refine sv 15 (.string ⟨(X:List UInt8).toArray⟩) ?_
 refine se ?_
 refine ec 16 (zu6 (X) (A) (D) (by omega) hc (hm.gr hB)) ?_
 rintro e5 w5 ⟨rfl,g5⟩
 refine ⟨_,rfl,?_⟩
 replace hB:=hB.trans g5
 simp only [p3,p4]
 refine sv 14 (.tuple #[(.string ⟨(A:List UInt8).toArray⟩),(.string ⟨(D:List UInt8).toArray⟩),.bool true]) ?_
 refine sv 17 (.string ⟨(A:List UInt8).toArray⟩) ?_
 refine sv 18 (.string ⟨(D:List UInt8).toArray⟩) ?_
 refine sv 19 (.bool true) ?_
 refine sv 7 (.string ⟨(A:List UInt8).toArray⟩) ?_
 refine sv 8 (.string ⟨(D:List UInt8).toArray⟩) ?_
 refine sv 9 (.bool true) ?_
 refine za0 ?_
 refine k4 _ _ ?_
 try clear k4 K4
 refine wp_seq_k (fun K6 k6=>?_)
 refine wp_block ?_
 refine wp_seq_k (fun K7 k7=>?_)
 refine rg [0,1,2,3,4] ?_
 refine sv 21 (.string ⟨(X:List UInt8).toArray⟩) ?_
 refine sv 22 (.int .i64 (((X).length:Int))) ?_
 refine sv 23 (.int .i64 (most)) ?_
 refine sw 24 (.bool false) rfl (RunV.bool (x:=decide (most<((X).length:Int))) (rvk (by kernel_rfl)) hl) ?_
 refine sv 20 (.bool false) ?_
 refine za0 ?_
 refine k7 _ _ ?_
 try clear k7 K7
 refine wp_cond_false rfl ?_
 refine wp_seq_k (fun K8 k8=>?_)
 refine rg [0,1,2,3,4,5,6,7,8,9,10,11,12] ?_
 refine sv 27 (.string ⟨(A:List UInt8).toArray⟩) ?_
 refine se ?_
 refine ec 28 (zc3 (A) _) ?_
 rintro e9 w9 ⟨rfl,g9⟩
 refine ⟨_,rfl,?_⟩
 replace hB:=hB.trans g9
 simp only [p3,p4]
 refine se ?_
 refine ec 29 (zc9 (zb3 (A)) (by omega) _) ?_
 rintro ak ai ⟨rfl,ab⟩
 refine ⟨_,rfl,?_⟩
 replace hB:=hB.trans ab
 simp only [p3,p4]
 refine sw 30 (.bool false) rfl (RunV.bool (x:=!(zf3 (zb3 (A)))) (rvk (by kernel_rfl)) (show (!(zf3 (zb3 (A))))=false by rw [h1];rfl)) ?_
 refine sv 31 (.bool false) ?_
 refine sv 32 (.bool true) ?_
 refine sv 33 (.bool true) ?_
 refine sv 34 (.string ⟨(D:List UInt8).toArray⟩) ?_
 refine se ?_
 refine ec 35 (zc9 (D) (by omega) _) ?_
 rintro e11 aj ⟨rfl,aa⟩
 refine ⟨_,rfl,?_⟩
 replace hB:=hB.trans aa
 simp only [p3,p4]
 refine sw 36 (.bool true) rfl (RunV.bool (x:=!(zf3 (D))) (rvk (by kernel_rfl)) (show (!(zf3 (D)))=true by rw [h2];rfl)) ?_
 refine sv 37 (.bool true) ?_
 refine sv 38 (.bool true) ?_
 refine sv 26 (.bool true) ?_
 refine za0 ?_
 refine k8 _ _ ?_
 try clear k8 K8
 refine wp_cond_true rfl ?_
 refine wp_seq_k (fun ae ac=>?_)
 refine rg [0,1,2] ?_
 refine sv 39 (.agg #[.bool false,.slice none 0 0,.bool false,.slice none 0 0]) ?_
 refine se ?_
 replace L2:=L2.gr (g5.trans (g9.trans (ab.trans aa)))
 refine es 36 0 (.agg #[.bool false,.slice none 0 0,.bool false,.slice none 0 0]) [.bool false,.slice none 0 0,.bool false,.slice none 0 0] #[.bool false,.slice none 0 0,.bool false,.slice none 0 0] L2 hB q2 ⟨rfl,rfl,rfl,rfl,trivial⟩ fun ah af ad L2 hB=>?_
 refine sv 5 (.int .i64 14) ?_
 refine za0 ?_
 refine ac _ _ ?_
 try clear ac ae
 refine wp_ret ?_
 simp only [Exit.then,Exit.inBlock]
 refine bodyPost_ret (v:=(.tuple #[(.agg #[.bool false,.slice none 0 0,.bool false,.slice none 0 0]),.int .i64 14])) (za4 _ _ _ rfl rfl L2 (by kernel_rfl) rfl) rfl ⟨?_,hB⟩
 exact rfl

set_option maxRecDepth 100000 in
set_option maxHeartbeats 1000000 in
theorem read_fz (X A D:List UInt8) (most:Int) (_hx:X.length≤14000) (_hlong:(X.length:Int)≤most) (hc:zg5 X=(A,some D)) (_hA:(A).length≤X.length) (_hD:D.length≤X.length) (h1:zf3 (zb3 A)=true) (h2:zf3 D=true) (h3:zq0 D=true) (w:World) (hm:Mx w):
    Calls Tryz.prog 120 #[(.string ⟨(X:List UInt8).toArray⟩),(.int .i64 (most))] w fun e w'=>e=.returned (.tuple #[.agg #[.bool false,.slice none 0 0,.bool false,.slice none 0 0],.int .i64 19])∧Gr w w':=by
 have hl:decide (most<((X).length:Int))=false:=by simp;omega
 have hsA:(zb3 (A)).length≤(A).length:=zf6 _
 have h4:((Lib.trimS (D) [48])==([]:List UInt8))=true:=by rw [← zm6];exact h3
 go_enter Tryz.func120,Tryz.ntmps120
 have hB:=Gr.refl w
 refine wp_seq_k (fun K1 k1=>?_)
 refine rg [0,1] ?_
 refine se ?_
 refine ea 36 #[.bool false,.slice none 0 0,.bool false,.slice none 0 0] 4 hB fun b2 w2 g2 L2 o2 q2 hB=>?_
 simp only [p3,p4]
 refine sv 5 (.int .i64 0) ?_
 refine za0 ?_
 refine k1 _ _ ?_
 try clear k1 K1
 refine wp_seq_k (fun K3 k3=>?_)
 refine rg [0,1] ?_
 refine sv 13 (.string ⟨(X:List UInt8).toArray⟩) ?_
 refine sv 6 (.string ⟨(X:List UInt8).toArray⟩) ?_
 refine za0 ?_
 refine k3 _ _ ?_
 try clear k3 K3
 refine wp_seq_k (fun K4 k4=>?_)
 refine rg [0,1,2,3,4,5,6,7,8] ?_
 refine sv 15 (.string ⟨(X:List UInt8).toArray⟩) ?_
 refine se ?_
 refine ec 16 (zu6 (X) (A) (D) (by omega) hc (hm.gr hB)) ?_
 rintro e5 w5 ⟨rfl,g5⟩
 refine ⟨_,rfl,?_⟩
 replace hB:=hB.trans g5
 simp only [p3,p4]
 refine sv 14 (.tuple #[(.string ⟨(A:List UInt8).toArray⟩),(.string ⟨(D:List UInt8).toArray⟩),.bool true]) ?_
 refine sv 17 (.string ⟨(A:List UInt8).toArray⟩) ?_
 refine sv 18 (.string ⟨(D:List UInt8).toArray⟩) ?_
 refine sv 19 (.bool true) ?_
 refine sv 7 (.string ⟨(A:List UInt8).toArray⟩) ?_
 refine sv 8 (.string ⟨(D:List UInt8).toArray⟩) ?_
 refine sv 9 (.bool true) ?_
 refine za0 ?_
 refine k4 _ _ ?_
 try clear k4 K4
 refine wp_seq_k (fun K6 k6=>?_)
 refine wp_block ?_
 refine wp_seq_k (fun K7 k7=>?_)
 refine rg [0,1,2,3,4] ?_
 refine sv 21 (.string ⟨(X:List UInt8).toArray⟩) ?_
 refine sv 22 (.int .i64 (((X).length:Int))) ?_
 refine sv 23 (.int .i64 (most)) ?_
 refine sw 24 (.bool false) rfl (RunV.bool (x:=decide (most<((X).length:Int))) (rvk (by kernel_rfl)) hl) ?_
 refine sv 20 (.bool false) ?_
 refine za0 ?_
 refine k7 _ _ ?_
 try clear k7 K7
 refine wp_cond_false rfl ?_
 refine wp_seq_k (fun K8 k8=>?_)
 refine rg [0,1,2,3,4,5,6,7,8,9,10,11,12] ?_
 refine sv 27 (.string ⟨(A:List UInt8).toArray⟩) ?_
 refine se ?_
 refine ec 28 (zc3 (A) _) ?_
 rintro e9 w9 ⟨rfl,g9⟩
 refine ⟨_,rfl,?_⟩
 replace hB:=hB.trans g9
 simp only [p3,p4]
 refine se ?_
 refine ec 29 (zc9 (zb3 (A)) (by omega) _) ?_
 rintro ar ap ⟨rfl,ab⟩
 refine ⟨_,rfl,?_⟩
 replace hB:=hB.trans ab
 simp only [p3,p4]
 refine sw 30 (.bool false) rfl (RunV.bool (x:=!(zf3 (zb3 (A)))) (rvk (by kernel_rfl)) (show (!(zf3 (zb3 (A))))=false by rw [h1];rfl)) ?_
 refine sv 31 (.bool false) ?_
 refine sv 32 (.bool true) ?_
 refine sv 33 (.bool true) ?_
 refine sv 34 (.string ⟨(D:List UInt8).toArray⟩) ?_
 refine se ?_
 refine ec 35 (zc9 (D) (by omega) _) ?_
 rintro e11 aq ⟨rfl,aa⟩
 refine ⟨_,rfl,?_⟩
 replace hB:=hB.trans aa
 simp only [p3,p4]
 refine sw 36 (.bool false) rfl (RunV.bool (x:=!(zf3 (D))) (rvk (by kernel_rfl)) (show (!(zf3 (D)))=false by rw [h2];rfl)) ?_
 refine sv 37 (.bool false) ?_
 refine sv 38 (.bool false) ?_
 refine sv 26 (.bool false) ?_
 refine za0 ?_
 refine k8 _ _ ?_
 try clear k8 K8
 refine wp_cond_false rfl ?_
 refine wp_seq_k (fun ai ae=>?_)
 refine rg [0,1,2,3,4,5,6] ?_
 refine sv 41 (.bool true) ?_
 refine sv 42 (.bool true) ?_
 refine sv 43 (.string ⟨(D:List UInt8).toArray⟩) ?_
 refine se ?_
 refine ec 44 (zr6 (D) (by omega) _) ?_
 rintro e13 ak ⟨rfl,ad⟩
 refine ⟨_,rfl,?_⟩
 replace hB:=hB.trans ad
 simp only [p3,p4]
 refine sw 45 (.bool true) rfl (RunV.bool (x:=((Lib.trimS (D) [48])==([]:List UInt8))) (zu0 9 9 _ _ (Lib.trimS (D) [48]) ([]) rfl rfl rfl) h4) ?_
 refine sv 46 (.bool true) ?_
 refine sv 40 (.bool true) ?_
 refine za0 ?_
 refine ae _ _ ?_
 try clear ae ai
 refine wp_cond_true rfl ?_
 refine wp_seq_k (fun aj ac=>?_)
 refine rg [0,1,2] ?_
 refine sv 47 (.agg #[.bool false,.slice none 0 0,.bool false,.slice none 0 0]) ?_
 refine se ?_
 replace L2:=L2.gr (g5.trans (g9.trans (ab.trans (aa.trans ad))))
 refine es 36 0 (.agg #[.bool false,.slice none 0 0,.bool false,.slice none 0 0]) [.bool false,.slice none 0 0,.bool false,.slice none 0 0] #[.bool false,.slice none 0 0,.bool false,.slice none 0 0] L2 hB q2 ⟨rfl,rfl,rfl,rfl,trivial⟩ fun al ah af L2 hB=>?_
 refine sv 5 (.int .i64 19) ?_
 refine za0 ?_
 refine ac _ _ ?_
 try clear ac aj
 refine wp_ret ?_
 simp only [Exit.then,Exit.inBlock]
 refine bodyPost_ret (v:=(.tuple #[(.agg #[.bool false,.slice none 0 0,.bool false,.slice none 0 0]),.int .i64 19])) (za4 _ _ _ rfl rfl L2 (by kernel_rfl) rfl) rfl ⟨?_,hB⟩
 exact rfl

set_option maxRecDepth 100000 in
set_option maxHeartbeats 1000000 in
theorem read_fb1 (X A D:List UInt8) (most:Int) (_hx:X.length≤14000) (_hlong:(X.length:Int)≤most) (hc:zg5 X=(A,some D)) (_hA:(A).length≤X.length) (_hD:D.length≤X.length) (h1:zf3 (zb3 A)=true) (h2:zf3 D=true) (h3:zq0 D=false) (h5:ya1 A=true) (w:World) (hm:Mx w):
    Calls Tryz.prog 120 #[(.string ⟨(X:List UInt8).toArray⟩),(.int .i64 (most))] w fun e w'=>e=.returned (.tuple #[.agg #[.bool false,.slice none 0 0,.bool false,.slice none 0 0],.int .i64 3])∧Gr w w':=by
 have hl:decide (most<((X).length:Int))=false:=by simp;omega
 have hsA:(zb3 (A)).length≤(A).length:=zf6 _
 have h4:((Lib.trimS (D) [48])==([]:List UInt8))=false:=by rw [← zm6];exact h3
 go_enter Tryz.func120,Tryz.ntmps120
 have hB:=Gr.refl w
 refine wp_seq_k (fun K1 k1=>?_)
 refine rg [0,1] ?_
 refine se ?_
 refine ea 36 #[.bool false,.slice none 0 0,.bool false,.slice none 0 0] 4 hB fun b2 w2 g2 L2 o2 q2 hB=>?_
 simp only [p3,p4]
 refine sv 5 (.int .i64 0) ?_
 refine za0 ?_
 refine k1 _ _ ?_
 try clear k1 K1
 refine wp_seq_k (fun K3 k3=>?_)
 refine rg [0,1] ?_
 refine sv 13 (.string ⟨(X:List UInt8).toArray⟩) ?_
 refine sv 6 (.string ⟨(X:List UInt8).toArray⟩) ?_
 refine za0 ?_
 refine k3 _ _ ?_
 try clear k3 K3
 refine wp_seq_k (fun K4 k4=>?_)
 refine rg [0,1,2,3,4,5,6,7,8] ?_
 refine sv 15 (.string ⟨(X:List UInt8).toArray⟩) ?_
 refine se ?_
 refine ec 16 (zu6 (X) (A) (D) (by omega) hc (hm.gr hB)) ?_
 rintro e5 w5 ⟨rfl,g5⟩
 refine ⟨_,rfl,?_⟩
 replace hB:=hB.trans g5
 simp only [p3,p4]
 refine sv 14 (.tuple #[(.string ⟨(A:List UInt8).toArray⟩),(.string ⟨(D:List UInt8).toArray⟩),.bool true]) ?_
 refine sv 17 (.string ⟨(A:List UInt8).toArray⟩) ?_
 refine sv 18 (.string ⟨(D:List UInt8).toArray⟩) ?_
 refine sv 19 (.bool true) ?_
 refine sv 7 (.string ⟨(A:List UInt8).toArray⟩) ?_
 refine sv 8 (.string ⟨(D:List UInt8).toArray⟩) ?_
 refine sv 9 (.bool true) ?_
 refine za0 ?_
 refine k4 _ _ ?_
 try clear k4 K4
 refine wp_seq_k (fun K6 k6=>?_)
 refine wp_block ?_
 refine wp_seq_k (fun K7 k7=>?_)
 refine rg [0,1,2,3,4] ?_
 refine sv 21 (.string ⟨(X:List UInt8).toArray⟩) ?_
 refine sv 22 (.int .i64 (((X).length:Int))) ?_
 refine sv 23 (.int .i64 (most)) ?_
 refine sw 24 (.bool false) rfl (RunV.bool (x:=decide (most<((X).length:Int))) (rvk (by kernel_rfl)) hl) ?_
 refine sv 20 (.bool false) ?_
 refine za0 ?_
 refine k7 _ _ ?_
 try clear k7 K7
 refine wp_cond_false rfl ?_
 refine wp_seq_k (fun K8 k8=>?_)
 refine rg [0,1,2,3,4,5,6,7,8,9,10,11,12] ?_
 refine sv 27 (.string ⟨(A:List UInt8).toArray⟩) ?_
 refine se ?_
 refine ec 28 (zc3 (A) _) ?_
 rintro e9 w9 ⟨rfl,g9⟩
 refine ⟨_,rfl,?_⟩
 replace hB:=hB.trans g9
 simp only [p3,p4]
 refine se ?_
 refine ec 29 (zc9 (zb3 (A)) (by omega) _) ?_
 rintro aE aD ⟨rfl,ac⟩
 refine ⟨_,rfl,?_⟩
 replace hB:=hB.trans ac
 simp only [p3,p4]
 refine sw 30 (.bool false) rfl (RunV.bool (x:=!(zf3 (zb3 (A)))) (rvk (by kernel_rfl)) (show (!(zf3 (zb3 (A))))=false by rw [h1];rfl)) ?_
 refine sv 31 (.bool false) ?_
 refine sv 32 (.bool true) ?_
 refine sv 33 (.bool true) ?_
 refine sv 34 (.string ⟨(D:List UInt8).toArray⟩) ?_
 refine se ?_
 refine ec 35 (zc9 (D) (by omega) _) ?_
 rintro e11 aM ⟨rfl,af⟩
 refine ⟨_,rfl,?_⟩
 replace hB:=hB.trans af
 simp only [p3,p4]
 refine sw 36 (.bool false) rfl (RunV.bool (x:=!(zf3 (D))) (rvk (by kernel_rfl)) (show (!(zf3 (D)))=false by rw [h2];rfl)) ?_
 refine sv 37 (.bool false) ?_
 refine sv 38 (.bool false) ?_
 refine sv 26 (.bool false) ?_
 refine za0 ?_
 refine k8 _ _ ?_
 try clear k8 K8
 refine wp_cond_false rfl ?_
 refine wp_seq_k (fun aq al=>?_)
 refine rg [0,1,2,3,4,5,6] ?_
 refine sv 41 (.bool true) ?_
 refine sv 42 (.bool true) ?_
 refine sv 43 (.string ⟨(D:List UInt8).toArray⟩) ?_
 refine se ?_
 refine ec 44 (zr6 (D) (by omega) _) ?_
 rintro e13 aG ⟨rfl,ae⟩
 refine ⟨_,rfl,?_⟩
 replace hB:=hB.trans ae
 simp only [p3,p4]
 refine sw 45 (.bool false) rfl (RunV.bool (x:=((Lib.trimS (D) [48])==([]:List UInt8))) (zu0 9 9 _ _ (Lib.trimS (D) [48]) ([]) rfl rfl rfl) h4) ?_
 refine sv 46 (.bool false) ?_
 refine sv 40 (.bool false) ?_
 refine za0 ?_
 refine al _ _ ?_
 try clear al aq
 refine wp_cond_false rfl ?_
 refine wp_skip ?_
 refine k6 _ _ ?_
 try clear k6 K6
 refine wp_seq_k (fun aA ai=>?_)
 refine rg [0,1,2,3,4,5,6,7] ?_
 refine sv 49 (.string ⟨(A:List UInt8).toArray⟩) ?_
 refine se ?_
 refine ec 50 (zJ2 (A) (by omega) h1 h5 _) ?_
 rintro aJ aH ⟨rfl,aj⟩
 refine ⟨_,rfl,?_⟩
 replace hB:=hB.trans aj
 simp only [p3,p4]
 refine sv 48 (.tuple #[(.agg #[.bool false,.slice none 0 0]),.int .i64 3]) ?_
 refine sv 51 (.agg #[.bool false,.slice none 0 0]) ?_
 refine sv 52 (.int .i64 3) ?_
 refine se ?_
 refine ea 34 #[.bool false,.slice none 0 0] 10 hB fun aL aB aw ah ap ar hB=>?_
 replace L2:=L2.gr (g5.trans (g9.trans (ac.trans (af.trans (ae.trans aj)))))
 have aa:=L2.ne ap
 simp only [p3,p4]
 refine se ?_
 refine es 34 0 (.agg #[.bool false,.slice none 0 0]) [.bool false,.slice none 0 0] #[.bool false,.slice none 0 0] ah hB ar ⟨rfl,rfl,trivial⟩ fun aC ab az ah hB=>?_
 refine sv 11 (.int .i64 3) ?_
 refine za0 ?_
 refine ai _ _ ?_
 try clear ai aA
 refine wp_seq_k (fun aF aK=>?_)
 refine wp_seq_k (fun au ak=>?_)
 refine rg [0,1] ?_
 refine sv 53 (.int .i64 3) ?_
 refine sv 54 (.bool true) ?_
 refine za0 ?_
 refine ak _ _ ?_
 try clear ak au
 refine wp_cond_true rfl ?_
 refine wp_seq_k (fun ax ad=>?_)
 refine rg [0,1,2] ?_
 refine sv 55 (.agg #[.bool false,.slice none 0 0,.bool false,.slice none 0 0]) ?_
 refine se ?_
 replace L2:=ab.lc (L2.gr aw) aa
 refine es 36 0 (.agg #[.bool false,.slice none 0 0,.bool false,.slice none 0 0]) [.bool false,.slice none 0 0,.bool false,.slice none 0 0] #[.bool false,.slice none 0 0,.bool false,.slice none 0 0] L2 hB q2 ⟨rfl,rfl,rfl,rfl,trivial⟩ fun aI av ay L2 hB=>?_
 refine sv 5 (.int .i64 3) ?_
 refine za0 ?_
 refine ad _ _ ?_
 try clear ad ax
 refine wp_ret ?_
 simp only [Exit.then]
 refine bodyPost_ret (v:=(.tuple #[(.agg #[.bool false,.slice none 0 0,.bool false,.slice none 0 0]),.int .i64 3])) (za4 _ _ _ rfl rfl L2 (by kernel_rfl) rfl) rfl ⟨?_,hB⟩
 exact rfl

set_option maxRecDepth 100000 in
set_option maxHeartbeats 1000000 in
theorem read_fb2 (X D:List UInt8) (z:Int) (most:Int) (_hx:X.length≤14000) (_hlong:(X.length:Int)≤most) (hc:zg5 X=(Lib.itoa (z),some D)) (_hA:(Lib.itoa (z)).length≤X.length) (_hD:D.length≤X.length) (h2:zf3 D=true) (aK:zf3 (zb3 D)=true) (h3:zq0 D=false) (h5:ya1 D=true) (w:World) (hm:Mx w):
    Calls Tryz.prog 120 #[(.string ⟨(X:List UInt8).toArray⟩),(.int .i64 (most))] w fun e w'=>e=.returned (.tuple #[.agg #[.bool false,.slice none 0 0,.bool false,.slice none 0 0],.int .i64 3])∧Gr w w':=by
 have hl:decide (most<((X).length:Int))=false:=by simp;omega
 have hsA:(zb3 (Lib.itoa (z))).length≤(Lib.itoa (z)).length:=zf6 _
 have h1:zf3 (zb3 (Lib.itoa (z)))=true:=by rw [zs3];exact zP5 _
 have h4:((Lib.trimS (D) [48])==([]:List UInt8))=false:=by rw [← zm6];exact h3
 go_enter Tryz.func120,Tryz.ntmps120
 have hB:=Gr.refl w
 refine wp_seq_k (fun K1 k1=>?_)
 refine rg [0,1] ?_
 refine se ?_
 refine ea 36 #[.bool false,.slice none 0 0,.bool false,.slice none 0 0] 4 hB fun b2 w2 g2 L2 o2 q2 hB=>?_
 simp only [p3,p4]
 refine sv 5 (.int .i64 0) ?_
 refine za0 ?_
 refine k1 _ _ ?_
 try clear k1 K1
 refine wp_seq_k (fun K3 k3=>?_)
 refine rg [0,1] ?_
 refine sv 13 (.string ⟨(X:List UInt8).toArray⟩) ?_
 refine sv 6 (.string ⟨(X:List UInt8).toArray⟩) ?_
 refine za0 ?_
 refine k3 _ _ ?_
 try clear k3 K3
 refine wp_seq_k (fun K4 k4=>?_)
 refine rg [0,1,2,3,4,5,6,7,8] ?_
 refine sv 15 (.string ⟨(X:List UInt8).toArray⟩) ?_
 refine se ?_
 refine ec 16 (zu6 (X) (Lib.itoa (z)) (D) (by omega) hc (hm.gr hB)) ?_
 rintro e5 w5 ⟨rfl,g5⟩
 refine ⟨_,rfl,?_⟩
 replace hB:=hB.trans g5
 simp only [p3,p4]
 refine sv 14 (.tuple #[(.string ⟨(Lib.itoa (z):List UInt8).toArray⟩),(.string ⟨(D:List UInt8).toArray⟩),.bool true]) ?_
 refine sv 17 (.string ⟨(Lib.itoa (z):List UInt8).toArray⟩) ?_
 refine sv 18 (.string ⟨(D:List UInt8).toArray⟩) ?_
 refine sv 19 (.bool true) ?_
 refine sv 7 (.string ⟨(Lib.itoa (z):List UInt8).toArray⟩) ?_
 refine sv 8 (.string ⟨(D:List UInt8).toArray⟩) ?_
 refine sv 9 (.bool true) ?_
 refine za0 ?_
 refine k4 _ _ ?_
 try clear k4 K4
 refine wp_seq_k (fun K6 k6=>?_)
 refine wp_block ?_
 refine wp_seq_k (fun K7 k7=>?_)
 refine rg [0,1,2,3,4] ?_
 refine sv 21 (.string ⟨(X:List UInt8).toArray⟩) ?_
 refine sv 22 (.int .i64 (((X).length:Int))) ?_
 refine sv 23 (.int .i64 (most)) ?_
 refine sw 24 (.bool false) rfl (RunV.bool (x:=decide (most<((X).length:Int))) (rvk (by kernel_rfl)) hl) ?_
 refine sv 20 (.bool false) ?_
 refine za0 ?_
 refine k7 _ _ ?_
 try clear k7 K7
 refine wp_cond_false rfl ?_
 refine wp_seq_k (fun K8 k8=>?_)
 refine rg [0,1,2,3,4,5,6,7,8,9,10,11,12] ?_
 refine sv 27 (.string ⟨(Lib.itoa (z):List UInt8).toArray⟩) ?_
 refine se ?_
 refine ec 28 (zc3 (Lib.itoa (z)) _) ?_
 rintro e9 w9 ⟨rfl,g9⟩
 refine ⟨_,rfl,?_⟩
 replace hB:=hB.trans g9
 simp only [p3,p4]
 refine se ?_
 refine ec 29 (zc9 (zb3 (Lib.itoa (z))) (by omega) _) ?_
 rintro a6 a5 ⟨rfl,ap⟩
 refine ⟨_,rfl,?_⟩
 replace hB:=hB.trans ap
 simp only [p3,p4]
 refine sw 30 (.bool false) rfl (RunV.bool (x:=!(zf3 (zb3 (Lib.itoa (z))))) (rvk (by kernel_rfl)) (show (!(zf3 (zb3 (Lib.itoa (z)))))=false by rw [h1];rfl)) ?_
 refine sv 31 (.bool false) ?_
 refine sv 32 (.bool true) ?_
 refine sv 33 (.bool true) ?_
 refine sv 34 (.string ⟨(D:List UInt8).toArray⟩) ?_
 refine se ?_
 refine ec 35 (zc9 (D) (by omega) _) ?_
 rintro e11 bf ⟨rfl,av⟩
 refine ⟨_,rfl,?_⟩
 replace hB:=hB.trans av
 simp only [p3,p4]
 refine sw 36 (.bool false) rfl (RunV.bool (x:=!(zf3 (D))) (rvk (by kernel_rfl)) (show (!(zf3 (D)))=false by rw [h2];rfl)) ?_
 refine sv 37 (.bool false) ?_
 refine sv 38 (.bool false) ?_
 refine sv 26 (.bool false) ?_
 refine za0 ?_
 refine k8 _ _ ?_
 try clear k8 K8
 refine wp_cond_false rfl ?_
 refine wp_seq_k (fun aM aG=>?_)
 refine rg [0,1,2,3,4,5,6] ?_
 refine sv 41 (.bool true) ?_
 refine sv 42 (.bool true) ?_
 refine sv 43 (.string ⟨(D:List UInt8).toArray⟩) ?_
 refine se ?_
 refine ec 44 (zr6 (D) (by omega) _) ?_
 rintro e13 a7 ⟨rfl,ar⟩
 refine ⟨_,rfl,?_⟩
 replace hB:=hB.trans ar
 simp only [p3,p4]
 refine sw 45 (.bool false) rfl (RunV.bool (x:=((Lib.trimS (D) [48])==([]:List UInt8))) (zu0 9 9 _ _ (Lib.trimS (D) [48]) ([]) rfl rfl rfl) h4) ?_
 refine sv 46 (.bool false) ?_
 refine sv 40 (.bool false) ?_
 refine za0 ?_
 refine aG _ _ ?_
 try clear aG aM
 refine wp_cond_false rfl ?_
 refine wp_skip ?_
 refine k6 _ _ ?_
 try clear k6 K6
 refine wp_seq_k (fun a1 ax=>?_)
 refine rg [0,1,2,3,4,5,6,7] ?_
 refine sv 49 (.string ⟨(Lib.itoa (z):List UInt8).toArray⟩) ?_
 refine se ?_
 refine ec 50 (zq8 (z) (zu1 (z) (m:=14000) (by omega)) (by omega) _) ?_
 rintro a9 a8 ⟨⟨ah,ai,rfl,aE⟩,az⟩
 refine ⟨_,rfl,?_⟩
 replace hB:=hB.trans az
 simp only [p3,p4]
 refine sv 48 (.tuple #[(.agg #[ah,ai]),.int .i64 0]) ?_
 refine sv 51 (.agg #[ah,ai]) ?_
 refine sv 52 (.int .i64 0) ?_
 refine se ?_
 refine ea 34 #[.bool false,.slice none 0 0] 10 hB fun aY a3 aR aa aH aN hB=>?_
 replace L2:=L2.gr (g5.trans (g9.trans (ap.trans (av.trans (ar.trans az)))))
 have af:=L2.ne aH
 simp only [p3,p4]
 refine se ?_
 refine es 34 0 (.agg #[ah,ai]) [ah,ai] #[ah,ai] aa hB aN ⟨aE.one0,aE.one1,trivial⟩ fun a4 al a0 aa hB=>?_
 refine sv 11 (.int .i64 0) ?_
 refine za0 ?_
 refine ax _ _ ?_
 try clear ax a1
 refine wp_seq_k (fun aS aC=>?_)
 refine wp_seq_k (fun aO aB=>?_)
 refine rg [0,1] ?_
 refine sv 53 (.int .i64 0) ?_
 refine sv 54 (.bool false) ?_
 refine za0 ?_
 refine aB _ _ ?_
 try clear aB aO
 refine wp_cond_false rfl ?_
 refine wp_skip ?_
 refine aC _ _ ?_
 try clear aC aS
 refine wp_seq_k (fun aT aq=>?_)
 refine wp_seq_k (fun aW aw=>?_)
 refine rg [0,1] ?_
 refine sv 56 (.bool true) ?_
 refine sv 57 (.bool false) ?_
 refine za0 ?_
 refine aw _ _ ?_
 try clear aw aW
 refine wp_cond_false rfl ?_
 refine wp_skip ?_
 refine aq _ _ ?_
 try clear aq aT
 refine wp_seq_k (fun aI ay=>?_)
 refine rg [0,1,2,3,4,5,6,7] ?_
 refine sv 61 (.string ⟨(D:List UInt8).toArray⟩) ?_
 refine se ?_
 refine ec 62 (zJ2 (D) (by omega) aK h5 _) ?_
 rintro e23 bb ⟨rfl,ak⟩
 refine ⟨_,rfl,?_⟩
 replace hB:=hB.trans ak
 simp only [p3,p4]
 refine sv 60 (.tuple #[(.agg #[.bool false,.slice none 0 0]),.int .i64 3]) ?_
 refine sv 63 (.agg #[.bool false,.slice none 0 0]) ?_
 refine sv 64 (.int .i64 3) ?_
 refine se ?_
 refine ea 34 #[.bool false,.slice none 0 0] 12 hB fun aQ bd aA ab aD aJ hB=>?_
 replace L2:=(al.lc (L2.gr aR) af).gr ak
 have ae:=L2.ne aD
 replace aa:=aa.gr ak
 have ac:=aa.ne aD
 simp only [p3,p4]
 refine se ?_
 refine es 34 0 (.agg #[.bool false,.slice none 0 0]) [.bool false,.slice none 0 0] #[.bool false,.slice none 0 0] ab hB aJ ⟨rfl,rfl,trivial⟩ fun aX aj aV ab hB=>?_
 refine sv 11 (.int .i64 3) ?_
 refine za0 ?_
 refine ay _ _ ?_
 try clear ay aI
 refine wp_seq_k (fun bc ba=>?_)
 refine wp_seq_k (fun aL aF=>?_)
 have ad:=Gr.drew aX
 replace hB:=hB.trans ad
 replace aa:=(aj.lc (aa.gr aA) ac).gr ad
 replace ab:=ab.gr ad
 refine za2 (fun w'=>Lc w' aY #[ah,ai] 34∧Lc w' aQ #[.bool false,.slice none 0 0] 34) [(true,0),(true,1),(true,2),(true,3),(false,4),(false,5),(true,6),(true,7),(true,8),(true,9),(true,10),(false,11),(false,12),(false,13),(true,14),(true,15)] (by kernel_rfl) (by kernel_rfl) (by kernel_rfl) (by decide) (fun _ _ _ _ _ h=>h) ⟨aa,ab⟩ ?_
 refine ov 65 (.int .i64 3) ?_
 refine ov 66 (.bool true) ?_
 refine ov 67 (.bool true) ?_
 refine os 68 ?_
 refine oz 69 ⟨aa,ab⟩ ?_
 refine oz 70 ⟨aa,ab⟩ ?_
 refine os 71 ?_
 refine ov 72 (.bool true) ?_
 refine ov 73 (.bool true) ?_
 refine os 74 ?_
 refine os 75 ?_
 refine oz 76 ⟨aa,ab⟩ ?_
 refine oz 77 ⟨aa,ab⟩ ?_
 refine oz 78 ⟨aa,ab⟩ ?_
 refine os 79 ?_
 refine ov 80 (.bool true) ?_
 refine zb8 ?_
 refine aF _ _ ?_
 try clear aF aL
 refine wp_cond_true rfl ?_
 refine wp_seq_k (fun aZ au=>?_)
 refine rg [0,1,2] ?_
 refine sv 81 (.agg #[.bool false,.slice none 0 0,.bool false,.slice none 0 0]) ?_
 refine se ?_
 replace L2:=(aj.lc (L2.gr aA) ae).gr ad
 refine es 36 0 (.agg #[.bool false,.slice none 0 0,.bool false,.slice none 0 0]) [.bool false,.slice none 0 0,.bool false,.slice none 0 0] #[.bool false,.slice none 0 0,.bool false,.slice none 0 0] L2 hB q2 ⟨rfl,rfl,rfl,rfl,trivial⟩ fun a2 aU aP L2 hB=>?_
 refine sv 5 (.int .i64 3) ?_
 refine za0 ?_
 refine au _ _ ?_
 try clear au aZ
 refine wp_ret ?_
 simp only [Exit.then]
 refine bodyPost_ret (v:=(.tuple #[(.agg #[.bool false,.slice none 0 0,.bool false,.slice none 0 0]),.int .i64 3])) (za4 _ _ _ rfl rfl L2 (by kernel_rfl) rfl) rfl ⟨?_,hB⟩
 exact rfl

set_option maxRecDepth 100000 in
set_option maxHeartbeats 1000000 in
theorem read_g1 (X:List UInt8) (z d:Int) (most:Int) (_hx:X.length≤14000) (_hlong:(X.length:Int)≤most) (hc:zg5 X=(Lib.itoa (z),some (Lib.itoa (d)))) (_hA:(Lib.itoa (z)).length≤X.length) (_hD:(Lib.itoa (d)).length≤X.length) (h2:zf3 (Lib.itoa d)=true) (h3:zq0 (Lib.itoa d)=false) (h5:d=1) (w:World) (hm:Mx w):
    Calls Tryz.prog 120 #[(.string ⟨(X:List UInt8).toArray⟩),(.int .i64 (most))] w fun e w'=>e=.returned (.tuple #[.agg #[.bool false,.slice none 0 0,.bool false,.slice none 0 0],.int .i64 3])∧Gr w w':=by
 have hl:decide (most<((X).length:Int))=false:=by simp;omega
 have hsA:(zb3 (Lib.itoa (z))).length≤(Lib.itoa (z)).length:=zf6 _
 have h1:zf3 (zb3 (Lib.itoa (z)))=true:=by rw [zs3];exact zP5 _
 have h4:((Lib.trimS (Lib.itoa (d)) [48])==([]:List UInt8))=false:=by rw [← zm6];exact h3
 have h6:(sgn (d - 1)==(0:Int))=true:=by rw [h5];rfl
 go_enter Tryz.func120,Tryz.ntmps120
 have hB:=Gr.refl w
 refine wp_seq_k (fun K1 k1=>?_)
 refine rg [0,1] ?_
 refine se ?_
 refine ea 36 #[.bool false,.slice none 0 0,.bool false,.slice none 0 0] 4 hB fun b2 w2 g2 L2 o2 q2 hB=>?_
 simp only [p3,p4]
 refine sv 5 (.int .i64 0) ?_
 refine za0 ?_
 refine k1 _ _ ?_
 try clear k1 K1
 refine wp_seq_k (fun K3 k3=>?_)
 refine rg [0,1] ?_
 refine sv 13 (.string ⟨(X:List UInt8).toArray⟩) ?_
 refine sv 6 (.string ⟨(X:List UInt8).toArray⟩) ?_
 refine za0 ?_
 refine k3 _ _ ?_
 try clear k3 K3
 refine wp_seq_k (fun K4 k4=>?_)
 refine rg [0,1,2,3,4,5,6,7,8] ?_
 refine sv 15 (.string ⟨(X:List UInt8).toArray⟩) ?_
 refine se ?_
 refine ec 16 (zu6 (X) (Lib.itoa (z)) (Lib.itoa (d)) (by omega) hc (hm.gr hB)) ?_
 rintro e5 w5 ⟨rfl,g5⟩
 refine ⟨_,rfl,?_⟩
 replace hB:=hB.trans g5
 simp only [p3,p4]
 refine sv 14 (.tuple #[(.string ⟨(Lib.itoa (z):List UInt8).toArray⟩),(.string ⟨(Lib.itoa (d):List UInt8).toArray⟩),.bool true]) ?_
 refine sv 17 (.string ⟨(Lib.itoa (z):List UInt8).toArray⟩) ?_
 refine sv 18 (.string ⟨(Lib.itoa (d):List UInt8).toArray⟩) ?_
 refine sv 19 (.bool true) ?_
 refine sv 7 (.string ⟨(Lib.itoa (z):List UInt8).toArray⟩) ?_
 refine sv 8 (.string ⟨(Lib.itoa (d):List UInt8).toArray⟩) ?_
 refine sv 9 (.bool true) ?_
 refine za0 ?_
 refine k4 _ _ ?_
 try clear k4 K4
 refine wp_seq_k (fun K6 k6=>?_)
 refine wp_block ?_
 refine wp_seq_k (fun K7 k7=>?_)
 refine rg [0,1,2,3,4] ?_
 refine sv 21 (.string ⟨(X:List UInt8).toArray⟩) ?_
 refine sv 22 (.int .i64 (((X).length:Int))) ?_
 refine sv 23 (.int .i64 (most)) ?_
 refine sw 24 (.bool false) rfl (RunV.bool (x:=decide (most<((X).length:Int))) (rvk (by kernel_rfl)) hl) ?_
 refine sv 20 (.bool false) ?_
 refine za0 ?_
 refine k7 _ _ ?_
 try clear k7 K7
 refine wp_cond_false rfl ?_
 refine wp_seq_k (fun K8 k8=>?_)
 refine rg [0,1,2,3,4,5,6,7,8,9,10,11,12] ?_
 refine sv 27 (.string ⟨(Lib.itoa (z):List UInt8).toArray⟩) ?_
 refine se ?_
 refine ec 28 (zc3 (Lib.itoa (z)) _) ?_
 rintro e9 w9 ⟨rfl,g9⟩
 refine ⟨_,rfl,?_⟩
 replace hB:=hB.trans g9
 simp only [p3,p4]
 refine se ?_
 refine ec 29 (zc9 (zb3 (Lib.itoa (z))) (by omega) _) ?_
 rintro bd bb ⟨rfl,az⟩
 refine ⟨_,rfl,?_⟩
 replace hB:=hB.trans az
 simp only [p3,p4]
 refine sw 30 (.bool false) rfl (RunV.bool (x:=!(zf3 (zb3 (Lib.itoa (z))))) (rvk (by kernel_rfl)) (show (!(zf3 (zb3 (Lib.itoa (z)))))=false by rw [h1];rfl)) ?_
 refine sv 31 (.bool false) ?_
 refine sv 32 (.bool true) ?_
 refine sv 33 (.bool true) ?_
 refine sv 34 (.string ⟨(Lib.itoa (d):List UInt8).toArray⟩) ?_
 refine se ?_
 refine ec 35 (zc9 (Lib.itoa (d)) (by omega) _) ?_
 rintro e11 bt ⟨rfl,aC⟩
 refine ⟨_,rfl,?_⟩
 replace hB:=hB.trans aC
 simp only [p3,p4]
 refine sw 36 (.bool false) rfl (RunV.bool (x:=!(zf3 (Lib.itoa (d)))) (rvk (by kernel_rfl)) (show (!(zf3 (Lib.itoa (d))))=false by rw [h2];rfl)) ?_
 refine sv 37 (.bool false) ?_
 refine sv 38 (.bool false) ?_
 refine sv 26 (.bool false) ?_
 refine za0 ?_
 refine k8 _ _ ?_
 try clear k8 K8
 refine wp_cond_false rfl ?_
 refine wp_seq_k (fun aV aN=>?_)
 refine rg [0,1,2,3,4,5,6] ?_
 refine sv 41 (.bool true) ?_
 refine sv 42 (.bool true) ?_
 refine sv 43 (.string ⟨(Lib.itoa (d):List UInt8).toArray⟩) ?_
 refine se ?_
 refine ec 44 (zr6 (Lib.itoa (d)) (by omega) _) ?_
 rintro e13 bi ⟨rfl,aB⟩
 refine ⟨_,rfl,?_⟩
 replace hB:=hB.trans aB
 simp only [p3,p4]
 refine sw 45 (.bool false) rfl (RunV.bool (x:=((Lib.trimS (Lib.itoa (d)) [48])==([]:List UInt8))) (zu0 9 9 _ _ (Lib.trimS (Lib.itoa (d)) [48]) ([]) rfl rfl rfl) h4) ?_
 refine sv 46 (.bool false) ?_
 refine sv 40 (.bool false) ?_
 refine za0 ?_
 refine aN _ _ ?_
 try clear aN aV
 refine wp_cond_false rfl ?_
 refine wp_skip ?_
 refine k6 _ _ ?_
 try clear k6 K6
 refine wp_seq_k (fun a7 aF=>?_)
 refine rg [0,1,2,3,4,5,6,7] ?_
 refine sv 49 (.string ⟨(Lib.itoa (z):List UInt8).toArray⟩) ?_
 refine se ?_
 refine ec 50 (zq8 (z) (zu1 (z) (m:=14000) (by omega)) (by omega) _) ?_
 rintro bk bj ⟨⟨aj,ak,rfl,aL⟩,aH⟩
 refine ⟨_,rfl,?_⟩
 replace hB:=hB.trans aH
 simp only [p3,p4]
 refine sv 48 (.tuple #[(.agg #[aj,ak]),.int .i64 0]) ?_
 refine sv 51 (.agg #[aj,ak]) ?_
 refine sv 52 (.int .i64 0) ?_
 refine se ?_
 refine ea 34 #[.bool false,.slice none 0 0] 10 hB fun a5 a9 aZ aa aQ aW hB=>?_
 replace L2:=L2.gr (g5.trans (g9.trans (az.trans (aC.trans (aB.trans aH)))))
 have ai:=L2.ne aQ
 simp only [p3,p4]
 refine se ?_
 refine es 34 0 (.agg #[aj,ak]) [aj,ak] #[aj,ak] aa hB aW ⟨aL.one0,aL.one1,trivial⟩ fun ba ay a6 aa hB=>?_
 refine sv 11 (.int .i64 0) ?_
 refine za0 ?_
 refine aF _ _ ?_
 try clear aF a7
 refine wp_seq_k (fun a0 aJ=>?_)
 refine wp_seq_k (fun aX aI=>?_)
 refine rg [0,1] ?_
 refine sv 53 (.int .i64 0) ?_
 refine sv 54 (.bool false) ?_
 refine za0 ?_
 refine aI _ _ ?_
 try clear aI aX
 refine wp_cond_false rfl ?_
 refine wp_skip ?_
 refine aJ _ _ ?_
 try clear aJ a0
 refine wp_seq_k (fun a1 aA=>?_)
 refine wp_seq_k (fun a2 aD=>?_)
 refine rg [0,1] ?_
 refine sv 56 (.bool true) ?_
 refine sv 57 (.bool false) ?_
 refine za0 ?_
 refine aD _ _ ?_
 try clear aD a2
 refine wp_cond_false rfl ?_
 refine wp_skip ?_
 refine aA _ _ ?_
 try clear aA a1
 refine wp_seq_k (fun aR aG=>?_)
 refine rg [0,1,2,3,4,5,6,7] ?_
 refine sv 61 (.string ⟨(Lib.itoa (d):List UInt8).toArray⟩) ?_
 refine se ?_
 refine ec 62 (zq8 (d) (zu1 (d) (m:=14000) (by omega)) (by omega) _) ?_
 rintro e23 bn ⟨⟨ae,af,rfl,al⟩,aw⟩
 refine ⟨_,rfl,?_⟩
 replace hB:=hB.trans aw
 simp only [p3,p4]
 refine sv 60 (.tuple #[(.agg #[ae,af]),.int .i64 0]) ?_
 refine sv 63 (.agg #[ae,af]) ?_
 refine sv 64 (.int .i64 0) ?_
 refine se ?_
 refine ea 34 #[.bool false,.slice none 0 0] 12 hB fun aY bp av ab aK aT hB=>?_
 replace L2:=(ay.lc (L2.gr aZ) ai).gr aw
 have ah:=L2.ne aK
 replace aa:=aa.gr aw
 have ad:=aa.ne aK
 simp only [p3,p4]
 refine se ?_
 refine es 34 0 (.agg #[ae,af]) [ae,af] #[ae,af] ab hB aT ⟨al.one0,al.one1,trivial⟩ fun a3 ap ax ab hB=>?_
 refine sv 11 (.int .i64 0) ?_
 refine za0 ?_
 refine aG _ _ ?_
 try clear aG aR
 refine wp_seq_k (fun bo bm=>?_)
 refine wp_seq_k (fun aU aM=>?_)
 have ac:=Gr.drew a3
 replace hB:=hB.trans ac
 replace aa:=(ap.lc (aa.gr av) ad).gr ac
 replace ab:=ab.gr ac
 refine za2 (fun w'=>Lc w' a5 #[aj,ak] 34∧Lc w' aY #[ae,af] 34) [(true,0),(true,1),(true,2),(true,3),(false,4),(false,5),(true,6),(true,7),(true,8),(true,9),(true,10),(false,11),(false,12),(false,13),(true,14),(true,15)] (by kernel_rfl) (by kernel_rfl) (by kernel_rfl) (by decide) (fun _ _ _ _ _ h=>h) ⟨aa,ab⟩ ?_
 refine ov 65 (.int .i64 0) ?_
 refine ov 66 (.bool false) ?_
 refine ov 67 (.bool false) ?_
 refine ow 68 (.agg #[ae,af]) rfl (fun w' hS=>(rl 34 0 [ae,af] hS.2)) ?_
 refine oe ?_
 refine ec 69 (zG7 _) ?_
 rintro bu bf ⟨⟨bc,bg,rfl,aP⟩,aq⟩
 refine ⟨_,rfl,?_⟩
 replace hB:=hB.trans aq
 replace aa:=aa.gr aq
 replace ab:=ab.gr aq
 refine ⟨⟨aa,ab⟩,?_⟩
 simp only [p3,p4]
 refine oe ?_
 have au:=av.kp.trans (ax.trans (ac.kp.trans aq.kp))
 replace al:=al.kp au
 refine ec 70 (ze0 al aP (by omega) (by omega)) ?_
 rintro bh a8 ⟨rfl,ar⟩
 refine ⟨_,rfl,?_⟩
 replace hB:=hB.trans ar
 replace aa:=aa.gr ar
 replace ab:=ab.gr ar
 refine ⟨⟨aa,ab⟩,?_⟩
 simp only [p3,p4]
 refine ow 71 (.bool true) rfl (fun w' hS=>(RunV.bool (x:=(sgn (d - 1)==(0:Int))) (rvk (by kernel_rfl)) h6)) ?_
 refine ov 72 (.bool true) ?_
 refine ov 73 (.bool true) ?_
 refine os 74 ?_
 refine os 75 ?_
 refine oz 76 ⟨aa,ab⟩ ?_
 refine oz 77 ⟨aa,ab⟩ ?_
 refine oz 78 ⟨aa,ab⟩ ?_
 refine os 79 ?_
 refine ov 80 (.bool true) ?_
 refine zb8 ?_
 refine aM _ _ ?_
 try clear aM aU
 refine wp_cond_true rfl ?_
 refine wp_seq_k (fun aS aE=>?_)
 refine rg [0,1,2] ?_
 refine sv 81 (.agg #[.bool false,.slice none 0 0,.bool false,.slice none 0 0]) ?_
 refine se ?_
 replace L2:=(ap.lc (L2.gr av) ah).gr (ac.trans (aq.trans ar))
 refine es 36 0 (.agg #[.bool false,.slice none 0 0,.bool false,.slice none 0 0]) [.bool false,.slice none 0 0,.bool false,.slice none 0 0] #[.bool false,.slice none 0 0,.bool false,.slice none 0 0] L2 hB q2 ⟨rfl,rfl,rfl,rfl,trivial⟩ fun bq aO a4 L2 hB=>?_
 refine sv 5 (.int .i64 3) ?_
 refine za0 ?_
 refine aE _ _ ?_
 try clear aE aS
 refine wp_ret ?_
 simp only [Exit.then]
 refine bodyPost_ret (v:=(.tuple #[(.agg #[.bool false,.slice none 0 0,.bool false,.slice none 0 0]),.int .i64 3])) (za4 _ _ _ rfl rfl L2 (by kernel_rfl) rfl) rfl ⟨?_,hB⟩
 exact rfl

set_option maxRecDepth 100000 in
set_option maxHeartbeats 1000000 in
theorem read_g2 (X:List UInt8) (z d:Int) (most:Int) (_hx:X.length≤14000) (_hlong:(X.length:Int)≤most) (hc:zg5 X=(Lib.itoa (z),some (Lib.itoa (d)))) (_hA:(Lib.itoa (z)).length≤X.length) (_hD:(Lib.itoa (d)).length≤X.length) (h2:zf3 (Lib.itoa d)=true) (h3:zq0 (Lib.itoa d)=false) (h5:d≠1) (h7:Int.gcd z d≠1) (w:World) (hm:Mx w):
    Calls Tryz.prog 120 #[(.string ⟨(X:List UInt8).toArray⟩),(.int .i64 (most))] w fun e w'=>e=.returned (.tuple #[.agg #[.bool false,.slice none 0 0,.bool false,.slice none 0 0],.int .i64 3])∧Gr w w':=by
 have hl:decide (most<((X).length:Int))=false:=by simp;omega
 have hsA:(zb3 (Lib.itoa (z))).length≤(Lib.itoa (z)).length:=zf6 _
 have h1:zf3 (zb3 (Lib.itoa (z)))=true:=by rw [zs3];exact zP5 _
 have h4:((Lib.trimS (Lib.itoa (d)) [48])==([]:List UInt8))=false:=by rw [← zm6];exact h3
 have h6:(sgn (d - 1)==(0:Int))=false:=by rw [beq_eq_false_iff_ne];exact fun e=>h5 (by have:=zc2.1 e;omega)
 have h8:(sgn ((Int.gcd (z) (d):Int) - 1) !=(0:Int))=true:=by rw [bne_iff_ne];exact fun e=>h7 (by have:=zc2.1 e;omega)
 go_enter Tryz.func120,Tryz.ntmps120
 have hB:=Gr.refl w
 refine wp_seq_k (fun K1 k1=>?_)
 refine rg [0,1] ?_
 refine se ?_
 refine ea 36 #[.bool false,.slice none 0 0,.bool false,.slice none 0 0] 4 hB fun b2 w2 g2 L2 o2 q2 hB=>?_
 simp only [p3,p4]
 refine sv 5 (.int .i64 0) ?_
 refine za0 ?_
 refine k1 _ _ ?_
 try clear k1 K1
 refine wp_seq_k (fun K3 k3=>?_)
 refine rg [0,1] ?_
 refine sv 13 (.string ⟨(X:List UInt8).toArray⟩) ?_
 refine sv 6 (.string ⟨(X:List UInt8).toArray⟩) ?_
 refine za0 ?_
 refine k3 _ _ ?_
 try clear k3 K3
 refine wp_seq_k (fun K4 k4=>?_)
 refine rg [0,1,2,3,4,5,6,7,8] ?_
 refine sv 15 (.string ⟨(X:List UInt8).toArray⟩) ?_
 refine se ?_
 refine ec 16 (zu6 (X) (Lib.itoa (z)) (Lib.itoa (d)) (by omega) hc (hm.gr hB)) ?_
 rintro e5 w5 ⟨rfl,g5⟩
 refine ⟨_,rfl,?_⟩
 replace hB:=hB.trans g5
 simp only [p3,p4]
 refine sv 14 (.tuple #[(.string ⟨(Lib.itoa (z):List UInt8).toArray⟩),(.string ⟨(Lib.itoa (d):List UInt8).toArray⟩),.bool true]) ?_
 refine sv 17 (.string ⟨(Lib.itoa (z):List UInt8).toArray⟩) ?_
 refine sv 18 (.string ⟨(Lib.itoa (d):List UInt8).toArray⟩) ?_
 refine sv 19 (.bool true) ?_
 refine sv 7 (.string ⟨(Lib.itoa (z):List UInt8).toArray⟩) ?_
 refine sv 8 (.string ⟨(Lib.itoa (d):List UInt8).toArray⟩) ?_
 refine sv 9 (.bool true) ?_
 refine za0 ?_
 refine k4 _ _ ?_
 try clear k4 K4
 refine wp_seq_k (fun K6 k6=>?_)
 refine wp_block ?_
 refine wp_seq_k (fun K7 k7=>?_)
 refine rg [0,1,2,3,4] ?_
 refine sv 21 (.string ⟨(X:List UInt8).toArray⟩) ?_
 refine sv 22 (.int .i64 (((X).length:Int))) ?_
 refine sv 23 (.int .i64 (most)) ?_
 refine sw 24 (.bool false) rfl (RunV.bool (x:=decide (most<((X).length:Int))) (rvk (by kernel_rfl)) hl) ?_
 refine sv 20 (.bool false) ?_
 refine za0 ?_
 refine k7 _ _ ?_
 try clear k7 K7
 refine wp_cond_false rfl ?_
 refine wp_seq_k (fun K8 k8=>?_)
 refine rg [0,1,2,3,4,5,6,7,8,9,10,11,12] ?_
 refine sv 27 (.string ⟨(Lib.itoa (z):List UInt8).toArray⟩) ?_
 refine se ?_
 refine ec 28 (zc3 (Lib.itoa (z)) _) ?_
 rintro e9 w9 ⟨rfl,g9⟩
 refine ⟨_,rfl,?_⟩
 replace hB:=hB.trans g9
 simp only [p3,p4]
 refine se ?_
 refine ec 29 (zc9 (zb3 (Lib.itoa (z))) (by omega) _) ?_
 rintro bv bm ⟨rfl,aH⟩
 refine ⟨_,rfl,?_⟩
 replace hB:=hB.trans aH
 simp only [p3,p4]
 refine sw 30 (.bool false) rfl (RunV.bool (x:=!(zf3 (zb3 (Lib.itoa (z))))) (rvk (by kernel_rfl)) (show (!(zf3 (zb3 (Lib.itoa (z)))))=false by rw [h1];rfl)) ?_
 refine sv 31 (.bool false) ?_
 refine sv 32 (.bool true) ?_
 refine sv 33 (.bool true) ?_
 refine sv 34 (.string ⟨(Lib.itoa (d):List UInt8).toArray⟩) ?_
 refine se ?_
 refine ec 35 (zc9 (Lib.itoa (d)) (by omega) _) ?_
 rintro e11 bM ⟨rfl,aK⟩
 refine ⟨_,rfl,?_⟩
 replace hB:=hB.trans aK
 simp only [p3,p4]
 refine sw 36 (.bool false) rfl (RunV.bool (x:=!(zf3 (Lib.itoa (d)))) (rvk (by kernel_rfl)) (show (!(zf3 (Lib.itoa (d))))=false by rw [h2];rfl)) ?_
 refine sv 37 (.bool false) ?_
 refine sv 38 (.bool false) ?_
 refine sv 26 (.bool false) ?_
 refine za0 ?_
 refine k8 _ _ ?_
 try clear k8 K8
 refine wp_cond_false rfl ?_
 refine wp_seq_k (fun a0 aU=>?_)
 refine rg [0,1,2,3,4,5,6] ?_
 refine sv 41 (.bool true) ?_
 refine sv 42 (.bool true) ?_
 refine sv 43 (.string ⟨(Lib.itoa (d):List UInt8).toArray⟩) ?_
 refine se ?_
 refine ec 44 (zr6 (Lib.itoa (d)) (by omega) _) ?_
 rintro e13 bx ⟨rfl,aJ⟩
 refine ⟨_,rfl,?_⟩
 replace hB:=hB.trans aJ
 simp only [p3,p4]
 refine sw 45 (.bool false) rfl (RunV.bool (x:=((Lib.trimS (Lib.itoa (d)) [48])==([]:List UInt8))) (zu0 9 9 _ _ (Lib.trimS (Lib.itoa (d)) [48]) ([]) rfl rfl rfl) h4) ?_
 refine sv 46 (.bool false) ?_
 refine sv 40 (.bool false) ?_
 refine za0 ?_
 refine aU _ _ ?_
 try clear aU a0
 refine wp_cond_false rfl ?_
 refine wp_skip ?_
 refine k6 _ _ ?_
 try clear k6 K6
 refine wp_seq_k (fun bd aN=>?_)
 refine rg [0,1,2,3,4,5,6,7] ?_
 refine sv 49 (.string ⟨(Lib.itoa (z):List UInt8).toArray⟩) ?_
 refine se ?_
 refine ec 50 (zq8 (z) (zu1 (z) (m:=14000) (by omega)) (by omega) _) ?_
 rintro bE bC ⟨⟨ai,aj,rfl,av⟩,aP⟩
 refine ⟨_,rfl,?_⟩
 replace hB:=hB.trans aP
 simp only [p3,p4]
 refine sv 48 (.tuple #[(.agg #[ai,aj]),.int .i64 0]) ?_
 refine sv 51 (.agg #[ai,aj]) ?_
 refine sv 52 (.int .i64 0) ?_
 refine se ?_
 refine ea 34 #[.bool false,.slice none 0 0] 10 hB fun bb bg aM aa aV a1 hB=>?_
 replace L2:=L2.gr (g5.trans (g9.trans (aH.trans (aK.trans (aJ.trans aP)))))
 have al:=L2.ne aV
 simp only [p3,p4]
 refine se ?_
 refine es 34 0 (.agg #[ai,aj]) [ai,aj] #[ai,aj] aa hB a1 ⟨av.one0,av.one1,trivial⟩ fun bi aE aF aa hB=>?_
 refine sv 11 (.int .i64 0) ?_
 refine za0 ?_
 refine aN _ _ ?_
 try clear aN bd
 refine wp_seq_k (fun a6 aR=>?_)
 refine wp_seq_k (fun a2 aQ=>?_)
 refine rg [0,1] ?_
 refine sv 53 (.int .i64 0) ?_
 refine sv 54 (.bool false) ?_
 refine za0 ?_
 refine aQ _ _ ?_
 try clear aQ a2
 refine wp_cond_false rfl ?_
 refine wp_skip ?_
 refine aR _ _ ?_
 try clear aR a6
 refine wp_seq_k (fun a7 aI=>?_)
 refine wp_seq_k (fun a8 aL=>?_)
 refine rg [0,1] ?_
 refine sv 56 (.bool true) ?_
 refine sv 57 (.bool false) ?_
 refine za0 ?_
 refine aL _ _ ?_
 try clear aL a8
 refine wp_cond_false rfl ?_
 refine wp_skip ?_
 refine aI _ _ ?_
 try clear aI a7
 refine wp_seq_k (fun aW aO=>?_)
 refine rg [0,1,2,3,4,5,6,7] ?_
 refine sv 61 (.string ⟨(Lib.itoa (d):List UInt8).toArray⟩) ?_
 refine se ?_
 refine ec 62 (zq8 (d) (zu1 (d) (m:=14000) (by omega)) (by omega) _) ?_
 rintro e23 bH ⟨⟨ad,ae,rfl,ah⟩,az⟩
 refine ⟨_,rfl,?_⟩
 replace hB:=hB.trans az
 simp only [p3,p4]
 refine sv 60 (.tuple #[(.agg #[ad,ae]),.int .i64 0]) ?_
 refine sv 63 (.agg #[ad,ae]) ?_
 refine sv 64 (.int .i64 0) ?_
 refine se ?_
 refine ea 34 #[.bool false,.slice none 0 0] 12 hB fun a4 bL ay ab aS aY hB=>?_
 replace L2:=(aE.lc (L2.gr aM) al).gr az
 have ak:=L2.ne aS
 replace aa:=aa.gr az
 have af:=aa.ne aS
 simp only [p3,p4]
 refine se ?_
 refine es 34 0 (.agg #[ad,ae]) [ad,ae] #[ad,ae] ab hB aY ⟨ah.one0,ah.one1,trivial⟩ fun ba ar au ab hB=>?_
 refine sv 11 (.int .i64 0) ?_
 refine za0 ?_
 refine aO _ _ ?_
 try clear aO aW
 refine wp_seq_k (fun bK bF=>?_)
 refine wp_seq_k (fun aZ aT=>?_)
 have ac:=Gr.drew ba
 replace hB:=hB.trans ac
 replace aa:=(ar.lc (aa.gr ay) af).gr ac
 replace ab:=ab.gr ac
 refine za2 (fun w'=>Lc w' bb #[ai,aj] 34∧Lc w' a4 #[ad,ae] 34) [(true,0),(true,1),(true,2),(true,3),(false,4),(false,5),(true,6),(true,7),(true,8),(true,9),(true,10),(false,11),(false,12),(false,13),(true,14),(true,15)] (by kernel_rfl) (by kernel_rfl) (by kernel_rfl) (by decide) (fun _ _ _ _ _ h=>h) ⟨aa,ab⟩ ?_
 refine ov 65 (.int .i64 0) ?_
 refine ov 66 (.bool false) ?_
 refine ov 67 (.bool false) ?_
 refine ow 68 (.agg #[ad,ae]) rfl (fun w' hS=>(rl 34 0 [ad,ae] hS.2)) ?_
 refine oe ?_
 refine ec 69 (zG7 _) ?_
 rintro bt bG ⟨⟨bA,bn,rfl,a9⟩,aq⟩
 refine ⟨_,rfl,?_⟩
 replace hB:=hB.trans aq
 replace aa:=aa.gr aq
 replace ab:=ab.gr aq
 refine ⟨⟨aa,ab⟩,?_⟩
 simp only [p3,p4]
 refine oe ?_
 have aC:=ay.kp.trans (au.trans (ac.kp.trans aq.kp))
 replace ah:=ah.kp aC
 refine ec 70 (ze0 ah a9 (by omega) (by omega)) ?_
 rintro bB bw ⟨rfl,ap⟩
 refine ⟨_,rfl,?_⟩
 replace hB:=hB.trans ap
 replace aa:=aa.gr ap
 replace ab:=ab.gr ap
 refine ⟨⟨aa,ab⟩,?_⟩
 simp only [p3,p4]
 refine ow 71 (.bool false) rfl (fun w' hS=>(RunV.bool (x:=(sgn (d - 1)==(0:Int))) (rvk (by kernel_rfl)) h6)) ?_
 refine ov 72 (.bool false) ?_
 refine ov 73 (.bool false) ?_
 refine ow 74 (.agg #[ai,aj]) rfl (fun w' hS=>(rl 34 0 [ai,aj] hS.1)) ?_
 refine ow 75 (.agg #[ad,ae]) rfl (fun w' hS=>(rl 34 0 [ad,ae] hS.2)) ?_
 refine oe ?_
 have aD:=aM.kp.trans (aF.trans (az.kp.trans (ay.kp.trans (au.trans (ac.kp.trans (aq.kp.trans ap.kp))))))
 replace av:=av.kp aD
 replace ah:=ah.kp ap.kp
 refine ec 76 (yb5 av ah (by omega)) ?_
 rintro bz bj ⟨⟨bD,bJ,rfl,aB⟩,ax⟩
 refine ⟨_,rfl,?_⟩
 replace hB:=hB.trans ax
 replace aa:=aa.gr ax
 replace ab:=ab.gr ax
 refine ⟨⟨aa,ab⟩,?_⟩
 simp only [p3,p4]
 refine oe ?_
 refine ec 77 (zG7 _) ?_
 rintro bo bp ⟨⟨bh,bq,rfl,bc⟩,aw⟩
 refine ⟨_,rfl,?_⟩
 replace hB:=hB.trans aw
 replace aa:=aa.gr aw
 replace ab:=ab.gr aw
 refine ⟨⟨aa,ab⟩,?_⟩
 simp only [p3,p4]
 refine oe ?_
 replace aB:=aB.kp aw.kp
 refine ec 78 (ze0 aB bc (by omega) (by omega)) ?_
 rintro bk bu ⟨rfl,aA⟩
 refine ⟨_,rfl,?_⟩
 replace hB:=hB.trans aA
 replace aa:=aa.gr aA
 replace ab:=ab.gr aA
 refine ⟨⟨aa,ab⟩,?_⟩
 simp only [p3,p4]
 refine ow 79 (.bool true) rfl (fun w' hS=>(RunV.bool (x:=(sgn ((Int.gcd (z) (d):Int) - 1) !=(0:Int))) (rvk (by kernel_rfl)) h8)) ?_
 refine ov 80 (.bool true) ?_
 refine zb8 ?_
 refine aT _ _ ?_
 try clear aT aZ
 refine wp_cond_true rfl ?_
 refine wp_seq_k (fun aX aG=>?_)
 refine rg [0,1,2] ?_
 refine sv 81 (.agg #[.bool false,.slice none 0 0,.bool false,.slice none 0 0]) ?_
 refine se ?_
 replace L2:=(ar.lc (L2.gr ay) ak).gr (ac.trans (aq.trans (ap.trans (ax.trans (aw.trans aA)))))
 refine es 36 0 (.agg #[.bool false,.slice none 0 0,.bool false,.slice none 0 0]) [.bool false,.slice none 0 0,.bool false,.slice none 0 0] #[.bool false,.slice none 0 0,.bool false,.slice none 0 0] L2 hB q2 ⟨rfl,rfl,rfl,rfl,trivial⟩ fun bf a3 a5 L2 hB=>?_
 refine sv 5 (.int .i64 3) ?_
 refine za0 ?_
 refine aG _ _ ?_
 try clear aG aX
 refine wp_ret ?_
 simp only [Exit.then]
 refine bodyPost_ret (v:=(.tuple #[(.agg #[.bool false,.slice none 0 0,.bool false,.slice none 0 0]),.int .i64 3])) (za4 _ _ _ rfl rfl L2 (by kernel_rfl) rfl) rfl ⟨?_,hB⟩
 exact rfl

theorem read_bad (X:List UInt8) (most:Nat) (hx:X.length≤14000) (h:ck2 X most≠0) (w:World) (hm:Mx w):
  Calls Tryz.prog 120 #[(.string ⟨(X:List UInt8).toArray⟩),(.int .i64 (most))] w fun e w'=>e=.returned (.tuple #[.agg #[.bool false,.slice none 0 0,.bool false,.slice none 0 0],.int .i64 (ck2 X most)])∧Gr w w':=by
 by_cases hl:most<X.length
 ·have e:ck2 X most=5:=by unfold ck2;rw [if_pos hl]
  rw [e];exact yt0 X most (by omega) (by omega) w hm
 have aa:(X.length:Int)≤(most:Int):=by omega
 have hcl:=zz5 X
 have hnl:=yf2 X
 rcases hcut:zg5 X with ⟨A,_ | D⟩
 ·rw [hcut] at hcl hnl
  obtain rfl:X=A:=hcl
  have hn:zm0 X=X:=by unfold zm0;rw [hcut]
  have hd:zD5 X=[49]:=by unfold zD5;rw [hcut];rfl
  unfold ck2 at h ⊢
  rw [if_neg hl,hn,hd] at h ⊢
  rw [show zf3 [49]=true from by decide,Bool.and_true] at h ⊢
  by_cases h1:zf3 (zb3 X)=true
  ·rw [if_neg (by rw [h1];decide),if_neg (by decide)] at h ⊢
   by_cases h2:ya1 X=true
   ·rw [if_pos (by rw [h2];rfl)]
    exact read_nf X most hx aa hcut h1 h2 w hm
   ·rw [Bool.not_eq_true] at h2
    rw [if_neg (by rw [h2];decide),if_neg (by simp)] at h
    exact absurd rfl h
  ·rw [Bool.not_eq_true] at h1
   rw [if_pos h1]
   exact read_ns X most hx aa hcut h1 w hm
 ·rw [hcut] at hcl hnl
  dsimp only at hcl
  have hn:zm0 X=A:=by unfold zm0;rw [hcut]
  have hd:zD5 X=D:=by unfold zD5;rw [hcut];rfl
  have hlen:X.length=A.length+(D.length+1):=by rw [hcl];simp
  have hA:A.length≤X.length:=by omega
  have hD:D.length≤X.length:=by omega
  unfold ck2 at h ⊢
  rw [if_neg hl,hn,hd] at h ⊢
  by_cases h1:zf3 (zb3 A)=true
  ·by_cases h2:zf3 D=true
   ·rw [h1,h2,if_neg (by decide)] at h ⊢
    by_cases h3:zq0 D=true
    ·rw [if_pos h3]
     exact read_fz X A D most hx aa hcut hA hD h1 h2 h3 w hm
    rw [if_neg h3] at h ⊢
    rw [Bool.not_eq_true] at h3
    by_cases h4:ya1 A=true
    ·rw [if_pos (by rw [h4];rfl)]
     exact read_fb1 X A D most hx aa hcut hA hD h1 h2 h3 h4 w hm
    rw [Bool.not_eq_true] at h4
    obtain ⟨z,rfl⟩:=zU1 h1 h4
    have hz:valZ (Lib.itoa z)=z:=zv2 z
    by_cases h5:(D[0]?==some 48)=true
    ·rw [if_pos (by rw [h5,Bool.or_true])]
     exact read_fb2 X D z most hx aa hcut hA hD h2 (yy2 h2) h3 (yy3 h2 h3 h5) w hm
    rw [Bool.not_eq_true] at h5
    obtain ⟨e1,e2⟩:=yf3 h2 h5
    obtain ⟨d,ab⟩:∃ d:Int,d=(zg6 D:Int):=⟨_,rfl⟩
    have e3:Lib.itoa d=D:=by rw [ab,za8 (by omega),Int.natAbs_natCast];exact e1
    subst e3
    have hv:valZ (Lib.itoa d)=d:=zv2 d
    rw [if_neg (by rw [h4,h5];decide),hz,hv] at h ⊢
    have hlt:decide ((Lib.itoa z).length<X.length)=true:=by simp;omega
    rw [hlt,Bool.true_and] at h ⊢
    by_cases h6:d=1
    ·rw [if_pos (by rw [h6,itoa_one];rfl)]
     exact read_g1 X z d most hx aa hcut hA hD h2 h3 h6 w hm
    ·by_cases h7:Int.gcd z d=1
     ·rw [if_neg (by rw [h7];simp;intro e;exact h6 (zz1 (by rw [e,itoa_one])))] at h
      exact absurd rfl h
     ·rw [if_pos (by simp [h7])]
      exact read_g2 X z d most hx aa hcut hA hD h2 h3 h6 h7 w hm
   ·rw [Bool.not_eq_true] at h2
    rw [if_pos (by rw [h2,Bool.and_false])]
    exact read_fs2 X A D most hx aa hcut hA hD h1 h2 w hm
  ·rw [Bool.not_eq_true] at h1
   rw [if_pos (by rw [h1];rfl)]
   exact read_fs1 X A D most hx aa hcut hA hD h1 w hm

set_option maxRecDepth 100000 in
set_option maxHeartbeats 1000000 in
theorem ym6 (X:List UInt8) (hx:X.length≤14000) (h:ck2 X 400≠0) (w:World) (hm:Mx w):
    Calls Tryz.prog 94 #[(.string ⟨(X:List UInt8).toArray⟩)] w fun e w'=>e=.returned (.tuple #[.agg #[.bool false,.slice none 0 0,.bool false,.slice none 0 0],.int .i64 (ck2 X 400)])∧Gr w w':=by
 go_enter Tryz.func94,Tryz.ntmps94
 have hB:=Gr.refl w
 refine wp_seq_k (fun K1 k1=>?_)
 refine rg [0,1] ?_
 refine se ?_
 refine ea 36 #[.bool false,.slice none 0 0,.bool false,.slice none 0 0] 2 hB fun b2 w2 g2 L2 o2 q2 hB=>?_
 simp only [p3,p4]
 refine sv 3 (.int .i64 0) ?_
 refine za0 ?_
 refine k1 _ _ ?_
 try clear k1 K1
 refine wp_seq_k (fun K3 k3=>?_)
 refine rg [0,1,2,3,4,5] ?_
 refine sv 4 (.string ⟨(X:List UInt8).toArray⟩) ?_
 refine se ?_
 refine ec 5 (read_bad X 400 hx h _ (hm.gr hB)) ?_
 rintro e4 w4 ⟨rfl,g4⟩
 refine ⟨_,rfl,?_⟩
 replace hB:=hB.trans g4
 simp only [p3,p4]
 refine sv 6 (.agg #[.bool false,.slice none 0 0,.bool false,.slice none 0 0]) ?_
 refine sv 7 (.int .i64 (ck2 X 400)) ?_
 refine se ?_
 replace L2:=L2.gr g4
 refine es 36 0 (.agg #[.bool false,.slice none 0 0,.bool false,.slice none 0 0]) [.bool false,.slice none 0 0,.bool false,.slice none 0 0] #[.bool false,.slice none 0 0,.bool false,.slice none 0 0] L2 hB q2 ⟨rfl,rfl,rfl,rfl,trivial⟩ fun w5 ab aa L2 hB=>?_
 refine sv 3 (.int .i64 (ck2 X 400)) ?_
 refine za0 ?_
 refine k3 _ _ ?_
 try clear k3 K3
 refine wp_ret ?_
 refine bodyPost_ret (v:=(.tuple #[(.agg #[.bool false,.slice none 0 0,.bool false,.slice none 0 0]),(.int .i64 (ck2 X 400))])) (za4 _ _ _ rfl rfl L2 (by kernel_rfl) rfl) rfl ⟨?_,hB⟩
 exact rfl

end Go.Proofs.YtaldbfflkpgfoaaGreatDoor
