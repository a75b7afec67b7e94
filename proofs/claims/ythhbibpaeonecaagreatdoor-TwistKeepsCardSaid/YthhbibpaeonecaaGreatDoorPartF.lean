/- Joined of: Qu, Syd, Sye, Gen125, Mv, Gen10, Axis, Gen11, Gen13, Gen150, Gen151, Lit, Gen14, Gen152, Kpd, Tw. -/
import Derived.Test.YthhbibpaeonecaaGreatDoorPartE
import Derived.Test.YthhbibpaeonecaaGreatDoorPartB
import Derived.Test.YthhbibpaeonecaaGreatDoorPartC
namespace Go.Proofs.YthhbibpaeonecaaGreatDoor
open Go.RowKit
def EQ4 (_:World) (z:Int × Int × Int × Int) (vs:List Value):Prop:=vs=[.int .i64 z.1,.int .i64 z.2.1,.int .i64 z.2.2.1,.int .i64 z.2.2.2]
theorem zb5:zX5 EQ4 []:=fun _ _ _ _ _ h=>h
def qAt (n:Nat):Int × Int × Int × Int:=((n:Int)/27 - 1,(n:Int)/9 % 3 - 1,(n:Int)/3 % 3 - 1,(n:Int) % 3 - 1)
def qSq (z:Int × Int × Int × Int):Int:=0+z.1*z.1+z.2.1*z.2.1+z.2.2.1*z.2.2.1+z.2.2.2*z.2.2.2
def qOk (z:Int × Int × Int × Int):Bool:=(qSq z !=3)&&(chk z.1 z.2.1 z.2.2.1 z.2.2.2 0==0)
def zu5 (n:Nat):List (Int × Int × Int × Int):=((List.range n).map qAt).filter qOk
theorem zW4 {n:Nat} {z:Int × Int × Int × Int} (hz:qAt n=z) (h:qOk z=true):zu5 (n+1)=zu5 n++[z]:=by
 unfold zu5
 rw [List.range_succ,List.map_append,List.filter_append,List.map_cons,List.map_nil,hz]
 simp [h]
theorem zN0 {n:Nat} {z:Int × Int × Int × Int} (hz:qAt n=z) (h:qOk z=false):zu5 (n+1)=zu5 n:=by
 unfold zu5
 rw [List.range_succ,List.map_append,List.filter_append,List.map_cons,List.map_nil,hz]
 simp [h]
theorem zW5 (n:Nat):(zu5 n).length≤n:=by
 unfold zu5
 refine Nat.le_trans (List.length_filter_le ..) ?_
 simp
def quarters:List (Int × Int × Int × Int):=zu5 81
theorem ze4:quarters.length=24:=by decide+kernel
theorem mcheck0 {q0 q1 q2 q3:Int} (j0:-12≤q0∧q0≤12) (j1:-12≤q1∧q1≤12) (j2:-12≤q2∧q2≤12) (j3:-12≤q3∧q3≤12) (w:World) (hm:Mx w):
  Calls Tryz.prog 87 #[.agg #[.int .i64 q0,.int .i64 q1,.int .i64 q2,.int .i64 q3,.string ⟨([48]:List UInt8).toArray⟩,.string ⟨([48]:List UInt8).toArray⟩,.string ⟨([48]:List UInt8).toArray⟩]] w fun e w'=>e=.returned (.int .i64 (chk q0 q1 q2 q3 0))∧Gr w w':=by
 have z:RS 64 (0:Rat):=⟨Nat.two_pow_pos _,Nat.one_lt_two_pow (by decide)⟩
 have:=zT5 j0 j1 j2 j3 0 0 0 z z z w hm
 rw [ratL0] at this
 exact this
def in12 (lo hi:Int):Bool:=ile (-12) lo&&ile hi 12
theorem zC3 {z lo hi:Int} (h:in12 lo hi=true) (h0:lo≤z∧z≤hi):-12≤z∧z≤12:=by
 unfold in12 at h
 simp only [zg4,Bool.and_eq_true,decide_eq_true_eq] at h
 omega
def cChk:ConT:=fun args _ _=>match args with
 | [.so (.vg [.ci .i64 q0 l0 h0,.ci .i64 q1 l1 h1,.ci .i64 q2 l2 h2,.ci .i64 q3 l3 h3,c1,c2,c3])]=>match txC c1,txC c2,txC c3 with
  | some (k1,_x1),some (k2,_x2),some (k3,_x3)=>tr (in12 l0 h0&&in12 l1 h1&&in12 l2 h2&&in12 l3 h3&&Nat.ble k1 64&&Nat.ble k2 64&&Nat.ble k3 64) (.as (decide (chk q0 q1 q2 q3 0=0)) (.leaf (.so (.vc (.ci .i64 0 0 0))) 0 0))
  | _,_,_=>none
 | _=>none
theorem cChk_ok {I:World→Prop} (hI:∀ w,I w→Mx w):ConOK Tryz.prog I 87 cChk:=by
 intro args E n w T hw ha hT hp
 unfold cChk at hT
 split at hT
 ·rename_i q0 l0 h0 q1 l1 h1 q2 l2 h2 q3 l3 h3 c1 c2 c3
  split at hT
  ·rename_i k1 x1 k2 x2 k3 x3 e1 e2 e3
   obtain ⟨hb,rfl⟩:=zg6 hT
   simp only [Bool.and_eq_true,Nat.ble_eq] at hb
   obtain ⟨⟨⟨⟨⟨⟨b0,b1⟩,b2⟩,b3⟩,b4⟩,b5⟩,b6⟩:=hb
   have g:=fun c hc=>ha _ (List.mem_singleton.2 rfl) c hc
   obtain ⟨d1,s1⟩:=zv8 e1 (g c1 (by simp))
   obtain ⟨d2,s2⟩:=zv8 e2 (g c2 (by simp))
   obtain ⟨d3,s3⟩:=zv8 e3 (g c3 (by simp))
   have s1:=s1.mono b4
   have s2:=s2.mono b5
   have s3:=s3.mono b6
   show Calls _ _ #[.agg #[.int .i64 q0,.int .i64 q1,.int .i64 q2,.int .i64 q3,c1.den E,c2.den E,c3.den E]] w _
   rw [d1,d2,d3]
   refine (zT5 (zC3 b0 (g (.ci .i64 q0 l0 h0) (by simp)).2) (zC3 b1 (g (.ci .i64 q1 l1 h1) (by simp)).2) (zC3 b2 (g (.ci .i64 q2 l2 h2) (by simp)).2) (zC3 b3 (g (.ci .i64 q3 l3 h3) (by simp)).2) x1 x2 x3 s1 s2 s3 w (hI w hw)).mono fun e w' he=>?_
   rw [of_decide_eq_true hp.1] at he
   exact zh7 he ⟨rfl,Int.le_refl _,Int.le_refl _⟩
  ·cases hT
 ·cases hT
def sq (i d:Int):Rat:=(i:Rat)/((1+d % 6:Int):Rat)
def roN (w x y z:Int):Nat→Int
 | 0=>w*w+x*x - y*y - z*z
 | 1=>2*(x*y - w*z)
 | 2=>2*(x*z+w*y)
 | 3=>2*(x*y+w*z)
 | 4=>w*w - x*x+y*y - z*z
 | 5=>2*(y*z - w*x)
 | 6=>2*(x*z - w*y)
 | 7=>2*(y*z+w*x)
 | _=>w*w - x*x - y*y+z*z
def roE (w x y z:Int) (k:Nat):Rat:=((roN w x y z k:Int):Rat)/((w*w+x*x+y*y+z*z:Int):Rat)
theorem nn_ne {w x y z:Int} (h:VT w x y z):((w*w+x*x+y*y+z*z:Int):Rat)≠0:=by
 have:=nq_posI h.ne
 intro e
 have:w*w+x*x+y*y+z*z=0:=by exact_mod_cast e
 omega
theorem yb6 {w x y z:Int} (h:VT w x y z):RotQ (roE w x y z 0) (roE w x y z 1) (roE w x y z 2) (roE w x y z 3) (roE w x y z 4) (roE w x y z 5) (roE w x y z 6) (roE w x y z 7) (roE w x y z 8) w x y z:=by
 have hn:=nn_ne h
 have c:((w*w+x*x+y*y+z*z:Int):Rat)=(w:Rat)*w+x*x+y*y+z*z:=by simp only [Rat.intCast_add,Rat.intCast_mul]
 have key:∀ k,roE w x y z k*((w:Rat)*w+x*x+y*y+z*z)=((roN w x y z k:Int):Rat):=fun k=>by
  unfold roE
  rw [← c,Rat.div_mul_cancel hn]
 constructor<;>rw [key]<;>simp only [roN,Rat.intCast_add,Rat.intCast_sub,Rat.intCast_mul]<;>rfl
theorem roE_rs {w x y z:Int} (h:VT w x y z):∀ k,RS 50 (roE w x y z k):=by
 have b0:=h.b0;have b1:=h.b1;have b2:=h.b2;have b3:=h.b3
 obtain ⟨h0,h1,h2,h3,h4,h5,h6,h7,h8⟩:=rotq_rs h.ne (by omega) (by omega) (by omega) (by omega) (yb6 h)
 intro k
 match k with
 | 0=>exact h0
 | 1=>exact h1
 | 2=>exact h2
 | 3=>exact h3
 | 4=>exact h4
 | 5=>exact h5
 | 6=>exact h6
 | 7=>exact h7
 | k+8=>exact h8
theorem one_div {N n:Rat}:((1:Int):Rat)/N*n=n/N:=by
 rw [Rat.div_def,Rat.div_def,Rat.mul_comm n]
 congr 1
 exact Rat.one_mul _

noncomputable def tabO:List (Nat × List (Nat × Ent)):=[(31,[]),
 (52,[]),
 (59,[(5,.ord [(true,0),(true,1),(true,2),(true,3),(true,4),(true,5),(true,6),(true,7),(true,8),(true,9),(true,10),(true,11),(true,12),(true,13),(true,14),(true,15)] []),(12,.ord [(true,0),(true,1),(true,3),(true,5),(false,2),(false,4),(true,6),(false,7)] [14])]),
 (60,[(5,.ord [(true,0),(true,1),(true,2),(true,3),(true,4),(true,5),(true,6),(true,7),(false,8),(true,9),(false,10)] [7])]),
 (80,[]),
 (88,[]),
 (120,[])]
noncomputable def conO:List (Nat × ConT):=[(46,zv7 100000 (fun k m=>k+m+1) (fun a b=>a+b)),
 (61,zv7 100000 (fun k m=>k+m+1) (fun a b=>a - b)),
 (53,zv7 100000 (fun k m=>k+m) (fun a b=>a*b)),
 (89,cNeg),
 (42,cFrom),
 (45,cComp),
 (54,cSign),
 (35,cNumb),
 (79,cNum),
 (65,cDen),
 (41,cDiv),
 (66,zO4),
 (64,cZMul),
 (75,cZGcd),
 (77,cZDiv),
 (121,zG1 400),
 (23,zG1 65536),
 (87,cChk)]
noncomputable def sysO:Sys:=⟨Tryz.prog,2,142,tabO,conO,fun w=>Tab w∧Mx w⟩
theorem sysO_ok:sysO.OK where
 mixed:=by kernel_rfl
 calls:=fun f h0 h1=>by
  have:(List.range 142).all (fun f=>Nat.blt f 2||okCall Tryz.prog f)=true:=by kernel_rfl
  have:=List.all_eq_true.1 this f (List.mem_range.2 h1)
  simp only [Bool.or_eq_true] at this
  exact this.resolve_left (fun e=>by have:=zd6 e;exact absurd h0 (by show ¬ 2≤f;omega))
 tab:=by
  have:tabO.all (okTab Tryz.prog)=true:=by kernel_rfl
  exact fun x hx=>List.all_eq_true.1 this x hx
 lps:=ya8 (by kernel_rfl)
 con:=fun x hx=>by
  simp only [sysO,conO,List.mem_cons,List.not_mem_nil,or_false] at hx
  rcases hx with rfl | rfl | rfl | rfl | rfl | rfl | rfl | rfl | rfl | rfl | rfl | rfl | rfl | rfl | rfl | rfl | rfl | rfl
  ·exact zf5 fun h1 h2 h3=>zw9 h1 h2 h3
  ·exact zf5 fun h1 h2 h3=>zP9 h1 h2 h3
  ·exact zf5 fun h1 h2 h3=>zm7 h1 h2 h3
  ·exact zJ9
  ·exact zB4
  ·exact zB5
  ·exact zB6
  ·exact zB7 fun w h=>h.1
  ·exact zK0
  ·exact zK1
  ·exact zK2
  ·exact zw1
  ·exact zB8
  ·exact zB9
  ·exact zC0
  ·exact zC1 fun w h=>h.2
  ·exact zC2 fun w h=>h.2
  ·exact cChk_ok fun w h=>h.2
 inv:=fun w w' h g=>⟨h.1.gr g,h.2.gr g⟩
def rowC:List Nat→List (Nat × Rat)→List Cl
 | j::l,(k,q)::r=>.cr j 0 k q::.cr j 1 k q::.cr j 2 k q::.cr j 3 k q::rowC l r
 | _,_=>[]
def nN (w x y z:Int):Rat:=((w*w+x*x+y*y+z*z:Int):Rat)
def mOf (w x y z:Int) (k:Nat):Rat:=((1:Int):Rat)/nN w x y z*((roN w x y z k:Int):Rat)
def oRaw (q0 q1 q2 q3:Int) (x1 x2 x3:Rat):List (Nat × Rat):=[(192,mOf q0 q1 q2 q3 0),(192,mOf q0 q1 q2 q3 1),(192,mOf q0 q1 q2 q3 2),(192,mOf q0 q1 q2 q3 3),(192,mOf q0 q1 q2 q3 4),(192,mOf q0 q1 q2 q3 5),(192,mOf q0 q1 q2 q3 6),(192,mOf q0 q1 q2 q3 7),(192,mOf q0 q1 q2 q3 8),(64,x1),(64,x2),(64,x3)]
def oList (q0 q1 q2 q3:Int) (x1 x2 x3:Rat):List (Nat × Rat):=[(64,roE q0 q1 q2 q3 0),(64,roE q0 q1 q2 q3 1),(64,roE q0 q1 q2 q3 2),(64,roE q0 q1 q2 q3 3),(64,roE q0 q1 q2 q3 4),(64,roE q0 q1 q2 q3 5),(64,roE q0 q1 q2 q3 6),(64,roE q0 q1 q2 q3 7),(64,roE q0 q1 q2 q3 8),(64,x1),(64,x2),(64,x3)]
def treeO (q0 q1 q2 q3:Int) (x1 x2 x3:Rat):Lf:=
 .as (decide (chk q0 q1 q2 q3 0=0)) true
 (.as (decide (nN q0 q1 q2 q3=0)) false
 (.ret (.st [.vg (rowC [9,10,11,15,16,17,21,22,23,0,1,2] (oRaw q0 q1 q2 q3 x1 x2 x3)),.vc (.ci .i64 0 0 0)])))
theorem runO (q0 q1 q2 q3:Int) (x1 x2 x3:Rat):runF sysO 59 [.so (.vg [.ci .i64 q0 (-12) 12,.ci .i64 q1 (-12) 12,.ci .i64 q2 (-12) 12,.ci .i64 q3 (-12) 12,.cw (za3 x1) (some (64,x1)),.cw (za3 x2) (some (64,x2)),.cw (za3 x3) (some (64,x3))])] 0 0 (.f .e)=some (treeO q0 q1 q2 q3 x1 x2 x3):=by kernel_rfl
theorem of_c {q0 q1 q2 q3:Int} {x1 x2 x3:Rat} (hv:VT q0 q1 q2 q3) (s1:RS 64 x1) (s2:RS 64 x2) (s3:RS 64 x3) (w:World) (hI:Tab w∧Mx w):
  Calls Tryz.prog 59 #[.agg #[.int .i64 q0,.int .i64 q1,.int .i64 q2,.int .i64 q3,.string ⟨(za3 x1).toArray⟩,.string ⟨(za3 x2).toArray⟩,.string ⟨(za3 x3).toArray⟩]] w fun e w'=>(∃ vs:List Value,e=.returned (.tuple #[.agg vs.toArray,.int .i64 0])∧IsRats w' vs (oList q0 q1 q2 q3 x1 x2 x3))∧Gr w w':=by
 have hl:LOK (fun v=>∃ l,v=.st [.vg l,.vc (.ci .i64 0 0 0)]∧rats l=some (oRaw q0 q1 q2 q3 x1 x2 x3)) (treeO q0 q1 q2 q3 x1 x2 x3):=⟨decide_eq_true (hv.chk 0),decide_eq_false (nn_ne hv),_,rfl,rfl⟩
 have tx:∀ {x},RS 64 x→(Cl.cw (za3 x) (some (64,x))).ok ⟨0,0,0⟩ (envR []) w:=fun h=>⟨rfl,fun k q e=>by cases e;exact ⟨rfl,h⟩⟩
 refine (zo1 sysO sysO_ok (runO q0 q1 q2 q3 x1 x2 x3) (X:=envR []) hI (okF1 (zm6 ⟨⟨rfl,hv.b0⟩,⟨rfl,hv.b1⟩,⟨rfl,hv.b2⟩,⟨rfl,hv.b3⟩,tx s1,tx s2,tx s3,trivial⟩)) hl).mono fun e w' he=>?_
 obtain ⟨v,X',n,rfl,g,_,hv',l,rfl,hr⟩:=he
 have h:=zK3 hr (hv' (.vg l) (by simp))
 have rs:=fun k=>(roE_rs hv k).mono (show 50≤64 by decide)
 have one:=fun k=>@one_div (nN q0 q1 q2 q3) ((roN q0 q1 q2 q3 k:Int):Rat)
 exact ⟨⟨_,rfl,h.conv ⟨⟨one 0,rs 0,Nat.le_refl _⟩,⟨one 1,rs 1,Nat.le_refl _⟩,⟨one 2,rs 2,Nat.le_refl _⟩,⟨one 3,rs 3,Nat.le_refl _⟩,⟨one 4,rs 4,Nat.le_refl _⟩,⟨one 5,rs 5,Nat.le_refl _⟩,⟨one 6,rs 6,Nat.le_refl _⟩,⟨one 7,rs 7,Nat.le_refl _⟩,⟨one 8,rs 8,Nat.le_refl _⟩,⟨rfl,s1,Nat.le_refl _⟩,⟨rfl,s2,Nat.le_refl _⟩,⟨rfl,s3,Nat.le_refl _⟩,trivial⟩⟩,g⟩
def turns:List (Int × Int × Int × Int):=quarters++[(2,1,0,0),(1,1,1,0),(1,0,2,0),(3,1,1,1)]
theorem zt6:turns.length=28:=by unfold turns;rw [List.length_append,ze4];rfl
theorem one_q4 (w:World):∀ x vs,EQ4 w x vs→∀ y ∈ vs,y.oneCell'=true:=fun x vs h y hy=>by
 subst h
 simp only [List.mem_cons,List.not_mem_nil,or_false] at hy
 rcases hy with rfl | rfl | rfl | rfl<;>rfl
def q4V (z:Int × Int × Int × Int):List Value:=[.int .i64 z.1,.int .i64 z.2.1,.int .i64 z.2.2.1,.int .i64 z.2.2.2]
theorem zU9:∀ (xs:List (Int × Int × Int × Int)) (i:Nat) (z:Int × Int × Int × Int),xs[i]?=some z→((xs.flatMap q4V).drop (i*4)).take 4=q4V z
 | _::_,0,_,h=>by cases h;simp [q4V]
 | y::xs,i+1,z,h=>by
  have:=zU9 xs i z h
  rw [List.flatMap_cons,Nat.add_mul,Nat.add_comm,← List.drop_drop]
  have e:(q4V y++xs.flatMap q4V).drop (1*4)=xs.flatMap q4V:=by simp [q4V]
  rw [e];exact this
 | [],_,_,h=>by cases h
theorem q4_len:∀ (xs:List (Int × Int × Int × Int)),(xs.flatMap q4V).length=xs.length*4
 | []=>rfl
 | x::xs=>by rw [List.flatMap_cons,List.length_append,q4_len xs,List.length_cons];simp only [q4V,List.length_cons,List.length_nil];omega
theorem slq_of {T:TypeId} {w:World} {b:Nat} {us:Array Value} (hL:Lc w b us T) {xs:List (Int × Int × Int × Int)} (_hp:0<xs.length) (h:us.toList=xs.flatMap q4V):Sl EQ4 T 4 w (.slice (some ⟨b,0,none⟩) xs.length xs.length) xs:=by
 refine ⟨us.toList,⟨_,_,rfl,Nat.le_refl _,fun _=>⟨b,0,us,_,rfl,hL,fun j hj=>by simp⟩⟩,⟨by rw [h,q4_len],fun i x hx=>?_⟩⟩
 rw [h,zU9 xs i x hx];rfl
def qVT (z:Int × Int × Int × Int):Bool:=
 decide (-12≤z.1∧z.1≤12)&&decide (-12≤z.2.1∧z.2.1≤12)&&decide (-12≤z.2.2.1∧z.2.2.1≤12)&&decide (-12≤z.2.2.2∧z.2.2.2≤12)&&decide (qgcd z.1 z.2.1 z.2.2.1 z.2.2.2=1)&&decide (qsgn z.1 z.2.1 z.2.2.1 z.2.2.2=1)
theorem t_chk:((List.range 28).all fun n=>qVT (turns.getD n (0,0,0,0)))=true:=by decide+kernel
def tq (n:Int):Nat→Int
 | 0=>(turns.getD (n % 28).toNat (0,0,0,0)).1
 | 1=>(turns.getD (n % 28).toNat (0,0,0,0)).2.1
 | 2=>(turns.getD (n % 28).toNat (0,0,0,0)).2.2.1
 | _=>(turns.getD (n % 28).toNat (0,0,0,0)).2.2.2
theorem t_vt {n:Nat} (hn:n<28):VT (turns.getD n (0,0,0,0)).1 (turns.getD n (0,0,0,0)).2.1 (turns.getD n (0,0,0,0)).2.2.1 (turns.getD n (0,0,0,0)).2.2.2:=by
 have h:=List.all_eq_true.1 t_chk n (List.mem_range.2 hn)
 unfold qVT at h
 simp only [Bool.and_eq_true,decide_eq_true_eq] at h
 obtain ⟨⟨⟨⟨⟨h0,h1⟩,h2⟩,h3⟩,h4⟩,h5⟩:=h
 exact ⟨h0,h1,h2,h3,h4,h5⟩
theorem tq_vt (n:Int):VT (tq n 0) (tq n 1) (tq n 2) (tq n 3):=t_vt (by omega)
def sh2 (n d:Int):Rat:=((n - 100:Int):Rat)/((1+d % 2:Int):Rat)
theorem zV0 {n d:Int} (hn:0≤n∧n≤255):RS 64 (sh2 n d):=by
 have h1:RS 8 ((n - 100:Int):Rat):=RS.int (show (n - 100).natAbs<2 ^ 8 by omega) (by omega)
 have h2:RS 8 ((1+d % 2:Int):Rat):=RS.int (show (1+d % 2).natAbs<2 ^ 8 by omega) (by omega)
 exact (h1.div h2 (by rw [Rat.num_intCast];omega)).mono (by decide)
set_option maxRecDepth 100000 in
set_option maxHeartbeats 4000000 in
theorem joined_v {k m:Nat} {aa ab ad ac ak aj al ap ay az aw ax:Value} {a1 a2 a3:Rat} {ai af ae ah au ar aq av aC aD aA aB:Value} {c1 c2 c3:Rat} {w:World} (aG:IsRat w k aa ab ad ac a1) (aK:IsRat w k ak aj al ap a2) (aI:IsRat w k ay az aw ax a3) (aJ:IsRat w m ai af ae ah c1) (aL:IsRat w m au ar aq av c2) (aH:IsRat w m aC aD aA aB c3) (_hk:k+m≤25000):
    Calls Tryz.prog 50 #[(.agg #[aa,ab,ad,ac,ak,aj,al,ap,ay,az,aw,ax]),(.agg #[ai,af,ae,ah,au,ar,aq,av,aC,aD,aA,aB])] w fun e w'=>(∃ b t0 t1 t2 t3 t4 t5 t6 t7 t8 t9 bn bb a9 bk bh bu ba bc a6 a8 bf bo bp bg,e=.returned (.slice (some ⟨b,0,none⟩) 6 6)∧Lc w' b #[t0,t1,t2,t3,t4,t5,t6,t7,t8,t9,bn,bb,a9,bk,bh,bu,ba,bc,a6,a8,bf,bo,bp,bg] 33∧w.heap.size≤b∧IsRat w' k t0 t1 t2 t3 (a1)∧IsRat w' k t4 t5 t6 t7 (a2)∧IsRat w' k t8 t9 bn bb (a3)∧IsRat w' m a9 bk bh bu (c1)∧IsRat w' m ba bc a6 a8 (c2)∧IsRat w' m bf bo bp bg (c3))∧Gr w w':=by
 go_enter Tryz.func50,Tryz.ntmps50
 have hB:=Gr.refl w
 refine wp_seq_k (fun K1 k1=>?_)
 refine rg [0,1,2] ?_
 refine se ?_
 refine eb 35 #[aa,ab,ad,ac,ak,aj,al,ap,ay,az,aw,ax] 2 hB fun b2 w2 g2 L2 o2 q2 hB=>?_
 simp only [p3,p4]
 refine se ?_
 refine eb 35 #[ai,af,ae,ah,au,ar,aq,av,aC,aD,aA,aB] 3 hB fun b3 w3 g3 L3 o3 q3 hB=>?_
 simp only [p3,p4]
 refine sv 4 (.slice none 0 0) ?_
 refine za0 ?_
 refine k1 _ _ ?_
 try clear k1 K1
 refine wp_seq_k (fun K4 k4=>?_)
 refine rg [0,1] ?_
 refine se ?_
 refine zA8 102 33 (.agg #[.bool false,.slice none 0 0,.bool false,.slice none 0 0]) 6 6 4 #[.bool false,.slice none 0 0,.bool false,.slice none 0 0,.bool false,.slice none 0 0,.bool false,.slice none 0 0,.bool false,.slice none 0 0,.bool false,.slice none 0 0,.bool false,.slice none 0 0,.bool false,.slice none 0 0,.bool false,.slice none 0 0,.bool false,.slice none 0 0,.bool false,.slice none 0 0,.bool false,.slice none 0 0] (some 7) rfl rfl rfl rfl (by kernel_rfl) (by kernel_rfl) (by kernel_rfl) (by kernel_rfl) (fun b5 w5 g5 L5 q5=>?_)
 replace L2:=L2.gr g3
 have aE:=L2.ne q5
 have aF:=L3.ne q5
 replace q5:=Nat.le_trans (Below.size hB) q5
 replace hB:=hB.trans g5
 simp only [zn2,p3,p4]
 refine sv 5 (.slice (some ⟨b5,0,none⟩) 6 6) ?_
 refine za0 ?_
 refine k4 _ _ ?_
 try clear k4 K4
 refine wp_seq_k (fun K6 k6=>?_)
 refine wp_seq_k (fun K7 k7=>?_)
 refine rg [0] ?_
 refine sv 8 (.int .i64 0) ?_
 refine za0 ?_
 refine k7 _ _ ?_
 try clear k7 K7
 refine wp_block ?_
 refine wp_loop_rounds 4 ?_
 show Code.wp _ _ _ _ _
 refine wp_seq_k (fun K8 k8=>?_)
 refine rg [0] ?_
 refine sv 9 (.bool true) ?_
 refine za0 ?_
 refine k8 _ _ ?_
 try clear k8 K8
 refine wp_seq_k (fun K9 k9=>?_)
 refine wp_cond_true rfl ?_
 refine wp_skip ?_
 refine k9 _ _ ?_
 try clear k9 K9
 refine wp_seq_k (fun bC bj=>?_)
 refine wp_block ?_
 refine wp_seq_k (fun bx k11=>?_)
 refine rg [0,1] ?_
 refine sv 10 (.int .i64 0) ?_
 refine sv 6 (.int .i64 0) ?_
 refine za0 ?_
 refine k11 _ _ ?_
 try clear k11 bx
 have aP:=Gr.drew w5
 replace hB:=hB.trans aP
 replace L2:=L2.gr (g5.trans aP)
 replace L3:=L3.gr (g5.trans aP)
 refine za1 (fun w'=>Lc w' b2 #[aa,ab,ad,ac,ak,aj,al,ap,ay,az,aw,ax] 35∧Lc w' b3 #[ai,af,ae,ah,au,ar,aq,av,aC,aD,aA,aB] 35) [(true,0),(true,1),(true,2),(true,3),(true,4),(true,5),(true,6),(true,7),(true,8),(true,9),(true,10),(true,11),(false,12),(true,13),(false,14)] (by kernel_rfl) (by kernel_rfl) (by kernel_rfl) (by decide) (fun _ _ _ _ _ h=>h) ⟨L2,L3⟩ ?_
 refine ov 11 (.slice (some ⟨b5,0,none⟩) 6 6) ?_
 refine ov 12 (.int .i64 0) ?_
 refine ov 13 (.slice (some ⟨b5,0,none⟩) 6 6) ?_
 refine ov 14 (.int .i64 0) ?_
 refine ov 15 (.int .i64 3) ?_
 refine ov 16 (.int .i64 0) ?_
 refine ov 17 (.pointer (some ⟨b2,0,none⟩)) ?_
 refine ow 18 (.agg #[aa,ab,ad,ac]) rfl (fun w' hS=>(rl 33 0 [aa,ab,ad,ac] hS.1)) ?_
 refine ov 19 (.int .i64 0) ?_
 refine ov 20 (.pointer (some ⟨b3,0,none⟩)) ?_
 refine ow 21 (.agg #[ai,af,ae,ah]) rfl (fun w' hS=>(rl 33 0 [ai,af,ae,ah] hS.2)) ?_
 refine ov 22 (.pointer (some ⟨b5,0,none⟩)) ?_
 refine oe ?_
 replace L5:=L5.gr aP
 refine es 33 0 (.agg #[aa,ab,ad,ac]) [aa,ab,ad,ac] #[aa,ab,ad,ac,.bool false,.slice none 0 0,.bool false,.slice none 0 0,.bool false,.slice none 0 0,.bool false,.slice none 0 0,.bool false,.slice none 0 0,.bool false,.slice none 0 0,.bool false,.slice none 0 0,.bool false,.slice none 0 0,.bool false,.slice none 0 0,.bool false,.slice none 0 0] L5 hB q5 ⟨aG.one0,aG.one1,aG.one2,aG.one3,trivial⟩ fun bM aQ a0 L5 hB=>?_
 replace L2:=aQ.lc L2 aE
 replace L3:=aQ.lc L3 aF
 refine ⟨⟨L2,L3⟩,?_⟩
 refine ov 23 (.pointer (some ⟨b5,12,none⟩)) ?_
 refine oe ?_
 refine es 33 12 (.agg #[ai,af,ae,ah]) [ai,af,ae,ah] #[aa,ab,ad,ac,.bool false,.slice none 0 0,.bool false,.slice none 0 0,.bool false,.slice none 0 0,.bool false,.slice none 0 0,ai,af,ae,ah,.bool false,.slice none 0 0,.bool false,.slice none 0 0,.bool false,.slice none 0 0,.bool false,.slice none 0 0] L5 hB q5 ⟨aJ.one0,aJ.one1,aJ.one2,aJ.one3,trivial⟩ fun bB aV aY L5 hB=>?_
 replace L2:=aV.lc L2 aE
 replace L3:=aV.lc L3 aF
 refine ⟨⟨L2,L3⟩,?_⟩
 refine za2 ?_
 refine bj _ _ ?_
 try clear bj bC
 refine rg [0,1] ?_
 refine sv 24 (.int .i64 1) ?_
 refine sv 8 (.int .i64 1) ?_
 refine za0 ?_
 show Code.rounds _ _ _ _ _ _
 show Code.wp _ _ _ _ _
 refine wp_seq_k (fun bE k22=>?_)
 refine rg [0] ?_
 refine sv 9 (.bool true) ?_
 refine za0 ?_
 refine k22 _ _ ?_
 try clear k22 bE
 refine wp_seq_k (fun bw k23=>?_)
 refine wp_cond_true rfl ?_
 refine wp_skip ?_
 refine k23 _ _ ?_
 try clear k23 bw
 refine wp_seq_k (fun bH bt=>?_)
 refine wp_block ?_
 refine wp_seq_k (fun bF bv=>?_)
 refine rg [0,1] ?_
 refine sv 10 (.int .i64 1) ?_
 refine sv 6 (.int .i64 1) ?_
 refine za0 ?_
 refine bv _ _ ?_
 try clear bv bF
 have aO:=Gr.drew bB
 replace hB:=hB.trans aO
 replace L2:=L2.gr aO
 replace L3:=L3.gr aO
 refine za1 (fun w'=>Lc w' b2 #[aa,ab,ad,ac,ak,aj,al,ap,ay,az,aw,ax] 35∧Lc w' b3 #[ai,af,ae,ah,au,ar,aq,av,aC,aD,aA,aB] 35) [(true,0),(true,1),(true,2),(true,3),(true,4),(true,5),(true,6),(true,7),(true,8),(true,9),(true,10),(true,11),(false,12),(true,13),(false,14)] (by kernel_rfl) (by kernel_rfl) (by kernel_rfl) (by decide) (fun _ _ _ _ _ h=>h) ⟨L2,L3⟩ ?_
 refine ov 11 (.slice (some ⟨b5,0,none⟩) 6 6) ?_
 refine ov 12 (.int .i64 1) ?_
 refine ov 13 (.slice (some ⟨b5,0,none⟩) 6 6) ?_
 refine ov 14 (.int .i64 1) ?_
 refine ov 15 (.int .i64 4) ?_
 refine ov 16 (.int .i64 1) ?_
 refine ov 17 (.pointer (some ⟨b2,4,none⟩)) ?_
 refine ow 18 (.agg #[ak,aj,al,ap]) rfl (fun w' hS=>(rl 33 4 [ak,aj,al,ap] hS.1)) ?_
 refine ov 19 (.int .i64 1) ?_
 refine ov 20 (.pointer (some ⟨b3,4,none⟩)) ?_
 refine ow 21 (.agg #[au,ar,aq,av]) rfl (fun w' hS=>(rl 33 4 [au,ar,aq,av] hS.2)) ?_
 refine ov 22 (.pointer (some ⟨b5,4,none⟩)) ?_
 refine oe ?_
 replace L5:=L5.gr aO
 refine es 33 4 (.agg #[ak,aj,al,ap]) [ak,aj,al,ap] #[aa,ab,ad,ac,ak,aj,al,ap,.bool false,.slice none 0 0,.bool false,.slice none 0 0,ai,af,ae,ah,.bool false,.slice none 0 0,.bool false,.slice none 0 0,.bool false,.slice none 0 0,.bool false,.slice none 0 0] L5 hB q5 ⟨aK.one0,aK.one1,aK.one2,aK.one3,trivial⟩ fun bQ aR a4 L5 hB=>?_
 replace L2:=aR.lc L2 aE
 replace L3:=aR.lc L3 aF
 refine ⟨⟨L2,L3⟩,?_⟩
 refine ov 23 (.pointer (some ⟨b5,16,none⟩)) ?_
 refine oe ?_
 refine es 33 16 (.agg #[au,ar,aq,av]) [au,ar,aq,av] #[aa,ab,ad,ac,ak,aj,al,ap,.bool false,.slice none 0 0,.bool false,.slice none 0 0,ai,af,ae,ah,au,ar,aq,av,.bool false,.slice none 0 0,.bool false,.slice none 0 0] L5 hB q5 ⟨aL.one0,aL.one1,aL.one2,aL.one3,trivial⟩ fun bJ aS aW L5 hB=>?_
 replace L2:=aS.lc L2 aE
 replace L3:=aS.lc L3 aF
 refine ⟨⟨L2,L3⟩,?_⟩
 refine za2 ?_
 refine bt _ _ ?_
 try clear bt bH
 refine rg [0,1] ?_
 refine sv 24 (.int .i64 2) ?_
 refine sv 8 (.int .i64 2) ?_
 refine za0 ?_
 show Code.rounds _ _ _ _ _ _
 show Code.wp _ _ _ _ _
 refine wp_seq_k (fun bG bm=>?_)
 refine rg [0] ?_
 refine sv 9 (.bool true) ?_
 refine za0 ?_
 refine bm _ _ ?_
 try clear bm bG
 refine wp_seq_k (fun bD bd=>?_)
 refine wp_cond_true rfl ?_
 refine wp_skip ?_
 refine bd _ _ ?_
 try clear bd bD
 refine wp_seq_k (fun bL bi=>?_)
 refine wp_block ?_
 refine wp_seq_k (fun bA a5=>?_)
 refine rg [0,1] ?_
 refine sv 10 (.int .i64 2) ?_
 refine sv 6 (.int .i64 2) ?_
 refine za0 ?_
 refine a5 _ _ ?_
 try clear a5 bA
 have aN:=Gr.drew bJ
 replace hB:=hB.trans aN
 replace L2:=L2.gr aN
 replace L3:=L3.gr aN
 refine za1 (fun w'=>Lc w' b2 #[aa,ab,ad,ac,ak,aj,al,ap,ay,az,aw,ax] 35∧Lc w' b3 #[ai,af,ae,ah,au,ar,aq,av,aC,aD,aA,aB] 35) [(true,0),(true,1),(true,2),(true,3),(true,4),(true,5),(true,6),(true,7),(true,8),(true,9),(true,10),(true,11),(false,12),(true,13),(false,14)] (by kernel_rfl) (by kernel_rfl) (by kernel_rfl) (by decide) (fun _ _ _ _ _ h=>h) ⟨L2,L3⟩ ?_
 refine ov 11 (.slice (some ⟨b5,0,none⟩) 6 6) ?_
 refine ov 12 (.int .i64 2) ?_
 refine ov 13 (.slice (some ⟨b5,0,none⟩) 6 6) ?_
 refine ov 14 (.int .i64 2) ?_
 refine ov 15 (.int .i64 5) ?_
 refine ov 16 (.int .i64 2) ?_
 refine ov 17 (.pointer (some ⟨b2,8,none⟩)) ?_
 refine ow 18 (.agg #[ay,az,aw,ax]) rfl (fun w' hS=>(rl 33 8 [ay,az,aw,ax] hS.1)) ?_
 refine ov 19 (.int .i64 2) ?_
 refine ov 20 (.pointer (some ⟨b3,8,none⟩)) ?_
 refine ow 21 (.agg #[aC,aD,aA,aB]) rfl (fun w' hS=>(rl 33 8 [aC,aD,aA,aB] hS.2)) ?_
 refine ov 22 (.pointer (some ⟨b5,8,none⟩)) ?_
 refine oe ?_
 replace L5:=L5.gr aN
 refine es 33 8 (.agg #[ay,az,aw,ax]) [ay,az,aw,ax] #[aa,ab,ad,ac,ak,aj,al,ap,ay,az,aw,ax,ai,af,ae,ah,au,ar,aq,av,.bool false,.slice none 0 0,.bool false,.slice none 0 0] L5 hB q5 ⟨aI.one0,aI.one1,aI.one2,aI.one3,trivial⟩ fun bN aT aZ L5 hB=>?_
 replace L2:=aT.lc L2 aE
 replace L3:=aT.lc L3 aF
 refine ⟨⟨L2,L3⟩,?_⟩
 refine ov 23 (.pointer (some ⟨b5,20,none⟩)) ?_
 refine oe ?_
 refine es 33 20 (.agg #[aC,aD,aA,aB]) [aC,aD,aA,aB] #[aa,ab,ad,ac,ak,aj,al,ap,ay,az,aw,ax,ai,af,ae,ah,au,ar,aq,av,aC,aD,aA,aB] L5 hB q5 ⟨aH.one0,aH.one1,aH.one2,aH.one3,trivial⟩ fun bR aU aX L5 hB=>?_
 replace L2:=aU.lc L2 aE
 replace L3:=aU.lc L3 aF
 refine ⟨⟨L2,L3⟩,?_⟩
 refine za2 ?_
 refine bi _ _ ?_
 try clear bi bL
 refine rg [0,1] ?_
 refine sv 24 (.int .i64 3) ?_
 refine sv 8 (.int .i64 3) ?_
 refine za0 ?_
 show Code.rounds _ _ _ _ _ _
 show Code.wp _ _ _ _ _
 refine wp_seq_k (fun bK bq=>?_)
 refine rg [0] ?_
 refine sv 9 (.bool false) ?_
 refine za0 ?_
 refine bq _ _ ?_
 try clear bq bK
 refine wp_seq_k (fun bP bO=>?_)
 refine wp_cond_false rfl ?_
 refine wp_exit ?_
 simp only [Exit.then,Exit.inBlock,↓reduceIte]
 refine k6 _ _ ?_
 try clear k6 K6
 refine wp_seq_k (fun bz a7=>?_)
 refine rg [0,1] ?_
 refine sv 25 (.slice (some ⟨b5,0,none⟩) 6 6) ?_
 refine sv 4 (.slice (some ⟨b5,0,none⟩) 6 6) ?_
 refine za0 ?_
 refine a7 _ _ ?_
 try clear a7 bz
 refine wp_ret ?_
 refine bodyPost_ret (v:=(.slice (some ⟨b5,0,none⟩) 6 6)) (zb6 rfl rfl) rfl ⟨?_,hB⟩
 have aM:=g2.kp.trans (g3.kp.trans (g5.kp.trans (aP.kp.trans (a0.trans (aY.trans (aO.kp.trans (a4.trans (aW.trans (aN.kp.trans (aZ.trans aX))))))))))
 replace aG:=aG.kp aM
 replace aK:=aK.kp aM
 replace aI:=aI.kp aM
 replace aJ:=aJ.kp aM
 replace aL:=aL.kp aM
 replace aH:=aH.kp aM
 exact ⟨_,_,_,_,_,_,_,_,_,_,_,_,_,_,_,_,_,_,_,_,_,_,_,_,_,rfl,L5,q5,aG,aK,aI,aJ,aL,aH⟩

theorem zh9 (a:Rat):0≤a*a:=by
 rcases Rat.le_total (a:=0) (b:=a) with h | h
 ·exact Rat.mul_nonneg h h
 ·have:0≤(-a)*(-a):=Rat.mul_nonneg (by grind) (by grind)
  grind
theorem dot_pos {a1 a2 a3:Rat} (h:¬(a1=0∧a2=0∧a3=0)):0<0+a1*a1+a2*a2+a3*a3:=by
 have h1:=zh9 a1
 have h2:=zh9 a2
 have h3:=zh9 a3
 rcases (show 0<a1*a1∨0=a1*a1 by grind) with h1 | h1
 ·grind
 rcases (show 0<a2*a2∨0=a2*a2 by grind) with h2 | h2
 ·grind
 rcases (show 0<a3*a3∨0=a3*a3 by grind) with h3 | h3
 ·grind
 exfalso
 apply h
 refine ⟨?_,?_,?_⟩
 ·rcases Rat.mul_eq_zero.1 h1.symm with h | h<;>exact h
 ·rcases Rat.mul_eq_zero.1 h2.symm with h | h<;>exact h
 ·rcases Rat.mul_eq_zero.1 h3.symm with h | h<;>exact h
theorem num_pos {a:Rat} (h:0<a):0<a.num:=by
 have h1:0≤a.num:=Rat.num_nonneg.2 (by grind)
 have h2:a.num≠0:=fun e=>by rw [Rat.num_eq_zero] at e;grind
 omega
theorem sgnz_t {q:Rat} (h:q≠0):(sgn q.num !=(0:Int))=true:=by
 have:sgn q.num≠0:=fun e=>h (Rat.num_eq_zero.1 (zd7.1 e))
 simpa using this
set_option maxRecDepth 100000 in
set_option maxHeartbeats 8000000 in
theorem axis_s {k:Nat} {ax az aG aF ay av aC aD aB aE aw aA:Value} {a1 a2 a3:Rat} {a7 a6 ba bb aY a9 a8 a4 a0 aZ aX a5:Value} {d1 d2 d3:Rat} {w:World} (au:IsRat w k ax az aG aF a1) (aI:IsRat w k ay av aC aD a2) (aH:IsRat w k aB aE aw aA a3) (bh:IsRat w k a7 a6 ba bb d1) (bi:IsRat w k aY a9 a8 a4 d2) (bj:IsRat w k a0 aZ aX a5 d3) (_hk:k≤2000) (ha:¬(a1=0∧a2=0∧a3=0)) (hp:((0+a1*d1+a2*d2+a3*d3)*(((1:Int):Rat)/(0+a1*a1+a2*a2+a3*a3)))≠0):
    Calls Tryz.prog 32 #[(.agg #[ax,az,aG,aF,ay,av,aC,aD,aB,aE,aw,aA,a7,a6,ba,bb,aY,a9,a8,a4,a0,aZ,aX,a5])] w fun e w'=>(∃ t0 t1 t2 t3 t4 t5 t6 t7 t8 t9 dE di de dv dt dO dh dl cZ dd dm dF dG dq dB da dj dA,e=.returned (.agg #[.int .i64 3,t0,t1,t2,t3,t4,t5,t6,t7,t8,t9,dE,di,de,dv,dt,dO,dh,dl,cZ,dd,dm,dF,dG,dq,dB,da,dj,dA])∧IsRat w' (20*k+1000) t0 t1 t2 t3 (prim a1 a2 a3 a1)∧IsRat w' (20*k+1000) t4 t5 t6 t7 (prim a1 a2 a3 a2)∧IsRat w' (20*k+1000) t8 t9 dE di (prim a1 a2 a3 a3)∧IsRat w' (20*k+1000) de dv dt dO ((((1:Int):Rat)/(0+a1*a1+a2*a2+a3*a3))*(a2*d3 - a3*d2))∧IsRat w' (20*k+1000) dh dl cZ dd ((((1:Int):Rat)/(0+a1*a1+a2*a2+a3*a3))*(a3*d1 - a1*d3))∧IsRat w' (20*k+1000) dm dF dG dq ((((1:Int):Rat)/(0+a1*a1+a2*a2+a3*a3))*(a1*d2 - a2*d1))∧IsRat w' (20*k+1000) dB da dj dA (((0+a1*d1+a2*d2+a3*d3)*(((1:Int):Rat)/(0+a1*a1+a2*a2+a3*a3)))))∧Gr w w':=by
 have e1:=zu4.2 ha
 have e3:=sgnz_t hp
 have hbig:=au.big
 have hdv:=num_pos (dot_pos ha)
 go_enter Tryz.func32,Tryz.ntmps32
 have hB:=Gr.refl w
 refine wp_seq_k (fun K1 k1=>?_)
 refine rg [0,1] ?_
 refine se ?_
 refine eb 42 #[ax,az,aG,aF,ay,av,aC,aD,aB,aE,aw,aA,a7,a6,ba,bb,aY,a9,a8,a4,a0,aZ,aX,a5] 1 hB fun b2 w2 g2 L2 o2 q2 hB=>?_
 simp only [p3,p4]
 refine se ?_
 refine ea 82 #[.int .i64 0,.bool false,.slice none 0 0,.bool false,.slice none 0 0,.bool false,.slice none 0 0,.bool false,.slice none 0 0,.bool false,.slice none 0 0,.bool false,.slice none 0 0,.bool false,.slice none 0 0,.bool false,.slice none 0 0,.bool false,.slice none 0 0,.bool false,.slice none 0 0,.bool false,.slice none 0 0,.bool false,.slice none 0 0,.bool false,.slice none 0 0,.bool false,.slice none 0 0] 2 hB fun b3 w3 g3 L3 o3 q3 hB=>?_
 simp only [p3,p4]
 refine za0 ?_
 refine k1 _ _ ?_
 try clear k1 K1
 refine wp_seq_k (fun K4 k4=>?_)
 refine wp_seq_k (fun K5 k5=>?_)
 refine rg [0,1] ?_
 replace L2:=L2.gr g3
 refine sw 10 (.agg #[ax,az,aG,aF,ay,av,aC,aD,aB,aE,aw,aA,a7,a6,ba,bb,aY,a9,a8,a4,a0,aZ,aX,a5]) rfl (rl 42 0 [ax,az,aG,aF,ay,av,aC,aD,aB,aE,aw,aA,a7,a6,ba,bb,aY,a9,a8,a4,a0,aZ,aX,a5] L2) ?_
 refine se ?_
 have cG:=g2.kp.trans g3.kp
 replace au:=au.kp cG
 replace aI:=aI.kp cG
 replace aH:=aH.kp cG
 replace bh:=bh.kp cG
 replace bi:=bi.kp cG
 replace bj:=bj.kp cG
 refine ec 11 (tzero_f au aI aH bh bi bj (by omega) e1) ?_
 rintro e6 w6 ⟨rfl,g6⟩
 refine ⟨_,rfl,?_⟩
 replace hB:=hB.trans g6
 simp only [p3,p4]
 refine za0 ?_
 refine k5 _ _ ?_
 try clear k5 K5
 refine wp_cond_false rfl ?_
 refine wp_skip ?_
 refine k4 _ _ ?_
 try clear k4 K4
 refine wp_seq_k (fun K8 k8=>?_)
 refine wp_seq_k (fun K9 k9=>?_)
 refine rg [0,1,2] ?_
 refine sv 13 (.pointer (some ⟨b2,0,none⟩)) ?_
 replace L2:=L2.gr g6
 refine sw 14 (.agg #[ax,az,aG,aF,ay,av,aC,aD,aB,aE,aw,aA]) rfl (rl 35 0 [ax,az,aG,aF,ay,av,aC,aD,aB,aE,aw,aA] L2) ?_
 refine se ?_
 replace au:=au.kp g6.kp
 replace aI:=aI.kp g6.kp
 replace aH:=aH.kp g6.kp
 refine ec 15 (zH2 au aI aH (by omega) false e1) ?_
 rintro eq eG ⟨rfl,b8⟩
 refine ⟨_,rfl,?_⟩
 replace hB:=hB.trans b8
 simp only [p3,p4]
 refine za0 ?_
 refine k9 _ _ ?_
 try clear k9 K9
 refine wp_cond_false rfl ?_
 refine wp_skip ?_
 refine k8 _ _ ?_
 try clear k8 K8
 refine wp_seq_k (fun dR k11=>?_)
 refine rg [0,1,2,3,4,5,6,7,8] ?_
 refine sv 25 (.pointer (some ⟨b2,0,none⟩)) ?_
 replace L2:=L2.gr b8
 refine sw 26 (.agg #[ax,az,aG,aF,ay,av,aC,aD,aB,aE,aw,aA]) rfl (rl 35 0 [ax,az,aG,aF,ay,av,aC,aD,aB,aE,aw,aA] L2) ?_
 refine se ?_
 replace au:=au.kp b8.kp
 replace aI:=aI.kp b8.kp
 replace aH:=aH.kp b8.kp
 refine ec 27 (vprim_ok au aI aH (by omega) ha) ?_
 rintro e12 eD ⟨⟨ae,al,af,ad,ap,ai,aj,ah,ac,ak,ab,aa,rfl,aT,aU,aV⟩,cK⟩
 refine ⟨_,rfl,?_⟩
 replace hB:=hB.trans cK
 simp only [p3,p4]
 refine sv 24 (.tuple #[(.agg #[ae,al,af,ad,ap,ai,aj,ah,ac,ak,ab,aa]),.int .i64 0]) ?_
 refine sv 28 (.agg #[ae,al,af,ad,ap,ai,aj,ah,ac,ak,ab,aa]) ?_
 refine sv 29 (.int .i64 0) ?_
 refine se ?_
 refine ea 35 #[.bool false,.slice none 0 0,.bool false,.slice none 0 0,.bool false,.slice none 0 0,.bool false,.slice none 0 0,.bool false,.slice none 0 0,.bool false,.slice none 0 0] 5 hB fun cX eN cL bm df dV hB=>?_
 replace L2:=L2.gr cK
 have cy:=L2.ne df
 replace L3:=L3.gr (g6.trans (b8.trans cK))
 have co:=L3.ne df
 simp only [p3,p4]
 refine se ?_
 refine es 35 0 (.agg #[ae,al,af,ad,ap,ai,aj,ah,ac,ak,ab,aa]) [ae,al,af,ad,ap,ai,aj,ah,ac,ak,ab,aa] #[ae,al,af,ad,ap,ai,aj,ah,ac,ak,ab,aa] bm hB dV ⟨aT.one0,aT.one1,aT.one2,aT.one3,aU.one0,aU.one1,aU.one2,aU.one3,aV.one0,aV.one1,aV.one2,aV.one3,trivial⟩ fun dX cJ cg bm hB=>?_
 refine sv 6 (.int .i64 0) ?_
 refine za0 ?_
 refine k11 _ _ ?_
 try clear k11 dR
 refine wp_seq_k (fun ed c9=>?_)
 have cP:=Below.size hB
 replace L2:=cJ.lc (L2.gr cL) cy
 have cm:=L2.lt
 replace L3:=cJ.lc (L3.gr cL) co
 have ck:=L3.lt
 have bH:=bm.lt
 have bn:=Gr.drew dX
 replace hB:=hB.trans bn
 replace L2:=L2.gr bn
 refine zc2 (fun w'=>Lc w' b2 #[ax,az,aG,aF,ay,av,aC,aD,aB,aE,aw,aA,a7,a6,ba,bb,aY,a9,a8,a4,a0,aZ,aX,a5] 42) [(true,1),(true,2),(true,3),(true,4),(false,0),(false,5),(false,6),(true,7),(true,8),(true,9)] [⟨10,7,33,#[.bool false,.slice none 0 0,.bool false,.slice none 0 0]⟩] [(false,11),(true,12)] (by kernel_rfl) (by kernel_rfl) (by kernel_rfl) (by kernel_rfl) (by kernel_rfl) (by decide) (fun _ _ _ _ _ h=>h) (fun _ _ _ _ _ h=>h) (fun w' o h=>Lc.gr h (Gr.alloc w' o)) L2 (by intro f hf;simp only [List.mem_cons,List.not_mem_nil,or_false] at hf;rcases hf with rfl<;>first | exact zc5 (z:=(.agg #[.bool false,.slice none 0 0,.bool false,.slice none 0 0])) (by kernel_rfl) rfl) ?_
 refine fv 32 (.pointer (some ⟨b2,0,none⟩)) ?_
 refine fw 33 (.agg #[ax,az,aG,aF,ay,av,aC,aD,aB,aE,aw,aA]) rfl (fun w' hS=>(rl 35 0 [ax,az,aG,aF,ay,av,aC,aD,aB,aE,aw,aA] hS)) ?_
 refine fv 34 (.pointer (some ⟨b2,0,none⟩)) ?_
 refine fw 35 (.agg #[ax,az,aG,aF,ay,av,aC,aD,aB,aE,aw,aA]) rfl (fun w' hS=>(rl 35 0 [ax,az,aG,aF,ay,av,aC,aD,aB,aE,aw,aA] hS)) ?_
 refine zd0 rfl rfl (fun er cd _ d9 db=>?_)
 replace hB:=hB.trans cd
 refine ec 31 (zt1 (1) (by omega) (by omega) _) ?_
 rintro eo eS ⟨⟨eP,em,ej,ex,rfl,cM⟩,b5⟩
 refine ⟨_,rfl,?_⟩
 replace hB:=hB.trans b5
 replace L2:=L2.gr (cd.trans b5)
 refine db _ _ b5 L2 ?_
 try clear db d9
 simp only [p3,p4]
 refine zd0 rfl rfl (fun ei bY _ dS dn=>?_)
 replace hB:=hB.trans bY
 have cc:=cK.kp.trans (cL.kp.trans (cg.trans (bn.kp.trans (cd.kp.trans (b5.kp.trans bY.kp)))))
 replace au:=au.kp cc
 replace aI:=aI.kp cc
 replace aH:=aH.kp cc
 refine ec 36 (dot_v au aI aH au aI aH (by omega)) ?_
 rintro en eE ⟨⟨eT,eH,et,eA,rfl,cS⟩,bR⟩
 refine ⟨_,rfl,?_⟩
 replace hB:=hB.trans bR
 replace L2:=L2.gr (bY.trans bR)
 refine dn _ _ bR L2 ?_
 try clear dn dS
 simp only [p3,p4]
 refine zd0 rfl rfl (fun eL bQ _ dW k22=>?_)
 replace hB:=hB.trans bQ
 have cU:=bY.kp.trans (bR.kp.trans bQ.kp)
 replace cM:=cM.kp cU
 replace cS:=cS.kp bQ.kp
 refine ec 37 (div_r cM cS (by omega) hdv) ?_
 rintro e23 el ⟨⟨bC,bA,bD,bE,rfl,bG⟩,bZ⟩
 refine ⟨_,rfl,?_⟩
 replace hB:=hB.trans bZ
 replace L2:=L2.gr (bQ.trans bZ)
 refine k22 _ _ bZ L2 ?_
 try clear k22 dW
 simp only [p3,p4]
 refine fv 30 (.tuple #[(.agg #[bC,bA,bD,bE]),.int .i64 0]) ?_
 refine fv 38 (.agg #[bC,bA,bD,bE]) ?_
 refine fv 39 (.int .i64 0) ?_
 refine zl3 (fun dU bW _=>?_)
 replace hB:=hB.trans bW
 refine zA3 (fun cF (aW:Lc dU cF #[.bool false,.slice none 0 0,.bool false,.slice none 0 0] 33) q26=>?_)
 have ce:b2≠cF:=Nat.ne_of_lt (Nat.lt_of_lt_of_le cm q26)
 have cx:b3≠cF:=Nat.ne_of_lt (Nat.lt_of_lt_of_le ck q26)
 have bP:cX≠cF:=Nat.ne_of_lt (Nat.lt_of_lt_of_le bH q26)
 replace q26:=Nat.le_trans cP q26
 simp only [zn2,p3,p4]
 refine oe ?_
 refine es 33 0 (.agg #[bC,bA,bD,bE]) [bC,bA,bD,bE] #[bC,bA,bD,bE] aW hB q26 ⟨bG.one0,bG.one1,bG.one2,bG.one3,trivial⟩ fun ee b7 bO aW hB=>?_
 replace L2:=b7.lc (L2.gr bW) ce
 refine ⟨L2,?_⟩
 refine ov 8 (.int .i64 0) ?_
 refine za2 ?_
 refine c9 _ _ ?_
 try clear c9 ed
 refine wp_seq_k (fun d5 dM=>?_)
 have cR:=Below.size hB
 have cA:=L2.lt
 replace L3:=b7.lc (L3.gr (bn.trans (cd.trans (b5.trans (bY.trans (bR.trans (bQ.trans (bZ.trans bW)))))))) cx
 have b9:=L3.lt
 replace bm:=b7.lc (bm.gr (bn.trans (cd.trans (b5.trans (bY.trans (bR.trans (bQ.trans (bZ.trans bW)))))))) bP
 have bJ:=bm.lt
 have bM:=aW.lt
 have bk:=Gr.drew ee
 replace hB:=hB.trans bk
 replace L2:=L2.gr bk
 replace bm:=bm.gr bk
 replace aW:=aW.gr bk
 refine zc2 (fun w'=>Lc w' b2 #[ax,az,aG,aF,ay,av,aC,aD,aB,aE,aw,aA,a7,a6,ba,bb,aY,a9,a8,a4,a0,aZ,aX,a5] 42∧Lc w' cX #[ae,al,af,ad,ap,ai,aj,ah,ac,ak,ab,aa] 35∧Lc w' cF #[bC,bA,bD,bE] 33) [(true,0),(true,1),(true,2),(true,3),(true,4),(true,6),(false,5),(false,7),(true,8)] [⟨9,9,82,#[.int .i64 0,.bool false,.slice none 0 0,.bool false,.slice none 0 0,.bool false,.slice none 0 0,.bool false,.slice none 0 0,.bool false,.slice none 0 0,.bool false,.slice none 0 0,.bool false,.slice none 0 0,.bool false,.slice none 0 0,.bool false,.slice none 0 0,.bool false,.slice none 0 0,.bool false,.slice none 0 0,.bool false,.slice none 0 0,.bool false,.slice none 0 0,.bool false,.slice none 0 0]⟩] [(false,10)] (by kernel_rfl) (by kernel_rfl) (by kernel_rfl) (by kernel_rfl) (by kernel_rfl) (by decide) (fun _ _ _ _ _ h=>h) (fun _ _ _ _ _ h=>h) (fun w' o h=>⟨Lc.gr h.1 (Gr.alloc w' o),Lc.gr h.2.1 (Gr.alloc w' o),Lc.gr h.2.2 (Gr.alloc w' o)⟩) ⟨L2,bm,aW⟩ (by intro f hf;simp only [List.mem_cons,List.not_mem_nil,or_false] at hf;rcases hf with rfl<;>first | exact zc5 (z:=(.agg #[.int .i64 0,.bool false,.slice none 0 0,.bool false,.slice none 0 0,.bool false,.slice none 0 0,.bool false,.slice none 0 0,.bool false,.slice none 0 0,.bool false,.slice none 0 0,.bool false,.slice none 0 0,.bool false,.slice none 0 0,.bool false,.slice none 0 0,.bool false,.slice none 0 0,.bool false,.slice none 0 0,.bool false,.slice none 0 0,.bool false,.slice none 0 0,.bool false,.slice none 0 0])) (by kernel_rfl) rfl) ?_
 refine fw 40 (.agg #[ae,al,af,ad,ap,ai,aj,ah,ac,ak,ab,aa]) rfl (fun w' hS=>(rl 35 0 [ae,al,af,ad,ap,ai,aj,ah,ac,ak,ab,aa] hS.2.1)) ?_
 refine fv 41 (.pointer (some ⟨b2,0,none⟩)) ?_
 refine fw 42 (.agg #[ax,az,aG,aF,ay,av,aC,aD,aB,aE,aw,aA]) rfl (fun w' hS=>(rl 35 0 [ax,az,aG,aF,ay,av,aC,aD,aB,aE,aw,aA] hS.1)) ?_
 refine fv 43 (.pointer (some ⟨b2,12,none⟩)) ?_
 refine fw 44 (.agg #[a7,a6,ba,bb,aY,a9,a8,a4,a0,aZ,aX,a5]) rfl (fun w' hS=>(rl 35 12 [a7,a6,ba,bb,aY,a9,a8,a4,a0,aZ,aX,a5] hS.1)) ?_
 refine fw 46 (.agg #[bC,bA,bD,bE]) rfl (fun w' hS=>(rl 33 0 [bC,bA,bD,bE] hS.2.2)) ?_
 refine zd0 rfl rfl (fun eF bT _ dQ dK=>?_)
 replace hB:=hB.trans bT
 have cn:=bR.kp.trans (bQ.kp.trans (bZ.kp.trans (bW.kp.trans (bO.trans (bk.kp.trans bT.kp)))))
 replace au:=au.kp cn
 replace aI:=aI.kp cn
 replace aH:=aH.kp cn
 have cj:=g6.kp.trans (b8.kp.trans (cK.kp.trans (cL.kp.trans (cg.trans (bn.kp.trans (cd.kp.trans (b5.kp.trans (bY.kp.trans (bR.kp.trans (bQ.kp.trans (bZ.kp.trans (bW.kp.trans (bO.trans (bk.kp.trans bT.kp))))))))))))))
 replace bh:=bh.kp cj
 replace bi:=bi.kp cj
 replace bj:=bj.kp cj
 refine ec 45 (zH1 au aI aH bh bi bj (by omega)) ?_
 rintro e32 eI ⟨⟨cY,dI,dy,dx,dD,dw,dk,dH,dL,dC,cN,cO,rfl,cD,cl,cu⟩,bU⟩
 refine ⟨_,rfl,?_⟩
 replace hB:=hB.trans bU
 replace L2:=L2.gr (bT.trans bU)
 replace bm:=bm.gr (bT.trans bU)
 replace aW:=aW.gr (bT.trans bU)
 refine dK _ _ bU ⟨L2,bm,aW⟩ ?_
 try clear dK dQ
 simp only [p3,p4]
 refine zd0 rfl rfl (fun eJ bB _ d0 dp=>?_)
 replace hB:=hB.trans bB
 replace cD:=cD.kp bB.kp
 replace cl:=cl.kp bB.kp
 replace cu:=cu.kp bB.kp
 have cT:=bW.kp.trans (bO.trans (bk.kp.trans (bT.kp.trans (bU.kp.trans bB.kp))))
 replace bG:=bG.kp cT
 refine ec 47 (zz6 cD cl cu bG (by omega)) ?_
 rintro ez eu ⟨⟨aL,aQ,aO,aN,aK,aJ,aP,aR,aM,aS,ar,aq,rfl,bd,bf,bc⟩,bK⟩
 refine ⟨_,rfl,?_⟩
 replace hB:=hB.trans bK
 replace L2:=L2.gr (bB.trans bK)
 replace bm:=bm.gr (bB.trans bK)
 replace aW:=aW.gr (bB.trans bK)
 refine dp _ _ bK ⟨L2,bm,aW⟩ ?_
 try clear dp d0
 simp only [p3,p4]
 refine fv 48 (.agg #[.int .i64 2,ae,al,af,ad,ap,ai,aj,ah,ac,ak,ab,aa,aL,aQ,aO,aN,aK,aJ,aP,aR,aM,aS,ar,aq,.bool false,.slice none 0 0,.bool false,.slice none 0 0]) ?_
 refine zl3 (fun dT bN _=>?_)
 replace hB:=hB.trans bN
 refine zA3 (fun b4 (bu:Lc dT b4 #[.int .i64 0,.bool false,.slice none 0 0,.bool false,.slice none 0 0,.bool false,.slice none 0 0,.bool false,.slice none 0 0,.bool false,.slice none 0 0,.bool false,.slice none 0 0,.bool false,.slice none 0 0,.bool false,.slice none 0 0,.bool false,.slice none 0 0,.bool false,.slice none 0 0,.bool false,.slice none 0 0,.bool false,.slice none 0 0,.bool false,.slice none 0 0,.bool false,.slice none 0 0] 82) q39=>?_)
 have bF:b2≠b4:=Nat.ne_of_lt (Nat.lt_of_lt_of_le cA q39)
 have bo:b3≠b4:=Nat.ne_of_lt (Nat.lt_of_lt_of_le b9 q39)
 have bL:cX≠b4:=Nat.ne_of_lt (Nat.lt_of_lt_of_le bJ q39)
 have bp:cF≠b4:=Nat.ne_of_lt (Nat.lt_of_lt_of_le bM q39)
 replace q39:=Nat.le_trans cR q39
 simp only [zn2,p3,p4]
 refine oe ?_
 refine es 82 0 (.agg #[.int .i64 2,ae,al,af,ad,ap,ai,aj,ah,ac,ak,ab,aa,aL,aQ,aO,aN,aK,aJ,aP,aR,aM,aS,ar,aq,.bool false,.slice none 0 0,.bool false,.slice none 0 0]) [.int .i64 2,ae,al,af,ad,ap,ai,aj,ah,ac,ak,ab,aa,aL,aQ,aO,aN,aK,aJ,aP,aR,aM,aS,ar,aq,.bool false,.slice none 0 0,.bool false,.slice none 0 0] #[.int .i64 2,ae,al,af,ad,ap,ai,aj,ah,ac,ak,ab,aa,aL,aQ,aO,aN,aK,aJ,aP,aR,aM,aS,ar,aq,.bool false,.slice none 0 0,.bool false,.slice none 0 0] bu hB q39 ⟨rfl,aT.one0,aT.one1,aT.one2,aT.one3,aU.one0,aU.one1,aU.one2,aU.one3,aV.one0,aV.one1,aV.one2,aV.one3,bd.one0,bd.one1,bd.one2,bd.one3,bf.one0,bf.one1,bf.one2,bf.one3,bc.one0,bc.one1,bc.one2,bc.one3,rfl,rfl,rfl,rfl,trivial⟩ fun d7 bV bS bu hB=>?_
 replace L2:=bV.lc (L2.gr bN) bF
 replace bm:=bV.lc (bm.gr bN) bL
 replace aW:=bV.lc (aW.gr bN) bp
 refine ⟨⟨L2,bm,aW⟩,?_⟩
 refine za2 ?_
 refine dM _ _ ?_
 try clear dM d5
 refine wp_seq_k (fun dP dN=>?_)
 have bg:=Gr.drew d7
 replace hB:=hB.trans bg
 replace L2:=L2.gr bg
 replace aW:=aW.gr bg
 refine za1 (fun w'=>Lc w' b2 #[ax,az,aG,aF,ay,av,aC,aD,aB,aE,aw,aA,a7,a6,ba,bb,aY,a9,a8,a4,a0,aZ,aX,a5] 42∧Lc w' cF #[bC,bA,bD,bE] 33) [(true,0),(true,1),(true,2),(true,3),(true,5),(false,4),(false,6),(true,7),(false,8)] (by kernel_rfl) (by kernel_rfl) (by kernel_rfl) (by decide) (fun _ _ _ _ _ h=>h) ⟨L2,aW⟩ ?_
 refine ov 49 (.pointer (some ⟨b2,0,none⟩)) ?_
 refine ow 50 (.agg #[ax,az,aG,aF,ay,av,aC,aD,aB,aE,aw,aA]) rfl (fun w' hS=>(rl 35 0 [ax,az,aG,aF,ay,av,aC,aD,aB,aE,aw,aA] hS.1)) ?_
 refine ov 51 (.pointer (some ⟨b2,12,none⟩)) ?_
 refine ow 52 (.agg #[a7,a6,ba,bb,aY,a9,a8,a4,a0,aZ,aX,a5]) rfl (fun w' hS=>(rl 35 12 [a7,a6,ba,bb,aY,a9,a8,a4,a0,aZ,aX,a5] hS.1)) ?_
 refine ow 54 (.agg #[bC,bA,bD,bE]) rfl (fun w' hS=>(rl 33 0 [bC,bA,bD,bE] hS.2)) ?_
 refine oe ?_
 have bt:=bU.kp.trans (bB.kp.trans (bK.kp.trans (bN.kp.trans (bS.trans bg.kp))))
 replace au:=au.kp bt
 replace aI:=aI.kp bt
 replace aH:=aH.kp bt
 replace bh:=bh.kp bt
 replace bi:=bi.kp bt
 replace bj:=bj.kp bt
 refine ec 53 (dot_v au aI aH bh bi bj (by omega)) ?_
 rintro eR ef ⟨⟨eh,ey,eQ,eC,rfl,d6⟩,bX⟩
 refine ⟨_,rfl,?_⟩
 replace hB:=hB.trans bX
 replace L2:=L2.gr bX
 replace aW:=aW.gr bX
 refine ⟨⟨L2,aW⟩,?_⟩
 simp only [p3,p4]
 refine oe ?_
 have cW:=bK.kp.trans (bN.kp.trans (bS.trans (bg.kp.trans bX.kp)))
 replace bG:=bG.kp cW
 refine ec 55 (zm7 d6 bG (by omega)) ?_
 rintro eB eM ⟨⟨bw,bv,bz,bx,rfl,bq⟩,cq⟩
 refine ⟨_,rfl,?_⟩
 replace hB:=hB.trans cq
 replace L2:=L2.gr cq
 replace aW:=aW.gr cq
 refine ⟨⟨L2,aW⟩,?_⟩
 simp only [p3,p4]
 refine ov 56 (.pointer (some ⟨b4,25,none⟩)) ?_
 refine oe ?_
 replace bu:=bu.gr (bg.trans (bX.trans cq))
 refine es 33 25 (.agg #[bw,bv,bz,bx]) [bw,bv,bz,bx] #[.int .i64 2,ae,al,af,ad,ap,ai,aj,ah,ac,ak,ab,aa,aL,aQ,aO,aN,aK,aJ,aP,aR,aM,aS,ar,aq,bw,bv,bz,bx] bu hB q39 ⟨bq.one0,bq.one1,bq.one2,bq.one3,trivial⟩ fun ew cB b6 bu hB=>?_
 replace L2:=cB.lc L2 bF
 replace aW:=cB.lc aW bp
 refine ⟨⟨L2,aW⟩,?_⟩
 refine za2 ?_
 refine dN _ _ ?_
 try clear dN dP
 refine wp_seq_k (fun dY du=>?_)
 refine wp_seq_k (fun d8 dJ=>?_)
 refine rg [0,1,2,3] ?_
 refine sv 57 (.pointer (some ⟨b4,25,none⟩)) ?_
 refine sw 58 (.agg #[bw,bv,bz,bx]) rfl (rl 33 25 [bw,bv,bz,bx] bu) ?_
 refine se ?_
 replace bq:=bq.kp b6
 refine ec 59 (zD5 bq) ?_
 rintro eO ek ⟨rfl,cH⟩
 refine ⟨_,rfl,?_⟩
 replace hB:=hB.trans cH
 simp only [p3,p4]
 refine sw 60 (.bool true) rfl (RunV.bool (x:=(sgn (((0+a1*d1+a2*d2+a3*d3)*((((1:Int):Rat))/(0+a1*a1+a2*a2+a3*a3)))).num !=(0:Int))) (rvk (by kernel_rfl)) e3) ?_
 refine za0 ?_
 refine dJ _ _ ?_
 try clear dJ d8
 refine wp_cond_true rfl ?_
 refine rg [0,1] ?_
 refine sv 61 (.pointer (some ⟨b4,0,none⟩)) ?_
 refine se ?_
 replace bu:=bu.gr cH
 refine es 3 0 (.int .i64 3) [.int .i64 3] #[.int .i64 3,ae,al,af,ad,ap,ai,aj,ah,ac,ak,ab,aa,aL,aQ,aO,aN,aK,aJ,aP,aR,aM,aS,ar,aq,bw,bv,bz,bx] bu hB q39 ⟨rfl,trivial⟩ fun ep cQ ca bu hB=>?_
 refine za0 ?_
 refine du _ _ ?_
 try clear du dY
 refine wp_seq_k (fun d4 dc=>?_)
 refine rg [0,1] ?_
 refine sw 62 (.agg #[.int .i64 3,ae,al,af,ad,ap,ai,aj,ah,ac,ak,ab,aa,aL,aQ,aO,aN,aK,aJ,aP,aR,aM,aS,ar,aq,bw,bv,bz,bx]) rfl (rl 82 0 [.int .i64 3,ae,al,af,ad,ap,ai,aj,ah,ac,ak,ab,aa,aL,aQ,aO,aN,aK,aJ,aP,aR,aM,aS,ar,aq,bw,bv,bz,bx] bu) ?_
 refine se ?_
 replace L3:=cQ.lc ((cB.lc ((bV.lc (L3.gr (bk.trans (bT.trans (bU.trans (bB.trans (bK.trans bN)))))) bo).gr (bg.trans (bX.trans cq))) bo).gr cH) bo
 refine es 82 0 (.agg #[.int .i64 3,ae,al,af,ad,ap,ai,aj,ah,ac,ak,ab,aa,aL,aQ,aO,aN,aK,aJ,aP,aR,aM,aS,ar,aq,bw,bv,bz,bx]) [.int .i64 3,ae,al,af,ad,ap,ai,aj,ah,ac,ak,ab,aa,aL,aQ,aO,aN,aK,aJ,aP,aR,aM,aS,ar,aq,bw,bv,bz,bx] #[.int .i64 3,ae,al,af,ad,ap,ai,aj,ah,ac,ak,ab,aa,aL,aQ,aO,aN,aK,aJ,aP,aR,aM,aS,ar,aq,bw,bv,bz,bx] L3 hB q3 ⟨rfl,aT.one0,aT.one1,aT.one2,aT.one3,aU.one0,aU.one1,aU.one2,aU.one3,aV.one0,aV.one1,aV.one2,aV.one3,bd.one0,bd.one1,bd.one2,bd.one3,bf.one0,bf.one1,bf.one2,bf.one3,bc.one0,bc.one1,bc.one2,bc.one3,bq.one0,bq.one1,bq.one2,bq.one3,trivial⟩ fun eK dZ cC L3 hB=>?_
 refine za0 ?_
 refine dc _ _ ?_
 try clear dc d4
 refine wp_ret ?_
 refine bodyPost_ret (v:=(.agg #[.int .i64 3,ae,al,af,ad,ap,ai,aj,ah,ac,ak,ab,aa,aL,aQ,aO,aN,aK,aJ,aP,aR,aM,aS,ar,aq,bw,bv,bz,bx])) (za6 _ _ _ rfl rfl L3 (by kernel_rfl)) rfl ⟨?_,hB⟩
 have cE:=cL.kp.trans (cg.trans (bn.kp.trans (cd.kp.trans (b5.kp.trans (bY.kp.trans (bR.kp.trans (bQ.kp.trans (bZ.kp.trans (bW.kp.trans (bO.trans (bk.kp.trans (bT.kp.trans (bU.kp.trans (bB.kp.trans (bK.kp.trans (bN.kp.trans (bS.trans (bg.kp.trans (bX.kp.trans (cq.kp.trans (b6.trans (cH.kp.trans (ca.trans cC)))))))))))))))))))))))
 replace aT:=aT.kp cE
 replace aU:=aU.kp cE
 replace aV:=aV.kp cE
 have ch:=bN.kp.trans (bS.trans (bg.kp.trans (bX.kp.trans (cq.kp.trans (b6.trans (cH.kp.trans (ca.trans cC)))))))
 replace bd:=bd.kp ch
 replace bf:=bf.kp ch
 replace bc:=bc.kp ch
 have cV:=cH.kp.trans (ca.trans cC)
 replace bq:=bq.kp cV
 exact ⟨_,_,_,_,_,_,_,_,_,_,_,_,_,_,_,_,_,_,_,_,_,_,_,_,_,_,_,_,rfl,aT.mono (by omega),aU.mono (by omega),aV.mono (by omega),bd.mono (by omega),bf.mono (by omega),bc.mono (by omega),bq.mono (by omega)⟩

set_option maxRecDepth 100000 in
set_option maxHeartbeats 1000000 in
theorem nb17_w {k:Nat} {u0 u1 u2 u3:Value} {a:Rat} {w:World} (ha:IsRat w k u0 u1 u2 u3 a) (_hk:k≤800000) (ht:Tab w) (hw:a.den=1):
    Calls Tryz.prog 35 #[(.agg #[u0,u1,u2,u3])] w fun e w'=>e=.returned (.string ⟨(za3 a).toArray⟩)∧Gr w w':=by
 go_enter Tryz.func35,Tryz.ntmps35
 have hB:=Gr.refl w
 refine wp_seq_k (fun K1 k1=>?_)
 refine rg [0,1] ?_
 refine se ?_
 refine eb 33 #[u0,u1,u2,u3] 1 hB fun b2 w2 g2 L2 o2 q2 hB=>?_
 simp only [p3,p4]
 refine sv 2 (.string ⟨([]:List UInt8).toArray⟩) ?_
 refine za0 ?_
 refine k1 _ _ ?_
 try clear k1 K1
 refine wp_seq_k (fun K3 k3=>?_)
 refine wp_seq_k (fun K4 k4=>?_)
 refine rg [0,1] ?_
 refine sw 3 (.agg #[u0,u1,u2,u3]) rfl (rl 33 0 [u0,u1,u2,u3] L2) ?_
 refine se ?_
 replace ha:=ha.kp g2.kp
 refine ec 4 (zg0 ha (by omega) hw) ?_
 rintro e5 w5 ⟨rfl,g5⟩
 refine ⟨_,rfl,?_⟩
 replace hB:=hB.trans g5
 simp only [p3,p4]
 refine za0 ?_
 refine k4 _ _ ?_
 try clear k4 K4
 refine wp_cond_true rfl ?_
 refine wp_seq_k (fun K6 k6=>?_)
 refine rg [0,1,2,3] ?_
 refine sv 5 (.pointer (some ⟨b2,0,none⟩)) ?_
 replace L2:=L2.gr g5
 refine sw 6 (.agg #[u0,u1]) rfl (rl 31 0 [u0,u1] L2) ?_
 refine se ?_
 replace ha:=ha.kp g5.kp
 refine ec 7 (zx7 ha.num (by omega) (ht.gr hB)) ?_
 rintro e7 w7 ⟨rfl,g7⟩
 refine ⟨_,rfl,?_⟩
 replace hB:=hB.trans g7
 simp only [p3,p4]
 refine sv 2 (.string ⟨(Lib.itoa (a.num):List UInt8).toArray⟩) ?_
 refine za0 ?_
 refine k6 _ _ ?_
 try clear k6 K6
 refine wp_ret ?_
 simp only [Exit.then]
 refine bodyPost_ret (v:=(.string ⟨(Lib.itoa (a.num):List UInt8).toArray⟩)) (zb6 rfl rfl) rfl ⟨?_,hB⟩
 exact (by rw [zK8 hw])

set_option maxRecDepth 100000 in
set_option maxHeartbeats 1000000 in
theorem nb17_d {k:Nat} {u0 u1 u2 u3:Value} {a:Rat} {w:World} (ha:IsRat w k u0 u1 u2 u3 a) (_hk:k≤800000) (ht:Tab w) (hd:IsInt w k u2 u3 (a.den:Int)) (hw:¬ a.den=1):
    Calls Tryz.prog 35 #[(.agg #[u0,u1,u2,u3])] w fun e w'=>e=.returned (.string ⟨(za3 a).toArray⟩)∧Gr w w':=by
 have ak:=zk1 ha.num.sz
 have al:=zk1 hd.sz
 go_enter Tryz.func35,Tryz.ntmps35
 have hB:=Gr.refl w
 refine wp_seq_k (fun K1 k1=>?_)
 refine rg [0,1] ?_
 refine se ?_
 refine eb 33 #[u0,u1,u2,u3] 1 hB fun b2 w2 g2 L2 o2 q2 hB=>?_
 simp only [p3,p4]
 refine sv 2 (.string ⟨([]:List UInt8).toArray⟩) ?_
 refine za0 ?_
 refine k1 _ _ ?_
 try clear k1 K1
 refine wp_seq_k (fun K3 k3=>?_)
 refine wp_seq_k (fun K4 k4=>?_)
 refine rg [0,1] ?_
 refine sw 3 (.agg #[u0,u1,u2,u3]) rfl (rl 33 0 [u0,u1,u2,u3] L2) ?_
 refine se ?_
 replace ha:=ha.kp g2.kp
 refine ec 4 (zj5 ha (by omega) hw) ?_
 rintro e5 w5 ⟨rfl,g5⟩
 refine ⟨_,rfl,?_⟩
 replace hB:=hB.trans g5
 simp only [p3,p4]
 refine za0 ?_
 refine k4 _ _ ?_
 try clear k4 K4
 refine wp_cond_false rfl ?_
 refine wp_skip ?_
 refine k3 _ _ ?_
 try clear k3 K3
 refine wp_seq_k (fun K6 k6=>?_)
 have aa:=Gr.drew w5
 replace hB:=hB.trans aa
 replace L2:=L2.gr (g5.trans aa)
 refine za1 (fun w'=>Lc w' b2 #[u0,u1,u2,u3] 33) [(true,0),(true,1),(true,4),(true,5),(false,2),(true,3),(false,6),(true,7),(true,8)] (by kernel_rfl) (by kernel_rfl) (by kernel_rfl) (by decide) (fun _ _ _ _ _ h=>h) L2 ?_
 refine ov 8 (.pointer (some ⟨b2,0,none⟩)) ?_
 refine ow 9 (.agg #[u0,u1]) rfl (fun w' hS=>(rl 31 0 [u0,u1] hS)) ?_
 refine ov 12 (.pointer (some ⟨b2,2,none⟩)) ?_
 refine ow 13 (.agg #[u2,u3]) rfl (fun w' hS=>(rl 31 2 [u2,u3] hS)) ?_
 refine oe ?_
 have ac:=g5.kp.trans aa.kp
 replace ha:=ha.kp ac
 refine ec 10 (zx7 ha.num (by omega) (ht.gr hB)) ?_
 rintro ah ai ⟨rfl,ab⟩
 refine ⟨_,rfl,?_⟩
 replace hB:=hB.trans ab
 replace L2:=L2.gr ab
 refine ⟨L2,?_⟩
 simp only [p3,p4]
 refine ow 11 (.string ⟨((Lib.itoa (a.num))++([47]):List UInt8).toArray⟩) rfl (fun w' hS=>(zx8 9 9 _ _ (Lib.itoa (a.num)) ([47]) rfl rfl rfl (by simp only [List.length_cons,List.length_nil];omega))) ?_
 refine oe ?_
 have ad:=g2.kp.trans (g5.kp.trans (aa.kp.trans ab.kp))
 replace hd:=hd.kp ad
 refine ec 14 (zx7 hd (by omega) (ht.gr hB)) ?_
 rintro aj af ⟨rfl,ae⟩
 refine ⟨_,rfl,?_⟩
 replace hB:=hB.trans ae
 replace L2:=L2.gr ae
 refine ⟨L2,?_⟩
 simp only [p3,p4]
 refine ow 15 (.string ⟨(((Lib.itoa (a.num))++([47]))++(Lib.itoa ((a.den:Int))):List UInt8).toArray⟩) rfl (fun w' hS=>(zx8 9 9 _ _ ((Lib.itoa (a.num))++([47])) (Lib.itoa ((a.den:Int))) rfl rfl rfl (by simp only [List.length_append,List.length_cons,List.length_nil];omega))) ?_
 refine ov 2 (.string ⟨(((Lib.itoa (a.num))++([47]))++(Lib.itoa ((a.den:Int))):List UInt8).toArray⟩) ?_
 refine za2 ?_
 refine k6 _ _ ?_
 try clear k6 K6
 refine wp_ret ?_
 refine bodyPost_ret (v:=(.string ⟨(((Lib.itoa (a.num))++([47]))++(Lib.itoa ((a.den:Int))):List UInt8).toArray⟩)) (zb6 rfl rfl) rfl ⟨?_,hB⟩
 exact (by rw [ratL_f hw])

theorem zh4 {k:Nat} {u0 u1 u2 u3:Value} {a:Rat} {w:World} (ha:IsRat w k u0 u1 u2 u3 a) (hk:k≤800000) (ht:Tab w):
  Calls Tryz.prog 35 #[.agg #[u0,u1,u2,u3]] w fun e w'=>e=.returned (.string ⟨(za3 a).toArray⟩)∧Gr w w':=by
 by_cases hw:a.den=1
 ·exact nb17_w ha hk ht hw
 ·obtain ⟨D,h2,h3⟩:=ha.den
  rcases h3 with h3 | ⟨_,h4⟩
  ·subst h3;exact nb17_d ha hk ht h2 hw
  ·exact absurd h4 hw

set_option maxRecDepth 100000 in
set_option maxHeartbeats 1000000 in
theorem zG7 {k:Nat} {ac ak ap aj ah aa ae af ad ai ab al:Value} {a1 a2 a3:Rat} {w:World} (aq:IsRat w k ac ak ap aj a1) (ar:IsRat w k ah aa ae af a2) (au:IsRat w k ad ai ab al a3) (_hk:k≤25000) (ht:Tab w):
    Calls Tryz.prog 34 #[(.agg #[ac,ak,ap,aj,ah,aa,ae,af,ad,ai,ab,al])] w fun e w'=>e=.returned (.agg #[.string ⟨(za3 (a1)).toArray⟩,.string ⟨(za3 (a2)).toArray⟩,.string ⟨(za3 (a3)).toArray⟩])∧Gr w w':=by
 go_enter Tryz.func34,Tryz.ntmps34
 have hB:=Gr.refl w
 refine wp_seq_k (fun K1 k1=>?_)
 refine rg [0,1] ?_
 refine se ?_
 refine eb 35 #[ac,ak,ap,aj,ah,aa,ae,af,ad,ai,ab,al] 1 hB fun b2 w2 g2 L2 o2 q2 hB=>?_
 simp only [p3,p4]
 refine se ?_
 refine ea 85 #[(.string ⟨([]:List UInt8).toArray⟩),(.string ⟨([]:List UInt8).toArray⟩),(.string ⟨([]:List UInt8).toArray⟩)] 2 hB fun b3 w3 g3 L3 o3 q3 hB=>?_
 simp only [p3,p4]
 refine za0 ?_
 refine k1 _ _ ?_
 try clear k1 K1
 refine wp_seq_k (fun K4 k4=>?_)
 refine rg [0] ?_
 refine se ?_
 refine ea 85 #[(.string ⟨([]:List UInt8).toArray⟩),(.string ⟨([]:List UInt8).toArray⟩),(.string ⟨([]:List UInt8).toArray⟩)] 3 hB fun b5 w5 g5 L5 o5 q5 hB=>?_
 replace L2:=L2.gr g3
 have av:=L3.ne o5
 simp only [p3,p4]
 refine za0 ?_
 refine k4 _ _ ?_
 try clear k4 K4
 refine wp_seq_k (fun K6 k6=>?_)
 refine wp_seq_k (fun K7 k7=>?_)
 refine rg [0,1] ?_
 replace L2:=L2.gr g5
 refine sw 6 (.agg #[ac,ak,ap,aj,ah,aa,ae,af,ad,ai,ab,al]) rfl (rl 35 0 [ac,ak,ap,aj,ah,aa,ae,af,ad,ai,ab,al] L2) ?_
 refine sv 7 (.int .i64 0) ?_
 refine za0 ?_
 refine k7 _ _ ?_
 try clear k7 K7
 refine wp_block ?_
 refine wp_loop_rounds 4 ?_
 show Code.wp _ _ _ _ _
 refine wp_seq_k (fun K8 k8=>?_)
 refine rg [0] ?_
 refine sv 8 (.bool true) ?_
 refine za0 ?_
 refine k8 _ _ ?_
 try clear k8 K8
 refine wp_seq_k (fun K9 k9=>?_)
 refine wp_cond_true rfl ?_
 refine wp_skip ?_
 refine k9 _ _ ?_
 try clear k9 K9
 refine wp_seq_k (fun bA bf=>?_)
 refine wp_block ?_
 refine wp_seq_k (fun bq k11=>?_)
 refine rg [0,1,2,3,4] ?_
 refine sv 9 (.int .i64 0) ?_
 refine sv 10 (.agg #[ac,ak,ap,aj]) ?_
 refine se ?_
 refine ea 33 #[.bool false,.slice none 0 0,.bool false,.slice none 0 0] 5 hB fun bG bH aF aN a6 bC hB=>?_
 replace L3:=L3.gr g5
 have ay:=L3.ne a6
 have aB:=L5.ne a6
 simp only [p3,p4]
 refine sv 4 (.int .i64 0) ?_
 refine se ?_
 refine es 33 0 (.agg #[ac,ak,ap,aj]) [ac,ak,ap,aj] #[ac,ak,ap,aj] aN hB bC ⟨aq.one0,aq.one1,aq.one2,aq.one3,trivial⟩ fun bR aI ax aN hB=>?_
 refine za0 ?_
 refine k11 _ _ ?_
 try clear k11 bq
 refine rg [0,1,2,3,4] ?_
 refine sv 11 (.int .i64 0) ?_
 refine sw 12 (.agg #[ac,ak,ap,aj]) rfl (rl 33 0 [ac,ak,ap,aj] aN) ?_
 refine se ?_
 have aP:=g2.kp.trans (g3.kp.trans (g5.kp.trans (aF.kp.trans ax)))
 replace aq:=aq.kp aP
 refine ec 13 (zh4 aq (by omega) (ht.gr hB)) ?_
 rintro bS bJ ⟨rfl,aJ⟩
 refine ⟨_,rfl,?_⟩
 replace hB:=hB.trans aJ
 simp only [p3,p4]
 refine sv 14 (.pointer (some ⟨b5,0,none⟩)) ?_
 refine se ?_
 replace L5:=(aI.lc (L5.gr aF) aB).gr aJ
 refine es 61 0 (.string ⟨(za3 (a1):List UInt8).toArray⟩) [(.string ⟨(za3 (a1):List UInt8).toArray⟩)] #[(.string ⟨(za3 (a1):List UInt8).toArray⟩),(.string ⟨([]:List UInt8).toArray⟩),(.string ⟨([]:List UInt8).toArray⟩)] L5 hB q5 ⟨rfl,trivial⟩ fun bU aQ aD L5 hB=>?_
 refine za0 ?_
 refine bf _ _ ?_
 try clear bf bA
 refine rg [0,1] ?_
 refine sv 15 (.int .i64 1) ?_
 refine sv 7 (.int .i64 1) ?_
 refine za0 ?_
 show Code.rounds _ _ _ _ _ _
 show Code.wp _ _ _ _ _
 refine wp_seq_k (fun bx a7=>?_)
 refine rg [0] ?_
 refine sv 8 (.bool true) ?_
 refine za0 ?_
 refine a7 _ _ ?_
 try clear a7 bx
 refine wp_seq_k (fun bm ba=>?_)
 refine wp_cond_true rfl ?_
 refine wp_skip ?_
 refine ba _ _ ?_
 try clear ba bm
 refine wp_seq_k (fun bw bc=>?_)
 refine wp_block ?_
 refine wp_seq_k (fun bh a5=>?_)
 refine rg [0,1,2,3,4] ?_
 refine sv 9 (.int .i64 1) ?_
 refine sv 10 (.agg #[ah,aa,ae,af]) ?_
 refine se ?_
 refine ea 33 #[.bool false,.slice none 0 0,.bool false,.slice none 0 0] 5 hB fun bF bW aL aR a0 bo hB=>?_
 replace L3:=aQ.lc ((aI.lc (L3.gr aF) ay).gr aJ) av
 have az:=L3.ne a0
 have aA:=L5.ne a0
 simp only [p3,p4]
 refine sv 4 (.int .i64 1) ?_
 refine se ?_
 refine es 33 0 (.agg #[ah,aa,ae,af]) [ah,aa,ae,af] #[ah,aa,ae,af] aR hB bo ⟨ar.one0,ar.one1,ar.one2,ar.one3,trivial⟩ fun bQ aE aG aR hB=>?_
 refine za0 ?_
 refine a5 _ _ ?_
 try clear a5 bh
 refine rg [0,1,2,3,4] ?_
 refine sv 11 (.int .i64 1) ?_
 refine sw 12 (.agg #[ah,aa,ae,af]) rfl (rl 33 0 [ah,aa,ae,af] aR) ?_
 refine se ?_
 have aT:=g2.kp.trans (g3.kp.trans (g5.kp.trans (aF.kp.trans (ax.trans (aJ.kp.trans (aD.trans (aL.kp.trans aG)))))))
 replace ar:=ar.kp aT
 refine ec 13 (zh4 ar (by omega) (ht.gr hB)) ?_
 rintro e23 bM ⟨rfl,aK⟩
 refine ⟨_,rfl,?_⟩
 replace hB:=hB.trans aK
 simp only [p3,p4]
 refine sv 14 (.pointer (some ⟨b5,1,none⟩)) ?_
 refine se ?_
 replace L5:=(aE.lc (L5.gr aL) aA).gr aK
 refine es 61 1 (.string ⟨(za3 (a2):List UInt8).toArray⟩) [(.string ⟨(za3 (a2):List UInt8).toArray⟩)] #[(.string ⟨(za3 (a1):List UInt8).toArray⟩),(.string ⟨(za3 (a2):List UInt8).toArray⟩),(.string ⟨([]:List UInt8).toArray⟩)] L5 hB q5 ⟨rfl,trivial⟩ fun bD aX aV L5 hB=>?_
 refine za0 ?_
 refine bc _ _ ?_
 try clear bc bw
 refine rg [0,1] ?_
 refine sv 15 (.int .i64 2) ?_
 refine sv 7 (.int .i64 2) ?_
 refine za0 ?_
 show Code.rounds _ _ _ _ _ _
 show Code.wp _ _ _ _ _
 refine wp_seq_k (fun bt a4=>?_)
 refine rg [0] ?_
 refine sv 8 (.bool true) ?_
 refine za0 ?_
 refine a4 _ _ ?_
 try clear a4 bt
 refine wp_seq_k (fun bn a8=>?_)
 refine wp_cond_true rfl ?_
 refine wp_skip ?_
 refine a8 _ _ ?_
 try clear a8 bn
 refine wp_seq_k (fun bz bb=>?_)
 refine wp_block ?_
 refine wp_seq_k (fun bv bg=>?_)
 refine rg [0,1,2,3,4] ?_
 refine sv 9 (.int .i64 2) ?_
 refine sv 10 (.agg #[ad,ai,ab,al]) ?_
 refine se ?_
 refine ea 33 #[.bool false,.slice none 0 0,.bool false,.slice none 0 0] 5 hB fun bL bE aO aY aZ bk hB=>?_
 replace L3:=aX.lc ((aE.lc (L3.gr aL) az).gr aK) av
 have aw:=L3.ne aZ
 have aC:=L5.ne aZ
 simp only [p3,p4]
 refine sv 4 (.int .i64 2) ?_
 refine se ?_
 refine es 33 0 (.agg #[ad,ai,ab,al]) [ad,ai,ab,al] #[ad,ai,ab,al] aY hB bk ⟨au.one0,au.one1,au.one2,au.one3,trivial⟩ fun bK aH aW aY hB=>?_
 refine za0 ?_
 refine bg _ _ ?_
 try clear bg bv
 refine rg [0,1,2,3,4] ?_
 refine sv 11 (.int .i64 2) ?_
 refine sw 12 (.agg #[ad,ai,ab,al]) rfl (rl 33 0 [ad,ai,ab,al] aY) ?_
 refine se ?_
 have aM:=g2.kp.trans (g3.kp.trans (g5.kp.trans (aF.kp.trans (ax.trans (aJ.kp.trans (aD.trans (aL.kp.trans (aG.trans (aK.kp.trans (aV.trans (aO.kp.trans aW)))))))))))
 replace au:=au.kp aM
 refine ec 13 (zh4 au (by omega) (ht.gr hB)) ?_
 rintro e32 bP ⟨rfl,aU⟩
 refine ⟨_,rfl,?_⟩
 replace hB:=hB.trans aU
 simp only [p3,p4]
 refine sv 14 (.pointer (some ⟨b5,2,none⟩)) ?_
 refine se ?_
 replace L5:=(aH.lc (L5.gr aO) aC).gr aU
 refine es 61 2 (.string ⟨(za3 (a3):List UInt8).toArray⟩) [(.string ⟨(za3 (a3):List UInt8).toArray⟩)] #[(.string ⟨(za3 (a1):List UInt8).toArray⟩),(.string ⟨(za3 (a2):List UInt8).toArray⟩),(.string ⟨(za3 (a3):List UInt8).toArray⟩)] L5 hB q5 ⟨rfl,trivial⟩ fun bV aS bj L5 hB=>?_
 refine za0 ?_
 refine bb _ _ ?_
 try clear bb bz
 refine rg [0,1] ?_
 refine sv 15 (.int .i64 3) ?_
 refine sv 7 (.int .i64 3) ?_
 refine za0 ?_
 show Code.rounds _ _ _ _ _ _
 show Code.wp _ _ _ _ _
 refine wp_seq_k (fun bu bd=>?_)
 refine rg [0] ?_
 refine sv 8 (.bool false) ?_
 refine za0 ?_
 refine bd _ _ ?_
 try clear bd bu
 refine wp_seq_k (fun bN bO=>?_)
 refine wp_cond_false rfl ?_
 refine wp_exit ?_
 simp only [Exit.then,Exit.inBlock,↓reduceIte]
 refine k6 _ _ ?_
 try clear k6 K6
 refine wp_seq_k (fun bB a9=>?_)
 refine rg [0,1] ?_
 refine sw 16 (.agg #[(.string ⟨(za3 (a1):List UInt8).toArray⟩),(.string ⟨(za3 (a2):List UInt8).toArray⟩),(.string ⟨(za3 (a3):List UInt8).toArray⟩)]) rfl (rl 85 0 [(.string ⟨(za3 (a1):List UInt8).toArray⟩),(.string ⟨(za3 (a2):List UInt8).toArray⟩),(.string ⟨(za3 (a3):List UInt8).toArray⟩)] L5) ?_
 refine se ?_
 replace L3:=aS.lc ((aH.lc (L3.gr aO) aw).gr aU) av
 refine es 85 0 (.agg #[(.string ⟨(za3 (a1):List UInt8).toArray⟩),(.string ⟨(za3 (a2):List UInt8).toArray⟩),(.string ⟨(za3 (a3):List UInt8).toArray⟩)]) [(.string ⟨(za3 (a1):List UInt8).toArray⟩),(.string ⟨(za3 (a2):List UInt8).toArray⟩),(.string ⟨(za3 (a3):List UInt8).toArray⟩)] #[(.string ⟨(za3 (a1):List UInt8).toArray⟩),(.string ⟨(za3 (a2):List UInt8).toArray⟩),(.string ⟨(za3 (a3):List UInt8).toArray⟩)] L3 hB q3 ⟨rfl,rfl,rfl,trivial⟩ fun bT bp bi L3 hB=>?_
 refine za0 ?_
 refine a9 _ _ ?_
 try clear a9 bB
 refine wp_ret ?_
 refine bodyPost_ret (v:=(.agg #[(.string ⟨(za3 (a1):List UInt8).toArray⟩),(.string ⟨(za3 (a2):List UInt8).toArray⟩),(.string ⟨(za3 (a3):List UInt8).toArray⟩)])) (za6 _ _ _ rfl rfl L3 (by kernel_rfl)) rfl ⟨?_,hB⟩
 exact rfl

set_option maxRecDepth 100000 in
set_option maxHeartbeats 4000000 in
theorem zP3 {k m ab:Nat} {ak aq aE aB al ad ay az ax aA aj ar:Value} {a1 a2 a3:Rat} {aD ai af aC ap ae ac av au aw aa ah:Value} {c1 c2 c3:Rat} {w:World} (aG:IsRat w k ak aq aE aB a1) (aK:IsRat w k al ad ay az a2) (aI:IsRat w k ax aA aj ar a3) (aJ:IsRat w m aD ai af aC c1) (aL:IsRat w m ap ae ac av c2) (aH:IsRat w m au aw aa ah c3) (_hk:k+m≤25000) (hL:Lc w ab #[ak,aq,aE,aB,al,ad,ay,az,ax,aA,aj,ar,aD,ai,af,aC,ap,ae,ac,av,au,aw,aa,ah] 33) (ht:Tab w):
    Calls Tryz.prog 49 #[(.slice (some ⟨ab,0,none⟩) 6 6)] w fun e w'=>(∃ b,e=.returned (.slice (some ⟨b,0,none⟩) 6 6)∧Lc w' b #[.string ⟨(za3 (a1)).toArray⟩,.string ⟨(za3 (a2)).toArray⟩,.string ⟨(za3 (a3)).toArray⟩,.string ⟨(za3 (c1)).toArray⟩,.string ⟨(za3 (c2)).toArray⟩,.string ⟨(za3 (c3)).toArray⟩] 61∧w.heap.size≤b)∧Gr w w':=by
 go_enter Tryz.func49,Tryz.ntmps49
 have hB:=Gr.refl w
 refine wp_seq_k (fun K1 k1=>?_)
 refine rg [0] ?_
 refine sv 2 (.slice none 0 0) ?_
 refine za0 ?_
 refine k1 _ _ ?_
 try clear k1 K1
 refine wp_seq_k (fun K2 k2=>?_)
 refine rg [0,1,2,3] ?_
 refine sv 6 (.slice (some ⟨ab,0,none⟩) 6 6) ?_
 refine sv 7 (.int .i64 6) ?_
 refine se ?_
 refine zA8 100 61 (.string ⟨([]:List UInt8).toArray⟩) 6 6 1 #[(.string ⟨([]:List UInt8).toArray⟩),(.string ⟨([]:List UInt8).toArray⟩),(.string ⟨([]:List UInt8).toArray⟩),(.string ⟨([]:List UInt8).toArray⟩),(.string ⟨([]:List UInt8).toArray⟩),(.string ⟨([]:List UInt8).toArray⟩)] (some 8) rfl rfl rfl rfl (by kernel_rfl) (by kernel_rfl) (by kernel_rfl) (by kernel_rfl) (fun b3 w3 g3 L3 q3=>?_)
 have aF:=hL.ne q3
 replace q3:=Nat.le_trans (Below.size hB) q3
 replace hB:=hB.trans g3
 simp only [zn2,p3,p4]
 refine sv 3 (.slice (some ⟨b3,0,none⟩) 6 6) ?_
 refine za0 ?_
 refine k2 _ _ ?_
 try clear k2 K2
 refine wp_seq_k (fun K4 k4=>?_)
 refine wp_seq_k (fun K5 k5=>?_)
 refine rg [0,1,2] ?_
 refine sv 9 (.slice (some ⟨ab,0,none⟩) 6 6) ?_
 refine sv 10 (.int .i64 6) ?_
 refine sv 11 (.int .i64 0) ?_
 refine za0 ?_
 refine k5 _ _ ?_
 try clear k5 K5
 refine wp_block ?_
 refine wp_loop_rounds 8 ?_
 show Code.wp _ _ _ _ _
 refine wp_seq_k (fun K6 k6=>?_)
 refine rg [0] ?_
 refine sv 12 (.bool true) ?_
 refine za0 ?_
 refine k6 _ _ ?_
 try clear k6 K6
 refine wp_seq_k (fun K7 k7=>?_)
 refine wp_cond_true rfl ?_
 refine wp_skip ?_
 refine k7 _ _ ?_
 try clear k7 K7
 refine wp_seq_k (fun K8 k8=>?_)
 refine wp_block ?_
 refine wp_seq_k (fun K9 k9=>?_)
 refine rg [0,1,2,3,4,5] ?_
 refine sv 13 (.int .i64 0) ?_
 refine sv 14 (.pointer (some ⟨ab,0,none⟩)) ?_
 replace hL:=hL.gr g3
 refine sw 15 (.agg #[ak,aq,aE,aB]) rfl (rl 33 0 [ak,aq,aE,aB] hL) ?_
 refine se ?_
 refine ea 33 #[.bool false,.slice none 0 0,.bool false,.slice none 0 0] 5 hB fun di dB aR bK bU cZ hB=>?_
 have aT:=hL.ne bU
 have a8:=L3.ne bU
 simp only [p3,p4]
 refine sv 4 (.int .i64 0) ?_
 refine se ?_
 refine es 33 0 (.agg #[ak,aq,aE,aB]) [ak,aq,aE,aB] #[ak,aq,aE,aB] bK hB cZ ⟨aG.one0,aG.one1,aG.one2,aG.one3,trivial⟩ fun dc bj aM bK hB=>?_
 refine za0 ?_
 refine k9 _ _ ?_
 try clear k9 K9
 refine rg [0,1,2,3,4,5] ?_
 refine sv 16 (.slice (some ⟨b3,0,none⟩) 6 6) ?_
 refine sv 17 (.int .i64 0) ?_
 refine sw 18 (.agg #[ak,aq,aE,aB]) rfl (rl 33 0 [ak,aq,aE,aB] bK) ?_
 refine se ?_
 have bL:=g3.kp.trans (aR.kp.trans aM)
 replace aG:=aG.kp bL
 refine ec 19 (zh4 aG (by omega) (ht.gr hB)) ?_
 rintro e12 dw ⟨rfl,aS⟩
 refine ⟨_,rfl,?_⟩
 replace hB:=hB.trans aS
 simp only [p3,p4]
 refine sv 20 (.pointer (some ⟨b3,0,none⟩)) ?_
 refine se ?_
 replace L3:=(bj.lc (L3.gr aR) a8).gr aS
 refine es 61 0 (.string ⟨(za3 (a1):List UInt8).toArray⟩) [(.string ⟨(za3 (a1):List UInt8).toArray⟩)] #[(.string ⟨(za3 (a1):List UInt8).toArray⟩),(.string ⟨([]:List UInt8).toArray⟩),(.string ⟨([]:List UInt8).toArray⟩),(.string ⟨([]:List UInt8).toArray⟩),(.string ⟨([]:List UInt8).toArray⟩),(.string ⟨([]:List UInt8).toArray⟩)] L3 hB q3 ⟨rfl,trivial⟩ fun dx bt aN L3 hB=>?_
 refine za0 ?_
 refine k8 _ _ ?_
 try clear k8 K8
 refine rg [0,1] ?_
 refine sv 21 (.int .i64 1) ?_
 refine sv 11 (.int .i64 1) ?_
 refine za0 ?_
 show Code.rounds _ _ _ _ _ _
 show Code.wp _ _ _ _ _
 refine wp_seq_k (fun cY bQ=>?_)
 refine rg [0] ?_
 refine sv 12 (.bool true) ?_
 refine za0 ?_
 refine bQ _ _ ?_
 try clear bQ cY
 refine wp_seq_k (fun cn bR=>?_)
 refine wp_cond_true rfl ?_
 refine wp_skip ?_
 refine bR _ _ ?_
 try clear bR cn
 refine wp_seq_k (fun cX bS=>?_)
 refine wp_block ?_
 refine wp_seq_k (fun cG bW=>?_)
 refine rg [0,1,2,3,4,5] ?_
 refine sv 13 (.int .i64 1) ?_
 refine sv 14 (.pointer (some ⟨ab,4,none⟩)) ?_
 replace hL:=bt.lc ((bj.lc (hL.gr aR) aT).gr aS) aF
 refine sw 15 (.agg #[al,ad,ay,az]) rfl (rl 33 4 [al,ad,ay,az] hL) ?_
 refine se ?_
 refine ea 33 #[.bool false,.slice none 0 0,.bool false,.slice none 0 0] 5 hB fun df db a6 bD b4 cH hB=>?_
 have a0:=hL.ne b4
 have ba:=L3.ne b4
 simp only [p3,p4]
 refine sv 4 (.int .i64 1) ?_
 refine se ?_
 refine es 33 0 (.agg #[al,ad,ay,az]) [al,ad,ay,az] #[al,ad,ay,az] bD hB cH ⟨aK.one0,aK.one1,aK.one2,aK.one3,trivial⟩ fun dA bf aO bD hB=>?_
 refine za0 ?_
 refine bW _ _ ?_
 try clear bW cG
 refine rg [0,1,2,3,4,5] ?_
 refine sv 16 (.slice (some ⟨b3,0,none⟩) 6 6) ?_
 refine sv 17 (.int .i64 1) ?_
 refine sw 18 (.agg #[al,ad,ay,az]) rfl (rl 33 0 [al,ad,ay,az] bD) ?_
 refine se ?_
 have bC:=g3.kp.trans (aR.kp.trans (aM.trans (aS.kp.trans (aN.trans (a6.kp.trans aO)))))
 replace aK:=aK.kp bC
 refine ec 19 (zh4 aK (by omega) (ht.gr hB)) ?_
 rintro e21 dm ⟨rfl,aX⟩
 refine ⟨_,rfl,?_⟩
 replace hB:=hB.trans aX
 simp only [p3,p4]
 refine sv 20 (.pointer (some ⟨b3,1,none⟩)) ?_
 refine se ?_
 replace L3:=(bf.lc (L3.gr a6) ba).gr aX
 refine es 61 1 (.string ⟨(za3 (a2):List UInt8).toArray⟩) [(.string ⟨(za3 (a2):List UInt8).toArray⟩)] #[(.string ⟨(za3 (a1):List UInt8).toArray⟩),(.string ⟨(za3 (a2):List UInt8).toArray⟩),(.string ⟨([]:List UInt8).toArray⟩),(.string ⟨([]:List UInt8).toArray⟩),(.string ⟨([]:List UInt8).toArray⟩),(.string ⟨([]:List UInt8).toArray⟩)] L3 hB q3 ⟨rfl,trivial⟩ fun dh bw aP L3 hB=>?_
 refine za0 ?_
 refine bS _ _ ?_
 try clear bS cX
 refine rg [0,1] ?_
 refine sv 21 (.int .i64 2) ?_
 refine sv 11 (.int .i64 2) ?_
 refine za0 ?_
 show Code.rounds _ _ _ _ _ _
 show Code.wp _ _ _ _ _
 refine wp_seq_k (fun cR ck=>?_)
 refine rg [0] ?_
 refine sv 12 (.bool true) ?_
 refine za0 ?_
 refine ck _ _ ?_
 try clear ck cR
 refine wp_seq_k (fun cN cm=>?_)
 refine wp_cond_true rfl ?_
 refine wp_skip ?_
 refine cm _ _ ?_
 try clear cm cN
 refine wp_seq_k (fun cS b9=>?_)
 refine wp_block ?_
 refine wp_seq_k (fun cJ ch=>?_)
 refine rg [0,1,2,3,4,5] ?_
 refine sv 13 (.int .i64 2) ?_
 refine sv 14 (.pointer (some ⟨ab,8,none⟩)) ?_
 replace hL:=bw.lc ((bf.lc (hL.gr a6) a0).gr aX) aF
 refine sw 15 (.agg #[ax,aA,aj,ar]) rfl (rl 33 8 [ax,aA,aj,ar] hL) ?_
 refine se ?_
 refine ea 33 #[.bool false,.slice none 0 0,.bool false,.slice none 0 0] 5 hB fun dF dK bc bz cc cF hB=>?_
 have aV:=hL.ne cc
 have aU:=L3.ne cc
 simp only [p3,p4]
 refine sv 4 (.int .i64 2) ?_
 refine se ?_
 refine es 33 0 (.agg #[ax,aA,aj,ar]) [ax,aA,aj,ar] #[ax,aA,aj,ar] bz hB cF ⟨aI.one0,aI.one1,aI.one2,aI.one3,trivial⟩ fun dL bh aQ bz hB=>?_
 refine za0 ?_
 refine ch _ _ ?_
 try clear ch cJ
 refine rg [0,1,2,3,4,5] ?_
 refine sv 16 (.slice (some ⟨b3,0,none⟩) 6 6) ?_
 refine sv 17 (.int .i64 2) ?_
 refine sw 18 (.agg #[ax,aA,aj,ar]) rfl (rl 33 0 [ax,aA,aj,ar] bz) ?_
 refine se ?_
 have bG:=g3.kp.trans (aR.kp.trans (aM.trans (aS.kp.trans (aN.trans (a6.kp.trans (aO.trans (aX.kp.trans (aP.trans (bc.kp.trans aQ)))))))))
 replace aI:=aI.kp bG
 refine ec 19 (zh4 aI (by omega) (ht.gr hB)) ?_
 rintro c9 da ⟨rfl,bb⟩
 refine ⟨_,rfl,?_⟩
 replace hB:=hB.trans bb
 simp only [p3,p4]
 refine sv 20 (.pointer (some ⟨b3,2,none⟩)) ?_
 refine se ?_
 replace L3:=(bh.lc (L3.gr bc) aU).gr bb
 refine es 61 2 (.string ⟨(za3 (a3):List UInt8).toArray⟩) [(.string ⟨(za3 (a3):List UInt8).toArray⟩)] #[(.string ⟨(za3 (a1):List UInt8).toArray⟩),(.string ⟨(za3 (a2):List UInt8).toArray⟩),(.string ⟨(za3 (a3):List UInt8).toArray⟩),(.string ⟨([]:List UInt8).toArray⟩),(.string ⟨([]:List UInt8).toArray⟩),(.string ⟨([]:List UInt8).toArray⟩)] L3 hB q3 ⟨rfl,trivial⟩ fun dG bx a7 L3 hB=>?_
 refine za0 ?_
 refine b9 _ _ ?_
 try clear b9 cS
 refine rg [0,1] ?_
 refine sv 21 (.int .i64 3) ?_
 refine sv 11 (.int .i64 3) ?_
 refine za0 ?_
 show Code.rounds _ _ _ _ _ _
 show Code.wp _ _ _ _ _
 refine wp_seq_k (fun cE k33=>?_)
 refine rg [0] ?_
 refine sv 12 (.bool true) ?_
 refine za0 ?_
 refine k33 _ _ ?_
 try clear k33 cE
 refine wp_seq_k (fun cD bX=>?_)
 refine wp_cond_true rfl ?_
 refine wp_skip ?_
 refine bX _ _ ?_
 try clear bX cD
 refine wp_seq_k (fun cT bZ=>?_)
 refine wp_block ?_
 refine wp_seq_k (fun cP cg=>?_)
 refine rg [0,1,2,3,4,5] ?_
 refine sv 13 (.int .i64 3) ?_
 refine sv 14 (.pointer (some ⟨ab,12,none⟩)) ?_
 replace hL:=bx.lc ((bh.lc (hL.gr bc) aV).gr bb) aF
 refine sw 15 (.agg #[aD,ai,af,aC]) rfl (rl 33 12 [aD,ai,af,aC] hL) ?_
 refine se ?_
 refine ea 33 #[.bool false,.slice none 0 0,.bool false,.slice none 0 0] 5 hB fun dC de bn bM b8 cM hB=>?_
 have aZ:=hL.ne b8
 have aW:=L3.ne b8
 simp only [p3,p4]
 refine sv 4 (.int .i64 3) ?_
 refine se ?_
 refine es 33 0 (.agg #[aD,ai,af,aC]) [aD,ai,af,aC] #[aD,ai,af,aC] bM hB cM ⟨aJ.one0,aJ.one1,aJ.one2,aJ.one3,trivial⟩ fun dl bd a5 bM hB=>?_
 refine za0 ?_
 refine cg _ _ ?_
 try clear cg cP
 refine rg [0,1,2,3,4,5] ?_
 refine sv 16 (.slice (some ⟨b3,0,none⟩) 6 6) ?_
 refine sv 17 (.int .i64 3) ?_
 refine sw 18 (.agg #[aD,ai,af,aC]) rfl (rl 33 0 [aD,ai,af,aC] bM) ?_
 refine se ?_
 have bA:=g3.kp.trans (aR.kp.trans (aM.trans (aS.kp.trans (aN.trans (a6.kp.trans (aO.trans (aX.kp.trans (aP.trans (bc.kp.trans (aQ.trans (bb.kp.trans (a7.trans (bn.kp.trans a5)))))))))))))
 replace aJ:=aJ.kp bA
 refine ec 19 (zh4 aJ (by omega) (ht.gr hB)) ?_
 rintro dj dk ⟨rfl,bg⟩
 refine ⟨_,rfl,?_⟩
 replace hB:=hB.trans bg
 simp only [p3,p4]
 refine sv 20 (.pointer (some ⟨b3,3,none⟩)) ?_
 refine se ?_
 replace L3:=(bd.lc (L3.gr bn) aW).gr bg
 refine es 61 3 (.string ⟨(za3 (c1):List UInt8).toArray⟩) [(.string ⟨(za3 (c1):List UInt8).toArray⟩)] #[(.string ⟨(za3 (a1):List UInt8).toArray⟩),(.string ⟨(za3 (a2):List UInt8).toArray⟩),(.string ⟨(za3 (a3):List UInt8).toArray⟩),(.string ⟨(za3 (c1):List UInt8).toArray⟩),(.string ⟨([]:List UInt8).toArray⟩),(.string ⟨([]:List UInt8).toArray⟩)] L3 hB q3 ⟨rfl,trivial⟩ fun dJ bH bm L3 hB=>?_
 refine za0 ?_
 refine bZ _ _ ?_
 try clear bZ cT
 refine rg [0,1] ?_
 refine sv 21 (.int .i64 4) ?_
 refine sv 11 (.int .i64 4) ?_
 refine za0 ?_
 show Code.rounds _ _ _ _ _ _
 show Code.wp _ _ _ _ _
 refine wp_seq_k (fun co cl=>?_)
 refine rg [0] ?_
 refine sv 12 (.bool true) ?_
 refine za0 ?_
 refine cl _ _ ?_
 try clear cl co
 refine wp_seq_k (fun cq bO=>?_)
 refine wp_cond_true rfl ?_
 refine wp_skip ?_
 refine bO _ _ ?_
 try clear bO cq
 refine wp_seq_k (fun cV b7=>?_)
 refine wp_block ?_
 refine wp_seq_k (fun cC bV=>?_)
 refine rg [0,1,2,3,4,5] ?_
 refine sv 13 (.int .i64 4) ?_
 refine sv 14 (.pointer (some ⟨ab,16,none⟩)) ?_
 replace hL:=bH.lc ((bd.lc (hL.gr bn) aZ).gr bg) aF
 refine sw 15 (.agg #[ap,ae,ac,av]) rfl (rl 33 16 [ap,ae,ac,av] hL) ?_
 refine se ?_
 refine ea 33 #[.bool false,.slice none 0 0,.bool false,.slice none 0 0] 5 hB fun dt dv bo bq cd cy hB=>?_
 have a9:=hL.ne cd
 have a4:=L3.ne cd
 simp only [p3,p4]
 refine sv 4 (.int .i64 4) ?_
 refine se ?_
 refine es 33 0 (.agg #[ap,ae,ac,av]) [ap,ae,ac,av] #[ap,ae,ac,av] bq hB cy ⟨aL.one0,aL.one1,aL.one2,aL.one3,trivial⟩ fun dd bk bi bq hB=>?_
 refine za0 ?_
 refine bV _ _ ?_
 try clear bV cC
 refine rg [0,1,2,3,4,5] ?_
 refine sv 16 (.slice (some ⟨b3,0,none⟩) 6 6) ?_
 refine sv 17 (.int .i64 4) ?_
 refine sw 18 (.agg #[ap,ae,ac,av]) rfl (rl 33 0 [ap,ae,ac,av] bq) ?_
 refine se ?_
 have bu:=g3.kp.trans (aR.kp.trans (aM.trans (aS.kp.trans (aN.trans (a6.kp.trans (aO.trans (aX.kp.trans (aP.trans (bc.kp.trans (aQ.trans (bb.kp.trans (a7.trans (bn.kp.trans (a5.trans (bg.kp.trans (bm.trans (bo.kp.trans bi)))))))))))))))))
 replace aL:=aL.kp bu
 refine ec 19 (zh4 aL (by omega) (ht.gr hB)) ?_
 rintro dM dD ⟨rfl,bp⟩
 refine ⟨_,rfl,?_⟩
 replace hB:=hB.trans bp
 simp only [p3,p4]
 refine sv 20 (.pointer (some ⟨b3,4,none⟩)) ?_
 refine se ?_
 replace L3:=(bk.lc (L3.gr bo) a4).gr bp
 refine es 61 4 (.string ⟨(za3 (c2):List UInt8).toArray⟩) [(.string ⟨(za3 (c2):List UInt8).toArray⟩)] #[(.string ⟨(za3 (a1):List UInt8).toArray⟩),(.string ⟨(za3 (a2):List UInt8).toArray⟩),(.string ⟨(za3 (a3):List UInt8).toArray⟩),(.string ⟨(za3 (c1):List UInt8).toArray⟩),(.string ⟨(za3 (c2):List UInt8).toArray⟩),(.string ⟨([]:List UInt8).toArray⟩)] L3 hB q3 ⟨rfl,trivial⟩ fun dH bB bv L3 hB=>?_
 refine za0 ?_
 refine b7 _ _ ?_
 try clear b7 cV
 refine rg [0,1] ?_
 refine sv 21 (.int .i64 5) ?_
 refine sv 11 (.int .i64 5) ?_
 refine za0 ?_
 show Code.rounds _ _ _ _ _ _
 show Code.wp _ _ _ _ _
 refine wp_seq_k (fun cK b5=>?_)
 refine rg [0] ?_
 refine sv 12 (.bool true) ?_
 refine za0 ?_
 refine b5 _ _ ?_
 try clear b5 cK
 refine wp_seq_k (fun cx bP=>?_)
 refine wp_cond_true rfl ?_
 refine wp_skip ?_
 refine bP _ _ ?_
 try clear bP cx
 refine wp_seq_k (fun cQ bT=>?_)
 refine wp_block ?_
 refine wp_seq_k (fun cA ce=>?_)
 refine rg [0,1,2,3,4,5] ?_
 refine sv 13 (.int .i64 5) ?_
 refine sv 14 (.pointer (some ⟨ab,20,none⟩)) ?_
 replace hL:=bB.lc ((bk.lc (hL.gr bo) a9).gr bp) aF
 refine sw 15 (.agg #[au,aw,aa,ah]) rfl (rl 33 20 [au,aw,aa,ah] hL) ?_
 refine se ?_
 refine ea 33 #[.bool false,.slice none 0 0,.bool false,.slice none 0 0] 5 hB fun du dq bY bN cL cu hB=>?_
 have aY:=L3.ne cL
 simp only [p3,p4]
 refine sv 4 (.int .i64 5) ?_
 refine se ?_
 refine es 33 0 (.agg #[au,aw,aa,ah]) [au,aw,aa,ah] #[au,aw,aa,ah] bN hB cu ⟨aH.one0,aH.one1,aH.one2,aH.one3,trivial⟩ fun dN bF bE bN hB=>?_
 refine za0 ?_
 refine ce _ _ ?_
 try clear ce cA
 refine rg [0,1,2,3,4,5] ?_
 refine sv 16 (.slice (some ⟨b3,0,none⟩) 6 6) ?_
 refine sv 17 (.int .i64 5) ?_
 refine sw 18 (.agg #[au,aw,aa,ah]) rfl (rl 33 0 [au,aw,aa,ah] bN) ?_
 refine se ?_
 have bJ:=g3.kp.trans (aR.kp.trans (aM.trans (aS.kp.trans (aN.trans (a6.kp.trans (aO.trans (aX.kp.trans (aP.trans (bc.kp.trans (aQ.trans (bb.kp.trans (a7.trans (bn.kp.trans (a5.trans (bg.kp.trans (bm.trans (bo.kp.trans (bi.trans (bp.kp.trans (bv.trans (bY.kp.trans bE)))))))))))))))))))))
 replace aH:=aH.kp bJ
 refine ec 19 (zh4 aH (by omega) (ht.gr hB)) ?_
 rintro dp dI ⟨rfl,ca⟩
 refine ⟨_,rfl,?_⟩
 replace hB:=hB.trans ca
 simp only [p3,p4]
 refine sv 20 (.pointer (some ⟨b3,5,none⟩)) ?_
 refine se ?_
 replace L3:=(bF.lc (L3.gr bY) aY).gr ca
 refine es 61 5 (.string ⟨(za3 (c3):List UInt8).toArray⟩) [(.string ⟨(za3 (c3):List UInt8).toArray⟩)] #[(.string ⟨(za3 (a1):List UInt8).toArray⟩),(.string ⟨(za3 (a2):List UInt8).toArray⟩),(.string ⟨(za3 (a3):List UInt8).toArray⟩),(.string ⟨(za3 (c1):List UInt8).toArray⟩),(.string ⟨(za3 (c2):List UInt8).toArray⟩),(.string ⟨(za3 (c3):List UInt8).toArray⟩)] L3 hB q3 ⟨rfl,trivial⟩ fun dE cB cU L3 hB=>?_
 refine za0 ?_
 refine bT _ _ ?_
 try clear bT cQ
 refine rg [0,1] ?_
 refine sv 21 (.int .i64 6) ?_
 refine sv 11 (.int .i64 6) ?_
 refine za0 ?_
 show Code.rounds _ _ _ _ _ _
 show Code.wp _ _ _ _ _
 refine wp_seq_k (fun cO b6=>?_)
 refine rg [0] ?_
 refine sv 12 (.bool false) ?_
 refine za0 ?_
 refine b6 _ _ ?_
 try clear b6 cO
 refine wp_seq_k (fun dy dn=>?_)
 refine wp_cond_false rfl ?_
 refine wp_exit ?_
 simp only [Exit.then,Exit.inBlock,↓reduceIte]
 refine k4 _ _ ?_
 try clear k4 K4
 refine wp_seq_k (fun cW cj=>?_)
 refine rg [0,1] ?_
 refine sv 22 (.slice (some ⟨b3,0,none⟩) 6 6) ?_
 refine sv 2 (.slice (some ⟨b3,0,none⟩) 6 6) ?_
 refine za0 ?_
 refine cj _ _ ?_
 try clear cj cW
 refine wp_ret ?_
 refine bodyPost_ret (v:=(.slice (some ⟨b3,0,none⟩) 6 6)) (zb6 rfl rfl) rfl ⟨?_,hB⟩
 exact ⟨_,rfl,L3,q3⟩

set_option maxRecDepth 100000 in
set_option maxHeartbeats 1000000 in
theorem zP4 {k m:Nat} {aj ap aD aA ak ac ax ay aw az ai aq:Value} {a1 a2 a3:Rat} {aC ah ae aB al ad ab au ar av aa af:Value} {c1 c2 c3:Rat} {w:World} (aE:IsRat w k aj ap aD aA a1) (aI:IsRat w k ak ac ax ay a2) (aG:IsRat w k aw az ai aq a3) (aH:IsRat w m aC ah ae aB c1) (aJ:IsRat w m al ad ab au c2) (aF:IsRat w m ar av aa af c3) (_hk:k+m≤25000) (ht:Tab w):
    Calls Tryz.prog 28 #[(.agg #[aj,ap,aD,aA,ak,ac,ax,ay,aw,az,ai,aq,aC,ah,ae,aB,al,ad,ab,au,ar,av,aa,af])] w fun e w'=>e=.returned (.agg #[.string ⟨(za3 (a1)).toArray⟩,.string ⟨(za3 (a2)).toArray⟩,.string ⟨(za3 (a3)).toArray⟩,.string ⟨(za3 (c1)).toArray⟩,.string ⟨(za3 (c2)).toArray⟩,.string ⟨(za3 (c3)).toArray⟩])∧Gr w w':=by
 go_enter Tryz.func28,Tryz.ntmps28
 have hB:=Gr.refl w
 refine wp_seq_k (fun K1 k1=>?_)
 refine rg [0,1] ?_
 refine se ?_
 refine eb 42 #[aj,ap,aD,aA,ak,ac,ax,ay,aw,az,ai,aq,aC,ah,ae,aB,al,ad,ab,au,ar,av,aa,af] 1 hB fun b2 w2 g2 L2 o2 q2 hB=>?_
 simp only [p3,p4]
 refine se ?_
 refine ea 63 #[(.string ⟨([]:List UInt8).toArray⟩),(.string ⟨([]:List UInt8).toArray⟩),(.string ⟨([]:List UInt8).toArray⟩),(.string ⟨([]:List UInt8).toArray⟩),(.string ⟨([]:List UInt8).toArray⟩),(.string ⟨([]:List UInt8).toArray⟩)] 2 hB fun b3 w3 g3 L3 o3 q3 hB=>?_
 simp only [p3,p4]
 refine za0 ?_
 refine k1 _ _ ?_
 try clear k1 K1
 refine wp_seq_k (fun K4 k4=>?_)
 refine rg [0,1,2,3,4,5,6,7,8] ?_
 refine sv 3 (.pointer (some ⟨b2,0,none⟩)) ?_
 replace L2:=L2.gr g3
 refine sw 4 (.agg #[aj,ap,aD,aA,ak,ac,ax,ay,aw,az,ai,aq]) rfl (rl 35 0 [aj,ap,aD,aA,ak,ac,ax,ay,aw,az,ai,aq] L2) ?_
 refine sv 5 (.pointer (some ⟨b2,12,none⟩)) ?_
 refine sw 6 (.agg #[aC,ah,ae,aB,al,ad,ab,au,ar,av,aa,af]) rfl (rl 35 12 [aC,ah,ae,aB,al,ad,ab,au,ar,av,aa,af] L2) ?_
 refine se ?_
 have aK:=g2.kp.trans g3.kp
 replace aE:=aE.kp aK
 replace aI:=aI.kp aK
 replace aG:=aG.kp aK
 replace aH:=aH.kp aK
 replace aJ:=aJ.kp aK
 replace aF:=aF.kp aK
 refine ec 7 (joined_v aE aI aG aH aJ aF (by omega)) ?_
 rintro e5 w5 ⟨⟨b5,a9,bg,a7,ba,a0,a8,bd,bb,bi,a4,aY,aW,aS,aQ,aL,aO,aX,aP,aU,aR,aN,aT,aV,aM,rfl,L5,q5,a5,bh,bf,a6,bc,aZ⟩,g5⟩
 refine ⟨_,rfl,?_⟩
 replace hB:=hB.trans g5
 simp only [p3,p4]
 refine se ?_
 refine ec 8 (zP3 a5 bh bf a6 bc aZ (by omega) L5 (ht.gr hB)) ?_
 rintro e7 w7 ⟨⟨b7,rfl,L7,q7⟩,g7⟩
 refine ⟨_,rfl,?_⟩
 replace L3:=L3.gr g5
 replace hB:=hB.trans g7
 simp only [p3,p4]
 refine sv 9 (.pointer (some ⟨b7,0,none⟩)) ?_
 refine sw 10 (.agg #[(.string ⟨(za3 (a1):List UInt8).toArray⟩),(.string ⟨(za3 (a2):List UInt8).toArray⟩),(.string ⟨(za3 (a3):List UInt8).toArray⟩),(.string ⟨(za3 (c1):List UInt8).toArray⟩),(.string ⟨(za3 (c2):List UInt8).toArray⟩),(.string ⟨(za3 (c3):List UInt8).toArray⟩)]) rfl (rl 63 0 [(.string ⟨(za3 (a1):List UInt8).toArray⟩),(.string ⟨(za3 (a2):List UInt8).toArray⟩),(.string ⟨(za3 (a3):List UInt8).toArray⟩),(.string ⟨(za3 (c1):List UInt8).toArray⟩),(.string ⟨(za3 (c2):List UInt8).toArray⟩),(.string ⟨(za3 (c3):List UInt8).toArray⟩)] L7) ?_
 refine se ?_
 replace L3:=L3.gr g7
 refine es 63 0 (.agg #[(.string ⟨(za3 (a1):List UInt8).toArray⟩),(.string ⟨(za3 (a2):List UInt8).toArray⟩),(.string ⟨(za3 (a3):List UInt8).toArray⟩),(.string ⟨(za3 (c1):List UInt8).toArray⟩),(.string ⟨(za3 (c2):List UInt8).toArray⟩),(.string ⟨(za3 (c3):List UInt8).toArray⟩)]) [(.string ⟨(za3 (a1):List UInt8).toArray⟩),(.string ⟨(za3 (a2):List UInt8).toArray⟩),(.string ⟨(za3 (a3):List UInt8).toArray⟩),(.string ⟨(za3 (c1):List UInt8).toArray⟩),(.string ⟨(za3 (c2):List UInt8).toArray⟩),(.string ⟨(za3 (c3):List UInt8).toArray⟩)] #[(.string ⟨(za3 (a1):List UInt8).toArray⟩),(.string ⟨(za3 (a2):List UInt8).toArray⟩),(.string ⟨(za3 (a3):List UInt8).toArray⟩),(.string ⟨(za3 (c1):List UInt8).toArray⟩),(.string ⟨(za3 (c2):List UInt8).toArray⟩),(.string ⟨(za3 (c3):List UInt8).toArray⟩)] L3 hB q3 ⟨rfl,rfl,rfl,rfl,rfl,rfl,trivial⟩ fun w8 bk bj L3 hB=>?_
 refine za0 ?_
 refine k4 _ _ ?_
 try clear k4 K4
 refine wp_ret ?_
 refine bodyPost_ret (v:=(.agg #[(.string ⟨(za3 (a1):List UInt8).toArray⟩),(.string ⟨(za3 (a2):List UInt8).toArray⟩),(.string ⟨(za3 (a3):List UInt8).toArray⟩),(.string ⟨(za3 (c1):List UInt8).toArray⟩),(.string ⟨(za3 (c2):List UInt8).toArray⟩),(.string ⟨(za3 (c3):List UInt8).toArray⟩)])) (za6 _ _ _ rfl rfl L3 (by kernel_rfl)) rfl ⟨?_,hB⟩
 exact rfl

set_option maxRecDepth 100000 in
set_option maxHeartbeats 4000000 in
theorem zT6 (w:World) (hm:Mx w):
    Calls Tryz.prog 57 #[] w fun e w'=>(∃ v,e=.returned v∧Sl EQ4 111 4 w' v quarters)∧Gr w w':=by
 go_enter Tryz.func57,Tryz.ntmps57
 have hB:=Gr.refl w
 refine wp_seq_k (fun K1 k1=>?_)
 refine rg [0] ?_
 refine sv 0 (.slice none 0 0) ?_
 refine za0 ?_
 refine k1 _ _ ?_
 try clear k1 K1
 refine wp_seq_k (fun K2 k2=>?_)
 refine rg [0] ?_
 refine sv 1 (.slice none 0 0) ?_
 refine za0 ?_
 refine k2 _ _ ?_
 try clear k2 K2
 refine wp_seq_k (fun K3 k3=>?_)
 refine wp_seq_k (fun K4 k4=>?_)
 refine rg [0] ?_
 refine sv 7 (.int .i64 0) ?_
 refine za0 ?_
 refine k4 _ _ ?_
 try clear k4 K4
 refine wp_block ?_
 refine zl6 (a:=⟨List.toArray ?l5,[]⟩) (fun n a w'=>∃ (v:Value) (nn:Nat) (u5:Nat→Value),81 - nn=n∧a=⟨[.slice none 0 0,v,(u5 2),(u5 3),(u5 4),undef,(u5 6),(.int .i64 ((nn:Int))),(u5 8),(u5 9),(u5 10),(u5 11),(u5 12),(u5 13),(u5 14),(u5 15),(u5 16),(u5 17),(u5 18),(u5 19),(u5 20),(u5 21),(u5 22),(u5 23),(u5 24),(u5 25),(u5 26),(u5 27),(u5 28),(u5 29),(u5 30),(u5 31),(u5 32),(u5 33),(u5 34),(u5 35),(u5 36),(u5 37),(u5 38),(u5 39),(u5 40),(u5 41),(u5 42),(u5 43),(u5 44),(u5 45),(u5 46),(u5 47),(u5 48),undef].toArray,[]⟩∧nn≤81∧Ow EQ4 111 4 w' w.heap.size v (zu5 nn)∧Gr w w') (81 - 0) ?_ ?_
 ·exact ⟨_,0,(fun i=>List.getD ?l5 i undef),rfl,rfl,(by omega),(Ow.nil _ _ _ _ _),hB⟩
 rintro n5 a5 w5 ⟨v,nn,u5,rfl,rfl,hnn,hv,hB⟩ K5 k5
 refine wp_seq_k (fun K6 k6=>?_)
 refine rg [0] ?_
 refine sv 8 (.bool (decide ((nn:Int)<(81:Int)))) ?_
 refine za0 ?_
 refine k6 _ _ ?_
 try clear k6 K6
 refine wp_seq_k (fun K7 k7=>?_)
 refine wp_cond_split (t:=decide ((nn:Int)<(81:Int))) rfl (fun ap=>?_) (fun ap=>?_)
 ·have hlt:nn<81:=by have:=of_decide_eq_true ap;omega
  refine wp_skip ?_
  refine k7 _ _ ?_
  try clear k7 K7
  refine wp_seq_k (fun K9 k9=>?_)
  refine wp_block ?_
  refine wp_seq_k (fun a0 aD=>?_)
  refine rg [0,1] ?_
  refine sv 9 (.int .i64 ((nn:Int))) ?_
  refine sv 2 (.int .i64 ((nn:Int))) ?_
  refine za0 ?_
  refine aD _ _ ?_
  try clear aD a0
  refine wp_seq_k (fun aT k11=>?_)
  refine rg [0,1,2,3,4,5,6,7,8,9,10,11,12,13,14,15,16] ?_
  refine sv 10 (.int .i64 ((nn:Int))) ?_
  refine sw 11 (.int .i64 (((nn:Int)/27))) rfl (zY0 3 3 _ _ (nn:Int) 27 ((nn:Int)/27) rfl rfl rfl (Int.tdiv_eq_ediv_of_nonneg (by omega)) (by omega) (by omega) (by omega)) ?_
  refine sw 12 (.int .i64 ((((nn:Int)/27) - 1))) rfl (RunV.int (x:=IntKind.i64.wrap ((((nn:Int)/27) - 1))) (y:=(((nn:Int)/27) - 1)) (rvk (by kernel_rfl)) (by first | rfl | (rw [IntKind.wrap_i64];omega))) ?_
  refine sv 13 (.int .i64 ((nn:Int))) ?_
  refine sw 14 (.int .i64 (((nn:Int)/9))) rfl (zY0 3 3 _ _ (nn:Int) 9 ((nn:Int)/9) rfl rfl rfl (Int.tdiv_eq_ediv_of_nonneg (by omega)) (by omega) (by omega) (by omega)) ?_
  refine sw 15 (.int .i64 ((((nn:Int)/9) % 3))) rfl (RunV.int (x:=Int.tmod (((nn:Int)/9)) 3) (y:=((nn:Int)/9) % 3) (rvk (by kernel_rfl)) (by rw [Int.tmod_eq_emod_of_nonneg (by first | omega | exact Int.natCast_nonneg _)])) ?_
  refine sw 16 (.int .i64 (((((nn:Int)/9) % 3) - 1))) rfl (RunV.int (x:=IntKind.i64.wrap (((((nn:Int)/9) % 3) - 1))) (y:=((((nn:Int)/9) % 3) - 1)) (rvk (by kernel_rfl)) (by first | rfl | (rw [IntKind.wrap_i64];omega))) ?_
  refine sv 17 (.int .i64 ((nn:Int))) ?_
  refine sw 18 (.int .i64 (((nn:Int)/3))) rfl (zY0 3 3 _ _ (nn:Int) 3 ((nn:Int)/3) rfl rfl rfl (Int.tdiv_eq_ediv_of_nonneg (by omega)) (by omega) (by omega) (by omega)) ?_
  refine sw 19 (.int .i64 ((((nn:Int)/3) % 3))) rfl (RunV.int (x:=Int.tmod (((nn:Int)/3)) 3) (y:=((nn:Int)/3) % 3) (rvk (by kernel_rfl)) (by rw [Int.tmod_eq_emod_of_nonneg (by first | omega | exact Int.natCast_nonneg _)])) ?_
  refine sw 20 (.int .i64 (((((nn:Int)/3) % 3) - 1))) rfl (RunV.int (x:=IntKind.i64.wrap (((((nn:Int)/3) % 3) - 1))) (y:=((((nn:Int)/3) % 3) - 1)) (rvk (by kernel_rfl)) (by first | rfl | (rw [IntKind.wrap_i64];omega))) ?_
  refine sv 21 (.int .i64 ((nn:Int))) ?_
  refine sw 22 (.int .i64 (((nn:Int) % 3))) rfl (RunV.int (x:=Int.tmod ((nn:Int)) 3) (y:=(nn:Int) % 3) (rvk (by kernel_rfl)) (by rw [Int.tmod_eq_emod_of_nonneg (by first | omega | exact Int.natCast_nonneg _)])) ?_
  refine sw 23 (.int .i64 ((((nn:Int) % 3) - 1))) rfl (RunV.int (x:=IntKind.i64.wrap ((((nn:Int) % 3) - 1))) (y:=(((nn:Int) % 3) - 1)) (rvk (by kernel_rfl)) (by first | rfl | (rw [IntKind.wrap_i64];omega))) ?_
  refine sv 24 (.agg #[(.int .i64 ((((nn:Int)/27) - 1))),(.int .i64 (((((nn:Int)/9) % 3) - 1))),(.int .i64 (((((nn:Int)/3) % 3) - 1))),(.int .i64 ((((nn:Int) % 3) - 1)))]) ?_
  refine se ?_
  refine ea 111 #[.int .i64 0,.int .i64 0,.int .i64 0,.int .i64 0] 3 hB fun bx bA ak ac bd a1 hB=>?_
  have aa:=hv.ne bd
  simp only [p3,p4]
  refine se ?_
  have ae:=ac
  refine es 111 0 (.agg #[(.int .i64 ((((nn:Int)/27) - 1))),(.int .i64 (((((nn:Int)/9) % 3) - 1))),(.int .i64 (((((nn:Int)/3) % 3) - 1))),(.int .i64 ((((nn:Int) % 3) - 1)))]) [(.int .i64 ((((nn:Int)/27) - 1))),(.int .i64 (((((nn:Int)/9) % 3) - 1))),(.int .i64 (((((nn:Int)/3) % 3) - 1))),(.int .i64 ((((nn:Int) % 3) - 1)))] #[(.int .i64 ((((nn:Int)/27) - 1))),(.int .i64 (((((nn:Int)/9) % 3) - 1))),(.int .i64 (((((nn:Int)/3) % 3) - 1))),(.int .i64 ((((nn:Int) % 3) - 1)))] ac hB a1 ⟨rfl,rfl,rfl,rfl,trivial⟩ fun bG ab bb ac hB=>?_
  refine za0 ?_
  refine k11 _ _ ?_
  try clear k11 aT
  refine wp_seq_k (fun bc aC=>?_)
  generalize ba:((((nn:Int)/27) - 1):Int)=qx0 at*
  generalize aX:(((((nn:Int)/9) % 3) - 1):Int)=qx1 at*
  generalize aR:(((((nn:Int)/3) % 3) - 1):Int)=qx2 at*
  generalize bo:((((nn:Int) % 3) - 1):Int)=qx3 at*
  have bE:-1≤qx0∧qx0≤1:=by omega
  have bp:=zr8 (a:=qx0) (b:=1) (by omega) (by omega)
  have bq:-1≤qx1∧qx1≤1:=by omega
  have bH:=zr8 (a:=qx1) (b:=1) (by omega) (by omega)
  have bw:-1≤qx2∧qx2≤1:=by omega
  have bB:=zr8 (a:=qx2) (b:=1) (by omega) (by omega)
  have bt:-1≤qx3∧qx3≤1:=by omega
  have bz:=zr8 (a:=qx3) (b:=1) (by omega) (by omega)
  have hqa:qAt nn=(qx0,qx1,qx2,qx3):=by unfold qAt;rw [ba,aX,aR,bo]
  refine rg [0] ?_
  refine sv 4 (.int .i64 0) ?_
  refine za0 ?_
  refine aC _ _ ?_
  try clear aC bc
  refine wp_seq_k (fun aO av=>?_)
  refine wp_seq_k (fun bm aw=>?_)
  refine rg [0,1] ?_
  refine sw 25 (.agg #[(.int .i64 (qx0)),(.int .i64 (qx1)),(.int .i64 (qx2)),(.int .i64 (qx3))]) rfl (rl 111 0 [(.int .i64 (qx0)),(.int .i64 (qx1)),(.int .i64 (qx2)),(.int .i64 (qx3))] ac) ?_
  refine sv 26 (.int .i64 0) ?_
  refine za0 ?_
  refine aw _ _ ?_
  try clear aw bm
  refine wp_block ?_
  refine wp_loop_rounds 6 ?_
  show Code.wp _ _ _ _ _
  refine wp_seq_k (fun a7 ay=>?_)
  refine rg [0] ?_
  refine sv 27 (.bool true) ?_
  refine za0 ?_
  refine ay _ _ ?_
  try clear ay a7
  refine wp_seq_k (fun aV aB=>?_)
  refine wp_cond_true rfl ?_
  refine wp_skip ?_
  refine aB _ _ ?_
  try clear aB aV
  refine wp_seq_k (fun a3 au=>?_)
  refine wp_block ?_
  refine wp_seq_k (fun aZ ar=>?_)
  refine rg [0,1] ?_
  refine sv 28 (.int .i64 (qx0)) ?_
  refine sv 6 (.int .i64 (qx0)) ?_
  refine za0 ?_
  refine ar _ _ ?_
  try clear ar aZ
  refine rg [0,1,2,3,4,5] ?_
  refine sv 29 (.int .i64 0) ?_
  refine sv 30 (.int .i64 (qx0)) ?_
  refine sv 31 (.int .i64 (qx0)) ?_
  refine sw 32 (.int .i64 ((qx0*qx0))) rfl (RunV.int (x:=IntKind.i64.wrap ((qx0*qx0))) (y:=(qx0*qx0)) (rvk (by kernel_rfl)) (by first | rfl | (rw [IntKind.wrap_i64];omega))) ?_
  refine sw 33 (.int .i64 ((0+(qx0*qx0)))) rfl (RunV.int (x:=IntKind.i64.wrap ((0+(qx0*qx0)))) (y:=(0+(qx0*qx0))) (rvk (by kernel_rfl)) (by first | rfl | (rw [IntKind.wrap_i64];omega))) ?_
  refine sv 4 (.int .i64 ((0+(qx0*qx0)))) ?_
  refine za0 ?_
  refine au _ _ ?_
  try clear au a3
  refine rg [0,1] ?_
  refine sv 34 (.int .i64 1) ?_
  refine sv 26 (.int .i64 1) ?_
  refine za0 ?_
  show Code.rounds _ _ _ _ _ _
  show Code.wp _ _ _ _ _
  refine wp_seq_k (fun a9 k22=>?_)
  refine rg [0] ?_
  refine sv 27 (.bool true) ?_
  refine za0 ?_
  refine k22 _ _ ?_
  try clear k22 a9
  refine wp_seq_k (fun aP k23=>?_)
  refine wp_cond_true rfl ?_
  refine wp_skip ?_
  refine k23 _ _ ?_
  try clear k23 aP
  refine wp_seq_k (fun bh aK=>?_)
  refine wp_block ?_
  refine wp_seq_k (fun bf aN=>?_)
  refine rg [0,1] ?_
  refine sv 28 (.int .i64 (qx1)) ?_
  refine sv 6 (.int .i64 (qx1)) ?_
  refine za0 ?_
  refine aN _ _ ?_
  try clear aN bf
  refine rg [0,1,2,3,4,5] ?_
  refine sv 29 (.int .i64 ((0+(qx0*qx0)))) ?_
  refine sv 30 (.int .i64 (qx1)) ?_
  refine sv 31 (.int .i64 (qx1)) ?_
  refine sw 32 (.int .i64 ((qx1*qx1))) rfl (RunV.int (x:=IntKind.i64.wrap ((qx1*qx1))) (y:=(qx1*qx1)) (rvk (by kernel_rfl)) (by first | rfl | (rw [IntKind.wrap_i64];omega))) ?_
  refine sw 33 (.int .i64 (((0+(qx0*qx0))+(qx1*qx1)))) rfl (RunV.int (x:=IntKind.i64.wrap (((0+(qx0*qx0))+(qx1*qx1)))) (y:=((0+(qx0*qx0))+(qx1*qx1))) (rvk (by kernel_rfl)) (by first | rfl | (rw [IntKind.wrap_i64];omega))) ?_
  refine sv 4 (.int .i64 (((0+(qx0*qx0))+(qx1*qx1)))) ?_
  refine za0 ?_
  refine aK _ _ ?_
  try clear aK bh
  refine rg [0,1] ?_
  refine sv 34 (.int .i64 2) ?_
  refine sv 26 (.int .i64 2) ?_
  refine za0 ?_
  show Code.rounds _ _ _ _ _ _
  show Code.wp _ _ _ _ _
  refine wp_seq_k (fun bi aF=>?_)
  refine rg [0] ?_
  refine sv 27 (.bool true) ?_
  refine za0 ?_
  refine aF _ _ ?_
  try clear aF bi
  refine wp_seq_k (fun a8 aI=>?_)
  refine wp_cond_true rfl ?_
  refine wp_skip ?_
  refine aI _ _ ?_
  try clear aI a8
  refine wp_seq_k (fun aY az=>?_)
  refine wp_block ?_
  refine wp_seq_k (fun bj aM=>?_)
  refine rg [0,1] ?_
  refine sv 28 (.int .i64 (qx2)) ?_
  refine sv 6 (.int .i64 (qx2)) ?_
  refine za0 ?_
  refine aM _ _ ?_
  try clear aM bj
  refine rg [0,1,2,3,4,5] ?_
  refine sv 29 (.int .i64 (((0+(qx0*qx0))+(qx1*qx1)))) ?_
  refine sv 30 (.int .i64 (qx2)) ?_
  refine sv 31 (.int .i64 (qx2)) ?_
  refine sw 32 (.int .i64 ((qx2*qx2))) rfl (RunV.int (x:=IntKind.i64.wrap ((qx2*qx2))) (y:=(qx2*qx2)) (rvk (by kernel_rfl)) (by first | rfl | (rw [IntKind.wrap_i64];omega))) ?_
  refine sw 33 (.int .i64 ((((0+(qx0*qx0))+(qx1*qx1))+(qx2*qx2)))) rfl (RunV.int (x:=IntKind.i64.wrap ((((0+(qx0*qx0))+(qx1*qx1))+(qx2*qx2)))) (y:=(((0+(qx0*qx0))+(qx1*qx1))+(qx2*qx2))) (rvk (by kernel_rfl)) (by first | rfl | (rw [IntKind.wrap_i64];omega))) ?_
  refine sv 4 (.int .i64 ((((0+(qx0*qx0))+(qx1*qx1))+(qx2*qx2)))) ?_
  refine za0 ?_
  refine az _ _ ?_
  try clear az aY
  refine rg [0,1] ?_
  refine sv 34 (.int .i64 3) ?_
  refine sv 26 (.int .i64 3) ?_
  refine za0 ?_
  show Code.rounds _ _ _ _ _ _
  show Code.wp _ _ _ _ _
  refine wp_seq_k (fun aS aL=>?_)
  refine rg [0] ?_
  refine sv 27 (.bool true) ?_
  refine za0 ?_
  refine aL _ _ ?_
  try clear aL aS
  refine wp_seq_k (fun aQ aJ=>?_)
  refine wp_cond_true rfl ?_
  refine wp_skip ?_
  refine aJ _ _ ?_
  try clear aJ aQ
  refine wp_seq_k (fun bg aG=>?_)
  refine wp_block ?_
  refine wp_seq_k (fun a4 k33=>?_)
  refine rg [0,1] ?_
  refine sv 28 (.int .i64 (qx3)) ?_
  refine sv 6 (.int .i64 (qx3)) ?_
  refine za0 ?_
  refine k33 _ _ ?_
  try clear k33 a4
  refine rg [0,1,2,3,4,5] ?_
  refine sv 29 (.int .i64 ((((0+(qx0*qx0))+(qx1*qx1))+(qx2*qx2)))) ?_
  refine sv 30 (.int .i64 (qx3)) ?_
  refine sv 31 (.int .i64 (qx3)) ?_
  refine sw 32 (.int .i64 ((qx3*qx3))) rfl (RunV.int (x:=IntKind.i64.wrap ((qx3*qx3))) (y:=(qx3*qx3)) (rvk (by kernel_rfl)) (by first | rfl | (rw [IntKind.wrap_i64];omega))) ?_
  refine sw 33 (.int .i64 (((((0+(qx0*qx0))+(qx1*qx1))+(qx2*qx2))+(qx3*qx3)))) rfl (RunV.int (x:=IntKind.i64.wrap (((((0+(qx0*qx0))+(qx1*qx1))+(qx2*qx2))+(qx3*qx3)))) (y:=((((0+(qx0*qx0))+(qx1*qx1))+(qx2*qx2))+(qx3*qx3))) (rvk (by kernel_rfl)) (by first | rfl | (rw [IntKind.wrap_i64];omega))) ?_
  refine sv 4 (.int .i64 (((((0+(qx0*qx0))+(qx1*qx1))+(qx2*qx2))+(qx3*qx3)))) ?_
  refine za0 ?_
  refine aG _ _ ?_
  try clear aG bg
  refine rg [0,1] ?_
  refine sv 34 (.int .i64 4) ?_
  refine sv 26 (.int .i64 4) ?_
  refine za0 ?_
  show Code.rounds _ _ _ _ _ _
  show Code.wp _ _ _ _ _
  refine wp_seq_k (fun a2 aA=>?_)
  refine rg [0] ?_
  refine sv 27 (.bool false) ?_
  refine za0 ?_
  refine aA _ _ ?_
  try clear aA a2
  refine wp_seq_k (fun bC bv=>?_)
  refine wp_cond_false rfl ?_
  refine wp_exit ?_
  simp only [Exit.then,Exit.inBlock,↓reduceIte]
  refine av _ _ ?_
  try clear av aO
  refine wp_seq_k (fun aH ah=>?_)
  refine rg [0,1,2,3,4,5,6,7,8] ?_
  refine sv 35 (.int .i64 (((((0+(qx0*qx0))+(qx1*qx1))+(qx2*qx2))+(qx3*qx3)))) ?_
  refine sv 36 (.bool ((((((0+(qx0*qx0))+(qx1*qx1))+(qx2*qx2))+(qx3*qx3)) !=(3:Int)))) ?_
  rcases Bool.eq_false_or_eq_true ((((((0+(qx0*qx0))+(qx1*qx1))+(qx2*qx2))+(qx3*qx3)) !=(3:Int))) with hb37 | hb37
  ·refine sw 37 (.bool true) rfl (RunV.bool (x:=(((((0+(qx0*qx0))+(qx1*qx1))+(qx2*qx2))+(qx3*qx3)) !=(3:Int))) (rvk (by kernel_rfl)) hb37) ?_
   refine sw 38 (.agg #[(.int .i64 (qx0)),(.int .i64 (qx1)),(.int .i64 (qx2)),(.int .i64 (qx3))]) rfl (rl 111 0 [(.int .i64 (qx0)),(.int .i64 (qx1)),(.int .i64 (qx2)),(.int .i64 (qx3))] ac) ?_
   refine sv 39 (.agg #[(.string ⟨([48]:List UInt8).toArray⟩),(.string ⟨([48]:List UInt8).toArray⟩),(.string ⟨([48]:List UInt8).toArray⟩)]) ?_
   refine sv 40 (.agg #[(.int .i64 (qx0)),(.int .i64 (qx1)),(.int .i64 (qx2)),(.int .i64 (qx3)),(.string ⟨([48]:List UInt8).toArray⟩),(.string ⟨([48]:List UInt8).toArray⟩),(.string ⟨([48]:List UInt8).toArray⟩)]) ?_
   refine se ?_
   refine ec 41 (mcheck0 (q0:=qx0) (q1:=qx1) (q2:=qx2) (q3:=qx3) (by omega) (by omega) (by omega) (by omega) _ (hm.gr hB)) ?_
   rintro bD bu ⟨rfl,af⟩
   refine ⟨_,rfl,?_⟩
   replace hB:=hB.trans af
   simp only [p3,p4]
   refine sv 42 (.bool ((chk qx0 qx1 qx2 qx3 0==(0:Int)))) ?_
   refine sv 43 (.bool ((chk qx0 qx1 qx2 qx3 0==(0:Int)))) ?_
   refine za0 ?_
   refine ah _ _ ?_
   try clear ah aH
   refine wp_cond_split (t:=(chk qx0 qx1 qx2 qx3 0==(0:Int))) rfl (fun ad=>?_) (fun ad=>?_)
   ·refine rg [0,1,2,3,4] ?_
    refine sv 44 v ?_
    replace ac:=ac.gr af
    refine sw 45 (.agg #[(.int .i64 (qx0)),(.int .i64 (qx1)),(.int .i64 (qx2)),(.int .i64 (qx3))]) rfl (rl 111 0 [(.int .i64 (qx0)),(.int .i64 (qx1)),(.int .i64 (qx2)),(.int .i64 (qx3))] ac) ?_
    refine se ?_
    refine zD6 111 1 #[(.int .i64 (qx0)),(.int .i64 (qx1)),(.int .i64 (qx2)),(.int .i64 (qx3))] (some 46) rfl (fun _=>by kernel_rfl) (fun bk bJ aq bn a6=>?_)
    replace hv:=((hv.gr zb5 ak).st zb5 ab aa (ab.kts ae (by decide))).gr zb5 af
    have ai:=hv.ne a6
    replace hB:=hB.trans aq
    simp only [zn2,p3,p4]
    refine se ?_
    replace hv:=hv.gr zb5 aq
    refine eff_app zb5 _ _ 109 111 w.heap.size (.agg #[.int .i64 0,.int .i64 0,.int .i64 0,.int .i64 0]) v (zu5 nn) bk [(.int .i64 (qx0)),(.int .i64 (qx1)),(.int .i64 (qx2)),(.int .i64 (qx3))] ((qx0,qx1,qx2,qx3):Int × Int × Int × Int) 4 1 (some 47) 32 rfl rfl rfl rfl hv bn ⟨rfl,rfl,rfl,rfl,trivial⟩ rfl rfl w hB (Nat.le_refl _) (Below.size hB) (by have:=zW5 nn;simp;omega) (by decide) (by kernel_rfl) (by kernel_rfl) (by decide) (by decide) (fun aE bF al aW aj=>?_)
    replace hB:=aj
    simp only [zn2,p3,p4]
    refine sv 1 aE ?_
    refine za0 ?_
    refine k9 _ _ ?_
    try clear k9 K9
    refine rg [0,1] ?_
    refine sw 48 (.int .i64 (((nn:Int)+1))) rfl (RunV.int (x:=IntKind.i64.wrap (((nn:Int)+1))) (y:=((nn:Int)+1)) (rvk (by kernel_rfl)) (by first | rfl | (rw [IntKind.wrap_i64];omega))) ?_
    refine sv 7 (.int .i64 (((nn:Int)+1))) ?_
    refine za0 ?_
    refine k5 (81 - (nn+1)) ⟨List.toArray ?l42,[]⟩ _ (by omega) ?_
    exact ⟨aE,nn+1,(fun i=>List.getD ?l42 i undef),rfl,rfl,(by omega),(by rw [zW4 hqa (by unfold qOk qSq;rw [Bool.and_eq_true];exact ⟨hb37,ad⟩)];exact al),hB⟩
   ·refine wp_skip ?_
    refine k9 _ _ ?_
    try clear k9 K9
    refine rg [0,1] ?_
    refine sw 48 (.int .i64 (((nn:Int)+1))) rfl (RunV.int (x:=IntKind.i64.wrap (((nn:Int)+1))) (y:=((nn:Int)+1)) (rvk (by kernel_rfl)) (by first | rfl | (rw [IntKind.wrap_i64];omega))) ?_
    refine sv 7 (.int .i64 (((nn:Int)+1))) ?_
    refine za0 ?_
    replace hv:=((hv.gr zb5 ak).st zb5 ab aa (ab.kts ae (by decide))).gr zb5 af
    refine k5 (81 - (nn+1)) ⟨List.toArray ?l43,[]⟩ _ (by omega) ?_
    exact ⟨v,nn+1,(fun i=>List.getD ?l43 i undef),rfl,rfl,(by omega),(by rw [zN0 hqa (by unfold qOk qSq;rw [hb37,ad,Bool.and_false])];exact hv),hB⟩
  ·refine sw 37 (.bool false) rfl (RunV.bool (x:=(((((0+(qx0*qx0))+(qx1*qx1))+(qx2*qx2))+(qx3*qx3)) !=(3:Int))) (rvk (by kernel_rfl)) hb37) ?_
   refine ss 38 ?_
   refine ss 39 ?_
   refine ss 40 ?_
   refine ss 41 ?_
   refine ss 42 ?_
   refine sv 43 (.bool false) ?_
   refine za0 ?_
   refine ah _ _ ?_
   try clear ah aH
   refine wp_cond_false rfl ?_
   refine wp_skip ?_
   refine k9 _ _ ?_
   try clear k9 K9
   refine rg [0,1] ?_
   refine sw 48 (.int .i64 (((nn:Int)+1))) rfl (RunV.int (x:=IntKind.i64.wrap (((nn:Int)+1))) (y:=((nn:Int)+1)) (rvk (by kernel_rfl)) (by first | rfl | (rw [IntKind.wrap_i64];omega))) ?_
   refine sv 7 (.int .i64 (((nn:Int)+1))) ?_
   refine za0 ?_
   replace hv:=(hv.gr zb5 ak).st zb5 ab aa (ab.kts ae (by decide))
   refine k5 (81 - (nn+1)) ⟨List.toArray ?l44,[]⟩ _ (by omega) ?_
   exact ⟨v,nn+1,(fun i=>List.getD ?l44 i undef),rfl,rfl,(by omega),(by rw [zN0 hqa (by unfold qOk qSq;rw [hb37,Bool.false_and])];exact hv),hB⟩
 ·have hge:nn=81:=by have:=of_decide_eq_false ap;omega
  refine wp_exit ?_
  simp only [Exit.then,Exit.inBlock,↓reduceIte]
  refine k3 _ _ ?_
  try clear k3 K3
  refine wp_seq_k (fun aU ax=>?_)
  refine rg [0,1] ?_
  refine sv 49 v ?_
  refine sv 0 v ?_
  refine za0 ?_
  refine ax _ _ ?_
  try clear ax aU
  refine wp_ret ?_
  refine bodyPost_ret (v:=v) (zb6 rfl rfl) rfl ⟨?_,hB⟩
  subst hge
  exact ⟨_,rfl,(hv.sl)⟩

theorem mof_m {q0 q1 q2 q3:Int} (hv:VT q0 q1 q2 q3) {x1 x2 x3:Rat} (s1:RS 64 x1) (s2:RS 64 x2) (s3:RS 64 x3) (w:World) (hm:Mx w) (ht:Tab w):
  Calls Tryz.prog 59 #[.agg #[.int .i64 q0,.int .i64 q1,.int .i64 q2,.int .i64 q3,.string ⟨(za3 x1).toArray⟩,.string ⟨(za3 x2).toArray⟩,.string ⟨(za3 x3).toArray⟩]] w fun e w'=>(∃ t0 t1 t2 t3 t4 t5 t6 t7 t8 t9 aI aq ak aA az aR ap av ad aj aw aL aO ay aE af au aD aa ac aF ae aC aN aQ ar aK ax al aJ ai aB aG aP ab aH ah aM,e=.returned (.tuple #[.agg #[t0,t1,t2,t3,t4,t5,t6,t7,t8,t9,aI,aq,ak,aA,az,aR,ap,av,ad,aj,aw,aL,aO,ay,aE,af,au,aD,aa,ac,aF,ae,aC,aN,aQ,ar,aK,ax,al,aJ,ai,aB,aG,aP,ab,aH,ah,aM],.int .i64 0])∧IsRat w' 64 t0 t1 t2 t3 (roE q0 q1 q2 q3 0)∧IsRat w' 64 t4 t5 t6 t7 (roE q0 q1 q2 q3 1)∧IsRat w' 64 t8 t9 aI aq (roE q0 q1 q2 q3 2)∧IsRat w' 64 ak aA az aR (roE q0 q1 q2 q3 3)∧IsRat w' 64 ap av ad aj (roE q0 q1 q2 q3 4)∧IsRat w' 64 aw aL aO ay (roE q0 q1 q2 q3 5)∧IsRat w' 64 aE af au aD (roE q0 q1 q2 q3 6)∧IsRat w' 64 aa ac aF ae (roE q0 q1 q2 q3 7)∧IsRat w' 64 aC aN aQ ar (roE q0 q1 q2 q3 8)∧IsRat w' 64 aK ax al aJ x1∧IsRat w' 64 ai aB aG aP x2∧IsRat w' 64 ab aH ah aM x3)∧Gr w w':=by
 refine (of_c hv s1 s2 s3 w ⟨ht,hm⟩).mono fun e w' he=>⟨?_,he.2⟩
 obtain ⟨⟨vs,rfl,h⟩,_⟩:=he
 unfold oList at h
 obtain ⟨a0,b0,c0,d0,v0,rfl,g0,h1⟩:=h.cons
 obtain ⟨a1,b1,c1,d1,v1,rfl,g1,h2⟩:=h1.cons
 obtain ⟨a2,b2,c2,d2,v2,rfl,g2,h3⟩:=h2.cons
 obtain ⟨a3,b3,c3,d3,v3,rfl,g3,h4⟩:=h3.cons
 obtain ⟨a4,b4,c4,d4,v4,rfl,g4,h5⟩:=h4.cons
 obtain ⟨a5,b5,c5,d5,v5,rfl,g5,h6⟩:=h5.cons
 obtain ⟨a6,b6,c6,d6,v6,rfl,g6,h7⟩:=h6.cons
 obtain ⟨a7,b7,c7,d7,v7,rfl,g7,h8⟩:=h7.cons
 obtain ⟨a8,b8,c8,d8,v8,rfl,g8,h9⟩:=h8.cons
 obtain ⟨a9,b9,c9,d9,v9,rfl,g9,aV⟩:=h9.cons
 obtain ⟨ba,aY,bb,bf,bc,rfl,aS,aU⟩:=aV.cons
 obtain ⟨a11,bg,aX,bd,aZ,rfl,aW,aT⟩:=aU.cons
 have:=aT.nil
 subst this
 exact ⟨_,_,_,_,_,_,_,_,_,_,_,_,_,_,_,_,_,_,_,_,_,_,_,_,_,_,_,_,_,_,_,_,_,_,_,_,_,_,_,_,_,_,_,_,_,_,_,_,rfl,g0,g1,g2,g3,g4,g5,g6,g7,g8,g9,aS,aW⟩

set_option maxRecDepth 100000 in
set_option maxHeartbeats 1000000 in
theorem quot9 (a b:Int) (_ha:-9223372036854775808≤a∧a≤9223372036854775807) (_hb:-9223372036854775808≤b∧b≤9223372036854775807) (aC:0<((b:Int):Rat).num) (w:World):
    Calls Tryz.prog 58 #[(.int .i64 (a)),(.int .i64 (b))] w fun e w'=>(∃ t0 t1 t2 t3,e=.returned (.agg #[t0,t1,t2,t3])∧IsRat w' 128 t0 t1 t2 t3 (((a:Int):Rat)/((b:Int):Rat)))∧Gr w w':=by
 go_enter Tryz.func58,Tryz.ntmps58
 have hB:=Gr.refl w
 refine wp_seq_k (fun aH av=>?_)
 refine rg [0] ?_
 refine se ?_
 refine ea 33 #[.bool false,.slice none 0 0,.bool false,.slice none 0 0] 4 hB fun aT aW aO ah aQ aE hB=>?_
 simp only [p3,p4]
 refine za0 ?_
 refine av _ _ ?_
 try clear av aH
 refine wp_seq_k (fun aB k23=>?_)
 refine rg [0,1,2,3,4,5,6,7,8,9,10] ?_
 refine sv 8 (.int .i64 (a)) ?_
 refine se ?_
 refine ec 9 (zt1 (a) (by omega) (by omega) _) ?_
 rintro a2 aN ⟨⟨aV,aX,a3,aR,rfl,ap⟩,aw⟩
 refine ⟨_,rfl,?_⟩
 replace hB:=hB.trans aw
 simp only [p3,p4]
 refine sv 10 (.int .i64 (b)) ?_
 refine se ?_
 refine ec 11 (zt1 (b) (by omega) (by omega) _) ?_
 rintro aY aI ⟨⟨aZ,aM,a1,aU,rfl,az⟩,al⟩
 refine ⟨_,rfl,?_⟩
 replace hB:=hB.trans al
 simp only [p3,p4]
 refine se ?_
 replace ap:=ap.kp al.kp
 refine ec 12 (div_r ap az (by omega) aC) ?_
 rintro aK aL ⟨⟨aa,ac,ad,ae,rfl,ab⟩,au⟩
 refine ⟨_,rfl,?_⟩
 replace hB:=hB.trans au
 simp only [p3,p4]
 refine sv 7 (.tuple #[(.agg #[aa,ac,ad,ae]),.int .i64 0]) ?_
 refine sv 13 (.agg #[aa,ac,ad,ae]) ?_
 refine sv 14 (.int .i64 0) ?_
 refine se ?_
 refine ea 33 #[.bool false,.slice none 0 0,.bool false,.slice none 0 0] 5 hB fun aP aS ax aq aG aA hB=>?_
 replace ah:=ah.gr (aw.trans (al.trans au))
 have af:=ah.ne aG
 simp only [p3,p4]
 refine se ?_
 refine es 33 0 (.agg #[aa,ac,ad,ae]) [aa,ac,ad,ae] #[aa,ac,ad,ae] aq hB aA ⟨ab.one0,ab.one1,ab.one2,ab.one3,trivial⟩ fun a0 aj ak aq hB=>?_
 refine sv 6 (.int .i64 0) ?_
 refine za0 ?_
 refine k23 _ _ ?_
 try clear k23 aB
 refine wp_seq_k (fun aF ay=>?_)
 refine rg [0,1] ?_
 refine sw 15 (.agg #[aa,ac,ad,ae]) rfl (rl 33 0 [aa,ac,ad,ae] aq) ?_
 refine se ?_
 replace ah:=aj.lc (ah.gr ax) af
 refine es 33 0 (.agg #[aa,ac,ad,ae]) [aa,ac,ad,ae] #[aa,ac,ad,ae] ah hB aE ⟨ab.one0,ab.one1,ab.one2,ab.one3,trivial⟩ fun aJ aD ai ah hB=>?_
 refine za0 ?_
 refine ay _ _ ?_
 try clear ay aF
 refine wp_ret ?_
 refine bodyPost_ret (v:=(.agg #[aa,ac,ad,ae])) (za6 _ _ _ rfl rfl ah (by kernel_rfl)) rfl ⟨?_,hB⟩
 have ar:=ax.kp.trans (ak.trans ai)
 replace ab:=ab.kp ar
 exact ⟨_,_,_,_,rfl,ab⟩

set_option maxRecDepth 100000 in
set_option maxHeartbeats 8000000 in
theorem moved9 (n0 n1 n2 n3 n4:Int) (_j0:0≤n0∧n0≤255) (j1:0≤n1∧n1≤255) (j2:0≤n2∧n2≤255) (j3:0≤n3∧n3≤255) (_j4:0≤n4∧n4≤255) (mk:Nat) (hmk:n0 % 28=(mk:Int)) (bq:mk<28) (w:World) (ht:Tab w) (hm:Mx w):
    Calls Tryz.prog 36 #[(.agg #[(.int .u8 (n0)),(.int .u8 (n1)),(.int .u8 (n2)),(.int .u8 (n3)),(.int .u8 (n4))])] w fun e w'=>(∃ t0 t1 t2 t3 t4 t5 t6 t7 t8 t9 dh cE cB cU cS dv cD cH cl cA cL dl dp cR c9 co cG cZ cg ck da cn cY dn dt cF dk cM cC dj cy cV db dq cj df cu dm,e=.returned (.tuple #[.agg #[t0,t1,t2,t3,t4,t5,t6,t7,t8,t9,dh,cE,cB,cU,cS,dv,cD,cH,cl,cA,cL,dl,dp,cR,c9,co,cG,cZ,cg,ck,da,cn,cY,dn,dt,cF,dk,cM,cC,dj,cy,cV,db,dq,cj,df,cu,dm],.bool true])∧IsRat w' 64 t0 t1 t2 t3 (roE (turns.getD mk (0,0,0,0)).1 (turns.getD mk (0,0,0,0)).2.1 (turns.getD mk (0,0,0,0)).2.2.1 (turns.getD mk (0,0,0,0)).2.2.2 0)∧IsRat w' 64 t4 t5 t6 t7 (roE (turns.getD mk (0,0,0,0)).1 (turns.getD mk (0,0,0,0)).2.1 (turns.getD mk (0,0,0,0)).2.2.1 (turns.getD mk (0,0,0,0)).2.2.2 1)∧IsRat w' 64 t8 t9 dh cE (roE (turns.getD mk (0,0,0,0)).1 (turns.getD mk (0,0,0,0)).2.1 (turns.getD mk (0,0,0,0)).2.2.1 (turns.getD mk (0,0,0,0)).2.2.2 2)∧IsRat w' 64 cB cU cS dv (roE (turns.getD mk (0,0,0,0)).1 (turns.getD mk (0,0,0,0)).2.1 (turns.getD mk (0,0,0,0)).2.2.1 (turns.getD mk (0,0,0,0)).2.2.2 3)∧IsRat w' 64 cD cH cl cA (roE (turns.getD mk (0,0,0,0)).1 (turns.getD mk (0,0,0,0)).2.1 (turns.getD mk (0,0,0,0)).2.2.1 (turns.getD mk (0,0,0,0)).2.2.2 4)∧IsRat w' 64 cL dl dp cR (roE (turns.getD mk (0,0,0,0)).1 (turns.getD mk (0,0,0,0)).2.1 (turns.getD mk (0,0,0,0)).2.2.1 (turns.getD mk (0,0,0,0)).2.2.2 5)∧IsRat w' 64 c9 co cG cZ (roE (turns.getD mk (0,0,0,0)).1 (turns.getD mk (0,0,0,0)).2.1 (turns.getD mk (0,0,0,0)).2.2.1 (turns.getD mk (0,0,0,0)).2.2.2 6)∧IsRat w' 64 cg ck da cn (roE (turns.getD mk (0,0,0,0)).1 (turns.getD mk (0,0,0,0)).2.1 (turns.getD mk (0,0,0,0)).2.2.1 (turns.getD mk (0,0,0,0)).2.2.2 7)∧IsRat w' 64 cY dn dt cF (roE (turns.getD mk (0,0,0,0)).1 (turns.getD mk (0,0,0,0)).2.1 (turns.getD mk (0,0,0,0)).2.2.1 (turns.getD mk (0,0,0,0)).2.2.2 8)∧IsRat w' 64 dk cM cC dj (sh2 n1 n4)∧IsRat w' 64 cy cV db dq (sh2 n2 n4)∧IsRat w' 64 cj df cu dm (sh2 n3 n4))∧Gr w w':=by
 go_enter Tryz.func36,Tryz.ntmps36
 have hB:=Gr.refl w
 refine wp_seq_k (fun K1 k1=>?_)
 refine rg [0,1,2] ?_
 refine se ?_
 refine eb 27 #[(.int .u8 (n0)),(.int .u8 (n1)),(.int .u8 (n2)),(.int .u8 (n3)),(.int .u8 (n4))] 1 hB fun b2 w2 g2 L2 o2 q2 hB=>?_
 simp only [p3,p4]
 refine se ?_
 refine ea 38 #[.bool false,.slice none 0 0,.bool false,.slice none 0 0,.bool false,.slice none 0 0,.bool false,.slice none 0 0,.bool false,.slice none 0 0,.bool false,.slice none 0 0,.bool false,.slice none 0 0,.bool false,.slice none 0 0,.bool false,.slice none 0 0,.bool false,.slice none 0 0,.bool false,.slice none 0 0,.bool false,.slice none 0 0,.bool false,.slice none 0 0,.bool false,.slice none 0 0,.bool false,.slice none 0 0,.bool false,.slice none 0 0,.bool false,.slice none 0 0,.bool false,.slice none 0 0,.bool false,.slice none 0 0,.bool false,.slice none 0 0,.bool false,.slice none 0 0,.bool false,.slice none 0 0,.bool false,.slice none 0 0,.bool false,.slice none 0 0] 2 hB fun b3 w3 g3 L3 o3 q3 hB=>?_
 simp only [p3,p4]
 refine sv 3 (.bool false) ?_
 refine za0 ?_
 refine k1 _ _ ?_
 try clear k1 K1
 refine wp_seq_k (fun K4 k4=>?_)
 refine rg [0,1] ?_
 refine se ?_
 refine ec 10 (zT6 _ (hm.gr hB)) ?_
 rintro e5 w5 ⟨⟨v5,rfl,bE⟩,g5⟩
 refine ⟨_,rfl,?_⟩
 replace hB:=hB.trans g5
 simp only [p3,p4]
 refine sv 4 v5 ?_
 refine za0 ?_
 refine k4 _ _ ?_
 try clear k4 K4
 refine wp_seq_k (fun K6 k6=>?_)
 refine wp_seq_k (fun K7 k7=>?_)
 refine rg [0,1,2] ?_
 refine sv 11 v5 ?_
 refine sw 12 (.int .i64 (((quarters).length:Int))) rfl (rv_len (e:=111) bE _ _ rfl rfl (by kernel_rfl)) ?_
 have dZ:((((quarters).length:Int) !=(24:Int)))=false:=(by rw [ze4];rfl)
 refine sw 13 (.bool false) rfl (RunV.bool (x:=(((quarters).length:Int) !=(24:Int))) (rvk (by kernel_rfl)) dZ) ?_
 refine za0 ?_
 refine k7 _ _ ?_
 try clear k7 K7
 refine wp_cond_false rfl ?_
 refine wp_skip ?_
 refine k6 _ _ ?_
 try clear k6 K6
 refine wp_seq_k (fun K9 k9=>?_)
 refine rg [0,1,2,3,4,5,6,7,8,9] ?_
 refine se ?_
 refine zD6 111 0 #[] (some 15) rfl (fun _=>by kernel_rfl) (fun dA ex bO d3 ce=>?_)
 replace L2:=L2.gr (g3.trans g5)
 replace L3:=L3.gr g5
 replace ce:=Nat.le_trans (Below.size hB) ce
 replace hB:=hB.trans bO
 simp only [zn2,p3,p4]
 refine sv 16 v5 ?_
 refine se ?_
 have bk:=ow_empty (E:=EQ4) (T:=111) (c:=4) (B:=w.heap.size) d3 ce
 replace bE:=bE.gr zb5 bO
 obtain ⟨b6,bR,bY,b8⟩:=bE.adr_some (by decide) (by rw [ze4];omega)
 refine zN2 zb5 _ _ 109 111 w.heap.size (.agg #[.int .i64 0,.int .i64 0,.int .i64 0,.int .i64 0]) (.slice (some ⟨dA,0,none⟩) 0 0) ([]:List (Int × Int × Int × Int)) v5 quarters 4 (some 17) 32 rfl rfl rfl rfl bk bE b6 bR bY b8 (one_q4 _) w hB (Nat.le_refl _) (Below.size hB) (by rw [ze4];decide) (by decide) (by kernel_rfl) (by kernel_rfl) (by decide) (by decide) (fun cP dw bk bC ca=>?_)
 replace hB:=ca
 replace bk:Ow EQ4 111 4 dw w.heap.size cP quarters:=bk
 simp only [zn2,p3,p4]
 refine sv 18 (.agg #[.int .i64 2,.int .i64 1,.int .i64 0,.int .i64 0]) ?_
 refine sv 19 (.agg #[.int .i64 1,.int .i64 1,.int .i64 1,.int .i64 0]) ?_
 refine sv 20 (.agg #[.int .i64 1,.int .i64 0,.int .i64 2,.int .i64 0]) ?_
 refine sv 21 (.agg #[.int .i64 3,.int .i64 1,.int .i64 1,.int .i64 1]) ?_
 refine se ?_
 refine zD6 111 4 #[.int .i64 2,.int .i64 1,.int .i64 0,.int .i64 0,.int .i64 1,.int .i64 1,.int .i64 1,.int .i64 0,.int .i64 1,.int .i64 0,.int .i64 2,.int .i64 0,.int .i64 3,.int .i64 1,.int .i64 1,.int .i64 1] (some 22) rfl (fun _=>by kernel_rfl) (fun cX et bQ dR dN=>?_)
 replace L2:=bC.lc (L2.gr bO) (by decide)
 replace L3:=bC.lc (L3.gr bO) (by decide)
 have bx:=bk.ne dN
 replace hB:=hB.trans bQ
 simp only [zn2,p3,p4]
 refine se ?_
 replace bk:=bk.gr zb5 bQ
 have b5:=slq_of dR (xs:=[((2,1,0,0):Int × Int × Int × Int),((1,1,1,0):Int × Int × Int × Int),((1,0,2,0):Int × Int × Int × Int),((3,1,1,1):Int × Int × Int × Int)]) (by decide) rfl
 refine zN2 zb5 _ _ 109 111 w.heap.size (.agg #[.int .i64 0,.int .i64 0,.int .i64 0,.int .i64 0]) cP quarters (.slice (some ⟨cX,0,none⟩) 4 4) [((2,1,0,0):Int × Int × Int × Int),((1,1,1,0):Int × Int × Int × Int),((1,0,2,0):Int × Int × Int × Int),((3,1,1,1):Int × Int × Int × Int)] 4 (some 23) 32 rfl rfl rfl rfl bk b5 cX 0 4 rfl (one_q4 _) w hB (Nat.le_refl _) (Below.size hB) (by rw [ze4];decide) (by decide) (by kernel_rfl) (by kernel_rfl) (by decide) (by decide) (fun bJ dY bh bL b7=>?_)
 replace hB:=b7
 replace bh:Ow EQ4 111 4 dY w.heap.size bJ turns:=bh
 simp only [zn2,p3,p4]
 refine sv 5 bJ ?_
 refine za0 ?_
 refine k9 _ _ ?_
 try clear k9 K9
 refine wp_seq_k (fun dT cQ=>?_)
 refine rg [0,1,2,3,4,5,6,7,8,9,10,11] ?_
 refine sv 24 bJ ?_
 refine sv 25 (.pointer (some ⟨b2,0,none⟩)) ?_
 replace L2:=bL.lc (L2.gr bQ) (by decide)
 refine sw 26 (.int .u8 (n0)) rfl (rk 5 0 L2) ?_
 refine sw 27 (.int .i64 (n0)) rfl (RunV.int (x:=IntKind.i64.wrap (n0)) (y:=n0) (rvk (by kernel_rfl)) (by first | rfl | (rw [IntKind.wrap_i64];omega))) ?_
 refine sv 28 bJ ?_
 refine sw 29 (.int .i64 (((turns).length:Int))) rfl (rv_len (e:=111) bh.sl _ _ rfl rfl (by kernel_rfl)) ?_
 refine sw 30 (.int .i64 ((mk:Int))) rfl (RunV.int (x:=Int.tmod n0 ((turns.length:Nat):Int)) (y:=(mk:Int)) (rvk (by kernel_rfl)) (by rw [zt6,Int.tmod_eq_emod_of_nonneg (by omega)];exact hmk)) ?_
 refine sw 31 (adr bJ (mk*4)) rfl (rv_idx (e:=111) bh.sl (by decide) mk (by rw [zt6];exact bq) _ _ _ rfl rfl rfl (by kernel_rfl) (by kernel_rfl)) ?_
 obtain ⟨_,_,rfl,bV⟩:=(bh.sl).get (by decide) (zX6 (d:=((0,0,0,0):Int × Int × Int × Int)) (i:=mk) (xs:=turns) (by rw [zt6];exact bq))
 refine sw 32 (.agg #[(.int .i64 (((turns).getD mk (0,0,0,0)).1)),(.int .i64 (((turns).getD mk (0,0,0,0)).2.1)),(.int .i64 (((turns).getD mk (0,0,0,0)).2.2.1)),(.int .i64 (((turns).getD mk (0,0,0,0)).2.2.2))]) rfl (rv_ldn [(.int .i64 (((turns).getD mk (0,0,0,0)).1)),(.int .i64 (((turns).getD mk (0,0,0,0)).2.1)),(.int .i64 (((turns).getD mk (0,0,0,0)).2.2.1)),(.int .i64 (((turns).getD mk (0,0,0,0)).2.2.2))] bV _ _ rfl rfl (by kernel_rfl)) ?_
 refine sv 33 (.agg #[(.int .i64 (((turns).getD mk (0,0,0,0)).1)),(.int .i64 (((turns).getD mk (0,0,0,0)).2.1)),(.int .i64 (((turns).getD mk (0,0,0,0)).2.2.1)),(.int .i64 (((turns).getD mk (0,0,0,0)).2.2.2)),(.string ⟨([]:List UInt8).toArray⟩),(.string ⟨([]:List UInt8).toArray⟩),(.string ⟨([]:List UInt8).toArray⟩)]) ?_
 refine se ?_
 refine ea 113 #[.int .i64 0,.int .i64 0,.int .i64 0,.int .i64 0,(.string ⟨([]:List UInt8).toArray⟩),(.string ⟨([]:List UInt8).toArray⟩),(.string ⟨([]:List UInt8).toArray⟩)] 6 hB fun bB eH b4 bj bZ bN hB=>?_
 have bg:=L2.ne bZ
 replace L3:=bL.lc (L3.gr bQ) (by decide)
 have bi:=L3.ne bZ
 have bA:=bh.ne bZ
 simp only [p3,p4]
 refine se ?_
 have bT:=bj
 refine es 113 0 (.agg #[(.int .i64 (((turns).getD mk (0,0,0,0)).1)),(.int .i64 (((turns).getD mk (0,0,0,0)).2.1)),(.int .i64 (((turns).getD mk (0,0,0,0)).2.2.1)),(.int .i64 (((turns).getD mk (0,0,0,0)).2.2.2)),(.string ⟨([]:List UInt8).toArray⟩),(.string ⟨([]:List UInt8).toArray⟩),(.string ⟨([]:List UInt8).toArray⟩)]) [(.int .i64 (((turns).getD mk (0,0,0,0)).1)),(.int .i64 (((turns).getD mk (0,0,0,0)).2.1)),(.int .i64 (((turns).getD mk (0,0,0,0)).2.2.1)),(.int .i64 (((turns).getD mk (0,0,0,0)).2.2.2)),(.string ⟨([]:List UInt8).toArray⟩),(.string ⟨([]:List UInt8).toArray⟩),(.string ⟨([]:List UInt8).toArray⟩)] #[(.int .i64 (((turns).getD mk (0,0,0,0)).1)),(.int .i64 (((turns).getD mk (0,0,0,0)).2.1)),(.int .i64 (((turns).getD mk (0,0,0,0)).2.2.1)),(.int .i64 (((turns).getD mk (0,0,0,0)).2.2.2)),(.string ⟨([]:List UInt8).toArray⟩),(.string ⟨([]:List UInt8).toArray⟩),(.string ⟨([]:List UInt8).toArray⟩)] bj hB bN ⟨rfl,rfl,rfl,rfl,rfl,rfl,rfl,trivial⟩ fun dC bp dG bj hB=>?_
 refine za0 ?_
 refine cQ _ _ ?_
 try clear cQ dT
 refine wp_seq_k (fun dQ cK=>?_)
 refine wp_seq_k (fun dE cN=>?_)
 refine rg [0] ?_
 refine sv 7 (.int .i64 0) ?_
 refine za0 ?_
 refine cN _ _ ?_
 try clear cN dE
 refine wp_block ?_
 refine wp_loop_rounds 6 ?_
 show Code.wp _ _ _ _ _
 refine wp_seq_k (fun dO cq=>?_)
 refine wp_seq_k (fun dK cm=>?_)
 refine rg [0,1] ?_
 refine sv 34 (.int .i64 0) ?_
 refine sv 35 (.bool true) ?_
 refine za0 ?_
 refine cm _ _ ?_
 try clear cm dK
 refine wp_cond_true rfl ?_
 refine wp_skip ?_
 refine cq _ _ ?_
 try clear cq dO
 refine wp_seq_k (fun dS k22=>?_)
 refine wp_block ?_
 have bo:=Gr.drew dC
 replace hB:=hB.trans bo
 replace L2:=(bp.lc (L2.gr b4) bg).gr bo
 refine za1 (fun w'=>Lc w' b2 #[(.int .u8 (n0)),(.int .u8 (n1)),(.int .u8 (n2)),(.int .u8 (n3)),(.int .u8 (n4))] 27) [(true,0),(true,1),(true,2),(true,3),(true,4),(true,5),(true,6),(true,7),(true,8),(true,9),(true,10),(true,11),(true,14),(false,12),(false,13),(true,15),(false,16)] (by kernel_rfl) (by kernel_rfl) (by kernel_rfl) (by decide) (fun _ _ _ _ _ h=>h) L2 ?_
 refine ov 38 (.int .i64 0) ?_
 refine ov 39 (.int .i64 0) ?_
 refine ov 40 (.int .i64 1) ?_
 refine ov 41 (.pointer (some ⟨b2,1,none⟩)) ?_
 refine ow 42 (.int .u8 (n1)) rfl (fun w' hS=>(rk 5 1 hS)) ?_
 refine ow 43 (.int .i64 (n1)) rfl (fun w' hS=>(RunV.int (x:=IntKind.i64.wrap (n1)) (y:=n1) (rvk (by kernel_rfl)) (by first | rfl | (rw [IntKind.wrap_i64];omega)))) ?_
 refine ow 44 (.int .i64 ((n1 - 100))) rfl (fun w' hS=>(RunV.int (x:=IntKind.i64.wrap ((n1 - 100))) (y:=(n1 - 100)) (rvk (by kernel_rfl)) (by first | rfl | (rw [IntKind.wrap_i64];omega)))) ?_
 refine ov 45 (.pointer (some ⟨b2,4,none⟩)) ?_
 refine ow 46 (.int .u8 (n4)) rfl (fun w' hS=>(rk 5 4 hS)) ?_
 refine ow 47 (.int .u8 ((n4 % 2))) rfl (fun w' hS=>(RunV.int (x:=Int.tmod n4 2) (y:=n4 % 2) (rvk (by kernel_rfl)) (by rw [Int.tmod_eq_emod_of_nonneg (by omega)]))) ?_
 refine ow 48 (.int .i64 ((n4 % 2))) rfl (fun w' hS=>(RunV.int (x:=IntKind.i64.wrap ((n4 % 2))) (y:=(n4 % 2)) (rvk (by kernel_rfl)) (by first | rfl | (rw [IntKind.wrap_i64];omega)))) ?_
 refine ow 49 (.int .i64 ((1+(n4 % 2)))) rfl (fun w' hS=>(RunV.int (x:=IntKind.i64.wrap ((1+(n4 % 2)))) (y:=(1+(n4 % 2))) (rvk (by kernel_rfl)) (by first | rfl | (rw [IntKind.wrap_i64];omega)))) ?_
 refine ov 52 (.pointer (some ⟨bB,4,none⟩)) ?_
 refine oe ?_
 refine ec 50 (quot9 ((n1 - 100)) ((1+(n4 % 2))) (by omega) (by omega) (by rw [Rat.num_intCast];omega) _) ?_
 rintro e32 eE ⟨⟨ep,el,ej,eA,rfl,d4⟩,bM⟩
 refine ⟨_,rfl,?_⟩
 replace hB:=hB.trans bM
 replace L2:=L2.gr bM
 refine ⟨L2,?_⟩
 simp only [p3,p4]
 refine oe ?_
 refine ec 51 (zh4 d4 (by omega) (ht.gr hB)) ?_
 rintro eu eG ⟨rfl,bK⟩
 refine ⟨_,rfl,?_⟩
 replace hB:=hB.trans bK
 replace L2:=L2.gr bK
 refine ⟨L2,?_⟩
 simp only [p3,p4]
 refine ov 53 (.pointer (some ⟨bB,4,none⟩)) ?_
 refine oe ?_
 replace bj:=bj.gr (bo.trans (bM.trans bK))
 have cd:=bj
 refine es 61 4 (.string ⟨(za3 ((sh2 n1 n4)):List UInt8).toArray⟩) [(.string ⟨(za3 ((sh2 n1 n4)):List UInt8).toArray⟩)] #[(.int .i64 (((turns).getD mk (0,0,0,0)).1)),(.int .i64 (((turns).getD mk (0,0,0,0)).2.1)),(.int .i64 (((turns).getD mk (0,0,0,0)).2.2.1)),(.int .i64 (((turns).getD mk (0,0,0,0)).2.2.2)),(.string ⟨(za3 ((sh2 n1 n4)):List UInt8).toArray⟩),(.string ⟨([]:List UInt8).toArray⟩),(.string ⟨([]:List UInt8).toArray⟩)] bj hB bN ⟨rfl,trivial⟩ fun dF bw d2 bj hB=>?_
 replace L2:=bw.lc L2 bg
 refine ⟨L2,?_⟩
 refine za2 ?_
 refine k22 _ _ ?_
 try clear k22 dS
 refine rg [0,1,2] ?_
 refine sv 36 (.int .i64 0) ?_
 refine sv 37 (.int .i64 1) ?_
 refine sv 7 (.int .i64 1) ?_
 refine za0 ?_
 show Code.rounds _ _ _ _ _ _
 show Code.wp _ _ _ _ _
 refine wp_seq_k (fun dM cJ=>?_)
 refine wp_seq_k (fun d0 cT=>?_)
 refine rg [0,1] ?_
 refine sv 34 (.int .i64 1) ?_
 refine sv 35 (.bool true) ?_
 refine za0 ?_
 refine cT _ _ ?_
 try clear cT d0
 refine wp_cond_true rfl ?_
 refine wp_skip ?_
 refine cJ _ _ ?_
 try clear cJ dM
 refine wp_seq_k (fun dI ch=>?_)
 refine wp_block ?_
 have bn:=Gr.drew dF
 replace hB:=hB.trans bn
 replace L2:=L2.gr bn
 refine za1 (fun w'=>Lc w' b2 #[(.int .u8 (n0)),(.int .u8 (n1)),(.int .u8 (n2)),(.int .u8 (n3)),(.int .u8 (n4))] 27) [(true,0),(true,1),(true,2),(true,3),(true,4),(true,5),(true,6),(true,7),(true,8),(true,9),(true,10),(true,11),(true,14),(false,12),(false,13),(true,15),(false,16)] (by kernel_rfl) (by kernel_rfl) (by kernel_rfl) (by decide) (fun _ _ _ _ _ h=>h) L2 ?_
 refine ov 38 (.int .i64 1) ?_
 refine ov 39 (.int .i64 1) ?_
 refine ov 40 (.int .i64 2) ?_
 refine ov 41 (.pointer (some ⟨b2,2,none⟩)) ?_
 refine ow 42 (.int .u8 (n2)) rfl (fun w' hS=>(rk 5 2 hS)) ?_
 refine ow 43 (.int .i64 (n2)) rfl (fun w' hS=>(RunV.int (x:=IntKind.i64.wrap (n2)) (y:=n2) (rvk (by kernel_rfl)) (by first | rfl | (rw [IntKind.wrap_i64];omega)))) ?_
 refine ow 44 (.int .i64 ((n2 - 100))) rfl (fun w' hS=>(RunV.int (x:=IntKind.i64.wrap ((n2 - 100))) (y:=(n2 - 100)) (rvk (by kernel_rfl)) (by first | rfl | (rw [IntKind.wrap_i64];omega)))) ?_
 refine ov 45 (.pointer (some ⟨b2,4,none⟩)) ?_
 refine ow 46 (.int .u8 (n4)) rfl (fun w' hS=>(rk 5 4 hS)) ?_
 refine ow 47 (.int .u8 ((n4 % 2))) rfl (fun w' hS=>(RunV.int (x:=Int.tmod n4 2) (y:=n4 % 2) (rvk (by kernel_rfl)) (by rw [Int.tmod_eq_emod_of_nonneg (by omega)]))) ?_
 refine ow 48 (.int .i64 ((n4 % 2))) rfl (fun w' hS=>(RunV.int (x:=IntKind.i64.wrap ((n4 % 2))) (y:=(n4 % 2)) (rvk (by kernel_rfl)) (by first | rfl | (rw [IntKind.wrap_i64];omega)))) ?_
 refine ow 49 (.int .i64 ((1+(n4 % 2)))) rfl (fun w' hS=>(RunV.int (x:=IntKind.i64.wrap ((1+(n4 % 2)))) (y:=(1+(n4 % 2))) (rvk (by kernel_rfl)) (by first | rfl | (rw [IntKind.wrap_i64];omega)))) ?_
 refine ov 52 (.pointer (some ⟨bB,4,none⟩)) ?_
 refine oe ?_
 refine ec 50 (quot9 ((n2 - 100)) ((1+(n4 % 2))) (by omega) (by omega) (by rw [Rat.num_intCast];omega) _) ?_
 rintro ed eF ⟨⟨ei,eo,ef,eI,rfl,dx⟩,bD⟩
 refine ⟨_,rfl,?_⟩
 replace hB:=hB.trans bD
 replace L2:=L2.gr bD
 refine ⟨L2,?_⟩
 simp only [p3,p4]
 refine oe ?_
 refine ec 51 (zh4 dx (by omega) (ht.gr hB)) ?_
 rintro eD ek ⟨rfl,bH⟩
 refine ⟨_,rfl,?_⟩
 replace hB:=hB.trans bH
 replace L2:=L2.gr bH
 refine ⟨L2,?_⟩
 simp only [p3,p4]
 refine ov 53 (.pointer (some ⟨bB,5,none⟩)) ?_
 refine oe ?_
 replace bj:=bj.gr (bn.trans (bD.trans bH))
 have bX:=bj
 refine es 61 5 (.string ⟨(za3 ((sh2 n2 n4)):List UInt8).toArray⟩) [(.string ⟨(za3 ((sh2 n2 n4)):List UInt8).toArray⟩)] #[(.int .i64 (((turns).getD mk (0,0,0,0)).1)),(.int .i64 (((turns).getD mk (0,0,0,0)).2.1)),(.int .i64 (((turns).getD mk (0,0,0,0)).2.2.1)),(.int .i64 (((turns).getD mk (0,0,0,0)).2.2.2)),(.string ⟨(za3 ((sh2 n1 n4)):List UInt8).toArray⟩),(.string ⟨(za3 ((sh2 n2 n4)):List UInt8).toArray⟩),(.string ⟨([]:List UInt8).toArray⟩)] bj hB bN ⟨rfl,trivial⟩ fun dV bv dW bj hB=>?_
 replace L2:=bv.lc L2 bg
 refine ⟨L2,?_⟩
 refine za2 ?_
 refine ch _ _ ?_
 try clear ch dI
 refine rg [0,1,2] ?_
 refine sv 36 (.int .i64 1) ?_
 refine sv 37 (.int .i64 2) ?_
 refine sv 7 (.int .i64 2) ?_
 refine za0 ?_
 show Code.rounds _ _ _ _ _ _
 show Code.wp _ _ _ _ _
 refine wp_seq_k (fun dD dc=>?_)
 refine wp_seq_k (fun dJ cx=>?_)
 refine rg [0,1] ?_
 refine sv 34 (.int .i64 2) ?_
 refine sv 35 (.bool true) ?_
 refine za0 ?_
 refine cx _ _ ?_
 try clear cx dJ
 refine wp_cond_true rfl ?_
 refine wp_skip ?_
 refine dc _ _ ?_
 try clear dc dD
 refine wp_seq_k (fun dU de=>?_)
 refine wp_block ?_
 have bm:=Gr.drew dV
 replace hB:=hB.trans bm
 replace L2:=L2.gr bm
 refine za1 (fun w'=>Lc w' b2 #[(.int .u8 (n0)),(.int .u8 (n1)),(.int .u8 (n2)),(.int .u8 (n3)),(.int .u8 (n4))] 27) [(true,0),(true,1),(true,2),(true,3),(true,4),(true,5),(true,6),(true,7),(true,8),(true,9),(true,10),(true,11),(true,14),(false,12),(false,13),(true,15),(false,16)] (by kernel_rfl) (by kernel_rfl) (by kernel_rfl) (by decide) (fun _ _ _ _ _ h=>h) L2 ?_
 refine ov 38 (.int .i64 2) ?_
 refine ov 39 (.int .i64 2) ?_
 refine ov 40 (.int .i64 3) ?_
 refine ov 41 (.pointer (some ⟨b2,3,none⟩)) ?_
 refine ow 42 (.int .u8 (n3)) rfl (fun w' hS=>(rk 5 3 hS)) ?_
 refine ow 43 (.int .i64 (n3)) rfl (fun w' hS=>(RunV.int (x:=IntKind.i64.wrap (n3)) (y:=n3) (rvk (by kernel_rfl)) (by first | rfl | (rw [IntKind.wrap_i64];omega)))) ?_
 refine ow 44 (.int .i64 ((n3 - 100))) rfl (fun w' hS=>(RunV.int (x:=IntKind.i64.wrap ((n3 - 100))) (y:=(n3 - 100)) (rvk (by kernel_rfl)) (by first | rfl | (rw [IntKind.wrap_i64];omega)))) ?_
 refine ov 45 (.pointer (some ⟨b2,4,none⟩)) ?_
 refine ow 46 (.int .u8 (n4)) rfl (fun w' hS=>(rk 5 4 hS)) ?_
 refine ow 47 (.int .u8 ((n4 % 2))) rfl (fun w' hS=>(RunV.int (x:=Int.tmod n4 2) (y:=n4 % 2) (rvk (by kernel_rfl)) (by rw [Int.tmod_eq_emod_of_nonneg (by omega)]))) ?_
 refine ow 48 (.int .i64 ((n4 % 2))) rfl (fun w' hS=>(RunV.int (x:=IntKind.i64.wrap ((n4 % 2))) (y:=(n4 % 2)) (rvk (by kernel_rfl)) (by first | rfl | (rw [IntKind.wrap_i64];omega)))) ?_
 refine ow 49 (.int .i64 ((1+(n4 % 2)))) rfl (fun w' hS=>(RunV.int (x:=IntKind.i64.wrap ((1+(n4 % 2)))) (y:=(1+(n4 % 2))) (rvk (by kernel_rfl)) (by first | rfl | (rw [IntKind.wrap_i64];omega)))) ?_
 refine ov 52 (.pointer (some ⟨bB,4,none⟩)) ?_
 refine oe ?_
 refine ec 50 (quot9 ((n3 - 100)) ((1+(n4 % 2))) (by omega) (by omega) (by rw [Rat.num_intCast];omega) _) ?_
 rintro eq eL ⟨⟨ee,en,er,ey,rfl,dy⟩,bG⟩
 refine ⟨_,rfl,?_⟩
 replace hB:=hB.trans bG
 replace L2:=L2.gr bG
 refine ⟨L2,?_⟩
 simp only [p3,p4]
 refine oe ?_
 refine ec 51 (zh4 dy (by omega) (ht.gr hB)) ?_
 rintro ez d7 ⟨rfl,bF⟩
 refine ⟨_,rfl,?_⟩
 replace hB:=hB.trans bF
 replace L2:=L2.gr bF
 refine ⟨L2,?_⟩
 simp only [p3,p4]
 refine ov 53 (.pointer (some ⟨bB,6,none⟩)) ?_
 refine oe ?_
 replace bj:=bj.gr (bm.trans (bG.trans bF))
 have b9:=bj
 refine es 61 6 (.string ⟨(za3 ((sh2 n3 n4)):List UInt8).toArray⟩) [(.string ⟨(za3 ((sh2 n3 n4)):List UInt8).toArray⟩)] #[(.int .i64 (((turns).getD mk (0,0,0,0)).1)),(.int .i64 (((turns).getD mk (0,0,0,0)).2.1)),(.int .i64 (((turns).getD mk (0,0,0,0)).2.2.1)),(.int .i64 (((turns).getD mk (0,0,0,0)).2.2.2)),(.string ⟨(za3 ((sh2 n1 n4)):List UInt8).toArray⟩),(.string ⟨(za3 ((sh2 n2 n4)):List UInt8).toArray⟩),(.string ⟨(za3 ((sh2 n3 n4)):List UInt8).toArray⟩)] bj hB bN ⟨rfl,trivial⟩ fun eh bu dX bj hB=>?_
 replace L2:=bu.lc L2 bg
 refine ⟨L2,?_⟩
 refine za2 ?_
 refine de _ _ ?_
 try clear de dU
 refine rg [0,1,2] ?_
 refine sv 36 (.int .i64 2) ?_
 refine sv 37 (.int .i64 3) ?_
 refine sv 7 (.int .i64 3) ?_
 refine za0 ?_
 show Code.rounds _ _ _ _ _ _
 show Code.wp _ _ _ _ _
 refine wp_seq_k (fun ew eK=>?_)
 refine wp_seq_k (fun dP cW=>?_)
 refine rg [0,1] ?_
 refine sv 34 (.int .i64 3) ?_
 refine sv 35 (.bool false) ?_
 refine za0 ?_
 refine cW _ _ ?_
 try clear cW dP
 refine wp_cond_false rfl ?_
 refine wp_exit ?_
 simp only [Exit.then,Exit.inBlock,↓reduceIte]
 refine cK _ _ ?_
 try clear cK dQ
 refine wp_seq_k (fun dL cO=>?_)
 refine rg [0,1,2,3,4,5,6,7] ?_
 refine sw 55 (.agg #[(.int .i64 (((turns).getD mk (0,0,0,0)).1)),(.int .i64 (((turns).getD mk (0,0,0,0)).2.1)),(.int .i64 (((turns).getD mk (0,0,0,0)).2.2.1)),(.int .i64 (((turns).getD mk (0,0,0,0)).2.2.2)),(.string ⟨(za3 ((sh2 n1 n4)):List UInt8).toArray⟩),(.string ⟨(za3 ((sh2 n2 n4)):List UInt8).toArray⟩),(.string ⟨(za3 ((sh2 n3 n4)):List UInt8).toArray⟩)]) rfl (rl 113 0 [(.int .i64 (((turns).getD mk (0,0,0,0)).1)),(.int .i64 (((turns).getD mk (0,0,0,0)).2.1)),(.int .i64 (((turns).getD mk (0,0,0,0)).2.2.1)),(.int .i64 (((turns).getD mk (0,0,0,0)).2.2.2)),(.string ⟨(za3 ((sh2 n1 n4)):List UInt8).toArray⟩),(.string ⟨(za3 ((sh2 n2 n4)):List UInt8).toArray⟩),(.string ⟨(za3 ((sh2 n3 n4)):List UInt8).toArray⟩)] bj) ?_
 refine se ?_
 refine ec 56 (mof_m (t_vt bq) (zV0 (d:=n4) j1) (zV0 (d:=n4) j2) (zV0 (d:=n4) j3) _ (hm.gr hB) (ht.gr hB)) ?_
 rintro em d9 ⟨⟨a2,bc,aY,a7,a8,a6,a1,a4,a5,ba,aN,aF,ak,aB,aS,ax,ae,aG,aa,aQ,ai,aR,aA,au,aq,aJ,aM,av,az,ac,aD,ad,aI,ap,aL,af,aT,aK,ar,aP,ah,aj,aw,aH,aE,ay,al,ab,rfl,a9,bd,aW,a3,bb,a0,aU,aZ,aV,aX,aC,aO⟩,bW⟩
 refine ⟨_,rfl,?_⟩
 replace hB:=hB.trans bW
 simp only [p3,p4]
 refine sv 54 (.tuple #[(.agg #[a2,bc,aY,a7,a8,a6,a1,a4,a5,ba,aN,aF,ak,aB,aS,ax,ae,aG,aa,aQ,ai,aR,aA,au,aq,aJ,aM,av,az,ac,aD,ad,aI,ap,aL,af,aT,aK,ar,aP,ah,aj,aw,aH,aE,ay,al,ab]),.int .i64 0]) ?_
 refine sv 57 (.agg #[a2,bc,aY,a7,a8,a6,a1,a4,a5,ba,aN,aF,ak,aB,aS,ax,ae,aG,aa,aQ,ai,aR,aA,au,aq,aJ,aM,av,az,ac,aD,ad,aI,ap,aL,af,aT,aK,ar,aP,ah,aj,aw,aH,aE,ay,al,ab]) ?_
 refine sv 58 (.int .i64 0) ?_
 refine se ?_
 refine ea 38 #[.bool false,.slice none 0 0,.bool false,.slice none 0 0,.bool false,.slice none 0 0,.bool false,.slice none 0 0,.bool false,.slice none 0 0,.bool false,.slice none 0 0,.bool false,.slice none 0 0,.bool false,.slice none 0 0,.bool false,.slice none 0 0,.bool false,.slice none 0 0,.bool false,.slice none 0 0,.bool false,.slice none 0 0,.bool false,.slice none 0 0,.bool false,.slice none 0 0,.bool false,.slice none 0 0,.bool false,.slice none 0 0,.bool false,.slice none 0 0,.bool false,.slice none 0 0,.bool false,.slice none 0 0,.bool false,.slice none 0 0,.bool false,.slice none 0 0,.bool false,.slice none 0 0,.bool false,.slice none 0 0,.bool false,.slice none 0 0] 8 hB fun d8 eJ du bP di d6 hB=>?_
 replace L3:=(bu.lc ((bv.lc ((bw.lc ((bp.lc (L3.gr b4) bi).gr (bo.trans (bM.trans bK))) bi).gr (bn.trans (bD.trans bH))) bi).gr (bm.trans (bG.trans bF))) bi).gr bW
 have bt:=L3.ne di
 replace bh:=((((((((((((((bh.gr zb5 b4).kts zb5 (bp.kts bT (by decide))).gr zb5 bo).gr zb5 bM).gr zb5 bK).kts zb5 (bw.kts cd (by decide))).gr zb5 bn).gr zb5 bD).gr zb5 bH).kts zb5 (bv.kts bX (by decide))).gr zb5 bm).gr zb5 bG).gr zb5 bF).kts zb5 (bu.kts b9 (by decide))).gr zb5 bW
 have bz:=bh.ne di
 simp only [p3,p4]
 refine se ?_
 have dH:=bP
 refine es 38 0 (.agg #[a2,bc,aY,a7,a8,a6,a1,a4,a5,ba,aN,aF,ak,aB,aS,ax,ae,aG,aa,aQ,ai,aR,aA,au,aq,aJ,aM,av,az,ac,aD,ad,aI,ap,aL,af,aT,aK,ar,aP,ah,aj,aw,aH,aE,ay,al,ab]) [a2,bc,aY,a7,a8,a6,a1,a4,a5,ba,aN,aF,ak,aB,aS,ax,ae,aG,aa,aQ,ai,aR,aA,au,aq,aJ,aM,av,az,ac,aD,ad,aI,ap,aL,af,aT,aK,ar,aP,ah,aj,aw,aH,aE,ay,al,ab] #[a2,bc,aY,a7,a8,a6,a1,a4,a5,ba,aN,aF,ak,aB,aS,ax,ae,aG,aa,aQ,ai,aR,aA,au,aq,aJ,aM,av,az,ac,aD,ad,aI,ap,aL,af,aT,aK,ar,aP,ah,aj,aw,aH,aE,ay,al,ab] bP hB d6 ⟨a9.one0,a9.one1,a9.one2,a9.one3,bd.one0,bd.one1,bd.one2,bd.one3,aW.one0,aW.one1,aW.one2,aW.one3,a3.one0,a3.one1,a3.one2,a3.one3,bb.one0,bb.one1,bb.one2,bb.one3,a0.one0,a0.one1,a0.one2,a0.one3,aU.one0,aU.one1,aU.one2,aU.one3,aZ.one0,aZ.one1,aZ.one2,aZ.one3,aV.one0,aV.one1,aV.one2,aV.one3,aX.one0,aX.one1,aX.one2,aX.one3,aC.one0,aC.one1,aC.one2,aC.one3,aO.one0,aO.one1,aO.one2,aO.one3,trivial⟩ fun eC bU bS bP hB=>?_
 refine sv 9 (.int .i64 0) ?_
 refine za0 ?_
 refine cO _ _ ?_
 try clear cO dL
 refine wp_seq_k (fun dB dd=>?_)
 refine rg [0,1,2,3,4] ?_
 refine sw 59 (.agg #[a2,bc,aY,a7,a8,a6,a1,a4,a5,ba,aN,aF,ak,aB,aS,ax,ae,aG,aa,aQ,ai,aR,aA,au,aq,aJ,aM,av,az,ac,aD,ad,aI,ap,aL,af,aT,aK,ar,aP,ah,aj,aw,aH,aE,ay,al,ab]) rfl (rl 38 0 [a2,bc,aY,a7,a8,a6,a1,a4,a5,ba,aN,aF,ak,aB,aS,ax,ae,aG,aa,aQ,ai,aR,aA,au,aq,aJ,aM,av,az,ac,aD,ad,aI,ap,aL,af,aT,aK,ar,aP,ah,aj,aw,aH,aE,ay,al,ab] bP) ?_
 refine sv 60 (.int .i64 0) ?_
 refine sv 61 (.bool true) ?_
 refine se ?_
 replace L3:=bU.lc (L3.gr du) bt
 have d5:=L3
 refine es 38 0 (.agg #[a2,bc,aY,a7,a8,a6,a1,a4,a5,ba,aN,aF,ak,aB,aS,ax,ae,aG,aa,aQ,ai,aR,aA,au,aq,aJ,aM,av,az,ac,aD,ad,aI,ap,aL,af,aT,aK,ar,aP,ah,aj,aw,aH,aE,ay,al,ab]) [a2,bc,aY,a7,a8,a6,a1,a4,a5,ba,aN,aF,ak,aB,aS,ax,ae,aG,aa,aQ,ai,aR,aA,au,aq,aJ,aM,av,az,ac,aD,ad,aI,ap,aL,af,aT,aK,ar,aP,ah,aj,aw,aH,aE,ay,al,ab] #[a2,bc,aY,a7,a8,a6,a1,a4,a5,ba,aN,aF,ak,aB,aS,ax,ae,aG,aa,aQ,ai,aR,aA,au,aq,aJ,aM,av,az,ac,aD,ad,aI,ap,aL,af,aT,aK,ar,aP,ah,aj,aw,aH,aE,ay,al,ab] L3 hB q3 ⟨a9.one0,a9.one1,a9.one2,a9.one3,bd.one0,bd.one1,bd.one2,bd.one3,aW.one0,aW.one1,aW.one2,aW.one3,a3.one0,a3.one1,a3.one2,a3.one3,bb.one0,bb.one1,bb.one2,bb.one3,a0.one0,a0.one1,a0.one2,a0.one3,aU.one0,aU.one1,aU.one2,aU.one3,aZ.one0,aZ.one1,aZ.one2,aZ.one3,aV.one0,aV.one1,aV.one2,aV.one3,aX.one0,aX.one1,aX.one2,aX.one3,aC.one0,aC.one1,aC.one2,aC.one3,aO.one0,aO.one1,aO.one2,aO.one3,trivial⟩ fun eB d1 cc L3 hB=>?_
 refine sv 3 (.bool true) ?_
 refine za0 ?_
 refine dd _ _ ?_
 try clear dd dB
 refine wp_ret ?_
 refine bodyPost_ret (v:=(.tuple #[(.agg #[a2,bc,aY,a7,a8,a6,a1,a4,a5,ba,aN,aF,ak,aB,aS,ax,ae,aG,aa,aQ,ai,aR,aA,au,aq,aJ,aM,av,az,ac,aD,ad,aI,ap,aL,af,aT,aK,ar,aP,ah,aj,aw,aH,aE,ay,al,ab]),.bool true])) (za9 _ _ _ rfl rfl L3 (by kernel_rfl) rfl) rfl ⟨?_,hB⟩
 have bf:=du.kp.trans (bS.trans cc)
 replace a9:=a9.kp bf
 replace bd:=bd.kp bf
 replace aW:=aW.kp bf
 replace a3:=a3.kp bf
 replace bb:=bb.kp bf
 replace a0:=a0.kp bf
 replace aU:=aU.kp bf
 replace aZ:=aZ.kp bf
 replace aV:=aV.kp bf
 replace aX:=aX.kp bf
 replace aC:=aC.kp bf
 replace aO:=aO.kp bf
 exact ⟨_,_,_,_,_,_,_,_,_,_,_,_,_,_,_,_,_,_,_,_,_,_,_,_,_,_,_,_,_,_,_,_,_,_,_,_,_,_,_,_,_,_,_,_,_,_,_,_,rfl,a9,bd,aW,a3,bb,a0,aU,aZ,aV,aX,aC,aO⟩

theorem moved_c (n0 n1 n2 n3 n4:Int) (j0:0≤n0∧n0≤255) (j1:0≤n1∧n1≤255) (j2:0≤n2∧n2≤255) (j3:0≤n3∧n3≤255) (j4:0≤n4∧n4≤255) (w:World) (ht:Tab w) (hm:Mx w):
  Calls Tryz.prog 36 #[.agg #[.int .u8 n0,.int .u8 n1,.int .u8 n2,.int .u8 n3,.int .u8 n4]] w fun e w'=>(∃ vs:List Value,e=.returned (.tuple #[.agg vs.toArray,.bool true])∧IsRats w' vs (oList (tq n0 0) (tq n0 1) (tq n0 2) (tq n0 3) (sh2 n1 n4) (sh2 n2 n4) (sh2 n3 n4)))∧Gr w w':=by
 refine (moved9 n0 n1 n2 n3 n4 j0 j1 j2 j3 j4 (n0 % 28).toNat (by omega) (by omega) w ht hm).mono fun e w' he=>⟨?_,he.2⟩
 obtain ⟨⟨t0,t1,t2,t3,t4,t5,t6,t7,t8,t9,aK,aq,ak,aC,aB,aT,ap,aw,ad,aj,ax,aN,aQ,aA,aG,af,av,aF,aa,ac,aH,ae,aE,aP,aS,au,aM,ay,al,aL,ai,aD,aI,aR,ab,aJ,ah,aO,rfl,f0,f1,f2,f3,f4,f5,f6,f7,f8,f9,ar,az⟩,_⟩:=he
 exact ⟨[t0,t1,t2,t3,t4,t5,t6,t7,t8,t9,aK,aq,ak,aC,aB,aT,ap,aw,ad,aj,ax,aN,aQ,aA,aG,af,av,aF,aa,ac,aH,ae,aE,aP,aS,au,aM,ay,al,aL,ai,aD,aI,aR,ab,aJ,ah,aO],rfl,f0,f1,f2,f3,f4,f5,f6,f7,f8,f9,ar,az,trivial⟩

theorem zM0 (z:Int):za3 (z:Rat)=Lib.itoa z:=by rw [zK8 (Rat.den_intCast _),Rat.num_intCast]
theorem zc7 {q:Rat} {L:List UInt8} (z:Nat) (e:q=((z:Int):Rat)) (h1:z<10) (hL:[UInt8.ofNat (48+z)]=L):za3 q=L:=by
 rw [e,zM0,← hL]
 unfold Lib.itoa
 rw [if_neg (by omega),Int.toNat_natCast,zc4 h1]
theorem ratL_neg {q:Rat} {L:List UInt8} (z:Nat) (e:q=((-(z:Int):Int):Rat)) (h0:0<z) (h1:z<10) (hL:[45,UInt8.ofNat (48+z)]=L):za3 q=L:=by
 rw [e,zM0,← hL]
 unfold Lib.itoa
 rw [if_pos (by omega)]
 have:(-(z:Int)).natAbs=z:=by omega
 rw [this,zc4 h1]
theorem litx1 {P:Program} {f:FuncId} {args:Array Value} {w:World} {a0:Rat} {X0:List UInt8} (h:Calls P f args w fun e w'=>e=.returned (.string ⟨(za3 a0:List UInt8).toArray⟩)∧Gr w w') (e0:za3 a0=X0):
  Calls P f args w fun e w'=>e=.returned (.string ⟨(X0:List UInt8).toArray⟩)∧Gr w w':=by
 rw [e0] at h
 exact h

theorem litx3 {P:Program} {f:FuncId} {args:Array Value} {w:World} {a0 a1 a2:Rat} {X0 X1 X2:List UInt8} (h:Calls P f args w fun e w'=>e=.returned (.agg #[.string ⟨(za3 a0:List UInt8).toArray⟩,.string ⟨(za3 a1:List UInt8).toArray⟩,.string ⟨(za3 a2:List UInt8).toArray⟩])∧Gr w w') (e0:za3 a0=X0) (e1:za3 a1=X1) (e2:za3 a2=X2):
  Calls P f args w fun e w'=>e=.returned (.agg #[.string ⟨(X0:List UInt8).toArray⟩,.string ⟨(X1:List UInt8).toArray⟩,.string ⟨(X2:List UInt8).toArray⟩])∧Gr w w':=by
 rw [e0,e1,e2] at h
 exact h

theorem litx6 {P:Program} {f:FuncId} {args:Array Value} {w:World} {a0 a1 a2 a3 a4 a5:Rat} {X0 X1 X2 X3 X4 X5:List UInt8} (h:Calls P f args w fun e w'=>e=.returned (.agg #[.string ⟨(za3 a0:List UInt8).toArray⟩,.string ⟨(za3 a1:List UInt8).toArray⟩,.string ⟨(za3 a2:List UInt8).toArray⟩,.string ⟨(za3 a3:List UInt8).toArray⟩,.string ⟨(za3 a4:List UInt8).toArray⟩,.string ⟨(za3 a5:List UInt8).toArray⟩])∧Gr w w') (e0:za3 a0=X0) (e1:za3 a1=X1) (e2:za3 a2=X2) (e3:za3 a3=X3) (e4:za3 a4=X4) (e5:za3 a5=X5):
  Calls P f args w fun e w'=>e=.returned (.agg #[.string ⟨(X0:List UInt8).toArray⟩,.string ⟨(X1:List UInt8).toArray⟩,.string ⟨(X2:List UInt8).toArray⟩,.string ⟨(X3:List UInt8).toArray⟩,.string ⟨(X4:List UInt8).toArray⟩,.string ⟨(X5:List UInt8).toArray⟩])∧Gr w w':=by
 rw [e0,e1,e2,e3,e4,e5] at h
 exact h

set_option maxRecDepth 100000 in
set_option maxHeartbeats 4000000 in
theorem known_t (w:World) (ht:Tab w):
    Calls Tryz.prog 6 #[] w fun e w'=>e=.returned (.bool true)∧Gr w w':=by
 go_enter Tryz.func6,Tryz.ntmps6
 have hB:=Gr.refl w
 refine wp_seq_k (fun K1 k1=>?_)
 refine rg [0] ?_
 refine sv 0 (.bool false) ?_
 refine za0 ?_
 refine k1 _ _ ?_
 try clear k1 K1
 refine wp_seq_k (fun K2 k2=>?_)
 refine rg [0,1,2,3,4,5,6] ?_
 refine sv 3 (.agg #[.int .i64 0,.int .i64 0,.int .i64 1]) ?_
 refine se ?_
 refine ec 4 (zU2 (0) (0) (1) (by omega) (by omega) (by omega) _) ?_
 rintro e3 w3 ⟨⟨dv,dL,dw,dx,du,dq,dm,dl,dn,dD,cG,cN,rfl,cd,b7,cc⟩,g3⟩
 refine ⟨_,rfl,?_⟩
 replace hB:=hB.trans g3
 rw [show ((((0:Int):Rat)):Rat)=(0:Rat) from by kernel_rfl] at cd
 rw [show ((((0:Int):Rat)):Rat)=(0:Rat) from by kernel_rfl] at b7
 rw [show ((((1:Int):Rat)):Rat)=(1:Rat) from by kernel_rfl] at cc
 simp only [p3,p4]
 refine sv 5 (.agg #[.int .i64 1,.int .i64 0,.int .i64 0]) ?_
 refine se ?_
 refine ec 6 (zU2 (1) (0) (0) (by omega) (by omega) (by omega) _) ?_
 rintro e4 w4 ⟨⟨dy,dF,dA,dI,dp,dt,dj,dC,dK,dE,dd,dh,rfl,dc,cZ,cO⟩,g4⟩
 refine ⟨_,rfl,?_⟩
 replace hB:=hB.trans g4
 rw [show ((((1:Int):Rat)):Rat)=(1:Rat) from by kernel_rfl] at dc
 rw [show ((((0:Int):Rat)):Rat)=(0:Rat) from by kernel_rfl] at cZ
 rw [show ((((0:Int):Rat)):Rat)=(0:Rat) from by kernel_rfl] at cO
 simp only [p3,p4]
 refine se ?_
 replace cd:=cd.kp g4.kp
 replace b7:=b7.kp g4.kp
 replace cc:=cc.kp g4.kp
 refine ec 7 (trot_v cd b7 cc dc cZ cO (by omega)) ?_
 rintro e5 w5 ⟨⟨a4,bb,a2,a6,aY,a3,a8,a7,bd,aZ,aM,aK,aF,aD,ay,aB,aL,aC,aH,aE,aA,aG,aI,az,rfl,bm,bo,bn,bj,bk,bi⟩,g5⟩
 refine ⟨_,rfl,?_⟩
 replace hB:=hB.trans g5
 rw [show (((0:Rat)*(1:Rat) - (0:Rat)*(0:Rat)):Rat)=(0:Rat) from by kernel_rfl] at bj
 rw [show (((0:Rat)*(0:Rat) - (1:Rat)*(1:Rat)):Rat)=(-1:Rat) from by kernel_rfl] at bk
 rw [show (((1:Rat)*(0:Rat) - (0:Rat)*(0:Rat)):Rat)=(0:Rat) from by kernel_rfl] at bi
 simp only [p3,p4]
 refine se ?_
 refine ea 42 #[.bool false,.slice none 0 0,.bool false,.slice none 0 0,.bool false,.slice none 0 0,.bool false,.slice none 0 0,.bool false,.slice none 0 0,.bool false,.slice none 0 0,.bool false,.slice none 0 0,.bool false,.slice none 0 0,.bool false,.slice none 0 0,.bool false,.slice none 0 0,.bool false,.slice none 0 0,.bool false,.slice none 0 0] 1 hB fun b6 w6 g6 L6 o6 q6 hB=>?_
 simp only [p3,p4]
 refine se ?_
 refine es 42 0 (.agg #[a4,bb,a2,a6,aY,a3,a8,a7,bd,aZ,aM,aK,aF,aD,ay,aB,aL,aC,aH,aE,aA,aG,aI,az]) [a4,bb,a2,a6,aY,a3,a8,a7,bd,aZ,aM,aK,aF,aD,ay,aB,aL,aC,aH,aE,aA,aG,aI,az] #[a4,bb,a2,a6,aY,a3,a8,a7,bd,aZ,aM,aK,aF,aD,ay,aB,aL,aC,aH,aE,aA,aG,aI,az] L6 hB q6 ⟨bm.one0,bm.one1,bm.one2,bm.one3,bo.one0,bo.one1,bo.one2,bo.one3,bn.one0,bn.one1,bn.one2,bn.one3,bj.one0,bj.one1,bj.one2,bj.one3,bk.one0,bk.one1,bk.one2,bk.one3,bi.one0,bi.one1,bi.one2,bi.one3,trivial⟩ fun w7 dU dk L6 hB=>?_
 refine za0 ?_
 refine k2 _ _ ?_
 try clear k2 K2
 refine wp_seq_k (fun K8 k8=>?_)
 refine rg [0,1,2,3,4,5,6,7] ?_
 refine sv 8 (.agg #[.int .i64 0,.int .i64 0,.int .i64 2]) ?_
 refine se ?_
 refine ec 9 (zU2 (0) (0) (2) (by omega) (by omega) (by omega) _) ?_
 rintro e9 w9 ⟨⟨cj,cy,ck,cn,cC,cg,ch,cm,cl,cB,bN,bX,rfl,ce,b9,ca⟩,g9⟩
 refine ⟨_,rfl,?_⟩
 replace hB:=hB.trans g9
 rw [show ((((0:Int):Rat)):Rat)=(0:Rat) from by kernel_rfl] at ce
 rw [show ((((0:Int):Rat)):Rat)=(0:Rat) from by kernel_rfl] at b9
 rw [show ((((2:Int):Rat)):Rat)=(2:Rat) from by kernel_rfl] at ca
 simp only [p3,p4]
 refine sv 10 (.agg #[.int .i64 0,(.int .i64 (-2)),.int .i64 4]) ?_
 refine se ?_
 refine ec 11 (zU2 (0) (-2) (4) (by omega) (by omega) (by omega) _) ?_
 rintro dS dX ⟨⟨b5,bW,b4,bY,bT,bJ,bD,bQ,bL,bE,bt,bw,rfl,bG,bS,bO⟩,bA⟩
 refine ⟨_,rfl,?_⟩
 replace hB:=hB.trans bA
 rw [show ((((0:Int):Rat)):Rat)=(0:Rat) from by kernel_rfl] at bG
 rw [show ((((-2:Int):Rat)):Rat)=(-2:Rat) from by kernel_rfl] at bS
 rw [show ((((4:Int):Rat)):Rat)=(4:Rat) from by kernel_rfl] at bO
 simp only [p3,p4]
 refine sv 12 (.agg #[cj,cy,ck,cn,cC,cg,ch,cm,cl,cB,bN,bX,b5,bW,b4,bY,bT,bJ,bD,bQ,bL,bE,bt,bw]) ?_
 refine se ?_
 replace ce:=ce.kp bA.kp
 replace b9:=b9.kp bA.kp
 replace ca:=ca.kp bA.kp
 refine ec 13 (axis_s ce b9 ca bG bS bO (by omega) (by decide+kernel) (by decide+kernel)) ?_
 rintro e11 dN ⟨⟨aU,aR,aO,aN,aQ,aV,aW,aP,aT,aS,ae,ab,al,ak,av,au,ad,ar,aj,ac,ai,ap,aw,aa,aq,ah,af,ax,rfl,bc,a9,aX,ba,a5,a1,a0⟩,cA⟩
 refine ⟨_,rfl,?_⟩
 replace hB:=hB.trans cA
 rw [show ((prim ((0:Rat)) ((0:Rat)) ((2:Rat)) ((0:Rat))):Rat)=(0:Rat) from by kernel_rfl] at bc
 rw [show ((prim ((0:Rat)) ((0:Rat)) ((2:Rat)) ((0:Rat))):Rat)=(0:Rat) from by kernel_rfl] at a9
 rw [show ((prim ((0:Rat)) ((0:Rat)) ((2:Rat)) ((2:Rat))):Rat)=(1:Rat) from by kernel_rfl] at aX
 rw [show (((((1:Int):Rat)/(0+(0:Rat)*(0:Rat)+(0:Rat)*(0:Rat)+(2:Rat)*(2:Rat)))*((0:Rat)*(4:Rat) - (2:Rat)*(-2:Rat))):Rat)=(1:Rat) from by kernel_rfl] at ba
 rw [show (((((1:Int):Rat)/(0+(0:Rat)*(0:Rat)+(0:Rat)*(0:Rat)+(2:Rat)*(2:Rat)))*((2:Rat)*(0:Rat) - (0:Rat)*(4:Rat))):Rat)=(0:Rat) from by kernel_rfl] at a5
 rw [show (((((1:Int):Rat)/(0+(0:Rat)*(0:Rat)+(0:Rat)*(0:Rat)+(2:Rat)*(2:Rat)))*((0:Rat)*(-2:Rat) - (0:Rat)*(0:Rat))):Rat)=(0:Rat) from by kernel_rfl] at a1
 rw [show (((0+(0:Rat)*(0:Rat)+(0:Rat)*(-2:Rat)+(2:Rat)*(4:Rat))*(((1:Int):Rat)/(0+(0:Rat)*(0:Rat)+(0:Rat)*(0:Rat)+(2:Rat)*(2:Rat)))):Rat)=(2:Rat) from by kernel_rfl] at a0
 simp only [p3,p4]
 refine se ?_
 refine ea 82 #[.int .i64 0,.bool false,.slice none 0 0,.bool false,.slice none 0 0,.bool false,.slice none 0 0,.bool false,.slice none 0 0,.bool false,.slice none 0 0,.bool false,.slice none 0 0,.bool false,.slice none 0 0,.bool false,.slice none 0 0,.bool false,.slice none 0 0,.bool false,.slice none 0 0,.bool false,.slice none 0 0,.bool false,.slice none 0 0,.bool false,.slice none 0 0,.bool false,.slice none 0 0] 2 hB fun bU dW bP aJ dH dB hB=>?_
 replace L6:=L6.gr (g9.trans (bA.trans cA))
 have bq:=L6.ne dH
 simp only [p3,p4]
 refine se ?_
 refine es 82 0 (.agg #[.int .i64 3,aU,aR,aO,aN,aQ,aV,aW,aP,aT,aS,ae,ab,al,ak,av,au,ad,ar,aj,ac,ai,ap,aw,aa,aq,ah,af,ax]) [.int .i64 3,aU,aR,aO,aN,aQ,aV,aW,aP,aT,aS,ae,ab,al,ak,av,au,ad,ar,aj,ac,ai,ap,aw,aa,aq,ah,af,ax] #[.int .i64 3,aU,aR,aO,aN,aQ,aV,aW,aP,aT,aS,ae,ab,al,ak,av,au,ad,ar,aj,ac,ai,ap,aw,aa,aq,ah,af,ax] aJ hB dB ⟨rfl,bc.one0,bc.one1,bc.one2,bc.one3,a9.one0,a9.one1,a9.one2,a9.one3,aX.one0,aX.one1,aX.one2,aX.one3,ba.one0,ba.one1,ba.one2,ba.one3,a5.one0,a5.one1,a5.one2,a5.one3,a1.one0,a1.one1,a1.one2,a1.one3,a0.one0,a0.one1,a0.one2,a0.one3,trivial⟩ fun dJ cF bp aJ hB=>?_
 refine za0 ?_
 refine k8 _ _ ?_
 try clear k8 K8
 refine wp_seq_k (fun dG cQ=>?_)
 have bf:=Gr.drew dJ
 replace hB:=hB.trans bf
 replace L6:=(cF.lc (L6.gr bP) bq).gr bf
 replace aJ:=aJ.gr bf
 refine za1 (fun w'=>Lc w' b6 #[a4,bb,a2,a6,aY,a3,a8,a7,bd,aZ,aM,aK,aF,aD,ay,aB,aL,aC,aH,aE,aA,aG,aI,az] 42∧Lc w' bU #[.int .i64 3,aU,aR,aO,aN,aQ,aV,aW,aP,aT,aS,ae,ab,al,ak,av,au,ad,ar,aj,ac,ai,ap,aw,aa,aq,ah,af,ax] 82) [(true,0),(true,2),(false,1),(true,3),(true,4),(true,5),(true,6),(true,10),(false,7),(false,8),(false,9),(true,11),(true,12),(true,13),(true,14),(true,15),(true,16),(true,17),(true,18),(true,19),(true,20),(true,22),(false,21),(true,23),(true,24),(true,25),(true,26),(true,27),(true,29),(false,28),(true,30),(true,31),(true,32),(true,33),(true,34),(false,35),(true,36),(true,37),(true,38)] (by kernel_rfl) (by kernel_rfl) (by kernel_rfl) (by decide) (fun _ _ _ _ _ h=>h) ⟨L6,aJ⟩ ?_
 refine ow 14 (.agg #[a4,bb,a2,a6,aY,a3,a8,a7,bd,aZ,aM,aK,aF,aD,ay,aB,aL,aC,aH,aE,aA,aG,aI,az]) rfl (fun w' hS=>(rl 42 0 [a4,bb,a2,a6,aY,a3,a8,a7,bd,aZ,aM,aK,aF,aD,ay,aB,aL,aC,aH,aE,aA,aG,aI,az] hS.1)) ?_
 refine ov 16 (.agg #[(.string ⟨([48]:List UInt8).toArray⟩),(.string ⟨([48]:List UInt8).toArray⟩),(.string ⟨([49]:List UInt8).toArray⟩),(.string ⟨([48]:List UInt8).toArray⟩),(.string ⟨([45,49]:List UInt8).toArray⟩),(.string ⟨([48]:List UInt8).toArray⟩)]) ?_
 refine oe ?_
 have bh:=g6.kp.trans (dk.trans (g9.kp.trans (bA.kp.trans (cA.kp.trans (bP.kp.trans (bp.trans bf.kp))))))
 replace bm:=bm.kp bh
 replace bo:=bo.kp bh
 replace bn:=bn.kp bh
 replace bj:=bj.kp bh
 replace bk:=bk.kp bh
 replace bi:=bi.kp bh
 refine ec 15 (litx6 (zP4 bm bo bn bj bk bi (by omega) (ht.gr hB)) (zc7 0 (by kernel_rfl) (by decide) rfl) (zc7 0 (by kernel_rfl) (by decide) rfl) (zc7 1 (by kernel_rfl) (by decide) rfl) (zc7 0 (by kernel_rfl) (by decide) rfl) (ratL_neg 1 (by kernel_rfl) (by decide) (by decide) rfl) (zc7 0 (by kernel_rfl) (by decide) rfl)) ?_
 rintro dO dQ ⟨rfl,bv⟩
 refine ⟨_,rfl,?_⟩
 replace hB:=hB.trans bv
 replace L6:=L6.gr bv
 replace aJ:=aJ.gr bv
 refine ⟨⟨L6,aJ⟩,?_⟩
 simp only [p3,p4]
 refine ov 17 (.bool true) ?_
 refine ov 18 (.bool true) ?_
 refine ow 19 (.agg #[a4,bb,a2,a6,aY,a3,a8,a7,bd,aZ,aM,aK,aF,aD,ay,aB,aL,aC,aH,aE,aA,aG,aI,az]) rfl (fun w' hS=>(rl 42 0 [a4,bb,a2,a6,aY,a3,a8,a7,bd,aZ,aM,aK,aF,aD,ay,aB,aL,aC,aH,aE,aA,aG,aI,az] hS.1)) ?_
 refine ov 20 (.agg #[.int .i64 2,.int .i64 0,.int .i64 0]) ?_
 refine ov 24 (.agg #[(.string ⟨([48]:List UInt8).toArray⟩),(.string ⟨([49]:List UInt8).toArray⟩),(.string ⟨([48]:List UInt8).toArray⟩)]) ?_
 refine oe ?_
 refine ec 21 (zU2 (2) (0) (0) (by omega) (by omega) (by omega) _) ?_
 rintro dR d4 ⟨⟨de,cH,cR,cL,cW,cU,cJ,cS,cP,cX,cq,cu,rfl,bH,bK,bR⟩,bu⟩
 refine ⟨_,rfl,?_⟩
 replace hB:=hB.trans bu
 rw [show ((((2:Int):Rat)):Rat)=(2:Rat) from by kernel_rfl] at bH
 rw [show ((((0:Int):Rat)):Rat)=(0:Rat) from by kernel_rfl] at bK
 rw [show ((((0:Int):Rat)):Rat)=(0:Rat) from by kernel_rfl] at bR
 replace L6:=L6.gr bu
 replace aJ:=aJ.gr bu
 refine ⟨⟨L6,aJ⟩,?_⟩
 simp only [p3,p4]
 refine oe ?_
 have bg:=bv.kp.trans bu.kp
 replace bm:=bm.kp bg
 replace bo:=bo.kp bg
 replace bn:=bn.kp bg
 replace bj:=bj.kp bg
 replace bk:=bk.kp bg
 replace bi:=bi.kp bg
 refine ec 22 (tvel_v (bm.mono (show _≤257 by omega)) (bo.mono (show _≤257 by omega)) (bn.mono (show _≤257 by omega)) bj bk bi bH bK bR (by omega)) ?_
 rintro dM dY ⟨⟨da,cT,cY,df,db,cK,di,cM,c9,cV,cE,cD,rfl,bM,bZ,bV⟩,bB⟩
 refine ⟨_,rfl,?_⟩
 replace hB:=hB.trans bB
 rw [show (((0:Rat)+((0:Rat)*(0:Rat) - (1:Rat)*(0:Rat))):Rat)=(0:Rat) from by kernel_rfl] at bM
 rw [show (((-1:Rat)+((1:Rat)*(2:Rat) - (0:Rat)*(0:Rat))):Rat)=(1:Rat) from by kernel_rfl] at bZ
 rw [show (((0:Rat)+((0:Rat)*(0:Rat) - (0:Rat)*(2:Rat))):Rat)=(0:Rat) from by kernel_rfl] at bV
 replace L6:=L6.gr bB
 replace aJ:=aJ.gr bB
 refine ⟨⟨L6,aJ⟩,?_⟩
 simp only [p3,p4]
 refine oe ?_
 refine ec 23 (litx3 (zG7 bM bZ bV (by omega) (ht.gr hB)) (zc7 0 (by kernel_rfl) (by decide) rfl) (zc7 1 (by kernel_rfl) (by decide) rfl) (zc7 0 (by kernel_rfl) (by decide) rfl)) ?_
 rintro dV dT ⟨rfl,bC⟩
 refine ⟨_,rfl,?_⟩
 replace hB:=hB.trans bC
 replace L6:=L6.gr bC
 replace aJ:=aJ.gr bC
 refine ⟨⟨L6,aJ⟩,?_⟩
 simp only [p3,p4]
 refine ov 25 (.bool true) ?_
 refine ov 26 (.bool true) ?_
 refine ov 27 (.bool true) ?_
 refine ov 28 (.pointer (some ⟨bU,0,none⟩)) ?_
 refine ow 29 (.int .i64 3) rfl (fun w' hS=>(rk 3 0 hS.2)) ?_
 refine ov 30 (.bool true) ?_
 refine ov 31 (.bool true) ?_
 refine ov 32 (.bool true) ?_
 refine ov 33 (.pointer (some ⟨bU,1,none⟩)) ?_
 refine ow 34 (.agg #[aU,aR,aO,aN,aQ,aV,aW,aP,aT,aS,ae,ab]) rfl (fun w' hS=>(rl 35 1 [aU,aR,aO,aN,aQ,aV,aW,aP,aT,aS,ae,ab] hS.2)) ?_
 refine ov 36 (.agg #[(.string ⟨([48]:List UInt8).toArray⟩),(.string ⟨([48]:List UInt8).toArray⟩),(.string ⟨([49]:List UInt8).toArray⟩)]) ?_
 refine oe ?_
 have bz:=bP.kp.trans (bp.trans (bf.kp.trans (bv.kp.trans (bu.kp.trans (bB.kp.trans bC.kp)))))
 replace bc:=bc.kp bz
 replace a9:=a9.kp bz
 replace aX:=aX.kp bz
 refine ec 35 (litx3 (zG7 bc a9 aX (by omega) (ht.gr hB)) (zc7 0 (by kernel_rfl) (by decide) rfl) (zc7 0 (by kernel_rfl) (by decide) rfl) (zc7 1 (by kernel_rfl) (by decide) rfl)) ?_
 rintro d3 dP ⟨rfl,bF⟩
 refine ⟨_,rfl,?_⟩
 replace hB:=hB.trans bF
 replace L6:=L6.gr bF
 replace aJ:=aJ.gr bF
 refine ⟨⟨L6,aJ⟩,?_⟩
 simp only [p3,p4]
 refine ov 37 (.bool true) ?_
 refine ov 38 (.bool true) ?_
 refine ov 39 (.bool true) ?_
 refine ov 40 (.pointer (some ⟨bU,13,none⟩)) ?_
 refine ow 41 (.agg #[al,ak,av,au,ad,ar,aj,ac,ai,ap,aw,aa]) rfl (fun w' hS=>(rl 35 13 [al,ak,av,au,ad,ar,aj,ac,ai,ap,aw,aa] hS.2)) ?_
 refine ov 43 (.agg #[(.string ⟨([49]:List UInt8).toArray⟩),(.string ⟨([48]:List UInt8).toArray⟩),(.string ⟨([48]:List UInt8).toArray⟩)]) ?_
 refine oe ?_
 have bx:=bP.kp.trans (bp.trans (bf.kp.trans (bv.kp.trans (bu.kp.trans (bB.kp.trans (bC.kp.trans bF.kp))))))
 replace ba:=ba.kp bx
 replace a5:=a5.kp bx
 replace a1:=a1.kp bx
 refine ec 42 (litx3 (zG7 ba a5 a1 (by omega) (ht.gr hB)) (zc7 1 (by kernel_rfl) (by decide) rfl) (zc7 0 (by kernel_rfl) (by decide) rfl) (zc7 0 (by kernel_rfl) (by decide) rfl)) ?_
 rintro d0 d1 ⟨rfl,b8⟩
 refine ⟨_,rfl,?_⟩
 replace hB:=hB.trans b8
 replace L6:=L6.gr b8
 replace aJ:=aJ.gr b8
 refine ⟨⟨L6,aJ⟩,?_⟩
 simp only [p3,p4]
 refine ov 44 (.bool true) ?_
 refine ov 45 (.bool true) ?_
 refine ov 46 (.bool true) ?_
 refine ov 47 (.pointer (some ⟨bU,25,none⟩)) ?_
 refine ow 48 (.agg #[aq,ah,af,ax]) rfl (fun w' hS=>(rl 33 25 [aq,ah,af,ax] hS.2)) ?_
 refine oe ?_
 have cx:=bP.kp.trans (bp.trans (bf.kp.trans (bv.kp.trans (bu.kp.trans (bB.kp.trans (bC.kp.trans (bF.kp.trans b8.kp)))))))
 replace a0:=a0.kp cx
 refine ec 49 (litx1 (zh4 a0 (by omega) (ht.gr hB)) (zc7 2 (by kernel_rfl) (by decide) rfl)) ?_
 rintro d2 dZ ⟨rfl,co⟩
 refine ⟨_,rfl,?_⟩
 replace hB:=hB.trans co
 replace L6:=L6.gr co
 replace aJ:=aJ.gr co
 refine ⟨⟨L6,aJ⟩,?_⟩
 simp only [p3,p4]
 refine ov 50 (.bool true) ?_
 refine ov 51 (.bool true) ?_
 refine ov 0 (.bool true) ?_
 refine za2 ?_
 refine cQ _ _ ?_
 try clear cQ dG
 refine wp_ret ?_
 refine bodyPost_ret (v:=(.bool true)) (zb6 rfl rfl) rfl ⟨?_,hB⟩
 exact rfl

def cKn17:ConT:=fun args _ _=>match args with
 | []=>some (.leaf (.so (.vc (.cb true (some true)))) 0 0)
 | _=>none
theorem zL3 {I:World→Prop} (hI:∀ w,I w→Tab w):ConOK Tryz.prog I 6 cKn17:=by
 intro args E n w T hw _ hT _
 unfold cKn17 at hT
 split at hT
 ·cases hT
  exact (known_t w (hI w hw)).mono fun e w' he=>zh7 he ⟨rfl,fun v hv=>by cases hv;rfl⟩
 ·cases hT
def inb (l h:Int):Bool:=ile 0 l&&ile h 255
theorem zD3 {z lo hi:Int} (h:inb lo hi=true) (h0:lo≤z∧z≤hi):0≤z∧z≤255:=by
 unfold inb at h
 simp only [zg4,Bool.and_eq_true,decide_eq_true_eq] at h
 omega
def mvL (n0 n1 n2 n3 n4:Int):List (Nat × Rat):=oList (tq n0 0) (tq n0 1) (tq n0 2) (tq n0 3) (sh2 n1 n4) (sh2 n2 n4) (sh2 n3 n4)
def cMvd:ConT:=fun args nr _=>match args with
 | [.so (.vg [.ci .u8 n0 a0 b0,.ci .u8 n1 a1 b1,.ci .u8 n2 a2 b2,.ci .u8 n3 a3 b3,.ci .u8 n4 a4 b4])]=>tr (inb a0 b0&&inb a1 b1&&inb a2 b2&&inb a3 b3&&inb a4 b4) (.leaf (.st [.vg (zh8 nr (mvL n0 n1 n2 n3 n4)),.vc (.cb true (some true))]) 12 0)
 | _=>none
theorem zG8 {n:Nn} {X:Env} {w w':World} {e:Ending} {l:List (Nat × Rat)} (h:(∃ vs:List Value,e=.returned (.tuple #[.agg vs.toArray,.bool true])∧IsRats w' vs l)∧Gr w w'):(Tr.leaf (.st [.vg (zh8 n.r l),.vc (.cb true (some true))]) l.length 0).holds n X w e w':=by
 obtain ⟨⟨vs,rfl,h1⟩,g⟩:=h
 obtain ⟨a,b⟩:=zw2 (X:=X) (n:=n) vs l vs 0 (n.r+l.length) h1 rfl (by omega)
 refine ⟨zO5 X n.r vs,?_,g,zO6 X n vs,fun x hx=>?_⟩
 ·simp only [SV.den,TV.den,List.map,Cl.den,dnL]
  rw [show zh8 n.r l=zh8 (n.r+0) l from rfl,a]
 ·simp only [List.mem_cons,List.not_mem_nil,or_false] at hx
  rcases hx with rfl | rfl
  ·exact b
  ·exact ⟨rfl,fun v hv=>by cases hv;rfl⟩
theorem zT7 {I:World→Prop} (hI:∀ w,I w→Tab w∧Mx w):ConOK Tryz.prog I 36 cMvd:=by
 intro args E n w T hw ha hT _
 unfold cMvd at hT
 split at hT
 ·rename_i n0 a0 b0 n1 a1 b1 n2 a2 b2 n3 a3 b3 n4 a4 b4
  obtain ⟨hb,rfl⟩:=zg6 hT
  simp only [Bool.and_eq_true] at hb
  obtain ⟨⟨⟨⟨c0,c1⟩,c2⟩,c3⟩,c4⟩:=hb
  have g:=fun c hc=>ha _ (List.mem_singleton.2 rfl) c hc
  have g0:=zD3 c0 (g (.ci .u8 n0 a0 b0) (by simp)).2
  have g1:=zD3 c1 (g (.ci .u8 n1 a1 b1) (by simp)).2
  have g2:=zD3 c2 (g (.ci .u8 n2 a2 b2) (by simp)).2
  have g3:=zD3 c3 (g (.ci .u8 n3 a3 b3) (by simp)).2
  have g4:=zD3 c4 (g (.ci .u8 n4 a4 b4) (by simp)).2
  exact (moved_c n0 n1 n2 n3 n4 g0 g1 g2 g3 g4 w (hI w hw).1 (hI w hw).2).mono fun e w' he=>zG8 (l:=mvL n0 n1 n2 n3 n4) he
 ·cases hT
theorem rot_cols {ra11 ra12 ra13 ra21 ra22 ra23 ra31 ra32 ra33 w x y z:Rat} (h0:¬(w=0∧x=0∧y=0∧z=0)) (h:RotQ ra11 ra12 ra13 ra21 ra22 ra23 ra31 ra32 ra33 w x y z):ra11*ra11+ra21*ra21+ra31*ra31=1∧ra11*ra12+ra21*ra22+ra31*ra32=0∧ra11*ra13+ra21*ra23+ra31*ra33=0∧ra12*ra12+ra22*ra22+ra32*ra32=1∧ra12*ra13+ra22*ra23+ra32*ra33=0∧ra13*ra13+ra23*ra23+ra33*ra33=1∧ra22*ra33 - ra23*ra32=ra11∧ra23*ra31 - ra21*ra33=ra12∧ra21*ra32 - ra22*ra31=ra13∧ra13*ra32 - ra12*ra33=ra21∧ra11*ra33 - ra13*ra31=ra22∧ra12*ra31 - ra11*ra32=ra23∧ra12*ra23 - ra13*ra22=ra31∧ra13*ra21 - ra11*ra23=ra32∧ra11*ra22 - ra12*ra21=ra33∧ra11*(ra22*ra33 - ra23*ra32)+ra12*(ra23*ra31 - ra21*ra33)+ra13*(ra21*ra32 - ra22*ra31)=1:=by
 obtain ⟨aD,az,aE,ak,aw,aF,al,ar,aB⟩:=zE6 h0 h
 obtain ⟨ap,ax,aG,aC,ay,aA,aq,av,au⟩:=zE6 (by rintro ⟨a,b,c,d⟩;exact h0 ⟨a,by grind,by grind,by grind⟩) (zW2 h)
 have hd:=rotq_det h0 h
 have hN:=nq_ne h0
 obtain ⟨ae,ad,aa,ab,ac,af,aj,ah,ai⟩:=h
 have cof:∀ p q r s P Q R S t T:Rat,p*(w*w+x*x+y*y+z*z)=P→q*(w*w+x*x+y*y+z*z)=Q→r*(w*w+x*x+y*y+z*z)=R→s*(w*w+x*x+y*y+z*z)=S→t*(w*w+x*x+y*y+z*z)=T→P*Q - R*S=T*(w*w+x*x+y*y+z*z)→p*q - r*s=t:=by
  intro p q r s P Q R S t T h1 h2 h3 h4 h5 h6
  generalize w*w+x*x+y*y+z*z=N at*
  apply zc8 hN;apply zc8 hN
  subst h1 h2 h3 h4 h5
  grind
 refine ⟨by grind,by grind,by grind,by grind,by grind,by grind,cof _ _ _ _ _ _ _ _ _ _ ac ai af ah ae (by grind),cof _ _ _ _ _ _ _ _ _ _ af aj ab ai ad (by grind),cof _ _ _ _ _ _ _ _ _ _ ab ah ac aj aa (by grind),cof _ _ _ _ _ _ _ _ _ _ aa ah ad ai ab (by grind),cof _ _ _ _ _ _ _ _ _ _ ae ai aa aj ac (by grind),cof _ _ _ _ _ _ _ _ _ _ ad aj ae ah af (by grind),cof _ _ _ _ _ _ _ _ _ _ ad af aa ac aj (by grind),cof _ _ _ _ _ _ _ _ _ _ aa ab ae af ah (by grind),cof _ _ _ _ _ _ _ _ _ _ ae ac ad ab ai (by grind),hd⟩
section
variable {ra11 ra12 ra13 ra21 ra22 ra23 ra31 ra32 ra33:Rat} (k11_:ra11*ra11+ra21*ra21+ra31*ra31=1) (k12_:ra11*ra12+ra21*ra22+ra31*ra32=0) (k13_:ra11*ra13+ra21*ra23+ra31*ra33=0) (k22_:ra12*ra12+ra22*ra22+ra32*ra32=1) (k23_:ra12*ra13+ra22*ra23+ra32*ra33=0) (k33_:ra13*ra13+ra23*ra23+ra33*ra33=1)
include k11_ k12_ k13_ k22_ k23_ k33_
theorem keep_dot (u1 u2 u3 v1 v2 v3:Rat):0+(0+ra11*u1+ra12*u2+ra13*u3)*(0+ra11*v1+ra12*v2+ra13*v3)+(0+ra21*u1+ra22*u2+ra23*u3)*(0+ra21*v1+ra22*v2+ra23*v3)+(0+ra31*u1+ra32*u2+ra33*u3)*(0+ra31*v1+ra32*v2+ra33*v3)=0+u1*v1+u2*v2+u3*v3:=by
 have e:0+(0+ra11*u1+ra12*u2+ra13*u3)*(0+ra11*v1+ra12*v2+ra13*v3)+(0+ra21*u1+ra22*u2+ra23*u3)*(0+ra21*v1+ra22*v2+ra23*v3)+(0+ra31*u1+ra32*u2+ra33*u3)*(0+ra31*v1+ra32*v2+ra33*v3)=(ra11*ra11+ra21*ra21+ra31*ra31)*(u1*v1)+(ra11*ra12+ra21*ra22+ra31*ra32)*(u1*v2+u2*v1)+(ra11*ra13+ra21*ra23+ra31*ra33)*(u1*v3+u3*v1)+(ra12*ra12+ra22*ra22+ra32*ra32)*(u2*v2)+(ra12*ra13+ra22*ra23+ra32*ra33)*(u2*v3+u3*v2)+(ra13*ra13+ra23*ra23+ra33*ra33)*(u3*v3):=by grind
 rw [e,k11_,k12_,k13_,k22_,k23_,k33_]
 grind
end
def t3 (a b c x y z:Rat):Rat:=0+a*x+b*y+c*z
theorem zk9 (p1 p2 p3 q1 q2 q3 u1 u2 u3 v1 v2 v3:Rat) {c1 c2 c3:Rat} (h1:p2*q3 - p3*q2=c1) (h2:p3*q1 - p1*q3=c2) (h3:p1*q2 - p2*q1=c3):
  t3 p1 p2 p3 u1 u2 u3*t3 q1 q2 q3 v1 v2 v3 - t3 q1 q2 q3 u1 u2 u3*t3 p1 p2 p3 v1 v2 v3=t3 c1 c2 c3 (u2*v3 - u3*v2) (u3*v1 - u1*v3) (u1*v2 - u2*v1):=by
 subst h1 h2 h3;unfold t3;grind
theorem zz3 (a b c x y z u v w:Rat):t3 a b c (x+u) (y+v) (z+w)=t3 a b c x y z+t3 a b c u v w:=by unfold t3;grind
structure Rot9 (r:Nat→Rat):Prop where
 k11:r 0*r 0+r 3*r 3+r 6*r 6=1
 k12:r 0*r 1+r 3*r 4+r 6*r 7=0
 k13:r 0*r 2+r 3*r 5+r 6*r 8=0
 k22:r 1*r 1+r 4*r 4+r 7*r 7=1
 k23:r 1*r 2+r 4*r 5+r 7*r 8=0
 k33:r 2*r 2+r 5*r 5+r 8*r 8=1
 c0:r 4*r 8 - r 5*r 7=r 0
 c1:r 5*r 6 - r 3*r 8=r 1
 c2:r 3*r 7 - r 4*r 6=r 2
 c3:r 2*r 7 - r 1*r 8=r 3
 c4:r 0*r 8 - r 2*r 6=r 4
 c5:r 1*r 6 - r 0*r 7=r 5
 c6:r 1*r 5 - r 2*r 4=r 6
 c7:r 2*r 3 - r 0*r 5=r 7
 c8:r 0*r 4 - r 1*r 3=r 8
theorem rot9 {w x y z:Int} (hv:VT w x y z):Rot9 (roE w x y z):=by
 obtain ⟨h1,h2,h3,h4,h5,h6,h7,h8,h9,h10,h11,h12,h13,h14,h15,_⟩:=rot_cols (nq_int hv.ne) (yb6 hv)
 exact ⟨h1,h2,h3,h4,h5,h6,h7,h8,h9,h10,h11,h12,h13,h14,h15⟩
section
variable {r:Nat→Rat} (h:Rot9 r)
include h
theorem x1 (u1 u2 u3 v1 v2 v3:Rat):t3 (r 3) (r 4) (r 5) u1 u2 u3*t3 (r 6) (r 7) (r 8) v1 v2 v3 - t3 (r 6) (r 7) (r 8) u1 u2 u3*t3 (r 3) (r 4) (r 5) v1 v2 v3=t3 (r 0) (r 1) (r 2) (u2*v3 - u3*v2) (u3*v1 - u1*v3) (u1*v2 - u2*v1):=
 zk9 _ _ _ _ _ _ _ _ _ _ _ _ h.c0 h.c1 h.c2
theorem x2 (u1 u2 u3 v1 v2 v3:Rat):t3 (r 6) (r 7) (r 8) u1 u2 u3*t3 (r 0) (r 1) (r 2) v1 v2 v3 - t3 (r 0) (r 1) (r 2) u1 u2 u3*t3 (r 6) (r 7) (r 8) v1 v2 v3=t3 (r 3) (r 4) (r 5) (u2*v3 - u3*v2) (u3*v1 - u1*v3) (u1*v2 - u2*v1):=by
 have:=h.c3;have:=h.c4;have:=h.c5
 exact zk9 _ _ _ _ _ _ _ _ _ _ _ _ (by grind) (by grind) (by grind)
theorem x3 (u1 u2 u3 v1 v2 v3:Rat):t3 (r 0) (r 1) (r 2) u1 u2 u3*t3 (r 3) (r 4) (r 5) v1 v2 v3 - t3 (r 3) (r 4) (r 5) u1 u2 u3*t3 (r 0) (r 1) (r 2) v1 v2 v3=t3 (r 6) (r 7) (r 8) (u2*v3 - u3*v2) (u3*v1 - u1*v3) (u1*v2 - u2*v1):=
 zk9 _ _ _ _ _ _ _ _ _ _ _ _ h.c6 h.c7 h.c8
theorem y1 (u1 u2 u3 v1 v2 v3:Rat):t3 (r 1) (r 4) (r 7) u1 u2 u3*t3 (r 2) (r 5) (r 8) v1 v2 v3 - t3 (r 2) (r 5) (r 8) u1 u2 u3*t3 (r 1) (r 4) (r 7) v1 v2 v3=t3 (r 0) (r 3) (r 6) (u2*v3 - u3*v2) (u3*v1 - u1*v3) (u1*v2 - u2*v1):=by
 have:=h.c0;have:=h.c3;have:=h.c6
 exact zk9 _ _ _ _ _ _ _ _ _ _ _ _ (by grind) (by grind) (by grind)
theorem y2 (u1 u2 u3 v1 v2 v3:Rat):t3 (r 2) (r 5) (r 8) u1 u2 u3*t3 (r 0) (r 3) (r 6) v1 v2 v3 - t3 (r 0) (r 3) (r 6) u1 u2 u3*t3 (r 2) (r 5) (r 8) v1 v2 v3=t3 (r 1) (r 4) (r 7) (u2*v3 - u3*v2) (u3*v1 - u1*v3) (u1*v2 - u2*v1):=by
 have:=h.c1;have:=h.c4;have:=h.c7
 exact zk9 _ _ _ _ _ _ _ _ _ _ _ _ (by grind) (by grind) (by grind)
theorem y3 (u1 u2 u3 v1 v2 v3:Rat):t3 (r 0) (r 3) (r 6) u1 u2 u3*t3 (r 1) (r 4) (r 7) v1 v2 v3 - t3 (r 1) (r 4) (r 7) u1 u2 u3*t3 (r 0) (r 3) (r 6) v1 v2 v3=t3 (r 2) (r 5) (r 8) (u2*v3 - u3*v2) (u3*v1 - u1*v3) (u1*v2 - u2*v1):=by
 have:=h.c2;have:=h.c5;have:=h.c8
 exact zk9 _ _ _ _ _ _ _ _ _ _ _ _ (by grind) (by grind) (by grind)
theorem bk1 (u v w:Rat):t3 (r 0) (r 3) (r 6) (t3 (r 0) (r 1) (r 2) u v w) (t3 (r 3) (r 4) (r 5) u v w) (t3 (r 6) (r 7) (r 8) u v w)=u:=by
 have e:t3 (r 0) (r 3) (r 6) (t3 (r 0) (r 1) (r 2) u v w) (t3 (r 3) (r 4) (r 5) u v w) (t3 (r 6) (r 7) (r 8) u v w)=(r 0*r 0+r 3*r 3+r 6*r 6)*u+(r 0*r 1+r 3*r 4+r 6*r 7)*v+(r 0*r 2+r 3*r 5+r 6*r 8)*w:=by unfold t3;grind
 rw [e,h.k11,h.k12,h.k13];grind
theorem bk2 (u v w:Rat):t3 (r 1) (r 4) (r 7) (t3 (r 0) (r 1) (r 2) u v w) (t3 (r 3) (r 4) (r 5) u v w) (t3 (r 6) (r 7) (r 8) u v w)=v:=by
 have e:t3 (r 1) (r 4) (r 7) (t3 (r 0) (r 1) (r 2) u v w) (t3 (r 3) (r 4) (r 5) u v w) (t3 (r 6) (r 7) (r 8) u v w)=(r 0*r 1+r 3*r 4+r 6*r 7)*u+(r 1*r 1+r 4*r 4+r 7*r 7)*v+(r 1*r 2+r 4*r 5+r 7*r 8)*w:=by unfold t3;grind
 rw [e,h.k12,h.k22,h.k23];grind
theorem bk3 (u v w:Rat):t3 (r 2) (r 5) (r 8) (t3 (r 0) (r 1) (r 2) u v w) (t3 (r 3) (r 4) (r 5) u v w) (t3 (r 6) (r 7) (r 8) u v w)=w:=by
 have e:t3 (r 2) (r 5) (r 8) (t3 (r 0) (r 1) (r 2) u v w) (t3 (r 3) (r 4) (r 5) u v w) (t3 (r 6) (r 7) (r 8) u v w)=(r 0*r 2+r 3*r 5+r 6*r 8)*u+(r 1*r 2+r 4*r 5+r 7*r 8)*v+(r 2*r 2+r 5*r 5+r 8*r 8)*w:=by unfold t3;grind
 rw [e,h.k13,h.k23,h.k33];grind
theorem kd (u1 u2 u3 v1 v2 v3:Rat):t3 (t3 (r 0) (r 1) (r 2) u1 u2 u3) (t3 (r 3) (r 4) (r 5) u1 u2 u3) (t3 (r 6) (r 7) (r 8) u1 u2 u3) (t3 (r 0) (r 1) (r 2) v1 v2 v3) (t3 (r 3) (r 4) (r 5) v1 v2 v3) (t3 (r 6) (r 7) (r 8) v1 v2 v3)=t3 u1 u2 u3 v1 v2 v3:=
 keep_dot h.k11 h.k12 h.k13 h.k22 h.k23 h.k33 u1 u2 u3 v1 v2 v3
end
theorem mv_ (L S2 S3 B2 B3 P2 P3:Rat) {X:Rat} (h:B2*P3 - B3*P2=X):L+(S2*B3 - S3*B2)+(B2*(P3+S3) - B3*(P2+S2))=L+X:=by grind
theorem fm_ (S2 S3 A2 A3 F2 F3:Rat) {X:Rat} (h:A2*F3 - A3*F2=X):X+(S2*F3 - S3*F2)=(A2+S2)*F3 - (A3+S3)*F2:=by grind
theorem bl_ (L T2 T3 W2 W3:Rat) {X:Rat} (h:T2*W3 - T3*W2=X):L+X+((0 - T2)*W3 - (0 - T3)*W2)=L:=by grind
theorem pw_ (X1 X2 X3 s1 s2 s3 A B C D E F Y1 Y2 Y3:Rat):t3 (X1+(s2*C - s3*B)) (X2+(s3*A - s1*C)) (X3+(s1*B - s2*A)) D E F+t3 A B C (Y1+(s2*F - s3*E)) (Y2+(s3*D - s1*F)) (Y3+(s1*E - s2*D))=t3 X1 X2 X3 D E F+t3 A B C Y1 Y2 Y3:=by unfold t3;grind
def asZ:Nat→Rat→Lf→Lf
 | 0,_,l=>l
 | n+1,x,l=>.as (decide (x=0)) false (asZ n x l)
theorem zw6 {P:SV→Prop} {x:Rat} {l:Lf} {n:Nat} (h:x≠0) (hl:LOK P l):LOK P (asZ n x l):=by
 induction n with
 | zero=>exact hl
 | succ n ih=>exact ⟨decide_eq_false h,ih⟩
def zw7 (d:Int):Rat:=((1+d % 3:Int):Rat)
theorem zK5 (d:Int):zw7 d≠0:=fun e=>by
 have:(1+d % 3:Int)=0:=by unfold zw7 at e;exact_mod_cast e
 omega
theorem rcz {a b:Rat} (h:a=b):(zc0 a b !=0)=false:=by rw [zj6.2 h];rfl
theorem rcy {a b:Rat} (h:a=b):(zc0 a b==0)=true:=by rw [zj6.2 h];rfl
def isTt (v:SV):Prop:=∀ X,v.den X=.bool true
end Go.Proofs.YthhbibpaeonecaaGreatDoor
