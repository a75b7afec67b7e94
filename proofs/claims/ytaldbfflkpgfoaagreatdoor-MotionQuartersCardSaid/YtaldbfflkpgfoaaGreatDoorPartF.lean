/- Joined of: Qt, Qr, Syr, Plc, Gen131, Rda, Gen47, Gen69, Gen98, Syd, Sye, Gen124, Gen125, Gen94, Gen122. -/
import Derived.Test.YtaldbfflkpgfoaaGreatDoorPartE
import Derived.Test.YtaldbfflkpgfoaaGreatDoorPartC
import Derived.Test.YtaldbfflkpgfoaaGreatDoorPartD
namespace Go.Proofs.YtaldbfflkpgfoaaGreatDoor
open Go.RowKit
def qgcd (n1 n2 n3 n4:Int):Int:=(Int.gcd (Int.gcd (Int.gcd (Int.gcd 0 n1:Int) n2:Int) n3:Int) n4:Int)
def qsgn (n1 n2 n3 n4:Int):Int:=if n1=0 then (if n2=0 then (if n3=0 then sgn n4 else sgn n3) else sgn n2) else sgn n1
def za1 (n1 n2 n3 n4 n:Int):Int:=n/qgcd n1 n2 n3 n4*qsgn n1 n2 n3 n4
theorem yc3 (k a b:Int):(Int.gcd (k*a) (k*b):Int)=(k.natAbs:Int)*(Int.gcd a b:Int):=by
 rw [Int.gcd_mul_left];exact Int.natCast_mul ..
theorem zM7 (k a b:Int):(Int.gcd ((k.natAbs:Int)*a) (k*b):Int)=(k.natAbs:Int)*(Int.gcd a b:Int):=by
 rw [← yc3]
 rcases Int.natAbs_eq k with h | h
 ·rw [← h]
 ·generalize (k.natAbs:Int)=m at h;subst h
  rw [Int.neg_mul,Int.neg_mul,Int.gcd_neg,Int.neg_gcd,Int.gcd_neg]
theorem zM8 (k n1 n2 n3 n4:Int):qgcd (k*n1) (k*n2) (k*n3) (k*n4)=(k.natAbs:Int)*qgcd n1 n2 n3 n4:=by
 unfold qgcd
 have h0:(Int.gcd 0 (k*n1):Int)=(k.natAbs:Int)*(Int.gcd 0 n1:Int):=by
  rw [← yc3,Int.mul_zero]
 rw [h0,zM7,zM7,zM7]
theorem zl4 (n1 n2 n3 n4:Int):qgcd n1 n2 n3 n4∣n1∧qgcd n1 n2 n3 n4∣n2∧qgcd n1 n2 n3 n4∣n3∧qgcd n1 n2 n3 n4∣n4:=by
 unfold qgcd
 refine ⟨?_,?_,?_,Int.gcd_dvd_right ..⟩
 ·exact Int.dvd_trans (Int.gcd_dvd_left ..) (Int.dvd_trans (Int.gcd_dvd_left ..) (Int.dvd_trans (Int.gcd_dvd_left ..) (Int.gcd_dvd_right ..)))
 ·exact Int.dvd_trans (Int.gcd_dvd_left ..) (Int.dvd_trans (Int.gcd_dvd_left ..) (Int.gcd_dvd_right ..))
 ·exact Int.dvd_trans (Int.gcd_dvd_left ..) (Int.gcd_dvd_right ..)
theorem zW0 (n1 n2 n3 n4:Int):0≤qgcd n1 n2 n3 n4:=Int.natCast_nonneg _
theorem yp1 {n1 n2 n3 n4:Int} (h:qgcd n1 n2 n3 n4=0):n1=0∧n2=0∧n3=0∧n4=0:=by
 obtain ⟨h1,h2,h3,h4⟩:=zl4 n1 n2 n3 n4
 rw [h] at h1 h2 h3 h4
 exact ⟨Int.zero_dvd.1 h1,Int.zero_dvd.1 h2,Int.zero_dvd.1 h3,Int.zero_dvd.1 h4⟩
theorem zu0 {n1 n2 n3 n4:Int} (h:¬(n1=0∧n2=0∧n3=0∧n4=0)):0<qgcd n1 n2 n3 n4:=by
 have h0:=zW0 n1 n2 n3 n4
 have h1:qgcd n1 n2 n3 n4≠0:=fun e=>h (yp1 e)
 omega
theorem yc4 (a b:Int):sgn (a*b)=sgn a*sgn b:=by
 have key:∀ x y:Int,0<x→sgn (x*y)=sgn y:=by
  intro x y hx
  unfold sgn
  rcases Int.lt_trichotomy y 0 with h | h | h
  ·rw [if_pos h,if_pos (Int.mul_neg_of_pos_of_neg hx h)]
  ·subst h;simp
  ·have:=Int.mul_pos hx h
   rw [if_neg (by omega),if_neg (by omega),if_neg (by omega),if_neg (by omega)]
 rcases Int.lt_trichotomy a 0 with h | h | h
 ·have e:a*b=-(-a*b):=by rw [Int.neg_mul,Int.neg_neg]
  have h2:=key (-a) b (by omega)
  have h3:sgn a=-1:=by unfold sgn;rw [if_pos h]
  rw [h3,← h2,e]
  unfold sgn
  generalize -a*b=z
  split<;>(try split)<;>(try split)<;>omega
 ·subst h;simp [sgn]
 ·rw [key a b h,show sgn a=1 by unfold sgn;rw [if_neg (by omega),if_neg (by omega)],Int.one_mul]
theorem yc5 {k:Int} (hk:k≠0) (n1 n2 n3 n4:Int):qsgn (k*n1) (k*n2) (k*n3) (k*n4)=sgn k*qsgn n1 n2 n3 n4:=by
 have z:∀ n:Int,k*n=0↔n=0:=fun n=>by simp [Int.mul_eq_zero,hk]
 unfold qsgn
 simp only [z,yc4]
 split
 ·split
  ·split<;>rfl
  ·rfl
 ·rfl
theorem yg6 (k:Int):k=(k.natAbs:Int)*sgn k:=by unfold sgn;split<;>(try split)<;>omega
theorem sgn_sq {k:Int} (hk:k≠0):sgn k*sgn k=1:=by unfold sgn;rw [if_neg hk];split<;>rfl
theorem zR6 {k:Int} (hk:k≠0) (n1 n2 n3 n4:Int) {n:Int} (h:qgcd n1 n2 n3 n4∣n):za1 (k*n1) (k*n2) (k*n3) (k*n4) (k*n)=za1 n1 n2 n3 n4 n:=by
 unfold za1
 rw [zM8,yc5 hk]
 obtain ⟨c,rfl⟩:=h
 generalize qgcd n1 n2 n3 n4=g
 generalize qsgn n1 n2 n3 n4=σ
 by_cases hg:g=0
 ·subst hg;simp
 ·have e:k*(g*c)=(k.natAbs:Int)*g*(sgn k*c):=by
   conv=>lhs;rw [yg6 k]
   rw [Int.mul_assoc,Int.mul_assoc,Int.mul_left_comm (sgn k)]
  rw [e,Int.mul_ediv_cancel_left _ (by simp [Int.mul_eq_zero];omega),Int.mul_ediv_cancel_left _ hg]
  rw [show sgn k*c*(sgn k*σ)=(sgn k*sgn k)*(c*σ) by rw [Int.mul_assoc,Int.mul_assoc,Int.mul_left_comm c],sgn_sq hk,Int.one_mul]
def wm (a1 a2 a3 a4 x:Rat):Int:=x.num*(zm1 a1 a2 a3 a4/(x.den:Int))
theorem zR7 (n:Int) {d:Nat} (hd:0<d):Rat.divInt n (d:Int)*((d:Int):Rat)=(n:Rat):=by
 rw [Rat.divInt_eq_div]
 have:((d:Int):Rat)≠0:=by
  intro e
  have:=Rat.intCast_inj.1 (e.trans rfl:((d:Int):Rat)=((0:Int):Rat))
  omega
 exact Rat.div_mul_cancel this
theorem zo0 (x:Rat):x*((x.den:Int):Rat)=(x.num:Rat):=by
 have:=zR7 x.num x.den_pos
 rw [Rat.num_divInt_den] at this
 exact this
theorem wm_rat {a1 a2 a3 a4 x:Rat} (h:(x.den:Int)∣zm1 a1 a2 a3 a4):((wm a1 a2 a3 a4 x:Int):Rat)=x*((zm1 a1 a2 a3 a4:Int):Rat):=by
 unfold wm
 obtain ⟨c,hc⟩:=h
 have hd:=zm2 x
 rw [hc,Int.mul_ediv_cancel_left _ (by omega)]
 have e:x*((x.den:Int):Rat)=((x.num:Int):Rat):=zo0 x
 rw [Rat.intCast_mul,Rat.intCast_mul,← Rat.mul_assoc,e]
theorem yc6 (a1 a2 a3 a4 x:Rat) (h:(x.den:Int)∣zm1 a1 a2 a3 a4):sgn (wm a1 a2 a3 a4 x)=sgn x.num:=by
 unfold wm
 have:=zL2 (zH5 a1 a2 a3 a4) (zm2 x) h
 rw [yc4,show sgn (zm1 a1 a2 a3 a4/(x.den:Int))=1 by unfold sgn;rw [if_neg (by omega),if_neg (by omega)],Int.mul_one]
theorem wz_qprim (a1 a2 a3 a4:Rat) (h:¬(a1=0∧a2=0∧a3=0∧a4=0)) {x:Rat} (hx:x=a1∨x=a2∨x=a3∨x=a4):
  wz a1 a2 a3 a4 x=za1 (wm a1 a2 a3 a4 a1) (wm a1 a2 a3 a4 a2) (wm a1 a2 a3 a4 a3) (wm a1 a2 a3 a4 a4) (wm a1 a2 a3 a4 x):=by
 have hd:=zH6 a1 a2 a3 a4
 have s1:=yc6 a1 a2 a3 a4 a1 hd.1
 have s2:=yc6 a1 a2 a3 a4 a2 hd.2.1
 have s3:=yc6 a1 a2 a3 a4 a3 hd.2.2.1
 have s4:=yc6 a1 a2 a3 a4 a4 hd.2.2.2
 have hs:zL3 a1 a2 a3 a4=qsgn (wm a1 a2 a3 a4 a1) (wm a1 a2 a3 a4 a2) (wm a1 a2 a3 a4 a3) (wm a1 a2 a3 a4 a4):=by
  unfold zL3 qsgn
  rw [← s1,← s2,← s3,← s4]
  simp only [zc8]
 have hne:zL3 a1 a2 a3 a4≠0:=by
  intro e
  have z:∀ a:Rat,sgn a.num=0→a=0:=fun a ha=>Rat.num_eq_zero.1 (zc8.1 ha)
  unfold zL3 at e
  split at e
  ·next h1=>
   split at e
   ·next h2=>
    split at e
    ·next h3=>exact h ⟨z _ h1,z _ h2,z _ h3,z _ e⟩
    ·contradiction
   ·contradiction
  ·contradiction
 have ho:∀ y,yi8 a1 a2 a3 a4 y=zL3 a1 a2 a3 a4*wm a1 a2 a3 a4 y:=fun y=>by unfold yi8 wm;rw [Int.mul_comm]
 have hab:((zL3 a1 a2 a3 a4).natAbs:Int)=1:=by
  have:zL3 a1 a2 a3 a4=-1∨zL3 a1 a2 a3 a4=0∨zL3 a1 a2 a3 a4=1:=by
   have k:∀ z,sgn z=-1∨sgn z=0∨sgn z=1:=fun z=>by unfold sgn;split<;>(try split)<;>omega
   unfold zL3;split
   ·split
    ·split<;>exact k _
    ·exact k _
   ·exact k _
  omega
 have hg:ye9 a1 a2 a3 a4=qgcd (wm a1 a2 a3 a4 a1) (wm a1 a2 a3 a4 a2) (wm a1 a2 a3 a4 a3) (wm a1 a2 a3 a4 a4):=by
  show qgcd (yi8 a1 a2 a3 a4 a1) (yi8 a1 a2 a3 a4 a2) (yi8 a1 a2 a3 a4 a3) (yi8 a1 a2 a3 a4 a4)=_
  rw [ho,ho,ho,ho,zM8,hab,Int.one_mul]
 have hdv:qgcd (wm a1 a2 a3 a4 a1) (wm a1 a2 a3 a4 a2) (wm a1 a2 a3 a4 a3) (wm a1 a2 a3 a4 a4)∣wm a1 a2 a3 a4 x:=by
  obtain ⟨h1,h2,h3,h4⟩:=zl4 (wm a1 a2 a3 a4 a1) (wm a1 a2 a3 a4 a2) (wm a1 a2 a3 a4 a3) (wm a1 a2 a3 a4 a4)
  rcases hx with rfl | rfl | rfl | rfl<;>assumption
 unfold wz za1
 rw [ho,hg,← hs]
 obtain ⟨c,hc⟩:=hdv
 rw [hc]
 generalize qgcd _ _ _ _=g
 by_cases h0:g=0
 ·subst h0;simp
 ·rw [Int.mul_left_comm,Int.mul_ediv_cancel_left _ h0,Int.mul_ediv_cancel_left _ h0,Int.mul_comm]
theorem wz_of {c:Rat} (hc:c≠0) {n1 n2 n3 n4 n:Int} (hn:¬(n1=0∧n2=0∧n3=0∧n4=0)) (hx:n=n1∨n=n2∨n=n3∨n=n4) {a1 a2 a3 a4 x:Rat}
  (h1:a1=c*((n1:Int):Rat)) (h2:a2=c*((n2:Int):Rat)) (h3:a3=c*((n3:Int):Rat)) (h4:a4=c*((n4:Int):Rat)) (h:x=c*((n:Int):Rat)):
  wz a1 a2 a3 a4 x=za1 n1 n2 n3 n4 n:=by
 have ha:¬(a1=0∧a2=0∧a3=0∧a4=0):=by
  rintro ⟨e1,e2,e3,e4⟩
  have z:∀ m:Int,c*((m:Int):Rat)=0→m=0:=fun m hm=>by
   rcases Rat.mul_eq_zero.1 hm with h | h
   ·exact absurd h hc
   ·exact Rat.intCast_eq_zero_iff.1 h
  exact hn ⟨z _ (h1 ▸ e1),z _ (h2 ▸ e2),z _ (h3 ▸ e3),z _ (h4 ▸ e4)⟩
 have hx':x=a1∨x=a2∨x=a3∨x=a4:=by
  rcases hx with rfl | rfl | rfl | rfl
  ·exact .inl (h.trans h1.symm)
  ·exact .inr (.inl (h.trans h2.symm))
  ·exact .inr (.inr (.inl (h.trans h3.symm)))
  ·exact .inr (.inr (.inr (h.trans h4.symm)))
 rw [wz_qprim a1 a2 a3 a4 ha hx']
 have hd:=zH6 a1 a2 a3 a4
 have hD:=zH5 a1 a2 a3 a4
 -- each integer,times c's denominator,is n times c's numerator and the common denominator
 have key:∀ (y:Rat) (m:Int),(y.den:Int)∣zm1 a1 a2 a3 a4→y=c*((m:Int):Rat)→(c.den:Int)*wm a1 a2 a3 a4 y=(c.num*zm1 a1 a2 a3 a4)*m:=by
  intro y m hy e
  have e1:=wm_rat hy
  have e2:c*((c.den:Int):Rat)=((c.num:Int):Rat):=zo0 c
  have:(((c.den:Int)*wm a1 a2 a3 a4 y:Int):Rat)=(((c.num*zm1 a1 a2 a3 a4)*m:Int):Rat):=by
   rw [Rat.intCast_mul,Rat.intCast_mul,Rat.intCast_mul,e1,e,← e2]
   generalize ((zm1 a1 a2 a3 a4:Int):Rat)=D
   generalize ((c.den:Int):Rat)=d
   generalize ((m:Int):Rat)=mm
   grind
  exact Rat.intCast_inj.1 this
 have hdx:(x.den:Int)∣zm1 a1 a2 a3 a4:=by rcases hx' with rfl | rfl | rfl | rfl<;>first | exact hd.1 | exact hd.2.1 | exact hd.2.2.1 | exact hd.2.2.2
 have k1:=key a1 n1 hd.1 h1
 have k2:=key a2 n2 hd.2.1 h2
 have k3:=key a3 n3 hd.2.2.1 h3
 have k4:=key a4 n4 hd.2.2.2 h4
 have k:=key x n hdx h
 have hcd:=zm2 c
 have hcn:c.num≠0:=fun e=>hc (Rat.num_eq_zero.1 e)
 have ab:qgcd (wm a1 a2 a3 a4 a1) (wm a1 a2 a3 a4 a2) (wm a1 a2 a3 a4 a3) (wm a1 a2 a3 a4 a4)∣wm a1 a2 a3 a4 x:=by
  obtain ⟨h1,h2,h3,h4⟩:=zl4 (wm a1 a2 a3 a4 a1) (wm a1 a2 a3 a4 a2) (wm a1 a2 a3 a4 a3) (wm a1 a2 a3 a4 a4)
  rcases hx' with rfl | rfl | rfl | rfl<;>assumption
 have aa:qgcd n1 n2 n3 n4∣n:=by
  obtain ⟨h1,h2,h3,h4⟩:=zl4 n1 n2 n3 n4
  rcases hx with rfl | rfl | rfl | rfl<;>assumption
 rw [← zR6 (k:=(c.den:Int)) (by omega) _ _ _ _ ab,k1,k2,k3,k4,k]
 exact zR6 (Int.mul_ne_zero hcn (by omega)) _ _ _ _ aa
structure RotQ (a11 a12 a13 a21 a22 a23 a31 a32 a33 w x y z:Rat):Prop where
 e11:a11*(w*w+x*x+y*y+z*z)=w*w+x*x - y*y - z*z
 e12:a12*(w*w+x*x+y*y+z*z)=2*(x*y - w*z)
 e13:a13*(w*w+x*x+y*y+z*z)=2*(x*z+w*y)
 e21:a21*(w*w+x*x+y*y+z*z)=2*(x*y+w*z)
 e22:a22*(w*w+x*x+y*y+z*z)=w*w - x*x+y*y - z*z
 e23:a23*(w*w+x*x+y*y+z*z)=2*(y*z - w*x)
 e31:a31*(w*w+x*x+y*y+z*z)=2*(x*z - w*y)
 e32:a32*(w*w+x*x+y*y+z*z)=2*(y*z+w*x)
 e33:a33*(w*w+x*x+y*y+z*z)=w*w - x*x - y*y+z*z
theorem norm_mul (a b c d p q r s:Rat):
  (a*p - b*q - c*r - d*s)*(a*p - b*q - c*r - d*s)+(a*q+b*p+c*s - d*r)*(a*q+b*p+c*s - d*r)+(a*r - b*s+c*p+d*q)*(a*r - b*s+c*p+d*q)+(a*s+b*r - c*q+d*p)*(a*s+b*r - c*q+d*p)
  =(a*a+b*b+c*c+d*d)*(p*p+q*q+r*r+s*s):=by grind
theorem yc7 {a11 a12 a13 a21 a22 a23 a31 a32 a33 ah ai af ad ab aa ae aj ac a b c d p q r s:Rat}
  (h:RotQ a11 a12 a13 a21 a22 a23 a31 a32 a33 a b c d) (g:RotQ ah ai af ad ab aa ae aj ac p q r s):
  RotQ (0+a11*ah+a12*ad+a13*ae) (0+a11*ai+a12*ab+a13*aj) (0+a11*af+a12*aa+a13*ac)
   (0+a21*ah+a22*ad+a23*ae) (0+a21*ai+a22*ab+a23*aj) (0+a21*af+a22*aa+a23*ac)
   (0+a31*ah+a32*ad+a33*ae) (0+a31*ai+a32*ab+a33*aj) (0+a31*af+a32*aa+a33*ac)
   (a*p - b*q - c*r - d*s) (a*q+b*p+c*s - d*r) (a*r - b*s+c*p+d*q) (a*s+b*r - c*q+d*p):=by
 obtain ⟨au,ap,aF,aE,av,aG,ar,al,aD⟩:=h
 obtain ⟨az,aC,aA,ak,aB,ax,ay,aw,aq⟩:=g
 have key:∀ x y z u v t X Y Z U V T N M:Rat,x*N=X→y*N=Y→z*N=Z→u*M=U→v*M=V→t*M=T→
   (0+x*u+y*v+z*t)*(N*M)=X*U+Y*V+Z*T:=by
  intro x y z u v t X Y Z U V T N M h1 h2 h3 h4 h5 h6
  subst h1 h2 h3 h4 h5 h6
  grind
 constructor<;>rw [norm_mul]
 ·rw [key _ _ _ _ _ _ _ _ _ _ _ _ _ _ au ap aF az ak ay];grind
 ·rw [key _ _ _ _ _ _ _ _ _ _ _ _ _ _ au ap aF aC aB aw];grind
 ·rw [key _ _ _ _ _ _ _ _ _ _ _ _ _ _ au ap aF aA ax aq];grind
 ·rw [key _ _ _ _ _ _ _ _ _ _ _ _ _ _ aE av aG az ak ay];grind
 ·rw [key _ _ _ _ _ _ _ _ _ _ _ _ _ _ aE av aG aC aB aw];grind
 ·rw [key _ _ _ _ _ _ _ _ _ _ _ _ _ _ aE av aG aA ax aq];grind
 ·rw [key _ _ _ _ _ _ _ _ _ _ _ _ _ _ ar al aD az ak ay];grind
 ·rw [key _ _ _ _ _ _ _ _ _ _ _ _ _ _ ar al aD aC aB aw];grind
 ·rw [key _ _ _ _ _ _ _ _ _ _ _ _ _ _ ar al aD aA ax aq];grind
theorem rotq_tr {a11 a12 a13 a21 a22 a23 a31 a32 a33 w x y z:Rat} (h:RotQ a11 a12 a13 a21 a22 a23 a31 a32 a33 w x y z):
  RotQ a11 a21 a31 a12 a22 a32 a13 a23 a33 w (-x) (-y) (-z):=by
 obtain ⟨h11,h12,h13,h21,h22,h23,h31,h32,h33⟩:=h
 have e:w*w+-x*-x+-y*-y+-z*-z=w*w+x*x+y*y+z*z:=by grind
 constructor<;>rw [e]<;>grind
theorem rotq_id:RotQ 1 0 0 0 1 0 0 0 1 1 0 0 0:=by constructor<;>grind
theorem nq_ne {w x y z:Rat} (h:¬(w=0∧x=0∧y=0∧z=0)):w*w+x*x+y*y+z*z≠0:=by
 intro e
 have sq:∀ t:Rat,0≤t*t:=fun t=>by
  rcases (Rat.le_total:(0:Rat)≤t∨t≤0) with ht | ht
  ·exact Rat.mul_nonneg ht ht
  ·have:=Rat.mul_nonneg (show (0:Rat)≤-t by grind) (show (0:Rat)≤-t by grind)
   grind
 have s1:=sq w;have s2:=sq x;have s3:=sq y;have s4:=sq z
 have z0:∀ t:Rat,t*t=0→t=0:=fun t ht=>by rcases Rat.mul_eq_zero.1 ht with h | h<;>exact h
 exact h ⟨z0 _ (by grind),z0 _ (by grind),z0 _ (by grind),z0 _ (by grind)⟩
theorem ze2 {N a b:Rat} (hN:N≠0) (h:a*N=b*N):a=b:=by grind
theorem yp2 {a11 a12 a13 a21 a22 a23 a31 a32 a33 w x y z k:Rat} (hk:k≠0) (h:RotQ a11 a12 a13 a21 a22 a23 a31 a32 a33 (k*w) (k*x) (k*y) (k*z)):
  RotQ a11 a12 a13 a21 a22 a23 a31 a32 a33 w x y z:=by
 obtain ⟨h11,h12,h13,h21,h22,h23,h31,h32,h33⟩:=h
 have hk2:k*k≠0:=fun e=>by rcases Rat.mul_eq_zero.1 e with h | h<;>exact hk h
 constructor<;>apply ze2 hk2<;>grind
theorem zE6 {a11 a12 a13 a21 a22 a23 a31 a32 a33 ai ae ad ab ah af ac aj aa w x y z:Rat} (h0:¬(w=0∧x=0∧y=0∧z=0))
  (h:RotQ a11 a12 a13 a21 a22 a23 a31 a32 a33 w x y z) (g:RotQ ai ae ad ab ah af ac aj aa w x y z):
  a11=ai∧a12=ae∧a13=ad∧a21=ab∧a22=ah∧a23=af∧a31=ac∧a32=aj∧a33=aa:=by
 have hN:=nq_ne h0
 exact ⟨ze2 hN (h.e11.trans g.e11.symm),ze2 hN (h.e12.trans g.e12.symm),ze2 hN (h.e13.trans g.e13.symm),ze2 hN (h.e21.trans g.e21.symm),ze2 hN (h.e22.trans g.e22.symm),ze2 hN (h.e23.trans g.e23.symm),ze2 hN (h.e31.trans g.e31.symm),ze2 hN (h.e32.trans g.e32.symm),ze2 hN (h.e33.trans g.e33.symm)⟩
theorem yp3 {a11 a12 a13 a21 a22 a23 a31 a32 a33 w x y z:Rat} (h0:¬(w=0∧x=0∧y=0∧z=0))
  (h:RotQ a11 a12 a13 a21 a22 a23 a31 a32 a33 w x y z):
  0+a11*a11+a12*a12+a13*a13=1∧0+a11*a21+a12*a22+a13*a23=0∧0+a11*a31+a12*a32+a13*a33=0∧
  0+a21*a11+a22*a12+a23*a13=0∧0+a21*a21+a22*a22+a23*a23=1∧0+a21*a31+a22*a32+a23*a33=0∧
  0+a31*a11+a32*a12+a33*a13=0∧0+a31*a21+a32*a22+a33*a23=0∧0+a31*a31+a32*a32+a33*a33=1:=by
 have hN:=nq_ne h0
 have m:=yc7 h (rotq_tr h)
 have hk:w*w+x*x+y*y+z*z≠0:=hN
 have e1:w*w - x*-x - y*-y - z*-z=(w*w+x*x+y*y+z*z)*1:=by grind
 have e2:w*-x+x*w+y*-z - z*-y=(w*w+x*x+y*y+z*z)*0:=by grind
 have e3:w*-y - x*-z+y*w+z*-x=(w*w+x*x+y*y+z*z)*0:=by grind
 have e4:w*-z+x*-y - y*-x+z*w=(w*w+x*x+y*y+z*z)*0:=by grind
 rw [e1,e2,e3,e4] at m
 exact zE6 (by rintro ⟨h,_⟩;exact absurd h (by decide)) (yp2 hk m) rotq_id
theorem rotq_det {a11 a12 a13 a21 a22 a23 a31 a32 a33 w x y z:Rat} (h0:¬(w=0∧x=0∧y=0∧z=0))
  (h:RotQ a11 a12 a13 a21 a22 a23 a31 a32 a33 w x y z):
  a11*(a22*a33 - a23*a32)+a12*(a23*a31 - a21*a33)+a13*(a21*a32 - a22*a31)=1:=by
 have hN:=nq_ne h0
 obtain ⟨ah,ab,aj,ae,ai,ad,af,aa,ac⟩:=h
 generalize hM:w*w+x*x+y*y+z*z=N at*
 have cof:∀ p q r s P Q R S:Rat,p*N=P→q*N=Q→r*N=R→s*N=S→(p*q - r*s)*(N*N)=P*Q - R*S:=by
  intro p q r s P Q R S h1 h2 h3 h4;subst h1 h2 h3 h4;grind
 have c1:=cof _ _ _ _ _ _ _ _ ai ac ad aa
 have c2:=cof _ _ _ _ _ _ _ _ ad af ae ac
 have c3:=cof _ _ _ _ _ _ _ _ ae aa ai af
 have d1:(a22*a33 - a23*a32)*(N*N)=(w*w+x*x - y*y - z*z)*N:=by rw [c1,← hM];grind
 have d2:(a23*a31 - a21*a33)*(N*N)=(2*(x*y - w*z))*N:=by rw [c2,← hM];grind
 have d3:(a21*a32 - a22*a31)*(N*N)=(2*(x*z+w*y))*N:=by rw [c3,← hM];grind
 have f1:a22*a33 - a23*a32=a11:=by apply ze2 hN;apply ze2 hN;rw [ah];grind
 have f2:a23*a31 - a21*a33=a12:=by apply ze2 hN;apply ze2 hN;rw [ab];grind
 have f3:a21*a32 - a22*a31=a13:=by apply ze2 hN;apply ze2 hN;rw [aj];grind
 rw [f1,f2,f3]
 have:(a11*a11+a12*a12+a13*a13)*(N*N)=1*(N*N):=by
  have k:(a11*a11+a12*a12+a13*a13)*(N*N)=(a11*N)*(a11*N)+(a12*N)*(a12*N)+(a13*N)*(a13*N):=by grind
  rw [k,ah,ab,aj,← hM];grind
 exact ze2 (fun e=>by rcases Rat.mul_eq_zero.1 e with h | h<;>exact hN h) this
theorem sclN {N a m n:Rat} (hN:N≠0) (e:a*N=4*m*n):a=4*m/N*n:=by grind
theorem wzq_rot {a11 a12 a13 a21 a22 a23 a31 a32 a33:Rat} {n0 n1 n2 n3:Int} (hn:¬(n0=0∧n1=0∧n2=0∧n3=0))
  (h:RotQ a11 a12 a13 a21 a22 a23 a31 a32 a33 n0 n1 n2 n3):
  wzq (zH8 a11 a12 a13 a21 a22 a23 a31 a32 a33) 0=za1 n0 n1 n2 n3 n0∧wzq (zH8 a11 a12 a13 a21 a22 a23 a31 a32 a33) 1=za1 n0 n1 n2 n3 n1∧
  wzq (zH8 a11 a12 a13 a21 a22 a23 a31 a32 a33) 2=za1 n0 n1 n2 n3 n2∧wzq (zH8 a11 a12 a13 a21 a22 a23 a31 a32 a33) 3=za1 n0 n1 n2 n3 n3:=by
 have hq:¬((n0:Rat)=0∧(n1:Rat)=0∧(n2:Rat)=0∧(n3:Rat)=0):=by
  rintro ⟨h0,h1,h2,h3⟩
  exact hn ⟨Rat.intCast_eq_zero_iff.1 h0,Rat.intCast_eq_zero_iff.1 h1,Rat.intCast_eq_zero_iff.1 h2,Rat.intCast_eq_zero_iff.1 h3⟩
 have hN:=nq_ne hq
 have hz:∀ n:Int,(n:Rat)=0↔n=0:=fun n=>Rat.intCast_eq_zero_iff
 rw [← hz,← hz,← hz,← hz] at hn
 obtain ⟨ai,ac,ak,af,aj,ae,ah,ab,ad⟩:=h
 have fin:∀ (m:Int),(m:Rat)≠0→∀ a1 a2 a3 a4:Rat,
   a1*((n0:Rat)*n0+n1*n1+n2*n2+n3*n3)=4*m*n0→a2*((n0:Rat)*n0+n1*n1+n2*n2+n3*n3)=4*m*n1→
   a3*((n0:Rat)*n0+n1*n1+n2*n2+n3*n3)=4*m*n2→a4*((n0:Rat)*n0+n1*n1+n2*n2+n3*n3)=4*m*n3→
   wzq (a1,a2,a3,a4) 0=za1 n0 n1 n2 n3 n0∧wzq (a1,a2,a3,a4) 1=za1 n0 n1 n2 n3 n1∧wzq (a1,a2,a3,a4) 2=za1 n0 n1 n2 n3 n2∧wzq (a1,a2,a3,a4) 3=za1 n0 n1 n2 n3 n3:=by
  intro m hm a1 a2 a3 a4 e1 e2 e3 e4
  have hn':¬(n0=0∧n1=0∧n2=0∧n3=0):=by rw [← hz,← hz,← hz,← hz];exact hn
  generalize hM:(n0:Rat)*n0+n1*n1+n2*n2+n3*n3=N at*
  have hc:4*(m:Rat)/N≠0:=by grind
  have sc:∀ (a:Rat) (n:Int),a*N=4*m*n→a=4*(m:Rat)/N*((n:Int):Rat):=fun a n e=>sclN hN e
  have s1:=sc _ _ e1;have s2:=sc _ _ e2;have s3:=sc _ _ e3;have s4:=sc _ _ e4
  exact ⟨wz_of hc hn' (.inl rfl) s1 s2 s3 s4 s1,wz_of hc hn' (.inr (.inl rfl)) s1 s2 s3 s4 s2,wz_of hc hn' (.inr (.inr (.inl rfl))) s1 s2 s3 s4 s3,wz_of hc hn' (.inr (.inr (.inr rfl))) s1 s2 s3 s4 s4⟩
 have zz:∀ (a:Rat) (n:Int),a*((n0:Rat)*n0+n1*n1+n2*n2+n3*n3)=4*n*n→(sgn a.num=0↔(n:Rat)=0):=by
  intro a n e
  rw [zc8,Rat.num_eq_zero]
  constructor
  ·intro ha;rw [ha] at e
   have:(n:Rat)*n=0:=by grind
   rcases Rat.mul_eq_zero.1 this with h | h<;>exact h
  ·intro aa;rw [aa] at e;apply ze2 hN;rw [e];grind
 have d0:=zz ((((0+1)+a11)+a22)+a33) n0 (by grind)
 have d1:=zz ((1+a11) - (a22+a33)) n1 (by grind)
 have d2:=zz ((1+a22) - (a11+a33)) n2 (by grind)
 unfold zH8
 split
 ·next c0=>
  have c0:=d0.1 c0
  split
  ·next c1=>
   have c1:=d1.1 c1
   split
   ·next c2=>
    have c2:=d2.1 c2
    exact fin n3 (fun e=>hn ⟨c0,c1,c2,e⟩) _ _ _ _ (by grind) (by grind) (by grind) (by grind)
   ·next c2=>exact fin n2 (fun e=>c2 (d2.2 e)) _ _ _ _ (by grind) (by grind) (by grind) (by grind)
  ·next c1=>exact fin n1 (fun e=>c1 (d1.2 e)) _ _ _ _ (by grind) (by grind) (by grind) (by grind)
 ·next c0=>exact fin n0 (fun e=>c0 (d0.2 e)) _ _ _ _ (by grind) (by grind) (by grind) (by grind)
theorem yg5 {a:Rat} {n d:Int} (hd:0<d) (h:a*(d:Rat)=(n:Rat)):a.num.natAbs≤n.natAbs∧(a.den:Int)≤d:=by
 have e:=zo0 a
 have hp:=zm2 a
 have k:a.num*d=n*(a.den:Int):=by
  have:((a.num*d:Int):Rat)=((n*(a.den:Int):Int):Rat):=by
   rw [Rat.intCast_mul,Rat.intCast_mul,← h,← e]
   generalize ((a.den:Int):Rat)=x
   generalize (d:Rat)=y
   grind
  exact Rat.intCast_inj.1 this
 have hdvd:(a.den:Int)∣a.num*d:=⟨n,by rw [k,Int.mul_comm]⟩
 have h2:(a.den:Int)∣d:=by
  have h1:a.den∣a.num.natAbs*d.natAbs:=by
   have:=Int.natAbs_dvd_natAbs.2 hdvd
   rwa [Int.natAbs_mul] at this
  have h3:=Nat.Coprime.dvd_of_dvd_mul_left (Nat.coprime_comm.1 a.reduced) h1
  rcases Int.natAbs_eq d with e | e
  ·rw [e];exact Int.ofNat_dvd.2 h3
  ·rw [e];exact Int.dvd_neg.2 (Int.ofNat_dvd.2 h3)
 obtain ⟨c,hc⟩:=h2
 have hcp:0<c:=by
  rcases Int.lt_or_le 0 c with h | h
  ·exact h
  ·have:=Int.mul_nonpos_of_nonneg_of_nonpos (Int.le_of_lt hp) h;omega
 have hn:n=a.num*c:=by
  rw [hc,← Int.mul_assoc,Int.mul_right_comm] at k
  exact (Int.eq_of_mul_eq_mul_right (by omega) k).symm
 constructor
 ·rw [hn,Int.natAbs_mul]
  exact Nat.le_mul_of_pos_right _ (by omega)
 ·rw [hc]
  have:=Int.mul_le_mul_of_nonneg_left (show 1≤c by omega) (Int.le_of_lt hp)
  omega
theorem yo8 {k:Nat} {a:Rat} {n d:Int} (hd:0<d) (h:a*(d:Rat)=(n:Rat)) (h1:n.natAbs<2 ^ k) (h2:d<2 ^ k):RS k a:=by
 obtain ⟨e1,e2⟩:=yg5 hd h
 refine ⟨Nat.lt_of_le_of_lt e1 h1,?_⟩
 unfold Sz
 have:((2 ^ k:Nat):Int)=2 ^ k:=by simp
 have:=zm2 a
 omega
theorem zk0 {a b:Int} (h1:-b≤a) (h2:a≤b):0≤a*a∧a*a≤b*b:=by
 have hb:0≤b:=by omega
 refine ⟨?_,?_⟩
 ·rcases Int.le_total 0 a with h | h
  ·exact Int.mul_nonneg h h
  ·exact Int.mul_nonneg_of_nonpos_of_nonpos h h
 ·rcases Int.le_total 0 a with h | h
  ·exact Int.mul_le_mul h2 h2 h hb
  ·have:=Int.mul_le_mul (show -a≤b by omega) (show -a≤b by omega) (by omega) hb
   rwa [Int.neg_mul_neg] at this
theorem rotq_rs {a11 a12 a13 a21 a22 a23 a31 a32 a33:Rat} {w x y z:Int} (h0:¬(w=0∧x=0∧y=0∧z=0))
  (b0:-1000000≤w∧w≤1000000) (b1:-1000000≤x∧x≤1000000) (b2:-1000000≤y∧y≤1000000) (b3:-1000000≤z∧z≤1000000)
  (h:RotQ a11 a12 a13 a21 a22 a23 a31 a32 a33 w x y z):
  RS 50 a11∧RS 50 a12∧RS 50 a13∧RS 50 a21∧RS 50 a22∧RS 50 a23∧RS 50 a31∧RS 50 a32∧RS 50 a33:=by
 obtain ⟨ad,ab,ai,ah,ae,aj,ac,aa,af⟩:=h
 have sw:=zk0 b0.1 b0.2;have sx:=zk0 b1.1 b1.2;have sy:=zk0 b2.1 b2.2;have sz:=zk0 b3.1 b3.2
 have hN:0<w*w+x*x+y*y+z*z:=by
  have z0:∀ t:Int,t*t=0→t=0:=fun t ht=>by rcases Int.mul_eq_zero.1 ht with h | h<;>exact h
  rcases Int.lt_or_le 0 (w*w+x*x+y*y+z*z) with h | h
  ·exact h
  ·exact absurd ⟨z0 _ (by omega),z0 _ (by omega),z0 _ (by omega),z0 _ (by omega)⟩ h0
 have pr:∀ p q:Int,-1000000≤p∧p≤1000000→-1000000≤q∧q≤1000000→-1000000000000≤p*q∧p*q≤1000000000000:=by
  intro p q hp hq
  have s1:=zk0 (a:=p+q) (b:=2000000) (by omega) (by omega)
  have s2:=zk0 (a:=p - q) (b:=2000000) (by omega) (by omega)
  have e1:(p+q)*(p+q)=p*p+2*(p*q)+q*q:=by grind
  have e2:(p - q)*(p - q)=p*p - 2*(p*q)+q*q:=by grind
  have:=zk0 hp.1 hp.2
  have:=zk0 hq.1 hq.2
  have e3:(p+q)*(p+q) - (p - q)*(p - q)=4*(p*q):=by grind
  omega
 have wx:=pr w x b0 b1;have wy:=pr w y b0 b2;have wz:=pr w z b0 b3;have xy:=pr x y b1 b2;have xz:=pr x z b1 b3;have yz:=pr y z b2 b3
 have go:∀ (a:Rat) (n:Int),a*(w*w+x*x+y*y+z*z)=(n:Rat)→n.natAbs<2 ^ 50→RS 50 a:=by
  intro a n e hn
  refine yo8 (n:=n) hN ?_ hn (by omega)
  rw [Rat.intCast_add,Rat.intCast_add,Rat.intCast_add,Rat.intCast_mul,Rat.intCast_mul,Rat.intCast_mul,Rat.intCast_mul];exact e
 refine ⟨go _ (w*w+x*x - y*y - z*z) (ad.trans ?_) (by omega),go _ (2*(x*y - w*z)) (ab.trans ?_) (by omega),go _ (2*(x*z+w*y)) (ai.trans ?_) (by omega),
  go _ (2*(x*y+w*z)) (ah.trans ?_) (by omega),go _ (w*w - x*x+y*y - z*z) (ae.trans ?_) (by omega),go _ (2*(y*z - w*x)) (aj.trans ?_) (by omega),
  go _ (2*(x*z - w*y)) (ac.trans ?_) (by omega),go _ (2*(y*z+w*x)) (aa.trans ?_) (by omega),go _ (w*w - x*x - y*y+z*z) (af.trans ?_) (by omega)⟩<;>
  simp only [Rat.intCast_add,Rat.intCast_sub,Rat.intCast_mul]<;>rfl
theorem yo9 {a11 a12 a13 a21 a22 a23 a31 a32 a33 ai ae ad ab ah af ac aj aa:Rat} {a b c d p q r s n0 n1 n2 n3:Int}
  (h:RotQ a11 a12 a13 a21 a22 a23 a31 a32 a33 a b c d) (g:RotQ ai ae ad ab ah af ac aj aa p q r s)
  (h0:n0=a*p - b*q - c*r - d*s) (h1:n1=a*q+b*p+c*s - d*r) (h2:n2=a*r - b*s+c*p+d*q) (h3:n3=a*s+b*r - c*q+d*p):
  RotQ (0+a11*ai+a12*ab+a13*ac) (0+a11*ae+a12*ah+a13*aj) (0+a11*ad+a12*af+a13*aa)
   (0+a21*ai+a22*ab+a23*ac) (0+a21*ae+a22*ah+a23*aj) (0+a21*ad+a22*af+a23*aa)
   (0+a31*ai+a32*ab+a33*ac) (0+a31*ae+a32*ah+a33*aj) (0+a31*ad+a32*af+a33*aa)
   n0 n1 n2 n3:=by
 have m:=yc7 h g
 rw [h0,h1,h2,h3]
 simp only [Rat.intCast_add,Rat.intCast_sub,Rat.intCast_mul]
 exact m
theorem nq_int {w x y z:Int} (h:¬(w=0∧x=0∧y=0∧z=0)):¬((w:Rat)=0∧(x:Rat)=0∧(y:Rat)=0∧(z:Rat)=0):=by
 rintro ⟨h0,h1,h2,h3⟩
 exact h ⟨Rat.intCast_eq_zero_iff.1 h0,Rat.intCast_eq_zero_iff.1 h1,Rat.intCast_eq_zero_iff.1 h2,Rat.intCast_eq_zero_iff.1 h3⟩
theorem yp0 (a b c d p q r s:Int):
  (a*p - b*q - c*r - d*s)*(a*p - b*q - c*r - d*s)+(a*q+b*p+c*s - d*r)*(a*q+b*p+c*s - d*r)+(a*r - b*s+c*p+d*q)*(a*r - b*s+c*p+d*q)+(a*s+b*r - c*q+d*p)*(a*s+b*r - c*q+d*p)
  =(a*a+b*b+c*c+d*d)*(p*p+q*q+r*r+s*s):=by grind
theorem zV9 {w x y z:Int} (h:¬(w=0∧x=0∧y=0∧z=0)):0<w*w+x*x+y*y+z*z:=by
 have sq:∀ t:Int,0≤t*t:=fun t=>by
  rcases Int.le_total 0 t with h | h
  ·exact Int.mul_nonneg h h
  ·exact Int.mul_nonneg_of_nonpos_of_nonpos h h
 have z0:∀ t:Int,t*t=0→t=0:=fun t ht=>by rcases Int.mul_eq_zero.1 ht with h | h<;>exact h
 have s1:=sq w;have s2:=sq x;have s3:=sq y;have s4:=sq z
 rcases Int.lt_or_le 0 (w*w+x*x+y*y+z*z) with hp | hp
 ·exact hp
 ·exact absurd ⟨z0 _ (by omega),z0 _ (by omega),z0 _ (by omega),z0 _ (by omega)⟩ h
theorem qmul_ne {a b c d p q r s n0 n1 n2 n3:Int} (h:¬(a=0∧b=0∧c=0∧d=0)) (g:¬(p=0∧q=0∧r=0∧s=0))
  (h0:n0=a*p - b*q - c*r - d*s) (h1:n1=a*q+b*p+c*s - d*r) (h2:n2=a*r - b*s+c*p+d*q) (h3:n3=a*s+b*r - c*q+d*p):
  ¬(n0=0∧n1=0∧n2=0∧n3=0):=by
 rintro ⟨e0,e1,e2,e3⟩
 have:=yp0 a b c d p q r s
 rw [← h0,← h1,← h2,← h3,e0,e1,e2,e3] at this
 have k:=Int.mul_pos (zV9 h) (zV9 g)
 rw [← this] at k
 exact absurd k (by decide)
structure VT (q0 q1 q2 q3:Int):Prop where
 b0:-12≤q0∧q0≤12
 b1:-12≤q1∧q1≤12
 b2:-12≤q2∧q2≤12
 b3:-12≤q3∧q3≤12
 g:qgcd q0 q1 q2 q3=1
 s:qsgn q0 q1 q2 q3=1
def chk (q0 q1 q2 q3 e:Int):Int:=
 if q0=0∧q1=0∧q2=0∧q3=0 then 19
 else if ¬((-12≤q0∧q0≤12)∧(-12≤q1∧q1≤12)∧(-12≤q2∧q2≤12)∧(-12≤q3∧q3≤12)) then 2
 else if ¬(qgcd q0 q1 q2 q3=1∧qsgn q0 q1 q2 q3=1) then 3 else e
theorem zq2 {q0 q1 q2 q3:Int} (h:¬(q0=0∧q1=0∧q2=0∧q3=0)):qsgn q0 q1 q2 q3=1∨qsgn q0 q1 q2 q3=-1:=by
 have k:∀ z:Int,z≠0→sgn z=1∨sgn z=-1:=fun z hz=>by unfold sgn;split<;>(try split)<;>omega
 unfold qsgn
 split
 ·split
  ·split
   ·exact k _ (by omega)
   ·exact k _ (by omega)
  ·exact k _ (by omega)
 ·exact k _ (by omega)
theorem VT.ne {q0 q1 q2 q3:Int} (h:VT q0 q1 q2 q3):¬(q0=0∧q1=0∧q2=0∧q3=0):=by
 rintro ⟨rfl,rfl,rfl,rfl⟩;exact absurd h.s (by decide)
theorem VT.chk {q0 q1 q2 q3:Int} (h:VT q0 q1 q2 q3) (e:Int):chk q0 q1 q2 q3 e=e:=by
 unfold _root_.Go.Proofs.YtaldbfflkpgfoaaGreatDoor.chk
 rw [if_neg h.ne,if_neg (by simp only [Classical.not_not];exact ⟨h.b0,h.b1,h.b2,h.b3⟩),if_neg (by simp only [Classical.not_not];exact ⟨h.g,h.s⟩)]
theorem chk_ok {q0 q1 q2 q3 e:Int} (h:chk q0 q1 q2 q3 e=0):VT q0 q1 q2 q3∧e=0:=by
 unfold chk at h
 split at h
 ·omega
 ·split at h
  ·omega
  ·next h1 h2=>
   split at h
   ·omega
   ·next h3=>
    simp only [Classical.not_not] at h2 h3
    exact ⟨⟨h2.1,h2.2.1,h2.2.2.1,h2.2.2.2,h3.1,h3.2⟩,h⟩
theorem zJ5 {q0 q1 q2 q3 n:Int} (h0:¬(q0=0∧q1=0∧q2=0∧q3=0)) (h:qgcd q0 q1 q2 q3∣n):Int.tdiv n (qgcd q0 q1 q2 q3*qsgn q0 q1 q2 q3)=za1 q0 q1 q2 q3 n:=by
 have hg:=zu0 h0
 unfold za1
 obtain ⟨c,rfl⟩:=h
 generalize qgcd q0 q1 q2 q3=g at*
 rw [Int.mul_ediv_cancel_left _ (by omega)]
 rcases zq2 h0 with e | e
 ·rw [e,Int.mul_one,Int.mul_one,Int.mul_tdiv_cancel_left _ (by omega)]
 ·rw [e,Int.mul_neg,Int.mul_one,Int.tdiv_neg,Int.mul_tdiv_cancel_left _ (by omega)];omega
theorem qprim_ok {q0 q1 q2 q3:Int} (h0:¬(q0=0∧q1=0∧q2=0∧q3=0)):
  qgcd (za1 q0 q1 q2 q3 q0) (za1 q0 q1 q2 q3 q1) (za1 q0 q1 q2 q3 q2) (za1 q0 q1 q2 q3 q3)=1∧qsgn (za1 q0 q1 q2 q3 q0) (za1 q0 q1 q2 q3 q1) (za1 q0 q1 q2 q3 q2) (za1 q0 q1 q2 q3 q3)=1:=by
 have hg:=zu0 h0
 obtain ⟨d0,d1,d2,d3⟩:=zl4 q0 q1 q2 q3
 have hs:=zq2 h0
 have hk:qgcd q0 q1 q2 q3*qsgn q0 q1 q2 q3≠0:=Int.mul_ne_zero (by omega) (by omega)
 have go:∀ n,qgcd q0 q1 q2 q3∣n→n=qgcd q0 q1 q2 q3*qsgn q0 q1 q2 q3*za1 q0 q1 q2 q3 n:=by
  intro n ⟨c,hc⟩
  unfold za1
  rw [hc]
  generalize qgcd q0 q1 q2 q3=g at*
  rw [Int.mul_ediv_cancel_left _ (by omega)]
  rcases hs with e | e<;>rw [e]<;>grind
 have e0:=go _ d0;have e1:=go _ d1;have e2:=go _ d2;have e3:=go _ d3
 generalize aa:za1 q0 q1 q2 q3 q0=p0 at*
 generalize ad:za1 q0 q1 q2 q3 q1=p1 at*
 generalize ab:za1 q0 q1 q2 q3 q2=p2 at*
 generalize ac:za1 q0 q1 q2 q3 q3=p3 at*
 have m1:=zM8 (qgcd q0 q1 q2 q3*qsgn q0 q1 q2 q3) p0 p1 p2 p3
 have m2:=yc5 hk p0 p1 p2 p3
 rw [← e0,← e1,← e2,← e3] at m1 m2
 have hab:((qgcd q0 q1 q2 q3*qsgn q0 q1 q2 q3).natAbs:Int)=qgcd q0 q1 q2 q3:=by
  rcases hs with e | e<;>rw [e]<;>omega
 have hsg:sgn (qgcd q0 q1 q2 q3*qsgn q0 q1 q2 q3)=qsgn q0 q1 q2 q3:=by
  rcases hs with e | e<;>rw [e]<;>unfold sgn<;>split<;>(try split)<;>omega
 rw [hab] at m1
 rw [hsg] at m2
 constructor
 ·have:qgcd q0 q1 q2 q3*qgcd p0 p1 p2 p3=qgcd q0 q1 q2 q3*1:=by rw [← m1,Int.mul_one]
  exact Int.eq_of_mul_eq_mul_left (by omega) this
 ·rcases hs with e | e<;>rw [e] at m2<;>omega
theorem ze7 {q0 q1 q2 q3 n:Int} (h0:¬(q0=0∧q1=0∧q2=0∧q3=0)):(za1 q0 q1 q2 q3 n).natAbs≤n.natAbs:=by
 have hg:=zu0 h0
 unfold za1
 have:(n/qgcd q0 q1 q2 q3).natAbs≤n.natAbs:=by
  generalize qgcd q0 q1 q2 q3=g at*
  have h1:=Int.natAbs_ediv_le_natAbs n g
  exact h1
 rcases zq2 h0 with e | e<;>rw [e]<;>omega
theorem IsInt.tight {w:World} {k m:Nat} {x y:Value} {z:Int} (h:IsInt w k x y z) (hs:Sz m z):IsInt w m x y z:=by
 obtain ⟨ao,len,cap,h1,h2,h3,_⟩:=h
 exact ⟨ao,len,cap,h1,h2,h3,hs⟩
theorem IsRat.tight {w:World} {k m:Nat} {c0 c1 c2 c3:Value} {q:Rat} (h:IsRat w k c0 c1 c2 c3 q) (hs:RS m q) (hm:64≤m):IsRat w m c0 c1 c2 c3 q:=by
 obtain ⟨h1,⟨D,h2,h3⟩,_⟩:=h
 refine ⟨h1.tight hs.1,⟨D,h2.tight ?_,h3⟩,hm⟩
 rcases h3 with rfl | ⟨rfl,_⟩
 ·exact hs.2
 ·exact Nat.two_pow_pos m
def rats:List Cl→Option (List (Nat × Rat))
 | []=>some []
 | .cr j 0 k q::.cr j1 1 _ _::.cr j2 2 _ _::.cr j3 3 _ _::r=>if Nat.beq j1 j&&Nat.beq j2 j&&Nat.beq j3 j then (match rats r with | some l=>some ((k,q)::l) | none=>none) else none
 | a::b::c::d::r=>if falC a&&nilC b&&falC c&&nilC d then (match rats r with | some l=>some ((64,0)::l) | none=>none) else none
 | _=>none
def IsRats (w:World):List Value→List (Nat × Rat)→Prop
 | [],[]=>True
 | a::b::c::d::v,x::l=>IsRat w x.1 a b c d x.2∧IsRats w v l
 | _,_=>False
theorem zO7 {n:Nn} {X:Env} {w:World}:∀ {l:List Cl} {r:List (Nat × Rat)},rats l=some r→okL n X w l→IsRats w (l.map (Cl.den X)) r
 | l,r,h,hl=>by
  unfold rats at h
  split at h
  ·cases h;trivial
  ·rename_i j k q j1 _ _ j2 _ _ j3 _ _ t
   split at h
   ·rename_i hj
    simp only [Bool.and_eq_true,Nat.beq_eq] at hj
    obtain ⟨⟨rfl,rfl⟩,rfl⟩:=hj
    split at h
    ·rename_i l' hr
     cases h
     exact ⟨(hl (.cr j3 0 k q) (by simp)).2,zO7 hr fun c hc=>hl c (by simp [hc])⟩
    ·cases h
   ·cases h
  ·rename_i a b c d t _
   split at h
   ·rename_i hh
    simp only [Bool.and_eq_true] at hh
    obtain ⟨⟨⟨h1,h2⟩,h3⟩,h4⟩:=hh
    split at h
    ·rename_i l' hr
     cases h
     refine ⟨?_,zO7 hr fun c hc=>hl c (by simp [hc])⟩
     rw [zu9 h1 (hl a (by simp)),zv0 h2,zu9 h3 (hl c (by simp)),zv0 h4]
     exact IsRat.zero w (Nat.le_refl _)
    ·cases h
   ·cases h
  ·cases h
def zH1:SV→Option (List (Nat × Rat))
 | .so (.vg l)=>rats l
 | _=>none
theorem zp4 {n:Nn} {X:Env} {w:World} {v:SV} {r:List (Nat × Rat)} (h:zH1 v=some r) (hv:v.ok n X w):∃ vs,v.den X=.agg vs.toArray∧IsRats w vs r:=by
 unfold zH1 at h
 split at h
 ·exact ⟨_,rfl,zO7 h hv⟩
 ·cases h
theorem IsRats.cons {w:World} {v:List Value} {x:Nat × Rat} {l:List (Nat × Rat)} (h:IsRats w v (x::l)):∃ a b c d u,v=a::b::c::d::u∧IsRat w x.1 a b c d x.2∧IsRats w u l:=by
 match v,h with
 | a::b::c::d::u,h=>exact ⟨a,b,c,d,u,rfl,h.1,h.2⟩
theorem IsRats.nil {w:World} {v:List Value} (h:IsRats w v []):v=[]:=by
 cases v with
 | nil=>rfl
 | cons a v=>simp [IsRats] at h
def Conv:List (Nat × Rat)→List (Nat × Rat)→Prop
 | [],[]=>True
 | (_,q)::l,(m,r)::l'=>(q=r∧RS m r∧64≤m)∧Conv l l'
 | _,_=>False
theorem IsRats.conv {w:World}:∀ {vs:List Value} {l l':List (Nat × Rat)},IsRats w vs l→Conv l l'→IsRats w vs l'
 | [],[],[],_,_=>trivial
 | a::b::c::d::vs,(k,q)::l,(m,r)::l',h,hc=>by
  obtain ⟨⟨rfl,h1,h2⟩,h3⟩:=hc
  exact ⟨h.1.tight h1 h2,IsRats.conv h.2 h3⟩
 | [],[],_::_,_,h=>by cases h
 | _,_::_,[],_,h=>by cases h
 | [],_::_,_::_,h,_=>by cases h
 | [_],_::_,_::_,h,_=>by cases h
 | [_,_],_::_,_::_,h,_=>by cases h
 | [_,_,_],_::_,_::_,h,_=>by cases h
 | _::_,[],_,h,_=>by simp [IsRats] at h
def zs0:Nat→List (Nat × Rat)→List Cl
 | _,[]=>[]
 | j,(k,q)::l=>.cr j 0 k q::.cr j 1 k q::.cr j 2 k q::.cr j 3 k q::zs0 (j+1) l
def yi6 (X:Env) (n:Nat) (vs:List Value):Env:={X with R:=fun i c=>if i<n then X.R i c else vs.getD (4*(i - n)+c) undef}
theorem zT7 {w:World} {X:Env} {n:Nn} (vs:List Value):∀ (l:List (Nat × Rat)) (us:List Value) (j m:Nat),IsRats w us l→vs.drop (4*j)=us→m=n.r+j+l.length→
  (zs0 (n.r+j) l).map (Cl.den (yi6 X n.r vs))=us∧okL ⟨n.b,m,n.z⟩ (yi6 X n.r vs) w (zs0 (n.r+j) l)
 | [],[],j,m,_,_,_=>⟨rfl,fun _ h=>by cases h⟩
 | (k,q)::l,a::b::c::d::us,j,m,h,hd,hm=>by
  have hR:∀ t,(yi6 X n.r vs).R (n.r+j) t=vs.getD (4*j+t) undef:=fun t=>by
   show (if n.r+j<n.r then _ else _)=_
   rw [if_neg (by omega),Nat.add_sub_cancel_left]
  have hg:∀ t,vs.getD (4*j+t) undef=(a::b::c::d::us).getD t undef:=fun t=>by
   rw [← hd,List.getD_eq_getElem?_getD,List.getD_eq_getElem?_getD,List.getElem?_drop]
  have e0:(yi6 X n.r vs).R (n.r+j) 0=a:=by rw [hR,hg];rfl
  have e1:(yi6 X n.r vs).R (n.r+j) 1=b:=by rw [hR,hg];rfl
  have e2:(yi6 X n.r vs).R (n.r+j) 2=c:=by rw [hR,hg];rfl
  have e3:(yi6 X n.r vs).R (n.r+j) 3=d:=by rw [hR,hg];rfl
  simp only [List.length_cons] at hm
  obtain ⟨i1,i2⟩:=zT7 (X:=X) (n:=n) vs l us (j+1) m h.2 (by
   have:=congrArg (List.drop 4) hd
   rw [List.drop_drop] at this
   simpa [Nat.mul_add] using this) (by omega)
  refine ⟨?_,fun x hx=>?_⟩
  ·simp only [zs0,List.map_cons,Cl.den,e0,e1,e2,e3]
   rw [show n.r+j+1=n.r+(j+1) by omega,i1]
  ·have hl:Nat.blt (n.r+j) m=true:=zm5 (by omega)
   have hq:IsRat w k ((yi6 X n.r vs).R (n.r+j) 0) ((yi6 X n.r vs).R (n.r+j) 1) ((yi6 X n.r vs).R (n.r+j) 2) ((yi6 X n.r vs).R (n.r+j) 3) q:=by rw [e0,e1,e2,e3];exact h.1
   simp only [zs0,List.mem_cons] at hx
   rcases hx with rfl | rfl | rfl | rfl | hx
   ·exact ⟨by simp only [Cl.lt,hl];rfl,hq⟩
   ·exact ⟨by simp only [Cl.lt,hl];rfl,hq⟩
   ·exact ⟨by simp only [Cl.lt,hl];rfl,hq⟩
   ·exact ⟨by simp only [Cl.lt,hl];rfl,hq⟩
   ·exact i2 x (by rw [show n.r+(j+1)=n.r+j+1 by omega];exact hx)
 | _::_,[],_,_,h,_,_=>by cases h
 | _::_,[_],_,_,h,_,_=>by cases h
 | _::_,[_,_],_,_,h,_,_=>by cases h
 | _::_,[_,_,_],_,_,h,_,_=>by cases h
 | [],_::_,_,_,h,_,_=>by simp [IsRats] at h
theorem envV_agr (X:Env) (n:Nn) (vs:List Value):Agr n X (yi6 X n.r vs):=⟨fun _ _=>rfl,fun _ _ hi=>(if_pos hi).symm,fun _ _ _=>rfl,rfl⟩
theorem zH2 {n:Nn} {X:Env} {w w':World} {e:Ending} {l:List (Nat × Rat)} {t:IntKind} {z:Int} (h:(∃ vs:List Value,e=.returned (.tuple #[.agg vs.toArray,.int t z])∧IsRats w' vs l)∧Gr w w'):(Tr.leaf (.st [.vg (zs0 n.r l),.vc (.ci t z z z)]) l.length 0).holds n X w e w':=by
 obtain ⟨⟨vs,rfl,h1⟩,g⟩:=h
 obtain ⟨a,b⟩:=zT7 (X:=X) (n:=n) vs l vs 0 (n.r+l.length) h1 rfl (by omega)
 refine ⟨yi6 X n.r vs,?_,g,envV_agr X n vs,fun x hx=>?_⟩
 ·simp only [SV.den,TV.den,List.map,Cl.den,dnL]
  rw [show zs0 n.r l=zs0 (n.r+0) l from rfl,a]
 ·simp only [List.mem_cons,List.not_mem_nil,or_false] at hx
  rcases hx with rfl | rfl
  ·exact b
  ·exact ⟨rfl,Int.le_refl _,Int.le_refl _⟩
section
variable {P:Program} {a:Act} {o:Oper} {w:World}
theorem zn9 (t t2:TypeId) (x y:Operand) (A B C:Int) (hop:o.op=.binOp .quo t x y t2) (hx:a.eval x=.int .i64 A) (hy:a.eval y=.int .i64 B) (hC:Int.tdiv A B=C) (h1:-9223372036854775808≤C) (h2:C≤9223372036854775807) (hB:B≠0):RunV P a o w (.int .i64 C):=by
 have e2:IntKind.i64.wrap C=C:=by rw [IntKind.wrap_i64];omega
 unfold RunV execOp
 simp only [hop,hx,hy]
 simp [go_sem,binOp,eqGuard,Op.intDiv,hB,hC,e2]
end
section
variable {q0 q1 q2 q3:Int}
theorem gcd_end0 {g n a b:Int} (h:Int.gcd g n=Int.gcd a b) (hb:decide ((0:Int)<n)=false) (hg:0≤g) (hn:0≤n):g=(Int.gcd a b:Int):=by
 have:=of_decide_eq_false hb
 have h0:n=0:=by omega
 rw [h0,Int.gcd_zero_right] at h
 omega
theorem zR5:(Int.gcd (Int.gcd (Int.gcd (Int.gcd 0 (q0.natAbs:Int):Int) (q1.natAbs:Int):Int) (q2.natAbs:Int):Int) (q3.natAbs:Int):Int)=qgcd q0 q1 q2 q3:=by
 unfold qgcd;simp [Int.gcd]
theorem zM4 {z:Int} (hz:z≠0):decide ((0:Int)<z)=decide (sgn z=1):=by
 unfold sgn
 rw [Bool.eq_iff_iff,decide_eq_true_eq,decide_eq_true_eq]
 split<;>(try split)<;>omega
theorem posq0 (h0:(q0 !=(0:Int))=true):decide ((0:Int)<q0)=decide (qsgn q0 q1 q2 q3=1):=by
 have h0:q0≠0:=by simpa using h0
 rw [show qsgn q0 q1 q2 q3=sgn q0 from if_neg h0];exact zM4 h0
theorem posq1 (h0:(q0 !=(0:Int))=false) (h1:(q1 !=(0:Int))=true):decide ((0:Int)<q1)=decide (qsgn q0 q1 q2 q3=1):=by
 have h0:q0=0:=by simpa using h0
 have h1:q1≠0:=by simpa using h1
 rw [show qsgn q0 q1 q2 q3=sgn q1 by unfold qsgn;rw [if_pos h0,if_neg h1]];exact zM4 h1
theorem posq2 (h0:(q0 !=(0:Int))=false) (h1:(q1 !=(0:Int))=false) (h2:(q2 !=(0:Int))=true):decide ((0:Int)<q2)=decide (qsgn q0 q1 q2 q3=1):=by
 have h0:q0=0:=by simpa using h0
 have h1:q1=0:=by simpa using h1
 have h2:q2≠0:=by simpa using h2
 rw [show qsgn q0 q1 q2 q3=sgn q2 by unfold qsgn;rw [if_pos h0,if_pos h1,if_neg h2]];exact zM4 h2
theorem posq3 (h0:(q0 !=(0:Int))=false) (h1:(q1 !=(0:Int))=false) (h2:(q2 !=(0:Int))=false) (h3:(q3 !=(0:Int))=true):decide ((0:Int)<q3)=decide (qsgn q0 q1 q2 q3=1):=by
 have h0:q0=0:=by simpa using h0
 have h1:q1=0:=by simpa using h1
 have h2:q2=0:=by simpa using h2
 have h3:q3≠0:=by simpa using h3
 rw [show qsgn q0 q1 q2 q3=sgn q3 by unfold qsgn;rw [if_pos h0,if_pos h1,if_pos h2]];exact zM4 h3
theorem posq4 (h0:(q0 !=(0:Int))=false) (h1:(q1 !=(0:Int))=false) (h2:(q2 !=(0:Int))=false) (h3:(q3 !=(0:Int))=false):false=decide (qsgn q0 q1 q2 q3=1):=by
 have h0:q0=0:=by simpa using h0
 have h1:q1=0:=by simpa using h1
 have h2:q2=0:=by simpa using h2
 have h3:q3=0:=by simpa using h3
 subst h0 h1 h2 h3;rfl
theorem zM5 {n:Int} (h0:¬(q0=0∧q1=0∧q2=0∧q3=0)) (hd:qgcd q0 q1 q2 q3∣n) (hs:qsgn q0 q1 q2 q3=1):Int.tdiv n (qgcd q0 q1 q2 q3)=za1 q0 q1 q2 q3 n:=by
 have:=zJ5 h0 hd
 rwa [hs,Int.mul_one] at this
theorem zM6 {n:Int} (h0:¬(q0=0∧q1=0∧q2=0∧q3=0)) (hd:qgcd q0 q1 q2 q3∣n) (hs:qsgn q0 q1 q2 q3=-1):Int.tdiv n (0 - qgcd q0 q1 q2 q3)=za1 q0 q1 q2 q3 n:=by
 have:=zJ5 h0 hd
 rwa [hs,Int.mul_neg,Int.mul_one,← Int.zero_sub] at this
end
theorem zE4 (a b c:Rat):((0+a*0+b*0+c*0)+0:Rat)=0:=by grind
def yo6 (ai aj ah aa ae ab ac af ad:Rat):Bool:=decide ([(0+ai*ai+aj*aj+ah*ah),(0+ai*aa+aj*ae+ah*ab),(0+ai*ac+aj*af+ah*ad),(0+aa*ai+ae*aj+ab*ah),(0+aa*aa+ae*ae+ab*ab),(0+aa*ac+ae*af+ab*ad),(0+ac*ai+af*aj+ad*ah),(0+ac*aa+af*ae+ad*ab),(0+ac*ac+af*af+ad*ad),((0+ai*0+aj*0+ah*0)+0),((0+aa*0+ae*0+ab*0)+0),((0+ac*0+af*0+ad*0)+0)]=[1,0,0,0,1,0,0,0,1,0,0,0])&&decide ((0:Int)<sgn (0+ai*(ae*ad - ab*af)+aj*(ab*ac - aa*ad)+ah*(aa*af - ae*ac)).num)
theorem yo7 {a11 a12 a13 a21 a22 a23 a31 a32 a33 w x y z:Rat} (h0:¬(w=0∧x=0∧y=0∧z=0)) (h:RotQ a11 a12 a13 a21 a22 a23 a31 a32 a33 w x y z):yo6 a11 a12 a13 a21 a22 a23 a31 a32 a33=true:=by
 obtain ⟨ae,ah,ai,ab,aa,af,ac,ad,aj⟩:=yp3 h0 h
 have hd:=rotq_det h0 h
 unfold yo6
 rw [Bool.and_eq_true,decide_eq_true_eq,decide_eq_true_eq,ae,ah,ai,ab,aa,af,ac,ad,aj,zE4,zE4,zE4]
 refine ⟨rfl,?_⟩
 have e:(0+a11*(a22*a33 - a23*a32)+a12*(a23*a31 - a21*a33)+a13*(a21*a32 - a22*a31):Rat)=1:=by rw [← hd];grind
 rw [e];decide
def zI3 (rg:Bool) (z0 z1 z2 z3:Int) (x y t:List UInt8):Int:=
 if rg=true then (if (-12≤z0∧z0≤12)∧(-12≤z1∧z1≤12)∧(-12≤z2∧z2≤12)∧(-12≤z3∧z3≤12) then (if ((x.length:Int)≤400)∧((y.length:Int)≤400)∧((t.length:Int)≤400) then 0 else 5) else 2) else 3
def pif (e z:Int):Int:=if e=0 then z else 0
def pit (e:Int) (x:List UInt8):List UInt8:=if e=0 then x else []
noncomputable def bd15:Code:=(zY1 100016 ((Tryz.f15.body).getD .skip)).getD .skip
noncomputable def es15:List (Nat × Ent):=[(17,.ord [(true,0),(true,1),(true,2),(true,3),(true,4),(true,5)] [])]
noncomputable def lp15 (s:Sg) (k:KT):Rs:=match s with
 | ⟨(x0::x1::x2::x3::x4::.so (.vc (.ci .i64 g lg hg))::x6::x7::x8::.so (.vc (.ci .i64 m _ _))::x10::x11::x12::x13::x14::x15::x16::x17::x18::x19::x20::x21::x22::x23::x24::x25::x26::x27::x28::x29::x30::x31::x32::x33::x34::x35::x36::x37::x38::x39::_::_::_::_::_::_::x46::x47::x48::x49::x50::x51::x52::x53::x54::x55::x56::x57::x58::x59::[]),bl,nu,nr,nz,ds⟩=>if ile 0 lg&&ile hg 9223372036854775807&&ile 0 0 then asL (decide (0≤m∧m≤9223372036854775807)) true (k (.x 4) ⟨(x0::x1::x2::x3::x4::.so (.vc (.ci .i64 (Int.gcd g m:Int) 0 9223372036854775807))::x6::x7::x8::.so (.vc (.ci .i64 0 0 0))::x10::x11::x12::x13::x14::x15::x16::x17::x18::x19::x20::x21::x22::x23::x24::x25::x26::x27::x28::x29::x30::x31::x32::x33::x34::x35::x36::x37::x38::x39::.so (.vc (.ci .i64 0 0 0))::.so (.vc (.cb false (some false)))::.sj nz 0::.sj nz 1::.sj nz 2::.sj nz 3::x46::x47::x48::x49::x50::x51::x52::x53::x54::x55::x56::x57::x58::x59::[]),bl,nu,nr,nz+1,ds⟩) else none
 | _=>none
theorem ru115 (x0 x1 x2 x3 x4 x6 x7 x8 aE aP al aJ aX aF ab aD aL aq aB ai aH aN aQ ap ak ad aj aa aU aK au aR az av aG aw ae ac aO ar aI aC aS aT aW ay af aV ax ah aM aA a3 a0 aZ a2 aY a1:SV) (g m:Int) (bl:List (Nat × List Cl)) (nu nr nz:Nat) (k:KT):zr8 Tryz.prog 0 0 (fun _ _ _ _=>none) es15 bd15 ⟨(x0::x1::x2::x3::x4::.so (.vc (.ci .i64 g 0 9223372036854775807))::x6::x7::x8::.so (.vc (.ci .i64 m 1 9223372036854775807))::aE::aP::al::aJ::aX::aF::ab::aD::aL::aq::aB::ai::aH::aN::aQ::ap::ak::ad::aj::aa::aU::aK::au::aR::az::av::aG::aw::ae::ac::a3::a0::aZ::a2::aY::a1::aO::ar::aI::aC::aS::aT::aW::ay::af::aV::ax::ah::aM::aA::[]),bl,nu,nr,nz,.e⟩ k=k .n ⟨(x0::x1::x2::x3::x4::.so (.vc (.ci .i64 m 1 9223372036854775807))::x6::x7::x8::.so (.vc (.ci .i64 (g % m) 0 (9223372036854775807 - 1)))::aE::aP::al::aJ::aX::aF::ab::aD::aL::aq::aB::ai::aH::aN::aQ::ap::ak::ad::aj::aa::aU::aK::au::aR::az::av::aG::aw::ae::ac::.so (.vc (.ci .i64 m 1 9223372036854775807))::.so (.vc (.cb (m !=0) (some true)))::.so (.vc (.ci .i64 m 1 9223372036854775807))::.so (.vc (.ci .i64 g 0 9223372036854775807))::.so (.vc (.ci .i64 m 1 9223372036854775807))::.so (.vc (.ci .i64 (g % m) 0 (9223372036854775807 - 1)))::aO::ar::aI::aC::aS::aT::aW::ay::af::aV::ax::ah::aM::aA::[]),bl,nu,nr,nz,.e⟩:=by kernel_rfl
theorem ru015 (x0 x1 x2 x3 x4 x6 x7 x8 aG aR aq aL a1 aH ac aF aN au aD ak aJ aP aS ar ap af al ab aY aM aw aU aB ax aI ay ah ad aQ av aK aE aV aW a0 aA ai aZ az aj aO aC a3 a2 ae aX aa aT:SV) (g:Int) (bl:List (Nat × List Cl)) (nu nr nz:Nat) (k:KT):zr8 Tryz.prog 0 0 (fun _ _ _ _=>none) es15 bd15 ⟨(x0::x1::x2::x3::x4::.so (.vc (.ci .i64 g 0 9223372036854775807))::x6::x7::x8::.so (.vc (.ci .i64 0 0 0))::aG::aR::aq::aL::a1::aH::ac::aF::aN::au::aD::ak::aJ::aP::aS::ar::ap::af::al::ab::aY::aM::aw::aU::aB::ax::aI::ay::ah::ad::a3::a2::ae::aX::aa::aT::aQ::av::aK::aE::aV::aW::a0::aA::ai::aZ::az::aj::aO::aC::[]),bl,nu,nr,nz,.e⟩ k=k (.x 4) ⟨(x0::x1::x2::x3::x4::.so (.vc (.ci .i64 g 0 9223372036854775807))::x6::x7::x8::.so (.vc (.ci .i64 0 0 0))::aG::aR::aq::aL::a1::aH::ac::aF::aN::au::aD::ak::aJ::aP::aS::ar::ap::af::al::ab::aY::aM::aw::aU::aB::ax::aI::ay::ah::ad::.so (.vc (.ci .i64 0 0 0))::.so (.vc (.cb false (some false)))::ae::aX::aa::aT::aQ::av::aK::aE::aV::aW::a0::aA::ai::aZ::az::aj::aO::aC::[]),bl,nu,nr,nz,.e⟩:=by kernel_rfl
theorem lp15_ok:LpOK Tryz.prog lp15 bd15:=by
 intro Post B Q k X s w L hp hk h hL hR
 have hmx:Tryz.prog.follows .mixedOrders=true:=by kernel_rfl
 have hco:zh8 Tryz.prog es15 bd15=true:=by kernel_rfl
 have hno:noLp es15=true:=by kernel_rfl
 unfold lp15 at h
 split at h
 ·rename_i x0 x1 x2 x3 x4 g lg hg x6 x7 x8 m lm hm aG aZ al au a3 aW ah aV aH aK aF aj aM aY aw aJ aB aR ak ay a1 aN aC aP ar ap aL aD az aQ a7 a9 a8 a5 bb ba aO aS aX aU a0 ax a2 aq ai aI aT aA av aE bl nu nr nz ds
  split at h
  ·rename_i hc
   obtain ⟨L',hkk,rfl⟩:=zq5 h
   obtain ⟨hm,hL⟩:=hL
   have hm:=of_decide_eq_true hm
   simp only [Bool.and_eq_true,zh2,decide_eq_true_eq] at hc
   have hg:lg≤g∧g≤hg:=(hR.fr (.so (.vc (.ci .i64 g lg hg))) (List.mem_of_getElem? (i:=5) rfl)).2
   have r0:=((hR.ds .e).set (d:=5) (v:=.so (.vc (.ci .i64 g 0 9223372036854775807))) ⟨rfl,by omega,by omega⟩).set (d:=9) (v:=.so (.vc (.ci .i64 m 0 9223372036854775807))) ⟨rfl,hm.1,hm.2⟩
   refine zg2 (fun n a w'=>∃ (X':Env) (g' m':Int) (af aa ad ac ae ab:SV),m'.toNat=n∧a=za5 X' (x0::x1::x2::x3::x4::.so (.vc (.ci .i64 g' 0 9223372036854775807))::x6::x7::x8::.so (.vc (.ci .i64 m' 0 9223372036854775807))::aG::aZ::al::au::a3::aW::ah::aV::aH::aK::aF::aj::aM::aY::aw::aJ::aB::aR::ak::ay::a1::aN::aC::aP::ar::ap::aL::aD::az::aQ::af::aa::ad::ac::ae::ab::aO::aS::aX::aU::a0::ax::a2::aq::ai::aI::aT::aA::av::aE::[])∧Rep B X' ⟨(x0::x1::x2::x3::x4::.so (.vc (.ci .i64 g' 0 9223372036854775807))::x6::x7::x8::.so (.vc (.ci .i64 m' 0 9223372036854775807))::aG::aZ::al::au::a3::aW::ah::aV::aH::aK::aF::aj::aM::aY::aw::aJ::aB::aR::ak::ay::a1::aN::aC::aP::ar::ap::aL::aD::az::aQ::af::aa::ad::ac::ae::ab::aO::aS::aX::aU::a0::ax::a2::aq::ai::aI::aT::aA::av::aE::[]),bl,nu,nr,nz,.e⟩ w'∧Int.gcd g' m'=Int.gcd g m∧(0≤g'∧g'≤9223372036854775807)∧0≤m'∧m'≤9223372036854775807) m.toNat ⟨X,g,m,a7,a9,a8,a5,bb,ba,rfl,rfl,r0,rfl,⟨by omega,by omega⟩,hm⟩ ?_
   rintro _ _ w' ⟨X',g',m',af,aa,ad,ac,ae,ab,rfl,rfl,hR',hgcd,g0,m0⟩ K hK
   by_cases hz:m'=0
   ·subst hz
    refine yv7 (Q:=Exit.then K Q) hmx hco hno (hp.then K) (ru015 x0 x1 x2 x3 x4 x6 x7 x8 aG aZ al au a3 aW ah aV aH aK aF aj aM aY aw aJ aB aR ak ay a1 aN aC aP ar ap aL aD az aQ aO aS aX aU a0 ax a2 aq ai aI aT aA av aE af aa ad ac ae ab g' bl nu nr nz) (hR'.set (d:=9) (v:=.so (.vc (.ci .i64 0 0 0))) ⟨rfl,Int.le_refl _,Int.le_refl _⟩) fun X2 w2 a4=>?_
    obtain ⟨X3,a6,he⟩:=a4.junk [42,43,44,45]
    have eg:g'=(Int.gcd g m:Int):=by rw [Int.gcd_zero_right] at hgcd;omega
    subst eg
    exact (congrArg (fun a=>Q (.exit 4) a w2) he).mp (hk (.x 4) _ X3 w2 L' hkk hL (a6.ds ds))
   ·refine yv7 (Q:=Exit.then K Q) hmx hco hno (hp.then K) (ru115 x0 x1 x2 x3 x4 x6 x7 x8 aG aZ al au a3 aW ah aV aH aK aF aj aM aY aw aJ aB aR ak ay a1 aN aC aP ar ap aL aD az aQ aO aS aX aU a0 ax a2 aq ai aI aT aA av aE af aa ad ac ae ab g' m' bl nu nr nz) (hR'.set (d:=9) (v:=.so (.vc (.ci .i64 m' 1 9223372036854775807))) ⟨rfl,by omega,m0.2⟩) fun X2 w2 a4=>?_
    have e1:=Int.emod_nonneg g' hz
    have e2:=Int.emod_lt_of_pos g' (show 0<m' by omega)
    refine hK (g' % m').toNat _ _ (by omega) ⟨X2,m',g' % m',_,_,_,_,_,_,rfl,rfl,(a4.set (d:=5) (v:=.so (.vc (.ci .i64 m' 0 9223372036854775807))) ⟨rfl,by omega,m0.2⟩).set (d:=9) (v:=.so (.vc (.ci .i64 (g' % m') 0 9223372036854775807))) ⟨rfl,e1,by omega⟩,(zS5 g0.1 (by omega)).trans hgcd,⟨by omega,m0.2⟩,e1,by omega⟩
  ·cases h
 ·cases h
noncomputable def es15L:List (Nat × Ent):=(100016,.lp lp15)::es15
section
variable {qq0 qq1 qq2 qq3:Int}
theorem qsgn0 (h:(qq0==(0:Int))=false):qsgn qq0 qq1 qq2 qq3=sgn qq0∧qq0≠0:=by
 have h:qq0≠0:=by simpa using h
 exact ⟨if_neg h,h⟩
theorem qsgn1 (h0:(qq0==(0:Int))=true) (h:(qq1==(0:Int))=false):qsgn qq0 qq1 qq2 qq3=sgn qq1∧qq1≠0:=by
 have h0:qq0=0:=by simpa using h0
 have h:qq1≠0:=by simpa using h
 refine ⟨?_,h⟩
 unfold qsgn;rw [if_pos h0,if_neg h]
theorem qsgn2 (h0:(qq0==(0:Int))=true) (h1:(qq1==(0:Int))=true) (h:(qq2==(0:Int))=false):qsgn qq0 qq1 qq2 qq3=sgn qq2∧qq2≠0:=by
 have h0:qq0=0:=by simpa using h0
 have h1:qq1=0:=by simpa using h1
 have h:qq2≠0:=by simpa using h
 refine ⟨?_,h⟩
 unfold qsgn;rw [if_pos h0,if_pos h1,if_neg h]
theorem qsgn3 (h0:(qq0==(0:Int))=true) (h1:(qq1==(0:Int))=true) (h2:(qq2==(0:Int))=true) (hz:¬(qq0=0∧qq1=0∧qq2=0∧qq3=0)):qsgn qq0 qq1 qq2 qq3=sgn qq3∧qq3≠0:=by
 have h0:qq0=0:=by simpa using h0
 have h1:qq1=0:=by simpa using h1
 have h2:qq2=0:=by simpa using h2
 refine ⟨?_,fun h3=>hz ⟨h0,h1,h2,h3⟩⟩
 unfold qsgn;rw [if_pos h0,if_pos h1,if_pos h2]
theorem chk_g {g E:Int} (hG:g=qgcd qq0 qq1 qq2 qq3) (h:(g !=(1:Int))=true):(3:Int)=(if ¬(qgcd qq0 qq1 qq2 qq3=1∧qsgn qq0 qq1 qq2 qq3=1) then 3 else E):=by
 rw [if_pos]
 rintro ⟨h1,_⟩
 rw [hG,h1] at h;exact absurd h (by decide)
theorem chk_s {s E:Int} (hS:qsgn qq0 qq1 qq2 qq3=sgn s∧s≠0) (h:decide (s<(0:Int))=true):(3:Int)=(if ¬(qgcd qq0 qq1 qq2 qq3=1∧qsgn qq0 qq1 qq2 qq3=1) then 3 else E):=by
 rw [if_pos]
 rintro ⟨_,h1⟩
 rw [hS.1] at h1
 have h:=of_decide_eq_true h
 unfold sgn at h1;rw [if_pos h] at h1;omega
theorem chk_e {g s E:Int} (hG:g=qgcd qq0 qq1 qq2 qq3) (hg:(g !=(1:Int))=false) (hS:qsgn qq0 qq1 qq2 qq3=sgn s∧s≠0) (h:decide (s<(0:Int))=false):E=(if ¬(qgcd qq0 qq1 qq2 qq3=1∧qsgn qq0 qq1 qq2 qq3=1) then 3 else E):=by
 rw [if_neg]
 simp only [Classical.not_not]
 have h:=of_decide_eq_false h
 have hs:=hS.2
 refine ⟨by rw [← hG];simpa using hg,?_⟩
 rw [hS.1];unfold sgn;rw [if_neg h,if_neg hs]
end
def cVPv:ConT:=fun args nr _=>match args with
 | [.so (.vg [c1,c2,c3])]=>match txC c1,txC c2,txC c3 with
  | some (k1,x1),some (k2,x2),some (k3,x3)=>tr (Nat.ble k1 64&&Nat.ble k2 64&&Nat.ble k3 64) (.leaf (.st [.vg (zs0 nr [(64,x1),(64,x2),(64,x3)]),.vc (.ci .i64 0 0 0)]) 3 0)
  | _,_,_=>none
 | _=>none
theorem cVPv_ok {I:World→Prop} (hI:∀ w,I w→Mx w):ConOK Tryz.prog I 57 cVPv:=by
 intro args E n w T hw ha hT _
 unfold cVPv at hT
 split at hT
 ·rename_i c1 c2 c3
  split at hT
  ·rename_i k1 x1 k2 x2 k3 x3 e1 e2 e3
   obtain ⟨hb,rfl⟩:=zd5 hT
   simp only [Bool.and_eq_true,Nat.ble_eq] at hb
   obtain ⟨⟨b4,b5⟩,b6⟩:=hb
   have g:=fun c hc=>ha _ (List.mem_singleton.2 rfl) c hc
   obtain ⟨d1,s1⟩:=zp2 e1 (g c1 (by simp))
   obtain ⟨d2,s2⟩:=zp2 e2 (g c2 (by simp))
   obtain ⟨d3,s3⟩:=zp2 e3 (g c3 (by simp))
   have s1:=s1.mono b4
   have s2:=s2.mono b5
   have s3:=s3.mono b6
   have le:∀ {x:Rat},RS 64 x→((za3 x).length:Int)≤400:=fun h=>by have:=zq3 h.1 h.2;omega
   show Calls _ _ #[.agg #[c1.den E,c2.den E,c3.den E]] w _
   rw [d1,d2,d3]
   refine (vparse_v (k:=64) x1 x2 x3 s1 s2 s3 (by decide) (by decide) (le s1) (le s2) (le s3) w (hI w hw)).mono fun e w' he=>zH2 ?_
   obtain ⟨⟨t0,t1,t2,t3,t4,t5,t6,t7,t8,t9,aa,ab,rfl,h1,h2,h3⟩,g⟩:=he
   exact ⟨⟨[t0,t1,t2,t3,t4,t5,t6,t7,t8,t9,aa,ab],rfl,h1,h2,h3,trivial⟩,g⟩
  ·cases hT
 ·cases hT
noncomputable def sysCk:Sys:=⟨Tryz.prog,2,199,[(15,es15L)],[(57,cVPv)],Mx⟩
theorem sysCk_ok:sysCk.OK where
 mixed:=by kernel_rfl
 calls:=fun f h0 h1=>by
  have:(List.range 199).all (fun f=>Nat.blt f 2||okCall Tryz.prog f)=true:=by kernel_rfl
  have:=List.all_eq_true.1 this f (List.mem_range.2 h1)
  simp only [Bool.or_eq_true] at this
  exact this.resolve_left (fun e=>by have:=zf3 e;exact absurd h0 (by show ¬ 2≤f;omega))
 tab:=by
  have:[(15,es15L)].all (okTab Tryz.prog)=true:=by kernel_rfl
  exact fun x hx=>List.all_eq_true.1 this x hx
 lps:=fun x hx fn c h2 hb=>by
  have:x=(15,es15L):=List.mem_singleton.1 hx
  subst this
  have:fn=Tryz.f15:=Option.some.inj (h2.symm.trans Tryz.func15)
  subst this
  have:c=(Tryz.f15.body).getD .skip:=by rw [hb];rfl
  subst this
  repeat' first | exact trivial | exact lp15_ok | refine ⟨?_,?_⟩
 con:=fun x hx=>by
  have:x=(57,cVPv):=List.mem_singleton.1 hx
  subst this
  exact cVPv_ok fun w h=>h
 inv:=fun w w' h g=>h.gr g
def absq (q:Int):Int:=if 0 - q>q then 0 - q else q
def gq4 (q0 q1 q2 q3:Int):Int:=(Int.gcd (Int.gcd (Int.gcd (Int.gcd 0 q0:Int) q1:Int) q2:Int) q3:Int)
def re (n:Int):Lf:=.ret (.so (.vc (.ci .i64 n n n)))
def nng (m:Int) (l:Lf):Lf:=.as (decide (0≤m∧m≤9223372036854775807)) true l
def eg (fin:Lf) (g s:Int):Lf:=.br (g !=1) (re 3) (.br (decide (s<0)) (re 3) fin)
def treeG (ab:Int→Int) (fin:Lf) (q0 q1 q2 q3:Int):Lf:=nng (ab q0) (.br (q0==0)
 (nng (ab q1) (.br (q1==0)
  (nng (ab q2) (.br (q2==0) (nng (ab q3) (eg fin (gq4 (ab q0) (ab q1) (ab q2) (ab q3)) q3)) (nng (ab q3) (eg fin (gq4 (ab q0) (ab q1) (ab q2) (ab q3)) q2))))
  (nng (ab q2) (.as (q1==0) false (nng (ab q3) (eg fin (gq4 (ab q0) (ab q1) (ab q2) (ab q3)) q1))))))
 (nng (ab q1) (.as (q0==0) false (nng (ab q2) (.as (q0==0) false (nng (ab q3) (eg fin (gq4 (ab q0) (ab q1) (ab q2) (ab q3)) q0)))))))
def treeCk (q0 q1 q2 q3:Int):Lf:=.br (zA4 [q0,q1,q2,q3] [0,0,0,0]) (re 19) (treeG absq (re 0) q0 q1 q2 q3)
theorem runCk (q0 q1 q2 q3:Int) (x1 x2 x3:Rat):runF sysCk 15 [.so (.vg [.ci .i64 q0 (-12) 12,.ci .i64 q1 (-12) 12,.ci .i64 q2 (-12) 12,.ci .i64 q3 (-12) 12,.cw (za3 x1) (some (64,x1)),.cw (za3 x2) (some (64,x2)),.cw (za3 x3) (some (64,x3))])] 0 0 (.s .e (.s (.s (.s (.s .e (.s .e .e)) (.s .e (.s .e .e))) (.f (.s .e (.s .e .e)))) (.f (.f (.s .e (.s .e .e))))))=some (treeCk q0 q1 q2 q3):=by kernel_rfl
def CkP (E:Int) (v:SV):Prop:=∃ lo hi,v=.so (.vc (.ci .i64 E lo hi))
theorem re_ok {E n:Int} (h:n=E):LOK (CkP E) (re n):=⟨n,n,by rw [h]⟩
theorem conj0 {qq0 qq1 qq2 qq3:Int}:zA4 [qq0,qq1,qq2,qq3] [0,0,0,0]=decide (qq0=0∧qq1=0∧qq2=0∧qq3=0):=by
 rw [Bool.eq_iff_iff,decide_eq_true_eq];simp [zA4,eqL,and_assoc]
section
variable {qq0 qq1 qq2 qq3:Int} (i0:-12≤qq0∧qq0≤12) (i1:-12≤qq1∧qq1≤12) (i2:-12≤qq2∧qq2≤12) (i3:-12≤qq3∧qq3≤12)
include i0 i1 i2 i3
theorem treeG_ok {ab:Int→Int} (hab:∀ q,-12≤q∧q≤12→ab q=(q.natAbs:Int)) (hz:¬(qq0=0∧qq1=0∧qq2=0∧qq3=0)) {fin:Lf} {E:Int} (hf:LOK (CkP E) fin):
  LOK (CkP (if ¬(qgcd qq0 qq1 qq2 qq3=1∧qsgn qq0 qq1 qq2 qq3=1) then 3 else E)) (treeG ab fin qq0 qq1 qq2 qq3):=by
 have nn:∀ {P:SV→Prop} {q:Int} {l:Lf},-12≤q∧q≤12→LOK P l→LOK P (nng (ab q) l):=fun {P q l} h hl=>⟨decide_eq_true (by rw [hab q h];omega),hl⟩
 have hg:gq4 (ab qq0) (ab qq1) (ab qq2) (ab qq3)=qgcd qq0 qq1 qq2 qq3:=by
  unfold gq4;rw [hab _ i0,hab _ i1,hab _ i2,hab _ i3];exact zR5
 have e:∀ {s:Int},qsgn qq0 qq1 qq2 qq3=sgn s∧s≠0→LOK (CkP (if ¬(qgcd qq0 qq1 qq2 qq3=1∧qsgn qq0 qq1 qq2 qq3=1) then 3 else E)) (eg fin (gq4 (ab qq0) (ab qq1) (ab qq2) (ab qq3)) s):=fun hS=>
  ⟨fun h=>re_ok (chk_g hg h),fun h=>⟨fun k=>re_ok (chk_s hS k),fun k=>by rw [← chk_e (E:=E) hg h hS k];exact hf⟩⟩
 exact nn i0 ⟨fun h0=>nn i1 ⟨fun h1=>nn i2 ⟨fun h2=>nn i3 (e (qsgn3 h0 h1 h2 hz)),fun h2=>nn i3 (e (qsgn2 h0 h1 h2))⟩,
  fun h1=>nn i2 ⟨h1,nn i3 (e (qsgn1 h0 h1))⟩⟩,fun h0=>nn i1 ⟨h0,nn i2 ⟨h0,nn i3 (e (qsgn0 h0))⟩⟩⟩
theorem yl9:LOK (CkP (chk qq0 qq1 qq2 qq3 0)) (treeCk qq0 qq1 qq2 qq3):=by
 refine ⟨fun h=>re_ok ?_,fun h=>?_⟩
 ·rw [conj0] at h;unfold chk;rw [if_pos (of_decide_eq_true h)]
 ·rw [conj0] at h
  have hz:=of_decide_eq_false h
  unfold chk;rw [if_neg hz,if_neg (by simp only [Classical.not_not];exact ⟨i0,i1,i2,i3⟩)]
  exact treeG_ok i0 i1 i2 i3 (fun q h=>by unfold absq;split<;>omega) hz (re_ok rfl)
theorem ym0 (ab ae ac:Rat) (af:RS 64 ab) (aa:RS 64 ae) (ad:RS 64 ac) (w:World) (hm:Mx w):
  Calls Tryz.prog 15 #[.agg #[.int .i64 qq0,.int .i64 qq1,.int .i64 qq2,.int .i64 qq3,.string ⟨(za3 ab).toArray⟩,.string ⟨(za3 ae).toArray⟩,.string ⟨(za3 ac).toArray⟩]] w fun e w'=>e=.returned (.int .i64 (chk qq0 qq1 qq2 qq3 0))∧Gr w w':=by
 have tx:∀ {x},RS 64 x→(Cl.cw (za3 x) (some (64,x))).ok ⟨0,0,0⟩ (zU0 []) w:=fun h=>⟨rfl,fun k q e=>by cases e;exact ⟨rfl,h⟩⟩
 refine (zf8 sysCk sysCk_ok (runCk qq0 qq1 qq2 qq3 ab ae ac) (X:=zU0 []) hm (okF1 (zm6 ⟨⟨rfl,i0⟩,⟨rfl,i1⟩,⟨rfl,i2⟩,⟨rfl,i3⟩,tx af,tx aa,tx ad,trivial⟩)) (yl9 i0 i1 i2 i3)).mono fun e w' he=>?_
 obtain ⟨v,X',n,rfl,g,_,_,lo,hi,rfl⟩:=he
 exact ⟨rfl,g⟩
end
set_option maxRecDepth 100000 in
set_option maxHeartbeats 1000000 in
theorem ya6 (z:Int) (_hz:-4611686018427387904≤z∧z≤4611686018427387904) (w:World):
    Calls Tryz.prog 72 #[(.int .i64 (z))] w fun e w'=>e=.returned (.int .i64 ((z.natAbs:Int)))∧Gr w w':=by
 go_enter Tryz.func72,Tryz.ntmps72
 have hB:=Gr.refl w
 refine wp_seq_k (fun K1 k1=>?_)
 refine rg [0] ?_
 refine sv 2 (.int .i64 0) ?_
 refine za0 ?_
 refine k1 _ _ ?_
 try clear k1 K1
 refine wp_seq_k (fun K2 k2=>?_)
 refine wp_seq_k (fun K3 k3=>?_)
 refine rg [0,1] ?_
 refine sv 3 (.int .i64 (z)) ?_
 refine sv 4 (.bool (decide (z<(0:Int)))) ?_
 refine za0 ?_
 refine k3 _ _ ?_
 try clear k3 K3
 refine wp_cond_split (t:=decide (z<(0:Int))) rfl (fun aa=>?_) (fun aa=>?_)
 ·refine wp_seq_k (fun K5 k5=>?_)
  refine rg [0,1,2] ?_
  refine sv 5 (.int .i64 (z)) ?_
  refine sw 6 (.int .i64 ((0 - z))) rfl (RunV.int (x:=IntKind.i64.wrap ((0 - z))) (y:=(0 - z)) (rvk (by kernel_rfl)) (by first | rfl | (rw [IntKind.wrap_i64];omega))) ?_
  refine sv 2 (.int .i64 ((0 - z))) ?_
  refine za0 ?_
  refine k5 _ _ ?_
  try clear k5 K5
  refine wp_ret ?_
  simp only [Exit.then]
  refine bodyPost_ret (v:=(.int .i64 ((0 - z)))) (za7 rfl rfl) rfl ⟨?_,hB⟩
  exact (congrArg (fun z=>Ending.returned (.int .i64 z)) (by have:=of_decide_eq_true aa;omega))
 ·refine wp_skip ?_
  refine k2 _ _ ?_
  try clear k2 K2
  refine wp_seq_k (fun K6 k6=>?_)
  refine rg [0,1] ?_
  refine sv 7 (.int .i64 (z)) ?_
  refine sv 2 (.int .i64 (z)) ?_
  refine za0 ?_
  refine k6 _ _ ?_
  try clear k6 K6
  refine wp_ret ?_
  refine bodyPost_ret (v:=(.int .i64 (z))) (za7 rfl rfl) rfl ⟨?_,hB⟩
  exact (congrArg (fun z=>Ending.returned (.int .i64 z)) (by have:=of_decide_eq_false aa;omega))

set_option maxRecDepth 100000 in
set_option maxHeartbeats 1000000 in
theorem ya7 (ga gb:Int) (h1:0≤ga) (h2:0≤gb) (w:World):
    Calls Tryz.prog 91 #[(.int .i64 (ga)),(.int .i64 (gb))] w fun e w'=>e=.returned (.int .i64 ((Int.gcd ga gb:Int)))∧Gr w w':=by
 go_enter Tryz.func91,Tryz.ntmps91
 have hB:=Gr.refl w
 refine wp_seq_k (fun K1 k1=>?_)
 refine rg [0] ?_
 refine sv 4 (.int .i64 0) ?_
 refine za0 ?_
 refine k1 _ _ ?_
 try clear k1 K1
 refine wp_seq_k (fun K2 k2=>?_)
 refine wp_block ?_
 refine zg2 (a:=⟨List.toArray ?l3,[]⟩) (fun n a w'=>∃ (ab:Int) (aa:Int) (u3:Nat→Value),aa.toNat=n∧a=⟨[(.int .i64 (ab)),(.int .i64 (aa)),undef,undef,.int .i64 0,(u3 5),(u3 6),(u3 7),(u3 8),(u3 9),(u3 10),undef].toArray,[]⟩∧Int.gcd ab aa=Int.gcd ga gb∧0≤ab∧0≤aa∧Gr w w') (gb.toNat) ?_ ?_
 ·exact ⟨_,_,(fun i=>List.getD ?l3 i undef),rfl,rfl,rfl,h1,h2,hB⟩
 rintro n3 a3 w3 ⟨ab,aa,u3,rfl,rfl,ah,ad,aj,hB⟩ K3 k3
 refine wp_seq_k (fun K5 k5=>?_)
 refine wp_seq_k (fun K6 k6=>?_)
 refine rg [0,1] ?_
 refine sv 5 (.int .i64 (aa)) ?_
 refine sv 6 (.bool (decide ((0:Int)<aa))) ?_
 refine za0 ?_
 refine k6 _ _ ?_
 try clear k6 K6
 refine wp_cond_split (t:=decide ((0:Int)<aa)) rfl (fun ae=>?_) (fun ae=>?_)
 ·have af:=of_decide_eq_true ae
  refine wp_skip ?_
  refine k5 _ _ ?_
  try clear k5 K5
  refine wp_block ?_
  have ak:=Gr.drew w3
  replace hB:=hB.trans ak
  refine za2 (fun _=>True) [(true,0),(true,1),(true,2),(true,3),(true,4),(true,5)] (by kernel_rfl) (by kernel_rfl) (by kernel_rfl) (by decide) (fun _ _ _ _ _ h=>h) trivial ?_
  refine ov 7 (.int .i64 (aa)) ?_
  refine ov 8 (.int .i64 (ab)) ?_
  refine ov 9 (.int .i64 (aa)) ?_
  refine ow 10 (.int .i64 ((ab % aa))) rfl (fun w' hS=>(rv_rem 3 3 _ _ ab aa rfl rfl rfl ad af)) ?_
  refine ov 0 (.int .i64 (aa)) ?_
  refine ov 1 (.int .i64 ((ab % aa))) ?_
  refine zb1 ?_
  refine k3 ((ab % aa).toNat) ⟨List.toArray ?l10,[]⟩ _ (by have:=Int.emod_lt_of_pos ab af;omega) ?_
  exact ⟨_,_,(fun i=>List.getD ?l10 i undef),rfl,rfl,(by rw [zS5 ad af];exact ah),(by omega),(Int.emod_nonneg _ (by omega)),hB⟩
 ·have ac:=gcd_end0 ah ae ad aj
  refine wp_exit ?_
  simp only [Exit.then,Exit.inBlock,↓reduceIte]
  refine k2 _ _ ?_
  try clear k2 K2
  refine wp_seq_k (fun al ai=>?_)
  refine rg [0,1] ?_
  refine sv 11 (.int .i64 (ab)) ?_
  refine sv 4 (.int .i64 (ab)) ?_
  refine za0 ?_
  refine ai _ _ ?_
  try clear ai al
  refine wp_ret ?_
  refine bodyPost_ret (v:=(.int .i64 (ab))) (za7 rfl rfl) rfl ⟨?_,hB⟩
  exact (congrArg (fun z=>Ending.returned (.int .i64 z)) ac)

set_option maxRecDepth 100000 in
set_option maxHeartbeats 1000000 in
theorem zQ4 (qq0 qq1 qq2 qq3:Int) (_j0:-1099511627776≤qq0∧qq0≤1099511627776) (_j1:-1099511627776≤qq1∧qq1≤1099511627776) (_j2:-1099511627776≤qq2∧qq2≤1099511627776) (_j3:-1099511627776≤qq3∧qq3≤1099511627776) (w:World):
    Calls Tryz.prog 54 #[(.agg #[(.int .i64 (qq0)),(.int .i64 (qq1)),(.int .i64 (qq2)),(.int .i64 (qq3))])] w fun e w'=>e=.returned (.int .i64 (qgcd qq0 qq1 qq2 qq3))∧Gr w w':=by
 go_enter Tryz.func54,Tryz.ntmps54
 have hB:=Gr.refl w
 refine wp_seq_k (fun K1 k1=>?_)
 refine rg [0,1] ?_
 refine se ?_
 refine eb 22 #[(.int .i64 (qq0)),(.int .i64 (qq1)),(.int .i64 (qq2)),(.int .i64 (qq3))] 1 hB fun b2 w2 g2 L2 o2 q2 hB=>?_
 simp only [p3,p4]
 refine sv 2 (.int .i64 0) ?_
 refine za0 ?_
 refine k1 _ _ ?_
 try clear k1 K1
 refine wp_seq_k (fun K3 k3=>?_)
 refine rg [0] ?_
 refine sv 3 (.int .i64 0) ?_
 refine za0 ?_
 refine k3 _ _ ?_
 try clear k3 K3
 refine wp_seq_k (fun K4 k4=>?_)
 refine wp_seq_k (fun K5 k5=>?_)
 refine rg [0] ?_
 refine sv 4 (.int .i64 0) ?_
 refine za0 ?_
 refine k5 _ _ ?_
 try clear k5 K5
 refine wp_block ?_
 refine wp_loop_rounds 6 ?_
 show Code.wp _ _ _ _ _
 refine wp_seq_k (fun K6 k6=>?_)
 refine wp_seq_k (fun K7 k7=>?_)
 refine rg [0,1] ?_
 refine sv 5 (.int .i64 0) ?_
 refine sv 6 (.bool true) ?_
 refine za0 ?_
 refine k7 _ _ ?_
 try clear k7 K7
 refine wp_cond_true rfl ?_
 refine wp_skip ?_
 refine k6 _ _ ?_
 try clear k6 K6
 refine wp_seq_k (fun K8 k8=>?_)
 refine wp_block ?_
 refine rg [0,1,2,3,4,5,6] ?_
 refine sv 9 (.int .i64 0) ?_
 refine sv 10 (.int .i64 0) ?_
 refine sv 11 (.pointer (some ⟨b2,0,none⟩)) ?_
 refine sw 12 (.int .i64 (qq0)) rfl (rk 3 0 L2) ?_
 refine se ?_
 refine ec 13 (ya6 (qq0) (by omega) _) ?_
 rintro e9 w9 ⟨rfl,g9⟩
 refine ⟨_,rfl,?_⟩
 replace hB:=hB.trans g9
 simp only [p3,p4]
 refine se ?_
 refine ec 14 (ya7 (0:Int) (((qq0).natAbs:Int)) (by omega) (by omega) _) ?_
 rintro aV aQ ⟨rfl,aj⟩
 refine ⟨_,rfl,?_⟩
 replace hB:=hB.trans aj
 simp only [p3,p4]
 refine sv 3 (.int .i64 ((Int.gcd (0:Int) (((qq0).natAbs:Int)):Int))) ?_
 refine za0 ?_
 refine k8 _ _ ?_
 try clear k8 K8
 refine rg [0,1,2] ?_
 refine sv 7 (.int .i64 0) ?_
 refine sv 8 (.int .i64 1) ?_
 refine sv 4 (.int .i64 1) ?_
 refine za0 ?_
 show Code.rounds _ _ _ _ _ _
 show Code.wp _ _ _ _ _
 refine wp_seq_k (fun aH al=>?_)
 refine wp_seq_k (fun aF ap=>?_)
 refine rg [0,1] ?_
 refine sv 5 (.int .i64 1) ?_
 refine sv 6 (.bool true) ?_
 refine za0 ?_
 refine ap _ _ ?_
 try clear ap aF
 refine wp_cond_true rfl ?_
 refine wp_skip ?_
 refine al _ _ ?_
 try clear al aH
 refine wp_seq_k (fun aB aq=>?_)
 refine wp_block ?_
 refine rg [0,1,2,3,4,5,6] ?_
 refine sv 9 (.int .i64 ((Int.gcd (0:Int) (((qq0).natAbs:Int)):Int))) ?_
 refine sv 10 (.int .i64 1) ?_
 refine sv 11 (.pointer (some ⟨b2,1,none⟩)) ?_
 replace L2:=L2.gr (g9.trans aj)
 refine sw 12 (.int .i64 (qq1)) rfl (rk 3 1 L2) ?_
 refine se ?_
 refine ec 13 (ya6 (qq1) (by omega) _) ?_
 rintro aS aR ⟨rfl,ac⟩
 refine ⟨_,rfl,?_⟩
 replace hB:=hB.trans ac
 simp only [p3,p4]
 refine se ?_
 refine ec 14 (ya7 ((Int.gcd (0:Int) (((qq0).natAbs:Int)):Int)) (((qq1).natAbs:Int)) (by omega) (by omega) _) ?_
 rintro aU aK ⟨rfl,ab⟩
 refine ⟨_,rfl,?_⟩
 replace hB:=hB.trans ab
 simp only [p3,p4]
 refine sv 3 (.int .i64 ((Int.gcd ((Int.gcd (0:Int) (((qq0).natAbs:Int)):Int)) (((qq1).natAbs:Int)):Int))) ?_
 refine za0 ?_
 refine aq _ _ ?_
 try clear aq aB
 refine rg [0,1,2] ?_
 refine sv 7 (.int .i64 1) ?_
 refine sv 8 (.int .i64 2) ?_
 refine sv 4 (.int .i64 2) ?_
 refine za0 ?_
 show Code.rounds _ _ _ _ _ _
 show Code.wp _ _ _ _ _
 refine wp_seq_k (fun ax ai=>?_)
 refine wp_seq_k (fun aI ae=>?_)
 refine rg [0,1] ?_
 refine sv 5 (.int .i64 2) ?_
 refine sv 6 (.bool true) ?_
 refine za0 ?_
 refine ae _ _ ?_
 try clear ae aI
 refine wp_cond_true rfl ?_
 refine wp_skip ?_
 refine ai _ _ ?_
 try clear ai ax
 refine wp_seq_k (fun aD aa=>?_)
 refine wp_block ?_
 refine rg [0,1,2,3,4,5,6] ?_
 refine sv 9 (.int .i64 ((Int.gcd ((Int.gcd (0:Int) (((qq0).natAbs:Int)):Int)) (((qq1).natAbs:Int)):Int))) ?_
 refine sv 10 (.int .i64 2) ?_
 refine sv 11 (.pointer (some ⟨b2,2,none⟩)) ?_
 replace L2:=L2.gr (ac.trans ab)
 refine sw 12 (.int .i64 (qq2)) rfl (rk 3 2 L2) ?_
 refine se ?_
 refine ec 13 (ya6 (qq2) (by omega) _) ?_
 rintro aN aY ⟨rfl,ar⟩
 refine ⟨_,rfl,?_⟩
 replace hB:=hB.trans ar
 simp only [p3,p4]
 refine se ?_
 refine ec 14 (ya7 ((Int.gcd ((Int.gcd (0:Int) (((qq0).natAbs:Int)):Int)) (((qq1).natAbs:Int)):Int)) (((qq2).natAbs:Int)) (by omega) (by omega) _) ?_
 rintro aX aL ⟨rfl,av⟩
 refine ⟨_,rfl,?_⟩
 replace hB:=hB.trans av
 simp only [p3,p4]
 refine sv 3 (.int .i64 ((Int.gcd ((Int.gcd ((Int.gcd (0:Int) (((qq0).natAbs:Int)):Int)) (((qq1).natAbs:Int)):Int)) (((qq2).natAbs:Int)):Int))) ?_
 refine za0 ?_
 refine aa _ _ ?_
 try clear aa aD
 refine rg [0,1,2] ?_
 refine sv 7 (.int .i64 2) ?_
 refine sv 8 (.int .i64 3) ?_
 refine sv 4 (.int .i64 3) ?_
 refine za0 ?_
 show Code.rounds _ _ _ _ _ _
 show Code.wp _ _ _ _ _
 refine wp_seq_k (fun az af=>?_)
 refine wp_seq_k (fun aA ad=>?_)
 refine rg [0,1] ?_
 refine sv 5 (.int .i64 3) ?_
 refine sv 6 (.bool true) ?_
 refine za0 ?_
 refine ad _ _ ?_
 try clear ad aA
 refine wp_cond_true rfl ?_
 refine wp_skip ?_
 refine af _ _ ?_
 try clear af az
 refine wp_seq_k (fun aE ak=>?_)
 refine wp_block ?_
 refine rg [0,1,2,3,4,5,6] ?_
 refine sv 9 (.int .i64 ((Int.gcd ((Int.gcd ((Int.gcd (0:Int) (((qq0).natAbs:Int)):Int)) (((qq1).natAbs:Int)):Int)) (((qq2).natAbs:Int)):Int))) ?_
 refine sv 10 (.int .i64 3) ?_
 refine sv 11 (.pointer (some ⟨b2,3,none⟩)) ?_
 replace L2:=L2.gr (ar.trans av)
 refine sw 12 (.int .i64 (qq3)) rfl (rk 3 3 L2) ?_
 refine se ?_
 refine ec 13 (ya6 (qq3) (by omega) _) ?_
 rintro aW aP ⟨rfl,aC⟩
 refine ⟨_,rfl,?_⟩
 replace hB:=hB.trans aC
 simp only [p3,p4]
 refine se ?_
 refine ec 14 (ya7 ((Int.gcd ((Int.gcd ((Int.gcd (0:Int) (((qq0).natAbs:Int)):Int)) (((qq1).natAbs:Int)):Int)) (((qq2).natAbs:Int)):Int)) (((qq3).natAbs:Int)) (by omega) (by omega) _) ?_
 rintro aJ aM ⟨rfl,aw⟩
 refine ⟨_,rfl,?_⟩
 replace hB:=hB.trans aw
 simp only [p3,p4]
 refine sv 3 (.int .i64 ((Int.gcd ((Int.gcd ((Int.gcd ((Int.gcd (0:Int) (((qq0).natAbs:Int)):Int)) (((qq1).natAbs:Int)):Int)) (((qq2).natAbs:Int)):Int)) (((qq3).natAbs:Int)):Int))) ?_
 refine za0 ?_
 refine ak _ _ ?_
 try clear ak aE
 refine rg [0,1,2] ?_
 refine sv 7 (.int .i64 3) ?_
 refine sv 8 (.int .i64 4) ?_
 refine sv 4 (.int .i64 4) ?_
 refine za0 ?_
 show Code.rounds _ _ _ _ _ _
 show Code.wp _ _ _ _ _
 refine wp_seq_k (fun aT aO=>?_)
 refine wp_seq_k (fun aG au=>?_)
 refine rg [0,1] ?_
 refine sv 5 (.int .i64 4) ?_
 refine sv 6 (.bool false) ?_
 refine za0 ?_
 refine au _ _ ?_
 try clear au aG
 refine wp_cond_false rfl ?_
 refine wp_exit ?_
 simp only [Exit.then,Exit.inBlock,↓reduceIte]
 refine k4 _ _ ?_
 try clear k4 K4
 refine wp_seq_k (fun ay ah=>?_)
 refine rg [0,1] ?_
 refine sv 15 (.int .i64 ((Int.gcd ((Int.gcd ((Int.gcd ((Int.gcd (0:Int) (((qq0).natAbs:Int)):Int)) (((qq1).natAbs:Int)):Int)) (((qq2).natAbs:Int)):Int)) (((qq3).natAbs:Int)):Int))) ?_
 refine sv 2 (.int .i64 ((Int.gcd ((Int.gcd ((Int.gcd ((Int.gcd (0:Int) (((qq0).natAbs:Int)):Int)) (((qq1).natAbs:Int)):Int)) (((qq2).natAbs:Int)):Int)) (((qq3).natAbs:Int)):Int))) ?_
 refine za0 ?_
 refine ah _ _ ?_
 try clear ah ay
 refine wp_ret ?_
 refine bodyPost_ret (v:=(.int .i64 ((Int.gcd ((Int.gcd ((Int.gcd ((Int.gcd (0:Int) (((qq0).natAbs:Int)):Int)) (((qq1).natAbs:Int)):Int)) (((qq2).natAbs:Int)):Int)) (((qq3).natAbs:Int)):Int)))) (za7 rfl rfl) rfl ⟨?_,hB⟩
 exact (congrArg (fun z=>Ending.returned (.int .i64 z)) zR5)

set_option maxRecDepth 100000 in
set_option maxHeartbeats 1000000 in
theorem zD3 (qq0 qq1 qq2 qq3:Int) (w:World):
    Calls Tryz.prog 55 #[(.agg #[(.int .i64 (qq0)),(.int .i64 (qq1)),(.int .i64 (qq2)),(.int .i64 (qq3))])] w fun e w'=>e=.returned (.bool (decide (qsgn qq0 qq1 qq2 qq3=1)))∧Gr w w':=by
 go_enter Tryz.func55,Tryz.ntmps55
 have hB:=Gr.refl w
 refine wp_seq_k (fun K1 k1=>?_)
 refine rg [0,1] ?_
 refine se ?_
 refine eb 22 #[(.int .i64 (qq0)),(.int .i64 (qq1)),(.int .i64 (qq2)),(.int .i64 (qq3))] 1 hB fun b2 w2 g2 L2 o2 q2 hB=>?_
 simp only [p3,p4]
 refine sv 2 (.bool false) ?_
 refine za0 ?_
 refine k1 _ _ ?_
 try clear k1 K1
 refine wp_seq_k (fun K3 k3=>?_)
 refine wp_seq_k (fun K4 k4=>?_)
 refine rg [0] ?_
 refine sv 3 (.int .i64 0) ?_
 refine za0 ?_
 refine k4 _ _ ?_
 try clear k4 K4
 refine wp_block ?_
 refine wp_loop_rounds 6 ?_
 show Code.wp _ _ _ _ _
 refine wp_seq_k (fun K5 k5=>?_)
 refine wp_seq_k (fun K6 k6=>?_)
 refine rg [0,1] ?_
 refine sv 4 (.int .i64 0) ?_
 refine sv 5 (.bool true) ?_
 refine za0 ?_
 refine k6 _ _ ?_
 try clear k6 K6
 refine wp_cond_true rfl ?_
 refine wp_skip ?_
 refine k5 _ _ ?_
 try clear k5 K5
 refine wp_seq_k (fun K7 k7=>?_)
 refine wp_block ?_
 refine wp_seq_k (fun K8 k8=>?_)
 refine rg [0,1,2,3] ?_
 refine sv 8 (.int .i64 0) ?_
 refine sv 9 (.pointer (some ⟨b2,0,none⟩)) ?_
 refine sw 10 (.int .i64 (qq0)) rfl (rk 3 0 L2) ?_
 refine sv 11 (.bool ((qq0 !=(0:Int)))) ?_
 refine za0 ?_
 refine k8 _ _ ?_
 try clear k8 K8
 refine wp_cond_split (t:=(qq0 !=(0:Int))) rfl (fun ad=>?_) (fun ad=>?_)
 ·refine wp_seq_k (fun aM ay=>?_)
  refine rg [0,1,2,3,4] ?_
  refine sv 12 (.int .i64 0) ?_
  refine sv 13 (.pointer (some ⟨b2,0,none⟩)) ?_
  refine sw 14 (.int .i64 (qq0)) rfl (rk 3 0 L2) ?_
  refine sv 15 (.bool (decide ((0:Int)<qq0))) ?_
  refine sv 2 (.bool (decide ((0:Int)<qq0))) ?_
  refine za0 ?_
  refine ay _ _ ?_
  try clear ay aM
  refine wp_ret ?_
  simp only [Exit.then,Exit.inBlock]
  refine bodyPost_ret (v:=(.bool (decide ((0:Int)<qq0)))) (za7 rfl rfl) rfl ⟨?_,hB⟩
  exact (congrArg (fun z=>Ending.returned (.bool z)) (posq0 ad))
 ·refine wp_skip ?_
  refine k7 _ _ ?_
  try clear k7 K7
  refine rg [0,1,2] ?_
  refine sv 6 (.int .i64 0) ?_
  refine sv 7 (.int .i64 1) ?_
  refine sv 3 (.int .i64 1) ?_
  refine za0 ?_
  show Code.rounds _ _ _ _ _ _
  show Code.wp _ _ _ _ _
  refine wp_seq_k (fun aQ af=>?_)
  refine wp_seq_k (fun aN ai=>?_)
  refine rg [0,1] ?_
  refine sv 4 (.int .i64 1) ?_
  refine sv 5 (.bool true) ?_
  refine za0 ?_
  refine ai _ _ ?_
  try clear ai aN
  refine wp_cond_true rfl ?_
  refine wp_skip ?_
  refine af _ _ ?_
  try clear af aQ
  refine wp_seq_k (fun aT ak=>?_)
  refine wp_block ?_
  refine wp_seq_k (fun aD aj=>?_)
  refine rg [0,1,2,3] ?_
  refine sv 8 (.int .i64 1) ?_
  refine sv 9 (.pointer (some ⟨b2,1,none⟩)) ?_
  refine sw 10 (.int .i64 (qq1)) rfl (rk 3 1 L2) ?_
  refine sv 11 (.bool ((qq1 !=(0:Int)))) ?_
  refine za0 ?_
  refine aj _ _ ?_
  try clear aj aD
  refine wp_cond_split (t:=(qq1 !=(0:Int))) rfl (fun aa=>?_) (fun aa=>?_)
  ·refine wp_seq_k (fun aH ax=>?_)
   refine rg [0,1,2,3,4] ?_
   refine sv 12 (.int .i64 1) ?_
   refine sv 13 (.pointer (some ⟨b2,1,none⟩)) ?_
   refine sw 14 (.int .i64 (qq1)) rfl (rk 3 1 L2) ?_
   refine sv 15 (.bool (decide ((0:Int)<qq1))) ?_
   refine sv 2 (.bool (decide ((0:Int)<qq1))) ?_
   refine za0 ?_
   refine ax _ _ ?_
   try clear ax aH
   refine wp_ret ?_
   simp only [Exit.then,Exit.inBlock]
   refine bodyPost_ret (v:=(.bool (decide ((0:Int)<qq1)))) (za7 rfl rfl) rfl ⟨?_,hB⟩
   exact (congrArg (fun z=>Ending.returned (.bool z)) (posq1 ad aa))
  ·refine wp_skip ?_
   refine ak _ _ ?_
   try clear ak aT
   refine rg [0,1,2] ?_
   refine sv 6 (.int .i64 1) ?_
   refine sv 7 (.int .i64 2) ?_
   refine sv 3 (.int .i64 2) ?_
   refine za0 ?_
   show Code.rounds _ _ _ _ _ _
   show Code.wp _ _ _ _ _
   refine wp_seq_k (fun aR ap=>?_)
   refine wp_seq_k (fun aE ae=>?_)
   refine rg [0,1] ?_
   refine sv 4 (.int .i64 2) ?_
   refine sv 5 (.bool true) ?_
   refine za0 ?_
   refine ae _ _ ?_
   try clear ae aE
   refine wp_cond_true rfl ?_
   refine wp_skip ?_
   refine ap _ _ ?_
   try clear ap aR
   refine wp_seq_k (fun aK av=>?_)
   refine wp_block ?_
   refine wp_seq_k (fun aO az=>?_)
   refine rg [0,1,2,3] ?_
   refine sv 8 (.int .i64 2) ?_
   refine sv 9 (.pointer (some ⟨b2,2,none⟩)) ?_
   refine sw 10 (.int .i64 (qq2)) rfl (rk 3 2 L2) ?_
   refine sv 11 (.bool ((qq2 !=(0:Int)))) ?_
   refine za0 ?_
   refine az _ _ ?_
   try clear az aO
   refine wp_cond_split (t:=(qq2 !=(0:Int))) rfl (fun ab=>?_) (fun ab=>?_)
   ·refine wp_seq_k (fun aS al=>?_)
    refine rg [0,1,2,3,4] ?_
    refine sv 12 (.int .i64 2) ?_
    refine sv 13 (.pointer (some ⟨b2,2,none⟩)) ?_
    refine sw 14 (.int .i64 (qq2)) rfl (rk 3 2 L2) ?_
    refine sv 15 (.bool (decide ((0:Int)<qq2))) ?_
    refine sv 2 (.bool (decide ((0:Int)<qq2))) ?_
    refine za0 ?_
    refine al _ _ ?_
    try clear al aS
    refine wp_ret ?_
    simp only [Exit.then,Exit.inBlock]
    refine bodyPost_ret (v:=(.bool (decide ((0:Int)<qq2)))) (za7 rfl rfl) rfl ⟨?_,hB⟩
    exact (congrArg (fun z=>Ending.returned (.bool z)) (posq2 ad aa ab))
   ·refine wp_skip ?_
    refine av _ _ ?_
    try clear av aK
    refine rg [0,1,2] ?_
    refine sv 6 (.int .i64 2) ?_
    refine sv 7 (.int .i64 3) ?_
    refine sv 3 (.int .i64 3) ?_
    refine za0 ?_
    show Code.rounds _ _ _ _ _ _
    show Code.wp _ _ _ _ _
    refine wp_seq_k (fun aF aA=>?_)
    refine wp_seq_k (fun aI ar=>?_)
    refine rg [0,1] ?_
    refine sv 4 (.int .i64 3) ?_
    refine sv 5 (.bool true) ?_
    refine za0 ?_
    refine ar _ _ ?_
    try clear ar aI
    refine wp_cond_true rfl ?_
    refine wp_skip ?_
    refine aA _ _ ?_
    try clear aA aF
    refine wp_seq_k (fun aP ah=>?_)
    refine wp_block ?_
    refine wp_seq_k (fun aG aB=>?_)
    refine rg [0,1,2,3] ?_
    refine sv 8 (.int .i64 3) ?_
    refine sv 9 (.pointer (some ⟨b2,3,none⟩)) ?_
    refine sw 10 (.int .i64 (qq3)) rfl (rk 3 3 L2) ?_
    refine sv 11 (.bool ((qq3 !=(0:Int)))) ?_
    refine za0 ?_
    refine aB _ _ ?_
    try clear aB aG
    refine wp_cond_split (t:=(qq3 !=(0:Int))) rfl (fun ac=>?_) (fun ac=>?_)
    ·refine wp_seq_k (fun aL au=>?_)
     refine rg [0,1,2,3,4] ?_
     refine sv 12 (.int .i64 3) ?_
     refine sv 13 (.pointer (some ⟨b2,3,none⟩)) ?_
     refine sw 14 (.int .i64 (qq3)) rfl (rk 3 3 L2) ?_
     refine sv 15 (.bool (decide ((0:Int)<qq3))) ?_
     refine sv 2 (.bool (decide ((0:Int)<qq3))) ?_
     refine za0 ?_
     refine au _ _ ?_
     try clear au aL
     refine wp_ret ?_
     simp only [Exit.then,Exit.inBlock]
     refine bodyPost_ret (v:=(.bool (decide ((0:Int)<qq3)))) (za7 rfl rfl) rfl ⟨?_,hB⟩
     exact (congrArg (fun z=>Ending.returned (.bool z)) (posq3 ad aa ab ac))
    ·refine wp_skip ?_
     refine ah _ _ ?_
     try clear ah aP
     refine rg [0,1,2] ?_
     refine sv 6 (.int .i64 3) ?_
     refine sv 7 (.int .i64 4) ?_
     refine sv 3 (.int .i64 4) ?_
     refine za0 ?_
     show Code.rounds _ _ _ _ _ _
     show Code.wp _ _ _ _ _
     refine wp_seq_k (fun aU aV=>?_)
     refine wp_seq_k (fun aJ aq=>?_)
     refine rg [0,1] ?_
     refine sv 4 (.int .i64 4) ?_
     refine sv 5 (.bool false) ?_
     refine za0 ?_
     refine aq _ _ ?_
     try clear aq aJ
     refine wp_cond_false rfl ?_
     refine wp_exit ?_
     simp only [Exit.then,Exit.inBlock,↓reduceIte]
     refine k3 _ _ ?_
     try clear k3 K3
     refine wp_seq_k (fun aC aw=>?_)
     refine rg [0] ?_
     refine sv 2 (.bool false) ?_
     refine za0 ?_
     refine aw _ _ ?_
     try clear aw aC
     refine wp_ret ?_
     refine bodyPost_ret (v:=(.bool false)) (za7 rfl rfl) rfl ⟨?_,hB⟩
     exact (congrArg (fun z=>Ending.returned (.bool z)) (posq4 ad aa ab ac))

set_option maxRecDepth 100000 in
set_option maxHeartbeats 1000000 in
theorem yn0 (qq0 qq1 qq2 qq3:Int) (j0:-1099511627776≤qq0∧qq0≤1099511627776) (j1:-1099511627776≤qq1∧qq1≤1099511627776) (j2:-1099511627776≤qq2∧qq2≤1099511627776) (j3:-1099511627776≤qq3∧qq3≤1099511627776) (hn:¬(qq0=0∧qq1=0∧qq2=0∧qq3=0)) (hs:qsgn qq0 qq1 qq2 qq3=1) (w:World):
    Calls Tryz.prog 66 #[(.agg #[(.int .i64 (qq0)),(.int .i64 (qq1)),(.int .i64 (qq2)),(.int .i64 (qq3))])] w fun e w'=>e=.returned (.agg #[.int .i64 (za1 qq0 qq1 qq2 qq3 qq0),.int .i64 (za1 qq0 qq1 qq2 qq3 qq1),.int .i64 (za1 qq0 qq1 qq2 qq3 qq2),.int .i64 (za1 qq0 qq1 qq2 qq3 qq3)])∧Gr w w':=by
 have hsb:decide (qsgn qq0 qq1 qq2 qq3=1)=true:=by rw [hs];rfl
 have hd:=zl4 qq0 qq1 qq2 qq3
 have hgp:=zu0 hn
 have a2:=ze7 (n:=qq0) hn
 have a1:=ze7 (n:=qq1) hn
 have a5:=ze7 (n:=qq2) hn
 have aX:=ze7 (n:=qq3) hn
 have hgm:qgcd qq0 qq1 qq2 qq3≤1099511627776:=by
    have h1:=hd.1;have h2:=hd.2.1;have h3:=hd.2.2.1;have h4:=hd.2.2.2
    have le:∀ x:Int,x≠0→-1099511627776≤x∧x≤1099511627776→qgcd qq0 qq1 qq2 qq3∣x→qgcd qq0 qq1 qq2 qq3≤1099511627776:=by
      intro x hx hb hdx
      have:=Nat.le_of_dvd (by omega) (Int.natAbs_dvd_natAbs.2 hdx)
      omega
    by_cases z0:qq0=0
    · by_cases z1:qq1=0
      · by_cases z2:qq2=0
        · exact le qq3 (fun z3=>hn ⟨z0,z1,z2,z3⟩) j3 h4
        · exact le qq2 z2 j2 h3
      · exact le qq1 z1 j1 h2
    · exact le qq0 z0 j0 h1
 go_enter Tryz.func66,Tryz.ntmps66
 have hB:=Gr.refl w
 refine wp_seq_k (fun K1 k1=>?_)
 refine rg [0,1] ?_
 refine se ?_
 refine eb 22 #[(.int .i64 (qq0)),(.int .i64 (qq1)),(.int .i64 (qq2)),(.int .i64 (qq3))] 1 hB fun b2 w2 g2 L2 o2 q2 hB=>?_
 simp only [p3,p4]
 refine se ?_
 refine ea 22 #[.int .i64 0,.int .i64 0,.int .i64 0,.int .i64 0] 2 hB fun b3 w3 g3 L3 o3 q3 hB=>?_
 have aa:=L2.ne o3
 simp only [p3,p4]
 refine za0 ?_
 refine k1 _ _ ?_
 try clear k1 K1
 refine wp_seq_k (fun K4 k4=>?_)
 refine rg [0,1,2] ?_
 replace L2:=L2.gr g3
 refine sw 5 (.agg #[(.int .i64 (qq0)),(.int .i64 (qq1)),(.int .i64 (qq2)),(.int .i64 (qq3))]) rfl (rl 22 0 [(.int .i64 (qq0)),(.int .i64 (qq1)),(.int .i64 (qq2)),(.int .i64 (qq3))] L2) ?_
 refine se ?_
 refine ec 6 (zQ4 qq0 qq1 qq2 qq3 (by omega) (by omega) (by omega) (by omega) _) ?_
 rintro e5 w5 ⟨rfl,g5⟩
 refine ⟨_,rfl,?_⟩
 replace hB:=hB.trans g5
 simp only [p3,p4]
 refine sv 3 (.int .i64 (qgcd qq0 qq1 qq2 qq3)) ?_
 refine za0 ?_
 refine k4 _ _ ?_
 try clear k4 K4
 refine wp_seq_k (fun K6 k6=>?_)
 refine wp_seq_k (fun K7 k7=>?_)
 refine rg [0,1,2] ?_
 replace L2:=L2.gr g5
 refine sw 7 (.agg #[(.int .i64 (qq0)),(.int .i64 (qq1)),(.int .i64 (qq2)),(.int .i64 (qq3))]) rfl (rl 22 0 [(.int .i64 (qq0)),(.int .i64 (qq1)),(.int .i64 (qq2)),(.int .i64 (qq3))] L2) ?_
 refine se ?_
 refine ec 8 (zD3 qq0 qq1 qq2 qq3 _) ?_
 rintro e8 w8 ⟨rfl,g8⟩
 refine ⟨_,rfl,?_⟩
 replace hB:=hB.trans g8
 simp only [p3,p4]
 refine sw 9 (.bool false) rfl (RunV.bool (x:=!(decide (qsgn qq0 qq1 qq2 qq3=1))) (rvk (by kernel_rfl)) (show (!(decide (qsgn qq0 qq1 qq2 qq3=1)))=false by rw [hsb];rfl)) ?_
 refine za0 ?_
 refine k7 _ _ ?_
 try clear k7 K7
 refine wp_cond_false rfl ?_
 refine wp_skip ?_
 refine k6 _ _ ?_
 try clear k6 K6
 refine wp_seq_k (fun K9 k9=>?_)
 refine wp_seq_k (fun aE ak=>?_)
 refine rg [0] ?_
 refine sv 4 (.int .i64 0) ?_
 refine za0 ?_
 refine ak _ _ ?_
 try clear ak aE
 refine wp_block ?_
 refine wp_loop_rounds 6 ?_
 show Code.wp _ _ _ _ _
 refine wp_seq_k (fun aT ap=>?_)
 refine wp_seq_k (fun aR ar=>?_)
 refine rg [0,1] ?_
 refine sv 12 (.int .i64 0) ?_
 refine sv 13 (.bool true) ?_
 refine za0 ?_
 refine ar _ _ ?_
 try clear ar aR
 refine wp_cond_true rfl ?_
 refine wp_skip ?_
 refine ap _ _ ?_
 try clear ap aT
 refine wp_seq_k (fun aJ au=>?_)
 refine wp_block ?_
 refine rg [0,1,2,3,4,5,6,7] ?_
 refine sv 16 (.int .i64 0) ?_
 refine sv 17 (.int .i64 0) ?_
 refine sv 18 (.pointer (some ⟨b2,0,none⟩)) ?_
 replace L2:=L2.gr g8
 refine sw 19 (.int .i64 (qq0)) rfl (rk 3 0 L2) ?_
 refine sv 20 (.int .i64 (qgcd qq0 qq1 qq2 qq3)) ?_
 refine sw 21 (.int .i64 (za1 qq0 qq1 qq2 qq3 qq0)) rfl (zn9 3 3 _ _ qq0 (qgcd qq0 qq1 qq2 qq3) (za1 qq0 qq1 qq2 qq3 qq0) rfl rfl rfl (zM5 hn hd.1 hs) (by omega) (by omega) (by omega)) ?_
 refine sv 22 (.pointer (some ⟨b2,0,none⟩)) ?_
 refine se ?_
 refine es 3 0 (.int .i64 (za1 qq0 qq1 qq2 qq3 qq0)) [(.int .i64 (za1 qq0 qq1 qq2 qq3 qq0))] #[(.int .i64 (za1 qq0 qq1 qq2 qq3 qq0)),(.int .i64 (qq1)),(.int .i64 (qq2)),(.int .i64 (qq3))] L2 hB q2 ⟨rfl,trivial⟩ fun aY ae aA L2 hB=>?_
 refine za0 ?_
 refine au _ _ ?_
 try clear au aJ
 refine rg [0,1,2] ?_
 refine sv 14 (.int .i64 0) ?_
 refine sv 15 (.int .i64 1) ?_
 refine sv 4 (.int .i64 1) ?_
 refine za0 ?_
 show Code.rounds _ _ _ _ _ _
 show Code.wp _ _ _ _ _
 refine wp_seq_k (fun aQ ay=>?_)
 refine wp_seq_k (fun aB aj=>?_)
 refine rg [0,1] ?_
 refine sv 12 (.int .i64 1) ?_
 refine sv 13 (.bool true) ?_
 refine za0 ?_
 refine aj _ _ ?_
 try clear aj aB
 refine wp_cond_true rfl ?_
 refine wp_skip ?_
 refine ay _ _ ?_
 try clear ay aQ
 refine wp_seq_k (fun aU af=>?_)
 refine wp_block ?_
 refine rg [0,1,2,3,4,5,6,7] ?_
 refine sv 16 (.int .i64 1) ?_
 refine sv 17 (.int .i64 1) ?_
 refine sv 18 (.pointer (some ⟨b2,1,none⟩)) ?_
 refine sw 19 (.int .i64 (qq1)) rfl (rk 3 1 L2) ?_
 refine sv 20 (.int .i64 (qgcd qq0 qq1 qq2 qq3)) ?_
 refine sw 21 (.int .i64 (za1 qq0 qq1 qq2 qq3 qq1)) rfl (zn9 3 3 _ _ qq1 (qgcd qq0 qq1 qq2 qq3) (za1 qq0 qq1 qq2 qq3 qq1) rfl rfl rfl (zM5 hn hd.2.1 hs) (by omega) (by omega) (by omega)) ?_
 refine sv 22 (.pointer (some ⟨b2,1,none⟩)) ?_
 refine se ?_
 refine es 3 1 (.int .i64 (za1 qq0 qq1 qq2 qq3 qq1)) [(.int .i64 (za1 qq0 qq1 qq2 qq3 qq1))] #[(.int .i64 (za1 qq0 qq1 qq2 qq3 qq0)),(.int .i64 (za1 qq0 qq1 qq2 qq3 qq1)),(.int .i64 (qq2)),(.int .i64 (qq3))] L2 hB q2 ⟨rfl,trivial⟩ fun aV ab aC L2 hB=>?_
 refine za0 ?_
 refine af _ _ ?_
 try clear af aU
 refine rg [0,1,2] ?_
 refine sv 14 (.int .i64 1) ?_
 refine sv 15 (.int .i64 2) ?_
 refine sv 4 (.int .i64 2) ?_
 refine za0 ?_
 show Code.rounds _ _ _ _ _ _
 show Code.wp _ _ _ _ _
 refine wp_seq_k (fun aP ax=>?_)
 refine wp_seq_k (fun aS az=>?_)
 refine rg [0,1] ?_
 refine sv 12 (.int .i64 2) ?_
 refine sv 13 (.bool true) ?_
 refine za0 ?_
 refine az _ _ ?_
 try clear az aS
 refine wp_cond_true rfl ?_
 refine wp_skip ?_
 refine ax _ _ ?_
 try clear ax aP
 refine wp_seq_k (fun aG ah=>?_)
 refine wp_block ?_
 refine rg [0,1,2,3,4,5,6,7] ?_
 refine sv 16 (.int .i64 2) ?_
 refine sv 17 (.int .i64 2) ?_
 refine sv 18 (.pointer (some ⟨b2,2,none⟩)) ?_
 refine sw 19 (.int .i64 (qq2)) rfl (rk 3 2 L2) ?_
 refine sv 20 (.int .i64 (qgcd qq0 qq1 qq2 qq3)) ?_
 refine sw 21 (.int .i64 (za1 qq0 qq1 qq2 qq3 qq2)) rfl (zn9 3 3 _ _ qq2 (qgcd qq0 qq1 qq2 qq3) (za1 qq0 qq1 qq2 qq3 qq2) rfl rfl rfl (zM5 hn hd.2.2.1 hs) (by omega) (by omega) (by omega)) ?_
 refine sv 22 (.pointer (some ⟨b2,2,none⟩)) ?_
 refine se ?_
 refine es 3 2 (.int .i64 (za1 qq0 qq1 qq2 qq3 qq2)) [(.int .i64 (za1 qq0 qq1 qq2 qq3 qq2))] #[(.int .i64 (za1 qq0 qq1 qq2 qq3 qq0)),(.int .i64 (za1 qq0 qq1 qq2 qq3 qq1)),(.int .i64 (za1 qq0 qq1 qq2 qq3 qq2)),(.int .i64 (qq3))] L2 hB q2 ⟨rfl,trivial⟩ fun aZ ac aI L2 hB=>?_
 refine za0 ?_
 refine ah _ _ ?_
 try clear ah aG
 refine rg [0,1,2] ?_
 refine sv 14 (.int .i64 2) ?_
 refine sv 15 (.int .i64 3) ?_
 refine sv 4 (.int .i64 3) ?_
 refine za0 ?_
 show Code.rounds _ _ _ _ _ _
 show Code.wp _ _ _ _ _
 refine wp_seq_k (fun aN al=>?_)
 refine wp_seq_k (fun aO aw=>?_)
 refine rg [0,1] ?_
 refine sv 12 (.int .i64 3) ?_
 refine sv 13 (.bool true) ?_
 refine za0 ?_
 refine aw _ _ ?_
 try clear aw aO
 refine wp_cond_true rfl ?_
 refine wp_skip ?_
 refine al _ _ ?_
 try clear al aN
 refine wp_seq_k (fun aH aq=>?_)
 refine wp_block ?_
 refine rg [0,1,2,3,4,5,6,7] ?_
 refine sv 16 (.int .i64 3) ?_
 refine sv 17 (.int .i64 3) ?_
 refine sv 18 (.pointer (some ⟨b2,3,none⟩)) ?_
 refine sw 19 (.int .i64 (qq3)) rfl (rk 3 3 L2) ?_
 refine sv 20 (.int .i64 (qgcd qq0 qq1 qq2 qq3)) ?_
 refine sw 21 (.int .i64 (za1 qq0 qq1 qq2 qq3 qq3)) rfl (zn9 3 3 _ _ qq3 (qgcd qq0 qq1 qq2 qq3) (za1 qq0 qq1 qq2 qq3 qq3) rfl rfl rfl (zM5 hn hd.2.2.2 hs) (by omega) (by omega) (by omega)) ?_
 refine sv 22 (.pointer (some ⟨b2,3,none⟩)) ?_
 refine se ?_
 refine es 3 3 (.int .i64 (za1 qq0 qq1 qq2 qq3 qq3)) [(.int .i64 (za1 qq0 qq1 qq2 qq3 qq3))] #[(.int .i64 (za1 qq0 qq1 qq2 qq3 qq0)),(.int .i64 (za1 qq0 qq1 qq2 qq3 qq1)),(.int .i64 (za1 qq0 qq1 qq2 qq3 qq2)),(.int .i64 (za1 qq0 qq1 qq2 qq3 qq3))] L2 hB q2 ⟨rfl,trivial⟩ fun a0 ad aF L2 hB=>?_
 refine za0 ?_
 refine aq _ _ ?_
 try clear aq aH
 refine rg [0,1,2] ?_
 refine sv 14 (.int .i64 3) ?_
 refine sv 15 (.int .i64 4) ?_
 refine sv 4 (.int .i64 4) ?_
 refine za0 ?_
 show Code.rounds _ _ _ _ _ _
 show Code.wp _ _ _ _ _
 refine wp_seq_k (fun a4 a3=>?_)
 refine wp_seq_k (fun aD ai=>?_)
 refine rg [0,1] ?_
 refine sv 12 (.int .i64 4) ?_
 refine sv 13 (.bool false) ?_
 refine za0 ?_
 refine ai _ _ ?_
 try clear ai aD
 refine wp_cond_false rfl ?_
 refine wp_exit ?_
 simp only [Exit.then,Exit.inBlock,↓reduceIte]
 refine k9 _ _ ?_
 try clear k9 K9
 refine wp_seq_k (fun aM av=>?_)
 refine rg [0,1] ?_
 refine sw 23 (.agg #[(.int .i64 (za1 qq0 qq1 qq2 qq3 qq0)),(.int .i64 (za1 qq0 qq1 qq2 qq3 qq1)),(.int .i64 (za1 qq0 qq1 qq2 qq3 qq2)),(.int .i64 (za1 qq0 qq1 qq2 qq3 qq3))]) rfl (rl 22 0 [(.int .i64 (za1 qq0 qq1 qq2 qq3 qq0)),(.int .i64 (za1 qq0 qq1 qq2 qq3 qq1)),(.int .i64 (za1 qq0 qq1 qq2 qq3 qq2)),(.int .i64 (za1 qq0 qq1 qq2 qq3 qq3))] L2) ?_
 refine se ?_
 replace L3:=ad.lc (ac.lc (ab.lc (ae.lc (L3.gr (g5.trans g8)) (Ne.symm aa)) (Ne.symm aa)) (Ne.symm aa)) (Ne.symm aa)
 refine es 22 0 (.agg #[(.int .i64 (za1 qq0 qq1 qq2 qq3 qq0)),(.int .i64 (za1 qq0 qq1 qq2 qq3 qq1)),(.int .i64 (za1 qq0 qq1 qq2 qq3 qq2)),(.int .i64 (za1 qq0 qq1 qq2 qq3 qq3))]) [(.int .i64 (za1 qq0 qq1 qq2 qq3 qq0)),(.int .i64 (za1 qq0 qq1 qq2 qq3 qq1)),(.int .i64 (za1 qq0 qq1 qq2 qq3 qq2)),(.int .i64 (za1 qq0 qq1 qq2 qq3 qq3))] #[(.int .i64 (za1 qq0 qq1 qq2 qq3 qq0)),(.int .i64 (za1 qq0 qq1 qq2 qq3 qq1)),(.int .i64 (za1 qq0 qq1 qq2 qq3 qq2)),(.int .i64 (za1 qq0 qq1 qq2 qq3 qq3))] L3 hB q3 ⟨rfl,rfl,rfl,rfl,trivial⟩ fun aW aK aL L3 hB=>?_
 refine za0 ?_
 refine av _ _ ?_
 try clear av aM
 refine wp_ret ?_
 refine bodyPost_ret (v:=(.agg #[(.int .i64 (za1 qq0 qq1 qq2 qq3 qq0)),(.int .i64 (za1 qq0 qq1 qq2 qq3 qq1)),(.int .i64 (za1 qq0 qq1 qq2 qq3 qq2)),(.int .i64 (za1 qq0 qq1 qq2 qq3 qq3))])) (zb0 _ _ _ rfl rfl L3 (by kernel_rfl)) rfl ⟨?_,hB⟩
 exact rfl

set_option maxRecDepth 100000 in
set_option maxHeartbeats 1000000 in
theorem yn1 (qq0 qq1 qq2 qq3:Int) (j0:-1099511627776≤qq0∧qq0≤1099511627776) (j1:-1099511627776≤qq1∧qq1≤1099511627776) (j2:-1099511627776≤qq2∧qq2≤1099511627776) (j3:-1099511627776≤qq3∧qq3≤1099511627776) (hn:¬(qq0=0∧qq1=0∧qq2=0∧qq3=0)) (hs:qsgn qq0 qq1 qq2 qq3=-1) (w:World):
    Calls Tryz.prog 66 #[(.agg #[(.int .i64 (qq0)),(.int .i64 (qq1)),(.int .i64 (qq2)),(.int .i64 (qq3))])] w fun e w'=>e=.returned (.agg #[.int .i64 (za1 qq0 qq1 qq2 qq3 qq0),.int .i64 (za1 qq0 qq1 qq2 qq3 qq1),.int .i64 (za1 qq0 qq1 qq2 qq3 qq2),.int .i64 (za1 qq0 qq1 qq2 qq3 qq3)])∧Gr w w':=by
 have hsb:decide (qsgn qq0 qq1 qq2 qq3=1)=false:=by rw [hs];rfl
 have hd:=zl4 qq0 qq1 qq2 qq3
 have hgp:=zu0 hn
 have a2:=ze7 (n:=qq0) hn
 have a1:=ze7 (n:=qq1) hn
 have a5:=ze7 (n:=qq2) hn
 have aX:=ze7 (n:=qq3) hn
 have hgm:qgcd qq0 qq1 qq2 qq3≤1099511627776:=by
    have h1:=hd.1;have h2:=hd.2.1;have h3:=hd.2.2.1;have h4:=hd.2.2.2
    have le:∀ x:Int,x≠0→-1099511627776≤x∧x≤1099511627776→qgcd qq0 qq1 qq2 qq3∣x→qgcd qq0 qq1 qq2 qq3≤1099511627776:=by
      intro x hx hb hdx
      have:=Nat.le_of_dvd (by omega) (Int.natAbs_dvd_natAbs.2 hdx)
      omega
    by_cases z0:qq0=0
    · by_cases z1:qq1=0
      · by_cases z2:qq2=0
        · exact le qq3 (fun z3=>hn ⟨z0,z1,z2,z3⟩) j3 h4
        · exact le qq2 z2 j2 h3
      · exact le qq1 z1 j1 h2
    · exact le qq0 z0 j0 h1
 go_enter Tryz.func66,Tryz.ntmps66
 have hB:=Gr.refl w
 refine wp_seq_k (fun K1 k1=>?_)
 refine rg [0,1] ?_
 refine se ?_
 refine eb 22 #[(.int .i64 (qq0)),(.int .i64 (qq1)),(.int .i64 (qq2)),(.int .i64 (qq3))] 1 hB fun b2 w2 g2 L2 o2 q2 hB=>?_
 simp only [p3,p4]
 refine se ?_
 refine ea 22 #[.int .i64 0,.int .i64 0,.int .i64 0,.int .i64 0] 2 hB fun b3 w3 g3 L3 o3 q3 hB=>?_
 have aa:=L2.ne o3
 simp only [p3,p4]
 refine za0 ?_
 refine k1 _ _ ?_
 try clear k1 K1
 refine wp_seq_k (fun K4 k4=>?_)
 refine rg [0,1,2] ?_
 replace L2:=L2.gr g3
 refine sw 5 (.agg #[(.int .i64 (qq0)),(.int .i64 (qq1)),(.int .i64 (qq2)),(.int .i64 (qq3))]) rfl (rl 22 0 [(.int .i64 (qq0)),(.int .i64 (qq1)),(.int .i64 (qq2)),(.int .i64 (qq3))] L2) ?_
 refine se ?_
 refine ec 6 (zQ4 qq0 qq1 qq2 qq3 (by omega) (by omega) (by omega) (by omega) _) ?_
 rintro e5 w5 ⟨rfl,g5⟩
 refine ⟨_,rfl,?_⟩
 replace hB:=hB.trans g5
 simp only [p3,p4]
 refine sv 3 (.int .i64 (qgcd qq0 qq1 qq2 qq3)) ?_
 refine za0 ?_
 refine k4 _ _ ?_
 try clear k4 K4
 refine wp_seq_k (fun K6 k6=>?_)
 refine wp_seq_k (fun K7 k7=>?_)
 refine rg [0,1,2] ?_
 replace L2:=L2.gr g5
 refine sw 7 (.agg #[(.int .i64 (qq0)),(.int .i64 (qq1)),(.int .i64 (qq2)),(.int .i64 (qq3))]) rfl (rl 22 0 [(.int .i64 (qq0)),(.int .i64 (qq1)),(.int .i64 (qq2)),(.int .i64 (qq3))] L2) ?_
 refine se ?_
 refine ec 8 (zD3 qq0 qq1 qq2 qq3 _) ?_
 rintro e8 w8 ⟨rfl,g8⟩
 refine ⟨_,rfl,?_⟩
 replace hB:=hB.trans g8
 simp only [p3,p4]
 refine sw 9 (.bool true) rfl (RunV.bool (x:=!(decide (qsgn qq0 qq1 qq2 qq3=1))) (rvk (by kernel_rfl)) (show (!(decide (qsgn qq0 qq1 qq2 qq3=1)))=true by rw [hsb];rfl)) ?_
 refine za0 ?_
 refine k7 _ _ ?_
 try clear k7 K7
 refine wp_cond_true rfl ?_
 refine rg [0,1,2] ?_
 refine sv 10 (.int .i64 (qgcd qq0 qq1 qq2 qq3)) ?_
 refine sw 11 (.int .i64 ((0 - qgcd qq0 qq1 qq2 qq3))) rfl (RunV.int (x:=IntKind.i64.wrap ((0 - qgcd qq0 qq1 qq2 qq3))) (y:=(0 - qgcd qq0 qq1 qq2 qq3)) (rvk (by kernel_rfl)) (by first | rfl | (rw [IntKind.wrap_i64];omega))) ?_
 refine sv 3 (.int .i64 ((0 - qgcd qq0 qq1 qq2 qq3))) ?_
 refine za0 ?_
 refine k6 _ _ ?_
 try clear k6 K6
 refine wp_seq_k (fun K9 k9=>?_)
 refine wp_seq_k (fun aE ak=>?_)
 refine rg [0] ?_
 refine sv 4 (.int .i64 0) ?_
 refine za0 ?_
 refine ak _ _ ?_
 try clear ak aE
 refine wp_block ?_
 refine wp_loop_rounds 6 ?_
 show Code.wp _ _ _ _ _
 refine wp_seq_k (fun aT ap=>?_)
 refine wp_seq_k (fun aR ar=>?_)
 refine rg [0,1] ?_
 refine sv 12 (.int .i64 0) ?_
 refine sv 13 (.bool true) ?_
 refine za0 ?_
 refine ar _ _ ?_
 try clear ar aR
 refine wp_cond_true rfl ?_
 refine wp_skip ?_
 refine ap _ _ ?_
 try clear ap aT
 refine wp_seq_k (fun aJ au=>?_)
 refine wp_block ?_
 refine rg [0,1,2,3,4,5,6,7] ?_
 refine sv 16 (.int .i64 0) ?_
 refine sv 17 (.int .i64 0) ?_
 refine sv 18 (.pointer (some ⟨b2,0,none⟩)) ?_
 replace L2:=L2.gr g8
 refine sw 19 (.int .i64 (qq0)) rfl (rk 3 0 L2) ?_
 refine sv 20 (.int .i64 ((0 - qgcd qq0 qq1 qq2 qq3))) ?_
 refine sw 21 (.int .i64 (za1 qq0 qq1 qq2 qq3 qq0)) rfl (zn9 3 3 _ _ qq0 ((0 - qgcd qq0 qq1 qq2 qq3)) (za1 qq0 qq1 qq2 qq3 qq0) rfl rfl rfl (zM6 hn hd.1 hs) (by omega) (by omega) (by omega)) ?_
 refine sv 22 (.pointer (some ⟨b2,0,none⟩)) ?_
 refine se ?_
 refine es 3 0 (.int .i64 (za1 qq0 qq1 qq2 qq3 qq0)) [(.int .i64 (za1 qq0 qq1 qq2 qq3 qq0))] #[(.int .i64 (za1 qq0 qq1 qq2 qq3 qq0)),(.int .i64 (qq1)),(.int .i64 (qq2)),(.int .i64 (qq3))] L2 hB q2 ⟨rfl,trivial⟩ fun aY ae aA L2 hB=>?_
 refine za0 ?_
 refine au _ _ ?_
 try clear au aJ
 refine rg [0,1,2] ?_
 refine sv 14 (.int .i64 0) ?_
 refine sv 15 (.int .i64 1) ?_
 refine sv 4 (.int .i64 1) ?_
 refine za0 ?_
 show Code.rounds _ _ _ _ _ _
 show Code.wp _ _ _ _ _
 refine wp_seq_k (fun aQ ay=>?_)
 refine wp_seq_k (fun aB aj=>?_)
 refine rg [0,1] ?_
 refine sv 12 (.int .i64 1) ?_
 refine sv 13 (.bool true) ?_
 refine za0 ?_
 refine aj _ _ ?_
 try clear aj aB
 refine wp_cond_true rfl ?_
 refine wp_skip ?_
 refine ay _ _ ?_
 try clear ay aQ
 refine wp_seq_k (fun aU af=>?_)
 refine wp_block ?_
 refine rg [0,1,2,3,4,5,6,7] ?_
 refine sv 16 (.int .i64 1) ?_
 refine sv 17 (.int .i64 1) ?_
 refine sv 18 (.pointer (some ⟨b2,1,none⟩)) ?_
 refine sw 19 (.int .i64 (qq1)) rfl (rk 3 1 L2) ?_
 refine sv 20 (.int .i64 ((0 - qgcd qq0 qq1 qq2 qq3))) ?_
 refine sw 21 (.int .i64 (za1 qq0 qq1 qq2 qq3 qq1)) rfl (zn9 3 3 _ _ qq1 ((0 - qgcd qq0 qq1 qq2 qq3)) (za1 qq0 qq1 qq2 qq3 qq1) rfl rfl rfl (zM6 hn hd.2.1 hs) (by omega) (by omega) (by omega)) ?_
 refine sv 22 (.pointer (some ⟨b2,1,none⟩)) ?_
 refine se ?_
 refine es 3 1 (.int .i64 (za1 qq0 qq1 qq2 qq3 qq1)) [(.int .i64 (za1 qq0 qq1 qq2 qq3 qq1))] #[(.int .i64 (za1 qq0 qq1 qq2 qq3 qq0)),(.int .i64 (za1 qq0 qq1 qq2 qq3 qq1)),(.int .i64 (qq2)),(.int .i64 (qq3))] L2 hB q2 ⟨rfl,trivial⟩ fun aV ab aC L2 hB=>?_
 refine za0 ?_
 refine af _ _ ?_
 try clear af aU
 refine rg [0,1,2] ?_
 refine sv 14 (.int .i64 1) ?_
 refine sv 15 (.int .i64 2) ?_
 refine sv 4 (.int .i64 2) ?_
 refine za0 ?_
 show Code.rounds _ _ _ _ _ _
 show Code.wp _ _ _ _ _
 refine wp_seq_k (fun aP ax=>?_)
 refine wp_seq_k (fun aS az=>?_)
 refine rg [0,1] ?_
 refine sv 12 (.int .i64 2) ?_
 refine sv 13 (.bool true) ?_
 refine za0 ?_
 refine az _ _ ?_
 try clear az aS
 refine wp_cond_true rfl ?_
 refine wp_skip ?_
 refine ax _ _ ?_
 try clear ax aP
 refine wp_seq_k (fun aG ah=>?_)
 refine wp_block ?_
 refine rg [0,1,2,3,4,5,6,7] ?_
 refine sv 16 (.int .i64 2) ?_
 refine sv 17 (.int .i64 2) ?_
 refine sv 18 (.pointer (some ⟨b2,2,none⟩)) ?_
 refine sw 19 (.int .i64 (qq2)) rfl (rk 3 2 L2) ?_
 refine sv 20 (.int .i64 ((0 - qgcd qq0 qq1 qq2 qq3))) ?_
 refine sw 21 (.int .i64 (za1 qq0 qq1 qq2 qq3 qq2)) rfl (zn9 3 3 _ _ qq2 ((0 - qgcd qq0 qq1 qq2 qq3)) (za1 qq0 qq1 qq2 qq3 qq2) rfl rfl rfl (zM6 hn hd.2.2.1 hs) (by omega) (by omega) (by omega)) ?_
 refine sv 22 (.pointer (some ⟨b2,2,none⟩)) ?_
 refine se ?_
 refine es 3 2 (.int .i64 (za1 qq0 qq1 qq2 qq3 qq2)) [(.int .i64 (za1 qq0 qq1 qq2 qq3 qq2))] #[(.int .i64 (za1 qq0 qq1 qq2 qq3 qq0)),(.int .i64 (za1 qq0 qq1 qq2 qq3 qq1)),(.int .i64 (za1 qq0 qq1 qq2 qq3 qq2)),(.int .i64 (qq3))] L2 hB q2 ⟨rfl,trivial⟩ fun aZ ac aI L2 hB=>?_
 refine za0 ?_
 refine ah _ _ ?_
 try clear ah aG
 refine rg [0,1,2] ?_
 refine sv 14 (.int .i64 2) ?_
 refine sv 15 (.int .i64 3) ?_
 refine sv 4 (.int .i64 3) ?_
 refine za0 ?_
 show Code.rounds _ _ _ _ _ _
 show Code.wp _ _ _ _ _
 refine wp_seq_k (fun aN al=>?_)
 refine wp_seq_k (fun aO aw=>?_)
 refine rg [0,1] ?_
 refine sv 12 (.int .i64 3) ?_
 refine sv 13 (.bool true) ?_
 refine za0 ?_
 refine aw _ _ ?_
 try clear aw aO
 refine wp_cond_true rfl ?_
 refine wp_skip ?_
 refine al _ _ ?_
 try clear al aN
 refine wp_seq_k (fun aH aq=>?_)
 refine wp_block ?_
 refine rg [0,1,2,3,4,5,6,7] ?_
 refine sv 16 (.int .i64 3) ?_
 refine sv 17 (.int .i64 3) ?_
 refine sv 18 (.pointer (some ⟨b2,3,none⟩)) ?_
 refine sw 19 (.int .i64 (qq3)) rfl (rk 3 3 L2) ?_
 refine sv 20 (.int .i64 ((0 - qgcd qq0 qq1 qq2 qq3))) ?_
 refine sw 21 (.int .i64 (za1 qq0 qq1 qq2 qq3 qq3)) rfl (zn9 3 3 _ _ qq3 ((0 - qgcd qq0 qq1 qq2 qq3)) (za1 qq0 qq1 qq2 qq3 qq3) rfl rfl rfl (zM6 hn hd.2.2.2 hs) (by omega) (by omega) (by omega)) ?_
 refine sv 22 (.pointer (some ⟨b2,3,none⟩)) ?_
 refine se ?_
 refine es 3 3 (.int .i64 (za1 qq0 qq1 qq2 qq3 qq3)) [(.int .i64 (za1 qq0 qq1 qq2 qq3 qq3))] #[(.int .i64 (za1 qq0 qq1 qq2 qq3 qq0)),(.int .i64 (za1 qq0 qq1 qq2 qq3 qq1)),(.int .i64 (za1 qq0 qq1 qq2 qq3 qq2)),(.int .i64 (za1 qq0 qq1 qq2 qq3 qq3))] L2 hB q2 ⟨rfl,trivial⟩ fun a0 ad aF L2 hB=>?_
 refine za0 ?_
 refine aq _ _ ?_
 try clear aq aH
 refine rg [0,1,2] ?_
 refine sv 14 (.int .i64 3) ?_
 refine sv 15 (.int .i64 4) ?_
 refine sv 4 (.int .i64 4) ?_
 refine za0 ?_
 show Code.rounds _ _ _ _ _ _
 show Code.wp _ _ _ _ _
 refine wp_seq_k (fun a4 a3=>?_)
 refine wp_seq_k (fun aD ai=>?_)
 refine rg [0,1] ?_
 refine sv 12 (.int .i64 4) ?_
 refine sv 13 (.bool false) ?_
 refine za0 ?_
 refine ai _ _ ?_
 try clear ai aD
 refine wp_cond_false rfl ?_
 refine wp_exit ?_
 simp only [Exit.then,Exit.inBlock,↓reduceIte]
 refine k9 _ _ ?_
 try clear k9 K9
 refine wp_seq_k (fun aM av=>?_)
 refine rg [0,1] ?_
 refine sw 23 (.agg #[(.int .i64 (za1 qq0 qq1 qq2 qq3 qq0)),(.int .i64 (za1 qq0 qq1 qq2 qq3 qq1)),(.int .i64 (za1 qq0 qq1 qq2 qq3 qq2)),(.int .i64 (za1 qq0 qq1 qq2 qq3 qq3))]) rfl (rl 22 0 [(.int .i64 (za1 qq0 qq1 qq2 qq3 qq0)),(.int .i64 (za1 qq0 qq1 qq2 qq3 qq1)),(.int .i64 (za1 qq0 qq1 qq2 qq3 qq2)),(.int .i64 (za1 qq0 qq1 qq2 qq3 qq3))] L2) ?_
 refine se ?_
 replace L3:=ad.lc (ac.lc (ab.lc (ae.lc (L3.gr (g5.trans g8)) (Ne.symm aa)) (Ne.symm aa)) (Ne.symm aa)) (Ne.symm aa)
 refine es 22 0 (.agg #[(.int .i64 (za1 qq0 qq1 qq2 qq3 qq0)),(.int .i64 (za1 qq0 qq1 qq2 qq3 qq1)),(.int .i64 (za1 qq0 qq1 qq2 qq3 qq2)),(.int .i64 (za1 qq0 qq1 qq2 qq3 qq3))]) [(.int .i64 (za1 qq0 qq1 qq2 qq3 qq0)),(.int .i64 (za1 qq0 qq1 qq2 qq3 qq1)),(.int .i64 (za1 qq0 qq1 qq2 qq3 qq2)),(.int .i64 (za1 qq0 qq1 qq2 qq3 qq3))] #[(.int .i64 (za1 qq0 qq1 qq2 qq3 qq0)),(.int .i64 (za1 qq0 qq1 qq2 qq3 qq1)),(.int .i64 (za1 qq0 qq1 qq2 qq3 qq2)),(.int .i64 (za1 qq0 qq1 qq2 qq3 qq3))] L3 hB q3 ⟨rfl,rfl,rfl,rfl,trivial⟩ fun aW aK aL L3 hB=>?_
 refine za0 ?_
 refine av _ _ ?_
 try clear av aM
 refine wp_ret ?_
 refine bodyPost_ret (v:=(.agg #[(.int .i64 (za1 qq0 qq1 qq2 qq3 qq0)),(.int .i64 (za1 qq0 qq1 qq2 qq3 qq1)),(.int .i64 (za1 qq0 qq1 qq2 qq3 qq2)),(.int .i64 (za1 qq0 qq1 qq2 qq3 qq3))])) (zb0 _ _ _ rfl rfl L3 (by kernel_rfl)) rfl ⟨?_,hB⟩
 exact rfl

theorem zQ5 (qq0 qq1 qq2 qq3:Int) (j0:-1099511627776≤qq0∧qq0≤1099511627776) (j1:-1099511627776≤qq1∧qq1≤1099511627776) (j2:-1099511627776≤qq2∧qq2≤1099511627776) (j3:-1099511627776≤qq3∧qq3≤1099511627776) (hn:¬(qq0=0∧qq1=0∧qq2=0∧qq3=0)) (w:World):
  Calls Tryz.prog 66 #[(.agg #[(.int .i64 (qq0)),(.int .i64 (qq1)),(.int .i64 (qq2)),(.int .i64 (qq3))])] w fun e w'=>e=.returned (.agg #[.int .i64 (za1 qq0 qq1 qq2 qq3 qq0),.int .i64 (za1 qq0 qq1 qq2 qq3 qq1),.int .i64 (za1 qq0 qq1 qq2 qq3 qq2),.int .i64 (za1 qq0 qq1 qq2 qq3 qq3)])∧Gr w w':=by
 rcases zq2 hn with hs | hs
 ·exact yn0 qq0 qq1 qq2 qq3 j0 j1 j2 j3 hn hs w
 ·exact yn1 qq0 qq1 qq2 qq3 j0 j1 j2 j3 hn hs w

def zY8 (j k:Nat) (z0 z1 z2 z3:Int):SV:=.so (.vg [.cz j 0 k z0,.cz j 1 k z0,.cz (j+1) 0 k z1,.cz (j+1) 1 k z1,.cz (j+2) 0 k z2,.cz (j+2) 1 k z2,.cz (j+3) 0 k z3,.cz (j+3) 1 k z3])
theorem zO3 {n:Nn} {X:Env} {w w':World} {e:Ending} {k:Nat} {z0 z1 z2 z3:Int} (h:(∃ t0 t1 t2 t3 t4 t5 t6 t7,e=.returned (.agg #[t0,t1,t2,t3,t4,t5,t6,t7])∧IsInt w' k t0 t1 z0∧IsInt w' k t2 t3 z1∧IsInt w' k t4 t5 z2∧IsInt w' k t6 t7 z3)∧Gr w w'):
  (Tr.leaf (zY8 n.z k z0 z1 z2 z3) 0 4).holds n X w e w':=by
 obtain ⟨⟨t0,t1,t2,t3,t4,t5,t6,t7,rfl,h0,h1,h2,h3⟩,g⟩:=h
 let Y:Env:={X with Z:=fun i c=>if i<n.z then X.Z i c else ([t0,t1,t2,t3,t4,t5,t6,t7]:List Value).getD (2*(i - n.z)+c) undef}
 have e0:∀ i c,Y.Z (n.z+i) c=([t0,t1,t2,t3,t4,t5,t6,t7]:List Value).getD (2*i+c) undef:=fun i c=>by
  show (if n.z+i<n.z then _ else _)=_
  rw [if_neg (by omega),Nat.add_sub_cancel_left]
 have aa:∀ c,Y.Z n.z c=([t0,t1,t2,t3,t4,t5,t6,t7]:List Value).getD c undef:=fun c=>by have:=e0 0 c;simpa using this
 refine ⟨Y,?_,g,⟨fun _ _=>rfl,fun _ _ _=>rfl,fun i c hi=>(if_pos hi).symm,rfl⟩,fun c hc=>?_⟩
 ·simp [zY8,SV.den,TV.den,dnL,Cl.den,e0,aa]
 ·simp only [List.mem_cons,List.not_mem_nil,or_false] at hc
  have l0:Nat.blt n.z (n.z+4)=true:=zm5 (by omega)
  have l1:Nat.blt (n.z+1) (n.z+4)=true:=zm5 (by omega)
  have l2:Nat.blt (n.z+2) (n.z+4)=true:=zm5 (by omega)
  have l3:Nat.blt (n.z+3) (n.z+4)=true:=zm5 (by omega)
  rcases hc with rfl | rfl | rfl | rfl | rfl | rfl | rfl | rfl<;>refine ⟨by simp only [Cl.lt,l0,l1,l2,l3];rfl,?_⟩<;>simp only [Cl.good,e0,aa]<;>assumption
def in12 (lo hi:Int):Bool:=ile (-12) lo&&ile hi 12
theorem zO4 {z lo hi:Int} (h:in12 lo hi=true) (h0:lo≤z∧z≤hi):-12≤z∧z≤12:=by
 unfold in12 at h
 simp only [zh2,Bool.and_eq_true,decide_eq_true_eq] at h
 omega
def cChk:ConT:=fun args _ _=>match args with
 | [.so (.vg [.ci .i64 q0 l0 h0,.ci .i64 q1 l1 h1,.ci .i64 q2 l2 h2,.ci .i64 q3 l3 h3,c1,c2,c3])]=>match txC c1,txC c2,txC c3 with
  | some (k1,_x1),some (k2,_x2),some (k3,_x3)=>tr (in12 l0 h0&&in12 l1 h1&&in12 l2 h2&&in12 l3 h3&&Nat.ble k1 64&&Nat.ble k2 64&&Nat.ble k3 64) (.as (decide (chk q0 q1 q2 q3 0=0)) (.leaf (.so (.vc (.ci .i64 0 0 0))) 0 0))
  | _,_,_=>none
 | _=>none
theorem zO5 {I:World→Prop} (hI:∀ w,I w→Mx w):ConOK Tryz.prog I 15 cChk:=by
 intro args E n w T hw ha hT hp
 unfold cChk at hT
 split at hT
 ·rename_i q0 l0 h0 q1 l1 h1 q2 l2 h2 q3 l3 h3 c1 c2 c3
  split at hT
  ·rename_i k1 x1 k2 x2 k3 x3 e1 e2 e3
   obtain ⟨hb,rfl⟩:=zd5 hT
   simp only [Bool.and_eq_true,Nat.ble_eq] at hb
   obtain ⟨⟨⟨⟨⟨⟨b0,b1⟩,b2⟩,b3⟩,b4⟩,b5⟩,b6⟩:=hb
   have g:=fun c hc=>ha _ (List.mem_singleton.2 rfl) c hc
   obtain ⟨d1,s1⟩:=zp2 e1 (g c1 (by simp))
   obtain ⟨d2,s2⟩:=zp2 e2 (g c2 (by simp))
   obtain ⟨d3,s3⟩:=zp2 e3 (g c3 (by simp))
   have s1:=s1.mono b4
   have s2:=s2.mono b5
   have s3:=s3.mono b6
   show Calls _ _ #[.agg #[.int .i64 q0,.int .i64 q1,.int .i64 q2,.int .i64 q3,c1.den E,c2.den E,c3.den E]] w _
   rw [d1,d2,d3]
   refine (ym0 (zO4 b0 (g (.ci .i64 q0 l0 h0) (by simp)).2) (zO4 b1 (g (.ci .i64 q1 l1 h1) (by simp)).2) (zO4 b2 (g (.ci .i64 q2 l2 h2) (by simp)).2) (zO4 b3 (g (.ci .i64 q3 l3 h3) (by simp)).2) x1 x2 x3 s1 s2 s3 w (hI w hw)).mono fun e w' he=>?_
   rw [of_decide_eq_true hp.1] at he
   exact zc4 he ⟨rfl,Int.le_refl _,Int.le_refl _⟩
  ·cases hT
 ·cases hT
def mag4 (l h:Int):Int:=max (-l) h
def inP (l h:Int):Bool:=ile (-1099511627776) l&&ile h 1099511627776
theorem ye3 {z lo hi:Int} (h:inP lo hi=true) (h0:lo≤z∧z≤hi):-1099511627776≤z∧z≤1099511627776:=by
 unfold inP at h
 simp only [zh2,Bool.and_eq_true,decide_eq_true_eq] at h
 omega
def zy6 (q0 q1 q2 q3 q l h:Int):Cl:=.ci .i64 (za1 q0 q1 q2 q3 q) (-mag4 l h) (mag4 l h)
theorem zB6 {n:Nn} {X:Env} {w:World} {q0 q1 q2 q3 q l h:Int} (hn:¬(q0=0∧q1=0∧q2=0∧q3=0)) (h0:l≤q∧q≤h):(zy6 q0 q1 q2 q3 q l h).ok n X w:=by
 refine ⟨rfl,?_⟩
 have:=ze7 (n:=q) hn
 show -mag4 l h≤_∧_≤mag4 l h
 unfold mag4
 omega
def yi5:ConT:=fun args _ _=>match args with
 | [.so (.vg [.ci .i64 q0 l0 h0,.ci .i64 q1 l1 h1,.ci .i64 q2 l2 h2,.ci .i64 q3 l3 h3])]=>
  tr (inP l0 h0&&inP l1 h1&&inP l2 h2&&inP l3 h3) (.as (decide (¬(q0=0∧q1=0∧q2=0∧q3=0))) (.leaf (.so (.vg [zy6 q0 q1 q2 q3 q0 l0 h0,zy6 q0 q1 q2 q3 q1 l1 h1,zy6 q0 q1 q2 q3 q2 l2 h2,zy6 q0 q1 q2 q3 q3 l3 h3])) 0 0))
 | _=>none
theorem zB7 {I:World→Prop}:ConOK Tryz.prog I 66 yi5:=by
 intro args E n w T _ ha hT hp
 unfold yi5 at hT
 split at hT
 ·rename_i q0 l0 h0 q1 l1 h1 q2 l2 h2 q3 l3 h3
  obtain ⟨hb,rfl⟩:=zd5 hT
  simp only [Bool.and_eq_true] at hb
  obtain ⟨⟨⟨b0,b1⟩,b2⟩,b3⟩:=hb
  have h:=ha _ (List.mem_singleton.2 rfl)
  have g:=fun c hc=>h c hc
  have hn:=of_decide_eq_true hp.1
  have g0:=(g (.ci .i64 q0 l0 h0) (by simp)).2
  have g1:=(g (.ci .i64 q1 l1 h1) (by simp)).2
  have g2:=(g (.ci .i64 q2 l2 h2) (by simp)).2
  have g3:=(g (.ci .i64 q3 l3 h3) (by simp)).2
  refine (zQ5 q0 q1 q2 q3 (ye3 b0 g0) (ye3 b1 g1) (ye3 b2 g2) (ye3 b3 g3) hn w).mono fun e w' he=>zc4 he fun c hc=>?_
  simp only [List.mem_cons,List.not_mem_nil,or_false] at hc
  rcases hc with rfl | rfl | rfl | rfl
  ·exact zB6 hn g0
  ·exact zB6 hn g1
  ·exact zB6 hn g2
  ·exact zB6 hn g3
 ·cases hT
theorem ye4 (t:Int):-12≤Int.tmod t 13∧Int.tmod t 13≤12:=by
 have h1:=Int.tmod_lt_of_pos t (show (0:Int)<13 by decide)
 have h2:=Int.tmod_lt_of_pos (-t) (show (0:Int)<13 by decide)
 rw [Int.neg_tmod] at h2
 omega
def mq0 (t0 t1 t2 t3:Int):Int:=if zA4 [Int.tmod t0 13,Int.tmod t1 13,Int.tmod t2 13,Int.tmod t3 13] [0,0,0,0] then 1 else Int.tmod t0 13
def qd (t0 t1 t2 t3:Int):Nat→Int
 | 0=>za1 (mq0 t0 t1 t2 t3) (Int.tmod t1 13) (Int.tmod t2 13) (Int.tmod t3 13) (mq0 t0 t1 t2 t3)
 | 1=>za1 (mq0 t0 t1 t2 t3) (Int.tmod t1 13) (Int.tmod t2 13) (Int.tmod t3 13) (Int.tmod t1 13)
 | 2=>za1 (mq0 t0 t1 t2 t3) (Int.tmod t1 13) (Int.tmod t2 13) (Int.tmod t3 13) (Int.tmod t2 13)
 | _=>za1 (mq0 t0 t1 t2 t3) (Int.tmod t1 13) (Int.tmod t2 13) (Int.tmod t3 13) (Int.tmod t3 13)
theorem conj4 (a b c d:Int):zA4 [a,b,c,d] [0,0,0,0]=decide (a=0∧b=0∧c=0∧d=0):=by
 rw [Bool.eq_iff_iff,decide_eq_true_eq]
 simp [zA4,eqL,and_assoc]
theorem mq_ne (t0 t1 t2 t3:Int):¬(mq0 t0 t1 t2 t3=0∧Int.tmod t1 13=0∧Int.tmod t2 13=0∧Int.tmod t3 13=0):=by
 unfold mq0
 rw [conj4]
 split
 ·rintro ⟨h,_⟩;exact absurd h (by decide)
 ·rename_i h;exact fun g=>h (decide_eq_true g)
theorem mq0_le (t0 t1 t2 t3:Int):-12≤mq0 t0 t1 t2 t3∧mq0 t0 t1 t2 t3≤12:=by
 unfold mq0
 split
 ·decide
 ·exact ye4 t0
theorem qd_vt (t0 t1 t2 t3:Int):VT (qd t0 t1 t2 t3 0) (qd t0 t1 t2 t3 1) (qd t0 t1 t2 t3 2) (qd t0 t1 t2 t3 3):=by
 have hn:=mq_ne t0 t1 t2 t3
 have b0:=mq0_le t0 t1 t2 t3
 have b1:=ye4 t1
 have b2:=ye4 t2
 have b3:=ye4 t3
 simp only [qd]
 generalize mq0 t0 t1 t2 t3=m0 at*
 have l0:=ze7 (n:=m0) hn
 have l1:=ze7 (n:=Int.tmod t1 13) hn
 have l2:=ze7 (n:=Int.tmod t2 13) hn
 have l3:=ze7 (n:=Int.tmod t3 13) hn
 obtain ⟨g,s⟩:=qprim_ok hn
 exact ⟨by omega,by omega,by omega,by omega,g,s⟩
def sq (i d:Int):Rat:=(i:Rat)/((1+d % 6:Int):Rat)
def roN (w x y z:Int):Nat→Int
 | 0=>w*w+x*x - y*y - z*z
 | 1=>2*(x*y - w*z)
 | 2=>2*(x*z+w*y)
 | 3=>2*(x*y+w*z)
 | 4=>w*w - x*x+y*y - z*z
 | 5=>2*(y*z - w*x)
 | 6=>2*(x*z - w*y)
 | 7=>2*(y*z+w*x)
 | _=>w*w - x*x - y*y+z*z
def roE (w x y z:Int) (k:Nat):Rat:=((roN w x y z k:Int):Rat)/((w*w+x*x+y*y+z*z:Int):Rat)
theorem nn_ne {w x y z:Int} (h:VT w x y z):((w*w+x*x+y*y+z*z:Int):Rat)≠0:=by
 have:=zV9 h.ne
 intro e
 have:w*w+x*x+y*y+z*z=0:=by exact_mod_cast e
 omega
theorem zO6 {w x y z:Int} (h:VT w x y z):RotQ (roE w x y z 0) (roE w x y z 1) (roE w x y z 2) (roE w x y z 3) (roE w x y z 4) (roE w x y z 5) (roE w x y z 6) (roE w x y z 7) (roE w x y z 8) w x y z:=by
 have hn:=nn_ne h
 have c:((w*w+x*x+y*y+z*z:Int):Rat)=(w:Rat)*w+x*x+y*y+z*z:=by simp only [Rat.intCast_add,Rat.intCast_mul]
 have key:∀ k,roE w x y z k*((w:Rat)*w+x*x+y*y+z*z)=((roN w x y z k:Int):Rat):=fun k=>by
  unfold roE
  rw [← c,Rat.div_mul_cancel hn]
 constructor<;>rw [key]<;>simp only [roN,Rat.intCast_add,Rat.intCast_sub,Rat.intCast_mul]<;>rfl
theorem roE_rs {w x y z:Int} (h:VT w x y z):∀ k,RS 50 (roE w x y z k):=by
 have b0:=h.b0;have b1:=h.b1;have b2:=h.b2;have b3:=h.b3
 obtain ⟨h0,h1,h2,h3,h4,h5,h6,h7,h8⟩:=rotq_rs h.ne (by omega) (by omega) (by omega) (by omega) (zO6 h)
 intro k
 match k with
 | 0=>exact h0
 | 1=>exact h1
 | 2=>exact h2
 | 3=>exact h3
 | 4=>exact h4
 | 5=>exact h5
 | 6=>exact h6
 | 7=>exact h7
 | k+8=>exact h8
theorem one_div {N n:Rat}:((1:Int):Rat)/N*n=n/N:=by
 rw [Rat.div_def,Rat.div_def,Rat.mul_comm n]
 congr 1
 exact Rat.one_mul _

noncomputable def tabQ:List (Nat × List (Nat × Ent)):=[(21,[(12,.ord [(true,0),(true,1),(true,2),(true,3),(true,4),(true,5),(true,6),(true,8),(true,9),(true,10),(true,11),(true,12),(true,13),(false,7),(false,14),(false,15),(true,16),(false,17)] [5]),(13,.ord [(true,0),(true,2),(false,1),(false,3),(true,4),(false,5)] [2])]),
 (45,[])]
noncomputable def conQ:List (Nat × ConT):=[(103,zp1 100000 (fun k m=>k+m+1) (fun a b=>a+b)),
 (75,zp1 100000 (fun k m=>k+m+1) (fun a b=>a - b)),
 (82,zp1 100000 (fun k m=>k+m) (fun a b=>a*b)),
 (108,cNeg),
 (59,yh9),
 (37,yi0),
 (76,zY4),
 (87,yi1),
 (130,cNum),
 (81,cDen),
 (58,cDiv),
 (96,zG8),
 (80,zY5),
 (122,zY6),
 (123,zY7),
 (68,yi2),
 (105,cTT (fun k m=>k+m+1) fun a b=>a+b),
 (132,cTT (fun k m=>k+m+1) fun a b=>a - b),
 (106,cTT (fun k m=>k+m) fun a b=>a*b),
 (64,yi3),
 (115,yi4),
 (65,zL0),
 (94,zA6 400),
 (107,zA6 65536),
 (15,cChk),
 (66,yi5)]
noncomputable def sysQ:Sys:=⟨Tryz.prog,2,199,tabQ,conQ,fun w=>Tab w∧Mx w⟩
theorem sysQ_ok:sysQ.OK where
 mixed:=by kernel_rfl
 calls:=fun f h0 h1=>by
  have:(List.range 199).all (fun f=>Nat.blt f 2||okCall Tryz.prog f)=true:=by kernel_rfl
  have:=List.all_eq_true.1 this f (List.mem_range.2 h1)
  simp only [Bool.or_eq_true] at this
  exact this.resolve_left (fun e=>by have:=zf3 e;exact absurd h0 (by show ¬ 2≤f;omega))
 tab:=by
  have:tabQ.all (okTab Tryz.prog)=true:=by kernel_rfl
  exact fun x hx=>List.all_eq_true.1 this x hx
 lps:=zK8 (by kernel_rfl)
 con:=fun x hx=>by
  simp only [sysQ,conQ,List.mem_cons,List.not_mem_nil,or_false] at hx
  rcases hx with rfl | rfl | rfl | rfl | rfl | rfl | rfl | rfl | rfl | rfl | rfl | rfl | rfl | rfl | rfl | rfl | rfl | rfl | rfl | rfl | rfl | rfl | rfl | rfl | rfl | rfl
  ·exact ze1 fun h1 h2 h3=>zi7 h1 h2 h3
  ·exact ze1 fun h1 h2 h3=>zt2 h1 h2 h3
  ·exact ze1 fun h1 h2 h3=>ym7 h1 h2 h3
  ·exact zG9
  ·exact zv2
  ·exact zv3
  ·exact zq6
  ·exact zv4 fun w h=>h.1
  ·exact zy4
  ·exact zy5
  ·exact zH0
  ·exact zk6
  ·exact zq7
  ·exact zq8
  ·exact zq9
  ·exact zv5
  ·exact zv6
  ·exact zv7
  ·exact zv8
  ·exact zv9
  ·exact zw0
  ·exact zp3
  ·exact zw1 fun w h=>h.2
  ·exact zw2 fun w h=>h.2
  ·exact zO5 fun w h=>h.2
  ·exact zB7
 inv:=fun w w' h g=>⟨h.1.gr g,h.2.gr g⟩
def treeP (t0 t1 t2 t3 i1 i2 i3 d:Int):Lf:=.br (zA4 [Int.tmod t0 13,Int.tmod t1 13,Int.tmod t2 13,Int.tmod t3 13] [0,0,0,0])
 (.as (decide (((1+d % 6:Int):Rat)≠0)) true (.as (decide (((1+d % 6:Int):Rat)≠0)) true (.as (decide (((1+d % 6:Int):Rat)≠0)) true (.as (decide ¬((1:Int)=0∧Int.tmod t1 13=0∧Int.tmod t2 13=0∧Int.tmod t3 13=0)) true (.ret (.so (.vg [zy6 1 (Int.tmod t1 13) (Int.tmod t2 13) (Int.tmod t3 13) 1 1 1,zy6 1 (Int.tmod t1 13) (Int.tmod t2 13) (Int.tmod t3 13) (Int.tmod t1 13) (-12) 12,zy6 1 (Int.tmod t1 13) (Int.tmod t2 13) (Int.tmod t3 13) (Int.tmod t2 13) (-12) 12,zy6 1 (Int.tmod t1 13) (Int.tmod t2 13) (Int.tmod t3 13) (Int.tmod t3 13) (-12) 12,.cw (za3 (sq i1 d)) (some (128,sq i1 d)),.cw (za3 (sq i2 d)) (some (128,sq i2 d)),.cw (za3 (sq i3 d)) (some (128,sq i3 d))])))))))
 (.as (decide (((1+d % 6:Int):Rat)≠0)) true (.as (decide (((1+d % 6:Int):Rat)≠0)) true (.as (decide (((1+d % 6:Int):Rat)≠0)) true (.as (decide ¬(Int.tmod t0 13=0∧Int.tmod t1 13=0∧Int.tmod t2 13=0∧Int.tmod t3 13=0)) true (.ret (.so (.vg [zy6 (Int.tmod t0 13) (Int.tmod t1 13) (Int.tmod t2 13) (Int.tmod t3 13) (Int.tmod t0 13) (-12) 12,zy6 (Int.tmod t0 13) (Int.tmod t1 13) (Int.tmod t2 13) (Int.tmod t3 13) (Int.tmod t1 13) (-12) 12,zy6 (Int.tmod t0 13) (Int.tmod t1 13) (Int.tmod t2 13) (Int.tmod t3 13) (Int.tmod t2 13) (-12) 12,zy6 (Int.tmod t0 13) (Int.tmod t1 13) (Int.tmod t2 13) (Int.tmod t3 13) (Int.tmod t3 13) (-12) 12,.cw (za3 (sq i1 d)) (some (128,sq i1 d)),.cw (za3 (sq i2 d)) (some (128,sq i2 d)),.cw (za3 (sq i3 d)) (some (128,sq i3 d))])))))))
theorem runP (t0 t1 t2 t3 i1 i2 i3 d:Int):runF sysQ 21 [.so (.vg [.ci .i8 t0 (-128) 127,.ci .i8 t1 (-128) 127,.ci .i8 t2 (-128) 127,.ci .i8 t3 (-128) 127,.ci .i8 i1 (-128) 127,.ci .i8 i2 (-128) 127,.ci .i8 i3 (-128) 127,.ci .u8 d 0 255])] 0 0 (.s .e .e)=some (treeP t0 t1 t2 t3 i1 i2 i3 d):=by kernel_rfl
theorem den6 (d:Int):decide (((1+d % 6:Int):Rat)≠0)=true:=decide_eq_true fun e=>by
 have:(1+d % 6:Int)=0:=by exact_mod_cast e
 omega
def postP (t0 t1 t2 t3 i1 i2 i3 d:Int) (v:SV):Prop:=∃ a b c e f g h k m n o,v=.so (.vg [.ci .i64 (qd t0 t1 t2 t3 0) a b,.ci .i64 (qd t0 t1 t2 t3 1) c e,.ci .i64 (qd t0 t1 t2 t3 2) f g,.ci .i64 (qd t0 t1 t2 t3 3) h k,.cw (za3 (sq i1 d)) m,.cw (za3 (sq i2 d)) n,.cw (za3 (sq i3 d)) o])
theorem treeP_ok (t0 t1 t2 t3 i1 i2 i3 d:Int):LOK (postP t0 t1 t2 t3 i1 i2 i3 d) (treeP t0 t1 t2 t3 i1 i2 i3 d):=by
 have hn:=mq_ne t0 t1 t2 t3
 refine ⟨fun h=>?_,fun h=>?_⟩
 ·have e:mq0 t0 t1 t2 t3=1:=if_pos h
  rw [e] at hn
  refine ⟨den6 d,den6 d,den6 d,decide_eq_true hn,?_⟩
  unfold LOK postP
  simp only [qd,e]
  exact ⟨_,_,_,_,_,_,_,_,_,_,_,rfl⟩
 ·have e:mq0 t0 t1 t2 t3=Int.tmod t0 13:=if_neg (by rw [h];decide)
  rw [e] at hn
  refine ⟨den6 d,den6 d,den6 d,decide_eq_true hn,?_⟩
  unfold LOK postP
  simp only [qd,e]
  exact ⟨_,_,_,_,_,_,_,_,_,_,_,rfl⟩
theorem place_c {t0 t1 t2 t3 i1 i2 i3 d:Int} (ht:(-128≤t0∧t0≤127)∧(-128≤t1∧t1≤127)∧(-128≤t2∧t2≤127)∧(-128≤t3∧t3≤127)∧(-128≤i1∧i1≤127)∧(-128≤i2∧i2≤127)∧(-128≤i3∧i3≤127)∧0≤d∧d≤255) (w:World) (hI:Tab w∧Mx w):
  Calls Tryz.prog 21 #[.agg #[.int .i8 t0,.int .i8 t1,.int .i8 t2,.int .i8 t3,.int .i8 i1,.int .i8 i2,.int .i8 i3,.int .u8 d]] w fun e w'=>e=.returned (.agg #[.int .i64 (qd t0 t1 t2 t3 0),.int .i64 (qd t0 t1 t2 t3 1),.int .i64 (qd t0 t1 t2 t3 2),.int .i64 (qd t0 t1 t2 t3 3),.string ⟨(za3 (sq i1 d)).toArray⟩,.string ⟨(za3 (sq i2 d)).toArray⟩,.string ⟨(za3 (sq i3 d)).toArray⟩])∧Gr w w':=by
 obtain ⟨h0,h1,h2,h3,h4,h5,h6,h7⟩:=ht
 refine (zf8 sysQ sysQ_ok (runP t0 t1 t2 t3 i1 i2 i3 d) (X:=zU0 []) hI (okF1 (zm6 ⟨⟨rfl,h0⟩,⟨rfl,h1⟩,⟨rfl,h2⟩,⟨rfl,h3⟩,⟨rfl,h4⟩,⟨rfl,h5⟩,⟨rfl,h6⟩,⟨rfl,h7⟩,trivial⟩)) (treeP_ok t0 t1 t2 t3 i1 i2 i3 d)).mono fun e w' he=>?_
 obtain ⟨v,X',n,rfl,g,_,_,_,_,_,_,_,_,_,_,_,_,_,rfl⟩:=he
 exact ⟨rfl,g⟩
def in8 (l h:Int):Bool:=ile (-128) l&&ile h 127
theorem zD1 {z lo hi:Int} (h:in8 lo hi=true) (h0:lo≤z∧z≤hi):-128≤z∧z≤127:=by
 unfold in8 at h
 simp only [zh2,Bool.and_eq_true,decide_eq_true_eq] at h
 omega
def inu8 (l h:Int):Bool:=ile 0 l&&ile h 255
theorem inu8_ok {z lo hi:Int} (h:inu8 lo hi=true) (h0:lo≤z∧z≤hi):0≤z∧z≤255:=by
 unfold inu8 at h
 simp only [zh2,Bool.and_eq_true,decide_eq_true_eq] at h
 omega
def q12 (t0 t1 t2 t3:Int) (k:Nat):Cl:=.ci .i64 (qd t0 t1 t2 t3 k) (-12) 12
def txs (i d:Int):Cl:=.cw (za3 (sq i d)) (some (16,sq i d))
theorem yl2 {i d:Int} (hi:-128≤i∧i≤127) (hd:0≤d∧d≤255) (n:Nn) (X:Env) (w:World):(txs i d).ok n X w:=⟨rfl,fun k q e=>by cases e;exact ⟨rfl,small_rs hi hd rfl⟩⟩
def cPlc:ConT:=fun args _ _=>match args with
 | [.so (.vg [.ci .i8 t0 a0 b0,.ci .i8 t1 a1 b1,.ci .i8 t2 a2 b2,.ci .i8 t3 a3 b3,.ci .i8 i1 a4 b4,.ci .i8 i2 a5 b5,.ci .i8 i3 a6 b6,.ci .u8 d a7 b7])]=>
  tr (in8 a0 b0&&in8 a1 b1&&in8 a2 b2&&in8 a3 b3&&in8 a4 b4&&in8 a5 b5&&in8 a6 b6&&inu8 a7 b7) (.leaf (.so (.vg [q12 t0 t1 t2 t3 0,q12 t0 t1 t2 t3 1,q12 t0 t1 t2 t3 2,q12 t0 t1 t2 t3 3,txs i1 d,txs i2 d,txs i3 d])) 0 0)
 | _=>none
theorem cPlc_ok {I:World→Prop} (hI:∀ w,I w→Tab w∧Mx w):ConOK Tryz.prog I 21 cPlc:=by
 intro args E n w T hw ha hT _
 unfold cPlc at hT
 split at hT
 ·rename_i t0 a0 b0 t1 a1 b1 t2 a2 b2 t3 a3 b3 i1 a4 b4 i2 a5 b5 i3 a6 b6 d a7 b7
  obtain ⟨hb,rfl⟩:=zd5 hT
  simp only [Bool.and_eq_true] at hb
  obtain ⟨⟨⟨⟨⟨⟨⟨c0,c1⟩,c2⟩,c3⟩,c4⟩,c5⟩,c6⟩,c7⟩:=hb
  have h:=ha _ (List.mem_singleton.2 rfl)
  have g:=fun c hc=>h c hc
  have g0:=zD1 c0 (g (.ci .i8 t0 a0 b0) (by simp)).2
  have g1:=zD1 c1 (g (.ci .i8 t1 a1 b1) (by simp)).2
  have g2:=zD1 c2 (g (.ci .i8 t2 a2 b2) (by simp)).2
  have g3:=zD1 c3 (g (.ci .i8 t3 a3 b3) (by simp)).2
  have g4:=zD1 c4 (g (.ci .i8 i1 a4 b4) (by simp)).2
  have g5:=zD1 c5 (g (.ci .i8 i2 a5 b5) (by simp)).2
  have g6:=zD1 c6 (g (.ci .i8 i3 a6 b6) (by simp)).2
  have g7:=inu8_ok c7 (g (.ci .u8 d a7 b7) (by simp)).2
  refine (place_c ⟨g0,g1,g2,g3,g4,g5,g6,g7⟩ w (hI w hw)).mono fun e w' he=>zc4 he fun c hc=>?_
  have v:=qd_vt t0 t1 t2 t3
  have v0:=v.b0;have v1:=v.b1;have v2:=v.b2;have v3:=v.b3
  simp only [List.mem_cons,List.not_mem_nil,or_false] at hc
  rcases hc with rfl | rfl | rfl | rfl | rfl | rfl | rfl
  ·exact ⟨rfl,v0⟩
  ·exact ⟨rfl,v1⟩
  ·exact ⟨rfl,v2⟩
  ·exact ⟨rfl,v3⟩
  ·exact yl2 g4 g7 n E w'
  ·exact yl2 g5 g7 n E w'
  ·exact yl2 g6 g7 n E w'
 ·cases hT
noncomputable def tabO:List (Nat × List (Nat × Ent)):=[(14,[(5,.ord [(true,0),(true,1),(true,2),(true,3),(true,4),(true,5),(true,6),(true,7),(true,8),(true,9),(true,10),(true,11),(true,12),(true,13),(true,14),(true,15)] []),(12,.ord [(true,0),(true,1),(true,3),(true,5),(false,2),(false,4),(true,6),(false,7)] [14])]),
 (53,[]),
 (57,[]),
 (60,[]),
 (74,[(5,.ord [(true,0),(true,1),(true,2),(true,3),(true,4),(true,5),(true,6),(true,7),(false,8),(true,9),(false,10)] [7])]),
 (93,[]),
 (97,[])]
noncomputable def conO:List (Nat × ConT):=[(103,zp1 100000 (fun k m=>k+m+1) (fun a b=>a+b)),
 (75,zp1 100000 (fun k m=>k+m+1) (fun a b=>a - b)),
 (82,zp1 100000 (fun k m=>k+m) (fun a b=>a*b)),
 (108,cNeg),
 (59,yh9),
 (37,yi0),
 (76,zY4),
 (87,yi1),
 (130,cNum),
 (81,cDen),
 (58,cDiv),
 (96,zG8),
 (80,zY5),
 (122,zY6),
 (123,zY7),
 (68,yi2),
 (105,cTT (fun k m=>k+m+1) fun a b=>a+b),
 (132,cTT (fun k m=>k+m+1) fun a b=>a - b),
 (106,cTT (fun k m=>k+m) fun a b=>a*b),
 (64,yi3),
 (115,yi4),
 (65,zL0),
 (94,zA6 400),
 (107,zA6 65536),
 (15,cChk),
 (66,yi5)]
noncomputable def sysO:Sys:=⟨Tryz.prog,2,199,tabO,conO,fun w=>Tab w∧Mx w⟩
theorem sysO_ok:sysO.OK where
 mixed:=by kernel_rfl
 calls:=fun f h0 h1=>by
  have:(List.range 199).all (fun f=>Nat.blt f 2||okCall Tryz.prog f)=true:=by kernel_rfl
  have:=List.all_eq_true.1 this f (List.mem_range.2 h1)
  simp only [Bool.or_eq_true] at this
  exact this.resolve_left (fun e=>by have:=zf3 e;exact absurd h0 (by show ¬ 2≤f;omega))
 tab:=by
  have:tabO.all (okTab Tryz.prog)=true:=by kernel_rfl
  exact fun x hx=>List.all_eq_true.1 this x hx
 lps:=zK8 (by kernel_rfl)
 con:=fun x hx=>by
  simp only [sysO,conO,List.mem_cons,List.not_mem_nil,or_false] at hx
  rcases hx with rfl | rfl | rfl | rfl | rfl | rfl | rfl | rfl | rfl | rfl | rfl | rfl | rfl | rfl | rfl | rfl | rfl | rfl | rfl | rfl | rfl | rfl | rfl | rfl | rfl | rfl
  ·exact ze1 fun h1 h2 h3=>zi7 h1 h2 h3
  ·exact ze1 fun h1 h2 h3=>zt2 h1 h2 h3
  ·exact ze1 fun h1 h2 h3=>ym7 h1 h2 h3
  ·exact zG9
  ·exact zv2
  ·exact zv3
  ·exact zq6
  ·exact zv4 fun w h=>h.1
  ·exact zy4
  ·exact zy5
  ·exact zH0
  ·exact zk6
  ·exact zq7
  ·exact zq8
  ·exact zq9
  ·exact zv5
  ·exact zv6
  ·exact zv7
  ·exact zv8
  ·exact zv9
  ·exact zw0
  ·exact zp3
  ·exact zw1 fun w h=>h.2
  ·exact zw2 fun w h=>h.2
  ·exact zO5 fun w h=>h.2
  ·exact zB7
 inv:=fun w w' h g=>⟨h.1.gr g,h.2.gr g⟩
def rowC:List Nat→List (Nat × Rat)→List Cl
 | j::l,(k,q)::r=>.cr j 0 k q::.cr j 1 k q::.cr j 2 k q::.cr j 3 k q::rowC l r
 | _,_=>[]
def nN (w x y z:Int):Rat:=((w*w+x*x+y*y+z*z:Int):Rat)
def mOf (w x y z:Int) (k:Nat):Rat:=((1:Int):Rat)/nN w x y z*((roN w x y z k:Int):Rat)
def oRaw (q0 q1 q2 q3:Int) (x1 x2 x3:Rat):List (Nat × Rat):=[(192,mOf q0 q1 q2 q3 0),(192,mOf q0 q1 q2 q3 1),(192,mOf q0 q1 q2 q3 2),(192,mOf q0 q1 q2 q3 3),(192,mOf q0 q1 q2 q3 4),(192,mOf q0 q1 q2 q3 5),(192,mOf q0 q1 q2 q3 6),(192,mOf q0 q1 q2 q3 7),(192,mOf q0 q1 q2 q3 8),(64,x1),(64,x2),(64,x3)]
def yl3 (q0 q1 q2 q3:Int) (x1 x2 x3:Rat):List (Nat × Rat):=[(64,roE q0 q1 q2 q3 0),(64,roE q0 q1 q2 q3 1),(64,roE q0 q1 q2 q3 2),(64,roE q0 q1 q2 q3 3),(64,roE q0 q1 q2 q3 4),(64,roE q0 q1 q2 q3 5),(64,roE q0 q1 q2 q3 6),(64,roE q0 q1 q2 q3 7),(64,roE q0 q1 q2 q3 8),(64,x1),(64,x2),(64,x3)]
def treeO (q0 q1 q2 q3:Int) (x1 x2 x3:Rat):Lf:=
 .as (decide (chk q0 q1 q2 q3 0=0)) true
 (.as (decide (nN q0 q1 q2 q3=0)) false
 (.ret (.st [.vg (rowC [9,10,11,15,16,17,21,22,23,0,1,2] (oRaw q0 q1 q2 q3 x1 x2 x3)),.vc (.ci .i64 0 0 0)])))
theorem runO (q0 q1 q2 q3:Int) (x1 x2 x3:Rat):runF sysO 14 [.so (.vg [.ci .i64 q0 (-12) 12,.ci .i64 q1 (-12) 12,.ci .i64 q2 (-12) 12,.ci .i64 q3 (-12) 12,.cw (za3 x1) (some (64,x1)),.cw (za3 x2) (some (64,x2)),.cw (za3 x3) (some (64,x3))])] 0 0 (.f .e)=some (treeO q0 q1 q2 q3 x1 x2 x3):=by kernel_rfl
theorem of_c {q0 q1 q2 q3:Int} {x1 x2 x3:Rat} (hv:VT q0 q1 q2 q3) (s1:RS 64 x1) (s2:RS 64 x2) (s3:RS 64 x3) (w:World) (hI:Tab w∧Mx w):
  Calls Tryz.prog 14 #[.agg #[.int .i64 q0,.int .i64 q1,.int .i64 q2,.int .i64 q3,.string ⟨(za3 x1).toArray⟩,.string ⟨(za3 x2).toArray⟩,.string ⟨(za3 x3).toArray⟩]] w fun e w'=>(∃ vs:List Value,e=.returned (.tuple #[.agg vs.toArray,.int .i64 0])∧IsRats w' vs (yl3 q0 q1 q2 q3 x1 x2 x3))∧Gr w w':=by
 have hl:LOK (fun v=>∃ l,v=.st [.vg l,.vc (.ci .i64 0 0 0)]∧rats l=some (oRaw q0 q1 q2 q3 x1 x2 x3)) (treeO q0 q1 q2 q3 x1 x2 x3):=⟨decide_eq_true (hv.chk 0),decide_eq_false (nn_ne hv),_,rfl,rfl⟩
 have tx:∀ {x},RS 64 x→(Cl.cw (za3 x) (some (64,x))).ok ⟨0,0,0⟩ (zU0 []) w:=fun h=>⟨rfl,fun k q e=>by cases e;exact ⟨rfl,h⟩⟩
 refine (zf8 sysO sysO_ok (runO q0 q1 q2 q3 x1 x2 x3) (X:=zU0 []) hI (okF1 (zm6 ⟨⟨rfl,hv.b0⟩,⟨rfl,hv.b1⟩,⟨rfl,hv.b2⟩,⟨rfl,hv.b3⟩,tx s1,tx s2,tx s3,trivial⟩)) hl).mono fun e w' he=>?_
 obtain ⟨v,X',n,rfl,g,_,hv',l,rfl,hr⟩:=he
 have h:=zO7 hr (hv' (.vg l) (by simp))
 have rs:=fun k=>(roE_rs hv k).mono (show 50≤64 by decide)
 have one:=fun k=>@one_div (nN q0 q1 q2 q3) ((roN q0 q1 q2 q3 k:Int):Rat)
 exact ⟨⟨_,rfl,h.conv ⟨⟨one 0,rs 0,Nat.le_refl _⟩,⟨one 1,rs 1,Nat.le_refl _⟩,⟨one 2,rs 2,Nat.le_refl _⟩,⟨one 3,rs 3,Nat.le_refl _⟩,⟨one 4,rs 4,Nat.le_refl _⟩,⟨one 5,rs 5,Nat.le_refl _⟩,⟨one 6,rs 6,Nat.le_refl _⟩,⟨one 7,rs 7,Nat.le_refl _⟩,⟨one 8,rs 8,Nat.le_refl _⟩,⟨rfl,s1,Nat.le_refl _⟩,⟨rfl,s2,Nat.le_refl _⟩,⟨rfl,s3,Nat.le_refl _⟩,trivial⟩⟩,g⟩
def cOf:ConT:=fun args nr _=>match args with
 | [.so (.vg [.ci .i64 q0 _ _,.ci .i64 q1 _ _,.ci .i64 q2 _ _,.ci .i64 q3 _ _,c1,c2,c3])]=>match txC c1,txC c2,txC c3 with
  | some (k1,x1),some (k2,x2),some (k3,x3)=>tr (Nat.ble k1 64&&Nat.ble k2 64&&Nat.ble k3 64) (.as (decide (chk q0 q1 q2 q3 0=0)) (.leaf (.st [.vg (zs0 nr (yl3 q0 q1 q2 q3 x1 x2 x3)),.vc (.ci .i64 0 0 0)]) 12 0))
  | _,_,_=>none
 | _=>none
theorem yl4 {I:World→Prop} (hI:∀ w,I w→Tab w∧Mx w):ConOK Tryz.prog I 14 cOf:=by
 intro args E n w T hw ha hT hp
 unfold cOf at hT
 split at hT
 ·rename_i q0 _ _ q1 _ _ q2 _ _ q3 _ _ c1 c2 c3
  split at hT
  ·rename_i k1 x1 k2 x2 k3 x3 e1 e2 e3
   obtain ⟨hb,rfl⟩:=zd5 hT
   simp only [Bool.and_eq_true,Nat.ble_eq] at hb
   obtain ⟨⟨l1,l2⟩,l3⟩:=hb
   have g:=fun c hc=>ha _ (List.mem_singleton.2 rfl) c hc
   obtain ⟨d1,s1⟩:=zp2 e1 (g c1 (by simp))
   obtain ⟨d2,s2⟩:=zp2 e2 (g c2 (by simp))
   obtain ⟨d3,s3⟩:=zp2 e3 (g c3 (by simp))
   show Calls _ _ #[.agg #[.int .i64 q0,.int .i64 q1,.int .i64 q2,.int .i64 q3,c1.den E,c2.den E,c3.den E]] w _
   rw [d1,d2,d3]
   refine (of_c (chk_ok (of_decide_eq_true hp.1)).1 (s1.mono l1) (s2.mono l2) (s3.mono l3) w (hI w hw)).mono fun e w' he=>zH2 he
  ·cases hT
 ·cases hT
set_option maxRecDepth 100000 in
set_option maxHeartbeats 1000000 in
theorem sum_4 {k:Nat} {ab:Nat} {u0 u1 u2 u3:Value} {a:Rat} {v0 v1 v2 v3:Value} {b:Rat} {x0 x1 x2 x3:Value} {c:Rat} {z0 z1 z2 z3:Value} {d:Rat} {w:World} (ha:IsRat w k u0 u1 u2 u3 a) (hb:IsRat w k v0 v1 v2 v3 b) (hc:IsRat w k x0 x1 x2 x3 c) (hd:IsRat w k z0 z1 z2 z3 d) (hL:Lc w ab #[u0,u1,u2,u3,v0,v1,v2,v3,x0,x1,x2,x3,z0,z1,z2,z3] 36) (_hk:k≤20000):
    Calls Tryz.prog 83 #[(.slice (some ⟨ab,0,none⟩) 4 4)] w fun e w'=>(∃ z0 z1 z2 z3,e=.returned (.agg #[z0,z1,z2,z3])∧IsRat w' ((((64+k+1)+k+1)+k+1)+k+1) z0 z1 z2 z3 (((((0+a)+b)+c)+d)))∧Gr w w':=by
 have hbig:=ha.big
 go_enter Tryz.func83,Tryz.ntmps83
 have hB:=Gr.refl w
 refine wp_seq_k (fun K1 k1=>?_)
 refine rg [0] ?_
 refine se ?_
 refine ea 36 #[.bool false,.slice none 0 0,.bool false,.slice none 0 0] 2 hB fun b2 w2 g2 L2 o2 q2 hB=>?_
 simp only [p3,p4]
 refine za0 ?_
 refine k1 _ _ ?_
 try clear k1 K1
 refine wp_seq_k (fun K3 k3=>?_)
 refine rg [0] ?_
 refine se ?_
 refine ea 36 #[.bool false,.slice none 0 0,.bool false,.slice none 0 0] 3 hB fun b4 w4 g4 L4 o4 q4 hB=>?_
 replace hL:=hL.gr g2
 have ad:=hL.ne o4
 have aa:=L2.ne o4
 simp only [p3,p4]
 refine za0 ?_
 refine k3 _ _ ?_
 try clear k3 K3
 refine wp_seq_k (fun K5 k5=>?_)
 refine wp_seq_k (fun K6 k6=>?_)
 refine rg [0,1,2] ?_
 refine sv 6 (.slice (some ⟨ab,0,none⟩) 4 4) ?_
 refine sv 7 (.int .i64 4) ?_
 refine sv 8 (.int .i64 0) ?_
 refine za0 ?_
 refine k6 _ _ ?_
 try clear k6 K6
 refine wp_block ?_
 refine wp_loop_rounds 5 ?_
 show Code.wp _ _ _ _ _
 refine wp_seq_k (fun K7 k7=>?_)
 refine rg [0] ?_
 refine sv 9 (.bool true) ?_
 refine za0 ?_
 refine k7 _ _ ?_
 try clear k7 K7
 refine wp_seq_k (fun K8 k8=>?_)
 refine wp_cond_true rfl ?_
 refine wp_skip ?_
 refine k8 _ _ ?_
 try clear k8 K8
 refine wp_seq_k (fun K9 k9=>?_)
 refine wp_block ?_
 refine wp_seq_k (fun b5 bz=>?_)
 refine rg [0,1,2,3] ?_
 refine sv 10 (.pointer (some ⟨ab,0,none⟩)) ?_
 replace hL:=hL.gr g4
 refine sw 11 (.agg #[u0,u1,u2,u3]) rfl (rl 36 0 [u0,u1,u2,u3] hL) ?_
 refine se ?_
 refine ea 36 #[.bool false,.slice none 0 0,.bool false,.slice none 0 0] 5 hB fun cJ co aI bb bo b7 hB=>?_
 have aL:=hL.ne bo
 replace L2:=L2.gr g4
 have aH:=L2.ne bo
 have aF:=L4.ne bo
 simp only [p3,p4]
 refine se ?_
 refine es 36 0 (.agg #[u0,u1,u2,u3]) [u0,u1,u2,u3] #[u0,u1,u2,u3] bb hB b7 ⟨ha.one0,ha.one1,ha.one2,ha.one3,trivial⟩ fun ce av ak bb hB=>?_
 refine za0 ?_
 refine bz _ _ ?_
 try clear bz b5
 refine rg [0,1,2,3] ?_
 replace L4:=av.lc (L4.gr aI) aF
 refine sw 12 (.agg #[.bool false,.slice none 0 0,.bool false,.slice none 0 0]) rfl (rl 36 0 [.bool false,.slice none 0 0,.bool false,.slice none 0 0] L4) ?_
 refine sw 13 (.agg #[u0,u1,u2,u3]) rfl (rl 36 0 [u0,u1,u2,u3] bb) ?_
 refine se ?_
 have bj:=g2.kp.trans (g4.kp.trans (aI.kp.trans ak))
 replace ha:=ha.kp bj
 refine ec 14 (zi7 (IsRat.zero _ (k:=64) (Nat.le_refl _)) ha (by omega)) ?_
 rintro e13 cn ⟨⟨aR,aP,aV,a6,rfl,aM⟩,aE⟩
 refine ⟨_,rfl,?_⟩
 replace hB:=hB.trans aE
 simp only [p3,p4]
 refine se ?_
 replace L4:=L4.gr aE
 refine es 36 0 (.agg #[aR,aP,aV,a6]) [aR,aP,aV,a6] #[aR,aP,aV,a6] L4 hB q4 ⟨aM.one0,aM.one1,aM.one2,aM.one3,trivial⟩ fun cg a2 ae L4 hB=>?_
 refine za0 ?_
 refine k9 _ _ ?_
 try clear k9 K9
 refine rg [0,1] ?_
 refine sv 15 (.int .i64 1) ?_
 refine sv 8 (.int .i64 1) ?_
 refine za0 ?_
 show Code.rounds _ _ _ _ _ _
 show Code.wp _ _ _ _ _
 refine wp_seq_k (fun bY bJ=>?_)
 refine rg [0] ?_
 refine sv 9 (.bool true) ?_
 refine za0 ?_
 refine bJ _ _ ?_
 try clear bJ bY
 refine wp_seq_k (fun cd bF=>?_)
 refine wp_cond_true rfl ?_
 refine wp_skip ?_
 refine bF _ _ ?_
 try clear bF cd
 refine wp_seq_k (fun bP bE=>?_)
 refine wp_block ?_
 refine wp_seq_k (fun b9 bB=>?_)
 refine rg [0,1,2,3] ?_
 refine sv 10 (.pointer (some ⟨ab,4,none⟩)) ?_
 replace hL:=a2.lc ((av.lc (hL.gr aI) aL).gr aE) ad
 refine sw 11 (.agg #[v0,v1,v2,v3]) rfl (rl 36 4 [v0,v1,v2,v3] hL) ?_
 refine se ?_
 refine ea 36 #[.bool false,.slice none 0 0,.bool false,.slice none 0 0] 5 hB fun cu cA aK bn a9 cc hB=>?_
 have aw:=hL.ne a9
 replace L2:=a2.lc ((av.lc (L2.gr aI) aH).gr aE) aa
 have aG:=L2.ne a9
 have ax:=L4.ne a9
 simp only [p3,p4]
 refine se ?_
 refine es 36 0 (.agg #[v0,v1,v2,v3]) [v0,v1,v2,v3] #[v0,v1,v2,v3] bn hB cc ⟨hb.one0,hb.one1,hb.one2,hb.one3,trivial⟩ fun cq az al bn hB=>?_
 refine za0 ?_
 refine bB _ _ ?_
 try clear bB b9
 refine rg [0,1,2,3] ?_
 replace L4:=az.lc (L4.gr aK) ax
 refine sw 12 (.agg #[aR,aP,aV,a6]) rfl (rl 36 0 [aR,aP,aV,a6] L4) ?_
 refine sw 13 (.agg #[v0,v1,v2,v3]) rfl (rl 36 0 [v0,v1,v2,v3] bn) ?_
 refine se ?_
 have bk:=ae.trans (aK.kp.trans al)
 replace aM:=aM.kp bk
 have bg:=g2.kp.trans (g4.kp.trans (aI.kp.trans (ak.trans (aE.kp.trans (ae.trans (aK.kp.trans al))))))
 replace hb:=hb.kp bg
 refine ec 14 (zi7 aM hb (by omega)) ?_
 rintro e22 cG ⟨⟨a4,aS,a5,a1,rfl,aA⟩,aO⟩
 refine ⟨_,rfl,?_⟩
 replace hB:=hB.trans aO
 simp only [p3,p4]
 refine se ?_
 replace L4:=L4.gr aO
 refine es 36 0 (.agg #[a4,aS,a5,a1]) [a4,aS,a5,a1] #[a4,aS,a5,a1] L4 hB q4 ⟨aA.one0,aA.one1,aA.one2,aA.one3,trivial⟩ fun cj a0 aq L4 hB=>?_
 refine za0 ?_
 refine bE _ _ ?_
 try clear bE bP
 refine rg [0,1] ?_
 refine sv 15 (.int .i64 2) ?_
 refine sv 8 (.int .i64 2) ?_
 refine za0 ?_
 show Code.rounds _ _ _ _ _ _
 show Code.wp _ _ _ _ _
 refine wp_seq_k (fun bS bL=>?_)
 refine rg [0] ?_
 refine sv 9 (.bool true) ?_
 refine za0 ?_
 refine bL _ _ ?_
 try clear bL bS
 refine wp_seq_k (fun ca bM=>?_)
 refine wp_cond_true rfl ?_
 refine wp_skip ?_
 refine bM _ _ ?_
 try clear bM ca
 refine wp_seq_k (fun bO bG=>?_)
 refine wp_block ?_
 refine wp_seq_k (fun bR bA=>?_)
 refine rg [0,1,2,3] ?_
 refine sv 10 (.pointer (some ⟨ab,8,none⟩)) ?_
 replace hL:=a0.lc ((az.lc (hL.gr aK) aw).gr aO) ad
 refine sw 11 (.agg #[x0,x1,x2,x3]) rfl (rl 36 8 [x0,x1,x2,x3] hL) ?_
 refine se ?_
 refine ea 36 #[.bool false,.slice none 0 0,.bool false,.slice none 0 0] 5 hB fun cE cB aN bm bu b8 hB=>?_
 have au:=hL.ne bu
 replace L2:=a0.lc ((az.lc (L2.gr aK) aG).gr aO) aa
 have aD:=L2.ne bu
 have ar:=L4.ne bu
 simp only [p3,p4]
 refine se ?_
 refine es 36 0 (.agg #[x0,x1,x2,x3]) [x0,x1,x2,x3] #[x0,x1,x2,x3] bm hB b8 ⟨hc.one0,hc.one1,hc.one2,hc.one3,trivial⟩ fun cD ap aC bm hB=>?_
 refine za0 ?_
 refine bA _ _ ?_
 try clear bA bR
 refine rg [0,1,2,3] ?_
 replace L4:=ap.lc (L4.gr aN) ar
 refine sw 12 (.agg #[a4,aS,a5,a1]) rfl (rl 36 0 [a4,aS,a5,a1] L4) ?_
 refine sw 13 (.agg #[x0,x1,x2,x3]) rfl (rl 36 0 [x0,x1,x2,x3] bm) ?_
 refine se ?_
 have bc:=aq.trans (aN.kp.trans aC)
 replace aA:=aA.kp bc
 have bi:=g2.kp.trans (g4.kp.trans (aI.kp.trans (ak.trans (aE.kp.trans (ae.trans (aK.kp.trans (al.trans (aO.kp.trans (aq.trans (aN.kp.trans aC))))))))))
 replace hc:=hc.kp bi
 refine ec 14 (zi7 aA hc (by omega)) ?_
 rintro e32 cy ⟨⟨aU,aW,aZ,aQ,rfl,ay⟩,aT⟩
 refine ⟨_,rfl,?_⟩
 replace hB:=hB.trans aT
 simp only [p3,p4]
 refine se ?_
 replace L4:=L4.gr aT
 refine es 36 0 (.agg #[aU,aW,aZ,aQ]) [aU,aW,aZ,aQ] #[aU,aW,aZ,aQ] L4 hB q4 ⟨ay.one0,ay.one1,ay.one2,ay.one3,trivial⟩ fun ct a7 aX L4 hB=>?_
 refine za0 ?_
 refine bG _ _ ?_
 try clear bG bO
 refine rg [0,1] ?_
 refine sv 15 (.int .i64 3) ?_
 refine sv 8 (.int .i64 3) ?_
 refine za0 ?_
 show Code.rounds _ _ _ _ _ _
 show Code.wp _ _ _ _ _
 refine wp_seq_k (fun bV bC=>?_)
 refine rg [0] ?_
 refine sv 9 (.bool true) ?_
 refine za0 ?_
 refine bC _ _ ?_
 try clear bC bV
 refine wp_seq_k (fun b6 bN=>?_)
 refine wp_cond_true rfl ?_
 refine wp_skip ?_
 refine bN _ _ ?_
 try clear bN b6
 refine wp_seq_k (fun bX bH=>?_)
 refine wp_block ?_
 refine wp_seq_k (fun bU bK=>?_)
 refine rg [0,1,2,3] ?_
 refine sv 10 (.pointer (some ⟨ab,12,none⟩)) ?_
 replace hL:=a7.lc ((ap.lc (hL.gr aN) au).gr aT) ad
 refine sw 11 (.agg #[z0,z1,z2,z3]) rfl (rl 36 12 [z0,z1,z2,z3] hL) ?_
 refine se ?_
 refine ea 36 #[.bool false,.slice none 0 0,.bool false,.slice none 0 0] 5 hB fun cK cm a8 bd bD bQ hB=>?_
 replace L2:=a7.lc ((ap.lc (L2.gr aN) aD).gr aT) aa
 have aB:=L2.ne bD
 have aJ:=L4.ne bD
 simp only [p3,p4]
 refine se ?_
 refine es 36 0 (.agg #[z0,z1,z2,z3]) [z0,z1,z2,z3] #[z0,z1,z2,z3] bd hB bQ ⟨hd.one0,hd.one1,hd.one2,hd.one3,trivial⟩ fun cC aY a3 bd hB=>?_
 refine za0 ?_
 refine bK _ _ ?_
 try clear bK bU
 refine rg [0,1,2,3] ?_
 replace L4:=aY.lc (L4.gr a8) aJ
 refine sw 12 (.agg #[aU,aW,aZ,aQ]) rfl (rl 36 0 [aU,aW,aZ,aQ] L4) ?_
 refine sw 13 (.agg #[z0,z1,z2,z3]) rfl (rl 36 0 [z0,z1,z2,z3] bd) ?_
 refine se ?_
 have bp:=aX.trans (a8.kp.trans a3)
 replace ay:=ay.kp bp
 have bf:=g2.kp.trans (g4.kp.trans (aI.kp.trans (ak.trans (aE.kp.trans (ae.trans (aK.kp.trans (al.trans (aO.kp.trans (aq.trans (aN.kp.trans (aC.trans (aT.kp.trans (aX.trans (a8.kp.trans a3))))))))))))))
 replace hd:=hd.kp bf
 refine ec 14 (zi7 ay hd (by omega)) ?_
 rintro cH cx ⟨⟨ai,af,ah,aj,rfl,ac⟩,bq⟩
 refine ⟨_,rfl,?_⟩
 replace hB:=hB.trans bq
 simp only [p3,p4]
 refine se ?_
 replace L4:=L4.gr bq
 refine es 36 0 (.agg #[ai,af,ah,aj]) [ai,af,ah,aj] #[ai,af,ah,aj] L4 hB q4 ⟨ac.one0,ac.one1,ac.one2,ac.one3,trivial⟩ fun cF bt bh L4 hB=>?_
 refine za0 ?_
 refine bH _ _ ?_
 try clear bH bX
 refine rg [0,1] ?_
 refine sv 15 (.int .i64 4) ?_
 refine sv 8 (.int .i64 4) ?_
 refine za0 ?_
 show Code.rounds _ _ _ _ _ _
 show Code.wp _ _ _ _ _
 refine wp_seq_k (fun bZ bx=>?_)
 refine rg [0] ?_
 refine sv 9 (.bool false) ?_
 refine za0 ?_
 refine bx _ _ ?_
 try clear bx bZ
 refine wp_seq_k (fun ch cl=>?_)
 refine wp_cond_false rfl ?_
 refine wp_exit ?_
 simp only [Exit.then,Exit.inBlock,↓reduceIte]
 refine k5 _ _ ?_
 try clear k5 K5
 refine wp_seq_k (fun bW bw=>?_)
 refine rg [0,1] ?_
 refine sw 16 (.agg #[ai,af,ah,aj]) rfl (rl 36 0 [ai,af,ah,aj] L4) ?_
 refine se ?_
 replace L2:=bt.lc ((aY.lc (L2.gr a8) aB).gr bq) aa
 refine es 36 0 (.agg #[ai,af,ah,aj]) [ai,af,ah,aj] #[ai,af,ah,aj] L2 hB q2 ⟨ac.one0,ac.one1,ac.one2,ac.one3,trivial⟩ fun ck bT bv L2 hB=>?_
 refine za0 ?_
 refine bw _ _ ?_
 try clear bw bW
 refine wp_ret ?_
 refine bodyPost_ret (v:=(.agg #[ai,af,ah,aj])) (zb0 _ _ _ rfl rfl L2 (by kernel_rfl)) rfl ⟨?_,hB⟩
 have ba:=bh.trans bv
 replace ac:=ac.kp ba
 exact ⟨_,_,_,_,rfl,ac⟩

set_option maxRecDepth 100000 in
set_option maxHeartbeats 16000000 in
theorem mturnq {k ks:Nat} {az ax ac ap aO aC aH aM aD aI aE aT aV aK aF aP aq al ak ad aJ aQ aG aY aZ aU aN aL aX aW aS aR aj ab aA aB a3 ba a4 bc a1 a6 a9 a7 a5 bb a8 a2:Value} {bC dM dH dL bQ dN dJ dK bD ha gG gZ:Rat} {w:World} (av:IsRat w k az ax ac ap bC) (ah:IsRat w k aO aC aH aM dM) (ay:IsRat w k aD aI aE aT dH) (af:IsRat w k aV aK aF aP dL) (ai:IsRat w k aq al ak ad bQ) (ar:IsRat w k aJ aQ aG aY dN) (ae:IsRat w k aZ aU aN aL dJ) (aw:IsRat w k aX aW aS aR dK) (au:IsRat w k aj ab aA aB bD) (bg:IsRat w ks a3 ba a4 bc ha) (bf:IsRat w ks a1 a6 a9 a7 gG) (bd:IsRat w ks a5 bb a8 a2 gZ) (_hk:k≤800) (dI:64≤k):
    Calls Tryz.prog 67 #[(.agg #[az,ax,ac,ap,aO,aC,aH,aM,aD,aI,aE,aT,aV,aK,aF,aP,aq,al,ak,ad,aJ,aQ,aG,aY,aZ,aU,aN,aL,aX,aW,aS,aR,aj,ab,aA,aB,a3,ba,a4,bc,a1,a6,a9,a7,a5,bb,a8,a2])] w fun e w'=>(∃ t0 t1 t2 t3 t4 t5 t6 t7,e=.returned (.agg #[t0,t1,t2,t3,t4,t5,t6,t7])∧IsInt w' (40128) t0 t1 (wzq (zH8 bC dM dH dL bQ dN dJ dK bD) 0)∧IsInt w' (40128) t2 t3 (wzq (zH8 bC dM dH dL bQ dN dJ dK bD) 1)∧IsInt w' (40128) t4 t5 (wzq (zH8 bC dM dH dL bQ dN dJ dK bD) 2)∧IsInt w' (40128) t6 t7 (wzq (zH8 bC dM dH dL bQ dN dJ dK bD) 3))∧Gr w w':=by
 have hmaone:One1 [az,ax,ac,ap,aO,aC,aH,aM,aD,aI,aE,aT,aV,aK,aF,aP,aq,al,ak,ad,aJ,aQ,aG,aY,aZ,aU,aN,aL,aX,aW,aS,aR,aj,ab,aA,aB,a3,ba,a4,bc,a1,a6,a9,a7,a5,bb,a8,a2]:=⟨av.one0,av.one1,av.one2,av.one3,ah.one0,ah.one1,ah.one2,ah.one3,ay.one0,ay.one1,ay.one2,ay.one3,af.one0,af.one1,af.one2,af.one3,ai.one0,ai.one1,ai.one2,ai.one3,ar.one0,ar.one1,ar.one2,ar.one3,ae.one0,ae.one1,ae.one2,ae.one3,aw.one0,aw.one1,aw.one2,aw.one3,au.one0,au.one1,au.one2,au.one3,bg.one0,bg.one1,bg.one2,bg.one3,bf.one0,bf.one1,bf.one2,bf.one3,bd.one0,bd.one1,bd.one2,bd.one3,trivial⟩
 refine enterN Tryz.func67 rfl ?_
 simp only [Tryz.ntmps67,List.size_toArray,List.length_cons,List.length_nil,Nat.reduceAdd,Nat.reduceSub,Array.replicate_succ,Array.replicate_zero,List.push_toArray,List.append_toArray,List.nil_append,List.cons_append]
 have hB:=Gr.refl w
 refine wp_seq_k (fun K1 k1=>?_)
 refine rg [0,1] ?_
 refine se ?_
 refine eb 41 #[az,ax,ac,ap,aO,aC,aH,aM,aD,aI,aE,aT,aV,aK,aF,aP,aq,al,ak,ad,aJ,aQ,aG,aY,aZ,aU,aN,aL,aX,aW,aS,aR,aj,ab,aA,aB,a3,ba,a4,bc,a1,a6,a9,a7,a5,bb,a8,a2] 1 hB fun b2 w2 g2 L2 o2 q2 hB=>?_
 simp only [p3,p4]
 refine se ?_
 refine ea 125 #[.bool false,.slice none 0 0,.bool false,.slice none 0 0,.bool false,.slice none 0 0,.bool false,.slice none 0 0] 2 hB fun b3 w3 g3 L3 o3 q3 hB=>?_
 simp only [p3,p4]
 refine za0 ?_
 refine k1 _ _ ?_
 try clear k1 K1
 refine wp_seq_k (fun K4 k4=>?_)
 refine rg [0] ?_
 refine se ?_
 refine ea 156 #[.bool false,.slice none 0 0,.bool false,.slice none 0 0,.bool false,.slice none 0 0,.bool false,.slice none 0 0,.bool false,.slice none 0 0,.bool false,.slice none 0 0,.bool false,.slice none 0 0,.bool false,.slice none 0 0,.bool false,.slice none 0 0,.bool false,.slice none 0 0,.bool false,.slice none 0 0,.bool false,.slice none 0 0,.bool false,.slice none 0 0,.bool false,.slice none 0 0,.bool false,.slice none 0 0,.bool false,.slice none 0 0,.bool false,.slice none 0 0,.bool false,.slice none 0 0] 3 hB fun b5 w5 g5 L5 o5 q5 hB=>?_
 replace L2:=L2.gr g3
 have gw:=L2.ne o5
 have gx:=L3.ne o5
 simp only [p3,p4]
 refine za0 ?_
 refine k4 _ _ ?_
 try clear k4 K4
 refine wp_seq_k (fun K6 k6=>?_)
 refine wp_seq_k (fun K7 k7=>?_)
 refine rg [0,1] ?_
 replace L2:=L2.gr g5
 refine sw 9 (.agg #[az,ax,ac,ap,aO,aC,aH,aM,aD,aI,aE,aT,aV,aK,aF,aP,aq,al,ak,ad,aJ,aQ,aG,aY,aZ,aU,aN,aL,aX,aW,aS,aR,aj,ab,aA,aB,a3,ba,a4,bc,a1,a6,a9,a7,a5,bb,a8,a2]) rfl (rl 41 0 [az,ax,ac,ap,aO,aC,aH,aM,aD,aI,aE,aT,aV,aK,aF,aP,aq,al,ak,ad,aJ,aQ,aG,aY,aZ,aU,aN,aL,aX,aW,aS,aR,aj,ab,aA,aB,a3,ba,a4,bc,a1,a6,a9,a7,a5,bb,a8,a2] L2) ?_
 refine se ?_
 refine ec 10 (ments _ av.one0 av.one1 av.one2 av.one3 ah.one0 ah.one1 ah.one2 ah.one3 ay.one0 ay.one1 ay.one2 ay.one3 af.one0 af.one1 af.one2 af.one3 ai.one0 ai.one1 ai.one2 ai.one3 ar.one0 ar.one1 ar.one2 ar.one3 ae.one0 ae.one1 ae.one2 ae.one3 aw.one0 aw.one1 aw.one2 aw.one3 au.one0 au.one1 au.one2 au.one3 bg.one0 bg.one1 bg.one2 bg.one3 bf.one0 bf.one1 bf.one2 bf.one3 bd.one0 bd.one1 bd.one2 bd.one3) ?_
 rintro e8 w8 ⟨⟨iq,rfl,gT⟩,g8⟩
 refine ⟨_,rfl,?_⟩
 replace hB:=hB.trans g8
 simp only [p3,p4]
 refine za0 ?_
 refine k7 _ _ ?_
 try clear k7 K7
 refine wp_block ?_
 replace L2:=L2.gr g8
 replace L3:=L3.gr (g5.trans g8)
 replace L5:=L5.gr g8
 refine ys2 (Ds:=[]) (d1:=4) (d2:=5) (zD2 _ iq az ax ac ap aO aC aH aM aD aI aE aT aV aK aF aP aq al ak ad aJ aQ aG aY aZ aU aN aL aX aW aS aR aj ab aA aB a3 ba a4 bc a1 a6 a9 a7 a5 bb a8 a2 av.one0 av.one1 av.one2 av.one3 ah.one0 ah.one1 ah.one2 ah.one3 ay.one0 ay.one1 ay.one2 ay.one3 af.one0 af.one1 af.one2 af.one3 ai.one0 ai.one1 ai.one2 ai.one3 ar.one0 ar.one1 ar.one2 ar.one3 ae.one0 ae.one1 ae.one2 ae.one3 aw.one0 aw.one1 aw.one2 aw.one3 au.one0 au.one1 au.one2 au.one3 bg.one0 bg.one1 bg.one2 bg.one3 bf.one0 bf.one1 bf.one2 bf.one3 bd.one0 bd.one1 bd.one2 bd.one3 _ gT) (fun prs W'=>Gr w W'∧Kp w8 W'∧Lc W' b2 #[az,ax,ac,ap,aO,aC,aH,aM,aD,aI,aE,aT,aV,aK,aF,aP,aq,al,ak,ad,aJ,aQ,aG,aY,aZ,aU,aN,aL,aX,aW,aS,aR,aj,ab,aA,aB,a3,ba,a4,bc,a1,a6,a9,a7,a5,bb,a8,a2] 41∧Lc W' b3 #[.bool false,.slice none 0 0,.bool false,.slice none 0 0,.bool false,.slice none 0 0,.bool false,.slice none 0 0] 125∧∃ xs,Fills 9 [az,ax,ac,ap,aO,aC,aH,aM,aD,aI,aE,aT,aV,aK,aF,aP,aq,al,ak,ad,aJ,aQ,aG,aY,aZ,aU,aN,aL,aX,aW,aS,aR,aj,ab,aA,aB,a3,ba,a4,bc,a1,a6,a9,a7,a5,bb,a8,a2] prs xs∧Lc W' b5 xs.toArray 156) (fun _ _ _=>False) ((yd3 hB.size).and ((zZ8 _ _).and ((zj4 _ _ _ _).and ((zj4 _ _ _ _).and (ys0 fun xs=>(ownFrom_pure _ _).and (zj4 _ _ _ _)))))) (fun _ _ _ _ _ h _ _=>h) ⟨hB,Kp.refl _,L2,L3,⟨_,⟨rfl,zL5 (by decide),fun _ h=>absurd h (by simp)⟩,L5⟩⟩ ?_ ?_ ?_ ?_ rfl (enters_of Tryz.func98 (by kernel_rfl) rfl)
 ·intro ll kk W K hK
  try simp only [p3,p4]
  refine wpIn_seq_k (fun K1 k1=>?_)
  refine rgI (zd6 ll) [0] ?_
  refine sv 4 (.int .i64 (kk.val:Int)) ?_
  try simp only [p3,p4]
  refine za0 ?_
  refine k1 _ _ ?_
  refine rgY [0,1] ?_
  refine zk9 (zd6 ll) 5 36 (.agg #[.bool false,.slice none 0 0,.bool false,.slice none 0 0]) (ent [az,ax,ac,ap,aO,aC,aH,aM,aD,aI,aE,aT,aV,aK,aF,aP,aq,al,ak,ad,aJ,aQ,aG,aY,aZ,aU,aN,aL,aX,aW,aS,aR,aj,ab,aA,aB,a3,ba,a4,bc,a1,a6,a9,a7,a5,bb,a8,a2] kk) ?_ (zw8 hmaone rfl kk)
  try simp only [p3,p4]
  refine zc6 ?_
  exact hK
 ·rintro ll bB prs kk W ⟨hB,hkW,L2,L3,xs,hF,L5⟩ hqB hLB
  try simp only [p3,p4]
  refine wpIn_block ?_
  refine wpIn_seq_k (fun K1 k1=>?_)
  refine rgI (zd6 ll) [0,1] ?_
  refine sv 13 (.int .i64 (kk.val:Int)) ?_
  try simp only [p3,p4]
  refine sv 14 (.bool (decide ((kk.val:Int)<9))) ?_
  try simp only [p3,p4]
  refine za0 ?_
  refine k1 _ _ ?_
  clear k1 K1
  refine wpIn_cond_split rfl (fun hb=>?_) (fun hb=>?_)
  ·have hlt:kk.val<9:=by have:=of_decide_eq_true hb;omega
   refine rgI (zd6 ll) [0,1,2,3] ?_
   refine sv 15 (.int .i64 (kk.val:Int)) ?_
   try simp only [p3,p4]
   refine sw 16 (.agg (ent [az,ax,ac,ap,aO,aC,aH,aM,aD,aI,aE,aT,aV,aK,aF,aP,aq,al,ak,ad,aJ,aQ,aG,aY,aZ,aU,aN,aL,aX,aW,aS,aR,aj,ab,aA,aB,a3,ba,a4,bc,a1,a6,a9,a7,a5,bb,a8,a2] kk).toArray) rfl (rl 36 0 (ent [az,ax,ac,ap,aO,aC,aH,aM,aD,aI,aE,aT,aV,aK,aF,aP,aq,al,ak,ad,aJ,aQ,aG,aY,aZ,aU,aN,aL,aX,aW,aS,aR,aj,ab,aA,aB,a3,ba,a4,bc,a1,a6,a9,a7,a5,bb,a8,a2] kk) hLB) ?_
   try simp only [p3,p4]
   refine sw 17 (.pointer (some ⟨b5,4*kk.val,none⟩)) rfl (yk3 156 _ _ b5 9 36 4 kk.val hlt) ?_
   try simp only [p3,p4]
   obtain ⟨ys,hys,iF⟩:=hF.step hmaone rfl hlt
   refine se ?_
   refine es 36 (4*kk.val) _ (ent [az,ax,ac,ap,aO,aC,aH,aM,aD,aI,aE,aT,aV,aK,aF,aP,aq,al,ak,ad,aJ,aQ,aG,aY,aZ,aU,aN,aL,aX,aW,aS,aR,aj,ab,aA,aB,a3,ba,a4,bc,a1,a6,a9,a7,a5,bb,a8,a2] kk) ys.toArray L5 hB q5 (zw8 hmaone rfl kk) ?_ (hoff:=by simp [hF.len,ent];omega) (hcs:=hys)
   intro w1 st kp N g
   refine za0 ?_
   have ho:=zF5 st L5 (Nat.le_of_eq (by rw [st.size]))
   exact ⟨ho.from _,ho.walks,g,hkW.trans kp,st.lc L2 gw,st.lc L3 gx,ys,iF,N⟩
  ·have hlt:¬ kk.val<9:=by have:=of_decide_eq_false hb;omega
   refine wpIn_skip ?_
   exact ⟨(KeepsOthers.refl _).from _,KeepsWalks.refl _,hB,hkW,L2,L3,xs,hF.skip hlt,L5⟩
 ·rintro D9 w9 Q9 ⟨ib,gB,iI,g9,xs,hF,gO⟩ L9
  have ik:=hF.done (by decide) rfl
  subst ik
  clear hF
  have dB:=L3.ne Q9
  replace Q9:=Nat.le_trans (Below.size hB) Q9
  replace hB:=ib
  replace L3:=g9
  replace L5:=gO
  change IsMk w9 D9 at L9
  change Lc w9 b5 #[az,ax,ac,ap,aO,aC,aH,aM,aD,aI,aE,aT,aV,aK,aF,aP,aq,al,ak,ad,aJ,aQ,aG,aY,aZ,aU,aN,aL,aX,aW,aS,aR,aj,ab,aA,aB] 156 at L5
  refine k6 _ _ ?_
  try clear k6 K6
  refine wp_seq_k (fun il hA=>?_)
  refine rg [0,1,2] ?_
  refine se ?_
  refine ec 18 (zQ2 (1) (by omega) (by omega) _) ?_
  rintro e11 jq ⟨⟨dD,dF,dC,dE,rfl,du⟩,ei⟩
  refine ⟨_,rfl,?_⟩
  replace hB:=hB.trans ei
  simp only [p3,p4]
  refine se ?_
  refine ea 36 #[.bool false,.slice none 0 0,.bool false,.slice none 0 0] 6 hB fun hG jI eh aa g0 q12 hB=>?_
  replace L3:=L3.gr ei
  have eE:=L3.ne g0
  replace L5:=L5.gr ei
  have eP:=L5.ne g0
  replace L9:=L9.gr ei
  have eQ:=L9.ne g0
  simp only [p3,p4]
  refine se ?_
  refine es 36 0 (.agg #[dD,dF,dC,dE]) [dD,dF,dC,dE] #[dD,dF,dC,dE] aa hB q12 ⟨du.one0,du.one1,du.one2,du.one3,trivial⟩ fun iL fm dG aa hB=>?_
  refine za0 ?_
  refine hA _ _ ?_
  try clear hA il
  refine wp_seq_k (fun h3 hI=>?_)
  have hd:=Below.size hB
  replace L3:=fm.lc (L3.gr eh) eE
  have eN:=L3.lt
  replace L5:=fm.lc (L5.gr eh) eP
  have fH:=L5.lt
  have dU:=aa.lt
  replace L9:=(L9.gr eh).st fm eQ
  have ek:=L9.lt
  have cA:=Gr.drew iL
  replace hB:=hB.trans cA
  replace L5:=L5.gr cA
  replace aa:=aa.gr cA
  refine zj7 (fun w'=>Lc w' b5 #[az,ax,ac,ap,aO,aC,aH,aM,aD,aI,aE,aT,aV,aK,aF,aP,aq,al,ak,ad,aJ,aQ,aG,aY,aZ,aU,aN,aL,aX,aW,aS,aR,aj,ab,aA,aB] 156∧Lc w' hG #[dD,dF,dC,dE] 36) [(true,0),(true,1),(true,2),(true,3),(true,4),(true,5),(true,6),(true,9),(true,10),(true,11),(true,12),(true,14),(true,15),(true,16),(true,17),(true,19),(true,20),(true,21),(true,22),(true,25),(true,26),(true,27),(true,28),(true,30),(true,31),(true,32),(true,34),(true,35),(true,36),(true,37),(true,40),(true,41),(true,42),(true,43),(true,45),(true,46),(true,47),(true,48),(true,51),(true,52),(true,53),(true,54),(true,56),(true,57),(true,58),(true,59),(true,61),(true,62),(true,63),(true,65),(true,66),(true,67),(true,68),(true,71),(true,72),(true,73),(true,74),(true,77),(true,78),(true,79),(true,80),(true,82),(true,83),(true,84),(true,85),(true,87),(true,88),(true,89),(true,90),(true,92),(true,93),(true,94),(true,96),(true,97),(true,98),(true,99),(false,7),(false,8),(false,13),(false,18),(false,23),(true,24),(false,29),(false,33),(false,38),(false,39),(false,44),(false,49),(true,50),(false,55),(false,60),(false,64),(false,69),(false,70),(false,75),(true,76),(false,81),(false,86),(false,91),(false,95),(false,100),(false,101),(true,102),(true,103)] [⟨104,7,158,#[.bool false,.slice none 0 0,.bool false,.slice none 0 0,.bool false,.slice none 0 0,.bool false,.slice none 0 0,.bool false,.slice none 0 0,.bool false,.slice none 0 0,.bool false,.slice none 0 0,.bool false,.slice none 0 0,.bool false,.slice none 0 0,.bool false,.slice none 0 0,.bool false,.slice none 0 0,.bool false,.slice none 0 0,.bool false,.slice none 0 0,.bool false,.slice none 0 0,.bool false,.slice none 0 0,.bool false,.slice none 0 0,.bool false,.slice none 0 0,.bool false,.slice none 0 0,.bool false,.slice none 0 0,.bool false,.slice none 0 0,.bool false,.slice none 0 0,.bool false,.slice none 0 0,.bool false,.slice none 0 0,.bool false,.slice none 0 0,.bool false,.slice none 0 0,.bool false,.slice none 0 0,.bool false,.slice none 0 0,.bool false,.slice none 0 0,.bool false,.slice none 0 0,.bool false,.slice none 0 0,.bool false,.slice none 0 0,.bool false,.slice none 0 0]⟩] [(false,105)] (by kernel_rfl) (by kernel_rfl) (by kernel_rfl) (by kernel_rfl) (by kernel_rfl) (by decide) (fun _ _ _ _ _ h=>h) (fun _ _ _ _ _ h=>h) (fun w' o h=>⟨Lc.gr h.1 (Gr.alloc w' o),Lc.gr h.2 (Gr.alloc w' o)⟩) ⟨L5,aa⟩ (by intro f hf;simp only [List.mem_cons,List.not_mem_nil,or_false] at hf;rcases hf with rfl<;>first | exact zq1 (z:=(.agg #[.bool false,.slice none 0 0,.bool false,.slice none 0 0,.bool false,.slice none 0 0,.bool false,.slice none 0 0,.bool false,.slice none 0 0,.bool false,.slice none 0 0,.bool false,.slice none 0 0,.bool false,.slice none 0 0,.bool false,.slice none 0 0,.bool false,.slice none 0 0,.bool false,.slice none 0 0,.bool false,.slice none 0 0,.bool false,.slice none 0 0,.bool false,.slice none 0 0,.bool false,.slice none 0 0,.bool false,.slice none 0 0,.bool false,.slice none 0 0,.bool false,.slice none 0 0,.bool false,.slice none 0 0,.bool false,.slice none 0 0,.bool false,.slice none 0 0,.bool false,.slice none 0 0,.bool false,.slice none 0 0,.bool false,.slice none 0 0,.bool false,.slice none 0 0,.bool false,.slice none 0 0,.bool false,.slice none 0 0,.bool false,.slice none 0 0,.bool false,.slice none 0 0,.bool false,.slice none 0 0,.bool false,.slice none 0 0,.bool false,.slice none 0 0])) (by kernel_rfl) rfl) ?_
  refine fw 19 (.agg #[dD,dF,dC,dE]) rfl (fun w' hS=>(rl 36 0 [dD,dF,dC,dE] hS.2)) ?_
  refine fv 20 (.pointer (some ⟨b5,0,none⟩)) ?_
  refine fw 21 (.agg #[az,ax,ac,ap]) rfl (fun w' hS=>(rl 36 0 [az,ax,ac,ap] hS.1)) ?_
  refine fv 22 (.pointer (some ⟨b5,16,none⟩)) ?_
  refine fw 23 (.agg #[aq,al,ak,ad]) rfl (fun w' hS=>(rl 36 16 [aq,al,ak,ad] hS.1)) ?_
  refine fv 24 (.pointer (some ⟨b5,32,none⟩)) ?_
  refine fw 25 (.agg #[aj,ab,aA,aB]) rfl (fun w' hS=>(rl 36 32 [aj,ab,aA,aB] hS.1)) ?_
  refine fv 28 (.pointer (some ⟨b5,28,none⟩)) ?_
  refine fw 29 (.agg #[aX,aW,aS,aR]) rfl (fun w' hS=>(rl 36 28 [aX,aW,aS,aR] hS.1)) ?_
  refine fv 30 (.pointer (some ⟨b5,20,none⟩)) ?_
  refine fw 31 (.agg #[aJ,aQ,aG,aY]) rfl (fun w' hS=>(rl 36 20 [aJ,aQ,aG,aY] hS.1)) ?_
  refine fv 33 (.pointer (some ⟨b5,8,none⟩)) ?_
  refine fw 34 (.agg #[aD,aI,aE,aT]) rfl (fun w' hS=>(rl 36 8 [aD,aI,aE,aT] hS.1)) ?_
  refine fv 35 (.pointer (some ⟨b5,24,none⟩)) ?_
  refine fw 36 (.agg #[aZ,aU,aN,aL]) rfl (fun w' hS=>(rl 36 24 [aZ,aU,aN,aL] hS.1)) ?_
  refine fv 38 (.pointer (some ⟨b5,12,none⟩)) ?_
  refine fw 39 (.agg #[aV,aK,aF,aP]) rfl (fun w' hS=>(rl 36 12 [aV,aK,aF,aP] hS.1)) ?_
  refine fv 40 (.pointer (some ⟨b5,4,none⟩)) ?_
  refine fw 41 (.agg #[aO,aC,aH,aM]) rfl (fun w' hS=>(rl 36 4 [aO,aC,aH,aM] hS.1)) ?_
  refine fv 44 (.pointer (some ⟨b5,28,none⟩)) ?_
  refine fw 45 (.agg #[aX,aW,aS,aR]) rfl (fun w' hS=>(rl 36 28 [aX,aW,aS,aR] hS.1)) ?_
  refine fv 46 (.pointer (some ⟨b5,20,none⟩)) ?_
  refine fw 47 (.agg #[aJ,aQ,aG,aY]) rfl (fun w' hS=>(rl 36 20 [aJ,aQ,aG,aY] hS.1)) ?_
  refine fw 49 (.agg #[dD,dF,dC,dE]) rfl (fun w' hS=>(rl 36 0 [dD,dF,dC,dE] hS.2)) ?_
  refine fv 50 (.pointer (some ⟨b5,0,none⟩)) ?_
  refine fw 51 (.agg #[az,ax,ac,ap]) rfl (fun w' hS=>(rl 36 0 [az,ax,ac,ap] hS.1)) ?_
  refine fv 53 (.pointer (some ⟨b5,16,none⟩)) ?_
  refine fw 54 (.agg #[aq,al,ak,ad]) rfl (fun w' hS=>(rl 36 16 [aq,al,ak,ad] hS.1)) ?_
  refine fv 55 (.pointer (some ⟨b5,32,none⟩)) ?_
  refine fw 56 (.agg #[aj,ab,aA,aB]) rfl (fun w' hS=>(rl 36 32 [aj,ab,aA,aB] hS.1)) ?_
  refine fv 59 (.pointer (some ⟨b5,4,none⟩)) ?_
  refine fw 60 (.agg #[aO,aC,aH,aM]) rfl (fun w' hS=>(rl 36 4 [aO,aC,aH,aM] hS.1)) ?_
  refine fv 61 (.pointer (some ⟨b5,12,none⟩)) ?_
  refine fw 62 (.agg #[aV,aK,aF,aP]) rfl (fun w' hS=>(rl 36 12 [aV,aK,aF,aP] hS.1)) ?_
  refine fv 64 (.pointer (some ⟨b5,8,none⟩)) ?_
  refine fw 65 (.agg #[aD,aI,aE,aT]) rfl (fun w' hS=>(rl 36 8 [aD,aI,aE,aT] hS.1)) ?_
  refine fv 66 (.pointer (some ⟨b5,24,none⟩)) ?_
  refine fw 67 (.agg #[aZ,aU,aN,aL]) rfl (fun w' hS=>(rl 36 24 [aZ,aU,aN,aL] hS.1)) ?_
  refine fv 70 (.pointer (some ⟨b5,8,none⟩)) ?_
  refine fw 71 (.agg #[aD,aI,aE,aT]) rfl (fun w' hS=>(rl 36 8 [aD,aI,aE,aT] hS.1)) ?_
  refine fv 72 (.pointer (some ⟨b5,24,none⟩)) ?_
  refine fw 73 (.agg #[aZ,aU,aN,aL]) rfl (fun w' hS=>(rl 36 24 [aZ,aU,aN,aL] hS.1)) ?_
  refine fv 75 (.pointer (some ⟨b5,4,none⟩)) ?_
  refine fw 76 (.agg #[aO,aC,aH,aM]) rfl (fun w' hS=>(rl 36 4 [aO,aC,aH,aM] hS.1)) ?_
  refine fv 77 (.pointer (some ⟨b5,12,none⟩)) ?_
  refine fw 78 (.agg #[aV,aK,aF,aP]) rfl (fun w' hS=>(rl 36 12 [aV,aK,aF,aP] hS.1)) ?_
  refine fw 80 (.agg #[dD,dF,dC,dE]) rfl (fun w' hS=>(rl 36 0 [dD,dF,dC,dE] hS.2)) ?_
  refine fv 81 (.pointer (some ⟨b5,16,none⟩)) ?_
  refine fw 82 (.agg #[aq,al,ak,ad]) rfl (fun w' hS=>(rl 36 16 [aq,al,ak,ad] hS.1)) ?_
  refine fv 84 (.pointer (some ⟨b5,0,none⟩)) ?_
  refine fw 85 (.agg #[az,ax,ac,ap]) rfl (fun w' hS=>(rl 36 0 [az,ax,ac,ap] hS.1)) ?_
  refine fv 86 (.pointer (some ⟨b5,32,none⟩)) ?_
  refine fw 87 (.agg #[aj,ab,aA,aB]) rfl (fun w' hS=>(rl 36 32 [aj,ab,aA,aB] hS.1)) ?_
  refine fv 90 (.pointer (some ⟨b5,20,none⟩)) ?_
  refine fw 91 (.agg #[aJ,aQ,aG,aY]) rfl (fun w' hS=>(rl 36 20 [aJ,aQ,aG,aY] hS.1)) ?_
  refine fv 92 (.pointer (some ⟨b5,28,none⟩)) ?_
  refine fw 93 (.agg #[aX,aW,aS,aR]) rfl (fun w' hS=>(rl 36 28 [aX,aW,aS,aR] hS.1)) ?_
  refine fv 96 (.pointer (some ⟨b5,12,none⟩)) ?_
  refine fw 97 (.agg #[aV,aK,aF,aP]) rfl (fun w' hS=>(rl 36 12 [aV,aK,aF,aP] hS.1)) ?_
  refine fv 98 (.pointer (some ⟨b5,4,none⟩)) ?_
  refine fw 99 (.agg #[aO,aC,aH,aM]) rfl (fun w' hS=>(rl 36 4 [aO,aC,aH,aM] hS.1)) ?_
  refine fv 101 (.pointer (some ⟨b5,8,none⟩)) ?_
  refine fw 102 (.agg #[aD,aI,aE,aT]) rfl (fun w' hS=>(rl 36 8 [aD,aI,aE,aT] hS.1)) ?_
  refine fv 103 (.pointer (some ⟨b5,24,none⟩)) ?_
  refine fw 104 (.agg #[aZ,aU,aN,aL]) rfl (fun w' hS=>(rl 36 24 [aZ,aU,aN,aL] hS.1)) ?_
  refine fv 106 (.pointer (some ⟨b5,20,none⟩)) ?_
  refine fw 107 (.agg #[aJ,aQ,aG,aY]) rfl (fun w' hS=>(rl 36 20 [aJ,aQ,aG,aY] hS.1)) ?_
  refine fv 108 (.pointer (some ⟨b5,28,none⟩)) ?_
  refine fw 109 (.agg #[aX,aW,aS,aR]) rfl (fun w' hS=>(rl 36 28 [aX,aW,aS,aR] hS.1)) ?_
  refine fw 111 (.agg #[dD,dF,dC,dE]) rfl (fun w' hS=>(rl 36 0 [dD,dF,dC,dE] hS.2)) ?_
  refine fv 112 (.pointer (some ⟨b5,32,none⟩)) ?_
  refine fw 113 (.agg #[aj,ab,aA,aB]) rfl (fun w' hS=>(rl 36 32 [aj,ab,aA,aB] hS.1)) ?_
  refine fv 115 (.pointer (some ⟨b5,0,none⟩)) ?_
  refine fw 116 (.agg #[az,ax,ac,ap]) rfl (fun w' hS=>(rl 36 0 [az,ax,ac,ap] hS.1)) ?_
  refine fv 117 (.pointer (some ⟨b5,16,none⟩)) ?_
  refine fw 118 (.agg #[aq,al,ak,ad]) rfl (fun w' hS=>(rl 36 16 [aq,al,ak,ad] hS.1)) ?_
  refine zc2 rfl rfl (fun jO dQ _ iN hE=>?_)
  replace hB:=hB.trans dQ
  refine yb5 36 4 #[dD,dF,dC,dE,az,ax,ac,ap,aq,al,ak,ad,aj,ab,aA,aB] (some 26) rfl (fun _=>by kernel_rfl) (fun jL jQ dn gC kx=>?_)
  replace L3:=L3.gr (cA.trans dQ)
  replace L5:=L5.gr dQ
  replace aa:=aa.gr dQ
  replace L9:=(L9.gr cA).gr dQ
  replace hB:=hB.trans dn
  replace L5:=L5.gr dn
  replace aa:=aa.gr dn
  refine hE _ _ dn ⟨L5,aa⟩ ?_
  try clear hE iN
  simp only [zB4,p3,p4]
  refine zc2 rfl rfl (fun j4 dm _ ii hQ=>?_)
  replace hB:=hB.trans dm
  replace gC:=gC.gr dm
  have hj:=eh.kp.trans (dG.trans (cA.kp.trans (dQ.kp.trans (dn.kp.trans dm.kp))))
  replace du:=du.kp hj
  have fI:=g2.kp.trans (g3.kp.trans (g5.kp.trans (g8.kp.trans (gB.trans (ei.kp.trans (eh.kp.trans (dG.trans (cA.kp.trans (dQ.kp.trans (dn.kp.trans dm.kp))))))))))
  replace av:=av.kp fI
  replace ai:=ai.kp fI
  replace au:=au.kp fI
  refine ec 27 (sum_4 (k:=k+64) (du.mono (by omega)) (av.mono (by omega)) (ai.mono (by omega)) (au.mono (by omega)) gC (by omega)) ?_
  rintro jy ji ⟨⟨d4,d7,dW,d0,rfl,dO⟩,dq⟩
  refine ⟨_,rfl,?_⟩
  replace hB:=hB.trans dq
  replace L5:=L5.gr (dm.trans dq)
  replace aa:=aa.gr (dm.trans dq)
  refine hQ _ _ dq ⟨L5,aa⟩ ?_
  try clear hQ ii
  simp only [p3,p4]
  refine zc2 rfl rfl (fun jA dp _ iQ hN=>?_)
  replace hB:=hB.trans dp
  have f4:=g2.kp.trans (g3.kp.trans (g5.kp.trans (g8.kp.trans (gB.trans (ei.kp.trans (eh.kp.trans (dG.trans (cA.kp.trans (dQ.kp.trans (dn.kp.trans (dm.kp.trans (dq.kp.trans dp.kp))))))))))))
  replace aw:=aw.kp f4
  replace ar:=ar.kp f4
  refine ec 32 (zt2 aw ar (by omega)) ?_
  rintro e23 iV ⟨⟨fc,eG,fj,ep,rfl,fk⟩,dl⟩
  refine ⟨_,rfl,?_⟩
  replace hB:=hB.trans dl
  replace L5:=L5.gr (dp.trans dl)
  replace aa:=aa.gr (dp.trans dl)
  refine hN _ _ dl ⟨L5,aa⟩ ?_
  try clear hN iQ
  simp only [p3,p4]
  refine zc2 rfl rfl (fun j8 dk _ iP hT=>?_)
  replace hB:=hB.trans dk
  have fN:=g2.kp.trans (g3.kp.trans (g5.kp.trans (g8.kp.trans (gB.trans (ei.kp.trans (eh.kp.trans (dG.trans (cA.kp.trans (dQ.kp.trans (dn.kp.trans (dm.kp.trans (dq.kp.trans (dp.kp.trans (dl.kp.trans dk.kp))))))))))))))
  replace ay:=ay.kp fN
  replace ae:=ae.kp fN
  refine ec 37 (zt2 ay ae (by omega)) ?_
  rintro kq kA ⟨⟨e1,eX,e2,eZ,rfl,e3⟩,c8⟩
  refine ⟨_,rfl,?_⟩
  replace hB:=hB.trans c8
  replace L5:=L5.gr (dk.trans c8)
  replace aa:=aa.gr (dk.trans c8)
  refine hT _ _ c8 ⟨L5,aa⟩ ?_
  try clear hT iP
  simp only [p3,p4]
  refine zc2 rfl rfl (fun jT cJ _ h1 hv=>?_)
  replace hB:=hB.trans cJ
  have f6:=g2.kp.trans (g3.kp.trans (g5.kp.trans (g8.kp.trans (gB.trans (ei.kp.trans (eh.kp.trans (dG.trans (cA.kp.trans (dQ.kp.trans (dn.kp.trans (dm.kp.trans (dq.kp.trans (dp.kp.trans (dl.kp.trans (dk.kp.trans (c8.kp.trans cJ.kp))))))))))))))))
  replace af:=af.kp f6
  replace ah:=ah.kp f6
  refine ec 42 (zt2 af ah (by omega)) ?_
  rintro km iZ ⟨⟨ez,fK,ff,fb,rfl,e6⟩,cB⟩
  refine ⟨_,rfl,?_⟩
  replace hB:=hB.trans cB
  replace L5:=L5.gr (cJ.trans cB)
  replace aa:=aa.gr (cJ.trans cB)
  refine hv _ _ cB ⟨L5,aa⟩ ?_
  try clear hv h1
  simp only [p3,p4]
  refine fv 43 (.agg #[d4,d7,dW,d0,fc,eG,fj,ep,e1,eX,e2,eZ,ez,fK,ff,fb]) ?_
  refine zc2 rfl rfl (fun jc cC _ iD hD=>?_)
  replace hB:=hB.trans cC
  have gn:=dl.kp.trans (dk.kp.trans (c8.kp.trans (cJ.kp.trans (cB.kp.trans cC.kp))))
  replace aw:=aw.kp gn
  replace ar:=ar.kp gn
  refine ec 48 (zt2 aw ar (by omega)) ?_
  rintro e32 jR ⟨⟨e9,fB,eU,fo,rfl,fD⟩,cy⟩
  refine ⟨_,rfl,?_⟩
  replace hB:=hB.trans cy
  replace L5:=L5.gr (cC.trans cy)
  replace aa:=aa.gr (cC.trans cy)
  refine hD _ _ cy ⟨L5,aa⟩ ?_
  try clear hD iD
  simp only [p3,p4]
  refine zc2 rfl rfl (fun jG cx _ hZ hR=>?_)
  replace hB:=hB.trans cx
  have ge:=dq.kp.trans (dp.kp.trans (dl.kp.trans (dk.kp.trans (c8.kp.trans (cJ.kp.trans (cB.kp.trans (cC.kp.trans (cy.kp.trans cx.kp))))))))
  replace du:=du.kp ge
  replace av:=av.kp ge
  refine ec 52 (zi7 du av (by omega)) ?_
  rintro j7 i9 ⟨⟨kz,jV,kn,i5,rfl,gH⟩,cq⟩
  refine ⟨_,rfl,?_⟩
  replace hB:=hB.trans cq
  replace L5:=L5.gr (cx.trans cq)
  replace aa:=aa.gr (cx.trans cq)
  refine hR _ _ cq ⟨L5,aa⟩ ?_
  try clear hR hZ
  simp only [p3,p4]
  refine zc2 rfl rfl (fun kh ct _ iR hM=>?_)
  replace hB:=hB.trans ct
  have fL:=dq.kp.trans (dp.kp.trans (dl.kp.trans (dk.kp.trans (c8.kp.trans (cJ.kp.trans (cB.kp.trans (cC.kp.trans (cy.kp.trans (cx.kp.trans (cq.kp.trans ct.kp))))))))))
  replace ai:=ai.kp fL
  replace au:=au.kp fL
  refine ec 57 (zi7 ai au (by omega)) ?_
  rintro kj jD ⟨⟨jj,jw,kr,ke,rfl,gK⟩,cg⟩
  refine ⟨_,rfl,?_⟩
  replace hB:=hB.trans cg
  replace L5:=L5.gr (ct.trans cg)
  replace aa:=aa.gr (ct.trans cg)
  refine hM _ _ cg ⟨L5,aa⟩ ?_
  try clear hM iR
  simp only [p3,p4]
  refine zc2 rfl rfl (fun kg ch _ iU hw=>?_)
  replace hB:=hB.trans ch
  have gW:=ct.kp.trans (cg.kp.trans ch.kp)
  replace gH:=gH.kp gW
  replace gK:=gK.kp ch.kp
  refine ec 58 (zt2 gH gK (by omega)) ?_
  rintro jr jb ⟨⟨dR,dY,dZ,dX,rfl,dP⟩,cl⟩
  refine ⟨_,rfl,?_⟩
  replace hB:=hB.trans cl
  replace L5:=L5.gr (ch.trans cl)
  replace aa:=aa.gr (ch.trans cl)
  refine hw _ _ cl ⟨L5,aa⟩ ?_
  try clear hw iU
  simp only [p3,p4]
  refine zc2 rfl rfl (fun jv cm _ h9 hP=>?_)
  replace hB:=hB.trans cm
  have fR:=cB.kp.trans (cC.kp.trans (cy.kp.trans (cx.kp.trans (cq.kp.trans (ct.kp.trans (cg.kp.trans (ch.kp.trans (cl.kp.trans cm.kp))))))))
  replace ah:=ah.kp fR
  replace af:=af.kp fR
  refine ec 63 (zi7 ah af (by omega)) ?_
  rintro jf kv ⟨⟨eF,eV,eK,eu,rfl,fJ⟩,ck⟩
  refine ⟨_,rfl,?_⟩
  replace hB:=hB.trans ck
  replace L5:=L5.gr (cm.trans ck)
  replace aa:=aa.gr (cm.trans ck)
  refine hP _ _ ck ⟨L5,aa⟩ ?_
  try clear hP h9
  simp only [p3,p4]
  refine zc2 rfl rfl (fun j9 cj _ ia hm=>?_)
  replace hB:=hB.trans cj
  have f7:=c8.kp.trans (cJ.kp.trans (cB.kp.trans (cC.kp.trans (cy.kp.trans (cx.kp.trans (cq.kp.trans (ct.kp.trans (cg.kp.trans (ch.kp.trans (cl.kp.trans (cm.kp.trans (ck.kp.trans cj.kp))))))))))))
  replace ay:=ay.kp f7
  replace ae:=ae.kp f7
  refine ec 68 (zi7 ay ae (by omega)) ?_
  rintro jp jt ⟨⟨fp,fi,fy,eR,rfl,eL⟩,ce⟩
  refine ⟨_,rfl,?_⟩
  replace hB:=hB.trans ce
  replace L5:=L5.gr (cj.trans ce)
  replace aa:=aa.gr (cj.trans ce)
  refine hm _ _ ce ⟨L5,aa⟩ ?_
  try clear hm ia
  simp only [p3,p4]
  refine fv 69 (.agg #[e9,fB,eU,fo,dR,dY,dZ,dX,eF,eV,eK,eu,fp,fi,fy,eR]) ?_
  refine zc2 rfl rfl (fun jK cd _ iy hu=>?_)
  replace hB:=hB.trans cd
  have gt:=ce.kp.trans cd.kp
  replace ay:=ay.kp gt
  replace ae:=ae.kp gt
  refine ec 74 (zt2 ay ae (by omega)) ?_
  rintro jM jm ⟨⟨et,eJ,eM,fA,rfl,fE⟩,b8⟩
  refine ⟨_,rfl,?_⟩
  replace hB:=hB.trans b8
  replace L5:=L5.gr (cd.trans b8)
  replace aa:=aa.gr (cd.trans b8)
  refine hu _ _ b8 ⟨L5,aa⟩ ?_
  try clear hu iy
  simp only [p3,p4]
  refine zc2 rfl rfl (fun jH b9 _ ih hz=>?_)
  replace hB:=hB.trans b9
  have gg:=ck.kp.trans (cj.kp.trans (ce.kp.trans (cd.kp.trans (b8.kp.trans b9.kp))))
  replace ah:=ah.kp gg
  replace af:=af.kp gg
  refine ec 79 (zi7 ah af (by omega)) ?_
  rintro ka kw ⟨⟨fu,fz,ey,fx,rfl,el⟩,bY⟩
  refine ⟨_,rfl,?_⟩
  replace hB:=hB.trans bY
  replace L5:=L5.gr (b9.trans bY)
  replace aa:=aa.gr (b9.trans bY)
  refine hz _ _ bY ⟨L5,aa⟩ ?_
  try clear hz ih
  simp only [p3,p4]
  refine zc2 rfl rfl (fun kC b6 _ h8 hx=>?_)
  replace hB:=hB.trans b6
  have gE:=cq.kp.trans (ct.kp.trans (cg.kp.trans (ch.kp.trans (cl.kp.trans (cm.kp.trans (ck.kp.trans (cj.kp.trans (ce.kp.trans (cd.kp.trans (b8.kp.trans (b9.kp.trans (bY.kp.trans b6.kp))))))))))))
  replace du:=du.kp gE
  have gJ:=cg.kp.trans (ch.kp.trans (cl.kp.trans (cm.kp.trans (ck.kp.trans (cj.kp.trans (ce.kp.trans (cd.kp.trans (b8.kp.trans (b9.kp.trans (bY.kp.trans b6.kp))))))))))
  replace ai:=ai.kp gJ
  refine ec 83 (zi7 du ai (by omega)) ?_
  rintro iW jd ⟨⟨ju,jl,jW,jz,rfl,g6⟩,bU⟩
  refine ⟨_,rfl,?_⟩
  replace hB:=hB.trans bU
  replace L5:=L5.gr (b6.trans bU)
  replace aa:=aa.gr (b6.trans bU)
  refine hx _ _ bU ⟨L5,aa⟩ ?_
  try clear hx h8
  simp only [p3,p4]
  refine zc2 rfl rfl (fun ja bH _ ie hO=>?_)
  replace hB:=hB.trans bH
  have hl:=cq.kp.trans (ct.kp.trans (cg.kp.trans (ch.kp.trans (cl.kp.trans (cm.kp.trans (ck.kp.trans (cj.kp.trans (ce.kp.trans (cd.kp.trans (b8.kp.trans (b9.kp.trans (bY.kp.trans (b6.kp.trans (bU.kp.trans bH.kp))))))))))))))
  replace av:=av.kp hl
  have hg:=cg.kp.trans (ch.kp.trans (cl.kp.trans (cm.kp.trans (ck.kp.trans (cj.kp.trans (ce.kp.trans (cd.kp.trans (b8.kp.trans (b9.kp.trans (bY.kp.trans (b6.kp.trans (bU.kp.trans bH.kp))))))))))))
  replace au:=au.kp hg
  refine ec 88 (zi7 av au (by omega)) ?_
  rintro js jx ⟨⟨j3,j2,jo,iY,rfl,gR⟩,bv⟩
  refine ⟨_,rfl,?_⟩
  replace hB:=hB.trans bv
  replace L5:=L5.gr (bH.trans bv)
  replace aa:=aa.gr (bH.trans bv)
  refine hO _ _ bv ⟨L5,aa⟩ ?_
  try clear hO ie
  simp only [p3,p4]
  refine zc2 rfl rfl (fun jg bp _ iK hL=>?_)
  replace hB:=hB.trans bp
  have gD:=bH.kp.trans (bv.kp.trans bp.kp)
  replace g6:=g6.kp gD
  replace gR:=gR.kp bp.kp
  refine ec 89 (zt2 g6 gR (by omega)) ?_
  rintro jJ jE ⟨⟨dV,dT,dS,d6,rfl,dI⟩,bK⟩
  refine ⟨_,rfl,?_⟩
  replace hB:=hB.trans bK
  replace L5:=L5.gr (bp.trans bK)
  replace aa:=aa.gr (bp.trans bK)
  refine hL _ _ bK ⟨L5,aa⟩ ?_
  try clear hL iK
  simp only [p3,p4]
  refine zc2 rfl rfl (fun jk bV _ h5 hp=>?_)
  replace hB:=hB.trans bV
  have gk:=cy.kp.trans (cx.kp.trans (cq.kp.trans (ct.kp.trans (cg.kp.trans (ch.kp.trans (cl.kp.trans (cm.kp.trans (ck.kp.trans (cj.kp.trans (ce.kp.trans (cd.kp.trans (b8.kp.trans (b9.kp.trans (bY.kp.trans (b6.kp.trans (bU.kp.trans (bH.kp.trans (bv.kp.trans (bp.kp.trans (bK.kp.trans bV.kp))))))))))))))))))))
  replace ar:=ar.kp gk
  replace aw:=aw.kp gk
  refine ec 94 (zi7 ar aw (by omega)) ?_
  rintro ko j1 ⟨⟨fq,e0,fd,fF,rfl,ft⟩,bk⟩
  refine ⟨_,rfl,?_⟩
  replace hB:=hB.trans bk
  replace L5:=L5.gr (bV.trans bk)
  replace aa:=aa.gr (bV.trans bk)
  refine hp _ _ bk ⟨L5,aa⟩ ?_
  try clear hp h5
  simp only [p3,p4]
  refine fv 95 (.agg #[et,eJ,eM,fA,fu,fz,ey,fx,dV,dT,dS,d6,fq,e0,fd,fF]) ?_
  refine zc2 rfl rfl (fun jX bn _ h4 hn=>?_)
  replace hB:=hB.trans bn
  have f9:=bY.kp.trans (b6.kp.trans (bU.kp.trans (bH.kp.trans (bv.kp.trans (bp.kp.trans (bK.kp.trans (bV.kp.trans (bk.kp.trans bn.kp))))))))
  replace af:=af.kp f9
  replace ah:=ah.kp f9
  refine ec 100 (zt2 af ah (by omega)) ?_
  rintro jU kl ⟨⟨em,eS,fC,eD,rfl,eC⟩,bq⟩
  refine ⟨_,rfl,?_⟩
  replace hB:=hB.trans bq
  replace L5:=L5.gr (bn.trans bq)
  replace aa:=aa.gr (bn.trans bq)
  refine hn _ _ bq ⟨L5,aa⟩ ?_
  try clear hn h4
  simp only [p3,p4]
  refine zc2 rfl rfl (fun j0 bm _ iw hJ=>?_)
  replace hB:=hB.trans bm
  have gf:=b8.kp.trans (b9.kp.trans (bY.kp.trans (b6.kp.trans (bU.kp.trans (bH.kp.trans (bv.kp.trans (bp.kp.trans (bK.kp.trans (bV.kp.trans (bk.kp.trans (bn.kp.trans (bq.kp.trans bm.kp))))))))))))
  replace ay:=ay.kp gf
  replace ae:=ae.kp gf
  refine ec 105 (zi7 ay ae (by omega)) ?_
  rintro jn iX ⟨⟨ew,fG,eH,eY,rfl,en⟩,bt⟩
  refine ⟨_,rfl,?_⟩
  replace hB:=hB.trans bt
  replace L5:=L5.gr (bm.trans bt)
  replace aa:=aa.gr (bm.trans bt)
  refine hJ _ _ bt ⟨L5,aa⟩ ?_
  try clear hJ iw
  simp only [p3,p4]
  refine zc2 rfl rfl (fun jh bj _ iS hq=>?_)
  replace hB:=hB.trans bj
  have gq:=bk.kp.trans (bn.kp.trans (bq.kp.trans (bm.kp.trans (bt.kp.trans bj.kp))))
  replace ar:=ar.kp gq
  replace aw:=aw.kp gq
  refine ec 110 (zi7 ar aw (by omega)) ?_
  rintro jF i4 ⟨⟨eo,eW,ex,fs,rfl,e4⟩,bu⟩
  refine ⟨_,rfl,?_⟩
  replace hB:=hB.trans bu
  replace L5:=L5.gr (bj.trans bu)
  replace aa:=aa.gr (bj.trans bu)
  refine hq _ _ bu ⟨L5,aa⟩ ?_
  try clear hq iS
  simp only [p3,p4]
  refine zc2 rfl rfl (fun kB bo _ im hC=>?_)
  replace hB:=hB.trans bo
  have gL:=bU.kp.trans (bH.kp.trans (bv.kp.trans (bp.kp.trans (bK.kp.trans (bV.kp.trans (bk.kp.trans (bn.kp.trans (bq.kp.trans (bm.kp.trans (bt.kp.trans (bj.kp.trans (bu.kp.trans bo.kp))))))))))))
  replace du:=du.kp gL
  have gF:=bv.kp.trans (bp.kp.trans (bK.kp.trans (bV.kp.trans (bk.kp.trans (bn.kp.trans (bq.kp.trans (bm.kp.trans (bt.kp.trans (bj.kp.trans (bu.kp.trans bo.kp))))))))))
  replace au:=au.kp gF
  refine ec 114 (zi7 du au (by omega)) ?_
  rintro i6 kc ⟨⟨kb,j5,i7,jN,rfl,g1⟩,bG⟩
  refine ⟨_,rfl,?_⟩
  replace hB:=hB.trans bG
  replace L5:=L5.gr (bo.trans bG)
  replace aa:=aa.gr (bo.trans bG)
  refine hC _ _ bG ⟨L5,aa⟩ ?_
  try clear hC im
  simp only [p3,p4]
  refine zc2 rfl rfl (fun jP bX _ iu hH=>?_)
  replace hB:=hB.trans bX
  have gY:=bv.kp.trans (bp.kp.trans (bK.kp.trans (bV.kp.trans (bk.kp.trans (bn.kp.trans (bq.kp.trans (bm.kp.trans (bt.kp.trans (bj.kp.trans (bu.kp.trans (bo.kp.trans (bG.kp.trans bX.kp))))))))))))
  replace av:=av.kp gY
  have gM:=bU.kp.trans (bH.kp.trans (bv.kp.trans (bp.kp.trans (bK.kp.trans (bV.kp.trans (bk.kp.trans (bn.kp.trans (bq.kp.trans (bm.kp.trans (bt.kp.trans (bj.kp.trans (bu.kp.trans (bo.kp.trans (bG.kp.trans bX.kp))))))))))))))
  replace ai:=ai.kp gM
  refine ec 119 (zi7 av ai (by omega)) ?_
  rintro ku jY ⟨⟨kf,ki,jB,je,rfl,g7⟩,bZ⟩
  refine ⟨_,rfl,?_⟩
  replace hB:=hB.trans bZ
  replace L5:=L5.gr (bX.trans bZ)
  replace aa:=aa.gr (bX.trans bZ)
  refine hH _ _ bZ ⟨L5,aa⟩ ?_
  try clear hH iu
  simp only [p3,p4]
  refine zc2 rfl rfl (fun j6 b4 _ h2 hy=>?_)
  replace hB:=hB.trans b4
  have hc:=bX.kp.trans (bZ.kp.trans b4.kp)
  replace g1:=g1.kp hc
  replace g7:=g7.kp b4.kp
  refine ec 120 (zt2 g1 g7 (by omega)) ?_
  rintro kd jC ⟨⟨e7,fg,eI,e5,rfl,fh⟩,cc⟩
  refine ⟨_,rfl,?_⟩
  replace hB:=hB.trans cc
  replace L5:=L5.gr (b4.trans cc)
  replace aa:=aa.gr (b4.trans cc)
  refine hy _ _ cc ⟨L5,aa⟩ ?_
  try clear hy h2
  simp only [p3,p4]
  refine fv 121 (.agg #[em,eS,fC,eD,ew,fG,eH,eY,eo,eW,ex,fs,e7,fg,eI,e5]) ?_
  refine fv 122 (.agg #[d4,d7,dW,d0,fc,eG,fj,ep,e1,eX,e2,eZ,ez,fK,ff,fb,e9,fB,eU,fo,dR,dY,dZ,dX,eF,eV,eK,eu,fp,fi,fy,eR,et,eJ,eM,fA,fu,fz,ey,fx,dV,dT,dS,d6,fq,e0,fd,fF,em,eS,fC,eD,ew,fG,eH,eY,eo,eW,ex,fs,e7,fg,eI,e5]) ?_
  refine zU8 (fun jZ ca _=>?_)
  replace hB:=hB.trans ca
  refine zV6 (fun dw co eT=>?_)
  replace co:Lc _ _ _ _:=co
  have cS:b3≠dw:=Nat.ne_of_lt (Nat.lt_of_lt_of_le eN eT)
  have eB:b5≠dw:=Nat.ne_of_lt (Nat.lt_of_lt_of_le fH eT)
  have d5:hG≠dw:=Nat.ne_of_lt (Nat.lt_of_lt_of_le dU eT)
  have cU:D9≠dw:=Nat.ne_of_lt (Nat.lt_of_lt_of_le ek eT)
  replace eT:=Nat.le_trans hd eT
  simp only [zB4,p3,p4]
  refine oe ?_
  refine es 158 0 (.agg #[d4,d7,dW,d0,fc,eG,fj,ep,e1,eX,e2,eZ,ez,fK,ff,fb,e9,fB,eU,fo,dR,dY,dZ,dX,eF,eV,eK,eu,fp,fi,fy,eR,et,eJ,eM,fA,fu,fz,ey,fx,dV,dT,dS,d6,fq,e0,fd,fF,em,eS,fC,eD,ew,fG,eH,eY,eo,eW,ex,fs,e7,fg,eI,e5]) [d4,d7,dW,d0,fc,eG,fj,ep,e1,eX,e2,eZ,ez,fK,ff,fb,e9,fB,eU,fo,dR,dY,dZ,dX,eF,eV,eK,eu,fp,fi,fy,eR,et,eJ,eM,fA,fu,fz,ey,fx,dV,dT,dS,d6,fq,e0,fd,fF,em,eS,fC,eD,ew,fG,eH,eY,eo,eW,ex,fs,e7,fg,eI,e5] #[d4,d7,dW,d0,fc,eG,fj,ep,e1,eX,e2,eZ,ez,fK,ff,fb,e9,fB,eU,fo,dR,dY,dZ,dX,eF,eV,eK,eu,fp,fi,fy,eR,et,eJ,eM,fA,fu,fz,ey,fx,dV,dT,dS,d6,fq,e0,fd,fF,em,eS,fC,eD,ew,fG,eH,eY,eo,eW,ex,fs,e7,fg,eI,e5] co hB eT ⟨dO.one0,dO.one1,dO.one2,dO.one3,fk.one0,fk.one1,fk.one2,fk.one3,e3.one0,e3.one1,e3.one2,e3.one3,e6.one0,e6.one1,e6.one2,e6.one3,fD.one0,fD.one1,fD.one2,fD.one3,dP.one0,dP.one1,dP.one2,dP.one3,fJ.one0,fJ.one1,fJ.one2,fJ.one3,eL.one0,eL.one1,eL.one2,eL.one3,fE.one0,fE.one1,fE.one2,fE.one3,el.one0,el.one1,el.one2,el.one3,dI.one0,dI.one1,dI.one2,dI.one3,ft.one0,ft.one1,ft.one2,ft.one3,eC.one0,eC.one1,eC.one2,eC.one3,en.one0,en.one1,en.one2,en.one3,e4.one0,e4.one1,e4.one2,e4.one3,fh.one0,fh.one1,fh.one2,fh.one3,trivial⟩ fun jS cu bh co hB=>?_
  replace L5:=cu.lc (L5.gr ca) eB
  replace aa:=cu.lc (aa.gr ca) d5
  refine ⟨⟨L5,aa⟩,?_⟩
  refine zb1 ?_
  refine hI _ _ ?_
  try clear hI h3
  refine wp_seq_k (fun iE hr=>?_)
  refine rg [0] ?_
  refine sv 8 (.int .i64 0) ?_
  refine za0 ?_
  refine hr _ _ ?_
  try clear hr iE
  refine wp_seq_k (fun gA ed=>?_)
  refine wp_block ?_
  refine wp_loop_rounds 4 ?_
  show Code.wp _ _ _ _ _
  refine wp_seq_k (fun ip hU=>?_)
  refine wp_seq_k (fun ij ht=>?_)
  refine rg [0,1,2,3,4,5,6,7,8,9,10] ?_
  refine sv 123 (.int .i64 0) ?_
  refine sv 124 (.bool true) ?_
  refine sv 125 (.bool true) ?_
  refine sv 126 (.int .i64 0) ?_
  refine sv 127 (.int .i64 0) ?_
  refine sv 128 (.pointer (some ⟨dw,0,none⟩)) ?_
  refine sv 129 (.pointer (some ⟨dw,0,none⟩)) ?_
  refine sw 130 (.agg #[d4,d7,dW,d0]) rfl (rl 36 0 [d4,d7,dW,d0] co) ?_
  refine se ?_
  have gN:=dp.kp.trans (dl.kp.trans (dk.kp.trans (c8.kp.trans (cJ.kp.trans (cB.kp.trans (cC.kp.trans (cy.kp.trans (cx.kp.trans (cq.kp.trans (ct.kp.trans (cg.kp.trans (ch.kp.trans (cl.kp.trans (cm.kp.trans (ck.kp.trans (cj.kp.trans (ce.kp.trans (cd.kp.trans (b8.kp.trans (b9.kp.trans (bY.kp.trans (b6.kp.trans (bU.kp.trans (bH.kp.trans (bv.kp.trans (bp.kp.trans (bK.kp.trans (bV.kp.trans (bk.kp.trans (bn.kp.trans (bq.kp.trans (bm.kp.trans (bt.kp.trans (bj.kp.trans (bu.kp.trans (bo.kp.trans (bG.kp.trans (bX.kp.trans (bZ.kp.trans (b4.kp.trans (cc.kp.trans (ca.kp.trans bh))))))))))))))))))))))))))))))))))))))))))
  replace dO:=dO.kp gN
  refine ec 131 (zJ0 dO) ?_
  rintro i8 ky ⟨rfl,b7⟩
  refine ⟨_,rfl,?_⟩
  replace hB:=hB.trans b7
  simp only [p3,p4]
  refine sv 132 (.bool ((sgn (((((0+1)+bC)+bQ)+bD)).num==(0:Int)))) ?_
  refine sv 133 (.bool ((sgn (((((0+1)+bC)+bQ)+bD)).num==(0:Int)))) ?_
  refine za0 ?_
  refine ht _ _ ?_
  try clear ht ij
  refine wp_cond_split (t:=(sgn (((((0+1)+bC)+bQ)+bD)).num==(0:Int))) rfl (fun cR=>?_) (fun cR=>?_)
  ·refine wp_skip ?_
   refine hU _ _ ?_
   try clear hU ip
   refine wp_block ?_
   refine rg [0,1,2] ?_
   refine sv 134 (.int .i64 0) ?_
   refine sv 135 (.int .i64 1) ?_
   refine sv 8 (.int .i64 1) ?_
   refine za0 ?_
   show Code.rounds _ _ _ _ _ _
   show Code.wp _ _ _ _ _
   refine wp_seq_k (fun gU gp=>?_)
   refine wp_seq_k (fun gX fS=>?_)
   refine rg [0,1,2,3,4,5,6,7,8,9,10] ?_
   refine sv 123 (.int .i64 1) ?_
   refine sv 124 (.bool true) ?_
   refine sv 125 (.bool true) ?_
   refine sv 126 (.int .i64 1) ?_
   refine sv 127 (.int .i64 1) ?_
   refine sv 128 (.pointer (some ⟨dw,16,none⟩)) ?_
   refine sv 129 (.pointer (some ⟨dw,20,none⟩)) ?_
   replace co:=co.gr b7
   refine sw 130 (.agg #[dR,dY,dZ,dX]) rfl (rl 36 20 [dR,dY,dZ,dX] co) ?_
   refine se ?_
   have fX:=cm.kp.trans (ck.kp.trans (cj.kp.trans (ce.kp.trans (cd.kp.trans (b8.kp.trans (b9.kp.trans (bY.kp.trans (b6.kp.trans (bU.kp.trans (bH.kp.trans (bv.kp.trans (bp.kp.trans (bK.kp.trans (bV.kp.trans (bk.kp.trans (bn.kp.trans (bq.kp.trans (bm.kp.trans (bt.kp.trans (bj.kp.trans (bu.kp.trans (bo.kp.trans (bG.kp.trans (bX.kp.trans (bZ.kp.trans (b4.kp.trans (cc.kp.trans (ca.kp.trans (bh.trans b7.kp)))))))))))))))))))))))))))))
   replace dP:=dP.kp fX
   refine ec 131 (zJ0 dP) ?_
   rintro iO h7 ⟨rfl,a0⟩
   refine ⟨_,rfl,?_⟩
   replace hB:=hB.trans a0
   simp only [p3,p4]
   refine sv 132 (.bool ((sgn (((1+bC) - (bQ+bD))).num==(0:Int)))) ?_
   refine sv 133 (.bool ((sgn (((1+bC) - (bQ+bD))).num==(0:Int)))) ?_
   refine za0 ?_
   refine fS _ _ ?_
   try clear fS gX
   refine wp_cond_split (t:=(sgn (((1+bC) - (bQ+bD))).num==(0:Int))) rfl (fun cn=>?_) (fun cn=>?_)
   ·refine wp_skip ?_
    refine gp _ _ ?_
    try clear gp gU
    refine wp_block ?_
    refine rg [0,1,2] ?_
    refine sv 134 (.int .i64 1) ?_
    refine sv 135 (.int .i64 2) ?_
    refine sv 8 (.int .i64 2) ?_
    refine za0 ?_
    show Code.rounds _ _ _ _ _ _
    show Code.wp _ _ _ _ _
    refine wp_seq_k (fun gV fY=>?_)
    refine wp_seq_k (fun gQ f5=>?_)
    refine rg [0,1,2,3,4,5,6,7,8,9,10] ?_
    refine sv 123 (.int .i64 2) ?_
    refine sv 124 (.bool true) ?_
    refine sv 125 (.bool true) ?_
    refine sv 126 (.int .i64 2) ?_
    refine sv 127 (.int .i64 2) ?_
    refine sv 128 (.pointer (some ⟨dw,32,none⟩)) ?_
    refine sv 129 (.pointer (some ⟨dw,40,none⟩)) ?_
    replace co:=co.gr a0
    refine sw 130 (.agg #[dV,dT,dS,d6]) rfl (rl 36 40 [dV,dT,dS,d6] co) ?_
    refine se ?_
    have f0:=bV.kp.trans (bk.kp.trans (bn.kp.trans (bq.kp.trans (bm.kp.trans (bt.kp.trans (bj.kp.trans (bu.kp.trans (bo.kp.trans (bG.kp.trans (bX.kp.trans (bZ.kp.trans (b4.kp.trans (cc.kp.trans (ca.kp.trans (bh.trans (b7.kp.trans a0.kp))))))))))))))))
    replace dI:=dI.kp f0
    refine ec 131 (zJ0 dI) ?_
    rintro ic iB ⟨rfl,bi⟩
    refine ⟨_,rfl,?_⟩
    replace hB:=hB.trans bi
    simp only [p3,p4]
    refine sv 132 (.bool ((sgn (((1+bQ) - (bC+bD))).num==(0:Int)))) ?_
    refine sv 133 (.bool ((sgn (((1+bQ) - (bC+bD))).num==(0:Int)))) ?_
    refine za0 ?_
    refine f5 _ _ ?_
    try clear f5 gQ
    refine wp_cond_split (t:=(sgn (((1+bQ) - (bC+bD))).num==(0:Int))) rfl (fun dt=>?_) (fun dt=>?_)
    ·refine wp_skip ?_
     refine fY _ _ ?_
     try clear fY gV
     refine wp_block ?_
     refine rg [0,1,2] ?_
     refine sv 134 (.int .i64 2) ?_
     refine sv 135 (.int .i64 3) ?_
     refine sv 8 (.int .i64 3) ?_
     refine za0 ?_
     show Code.rounds _ _ _ _ _ _
     show Code.wp _ _ _ _ _
     refine wp_seq_k (fun iT ix=>?_)
     refine wp_seq_k (fun hk gu=>?_)
     refine rg [0,1,2,3,4,5,6,7,8,9,10] ?_
     refine sv 123 (.int .i64 3) ?_
     refine sv 124 (.bool false) ?_
     refine sv 125 (.bool false) ?_
     refine ss 126 ?_
     refine ss 127 ?_
     refine ss 128 ?_
     refine ss 129 ?_
     refine ss 130 ?_
     refine ss 131 ?_
     refine ss 132 ?_
     refine sv 133 (.bool false) ?_
     refine za0 ?_
     refine gu _ _ ?_
     try clear gu hk
     refine wp_cond_false rfl ?_
     refine wp_exit ?_
     simp only [Exit.then,Exit.inBlock,↓reduceIte]
     refine ed _ _ ?_
     try clear ed gA
     refine wp_seq_k (fun gS fP=>?_)
     refine rg [0,1,2,3,4] ?_
     refine sv 136 (.int .i64 3) ?_
     refine sv 137 (.pointer (some ⟨dw,48,none⟩)) ?_
     replace co:=co.gr bi
     refine sw 138 (.agg #[em,eS,fC,eD,ew,fG,eH,eY,eo,eW,ex,fs,e7,fg,eI,e5]) rfl (rl 157 48 [em,eS,fC,eD,ew,fG,eH,eY,eo,eW,ex,fs,e7,fg,eI,e5] co) ?_
     refine se ?_
     have gj:=bm.kp.trans (bt.kp.trans (bj.kp.trans (bu.kp.trans (bo.kp.trans (bG.kp.trans (bX.kp.trans (bZ.kp.trans (b4.kp.trans (cc.kp.trans (ca.kp.trans (bh.trans (b7.kp.trans (a0.kp.trans bi.kp)))))))))))))
     replace eC:=eC.kp gj
     have gz:=bj.kp.trans (bu.kp.trans (bo.kp.trans (bG.kp.trans (bX.kp.trans (bZ.kp.trans (b4.kp.trans (cc.kp.trans (ca.kp.trans (bh.trans (b7.kp.trans (a0.kp.trans bi.kp)))))))))))
     replace en:=en.kp gz
     have ga:=bo.kp.trans (bG.kp.trans (bX.kp.trans (bZ.kp.trans (b4.kp.trans (cc.kp.trans (ca.kp.trans (bh.trans (b7.kp.trans (a0.kp.trans bi.kp)))))))))
     replace e4:=e4.kp ga
     have gb:=ca.kp.trans (bh.trans (b7.kp.trans (a0.kp.trans bi.kp)))
     replace fh:=fh.kp gb
     refine ec 139 (yf0 (k:=8*k+900) (eC.mono (by omega)) (en.mono (by omega)) (e4.mono (by omega)) (fh.mono (by omega)) (yx1 cR cn dt) (by omega)) ?_
     rintro hV io ⟨⟨cY,c7,cL,cD,cK,cG,cO,df,rfl,bA,bM,bR,bS⟩,eA⟩
     refine ⟨_,rfl,?_⟩
     replace hB:=hB.trans eA
     simp only [p3,p4]
     refine se ?_
     replace L3:=(cu.lc (L3.gr (dn.trans (dm.trans (dq.trans (dp.trans (dl.trans (dk.trans (c8.trans (cJ.trans (cB.trans (cC.trans (cy.trans (cx.trans (cq.trans (ct.trans (cg.trans (ch.trans (cl.trans (cm.trans (ck.trans (cj.trans (ce.trans (cd.trans (b8.trans (b9.trans (bY.trans (b6.trans (bU.trans (bH.trans (bv.trans (bp.trans (bK.trans (bV.trans (bk.trans (bn.trans (bq.trans (bm.trans (bt.trans (bj.trans (bu.trans (bo.trans (bG.trans (bX.trans (bZ.trans (b4.trans (cc.trans ca)))))))))))))))))))))))))))))))))))))))))))))) cS).gr (b7.trans (a0.trans (bi.trans eA)))
     refine es 125 0 (.agg #[cY,c7,cL,cD,cK,cG,cO,df]) [cY,c7,cL,cD,cK,cG,cO,df] #[cY,c7,cL,cD,cK,cG,cO,df] L3 hB q3 ⟨bA.one0,bA.one1,bM.one0,bM.one1,bR.one0,bR.one1,bS.one0,bS.one1,trivial⟩ fun h6 f2 gl L3 hB=>?_
     refine za0 ?_
     refine fP _ _ ?_
     try clear fP gS
     refine wp_ret ?_
     replace L9:=(((((((((((((((((((((((((((((((((((((((((((((((((((L9.gr dn).gr dm).gr dq).gr dp).gr dl).gr dk).gr c8).gr cJ).gr cB).gr cC).gr cy).gr cx).gr cq).gr ct).gr cg).gr ch).gr cl).gr cm).gr ck).gr cj).gr ce).gr cd).gr b8).gr b9).gr bY).gr b6).gr bU).gr bH).gr bv).gr bp).gr bK).gr bV).gr bk).gr bn).gr bq).gr bm).gr bt).gr bj).gr bu).gr bo).gr bG).gr bX).gr bZ).gr b4).gr cc).gr ca).st cu cU).gr b7).gr a0).gr bi).gr eA).st f2 (Ne.symm dB)
     refine endN [D9] _ (List.Pairwise.cons (fun _ h=>absurd h (by simp)) List.Pairwise.nil) (List.forall_mem_cons.2 ⟨⟨Q9,L9⟩,(fun _ h=>absurd h (by simp))⟩) hB (fun hX ee hB=>?_)
     replace L3:=ee.lc L3 (by decide)
     refine ⟨(.agg #[cY,c7,cL,cD,cK,cG,cO,df]),(zb0 _ _ _ rfl rfl L3 (by kernel_rfl)),?_,hB⟩
     have dx:=gl.trans (ee.kp (by decide))
     replace bA:=bA.kp dx
     replace bM:=bM.kp dx
     replace bR:=bR.kp dx
     replace bS:=bS.kp dx
     exact (by rw [qrow3t cR cn dt];exact ⟨_,_,_,_,_,_,_,_,rfl,bA.mono (by omega),bM.mono (by omega),bR.mono (by omega),bS.mono (by omega)⟩)
    ·refine wp_exit ?_
     simp only [Exit.then,Exit.inBlock,↓reduceIte]
     refine ed _ _ ?_
     try clear ed gA
     refine wp_seq_k (fun hh fQ=>?_)
     refine rg [0,1,2,3,4] ?_
     refine sv 136 (.int .i64 2) ?_
     refine sv 137 (.pointer (some ⟨dw,32,none⟩)) ?_
     replace co:=co.gr bi
     refine sw 138 (.agg #[et,eJ,eM,fA,fu,fz,ey,fx,dV,dT,dS,d6,fq,e0,fd,fF]) rfl (rl 157 32 [et,eJ,eM,fA,fu,fz,ey,fx,dV,dT,dS,d6,fq,e0,fd,fF] co) ?_
     refine se ?_
     have fZ:=b9.kp.trans (bY.kp.trans (b6.kp.trans (bU.kp.trans (bH.kp.trans (bv.kp.trans (bp.kp.trans (bK.kp.trans (bV.kp.trans (bk.kp.trans (bn.kp.trans (bq.kp.trans (bm.kp.trans (bt.kp.trans (bj.kp.trans (bu.kp.trans (bo.kp.trans (bG.kp.trans (bX.kp.trans (bZ.kp.trans (b4.kp.trans (cc.kp.trans (ca.kp.trans (bh.trans (b7.kp.trans (a0.kp.trans bi.kp)))))))))))))))))))))))))
     replace fE:=fE.kp fZ
     have gv:=b6.kp.trans (bU.kp.trans (bH.kp.trans (bv.kp.trans (bp.kp.trans (bK.kp.trans (bV.kp.trans (bk.kp.trans (bn.kp.trans (bq.kp.trans (bm.kp.trans (bt.kp.trans (bj.kp.trans (bu.kp.trans (bo.kp.trans (bG.kp.trans (bX.kp.trans (bZ.kp.trans (b4.kp.trans (cc.kp.trans (ca.kp.trans (bh.trans (b7.kp.trans (a0.kp.trans bi.kp)))))))))))))))))))))))
     replace el:=el.kp gv
     replace dI:=dI.kp bi.kp
     have gd:=bn.kp.trans (bq.kp.trans (bm.kp.trans (bt.kp.trans (bj.kp.trans (bu.kp.trans (bo.kp.trans (bG.kp.trans (bX.kp.trans (bZ.kp.trans (b4.kp.trans (cc.kp.trans (ca.kp.trans (bh.trans (b7.kp.trans (a0.kp.trans bi.kp)))))))))))))))
     replace ft:=ft.kp gd
     refine ec 139 (yf0 (k:=8*k+900) (fE.mono (by omega)) (el.mono (by omega)) (dI.mono (by omega)) (ft.mono (by omega)) (yx0 cR cn dt) (by omega)) ?_
     rintro iv hY ⟨⟨dh,c9,dc,cQ,cZ,cH,cF,c4,rfl,bN,bF,bx,bO⟩,fe⟩
     refine ⟨_,rfl,?_⟩
     replace hB:=hB.trans fe
     simp only [p3,p4]
     refine se ?_
     replace L3:=(cu.lc (L3.gr (dn.trans (dm.trans (dq.trans (dp.trans (dl.trans (dk.trans (c8.trans (cJ.trans (cB.trans (cC.trans (cy.trans (cx.trans (cq.trans (ct.trans (cg.trans (ch.trans (cl.trans (cm.trans (ck.trans (cj.trans (ce.trans (cd.trans (b8.trans (b9.trans (bY.trans (b6.trans (bU.trans (bH.trans (bv.trans (bp.trans (bK.trans (bV.trans (bk.trans (bn.trans (bq.trans (bm.trans (bt.trans (bj.trans (bu.trans (bo.trans (bG.trans (bX.trans (bZ.trans (b4.trans (cc.trans ca)))))))))))))))))))))))))))))))))))))))))))))) cS).gr (b7.trans (a0.trans (bi.trans fe)))
     refine es 125 0 (.agg #[dh,c9,dc,cQ,cZ,cH,cF,c4]) [dh,c9,dc,cQ,cZ,cH,cF,c4] #[dh,c9,dc,cQ,cZ,cH,cF,c4] L3 hB q3 ⟨bN.one0,bN.one1,bF.one0,bF.one1,bx.one0,bx.one1,bO.one0,bO.one1,trivial⟩ fun iJ fT fW L3 hB=>?_
     refine za0 ?_
     refine fQ _ _ ?_
     try clear fQ hh
     refine wp_ret ?_
     replace L9:=(((((((((((((((((((((((((((((((((((((((((((((((((((L9.gr dn).gr dm).gr dq).gr dp).gr dl).gr dk).gr c8).gr cJ).gr cB).gr cC).gr cy).gr cx).gr cq).gr ct).gr cg).gr ch).gr cl).gr cm).gr ck).gr cj).gr ce).gr cd).gr b8).gr b9).gr bY).gr b6).gr bU).gr bH).gr bv).gr bp).gr bK).gr bV).gr bk).gr bn).gr bq).gr bm).gr bt).gr bj).gr bu).gr bo).gr bG).gr bX).gr bZ).gr b4).gr cc).gr ca).st cu cU).gr b7).gr a0).gr bi).gr fe).st fT (Ne.symm dB)
     refine endN [D9] _ (List.Pairwise.cons (fun _ h=>absurd h (by simp)) List.Pairwise.nil) (List.forall_mem_cons.2 ⟨⟨Q9,L9⟩,(fun _ h=>absurd h (by simp))⟩) hB (fun iM ef hB=>?_)
     replace L3:=ef.lc L3 (by decide)
     refine ⟨(.agg #[dh,c9,dc,cQ,cZ,cH,cF,c4]),(zb0 _ _ _ rfl rfl L3 (by kernel_rfl)),?_,hB⟩
     have dv:=fW.trans (ef.kp (by decide))
     replace bN:=bN.kp dv
     replace bF:=bF.kp dv
     replace bx:=bx.kp dv
     replace bO:=bO.kp dv
     exact (by rw [qrow3f cR cn dt];exact ⟨_,_,_,_,_,_,_,_,rfl,bN.mono (by omega),bF.mono (by omega),bx.mono (by omega),bO.mono (by omega)⟩)
   ·refine wp_exit ?_
    simp only [Exit.then,Exit.inBlock,↓reduceIte]
    refine ed _ _ ?_
    try clear ed gA
    refine wp_seq_k (fun g4 gm=>?_)
    refine rg [0,1,2,3,4] ?_
    refine sv 136 (.int .i64 1) ?_
    refine sv 137 (.pointer (some ⟨dw,16,none⟩)) ?_
    replace co:=co.gr a0
    refine sw 138 (.agg #[e9,fB,eU,fo,dR,dY,dZ,dX,eF,eV,eK,eu,fp,fi,fy,eR]) rfl (rl 157 16 [e9,fB,eU,fo,dR,dY,dZ,dX,eF,eV,eK,eu,fp,fi,fy,eR] co) ?_
    refine se ?_
    have gy:=cx.kp.trans (cq.kp.trans (ct.kp.trans (cg.kp.trans (ch.kp.trans (cl.kp.trans (cm.kp.trans (ck.kp.trans (cj.kp.trans (ce.kp.trans (cd.kp.trans (b8.kp.trans (b9.kp.trans (bY.kp.trans (b6.kp.trans (bU.kp.trans (bH.kp.trans (bv.kp.trans (bp.kp.trans (bK.kp.trans (bV.kp.trans (bk.kp.trans (bn.kp.trans (bq.kp.trans (bm.kp.trans (bt.kp.trans (bj.kp.trans (bu.kp.trans (bo.kp.trans (bG.kp.trans (bX.kp.trans (bZ.kp.trans (b4.kp.trans (cc.kp.trans (ca.kp.trans (bh.trans (b7.kp.trans a0.kp))))))))))))))))))))))))))))))))))))
    replace fD:=fD.kp gy
    replace dP:=dP.kp a0.kp
    have fM:=cj.kp.trans (ce.kp.trans (cd.kp.trans (b8.kp.trans (b9.kp.trans (bY.kp.trans (b6.kp.trans (bU.kp.trans (bH.kp.trans (bv.kp.trans (bp.kp.trans (bK.kp.trans (bV.kp.trans (bk.kp.trans (bn.kp.trans (bq.kp.trans (bm.kp.trans (bt.kp.trans (bj.kp.trans (bu.kp.trans (bo.kp.trans (bG.kp.trans (bX.kp.trans (bZ.kp.trans (b4.kp.trans (cc.kp.trans (ca.kp.trans (bh.trans (b7.kp.trans a0.kp))))))))))))))))))))))))))))
    replace fJ:=fJ.kp fM
    have gs:=cd.kp.trans (b8.kp.trans (b9.kp.trans (bY.kp.trans (b6.kp.trans (bU.kp.trans (bH.kp.trans (bv.kp.trans (bp.kp.trans (bK.kp.trans (bV.kp.trans (bk.kp.trans (bn.kp.trans (bq.kp.trans (bm.kp.trans (bt.kp.trans (bj.kp.trans (bu.kp.trans (bo.kp.trans (bG.kp.trans (bX.kp.trans (bZ.kp.trans (b4.kp.trans (cc.kp.trans (ca.kp.trans (bh.trans (b7.kp.trans a0.kp))))))))))))))))))))))))))
    replace eL:=eL.kp gs
    refine ec 139 (yf0 (k:=8*k+900) (fD.mono (by omega)) (dP.mono (by omega)) (fJ.mono (by omega)) (eL.mono (by omega)) (yw9 cR cn) (by omega)) ?_
    rintro ir ig ⟨⟨dd,cV,cX,c6,db,cM,di,dj,rfl,bL,bw,bJ,bW⟩,fa⟩
    refine ⟨_,rfl,?_⟩
    replace hB:=hB.trans fa
    simp only [p3,p4]
    refine se ?_
    replace L3:=(cu.lc (L3.gr (dn.trans (dm.trans (dq.trans (dp.trans (dl.trans (dk.trans (c8.trans (cJ.trans (cB.trans (cC.trans (cy.trans (cx.trans (cq.trans (ct.trans (cg.trans (ch.trans (cl.trans (cm.trans (ck.trans (cj.trans (ce.trans (cd.trans (b8.trans (b9.trans (bY.trans (b6.trans (bU.trans (bH.trans (bv.trans (bp.trans (bK.trans (bV.trans (bk.trans (bn.trans (bq.trans (bm.trans (bt.trans (bj.trans (bu.trans (bo.trans (bG.trans (bX.trans (bZ.trans (b4.trans (cc.trans ca)))))))))))))))))))))))))))))))))))))))))))))) cS).gr (b7.trans (a0.trans fa))
    refine es 125 0 (.agg #[dd,cV,cX,c6,db,cM,di,dj]) [dd,cV,cX,c6,db,cM,di,dj] #[dd,cV,cX,c6,db,cM,di,dj] L3 hB q3 ⟨bL.one0,bL.one1,bw.one0,bw.one1,bJ.one0,bJ.one1,bW.one0,bW.one1,trivial⟩ fun iG gh gi L3 hB=>?_
    refine za0 ?_
    refine gm _ _ ?_
    try clear gm g4
    refine wp_ret ?_
    replace L9:=((((((((((((((((((((((((((((((((((((((((((((((((((L9.gr dn).gr dm).gr dq).gr dp).gr dl).gr dk).gr c8).gr cJ).gr cB).gr cC).gr cy).gr cx).gr cq).gr ct).gr cg).gr ch).gr cl).gr cm).gr ck).gr cj).gr ce).gr cd).gr b8).gr b9).gr bY).gr b6).gr bU).gr bH).gr bv).gr bp).gr bK).gr bV).gr bk).gr bn).gr bq).gr bm).gr bt).gr bj).gr bu).gr bo).gr bG).gr bX).gr bZ).gr b4).gr cc).gr ca).st cu cU).gr b7).gr a0).gr fa).st gh (Ne.symm dB)
    refine endN [D9] _ (List.Pairwise.cons (fun _ h=>absurd h (by simp)) List.Pairwise.nil) (List.forall_mem_cons.2 ⟨⟨Q9,L9⟩,(fun _ h=>absurd h (by simp))⟩) hB (fun iH ej hB=>?_)
    replace L3:=ej.lc L3 (by decide)
    refine ⟨(.agg #[dd,cV,cX,c6,db,cM,di,dj]),(zb0 _ _ _ rfl rfl L3 (by kernel_rfl)),?_,hB⟩
    have dy:=gi.trans (ej.kp (by decide))
    replace bL:=bL.kp dy
    replace bw:=bw.kp dy
    replace bJ:=bJ.kp dy
    replace bW:=bW.kp dy
    exact (by rw [qrow2f cR cn];exact ⟨_,_,_,_,_,_,_,_,rfl,bL.mono (by omega),bw.mono (by omega),bJ.mono (by omega),bW.mono (by omega)⟩)
  ·refine wp_exit ?_
   simp only [Exit.then,Exit.inBlock,↓reduceIte]
   refine ed _ _ ?_
   try clear ed gA
   refine wp_seq_k (fun gP fO=>?_)
   refine rg [0,1,2,3,4] ?_
   refine sv 136 (.int .i64 0) ?_
   refine sv 137 (.pointer (some ⟨dw,0,none⟩)) ?_
   replace co:=co.gr b7
   refine sw 138 (.agg #[d4,d7,dW,d0,fc,eG,fj,ep,e1,eX,e2,eZ,ez,fK,ff,fb]) rfl (rl 157 0 [d4,d7,dW,d0,fc,eG,fj,ep,e1,eX,e2,eZ,ez,fK,ff,fb] co) ?_
   refine se ?_
   replace dO:=dO.kp b7.kp
   have fU:=dk.kp.trans (c8.kp.trans (cJ.kp.trans (cB.kp.trans (cC.kp.trans (cy.kp.trans (cx.kp.trans (cq.kp.trans (ct.kp.trans (cg.kp.trans (ch.kp.trans (cl.kp.trans (cm.kp.trans (ck.kp.trans (cj.kp.trans (ce.kp.trans (cd.kp.trans (b8.kp.trans (b9.kp.trans (bY.kp.trans (b6.kp.trans (bU.kp.trans (bH.kp.trans (bv.kp.trans (bp.kp.trans (bK.kp.trans (bV.kp.trans (bk.kp.trans (bn.kp.trans (bq.kp.trans (bm.kp.trans (bt.kp.trans (bj.kp.trans (bu.kp.trans (bo.kp.trans (bG.kp.trans (bX.kp.trans (bZ.kp.trans (b4.kp.trans (cc.kp.trans (ca.kp.trans (bh.trans b7.kp)))))))))))))))))))))))))))))))))))))))))
   replace fk:=fk.kp fU
   have gc:=cJ.kp.trans (cB.kp.trans (cC.kp.trans (cy.kp.trans (cx.kp.trans (cq.kp.trans (ct.kp.trans (cg.kp.trans (ch.kp.trans (cl.kp.trans (cm.kp.trans (ck.kp.trans (cj.kp.trans (ce.kp.trans (cd.kp.trans (b8.kp.trans (b9.kp.trans (bY.kp.trans (b6.kp.trans (bU.kp.trans (bH.kp.trans (bv.kp.trans (bp.kp.trans (bK.kp.trans (bV.kp.trans (bk.kp.trans (bn.kp.trans (bq.kp.trans (bm.kp.trans (bt.kp.trans (bj.kp.trans (bu.kp.trans (bo.kp.trans (bG.kp.trans (bX.kp.trans (bZ.kp.trans (b4.kp.trans (cc.kp.trans (ca.kp.trans (bh.trans b7.kp)))))))))))))))))))))))))))))))))))))))
   replace e3:=e3.kp gc
   have f8:=cC.kp.trans (cy.kp.trans (cx.kp.trans (cq.kp.trans (ct.kp.trans (cg.kp.trans (ch.kp.trans (cl.kp.trans (cm.kp.trans (ck.kp.trans (cj.kp.trans (ce.kp.trans (cd.kp.trans (b8.kp.trans (b9.kp.trans (bY.kp.trans (b6.kp.trans (bU.kp.trans (bH.kp.trans (bv.kp.trans (bp.kp.trans (bK.kp.trans (bV.kp.trans (bk.kp.trans (bn.kp.trans (bq.kp.trans (bm.kp.trans (bt.kp.trans (bj.kp.trans (bu.kp.trans (bo.kp.trans (bG.kp.trans (bX.kp.trans (bZ.kp.trans (b4.kp.trans (cc.kp.trans (ca.kp.trans (bh.trans b7.kp)))))))))))))))))))))))))))))))))))))
   replace e6:=e6.kp f8
   refine ec 139 (yf0 (k:=8*k+900) (dO.mono (by omega)) (fk.mono (by omega)) (e3.mono (by omega)) (e6.mono (by omega)) (yw8 cR) (by omega)) ?_
   rintro iz iC ⟨⟨cT,cP,c5,da,cN,de,cW,cE,rfl,bz,bE,bP,bT⟩,eO⟩
   refine ⟨_,rfl,?_⟩
   replace hB:=hB.trans eO
   simp only [p3,p4]
   refine se ?_
   replace L3:=(cu.lc (L3.gr (dn.trans (dm.trans (dq.trans (dp.trans (dl.trans (dk.trans (c8.trans (cJ.trans (cB.trans (cC.trans (cy.trans (cx.trans (cq.trans (ct.trans (cg.trans (ch.trans (cl.trans (cm.trans (ck.trans (cj.trans (ce.trans (cd.trans (b8.trans (b9.trans (bY.trans (b6.trans (bU.trans (bH.trans (bv.trans (bp.trans (bK.trans (bV.trans (bk.trans (bn.trans (bq.trans (bm.trans (bt.trans (bj.trans (bu.trans (bo.trans (bG.trans (bX.trans (bZ.trans (b4.trans (cc.trans ca)))))))))))))))))))))))))))))))))))))))))))))) cS).gr (b7.trans eO)
   refine es 125 0 (.agg #[cT,cP,c5,da,cN,de,cW,cE]) [cT,cP,c5,da,cN,de,cW,cE] #[cT,cP,c5,da,cN,de,cW,cE] L3 hB q3 ⟨bz.one0,bz.one1,bE.one0,bE.one1,bP.one0,bP.one1,bT.one0,bT.one1,trivial⟩ fun hW fV f1 L3 hB=>?_
   refine za0 ?_
   refine fO _ _ ?_
   try clear fO gP
   refine wp_ret ?_
   replace L9:=(((((((((((((((((((((((((((((((((((((((((((((((((L9.gr dn).gr dm).gr dq).gr dp).gr dl).gr dk).gr c8).gr cJ).gr cB).gr cC).gr cy).gr cx).gr cq).gr ct).gr cg).gr ch).gr cl).gr cm).gr ck).gr cj).gr ce).gr cd).gr b8).gr b9).gr bY).gr b6).gr bU).gr bH).gr bv).gr bp).gr bK).gr bV).gr bk).gr bn).gr bq).gr bm).gr bt).gr bj).gr bu).gr bo).gr bG).gr bX).gr bZ).gr b4).gr cc).gr ca).st cu cU).gr b7).gr eO).st fV (Ne.symm dB)
   refine endN [D9] _ (List.Pairwise.cons (fun _ h=>absurd h (by simp)) List.Pairwise.nil) (List.forall_mem_cons.2 ⟨⟨Q9,L9⟩,(fun _ h=>absurd h (by simp))⟩) hB (fun iA d8 hB=>?_)
   replace L3:=d8.lc L3 (by decide)
   refine ⟨(.agg #[cT,cP,c5,da,cN,de,cW,cE]),(zb0 _ _ _ rfl rfl L3 (by kernel_rfl)),?_,hB⟩
   have dA:=f1.trans (d8.kp (by decide))
   replace bz:=bz.kp dA
   replace bE:=bE.kp dA
   replace bP:=bP.kp dA
   replace bT:=bT.kp dA
   exact (by rw [qrow1f cR];exact ⟨_,_,_,_,_,_,_,_,rfl,bz.mono (by omega),bE.mono (by omega),bP.mono (by omega),bT.mono (by omega)⟩)
 ·intro D c prs W _ h;exact h.elim

def cMEq:ConT:=con2 zH1 zH1 fun
 | [(k0,a0),(k1,a1),(k2,a2),(k3,a3),(k4,a4),(k5,a5),(k6,a6),(k7,a7),(k8,a8),(k9,a9),(k10,a10),(k11,a11)],[(m0,b0),(m1,b1),(m2,b2),(m3,b3),(m4,b4),(m5,b5),(m6,b6),(m7,b7),(m8,b8),(m9,b9),(m10,b10),(m11,b11)],_,_=>tr (Nat.ble k0 40000&&Nat.ble k1 40000&&Nat.ble k2 40000&&Nat.ble k3 40000&&Nat.ble k4 40000&&Nat.ble k5 40000&&Nat.ble k6 40000&&Nat.ble k7 40000&&Nat.ble k8 40000&&Nat.ble k9 40000&&Nat.ble k10 40000&&Nat.ble k11 40000&&Nat.ble m0 40000&&Nat.ble m1 40000&&Nat.ble m2 40000&&Nat.ble m3 40000&&Nat.ble m4 40000&&Nat.ble m5 40000&&Nat.ble m6 40000&&Nat.ble m7 40000&&Nat.ble m8 40000&&Nat.ble m9 40000&&Nat.ble m10 40000&&Nat.ble m11 40000) (.leaf (.so (.vc (.cb (decide ([a0,a1,a2,a3,a4,a5,a6,a7,a8,a9,a10,a11]=[b0,b1,b2,b3,b4,b5,b6,b7,b8,b9,b10,b11])) none))) 0 0)
 | _,_,_,_=>none
def cTurn:ConT:=zY3 zH1 fun
 | [(k0,a0),(k1,a1),(k2,a2),(k3,a3),(k4,a4),(k5,a5),(k6,a6),(k7,a7),(k8,a8),(k9,_a9),(k10,_a10),(k11,_a11)],_,nz=>tr (Nat.ble k0 800&&Nat.ble k1 800&&Nat.ble k2 800&&Nat.ble k3 800&&Nat.ble k4 800&&Nat.ble k5 800&&Nat.ble k6 800&&Nat.ble k7 800&&Nat.ble k8 800&&Nat.ble k9 100000&&Nat.ble k10 100000&&Nat.ble k11 100000) (.leaf (zY8 nz 40128 (wzq (zH8 a0 a1 a2 a3 a4 a5 a6 a7 a8) 0) (wzq (zH8 a0 a1 a2 a3 a4 a5 a6 a7 a8) 1) (wzq (zH8 a0 a1 a2 a3 a4 a5 a6 a7 a8) 2) (wzq (zH8 a0 a1 a2 a3 a4 a5 a6 a7 a8) 3)) 0 4)
 | _,_,_=>none
section
variable {I:World→Prop}
theorem yl1:ConOK Tryz.prog I 16 cMEq:=zk1 fun _ _ _ _ _ _ _ _ _ h1 h2 hx hy hT _=>by
 split at hT
 ·obtain ⟨hb,rfl⟩:=zd5 hT
  simp only [Bool.and_eq_true,Nat.ble_eq] at hb
  obtain ⟨vs,e1,hA⟩:=zp4 h1 hx
  obtain ⟨us,e2,hB⟩:=zp4 h2 hy
  rw [e1,e2]
  obtain ⟨bw,bd,cH,cJ,cx,rfl,ai,hA⟩:=hA.cons
  obtain ⟨cg,bH,bQ,cM,b4,rfl,aD,hA⟩:=hA.cons
  obtain ⟨cG,bE,cC,cT,cL,rfl,al,hA⟩:=hA.cons
  obtain ⟨ck,cO,bD,bv,bU,rfl,aB,hA⟩:=hA.cons
  obtain ⟨ct,bc,aZ,cq,bi,rfl,af,hA⟩:=hA.cons
  obtain ⟨bu,a7,bp,cu,a8,rfl,ay,hA⟩:=hA.cons
  obtain ⟨bX,a1,bh,b5,co,rfl,ae,hA⟩:=hA.cons
  obtain ⟨bx,bg,bK,a5,cm,rfl,aA,hA⟩:=hA.cons
  obtain ⟨bP,bY,bF,bf,bn,rfl,aq,hA⟩:=hA.cons
  obtain ⟨bJ,bS,cA,cS,cB,rfl,av,hA⟩:=hA.cons
  obtain ⟨aJ,aO,aX,aV,aE,rfl,ab,hA⟩:=hA.cons
  obtain ⟨aF,aH,aI,aK,aM,rfl,ac,hA⟩:=hA.cons
  obtain rfl:=hA.nil
  replace ai:=ai.mono (m:=40000) (by omega)
  replace aD:=aD.mono (m:=40000) (by omega)
  replace al:=al.mono (m:=40000) (by omega)
  replace aB:=aB.mono (m:=40000) (by omega)
  replace af:=af.mono (m:=40000) (by omega)
  replace ay:=ay.mono (m:=40000) (by omega)
  replace ae:=ae.mono (m:=40000) (by omega)
  replace aA:=aA.mono (m:=40000) (by omega)
  replace aq:=aq.mono (m:=40000) (by omega)
  replace av:=av.mono (m:=40000) (by omega)
  replace ab:=ab.mono (m:=40000) (by omega)
  replace ac:=ac.mono (m:=40000) (by omega)
  obtain ⟨bt,a9,bL,bR,bG,rfl,ax,hB⟩:=hB.cons
  obtain ⟨bj,cQ,a4,a3,cj,rfl,aj,hB⟩:=hB.cons
  obtain ⟨bk,bo,b7,a2,bC,rfl,aw,hB⟩:=hB.cons
  obtain ⟨bm,bZ,bA,cD,cN,rfl,ah,hB⟩:=hB.cons
  obtain ⟨cl,bW,cF,ca,cP,rfl,ar,hB⟩:=hB.cons
  obtain ⟨cE,cc,bb,b9,cd,rfl,ap,hB⟩:=hB.cons
  obtain ⟨bO,bN,cy,ba,a6,rfl,az,hB⟩:=hB.cons
  obtain ⟨ce,a0,cR,bB,bT,rfl,aC,hB⟩:=hB.cons
  obtain ⟨cn,cK,ch,bq,bM,rfl,au,hB⟩:=hB.cons
  obtain ⟨aY,b8,b6,bV,bz,rfl,ak,hB⟩:=hB.cons
  obtain ⟨aQ,aL,aT,aG,aW,rfl,ad,hB⟩:=hB.cons
  obtain ⟨aN,aU,aP,aR,aS,rfl,aa,hB⟩:=hB.cons
  obtain rfl:=hB.nil
  replace ax:=ax.mono (m:=40000) (by omega)
  replace aj:=aj.mono (m:=40000) (by omega)
  replace aw:=aw.mono (m:=40000) (by omega)
  replace ah:=ah.mono (m:=40000) (by omega)
  replace ar:=ar.mono (m:=40000) (by omega)
  replace ap:=ap.mono (m:=40000) (by omega)
  replace az:=az.mono (m:=40000) (by omega)
  replace aC:=aC.mono (m:=40000) (by omega)
  replace au:=au.mono (m:=40000) (by omega)
  replace ak:=ak.mono (m:=40000) (by omega)
  replace ad:=ad.mono (m:=40000) (by omega)
  replace aa:=aa.mono (m:=40000) (by omega)
  exact (mequal (k:=40000) (m:=40000) ai aD al aB af ay ae aA aq av ab ac ax aj aw ah ar ap az aC au ak ad aa (by decide)).mono fun e w' he=>zc4 he ⟨rfl,fun v hv=>by cases hv⟩
 ·cases hT
theorem ya1:ConOK Tryz.prog I 67 cTurn:=zg1 fun _ _ _ _ _ _ _ h1 h2 hT _=>by
 split at hT
 ·obtain ⟨hb,rfl⟩:=zd5 hT
  simp only [Bool.and_eq_true,Nat.ble_eq] at hb
  obtain ⟨vs,e1,hA⟩:=zp4 h1 h2
  rw [e1]
  obtain ⟨aR,aI,bk,bm,bf,rfl,ae,hA⟩:=hA.cons
  obtain ⟨a7,aW,a0,bo,a5,rfl,ap,hA⟩:=hA.cons
  obtain ⟨bj,aU,bi,bt,bn,rfl,af,hA⟩:=hA.cons
  obtain ⟨a8,bp,aT,aQ,a2,rfl,al,hA⟩:=hA.cons
  obtain ⟨bc,aH,aC,bb,aM,rfl,ad,hA⟩:=hA.cons
  obtain ⟨aP,aF,aO,bd,aG,rfl,aj,hA⟩:=hA.cons
  obtain ⟨a3,aD,aL,a6,ba,rfl,ac,hA⟩:=hA.cons
  obtain ⟨aS,aK,aX,aE,a9,rfl,ak,hA⟩:=hA.cons
  obtain ⟨aZ,a4,aV,aJ,aN,rfl,ah,hA⟩:=hA.cons
  obtain ⟨aY,a1,bg,bq,bh,rfl,ai,hA⟩:=hA.cons
  obtain ⟨aw,az,aB,aA,aq,rfl,aa,hA⟩:=hA.cons
  obtain ⟨ar,au,av,ax,ay,rfl,ab,hA⟩:=hA.cons
  obtain rfl:=hA.nil
  replace ae:=ae.mono (m:=800) (by omega)
  replace ap:=ap.mono (m:=800) (by omega)
  replace af:=af.mono (m:=800) (by omega)
  replace al:=al.mono (m:=800) (by omega)
  replace ad:=ad.mono (m:=800) (by omega)
  replace aj:=aj.mono (m:=800) (by omega)
  replace ac:=ac.mono (m:=800) (by omega)
  replace ak:=ak.mono (m:=800) (by omega)
  replace ah:=ah.mono (m:=800) (by omega)
  replace ai:=ai.mono (m:=100000) (by omega)
  replace aa:=aa.mono (m:=100000) (by omega)
  replace ab:=ab.mono (m:=100000) (by omega)
  exact (mturnq (k:=800) (ks:=100000) ae ap af al ad aj ac ak ah ai aa ab (by decide) (by decide)).mono fun e w' he=>zO3 he
 ·cases hT
end
end Go.Proofs.YtaldbfflkpgfoaaGreatDoor
