/- Joined of: Syd, Sye, Gen124, Gen125, Gen94, Gen122, Gen126, Qu, Gen100, Gen127, Gen128, Law, Law2, Law3, Gen120, Gen130, Pl2, Mat. -/
import Derived.Test.YtaldbfflkpgfoaaGreatDoorPartF
import Derived.Test.YtaldbfflkpgfoaaGreatDoorPartE
import Derived.Test.YtaldbfflkpgfoaaGreatDoorPartD
import Derived.Test.YtaldbfflkpgfoaaGreatDoorPartC
import Derived.ProofKit
import Derived.Below
import Derived.Deep.DeepHandedRow
import Derived.Lib.LaidTab
import Derived.Stop.LaidErr
import Derived.LaidSub
import Derived.Lay
import Derived.MakeChecks
import Derived.SizedLaws
import Derived.ChangeArms
import Derived.OpenShut
/- A run on symbols:contracts of motions. -/
namespace Go.Proofs.YtaldbfflkpgfoaaGreatDoor
open Go.RowKit

/-- all rationals of a row of cells -/
def rats:List Cl→Option (List (Nat × Rat))
  | []=>some []
  | .cr j 0 k q::.cr j1 1 _ _::.cr j2 2 _ _::.cr j3 3 _ _::r=>if Nat.beq j1 j&&Nat.beq j2 j&&Nat.beq j3 j then (match rats r with | some l=>some ((k,q)::l) | none=>none) else none
  | a::b::c::d::r=>if falC a&&nilC b&&falC c&&nilC d then (match rats r with | some l=>some ((64,0)::l) | none=>none) else none
  | _=>none
/-- that the values are these rationals -/
def IsRats (w:World):List Value→List (Nat × Rat)→Prop
  | [],[]=>True
  | a::b::c::d::v,x::l=>IsRat w x.1 a b c d x.2∧IsRats w v l
  | _,_=>False
theorem rats_ok {n:Nn} {X:Env} {w:World}:∀ {l:List Cl} {r:List (Nat × Rat)},rats l=some r→okL n X w l→IsRats w (l.map (Cl.den X)) r
  | l,r,h,hl=>by
    unfold rats at h
    split at h
    · cases h;trivial
    · rename_i j k q j1 _ _ j2 _ _ j3 _ _ t
      split at h
      · rename_i hj
        simp only [Bool.and_eq_true,Nat.beq_eq] at hj
        obtain ⟨⟨rfl,rfl⟩,rfl⟩:=hj
        split at h
        · rename_i l' hr
          cases h
          exact ⟨(hl (.cr j3 0 k q) (by simp)).2,rats_ok hr fun c hc=>hl c (by simp [hc])⟩
        · cases h
      · cases h
    · rename_i a b c d t _
      split at h
      · rename_i hh
        simp only [Bool.and_eq_true] at hh
        obtain ⟨⟨⟨h1,h2⟩,h3⟩,h4⟩:=hh
        split at h
        · rename_i l' hr
          cases h
          refine ⟨?_,rats_ok hr fun c hc=>hl c (by simp [hc])⟩
          rw [falC_den h1 (hl a (by simp)),nilC_den h2,falC_den h3 (hl c (by simp)),nilC_den h4]
          exact IsRat.zero w (Nat.le_refl _)
        · cases h
      · cases h
    · cases h
def asRats:SV→Option (List (Nat × Rat))
  | .so (.vg l)=>rats l
  | _=>none
theorem asRats_ok {n:Nn} {X:Env} {w:World} {v:SV} {r:List (Nat × Rat)} (h:asRats v=some r) (hv:v.ok n X w):∃ vs,v.den X=.agg vs.toArray∧IsRats w vs r:=by
  unfold asRats at h
  split at h
  · exact ⟨_,rfl,rats_ok h hv⟩
  · cases h
theorem IsRats.cons {w:World} {v:List Value} {x:Nat × Rat} {l:List (Nat × Rat)} (h:IsRats w v (x::l)):∃ a b c d u,v=a::b::c::d::u∧IsRat w x.1 a b c d x.2∧IsRats w u l:=by
  match v,h with
  | a::b::c::d::u,h=>exact ⟨a,b,c,d,u,rfl,h.1,h.2⟩
theorem IsRats.nil {w:World} {v:List Value} (h:IsRats w v []):v=[]:=by
  cases v with
  | nil=>rfl
  | cons a v=>simp [IsRats] at h
/-- four new integers -/
def newInts (j k:Nat) (z0 z1 z2 z3:Int):SV:=.so (.vg [.cz j 0 k z0,.cz j 1 k z0,.cz (j+1) 0 k z1,.cz (j+1) 1 k z1,.cz (j+2) 0 k z2,.cz (j+2) 1 k z2,.cz (j+3) 0 k z3,.cz (j+3) 1 k z3])
theorem newInts_holds {n:Nn} {X:Env} {w w':World} {e:Ending} {k:Nat} {z0 z1 z2 z3:Int} (h:(∃ t0 t1 t2 t3 t4 t5 t6 t7,e=.returned (.agg #[t0,t1,t2,t3,t4,t5,t6,t7])∧IsInt w' k t0 t1 z0∧IsInt w' k t2 t3 z1∧IsInt w' k t4 t5 z2∧IsInt w' k t6 t7 z3)∧Gr w w'):
    (Tr.leaf (newInts n.z k z0 z1 z2 z3) 0 4).holds n X w e w':=by
  obtain ⟨⟨t0,t1,t2,t3,t4,t5,t6,t7,rfl,h0,h1,h2,h3⟩,g⟩:=h
  let Y:Env:={X with Z:=fun i c=>if i<n.z then X.Z i c else ([t0,t1,t2,t3,t4,t5,t6,t7]:List Value).getD (2*(i - n.z)+c) undef}
  have e0:∀ i c,Y.Z (n.z+i) c=([t0,t1,t2,t3,t4,t5,t6,t7]:List Value).getD (2*i+c) undef:=fun i c=>by
    show (if n.z+i<n.z then _ else _)=_
    rw [if_neg (by omega),Nat.add_sub_cancel_left]
  have aa:∀ c,Y.Z n.z c=([t0,t1,t2,t3,t4,t5,t6,t7]:List Value).getD c undef:=fun c=>by have:=e0 0 c;simpa using this
  refine ⟨Y,?_,g,⟨fun _ _=>rfl,fun _ _ _=>rfl,fun i c hi=>(if_pos hi).symm,rfl⟩,fun c hc=>?_⟩
  · simp [newInts,SV.den,TV.den,dnL,Cl.den,e0,aa]
  · simp only [List.mem_cons,List.not_mem_nil,or_false] at hc
    have l0:Nat.blt n.z (n.z+4)=true:=blt_to (by omega)
    have l1:Nat.blt (n.z+1) (n.z+4)=true:=blt_to (by omega)
    have l2:Nat.blt (n.z+2) (n.z+4)=true:=blt_to (by omega)
    have l3:Nat.blt (n.z+3) (n.z+4)=true:=blt_to (by omega)
    rcases hc with rfl | rfl | rfl | rfl | rfl | rfl | rfl | rfl<;>refine ⟨by simp only [Cl.lt,l0,l1,l2,l3];rfl,?_⟩<;>simp only [Cl.good,e0,aa]<;>assumption
def in12 (lo hi:Int):Bool:=ile (-12) lo&&ile hi 12
theorem in12_ok {z lo hi:Int} (h:in12 lo hi=true) (h0:lo≤z∧z≤hi):-12≤z∧z≤12:=by
  unfold in12 at h
  simp only [ile_eq,Bool.and_eq_true,decide_eq_true_eq] at h
  omega
def cChk:ConT:=fun args _ _=>match args with
  | [.so (.vg [.ci .i64 q0 l0 h0,.ci .i64 q1 l1 h1,.ci .i64 q2 l2 h2,.ci .i64 q3 l3 h3,c1,c2,c3])]=>match txC c1,txC c2,txC c3 with
    | some (k1,_x1),some (k2,_x2),some (k3,_x3)=>tr (in12 l0 h0&&in12 l1 h1&&in12 l2 h2&&in12 l3 h3&&Nat.ble k1 64&&Nat.ble k2 64&&Nat.ble k3 64) (.as (decide (chk q0 q1 q2 q3 0=0)) (.leaf (.so (.vc (.ci .i64 0 0 0))) 0 0))
    | _,_,_=>none
  | _=>none
theorem cChk_ok {I:World→Prop} (hI:∀ w,I w→Mx w):ConOK Tryz.prog I 15 cChk:=by
  intro args E n w T hw ha hT hp
  unfold cChk at hT
  split at hT
  · rename_i q0 l0 h0 q1 l1 h1 q2 l2 h2 q3 l3 h3 c1 c2 c3
    split at hT
    · rename_i k1 x1 k2 x2 k3 x3 e1 e2 e3
      obtain ⟨hb,rfl⟩:=tr_some hT
      simp only [Bool.and_eq_true,Nat.ble_eq] at hb
      obtain ⟨⟨⟨⟨⟨⟨b0,b1⟩,b2⟩,b3⟩,b4⟩,b5⟩,b6⟩:=hb
      have g:=fun c hc=>ha _ (List.mem_singleton.2 rfl) c hc
      obtain ⟨d1,s1⟩:=txC_ok e1 (g c1 (by simp))
      obtain ⟨d2,s2⟩:=txC_ok e2 (g c2 (by simp))
      obtain ⟨d3,s3⟩:=txC_ok e3 (g c3 (by simp))
      have s1:=s1.mono b4
      have s2:=s2.mono b5
      have s3:=s3.mono b6
      have le:∀ {x:Rat},RS 64 x→((ratL x).length:Int)≤400:=fun h=>by have:=ratL_len h.1 h.2;omega
      show Calls _ _ #[.agg #[.int .i64 q0,.int .i64 q1,.int .i64 q2,.int .i64 q3,c1.den E,c2.den E,c3.den E]] w _
      rw [d1,d2,d3]
      refine (mcheckr (in12_ok b0 (g (.ci .i64 q0 l0 h0) (by simp)).2) (in12_ok b1 (g (.ci .i64 q1 l1 h1) (by simp)).2) (in12_ok b2 (g (.ci .i64 q2 l2 h2) (by simp)).2) (in12_ok b3 (g (.ci .i64 q3 l3 h3) (by simp)).2) x1 x2 x3 s1 s2 s3 (le s1) (le s2) (le s3) w (hI w hw)).mono fun e w' he=>?_
      rw [of_decide_eq_true hp.1] at he
      exact val_holds he ⟨rfl,Int.le_refl _,Int.le_refl _⟩
    · cases hT
  · cases hT
/-- the greatest magnitude between bounds -/
def mag4 (l h:Int):Int:=max (-l) h
def inP (l h:Int):Bool:=ile (-1099511627776) l&&ile h 1099511627776
theorem inP_ok {z lo hi:Int} (h:inP lo hi=true) (h0:lo≤z∧z≤hi):-1099511627776≤z∧z≤1099511627776:=by
  unfold inP at h
  simp only [ile_eq,Bool.and_eq_true,decide_eq_true_eq] at h
  omega
def primC (q0 q1 q2 q3 q l h:Int):Cl:=.ci .i64 (qprim q0 q1 q2 q3 q) (-mag4 l h) (mag4 l h)
theorem primC_ok {n:Nn} {X:Env} {w:World} {q0 q1 q2 q3 q l h:Int} (hn:¬(q0=0∧q1=0∧q2=0∧q3=0)) (h0:l≤q∧q≤h):(primC q0 q1 q2 q3 q l h).ok n X w:=by
  refine ⟨rfl,?_⟩
  have:=qprim_le (n:=q) hn
  show -mag4 l h≤_∧_≤mag4 l h
  unfold mag4
  omega
def cPrim:ConT:=fun args _ _=>match args with
  | [.so (.vg [.ci .i64 q0 l0 h0,.ci .i64 q1 l1 h1,.ci .i64 q2 l2 h2,.ci .i64 q3 l3 h3])]=>
    tr (inP l0 h0&&inP l1 h1&&inP l2 h2&&inP l3 h3) (.as (decide (¬(q0=0∧q1=0∧q2=0∧q3=0))) (.leaf (.so (.vg [primC q0 q1 q2 q3 q0 l0 h0,primC q0 q1 q2 q3 q1 l1 h1,primC q0 q1 q2 q3 q2 l2 h2,primC q0 q1 q2 q3 q3 l3 h3])) 0 0))
  | _=>none
theorem cPrim_ok {I:World→Prop}:ConOK Tryz.prog I 66 cPrim:=by
  intro args E n w T _ ha hT hp
  unfold cPrim at hT
  split at hT
  · rename_i q0 l0 h0 q1 l1 h1 q2 l2 h2 q3 l3 h3
    obtain ⟨hb,rfl⟩:=tr_some hT
    simp only [Bool.and_eq_true] at hb
    obtain ⟨⟨⟨b0,b1⟩,b2⟩,b3⟩:=hb
    have h:=ha _ (List.mem_singleton.2 rfl)
    have g:=fun c hc=>h c hc
    have hn:=of_decide_eq_true hp.1
    have g0:=(g (.ci .i64 q0 l0 h0) (by simp)).2
    have g1:=(g (.ci .i64 q1 l1 h1) (by simp)).2
    have g2:=(g (.ci .i64 q2 l2 h2) (by simp)).2
    have g3:=(g (.ci .i64 q3 l3 h3) (by simp)).2
    refine (r7_primitive q0 q1 q2 q3 (inP_ok b0 g0) (inP_ok b1 g1) (inP_ok b2 g2) (inP_ok b3 g3) hn w).mono fun e w' he=>val_holds he fun c hc=>?_
    simp only [List.mem_cons,List.not_mem_nil,or_false] at hc
    rcases hc with rfl | rfl | rfl | rfl
    · exact primC_ok hn g0
    · exact primC_ok hn g1
    · exact primC_ok hn g2
    · exact primC_ok hn g3
  · cases hT
end Go.Proofs.YtaldbfflkpgfoaaGreatDoor
/- A run on symbols:described placements and their rotations,by name. -/
namespace Go.Proofs.YtaldbfflkpgfoaaGreatDoor
open Go.RowKit

theorem tmod13 (t:Int):-12≤Int.tmod t 13∧Int.tmod t 13≤12:=by
  have h1:=Int.tmod_lt_of_pos t (show (0:Int)<13 by decide)
  have h2:=Int.tmod_lt_of_pos (-t) (show (0:Int)<13 by decide)
  rw [Int.neg_tmod] at h2
  omega
/-- the numbers of a described turn,at first and primitive -/
def mq0 (t0 t1 t2 t3:Int):Int:=if conjL [Int.tmod t0 13,Int.tmod t1 13,Int.tmod t2 13,Int.tmod t3 13] [0,0,0,0] then 1 else Int.tmod t0 13
def qd (t0 t1 t2 t3:Int):Nat→Int
  | 0=>qprim (mq0 t0 t1 t2 t3) (Int.tmod t1 13) (Int.tmod t2 13) (Int.tmod t3 13) (mq0 t0 t1 t2 t3)
  | 1=>qprim (mq0 t0 t1 t2 t3) (Int.tmod t1 13) (Int.tmod t2 13) (Int.tmod t3 13) (Int.tmod t1 13)
  | 2=>qprim (mq0 t0 t1 t2 t3) (Int.tmod t1 13) (Int.tmod t2 13) (Int.tmod t3 13) (Int.tmod t2 13)
  | _=>qprim (mq0 t0 t1 t2 t3) (Int.tmod t1 13) (Int.tmod t2 13) (Int.tmod t3 13) (Int.tmod t3 13)
theorem conj4 (a b c d:Int):conjL [a,b,c,d] [0,0,0,0]=decide (a=0∧b=0∧c=0∧d=0):=by
  rw [Bool.eq_iff_iff,decide_eq_true_eq]
  simp [conjL,eqL,and_assoc]
theorem mq_ne (t0 t1 t2 t3:Int):¬(mq0 t0 t1 t2 t3=0∧Int.tmod t1 13=0∧Int.tmod t2 13=0∧Int.tmod t3 13=0):=by
  unfold mq0
  rw [conj4]
  split
  · rintro ⟨h,_⟩;exact absurd h (by decide)
  · rename_i h;exact fun g=>h (decide_eq_true g)
theorem mq0_le (t0 t1 t2 t3:Int):-12≤mq0 t0 t1 t2 t3∧mq0 t0 t1 t2 t3≤12:=by
  unfold mq0
  split
  · decide
  · exact tmod13 t0
theorem qd_vt (t0 t1 t2 t3:Int):VT (qd t0 t1 t2 t3 0) (qd t0 t1 t2 t3 1) (qd t0 t1 t2 t3 2) (qd t0 t1 t2 t3 3):=by
  have hn:=mq_ne t0 t1 t2 t3
  have b0:=mq0_le t0 t1 t2 t3
  have b1:=tmod13 t1
  have b2:=tmod13 t2
  have b3:=tmod13 t3
  simp only [qd]
  generalize mq0 t0 t1 t2 t3=m0 at*
  have l0:=qprim_le (n:=m0) hn
  have l1:=qprim_le (n:=Int.tmod t1 13) hn
  have l2:=qprim_le (n:=Int.tmod t2 13) hn
  have l3:=qprim_le (n:=Int.tmod t3 13) hn
  obtain ⟨g,s⟩:=qprim_ok hn
  exact ⟨by omega,by omega,by omega,by omega,g,s⟩
/-- a small number -/
def sq (i d:Int):Rat:=(i:Rat)/((1+d % 6:Int):Rat)
/-- the entries of a rotation -/
def roN (w x y z:Int):Nat→Int
  | 0=>w*w+x*x - y*y - z*z
  | 1=>2*(x*y - w*z)
  | 2=>2*(x*z+w*y)
  | 3=>2*(x*y+w*z)
  | 4=>w*w - x*x+y*y - z*z
  | 5=>2*(y*z - w*x)
  | 6=>2*(x*z - w*y)
  | 7=>2*(y*z+w*x)
  | _=>w*w - x*x - y*y+z*z
def roE (w x y z:Int) (k:Nat):Rat:=((roN w x y z k:Int):Rat)/((w*w+x*x+y*y+z*z:Int):Rat)
theorem nn_ne {w x y z:Int} (h:VT w x y z):((w*w+x*x+y*y+z*z:Int):Rat)≠0:=by
  have:=nq_posI h.ne
  intro e
  have:w*w+x*x+y*y+z*z=0:=by exact_mod_cast e
  omega
theorem roE_rot {w x y z:Int} (h:VT w x y z):RotQ (roE w x y z 0) (roE w x y z 1) (roE w x y z 2) (roE w x y z 3) (roE w x y z 4) (roE w x y z 5) (roE w x y z 6) (roE w x y z 7) (roE w x y z 8) w x y z:=by
  have hn:=nn_ne h
  have c:((w*w+x*x+y*y+z*z:Int):Rat)=(w:Rat)*w+x*x+y*y+z*z:=by simp only [Rat.intCast_add,Rat.intCast_mul]
  have key:∀ k,roE w x y z k*((w:Rat)*w+x*x+y*y+z*z)=((roN w x y z k:Int):Rat):=fun k=>by
    unfold roE
    rw [← c,Rat.div_mul_cancel hn]
  constructor<;>rw [key]<;>simp only [roN,Rat.intCast_add,Rat.intCast_sub,Rat.intCast_mul]<;>rfl
theorem roE_rs {w x y z:Int} (h:VT w x y z):∀ k,RS 50 (roE w x y z k):=by
  have b0:=h.b0;have b1:=h.b1;have b2:=h.b2;have b3:=h.b3
  obtain ⟨h0,h1,h2,h3,h4,h5,h6,h7,h8⟩:=rotq_rs h.ne (by omega) (by omega) (by omega) (by omega) (roE_rot h)
  intro k
  match k with
  | 0=>exact h0
  | 1=>exact h1
  | 2=>exact h2
  | 3=>exact h3
  | 4=>exact h4
  | 5=>exact h5
  | 6=>exact h6
  | 7=>exact h7
  | k+8=>exact h8
theorem one_div {N n:Rat}:((1:Int):Rat)/N*n=n/N:=by
  rw [Rat.div_def,Rat.div_def,Rat.mul_comm n]
  congr 1
  exact Rat.one_mul _

/-! ### rows of rationals that come back -/
def Conv:List (Nat × Rat)→List (Nat × Rat)→Prop
  | [],[]=>True
  | (_,q)::l,(m,r)::l'=>(q=r∧RS m r∧64≤m)∧Conv l l'
  | _,_=>False
theorem IsRats.conv {w:World}:∀ {vs:List Value} {l l':List (Nat × Rat)},IsRats w vs l→Conv l l'→IsRats w vs l'
  | [],[],[],_,_=>trivial
  | a::b::c::d::vs,(k,q)::l,(m,r)::l',h,hc=>by
    obtain ⟨⟨rfl,h1,h2⟩,h3⟩:=hc
    exact ⟨h.1.tight h1 h2,IsRats.conv h.2 h3⟩
  | [],[],_::_,_,h=>by cases h
  | _,_::_,[],_,h=>by cases h
  | [],_::_,_::_,h,_=>by cases h
  | [_],_::_,_::_,h,_=>by cases h
  | [_,_],_::_,_::_,h,_=>by cases h
  | [_,_,_],_::_,_::_,h,_=>by cases h
  | _::_,[],_,h,_=>by simp [IsRats] at h
def cellsR:Nat→List (Nat × Rat)→List Cl
  | _,[]=>[]
  | j,(k,q)::l=>.cr j 0 k q::.cr j 1 k q::.cr j 2 k q::.cr j 3 k q::cellsR (j+1) l
def envV (X:Env) (n:Nat) (vs:List Value):Env:={X with R:=fun i c=>if i<n then X.R i c else vs.getD (4*(i - n)+c) undef}
theorem cellsR_ok {w:World} {X:Env} {n:Nn} (vs:List Value):∀ (l:List (Nat × Rat)) (us:List Value) (j m:Nat),IsRats w us l→vs.drop (4*j)=us→m=n.r+j+l.length→
    (cellsR (n.r+j) l).map (Cl.den (envV X n.r vs))=us∧okL ⟨n.b,m,n.z⟩ (envV X n.r vs) w (cellsR (n.r+j) l)
  | [],[],j,m,_,_,_=>⟨rfl,fun _ h=>by cases h⟩
  | (k,q)::l,a::b::c::d::us,j,m,h,hd,hm=>by
    have hR:∀ t,(envV X n.r vs).R (n.r+j) t=vs.getD (4*j+t) undef:=fun t=>by
      show (if n.r+j<n.r then _ else _)=_
      rw [if_neg (by omega),Nat.add_sub_cancel_left]
    have hg:∀ t,vs.getD (4*j+t) undef=(a::b::c::d::us).getD t undef:=fun t=>by
      rw [← hd,List.getD_eq_getElem?_getD,List.getD_eq_getElem?_getD,List.getElem?_drop]
    have e0:(envV X n.r vs).R (n.r+j) 0=a:=by rw [hR,hg];rfl
    have e1:(envV X n.r vs).R (n.r+j) 1=b:=by rw [hR,hg];rfl
    have e2:(envV X n.r vs).R (n.r+j) 2=c:=by rw [hR,hg];rfl
    have e3:(envV X n.r vs).R (n.r+j) 3=d:=by rw [hR,hg];rfl
    simp only [List.length_cons] at hm
    obtain ⟨i1,i2⟩:=cellsR_ok (X:=X) (n:=n) vs l us (j+1) m h.2 (by
      have:=congrArg (List.drop 4) hd
      rw [List.drop_drop] at this
      simpa [Nat.mul_add] using this) (by omega)
    refine ⟨?_,fun x hx=>?_⟩
    · simp only [cellsR,List.map_cons,Cl.den,e0,e1,e2,e3]
      rw [show n.r+j+1=n.r+(j+1) by omega,i1]
    · have hl:Nat.blt (n.r+j) m=true:=blt_to (by omega)
      have hq:IsRat w k ((envV X n.r vs).R (n.r+j) 0) ((envV X n.r vs).R (n.r+j) 1) ((envV X n.r vs).R (n.r+j) 2) ((envV X n.r vs).R (n.r+j) 3) q:=by rw [e0,e1,e2,e3];exact h.1
      simp only [cellsR,List.mem_cons] at hx
      rcases hx with rfl | rfl | rfl | rfl | hx
      · exact ⟨by simp only [Cl.lt,hl];rfl,hq⟩
      · exact ⟨by simp only [Cl.lt,hl];rfl,hq⟩
      · exact ⟨by simp only [Cl.lt,hl];rfl,hq⟩
      · exact ⟨by simp only [Cl.lt,hl];rfl,hq⟩
      · exact i2 x (by rw [show n.r+(j+1)=n.r+j+1 by omega];exact hx)
  | _::_,[],_,_,h,_,_=>by cases h
  | _::_,[_],_,_,h,_,_=>by cases h
  | _::_,[_,_],_,_,h,_,_=>by cases h
  | _::_,[_,_,_],_,_,h,_,_=>by cases h
  | [],_::_,_,_,h,_,_=>by simp [IsRats] at h
theorem envV_agr (X:Env) (n:Nn) (vs:List Value):Agr n X (envV X n.r vs):=⟨fun _ _=>rfl,fun _ _ hi=>(if_pos hi).symm,fun _ _ _=>rfl,rfl⟩
end Go.Proofs.YtaldbfflkpgfoaaGreatDoor
/- Printed by a program of the prover's:described placements. -/
namespace Go.Proofs.YtaldbfflkpgfoaaGreatDoor
open Go.RowKit

/-- how the regions that draw their order are run -/
noncomputable def tabQ:List (Nat × List (Nat × Ent)):=[(21,[(12,.ord [(true,0),(true,1),(true,2),(true,3),(true,4),(true,5),(true,6),(true,8),(true,9),(true,10),(true,11),(true,12),(true,13),(false,7),(false,14),(false,15),(true,16),(false,17)] [5]),(13,.ord [(true,0),(true,2),(false,1),(false,3),(true,4),(false,5)] [2])]),
 (45,[])]
noncomputable def conQ:List (Nat × ConT):=[(103,conRR 100000 (fun k m=>k+m+1) (fun a b=>a+b)),
 (75,conRR 100000 (fun k m=>k+m+1) (fun a b=>a - b)),
 (82,conRR 100000 (fun k m=>k+m) (fun a b=>a*b)),
 (108,cNeg),
 (59,cFrom),
 (37,cComp),
 (76,cSign),
 (87,cNumb),
 (130,cNum),
 (81,cDen),
 (58,cDiv),
 (96,cZFrom),
 (80,cZMul),
 (122,cZGcd),
 (123,cZDiv),
 (68,cZInt),
 (105,cTT (fun k m=>k+m+1) fun a b=>a+b),
 (132,cTT (fun k m=>k+m+1) fun a b=>a - b),
 (106,cTT (fun k m=>k+m) fun a b=>a*b),
 (64,cTDiv),
 (115,cTNeg),
 (65,cTFrom),
 (94,cPars 400),
 (107,cPars 65536),
 (15,cChk),
 (66,cPrim)]
noncomputable def sysQ:Sys:=⟨Tryz.prog,2,199,tabQ,conQ,fun w=>Tab w∧Mx w⟩
theorem sysQ_ok:sysQ.OK where
  mixed:=by kernel_rfl
  calls:=fun f h0 h1=>by
    have:(List.range 199).all (fun f=>Nat.blt f 2||okCall Tryz.prog f)=true:=by kernel_rfl
    have:=List.all_eq_true.1 this f (List.mem_range.2 h1)
    simp only [Bool.or_eq_true] at this
    exact this.resolve_left (fun e=>by have:=blt_of e;exact absurd h0 (by show ¬ 2≤f;omega))
  tab:=by
    have:tabQ.all (okTab Tryz.prog)=true:=by kernel_rfl
    exact fun x hx=>List.all_eq_true.1 this x hx
  lps:=lps_no (by kernel_rfl)
  con:=fun x hx=>by
    simp only [sysQ,conQ,List.mem_cons,List.not_mem_nil,or_false] at hx
    rcases hx with rfl | rfl | rfl | rfl | rfl | rfl | rfl | rfl | rfl | rfl | rfl | rfl | rfl | rfl | rfl | rfl | rfl | rfl | rfl | rfl | rfl | rfl | rfl | rfl | rfl | rfl
    · exact conRR_ok fun h1 h2 h3=>add_r h1 h2 h3
    · exact conRR_ok fun h1 h2 h3=>sub_r h1 h2 h3
    · exact conRR_ok fun h1 h2 h3=>mul_r h1 h2 h3
    · exact cNeg_ok
    · exact cFrom_ok
    · exact cComp_ok
    · exact cSign_ok
    · exact cNumb_ok fun w h=>h.1
    · exact cNum_ok
    · exact cDen_ok
    · exact cDiv_ok
    · exact cZFrom_ok
    · exact cZMul_ok
    · exact cZGcd_ok
    · exact cZDiv_ok
    · exact cZInt_ok
    · exact cTAdd_ok
    · exact cTSub_ok
    · exact cTMul_ok
    · exact cTDiv_ok
    · exact cTNeg_ok
    · exact cTFrom_ok
    · exact cPars_ok fun w h=>h.2
    · exact cRead_ok fun w h=>h.2
    · exact cChk_ok fun w h=>h.2
    · exact cPrim_ok
  inv:=fun w w' h g=>⟨h.1.gr g,h.2.gr g⟩
def treeP (t0 t1 t2 t3 i1 i2 i3 d:Int):Lf:=.br (conjL [Int.tmod t0 13,Int.tmod t1 13,Int.tmod t2 13,Int.tmod t3 13] [0,0,0,0])
  (.as (decide (((1+d % 6:Int):Rat)≠0)) true (.as (decide (((1+d % 6:Int):Rat)≠0)) true (.as (decide (((1+d % 6:Int):Rat)≠0)) true (.as (decide ¬((1:Int)=0∧Int.tmod t1 13=0∧Int.tmod t2 13=0∧Int.tmod t3 13=0)) true (.ret (.so (.vg [primC 1 (Int.tmod t1 13) (Int.tmod t2 13) (Int.tmod t3 13) 1 1 1,primC 1 (Int.tmod t1 13) (Int.tmod t2 13) (Int.tmod t3 13) (Int.tmod t1 13) (-12) 12,primC 1 (Int.tmod t1 13) (Int.tmod t2 13) (Int.tmod t3 13) (Int.tmod t2 13) (-12) 12,primC 1 (Int.tmod t1 13) (Int.tmod t2 13) (Int.tmod t3 13) (Int.tmod t3 13) (-12) 12,.cw (ratL (sq i1 d)) (some (128,sq i1 d)),.cw (ratL (sq i2 d)) (some (128,sq i2 d)),.cw (ratL (sq i3 d)) (some (128,sq i3 d))])))))))
  (.as (decide (((1+d % 6:Int):Rat)≠0)) true (.as (decide (((1+d % 6:Int):Rat)≠0)) true (.as (decide (((1+d % 6:Int):Rat)≠0)) true (.as (decide ¬(Int.tmod t0 13=0∧Int.tmod t1 13=0∧Int.tmod t2 13=0∧Int.tmod t3 13=0)) true (.ret (.so (.vg [primC (Int.tmod t0 13) (Int.tmod t1 13) (Int.tmod t2 13) (Int.tmod t3 13) (Int.tmod t0 13) (-12) 12,primC (Int.tmod t0 13) (Int.tmod t1 13) (Int.tmod t2 13) (Int.tmod t3 13) (Int.tmod t1 13) (-12) 12,primC (Int.tmod t0 13) (Int.tmod t1 13) (Int.tmod t2 13) (Int.tmod t3 13) (Int.tmod t2 13) (-12) 12,primC (Int.tmod t0 13) (Int.tmod t1 13) (Int.tmod t2 13) (Int.tmod t3 13) (Int.tmod t3 13) (-12) 12,.cw (ratL (sq i1 d)) (some (128,sq i1 d)),.cw (ratL (sq i2 d)) (some (128,sq i2 d)),.cw (ratL (sq i3 d)) (some (128,sq i3 d))])))))))
theorem runP (t0 t1 t2 t3 i1 i2 i3 d:Int):runF sysQ 21 [.so (.vg [.ci .i8 t0 (-128) 127,.ci .i8 t1 (-128) 127,.ci .i8 t2 (-128) 127,.ci .i8 t3 (-128) 127,.ci .i8 i1 (-128) 127,.ci .i8 i2 (-128) 127,.ci .i8 i3 (-128) 127,.ci .u8 d 0 255])] 0 0 (.s .e .e)=some (treeP t0 t1 t2 t3 i1 i2 i3 d):=by kernel_rfl
theorem den6 (d:Int):decide (((1+d % 6:Int):Rat)≠0)=true:=decide_eq_true fun e=>by
  have:(1+d % 6:Int)=0:=by exact_mod_cast e
  omega
def postP (t0 t1 t2 t3 i1 i2 i3 d:Int) (v:SV):Prop:=∃ a b c e f g h k m n o,v=.so (.vg [.ci .i64 (qd t0 t1 t2 t3 0) a b,.ci .i64 (qd t0 t1 t2 t3 1) c e,.ci .i64 (qd t0 t1 t2 t3 2) f g,.ci .i64 (qd t0 t1 t2 t3 3) h k,.cw (ratL (sq i1 d)) m,.cw (ratL (sq i2 d)) n,.cw (ratL (sq i3 d)) o])
theorem treeP_ok (t0 t1 t2 t3 i1 i2 i3 d:Int):LOK (postP t0 t1 t2 t3 i1 i2 i3 d) (treeP t0 t1 t2 t3 i1 i2 i3 d):=by
  have hn:=mq_ne t0 t1 t2 t3
  refine ⟨fun h=>?_,fun h=>?_⟩
  · have e:mq0 t0 t1 t2 t3=1:=if_pos h
    rw [e] at hn
    refine ⟨den6 d,den6 d,den6 d,decide_eq_true hn,?_⟩
    unfold LOK postP
    simp only [qd,e]
    exact ⟨_,_,_,_,_,_,_,_,_,_,_,rfl⟩
  · have e:mq0 t0 t1 t2 t3=Int.tmod t0 13:=if_neg (by rw [h];decide)
    rw [e] at hn
    refine ⟨den6 d,den6 d,den6 d,decide_eq_true hn,?_⟩
    unfold LOK postP
    simp only [qd,e]
    exact ⟨_,_,_,_,_,_,_,_,_,_,_,rfl⟩
theorem place_c {t0 t1 t2 t3 i1 i2 i3 d:Int} (ht:(-128≤t0∧t0≤127)∧(-128≤t1∧t1≤127)∧(-128≤t2∧t2≤127)∧(-128≤t3∧t3≤127)∧(-128≤i1∧i1≤127)∧(-128≤i2∧i2≤127)∧(-128≤i3∧i3≤127)∧0≤d∧d≤255) (w:World) (hI:Tab w∧Mx w):
    Calls Tryz.prog 21 #[.agg #[.int .i8 t0,.int .i8 t1,.int .i8 t2,.int .i8 t3,.int .i8 i1,.int .i8 i2,.int .i8 i3,.int .u8 d]] w fun e w'=>e=.returned (.agg #[.int .i64 (qd t0 t1 t2 t3 0),.int .i64 (qd t0 t1 t2 t3 1),.int .i64 (qd t0 t1 t2 t3 2),.int .i64 (qd t0 t1 t2 t3 3),.string ⟨(ratL (sq i1 d)).toArray⟩,.string ⟨(ratL (sq i2 d)).toArray⟩,.string ⟨(ratL (sq i3 d)).toArray⟩])∧Gr w w':=by
  obtain ⟨h0,h1,h2,h3,h4,h5,h6,h7⟩:=ht
  refine (run_calls sysQ sysQ_ok (runP t0 t1 t2 t3 i1 i2 i3 d) (X:=envR []) hI (okF1 (okA_ok ⟨⟨rfl,h0⟩,⟨rfl,h1⟩,⟨rfl,h2⟩,⟨rfl,h3⟩,⟨rfl,h4⟩,⟨rfl,h5⟩,⟨rfl,h6⟩,⟨rfl,h7⟩,trivial⟩)) (treeP_ok t0 t1 t2 t3 i1 i2 i3 d)).mono fun e w' he=>?_
  obtain ⟨v,X',n,rfl,g,_,_,_,_,_,_,_,_,_,_,_,_,_,rfl⟩:=he
  exact ⟨rfl,g⟩
def in8 (l h:Int):Bool:=ile (-128) l&&ile h 127
theorem in8_ok {z lo hi:Int} (h:in8 lo hi=true) (h0:lo≤z∧z≤hi):-128≤z∧z≤127:=by
  unfold in8 at h
  simp only [ile_eq,Bool.and_eq_true,decide_eq_true_eq] at h
  omega
def inu8 (l h:Int):Bool:=ile 0 l&&ile h 255
theorem inu8_ok {z lo hi:Int} (h:inu8 lo hi=true) (h0:lo≤z∧z≤hi):0≤z∧z≤255:=by
  unfold inu8 at h
  simp only [ile_eq,Bool.and_eq_true,decide_eq_true_eq] at h
  omega
def q12 (t0 t1 t2 t3:Int) (k:Nat):Cl:=.ci .i64 (qd t0 t1 t2 t3 k) (-12) 12
def txs (i d:Int):Cl:=.cw (ratL (sq i d)) (some (16,sq i d))
theorem txs_ok {i d:Int} (hi:-128≤i∧i≤127) (hd:0≤d∧d≤255) (n:Nn) (X:Env) (w:World):(txs i d).ok n X w:=⟨rfl,fun k q e=>by cases e;exact ⟨rfl,small_rs hi hd rfl⟩⟩
def cPlc:ConT:=fun args _ _=>match args with
  | [.so (.vg [.ci .i8 t0 a0 b0,.ci .i8 t1 a1 b1,.ci .i8 t2 a2 b2,.ci .i8 t3 a3 b3,.ci .i8 i1 a4 b4,.ci .i8 i2 a5 b5,.ci .i8 i3 a6 b6,.ci .u8 d a7 b7])]=>
    tr (in8 a0 b0&&in8 a1 b1&&in8 a2 b2&&in8 a3 b3&&in8 a4 b4&&in8 a5 b5&&in8 a6 b6&&inu8 a7 b7) (.leaf (.so (.vg [q12 t0 t1 t2 t3 0,q12 t0 t1 t2 t3 1,q12 t0 t1 t2 t3 2,q12 t0 t1 t2 t3 3,txs i1 d,txs i2 d,txs i3 d])) 0 0)
  | _=>none
theorem cPlc_ok {I:World→Prop} (hI:∀ w,I w→Tab w∧Mx w):ConOK Tryz.prog I 21 cPlc:=by
  intro args E n w T hw ha hT _
  unfold cPlc at hT
  split at hT
  · rename_i t0 a0 b0 t1 a1 b1 t2 a2 b2 t3 a3 b3 i1 a4 b4 i2 a5 b5 i3 a6 b6 d a7 b7
    obtain ⟨hb,rfl⟩:=tr_some hT
    simp only [Bool.and_eq_true] at hb
    obtain ⟨⟨⟨⟨⟨⟨⟨c0,c1⟩,c2⟩,c3⟩,c4⟩,c5⟩,c6⟩,c7⟩:=hb
    have h:=ha _ (List.mem_singleton.2 rfl)
    have g:=fun c hc=>h c hc
    have g0:=in8_ok c0 (g (.ci .i8 t0 a0 b0) (by simp)).2
    have g1:=in8_ok c1 (g (.ci .i8 t1 a1 b1) (by simp)).2
    have g2:=in8_ok c2 (g (.ci .i8 t2 a2 b2) (by simp)).2
    have g3:=in8_ok c3 (g (.ci .i8 t3 a3 b3) (by simp)).2
    have g4:=in8_ok c4 (g (.ci .i8 i1 a4 b4) (by simp)).2
    have g5:=in8_ok c5 (g (.ci .i8 i2 a5 b5) (by simp)).2
    have g6:=in8_ok c6 (g (.ci .i8 i3 a6 b6) (by simp)).2
    have g7:=inu8_ok c7 (g (.ci .u8 d a7 b7) (by simp)).2
    refine (place_c ⟨g0,g1,g2,g3,g4,g5,g6,g7⟩ w (hI w hw)).mono fun e w' he=>val_holds he fun c hc=>?_
    have v:=qd_vt t0 t1 t2 t3
    have v0:=v.b0;have v1:=v.b1;have v2:=v.b2;have v3:=v.b3
    simp only [List.mem_cons,List.not_mem_nil,or_false] at hc
    rcases hc with rfl | rfl | rfl | rfl | rfl | rfl | rfl
    · exact ⟨rfl,v0⟩
    · exact ⟨rfl,v1⟩
    · exact ⟨rfl,v2⟩
    · exact ⟨rfl,v3⟩
    · exact txs_ok g4 g7 n E w'
    · exact txs_ok g5 g7 n E w'
    · exact txs_ok g6 g7 n E w'
  · cases hT
end Go.Proofs.YtaldbfflkpgfoaaGreatDoor
/- Printed by a program of the prover's:the motion of a placement. -/
namespace Go.Proofs.YtaldbfflkpgfoaaGreatDoor
open Go.RowKit

/-- how the regions that draw their order are run -/
noncomputable def tabO:List (Nat × List (Nat × Ent)):=[(14,[(5,.ord [(true,0),(true,1),(true,2),(true,3),(true,4),(true,5),(true,6),(true,7),(true,8),(true,9),(true,10),(true,11),(true,12),(true,13),(true,14),(true,15)] []),(12,.ord [(true,0),(true,1),(true,3),(true,5),(false,2),(false,4),(true,6),(false,7)] [14])]),
 (53,[]),
 (57,[]),
 (60,[]),
 (74,[(5,.ord [(true,0),(true,1),(true,2),(true,3),(true,4),(true,5),(true,6),(true,7),(false,8),(true,9),(false,10)] [7])]),
 (93,[]),
 (97,[])]
noncomputable def conO:List (Nat × ConT):=[(103,conRR 100000 (fun k m=>k+m+1) (fun a b=>a+b)),
 (75,conRR 100000 (fun k m=>k+m+1) (fun a b=>a - b)),
 (82,conRR 100000 (fun k m=>k+m) (fun a b=>a*b)),
 (108,cNeg),
 (59,cFrom),
 (37,cComp),
 (76,cSign),
 (87,cNumb),
 (130,cNum),
 (81,cDen),
 (58,cDiv),
 (96,cZFrom),
 (80,cZMul),
 (122,cZGcd),
 (123,cZDiv),
 (68,cZInt),
 (105,cTT (fun k m=>k+m+1) fun a b=>a+b),
 (132,cTT (fun k m=>k+m+1) fun a b=>a - b),
 (106,cTT (fun k m=>k+m) fun a b=>a*b),
 (64,cTDiv),
 (115,cTNeg),
 (65,cTFrom),
 (94,cPars 400),
 (107,cPars 65536),
 (15,cChk),
 (66,cPrim)]
noncomputable def sysO:Sys:=⟨Tryz.prog,2,199,tabO,conO,fun w=>Tab w∧Mx w⟩
theorem sysO_ok:sysO.OK where
  mixed:=by kernel_rfl
  calls:=fun f h0 h1=>by
    have:(List.range 199).all (fun f=>Nat.blt f 2||okCall Tryz.prog f)=true:=by kernel_rfl
    have:=List.all_eq_true.1 this f (List.mem_range.2 h1)
    simp only [Bool.or_eq_true] at this
    exact this.resolve_left (fun e=>by have:=blt_of e;exact absurd h0 (by show ¬ 2≤f;omega))
  tab:=by
    have:tabO.all (okTab Tryz.prog)=true:=by kernel_rfl
    exact fun x hx=>List.all_eq_true.1 this x hx
  lps:=lps_no (by kernel_rfl)
  con:=fun x hx=>by
    simp only [sysO,conO,List.mem_cons,List.not_mem_nil,or_false] at hx
    rcases hx with rfl | rfl | rfl | rfl | rfl | rfl | rfl | rfl | rfl | rfl | rfl | rfl | rfl | rfl | rfl | rfl | rfl | rfl | rfl | rfl | rfl | rfl | rfl | rfl | rfl | rfl
    · exact conRR_ok fun h1 h2 h3=>add_r h1 h2 h3
    · exact conRR_ok fun h1 h2 h3=>sub_r h1 h2 h3
    · exact conRR_ok fun h1 h2 h3=>mul_r h1 h2 h3
    · exact cNeg_ok
    · exact cFrom_ok
    · exact cComp_ok
    · exact cSign_ok
    · exact cNumb_ok fun w h=>h.1
    · exact cNum_ok
    · exact cDen_ok
    · exact cDiv_ok
    · exact cZFrom_ok
    · exact cZMul_ok
    · exact cZGcd_ok
    · exact cZDiv_ok
    · exact cZInt_ok
    · exact cTAdd_ok
    · exact cTSub_ok
    · exact cTMul_ok
    · exact cTDiv_ok
    · exact cTNeg_ok
    · exact cTFrom_ok
    · exact cPars_ok fun w h=>h.2
    · exact cRead_ok fun w h=>h.2
    · exact cChk_ok fun w h=>h.2
    · exact cPrim_ok
  inv:=fun w w' h g=>⟨h.1.gr g,h.2.gr g⟩
def rowC:List Nat→List (Nat × Rat)→List Cl
  | j::l,(k,q)::r=>.cr j 0 k q::.cr j 1 k q::.cr j 2 k q::.cr j 3 k q::rowC l r
  | _,_=>[]
def nN (w x y z:Int):Rat:=((w*w+x*x+y*y+z*z:Int):Rat)
def mOf (w x y z:Int) (k:Nat):Rat:=((1:Int):Rat)/nN w x y z*((roN w x y z k:Int):Rat)
def oRaw (q0 q1 q2 q3:Int) (x1 x2 x3:Rat):List (Nat × Rat):=[(192,mOf q0 q1 q2 q3 0),(192,mOf q0 q1 q2 q3 1),(192,mOf q0 q1 q2 q3 2),(192,mOf q0 q1 q2 q3 3),(192,mOf q0 q1 q2 q3 4),(192,mOf q0 q1 q2 q3 5),(192,mOf q0 q1 q2 q3 6),(192,mOf q0 q1 q2 q3 7),(192,mOf q0 q1 q2 q3 8),(64,x1),(64,x2),(64,x3)]
def oList (q0 q1 q2 q3:Int) (x1 x2 x3:Rat):List (Nat × Rat):=[(64,roE q0 q1 q2 q3 0),(64,roE q0 q1 q2 q3 1),(64,roE q0 q1 q2 q3 2),(64,roE q0 q1 q2 q3 3),(64,roE q0 q1 q2 q3 4),(64,roE q0 q1 q2 q3 5),(64,roE q0 q1 q2 q3 6),(64,roE q0 q1 q2 q3 7),(64,roE q0 q1 q2 q3 8),(64,x1),(64,x2),(64,x3)]
def treeO (q0 q1 q2 q3:Int) (x1 x2 x3:Rat):Lf:=
  .as (decide (chk q0 q1 q2 q3 0=0)) true
  (.as (decide (nN q0 q1 q2 q3=0)) false
  (.ret (.st [.vg (rowC [9,10,11,15,16,17,21,22,23,0,1,2] (oRaw q0 q1 q2 q3 x1 x2 x3)),.vc (.ci .i64 0 0 0)])))
theorem runO (q0 q1 q2 q3:Int) (x1 x2 x3:Rat):runF sysO 14 [.so (.vg [.ci .i64 q0 (-12) 12,.ci .i64 q1 (-12) 12,.ci .i64 q2 (-12) 12,.ci .i64 q3 (-12) 12,.cw (ratL x1) (some (64,x1)),.cw (ratL x2) (some (64,x2)),.cw (ratL x3) (some (64,x3))])] 0 0 (.f .e)=some (treeO q0 q1 q2 q3 x1 x2 x3):=by kernel_rfl
theorem of_c {q0 q1 q2 q3:Int} {x1 x2 x3:Rat} (hv:VT q0 q1 q2 q3) (s1:RS 64 x1) (s2:RS 64 x2) (s3:RS 64 x3) (w:World) (hI:Tab w∧Mx w):
    Calls Tryz.prog 14 #[.agg #[.int .i64 q0,.int .i64 q1,.int .i64 q2,.int .i64 q3,.string ⟨(ratL x1).toArray⟩,.string ⟨(ratL x2).toArray⟩,.string ⟨(ratL x3).toArray⟩]] w fun e w'=>(∃ vs:List Value,e=.returned (.tuple #[.agg vs.toArray,.int .i64 0])∧IsRats w' vs (oList q0 q1 q2 q3 x1 x2 x3))∧Gr w w':=by
  have hl:LOK (fun v=>∃ l,v=.st [.vg l,.vc (.ci .i64 0 0 0)]∧rats l=some (oRaw q0 q1 q2 q3 x1 x2 x3)) (treeO q0 q1 q2 q3 x1 x2 x3):=⟨decide_eq_true (hv.chk 0),decide_eq_false (nn_ne hv),_,rfl,rfl⟩
  have tx:∀ {x},RS 64 x→(Cl.cw (ratL x) (some (64,x))).ok ⟨0,0,0⟩ (envR []) w:=fun h=>⟨rfl,fun k q e=>by cases e;exact ⟨rfl,h⟩⟩
  refine (run_calls sysO sysO_ok (runO q0 q1 q2 q3 x1 x2 x3) (X:=envR []) hI (okF1 (okA_ok ⟨⟨rfl,hv.b0⟩,⟨rfl,hv.b1⟩,⟨rfl,hv.b2⟩,⟨rfl,hv.b3⟩,tx s1,tx s2,tx s3,trivial⟩)) hl).mono fun e w' he=>?_
  obtain ⟨v,X',n,rfl,g,_,hv',l,rfl,hr⟩:=he
  have h:=rats_ok hr (hv' (.vg l) (by simp))
  have rs:=fun k=>(roE_rs hv k).mono (show 50≤64 by decide)
  have one:=fun k=>@one_div (nN q0 q1 q2 q3) ((roN q0 q1 q2 q3 k:Int):Rat)
  exact ⟨⟨_,rfl,h.conv ⟨⟨one 0,rs 0,Nat.le_refl _⟩,⟨one 1,rs 1,Nat.le_refl _⟩,⟨one 2,rs 2,Nat.le_refl _⟩,⟨one 3,rs 3,Nat.le_refl _⟩,⟨one 4,rs 4,Nat.le_refl _⟩,⟨one 5,rs 5,Nat.le_refl _⟩,⟨one 6,rs 6,Nat.le_refl _⟩,⟨one 7,rs 7,Nat.le_refl _⟩,⟨one 8,rs 8,Nat.le_refl _⟩,⟨rfl,s1,Nat.le_refl _⟩,⟨rfl,s2,Nat.le_refl _⟩,⟨rfl,s3,Nat.le_refl _⟩,trivial⟩⟩,g⟩
def cOf:ConT:=fun args nr _=>match args with
  | [.so (.vg [.ci .i64 q0 _ _,.ci .i64 q1 _ _,.ci .i64 q2 _ _,.ci .i64 q3 _ _,c1,c2,c3])]=>match txC c1,txC c2,txC c3 with
    | some (k1,x1),some (k2,x2),some (k3,x3)=>tr (Nat.ble k1 64&&Nat.ble k2 64&&Nat.ble k3 64) (.as (decide (chk q0 q1 q2 q3 0=0)) (.leaf (.st [.vg (cellsR nr (oList q0 q1 q2 q3 x1 x2 x3)),.vc (.ci .i64 0 0 0)]) 12 0))
    | _,_,_=>none
  | _=>none
theorem rats_holds1 {n:Nn} {X:Env} {w w':World} {e:Ending} {l:List (Nat × Rat)} {t:IntKind} {z:Int} (h:(∃ vs:List Value,e=.returned (.tuple #[.agg vs.toArray,.int t z])∧IsRats w' vs l)∧Gr w w'):(Tr.leaf (.st [.vg (cellsR n.r l),.vc (.ci t z z z)]) l.length 0).holds n X w e w':=by
  obtain ⟨⟨vs,rfl,h1⟩,g⟩:=h
  obtain ⟨a,b⟩:=cellsR_ok (X:=X) (n:=n) vs l vs 0 (n.r+l.length) h1 rfl (by omega)
  refine ⟨envV X n.r vs,?_,g,envV_agr X n vs,fun x hx=>?_⟩
  · simp only [SV.den,TV.den,List.map,Cl.den,dnL]
    rw [show cellsR n.r l=cellsR (n.r+0) l from rfl,a]
  · simp only [List.mem_cons,List.not_mem_nil,or_false] at hx
    rcases hx with rfl | rfl
    · exact b
    · exact ⟨rfl,Int.le_refl _,Int.le_refl _⟩
theorem cOf_ok {I:World→Prop} (hI:∀ w,I w→Tab w∧Mx w):ConOK Tryz.prog I 14 cOf:=by
  intro args E n w T hw ha hT hp
  unfold cOf at hT
  split at hT
  · rename_i q0 _ _ q1 _ _ q2 _ _ q3 _ _ c1 c2 c3
    split at hT
    · rename_i k1 x1 k2 x2 k3 x3 e1 e2 e3
      obtain ⟨hb,rfl⟩:=tr_some hT
      simp only [Bool.and_eq_true,Nat.ble_eq] at hb
      obtain ⟨⟨l1,l2⟩,l3⟩:=hb
      have g:=fun c hc=>ha _ (List.mem_singleton.2 rfl) c hc
      obtain ⟨d1,s1⟩:=txC_ok e1 (g c1 (by simp))
      obtain ⟨d2,s2⟩:=txC_ok e2 (g c2 (by simp))
      obtain ⟨d3,s3⟩:=txC_ok e3 (g c3 (by simp))
      show Calls _ _ #[.agg #[.int .i64 q0,.int .i64 q1,.int .i64 q2,.int .i64 q3,c1.den E,c2.den E,c3.den E]] w _
      rw [d1,d2,d3]
      refine (of_c (chk_ok (of_decide_eq_true hp.1)).1 (s1.mono l1) (s2.mono l2) (s3.mono l3) w (hI w hw)).mono fun e w' he=>rats_holds1 he
    · cases hT
  · cases hT
end Go.Proofs.YtaldbfflkpgfoaaGreatDoor
/- Printed by a program of the prover's:a rotation's quaternion. -/
namespace Go.Proofs.YtaldbfflkpgfoaaGreatDoor
open Go.RowKit

set_option maxRecDepth 100000 in
set_option maxHeartbeats 1000000 in
theorem sum_4 {k:Nat} {ab:Nat} {u0 u1 u2 u3:Value} {a:Rat} {v0 v1 v2 v3:Value} {b:Rat} {x0 x1 x2 x3:Value} {c:Rat} {z0 z1 z2 z3:Value} {d:Rat} {w:World} (ha:IsRat w k u0 u1 u2 u3 a) (hb:IsRat w k v0 v1 v2 v3 b) (hc:IsRat w k x0 x1 x2 x3 c) (hd:IsRat w k z0 z1 z2 z3 d) (hL:Lc w ab #[u0,u1,u2,u3,v0,v1,v2,v3,x0,x1,x2,x3,z0,z1,z2,z3] 36) (_hk:k≤20000):
    Calls Tryz.prog 83 #[(.slice (some ⟨ab,0,none⟩) 4 4)] w fun e w'=>(∃ z0 z1 z2 z3,e=.returned (.agg #[z0,z1,z2,z3])∧IsRat w' ((((64+k+1)+k+1)+k+1)+k+1) z0 z1 z2 z3 (((((0+a)+b)+c)+d)))∧Gr w w':=by
 have hbig:=ha.big
 go_enter Tryz.func83,Tryz.ntmps83
 have hB:=Gr.refl w
 refine wp_seq_k (fun K1 k1=>?_)
 refine rg [0] ?_
 refine se ?_
 refine ea 36 #[(.bool false),(.slice none 0 0),(.bool false),(.slice none 0 0)] 2 hB fun b2 w2 g2 L2 o2 q2 hB=>?_
 simp only [p3,p4]
 refine sq_nil ?_
 refine k1 _ _ ?_
 try clear k1 K1
 refine wp_seq_k (fun K3 k3=>?_)
 refine rg [0] ?_
 refine se ?_
 refine ea 36 #[(.bool false),(.slice none 0 0),(.bool false),(.slice none 0 0)] 3 hB fun b4 w4 g4 L4 o4 q4 hB=>?_
 replace hL:=hL.gr g2
 have ad:=hL.ne o4
 have aa:=L2.ne o4
 simp only [p3,p4]
 refine sq_nil ?_
 refine k3 _ _ ?_
 try clear k3 K3
 refine wp_seq_k (fun K5 k5=>?_)
 refine wp_seq_k (fun K6 k6=>?_)
 refine rg [0,1,2] ?_
 refine sv 6 (.slice (some ⟨ab,0,none⟩) 4 4) ?_
 refine sv 7 (.int .i64 4) ?_
 refine sv 8 (.int .i64 0) ?_
 refine sq_nil ?_
 refine k6 _ _ ?_
 try clear k6 K6
 refine wp_block ?_
 refine wp_loop_rounds 5 ?_
 show Code.wp _ _ _ _ _
 refine wp_seq_k (fun K7 k7=>?_)
 refine rg [0] ?_
 refine sv 9 (.bool true) ?_
 refine sq_nil ?_
 refine k7 _ _ ?_
 try clear k7 K7
 refine wp_seq_k (fun K8 k8=>?_)
 refine wp_cond_true rfl ?_
 refine wp_skip ?_
 refine k8 _ _ ?_
 try clear k8 K8
 refine wp_seq_k (fun K9 k9=>?_)
 refine wp_block ?_
 refine wp_seq_k (fun ca bF=>?_)
 refine rg [0,1,2,3] ?_
 refine sv 10 (.pointer (some ⟨ab,0,none⟩)) ?_
 replace hL:=hL.gr g4
 refine sw 11 (.agg #[u0,u1,u2,u3]) rfl (rl 36 0 [u0,u1,u2,u3] hL) ?_
 refine se ?_
 refine ea 36 #[(.bool false),(.slice none 0 0),(.bool false),(.slice none 0 0)] 5 hB fun cA cF az bm bo bR hB=>?_
 have ax:=hL.ne bo
 replace L2:=L2.gr g4
 have aA:=L2.ne bo
 have aH:=L4.ne bo
 simp only [p3,p4]
 refine se ?_
 refine es 36 0 (.agg #[u0,u1,u2,u3]) [u0,u1,u2,u3] #[u0,u1,u2,u3] bm hB bR ⟨ha.one0,ha.one1,ha.one2,ha.one3,trivial⟩ fun cl aC ah bm hB=>?_
 refine sq_nil ?_
 refine bF _ _ ?_
 try clear bF ca
 refine rg [0,1,2,3] ?_
 replace L4:=aC.lc (L4.gr az) aH
 refine sw 12 (.agg #[(.bool false),(.slice none 0 0),(.bool false),(.slice none 0 0)]) rfl (rl 36 0 [(.bool false),(.slice none 0 0),(.bool false),(.slice none 0 0)] L4) ?_
 refine sw 13 (.agg #[u0,u1,u2,u3]) rfl (rl 36 0 [u0,u1,u2,u3] bm) ?_
 refine se ?_
 have bk:=g2.kp.trans (g4.kp.trans (az.kp.trans ah))
 replace ha:=ha.kp bk
 refine ec 14 (add_r (IsRat.zero _ (k:=64) (Nat.le_refl _)) ha (by omega)) ?_
 rintro e13 cn ⟨⟨aW,aT,a6,aZ,rfl,aK⟩,aE⟩
 refine ⟨_,rfl,?_⟩
 replace hB:=hB.trans aE
 simp only [p3,p4]
 refine se ?_
 replace L4:=L4.gr aE
 refine es 36 0 (.agg #[aW,aT,a6,aZ]) [aW,aT,a6,aZ] #[aW,aT,a6,aZ] L4 hB q4 ⟨aK.one0,aK.one1,aK.one2,aK.one3,trivial⟩ fun co a8 ak L4 hB=>?_
 refine sq_nil ?_
 refine k9 _ _ ?_
 try clear k9 K9
 refine rg [0,1] ?_
 refine sv 15 (.int .i64 1) ?_
 refine sv 8 (.int .i64 1) ?_
 refine sq_nil ?_
 show Code.rounds _ _ _ _ _ _
 show Code.wp _ _ _ _ _
 refine wp_seq_k (fun bU bM=>?_)
 refine rg [0] ?_
 refine sv 9 (.bool true) ?_
 refine sq_nil ?_
 refine bM _ _ ?_
 try clear bM bU
 refine wp_seq_k (fun bQ bJ=>?_)
 refine wp_cond_true rfl ?_
 refine wp_skip ?_
 refine bJ _ _ ?_
 try clear bJ bQ
 refine wp_seq_k (fun bX bN=>?_)
 refine wp_block ?_
 refine wp_seq_k (fun cc bA=>?_)
 refine rg [0,1,2,3] ?_
 refine sv 10 (.pointer (some ⟨ab,4,none⟩)) ?_
 replace hL:=a8.lc ((aC.lc (hL.gr az) ax).gr aE) ad
 refine sw 11 (.agg #[v0,v1,v2,v3]) rfl (rl 36 4 [v0,v1,v2,v3] hL) ?_
 refine se ?_
 refine ea 36 #[(.bool false),(.slice none 0 0),(.bool false),(.slice none 0 0)] 5 hB fun ck cy aM bc bd cd hB=>?_
 have aq:=hL.ne bd
 replace L2:=a8.lc ((aC.lc (L2.gr az) aA).gr aE) aa
 have av:=L2.ne bd
 have aI:=L4.ne bd
 simp only [p3,p4]
 refine se ?_
 refine es 36 0 (.agg #[v0,v1,v2,v3]) [v0,v1,v2,v3] #[v0,v1,v2,v3] bc hB cd ⟨hb.one0,hb.one1,hb.one2,hb.one3,trivial⟩ fun cE aJ al bc hB=>?_
 refine sq_nil ?_
 refine bA _ _ ?_
 try clear bA cc
 refine rg [0,1,2,3] ?_
 replace L4:=aJ.lc (L4.gr aM) aI
 refine sw 12 (.agg #[aW,aT,a6,aZ]) rfl (rl 36 0 [aW,aT,a6,aZ] L4) ?_
 refine sw 13 (.agg #[v0,v1,v2,v3]) rfl (rl 36 0 [v0,v1,v2,v3] bc) ?_
 refine se ?_
 have bw:=ak.trans (aM.kp.trans al)
 replace aK:=aK.kp bw
 have bh:=g2.kp.trans (g4.kp.trans (az.kp.trans (ah.trans (aE.kp.trans (ak.trans (aM.kp.trans al))))))
 replace hb:=hb.kp bh
 refine ec 14 (add_r aK hb (by omega)) ?_
 rintro e22 cq ⟨⟨aS,a2,a5,a3,rfl,aF⟩,aP⟩
 refine ⟨_,rfl,?_⟩
 replace hB:=hB.trans aP
 simp only [p3,p4]
 refine se ?_
 replace L4:=L4.gr aP
 refine es 36 0 (.agg #[aS,a2,a5,a3]) [aS,a2,a5,a3] #[aS,a2,a5,a3] L4 hB q4 ⟨aF.one0,aF.one1,aF.one2,aF.one3,trivial⟩ fun ct aV aD L4 hB=>?_
 refine sq_nil ?_
 refine bN _ _ ?_
 try clear bN bX
 refine rg [0,1] ?_
 refine sv 15 (.int .i64 2) ?_
 refine sv 8 (.int .i64 2) ?_
 refine sq_nil ?_
 show Code.rounds _ _ _ _ _ _
 show Code.wp _ _ _ _ _
 refine wp_seq_k (fun b7 bx=>?_)
 refine rg [0] ?_
 refine sv 9 (.bool true) ?_
 refine sq_nil ?_
 refine bx _ _ ?_
 try clear bx b7
 refine wp_seq_k (fun b9 bD=>?_)
 refine wp_cond_true rfl ?_
 refine wp_skip ?_
 refine bD _ _ ?_
 try clear bD b9
 refine wp_seq_k (fun bY bK=>?_)
 refine wp_block ?_
 refine wp_seq_k (fun b5 bO=>?_)
 refine rg [0,1,2,3] ?_
 refine sv 10 (.pointer (some ⟨ab,8,none⟩)) ?_
 replace hL:=aV.lc ((aJ.lc (hL.gr aM) aq).gr aP) ad
 refine sw 11 (.agg #[x0,x1,x2,x3]) rfl (rl 36 8 [x0,x1,x2,x3] hL) ?_
 refine se ?_
 refine ea 36 #[(.bool false),(.slice none 0 0),(.bool false),(.slice none 0 0)] 5 hB fun cx ch aO bf bq bZ hB=>?_
 have aG:=hL.ne bq
 replace L2:=aV.lc ((aJ.lc (L2.gr aM) av).gr aP) aa
 have aw:=L2.ne bq
 have ay:=L4.ne bq
 simp only [p3,p4]
 refine se ?_
 refine es 36 0 (.agg #[x0,x1,x2,x3]) [x0,x1,x2,x3] #[x0,x1,x2,x3] bf hB bZ ⟨hc.one0,hc.one1,hc.one2,hc.one3,trivial⟩ fun cg au aN bf hB=>?_
 refine sq_nil ?_
 refine bO _ _ ?_
 try clear bO b5
 refine rg [0,1,2,3] ?_
 replace L4:=au.lc (L4.gr aO) ay
 refine sw 12 (.agg #[aS,a2,a5,a3]) rfl (rl 36 0 [aS,a2,a5,a3] L4) ?_
 refine sw 13 (.agg #[x0,x1,x2,x3]) rfl (rl 36 0 [x0,x1,x2,x3] bf) ?_
 refine se ?_
 have bv:=aD.trans (aO.kp.trans aN)
 replace aF:=aF.kp bv
 have ba:=g2.kp.trans (g4.kp.trans (az.kp.trans (ah.trans (aE.kp.trans (ak.trans (aM.kp.trans (al.trans (aP.kp.trans (aD.trans (aO.kp.trans aN))))))))))
 replace hc:=hc.kp ba
 refine ec 14 (add_r aF hc (by omega)) ?_
 rintro e32 cB ⟨⟨a4,aX,aQ,aY,rfl,aL⟩,aU⟩
 refine ⟨_,rfl,?_⟩
 replace hB:=hB.trans aU
 simp only [p3,p4]
 refine se ?_
 replace L4:=L4.gr aU
 refine es 36 0 (.agg #[a4,aX,aQ,aY]) [a4,aX,aQ,aY] #[a4,aX,aQ,aY] L4 hB q4 ⟨aL.one0,aL.one1,aL.one2,aL.one3,trivial⟩ fun cu a0 a7 L4 hB=>?_
 refine sq_nil ?_
 refine bK _ _ ?_
 try clear bK bY
 refine rg [0,1] ?_
 refine sv 15 (.int .i64 3) ?_
 refine sv 8 (.int .i64 3) ?_
 refine sq_nil ?_
 show Code.rounds _ _ _ _ _ _
 show Code.wp _ _ _ _ _
 refine wp_seq_k (fun bS bG=>?_)
 refine rg [0] ?_
 refine sv 9 (.bool true) ?_
 refine sq_nil ?_
 refine bG _ _ ?_
 try clear bG bS
 refine wp_seq_k (fun ce bC=>?_)
 refine wp_cond_true rfl ?_
 refine wp_skip ?_
 refine bC _ _ ?_
 try clear bC ce
 refine wp_seq_k (fun bW bB=>?_)
 refine wp_block ?_
 refine wp_seq_k (fun bT bz=>?_)
 refine rg [0,1,2,3] ?_
 refine sv 10 (.pointer (some ⟨ab,12,none⟩)) ?_
 replace hL:=a0.lc ((au.lc (hL.gr aO) aG).gr aU) ad
 refine sw 11 (.agg #[z0,z1,z2,z3]) rfl (rl 36 12 [z0,z1,z2,z3] hL) ?_
 refine se ?_
 refine ea 36 #[(.bool false),(.slice none 0 0),(.bool false),(.slice none 0 0)] 5 hB fun cG cL a9 bn bH bV hB=>?_
 replace L2:=a0.lc ((au.lc (L2.gr aO) aw).gr aU) aa
 have aB:=L2.ne bH
 have ar:=L4.ne bH
 simp only [p3,p4]
 refine se ?_
 refine es 36 0 (.agg #[z0,z1,z2,z3]) [z0,z1,z2,z3] #[z0,z1,z2,z3] bn hB bV ⟨hd.one0,hd.one1,hd.one2,hd.one3,trivial⟩ fun cJ aR a1 bn hB=>?_
 refine sq_nil ?_
 refine bz _ _ ?_
 try clear bz bT
 refine rg [0,1,2,3] ?_
 replace L4:=aR.lc (L4.gr a9) ar
 refine sw 12 (.agg #[a4,aX,aQ,aY]) rfl (rl 36 0 [a4,aX,aQ,aY] L4) ?_
 refine sw 13 (.agg #[z0,z1,z2,z3]) rfl (rl 36 0 [z0,z1,z2,z3] bn) ?_
 refine se ?_
 have bu:=a7.trans (a9.kp.trans a1)
 replace aL:=aL.kp bu
 have bp:=g2.kp.trans (g4.kp.trans (az.kp.trans (ah.trans (aE.kp.trans (ak.trans (aM.kp.trans (al.trans (aP.kp.trans (aD.trans (aO.kp.trans (aN.trans (aU.kp.trans (a7.trans (a9.kp.trans a1))))))))))))))
 replace hd:=hd.kp bp
 refine ec 14 (add_r aL hd (by omega)) ?_
 rintro cC cH ⟨⟨aj,ae,af,ai,rfl,ac⟩,bg⟩
 refine ⟨_,rfl,?_⟩
 replace hB:=hB.trans bg
 simp only [p3,p4]
 refine se ?_
 replace L4:=L4.gr bg
 refine es 36 0 (.agg #[aj,ae,af,ai]) [aj,ae,af,ai] #[aj,ae,af,ai] L4 hB q4 ⟨ac.one0,ac.one1,ac.one2,ac.one3,trivial⟩ fun cD bj bt L4 hB=>?_
 refine sq_nil ?_
 refine bB _ _ ?_
 try clear bB bW
 refine rg [0,1] ?_
 refine sv 15 (.int .i64 4) ?_
 refine sv 8 (.int .i64 4) ?_
 refine sq_nil ?_
 show Code.rounds _ _ _ _ _ _
 show Code.wp _ _ _ _ _
 refine wp_seq_k (fun bP bE=>?_)
 refine rg [0] ?_
 refine sv 9 (.bool false) ?_
 refine sq_nil ?_
 refine bE _ _ ?_
 try clear bE bP
 refine wp_seq_k (fun cK cj=>?_)
 refine wp_cond_false rfl ?_
 refine wp_exit ?_
 simp only [Exit.then,Exit.inBlock,↓reduceIte]
 refine k5 _ _ ?_
 try clear k5 K5
 refine wp_seq_k (fun b8 bL=>?_)
 refine rg [0,1] ?_
 refine sw 16 (.agg #[aj,ae,af,ai]) rfl (rl 36 0 [aj,ae,af,ai] L4) ?_
 refine se ?_
 replace L2:=bj.lc ((aR.lc (L2.gr a9) aB).gr bg) aa
 refine es 36 0 (.agg #[aj,ae,af,ai]) [aj,ae,af,ai] #[aj,ae,af,ai] L2 hB q2 ⟨ac.one0,ac.one1,ac.one2,ac.one3,trivial⟩ fun cm b6 bb L2 hB=>?_
 refine sq_nil ?_
 refine bL _ _ ?_
 try clear bL b8
 refine wp_ret ?_
 refine bodyPost_ret (v:=(.agg #[aj,ae,af,ai])) (ret_cell _ _ _ rfl rfl L2 (by kernel_rfl)) rfl ⟨?_,hB⟩
 have bi:=bt.trans bb
 replace ac:=ac.kp bi
 exact ⟨_,_,_,_,rfl,ac⟩

set_option maxRecDepth 100000 in
set_option maxHeartbeats 16000000 in
theorem mturnq {k ks:Nat} {aw aj ad aC aG aR aY aM aX aW aQ aT aL aI aN aK ai ar ax ae aF aH aV aD aJ aU aS aO aZ aP aE a0 af ay au al a8 bb a5 a4 a9 a7 a2 bc a6 bd ba a3:Value} {bL dM dN dK bD dO dH dJ bC gW hl ha:Rat} {w:World} (ab:IsRat w k aw aj ad aC bL) (aA:IsRat w k aG aR aY aM dM) (av:IsRat w k aX aW aQ aT dN) (ac:IsRat w k aL aI aN aK dK) (az:IsRat w k ai ar ax ae bD) (ah:IsRat w k aF aH aV aD dO) (ak:IsRat w k aJ aU aS aO dH) (aB:IsRat w k aZ aP aE a0 dJ) (aq:IsRat w k af ay au al bC) (bh:IsRat w ks a8 bb a5 a4 gW) (bf:IsRat w ks a9 a7 a2 bc hl) (bg:IsRat w ks a6 bd ba a3 ha) (_hk:k≤800) (dI:64≤k):
    Calls Tryz.prog 67 #[(.agg #[aw,aj,ad,aC,aG,aR,aY,aM,aX,aW,aQ,aT,aL,aI,aN,aK,ai,ar,ax,ae,aF,aH,aV,aD,aJ,aU,aS,aO,aZ,aP,aE,a0,af,ay,au,al,a8,bb,a5,a4,a9,a7,a2,bc,a6,bd,ba,a3])] w fun e w'=>(∃ t0 t1 t2 t3 t4 t5 t6 t7,e=.returned (.agg #[t0,t1,t2,t3,t4,t5,t6,t7])∧IsInt w' (40128) t0 t1 (wzq (qrow bL dM dN dK bD dO dH dJ bC) 0)∧IsInt w' (40128) t2 t3 (wzq (qrow bL dM dN dK bD dO dH dJ bC) 1)∧IsInt w' (40128) t4 t5 (wzq (qrow bL dM dN dK bD dO dH dJ bC) 2)∧IsInt w' (40128) t6 t7 (wzq (qrow bL dM dN dK bD dO dH dJ bC) 3))∧Gr w w':=by
 have hmaone:One1 [aw,aj,ad,aC,aG,aR,aY,aM,aX,aW,aQ,aT,aL,aI,aN,aK,ai,ar,ax,ae,aF,aH,aV,aD,aJ,aU,aS,aO,aZ,aP,aE,a0,af,ay,au,al,a8,bb,a5,a4,a9,a7,a2,bc,a6,bd,ba,a3]:=⟨ab.one0,ab.one1,ab.one2,ab.one3,aA.one0,aA.one1,aA.one2,aA.one3,av.one0,av.one1,av.one2,av.one3,ac.one0,ac.one1,ac.one2,ac.one3,az.one0,az.one1,az.one2,az.one3,ah.one0,ah.one1,ah.one2,ah.one3,ak.one0,ak.one1,ak.one2,ak.one3,aB.one0,aB.one1,aB.one2,aB.one3,aq.one0,aq.one1,aq.one2,aq.one3,bh.one0,bh.one1,bh.one2,bh.one3,bf.one0,bf.one1,bf.one2,bf.one3,bg.one0,bg.one1,bg.one2,bg.one3,trivial⟩
 refine enterN Tryz.func67 rfl ?_
 simp only [Tryz.ntmps67,List.size_toArray,List.length_cons,List.length_nil,Nat.reduceAdd,Nat.reduceSub,Array.replicate_succ,Array.replicate_zero,List.push_toArray,List.append_toArray,List.nil_append,List.cons_append]
 have hB:=Gr.refl w
 refine wp_seq_k (fun K1 k1=>?_)
 refine rg [0,1] ?_
 refine se ?_
 refine eb 41 #[aw,aj,ad,aC,aG,aR,aY,aM,aX,aW,aQ,aT,aL,aI,aN,aK,ai,ar,ax,ae,aF,aH,aV,aD,aJ,aU,aS,aO,aZ,aP,aE,a0,af,ay,au,al,a8,bb,a5,a4,a9,a7,a2,bc,a6,bd,ba,a3] 1 hB fun b2 w2 g2 L2 o2 q2 hB=>?_
 simp only [p3,p4]
 refine se ?_
 refine ea 125 #[(.bool false),(.slice none 0 0),(.bool false),(.slice none 0 0),(.bool false),(.slice none 0 0),(.bool false),(.slice none 0 0)] 2 hB fun b3 w3 g3 L3 o3 q3 hB=>?_
 simp only [p3,p4]
 refine sq_nil ?_
 refine k1 _ _ ?_
 try clear k1 K1
 refine wp_seq_k (fun K4 k4=>?_)
 refine rg [0] ?_
 refine se ?_
 refine ea 156 #[(.bool false),(.slice none 0 0),(.bool false),(.slice none 0 0),(.bool false),(.slice none 0 0),(.bool false),(.slice none 0 0),(.bool false),(.slice none 0 0),(.bool false),(.slice none 0 0),(.bool false),(.slice none 0 0),(.bool false),(.slice none 0 0),(.bool false),(.slice none 0 0),(.bool false),(.slice none 0 0),(.bool false),(.slice none 0 0),(.bool false),(.slice none 0 0),(.bool false),(.slice none 0 0),(.bool false),(.slice none 0 0),(.bool false),(.slice none 0 0),(.bool false),(.slice none 0 0),(.bool false),(.slice none 0 0),(.bool false),(.slice none 0 0)] 3 hB fun b5 w5 g5 L5 o5 q5 hB=>?_
 replace L2:=L2.gr g3
 have ga:=L2.ne o5
 have fP:=L3.ne o5
 simp only [p3,p4]
 refine sq_nil ?_
 refine k4 _ _ ?_
 try clear k4 K4
 refine wp_seq_k (fun K6 k6=>?_)
 refine wp_seq_k (fun K7 k7=>?_)
 refine rg [0,1] ?_
 replace L2:=L2.gr g5
 refine sw 9 (.agg #[aw,aj,ad,aC,aG,aR,aY,aM,aX,aW,aQ,aT,aL,aI,aN,aK,ai,ar,ax,ae,aF,aH,aV,aD,aJ,aU,aS,aO,aZ,aP,aE,a0,af,ay,au,al,a8,bb,a5,a4,a9,a7,a2,bc,a6,bd,ba,a3]) rfl (rl 41 0 [aw,aj,ad,aC,aG,aR,aY,aM,aX,aW,aQ,aT,aL,aI,aN,aK,ai,ar,ax,ae,aF,aH,aV,aD,aJ,aU,aS,aO,aZ,aP,aE,a0,af,ay,au,al,a8,bb,a5,a4,a9,a7,a2,bc,a6,bd,ba,a3] L2) ?_
 refine se ?_
 refine ec 10 (ments _ ab.one0 ab.one1 ab.one2 ab.one3 aA.one0 aA.one1 aA.one2 aA.one3 av.one0 av.one1 av.one2 av.one3 ac.one0 ac.one1 ac.one2 ac.one3 az.one0 az.one1 az.one2 az.one3 ah.one0 ah.one1 ah.one2 ah.one3 ak.one0 ak.one1 ak.one2 ak.one3 aB.one0 aB.one1 aB.one2 aB.one3 aq.one0 aq.one1 aq.one2 aq.one3 bh.one0 bh.one1 bh.one2 bh.one3 bf.one0 bf.one1 bf.one2 bf.one3 bg.one0 bg.one1 bg.one2 bg.one3) ?_
 rintro e8 w8 ⟨⟨ir,rfl,gT⟩,g8⟩
 refine ⟨_,rfl,?_⟩
 replace hB:=hB.trans g8
 simp only [p3,p4]
 refine sq_nil ?_
 refine k7 _ _ ?_
 try clear k7 K7
 refine wp_block ?_
 replace L2:=L2.gr g8
 replace L3:=L3.gr (g5.trans g8)
 replace L5:=L5.gr g8
 refine rf_ent (Ds:=[]) (d1:=4) (d2:=5) (ent_stops _ ir aw aj ad aC aG aR aY aM aX aW aQ aT aL aI aN aK ai ar ax ae aF aH aV aD aJ aU aS aO aZ aP aE a0 af ay au al a8 bb a5 a4 a9 a7 a2 bc a6 bd ba a3 ab.one0 ab.one1 ab.one2 ab.one3 aA.one0 aA.one1 aA.one2 aA.one3 av.one0 av.one1 av.one2 av.one3 ac.one0 ac.one1 ac.one2 ac.one3 az.one0 az.one1 az.one2 az.one3 ah.one0 ah.one1 ah.one2 ah.one3 ak.one0 ak.one1 ak.one2 ak.one3 aB.one0 aB.one1 aB.one2 aB.one3 aq.one0 aq.one1 aq.one2 aq.one3 bh.one0 bh.one1 bh.one2 bh.one3 bf.one0 bf.one1 bf.one2 bf.one3 bg.one0 bg.one1 bg.one2 bg.one3 _ gT) (fun prs W'=>Gr w W'∧Kp w8 W'∧Lc W' b2 #[aw,aj,ad,aC,aG,aR,aY,aM,aX,aW,aQ,aT,aL,aI,aN,aK,ai,ar,ax,ae,aF,aH,aV,aD,aJ,aU,aS,aO,aZ,aP,aE,a0,af,ay,au,al,a8,bb,a5,a4,a9,a7,a2,bc,a6,bd,ba,a3] 41∧Lc W' b3 #[(.bool false),(.slice none 0 0),(.bool false),(.slice none 0 0),(.bool false),(.slice none 0 0),(.bool false),(.slice none 0 0)] 125∧∃ xs,Fills 9 [aw,aj,ad,aC,aG,aR,aY,aM,aX,aW,aQ,aT,aL,aI,aN,aK,ai,ar,ax,ae,aF,aH,aV,aD,aJ,aU,aS,aO,aZ,aP,aE,a0,af,ay,au,al,a8,bb,a5,a4,a9,a7,a2,bc,a6,bd,ba,a3] prs xs∧Lc W' b5 xs.toArray 156) (fun _ _ _=>False) ((own_gr hB.size).and ((own_kp _ _).and ((own_lc _ _ _ _).and ((own_lc _ _ _ _).and (own_ex fun xs=>(ownFrom_pure _ _).and (own_lc _ _ _ _)))))) (fun _ _ _ _ _ h _ _=>h) ⟨hB,Kp.refl _,L2,L3,⟨_,⟨rfl,one1_all (by decide),fun _ h=>absurd h (by simp)⟩,L5⟩⟩ ?_ ?_ ?_ ?_ rfl (enters_of Tryz.func98 (by kernel_rfl) rfl)
 ·intro ll kk W K hK
  try simp only [p3,p4]
  refine wpIn_seq_k (fun K1 k1=>?_)
  refine rgI (wide_round ll) [0] ?_
  refine sv 4 (.int .i64 (kk.val:Int)) ?_
  try simp only [p3,p4]
  refine sq_nil ?_
  refine k1 _ _ ?_
  refine rgY [0,1] ?_
  refine alstY (wide_round ll) 5 36 (.agg #[(.bool false),(.slice none 0 0),(.bool false),(.slice none 0 0)]) (ent [aw,aj,ad,aC,aG,aR,aY,aM,aX,aW,aQ,aT,aL,aI,aN,aK,ai,ar,ax,ae,aF,aH,aV,aD,aJ,aU,aS,aO,aZ,aP,aE,a0,af,ay,au,al,a8,bb,a5,a4,a9,a7,a2,bc,a6,bd,ba,a3] kk) ?_ (ent_one hmaone rfl kk)
  try simp only [p3,p4]
  refine nilY ?_
  exact hK
 ·rintro ll bB prs kk W ⟨hB,hkW,L2,L3,xs,hF,L5⟩ hqB hLB
  try simp only [p3,p4]
  refine wpIn_block ?_
  refine wpIn_seq_k (fun K1 k1=>?_)
  refine rgI (wide_round ll) [0,1] ?_
  refine sv 13 (.int .i64 (kk.val:Int)) ?_
  try simp only [p3,p4]
  refine sv 14 (.bool (decide ((kk.val:Int)<9))) ?_
  try simp only [p3,p4]
  refine sq_nil ?_
  refine k1 _ _ ?_
  clear k1 K1
  refine wpIn_cond_split rfl (fun hb=>?_) (fun hb=>?_)
  ·have hlt:kk.val<9:=by have:=of_decide_eq_true hb;omega
   refine rgI (wide_round ll) [0,1,2,3] ?_
   refine sv 15 (.int .i64 (kk.val:Int)) ?_
   try simp only [p3,p4]
   refine sw 16 (.agg (ent [aw,aj,ad,aC,aG,aR,aY,aM,aX,aW,aQ,aT,aL,aI,aN,aK,ai,ar,ax,ae,aF,aH,aV,aD,aJ,aU,aS,aO,aZ,aP,aE,a0,af,ay,au,al,a8,bb,a5,a4,a9,a7,a2,bc,a6,bd,ba,a3] kk).toArray) rfl (rl 36 0 (ent [aw,aj,ad,aC,aG,aR,aY,aM,aX,aW,aQ,aT,aL,aI,aN,aK,ai,ar,ax,ae,aF,aH,aV,aD,aJ,aU,aS,aO,aZ,aP,aE,a0,af,ay,au,al,a8,bb,a5,a4,a9,a7,a2,bc,a6,bd,ba,a3] kk) hLB) ?_
   try simp only [p3,p4]
   refine sw 17 (.pointer (some ⟨b5,4*kk.val,none⟩)) rfl (rv_aix 156 _ _ b5 9 36 4 kk.val hlt) ?_
   try simp only [p3,p4]
   obtain ⟨ys,hys,iH⟩:=hF.step hmaone rfl hlt
   refine se ?_
   refine es 36 (4*kk.val) _ (ent [aw,aj,ad,aC,aG,aR,aY,aM,aX,aW,aQ,aT,aL,aI,aN,aK,ai,ar,ax,ae,aF,aH,aV,aD,aJ,aU,aS,aO,aZ,aP,aE,a0,af,ay,au,al,a8,bb,a5,a4,a9,a7,a2,bc,a6,bd,ba,a3] kk) ys.toArray L5 hB q5 (ent_one hmaone rfl kk) ?_ (hoff:=by simp [hF.len,ent];omega) (hcs:=hys)
   intro w1 st kp N g
   refine sq_nil ?_
   have ho:=others_st st L5 (Nat.le_of_eq (by rw [st.size]))
   exact ⟨ho.from _,ho.walks,g,hkW.trans kp,st.lc L2 ga,st.lc L3 fP,ys,iH,N⟩
  ·have hlt:¬ kk.val<9:=by have:=of_decide_eq_false hb;omega
   refine wpIn_skip ?_
   exact ⟨(KeepsOthers.refl _).from _,KeepsWalks.refl _,hB,hkW,L2,L3,xs,hF.skip hlt,L5⟩
 ·rintro D9 w9 Q9 ⟨ik,gB,iL,gS,xs,hF,g4⟩ L9
  have hW:=hF.done (by decide) rfl
  subst hW
  clear hF
  have dC:=L3.ne Q9
  replace Q9:=Nat.le_trans (Below.size hB) Q9
  replace hB:=ik
  replace L3:=gS
  replace L5:=g4
  change IsMk w9 D9 at L9
  change Lc w9 b5 #[aw,aj,ad,aC,aG,aR,aY,aM,aX,aW,aQ,aT,aL,aI,aN,aK,ai,ar,ax,ae,aF,aH,aV,aD,aJ,aU,aS,aO,aZ,aP,aE,a0,af,ay,au,al] 156 at L5
  refine k6 _ _ ?_
  try clear k6 K6
  refine wp_seq_k (fun iE hM=>?_)
  refine rg [0,1,2] ?_
  refine se ?_
  refine ec 18 (from_r (1) (by omega) (by omega) _) ?_
  rintro e11 jT ⟨⟨dF,dG,dD,dE,rfl,dv⟩,ef⟩
  refine ⟨_,rfl,?_⟩
  replace hB:=hB.trans ef
  simp only [p3,p4]
  refine se ?_
  refine ea 36 #[(.bool false),(.slice none 0 0),(.bool false),(.slice none 0 0)] 6 hB fun hR jl ei aa gY q12 hB=>?_
  replace L3:=L3.gr ef
  have eC:=L3.ne gY
  replace L5:=L5.gr ef
  have fC:=L5.ne gY
  replace L9:=L9.gr ef
  have fE:=L9.ne gY
  simp only [p3,p4]
  refine se ?_
  refine es 36 0 (.agg #[dF,dG,dD,dE]) [dF,dG,dD,dE] #[dF,dG,dD,dE] aa hB q12 ⟨dv.one0,dv.one1,dv.one2,dv.one3,trivial⟩ fun h8 fk dL aa hB=>?_
  refine sq_nil ?_
  refine hM _ _ ?_
  try clear hM iE
  refine wp_seq_k (fun ii hx=>?_)
  have hg:=Below.size hB
  replace L3:=fk.lc (L3.gr ei) eC
  have fa:=L3.lt
  replace L5:=fk.lc (L5.gr ei) fC
  have ey:=L5.lt
  have d6:=aa.lt
  replace L9:=(L9.gr ei).st fk fE
  have eN:=L9.lt
  have cA:=Gr.drew h8
  replace hB:=hB.trans cA
  replace L5:=L5.gr cA
  replace aa:=aa.gr cA
  refine wp_region_floM (fun w'=>Lc w' b5 #[aw,aj,ad,aC,aG,aR,aY,aM,aX,aW,aQ,aT,aL,aI,aN,aK,ai,ar,ax,ae,aF,aH,aV,aD,aJ,aU,aS,aO,aZ,aP,aE,a0,af,ay,au,al] 156∧Lc w' hR #[dF,dG,dD,dE] 36) [(true,0),(true,1),(true,2),(true,3),(true,4),(true,5),(true,6),(true,9),(true,10),(true,11),(true,12),(true,14),(true,15),(true,16),(true,17),(true,19),(true,20),(true,21),(true,22),(true,25),(true,26),(true,27),(true,28),(true,30),(true,31),(true,32),(true,34),(true,35),(true,36),(true,37),(true,40),(true,41),(true,42),(true,43),(true,45),(true,46),(true,47),(true,48),(true,51),(true,52),(true,53),(true,54),(true,56),(true,57),(true,58),(true,59),(true,61),(true,62),(true,63),(true,65),(true,66),(true,67),(true,68),(true,71),(true,72),(true,73),(true,74),(true,77),(true,78),(true,79),(true,80),(true,82),(true,83),(true,84),(true,85),(true,87),(true,88),(true,89),(true,90),(true,92),(true,93),(true,94),(true,96),(true,97),(true,98),(true,99),(false,7),(false,8),(false,13),(false,18),(false,23),(true,24),(false,29),(false,33),(false,38),(false,39),(false,44),(false,49),(true,50),(false,55),(false,60),(false,64),(false,69),(false,70),(false,75),(true,76),(false,81),(false,86),(false,91),(false,95),(false,100),(false,101),(true,102),(true,103)] [⟨104,7,158,#[(.bool false),(.slice none 0 0),(.bool false),(.slice none 0 0),(.bool false),(.slice none 0 0),(.bool false),(.slice none 0 0),(.bool false),(.slice none 0 0),(.bool false),(.slice none 0 0),(.bool false),(.slice none 0 0),(.bool false),(.slice none 0 0),(.bool false),(.slice none 0 0),(.bool false),(.slice none 0 0),(.bool false),(.slice none 0 0),(.bool false),(.slice none 0 0),(.bool false),(.slice none 0 0),(.bool false),(.slice none 0 0),(.bool false),(.slice none 0 0),(.bool false),(.slice none 0 0),(.bool false),(.slice none 0 0),(.bool false),(.slice none 0 0),(.bool false),(.slice none 0 0),(.bool false),(.slice none 0 0),(.bool false),(.slice none 0 0),(.bool false),(.slice none 0 0),(.bool false),(.slice none 0 0),(.bool false),(.slice none 0 0),(.bool false),(.slice none 0 0),(.bool false),(.slice none 0 0),(.bool false),(.slice none 0 0),(.bool false),(.slice none 0 0),(.bool false),(.slice none 0 0),(.bool false),(.slice none 0 0),(.bool false),(.slice none 0 0),(.bool false),(.slice none 0 0)]⟩] [(false,105)] (by kernel_rfl) (by kernel_rfl) (by kernel_rfl) (by kernel_rfl) (by kernel_rfl) (by decide) (fun _ _ _ _ _ h=>h) (fun _ _ _ _ _ h=>h) (fun w' o h=>⟨Lc.gr h.1 (Gr.alloc w' o),Lc.gr h.2 (Gr.alloc w' o)⟩) ⟨L5,aa⟩ (by intro f hf;simp only [List.mem_cons,List.not_mem_nil,or_false] at hf;rcases hf with rfl<;>first | exact alloc_zero (z:=(.agg #[(.bool false),(.slice none 0 0),(.bool false),(.slice none 0 0),(.bool false),(.slice none 0 0),(.bool false),(.slice none 0 0),(.bool false),(.slice none 0 0),(.bool false),(.slice none 0 0),(.bool false),(.slice none 0 0),(.bool false),(.slice none 0 0),(.bool false),(.slice none 0 0),(.bool false),(.slice none 0 0),(.bool false),(.slice none 0 0),(.bool false),(.slice none 0 0),(.bool false),(.slice none 0 0),(.bool false),(.slice none 0 0),(.bool false),(.slice none 0 0),(.bool false),(.slice none 0 0),(.bool false),(.slice none 0 0),(.bool false),(.slice none 0 0),(.bool false),(.slice none 0 0),(.bool false),(.slice none 0 0),(.bool false),(.slice none 0 0),(.bool false),(.slice none 0 0),(.bool false),(.slice none 0 0),(.bool false),(.slice none 0 0),(.bool false),(.slice none 0 0),(.bool false),(.slice none 0 0),(.bool false),(.slice none 0 0),(.bool false),(.slice none 0 0),(.bool false),(.slice none 0 0),(.bool false),(.slice none 0 0),(.bool false),(.slice none 0 0),(.bool false),(.slice none 0 0)])) (by kernel_rfl) rfl) ?_
  refine fw 19 (.agg #[dF,dG,dD,dE]) rfl (fun w' hS=>(rl 36 0 [dF,dG,dD,dE] hS.2)) ?_
  refine fv 20 (.pointer (some ⟨b5,0,none⟩)) ?_
  refine fw 21 (.agg #[aw,aj,ad,aC]) rfl (fun w' hS=>(rl 36 0 [aw,aj,ad,aC] hS.1)) ?_
  refine fv 22 (.pointer (some ⟨b5,16,none⟩)) ?_
  refine fw 23 (.agg #[ai,ar,ax,ae]) rfl (fun w' hS=>(rl 36 16 [ai,ar,ax,ae] hS.1)) ?_
  refine fv 24 (.pointer (some ⟨b5,32,none⟩)) ?_
  refine fw 25 (.agg #[af,ay,au,al]) rfl (fun w' hS=>(rl 36 32 [af,ay,au,al] hS.1)) ?_
  refine fv 28 (.pointer (some ⟨b5,28,none⟩)) ?_
  refine fw 29 (.agg #[aZ,aP,aE,a0]) rfl (fun w' hS=>(rl 36 28 [aZ,aP,aE,a0] hS.1)) ?_
  refine fv 30 (.pointer (some ⟨b5,20,none⟩)) ?_
  refine fw 31 (.agg #[aF,aH,aV,aD]) rfl (fun w' hS=>(rl 36 20 [aF,aH,aV,aD] hS.1)) ?_
  refine fv 33 (.pointer (some ⟨b5,8,none⟩)) ?_
  refine fw 34 (.agg #[aX,aW,aQ,aT]) rfl (fun w' hS=>(rl 36 8 [aX,aW,aQ,aT] hS.1)) ?_
  refine fv 35 (.pointer (some ⟨b5,24,none⟩)) ?_
  refine fw 36 (.agg #[aJ,aU,aS,aO]) rfl (fun w' hS=>(rl 36 24 [aJ,aU,aS,aO] hS.1)) ?_
  refine fv 38 (.pointer (some ⟨b5,12,none⟩)) ?_
  refine fw 39 (.agg #[aL,aI,aN,aK]) rfl (fun w' hS=>(rl 36 12 [aL,aI,aN,aK] hS.1)) ?_
  refine fv 40 (.pointer (some ⟨b5,4,none⟩)) ?_
  refine fw 41 (.agg #[aG,aR,aY,aM]) rfl (fun w' hS=>(rl 36 4 [aG,aR,aY,aM] hS.1)) ?_
  refine fv 44 (.pointer (some ⟨b5,28,none⟩)) ?_
  refine fw 45 (.agg #[aZ,aP,aE,a0]) rfl (fun w' hS=>(rl 36 28 [aZ,aP,aE,a0] hS.1)) ?_
  refine fv 46 (.pointer (some ⟨b5,20,none⟩)) ?_
  refine fw 47 (.agg #[aF,aH,aV,aD]) rfl (fun w' hS=>(rl 36 20 [aF,aH,aV,aD] hS.1)) ?_
  refine fw 49 (.agg #[dF,dG,dD,dE]) rfl (fun w' hS=>(rl 36 0 [dF,dG,dD,dE] hS.2)) ?_
  refine fv 50 (.pointer (some ⟨b5,0,none⟩)) ?_
  refine fw 51 (.agg #[aw,aj,ad,aC]) rfl (fun w' hS=>(rl 36 0 [aw,aj,ad,aC] hS.1)) ?_
  refine fv 53 (.pointer (some ⟨b5,16,none⟩)) ?_
  refine fw 54 (.agg #[ai,ar,ax,ae]) rfl (fun w' hS=>(rl 36 16 [ai,ar,ax,ae] hS.1)) ?_
  refine fv 55 (.pointer (some ⟨b5,32,none⟩)) ?_
  refine fw 56 (.agg #[af,ay,au,al]) rfl (fun w' hS=>(rl 36 32 [af,ay,au,al] hS.1)) ?_
  refine fv 59 (.pointer (some ⟨b5,4,none⟩)) ?_
  refine fw 60 (.agg #[aG,aR,aY,aM]) rfl (fun w' hS=>(rl 36 4 [aG,aR,aY,aM] hS.1)) ?_
  refine fv 61 (.pointer (some ⟨b5,12,none⟩)) ?_
  refine fw 62 (.agg #[aL,aI,aN,aK]) rfl (fun w' hS=>(rl 36 12 [aL,aI,aN,aK] hS.1)) ?_
  refine fv 64 (.pointer (some ⟨b5,8,none⟩)) ?_
  refine fw 65 (.agg #[aX,aW,aQ,aT]) rfl (fun w' hS=>(rl 36 8 [aX,aW,aQ,aT] hS.1)) ?_
  refine fv 66 (.pointer (some ⟨b5,24,none⟩)) ?_
  refine fw 67 (.agg #[aJ,aU,aS,aO]) rfl (fun w' hS=>(rl 36 24 [aJ,aU,aS,aO] hS.1)) ?_
  refine fv 70 (.pointer (some ⟨b5,8,none⟩)) ?_
  refine fw 71 (.agg #[aX,aW,aQ,aT]) rfl (fun w' hS=>(rl 36 8 [aX,aW,aQ,aT] hS.1)) ?_
  refine fv 72 (.pointer (some ⟨b5,24,none⟩)) ?_
  refine fw 73 (.agg #[aJ,aU,aS,aO]) rfl (fun w' hS=>(rl 36 24 [aJ,aU,aS,aO] hS.1)) ?_
  refine fv 75 (.pointer (some ⟨b5,4,none⟩)) ?_
  refine fw 76 (.agg #[aG,aR,aY,aM]) rfl (fun w' hS=>(rl 36 4 [aG,aR,aY,aM] hS.1)) ?_
  refine fv 77 (.pointer (some ⟨b5,12,none⟩)) ?_
  refine fw 78 (.agg #[aL,aI,aN,aK]) rfl (fun w' hS=>(rl 36 12 [aL,aI,aN,aK] hS.1)) ?_
  refine fw 80 (.agg #[dF,dG,dD,dE]) rfl (fun w' hS=>(rl 36 0 [dF,dG,dD,dE] hS.2)) ?_
  refine fv 81 (.pointer (some ⟨b5,16,none⟩)) ?_
  refine fw 82 (.agg #[ai,ar,ax,ae]) rfl (fun w' hS=>(rl 36 16 [ai,ar,ax,ae] hS.1)) ?_
  refine fv 84 (.pointer (some ⟨b5,0,none⟩)) ?_
  refine fw 85 (.agg #[aw,aj,ad,aC]) rfl (fun w' hS=>(rl 36 0 [aw,aj,ad,aC] hS.1)) ?_
  refine fv 86 (.pointer (some ⟨b5,32,none⟩)) ?_
  refine fw 87 (.agg #[af,ay,au,al]) rfl (fun w' hS=>(rl 36 32 [af,ay,au,al] hS.1)) ?_
  refine fv 90 (.pointer (some ⟨b5,20,none⟩)) ?_
  refine fw 91 (.agg #[aF,aH,aV,aD]) rfl (fun w' hS=>(rl 36 20 [aF,aH,aV,aD] hS.1)) ?_
  refine fv 92 (.pointer (some ⟨b5,28,none⟩)) ?_
  refine fw 93 (.agg #[aZ,aP,aE,a0]) rfl (fun w' hS=>(rl 36 28 [aZ,aP,aE,a0] hS.1)) ?_
  refine fv 96 (.pointer (some ⟨b5,12,none⟩)) ?_
  refine fw 97 (.agg #[aL,aI,aN,aK]) rfl (fun w' hS=>(rl 36 12 [aL,aI,aN,aK] hS.1)) ?_
  refine fv 98 (.pointer (some ⟨b5,4,none⟩)) ?_
  refine fw 99 (.agg #[aG,aR,aY,aM]) rfl (fun w' hS=>(rl 36 4 [aG,aR,aY,aM] hS.1)) ?_
  refine fv 101 (.pointer (some ⟨b5,8,none⟩)) ?_
  refine fw 102 (.agg #[aX,aW,aQ,aT]) rfl (fun w' hS=>(rl 36 8 [aX,aW,aQ,aT] hS.1)) ?_
  refine fv 103 (.pointer (some ⟨b5,24,none⟩)) ?_
  refine fw 104 (.agg #[aJ,aU,aS,aO]) rfl (fun w' hS=>(rl 36 24 [aJ,aU,aS,aO] hS.1)) ?_
  refine fv 106 (.pointer (some ⟨b5,20,none⟩)) ?_
  refine fw 107 (.agg #[aF,aH,aV,aD]) rfl (fun w' hS=>(rl 36 20 [aF,aH,aV,aD] hS.1)) ?_
  refine fv 108 (.pointer (some ⟨b5,28,none⟩)) ?_
  refine fw 109 (.agg #[aZ,aP,aE,a0]) rfl (fun w' hS=>(rl 36 28 [aZ,aP,aE,a0] hS.1)) ?_
  refine fw 111 (.agg #[dF,dG,dD,dE]) rfl (fun w' hS=>(rl 36 0 [dF,dG,dD,dE] hS.2)) ?_
  refine fv 112 (.pointer (some ⟨b5,32,none⟩)) ?_
  refine fw 113 (.agg #[af,ay,au,al]) rfl (fun w' hS=>(rl 36 32 [af,ay,au,al] hS.1)) ?_
  refine fv 115 (.pointer (some ⟨b5,0,none⟩)) ?_
  refine fw 116 (.agg #[aw,aj,ad,aC]) rfl (fun w' hS=>(rl 36 0 [aw,aj,ad,aC] hS.1)) ?_
  refine fv 117 (.pointer (some ⟨b5,16,none⟩)) ?_
  refine fw 118 (.agg #[ai,ar,ax,ae]) rfl (fun w' hS=>(rl 36 16 [ai,ar,ax,ae] hS.1)) ?_
  refine flo_eff rfl rfl (fun jH dQ _ h7 hv=>?_)
  replace hB:=hB.trans dQ
  refine eff_bs 36 4 #[dF,dG,dD,dE,aw,aj,ad,aC,ai,ar,ax,ae,af,ay,au,al] (some 26) rfl (fun _=>by kernel_rfl) (fun kx jG dn g1 i6=>?_)
  replace L3:=L3.gr (cA.trans dQ)
  replace L5:=L5.gr dQ
  replace aa:=aa.gr dQ
  replace L9:=(L9.gr cA).gr dQ
  replace hB:=hB.trans dn
  replace L5:=L5.gr dn
  replace aa:=aa.gr dn
  refine hv _ _ dn ⟨L5,aa⟩ ?_
  try clear hv h7
  simp only [putl,p3,p4]
  refine flo_eff rfl rfl (fun jR dt _ iw hw=>?_)
  replace hB:=hB.trans dt
  replace g1:=g1.gr dt
  have g6:=ei.kp.trans (dL.trans (cA.kp.trans (dQ.kp.trans (dn.kp.trans dt.kp))))
  replace dv:=dv.kp g6
  have e4:=g2.kp.trans (g3.kp.trans (g5.kp.trans (g8.kp.trans (gB.trans (ef.kp.trans (ei.kp.trans (dL.trans (cA.kp.trans (dQ.kp.trans (dn.kp.trans dt.kp))))))))))
  replace ab:=ab.kp e4
  replace az:=az.kp e4
  replace aq:=aq.kp e4
  refine ec 27 (sum_4 (k:=k+64) (dv.mono (by omega)) (ab.mono (by omega)) (az.mono (by omega)) (aq.mono (by omega)) g1 (by omega)) ?_
  rintro kv jE ⟨⟨dV,d7,d0,dS,rfl,dP⟩,dp⟩
  refine ⟨_,rfl,?_⟩
  replace hB:=hB.trans dp
  replace L5:=L5.gr (dt.trans dp)
  replace aa:=aa.gr (dt.trans dp)
  refine hw _ _ dp ⟨L5,aa⟩ ?_
  try clear hw iw
  simp only [p3,p4]
  refine flo_eff rfl rfl (fun jp du _ ic hJ=>?_)
  replace hB:=hB.trans du
  have fY:=g2.kp.trans (g3.kp.trans (g5.kp.trans (g8.kp.trans (gB.trans (ef.kp.trans (ei.kp.trans (dL.trans (cA.kp.trans (dQ.kp.trans (dn.kp.trans (dt.kp.trans (dp.kp.trans du.kp))))))))))))
  replace aB:=aB.kp fY
  replace ah:=ah.kp fY
  refine ec 32 (sub_r aB ah (by omega)) ?_
  rintro e23 jr ⟨⟨eB,eH,e7,ez,rfl,fJ⟩,dl⟩
  refine ⟨_,rfl,?_⟩
  replace hB:=hB.trans dl
  replace L5:=L5.gr (du.trans dl)
  replace aa:=aa.gr (du.trans dl)
  refine hJ _ _ dl ⟨L5,aa⟩ ?_
  try clear hJ ic
  simp only [p3,p4]
  refine flo_eff rfl rfl (fun jM dm _ h6 hT=>?_)
  replace hB:=hB.trans dm
  have f4:=g2.kp.trans (g3.kp.trans (g5.kp.trans (g8.kp.trans (gB.trans (ef.kp.trans (ei.kp.trans (dL.trans (cA.kp.trans (dQ.kp.trans (dn.kp.trans (dt.kp.trans (dp.kp.trans (du.kp.trans (dl.kp.trans dm.kp))))))))))))))
  replace av:=av.kp f4
  replace ak:=ak.kp f4
  refine ec 37 (sub_r av ak (by omega)) ?_
  rintro kl ke ⟨⟨eI,eE,fD,fp,rfl,fe⟩,de⟩
  refine ⟨_,rfl,?_⟩
  replace hB:=hB.trans de
  replace L5:=L5.gr (dm.trans de)
  replace aa:=aa.gr (dm.trans de)
  refine hT _ _ de ⟨L5,aa⟩ ?_
  try clear hT h6
  simp only [p3,p4]
  refine flo_eff rfl rfl (fun kg cK _ iy hN=>?_)
  replace hB:=hB.trans cK
  have fZ:=g2.kp.trans (g3.kp.trans (g5.kp.trans (g8.kp.trans (gB.trans (ef.kp.trans (ei.kp.trans (dL.trans (cA.kp.trans (dQ.kp.trans (dn.kp.trans (dt.kp.trans (dp.kp.trans (du.kp.trans (dl.kp.trans (dm.kp.trans (de.kp.trans cK.kp))))))))))))))))
  replace ac:=ac.kp fZ
  replace aA:=aA.kp fZ
  refine ec 42 (sub_r ac aA (by omega)) ?_
  rintro iW kr ⟨⟨eO,eR,ek,fA,rfl,eM⟩,cD⟩
  refine ⟨_,rfl,?_⟩
  replace hB:=hB.trans cD
  replace L5:=L5.gr (cK.trans cD)
  replace aa:=aa.gr (cK.trans cD)
  refine hN _ _ cD ⟨L5,aa⟩ ?_
  try clear hN iy
  simp only [p3,p4]
  refine fv 43 (.agg #[dV,d7,d0,dS,eB,eH,e7,ez,eI,eE,fD,fp,eO,eR,ek,fA]) ?_
  refine flo_eff rfl rfl (fun j2 cC _ ig hq=>?_)
  replace hB:=hB.trans cC
  have f5:=dl.kp.trans (dm.kp.trans (de.kp.trans (cK.kp.trans (cD.kp.trans cC.kp))))
  replace aB:=aB.kp f5
  replace ah:=ah.kp f5
  refine ec 48 (sub_r aB ah (by omega)) ?_
  rintro e32 i7 ⟨⟨eu,eP,e5,fu,rfl,eX⟩,cy⟩
  refine ⟨_,rfl,?_⟩
  replace hB:=hB.trans cy
  replace L5:=L5.gr (cC.trans cy)
  replace aa:=aa.gr (cC.trans cy)
  refine hq _ _ cy ⟨L5,aa⟩ ?_
  try clear hq ig
  simp only [p3,p4]
  refine flo_eff rfl rfl (fun ki cB _ ij hD=>?_)
  replace hB:=hB.trans cB
  have gv:=dp.kp.trans (du.kp.trans (dl.kp.trans (dm.kp.trans (de.kp.trans (cK.kp.trans (cD.kp.trans (cC.kp.trans (cy.kp.trans cB.kp))))))))
  replace dv:=dv.kp gv
  replace ab:=ab.kp gv
  refine ec 52 (add_r dv ab (by omega)) ?_
  rintro j4 kc ⟨⟨jX,kj,j8,kn,rfl,gF⟩,cu⟩
  refine ⟨_,rfl,?_⟩
  replace hB:=hB.trans cu
  replace L5:=L5.gr (cB.trans cu)
  replace aa:=aa.gr (cB.trans cu)
  refine hD _ _ cu ⟨L5,aa⟩ ?_
  try clear hD ij
  simp only [p3,p4]
  refine flo_eff rfl rfl (fun jA cq _ iU hL=>?_)
  replace hB:=hB.trans cq
  have ge:=dp.kp.trans (du.kp.trans (dl.kp.trans (dm.kp.trans (de.kp.trans (cK.kp.trans (cD.kp.trans (cC.kp.trans (cy.kp.trans (cB.kp.trans (cu.kp.trans cq.kp))))))))))
  replace az:=az.kp ge
  replace aq:=aq.kp ge
  refine ec 57 (add_r az aq (by omega)) ?_
  rintro jK j9 ⟨⟨jv,jU,j6,j1,rfl,gE⟩,cl⟩
  refine ⟨_,rfl,?_⟩
  replace hB:=hB.trans cl
  replace L5:=L5.gr (cq.trans cl)
  replace aa:=aa.gr (cq.trans cl)
  refine hL _ _ cl ⟨L5,aa⟩ ?_
  try clear hL iU
  simp only [p3,p4]
  refine flo_eff rfl rfl (fun jz cj _ iu hp=>?_)
  replace hB:=hB.trans cj
  have gZ:=cq.kp.trans (cl.kp.trans cj.kp)
  replace gF:=gF.kp gZ
  replace gE:=gE.kp cj.kp
  refine ec 58 (sub_r gF gE (by omega)) ?_
  rintro jd jx ⟨⟨dU,dW,dX,dY,rfl,dR⟩,cn⟩
  refine ⟨_,rfl,?_⟩
  replace hB:=hB.trans cn
  replace L5:=L5.gr (cj.trans cn)
  replace aa:=aa.gr (cj.trans cn)
  refine hp _ _ cn ⟨L5,aa⟩ ?_
  try clear hp iu
  simp only [p3,p4]
  refine flo_eff rfl rfl (fun ky cm _ h9 hn=>?_)
  replace hB:=hB.trans cm
  have fV:=cD.kp.trans (cC.kp.trans (cy.kp.trans (cB.kp.trans (cu.kp.trans (cq.kp.trans (cl.kp.trans (cj.kp.trans (cn.kp.trans cm.kp))))))))
  replace aA:=aA.kp fV
  replace ac:=ac.kp fV
  refine ec 63 (add_r aA ac (by omega)) ?_
  rintro j0 jB ⟨⟨eL,eo,e0,e2,rfl,em⟩,ck⟩
  refine ⟨_,rfl,?_⟩
  replace hB:=hB.trans ck
  replace L5:=L5.gr (cm.trans ck)
  replace aa:=aa.gr (cm.trans ck)
  refine hn _ _ ck ⟨L5,aa⟩ ?_
  try clear hn h9
  simp only [p3,p4]
  refine flo_eff rfl rfl (fun jC ch _ iG hC=>?_)
  replace hB:=hB.trans ch
  have f7:=de.kp.trans (cK.kp.trans (cD.kp.trans (cC.kp.trans (cy.kp.trans (cB.kp.trans (cu.kp.trans (cq.kp.trans (cl.kp.trans (cj.kp.trans (cn.kp.trans (cm.kp.trans (ck.kp.trans ch.kp))))))))))))
  replace av:=av.kp f7
  replace ak:=ak.kp f7
  refine ec 68 (add_r av ak (by omega)) ?_
  rintro kw jS ⟨⟨eJ,fH,fh,fq,rfl,eW⟩,ce⟩
  refine ⟨_,rfl,?_⟩
  replace hB:=hB.trans ce
  replace L5:=L5.gr (ch.trans ce)
  replace aa:=aa.gr (ch.trans ce)
  refine hC _ _ ce ⟨L5,aa⟩ ?_
  try clear hC iG
  simp only [p3,p4]
  refine fv 69 (.agg #[eu,eP,e5,fu,dU,dW,dX,dY,eL,eo,e0,e2,eJ,fH,fh,fq]) ?_
  refine flo_eff rfl rfl (fun jJ cg _ iR hu=>?_)
  replace hB:=hB.trans cg
  have f0:=ce.kp.trans cg.kp
  replace av:=av.kp f0
  replace ak:=ak.kp f0
  refine ec 74 (sub_r av ak (by omega)) ?_
  rintro i4 je ⟨⟨e3,fs,ew,eQ,rfl,fb⟩,b8⟩
  refine ⟨_,rfl,?_⟩
  replace hB:=hB.trans b8
  replace L5:=L5.gr (cg.trans b8)
  replace aa:=aa.gr (cg.trans b8)
  refine hu _ _ b8 ⟨L5,aa⟩ ?_
  try clear hu iR
  simp only [p3,p4]
  refine flo_eff rfl rfl (fun j7 cd _ ib hQ=>?_)
  replace hB:=hB.trans cd
  have fS:=ck.kp.trans (ch.kp.trans (ce.kp.trans (cg.kp.trans (b8.kp.trans cd.kp))))
  replace aA:=aA.kp fS
  replace ac:=ac.kp fS
  refine ec 79 (add_r aA ac (by omega)) ?_
  rintro kq jy ⟨⟨fx,ff,fB,en,rfl,eA⟩,b4⟩
  refine ⟨_,rfl,?_⟩
  replace hB:=hB.trans b4
  replace L5:=L5.gr (cd.trans b4)
  replace aa:=aa.gr (cd.trans b4)
  refine hQ _ _ b4 ⟨L5,aa⟩ ?_
  try clear hQ ib
  simp only [p3,p4]
  refine flo_eff rfl rfl (fun jm b7 _ iB hU=>?_)
  replace hB:=hB.trans b7
  have gO:=cu.kp.trans (cq.kp.trans (cl.kp.trans (cj.kp.trans (cn.kp.trans (cm.kp.trans (ck.kp.trans (ch.kp.trans (ce.kp.trans (cg.kp.trans (b8.kp.trans (cd.kp.trans (b4.kp.trans b7.kp))))))))))))
  replace dv:=dv.kp gO
  have gN:=cl.kp.trans (cj.kp.trans (cn.kp.trans (cm.kp.trans (ck.kp.trans (ch.kp.trans (ce.kp.trans (cg.kp.trans (b8.kp.trans (cd.kp.trans (b4.kp.trans b7.kp))))))))))
  replace az:=az.kp gN
  refine ec 83 (add_r dv az (by omega)) ?_
  rintro kb jD ⟨⟨jf,jg,jZ,kd,rfl,gG⟩,bx⟩
  refine ⟨_,rfl,?_⟩
  replace hB:=hB.trans bx
  replace L5:=L5.gr (b7.trans bx)
  replace aa:=aa.gr (b7.trans bx)
  refine hU _ _ bx ⟨L5,aa⟩ ?_
  try clear hU iB
  simp only [p3,p4]
  refine flo_eff rfl rfl (fun jh bQ _ iz hr=>?_)
  replace hB:=hB.trans bQ
  have g7:=cu.kp.trans (cq.kp.trans (cl.kp.trans (cj.kp.trans (cn.kp.trans (cm.kp.trans (ck.kp.trans (ch.kp.trans (ce.kp.trans (cg.kp.trans (b8.kp.trans (cd.kp.trans (b4.kp.trans (b7.kp.trans (bx.kp.trans bQ.kp))))))))))))))
  replace ab:=ab.kp g7
  have gD:=cl.kp.trans (cj.kp.trans (cn.kp.trans (cm.kp.trans (ck.kp.trans (ch.kp.trans (ce.kp.trans (cg.kp.trans (b8.kp.trans (cd.kp.trans (b4.kp.trans (b7.kp.trans (bx.kp.trans bQ.kp))))))))))))
  replace aq:=aq.kp gD
  refine ec 88 (add_r ab aq (by omega)) ?_
  rintro jc iY ⟨⟨jw,ja,jN,j3,rfl,hd⟩,bv⟩
  refine ⟨_,rfl,?_⟩
  replace hB:=hB.trans bv
  replace L5:=L5.gr (bQ.trans bv)
  replace aa:=aa.gr (bQ.trans bv)
  refine hr _ _ bv ⟨L5,aa⟩ ?_
  try clear hr iz
  simp only [p3,p4]
  refine flo_eff rfl rfl (fun jO bn _ hV hm=>?_)
  replace hB:=hB.trans bn
  have g0:=bQ.kp.trans (bv.kp.trans bn.kp)
  replace gG:=gG.kp g0
  replace hd:=hd.kp bn.kp
  refine ec 89 (sub_r gG hd (by omega)) ?_
  rintro i3 jL ⟨⟨dT,dZ,d8,d5,rfl,dI⟩,bW⟩
  refine ⟨_,rfl,?_⟩
  replace hB:=hB.trans bW
  replace L5:=L5.gr (bn.trans bW)
  replace aa:=aa.gr (bn.trans bW)
  refine hm _ _ bW ⟨L5,aa⟩ ?_
  try clear hm hV
  simp only [p3,p4]
  refine flo_eff rfl rfl (fun jQ bE _ iO hH=>?_)
  replace hB:=hB.trans bE
  have f8:=cy.kp.trans (cB.kp.trans (cu.kp.trans (cq.kp.trans (cl.kp.trans (cj.kp.trans (cn.kp.trans (cm.kp.trans (ck.kp.trans (ch.kp.trans (ce.kp.trans (cg.kp.trans (b8.kp.trans (cd.kp.trans (b4.kp.trans (b7.kp.trans (bx.kp.trans (bQ.kp.trans (bv.kp.trans (bn.kp.trans (bW.kp.trans bE.kp))))))))))))))))))))
  replace ah:=ah.kp f8
  replace aB:=aB.kp f8
  refine ec 94 (add_r ah aB (by omega)) ?_
  rintro ku iZ ⟨⟨fi,ex,et,e6,rfl,eZ⟩,bm⟩
  refine ⟨_,rfl,?_⟩
  replace hB:=hB.trans bm
  replace L5:=L5.gr (bE.trans bm)
  replace aa:=aa.gr (bE.trans bm)
  refine hH _ _ bm ⟨L5,aa⟩ ?_
  try clear hH iO
  simp only [p3,p4]
  refine fv 95 (.agg #[e3,fs,ew,eQ,fx,ff,fB,en,dT,dZ,d8,d5,fi,ex,et,e6]) ?_
  refine flo_eff rfl rfl (fun iX bk _ iS hO=>?_)
  replace hB:=hB.trans bk
  have fX:=b4.kp.trans (b7.kp.trans (bx.kp.trans (bQ.kp.trans (bv.kp.trans (bn.kp.trans (bW.kp.trans (bE.kp.trans (bm.kp.trans bk.kp))))))))
  replace ac:=ac.kp fX
  replace aA:=aA.kp fX
  refine ec 100 (sub_r ac aA (by omega)) ?_
  rintro ko j5 ⟨⟨eD,e9,fK,fd,rfl,eS⟩,bu⟩
  refine ⟨_,rfl,?_⟩
  replace hB:=hB.trans bu
  replace L5:=L5.gr (bk.trans bu)
  replace aa:=aa.gr (bk.trans bu)
  refine hO _ _ bu ⟨L5,aa⟩ ?_
  try clear hO iS
  simp only [p3,p4]
  refine flo_eff rfl rfl (fun i5 bq _ iP hP=>?_)
  replace hB:=hB.trans bq
  have fU:=b8.kp.trans (cd.kp.trans (b4.kp.trans (b7.kp.trans (bx.kp.trans (bQ.kp.trans (bv.kp.trans (bn.kp.trans (bW.kp.trans (bE.kp.trans (bm.kp.trans (bk.kp.trans (bu.kp.trans bq.kp))))))))))))
  replace av:=av.kp fU
  replace ak:=ak.kp fU
  refine ec 105 (add_r av ak (by omega)) ?_
  rintro iV jI ⟨⟨fy,fg,fI,eT,rfl,ft⟩,bw⟩
  refine ⟨_,rfl,?_⟩
  replace hB:=hB.trans bw
  replace L5:=L5.gr (bq.trans bw)
  replace aa:=aa.gr (bq.trans bw)
  refine hP _ _ bw ⟨L5,aa⟩ ?_
  try clear hP iP
  simp only [p3,p4]
  refine flo_eff rfl rfl (fun ju bo _ iD hI=>?_)
  replace hB:=hB.trans bo
  have gb:=bm.kp.trans (bk.kp.trans (bu.kp.trans (bq.kp.trans (bw.kp.trans bo.kp))))
  replace ah:=ah.kp gb
  replace aB:=aB.kp gb
  refine ec 110 (add_r ah aB (by omega)) ?_
  rintro jF kf ⟨⟨eV,fj,fm,fF,rfl,eK⟩,bt⟩
  refine ⟨_,rfl,?_⟩
  replace hB:=hB.trans bt
  replace L5:=L5.gr (bo.trans bt)
  replace aa:=aa.gr (bo.trans bt)
  refine hI _ _ bt ⟨L5,aa⟩ ?_
  try clear hI iD
  simp only [p3,p4]
  refine flo_eff rfl rfl (fun jb bp _ io hE=>?_)
  replace hB:=hB.trans bp
  have gP:=bx.kp.trans (bQ.kp.trans (bv.kp.trans (bn.kp.trans (bW.kp.trans (bE.kp.trans (bm.kp.trans (bk.kp.trans (bu.kp.trans (bq.kp.trans (bw.kp.trans (bo.kp.trans (bt.kp.trans bp.kp))))))))))))
  replace dv:=dv.kp gP
  have gU:=bv.kp.trans (bn.kp.trans (bW.kp.trans (bE.kp.trans (bm.kp.trans (bk.kp.trans (bu.kp.trans (bq.kp.trans (bw.kp.trans (bo.kp.trans (bt.kp.trans bp.kp))))))))))
  replace aq:=aq.kp gU
  refine ec 114 (add_r dv aq (by omega)) ?_
  rintro ji ka ⟨⟨i9,jV,i8,jP,rfl,gV⟩,bz⟩
  refine ⟨_,rfl,?_⟩
  replace hB:=hB.trans bz
  replace L5:=L5.gr (bp.trans bz)
  replace aa:=aa.gr (bp.trans bz)
  refine hE _ _ bz ⟨L5,aa⟩ ?_
  try clear hE io
  simp only [p3,p4]
  refine flo_eff rfl rfl (fun kh bA _ ia hy=>?_)
  replace hB:=hB.trans bA
  have gR:=bv.kp.trans (bn.kp.trans (bW.kp.trans (bE.kp.trans (bm.kp.trans (bk.kp.trans (bu.kp.trans (bq.kp.trans (bw.kp.trans (bo.kp.trans (bt.kp.trans (bp.kp.trans (bz.kp.trans bA.kp))))))))))))
  replace ab:=ab.kp gR
  have hk:=bx.kp.trans (bQ.kp.trans (bv.kp.trans (bn.kp.trans (bW.kp.trans (bE.kp.trans (bm.kp.trans (bk.kp.trans (bu.kp.trans (bq.kp.trans (bw.kp.trans (bo.kp.trans (bt.kp.trans (bp.kp.trans (bz.kp.trans bA.kp))))))))))))))
  replace az:=az.kp hk
  refine ec 119 (add_r ab az (by omega)) ?_
  rintro i1 jt ⟨⟨jq,js,km,i2,rfl,gH⟩,b6⟩
  refine ⟨_,rfl,?_⟩
  replace hB:=hB.trans b6
  replace L5:=L5.gr (bA.trans b6)
  replace aa:=aa.gr (bA.trans b6)
  refine hy _ _ b6 ⟨L5,aa⟩ ?_
  try clear hy ia
  simp only [p3,p4]
  refine flo_eff rfl rfl (fun jn bZ _ il hz=>?_)
  replace hB:=hB.trans bZ
  have hh:=bA.kp.trans (b6.kp.trans bZ.kp)
  replace gV:=gV.kp hh
  replace gH:=gH.kp bZ.kp
  refine ec 120 (sub_r gV gH (by omega)) ?_
  rintro jW jo ⟨⟨el,eF,fo,eU,rfl,e1⟩,b9⟩
  refine ⟨_,rfl,?_⟩
  replace hB:=hB.trans b9
  replace L5:=L5.gr (bZ.trans b9)
  replace aa:=aa.gr (bZ.trans b9)
  refine hz _ _ b9 ⟨L5,aa⟩ ?_
  try clear hz il
  simp only [p3,p4]
  refine fv 121 (.agg #[eD,e9,fK,fd,fy,fg,fI,eT,eV,fj,fm,fF,el,eF,fo,eU]) ?_
  refine fv 122 (.agg #[dV,d7,d0,dS,eB,eH,e7,ez,eI,eE,fD,fp,eO,eR,ek,fA,eu,eP,e5,fu,dU,dW,dX,dY,eL,eo,e0,e2,eJ,fH,fh,fq,e3,fs,ew,eQ,fx,ff,fB,en,dT,dZ,d8,d5,fi,ex,et,e6,eD,e9,fK,fd,fy,fg,fI,eT,eV,fj,fm,fF,el,eF,fo,eU]) ?_
  refine flo_nil (fun jY cc _=>?_)
  replace hB:=hB.trans cc
  refine floFin1 (fun dw co ep=>?_)
  replace co:Lc _ _ _ _:=co
  have c6:b3≠dw:=Nat.ne_of_lt (Nat.lt_of_lt_of_le fa ep)
  have fG:b5≠dw:=Nat.ne_of_lt (Nat.lt_of_lt_of_le ey ep)
  have d4:hR≠dw:=Nat.ne_of_lt (Nat.lt_of_lt_of_le d6 ep)
  have cM:D9≠dw:=Nat.ne_of_lt (Nat.lt_of_lt_of_le eN ep)
  replace ep:=Nat.le_trans hg ep
  simp only [putl,p3,p4]
  refine oe ?_
  refine es 158 0 (.agg #[dV,d7,d0,dS,eB,eH,e7,ez,eI,eE,fD,fp,eO,eR,ek,fA,eu,eP,e5,fu,dU,dW,dX,dY,eL,eo,e0,e2,eJ,fH,fh,fq,e3,fs,ew,eQ,fx,ff,fB,en,dT,dZ,d8,d5,fi,ex,et,e6,eD,e9,fK,fd,fy,fg,fI,eT,eV,fj,fm,fF,el,eF,fo,eU]) [dV,d7,d0,dS,eB,eH,e7,ez,eI,eE,fD,fp,eO,eR,ek,fA,eu,eP,e5,fu,dU,dW,dX,dY,eL,eo,e0,e2,eJ,fH,fh,fq,e3,fs,ew,eQ,fx,ff,fB,en,dT,dZ,d8,d5,fi,ex,et,e6,eD,e9,fK,fd,fy,fg,fI,eT,eV,fj,fm,fF,el,eF,fo,eU] #[dV,d7,d0,dS,eB,eH,e7,ez,eI,eE,fD,fp,eO,eR,ek,fA,eu,eP,e5,fu,dU,dW,dX,dY,eL,eo,e0,e2,eJ,fH,fh,fq,e3,fs,ew,eQ,fx,ff,fB,en,dT,dZ,d8,d5,fi,ex,et,e6,eD,e9,fK,fd,fy,fg,fI,eT,eV,fj,fm,fF,el,eF,fo,eU] co hB ep ⟨dP.one0,dP.one1,dP.one2,dP.one3,fJ.one0,fJ.one1,fJ.one2,fJ.one3,fe.one0,fe.one1,fe.one2,fe.one3,eM.one0,eM.one1,eM.one2,eM.one3,eX.one0,eX.one1,eX.one2,eX.one3,dR.one0,dR.one1,dR.one2,dR.one3,em.one0,em.one1,em.one2,em.one3,eW.one0,eW.one1,eW.one2,eW.one3,fb.one0,fb.one1,fb.one2,fb.one3,eA.one0,eA.one1,eA.one2,eA.one3,dI.one0,dI.one1,dI.one2,dI.one3,eZ.one0,eZ.one1,eZ.one2,eZ.one3,eS.one0,eS.one1,eS.one2,eS.one3,ft.one0,ft.one1,ft.one2,ft.one3,eK.one0,eK.one1,eK.one2,eK.one3,e1.one0,e1.one1,e1.one2,e1.one3,trivial⟩ fun jk cx bi co hB=>?_
  replace L5:=cx.lc (L5.gr cc) fG
  replace aa:=cx.lc (aa.gr cc) d4
  refine ⟨⟨L5,aa⟩,?_⟩
  refine ord_nil ?_
  refine hx _ _ ?_
  try clear hx ii
  refine wp_seq_k (fun iq ht=>?_)
  refine rg [0] ?_
  refine sv 8 (.int .i64 0) ?_
  refine sq_nil ?_
  refine ht _ _ ?_
  try clear ht iq
  refine wp_seq_k (fun gA ed=>?_)
  refine wp_block ?_
  refine wp_loop_rounds 4 ?_
  show Code.wp _ _ _ _ _
  refine wp_seq_k (fun hY hG=>?_)
  refine wp_seq_k (fun ip hA=>?_)
  refine rg [0,1,2,3,4,5,6,7,8,9,10] ?_
  refine sv 123 (.int .i64 0) ?_
  refine sv 124 (.bool true) ?_
  refine sv 125 (.bool true) ?_
  refine sv 126 (.int .i64 0) ?_
  refine sv 127 (.int .i64 0) ?_
  refine sv 128 (.pointer (some ⟨dw,0,none⟩)) ?_
  refine sv 129 (.pointer (some ⟨dw,0,none⟩)) ?_
  refine sw 130 (.agg #[dV,d7,d0,dS]) rfl (rl 36 0 [dV,d7,d0,dS] co) ?_
  refine se ?_
  have gJ:=du.kp.trans (dl.kp.trans (dm.kp.trans (de.kp.trans (cK.kp.trans (cD.kp.trans (cC.kp.trans (cy.kp.trans (cB.kp.trans (cu.kp.trans (cq.kp.trans (cl.kp.trans (cj.kp.trans (cn.kp.trans (cm.kp.trans (ck.kp.trans (ch.kp.trans (ce.kp.trans (cg.kp.trans (b8.kp.trans (cd.kp.trans (b4.kp.trans (b7.kp.trans (bx.kp.trans (bQ.kp.trans (bv.kp.trans (bn.kp.trans (bW.kp.trans (bE.kp.trans (bm.kp.trans (bk.kp.trans (bu.kp.trans (bq.kp.trans (bw.kp.trans (bo.kp.trans (bt.kp.trans (bp.kp.trans (bz.kp.trans (bA.kp.trans (b6.kp.trans (bZ.kp.trans (b9.kp.trans (cc.kp.trans bi))))))))))))))))))))))))))))))))))))))))))
  replace dP:=dP.kp gJ
  refine ec 131 (sign_r dP) ?_
  rintro i0 jj ⟨rfl,ca⟩
  refine ⟨_,rfl,?_⟩
  replace hB:=hB.trans ca
  simp only [p3,p4]
  refine sv 132 (.bool ((sgn (((((0+1)+bL)+bD)+bC)).num==(0:Int)))) ?_
  refine sv 133 (.bool ((sgn (((((0+1)+bL)+bD)+bC)).num==(0:Int)))) ?_
  refine sq_nil ?_
  refine hA _ _ ?_
  try clear hA ip
  refine wp_cond_split (t:=(sgn (((((0+1)+bL)+bD)+bC)).num==(0:Int))) rfl (fun cR=>?_) (fun cR=>?_)
  ·refine wp_skip ?_
   refine hG _ _ ?_
   try clear hG hY
   refine wp_block ?_
   refine rg [0,1,2] ?_
   refine sv 134 (.int .i64 0) ?_
   refine sv 135 (.int .i64 1) ?_
   refine sv 8 (.int .i64 1) ?_
   refine sq_nil ?_
   show Code.rounds _ _ _ _ _ _
   show Code.wp _ _ _ _ _
   refine wp_seq_k (fun gC fT=>?_)
   refine wp_seq_k (fun hj gq=>?_)
   refine rg [0,1,2,3,4,5,6,7,8,9,10] ?_
   refine sv 123 (.int .i64 1) ?_
   refine sv 124 (.bool true) ?_
   refine sv 125 (.bool true) ?_
   refine sv 126 (.int .i64 1) ?_
   refine sv 127 (.int .i64 1) ?_
   refine sv 128 (.pointer (some ⟨dw,16,none⟩)) ?_
   refine sv 129 (.pointer (some ⟨dw,20,none⟩)) ?_
   replace co:=co.gr ca
   refine sw 130 (.agg #[dU,dW,dX,dY]) rfl (rl 36 20 [dU,dW,dX,dY] co) ?_
   refine se ?_
   have gu:=cm.kp.trans (ck.kp.trans (ch.kp.trans (ce.kp.trans (cg.kp.trans (b8.kp.trans (cd.kp.trans (b4.kp.trans (b7.kp.trans (bx.kp.trans (bQ.kp.trans (bv.kp.trans (bn.kp.trans (bW.kp.trans (bE.kp.trans (bm.kp.trans (bk.kp.trans (bu.kp.trans (bq.kp.trans (bw.kp.trans (bo.kp.trans (bt.kp.trans (bp.kp.trans (bz.kp.trans (bA.kp.trans (b6.kp.trans (bZ.kp.trans (b9.kp.trans (cc.kp.trans (bi.trans ca.kp)))))))))))))))))))))))))))))
   replace dR:=dR.kp gu
   refine ec 131 (sign_r dR) ?_
   rintro h2 iQ ⟨rfl,a1⟩
   refine ⟨_,rfl,?_⟩
   replace hB:=hB.trans a1
   simp only [p3,p4]
   refine sv 132 (.bool ((sgn (((1+bL) - (bD+bC))).num==(0:Int)))) ?_
   refine sv 133 (.bool ((sgn (((1+bL) - (bD+bC))).num==(0:Int)))) ?_
   refine sq_nil ?_
   refine gq _ _ ?_
   try clear gq hj
   refine wp_cond_split (t:=(sgn (((1+bL) - (bD+bC))).num==(0:Int))) rfl (fun ct=>?_) (fun ct=>?_)
   ·refine wp_skip ?_
    refine fT _ _ ?_
    try clear fT gC
    refine wp_block ?_
    refine rg [0,1,2] ?_
    refine sv 134 (.int .i64 1) ?_
    refine sv 135 (.int .i64 2) ?_
    refine sv 8 (.int .i64 2) ?_
    refine sq_nil ?_
    show Code.rounds _ _ _ _ _ _
    show Code.wp _ _ _ _ _
    refine wp_seq_k (fun hc f2=>?_)
    refine wp_seq_k (fun g9 gd=>?_)
    refine rg [0,1,2,3,4,5,6,7,8,9,10] ?_
    refine sv 123 (.int .i64 2) ?_
    refine sv 124 (.bool true) ?_
    refine sv 125 (.bool true) ?_
    refine sv 126 (.int .i64 2) ?_
    refine sv 127 (.int .i64 2) ?_
    refine sv 128 (.pointer (some ⟨dw,32,none⟩)) ?_
    refine sv 129 (.pointer (some ⟨dw,40,none⟩)) ?_
    replace co:=co.gr a1
    refine sw 130 (.agg #[dT,dZ,d8,d5]) rfl (rl 36 40 [dT,dZ,d8,d5] co) ?_
    refine se ?_
    have gm:=bE.kp.trans (bm.kp.trans (bk.kp.trans (bu.kp.trans (bq.kp.trans (bw.kp.trans (bo.kp.trans (bt.kp.trans (bp.kp.trans (bz.kp.trans (bA.kp.trans (b6.kp.trans (bZ.kp.trans (b9.kp.trans (cc.kp.trans (bi.trans (ca.kp.trans a1.kp))))))))))))))))
    replace dI:=dI.kp gm
    refine ec 131 (sign_r dI) ?_
    rintro iF ih ⟨rfl,bj⟩
    refine ⟨_,rfl,?_⟩
    replace hB:=hB.trans bj
    simp only [p3,p4]
    refine sv 132 (.bool ((sgn (((1+bD) - (bL+bC))).num==(0:Int)))) ?_
    refine sv 133 (.bool ((sgn (((1+bD) - (bL+bC))).num==(0:Int)))) ?_
    refine sq_nil ?_
    refine gd _ _ ?_
    try clear gd g9
    refine wp_cond_split (t:=(sgn (((1+bD) - (bL+bC))).num==(0:Int))) rfl (fun dq=>?_) (fun dq=>?_)
    ·refine wp_skip ?_
     refine f2 _ _ ?_
     try clear f2 hc
     refine wp_block ?_
     refine rg [0,1,2] ?_
     refine sv 134 (.int .i64 2) ?_
     refine sv 135 (.int .i64 3) ?_
     refine sv 8 (.int .i64 3) ?_
     refine sq_nil ?_
     show Code.rounds _ _ _ _ _ _
     show Code.wp _ _ _ _ _
     refine wp_seq_k (fun iJ h4=>?_)
     refine wp_seq_k (fun gM fR=>?_)
     refine rg [0,1,2,3,4,5,6,7,8,9,10] ?_
     refine sv 123 (.int .i64 3) ?_
     refine sv 124 (.bool false) ?_
     refine sv 125 (.bool false) ?_
     refine ss 126 ?_
     refine ss 127 ?_
     refine ss 128 ?_
     refine ss 129 ?_
     refine ss 130 ?_
     refine ss 131 ?_
     refine ss 132 ?_
     refine sv 133 (.bool false) ?_
     refine sq_nil ?_
     refine fR _ _ ?_
     try clear fR gM
     refine wp_cond_false rfl ?_
     refine wp_exit ?_
     simp only [Exit.then,Exit.inBlock,↓reduceIte]
     refine ed _ _ ?_
     try clear ed gA
     refine wp_seq_k (fun gK gj=>?_)
     refine rg [0,1,2,3,4] ?_
     refine sv 136 (.int .i64 3) ?_
     refine sv 137 (.pointer (some ⟨dw,48,none⟩)) ?_
     replace co:=co.gr bj
     refine sw 138 (.agg #[eD,e9,fK,fd,fy,fg,fI,eT,eV,fj,fm,fF,el,eF,fo,eU]) rfl (rl 157 48 [eD,e9,fK,fd,fy,fg,fI,eT,eV,fj,fm,fF,el,eF,fo,eU] co) ?_
     refine se ?_
     have gh:=bq.kp.trans (bw.kp.trans (bo.kp.trans (bt.kp.trans (bp.kp.trans (bz.kp.trans (bA.kp.trans (b6.kp.trans (bZ.kp.trans (b9.kp.trans (cc.kp.trans (bi.trans (ca.kp.trans (a1.kp.trans bj.kp)))))))))))))
     replace eS:=eS.kp gh
     have gl:=bo.kp.trans (bt.kp.trans (bp.kp.trans (bz.kp.trans (bA.kp.trans (b6.kp.trans (bZ.kp.trans (b9.kp.trans (cc.kp.trans (bi.trans (ca.kp.trans (a1.kp.trans bj.kp)))))))))))
     replace ft:=ft.kp gl
     have gx:=bp.kp.trans (bz.kp.trans (bA.kp.trans (b6.kp.trans (bZ.kp.trans (b9.kp.trans (cc.kp.trans (bi.trans (ca.kp.trans (a1.kp.trans bj.kp)))))))))
     replace eK:=eK.kp gx
     have fL:=cc.kp.trans (bi.trans (ca.kp.trans (a1.kp.trans bj.kp)))
     replace e1:=e1.kp fL
     refine ec 139 (mwhole (k:=8*k+900) (eS.mono (by omega)) (ft.mono (by omega)) (eK.mono (by omega)) (e1.mono (by omega)) (row_pos3t cR ct dq) (by omega)) ?_
     rintro hX im ⟨⟨cY,c9,cL,cV,cW,cG,di,cO,rfl,bO,bR,bN,bT⟩,eG⟩
     refine ⟨_,rfl,?_⟩
     replace hB:=hB.trans eG
     simp only [p3,p4]
     refine se ?_
     replace L3:=(cx.lc (L3.gr (dn.trans (dt.trans (dp.trans (du.trans (dl.trans (dm.trans (de.trans (cK.trans (cD.trans (cC.trans (cy.trans (cB.trans (cu.trans (cq.trans (cl.trans (cj.trans (cn.trans (cm.trans (ck.trans (ch.trans (ce.trans (cg.trans (b8.trans (cd.trans (b4.trans (b7.trans (bx.trans (bQ.trans (bv.trans (bn.trans (bW.trans (bE.trans (bm.trans (bk.trans (bu.trans (bq.trans (bw.trans (bo.trans (bt.trans (bp.trans (bz.trans (bA.trans (b6.trans (bZ.trans (b9.trans cc)))))))))))))))))))))))))))))))))))))))))))))) c6).gr (ca.trans (a1.trans (bj.trans eG)))
     refine es 125 0 (.agg #[cY,c9,cL,cV,cW,cG,di,cO]) [cY,c9,cL,cV,cW,cG,di,cO] #[cY,c9,cL,cV,cW,cG,di,cO] L3 hB q3 ⟨bO.one0,bO.one1,bR.one0,bR.one1,bN.one0,bN.one1,bT.one0,bT.one1,trivial⟩ fun iI fW gf L3 hB=>?_
     refine sq_nil ?_
     refine gj _ _ ?_
     try clear gj gK
     refine wp_ret ?_
     replace L9:=(((((((((((((((((((((((((((((((((((((((((((((((((((L9.gr dn).gr dt).gr dp).gr du).gr dl).gr dm).gr de).gr cK).gr cD).gr cC).gr cy).gr cB).gr cu).gr cq).gr cl).gr cj).gr cn).gr cm).gr ck).gr ch).gr ce).gr cg).gr b8).gr cd).gr b4).gr b7).gr bx).gr bQ).gr bv).gr bn).gr bW).gr bE).gr bm).gr bk).gr bu).gr bq).gr bw).gr bo).gr bt).gr bp).gr bz).gr bA).gr b6).gr bZ).gr b9).gr cc).st cx cM).gr ca).gr a1).gr bj).gr eG).st fW (Ne.symm dC)
     refine endN [D9] _ (List.Pairwise.cons (fun _ h=>absurd h (by simp)) List.Pairwise.nil) (List.forall_mem_cons.2 ⟨⟨Q9,L9⟩,(fun _ h=>absurd h (by simp))⟩) hB (fun ix ee hB=>?_)
     replace L3:=ee.lc L3 (by decide)
     refine ⟨(.agg #[cY,c9,cL,cV,cW,cG,di,cO]),(ret_cell _ _ _ rfl rfl L3 (by kernel_rfl)),?_,hB⟩
     have dA:=gf.trans (ee.kp (by decide))
     replace bO:=bO.kp dA
     replace bR:=bR.kp dA
     replace bN:=bN.kp dA
     replace bT:=bT.kp dA
     exact (by rw [qrow3t cR ct dq];exact ⟨_,_,_,_,_,_,_,_,rfl,bO.mono (by omega),bR.mono (by omega),bN.mono (by omega),bT.mono (by omega)⟩)
    ·refine wp_exit ?_
     simp only [Exit.then,Exit.inBlock,↓reduceIte]
     refine ed _ _ ?_
     try clear ed gA
     refine wp_seq_k (fun gL gi=>?_)
     refine rg [0,1,2,3,4] ?_
     refine sv 136 (.int .i64 2) ?_
     refine sv 137 (.pointer (some ⟨dw,32,none⟩)) ?_
     replace co:=co.gr bj
     refine sw 138 (.agg #[e3,fs,ew,eQ,fx,ff,fB,en,dT,dZ,d8,d5,fi,ex,et,e6]) rfl (rl 157 32 [e3,fs,ew,eQ,fx,ff,fB,en,dT,dZ,d8,d5,fi,ex,et,e6] co) ?_
     refine se ?_
     have gs:=cd.kp.trans (b4.kp.trans (b7.kp.trans (bx.kp.trans (bQ.kp.trans (bv.kp.trans (bn.kp.trans (bW.kp.trans (bE.kp.trans (bm.kp.trans (bk.kp.trans (bu.kp.trans (bq.kp.trans (bw.kp.trans (bo.kp.trans (bt.kp.trans (bp.kp.trans (bz.kp.trans (bA.kp.trans (b6.kp.trans (bZ.kp.trans (b9.kp.trans (cc.kp.trans (bi.trans (ca.kp.trans (a1.kp.trans bj.kp)))))))))))))))))))))))))
     replace fb:=fb.kp gs
     have gn:=b7.kp.trans (bx.kp.trans (bQ.kp.trans (bv.kp.trans (bn.kp.trans (bW.kp.trans (bE.kp.trans (bm.kp.trans (bk.kp.trans (bu.kp.trans (bq.kp.trans (bw.kp.trans (bo.kp.trans (bt.kp.trans (bp.kp.trans (bz.kp.trans (bA.kp.trans (b6.kp.trans (bZ.kp.trans (b9.kp.trans (cc.kp.trans (bi.trans (ca.kp.trans (a1.kp.trans bj.kp)))))))))))))))))))))))
     replace eA:=eA.kp gn
     replace dI:=dI.kp bj.kp
     have fN:=bk.kp.trans (bu.kp.trans (bq.kp.trans (bw.kp.trans (bo.kp.trans (bt.kp.trans (bp.kp.trans (bz.kp.trans (bA.kp.trans (b6.kp.trans (bZ.kp.trans (b9.kp.trans (cc.kp.trans (bi.trans (ca.kp.trans (a1.kp.trans bj.kp)))))))))))))))
     replace eZ:=eZ.kp fN
     refine ec 139 (mwhole (k:=8*k+900) (fb.mono (by omega)) (eA.mono (by omega)) (dI.mono (by omega)) (eZ.mono (by omega)) (row_pos3f cR ct dq) (by omega)) ?_
     rintro ie iK ⟨⟨cT,cJ,dh,c7,cS,c8,c4,cN,rfl,bF,bU,bX,bP⟩,eY⟩
     refine ⟨_,rfl,?_⟩
     replace hB:=hB.trans eY
     simp only [p3,p4]
     refine se ?_
     replace L3:=(cx.lc (L3.gr (dn.trans (dt.trans (dp.trans (du.trans (dl.trans (dm.trans (de.trans (cK.trans (cD.trans (cC.trans (cy.trans (cB.trans (cu.trans (cq.trans (cl.trans (cj.trans (cn.trans (cm.trans (ck.trans (ch.trans (ce.trans (cg.trans (b8.trans (cd.trans (b4.trans (b7.trans (bx.trans (bQ.trans (bv.trans (bn.trans (bW.trans (bE.trans (bm.trans (bk.trans (bu.trans (bq.trans (bw.trans (bo.trans (bt.trans (bp.trans (bz.trans (bA.trans (b6.trans (bZ.trans (b9.trans cc)))))))))))))))))))))))))))))))))))))))))))))) c6).gr (ca.trans (a1.trans (bj.trans eY)))
     refine es 125 0 (.agg #[cT,cJ,dh,c7,cS,c8,c4,cN]) [cT,cJ,dh,c7,cS,c8,c4,cN] #[cT,cJ,dh,c7,cS,c8,c4,cN] L3 hB q3 ⟨bF.one0,bF.one1,bU.one0,bU.one1,bX.one0,bX.one1,bP.one0,bP.one1,trivial⟩ fun h5 f1 fO L3 hB=>?_
     refine sq_nil ?_
     refine gi _ _ ?_
     try clear gi gL
     refine wp_ret ?_
     replace L9:=(((((((((((((((((((((((((((((((((((((((((((((((((((L9.gr dn).gr dt).gr dp).gr du).gr dl).gr dm).gr de).gr cK).gr cD).gr cC).gr cy).gr cB).gr cu).gr cq).gr cl).gr cj).gr cn).gr cm).gr ck).gr ch).gr ce).gr cg).gr b8).gr cd).gr b4).gr b7).gr bx).gr bQ).gr bv).gr bn).gr bW).gr bE).gr bm).gr bk).gr bu).gr bq).gr bw).gr bo).gr bt).gr bp).gr bz).gr bA).gr b6).gr bZ).gr b9).gr cc).st cx cM).gr ca).gr a1).gr bj).gr eY).st f1 (Ne.symm dC)
     refine endN [D9] _ (List.Pairwise.cons (fun _ h=>absurd h (by simp)) List.Pairwise.nil) (List.forall_mem_cons.2 ⟨⟨Q9,L9⟩,(fun _ h=>absurd h (by simp))⟩) hB (fun iT eh hB=>?_)
     replace L3:=eh.lc L3 (by decide)
     refine ⟨(.agg #[cT,cJ,dh,c7,cS,c8,c4,cN]),(ret_cell _ _ _ rfl rfl L3 (by kernel_rfl)),?_,hB⟩
     have dB:=fO.trans (eh.kp (by decide))
     replace bF:=bF.kp dB
     replace bU:=bU.kp dB
     replace bX:=bX.kp dB
     replace bP:=bP.kp dB
     exact (by rw [qrow3f cR ct dq];exact ⟨_,_,_,_,_,_,_,_,rfl,bF.mono (by omega),bU.mono (by omega),bX.mono (by omega),bP.mono (by omega)⟩)
   ·refine wp_exit ?_
    simp only [Exit.then,Exit.inBlock,↓reduceIte]
    refine ed _ _ ?_
    try clear ed gA
    refine wp_seq_k (fun gX gp=>?_)
    refine rg [0,1,2,3,4] ?_
    refine sv 136 (.int .i64 1) ?_
    refine sv 137 (.pointer (some ⟨dw,16,none⟩)) ?_
    replace co:=co.gr a1
    refine sw 138 (.agg #[eu,eP,e5,fu,dU,dW,dX,dY,eL,eo,e0,e2,eJ,fH,fh,fq]) rfl (rl 157 16 [eu,eP,e5,fu,dU,dW,dX,dY,eL,eo,e0,e2,eJ,fH,fh,fq] co) ?_
    refine se ?_
    have gw:=cB.kp.trans (cu.kp.trans (cq.kp.trans (cl.kp.trans (cj.kp.trans (cn.kp.trans (cm.kp.trans (ck.kp.trans (ch.kp.trans (ce.kp.trans (cg.kp.trans (b8.kp.trans (cd.kp.trans (b4.kp.trans (b7.kp.trans (bx.kp.trans (bQ.kp.trans (bv.kp.trans (bn.kp.trans (bW.kp.trans (bE.kp.trans (bm.kp.trans (bk.kp.trans (bu.kp.trans (bq.kp.trans (bw.kp.trans (bo.kp.trans (bt.kp.trans (bp.kp.trans (bz.kp.trans (bA.kp.trans (b6.kp.trans (bZ.kp.trans (b9.kp.trans (cc.kp.trans (bi.trans (ca.kp.trans a1.kp))))))))))))))))))))))))))))))))))))
    replace eX:=eX.kp gw
    replace dR:=dR.kp a1.kp
    have fM:=ch.kp.trans (ce.kp.trans (cg.kp.trans (b8.kp.trans (cd.kp.trans (b4.kp.trans (b7.kp.trans (bx.kp.trans (bQ.kp.trans (bv.kp.trans (bn.kp.trans (bW.kp.trans (bE.kp.trans (bm.kp.trans (bk.kp.trans (bu.kp.trans (bq.kp.trans (bw.kp.trans (bo.kp.trans (bt.kp.trans (bp.kp.trans (bz.kp.trans (bA.kp.trans (b6.kp.trans (bZ.kp.trans (b9.kp.trans (cc.kp.trans (bi.trans (ca.kp.trans a1.kp))))))))))))))))))))))))))))
    replace em:=em.kp fM
    have f6:=cg.kp.trans (b8.kp.trans (cd.kp.trans (b4.kp.trans (b7.kp.trans (bx.kp.trans (bQ.kp.trans (bv.kp.trans (bn.kp.trans (bW.kp.trans (bE.kp.trans (bm.kp.trans (bk.kp.trans (bu.kp.trans (bq.kp.trans (bw.kp.trans (bo.kp.trans (bt.kp.trans (bp.kp.trans (bz.kp.trans (bA.kp.trans (b6.kp.trans (bZ.kp.trans (b9.kp.trans (cc.kp.trans (bi.trans (ca.kp.trans a1.kp))))))))))))))))))))))))))
    replace eW:=eW.kp f6
    refine ec 139 (mwhole (k:=8*k+900) (eX.mono (by omega)) (dR.mono (by omega)) (em.mono (by omega)) (eW.mono (by omega)) (row_pos2f cR ct) (by omega)) ?_
    rintro iA iC ⟨⟨cX,cE,cZ,cU,cF,dk,cP,dd,rfl,bS,bJ,bY,bV⟩,fz⟩
    refine ⟨_,rfl,?_⟩
    replace hB:=hB.trans fz
    simp only [p3,p4]
    refine se ?_
    replace L3:=(cx.lc (L3.gr (dn.trans (dt.trans (dp.trans (du.trans (dl.trans (dm.trans (de.trans (cK.trans (cD.trans (cC.trans (cy.trans (cB.trans (cu.trans (cq.trans (cl.trans (cj.trans (cn.trans (cm.trans (ck.trans (ch.trans (ce.trans (cg.trans (b8.trans (cd.trans (b4.trans (b7.trans (bx.trans (bQ.trans (bv.trans (bn.trans (bW.trans (bE.trans (bm.trans (bk.trans (bu.trans (bq.trans (bw.trans (bo.trans (bt.trans (bp.trans (bz.trans (bA.trans (b6.trans (bZ.trans (b9.trans cc)))))))))))))))))))))))))))))))))))))))))))))) c6).gr (ca.trans (a1.trans fz))
    refine es 125 0 (.agg #[cX,cE,cZ,cU,cF,dk,cP,dd]) [cX,cE,cZ,cU,cF,dk,cP,dd] #[cX,cE,cZ,cU,cF,dk,cP,dd] L3 hB q3 ⟨bS.one0,bS.one1,bJ.one0,bJ.one1,bY.one0,bY.one1,bV.one0,bV.one1,trivial⟩ fun h1 fQ gc L3 hB=>?_
    refine sq_nil ?_
    refine gp _ _ ?_
    try clear gp gX
    refine wp_ret ?_
    replace L9:=((((((((((((((((((((((((((((((((((((((((((((((((((L9.gr dn).gr dt).gr dp).gr du).gr dl).gr dm).gr de).gr cK).gr cD).gr cC).gr cy).gr cB).gr cu).gr cq).gr cl).gr cj).gr cn).gr cm).gr ck).gr ch).gr ce).gr cg).gr b8).gr cd).gr b4).gr b7).gr bx).gr bQ).gr bv).gr bn).gr bW).gr bE).gr bm).gr bk).gr bu).gr bq).gr bw).gr bo).gr bt).gr bp).gr bz).gr bA).gr b6).gr bZ).gr b9).gr cc).st cx cM).gr ca).gr a1).gr fz).st fQ (Ne.symm dC)
    refine endN [D9] _ (List.Pairwise.cons (fun _ h=>absurd h (by simp)) List.Pairwise.nil) (List.forall_mem_cons.2 ⟨⟨Q9,L9⟩,(fun _ h=>absurd h (by simp))⟩) hB (fun iv eg hB=>?_)
    replace L3:=eg.lc L3 (by decide)
    refine ⟨(.agg #[cX,cE,cZ,cU,cF,dk,cP,dd]),(ret_cell _ _ _ rfl rfl L3 (by kernel_rfl)),?_,hB⟩
    have dx:=gc.trans (eg.kp (by decide))
    replace bS:=bS.kp dx
    replace bJ:=bJ.kp dx
    replace bY:=bY.kp dx
    replace bV:=bV.kp dx
    exact (by rw [qrow2f cR ct];exact ⟨_,_,_,_,_,_,_,_,rfl,bS.mono (by omega),bJ.mono (by omega),bY.mono (by omega),bV.mono (by omega)⟩)
  ·refine wp_exit ?_
   simp only [Exit.then,Exit.inBlock,↓reduceIte]
   refine ed _ _ ?_
   try clear ed gA
   refine wp_seq_k (fun gQ gz=>?_)
   refine rg [0,1,2,3,4] ?_
   refine sv 136 (.int .i64 0) ?_
   refine sv 137 (.pointer (some ⟨dw,0,none⟩)) ?_
   replace co:=co.gr ca
   refine sw 138 (.agg #[dV,d7,d0,dS,eB,eH,e7,ez,eI,eE,fD,fp,eO,eR,ek,fA]) rfl (rl 157 0 [dV,d7,d0,dS,eB,eH,e7,ez,eI,eE,fD,fp,eO,eR,ek,fA] co) ?_
   refine se ?_
   replace dP:=dP.kp ca.kp
   have f9:=dm.kp.trans (de.kp.trans (cK.kp.trans (cD.kp.trans (cC.kp.trans (cy.kp.trans (cB.kp.trans (cu.kp.trans (cq.kp.trans (cl.kp.trans (cj.kp.trans (cn.kp.trans (cm.kp.trans (ck.kp.trans (ch.kp.trans (ce.kp.trans (cg.kp.trans (b8.kp.trans (cd.kp.trans (b4.kp.trans (b7.kp.trans (bx.kp.trans (bQ.kp.trans (bv.kp.trans (bn.kp.trans (bW.kp.trans (bE.kp.trans (bm.kp.trans (bk.kp.trans (bu.kp.trans (bq.kp.trans (bw.kp.trans (bo.kp.trans (bt.kp.trans (bp.kp.trans (bz.kp.trans (bA.kp.trans (b6.kp.trans (bZ.kp.trans (b9.kp.trans (cc.kp.trans (bi.trans ca.kp)))))))))))))))))))))))))))))))))))))))))
   replace fJ:=fJ.kp f9
   have gg:=cK.kp.trans (cD.kp.trans (cC.kp.trans (cy.kp.trans (cB.kp.trans (cu.kp.trans (cq.kp.trans (cl.kp.trans (cj.kp.trans (cn.kp.trans (cm.kp.trans (ck.kp.trans (ch.kp.trans (ce.kp.trans (cg.kp.trans (b8.kp.trans (cd.kp.trans (b4.kp.trans (b7.kp.trans (bx.kp.trans (bQ.kp.trans (bv.kp.trans (bn.kp.trans (bW.kp.trans (bE.kp.trans (bm.kp.trans (bk.kp.trans (bu.kp.trans (bq.kp.trans (bw.kp.trans (bo.kp.trans (bt.kp.trans (bp.kp.trans (bz.kp.trans (bA.kp.trans (b6.kp.trans (bZ.kp.trans (b9.kp.trans (cc.kp.trans (bi.trans ca.kp)))))))))))))))))))))))))))))))))))))))
   replace fe:=fe.kp gg
   have gk:=cC.kp.trans (cy.kp.trans (cB.kp.trans (cu.kp.trans (cq.kp.trans (cl.kp.trans (cj.kp.trans (cn.kp.trans (cm.kp.trans (ck.kp.trans (ch.kp.trans (ce.kp.trans (cg.kp.trans (b8.kp.trans (cd.kp.trans (b4.kp.trans (b7.kp.trans (bx.kp.trans (bQ.kp.trans (bv.kp.trans (bn.kp.trans (bW.kp.trans (bE.kp.trans (bm.kp.trans (bk.kp.trans (bu.kp.trans (bq.kp.trans (bw.kp.trans (bo.kp.trans (bt.kp.trans (bp.kp.trans (bz.kp.trans (bA.kp.trans (b6.kp.trans (bZ.kp.trans (b9.kp.trans (cc.kp.trans (bi.trans ca.kp)))))))))))))))))))))))))))))))))))))
   replace eM:=eM.kp gk
   refine ec 139 (mwhole (k:=8*k+900) (dP.mono (by omega)) (fJ.mono (by omega)) (fe.mono (by omega)) (eM.mono (by omega)) (row_pos1f cR) (by omega)) ?_
   rintro h3 hZ ⟨⟨dc,cQ,db,df,da,cH,dj,c5,rfl,bG,bM,bK,bH⟩,fc⟩
   refine ⟨_,rfl,?_⟩
   replace hB:=hB.trans fc
   simp only [p3,p4]
   refine se ?_
   replace L3:=(cx.lc (L3.gr (dn.trans (dt.trans (dp.trans (du.trans (dl.trans (dm.trans (de.trans (cK.trans (cD.trans (cC.trans (cy.trans (cB.trans (cu.trans (cq.trans (cl.trans (cj.trans (cn.trans (cm.trans (ck.trans (ch.trans (ce.trans (cg.trans (b8.trans (cd.trans (b4.trans (b7.trans (bx.trans (bQ.trans (bv.trans (bn.trans (bW.trans (bE.trans (bm.trans (bk.trans (bu.trans (bq.trans (bw.trans (bo.trans (bt.trans (bp.trans (bz.trans (bA.trans (b6.trans (bZ.trans (b9.trans cc)))))))))))))))))))))))))))))))))))))))))))))) c6).gr (ca.trans fc)
   refine es 125 0 (.agg #[dc,cQ,db,df,da,cH,dj,c5]) [dc,cQ,db,df,da,cH,dj,c5] #[dc,cQ,db,df,da,cH,dj,c5] L3 hB q3 ⟨bG.one0,bG.one1,bM.one0,bM.one1,bK.one0,bK.one1,bH.one0,bH.one1,trivial⟩ fun iN gy gt L3 hB=>?_
   refine sq_nil ?_
   refine gz _ _ ?_
   try clear gz gQ
   refine wp_ret ?_
   replace L9:=(((((((((((((((((((((((((((((((((((((((((((((((((L9.gr dn).gr dt).gr dp).gr du).gr dl).gr dm).gr de).gr cK).gr cD).gr cC).gr cy).gr cB).gr cu).gr cq).gr cl).gr cj).gr cn).gr cm).gr ck).gr ch).gr ce).gr cg).gr b8).gr cd).gr b4).gr b7).gr bx).gr bQ).gr bv).gr bn).gr bW).gr bE).gr bm).gr bk).gr bu).gr bq).gr bw).gr bo).gr bt).gr bp).gr bz).gr bA).gr b6).gr bZ).gr b9).gr cc).st cx cM).gr ca).gr fc).st gy (Ne.symm dC)
   refine endN [D9] _ (List.Pairwise.cons (fun _ h=>absurd h (by simp)) List.Pairwise.nil) (List.forall_mem_cons.2 ⟨⟨Q9,L9⟩,(fun _ h=>absurd h (by simp))⟩) hB (fun iM ej hB=>?_)
   replace L3:=ej.lc L3 (by decide)
   refine ⟨(.agg #[dc,cQ,db,df,da,cH,dj,c5]),(ret_cell _ _ _ rfl rfl L3 (by kernel_rfl)),?_,hB⟩
   have dy:=gt.trans (ej.kp (by decide))
   replace bG:=bG.kp dy
   replace bM:=bM.kp dy
   replace bK:=bK.kp dy
   replace bH:=bH.kp dy
   exact (by rw [qrow1f cR];exact ⟨_,_,_,_,_,_,_,_,rfl,bG.mono (by omega),bM.mono (by omega),bK.mono (by omega),bH.mono (by omega)⟩)
 ·intro D c prs W _ h;exact h.elim

end Go.Proofs.YtaldbfflkpgfoaaGreatDoor
/- Printed by a program of the prover's:contracts of motions. -/
namespace Go.Proofs.YtaldbfflkpgfoaaGreatDoor
open Go.RowKit

def cMEq:ConT:=con2 asRats asRats fun
  | [(k0,a0),(k1,a1),(k2,a2),(k3,a3),(k4,a4),(k5,a5),(k6,a6),(k7,a7),(k8,a8),(k9,a9),(k10,a10),(k11,a11)],[(m0,b0),(m1,b1),(m2,b2),(m3,b3),(m4,b4),(m5,b5),(m6,b6),(m7,b7),(m8,b8),(m9,b9),(m10,b10),(m11,b11)],_,_=>tr (Nat.ble k0 40000&&Nat.ble k1 40000&&Nat.ble k2 40000&&Nat.ble k3 40000&&Nat.ble k4 40000&&Nat.ble k5 40000&&Nat.ble k6 40000&&Nat.ble k7 40000&&Nat.ble k8 40000&&Nat.ble k9 40000&&Nat.ble k10 40000&&Nat.ble k11 40000&&Nat.ble m0 40000&&Nat.ble m1 40000&&Nat.ble m2 40000&&Nat.ble m3 40000&&Nat.ble m4 40000&&Nat.ble m5 40000&&Nat.ble m6 40000&&Nat.ble m7 40000&&Nat.ble m8 40000&&Nat.ble m9 40000&&Nat.ble m10 40000&&Nat.ble m11 40000) (.leaf (.so (.vc (.cb (decide ([a0,a1,a2,a3,a4,a5,a6,a7,a8,a9,a10,a11]=[b0,b1,b2,b3,b4,b5,b6,b7,b8,b9,b10,b11])) none))) 0 0)
  | _,_,_,_=>none
def cTurn:ConT:=con1 asRats fun
  | [(k0,a0),(k1,a1),(k2,a2),(k3,a3),(k4,a4),(k5,a5),(k6,a6),(k7,a7),(k8,a8),(k9,_a9),(k10,_a10),(k11,_a11)],_,nz=>tr (Nat.ble k0 800&&Nat.ble k1 800&&Nat.ble k2 800&&Nat.ble k3 800&&Nat.ble k4 800&&Nat.ble k5 800&&Nat.ble k6 800&&Nat.ble k7 800&&Nat.ble k8 800&&Nat.ble k9 100000&&Nat.ble k10 100000&&Nat.ble k11 100000) (.leaf (newInts nz 40128 (wzq (qrow a0 a1 a2 a3 a4 a5 a6 a7 a8) 0) (wzq (qrow a0 a1 a2 a3 a4 a5 a6 a7 a8) 1) (wzq (qrow a0 a1 a2 a3 a4 a5 a6 a7 a8) 2) (wzq (qrow a0 a1 a2 a3 a4 a5 a6 a7 a8) 3)) 0 4)
  | _,_,_=>none
section
variable {I:World→Prop}
theorem cMEq_ok:ConOK Tryz.prog I 16 cMEq:=con2_ok fun _ _ _ _ _ _ _ _ _ h1 h2 hx hy hT _=>by
  split at hT
  · obtain ⟨hb,rfl⟩:=tr_some hT
    simp only [Bool.and_eq_true,Nat.ble_eq] at hb
    obtain ⟨vs,e1,hA⟩:=asRats_ok h1 hx
    obtain ⟨us,e2,hB⟩:=asRats_ok h2 hy
    rw [e1,e2]
    obtain ⟨bK,b5,bY,b4,co,rfl,aw,hA⟩:=hA.cons
    obtain ⟨bH,cS,bk,bf,bO,rfl,au,hA⟩:=hA.cons
    obtain ⟨bQ,bx,cP,b9,bc,rfl,aC,hA⟩:=hA.cons
    obtain ⟨bA,bu,a2,cx,cq,rfl,af,hA⟩:=hA.cons
    obtain ⟨cO,bU,bg,cd,bX,rfl,al,hA⟩:=hA.cons
    obtain ⟨bS,cT,a6,a7,bq,rfl,aB,hA⟩:=hA.cons
    obtain ⟨bC,bn,ct,b8,bW,rfl,az,hA⟩:=hA.cons
    obtain ⟨cy,a9,b6,bb,cH,rfl,av,hA⟩:=hA.cons
    obtain ⟨b7,cK,bG,a1,cF,rfl,aE,hA⟩:=hA.cons
    obtain ⟨bR,a5,ba,cL,bJ,rfl,ay,hA⟩:=hA.cons
    obtain ⟨aV,aY,aP,aW,aJ,rfl,ad,hA⟩:=hA.cons
    obtain ⟨aK,aQ,aN,aU,aR,rfl,ac,hA⟩:=hA.cons
    obtain rfl:=hA.nil
    replace aw:=aw.mono (m:=40000) (by omega)
    replace au:=au.mono (m:=40000) (by omega)
    replace aC:=aC.mono (m:=40000) (by omega)
    replace af:=af.mono (m:=40000) (by omega)
    replace al:=al.mono (m:=40000) (by omega)
    replace aB:=aB.mono (m:=40000) (by omega)
    replace az:=az.mono (m:=40000) (by omega)
    replace av:=av.mono (m:=40000) (by omega)
    replace aE:=aE.mono (m:=40000) (by omega)
    replace ay:=ay.mono (m:=40000) (by omega)
    replace ad:=ad.mono (m:=40000) (by omega)
    replace ac:=ac.mono (m:=40000) (by omega)
    obtain ⟨bL,cM,cJ,cu,bP,rfl,ar,hB⟩:=hB.cons
    obtain ⟨bh,cg,bd,cU,cj,rfl,aD,hB⟩:=hB.cons
    obtain ⟨a0,cB,bj,bw,bv,rfl,aj,hB⟩:=hB.cons
    obtain ⟨bZ,bt,a4,cA,bi,rfl,ah,hB⟩:=hB.cons
    obtain ⟨cN,cm,a3,bE,bV,rfl,aq,hB⟩:=hB.cons
    obtain ⟨ca,bz,cl,cG,aZ,rfl,ax,hB⟩:=hB.cons
    obtain ⟨cR,bD,cQ,cc,bM,rfl,ai,hB⟩:=hB.cons
    obtain ⟨bo,cn,ck,bF,ch,rfl,ae,hB⟩:=hB.cons
    obtain ⟨bm,bN,bB,a8,bp,rfl,aA,hB⟩:=hB.cons
    obtain ⟨bT,cD,ce,cC,cE,rfl,ak,hB⟩:=hB.cons
    obtain ⟨aS,aT,aH,aG,aL,rfl,aa,hB⟩:=hB.cons
    obtain ⟨aF,aX,aI,aM,aO,rfl,ab,hB⟩:=hB.cons
    obtain rfl:=hB.nil
    replace ar:=ar.mono (m:=40000) (by omega)
    replace aD:=aD.mono (m:=40000) (by omega)
    replace aj:=aj.mono (m:=40000) (by omega)
    replace ah:=ah.mono (m:=40000) (by omega)
    replace aq:=aq.mono (m:=40000) (by omega)
    replace ax:=ax.mono (m:=40000) (by omega)
    replace ai:=ai.mono (m:=40000) (by omega)
    replace ae:=ae.mono (m:=40000) (by omega)
    replace aA:=aA.mono (m:=40000) (by omega)
    replace ak:=ak.mono (m:=40000) (by omega)
    replace aa:=aa.mono (m:=40000) (by omega)
    replace ab:=ab.mono (m:=40000) (by omega)
    exact (mequal (k:=40000) (m:=40000) aw au aC af al aB az av aE ay ad ac ar aD aj ah aq ax ai ae aA ak aa ab (by decide)).mono fun e w' he=>val_holds he ⟨rfl,fun v hv=>by cases hv⟩
  · cases hT
theorem cTurn_ok:ConOK Tryz.prog I 67 cTurn:=con1_ok fun _ _ _ _ _ _ _ h1 h2 hT _=>by
  split at hT
  · obtain ⟨hb,rfl⟩:=tr_some hT
    simp only [Bool.and_eq_true,Nat.ble_eq] at hb
    obtain ⟨vs,e1,hA⟩:=asRats_ok h1 h2
    rw [e1]
    obtain ⟨aY,a8,a6,a7,bf,rfl,ah,hA⟩:=hA.cons
    obtain ⟨aW,bt,aO,aM,aZ,rfl,ae,hA⟩:=hA.cons
    obtain ⟨a0,aS,bq,bc,aL,rfl,al,hA⟩:=hA.cons
    obtain ⟨aT,aR,aE,bi,bg,rfl,ac,hA⟩:=hA.cons
    obtain ⟨bp,a3,aN,bd,a5,rfl,ad,hA⟩:=hA.cons
    obtain ⟨a2,bu,aG,aH,aQ,rfl,ak,hA⟩:=hA.cons
    obtain ⟨aU,aP,bh,bb,a4,rfl,aj,hA⟩:=hA.cons
    obtain ⟨bj,aI,a9,aK,bm,rfl,af,hA⟩:=hA.cons
    obtain ⟨ba,bn,aV,aD,bk,rfl,aq,hA⟩:=hA.cons
    obtain ⟨a1,aF,aJ,bo,aX,rfl,ai,hA⟩:=hA.cons
    obtain ⟨aA,aC,aw,aB,ar,rfl,ab,hA⟩:=hA.cons
    obtain ⟨au,ax,av,az,ay,rfl,aa,hA⟩:=hA.cons
    obtain rfl:=hA.nil
    replace ah:=ah.mono (m:=800) (by omega)
    replace ae:=ae.mono (m:=800) (by omega)
    replace al:=al.mono (m:=800) (by omega)
    replace ac:=ac.mono (m:=800) (by omega)
    replace ad:=ad.mono (m:=800) (by omega)
    replace ak:=ak.mono (m:=800) (by omega)
    replace aj:=aj.mono (m:=800) (by omega)
    replace af:=af.mono (m:=800) (by omega)
    replace aq:=aq.mono (m:=800) (by omega)
    replace ai:=ai.mono (m:=100000) (by omega)
    replace ab:=ab.mono (m:=100000) (by omega)
    replace aa:=aa.mono (m:=100000) (by omega)
    exact (mturnq (k:=800) (ks:=100000) ah ae al ac ad ak aj af aq ai ab aa (by decide) (by decide)).mono fun e w' he=>newInts_holds he
  · cases hT
end
end Go.Proofs.YtaldbfflkpgfoaaGreatDoor
/- Printed by a program of the prover's:what known needs. -/
namespace Go.Proofs.YtaldbfflkpgfoaaGreatDoor
open Go.RowKit

/-- how the regions that draw their order are run -/
noncomputable def tabN:List (Nat × List (Nat × Ent)):=[(19,[(5,.ord [(true,0),(true,1),(true,3),(true,4),(false,2),(true,5),(false,6)] [1])]),
 (22,[]),
 (24,[(9,.ord [(true,0),(true,1),(true,2),(true,3),(true,5),(true,6),(false,4),(true,7),(false,8)] [5])]),
 (30,[(1,.flo [(true,0),(true,1),(true,2),(true,3),(false,4),(true,5),(false,6)] [(7,3,41)] [(false,8)] []),(2,.ord [(true,0),(false,1),(false,2),(true,3),(true,4),(true,5),(true,6),(true,7),(true,8),(true,9),(true,10),(true,11),(true,12),(false,13),(false,14),(true,15),(true,16),(true,17)] [])]),
 (32,[]),
 (36,[]),
 (38,[]),
 (39,[(1,.ord [(true,0),(true,1),(true,2),(false,3),(false,4),(false,5)] [6])]),
 (41,[(6,.ord [(true,0),(true,1),(true,2),(true,3),(true,4),(true,5),(true,6),(true,8),(true,9),(true,10),(true,11),(true,12),(true,13),(false,7),(false,14),(false,15),(true,16),(false,17)] [5])]),
 (43,[(1,.ord [(true,0),(true,1),(true,3),(true,4),(false,2),(false,5),(false,6)] [4])]),
 (44,[]),
 (69,[(8,.ord [(true,0),(true,1),(true,2),(true,3),(true,4),(false,5)] [3])]),
 (74,[(5,.ord [(true,0),(true,1),(true,2),(true,3),(true,4),(true,5),(true,6),(true,7),(false,8),(true,9),(false,10)] [7])]),
 (83,[]),
 (86,[])]
noncomputable def conN:List (Nat × ConT):=[(103,conRR 100000 (fun k m=>k+m+1) (fun a b=>a+b)),
 (75,conRR 100000 (fun k m=>k+m+1) (fun a b=>a - b)),
 (82,conRR 100000 (fun k m=>k+m) (fun a b=>a*b)),
 (108,cNeg),
 (59,cFrom),
 (37,cComp),
 (76,cSign),
 (87,cNumb),
 (130,cNum),
 (81,cDen),
 (58,cDiv),
 (96,cZFrom),
 (80,cZMul),
 (122,cZGcd),
 (123,cZDiv),
 (68,cZInt),
 (105,cTT (fun k m=>k+m+1) fun a b=>a+b),
 (132,cTT (fun k m=>k+m+1) fun a b=>a - b),
 (106,cTT (fun k m=>k+m) fun a b=>a*b),
 (64,cTDiv),
 (115,cTNeg),
 (65,cTFrom),
 (94,cPars 400),
 (107,cPars 65536),
 (15,cChk),
 (66,cPrim),
 (14,cOf),
 (16,cMEq),
 (67,cTurn)]
noncomputable def sysN:Sys:=⟨Tryz.prog,2,199,tabN,conN,fun w=>Tab w∧Mx w⟩
theorem sysN_ok:sysN.OK where
  mixed:=by kernel_rfl
  calls:=fun f h0 h1=>by
    have:(List.range 199).all (fun f=>Nat.blt f 2||okCall Tryz.prog f)=true:=by kernel_rfl
    have:=List.all_eq_true.1 this f (List.mem_range.2 h1)
    simp only [Bool.or_eq_true] at this
    exact this.resolve_left (fun e=>by have:=blt_of e;exact absurd h0 (by show ¬ 2≤f;omega))
  tab:=by
    have:tabN.all (okTab Tryz.prog)=true:=by kernel_rfl
    exact fun x hx=>List.all_eq_true.1 this x hx
  lps:=lps_no (by kernel_rfl)
  con:=fun x hx=>by
    simp only [sysN,conN,List.mem_cons,List.not_mem_nil,or_false] at hx
    rcases hx with rfl | rfl | rfl | rfl | rfl | rfl | rfl | rfl | rfl | rfl | rfl | rfl | rfl | rfl | rfl | rfl | rfl | rfl | rfl | rfl | rfl | rfl | rfl | rfl | rfl | rfl | rfl | rfl | rfl
    · exact conRR_ok fun h1 h2 h3=>add_r h1 h2 h3
    · exact conRR_ok fun h1 h2 h3=>sub_r h1 h2 h3
    · exact conRR_ok fun h1 h2 h3=>mul_r h1 h2 h3
    · exact cNeg_ok
    · exact cFrom_ok
    · exact cComp_ok
    · exact cSign_ok
    · exact cNumb_ok fun w h=>h.1
    · exact cNum_ok
    · exact cDen_ok
    · exact cDiv_ok
    · exact cZFrom_ok
    · exact cZMul_ok
    · exact cZGcd_ok
    · exact cZDiv_ok
    · exact cZInt_ok
    · exact cTAdd_ok
    · exact cTSub_ok
    · exact cTMul_ok
    · exact cTDiv_ok
    · exact cTNeg_ok
    · exact cTFrom_ok
    · exact cPars_ok fun w h=>h.2
    · exact cRead_ok fun w h=>h.2
    · exact cChk_ok fun w h=>h.2
    · exact cPrim_ok
    · exact cOf_ok fun w h=>h
    · exact cMEq_ok
    · exact cTurn_ok
  inv:=fun w w' h g=>⟨h.1.gr g,h.2.gr g⟩
/-- a run on closed numbers:what it comes to -/
def okLf (p:SV→Bool):Lf→Bool
  | .ret v=>p v
  | .br t a b=>match t with
    | true=>okLf p a
    | false=>okLf p b
  | .as t v a=>match t,v with
    | true,true=>okLf p a
    | false,false=>okLf p a
    | _,_=>false
theorem okLf_ok {p:SV→Bool}:∀ {L:Lf},okLf p L=true→LOK (fun v=>p v=true) L
  | .ret v,h=>h
  | .br t a b,h=>by
    cases t with
    | true=>exact ⟨fun _=>okLf_ok (L:=a) h,fun e=>by cases e⟩
    | false=>exact ⟨fun e=>(by cases e),fun _=>okLf_ok (L:=b) h⟩
  | .as t v a,h=>by
    cases t<;>cases v<;>first | exact absurd h (by show ¬(false=true);decide) | exact ⟨rfl,okLf_ok (L:=a) h⟩
def okRun (p:SV→Bool):Rs→Bool
  | some L=>okLf p L
  | none=>false
theorem okRun_ok {p:SV→Bool} {r:Rs} (h:okRun p r=true):∃ L,r=some L∧LOK (fun v=>p v=true) L:=by
  cases r with
  | none=>cases h
  | some L=>exact ⟨L,rfl,okLf_ok h⟩
def tz0 (c:Cl):Bool:=match txC c with
  | some (_,q)=>decide (q=0)
  | none=>false
def tzE:Cl→Bool
  | .cw [] _=>true
  | _=>false
def pJ (z e:Int) (tz:Cl→Bool):SV→Bool
  | .st [.vg [.ci .i64 a _ _,.ci .i64 b _ _,.ci .i64 c _ _,.ci .i64 d _ _,t1,t2,t3],.vc (.ci .i64 f _ _)]=>decide (a=0)&&decide (b=0)&&decide (c=0)&&decide (d=z)&&decide (f=e)&&tz t1&&tz t2&&tz t3
  | _=>false
theorem runJ1:okRun (pJ 1 0 tz0) (runF sysN 32 [.so (.vg [.ci .i64 1 1 1,.ci .i64 0 0 0,.ci .i64 0 0 0,.ci .i64 1 1 1,.cw (ratL 0) (some (64,0)),.cw (ratL 0) (some (64,0)),.cw (ratL 0) (some (64,0))]),.so (.vg [.ci .i64 1 1 1,.ci .i64 0 0 0,.ci .i64 0 0 0,.ci .i64 1 1 1,.cw (ratL 0) (some (64,0)),.cw (ratL 0) (some (64,0)),.cw (ratL 0) (some (64,0))])] 0 0 .c)=true:=by kernel_rfl
theorem runJ2:okRun (pJ 0 2 tzE) (runF sysN 32 [.so (.vg [.ci .i64 12 12 12,.ci .i64 1 1 1,.ci .i64 0 0 0,.ci .i64 0 0 0,.cw (ratL 0) (some (64,0)),.cw (ratL 0) (some (64,0)),.cw (ratL 0) (some (64,0))]),.so (.vg [.ci .i64 12 12 12,.ci .i64 1 1 1,.ci .i64 0 0 0,.ci .i64 0 0 0,.cw (ratL 0) (some (64,0)),.cw (ratL 0) (some (64,0)),.cw (ratL 0) (some (64,0))])] 0 0 .c)=true:=by kernel_rfl
theorem tz0_ok {n:Nn} {X:Env} {w:World} {c:Cl} (h:tz0 c=true) (hc:c.ok n X w):c.den X=.string ⟨([48]:List UInt8).toArray⟩:=by
  unfold tz0 at h
  split at h
  · rename_i k q e
    rw [(txC_ok e hc).1,of_decide_eq_true h,ratL0]
  · cases h
theorem tzE_ok {X:Env} {c:Cl} (h:tzE c=true):c.den X=.string ⟨([]:List UInt8).toArray⟩:=by
  unfold tzE at h
  split at h
  · rfl
  · cases h
theorem pJ_ok {n:Nn} {X:Env} {w:World} {z e:Int} {tz:Cl→Bool} {v:SV} (h:pJ z e tz v=true) (hv:v.ok n X w):∃ c1 c2 c3:Cl,v.den X=.tuple #[.agg #[.int .i64 0,.int .i64 0,.int .i64 0,.int .i64 z,c1.den X,c2.den X,c3.den X],.int .i64 e]∧(tz c1=true∧c1.ok n X w)∧(tz c2=true∧c2.ok n X w)∧(tz c3=true∧c3.ok n X w):=by
  unfold pJ at h
  split at h
  · rename_i a _ _ b _ _ c _ _ d _ _ t1 t2 t3 f _ _
    simp only [Bool.and_eq_true,decide_eq_true_eq] at h
    obtain ⟨⟨⟨⟨⟨⟨⟨rfl,rfl⟩,rfl⟩,rfl⟩,rfl⟩,h1⟩,h2⟩,h3⟩:=h
    have g:=hv (.vg _) (.head _)
    exact ⟨t1,t2,t3,rfl,⟨h1,g t1 (by simp)⟩,⟨h2,g t2 (by simp)⟩,⟨h3,g t3 (by simp)⟩⟩
  · cases h
theorem tx0 (w:World):(Cl.cw (ratL 0) (some (64,0))).ok ⟨0,0,0⟩ (envR []) w:=⟨rfl,fun k q e=>by cases e;exact ⟨rfl,Nat.two_pow_pos _,Nat.one_lt_two_pow (by decide)⟩⟩
theorem ci0 (z:Int) (w:World):(Cl.ci .i64 z z z).ok ⟨0,0,0⟩ (envR []) w:=⟨rfl,Int.le_refl _,Int.le_refl _⟩
theorem okq (a b c d:Int) (w:World):SV.ok ⟨0,0,0⟩ (envR []) w (.so (.vg [.ci .i64 a a a,.ci .i64 b b b,.ci .i64 c c c,.ci .i64 d d d,.cw (ratL 0) (some (64,0)),.cw (ratL 0) (some (64,0)),.cw (ratL 0) (some (64,0))])):=okA_ok ⟨ci0 _ _,ci0 _ _,ci0 _ _,ci0 _ _,tx0 _,tx0 _,tx0 _,trivial⟩
theorem okF2 {n:Nn} {X:Env} {W:World} {u v:SV} (h1:u.ok n X W) (h2:v.ok n X W):okF n X W [u,v]:=fun x hx=>by
  simp only [List.mem_cons,List.not_mem_nil,or_false] at hx
  rcases hx with rfl | rfl
  · exact h1
  · exact h2
theorem join_k1 (w:World) (hm:Mx w) (ht:Tab w):
    Calls Tryz.prog 32 #[.agg #[.int .i64 1,.int .i64 0,.int .i64 0,.int .i64 1,.string ⟨([48]:List UInt8).toArray⟩,.string ⟨([48]:List UInt8).toArray⟩,.string ⟨([48]:List UInt8).toArray⟩],.agg #[.int .i64 1,.int .i64 0,.int .i64 0,.int .i64 1,.string ⟨([48]:List UInt8).toArray⟩,.string ⟨([48]:List UInt8).toArray⟩,.string ⟨([48]:List UInt8).toArray⟩]] w fun e w'=>e=.returned (.tuple #[.agg #[.int .i64 0,.int .i64 0,.int .i64 0,.int .i64 1,.string ⟨([48]:List UInt8).toArray⟩,.string ⟨([48]:List UInt8).toArray⟩,.string ⟨([48]:List UInt8).toArray⟩],.int .i64 0])∧Gr w w':=by
  obtain ⟨L,hr,hL⟩:=okRun_ok runJ1
  have:=(run_calls sysN sysN_ok hr (X:=envR []) ⟨ht,hm⟩ (okF2 (okq 1 0 0 1 w) (okq 1 0 0 1 w)) hL)
  rw [show ([.so (.vg [.ci .i64 1 1 1,.ci .i64 0 0 0,.ci .i64 0 0 0,.ci .i64 1 1 1,.cw (ratL 0) (some (64,0)),.cw (ratL 0) (some (64,0)),.cw (ratL 0) (some (64,0))]),.so (.vg [.ci .i64 1 1 1,.ci .i64 0 0 0,.ci .i64 0 0 0,.ci .i64 1 1 1,.cw (ratL 0) (some (64,0)),.cw (ratL 0) (some (64,0)),.cw (ratL 0) (some (64,0))])].map (SV.den (envR []))).toArray=#[.agg #[.int .i64 1,.int .i64 0,.int .i64 0,.int .i64 1,.string ⟨(ratL 0).toArray⟩,.string ⟨(ratL 0).toArray⟩,.string ⟨(ratL 0).toArray⟩],.agg #[.int .i64 1,.int .i64 0,.int .i64 0,.int .i64 1,.string ⟨(ratL 0).toArray⟩,.string ⟨(ratL 0).toArray⟩,.string ⟨(ratL 0).toArray⟩]] from rfl,ratL0] at this
  refine this.mono fun e w' he=>?_
  obtain ⟨v,X',n,rfl,g,_,hv,hp⟩:=he
  obtain ⟨c1,c2,c3,e,h1,h2,h3⟩:=pJ_ok hp hv
  exact ⟨by rw [e,tz0_ok h1.1 h1.2,tz0_ok h2.1 h2.2,tz0_ok h3.1 h3.2],g⟩
theorem join_k2 (w:World) (hm:Mx w) (ht:Tab w):
    Calls Tryz.prog 32 #[.agg #[.int .i64 12,.int .i64 1,.int .i64 0,.int .i64 0,.string ⟨([48]:List UInt8).toArray⟩,.string ⟨([48]:List UInt8).toArray⟩,.string ⟨([48]:List UInt8).toArray⟩],.agg #[.int .i64 12,.int .i64 1,.int .i64 0,.int .i64 0,.string ⟨([48]:List UInt8).toArray⟩,.string ⟨([48]:List UInt8).toArray⟩,.string ⟨([48]:List UInt8).toArray⟩]] w fun e w'=>e=.returned (.tuple #[.agg #[.int .i64 0,.int .i64 0,.int .i64 0,.int .i64 0,.string ⟨([]:List UInt8).toArray⟩,.string ⟨([]:List UInt8).toArray⟩,.string ⟨([]:List UInt8).toArray⟩],.int .i64 2])∧Gr w w':=by
  obtain ⟨L,hr,hL⟩:=okRun_ok runJ2
  have:=(run_calls sysN sysN_ok hr (X:=envR []) ⟨ht,hm⟩ (okF2 (okq 12 1 0 0 w) (okq 12 1 0 0 w)) hL)
  rw [show ([.so (.vg [.ci .i64 12 12 12,.ci .i64 1 1 1,.ci .i64 0 0 0,.ci .i64 0 0 0,.cw (ratL 0) (some (64,0)),.cw (ratL 0) (some (64,0)),.cw (ratL 0) (some (64,0))]),.so (.vg [.ci .i64 12 12 12,.ci .i64 1 1 1,.ci .i64 0 0 0,.ci .i64 0 0 0,.cw (ratL 0) (some (64,0)),.cw (ratL 0) (some (64,0)),.cw (ratL 0) (some (64,0))])].map (SV.den (envR []))).toArray=#[.agg #[.int .i64 12,.int .i64 1,.int .i64 0,.int .i64 0,.string ⟨(ratL 0).toArray⟩,.string ⟨(ratL 0).toArray⟩,.string ⟨(ratL 0).toArray⟩],.agg #[.int .i64 12,.int .i64 1,.int .i64 0,.int .i64 0,.string ⟨(ratL 0).toArray⟩,.string ⟨(ratL 0).toArray⟩,.string ⟨(ratL 0).toArray⟩]] from rfl,ratL0] at this
  refine this.mono fun e w' he=>?_
  obtain ⟨v,X',n,rfl,g,_,hv,hp⟩:=he
  obtain ⟨c1,c2,c3,e,h1,h2,h3⟩:=pJ_ok hp hv
  exact ⟨by rw [e,tzE_ok h1.1,tzE_ok h2.1,tzE_ok h3.1],g⟩
theorem IsRats.open12 {w':World} {vs:List Value} {r0 r1 r2 r3 r4 r5 r6 r7 r8 r9 aT aU:Rat} (h:IsRats w' vs [(64,r0),(64,r1),(64,r2),(64,r3),(64,r4),(64,r5),(64,r6),(64,r7),(64,r8),(64,r9),(64,aT),(64,aU)]):∃ t0 t1 t2 t3 t4 t5 t6 t7 t8 t9 aD aq aF aO ab aC ak af aK ad aI ah aw az aN aj aQ aa ay aG aE ae aJ aS aL aA aB au aH al ai aR av ax ac aP aM ar,vs=[t0,t1,t2,t3,t4,t5,t6,t7,t8,t9,aD,aq,aF,aO,ab,aC,ak,af,aK,ad,aI,ah,aw,az,aN,aj,aQ,aa,ay,aG,aE,ae,aJ,aS,aL,aA,aB,au,aH,al,ai,aR,av,ax,ac,aP,aM,ar]∧IsRat w' 64 t0 t1 t2 t3 r0∧IsRat w' 64 t4 t5 t6 t7 r1∧IsRat w' 64 t8 t9 aD aq r2∧IsRat w' 64 aF aO ab aC r3∧IsRat w' 64 ak af aK ad r4∧IsRat w' 64 aI ah aw az r5∧IsRat w' 64 aN aj aQ aa r6∧IsRat w' 64 ay aG aE ae r7∧IsRat w' 64 aJ aS aL aA r8∧IsRat w' 64 aB au aH al r9∧IsRat w' 64 ai aR av ax aT∧IsRat w' 64 ac aP aM ar aU:=by
  obtain ⟨t0,t1,t2,t3,u0,rfl,h0,g0⟩:=h.cons
  obtain ⟨t4,t5,t6,t7,u1,rfl,h1,g1⟩:=g0.cons
  obtain ⟨t8,t9,aD,aq,u2,rfl,h2,g2⟩:=g1.cons
  obtain ⟨aF,aO,ab,aC,u3,rfl,h3,g3⟩:=g2.cons
  obtain ⟨ak,af,aK,ad,u4,rfl,h4,g4⟩:=g3.cons
  obtain ⟨aI,ah,aw,az,u5,rfl,h5,g5⟩:=g4.cons
  obtain ⟨aN,aj,aQ,aa,u6,rfl,h6,g6⟩:=g5.cons
  obtain ⟨ay,aG,aE,ae,u7,rfl,h7,g7⟩:=g6.cons
  obtain ⟨aJ,aS,aL,aA,u8,rfl,h8,g8⟩:=g7.cons
  obtain ⟨aB,au,aH,al,u9,rfl,h9,g9⟩:=g8.cons
  obtain ⟨ai,aR,av,ax,a0,rfl,aW,aY⟩:=g9.cons
  obtain ⟨ac,aP,aM,ar,aZ,rfl,aV,aX⟩:=aY.cons
  obtain rfl:=aX.nil
  exact ⟨t0,t1,t2,t3,t4,t5,t6,t7,t8,t9,aD,aq,aF,aO,ab,aC,ak,af,aK,ad,aI,ah,aw,az,aN,aj,aQ,aa,ay,aG,aE,ae,aJ,aS,aL,aA,aB,au,aH,al,ai,aR,av,ax,ac,aP,aM,ar,rfl,h0,h1,h2,h3,h4,h5,h6,h7,h8,h9,aW,aV⟩
theorem vk1:VT 1 0 0 1:=⟨by decide,by decide,by decide,by decide,by decide+kernel,by decide+kernel⟩
theorem mof_k1 (w:World) (hm:Mx w) (ht:Tab w):
    Calls Tryz.prog 14 #[.agg #[.int .i64 1,.int .i64 0,.int .i64 0,.int .i64 1,.string ⟨([48]:List UInt8).toArray⟩,.string ⟨([48]:List UInt8).toArray⟩,.string ⟨([48]:List UInt8).toArray⟩]] w fun e w'=>(∃ t0 t1 t2 t3 t4 t5 t6 t7 t8 t9 av ay aB az ae au ai aG aM aC aJ aH aR ad aw aS aK ac ab aD ax aF aL aN af ah ak aP aI al aQ aO aj aa aq aA ar aE,e=.returned (.tuple #[.agg #[t0,t1,t2,t3,t4,t5,t6,t7,t8,t9,av,ay,aB,az,ae,au,ai,aG,aM,aC,aJ,aH,aR,ad,aw,aS,aK,ac,ab,aD,ax,aF,aL,aN,af,ah,ak,aP,aI,al,aQ,aO,aj,aa,aq,aA,ar,aE],.int .i64 0])∧IsRat w' 64 t0 t1 t2 t3 0∧IsRat w' 64 t4 t5 t6 t7 (-1)∧IsRat w' 64 t8 t9 av ay 0∧IsRat w' 64 aB az ae au 1∧IsRat w' 64 ai aG aM aC 0∧IsRat w' 64 aJ aH aR ad 0∧IsRat w' 64 aw aS aK ac 0∧IsRat w' 64 ab aD ax aF 0∧IsRat w' 64 aL aN af ah 1∧IsRat w' 64 ak aP aI al 0∧IsRat w' 64 aQ aO aj aa 0∧IsRat w' 64 aq aA ar aE 0)∧Gr w w':=by
  have z:RS 64 (0:Rat):=⟨Nat.two_pow_pos _,Nat.one_lt_two_pow (by decide)⟩
  have:=of_c vk1 z z z w ⟨ht,hm⟩
  rw [ratL0,show oList 1 0 0 1 0 0 0=[(64,0),(64,(-1)),(64,0),(64,1),(64,0),(64,0),(64,0),(64,0),(64,1),(64,0),(64,0),(64,0)] by decide+kernel] at this
  refine this.mono fun e w' he=>?_
  obtain ⟨⟨vs,rfl,h⟩,g⟩:=he
  obtain ⟨t0,t1,t2,t3,t4,t5,t6,t7,t8,t9,av,ay,aB,az,ae,au,ai,aG,aM,aC,aJ,aH,aR,ad,aw,aS,aK,ac,ab,aD,ax,aF,aL,aN,af,ah,ak,aP,aI,al,aQ,aO,aj,aa,aq,aA,ar,aE,rfl,k⟩:=h.open12
  exact ⟨⟨t0,t1,t2,t3,t4,t5,t6,t7,t8,t9,av,ay,aB,az,ae,au,ai,aG,aM,aC,aJ,aH,aR,ad,aw,aS,aK,ac,ab,aD,ax,aF,aL,aN,af,ah,ak,aP,aI,al,aQ,aO,aj,aa,aq,aA,ar,aE,rfl,k⟩,g⟩
theorem vk2:VT 2 1 0 0:=⟨by decide,by decide,by decide,by decide,by decide+kernel,by decide+kernel⟩
theorem mof_k2 (w:World) (hm:Mx w) (ht:Tab w):
    Calls Tryz.prog 14 #[.agg #[.int .i64 2,.int .i64 1,.int .i64 0,.int .i64 0,.string ⟨([48]:List UInt8).toArray⟩,.string ⟨([48]:List UInt8).toArray⟩,.string ⟨([48]:List UInt8).toArray⟩]] w fun e w'=>(∃ t0 t1 t2 t3 t4 t5 t6 t7 t8 t9 av ay aB az ae au ai aG aM aC aJ aH aR ad aw aS aK ac ab aD ax aF aL aN af ah ak aP aI al aQ aO aj aa aq aA ar aE,e=.returned (.tuple #[.agg #[t0,t1,t2,t3,t4,t5,t6,t7,t8,t9,av,ay,aB,az,ae,au,ai,aG,aM,aC,aJ,aH,aR,ad,aw,aS,aK,ac,ab,aD,ax,aF,aL,aN,af,ah,ak,aP,aI,al,aQ,aO,aj,aa,aq,aA,ar,aE],.int .i64 0])∧IsRat w' 64 t0 t1 t2 t3 1∧IsRat w' 64 t4 t5 t6 t7 0∧IsRat w' 64 t8 t9 av ay 0∧IsRat w' 64 aB az ae au 0∧IsRat w' 64 ai aG aM aC (3/5)∧IsRat w' 64 aJ aH aR ad (-4/5)∧IsRat w' 64 aw aS aK ac 0∧IsRat w' 64 ab aD ax aF (4/5)∧IsRat w' 64 aL aN af ah (3/5)∧IsRat w' 64 ak aP aI al 0∧IsRat w' 64 aQ aO aj aa 0∧IsRat w' 64 aq aA ar aE 0)∧Gr w w':=by
  have z:RS 64 (0:Rat):=⟨Nat.two_pow_pos _,Nat.one_lt_two_pow (by decide)⟩
  have:=of_c vk2 z z z w ⟨ht,hm⟩
  rw [ratL0,show oList 2 1 0 0 0 0 0=[(64,1),(64,0),(64,0),(64,0),(64,(3/5)),(64,(-4/5)),(64,0),(64,(4/5)),(64,(3/5)),(64,0),(64,0),(64,0)] by decide+kernel] at this
  refine this.mono fun e w' he=>?_
  obtain ⟨⟨vs,rfl,h⟩,g⟩:=he
  obtain ⟨t0,t1,t2,t3,t4,t5,t6,t7,t8,t9,av,ay,aB,az,ae,au,ai,aG,aM,aC,aJ,aH,aR,ad,aw,aS,aK,ac,ab,aD,ax,aF,aL,aN,af,ah,ak,aP,aI,al,aQ,aO,aj,aa,aq,aA,ar,aE,rfl,k⟩:=h.open12
  exact ⟨⟨t0,t1,t2,t3,t4,t5,t6,t7,t8,t9,av,ay,aB,az,ae,au,ai,aG,aM,aC,aJ,aH,aR,ad,aw,aS,aK,ac,ab,aD,ax,aF,aL,aN,af,ah,ak,aP,aI,al,aQ,aO,aj,aa,aq,aA,ar,aE,rfl,k⟩,g⟩
theorem runA (r0 r1 r2 r3 r4 r5 r6 r7 r8 r9 ab aa v1 v2 v3:Rat):runF sysN 43 [.so (.vg [.cr 0 0 64 r0,.cr 0 1 64 r0,.cr 0 2 64 r0,.cr 0 3 64 r0,.cr 1 0 64 r1,.cr 1 1 64 r1,.cr 1 2 64 r1,.cr 1 3 64 r1,.cr 2 0 64 r2,.cr 2 1 64 r2,.cr 2 2 64 r2,.cr 2 3 64 r2,.cr 3 0 64 r3,.cr 3 1 64 r3,.cr 3 2 64 r3,.cr 3 3 64 r3,.cr 4 0 64 r4,.cr 4 1 64 r4,.cr 4 2 64 r4,.cr 4 3 64 r4,.cr 5 0 64 r5,.cr 5 1 64 r5,.cr 5 2 64 r5,.cr 5 3 64 r5,.cr 6 0 64 r6,.cr 6 1 64 r6,.cr 6 2 64 r6,.cr 6 3 64 r6,.cr 7 0 64 r7,.cr 7 1 64 r7,.cr 7 2 64 r7,.cr 7 3 64 r7,.cr 8 0 64 r8,.cr 8 1 64 r8,.cr 8 2 64 r8,.cr 8 3 64 r8,.cr 9 0 64 r9,.cr 9 1 64 r9,.cr 9 2 64 r9,.cr 9 3 64 r9,.cr 10 0 64 ab,.cr 10 1 64 ab,.cr 10 2 64 ab,.cr 10 3 64 ab,.cr 11 0 64 aa,.cr 11 1 64 aa,.cr 11 2 64 aa,.cr 11 3 64 aa]),.so (.vg [.cr 12 0 64 v1,.cr 12 1 64 v1,.cr 12 2 64 v1,.cr 12 3 64 v1,.cr 13 0 64 v2,.cr 13 1 64 v2,.cr 13 2 64 v2,.cr 13 3 64 v2,.cr 14 0 64 v3,.cr 14 1 64 v3,.cr 14 2 64 v3,.cr 14 3 64 v3])] 15 0 .e=some (.ret (.so (.vg (rowC [33,34,35] [(516,0+r0*v1+r1*v2+r2*v3+r9),(516,0+r3*v1+r4*v2+r5*v3+ab),(516,0+r6*v1+r7*v2+r8*v3+aa)])))):=by kernel_rfl
theorem mapply64 {c0 c1 c2 c3 c4 c5 c6 c7 c8 c9 a6 aT ax a3 aI aK aj aZ aU aA aG al az aM aR aX bb a8 aL a2 aw a0 aV aE ar a7 av aN aC aH aQ au aq a4 bd aW a1 bc aO aS aD ba aY ay aJ ai ak a9 aP aF:Value} {r0 r1 r2 r3 r4 r5 r6 r7 r8 r9 ae ad v1 v2 v3:Rat} {w:World} (h0:IsRat w 64 c0 c1 c2 c3 r0) (h1:IsRat w 64 c4 c5 c6 c7 r1) (h2:IsRat w 64 c8 c9 a6 aT r2) (h3:IsRat w 64 ax a3 aI aK r3) (h4:IsRat w 64 aj aZ aU aA r4) (h5:IsRat w 64 aG al az aM r5) (h6:IsRat w 64 aR aX bb a8 r6) (h7:IsRat w 64 aL a2 aw a0 r7) (h8:IsRat w 64 aV aE ar a7 r8) (h9:IsRat w 64 av aN aC aH r9) (ab:IsRat w 64 aQ au aq a4 ae) (ac:IsRat w 64 bd aW a1 bc ad) (aa:IsRat w 64 aO aS aD ba v1) (ah:IsRat w 64 aY ay aJ ai v2) (af:IsRat w 64 ak a9 aP aF v3) (ht:Tab w) (hm:Mx w):
    Calls Tryz.prog 43 #[.agg #[c0,c1,c2,c3,c4,c5,c6,c7,c8,c9,a6,aT,ax,a3,aI,aK,aj,aZ,aU,aA,aG,al,az,aM,aR,aX,bb,a8,aL,a2,aw,a0,aV,aE,ar,a7,av,aN,aC,aH,aQ,au,aq,a4,bd,aW,a1,bc],.agg #[aO,aS,aD,ba,aY,ay,aJ,ai,ak,a9,aP,aF]] w fun e w'=>(∃ t0 t1 t2 t3 t4 t5 t6 t7 t8 t9 aB a5,e=.returned (.agg #[t0,t1,t2,t3,t4,t5,t6,t7,t8,t9,aB,a5])∧IsRat w' 516 t0 t1 t2 t3 ((0+r0*v1+r1*v2+r2*v3)+r9)∧IsRat w' 516 t4 t5 t6 t7 ((0+r3*v1+r4*v2+r5*v3)+ae)∧IsRat w' 516 t8 t9 aB a5 ((0+r6*v1+r7*v2+r8*v3)+ad))∧Gr w w':=by
  refine (run_calls sysN sysN_ok (runA r0 r1 r2 r3 r4 r5 r6 r7 r8 r9 ae ad v1 v2 v3) (X:=envR [c0,c1,c2,c3,c4,c5,c6,c7,c8,c9,a6,aT,ax,a3,aI,aK,aj,aZ,aU,aA,aG,al,az,aM,aR,aX,bb,a8,aL,a2,aw,a0,aV,aE,ar,a7,av,aN,aC,aH,aQ,au,aq,a4,bd,aW,a1,bc,aO,aS,aD,ba,aY,ay,aJ,ai,ak,a9,aP,aF]) ⟨ht,hm⟩ (okF2 (okA_ok ⟨⟨rfl,h0⟩,⟨rfl,h0⟩,⟨rfl,h0⟩,⟨rfl,h0⟩,⟨rfl,h1⟩,⟨rfl,h1⟩,⟨rfl,h1⟩,⟨rfl,h1⟩,⟨rfl,h2⟩,⟨rfl,h2⟩,⟨rfl,h2⟩,⟨rfl,h2⟩,⟨rfl,h3⟩,⟨rfl,h3⟩,⟨rfl,h3⟩,⟨rfl,h3⟩,⟨rfl,h4⟩,⟨rfl,h4⟩,⟨rfl,h4⟩,⟨rfl,h4⟩,⟨rfl,h5⟩,⟨rfl,h5⟩,⟨rfl,h5⟩,⟨rfl,h5⟩,⟨rfl,h6⟩,⟨rfl,h6⟩,⟨rfl,h6⟩,⟨rfl,h6⟩,⟨rfl,h7⟩,⟨rfl,h7⟩,⟨rfl,h7⟩,⟨rfl,h7⟩,⟨rfl,h8⟩,⟨rfl,h8⟩,⟨rfl,h8⟩,⟨rfl,h8⟩,⟨rfl,h9⟩,⟨rfl,h9⟩,⟨rfl,h9⟩,⟨rfl,h9⟩,⟨rfl,ab⟩,⟨rfl,ab⟩,⟨rfl,ab⟩,⟨rfl,ab⟩,⟨rfl,ac⟩,⟨rfl,ac⟩,⟨rfl,ac⟩,⟨rfl,ac⟩,trivial⟩) (okA_ok ⟨⟨rfl,aa⟩,⟨rfl,aa⟩,⟨rfl,aa⟩,⟨rfl,aa⟩,⟨rfl,ah⟩,⟨rfl,ah⟩,⟨rfl,ah⟩,⟨rfl,ah⟩,⟨rfl,af⟩,⟨rfl,af⟩,⟨rfl,af⟩,⟨rfl,af⟩,trivial⟩)) (Post:=fun v=>asRats v=some [(516,0+r0*v1+r1*v2+r2*v3+r9),(516,0+r3*v1+r4*v2+r5*v3+ae),(516,0+r6*v1+r7*v2+r8*v3+ad)]) rfl).mono fun e w' he=>?_
  obtain ⟨v,X',n,rfl,g,_,hv,hr⟩:=he
  obtain ⟨vs,e1,h⟩:=asRats_ok hr hv
  obtain ⟨t0,t1,t2,t3,u0,rfl,h0,g0⟩:=h.cons
  obtain ⟨t4,t5,t6,t7,u1,rfl,h1,g1⟩:=g0.cons
  obtain ⟨t8,t9,aB,a5,u2,rfl,h2,g2⟩:=g1.cons
  obtain rfl:=g2.nil
  exact ⟨⟨_,_,_,_,_,_,_,_,_,_,_,_,by rw [e1],h0,h1,h2⟩,g⟩
end Go.Proofs.YtaldbfflkpgfoaaGreatDoor
/- The rotations of the cube:a list of quaternions. -/
namespace Go.Proofs.YtaldbfflkpgfoaaGreatDoor
open Go.RowKit
/-- four ints -/
def EQ4 (_:World) (z:Int × Int × Int × Int) (vs:List Value):Prop:=vs=[.int .i64 z.1,.int .i64 z.2.1,.int .i64 z.2.2.1,.int .i64 z.2.2.2]
theorem stab_q4:Stab EQ4 []:=fun _ _ _ _ _ h=>h
def qAt (n:Nat):Int × Int × Int × Int:=((n:Int)/27 - 1,(n:Int)/9 % 3 - 1,(n:Int)/3 % 3 - 1,(n:Int) % 3 - 1)
def qSq (z:Int × Int × Int × Int):Int:=0+z.1*z.1+z.2.1*z.2.1+z.2.2.1*z.2.2.1+z.2.2.2*z.2.2.2
def qOk (z:Int × Int × Int × Int):Bool:=(qSq z !=3)&&(chk z.1 z.2.1 z.2.2.1 z.2.2.2 0==0)
def qUpto (n:Nat):List (Int × Int × Int × Int):=((List.range n).map qAt).filter qOk
theorem qUpto_yes {n:Nat} {z:Int × Int × Int × Int} (hz:qAt n=z) (h:qOk z=true):qUpto (n+1)=qUpto n++[z]:=by
  unfold qUpto
  rw [List.range_succ,List.map_append,List.filter_append,List.map_cons,List.map_nil,hz]
  simp [h]
theorem qUpto_no {n:Nat} {z:Int × Int × Int × Int} (hz:qAt n=z) (h:qOk z=false):qUpto (n+1)=qUpto n:=by
  unfold qUpto
  rw [List.range_succ,List.map_append,List.filter_append,List.map_cons,List.map_nil,hz]
  simp [h]
theorem qUpto_len (n:Nat):(qUpto n).length≤n:=by
  unfold qUpto
  refine Nat.le_trans (List.length_filter_le ..) ?_
  simp
/-- the 24 rotations of the cube -/
def quarters:List (Int × Int × Int × Int):=qUpto 81
theorem quarters_len:quarters.length=24:=by decide+kernel
theorem mcheck0 {q0 q1 q2 q3:Int} (j0:-12≤q0∧q0≤12) (j1:-12≤q1∧q1≤12) (j2:-12≤q2∧q2≤12) (j3:-12≤q3∧q3≤12) (w:World) (hm:Mx w):
    Calls Tryz.prog 15 #[.agg #[.int .i64 q0,.int .i64 q1,.int .i64 q2,.int .i64 q3,.string ⟨([48]:List UInt8).toArray⟩,.string ⟨([48]:List UInt8).toArray⟩,.string ⟨([48]:List UInt8).toArray⟩]] w fun e w'=>e=.returned (.int .i64 (chk q0 q1 q2 q3 0))∧Gr w w':=by
  have z:RS 64 (0:Rat):=⟨Nat.two_pow_pos _,Nat.one_lt_two_pow (by decide)⟩
  have l:((ratL 0).length:Int)≤400:=by rw [ratL0];decide
  have:=mcheckr j0 j1 j2 j3 0 0 0 z z z l l l w hm
  rw [ratL0] at this
  exact this
end Go.Proofs.YtaldbfflkpgfoaaGreatDoor
/- Printed by a program of the prover's:the rotations of the cube. -/
namespace Go.Proofs.YtaldbfflkpgfoaaGreatDoor
open Go.RowKit

set_option maxRecDepth 100000 in
set_option maxHeartbeats 4000000 in
theorem mquarters (w:World) (hm:Mx w):
    Calls Tryz.prog 50 #[] w fun e w'=>(∃ v,e=.returned v∧Sl EQ4 22 4 w' v quarters)∧Gr w w':=by
 go_enter Tryz.func50,Tryz.ntmps50
 have hB:=Gr.refl w
 refine wp_seq_k (fun K1 k1=>?_)
 refine rg [0] ?_
 refine sv 0 (.slice none 0 0) ?_
 refine sq_nil ?_
 refine k1 _ _ ?_
 try clear k1 K1
 refine wp_seq_k (fun K2 k2=>?_)
 refine rg [0] ?_
 refine sv 1 (.slice none 0 0) ?_
 refine sq_nil ?_
 refine k2 _ _ ?_
 try clear k2 K2
 refine wp_seq_k (fun K3 k3=>?_)
 refine wp_seq_k (fun K4 k4=>?_)
 refine rg [0] ?_
 refine sv 7 (.int .i64 0) ?_
 refine sq_nil ?_
 refine k4 _ _ ?_
 try clear k4 K4
 refine wp_block ?_
 refine wp_loop_inv (a:=⟨List.toArray ?l5,[]⟩) (fun n a w'=>∃ (v:Value) (nn:Nat) (u5:Nat→Value),81 - nn=n∧a=⟨[(.slice none 0 0),v,(u5 2),(u5 3),(u5 4),undef,(u5 6),(.int .i64 ((nn:Int))),(u5 8),(u5 9),(u5 10),(u5 11),(u5 12),(u5 13),(u5 14),(u5 15),(u5 16),(u5 17),(u5 18),(u5 19),(u5 20),(u5 21),(u5 22),(u5 23),(u5 24),(u5 25),(u5 26),(u5 27),(u5 28),(u5 29),(u5 30),(u5 31),(u5 32),(u5 33),(u5 34),(u5 35),(u5 36),(u5 37),(u5 38),(u5 39),(u5 40),(u5 41),(u5 42),(u5 43),(u5 44),(u5 45),(u5 46),(u5 47),(u5 48),undef].toArray,[]⟩∧nn≤81∧Ow EQ4 22 4 w' w.heap.size v (qUpto nn)∧Gr w w') (81 - 0) ?_ ?_
 ·exact ⟨_,0,(fun i=>List.getD ?l5 i undef),rfl,rfl,(by omega),(Ow.nil _ _ _ _ _),hB⟩
 rintro n5 a5 w5 ⟨v,nn,u5,rfl,rfl,hnn,hv,hB⟩ K5 k5
 refine wp_seq_k (fun K6 k6=>?_)
 refine rg [0] ?_
 refine sv 8 (.bool (decide ((nn:Int)<(81:Int)))) ?_
 refine sq_nil ?_
 refine k6 _ _ ?_
 try clear k6 K6
 refine wp_seq_k (fun K7 k7=>?_)
 refine wp_cond_split (t:=decide ((nn:Int)<(81:Int))) rfl (fun ak=>?_) (fun ak=>?_)
 ·have hlt:nn<81:=by have:=of_decide_eq_true ak;omega
  refine wp_skip ?_
  refine k7 _ _ ?_
  try clear k7 K7
  refine wp_seq_k (fun K9 k9=>?_)
  refine wp_block ?_
  refine wp_seq_k (fun bc av=>?_)
  refine rg [0,1] ?_
  refine sv 9 (.int .i64 ((nn:Int))) ?_
  refine sv 2 (.int .i64 ((nn:Int))) ?_
  refine sq_nil ?_
  refine av _ _ ?_
  try clear av bc
  refine wp_seq_k (fun aY aE=>?_)
  refine rg [0,1,2,3,4,5,6,7,8,9,10,11,12,13,14,15,16] ?_
  refine sv 10 (.int .i64 ((nn:Int))) ?_
  refine sw 11 (.int .i64 (((nn:Int)/27))) rfl (rv_quo 3 3 _ _ (nn:Int) 27 ((nn:Int)/27) rfl rfl rfl (Int.tdiv_eq_ediv_of_nonneg (by omega)) (by omega) (by omega) (by omega)) ?_
  refine sw 12 (.int .i64 ((((nn:Int)/27) - 1))) rfl (RunV.int (x:=IntKind.i64.wrap ((((nn:Int)/27) - 1))) (y:=(((nn:Int)/27) - 1)) (rvk (by kernel_rfl)) (by first | rfl | (rw [IntKind.wrap_i64];omega))) ?_
  refine sv 13 (.int .i64 ((nn:Int))) ?_
  refine sw 14 (.int .i64 (((nn:Int)/9))) rfl (rv_quo 3 3 _ _ (nn:Int) 9 ((nn:Int)/9) rfl rfl rfl (Int.tdiv_eq_ediv_of_nonneg (by omega)) (by omega) (by omega) (by omega)) ?_
  refine sw 15 (.int .i64 ((((nn:Int)/9) % 3))) rfl (RunV.int (x:=Int.tmod (((nn:Int)/9)) 3) (y:=((nn:Int)/9) % 3) (rvk (by kernel_rfl)) (by rw [Int.tmod_eq_emod_of_nonneg (by first | omega | exact Int.natCast_nonneg _)])) ?_
  refine sw 16 (.int .i64 (((((nn:Int)/9) % 3) - 1))) rfl (RunV.int (x:=IntKind.i64.wrap (((((nn:Int)/9) % 3) - 1))) (y:=((((nn:Int)/9) % 3) - 1)) (rvk (by kernel_rfl)) (by first | rfl | (rw [IntKind.wrap_i64];omega))) ?_
  refine sv 17 (.int .i64 ((nn:Int))) ?_
  refine sw 18 (.int .i64 (((nn:Int)/3))) rfl (rv_quo 3 3 _ _ (nn:Int) 3 ((nn:Int)/3) rfl rfl rfl (Int.tdiv_eq_ediv_of_nonneg (by omega)) (by omega) (by omega) (by omega)) ?_
  refine sw 19 (.int .i64 ((((nn:Int)/3) % 3))) rfl (RunV.int (x:=Int.tmod (((nn:Int)/3)) 3) (y:=((nn:Int)/3) % 3) (rvk (by kernel_rfl)) (by rw [Int.tmod_eq_emod_of_nonneg (by first | omega | exact Int.natCast_nonneg _)])) ?_
  refine sw 20 (.int .i64 (((((nn:Int)/3) % 3) - 1))) rfl (RunV.int (x:=IntKind.i64.wrap (((((nn:Int)/3) % 3) - 1))) (y:=((((nn:Int)/3) % 3) - 1)) (rvk (by kernel_rfl)) (by first | rfl | (rw [IntKind.wrap_i64];omega))) ?_
  refine sv 21 (.int .i64 ((nn:Int))) ?_
  refine sw 22 (.int .i64 (((nn:Int) % 3))) rfl (RunV.int (x:=Int.tmod ((nn:Int)) 3) (y:=(nn:Int) % 3) (rvk (by kernel_rfl)) (by rw [Int.tmod_eq_emod_of_nonneg (by first | omega | exact Int.natCast_nonneg _)])) ?_
  refine sw 23 (.int .i64 ((((nn:Int) % 3) - 1))) rfl (RunV.int (x:=IntKind.i64.wrap ((((nn:Int) % 3) - 1))) (y:=(((nn:Int) % 3) - 1)) (rvk (by kernel_rfl)) (by first | rfl | (rw [IntKind.wrap_i64];omega))) ?_
  refine sv 24 (.agg #[(.int .i64 ((((nn:Int)/27) - 1))),(.int .i64 (((((nn:Int)/9) % 3) - 1))),(.int .i64 (((((nn:Int)/3) % 3) - 1))),(.int .i64 ((((nn:Int) % 3) - 1)))]) ?_
  refine se ?_
  refine ea 22 #[(.int .i64 0),(.int .i64 0),(.int .i64 0),(.int .i64 0)] 3 hB fun bA bB al ac a2 q12 hB=>?_
  have aa:=hv.ne a2
  simp only [p3,p4]
  refine se ?_
  have ae:=ac
  refine es 22 0 (.agg #[(.int .i64 ((((nn:Int)/27) - 1))),(.int .i64 (((((nn:Int)/9) % 3) - 1))),(.int .i64 (((((nn:Int)/3) % 3) - 1))),(.int .i64 ((((nn:Int) % 3) - 1)))]) [(.int .i64 ((((nn:Int)/27) - 1))),(.int .i64 (((((nn:Int)/9) % 3) - 1))),(.int .i64 (((((nn:Int)/3) % 3) - 1))),(.int .i64 ((((nn:Int) % 3) - 1)))] #[(.int .i64 ((((nn:Int)/27) - 1))),(.int .i64 (((((nn:Int)/9) % 3) - 1))),(.int .i64 (((((nn:Int)/3) % 3) - 1))),(.int .i64 ((((nn:Int) % 3) - 1)))] ac hB q12 ⟨rfl,rfl,rfl,rfl,trivial⟩ fun bG ab aZ ac hB=>?_
  refine sq_nil ?_
  refine aE _ _ ?_
  try clear aE aY
  refine wp_seq_k (fun bu ar=>?_)
  generalize bo:((((nn:Int)/27) - 1):Int)=qx0 at*
  generalize aT:(((((nn:Int)/9) % 3) - 1):Int)=qx1 at*
  generalize bf:(((((nn:Int)/3) % 3) - 1):Int)=qx2 at*
  generalize a7:((((nn:Int) % 3) - 1):Int)=qx3 at*
  have bF:-1≤qx0∧qx0≤1:=by omega
  have bz:=sq_le (a:=qx0) (b:=1) (by omega) (by omega)
  have bD:-1≤qx1∧qx1≤1:=by omega
  have bx:=sq_le (a:=qx1) (b:=1) (by omega) (by omega)
  have bN:-1≤qx2∧qx2≤1:=by omega
  have bJ:=sq_le (a:=qx2) (b:=1) (by omega) (by omega)
  have bC:-1≤qx3∧qx3≤1:=by omega
  have bv:=sq_le (a:=qx3) (b:=1) (by omega) (by omega)
  have hqa:qAt nn=(qx0,qx1,qx2,qx3):=by unfold qAt;rw [bo,aT,bf,a7]
  refine rg [0] ?_
  refine sv 4 (.int .i64 0) ?_
  refine sq_nil ?_
  refine ar _ _ ?_
  try clear ar bu
  refine wp_seq_k (fun bb aL=>?_)
  refine wp_seq_k (fun bt aA=>?_)
  refine rg [0,1] ?_
  refine sw 25 (.agg #[(.int .i64 (qx0)),(.int .i64 (qx1)),(.int .i64 (qx2)),(.int .i64 (qx3))]) rfl (rl 22 0 [(.int .i64 (qx0)),(.int .i64 (qx1)),(.int .i64 (qx2)),(.int .i64 (qx3))] ac) ?_
  refine sv 26 (.int .i64 0) ?_
  refine sq_nil ?_
  refine aA _ _ ?_
  try clear aA bt
  refine wp_block ?_
  refine wp_loop_rounds 6 ?_
  show Code.wp _ _ _ _ _
  refine wp_seq_k (fun bj aO=>?_)
  refine rg [0] ?_
  refine sv 27 (.bool true) ?_
  refine sq_nil ?_
  refine aO _ _ ?_
  try clear aO bj
  refine wp_seq_k (fun bg ay=>?_)
  refine wp_cond_true rfl ?_
  refine wp_skip ?_
  refine ay _ _ ?_
  try clear ay bg
  refine wp_seq_k (fun a1 aS=>?_)
  refine wp_block ?_
  refine wp_seq_k (fun a4 aH=>?_)
  refine rg [0,1] ?_
  refine sv 28 (.int .i64 (qx0)) ?_
  refine sv 6 (.int .i64 (qx0)) ?_
  refine sq_nil ?_
  refine aH _ _ ?_
  try clear aH a4
  refine rg [0,1,2,3,4,5] ?_
  refine sv 29 (.int .i64 0) ?_
  refine sv 30 (.int .i64 (qx0)) ?_
  refine sv 31 (.int .i64 (qx0)) ?_
  refine sw 32 (.int .i64 ((qx0*qx0))) rfl (RunV.int (x:=IntKind.i64.wrap ((qx0*qx0))) (y:=(qx0*qx0)) (rvk (by kernel_rfl)) (by first | rfl | (rw [IntKind.wrap_i64];omega))) ?_
  refine sw 33 (.int .i64 ((0+(qx0*qx0)))) rfl (RunV.int (x:=IntKind.i64.wrap ((0+(qx0*qx0)))) (y:=(0+(qx0*qx0))) (rvk (by kernel_rfl)) (by first | rfl | (rw [IntKind.wrap_i64];omega))) ?_
  refine sv 4 (.int .i64 ((0+(qx0*qx0)))) ?_
  refine sq_nil ?_
  refine aS _ _ ?_
  try clear aS a1
  refine rg [0,1] ?_
  refine sv 34 (.int .i64 1) ?_
  refine sv 26 (.int .i64 1) ?_
  refine sq_nil ?_
  show Code.rounds _ _ _ _ _ _
  show Code.wp _ _ _ _ _
  refine wp_seq_k (fun bm aI=>?_)
  refine rg [0] ?_
  refine sv 27 (.bool true) ?_
  refine sq_nil ?_
  refine aI _ _ ?_
  try clear aI bm
  refine wp_seq_k (fun a6 aN=>?_)
  refine wp_cond_true rfl ?_
  refine wp_skip ?_
  refine aN _ _ ?_
  try clear aN a6
  refine wp_seq_k (fun bp aP=>?_)
  refine wp_block ?_
  refine wp_seq_k (fun a9 aM=>?_)
  refine rg [0,1] ?_
  refine sv 28 (.int .i64 (qx1)) ?_
  refine sv 6 (.int .i64 (qx1)) ?_
  refine sq_nil ?_
  refine aM _ _ ?_
  try clear aM a9
  refine rg [0,1,2,3,4,5] ?_
  refine sv 29 (.int .i64 ((0+(qx0*qx0)))) ?_
  refine sv 30 (.int .i64 (qx1)) ?_
  refine sv 31 (.int .i64 (qx1)) ?_
  refine sw 32 (.int .i64 ((qx1*qx1))) rfl (RunV.int (x:=IntKind.i64.wrap ((qx1*qx1))) (y:=(qx1*qx1)) (rvk (by kernel_rfl)) (by first | rfl | (rw [IntKind.wrap_i64];omega))) ?_
  refine sw 33 (.int .i64 (((0+(qx0*qx0))+(qx1*qx1)))) rfl (RunV.int (x:=IntKind.i64.wrap (((0+(qx0*qx0))+(qx1*qx1)))) (y:=((0+(qx0*qx0))+(qx1*qx1))) (rvk (by kernel_rfl)) (by first | rfl | (rw [IntKind.wrap_i64];omega))) ?_
  refine sv 4 (.int .i64 (((0+(qx0*qx0))+(qx1*qx1)))) ?_
  refine sq_nil ?_
  refine aP _ _ ?_
  try clear aP bp
  refine rg [0,1] ?_
  refine sv 34 (.int .i64 2) ?_
  refine sv 26 (.int .i64 2) ?_
  refine sq_nil ?_
  show Code.rounds _ _ _ _ _ _
  show Code.wp _ _ _ _ _
  refine wp_seq_k (fun a0 au=>?_)
  refine rg [0] ?_
  refine sv 27 (.bool true) ?_
  refine sq_nil ?_
  refine au _ _ ?_
  try clear au a0
  refine wp_seq_k (fun ba aQ=>?_)
  refine wp_cond_true rfl ?_
  refine wp_skip ?_
  refine aQ _ _ ?_
  try clear aQ ba
  refine wp_seq_k (fun bk aB=>?_)
  refine wp_block ?_
  refine wp_seq_k (fun bn aR=>?_)
  refine rg [0,1] ?_
  refine sv 28 (.int .i64 (qx2)) ?_
  refine sv 6 (.int .i64 (qx2)) ?_
  refine sq_nil ?_
  refine aR _ _ ?_
  try clear aR bn
  refine rg [0,1,2,3,4,5] ?_
  refine sv 29 (.int .i64 (((0+(qx0*qx0))+(qx1*qx1)))) ?_
  refine sv 30 (.int .i64 (qx2)) ?_
  refine sv 31 (.int .i64 (qx2)) ?_
  refine sw 32 (.int .i64 ((qx2*qx2))) rfl (RunV.int (x:=IntKind.i64.wrap ((qx2*qx2))) (y:=(qx2*qx2)) (rvk (by kernel_rfl)) (by first | rfl | (rw [IntKind.wrap_i64];omega))) ?_
  refine sw 33 (.int .i64 ((((0+(qx0*qx0))+(qx1*qx1))+(qx2*qx2)))) rfl (RunV.int (x:=IntKind.i64.wrap ((((0+(qx0*qx0))+(qx1*qx1))+(qx2*qx2)))) (y:=(((0+(qx0*qx0))+(qx1*qx1))+(qx2*qx2))) (rvk (by kernel_rfl)) (by first | rfl | (rw [IntKind.wrap_i64];omega))) ?_
  refine sv 4 (.int .i64 ((((0+(qx0*qx0))+(qx1*qx1))+(qx2*qx2)))) ?_
  refine sq_nil ?_
  refine aB _ _ ?_
  try clear aB bk
  refine rg [0,1] ?_
  refine sv 34 (.int .i64 3) ?_
  refine sv 26 (.int .i64 3) ?_
  refine sq_nil ?_
  show Code.rounds _ _ _ _ _ _
  show Code.wp _ _ _ _ _
  refine wp_seq_k (fun aV aw=>?_)
  refine rg [0] ?_
  refine sv 27 (.bool true) ?_
  refine sq_nil ?_
  refine aw _ _ ?_
  try clear aw aV
  refine wp_seq_k (fun bq aF=>?_)
  refine wp_cond_true rfl ?_
  refine wp_skip ?_
  refine aF _ _ ?_
  try clear aF bq
  refine wp_seq_k (fun bh aK=>?_)
  refine wp_block ?_
  refine wp_seq_k (fun aX az=>?_)
  refine rg [0,1] ?_
  refine sv 28 (.int .i64 (qx3)) ?_
  refine sv 6 (.int .i64 (qx3)) ?_
  refine sq_nil ?_
  refine az _ _ ?_
  try clear az aX
  refine rg [0,1,2,3,4,5] ?_
  refine sv 29 (.int .i64 ((((0+(qx0*qx0))+(qx1*qx1))+(qx2*qx2)))) ?_
  refine sv 30 (.int .i64 (qx3)) ?_
  refine sv 31 (.int .i64 (qx3)) ?_
  refine sw 32 (.int .i64 ((qx3*qx3))) rfl (RunV.int (x:=IntKind.i64.wrap ((qx3*qx3))) (y:=(qx3*qx3)) (rvk (by kernel_rfl)) (by first | rfl | (rw [IntKind.wrap_i64];omega))) ?_
  refine sw 33 (.int .i64 (((((0+(qx0*qx0))+(qx1*qx1))+(qx2*qx2))+(qx3*qx3)))) rfl (RunV.int (x:=IntKind.i64.wrap (((((0+(qx0*qx0))+(qx1*qx1))+(qx2*qx2))+(qx3*qx3)))) (y:=((((0+(qx0*qx0))+(qx1*qx1))+(qx2*qx2))+(qx3*qx3))) (rvk (by kernel_rfl)) (by first | rfl | (rw [IntKind.wrap_i64];omega))) ?_
  refine sv 4 (.int .i64 (((((0+(qx0*qx0))+(qx1*qx1))+(qx2*qx2))+(qx3*qx3)))) ?_
  refine sq_nil ?_
  refine aK _ _ ?_
  try clear aK bh
  refine rg [0,1] ?_
  refine sv 34 (.int .i64 4) ?_
  refine sv 26 (.int .i64 4) ?_
  refine sq_nil ?_
  show Code.rounds _ _ _ _ _ _
  show Code.wp _ _ _ _ _
  refine wp_seq_k (fun aW ax=>?_)
  refine rg [0] ?_
  refine sv 27 (.bool false) ?_
  refine sq_nil ?_
  refine ax _ _ ?_
  try clear ax aW
  refine wp_seq_k (fun bw bH=>?_)
  refine wp_cond_false rfl ?_
  refine wp_exit ?_
  simp only [Exit.then,Exit.inBlock,↓reduceIte]
  refine aL _ _ ?_
  try clear aL bb
  refine wp_seq_k (fun aD af=>?_)
  refine rg [0,1,2,3,4,5,6,7,8] ?_
  refine sv 35 (.int .i64 (((((0+(qx0*qx0))+(qx1*qx1))+(qx2*qx2))+(qx3*qx3)))) ?_
  refine sv 36 (.bool ((((((0+(qx0*qx0))+(qx1*qx1))+(qx2*qx2))+(qx3*qx3)) !=(3:Int)))) ?_
  rcases Bool.eq_false_or_eq_true ((((((0+(qx0*qx0))+(qx1*qx1))+(qx2*qx2))+(qx3*qx3)) !=(3:Int))) with hb37 | hb37
  ·refine sw 37 (.bool true) rfl (RunV.bool (x:=(((((0+(qx0*qx0))+(qx1*qx1))+(qx2*qx2))+(qx3*qx3)) !=(3:Int))) (rvk (by kernel_rfl)) hb37) ?_
   refine sw 38 (.agg #[(.int .i64 (qx0)),(.int .i64 (qx1)),(.int .i64 (qx2)),(.int .i64 (qx3))]) rfl (rl 22 0 [(.int .i64 (qx0)),(.int .i64 (qx1)),(.int .i64 (qx2)),(.int .i64 (qx3))] ac) ?_
   refine sv 39 (.agg #[(.string ⟨([48]:List UInt8).toArray⟩),(.string ⟨([48]:List UInt8).toArray⟩),(.string ⟨([48]:List UInt8).toArray⟩)]) ?_
   refine sv 40 (.agg #[(.int .i64 (qx0)),(.int .i64 (qx1)),(.int .i64 (qx2)),(.int .i64 (qx3)),(.string ⟨([48]:List UInt8).toArray⟩),(.string ⟨([48]:List UInt8).toArray⟩),(.string ⟨([48]:List UInt8).toArray⟩)]) ?_
   refine se ?_
   refine ec 41 (mcheck0 (q0:=qx0) (q1:=qx1) (q2:=qx2) (q3:=qx3) (by omega) (by omega) (by omega) (by omega) _ (hm.gr hB)) ?_
   rintro bL bE ⟨rfl,ai⟩
   refine ⟨_,rfl,?_⟩
   replace hB:=hB.trans ai
   simp only [p3,p4]
   refine sv 42 (.bool ((chk qx0 qx1 qx2 qx3 0==(0:Int)))) ?_
   refine sv 43 (.bool ((chk qx0 qx1 qx2 qx3 0==(0:Int)))) ?_
   refine sq_nil ?_
   refine af _ _ ?_
   try clear af aD
   refine wp_cond_split (t:=(chk qx0 qx1 qx2 qx3 0==(0:Int))) rfl (fun ad=>?_) (fun ad=>?_)
   ·refine rg [0,1,2,3,4] ?_
    refine sv 44 v ?_
    replace ac:=ac.gr ai
    refine sw 45 (.agg #[(.int .i64 (qx0)),(.int .i64 (qx1)),(.int .i64 (qx2)),(.int .i64 (qx3))]) rfl (rl 22 0 [(.int .i64 (qx0)),(.int .i64 (qx1)),(.int .i64 (qx2)),(.int .i64 (qx3))] ac) ?_
    refine se ?_
    refine eff_bs 22 1 #[(.int .i64 (qx0)),(.int .i64 (qx1)),(.int .i64 (qx2)),(.int .i64 (qx3))] (some 46) rfl (fun _=>by kernel_rfl) (fun a8 bM aC a3 bd=>?_)
    replace hv:=((hv.gr stab_q4 al).st stab_q4 ab aa (ab.kts ae (by decide))).gr stab_q4 ai
    have ah:=hv.ne bd
    replace hB:=hB.trans aC
    simp only [putl,p3,p4]
    refine se ?_
    replace hv:=hv.gr stab_q4 aC
    refine eff_app stab_q4 _ _ 97 22 w.heap.size (.agg #[(.int .i64 0),(.int .i64 0),(.int .i64 0),(.int .i64 0)]) v (qUpto nn) a8 [(.int .i64 (qx0)),(.int .i64 (qx1)),(.int .i64 (qx2)),(.int .i64 (qx3))] ((qx0,qx1,qx2,qx3):Int × Int × Int × Int) 4 1 (some 47) 32 rfl rfl rfl rfl hv a3 ⟨rfl,rfl,rfl,rfl,trivial⟩ rfl rfl w hB (Nat.le_refl _) (Below.size hB) (by have:=qUpto_len nn;simp;omega) (by decide) (by kernel_rfl) (by kernel_rfl) (by decide) (by decide) (fun aG bK aq aU aj=>?_)
    replace hB:=aj
    simp only [putl,p3,p4]
    refine sv 1 aG ?_
    refine sq_nil ?_
    refine k9 _ _ ?_
    try clear k9 K9
    refine rg [0,1] ?_
    refine sw 48 (.int .i64 (((nn:Int)+1))) rfl (RunV.int (x:=IntKind.i64.wrap (((nn:Int)+1))) (y:=((nn:Int)+1)) (rvk (by kernel_rfl)) (by first | rfl | (rw [IntKind.wrap_i64];omega))) ?_
    refine sv 7 (.int .i64 (((nn:Int)+1))) ?_
    refine sq_nil ?_
    refine k5 (81 - (nn+1)) ⟨List.toArray ?l42,[]⟩ _ (by omega) ?_
    exact ⟨aG,nn+1,(fun i=>List.getD ?l42 i undef),rfl,rfl,(by omega),(by rw [qUpto_yes hqa (by unfold qOk qSq;rw [Bool.and_eq_true];exact ⟨hb37,ad⟩)];exact aq),hB⟩
   ·refine wp_skip ?_
    refine k9 _ _ ?_
    try clear k9 K9
    refine rg [0,1] ?_
    refine sw 48 (.int .i64 (((nn:Int)+1))) rfl (RunV.int (x:=IntKind.i64.wrap (((nn:Int)+1))) (y:=((nn:Int)+1)) (rvk (by kernel_rfl)) (by first | rfl | (rw [IntKind.wrap_i64];omega))) ?_
    refine sv 7 (.int .i64 (((nn:Int)+1))) ?_
    refine sq_nil ?_
    replace hv:=((hv.gr stab_q4 al).st stab_q4 ab aa (ab.kts ae (by decide))).gr stab_q4 ai
    refine k5 (81 - (nn+1)) ⟨List.toArray ?l43,[]⟩ _ (by omega) ?_
    exact ⟨v,nn+1,(fun i=>List.getD ?l43 i undef),rfl,rfl,(by omega),(by rw [qUpto_no hqa (by unfold qOk qSq;rw [hb37,ad,Bool.and_false])];exact hv),hB⟩
  ·refine sw 37 (.bool false) rfl (RunV.bool (x:=(((((0+(qx0*qx0))+(qx1*qx1))+(qx2*qx2))+(qx3*qx3)) !=(3:Int))) (rvk (by kernel_rfl)) hb37) ?_
   refine ss 38 ?_
   refine ss 39 ?_
   refine ss 40 ?_
   refine ss 41 ?_
   refine ss 42 ?_
   refine sv 43 (.bool false) ?_
   refine sq_nil ?_
   refine af _ _ ?_
   try clear af aD
   refine wp_cond_false rfl ?_
   refine wp_skip ?_
   refine k9 _ _ ?_
   try clear k9 K9
   refine rg [0,1] ?_
   refine sw 48 (.int .i64 (((nn:Int)+1))) rfl (RunV.int (x:=IntKind.i64.wrap (((nn:Int)+1))) (y:=((nn:Int)+1)) (rvk (by kernel_rfl)) (by first | rfl | (rw [IntKind.wrap_i64];omega))) ?_
   refine sv 7 (.int .i64 (((nn:Int)+1))) ?_
   refine sq_nil ?_
   replace hv:=(hv.gr stab_q4 al).st stab_q4 ab aa (ab.kts ae (by decide))
   refine k5 (81 - (nn+1)) ⟨List.toArray ?l44,[]⟩ _ (by omega) ?_
   exact ⟨v,nn+1,(fun i=>List.getD ?l44 i undef),rfl,rfl,(by omega),(by rw [qUpto_no hqa (by unfold qOk qSq;rw [hb37,Bool.false_and])];exact hv),hB⟩
 ·have hge:nn=81:=by have:=of_decide_eq_false ak;omega
  refine wp_exit ?_
  simp only [Exit.then,Exit.inBlock,↓reduceIte]
  refine k3 _ _ ?_
  try clear k3 K3
  refine wp_seq_k (fun bi aJ=>?_)
  refine rg [0,1] ?_
  refine sv 49 v ?_
  refine sv 0 v ?_
  refine sq_nil ?_
  refine aJ _ _ ?_
  try clear aJ bi
  refine wp_ret ?_
  refine bodyPost_ret (v:=v) (ret_tmp rfl rfl) rfl ⟨?_,hB⟩
  subst hge
  exact ⟨_,rfl,(hv.sl)⟩

end Go.Proofs.YtaldbfflkpgfoaaGreatDoor
/- Printed by a program of the prover's:the examples of chapter 07. -/
namespace Go.Proofs.YtaldbfflkpgfoaaGreatDoor
open Go.RowKit

set_option maxRecDepth 100000 in
set_option maxHeartbeats 1000000 in
theorem zero7 (w:World):
    Calls Tryz.prog 20 #[] w fun e w'=>e=.returned (.agg #[.string ⟨([48]:List UInt8).toArray⟩,.string ⟨([48]:List UInt8).toArray⟩,.string ⟨([48]:List UInt8).toArray⟩])∧Gr w w':=by
 go_enter Tryz.func20,Tryz.ntmps20
 have hB:=Gr.refl w
 refine wp_seq_k (fun K1 k1=>?_)
 refine rg [0] ?_
 refine se ?_
 refine ea 25 #[(.string ⟨([]:List UInt8).toArray⟩),(.string ⟨([]:List UInt8).toArray⟩),(.string ⟨([]:List UInt8).toArray⟩)] 0 hB fun b2 w2 g2 L2 o2 q2 hB=>?_
 simp only [p3]
 refine sq_nil ?_
 refine k1 _ _ ?_
 try clear k1 K1
 refine wp_seq_k (fun K3 k3=>?_)
 refine rg [0,1] ?_
 refine sv 1 (.agg #[(.string ⟨([48]:List UInt8).toArray⟩),(.string ⟨([48]:List UInt8).toArray⟩),(.string ⟨([48]:List UInt8).toArray⟩)]) ?_
 refine se ?_
 refine es 25 0 (.agg #[(.string ⟨([48]:List UInt8).toArray⟩),(.string ⟨([48]:List UInt8).toArray⟩),(.string ⟨([48]:List UInt8).toArray⟩)]) [(.string ⟨([48]:List UInt8).toArray⟩),(.string ⟨([48]:List UInt8).toArray⟩),(.string ⟨([48]:List UInt8).toArray⟩)] #[(.string ⟨([48]:List UInt8).toArray⟩),(.string ⟨([48]:List UInt8).toArray⟩),(.string ⟨([48]:List UInt8).toArray⟩)] L2 hB q2 ⟨rfl,rfl,rfl,trivial⟩ fun w4 aa ab L2 hB=>?_
 refine sq_nil ?_
 refine k3 _ _ ?_
 try clear k3 K3
 refine wp_ret ?_
 refine bodyPost_ret (v:=(.agg #[(.string ⟨([48]:List UInt8).toArray⟩),(.string ⟨([48]:List UInt8).toArray⟩),(.string ⟨([48]:List UInt8).toArray⟩)])) (ret_cell _ _ _ rfl rfl L2 (by kernel_rfl)) rfl ⟨?_,hB⟩
 exact rfl

theorem lawK70:sEq [(ratL ((0:Rat))),(ratL ((1:Rat))),(ratL ((0:Rat)))] [([48]:List UInt8),([49]:List UInt8),([48]:List UInt8)]=true:=sEq_lit (ratL_litw (by kernel_rfl) (itoa_litp 0 (by kernel_rfl) (by decide))) (ratL_litw (by kernel_rfl) (itoa_litp 1 (by kernel_rfl) (by decide))) (ratL_litw (by kernel_rfl) (itoa_litp 0 (by kernel_rfl) (by decide)))
theorem lawK71:sEq [(ratL ((0:Rat))),(ratL ((3/5:Rat))),(ratL ((-4/5:Rat)))] [([48]:List UInt8),([51,47,53]:List UInt8),([45,52,47,53]:List UInt8)]=true:=sEq_lit (ratL_litw (by kernel_rfl) (itoa_litp 0 (by kernel_rfl) (by decide))) (ratL_litf (by kernel_rfl) (itoa_litp 3 (by kernel_rfl) (by decide)) (itoa_litp 5 (by kernel_rfl) (by decide)) rfl) (ratL_litf (by kernel_rfl) (itoa_litn 4 (by kernel_rfl) (by decide) (by decide)) (itoa_litp 5 (by kernel_rfl) (by decide)) rfl)
theorem lawK72:((((quarters).length:Int)==(24:Int)))=true:=by decide+kernel
theorem lawK73:((((quarters).getD 1 (0,0,0,0)).1==0&&((quarters).getD 1 (0,0,0,0)).2.1==0&&((quarters).getD 1 (0,0,0,0)).2.2.1==1&&((quarters).getD 1 (0,0,0,0)).2.2.2==(-1)))=true:=by decide+kernel
set_option maxRecDepth 100000 in
set_option maxHeartbeats 8000000 in
theorem known7 (w:World) (ht:Tab w) (hm:Mx w):
    Calls Tryz.prog 11 #[] w fun e w'=>e=.returned (.bool true)∧Gr w w':=by
 go_enter Tryz.func11,Tryz.ntmps11
 have hB:=Gr.refl w
 refine wp_seq_k (fun K1 k1=>?_)
 refine rg [0] ?_
 refine sv 0 (.bool false) ?_
 refine sq_nil ?_
 refine k1 _ _ ?_
 try clear k1 K1
 refine wp_seq_k (fun K2 k2=>?_)
 refine rg [0,1,2,3,4,5,6,7,8,9] ?_
 refine sv 11 (.agg #[(.int .i64 1),(.int .i64 0),(.int .i64 0),(.int .i64 1)]) ?_
 refine se ?_
 refine ec 12 (zero7 _) ?_
 rintro e3 w3 ⟨rfl,g3⟩
 refine ⟨_,rfl,?_⟩
 replace hB:=hB.trans g3
 simp only [p3,p4]
 refine sv 13 (.agg #[(.int .i64 1),(.int .i64 0),(.int .i64 0),(.int .i64 1),(.string ⟨([48]:List UInt8).toArray⟩),(.string ⟨([48]:List UInt8).toArray⟩),(.string ⟨([48]:List UInt8).toArray⟩)]) ?_
 refine se ?_
 refine ec 14 (mof_k1 _ (hm.gr hB) (ht.gr hB)) ?_
 rintro e4 w4 ⟨⟨bL,bM,bP,bH,bG,bK,bO,bN,bJ,bQ,aL,aw,aN,aO,aj,aH,aM,aC,aT,aJ,aW,aY,aG,a3,aP,af,aS,aR,ah,aF,a4,ae,au,ak,a1,az,al,aU,aB,ax,ai,ab,aV,aI,ac,aq,ar,a2,rfl,b8,bZ,b4,b9,bW,bY,bT,bU,bV,b6,a8,a9⟩,g4⟩
 refine ⟨_,rfl,?_⟩
 replace hB:=hB.trans g4
 simp only [p3,p4]
 refine sv 10 (.tuple #[(.agg #[bL,bM,bP,bH,bG,bK,bO,bN,bJ,bQ,aL,aw,aN,aO,aj,aH,aM,aC,aT,aJ,aW,aY,aG,a3,aP,af,aS,aR,ah,aF,a4,ae,au,ak,a1,az,al,aU,aB,ax,ai,ab,aV,aI,ac,aq,ar,a2]),(.int .i64 0)]) ?_
 refine sv 15 (.agg #[bL,bM,bP,bH,bG,bK,bO,bN,bJ,bQ,aL,aw,aN,aO,aj,aH,aM,aC,aT,aJ,aW,aY,aG,a3,aP,af,aS,aR,ah,aF,a4,ae,au,ak,a1,az,al,aU,aB,ax,ai,ab,aV,aI,ac,aq,ar,a2]) ?_
 refine sv 16 (.int .i64 0) ?_
 refine se ?_
 refine ea 41 #[(.bool false),(.slice none 0 0),(.bool false),(.slice none 0 0),(.bool false),(.slice none 0 0),(.bool false),(.slice none 0 0),(.bool false),(.slice none 0 0),(.bool false),(.slice none 0 0),(.bool false),(.slice none 0 0),(.bool false),(.slice none 0 0),(.bool false),(.slice none 0 0),(.bool false),(.slice none 0 0),(.bool false),(.slice none 0 0),(.bool false),(.slice none 0 0),(.bool false),(.slice none 0 0),(.bool false),(.slice none 0 0),(.bool false),(.slice none 0 0),(.bool false),(.slice none 0 0),(.bool false),(.slice none 0 0),(.bool false),(.slice none 0 0),(.bool false),(.slice none 0 0),(.bool false),(.slice none 0 0),(.bool false),(.slice none 0 0),(.bool false),(.slice none 0 0),(.bool false),(.slice none 0 0),(.bool false),(.slice none 0 0)] 1 hB fun b5 w5 g5 L5 o5 q5 hB=>?_
 simp only [p3,p4]
 refine se ?_
 have et:=L5
 refine es 41 0 (.agg #[bL,bM,bP,bH,bG,bK,bO,bN,bJ,bQ,aL,aw,aN,aO,aj,aH,aM,aC,aT,aJ,aW,aY,aG,a3,aP,af,aS,aR,ah,aF,a4,ae,au,ak,a1,az,al,aU,aB,ax,ai,ab,aV,aI,ac,aq,ar,a2]) [bL,bM,bP,bH,bG,bK,bO,bN,bJ,bQ,aL,aw,aN,aO,aj,aH,aM,aC,aT,aJ,aW,aY,aG,a3,aP,af,aS,aR,ah,aF,a4,ae,au,ak,a1,az,al,aU,aB,ax,ai,ab,aV,aI,ac,aq,ar,a2] #[bL,bM,bP,bH,bG,bK,bO,bN,bJ,bQ,aL,aw,aN,aO,aj,aH,aM,aC,aT,aJ,aW,aY,aG,a3,aP,af,aS,aR,ah,aF,a4,ae,au,ak,a1,az,al,aU,aB,ax,ai,ab,aV,aI,ac,aq,ar,a2] L5 hB q5 ⟨b8.one0,b8.one1,b8.one2,b8.one3,bZ.one0,bZ.one1,bZ.one2,bZ.one3,b4.one0,b4.one1,b4.one2,b4.one3,b9.one0,b9.one1,b9.one2,b9.one3,bW.one0,bW.one1,bW.one2,bW.one3,bY.one0,bY.one1,bY.one2,bY.one3,bT.one0,bT.one1,bT.one2,bT.one3,bU.one0,bU.one1,bU.one2,bU.one3,bV.one0,bV.one1,bV.one2,bV.one3,b6.one0,b6.one1,b6.one2,b6.one3,a8.one0,a8.one1,a8.one2,a8.one3,a9.one0,a9.one1,a9.one2,a9.one3,trivial⟩ fun w6 eu d2 L5 hB=>?_
 refine sv 2 (.int .i64 0) ?_
 refine sq_nil ?_
 refine k2 _ _ ?_
 try clear k2 K2
 refine wp_seq_k (fun K7 k7=>?_)
 refine rg [0,1,2,3,4,5,6,7,8,9] ?_
 refine sv 18 (.agg #[(.int .i64 2),(.int .i64 1),(.int .i64 0),(.int .i64 0)]) ?_
 refine se ?_
 refine ec 19 (zero7 _) ?_
 rintro e8 w8 ⟨rfl,g8⟩
 refine ⟨_,rfl,?_⟩
 replace hB:=hB.trans g8
 simp only [p3,p4]
 refine sv 20 (.agg #[(.int .i64 2),(.int .i64 1),(.int .i64 0),(.int .i64 0),(.string ⟨([48]:List UInt8).toArray⟩),(.string ⟨([48]:List UInt8).toArray⟩),(.string ⟨([48]:List UInt8).toArray⟩)]) ?_
 refine se ?_
 refine ec 21 (mof_k2 _ (hm.gr hB) (ht.gr hB)) ?_
 rintro e9 w9 ⟨⟨cm,ce,cn,co,cl,cg,cd,ch,ck,cj,bt,bb,a0,av,ay,aQ,aE,aX,ad,a5,aD,aK,aA,aZ,bD,bC,bv,bx,bz,bo,bm,bw,bc,bj,bf,bq,bg,bA,bk,bB,bF,bu,bp,bE,bh,bn,bi,bd,rfl,ct,cq,cx,bX,bR,bS,cE,cD,cA,cy,cc,ca⟩,g9⟩
 refine ⟨_,rfl,?_⟩
 replace hB:=hB.trans g9
 simp only [p3,p4]
 refine sv 17 (.tuple #[(.agg #[cm,ce,cn,co,cl,cg,cd,ch,ck,cj,bt,bb,a0,av,ay,aQ,aE,aX,ad,a5,aD,aK,aA,aZ,bD,bC,bv,bx,bz,bo,bm,bw,bc,bj,bf,bq,bg,bA,bk,bB,bF,bu,bp,bE,bh,bn,bi,bd]),(.int .i64 0)]) ?_
 refine sv 22 (.agg #[cm,ce,cn,co,cl,cg,cd,ch,ck,cj,bt,bb,a0,av,ay,aQ,aE,aX,ad,a5,aD,aK,aA,aZ,bD,bC,bv,bx,bz,bo,bm,bw,bc,bj,bf,bq,bg,bA,bk,bB,bF,bu,bp,bE,bh,bn,bi,bd]) ?_
 refine sv 23 (.int .i64 0) ?_
 refine se ?_
 refine ea 41 #[(.bool false),(.slice none 0 0),(.bool false),(.slice none 0 0),(.bool false),(.slice none 0 0),(.bool false),(.slice none 0 0),(.bool false),(.slice none 0 0),(.bool false),(.slice none 0 0),(.bool false),(.slice none 0 0),(.bool false),(.slice none 0 0),(.bool false),(.slice none 0 0),(.bool false),(.slice none 0 0),(.bool false),(.slice none 0 0),(.bool false),(.slice none 0 0),(.bool false),(.slice none 0 0),(.bool false),(.slice none 0 0),(.bool false),(.slice none 0 0),(.bool false),(.slice none 0 0),(.bool false),(.slice none 0 0),(.bool false),(.slice none 0 0),(.bool false),(.slice none 0 0),(.bool false),(.slice none 0 0),(.bool false),(.slice none 0 0),(.bool false),(.slice none 0 0),(.bool false),(.slice none 0 0),(.bool false),(.slice none 0 0)] 3 hB fun dk eD dn a7 dW d0 hB=>?_
 replace L5:=L5.gr (g8.trans g9)
 have cO:=L5.ne dW
 simp only [p3,p4]
 refine se ?_
 have dZ:=a7
 refine es 41 0 (.agg #[cm,ce,cn,co,cl,cg,cd,ch,ck,cj,bt,bb,a0,av,ay,aQ,aE,aX,ad,a5,aD,aK,aA,aZ,bD,bC,bv,bx,bz,bo,bm,bw,bc,bj,bf,bq,bg,bA,bk,bB,bF,bu,bp,bE,bh,bn,bi,bd]) [cm,ce,cn,co,cl,cg,cd,ch,ck,cj,bt,bb,a0,av,ay,aQ,aE,aX,ad,a5,aD,aK,aA,aZ,bD,bC,bv,bx,bz,bo,bm,bw,bc,bj,bf,bq,bg,bA,bk,bB,bF,bu,bp,bE,bh,bn,bi,bd] #[cm,ce,cn,co,cl,cg,cd,ch,ck,cj,bt,bb,a0,av,ay,aQ,aE,aX,ad,a5,aD,aK,aA,aZ,bD,bC,bv,bx,bz,bo,bm,bw,bc,bj,bf,bq,bg,bA,bk,bB,bF,bu,bp,bE,bh,bn,bi,bd] a7 hB d0 ⟨ct.one0,ct.one1,ct.one2,ct.one3,cq.one0,cq.one1,cq.one2,cq.one3,cx.one0,cx.one1,cx.one2,cx.one3,bX.one0,bX.one1,bX.one2,bX.one3,bR.one0,bR.one1,bR.one2,bR.one3,bS.one0,bS.one1,bS.one2,bS.one3,cE.one0,cE.one1,cE.one2,cE.one3,cD.one0,cD.one1,cD.one2,cD.one3,cA.one0,cA.one1,cA.one2,cA.one3,cy.one0,cy.one1,cy.one2,cy.one3,cc.one0,cc.one1,cc.one2,cc.one3,ca.one0,ca.one1,ca.one2,ca.one3,trivial⟩ fun eo du c7 a7 hB=>?_
 refine sv 4 (.int .i64 0) ?_
 refine sq_nil ?_
 refine k7 _ _ ?_
 try clear k7 K7
 refine wp_seq_k (fun ed dI=>?_)
 refine rg [0,1,2,3,4,5,6,7,8,9,10,11,12] ?_
 refine sv 25 (.agg #[(.int .i64 1),(.int .i64 0),(.int .i64 0),(.int .i64 1)]) ?_
 refine se ?_
 refine ec 26 (zero7 _) ?_
 rintro e13 ew ⟨rfl,cY⟩
 refine ⟨_,rfl,?_⟩
 replace hB:=hB.trans cY
 simp only [p3,p4]
 refine sv 27 (.agg #[(.int .i64 1),(.int .i64 0),(.int .i64 0),(.int .i64 1),(.string ⟨([48]:List UInt8).toArray⟩),(.string ⟨([48]:List UInt8).toArray⟩),(.string ⟨([48]:List UInt8).toArray⟩)]) ?_
 refine sv 28 (.agg #[(.int .i64 1),(.int .i64 0),(.int .i64 0),(.int .i64 1)]) ?_
 refine se ?_
 refine ec 29 (zero7 _) ?_
 rintro eC ep ⟨rfl,c4⟩
 refine ⟨_,rfl,?_⟩
 replace hB:=hB.trans c4
 simp only [p3,p4]
 refine sv 30 (.agg #[(.int .i64 1),(.int .i64 0),(.int .i64 0),(.int .i64 1),(.string ⟨([48]:List UInt8).toArray⟩),(.string ⟨([48]:List UInt8).toArray⟩),(.string ⟨([48]:List UInt8).toArray⟩)]) ?_
 refine se ?_
 refine ec 31 (join_k1 _ (hm.gr hB) (ht.gr hB)) ?_
 rintro eA ex ⟨rfl,dc⟩
 refine ⟨_,rfl,?_⟩
 replace hB:=hB.trans dc
 simp only [p3,p4]
 refine sv 24 (.tuple #[(.agg #[(.int .i64 0),(.int .i64 0),(.int .i64 0),(.int .i64 1),(.string ⟨([48]:List UInt8).toArray⟩),(.string ⟨([48]:List UInt8).toArray⟩),(.string ⟨([48]:List UInt8).toArray⟩)]),(.int .i64 0)]) ?_
 refine sv 32 (.agg #[(.int .i64 0),(.int .i64 0),(.int .i64 0),(.int .i64 1),(.string ⟨([48]:List UInt8).toArray⟩),(.string ⟨([48]:List UInt8).toArray⟩),(.string ⟨([48]:List UInt8).toArray⟩)]) ?_
 refine sv 33 (.int .i64 0) ?_
 refine se ?_
 refine ea 27 #[(.int .i64 0),(.int .i64 0),(.int .i64 0),(.int .i64 0),(.string ⟨([]:List UInt8).toArray⟩),(.string ⟨([]:List UInt8).toArray⟩),(.string ⟨([]:List UInt8).toArray⟩)] 5 hB fun dV ej dd ba dM d1 hB=>?_
 replace L5:=(du.lc (L5.gr dn) cO).gr (cY.trans (c4.trans dc))
 have cN:=L5.ne dM
 replace a7:=a7.gr (cY.trans (c4.trans dc))
 have cu:=a7.ne dM
 simp only [p3,p4]
 refine se ?_
 have d4:=ba
 refine es 27 0 (.agg #[(.int .i64 0),(.int .i64 0),(.int .i64 0),(.int .i64 1),(.string ⟨([48]:List UInt8).toArray⟩),(.string ⟨([48]:List UInt8).toArray⟩),(.string ⟨([48]:List UInt8).toArray⟩)]) [(.int .i64 0),(.int .i64 0),(.int .i64 0),(.int .i64 1),(.string ⟨([48]:List UInt8).toArray⟩),(.string ⟨([48]:List UInt8).toArray⟩),(.string ⟨([48]:List UInt8).toArray⟩)] #[(.int .i64 0),(.int .i64 0),(.int .i64 0),(.int .i64 1),(.string ⟨([48]:List UInt8).toArray⟩),(.string ⟨([48]:List UInt8).toArray⟩),(.string ⟨([48]:List UInt8).toArray⟩)] ba hB d1 ⟨rfl,rfl,rfl,rfl,rfl,rfl,rfl,trivial⟩ fun ei c6 cZ ba hB=>?_
 refine sv 6 (.int .i64 0) ?_
 refine sq_nil ?_
 refine dI _ _ ?_
 try clear dI ed
 refine wp_seq_k (fun d5 dQ=>?_)
 refine rg [0,1,2,3,4,5,6,7,8,9,10,11,12] ?_
 refine sv 35 (.agg #[(.int .i64 12),(.int .i64 1),(.int .i64 0),(.int .i64 0)]) ?_
 refine se ?_
 refine ec 36 (zero7 _) ?_
 rintro eF eg ⟨rfl,cV⟩
 refine ⟨_,rfl,?_⟩
 replace hB:=hB.trans cV
 simp only [p3,p4]
 refine sv 37 (.agg #[(.int .i64 12),(.int .i64 1),(.int .i64 0),(.int .i64 0),(.string ⟨([48]:List UInt8).toArray⟩),(.string ⟨([48]:List UInt8).toArray⟩),(.string ⟨([48]:List UInt8).toArray⟩)]) ?_
 refine sv 38 (.agg #[(.int .i64 12),(.int .i64 1),(.int .i64 0),(.int .i64 0)]) ?_
 refine se ?_
 refine ec 39 (zero7 _) ?_
 rintro eI eJ ⟨rfl,cS⟩
 refine ⟨_,rfl,?_⟩
 replace hB:=hB.trans cS
 simp only [p3,p4]
 refine sv 40 (.agg #[(.int .i64 12),(.int .i64 1),(.int .i64 0),(.int .i64 0),(.string ⟨([48]:List UInt8).toArray⟩),(.string ⟨([48]:List UInt8).toArray⟩),(.string ⟨([48]:List UInt8).toArray⟩)]) ?_
 refine se ?_
 refine ec 41 (join_k2 _ (hm.gr hB) (ht.gr hB)) ?_
 rintro e21 en ⟨rfl,cU⟩
 refine ⟨_,rfl,?_⟩
 replace hB:=hB.trans cU
 simp only [p3,p4]
 refine sv 34 (.tuple #[(.agg #[(.int .i64 0),(.int .i64 0),(.int .i64 0),(.int .i64 0),(.string ⟨([]:List UInt8).toArray⟩),(.string ⟨([]:List UInt8).toArray⟩),(.string ⟨([]:List UInt8).toArray⟩)]),(.int .i64 2)]) ?_
 refine sv 42 (.agg #[(.int .i64 0),(.int .i64 0),(.int .i64 0),(.int .i64 0),(.string ⟨([]:List UInt8).toArray⟩),(.string ⟨([]:List UInt8).toArray⟩),(.string ⟨([]:List UInt8).toArray⟩)]) ?_
 refine sv 43 (.int .i64 2) ?_
 refine se ?_
 refine ea 27 #[(.int .i64 0),(.int .i64 0),(.int .i64 0),(.int .i64 0),(.string ⟨([]:List UInt8).toArray⟩),(.string ⟨([]:List UInt8).toArray⟩),(.string ⟨([]:List UInt8).toArray⟩)] 7 hB fun em eE cX dl dj dX hB=>?_
 replace L5:=(c6.lc (L5.gr dd) cN).gr (cV.trans (cS.trans cU))
 have cK:=L5.ne dj
 replace a7:=(c6.lc (a7.gr dd) cu).gr (cV.trans (cS.trans cU))
 have cC:=a7.ne dj
 replace ba:=ba.gr (cV.trans (cS.trans cU))
 have cB:=ba.ne dj
 simp only [p3,p4]
 refine se ?_
 have d8:=dl
 refine es 27 0 (.agg #[(.int .i64 0),(.int .i64 0),(.int .i64 0),(.int .i64 0),(.string ⟨([]:List UInt8).toArray⟩),(.string ⟨([]:List UInt8).toArray⟩),(.string ⟨([]:List UInt8).toArray⟩)]) [(.int .i64 0),(.int .i64 0),(.int .i64 0),(.int .i64 0),(.string ⟨([]:List UInt8).toArray⟩),(.string ⟨([]:List UInt8).toArray⟩),(.string ⟨([]:List UInt8).toArray⟩)] #[(.int .i64 0),(.int .i64 0),(.int .i64 0),(.int .i64 0),(.string ⟨([]:List UInt8).toArray⟩),(.string ⟨([]:List UInt8).toArray⟩),(.string ⟨([]:List UInt8).toArray⟩)] dl hB dX ⟨rfl,rfl,rfl,rfl,rfl,rfl,rfl,trivial⟩ fun ef cM da dl hB=>?_
 refine sv 8 (.int .i64 2) ?_
 refine sq_nil ?_
 refine dQ _ _ ?_
 try clear dQ d5
 refine wp_seq_k (fun d7 dR=>?_)
 refine rg [0,1] ?_
 refine se ?_
 refine ec 44 (mquarters _ (hm.gr hB)) ?_
 rintro ee d6 ⟨⟨c8,rfl,cP⟩,cT⟩
 refine ⟨_,rfl,?_⟩
 replace hB:=hB.trans cT
 simp only [p3,p4]
 refine sv 9 c8 ?_
 refine sq_nil ?_
 refine dR _ _ ?_
 try clear dR d7
 refine wp_seq_k (fun dY dw=>?_)
 obtain ⟨_,_,rfl,aa⟩:=cP.get (by decide) (getD_some (d:=((0,0,0,0):Int × Int × Int × Int)) (i:=1) (xs:=quarters) (by rw [quarters_len];omega))
 have b7:=Gr.drew d6
 replace hB:=hB.trans b7
 replace L5:=(cM.lc (L5.gr cX) cK).gr (cT.trans b7)
 replace a7:=(cM.lc (a7.gr cX) cC).gr (cT.trans b7)
 replace ba:=(cM.lc (ba.gr cX) cB).gr (cT.trans b7)
 replace aa:=aa.gr b7
 refine wp_region_ord (fun w'=>Lc w' b5 #[bL,bM,bP,bH,bG,bK,bO,bN,bJ,bQ,aL,aw,aN,aO,aj,aH,aM,aC,aT,aJ,aW,aY,aG,a3,aP,af,aS,aR,ah,aF,a4,ae,au,ak,a1,az,al,aU,aB,ax,ai,ab,aV,aI,ac,aq,ar,a2] 41∧Lc w' dk #[cm,ce,cn,co,cl,cg,cd,ch,ck,cj,bt,bb,a0,av,ay,aQ,aE,aX,ad,a5,aD,aK,aA,aZ,bD,bC,bv,bx,bz,bo,bm,bw,bc,bj,bf,bq,bg,bA,bk,bB,bF,bu,bp,bE,bh,bn,bi,bd] 41∧Lc w' dV #[(.int .i64 0),(.int .i64 0),(.int .i64 0),(.int .i64 1),(.string ⟨([48]:List UInt8).toArray⟩),(.string ⟨([48]:List UInt8).toArray⟩),(.string ⟨([48]:List UInt8).toArray⟩)] 27∧AtV w' c8 (1*4) [(.int .i64 (((quarters).getD 1 (0,0,0,0)).1)),(.int .i64 (((quarters).getD 1 (0,0,0,0)).2.1)),(.int .i64 (((quarters).getD 1 (0,0,0,0)).2.2.1)),(.int .i64 (((quarters).getD 1 (0,0,0,0)).2.2.2))]) [(true,0),(true,1),(true,2),(true,3),(true,4),(true,5),(true,6),(true,7),(true,8),(true,9),(true,10),(true,11),(true,12),(true,13),(true,14),(true,15),(true,16),(true,20),(false,17),(false,18),(false,19),(true,21),(true,22),(true,23),(true,24),(true,25),(true,26),(true,28),(false,27),(true,29),(true,30),(true,31),(true,32),(true,33),(true,34),(true,35),(true,36),(true,37),(true,38),(true,39),(true,40),(true,41),(true,42),(true,43),(true,44),(true,45),(true,46),(true,47),(true,48),(true,49)] (by kernel_rfl) (by kernel_rfl) (by kernel_rfl) (by decide) (fun _ _ _ _ _ h=>h) ⟨L5,a7,ba,aa⟩ ?_
 refine ov 45 (.int .i64 0) ?_
 refine ov 46 (.bool true) ?_
 refine ov 47 (.bool true) ?_
 refine ov 48 (.int .i64 0) ?_
 refine ov 49 (.bool true) ?_
 refine ov 50 (.bool true) ?_
 refine ov 51 (.bool true) ?_
 refine ov 52 (.int .i64 0) ?_
 refine ov 53 (.bool true) ?_
 refine ov 54 (.bool true) ?_
 refine ov 55 (.bool true) ?_
 refine ov 56 (.int .i64 2) ?_
 refine ov 57 (.bool true) ?_
 refine ov 58 (.bool true) ?_
 refine ov 59 (.bool true) ?_
 refine ow 60 (.agg #[bL,bM,bP,bH,bG,bK,bO,bN,bJ,bQ,aL,aw,aN,aO,aj,aH,aM,aC,aT,aJ,aW,aY,aG,a3,aP,af,aS,aR,ah,aF,a4,ae,au,ak,a1,az,al,aU,aB,ax,ai,ab,aV,aI,ac,aq,ar,a2]) rfl (fun w' hS=>(rl 41 0 [bL,bM,bP,bH,bG,bK,bO,bN,bJ,bQ,aL,aw,aN,aO,aj,aH,aM,aC,aT,aJ,aW,aY,aG,a3,aP,af,aS,aR,ah,aF,a4,ae,au,ak,a1,az,al,aU,aB,ax,ai,ab,aV,aI,ac,aq,ar,a2] hS.1)) ?_
 refine ov 61 (.agg #[(.int .i64 1),(.int .i64 0),(.int .i64 0)]) ?_
 refine ov 65 (.agg #[(.string ⟨([48]:List UInt8).toArray⟩),(.string ⟨([49]:List UInt8).toArray⟩),(.string ⟨([48]:List UInt8).toArray⟩)]) ?_
 refine oe ?_
 refine ec 62 (vof_v (1) (0) (0) (by omega) (by omega) (by omega) _) ?_
 rintro ek el ⟨⟨dO,dv,dE,dB,dU,dJ,dK,dS,dN,dG,dh,dt,rfl,db,c5,cW⟩,cJ⟩
 refine ⟨_,rfl,?_⟩
 replace hB:=hB.trans cJ
 rw [show ((((1:Int):Rat)):Rat)=(1:Rat) from by kernel_rfl] at db
 rw [show ((((0:Int):Rat)):Rat)=(0:Rat) from by kernel_rfl] at c5
 rw [show ((((0:Int):Rat)):Rat)=(0:Rat) from by kernel_rfl] at cW
 replace L5:=L5.gr cJ
 replace a7:=a7.gr cJ
 replace ba:=ba.gr cJ
 replace aa:=aa.gr cJ
 refine ⟨⟨L5,a7,ba,aa⟩,?_⟩
 simp only [p3,p4]
 refine oe ?_
 have a6:=g5.kp.trans (d2.trans (g8.kp.trans (g9.kp.trans (dn.kp.trans (c7.trans (cY.kp.trans (c4.kp.trans (dc.kp.trans (dd.kp.trans (cZ.trans (cV.kp.trans (cS.kp.trans (cU.kp.trans (cX.kp.trans (da.trans (cT.kp.trans (b7.kp.trans cJ.kp)))))))))))))))))
 replace b8:=b8.kp a6
 replace bZ:=bZ.kp a6
 replace b4:=b4.kp a6
 replace b9:=b9.kp a6
 replace bW:=bW.kp a6
 replace bY:=bY.kp a6
 replace bT:=bT.kp a6
 replace bU:=bU.kp a6
 replace bV:=bV.kp a6
 replace b6:=b6.kp a6
 replace a8:=a8.kp a6
 replace a9:=a9.kp a6
 refine ec 63 (mapply64 b8 bZ b4 b9 bW bY bT bU bV b6 a8 a9 db c5 cW (ht.gr hB) (hm.gr hB)) ?_
 rintro eG eh ⟨⟨dD,dL,dC,dy,dA,dF,dT,dH,dx,dP,de,dm,rfl,cH,cF,cG⟩,cQ⟩
 refine ⟨_,rfl,?_⟩
 replace hB:=hB.trans cQ
 rw [show (((0+(0:Rat)*(1:Rat)+(-1:Rat)*(0:Rat)+(0:Rat)*(0:Rat))+(0:Rat)):Rat)=(0:Rat) from by kernel_rfl] at cH
 rw [show (((0+(1:Rat)*(1:Rat)+(0:Rat)*(0:Rat)+(0:Rat)*(0:Rat))+(0:Rat)):Rat)=(1:Rat) from by kernel_rfl] at cF
 rw [show (((0+(0:Rat)*(1:Rat)+(0:Rat)*(0:Rat)+(1:Rat)*(0:Rat))+(0:Rat)):Rat)=(0:Rat) from by kernel_rfl] at cG
 replace L5:=L5.gr cQ
 replace a7:=a7.gr cQ
 replace ba:=ba.gr cQ
 replace aa:=aa.gr cQ
 refine ⟨⟨L5,a7,ba,aa⟩,?_⟩
 simp only [p3,p4]
 refine oe ?_
 refine ec 64 (vpoint_v cH cF cG (by omega) (ht.gr hB)) ?_
 rintro eB ey ⟨rfl,cR⟩
 refine ⟨_,rfl,?_⟩
 replace hB:=hB.trans cR
 replace L5:=L5.gr cR
 replace a7:=a7.gr cR
 replace ba:=ba.gr cR
 replace aa:=aa.gr cR
 refine ⟨⟨L5,a7,ba,aa⟩,?_⟩
 simp only [p3,p4]
 have dp:(sEq [(ratL ((0:Rat))),(ratL ((1:Rat))),(ratL ((0:Rat)))] [([48]:List UInt8),([49]:List UInt8),([48]:List UInt8)])=true:=(lawK70)
 refine ow 66 (.bool true) rfl (fun w' hS=>(RunV.bool (x:=sEq [(ratL ((0:Rat))),(ratL ((1:Rat))),(ratL ((0:Rat)))] [([48]:List UInt8),([49]:List UInt8),([48]:List UInt8)]) (rv_ssq 25 25 23 _ _ [(ratL ((0:Rat))),(ratL ((1:Rat))),(ratL ((0:Rat)))] [([48]:List UInt8),([49]:List UInt8),([48]:List UInt8)] rfl rfl rfl (by kernel_rfl) (by kernel_rfl) (by kernel_rfl)) dp)) ?_
 refine ov 67 (.bool true) ?_
 refine ov 68 (.bool true) ?_
 refine ov 69 (.pointer (some ⟨dk,0,none⟩)) ?_
 refine ov 70 (.pointer (some ⟨dk,12,none⟩)) ?_
 refine ow 71 (.agg #[a0,av,ay,aQ,aE,aX,ad,a5,aD,aK,aA,aZ]) rfl (fun w' hS=>(rl 38 12 [a0,av,ay,aQ,aE,aX,ad,a5,aD,aK,aA,aZ] hS.2.1)) ?_
 refine ov 73 (.agg #[(.string ⟨([48]:List UInt8).toArray⟩),(.string ⟨([51,47,53]:List UInt8).toArray⟩),(.string ⟨([45,52,47,53]:List UInt8).toArray⟩)]) ?_
 refine oe ?_
 have cL:=dn.kp.trans (c7.trans (cY.kp.trans (c4.kp.trans (dc.kp.trans (dd.kp.trans (cZ.trans (cV.kp.trans (cS.kp.trans (cU.kp.trans (cX.kp.trans (da.trans (cT.kp.trans (b7.kp.trans (cJ.kp.trans (cQ.kp.trans cR.kp)))))))))))))))
 replace bX:=bX.kp cL
 replace bR:=bR.kp cL
 replace bS:=bS.kp cL
 refine ec 72 (vpoint_v bX bR bS (by omega) (ht.gr hB)) ?_
 rintro ez eH ⟨rfl,c9⟩
 refine ⟨_,rfl,?_⟩
 replace hB:=hB.trans c9
 replace L5:=L5.gr c9
 replace a7:=a7.gr c9
 replace ba:=ba.gr c9
 replace aa:=aa.gr c9
 refine ⟨⟨L5,a7,ba,aa⟩,?_⟩
 simp only [p3,p4]
 have di:(sEq [(ratL ((0:Rat))),(ratL ((3/5:Rat))),(ratL ((-4/5:Rat)))] [([48]:List UInt8),([51,47,53]:List UInt8),([45,52,47,53]:List UInt8)])=true:=(lawK71)
 refine ow 74 (.bool true) rfl (fun w' hS=>(RunV.bool (x:=sEq [(ratL ((0:Rat))),(ratL ((3/5:Rat))),(ratL ((-4/5:Rat)))] [([48]:List UInt8),([51,47,53]:List UInt8),([45,52,47,53]:List UInt8)]) (rv_ssq 25 25 23 _ _ [(ratL ((0:Rat))),(ratL ((3/5:Rat))),(ratL ((-4/5:Rat)))] [([48]:List UInt8),([51,47,53]:List UInt8),([45,52,47,53]:List UInt8)] rfl rfl rfl (by kernel_rfl) (by kernel_rfl) (by kernel_rfl)) di)) ?_
 refine ov 75 (.bool true) ?_
 refine ov 76 (.bool true) ?_
 refine ov 77 (.pointer (some ⟨dV,0,none⟩)) ?_
 refine ow 78 (.agg #[(.int .i64 0),(.int .i64 0),(.int .i64 0),(.int .i64 1)]) rfl (fun w' hS=>(rl 22 0 [(.int .i64 0),(.int .i64 0),(.int .i64 0),(.int .i64 1)] hS.2.2.1)) ?_
 refine ov 79 (.agg #[(.int .i64 0),(.int .i64 0),(.int .i64 0),(.int .i64 1)]) ?_
 refine ov 80 (.bool true) ?_
 refine ov 81 (.bool true) ?_
 refine ov 82 (.bool true) ?_
 refine ov 83 c8 ?_
 refine ow 84 (.int .i64 (((quarters).length:Int))) rfl (fun w' hS=>(rv_len (e:=22) cP _ _ rfl rfl (by kernel_rfl))) ?_
 have dq:((((quarters).length:Int)==(24:Int)))=true:=(lawK72)
 refine ow 85 (.bool true) rfl (fun w' hS=>(RunV.bool (x:=(((quarters).length:Int)==(24:Int))) (rvk (by kernel_rfl)) dq)) ?_
 refine ov 86 (.bool true) ?_
 refine ov 87 (.bool true) ?_
 refine ov 88 c8 ?_
 refine ow 89 (adr c8 (1*4)) rfl (fun w' hS=>(rv_idx (e:=22) cP (by decide) 1 (by rw [quarters_len];omega) _ _ _ rfl rfl rfl (by kernel_rfl) (by kernel_rfl))) ?_
 refine ow 90 (.agg #[(.int .i64 (((quarters).getD 1 (0,0,0,0)).1)),(.int .i64 (((quarters).getD 1 (0,0,0,0)).2.1)),(.int .i64 (((quarters).getD 1 (0,0,0,0)).2.2.1)),(.int .i64 (((quarters).getD 1 (0,0,0,0)).2.2.2))]) rfl (fun w' hS=>(rv_ldn [(.int .i64 (((quarters).getD 1 (0,0,0,0)).1)),(.int .i64 (((quarters).getD 1 (0,0,0,0)).2.1)),(.int .i64 (((quarters).getD 1 (0,0,0,0)).2.2.1)),(.int .i64 (((quarters).getD 1 (0,0,0,0)).2.2.2))] hS.2.2.2 _ _ rfl rfl (by kernel_rfl))) ?_
 refine ov 91 (.agg #[(.int .i64 0),(.int .i64 0),(.int .i64 1),(.int .i64 (-1))]) ?_
 have df:((((quarters).getD 1 (0,0,0,0)).1==0&&((quarters).getD 1 (0,0,0,0)).2.1==0&&((quarters).getD 1 (0,0,0,0)).2.2.1==1&&((quarters).getD 1 (0,0,0,0)).2.2.2==(-1)))=true:=(lawK73)
 refine ow 92 (.bool true) rfl (fun w' hS=>(RunV.bool (x:=(((quarters).getD 1 (0,0,0,0)).1==0&&((quarters).getD 1 (0,0,0,0)).2.1==0&&((quarters).getD 1 (0,0,0,0)).2.2.1==1&&((quarters).getD 1 (0,0,0,0)).2.2.2==(-1))) (rv_arreq 22 22 3 (k:=.i64) _ _ [((quarters).getD 1 (0,0,0,0)).1,((quarters).getD 1 (0,0,0,0)).2.1,((quarters).getD 1 (0,0,0,0)).2.2.1,((quarters).getD 1 (0,0,0,0)).2.2.2] [0,0,1,-1] rfl rfl rfl (by kernel_rfl) (by kernel_rfl) (by kernel_rfl)) df)) ?_
 refine ov 93 (.bool true) ?_
 refine ov 0 (.bool true) ?_
 refine ord_nil ?_
 refine dw _ _ ?_
 try clear dw dY
 refine wp_ret ?_
 refine bodyPost_ret (v:=(.bool true)) (ret_tmp rfl rfl) rfl ⟨?_,hB⟩
 exact rfl

end Go.Proofs.YtaldbfflkpgfoaaGreatDoor
/- Printed by a program of the prover's:the contract of known. -/
namespace Go.Proofs.YtaldbfflkpgfoaaGreatDoor
open Go.RowKit

def cKnown:ConT:=fun args _ _=>match args with
  | []=>some (.leaf (.so (.vc (.cb true (some true)))) 0 0)
  | _=>none
theorem cKnown_ok {I:World→Prop} (hI:∀ w,I w→Tab w∧Mx w):ConOK Tryz.prog I 11 cKnown:=by
  intro args E n w T hw _ hT _
  unfold cKnown at hT
  split at hT
  · cases hT
    exact (known7 w (hI w hw).1 (hI w hw).2).mono fun e w' he=>val_holds he ⟨rfl,fun v hv=>by cases hv;rfl⟩
  · cases hT
end Go.Proofs.YtaldbfflkpgfoaaGreatDoor
/- From a walk to a row:a law whose arguments hold integers. -/
namespace Go.Proofs.YtaldbfflkpgfoaaGreatDoor
open Go.ChangeShapes Go.WideShapes Go.ChangeAt Go.RowKit

theorem trodAll_kept {H:Type} {enc:TypeId × Value→H} {P:Program} (hl:laidOutB P=true) {W W':World} (hb:Below W.heap.size W W'):
    ∀ {ts:List TypeId} {vs:List Value} {ds:List (DataW H)} {ps:List MemPlace},(∀ t ∈ ts,P.readableRec t=true∧t<P.types.size)→DataW.TrodAll enc P W 0 (fun _=>true) true ts vs ds ps→
      (∀ x ∈ ps,x.block<W.heap.size)→DataW.TrodAll enc P W' 0 (fun b=>decide (b<W.heap.size)) true ts vs ds ps
  | [],[],[],_,_,h,_=>h
  | t::ts,v::vs,d::ds,ps,ht,h,hp=>by
    obtain ⟨p,q,h1,h2,rfl⟩:=h
    exact ⟨p,q,Below.trod hl (ht t (by simp)).1 (ht t (by simp)).2 h1 hb (fun x hx=>hp x (by simp [hx])),trodAll_kept hl hb (fun u hu=>ht u (by simp [hu])) h2 (fun x hx=>hp x (by simp [hx])),rfl⟩
  | [],[],_::_,_,_,h,_=>by cases h
  | [],_::_,_,_,_,h,_=>by cases h
  | _::_,[],_,_,_,h,_=>by cases h
  | _::_,_::_,[],_,_,h,_=>by cases h

/-- the row's last step:the law has returned true,and nothing of what was there has turned -/
theorem law_post {H:Type} {enc:TypeId × Value→H} {P:Program} {f:Func} {s:ChangeSpec} {W W':World} {args:Array Value} {ds gs:List (DataW H)} {before:List MemPlace} {tb:TypeId}
    (hl:laidOutB P=true) (aa:(f.params.toList.all fun t=>P.readableRec t&&decide (t<P.types.size))=true) (hres:f.resultTypes=#[tb]) (htb:P.underlying tb=some .bool) (hv:s.vars=[])
    (hW:DataW.Whole enc P f.params.toList s.vars false W args.toList ds gs before) (hfn:s.fn H (ds++gs)={results:=[.lit (.bool true)],args:=ds}) (hb:Below W.heap.size W W'):
    s.post enc P f false true false false W args (.bool true) W':=by
  have hr:∀ t ∈ f.params.toList,P.readableRec t=true∧t<P.types.size:=fun t ht=>by
    have:=List.all_eq_true.1 aa t ht
    simpa using this
  have hlt:∀ p ∈ before,p.block<W.heap.size:=fun p hp=>hW.lt p hp
  have hW':=hW
  obtain ⟨p,q,hA,hV,rfl,_,_⟩:=hW
  rw [hv] at hV
  obtain ⟨rfl,rfl⟩:=trodVars_none hV
  refine ⟨ds,[],_,[],p,[],hW',?_,?_,?_,World.keptBut_mono (fun x hx=>⟨hx,.inr (.inl (by simpa using hx))⟩) (hb.frame (· ∈ p++[])),fun h=>by cases h⟩
  · rw [hfn,hres]
    exact trodAll_mk1 (shut_bool htb true)
  · rw [hfn]
    exact trodAll_kept hl hb hr hA (fun x hx=>hlt x (by simp [hx]))
  · rw [hfn,hv];rfl

theorem cell_int {P:Program} {W:World} {base u:Nat} {k:IntKind} {v:Value} (hu:P.underlying u=some (.int k)) (h:Cell.okWide P W .any base u v):∃ n,v=.int k n∧k.has n:=by
  unfold Cell.okWide at h
  rw [hu] at h
  unfold Cell.ok at h
  rw [hu] at h
  cases v<;>simp at h
  obtain ⟨rfl,h⟩:=h
  exact ⟨_,rfl,h⟩
theorem open_cell {P:Program} {W:World} {base t:Nat} {k:IntKind} {v:Value} (hu:P.underlying t=some (.int k)) (h:Value.okWide P W .any base t v):∃ n,v=.int k n∧k.has n:=by
  unfold Value.okWide at h
  rw [hu] at h
  exact cell_int hu h
/-- a parameter of cells that are integers -/
theorem open_cells {P:Program} {W:World} {base t:Nat} {v:Value} {ts:List TypeId} (ks:List IntKind) (hagg:(match P.underlying t with | some (.struct _) | some (.array _ _)=>true | _=>false)=true)
    (hct:P.cellTypes P.depth t=some ts) (hC:P.cellsOf t=ts.length) (hk:ts.map (fun u=>P.underlying u)=ks.map fun k=>some (.int k)) (h:Value.okWide P W .any base t v):
    ∃ cs,v=.agg cs∧cs.size=ks.length∧∀ (i:Nat) (k:IntKind),ks[i]?=some k→∃ n:Int,cs[i]?=some (.int k n)∧k.has n:=by
  have hlen:ts.length=ks.length:=by have:=congrArg List.length hk;simpa using this
  have h':∃ cs,v=.agg cs∧cs.size=P.cellsOf t∧Row.okWide P W .any base t cs:=by
    unfold Value.okWide at h
    split at h<;>first | exact h | (rename_i h1 h2;revert hagg;split<;>simp_all)
  obtain ⟨cs,hv,hs,ts',hct',_,hc⟩:=h'
  rw [hct] at hct'
  obtain rfl:=Option.some.inj hct'
  refine ⟨cs,hv,by omega,fun i k hi=>?_⟩
  have hil:i<ks.length:=(List.getElem?_eq_some_iff.1 hi).1
  have hic:i<cs.size:=by omega
  obtain ⟨u,hu,hcell⟩:=hc i cs[i] (Array.getElem?_eq_getElem hic)
  rw [Nat.mod_eq_of_lt (by omega)] at hu
  have:(ts.map (fun u=>P.underlying u))[i]?=some (P.underlying u):=by simp [hu]
  rw [hk] at this
  simp only [List.getElem?_map,hi,Option.map_some,Option.some.injEq] at this
  obtain ⟨n,hn,hh⟩:=cell_int this.symm hcell
  exact ⟨n,by rw [Array.getElem?_eq_getElem hic,hn],hh⟩
theorem has_i8 {n:Int} (h:IntKind.i8.has n):-128≤n∧n≤127:=h
theorem has_u8 {n:Int} (h:IntKind.u8.has n):0≤n∧n≤255:=h
theorem own:ownKnob Tryz.prog.godebug=none:=by kernel_rfl
theorem laidOut:laidOutB Tryz.prog=true:=by kernel_rfl
end Go.Proofs.YtaldbfflkpgfoaaGreatDoor
/- From a walk to a row:laws whose arguments hold strings,over worlds with sentinels laid. -/
namespace Go.Proofs.YtaldbfflkpgfoaaGreatDoor
open Go.ChangeShapes Go.WideShapes Go.ChangeAt Go.RowKit

section
variable {H:Type} {enc:TypeId × Value→H}
/-- there is an input that fits,at a world of which the shape is known -/
theorem witness_row_sh {C:Checked} {os:Os} {f:FuncId} {fn:Func} {s:OpenSpec} {conds:List PathCond} {apart:Bool} {laid:List (String × DataW Unit)} (modest:Bool) (w0:World) (args:Array Value) (hos:w0.os=os)
    (hsh:(w0.forCall (fun _ _=>0) ⟨#[],args,[]⟩).Shaped C.prog)
    (hok:Input.okWideB C.prog (w0.forCall (fun _ _=>0) ⟨#[],args,[]⟩) f ⟨#[],args,[]⟩=true)
    (hrow:s.preRow enc C.prog fn conds apart laid (w0.forCall (fun _ _=>0) ⟨#[],args,[]⟩).memory args):
    ∃ (w:World) (tape:Tape) (i:Input),w.os=os∧(w.forCall tape i).Shaped C.prog∧i.vars=[]∧Input.okWide C.prog (w.forCall tape i) .any w.heap.size f i∧
      s.preRow enc C.prog fn conds apart laid (w.forCall tape i).memory i.args∧({modest:=modest}:Assume).holds C.prog (lone (Frame.enter C.prog f i.args .normal) [] (w.forCall tape i)):=
  ⟨w0,fun _ _=>0,⟨#[],args,[]⟩,hos,hsh,(Input.okWide_of_okWideB (base:=0) hok).1,(Input.okWide_of_okWideB hok).2,hrow,by
    simp only [Assume.holds]
    exact ⟨by simp,by simp,fun _=>Modest.zero,by simp,by simp⟩⟩
end
end Go.Proofs.YtaldbfflkpgfoaaGreatDoor
/- What an input weighs:strings in an array are no longer than memory. -/
namespace Go.Proofs.YtaldbfflkpgfoaaGreatDoor
open Go.ChangeShapes Go.WideShapes Go.ChangeAt Go.RowKit

end Go.Proofs.YtaldbfflkpgfoaaGreatDoor
/- Printed by a program of the prover's:what runs on symbols are given. -/
namespace Go.Proofs.YtaldbfflkpgfoaaGreatDoor
open Go.RowKit

end Go.Proofs.YtaldbfflkpgfoaaGreatDoor
/- Printed by a program of the prover's:MotionApplies. -/
namespace Go.Proofs.YtaldbfflkpgfoaaGreatDoor
open Go.RowKit

def asN:Nat→Rat→Lf→Lf
  | 0,_,l=>l
  | n+1,x,l=>.as (decide (x≠0)) true (asN n x l)
theorem asN_ok {P:SV→Prop} {x:Rat} {l:Lf} {n:Nat} (h:x≠0) (hl:LOK P l):LOK P (asN n x l):=by
  induction n with
  | zero=>exact hl
  | succ n ih=>exact ⟨decide_eq_true h,ih⟩
def l3 (a b c:Rat):List (List UInt8):=[ratL a,ratL b,ratL c]
theorem eE3 {a b c x y z:Rat} (h1:a=x) (h2:b=y) (h3:c=z):sEq (l3 a b c) (l3 x y z)=true:=by subst h1 h2 h3;exact sEq_same _
theorem nE3 {a b c x y z:Rat} (h1:a=x) (h2:b=y) (h3:c=z):(!sEq (l3 a b c) (l3 x y z))=false:=by rw [eE3 h1 h2 h3];rfl
theorem rc0 {a b:Rat} (h:a=b):(rcmp a b !=0)=false:=by rw [rcmp_zero.2 h];rfl
def isT (v:SV):Prop:=∀ X,v.den X=.bool true
theorem isT_of {t:Bool} {d:Option Bool} (h:t=true):isT (.so (.vc (.cb t d))):=fun _=>by rw [h];rfl
end Go.Proofs.YtaldbfflkpgfoaaGreatDoor
/- Placements compared by the program. -/
namespace Go.Proofs.YtaldbfflkpgfoaaGreatDoor
open Go.RowKit
section
variable {P:Program} {a:Act} {o:Oper} {w:World}
end
theorem plc_eq4 {z0 z1 z2 z3 y0 y1 y2 y3:Int} {X0 X1 X2 Y0 Y1 Y2:List UInt8}:(allEq [z0,z1,z2,z3] [y0,y1,y2,y3]&&sEq [X0,X1,X2] [Y0,Y1,Y2])=decide (z0=y0∧z1=y1∧z2=y2∧z3=y3∧X0=Y0∧X1=Y1∧X2=Y2):=by
  rw [Bool.eq_iff_iff]
  simp only [allEq,sEq,Bool.and_eq_true,beq_iff_eq,decide_eq_true_eq,Bool.and_true]
  constructor
  · rintro ⟨⟨a,b,c,d⟩,e,f,g⟩;exact ⟨a,b,c,d,e,f,g⟩
  · rintro ⟨a,b,c,d,e,f,g⟩;exact ⟨⟨a,b,c,d⟩,e,f,g⟩
/-- motions are equal just where their placements are -/
theorem same_motion {q0 q1 q2 q3 p0 p1 p2 p3:Int} (hv:VT q0 q1 q2 q3) (hw:VT p0 p1 p2 p3) {a11 a12 a13 a21 a22 a23 a31 a32 a33 ac ad af ai ab aa aj ah ae s1 s2 s3 t1 t2 t3:Rat}
    (ha:RotQ a11 a12 a13 a21 a22 a23 a31 a32 a33 q0 q1 q2 q3) (hb:RotQ ac ad af ai ab aa aj ah ae p0 p1 p2 p3):
    (decide ([a11,a12,a13,a21,a22,a23,a31,a32,a33,s1,s2,s3]=[ac,ad,af,ai,ab,aa,aj,ah,ae,t1,t2,t3])==(allEq [q0,q1,q2,q3] [p0,p1,p2,p3]&&sEq [ratL s1,ratL s2,ratL s3] [ratL t1,ratL t2,ratL t3]))=true:=by
  rw [plc_eq4,beq_iff_eq,Bool.eq_iff_iff,decide_eq_true_eq,decide_eq_true_eq]
  simp only [List.cons.injEq,and_true]
  constructor
  · rintro ⟨rfl,rfl,rfl,rfl,rfl,rfl,rfl,rfl,rfl,rfl,rfl,rfl⟩
    obtain ⟨e0,e1,e2,e3⟩:=wzq_rot hv.ne ha
    obtain ⟨f0,f1,f2,f3⟩:=wzq_rot hw.ne hb
    rw [hv.prim] at e0 e1 e2 e3
    rw [hw.prim] at f0 f1 f2 f3
    exact ⟨e0.symm.trans f0,e1.symm.trans f1,e2.symm.trans f2,e3.symm.trans f3,rfl,rfl,rfl⟩
  · rintro ⟨rfl,rfl,rfl,rfl,h1,h2,h3⟩
    obtain ⟨e1,e2,e3,e4,e5,e6,e7,e8,e9⟩:=rotq_unique (nq_int hv.ne) ha hb
    exact ⟨e1,e2,e3,e4,e5,e6,e7,e8,e9,ratL_inj h1,ratL_inj h2,ratL_inj h3⟩
theorem det_sq (a b c d e f g h i:Rat):
    (a*(e*i - f*h)+b*(f*g - d*i)+c*(d*h - e*g))*(a*(e*i - f*h)+b*(f*g - d*i)+c*(d*h - e*g))=
    (a*a+b*b+c*c)*((d*d+e*e+f*f)*(g*g+h*h+i*i) - (d*g+e*h+f*i)*(d*g+e*h+f*i))
    +(a*d+b*e+c*f)*((d*g+e*h+f*i)*(a*g+b*h+c*i) - (a*d+b*e+c*f)*(g*g+h*h+i*i))
    +(a*g+b*h+c*i)*((a*d+b*e+c*f)*(d*g+e*h+f*i) - (d*d+e*e+f*f)*(a*g+b*h+c*i)):=by grind
theorem orth_det {a b c d e f g h i:Rat} (ae:a*a+b*b+c*c=1) (ad:a*d+b*e+c*f=0) (af:a*g+b*h+c*i=0)
    (aa:d*d+e*e+f*f=1) (ab:d*g+e*h+f*i=0) (ac:g*g+h*h+i*i=1):
    a*(e*i - f*h)+b*(f*g - d*i)+c*(d*h - e*g)=1∨a*(e*i - f*h)+b*(f*g - d*i)+c*(d*h - e*g)=-1:=by
  have:=det_sq a b c d e f g h i
  rw [ae,ad,af,aa,ab,ac] at this
  generalize a*(e*i - f*h)+b*(f*g - d*i)+c*(d*h - e*g)=x at*
  have:(x - 1)*(x+1)=0:=by grind
  rcases Rat.mul_eq_zero.1 this with h | h
  · left;grind
  · right;grind
theorem rigid_iff {a11 a12 a13 a21 a22 a23 a31 a32 a33:Rat}:rigidB a11 a12 a13 a21 a22 a23 a31 a32 a33=true↔
    (a11*a11+a12*a12+a13*a13=1∧a11*a21+a12*a22+a13*a23=0∧a11*a31+a12*a32+a13*a33=0∧
     a21*a21+a22*a22+a23*a23=1∧a21*a31+a22*a32+a23*a33=0∧a31*a31+a32*a32+a33*a33=1)∧
    a11*(a22*a33 - a23*a32)+a12*(a23*a31 - a21*a33)+a13*(a21*a32 - a22*a31)=1:=by
  have z:∀ x:Rat,(0:Int)<sgn x.num↔0<x:=by
    intro x
    have h:(0:Rat)<x↔0<x.num:=by rw [Rat.lt_iff];simp
    rw [h]
    unfold sgn
    split<;>(try split)<;>omega
  unfold rigidB
  rw [Bool.and_eq_true,decide_eq_true_eq,decide_eq_true_eq,z]
  simp only [List.cons.injEq,and_true]
  constructor
  · rintro ⟨⟨h1,h2,h3,_,h5,h6,_,_,h9,_,_,_⟩,hd⟩
    have g1:a11*a11+a12*a12+a13*a13=1:=by grind
    have g2:a11*a21+a12*a22+a13*a23=0:=by grind
    have g3:a11*a31+a12*a32+a13*a33=0:=by grind
    have g5:a21*a21+a22*a22+a23*a23=1:=by grind
    have g6:a21*a31+a22*a32+a23*a33=0:=by grind
    have g9:a31*a31+a32*a32+a33*a33=1:=by grind
    refine ⟨⟨g1,g2,g3,g5,g6,g9⟩,?_⟩
    rcases orth_det g1 g2 g3 g5 g6 g9 with h | h
    · exact h
    · exfalso
      have e:(0+a11*(a22*a33 - a23*a32)+a12*(a23*a31 - a21*a33)+a13*(a21*a32 - a22*a31):Rat)=-1:=by rw [← h];grind
      rw [e] at hd;exact absurd hd (by decide)
  · rintro ⟨⟨g1,g2,g3,g5,g6,g9⟩,hd⟩
    refine ⟨⟨by grind,by grind,by grind,by grind,by grind,by grind,by grind,by grind,by grind,zero_mul3 _ _ _,zero_mul3 _ _ _,zero_mul3 _ _ _⟩,?_⟩
    have e:(0+a11*(a22*a33 - a23*a32)+a12*(a23*a31 - a21*a33)+a13*(a21*a32 - a22*a31):Rat)=1:=by rw [← hd];grind
    rw [e];decide
theorem ratL1:ratL 1=([49]:List UInt8):=eq_of_beq (ratL_litw (by kernel_rfl) (itoa_litp 1 (by kernel_rfl) (by decide)))
theorem perr_eq3 (rg:Bool) (z0 z1 z2 z3:Int) (x y t:List UInt8):((perr rg z0 z1 z2 z3 x y t==(3:Int))==rg)=false:=by
  unfold perr
  cases rg
  · rfl
  · rw [if_pos rfl]
    split
    · split<;>rfl
    · rfl
end Go.Proofs.YtaldbfflkpgfoaaGreatDoor
/- Motions as twelve numbers:composed,turned back;rotations. -/
namespace Go.Proofs.YtaldbfflkpgfoaaGreatDoor
open Go.RowKit

abbrev Mo:=Nat→Rat
def d3 (a b c x y z:Rat):Rat:=0+a*x+b*y+c*z
def f3 (a b c x y z:Rat):Rat:=a*x+b*y+c*z
def pm (r:Mo) (x y z:Rat):Mo
  | 9=>x
  | 10=>y
  | 11=>z
  | k=>r k
/-- composed -/
def mc (A B:Mo):Mo
  | 0=>d3 (A 0) (A 1) (A 2) (B 0) (B 3) (B 6)
  | 1=>d3 (A 0) (A 1) (A 2) (B 1) (B 4) (B 7)
  | 2=>d3 (A 0) (A 1) (A 2) (B 2) (B 5) (B 8)
  | 3=>d3 (A 3) (A 4) (A 5) (B 0) (B 3) (B 6)
  | 4=>d3 (A 3) (A 4) (A 5) (B 1) (B 4) (B 7)
  | 5=>d3 (A 3) (A 4) (A 5) (B 2) (B 5) (B 8)
  | 6=>d3 (A 6) (A 7) (A 8) (B 0) (B 3) (B 6)
  | 7=>d3 (A 6) (A 7) (A 8) (B 1) (B 4) (B 7)
  | 8=>d3 (A 6) (A 7) (A 8) (B 2) (B 5) (B 8)
  | 9=>d3 (A 0) (A 1) (A 2) (B 9) (B 10) (B 11)+A 9
  | 10=>d3 (A 3) (A 4) (A 5) (B 9) (B 10) (B 11)+A 10
  | 11=>d3 (A 6) (A 7) (A 8) (B 9) (B 10) (B 11)+A 11
  | _=>0
def mf (A B:Mo):Mo
  | 0=>f3 (A 0) (A 1) (A 2) (B 0) (B 3) (B 6)
  | 1=>f3 (A 0) (A 1) (A 2) (B 1) (B 4) (B 7)
  | 2=>f3 (A 0) (A 1) (A 2) (B 2) (B 5) (B 8)
  | 3=>f3 (A 3) (A 4) (A 5) (B 0) (B 3) (B 6)
  | 4=>f3 (A 3) (A 4) (A 5) (B 1) (B 4) (B 7)
  | 5=>f3 (A 3) (A 4) (A 5) (B 2) (B 5) (B 8)
  | 6=>f3 (A 6) (A 7) (A 8) (B 0) (B 3) (B 6)
  | 7=>f3 (A 6) (A 7) (A 8) (B 1) (B 4) (B 7)
  | 8=>f3 (A 6) (A 7) (A 8) (B 2) (B 5) (B 8)
  | 9=>f3 (A 0) (A 1) (A 2) (B 9) (B 10) (B 11)+A 9
  | 10=>f3 (A 3) (A 4) (A 5) (B 9) (B 10) (B 11)+A 10
  | 11=>f3 (A 6) (A 7) (A 8) (B 9) (B 10) (B 11)+A 11
  | _=>0
def mt (A:Mo):Mo
  | 0=>A 0
  | 1=>A 3
  | 2=>A 6
  | 3=>A 1
  | 4=>A 4
  | 5=>A 7
  | 6=>A 2
  | 7=>A 5
  | 8=>A 8
  | _=>0
def mz (A:Mo):Mo
  | 0=>A 0
  | 1=>A 1
  | 2=>A 2
  | 3=>A 3
  | 4=>A 4
  | 5=>A 5
  | 6=>A 6
  | 7=>A 7
  | 8=>A 8
  | _=>0
/-- turned back -/
def mi (A:Mo):Mo
  | 0=>A 0
  | 1=>A 3
  | 2=>A 6
  | 3=>A 1
  | 4=>A 4
  | 5=>A 7
  | 6=>A 2
  | 7=>A 5
  | 8=>A 8
  | 9=>0 - d3 (A 0) (A 3) (A 6) (A 9) (A 10) (A 11)
  | 10=>0 - d3 (A 1) (A 4) (A 7) (A 9) (A 10) (A 11)
  | 11=>0 - d3 (A 2) (A 5) (A 8) (A 9) (A 10) (A 11)
  | _=>0
def idm:Mo
  | 0=>((1:Int):Rat)
  | 4=>((1:Int):Rat)
  | 8=>((1:Int):Rat)
  | _=>0
def ap (A:Mo) (x y z:Rat):Mo
  | 0=>d3 (A 0) (A 1) (A 2) x y z+A 9
  | 1=>d3 (A 3) (A 4) (A 5) x y z+A 10
  | 2=>d3 (A 6) (A 7) (A 8) x y z+A 11
  | _=>0
def l12 (A:Mo):List Rat:=[A 0,A 1,A 2,A 3,A 4,A 5,A 6,A 7,A 8,A 9,A 10,A 11]
def detm (A:Mo):Rat:=d3 (A 0) (A 1) (A 2) (A 4*A 8 - A 5*A 7) (A 5*A 6 - A 3*A 8) (A 3*A 7 - A 4*A 6)
def RotM (A:Mo) (w x y z:Rat):Prop:=RotQ (A 0) (A 1) (A 2) (A 3) (A 4) (A 5) (A 6) (A 7) (A 8) w x y z
theorem l12_eq {A B:Mo} (h:A 0=B 0∧A 1=B 1∧A 2=B 2∧A 3=B 3∧A 4=B 4∧A 5=B 5∧A 6=B 6∧A 7=B 7∧A 8=B 8∧A 9=B 9∧A 10=B 10∧A 11=B 11):l12 A=l12 B:=by
  unfold l12
  obtain ⟨h0,h1,h2,h3,h4,h5,h6,h7,h8,h9,h10,h11⟩:=h
  rw [h0,h1,h2,h3,h4,h5,h6,h7,h8,h9,h10,h11]
theorem mc_assoc (A B C:Mo):l12 (mc (mc A B) C)=l12 (mc A (mc B C)):=by
  apply l12_eq
  simp only [mc,d3]
  exact ⟨by grind,by grind,by grind,by grind,by grind,by grind,by grind,by grind,by grind,by grind,by grind,by grind⟩
theorem f_d (a b c x y z:Rat):d3 a b c x y z=f3 a b c x y z:=by unfold d3 f3;rw [Rat.zero_add]
theorem mc_mf (A B:Mo) (k:Nat):mc A B k=mf A B k:=by
  unfold mc mf
  split<;>simp only [f_d]
theorem ap_comp (A B:Mo) (x y z:Rat) (k:Nat):ap (mc A B) x y z k=ap A (ap B x y z 0) (ap B x y z 1) (ap B x y z 2) k:=by
  match k with
  | 0=>simp only [ap,mc,d3];grind
  | 1=>simp only [ap,mc,d3];grind
  | 2=>simp only [ap,mc,d3];grind
  | _+3=>rfl
section
variable {A B:Mo} {a b c d:Int} (h0:¬(a=0∧b=0∧c=0∧d=0)) (h:RotM A a b c d)
include h0 h
theorem mc_inv:l12 (mc A (mi A))=l12 idm:=by
  obtain ⟨ai,af,aj,aa,ad,ab,ah,ac,ae⟩:=rotq_orth (nq_int h0) h
  apply l12_eq
  simp only [mc,mi,d3,idm]
  have e:∀ u v t p q r x y z x1 y1 z1 x2 y2 z2:Rat,(0+u*(0 - (0+x*p+x1*q+x2*r))+v*(0 - (0+y*p+y1*q+y2*r))+t*(0 - (0+z*p+z1*q+z2*r)))=- ((0+u*x+v*y+t*z)*p+(0+u*x1+v*y1+t*z1)*q+(0+u*x2+v*y2+t*z2)*r):=fun u v t p q r x y z x1 y1 z1 x2 y2 z2=>by grind
  simp only [e,ai,af,aj,aa,ad,ab,ah,ac,ae]
  refine ⟨?_,?_,?_,?_,?_,?_,?_,?_,?_,?_,?_,?_⟩<;>first | trivial | rfl | grind
theorem mc_inv2:l12 (mc (mi A) A)=l12 idm:=by
  obtain ⟨o11,o12,o13,o21,o22,o23,o31,o32,o33⟩:=rotq_orth (by rintro ⟨p,q,r,s⟩;exact nq_int h0 ⟨p,by grind,by grind,by grind⟩) (rotq_tr h)
  apply l12_eq
  simp only [mc,mi,d3,idm]
  exact ⟨by grind,by grind,by grind,by grind,by grind,by grind,by grind,by grind,by grind,by grind,by grind,by grind⟩
theorem rig_mat:decide (l12 (mc (mz A) (mt A))=l12 idm)=true∧decide (0<sgn (detm A).num)=true:=by
  have:=rigid_rot (nq_int h0) h
  unfold rigidB at this
  rw [Bool.and_eq_true] at this
  exact this
end
theorem mc_rot {A B:Mo} {a b c d p q r s n0 n1 n2 n3:Int} (h:RotM A a b c d) (g:RotM B p q r s)
    (h0:n0=a*p - b*q - c*r - d*s) (h1:n1=a*q+b*p+c*s - d*r) (h2:n2=a*r - b*s+c*p+d*q) (h3:n3=a*s+b*r - c*q+d*p):RotM (mc A B) n0 n1 n2 n3:=rotq_mulI h g h0 h1 h2 h3
theorem pm_rot {w x y z:Int} (h:VT w x y z) (s1 s2 s3:Rat):RotM (pm (roE w x y z) s1 s2 s3) w x y z:=roE_rot h
end Go.Proofs.YtaldbfflkpgfoaaGreatDoor
