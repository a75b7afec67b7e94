/- Joined of: Ck2, Gen3, Rat1, Gen4, Str, Txt, Gen12, Nbr, R2a, R2b, R2c, R2d, R2e, Scale, Pa1, Pa2, Gen31, Gen35, Gen32, Rat2. -/
import Derived.Test.YtaldbfflkpgfoaaGreatDoorPartB
import Init.Data.Rat.Lemmas
import Derived.Test.YtaldbfflkpgfoaaGreatDoorPartA
import Derived.Lib.SmallJoins
import Derived.Laws.RangeString
namespace Go.Proofs.YtaldbfflkpgfoaaGreatDoor
open Go

def zh5:List UInt8→List UInt8 × Option (List UInt8)
 | []=>([],none)
 | c::l=>if c=47 then ([],some l) else (c::(zh5 l).1,(zh5 l).2)
def zf4 (s:List UInt8):List UInt8:=(zh5 s).1
def zg9 (s:List UInt8):List UInt8:=(zh5 s).2.getD [49]
theorem zA8:∀ s,s=(match (zh5 s).2 with | none=>(zh5 s).1 | some d=>(zh5 s).1++47::d)
 | []=>rfl
 | c::l=>by
  have ih:=zA8 l
  unfold zh5
  by_cases h:c=47
  ·rw [if_pos h,h];rfl
  ·rw [if_neg h]
   dsimp only
   cases hd:(zh5 l).2 with
   | none=>rw [hd] at ih;dsimp only at ih ⊢;rw [← ih]
   | some d=>rw [hd] at ih;dsimp only at ih ⊢;rw [List.cons_append,← ih]
theorem zG7:∀ {s:List UInt8},(∀ c ∈ s,c≠47)→zh5 s=(s,none)
 | [],_=>rfl
 | c::l,h=>by
  unfold zh5
  rw [if_neg (h c (by simp)),zG7 (fun x hx=>h x (by simp [hx]))]
theorem zG8:∀ {a b:List UInt8},(∀ c ∈ a,c≠47)→zh5 (a++47::b)=(a,some b)
 | [],b,_=>by simp [zh5]
 | c::l,b,h=>by
  rw [List.cons_append]
  unfold zh5
  rw [if_neg (h c (by simp)),zG8 (fun x hx=>h x (by simp [hx]))]
def zf9 (l:List UInt8):Bool:=l.all (·==48)
def valZ (s:List UInt8):Int:=if s.head?=some 45 then -(zh0 (zb2 s):Int) else (zh0 (zb2 s):Int)
theorem zf0 (z:Int):valZ (Lib.itoa z)=z:=by
 unfold valZ
 rw [zt5,zA4]
 by_cases h:z<0
 ·rw [zd5 h,List.head?_cons,if_pos rfl];omega
 ·rw [za7 (by omega),if_neg]
  ·omega
  ·intro e
   have:=zk7 z.natAbs 45 (List.mem_of_head? e)
   simp at this
def ck2 (s:List UInt8) (most:Nat):Int:=
 if most<s.length then 5 else
 if (zd6 (zb2 (zf4 s))&&zd6 (zg9 s))=false then 14 else
 if zf9 (zg9 s)=true then 19 else
 if (zF3 (zf4 s)||((zg9 s)[0]?==some 48))=true then 3 else
 if (decide ((zf4 s).length<s.length)&&((zg9 s==[49])||(Int.gcd (valZ (zf4 s)) (valZ (zg9 s)) !=1)))=true then 3 else 0
theorem yg9 (s:List UInt8):(zf4 s).length<s.length↔(zh5 s).2≠none:=by
 have h:=zA8 s
 unfold zf4
 cases hd:(zh5 s).2 with
 | none=>rw [hd] at h;dsimp only at h;rw [← h];simp
 | some d=>
  rw [hd] at h;dsimp only at h
  have:s.length=(zh5 s).1.length+(d.length+1):=by
   conv=>lhs;rw [h]
   simp
  simp;omega
theorem zt6 {d:List UInt8} (h1:zd6 d=true) (h2:(d[0]?==some 48)=false):Lib.decDigits (zh0 d)=d∧0<zh0 d:=by
 obtain ⟨a,b⟩:=zt4 h1
 exact zV7 d b a (fun c hc e=>by
  have:c=48:=by rw [← UInt8.toNat_inj];exact e
  rw [hc,this] at h2
  simp at h2)
theorem yh0 {s:List UInt8} {most:Nat} (h:ck2 s most=0):(∃ q:Rat,s=za1 q)∧s.length≤most:=by
 unfold ck2 at h
 split at h
 ·exact absurd h (by decide)
 rename_i hlen
 split at h
 ·exact absurd h (by decide)
 rename_i hd
 split at h
 ·exact absurd h (by decide)
 split at h
 ·exact absurd h (by decide)
 rename_i hb
 split at h
 ·exact absurd h (by decide)
 rename_i hg
 refine ⟨?_,by omega⟩
 have hb':zF3 (zf4 s)=false∧((zg9 s)[0]?==some 48)=false:=by
  cases h1:zF3 (zf4 s)<;>cases h2:((zg9 s)[0]?==some 48)<;>simp [h1,h2] at hb ⊢
 have aa:zd6 (zb2 (zf4 s))=true∧zd6 (zg9 s)=true:=by
  cases h1:zd6 (zb2 (zf4 s))<;>cases h2:zd6 (zg9 s)<;>simp [h1,h2] at hd ⊢
 obtain ⟨z,hz⟩:=zn0 aa.1 hb'.1
 obtain ⟨hD,ab⟩:=zt6 aa.2 hb'.2
 have hs:=zA8 s
 cases hc:(zh5 s).2 with
 | none=>
  rw [hc] at hs;dsimp only at hs
  refine ⟨(z:Rat),?_⟩
  rw [zN6 (Rat.den_intCast _),Rat.num_intCast,← hz]
  exact hs
 | some d=>
  have hdd:zg9 s=d:=by unfold zg9;rw [hc];rfl
  have hlt:=(yg9 s).2 (by rw [hc];simp)
  rw [hdd] at hD ab
  have hvd:valZ d=(zh0 d:Int):=by
   have:=zf0 ((zh0 d:Nat):Int)
   rw [za7 (by omega),Int.natAbs_natCast,hD] at this
   exact this
  have e1:valZ (zf4 s)=z:=by rw [hz,zf0]
  rw [hdd,e1,hvd,decide_eq_true hlt,Bool.true_and] at hg
  have hg':¬ (d==[49])=true∧Int.gcd z (zh0 d:Int)=1:=by
   simp only [Bool.or_eq_true,bne_iff_ne,ne_eq,not_or,Classical.not_not] at hg
   exact hg
  have h1:zh0 d≠1:=fun e=>hg'.1 (by
   rw [← hD,e,zc2 (by omega)];rfl)
  have hcop:Nat.Coprime z.natAbs (zh0 d):=hg'.2
  refine ⟨⟨z,zh0 d,by omega,hcop⟩,?_⟩
  have e2:Lib.itoa ((zh0 d:Nat):Int)=d:=by rw [za7 (by omega),Int.natAbs_natCast,hD]
  rw [zW4 (by exact h1)]
  rw [hc] at hs;dsimp only at hs
  show s=Lib.itoa z++[47]++Lib.itoa ((zh0 d:Nat):Int)
  rw [e2,← hz,List.append_assoc]
  exact hs
theorem zD0 (z:Int):∀ c ∈ Lib.itoa z,c≠47:=by
 intro c hc e
 subst e
 by_cases h:z<0
 ·rw [zd5 h] at hc
  rcases List.mem_cons.1 hc with h1 | h1
  ·exact absurd h1 (by decide)
  ·have:=zk7 _ _ h1;simp at this
 ·rw [za7 (by omega)] at hc
  have:=zk7 _ _ hc;simp at this
theorem zG9 (q:Rat):zh5 (za1 q)=(Lib.itoa q.num,if q.den=1 then none else some (Lib.itoa (q.den:Int))):=by
 unfold za1
 by_cases h:q.den=1
 ·rw [if_pos h,if_pos h,zG7 (zD0 _)]
 ·rw [if_neg h,if_neg h,List.append_assoc]
  exact zG8 (zD0 _)
theorem zx1 (q:Rat):zf4 (za1 q)=Lib.itoa q.num:=by unfold zf4;rw [zG9]
theorem zH0 (q:Rat):zg9 (za1 q)=Lib.itoa (q.den:Int):=by
 unfold zg9;rw [zG9]
 by_cases h:q.den=1
 ·rw [if_pos h,h];exact itoa_one.symm
 ·rw [if_neg h];rfl
end Go.Proofs.YtaldbfflkpgfoaaGreatDoor
namespace Go.Proofs.YtaldbfflkpgfoaaGreatDoor
open Go.RowKit

set_option maxRecDepth 100000 in
set_option maxHeartbeats 1000000 in
theorem whole_z {k:Nat} {c0 c1 c2 c3:Value} {w:World} (hd:IsInt w k c2 c3 0):
    Calls Tryz.prog 78 #[(.agg #[c0,c1,c2,c3])] w fun e w'=>e=.returned (.bool true)∧Gr w w':=by
 go_enter Tryz.func78,Tryz.ntmps78
 have hB:=Gr.refl w
 refine wp_seq_k (fun K1 k1=>?_)
 refine rg [0,1] ?_
 refine se ?_
 refine eb 36 #[c0,c1,c2,c3] 1 hB fun b2 w2 g2 L2 o2 q2 hB=>?_
 simp only [p3,p4]
 refine sv 2 (.bool false) ?_
 refine za0 ?_
 refine k1 _ _ ?_
 try clear k1 K1
 refine wp_seq_k (fun K3 k3=>?_)
 have aa:=Gr.drew w2
 replace hB:=hB.trans aa
 replace L2:=L2.gr aa
 refine za3 (fun w'=>Lc w' b2 #[c0,c1,c2,c3] 36) [(true,0),(true,1),(false,2),(true,3),(true,4),(true,5),(true,6),(false,7),(false,8),(true,9),(true,10),(true,11)] (by kernel_rfl) (by kernel_rfl) (by kernel_rfl) (by decide) (fun _ _ _ _ _ h=>h) L2 ?_
 refine ov 3 (.pointer (some ⟨b2,2,none⟩)) ?_
 refine ow 4 (.agg #[c2,c3]) rfl (fun w' hS=>(rl 34 2 [c2,c3] hS)) ?_
 refine oe ?_
 have ab:=g2.kp.trans aa.kp
 replace hd:=hd.kp ab
 refine ec 5 (zI5 hd) ?_
 rintro ae ad ⟨rfl,ac⟩
 refine ⟨_,rfl,?_⟩
 replace hB:=hB.trans ac
 replace L2:=L2.gr ac
 refine ⟨L2,?_⟩
 simp only [p3,p4]
 refine ov 6 (.bool true) ?_
 refine ov 7 (.bool true) ?_
 refine os 8 ?_
 refine os 9 ?_
 refine oz 10 L2 ?_
 refine oz 11 L2 ?_
 refine os 12 ?_
 refine ov 13 (.bool true) ?_
 refine ov 2 (.bool true) ?_
 refine zc0 ?_
 refine k3 _ _ ?_
 try clear k3 K3
 refine wp_ret ?_
 refine bodyPost_ret (v:=(.bool true)) (zb0 rfl rfl) rfl ⟨?_,hB⟩
 exact rfl

set_option maxRecDepth 100000 in
set_option maxHeartbeats 1000000 in
theorem whole_p {k:Nat} {c0 c1 c2 c3:Value} {D:Int} {w:World} (hd:IsInt w k c2 c3 D) (_h0:0<D) (_hk:k≤1000000):
    Calls Tryz.prog 78 #[(.agg #[c0,c1,c2,c3])] w fun e w'=>e=.returned (.bool (sgn (D - 1)==0))∧Gr w w':=by
 go_enter Tryz.func78,Tryz.ntmps78
 have hB:=Gr.refl w
 refine wp_seq_k (fun K1 k1=>?_)
 refine rg [0,1] ?_
 refine se ?_
 refine eb 36 #[c0,c1,c2,c3] 1 hB fun b2 w2 g2 L2 o2 q2 hB=>?_
 simp only [p3,p4]
 refine sv 2 (.bool false) ?_
 refine za0 ?_
 refine k1 _ _ ?_
 try clear k1 K1
 refine wp_seq_k (fun K3 k3=>?_)
 have aa:=Gr.drew w2
 replace hB:=hB.trans aa
 replace L2:=L2.gr aa
 refine za3 (fun w'=>Lc w' b2 #[c0,c1,c2,c3] 36) [(true,0),(true,1),(false,2),(true,3),(true,4),(true,5),(true,6),(false,7),(false,8),(true,9),(true,10),(true,11)] (by kernel_rfl) (by kernel_rfl) (by kernel_rfl) (by decide) (fun _ _ _ _ _ h=>h) L2 ?_
 refine ov 3 (.pointer (some ⟨b2,2,none⟩)) ?_
 refine ow 4 (.agg #[c2,c3]) rfl (fun w' hS=>(rl 34 2 [c2,c3] hS)) ?_
 refine oe ?_
 have ab:=g2.kp.trans aa.kp
 replace hd:=hd.kp ab
 refine ec 5 (zl0 hd (by omega)) ?_
 rintro ak aq ⟨rfl,ae⟩
 refine ⟨_,rfl,?_⟩
 replace hB:=hB.trans ae
 replace L2:=L2.gr ae
 refine ⟨L2,?_⟩
 simp only [p3,p4]
 refine ov 6 (.bool false) ?_
 refine ov 7 (.bool false) ?_
 refine ov 8 (.pointer (some ⟨b2,2,none⟩)) ?_
 refine ow 9 (.agg #[c2,c3]) rfl (fun w' hS=>(rl 34 2 [c2,c3] hS)) ?_
 refine oe ?_
 refine ec 10 (zI1 _) ?_
 rintro au al ⟨⟨ap,aj,rfl,ah⟩,ac⟩
 refine ⟨_,rfl,?_⟩
 replace hB:=hB.trans ac
 replace L2:=L2.gr ac
 refine ⟨L2,?_⟩
 simp only [p3,p4]
 refine oe ?_
 have ad:=ae.kp.trans ac.kp
 replace hd:=hd.kp ad
 refine ec 11 (ze5 hd ah (by omega) (by omega)) ?_
 rintro ar ai ⟨rfl,af⟩
 refine ⟨_,rfl,?_⟩
 replace hB:=hB.trans af
 replace L2:=L2.gr af
 refine ⟨L2,?_⟩
 simp only [p3,p4]
 refine ov 12 (.bool ((sgn (D - 1)==(0:Int)))) ?_
 refine ov 13 (.bool ((sgn (D - 1)==(0:Int)))) ?_
 refine ov 2 (.bool ((sgn (D - 1)==(0:Int)))) ?_
 refine zc0 ?_
 refine k3 _ _ ?_
 try clear k3 K3
 refine wp_ret ?_
 refine bodyPost_ret (v:=(.bool ((sgn (D - 1)==(0:Int))))) (zb0 rfl rfl) rfl ⟨?_,hB⟩
 exact rfl

set_option maxRecDepth 100000 in
set_option maxHeartbeats 1000000 in
theorem den_z {k:Nat} {c0 c1 c2 c3:Value} {w:World} (hd:IsInt w k c2 c3 0):
    Calls Tryz.prog 81 #[(.agg #[c0,c1,c2,c3])] w fun e w'=>(∃ x' y',e=.returned (.agg #[x',y'])∧IsInt w' 64 x' y' (1))∧Gr w w':=by
 go_enter Tryz.func81,Tryz.ntmps81
 have hB:=Gr.refl w
 refine wp_seq_k (fun K1 k1=>?_)
 refine rg [0,1] ?_
 refine se ?_
 refine eb 36 #[c0,c1,c2,c3] 1 hB fun b2 w2 g2 L2 o2 q2 hB=>?_
 simp only [p3,p4]
 refine se ?_
 refine ea 34 #[.bool false,.slice none 0 0] 2 hB fun b3 w3 g3 L3 o3 q3 hB=>?_
 simp only [p3,p4]
 refine za0 ?_
 refine k1 _ _ ?_
 try clear k1 K1
 refine wp_seq_k (fun K4 k4=>?_)
 refine wp_seq_k (fun K5 k5=>?_)
 refine rg [0,1,2,3] ?_
 refine sv 3 (.pointer (some ⟨b2,2,none⟩)) ?_
 replace L2:=L2.gr g3
 refine sw 4 (.agg #[c2,c3]) rfl (rl 34 2 [c2,c3] L2) ?_
 refine se ?_
 have ab:=g2.kp.trans g3.kp
 replace hd:=hd.kp ab
 refine ec 5 (zI5 hd) ?_
 rintro e6 w6 ⟨rfl,g6⟩
 refine ⟨_,rfl,?_⟩
 replace hB:=hB.trans g6
 simp only [p3,p4]
 refine sv 6 (.bool true) ?_
 refine za0 ?_
 refine k5 _ _ ?_
 try clear k5 K5
 refine wp_cond_true rfl ?_
 refine wp_seq_k (fun K8 k8=>?_)
 refine rg [0,1] ?_
 refine se ?_
 refine ec 7 (zI1 _) ?_
 rintro e9 w9 ⟨⟨x9,y9,rfl,h9⟩,g9⟩
 refine ⟨_,rfl,?_⟩
 replace hB:=hB.trans g9
 simp only [p3,p4]
 refine se ?_
 replace L3:=L3.gr (g6.trans g9)
 refine es 34 0 (.agg #[x9,y9]) [x9,y9] #[x9,y9] L3 hB q3 ⟨h9.one0,h9.one1,trivial⟩ fun ad ac aa L3 hB=>?_
 refine za0 ?_
 refine k8 _ _ ?_
 try clear k8 K8
 refine wp_ret ?_
 simp only [Exit.then]
 refine bodyPost_ret (v:=(.agg #[x9,y9])) (zb3 _ _ _ rfl rfl L3 (by kernel_rfl)) rfl ⟨?_,hB⟩
 replace h9:=h9.kp aa
 exact ⟨_,_,rfl,h9⟩

set_option maxRecDepth 100000 in
set_option maxHeartbeats 1000000 in
theorem den_p {k:Nat} {c0 c1 c2 c3:Value} {D:Int} {w:World} (hd:IsInt w k c2 c3 D) (_h0:0<D):
    Calls Tryz.prog 81 #[(.agg #[c0,c1,c2,c3])] w fun e w'=>(∃ x' y',e=.returned (.agg #[x',y'])∧IsInt w' k x' y' (D))∧Gr w w':=by
 go_enter Tryz.func81,Tryz.ntmps81
 have hB:=Gr.refl w
 refine wp_seq_k (fun K1 k1=>?_)
 refine rg [0,1] ?_
 refine se ?_
 refine eb 36 #[c0,c1,c2,c3] 1 hB fun b2 w2 g2 L2 o2 q2 hB=>?_
 simp only [p3,p4]
 refine se ?_
 refine ea 34 #[.bool false,.slice none 0 0] 2 hB fun b3 w3 g3 L3 o3 q3 hB=>?_
 simp only [p3,p4]
 refine za0 ?_
 refine k1 _ _ ?_
 try clear k1 K1
 refine wp_seq_k (fun K4 k4=>?_)
 refine wp_seq_k (fun K5 k5=>?_)
 refine rg [0,1,2,3] ?_
 refine sv 3 (.pointer (some ⟨b2,2,none⟩)) ?_
 replace L2:=L2.gr g3
 refine sw 4 (.agg #[c2,c3]) rfl (rl 34 2 [c2,c3] L2) ?_
 refine se ?_
 have ab:=g2.kp.trans g3.kp
 replace hd:=hd.kp ab
 refine ec 5 (zl0 hd (by omega)) ?_
 rintro e6 w6 ⟨rfl,g6⟩
 refine ⟨_,rfl,?_⟩
 replace hB:=hB.trans g6
 simp only [p3,p4]
 refine sv 6 (.bool false) ?_
 refine za0 ?_
 refine k5 _ _ ?_
 try clear k5 K5
 refine wp_cond_false rfl ?_
 refine wp_skip ?_
 refine k4 _ _ ?_
 try clear k4 K4
 refine wp_seq_k (fun K8 k8=>?_)
 refine rg [0,1,2] ?_
 refine sv 8 (.pointer (some ⟨b2,2,none⟩)) ?_
 replace L2:=L2.gr g6
 refine sw 9 (.agg #[c2,c3]) rfl (rl 34 2 [c2,c3] L2) ?_
 refine se ?_
 replace L3:=L3.gr g6
 refine es 34 0 (.agg #[c2,c3]) [c2,c3] #[c2,c3] L3 hB q3 ⟨hd.one0,hd.one1,trivial⟩ fun w9 ad ac L3 hB=>?_
 refine za0 ?_
 refine k8 _ _ ?_
 try clear k8 K8
 refine wp_ret ?_
 refine bodyPost_ret (v:=(.agg #[c2,c3])) (zb3 _ _ _ rfl rfl L3 (by kernel_rfl)) rfl ⟨?_,hB⟩
 have aa:=g6.kp.trans ac
 replace hd:=hd.kp aa
 exact ⟨_,_,rfl,hd⟩

set_option maxRecDepth 100000 in
set_option maxHeartbeats 1000000 in
theorem yo0 {k:Nat} {n0 n1 d0 d1:Value} {N D:Int} {w:World} (hn:IsInt w k n0 n1 N) (hd:IsInt w k d0 d1 D) (_hk:k+k+k+k+k+k+66≤1000000) (_h0:0<D) (hg:(sgn ((Int.gcd (N) (D):Int) - 1) !=0)=false):
    Calls Tryz.prog 95 #[(.agg #[n0,n1]),(.agg #[d0,d1])] w fun e w'=>(∃ x y x2 y2,e=.returned (.agg #[x,y,x2,y2])∧IsInt w' k x y (N)∧IsInt w' k x2 y2 (D))∧Gr w w':=by
 go_enter Tryz.func95,Tryz.ntmps95
 have hB:=Gr.refl w
 refine wp_seq_k (fun K1 k1=>?_)
 refine rg [0,1,2] ?_
 refine se ?_
 refine eb 34 #[n0,n1] 2 hB fun b2 w2 g2 L2 o2 q2 hB=>?_
 simp only [p3,p4]
 refine se ?_
 refine eb 34 #[d0,d1] 3 hB fun b3 w3 g3 L3 o3 q3 hB=>?_
 simp only [p3,p4]
 refine se ?_
 refine ea 36 #[.bool false,.slice none 0 0,.bool false,.slice none 0 0] 4 hB fun b4 w4 g4 L4 o4 q4 hB=>?_
 replace L2:=L2.gr g3
 simp only [p3,p4]
 refine za0 ?_
 refine k1 _ _ ?_
 try clear k1 K1
 refine wp_seq_k (fun K5 k5=>?_)
 refine wp_seq_k (fun K6 k6=>?_)
 refine rg [0,1,2] ?_
 replace L3:=L3.gr g4
 refine sw 6 (.agg #[d0,d1]) rfl (rl 34 0 [d0,d1] L3) ?_
 refine se ?_
 have aG:=g2.kp.trans (g3.kp.trans g4.kp)
 replace hd:=hd.kp aG
 refine ec 7 (zl0 hd (by omega)) ?_
 rintro e7 w7 ⟨rfl,g7⟩
 refine ⟨_,rfl,?_⟩
 replace hB:=hB.trans g7
 simp only [p3,p4]
 refine sv 8 (.bool false) ?_
 refine za0 ?_
 refine k6 _ _ ?_
 try clear k6 K6
 refine wp_cond_false rfl ?_
 refine wp_skip ?_
 refine k5 _ _ ?_
 try clear k5 K5
 refine wp_seq_k (fun K9 k9=>?_)
 refine rg [0,1,2,3,4] ?_
 replace L2:=L2.gr (g4.trans g7)
 refine sw 13 (.agg #[n0,n1]) rfl (rl 34 0 [n0,n1] L2) ?_
 replace L3:=L3.gr g7
 refine sw 14 (.agg #[d0,d1]) rfl (rl 34 0 [d0,d1] L3) ?_
 refine se ?_
 have av:=g2.kp.trans (g3.kp.trans (g4.kp.trans g7.kp))
 replace hn:=hn.kp av
 replace hd:=hd.kp g7.kp
 refine ec 15 (yd3 hn hd (by omega)) ?_
 rintro aO aT ⟨⟨ak,aj,rfl,au⟩,ar⟩
 refine ⟨_,rfl,?_⟩
 replace hB:=hB.trans ar
 simp only [p3,p4]
 refine se ?_
 refine ea 34 #[.bool false,.slice none 0 0] 5 hB fun aH aQ al ab ay q12 hB=>?_
 replace L2:=L2.gr ar
 have ae:=L2.ne ay
 replace L3:=L3.gr ar
 have ac:=L3.ne ay
 replace L4:=L4.gr (g7.trans ar)
 have af:=L4.ne ay
 simp only [p3,p4]
 refine se ?_
 refine es 34 0 (.agg #[ak,aj]) [ak,aj] #[ak,aj] ab hB q12 ⟨au.one0,au.one1,trivial⟩ fun aJ ah ap ab hB=>?_
 refine za0 ?_
 refine k9 _ _ ?_
 try clear k9 K9
 refine wp_seq_k (fun aE aB=>?_)
 refine wp_seq_k (fun aC aA=>?_)
 have aa:=Gr.drew aJ
 replace hB:=hB.trans aa
 replace ab:=ab.gr aa
 refine za3 (fun w'=>Lc w' aH #[ak,aj] 34) [(true,0),(false,1),(false,2),(true,3)] (by kernel_rfl) (by kernel_rfl) (by kernel_rfl) (by decide) (fun _ _ _ _ _ h=>h) ab ?_
 refine ow 16 (.agg #[ak,aj]) rfl (fun w' hS=>(rl 34 0 [ak,aj] hS)) ?_
 refine oe ?_
 refine ec 17 (zI1 _) ?_
 rintro aM aR ⟨⟨aN,aL,rfl,aD⟩,ad⟩
 refine ⟨_,rfl,?_⟩
 replace hB:=hB.trans ad
 replace ab:=ab.gr ad
 refine ⟨ab,?_⟩
 simp only [p3,p4]
 refine oe ?_
 have aw:=al.kp.trans (ap.trans (aa.kp.trans ad.kp))
 replace au:=au.kp aw
 refine ec 18 (ze5 au aD (by omega) (by omega)) ?_
 rintro aK aP ⟨rfl,ai⟩
 refine ⟨_,rfl,?_⟩
 replace hB:=hB.trans ai
 replace ab:=ab.gr ai
 refine ⟨ab,?_⟩
 simp only [p3,p4]
 refine ow 19 (.bool false) rfl (fun w' hS=>(RunV.bool (x:=(sgn ((Int.gcd (N) (D):Int) - 1) !=(0:Int))) (rvk (by kernel_rfl)) hg)) ?_
 refine zc0 ?_
 refine aA _ _ ?_
 try clear aA aC
 refine wp_cond_false rfl ?_
 refine wp_skip ?_
 refine aB _ _ ?_
 try clear aB aE
 refine wp_seq_k (fun aI az=>?_)
 refine rg [0,1,2,3] ?_
 replace L2:=(ah.lc (L2.gr al) ae).gr (aa.trans (ad.trans ai))
 refine sw 34 (.agg #[n0,n1]) rfl (rl 34 0 [n0,n1] L2) ?_
 replace L3:=(ah.lc (L3.gr al) ac).gr (aa.trans (ad.trans ai))
 refine sw 35 (.agg #[d0,d1]) rfl (rl 34 0 [d0,d1] L3) ?_
 refine sv 36 (.agg #[n0,n1,d0,d1]) ?_
 refine se ?_
 replace L4:=(ah.lc (L4.gr al) af).gr (aa.trans (ad.trans ai))
 refine es 36 0 (.agg #[n0,n1,d0,d1]) [n0,n1,d0,d1] #[n0,n1,d0,d1] L4 hB q4 ⟨hn.one0,hn.one1,hd.one0,hd.one1,trivial⟩ fun aS aF ax L4 hB=>?_
 refine za0 ?_
 refine az _ _ ?_
 try clear az aI
 refine wp_ret ?_
 refine bodyPost_ret (v:=(.agg #[n0,n1,d0,d1])) (zb3 _ _ _ rfl rfl L4 (by kernel_rfl)) rfl ⟨?_,hB⟩
 have aq:=ar.kp.trans (al.kp.trans (ap.trans (aa.kp.trans (ad.kp.trans (ai.kp.trans ax)))))
 replace hn:=hn.kp aq
 replace hd:=hd.kp aq
 exact ⟨_,_,_,_,rfl,hn,hd⟩

set_option maxRecDepth 100000 in
set_option maxHeartbeats 1000000 in
theorem yo1 {k:Nat} {n0 n1 d0 d1:Value} {N D:Int} {w:World} (hn:IsInt w k n0 n1 N) (hd:IsInt w k d0 d1 D) (_hk:k+k+k+k+k+k+66≤1000000) (_h0:0<D) (hg:(sgn ((Int.gcd (N) (D):Int) - 1) !=0)=true) (hxn:0<(Int.gcd (N) (D):Int)∧(Int.gcd (N) (D):Int)∣N) (_hxd:0<(Int.gcd (N) (D):Int)∧(Int.gcd (N) (D):Int)∣D):
    Calls Tryz.prog 95 #[(.agg #[n0,n1]),(.agg #[d0,d1])] w fun e w'=>(∃ x y x2 y2,e=.returned (.agg #[x,y,x2,y2])∧IsInt w' k x y (N/(Int.gcd (N) (D):Int))∧IsInt w' k x2 y2 (D/(Int.gcd (N) (D):Int)))∧Gr w w':=by
 go_enter Tryz.func95,Tryz.ntmps95
 have hB:=Gr.refl w
 refine wp_seq_k (fun K1 k1=>?_)
 refine rg [0,1,2] ?_
 refine se ?_
 refine eb 34 #[n0,n1] 2 hB fun b2 w2 g2 L2 o2 q2 hB=>?_
 simp only [p3,p4]
 refine se ?_
 refine eb 34 #[d0,d1] 3 hB fun b3 w3 g3 L3 o3 q3 hB=>?_
 have al:=L2.ne o3
 simp only [p3,p4]
 refine se ?_
 refine ea 36 #[.bool false,.slice none 0 0,.bool false,.slice none 0 0] 4 hB fun b4 w4 g4 L4 o4 q4 hB=>?_
 replace L2:=L2.gr g3
 have aG:=L2.ne o4
 have aF:=L3.ne o4
 simp only [p3,p4]
 refine za0 ?_
 refine k1 _ _ ?_
 try clear k1 K1
 refine wp_seq_k (fun K5 k5=>?_)
 refine wp_seq_k (fun K6 k6=>?_)
 refine rg [0,1,2] ?_
 replace L3:=L3.gr g4
 refine sw 6 (.agg #[d0,d1]) rfl (rl 34 0 [d0,d1] L3) ?_
 refine se ?_
 have a3:=g2.kp.trans (g3.kp.trans g4.kp)
 replace hd:=hd.kp a3
 refine ec 7 (zl0 hd (by omega)) ?_
 rintro e7 w7 ⟨rfl,g7⟩
 refine ⟨_,rfl,?_⟩
 replace hB:=hB.trans g7
 simp only [p3,p4]
 refine sv 8 (.bool false) ?_
 refine za0 ?_
 refine k6 _ _ ?_
 try clear k6 K6
 refine wp_cond_false rfl ?_
 refine wp_skip ?_
 refine k5 _ _ ?_
 try clear k5 K5
 refine wp_seq_k (fun K9 k9=>?_)
 refine rg [0,1,2,3,4] ?_
 replace L2:=L2.gr (g4.trans g7)
 refine sw 13 (.agg #[n0,n1]) rfl (rl 34 0 [n0,n1] L2) ?_
 replace L3:=L3.gr g7
 refine sw 14 (.agg #[d0,d1]) rfl (rl 34 0 [d0,d1] L3) ?_
 refine se ?_
 have aQ:=g2.kp.trans (g3.kp.trans (g4.kp.trans g7.kp))
 replace hn:=hn.kp aQ
 replace hd:=hd.kp g7.kp
 refine ec 15 (yd3 hn hd (by omega)) ?_
 rintro bj bt ⟨⟨ak,aj,rfl,ai⟩,aD⟩
 refine ⟨_,rfl,?_⟩
 replace hB:=hB.trans aD
 simp only [p3,p4]
 refine se ?_
 refine ea 34 #[.bool false,.slice none 0 0] 5 hB fun a5 bn aC ab aV q12 hB=>?_
 replace L2:=L2.gr aD
 have ah:=L2.ne aV
 replace L3:=L3.gr aD
 have ar:=L3.ne aV
 replace L4:=L4.gr (g7.trans aD)
 have aA:=L4.ne aV
 simp only [p3,p4]
 refine se ?_
 refine es 34 0 (.agg #[ak,aj]) [ak,aj] #[ak,aj] ab hB q12 ⟨ai.one0,ai.one1,trivial⟩ fun a8 aB av ab hB=>?_
 refine za0 ?_
 refine k9 _ _ ?_
 try clear k9 K9
 refine wp_seq_k (fun a2 aZ=>?_)
 refine wp_seq_k (fun a0 aY=>?_)
 have aa:=Gr.drew a8
 replace hB:=hB.trans aa
 replace ab:=ab.gr aa
 refine za3 (fun w'=>Lc w' a5 #[ak,aj] 34) [(true,0),(false,1),(false,2),(true,3)] (by kernel_rfl) (by kernel_rfl) (by kernel_rfl) (by decide) (fun _ _ _ _ _ h=>h) ab ?_
 refine ow 16 (.agg #[ak,aj]) rfl (fun w' hS=>(rl 34 0 [ak,aj] hS)) ?_
 refine oe ?_
 refine ec 17 (zI1 _) ?_
 rintro bg bo ⟨⟨bi,bd,rfl,a1⟩,aq⟩
 refine ⟨_,rfl,?_⟩
 replace hB:=hB.trans aq
 replace ab:=ab.gr aq
 refine ⟨ab,?_⟩
 simp only [p3,p4]
 refine oe ?_
 have aR:=aC.kp.trans (av.trans (aa.kp.trans aq.kp))
 replace ai:=ai.kp aR
 refine ec 18 (ze5 ai a1 (by omega) (by omega)) ?_
 rintro bc bk ⟨rfl,ap⟩
 refine ⟨_,rfl,?_⟩
 replace hB:=hB.trans ap
 replace ab:=ab.gr ap
 refine ⟨ab,?_⟩
 simp only [p3,p4]
 refine ow 19 (.bool true) rfl (fun w' hS=>(RunV.bool (x:=(sgn ((Int.gcd (N) (D):Int) - 1) !=(0:Int))) (rvk (by kernel_rfl)) hg)) ?_
 refine zc0 ?_
 refine aY _ _ ?_
 try clear aY a0
 refine wp_cond_true rfl ?_
 refine wp_seq_k (fun a6 aW=>?_)
 refine rg [0,1,2,3,4,5,6,7] ?_
 replace L2:=(aB.lc (L2.gr aC) ah).gr (aa.trans (aq.trans ap))
 refine sw 21 (.agg #[n0,n1]) rfl (rl 34 0 [n0,n1] L2) ?_
 refine sw 22 (.agg #[ak,aj]) rfl (rl 34 0 [ak,aj] ab) ?_
 refine se ?_
 have aT:=aD.kp.trans (aC.kp.trans (av.trans (aa.kp.trans (aq.kp.trans ap.kp))))
 replace hn:=hn.kp aT
 replace ai:=ai.kp ap.kp
 refine ec 23 (zy2 hn ai hxn.1 (by omega)) ?_
 rintro bh bp ⟨⟨ae,ad,aL,aM,rfl,ay,a4⟩,au⟩
 refine ⟨_,rfl,?_⟩
 replace hB:=hB.trans au
 simp only [p3,p4]
 refine sv 20 (.tuple #[(.agg #[ae,ad]),(.agg #[aL,aM]),.int .i64 0]) ?_
 refine sv 24 (.agg #[ae,ad]) ?_
 refine sv 25 (.agg #[aL,aM]) ?_
 refine sv 26 (.int .i64 0) ?_
 refine se ?_
 replace L2:=L2.gr au
 refine es 34 0 (.agg #[ae,ad]) [ae,ad] #[ae,ad] L2 hB q2 ⟨ay.one0,ay.one1,trivial⟩ fun bq az aw L2 hB=>?_
 refine za0 ?_
 refine aW _ _ ?_
 try clear aW a6
 refine rg [0,1,2,3,4,5,6,7] ?_
 replace L3:=az.lc ((aB.lc (L3.gr aC) ar).gr (aa.trans (aq.trans (ap.trans au)))) (Ne.symm al)
 refine sw 28 (.agg #[d0,d1]) rfl (rl 34 0 [d0,d1] L3) ?_
 replace ab:=az.lc (ab.gr au) (Ne.symm ah)
 refine sw 29 (.agg #[ak,aj]) rfl (rl 34 0 [ak,aj] ab) ?_
 refine se ?_
 have aS:=aD.kp.trans (aC.kp.trans (av.trans (aa.kp.trans (aq.kp.trans (ap.kp.trans (au.kp.trans aw))))))
 replace hd:=hd.kp aS
 have aP:=au.kp.trans aw
 replace ai:=ai.kp aP
 refine ec 30 (zy2 hd ai hxn.1 (by omega)) ?_
 rintro e32 bm ⟨⟨af,ac,aI,aE,rfl,ax,ba⟩,aH⟩
 refine ⟨_,rfl,?_⟩
 replace hB:=hB.trans aH
 simp only [p3,p4]
 refine sv 27 (.tuple #[(.agg #[af,ac]),(.agg #[aI,aE]),.int .i64 0]) ?_
 refine sv 31 (.agg #[af,ac]) ?_
 refine sv 32 (.agg #[aI,aE]) ?_
 refine sv 33 (.int .i64 0) ?_
 refine se ?_
 replace L3:=L3.gr aH
 refine es 34 0 (.agg #[af,ac]) [af,ac] #[af,ac] L3 hB q3 ⟨ax.one0,ax.one1,trivial⟩ fun bf aJ aK L3 hB=>?_
 refine za0 ?_
 refine aZ _ _ ?_
 try clear aZ a2
 refine wp_seq_k (fun a7 aX=>?_)
 refine rg [0,1,2,3] ?_
 replace L2:=aJ.lc (L2.gr aH) al
 refine sw 34 (.agg #[ae,ad]) rfl (rl 34 0 [ae,ad] L2) ?_
 refine sw 35 (.agg #[af,ac]) rfl (rl 34 0 [af,ac] L3) ?_
 refine sv 36 (.agg #[ae,ad,af,ac]) ?_
 refine se ?_
 replace L4:=aJ.lc ((az.lc ((aB.lc (L4.gr aC) aA).gr (aa.trans (aq.trans (ap.trans au)))) (Ne.symm aG)).gr aH) (Ne.symm aF)
 refine es 36 0 (.agg #[ae,ad,af,ac]) [ae,ad,af,ac] #[ae,ad,af,ac] L4 hB q4 ⟨ay.one0,ay.one1,ax.one0,ax.one1,trivial⟩ fun bb a9 aN L4 hB=>?_
 refine za0 ?_
 refine aX _ _ ?_
 try clear aX a7
 refine wp_ret ?_
 refine bodyPost_ret (v:=(.agg #[ae,ad,af,ac])) (zb3 _ _ _ rfl rfl L4 (by kernel_rfl)) rfl ⟨?_,hB⟩
 have aO:=aw.trans (aH.kp.trans (aK.trans aN))
 replace ay:=ay.kp aO
 have aU:=aK.trans aN
 replace ax:=ax.kp aU
 exact ⟨_,_,_,_,rfl,ay,ax⟩

theorem zc4 {z:Int}:sgn z=0↔z=0:=by
 unfold sgn
 by_cases h:z<0
 ·rw [if_pos h];omega
 ·rw [if_neg h]
  by_cases h2:z=0
  ·simp [h2]
  ·rw [if_neg h2];omega
theorem yz6 {k:Nat} {c0 c1 c2 c3:Value} {q:Rat} {w:World} (h:IsRat w k c0 c1 c2 c3 q) (hk:k≤1000000):
  Calls Tryz.prog 78 #[.agg #[c0,c1,c2,c3]] w fun e w'=>e=.returned (.bool (decide (q.den=1)))∧Gr w w':=by
 obtain ⟨D,h2,h3⟩:=h.den
 have hp:=q.den_pos
 rcases h3 with h3 | ⟨h3,h4⟩
 ·have e:(sgn (D - 1)==0)=decide (q.den=1):=by
   rw [Bool.eq_iff_iff,beq_iff_eq,zc4,decide_eq_true_iff];omega
  have:=whole_p (c0:=c0) (c1:=c1) h2 (by omega) hk
  rw [e] at this
  exact this
 ·subst h3
  have e:decide (q.den=1)=true:=by simpa using h4
  rw [e]
  exact whole_z h2
theorem zm8 {k:Nat} {c0 c1 c2 c3:Value} {q:Rat} {w:World} (h:IsRat w k c0 c1 c2 c3 q) (hk:k≤1000000) (hq:q.den=1):
  Calls Tryz.prog 78 #[.agg #[c0,c1,c2,c3]] w fun e w'=>e=.returned (.bool true)∧Gr w w':=by
 have:=yz6 h hk
 rw [decide_eq_true hq] at this
 exact this
theorem zw5 {k:Nat} {c0 c1 c2 c3:Value} {q:Rat} {w:World} (h:IsRat w k c0 c1 c2 c3 q) (hk:k≤1000000) (hq:q.den≠1):
  Calls Tryz.prog 78 #[.agg #[c0,c1,c2,c3]] w fun e w'=>e=.returned (.bool false)∧Gr w w':=by
 have:=yz6 h hk
 rw [decide_eq_false hq] at this
 exact this
theorem zo3 {k:Nat} {c0 c1 c2 c3:Value} {q:Rat} {w:World} (h:IsRat w k c0 c1 c2 c3 q):
  Calls Tryz.prog 81 #[.agg #[c0,c1,c2,c3]] w fun e w'=>(∃ x' y',e=.returned (.agg #[x',y'])∧IsInt w' k x' y' (q.den:Int))∧Gr w w':=by
 obtain ⟨D,h2,h3⟩:=h.den
 have hp:=q.den_pos
 rcases h3 with h3 | ⟨h3,h4⟩
 ·subst h3
  exact den_p h2 (by omega)
 ·subst h3
  refine (den_z (c0:=c0) (c1:=c1) h2).mono ?_
  rintro e w1 ⟨⟨x,y,he,hi⟩,g⟩
  rw [h4]
  exact ⟨⟨x,y,he,hi.mono h.big⟩,g⟩
theorem add_e {k m:Nat} (n:Nat) {x y x2 y2:Value} {z u:Int} {w:World} (hz:IsInt w k x y z) (hu:IsInt w m x2 y2 u) (h1:k≤n) (h2:m≤n) (hk:2*n+1≤1000000):
  Calls Tryz.prog 129 #[.agg #[x,y],.agg #[x2,y2]] w fun e w'=>(∃ x' y',e=.returned (.agg #[x',y'])∧IsInt w' (n+1) x' y' (z+u))∧Gr w w':=by
 refine (add_i (hz.mono h1) (hu.mono h2) (by omega)).mono ?_
 rintro e w1 ⟨⟨x,y,he,hi⟩,g⟩
 exact ⟨⟨x,y,he,hi.resz ((hz.sz.mono h1).add' (hu.sz.mono h2))⟩,g⟩

theorem zs6 {k m:Nat} (K:Nat) {n0 n1 d0 d1:Value} {N D:Int} {w:World} (hn:IsInt w k n0 n1 N) (hd:IsInt w m d0 d1 D) (h0:0<D) (h1:k≤K) (h2:m≤K) (h3:64≤K) (h4:8*K≤1000000):
  Calls Tryz.prog 95 #[.agg #[n0,n1],.agg #[d0,d1]] w fun e w'=>(∃ c0 c1 c2 c3,e=.returned (.agg #[c0,c1,c2,c3])∧IsRat w' K c0 c1 c2 c3 (Rat.divInt N D))∧Gr w w':=by
 have hN:=hn.mono h1
 have hD:=hd.mono h2
 have en:(Rat.divInt N D).num=N/(Int.gcd N D:Int):=by
  rw [Rat.num_divInt,Int.sign_eq_one_of_pos h0,Int.one_mul,Int.gcd_comm]
 have ed:((Rat.divInt N D).den:Int)=D/(Int.gcd N D:Int):=by
  rw [Rat.den_divInt,if_neg (by omega),Int.gcd_comm,Int.natCast_ediv]
  congr 1
  omega
 have ab:0<(Int.gcd N D:Int):=by
  have:Int.gcd N D≠0:=by rw [Ne,Int.gcd_eq_zero_iff];omega
  omega
 by_cases hg:(Int.gcd N D:Int)=1
 ·refine (yo0 hN hD (by omega) h0 (by rw [hg];rfl)).mono ?_
  rintro e w1 ⟨⟨x,y,x2,y2,he,hi,aa⟩,g⟩
  rw [hg,Int.ediv_one] at en ed
  exact ⟨⟨x,y,x2,y2,he,by rw [en];exact hi,⟨D,aa,.inl ed.symm⟩,h3⟩,g⟩
 ·have hb:(sgn ((Int.gcd N D:Int) - 1) !=0)=true:=by
   have:sgn ((Int.gcd N D:Int) - 1)≠0:=fun h=>hg (by have:=zc4.1 h;omega)
   simpa using this
  refine (yo1 hN hD (by omega) h0 hb ⟨ab,Int.gcd_dvd_left ..⟩ ⟨ab,Int.gcd_dvd_right ..⟩).mono ?_
  rintro e w1 ⟨⟨x,y,x2,y2,he,hi,aa⟩,g⟩
  exact ⟨⟨x,y,x2,y2,he,by rw [en];exact hi,⟨_,aa,.inl ed.symm⟩,h3⟩,g⟩

theorem zT7 (a b:Rat):Rat.divInt (a.num*b.den+b.num*a.den) (a.den*b.den)=a+b:=by
 have:=Rat.divInt_add_divInt a.num b.num (d₁:=a.den) (d₂:=b.den) (by have:=a.den_pos;omega) (by have:=b.den_pos;omega)
 rw [Rat.num_divInt_den,Rat.num_divInt_den] at this
 exact this.symm
theorem zT8 (a b:Rat):Rat.divInt (a.num*b.num) (a.den*b.den)=a*b:=by
 have:=Rat.divInt_mul_divInt a.num b.num (d₁:=a.den) (d₂:=b.den)
 rw [Rat.num_divInt_den,Rat.num_divInt_den] at this
 exact this.symm
theorem zK4 {q:Rat} (h:q.den=1):((q.num:Int):Rat)=q:=by
 apply Rat.ext
 ·exact Rat.num_intCast _
 ·rw [h];exact Rat.den_intCast _
theorem ye4 (a b:Rat):Rat.divInt (a.num*b.den) (a.den*b.num)=a/b:=by
 rw [Rat.div_def,Rat.inv_def]
 have:=Rat.divInt_mul_divInt a.num b.den (d₁:=a.den) (d₂:=b.num)
 rw [Rat.num_divInt_den] at this
 exact this.symm
theorem IsRat.neg {w:World} {k:Nat} {c0 c1 c2 c3 x y:Value} {q:Rat} (h:IsRat w k c0 c1 c2 c3 q) (hi:IsInt w k x y (-q.num)):IsRat w k x y c2 c3 (-q):=by
 obtain ⟨D,h2,h3⟩:=h.den
 exact ⟨hi,⟨D,h2,h3⟩,h.big⟩
def yp9 (a b:Rat):Int:=sgn (a.num*b.den - b.num*a.den)
theorem rcmp_int {a b:Rat} (ha:a.den=1) (hb:b.den=1):yp9 a b=sgn (a.num - b.num):=by
 unfold yp9;rw [ha,hb];simp
theorem zZ0 {a b:Rat}:yp9 a b=0↔a=b:=by
 unfold yp9
 rw [zc4]
 constructor
 ·intro h
  rw [← Rat.num_divInt_den a,← Rat.num_divInt_den b]
  rw [Rat.divInt_eq_divInt_iff (by have:=a.den_pos;omega) (by have:=b.den_pos;omega)]
  omega
 ·rintro rfl;omega
set_option maxRecDepth 100000 in
set_option maxHeartbeats 1000000 in
theorem add_tt {k m:Nat} {u0 u1 u2 u3 v0 v1 v2 v3:Value} {a b:Rat} {w:World} (ha:IsRat w k u0 u1 u2 u3 a) (hb:IsRat w m v0 v1 v2 v3 b) (_hk:k+m≤100000) (wa:a.den=1) (wb:b.den=1):
    Calls Tryz.prog 103 #[(.agg #[u0,u1,u2,u3]),(.agg #[v0,v1,v2,v3])] w fun e w'=>(∃ c0 c1 c2 c3,e=.returned (.agg #[c0,c1,c2,c3])∧IsRat w' (k+m+1) c0 c1 c2 c3 (a+b))∧Gr w w':=by
 have hka:=ha.big
 have hkb:=hb.big
 go_enter Tryz.func103,Tryz.ntmps103
 have hB:=Gr.refl w
 refine wp_seq_k (fun K1 k1=>?_)
 refine rg [0,1,2] ?_
 refine se ?_
 refine eb 36 #[u0,u1,u2,u3] 2 hB fun b2 w2 g2 L2 o2 q2 hB=>?_
 simp only [p3,p4]
 refine se ?_
 refine eb 36 #[v0,v1,v2,v3] 3 hB fun b3 w3 g3 L3 o3 q3 hB=>?_
 simp only [p3,p4]
 refine se ?_
 refine ea 36 #[.bool false,.slice none 0 0,.bool false,.slice none 0 0] 4 hB fun b4 w4 g4 L4 o4 q4 hB=>?_
 replace L2:=L2.gr g3
 simp only [p3,p4]
 refine za0 ?_
 refine k1 _ _ ?_
 try clear k1 K1
 refine wp_seq_k (fun K5 k5=>?_)
 refine wp_seq_k (fun K6 k6=>?_)
 refine rg [0,1,2,3,4,5] ?_
 replace L2:=L2.gr g4
 refine sw 5 (.agg #[u0,u1,u2,u3]) rfl (rl 36 0 [u0,u1,u2,u3] L2) ?_
 refine se ?_
 have aj:=g2.kp.trans (g3.kp.trans g4.kp)
 replace ha:=ha.kp aj
 refine ec 6 (zm8 ha (by omega) wa) ?_
 rintro e7 w7 ⟨rfl,g7⟩
 refine ⟨_,rfl,?_⟩
 replace hB:=hB.trans g7
 simp only [p3,p4]
 refine sv 7 (.bool true) ?_
 replace L3:=L3.gr (g4.trans g7)
 refine sw 8 (.agg #[v0,v1,v2,v3]) rfl (rl 36 0 [v0,v1,v2,v3] L3) ?_
 refine se ?_
 have ad:=g2.kp.trans (g3.kp.trans (g4.kp.trans g7.kp))
 replace hb:=hb.kp ad
 refine ec 9 (zm8 hb (by omega) wb) ?_
 rintro e9 w9 ⟨rfl,g9⟩
 refine ⟨_,rfl,?_⟩
 replace hB:=hB.trans g9
 simp only [p3,p4]
 refine sv 10 (.bool true) ?_
 refine za0 ?_
 refine k6 _ _ ?_
 try clear k6 K6
 refine wp_cond_true rfl ?_
 refine wp_seq_k (fun ak ai=>?_)
 refine rg [0,1,2,3,4,5,6] ?_
 refine sv 11 (.pointer (some ⟨b2,0,none⟩)) ?_
 replace L2:=L2.gr (g7.trans g9)
 refine sw 12 (.agg #[u0,u1]) rfl (rl 34 0 [u0,u1] L2) ?_
 refine sv 13 (.pointer (some ⟨b3,0,none⟩)) ?_
 replace L3:=L3.gr g9
 refine sw 14 (.agg #[v0,v1]) rfl (rl 34 0 [v0,v1] L3) ?_
 refine se ?_
 have ae:=g7.kp.trans g9.kp
 replace ha:=ha.kp ae
 replace hb:=hb.kp g9.kp
 refine ec 15 (add_e (k+m) ha.num hb.num (by omega) (by omega) (by omega)) ?_
 rintro e12 ap ⟨⟨ab,aa,rfl,ac⟩,ah⟩
 refine ⟨_,rfl,?_⟩
 replace hB:=hB.trans ah
 simp only [p3,p4]
 refine sv 16 (.agg #[ab,aa,.bool false,.slice none 0 0]) ?_
 refine se ?_
 replace L4:=L4.gr (g7.trans (g9.trans ah))
 refine es 36 0 (.agg #[ab,aa,.bool false,.slice none 0 0]) [ab,aa,.bool false,.slice none 0 0] #[ab,aa,.bool false,.slice none 0 0] L4 hB q4 ⟨ac.one0,ac.one1,rfl,rfl,trivial⟩ fun aq al af L4 hB=>?_
 refine za0 ?_
 refine ai _ _ ?_
 try clear ai ak
 refine wp_ret ?_
 simp only [Exit.then]
 refine bodyPost_ret (v:=(.agg #[ab,aa,.bool false,.slice none 0 0])) (zb3 _ _ _ rfl rfl L4 (by kernel_rfl)) rfl ⟨?_,hB⟩
 replace ac:=ac.kp af
 exact ⟨_,_,_,_,rfl,by rw [← zK4 wa,← zK4 wb,← Rat.intCast_add];exact IsRat.int ac (by omega)⟩

set_option maxRecDepth 100000 in
set_option maxHeartbeats 1000000 in
theorem add_tf {k m:Nat} {u0 u1 u2 u3 v0 v1 v2 v3:Value} {a b:Rat} {w:World} (ha:IsRat w k u0 u1 u2 u3 a) (hb:IsRat w m v0 v1 v2 v3 b) (_hk:k+m≤100000) (wa:a.den=1) (wb:b.den≠1):
    Calls Tryz.prog 103 #[(.agg #[u0,u1,u2,u3]),(.agg #[v0,v1,v2,v3])] w fun e w'=>(∃ c0 c1 c2 c3,e=.returned (.agg #[c0,c1,c2,c3])∧IsRat w' (k+m+1) c0 c1 c2 c3 (a+b))∧Gr w w':=by
 have hka:=ha.big
 have hkb:=hb.big
 go_enter Tryz.func103,Tryz.ntmps103
 have hB:=Gr.refl w
 refine wp_seq_k (fun K1 k1=>?_)
 refine rg [0,1,2] ?_
 refine se ?_
 refine eb 36 #[u0,u1,u2,u3] 2 hB fun b2 w2 g2 L2 o2 q2 hB=>?_
 simp only [p3,p4]
 refine se ?_
 refine eb 36 #[v0,v1,v2,v3] 3 hB fun b3 w3 g3 L3 o3 q3 hB=>?_
 simp only [p3,p4]
 refine se ?_
 refine ea 36 #[.bool false,.slice none 0 0,.bool false,.slice none 0 0] 4 hB fun b4 w4 g4 L4 o4 q4 hB=>?_
 replace L2:=L2.gr g3
 have ap:=L2.ne o4
 have ak:=L3.ne o4
 simp only [p3,p4]
 refine za0 ?_
 refine k1 _ _ ?_
 try clear k1 K1
 refine wp_seq_k (fun K5 k5=>?_)
 refine wp_seq_k (fun K6 k6=>?_)
 refine rg [0,1,2,3,4,5] ?_
 replace L2:=L2.gr g4
 refine sw 5 (.agg #[u0,u1,u2,u3]) rfl (rl 36 0 [u0,u1,u2,u3] L2) ?_
 refine se ?_
 have aO:=g2.kp.trans (g3.kp.trans g4.kp)
 replace ha:=ha.kp aO
 refine ec 6 (zm8 ha (by omega) wa) ?_
 rintro e7 w7 ⟨rfl,g7⟩
 refine ⟨_,rfl,?_⟩
 replace hB:=hB.trans g7
 simp only [p3,p4]
 refine sv 7 (.bool true) ?_
 replace L3:=L3.gr (g4.trans g7)
 refine sw 8 (.agg #[v0,v1,v2,v3]) rfl (rl 36 0 [v0,v1,v2,v3] L3) ?_
 refine se ?_
 have aB:=g2.kp.trans (g3.kp.trans (g4.kp.trans g7.kp))
 replace hb:=hb.kp aB
 refine ec 9 (zw5 hb (by omega) wb) ?_
 rintro e9 w9 ⟨rfl,g9⟩
 refine ⟨_,rfl,?_⟩
 replace hB:=hB.trans g9
 simp only [p3,p4]
 refine sv 10 (.bool false) ?_
 refine za0 ?_
 refine k6 _ _ ?_
 try clear k6 K6
 refine wp_cond_false rfl ?_
 refine wp_skip ?_
 refine k5 _ _ ?_
 try clear k5 K5
 refine wp_seq_k (fun aR aK=>?_)
 have aa:=Gr.drew w9
 replace hB:=hB.trans aa
 replace L2:=L2.gr (g7.trans (g9.trans aa))
 replace L3:=L3.gr (g9.trans aa)
 refine za3 (fun w'=>Lc w' b2 #[u0,u1,u2,u3] 36∧Lc w' b3 #[v0,v1,v2,v3] 36) [(true,0),(true,1),(true,2),(true,5),(true,6),(true,7),(true,11),(true,13),(false,3),(false,4),(false,8),(false,9),(false,10),(false,12),(false,14),(false,15),(false,16),(false,17)] (by kernel_rfl) (by kernel_rfl) (by kernel_rfl) (by decide) (fun _ _ _ _ _ h=>h) ⟨L2,L3⟩ ?_
 refine ov 17 (.pointer (some ⟨b2,0,none⟩)) ?_
 refine ow 18 (.agg #[u0,u1]) rfl (fun w' hS=>(rl 34 0 [u0,u1] hS.1)) ?_
 refine ow 19 (.agg #[v0,v1,v2,v3]) rfl (fun w' hS=>(rl 36 0 [v0,v1,v2,v3] hS.2)) ?_
 refine ov 22 (.pointer (some ⟨b3,0,none⟩)) ?_
 refine ow 23 (.agg #[v0,v1]) rfl (fun w' hS=>(rl 34 0 [v0,v1] hS.2)) ?_
 refine ow 24 (.agg #[u0,u1,u2,u3]) rfl (fun w' hS=>(rl 36 0 [u0,u1,u2,u3] hS.1)) ?_
 refine ow 28 (.agg #[u0,u1,u2,u3]) rfl (fun w' hS=>(rl 36 0 [u0,u1,u2,u3] hS.1)) ?_
 refine ow 30 (.agg #[v0,v1,v2,v3]) rfl (fun w' hS=>(rl 36 0 [v0,v1,v2,v3] hS.2)) ?_
 refine oe ?_
 have aF:=g9.kp.trans aa.kp
 replace hb:=hb.kp aF
 refine ec 20 (zo3 hb) ?_
 rintro bu aY ⟨⟨a3,bo,rfl,aL⟩,ai⟩
 refine ⟨_,rfl,?_⟩
 replace hB:=hB.trans ai
 replace L2:=L2.gr ai
 replace L3:=L3.gr ai
 refine ⟨⟨L2,L3⟩,?_⟩
 simp only [p3,p4]
 refine oe ?_
 have aJ:=g7.kp.trans (g9.kp.trans (aa.kp.trans ai.kp))
 replace ha:=ha.kp aJ
 refine ec 21 (zq7 ha.num aL (by omega)) ?_
 rintro bp bd ⟨⟨aU,bk,rfl,aD⟩,ah⟩
 refine ⟨_,rfl,?_⟩
 replace hB:=hB.trans ah
 replace L2:=L2.gr ah
 replace L3:=L3.gr ah
 refine ⟨⟨L2,L3⟩,?_⟩
 simp only [p3,p4]
 refine oe ?_
 replace ha:=ha.kp ah.kp
 refine ec 25 (zo3 ha) ?_
 rintro aZ aV ⟨⟨bg,bc,rfl,aM⟩,ad⟩
 refine ⟨_,rfl,?_⟩
 replace hB:=hB.trans ad
 replace L2:=L2.gr ad
 replace L3:=L3.gr ad
 refine ⟨⟨L2,L3⟩,?_⟩
 simp only [p3,p4]
 refine oe ?_
 have aH:=ai.kp.trans (ah.kp.trans ad.kp)
 replace hb:=hb.kp aH
 refine ec 26 (zq7 hb.num aM (by omega)) ?_
 rintro bn bj ⟨⟨aT,a4,rfl,aP⟩,ab⟩
 refine ⟨_,rfl,?_⟩
 replace hB:=hB.trans ab
 replace L2:=L2.gr ab
 replace L3:=L3.gr ab
 refine ⟨⟨L2,L3⟩,?_⟩
 simp only [p3,p4]
 refine oe ?_
 have ay:=ad.kp.trans ab.kp
 replace aD:=aD.kp ay
 refine ec 27 (add_e (k+m) aD aP (by omega) (by omega) (by omega)) ?_
 rintro a9 bm ⟨⟨ba,bb,rfl,aE⟩,aj⟩
 refine ⟨_,rfl,?_⟩
 replace hB:=hB.trans aj
 replace L2:=L2.gr aj
 replace L3:=L3.gr aj
 refine ⟨⟨L2,L3⟩,?_⟩
 simp only [p3,p4]
 refine oe ?_
 have aA:=ad.kp.trans (ab.kp.trans aj.kp)
 replace ha:=ha.kp aA
 refine ec 29 (zo3 ha) ?_
 rintro bt bq ⟨⟨a8,bf,rfl,az⟩,af⟩
 refine ⟨_,rfl,?_⟩
 replace hB:=hB.trans af
 replace L2:=L2.gr af
 replace L3:=L3.gr af
 refine ⟨⟨L2,L3⟩,?_⟩
 simp only [p3,p4]
 refine oe ?_
 have aG:=ab.kp.trans (aj.kp.trans af.kp)
 replace hb:=hb.kp aG
 refine ec 31 (zo3 hb) ?_
 rintro a0 aW ⟨⟨a5,a2,rfl,aQ⟩,ae⟩
 refine ⟨_,rfl,?_⟩
 replace hB:=hB.trans ae
 replace L2:=L2.gr ae
 replace L3:=L3.gr ae
 refine ⟨⟨L2,L3⟩,?_⟩
 simp only [p3,p4]
 refine oe ?_
 replace az:=az.kp ae.kp
 refine ec 32 (zq7 az aQ (by omega)) ?_
 rintro aX aS ⟨⟨a7,a1,rfl,aN⟩,al⟩
 refine ⟨_,rfl,?_⟩
 replace hB:=hB.trans al
 replace L2:=L2.gr al
 replace L3:=L3.gr al
 refine ⟨⟨L2,L3⟩,?_⟩
 simp only [p3,p4]
 refine oe ?_
 have aC:=af.kp.trans (ae.kp.trans al.kp)
 replace aE:=aE.kp aC
 refine ec 33 (zs6 ((k+m+1)) aE aN (Int.mul_pos (Int.natCast_pos.2 a.den_pos) (Int.natCast_pos.2 b.den_pos)) (by omega) (by omega) (by omega) (by omega)) ?_
 rintro bh a6 ⟨⟨au,ar,av,ax,rfl,ac⟩,aw⟩
 refine ⟨_,rfl,?_⟩
 replace hB:=hB.trans aw
 replace L2:=L2.gr aw
 replace L3:=L3.gr aw
 refine ⟨⟨L2,L3⟩,?_⟩
 simp only [p3,p4]
 refine oe ?_
 replace L4:=L4.gr (g7.trans (g9.trans (aa.trans (ai.trans (ah.trans (ad.trans (ab.trans (aj.trans (af.trans (ae.trans (al.trans aw)))))))))))
 refine es 36 0 (.agg #[au,ar,av,ax]) [au,ar,av,ax] #[au,ar,av,ax] L4 hB q4 ⟨ac.one0,ac.one1,ac.one2,ac.one3,trivial⟩ fun bi aq aI L4 hB=>?_
 replace L2:=aq.lc L2 ap
 replace L3:=aq.lc L3 ak
 refine ⟨⟨L2,L3⟩,?_⟩
 refine zc0 ?_
 refine aK _ _ ?_
 try clear aK aR
 refine wp_ret ?_
 refine bodyPost_ret (v:=(.agg #[au,ar,av,ax])) (zb3 _ _ _ rfl rfl L4 (by kernel_rfl)) rfl ⟨?_,hB⟩
 replace ac:=ac.kp aI
 exact ⟨_,_,_,_,rfl,by rw [← zT7];exact ac⟩

set_option maxRecDepth 100000 in
set_option maxHeartbeats 1000000 in
theorem add_f {k m:Nat} {u0 u1 u2 u3 v0 v1 v2 v3:Value} {a b:Rat} {w:World} (ha:IsRat w k u0 u1 u2 u3 a) (hb:IsRat w m v0 v1 v2 v3 b) (_hk:k+m≤100000) (wa:a.den≠1):
    Calls Tryz.prog 103 #[(.agg #[u0,u1,u2,u3]),(.agg #[v0,v1,v2,v3])] w fun e w'=>(∃ c0 c1 c2 c3,e=.returned (.agg #[c0,c1,c2,c3])∧IsRat w' (k+m+1) c0 c1 c2 c3 (a+b))∧Gr w w':=by
 have hka:=ha.big
 have hkb:=hb.big
 go_enter Tryz.func103,Tryz.ntmps103
 have hB:=Gr.refl w
 refine wp_seq_k (fun K1 k1=>?_)
 refine rg [0,1,2] ?_
 refine se ?_
 refine eb 36 #[u0,u1,u2,u3] 2 hB fun b2 w2 g2 L2 o2 q2 hB=>?_
 simp only [p3,p4]
 refine se ?_
 refine eb 36 #[v0,v1,v2,v3] 3 hB fun b3 w3 g3 L3 o3 q3 hB=>?_
 simp only [p3,p4]
 refine se ?_
 refine ea 36 #[.bool false,.slice none 0 0,.bool false,.slice none 0 0] 4 hB fun b4 w4 g4 L4 o4 q4 hB=>?_
 replace L2:=L2.gr g3
 have al:=L2.ne o4
 have ak:=L3.ne o4
 simp only [p3,p4]
 refine za0 ?_
 refine k1 _ _ ?_
 try clear k1 K1
 refine wp_seq_k (fun K5 k5=>?_)
 refine wp_seq_k (fun K6 k6=>?_)
 refine rg [0,1,2,3,4,5] ?_
 replace L2:=L2.gr g4
 refine sw 5 (.agg #[u0,u1,u2,u3]) rfl (rl 36 0 [u0,u1,u2,u3] L2) ?_
 refine se ?_
 have aM:=g2.kp.trans (g3.kp.trans g4.kp)
 replace ha:=ha.kp aM
 refine ec 6 (zw5 ha (by omega) wa) ?_
 rintro e7 w7 ⟨rfl,g7⟩
 refine ⟨_,rfl,?_⟩
 replace hB:=hB.trans g7
 simp only [p3,p4]
 refine sv 7 (.bool false) ?_
 refine ss 8 ?_
 refine ss 9 ?_
 refine sv 10 (.bool false) ?_
 refine za0 ?_
 refine k6 _ _ ?_
 try clear k6 K6
 refine wp_cond_false rfl ?_
 refine wp_skip ?_
 refine k5 _ _ ?_
 try clear k5 K5
 refine wp_seq_k (fun K9 k9=>?_)
 have aa:=Gr.drew w7
 replace hB:=hB.trans aa
 replace L2:=L2.gr (g7.trans aa)
 replace L3:=L3.gr (g4.trans (g7.trans aa))
 refine za3 (fun w'=>Lc w' b2 #[u0,u1,u2,u3] 36∧Lc w' b3 #[v0,v1,v2,v3] 36) [(true,0),(true,1),(true,2),(true,5),(true,6),(true,7),(true,11),(true,13),(false,3),(false,4),(false,8),(false,9),(false,10),(false,12),(false,14),(false,15),(false,16),(false,17)] (by kernel_rfl) (by kernel_rfl) (by kernel_rfl) (by decide) (fun _ _ _ _ _ h=>h) ⟨L2,L3⟩ ?_
 refine ov 17 (.pointer (some ⟨b2,0,none⟩)) ?_
 refine ow 18 (.agg #[u0,u1]) rfl (fun w' hS=>(rl 34 0 [u0,u1] hS.1)) ?_
 refine ow 19 (.agg #[v0,v1,v2,v3]) rfl (fun w' hS=>(rl 36 0 [v0,v1,v2,v3] hS.2)) ?_
 refine ov 22 (.pointer (some ⟨b3,0,none⟩)) ?_
 refine ow 23 (.agg #[v0,v1]) rfl (fun w' hS=>(rl 34 0 [v0,v1] hS.2)) ?_
 refine ow 24 (.agg #[u0,u1,u2,u3]) rfl (fun w' hS=>(rl 36 0 [u0,u1,u2,u3] hS.1)) ?_
 refine ow 28 (.agg #[u0,u1,u2,u3]) rfl (fun w' hS=>(rl 36 0 [u0,u1,u2,u3] hS.1)) ?_
 refine ow 30 (.agg #[v0,v1,v2,v3]) rfl (fun w' hS=>(rl 36 0 [v0,v1,v2,v3] hS.2)) ?_
 refine oe ?_
 have aE:=g2.kp.trans (g3.kp.trans (g4.kp.trans (g7.kp.trans aa.kp)))
 replace hb:=hb.kp aE
 refine ec 20 (zo3 hb) ?_
 rintro bf bp ⟨⟨aP,bj,rfl,aO⟩,ah⟩
 refine ⟨_,rfl,?_⟩
 replace hB:=hB.trans ah
 replace L2:=L2.gr ah
 replace L3:=L3.gr ah
 refine ⟨⟨L2,L3⟩,?_⟩
 simp only [p3,p4]
 refine oe ?_
 have ay:=g7.kp.trans (aa.kp.trans ah.kp)
 replace ha:=ha.kp ay
 refine ec 21 (zq7 ha.num aO (by omega)) ?_
 rintro a0 a9 ⟨⟨a5,bb,rfl,az⟩,ae⟩
 refine ⟨_,rfl,?_⟩
 replace hB:=hB.trans ae
 replace L2:=L2.gr ae
 replace L3:=L3.gr ae
 refine ⟨⟨L2,L3⟩,?_⟩
 simp only [p3,p4]
 refine oe ?_
 replace ha:=ha.kp ae.kp
 refine ec 25 (zo3 ha) ?_
 rintro a3 bi ⟨⟨aX,ba,rfl,aN⟩,ab⟩
 refine ⟨_,rfl,?_⟩
 replace hB:=hB.trans ab
 replace L2:=L2.gr ab
 replace L3:=L3.gr ab
 refine ⟨⟨L2,L3⟩,?_⟩
 simp only [p3,p4]
 refine oe ?_
 have aH:=ah.kp.trans (ae.kp.trans ab.kp)
 replace hb:=hb.kp aH
 refine ec 26 (zq7 hb.num aN (by omega)) ?_
 rintro a1 aT ⟨⟨bg,bc,rfl,aL⟩,ad⟩
 refine ⟨_,rfl,?_⟩
 replace hB:=hB.trans ad
 replace L2:=L2.gr ad
 replace L3:=L3.gr ad
 refine ⟨⟨L2,L3⟩,?_⟩
 simp only [p3,p4]
 refine oe ?_
 have aI:=ab.kp.trans ad.kp
 replace az:=az.kp aI
 refine ec 27 (add_e (k+m) az aL (by omega) (by omega) (by omega)) ?_
 rintro a4 aR ⟨⟨a6,bo,rfl,aB⟩,ai⟩
 refine ⟨_,rfl,?_⟩
 replace hB:=hB.trans ai
 replace L2:=L2.gr ai
 replace L3:=L3.gr ai
 refine ⟨⟨L2,L3⟩,?_⟩
 simp only [p3,p4]
 refine oe ?_
 have aD:=ab.kp.trans (ad.kp.trans ai.kp)
 replace ha:=ha.kp aD
 refine ec 29 (zo3 ha) ?_
 rintro a2 bd ⟨⟨a7,bk,rfl,aC⟩,aj⟩
 refine ⟨_,rfl,?_⟩
 replace hB:=hB.trans aj
 replace L2:=L2.gr aj
 replace L3:=L3.gr aj
 refine ⟨⟨L2,L3⟩,?_⟩
 simp only [p3,p4]
 refine oe ?_
 have aA:=ad.kp.trans (ai.kp.trans aj.kp)
 replace hb:=hb.kp aA
 refine ec 31 (zo3 hb) ?_
 rintro aW aV ⟨⟨a8,aU,rfl,aK⟩,af⟩
 refine ⟨_,rfl,?_⟩
 replace hB:=hB.trans af
 replace L2:=L2.gr af
 replace L3:=L3.gr af
 refine ⟨⟨L2,L3⟩,?_⟩
 simp only [p3,p4]
 refine oe ?_
 replace aC:=aC.kp af.kp
 refine ec 32 (zq7 aC aK (by omega)) ?_
 rintro bn aZ ⟨⟨bh,aS,rfl,aJ⟩,ap⟩
 refine ⟨_,rfl,?_⟩
 replace hB:=hB.trans ap
 replace L2:=L2.gr ap
 replace L3:=L3.gr ap
 refine ⟨⟨L2,L3⟩,?_⟩
 simp only [p3,p4]
 refine oe ?_
 have aG:=aj.kp.trans (af.kp.trans ap.kp)
 replace aB:=aB.kp aG
 refine ec 33 (zs6 ((k+m+1)) aB aJ (Int.mul_pos (Int.natCast_pos.2 a.den_pos) (Int.natCast_pos.2 b.den_pos)) (by omega) (by omega) (by omega) (by omega)) ?_
 rintro aY aQ ⟨⟨ax,au,av,aw,rfl,ac⟩,ar⟩
 refine ⟨_,rfl,?_⟩
 replace hB:=hB.trans ar
 replace L2:=L2.gr ar
 replace L3:=L3.gr ar
 refine ⟨⟨L2,L3⟩,?_⟩
 simp only [p3,p4]
 refine oe ?_
 replace L4:=L4.gr (g7.trans (aa.trans (ah.trans (ae.trans (ab.trans (ad.trans (ai.trans (aj.trans (af.trans (ap.trans ar))))))))))
 refine es 36 0 (.agg #[ax,au,av,aw]) [ax,au,av,aw] #[ax,au,av,aw] L4 hB q4 ⟨ac.one0,ac.one1,ac.one2,ac.one3,trivial⟩ fun bm aq aF L4 hB=>?_
 replace L2:=aq.lc L2 al
 replace L3:=aq.lc L3 ak
 refine ⟨⟨L2,L3⟩,?_⟩
 refine zc0 ?_
 refine k9 _ _ ?_
 try clear k9 K9
 refine wp_ret ?_
 refine bodyPost_ret (v:=(.agg #[ax,au,av,aw])) (zb3 _ _ _ rfl rfl L4 (by kernel_rfl)) rfl ⟨?_,hB⟩
 replace ac:=ac.kp aF
 exact ⟨_,_,_,_,rfl,by rw [← zT7];exact ac⟩

theorem zj5 {k m:Nat} {u0 u1 u2 u3 v0 v1 v2 v3:Value} {a b:Rat} {w:World} (ha:IsRat w k u0 u1 u2 u3 a) (hb:IsRat w m v0 v1 v2 v3 b) (hk:k+m≤100000):
  Calls Tryz.prog 103 #[.agg #[u0,u1,u2,u3],.agg #[v0,v1,v2,v3]] w fun e w'=>(∃ c0 c1 c2 c3,e=.returned (.agg #[c0,c1,c2,c3])∧IsRat w' (k+m+1) c0 c1 c2 c3 (a+b))∧Gr w w':=by
 by_cases wa:a.den=1
 ·by_cases wb:b.den=1
  ·exact add_tt ha hb hk wa wb
  ·exact add_tf ha hb hk wa wb
 ·exact add_f ha hb hk wa

set_option maxRecDepth 100000 in
set_option maxHeartbeats 1000000 in
theorem mul_tt {k m:Nat} {u0 u1 u2 u3 v0 v1 v2 v3:Value} {a b:Rat} {w:World} (ha:IsRat w k u0 u1 u2 u3 a) (hb:IsRat w m v0 v1 v2 v3 b) (_hk:k+m≤100000) (wa:a.den=1) (wb:b.den=1):
    Calls Tryz.prog 82 #[(.agg #[u0,u1,u2,u3]),(.agg #[v0,v1,v2,v3])] w fun e w'=>(∃ c0 c1 c2 c3,e=.returned (.agg #[c0,c1,c2,c3])∧IsRat w' (k+m) c0 c1 c2 c3 (a*b))∧Gr w w':=by
 have hka:=ha.big
 have hkb:=hb.big
 go_enter Tryz.func82,Tryz.ntmps82
 have hB:=Gr.refl w
 refine wp_seq_k (fun K1 k1=>?_)
 refine rg [0,1,2] ?_
 refine se ?_
 refine eb 36 #[u0,u1,u2,u3] 2 hB fun b2 w2 g2 L2 o2 q2 hB=>?_
 simp only [p3,p4]
 refine se ?_
 refine eb 36 #[v0,v1,v2,v3] 3 hB fun b3 w3 g3 L3 o3 q3 hB=>?_
 simp only [p3,p4]
 refine se ?_
 refine ea 36 #[.bool false,.slice none 0 0,.bool false,.slice none 0 0] 4 hB fun b4 w4 g4 L4 o4 q4 hB=>?_
 replace L2:=L2.gr g3
 simp only [p3,p4]
 refine za0 ?_
 refine k1 _ _ ?_
 try clear k1 K1
 refine wp_seq_k (fun K5 k5=>?_)
 refine wp_seq_k (fun K6 k6=>?_)
 refine rg [0,1,2,3,4,5] ?_
 replace L2:=L2.gr g4
 refine sw 5 (.agg #[u0,u1,u2,u3]) rfl (rl 36 0 [u0,u1,u2,u3] L2) ?_
 refine se ?_
 have aj:=g2.kp.trans (g3.kp.trans g4.kp)
 replace ha:=ha.kp aj
 refine ec 6 (zm8 ha (by omega) wa) ?_
 rintro e7 w7 ⟨rfl,g7⟩
 refine ⟨_,rfl,?_⟩
 replace hB:=hB.trans g7
 simp only [p3,p4]
 refine sv 7 (.bool true) ?_
 replace L3:=L3.gr (g4.trans g7)
 refine sw 8 (.agg #[v0,v1,v2,v3]) rfl (rl 36 0 [v0,v1,v2,v3] L3) ?_
 refine se ?_
 have ad:=g2.kp.trans (g3.kp.trans (g4.kp.trans g7.kp))
 replace hb:=hb.kp ad
 refine ec 9 (zm8 hb (by omega) wb) ?_
 rintro e9 w9 ⟨rfl,g9⟩
 refine ⟨_,rfl,?_⟩
 replace hB:=hB.trans g9
 simp only [p3,p4]
 refine sv 10 (.bool true) ?_
 refine za0 ?_
 refine k6 _ _ ?_
 try clear k6 K6
 refine wp_cond_true rfl ?_
 refine wp_seq_k (fun ak ai=>?_)
 refine rg [0,1,2,3,4,5,6] ?_
 refine sv 11 (.pointer (some ⟨b2,0,none⟩)) ?_
 replace L2:=L2.gr (g7.trans g9)
 refine sw 12 (.agg #[u0,u1]) rfl (rl 34 0 [u0,u1] L2) ?_
 refine sv 13 (.pointer (some ⟨b3,0,none⟩)) ?_
 replace L3:=L3.gr g9
 refine sw 14 (.agg #[v0,v1]) rfl (rl 34 0 [v0,v1] L3) ?_
 refine se ?_
 have ae:=g7.kp.trans g9.kp
 replace ha:=ha.kp ae
 replace hb:=hb.kp g9.kp
 refine ec 15 (zq7 ha.num hb.num (by omega)) ?_
 rintro e12 ap ⟨⟨ab,aa,rfl,ac⟩,ah⟩
 refine ⟨_,rfl,?_⟩
 replace hB:=hB.trans ah
 simp only [p3,p4]
 refine sv 16 (.agg #[ab,aa,.bool false,.slice none 0 0]) ?_
 refine se ?_
 replace L4:=L4.gr (g7.trans (g9.trans ah))
 refine es 36 0 (.agg #[ab,aa,.bool false,.slice none 0 0]) [ab,aa,.bool false,.slice none 0 0] #[ab,aa,.bool false,.slice none 0 0] L4 hB q4 ⟨ac.one0,ac.one1,rfl,rfl,trivial⟩ fun aq al af L4 hB=>?_
 refine za0 ?_
 refine ai _ _ ?_
 try clear ai ak
 refine wp_ret ?_
 simp only [Exit.then]
 refine bodyPost_ret (v:=(.agg #[ab,aa,.bool false,.slice none 0 0])) (zb3 _ _ _ rfl rfl L4 (by kernel_rfl)) rfl ⟨?_,hB⟩
 replace ac:=ac.kp af
 exact ⟨_,_,_,_,rfl,by rw [← zK4 wa,← zK4 wb,← Rat.intCast_mul];exact IsRat.int ac (by omega)⟩

set_option maxRecDepth 100000 in
set_option maxHeartbeats 1000000 in
theorem mul_tf {k m:Nat} {u0 u1 u2 u3 v0 v1 v2 v3:Value} {a b:Rat} {w:World} (ha:IsRat w k u0 u1 u2 u3 a) (hb:IsRat w m v0 v1 v2 v3 b) (_hk:k+m≤100000) (wa:a.den=1) (wb:b.den≠1):
    Calls Tryz.prog 82 #[(.agg #[u0,u1,u2,u3]),(.agg #[v0,v1,v2,v3])] w fun e w'=>(∃ c0 c1 c2 c3,e=.returned (.agg #[c0,c1,c2,c3])∧IsRat w' (k+m) c0 c1 c2 c3 (a*b))∧Gr w w':=by
 have hka:=ha.big
 have hkb:=hb.big
 go_enter Tryz.func82,Tryz.ntmps82
 have hB:=Gr.refl w
 refine wp_seq_k (fun K1 k1=>?_)
 refine rg [0,1,2] ?_
 refine se ?_
 refine eb 36 #[u0,u1,u2,u3] 2 hB fun b2 w2 g2 L2 o2 q2 hB=>?_
 simp only [p3,p4]
 refine se ?_
 refine eb 36 #[v0,v1,v2,v3] 3 hB fun b3 w3 g3 L3 o3 q3 hB=>?_
 simp only [p3,p4]
 refine se ?_
 refine ea 36 #[.bool false,.slice none 0 0,.bool false,.slice none 0 0] 4 hB fun b4 w4 g4 L4 o4 q4 hB=>?_
 replace L2:=L2.gr g3
 have ah:=L2.ne o4
 have af:=L3.ne o4
 simp only [p3,p4]
 refine za0 ?_
 refine k1 _ _ ?_
 try clear k1 K1
 refine wp_seq_k (fun K5 k5=>?_)
 refine wp_seq_k (fun K6 k6=>?_)
 refine rg [0,1,2,3,4,5] ?_
 replace L2:=L2.gr g4
 refine sw 5 (.agg #[u0,u1,u2,u3]) rfl (rl 36 0 [u0,u1,u2,u3] L2) ?_
 refine se ?_
 have aE:=g2.kp.trans (g3.kp.trans g4.kp)
 replace ha:=ha.kp aE
 refine ec 6 (zm8 ha (by omega) wa) ?_
 rintro e7 w7 ⟨rfl,g7⟩
 refine ⟨_,rfl,?_⟩
 replace hB:=hB.trans g7
 simp only [p3,p4]
 refine sv 7 (.bool true) ?_
 replace L3:=L3.gr (g4.trans g7)
 refine sw 8 (.agg #[v0,v1,v2,v3]) rfl (rl 36 0 [v0,v1,v2,v3] L3) ?_
 refine se ?_
 have ax:=g2.kp.trans (g3.kp.trans (g4.kp.trans g7.kp))
 replace hb:=hb.kp ax
 refine ec 9 (zw5 hb (by omega) wb) ?_
 rintro e9 w9 ⟨rfl,g9⟩
 refine ⟨_,rfl,?_⟩
 replace hB:=hB.trans g9
 simp only [p3,p4]
 refine sv 10 (.bool false) ?_
 refine za0 ?_
 refine k6 _ _ ?_
 try clear k6 K6
 refine wp_cond_false rfl ?_
 refine wp_skip ?_
 refine k5 _ _ ?_
 try clear k5 K5
 refine wp_seq_k (fun aF aC=>?_)
 have aa:=Gr.drew w9
 replace hB:=hB.trans aa
 replace L2:=L2.gr (g7.trans (g9.trans aa))
 replace L3:=L3.gr (g9.trans aa)
 refine za3 (fun w'=>Lc w' b2 #[u0,u1,u2,u3] 36∧Lc w' b3 #[v0,v1,v2,v3] 36) [(true,0),(true,1),(true,2),(true,3),(true,5),(true,7),(false,4),(false,6),(false,8),(false,9),(false,10),(false,11)] (by kernel_rfl) (by kernel_rfl) (by kernel_rfl) (by decide) (fun _ _ _ _ _ h=>h) ⟨L2,L3⟩ ?_
 refine ov 17 (.pointer (some ⟨b2,0,none⟩)) ?_
 refine ow 18 (.agg #[u0,u1]) rfl (fun w' hS=>(rl 34 0 [u0,u1] hS.1)) ?_
 refine ov 19 (.pointer (some ⟨b3,0,none⟩)) ?_
 refine ow 20 (.agg #[v0,v1]) rfl (fun w' hS=>(rl 34 0 [v0,v1] hS.2)) ?_
 refine ow 22 (.agg #[u0,u1,u2,u3]) rfl (fun w' hS=>(rl 36 0 [u0,u1,u2,u3] hS.1)) ?_
 refine ow 24 (.agg #[v0,v1,v2,v3]) rfl (fun w' hS=>(rl 36 0 [v0,v1,v2,v3] hS.2)) ?_
 refine oe ?_
 have aA:=g7.kp.trans (g9.kp.trans aa.kp)
 replace ha:=ha.kp aA
 have ay:=g9.kp.trans aa.kp
 replace hb:=hb.kp ay
 refine ec 21 (zq7 ha.num hb.num (by omega)) ?_
 rintro e31 aV ⟨⟨aJ,aU,rfl,av⟩,ad⟩
 refine ⟨_,rfl,?_⟩
 replace hB:=hB.trans ad
 replace L2:=L2.gr ad
 replace L3:=L3.gr ad
 refine ⟨⟨L2,L3⟩,?_⟩
 simp only [p3,p4]
 refine oe ?_
 replace ha:=ha.kp ad.kp
 refine ec 23 (zo3 ha) ?_
 rintro aS aL ⟨⟨aN,aO,rfl,aB⟩,ae⟩
 refine ⟨_,rfl,?_⟩
 replace hB:=hB.trans ae
 replace L2:=L2.gr ae
 replace L3:=L3.gr ae
 refine ⟨⟨L2,L3⟩,?_⟩
 simp only [p3,p4]
 refine oe ?_
 have au:=ad.kp.trans ae.kp
 replace hb:=hb.kp au
 refine ec 25 (zo3 hb) ?_
 rintro aW aK ⟨⟨aI,aT,rfl,aD⟩,ac⟩
 refine ⟨_,rfl,?_⟩
 replace hB:=hB.trans ac
 replace L2:=L2.gr ac
 replace L3:=L3.gr ac
 refine ⟨⟨L2,L3⟩,?_⟩
 simp only [p3,p4]
 refine oe ?_
 replace aB:=aB.kp ac.kp
 refine ec 26 (zq7 aB aD (by omega)) ?_
 rintro aP aY ⟨⟨aH,aR,rfl,aG⟩,ai⟩
 refine ⟨_,rfl,?_⟩
 replace hB:=hB.trans ai
 replace L2:=L2.gr ai
 replace L3:=L3.gr ai
 refine ⟨⟨L2,L3⟩,?_⟩
 simp only [p3,p4]
 refine oe ?_
 have az:=ae.kp.trans (ac.kp.trans ai.kp)
 replace av:=av.kp az
 refine ec 27 (zs6 ((k+m)) av aG (Int.mul_pos (Int.natCast_pos.2 a.den_pos) (Int.natCast_pos.2 b.den_pos)) (by omega) (by omega) (by omega) (by omega)) ?_
 rintro aX aM ⟨⟨ap,ak,al,ar,rfl,ab⟩,aq⟩
 refine ⟨_,rfl,?_⟩
 replace hB:=hB.trans aq
 replace L2:=L2.gr aq
 replace L3:=L3.gr aq
 refine ⟨⟨L2,L3⟩,?_⟩
 simp only [p3,p4]
 refine oe ?_
 replace L4:=L4.gr (g7.trans (g9.trans (aa.trans (ad.trans (ae.trans (ac.trans (ai.trans aq)))))))
 refine es 36 0 (.agg #[ap,ak,al,ar]) [ap,ak,al,ar] #[ap,ak,al,ar] L4 hB q4 ⟨ab.one0,ab.one1,ab.one2,ab.one3,trivial⟩ fun aQ aj aw L4 hB=>?_
 replace L2:=aj.lc L2 ah
 replace L3:=aj.lc L3 af
 refine ⟨⟨L2,L3⟩,?_⟩
 refine zc0 ?_
 refine aC _ _ ?_
 try clear aC aF
 refine wp_ret ?_
 refine bodyPost_ret (v:=(.agg #[ap,ak,al,ar])) (zb3 _ _ _ rfl rfl L4 (by kernel_rfl)) rfl ⟨?_,hB⟩
 replace ab:=ab.kp aw
 exact ⟨_,_,_,_,rfl,by rw [← zT8];exact ab⟩

set_option maxRecDepth 100000 in
set_option maxHeartbeats 1000000 in
theorem mul_f {k m:Nat} {u0 u1 u2 u3 v0 v1 v2 v3:Value} {a b:Rat} {w:World} (ha:IsRat w k u0 u1 u2 u3 a) (hb:IsRat w m v0 v1 v2 v3 b) (_hk:k+m≤100000) (wa:a.den≠1):
    Calls Tryz.prog 82 #[(.agg #[u0,u1,u2,u3]),(.agg #[v0,v1,v2,v3])] w fun e w'=>(∃ c0 c1 c2 c3,e=.returned (.agg #[c0,c1,c2,c3])∧IsRat w' (k+m) c0 c1 c2 c3 (a*b))∧Gr w w':=by
 have hka:=ha.big
 have hkb:=hb.big
 go_enter Tryz.func82,Tryz.ntmps82
 have hB:=Gr.refl w
 refine wp_seq_k (fun K1 k1=>?_)
 refine rg [0,1,2] ?_
 refine se ?_
 refine eb 36 #[u0,u1,u2,u3] 2 hB fun b2 w2 g2 L2 o2 q2 hB=>?_
 simp only [p3,p4]
 refine se ?_
 refine eb 36 #[v0,v1,v2,v3] 3 hB fun b3 w3 g3 L3 o3 q3 hB=>?_
 simp only [p3,p4]
 refine se ?_
 refine ea 36 #[.bool false,.slice none 0 0,.bool false,.slice none 0 0] 4 hB fun b4 w4 g4 L4 o4 q4 hB=>?_
 replace L2:=L2.gr g3
 have ah:=L2.ne o4
 have af:=L3.ne o4
 simp only [p3,p4]
 refine za0 ?_
 refine k1 _ _ ?_
 try clear k1 K1
 refine wp_seq_k (fun K5 k5=>?_)
 refine wp_seq_k (fun K6 k6=>?_)
 refine rg [0,1,2,3,4,5] ?_
 replace L2:=L2.gr g4
 refine sw 5 (.agg #[u0,u1,u2,u3]) rfl (rl 36 0 [u0,u1,u2,u3] L2) ?_
 refine se ?_
 have aC:=g2.kp.trans (g3.kp.trans g4.kp)
 replace ha:=ha.kp aC
 refine ec 6 (zw5 ha (by omega) wa) ?_
 rintro e7 w7 ⟨rfl,g7⟩
 refine ⟨_,rfl,?_⟩
 replace hB:=hB.trans g7
 simp only [p3,p4]
 refine sv 7 (.bool false) ?_
 refine ss 8 ?_
 refine ss 9 ?_
 refine sv 10 (.bool false) ?_
 refine za0 ?_
 refine k6 _ _ ?_
 try clear k6 K6
 refine wp_cond_false rfl ?_
 refine wp_skip ?_
 refine k5 _ _ ?_
 try clear k5 K5
 refine wp_seq_k (fun K9 k9=>?_)
 have aa:=Gr.drew w7
 replace hB:=hB.trans aa
 replace L2:=L2.gr (g7.trans aa)
 replace L3:=L3.gr (g4.trans (g7.trans aa))
 refine za3 (fun w'=>Lc w' b2 #[u0,u1,u2,u3] 36∧Lc w' b3 #[v0,v1,v2,v3] 36) [(true,0),(true,1),(true,2),(true,3),(true,5),(true,7),(false,4),(false,6),(false,8),(false,9),(false,10),(false,11)] (by kernel_rfl) (by kernel_rfl) (by kernel_rfl) (by decide) (fun _ _ _ _ _ h=>h) ⟨L2,L3⟩ ?_
 refine ov 17 (.pointer (some ⟨b2,0,none⟩)) ?_
 refine ow 18 (.agg #[u0,u1]) rfl (fun w' hS=>(rl 34 0 [u0,u1] hS.1)) ?_
 refine ov 19 (.pointer (some ⟨b3,0,none⟩)) ?_
 refine ow 20 (.agg #[v0,v1]) rfl (fun w' hS=>(rl 34 0 [v0,v1] hS.2)) ?_
 refine ow 22 (.agg #[u0,u1,u2,u3]) rfl (fun w' hS=>(rl 36 0 [u0,u1,u2,u3] hS.1)) ?_
 refine ow 24 (.agg #[v0,v1,v2,v3]) rfl (fun w' hS=>(rl 36 0 [v0,v1,v2,v3] hS.2)) ?_
 refine oe ?_
 have az:=g7.kp.trans aa.kp
 replace ha:=ha.kp az
 have av:=g2.kp.trans (g3.kp.trans (g4.kp.trans (g7.kp.trans aa.kp)))
 replace hb:=hb.kp av
 refine ec 21 (zq7 ha.num hb.num (by omega)) ?_
 rintro aJ aU ⟨⟨aI,aE,rfl,aw⟩,ad⟩
 refine ⟨_,rfl,?_⟩
 replace hB:=hB.trans ad
 replace L2:=L2.gr ad
 replace L3:=L3.gr ad
 refine ⟨⟨L2,L3⟩,?_⟩
 simp only [p3,p4]
 refine oe ?_
 replace ha:=ha.kp ad.kp
 refine ec 23 (zo3 ha) ?_
 rintro e33 aH ⟨⟨aM,aT,rfl,ax⟩,ac⟩
 refine ⟨_,rfl,?_⟩
 replace hB:=hB.trans ac
 replace L2:=L2.gr ac
 replace L3:=L3.gr ac
 refine ⟨⟨L2,L3⟩,?_⟩
 simp only [p3,p4]
 refine oe ?_
 have au:=ad.kp.trans ac.kp
 replace hb:=hb.kp au
 refine ec 25 (zo3 hb) ?_
 rintro aR aF ⟨⟨aK,aN,rfl,aD⟩,ae⟩
 refine ⟨_,rfl,?_⟩
 replace hB:=hB.trans ae
 replace L2:=L2.gr ae
 replace L3:=L3.gr ae
 refine ⟨⟨L2,L3⟩,?_⟩
 simp only [p3,p4]
 refine oe ?_
 replace ax:=ax.kp ae.kp
 refine ec 26 (zq7 ax aD (by omega)) ?_
 rintro aQ aS ⟨⟨aO,aG,rfl,aB⟩,ai⟩
 refine ⟨_,rfl,?_⟩
 replace hB:=hB.trans ai
 replace L2:=L2.gr ai
 replace L3:=L3.gr ai
 refine ⟨⟨L2,L3⟩,?_⟩
 simp only [p3,p4]
 refine oe ?_
 have ay:=ac.kp.trans (ae.kp.trans ai.kp)
 replace aw:=aw.kp ay
 refine ec 27 (zs6 ((k+m)) aw aB (Int.mul_pos (Int.natCast_pos.2 a.den_pos) (Int.natCast_pos.2 b.den_pos)) (by omega) (by omega) (by omega) (by omega)) ?_
 rintro aP aV ⟨⟨ak,al,ar,aq,rfl,ab⟩,ap⟩
 refine ⟨_,rfl,?_⟩
 replace hB:=hB.trans ap
 replace L2:=L2.gr ap
 replace L3:=L3.gr ap
 refine ⟨⟨L2,L3⟩,?_⟩
 simp only [p3,p4]
 refine oe ?_
 replace L4:=L4.gr (g7.trans (aa.trans (ad.trans (ac.trans (ae.trans (ai.trans ap))))))
 refine es 36 0 (.agg #[ak,al,ar,aq]) [ak,al,ar,aq] #[ak,al,ar,aq] L4 hB q4 ⟨ab.one0,ab.one1,ab.one2,ab.one3,trivial⟩ fun aL aj aA L4 hB=>?_
 replace L2:=aj.lc L2 ah
 replace L3:=aj.lc L3 af
 refine ⟨⟨L2,L3⟩,?_⟩
 refine zc0 ?_
 refine k9 _ _ ?_
 try clear k9 K9
 refine wp_ret ?_
 refine bodyPost_ret (v:=(.agg #[ak,al,ar,aq])) (zb3 _ _ _ rfl rfl L4 (by kernel_rfl)) rfl ⟨?_,hB⟩
 replace ab:=ab.kp aA
 exact ⟨_,_,_,_,rfl,by rw [← zT8];exact ab⟩

theorem yd1 {k m:Nat} {u0 u1 u2 u3 v0 v1 v2 v3:Value} {a b:Rat} {w:World} (ha:IsRat w k u0 u1 u2 u3 a) (hb:IsRat w m v0 v1 v2 v3 b) (hk:k+m≤100000):
  Calls Tryz.prog 82 #[.agg #[u0,u1,u2,u3],.agg #[v0,v1,v2,v3]] w fun e w'=>(∃ c0 c1 c2 c3,e=.returned (.agg #[c0,c1,c2,c3])∧IsRat w' (k+m) c0 c1 c2 c3 (a*b))∧Gr w w':=by
 by_cases wa:a.den=1
 ·by_cases wb:b.den=1
  ·exact mul_tt ha hb hk wa wb
  ·exact mul_tf ha hb hk wa wb
 ·exact mul_f ha hb hk wa

set_option maxRecDepth 100000 in
set_option maxHeartbeats 1000000 in
theorem neg_r {k:Nat} {u0 u1 u2 u3:Value} {a:Rat} {w:World} (ha:IsRat w k u0 u1 u2 u3 a):
    Calls Tryz.prog 108 #[(.agg #[u0,u1,u2,u3])] w fun e w'=>(∃ c0 c1 c2 c3,e=.returned (.agg #[c0,c1,c2,c3])∧IsRat w' k c0 c1 c2 c3 (-a))∧Gr w w':=by
 go_enter Tryz.func108,Tryz.ntmps108
 have hB:=Gr.refl w
 refine wp_seq_k (fun K1 k1=>?_)
 refine rg [0,1] ?_
 refine se ?_
 refine eb 36 #[u0,u1,u2,u3] 1 hB fun b2 w2 g2 L2 o2 q2 hB=>?_
 simp only [p3,p4]
 refine se ?_
 refine ea 36 #[.bool false,.slice none 0 0,.bool false,.slice none 0 0] 2 hB fun b3 w3 g3 L3 o3 q3 hB=>?_
 have ac:=L2.ne o3
 simp only [p3,p4]
 refine za0 ?_
 refine k1 _ _ ?_
 try clear k1 K1
 refine wp_seq_k (fun K4 k4=>?_)
 have aa:=Gr.drew w3
 replace hB:=hB.trans aa
 replace L2:=L2.gr (g3.trans aa)
 refine za3 (fun w'=>Lc w' b2 #[u0,u1,u2,u3] 36) [(true,0),(true,1),(true,3),(true,4),(false,2),(true,5),(false,6)] (by kernel_rfl) (by kernel_rfl) (by kernel_rfl) (by decide) (fun _ _ _ _ _ h=>h) L2 ?_
 refine ov 3 (.pointer (some ⟨b2,0,none⟩)) ?_
 refine ow 4 (.agg #[u0,u1]) rfl (fun w' hS=>(rl 34 0 [u0,u1] hS)) ?_
 refine ov 6 (.pointer (some ⟨b2,2,none⟩)) ?_
 refine ow 7 (.agg #[u2,u3]) rfl (fun w' hS=>(rl 34 2 [u2,u3] hS)) ?_
 refine oe ?_
 have ak:=g2.kp.trans (g3.kp.trans aa.kp)
 replace ha:=ha.kp ak
 refine ec 5 (yo6 ha.num) ?_
 rintro e13 al ⟨⟨af,ad,rfl,ae⟩,ah⟩
 refine ⟨_,rfl,?_⟩
 replace hB:=hB.trans ah
 replace L2:=L2.gr ah
 refine ⟨L2,?_⟩
 simp only [p3,p4]
 refine ov 8 (.agg #[af,ad,u2,u3]) ?_
 refine oe ?_
 replace L3:=L3.gr (aa.trans ah)
 refine es 36 0 (.agg #[af,ad,u2,u3]) [af,ad,u2,u3] #[af,ad,u2,u3] L3 hB q3 ⟨ae.one0,ae.one1,ha.one2,ha.one3,trivial⟩ fun ap aj ab L3 hB=>?_
 replace L2:=aj.lc L2 ac
 refine ⟨L2,?_⟩
 refine zc0 ?_
 refine k4 _ _ ?_
 try clear k4 K4
 refine wp_ret ?_
 refine bodyPost_ret (v:=(.agg #[af,ad,u2,u3])) (zb3 _ _ _ rfl rfl L3 (by kernel_rfl)) rfl ⟨?_,hB⟩
 have ai:=ah.kp.trans ab
 replace ha:=ha.kp ai
 replace ae:=ae.kp ab
 exact ⟨_,_,_,_,rfl,IsRat.neg ha ae⟩

set_option maxRecDepth 100000 in
set_option maxHeartbeats 1000000 in
theorem zv1 {k m:Nat} {u0 u1 u2 u3 v0 v1 v2 v3:Value} {a b:Rat} {w:World} (ha:IsRat w k u0 u1 u2 u3 a) (hb:IsRat w m v0 v1 v2 v3 b) (_hk:k+m≤100000):
    Calls Tryz.prog 75 #[(.agg #[u0,u1,u2,u3]),(.agg #[v0,v1,v2,v3])] w fun e w'=>(∃ c0 c1 c2 c3,e=.returned (.agg #[c0,c1,c2,c3])∧IsRat w' (k+m+1) c0 c1 c2 c3 (a - b))∧Gr w w':=by
 go_enter Tryz.func75,Tryz.ntmps75
 have hB:=Gr.refl w
 refine wp_seq_k (fun K1 k1=>?_)
 refine rg [0,1,2] ?_
 refine se ?_
 refine eb 36 #[u0,u1,u2,u3] 2 hB fun b2 w2 g2 L2 o2 q2 hB=>?_
 simp only [p3,p4]
 refine se ?_
 refine eb 36 #[v0,v1,v2,v3] 3 hB fun b3 w3 g3 L3 o3 q3 hB=>?_
 simp only [p3,p4]
 refine se ?_
 refine ea 36 #[.bool false,.slice none 0 0,.bool false,.slice none 0 0] 4 hB fun b4 w4 g4 L4 o4 q4 hB=>?_
 replace L2:=L2.gr g3
 have ac:=L2.ne o4
 have ae:=L3.ne o4
 simp only [p3,p4]
 refine za0 ?_
 refine k1 _ _ ?_
 try clear k1 K1
 refine wp_seq_k (fun K5 k5=>?_)
 have aa:=Gr.drew w4
 replace hB:=hB.trans aa
 replace L2:=L2.gr (g4.trans aa)
 replace L3:=L3.gr (g4.trans aa)
 refine za3 (fun w'=>Lc w' b2 #[u0,u1,u2,u3] 36∧Lc w' b3 #[v0,v1,v2,v3] 36) [(true,0),(true,1),(false,2),(false,3),(false,4)] (by kernel_rfl) (by kernel_rfl) (by kernel_rfl) (by decide) (fun _ _ _ _ _ h=>h) ⟨L2,L3⟩ ?_
 refine ow 5 (.agg #[u0,u1,u2,u3]) rfl (fun w' hS=>(rl 36 0 [u0,u1,u2,u3] hS.1)) ?_
 refine ow 6 (.agg #[v0,v1,v2,v3]) rfl (fun w' hS=>(rl 36 0 [v0,v1,v2,v3] hS.2)) ?_
 refine oe ?_
 have aq:=g2.kp.trans (g3.kp.trans (g4.kp.trans aa.kp))
 replace hb:=hb.kp aq
 refine ec 7 (neg_r hb) ?_
 rintro ax az ⟨⟨aw,aC,ay,aB,rfl,au⟩,af⟩
 refine ⟨_,rfl,?_⟩
 replace hB:=hB.trans af
 replace L2:=L2.gr af
 replace L3:=L3.gr af
 refine ⟨⟨L2,L3⟩,?_⟩
 simp only [p3,p4]
 refine oe ?_
 have ap:=g2.kp.trans (g3.kp.trans (g4.kp.trans (aa.kp.trans af.kp)))
 replace ha:=ha.kp ap
 refine ec 8 (zj5 ha au (by omega)) ?_
 rintro aD av ⟨⟨ai,aj,al,ah,rfl,ab⟩,ak⟩
 refine ⟨_,rfl,?_⟩
 replace hB:=hB.trans ak
 replace L2:=L2.gr ak
 replace L3:=L3.gr ak
 refine ⟨⟨L2,L3⟩,?_⟩
 simp only [p3,p4]
 refine oe ?_
 replace L4:=L4.gr (aa.trans (af.trans ak))
 refine es 36 0 (.agg #[ai,aj,al,ah]) [ai,aj,al,ah] #[ai,aj,al,ah] L4 hB q4 ⟨ab.one0,ab.one1,ab.one2,ab.one3,trivial⟩ fun aA ad ar L4 hB=>?_
 replace L2:=ad.lc L2 ac
 replace L3:=ad.lc L3 ae
 refine ⟨⟨L2,L3⟩,?_⟩
 refine zc0 ?_
 refine k5 _ _ ?_
 try clear k5 K5
 refine wp_ret ?_
 refine bodyPost_ret (v:=(.agg #[ai,aj,al,ah])) (zb3 _ _ _ rfl rfl L4 (by kernel_rfl)) rfl ⟨?_,hB⟩
 replace ab:=ab.kp ar
 exact ⟨_,_,_,_,rfl,by rw [Rat.sub_eq_add_neg];exact ab⟩

set_option maxRecDepth 100000 in
set_option maxHeartbeats 1000000 in
theorem num_r {k:Nat} {u0 u1 u2 u3:Value} {a:Rat} {w:World} (ha:IsRat w k u0 u1 u2 u3 a):
    Calls Tryz.prog 130 #[(.agg #[u0,u1,u2,u3])] w fun e w'=>(∃ x' y',e=.returned (.agg #[x',y'])∧IsInt w' k x' y' (a.num))∧Gr w w':=by
 go_enter Tryz.func130,Tryz.ntmps130
 have hB:=Gr.refl w
 refine wp_seq_k (fun K1 k1=>?_)
 refine rg [0,1] ?_
 refine se ?_
 refine eb 36 #[u0,u1,u2,u3] 1 hB fun b2 w2 g2 L2 o2 q2 hB=>?_
 simp only [p3,p4]
 refine se ?_
 refine ea 34 #[.bool false,.slice none 0 0] 2 hB fun b3 w3 g3 L3 o3 q3 hB=>?_
 simp only [p3,p4]
 refine za0 ?_
 refine k1 _ _ ?_
 try clear k1 K1
 refine wp_seq_k (fun K4 k4=>?_)
 refine rg [0,1,2] ?_
 refine sv 3 (.pointer (some ⟨b2,0,none⟩)) ?_
 replace L2:=L2.gr g3
 refine sw 4 (.agg #[u0,u1]) rfl (rl 34 0 [u0,u1] L2) ?_
 refine se ?_
 refine es 34 0 (.agg #[u0,u1]) [u0,u1] #[u0,u1] L3 hB q3 ⟨ha.one0,ha.one1,trivial⟩ fun w5 ac aa L3 hB=>?_
 refine za0 ?_
 refine k4 _ _ ?_
 try clear k4 K4
 refine wp_ret ?_
 refine bodyPost_ret (v:=(.agg #[u0,u1])) (zb3 _ _ _ rfl rfl L3 (by kernel_rfl)) rfl ⟨?_,hB⟩
 have ab:=g2.kp.trans (g3.kp.trans aa)
 replace ha:=ha.kp ab
 exact ⟨_,_,rfl,ha.num⟩

set_option maxRecDepth 100000 in
set_option maxHeartbeats 1000000 in
theorem zO1 {k:Nat} {u0 u1 u2 u3:Value} {a:Rat} {w:World} (ha:IsRat w k u0 u1 u2 u3 a):
    Calls Tryz.prog 76 #[(.agg #[u0,u1,u2,u3])] w fun e w'=>e=.returned (.int .i64 (sgn a.num))∧Gr w w':=by
 go_enter Tryz.func76,Tryz.ntmps76
 have hB:=Gr.refl w
 refine wp_seq_k (fun K1 k1=>?_)
 refine rg [0,1] ?_
 refine se ?_
 refine eb 36 #[u0,u1,u2,u3] 1 hB fun b2 w2 g2 L2 o2 q2 hB=>?_
 simp only [p3,p4]
 refine sv 2 (.int .i64 0) ?_
 refine za0 ?_
 refine k1 _ _ ?_
 try clear k1 K1
 refine wp_seq_k (fun K3 k3=>?_)
 refine rg [0,1,2,3] ?_
 refine sv 3 (.pointer (some ⟨b2,0,none⟩)) ?_
 refine sw 4 (.agg #[u0,u1]) rfl (rl 34 0 [u0,u1] L2) ?_
 refine se ?_
 replace ha:=ha.kp g2.kp
 refine ec 5 (yj1 ha.num) ?_
 rintro e4 w4 ⟨rfl,g4⟩
 refine ⟨_,rfl,?_⟩
 replace hB:=hB.trans g4
 simp only [p3,p4]
 refine sv 2 (.int .i64 (sgn (a.num))) ?_
 refine za0 ?_
 refine k3 _ _ ?_
 try clear k3 K3
 refine wp_ret ?_
 refine bodyPost_ret (v:=(.int .i64 (sgn (a.num)))) (zb0 rfl rfl) rfl ⟨?_,hB⟩
 exact rfl

set_option maxRecDepth 100000 in
set_option maxHeartbeats 1000000 in
theorem zX1 (z:Int) (_h0:-9223372036854775808≤z) (_h1:z≤9223372036854775807) (w:World):
    Calls Tryz.prog 59 #[(.int .i64 (z))] w fun e w'=>(∃ c0 c1 c2 c3,e=.returned (.agg #[c0,c1,c2,c3])∧IsRat w' 64 c0 c1 c2 c3 ((z:Rat)))∧Gr w w':=by
 go_enter Tryz.func59,Tryz.ntmps59
 have hB:=Gr.refl w
 refine wp_seq_k (fun K1 k1=>?_)
 refine rg [0] ?_
 refine se ?_
 refine ea 36 #[.bool false,.slice none 0 0,.bool false,.slice none 0 0] 2 hB fun b2 w2 g2 L2 o2 q2 hB=>?_
 simp only [p3,p4]
 refine za0 ?_
 refine k1 _ _ ?_
 try clear k1 K1
 refine wp_seq_k (fun K3 k3=>?_)
 refine rg [0,1,2,3] ?_
 refine sv 3 (.int .i64 (z)) ?_
 refine se ?_
 refine ec 4 (yj2 (z) (by omega) (by omega) _) ?_
 rintro e4 w4 ⟨⟨x4,y4,rfl,h4⟩,g4⟩
 refine ⟨_,rfl,?_⟩
 replace hB:=hB.trans g4
 simp only [p3,p4]
 refine sv 5 (.agg #[x4,y4,.bool false,.slice none 0 0]) ?_
 refine se ?_
 replace L2:=L2.gr g4
 refine es 36 0 (.agg #[x4,y4,.bool false,.slice none 0 0]) [x4,y4,.bool false,.slice none 0 0] #[x4,y4,.bool false,.slice none 0 0] L2 hB q2 ⟨h4.one0,h4.one1,rfl,rfl,trivial⟩ fun w5 ab aa L2 hB=>?_
 refine za0 ?_
 refine k3 _ _ ?_
 try clear k3 K3
 refine wp_ret ?_
 refine bodyPost_ret (v:=(.agg #[x4,y4,.bool false,.slice none 0 0])) (zb3 _ _ _ rfl rfl L2 (by kernel_rfl)) rfl ⟨?_,hB⟩
 replace h4:=h4.kp aa
 exact ⟨_,_,_,_,rfl,IsRat.int h4 (by omega)⟩

set_option maxRecDepth 100000 in
set_option maxHeartbeats 1000000 in
theorem rcomp_tt {k m:Nat} {u0 u1 u2 u3 v0 v1 v2 v3:Value} {a b:Rat} {w:World} (ha:IsRat w k u0 u1 u2 u3 a) (hb:IsRat w m v0 v1 v2 v3 b) (_hk:k+m≤100000) (wa:a.den=1) (wb:b.den=1):
    Calls Tryz.prog 37 #[(.agg #[u0,u1,u2,u3]),(.agg #[v0,v1,v2,v3])] w fun e w'=>e=.returned (.int .i64 (yp9 a b))∧Gr w w':=by
 have hka:=ha.big
 have hkb:=hb.big
 go_enter Tryz.func37,Tryz.ntmps37
 have hB:=Gr.refl w
 refine wp_seq_k (fun K1 k1=>?_)
 refine rg [0,1,2] ?_
 refine se ?_
 refine eb 36 #[u0,u1,u2,u3] 2 hB fun b2 w2 g2 L2 o2 q2 hB=>?_
 simp only [p3,p4]
 refine se ?_
 refine eb 36 #[v0,v1,v2,v3] 3 hB fun b3 w3 g3 L3 o3 q3 hB=>?_
 simp only [p3,p4]
 refine sv 4 (.int .i64 0) ?_
 refine za0 ?_
 refine k1 _ _ ?_
 try clear k1 K1
 refine wp_seq_k (fun K4 k4=>?_)
 refine wp_seq_k (fun K5 k5=>?_)
 refine rg [0,1,2,3,4,5] ?_
 replace L2:=L2.gr g3
 refine sw 5 (.agg #[u0,u1,u2,u3]) rfl (rl 36 0 [u0,u1,u2,u3] L2) ?_
 refine se ?_
 have ac:=g2.kp.trans g3.kp
 replace ha:=ha.kp ac
 refine ec 6 (zm8 ha (by omega) wa) ?_
 rintro e6 w6 ⟨rfl,g6⟩
 refine ⟨_,rfl,?_⟩
 replace hB:=hB.trans g6
 simp only [p3,p4]
 refine sv 7 (.bool true) ?_
 replace L3:=L3.gr g6
 refine sw 8 (.agg #[v0,v1,v2,v3]) rfl (rl 36 0 [v0,v1,v2,v3] L3) ?_
 refine se ?_
 have ad:=g2.kp.trans (g3.kp.trans g6.kp)
 replace hb:=hb.kp ad
 refine ec 9 (zm8 hb (by omega) wb) ?_
 rintro e8 w8 ⟨rfl,g8⟩
 refine ⟨_,rfl,?_⟩
 replace hB:=hB.trans g8
 simp only [p3,p4]
 refine sv 10 (.bool true) ?_
 refine za0 ?_
 refine k5 _ _ ?_
 try clear k5 K5
 refine wp_cond_true rfl ?_
 refine wp_seq_k (fun ae ab=>?_)
 refine rg [0,1,2,3,4,5] ?_
 refine sv 11 (.pointer (some ⟨b2,0,none⟩)) ?_
 replace L2:=L2.gr (g6.trans g8)
 refine sw 12 (.agg #[u0,u1]) rfl (rl 34 0 [u0,u1] L2) ?_
 refine sv 13 (.pointer (some ⟨b3,0,none⟩)) ?_
 replace L3:=L3.gr g8
 refine sw 14 (.agg #[v0,v1]) rfl (rl 34 0 [v0,v1] L3) ?_
 refine se ?_
 have aa:=g6.kp.trans g8.kp
 replace ha:=ha.kp aa
 replace hb:=hb.kp g8.kp
 refine ec 15 (ze5 ha.num hb.num (by omega) (by omega)) ?_
 rintro e11 ah ⟨rfl,af⟩
 refine ⟨_,rfl,?_⟩
 replace hB:=hB.trans af
 simp only [p3,p4]
 refine sv 4 (.int .i64 (sgn (a.num - b.num))) ?_
 refine za0 ?_
 refine ab _ _ ?_
 try clear ab ae
 refine wp_ret ?_
 simp only [Exit.then]
 refine bodyPost_ret (v:=(.int .i64 (sgn (a.num - b.num)))) (zb0 rfl rfl) rfl ⟨?_,hB⟩
 exact by rw [rcmp_int wa wb]

set_option maxRecDepth 100000 in
set_option maxHeartbeats 1000000 in
theorem rcomp_tf {k m:Nat} {u0 u1 u2 u3 v0 v1 v2 v3:Value} {a b:Rat} {w:World} (ha:IsRat w k u0 u1 u2 u3 a) (hb:IsRat w m v0 v1 v2 v3 b) (_hk:k+m≤100000) (wa:a.den=1) (wb:b.den≠1):
    Calls Tryz.prog 37 #[(.agg #[u0,u1,u2,u3]),(.agg #[v0,v1,v2,v3])] w fun e w'=>e=.returned (.int .i64 (yp9 a b))∧Gr w w':=by
 have hka:=ha.big
 have hkb:=hb.big
 go_enter Tryz.func37,Tryz.ntmps37
 have hB:=Gr.refl w
 refine wp_seq_k (fun K1 k1=>?_)
 refine rg [0,1,2] ?_
 refine se ?_
 refine eb 36 #[u0,u1,u2,u3] 2 hB fun b2 w2 g2 L2 o2 q2 hB=>?_
 simp only [p3,p4]
 refine se ?_
 refine eb 36 #[v0,v1,v2,v3] 3 hB fun b3 w3 g3 L3 o3 q3 hB=>?_
 simp only [p3,p4]
 refine sv 4 (.int .i64 0) ?_
 refine za0 ?_
 refine k1 _ _ ?_
 try clear k1 K1
 refine wp_seq_k (fun K4 k4=>?_)
 refine wp_seq_k (fun K5 k5=>?_)
 refine rg [0,1,2,3,4,5] ?_
 replace L2:=L2.gr g3
 refine sw 5 (.agg #[u0,u1,u2,u3]) rfl (rl 36 0 [u0,u1,u2,u3] L2) ?_
 refine se ?_
 have aq:=g2.kp.trans g3.kp
 replace ha:=ha.kp aq
 refine ec 6 (zm8 ha (by omega) wa) ?_
 rintro e6 w6 ⟨rfl,g6⟩
 refine ⟨_,rfl,?_⟩
 replace hB:=hB.trans g6
 simp only [p3,p4]
 refine sv 7 (.bool true) ?_
 replace L3:=L3.gr g6
 refine sw 8 (.agg #[v0,v1,v2,v3]) rfl (rl 36 0 [v0,v1,v2,v3] L3) ?_
 refine se ?_
 have ar:=g2.kp.trans (g3.kp.trans g6.kp)
 replace hb:=hb.kp ar
 refine ec 9 (zw5 hb (by omega) wb) ?_
 rintro e8 w8 ⟨rfl,g8⟩
 refine ⟨_,rfl,?_⟩
 replace hB:=hB.trans g8
 simp only [p3,p4]
 refine sv 10 (.bool false) ?_
 refine za0 ?_
 refine k5 _ _ ?_
 try clear k5 K5
 refine wp_cond_false rfl ?_
 refine wp_skip ?_
 refine k4 _ _ ?_
 try clear k4 K4
 refine wp_seq_k (fun av ap=>?_)
 have aa:=Gr.drew w8
 replace hB:=hB.trans aa
 replace L2:=L2.gr (g6.trans (g8.trans aa))
 replace L3:=L3.gr (g8.trans aa)
 refine za3 (fun w'=>Lc w' b2 #[u0,u1,u2,u3] 36∧Lc w' b3 #[v0,v1,v2,v3] 36) [(true,0),(true,1),(true,2),(true,5),(true,6),(true,7),(false,3),(false,4),(false,8),(false,9),(false,10),(true,11)] (by kernel_rfl) (by kernel_rfl) (by kernel_rfl) (by decide) (fun _ _ _ _ _ h=>h) ⟨L2,L3⟩ ?_
 refine ov 16 (.pointer (some ⟨b2,0,none⟩)) ?_
 refine ow 17 (.agg #[u0,u1]) rfl (fun w' hS=>(rl 34 0 [u0,u1] hS.1)) ?_
 refine ow 18 (.agg #[v0,v1,v2,v3]) rfl (fun w' hS=>(rl 36 0 [v0,v1,v2,v3] hS.2)) ?_
 refine ov 21 (.pointer (some ⟨b3,0,none⟩)) ?_
 refine ow 22 (.agg #[v0,v1]) rfl (fun w' hS=>(rl 34 0 [v0,v1] hS.2)) ?_
 refine ow 23 (.agg #[u0,u1,u2,u3]) rfl (fun w' hS=>(rl 36 0 [u0,u1,u2,u3] hS.1)) ?_
 refine oe ?_
 have al:=g8.kp.trans aa.kp
 replace hb:=hb.kp al
 refine ec 19 (zo3 hb) ?_
 rintro aO aH ⟨⟨aJ,aG,rfl,au⟩,ac⟩
 refine ⟨_,rfl,?_⟩
 replace hB:=hB.trans ac
 replace L2:=L2.gr ac
 replace L3:=L3.gr ac
 refine ⟨⟨L2,L3⟩,?_⟩
 simp only [p3,p4]
 refine oe ?_
 have ai:=g6.kp.trans (g8.kp.trans (aa.kp.trans ac.kp))
 replace ha:=ha.kp ai
 refine ec 20 (zq7 ha.num au (by omega)) ?_
 rintro e31 aM ⟨⟨ay,aL,rfl,af⟩,ad⟩
 refine ⟨_,rfl,?_⟩
 replace hB:=hB.trans ad
 replace L2:=L2.gr ad
 replace L3:=L3.gr ad
 refine ⟨⟨L2,L3⟩,?_⟩
 simp only [p3,p4]
 refine oe ?_
 replace ha:=ha.kp ad.kp
 refine ec 24 (zo3 ha) ?_
 rintro aI aF ⟨⟨aA,aN,rfl,ax⟩,ab⟩
 refine ⟨_,rfl,?_⟩
 replace hB:=hB.trans ab
 replace L2:=L2.gr ab
 replace L3:=L3.gr ab
 refine ⟨⟨L2,L3⟩,?_⟩
 simp only [p3,p4]
 refine oe ?_
 have ak:=ac.kp.trans (ad.kp.trans ab.kp)
 replace hb:=hb.kp ak
 refine ec 25 (zq7 hb.num ax (by omega)) ?_
 rintro aE aC ⟨⟨aK,aB,rfl,aw⟩,ae⟩
 refine ⟨_,rfl,?_⟩
 replace hB:=hB.trans ae
 replace L2:=L2.gr ae
 replace L3:=L3.gr ae
 refine ⟨⟨L2,L3⟩,?_⟩
 simp only [p3,p4]
 refine oe ?_
 have aj:=ab.kp.trans ae.kp
 replace af:=af.kp aj
 refine ec 26 (ze5 af aw (by omega) (by omega)) ?_
 rintro az aD ⟨rfl,ah⟩
 refine ⟨_,rfl,?_⟩
 replace hB:=hB.trans ah
 replace L2:=L2.gr ah
 replace L3:=L3.gr ah
 refine ⟨⟨L2,L3⟩,?_⟩
 simp only [p3,p4]
 refine ov 4 (.int .i64 (sgn ((a.num*(b.den:Int)) - (b.num*(a.den:Int))))) ?_
 refine zc0 ?_
 refine ap _ _ ?_
 try clear ap av
 refine wp_ret ?_
 refine bodyPost_ret (v:=(.int .i64 (sgn ((a.num*(b.den:Int)) - (b.num*(a.den:Int)))))) (zb0 rfl rfl) rfl ⟨?_,hB⟩
 exact rfl

set_option maxRecDepth 100000 in
set_option maxHeartbeats 1000000 in
theorem rcomp_f {k m:Nat} {u0 u1 u2 u3 v0 v1 v2 v3:Value} {a b:Rat} {w:World} (ha:IsRat w k u0 u1 u2 u3 a) (hb:IsRat w m v0 v1 v2 v3 b) (_hk:k+m≤100000) (wa:a.den≠1):
    Calls Tryz.prog 37 #[(.agg #[u0,u1,u2,u3]),(.agg #[v0,v1,v2,v3])] w fun e w'=>e=.returned (.int .i64 (yp9 a b))∧Gr w w':=by
 have hka:=ha.big
 have hkb:=hb.big
 go_enter Tryz.func37,Tryz.ntmps37
 have hB:=Gr.refl w
 refine wp_seq_k (fun K1 k1=>?_)
 refine rg [0,1,2] ?_
 refine se ?_
 refine eb 36 #[u0,u1,u2,u3] 2 hB fun b2 w2 g2 L2 o2 q2 hB=>?_
 simp only [p3,p4]
 refine se ?_
 refine eb 36 #[v0,v1,v2,v3] 3 hB fun b3 w3 g3 L3 o3 q3 hB=>?_
 simp only [p3,p4]
 refine sv 4 (.int .i64 0) ?_
 refine za0 ?_
 refine k1 _ _ ?_
 try clear k1 K1
 refine wp_seq_k (fun K4 k4=>?_)
 refine wp_seq_k (fun K5 k5=>?_)
 refine rg [0,1,2,3,4,5] ?_
 replace L2:=L2.gr g3
 refine sw 5 (.agg #[u0,u1,u2,u3]) rfl (rl 36 0 [u0,u1,u2,u3] L2) ?_
 refine se ?_
 have ap:=g2.kp.trans g3.kp
 replace ha:=ha.kp ap
 refine ec 6 (zw5 ha (by omega) wa) ?_
 rintro e6 w6 ⟨rfl,g6⟩
 refine ⟨_,rfl,?_⟩
 replace hB:=hB.trans g6
 simp only [p3,p4]
 refine sv 7 (.bool false) ?_
 refine ss 8 ?_
 refine ss 9 ?_
 refine sv 10 (.bool false) ?_
 refine za0 ?_
 refine k5 _ _ ?_
 try clear k5 K5
 refine wp_cond_false rfl ?_
 refine wp_skip ?_
 refine k4 _ _ ?_
 try clear k4 K4
 refine wp_seq_k (fun K8 k8=>?_)
 have aa:=Gr.drew w6
 replace hB:=hB.trans aa
 replace L2:=L2.gr (g6.trans aa)
 replace L3:=L3.gr (g6.trans aa)
 refine za3 (fun w'=>Lc w' b2 #[u0,u1,u2,u3] 36∧Lc w' b3 #[v0,v1,v2,v3] 36) [(true,0),(true,1),(true,2),(true,5),(true,6),(true,7),(false,3),(false,4),(false,8),(false,9),(false,10),(true,11)] (by kernel_rfl) (by kernel_rfl) (by kernel_rfl) (by decide) (fun _ _ _ _ _ h=>h) ⟨L2,L3⟩ ?_
 refine ov 16 (.pointer (some ⟨b2,0,none⟩)) ?_
 refine ow 17 (.agg #[u0,u1]) rfl (fun w' hS=>(rl 34 0 [u0,u1] hS.1)) ?_
 refine ow 18 (.agg #[v0,v1,v2,v3]) rfl (fun w' hS=>(rl 36 0 [v0,v1,v2,v3] hS.2)) ?_
 refine ov 21 (.pointer (some ⟨b3,0,none⟩)) ?_
 refine ow 22 (.agg #[v0,v1]) rfl (fun w' hS=>(rl 34 0 [v0,v1] hS.2)) ?_
 refine ow 23 (.agg #[u0,u1,u2,u3]) rfl (fun w' hS=>(rl 36 0 [u0,u1,u2,u3] hS.1)) ?_
 refine oe ?_
 have ah:=g2.kp.trans (g3.kp.trans (g6.kp.trans aa.kp))
 replace hb:=hb.kp ah
 refine ec 19 (zo3 hb) ?_
 rintro ay aE ⟨⟨aI,aF,rfl,au⟩,ac⟩
 refine ⟨_,rfl,?_⟩
 replace hB:=hB.trans ac
 replace L2:=L2.gr ac
 replace L3:=L3.gr ac
 refine ⟨⟨L2,L3⟩,?_⟩
 simp only [p3,p4]
 refine oe ?_
 have al:=g6.kp.trans (aa.kp.trans ac.kp)
 replace ha:=ha.kp al
 refine ec 20 (zq7 ha.num au (by omega)) ?_
 rintro aC aJ ⟨⟨aA,aw,rfl,ak⟩,ab⟩
 refine ⟨_,rfl,?_⟩
 replace hB:=hB.trans ab
 replace L2:=L2.gr ab
 replace L3:=L3.gr ab
 refine ⟨⟨L2,L3⟩,?_⟩
 simp only [p3,p4]
 refine oe ?_
 replace ha:=ha.kp ab.kp
 refine ec 24 (zo3 ha) ?_
 rintro e32 aH ⟨⟨aD,av,rfl,aq⟩,ad⟩
 refine ⟨_,rfl,?_⟩
 replace hB:=hB.trans ad
 replace L2:=L2.gr ad
 replace L3:=L3.gr ad
 refine ⟨⟨L2,L3⟩,?_⟩
 simp only [p3,p4]
 refine oe ?_
 have ai:=ac.kp.trans (ab.kp.trans ad.kp)
 replace hb:=hb.kp ai
 refine ec 25 (zq7 hb.num aq (by omega)) ?_
 rintro aG aB ⟨⟨az,aK,rfl,ar⟩,ae⟩
 refine ⟨_,rfl,?_⟩
 replace hB:=hB.trans ae
 replace L2:=L2.gr ae
 replace L3:=L3.gr ae
 refine ⟨⟨L2,L3⟩,?_⟩
 simp only [p3,p4]
 refine oe ?_
 have af:=ad.kp.trans ae.kp
 replace ak:=ak.kp af
 refine ec 26 (ze5 ak ar (by omega) (by omega)) ?_
 rintro aL ax ⟨rfl,aj⟩
 refine ⟨_,rfl,?_⟩
 replace hB:=hB.trans aj
 replace L2:=L2.gr aj
 replace L3:=L3.gr aj
 refine ⟨⟨L2,L3⟩,?_⟩
 simp only [p3,p4]
 refine ov 4 (.int .i64 (sgn ((a.num*(b.den:Int)) - (b.num*(a.den:Int))))) ?_
 refine zc0 ?_
 refine k8 _ _ ?_
 try clear k8 K8
 refine wp_ret ?_
 refine bodyPost_ret (v:=(.int .i64 (sgn ((a.num*(b.den:Int)) - (b.num*(a.den:Int)))))) (zb0 rfl rfl) rfl ⟨?_,hB⟩
 exact rfl

theorem zX2 {k m:Nat} {u0 u1 u2 u3 v0 v1 v2 v3:Value} {a b:Rat} {w:World} (ha:IsRat w k u0 u1 u2 u3 a) (hb:IsRat w m v0 v1 v2 v3 b) (hk:k+m≤100000):
  Calls Tryz.prog 37 #[.agg #[u0,u1,u2,u3],.agg #[v0,v1,v2,v3]] w fun e w'=>e=.returned (.int .i64 (yp9 a b))∧Gr w w':=by
 by_cases wa:a.den=1
 ·by_cases wb:b.den=1
  ·exact rcomp_tt ha hb hk wa wb
  ·exact rcomp_tf ha hb hk wa wb
 ·exact rcomp_f ha hb hk wa

def Tab (w:World):Prop:=Lib.TabIs Tryz.prog w "internal/strconv.uint64pow10" .u64 Lib.pow10Tab
theorem Tab.gr {w w':World} (h:Tab w) (g:Gr w w'):Tab w':=by
 unfold Tab Lib.TabIs World.var? at*
 cases hn:Tryz.prog.globalNamed "internal/strconv.uint64pow10" with
 | none=>rw [hn] at h;cases h
 | some k=>
  rw [hn] at h
  simp only [Option.bind_some] at h ⊢
  cases hk:w.heap[k]? with
  | none=>rw [hk] at h;cases h
  | some o=>rw [g.heap hk];rw [hk] at h;exact h
theorem itoa_t (n:Int) (h0:0≤n) (h1:n<1000000000) {w:World} (ht:Tab w):
  Calls Tryz.prog 135 #[.int .i64 n] w fun e w'=>e=.returned (.string ⟨(Lib.decDigits n.toNat).toArray⟩)∧Gr w w':=by
 refine (Tryz.strconv_Itoa n (by omega) (by omega) w ht).mono ?_
 rintro e w' ⟨he,k,os,rfl⟩
 refine ⟨?_,?_⟩
 ·rw [he];unfold Lib.itoa;rw [if_neg (by omega)]
 ·refine ⟨rfl,rfl,rfl,by simp [Sort.grow],fun i hi=>?_⟩
  show (w.heap++os)[i]?=w.heap[i]?
  rw [Array.getElem?_append_left hi]
theorem repeat9 (n:Nat) (h:n≤9) (w:World):
  Calls Tryz.prog 136 #[.string ⟨#[48]⟩,.int .i64 (9 - (n:Int))] w fun e w'=>e=.returned (.string ⟨(Lib.repeatL [48] (9 - n)).toArray⟩)∧Gr w w':=by
 have e:(9 - (n:Int))=((9 - n:Nat):Int):=by omega
 rw [e]
 refine (Tryz.strings_Repeat ⟨#[48]⟩ (9 - n) w (by omega) ?_).mono ?_
 ·show 1*(9 - n)≤_
  omega
 ·rintro e w' ⟨he,hb⟩
  exact ⟨he,hb⟩

def yq9 (l:List UInt8):Value:=.string ⟨l.toArray⟩
theorem zE3:∀ (vs:List Value) (off:Nat) (cs:Array Value),off+vs.length≤cs.size→(ze6 cs off vs).size=cs.size∧∀ i,(ze6 cs off vs)[i]?=if off≤i∧i<off+vs.length then vs[i - off]? else cs[i]?
 | [],off,cs,_=>⟨rfl,fun i=>by rw [if_neg (by simp only [List.length_nil];omega)];rfl⟩
 | v::vs,off,cs,h=>by
  simp only [List.length_cons] at h
  obtain ⟨h1,h2⟩:=zE3 vs (off+1) (cs.setIfInBounds off v) (by rw [Array.size_setIfInBounds];omega)
  refine ⟨by rw [ze6,h1];simp,fun i=>?_⟩
  rw [ze6,h2 i]
  by_cases e:off=i
  ·subst e
   have h9:off<cs.size:=by omega
   rw [if_neg (by omega),if_pos (by simp)]
   simp [h9]
  ·by_cases hi:off+1≤i∧i<off+1+vs.length
   ·rw [if_pos hi,if_pos (by simp;omega)]
    have:i - off=(i - (off+1))+1:=by omega
    rw [this,List.getElem?_cons_succ]
   ·rw [if_neg hi,if_neg (by simp;omega),Array.getElem?_setIfInBounds_ne e]
theorem zZ9 {w:World} {T:Nat} {L:List (List UInt8)} {g:Nat} {cur:Array Value} (hg:w.heap[g]?=some (.cells cur T (0,0))) (ht:cur.toList.take (L.map yq9).length=L.map yq9) (i:Nat) (hi:i<L.length):
  w.cell? ⟨g,i,none⟩=some (yq9 (L.getD i [])):=by
 rw [zb5 hg]
 have h1:(cur.toList.take (L.map yq9).length)[i]?=(L.map yq9)[i]?:=by rw [ht]
 rw [List.getElem?_take_of_lt (by simpa using hi)] at h1
 rw [Array.getElem?_toList] at h1
 rw [h1]
 simp [hi]
theorem yf0 {w:World} {B:Nat} {v:Value} {L:List (List UInt8)} (h:OwnS w 9 B v (L.map yq9)) (hp:0<L.length):
  Calls Tryz.prog 137 #[v] w fun e w'=>e=.returned (.tuple #[])∧OwnS w' 9 B v (L.reverse.map yq9)∧Wt 9 w w'∧(∀ w0,Gr w0 w→w0.heap.size≤B→Gr w0 w'):=by
 obtain ⟨g,cap,cur,rfl,hb,hg,h1,h2,h3,h4⟩:=h.block (by simpa using hp)
 rw [List.length_map] at h1 ⊢
 have hlen:L.length≤9223372036854775807:=by unfold maxLen at h2;omega
 refine (Tryz.slices_Reverse_string_cells g 0 L.length cap (fun i=>⟨(L.getD i []).toArray⟩) w hlen (fun i hi=>?_) (fun i hi=>zm4 hg _)).mono ?_
 ·rw [Nat.zero_add];exact zZ9 hg h4 i hi
 rintro e w' ⟨he,q,rfl⟩
 have es:(Lib.strsOf (fun i=>⟨(L.getD i []).toArray⟩) L.length)=L:=by
  unfold Lib.strsOf
  apply List.ext_getElem
  ·simp
  ·intro i h1 h2;simp at h1;simp [h1]
 rw [es]
 have hst:=St.setCells g (L.reverse.map encStr) 0 (w.drewN q)
 have hh:((w.drewN q).setCells g 0 (L.reverse.map encStr)).heap[g]?=some (.cells (ze6 cur 0 (L.reverse.map encStr)) 9 (0,0)):=zo4 _ 0 (w:=w.drewN q) hg
 obtain ⟨ab,aa⟩:=zE3 (L.reverse.map encStr) 0 cur (by simp;omega)
 have hbl:∀ k,k≠g→((w.drewN q).setCells g 0 (L.reverse.map encStr)).heap[k]?=w.heap[k]?:=fun k hk=>hst.block k hk
 refine ⟨he,⟨by simp,.inr ⟨g,cap,_,by simp,hb,hh,by simpa using h1,h2,by rw [ab];omega,?_⟩⟩,⟨hst.os,hst.tape,hst.output,Nat.le_of_eq hst.size.symm,fun b cs t fr ht hk=>?_⟩,fun w0 hG hB=>?_⟩
 ·apply List.ext_getElem?
  intro i
  by_cases hi:i<L.length
  ·rw [List.getElem?_take_of_lt (by simpa using hi),Array.getElem?_toList,aa i,if_pos (by simpa using hi)]
   rfl
  ·rw [List.getElem?_eq_none (by simp;omega),List.getElem?_eq_none (by simp;omega)]
 ·rw [hbl b (fun e=>?_)]
  ·exact hk
  ·subst e
   rw [hg] at hk
   simp only [Option.some.injEq,Obj.cells.injEq] at hk
   exact ht hk.2.1.symm
 ·exact Below.trans hG ⟨hst.os,hst.tape,hst.output,Nat.le_of_eq hst.size.symm,fun k hk=>hbl k (by omega)⟩
theorem join_own {w:World} {B:Nat} {v:Value} {L:List (List UInt8)} (h:OwnS w 9 B v (L.map yq9)) (hp:0<L.length) (hl:L.flatten.length≤140737488355328) (hn:L.length≤1000000):
  Calls Tryz.prog 138 #[v,.string ⟨#[]⟩] w fun e w'=>e=.returned (.string ⟨L.flatten.toArray⟩)∧Gr w w':=by
 obtain ⟨g,cap,cur,rfl,hb,hg,h1,h2,h3,h4⟩:=h.block (by simpa using hp)
 have em:((L.map fun l=>(⟨l.toArray⟩:ByteArray)).map fun x=>x.data.toList)=L:=by
  rw [List.map_map]
  conv=>rhs;rw [← List.map_id L]
  exact List.map_congr_left fun l _=>by simp
 have:=Tryz.strings_Join g 0 cap (L.map fun l=>⟨l.toArray⟩) ⟨#[]⟩ w (fun j x hj=>?_) (zh1 hg) (by simp;omega) (by simpa using h1) (by
  rw [em];show (Lib.join L []).length≤_;rw [zD1];exact hl)
 ·rw [em] at this
  simp only [List.length_map] at this ⊢
  refine this.mono ?_
  rintro e w' ⟨he,hb⟩
  refine ⟨?_,hb⟩
  rw [he]
  show Ending.returned (.string ⟨(Lib.join L []).toArray⟩)=_
  rw [zD1]
 ·rw [Nat.zero_add,zZ9 hg h4 j (by have:=(List.getElem?_eq_some_iff.1 hj).1;simpa using this)]
  obtain ⟨hj',e⟩:=List.getElem?_eq_some_iff.1 hj
  subst e
  simp at hj'
  simp [hj',yq9]
theorem itoa_n (n:Nat) (h1:n<1000000000) {w:World} (ht:Tab w):
  Calls Tryz.prog 135 #[.int .i64 (n:Int)] w fun e w'=>e=.returned (.string ⟨(Lib.decDigits n).toArray⟩)∧Gr w w':=itoa_t n (by omega) (by omega) ht
theorem short9 {ao:Option Addr} {la ca u:Nat} {w:World} (h:Mag w ao la ca (u:Int)) (hl:la≤1000000):
  Calls Tryz.prog 134 #[.slice ao la ca,.int .u32 1000000000] w fun e w'=>
   (∃ go k cap,e=.returned (.tuple #[.slice go k cap,.int .u32 ((u % 1000000000:Nat):Int)])∧Mag w' go k cap ((u/1000000000:Nat):Int))∧Gr w w':=
 yr6 ao la ca u 1000000000 w (by omega) h (by omega) (by omega)
theorem Mag.pos0 {w:World} {ao:Option Addr} {la ca u:Nat} (h:Mag w ao la ca (u:Int)) (hb:decide ((0:Int)<(la:Int))=true):0<u:=by
 have h0:(0:Int)<la:=by simpa using hb
 rcases Nat.eq_zero_or_pos u with e | e
 ·have:=h.nl.len_zero.2 (by omega);omega
 ·exact e
theorem Mag.zero0 {w:World} {ao:Option Addr} {la ca u:Nat} (h:Mag w ao la ca (u:Int)) (hb:decide ((0:Int)<(la:Int))=false):u=0:=by
 have h0:¬ (0:Int)<la:=by simpa using hb
 have:=h.nl.len_zero.1 (by omega)
 omega
theorem Mag.len9 {w:World} {ao:Option Addr} {la ca u k:Nat} (h:Mag w ao la ca (u:Int)) (hu:u<2 ^ k) (hk:k≤1000000):la≤1000000:=by
 have:=h.nl.len_sz (show Sz k (u:Int) by unfold Sz;simpa using hu)
 omega
set_option maxRecDepth 100000 in
set_option maxHeartbeats 4000000 in
theorem text_pos {k N:Nat} {s:Bool} {ao:Option Addr} {la ca:Nat} {w:World} (ha:Mag w ao la ca (N:Int)) (hN:0<N) (hNk:N<2 ^ k) (_hk:k≤900000) (ht:Tab w):
    Calls Tryz.prog 114 #[(.agg #[(.bool (s)),.slice ao la ca])] w fun e w'=>e=.returned (.string ⟨((if s then [45] else [])++Lib.decDigits N).toArray⟩)∧Gr w w':=by
 have hla:0<la:=by
    rcases Nat.eq_zero_or_pos la with e | e
    · have:=ha.nl.len_zero.1 e;omega
    · exact e
 have e0:((la:Int)==(0:Int))=false:=by simp;omega
 go_enter Tryz.func114,Tryz.ntmps114
 have hB:=Gr.refl w
 refine wp_seq_k (fun K1 k1=>?_)
 refine rg [0,1] ?_
 refine se ?_
 refine eb 34 #[(.bool (s)),.slice ao la ca] 1 hB fun b2 w2 g2 L2 o2 q2 hB=>?_
 simp only [p3,p4]
 refine sv 2 (.string ⟨([]:List UInt8).toArray⟩) ?_
 refine za0 ?_
 refine k1 _ _ ?_
 try clear k1 K1
 refine wp_seq_k (fun K3 k3=>?_)
 refine wp_seq_k (fun K4 k4=>?_)
 refine rg [0,1,2,3] ?_
 refine sv 9 (.pointer (some ⟨b2,1,none⟩)) ?_
 refine sw 10 (.slice ao la ca) rfl (rk 32 1 L2) ?_
 refine sv 11 (.int .i64 ((la:Int))) ?_
 refine sw 12 (.bool false) rfl (RunV.bool (x:=((la:Int)==(0:Int))) (rvk (by kernel_rfl)) e0) ?_
 refine za0 ?_
 refine k4 _ _ ?_
 try clear k4 K4
 refine wp_cond_false rfl ?_
 refine wp_skip ?_
 refine k3 _ _ ?_
 try clear k3 K3
 refine wp_seq_k (fun K5 k5=>?_)
 refine rg [0] ?_
 refine sv 3 (.slice none 0 0) ?_
 refine za0 ?_
 refine k5 _ _ ?_
 try clear k5 K5
 refine wp_seq_k (fun K6 k6=>?_)
 refine wp_seq_k (fun K7 k7=>?_)
 refine rg [0,1,2] ?_
 refine sv 13 (.pointer (some ⟨b2,1,none⟩)) ?_
 refine sw 14 (.slice ao la ca) rfl (rk 32 1 L2) ?_
 refine sv 4 (.slice ao la ca) ?_
 refine za0 ?_
 refine k7 _ _ ?_
 try clear k7 K7
 refine wp_block ?_
 replace ha:=ha.kp g2.kp
 refine zg5 (a:=⟨List.toArray ?l8,[]⟩) (fun n a w'=>∃ (u:Nat) (L:List (List UInt8)) (v:Value) (mo:Option Addr) (ml:Nat) (mc:Nat) (u8:Nat→Value),u=n∧a=⟨[(u8 0),(.pointer (some ⟨b2,0,none⟩)),(.string ⟨([]:List UInt8).toArray⟩),v,.slice mo ml mc,(u8 5),(u8 6),(u8 7),undef,(u8 9),(u8 10),(u8 11),.bool false,(u8 13),(u8 14),(u8 15),(u8 16),(u8 17),(u8 18),(u8 19),(u8 20),(u8 21),(u8 22),(u8 23),(u8 24),(u8 25),(u8 26),(u8 27),(u8 28),(u8 29),(u8 30),(u8 31),(u8 32),(u8 33),(u8 34),(u8 35),(u8 36),(u8 37),(u8 38),(u8 39),undef,undef,undef,undef,undef,undef,undef,undef,undef].toArray,[]⟩∧L++yc2 u=yc2 N∧u<2 ^ k∧Mag w' mo ml mc (u:Int)∧OwnS w' 9 w.heap.size v (L.map yq9)∧Lc w' b2 #[(.bool (s)),.slice ao la ca] 34∧Gr w w') (N) ?_ ?_
 ·exact ⟨N,[],.slice none 0 0,ao,la,ca,(fun i=>List.getD ?l8 i undef),rfl,rfl,(by simp),hNk,ha,(OwnS.nil _ _ _),L2,hB⟩
 rintro n8 a8 w8 ⟨u,L,v,mo,ml,mc,u8,rfl,rfl,hX,hu,hm,hown,L2,hB⟩ K8 k8
 have hln:L.length≤1000000:=by have h1:=yh2 k N hNk;rw [← hX,List.length_append] at h1;omega
 have h9:=dec9 u
 have bt:(Lib.repeatL [48] (9 - (Lib.decDigits (u % 1000000000)).length)).length≤9:=by rw [Lib.repeatL_length];simp
 refine wp_seq_k (fun K9 k9=>?_)
 refine wp_seq_k (fun a9 aO=>?_)
 refine rg [0,1,2] ?_
 refine sv 15 (.slice mo ml mc) ?_
 refine sv 16 (.int .i64 ((ml:Int))) ?_
 refine sv 17 (.bool (decide ((0:Int)<(ml:Int)))) ?_
 refine za0 ?_
 refine aO _ _ ?_
 try clear aO a9
 refine wp_cond_split (t:=decide ((0:Int)<(ml:Int))) rfl (fun ai=>?_) (fun ai=>?_)
 ·have ay:=ai
  refine wp_skip ?_
  refine k9 _ _ ?_
  try clear k9 K9
  refine wp_block ?_
  refine wp_seq_k (fun a7 aT=>?_)
  refine rg [0,1,2,3,4,5,6] ?_
  refine sv 19 (.slice mo ml mc) ?_
  refine se ?_
  refine ec 20 (short9 hm (hm.len9 hu (by omega))) ?_
  rintro e13 bq ⟨⟨ab,ac,aa,rfl,af⟩,ap⟩
  refine ⟨_,rfl,?_⟩
  replace hB:=hB.trans ap
  simp only [p3,p4]
  refine sv 18 (.tuple #[.slice ab ac aa,(.int .u32 (((u % 1000000000:Nat):Int)))]) ?_
  refine sv 21 (.slice ab ac aa) ?_
  refine sv 22 (.int .u32 (((u % 1000000000:Nat):Int))) ?_
  refine sv 5 (.slice ab ac aa) ?_
  refine sv 6 (.int .u32 (((u % 1000000000:Nat):Int))) ?_
  refine za0 ?_
  refine aT _ _ ?_
  try clear aT a7
  refine wp_seq_k (fun ba aV=>?_)
  refine rg [0,1,2,3] ?_
  refine sv 23 (.int .u32 (((u % 1000000000:Nat):Int))) ?_
  refine sw 24 (.int .i64 (((u % 1000000000:Nat):Int))) rfl (RunV.int (x:=IntKind.i64.wrap (((u % 1000000000:Nat):Int))) (y:=((u % 1000000000:Nat):Int)) (rvk (by kernel_rfl)) (by first | rfl | (rw [IntKind.wrap_i64];omega))) ?_
  refine se ?_
  refine ec 25 (itoa_n (u % 1000000000) (by omega) (ht.gr hB)) ?_
  rintro bd bp ⟨rfl,ak⟩
  refine ⟨_,rfl,?_⟩
  replace hB:=hB.trans ak
  simp only [p3,p4]
  refine sv 7 (.string ⟨(Lib.decDigits (u % 1000000000):List UInt8).toArray⟩) ?_
  refine za0 ?_
  refine aV _ _ ?_
  try clear aV ba
  refine wp_seq_k (fun aU aw=>?_)
  refine wp_seq_k (fun bc aR=>?_)
  refine rg [0,1,2] ?_
  refine sv 26 (.slice ab ac aa) ?_
  refine sv 27 (.int .i64 ((ac:Int))) ?_
  refine sv 28 (.bool (decide ((0:Int)<(ac:Int)))) ?_
  refine za0 ?_
  refine aR _ _ ?_
  try clear aR bc
  refine wp_cond_split (t:=decide ((0:Int)<(ac:Int))) rfl (fun ah=>?_) (fun ah=>?_)
  ·refine rg [0,1,2,3,4,5,6] ?_
   refine sv 29 (.string ⟨(Lib.decDigits (u % 1000000000):List UInt8).toArray⟩) ?_
   refine sv 30 (.int .i64 (((Lib.decDigits (u % 1000000000)).length:Int))) ?_
   refine sw 31 (.int .i64 ((9 - ((Lib.decDigits (u % 1000000000)).length:Int)))) rfl (RunV.int (x:=IntKind.i64.wrap ((9 - ((Lib.decDigits (u % 1000000000)).length:Int)))) (y:=(9 - ((Lib.decDigits (u % 1000000000)).length:Int))) (rvk (by kernel_rfl)) (by first | rfl | (rw [IntKind.wrap_i64];omega))) ?_
   refine se ?_
   refine ec 32 (repeat9 (Lib.decDigits (u % 1000000000)).length (dec9 u) _) ?_
   rintro bg bj ⟨rfl,au⟩
   refine ⟨_,rfl,?_⟩
   replace hB:=hB.trans au
   simp only [p3,p4]
   refine sv 33 (.string ⟨(Lib.decDigits (u % 1000000000):List UInt8).toArray⟩) ?_
   refine sw 34 (.string ⟨((Lib.repeatL [48] (9 - (Lib.decDigits (u % 1000000000)).length))++(Lib.decDigits (u % 1000000000)):List UInt8).toArray⟩) rfl (zD7 9 9 _ _ (Lib.repeatL [48] (9 - (Lib.decDigits (u % 1000000000)).length)) (Lib.decDigits (u % 1000000000)) rfl rfl rfl (by omega)) ?_
   refine sv 7 (.string ⟨((Lib.repeatL [48] (9 - (Lib.decDigits (u % 1000000000)).length))++(Lib.decDigits (u % 1000000000)):List UInt8).toArray⟩) ?_
   refine za0 ?_
   refine aw _ _ ?_
   try clear aw aU
   refine wp_seq_k (fun aZ aL=>?_)
   refine rg [0,1,2,3,4] ?_
   refine sv 35 v ?_
   refine sv 36 (.string ⟨((Lib.repeatL [48] (9 - (Lib.decDigits (u % 1000000000)).length))++(Lib.decDigits (u % 1000000000)):List UInt8).toArray⟩) ?_
   refine se ?_
   refine yj5 9 1 #[(.string ⟨((Lib.repeatL [48] (9 - (Lib.decDigits (u % 1000000000)).length))++(Lib.decDigits (u % 1000000000)):List UInt8).toArray⟩)] (some 37) rfl (fun _=>by kernel_rfl) (fun a6 bf ax aW bm=>?_)
   replace L2:=L2.gr (ap.trans (ak.trans au))
   replace hB:=hB.trans ax
   simp only [zM5,p3,p4]
   refine se ?_
   replace hown:=hown.gr (ap.trans (ak.trans (au.trans ax)))
   refine zI6 _ _ 179 9 w.heap.size (.string ⟨([]:List UInt8).toArray⟩) v _ a6 (.string ⟨((Lib.repeatL [48] (9 - (Lib.decDigits (u % 1000000000)).length))++(Lib.decDigits (u % 1000000000)):List UInt8).toArray⟩) 1 (some 38) 16 rfl rfl rfl rfl hown aW rfl w hB (Nat.le_refl _) (Below.size hB) (by rw [List.length_map];exact hln) (by decide) (by kernel_rfl) (by kernel_rfl) rfl (fun aS bi ae al aD=>?_)
   replace hB:=aD
   replace ae:=OwnS.snoc (f:=yq9) ae
   simp only [zM5,p3,p4]
   refine sv 3 aS ?_
   refine za0 ?_
   refine aL _ _ ?_
   try clear aL aZ
   refine rg [0,1] ?_
   refine sv 39 (.slice ab ac aa) ?_
   refine sv 4 (.slice ab ac aa) ?_
   refine za0 ?_
   have az:=ak.kp.trans (au.kp.trans (ax.kp.trans (al.kp (by decide))))
   replace af:=af.kp az
   replace L2:=al.lc (L2.gr ax) (by decide)
   refine k8 (u/1000000000) ⟨List.toArray ?l24,[]⟩ _ (Nat.div_lt_self (Mag.pos0 hm ay) (by omega)) ?_
   exact ⟨u/1000000000,_,aS,ab,ac,aa,(fun i=>List.getD ?l24 i undef),rfl,rfl,(zW3 hX (Mag.pos0 hm ay) (grp_hi (Mag.pos0 af ah))),(Nat.lt_of_le_of_lt (Nat.div_le_self _ _) hu),af,ae,L2,hB⟩
  ·refine wp_skip ?_
   refine aw _ _ ?_
   try clear aw aU
   refine wp_seq_k (fun bb aH=>?_)
   refine rg [0,1,2,3,4] ?_
   refine sv 35 v ?_
   refine sv 36 (.string ⟨(Lib.decDigits (u % 1000000000):List UInt8).toArray⟩) ?_
   refine se ?_
   refine yj5 9 1 #[(.string ⟨(Lib.decDigits (u % 1000000000):List UInt8).toArray⟩)] (some 37) rfl (fun _=>by kernel_rfl) (fun aX bo av aY bk=>?_)
   replace L2:=L2.gr (ap.trans ak)
   replace hB:=hB.trans av
   simp only [zM5,p3,p4]
   refine se ?_
   replace hown:=hown.gr (ap.trans (ak.trans av))
   refine zI6 _ _ 179 9 w.heap.size (.string ⟨([]:List UInt8).toArray⟩) v _ aX (.string ⟨(Lib.decDigits (u % 1000000000):List UInt8).toArray⟩) 1 (some 38) 16 rfl rfl rfl rfl hown aY rfl w hB (Nat.le_refl _) (Below.size hB) (by rw [List.length_map];exact hln) (by decide) (by kernel_rfl) (by kernel_rfl) rfl (fun aI bn ad ar aE=>?_)
   replace hB:=aE
   replace ad:=OwnS.snoc (f:=yq9) ad
   simp only [zM5,p3,p4]
   refine sv 3 aI ?_
   refine za0 ?_
   refine aH _ _ ?_
   try clear aH bb
   refine rg [0,1] ?_
   refine sv 39 (.slice ab ac aa) ?_
   refine sv 4 (.slice ab ac aa) ?_
   refine za0 ?_
   have aB:=ak.kp.trans (av.kp.trans (ar.kp (by decide)))
   replace af:=af.kp aB
   replace L2:=ar.lc (L2.gr av) (by decide)
   refine k8 (u/1000000000) ⟨List.toArray ?l29,[]⟩ _ (Nat.div_lt_self (Mag.pos0 hm ay) (by omega)) ?_
   exact ⟨u/1000000000,_,aI,ab,ac,aa,(fun i=>List.getD ?l29 i undef),rfl,rfl,(zW3 hX (Mag.pos0 hm ay) (grp_lo (by rw [Mag.zero0 af ah];omega))),(Nat.lt_of_le_of_lt (Nat.div_le_self _ _) hu),af,ad,L2,hB⟩
 ·have hz:=Mag.zero0 hm ai
  subst hz
  rw [zx2,List.append_nil] at hX
  have aQ:0<L.length:=by rw [hX];exact yr4 hN
  have htx:L.reverse.flatten=Lib.decDigits N:=by rw [hX];exact yr3 N N (Nat.le_refl _) hN
  have hfl:L.reverse.flatten.length≤140737488355328:=by rw [htx];have:=zi4 k N hNk;omega
  refine wp_exit ?_
  simp only [Exit.then,Exit.inBlock,↓reduceIte]
  refine k6 _ _ ?_
  try clear k6 K6
  refine wp_seq_k (fun a2 aP=>?_)
  refine rg [0,1] ?_
  refine sv 40 v ?_
  refine se ?_
  refine zU0 (some 41) rfl (by kernel_rfl) (yf0 hown aQ) ?_
  rintro e31 bu ⟨rfl,aq,aC,aA⟩
  refine ⟨_,rfl,?_⟩
  replace hB:=aA _ hB (Nat.le_refl _)
  simp only [zM5,p3,p4]
  refine za0 ?_
  refine aP _ _ ?_
  try clear aP a2
  refine wp_seq_k (fun a4 aJ=>?_)
  refine rg [0,1,2] ?_
  refine sv 42 v ?_
  refine se ?_
  refine ec 43 (join_own aq (by rw [List.length_reverse];exact aQ) hfl (by rw [List.length_reverse];exact hln)) ?_
  rintro e33 bh ⟨rfl,aF⟩
  refine ⟨_,rfl,?_⟩
  replace hB:=hB.trans aF
  simp only [p3,p4]
  refine sv 8 (.string ⟨(((L).reverse).flatten:List UInt8).toArray⟩) ?_
  refine za0 ?_
  refine aJ _ _ ?_
  try clear aJ a4
  refine wp_seq_k (fun a5 aG=>?_)
  refine wp_seq_k (fun a0 aM=>?_)
  refine rg [0,1] ?_
  refine sv 44 (.pointer (some ⟨b2,0,none⟩)) ?_
  replace L2:=(aC.lc L2 (by decide)).gr aF
  refine sw 45 (.bool (s)) rfl (rk 4 0 L2) ?_
  refine za0 ?_
  refine aM _ _ ?_
  try clear aM a0
  refine wp_cond_split (t:=s) rfl (fun aj=>?_) (fun aj=>?_)
  ·refine wp_seq_k (fun a3 aN=>?_)
   refine rg [0,1,2] ?_
   refine sv 46 (.string ⟨(((L).reverse).flatten:List UInt8).toArray⟩) ?_
   refine sw 47 (.string ⟨(([45])++(((L).reverse).flatten):List UInt8).toArray⟩) rfl (zD7 9 9 _ _ ([45]) (((L).reverse).flatten) rfl rfl rfl (by simp only [List.length_cons,List.length_nil];omega)) ?_
   refine sv 2 (.string ⟨(([45])++(((L).reverse).flatten):List UInt8).toArray⟩) ?_
   refine za0 ?_
   refine aN _ _ ?_
   try clear aN a3
   refine wp_ret ?_
   simp only [Exit.then]
   refine bodyPost_ret (v:=(.string ⟨(([45])++(((L).reverse).flatten):List UInt8).toArray⟩)) (zb0 rfl rfl) rfl ⟨?_,hB⟩
   exact (by rw [aj];show Ending.returned _=_;rw [htx];rfl)
  ·refine wp_skip ?_
   refine aG _ _ ?_
   try clear aG a5
   refine wp_seq_k (fun a1 aK=>?_)
   refine rg [0,1] ?_
   refine sv 48 (.string ⟨(((L).reverse).flatten:List UInt8).toArray⟩) ?_
   refine sv 2 (.string ⟨(((L).reverse).flatten:List UInt8).toArray⟩) ?_
   refine za0 ?_
   refine aK _ _ ?_
   try clear aK a1
   refine wp_ret ?_
   refine bodyPost_ret (v:=(.string ⟨(((L).reverse).flatten:List UInt8).toArray⟩)) (zb0 rfl rfl) rfl ⟨?_,hB⟩
   exact (by rw [aj];show Ending.returned _=_;rw [htx];rfl)

set_option maxRecDepth 100000 in
set_option maxHeartbeats 1000000 in
theorem ys8 {ao:Option Addr} {ca:Nat} (w:World):
    Calls Tryz.prog 114 #[(.agg #[.bool false,.slice ao 0 ca])] w fun e w'=>e=.returned (.string ⟨#[48]⟩)∧Gr w w':=by
 go_enter Tryz.func114,Tryz.ntmps114
 have hB:=Gr.refl w
 refine wp_seq_k (fun K1 k1=>?_)
 refine rg [0,1] ?_
 refine se ?_
 refine eb 34 #[.bool false,.slice ao 0 ca] 1 hB fun b2 w2 g2 L2 o2 q2 hB=>?_
 simp only [p3,p4]
 refine sv 2 (.string ⟨([]:List UInt8).toArray⟩) ?_
 refine za0 ?_
 refine k1 _ _ ?_
 try clear k1 K1
 refine wp_seq_k (fun K3 k3=>?_)
 refine wp_seq_k (fun K4 k4=>?_)
 refine rg [0,1,2,3] ?_
 refine sv 9 (.pointer (some ⟨b2,1,none⟩)) ?_
 refine sw 10 (.slice ao 0 ca) rfl (rk 32 1 L2) ?_
 refine sv 11 (.int .i64 0) ?_
 refine sv 12 (.bool true) ?_
 refine za0 ?_
 refine k4 _ _ ?_
 try clear k4 K4
 refine wp_cond_true rfl ?_
 refine wp_seq_k (fun K5 k5=>?_)
 refine rg [0] ?_
 refine sv 2 (.string ⟨([48]:List UInt8).toArray⟩) ?_
 refine za0 ?_
 refine k5 _ _ ?_
 try clear k5 K5
 refine wp_ret ?_
 simp only [Exit.then]
 refine bodyPost_ret (v:=(.string ⟨([48]:List UInt8).toArray⟩)) (zb0 rfl rfl) rfl ⟨?_,hB⟩
 exact rfl

theorem ys9 {k:Nat} {x y:Value} {z:Int} {w:World} (hz:IsInt w k x y z) (hk:k≤900000) (ht:Tab w):
  Calls Tryz.prog 114 #[.agg #[x,y]] w fun e w'=>e=.returned (.string ⟨(Lib.itoa z).toArray⟩)∧Gr w w':=by
 obtain ⟨ao,la,ca,rfl,rfl,ha,hs⟩:=hz
 by_cases h0:z=0
 ·subst h0
  have:la=0:=ha.nl.len_zero.2 rfl
  subst this
  have e1:decide ((0:Int)<0)=false:=by decide
  have e2:Lib.itoa 0=[48]:=by unfold Lib.itoa;rw [if_neg (by omega)];exact zc2 (by decide)
  rw [e1,e2]
  exact ys8 w
 ·have:=text_pos (s:=decide (z<0)) ha (by omega) (by unfold Sz at hs;exact hs) hk ht
  refine this.mono ?_
  rintro e w1 ⟨he,g⟩
  refine ⟨?_,g⟩
  rw [he]
  unfold Lib.itoa
  by_cases hz:z<0
  ·simp [hz]
  ·have:z.toNat=z.natAbs:=by omega
   simp [hz,this]

theorem zl1 {k:Nat} {z:Int} (h:Sz k z):(Lib.itoa z).length≤k+2:=by
 unfold Lib.itoa
 have h1:=zi4 k z.natAbs h
 split
 ·simp;omega
 ·have:z.toNat=z.natAbs:=by omega
  rw [this];omega
theorem zi7 {N D:Int} (h0:0<D):(Rat.divInt N D).num=N/(Int.gcd N D:Int)∧((Rat.divInt N D).den:Int)=D/(Int.gcd N D:Int)∧0<(Int.gcd N D:Int):=by
 refine ⟨by rw [Rat.num_divInt,Int.sign_eq_one_of_pos h0,Int.one_mul,Int.gcd_comm],?_,?_⟩
 ·rw [Rat.den_divInt,if_neg (by omega),Int.gcd_comm,Int.natCast_ediv]
  congr 1
  omega
 ·have:Int.gcd N D≠0:=by rw [Ne,Int.gcd_eq_zero_iff];omega
  omega
theorem text_w {N D:Int} (h0:0<D) (hb:(Lib.itoa (D/(Int.gcd N D:Int))==[49])=true):Lib.itoa (N/(Int.gcd N D:Int))=za1 (Rat.divInt N D):=by
 obtain ⟨h1,h2,_⟩:=zi7 (N:=N) h0
 have h3:D/(Int.gcd N D:Int)=1:=zj8 (by rw [itoa_one];exact eq_of_beq hb)
 rw [zN6 (by omega),h1]
theorem text_f {N D:Int} (h0:0<D) (hb:(Lib.itoa (D/(Int.gcd N D:Int))==[49])=false):Lib.itoa (N/(Int.gcd N D:Int))++[47]++Lib.itoa (D/(Int.gcd N D:Int))=za1 (Rat.divInt N D):=by
 obtain ⟨h1,h2,_⟩:=zi7 (N:=N) h0
 have h3:¬ (Rat.divInt N D).den=1:=fun e=>by
  rw [e] at h2
  rw [← h2] at hb
  rw [show ((1:Nat):Int)=1 from rfl,itoa_one] at hb
  exact absurd hb (by decide)
 rw [zW4 h3,h1,h2]
theorem zT4 {k m:Nat} {N D:Int} (hN:Sz k N) (hD:Sz m D):Sz (k+m) (Int.gcd N D:Int):=sz_gcd hN hD
theorem zP4 {k:Nat} {N g:Int} (hN:Sz k N) (hg:0<g):Sz k (N/g):=by
 refine hN.of_le ?_
 rcases Int.lt_or_le N 0 with h | h
 ·have h1:N≤N/g:=by
   rw [Int.le_ediv_iff_mul_le hg]
   have:N*g≤N*1:=Int.mul_le_mul_of_nonpos_left (by omega) (by omega)
   omega
  have h2:N/g<0:=Int.ediv_neg_of_neg_of_pos h hg
  omega
 ·have h1:N/g≤N:=Int.ediv_le_self _ h
  have h2:0≤N/g:=Int.ediv_nonneg h (by omega)
  omega
theorem zK3 (N D:Int):Rat.divInt (-N) (-D)=Rat.divInt N D:=by
 exact Rat.neg_divInt_neg N D
theorem slash_at {l:List UInt8} {k:Nat} (h:l[k]?=some 47) (hn:(l.take k).all (· !=47)=true):(zf4 l).length=k∧zf4 l=l.take k∧zg9 l=l.drop (k+1)∧k<l.length:=by
 have hk:k<l.length:=(List.getElem?_eq_some_iff.1 h).1
 have e:l=l.take k++47::l.drop (k+1):=by
  have h1:l[k]=47:=(List.getElem?_eq_some_iff.1 h).2
  rw [← h1,List.getElem_cons_drop,List.take_append_drop]
 have hc:zh5 l=(l.take k,some (l.drop (k+1))):=by
  conv=>lhs;rw [e]
  exact zG8 (fun c hc=>by simpa using List.all_eq_true.1 hn c hc)
 unfold zf4 zg9
 rw [hc]
 exact ⟨by simp;omega,rfl,rfl,hk⟩
theorem slash_no {l:List UInt8} (hn:l.all (· !=47)=true):zf4 l=l∧zg9 l=[49]:=by
 have hc:zh5 l=(l,none):=zG7 (fun c hc=>by simpa using List.all_eq_true.1 hn c hc)
 unfold zf4 zg9
 rw [hc]
 exact ⟨rfl,rfl⟩
theorem zY7 {s:ByteArray} {k:Nat} (h:k<s.size) (ha:(s.data.toList.take k).all (· !=47)=true) (h0:((s[k].toNat:Int)==47)=false):(s.data.toList.take (k+1)).all (· !=47)=true:=by
 rw [List.take_add_one,zd0 h,List.all_append,ha]
 simp only [Option.toList_some,List.all_cons,List.all_nil,Bool.and_true,Bool.true_and,bne_iff_ne,ne_eq]
 intro e
 rw [e] at h0
 exact absurd h0 (by decide)
theorem yz2 {s:ByteArray} {k:Nat} (h:k<s.size) (h0:((s[k].toNat:Int)==47)=true):s.data.toList[k]?=some 47:=by
 rw [zd0 h]
 congr 1
 rw [← UInt8.toNat_inj]
 have:=eq_of_beq h0
 have:(47:UInt8).toNat=47:=rfl
 omega
set_option maxHeartbeats 1000000 in
theorem zy8 (s:ByteArray) (w:World) (hs:s.size≤1000000):
  Calls Tryz.prog 118 #[.string s] w fun e w'=>e=.returned (.int .i64 ((zf4 s.data.toList).length:Int))∧w=w':=by
 go_enter Tryz.func118,Tryz.ntmps118
 go_wp2
 go_loop [3] (fun i=>∃ k:Nat,k≤s.size∧i=.int .i64 k∧Hid ((s.data.toList.take k).all (· !=47)=true)) (fun i=>s.size - (intOf i).toNat)
 case atStart=>exact ⟨0,Nat.zero_le _,rfl,rfl⟩
 case round=>
  obtain ⟨k,hk,rfl,hz⟩:=hrel
  by_cases hlt:k<s.size
  ·cases h0:((s[k].toNat:Int)==47)
   ·go_wp2
    go_round
    case rel=>exact ⟨k+1,by omega,by go_num,zY7 hlt hz.out h0⟩
    case measure=>simp [intOf];omega
   ·have HS:=Lib.hid (slash_at (yz2 hlt h0) hz.out)
    go_wp2
    go_ret
    exact ⟨zb1 (by rw [HS.out.1]),rfl⟩
  ·obtain rfl:k=s.size:=by omega
   have HS:Hid (zf4 s.data.toList=s.data.toList):=by
    have h1:=hz.out
    rw [List.take_of_length_le (by simp)] at h1
    exact (slash_no h1).1
   go_wp2
   go_ret
   exact ⟨zb1 (by rw [HS.out];simp),rfl⟩
theorem zT5 {s:ByteArray} {l:List UInt8} (h:s.data.toList=l):s=⟨l.toArray⟩:=by
 apply ByteArray.ext
 rw [← h]
theorem zY8 (l:List UInt8):(zf4 l).length≤l.length∧((zf4 l).length=l.length→zf4 l=l∧zg9 l=[49])∧((zf4 l).length<l.length→zf4 l=l.take (zf4 l).length∧zg9 l=l.drop ((zf4 l).length+1)):=by
 have h:=zA8 l
 unfold zf4 zg9
 cases hd:(zh5 l).2 with
 | none=>
  rw [hd] at h;dsimp only at h
  rw [← h]
  exact ⟨Nat.le_refl _,fun _=>⟨rfl,rfl⟩,fun hh=>absurd hh (Nat.lt_irrefl _)⟩
 | some d=>
  rw [hd] at h;dsimp only at h
  clear hd
  generalize (zh5 l).1=a at*
  subst h
  refine ⟨by simp,fun hh=>by simp at hh,fun _=>⟨by simp,?_⟩⟩
  rw [List.drop_append]
  simp
set_option maxHeartbeats 1000000 in
theorem yl2 (s:ByteArray) (w:World) (hs:s.size≤1000000):
  Calls Tryz.prog 99 #[.string s] w fun e w'=>e=.returned (.tuple #[.string ⟨(zf4 s.data.toList).toArray⟩,.string ⟨(zg9 s.data.toList).toArray⟩])∧Gr w w':=by
 obtain ⟨h1,h2,h3⟩:=zY8 s.data.toList
 have hsl:s.data.toList.length=s.size:=by simp
 rw [hsl] at h1 h2 h3
 obtain ⟨k,hk⟩:∃ k,k=(zf4 s.data.toList).length:=⟨_,rfl⟩
 have hc:=zy8 s w hs
 rw [← hk] at h1 h2 h3 hc
 have HK:=Lib.hid hk
 have H2:=Lib.hid h2
 have H3:=Lib.hid h3
 clear hk h2 h3 hsl
 go_enter Tryz.func99,Tryz.ntmps99
 go_wp2_with fail
 refine hc.mono ?_
 rintro e w1 ⟨rfl,rfl⟩
 clear hc
 by_cases hks:k=s.size
 ·have h2:=H2.out hks
  have HKS:=Lib.hid hks
  have HH:=Lib.hid h2
  have ht:((k:Int)==(s.size:Int))=true:=by rw [beq_iff_eq];omega
  clear h2 hks
  go_wp2
  go_ret2
  refine ⟨?_,Gr.refl _⟩
  rw [HH.out.1,HH.out.2,← zT5 (s:=s) rfl]
  rfl
 ·have h3:=H3.out (by omega)
  have HH:=Lib.hid h3
  have hlt:k<s.size:=by omega
  have ht:((k:Int)==(s.size:Int))=false:=by rw [beq_eq_false_iff_ne];omega
  have i0:(0:Int)≤(k:Int):=by omega
  have i1:(k:Int)≤(s.size:Int):=by omega
  have i2:(k:Int)+1≤(s.size:Int):=by omega
  clear h3 hks
  go_wp2
  go_quiet (fail)
  go_wp2
  go_ret2
  refine ⟨?_,(Below.refl _ _).drewN _⟩
  rw [HH.out.1,HH.out.2]
  have e1:s.extract 0 k=⟨(s.data.toList.take k).toArray⟩:=zT5 (by rw [Lib.extract_data];simp)
  have e2:s.extract (k+1) s.size=⟨(s.data.toList.drop (k+1)).toArray⟩:=zT5 (by
   rw [Lib.extract_data,List.take_of_length_le]
   simp)
  rw [← e1,← e2]
  rfl
theorem zu3 {a b:Bool} (h:a=b):Ending.returned (.bool a)=.returned (.bool b):=by rw [h]
set_option maxHeartbeats 1000000 in
theorem zs4 (s:ByteArray) (w:World) (hs:s.size≤1000000):
  Calls Tryz.prog 116 #[.string s] w fun e w'=>e=.returned (.bool (zd6 s.data.toList))∧w=w':=by
 go_enter Tryz.func116,Tryz.ntmps116
 go_wp2
 go_loop [3] (fun i=>∃ k:Nat,k≤s.size∧i=.int .i64 k∧Hid ((s.data.toList.take k).all isD=true)) (fun i=>s.size - (intOf i).toNat)
 case atStart=>exact ⟨0,Nat.zero_le _,rfl,rfl⟩
 case round=>
  obtain ⟨k,hk,rfl,hz⟩:=hrel
  by_cases hlt:k<s.size
  ·by_cases h1:(s[k].toNat:Int)<48
   ·go_wp2
    go_ret
    exact ⟨zu3 (yy8 hlt (.inl h1)).symm,rfl⟩
   ·have ab:48≤(s[k].toNat:Int):=by omega
    by_cases h2:57<(s[k].toNat:Int)
    ·go_wp2
     go_ret
     exact ⟨zu3 (yy8 hlt (.inr h2)).symm,rfl⟩
    ·have ad:(s[k].toNat:Int)≤57:=by omega
     go_wp2
     go_round
     case rel=>exact ⟨k+1,by omega,by go_num,all_step hlt hz.out ab ad⟩
     case measure=>simp [intOf];omega
  ·obtain rfl:k=s.size:=by omega
   by_cases h0:0<s.size
   ·have aa:(0:Int)<(s.size:Int):=by omega
    go_wp2
    go_ret
    exact ⟨zu3 (allD_yes h0 hz.out).symm,rfl⟩
   ·have aa:s.size=0:=by omega
    have ac:¬ (0:Int)<(s.size:Int):=by omega
    have HE:=Lib.hid (zT3 aa)
    clear aa
    go_wp2
    go_ret
    exact ⟨zu3 HE.out.symm,rfl⟩
theorem zeros_no {s:ByteArray} {k:Nat} (h:k<s.size) (h0:((s[k].toNat:Int) !=48)=true):zf9 s.data.toList=false:=by
 unfold zf9
 rw [List.all_eq_false]
 refine ⟨s[k],List.mem_of_getElem? (zd0 h),?_⟩
 intro e
 have e1:=eq_of_beq e
 rw [e1] at h0
 exact absurd h0 (by decide)
theorem yp8 {s:ByteArray} {k:Nat} (h:k<s.size) (ha:(s.data.toList.take k).all (·==48)=true) (h0:((s[k].toNat:Int) !=48)=false):(s.data.toList.take (k+1)).all (·==48)=true:=by
 rw [List.take_add_one,zd0 h,List.all_append,ha]
 simp only [Option.toList_some,List.all_cons,List.all_nil,Bool.and_true,Bool.true_and,beq_iff_eq]
 rw [← UInt8.toNat_inj]
 have:(48:UInt8).toNat=48:=rfl
 have h1:((s[k].toNat:Int)=48):=by simpa using h0
 omega
set_option maxHeartbeats 1000000 in
theorem yl3 (s:ByteArray) (w:World) (hs:s.size≤1000000):
  Calls Tryz.prog 117 #[.string s] w fun e w'=>e=.returned (.bool (zf9 s.data.toList))∧w=w':=by
 go_enter Tryz.func117,Tryz.ntmps117
 go_wp2
 go_loop [3] (fun i=>∃ k:Nat,k≤s.size∧i=.int .i64 k∧Hid ((s.data.toList.take k).all (·==48)=true)) (fun i=>s.size - (intOf i).toNat)
 case atStart=>exact ⟨0,Nat.zero_le _,rfl,rfl⟩
 case round=>
  obtain ⟨k,hk,rfl,hz⟩:=hrel
  by_cases hlt:k<s.size
  ·cases h0:((s[k].toNat:Int) !=48)
   ·have HS:=Lib.hid (yp8 hlt hz.out h0)
    go_wp2
    go_round
    case rel=>exact ⟨k+1,by omega,by go_num,HS.out⟩
    case measure=>simp [intOf];omega
   ·have HS:=Lib.hid (zeros_no hlt h0)
    go_wp2
    go_ret
    exact ⟨zu3 HS.out.symm,rfl⟩
  ·obtain rfl:k=s.size:=by omega
   have HS:Hid (zf9 s.data.toList=true):=by
    have h1:=hz.out
    rw [List.take_of_length_le (by simp)] at h1
    exact h1
   go_wp2
   go_ret
   exact ⟨zu3 HS.out.symm,rfl⟩
section
variable {l:List UInt8} {most:Nat}
theorem zY9 (h:¬ most<l.length) (h1:(zd6 (zb2 (zf4 l))&&zd6 (zg9 l))=false):ck2 l most=14:=by unfold ck2;rw [if_neg h,if_pos h1]
theorem ck2_19 (h:¬ most<l.length) (h1:zd6 (zb2 (zf4 l))=true) (h2:zd6 (zg9 l)=true) (h3:zf9 (zg9 l)=true):ck2 l most=19:=by unfold ck2;rw [if_neg h,if_neg (by simp [h1,h2]),if_pos h3]
theorem zv7 (h:¬ most<l.length) (h1:zd6 (zb2 (zf4 l))=true) (h2:zd6 (zg9 l)=true) (h3:zf9 (zg9 l)=false) (h4:(zF3 (zf4 l)||((zg9 l)[0]?==some 48))=true):ck2 l most=3:=by
 unfold ck2;rw [if_neg h,if_neg (by simp [h1,h2]),if_neg (by simp [h3]),if_pos h4]
theorem zT6 (h:¬ most<l.length) (h1:zd6 (zb2 (zf4 l))=true) (h2:zd6 (zg9 l)=true) (h3:zf9 (zg9 l)=false) (h4:(zF3 (zf4 l)||((zg9 l)[0]?==some 48))=false):
  ck2 l most=if (decide ((zf4 l).length<l.length)&&((zg9 l==[49])||(Int.gcd (valZ (zf4 l)) (valZ (zg9 l)) !=1)))=true then 3 else 0:=by
 unfold ck2;rw [if_neg h,if_neg (by simp [h1,h2]),if_neg (by simp [h3]),if_neg (by simp [h4])]
end
theorem yz3 {D:ByteArray} (h:0<D.size):(D.data.toList[0]?==some 48)=((D[0].toNat:Int)==48):=by
 rw [zd0 h,Bool.eq_iff_iff]
 simp only [beq_iff_eq,Option.some.injEq]
 rw [← UInt8.toNat_inj]
 have:(48:UInt8).toNat=48:=rfl
 omega
theorem zy9 {D:ByteArray} (h:zd6 D.data.toList=true):0<D.size:=by
 have:=(zt4 h).1
 have h2:D.data.toList.length=D.size:=by simp
 have:=List.length_pos_iff.2 this
 omega
theorem yz4 {N P:ByteArray} (hP:P.data.toList=zb2 N.data.toList) (_ha:zd6 P.data.toList=true) (h0:0<P.size):
  zF3 N.data.toList=((decide (1<P.size)&&((P[0].toNat:Int)==48))||(N.toList==[45,48])):=by
 have hPs:P.data.toList.length=P.size:=by simp
 have hNs:N.data.toList.length=N.size:=by simp
 rw [bad_at hP h0,ByteArray.toList_eq]
 rcases zv9 N.data.toList with h | ⟨h,h'⟩
 ·have hl:=congrArg List.length h
  rw [← hP,List.length_cons,hPs,hNs] at hl
  rw [decide_eq_true (show 1<N.size by omega),Bool.or_true,Bool.and_true]
  cases hb:((P[0].toNat:Int)==48)
  ·rw [Bool.and_false,Bool.false_or]
   symm
   rw [beq_eq_false_iff_ne]
   intro e
   have h2:P.data.toList=[48]:=by rw [hP,e];rfl
   have h3:=zd0 h0
   rw [h2] at h3
   simp only [List.getElem?_cons_zero,Option.some.injEq] at h3
   rw [← h3] at hb
   exact absurd hb (by decide)
  ·rw [Bool.and_true]
   by_cases h1:1<P.size
   ·rw [decide_eq_true h1];rfl
   ·rw [decide_eq_false h1,Bool.false_or]
    symm
    rw [beq_iff_eq,h,← hP]
    have h3:=zd0 h0
    have h4:=eq_of_beq hb
    have h5:P[0]=48:=by
     rw [← UInt8.toNat_inj]
     have:(48:UInt8).toNat=48:=rfl
     omega
    rw [h5] at h3
    match hq:P.data.toList,hPs,h3 with
    | [],hPs,_=>simp at hPs;omega
    | [c],_,h3=>simp at h3;rw [h3]
    | _::_::_,hPs,_=>simp at hPs;omega
 ·have hNP:N.size=P.size:=by
   have:=congrArg List.length h
   rw [← hP,hNs,hPs] at this;exact this
  have hne:(N.data.toList==[45,48])=false:=by
   rw [beq_eq_false_iff_ne]
   intro e
   rw [e] at h'
   exact h' rfl
  rw [hne,Bool.or_false,hNP,Bool.or_self,Bool.and_comm]
theorem zh2 (l:List UInt8):(zf4 l).length≤l.length∧(zg9 l).length≤l.length+1:=by
 obtain ⟨h1,h2,h3⟩:=zY8 l
 refine ⟨h1,?_⟩
 rcases Nat.lt_or_ge (zf4 l).length l.length with h | h
 ·rw [(h3 h).2,List.length_drop];omega
 ·rw [(h2 (by omega)).2];simp
set_option maxRecDepth 100000 in
set_option maxHeartbeats 4000000 in
theorem r2_check (s:ByteArray) (most:Nat) (w:World) (hs:s.size≤10000) (_hm:most≤1000000):
  Calls Tryz.prog 92 #[.string s,.int .i64 most] w fun e w'=>e=.returned (.int .i64 (ck2 s.data.toList most))∧Gr w w':=by
 have hsl:s.data.toList.length=s.size:=by simp
 by_cases hlong:most<s.size
 ·have HL:Hid (ck2 s.data.toList most=5):=by unfold Hid ck2;rw [if_pos (by omega)]
  clear hsl
  go_enter Tryz.func92,Tryz.ntmps92
  go_wp2
  go_ret
  exact ⟨zb1 HL.out.symm,Gr.refl _⟩
 have HL:Hid (¬ most<s.data.toList.length):=by rw [Hid,hsl];exact hlong
 have hc:=yl2 s w (by omega)
 obtain ⟨N,hN⟩:∃ N:ByteArray,N=⟨(zf4 s.data.toList).toArray⟩:=⟨_,rfl⟩
 obtain ⟨D,hD⟩:∃ D:ByteArray,D=⟨(zg9 s.data.toList).toArray⟩:=⟨_,rfl⟩
 rw [← hN,← hD] at hc
 have HN:Hid (N.data.toList=zf4 s.data.toList):=by rw [Hid,hN]
 have HD:Hid (D.data.toList=zg9 s.data.toList):=by rw [Hid,hD]
 have HNe:=Lib.hid hN
 have HDe:=Lib.hid hD
 have hlens:=zh2 s.data.toList
 have hNs:N.size≤10000:=by rw [hN];show (zf4 s.data.toList).toArray.size≤_;simp;omega
 have HDs:Hid (D.size≤1000000):=by rw [Hid,hD];show (zg9 s.data.toList).toArray.size≤_;simp;omega
 have HSl:=Lib.hid hsl
 clear hN hD hlens hsl
 by_cases hsign:∃ h:0<N.size,(N[0].toNat:Int)=45
 ·obtain ⟨h0,aq⟩:=hsign
  have ap:((N[0].toNat:Int)==45)=true:=by simpa using aq
  obtain ⟨P,hPe⟩:∃ P,N.extract 1 N.size=P:=⟨_,rfl⟩
  have hP:=yy9 h0 aq
  rw [hPe] at hP
  have hPs:P.size≤1000000:=by rw [← hPe];simp;omega
  clear aq
  go_enter Tryz.func92,Tryz.ntmps92
  go_wp2_with fail
  (with_reducible refine hc.mono ?_)
  rintro e w1 ⟨rfl,g1⟩
  clear hc
  have HP:=Lib.hid hP
  have HPs:=Lib.hid hPs
  clear hP hPs
  go_wp2_with fail
  (with_reducible refine (zs4 P _ HPs.out).mono ?_)
  rintro e w2 ⟨rfl,rfl⟩
  cases hb1:zd6 P.data.toList
  ·have ad:=Lib.hid hb1
   go_wp2
   go_ret
   refine ⟨zb1 (zY9 HL.out ?_).symm,g1⟩
   rw [← HN.out,← HP.out,ad.out];rfl
  have ad:=Lib.hid hb1
  go_wp2_with fail
  (with_reducible refine (zs4 D _ HDs.out).mono ?_)
  rintro e w3 ⟨rfl,rfl⟩
  cases hb2:zd6 D.data.toList
  ·have ai:=Lib.hid hb2
   go_wp2
   go_ret
   refine ⟨zb1 (zY9 HL.out ?_).symm,g1⟩
   rw [← HD.out,ai.out,Bool.and_false]
  have ai:=Lib.hid hb2
  go_wp2_with fail
  (with_reducible refine (yl3 D _ HDs.out).mono ?_)
  rintro e w4 ⟨rfl,rfl⟩
  have p0:=zy9 hb1
  have q0:=zy9 hb2
  have A1:Hid (zd6 (zb2 (zf4 s.data.toList))=true):=by rw [Hid,← HN.out,← HP.out];exact hb1
  have A2:Hid (zd6 (zg9 s.data.toList)=true):=by rw [Hid,← HD.out];exact hb2
  cases hb3:zf9 D.data.toList
  case true=>
   have al:=Lib.hid hb3
   go_wp2
   go_ret
   exact ⟨zb1 (ck2_19 HL.out A1.out A2.out (by rw [← HD.out];exact al.out)).symm,g1⟩
  have A3:Hid (zf9 (zg9 s.data.toList)=false):=by rw [Hid,← HD.out];exact hb3
  have hbad:=yz4 HP.out hb1 p0
  have hden:=yz3 q0
  rw [HN.out] at hbad
  rw [HD.out] at hden
  have HBad:=Lib.hid hbad
  have HDen:=Lib.hid hden
  clear hbad hden hb1 hb2 ad ai
  by_cases hc1:1<P.size
  ·have ae:(1:Int)<(P.size:Int):=by omega
   cases hc2:((P[0].toNat:Int)==48)
   case true=>
    have au:=Lib.hid hc2
    have ar:Hid (decide (1<P.size)=true):=decide_eq_true hc1
    go_wp2
    go_ret
    exact ⟨zb1 (zv7 HL.out A1.out A2.out A3.out (by rw [HBad.out,ar.out,au.out,Bool.and_true,Bool.true_or,Bool.true_or])).symm,g1⟩
   have HA:Hid ((decide (1<P.size)&&((P[0].toNat:Int)==48))=false):=by rw [Hid,hc2,Bool.and_false]
   cases hc3:(N.toList==[45,48])
   case true=>
    have ac:=Lib.hid hc3
    go_wp2
    go_ret
    exact ⟨zb1 (zv7 HL.out A1.out A2.out A3.out (by rw [HBad.out,ac.out,Bool.or_true,Bool.true_or])).symm,g1⟩
   have ac:=Lib.hid hc3
   cases hc4:((D[0].toNat:Int)==48)
   case true=>
    have aj:=Lib.hid hc4
    go_wp2
    go_ret
    exact ⟨zb1 (zv7 HL.out A1.out A2.out A3.out (by rw [HDen.out,aj.out,Bool.or_true])).symm,g1⟩
   have HBz:Hid (zF3 (zf4 s.data.toList)=false):=by rw [Hid,HBad.out,HA.out,ac.out];rfl
   have HDz:Hid (((zg9 s.data.toList)[0]?==some 48)=false):=by rw [Hid,HDen.out];exact hc4
   have af:=zn0 A1.out HBz.out
   obtain ⟨z,hz⟩:=af
   obtain ⟨hdd,ah⟩:=zt6 A2.out HDz.out
   obtain ⟨dd,hdv⟩:∃ dd:Nat,dd=zh0 (zg9 s.data.toList):=⟨_,rfl⟩
   rw [← hdv] at hdd ah
   have aa:zg9 s.data.toList=Lib.itoa (dd:Int):=by rw [za7 (by omega),Int.natAbs_natCast,hdd]
   have E:=zT6 HL.out A1.out A2.out A3.out (by rw [HBz.out,HDz.out];rfl)
   rw [hz,aa,zf0,zf0,← hz,← aa] at E
   have hzl:=zg3 z (m:=s.size) (by rw [← hz];have:=(zh2 s.data.toList).1;have:=HSl.out;omega)
   have hdl:=zg3 (dd:Int) (m:=s.size+1) (by rw [← aa];have:=(zh2 s.data.toList).2;have:=HSl.out;omega)
   have hg:=fun w=>zP3 (k:=4*s.size) (m:=4*(s.size+1)) z (dd:Int) hzl hdl (by omega) w
   rw [← hz,← aa,← HNe.out,← HDe.out] at hg
   have hT:(D.toList==[49])=(zg9 s.data.toList==[49]):=by rw [ByteArray.toList_eq,HD.out]
   rw [← hT,HSl.out] at E
   have HE:=Lib.hid E
   clear E hT hz hdd aa hzl hdl hdv
   have hsla:=zy8 s w1 (by omega)
   obtain ⟨sl,hsl⟩:∃ sl,sl=(zf4 s.data.toList).length:=⟨_,rfl⟩
   rw [← hsl] at hsla
   have HSL:=Lib.hid hsl
   clear hsl
   go_wp2_with fail
   (with_reducible refine hsla.mono ?_)
   rintro e w5 ⟨rfl,rfl⟩
   clear hsla
   by_cases hlt:sl<s.size
   ·have L1:Hid (decide ((zf4 s.data.toList).length<s.size)=true):=by rw [Hid,← HSL.out];exact decide_eq_true hlt
    have hlt':(sl:Int)<(s.size:Int):=by omega
    cases h1:(D.toList==[49])
    ·have H1:=Lib.hid h1
     by_cases hg1:Int.gcd z (dd:Int)=1
     ·have ab:=hg w1
      rw [hg1,show ((1:Nat):Int)=1 from rfl,itoa_one] at ab
      have HG:=Lib.hid hg1
      clear hg hg1
      go_wp2_with fail
      (with_reducible refine ab.mono ?_)
      rintro e w6 ⟨rfl,g6⟩
      clear ab
      go_wp2
      go_ret
      exact ⟨zb1 (by rw [HE.out,L1.out,H1.out,HG.out];rfl),g1.trans g6⟩
     ·have hne:(Lib.itoa (Int.gcd z (dd:Int):Int)==[49])=false:=by
       rw [beq_eq_false_iff_ne,← itoa_one]
       intro e
       have:=zj8 e
       omega
      have ak:((⟨(Lib.itoa (Int.gcd z (dd:Int):Int)).toArray⟩:ByteArray).toList==[49])=false:=by rw [ByteArray.toList_eq];exact hne
      have HG:Hid ((Int.gcd z (dd:Int) !=1)=true):=by rw [Hid,bne_iff_ne];exact hg1
      have ab:=hg w1
      clear hg hg1
      go_wp2_with fail
      (with_reducible refine ab.mono ?_)
      rintro e w6 ⟨rfl,g6⟩
      clear ab
      go_wp2
      go_ret
      exact ⟨zb1 (by rw [HE.out,L1.out,H1.out,HG.out];rfl),g1.trans g6⟩
    ·have H1:=Lib.hid h1
     clear hg
     go_wp2
     go_ret
     exact ⟨zb1 (by rw [HE.out,L1.out,H1.out];rfl),g1⟩
   ·have L1:Hid (decide ((zf4 s.data.toList).length<s.size)=false):=by rw [Hid,← HSL.out];exact decide_eq_false hlt
    have hlt':¬ (sl:Int)<(s.size:Int):=by omega
    clear hg
    go_wp2
    go_ret
    exact ⟨zb1 (by rw [HE.out,L1.out];rfl),g1⟩
  ·have ae:¬ (1:Int)<(P.size:Int):=by omega
   have HA:Hid ((decide (1<P.size)&&((P[0].toNat:Int)==48))=false):=by rw [Hid,decide_eq_false hc1,Bool.false_and]
   cases hc3:(N.toList==[45,48])
   case true=>
    have ac:=Lib.hid hc3
    go_wp2
    go_ret
    exact ⟨zb1 (zv7 HL.out A1.out A2.out A3.out (by rw [HBad.out,ac.out,Bool.or_true,Bool.true_or])).symm,g1⟩
   have ac:=Lib.hid hc3
   cases hc4:((D[0].toNat:Int)==48)
   case true=>
    have aj:=Lib.hid hc4
    go_wp2
    go_ret
    exact ⟨zb1 (zv7 HL.out A1.out A2.out A3.out (by rw [HDen.out,aj.out,Bool.or_true])).symm,g1⟩
   have HBz:Hid (zF3 (zf4 s.data.toList)=false):=by rw [Hid,HBad.out,HA.out,ac.out];rfl
   have HDz:Hid (((zg9 s.data.toList)[0]?==some 48)=false):=by rw [Hid,HDen.out];exact hc4
   have af:=zn0 A1.out HBz.out
   obtain ⟨z,hz⟩:=af
   obtain ⟨hdd,ah⟩:=zt6 A2.out HDz.out
   obtain ⟨dd,hdv⟩:∃ dd:Nat,dd=zh0 (zg9 s.data.toList):=⟨_,rfl⟩
   rw [← hdv] at hdd ah
   have aa:zg9 s.data.toList=Lib.itoa (dd:Int):=by rw [za7 (by omega),Int.natAbs_natCast,hdd]
   have E:=zT6 HL.out A1.out A2.out A3.out (by rw [HBz.out,HDz.out];rfl)
   rw [hz,aa,zf0,zf0,← hz,← aa] at E
   have hzl:=zg3 z (m:=s.size) (by rw [← hz];have:=(zh2 s.data.toList).1;have:=HSl.out;omega)
   have hdl:=zg3 (dd:Int) (m:=s.size+1) (by rw [← aa];have:=(zh2 s.data.toList).2;have:=HSl.out;omega)
   have hg:=fun w=>zP3 (k:=4*s.size) (m:=4*(s.size+1)) z (dd:Int) hzl hdl (by omega) w
   rw [← hz,← aa,← HNe.out,← HDe.out] at hg
   have hT:(D.toList==[49])=(zg9 s.data.toList==[49]):=by rw [ByteArray.toList_eq,HD.out]
   rw [← hT,HSl.out] at E
   have HE:=Lib.hid E
   clear E hT hz hdd aa hzl hdl hdv
   have hsla:=zy8 s w1 (by omega)
   obtain ⟨sl,hsl⟩:∃ sl,sl=(zf4 s.data.toList).length:=⟨_,rfl⟩
   rw [← hsl] at hsla
   have HSL:=Lib.hid hsl
   clear hsl
   go_wp2_with fail
   (with_reducible refine hsla.mono ?_)
   rintro e w5 ⟨rfl,rfl⟩
   clear hsla
   by_cases hlt:sl<s.size
   ·have L1:Hid (decide ((zf4 s.data.toList).length<s.size)=true):=by rw [Hid,← HSL.out];exact decide_eq_true hlt
    have hlt':(sl:Int)<(s.size:Int):=by omega
    cases h1:(D.toList==[49])
    ·have H1:=Lib.hid h1
     by_cases hg1:Int.gcd z (dd:Int)=1
     ·have ab:=hg w1
      rw [hg1,show ((1:Nat):Int)=1 from rfl,itoa_one] at ab
      have HG:=Lib.hid hg1
      clear hg hg1
      go_wp2_with fail
      (with_reducible refine ab.mono ?_)
      rintro e w6 ⟨rfl,g6⟩
      clear ab
      go_wp2
      go_ret
      exact ⟨zb1 (by rw [HE.out,L1.out,H1.out,HG.out];rfl),g1.trans g6⟩
     ·have hne:(Lib.itoa (Int.gcd z (dd:Int):Int)==[49])=false:=by
       rw [beq_eq_false_iff_ne,← itoa_one]
       intro e
       have:=zj8 e
       omega
      have ak:((⟨(Lib.itoa (Int.gcd z (dd:Int):Int)).toArray⟩:ByteArray).toList==[49])=false:=by rw [ByteArray.toList_eq];exact hne
      have HG:Hid ((Int.gcd z (dd:Int) !=1)=true):=by rw [Hid,bne_iff_ne];exact hg1
      have ab:=hg w1
      clear hg hg1
      go_wp2_with fail
      (with_reducible refine ab.mono ?_)
      rintro e w6 ⟨rfl,g6⟩
      clear ab
      go_wp2
      go_ret
      exact ⟨zb1 (by rw [HE.out,L1.out,H1.out,HG.out];rfl),g1.trans g6⟩
    ·have H1:=Lib.hid h1
     clear hg
     go_wp2
     go_ret
     exact ⟨zb1 (by rw [HE.out,L1.out,H1.out];rfl),g1⟩
   ·have L1:Hid (decide ((zf4 s.data.toList).length<s.size)=false):=by rw [Hid,← HSL.out];exact decide_eq_false hlt
    have hlt':¬ (sl:Int)<(s.size:Int):=by omega
    clear hg
    go_wp2
    go_ret
    exact ⟨zb1 (by rw [HE.out,L1.out];rfl),g1⟩
 ·have hP:=strip_no (s:=N) (by
   rcases Nat.eq_zero_or_pos N.size with h | h
   ·exact .inl h
   ·exact .inr ⟨h,fun e=>hsign ⟨h,e⟩⟩)
  by_cases hn0:N.size=0
  ·have av:Hid (ck2 s.data.toList most=14):=by
    refine zY9 HL.out ?_
    rw [← HN.out,← hP,zT3 hn0];rfl
   have HX:=zT3 hn0
   clear hP
   go_enter Tryz.func92,Tryz.ntmps92
   go_wp2_with fail
   (with_reducible refine hc.mono ?_)
   rintro e w1 ⟨rfl,g1⟩
   clear hc
   have hdg:=zs4 N w1 (by omega)
   rw [HX] at hdg
   clear HX
   go_wp2_with fail
   (with_reducible refine hdg.mono ?_)
   rintro e w2 ⟨rfl,rfl⟩
   go_wp2
   go_ret
   exact ⟨zb1 av.out.symm,g1⟩
  have aw:0<N.size:=by omega
  have ap:((N[0].toNat:Int)==45)=false:=by
   rw [beq_eq_false_iff_ne];exact fun e=>hsign ⟨aw,e⟩
  clear hsign hn0
  go_enter Tryz.func92,Tryz.ntmps92
  go_wp2_with fail
  (with_reducible refine hc.mono ?_)
  rintro e w1 ⟨rfl,g1⟩
  clear hc
  have HP:=Lib.hid hP
  clear hP
  go_wp2_with fail
  (with_reducible refine (zs4 N _ (by omega)).mono ?_)
  rintro e w2 ⟨rfl,rfl⟩
  cases hb1:zd6 N.data.toList
  ·have ad:=Lib.hid hb1
   go_wp2
   go_ret
   refine ⟨zb1 (zY9 HL.out ?_).symm,g1⟩
   rw [← HN.out,← HP.out,ad.out];rfl
  have ad:=Lib.hid hb1
  go_wp2_with fail
  (with_reducible refine (zs4 D _ HDs.out).mono ?_)
  rintro e w3 ⟨rfl,rfl⟩
  cases hb2:zd6 D.data.toList
  ·have ai:=Lib.hid hb2
   go_wp2
   go_ret
   refine ⟨zb1 (zY9 HL.out ?_).symm,g1⟩
   rw [← HD.out,ai.out,Bool.and_false]
  have ai:=Lib.hid hb2
  go_wp2_with fail
  (with_reducible refine (yl3 D _ HDs.out).mono ?_)
  rintro e w4 ⟨rfl,rfl⟩
  have p0:=zy9 hb1
  have q0:=zy9 hb2
  have A1:Hid (zd6 (zb2 (zf4 s.data.toList))=true):=by rw [Hid,← HN.out,← HP.out];exact hb1
  have A2:Hid (zd6 (zg9 s.data.toList)=true):=by rw [Hid,← HD.out];exact hb2
  cases hb3:zf9 D.data.toList
  case true=>
   have al:=Lib.hid hb3
   go_wp2
   go_ret
   exact ⟨zb1 (ck2_19 HL.out A1.out A2.out (by rw [← HD.out];exact al.out)).symm,g1⟩
  have A3:Hid (zf9 (zg9 s.data.toList)=false):=by rw [Hid,← HD.out];exact hb3
  have hbad:=yz4 HP.out hb1 p0
  have hden:=yz3 q0
  rw [HN.out] at hbad
  rw [HD.out] at hden
  have HBad:=Lib.hid hbad
  have HDen:=Lib.hid hden
  clear hbad hden hb1 hb2 ad ai
  by_cases hc1:1<N.size
  ·have ae:(1:Int)<(N.size:Int):=by omega
   cases hc2:((N[0].toNat:Int)==48)
   case true=>
    have au:=Lib.hid hc2
    have ar:Hid (decide (1<N.size)=true):=decide_eq_true hc1
    go_wp2
    go_ret
    exact ⟨zb1 (zv7 HL.out A1.out A2.out A3.out (by rw [HBad.out,ar.out,au.out,Bool.and_true,Bool.true_or,Bool.true_or])).symm,g1⟩
   have HA:Hid ((decide (1<N.size)&&((N[0].toNat:Int)==48))=false):=by rw [Hid,hc2,Bool.and_false]
   cases hc3:(N.toList==[45,48])
   case true=>
    have ac:=Lib.hid hc3
    go_wp2
    go_ret
    exact ⟨zb1 (zv7 HL.out A1.out A2.out A3.out (by rw [HBad.out,ac.out,Bool.or_true,Bool.true_or])).symm,g1⟩
   have ac:=Lib.hid hc3
   cases hc4:((D[0].toNat:Int)==48)
   case true=>
    have aj:=Lib.hid hc4
    go_wp2
    go_ret
    exact ⟨zb1 (zv7 HL.out A1.out A2.out A3.out (by rw [HDen.out,aj.out,Bool.or_true])).symm,g1⟩
   have HBz:Hid (zF3 (zf4 s.data.toList)=false):=by rw [Hid,HBad.out,HA.out,ac.out];rfl
   have HDz:Hid (((zg9 s.data.toList)[0]?==some 48)=false):=by rw [Hid,HDen.out];exact hc4
   have af:=zn0 A1.out HBz.out
   obtain ⟨z,hz⟩:=af
   obtain ⟨hdd,ah⟩:=zt6 A2.out HDz.out
   obtain ⟨dd,hdv⟩:∃ dd:Nat,dd=zh0 (zg9 s.data.toList):=⟨_,rfl⟩
   rw [← hdv] at hdd ah
   have aa:zg9 s.data.toList=Lib.itoa (dd:Int):=by rw [za7 (by omega),Int.natAbs_natCast,hdd]
   have E:=zT6 HL.out A1.out A2.out A3.out (by rw [HBz.out,HDz.out];rfl)
   rw [hz,aa,zf0,zf0,← hz,← aa] at E
   have hzl:=zg3 z (m:=s.size) (by rw [← hz];have:=(zh2 s.data.toList).1;have:=HSl.out;omega)
   have hdl:=zg3 (dd:Int) (m:=s.size+1) (by rw [← aa];have:=(zh2 s.data.toList).2;have:=HSl.out;omega)
   have hg:=fun w=>zP3 (k:=4*s.size) (m:=4*(s.size+1)) z (dd:Int) hzl hdl (by omega) w
   rw [← hz,← aa,← HNe.out,← HDe.out] at hg
   have hT:(D.toList==[49])=(zg9 s.data.toList==[49]):=by rw [ByteArray.toList_eq,HD.out]
   rw [← hT,HSl.out] at E
   have HE:=Lib.hid E
   clear E hT hz hdd aa hzl hdl hdv
   have hsla:=zy8 s w1 (by omega)
   obtain ⟨sl,hsl⟩:∃ sl,sl=(zf4 s.data.toList).length:=⟨_,rfl⟩
   rw [← hsl] at hsla
   have HSL:=Lib.hid hsl
   clear hsl
   go_wp2_with fail
   (with_reducible refine hsla.mono ?_)
   rintro e w5 ⟨rfl,rfl⟩
   clear hsla
   by_cases hlt:sl<s.size
   ·have L1:Hid (decide ((zf4 s.data.toList).length<s.size)=true):=by rw [Hid,← HSL.out];exact decide_eq_true hlt
    have hlt':(sl:Int)<(s.size:Int):=by omega
    cases h1:(D.toList==[49])
    ·have H1:=Lib.hid h1
     by_cases hg1:Int.gcd z (dd:Int)=1
     ·have ab:=hg w1
      rw [hg1,show ((1:Nat):Int)=1 from rfl,itoa_one] at ab
      have HG:=Lib.hid hg1
      clear hg hg1
      go_wp2_with fail
      (with_reducible refine ab.mono ?_)
      rintro e w6 ⟨rfl,g6⟩
      clear ab
      go_wp2
      go_ret
      exact ⟨zb1 (by rw [HE.out,L1.out,H1.out,HG.out];rfl),g1.trans g6⟩
     ·have hne:(Lib.itoa (Int.gcd z (dd:Int):Int)==[49])=false:=by
       rw [beq_eq_false_iff_ne,← itoa_one]
       intro e
       have:=zj8 e
       omega
      have ak:((⟨(Lib.itoa (Int.gcd z (dd:Int):Int)).toArray⟩:ByteArray).toList==[49])=false:=by rw [ByteArray.toList_eq];exact hne
      have HG:Hid ((Int.gcd z (dd:Int) !=1)=true):=by rw [Hid,bne_iff_ne];exact hg1
      have ab:=hg w1
      clear hg hg1
      go_wp2_with fail
      (with_reducible refine ab.mono ?_)
      rintro e w6 ⟨rfl,g6⟩
      clear ab
      go_wp2
      go_ret
      exact ⟨zb1 (by rw [HE.out,L1.out,H1.out,HG.out];rfl),g1.trans g6⟩
    ·have H1:=Lib.hid h1
     clear hg
     go_wp2
     go_ret
     exact ⟨zb1 (by rw [HE.out,L1.out,H1.out];rfl),g1⟩
   ·have L1:Hid (decide ((zf4 s.data.toList).length<s.size)=false):=by rw [Hid,← HSL.out];exact decide_eq_false hlt
    have hlt':¬ (sl:Int)<(s.size:Int):=by omega
    clear hg
    go_wp2
    go_ret
    exact ⟨zb1 (by rw [HE.out,L1.out];rfl),g1⟩
  ·have ae:¬ (1:Int)<(N.size:Int):=by omega
   have HA:Hid ((decide (1<N.size)&&((N[0].toNat:Int)==48))=false):=by rw [Hid,decide_eq_false hc1,Bool.false_and]
   cases hc3:(N.toList==[45,48])
   case true=>
    have ac:=Lib.hid hc3
    go_wp2
    go_ret
    exact ⟨zb1 (zv7 HL.out A1.out A2.out A3.out (by rw [HBad.out,ac.out,Bool.or_true,Bool.true_or])).symm,g1⟩
   have ac:=Lib.hid hc3
   cases hc4:((D[0].toNat:Int)==48)
   case true=>
    have aj:=Lib.hid hc4
    go_wp2
    go_ret
    exact ⟨zb1 (zv7 HL.out A1.out A2.out A3.out (by rw [HDen.out,aj.out,Bool.or_true])).symm,g1⟩
   have HBz:Hid (zF3 (zf4 s.data.toList)=false):=by rw [Hid,HBad.out,HA.out,ac.out];rfl
   have HDz:Hid (((zg9 s.data.toList)[0]?==some 48)=false):=by rw [Hid,HDen.out];exact hc4
   have af:=zn0 A1.out HBz.out
   obtain ⟨z,hz⟩:=af
   obtain ⟨hdd,ah⟩:=zt6 A2.out HDz.out
   obtain ⟨dd,hdv⟩:∃ dd:Nat,dd=zh0 (zg9 s.data.toList):=⟨_,rfl⟩
   rw [← hdv] at hdd ah
   have aa:zg9 s.data.toList=Lib.itoa (dd:Int):=by rw [za7 (by omega),Int.natAbs_natCast,hdd]
   have E:=zT6 HL.out A1.out A2.out A3.out (by rw [HBz.out,HDz.out];rfl)
   rw [hz,aa,zf0,zf0,← hz,← aa] at E
   have hzl:=zg3 z (m:=s.size) (by rw [← hz];have:=(zh2 s.data.toList).1;have:=HSl.out;omega)
   have hdl:=zg3 (dd:Int) (m:=s.size+1) (by rw [← aa];have:=(zh2 s.data.toList).2;have:=HSl.out;omega)
   have hg:=fun w=>zP3 (k:=4*s.size) (m:=4*(s.size+1)) z (dd:Int) hzl hdl (by omega) w
   rw [← hz,← aa,← HNe.out,← HDe.out] at hg
   have hT:(D.toList==[49])=(zg9 s.data.toList==[49]):=by rw [ByteArray.toList_eq,HD.out]
   rw [← hT,HSl.out] at E
   have HE:=Lib.hid E
   clear E hT hz hdd aa hzl hdl hdv
   have hsla:=zy8 s w1 (by omega)
   obtain ⟨sl,hsl⟩:∃ sl,sl=(zf4 s.data.toList).length:=⟨_,rfl⟩
   rw [← hsl] at hsla
   have HSL:=Lib.hid hsl
   clear hsl
   go_wp2_with fail
   (with_reducible refine hsla.mono ?_)
   rintro e w5 ⟨rfl,rfl⟩
   clear hsla
   by_cases hlt:sl<s.size
   ·have L1:Hid (decide ((zf4 s.data.toList).length<s.size)=true):=by rw [Hid,← HSL.out];exact decide_eq_true hlt
    have hlt':(sl:Int)<(s.size:Int):=by omega
    cases h1:(D.toList==[49])
    ·have H1:=Lib.hid h1
     by_cases hg1:Int.gcd z (dd:Int)=1
     ·have ab:=hg w1
      rw [hg1,show ((1:Nat):Int)=1 from rfl,itoa_one] at ab
      have HG:=Lib.hid hg1
      clear hg hg1
      go_wp2_with fail
      (with_reducible refine ab.mono ?_)
      rintro e w6 ⟨rfl,g6⟩
      clear ab
      go_wp2
      go_ret
      exact ⟨zb1 (by rw [HE.out,L1.out,H1.out,HG.out];rfl),g1.trans g6⟩
     ·have hne:(Lib.itoa (Int.gcd z (dd:Int):Int)==[49])=false:=by
       rw [beq_eq_false_iff_ne,← itoa_one]
       intro e
       have:=zj8 e
       omega
      have ak:((⟨(Lib.itoa (Int.gcd z (dd:Int):Int)).toArray⟩:ByteArray).toList==[49])=false:=by rw [ByteArray.toList_eq];exact hne
      have HG:Hid ((Int.gcd z (dd:Int) !=1)=true):=by rw [Hid,bne_iff_ne];exact hg1
      have ab:=hg w1
      clear hg hg1
      go_wp2_with fail
      (with_reducible refine ab.mono ?_)
      rintro e w6 ⟨rfl,g6⟩
      clear ab
      go_wp2
      go_ret
      exact ⟨zb1 (by rw [HE.out,L1.out,H1.out,HG.out];rfl),g1.trans g6⟩
    ·have H1:=Lib.hid h1
     clear hg
     go_wp2
     go_ret
     exact ⟨zb1 (by rw [HE.out,L1.out,H1.out];rfl),g1⟩
   ·have L1:Hid (decide ((zf4 s.data.toList).length<s.size)=false):=by rw [Hid,← HSL.out];exact decide_eq_false hlt
    have hlt':¬ (sl:Int)<(s.size:Int):=by omega
    clear hg
    go_wp2
    go_ret
    exact ⟨zb1 (by rw [HE.out,L1.out];rfl),g1⟩
theorem zu4 {k:Nat} {q:Rat} (h1:Sz k q.num) (h2:Sz k (q.den:Int)):(za1 q).length≤2*k+5:=by
 have a:=zl1 h1
 have b:=zl1 h2
 unfold za1
 split
 ·omega
 ·simp only [List.length_append,List.length_singleton];omega
theorem zh7 {k:Nat} (q:Rat) (h1:Sz k q.num) (h2:Sz k (q.den:Int)) (hk:k≤400000) (w:World):
  Calls Tryz.prog 99 #[.string ⟨(za1 q).toArray⟩] w fun e w'=>e=.returned (.tuple #[.string ⟨(Lib.itoa q.num).toArray⟩,.string ⟨(Lib.itoa (q.den:Int)).toArray⟩])∧Gr w w':=by
 have hl:=zu4 h1 h2
 have:=yl2 ⟨(za1 q).toArray⟩ w (by show (za1 q).toArray.size≤_;simp;omega)
 have e:(⟨(za1 q).toArray⟩:ByteArray).data.toList=za1 q:=by simp
 rw [e,zx1,zH0] at this
 exact this
theorem zs5 (q:Rat):0<(q.den:Int):=Int.natCast_pos.2 q.den_pos
theorem zG0 (a b:Rat):0<(a.den:Int)*(b.den:Int):=Int.mul_pos (zs5 a) (zs5 b)
theorem rat_neg (a:Rat):Rat.divInt (-a.num) (a.den:Int)=-a:=by
 rw [← Rat.neg_divInt,Rat.num_divInt_den]
theorem yz5 {k:Nat} {a:Rat} (h:Sz k a.num∧Sz k (a.den:Int)):Sz k (-a).num∧Sz k ((-a).den:Int):=by
 rw [Rat.neg_num,Rat.neg_den]
 exact ⟨h.1.neg,h.2⟩
set_option maxRecDepth 100000 in
set_option maxHeartbeats 2000000 in
theorem yB1 (ao:Option Addr) (la ca:Nat) (m x p:Int) (w:World) (hla:la≤900000) (ha:Mag w ao la ca m) (ad:0≤x) (ai:x<4294967296) (ae:0≤p) (ap:p<4294967296):
  Calls Tryz.prog 173 #[.slice ao la ca,.int .u32 x,.int .u32 p] w fun e w'=>(∃ go k cap,e=.returned (.slice go k cap)∧Mag w' go k cap (m*x+p)∧k≤la+1)∧Gr w w':=by
 go_enter Tryz.func173,Tryz.ntmps173
 go_wp2_with (at_make;refine ze1 _ rfl _ _ rfl _ _ (la+1) rfl rfl (by omega) (by omega) (by omega) ?_)
 intro w1 hO hB hsz
 go_wp2
 go_loopw [8,19] (fun c i wr=>∃ (k:Nat) (cr:Int) (d:Nat→Int),k≤la∧i=.int .i64 k∧c=.int .u64 cr∧0≤cr∧cr<4294967296∧Hid (hi (m*x+p) k=hi m k*x+cr)∧Below w.heap.size w wr∧
   Own wr w.heap.size (la+1) d∧Hid (∀ j,j<k→d j=dg (m*x+p) j)) (fun _ i _=>la - (intOf i).toNat)
 case atStart=>exact ⟨0,p,_,Nat.zero_le _,rfl,rfl,ae,ap,by simp [Hid,zd3],hB,hO,fun j hj=>by omega⟩
 case round=>
  obtain ⟨k,cr,d,hk,rfl,rfl,al,ah,hz,hB,hO,hd⟩:=hrel
  by_cases hlt:k<la
  ·obtain ⟨b1,ak,rfl,ab⟩:=(ha.row.below hB).at_ (by omega)
   have ac:=ab k hlt
   clear ab
   have d0:=za4 m k
   have d1:=ze2 m k
   have aa:=hO.cell k (by omega)
   have hfree:=hO.free k
   have hs:=zO5 hz.out al ah ad ai
   have z0:=hs.2.2.2.2.1
   have z1:=hs.2.2.2.2.2
   have z2:dg m k*x≤18446744065119617025:=by
    have:=Int.mul_le_mul (show dg m k≤4294967295 by omega) (show x≤4294967295 by omega) ad (by omega)
    omega
   have HS:=Lib.hid hs
   clear hs
   go_wp2
   have hs:=HS.out
   go_roundw
   case rel=>
    refine ⟨k+1,_,_,by omega,by go_num,rfl,hs.2.2.1,hs.2.2.2.1,hs.2.1,hB.setCell (Nat.le_refl _) _,hO.set (by omega) _,fun j hj=>?_⟩
    by_cases e:j=k
    ·subst e;rw [zb8,hs.1]
    ·rw [za9 _ _ e];exact hd.out j (by omega)
   case measure=>simp [intOf];omega
  ·obtain rfl:k=la:=by omega
   have aa:=hO.cell k (by omega)
   have hfree:=hO.free k
   have aj:0≤m*x+p:=by have:=Int.mul_nonneg ha.nl.nonneg ad;omega
   have htop:hi (m*x+p) (k+1)=0:=by
    have h1:=hz.out
    rw [ha.nl.top,Int.zero_mul] at h1
    rw [zb9];omega
   have hdk:dg (m*x+p) k=cr:=by
    have h1:=hz.out
    rw [ha.nl.top,Int.zero_mul] at h1
    unfold dg;omega
   have HT:=Lib.hid htop
   have HD:=Lib.hid hdk
   clear htop hdk
   go_wp2_with fail
   have af:=(hO.set (Nat.lt_succ_self k) cr).congr (d':=dg (m*x+p)) (fun j hj=>by
    by_cases e:j=k
    ·subst e;rw [zb8,HD.out]
    ·rw [za9 _ _ e];exact hd.out j (by omega))
   refine (zy1 _ _ _ (m*x+p) _ (by omega) (Nat.le_refl _) aj HT.out af.row).mono ?_
   rintro e w3 ⟨⟨n,rfl,hm,hn⟩,rfl⟩
   go_wp2
   go_ret
   exact ⟨⟨_,_,_,rfl,hm,hn⟩,hB.setCell (Nat.le_refl _) _⟩
theorem yw6 (l:List UInt8):∀ acc:Nat,l.foldl (fun a c=>a*10+(c.toNat - 48)) acc=acc*10 ^ l.length+zh0 l:=by
 induction l with
 | nil=>intro acc;simp [zh0]
 | cons c l ih=>
  intro acc
  have hv:zh0 (c::l)=(c.toNat - 48)*10 ^ l.length+zh0 l:=by
   show l.foldl _ (0*10+(c.toNat - 48))=_
   rw [ih];simp
  rw [List.foldl_cons,ih,hv,List.length_cons,Nat.pow_succ,Nat.add_mul]
  have:acc*10*10 ^ l.length=acc*(10 ^ l.length*10):=by grind
  omega
theorem zo1 (a b:List UInt8):zh0 (a++b)=zh0 a*10 ^ b.length+zh0 b:=by
 show (a++b).foldl _ 0=_
 rw [List.foldl_append,yw6];rfl
theorem yw7 (l:List UInt8) (h:∀ c ∈ l,48≤c.toNat∧c.toNat≤57):zh0 l<10 ^ l.length:=by
 induction l with
 | nil=>simp [zh0]
 | cons c l ih=>
  have h1:=zo1 [c] l
  have h2:=ih (fun x hx=>h x (by simp [hx]))
  have h3:=h c (by simp)
  have h4:zh0 [c]≤9:=by simp [zh0];omega
  rw [List.singleton_append] at h1
  rw [h1,List.length_cons,Nat.pow_succ]
  have:=Nat.mul_le_mul_right (10 ^ l.length) h4
  omega
theorem parseM:∀ (l:List UInt8) (acc:Nat),(∀ c ∈ l,48≤c.toNat∧c.toNat≤57)→acc*10 ^ l.length+10 ^ l.length≤1000000000→Lib.parseUintM (2 ^ 32 - 1) acc l=.ok (acc*10 ^ l.length+zh0 l)
 | [],acc,_,_=>by simp [Lib.parseUintM,zh0]
 | c::l,acc,h,hb=>by
  have hc:=h c (by simp)
  have hp:0<10 ^ l.length:=Nat.pow_pos (by omega)
  rw [List.length_cons,Nat.pow_succ] at hb
  have h1:(acc+1)*(10 ^ l.length*10)≤1000000000:=by rw [Nat.add_mul];omega
  have h2:(acc+1)*10≤1000000000:=by
   have:(acc+1)*10≤(acc+1)*(10 ^ l.length*10):=Nat.mul_le_mul_left _ (by omega)
   omega
  have e:acc*(10 ^ l.length*10)=acc*10*10 ^ l.length:=by grind
  have h3:(c.toNat - 48)*10 ^ l.length≤9*10 ^ l.length:=Nat.mul_le_mul_right _ (by omega)
  have ih:=parseM l (acc*10+(c.toNat - 48)) (fun x hx=>h x (by simp [hx])) (by rw [Nat.add_mul];omega)
  unfold Lib.parseUintM
  rw [if_pos hc,if_neg (by omega),if_neg (by omega),ih]
  have h5:=zo1 [c] l
  rw [List.singleton_append] at h5
  have h6:zh0 [c]=c.toNat - 48:=by simp [zh0]
  rw [h5,h6,List.length_cons,Nat.pow_succ,Nat.add_mul,e]
  congr 1
  omega
theorem parse32 {l:List UInt8} (h:∀ c ∈ l,48≤c.toNat∧c.toNat≤57) (h0:l≠[]) (h9:l.length≤9):Lib.parseUintB 32 l=.ok (zh0 l):=by
 unfold Lib.parseUintB
 rw [if_neg h0,parseM l 0 h (by
  have:10 ^ l.length≤10 ^ 9:=Nat.pow_le_pow_right (by omega) h9
  omega)]
 simp
theorem zO7 (R:ByteArray) (h:∀ c ∈ R.data.toList,48≤c.toNat∧c.toNat≤57) (h0:0<R.size) (h9:R.size≤9) (w:World):
  Calls Tryz.prog 172 #[.string R,.int .i64 10,.int .i64 32] w fun e w'=>e=.returned (.tuple #[.int .u64 (zh0 R.data.toList:Int),.nilIface])∧Gr w w':=by
 have hl:R.data.toList.length=R.size:=by simp
 refine (Tryz.strconv_ParseUint_10_at32_ok R (by omega) (zh0 R.data.toList) (parse32 h (fun e=>by rw [e] at hl;simp at hl;omega) (by omega)) w).mono ?_
 rintro e w1 ⟨he,hw⟩
 refine ⟨he,?_⟩
 rcases hw with rfl | rfl
 ·exact Gr.refl _
 ·exact Go.Joins.below_bytesWorld _ _ _ _ (Nat.le_refl _)
theorem nodigit (x:Nat) (w:World):Calls Tryz.prog 171 #[.int .i32 (x:Int)] w fun e w'=>e=.returned (.bool (decide (x<48)||decide (57<x)))∧∃ q,w'=w.drewN q:=by
 by_cases h1:(x:Int)<48
 ·have e1:decide (x<48)=true:=by simp;omega
  have E:=Lib.hid e1
  clear e1
  go_enter Tryz.func171,Tryz.ntmps171
  go_wp2
  go_ret
  exact ⟨by rw [E.out];rfl,0,rfl⟩
 ·have e1:decide (x<48)=false:=by simp;omega
  by_cases h2:57<(x:Int)
  ·have e2:(decide (x<48)||decide (57<x))=true:=by simp;omega
   have E:=Lib.hid e2
   clear e1 e2
   go_enter Tryz.func171,Tryz.ntmps171
   go_wp2
   go_ret
   exact ⟨by rw [E.out];rfl,0,rfl⟩
  ·have e2:(decide (x<48)||decide (57<x))=false:=by simp;omega
   have E:=Lib.hid e2
   clear e1 e2
   go_enter Tryz.func171,Tryz.ntmps171
   go_wp2
   go_ret
   exact ⟨by rw [E.out];rfl,0,rfl⟩
theorem yk2 {D:ByteArray} (h:∀ c ∈ D.data.toList,48≤c.toNat∧c.toNat≤57):∀ (f pos:Nat),Lib.idxFuncFrom (fun x=>decide (x<48)||decide (57<x)) true D f pos=-1
 | 0,_=>rfl
 | f+1,pos=>by
  unfold Lib.idxFuncFrom
  by_cases hp:pos<D.size
  ·have hc:=h D[pos] (List.mem_of_getElem? (zd0 hp))
   rw [if_pos hp,decode_ascii D pos hp (by omega),if_neg (by simp;omega)]
   exact yk2 h f _
  ·rw [if_neg hp]
theorem zJ5 (D:ByteArray) (h:∀ c ∈ D.data.toList,48≤c.toNat∧c.toNat≤57) (w:World):
  Calls Tryz.prog 170 #[.string D,.func (.func 171) #[] #[]] w fun e w'=>e=.returned (.bool false)∧Gr w w':=by
 refine (Tryz.strings_ContainsFunc 171 #[] (enters_of Tryz.func171 (by kernel_rfl) rfl) (fun x=>decide (x<48)||decide (57<x)) D w (fun W x _=>nodigit x W)).mono ?_
 rintro e w1 ⟨he,hb⟩
 refine ⟨?_,hb⟩
 rw [he]
 unfold Lib.idxFunc
 rw [yk2 h]
 rfl
theorem yw8 (z:Int) (w:World):Calls Tryz.prog 169 #[.string ⟨(Lib.itoa z).toArray⟩,.string ⟨#[45]⟩] w fun e w'=>
  e=.returned (.tuple #[.string ⟨(Lib.decDigits z.natAbs).toArray⟩,.bool (decide (z<0))])∧w=w':=by
 refine (Tryz.strings_CutPrefix _ _ _).mono ?_
 rintro e w1 ⟨he,rfl⟩
 refine ⟨?_,rfl⟩
 rw [he]
 show Ending.returned (.tuple #[.string ⟨(Lib.trimPrefix (Lib.itoa z) [45]).toArray⟩,.bool (Lib.hasPrefix (Lib.itoa z) [45])])=_
 by_cases h:z<0
 ·have h1:Lib.hasPrefix (Lib.itoa z) [45]=true:=by rw [zd5 h];simp [Lib.hasPrefix]
  rw [Lib.trimPrefix,h1,if_pos rfl,zd5 h,decide_eq_true h];rfl
 ·have h1:Lib.hasPrefix (Lib.itoa z) [45]=false:=by
   rw [za7 (by omega)]
   rcases hd:Lib.decDigits z.natAbs with _ | ⟨c,l⟩
   ·rfl
   ·have hc:=zk7 z.natAbs c (by rw [hd];simp)
    have hne:¬ (45:UInt8)=c:=fun e=>by rw [← e] at hc;simp at hc
    simp [Lib.hasPrefix,List.isPrefixOf,hne]
  rw [Lib.trimPrefix,h1,if_neg (by decide),za7 (by omega),decide_eq_false h]
def zS3 (v:Value):Nat:=match v with | .string s=>s.size | _=>0
theorem zE0 (R:ByteArray) (q:Nat):(R.extract 0 q).data.toList=R.data.toList.take q:=by rw [Lib.extract_data];simp
theorem zE1 (R:ByteArray) (q:Nat):(R.extract q R.size).data.toList=R.data.toList.drop q:=by
 rw [Lib.extract_data,List.take_of_length_le];simp
set_option maxRecDepth 100000 in
set_option maxHeartbeats 4000000 in
theorem zr8 {k:Nat} (z:Int) (hz:Sz k z) (hk:k≤60000) (w:World):
  Calls Tryz.prog 143 #[.string ⟨(Lib.itoa z).toArray⟩] w fun e w'=>(∃ x y,e=.returned (.tuple #[.agg #[x,y],.int .i64 0])∧IsInt w' k x y z)∧Gr w w':=by
 obtain ⟨n,hn⟩:∃ n,n=z.natAbs:=⟨_,rfl⟩
 have hnk:n<2 ^ k:=by rw [hn];exact hz
 have hlen:=zi4 k n hnk
 have hit:(Lib.itoa z).length≤k+2:=by
  by_cases h:z<0
  ·rw [zd5 h,← hn];simp;omega
  ·rw [za7 (by omega),← hn];omega
 obtain ⟨s,hs⟩:∃ s:ByteArray,s=⟨(Lib.itoa z).toArray⟩:=⟨_,rfl⟩
 have hss:s.size≤65536:=by rw [hs];show (Lib.itoa z).toArray.size≤_;simp;omega
 obtain ⟨D,hD⟩:∃ D:ByteArray,D=⟨(Lib.decDigits n).toArray⟩:=⟨_,rfl⟩
 have HD:Hid (D.data.toList=Lib.decDigits n):=by rw [Hid,hD]
 have hDs:D.size=(Lib.decDigits n).length:=by rw [hD];show (Lib.decDigits n).toArray.size=_;simp
 have ax:0<D.size:=by rw [hDs];exact zH1 n
 have ar:D.size≤60001:=by omega
 have hc:=yw8 z (w.alloc (.cells #[.bool false,.slice none 0 0] 34))
 rw [← hn,← hD,← hs] at hc
 have hda:∀ c ∈ D.data.toList,48≤c.toNat∧c.toNat≤57:=by rw [HD.out];exact zk7 n
 have hcn:=zJ5 D hda
 have hne:(D.toList==[])=false:=by
  rw [beq_eq_false_iff_ne,ByteArray.toList_eq,HD.out];exact ye2 n
 have au:(D[0].toNat:Int)=48→D.size=1∧n=0:=by
  intro h
  rcases Nat.eq_zero_or_pos n with e | e
  ·rw [hDs,e];exact ⟨by rw [ym9];rfl,rfl⟩
  ·obtain ⟨c,aA,aI,_⟩:=ym8 e
   have:=zi1 HD.out ax aA
   rw [this] at h
   omega
 have HN:=Lib.hid hn
 have aH:=Lib.hid au
 have HDa:=Lib.hid hda
 have HDs:=Lib.hid hDs
 have HS:=Lib.hid hs
 rw [← hs]
 clear hn au hda hDs hD hit hs
 go_enter Tryz.func143,Tryz.ntmps143
 go_wp2_with fail
 (with_reducible refine hc.mono ?_)
 rintro e w1 ⟨rfl,rfl⟩
 clear hc
 go_wp2_with fail
 (with_reducible refine (hcn _).mono ?_)
 rintro e w2 ⟨rfl,g2⟩
 clear hcn
 by_cases h48:(D[0].toNat:Int)=48
 ·have hzz:=aH.out h48
  have aJ:¬ (1:Int)<(D.size:Int):=by omega
  have aK:¬ z<0:=by have:=HN.out;omega
  have ai:((D[0].toNat:Int)==48)=true:=by simpa using h48
  clear h48 hzz
  go_wp2
  go_loopw [4,6] (fun r m wr=>∃ (R:ByteArray) (V:Nat) (mo:Option Addr) (ml mc:Nat),r=.string R∧m=.slice mo ml mc∧ml≤k∧R.size≤60001∧Hid (Mag wr mo ml mc (V:Int)∧(∀ c ∈ R.data.toList,48≤c.toNat∧c.toNat≤57)∧V*10 ^ R.size+zh0 R.data.toList=n)∧Gr (w.alloc (.cells #[.bool false,.slice none 0 0] 34)) wr) (fun r _ _=>zS3 r)
  case atStart=>exact ⟨D,0,none,0,0,rfl,rfl,by omega,ar,⟨⟨Nat.le_refl _,NL.zero,Row.nil _ _ _⟩,HDa.out,by rw [HD.out,zA4];simp⟩,g2⟩
  case round=>
   obtain ⟨R,V,mo,ml,mc,rfl,rfl,hml,aC,hh,hG⟩:=hrel
   by_cases hp:0<R.size
   ·obtain ⟨q,hq⟩:∃ q:Nat,q=(R.size - 1) % 9+1:=⟨_,rfl⟩
    have ap:q≤9:=by omega
    have az:0<q:=by omega
    have hqR:q≤R.size:=by omega
    have hqe:((R.size:Int) - 1) % 9+1=(q:Int):=by omega
    have HQ:=Lib.hid hq
    clear hq
    go_wp2
    obtain ⟨wo,hwo⟩:∃ wo:World,wo=wr:=⟨_,rfl⟩
    subst hwo
    go_loopw [8,48] (fun b i wq=>∃ (j:Nat) (x:Int),b=.int .u32 x∧i=.int .i64 j∧j≤q∧1≤x∧x≤1000000000∧Hid (x=10 ^ j)∧wq=wo) (fun _ i _=>q - (intOf i).toNat)
    case atStart=>exact ⟨0,1,rfl,rfl,by omega,by omega,by omega,rfl,rfl⟩
    case round=>
     obtain ⟨j,x,rfl,rfl,hj,ay,aB,hx,rfl⟩:=hrel
     by_cases hlt:j<q
     ·have aG:x≤100000000:=by
       rw [hx.out]
       have h8:(10:Nat) ^ j≤100000000:=Nat.le_trans (Nat.pow_le_pow_right (by omega) (show j≤8 by omega)) (by decide)
       have h9:=Int.ofNat_le.2 h8
       rw [Int.natCast_pow] at h9
       exact h9
      go_wp2
      go_roundw
      case rel=>exact ⟨j+1,x*10,rfl,by go_num,by omega,by omega,by omega,by rw [Hid,hx.out,Int.pow_succ],by first | rfl | trivial⟩
      case measure=>simp [intOf];omega
     ·obtain rfl:j=q:=by omega
      obtain ⟨T,hT⟩:∃ T,R.extract 0 j=T:=⟨_,rfl⟩
      obtain ⟨U,hU⟩:∃ U,R.extract j R.size=U:=⟨_,rfl⟩
      have hTl:T.data.toList=R.data.toList.take j:=by rw [← hT,zE0]
      have hUl:U.data.toList=R.data.toList.drop j:=by rw [← hU,zE1]
      have hRl:R.data.toList.length=R.size:=by simp
      have hTs:T.size=j:=by
       have h1:=congrArg List.length hTl
       rw [List.length_take,hRl] at h1
       have h2:T.data.toList.length=T.size:=by simp
       omega
      have hUs:U.size=R.size - j:=by
       have h1:=congrArg List.length hUl
       rw [List.length_drop,hRl] at h1
       have h2:U.data.toList.length=U.size:=by simp
       omega
      obtain ⟨hm,hda,hval⟩:=hh.out
      have hTd:∀ c ∈ T.data.toList,48≤c.toNat∧c.toNat≤57:=fun c hc=>hda c (by rw [hTl] at hc;exact List.mem_of_mem_take hc)
      have hUd:∀ c ∈ U.data.toList,48≤c.toNat∧c.toNat≤57:=fun c hc=>hda c (by rw [hUl] at hc;exact List.mem_of_mem_drop hc)
      obtain ⟨u,hu⟩:∃ u,u=zh0 T.data.toList:=⟨_,rfl⟩
      have aD:u<1000000000:=by
       have h1:=yw7 _ hTd
       have h2:T.data.toList.length=T.size:=by simp
       rw [h2,hTs] at h1
       have:(10:Nat) ^ j≤10 ^ 9:=Nat.pow_le_pow_right (by omega) ap
       omega
      have aa:(V*10 ^ j+u)*10 ^ U.size+zh0 U.data.toList=n:=by
       have h1:=zo1 (R.data.toList.take j) (R.data.toList.drop j)
       rw [List.take_append_drop,← hTl,← hUl] at h1
       have h2:U.data.toList.length=U.size:=by simp
       rw [h1,h2,← hu,show R.size=j+U.size by omega,Nat.pow_add] at hval
       rw [← hval];grind
      have hVk:V*10 ^ j+u<2 ^ k:=by
       have h1:V*10 ^ j+u≤(V*10 ^ j+u)*10 ^ U.size:=Nat.le_mul_of_pos_right _ (Nat.pow_pos (by omega))
       omega
      have hpu:=zO7 T hTd (by omega) (by omega)
      rw [← hu] at hpu
      have ak:=Lib.hid aa
      have HVk:=Lib.hid hVk
      have HUd:=Lib.hid hUd
      have HX:=hx
      have ah:T.size≤9:=by omega
      have al:U.size<R.size:=by omega
      have ac:U.size≤60001:=by omega
      clear hTl hUl hRl hTd hUd hda hval aa hVk hu hTs hUs hqe
      have av:(u:Int)<1000000000:=by omega
      go_wp2_with fail
      (with_reducible refine (hpu _).mono ?_)
      rintro e w5 ⟨rfl,g5⟩
      clear hpu
      go_wp2_with fail
      (with_reducible refine (yB1 mo ml mc (V:Int) x (u:Int) _ (by omega) (hm.kp g5.kp) (by omega) (by omega) (by omega) (by omega)).mono ?_)
      rintro e w6 ⟨⟨go,k6,c6,rfl,ad,aF⟩,g6⟩
      have ae:Mag w6 go k6 c6 ((V*10 ^ j+u:Nat):Int):=by
       rw [HX.out] at ad
       have e:((V*10 ^ j+u:Nat):Int)=(V:Int)*10 ^ j+(u:Int):=by push_cast;rfl
       rw [e];exact ad
      have aq:k6≤k:=ae.nl.len_sz (show Sz k _ by unfold Sz;rw [Int.natAbs_natCast];exact HVk.out)
      clear ad
      go_wp2
      go_roundw
      case rel=>exact ⟨U,V*10 ^ j+u,go,k6,c6,rfl,rfl,aq,ac,⟨ae,HUd.out,ak.out⟩,(hG.trans g5).trans g6⟩
      case measure=>simp [zS3];omega
   ·have ab:R.size=0:=by omega
    obtain ⟨hm,hda,hval⟩:=hh.out
    have hVn:V=n:=by
     have h2:R.data.toList.length=R.size:=by simp
     have h1:R.data.toList=[]:=List.length_eq_zero_iff.1 (by rw [h2];exact ab)
     rw [h1,ab] at hval
     simpa [zh0] using hval
    rw [hVn] at hm
    have aw:=Lib.hid ab
    clear ab hda hval hh hVn
    have p2:=Gr.heap hG (heap_alloc_new w (.cells #[.bool false,.slice none 0 0] 34))
    go_wp2_with fail
    (with_reducible refine (zj6 (decide (z<0)) mo ml mc (n:Int) _ (by omega) hm.cap hm.nl.nonneg hm.nl.top hm.row).mono ?_)
    rintro e w5 ⟨⟨k5,rfl,af,aE⟩,g5⟩
    have p3:=Gr.heap g5 p2
    have d0:=zb5 p3 0
    have d1:=zb5 p3 1
    have d2:=zm4 p3
    have aj:Gr w w5:=(Gr.alloc w _).trans (hG.trans g5)
    have hint:=IsInt.mk' (z:=z) (s:=decide (z<0)) (k:=k) (af.gr g5) (by rw [HN.out]) (fun _=>rfl) hz
    obtain ⟨bb,hbb⟩:∃ bb,bb=(decide (z<0)&&decide (0<k5)):=⟨_,rfl⟩
    rw [← hbb] at hint ⊢
    clear hbb hm af p2
    go_wp2
    have p4:=za6 (i:=1) (.slice mo k5 mc) (za6 (i:=0) (.bool bb) p3)
    have hst:=(St.setCell w5 w.heap.size 0 (.bool bb)).trans (St.setCell _ w.heap.size 1 (.slice mo k5 mc))
    exact bodyPost_ret (v:=.tuple #[.agg #[.bool bb,.slice mo k5 mc],.int .i64 0]) (za5 _ _ _ rfl rfl p4 (by kernel_rfl) rfl) rfl ⟨⟨_,_,rfl,hint.kp (hst.kp p3 (by decide))⟩,hst.gr aj (Nat.le_refl _)⟩
 ·have ai:((D[0].toNat:Int)==48)=false:=by simpa using h48
  clear h48
  go_wp2
  go_loopw [4,6] (fun r m wr=>∃ (R:ByteArray) (V:Nat) (mo:Option Addr) (ml mc:Nat),r=.string R∧m=.slice mo ml mc∧ml≤k∧R.size≤60001∧Hid (Mag wr mo ml mc (V:Int)∧(∀ c ∈ R.data.toList,48≤c.toNat∧c.toNat≤57)∧V*10 ^ R.size+zh0 R.data.toList=n)∧Gr (w.alloc (.cells #[.bool false,.slice none 0 0] 34)) wr) (fun r _ _=>zS3 r)
  case atStart=>exact ⟨D,0,none,0,0,rfl,rfl,by omega,ar,⟨⟨Nat.le_refl _,NL.zero,Row.nil _ _ _⟩,HDa.out,by rw [HD.out,zA4];simp⟩,g2⟩
  case round=>
   obtain ⟨R,V,mo,ml,mc,rfl,rfl,hml,aC,hh,hG⟩:=hrel
   by_cases hp:0<R.size
   ·obtain ⟨q,hq⟩:∃ q:Nat,q=(R.size - 1) % 9+1:=⟨_,rfl⟩
    have ap:q≤9:=by omega
    have az:0<q:=by omega
    have hqR:q≤R.size:=by omega
    have hqe:((R.size:Int) - 1) % 9+1=(q:Int):=by omega
    have HQ:=Lib.hid hq
    clear hq
    go_wp2
    obtain ⟨wo,hwo⟩:∃ wo:World,wo=wr:=⟨_,rfl⟩
    subst hwo
    go_loopw [8,48] (fun b i wq=>∃ (j:Nat) (x:Int),b=.int .u32 x∧i=.int .i64 j∧j≤q∧1≤x∧x≤1000000000∧Hid (x=10 ^ j)∧wq=wo) (fun _ i _=>q - (intOf i).toNat)
    case atStart=>exact ⟨0,1,rfl,rfl,by omega,by omega,by omega,rfl,rfl⟩
    case round=>
     obtain ⟨j,x,rfl,rfl,hj,ay,aB,hx,rfl⟩:=hrel
     by_cases hlt:j<q
     ·have aG:x≤100000000:=by
       rw [hx.out]
       have h8:(10:Nat) ^ j≤100000000:=Nat.le_trans (Nat.pow_le_pow_right (by omega) (show j≤8 by omega)) (by decide)
       have h9:=Int.ofNat_le.2 h8
       rw [Int.natCast_pow] at h9
       exact h9
      go_wp2
      go_roundw
      case rel=>exact ⟨j+1,x*10,rfl,by go_num,by omega,by omega,by omega,by rw [Hid,hx.out,Int.pow_succ],by first | rfl | trivial⟩
      case measure=>simp [intOf];omega
     ·obtain rfl:j=q:=by omega
      obtain ⟨T,hT⟩:∃ T,R.extract 0 j=T:=⟨_,rfl⟩
      obtain ⟨U,hU⟩:∃ U,R.extract j R.size=U:=⟨_,rfl⟩
      have hTl:T.data.toList=R.data.toList.take j:=by rw [← hT,zE0]
      have hUl:U.data.toList=R.data.toList.drop j:=by rw [← hU,zE1]
      have hRl:R.data.toList.length=R.size:=by simp
      have hTs:T.size=j:=by
       have h1:=congrArg List.length hTl
       rw [List.length_take,hRl] at h1
       have h2:T.data.toList.length=T.size:=by simp
       omega
      have hUs:U.size=R.size - j:=by
       have h1:=congrArg List.length hUl
       rw [List.length_drop,hRl] at h1
       have h2:U.data.toList.length=U.size:=by simp
       omega
      obtain ⟨hm,hda,hval⟩:=hh.out
      have hTd:∀ c ∈ T.data.toList,48≤c.toNat∧c.toNat≤57:=fun c hc=>hda c (by rw [hTl] at hc;exact List.mem_of_mem_take hc)
      have hUd:∀ c ∈ U.data.toList,48≤c.toNat∧c.toNat≤57:=fun c hc=>hda c (by rw [hUl] at hc;exact List.mem_of_mem_drop hc)
      obtain ⟨u,hu⟩:∃ u,u=zh0 T.data.toList:=⟨_,rfl⟩
      have aD:u<1000000000:=by
       have h1:=yw7 _ hTd
       have h2:T.data.toList.length=T.size:=by simp
       rw [h2,hTs] at h1
       have:(10:Nat) ^ j≤10 ^ 9:=Nat.pow_le_pow_right (by omega) ap
       omega
      have aa:(V*10 ^ j+u)*10 ^ U.size+zh0 U.data.toList=n:=by
       have h1:=zo1 (R.data.toList.take j) (R.data.toList.drop j)
       rw [List.take_append_drop,← hTl,← hUl] at h1
       have h2:U.data.toList.length=U.size:=by simp
       rw [h1,h2,← hu,show R.size=j+U.size by omega,Nat.pow_add] at hval
       rw [← hval];grind
      have hVk:V*10 ^ j+u<2 ^ k:=by
       have h1:V*10 ^ j+u≤(V*10 ^ j+u)*10 ^ U.size:=Nat.le_mul_of_pos_right _ (Nat.pow_pos (by omega))
       omega
      have hpu:=zO7 T hTd (by omega) (by omega)
      rw [← hu] at hpu
      have ak:=Lib.hid aa
      have HVk:=Lib.hid hVk
      have HUd:=Lib.hid hUd
      have HX:=hx
      have ah:T.size≤9:=by omega
      have al:U.size<R.size:=by omega
      have ac:U.size≤60001:=by omega
      clear hTl hUl hRl hTd hUd hda hval aa hVk hu hTs hUs hqe
      have av:(u:Int)<1000000000:=by omega
      go_wp2_with fail
      (with_reducible refine (hpu _).mono ?_)
      rintro e w5 ⟨rfl,g5⟩
      clear hpu
      go_wp2_with fail
      (with_reducible refine (yB1 mo ml mc (V:Int) x (u:Int) _ (by omega) (hm.kp g5.kp) (by omega) (by omega) (by omega) (by omega)).mono ?_)
      rintro e w6 ⟨⟨go,k6,c6,rfl,ad,aF⟩,g6⟩
      have ae:Mag w6 go k6 c6 ((V*10 ^ j+u:Nat):Int):=by
       rw [HX.out] at ad
       have e:((V*10 ^ j+u:Nat):Int)=(V:Int)*10 ^ j+(u:Int):=by push_cast;rfl
       rw [e];exact ad
      have aq:k6≤k:=ae.nl.len_sz (show Sz k _ by unfold Sz;rw [Int.natAbs_natCast];exact HVk.out)
      clear ad
      go_wp2
      go_roundw
      case rel=>exact ⟨U,V*10 ^ j+u,go,k6,c6,rfl,rfl,aq,ac,⟨ae,HUd.out,ak.out⟩,(hG.trans g5).trans g6⟩
      case measure=>simp [zS3];omega
   ·have ab:R.size=0:=by omega
    obtain ⟨hm,hda,hval⟩:=hh.out
    have hVn:V=n:=by
     have h2:R.data.toList.length=R.size:=by simp
     have h1:R.data.toList=[]:=List.length_eq_zero_iff.1 (by rw [h2];exact ab)
     rw [h1,ab] at hval
     simpa [zh0] using hval
    rw [hVn] at hm
    have aw:=Lib.hid ab
    clear ab hda hval hh hVn
    have p2:=Gr.heap hG (heap_alloc_new w (.cells #[.bool false,.slice none 0 0] 34))
    go_wp2_with fail
    (with_reducible refine (zj6 (decide (z<0)) mo ml mc (n:Int) _ (by omega) hm.cap hm.nl.nonneg hm.nl.top hm.row).mono ?_)
    rintro e w5 ⟨⟨k5,rfl,af,aE⟩,g5⟩
    have p3:=Gr.heap g5 p2
    have d0:=zb5 p3 0
    have d1:=zb5 p3 1
    have d2:=zm4 p3
    have aj:Gr w w5:=(Gr.alloc w _).trans (hG.trans g5)
    have hint:=IsInt.mk' (z:=z) (s:=decide (z<0)) (k:=k) (af.gr g5) (by rw [HN.out]) (fun _=>rfl) hz
    obtain ⟨bb,hbb⟩:∃ bb,bb=(decide (z<0)&&decide (0<k5)):=⟨_,rfl⟩
    rw [← hbb] at hint ⊢
    clear hbb hm af p2
    go_wp2
    have p4:=za6 (i:=1) (.slice mo k5 mc) (za6 (i:=0) (.bool bb) p3)
    have hst:=(St.setCell w5 w.heap.size 0 (.bool bb)).trans (St.setCell _ w.heap.size 1 (.slice mo k5 mc))
    exact bodyPost_ret (v:=.tuple #[.agg #[.bool bb,.slice mo k5 mc],.int .i64 0]) (za5 _ _ _ rfl rfl p4 (by kernel_rfl) rfl) rfl ⟨⟨_,_,rfl,hint.kp (hst.kp p3 (by decide))⟩,hst.gr aj (Nat.le_refl _)⟩
set_option maxRecDepth 100000 in
set_option maxHeartbeats 4000000 in
theorem zx9 {k m:Nat} (x y:Int) (hx:Sz k x) (hy:Sz m y) (_hy0:0<y) (_hk:k+m≤60000) (w:World):
    Calls Tryz.prog 100 #[(.string ⟨(Lib.itoa (x):List UInt8).toArray⟩),(.string ⟨(Lib.itoa (y):List UInt8).toArray⟩)] w fun e w'=>e=.returned (.string ⟨(za1 (Rat.divInt x y)).toArray⟩)∧Gr w w':=by
 have hs:decide (sgn y<0)=false:=by rw [zK1];simp;omega
 have h0:(0:Int)<y:=by omega
 have hgp:=(zi7 (N:=x) h0).2.2
 have ap:=zl1 (zP4 (N:=x) hx hgp)
 have ar:=zl1 (zP4 (N:=y) hy hgp)
 go_enter Tryz.func100,Tryz.ntmps100
 have hB:=Gr.refl w
 refine wp_seq_k (fun K1 k1=>?_)
 refine rg [0] ?_
 refine sv 4 (.string ⟨([]:List UInt8).toArray⟩) ?_
 refine za0 ?_
 refine k1 _ _ ?_
 try clear k1 K1
 refine wp_seq_k (fun K2 k2=>?_)
 refine wp_seq_k (fun K3 k3=>?_)
 refine rg [0,1,2] ?_
 refine sv 6 (.string ⟨(Lib.itoa (y):List UInt8).toArray⟩) ?_
 refine se ?_
 refine ec 7 (zf5 (y) _) ?_
 rintro e4 w4 ⟨rfl,g4⟩
 refine ⟨_,rfl,?_⟩
 replace hB:=hB.trans g4
 simp only [p3,p4]
 refine sw 8 (.bool false) rfl (RunV.bool (x:=decide (sgn (y)<(0:Int))) (rvk (by kernel_rfl)) hs) ?_
 refine za0 ?_
 refine k3 _ _ ?_
 try clear k3 K3
 refine wp_cond_false rfl ?_
 refine wp_skip ?_
 refine k2 _ _ ?_
 try clear k2 K2
 refine wp_seq_k (fun K5 k5=>?_)
 refine rg [0,1,2,3] ?_
 refine sv 13 (.string ⟨(Lib.itoa (x):List UInt8).toArray⟩) ?_
 refine sv 14 (.string ⟨(Lib.itoa (y):List UInt8).toArray⟩) ?_
 refine se ?_
 refine ec 15 (zP3 (x) (y) hx hy (by omega) _) ?_
 rintro e6 w6 ⟨rfl,g6⟩
 refine ⟨_,rfl,?_⟩
 replace hB:=hB.trans g6
 simp only [p3,p4]
 refine sv 5 (.string ⟨(Lib.itoa ((Int.gcd (x) (y):Int)):List UInt8).toArray⟩) ?_
 refine za0 ?_
 refine k5 _ _ ?_
 try clear k5 K5
 refine wp_seq_k (fun K7 k7=>?_)
 refine rg [0,1,2,3,4,5,6] ?_
 refine sv 17 (.string ⟨(Lib.itoa (x):List UInt8).toArray⟩) ?_
 refine sv 18 (.string ⟨(Lib.itoa ((Int.gcd (x) (y):Int)):List UInt8).toArray⟩) ?_
 refine se ?_
 refine ec 19 (zs3 (x) ((Int.gcd (x) (y):Int)) hx (zT4 hx hy) hgp (by omega) _) ?_
 rintro e8 w8 ⟨rfl,g8⟩
 refine ⟨_,rfl,?_⟩
 replace hB:=hB.trans g8
 simp only [p3,p4]
 refine sv 16 (.tuple #[(.string ⟨(Lib.itoa (x/(Int.gcd (x) (y):Int)):List UInt8).toArray⟩),(.string ⟨(Lib.itoa (x % (Int.gcd (x) (y):Int)):List UInt8).toArray⟩)]) ?_
 refine sv 20 (.string ⟨(Lib.itoa (x/(Int.gcd (x) (y):Int)):List UInt8).toArray⟩) ?_
 refine sv 21 (.string ⟨(Lib.itoa (x % (Int.gcd (x) (y):Int)):List UInt8).toArray⟩) ?_
 refine sv 0 (.string ⟨(Lib.itoa (x/(Int.gcd (x) (y):Int)):List UInt8).toArray⟩) ?_
 refine za0 ?_
 refine k7 _ _ ?_
 try clear k7 K7
 refine wp_seq_k (fun K9 k9=>?_)
 refine rg [0,1,2,3,4,5,6] ?_
 refine sv 23 (.string ⟨(Lib.itoa (y):List UInt8).toArray⟩) ?_
 refine sv 24 (.string ⟨(Lib.itoa ((Int.gcd (x) (y):Int)):List UInt8).toArray⟩) ?_
 refine se ?_
 refine ec 25 (zs3 (y) ((Int.gcd (x) (y):Int)) hy (zT4 hx hy) hgp (by omega) _) ?_
 rintro al aq ⟨rfl,ai⟩
 refine ⟨_,rfl,?_⟩
 replace hB:=hB.trans ai
 simp only [p3,p4]
 refine sv 22 (.tuple #[(.string ⟨(Lib.itoa (y/(Int.gcd (x) (y):Int)):List UInt8).toArray⟩),(.string ⟨(Lib.itoa (y % (Int.gcd (x) (y):Int)):List UInt8).toArray⟩)]) ?_
 refine sv 26 (.string ⟨(Lib.itoa (y/(Int.gcd (x) (y):Int)):List UInt8).toArray⟩) ?_
 refine sv 27 (.string ⟨(Lib.itoa (y % (Int.gcd (x) (y):Int)):List UInt8).toArray⟩) ?_
 refine sv 1 (.string ⟨(Lib.itoa (y/(Int.gcd (x) (y):Int)):List UInt8).toArray⟩) ?_
 refine za0 ?_
 refine k9 _ _ ?_
 try clear k9 K9
 refine wp_seq_k (fun ah ab=>?_)
 refine wp_seq_k (fun aj ae=>?_)
 refine rg [0,1] ?_
 refine sv 28 (.string ⟨(Lib.itoa (y/(Int.gcd (x) (y):Int)):List UInt8).toArray⟩) ?_
 refine sw 29 (.bool (((Lib.itoa (y/(Int.gcd (x) (y):Int)))==([49]:List UInt8)))) rfl (zv6 9 9 _ _ (Lib.itoa (y/(Int.gcd (x) (y):Int))) ([49]) rfl rfl rfl) ?_
 refine za0 ?_
 refine ae _ _ ?_
 try clear ae aj
 refine wp_cond_split (t:=((Lib.itoa (y/(Int.gcd (x) (y):Int)))==([49]:List UInt8))) rfl (fun aa=>?_) (fun aa=>?_)
 ·refine wp_seq_k (fun ak ad=>?_)
  refine rg [0,1] ?_
  refine sv 30 (.string ⟨(Lib.itoa (x/(Int.gcd (x) (y):Int)):List UInt8).toArray⟩) ?_
  refine sv 4 (.string ⟨(Lib.itoa (x/(Int.gcd (x) (y):Int)):List UInt8).toArray⟩) ?_
  refine za0 ?_
  refine ad _ _ ?_
  try clear ad ak
  refine wp_ret ?_
  simp only [Exit.then]
  refine bodyPost_ret (v:=(.string ⟨(Lib.itoa (x/(Int.gcd (x) (y):Int)):List UInt8).toArray⟩)) (zb0 rfl rfl) rfl ⟨?_,hB⟩
  exact (by rw [text_w h0 aa])
 ·refine wp_skip ?_
  refine ab _ _ ?_
  try clear ab ah
  refine wp_seq_k (fun af ac=>?_)
  refine rg [0,1,2,3,4] ?_
  refine sv 31 (.string ⟨(Lib.itoa (x/(Int.gcd (x) (y):Int)):List UInt8).toArray⟩) ?_
  refine sw 32 (.string ⟨((Lib.itoa (x/(Int.gcd (x) (y):Int)))++([47]):List UInt8).toArray⟩) rfl (zD7 9 9 _ _ (Lib.itoa (x/(Int.gcd (x) (y):Int))) ([47]) rfl rfl rfl (by simp only [List.length_cons,List.length_nil];omega)) ?_
  refine sv 33 (.string ⟨(Lib.itoa (y/(Int.gcd (x) (y):Int)):List UInt8).toArray⟩) ?_
  refine sw 34 (.string ⟨(((Lib.itoa (x/(Int.gcd (x) (y):Int)))++([47]))++(Lib.itoa (y/(Int.gcd (x) (y):Int))):List UInt8).toArray⟩) rfl (zD7 9 9 _ _ ((Lib.itoa (x/(Int.gcd (x) (y):Int)))++([47])) (Lib.itoa (y/(Int.gcd (x) (y):Int))) rfl rfl rfl (by simp only [List.length_append,List.length_cons,List.length_nil];omega)) ?_
  refine sv 4 (.string ⟨(((Lib.itoa (x/(Int.gcd (x) (y):Int)))++([47]))++(Lib.itoa (y/(Int.gcd (x) (y):Int))):List UInt8).toArray⟩) ?_
  refine za0 ?_
  refine ac _ _ ?_
  try clear ac af
  refine wp_ret ?_
  refine bodyPost_ret (v:=(.string ⟨(((Lib.itoa (x/(Int.gcd (x) (y):Int)))++([47]))++(Lib.itoa (y/(Int.gcd (x) (y):Int))):List UInt8).toArray⟩)) (zb0 rfl rfl) rfl ⟨?_,hB⟩
  exact (by rw [text_f h0 aa])

set_option maxRecDepth 100000 in
set_option maxHeartbeats 4000000 in
theorem yv0 {k m:Nat} (x y:Int) (hx:Sz k x) (hy:Sz m y) (_hy0:y<0) (_hk:k+m≤60000) (w:World):
    Calls Tryz.prog 100 #[(.string ⟨(Lib.itoa (x):List UInt8).toArray⟩),(.string ⟨(Lib.itoa (y):List UInt8).toArray⟩)] w fun e w'=>e=.returned (.string ⟨(za1 (Rat.divInt x y)).toArray⟩)∧Gr w w':=by
 have hs:decide (sgn y<0)=true:=by rw [zK1];simp;omega
 have h0:(0:Int)< -y:=by omega
 have hgp:=(zi7 (N:=-x) h0).2.2
 have av:=zl1 (zP4 (N:=-x) hx.neg hgp)
 have ax:=zl1 (zP4 (N:=-y) hy.neg hgp)
 go_enter Tryz.func100,Tryz.ntmps100
 have hB:=Gr.refl w
 refine wp_seq_k (fun K1 k1=>?_)
 refine rg [0] ?_
 refine sv 4 (.string ⟨([]:List UInt8).toArray⟩) ?_
 refine za0 ?_
 refine k1 _ _ ?_
 try clear k1 K1
 refine wp_seq_k (fun K2 k2=>?_)
 refine wp_seq_k (fun K3 k3=>?_)
 refine rg [0,1,2] ?_
 refine sv 6 (.string ⟨(Lib.itoa (y):List UInt8).toArray⟩) ?_
 refine se ?_
 refine ec 7 (zf5 (y) _) ?_
 rintro e4 w4 ⟨rfl,g4⟩
 refine ⟨_,rfl,?_⟩
 replace hB:=hB.trans g4
 simp only [p3,p4]
 refine sw 8 (.bool true) rfl (RunV.bool (x:=decide (sgn (y)<(0:Int))) (rvk (by kernel_rfl)) hs) ?_
 refine za0 ?_
 refine k3 _ _ ?_
 try clear k3 K3
 refine wp_cond_true rfl ?_
 refine rg [0,1,2,3,4,5] ?_
 refine sv 9 (.string ⟨(Lib.itoa (x):List UInt8).toArray⟩) ?_
 refine se ?_
 refine ec 10 (yi6 (x) hx (by omega) _) ?_
 rintro e5 w5 ⟨rfl,g5⟩
 refine ⟨_,rfl,?_⟩
 replace hB:=hB.trans g5
 simp only [p3,p4]
 refine sv 11 (.string ⟨(Lib.itoa (y):List UInt8).toArray⟩) ?_
 refine se ?_
 refine ec 12 (yi6 (y) hy (by omega) _) ?_
 rintro e6 w6 ⟨rfl,g6⟩
 refine ⟨_,rfl,?_⟩
 replace hB:=hB.trans g6
 simp only [p3,p4]
 refine sv 0 (.string ⟨(Lib.itoa (-x):List UInt8).toArray⟩) ?_
 refine sv 1 (.string ⟨(Lib.itoa (-y):List UInt8).toArray⟩) ?_
 refine za0 ?_
 refine k2 _ _ ?_
 try clear k2 K2
 refine wp_seq_k (fun K7 k7=>?_)
 refine rg [0,1,2,3] ?_
 refine sv 13 (.string ⟨(Lib.itoa (-x):List UInt8).toArray⟩) ?_
 refine sv 14 (.string ⟨(Lib.itoa (-y):List UInt8).toArray⟩) ?_
 refine se ?_
 refine ec 15 (zP3 (-x) (-y) hx.neg hy.neg (by omega) _) ?_
 rintro e8 w8 ⟨rfl,g8⟩
 refine ⟨_,rfl,?_⟩
 replace hB:=hB.trans g8
 simp only [p3,p4]
 refine sv 5 (.string ⟨(Lib.itoa ((Int.gcd (-x) (-y):Int)):List UInt8).toArray⟩) ?_
 refine za0 ?_
 refine k7 _ _ ?_
 try clear k7 K7
 refine wp_seq_k (fun K9 k9=>?_)
 refine rg [0,1,2,3,4,5,6] ?_
 refine sv 17 (.string ⟨(Lib.itoa (-x):List UInt8).toArray⟩) ?_
 refine sv 18 (.string ⟨(Lib.itoa ((Int.gcd (-x) (-y):Int)):List UInt8).toArray⟩) ?_
 refine se ?_
 refine ec 19 (zs3 (-x) ((Int.gcd (-x) (-y):Int)) hx.neg (zT4 hx.neg hy.neg) hgp (by omega) _) ?_
 rintro ar aw ⟨rfl,al⟩
 refine ⟨_,rfl,?_⟩
 replace hB:=hB.trans al
 simp only [p3,p4]
 refine sv 16 (.tuple #[(.string ⟨(Lib.itoa ((-x)/(Int.gcd (-x) (-y):Int)):List UInt8).toArray⟩),(.string ⟨(Lib.itoa ((-x) % (Int.gcd (-x) (-y):Int)):List UInt8).toArray⟩)]) ?_
 refine sv 20 (.string ⟨(Lib.itoa ((-x)/(Int.gcd (-x) (-y):Int)):List UInt8).toArray⟩) ?_
 refine sv 21 (.string ⟨(Lib.itoa ((-x) % (Int.gcd (-x) (-y):Int)):List UInt8).toArray⟩) ?_
 refine sv 0 (.string ⟨(Lib.itoa ((-x)/(Int.gcd (-x) (-y):Int)):List UInt8).toArray⟩) ?_
 refine za0 ?_
 refine k9 _ _ ?_
 try clear k9 K9
 refine wp_seq_k (fun ak ae=>?_)
 refine rg [0,1,2,3,4,5,6] ?_
 refine sv 23 (.string ⟨(Lib.itoa (-y):List UInt8).toArray⟩) ?_
 refine sv 24 (.string ⟨(Lib.itoa ((Int.gcd (-x) (-y):Int)):List UInt8).toArray⟩) ?_
 refine se ?_
 refine ec 25 (zs3 (-y) ((Int.gcd (-x) (-y):Int)) hy.neg (zT4 hx.neg hy.neg) hgp (by omega) _) ?_
 rintro e12 au ⟨rfl,ah⟩
 refine ⟨_,rfl,?_⟩
 replace hB:=hB.trans ah
 simp only [p3,p4]
 refine sv 22 (.tuple #[(.string ⟨(Lib.itoa ((-y)/(Int.gcd (-x) (-y):Int)):List UInt8).toArray⟩),(.string ⟨(Lib.itoa ((-y) % (Int.gcd (-x) (-y):Int)):List UInt8).toArray⟩)]) ?_
 refine sv 26 (.string ⟨(Lib.itoa ((-y)/(Int.gcd (-x) (-y):Int)):List UInt8).toArray⟩) ?_
 refine sv 27 (.string ⟨(Lib.itoa ((-y) % (Int.gcd (-x) (-y):Int)):List UInt8).toArray⟩) ?_
 refine sv 1 (.string ⟨(Lib.itoa ((-y)/(Int.gcd (-x) (-y):Int)):List UInt8).toArray⟩) ?_
 refine za0 ?_
 refine ae _ _ ?_
 try clear ae ak
 refine wp_seq_k (fun aq ac=>?_)
 refine wp_seq_k (fun ap af=>?_)
 refine rg [0,1] ?_
 refine sv 28 (.string ⟨(Lib.itoa ((-y)/(Int.gcd (-x) (-y):Int)):List UInt8).toArray⟩) ?_
 refine sw 29 (.bool (((Lib.itoa ((-y)/(Int.gcd (-x) (-y):Int)))==([49]:List UInt8)))) rfl (zv6 9 9 _ _ (Lib.itoa ((-y)/(Int.gcd (-x) (-y):Int))) ([49]) rfl rfl rfl) ?_
 refine za0 ?_
 refine af _ _ ?_
 try clear af ap
 refine wp_cond_split (t:=((Lib.itoa ((-y)/(Int.gcd (-x) (-y):Int)))==([49]:List UInt8))) rfl (fun aa=>?_) (fun aa=>?_)
 ·refine wp_seq_k (fun ai ad=>?_)
  refine rg [0,1] ?_
  refine sv 30 (.string ⟨(Lib.itoa ((-x)/(Int.gcd (-x) (-y):Int)):List UInt8).toArray⟩) ?_
  refine sv 4 (.string ⟨(Lib.itoa ((-x)/(Int.gcd (-x) (-y):Int)):List UInt8).toArray⟩) ?_
  refine za0 ?_
  refine ad _ _ ?_
  try clear ad ai
  refine wp_ret ?_
  simp only [Exit.then]
  refine bodyPost_ret (v:=(.string ⟨(Lib.itoa ((-x)/(Int.gcd (-x) (-y):Int)):List UInt8).toArray⟩)) (zb0 rfl rfl) rfl ⟨?_,hB⟩
  exact (by rw [text_w h0 aa];rw [zK3])
 ·refine wp_skip ?_
  refine ac _ _ ?_
  try clear ac aq
  refine wp_seq_k (fun aj ab=>?_)
  refine rg [0,1,2,3,4] ?_
  refine sv 31 (.string ⟨(Lib.itoa ((-x)/(Int.gcd (-x) (-y):Int)):List UInt8).toArray⟩) ?_
  refine sw 32 (.string ⟨((Lib.itoa ((-x)/(Int.gcd (-x) (-y):Int)))++([47]):List UInt8).toArray⟩) rfl (zD7 9 9 _ _ (Lib.itoa ((-x)/(Int.gcd (-x) (-y):Int))) ([47]) rfl rfl rfl (by simp only [List.length_cons,List.length_nil];omega)) ?_
  refine sv 33 (.string ⟨(Lib.itoa ((-y)/(Int.gcd (-x) (-y):Int)):List UInt8).toArray⟩) ?_
  refine sw 34 (.string ⟨(((Lib.itoa ((-x)/(Int.gcd (-x) (-y):Int)))++([47]))++(Lib.itoa ((-y)/(Int.gcd (-x) (-y):Int))):List UInt8).toArray⟩) rfl (zD7 9 9 _ _ ((Lib.itoa ((-x)/(Int.gcd (-x) (-y):Int)))++([47])) (Lib.itoa ((-y)/(Int.gcd (-x) (-y):Int))) rfl rfl rfl (by simp only [List.length_append,List.length_cons,List.length_nil];omega)) ?_
  refine sv 4 (.string ⟨(((Lib.itoa ((-x)/(Int.gcd (-x) (-y):Int)))++([47]))++(Lib.itoa ((-y)/(Int.gcd (-x) (-y):Int))):List UInt8).toArray⟩) ?_
  refine za0 ?_
  refine ab _ _ ?_
  try clear ab aj
  refine wp_ret ?_
  refine bodyPost_ret (v:=(.string ⟨(((Lib.itoa ((-x)/(Int.gcd (-x) (-y):Int)))++([47]))++(Lib.itoa ((-y)/(Int.gcd (-x) (-y):Int))):List UInt8).toArray⟩)) (zb0 rfl rfl) rfl ⟨?_,hB⟩
  exact (by rw [text_f h0 aa];rw [zK3])

set_option maxRecDepth 100000 in
set_option maxHeartbeats 1000000 in
theorem r2_neg {k:Nat} (a:Rat) (ha:Sz k a.num∧Sz k (a.den:Int)) (_hk:k≤19998) (w:World):
    Calls Tryz.prog 115 #[(.string ⟨(za1 (a):List UInt8).toArray⟩)] w fun e w'=>e=.returned (.string ⟨(za1 (-a)).toArray⟩)∧Gr w w':=by
 go_enter Tryz.func115,Tryz.ntmps115
 have hB:=Gr.refl w
 refine wp_seq_k (fun K1 k1=>?_)
 refine rg [0] ?_
 refine sv 2 (.string ⟨([]:List UInt8).toArray⟩) ?_
 refine za0 ?_
 refine k1 _ _ ?_
 try clear k1 K1
 refine wp_seq_k (fun K2 k2=>?_)
 refine rg [0,1,2,3,4,5,6] ?_
 refine sv 6 (.string ⟨(za1 (a):List UInt8).toArray⟩) ?_
 refine se ?_
 refine ec 7 (zh7 (a) ha.1 ha.2 (by omega) _) ?_
 rintro e3 w3 ⟨rfl,g3⟩
 refine ⟨_,rfl,?_⟩
 replace hB:=hB.trans g3
 simp only [p3,p4]
 refine sv 5 (.tuple #[(.string ⟨(Lib.itoa (a.num):List UInt8).toArray⟩),(.string ⟨(Lib.itoa ((a.den:Int)):List UInt8).toArray⟩)]) ?_
 refine sv 8 (.string ⟨(Lib.itoa (a.num):List UInt8).toArray⟩) ?_
 refine sv 9 (.string ⟨(Lib.itoa ((a.den:Int)):List UInt8).toArray⟩) ?_
 refine sv 3 (.string ⟨(Lib.itoa (a.num):List UInt8).toArray⟩) ?_
 refine sv 4 (.string ⟨(Lib.itoa ((a.den:Int)):List UInt8).toArray⟩) ?_
 refine za0 ?_
 refine k2 _ _ ?_
 try clear k2 K2
 refine wp_seq_k (fun K4 k4=>?_)
 refine rg [0,1,2,3,4] ?_
 refine sv 10 (.string ⟨(Lib.itoa (a.num):List UInt8).toArray⟩) ?_
 refine se ?_
 refine ec 11 (yi6 (a.num) ha.1 (by omega) _) ?_
 rintro e5 w5 ⟨rfl,g5⟩
 refine ⟨_,rfl,?_⟩
 replace hB:=hB.trans g5
 simp only [p3,p4]
 refine sv 12 (.string ⟨(Lib.itoa ((a.den:Int)):List UInt8).toArray⟩) ?_
 refine se ?_
 refine ec 13 (zx9 (-a.num) ((a.den:Int)) ha.1.neg ha.2 (zs5 a) (by omega) _) ?_
 rintro e6 w6 ⟨rfl,g6⟩
 refine ⟨_,rfl,?_⟩
 replace hB:=hB.trans g6
 simp only [p3,p4]
 refine sv 2 (.string ⟨(za1 (Rat.divInt (-a.num) ((a.den:Int))):List UInt8).toArray⟩) ?_
 refine za0 ?_
 refine k4 _ _ ?_
 try clear k4 K4
 refine wp_ret ?_
 refine bodyPost_ret (v:=(.string ⟨(za1 (Rat.divInt (-a.num) ((a.den:Int))):List UInt8).toArray⟩)) (zb0 rfl rfl) rfl ⟨?_,hB⟩
 exact (by rw [rat_neg])

set_option maxRecDepth 100000 in
set_option maxHeartbeats 1000000 in
theorem r2_add {k m:Nat} (a b:Rat) (ha:Sz k a.num∧Sz k (a.den:Int)) (hb:Sz m b.num∧Sz m (b.den:Int)) (_hk:k+m≤19998) (w:World):
    Calls Tryz.prog 105 #[(.string ⟨(za1 (a):List UInt8).toArray⟩),(.string ⟨(za1 (b):List UInt8).toArray⟩)] w fun e w'=>e=.returned (.string ⟨(za1 (a+b)).toArray⟩)∧Gr w w':=by
 go_enter Tryz.func105,Tryz.ntmps105
 have hB:=Gr.refl w
 refine wp_seq_k (fun K1 k1=>?_)
 refine rg [0] ?_
 refine sv 4 (.string ⟨([]:List UInt8).toArray⟩) ?_
 refine za0 ?_
 refine k1 _ _ ?_
 try clear k1 K1
 refine wp_seq_k (fun K2 k2=>?_)
 refine rg [0,1,2,3,4,5,6] ?_
 refine sv 10 (.string ⟨(za1 (a):List UInt8).toArray⟩) ?_
 refine se ?_
 refine ec 11 (zh7 (a) ha.1 ha.2 (by omega) _) ?_
 rintro e3 w3 ⟨rfl,g3⟩
 refine ⟨_,rfl,?_⟩
 replace hB:=hB.trans g3
 simp only [p3,p4]
 refine sv 9 (.tuple #[(.string ⟨(Lib.itoa (a.num):List UInt8).toArray⟩),(.string ⟨(Lib.itoa ((a.den:Int)):List UInt8).toArray⟩)]) ?_
 refine sv 12 (.string ⟨(Lib.itoa (a.num):List UInt8).toArray⟩) ?_
 refine sv 13 (.string ⟨(Lib.itoa ((a.den:Int)):List UInt8).toArray⟩) ?_
 refine sv 5 (.string ⟨(Lib.itoa (a.num):List UInt8).toArray⟩) ?_
 refine sv 6 (.string ⟨(Lib.itoa ((a.den:Int)):List UInt8).toArray⟩) ?_
 refine za0 ?_
 refine k2 _ _ ?_
 try clear k2 K2
 refine wp_seq_k (fun K4 k4=>?_)
 refine rg [0,1,2,3,4,5,6] ?_
 refine sv 15 (.string ⟨(za1 (b):List UInt8).toArray⟩) ?_
 refine se ?_
 refine ec 16 (zh7 (b) hb.1 hb.2 (by omega) _) ?_
 rintro e5 w5 ⟨rfl,g5⟩
 refine ⟨_,rfl,?_⟩
 replace hB:=hB.trans g5
 simp only [p3,p4]
 refine sv 14 (.tuple #[(.string ⟨(Lib.itoa (b.num):List UInt8).toArray⟩),(.string ⟨(Lib.itoa ((b.den:Int)):List UInt8).toArray⟩)]) ?_
 refine sv 17 (.string ⟨(Lib.itoa (b.num):List UInt8).toArray⟩) ?_
 refine sv 18 (.string ⟨(Lib.itoa ((b.den:Int)):List UInt8).toArray⟩) ?_
 refine sv 7 (.string ⟨(Lib.itoa (b.num):List UInt8).toArray⟩) ?_
 refine sv 8 (.string ⟨(Lib.itoa ((b.den:Int)):List UInt8).toArray⟩) ?_
 refine za0 ?_
 refine k4 _ _ ?_
 try clear k4 K4
 refine wp_seq_k (fun K6 k6=>?_)
 refine rg [0,1,2,3,4,5,6,7,8,9,10,11] ?_
 refine sv 19 (.string ⟨(Lib.itoa (a.num):List UInt8).toArray⟩) ?_
 refine sv 20 (.string ⟨(Lib.itoa ((b.den:Int)):List UInt8).toArray⟩) ?_
 refine se ?_
 refine ec 21 (zK2 (a.num) ((b.den:Int)) ha.1 hb.2 (by omega) _) ?_
 rintro e7 w7 ⟨rfl,g7⟩
 refine ⟨_,rfl,?_⟩
 replace hB:=hB.trans g7
 simp only [p3,p4]
 refine sv 22 (.string ⟨(Lib.itoa (b.num):List UInt8).toArray⟩) ?_
 refine sv 23 (.string ⟨(Lib.itoa ((a.den:Int)):List UInt8).toArray⟩) ?_
 refine se ?_
 refine ec 24 (zK2 (b.num) ((a.den:Int)) hb.1 ha.2 (by omega) _) ?_
 rintro e8 w8 ⟨rfl,g8⟩
 refine ⟨_,rfl,?_⟩
 replace hB:=hB.trans g8
 simp only [p3,p4]
 refine se ?_
 refine ec 25 (yu9 (a.num*(b.den:Int)) (b.num*(a.den:Int)) (ha.1.mul hb.2) (hb.1.mul ha.2) (by omega) _) ?_
 rintro e9 w9 ⟨rfl,g9⟩
 refine ⟨_,rfl,?_⟩
 replace hB:=hB.trans g9
 simp only [p3,p4]
 refine sv 26 (.string ⟨(Lib.itoa ((a.den:Int)):List UInt8).toArray⟩) ?_
 refine sv 27 (.string ⟨(Lib.itoa ((b.den:Int)):List UInt8).toArray⟩) ?_
 refine se ?_
 refine ec 28 (zK2 ((a.den:Int)) ((b.den:Int)) ha.2 hb.2 (by omega) _) ?_
 rintro ac ad ⟨rfl,aa⟩
 refine ⟨_,rfl,?_⟩
 replace hB:=hB.trans aa
 simp only [p3,p4]
 refine se ?_
 refine ec 29 (zx9 (a.num*(b.den:Int)+b.num*(a.den:Int)) ((a.den:Int)*(b.den:Int)) ((ha.1.mul hb.2).add (hb.1.mul ha.2)) (ha.2.mul hb.2) (zG0 a b) (by omega) _) ?_
 rintro e11 ae ⟨rfl,ab⟩
 refine ⟨_,rfl,?_⟩
 replace hB:=hB.trans ab
 simp only [p3,p4]
 refine sv 4 (.string ⟨(za1 (Rat.divInt (a.num*(b.den:Int)+b.num*(a.den:Int)) ((a.den:Int)*(b.den:Int))):List UInt8).toArray⟩) ?_
 refine za0 ?_
 refine k6 _ _ ?_
 try clear k6 K6
 refine wp_ret ?_
 refine bodyPost_ret (v:=(.string ⟨(za1 (Rat.divInt (a.num*(b.den:Int)+b.num*(a.den:Int)) ((a.den:Int)*(b.den:Int))):List UInt8).toArray⟩)) (zb0 rfl rfl) rfl ⟨?_,hB⟩
 exact (by rw [zT7])

set_option maxRecDepth 100000 in
set_option maxHeartbeats 1000000 in
theorem r2_mul {k m:Nat} (a b:Rat) (ha:Sz k a.num∧Sz k (a.den:Int)) (hb:Sz m b.num∧Sz m (b.den:Int)) (_hk:k+m≤19998) (w:World):
    Calls Tryz.prog 106 #[(.string ⟨(za1 (a):List UInt8).toArray⟩),(.string ⟨(za1 (b):List UInt8).toArray⟩)] w fun e w'=>e=.returned (.string ⟨(za1 (a*b)).toArray⟩)∧Gr w w':=by
 go_enter Tryz.func106,Tryz.ntmps106
 have hB:=Gr.refl w
 refine wp_seq_k (fun K1 k1=>?_)
 refine rg [0] ?_
 refine sv 4 (.string ⟨([]:List UInt8).toArray⟩) ?_
 refine za0 ?_
 refine k1 _ _ ?_
 try clear k1 K1
 refine wp_seq_k (fun K2 k2=>?_)
 refine rg [0,1,2,3,4,5,6] ?_
 refine sv 10 (.string ⟨(za1 (a):List UInt8).toArray⟩) ?_
 refine se ?_
 refine ec 11 (zh7 (a) ha.1 ha.2 (by omega) _) ?_
 rintro e3 w3 ⟨rfl,g3⟩
 refine ⟨_,rfl,?_⟩
 replace hB:=hB.trans g3
 simp only [p3,p4]
 refine sv 9 (.tuple #[(.string ⟨(Lib.itoa (a.num):List UInt8).toArray⟩),(.string ⟨(Lib.itoa ((a.den:Int)):List UInt8).toArray⟩)]) ?_
 refine sv 12 (.string ⟨(Lib.itoa (a.num):List UInt8).toArray⟩) ?_
 refine sv 13 (.string ⟨(Lib.itoa ((a.den:Int)):List UInt8).toArray⟩) ?_
 refine sv 5 (.string ⟨(Lib.itoa (a.num):List UInt8).toArray⟩) ?_
 refine sv 6 (.string ⟨(Lib.itoa ((a.den:Int)):List UInt8).toArray⟩) ?_
 refine za0 ?_
 refine k2 _ _ ?_
 try clear k2 K2
 refine wp_seq_k (fun K4 k4=>?_)
 refine rg [0,1,2,3,4,5,6] ?_
 refine sv 15 (.string ⟨(za1 (b):List UInt8).toArray⟩) ?_
 refine se ?_
 refine ec 16 (zh7 (b) hb.1 hb.2 (by omega) _) ?_
 rintro e5 w5 ⟨rfl,g5⟩
 refine ⟨_,rfl,?_⟩
 replace hB:=hB.trans g5
 simp only [p3,p4]
 refine sv 14 (.tuple #[(.string ⟨(Lib.itoa (b.num):List UInt8).toArray⟩),(.string ⟨(Lib.itoa ((b.den:Int)):List UInt8).toArray⟩)]) ?_
 refine sv 17 (.string ⟨(Lib.itoa (b.num):List UInt8).toArray⟩) ?_
 refine sv 18 (.string ⟨(Lib.itoa ((b.den:Int)):List UInt8).toArray⟩) ?_
 refine sv 7 (.string ⟨(Lib.itoa (b.num):List UInt8).toArray⟩) ?_
 refine sv 8 (.string ⟨(Lib.itoa ((b.den:Int)):List UInt8).toArray⟩) ?_
 refine za0 ?_
 refine k4 _ _ ?_
 try clear k4 K4
 refine wp_seq_k (fun K6 k6=>?_)
 refine rg [0,1,2,3,4,5,6,7] ?_
 refine sv 19 (.string ⟨(Lib.itoa (a.num):List UInt8).toArray⟩) ?_
 refine sv 20 (.string ⟨(Lib.itoa (b.num):List UInt8).toArray⟩) ?_
 refine se ?_
 refine ec 21 (zK2 (a.num) (b.num) ha.1 hb.1 (by omega) _) ?_
 rintro e7 w7 ⟨rfl,g7⟩
 refine ⟨_,rfl,?_⟩
 replace hB:=hB.trans g7
 simp only [p3,p4]
 refine sv 22 (.string ⟨(Lib.itoa ((a.den:Int)):List UInt8).toArray⟩) ?_
 refine sv 23 (.string ⟨(Lib.itoa ((b.den:Int)):List UInt8).toArray⟩) ?_
 refine se ?_
 refine ec 24 (zK2 ((a.den:Int)) ((b.den:Int)) ha.2 hb.2 (by omega) _) ?_
 rintro e8 w8 ⟨rfl,g8⟩
 refine ⟨_,rfl,?_⟩
 replace hB:=hB.trans g8
 simp only [p3,p4]
 refine se ?_
 refine ec 25 (zx9 (a.num*b.num) ((a.den:Int)*(b.den:Int)) (ha.1.mul hb.1) (ha.2.mul hb.2) (zG0 a b) (by omega) _) ?_
 rintro e9 w9 ⟨rfl,g9⟩
 refine ⟨_,rfl,?_⟩
 replace hB:=hB.trans g9
 simp only [p3,p4]
 refine sv 4 (.string ⟨(za1 (Rat.divInt (a.num*b.num) ((a.den:Int)*(b.den:Int))):List UInt8).toArray⟩) ?_
 refine za0 ?_
 refine k6 _ _ ?_
 try clear k6 K6
 refine wp_ret ?_
 refine bodyPost_ret (v:=(.string ⟨(za1 (Rat.divInt (a.num*b.num) ((a.den:Int)*(b.den:Int))):List UInt8).toArray⟩)) (zb0 rfl rfl) rfl ⟨?_,hB⟩
 exact (by rw [zT8])

set_option maxRecDepth 100000 in
set_option maxHeartbeats 1000000 in
theorem r2_sub {k m:Nat} (a b:Rat) (ha:Sz k a.num∧Sz k (a.den:Int)) (hb:Sz m b.num∧Sz m (b.den:Int)) (_hk:k+m≤19998) (w:World):
    Calls Tryz.prog 132 #[(.string ⟨(za1 (a):List UInt8).toArray⟩),(.string ⟨(za1 (b):List UInt8).toArray⟩)] w fun e w'=>e=.returned (.string ⟨(za1 (a - b)).toArray⟩)∧Gr w w':=by
 go_enter Tryz.func132,Tryz.ntmps132
 have hB:=Gr.refl w
 refine wp_seq_k (fun K1 k1=>?_)
 refine rg [0] ?_
 refine sv 4 (.string ⟨([]:List UInt8).toArray⟩) ?_
 refine za0 ?_
 refine k1 _ _ ?_
 try clear k1 K1
 refine wp_seq_k (fun K2 k2=>?_)
 refine rg [0,1,2,3,4] ?_
 refine sv 5 (.string ⟨(za1 (a):List UInt8).toArray⟩) ?_
 refine sv 6 (.string ⟨(za1 (b):List UInt8).toArray⟩) ?_
 refine se ?_
 refine ec 7 (r2_neg (b) hb (by omega) _) ?_
 rintro e3 w3 ⟨rfl,g3⟩
 refine ⟨_,rfl,?_⟩
 replace hB:=hB.trans g3
 simp only [p3,p4]
 refine se ?_
 refine ec 8 (r2_add (a) (-b) ha (yz5 hb) (by omega) _) ?_
 rintro e4 w4 ⟨rfl,g4⟩
 refine ⟨_,rfl,?_⟩
 replace hB:=hB.trans g4
 simp only [p3,p4]
 refine sv 4 (.string ⟨(za1 (a+-b):List UInt8).toArray⟩) ?_
 refine za0 ?_
 refine k2 _ _ ?_
 try clear k2 K2
 refine wp_ret ?_
 refine bodyPost_ret (v:=(.string ⟨(za1 (a+-b):List UInt8).toArray⟩)) (zb0 rfl rfl) rfl ⟨?_,hB⟩
 exact (by rw [Rat.sub_eq_add_neg])

set_option maxRecDepth 100000 in
set_option maxHeartbeats 1000000 in
theorem yo2 {k:Nat} {n0 n1 d0 d1:Value} {N D:Int} {w:World} (hn:IsInt w k n0 n1 N) (hd:IsInt w k d0 d1 D) (_hk:k+k+k+k+k+k+66≤1000000) (_h0:D<0) (hg:(sgn ((Int.gcd ((-N)) ((-D)):Int) - 1) !=0)=false):
    Calls Tryz.prog 95 #[(.agg #[n0,n1]),(.agg #[d0,d1])] w fun e w'=>(∃ x y x2 y2,e=.returned (.agg #[x,y,x2,y2])∧IsInt w' k x y ((-N))∧IsInt w' k x2 y2 ((-D)))∧Gr w w':=by
 go_enter Tryz.func95,Tryz.ntmps95
 have hB:=Gr.refl w
 refine wp_seq_k (fun K1 k1=>?_)
 refine rg [0,1,2] ?_
 refine se ?_
 refine eb 34 #[n0,n1] 2 hB fun b2 w2 g2 L2 o2 q2 hB=>?_
 simp only [p3,p4]
 refine se ?_
 refine eb 34 #[d0,d1] 3 hB fun b3 w3 g3 L3 o3 q3 hB=>?_
 have ak:=L2.ne o3
 simp only [p3,p4]
 refine se ?_
 refine ea 36 #[.bool false,.slice none 0 0,.bool false,.slice none 0 0] 4 hB fun b4 w4 g4 L4 o4 q4 hB=>?_
 replace L2:=L2.gr g3
 have aB:=L2.ne o4
 have az:=L3.ne o4
 simp only [p3,p4]
 refine za0 ?_
 refine k1 _ _ ?_
 try clear k1 K1
 refine wp_seq_k (fun K5 k5=>?_)
 refine wp_seq_k (fun K6 k6=>?_)
 refine rg [0,1,2] ?_
 replace L3:=L3.gr g4
 refine sw 6 (.agg #[d0,d1]) rfl (rl 34 0 [d0,d1] L3) ?_
 refine se ?_
 have a0:=g2.kp.trans (g3.kp.trans g4.kp)
 replace hd:=hd.kp a0
 refine ec 7 (zS2 hd (by omega)) ?_
 rintro e7 w7 ⟨rfl,g7⟩
 refine ⟨_,rfl,?_⟩
 replace hB:=hB.trans g7
 simp only [p3,p4]
 refine sv 8 (.bool true) ?_
 refine za0 ?_
 refine k6 _ _ ?_
 try clear k6 K6
 refine wp_cond_true rfl ?_
 have ab:=Gr.drew w7
 replace hB:=hB.trans ab
 replace L2:=L2.gr (g4.trans (g7.trans ab))
 replace L3:=L3.gr (g7.trans ab)
 refine ze8 (fun _=>True) [([4],(fun w'=>Lc w' b2 #[n0,n1] 34)),([5],(fun w'=>Lc w' b3 #[d0,d1] 34))] [(true,0),(true,2),(false,1),(false,3),(false,4),(false,5)] (by kernel_rfl) (by kernel_rfl) (by kernel_rfl) (by decide) (fun _ _ _ _ _ h=>h) trivial ⟨fun _=>L2,fun _=>L3,trivial⟩ ?_
 refine tw 9 (.agg #[n0,n1]) rfl (fun w' hS=>(rl 34 0 [n0,n1] (hS.2.1 (by kernel_rfl)))) ?_
 refine tw 11 (.agg #[d0,d1]) rfl (fun w' hS=>(rl 34 0 [d0,d1] (hS.2.2.1 (by kernel_rfl)))) ?_
 refine te ?_
 have aO:=g2.kp.trans (g3.kp.trans (g4.kp.trans (g7.kp.trans ab.kp)))
 replace hn:=hn.kp aO
 refine ec 10 (yo6 hn) ?_
 rintro e12 bi ⟨⟨ac,ad,rfl,aj⟩,ay⟩
 refine ⟨_,rfl,?_⟩
 replace hB:=hB.trans ay
 replace L2:=L2.gr ay
 replace L3:=L3.gr ay
 refine ⟨trivial,⟨fun _=>L2,fun _=>L3,trivial⟩,?_⟩
 simp only [p3,p4]
 refine te ?_
 have aQ:=g7.kp.trans (ab.kp.trans ay.kp)
 replace hd:=hd.kp aQ
 refine ec 12 (yo6 hd) ?_
 rintro a9 bh ⟨⟨af,ae,rfl,ai⟩,aI⟩
 refine ⟨_,rfl,?_⟩
 replace hB:=hB.trans aI
 replace L2:=L2.gr aI
 replace L3:=L3.gr aI
 refine ⟨trivial,⟨fun _=>L2,fun _=>L3,trivial⟩,?_⟩
 simp only [p3,p4]
 refine te ?_
 refine es 34 0 (.agg #[ac,ad]) [ac,ad] #[ac,ad] L2 hB q2 ⟨aj.one0,aj.one1,trivial⟩ fun bd aG aD L2 hB=>?_
 replace L3:=aG.lc L3 (Ne.symm ak)
 refine ⟨trivial,⟨zq8 (by kernel_rfl),fun _=>L3,trivial⟩,?_⟩
 refine te ?_
 refine es 34 0 (.agg #[af,ae]) [af,ae] #[af,ae] L3 hB q3 ⟨ai.one0,ai.one1,trivial⟩ fun a6 aA aK L3 hB=>?_
 refine ⟨trivial,⟨zq8 (by kernel_rfl),zq8 (by kernel_rfl),trivial⟩,?_⟩
 refine zB4 ?_
 refine k5 _ _ ?_
 try clear k5 K5
 refine wp_seq_k (fun a2 aT=>?_)
 refine rg [0,1,2,3,4] ?_
 replace L2:=aA.lc L2 ak
 refine sw 13 (.agg #[ac,ad]) rfl (rl 34 0 [ac,ad] L2) ?_
 refine sw 14 (.agg #[af,ae]) rfl (rl 34 0 [af,ae] L3) ?_
 refine se ?_
 have aM:=aI.kp.trans (aD.trans aK)
 replace aj:=aj.kp aM
 have aR:=aD.trans aK
 replace ai:=ai.kp aR
 refine ec 15 (yd3 aj ai (by omega)) ?_
 rintro e22 bf ⟨⟨aw,ax,rfl,aJ⟩,aF⟩
 refine ⟨_,rfl,?_⟩
 replace hB:=hB.trans aF
 simp only [p3,p4]
 refine se ?_
 refine ea 34 #[.bool false,.slice none 0 0] 5 hB fun a5 bg aC ah aN a3 hB=>?_
 replace L2:=L2.gr aF
 have aq:=L2.ne aN
 replace L3:=L3.gr aF
 have au:=L3.ne aN
 replace L4:=(aA.lc (aG.lc (L4.gr (g7.trans (ab.trans (ay.trans aI)))) (Ne.symm aB)) (Ne.symm az)).gr aF
 have ap:=L4.ne aN
 simp only [p3,p4]
 refine se ?_
 refine es 34 0 (.agg #[aw,ax]) [aw,ax] #[aw,ax] ah hB a3 ⟨aJ.one0,aJ.one1,trivial⟩ fun a1 ar aE ah hB=>?_
 refine za0 ?_
 refine aT _ _ ?_
 try clear aT a2
 refine wp_seq_k (fun aZ aV=>?_)
 refine wp_seq_k (fun a4 aS=>?_)
 have aa:=Gr.drew a1
 replace hB:=hB.trans aa
 replace ah:=ah.gr aa
 refine za3 (fun w'=>Lc w' a5 #[aw,ax] 34) [(true,0),(false,1),(false,2),(true,3)] (by kernel_rfl) (by kernel_rfl) (by kernel_rfl) (by decide) (fun _ _ _ _ _ h=>h) ah ?_
 refine ow 16 (.agg #[aw,ax]) rfl (fun w' hS=>(rl 34 0 [aw,ax] hS)) ?_
 refine oe ?_
 refine ec 17 (zI1 _) ?_
 rintro bk a8 ⟨⟨a7,bj,rfl,aX⟩,al⟩
 refine ⟨_,rfl,?_⟩
 replace hB:=hB.trans al
 replace ah:=ah.gr al
 refine ⟨ah,?_⟩
 simp only [p3,p4]
 refine oe ?_
 have aP:=aC.kp.trans (aE.trans (aa.kp.trans al.kp))
 replace aJ:=aJ.kp aP
 refine ec 18 (ze5 aJ aX (by omega) (by omega)) ?_
 rintro bb bc ⟨rfl,av⟩
 refine ⟨_,rfl,?_⟩
 replace hB:=hB.trans av
 replace ah:=ah.gr av
 refine ⟨ah,?_⟩
 simp only [p3,p4]
 refine ow 19 (.bool false) rfl (fun w' hS=>(RunV.bool (x:=(sgn ((Int.gcd ((-N)) ((-D)):Int) - 1) !=(0:Int))) (rvk (by kernel_rfl)) hg)) ?_
 refine zc0 ?_
 refine aS _ _ ?_
 try clear aS a4
 refine wp_cond_false rfl ?_
 refine wp_skip ?_
 refine aV _ _ ?_
 try clear aV aZ
 refine wp_seq_k (fun aW aU=>?_)
 refine rg [0,1,2,3] ?_
 replace L2:=(ar.lc (L2.gr aC) aq).gr (aa.trans (al.trans av))
 refine sw 34 (.agg #[ac,ad]) rfl (rl 34 0 [ac,ad] L2) ?_
 replace L3:=(ar.lc (L3.gr aC) au).gr (aa.trans (al.trans av))
 refine sw 35 (.agg #[af,ae]) rfl (rl 34 0 [af,ae] L3) ?_
 refine sv 36 (.agg #[ac,ad,af,ae]) ?_
 refine se ?_
 replace L4:=(ar.lc (L4.gr aC) ap).gr (aa.trans (al.trans av))
 refine es 36 0 (.agg #[ac,ad,af,ae]) [ac,ad,af,ae] #[ac,ad,af,ae] L4 hB q4 ⟨aj.one0,aj.one1,ai.one0,ai.one1,trivial⟩ fun ba aY aL L4 hB=>?_
 refine za0 ?_
 refine aU _ _ ?_
 try clear aU aW
 refine wp_ret ?_
 refine bodyPost_ret (v:=(.agg #[ac,ad,af,ae])) (zb3 _ _ _ rfl rfl L4 (by kernel_rfl)) rfl ⟨?_,hB⟩
 have aH:=aF.kp.trans (aC.kp.trans (aE.trans (aa.kp.trans (al.kp.trans (av.kp.trans aL)))))
 replace aj:=aj.kp aH
 replace ai:=ai.kp aH
 exact ⟨_,_,_,_,rfl,aj,ai⟩

set_option maxRecDepth 100000 in
set_option maxHeartbeats 1000000 in
theorem yo3 {k:Nat} {n0 n1 d0 d1:Value} {N D:Int} {w:World} (hn:IsInt w k n0 n1 N) (hd:IsInt w k d0 d1 D) (_hk:k+k+k+k+k+k+66≤1000000) (_h0:D<0) (hg:(sgn ((Int.gcd ((-N)) ((-D)):Int) - 1) !=0)=true) (hxn:0<(Int.gcd ((-N)) ((-D)):Int)∧(Int.gcd ((-N)) ((-D)):Int)∣(-N)) (_hxd:0<(Int.gcd ((-N)) ((-D)):Int)∧(Int.gcd ((-N)) ((-D)):Int)∣(-D)):
    Calls Tryz.prog 95 #[(.agg #[n0,n1]),(.agg #[d0,d1])] w fun e w'=>(∃ x y x2 y2,e=.returned (.agg #[x,y,x2,y2])∧IsInt w' k x y ((-N)/(Int.gcd ((-N)) ((-D)):Int))∧IsInt w' k x2 y2 ((-D)/(Int.gcd ((-N)) ((-D)):Int)))∧Gr w w':=by
 go_enter Tryz.func95,Tryz.ntmps95
 have hB:=Gr.refl w
 refine wp_seq_k (fun K1 k1=>?_)
 refine rg [0,1,2] ?_
 refine se ?_
 refine eb 34 #[n0,n1] 2 hB fun b2 w2 g2 L2 o2 q2 hB=>?_
 simp only [p3,p4]
 refine se ?_
 refine eb 34 #[d0,d1] 3 hB fun b3 w3 g3 L3 o3 q3 hB=>?_
 have ac:=L2.ne o3
 simp only [p3,p4]
 refine se ?_
 refine ea 36 #[.bool false,.slice none 0 0,.bool false,.slice none 0 0] 4 hB fun b4 w4 g4 L4 o4 q4 hB=>?_
 replace L2:=L2.gr g3
 have au:=L2.ne o4
 have ar:=L3.ne o4
 simp only [p3,p4]
 refine za0 ?_
 refine k1 _ _ ?_
 try clear k1 K1
 refine wp_seq_k (fun K5 k5=>?_)
 refine wp_seq_k (fun K6 k6=>?_)
 refine rg [0,1,2] ?_
 replace L3:=L3.gr g4
 refine sw 6 (.agg #[d0,d1]) rfl (rl 34 0 [d0,d1] L3) ?_
 refine se ?_
 have bo:=g2.kp.trans (g3.kp.trans g4.kp)
 replace hd:=hd.kp bo
 refine ec 7 (zS2 hd (by omega)) ?_
 rintro e7 w7 ⟨rfl,g7⟩
 refine ⟨_,rfl,?_⟩
 replace hB:=hB.trans g7
 simp only [p3,p4]
 refine sv 8 (.bool true) ?_
 refine za0 ?_
 refine k6 _ _ ?_
 try clear k6 K6
 refine wp_cond_true rfl ?_
 have ad:=Gr.drew w7
 replace hB:=hB.trans ad
 replace L2:=L2.gr (g4.trans (g7.trans ad))
 replace L3:=L3.gr (g7.trans ad)
 refine ze8 (fun _=>True) [([4],(fun w'=>Lc w' b2 #[n0,n1] 34)),([5],(fun w'=>Lc w' b3 #[d0,d1] 34))] [(true,0),(true,2),(false,1),(false,3),(false,4),(false,5)] (by kernel_rfl) (by kernel_rfl) (by kernel_rfl) (by decide) (fun _ _ _ _ _ h=>h) trivial ⟨fun _=>L2,fun _=>L3,trivial⟩ ?_
 refine tw 9 (.agg #[n0,n1]) rfl (fun w' hS=>(rl 34 0 [n0,n1] (hS.2.1 (by kernel_rfl)))) ?_
 refine tw 11 (.agg #[d0,d1]) rfl (fun w' hS=>(rl 34 0 [d0,d1] (hS.2.2.1 (by kernel_rfl)))) ?_
 refine te ?_
 have a4:=g2.kp.trans (g3.kp.trans (g4.kp.trans (g7.kp.trans ad.kp)))
 replace hn:=hn.kp a4
 refine ec 10 (yo6 hn) ?_
 rintro e12 bP ⟨⟨ay,aA,rfl,ax⟩,aO⟩
 refine ⟨_,rfl,?_⟩
 replace hB:=hB.trans aO
 replace L2:=L2.gr aO
 replace L3:=L3.gr aO
 refine ⟨trivial,⟨fun _=>L2,fun _=>L3,trivial⟩,?_⟩
 simp only [p3,p4]
 refine te ?_
 have a7:=g7.kp.trans (ad.kp.trans aO.kp)
 replace hd:=hd.kp a7
 refine ec 12 (yo6 hd) ?_
 rintro bD bO ⟨⟨aF,aC,rfl,aw⟩,aZ⟩
 refine ⟨_,rfl,?_⟩
 replace hB:=hB.trans aZ
 replace L2:=L2.gr aZ
 replace L3:=L3.gr aZ
 refine ⟨trivial,⟨fun _=>L2,fun _=>L3,trivial⟩,?_⟩
 simp only [p3,p4]
 refine te ?_
 refine es 34 0 (.agg #[ay,aA]) [ay,aA] #[ay,aA] L2 hB q2 ⟨ax.one0,ax.one1,trivial⟩ fun bJ aW aS L2 hB=>?_
 replace L3:=aW.lc L3 (Ne.symm ac)
 refine ⟨trivial,⟨zq8 (by kernel_rfl),fun _=>L3,trivial⟩,?_⟩
 refine te ?_
 refine es 34 0 (.agg #[aF,aC]) [aF,aC] #[aF,aC] L3 hB q3 ⟨aw.one0,aw.one1,trivial⟩ fun bz aP a0 L3 hB=>?_
 refine ⟨trivial,⟨zq8 (by kernel_rfl),zq8 (by kernel_rfl),trivial⟩,?_⟩
 refine zB4 ?_
 refine k5 _ _ ?_
 try clear k5 K5
 refine wp_seq_k (fun bu bd=>?_)
 refine rg [0,1,2,3,4] ?_
 replace L2:=aP.lc L2 ac
 refine sw 13 (.agg #[ay,aA]) rfl (rl 34 0 [ay,aA] L2) ?_
 refine sw 14 (.agg #[aF,aC]) rfl (rl 34 0 [aF,aC] L3) ?_
 refine se ?_
 have a2:=aZ.kp.trans (aS.trans a0)
 replace ax:=ax.kp a2
 have a9:=aS.trans a0
 replace aw:=aw.kp a9
 refine ec 15 (yd3 ax aw (by omega)) ?_
 rintro e22 bK ⟨⟨al,ap,rfl,ak⟩,aM⟩
 refine ⟨_,rfl,?_⟩
 replace hB:=hB.trans aM
 simp only [p3,p4]
 refine se ?_
 refine ea 34 #[.bool false,.slice none 0 0] 5 hB fun bx bL aL ab a3 bv hB=>?_
 replace L2:=L2.gr aM
 have aj:=L2.ne a3
 replace L3:=L3.gr aM
 have aK:=L3.ne a3
 replace L4:=(aP.lc (aW.lc (L4.gr (g7.trans (ad.trans (aO.trans aZ)))) (Ne.symm au)) (Ne.symm ar)).gr aM
 have aG:=L4.ne a3
 simp only [p3,p4]
 refine se ?_
 refine es 34 0 (.agg #[al,ap]) [al,ap] #[al,ap] ab hB bv ⟨ak.one0,ak.one1,trivial⟩ fun bq aI aE ab hB=>?_
 refine za0 ?_
 refine bd _ _ ?_
 try clear bd bu
 refine wp_seq_k (fun bn bg=>?_)
 refine wp_seq_k (fun bw bc=>?_)
 have aa:=Gr.drew bq
 replace hB:=hB.trans aa
 replace ab:=ab.gr aa
 refine za3 (fun w'=>Lc w' bx #[al,ap] 34) [(true,0),(false,1),(false,2),(true,3)] (by kernel_rfl) (by kernel_rfl) (by kernel_rfl) (by decide) (fun _ _ _ _ _ h=>h) ab ?_
 refine ow 16 (.agg #[al,ap]) rfl (fun w' hS=>(rl 34 0 [al,ap] hS)) ?_
 refine oe ?_
 refine ec 17 (zI1 _) ?_
 rintro bS bC ⟨⟨bA,bQ,rfl,bk⟩,av⟩
 refine ⟨_,rfl,?_⟩
 replace hB:=hB.trans av
 replace ab:=ab.gr av
 refine ⟨ab,?_⟩
 simp only [p3,p4]
 refine oe ?_
 have a6:=aL.kp.trans (aE.trans (aa.kp.trans av.kp))
 replace ak:=ak.kp a6
 refine ec 18 (ze5 ak bk (by omega) (by omega)) ?_
 rintro bG bH ⟨rfl,aq⟩
 refine ⟨_,rfl,?_⟩
 replace hB:=hB.trans aq
 replace ab:=ab.gr aq
 refine ⟨ab,?_⟩
 simp only [p3,p4]
 refine ow 19 (.bool true) rfl (fun w' hS=>(RunV.bool (x:=(sgn ((Int.gcd ((-N)) ((-D)):Int) - 1) !=(0:Int))) (rvk (by kernel_rfl)) hg)) ?_
 refine zc0 ?_
 refine bc _ _ ?_
 try clear bc bw
 refine wp_cond_true rfl ?_
 refine wp_seq_k (fun bj bf=>?_)
 refine rg [0,1,2,3,4,5,6,7] ?_
 replace L2:=(aI.lc (L2.gr aL) aj).gr (aa.trans (av.trans aq))
 refine sw 21 (.agg #[ay,aA]) rfl (rl 34 0 [ay,aA] L2) ?_
 refine sw 22 (.agg #[al,ap]) rfl (rl 34 0 [al,ap] ab) ?_
 refine se ?_
 have a5:=aM.kp.trans (aL.kp.trans (aE.trans (aa.kp.trans (av.kp.trans aq.kp))))
 replace ax:=ax.kp a5
 replace ak:=ak.kp aq.kp
 refine ec 23 (zy2 ax ak hxn.1 (by omega)) ?_
 rintro bT bF ⟨⟨af,ai,aX,aR,rfl,az,bp⟩,aJ⟩
 refine ⟨_,rfl,?_⟩
 replace hB:=hB.trans aJ
 simp only [p3,p4]
 refine sv 20 (.tuple #[(.agg #[af,ai]),(.agg #[aX,aR]),.int .i64 0]) ?_
 refine sv 24 (.agg #[af,ai]) ?_
 refine sv 25 (.agg #[aX,aR]) ?_
 refine sv 26 (.int .i64 0) ?_
 refine se ?_
 replace L2:=L2.gr aJ
 refine es 34 0 (.agg #[af,ai]) [af,ai] #[af,ai] L2 hB q2 ⟨az.one0,az.one1,trivial⟩ fun bE aD aH L2 hB=>?_
 refine za0 ?_
 refine bf _ _ ?_
 try clear bf bj
 refine rg [0,1,2,3,4,5,6,7] ?_
 replace L3:=aD.lc ((aI.lc (L3.gr aL) aK).gr (aa.trans (av.trans (aq.trans aJ)))) (Ne.symm ac)
 refine sw 28 (.agg #[aF,aC]) rfl (rl 34 0 [aF,aC] L3) ?_
 replace ab:=aD.lc (ab.gr aJ) (Ne.symm aj)
 refine sw 29 (.agg #[al,ap]) rfl (rl 34 0 [al,ap] ab) ?_
 refine se ?_
 have bb:=aM.kp.trans (aL.kp.trans (aE.trans (aa.kp.trans (av.kp.trans (aq.kp.trans (aJ.kp.trans aH))))))
 replace aw:=aw.kp bb
 have a1:=aJ.kp.trans aH
 replace ak:=ak.kp a1
 refine ec 30 (zy2 aw ak hxn.1 (by omega)) ?_
 rintro bR bM ⟨⟨ae,ah,aV,aN,rfl,aB,bt⟩,aU⟩
 refine ⟨_,rfl,?_⟩
 replace hB:=hB.trans aU
 simp only [p3,p4]
 refine sv 27 (.tuple #[(.agg #[ae,ah]),(.agg #[aV,aN]),.int .i64 0]) ?_
 refine sv 31 (.agg #[ae,ah]) ?_
 refine sv 32 (.agg #[aV,aN]) ?_
 refine sv 33 (.int .i64 0) ?_
 refine se ?_
 replace L3:=L3.gr aU
 refine es 34 0 (.agg #[ae,ah]) [ae,ah] #[ae,ah] L3 hB q3 ⟨aB.one0,aB.one1,trivial⟩ fun bB aY aT L3 hB=>?_
 refine za0 ?_
 refine bg _ _ ?_
 try clear bg bn
 refine wp_seq_k (fun bm bh=>?_)
 refine rg [0,1,2,3] ?_
 replace L2:=aY.lc (L2.gr aU) ac
 refine sw 34 (.agg #[af,ai]) rfl (rl 34 0 [af,ai] L2) ?_
 refine sw 35 (.agg #[ae,ah]) rfl (rl 34 0 [ae,ah] L3) ?_
 refine sv 36 (.agg #[af,ai,ae,ah]) ?_
 refine se ?_
 replace L4:=aY.lc ((aD.lc ((aI.lc (L4.gr aL) aG).gr (aa.trans (av.trans (aq.trans aJ)))) (Ne.symm au)).gr aU) (Ne.symm ar)
 refine es 36 0 (.agg #[af,ai,ae,ah]) [af,ai,ae,ah] #[af,ai,ae,ah] L4 hB q4 ⟨az.one0,az.one1,aB.one0,aB.one1,trivial⟩ fun bN bi aQ L4 hB=>?_
 refine za0 ?_
 refine bh _ _ ?_
 try clear bh bm
 refine wp_ret ?_
 refine bodyPost_ret (v:=(.agg #[af,ai,ae,ah])) (zb3 _ _ _ rfl rfl L4 (by kernel_rfl)) rfl ⟨?_,hB⟩
 have a8:=aH.trans (aU.kp.trans (aT.trans aQ))
 replace az:=az.kp a8
 have ba:=aT.trans aQ
 replace aB:=aB.kp ba
 exact ⟨_,_,_,_,rfl,az,aB⟩

theorem yz7 {k m:Nat} (K:Nat) {n0 n1 d0 d1:Value} {N D:Int} {w:World} (hn:IsInt w k n0 n1 N) (hd:IsInt w m d0 d1 D) (h0:D≠0) (h1:k≤K) (h2:m≤K) (h3:64≤K) (h4:8*K≤1000000):
  Calls Tryz.prog 95 #[.agg #[n0,n1],.agg #[d0,d1]] w fun e w'=>(∃ c0 c1 c2 c3,e=.returned (.agg #[c0,c1,c2,c3])∧IsRat w' K c0 c1 c2 c3 (Rat.divInt N D))∧Gr w w':=by
 rcases Int.lt_or_gt_of_ne h0 with hneg | hpos
 ·have hN:=hn.mono h1
  have hD:=hd.mono h2
  have hp:0< -D:=by omega
  have e0:Rat.divInt N D=Rat.divInt (-N) (-D):=(Rat.neg_divInt_neg N D).symm
  have en:(Rat.divInt N D).num=(-N)/(Int.gcd (-N) (-D):Int):=by
   rw [e0,Rat.num_divInt,Int.sign_eq_one_of_pos hp,Int.one_mul,Int.gcd_comm]
  have ed:((Rat.divInt N D).den:Int)=(-D)/(Int.gcd (-N) (-D):Int):=by
   rw [e0,Rat.den_divInt,if_neg (by omega),Int.gcd_comm,Int.natCast_ediv]
   congr 1
   omega
  have ab:0<(Int.gcd (-N) (-D):Int):=by
   have:Int.gcd (-N) (-D)≠0:=by rw [Ne,Int.gcd_eq_zero_iff];omega
   omega
  by_cases hg:(Int.gcd (-N) (-D):Int)=1
  ·refine (yo2 hN hD (by omega) hneg (by rw [hg];rfl)).mono ?_
   rintro e w1 ⟨⟨x,y,x2,y2,he,hi,aa⟩,g⟩
   rw [hg,Int.ediv_one] at en ed
   exact ⟨⟨x,y,x2,y2,he,by rw [en];exact hi,⟨_,aa,.inl ed.symm⟩,h3⟩,g⟩
  ·have hb:(sgn ((Int.gcd (-N) (-D):Int) - 1) !=0)=true:=by
    have:sgn ((Int.gcd (-N) (-D):Int) - 1)≠0:=fun h=>hg (by have:=zc4.1 h;omega)
    simpa using this
   refine (yo3 hN hD (by omega) hneg hb ⟨ab,Int.gcd_dvd_left ..⟩ ⟨ab,Int.gcd_dvd_right ..⟩).mono ?_
   rintro e w1 ⟨⟨x,y,x2,y2,he,hi,aa⟩,g⟩
   exact ⟨⟨x,y,x2,y2,he,by rw [en];exact hi,⟨_,aa,.inl ed.symm⟩,h3⟩,g⟩
 ·exact zs6 K hn hd hpos h1 h2 h3 h4
end Go.Proofs.YtaldbfflkpgfoaaGreatDoor
