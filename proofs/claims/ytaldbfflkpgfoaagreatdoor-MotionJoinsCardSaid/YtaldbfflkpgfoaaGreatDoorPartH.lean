/- Joined of: Gen138. -/
import Derived.Test.YtaldbfflkpgfoaaGreatDoorPartF
import Derived.Test.YtaldbfflkpgfoaaGreatDoorPartG
namespace Go.Proofs.YtaldbfflkpgfoaaGreatDoor
open Go.RowKit

theorem zW9 (s:List UInt8) (m:Nat):0≤ck2 s m∧ck2 s m≤20:=by
 unfold ck2
 split
 ·decide
 split
 ·decide
 split
 ·decide
 split
 ·decide
 split<;>decide
def fe (X Y Z:List UInt8):Int:=yn0 (ck2 X 400) (ck2 Y 400) (ck2 Z 400)
theorem fe_le (X Y Z:List UInt8):0≤fe X Y Z∧fe X Y Z≤20:=by
 have a:=zW9 X 400;have b:=zW9 Y 400;have c:=zW9 Z 400
 unfold fe yn0
 split
 ·split
  ·exact c
  ·exact b
 ·exact a
noncomputable def pq (E:Int) (X:List UInt8):Rat:=if E=0 then Classical.epsilon fun a=>X=za1 a else 0
theorem zH9 (a:Rat):pq 0 (za1 a)=a:=by
 unfold pq
 rw [if_pos rfl]
 exact ratL_inj (Classical.epsilon_spec (p:=fun b=>za1 a=za1 b) ⟨a,rfl⟩).symm
noncomputable def cVPa:ConT:=fun args nr _=>match args with
 | [.so (.vg [.cw X _,.cw Y _,.cw Z _])]=>some (.as (decide (X.length≤500∧Y.length≤500∧Z.length≤500)) (.leaf (.st [.vg (zm3 nr [(2000,pq (fe X Y Z) X),(2000,pq (fe X Y Z) Y),(2000,pq (fe X Y Z) Z)]),.vc (.ci .i64 (fe X Y Z) 0 20)]) 3 0))
 | _=>none
theorem yc8 {n:Nn} {X:Env} {w w':World} {e:Ending} {l:List (Nat × Rat)} {z lo hi:Int} (h:(∃ vs:List Value,e=.returned (.tuple #[.agg vs.toArray,.int .i64 z])∧IsRats w' vs l)∧Gr w w') (hz:lo≤z∧z≤hi):(Tr.leaf (.st [.vg (zm3 n.r l),.vc (.ci .i64 z lo hi)]) l.length 0).holds n X w e w':=by
 obtain ⟨X',h1,h2,h3,h4⟩:=zq0 (n:=n) (X:=X) h
 refine ⟨X',h1,h2,h3,fun x hx=>?_⟩
 simp only [List.mem_cons,List.not_mem_nil,or_false] at hx
 rcases hx with rfl | rfl
 ·exact h4 _ (by simp)
 ·exact ⟨rfl,hz⟩
def zrat:List Cl:=[.cb false (some false),.cv (.slice none 0 0),.cb false (some false),.cv (.slice none 0 0)]
noncomputable def cPara:ConT:=fun args nr _=>match args with
 | [.so (.vc (.cw X _))]=>some (.as (decide (X.length≤500)) (.br (ck2 X 400 !=0) (.leaf (.st [.vg zrat,.vc (.ci .i64 (ck2 X 400) 0 20)]) 0 0) (.leaf (ratE nr 2000 (pq 0 X) 0) 1 0)))
 | _=>none
theorem zrat_ok (n:Nn) (X:Env) (w:World):okL n X w zrat:=fun c hc=>by
 unfold zrat at hc
 simp only [List.mem_cons,List.not_mem_nil,or_false] at hc
 rcases hc with rfl | rfl | rfl | rfl<;>refine ⟨rfl,?_⟩<;>first | rfl | (intro v hv;cases hv;rfl)
theorem cPara_ok {I:World→Prop} (hI:∀ w,I w→Mx w):ConOK Tryz.prog I 94 cPara:=by
 intro args E n w T hw ha hT hp
 unfold cPara at hT
 split at hT
 ·rename_i X _
  cases hT
  have hl:=of_decide_eq_true hp.1
  refine (show Calls Tryz.prog 94 #[.string ⟨X.toArray⟩] w _ from ?_)
  by_cases h:ck2 X 400=0
  ·have hf:(ck2 X 400 !=0)=false:=by rw [h];rfl
   obtain ⟨a,rfl,aa,ab⟩:=zq1 h (by omega)
   refine (zI2 (k:=2000) a aa (by decide) (by decide) ab w (hI w hw)).mono fun e w' he=>⟨fun hb=>?_,fun _=>?_⟩
   ·rw [hf] at hb;cases hb
   ·rw [zH9];exact zu7 he
  ·have hf:(ck2 X 400 !=0)=true:=by simpa using h
   refine (yo4 X (by omega) h w (hI w hw)).mono fun e w' he=>⟨fun _=>zb4 he fun x hx=>?_,fun hb=>?_⟩
   ·simp only [List.mem_cons,List.not_mem_nil,or_false] at hx
    rcases hx with rfl | rfl
    ·exact zrat_ok n E w'
    ·exact ⟨rfl,zW9 X 400⟩
   ·rw [hf] at hb;cases hb
 ·cases hT
noncomputable def tabVp:List (Nat × List (Nat × Ent)):=[(57,[]),
 (93,[])]
noncomputable def conVp:List (Nat × ConT):=[(94,cPara)]
noncomputable def sysVp:Sys:=⟨Tryz.prog,2,199,tabVp,conVp,Mx⟩
theorem sysVp_ok:sysVp.OK where
 mixed:=by kernel_rfl
 calls:=fun f h0 h1=>by
  have:(List.range 199).all (fun f=>Nat.blt f 2||okCall Tryz.prog f)=true:=by kernel_rfl
  have:=List.all_eq_true.1 this f (List.mem_range.2 h1)
  simp only [Bool.or_eq_true] at this
  exact this.resolve_left (fun e=>by have:=ze7 e;exact absurd h0 (by show ¬ 2≤f;omega))
 tab:=by
  have:tabVp.all (okTab Tryz.prog)=true:=by kernel_rfl
  exact fun x hx=>List.all_eq_true.1 this x hx
 lps:=zv8 (by kernel_rfl)
 con:=fun x hx=>by
  simp only [sysVp,conVp,List.mem_cons,List.not_mem_nil,or_false] at hx
  rcases hx with rfl
  ·exact cPara_ok fun w h=>h
 inv:=fun w w' h g=>h.gr g
def zvec (e:Int):Lf:=.ret (.st [.vg (zrat++(zrat++(zrat++[]))),.vc (.ci .i64 e 0 20)])
def pa1 (X:List UInt8) (l:Lf):Lf:=.as (decide (X.length≤500)) true (.br (ck2 X 400 !=0) (.as (ck2 X 400 !=0) true (zvec (ck2 X 400))) l)
noncomputable def treeVp (X Y Z:List UInt8):Lf:=pa1 X (pa1 Y (pa1 Z (.ret (.st [.vg (zm3 0 [(2000,pq 0 X),(2000,pq 0 Y),(2000,pq 0 Z)]),.vc (.ci .i64 0 0 0)]))))
theorem runVp (X Y Z:List UInt8) (dx dy dz:Option (Nat × Rat)):zV9 sysVp 57 [.so (.vg [.cw X dx,.cw Y dy,.cw Z dz])] 0 0 (.s (.t .e) (.s (.t .e) (.s (.t .e) .e)))=some (treeVp X Y Z):=by kernel_rfl
noncomputable def vpL (X Y Z:List UInt8):List (Nat × Rat):=[(2000,pq (fe X Y Z) X),(2000,pq (fe X Y Z) Y),(2000,pq (fe X Y Z) Z)]
def VpP (X Y Z:List UInt8) (v:SV):Prop:=∃ l lo hi r,v=.st [.vg l,.vc (.ci .i64 (fe X Y Z) lo hi)]∧rats l=some r∧Conv r (vpL X Y Z)
theorem yt8 {P:SV→Prop} {X:List UInt8} {l:Lf} (hl:X.length≤500) (h1:ck2 X 400≠0→LOK P (zvec (ck2 X 400))) (h2:ck2 X 400=0→LOK P l):LOK P (pa1 X l):=
 ⟨decide_eq_true hl,fun h=>⟨h,h1 (by simpa using h)⟩,fun h=>h2 (by simpa using h)⟩
theorem yc9 {X Y Z:List UInt8} {e:Int} (h:fe X Y Z=e) (h0:e≠0):LOK (VpP X Y Z) (zvec e):=by
 refine ⟨_,0,20,[(64,0),(64,0),(64,0)],by rw [h],rfl,?_⟩
 have z:∀ X,pq e X=0:=fun X=>if_neg h0
 have r6:RS 64 (0:Rat):=⟨Nat.two_pow_pos _,Nat.one_lt_two_pow (by decide)⟩
 have r0:RS 2000 (0:Rat):=r6.mono (by decide)
 unfold vpL
 rw [h,z,z,z]
 exact ⟨⟨rfl,r0,by decide⟩,⟨rfl,r0,by decide⟩,⟨rfl,r0,by decide⟩,trivial⟩
theorem yt9 {X Y Z:List UInt8} (hl:X.length≤500∧Y.length≤500∧Z.length≤500):LOK (VpP X Y Z) (treeVp X Y Z):=by
 refine yt8 hl.1 (fun h=>yc9 (if_neg h) h) fun hx=>yt8 hl.2.1 (fun h=>yc9 ((if_pos hx).trans (if_neg h)) h) fun hy=>yt8 hl.2.2 (fun h=>yc9 ((if_pos hx).trans (if_pos hy)) h) fun hz=>?_
 have e:fe X Y Z=0:=(if_pos hx).trans ((if_pos hy).trans hz)
 refine ⟨_,0,0,_,by rw [e],rfl,?_⟩
 have pr:∀ {X:List UInt8},ck2 X 400=0→X.length≤500→RS 2000 (pq 0 X):=fun {X} hx hl=>by
  obtain ⟨a,rfl,ha,_⟩:=zq1 hx (by omega)
  rw [zH9];exact ha
 unfold vpL
 rw [e]
 exact ⟨⟨rfl,pr hx hl.1,by decide⟩,⟨rfl,pr hy hl.2.1,by decide⟩,⟨rfl,pr hz hl.2.2,by decide⟩,trivial⟩
theorem zR6 {I:World→Prop} (hI:∀ w,I w→Mx w):ConOK Tryz.prog I 57 cVPa:=by
 intro args E n w T hw ha hT hp
 unfold cVPa at hT
 split at hT
 ·rename_i X dx Y dy Z dz
  cases hT
  have g:=fun c hc=>(ha _ (List.mem_singleton.2 rfl) c hc)
  refine (zc8 sysVp sysVp_ok (runVp X Y Z dx dy dz) (X:=E) (hI w hw) (okF1 (zf6 ⟨⟨rfl,(g (.cw X dx) (by simp)).2⟩,⟨rfl,(g (.cw Y dy) (by simp)).2⟩,⟨rfl,(g (.cw Z dz) (by simp)).2⟩,trivial⟩)) (yt9 (of_decide_eq_true hp.1))).mono fun e w' he=>yc8 ?_ (fe_le X Y Z)
  obtain ⟨v,X',m,rfl,g,_,hv,l,lo,hi,r,rfl,hr,hc⟩:=he
  exact ⟨⟨_,rfl,(zC8 hr (hv (.vg l) (by simp))).conv hc⟩,g⟩
 ·cases hT
noncomputable def sysCa:Sys:=⟨Tryz.prog,2,199,[(15,yn8)],[(57,cVPa)],Mx⟩
theorem sysCa_ok:sysCa.OK where
 mixed:=by kernel_rfl
 calls:=fun f h0 h1=>by
  have:(List.range 199).all (fun f=>Nat.blt f 2||okCall Tryz.prog f)=true:=by kernel_rfl
  have:=List.all_eq_true.1 this f (List.mem_range.2 h1)
  simp only [Bool.or_eq_true] at this
  exact this.resolve_left (fun e=>by have:=ze7 e;exact absurd h0 (by show ¬ 2≤f;omega))
 tab:=by
  have:[(15,yn8)].all (okTab Tryz.prog)=true:=by kernel_rfl
  exact fun x hx=>List.all_eq_true.1 this x hx
 lps:=fun x hx fn c h2 hb=>by
  have:x=(15,yn8):=List.mem_singleton.1 hx
  subst this
  have:fn=Tryz.f15:=Option.some.inj (h2.symm.trans Tryz.func15)
  subst this
  have:c=(Tryz.f15.body).getD .skip:=by rw [hb];rfl
  subst this
  repeat' first | exact trivial | exact yt3 | refine ⟨?_,?_⟩
 con:=fun x hx=>by
  have:x=(57,cVPa):=List.mem_singleton.1 hx
  subst this
  exact zR6 fun w h=>h
 inv:=fun w w' h g=>h.gr g
def absw (q:Int):Int:=if IntKind.i64.wrap (0 - q)>q then IntKind.i64.wrap (0 - q) else q
def rgn (q:Int) (l:Lf):Lf:=.br (decide (q< -12)) (re 2) (.br (decide (12<q)) (re 2) l)
def finA (X Y Z:List UInt8):Lf:=.as (decide (X.length≤500∧Y.length≤500∧Z.length≤500)) true (.ret (.so (.vc (.ci .i64 (fe X Y Z) 0 20))))
def treeCa (q0 q1 q2 q3:Int) (X Y Z:List UInt8):Lf:=.br (zx0 [q0,q1,q2,q3] [0,0,0,0]) (re 19) (rgn q0 (rgn q1 (rgn q2 (rgn q3 (treeG absw (finA X Y Z) q0 q1 q2 q3)))))
theorem runCa (q0 q1 q2 q3:Int) (X Y Z:List UInt8) (dx dy dz:Option (Nat × Rat)):zV9 sysCa 15 [.so (.vg [.ci .i64 q0 (-9223372036854775808) 9223372036854775807,.ci .i64 q1 (-9223372036854775808) 9223372036854775807,.ci .i64 q2 (-9223372036854775808) 9223372036854775807,.ci .i64 q3 (-9223372036854775808) 9223372036854775807,.cw X dx,.cw Y dy,.cw Z dz])] 0 0 (.s .e (.s .e (.s .e (.s .e (.s .e (.s .e (.s .e (.s .e (.s .e (.s (.s (.s (.s .e (.s .e .e)) (.s .e (.s .e .e))) (.f (.s .e (.s .e .e)))) (.f (.f (.s .e (.s .e .e))))))))))))))=some (treeCa q0 q1 q2 q3 X Y Z):=by kernel_rfl
theorem zD4 {P:SV→Prop} {q:Int} {l:Lf} (h1:¬(-12≤q∧q≤12)→LOK P (re 2)) (h2:-12≤q∧q≤12→LOK P l):LOK P (rgn q l):=
 ⟨fun h=>h1 (by have:=of_decide_eq_true h;omega),fun h=>⟨fun k=>h1 (by have:=of_decide_eq_true k;omega),fun k=>h2 (by have:=of_decide_eq_false h;have:=of_decide_eq_false k;omega)⟩⟩
theorem yu0 {qq0 qq1 qq2 qq3:Int} {X Y Z:List UInt8} (hl:X.length≤500∧Y.length≤500∧Z.length≤500):LOK (CkP (chk qq0 qq1 qq2 qq3 (fe X Y Z))) (treeCa qq0 qq1 qq2 qq3 X Y Z):=by
 refine ⟨fun h=>zr4 ?_,fun h=>?_⟩
 ·rw [yn9] at h;unfold chk;rw [if_pos (of_decide_eq_true h)]
 ·rw [yn9] at h
  have hz:=of_decide_eq_false h
  unfold chk
  rw [if_neg hz]
  refine zD4 (fun h=>zr4 (by rw [if_pos fun g=>h g.1])) fun i0=>zD4 (fun h=>zr4 (by rw [if_pos fun g=>h g.2.1])) fun i1=>zD4 (fun h=>zr4 (by rw [if_pos fun g=>h g.2.2.1])) fun i2=>zD4 (fun h=>zr4 (by rw [if_pos fun g=>h g.2.2.2])) fun i3=>?_
  rw [if_neg (by simp only [Classical.not_not];exact ⟨i0,i1,i2,i3⟩)]
  exact yi2 i0 i1 i2 i3 (fun q h=>by unfold absw;rw [IntKind.wrap_i64];split<;>omega) hz ⟨decide_eq_true hl,_,_,rfl⟩
theorem yu1 {q0 q1 q2 q3 E:Int} (h:0≤E∧E≤20):0≤chk q0 q1 q2 q3 E∧chk q0 q1 q2 q3 E≤20:=by
 unfold chk
 split
 ·decide
 split
 ·decide
 split
 ·decide
 ·exact h
def cChA:ConT:=fun args _ _=>match args with
 | [.so (.vg [.ci .i64 q0 _ _,.ci .i64 q1 _ _,.ci .i64 q2 _ _,.ci .i64 q3 _ _,.cw X _,.cw Y _,.cw Z _])]=>some (.as (decide (((-9223372036854775808≤q0∧q0≤9223372036854775807)∧(-9223372036854775808≤q1∧q1≤9223372036854775807)∧(-9223372036854775808≤q2∧q2≤9223372036854775807)∧(-9223372036854775808≤q3∧q3≤9223372036854775807))∧X.length≤500∧Y.length≤500∧Z.length≤500)) (.leaf (.so (.vc (.ci .i64 (chk q0 q1 q2 q3 (fe X Y Z)) 0 20))) 0 0))
 | _=>none
theorem yd0 {I:World→Prop} (hI:∀ w,I w→Mx w):ConOK Tryz.prog I 15 cChA:=by
 intro args E n w T hw ha hT hp
 unfold cChA at hT
 split at hT
 ·rename_i q0 _ _ q1 _ _ q2 _ _ q3 _ _ X dx Y dy Z dz
  cases hT
  obtain ⟨⟨h0,h1,h2,h3⟩,hl⟩:=of_decide_eq_true hp.1
  have g:=fun c hc=>(ha _ (List.mem_singleton.2 rfl) c hc)
  refine (zc8 sysCa sysCa_ok (runCa q0 q1 q2 q3 X Y Z dx dy dz) (X:=E) (hI w hw) (okF1 (zf6 ⟨⟨rfl,h0⟩,⟨rfl,h1⟩,⟨rfl,h2⟩,⟨rfl,h3⟩,⟨rfl,(g (.cw X dx) (by simp)).2⟩,⟨rfl,(g (.cw Y dy) (by simp)).2⟩,⟨rfl,(g (.cw Z dz) (by simp)).2⟩,trivial⟩)) (yu0 hl)).mono fun e w' he=>?_
  obtain ⟨v,X',m,rfl,g,_,_,lo,hi,rfl⟩:=he
  exact zb4 ⟨rfl,g⟩ ⟨rfl,yu1 (fe_le X Y Z)⟩
 ·cases hT
def cCk2:ConT:=fun args _ _=>match args with
 | [.so (.vc (.cw X _)),.so (.vc (.ci .i64 m _ _))]=>some (.as (decide (X.length≤500∧m=400)) (.leaf (.so (.vc (.ci .i64 (ck2 X 400) 0 20))) 0 0))
 | _=>none
theorem cCk2_ok {I:World→Prop}:ConOK Tryz.prog I 92 cCk2:=by
 intro args E n w T _ ha hT hp
 unfold cCk2 at hT
 split at hT
 ·rename_i X _ m _ _
  cases hT
  obtain ⟨hl,rfl⟩:=of_decide_eq_true hp.1
  have:=r2_check ⟨X.toArray⟩ 400 w (by show X.toArray.size≤_;simp;omega) (by decide)
  exact this.mono fun e w' he=>zb4 he ⟨rfl,zW9 X 400⟩
 ·cases hT
def i12 (q0 q1 q2 q3:Int):Bool:=decide ((-12≤q0∧q0≤12)∧(-12≤q1∧q1≤12)∧(-12≤q2∧q2≤12)∧(-12≤q3∧q3≤12))
def cComm:ConT:=fun args _ _=>match args with
 | [.so (.vg [.ci .i64 q0 _ _,.ci .i64 q1 _ _,.ci .i64 q2 _ _,.ci .i64 q3 _ _])]=>some (.as (i12 q0 q1 q2 q3) (.leaf (.so (.vc (.ci .i64 (qgcd q0 q1 q2 q3) 0 12))) 0 0))
 | _=>none
theorem cComm_ok {I:World→Prop}:ConOK Tryz.prog I 54 cComm:=by
 intro args E n w T _ ha hT hp
 unfold cComm at hT
 split at hT
 ·rename_i q0 _ _ q1 _ _ q2 _ _ q3 _ _
  cases hT
  obtain ⟨h0,h1,h2,h3⟩:=of_decide_eq_true hp.1
  refine (zI4 q0 q1 q2 q3 (by omega) (by omega) (by omega) (by omega) w).mono fun e w' he=>zb4 he ⟨rfl,zw3 ..,?_⟩
  obtain ⟨d0,d1,d2,d3⟩:=zl3 q0 q1 q2 q3
  have le:∀ {q:Int},qgcd q0 q1 q2 q3∣q→q≠0→-12≤q∧q≤12→qgcd q0 q1 q2 q3≤12:=fun {q} d h hb=>by
   have:=Nat.le_of_dvd (Int.natAbs_pos.2 h) (Int.natAbs_dvd_natAbs.2 d)
   have:=zw3 q0 q1 q2 q3
   omega
  by_cases z0:q0=0
  ·by_cases z1:q1=0
   ·by_cases z2:q2=0
    ·by_cases z3:q3=0
     ·subst z0 z1 z2 z3;decide
     ·exact le d3 z3 h3
    ·exact le d2 z2 h2
   ·exact le d1 z1 h1
  ·exact le d0 z0 h0
 ·cases hT
def cPosi:ConT:=fun args _ _=>match args with
 | [.so (.vg [.ci .i64 q0 _ _,.ci .i64 q1 _ _,.ci .i64 q2 _ _,.ci .i64 q3 _ _])]=>some (.leaf (.so (.vc (.cb (decide (qsgn q0 q1 q2 q3=1)) none))) 0 0)
 | _=>none
theorem cPosi_ok {I:World→Prop}:ConOK Tryz.prog I 55 cPosi:=by
 intro args E n w T _ ha hT hp
 unfold cPosi at hT
 split at hT
 ·rename_i q0 _ _ q1 _ _ q2 _ _ q3 _ _
  cases hT
  exact (zw0 q0 q1 q2 q3 w).mono fun e w' he=>zb4 he ⟨rfl,fun v e=>by cases e⟩
 ·cases hT
noncomputable def tabRc:List (Nat × List (Nat × Ent)):=[(13,[]),
 (56,[])]
noncomputable def conRc:List (Nat × ConT):=[(92,cCk2),
 (54,cComm),
 (55,cPosi)]
noncomputable def sysRc:Sys:=⟨Tryz.prog,2,199,tabRc,conRc,Mx⟩
theorem sysRc_ok:sysRc.OK where
 mixed:=by kernel_rfl
 calls:=fun f h0 h1=>by
  have:(List.range 199).all (fun f=>Nat.blt f 2||okCall Tryz.prog f)=true:=by kernel_rfl
  have:=List.all_eq_true.1 this f (List.mem_range.2 h1)
  simp only [Bool.or_eq_true] at this
  exact this.resolve_left (fun e=>by have:=ze7 e;exact absurd h0 (by show ¬ 2≤f;omega))
 tab:=by
  have:tabRc.all (okTab Tryz.prog)=true:=by kernel_rfl
  exact fun x hx=>List.all_eq_true.1 this x hx
 lps:=zv8 (by kernel_rfl)
 con:=fun x hx=>by
  simp only [sysRc,conRc,List.mem_cons,List.not_mem_nil,or_false] at hx
  rcases hx with rfl | rfl | rfl
  ·exact cCk2_ok
  ·exact cComm_ok
  ·exact cPosi_ok
 inv:=fun w w' h g=>h.gr g
def ckA (X:List UInt8) (l:Lf):Lf:=.as (decide (X.length≤500∧(400:Int)=400)) true (.br (ck2 X 400 !=0) (.ret (.so (.vc (.ci .i64 (ck2 X 400) 0 20)))) l)
def treeRc (q0 q1 q2 q3:Int) (X Y Z:List UInt8):Lf:=.br (zx0 [q0,q1,q2,q3] [0,0,0,0]) (re 19) (rgn q0 (rgn q1 (rgn q2 (rgn q3 (.as (i12 q0 q1 q2 q3) true (.br (qgcd q0 q1 q2 q3 !=1) (re 3) (.br (decide (qsgn q0 q1 q2 q3=1)) (ckA X (ckA Y (ckA Z (re 0)))) (re 3))))))))
theorem runRc (q0 q1 q2 q3:Int) (X Y Z:List UInt8) (dx dy dz:Option (Nat × Rat)):zV9 sysRc 13 [.so (.vg [.ci .i64 q0 (-9223372036854775808) 9223372036854775807,.ci .i64 q1 (-9223372036854775808) 9223372036854775807,.ci .i64 q2 (-9223372036854775808) 9223372036854775807,.ci .i64 q3 (-9223372036854775808) 9223372036854775807,.cw X dx,.cw Y dy,.cw Z dz])] 0 0 (.s .e (.s .e (.s .e (.s .e (.s .e (.s .e (.s .e (.s .e (.s .e (.s .e (.s (.s .e (.s .e (.s .e .e))) .e)))))))))))=some (treeRc q0 q1 q2 q3 X Y Z):=by kernel_rfl
theorem yu2 {E:Int} {X:List UInt8} {l:Lf} (hl:X.length≤500) (h1:ck2 X 400≠0→E=ck2 X 400) (h2:ck2 X 400=0→LOK (CkP E) l):LOK (CkP E) (ckA X l):=
 ⟨decide_eq_true ⟨hl,rfl⟩,fun h=>⟨0,20,by rw [h1 (by simpa using h)]⟩,fun h=>h2 (by simpa using h)⟩
theorem yu3 {q0 q1 q2 q3:Int} {X Y Z:List UInt8} (hl:X.length≤500∧Y.length≤500∧Z.length≤500):LOK (CkP (chk q0 q1 q2 q3 (fe X Y Z))) (treeRc q0 q1 q2 q3 X Y Z):=by
 refine ⟨fun h=>zr4 ?_,fun h=>?_⟩
 ·rw [yn9] at h;unfold chk;rw [if_pos (of_decide_eq_true h)]
 ·rw [yn9] at h
  have hz:=of_decide_eq_false h
  unfold chk
  rw [if_neg hz]
  refine zD4 (fun h=>zr4 (by rw [if_pos fun g=>h g.1])) fun i0=>zD4 (fun h=>zr4 (by rw [if_pos fun g=>h g.2.1])) fun i1=>zD4 (fun h=>zr4 (by rw [if_pos fun g=>h g.2.2.1])) fun i2=>zD4 (fun h=>zr4 (by rw [if_pos fun g=>h g.2.2.2])) fun i3=>?_
  rw [if_neg (by simp only [Classical.not_not];exact ⟨i0,i1,i2,i3⟩)]
  refine ⟨decide_eq_true ⟨i0,i1,i2,i3⟩,fun h=>zr4 (by rw [if_pos];rintro ⟨h1,_⟩;rw [h1] at h;exact absurd h (by decide)),fun hg=>⟨fun hs=>?_,fun hs=>zr4 (by rw [if_pos];rintro ⟨_,h1⟩;exact of_decide_eq_false hs h1)⟩⟩
  rw [if_neg (by simp only [Classical.not_not];exact ⟨by simpa using hg,of_decide_eq_true hs⟩)]
  exact yu2 hl.1 (fun h=>if_neg h) fun hx=>yu2 hl.2.1 (fun h=>(if_pos hx).trans (if_neg h)) fun hy=>yu2 hl.2.2 (fun _=>(if_pos hx).trans (if_pos hy)) fun hz=>zr4 ((if_pos hx).trans ((if_pos hy).trans hz)).symm
theorem cRCh_ok {I:World→Prop} (hI:∀ w,I w→Mx w):ConOK Tryz.prog I 13 cChA:=by
 intro args E n w T hw ha hT hp
 unfold cChA at hT
 split at hT
 ·rename_i q0 _ _ q1 _ _ q2 _ _ q3 _ _ X dx Y dy Z dz
  cases hT
  obtain ⟨⟨h0,h1,h2,h3⟩,hl⟩:=of_decide_eq_true hp.1
  have g:=fun c hc=>(ha _ (List.mem_singleton.2 rfl) c hc)
  refine (zc8 sysRc sysRc_ok (runRc q0 q1 q2 q3 X Y Z dx dy dz) (X:=E) (hI w hw) (okF1 (zf6 ⟨⟨rfl,h0⟩,⟨rfl,h1⟩,⟨rfl,h2⟩,⟨rfl,h3⟩,⟨rfl,(g (.cw X dx) (by simp)).2⟩,⟨rfl,(g (.cw Y dy) (by simp)).2⟩,⟨rfl,(g (.cw Z dz) (by simp)).2⟩,trivial⟩)) (yu3 hl)).mono fun e w' he=>?_
  obtain ⟨v,X',m,rfl,g,_,_,lo,hi,rfl⟩:=he
  exact zb4 ⟨rfl,g⟩ ⟨rfl,yu1 (fe_le X Y Z)⟩
 ·cases hT
def pl3 (X Y Z:List UInt8):Bool:=zk9 X&&(zk9 Y&&zk9 Z)
def cPln:ConT:=fun args _ _=>match args with
 | [.so (.vg [.ci .i64 _ _ _,.ci .i64 _ _ _,.ci .i64 _ _ _,.ci .i64 _ _ _,.cw X _,.cw Y _,.cw Z _])]=>some (.as (decide ((X.length:Int)≤9223372036854775807∧(Y.length:Int)≤9223372036854775807∧(Z.length:Int)≤9223372036854775807)) (.leaf (.so (.vc (.cb (pl3 X Y Z) none))) 0 0))
 | _=>none
theorem cPln_ok {I:World→Prop}:ConOK Tryz.prog I 12 cPln:=by
 intro args E n w T hw ha hT hp
 unfold cPln at hT
 split at hT
 ·rename_i q0 _ _ q1 _ _ q2 _ _ q3 _ _ X dx Y dy Z dz
  cases hT
  obtain ⟨lx,ly,lz⟩:=of_decide_eq_true hp.1
  exact (plain7 q0 q1 q2 q3 X Y Z lx ly lz w).mono fun e w' he=>zb4 he ⟨rfl,fun v e=>by cases e⟩
 ·cases hT
end Go.Proofs.YtaldbfflkpgfoaaGreatDoor
