/- Joined of: Gen235, RowAllocationLimits. -/
import Derived.Test.YtjhflekncldflaaGreatDoorPartG
import Derived.Test.YtjhflekncldflaaGreatDoorCards
import Derived.Test.YtjhflekncldflaaGreatDoorTie
import Derived.Test.YtjhflekncldflaaGreatDoorPartA
namespace Go.Proofs.YtjhflekncldflaaGreatDoor
set_option maxRecDepth 100000
set_option maxHeartbeats 8000000
open Go.RowKit

theorem limits_w {kd mr:Int} (_jk:0≤kd∧kd≤255) (_jm:0≤mr∧mr≤255) {kk mo:Nat} (hkk:kd % 4=(kk:Int)) (hmo:mr % 2=(mo:Int)) (cJ:kk<4) (bV:mo<2) {w:World} (hm:Mx w) (ht:Tab w):
    Calls Tryz.prog 5 #[.int .u8 (kd),.int .u8 (mr)] w fun e w'=>e=.returned (.bool true)∧Gr w w':=by
 go_enter Tryz.func5,Tryz.ntmps5
 have hB:=Gr.refl w
 refine wp_seq_k (fun gI eT=>rg [0] (sv 4 (.bool false) ?_))
 refine za0 (eT _ _ ?_)
 refine wp_seq_k (fun gd eU=>wp_seq_k (fun ge fd=>rg [0,1] ?_))
 refine se ?_
 refine ec 15 (known43 (hm.gr hB) (ht.gr hB)) ?_
 rintro gx f6 ⟨rfl,fA⟩
 refine ⟨_,rfl,?_⟩
 replace hB:=hB.trans fA
 simp only [p3,p4]
 refine sv 16 (.bool false) (za0 (fd _ _ ?_))
 refine wp_cond_false rfl ?_
 refine wp_skip ?_
 refine eU _ _ ?_
 refine wp_seq_k (fun f0 eM=>rg [0,1,2,3] (sv 17 (.int .u8 (mr)) ?_))
 refine sw 18 (.int .u8 (mo:Int)) rfl (RunV.int (x:=Int.tmod (mr) 2) (y:=(mo:Int)) (rvk (by kernel_rfl)) (by rw [Int.tmod_eq_emod_of_nonneg (by omega)];exact hmo)) ?_
 refine sw 19 (iT (mo:Int)) rfl (rwI (mo:Int)) ?_
 refine sv 5 (iT (mo:Int)) (za0 (eM _ _ ?_))
 refine wp_seq_k (fun gc d8=>rg [0,1,2] (sv 20 (.agg #[iT 0,iT 0,iT 0]) ?_))
 refine se ?_
 refine ea 68 #[iT 0,iT 0,iT 0] 6 hB fun aN gT gE af gh d5 hB=>?_
 simp only [p3,p4]
 refine se ?_
 refine es 68 0 (.agg #[iT 0,iT 0,iT 0]) [iT 0,iT 0,iT 0] #[iT 0,iT 0,iT 0] af hB d5 ⟨rfl,rfl,rfl,trivial⟩ fun gM dR ed af hB=>?_
 refine za0 (d8 _ _ ?_)
 refine wp_seq_k (fun gm d6=>rg [0] ?_)
 refine se ?_
 refine ea 26 #[sN,sN,sN] 7 hB fun ar gP cC ad dO bM hB=>?_
 have ak:=af.ne dO
 simp only [p3,p4]
 refine za0 (d6 _ _ ?_)
 refine wp_seq_k (fun gs eG=>rg [0] (sv 8 (iT 1) ?_))
 refine za0 (eG _ _ ?_)
 refine zz9 (fun a w'=>∃ (dm:Nat) (al:Nat→Value),a=⟨[.int .u8 (kd),.int .u8 (mr),undef,undef,.bool false,iT (mo:Int),pT aN 0,pT ar 0,iT (dm:Int),undef,undef,undef,undef,undef,undef,al 15,.bool false,al 17,al 18,al 19,al 20,al 21,al 22,al 23,al 24,al 25,al 26,al 27,al 28,al 29,al 30,undef,undef,undef,undef,undef,undef,undef,undef,undef,undef,undef,undef,undef,undef,undef,undef,undef,undef,undef,undef,undef,undef,undef,undef,undef,undef,undef,undef,undef,undef,undef,undef,undef,undef,undef,undef,undef,undef,undef,undef,undef,undef,undef,undef,undef,undef,undef,undef,undef,undef,undef,undef,undef,undef,undef,undef,undef,undef,undef,undef,undef,undef,undef,undef,undef,undef,undef,undef,undef,undef,undef,undef,undef,undef,undef,undef,undef,undef,undef,undef,undef,undef,undef,undef,undef,undef,undef,undef,undef,undef,undef,undef,undef,undef,undef,undef,undef,undef,undef,undef,undef,undef,undef,undef,undef,undef,undef].toArray,[]⟩∧dm=zO1 kk mo∧Lc w' aN #[iT 0,iT 0,iT 0] 68∧Lc w' ar #[sN,sN,sN] 26∧Gr w w') (fun fZ cE=>?_) ?_
 ·refine wp_seq_k (fun fV fO=>rg [0,1] (sv 21 (.int .u8 (kd)) ?_))
  refine sw 22 (.int .u8 (kk:Int)) rfl (RunV.int (x:=Int.tmod (kd) 4) (y:=(kk:Int)) (rvk (by kernel_rfl)) (by rw [Int.tmod_eq_emod_of_nonneg (by omega)];exact hkk)) ?_
  refine za0 (fO _ _ ?_)
  refine wp_block ?_
  refine wp_seq_k (fun gg fo=>rg [0,1] (sv 24 (.bool ((kk:Int)==(0:Int))) ?_))
  refine sv 23 (.bool ((kk:Int)==(0:Int))) (za0 (fo _ _ ?_))
  refine wp_cond_split rfl (fun bp=>?_) (fun bp=>?_)
  ·have eu:kk=0:=by have:=beq_iff_eq.1 bp;omega
   refine rg [0,1,2] (sv 25 (iT (mo:Int)) ?_)
   refine sw 26 (iT ((12+mo:Nat):Int)) rfl (rwI ((12:Int)+(mo:Int))) ?_
   refine sv 8 (iT ((12+mo:Nat):Int)) ?_
   refine za0 ?_
   replace af:=af.gr cC
   refine cE ⟨List.toArray ?l25,[]⟩ _ ?_
   exact ⟨12+mo,(fun i=>List.getD ?l25 i undef),rfl,(by unfold zO1;(repeat' split)<;>omega),af,ad,hB⟩
  have eu:¬ kk=0:=by have:=beq_eq_false_iff_ne.1 bp;omega
  refine wp_seq_k (fun gi dV=>rg [0,1] (sv 28 (.bool ((kk:Int)==(1:Int))) ?_))
  refine sv 27 (.bool ((kk:Int)==(1:Int))) (za0 (dV _ _ ?_))
  refine wp_cond_split rfl (fun bm=>?_) (fun bm=>?_)
  ·have dv:kk=1:=by have:=beq_iff_eq.1 bm;omega
   refine rg [0] (sv 8 (iT 4) ?_)
   refine za0 ?_
   replace af:=af.gr cC
   refine cE ⟨List.toArray ?l28,[]⟩ _ ?_
   exact ⟨4,(fun i=>List.getD ?l28 i undef),rfl,(by unfold zO1;(repeat' split)<;>omega),af,ad,hB⟩
  have dv:¬ kk=1:=by have:=beq_eq_false_iff_ne.1 bm;omega
  refine wp_seq_k (fun f9 fD=>rg [0,1] (sv 30 (.bool ((kk:Int)==(3:Int))) ?_))
  refine sv 29 (.bool ((kk:Int)==(3:Int))) (za0 (fD _ _ ?_))
  refine wp_cond_split rfl (fun a6=>?_) (fun a6=>?_)
  ·have bW:kk=3:=by have:=beq_iff_eq.1 a6;omega
   refine rg [0] (sv 8 (iT 3) ?_)
   refine za0 ?_
   replace af:=af.gr cC
   refine cE ⟨List.toArray ?l31,[]⟩ _ ?_
   exact ⟨3,(fun i=>List.getD ?l31 i undef),rfl,(by unfold zO1;(repeat' split)<;>omega),af,ad,hB⟩
  have bW:¬ kk=3:=by have:=beq_eq_false_iff_ne.1 a6;omega
  refine wp_skip ?_
  replace af:=af.gr cC
  refine cE ⟨List.toArray ?l32,[]⟩ _ ?_
  exact ⟨1,(fun i=>List.getD ?l32 i undef),rfl,(by unfold zO1;(repeat' split)<;>omega),af,ad,hB⟩
 rintro gL gp ⟨dm,al,rfl,hdm,af,ad,hB⟩
 have hdb:dm≤13:=by rw [hdm];exact (limD_b bV).2
 refine wp_seq_k (fun gW fK=>wp_seq_k (fun f2 e5=>rg [0] (sv 9 (iT 0) ?_)))
 refine za0 (e5 _ _ ?_)
 refine wp_block ?_
 refine zb1 (a:=⟨List.toArray ?l35,[]⟩) (fun n a w'=>∃ (i:Nat) (vd:Value) (vo:Value) (ae:Nat→Value),dm - i=n∧a=⟨[.int .u8 (kd),.int .u8 (mr),undef,undef,.bool false,iT (mo:Int),pT aN 0,pT ar 0,iT (dm:Int),iT (i:Int),ae 10,ae 11,ae 12,undef,undef,ae 15,.bool false,ae 17,ae 18,ae 19,ae 20,ae 21,al 22,al 23,ae 24,ae 25,ae 26,al 27,ae 28,al 29,ae 30,ae 31,ae 32,ae 33,ae 34,ae 35,ae 36,ae 37,ae 38,ae 39,ae 40,ae 41,ae 42,ae 43,ae 44,ae 45,ae 46,ae 47,ae 48,ae 49,ae 50,ae 51,ae 52,ae 53,ae 54,ae 55,ae 56,ae 57,ae 58,ae 59,ae 60,ae 61,ae 62,ae 63,ae 64,ae 65,ae 66,ae 67,ae 68,ae 69,ae 70,ae 71,ae 72,ae 73,undef,undef,undef,undef,undef,undef,undef,undef,undef,undef,undef,undef,undef,undef,undef,undef,undef,undef,undef,undef,undef,undef,undef,undef,undef,undef,undef,undef,undef,undef,undef,undef,undef,undef,undef,undef,undef,undef,undef,undef,undef,undef,undef,undef,undef,undef,undef,undef,undef,undef,undef,undef,undef,undef,undef,undef,undef,undef,undef,undef,undef,undef,undef,undef].toArray,[]⟩∧i≤dm∧Ow EDg 71 4 w' w.heap.size vd (tb (fun z1=>(⟨Dsc.ltr (97+z1),0,0,0⟩:Dmn)) i)∧Ow (ERw EOp 68 3) 72 1 w' w.heap.size vo (tb (fun z0=>tb (fun z1=>((0:Int),(0:Int),(0:Int))) (zB5 kk mo z0)) i)∧Lc w' aN #[iT 0,iT 0,iT 0] 68∧Lc w' ar #[vd,vo,sN] 26∧Gr w w') (dm - 0) ?_ ?_
 ·exact ⟨0,sN,sN,(fun i=>List.getD ?l35 i undef),rfl,rfl,Nat.zero_le _,Ow.nil _ _ _ _ _,Ow.nil _ _ _ _ _,af,ad,hB⟩
 rintro gn gB gq ⟨i,vd,vo,ae,rfl,rfl,hki,od_,oo_,af,ad,hB⟩ gG e9
 refine wp_seq_k (fun gQ ep=>wp_seq_k (fun gJ eh=>rg [0,1,2] (sv 31 (iT (i:Int)) ?_)))
 refine sv 32 (iT (dm:Int)) ?_
 refine sv 33 (.bool (decide ((i:Int)<(dm:Int)))) (za0 (eh _ _ ?_))
 refine wp_cond_split rfl (fun bq=>?_) (fun bq=>?_)
 ·have hli:i<dm:=by have:=of_decide_eq_true bq;omega
  refine wp_skip ?_
  refine ep _ _ ?_
  refine wp_seq_k (fun f3 fF=>?_)
  refine wp_block ?_
  refine wp_seq_k (fun gA e7=>rg [0,1,2,3,4,5,6,7,8,9,10,11] (sv 36 (pT ar 0) ?_))
  refine sw 37 vd rfl (rk 22 0 ad) ?_
  refine sv 38 (iT (i:Int)) ?_
  refine sw 39 (iT ((97+i:Nat):Int)) rfl (rwI ((97:Int)+(i:Int))) ?_
  refine sw 40 (.int .u8 ((97+i:Nat):Int)) rfl (RunV.int (x:=IntKind.u8.wrap ((97+i:Nat):Int)) (y:=((97+i:Nat):Int)) (rvk (by kernel_rfl)) (by first | rfl | (rw [IntKind.wrap_u8];omega))) ?_
  refine se ?_
  refine zc5 5 1 #[.int .u8 ((97+i:Nat):Int)] (some 41) rfl (fun _=>by kernel_rfl) (fun gu gl cu e6 dG=>?_)
  have cy:=od_.ne dG
  have cc:=oo_.ne dG
  replace hB:=hB.trans cu
  simp only [zd1,p3,p4]
  refine sw 42 (sV (Dsc.ltr (97+i))) rfl (zT4 (e:=5) (z:=97+i) e6) ?_
  refine sv 43 (.agg #[sV (Dsc.ltr (97+i)),iT 0,iT 0,iT 0]) ?_
  refine se ?_
  refine zc5 71 1 #[sV (Dsc.ltr (97+i)),iT 0,iT 0,iT 0] (some 44) rfl (fun _=>by kernel_rfl) (fun fg ga aG ef dK=>?_)
  replace af:=af.gr cu
  replace ad:=ad.gr cu
  replace od_:=od_.gr zc7 cu
  have cw:=od_.ne dK
  replace oo_:=oo_.gr (za1 za6 68 3) cu
  have bZ:=oo_.ne dK
  replace hB:=hB.trans aG
  simp only [zd1,p3,p4]
  refine se ?_
  replace od_:=od_.gr zc7 aG
  refine zg8 zc7 _ _ 22 71 w.heap.size (.agg #[sV [],iT 0,iT 0,iT 0]) vd (tb (fun z1=>(⟨Dsc.ltr (97+z1),0,0,0⟩:Dmn)) i) fg [sV (Dsc.ltr (97+i)),iT 0,iT 0,iT 0] (⟨Dsc.ltr (97+i),0,0,0⟩:Dmn) 4 1 (some 45) 40 rfl rfl rfl rfl od_ ef ⟨rfl,rfl,rfl,rfl,trivial⟩ rfl rfl (Below.size hB) (by rw [za8];omega) (by decide) (by kernel_rfl) (by kernel_rfl) (by decide) (by decide) (fun a4 gO ai aw dx=>?_)
  replace hB:=dx _ hB (Nat.le_refl _)
  replace ai:=ai.cast (zf4 (f:=(fun z1=>(⟨Dsc.ltr (97+z1),0,0,0⟩:Dmn))) (n:=i) (by first | rfl | exact zf8))
  simp only [zd1,p3,p4]
  refine sv 46 (pT ar 0) ?_
  refine se ?_
  replace ad:=aw.lc (ad.gr aG) (by decide)
  have ay:=ad
  refine es (hv:=(by obtain ⟨_,_,e,_⟩:=(ai.sl).form;rw [e];rfl)) 22 0 a4 [a4] #[a4,vo,sN] ad hB bM ⟨ai.one,trivial⟩ fun gb ap dT ad hB=>?_
  refine za0 (e7 _ _ ?_)
  refine wp_seq_k (fun gw fC=>rg [0] (sv 10 (iT 1) ?_))
  refine za0 (fC _ _ ?_)
  refine zz9 (fun a w'=>∃ (nn:Nat) (ah:Nat→Value),a=⟨[.int .u8 (kd),.int .u8 (mr),undef,undef,.bool false,iT (mo:Int),pT aN 0,pT ar 0,iT (dm:Int),iT (i:Int),iT (nn:Int),ae 11,ae 12,undef,undef,ah 15,.bool false,ah 17,ah 18,ah 19,ah 20,ah 21,al 22,al 23,ah 24,ah 25,ah 26,al 27,ah 28,al 29,ah 30,ah 31,ah 32,.bool (decide ((i:Int)<(dm:Int))),ah 34,ah 35,ah 36,ah 37,ah 38,ah 39,ah 40,ah 41,ah 42,ah 43,ah 44,ah 45,ah 46,ah 47,ah 48,ah 49,ah 50,ah 51,ah 52,ah 53,ah 54,ah 55,ah 56,ah 57,ah 58,ah 59,ah 60,ae 61,ah 62,ah 63,ah 64,ah 65,ah 66,ah 67,ah 68,ah 69,ah 70,ah 71,ah 72,ah 73,undef,undef,undef,undef,undef,undef,undef,undef,undef,undef,undef,undef,undef,undef,undef,undef,undef,undef,undef,undef,undef,undef,undef,undef,undef,undef,undef,undef,undef,undef,undef,undef,undef,undef,undef,undef,undef,undef,undef,undef,undef,undef,undef,undef,undef,undef,undef,undef,undef,undef,undef,undef,undef,undef,undef,undef,undef,undef,undef,undef,undef,undef,undef,undef].toArray,[]⟩∧nn=zB5 kk mo i∧Ow EDg 71 4 w' w.heap.size a4 (tb (fun z1=>(⟨Dsc.ltr (97+z1),0,0,0⟩:Dmn)) (i+1))∧Ow (ERw EOp 68 3) 72 1 w' w.heap.size vo (tb (fun z0=>tb (fun z1=>((0:Int),(0:Int),(0:Int))) (zB5 kk mo z0)) i)∧Lc w' aN #[iT 0,iT 0,iT 0] 68∧Lc w' ar #[a4,vo,sN] 26∧Gr w w') (fun gy bT=>?_) ?_
  ·refine wp_seq_k (fun gF eB=>rg [0,1] (sv 47 (.int .u8 (kd)) ?_))
   refine sw 48 (.int .u8 (kk:Int)) rfl (RunV.int (x:=Int.tmod (kd) 4) (y:=(kk:Int)) (rvk (by kernel_rfl)) (by rw [Int.tmod_eq_emod_of_nonneg (by omega)];exact hkk)) ?_
   refine za0 (eB _ _ ?_)
   refine wp_block ?_
   refine wp_seq_k (fun fX eL=>rg [0,1] (sv 50 (.bool ((kk:Int)==(1:Int))) ?_))
   refine sv 49 (.bool ((kk:Int)==(1:Int))) (za0 (eL _ _ ?_))
   refine wp_cond_split rfl (fun bb=>?_) (fun bb=>?_)
   ·have dv:kk=1:=by have:=beq_iff_eq.1 bb;omega
    refine wp_seq_k (fun fW eX=>rg [0] (sv 10 (iT 8) ?_))
    refine za0 (eX _ _ ?_)
    refine wp_seq_k (fun f4 dH=>?_)
    rcases Bool.eq_false_or_eq_true ((i:Int)==(3:Int)) with hb52 | hb52
    ·have eV:(i:Int)=(3:Int):=by have:=hb52;simp at this;omega
     refine rg [0,1,2,3,4,5] (sv 51 (iT (i:Int)) ?_)
     refine sw 52 (.bool true) rfl (RunV.bool (x:=((i:Int)==(3:Int))) (rvk (by kernel_rfl)) hb52) ?_
     refine sv 53 (.bool true) ?_
     refine sv 54 (iT (mo:Int)) ?_
     refine sv 55 (.bool ((mo:Int)==(1:Int))) ?_
     refine sv 56 (.bool ((mo:Int)==(1:Int))) (za0 (dH _ _ ?_))
     refine wp_cond_split rfl (fun bh=>?_) (fun bh=>?_)
     ·have a3:mo=1:=by have:=beq_iff_eq.1 bh;omega
      refine rg [0] (sv 10 (iT 9) ?_)
      refine za0 ?_
      replace ai:=ai.kts zc7 (ap.kts ay (by decide))
      replace oo_:=((oo_.gr (za1 za6 68 3) aG).kts (za1 za6 68 3) (aw.kts (by decide))).kts (za1 za6 68 3) (ap.kts ay (by decide))
      replace af:=ap.lc (aw.lc (af.gr aG) (by decide)) ak
      refine bT ⟨List.toArray ?l55,[]⟩ _ ?_
      exact ⟨9,(fun i=>List.getD ?l55 i undef),rfl,(by unfold zB5;(repeat' split)<;>omega),ai,oo_,af,ad,hB⟩
     have a3:¬ mo=1:=by have:=beq_eq_false_iff_ne.1 bh;omega
     refine wp_skip ?_
     replace ai:=ai.kts zc7 (ap.kts ay (by decide))
     replace oo_:=((oo_.gr (za1 za6 68 3) aG).kts (za1 za6 68 3) (aw.kts (by decide))).kts (za1 za6 68 3) (ap.kts ay (by decide))
     replace af:=ap.lc (aw.lc (af.gr aG) (by decide)) ak
     refine bT ⟨List.toArray ?l56,[]⟩ _ ?_
     exact ⟨8,(fun i=>List.getD ?l56 i undef),rfl,(by unfold zB5;(repeat' split)<;>omega),ai,oo_,af,ad,hB⟩
    have ew:¬ (i:Int)=(3:Int):=by have:=hb52;simp at this;omega
    refine rg [0,1,2,3,4,5] (sv 51 (iT (i:Int)) ?_)
    refine sw 52 (.bool false) rfl (RunV.bool (x:=((i:Int)==(3:Int))) (rvk (by kernel_rfl)) hb52) ?_
    refine swk 53 (.bool false) [(3,54),(4,55)] rfl (rvk (by kernel_rfl)) ?_
    refine sv 56 (.bool false) (za0 (dH _ _ ?_))
    refine wp_cond_false rfl ?_
    refine wp_skip ?_
    replace ai:=ai.kts zc7 (ap.kts ay (by decide))
    replace oo_:=((oo_.gr (za1 za6 68 3) aG).kts (za1 za6 68 3) (aw.kts (by decide))).kts (za1 za6 68 3) (ap.kts ay (by decide))
    replace af:=ap.lc (aw.lc (af.gr aG) (by decide)) ak
    refine bT ⟨List.toArray ?l58,[]⟩ _ ?_
    exact ⟨8,(fun i=>List.getD ?l58 i undef),rfl,(by unfold zB5;(repeat' split)<;>omega),ai,oo_,af,ad,hB⟩
   have dv:¬ kk=1:=by have:=beq_eq_false_iff_ne.1 bb;omega
   refine wp_seq_k (fun gV eY=>rg [0,1] (sv 58 (.bool ((kk:Int)==(3:Int))) ?_))
   refine sv 57 (.bool ((kk:Int)==(3:Int))) (za0 (eY _ _ ?_))
   refine wp_cond_split rfl (fun bj=>?_) (fun bj=>?_)
   ·have bW:kk=3:=by have:=beq_iff_eq.1 bj;omega
    refine rg [0] (sv 10 (iT 8) ?_)
    refine za0 ?_
    replace ai:=ai.kts zc7 (ap.kts ay (by decide))
    replace oo_:=((oo_.gr (za1 za6 68 3) aG).kts (za1 za6 68 3) (aw.kts (by decide))).kts (za1 za6 68 3) (ap.kts ay (by decide))
    replace af:=ap.lc (aw.lc (af.gr aG) (by decide)) ak
    refine bT ⟨List.toArray ?l61,[]⟩ _ ?_
    exact ⟨8,(fun i=>List.getD ?l61 i undef),rfl,(by unfold zB5;(repeat' split)<;>omega),ai,oo_,af,ad,hB⟩
   have bW:¬ kk=3:=by have:=beq_eq_false_iff_ne.1 bj;omega
   refine wp_skip ?_
   replace ai:=ai.kts zc7 (ap.kts ay (by decide))
   replace oo_:=((oo_.gr (za1 za6 68 3) aG).kts (za1 za6 68 3) (aw.kts (by decide))).kts (za1 za6 68 3) (ap.kts ay (by decide))
   replace af:=ap.lc (aw.lc (af.gr aG) (by decide)) ak
   refine bT ⟨List.toArray ?l62,[]⟩ _ ?_
   exact ⟨1,(fun i=>List.getD ?l62 i undef),rfl,(by unfold zB5;(repeat' split)<;>omega),ai,oo_,af,ad,hB⟩
  rintro gN cF ⟨nn,ah,rfl,hnn,ai,oo_,af,ad,hB⟩
  have hnb:1≤nn∧nn≤9:=by rw [hnn];exact limN_b
  refine wp_seq_k (fun fU fE=>?_)
  have lehR:=Below.size hB
  have hR:=Gr.refl cF
  have a1:=af.lt
  refine rg [0] (sv 11 (sN) ?_)
  refine za0 (fE _ _ ?_)
  refine wp_seq_k (fun fT e0=>wp_seq_k (fun f1 fi=>rg [0] (sv 12 (iT 0) ?_)))
  refine za0 (fi _ _ ?_)
  refine wp_block ?_
  refine zb1 (a:=⟨List.toArray ?l66,[]⟩) (fun n a w'=>∃ (j:Nat) (vk:Value) (aj:Nat→Value),nn - j=n∧a=⟨[.int .u8 (kd),.int .u8 (mr),undef,undef,.bool false,iT (mo:Int),pT aN 0,pT ar 0,iT (dm:Int),iT (i:Int),iT (nn:Int),vk,iT (j:Int),undef,undef,aj 15,.bool false,aj 17,aj 18,aj 19,aj 20,aj 21,al 22,al 23,aj 24,aj 25,aj 26,al 27,aj 28,al 29,aj 30,aj 31,aj 32,.bool (decide ((i:Int)<(dm:Int))),aj 34,aj 35,aj 36,aj 37,aj 38,aj 39,aj 40,aj 41,aj 42,aj 43,aj 44,aj 45,aj 46,aj 47,ah 48,ah 49,aj 50,aj 51,aj 52,aj 53,aj 54,aj 55,ah 56,ah 57,aj 58,aj 59,aj 60,aj 61,aj 62,aj 63,aj 64,aj 65,aj 66,aj 67,aj 68,aj 69,aj 70,aj 71,aj 72,aj 73,undef,undef,undef,undef,undef,undef,undef,undef,undef,undef,undef,undef,undef,undef,undef,undef,undef,undef,undef,undef,undef,undef,undef,undef,undef,undef,undef,undef,undef,undef,undef,undef,undef,undef,undef,undef,undef,undef,undef,undef,undef,undef,undef,undef,undef,undef,undef,undef,undef,undef,undef,undef,undef,undef,undef,undef,undef,undef,undef,undef,undef,undef,undef,undef].toArray,[]⟩∧j≤nn∧Ow EOp 68 3 w' cF.heap.size vk (tb (fun z1=>((0:Int),(0:Int),(0:Int))) j)∧Lc w' aN #[iT 0,iT 0,iT 0] 68∧Lc w' ar #[a4,vo,sN] 26∧Gr cF w'∧Gr w w') (nn - 0) ?_ ?_
  ·exact ⟨0,sN,(fun i=>List.getD ?l66 i undef),rfl,rfl,Nat.zero_le _,Ow.nil _ _ _ _ _,af,ad,hR,hB⟩
  rintro fY gt gS ⟨j,vk,aj,rfl,rfl,hkj,ok_,af,ad,hR,hB⟩ f8 fB
  refine wp_seq_k (fun gH ex=>wp_seq_k (fun gD dP=>rg [0,1,2] (sv 59 (iT (j:Int)) ?_)))
  refine sv 60 (iT (nn:Int)) ?_
  refine sv 61 (.bool (decide ((j:Int)<(nn:Int)))) (za0 (dP _ _ ?_))
  refine wp_cond_split rfl (fun bf=>?_) (fun bf=>?_)
  ·have hlj:j<nn:=by have:=of_decide_eq_true bf;omega
   refine wp_skip ?_
   refine ex _ _ ?_
   refine wp_seq_k (fun gC eH=>?_)
   refine wp_block ?_
   refine rg [0,1,2,3,4] (sv 64 vk ?_)
   refine sw 65 (.agg #[iT 0,iT 0,iT 0]) rfl (rl 68 0 [iT 0,iT 0,iT 0] af) ?_
   refine se ?_
   refine zc5 68 1 #[iT 0,iT 0,iT 0] (some 66) rfl (fun _=>by kernel_rfl) (fun fP f7 b3 eJ cI=>?_)
   have bK:=(ai.gr zc7 hR).ne cI
   have b5:=(oo_.gr (za1 za6 68 3) hR).ne cI
   have bS:=ok_.ne cI
   have dy:=Nat.le_trans (Below.size hR) cI
   replace hB:=hB.trans b3
   replace hR:=hR.trans b3
   simp only [zd1,p3,p4]
   refine se ?_
   replace ok_:=ok_.gr za6 b3
   replace af:=af.gr b3
   have cr:=ok_
   refine zC0 za6 _ _ 72 68 cF.heap.size (.agg #[iT 0,iT 0,iT 0]) vk (tb (fun z1=>((0:Int),(0:Int),(0:Int))) j) fP [iT 0,iT 0,iT 0] ((0:Int),(0:Int),(0:Int)) 3 1 (some 67) 24 rfl rfl rfl rfl ok_ eJ ⟨rfl,rfl,rfl,trivial⟩ rfl rfl (Below.size hR) (by rw [za8];omega) (by decide) (by kernel_rfl) (by kernel_rfl) (by decide) (by decide) (fun dF gU bi c5 bX cQ=>?_)
   replace hB:=bX _ hB lehR
   replace hR:=bX _ hR (Nat.le_refl _)
   replace af:=cQ _ _ _ (fun g n cap e=>by have h1:=(cr.blk e).1;have h2:=a1;omega) af
   replace bi:=bi.cast (zf4 (f:=(fun z1=>((0:Int),(0:Int),(0:Int)))) (n:=j) (by first | rfl | exact zf8))
   simp only [zd1,p3,p4]
   refine sv 11 dF (za0 (eH _ _ ?_))
   refine rg [0,1,2] (sv 62 (iT (j:Int)) ?_)
   refine sw 63 (iT ((j:Int)+1)) rfl (rwI ((j:Int)+1)) ?_
   refine sv 12 (iT ((j:Int)+1)) ?_
   refine za0 ?_
   replace ad:=c5.lc (ad.gr b3) (by decide)
   refine fB (nn - (j+1)) ⟨List.toArray ?l73,[]⟩ _ (by omega) ?_
   exact ⟨j+1,dF,(fun i=>List.getD ?l73 i undef),rfl,rfl,(by omega),bi,af,ad,hR,hB⟩
  have hej:nn=j:=by have:=of_decide_eq_false bf;omega
  subst hej
  refine wp_exit ?_
  simp only [Exit.then,Exit.inBlock,↓reduceIte]
  refine e0 _ _ ?_
  replace ai:=ai.gr zc7 hR
  replace oo_:=oo_.gr (za1 za6 68 3) hR
  subst hnn
  refine rg [0,1,2,3,4,5,6] (sv 68 (pT ar 1) ?_)
  refine sw 69 vo rfl (rk 23 1 ad) ?_
  refine sv 70 vk ?_
  refine se ?_
  refine zC5 23 72 vk (some 71) rfl rfl rfl (ok_.sl).forms (fun _ _ _ _=>by kernel_rfl) (fun fM gz bL e1 cG=>?_)
  have bG:=ai.ne cG
  have cm:=oo_.ne cG
  have cl:=ok_.ne cG
  have c6:=Nat.le_trans (Below.size hR) cG
  replace hB:=hB.trans bL
  simp only [zd1,p3,p4]
  refine se ?_
  replace ok_:=ok_.gr za6 bL
  replace oo_:=oo_.gr (za1 za6 68 3) bL
  refine zg8 (za1 za6 68 3) _ _ 23 72 w.heap.size (sN) vo (tb (fun z0=>tb (fun z1=>((0:Int),(0:Int),(0:Int))) (zB5 kk mo z0)) i) fM [vk] (tb (fun z1=>((0:Int),(0:Int),(0:Int))) (zB5 kk mo i)) 1 1 (some 72) 24 rfl rfl rfl rfl oo_ e1 ⟨ok_.one,trivial⟩ rfl ⟨_,rfl,ok_.sl⟩ (Below.size hB) (by rw [za8];omega) (by decide) (by kernel_rfl) (by kernel_rfl) (by decide) (by decide) (fun cD f5 aA br cY=>?_)
  replace hB:=cY _ hB (Nat.le_refl _)
  replace aA:=aA.cast (zf4 (f:=(fun z0=>tb (fun z1=>((0:Int),(0:Int),(0:Int))) (zB5 kk mo z0))) (n:=i) (by first | rfl | exact zf8))
  simp only [zd1,p3,p4]
  refine sv 73 (pT ar 1) ?_
  refine se ?_
  replace ad:=br.lc (ad.gr bL) (by decide)
  have cp:=ad
  refine es (hv:=(by obtain ⟨_,_,e,_⟩:=(aA.sl).form;rw [e];rfl)) 23 1 cD [cD] #[a4,cD,sN] ad hB bM ⟨aA.one,trivial⟩ fun gk bl fs ad hB=>?_
  refine za0 (fF _ _ ?_)
  refine rg [0,1,2] (sv 34 (iT (i:Int)) ?_)
  refine sw 35 (iT ((i:Int)+1)) rfl (rwI ((i:Int)+1)) ?_
  refine sv 9 (iT ((i:Int)+1)) ?_
  refine za0 ?_
  replace ai:=((ai.gr zc7 bL).kts zc7 (br.kts (by decide))).kts zc7 (bl.kts cp (by decide))
  replace aA:=aA.kts (za1 za6 68 3) (bl.kts cp (by decide))
  replace af:=bl.lc (br.lc (af.gr bL) (by decide)) ak
  refine e9 (dm - (i+1)) ⟨List.toArray ?l77,[]⟩ _ (by omega) ?_
  exact ⟨i+1,a4,cD,(fun i=>List.getD ?l77 i undef),rfl,rfl,(by omega),ai,aA,af,ad,hB⟩
 have hei:dm=i:=by have:=of_decide_eq_false bq;omega
 subst hei
 refine wp_exit ?_
 simp only [Exit.then,Exit.inBlock,↓reduceIte]
 refine fK _ _ ?_
 refine wp_seq_k (fun gf cR=>wp_seq_k (fun gv dJ=>?_))
 rcases Bool.eq_false_or_eq_true ((kk:Int)==(3:Int)) with hb80 | hb80
 ·have bW:kk=3:=by have:=beq_iff_eq.1 hb80;omega
  refine rg [0,1,2,3,4,5,6] (sv 74 (.int .u8 (kd)) ?_)
  refine sw 75 (.int .u8 (kk:Int)) rfl (RunV.int (x:=Int.tmod (kd) 4) (y:=(kk:Int)) (rvk (by kernel_rfl)) (by rw [Int.tmod_eq_emod_of_nonneg (by omega)];exact hkk)) ?_
  refine sw 76 (.bool true) rfl (RunV.bool (x:=((kk:Int)==(3:Int))) (rvk (by kernel_rfl)) hb80) ?_
  refine sv 77 (.bool true) ?_
  refine sv 78 (iT (mo:Int)) ?_
  refine sv 79 (.bool ((mo:Int)==(1:Int))) ?_
  refine sv 80 (.bool ((mo:Int)==(1:Int))) (za0 (dJ _ _ ?_))
  refine wp_cond_split rfl (fun aO=>?_) (fun aO=>?_)
  ·have a3:mo=1:=by have:=beq_iff_eq.1 aO;omega
   obtain rfl:kk=3:=by omega
   obtain rfl:mo=1:=a3
   obtain rfl:dm=3:=hdm
   refine wp_seq_k (fun gj dY=>rg [0,1,2,3,4,5,6,7] (sv 81 (pT ar 0) ?_))
   refine sw 82 vd rfl (rk 22 0 ad) ?_
   refine sv 83 (.agg #[sV [121],iT 0,iT 0,iT 0]) ?_
   refine sv 84 (.agg #[sV [122],iT 0,iT 0,iT 0]) ?_
   refine se ?_
   refine zc5 71 2 #[sV [121],iT 0,iT 0,iT 0,sV [122],iT 0,iT 0,iT 0] (some 85) rfl (fun _=>by kernel_rfl) (fun eQ gR b6 eD dI=>?_)
   have cj:=od_.ne dI
   have b9:=oo_.ne dI
   replace hB:=hB.trans b6
   simp only [zd1,p3,p4]
   refine se ?_
   have cV:=(zr3 (E:=EDg) (c:=4) (xs:=[⟨[121],0,0,0⟩,⟨[122],0,0,0⟩]) eD (Els.two (vs:=[_,_,_,_]) (us:=[_,_,_,_]) rfl rfl rfl rfl) rfl).cast (show _=tb (fun z3=>limX (3+z3)) 2 from rfl)
   replace od_:=od_.gr zc7 b6
   refine zK3 zc7 _ _ 22 71 w.heap.size 71 (.agg #[sV [],iT 0,iT 0,iT 0]) vd (tb (fun z1=>(⟨Dsc.ltr (97+z1),0,0,0⟩:Dmn)) 3) (sT eQ 2 2) (tb (fun z3=>limX (3+z3)) 2) 4 (some 86) 40 rfl rfl rfl rfl od_ cV (one_dg _) (Below.size hB) (by simp only [za8];omega) (by decide) (by kernel_rfl) (by kernel_rfl) (by decide) (by decide) (fun a9 gK aq bn cP fJ=>?_)
   replace hB:=cP _ hB (Nat.le_refl _)
   replace aq:=aq.cast (show _=tb limX 5 from rfl)
   simp only [zd1,p3,p4]
   refine sv 87 (pT ar 0) ?_
   refine se ?_
   replace ad:=bn.lc (ad.gr b6) (by decide)
   have bR:=ad
   refine es (hv:=(by obtain ⟨_,_,e,_⟩:=(aq.sl).form;rw [e];rfl)) 22 0 a9 [a9] #[a9,vo,sN] ad hB bM ⟨aq.one,trivial⟩ fun fp bg eK ad hB=>?_
   refine za0 (dY _ _ ?_)
   replace oo_:=((oo_.gr (za1 za6 68 3) b6).kts (za1 za6 68 3) (bn.kts (by decide))).kts (za1 za6 68 3) (bg.kts bR (by decide))
   obtain ⟨_,_,⟨cH,rfl,aD⟩,aE⟩:=Sl.get (oo_.sl) (by decide) (zc3 (f:=(fun z0=>tb (fun z1=>((0:Int),(0:Int),(0:Int))) (zB5 3 1 z0))) (n:=3) (i:=0) (by omega))
   have aC:=Gr.drew fp
   replace hB:=hB.trans aC
   replace af:=(bg.lc (bn.lc (af.gr b6) (by decide)) ak).gr aC
   replace ad:=ad.gr aC
   replace aE:=aE.gr aC
   refine zd7 (fun w'=>Lc w' aN #[iT 0,iT 0,iT 0] 68) [([12],(fun w'=>Lc w' ar #[a9,vo,sN] 26)),([9,10,12],(fun w'=>AtV w' vo (0*1) [cH]))] [(true,0),(true,1),(true,2),(true,3),(true,4),(true,5),(true,6),(true,7),(false,8),(false,9),(false,10),(true,11),(false,12)] (by kernel_rfl) (by kernel_rfl) (by kernel_rfl) (by decide) (fun _ _ _ _ _ h=>h) af ⟨fun _=>ad,fun _=>aE,trivial⟩ ?_
   refine tv 88 (pT ar 1) ?_
   refine tw 89 vo rfl (fun w' hS=>(rk 23 1 (hS.2.1 (by kernel_rfl)))) ?_
   refine tv 90 (pT ar 1) ?_
   refine tw 91 vo rfl (fun w' hS=>(rk 23 1 (hS.2.1 (by kernel_rfl)))) ?_
   refine tw 92 (adr vo (0*1)) rfl (fun w' hS=>(zc0 (e:=72) oo_.sl za8 (by decide) 0 (by omega) _ _ _ rfl rfl rfl (by kernel_rfl) (by kernel_rfl))) ?_
   refine tw 93 cH rfl (fun w' hS=>(ze6 cH (hS.2.2.1 (by kernel_rfl)) _ _ rfl rfl (by kernel_rfl))) ?_
   refine tw 94 (.agg #[iT 0,iT 0,iT 0]) rfl (fun w' hS=>(rl 68 0 [iT 0,iT 0,iT 0] hS.1)) ?_
   refine tw 95 (.agg #[iT 0,iT 0,iT 0]) rfl (fun w' hS=>(rl 68 0 [iT 0,iT 0,iT 0] hS.1)) ?_
   refine te ?_
   refine zc5 68 2 #[iT 0,iT 0,iT 0,iT 0,iT 0,iT 0] (some 96) rfl (fun _=>by kernel_rfl) (fun dz fa az a7 b4=>?_)
   replace oo_:=oo_.gr (za1 za6 68 3) aC
   have bC:=oo_.ne b4
   replace aq:=(aq.kts zc7 (bg.kts bR (by decide))).gr zc7 aC
   have bs:=aq.ne b4
   replace hB:=hB.trans az
   replace af:=af.gr az
   replace ad:=ad.gr az
   replace aE:=aE.gr az
   refine ⟨af,⟨fun _=>ad,fun _=>aE,trivial⟩,?_⟩
   simp only [zd1,p3,p4]
   refine te ?_
   replace aD:=aD.gr za6 (aC.trans az)
   refine eff_bs2 23 72 cH (sT dz 2 2) (some 97) rfl rfl rfl rfl aD.forms ⟨_,_,_,rfl⟩ (fun _ _ _ _ _ _ _=>by kernel_rfl) (fun c8 ft aB da b8=>?_)
   replace oo_:=oo_.gr (za1 za6 68 3) az
   have bu:=oo_.ne b8
   replace aq:=aq.gr zc7 az
   have a8:=aq.ne b8
   replace hB:=hB.trans aB
   replace af:=af.gr aB
   replace ad:=ad.gr aB
   refine ⟨af,⟨fun _=>ad,zh7 (by kernel_rfl),trivial⟩,?_⟩
   simp only [zd1,p3,p4]
   refine te ?_
   replace a7:=a7.gr aB
   have ck:=(zr3 (E:=EOp) (c:=3) (xs:=[(0,0,0),(0,0,0)]) a7 (Els.two (vs:=[_,_,_]) (us:=[_,_,_]) rfl rfl rfl rfl) rfl)
   replace aD:=aD.gr za6 aB
   have cz:=(zr3 (E:=ERw EOp 68 3) (c:=1) (xs:=[tb (fun _=>(0,0,0)) 8,[(0,0,0),(0,0,0)]]) da (Els.two (vs:=[_]) (us:=[_]) rfl ⟨_,rfl,aD⟩ rfl ⟨_,rfl,ck⟩) rfl).cast (show _=tb (fun z3=>tb (fun _=>((0:Int),(0:Int),(0:Int))) (limY (3+z3))) 2 from rfl)
   replace oo_:=oo_.gr (za1 za6 68 3) aB
   refine zK3 (za1 za6 68 3) _ _ 23 72 w.heap.size 72 (sN) vo (tb (fun z0=>tb (fun z1=>((0:Int),(0:Int),(0:Int))) (zB5 3 1 z0)) 3) (sT c8 2 2) (tb (fun z3=>tb (fun _=>((0:Int),(0:Int),(0:Int))) (limY (3+z3))) 2) 1 (some 98) 24 rfl rfl rfl rfl oo_ cz (one_rw _) (Below.size hB) (by simp only [za8];omega) (by decide) (by kernel_rfl) (by kernel_rfl) (by decide) (by decide) (fun aJ e8 av aL cb dL=>?_)
   replace hB:=cb _ hB (Nat.le_refl _)
   replace av:=av.cast (show _=tb (fun z0=>tb (fun _=>((0:Int),(0:Int),(0:Int))) (limY z0)) 5 from rfl)
   replace af:=aL.lc af (by decide)
   replace ad:=aL.lc ad (by decide)
   refine ⟨af,⟨fun _=>ad,zh7 (by kernel_rfl),trivial⟩,?_⟩
   simp only [zd1,p3,p4]
   refine tv 99 (pT ar 1) ?_
   refine te ?_
   have a5:=ad
   refine es (hv:=(by obtain ⟨_,_,e,_⟩:=(av.sl).form;rw [e];rfl)) 23 1 aJ [aJ] #[a9,aJ,sN] ad hB bM ⟨av.one,trivial⟩ fun eO aM dM ad hB=>?_
   replace af:=aM.lc af ak
   refine ⟨af,⟨zh7 (by kernel_rfl),zh7 (by kernel_rfl),trivial⟩,?_⟩
   refine zi0 ?_
   refine cR _ _ ?_
   refine wp_seq_k (fun er cX=>wp_seq_k (fun eF dw=>rg [0,1,2] (sv 100 (.int .u8 (kd)) ?_)))
   refine sw 101 (.int .u8 3) rfl (RunV.int (x:=Int.tmod (kd) 4) (y:=3) (rvk (by kernel_rfl)) (by rw [Int.tmod_eq_emod_of_nonneg (by omega)];exact hkk)) ?_
   refine sv 102 (.bool false) (za0 (dw _ _ ?_))
   refine wp_cond_false rfl ?_
   refine wp_skip ?_
   refine cX _ _ ?_
   refine wp_seq_k (fun fk cK=>rg [0,1,2] ?_)
   refine sw 122 (.agg #[a9,aJ,sN]) rfl (rl 26 0 [a9,aJ,sN] ad) ?_
   refine se ?_
   replace aq:=((aq.gr zc7 aB).kts zc7 (aL.kts (by decide))).kts zc7 (aM.kts a5 (by decide))
   replace av:=av.kts (za1 za6 68 3) (aM.kts a5 (by decide))
   refine ec 123 (zm3 limA_chk rfl (by decide) (hm.gr hB) (aq.sl) (av.sl) lim_nil) ?_
   rintro el eN ⟨rfl,cN⟩
   refine ⟨_,rfl,?_⟩
   replace hB:=hB.trans cN
   simp only [p3,p4]
   refine sv 14 (iT 6) (za0 (cK _ _ ?_))
   refine wp_seq_k (fun e4 dh=>rg [0,1,2,3,4,5,6,7,8,9,10,11,12,13,14] (sv 124 (iT (1:Int)) ?_))
   refine sw 125 (.bool false) rfl (RunV.bool (x:=((1:Int)==(0:Int))) (rvk (by kernel_rfl)) rfl) ?_
   refine swk 126 (.bool false) [(3,127),(4,128)] rfl (rvk (by kernel_rfl)) ?_
   refine sv 129 (.bool false) ?_
   refine sv 130 (.bool false) ?_
   refine sv 131 (iT (1:Int)) ?_
   refine sw 132 (.bool true) rfl (RunV.bool (x:=((1:Int)==(1:Int))) (rvk (by kernel_rfl)) rfl) ?_
   refine sv 133 (.bool true) ?_
   refine sv 134 (iT 6) ?_
   refine sv 135 (.bool true) ?_
   refine sv 136 (.bool true) ?_
   refine sv 137 (.bool true) ?_
   refine sv 4 (.bool true) (za0 (dh _ _ ?_))
   refine wp_ret ?_
   refine bodyPost_ret (v:=(.bool true)) (za3 rfl rfl) rfl ⟨?_,hB⟩
   exact rfl
  have a3:¬ mo=1:=by have:=beq_eq_false_iff_ne.1 aO;omega
  refine wp_skip ?_
  refine cR _ _ ?_
  refine wp_seq_k (fun em b1=>wp_seq_k (fun fh de=>rg [0,1,2] (sv 100 (.int .u8 (kd)) ?_)))
  refine sw 101 (.int .u8 (kk:Int)) rfl (RunV.int (x:=Int.tmod (kd) 4) (y:=(kk:Int)) (rvk (by kernel_rfl)) (by rw [Int.tmod_eq_emod_of_nonneg (by omega)];exact hkk)) ?_
  refine sv 102 (.bool ((kk:Int)==(2:Int))) (za0 (de _ _ ?_))
  refine wp_cond_split rfl (fun aS=>?_) (fun aS=>?_)
  ·have cZ:kk=2:=by have:=beq_iff_eq.1 aS;omega
   refine wp_seq_k (fun et db=>rg [0] (sv 13 (iT 0) ?_))
   refine za0 (db _ _ ?_)
   refine wp_block ?_
   refine zb1 (a:=⟨List.toArray ?l118,[]⟩) (fun n a w'=>∃ (r:Nat) (vq:Value) (aa:Nat→Value),(16+mo) - r=n∧a=⟨[.int .u8 (kd),.int .u8 (mr),undef,undef,.bool false,iT (mo:Int),pT aN 0,pT ar 0,iT (dm:Int),iT (dm:Int),ae 10,ae 11,ae 12,iT (r:Int),undef,aa 15,.bool false,aa 17,aa 18,aa 19,aa 20,aa 21,al 22,al 23,aa 24,aa 25,aa 26,al 27,aa 28,al 29,aa 30,aa 31,aa 32,.bool (decide ((dm:Int)<(dm:Int))),aa 34,aa 35,aa 36,aa 37,aa 38,aa 39,aa 40,aa 41,aa 42,aa 43,aa 44,aa 45,aa 46,aa 47,ae 48,ae 49,aa 50,aa 51,aa 52,aa 53,aa 54,aa 55,ae 56,ae 57,aa 58,aa 59,aa 60,ae 61,aa 62,aa 63,aa 64,aa 65,aa 66,aa 67,aa 68,aa 69,aa 70,aa 71,aa 72,aa 73,aa 74,aa 75,aa 76,aa 77,aa 78,aa 79,.bool ((mo:Int)==(1:Int)),undef,undef,undef,undef,undef,undef,undef,undef,undef,undef,undef,undef,undef,undef,undef,undef,undef,undef,undef,aa 100,aa 101,.bool ((kk:Int)==(2:Int)),aa 103,aa 104,aa 105,aa 106,aa 107,aa 108,aa 109,aa 110,aa 111,aa 112,aa 113,aa 114,aa 115,aa 116,aa 117,aa 118,aa 119,aa 120,aa 121,undef,undef,undef,undef,undef,undef,undef,undef,undef,undef,undef,undef,undef,undef,undef,undef].toArray,[]⟩∧r≤(16+mo)∧Ow ERl 80 8 w' w.heap.size vq (tb (fun z1=>(zn9 z1)) r)∧Ow EDg 71 4 w' w.heap.size vd (tb (fun z1=>(⟨Dsc.ltr (97+z1),0,0,0⟩:Dmn)) dm)∧Ow (ERw EOp 68 3) 72 1 w' w.heap.size vo (tb (fun z0=>tb (fun z1=>((0:Int),(0:Int),(0:Int))) (zB5 kk mo z0)) dm)∧Lc w' ar #[vd,vo,vq] 26∧Gr w w') ((16+mo) - 0) ?_ ?_
   ·exact ⟨0,sN,(fun i=>List.getD ?l118 i undef),rfl,rfl,Nat.zero_le _,Ow.nil _ _ _ _ _,od_,oo_,ad,hB⟩
   rintro fS en eI ⟨r,vq,aa,rfl,rfl,hkr,oq_,od_,oo_,ad,hB⟩ d9 di
   refine wp_seq_k (fun fG cT=>wp_seq_k (fun fR cU=>rg [0,1,2,3] (sv 103 (iT (r:Int)) ?_)))
   refine sv 104 (iT (mo:Int)) ?_
   refine sw 105 (iT ((16+mo:Nat):Int)) rfl (rwI ((16:Int)+(mo:Int))) ?_
   refine sv 106 (.bool (decide ((r:Int)<((16+mo:Nat):Int)))) (za0 (cU _ _ ?_))
   refine wp_cond_split rfl (fun aW=>?_) (fun aW=>?_)
   ·have hlr:r<(16+mo):=by have:=of_decide_eq_true aW;omega
    refine wp_skip ?_
    refine cT _ _ ?_
    refine wp_seq_k (fun fN dc=>?_)
    refine wp_block ?_
    refine rg [0,1,2,3,4,5,6,7,8,9,10,11,12,13] (sv 109 (pT ar 2) ?_)
    refine sw 110 vq rfl (rk 24 2 ad) ?_
    refine sv 111 (iT (r:Int)) ?_
    refine sw 112 (iT ((97+r:Nat):Int)) rfl (rwI ((97:Int)+(r:Int))) ?_
    refine sw 113 (.int .u8 ((97+r:Nat):Int)) rfl (RunV.int (x:=IntKind.u8.wrap ((97+r:Nat):Int)) (y:=((97+r:Nat):Int)) (rvk (by kernel_rfl)) (by first | rfl | (rw [IntKind.wrap_u8];omega))) ?_
    refine se ?_
    refine zc5 5 1 #[.int .u8 ((97+r:Nat):Int)] (some 114) rfl (fun _=>by kernel_rfl) (fun eP eW aH dB ba=>?_)
    have bD:=oq_.ne ba
    have bA:=od_.ne ba
    have bv:=oo_.ne ba
    replace hB:=hB.trans aH
    simp only [zd1,p3,p4]
    refine sw 115 (sV (Dsc.ltr (97+r))) rfl (zT4 (e:=5) (z:=97+r) dB) ?_
    refine sv 116 (.agg #[sV [48],sN]) ?_
    refine sv 117 (.agg #[iT 0,sV [48],sN,sV [],sN]) ?_
    refine sv 118 (.agg #[sV (Dsc.ltr (97+r)),iT 0,sV [48],sN,sV [],sN,sV [],sV []]) ?_
    refine se ?_
    refine zc5 80 1 #[sV (Dsc.ltr (97+r)),iT 0,sV [48],sN,sV [],sN,sV [],sV []] (some 119) rfl (fun _=>by kernel_rfl) (fun dC fH aU dd bo=>?_)
    replace ad:=ad.gr aH
    replace oq_:=oq_.gr zm2 aH
    have bJ:=oq_.ne bo
    replace od_:=od_.gr zc7 aH
    have bH:=od_.ne bo
    replace oo_:=oo_.gr (za1 za6 68 3) aH
    have bF:=oo_.ne bo
    replace hB:=hB.trans aU
    simp only [zd1,p3,p4]
    refine se ?_
    replace oq_:=oq_.gr zm2 aU
    refine zg8 zm2 _ _ 24 80 w.heap.size (.agg #[sV [],iT 0,sV [],sN,sV [],sN,sV [],sV []]) vq (tb (fun z1=>(zn9 z1)) r) dC [sV (Dsc.ltr (97+r)),iT 0,sV [48],sN,sV [],sN,sV [],sV []] (zn9 r) 8 1 (some 120) 136 rfl rfl rfl rfl oq_ dd ⟨rfl,rfl,rfl,rfl,rfl,rfl,rfl,rfl,trivial⟩ rfl (zX2 _) (Below.size hB) (by rw [za8];omega) (by decide) (by kernel_rfl) (by kernel_rfl) (by decide) (by decide) (fun a0 dQ au aY b0=>?_)
    replace hB:=b0 _ hB (Nat.le_refl _)
    replace au:=au.cast (zf4 (f:=(fun z1=>(zn9 z1))) (n:=r) (by first | rfl | exact zf8))
    simp only [zd1,p3,p4]
    refine sv 121 (pT ar 2) ?_
    refine se ?_
    replace ad:=aY.lc (ad.gr aU) (by decide)
    have aT:=ad
    refine es (hv:=(by obtain ⟨_,_,e,_⟩:=(au.sl).form;rw [e];rfl)) 24 2 a0 [a0] #[vd,vo,a0] ad hB bM ⟨au.one,trivial⟩ fun fm aZ dE ad hB=>?_
    refine za0 (dc _ _ ?_)
    refine rg [0,1,2] (sv 107 (iT (r:Int)) ?_)
    refine sw 108 (iT ((r:Int)+1)) rfl (rwI ((r:Int)+1)) ?_
    refine sv 13 (iT ((r:Int)+1)) ?_
    refine za0 ?_
    replace au:=au.kts zm2 (aZ.kts aT (by decide))
    replace od_:=((od_.gr zc7 aU).kts zc7 (aY.kts (by decide))).kts zc7 (aZ.kts aT (by decide))
    replace oo_:=((oo_.gr (za1 za6 68 3) aU).kts (za1 za6 68 3) (aY.kts (by decide))).kts (za1 za6 68 3) (aZ.kts aT (by decide))
    refine di ((16+mo) - (r+1)) ⟨List.toArray ?l127,[]⟩ _ (by omega) ?_
    exact ⟨r+1,a0,(fun i=>List.getD ?l127 i undef),rfl,rfl,(by omega),au,od_,oo_,ad,hB⟩
   have her:(16+mo)=r:=by have:=of_decide_eq_false aW;omega
   subst her
   refine wp_exit ?_
   simp only [Exit.then,Exit.inBlock,↓reduceIte]
   refine b1 _ _ ?_
   refine wp_seq_k (fun eR dj=>rg [0,1,2] ?_)
   refine sw 122 (.agg #[vd,vo,vq]) rfl (rl 26 0 [vd,vo,vq] ad) ?_
   refine se ?_
   refine ec 123 (zm3 (zB6 cJ bV (by omega)) rfl (by show zO1 kk mo≤64;omega) (hm.gr hB) ((od_.sl).cast (by rw [hdm];rfl)) ((oo_.sl).cast (by rw [hdm];rfl)) ((oq_.sl).cast (by rw [show (zj2 kk mo).q=16+mo from if_pos (by omega)]))) ?_
   rintro eZ fl ⟨rfl,cW⟩
   refine ⟨_,rfl,?_⟩
   replace hB:=hB.trans cW
   simp only [p3,p4]
   refine sv 14 (iT (if mo=0 then 0 else 6)) (za0 (dj _ _ ?_))
   refine wp_seq_k (fun eC bQ=>?_)
   rcases Bool.eq_false_or_eq_true ((mo:Int)==(0:Int)) with hb131 | hb131
   ·have aF:mo=0:=by have:=beq_iff_eq.1 hb131;omega
    refine rg [0,1,2,3,4,5,6,7,8,9,10,11,12,13,14] (sv 124 (iT (mo:Int)) ?_)
    refine sw 125 (.bool true) rfl (RunV.bool (x:=((mo:Int)==(0:Int))) (rvk (by kernel_rfl)) hb131) ?_
    refine sv 126 (.bool true) ?_
    refine sv 127 (iT (if mo=0 then 0 else 6)) ?_
    have ct:((if mo=0 then 0 else 6)==(0:Int))=true:=(by rw [if_pos aF];rfl)
    refine sw 128 (.bool true) rfl (RunV.bool (x:=((if mo=0 then 0 else 6)==(0:Int))) (rvk (by kernel_rfl)) ct) ?_
    refine sv 129 (.bool true) ?_
    refine swk 130 (.bool true) [(7,131),(8,132),(9,133),(10,134),(11,135),(12,136)] rfl (rvk (by kernel_rfl)) ?_
    refine sv 137 (.bool true) ?_
    refine sv 4 (.bool true) (za0 (bQ _ _ ?_))
    refine wp_ret ?_
    refine bodyPost_ret (v:=(.bool true)) (za3 rfl rfl) rfl ⟨?_,hB⟩
    exact rfl
   have aF:¬ mo=0:=by have:=beq_eq_false_iff_ne.1 hb131;omega
   refine rg [0,1,2,3,4,5,6,7,8,9,10,11,12,13,14] (sv 124 (iT (mo:Int)) ?_)
   refine sw 125 (.bool false) rfl (RunV.bool (x:=((mo:Int)==(0:Int))) (rvk (by kernel_rfl)) hb131) ?_
   refine swk 126 (.bool false) [(3,127),(4,128)] rfl (rvk (by kernel_rfl)) ?_
   refine sv 129 (.bool false) ?_
   refine sv 130 (.bool false) ?_
   refine sv 131 (iT (mo:Int)) ?_
   refine sw 132 (.bool false) rfl (RunV.bool (x:=((mo:Int)==(1:Int))) (rvk (by kernel_rfl)) aO) ?_
   refine swk 133 (.bool false) [(10,134),(11,135)] rfl (rvk (by kernel_rfl)) ?_
   refine sv 136 (.bool false) ?_
   refine sv 137 (.bool false) ?_
   refine sv 4 (.bool false) (za0 (bQ _ _ ?_))
   refine wp_ret ?_
   refine bodyPost_ret (v:=(.bool false)) (za3 rfl rfl) rfl ⟨?_,hB⟩
   exact (by exfalso;omega)
  have cZ:¬ kk=2:=by have:=beq_eq_false_iff_ne.1 aS;omega
  refine wp_skip ?_
  refine b1 _ _ ?_
  refine wp_seq_k (fun eS dq=>rg [0,1,2] ?_)
  refine sw 122 (.agg #[vd,vo,sN]) rfl (rl 26 0 [vd,vo,sN] ad) ?_
  refine se ?_
  refine ec 123 (zm3 (zB6 cJ bV (by omega)) rfl (by show zO1 kk mo≤64;omega) (hm.gr hB) ((od_.sl).cast (by rw [hdm];rfl)) ((oo_.sl).cast (by rw [hdm];rfl)) (lim_nil.cast (by rw [show (zj2 kk mo).q=0 from if_neg (by omega)]))) ?_
  rintro dS fL ⟨rfl,c7⟩
  refine ⟨_,rfl,?_⟩
  replace hB:=hB.trans c7
  simp only [p3,p4]
  refine sv 14 (iT (if mo=0 then 0 else 6)) (za0 (dq _ _ ?_))
  refine wp_seq_k (fun ez cf=>?_)
  rcases Bool.eq_false_or_eq_true ((mo:Int)==(0:Int)) with hb136 | hb136
  ·have aF:mo=0:=by have:=beq_iff_eq.1 hb136;omega
   refine rg [0,1,2,3,4,5,6,7,8,9,10,11,12,13,14] (sv 124 (iT (mo:Int)) ?_)
   refine sw 125 (.bool true) rfl (RunV.bool (x:=((mo:Int)==(0:Int))) (rvk (by kernel_rfl)) hb136) ?_
   refine sv 126 (.bool true) ?_
   refine sv 127 (iT (if mo=0 then 0 else 6)) ?_
   have cx:((if mo=0 then 0 else 6)==(0:Int))=true:=(by rw [if_pos aF];rfl)
   refine sw 128 (.bool true) rfl (RunV.bool (x:=((if mo=0 then 0 else 6)==(0:Int))) (rvk (by kernel_rfl)) cx) ?_
   refine sv 129 (.bool true) ?_
   refine swk 130 (.bool true) [(7,131),(8,132),(9,133),(10,134),(11,135),(12,136)] rfl (rvk (by kernel_rfl)) ?_
   refine sv 137 (.bool true) ?_
   refine sv 4 (.bool true) (za0 (cf _ _ ?_))
   refine wp_ret ?_
   refine bodyPost_ret (v:=(.bool true)) (za3 rfl rfl) rfl ⟨?_,hB⟩
   exact rfl
  have aF:¬ mo=0:=by have:=beq_eq_false_iff_ne.1 hb136;omega
  refine rg [0,1,2,3,4,5,6,7,8,9,10,11,12,13,14] (sv 124 (iT (mo:Int)) ?_)
  refine sw 125 (.bool false) rfl (RunV.bool (x:=((mo:Int)==(0:Int))) (rvk (by kernel_rfl)) hb136) ?_
  refine swk 126 (.bool false) [(3,127),(4,128)] rfl (rvk (by kernel_rfl)) ?_
  refine sv 129 (.bool false) ?_
  refine sv 130 (.bool false) ?_
  refine sv 131 (iT (mo:Int)) ?_
  refine sw 132 (.bool false) rfl (RunV.bool (x:=((mo:Int)==(1:Int))) (rvk (by kernel_rfl)) aO) ?_
  refine swk 133 (.bool false) [(10,134),(11,135)] rfl (rvk (by kernel_rfl)) ?_
  refine sv 136 (.bool false) ?_
  refine sv 137 (.bool false) ?_
  refine sv 4 (.bool false) (za0 (cf _ _ ?_))
  refine wp_ret ?_
  refine bodyPost_ret (v:=(.bool false)) (za3 rfl rfl) rfl ⟨?_,hB⟩
  exact (by exfalso;omega)
 have bW:¬ kk=3:=by have:=beq_eq_false_iff_ne.1 hb80;omega
 refine rg [0,1,2,3,4,5,6] (sv 74 (.int .u8 (kd)) ?_)
 refine sw 75 (.int .u8 (kk:Int)) rfl (RunV.int (x:=Int.tmod (kd) 4) (y:=(kk:Int)) (rvk (by kernel_rfl)) (by rw [Int.tmod_eq_emod_of_nonneg (by omega)];exact hkk)) ?_
 refine sw 76 (.bool false) rfl (RunV.bool (x:=((kk:Int)==(3:Int))) (rvk (by kernel_rfl)) hb80) ?_
 refine swk 77 (.bool false) [(4,78),(5,79)] rfl (rvk (by kernel_rfl)) ?_
 refine sv 80 (.bool false) (za0 (dJ _ _ ?_))
 refine wp_cond_false rfl ?_
 refine wp_skip ?_
 refine cR _ _ ?_
 refine wp_seq_k (fun ej cB=>wp_seq_k (fun d7 dr=>rg [0,1,2] (sv 100 (.int .u8 (kd)) ?_)))
 refine sw 101 (.int .u8 (kk:Int)) rfl (RunV.int (x:=Int.tmod (kd) 4) (y:=(kk:Int)) (rvk (by kernel_rfl)) (by rw [Int.tmod_eq_emod_of_nonneg (by omega)];exact hkk)) ?_
 refine sv 102 (.bool ((kk:Int)==(2:Int))) (za0 (dr _ _ ?_))
 refine wp_cond_split rfl (fun aP=>?_) (fun aP=>?_)
 ·have cZ:kk=2:=by have:=beq_iff_eq.1 aP;omega
  refine wp_seq_k (fun fI cL=>rg [0] (sv 13 (iT 0) ?_))
  refine za0 (cL _ _ ?_)
  refine wp_block ?_
  refine zb1 (a:=⟨List.toArray ?l142,[]⟩) (fun n a w'=>∃ (r:Nat) (vq:Value) (ac:Nat→Value),(16+mo) - r=n∧a=⟨[.int .u8 (kd),.int .u8 (mr),undef,undef,.bool false,iT (mo:Int),pT aN 0,pT ar 0,iT (dm:Int),iT (dm:Int),ae 10,ae 11,ae 12,iT (r:Int),undef,ac 15,.bool false,ac 17,ac 18,ac 19,ac 20,ac 21,al 22,al 23,ac 24,ac 25,ac 26,al 27,ac 28,al 29,ac 30,ac 31,ac 32,.bool (decide ((dm:Int)<(dm:Int))),ac 34,ac 35,ac 36,ac 37,ac 38,ac 39,ac 40,ac 41,ac 42,ac 43,ac 44,ac 45,ac 46,ac 47,ae 48,ae 49,ac 50,ac 51,ac 52,ac 53,ac 54,ac 55,ae 56,ae 57,ac 58,ac 59,ac 60,ae 61,ac 62,ac 63,ac 64,ac 65,ac 66,ac 67,ac 68,ac 69,ac 70,ac 71,ac 72,ac 73,ac 74,ac 75,ac 76,ac 77,undef,undef,.bool false,undef,undef,undef,undef,undef,undef,undef,undef,undef,undef,undef,undef,undef,undef,undef,undef,undef,undef,undef,ac 100,ac 101,.bool ((kk:Int)==(2:Int)),ac 103,ac 104,ac 105,ac 106,ac 107,ac 108,ac 109,ac 110,ac 111,ac 112,ac 113,ac 114,ac 115,ac 116,ac 117,ac 118,ac 119,ac 120,ac 121,undef,undef,undef,undef,undef,undef,undef,undef,undef,undef,undef,undef,undef,undef,undef,undef].toArray,[]⟩∧r≤(16+mo)∧Ow ERl 80 8 w' w.heap.size vq (tb (fun z1=>(zn9 z1)) r)∧Ow EDg 71 4 w' w.heap.size vd (tb (fun z1=>(⟨Dsc.ltr (97+z1),0,0,0⟩:Dmn)) dm)∧Ow (ERw EOp 68 3) 72 1 w' w.heap.size vo (tb (fun z0=>tb (fun z1=>((0:Int),(0:Int),(0:Int))) (zB5 kk mo z0)) dm)∧Lc w' ar #[vd,vo,vq] 26∧Gr w w') ((16+mo) - 0) ?_ ?_
  ·exact ⟨0,sN,(fun i=>List.getD ?l142 i undef),rfl,rfl,Nat.zero_le _,Ow.nil _ _ _ _ _,od_,oo_,ad,hB⟩
  rintro fj e3 ee ⟨r,vq,ac,rfl,rfl,hkr,oq_,od_,oo_,ad,hB⟩ e2 dk
  refine wp_seq_k (fun dW dD=>wp_seq_k (fun ei dp=>rg [0,1,2,3] (sv 103 (iT (r:Int)) ?_)))
  refine sv 104 (iT (mo:Int)) ?_
  refine sw 105 (iT ((16+mo:Nat):Int)) rfl (rwI ((16:Int)+(mo:Int))) ?_
  refine sv 106 (.bool (decide ((r:Int)<((16+mo:Nat):Int)))) (za0 (dp _ _ ?_))
  refine wp_cond_split rfl (fun aK=>?_) (fun aK=>?_)
  ·have hlr:r<(16+mo):=by have:=of_decide_eq_true aK;omega
   refine wp_skip ?_
   refine dD _ _ ?_
   refine wp_seq_k (fun eA cO=>?_)
   refine wp_block ?_
   refine rg [0,1,2,3,4,5,6,7,8,9,10,11,12,13] (sv 109 (pT ar 2) ?_)
   refine sw 110 vq rfl (rk 24 2 ad) ?_
   refine sv 111 (iT (r:Int)) ?_
   refine sw 112 (iT ((97+r:Nat):Int)) rfl (rwI ((97:Int)+(r:Int))) ?_
   refine sw 113 (.int .u8 ((97+r:Nat):Int)) rfl (RunV.int (x:=IntKind.u8.wrap ((97+r:Nat):Int)) (y:=((97+r:Nat):Int)) (rvk (by kernel_rfl)) (by first | rfl | (rw [IntKind.wrap_u8];omega))) ?_
   refine se ?_
   refine zc5 5 1 #[.int .u8 ((97+r:Nat):Int)] (some 114) rfl (fun _=>by kernel_rfl) (fun ek fu aX dt bk=>?_)
   have bw:=oq_.ne bk
   have bB:=od_.ne bk
   have bN:=oo_.ne bk
   replace hB:=hB.trans aX
   simp only [zd1,p3,p4]
   refine sw 115 (sV (Dsc.ltr (97+r))) rfl (zT4 (e:=5) (z:=97+r) dt) ?_
   refine sv 116 (.agg #[sV [48],sN]) ?_
   refine sv 117 (.agg #[iT 0,sV [48],sN,sV [],sN]) ?_
   refine sv 118 (.agg #[sV (Dsc.ltr (97+r)),iT 0,sV [48],sN,sV [],sN,sV [],sV []]) ?_
   refine se ?_
   refine zc5 80 1 #[sV (Dsc.ltr (97+r)),iT 0,sV [48],sN,sV [],sN,sV [],sV []] (some 119) rfl (fun _=>by kernel_rfl) (fun c4 dX aQ df bt=>?_)
   replace ad:=ad.gr aX
   replace oq_:=oq_.gr zm2 aX
   have bE:=oq_.ne bt
   replace od_:=od_.gr zc7 aX
   have bO:=od_.ne bt
   replace oo_:=oo_.gr (za1 za6 68 3) aX
   have bI:=oo_.ne bt
   replace hB:=hB.trans aQ
   simp only [zd1,p3,p4]
   refine se ?_
   replace oq_:=oq_.gr zm2 aQ
   refine zg8 zm2 _ _ 24 80 w.heap.size (.agg #[sV [],iT 0,sV [],sN,sV [],sN,sV [],sV []]) vq (tb (fun z1=>(zn9 z1)) r) c4 [sV (Dsc.ltr (97+r)),iT 0,sV [48],sN,sV [],sN,sV [],sV []] (zn9 r) 8 1 (some 120) 136 rfl rfl rfl rfl oq_ df ⟨rfl,rfl,rfl,rfl,rfl,rfl,rfl,rfl,trivial⟩ rfl (zX2 _) (Below.size hB) (by rw [za8];omega) (by decide) (by kernel_rfl) (by kernel_rfl) (by decide) (by decide) (fun a2 eE ax aV cg=>?_)
   replace hB:=cg _ hB (Nat.le_refl _)
   replace ax:=ax.cast (zf4 (f:=(fun z1=>(zn9 z1))) (n:=r) (by first | rfl | exact zf8))
   simp only [zd1,p3,p4]
   refine sv 121 (pT ar 2) ?_
   refine se ?_
   replace ad:=aV.lc (ad.gr aQ) (by decide)
   have aI:=ad
   refine es (hv:=(by obtain ⟨_,_,e,_⟩:=(ax.sl).form;rw [e];rfl)) 24 2 a2 [a2] #[vd,vo,a2] ad hB bM ⟨ax.one,trivial⟩ fun ev aR dN ad hB=>?_
   refine za0 (cO _ _ ?_)
   refine rg [0,1,2] (sv 107 (iT (r:Int)) ?_)
   refine sw 108 (iT ((r:Int)+1)) rfl (rwI ((r:Int)+1)) ?_
   refine sv 13 (iT ((r:Int)+1)) ?_
   refine za0 ?_
   replace ax:=ax.kts zm2 (aR.kts aI (by decide))
   replace od_:=((od_.gr zc7 aQ).kts zc7 (aV.kts (by decide))).kts zc7 (aR.kts aI (by decide))
   replace oo_:=((oo_.gr (za1 za6 68 3) aQ).kts (za1 za6 68 3) (aV.kts (by decide))).kts (za1 za6 68 3) (aR.kts aI (by decide))
   refine dk ((16+mo) - (r+1)) ⟨List.toArray ?l151,[]⟩ _ (by omega) ?_
   exact ⟨r+1,a2,(fun i=>List.getD ?l151 i undef),rfl,rfl,(by omega),ax,od_,oo_,ad,hB⟩
  have her:(16+mo)=r:=by have:=of_decide_eq_false aK;omega
  subst her
  refine wp_exit ?_
  simp only [Exit.then,Exit.inBlock,↓reduceIte]
  refine cB _ _ ?_
  refine wp_seq_k (fun dU cM=>rg [0,1,2] ?_)
  refine sw 122 (.agg #[vd,vo,vq]) rfl (rl 26 0 [vd,vo,vq] ad) ?_
  refine se ?_
  refine ec 123 (zm3 (zB6 cJ bV (by omega)) rfl (by show zO1 kk mo≤64;omega) (hm.gr hB) ((od_.sl).cast (by rw [hdm];rfl)) ((oo_.sl).cast (by rw [hdm];rfl)) ((oq_.sl).cast (by rw [show (zj2 kk mo).q=16+mo from if_pos (by omega)]))) ?_
  rintro dZ eg ⟨rfl,c9⟩
  refine ⟨_,rfl,?_⟩
  replace hB:=hB.trans c9
  simp only [p3,p4]
  refine sv 14 (iT (if mo=0 then 0 else 6)) (za0 (cM _ _ ?_))
  refine wp_seq_k (fun fy bP=>?_)
  rcases Bool.eq_false_or_eq_true ((mo:Int)==(0:Int)) with hb155 | hb155
  ·have aF:mo=0:=by have:=beq_iff_eq.1 hb155;omega
   refine rg [0,1,2,3,4,5,6,7,8,9,10,11,12,13,14] (sv 124 (iT (mo:Int)) ?_)
   refine sw 125 (.bool true) rfl (RunV.bool (x:=((mo:Int)==(0:Int))) (rvk (by kernel_rfl)) hb155) ?_
   refine sv 126 (.bool true) ?_
   refine sv 127 (iT (if mo=0 then 0 else 6)) ?_
   have cA:((if mo=0 then 0 else 6)==(0:Int))=true:=(by rw [if_pos aF];rfl)
   refine sw 128 (.bool true) rfl (RunV.bool (x:=((if mo=0 then 0 else 6)==(0:Int))) (rvk (by kernel_rfl)) cA) ?_
   refine sv 129 (.bool true) ?_
   refine swk 130 (.bool true) [(7,131),(8,132),(9,133),(10,134),(11,135),(12,136)] rfl (rvk (by kernel_rfl)) ?_
   refine sv 137 (.bool true) ?_
   refine sv 4 (.bool true) (za0 (bP _ _ ?_))
   refine wp_ret ?_
   refine bodyPost_ret (v:=(.bool true)) (za3 rfl rfl) rfl ⟨?_,hB⟩
   exact rfl
  have aF:¬ mo=0:=by have:=beq_eq_false_iff_ne.1 hb155;omega
  refine rg [0,1,2,3,4,5,6,7,8,9,10,11,12,13,14] (sv 124 (iT (mo:Int)) ?_)
  refine sw 125 (.bool false) rfl (RunV.bool (x:=((mo:Int)==(0:Int))) (rvk (by kernel_rfl)) hb155) ?_
  refine swk 126 (.bool false) [(3,127),(4,128)] rfl (rvk (by kernel_rfl)) ?_
  refine sv 129 (.bool false) ?_
  refine sv 130 (.bool false) ?_
  refine sv 131 (iT (mo:Int)) ?_
  have bU:((mo:Int)==(1:Int))=true:=(by simp;omega)
  refine sw 132 (.bool true) rfl (RunV.bool (x:=((mo:Int)==(1:Int))) (rvk (by kernel_rfl)) bU) ?_
  refine sv 133 (.bool true) ?_
  refine sv 134 (iT (if mo=0 then 0 else 6)) ?_
  have b7:((if mo=0 then 0 else 6)==(6:Int))=true:=(by rw [if_neg aF];rfl)
  refine sw 135 (.bool true) rfl (RunV.bool (x:=((if mo=0 then 0 else 6)==(6:Int))) (rvk (by kernel_rfl)) b7) ?_
  refine sv 136 (.bool true) ?_
  refine sv 137 (.bool true) ?_
  refine sv 4 (.bool true) (za0 (bP _ _ ?_))
  refine wp_ret ?_
  refine bodyPost_ret (v:=(.bool true)) (za3 rfl rfl) rfl ⟨?_,hB⟩
  exact rfl
 have cZ:¬ kk=2:=by have:=beq_eq_false_iff_ne.1 aP;omega
 refine wp_skip ?_
 refine cB _ _ ?_
 refine wp_seq_k (fun fQ cS=>rg [0,1,2] ?_)
 refine sw 122 (.agg #[vd,vo,sN]) rfl (rl 26 0 [vd,vo,sN] ad) ?_
 refine se ?_
 refine ec 123 (zm3 (zB6 cJ bV (by omega)) rfl (by show zO1 kk mo≤64;omega) (hm.gr hB) ((od_.sl).cast (by rw [hdm];rfl)) ((oo_.sl).cast (by rw [hdm];rfl)) (lim_nil.cast (by rw [show (zj2 kk mo).q=0 from if_neg (by omega)]))) ?_
 rintro fq fb ⟨rfl,dA⟩
 refine ⟨_,rfl,?_⟩
 replace hB:=hB.trans dA
 simp only [p3,p4]
 refine sv 14 (iT (if mo=0 then 0 else 6)) (za0 (cS _ _ ?_))
 refine wp_seq_k (fun ey bY=>?_)
 rcases Bool.eq_false_or_eq_true ((mo:Int)==(0:Int)) with hb162 | hb162
 ·have aF:mo=0:=by have:=beq_iff_eq.1 hb162;omega
  refine rg [0,1,2,3,4,5,6,7,8,9,10,11,12,13,14] (sv 124 (iT (mo:Int)) ?_)
  refine sw 125 (.bool true) rfl (RunV.bool (x:=((mo:Int)==(0:Int))) (rvk (by kernel_rfl)) hb162) ?_
  refine sv 126 (.bool true) ?_
  refine sv 127 (iT (if mo=0 then 0 else 6)) ?_
  have cq:((if mo=0 then 0 else 6)==(0:Int))=true:=(by rw [if_pos aF];rfl)
  refine sw 128 (.bool true) rfl (RunV.bool (x:=((if mo=0 then 0 else 6)==(0:Int))) (rvk (by kernel_rfl)) cq) ?_
  refine sv 129 (.bool true) ?_
  refine swk 130 (.bool true) [(7,131),(8,132),(9,133),(10,134),(11,135),(12,136)] rfl (rvk (by kernel_rfl)) ?_
  refine sv 137 (.bool true) ?_
  refine sv 4 (.bool true) (za0 (bY _ _ ?_))
  refine wp_ret ?_
  refine bodyPost_ret (v:=(.bool true)) (za3 rfl rfl) rfl ⟨?_,hB⟩
  exact rfl
 have aF:¬ mo=0:=by have:=beq_eq_false_iff_ne.1 hb162;omega
 refine rg [0,1,2,3,4,5,6,7,8,9,10,11,12,13,14] (sv 124 (iT (mo:Int)) ?_)
 refine sw 125 (.bool false) rfl (RunV.bool (x:=((mo:Int)==(0:Int))) (rvk (by kernel_rfl)) hb162) ?_
 refine swk 126 (.bool false) [(3,127),(4,128)] rfl (rvk (by kernel_rfl)) ?_
 refine sv 129 (.bool false) ?_
 refine sv 130 (.bool false) ?_
 refine sv 131 (iT (mo:Int)) ?_
 have cd:((mo:Int)==(1:Int))=true:=(by simp;omega)
 refine sw 132 (.bool true) rfl (RunV.bool (x:=((mo:Int)==(1:Int))) (rvk (by kernel_rfl)) cd) ?_
 refine sv 133 (.bool true) ?_
 refine sv 134 (iT (if mo=0 then 0 else 6)) ?_
 have b2:((if mo=0 then 0 else 6)==(6:Int))=true:=(by rw [if_neg aF];rfl)
 refine sw 135 (.bool true) rfl (RunV.bool (x:=((if mo=0 then 0 else 6)==(6:Int))) (rvk (by kernel_rfl)) b2) ?_
 refine sv 136 (.bool true) ?_
 refine sv 137 (.bool true) ?_
 refine sv 4 (.bool true) (za0 (bY _ _ ?_))
 refine wp_ret ?_
 refine bodyPost_ret (v:=(.bool true)) (za3 rfl rfl) rfl ⟨?_,hB⟩
 exact rfl

theorem zq2 {kd mr:Int} (jk:0≤kd∧kd≤255) (jm:0≤mr∧mr≤255) {w:World} (hm:Mx w) (ht:Tab w):Calls Tryz.prog 5 #[.int .u8 kd,.int .u8 mr] w fun e w'=>e=.returned (.bool true)∧Gr w w':=
 limits_w jk jm (kk:=(kd % 4).toNat) (mo:=(mr % 2).toNat) (by omega) (by omega) (by omega) (by omega) hm ht
end Go.Proofs.YtjhflekncldflaaGreatDoor
namespace Go.Proofs.YtjhflekncldflaaGreatDoor
open Go.ChangeShapes Go.WideShapes Go.ChangeAt Go.RowKit

theorem zl5 {W : World} (h : laidMetH Tryz.prog Rows.allocationLimitsRow.laid W) : Tab W :=
 Lib.tabIs_of_head (rest := _) (g := 0) (t := 260) (e := 189) (n := 20) (by kernel_rfl) (by kernel_rfl) (by kernel_rfl) (by kernel_rfl) (by kernel_rfl) (by kernel_rfl) ((show laidMet Tryz.prog Rows.allocationLimitsRow.laid W from (MakeChecks.laidMetH_plain _ _ _ (by kernel_rfl)) ▸ h).tail.tail)
theorem zk5 {W : World} (h : W.ShapedOpen Tryz.prog) : Mx W :=
 Go.Proofs.cell_of_shapedOpen_int (zero := #[.int .i64 0]) (g := 1) (t := 3) h (of_decide_eq_true (by kernel_rfl)) (by kernel_rfl) rfl (by kernel_rfl) (by kernel_rfl) Tryz.underlying3
set_option maxRecDepth 100000 in
theorem zj5 (H : Type) (enc : TypeId × Value → H) (W : World) (base : Nat) (args : Array Value) (ds gs : List (DataW H)) (before : List MemPlace)
  (hval : ∀ (j : Nat) t v, Tryz.f5.params[j]? = some t → args[j]? = some v → Value.okWide Tryz.prog W .any base t v)
  (hW : DataW.Whole enc Tryz.prog Tryz.f5.params.toList Rows.allocationLimitsSpec.vars false W args.toList ds gs before) (hL : laidMetH Tryz.prog Rows.allocationLimitsRow.laid W) (hsh : W.ShapedOpen Tryz.prog) :
  Calls Tryz.prog 5 args W fun e W' => ∃ v, e = .returned v ∧ Rows.allocationLimitsSpec.post enc Tryz.prog Tryz.f5 false true false false W args v W' := by
 have hW' := hW
 obtain ⟨p, q, ad, hV, rfl, hfz, hnd⟩ := hW
 have hA : DataW.TrodAll enc Tryz.prog W 0 (fun _ => true) true Tryz.f5.params.toList args.toList ds p := ad
 rw [Tryz.params5] at hA hval
 obtain ⟨v0, ai, d0, ak, p0, q0, hargs, rfl, rfl, h0, r0⟩ := trodAll_cons hA
 obtain ⟨v1, aj, d1, ah, p1, q1, rfl, rfl, rfl, h1, r1⟩ := trodAll_cons r0
 obtain ⟨rfl, rfl, rfl⟩ := trodAll_nil r1
 obtain rfl : args = #[v0, v1] := by cases args; simp_all
 obtain ⟨rfl, rfl⟩ := trodVars_none hV
 obtain ⟨ae, rfl, aa⟩ := zE6 (k := .u8) (by kernel_rfl) (hval 0 5 v0 rfl rfl)
 obtain ⟨af, rfl, ac⟩ := zE6 (k := .u8) (by kernel_rfl) (hval 1 5 v1 rfl rfl)
 refine ((fun _ ht hm => zq2 (has_u8 aa) (has_u8 ac) hm ht)  W (zl5 hL) (zk5 hsh)).mono fun e W' ⟨he, hg⟩ => ?_
 subst he
 exact ⟨_, rfl, law_post (tb := 4) laidOut (by kernel_rfl) (by kernel_rfl) (by kernel_rfl) rfl hW' rfl hg⟩
noncomputable def zf0 (os : Os) : World := World.laidAll Tryz.prog os Rows.allocationLimitsRow.laid
theorem zn7 (os : Os) : laidMet Tryz.prog Rows.allocationLimitsRow.laid ((zf0 os).forCall (fun _ _ => 0) ⟨#[], #[.int .u8 0, .int .u8 0], []⟩).memory :=
 laidMet_laidAll _ (by kernel_rfl) (by kernel_rfl)
theorem zl6 (os : Os) {H : Type} (enc : TypeId × Value → H) : ∃ places, DataW.whole enc Tryz.prog ((zf0 os).forCall (fun _ _ => 0) ⟨#[], #[.int .u8 0, .int .u8 0], []⟩).memory Tryz.f5.params.toList Rows.allocationLimitsSpec.vars false (#[.int .u8 0, .int .u8 0] : Array Value).toList 8 = some ([.lit (.int .u8 0), .lit (.int .u8 0)], [], places) :=
 ⟨[], by kernel_rfl⟩
set_option maxRecDepth 100000 in
theorem zk6 (os : Os) (started : os.Started) (H : Type) (enc : TypeId × Value → H) (F : Stop.Interp) :
  ReturnsInHanded {} Tryz.checked os 5 .any ((OpenSpec.ofChange Rows.allocationLimitsSpec).preRow enc Tryz.prog Tryz.f5 Rows.allocationLimitsRow.domain false Rows.allocationLimitsRow.laid) (((OpenSpec.ofChange Rows.allocationLimitsSpec).at F).post enc Tryz.prog Tryz.f5 false true false false) := by
 obtain ⟨places, hx⟩ := zl6 os enc
 refine returnsInHanded_of_row (C := Tryz.checked) (s := OpenSpec.ofChange Rows.allocationLimitsSpec) own started (by kernel_rfl) Tryz.func5
  (zy5 (enc := enc) (C := Tryz.checked) false (zf0 os) #[.int .u8 0, .int .u8 0] (World.laidAll_os _ _ _) (World.shaped_of_ZipB (by kernel_rfl) (by kernel_rfl)) (by kernel_rfl)
   (OpenSpec.preRow_of_cond 8 hx (by kernel_rfl) (fun k hk => by cases hk) (by kernel_rfl) (by rw [MakeChecks.laidMetH_plain _ _ _ (by kernel_rfl)]; exact zn7 os))) ?_
 intro W base args ds gs before hval hW _ _ _ hL hsh _
 exact zj5 H enc W base args ds gs before hval hW hL hsh
theorem zm7 : Rows.AllocationLimitsSaid :=
 OpenClaim.holds_of_cond 5 Tryz.f5 rfl rfl rfl rfl rfl rfl rfl ⟨rfl, rfl, rfl, rfl, rfl⟩ rfl rfl rfl rfl rfl (by kernel_rfl) Tryz.func5 (by kernel_rfl)
  (of_decide_eq_true (by kernel_rfl)) (by unfold Func.isWrapper; first | (rw [if_pos (by decide +kernel)]; kernel_rfl) | (rw [if_neg (by decide +kernel)]; exact ⟨rfl, rfl⟩))
  (fun os started H enc _ F => by rw [OpenClaim.pre_eq_preRow]; exact zk6 os started H enc F)
theorem zl7 (f : FuncId) (fn : Func) (hf : Tryz.pinned.checked.prog.funcNamed "dowel/dowellaw43.AllocationLimits" = some f) (hfn : Tryz.pinned.checked.prog.funcs[f]? = some fn) :
  true = Tryz.pinned.checked.prog.looks [] ∧ ∀ (j : Nat) t, fn.params[j]? = some t → Tryz.pinned.checked.prog.wantsStandIn t = false := by
 obtain rfl : f = 5 := Option.some.inj ((show Tryz.prog.funcNamed "dowel/dowellaw43.AllocationLimits" = some 5 by kernel_rfl).symm.trans hf) |>.symm
 obtain rfl : fn = Tryz.f5 := (Option.some.inj (Tryz.func5.symm.trans hfn)).symm
 refine ⟨by kernel_rfl, fun j t ht => ?_⟩
 rw [Tryz.params5] at ht
 have hm := Array.mem_of_getElem? ht
 have hall : (#[5, 5] : Array TypeId).toList.all (fun t => !Tryz.prog.wantsStandIn t) = true := by kernel_rfl
 have := List.all_eq_true.1 hall t (Array.mem_toList_iff.2 hm)
 have h3 : Tryz.prog.wantsStandIn t = false := by simpa using this
 exact h3
theorem allocationLimits_card : Rows.AllocationLimitsCardSaid :=
 Claim7.holds_tied_plain_at .later [] _ _ _ _ zm7 (fun _ h => by cases h) (by kernel_rfl) (fun _ h => by cases h) allocationLimits_row_tie rfl ⟨rfl, rfl⟩ (by kernel_rfl) rfl zl7 (by kernel_rfl)
end Go.Proofs.YtjhflekncldflaaGreatDoor
