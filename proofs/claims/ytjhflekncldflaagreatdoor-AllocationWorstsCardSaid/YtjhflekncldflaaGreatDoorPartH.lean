/- Joined of: Gen228, Gen230, Gen231, Gen232, Gen233. -/
import Derived.Test.YtjhflekncldflaaGreatDoorPartG
import Derived.Test.YtjhflekncldflaaGreatDoorPartC
namespace Go.Proofs.YtjhflekncldflaaGreatDoor
set_option maxRecDepth 100000
set_option maxHeartbeats 8000000
open Go.RowKit

theorem zG2 {d:Int × Int × Int} (_bd:(-128≤d.1∧d.1≤127)∧(-128≤d.2.1∧d.2.1≤127)∧0≤d.2.2∧d.2.2≤255) {w:World}:
    Calls Tryz.prog 36 #[.agg #[.int .i8 (d.1),.int .i8 (d.2.1),.int .u8 (d.2.2)]] w fun e w'=>e=.returned (.agg #[iT (zq2 d.1 d.2.1),iT (zn5 d.1 d.2.1),iT d.2.2])∧Gr w w':=by
 go_enter Tryz.func36,Tryz.ntmps36
 have hB:=Gr.refl w
 refine wp_seq_k (fun az ae=>rg [0,1] ?_)
 refine se ?_
 refine eb 97 #[.int .i8 (d.1),.int .i8 (d.2.1),.int .u8 (d.2.2)] 1 hB fun ac au aq aa aw av hB=>?_
 simp only [p3,p4]
 refine se ?_
 refine ea 68 #[iT 0,iT 0,iT 0] 2 hB fun ax ap aj ad ay ai hB=>?_
 simp only [p3,p4]
 refine za0 (ae _ _ ?_)
 refine wp_seq_k (fun al af=>rg [0,1,2,3,4,5,6,7,8,9,10,11,12,13,14,15,16,17,18] (sv 3 (pT ac 0) ?_))
 replace aa:=aa.gr aj
 refine sw 4 (.int .i8 (d.1)) rfl (rk 91 0 aa) ?_
 refine sw 5 (iT (d.1)) rfl (rwI (d.1)) ?_
 refine sv 6 (pT ac 1) ?_
 refine sw 7 (.int .i8 (d.2.1)) rfl (rk 91 1 aa) ?_
 refine sw 8 (iT (d.2.1)) rfl (rwI (d.2.1)) ?_
 refine sv 9 (iT (zq2 (d.1) (d.2.1))) ?_
 refine sv 10 (pT ac 0) ?_
 refine sw 11 (.int .i8 (d.1)) rfl (rk 91 0 aa) ?_
 refine sw 12 (iT (d.1)) rfl (rwI (d.1)) ?_
 refine sv 13 (pT ac 1) ?_
 refine sw 14 (.int .i8 (d.2.1)) rfl (rk 91 1 aa) ?_
 refine sw 15 (iT (d.2.1)) rfl (rwI (d.2.1)) ?_
 refine sv 16 (iT (zn5 (d.1) (d.2.1))) ?_
 refine sv 17 (pT ac 2) ?_
 refine sw 18 (.int .u8 (d.2.2)) rfl (rk 5 2 aa) ?_
 refine sw 19 (iT (d.2.2)) rfl (rwI (d.2.2)) ?_
 refine sv 20 (.agg #[iT (zq2 (d.1) (d.2.1)),iT (zn5 (d.1) (d.2.1)),iT (d.2.2)]) ?_
 refine se ?_
 refine es 68 0 (.agg #[iT (zq2 (d.1) (d.2.1)),iT (zn5 (d.1) (d.2.1)),iT (d.2.2)]) [iT (zq2 (d.1) (d.2.1)),iT (zn5 (d.1) (d.2.1)),iT (d.2.2)] #[iT (zq2 (d.1) (d.2.1)),iT (zn5 (d.1) (d.2.1)),iT (d.2.2)] ad hB ai ⟨rfl,rfl,rfl,trivial⟩ fun ar ak ah ad hB=>?_
 refine za0 (af _ _ ?_)
 refine wp_ret ?_
 refine bodyPost_ret (v:=(.agg #[iT (zq2 (d.1) (d.2.1)),iT (zn5 (d.1) (d.2.1)),iT (d.2.2)])) (zc8 _ _ _ rfl rfl ad (by kernel_rfl)) rfl ⟨?_,hB⟩
 exact rfl

theorem of_offer {x:Dsc} {vn d0 d1 d2 d3 vr:Value} {w:World} (ht:Tab w) (hx:DscM w x vn d0 d1 d2 d3 vr):
    Calls Tryz.prog 22 #[.agg #[vn,d0,d1,d2,d3,vr]] w fun e w'=>(∃ ds os rs,e=.returned (.agg #[ds,os,rs])∧OfM w' x.ofr Dsc.dnm Dsc.rnm ds os rs)∧Gr w w':=by
 obtain ⟨T8,hvn⟩:=hx.vn
 obtain ⟨T9,hvr⟩:=hx.vr
 have ovn:=hvn.one
 have ovr:=hvr.one
 have li:=hx.d0.elim fun _ h=>h.one
 have lz:=hx.d1.elim fun _ h=>h.one
 have l9:=hx.d2.elim fun _ h=>h.one
 have lF:=hx.d3.elim fun _ h=>h.one
 have hnb:=Dsc.n_b (x:=x)
 have hqb:=Dsc.q_b (x:=x)
 go_enter Tryz.func22,Tryz.ntmps22
 have hB:=Gr.refl w
 refine wp_seq_k (fun mt kx=>rg [0,1] ?_)
 refine se ?_
 refine eb 52 #[vn,d0,d1,d2,d3,vr] 1 hB fun aA lZ ln ae lb mo hB=>?_
 simp only [p3,p4]
 refine se ?_
 refine ea 26 #[sN,sN,sN] 2 hB fun cw lE ik af mj hX hB=>?_
 simp only [p3,p4]
 refine za0 (kx _ _ ?_)
 refine wp_seq_k (fun lD iW=>rg [0] ?_)
 refine se ?_
 refine ea 26 #[sN,sN,sN] 3 hB fun az lQ hK ad hY bM hB=>?_
 replace ae:=ae.gr ik
 have aj:=ae.ne hY
 have ai:=af.ne hY
 simp only [p3,p4]
 refine za0 (iW _ _ ?_)
 refine wp_seq_k (fun lA ke=>rg [0,1,2,3,4,5] (sv 17 (pT aA 0) ?_))
 replace ae:=ae.gr hK
 refine sw 18 vn rfl (rk 47 0 ae) ?_
 refine sw 19 (iT ((x.nn:Nat):Int)) rfl (za9 (e:=91) hvn (za8 rfl) _ _ rfl rfl (by kernel_rfl)) ?_
 refine sv 20 (iT (if 1>((x.nn:Nat):Int) then 1 else ((x.nn:Nat):Int))) ?_
 refine sw 21 (iT ((x.n:Nat):Int)) rfl (RunV.int (x:=(if (4:Int)<(if 1>((x.nn:Nat):Int) then 1 else ((x.nn:Nat):Int)) then (4:Int) else (if 1>((x.nn:Nat):Int) then 1 else ((x.nn:Nat):Int)))) (y:=((x.n:Nat):Int)) (rvk (by kernel_rfl)) n_eq) ?_
 refine sv 4 (iT ((x.n:Nat):Int)) (za0 (ke _ _ ?_))
 refine wp_seq_k (fun k8 jY=>wp_seq_k (fun lP jg=>rg [0] (sv 5 (iT 0) ?_)))
 refine za0 (jg _ _ ?_)
 refine wp_block ?_
 replace af:=af.gr hK
 refine zb2 (a:=⟨List.toArray ?l18,[]⟩) (fun n a w'=>∃ (i:Nat) (vd:Value) (vo:Value) (ah:Nat→Value),x.n - i=n∧a=⟨[.agg #[vn,d0,d1,d2,d3,vr],pT aA 0,pT cw 0,pT az 0,iT ((x.n:Nat):Int),iT (i:Int),ah 6,ah 7,ah 8,undef,undef,undef,undef,undef,undef,undef,undef,ah 17,ah 18,ah 19,ah 20,ah 21,ah 22,ah 23,ah 24,ah 25,ah 26,ah 27,ah 28,ah 29,ah 30,ah 31,ah 32,ah 33,ah 34,ah 35,ah 36,ah 37,ah 38,ah 39,ah 40,ah 41,ah 42,ah 43,ah 44,ah 45,ah 46,ah 47,ah 48,ah 49,ah 50,ah 51,ah 52,ah 53,ah 54,ah 55,ah 56,ah 57,ah 58,ah 59,ah 60,ah 61,ah 62,ah 63,ah 64,ah 65,ah 66,ah 67,ah 68,ah 69,ah 70,ah 71,ah 72,ah 73,ah 74,ah 75,ah 76,ah 77,ah 78,ah 79,ah 80,ah 81,ah 82,ah 83,ah 84,ah 85,undef,undef,undef,undef,undef,undef,undef,undef,undef,undef,undef,undef,undef,undef,undef,undef,undef,undef,undef,undef,undef,undef,undef,undef,undef,undef,undef,undef,undef,undef,undef,undef,undef,undef,undef,undef,undef,undef,undef,undef,undef,undef,undef,undef,undef,undef,undef,undef,undef,undef,undef,undef,undef,undef,undef,undef,undef,undef,undef,undef,undef,undef,undef,undef,undef,undef,undef,undef,undef,undef,undef,undef,undef,undef,undef,undef,undef,undef,undef,undef,undef,undef,undef,undef,undef,undef,undef,undef,undef,undef,undef,undef,undef,undef,undef,undef,undef,undef,undef,undef,undef,undef,undef,undef,undef,undef,undef,undef,undef,undef].toArray,[]⟩∧i≤x.n∧Ow EDg 71 4 w' w.heap.size vd (tb (fun z1=>(⟨Dsc.dnm z1,x.nom z1,0,0⟩:Dmn)) i)∧Ow (ERw EOp 68 3) 72 1 w' w.heap.size vo (tb (fun z0=>tb (fun z1=>(x.op z0 z1)) (x.ol z0)) i)∧Lc w' aA #[vn,d0,d1,d2,d3,vr] 52∧Lc w' cw #[sN,sN,sN] 26∧Lc w' az #[vd,vo,sN] 26∧Gr w w') (x.n - 0) ?_ ?_
 ·exact ⟨0,sN,sN,(fun i=>List.getD ?l18 i undef),rfl,rfl,Nat.zero_le _,Ow.nil _ _ _ _ _,Ow.nil _ _ _ _ _,ae,af,ad,hB⟩
 rintro lO k3 mg ⟨i,vd,vo,ah,rfl,rfl,hki,od_,oo_,ae,af,ad,hB⟩ lC dj
 refine wp_seq_k (fun kU ii=>wp_seq_k (fun lT jA=>rg [0,1,2] (sv 22 (iT (i:Int)) ?_)))
 refine sv 23 (iT ((x.n:Nat):Int)) ?_
 refine sv 24 (.bool (decide ((i:Int)<((x.n:Nat):Int)))) (za0 (jA _ _ ?_))
 refine wp_cond_split rfl (fun dv=>?_) (fun dv=>?_)
 ·have hli:i<x.n:=by have:=of_decide_eq_true dv;omega
  refine wp_skip ?_
  refine ii _ _ ?_
  refine wp_seq_k (fun kR da=>?_)
  refine wp_block ?_
  refine wp_seq_k (fun kX iP=>?_)
  have hT:i<x.n→i<4:=fun h=>by omega
  have hob:=Dsc.ol_b (x:=x) i
  have hdb:=Dsc.dm_b (x:=x) i
  have hnv:=hx.ok.nv i
  refine rg [0,1,2,3,4,5,6,7] (sv 27 (iT (i:Int)) ?_)
  refine sw 28 (iT ((97+i:Nat):Int)) rfl (rwI ((97:Int)+(i:Int))) ?_
  refine sw 29 (.int .u8 ((97+i:Nat):Int)) rfl (RunV.int (x:=IntKind.u8.wrap ((97+i:Nat):Int)) (y:=((97+i:Nat):Int)) (rvk (by kernel_rfl)) (by first | rfl | (rw [IntKind.wrap_u8];omega))) ?_
  refine se ?_
  refine zc5 5 1 #[.int .u8 ((97+i:Nat):Int)] (some 30) rfl (fun _=>by kernel_rfl) (fun mb k1 ef jm hG=>?_)
  have fO:=od_.ne hG
  have fd:=oo_.ne hG
  replace hB:=hB.trans ef
  simp only [zd0,p3,p4]
  refine sw 31 (sV (Dsc.ltr (97+i))) rfl (rv_b2s (e:=5) (z:=97+i) jm) ?_
  refine sv 32 (.agg #[sV (Dsc.ltr (97+i)),iT 0,iT 0,iT 0]) ?_
  refine se ?_
  refine ea 71 #[sV [],iT 0,iT 0,iT 0] 6 hB fun gs lB cG dF eg h9 hB=>?_
  replace ae:=ae.gr ef
  have bH:=ae.ne eg
  replace af:=af.gr ef
  have aV:=af.ne eg
  replace ad:=ad.gr ef
  have aW:=ad.ne eg
  replace od_:=od_.gr zb3 ef
  have b1:=od_.ne eg
  replace oo_:=oo_.gr (za1 za4 68 3) ef
  have e9:=oo_.ne eg
  have cD:=eg
  simp only [p3,p4]
  refine se ?_
  have fb:=dF
  refine es 71 0 (.agg #[sV (Dsc.ltr (97+i)),iT 0,iT 0,iT 0]) [sV (Dsc.ltr (97+i)),iT 0,iT 0,iT 0] #[sV (Dsc.ltr (97+i)),iT 0,iT 0,iT 0] dF hB h9 ⟨rfl,rfl,rfl,rfl,trivial⟩ fun k4 aT jr dF hB=>?_
  refine za0 (iP _ _ ?_)
  refine wp_seq_k (fun ld hI=>wp_seq_k (fun lK jK=>rg [0,1,2,3,4] (sv 33 (iT (i:Int)) ?_)))
  refine sv 34 (pT aA 0) ?_
  replace ae:=aT.lc (ae.gr cG) bH
  refine sw 35 vn rfl (rk 47 0 ae) ?_
  refine sw 36 (iT ((x.nn:Nat):Int)) rfl (za9 (e:=91) hvn (za8 rfl) _ _ rfl rfl (by kernel_rfl)) ?_
  refine sv 37 (.bool (decide ((i:Int)<((x.nn:Nat):Int)))) (za0 (jK _ _ ?_))
  refine wp_cond_split rfl (fun dE=>?_) (fun dE=>?_)
  ·have hin:i<x.nn:=by have:=of_decide_eq_true dE;omega
   refine rg [0,1,2,3,4,5,6,7] (sv 38 (pT aA 0) ?_)
   refine sw 39 vn rfl (rk 47 0 ae) ?_
   refine sv 40 (iT (i:Int)) ?_
   refine sw 41 (adr vn (i*1)) rfl (zb1 (e:=91) hvn za7 (by decide) i (by omega) _ _ _ rfl rfl rfl (by kernel_rfl) (by kernel_rfl)) ?_
   obtain ⟨_,_,rfl,gT⟩:=Sl.get hvn (by decide) (zb5 (f:=(fun z1=>(x.nv z1))) (n:=x.nn) (i:=i) (by omega))
   refine sw 42 (.int .i8 (x.nv i)) rfl (zc7 (.int .i8 (x.nv i)) (gT.gr hB) _ _ rfl rfl (by kernel_rfl)) ?_
   refine sw 43 (iT (x.nv i)) rfl (rwI (x.nv i)) ?_
   refine sv 44 (pT gs 1) ?_
   refine se ?_
   refine es 3 1 (iT (x.nv i)) [iT (x.nv i)] #[sV (Dsc.ltr (97+i)),iT (x.nv i),iT 0,iT 0] dF hB h9 ⟨rfl,trivial⟩ fun lk b4 iM dF hB=>?_
   refine za0 (hI _ _ ?_)
   refine wp_seq_k (fun lU iF=>rg [0,1,2,3,4,5,6] (sv 45 (pT az 0) ?_))
   replace ad:=b4.lc (aT.lc (ad.gr cG) aW) aW
   refine sw 46 vd rfl (rk 22 0 ad) ?_
   refine sw 47 (.agg #[sV (Dsc.ltr (97+i)),iT (x.nv i),iT 0,iT 0]) rfl (rl 71 0 [sV (Dsc.ltr (97+i)),iT (x.nv i),iT 0,iT 0] dF) ?_
   refine se ?_
   refine zc5 71 1 #[sV (Dsc.ltr (97+i)),iT (x.nv i),iT 0,iT 0] (some 48) rfl (fun _=>by kernel_rfl) (fun iB md d9 ig hH=>?_)
   replace ae:=b4.lc ae bH
   replace af:=b4.lc (aT.lc (af.gr cG) aV) aV
   replace od_:=od_.gr zb3 (b4.gr (aT.gr cG cD) cD)
   have fK:=od_.ne hH
   replace oo_:=oo_.gr (za1 za4 68 3) (b4.gr (aT.gr cG cD) cD)
   have e4:=oo_.ne hH
   replace hB:=hB.trans d9
   simp only [zd0,p3,p4]
   refine se ?_
   replace od_:=od_.gr zb3 d9
   refine zd9 zb3 _ _ 22 71 w.heap.size (.agg #[sV [],iT 0,iT 0,iT 0]) vd (tb (fun z1=>(⟨Dsc.dnm z1,x.nom z1,0,0⟩:Dmn)) i) iB [sV (Dsc.ltr (97+i)),iT (x.nv i),iT 0,iT 0] (⟨Dsc.dnm i,x.nom i,0,0⟩:Dmn) 4 1 (some 49) 40 rfl rfl rfl rfl od_ ig ⟨rfl,rfl,rfl,rfl,trivial⟩ rfl (edg_in hin) (Below.size hB) (by rw [za7];omega) (by decide) (by kernel_rfl) (by kernel_rfl) (by decide) (by decide) (fun bT mn ak cz gX=>?_)
   replace hB:=gX _ hB (Nat.le_refl _)
   replace ak:=ak.cast (zd8 (f:=(fun z1=>(⟨Dsc.dnm z1,x.nom z1,0,0⟩:Dmn))) (n:=i) (by first | rfl | exact ze1))
   simp only [zd0,p3,p4]
   refine sv 50 (pT az 0) ?_
   refine se ?_
   replace ad:=cz.lc (ad.gr d9) (by decide)
   have e0:=ad
   refine es (hv:=(by obtain ⟨_,_,e,_⟩:=(ak.sl).form;rw [e];rfl)) 22 0 bT [bT] #[bT,vo,sN] ad hB bM ⟨ak.one,trivial⟩ fun gd cC jd ad hB=>?_
   refine za0 (iF _ _ ?_)
   refine wp_seq_k (fun mr iN=>?_)
   have lehR:=Below.size hB
   have hR:=Gr.refl gd
   replace ae:=cC.lc (cz.lc (ae.gr d9) (by decide)) aj
   replace af:=cC.lc (cz.lc (af.gr d9) (by decide)) ai
   replace oo_:=((oo_.gr (za1 za4 68 3) d9).kts (za1 za4 68 3) (cz.kts (by decide))).kts (za1 za4 68 3) (cC.kts e0 (by decide))
   replace ak:=ak.kts zb3 (cC.kts e0 (by decide))
   obtain ⟨Td,hdl⟩:=hx.d4 (hT hli)
   refine rg [0] (sv 7 (sN) ?_)
   refine za0 (iN _ _ ?_)
   refine wp_seq_k (fun mp hL=>wp_seq_k (fun ma kf=>rg [0] (sv 8 (iT 0) ?_)))
   refine za0 (kf _ _ ?_)
   refine wp_block ?_
   have hxo:=hx.ok.dl i
   refine zb2 (a:=⟨List.toArray ?l39,[]⟩) (fun n a w'=>∃ (k:Nat) (vk:Value) (aq:Nat→Value),(x.dm i) - k=n∧a=⟨[.agg #[vn,d0,d1,d2,d3,vr],pT aA 0,pT cw 0,pT az 0,iT ((x.n:Nat):Int),iT (i:Int),pT gs 0,vk,iT (k:Int),undef,undef,undef,undef,undef,undef,undef,undef,aq 17,aq 18,aq 19,aq 20,aq 21,aq 22,aq 23,.bool (decide ((i:Int)<((x.n:Nat):Int))),aq 25,aq 26,aq 27,aq 28,aq 29,aq 30,aq 31,aq 32,aq 33,aq 34,aq 35,aq 36,.bool (decide ((i:Int)<((x.nn:Nat):Int))),aq 38,aq 39,aq 40,aq 41,aq 42,aq 43,aq 44,aq 45,aq 46,aq 47,aq 48,aq 49,aq 50,aq 51,aq 52,aq 53,aq 54,aq 55,aq 56,aq 57,aq 58,aq 59,aq 60,aq 61,aq 62,aq 63,aq 64,aq 65,aq 66,aq 67,aq 68,aq 69,aq 70,aq 71,aq 72,aq 73,aq 74,aq 75,aq 76,ah 77,aq 78,aq 79,aq 80,aq 81,aq 82,aq 83,aq 84,aq 85,undef,undef,undef,undef,undef,undef,undef,undef,undef,undef,undef,undef,undef,undef,undef,undef,undef,undef,undef,undef,undef,undef,undef,undef,undef,undef,undef,undef,undef,undef,undef,undef,undef,undef,undef,undef,undef,undef,undef,undef,undef,undef,undef,undef,undef,undef,undef,undef,undef,undef,undef,undef,undef,undef,undef,undef,undef,undef,undef,undef,undef,undef,undef,undef,undef,undef,undef,undef,undef,undef,undef,undef,undef,undef,undef,undef,undef,undef,undef,undef,undef,undef,undef,undef,undef,undef,undef,undef,undef,undef,undef,undef,undef,undef,undef,undef,undef,undef,undef,undef,undef,undef,undef,undef,undef,undef,undef,undef,undef,undef].toArray,[]⟩∧k≤(x.dm i)∧Ow EOp 68 3 w' gd.heap.size vk (tb (fun z1=>(x.opt i z1)) k)∧Lc w' aA #[vn,d0,d1,d2,d3,vr] 52∧Lc w' cw #[sN,sN,sN] 26∧Lc w' az #[bT,vo,sN] 26∧Gr gd w'∧Gr w w') ((x.dm i) - 0) ?_ ?_
   ·exact ⟨0,sN,(fun i=>List.getD ?l39 i undef),rfl,rfl,Nat.zero_le _,Ow.nil _ _ _ _ _,ae,af,ad,hR,hB⟩
   rintro lV k0 mm ⟨k,vk,aq,rfl,rfl,hkk,ok_,ae,af,ad,hR,hB⟩ kV iI
   refine wp_seq_k (fun l8 jM=>wp_seq_k (fun lq hE=>rg [0,1,2,3,4,5,6,7,8,9,10] (sv 51 (iT (k:Int)) ?_)))
   refine sv 52 (iT (i:Int)) ?_
   refine sv 53 (pT aA 1) ?_
   refine sw 54 (.pointer (some ⟨aA,1+1*i,none⟩)) rfl (zF4 aA 1 4 48 1 i (by omega)) ?_
   refine sw 55 (v4 d0 d1 d2 d3 i) rfl (zM6 ae (by omega)) ?_
   refine sw 56 (iT ((x.dn i:Nat):Int)) rfl (za9 (e:=97) hdl (za8 rfl) _ _ rfl rfl (by kernel_rfl)) ?_
   refine sv 57 (.bool (decide ((k:Int)<((x.dn i:Nat):Int)))) ?_
   rcases Bool.eq_false_or_eq_true (decide ((k:Int)<((x.dn i:Nat):Int))) with hb42 | hb42
   ·have hlu:k<x.dn i:=by have:=of_decide_eq_true hb42;omega
    refine sw 58 (.bool true) rfl (RunV.bool (x:=decide ((k:Int)<((x.dn i:Nat):Int))) (rvk (by kernel_rfl)) hb42) ?_
    refine sv 59 (iT (k:Int)) ?_
    refine sv 60 (.bool (decide ((k:Int)<(3:Int)))) ?_
    refine sv 61 (.bool (decide ((k:Int)<(3:Int)))) (za0 (hE _ _ ?_))
    refine wp_cond_split rfl (fun dM=>?_) (fun dM=>?_)
    ·have hlk:=dm_lt hlu (by have:=of_decide_eq_true dM;omega)
     refine wp_skip ?_
     refine jM _ _ ?_
     refine wp_seq_k (fun ll jB=>?_)
     refine wp_block ?_
     refine rg [0,1,2,3,4,5,6,7,8,9,10,11] (sv 64 vk ?_)
     refine sv 65 (iT (i:Int)) ?_
     refine sv 66 (pT aA 1) ?_
     refine sw 67 (.pointer (some ⟨aA,1+1*i,none⟩)) rfl (zF4 aA 1 4 48 1 i (by omega)) ?_
     refine sw 68 (v4 d0 d1 d2 d3 i) rfl (zM6 ae (by omega)) ?_
     refine sv 69 (iT (k:Int)) ?_
     refine sw 70 (adr (v4 d0 d1 d2 d3 i) (k*3)) rfl (zb1 (e:=97) hdl za7 (by decide) k (by omega) _ _ _ rfl rfl rfl (by kernel_rfl) (by kernel_rfl)) ?_
     obtain ⟨_,_,rfl,hk⟩:=Sl.get hdl (by decide) (zb5 (f:=(fun z1=>(x.dl i z1))) (n:=(x.dn i)) (i:=k) (by omega))
     refine sw 71 (.agg #[.int .i8 ((x.dl i k).1),.int .i8 ((x.dl i k).2.1),.int .u8 ((x.dl i k).2.2)]) rfl (ze7 [.int .i8 ((x.dl i k).1),.int .i8 ((x.dl i k).2.1),.int .u8 ((x.dl i k).2.2)] (hk.gr hB) _ _ rfl rfl (by kernel_rfl)) ?_
     refine se ?_
     refine ec 72 (zG2 (d:=x.dl i k) (hx.ok.dl i k)) ?_
     rintro kZ mf ⟨rfl,d5⟩
     refine ⟨_,rfl,?_⟩
     replace hB:=hB.trans d5
     replace hR:=hR.trans d5
     simp only [p3,p4]
     refine se ?_
     refine zc5 68 1 #[iT ((x.opt i k).1),iT ((x.opt i k).2.1),iT ((x.opt i k).2.2)] (some 73) rfl (fun _=>by kernel_rfl) (fun j9 lM dT kl f2=>?_)
     replace ae:=ae.gr d5
     replace af:=af.gr d5
     replace ad:=ad.gr d5
     have fM:=(oo_.gr (za1 za4 68 3) hR).ne f2
     have ex:=(ak.gr zb3 hR).ne f2
     replace ok_:=ok_.gr za4 d5
     have fJ:=ok_.ne f2
     have gI:=Nat.le_trans (Below.size hR) f2
     replace hB:=hB.trans dT
     replace hR:=hR.trans dT
     simp only [zd0,p3,p4]
     refine se ?_
     replace ok_:=ok_.gr za4 dT
     refine zd9 za4 _ _ 72 68 gd.heap.size (.agg #[iT 0,iT 0,iT 0]) vk (tb (fun z1=>(x.opt i z1)) k) j9 [iT ((x.opt i k).1),iT ((x.opt i k).2.1),iT ((x.opt i k).2.2)] (x.opt i k) 3 1 (some 74) 24 rfl rfl rfl rfl ok_ kl ⟨rfl,rfl,rfl,trivial⟩ rfl rfl (Below.size hR) (by rw [za7];omega) (by decide) (by kernel_rfl) (by kernel_rfl) (by decide) (by decide) (fun hC mi dq dC fH=>?_)
     replace hB:=fH _ hB lehR
     replace hR:=fH _ hR (Nat.le_refl _)
     replace dq:=dq.cast (zd8 (f:=(fun z1=>(x.opt i z1))) (n:=k) (by first | rfl | exact ze1))
     simp only [zd0,p3,p4]
     refine sv 7 hC (za0 (jB _ _ ?_))
     refine rg [0,1,2] (sv 62 (iT (k:Int)) ?_)
     refine sw 63 (iT ((k:Int)+1)) rfl (rwI ((k:Int)+1)) ?_
     refine sv 8 (iT ((k:Int)+1)) ?_
     refine za0 ?_
     replace ae:=dC.lc (ae.gr dT) (by decide)
     replace af:=dC.lc (af.gr dT) (by decide)
     replace ad:=dC.lc (ad.gr dT) (by decide)
     refine iI ((x.dm i) - (k+1)) ⟨List.toArray ?l49,[]⟩ _ (by omega) ?_
     exact ⟨k+1,hC,(fun i=>List.getD ?l49 i undef),rfl,rfl,(by omega),dq,ae,af,ad,hR,hB⟩
    have hek:=dm_c (x:=x) (by have:=of_decide_eq_false dM;omega) hkk
    refine wp_exit ?_
    simp only [Exit.then,Exit.inBlock,↓reduceIte]
    refine hL _ _ ?_
    refine wp_seq_k (fun k7 hP=>wp_seq_k (fun kY jT=>?_))
    subst hek
    refine rg [0,1,2] (sv 75 vk ?_)
    refine sw 76 (iT (((x.dm i):Nat):Int)) rfl (za9 (e:=68) ok_.sl (za8 rfl) _ _ rfl rfl (by kernel_rfl)) ?_
    refine sv 77 (.bool ((((x.dm i):Nat):Int)==(0:Int))) (za0 (jT _ _ ?_))
    refine wp_cond_split rfl (fun dy=>?_) (fun dy=>?_)
    ·have bs:((x.dm i:Nat):Int)=0:=beq_iff_eq.1 dy
     refine rg [0,1,2] (sv 78 (.agg #[iT 0,iT 0,iT 0]) ?_)
     refine se ?_
     refine zc5 68 1 #[iT 0,iT 0,iT 0] (some 79) rfl (fun _=>by kernel_rfl) (fun f6 ml eP jz gf=>?_)
     have eZ:=(oo_.gr (za1 za4 68 3) hR).ne gf
     have eB:=(ak.gr zb3 hR).ne gf
     have fR:=ok_.ne gf
     have hp:=Nat.le_trans (Below.size hR) gf
     replace hB:=hB.trans eP
     replace hR:=hR.trans eP
     simp only [zd0,p3,p4]
     refine sv 7 (sT f6 1 1) (za0 (hP _ _ ?_))
     replace oo_:=oo_.gr (za1 za4 68 3) hR
     replace ak:=ak.gr zb3 hR
     have dB:=(zq1 (E:=EOp) (c:=3) (xs:=[(0,0,0)]) jz (Els.one rfl rfl) rfl).cast (row_0 bs)
     refine rg [0,1,2,3,4,5,6] (sv 80 (pT az 1) ?_)
     replace ad:=ad.gr eP
     refine sw 81 vo rfl (rk 23 1 ad) ?_
     refine sv 82 (sT f6 1 1) ?_
     refine se ?_
     refine zc5 72 1 #[sT f6 1 1] (some 83) rfl (fun _=>by kernel_rfl) (fun jH lW df kj gh=>?_)
     replace ae:=ae.gr eP
     replace af:=af.gr eP
     have fl:=oo_.ne gh
     have et:=ak.ne gh
     replace ok_:=ok_.gr za4 eP
     have e5:=ok_.ne gh
     have hb:=Nat.le_trans (Below.size hR) gh
     replace hB:=hB.trans df
     replace hR:=hR.trans df
     simp only [zd0,p3,p4]
     refine se ?_
     replace dB:=dB.gr za4 df
     replace oo_:=oo_.gr (za1 za4 68 3) df
     refine zd9 (za1 za4 68 3) _ _ 23 72 w.heap.size (sN) vo (tb (fun z0=>tb (fun z1=>(x.op z0 z1)) (x.ol z0)) i) jH [sT f6 1 1] (tb (fun z1=>(x.op i z1)) (x.ol i)) 1 1 (some 84) 24 rfl rfl rfl rfl oo_ kj ⟨rfl,trivial⟩ rfl ⟨_,rfl,dB⟩ (Below.size hB) (by rw [za7];omega) (by decide) (by kernel_rfl) (by kernel_rfl) (by decide) (by decide) (fun fT k2 bD cJ gP=>?_)
     replace hB:=gP _ hB (Nat.le_refl _)
     replace bD:=bD.cast (zd8 (f:=(fun z0=>tb (fun z1=>(x.op z0 z1)) (x.ol z0))) (n:=i) (by first | rfl | exact ze1))
     simp only [zd0,p3,p4]
     refine sv 85 (pT az 1) ?_
     refine se ?_
     replace ad:=cJ.lc (ad.gr df) (by decide)
     have fI:=ad
     refine es (hv:=(by obtain ⟨_,_,e,_⟩:=(bD.sl).form;rw [e];rfl)) 23 1 fT [fT] #[bT,fT,sN] ad hB bM ⟨bD.one,trivial⟩ fun k9 cO jS ad hB=>?_
     refine za0 (da _ _ ?_)
     refine rg [0,1,2] (sv 25 (iT (i:Int)) ?_)
     refine sw 26 (iT ((i:Int)+1)) rfl (rwI ((i:Int)+1)) ?_
     refine sv 5 (iT ((i:Int)+1)) ?_
     refine za0 ?_
     replace ak:=((ak.gr zb3 df).kts zb3 (cJ.kts (by decide))).kts zb3 (cO.kts fI (by decide))
     replace bD:=bD.kts (za1 za4 68 3) (cO.kts fI (by decide))
     replace ae:=cO.lc (cJ.lc (ae.gr df) (by decide)) aj
     replace af:=cO.lc (cJ.lc (af.gr df) (by decide)) ai
     refine dj (x.n - (i+1)) ⟨List.toArray ?l58,[]⟩ _ (by omega) ?_
     exact ⟨i+1,bT,fT,(fun i=>List.getD ?l58 i undef),rfl,rfl,(by omega),ak,bD,ae,af,ad,hB⟩
    have bs:¬ (((x.dm i:Nat):Int)=0):=beq_eq_false_iff_ne.1 dy
    refine wp_skip ?_
    refine hP _ _ ?_
    replace oo_:=oo_.gr (za1 za4 68 3) hR
    replace ak:=ak.gr zb3 hR
    have bY:=(ok_.sl).cast (row_k bs)
    refine rg [0,1,2,3,4,5,6] (sv 80 (pT az 1) ?_)
    refine sw 81 vo rfl (rk 23 1 ad) ?_
    refine sv 82 vk ?_
    refine se ?_
    refine zq0 23 72 vk (some 83) rfl rfl rfl bY.forms (fun _ _ _ _=>by kernel_rfl) (fun kg lv c8 il ha=>?_)
    have fG:=oo_.ne ha
    have eL:=ak.ne ha
    have gD:=Nat.le_trans (Below.size hR) ha
    replace hB:=hB.trans c8
    replace hR:=hR.trans c8
    simp only [zd0,p3,p4]
    refine se ?_
    replace bY:=bY.gr za4 c8
    replace oo_:=oo_.gr (za1 za4 68 3) c8
    refine zd9 (za1 za4 68 3) _ _ 23 72 w.heap.size (sN) vo (tb (fun z0=>tb (fun z1=>(x.op z0 z1)) (x.ol z0)) i) kg [vk] (tb (fun z1=>(x.op i z1)) (x.ol i)) 1 1 (some 84) 24 rfl rfl rfl rfl oo_ il ⟨bY.one,trivial⟩ rfl ⟨_,rfl,bY⟩ (Below.size hB) (by rw [za7];omega) (by decide) (by kernel_rfl) (by kernel_rfl) (by decide) (by decide) (fun f3 lx bC cF hm=>?_)
    replace hB:=hm _ hB (Nat.le_refl _)
    replace bC:=bC.cast (zd8 (f:=(fun z0=>tb (fun z1=>(x.op z0 z1)) (x.ol z0))) (n:=i) (by first | rfl | exact ze1))
    simp only [zd0,p3,p4]
    refine sv 85 (pT az 1) ?_
    refine se ?_
    replace ad:=cF.lc (ad.gr c8) (by decide)
    have e6:=ad
    refine es (hv:=(by obtain ⟨_,_,e,_⟩:=(bC.sl).form;rw [e];rfl)) 23 1 f3 [f3] #[bT,f3,sN] ad hB bM ⟨bC.one,trivial⟩ fun l7 cA jE ad hB=>?_
    refine za0 (da _ _ ?_)
    refine rg [0,1,2] (sv 25 (iT (i:Int)) ?_)
    refine sw 26 (iT ((i:Int)+1)) rfl (rwI ((i:Int)+1)) ?_
    refine sv 5 (iT ((i:Int)+1)) ?_
    refine za0 ?_
    replace ak:=((ak.gr zb3 c8).kts zb3 (cF.kts (by decide))).kts zb3 (cA.kts e6 (by decide))
    replace bC:=bC.kts (za1 za4 68 3) (cA.kts e6 (by decide))
    replace ae:=cA.lc (cF.lc (ae.gr c8) (by decide)) aj
    replace af:=cA.lc (cF.lc (af.gr c8) (by decide)) ai
    refine dj (x.n - (i+1)) ⟨List.toArray ?l63,[]⟩ _ (by omega) ?_
    exact ⟨i+1,bT,f3,(fun i=>List.getD ?l63 i undef),rfl,rfl,(by omega),ak,bC,ae,af,ad,hB⟩
   have hek:=dm_a (x:=x) (by have:=of_decide_eq_false hb42;omega) hkk
   refine swk 58 (.bool false) [(8,59),(9,60)] rfl (RunV.bool (x:=decide ((k:Int)<((x.dn i:Nat):Int))) (rvk (by kernel_rfl)) hb42) ?_
   refine sv 61 (.bool false) (za0 (hE _ _ ?_))
   refine wp_cond_false rfl ?_
   refine wp_exit ?_
   simp only [Exit.then,Exit.inBlock,↓reduceIte]
   refine hL _ _ ?_
   refine wp_seq_k (fun lg hW=>wp_seq_k (fun la iG=>?_))
   subst hek
   refine rg [0,1,2] (sv 75 vk ?_)
   refine sw 76 (iT (((x.dm i):Nat):Int)) rfl (za9 (e:=68) ok_.sl (za8 rfl) _ _ rfl rfl (by kernel_rfl)) ?_
   refine sv 77 (.bool ((((x.dm i):Nat):Int)==(0:Int))) (za0 (iG _ _ ?_))
   refine wp_cond_split rfl (fun dx=>?_) (fun dx=>?_)
   ·have bs:((x.dm i:Nat):Int)=0:=beq_iff_eq.1 dx
    refine rg [0,1,2] (sv 78 (.agg #[iT 0,iT 0,iT 0]) ?_)
    refine se ?_
    refine zc5 68 1 #[iT 0,iT 0,iT 0] (some 79) rfl (fun _=>by kernel_rfl) (fun gb mq eA je fX=>?_)
    have e3:=(oo_.gr (za1 za4 68 3) hR).ne fX
    have dO:=(ak.gr zb3 hR).ne fX
    have fa:=ok_.ne fX
    have gt:=Nat.le_trans (Below.size hR) fX
    replace hB:=hB.trans eA
    replace hR:=hR.trans eA
    simp only [zd0,p3,p4]
    refine sv 7 (sT gb 1 1) (za0 (hW _ _ ?_))
    replace oo_:=oo_.gr (za1 za4 68 3) hR
    replace ak:=ak.gr zb3 hR
    have dz:=(zq1 (E:=EOp) (c:=3) (xs:=[(0,0,0)]) je (Els.one rfl rfl) rfl).cast (row_0 bs)
    refine rg [0,1,2,3,4,5,6] (sv 80 (pT az 1) ?_)
    replace ad:=ad.gr eA
    refine sw 81 vo rfl (rk 23 1 ad) ?_
    refine sv 82 (sT gb 1 1) ?_
    refine se ?_
    refine zc5 72 1 #[sT gb 1 1] (some 83) rfl (fun _=>by kernel_rfl) (fun j6 lY db kP fV=>?_)
    replace ae:=ae.gr eA
    replace af:=af.gr eA
    have fL:=oo_.ne fV
    have eC:=ak.ne fV
    replace ok_:=ok_.gr za4 eA
    have fQ:=ok_.ne fV
    have hd:=Nat.le_trans (Below.size hR) fV
    replace hB:=hB.trans db
    replace hR:=hR.trans db
    simp only [zd0,p3,p4]
    refine se ?_
    replace dz:=dz.gr za4 db
    replace oo_:=oo_.gr (za1 za4 68 3) db
    refine zd9 (za1 za4 68 3) _ _ 23 72 w.heap.size (sN) vo (tb (fun z0=>tb (fun z1=>(x.op z0 z1)) (x.ol z0)) i) j6 [sT gb 1 1] (tb (fun z1=>(x.op i z1)) (x.ol i)) 1 1 (some 84) 24 rfl rfl rfl rfl oo_ kP ⟨rfl,trivial⟩ rfl ⟨_,rfl,dz⟩ (Below.size hB) (by rw [za7];omega) (by decide) (by kernel_rfl) (by kernel_rfl) (by decide) (by decide) (fun gg lL bo cK g8=>?_)
    replace hB:=g8 _ hB (Nat.le_refl _)
    replace bo:=bo.cast (zd8 (f:=(fun z0=>tb (fun z1=>(x.op z0 z1)) (x.ol z0))) (n:=i) (by first | rfl | exact ze1))
    simp only [zd0,p3,p4]
    refine sv 85 (pT az 1) ?_
    refine se ?_
    replace ad:=cK.lc (ad.gr db) (by decide)
    have fS:=ad
    refine es (hv:=(by obtain ⟨_,_,e,_⟩:=(bo.sl).form;rw [e];rfl)) 23 1 gg [gg] #[bT,gg,sN] ad hB bM ⟨bo.one,trivial⟩ fun mh cU kd ad hB=>?_
    refine za0 (da _ _ ?_)
    refine rg [0,1,2] (sv 25 (iT (i:Int)) ?_)
    refine sw 26 (iT ((i:Int)+1)) rfl (rwI ((i:Int)+1)) ?_
    refine sv 5 (iT ((i:Int)+1)) ?_
    refine za0 ?_
    replace ak:=((ak.gr zb3 db).kts zb3 (cK.kts (by decide))).kts zb3 (cU.kts fS (by decide))
    replace bo:=bo.kts (za1 za4 68 3) (cU.kts fS (by decide))
    replace ae:=cU.lc (cK.lc (ae.gr db) (by decide)) aj
    replace af:=cU.lc (cK.lc (af.gr db) (by decide)) ai
    refine dj (x.n - (i+1)) ⟨List.toArray ?l72,[]⟩ _ (by omega) ?_
    exact ⟨i+1,bT,gg,(fun i=>List.getD ?l72 i undef),rfl,rfl,(by omega),ak,bo,ae,af,ad,hB⟩
   have bs:¬ (((x.dm i:Nat):Int)=0):=beq_eq_false_iff_ne.1 dx
   refine wp_skip ?_
   refine hW _ _ ?_
   replace oo_:=oo_.gr (za1 za4 68 3) hR
   replace ak:=ak.gr zb3 hR
   have cl:=(ok_.sl).cast (row_k bs)
   refine rg [0,1,2,3,4,5,6] (sv 80 (pT az 1) ?_)
   refine sw 81 vo rfl (rk 23 1 ad) ?_
   refine sv 82 vk ?_
   refine se ?_
   refine zq0 23 72 vk (some 83) rfl rfl rfl cl.forms (fun _ _ _ _=>by kernel_rfl) (fun jR ls de jv hr=>?_)
   have fB:=oo_.ne hr
   have dS:=ak.ne hr
   have gk:=Nat.le_trans (Below.size hR) hr
   replace hB:=hB.trans de
   replace hR:=hR.trans de
   simp only [zd0,p3,p4]
   refine se ?_
   replace cl:=cl.gr za4 de
   replace oo_:=oo_.gr (za1 za4 68 3) de
   refine zd9 (za1 za4 68 3) _ _ 23 72 w.heap.size (sN) vo (tb (fun z0=>tb (fun z1=>(x.op z0 z1)) (x.ol z0)) i) jR [vk] (tb (fun z1=>(x.op i z1)) (x.ol i)) 1 1 (some 84) 24 rfl rfl rfl rfl oo_ jv ⟨cl.one,trivial⟩ rfl ⟨_,rfl,cl⟩ (Below.size hB) (by rw [za7];omega) (by decide) (by kernel_rfl) (by kernel_rfl) (by decide) (by decide) (fun fY k5 bq cV g9=>?_)
   replace hB:=g9 _ hB (Nat.le_refl _)
   replace bq:=bq.cast (zd8 (f:=(fun z0=>tb (fun z1=>(x.op z0 z1)) (x.ol z0))) (n:=i) (by first | rfl | exact ze1))
   simp only [zd0,p3,p4]
   refine sv 85 (pT az 1) ?_
   refine se ?_
   replace ad:=cV.lc (ad.gr de) (by decide)
   have fP:=ad
   refine es (hv:=(by obtain ⟨_,_,e,_⟩:=(bq.sl).form;rw [e];rfl)) 23 1 fY [fY] #[bT,fY,sN] ad hB bM ⟨bq.one,trivial⟩ fun l6 cM kh ad hB=>?_
   refine za0 (da _ _ ?_)
   refine rg [0,1,2] (sv 25 (iT (i:Int)) ?_)
   refine sw 26 (iT ((i:Int)+1)) rfl (rwI ((i:Int)+1)) ?_
   refine sv 5 (iT ((i:Int)+1)) ?_
   refine za0 ?_
   replace ak:=((ak.gr zb3 de).kts zb3 (cV.kts (by decide))).kts zb3 (cM.kts fP (by decide))
   replace bq:=bq.kts (za1 za4 68 3) (cM.kts fP (by decide))
   replace ae:=cM.lc (cV.lc (ae.gr de) (by decide)) aj
   replace af:=cM.lc (cV.lc (af.gr de) (by decide)) ai
   refine dj (x.n - (i+1)) ⟨List.toArray ?l77,[]⟩ _ (by omega) ?_
   exact ⟨i+1,bT,fY,(fun i=>List.getD ?l77 i undef),rfl,rfl,(by omega),ak,bq,ae,af,ad,hB⟩
  have hin:¬ i<x.nn:=by have:=of_decide_eq_false dE;omega
  refine wp_skip ?_
  refine hI _ _ ?_
  refine wp_seq_k (fun ly ih=>rg [0,1,2,3,4,5,6] (sv 45 (pT az 0) ?_))
  replace ad:=aT.lc (ad.gr cG) aW
  refine sw 46 vd rfl (rk 22 0 ad) ?_
  refine sw 47 (.agg #[sV (Dsc.ltr (97+i)),iT 0,iT 0,iT 0]) rfl (rl 71 0 [sV (Dsc.ltr (97+i)),iT 0,iT 0,iT 0] dF) ?_
  refine se ?_
  refine zc5 71 1 #[sV (Dsc.ltr (97+i)),iT 0,iT 0,iT 0] (some 48) rfl (fun _=>by kernel_rfl) (fun jQ ms eD i6 hF=>?_)
  replace af:=aT.lc (af.gr cG) aV
  replace od_:=(od_.gr zb3 cG).st zb3 aT b1 (aT.kts fb (by decide))
  have fN:=od_.ne hF
  replace oo_:=(oo_.gr (za1 za4 68 3) cG).kts (za1 za4 68 3) (aT.kts fb (by decide))
  have eY:=oo_.ne hF
  replace hB:=hB.trans eD
  simp only [zd0,p3,p4]
  refine se ?_
  replace od_:=od_.gr zb3 eD
  refine zd9 zb3 _ _ 22 71 w.heap.size (.agg #[sV [],iT 0,iT 0,iT 0]) vd (tb (fun z1=>(⟨Dsc.dnm z1,x.nom z1,0,0⟩:Dmn)) i) jQ [sV (Dsc.ltr (97+i)),iT 0,iT 0,iT 0] (⟨Dsc.dnm i,x.nom i,0,0⟩:Dmn) 4 1 (some 49) 40 rfl rfl rfl rfl od_ i6 ⟨rfl,rfl,rfl,rfl,trivial⟩ rfl (edg_out hin) (Below.size hB) (by rw [za7];omega) (by decide) (by kernel_rfl) (by kernel_rfl) (by decide) (by decide) (fun bU kS al cZ gF=>?_)
  replace hB:=gF _ hB (Nat.le_refl _)
  replace al:=al.cast (zd8 (f:=(fun z1=>(⟨Dsc.dnm z1,x.nom z1,0,0⟩:Dmn))) (n:=i) (by first | rfl | exact ze1))
  simp only [zd0,p3,p4]
  refine sv 50 (pT az 0) ?_
  refine se ?_
  replace ad:=cZ.lc (ad.gr eD) (by decide)
  have fD:=ad
  refine es (hv:=(by obtain ⟨_,_,e,_⟩:=(al.sl).form;rw [e];rfl)) 22 0 bU [bU] #[bU,vo,sN] ad hB bM ⟨al.one,trivial⟩ fun fZ cI iY ad hB=>?_
  refine za0 (ih _ _ ?_)
  refine wp_seq_k (fun lN jy=>?_)
  have lehR:=Below.size hB
  have hR:=Gr.refl fZ
  replace ae:=cI.lc (cZ.lc (ae.gr eD) (by decide)) aj
  replace af:=cI.lc (cZ.lc (af.gr eD) (by decide)) ai
  replace oo_:=((oo_.gr (za1 za4 68 3) eD).kts (za1 za4 68 3) (cZ.kts (by decide))).kts (za1 za4 68 3) (cI.kts fD (by decide))
  replace al:=al.kts zb3 (cI.kts fD (by decide))
  obtain ⟨Td,hdl⟩:=hx.d4 (hT hli)
  refine rg [0] (sv 7 (sN) ?_)
  refine za0 (jy _ _ ?_)
  refine wp_seq_k (fun lS hN=>wp_seq_k (fun kT ji=>rg [0] (sv 8 (iT 0) ?_)))
  refine za0 (ji _ _ ?_)
  refine wp_block ?_
  have hxo:=hx.ok.dl i
  refine zb2 (a:=⟨List.toArray ?l85,[]⟩) (fun n a w'=>∃ (k:Nat) (vk:Value) (ap:Nat→Value),(x.dm i) - k=n∧a=⟨[.agg #[vn,d0,d1,d2,d3,vr],pT aA 0,pT cw 0,pT az 0,iT ((x.n:Nat):Int),iT (i:Int),pT gs 0,vk,iT (k:Int),undef,undef,undef,undef,undef,undef,undef,undef,ap 17,ap 18,ap 19,ap 20,ap 21,ap 22,ap 23,.bool (decide ((i:Int)<((x.n:Nat):Int))),ap 25,ap 26,ap 27,ap 28,ap 29,ap 30,ap 31,ap 32,ap 33,ap 34,ap 35,ap 36,.bool (decide ((i:Int)<((x.nn:Nat):Int))),ap 38,ap 39,ap 40,ap 41,ap 42,ap 43,ap 44,ap 45,ap 46,ap 47,ap 48,ap 49,ap 50,ap 51,ap 52,ap 53,ap 54,ap 55,ap 56,ap 57,ap 58,ap 59,ap 60,ap 61,ap 62,ap 63,ap 64,ap 65,ap 66,ap 67,ap 68,ap 69,ap 70,ap 71,ap 72,ap 73,ap 74,ap 75,ap 76,ah 77,ap 78,ap 79,ap 80,ap 81,ap 82,ap 83,ap 84,ap 85,undef,undef,undef,undef,undef,undef,undef,undef,undef,undef,undef,undef,undef,undef,undef,undef,undef,undef,undef,undef,undef,undef,undef,undef,undef,undef,undef,undef,undef,undef,undef,undef,undef,undef,undef,undef,undef,undef,undef,undef,undef,undef,undef,undef,undef,undef,undef,undef,undef,undef,undef,undef,undef,undef,undef,undef,undef,undef,undef,undef,undef,undef,undef,undef,undef,undef,undef,undef,undef,undef,undef,undef,undef,undef,undef,undef,undef,undef,undef,undef,undef,undef,undef,undef,undef,undef,undef,undef,undef,undef,undef,undef,undef,undef,undef,undef,undef,undef,undef,undef,undef,undef,undef,undef,undef,undef,undef,undef,undef,undef].toArray,[]⟩∧k≤(x.dm i)∧Ow EOp 68 3 w' fZ.heap.size vk (tb (fun z1=>(x.opt i z1)) k)∧Lc w' aA #[vn,d0,d1,d2,d3,vr] 52∧Lc w' cw #[sN,sN,sN] 26∧Lc w' az #[bU,vo,sN] 26∧Gr fZ w'∧Gr w w') ((x.dm i) - 0) ?_ ?_
  ·exact ⟨0,sN,(fun i=>List.getD ?l85 i undef),rfl,rfl,Nat.zero_le _,Ow.nil _ _ _ _ _,ae,af,ad,hR,hB⟩
  rintro lJ lG lR ⟨k,vk,ap,rfl,rfl,hkk,ok_,ae,af,ad,hR,hB⟩ kW ij
  refine wp_seq_k (fun lm jw=>wp_seq_k (fun mc hy=>rg [0,1,2,3,4,5,6,7,8,9,10] (sv 51 (iT (k:Int)) ?_)))
  refine sv 52 (iT (i:Int)) ?_
  refine sv 53 (pT aA 1) ?_
  refine sw 54 (.pointer (some ⟨aA,1+1*i,none⟩)) rfl (zF4 aA 1 4 48 1 i (by omega)) ?_
  refine sw 55 (v4 d0 d1 d2 d3 i) rfl (zM6 ae (by omega)) ?_
  refine sw 56 (iT ((x.dn i:Nat):Int)) rfl (za9 (e:=97) hdl (za8 rfl) _ _ rfl rfl (by kernel_rfl)) ?_
  refine sv 57 (.bool (decide ((k:Int)<((x.dn i:Nat):Int)))) ?_
  rcases Bool.eq_false_or_eq_true (decide ((k:Int)<((x.dn i:Nat):Int))) with hb88 | hb88
  ·have hlu:k<x.dn i:=by have:=of_decide_eq_true hb88;omega
   refine sw 58 (.bool true) rfl (RunV.bool (x:=decide ((k:Int)<((x.dn i:Nat):Int))) (rvk (by kernel_rfl)) hb88) ?_
   refine sv 59 (iT (k:Int)) ?_
   refine sv 60 (.bool (decide ((k:Int)<(3:Int)))) ?_
   refine sv 61 (.bool (decide ((k:Int)<(3:Int)))) (za0 (hy _ _ ?_))
   refine wp_cond_split rfl (fun dr=>?_) (fun dr=>?_)
   ·have hlk:=dm_lt hlu (by have:=of_decide_eq_true dr;omega)
    refine wp_skip ?_
    refine jw _ _ ?_
    refine wp_seq_k (fun lp jo=>?_)
    refine wp_block ?_
    refine rg [0,1,2,3,4,5,6,7,8,9,10,11] (sv 64 vk ?_)
    refine sv 65 (iT (i:Int)) ?_
    refine sv 66 (pT aA 1) ?_
    refine sw 67 (.pointer (some ⟨aA,1+1*i,none⟩)) rfl (zF4 aA 1 4 48 1 i (by omega)) ?_
    refine sw 68 (v4 d0 d1 d2 d3 i) rfl (zM6 ae (by omega)) ?_
    refine sv 69 (iT (k:Int)) ?_
    refine sw 70 (adr (v4 d0 d1 d2 d3 i) (k*3)) rfl (zb1 (e:=97) hdl za7 (by decide) k (by omega) _ _ _ rfl rfl rfl (by kernel_rfl) (by kernel_rfl)) ?_
    obtain ⟨_,_,rfl,gL⟩:=Sl.get hdl (by decide) (zb5 (f:=(fun z1=>(x.dl i z1))) (n:=(x.dn i)) (i:=k) (by omega))
    refine sw 71 (.agg #[.int .i8 ((x.dl i k).1),.int .i8 ((x.dl i k).2.1),.int .u8 ((x.dl i k).2.2)]) rfl (ze7 [.int .i8 ((x.dl i k).1),.int .i8 ((x.dl i k).2.1),.int .u8 ((x.dl i k).2.2)] (gL.gr hB) _ _ rfl rfl (by kernel_rfl)) ?_
    refine se ?_
    refine ec 72 (zG2 (d:=x.dl i k) (hx.ok.dl i k)) ?_
    rintro lu lj ⟨rfl,dP⟩
    refine ⟨_,rfl,?_⟩
    replace hB:=hB.trans dP
    replace hR:=hR.trans dP
    simp only [p3,p4]
    refine se ?_
    refine zc5 68 1 #[iT ((x.opt i k).1),iT ((x.opt i k).2.1),iT ((x.opt i k).2.2)] (some 73) rfl (fun _=>by kernel_rfl) (fun j7 lX eu kv gc=>?_)
    replace ae:=ae.gr dP
    replace af:=af.gr dP
    replace ad:=ad.gr dP
    have e8:=(oo_.gr (za1 za4 68 3) hR).ne gc
    have dV:=(al.gr zb3 hR).ne gc
    replace ok_:=ok_.gr za4 dP
    have fm:=ok_.ne gc
    have gH:=Nat.le_trans (Below.size hR) gc
    replace hB:=hB.trans eu
    replace hR:=hR.trans eu
    simp only [zd0,p3,p4]
    refine se ?_
    replace ok_:=ok_.gr za4 eu
    refine zd9 za4 _ _ 72 68 fZ.heap.size (.agg #[iT 0,iT 0,iT 0]) vk (tb (fun z1=>(x.opt i z1)) k) j7 [iT ((x.opt i k).1),iT ((x.opt i k).2.1),iT ((x.opt i k).2.2)] (x.opt i k) 3 1 (some 74) 24 rfl rfl rfl rfl ok_ kv ⟨rfl,rfl,rfl,trivial⟩ rfl rfl (Below.size hR) (by rw [za7];omega) (by decide) (by kernel_rfl) (by kernel_rfl) (by decide) (by decide) (fun hZ lh dJ dK e1=>?_)
    replace hB:=e1 _ hB lehR
    replace hR:=e1 _ hR (Nat.le_refl _)
    replace dJ:=dJ.cast (zd8 (f:=(fun z1=>(x.opt i z1))) (n:=k) (by first | rfl | exact ze1))
    simp only [zd0,p3,p4]
    refine sv 7 hZ (za0 (jo _ _ ?_))
    refine rg [0,1,2] (sv 62 (iT (k:Int)) ?_)
    refine sw 63 (iT ((k:Int)+1)) rfl (rwI ((k:Int)+1)) ?_
    refine sv 8 (iT ((k:Int)+1)) ?_
    refine za0 ?_
    replace ae:=dK.lc (ae.gr eu) (by decide)
    replace af:=dK.lc (af.gr eu) (by decide)
    replace ad:=dK.lc (ad.gr eu) (by decide)
    refine ij ((x.dm i) - (k+1)) ⟨List.toArray ?l95,[]⟩ _ (by omega) ?_
    exact ⟨k+1,hZ,(fun i=>List.getD ?l95 i undef),rfl,rfl,(by omega),dJ,ae,af,ad,hR,hB⟩
   have hek:=dm_c (x:=x) (by have:=of_decide_eq_false dr;omega) hkk
   refine wp_exit ?_
   simp only [Exit.then,Exit.inBlock,↓reduceIte]
   refine hN _ _ ?_
   refine wp_seq_k (fun k6 h5=>wp_seq_k (fun lI jW=>?_))
   subst hek
   refine rg [0,1,2] (sv 75 vk ?_)
   refine sw 76 (iT (((x.dm i):Nat):Int)) rfl (za9 (e:=68) ok_.sl (za8 rfl) _ _ rfl rfl (by kernel_rfl)) ?_
   refine sv 77 (.bool ((((x.dm i):Nat):Int)==(0:Int))) (za0 (jW _ _ ?_))
   refine wp_cond_split rfl (fun dL=>?_) (fun dL=>?_)
   ·have bs:((x.dm i:Nat):Int)=0:=beq_iff_eq.1 dL
    refine rg [0,1,2] (sv 78 (.agg #[iT 0,iT 0,iT 0]) ?_)
    refine se ?_
    refine zc5 68 1 #[iT 0,iT 0,iT 0] (some 79) rfl (fun _=>by kernel_rfl) (fun f9 lH eE kN f7=>?_)
    have fs:=(oo_.gr (za1 za4 68 3) hR).ne f7
    have dY:=(al.gr zb3 hR).ne f7
    have eW:=ok_.ne f7
    have gl:=Nat.le_trans (Below.size hR) f7
    replace hB:=hB.trans eE
    replace hR:=hR.trans eE
    simp only [zd0,p3,p4]
    refine sv 7 (sT f9 1 1) (za0 (h5 _ _ ?_))
    replace oo_:=oo_.gr (za1 za4 68 3) hR
    replace al:=al.gr zb3 hR
    have b2:=(zq1 (E:=EOp) (c:=3) (xs:=[(0,0,0)]) kN (Els.one rfl rfl) rfl).cast (row_0 bs)
    refine rg [0,1,2,3,4,5,6] (sv 80 (pT az 1) ?_)
    replace ad:=ad.gr eE
    refine sw 81 vo rfl (rk 23 1 ad) ?_
    refine sv 82 (sT f9 1 1) ?_
    refine se ?_
    refine zc5 72 1 #[sT f9 1 1] (some 83) rfl (fun _=>by kernel_rfl) (fun g1 kJ a7 gN cL=>?_)
    replace ae:=ae.gr eE
    replace af:=af.gr eE
    have dU:=oo_.ne cL
    have dD:=al.ne cL
    replace ok_:=ok_.gr za4 eE
    have eM:=ok_.ne cL
    have f4:=Nat.le_trans (Below.size hR) cL
    replace hB:=hB.trans a7
    replace hR:=hR.trans a7
    simp only [zd0,p3,p4]
    refine se ?_
    replace b2:=b2.gr za4 a7
    replace oo_:=oo_.gr (za1 za4 68 3) a7
    refine zd9 (za1 za4 68 3) _ _ 23 72 w.heap.size (sN) vo (tb (fun z0=>tb (fun z1=>(x.op z0 z1)) (x.ol z0)) i) g1 [sT f9 1 1] (tb (fun z1=>(x.op i z1)) (x.ol i)) 1 1 (some 84) 24 rfl rfl rfl rfl oo_ gN ⟨rfl,trivial⟩ rfl ⟨_,rfl,b2⟩ (Below.size hB) (by rw [za7];omega) (by decide) (by kernel_rfl) (by kernel_rfl) (by decide) (by decide) (fun cT ix aP bJ fy=>?_)
    replace hB:=fy _ hB (Nat.le_refl _)
    replace aP:=aP.cast (zd8 (f:=(fun z0=>tb (fun z1=>(x.op z0 z1)) (x.ol z0))) (n:=i) (by first | rfl | exact ze1))
    simp only [zd0,p3,p4]
    refine sv 85 (pT az 1) ?_
    refine se ?_
    replace ad:=bJ.lc (ad.gr a7) (by decide)
    have dc:=ad
    refine es (hv:=(by obtain ⟨_,_,e,_⟩:=(aP.sl).form;rw [e];rfl)) 23 1 cT [cT] #[bU,cT,sN] ad hB bM ⟨aP.one,trivial⟩ fun iQ bF hO ad hB=>?_
    refine za0 (da _ _ ?_)
    refine rg [0,1,2] (sv 25 (iT (i:Int)) ?_)
    refine sw 26 (iT ((i:Int)+1)) rfl (rwI ((i:Int)+1)) ?_
    refine sv 5 (iT ((i:Int)+1)) ?_
    refine za0 ?_
    replace al:=((al.gr zb3 a7).kts zb3 (bJ.kts (by decide))).kts zb3 (bF.kts dc (by decide))
    replace aP:=aP.kts (za1 za4 68 3) (bF.kts dc (by decide))
    replace ae:=bF.lc (bJ.lc (ae.gr a7) (by decide)) aj
    replace af:=bF.lc (bJ.lc (af.gr a7) (by decide)) ai
    refine dj (x.n - (i+1)) ⟨List.toArray ?l104,[]⟩ _ (by omega) ?_
    exact ⟨i+1,bU,cT,(fun i=>List.getD ?l104 i undef),rfl,rfl,(by omega),al,aP,ae,af,ad,hB⟩
   have bs:¬ (((x.dm i:Nat):Int)=0):=beq_eq_false_iff_ne.1 dL
   refine wp_skip ?_
   refine h5 _ _ ?_
   replace oo_:=oo_.gr (za1 za4 68 3) hR
   replace al:=al.gr zb3 hR
   have a1:=(ok_.sl).cast (row_k bs)
   refine rg [0,1,2,3,4,5,6] (sv 80 (pT az 1) ?_)
   refine sw 81 vo rfl (rk 23 1 ad) ?_
   refine sv 82 vk ?_
   refine se ?_
   refine zq0 23 72 vk (some 83) rfl rfl rfl a1.forms (fun _ _ _ _=>by kernel_rfl) (fun gQ jk a2 gV dw=>?_)
   have d7:=oo_.ne dw
   have dA:=al.ne dw
   have f0:=Nat.le_trans (Below.size hR) dw
   replace hB:=hB.trans a2
   replace hR:=hR.trans a2
   simp only [zd0,p3,p4]
   refine se ?_
   replace a1:=a1.gr za4 a2
   replace oo_:=oo_.gr (za1 za4 68 3) a2
   refine zd9 (za1 za4 68 3) _ _ 23 72 w.heap.size (sN) vo (tb (fun z0=>tb (fun z1=>(x.op z0 z1)) (x.ol z0)) i) gQ [vk] (tb (fun z1=>(x.op i z1)) (x.ol i)) 1 1 (some 84) 24 rfl rfl rfl rfl oo_ gV ⟨a1.one,trivial⟩ rfl ⟨_,rfl,a1⟩ (Below.size hB) (by rw [za7];omega) (by decide) (by kernel_rfl) (by kernel_rfl) (by decide) (by decide) (fun cY id aL bO fE=>?_)
   replace hB:=fE _ hB (Nat.le_refl _)
   replace aL:=aL.cast (zd8 (f:=(fun z0=>tb (fun z1=>(x.op z0 z1)) (x.ol z0))) (n:=i) (by first | rfl | exact ze1))
   simp only [zd0,p3,p4]
   refine sv 85 (pT az 1) ?_
   refine se ?_
   replace ad:=bO.lc (ad.gr a2) (by decide)
   have dk:=ad
   refine es (hv:=(by obtain ⟨_,_,e,_⟩:=(aL.sl).form;rw [e];rfl)) 23 1 cY [cY] #[bU,cY,sN] ad hB bM ⟨aL.one,trivial⟩ fun ip bL h0 ad hB=>?_
   refine za0 (da _ _ ?_)
   refine rg [0,1,2] (sv 25 (iT (i:Int)) ?_)
   refine sw 26 (iT ((i:Int)+1)) rfl (rwI ((i:Int)+1)) ?_
   refine sv 5 (iT ((i:Int)+1)) ?_
   refine za0 ?_
   replace al:=((al.gr zb3 a2).kts zb3 (bO.kts (by decide))).kts zb3 (bL.kts dk (by decide))
   replace aL:=aL.kts (za1 za4 68 3) (bL.kts dk (by decide))
   replace ae:=bL.lc (bO.lc (ae.gr a2) (by decide)) aj
   replace af:=bL.lc (bO.lc (af.gr a2) (by decide)) ai
   refine dj (x.n - (i+1)) ⟨List.toArray ?l109,[]⟩ _ (by omega) ?_
   exact ⟨i+1,bU,cY,(fun i=>List.getD ?l109 i undef),rfl,rfl,(by omega),al,aL,ae,af,ad,hB⟩
  have hek:=dm_a (x:=x) (by have:=of_decide_eq_false hb88;omega) hkk
  refine swk 58 (.bool false) [(8,59),(9,60)] rfl (RunV.bool (x:=decide ((k:Int)<((x.dn i:Nat):Int))) (rvk (by kernel_rfl)) hb88) ?_
  refine sv 61 (.bool false) (za0 (hy _ _ ?_))
  refine wp_cond_false rfl ?_
  refine wp_exit ?_
  simp only [Exit.then,Exit.inBlock,↓reduceIte]
  refine hN _ _ ?_
  refine wp_seq_k (fun jJ fA=>wp_seq_k (fun iX g7=>?_))
  subst hek
  refine rg [0,1,2] (sv 75 vk ?_)
  refine sw 76 (iT (((x.dm i):Nat):Int)) rfl (za9 (e:=68) ok_.sl (za8 rfl) _ _ rfl rfl (by kernel_rfl)) ?_
  refine sv 77 (.bool ((((x.dm i):Nat):Int)==(0:Int))) (za0 (g7 _ _ ?_))
  refine wp_cond_split rfl (fun bV=>?_) (fun bV=>?_)
  ·have bs:((x.dm i:Nat):Int)=0:=beq_iff_eq.1 bV
   refine rg [0,1,2] (sv 78 (.agg #[iT 0,iT 0,iT 0]) ?_)
   refine se ?_
   refine zc5 68 1 #[iT 0,iT 0,iT 0] (some 79) rfl (fun _=>by kernel_rfl) (fun cE kw bS gu c5=>?_)
   have dR:=(oo_.gr (za1 za4 68 3) hR).ne c5
   have dp:=(al.gr zb3 hR).ne c5
   have eQ:=ok_.ne c5
   have fU:=Nat.le_trans (Below.size hR) c5
   replace hB:=hB.trans bS
   replace hR:=hR.trans bS
   simp only [zd0,p3,p4]
   refine sv 7 (sT cE 1 1) (za0 (fA _ _ ?_))
   replace oo_:=oo_.gr (za1 za4 68 3) hR
   replace al:=al.gr zb3 hR
   have cr:=(zq1 (E:=EOp) (c:=3) (xs:=[(0,0,0)]) gu (Els.one rfl rfl) rfl).cast (row_0 bs)
   refine rg [0,1,2,3,4,5,6] (sv 80 (pT az 1) ?_)
   replace ad:=ad.gr bS
   refine sw 81 vo rfl (rk 23 1 ad) ?_
   refine sv 82 (sT cE 1 1) ?_
   refine se ?_
   refine zc5 72 1 #[sT cE 1 1] (some 83) rfl (fun _=>by kernel_rfl) (fun hq iw a8 gU c4=>?_)
   replace ae:=ae.gr bS
   replace af:=af.gr bS
   have ew:=oo_.ne c4
   have dG:=al.ne c4
   replace ok_:=ok_.gr za4 bS
   have eI:=ok_.ne c4
   have f5:=Nat.le_trans (Below.size hR) c4
   replace hB:=hB.trans a8
   replace hR:=hR.trans a8
   simp only [zd0,p3,p4]
   refine se ?_
   replace cr:=cr.gr za4 a8
   replace oo_:=oo_.gr (za1 za4 68 3) a8
   refine zd9 (za1 za4 68 3) _ _ 23 72 w.heap.size (sN) vo (tb (fun z0=>tb (fun z1=>(x.op z0 z1)) (x.ol z0)) i) hq [sT cE 1 1] (tb (fun z1=>(x.op i z1)) (x.ol i)) 1 1 (some 84) 24 rfl rfl rfl rfl oo_ gU ⟨rfl,trivial⟩ rfl ⟨_,rfl,cr⟩ (Below.size hB) (by rw [za7];omega) (by decide) (by kernel_rfl) (by kernel_rfl) (by decide) (by decide) (fun c6 iO aH bK fq=>?_)
   replace hB:=fq _ hB (Nat.le_refl _)
   replace aH:=aH.cast (zd8 (f:=(fun z0=>tb (fun z1=>(x.op z0 z1)) (x.ol z0))) (n:=i) (by first | rfl | exact ze1))
   simp only [zd0,p3,p4]
   refine sv 85 (pT az 1) ?_
   refine se ?_
   replace ad:=bK.lc (ad.gr a8) (by decide)
   have dd:=ad
   refine es (hv:=(by obtain ⟨_,_,e,_⟩:=(aH.sl).form;rw [e];rfl)) 23 1 c6 [c6] #[bU,c6,sN] ad hB bM ⟨aH.one,trivial⟩ fun jl bP hU ad hB=>?_
   refine za0 (da _ _ ?_)
   refine rg [0,1,2] (sv 25 (iT (i:Int)) ?_)
   refine sw 26 (iT ((i:Int)+1)) rfl (rwI ((i:Int)+1)) ?_
   refine sv 5 (iT ((i:Int)+1)) ?_
   refine za0 ?_
   replace al:=((al.gr zb3 a8).kts zb3 (bK.kts (by decide))).kts zb3 (bP.kts dd (by decide))
   replace aH:=aH.kts (za1 za4 68 3) (bP.kts dd (by decide))
   replace ae:=bP.lc (bK.lc (ae.gr a8) (by decide)) aj
   replace af:=bP.lc (bK.lc (af.gr a8) (by decide)) ai
   refine dj (x.n - (i+1)) ⟨List.toArray ?l118,[]⟩ _ (by omega) ?_
   exact ⟨i+1,bU,c6,(fun i=>List.getD ?l118 i undef),rfl,rfl,(by omega),al,aH,ae,af,ad,hB⟩
  have bs:¬ (((x.dm i:Nat):Int)=0):=beq_eq_false_iff_ne.1 bV
  refine wp_skip ?_
  refine fA _ _ ?_
  replace oo_:=oo_.gr (za1 za4 68 3) hR
  replace al:=al.gr zb3 hR
  have bi:=(ok_.sl).cast (row_k bs)
  refine rg [0,1,2,3,4,5,6] (sv 80 (pT az 1) ?_)
  refine sw 81 vo rfl (rk 23 1 ad) ?_
  refine sv 82 vk ?_
  refine se ?_
  refine zq0 23 72 vk (some 83) rfl rfl rfl bi.forms (fun _ _ _ _=>by kernel_rfl) (fun gn jX bE g6 dt=>?_)
  have ei:=oo_.ne dt
  have dH:=al.ne dt
  have ge:=Nat.le_trans (Below.size hR) dt
  replace hB:=hB.trans bE
  simp only [zd0,p3,p4]
  refine se ?_
  replace bi:=bi.gr za4 bE
  replace oo_:=oo_.gr (za1 za4 68 3) bE
  refine zd9 (za1 za4 68 3) _ _ 23 72 w.heap.size (sN) vo (tb (fun z0=>tb (fun z1=>(x.op z0 z1)) (x.ol z0)) i) gn [vk] (tb (fun z1=>(x.op i z1)) (x.ol i)) 1 1 (some 84) 24 rfl rfl rfl rfl oo_ g6 ⟨bi.one,trivial⟩ rfl ⟨_,rfl,bi⟩ (Below.size hB) (by rw [za7];omega) (by decide) (by kernel_rfl) (by kernel_rfl) (by decide) (by decide) (fun cS iv aI bQ fo=>?_)
  replace hB:=fo _ hB (Nat.le_refl _)
  replace aI:=aI.cast (zd8 (f:=(fun z0=>tb (fun z1=>(x.op z0 z1)) (x.ol z0))) (n:=i) (by first | rfl | exact ze1))
  simp only [zd0,p3,p4]
  refine sv 85 (pT az 1) ?_
  refine se ?_
  replace ad:=bQ.lc (ad.gr bE) (by decide)
  have di:=ad
  refine es (hv:=(by obtain ⟨_,_,e,_⟩:=(aI.sl).form;rw [e];rfl)) 23 1 cS [cS] #[bU,cS,sN] ad hB bM ⟨aI.one,trivial⟩ fun jF bR ia ad hB=>?_
  refine za0 (da _ _ ?_)
  refine rg [0,1,2] (sv 25 (iT (i:Int)) ?_)
  refine sw 26 (iT ((i:Int)+1)) rfl (rwI ((i:Int)+1)) ?_
  refine sv 5 (iT ((i:Int)+1)) ?_
  refine za0 ?_
  replace al:=((al.gr zb3 bE).kts zb3 (bQ.kts (by decide))).kts zb3 (bR.kts di (by decide))
  replace aI:=aI.kts (za1 za4 68 3) (bR.kts di (by decide))
  replace ae:=bR.lc (bQ.lc (ae.gr bE) (by decide)) aj
  replace af:=bR.lc (bQ.lc (af.gr bE) (by decide)) ai
  refine dj (x.n - (i+1)) ⟨List.toArray ?l123,[]⟩ _ (by omega) ?_
  exact ⟨i+1,bU,cS,(fun i=>List.getD ?l123 i undef),rfl,rfl,(by omega),al,aI,ae,af,ad,hB⟩
 have hei:x.n=i:=by have:=of_decide_eq_false dv;omega
 subst hei
 refine wp_exit ?_
 simp only [Exit.then,Exit.inBlock,↓reduceIte]
 refine jY _ _ ?_
 refine wp_seq_k (fun js fu=>wp_seq_k (fun iL gw=>rg [0] (sv 9 (iT 0) ?_)))
 refine za0 (gw _ _ ?_)
 refine wp_block ?_
 refine zb2 (a:=⟨List.toArray ?l126,[]⟩) (fun n a w'=>∃ (r:Nat) (vq:Value) (aa:Nat→Value),x.q - r=n∧a=⟨[.agg #[vn,d0,d1,d2,d3,vr],pT aA 0,pT cw 0,pT az 0,iT ((x.n:Nat):Int),iT ((x.n):Int),ah 6,ah 7,ah 8,iT (r:Int),aa 10,aa 11,aa 12,aa 13,aa 14,aa 15,aa 16,aa 17,aa 18,aa 19,aa 20,aa 21,aa 22,aa 23,.bool (decide (((x.n):Int)<((x.n:Nat):Int))),aa 25,aa 26,aa 27,aa 28,aa 29,aa 30,aa 31,aa 32,aa 33,aa 34,aa 35,aa 36,ah 37,aa 38,aa 39,aa 40,aa 41,aa 42,aa 43,aa 44,aa 45,aa 46,aa 47,aa 48,aa 49,aa 50,aa 51,aa 52,aa 53,aa 54,aa 55,aa 56,aa 57,aa 58,aa 59,aa 60,ah 61,aa 62,aa 63,aa 64,aa 65,aa 66,aa 67,aa 68,aa 69,aa 70,aa 71,aa 72,aa 73,aa 74,aa 75,aa 76,ah 77,aa 78,aa 79,aa 80,aa 81,aa 82,aa 83,aa 84,aa 85,aa 86,aa 87,aa 88,aa 89,aa 90,aa 91,aa 92,aa 93,aa 94,aa 95,aa 96,aa 97,aa 98,aa 99,aa 100,aa 101,aa 102,aa 103,aa 104,aa 105,aa 106,aa 107,aa 108,aa 109,aa 110,aa 111,aa 112,aa 113,aa 114,aa 115,aa 116,aa 117,aa 118,aa 119,aa 120,aa 121,aa 122,aa 123,aa 124,aa 125,aa 126,aa 127,aa 128,aa 129,aa 130,aa 131,aa 132,aa 133,aa 134,aa 135,aa 136,aa 137,aa 138,aa 139,aa 140,aa 141,aa 142,aa 143,aa 144,aa 145,aa 146,aa 147,aa 148,aa 149,aa 150,aa 151,aa 152,aa 153,aa 154,aa 155,aa 156,aa 157,aa 158,aa 159,aa 160,aa 161,aa 162,aa 163,aa 164,aa 165,aa 166,aa 167,aa 168,aa 169,aa 170,aa 171,aa 172,aa 173,aa 174,aa 175,aa 176,aa 177,aa 178,aa 179,aa 180,aa 181,aa 182,aa 183,aa 184,aa 185,aa 186,aa 187,aa 188,aa 189,aa 190,aa 191,aa 192,aa 193,aa 194,undef].toArray,[]⟩∧r≤x.q∧Ow ERn 80 8 w' w.heap.size vq (tb (fun z1=>((Dsc.rnm z1,x.ofr.rq z1):List UInt8 × Rq)) r)∧Ow EDg 71 4 w' w.heap.size vd (tb (fun z1=>(⟨Dsc.dnm z1,x.nom z1,0,0⟩:Dmn)) x.n)∧Ow (ERw EOp 68 3) 72 1 w' w.heap.size vo (tb (fun z0=>tb (fun z1=>(x.op z0 z1)) (x.ol z0)) x.n)∧Lc w' aA #[vn,d0,d1,d2,d3,vr] 52∧Lc w' cw #[sN,sN,sN] 26∧Lc w' az #[vd,vo,vq] 26∧Gr w w') (x.q - 0) ?_ ?_
 ·exact ⟨0,sN,(fun i=>List.getD ?l126 i undef),rfl,rfl,Nat.zero_le _,Ow.nil _ _ _ _ _,od_,oo_,ae,af,ad,hB⟩
 rintro j0 kk cQ ⟨r,vq,aa,rfl,rfl,hkr,oq_,od_,oo_,ae,af,ad,hB⟩ kc cx
 refine wp_seq_k (fun i7 hc=>wp_seq_k (fun i2 fk=>rg [0,1,2,3,4,5,6,7,8] (sv 86 (iT (r:Int)) ?_)))
 refine sv 87 (pT aA 5) ?_
 refine sw 88 vr rfl (rk 50 5 ae) ?_
 refine sw 89 (iT ((x.rn:Nat):Int)) rfl (za9 (e:=137) hvr (za8 rfl) _ _ rfl rfl (by kernel_rfl)) ?_
 refine sv 90 (.bool (decide ((r:Int)<((x.rn:Nat):Int)))) ?_
 rcases Bool.eq_false_or_eq_true (decide ((r:Int)<((x.rn:Nat):Int))) with hb129 | hb129
 ·have hlu:r<x.rn:=by have:=of_decide_eq_true hb129;omega
  refine sw 91 (.bool true) rfl (RunV.bool (x:=decide ((r:Int)<((x.rn:Nat):Int))) (rvk (by kernel_rfl)) hb129) ?_
  refine sv 92 (iT (r:Int)) ?_
  refine sv 93 (.bool (decide ((r:Int)<(3:Int)))) ?_
  refine sv 94 (.bool (decide ((r:Int)<(3:Int)))) (za0 (fk _ _ ?_))
  refine wp_cond_split rfl (fun b7=>?_) (fun b7=>?_)
  ·have hlr:=q_lt hlu (by have:=of_decide_eq_true b7;omega)
   refine wp_skip ?_
   refine hc _ _ ?_
   refine wp_seq_k (fun i1 cH=>?_)
   refine wp_block ?_
   refine wp_seq_k (fun jx g2=>?_)
   have lehS:=Below.size hB
   have hS:=Gr.refl cQ
   refine rg [0,1,2] (sv 97 (.agg #[sV [49,47,50],sN]) ?_)
   refine se ?_
   refine ea 75 #[sV [],sN] 10 hB fun ck iy cB au bA fF hB=>?_
   have a3:=ae.ne bA
   have bf:=af.ne bA
   have a9:=ad.ne bA
   have ey:=(oq_.gr ze6 hS).ne bA
   have dN:=(od_.gr zb3 hS).ne bA
   have d6:=(oo_.gr (za1 za4 68 3) hS).ne bA
   have bN:=Nat.le_trans (Below.size hS) bA
   replace hS:=hS.trans cB
   simp only [p3,p4]
   refine se ?_
   refine es 75 0 (.agg #[sV [49,47,50],sN]) [sV [49,47,50],sN] #[sV [49,47,50],sN] au hB fF ⟨rfl,rfl,trivial⟩ fun kQ bG hV au hB=>?_
   replace hS:=bG.gr hS bN
   refine za0 (g2 _ _ ?_)
   refine wp_seq_k (fun jt gG=>rg [0] (sv 11 (iT 0) ?_))
   refine za0 (gG _ _ ?_)
   refine wp_seq_k (fun kz hn=>wp_seq_k (fun j3 gK=>rg [0] (sv 12 (iT 0) ?_)))
   refine za0 (gK _ _ ?_)
   refine wp_block ?_
   replace ae:=bG.lc (ae.gr cB) a3
   replace af:=bG.lc (af.gr cB) bf
   replace ad:=bG.lc (ad.gr cB) a9
   refine zb2 (a:=⟨List.toArray ?l138,[]⟩) (fun n a w'=>∃ (k:Nat) (vt:Value) (ac:Nat→Value),x.n - k=n∧a=⟨[.agg #[vn,d0,d1,d2,d3,vr],pT aA 0,pT cw 0,pT az 0,iT ((x.n:Nat):Int),iT ((x.n):Int),ah 6,ah 7,ah 8,iT (r:Int),pT ck 0,iT (x.mid r k),iT (k:Int),ac 13,aa 14,aa 15,aa 16,ac 17,ac 18,ac 19,ac 20,ac 21,ac 22,ac 23,.bool (decide (((x.n):Int)<((x.n:Nat):Int))),ac 25,ac 26,ac 27,ac 28,ac 29,ac 30,ac 31,ac 32,ac 33,ac 34,ac 35,ac 36,ah 37,ac 38,ac 39,ac 40,ac 41,ac 42,ac 43,ac 44,ac 45,ac 46,ac 47,ac 48,ac 49,ac 50,ac 51,ac 52,ac 53,ac 54,ac 55,ac 56,ac 57,ac 58,ac 59,ac 60,ah 61,ac 62,ac 63,ac 64,ac 65,ac 66,ac 67,ac 68,ac 69,ac 70,ac 71,ac 72,ac 73,ac 74,ac 75,ac 76,ah 77,ac 78,ac 79,ac 80,ac 81,ac 82,ac 83,ac 84,ac 85,ac 86,ac 87,ac 88,ac 89,ac 90,ac 91,ac 92,ac 93,.bool (decide ((r:Int)<(3:Int))),ac 95,ac 96,ac 97,ac 98,ac 99,ac 100,ac 101,ac 102,ac 103,ac 104,ac 105,ac 106,ac 107,ac 108,ac 109,ac 110,ac 111,ac 112,ac 113,ac 114,ac 115,ac 116,ac 117,ac 118,ac 119,ac 120,ac 121,ac 122,ac 123,ac 124,ac 125,ac 126,ac 127,ac 128,ac 129,ac 130,ac 131,ac 132,ac 133,ac 134,ac 135,ac 136,ac 137,ac 138,ac 139,ac 140,ac 141,ac 142,ac 143,ac 144,ac 145,ac 146,ac 147,ac 148,ac 149,ac 150,ac 151,ac 152,ac 153,ac 154,ac 155,ac 156,ac 157,ac 158,ac 159,ac 160,ac 161,ac 162,ac 163,ac 164,ac 165,ac 166,ac 167,aa 168,ac 169,ac 170,ac 171,ac 172,ac 173,ac 174,ac 175,ac 176,ac 177,ac 178,ac 179,ac 180,ac 181,aa 182,ac 183,ac 184,ac 185,ac 186,ac 187,ac 188,ac 189,ac 190,ac 191,ac 192,ac 193,ac 194,undef].toArray,[]⟩∧k≤x.n∧Ow ETm 110 2 w' cQ.heap.size vt (tb (fun z1=>(x.tmk r k).getD z1 (0,0)) (x.tmk r k).length)∧Lc w' aA #[vn,d0,d1,d2,d3,vr] 52∧Lc w' cw #[sN,sN,sN] 26∧Lc w' az #[vd,vo,vq] 26∧Lc w' ck #[sV [49,47,50],vt] 75∧Gr cQ w'∧Gr w w') (x.n - 0) ?_ ?_
   ·exact ⟨0,sN,(fun i=>List.getD ?l138 i undef),rfl,rfl,Nat.zero_le _,Ow.nil _ _ _ _ _,ae,af,ad,au,hS,hB⟩
   rintro iq kA gv ⟨k,vt,ac,rfl,rfl,hkk,ot_,ae,af,ad,au,hS,hB⟩ kr fh
   have hcb:=Dsc.ci_b (x:=x) r k
   have hmb:=mul_b hcb (hx.ok.nom k)
   have hmd:=hx.ok.mid r k
   have htk:=tmk_len (x:=x) (r:=r) (k:=k)
   have hrf:=hx.ok.rf r k
   refine wp_seq_k (fun jD g5=>wp_seq_k (fun iE gR=>rg [0,1,2] (sv 98 (iT (k:Int)) ?_)))
   refine sv 99 (iT ((x.n:Nat):Int)) ?_
   refine sv 100 (.bool (decide ((k:Int)<((x.n:Nat):Int)))) (za0 (gR _ _ ?_))
   refine wp_cond_split rfl (fun cm=>?_) (fun cm=>?_)
   ·have hlk:k<x.n:=by have:=of_decide_eq_true cm;omega
    refine wp_skip ?_
    refine g5 _ _ ?_
    refine wp_seq_k (fun iS eX=>?_)
    refine wp_block ?_
    refine wp_seq_k (fun j4 gE=>rg [0,1,2,3,4,5,6,7,8,9,10] (sv 103 (pT aA 5) ?_))
    refine sw 104 vr rfl (rk 50 5 ae) ?_
    refine sv 105 (iT (r:Int)) ?_
    refine sv 106 (iT (k:Int)) ?_
    refine sw 107 (adr vr (r*7)) rfl (zb1 (e:=137) hvr za7 (by decide) r (by omega) _ _ _ rfl rfl rfl (by kernel_rfl) (by kernel_rfl)) ?_
    obtain ⟨_,_,rfl,cu⟩:=Sl.get hvr (by decide) (zb5 (f:=(fun z1=>(x.rl z1))) (n:=x.rn) (i:=r) (by omega))
    refine sw 108 (adr vr (r*7+0)) rfl (ze3 (off:=0) cu _ _ 0 rfl rfl (by kernel_rfl)) ?_
    refine sw 109 (adr vr (r*7+0+1*k)) rfl (rv_aia vr (r*7+0) 4 91 1 k cu (by omega)) ?_
    refine sw 110 (.int .i8 ((x.rl r).f k)) rfl (rv_fc4 (r:=x.rl r) (cu.gr hB) (by omega)) ?_
    refine sw 111 (iT ((x.rl r).f k)) rfl (rwI ((x.rl r).f k)) ?_
    refine sv 112 (iT (x.ci r k)) ?_
    refine sv 13 (iT (x.ci r k)) (za0 (gE _ _ ?_))
    refine wp_seq_k (fun kK gx=>rg [0,1,2,3,4,5,6,7,8,9,10] (sv 113 (iT (x.mid r k)) ?_))
    refine sv 114 (iT (x.ci r k)) ?_
    refine sv 115 (pT az 0) ?_
    refine sw 116 vd rfl (rk 22 0 ad) ?_
    refine sv 117 (iT (k:Int)) ?_
    refine sw 118 (adr vd (k*4)) rfl (zb1 (e:=71) od_.sl za7 (by decide) k (by omega) _ _ _ rfl rfl rfl (by kernel_rfl) (by kernel_rfl)) ?_
    obtain ⟨_,_,rfl,c9⟩:=Sl.get od_.sl (by decide) (zb5 (f:=(fun z1=>(⟨Dsc.dnm z1,x.nom z1,0,0⟩:Dmn))) (n:=x.n) (i:=k) (by omega))
    refine sw 119 (adr vd (k*4+1)) rfl (ze3 (off:=1) c9 _ _ 1 rfl rfl (by kernel_rfl)) ?_
    refine sw 120 (iT (x.nom k)) rfl (zc7 (iT (x.nom k)) (AtV.part (i:=1) (us:=[iT (x.nom k)]) (c9.gr hS) rfl) _ _ rfl rfl (by kernel_rfl)) ?_
    refine sw 121 (iT ((x.ci r k)*(x.nom k))) rfl (rwI ((x.ci r k)*(x.nom k))) ?_
    refine sw 122 (iT (x.mid r (k+1))) rfl (RunV.int (x:=IntKind.i64.wrap ((x.mid r k)+((x.ci r k)*(x.nom k)))) (y:=x.mid r (k+1)) (rvk (by kernel_rfl)) (by rw [IntKind.wrap_i64];show _=x.mid r k+x.ci r k*x.nom k;omega)) ?_
    refine sv 11 (iT (x.mid r (k+1))) (za0 (gx _ _ ?_))
    refine wp_seq_k (fun jq ho=>rg [0,1] (sv 123 (iT (x.ci r k)) ?_))
    refine sv 124 (.bool ((x.ci r k) !=(0:Int))) (za0 (ho _ _ ?_))
    refine wp_cond_split rfl (fun cd=>?_) (fun cd=>?_)
    ·have hz:¬ (x.ci r k=0):=bne_iff_ne.1 cd
     have aJ:=Gr.drew gv
     replace hB:=hB.trans aJ
     replace hS:=hS.trans aJ
     replace au:=au.gr aJ
     refine zd2 (fun _=>True) [([10],(fun w'=>Lc w' ck #[sV [49,47,50],vt] 75))] [(true,0),(true,1),(true,2),(true,3),(false,4),(false,5),(true,6),(false,7),(false,8),(true,9),(false,10)] (by kernel_rfl) (by kernel_rfl) (by kernel_rfl) (by decide) (fun _ _ _ _ _ h=>h) trivial ⟨fun _=>au,trivial⟩ ?_
     refine tv 125 (pT ck 1) ?_
     refine tw 126 vt rfl (fun w' hS=>(rk 73 1 (hS.2.1 (by kernel_rfl)))) ?_
     refine tv 127 (iT (k:Int)) ?_
     refine tv 128 (iT (x.ci r k)) ?_
     refine te ?_
     refine ec 129 (zo4 (x.ci r k) (by omega) (by omega) _) ?_
     rintro kb i3 ⟨⟨km,kM,jh,jU,rfl,hf⟩,bB⟩
     refine ⟨_,rfl,?_⟩
     replace hB:=hB.trans bB
     replace hS:=hS.trans bB
     replace au:=au.gr bB
     refine ⟨trivial,⟨fun _=>au,trivial⟩,?_⟩
     simp only [p3,p4]
     refine te ?_
     refine ec 130 (zi6 hf (by omega) (ht.gr hB)) ?_
     rintro iz kn ⟨rfl,bv⟩
     refine ⟨_,rfl,?_⟩
     replace hB:=hB.trans bv
     replace hS:=hS.trans bv
     replace au:=au.gr bv
     refine ⟨trivial,⟨fun _=>au,trivial⟩,?_⟩
     simp only [p3,p4]
     refine tv 131 (.agg #[iT (k:Int),sV (zc3 (((x.ci r k):Int):Rat))]) ?_
     refine te ?_
     refine zc5 110 1 #[iT (k:Int),sV (zc3 (((x.ci r k):Int):Rat))] (some 132) rfl (fun _=>by kernel_rfl) (fun g3 jf bw gp bX=>?_)
     replace ae:=ae.gr (aJ.trans (bB.trans bv))
     replace af:=af.gr (aJ.trans (bB.trans bv))
     replace ad:=ad.gr (aJ.trans (bB.trans bv))
     have eU:=(oq_.gr ze6 hS).ne bX
     have eN:=(od_.gr zb3 hS).ne bX
     have d8:=(oo_.gr (za1 za4 68 3) hS).ne bX
     replace ot_:=ot_.gr zg3 (aJ.trans (bB.trans bv))
     have eH:=ot_.ne bX
     have gj:=Nat.le_trans (Below.size hS) bX
     replace hB:=hB.trans bw
     replace hS:=hS.trans bw
     replace au:=au.gr bw
     refine ⟨trivial,⟨fun _=>au,trivial⟩,?_⟩
     simp only [zd0,p3,p4]
     refine te ?_
     replace ot_:=ot_.gr zg3 bw
     refine zd9 zg3 _ _ 73 110 cQ.heap.size (.agg #[iT 0,sV []]) vt (tb (fun z1=>(x.tmk r k).getD z1 (0,0)) (x.tmk r k).length) g3 [iT (k:Int),sV (zc3 (((x.ci r k):Int):Rat))] (((k:Nat),x.ofr.fc r k):Nat × Rat) 2 1 (some 133) 24 rfl rfl rfl rfl ot_ gp ⟨rfl,rfl,trivial⟩ rfl rfl (Below.size hS) (by rw [za7];omega) (by decide) (by kernel_rfl) (by kernel_rfl) (by decide) (by decide) (fun cR ic aG bI dh=>?_)
     replace hB:=dh _ hB lehS
     replace hS:=dh _ hS (Nat.le_refl _)
     replace aG:=aG.cast (tmk_tb hz)
     replace au:=bI.lc au (by decide)
     refine ⟨trivial,⟨fun _=>au,trivial⟩,?_⟩
     simp only [zd0,p3,p4]
     refine tv 134 (pT ck 1) ?_
     refine te ?_
     have e7:=au
     refine es (hv:=(by obtain ⟨_,_,e,_⟩:=(aG.sl).form;rw [e];rfl)) 73 1 cR [cR] #[sV [49,47,50],cR] au hB fF ⟨aG.one,trivial⟩ fun i9 a5 h8 au hB=>?_
     replace hS:=a5.gr hS bN
     refine ⟨trivial,⟨zf9 (by kernel_rfl),trivial⟩,?_⟩
     refine zg4 ?_
     refine eX _ _ ?_
     refine rg [0,1,2] (sv 101 (iT (k:Int)) ?_)
     refine sw 102 (iT ((k:Int)+1)) rfl (rwI ((k:Int)+1)) ?_
     refine sv 12 (iT ((k:Int)+1)) ?_
     refine za0 ?_
     replace aG:=aG.kts zg3 (a5.kts e7 (by decide))
     replace ae:=a5.lc (bI.lc (ae.gr bw) (by decide)) a3
     replace af:=a5.lc (bI.lc (af.gr bw) (by decide)) bf
     replace ad:=a5.lc (bI.lc (ad.gr bw) (by decide)) a9
     refine fh (x.n - (k+1)) ⟨List.toArray ?l172,[]⟩ _ (by omega) ?_
     exact ⟨k+1,cR,(fun i=>List.getD ?l172 i undef),rfl,rfl,(by omega),aG,ae,af,ad,au,hS,hB⟩
    have hz:x.ci r k=0:=by simpa using cd
    refine wp_skip ?_
    refine eX _ _ ?_
    refine rg [0,1,2] (sv 101 (iT (k:Int)) ?_)
    refine sw 102 (iT ((k:Int)+1)) rfl (rwI ((k:Int)+1)) ?_
    refine sv 12 (iT ((k:Int)+1)) ?_
    refine za0 ?_
    refine fh (x.n - (k+1)) ⟨List.toArray ?l173,[]⟩ _ (by omega) ?_
    exact ⟨k+1,vt,(fun i=>List.getD ?l173 i undef),rfl,rfl,(by omega),ot_.cast (tmk_tb0 hz),ae,af,ad,au,hS,hB⟩
   have hek:x.n=k:=by have:=of_decide_eq_false cm;omega
   subst hek
   refine wp_exit ?_
   simp only [Exit.then,Exit.inBlock,↓reduceIte]
   refine hn _ _ ?_
   refine wp_seq_k (fun iU gW=>rg [0,1,2,3,4,5,6,7,8,9] (sv 135 (iT (r:Int)) ?_))
   refine sw 136 (iT ((112+r:Nat):Int)) rfl (rwI ((112:Int)+(r:Int))) ?_
   refine sw 137 (.int .u8 ((112+r:Nat):Int)) rfl (RunV.int (x:=IntKind.u8.wrap ((112+r:Nat):Int)) (y:=((112+r:Nat):Int)) (rvk (by kernel_rfl)) (by first | rfl | (rw [IntKind.wrap_u8];omega))) ?_
   refine se ?_
   refine zc5 5 1 #[.int .u8 ((112+r:Nat):Int)] (some 138) rfl (fun _=>by kernel_rfl) (fun i5 jL br hs b6=>?_)
   have dX:=(oq_.gr ze6 hS).ne b6
   have ep:=(od_.gr zb3 hS).ne b6
   have eK:=(oo_.gr (za1 za4 68 3) hS).ne b6
   have em:=ot_.ne b6
   have gi:=Nat.le_trans (Below.size hS) b6
   replace hB:=hB.trans br
   replace hS:=hS.trans br
   simp only [zd0,p3,p4]
   refine sw 139 (sV (Dsc.ltr (112+r))) rfl (rv_b2s (e:=5) (z:=112+r) hs) ?_
   replace au:=au.gr br
   refine sw 140 (.agg #[sV [49,47,50],vt]) rfl (rl 75 0 [sV [49,47,50],vt] au) ?_
   refine sv 141 (.agg #[iT 0,sV [49,47,50],vt,sV [],sN]) ?_
   refine sv 142 (.agg #[sV (Dsc.ltr (112+r)),iT 0,sV [49,47,50],vt,sV [],sN,sV [],sV []]) ?_
   refine se ?_
   refine ea 80 #[sV [],iT 0,sV [],sN,sV [],sN,sV [],sV []] 14 hB fun dI iR aC ay aU cy hB=>?_
   replace ae:=ae.gr br
   have aB:=ae.ne aU
   replace af:=af.gr br
   have av:=af.ne aU
   replace ad:=ad.gr br
   have aw:=ad.ne aU
   have eR:=(oq_.gr ze6 hS).ne aU
   have en:=(od_.gr zb3 hS).ne aU
   have eG:=(oo_.gr (za1 za4 68 3) hS).ne aU
   replace ot_:=ot_.gr zg3 br
   have dZ:=ot_.ne aU
   have aD:=aU
   have aF:=Nat.le_trans (Below.size hS) aU
   replace hS:=hS.trans aC
   simp only [p3,p4]
   refine se ?_
   refine es 80 0 (.agg #[sV (Dsc.ltr (112+r)),iT 0,sV [49,47,50],vt,sV [],sN,sV [],sV []]) [sV (Dsc.ltr (112+r)),iT 0,sV [49,47,50],vt,sV [],sN,sV [],sV []] #[sV (Dsc.ltr (112+r)),iT 0,sV [49,47,50],vt,sV [],sN,sV [],sV []] ay hB cy ⟨rfl,rfl,rfl,ot_.one,rfl,rfl,rfl,rfl,trivial⟩ fun g4 ax hJ ay hB=>?_
   replace hS:=ax.gr hS aF
   refine za0 (gW _ _ ?_)
   refine wp_seq_k (fun jV g0=>?_)
   have hrb:=hx.ok.rb r
   have hmn:=hx.ok.mid r x.n
   have hlw:=hx.ok.lwhg r
   have hzm:=zV0 hlw.1 hlw.2
   have hzx:=zV1 hlw.1 hlw.2
   obtain ⟨_,_,rfl,aO⟩:=Sl.get hvr (by decide) (zb5 (f:=(fun z1=>(x.rl z1))) (n:=x.rn) (i:=r) (by omega))
   have ar:=Gr.drew g4
   replace hB:=hB.trans ar
   replace hS:=hS.trans ar
   replace ae:=(ax.lc (ae.gr aC) aB).gr ar
   refine za5 (fun w'=>Lc w' aA #[vn,d0,d1,d2,d3,vr] 52∧AtV w' vr (r*7) [.int .i8 ((x.rl r).f 0),.int .i8 ((x.rl r).f 1),.int .i8 ((x.rl r).f 2),.int .i8 ((x.rl r).f 3),.int .i8 ((x.rl r).be),.int .i8 ((x.rl r).ov),.int .u8 ((x.rl r).op)]) [(true,0),(true,1),(true,2),(true,3),(true,4),(true,5),(true,6),(true,7),(true,8),(true,9),(true,10),(true,11),(true,12),(true,13),(true,14),(true,15),(true,16),(true,17),(true,18),(true,19)] (by kernel_rfl) (by kernel_rfl) (by kernel_rfl) (by decide) (fun _ _ _ _ _ h=>h) ⟨ae,aO.gr hB⟩ ?_
   refine ov 143 (iT (x.mid r (x.n))) ?_
   refine ov 144 (pT aA 5) ?_
   refine ow 145 vr rfl (fun w' hS=>(rk 50 5 hS.1)) ?_
   refine ov 146 (iT (r:Int)) ?_
   refine ow 147 (adr vr (r*7)) rfl (fun w' hS=>(zb1 (e:=137) hvr za7 (by decide) r (by omega) _ _ _ rfl rfl rfl (by kernel_rfl) (by kernel_rfl))) ?_
   refine ow 148 (adr vr (r*7+4)) rfl (fun w' hS=>(ze3 (off:=4) aO _ _ 1 rfl rfl (by kernel_rfl))) ?_
   refine ow 149 (.int .i8 ((x.rl r).be)) rfl (fun w' hS=>(zc7 (.int .i8 ((x.rl r).be)) (AtV.part (i:=4) (us:=[.int .i8 ((x.rl r).be)]) hS.2 rfl) _ _ rfl rfl (by kernel_rfl))) ?_
   refine ow 150 (iT ((x.rl r).be)) rfl (fun w' hS=>(rwI ((x.rl r).be))) ?_
   refine ow 151 (iT (x.lw r)) rfl (fun w' hS=>(RunV.int (x:=IntKind.i64.wrap ((x.mid r (x.n)) - (x.rl r).be)) (y:=(x.lw r)) (rvk (by kernel_rfl)) (by rw [IntKind.wrap_i64];show _=x.mid r x.n - (x.rl r).be;omega))) ?_
   refine ov 152 (iT (x.mid r (x.n))) ?_
   refine ov 153 (pT aA 5) ?_
   refine ow 154 vr rfl (fun w' hS=>(rk 50 5 hS.1)) ?_
   refine ov 155 (iT (r:Int)) ?_
   refine ow 156 (adr vr (r*7)) rfl (fun w' hS=>(zb1 (e:=137) hvr za7 (by decide) r (by omega) _ _ _ rfl rfl rfl (by kernel_rfl) (by kernel_rfl))) ?_
   refine ow 157 (adr vr (r*7+5)) rfl (fun w' hS=>(ze3 (off:=5) aO _ _ 2 rfl rfl (by kernel_rfl))) ?_
   refine ow 158 (.int .i8 ((x.rl r).ov)) rfl (fun w' hS=>(zc7 (.int .i8 ((x.rl r).ov)) (AtV.part (i:=5) (us:=[.int .i8 ((x.rl r).ov)]) hS.2 rfl) _ _ rfl rfl (by kernel_rfl))) ?_
   refine ow 159 (iT ((x.rl r).ov)) rfl (fun w' hS=>(rwI ((x.rl r).ov))) ?_
   refine ow 160 (iT (x.hg r)) rfl (fun w' hS=>(RunV.int (x:=IntKind.i64.wrap ((x.mid r (x.n))+(x.rl r).ov)) (y:=(x.hg r)) (rvk (by kernel_rfl)) (by rw [IntKind.wrap_i64];show _=x.mid r x.n+(x.rl r).ov;omega))) ?_
   refine ov 15 (iT (x.lw r)) ?_
   refine ov 16 (iT (x.hg r)) ?_
   refine zb4 ?_
   refine g0 _ _ ?_
   refine wp_seq_k (fun jN fp=>wp_seq_k (fun jC gB=>rg [0,1,2,3,4,5,6,7] (sv 161 (pT aA 5) ?_)))
   refine sw 162 vr rfl (rk 50 5 ae) ?_
   refine sv 163 (iT (r:Int)) ?_
   refine sw 164 (adr vr (r*7)) rfl (zb1 (e:=137) hvr za7 (by decide) r (by omega) _ _ _ rfl rfl rfl (by kernel_rfl) (by kernel_rfl)) ?_
   refine sw 165 (adr vr (r*7+6)) rfl (ze3 (off:=6) aO _ _ 3 rfl rfl (by kernel_rfl)) ?_
   refine sw 166 (.int .u8 ((x.rl r).op)) rfl (zc7 (.int .u8 ((x.rl r).op)) (AtV.part (i:=6) (us:=[.int .u8 ((x.rl r).op)]) (aO.gr hB) rfl) _ _ rfl rfl (by kernel_rfl)) ?_
   refine sw 167 (.int .u8 ((x.rl r).op % 4)) rfl (RunV.int (x:=Int.tmod ((x.rl r).op) 4) (y:=(x.rl r).op % 4) (rvk (by kernel_rfl)) (by rw [Int.tmod_eq_emod_of_nonneg (by omega)])) ?_
   refine sv 168 (.bool (((x.rl r).op % 4) !=(1:Int))) (za0 (gB _ _ ?_))
   refine wp_cond_split rfl (fun b3=>?_) (fun b3=>?_)
   ·have h1:¬ ((x.rl r).op % 4=1):=bne_iff_ne.1 b3
    refine rg [0,1,2,3,4,5,6] (sv 169 (iT (x.lw r)) ?_)
    refine sv 170 (iT (x.hg r)) ?_
    refine sv 171 (iT (zq2 (x.lw r) (x.hg r))) ?_
    refine se ?_
    refine ec 172 (zo4 (zq2 (x.lw r) (x.hg r)) (by omega) (by omega) _) ?_
    rintro iZ jn ⟨⟨im,ju,kq,kI,rfl,gC⟩,aR⟩
    refine ⟨_,rfl,?_⟩
    replace hB:=hB.trans aR
    replace hS:=hS.trans aR
    simp only [p3,p4]
    refine se ?_
    refine ec 173 (zi6 gC (by omega) (ht.gr hB)) ?_
    rintro iH kB ⟨rfl,aS⟩
    refine ⟨_,rfl,?_⟩
    replace hB:=hB.trans aS
    replace hS:=hS.trans aS
    simp only [p3,p4]
    refine sv 174 (pT dI 6) ?_
    refine se ?_
    replace ay:=ay.gr (ar.trans (aR.trans aS))
    refine es 33 6 (sV (zc3 (((zq2 (x.lw r) (x.hg r)):Int):Rat))) [sV (zc3 (((zq2 (x.lw r) (x.hg r)):Int):Rat))] #[sV (Dsc.ltr (112+r)),iT 0,sV [49,47,50],vt,sV [],sN,sV (zc3 (((zq2 (x.lw r) (x.hg r)):Int):Rat)),sV []] ay hB cy ⟨rfl,trivial⟩ fun ky aE h7 ay hB=>?_
    replace hS:=aE.gr hS aF
    refine za0 (fp _ _ ?_)
    refine wp_seq_k (fun ka fj=>wp_seq_k (fun kD gJ=>rg [0,1,2,3,4,5,6,7] (sv 175 (pT aA 5) ?_)))
    replace ae:=aE.lc (ae.gr (aR.trans aS)) aB
    refine sw 176 vr rfl (rk 50 5 ae) ?_
    refine sv 177 (iT (r:Int)) ?_
    refine sw 178 (adr vr (r*7)) rfl (zb1 (e:=137) hvr za7 (by decide) r (by omega) _ _ _ rfl rfl rfl (by kernel_rfl) (by kernel_rfl)) ?_
    obtain ⟨_,_,rfl,c7⟩:=Sl.get hvr (by decide) (zb5 (f:=(fun z1=>(x.rl z1))) (n:=x.rn) (i:=r) (by omega))
    refine sw 179 (adr vr (r*7+6)) rfl (ze3 (off:=6) c7 _ _ 3 rfl rfl (by kernel_rfl)) ?_
    refine sw 180 (.int .u8 ((x.rl r).op)) rfl (zc7 (.int .u8 ((x.rl r).op)) (AtV.part (i:=6) (us:=[.int .u8 ((x.rl r).op)]) (c7.gr hB) rfl) _ _ rfl rfl (by kernel_rfl)) ?_
    refine sw 181 (.int .u8 ((x.rl r).op % 4)) rfl (RunV.int (x:=Int.tmod ((x.rl r).op) 4) (y:=(x.rl r).op % 4) (rvk (by kernel_rfl)) (by rw [Int.tmod_eq_emod_of_nonneg (by omega)])) ?_
    refine sv 182 (.bool (((x.rl r).op % 4) !=(2:Int))) (za0 (gJ _ _ ?_))
    refine wp_cond_split rfl (fun bW=>?_) (fun bW=>?_)
    ·have h2:¬ ((x.rl r).op % 4=2):=bne_iff_ne.1 bW
     refine rg [0,1,2,3,4,5,6] (sv 183 (iT (x.lw r)) ?_)
     refine sv 184 (iT (x.hg r)) ?_
     refine sv 185 (iT (zn5 (x.lw r) (x.hg r))) ?_
     refine se ?_
     refine ec 186 (zo4 (zn5 (x.lw r) (x.hg r)) (by omega) (by omega) _) ?_
     rintro ja i0 ⟨⟨iA,ko,j8,jj,rfl,gZ⟩,bn⟩
     refine ⟨_,rfl,?_⟩
     replace hB:=hB.trans bn
     replace hS:=hS.trans bn
     simp only [p3,p4]
     refine se ?_
     refine ec 187 (zi6 gZ (by omega) (ht.gr hB)) ?_
     rintro jb iC ⟨rfl,bt⟩
     refine ⟨_,rfl,?_⟩
     replace hB:=hB.trans bt
     replace hS:=hS.trans bt
     simp only [p3,p4]
     refine sv 188 (pT dI 7) ?_
     refine se ?_
     replace ay:=ay.gr (bn.trans bt)
     refine es 33 7 (sV (zc3 (((zn5 (x.lw r) (x.hg r)):Int):Rat))) [sV (zc3 (((zn5 (x.lw r) (x.hg r)):Int):Rat))] #[sV (Dsc.ltr (112+r)),iT 0,sV [49,47,50],vt,sV [],sN,sV (zc3 (((zq2 (x.lw r) (x.hg r)):Int):Rat)),sV (zc3 (((zn5 (x.lw r) (x.hg r)):Int):Rat))] ay hB cy ⟨rfl,trivial⟩ fun j1 a4 hM ay hB=>?_
     replace hS:=a4.gr hS aF
     refine za0 (fj _ _ ?_)
     replace oq_:=oq_.gr ze6 hS
     replace od_:=od_.gr zb3 hS
     replace oo_:=oo_.gr (za1 za4 68 3) hS
     refine rg [0,1,2,3,4,5,6] (sv 189 (pT az 2) ?_)
     replace ad:=a4.lc ((aE.lc ((ax.lc (ad.gr aC) aw).gr (ar.trans (aR.trans aS))) aw).gr (bn.trans bt)) aw
     refine sw 190 vq rfl (rk 24 2 ad) ?_
     refine sw 191 (.agg #[sV (Dsc.ltr (112+r)),iT 0,sV [49,47,50],vt,sV [],sN,sV (zc3 (((zq2 (x.lw r) (x.hg r)):Int):Rat)),sV (zc3 (((zn5 (x.lw r) (x.hg r)):Int):Rat))]) rfl (rl 80 0 [sV (Dsc.ltr (112+r)),iT 0,sV [49,47,50],vt,sV [],sN,sV (zc3 (((zq2 (x.lw r) (x.hg r)):Int):Rat)),sV (zc3 (((zn5 (x.lw r) (x.hg r)):Int):Rat))] ay) ?_
     refine se ?_
     refine zc5 80 1 #[sV (Dsc.ltr (112+r)),iT 0,sV [49,47,50],vt,sV [],sN,sV (zc3 (((zq2 (x.lw r) (x.hg r)):Int):Rat)),sV (zc3 (((zn5 (x.lw r) (x.hg r)):Int):Rat))] (some 192) rfl (fun _=>by kernel_rfl) (fun gM j5 aY gO bZ=>?_)
     replace ae:=a4.lc (ae.gr (bn.trans bt)) aB
     replace af:=a4.lc ((aE.lc ((ax.lc (af.gr aC) av).gr (ar.trans (aR.trans aS))) av).gr (bn.trans bt)) av
     have ej:=oq_.ne bZ
     have eJ:=od_.ne bZ
     have eT:=oo_.ne bZ
     replace ot_:=ot_.gr zg3 (a4.gr (((aE.gr ((((ax.gr aC aD).trans ar).trans aR).trans aS) aD).trans bn).trans bt) aD)
     have eO:=ot_.ne bZ
     have ga:=Nat.le_trans (Below.size hS) bZ
     replace hB:=hB.trans aY
     replace hS:=hS.trans aY
     simp only [zd0,p3,p4]
     refine se ?_
     replace ot_:=ot_.gr zg3 aY
     replace oq_:=oq_.gr ze6 aY
     refine zd9 ze6 _ _ 24 80 w.heap.size (.agg #[sV [],iT 0,sV [],sN,sV [],sN,sV [],sV []]) vq (tb (fun z1=>((Dsc.rnm z1,x.ofr.rq z1):List UInt8 × Rq)) r) gM [sV (Dsc.ltr (112+r)),iT 0,sV [49,47,50],vt,sV [],sN,sV (zc3 (((zq2 (x.lw r) (x.hg r)):Int):Rat)),sV (zc3 (((zn5 (x.lw r) (x.hg r)):Int):Rat))] ((Dsc.rnm r,x.ofr.rq r):List UInt8 × Rq) 8 1 (some 193) 136 rfl rfl rfl rfl oq_ gO ⟨rfl,rfl,rfl,ot_.one,rfl,rfl,rfl,rfl,trivial⟩ rfl (zM7 (lo_y h1) (hi_y h2) (ot_.sl)) (Below.size hB) (by rw [za7];omega) (by decide) (by kernel_rfl) (by kernel_rfl) (by decide) (by decide) (fun cP jO aQ bh e2=>?_)
     replace hB:=e2 _ hB (Nat.le_refl _)
     replace aQ:=aQ.cast (zd8 (f:=(fun z1=>((Dsc.rnm z1,x.ofr.rq z1):List UInt8 × Rq))) (n:=r) (by first | rfl | exact ze1))
     simp only [zd0,p3,p4]
     refine sv 194 (pT az 2) ?_
     refine se ?_
     replace ad:=bh.lc (ad.gr aY) (by decide)
     have cf:=ad
     refine es (hv:=(by obtain ⟨_,_,e,_⟩:=(aQ.sl).form;rw [e];rfl)) 24 2 cP [cP] #[vd,vo,cP] ad hB bM ⟨aQ.one,trivial⟩ fun ki bm ib ad hB=>?_
     refine za0 (cH _ _ ?_)
     refine rg [0,1,2] (sv 95 (iT (r:Int)) ?_)
     refine sw 96 (iT ((r:Int)+1)) rfl (rwI ((r:Int)+1)) ?_
     refine sv 9 (iT ((r:Int)+1)) ?_
     refine za0 ?_
     replace aQ:=aQ.kts ze6 (bm.kts cf (by decide))
     replace od_:=((od_.gr zb3 aY).kts zb3 (bh.kts (by decide))).kts zb3 (bm.kts cf (by decide))
     replace oo_:=((oo_.gr (za1 za4 68 3) aY).kts (za1 za4 68 3) (bh.kts (by decide))).kts (za1 za4 68 3) (bm.kts cf (by decide))
     replace ae:=bm.lc (bh.lc (ae.gr aY) (by decide)) aj
     replace af:=bm.lc (bh.lc (af.gr aY) (by decide)) ai
     refine cx (x.q - (r+1)) ⟨List.toArray ?l198,[]⟩ _ (by omega) ?_
     exact ⟨r+1,cP,(fun i=>List.getD ?l198 i undef),rfl,rfl,(by omega),aQ,od_,oo_,ae,af,ad,hB⟩
    have h2:(x.rl r).op % 4=2:=by simpa using bW
    refine wp_skip ?_
    refine fj _ _ ?_
    replace oq_:=oq_.gr ze6 hS
    replace od_:=od_.gr zb3 hS
    replace oo_:=oo_.gr (za1 za4 68 3) hS
    refine rg [0,1,2,3,4,5,6] (sv 189 (pT az 2) ?_)
    replace ad:=aE.lc ((ax.lc (ad.gr aC) aw).gr (ar.trans (aR.trans aS))) aw
    refine sw 190 vq rfl (rk 24 2 ad) ?_
    refine sw 191 (.agg #[sV (Dsc.ltr (112+r)),iT 0,sV [49,47,50],vt,sV [],sN,sV (zc3 (((zq2 (x.lw r) (x.hg r)):Int):Rat)),sV []]) rfl (rl 80 0 [sV (Dsc.ltr (112+r)),iT 0,sV [49,47,50],vt,sV [],sN,sV (zc3 (((zq2 (x.lw r) (x.hg r)):Int):Rat)),sV []] ay) ?_
    refine se ?_
    refine zc5 80 1 #[sV (Dsc.ltr (112+r)),iT 0,sV [49,47,50],vt,sV [],sN,sV (zc3 (((zq2 (x.lw r) (x.hg r)):Int):Rat)),sV []] (some 192) rfl (fun _=>by kernel_rfl) (fun gq jc aX hj b5=>?_)
    replace af:=aE.lc ((ax.lc (af.gr aC) av).gr (ar.trans (aR.trans aS))) av
    have eV:=oq_.ne b5
    have dQ:=od_.ne b5
    have eh:=oo_.ne b5
    replace ot_:=ot_.gr zg3 (aE.gr ((((ax.gr aC aD).trans ar).trans aR).trans aS) aD)
    have eF:=ot_.ne b5
    have fW:=Nat.le_trans (Below.size hS) b5
    replace hB:=hB.trans aX
    replace hS:=hS.trans aX
    simp only [zd0,p3,p4]
    refine se ?_
    replace ot_:=ot_.gr zg3 aX
    replace oq_:=oq_.gr ze6 aX
    refine zd9 ze6 _ _ 24 80 w.heap.size (.agg #[sV [],iT 0,sV [],sN,sV [],sN,sV [],sV []]) vq (tb (fun z1=>((Dsc.rnm z1,x.ofr.rq z1):List UInt8 × Rq)) r) gq [sV (Dsc.ltr (112+r)),iT 0,sV [49,47,50],vt,sV [],sN,sV (zc3 (((zq2 (x.lw r) (x.hg r)):Int):Rat)),sV []] ((Dsc.rnm r,x.ofr.rq r):List UInt8 × Rq) 8 1 (some 193) 136 rfl rfl rfl rfl oq_ hj ⟨rfl,rfl,rfl,ot_.one,rfl,rfl,rfl,rfl,trivial⟩ rfl (zM7 (lo_y h1) (hi_n h2) (ot_.sl)) (Below.size hB) (by rw [za7];omega) (by decide) (by kernel_rfl) (by kernel_rfl) (by decide) (by decide) (fun cN ie aM a0 ft=>?_)
    replace hB:=ft _ hB (Nat.le_refl _)
    replace aM:=aM.cast (zd8 (f:=(fun z1=>((Dsc.rnm z1,x.ofr.rq z1):List UInt8 × Rq))) (n:=r) (by first | rfl | exact ze1))
    simp only [zd0,p3,p4]
    refine sv 194 (pT az 2) ?_
    refine se ?_
    replace ad:=a0.lc (ad.gr aX) (by decide)
    have b8:=ad
    refine es (hv:=(by obtain ⟨_,_,e,_⟩:=(aM.sl).form;rw [e];rfl)) 24 2 cN [cN] #[vd,vo,cN] ad hB bM ⟨aM.one,trivial⟩ fun kC bb hQ ad hB=>?_
    refine za0 (cH _ _ ?_)
    refine rg [0,1,2] (sv 95 (iT (r:Int)) ?_)
    refine sw 96 (iT ((r:Int)+1)) rfl (rwI ((r:Int)+1)) ?_
    refine sv 9 (iT ((r:Int)+1)) ?_
    refine za0 ?_
    replace aM:=aM.kts ze6 (bb.kts b8 (by decide))
    replace od_:=((od_.gr zb3 aX).kts zb3 (a0.kts (by decide))).kts zb3 (bb.kts b8 (by decide))
    replace oo_:=((oo_.gr (za1 za4 68 3) aX).kts (za1 za4 68 3) (a0.kts (by decide))).kts (za1 za4 68 3) (bb.kts b8 (by decide))
    replace ae:=bb.lc (a0.lc (ae.gr aX) (by decide)) aj
    replace af:=bb.lc (a0.lc (af.gr aX) (by decide)) ai
    refine cx (x.q - (r+1)) ⟨List.toArray ?l202,[]⟩ _ (by omega) ?_
    exact ⟨r+1,cN,(fun i=>List.getD ?l202 i undef),rfl,rfl,(by omega),aM,od_,oo_,ae,af,ad,hB⟩
   have h1:(x.rl r).op % 4=1:=by simpa using b3
   refine wp_skip ?_
   refine fp _ _ ?_
   refine wp_seq_k (fun ir fg=>wp_seq_k (fun iD gz=>rg [0,1,2,3,4,5,6,7] (sv 175 (pT aA 5) ?_)))
   refine sw 176 vr rfl (rk 50 5 ae) ?_
   refine sv 177 (iT (r:Int)) ?_
   refine sw 178 (adr vr (r*7)) rfl (zb1 (e:=137) hvr za7 (by decide) r (by omega) _ _ _ rfl rfl rfl (by kernel_rfl) (by kernel_rfl)) ?_
   refine sw 179 (adr vr (r*7+6)) rfl (ze3 (off:=6) aO _ _ 3 rfl rfl (by kernel_rfl)) ?_
   refine sw 180 (.int .u8 ((x.rl r).op)) rfl (zc7 (.int .u8 ((x.rl r).op)) (AtV.part (i:=6) (us:=[.int .u8 ((x.rl r).op)]) (aO.gr hB) rfl) _ _ rfl rfl (by kernel_rfl)) ?_
   refine sw 181 (.int .u8 ((x.rl r).op % 4)) rfl (RunV.int (x:=Int.tmod ((x.rl r).op) 4) (y:=(x.rl r).op % 4) (rvk (by kernel_rfl)) (by rw [Int.tmod_eq_emod_of_nonneg (by omega)])) ?_
   refine sv 182 (.bool (((x.rl r).op % 4) !=(2:Int))) (za0 (gz _ _ ?_))
   refine wp_cond_split rfl (fun cq=>?_) (fun cq=>?_)
   ·have h2:¬ ((x.rl r).op % 4=2):=bne_iff_ne.1 cq
    refine rg [0,1,2,3,4,5,6] (sv 183 (iT (x.lw r)) ?_)
    refine sv 184 (iT (x.hg r)) ?_
    refine sv 185 (iT (zn5 (x.lw r) (x.hg r))) ?_
    refine se ?_
    refine ec 186 (zo4 (zn5 (x.lw r) (x.hg r)) (by omega) (by omega) _) ?_
    rintro kF iV ⟨⟨jI,i4,ku,kG,rfl,gA⟩,bp⟩
    refine ⟨_,rfl,?_⟩
    replace hB:=hB.trans bp
    replace hS:=hS.trans bp
    simp only [p3,p4]
    refine se ?_
    refine ec 187 (zi6 gA (by omega) (ht.gr hB)) ?_
    rintro iK io ⟨rfl,bu⟩
    refine ⟨_,rfl,?_⟩
    replace hB:=hB.trans bu
    replace hS:=hS.trans bu
    simp only [p3,p4]
    refine sv 188 (pT dI 7) ?_
    refine se ?_
    replace ay:=ay.gr (ar.trans (bp.trans bu))
    refine es 33 7 (sV (zc3 (((zn5 (x.lw r) (x.hg r)):Int):Rat))) [sV (zc3 (((zn5 (x.lw r) (x.hg r)):Int):Rat))] #[sV (Dsc.ltr (112+r)),iT 0,sV [49,47,50],vt,sV [],sN,sV [],sV (zc3 (((zn5 (x.lw r) (x.hg r)):Int):Rat))] ay hB cy ⟨rfl,trivial⟩ fun kO a6 h3 ay hB=>?_
    replace hS:=a6.gr hS aF
    refine za0 (fg _ _ ?_)
    replace oq_:=oq_.gr ze6 hS
    replace od_:=od_.gr zb3 hS
    replace oo_:=oo_.gr (za1 za4 68 3) hS
    refine rg [0,1,2,3,4,5,6] (sv 189 (pT az 2) ?_)
    replace ad:=a6.lc ((ax.lc (ad.gr aC) aw).gr (ar.trans (bp.trans bu))) aw
    refine sw 190 vq rfl (rk 24 2 ad) ?_
    refine sw 191 (.agg #[sV (Dsc.ltr (112+r)),iT 0,sV [49,47,50],vt,sV [],sN,sV [],sV (zc3 (((zn5 (x.lw r) (x.hg r)):Int):Rat))]) rfl (rl 80 0 [sV (Dsc.ltr (112+r)),iT 0,sV [49,47,50],vt,sV [],sN,sV [],sV (zc3 (((zn5 (x.lw r) (x.hg r)):Int):Rat))] ay) ?_
    refine se ?_
    refine zc5 80 1 #[sV (Dsc.ltr (112+r)),iT 0,sV [49,47,50],vt,sV [],sN,sV [],sV (zc3 (((zn5 (x.lw r) (x.hg r)):Int):Rat))] (some 192) rfl (fun _=>by kernel_rfl) (fun hw jG aZ gS ct=>?_)
    replace ae:=a6.lc (ae.gr (bp.trans bu)) aB
    replace af:=a6.lc ((ax.lc (af.gr aC) av).gr (ar.trans (bp.trans bu))) av
    have dW:=oq_.ne ct
    have eS:=od_.ne ct
    have ez:=oo_.ne ct
    replace ot_:=ot_.gr zg3 (a6.gr ((((ax.gr aC aD).trans ar).trans bp).trans bu) aD)
    have ev:=ot_.ne ct
    have f8:=Nat.le_trans (Below.size hS) ct
    replace hB:=hB.trans aZ
    replace hS:=hS.trans aZ
    simp only [zd0,p3,p4]
    refine se ?_
    replace ot_:=ot_.gr zg3 aZ
    replace oq_:=oq_.gr ze6 aZ
    refine zd9 ze6 _ _ 24 80 w.heap.size (.agg #[sV [],iT 0,sV [],sN,sV [],sN,sV [],sV []]) vq (tb (fun z1=>((Dsc.rnm z1,x.ofr.rq z1):List UInt8 × Rq)) r) hw [sV (Dsc.ltr (112+r)),iT 0,sV [49,47,50],vt,sV [],sN,sV [],sV (zc3 (((zn5 (x.lw r) (x.hg r)):Int):Rat))] ((Dsc.rnm r,x.ofr.rq r):List UInt8 × Rq) 8 1 (some 193) 136 rfl rfl rfl rfl oq_ gS ⟨rfl,rfl,rfl,ot_.one,rfl,rfl,rfl,rfl,trivial⟩ rfl (zM7 (lo_n h1) (hi_y h2) (ot_.sl)) (Below.size hB) (by rw [za7];omega) (by decide) (by kernel_rfl) (by kernel_rfl) (by decide) (by decide) (fun cX j2 aK ba fi=>?_)
    replace hB:=fi _ hB (Nat.le_refl _)
    replace aK:=aK.cast (zd8 (f:=(fun z1=>((Dsc.rnm z1,x.ofr.rq z1):List UInt8 × Rq))) (n:=r) (by first | rfl | exact ze1))
    simp only [zd0,p3,p4]
    refine sv 194 (pT az 2) ?_
    refine se ?_
    replace ad:=ba.lc (ad.gr aZ) (by decide)
    have cb:=ad
    refine es (hv:=(by obtain ⟨_,_,e,_⟩:=(aK.sl).form;rw [e];rfl)) 24 2 cX [cX] #[vd,vo,cX] ad hB bM ⟨aK.one,trivial⟩ fun kL bj hD ad hB=>?_
    refine za0 (cH _ _ ?_)
    refine rg [0,1,2] (sv 95 (iT (r:Int)) ?_)
    refine sw 96 (iT ((r:Int)+1)) rfl (rwI ((r:Int)+1)) ?_
    refine sv 9 (iT ((r:Int)+1)) ?_
    refine za0 ?_
    replace aK:=aK.kts ze6 (bj.kts cb (by decide))
    replace od_:=((od_.gr zb3 aZ).kts zb3 (ba.kts (by decide))).kts zb3 (bj.kts cb (by decide))
    replace oo_:=((oo_.gr (za1 za4 68 3) aZ).kts (za1 za4 68 3) (ba.kts (by decide))).kts (za1 za4 68 3) (bj.kts cb (by decide))
    replace ae:=bj.lc (ba.lc (ae.gr aZ) (by decide)) aj
    replace af:=bj.lc (ba.lc (af.gr aZ) (by decide)) ai
    refine cx (x.q - (r+1)) ⟨List.toArray ?l212,[]⟩ _ (by omega) ?_
    exact ⟨r+1,cX,(fun i=>List.getD ?l212 i undef),rfl,rfl,(by omega),aK,od_,oo_,ae,af,ad,hB⟩
   have h2:(x.rl r).op % 4=2:=by simpa using cq
   refine wp_skip ?_
   refine fg _ _ ?_
   replace oq_:=oq_.gr ze6 hS
   replace od_:=od_.gr zb3 hS
   replace oo_:=oo_.gr (za1 za4 68 3) hS
   refine rg [0,1,2,3,4,5,6] (sv 189 (pT az 2) ?_)
   replace ad:=(ax.lc (ad.gr aC) aw).gr ar
   refine sw 190 vq rfl (rk 24 2 ad) ?_
   replace ay:=ay.gr ar
   refine sw 191 (.agg #[sV (Dsc.ltr (112+r)),iT 0,sV [49,47,50],vt,sV [],sN,sV [],sV []]) rfl (rl 80 0 [sV (Dsc.ltr (112+r)),iT 0,sV [49,47,50],vt,sV [],sN,sV [],sV []] ay) ?_
   refine se ?_
   refine zc5 80 1 #[sV (Dsc.ltr (112+r)),iT 0,sV [49,47,50],vt,sV [],sN,sV [],sV []] (some 192) rfl (fun _=>by kernel_rfl) (fun gY jP bk gm cp=>?_)
   replace af:=(ax.lc (af.gr aC) av).gr ar
   have ed:=oq_.ne cp
   have el:=od_.ne cp
   have ee:=oo_.ne cp
   replace ot_:=ot_.gr zg3 ((ax.gr aC aD).trans ar)
   have er:=ot_.ne cp
   have f1:=Nat.le_trans (Below.size hS) cp
   replace hB:=hB.trans bk
   simp only [zd0,p3,p4]
   refine se ?_
   replace ot_:=ot_.gr zg3 bk
   replace oq_:=oq_.gr ze6 bk
   refine zd9 ze6 _ _ 24 80 w.heap.size (.agg #[sV [],iT 0,sV [],sN,sV [],sN,sV [],sV []]) vq (tb (fun z1=>((Dsc.rnm z1,x.ofr.rq z1):List UInt8 × Rq)) r) gY [sV (Dsc.ltr (112+r)),iT 0,sV [49,47,50],vt,sV [],sN,sV [],sV []] ((Dsc.rnm r,x.ofr.rq r):List UInt8 × Rq) 8 1 (some 193) 136 rfl rfl rfl rfl oq_ gm ⟨rfl,rfl,rfl,ot_.one,rfl,rfl,rfl,rfl,trivial⟩ rfl (zM7 (lo_n h1) (hi_n h2) (ot_.sl)) (Below.size hB) (by rw [za7];omega) (by decide) (by kernel_rfl) (by kernel_rfl) (by decide) (by decide) (fun cW iu aN bg fC=>?_)
   replace hB:=fC _ hB (Nat.le_refl _)
   replace aN:=aN.cast (zd8 (f:=(fun z1=>((Dsc.rnm z1,x.ofr.rq z1):List UInt8 × Rq))) (n:=r) (by first | rfl | exact ze1))
   simp only [zd0,p3,p4]
   refine sv 194 (pT az 2) ?_
   refine se ?_
   replace ad:=bg.lc (ad.gr bk) (by decide)
   have cj:=ad
   refine es (hv:=(by obtain ⟨_,_,e,_⟩:=(aN.sl).form;rw [e];rfl)) 24 2 cW [cW] #[vd,vo,cW] ad hB bM ⟨aN.one,trivial⟩ fun kH bl h4 ad hB=>?_
   refine za0 (cH _ _ ?_)
   refine rg [0,1,2] (sv 95 (iT (r:Int)) ?_)
   refine sw 96 (iT ((r:Int)+1)) rfl (rwI ((r:Int)+1)) ?_
   refine sv 9 (iT ((r:Int)+1)) ?_
   refine za0 ?_
   replace aN:=aN.kts ze6 (bl.kts cj (by decide))
   replace od_:=((od_.gr zb3 bk).kts zb3 (bg.kts (by decide))).kts zb3 (bl.kts cj (by decide))
   replace oo_:=((oo_.gr (za1 za4 68 3) bk).kts (za1 za4 68 3) (bg.kts (by decide))).kts (za1 za4 68 3) (bl.kts cj (by decide))
   replace ae:=bl.lc (bg.lc (ae.gr bk) (by decide)) aj
   replace af:=bl.lc (bg.lc (af.gr bk) (by decide)) ai
   refine cx (x.q - (r+1)) ⟨List.toArray ?l216,[]⟩ _ (by omega) ?_
   exact ⟨r+1,cW,(fun i=>List.getD ?l216 i undef),rfl,rfl,(by omega),aN,od_,oo_,ae,af,ad,hB⟩
  have her:=q_c (x:=x) (by have:=of_decide_eq_false b7;omega) hkr
  refine wp_exit ?_
  simp only [Exit.then,Exit.inBlock,↓reduceIte]
  refine fu _ _ ?_
  refine wp_seq_k (fun jZ hu=>?_)
  subst her
  refine rg [0,1] ?_
  refine sw 195 (.agg #[vd,vo,vq]) rfl (rl 26 0 [vd,vo,vq] ad) ?_
  refine se ?_
  have b0:=af
  refine es 26 0 (.agg #[vd,vo,vq]) [vd,vo,vq] #[vd,vo,vq] af hB hX ⟨od_.one,oo_.one,oq_.one,trivial⟩ fun jp cg hA af hB=>?_
  refine za0 (hu _ _ ?_)
  refine wp_ret ?_
  refine bodyPost_ret (v:=(.agg #[vd,vo,vq])) (zc8 _ _ _ rfl rfl af (by kernel_rfl)) rfl ⟨?_,hB⟩
  replace od_:=od_.kts zb3 (cg.kts b0 (by decide))
  replace oo_:=oo_.kts (za1 za4 68 3) (cg.kts b0 (by decide))
  replace oq_:=oq_.kts ze6 (cg.kts b0 (by decide))
  exact ⟨_,_,_,rfl,⟨od_.sl,oo_.sl,oq_.sl⟩⟩
 have her:=q_a (x:=x) (by have:=of_decide_eq_false hb129;omega) hkr
 refine swk 91 (.bool false) [(6,92),(7,93)] rfl (RunV.bool (x:=decide ((r:Int)<((x.rn:Nat):Int))) (rvk (by kernel_rfl)) hb129) ?_
 refine sv 94 (.bool false) (za0 (fk _ _ ?_))
 refine wp_cond_false rfl ?_
 refine wp_exit ?_
 simp only [Exit.then,Exit.inBlock,↓reduceIte]
 refine fu _ _ ?_
 refine wp_seq_k (fun kE gy=>?_)
 subst her
 refine rg [0,1] ?_
 refine sw 195 (.agg #[vd,vo,vq]) rfl (rl 26 0 [vd,vo,vq] ad) ?_
 refine se ?_
 have b9:=af
 refine es 26 0 (.agg #[vd,vo,vq]) [vd,vo,vq] #[vd,vo,vq] af hB hX ⟨od_.one,oo_.one,oq_.one,trivial⟩ fun iJ cc h6 af hB=>?_
 refine za0 (gy _ _ ?_)
 refine wp_ret ?_
 refine bodyPost_ret (v:=(.agg #[vd,vo,vq])) (zc8 _ _ _ rfl rfl af (by kernel_rfl)) rfl ⟨?_,hB⟩
 replace od_:=od_.kts zb3 (cc.kts b9 (by decide))
 replace oo_:=oo_.kts (za1 za4 68 3) (cc.kts b9 (by decide))
 replace oq_:=oq_.kts ze6 (cc.kts b9 (by decide))
 exact ⟨_,_,_,rfl,⟨od_.sl,oo_.sl,oq_.sl⟩⟩

end Go.Proofs.YtjhflekncldflaaGreatDoor
namespace Go.Proofs.YtjhflekncldflaaGreatDoor
set_option maxRecDepth 100000
set_option maxHeartbeats 4000000
open Go.RowKit

theorem ce_13a {D:Ofr} {c:List Int} (h:(D.n:Int)<(c.length:Int)∨(c.length:Int)<(D.n:Int)):13=D.ce c:=by unfold Ofr.ce;rw [if_pos (by omega)]
theorem ce_0a {D:Ofr} {c:List Int} (h1:¬ (D.n:Int)<(c.length:Int)) (h2:¬ (c.length:Int)<(D.n:Int)) (hf:∀ j,j<c.length→0≤ca c j∧ca c j<(D.ol j:Int)):0=D.ce c:=by
 unfold Ofr.ce;rw [if_neg (by omega),if_pos (inb_t hf)]
theorem ce_2a {D:Ofr} {c:List Int} {k:Nat} (h1:¬ (D.n:Int)<(c.length:Int)) (h2:¬ (c.length:Int)<(D.n:Int)) (hk:k<c.length) (h:ca c k<0∨(D.ol k:Int)≤ca c k):2=D.ce c:=by
 unfold Ofr.ce;rw [if_neg (by omega),if_neg (by rw [inb_f hk h];decide)]
theorem m_choice {D:Ofr} {ds os rs:Value} {w:World} (ho:Off w D ds os rs) (_hm:Mx w) {TT:Nat} {c:List Int} {v:Value} (hl:Sl EI64 TT 1 w v (tb (fun z1=>(ca c z1)) c.length)):
    Calls Tryz.prog 23 #[.agg #[ds,os,rs],v,.bool true] w fun e w'=>e=.returned (iT (D.ce c))∧Gr w w':=by
 have ok:=ho.ok
 have n1:=ok.n1
 have n2:=ok.n2
 have aV:=ok.q2
 go_enter Tryz.func23,Tryz.ntmps23
 have hB:=Gr.refl w
 refine wp_seq_k (fun a8 aH=>rg [0,1] ?_)
 refine se ?_
 refine eb 26 #[ds,os,rs] 3 hB fun ae aW a1 ac aP a4 hB=>?_
 simp only [p3,p4]
 refine sv 6 (iT 0) (za0 (aH _ _ ?_))
 refine wp_seq_k (fun aR aG=>wp_seq_k (fun aN av=>rg [0,1,2,3,4,5,6,7,8,9,10,11,12,13,14,15,16] (sv 8 v ?_)))
 refine sw 9 (iT ((c.length:Nat):Int)) rfl (za9 (e:=3) hl (za8 rfl) _ _ rfl rfl (by kernel_rfl)) ?_
 refine sv 10 (pT ae 0) ?_
 refine sw 11 ds rfl (rk 22 0 ac) ?_
 refine sw 12 (iT ((D.n:Nat):Int)) rfl (za9 (e:=71) ho.dm (za8 rfl) _ _ rfl rfl (by kernel_rfl)) ?_
 refine sv 13 (.bool (decide (((D.n:Nat):Int)<((c.length:Nat):Int)))) ?_
 rcases Bool.eq_false_or_eq_true (decide (((D.n:Nat):Int)<((c.length:Nat):Int))) with hb14 | hb14
 ·have hd:(D.n:Int)<(c.length:Int):=of_decide_eq_true hb14
  refine swk 14 (.bool true) [(7,15),(8,16),(9,17),(10,18),(11,19),(12,20),(13,21),(14,22),(15,23)] rfl (RunV.bool (x:=decide (((D.n:Nat):Int)<((c.length:Nat):Int))) (rvk (by kernel_rfl)) hb14) ?_
  refine sv 24 (.bool true) (za0 (av _ _ ?_))
  refine wp_cond_true rfl ?_
  refine wp_seq_k (fun a3 aB=>rg [0] (sv 6 (iT 13) ?_))
  refine za0 (aB _ _ ?_)
  refine wp_ret ?_
  simp only [Exit.then]
  refine bodyPost_ret (v:=(iT 13)) (za3 rfl rfl) rfl ⟨?_,hB⟩
  exact congrArg (fun z=>Ending.returned (iT z)) (ce_13a (by first | exact .inl hd | exact .inr ai))
 have hd:¬ ((D.n:Int)<(c.length:Int)):=of_decide_eq_false hb14
 refine sw 14 (.bool false) rfl (RunV.bool (x:=decide (((D.n:Nat):Int)<((c.length:Nat):Int))) (rvk (by kernel_rfl)) hb14) ?_
 refine sv 15 (.bool true) ?_
 refine sv 16 (.bool true) ?_
 refine sv 17 v ?_
 refine sw 18 (iT ((c.length:Nat):Int)) rfl (za9 (e:=3) hl (za8 rfl) _ _ rfl rfl (by kernel_rfl)) ?_
 refine sv 19 (pT ae 0) ?_
 refine sw 20 ds rfl (rk 22 0 ac) ?_
 refine sw 21 (iT ((D.n:Nat):Int)) rfl (za9 (e:=71) ho.dm (za8 rfl) _ _ rfl rfl (by kernel_rfl)) ?_
 refine sv 22 (.bool (decide (((c.length:Nat):Int)<((D.n:Nat):Int)))) ?_
 refine sv 23 (.bool (decide (((c.length:Nat):Int)<((D.n:Nat):Int)))) ?_
 refine sv 24 (.bool (decide (((c.length:Nat):Int)<((D.n:Nat):Int)))) (za0 (av _ _ ?_))
 refine wp_cond_split rfl (fun ah=>?_) (fun ah=>?_)
 ·have ai:(c.length:Int)<(D.n:Int):=of_decide_eq_true ah
  refine wp_seq_k (fun aY aK=>rg [0] (sv 6 (iT 13) ?_))
  refine za0 (aK _ _ ?_)
  refine wp_ret ?_
  simp only [Exit.then]
  refine bodyPost_ret (v:=(iT 13)) (za3 rfl rfl) rfl ⟨?_,hB⟩
  exact congrArg (fun z=>Ending.returned (iT z)) (ce_13a (by first | exact .inl hd | exact .inr ai))
 have ai:¬ ((c.length:Int)<(D.n:Int)):=of_decide_eq_false ah
 refine wp_skip ?_
 refine aG _ _ ?_
 refine wp_seq_k (fun a6 aF=>wp_seq_k (fun a0 az=>rg [0] (sv 7 (iT 0) ?_)))
 refine za0 (az _ _ ?_)
 refine wp_block ?_
 refine zb2 (a:=⟨List.toArray ?l20,[]⟩) (fun n a w'=>∃ (k:Nat) (aa:Nat→Value),c.length - k=n∧a=⟨[.agg #[ds,os,rs],v,.bool true,pT ae 0,undef,undef,aa 6,iT (k:Int),aa 8,aa 9,aa 10,aa 11,aa 12,aa 13,aa 14,aa 15,aa 16,aa 17,aa 18,aa 19,aa 20,aa 21,aa 22,aa 23,.bool (decide (((c.length:Nat):Int)<((D.n:Nat):Int))),aa 25,aa 26,aa 27,aa 28,aa 29,aa 30,aa 31,aa 32,aa 33,aa 34,aa 35,aa 36,aa 37,aa 38,aa 39,aa 40,aa 41,aa 42,aa 43,aa 44,aa 45,aa 46,aa 47,aa 48].toArray,[]⟩∧k≤c.length∧(∀ j,j<k→0≤ca c j∧ca c j<(D.ol j:Int))∧Lc w' ae #[ds,os,rs] 26∧Gr w w') (c.length - 0) ?_ ?_
 ·exact ⟨0,(fun i=>List.getD ?l20 i undef),rfl,rfl,Nat.zero_le _,(fun j hj=>absurd hj (Nat.not_lt_zero j)),ac,hB⟩
 rintro a2 aX aw ⟨k,aa,rfl,rfl,hkk,hf,ac,hB⟩ a5 aA
 refine wp_seq_k (fun aU aI=>wp_seq_k (fun aO aE=>rg [0,1,2,3] (sv 25 (iT (k:Int)) ?_)))
 refine sv 26 v ?_
 refine sw 27 (iT ((c.length:Nat):Int)) rfl (za9 (e:=3) hl (za8 rfl) _ _ rfl rfl (by kernel_rfl)) ?_
 refine sv 28 (.bool (decide ((k:Int)<((c.length:Nat):Int)))) (za0 (aE _ _ ?_))
 refine wp_cond_split rfl (fun af=>?_) (fun af=>?_)
 ·have hlk:k<c.length:=by have:=of_decide_eq_true af;omega
  refine wp_skip ?_
  refine aI _ _ ?_
  refine wp_seq_k (fun aT aM=>?_)
  refine wp_block ?_
  refine wp_seq_k (fun aQ ax=>?_)
  rcases Bool.eq_false_or_eq_true (decide ((ca c k)<(0:Int))) with hb26 | hb26
  ·have hx:ca c k<0∨(D.ol k:Int)≤ca c k:=.inl (of_decide_eq_true hb26)
   obtain ⟨_,_,rfl,ar⟩:=Sl.get hl (by decide) (zb5 (f:=(fun z1=>(ca c z1))) (n:=c.length) (i:=k) (by omega))
   have ak:=Gr.drew aw
   replace hB:=hB.trans ak
   replace ac:=ac.gr ak
   refine za5 (fun w'=>Lc w' ae #[ds,os,rs] 26∧AtV w' v (k*1) [iT (ca c k)]) [(true,0),(true,1),(true,2),(true,3),(true,4),(true,5),(true,6),(true,7),(true,8),(true,9),(true,10),(true,11),(true,12),(true,13),(true,14),(true,15),(true,16),(true,17)] (by kernel_rfl) (by kernel_rfl) (by kernel_rfl) (by decide) (fun _ _ _ _ _ h=>h) ⟨ac,ar.gr hB⟩ ?_
   refine ov 31 v ?_
   refine ov 32 (iT (k:Int)) ?_
   refine ow 33 (adr v (k*1)) rfl (fun w' hS=>(zb1 (e:=3) hl za7 (by decide) k (by omega) _ _ _ rfl rfl rfl (by kernel_rfl) (by kernel_rfl))) ?_
   refine ow 34 (iT (ca c k)) rfl (fun w' hS=>(zc7 (iT (ca c k)) hS.2 _ _ rfl rfl (by kernel_rfl))) ?_
   refine ow 35 (.bool true) rfl (fun w' hS=>(RunV.bool (x:=decide ((ca c k)<(0:Int))) (rvk (by kernel_rfl)) hb26)) ?_
   refine ov 36 (.bool true) ?_
   refine Go.Proofs.YtjhflekncldflaaGreatDoor.os 37 ?_
   refine Go.Proofs.YtjhflekncldflaaGreatDoor.os 38 ?_
   refine Go.Proofs.YtjhflekncldflaaGreatDoor.os 39 ?_
   refine Go.Proofs.YtjhflekncldflaaGreatDoor.os 40 ?_
   refine Go.Proofs.YtjhflekncldflaaGreatDoor.os 41 ?_
   refine Go.Proofs.YtjhflekncldflaaGreatDoor.os 42 ?_
   refine Go.Proofs.YtjhflekncldflaaGreatDoor.os 43 ?_
   refine Go.Proofs.YtjhflekncldflaaGreatDoor.os 44 ?_
   refine Go.Proofs.YtjhflekncldflaaGreatDoor.os 45 ?_
   refine Go.Proofs.YtjhflekncldflaaGreatDoor.os 46 ?_
   refine Go.Proofs.YtjhflekncldflaaGreatDoor.os 47 ?_
   refine ov 48 (.bool true) ?_
   refine zb4 ?_
   refine ax _ _ ?_
   refine wp_cond_true rfl ?_
   refine wp_seq_k (fun aS aD=>rg [0] (sv 6 (iT 2) ?_))
   refine za0 (aD _ _ ?_)
   refine wp_ret ?_
   simp only [Exit.then,Exit.inBlock]
   refine bodyPost_ret (v:=(iT 2)) (za3 rfl rfl) rfl ⟨?_,hB⟩
   exact congrArg (fun z=>Ending.returned (iT z)) (ce_2a hd ai hlk hx)
  have aJ:¬ ca c k<0:=of_decide_eq_false hb26
  obtain ⟨_,_,rfl,al⟩:=Sl.get hl (by decide) (zb5 (f:=(fun z1=>(ca c z1))) (n:=c.length) (i:=k) (by omega))
  obtain ⟨_,_,⟨au,rfl,ap⟩,aq⟩:=Sl.get ho.op (by decide) (zb5 (f:=(fun z0=>tb (fun z1=>(D.op z0 z1)) (D.ol z0))) (n:=D.n) (i:=k) (by omega))
  have aj:=Gr.drew aw
  replace hB:=hB.trans aj
  replace ac:=ac.gr aj
  refine za5 (fun w'=>Lc w' ae #[ds,os,rs] 26∧AtV w' v (k*1) [iT (ca c k)]∧AtV w' os (k*1) [au]) [(true,0),(true,1),(true,2),(true,3),(true,4),(true,5),(true,6),(true,7),(true,8),(true,9),(true,10),(true,11),(true,12),(true,13),(true,14),(true,15),(true,16),(true,17)] (by kernel_rfl) (by kernel_rfl) (by kernel_rfl) (by decide) (fun _ _ _ _ _ h=>h) ⟨ac,al.gr hB,aq.gr hB⟩ ?_
  refine ov 31 v ?_
  refine ov 32 (iT (k:Int)) ?_
  refine ow 33 (adr v (k*1)) rfl (fun w' hS=>(zb1 (e:=3) hl za7 (by decide) k (by omega) _ _ _ rfl rfl rfl (by kernel_rfl) (by kernel_rfl))) ?_
  refine ow 34 (iT (ca c k)) rfl (fun w' hS=>(zc7 (iT (ca c k)) hS.2.1 _ _ rfl rfl (by kernel_rfl))) ?_
  refine ow 35 (.bool false) rfl (fun w' hS=>(RunV.bool (x:=decide ((ca c k)<(0:Int))) (rvk (by kernel_rfl)) hb26)) ?_
  refine ov 36 (.bool false) ?_
  refine ov 37 v ?_
  refine ov 38 (iT (k:Int)) ?_
  refine ow 39 (adr v (k*1)) rfl (fun w' hS=>(zb1 (e:=3) hl za7 (by decide) k (by omega) _ _ _ rfl rfl rfl (by kernel_rfl) (by kernel_rfl))) ?_
  refine ow 40 (iT (ca c k)) rfl (fun w' hS=>(zc7 (iT (ca c k)) hS.2.1 _ _ rfl rfl (by kernel_rfl))) ?_
  refine ov 41 (pT ae 1) ?_
  refine ow 42 os rfl (fun w' hS=>(rk 23 1 hS.1)) ?_
  refine ov 43 (iT (k:Int)) ?_
  refine ow 44 (adr os (k*1)) rfl (fun w' hS=>(zb1 (e:=72) ho.op za7 (by decide) k (by omega) _ _ _ rfl rfl rfl (by kernel_rfl) (by kernel_rfl))) ?_
  refine ow 45 au rfl (fun w' hS=>(zc7 au hS.2.2 _ _ rfl rfl (by kernel_rfl))) ?_
  refine ow 46 (iT ((D.ol k:Nat):Int)) rfl (fun w' hS=>(za9 (e:=68) ap (za8 rfl) _ _ rfl rfl (by kernel_rfl))) ?_
  refine ov 47 (.bool (decide (((D.ol k:Nat):Int)≤(ca c k)))) ?_
  refine ov 48 (.bool (decide (((D.ol k:Nat):Int)≤(ca c k)))) ?_
  refine zb4 ?_
  refine ax _ _ ?_
  refine wp_cond_split rfl (fun ad=>?_) (fun ad=>?_)
  ·have hx:ca c k<0∨(D.ol k:Int)≤ca c k:=.inr (of_decide_eq_true ad)
   refine wp_seq_k (fun a7 aL=>rg [0] (sv 6 (iT 2) ?_))
   refine za0 (aL _ _ ?_)
   refine wp_ret ?_
   simp only [Exit.then,Exit.inBlock]
   refine bodyPost_ret (v:=(iT 2)) (za3 rfl rfl) rfl ⟨?_,hB⟩
   exact congrArg (fun z=>Ending.returned (iT z)) (ce_2a hd ai hlk hx)
  have ay:¬ (D.ol k:Int)≤ca c k:=of_decide_eq_false ad
  refine wp_skip ?_
  refine aM _ _ ?_
  refine rg [0,1,2] (sv 29 (iT (k:Int)) ?_)
  refine sw 30 (iT ((k:Int)+1)) rfl (rwI ((k:Int)+1)) ?_
  refine sv 7 (iT ((k:Int)+1)) ?_
  refine za0 ?_
  refine aA (c.length - (k+1)) ⟨List.toArray ?l37,[]⟩ _ (by omega) ?_
  exact ⟨k+1,(fun i=>List.getD ?l37 i undef),rfl,rfl,(by omega),ext1 hf aJ ay,ac,hB⟩
 have hek:c.length=k:=by have:=of_decide_eq_false af;omega
 refine wp_exit ?_
 simp only [Exit.then,Exit.inBlock,↓reduceIte]
 refine aF _ _ ?_
 refine wp_seq_k (fun aZ aC=>rg [0] (sv 6 (iT 0) ?_))
 refine za0 (aC _ _ ?_)
 refine wp_ret ?_
 refine bodyPost_ret (v:=(iT 0)) (za3 rfl rfl) rfl ⟨?_,hB⟩
 exact congrArg (fun z=>Ending.returned (iT z)) (ce_0a hd ai (by rw [hek];exact hf))

theorem m_bound {D:Ofr} {ds os rs:Value} {w:World} (ho:Off w D ds os rs) (_hm:Mx w) {TT:Nat} {l:List Nat} {v:Value} (hv:D.vp l) (hl:Sl EI64 TT 1 w v (tb (fun z1=>((Ofr.at_ l z1:Nat):Int)) l.length)):
    Calls Tryz.prog 29 #[.agg #[ds,os,rs],v] w fun e w'=>e=.returned (iT (D.bd l))∧Gr w w':=by
 have ok:=ho.ok
 have n1:=ok.n1
 have n2:=ok.n2
 have a1:=ok.q2
 have bo:=hv.1
 go_enter Tryz.func29,Tryz.ntmps29
 have hB:=Gr.refl w
 refine wp_seq_k (fun br aM=>rg [0,1] ?_)
 refine se ?_
 refine eb 26 #[ds,os,rs] 2 hB fun af a2 a9 ad aX bk hB=>?_
 simp only [p3,p4]
 refine sv 4 (iT 0) (za0 (aM _ _ ?_))
 refine wp_seq_k (fun aY aL=>rg [0] (sv 5 (iT 0) ?_))
 refine za0 (aL _ _ ?_)
 refine wp_seq_k (fun aU aB=>wp_seq_k (fun aW aR=>rg [0] (sv 6 (iT 0) ?_)))
 refine za0 (aR _ _ ?_)
 refine wp_block ?_
 refine zb2 (a:=⟨List.toArray ?l15,[]⟩) (fun n a w'=>∃ (i:Nat) (sm:Int) (aa:Nat→Value),D.n - i=n∧a=⟨[.agg #[ds,os,rs],v,pT af 0,undef,iT 0,iT (sm),iT (i:Int),aa 7,aa 8,aa 9,aa 10,aa 11,aa 12,aa 13,aa 14,aa 15,aa 16,aa 17,aa 18,aa 19,aa 20,aa 21,aa 22,aa 23,aa 24,aa 25,aa 26,aa 27,aa 28,aa 29,aa 30,aa 31,aa 32,aa 33,aa 34,aa 35,aa 36,aa 37,aa 38,aa 39,aa 40,aa 41,aa 42,aa 43,aa 44,aa 45,aa 46,aa 47,aa 48,aa 49,aa 50,aa 51,aa 52,aa 53,aa 54,aa 55,aa 56,aa 57,aa 58,aa 59,aa 60,aa 61,aa 62,aa 63,aa 64,aa 65,undef].toArray,[]⟩∧i≤D.n∧sm=zD2 (D.bc l) i∧Lc w' af #[ds,os,rs] 26∧Gr w w') (D.n - 0) ?_ ?_
 ·exact ⟨0,0,(fun i=>List.getD ?l15 i undef),rfl,rfl,Nat.zero_le _,rfl,ad,hB⟩
 rintro bf a3 aH ⟨i,sm,aa,rfl,rfl,hki,hsm,ad,hB⟩ bh aA
 have hsr:=ya2 (f:=D.bc l) (k:=i) fun j hj=>ok.bc hv (by omega)
 refine wp_seq_k (fun aV aP=>wp_seq_k (fun a7 aO=>rg [0,1,2,3,4] (sv 9 (iT (i:Int)) ?_)))
 refine sv 10 (pT af 1) ?_
 refine sw 11 os rfl (rk 23 1 ad) ?_
 refine sw 12 (iT ((D.n:Nat):Int)) rfl (za9 (e:=72) ho.op (za8 rfl) _ _ rfl rfl (by kernel_rfl)) ?_
 refine sv 13 (.bool (decide ((i:Int)<((D.n:Nat):Int)))) (za0 (aO _ _ ?_))
 refine wp_cond_split rfl (fun aj=>?_) (fun aj=>?_)
 ·have hli:i<D.n:=by have:=of_decide_eq_true aj;omega
  refine wp_skip ?_
  refine aP _ _ ?_
  refine wp_seq_k (fun a8 az=>?_)
  refine wp_block ?_
  refine wp_seq_k (fun bl aF=>wp_seq_k (fun a0 aN=>rg [0,1,2,3] (sv 16 (iT (i:Int)) ?_)))
  refine sv 17 v ?_
  refine sw 18 (iT ((l.length:Nat):Int)) rfl (za9 (e:=3) hl (za8 rfl) _ _ rfl rfl (by kernel_rfl)) ?_
  refine sv 19 (.bool (decide ((i:Int)<((l.length:Nat):Int)))) (za0 (aN _ _ ?_))
  refine wp_cond_split rfl (fun ai=>?_) (fun ai=>?_)
  ·have hil:i<l.length:=by have:=of_decide_eq_true ai;omega
   have hat:=hv.2 i hil
   have hco:=ok.co i (Ofr.at_ l i) (by omega) hat
   have aD:=ok.o2 i (by omega)
   refine wp_seq_k (fun bb aT=>?_)
   obtain ⟨_,_,⟨ap,rfl,aq⟩,ax⟩:=Sl.get ho.op (by decide) (zb5 (f:=(fun z0=>tb (fun z1=>(D.op z0 z1)) (D.ol z0))) (n:=D.n) (i:=i) (by omega))
   obtain ⟨_,_,rfl,ay⟩:=Sl.get hl (by decide) (zb5 (f:=(fun z1=>((Ofr.at_ l z1:Nat):Int))) (n:=l.length) (i:=i) (by omega))
   obtain ⟨_,_,rfl,aw⟩:=Sl.get aq (by decide) (zb5 (f:=(fun z1=>(D.op i z1))) (n:=(D.ol i)) (i:=(Ofr.at_ l i)) (by omega))
   have av:=Gr.drew aH
   replace hB:=hB.trans av
   replace ad:=ad.gr av
   refine za5 (fun w'=>Lc w' af #[ds,os,rs] 26∧AtV w' os (i*1) [ap]∧AtV w' v (i*1) [iT ((Ofr.at_ l i:Nat):Int)]∧AtV w' ap ((Ofr.at_ l i)*3) [iT (D.lo i (Ofr.at_ l i)),iT (D.up i (Ofr.at_ l i)),iT (D.co i (Ofr.at_ l i))]) [(true,0),(true,1),(true,2),(true,3),(true,4),(true,5),(true,6),(true,7),(true,8),(true,9),(true,10),(true,11),(true,12),(true,13),(true,14)] (by kernel_rfl) (by kernel_rfl) (by kernel_rfl) (by decide) (fun _ _ _ _ _ h=>h) ⟨ad,ax.gr hB,ay.gr hB,aw.gr hB⟩ ?_
   refine ov 20 (iT (sm)) ?_
   refine ov 21 (pT af 1) ?_
   refine ow 22 os rfl (fun w' hS=>(rk 23 1 hS.1)) ?_
   refine ov 23 (iT (i:Int)) ?_
   refine ow 24 (adr os (i*1)) rfl (fun w' hS=>(zb1 (e:=72) ho.op za7 (by decide) i (by omega) _ _ _ rfl rfl rfl (by kernel_rfl) (by kernel_rfl))) ?_
   refine ow 25 ap rfl (fun w' hS=>(zc7 ap hS.2.1 _ _ rfl rfl (by kernel_rfl))) ?_
   refine ov 26 v ?_
   refine ov 27 (iT (i:Int)) ?_
   refine ow 28 (adr v (i*1)) rfl (fun w' hS=>(zb1 (e:=3) hl za7 (by decide) i (by omega) _ _ _ rfl rfl rfl (by kernel_rfl) (by kernel_rfl))) ?_
   refine ow 29 (iT ((Ofr.at_ l i:Nat):Int)) rfl (fun w' hS=>(zc7 (iT ((Ofr.at_ l i:Nat):Int)) hS.2.2.1 _ _ rfl rfl (by kernel_rfl))) ?_
   refine ow 30 (adr ap ((Ofr.at_ l i)*3)) rfl (fun w' hS=>(zb1 (e:=68) aq za7 (by decide) (Ofr.at_ l i) (by omega) _ _ _ rfl rfl rfl (by kernel_rfl) (by kernel_rfl))) ?_
   refine ow 31 (adr ap ((Ofr.at_ l i)*3+2)) rfl (fun w' hS=>(ze3 (off:=2) aw _ _ 2 rfl rfl (by kernel_rfl))) ?_
   refine ow 32 (iT (D.co i (Ofr.at_ l i))) rfl (fun w' hS=>(zc7 (iT (D.co i (Ofr.at_ l i))) (AtV.part (i:=2) (us:=[iT (D.co i (Ofr.at_ l i))]) hS.2.2.2 rfl) _ _ rfl rfl (by kernel_rfl))) ?_
   refine ow 33 (iT (sm+(D.co i (Ofr.at_ l i)))) rfl (fun w' hS=>(rwI (sm+(D.co i (Ofr.at_ l i))))) ?_
   refine ov 5 (iT (sm+(D.co i (Ofr.at_ l i)))) ?_
   refine zb4 ?_
   refine aT _ _ ?_
   refine wp_exit ?_
   simp only [Exit.then,Exit.inBlock,↓reduceIte]
   refine az _ _ ?_
   refine rg [0,1,2] (sv 14 (iT (i:Int)) ?_)
   refine sw 15 (iT ((i:Int)+1)) rfl (rwI ((i:Int)+1)) ?_
   refine sv 6 (iT ((i:Int)+1)) ?_
   refine za0 ?_
   refine aA (D.n - (i+1)) ⟨List.toArray ?l29,[]⟩ _ (by omega) ?_
   exact ⟨i+1,(sm+(D.co i (Ofr.at_ l i))),(fun i=>List.getD ?l29 i undef),rfl,rfl,(by omega),(by rw [hsm];exact bc_in hil),ad,hB⟩
  have hil:¬ i<l.length:=by have:=of_decide_eq_false ai;omega
  have hco:=ok.ch (i:=i) (by omega)
  have bg:=ok.o1 i (by omega)
  have aD:=ok.o2 i (by omega)
  refine wp_skip ?_
  refine aF _ _ ?_
  refine wp_seq_k (fun aZ aG=>rg [0,1,2,3,4,5,6,7,8] (sv 34 (pT af 1) ?_))
  refine sw 35 os rfl (rk 23 1 ad) ?_
  refine sv 36 (iT (i:Int)) ?_
  refine sw 37 (adr os (i*1)) rfl (zb1 (e:=72) ho.op za7 (by decide) i (by omega) _ _ _ rfl rfl rfl (by kernel_rfl) (by kernel_rfl)) ?_
  obtain ⟨_,_,⟨ah,rfl,ae⟩,ak⟩:=Sl.get ho.op (by decide) (zb5 (f:=(fun z0=>tb (fun z1=>(D.op z0 z1)) (D.ol z0))) (n:=D.n) (i:=i) (by omega))
  refine sw 38 ah rfl (zc7 ah (ak.gr hB) _ _ rfl rfl (by kernel_rfl)) ?_
  refine sw 39 (adr ah (0*3)) rfl (zb1 (e:=68) ae za7 (by decide) 0 (by omega) _ _ _ rfl rfl rfl (by kernel_rfl) (by kernel_rfl)) ?_
  obtain ⟨_,_,rfl,ar⟩:=Sl.get ae (by decide) (zb5 (f:=(fun z1=>(D.op i z1))) (n:=(D.ol i)) (i:=0) (by omega))
  refine sw 40 (adr ah (0*3+2)) rfl (ze3 (off:=2) ar _ _ 2 rfl rfl (by kernel_rfl)) ?_
  refine sw 41 (iT (D.co i 0)) rfl (zc7 (iT (D.co i 0)) (AtV.part (i:=2) (us:=[iT (D.co i 0)]) (ar.gr hB) rfl) _ _ rfl rfl (by kernel_rfl)) ?_
  refine sv 7 (iT (D.co i 0)) (za0 (aG _ _ ?_))
  refine wp_seq_k (fun a5 aJ=>wp_seq_k (fun bi aC=>rg [0] (sv 8 (iT 0) ?_)))
  refine za0 (aC _ _ ?_)
  refine wp_block ?_
  refine zb2 (a:=⟨List.toArray ?l35,[]⟩) (fun n a w'=>∃ (k:Nat) (ac:Nat→Value),(D.ol i) - k=n∧a=⟨[.agg #[ds,os,rs],v,pT af 0,undef,iT 0,iT (sm),iT (i:Int),iT (zj8 (D.co i) k),iT (k:Int),ac 9,ac 10,ac 11,ac 12,.bool (decide ((i:Int)<((D.n:Nat):Int))),ac 14,ac 15,ac 16,ac 17,ac 18,.bool (decide ((i:Int)<((l.length:Nat):Int))),ac 20,ac 21,ac 22,ac 23,ac 24,ac 25,ac 26,ac 27,ac 28,ac 29,ac 30,ac 31,ac 32,ac 33,ac 34,ac 35,ac 36,ac 37,ac 38,ac 39,ac 40,ac 41,ac 42,ac 43,ac 44,ac 45,ac 46,ac 47,ac 48,ac 49,ac 50,ac 51,ac 52,ac 53,ac 54,ac 55,ac 56,ac 57,ac 58,ac 59,ac 60,ac 61,ac 62,ac 63,ac 64,ac 65,undef].toArray,[]⟩∧k≤(D.ol i)∧Lc w' af #[ds,os,rs] 26∧Gr w w') ((D.ol i) - 0) ?_ ?_
  ·exact ⟨0,(fun i=>List.getD ?l35 i undef),rfl,rfl,Nat.zero_le _,ad,hB⟩
  rintro bj bp a4 ⟨k,ac,rfl,rfl,hkk,ad,hB⟩ a6 aI
  refine wp_seq_k (fun bq aS=>wp_seq_k (fun bn aK=>rg [0,1,2,3,4,5,6,7] (sv 42 (iT (k:Int)) ?_)))
  refine sv 43 (pT af 1) ?_
  refine sw 44 os rfl (rk 23 1 ad) ?_
  refine sv 45 (iT (i:Int)) ?_
  refine sw 46 (adr os (i*1)) rfl (zb1 (e:=72) ho.op za7 (by decide) i (by omega) _ _ _ rfl rfl rfl (by kernel_rfl) (by kernel_rfl)) ?_
  refine sw 47 ah rfl (zc7 ah (ak.gr hB) _ _ rfl rfl (by kernel_rfl)) ?_
  refine sw 48 (iT ((D.ol i:Nat):Int)) rfl (za9 (e:=68) ae (za8 rfl) _ _ rfl rfl (by kernel_rfl)) ?_
  refine sv 49 (.bool (decide ((k:Int)<((D.ol i:Nat):Int)))) (za0 (aK _ _ ?_))
  refine wp_cond_split rfl (fun al=>?_) (fun al=>?_)
  ·have hlk:k<(D.ol i):=by have:=of_decide_eq_true al;omega
   refine wp_skip ?_
   refine aS _ _ ?_
   refine wp_seq_k (fun ba aQ=>?_)
   refine wp_block ?_
   refine rg [0,1,2,3,4,5,6,7,8,9,10,11] (sv 52 (iT (zj8 (D.co i) k)) ?_)
   refine sv 53 (pT af 1) ?_
   refine sw 54 os rfl (rk 23 1 ad) ?_
   refine sv 55 (iT (i:Int)) ?_
   refine sw 56 (adr os (i*1)) rfl (zb1 (e:=72) ho.op za7 (by decide) i (by omega) _ _ _ rfl rfl rfl (by kernel_rfl) (by kernel_rfl)) ?_
   refine sw 57 ah rfl (zc7 ah (ak.gr hB) _ _ rfl rfl (by kernel_rfl)) ?_
   refine sv 58 (iT (k:Int)) ?_
   refine sw 59 (adr ah (k*3)) rfl (zb1 (e:=68) ae za7 (by decide) k (by omega) _ _ _ rfl rfl rfl (by kernel_rfl) (by kernel_rfl)) ?_
   obtain ⟨_,_,rfl,au⟩:=Sl.get ae (by decide) (zb5 (f:=(fun z1=>(D.op i z1))) (n:=(D.ol i)) (i:=k) (by omega))
   refine sw 60 (adr ah (k*3+2)) rfl (ze3 (off:=2) au _ _ 2 rfl rfl (by kernel_rfl)) ?_
   refine sw 61 (iT (D.co i k)) rfl (zc7 (iT (D.co i k)) (AtV.part (i:=2) (us:=[iT (D.co i k)]) (au.gr hB) rfl) _ _ rfl rfl (by kernel_rfl)) ?_
   refine sv 62 (iT (zj8 (D.co i) (k+1))) ?_
   refine sv 7 (iT (zj8 (D.co i) (k+1))) (za0 (aQ _ _ ?_))
   refine rg [0,1,2] (sv 50 (iT (k:Int)) ?_)
   refine sw 51 (iT ((k:Int)+1)) rfl (rwI ((k:Int)+1)) ?_
   refine sv 8 (iT ((k:Int)+1)) ?_
   refine za0 ?_
   refine aI ((D.ol i) - (k+1)) ⟨List.toArray ?l41,[]⟩ _ (by omega) ?_
   exact ⟨k+1,(fun i=>List.getD ?l41 i undef),rfl,rfl,(by omega),ad,hB⟩
  have hek:(D.ol i)=k:=by have:=of_decide_eq_false al;omega
  subst hek
  refine wp_exit ?_
  simp only [Exit.then,Exit.inBlock,↓reduceIte]
  refine aJ _ _ ?_
  have hcm:0≤zj8 (D.co i) (D.ol i)∧zj8 (D.co i) (D.ol i)≤1048576:=hco
  refine rg [0,1,2,3] (sv 63 (iT (sm)) ?_)
  refine sv 64 (iT (zj8 (D.co i) (D.ol i))) ?_
  refine sw 65 (iT (sm+(zj8 (D.co i) (D.ol i)))) rfl (rwI (sm+(zj8 (D.co i) (D.ol i)))) ?_
  refine sv 5 (iT (sm+(zj8 (D.co i) (D.ol i)))) (za0 (az _ _ ?_))
  refine rg [0,1,2] (sv 14 (iT (i:Int)) ?_)
  refine sw 15 (iT ((i:Int)+1)) rfl (rwI ((i:Int)+1)) ?_
  refine sv 6 (iT ((i:Int)+1)) ?_
  refine za0 ?_
  refine aA (D.n - (i+1)) ⟨List.toArray ?l42,[]⟩ _ (by omega) ?_
  exact ⟨i+1,(sm+(zj8 (D.co i) (D.ol i))),(fun i=>List.getD ?l42 i undef),rfl,rfl,(by omega),(by rw [hsm];exact bc_out hil),ad,hB⟩
 have hei:D.n=i:=by have:=of_decide_eq_false aj;omega
 subst hei
 refine wp_exit ?_
 simp only [Exit.then,Exit.inBlock,↓reduceIte]
 refine aB _ _ ?_
 refine wp_seq_k (fun bm aE=>rg [0,1] (sv 66 (iT (sm)) ?_))
 refine sv 4 (iT (sm)) (za0 (aE _ _ ?_))
 refine wp_ret ?_
 refine bodyPost_ret (v:=(iT (sm))) (za3 rfl rfl) rfl ⟨?_,hB⟩
 exact (by rw [hsm];rfl)

theorem m_cost {D:Ofr} {ds os rs:Value} {w:World} (ho:Off w D ds os rs) (hm:Mx w) {TT:Nat} {l:List Nat} {v:Value} (hv:D.vp l) (hl:Sl EI64 TT 1 w v (tb (fun z1=>((Ofr.at_ l z1:Nat):Int)) l.length)):
    Calls Tryz.prog 25 #[.agg #[ds,os,rs],v] w fun e w'=>e=.returned (iT (D.bd l))∧Gr w w':=by
 have ok:=ho.ok
 have n1:=ok.n1
 have n2:=ok.n2
 have aj:=ok.q2
 go_enter Tryz.func25,Tryz.ntmps25
 have hB:=Gr.refl w
 refine wp_seq_k (fun au aa=>rg [0,1] ?_)
 refine se ?_
 refine eb 26 #[ds,os,rs] 2 hB fun ap ak af ad aq al hB=>?_
 simp only [p3,p4]
 refine sv 4 (iT 0) (za0 (aa _ _ ?_))
 refine wp_seq_k (fun ar ae=>rg [0,1,2,3] ?_)
 refine sw 5 (.agg #[ds,os,rs]) rfl (rl 26 0 [ds,os,rs] ad) ?_
 refine sv 6 v ?_
 refine se ?_
 refine ec 7 (m_bound (ho.gr hB) (hm.gr hB) hv (hl.gr za2 hB)) ?_
 rintro ah ai ⟨rfl,ac⟩
 refine ⟨_,rfl,?_⟩
 replace hB:=hB.trans ac
 simp only [p3,p4]
 refine sv 4 (iT (D.bd l)) (za0 (ae _ _ ?_))
 refine wp_ret ?_
 refine bodyPost_ret (v:=(iT (D.bd l))) (za3 rfl rfl) rfl ⟨?_,hB⟩
 exact rfl

end Go.Proofs.YtjhflekncldflaaGreatDoor
namespace Go.Proofs.YtjhflekncldflaaGreatDoor
set_option maxRecDepth 100000
set_option maxHeartbeats 8000000
open Go.RowKit

section
variable {P:Program} {w:World}
theorem zx2 {fn:Func} {tmps:Array Value} {p q:Tmp} {t t2:TypeId} (b c:Nat) (cs ds:Array Value) (tt ad:TypeId) (h:fn.results=#[.cell p t,.cell q t2]) (hp:tmps.getD p undef=pT b 0) (hq:tmps.getD q undef=pT c 0)
  (hL:Lc w b cs tt) (hs:zg5 P t=some cs.size) (ac:Lc w c ds ad) (aa:zg5 P t2=some ds.size):
  (results fn tmps).run P w=.ok (.tuple #[.agg cs,.agg ds]) w:=by
 have h1:=zi3 hL hs
 have h2:=zi3 ac aa
 simp only [Array.getD_eq_getD_getElem?] at hp hq ⊢
 simp [results,h,asAddr,hp,hq,h1,h2]
end
theorem fc_is {D:Ofr} {r i t:Nat} (ht:t<(D.tms r).length) (h:((((D.tms r).getD t (0,0)).1:Nat):Int)=(i:Int)):((D.tms r).getD t (0,0)).2=D.fc r i:=by
 have:=(zD7 (zy5 ht)).2
 rw [this,show ((D.tms r).getD t (0,0)).1=i by omega]
theorem fc_no {D:Ofr} {r i:Nat} (hi:i<D.n) (h:∀ j,j<(D.tms r).length→¬ ((((D.tms r).getD j (0,0)).1:Nat):Int)=(i:Int)):(0:Rat)=D.fc r i:=by
 by_cases hz:D.fc r i=0
 ·exact hz.symm
 have hm:(i,D.fc r i) ∈ D.tms r:=by
  unfold Ofr.tms Ofr.nzd
  exact List.mem_map.2 ⟨i,List.mem_filter.2 ⟨List.mem_range.2 hi,by simpa using hz⟩,rfl⟩
 obtain ⟨j,hj,e⟩:=List.getElem_of_mem hm
 exact absurd (by rw [List.getD_eq_getElem?_getD,List.getElem?_eq_getElem hj,e];rfl) (h j hj)
theorem m_factor {D:Ofr} (ok:D.Ok) {r i:Nat} (hr:r<D.q) (hi:i<D.n) {u:Value} {w:World} (hm:Mx w) (hu:Sl ETm 110 2 w u (tb (fun z1=>((D.tms r).getD z1 (0,0))) (D.tms r).length)):
    Calls Tryz.prog 106 #[.agg #[sV (zc3 (D.cn r)),u],iT (i:Int)] w fun e w'=>(∃ c0 c1 c2 c3,e=.returned (.agg #[c0,c1,c2,c3])∧IsRat w' 64 c0 c1 c2 c3 (D.fc r i))∧Gr w w':=by
 have n2:=ok.n2
 have htl:=zK8 (D:=D) (r:=r)
 go_enter Tryz.func106,Tryz.ntmps106
 have hB:=Gr.refl w
 refine wp_seq_k (fun bn aN=>rg [0,1] ?_)
 refine se ?_
 refine eb 75 #[sV (zc3 (D.cn r)),u] 2 hB fun ar a1 a9 aj aY bk hB=>?_
 simp only [p3,p4]
 refine se ?_
 refine ea 62 #[.bool false,sN,.bool false,sN] 4 hB fun aA aV aI ac bf aC hB=>?_
 simp only [p3,p4]
 refine za0 (aN _ _ ?_)
 refine wp_seq_k (fun aU aD=>wp_seq_k (fun aX aS=>rg [0] (sv 5 (iT 0) ?_)))
 refine za0 (aS _ _ ?_)
 refine wp_block ?_
 replace aj:=aj.gr aI
 refine zb2 (a:=⟨List.toArray ?l15,[]⟩) (fun n a w'=>∃ (t:Nat) (aa:Nat→Value),(D.tms r).length - t=n∧a=⟨[.agg #[sV (zc3 (D.cn r)),u],iT (i:Int),pT ar 0,undef,pT aA 0,iT (t:Int),aa 6,aa 7,aa 8,aa 9,aa 10,aa 11,aa 12,aa 13,aa 14,aa 15,aa 16,aa 17,aa 18,aa 19,aa 20,aa 21,aa 22,aa 23,aa 24,aa 25,aa 26,aa 27,aa 28,aa 29,aa 30,aa 31,aa 32,aa 33,undef].toArray,[]⟩∧t≤(D.tms r).length∧(∀ j,j<t→¬ ((((D.tms r).getD j (0,0)).1:Nat):Int)=(i:Int))∧Lc w' ar #[sV (zc3 (D.cn r)),u] 75∧Lc w' aA #[.bool false,sN,.bool false,sN] 62∧Gr w w') ((D.tms r).length - 0) ?_ ?_
 ·exact ⟨0,(fun i=>List.getD ?l15 i undef),rfl,rfl,Nat.zero_le _,(fun j hj=>absurd hj (Nat.not_lt_zero j)),aj,ac,hB⟩
 rintro bb a2 a3 ⟨t,aa,rfl,rfl,hkt,hf,aj,ac,hB⟩ bi aG
 refine wp_seq_k (fun aW aR=>wp_seq_k (fun a6 aO=>rg [0,1,2,3,4] (sv 8 (iT (t:Int)) ?_)))
 refine sv 9 (pT ar 1) ?_
 refine sw 10 u rfl (rk 73 1 aj) ?_
 refine sw 11 (iT (((D.tms r).length:Nat):Int)) rfl (za9 (e:=110) hu (za8 rfl) _ _ rfl rfl (by kernel_rfl)) ?_
 refine sv 12 (.bool (decide ((t:Int)<(((D.tms r).length:Nat):Int)))) (za0 (aO _ _ ?_))
 refine wp_cond_split rfl (fun aq=>?_) (fun aq=>?_)
 ·have hlt:t<(D.tms r).length:=by have:=of_decide_eq_true aq;omega
  refine wp_skip ?_
  refine aR _ _ ?_
  refine wp_seq_k (fun a8 aE=>?_)
  refine wp_block ?_
  refine wp_seq_k (fun bl aF=>rg [0,1,2,3,4,5,6,7] (sv 15 (pT ar 1) ?_))
  refine sw 16 u rfl (rk 73 1 aj) ?_
  refine sv 17 (iT (t:Int)) ?_
  refine sw 18 (adr u (t*2)) rfl (zb1 (e:=110) hu za7 (by decide) t (by omega) _ _ _ rfl rfl rfl (by kernel_rfl) (by kernel_rfl)) ?_
  obtain ⟨_,_,rfl,ak⟩:=Sl.get hu (by decide) (zb5 (f:=(fun z1=>((D.tms r).getD z1 (0,0)))) (n:=(D.tms r).length) (i:=t) (by omega))
  refine sw 19 (adr u (t*2+0)) rfl (ze3 (off:=0) ak _ _ 0 rfl rfl (by kernel_rfl)) ?_
  refine sw 20 (iT ((((D.tms r).getD t (0,0)).1:Nat):Int)) rfl (zc7 (iT ((((D.tms r).getD t (0,0)).1:Nat):Int)) (AtV.part (i:=0) (us:=[iT ((((D.tms r).getD t (0,0)).1:Nat):Int)]) (ak.gr hB) rfl) _ _ rfl rfl (by kernel_rfl)) ?_
  refine sv 21 (iT (i:Int)) ?_
  refine sv 22 (.bool (((((D.tms r).getD t (0,0)).1:Nat):Int)==(i:Int))) (za0 (aF _ _ ?_))
  refine wp_cond_split rfl (fun ap=>?_) (fun ap=>?_)
  ·have he:((((D.tms r).getD t (0,0)).1:Nat):Int)=(i:Int):=beq_iff_eq.1 ap
   refine wp_seq_k (fun ba aT=>rg [0,1,2,3,4,5,6,7,8,9,10,11,12] (sv 24 (pT ar 1) ?_))
   refine sw 25 u rfl (rk 73 1 aj) ?_
   refine sv 26 (iT (t:Int)) ?_
   refine sw 27 (adr u (t*2)) rfl (zb1 (e:=110) hu za7 (by decide) t (by omega) _ _ _ rfl rfl rfl (by kernel_rfl) (by kernel_rfl)) ?_
   refine sw 28 (adr u (t*2+1)) rfl (ze3 (off:=1) ak _ _ 1 rfl rfl (by kernel_rfl)) ?_
   refine sw 29 (sV (zc3 (((D.tms r).getD t (0,0)).2))) rfl (zc7 (sV (zc3 (((D.tms r).getD t (0,0)).2))) (AtV.part (i:=1) (us:=[sV (zc3 (((D.tms r).getD t (0,0)).2))]) (ak.gr hB) rfl) _ _ rfl rfl (by kernel_rfl)) ?_
   refine se ?_
   refine ec 30 (zs3 (((D.tms r).getD t (0,0)).2) (zG8 ok hr hlt).sz64 (by omega) (by omega) (zs9 (zG8 ok hr hlt)) _ (hm.gr hB)) ?_
   rintro bh bg ⟨⟨ad,ae,af,ah,rfl,ai⟩,av⟩
   refine ⟨_,rfl,?_⟩
   replace hB:=hB.trans av
   simp only [p3,p4]
   refine sv 23 (.tuple #[.agg #[ad,ae,af,ah],iT 0]) ?_
   refine sv 31 (.agg #[ad,ae,af,ah]) ?_
   refine sv 32 (iT 0) ?_
   refine se ?_
   refine ea 62 #[.bool false,sN,.bool false,sN] 6 hB fun a7 bj aB aw aM aP hB=>?_
   replace aj:=aj.gr av
   replace ac:=ac.gr av
   have al:=ac.ne aM
   simp only [p3,p4]
   refine se ?_
   refine es 62 0 (.agg #[ad,ae,af,ah]) [ad,ae,af,ah] #[ad,ae,af,ah] aw hB aP ⟨ai.one0,ai.one1,ai.one2,ai.one3,trivial⟩ fun bm ax az aw hB=>?_
   refine sv 7 (iT 0) (za0 (aT _ _ ?_))
   refine wp_seq_k (fun aZ aL=>rg [0,1] ?_)
   refine sw 33 (.agg #[ad,ae,af,ah]) rfl (rl 62 0 [ad,ae,af,ah] aw) ?_
   refine se ?_
   replace ac:=ax.lc (ac.gr aB) al
   refine es 62 0 (.agg #[ad,ae,af,ah]) [ad,ae,af,ah] #[ad,ae,af,ah] ac hB aC ⟨ai.one0,ai.one1,ai.one2,ai.one3,trivial⟩ fun a0 aK ay ac hB=>?_
   refine za0 (aL _ _ ?_)
   refine wp_ret ?_
   simp only [Exit.then,Exit.inBlock]
   refine bodyPost_ret (v:=(.agg #[ad,ae,af,ah])) (zc8 _ _ _ rfl rfl ac (by kernel_rfl)) rfl ⟨?_,hB⟩
   have au:=aB.kp.trans (az.trans ay)
   replace ai:=ai.kp au
   exact ⟨_,_,_,_,rfl,ai.castq (fc_is hlt he)⟩
  have he:¬ ((((D.tms r).getD t (0,0)).1:Nat):Int)=(i:Int):=beq_eq_false_iff_ne.1 ap
  refine wp_skip ?_
  refine aE _ _ ?_
  refine rg [0,1,2] (sv 13 (iT (t:Int)) ?_)
  refine sw 14 (iT ((t:Int)+1)) rfl (rwI ((t:Int)+1)) ?_
  refine sv 5 (iT ((t:Int)+1)) ?_
  refine za0 ?_
  refine aG ((D.tms r).length - (t+1)) ⟨List.toArray ?l30,[]⟩ _ (by omega) ?_
  exact ⟨t+1,(fun i=>List.getD ?l30 i undef),rfl,rfl,(by omega),zC8 hf he,aj,ac,hB⟩
 have het:(D.tms r).length=t:=by have:=of_decide_eq_false aq;omega
 refine wp_exit ?_
 simp only [Exit.then,Exit.inBlock,↓reduceIte]
 refine aD _ _ ?_
 refine wp_seq_k (fun a5 aJ=>rg [0,1] (sv 34 (.agg #[.bool false,sN,.bool false,sN]) ?_))
 refine se ?_
 refine es 62 0 (.agg #[.bool false,sN,.bool false,sN]) [.bool false,sN,.bool false,sN] #[.bool false,sN,.bool false,sN] ac hB aC ⟨rfl,rfl,rfl,rfl,trivial⟩ fun a4 aH aQ ac hB=>?_
 refine za0 (aJ _ _ ?_)
 refine wp_ret ?_
 refine bodyPost_ret (v:=(.agg #[.bool false,sN,.bool false,sN])) (zc8 _ _ _ rfl rfl ac (by kernel_rfl)) rfl ⟨?_,hB⟩
 exact ⟨_,_,_,_,rfl,(IsRat.zero _ (by omega)).castq (fc_no hi (by rw [het];exact hf))⟩

theorem zX8 {D:Ofr} {r i k:Nat} (hr:r<D.q) (hi:i<D.n) (hk:k<D.ol i) {ds os rs:Value} {w:World} (ho:Off w D ds os rs) (hm:Mx w):
    Calls Tryz.prog 83 #[.agg #[ds,os,rs],iT (r:Int),iT (i:Int),iT (k:Int)] w fun e w'=>(∃ c0 c1 c2 c3 c4 c5 c6 c7,e=.returned (.tuple #[.agg #[c0,c1,c2,c3],.agg #[c4,c5,c6,c7]])∧IsRat w' 64 c0 c1 c2 c3 (D.sl r i k)∧IsRat w' 64 c4 c5 c6 c7 (D.su r i k))∧Gr w w':=by
 have ok:=ho.ok
 have n1:=ok.n1
 have n2:=ok.n2
 have cY:=ok.q2
 have hnom:=ok.nom i hi
 have hlo:=ok.lo i k hi hk
 go_enter Tryz.func83,Tryz.ntmps83
 have hB:=Gr.refl w
 refine wp_seq_k (fun dQ cz=>rg [0,1,2] ?_)
 refine se ?_
 refine eb 26 #[ds,os,rs] 4 hB fun bl c8 dp aa cV dJ hB=>?_
 simp only [p3,p4]
 refine se ?_
 refine ea 62 #[.bool false,sN,.bool false,sN] 8 hB fun cl cQ ct ae dC cD hB=>?_
 simp only [p3,p4]
 refine se ?_
 refine ea 62 #[.bool false,sN,.bool false,sN] 9 hB fun cm dH cp ai cA cq hB=>?_
 replace aa:=aa.gr ct
 have ap:=ae.ne cA
 simp only [p3,p4]
 refine za0 (cz _ _ ?_)
 refine wp_seq_k (fun cU cK=>rg [0,1,2,3,4,5,6,7,8,9,10] (sv 14 (pT bl 2) ?_))
 replace aa:=aa.gr cp
 refine sw 15 rs rfl (rk 24 2 aa) ?_
 refine sv 16 (iT (r:Int)) ?_
 refine sw 17 (adr rs (r*8)) rfl (zb1 (e:=80) ho.rq za7 (by decide) r (by omega) _ _ _ rfl rfl rfl (by kernel_rfl) (by kernel_rfl)) ?_
 obtain ⟨_,_,⟨dt,bI,rfl,cj⟩,bA⟩:=Sl.get ho.rq (by decide) (zb5 (f:=(fun z1=>(D.rq z1))) (n:=D.q) (i:=r) (by omega))
 refine sw 18 (adr rs (r*8+1)) rfl (ze3 (off:=1) bA _ _ 1 rfl rfl (by kernel_rfl)) ?_
 refine sw 19 (adr rs (r*8+1+1)) rfl (ze3 (off:=1) (AtV.part (i:=1) (us:=[iT 0,sV (zc3 (D.cn r)),bI,sV [],sN]) bA rfl) _ _ 1 rfl rfl (by kernel_rfl)) ?_
 refine sw 20 (.agg #[sV (zc3 (D.cn r)),bI]) rfl (ze7 [sV (zc3 (D.cn r)),bI] (AtV.part (i:=1) (us:=[sV (zc3 (D.cn r)),bI]) (AtV.part (i:=1) (us:=[iT 0,sV (zc3 (D.cn r)),bI,sV [],sN,sV (tO (D.hl r) (D.vl r)),sV (tO (D.hh r) (D.vh r))]) (bA.gr hB) rfl) rfl) _ _ rfl rfl (by kernel_rfl)) ?_
 refine sv 21 (iT (i:Int)) ?_
 refine se ?_
 refine ec 22 (m_factor ok hr hi (hm.gr hB) ((cj.gr zg3 hB).cast (list_tb (d:=((0:Nat),(0:Rat)))).symm)) ?_
 rintro dG dK ⟨⟨aT,a2,a0,a1,rfl,aD⟩,bX⟩
 refine ⟨_,rfl,?_⟩
 replace hB:=hB.trans bX
 simp only [p3,p4]
 refine se ?_
 refine ea 62 #[.bool false,sN,.bool false,sN] 10 hB fun bR dw bU ac b5 cG hB=>?_
 replace aa:=aa.gr bX
 have aU:=aa.ne b5
 replace ae:=ae.gr (cp.trans bX)
 have a3:=ae.ne b5
 replace ai:=ai.gr bX
 have bb:=ai.ne b5
 simp only [p3,p4]
 refine se ?_
 refine es 62 0 (.agg #[aT,a2,a0,a1]) [aT,a2,a0,a1] #[aT,a2,a0,a1] ac hB cG ⟨aD.one0,aD.one1,aD.one2,aD.one3,trivial⟩ fun dz bE b2 ac hB=>?_
 refine za0 (cK _ _ ?_)
 refine wp_seq_k (fun di cr=>rg [0,1,2,3,4,5,6,7,8,9] (sv 23 (pT bl 1) ?_))
 replace aa:=bE.lc (aa.gr bU) aU
 refine sw 24 os rfl (rk 23 1 aa) ?_
 refine sv 25 (iT (i:Int)) ?_
 refine sw 26 (adr os (i*1)) rfl (zb1 (e:=72) ho.op za7 (by decide) i (by omega) _ _ _ rfl rfl rfl (by kernel_rfl) (by kernel_rfl)) ?_
 obtain ⟨_,_,⟨cd,rfl,bK⟩,b6⟩:=Sl.get ho.op (by decide) (zb5 (f:=(fun z0=>tb (fun z1=>(D.op z0 z1)) (D.ol z0))) (n:=D.n) (i:=i) (by omega))
 refine sw 27 cd rfl (zc7 cd (b6.gr hB) _ _ rfl rfl (by kernel_rfl)) ?_
 refine sv 28 (iT (k:Int)) ?_
 refine sw 29 (adr cd (k*3)) rfl (zb1 (e:=68) bK za7 (by decide) k (by omega) _ _ _ rfl rfl rfl (by kernel_rfl) (by kernel_rfl)) ?_
 obtain ⟨_,_,rfl,b0⟩:=Sl.get bK (by decide) (zb5 (f:=(fun z1=>(D.op i z1))) (n:=(D.ol i)) (i:=k) (by omega))
 refine sw 30 (.agg #[iT (D.lo i k),iT (D.up i k),iT (D.co i k)]) rfl (ze7 [iT (D.lo i k),iT (D.up i k),iT (D.co i k)] (b0.gr hB) _ _ rfl rfl (by kernel_rfl)) ?_
 refine se ?_
 refine ea 68 #[iT 0,iT 0,iT 0] 11 hB fun bF dh bN ad bZ cC hB=>?_
 have aL:=aa.ne bZ
 replace ae:=bE.lc (ae.gr bU) a3
 have a8:=ae.ne bZ
 replace ai:=bE.lc (ai.gr bU) bb
 have a7:=ai.ne bZ
 have aG:=ac.ne bZ
 simp only [p3,p4]
 refine se ?_
 refine es 68 0 (.agg #[iT (D.lo i k),iT (D.up i k),iT (D.co i k)]) [iT (D.lo i k),iT (D.up i k),iT (D.co i k)] #[iT (D.lo i k),iT (D.up i k),iT (D.co i k)] ad hB cC ⟨rfl,rfl,rfl,trivial⟩ fun cB aR cc ad hB=>?_
 refine za0 (cr _ _ ?_)
 refine wp_seq_k (fun cW cO=>?_)
 obtain ⟨_,_,⟨cw,rfl⟩,ay⟩:=Sl.get ho.dm (by decide) (zb5 (f:=(fun z1=>(D.nom z1))) (n:=D.n) (i:=i) (by omega))
 have cb:=Below.size hB
 replace aa:=aR.lc (aa.gr bN) aL
 have aS:=aa.lt
 replace ae:=aR.lc (ae.gr bN) a8
 have aI:=ae.lt
 replace ai:=aR.lc (ai.gr bN) a7
 have aY:=ai.lt
 replace ac:=aR.lc (ac.gr bN) aG
 have aF:=ac.lt
 have aJ:=ad.lt
 have al:=Gr.drew cB
 replace hB:=hB.trans al
 replace aa:=aa.gr al
 replace ac:=ac.gr al
 replace ad:=ad.gr al
 refine zg2 (fun w'=>Lc w' bl #[ds,os,rs] 26∧Lc w' bR #[aT,a2,a0,a1] 62∧Lc w' bF #[iT (D.lo i k),iT (D.up i k),iT (D.co i k)] 68∧AtV w' ds (i*4) [sV cw,iT (D.nom i),iT 0,iT 0]) [(true,0),(true,1),(true,2),(true,3),(true,4),(true,5),(true,6),(true,7),(true,8),(true,9),(false,10),(false,11)] [⟨12,12,62,#[.bool false,sN,.bool false,sN]⟩] [(false,13)] (by kernel_rfl) (by kernel_rfl) (by kernel_rfl) (by kernel_rfl) (by kernel_rfl) (by decide) (fun _ _ _ _ _ h=>h) (fun _ _ _ _ _ h=>h) (fun w' o h=>⟨Lc.gr h.1 (Gr.alloc w' o),Lc.gr h.2.1 (Gr.alloc w' o),Lc.gr h.2.2.1 (Gr.alloc w' o),AtV.gr h.2.2.2 (Gr.alloc w' o)⟩) ⟨aa,ac,ad,ay.gr hB⟩ (by intro f hf;simp only [List.mem_cons,List.not_mem_nil,or_false] at hf;rcases hf with rfl<;>first | exact zh1 (z:=(.agg #[.bool false,sN,.bool false,sN])) (by kernel_rfl) rfl) ?_
 refine fw 31 (.agg #[aT,a2,a0,a1]) rfl (fun w' hS=>(rl 62 0 [aT,a2,a0,a1] hS.2.1)) ?_
 refine fv 32 (pT bl 0) ?_
 refine fw 33 ds rfl (fun w' hS=>(rk 22 0 hS.1)) ?_
 refine fv 34 (iT (i:Int)) ?_
 refine fw 35 (adr ds (i*4)) rfl (fun w' hS=>(zb1 (e:=71) ho.dm za7 (by decide) i (by omega) _ _ _ rfl rfl rfl (by kernel_rfl) (by kernel_rfl))) ?_
 refine fw 36 (adr ds (i*4+1)) rfl (fun w' hS=>(ze3 (off:=1) ay _ _ 1 rfl rfl (by kernel_rfl))) ?_
 refine fw 37 (iT (D.nom i)) rfl (fun w' hS=>(zc7 (iT (D.nom i)) (AtV.part (i:=1) (us:=[iT (D.nom i)]) hS.2.2.2 rfl) _ _ rfl rfl (by kernel_rfl))) ?_
 refine fv 38 (pT bF 0) ?_
 refine fw 39 (iT (D.lo i k)) rfl (fun w' hS=>(rk 3 0 hS.2.2.1)) ?_
 refine fw 40 (iT ((D.nom i)+(D.lo i k))) rfl (fun w' hS=>(rwI ((D.nom i)+(D.lo i k)))) ?_
 refine zk2 rfl rfl (fun cT bD _ dN cy=>?_)
 replace hB:=hB.trans bD
 refine ec 41 (zo4 ((D.nom i)+(D.lo i k)) (by omega) (by omega) _) ?_
 rintro dj cR ⟨⟨cS,dc,dk,cX,rfl,b8⟩,bs⟩
 refine ⟨_,rfl,?_⟩
 replace hB:=hB.trans bs
 replace aa:=aa.gr (bD.trans bs)
 replace ac:=ac.gr (bD.trans bs)
 replace ad:=ad.gr (bD.trans bs)
 refine cy _ _ bs ⟨aa,ac,ad,ay.gr hB⟩ ?_
 simp only [p3,p4]
 refine zk2 rfl rfl (fun dI bk _ dq cH=>?_)
 replace hB:=hB.trans bk
 have cg:=bU.kp.trans (b2.trans (bN.kp.trans (cc.trans (al.kp.trans (bD.kp.trans (bs.kp.trans bk.kp))))))
 replace aD:=aD.kp cg
 replace b8:=b8.kp bk.kp
 refine ec 42 (mul_r aD b8 (by omega)) ?_
 rintro df cZ ⟨⟨bi,bt,bq,bg,rfl,aE⟩,bh⟩
 refine ⟨_,rfl,?_⟩
 replace hB:=hB.trans bh
 replace aa:=aa.gr (bk.trans bh)
 replace ac:=ac.gr (bk.trans bh)
 replace ad:=ad.gr (bk.trans bh)
 refine cH _ _ bh ⟨aa,ac,ad,ay.gr hB⟩ ?_
 simp only [p3,p4]
 refine zs2 (fun cN bn _=>?_)
 replace hB:=hB.trans bn
 refine zD8 (fun bj (ah:Lc cN bj #[.bool false,sN,.bool false,sN] 62) q43=>?_)
 have aQ:bl≠bj:=Nat.ne_of_lt (Nat.lt_of_lt_of_le aS q43)
 have au:cl≠bj:=Nat.ne_of_lt (Nat.lt_of_lt_of_le aI q43)
 have aq:cm≠bj:=Nat.ne_of_lt (Nat.lt_of_lt_of_le aY q43)
 have aV:bR≠bj:=Nat.ne_of_lt (Nat.lt_of_lt_of_le aF q43)
 have ba:bF≠bj:=Nat.ne_of_lt (Nat.lt_of_lt_of_le aJ q43)
 replace q43:=Nat.le_trans cb q43
 simp only [zd0,p3,p4]
 refine oe ?_
 refine es 62 0 (.agg #[bi,bt,bq,bg]) [bi,bt,bq,bg] #[bi,bt,bq,bg] ah hB q43 ⟨aE.one0,aE.one1,aE.one2,aE.one3,trivial⟩ fun cE ax bL ah hB=>?_
 replace aa:=ax.lc (aa.gr bn) aQ
 replace ac:=ax.lc (ac.gr bn) aV
 replace ad:=ax.lc (ad.gr bn) ba
 refine ⟨⟨aa,ac,ad,ay.gr hB⟩,?_⟩
 refine zb4 ?_
 refine cO _ _ ?_
 refine wp_seq_k (fun dF cL=>?_)
 obtain ⟨_,_,⟨cI,rfl⟩,az⟩:=Sl.get ho.dm (by decide) (zb5 (f:=(fun z1=>(D.nom z1))) (n:=D.n) (i:=i) (by omega))
 have b9:=Below.size hB
 have aX:=aa.lt
 replace ae:=ax.lc (ae.gr (al.trans (bD.trans (bs.trans (bk.trans (bh.trans bn)))))) au
 have a6:=ae.lt
 replace ai:=ax.lc (ai.gr (al.trans (bD.trans (bs.trans (bk.trans (bh.trans bn)))))) aq
 have aZ:=ai.lt
 have aK:=ac.lt
 have aW:=ad.lt
 have aM:=ah.lt
 have af:=Gr.drew cE
 replace hB:=hB.trans af
 replace aa:=aa.gr af
 replace ac:=ac.gr af
 replace ad:=ad.gr af
 refine zg2 (fun w'=>Lc w' bl #[ds,os,rs] 26∧Lc w' bR #[aT,a2,a0,a1] 62∧Lc w' bF #[iT (D.lo i k),iT (D.up i k),iT (D.co i k)] 68∧AtV w' ds (i*4) [sV cI,iT (D.nom i),iT 0,iT 0]) [(true,0),(true,1),(true,2),(true,3),(true,4),(true,5),(true,6),(true,7),(true,8),(true,9),(false,10),(false,11)] [⟨12,13,62,#[.bool false,sN,.bool false,sN]⟩] [(false,13)] (by kernel_rfl) (by kernel_rfl) (by kernel_rfl) (by kernel_rfl) (by kernel_rfl) (by decide) (fun _ _ _ _ _ h=>h) (fun _ _ _ _ _ h=>h) (fun w' o h=>⟨Lc.gr h.1 (Gr.alloc w' o),Lc.gr h.2.1 (Gr.alloc w' o),Lc.gr h.2.2.1 (Gr.alloc w' o),AtV.gr h.2.2.2 (Gr.alloc w' o)⟩) ⟨aa,ac,ad,az.gr hB⟩ (by intro f hf;simp only [List.mem_cons,List.not_mem_nil,or_false] at hf;rcases hf with rfl<;>first | exact zh1 (z:=(.agg #[.bool false,sN,.bool false,sN])) (by kernel_rfl) rfl) ?_
 refine fw 43 (.agg #[aT,a2,a0,a1]) rfl (fun w' hS=>(rl 62 0 [aT,a2,a0,a1] hS.2.1)) ?_
 refine fv 44 (pT bl 0) ?_
 refine fw 45 ds rfl (fun w' hS=>(rk 22 0 hS.1)) ?_
 refine fv 46 (iT (i:Int)) ?_
 refine fw 47 (adr ds (i*4)) rfl (fun w' hS=>(zb1 (e:=71) ho.dm za7 (by decide) i (by omega) _ _ _ rfl rfl rfl (by kernel_rfl) (by kernel_rfl))) ?_
 refine fw 48 (adr ds (i*4+1)) rfl (fun w' hS=>(ze3 (off:=1) az _ _ 1 rfl rfl (by kernel_rfl))) ?_
 refine fw 49 (iT (D.nom i)) rfl (fun w' hS=>(zc7 (iT (D.nom i)) (AtV.part (i:=1) (us:=[iT (D.nom i)]) hS.2.2.2 rfl) _ _ rfl rfl (by kernel_rfl))) ?_
 refine fv 50 (pT bF 1) ?_
 refine fw 51 (iT (D.up i k)) rfl (fun w' hS=>(rk 3 1 hS.2.2.1)) ?_
 refine fw 52 (iT ((D.nom i)+(D.up i k))) rfl (fun w' hS=>(rwI ((D.nom i)+(D.up i k)))) ?_
 refine zk2 rfl rfl (fun db a9 _ dR cF=>?_)
 replace hB:=hB.trans a9
 refine ec 53 (zo4 ((D.nom i)+(D.up i k)) (by omega) (by omega) _) ?_
 rintro dd dA ⟨⟨cP,c9,dv,dx,rfl,b4⟩,aA⟩
 refine ⟨_,rfl,?_⟩
 replace hB:=hB.trans aA
 replace aa:=aa.gr (a9.trans aA)
 replace ac:=ac.gr (a9.trans aA)
 replace ad:=ad.gr (a9.trans aA)
 refine cF _ _ aA ⟨aa,ac,ad,az.gr hB⟩ ?_
 simp only [p3,p4]
 refine zk2 rfl rfl (fun dE aB _ dr cx=>?_)
 replace hB:=hB.trans aB
 have cf:=bh.kp.trans (bn.kp.trans (bL.trans (af.kp.trans (a9.kp.trans (aA.kp.trans aB.kp)))))
 replace aD:=aD.kp cf
 replace b4:=b4.kp aB.kp
 refine ec 54 (mul_r aD b4 (by omega)) ?_
 rintro dM da ⟨⟨bf,br,bm,bp,rfl,aC⟩,aP⟩
 refine ⟨_,rfl,?_⟩
 replace hB:=hB.trans aP
 replace aa:=aa.gr (aB.trans aP)
 replace ac:=ac.gr (aB.trans aP)
 replace ad:=ad.gr (aB.trans aP)
 refine cx _ _ aP ⟨aa,ac,ad,az.gr hB⟩ ?_
 simp only [p3,p4]
 refine zs2 (fun cJ a5 _=>?_)
 replace hB:=hB.trans a5
 refine zD8 (fun bo (aj:Lc cJ bo #[.bool false,sN,.bool false,sN] 62) q65=>?_)
 have aH:bl≠bo:=Nat.ne_of_lt (Nat.lt_of_lt_of_le aX q65)
 have ar:cl≠bo:=Nat.ne_of_lt (Nat.lt_of_lt_of_le a6 q65)
 have av:cm≠bo:=Nat.ne_of_lt (Nat.lt_of_lt_of_le aZ q65)
 have aN:bR≠bo:=Nat.ne_of_lt (Nat.lt_of_lt_of_le aK q65)
 have aO:bF≠bo:=Nat.ne_of_lt (Nat.lt_of_lt_of_le aW q65)
 have a4:bj≠bo:=Nat.ne_of_lt (Nat.lt_of_lt_of_le aM q65)
 replace q65:=Nat.le_trans b9 q65
 simp only [zd0,p3,p4]
 refine oe ?_
 refine es 62 0 (.agg #[bf,br,bm,bp]) [bf,br,bm,bp] #[bf,br,bm,bp] aj hB q65 ⟨aC.one0,aC.one1,aC.one2,aC.one3,trivial⟩ fun cM aw bM aj hB=>?_
 replace aa:=aw.lc (aa.gr a5) aH
 replace ac:=aw.lc (ac.gr a5) aN
 replace ad:=aw.lc (ad.gr a5) aO
 refine ⟨⟨aa,ac,ad,az.gr hB⟩,?_⟩
 refine zb4 ?_
 refine cL _ _ ?_
 refine wp_seq_k (fun dB cu=>?_)
 have ak:=Gr.drew cM
 replace hB:=hB.trans ak
 replace ah:=(aw.lc (ah.gr (af.trans (a9.trans (aA.trans (aB.trans (aP.trans a5)))))) a4).gr ak
 replace aj:=aj.gr ak
 refine za5 (fun w'=>Lc w' bj #[bi,bt,bq,bg] 62∧Lc w' bo #[bf,br,bm,bp] 62) [(true,0),(true,1),(true,3),(true,4),(false,2),(false,5),(false,6),(false,7)] (by kernel_rfl) (by kernel_rfl) (by kernel_rfl) (by decide) (fun _ _ _ _ _ h=>h) ⟨ah,aj⟩ ?_
 refine ow 55 (.agg #[bi,bt,bq,bg]) rfl (fun w' hS=>(rl 62 0 [bi,bt,bq,bg] hS.1)) ?_
 refine ow 56 (.agg #[bf,br,bm,bp]) rfl (fun w' hS=>(rl 62 0 [bf,br,bm,bp] hS.2)) ?_
 refine ow 58 (.agg #[bi,bt,bq,bg]) rfl (fun w' hS=>(rl 62 0 [bi,bt,bq,bg] hS.1)) ?_
 refine ow 59 (.agg #[bf,br,bm,bp]) rfl (fun w' hS=>(rl 62 0 [bf,br,bm,bp] hS.2)) ?_
 refine oe ?_
 have b7:=bn.kp.trans (bL.trans (af.kp.trans (a9.kp.trans (aA.kp.trans (aB.kp.trans (aP.kp.trans (a5.kp.trans (bM.trans ak.kp))))))))
 replace aE:=aE.kp b7
 have b3:=a5.kp.trans (bM.trans ak.kp)
 replace aC:=aC.kp b3
 refine ec 57 (min_r aE aC (by omega)) ?_
 rintro dL dy ⟨⟨bY,bO,bW,bQ,rfl,bu⟩,bC⟩
 refine ⟨_,rfl,?_⟩
 replace hB:=hB.trans bC
 replace ah:=ah.gr bC
 replace aj:=aj.gr bC
 refine ⟨⟨ah,aj⟩,?_⟩
 simp only [p3,p4]
 refine oe ?_
 replace aE:=aE.kp bC.kp
 replace aC:=aC.kp bC.kp
 refine ec 60 (max_r aE aC (by omega)) ?_
 rintro dD dO ⟨⟨bS,bP,bT,bV,rfl,bv⟩,bG⟩
 refine ⟨_,rfl,?_⟩
 replace hB:=hB.trans bG
 replace ah:=ah.gr bG
 replace aj:=aj.gr bG
 refine ⟨⟨ah,aj⟩,?_⟩
 simp only [p3,p4]
 refine oe ?_
 replace ae:=(aw.lc (ae.gr (af.trans (a9.trans (aA.trans (aB.trans (aP.trans a5)))))) ar).gr (ak.trans (bC.trans bG))
 refine es 62 0 (.agg #[bY,bO,bW,bQ]) [bY,bO,bW,bQ] #[bY,bO,bW,bQ] ae hB cD ⟨bu.one0,bu.one1,bu.one2,bu.one3,trivial⟩ fun dP bw bH ae hB=>?_
 replace ah:=bw.lc ah (Ne.symm au)
 replace aj:=bw.lc aj (Ne.symm ar)
 refine ⟨⟨ah,aj⟩,?_⟩
 refine oe ?_
 replace ai:=bw.lc ((aw.lc (ai.gr (af.trans (a9.trans (aA.trans (aB.trans (aP.trans a5)))))) av).gr (ak.trans (bC.trans bG))) (Ne.symm ap)
 refine es 62 0 (.agg #[bS,bP,bT,bV]) [bS,bP,bT,bV] #[bS,bP,bT,bV] ai hB cq ⟨bv.one0,bv.one1,bv.one2,bv.one3,trivial⟩ fun de bB bJ ai hB=>?_
 replace ah:=bB.lc ah (Ne.symm aq)
 replace aj:=bB.lc aj (Ne.symm av)
 refine ⟨⟨ah,aj⟩,?_⟩
 refine zb4 ?_
 refine cu _ _ ?_
 refine wp_ret ?_
 replace ae:=bB.lc ae ap
 refine bodyPost_ret (v:=(.tuple #[.agg #[bY,bO,bW,bQ],.agg #[bS,bP,bT,bV]])) (zx2 _ _ _ _ _ _ rfl rfl rfl ae (by kernel_rfl) ai (by kernel_rfl)) rfl ⟨?_,hB⟩
 have b1:=bG.kp.trans (bH.trans bJ)
 replace bu:=bu.kp b1
 have ck:=bH.trans bJ
 replace bv:=bv.kp ck
 exact ⟨_,_,_,_,_,_,_,_,rfl,bu.resz (sl_sz ok hr hi hk) (by omega),bv.resz (su_sz ok hr hi hk) (by omega)⟩

end Go.Proofs.YtjhflekncldflaaGreatDoor
namespace Go.Proofs.YtjhflekncldflaaGreatDoor
set_option maxRecDepth 100000
set_option maxHeartbeats 8000000
open Go.RowKit

theorem bmax_1 {f:Nat→Rat}:f 0=bmax f 1:=by unfold bmax bmax rmax;split<;>rfl
theorem bmin_1 {f:Nat→Rat}:f 0=bmin f 1:=by unfold bmin bmin rmin;split<;>rfl
theorem m_reach {D:Ofr} {r:Nat} (hr:r<D.q) {ds os rs:Value} {w:World} (ho:Off w D ds os rs) (hm:Mx w) {TT:Nat} {l:List Nat} {v:Value} (hv:D.vp l) (hl:Sl EI64 TT 1 w v (tb (fun z1=>((Ofr.at_ l z1:Nat):Int)) l.length)):
    Calls Tryz.prog 60 #[.agg #[ds,os,rs],v,iT (r:Int)] w fun e w'=>(∃ c0 c1 c2 c3 c4 c5 c6 c7,e=.returned (.tuple #[.agg #[c0,c1,c2,c3],.agg #[c4,c5,c6,c7]])∧IsRat w' 900 c0 c1 c2 c3 (D.wl l r)∧IsRat w' 900 c4 c5 c6 c7 (D.wu l r))∧Gr w w':=by
 have ok:=ho.ok
 have n1:=ok.n1
 have n2:=ok.n2
 have fJ:=ok.q2
 have gq:=hv.1
 go_enter Tryz.func60,Tryz.ntmps60
 have hB:=Gr.refl w
 refine wp_seq_k (fun gt fy=>rg [0,1,2] ?_)
 refine se ?_
 refine eb 26 #[ds,os,rs] 3 hB fun b5 gg fV ae fS gn hB=>?_
 simp only [p3,p4]
 refine se ?_
 refine ea 62 #[.bool false,sN,.bool false,sN] 6 hB fun cr f0 eP ac fB dT hB=>?_
 have a9:=ae.ne fB
 simp only [p3,p4]
 refine se ?_
 refine ea 62 #[.bool false,sN,.bool false,sN] 7 hB fun cf fY eI ad eC dI hB=>?_
 replace ae:=ae.gr eP
 have a5:=ae.ne eC
 have ah:=ac.ne eC
 simp only [p3,p4]
 refine za0 (fy _ _ ?_)
 refine wp_seq_k (fun fH fk=>rg [0,1,2,3,4,5,6,7,8,9,10,11,12,13,14] (sv 19 (pT b5 2) ?_))
 replace ae:=ae.gr eI
 refine sw 20 rs rfl (rk 24 2 ae) ?_
 refine sv 21 (iT (r:Int)) ?_
 refine sw 22 (adr rs (r*8)) rfl (zb1 (e:=80) ho.rq za7 (by decide) r (by omega) _ _ _ rfl rfl rfl (by kernel_rfl) (by kernel_rfl)) ?_
 obtain ⟨_,_,⟨gi,dt,rfl,eY⟩,cF⟩:=Sl.get ho.rq (by decide) (zb5 (f:=(fun z1=>(D.rq z1))) (n:=D.q) (i:=r) (by omega))
 refine sw 23 (adr rs (r*8+1)) rfl (ze3 (off:=1) cF _ _ 1 rfl rfl (by kernel_rfl)) ?_
 refine sw 24 (adr rs (r*8+1+1)) rfl (ze3 (off:=1) (AtV.part (i:=1) (us:=[iT 0,sV (zc3 (D.cn r)),dt,sV [],sN]) cF rfl) _ _ 1 rfl rfl (by kernel_rfl)) ?_
 refine sw 25 (adr rs (r*8+1+1+0)) rfl (ze3 (off:=0) (AtV.part (i:=1) (us:=[sV (zc3 (D.cn r)),dt]) (AtV.part (i:=1) (us:=[iT 0,sV (zc3 (D.cn r)),dt,sV [],sN,sV (tO (D.hl r) (D.vl r)),sV (tO (D.hh r) (D.vh r))]) cF rfl) rfl) _ _ 0 rfl rfl (by kernel_rfl)) ?_
 refine sw 26 (sV (zc3 (D.cn r))) rfl (zc7 (sV (zc3 (D.cn r))) (AtV.part (i:=0) (us:=[sV (zc3 (D.cn r))]) (AtV.part (i:=1) (us:=[sV (zc3 (D.cn r)),dt,sV [],sN,sV (tO (D.hl r) (D.vl r)),sV (tO (D.hh r) (D.vh r))]) (AtV.part (i:=1) (us:=[iT 0,sV (zc3 (D.cn r)),dt,sV [],sN,sV (tO (D.hl r) (D.vl r)),sV (tO (D.hh r) (D.vh r))]) (cF.gr hB) rfl) rfl) rfl) _ _ rfl rfl (by kernel_rfl)) ?_
 refine se ?_
 refine ec 27 (zs3 (D.cn r) (ok.cn r hr).sz64 (by omega) (by omega) (zs9 (ok.cn r hr)) _ (hm.gr hB)) ?_
 rintro fP fQ ⟨⟨bi,bh,bj,bg,rfl,br⟩,dP⟩
 refine ⟨_,rfl,?_⟩
 replace hB:=hB.trans dP
 simp only [p3,p4]
 refine sv 18 (.tuple #[.agg #[bi,bh,bj,bg],iT 0]) ?_
 refine sv 28 (.agg #[bi,bh,bj,bg]) ?_
 refine sv 29 (iT 0) ?_
 refine se ?_
 refine ea 62 #[.bool false,sN,.bool false,sN] 8 hB fun ej gb dS b3 el fC hB=>?_
 replace ae:=ae.gr dP
 have cy:=ae.ne el
 replace ac:=ac.gr (eI.trans dP)
 have bM:=ac.ne el
 replace ad:=ad.gr dP
 have bJ:=ad.ne el
 simp only [p3,p4]
 refine se ?_
 refine es 62 0 (.agg #[bi,bh,bj,bg]) [bi,bh,bj,bg] #[bi,bh,bj,bg] b3 hB fC ⟨br.one0,br.one1,br.one2,br.one3,trivial⟩ fun fA cS ei b3 hB=>?_
 refine sv 9 (iT 0) (za0 (fk _ _ ?_))
 refine wp_seq_k (fun fM eM=>?_)
 have bS:=Gr.drew fA
 replace hB:=hB.trans bS
 replace b3:=b3.gr bS
 refine za5 (fun w'=>Lc w' ej #[bi,bh,bj,bg] 62) [(true,0),(true,1),(false,2),(false,3)] (by kernel_rfl) (by kernel_rfl) (by kernel_rfl) (by decide) (fun _ _ _ _ _ h=>h) b3 ?_
 refine ow 30 (.agg #[bi,bh,bj,bg]) rfl (fun w' hS=>(rl 62 0 [bi,bh,bj,bg] hS)) ?_
 refine ow 31 (.agg #[bi,bh,bj,bg]) rfl (fun w' hS=>(rl 62 0 [bi,bh,bj,bg] hS)) ?_
 refine oe ?_
 replace ac:=(cS.lc (ac.gr dS) bM).gr bS
 refine es 62 0 (.agg #[bi,bh,bj,bg]) [bi,bh,bj,bg] #[bi,bh,bj,bg] ac hB dT ⟨br.one0,br.one1,br.one2,br.one3,trivial⟩ fun f7 cY em ac hB=>?_
 replace b3:=cY.lc b3 (Ne.symm bM)
 refine ⟨b3,?_⟩
 refine oe ?_
 replace ad:=cY.lc ((cS.lc (ad.gr dS) bJ).gr bS) (Ne.symm ah)
 refine es 62 0 (.agg #[bi,bh,bj,bg]) [bi,bh,bj,bg] #[bi,bh,bj,bg] ad hB dI ⟨br.one0,br.one1,br.one2,br.one3,trivial⟩ fun ga cV ey ad hB=>?_
 replace b3:=cV.lc b3 (Ne.symm bJ)
 refine ⟨b3,?_⟩
 refine zb4 ?_
 refine eM _ _ ?_
 refine wp_seq_k (fun f3 eR=>wp_seq_k (fun fU eQ=>rg [0] (sv 10 (iT 0) ?_)))
 refine za0 (eQ _ _ ?_)
 refine wp_block ?_
 have ed:=dS.kp.trans (ei.trans (bS.kp.trans (em.trans ey)))
 replace br:=br.kp ed
 replace ae:=cV.lc (cY.lc ((cS.lc (ae.gr dS) cy).gr bS) a9) a5
 replace ac:=cV.lc ac ah
 refine zb2 (a:=⟨List.toArray ?l32,[]⟩) (fun n a w'=>∃ (i:Nat) (c0:Value) (c1:Value) (c2:Value) (c3:Value) (c4:Value) (c5:Value) (c6:Value) (c7:Value) (u32:Nat→Value),D.n - i=n∧a=⟨[.agg #[ds,os,rs],v,iT (r:Int),pT b5 0,undef,undef,pT cr 0,pT cf 0,pT ej 0,u32 9,iT (i:Int),u32 11,u32 12,u32 13,u32 14,u32 15,u32 16,u32 17,u32 18,u32 19,u32 20,u32 21,u32 22,u32 23,u32 24,u32 25,u32 26,u32 27,u32 28,u32 29,u32 30,u32 31,u32 32,u32 33,u32 34,u32 35,u32 36,u32 37,u32 38,u32 39,u32 40,u32 41,u32 42,u32 43,u32 44,u32 45,u32 46,u32 47,u32 48,u32 49,u32 50,u32 51,u32 52,u32 53,u32 54,u32 55,u32 56,u32 57,u32 58,u32 59,u32 60,u32 61,u32 62,u32 63,u32 64,u32 65,u32 66,u32 67,u32 68,u32 69,u32 70,u32 71,u32 72,u32 73,u32 74,u32 75,u32 76,u32 77,u32 78,u32 79,u32 80,u32 81,u32 82,u32 83,u32 84,u32 85,u32 86,u32 87,u32 88,u32 89,u32 90,u32 91,u32 92,u32 93,u32 94,u32 95,u32 96,undef,undef].toArray,[]⟩∧i≤D.n∧IsRat w' (64+i*65) c0 c1 c2 c3 (zs4 (D.cn r) (D.xl l r) i)∧IsRat w' (64+i*65) c4 c5 c6 c7 (zs4 (D.cn r) (D.xu l r) i)∧Lc w' b5 #[ds,os,rs] 26∧Lc w' cr #[c0,c1,c2,c3] 62∧Lc w' cf #[c4,c5,c6,c7] 62∧Gr w w') (D.n - 0) ?_ ?_
 ·exact ⟨0,bi,bh,bj,bg,bi,bh,bj,bg,(fun i=>List.getD ?l32 i undef),rfl,rfl,Nat.zero_le _,br,br,ae,ac,ad,hB⟩
 rintro fK f1 eH ⟨i,c0,c1,c2,c3,c4,c5,c6,c7,u32,rfl,rfl,hki,hra,hrb,ae,ac,ad,hB⟩ gc eD
 have gk:i<D.n→0<D.ol i:=fun h=>ok.o1 i h
 have gd:i<D.n→D.ol i≤8:=fun h=>ok.o2 i h
 refine wp_seq_k (fun fZ e9=>wp_seq_k (fun fL eT=>rg [0,1,2,3,4] (sv 32 (iT (i:Int)) ?_)))
 refine sv 33 (pT b5 0) ?_
 refine sw 34 ds rfl (rk 22 0 ae) ?_
 refine sw 35 (iT ((D.n:Nat):Int)) rfl (za9 (e:=71) ho.dm (za8 rfl) _ _ rfl rfl (by kernel_rfl)) ?_
 refine sv 36 (.bool (decide ((i:Int)<((D.n:Nat):Int)))) (za0 (eT _ _ ?_))
 refine wp_cond_split rfl (fun cT=>?_) (fun cT=>?_)
 ·have hli:i<D.n:=by have:=of_decide_eq_true cT;omega
  refine wp_skip ?_
  refine e9 _ _ ?_
  refine wp_seq_k (fun gp eF=>?_)
  refine wp_block ?_
  refine wp_seq_k (fun gh fo=>wp_seq_k (fun fN eW=>rg [0,1,2,3] (sv 39 (iT (i:Int)) ?_)))
  refine sv 40 v ?_
  refine sw 41 (iT ((l.length:Nat):Int)) rfl (za9 (e:=3) hl (za8 rfl) _ _ rfl rfl (by kernel_rfl)) ?_
  refine sv 42 (.bool (decide ((i:Int)<((l.length:Nat):Int)))) (za0 (eW _ _ ?_))
  refine wp_cond_split rfl (fun c8=>?_) (fun c8=>?_)
  ·have hil:i<l.length:=by have:=of_decide_eq_true c8;omega
   have hat:=hv.2 i hil
   refine wp_seq_k (fun fW e0=>?_)
   obtain ⟨_,_,rfl,cz⟩:=Sl.get hl (by decide) (zb5 (f:=(fun z1=>((Ofr.at_ l z1:Nat):Int))) (n:=l.length) (i:=i) (by omega))
   have di:=Below.size hB
   have bP:=ae.lt
   have bI:=ac.lt
   have bK:=ad.lt
   have bR:=Gr.drew eH
   replace hB:=hB.trans bR
   replace ae:=ae.gr bR
   refine zg2 (fun w'=>Lc w' b5 #[ds,os,rs] 26∧AtV w' v (i*1) [iT ((Ofr.at_ l i:Nat):Int)]) [(true,0),(true,1),(true,2),(true,3),(true,4),(true,5),(true,6),(false,7),(true,8),(true,9),(true,10)] [⟨11,11,62,#[.bool false,sN,.bool false,sN]⟩,⟨12,12,62,#[.bool false,sN,.bool false,sN]⟩] [(false,13),(false,14)] (by kernel_rfl) (by kernel_rfl) (by kernel_rfl) (by kernel_rfl) (by kernel_rfl) (by decide) (fun _ _ _ _ _ h=>h) (fun _ _ _ _ _ h=>h) (fun w' o h=>⟨Lc.gr h.1 (Gr.alloc w' o),AtV.gr h.2 (Gr.alloc w' o)⟩) ⟨ae,cz.gr hB⟩ (by intro f hf;simp only [List.mem_cons,List.not_mem_nil,or_false] at hf;rcases hf with rfl | rfl<;>first | exact zh1 (z:=(.agg #[.bool false,sN,.bool false,sN])) (by kernel_rfl) rfl | exact zh1 (z:=(.agg #[.bool false,sN,.bool false,sN])) (by kernel_rfl) rfl) ?_
   refine fw 44 (.agg #[ds,os,rs]) rfl (fun w' hS=>(rl 26 0 [ds,os,rs] hS.1)) ?_
   refine fv 45 (iT (r:Int)) ?_
   refine fv 46 (iT (i:Int)) ?_
   refine fv 47 v ?_
   refine fv 48 (iT (i:Int)) ?_
   refine fw 49 (adr v (i*1)) rfl (fun w' hS=>(zb1 (e:=3) hl za7 (by decide) i (by omega) _ _ _ rfl rfl rfl (by kernel_rfl) (by kernel_rfl))) ?_
   refine fw 50 (iT ((Ofr.at_ l i:Nat):Int)) rfl (fun w' hS=>(zc7 (iT ((Ofr.at_ l i:Nat):Int)) hS.2 _ _ rfl rfl (by kernel_rfl))) ?_
   refine zk2 rfl rfl (fun fF da _ fI eU=>?_)
   replace hB:=hB.trans da
   refine ec 51 (zX8 (k:=(Ofr.at_ l i)) hr hli hat (ho.gr hB) (hm.gr hB)) ?_
   rintro fR ge ⟨⟨aE,aF,aH,aD,aB,aC,aG,aI,rfl,bB,aL⟩,cX⟩
   refine ⟨_,rfl,?_⟩
   replace hB:=hB.trans cX
   replace ae:=ae.gr (da.trans cX)
   refine eU _ _ cX ⟨ae,cz.gr hB⟩ ?_
   simp only [p3,p4]
   refine fv 43 (.tuple #[.agg #[aE,aF,aH,aD],.agg #[aB,aC,aG,aI]]) ?_
   refine fv 52 (.agg #[aE,aF,aH,aD]) ?_
   refine fv 53 (.agg #[aB,aC,aG,aI]) ?_
   refine zs2 (fun eE cN _=>?_)
   replace hB:=hB.trans cN
   refine yb2 (fun dj dy (bm:Lc eE dj #[.bool false,sN,.bool false,sN] 62) q57 (bb:Lc eE dy #[.bool false,sN,.bool false,sN] 62) q58 ne57_58=>?_)
   have cB:b5≠dj:=Nat.ne_of_lt (Nat.lt_of_lt_of_le bP q57)
   have bG:cr≠dj:=Nat.ne_of_lt (Nat.lt_of_lt_of_le bI q57)
   have bL:cf≠dj:=Nat.ne_of_lt (Nat.lt_of_lt_of_le bK q57)
   replace q57:=Nat.le_trans di q57
   have cD:b5≠dy:=Nat.ne_of_lt (Nat.lt_of_lt_of_le bP q58)
   have bQ:cr≠dy:=Nat.ne_of_lt (Nat.lt_of_lt_of_le bI q58)
   have bF:cf≠dy:=Nat.ne_of_lt (Nat.lt_of_lt_of_le bK q58)
   replace q58:=Nat.le_trans di q58
   simp only [zd0,p3,p4]
   refine oe ?_
   refine es 62 0 (.agg #[aE,aF,aH,aD]) [aE,aF,aH,aD] #[aE,aF,aH,aD] bm hB q57 ⟨bB.one0,bB.one1,bB.one2,bB.one3,trivial⟩ fun fX cH b7 bm hB=>?_
   replace ae:=cH.lc (ae.gr cN) cB
   refine ⟨⟨ae,cz.gr hB⟩,?_⟩
   refine oe ?_
   replace bb:=cH.lc bb (Ne.symm ne57_58)
   refine es 62 0 (.agg #[aB,aC,aG,aI]) [aB,aC,aG,aI] #[aB,aC,aG,aI] bb hB q58 ⟨aL.one0,aL.one1,aL.one2,aL.one3,trivial⟩ fun fq b9 cw bb hB=>?_
   replace ae:=b9.lc ae cD
   refine ⟨⟨ae,cz.gr hB⟩,?_⟩
   refine zb4 ?_
   refine e0 _ _ ?_
   refine wp_seq_k (fun fT fi=>?_)
   have aQ:=Gr.drew fq
   replace hB:=hB.trans aQ
   replace bm:=(b9.lc bm ne57_58).gr aQ
   replace bb:=bb.gr aQ
   replace ac:=(b9.lc (cH.lc (ac.gr (bR.trans (da.trans (cX.trans cN)))) bG) bQ).gr aQ
   replace ad:=(b9.lc (cH.lc (ad.gr (bR.trans (da.trans (cX.trans cN)))) bL) bF).gr aQ
   refine zd2 (fun w'=>Lc w' dj #[aE,aF,aH,aD] 62∧Lc w' dy #[aB,aC,aG,aI] 62) [([6],(fun w'=>Lc w' cr #[c0,c1,c2,c3] 62)),([7],(fun w'=>Lc w' cf #[c4,c5,c6,c7] 62))] [(true,0),(true,1),(true,3),(true,4),(false,2),(false,5),(false,6),(false,7)] (by kernel_rfl) (by kernel_rfl) (by kernel_rfl) (by decide) (fun _ _ _ _ _ h=>h) ⟨bm,bb⟩ ⟨fun _=>ac,fun _=>ad,trivial⟩ ?_
   refine tw 54 (.agg #[c0,c1,c2,c3]) rfl (fun w' hS=>(rl 62 0 [c0,c1,c2,c3] (hS.2.1 (by kernel_rfl)))) ?_
   refine tw 55 (.agg #[aE,aF,aH,aD]) rfl (fun w' hS=>(rl 62 0 [aE,aF,aH,aD] hS.1.1)) ?_
   refine tw 57 (.agg #[c4,c5,c6,c7]) rfl (fun w' hS=>(rl 62 0 [c4,c5,c6,c7] (hS.2.2.1 (by kernel_rfl)))) ?_
   refine tw 58 (.agg #[aB,aC,aG,aI]) rfl (fun w' hS=>(rl 62 0 [aB,aC,aG,aI] hS.1.2)) ?_
   refine te ?_
   have dY:=bR.kp.trans (da.kp.trans (cX.kp.trans (cN.kp.trans (b7.trans (cw.trans aQ.kp)))))
   replace hra:=hra.kp dY
   have ev:=cN.kp.trans (b7.trans (cw.trans aQ.kp))
   replace bB:=bB.kp ev
   refine ec 56 (zG3 hra bB (by omega)) ?_
   rintro f5 fG ⟨⟨dV,dU,dO,dJ,rfl,cZ⟩,cL⟩
   refine ⟨_,rfl,?_⟩
   replace hB:=hB.trans cL
   replace bm:=bm.gr cL
   replace bb:=bb.gr cL
   replace ac:=ac.gr cL
   replace ad:=ad.gr cL
   refine ⟨⟨bm,bb⟩,⟨fun _=>ac,fun _=>ad,trivial⟩,?_⟩
   simp only [p3,p4]
   refine te ?_
   have eg:=bR.kp.trans (da.kp.trans (cX.kp.trans (cN.kp.trans (b7.trans (cw.trans (aQ.kp.trans cL.kp))))))
   replace hrb:=hrb.kp eg
   have ex:=cN.kp.trans (b7.trans (cw.trans (aQ.kp.trans cL.kp)))
   replace aL:=aL.kp ex
   refine ec 59 (zG3 hrb aL (by omega)) ?_
   rintro f8 gl ⟨⟨dH,dR,dK,dL,rfl,cW⟩,cU⟩
   refine ⟨_,rfl,?_⟩
   replace hB:=hB.trans cU
   replace bm:=bm.gr cU
   replace bb:=bb.gr cU
   replace ac:=ac.gr cU
   replace ad:=ad.gr cU
   refine ⟨⟨bm,bb⟩,⟨fun _=>ac,fun _=>ad,trivial⟩,?_⟩
   simp only [p3,p4]
   refine te ?_
   refine es 62 0 (.agg #[dV,dU,dO,dJ]) [dV,dU,dO,dJ] #[dV,dU,dO,dJ] ac hB dT ⟨cZ.one0,cZ.one1,cZ.one2,cZ.one3,trivial⟩ fun gs cu dq ac hB=>?_
   replace bm:=cu.lc bm (Ne.symm bG)
   replace bb:=cu.lc bb (Ne.symm bQ)
   replace ad:=cu.lc ad (Ne.symm ah)
   refine ⟨⟨bm,bb⟩,⟨zf9 (by kernel_rfl),fun _=>ad,trivial⟩,?_⟩
   refine te ?_
   refine es 62 0 (.agg #[dH,dR,dK,dL]) [dH,dR,dK,dL] #[dH,dR,dK,dL] ad hB dI ⟨cW.one0,cW.one1,cW.one2,cW.one3,trivial⟩ fun f6 cG de ad hB=>?_
   replace bm:=cG.lc bm (Ne.symm bL)
   replace bb:=cG.lc bb (Ne.symm bF)
   refine ⟨⟨bm,bb⟩,⟨zf9 (by kernel_rfl),zf9 (by kernel_rfl),trivial⟩,?_⟩
   refine zg4 ?_
   refine fi _ _ ?_
   refine wp_exit ?_
   simp only [Exit.then,Exit.inBlock,↓reduceIte]
   refine eF _ _ ?_
   refine rg [0,1,2] (sv 37 (iT (i:Int)) ?_)
   refine sw 38 (iT ((i:Int)+1)) rfl (rwI ((i:Int)+1)) ?_
   refine sv 10 (iT ((i:Int)+1)) ?_
   refine za0 ?_
   have eh:=cU.kp.trans (dq.trans de)
   replace cZ:=cZ.kp eh
   have dZ:=dq.trans de
   replace cW:=cW.kp dZ
   replace ae:=cG.lc (cu.lc (ae.gr (aQ.trans (cL.trans cU))) a9) a5
   replace ac:=cG.lc ac ah
   refine eD (D.n - (i+1)) ⟨List.toArray ?l93,[]⟩ _ (by omega) ?_
   exact ⟨i+1,dV,dU,dO,dJ,dH,dR,dK,dL,(fun i=>List.getD ?l93 i undef),rfl,rfl,(by omega),(cZ.mono (by omega)).castq (xl_in hil),(cW.mono (by omega)).castq (xu_in hil),ae,ac,ad,hB⟩
  have hil:¬ i<l.length:=by have:=of_decide_eq_false c8;omega
  refine wp_skip ?_
  refine fo _ _ ?_
  refine wp_seq_k (fun fO eX=>rg [0,1,2,3,4,5,6,7,8,9,10] ?_)
  refine sw 61 (.agg #[ds,os,rs]) rfl (rl 26 0 [ds,os,rs] ae) ?_
  refine sv 62 (iT (r:Int)) ?_
  refine sv 63 (iT (i:Int)) ?_
  refine se ?_
  refine ec 64 (zX8 (k:=0) hr hli (ok.o1 i hli) (ho.gr hB) (hm.gr hB)) ?_
  rintro gj gf ⟨⟨a2,aV,aW,aZ,a4,aX,a0,aY,rfl,bA,aK⟩,dF⟩
  refine ⟨_,rfl,?_⟩
  replace hB:=hB.trans dF
  simp only [p3,p4]
  refine sv 60 (.tuple #[.agg #[a2,aV,aW,aZ],.agg #[a4,aX,a0,aY]]) ?_
  refine sv 65 (.agg #[a2,aV,aW,aZ]) ?_
  refine sv 66 (.agg #[a4,aX,a0,aY]) ?_
  refine se ?_
  refine ea 62 #[.bool false,sN,.bool false,sN] 13 hB fun dM f9 dC af eu eJ hB=>?_
  replace ae:=ae.gr dF
  have bN:=ae.ne eu
  replace ac:=ac.gr dF
  have a8:=ac.ne eu
  replace ad:=ad.gr dF
  have a6:=ad.ne eu
  simp only [p3,p4]
  refine se ?_
  refine ea 62 #[.bool false,sN,.bool false,sN] 14 hB fun dN f4 c9 ai dQ eG hB=>?_
  replace ae:=ae.gr dC
  have bO:=ae.ne dQ
  replace ac:=ac.gr dC
  have ba:=ac.ne dQ
  replace ad:=ad.gr dC
  have bf:=ad.ne dQ
  have aJ:=af.ne dQ
  simp only [p3,p4]
  refine se ?_
  replace af:=af.gr c9
  refine es 62 0 (.agg #[a2,aV,aW,aZ]) [a2,aV,aW,aZ] #[a2,aV,aW,aZ] af hB eJ ⟨bA.one0,bA.one1,bA.one2,bA.one3,trivial⟩ fun gm cI dD af hB=>?_
  refine se ?_
  replace ai:=cI.lc ai (Ne.symm aJ)
  refine es 62 0 (.agg #[a4,aX,a0,aY]) [a4,aX,a0,aY] #[a4,aX,a0,aY] ai hB eG ⟨aK.one0,aK.one1,aK.one2,aK.one3,trivial⟩ fun f2 ck dz ai hB=>?_
  refine za0 (eX _ _ ?_)
  refine wp_seq_k (fun fa ep=>wp_seq_k (fun fb et=>rg [0] (sv 15 (iT 1) ?_)))
  refine za0 (et _ _ ?_)
  refine wp_block ?_
  have cR:=dC.kp.trans (c9.kp.trans (dD.trans dz))
  replace bA:=bA.kp cR
  replace aK:=aK.kp cR
  have cP:=dF.kp.trans (dC.kp.trans (c9.kp.trans (dD.trans dz)))
  replace hra:=hra.kp cP
  replace hrb:=hrb.kp cP
  replace ae:=ck.lc (cI.lc (ae.gr c9) bN) bO
  replace ac:=ck.lc (cI.lc (ac.gr c9) a8) ba
  replace ad:=ck.lc (cI.lc (ad.gr c9) a6) bf
  replace af:=ck.lc af aJ
  refine zb2 (a:=⟨List.toArray ?l102,[]⟩) (fun n a w'=>∃ (k:Nat) (d0:Value) (d1:Value) (d2:Value) (d3:Value) (d4:Value) (d5:Value) (d6:Value) (d7:Value) (aa:Nat→Value),(D.ol i) - k=n∧a=⟨[.agg #[ds,os,rs],v,iT (r:Int),pT b5 0,undef,undef,pT cr 0,pT cf 0,pT ej 0,aa 9,iT (i:Int),u32 11,u32 12,pT dM 0,pT dN 0,iT (k:Int),aa 16,aa 17,aa 18,aa 19,aa 20,aa 21,aa 22,aa 23,aa 24,aa 25,aa 26,aa 27,aa 28,aa 29,aa 30,aa 31,aa 32,aa 33,aa 34,aa 35,.bool (decide ((i:Int)<((D.n:Nat):Int))),aa 37,aa 38,aa 39,aa 40,aa 41,.bool (decide ((i:Int)<((l.length:Nat):Int))),aa 43,aa 44,aa 45,aa 46,aa 47,aa 48,aa 49,aa 50,aa 51,aa 52,aa 53,aa 54,aa 55,aa 56,aa 57,aa 58,aa 59,aa 60,aa 61,aa 62,aa 63,aa 64,aa 65,aa 66,aa 67,aa 68,aa 69,aa 70,aa 71,aa 72,aa 73,aa 74,aa 75,aa 76,aa 77,aa 78,aa 79,aa 80,aa 81,aa 82,aa 83,aa 84,aa 85,aa 86,aa 87,aa 88,aa 89,aa 90,aa 91,aa 92,aa 93,aa 94,aa 95,aa 96,undef,undef].toArray,[]⟩∧k≤(D.ol i)∧IsRat w' (64+i*65) c0 c1 c2 c3 (zs4 (D.cn r) (D.xl l r) i)∧IsRat w' (64+i*65) c4 c5 c6 c7 (zs4 (D.cn r) (D.xu l r) i)∧IsRat w' 64 d0 d1 d2 d3 (bmax (D.sl r i) k)∧IsRat w' 64 d4 d5 d6 d7 (bmin (D.su r i) k)∧Lc w' b5 #[ds,os,rs] 26∧Lc w' cr #[c0,c1,c2,c3] 62∧Lc w' cf #[c4,c5,c6,c7] 62∧Lc w' dM #[d0,d1,d2,d3] 62∧Lc w' dN #[d4,d5,d6,d7] 62∧Gr w w') ((D.ol i) - 1) ?_ ?_
  ·exact ⟨1,a2,aV,aW,aZ,a4,aX,a0,aY,(fun i=>List.getD ?l102 i undef),rfl,rfl,(by omega),hra,hrb,bA.castq bmax_1,aK.castq bmin_1,ae,ac,ad,af,ai,hB⟩
  rintro e4 e1 dX ⟨k,d0,d1,d2,d3,d4,d5,d6,d7,aa,rfl,rfl,hkk,hra,hrb,hda,hdb,ae,ac,ad,af,ai,hB⟩ eK eA
  refine wp_seq_k (fun fD d9=>wp_seq_k (fun fg en=>rg [0,1,2,3,4,5,6,7] (sv 67 (iT (k:Int)) ?_)))
  refine sv 68 (pT b5 1) ?_
  refine sw 69 os rfl (rk 23 1 ae) ?_
  refine sv 70 (iT (i:Int)) ?_
  refine sw 71 (adr os (i*1)) rfl (zb1 (e:=72) ho.op za7 (by decide) i (by omega) _ _ _ rfl rfl rfl (by kernel_rfl) (by kernel_rfl)) ?_
  obtain ⟨_,_,⟨dv,rfl,dG⟩,dh⟩:=Sl.get ho.op (by decide) (zb5 (f:=(fun z0=>tb (fun z1=>(D.op z0 z1)) (D.ol z0))) (n:=D.n) (i:=i) (by omega))
  refine sw 72 dv rfl (zc7 dv (dh.gr hB) _ _ rfl rfl (by kernel_rfl)) ?_
  refine sw 73 (iT ((D.ol i:Nat):Int)) rfl (za9 (e:=68) dG (za8 rfl) _ _ rfl rfl (by kernel_rfl)) ?_
  refine sv 74 (.bool (decide ((k:Int)<((D.ol i:Nat):Int)))) (za0 (en _ _ ?_))
  refine wp_cond_split rfl (fun bZ=>?_) (fun bZ=>?_)
  ·have hlk:k<(D.ol i):=by have:=of_decide_eq_true bZ;omega
   refine wp_skip ?_
   refine d9 _ _ ?_
   refine wp_seq_k (fun fm ew=>?_)
   refine wp_block ?_
   refine wp_seq_k (fun fh er=>rg [0,1,2,3,4,5,6,7,8,9,10,11] ?_)
   refine sw 78 (.agg #[ds,os,rs]) rfl (rl 26 0 [ds,os,rs] ae) ?_
   refine sv 79 (iT (r:Int)) ?_
   refine sv 80 (iT (i:Int)) ?_
   refine sv 81 (iT (k:Int)) ?_
   refine se ?_
   refine ec 82 (zX8 (k:=k) hr hli hlk (ho.gr hB) (hm.gr hB)) ?_
   rintro e8 eO ⟨⟨ar,au,ax,av,ap,aq,aw,ay,rfl,aN,az⟩,a7⟩
   refine ⟨_,rfl,?_⟩
   replace hB:=hB.trans a7
   simp only [p3,p4]
   refine sv 77 (.tuple #[.agg #[ar,au,ax,av],.agg #[ap,aq,aw,ay]]) ?_
   refine sv 83 (.agg #[ar,au,ax,av]) ?_
   refine sv 84 (.agg #[ap,aq,aw,ay]) ?_
   refine se ?_
   refine ea 62 #[.bool false,sN,.bool false,sN] 16 hB fun ef fd aP aj bW ee hB=>?_
   replace ae:=ae.gr a7
   have b2:=ae.ne bW
   replace ac:=ac.gr a7
   have b0:=ac.ne bW
   replace ad:=ad.gr a7
   have b1:=ad.ne bW
   replace af:=af.gr a7
   have bp:=af.ne bW
   replace ai:=ai.gr a7
   have bk:=ai.ne bW
   simp only [p3,p4]
   refine se ?_
   refine ea 62 #[.bool false,sN,.bool false,sN] 17 hB fun d8 fu aO al bT eB hB=>?_
   replace ae:=ae.gr aP
   have bY:=ae.ne bT
   replace ac:=ac.gr aP
   have bV:=ac.ne bT
   replace ad:=ad.gr aP
   have bX:=ad.ne bT
   replace af:=af.gr aP
   have bl:=af.ne bT
   replace ai:=ai.gr aP
   have bn:=ai.ne bT
   have aS:=aj.ne bT
   simp only [p3,p4]
   refine se ?_
   replace aj:=aj.gr aO
   refine es 62 0 (.agg #[ar,au,ax,av]) [ar,au,ax,av] #[ar,au,ax,av] aj hB ee ⟨aN.one0,aN.one1,aN.one2,aN.one3,trivial⟩ fun e7 aT bq aj hB=>?_
   refine se ?_
   replace al:=aT.lc al (Ne.symm aS)
   refine es 62 0 (.agg #[ap,aq,aw,ay]) [ap,aq,aw,ay] #[ap,aq,aw,ay] al hB eB ⟨az.one0,az.one1,az.one2,az.one3,trivial⟩ fun dW a3 bo al hB=>?_
   refine za0 (er _ _ ?_)
   have ak:=Gr.drew dW
   replace hB:=hB.trans ak
   replace aj:=(a3.lc aj aS).gr ak
   replace al:=al.gr ak
   replace af:=(a3.lc (aT.lc (af.gr aO) bp) bl).gr ak
   replace ai:=(a3.lc (aT.lc (ai.gr aO) bk) bn).gr ak
   refine zd2 (fun w'=>Lc w' ef #[ar,au,ax,av] 62∧Lc w' d8 #[ap,aq,aw,ay] 62) [([6],(fun w'=>Lc w' dM #[d0,d1,d2,d3] 62)),([7],(fun w'=>Lc w' dN #[d4,d5,d6,d7] 62))] [(true,0),(true,1),(true,3),(true,4),(false,2),(false,5),(false,6),(false,7)] (by kernel_rfl) (by kernel_rfl) (by kernel_rfl) (by decide) (fun _ _ _ _ _ h=>h) ⟨aj,al⟩ ⟨fun _=>af,fun _=>ai,trivial⟩ ?_
   refine tw 85 (.agg #[d0,d1,d2,d3]) rfl (fun w' hS=>(rl 62 0 [d0,d1,d2,d3] (hS.2.1 (by kernel_rfl)))) ?_
   refine tw 86 (.agg #[ar,au,ax,av]) rfl (fun w' hS=>(rl 62 0 [ar,au,ax,av] hS.1.1)) ?_
   refine tw 88 (.agg #[d4,d5,d6,d7]) rfl (fun w' hS=>(rl 62 0 [d4,d5,d6,d7] (hS.2.2.1 (by kernel_rfl)))) ?_
   refine tw 89 (.agg #[ap,aq,aw,ay]) rfl (fun w' hS=>(rl 62 0 [ap,aq,aw,ay] hS.1.2)) ?_
   refine te ?_
   have dE:=a7.kp.trans (aP.kp.trans (aO.kp.trans (bq.trans (bo.trans ak.kp))))
   replace hda:=hda.kp dE
   have dp:=aP.kp.trans (aO.kp.trans (bq.trans (bo.trans ak.kp)))
   replace aN:=aN.kp dp
   refine ec 87 (max_r hda aN (by omega)) ?_
   rintro e2 eV ⟨⟨b6,cE,cm,cq,rfl,bs⟩,aM⟩
   refine ⟨_,rfl,?_⟩
   replace hB:=hB.trans aM
   replace aj:=aj.gr aM
   replace al:=al.gr aM
   replace af:=af.gr aM
   replace ai:=ai.gr aM
   refine ⟨⟨aj,al⟩,⟨fun _=>af,fun _=>ai,trivial⟩,?_⟩
   simp only [p3,p4]
   refine te ?_
   have dd:=a7.kp.trans (aP.kp.trans (aO.kp.trans (bq.trans (bo.trans (ak.kp.trans aM.kp)))))
   replace hdb:=hdb.kp dd
   have dx:=aP.kp.trans (aO.kp.trans (bq.trans (bo.trans (ak.kp.trans aM.kp))))
   replace az:=az.kp dx
   refine ec 90 (min_r hdb az (by omega)) ?_
   rintro fl ft ⟨⟨cp,cd,cC,cg,rfl,bw⟩,aR⟩
   refine ⟨_,rfl,?_⟩
   replace hB:=hB.trans aR
   replace aj:=aj.gr aR
   replace al:=al.gr aR
   replace af:=af.gr aR
   replace ai:=ai.gr aR
   refine ⟨⟨aj,al⟩,⟨fun _=>af,fun _=>ai,trivial⟩,?_⟩
   simp only [p3,p4]
   refine te ?_
   refine es 62 0 (.agg #[b6,cE,cm,cq]) [b6,cE,cm,cq] #[b6,cE,cm,cq] af hB eJ ⟨bs.one0,bs.one1,bs.one2,bs.one3,trivial⟩ fun eL a1 bU af hB=>?_
   replace aj:=a1.lc aj (Ne.symm bp)
   replace al:=a1.lc al (Ne.symm bl)
   replace ai:=a1.lc ai (Ne.symm aJ)
   refine ⟨⟨aj,al⟩,⟨zf9 (by kernel_rfl),fun _=>ai,trivial⟩,?_⟩
   refine te ?_
   refine es 62 0 (.agg #[cp,cd,cC,cg]) [cp,cd,cC,cg] #[cp,cd,cC,cg] ai hB eG ⟨bw.one0,bw.one1,bw.one2,bw.one3,trivial⟩ fun fp aU b4 ai hB=>?_
   replace aj:=aU.lc aj (Ne.symm bk)
   replace al:=aU.lc al (Ne.symm bn)
   refine ⟨⟨aj,al⟩,⟨zf9 (by kernel_rfl),zf9 (by kernel_rfl),trivial⟩,?_⟩
   refine zg4 ?_
   refine ew _ _ ?_
   refine rg [0,1,2] (sv 75 (iT (k:Int)) ?_)
   refine sw 76 (iT ((k:Int)+1)) rfl (rwI ((k:Int)+1)) ?_
   refine sv 15 (iT ((k:Int)+1)) ?_
   refine za0 ?_
   have df:=aR.kp.trans (bU.trans b4)
   replace bs:=bs.kp df
   have dB:=bU.trans b4
   replace bw:=bw.kp dB
   have cK:=a7.kp.trans (aP.kp.trans (aO.kp.trans (bq.trans (bo.trans (ak.kp.trans (aM.kp.trans (aR.kp.trans (bU.trans b4))))))))
   replace hra:=hra.kp cK
   replace hrb:=hrb.kp cK
   replace ae:=aU.lc (a1.lc ((a3.lc (aT.lc (ae.gr aO) b2) bY).gr (ak.trans (aM.trans aR))) bN) bO
   replace ac:=aU.lc (a1.lc ((a3.lc (aT.lc (ac.gr aO) b0) bV).gr (ak.trans (aM.trans aR))) a8) ba
   replace ad:=aU.lc (a1.lc ((a3.lc (aT.lc (ad.gr aO) b1) bX).gr (ak.trans (aM.trans aR))) a6) bf
   replace af:=aU.lc af aJ
   refine eA ((D.ol i) - (k+1)) ⟨List.toArray ?l146,[]⟩ _ (by omega) ?_
   exact ⟨k+1,b6,cE,cm,cq,cp,cd,cC,cg,(fun i=>List.getD ?l146 i undef),rfl,rfl,(by omega),hra,hrb,bs,bw,ae,ac,ad,af,ai,hB⟩
  have hek:(D.ol i)=k:=by have:=of_decide_eq_false bZ;omega
  subst hek
  refine wp_exit ?_
  simp only [Exit.then,Exit.inBlock,↓reduceIte]
  refine ep _ _ ?_
  have aA:=Gr.drew dX
  replace hB:=hB.trans aA
  replace af:=af.gr aA
  replace ai:=ai.gr aA
  replace ac:=ac.gr aA
  replace ad:=ad.gr aA
  refine zd2 (fun w'=>Lc w' dM #[d0,d1,d2,d3] 62∧Lc w' dN #[d4,d5,d6,d7] 62) [([6],(fun w'=>Lc w' cr #[c0,c1,c2,c3] 62)),([7],(fun w'=>Lc w' cf #[c4,c5,c6,c7] 62))] [(true,0),(true,1),(true,3),(true,4),(false,2),(false,5),(false,6),(false,7)] (by kernel_rfl) (by kernel_rfl) (by kernel_rfl) (by decide) (fun _ _ _ _ _ h=>h) ⟨af,ai⟩ ⟨fun _=>ac,fun _=>ad,trivial⟩ ?_
  refine tw 91 (.agg #[c0,c1,c2,c3]) rfl (fun w' hS=>(rl 62 0 [c0,c1,c2,c3] (hS.2.1 (by kernel_rfl)))) ?_
  refine tw 92 (.agg #[d0,d1,d2,d3]) rfl (fun w' hS=>(rl 62 0 [d0,d1,d2,d3] hS.1.1)) ?_
  refine tw 94 (.agg #[c4,c5,c6,c7]) rfl (fun w' hS=>(rl 62 0 [c4,c5,c6,c7] (hS.2.2.1 (by kernel_rfl)))) ?_
  refine tw 95 (.agg #[d4,d5,d6,d7]) rfl (fun w' hS=>(rl 62 0 [d4,d5,d6,d7] hS.1.2)) ?_
  refine te ?_
  replace hra:=hra.kp aA.kp
  replace hda:=hda.kp aA.kp
  refine ec 93 (zG3 hra hda (by omega)) ?_
  rintro e3 e5 ⟨⟨cb,cc,cl,ct,rfl,bC⟩,bt⟩
  refine ⟨_,rfl,?_⟩
  replace hB:=hB.trans bt
  replace af:=af.gr bt
  replace ai:=ai.gr bt
  replace ac:=ac.gr bt
  replace ad:=ad.gr bt
  refine ⟨⟨af,ai⟩,⟨fun _=>ac,fun _=>ad,trivial⟩,?_⟩
  simp only [p3,p4]
  refine te ?_
  have cM:=aA.kp.trans bt.kp
  replace hrb:=hrb.kp cM
  replace hdb:=hdb.kp cM
  refine ec 96 (zG3 hrb hdb (by omega)) ?_
  rintro eZ fj ⟨⟨cj,b8,cA,cx,rfl,bv⟩,bu⟩
  refine ⟨_,rfl,?_⟩
  replace hB:=hB.trans bu
  replace af:=af.gr bu
  replace ai:=ai.gr bu
  replace ac:=ac.gr bu
  replace ad:=ad.gr bu
  refine ⟨⟨af,ai⟩,⟨fun _=>ac,fun _=>ad,trivial⟩,?_⟩
  simp only [p3,p4]
  refine te ?_
  refine es 62 0 (.agg #[cb,cc,cl,ct]) [cb,cc,cl,ct] #[cb,cc,cl,ct] ac hB dT ⟨bC.one0,bC.one1,bC.one2,bC.one3,trivial⟩ fun fs bH cO ac hB=>?_
  replace af:=bH.lc af (Ne.symm a8)
  replace ai:=bH.lc ai (Ne.symm ba)
  replace ad:=bH.lc ad (Ne.symm ah)
  refine ⟨⟨af,ai⟩,⟨zf9 (by kernel_rfl),fun _=>ad,trivial⟩,?_⟩
  refine te ?_
  refine es 62 0 (.agg #[cj,b8,cA,cx]) [cj,b8,cA,cx] #[cj,b8,cA,cx] ad hB dI ⟨bv.one0,bv.one1,bv.one2,bv.one3,trivial⟩ fun e6 bD cQ ad hB=>?_
  replace af:=bD.lc af (Ne.symm a6)
  replace ai:=bD.lc ai (Ne.symm bf)
  refine ⟨⟨af,ai⟩,⟨zf9 (by kernel_rfl),zf9 (by kernel_rfl),trivial⟩,?_⟩
  refine zg4 ?_
  refine eF _ _ ?_
  refine rg [0,1,2] (sv 37 (iT (i:Int)) ?_)
  refine sw 38 (iT ((i:Int)+1)) rfl (rwI ((i:Int)+1)) ?_
  refine sv 10 (iT ((i:Int)+1)) ?_
  refine za0 ?_
  have db:=bu.kp.trans (cO.trans cQ)
  replace bC:=bC.kp db
  have dk:=cO.trans cQ
  replace bv:=bv.kp dk
  replace ae:=bD.lc (bH.lc (ae.gr (aA.trans (bt.trans bu))) a9) a5
  replace ac:=bD.lc ac ah
  refine eD (D.n - (i+1)) ⟨List.toArray ?l170,[]⟩ _ (by omega) ?_
  exact ⟨i+1,cb,cc,cl,ct,cj,b8,cA,cx,(fun i=>List.getD ?l170 i undef),rfl,rfl,(by omega),(bC.mono (by omega)).castq (xl_out hil),(bv.mono (by omega)).castq (xu_out hil),ae,ac,ad,hB⟩
 have hei:D.n=i:=by have:=of_decide_eq_false cT;omega
 subst hei
 refine wp_exit ?_
 simp only [Exit.then,Exit.inBlock,↓reduceIte]
 refine eR _ _ ?_
 refine wp_seq_k (fun eS ez=>?_)
 have bE:=Gr.drew eH
 replace hB:=hB.trans bE
 replace ac:=ac.gr bE
 replace ad:=ad.gr bE
 refine zd2 (fun _=>True) [([2],(fun w'=>Lc w' cr #[c0,c1,c2,c3] 62)),([3],(fun w'=>Lc w' cf #[c4,c5,c6,c7] 62))] [(true,0),(true,1),(false,2),(false,3)] (by kernel_rfl) (by kernel_rfl) (by kernel_rfl) (by decide) (fun _ _ _ _ _ h=>h) trivial ⟨fun _=>ac,fun _=>ad,trivial⟩ ?_
 refine tw 97 (.agg #[c0,c1,c2,c3]) rfl (fun w' hS=>(rl 62 0 [c0,c1,c2,c3] (hS.2.1 (by kernel_rfl)))) ?_
 refine tw 98 (.agg #[c4,c5,c6,c7]) rfl (fun w' hS=>(rl 62 0 [c4,c5,c6,c7] (hS.2.2.1 (by kernel_rfl)))) ?_
 refine te ?_
 refine es 62 0 (.agg #[c0,c1,c2,c3]) [c0,c1,c2,c3] #[c0,c1,c2,c3] ac hB dT ⟨hra.one0,hra.one1,hra.one2,hra.one3,trivial⟩ fun eN dw dA ac hB=>?_
 replace ad:=dw.lc ad (Ne.symm ah)
 refine ⟨trivial,⟨zf9 (by kernel_rfl),fun _=>ad,trivial⟩,?_⟩
 refine te ?_
 refine es 62 0 (.agg #[c4,c5,c6,c7]) [c4,c5,c6,c7] #[c4,c5,c6,c7] ad hB dI ⟨hrb.one0,hrb.one1,hrb.one2,hrb.one3,trivial⟩ fun fE dc dr ad hB=>?_
 refine ⟨trivial,⟨zf9 (by kernel_rfl),zf9 (by kernel_rfl),trivial⟩,?_⟩
 refine zg4 ?_
 refine ez _ _ ?_
 refine wp_ret ?_
 replace ac:=dc.lc ac ah
 refine bodyPost_ret (v:=(.tuple #[.agg #[c0,c1,c2,c3],.agg #[c4,c5,c6,c7]])) (zx2 _ _ _ _ _ _ rfl rfl rfl ac (by kernel_rfl) ad (by kernel_rfl)) rfl ⟨?_,hB⟩
 have cJ:=bE.kp.trans (dA.trans dr)
 replace hra:=hra.kp cJ
 replace hrb:=hrb.kp cJ
 exact ⟨_,_,_,_,_,_,_,_,rfl,hra.mono (by omega),hrb.mono (by omega)⟩

theorem zX9 {D:Ofr} {r:Nat} (hr:r<D.q) {ds os rs:Value} {w:World} (ho:Off w D ds os rs) (hm:Mx w) {TT:Nat} {l:List Nat} {v:Value} (hv:D.vp l) (hl:Sl EI64 TT 1 w v (tb (fun z1=>((Ofr.at_ l z1:Nat):Int)) l.length)):
    Calls Tryz.prog 26 #[.agg #[ds,os,rs],v,iT (r:Int)] w fun e w'=>(∃ c0 c1 c2 c3 c4 c5 c6 c7,e=.returned (.tuple #[.agg #[c0,c1,c2,c3],.agg #[c4,c5,c6,c7]])∧IsRat w' 900 c0 c1 c2 c3 (D.wl l r)∧IsRat w' 900 c4 c5 c6 c7 (D.wu l r))∧Gr w w':=by
 have ok:=ho.ok
 have n1:=ok.n1
 have n2:=ok.n2
 have aL:=ok.q2
 have aT:=hv.1
 go_enter Tryz.func26,Tryz.ntmps26
 have hB:=Gr.refl w
 refine wp_seq_k (fun aY aC=>rg [0,1,2] ?_)
 refine se ?_
 refine eb 26 #[ds,os,rs] 3 hB fun aP aM aJ au aS aN hB=>?_
 simp only [p3,p4]
 refine se ?_
 refine ea 62 #[.bool false,sN,.bool false,sN] 6 hB fun aW aI aH aq aX aG hB=>?_
 simp only [p3,p4]
 refine se ?_
 refine ea 62 #[.bool false,sN,.bool false,sN] 7 hB fun aZ aK aB av aE aF hB=>?_
 replace au:=au.gr aH
 have ap:=aq.ne aE
 simp only [p3,p4]
 refine za0 (aC _ _ ?_)
 refine wp_seq_k (fun aR aD=>rg [0,1,2,3,4,5,6,7] ?_)
 replace au:=au.gr aB
 refine sw 8 (.agg #[ds,os,rs]) rfl (rl 26 0 [ds,os,rs] au) ?_
 refine sv 9 v ?_
 refine sv 10 (iT (r:Int)) ?_
 refine se ?_
 refine ec 11 (m_reach hr (ho.gr hB) (hm.gr hB) hv (hl.gr za2 hB)) ?_
 rintro aV aQ ⟨⟨ai,aj,ac,ak,ad,ah,ae,af,rfl,al,aa⟩,ax⟩
 refine ⟨_,rfl,?_⟩
 replace hB:=hB.trans ax
 simp only [p3,p4]
 refine sv 12 (.agg #[ai,aj,ac,ak]) ?_
 refine sv 13 (.agg #[ad,ah,ae,af]) ?_
 refine se ?_
 replace aq:=aq.gr (aB.trans ax)
 refine es 62 0 (.agg #[ai,aj,ac,ak]) [ai,aj,ac,ak] #[ai,aj,ac,ak] aq hB aG ⟨al.one0,al.one1,al.one2,al.one3,trivial⟩ fun aO ay az aq hB=>?_
 refine se ?_
 replace av:=ay.lc (av.gr ax) (Ne.symm ap)
 refine es 62 0 (.agg #[ad,ah,ae,af]) [ad,ah,ae,af] #[ad,ah,ae,af] av hB aF ⟨aa.one0,aa.one1,aa.one2,aa.one3,trivial⟩ fun aU aA aw av hB=>?_
 refine za0 (aD _ _ ?_)
 refine wp_ret ?_
 replace aq:=aA.lc aq ap
 refine bodyPost_ret (v:=(.tuple #[.agg #[ai,aj,ac,ak],.agg #[ad,ah,ae,af]])) (zx2 _ _ _ _ _ _ rfl rfl rfl aq (by kernel_rfl) av (by kernel_rfl)) rfl ⟨?_,hB⟩
 have ar:=az.trans aw
 replace al:=al.kp ar
 replace aa:=aa.kp ar
 exact ⟨_,_,_,_,_,_,_,_,rfl,al,aa⟩

end Go.Proofs.YtjhflekncldflaaGreatDoor
namespace Go.Proofs.YtjhflekncldflaaGreatDoor
set_option maxRecDepth 100000
set_option maxHeartbeats 4000000
open Go.RowKit

theorem zY0 {b:Bool} {q:Rat} (h:tO b q=[]):b=false:=by
 cases b with
 | false=>rfl
 | true=>
  have e:zc3 q=[]:=h
  have h2:=zj7 q (m:=400) (by rw [e];decide)
  rw [e,zL1] at h2;cases h2
theorem tO_ne {b:Bool} {q:Rat} (h:¬ tO b q=[]):b=true:=by
 cases b with
 | false=>exact absurd rfl h
 | true=>rfl
section
variable {D:Ofr} {l:List Nat} {r:Nat}
theorem ab_v (h:D.hh r=true):D.ab l r=decide ((0:Int)<zh4 (D.wu l r) (bz (D.hh r) (D.vh r))):=(ab_t h).symm
theorem be_v (h:D.hl r=true):D.be l r=decide (zh4 (D.wl l r) (bz (D.hl r) (D.vl r))<(0:Int)):=(be_t h).symm
theorem ab_0 (h:D.hh r=false):D.ab l r=false:=(ab_f h).symm
theorem be_0 (h:D.hl r=false):D.be l r=false:=(be_f h).symm
theorem bad_ff (h1:D.ab l r=false) (h2:D.be l r=false):true=!D.bad l r:=by unfold Ofr.bad;rw [h1,h2];rfl
theorem bad_be (h:D.be l r=true):false=!D.bad l r:=by unfold Ofr.bad;rw [h,Bool.or_true];rfl
theorem le_b (h:D.be l r=false) {b:Bool} (hb:D.ab l r=b):(!b)=!D.bad l r:=by unfold Ofr.bad;rw [h,Bool.or_false,hb]
theorem ge_b {a b:Rat}:decide ((0:Int)≤zh4 a b)=!decide (zh4 a b<(0:Int)):=by
 by_cases h:zh4 a b<0
 ·rw [decide_eq_true h,decide_eq_false (by omega)];rfl
 rw [decide_eq_false h,decide_eq_true (by omega)];rfl
theorem le_c {a b:Rat}:decide (zh4 a b≤(0:Int))=!decide ((0:Int)<zh4 a b):=by
 by_cases h:0<zh4 a b
 ·rw [decide_eq_true h,decide_eq_false (by omega)];rfl
 rw [decide_eq_false h,decide_eq_true (by omega)];rfl
end
theorem m_inside {D:Ofr} (ok:D.Ok) {l:List Nat} {r:Nat} (hr:r<D.q) {X:List UInt8} {u u0 u1 u2 u3 v0 v1 v2 v3:Value} (_hu:u.oneCell'=true) {w:World} (hm:Mx w) (ha:IsRat w 900 u0 u1 u2 u3 (D.wl l r)) (hb:IsRat w 900 v0 v1 v2 v3 (D.wu l r)):
    Calls Tryz.prog 32 #[.agg #[u0,u1,u2,u3],.agg #[v0,v1,v2,v3],.agg #[sV X,iT 0,sV (zc3 (D.cn r)),u,sV [],sN,sV (tO (D.hl r) (D.vl r)),sV (tO (D.hh r) (D.vh r))]] w fun e w'=>e=.returned (.bool (!D.bad l r))∧Gr w w':=by
 go_enter Tryz.func32,Tryz.ntmps32
 have hB:=Gr.refl w
 refine wp_seq_k (fun bI a1=>rg [0,1,2,3] ?_)
 refine se ?_
 refine eb 62 #[u0,u1,u2,u3] 3 hB fun bj bA aR ai bm bB hB=>?_
 simp only [p3,p4]
 refine se ?_
 refine eb 62 #[v0,v1,v2,v3] 4 hB fun bp a9 aP ae br bk hB=>?_
 simp only [p3,p4]
 refine se ?_
 refine eb 80 #[sV X,iT 0,sV (zc3 (D.cn r)),u,sV [],sN,sV (tO (D.hl r) (D.vl r)),sV (tO (D.hh r) (D.vh r))] 5 hB fun aN bv aM aa bf bi hB=>?_
 replace ai:=ai.gr aP
 simp only [p3,p4]
 refine sv 6 (.bool false) (za0 (a1 _ _ ?_))
 refine wp_seq_k (fun bl a6=>rg [0,1,2,3,4,5,6,7,8] (sv 12 (pT aN 6) ?_))
 refine sw 13 (sV (tO (D.hl r) (D.vl r))) rfl (rk 33 6 aa) ?_
 refine se ?_
 refine ec 14 (zy9 (D.hl r) (D.vl r) (ok.vl _ hr) _ (hm.gr hB)) ?_
 rintro bH bE ⟨⟨aE,aD,aF,aC,rfl,aG⟩,aH⟩
 refine ⟨_,rfl,?_⟩
 replace hB:=hB.trans aH
 simp only [p3,p4]
 refine sv 11 (.tuple #[.agg #[aE,aD,aF,aC],iT (eo (D.hl r))]) ?_
 refine sv 15 (.agg #[aE,aD,aF,aC]) ?_
 refine sv 16 (iT (eo (D.hl r))) ?_
 refine se ?_
 refine ea 62 #[.bool false,sN,.bool false,sN] 7 hB fun bb bC aI aB aW a2 hB=>?_
 replace ai:=ai.gr (aM.trans aH)
 have ar:=ai.ne aW
 replace ae:=ae.gr (aM.trans aH)
 have av:=ae.ne aW
 replace aa:=aa.gr aH
 have ap:=aa.ne aW
 simp only [p3,p4]
 refine se ?_
 refine es 62 0 (.agg #[aE,aD,aF,aC]) [aE,aD,aF,aC] #[aE,aD,aF,aC] aB hB a2 ⟨aG.one0,aG.one1,aG.one2,aG.one3,trivial⟩ fun bo aJ al aB hB=>?_
 refine sv 8 (iT (eo (D.hl r))) (za0 (a6 _ _ ?_))
 refine wp_seq_k (fun bF a7=>rg [0,1,2,3,4,5,6,7,8] (sv 18 (pT aN 7) ?_))
 replace aa:=aJ.lc (aa.gr aI) ap
 refine sw 19 (sV (tO (D.hh r) (D.vh r))) rfl (rk 33 7 aa) ?_
 refine se ?_
 refine ec 20 (zy9 (D.hh r) (D.vh r) (ok.vh _ hr) _ (hm.gr hB)) ?_
 rintro bG bh ⟨⟨ay,az,au,aq,rfl,aj⟩,ak⟩
 refine ⟨_,rfl,?_⟩
 replace hB:=hB.trans ak
 simp only [p3,p4]
 refine sv 17 (.tuple #[.agg #[ay,az,au,aq],iT (eo (D.hh r))]) ?_
 refine sv 21 (.agg #[ay,az,au,aq]) ?_
 refine sv 22 (iT (eo (D.hh r))) ?_
 refine se ?_
 refine ea 62 #[.bool false,sN,.bool false,sN] 9 hB fun bD bt af aK aQ a3 hB=>?_
 replace ai:=(aJ.lc (ai.gr aI) ar).gr ak
 have aA:=ai.ne aQ
 replace ae:=(aJ.lc (ae.gr aI) av).gr ak
 have ac:=ae.ne aQ
 replace aa:=aa.gr ak
 have aw:=aa.ne aQ
 replace aB:=aB.gr ak
 have ax:=aB.ne aQ
 simp only [p3,p4]
 refine se ?_
 refine es 62 0 (.agg #[ay,az,au,aq]) [ay,az,au,aq] #[ay,az,au,aq] aK hB a3 ⟨aj.one0,aj.one1,aj.one2,aj.one3,trivial⟩ fun bu ah ad aK hB=>?_
 refine sv 10 (iT (eo (D.hh r))) (za0 (a7 _ _ ?_))
 refine wp_seq_k (fun bg aO=>rg [0,1,2,3,4,5,6,7,8,9,10,11,12,13,14,15,16,17,18,19,20] (sv 23 (pT aN 6) ?_))
 replace aa:=ah.lc (aa.gr af) aw
 refine sw 24 (sV (tO (D.hl r) (D.vl r))) rfl (rk 33 6 aa) ?_
 refine sw 25 (.bool ((tO (D.hl r) (D.vl r))==([]:List UInt8))) rfl (zf4 33 33 _ _ (tO (D.hl r) (D.vl r)) ([]) rfl rfl rfl) ?_
 rcases Bool.eq_false_or_eq_true ((tO (D.hl r) (D.vl r))==([]:List UInt8)) with hb23 | hb23
 ·have pl:D.be l r=false:=be_0 (zY0 (beq_iff_eq.1 hb23))
  refine swk 26 (.bool true) [(4,27),(5,28),(6,29),(7,30)] rfl (RunV.bool (x:=((tO (D.hl r) (D.vl r))==([]:List UInt8))) (rvk (by kernel_rfl)) hb23) ?_
  refine sv 31 (.bool true) ?_
  refine sv 32 (.bool true) ?_
  refine sv 33 (pT aN 7) ?_
  refine sw 34 (sV (tO (D.hh r) (D.vh r))) rfl (rk 33 7 aa) ?_
  refine sw 35 (.bool ((tO (D.hh r) (D.vh r))==([]:List UInt8))) rfl (zf4 33 33 _ _ (tO (D.hh r) (D.vh r)) ([]) rfl rfl rfl) ?_
  rcases Bool.eq_false_or_eq_true ((tO (D.hh r) (D.vh r))==([]:List UInt8)) with hb24 | hb24
  ·have ph:D.ab l r=false:=ab_0 (zY0 (beq_iff_eq.1 hb24))
   refine swk 36 (.bool true) [(14,37),(15,38),(16,39),(17,40)] rfl (RunV.bool (x:=((tO (D.hh r) (D.vh r))==([]:List UInt8))) (rvk (by kernel_rfl)) hb24) ?_
   refine sv 41 (.bool true) ?_
   refine sv 42 (.bool true) ?_
   refine sv 6 (.bool true) (za0 (aO _ _ ?_))
   refine wp_ret ?_
   refine bodyPost_ret (v:=(.bool true)) (za3 rfl rfl) rfl ⟨?_,hB⟩
   exact congrArg (fun b=>Ending.returned (.bool b)) (bad_ff ph pl)
  have aV:D.hh r=true:=tO_ne (beq_eq_false_iff_ne.1 hb24)
  refine sw 36 (.bool false) rfl (RunV.bool (x:=((tO (D.hh r) (D.vh r))==([]:List UInt8))) (rvk (by kernel_rfl)) hb24) ?_
  replace ae:=ah.lc (ae.gr af) ac
  refine sw 37 (.agg #[v0,v1,v2,v3]) rfl (rl 62 0 [v0,v1,v2,v3] ae) ?_
  refine sw 38 (.agg #[ay,az,au,aq]) rfl (rl 62 0 [ay,az,au,aq] aK) ?_
  refine se ?_
  have aU:=aR.kp.trans (aP.kp.trans (aM.kp.trans (aH.kp.trans (aI.kp.trans (al.trans (ak.kp.trans (af.kp.trans ad)))))))
  replace hb:=hb.kp aU
  have aZ:=af.kp.trans ad
  replace aj:=aj.kp aZ
  refine ec 39 (zh6 hb aj (by omega)) ?_
  rintro a8 bw ⟨rfl,a5⟩
  refine ⟨_,rfl,?_⟩
  replace hB:=hB.trans a5
  simp only [p3,p4]
  refine sv 40 (.bool (decide (zh4 (D.wu l r) (bz (D.hh r) (D.vh r))≤(0:Int)))) ?_
  refine sv 41 (.bool (decide (zh4 (D.wu l r) (bz (D.hh r) (D.vh r))≤(0:Int)))) ?_
  refine sv 42 (.bool (decide (zh4 (D.wu l r) (bz (D.hh r) (D.vh r))≤(0:Int)))) ?_
  refine sv 6 (.bool (decide (zh4 (D.wu l r) (bz (D.hh r) (D.vh r))≤(0:Int)))) (za0 (aO _ _ ?_))
  refine wp_ret ?_
  refine bodyPost_ret (v:=(.bool (decide (zh4 (D.wu l r) (bz (D.hh r) (D.vh r))≤(0:Int))))) (za3 rfl rfl) rfl ⟨?_,hB⟩
  exact congrArg (fun b=>Ending.returned (.bool b)) (by rw [le_c,← ab_v aV];exact le_b pl rfl)
 have a0:D.hl r=true:=tO_ne (beq_eq_false_iff_ne.1 hb23)
 refine sw 26 (.bool false) rfl (RunV.bool (x:=((tO (D.hl r) (D.vl r))==([]:List UInt8))) (rvk (by kernel_rfl)) hb23) ?_
 replace ai:=ah.lc (ai.gr af) aA
 refine sw 27 (.agg #[u0,u1,u2,u3]) rfl (rl 62 0 [u0,u1,u2,u3] ai) ?_
 replace aB:=ah.lc (aB.gr af) ax
 refine sw 28 (.agg #[aE,aD,aF,aC]) rfl (rl 62 0 [aE,aD,aF,aC] aB) ?_
 refine se ?_
 have aS:=aR.kp.trans (aP.kp.trans (aM.kp.trans (aH.kp.trans (aI.kp.trans (al.trans (ak.kp.trans (af.kp.trans ad)))))))
 replace ha:=ha.kp aS
 have aY:=aI.kp.trans (al.trans (ak.kp.trans (af.kp.trans ad)))
 replace aG:=aG.kp aY
 refine ec 29 (zh6 ha aG (by omega)) ?_
 rintro bq bs ⟨rfl,aL⟩
 refine ⟨_,rfl,?_⟩
 replace hB:=hB.trans aL
 simp only [p3,p4]
 refine sv 30 (.bool (decide ((0:Int)≤zh4 (D.wl l r) (bz (D.hl r) (D.vl r))))) ?_
 refine sv 31 (.bool (decide ((0:Int)≤zh4 (D.wl l r) (bz (D.hl r) (D.vl r))))) ?_
 rcases Bool.eq_false_or_eq_true (decide ((0:Int)≤zh4 (D.wl l r) (bz (D.hl r) (D.vl r)))) with hb31 | hb31
 ·have pl:D.be l r=false:=by have h9:=hb31;rw [ge_b,← be_v a0] at h9;simpa using h9
  refine sw 32 (.bool true) rfl (RunV.bool (x:=decide ((0:Int)≤zh4 (D.wl l r) (bz (D.hl r) (D.vl r)))) (rvk (by kernel_rfl)) hb31) ?_
  refine sv 33 (pT aN 7) ?_
  replace aa:=aa.gr aL
  refine sw 34 (sV (tO (D.hh r) (D.vh r))) rfl (rk 33 7 aa) ?_
  refine sw 35 (.bool ((tO (D.hh r) (D.vh r))==([]:List UInt8))) rfl (zf4 33 33 _ _ (tO (D.hh r) (D.vh r)) ([]) rfl rfl rfl) ?_
  rcases Bool.eq_false_or_eq_true ((tO (D.hh r) (D.vh r))==([]:List UInt8)) with hb32 | hb32
  ·have ph:D.ab l r=false:=ab_0 (zY0 (beq_iff_eq.1 hb32))
   refine swk 36 (.bool true) [(14,37),(15,38),(16,39),(17,40)] rfl (RunV.bool (x:=((tO (D.hh r) (D.vh r))==([]:List UInt8))) (rvk (by kernel_rfl)) hb32) ?_
   refine sv 41 (.bool true) ?_
   refine sv 42 (.bool true) ?_
   refine sv 6 (.bool true) (za0 (aO _ _ ?_))
   refine wp_ret ?_
   refine bodyPost_ret (v:=(.bool true)) (za3 rfl rfl) rfl ⟨?_,hB⟩
   exact congrArg (fun b=>Ending.returned (.bool b)) (bad_ff ph pl)
  have aV:D.hh r=true:=tO_ne (beq_eq_false_iff_ne.1 hb32)
  refine sw 36 (.bool false) rfl (RunV.bool (x:=((tO (D.hh r) (D.vh r))==([]:List UInt8))) (rvk (by kernel_rfl)) hb32) ?_
  replace ae:=(ah.lc (ae.gr af) ac).gr aL
  refine sw 37 (.agg #[v0,v1,v2,v3]) rfl (rl 62 0 [v0,v1,v2,v3] ae) ?_
  replace aK:=aK.gr aL
  refine sw 38 (.agg #[ay,az,au,aq]) rfl (rl 62 0 [ay,az,au,aq] aK) ?_
  refine se ?_
  have aT:=aR.kp.trans (aP.kp.trans (aM.kp.trans (aH.kp.trans (aI.kp.trans (al.trans (ak.kp.trans (af.kp.trans (ad.trans aL.kp))))))))
  replace hb:=hb.kp aT
  have aX:=af.kp.trans (ad.trans aL.kp)
  replace aj:=aj.kp aX
  refine ec 39 (zh6 hb aj (by omega)) ?_
  rintro ba bn ⟨rfl,a4⟩
  refine ⟨_,rfl,?_⟩
  replace hB:=hB.trans a4
  simp only [p3,p4]
  refine sv 40 (.bool (decide (zh4 (D.wu l r) (bz (D.hh r) (D.vh r))≤(0:Int)))) ?_
  refine sv 41 (.bool (decide (zh4 (D.wu l r) (bz (D.hh r) (D.vh r))≤(0:Int)))) ?_
  refine sv 42 (.bool (decide (zh4 (D.wu l r) (bz (D.hh r) (D.vh r))≤(0:Int)))) ?_
  refine sv 6 (.bool (decide (zh4 (D.wu l r) (bz (D.hh r) (D.vh r))≤(0:Int)))) (za0 (aO _ _ ?_))
  refine wp_ret ?_
  refine bodyPost_ret (v:=(.bool (decide (zh4 (D.wu l r) (bz (D.hh r) (D.vh r))≤(0:Int))))) (za3 rfl rfl) rfl ⟨?_,hB⟩
  exact congrArg (fun b=>Ending.returned (.bool b)) (by rw [le_c,← ab_v aV];exact le_b pl rfl)
 have pl:D.be l r=true:=by have h9:=hb31;rw [ge_b,← be_v a0] at h9;simpa using h9
 refine swk 32 (.bool false) [(10,33),(11,34),(12,35),(13,36),(14,37),(15,38),(16,39),(17,40),(18,41)] rfl (RunV.bool (x:=decide ((0:Int)≤zh4 (D.wl l r) (bz (D.hl r) (D.vl r)))) (rvk (by kernel_rfl)) hb31) ?_
 refine sv 42 (.bool false) ?_
 refine sv 6 (.bool false) (za0 (aO _ _ ?_))
 refine wp_ret ?_
 refine bodyPost_ret (v:=(.bool false)) (za3 rfl rfl) rfl ⟨?_,hB⟩
 exact congrArg (fun b=>Ending.returned (.bool b)) (bad_be pl)

def fzA (D:Ofr) (l:List Nat):Int:=if 0>(fz D l).1 then 0 else (fz D l).1
section
variable {D:Ofr} {l:List Nat} {k:Nat}
theorem fz_bad (hk:k<D.q) (hf:∀ j,j<k→D.bad l j=false) (h:D.bad l k=true):fz D l=((k:Int),D.side l k):=by
 unfold fz;rw [ff_eq hk h hf]
theorem fzA_bad (hk:k<D.q) (hf:∀ j,j<k→D.bad l j=false) (h:D.bad l k=true):fzA D l=(k:Int):=by
 unfold fzA;rw [fz_bad hk hf h];exact if_neg (by show ¬ (0:Int)>(k:Int);omega)
theorem fz2_bad (hk:k<D.q) (hf:∀ j,j<k→D.bad l j=false) (h:D.bad l k=true):((fz D l).2==(0:Int))=false:=by
 rw [fz_bad hk hf h,beq_eq_false_iff_ne]
 show D.side l k≠0
 unfold Ofr.side;split<;>decide
theorem fzA_no (hf:∀ j,j<D.q→D.bad l j=false):(fzA D l,(fz D l).2)=(0,0):=by unfold fzA;rw [fz_no hf];rfl
theorem tup_m {a b:Int} (h:(a,b)=((0:Int),(0:Int))):(Value.tuple #[iT 0,.bool true])=.tuple #[iT a,.bool (b==0)]:=by
 obtain ⟨rfl,rfl⟩:=Prod.mk.inj h;rfl
end
theorem m_meets {D:Ofr} {ds os rs:Value} {w:World} (ho:Off w D ds os rs) (hm:Mx w) {TT:Nat} {l:List Nat} {v:Value} (hv:D.vp l) (hl:Sl EI64 TT 1 w v (tb (fun z1=>((Ofr.at_ l z1:Nat):Int)) l.length)):
    Calls Tryz.prog 24 #[.agg #[ds,os,rs],v] w fun e w'=>e=.returned (.tuple #[iT (fzA D l),.bool ((fz D l).2==(0:Int))])∧Gr w w':=by
 have ok:=ho.ok
 have n1:=ok.n1
 have n2:=ok.n2
 have bj:=ok.q2
 have bA:=hv.1
 go_enter Tryz.func24,Tryz.ntmps24
 have hB:=Gr.refl w
 refine wp_seq_k (fun bD aY=>rg [0,1,2] ?_)
 refine se ?_
 refine eb 26 #[ds,os,rs] 2 hB fun aE bk bo ap bb bu hB=>?_
 simp only [p3,p4]
 refine sv 4 (iT 0) ?_
 refine sv 5 (.bool false) (za0 (aY _ _ ?_))
 refine wp_seq_k (fun bg aX=>wp_seq_k (fun a7 aR=>rg [0] (sv 6 (iT 0) ?_)))
 refine za0 (aR _ _ ?_)
 refine wp_block ?_
 refine zb2 (a:=⟨List.toArray ?l14,[]⟩) (fun n a w'=>∃ (k:Nat) (aa:Nat→Value),D.q - k=n∧a=⟨[.agg #[ds,os,rs],v,pT aE 0,undef,aa 4,aa 5,iT (k:Int),aa 7,aa 8,aa 9,aa 10,aa 11,aa 12,aa 13,aa 14,aa 15,aa 16,aa 17,aa 18,aa 19,aa 20,aa 21,aa 22,aa 23,aa 24,aa 25,aa 26,aa 27,aa 28,aa 29,aa 30,aa 31,aa 32].toArray,[]⟩∧k≤D.q∧(∀ j,j<k→D.bad l j=false)∧Lc w' aE #[ds,os,rs] 26∧Gr w w') (D.q - 0) ?_ ?_
 ·exact ⟨0,(fun i=>List.getD ?l14 i undef),rfl,rfl,Nat.zero_le _,(fun j hj=>absurd hj (Nat.not_lt_zero j)),ap,hB⟩
 rintro bs bv bq ⟨k,aa,rfl,rfl,hkk,hf,ap,hB⟩ ba a5
 refine wp_seq_k (fun bt aU=>wp_seq_k (fun a9 a3=>rg [0,1,2,3,4] (sv 9 (iT (k:Int)) ?_)))
 refine sv 10 (pT aE 2) ?_
 refine sw 11 rs rfl (rk 24 2 ap) ?_
 refine sw 12 (iT ((D.q:Nat):Int)) rfl (za9 (e:=80) ho.rq (za8 rfl) _ _ rfl rfl (by kernel_rfl)) ?_
 refine sv 13 (.bool (decide ((k:Int)<((D.q:Nat):Int)))) (za0 (a3 _ _ ?_))
 refine wp_cond_split rfl (fun az=>?_) (fun az=>?_)
 ·have hlk:k<D.q:=by have:=of_decide_eq_true az;omega
  refine wp_skip ?_
  refine aU _ _ ?_
  refine wp_seq_k (fun bw aW=>?_)
  refine wp_block ?_
  refine wp_seq_k (fun bn aT=>rg [0,1,2,3,4,5,6,7,8,9,10] ?_)
  refine sw 17 (.agg #[ds,os,rs]) rfl (rl 26 0 [ds,os,rs] ap) ?_
  refine sv 18 v ?_
  refine sv 19 (iT (k:Int)) ?_
  refine se ?_
  refine ec 20 (zX9 hlk (ho.gr hB) (hm.gr hB) hv (hl.gr za2 hB)) ?_
  rintro bB bh ⟨⟨ai,ae,aj,ac,ad,ah,ak,af,rfl,aq,al⟩,aN⟩
  refine ⟨_,rfl,?_⟩
  replace hB:=hB.trans aN
  simp only [p3,p4]
  refine sv 16 (.tuple #[.agg #[ai,ae,aj,ac],.agg #[ad,ah,ak,af]]) ?_
  refine sv 21 (.agg #[ai,ae,aj,ac]) ?_
  refine sv 22 (.agg #[ad,ah,ak,af]) ?_
  refine se ?_
  refine ea 62 #[.bool false,sN,.bool false,sN] 7 hB fun a0 bi aO au aZ aS hB=>?_
  replace ap:=ap.gr aN
  have ay:=ap.ne aZ
  simp only [p3,p4]
  refine se ?_
  refine ea 62 #[.bool false,sN,.bool false,sN] 8 hB fun aQ bl aM aw aP a1 hB=>?_
  replace ap:=ap.gr aO
  have ax:=ap.ne aP
  have ar:=au.ne aP
  simp only [p3,p4]
  refine se ?_
  replace au:=au.gr aM
  refine es 62 0 (.agg #[ai,ae,aj,ac]) [ai,ae,aj,ac] #[ai,ae,aj,ac] au hB aS ⟨aq.one0,aq.one1,aq.one2,aq.one3,trivial⟩ fun bp aC aL au hB=>?_
  refine se ?_
  replace aw:=aC.lc aw (Ne.symm ar)
  refine es 62 0 (.agg #[ad,ah,ak,af]) [ad,ah,ak,af] #[ad,ah,ak,af] aw hB a1 ⟨al.one0,al.one1,al.one2,al.one3,trivial⟩ fun a4 aF aK aw hB=>?_
  refine za0 (aT _ _ ?_)
  refine wp_seq_k (fun bf a2=>?_)
  obtain ⟨_,_,⟨aH,aI,rfl,aJ⟩,aB⟩:=Sl.get ho.rq (by decide) (zb5 (f:=(fun z1=>(D.rq z1))) (n:=D.q) (i:=k) (by omega))
  have av:=Gr.drew a4
  replace hB:=hB.trans av
  replace ap:=(aF.lc (aC.lc (ap.gr aM) ay) ax).gr av
  replace au:=(aF.lc au ar).gr av
  replace aw:=aw.gr av
  refine za5 (fun w'=>Lc w' aE #[ds,os,rs] 26∧Lc w' a0 #[ai,ae,aj,ac] 62∧Lc w' aQ #[ad,ah,ak,af] 62∧AtV w' rs (k*8) [sV aH,iT 0,sV (zc3 (D.cn k)),aI,sV [],sN,sV (tO (D.hl k) (D.vl k)),sV (tO (D.hh k) (D.vh k))]) [(true,0),(true,1),(true,2),(true,3),(true,4),(true,5),(true,6),(false,7),(true,8)] (by kernel_rfl) (by kernel_rfl) (by kernel_rfl) (by decide) (fun _ _ _ _ _ h=>h) ⟨ap,au,aw,aB.gr hB⟩ ?_
  refine ow 23 (.agg #[ai,ae,aj,ac]) rfl (fun w' hS=>(rl 62 0 [ai,ae,aj,ac] hS.2.1)) ?_
  refine ow 24 (.agg #[ad,ah,ak,af]) rfl (fun w' hS=>(rl 62 0 [ad,ah,ak,af] hS.2.2.1)) ?_
  refine ov 25 (pT aE 2) ?_
  refine ow 26 rs rfl (fun w' hS=>(rk 24 2 hS.1)) ?_
  refine ov 27 (iT (k:Int)) ?_
  refine ow 28 (adr rs (k*8)) rfl (fun w' hS=>(zb1 (e:=80) ho.rq za7 (by decide) k (by omega) _ _ _ rfl rfl rfl (by kernel_rfl) (by kernel_rfl))) ?_
  refine ow 29 (.agg #[sV aH,iT 0,sV (zc3 (D.cn k)),aI,sV [],sN,sV (tO (D.hl k) (D.vl k)),sV (tO (D.hh k) (D.vh k))]) rfl (fun w' hS=>(ze7 [sV aH,iT 0,sV (zc3 (D.cn k)),aI,sV [],sN,sV (tO (D.hl k) (D.vl k)),sV (tO (D.hh k) (D.vh k))] hS.2.2.2 _ _ rfl rfl (by kernel_rfl))) ?_
  refine oe ?_
  have aD:=aO.kp.trans (aM.kp.trans (aL.trans (aK.trans av.kp)))
  replace aq:=aq.kp aD
  replace al:=al.kp aD
  refine ec 30 (m_inside (l:=l) (X:=aH) ok hlk aJ.one (hm.gr hB) aq al) ?_
  rintro a8 br ⟨rfl,aG⟩
  refine ⟨_,rfl,?_⟩
  replace hB:=hB.trans aG
  replace ap:=ap.gr aG
  replace au:=au.gr aG
  replace aw:=aw.gr aG
  refine ⟨⟨ap,au,aw,aB.gr hB⟩,?_⟩
  simp only [p3,p4]
  refine ov 31 (.bool (!(!(D.bad l k)))) ?_
  refine zb4 ?_
  refine a2 _ _ ?_
  refine wp_cond_split rfl (fun aA=>?_) (fun aA=>?_)
  ·have pb:D.bad l k=true:=by simpa using aA
   refine wp_seq_k (fun bC a6=>rg [0,1,2] (sv 32 (iT (k:Int)) ?_))
   refine sv 4 (iT (k:Int)) ?_
   refine sv 5 (.bool false) (za0 (a6 _ _ ?_))
   refine wp_ret ?_
   simp only [Exit.then,Exit.inBlock]
   refine bodyPost_ret (v:=(.tuple #[iT (k:Int),.bool false])) (zf2 rfl rfl rfl) rfl ⟨?_,hB⟩
   exact (by rw [fzA_bad hlk hf pb,fz2_bad hlk hf pb])
  have pb:D.bad l k=false:=by simpa using aA
  refine wp_skip ?_
  refine aW _ _ ?_
  refine rg [0,1,2] (sv 14 (iT (k:Int)) ?_)
  refine sw 15 (iT ((k:Int)+1)) rfl (rwI ((k:Int)+1)) ?_
  refine sv 6 (iT ((k:Int)+1)) ?_
  refine za0 ?_
  refine a5 (D.q - (k+1)) ⟨List.toArray ?l37,[]⟩ _ (by omega) ?_
  exact ⟨k+1,(fun i=>List.getD ?l37 i undef),rfl,rfl,(by omega),zC8 hf pb,ap,hB⟩
 have hek:D.q=k:=by have:=of_decide_eq_false az;omega
 subst hek
 refine wp_exit ?_
 simp only [Exit.then,Exit.inBlock,↓reduceIte]
 refine aX _ _ ?_
 refine wp_seq_k (fun bm aV=>rg [0,1] (sv 4 (iT 0) ?_))
 refine sv 5 (.bool true) (za0 (aV _ _ ?_))
 refine wp_ret ?_
 refine bodyPost_ret (v:=(.tuple #[iT 0,.bool true])) (zf2 rfl rfl rfl) rfl ⟨?_,hB⟩
 exact congrArg Ending.returned (tup_m (fzA_no hf))

end Go.Proofs.YtjhflekncldflaaGreatDoor
