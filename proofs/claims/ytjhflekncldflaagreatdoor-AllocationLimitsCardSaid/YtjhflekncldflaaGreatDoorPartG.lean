/- Joined of: Gen214, Opk, Vo, Vp, Gen227, Ds, Gen228, Lmt. -/
import Derived.Test.YtjhflekncldflaaGreatDoorPartE
import Derived.Test.YtjhflekncldflaaGreatDoorPartF
import Derived.Test.YtjhflekncldflaaGreatDoorPartD
import Derived.Laws.BytesString
namespace Go.Proofs.YtjhflekncldflaaGreatDoor
set_option maxRecDepth 100000
set_option maxHeartbeats 8000000
open Go.RowKit

theorem al_open {D:Ofr} {ds os rs:Value} (ok:D.Ok) {w:World} (hm:Mx w) (hck:∀ w1,Gr w w1→Calls Tryz.prog 14 #[.agg #[ds,os,rs]] w1 fun e w'=>e=.returned (iT 0)∧Gr w1 w') (hds:Sl EDm 71 4 w ds (tb (fun z1=>(D.nom z1)) D.n)) (hos:Sl (ERw EOp 68 3) 72 1 w os (tb (fun z0=>tb (fun z1=>(D.op z0 z1)) (D.ol z0)) D.n)) (hrs:Sl ERq 80 8 w rs (tb (fun z1=>(D.rq z1)) D.q)):
    Calls Tryz.prog 46 #[.agg #[ds,os,rs]] w fun e w'=>(∃ dk sp cs ch,e=.returned (.tuple #[pT dk 0,iT 0])∧Lc w' dk #[ds,os,rs,sp,cs,ch] 158∧w.heap.size≤dk∧Dsk w' D ds os rs sp cs ch)∧Gr w w':=by
 have n1:=ok.n1
 have n2:=ok.n2
 have jB:=ok.q2
 go_enter Tryz.func46,Tryz.ntmps46
 have hB:=Gr.refl w
 refine wp_seq_k (fun ja id=>rg [0,1,2] ?_)
 refine se ?_
 refine eb 26 #[ds,os,rs] 1 hB fun ba ji jy ai iU iz hB=>?_
 simp only [p3,p4]
 refine sv 2 (.pointer none) ?_
 refine sv 3 (iT 0) (za0 (id _ _ ?_))
 refine wp_seq_k (fun i7 gT=>wp_seq_k (fun iM gM=>rg [0,1,2] ?_))
 refine sw 23 (.agg #[ds,os,rs]) rfl (rl 26 0 [ds,os,rs] ai) ?_
 refine se ?_
 refine ec 24 (hck _ hB) ?_
 rintro iK i8 ⟨rfl,gf⟩
 refine ⟨_,rfl,?_⟩
 replace hB:=hB.trans gf
 simp only [p3,p4]
 refine sv 4 (iT 0) (za0 (gM _ _ ?_))
 refine wp_seq_k (fun i5 gJ=>rg [0,1] (sv 25 (iT 0) ?_))
 refine sv 26 (.bool false) (za0 (gJ _ _ ?_))
 refine wp_cond_false rfl ?_
 refine wp_skip ?_
 refine gT _ _ ?_
 refine wp_seq_k (fun iI gn=>rg [0,1,2,3] ?_)
 replace ai:=ai.gr gf
 refine sw 28 (.agg #[ds,os,rs]) rfl (rl 26 0 [ds,os,rs] ai) ?_
 refine sv 29 (.agg #[ds,os,rs,sN,sN,sN]) ?_
 refine se ?_
 refine eb 158 #[ds,os,rs,sN,sN,sN] 30 hB fun aq jn gI ah hA dx hB=>?_
 have ar:=ai.ne hA
 simp only [p3,p4]
 refine sv 5 (pT aq 0) (za0 (gn _ _ ?_))
 refine wp_seq_k (fun jr gG=>wp_seq_k (fun je g4=>rg [0,1,2,3] (sv 31 (pT ba 1) ?_)))
 replace ai:=ai.gr gI
 refine sw 32 os rfl (rk 23 1 ai) ?_
 refine sw 33 (iT ((D.n:Nat):Int)) rfl (zb0 (e:=72) hos (za9 rfl) _ _ rfl rfl (by kernel_rfl)) ?_
 refine sv 34 (iT 0) (za0 (g4 _ _ ?_))
 refine wp_block ?_
 refine zb1 (a:=⟨List.toArray ?l20,[]⟩) (fun n a w'=>∃ (k:Nat) (vc:Value) (aB:Nat→Value),D.n - k=n∧a=⟨[.agg #[ds,os,rs],pT ba 0,.pointer none,iT 0,iT 0,pT aq 0,undef,aB 7,undef,undef,undef,undef,undef,undef,undef,undef,undef,undef,undef,undef,undef,undef,undef,aB 23,aB 24,aB 25,.bool false,undef,aB 28,aB 29,aB 30,aB 31,os,iT ((D.n:Nat):Int),iT (k:Int),aB 35,aB 36,aB 37,aB 38,aB 39,aB 40,aB 41,aB 42,aB 43,aB 44,aB 45,aB 46,aB 47,aB 48,aB 49,aB 50,undef,undef,undef,undef,undef,undef,undef,undef,undef,undef,undef,undef,undef,undef,undef,undef,undef,undef,undef,undef,undef,undef,undef,undef,undef,undef,undef,undef,undef,undef,undef,undef,undef,undef,undef,undef,undef,undef,undef,undef,undef,undef,undef,undef,undef,undef,undef,undef,undef,undef,undef,undef,undef,undef,undef,undef,undef,undef,undef,undef,undef,undef,undef,undef,undef,undef,undef,undef,undef,undef,undef,undef,undef,undef,undef,undef,undef,undef,undef,undef,undef,undef,undef,undef,undef,undef,undef,undef,undef,undef,undef,undef,undef,undef,undef,undef,undef,undef,undef,undef,undef,undef,undef,undef,undef,undef,undef,undef,undef,undef,undef,undef,undef,undef,undef,undef,undef,undef,undef,undef,undef].toArray,[]⟩∧k≤D.n∧Ow EI64 3 1 w' w.heap.size vc (tb (fun z1=>(D.ch z1)) k)∧Lc w' ba #[ds,os,rs] 26∧Lc w' aq #[ds,os,rs,sN,sN,vc] 158∧Gr w w') (D.n - 0) ?_ ?_
 ·exact ⟨0,sN,(fun i=>List.getD ?l20 i undef),rfl,rfl,Nat.zero_le _,Ow.nil _ _ _ _ _,ai,ah,hB⟩
 rintro iw jk gL ⟨k,vc,aB,rfl,rfl,hkk,oc,ai,ah,hB⟩ jA hy
 refine wp_seq_k (fun iH hY=>rg [0] (sv 35 (.bool (decide ((k:Int)<((D.n:Nat):Int)))) ?_))
 refine za0 (hY _ _ ?_)
 refine wp_seq_k (fun ix ih=>?_)
 refine wp_cond_split rfl (fun d6=>?_) (fun d6=>?_)
 ·have hlk:k<D.n:=by have:=of_decide_eq_true d6;omega
  refine wp_skip ?_
  refine ih _ _ ?_
  refine wp_seq_k (fun jp hQ=>?_)
  refine wp_block ?_
  refine wp_seq_k (fun i2 ha=>rg [0,1,2] ?_)
  refine sw 36 (adr os (k*1)) rfl (zc0 (e:=72) hos za8 (by decide) k (by omega) _ _ _ rfl rfl rfl (by kernel_rfl) (by kernel_rfl)) ?_
  obtain ⟨_,_,⟨e2,rfl,fR⟩,fi⟩:=Sl.get hos (by decide) (zc3 (f:=(fun z0=>tb (fun z1=>(D.op z0 z1)) (D.ol z0))) (n:=D.n) (i:=k) (by omega))
  refine sw 37 e2 rfl (ze6 e2 (fi.gr hB) _ _ rfl rfl (by kernel_rfl)) ?_
  refine sv 7 e2 (za0 (ha _ _ ?_))
  have c9:=Gr.drew gL
  replace hB:=hB.trans c9
  replace ah:=ah.gr c9
  refine zd7 (fun _=>True) [([12],(fun w'=>Lc w' aq #[ds,os,rs,sN,sN,vc] 158))] [(true,0),(true,1),(true,2),(true,3),(true,4),(true,5),(false,6),(true,7),(false,8),(false,9),(true,10),(true,11),(false,12)] (by kernel_rfl) (by kernel_rfl) (by kernel_rfl) (by decide) (fun _ _ _ _ _ h=>h) trivial ⟨fun _=>ah,trivial⟩ ?_
  refine tv 38 (pT aq 0) ?_
  refine tv 39 (pT aq 0) ?_
  refine tv 40 (pT aq 0) ?_
  refine tv 41 (pT aq 5) ?_
  refine tw 42 vc rfl (fun w' hS=>(rk 40 5 (hS.2.1 (by kernel_rfl)))) ?_
  refine tv 43 e2 ?_
  refine te ?_
  refine ec 44 (min_opt ok hlk (fR.gr za6 hB)) ?_
  rintro jd iD ⟨⟨gA,g2,rfl⟩,fh⟩
  refine ⟨_,rfl,?_⟩
  replace hB:=hB.trans fh
  replace ah:=ah.gr fh
  refine ⟨trivial,⟨fun _=>ah,trivial⟩,?_⟩
  simp only [p3,p4]
  refine tv 45 (iT (D.ch k)) ?_
  refine te ?_
  refine zc5 3 1 #[iT (D.ch k)] (some 46) rfl (fun _=>by kernel_rfl) (fun ik jh e5 gy js=>?_)
  replace ai:=ai.gr (c9.trans fh)
  replace hB:=hB.trans e5
  replace ah:=ah.gr e5
  refine ⟨trivial,⟨fun _=>ah,trivial⟩,?_⟩
  simp only [zd1,p3,p4]
  refine te ?_
  replace oc:=oc.gr za2 (c9.trans (fh.trans e5))
  refine zg8 za2 _ _ 40 3 w.heap.size (iT 0) vc (tb (fun z1=>(D.ch z1)) k) ik [iT (D.ch k)] ((D.ch k):Int) 1 1 (some 47) 8 rfl rfl rfl rfl oc gy ⟨rfl,trivial⟩ rfl rfl (Below.size hB) (by rw [za8];omega) (by decide) (by kernel_rfl) (by kernel_rfl) (by decide) (by decide) (fun e6 ju bG em fU=>?_)
  replace hB:=fU _ hB (Nat.le_refl _)
  replace bG:=bG.cast (zf4 (f:=(fun z1=>(D.ch z1))) (n:=k) (by first | rfl | exact zf8))
  replace ah:=em.lc ah (by decide)
  refine ⟨trivial,⟨fun _=>ah,trivial⟩,?_⟩
  simp only [zd1,p3,p4]
  refine tv 48 (pT aq 0) ?_
  refine tv 49 (pT aq 5) ?_
  refine te ?_
  have fE:=ah
  refine es (hv:=(by obtain ⟨_,_,e,_⟩:=(bG.sl).form;rw [e];rfl)) 40 5 e6 [e6] #[ds,os,rs,sN,sN,e6] ah hB dx ⟨bG.one,trivial⟩ fun jt ej hE ah hB=>?_
  refine ⟨trivial,⟨zh7 (by kernel_rfl),trivial⟩,?_⟩
  refine zi0 ?_
  refine hQ _ _ ?_
  refine rg [0,1] ?_
  refine sw 50 (iT ((k:Int)+1)) rfl (rwI ((k:Int)+1)) ?_
  refine sv 34 (iT ((k:Int)+1)) ?_
  refine za0 ?_
  replace bG:=bG.kts za2 (ej.kts fE (by decide))
  replace ai:=ej.lc (em.lc (ai.gr e5) (by decide)) ar
  refine hy (D.n - (k+1)) ⟨List.toArray ?l46,[]⟩ _ (by omega) ?_
  exact ⟨k+1,e6,(fun i=>List.getD ?l46 i undef),rfl,rfl,(by omega),bG,ai,ah,hB⟩
 have hek:D.n=k:=by have:=of_decide_eq_false d6;omega
 subst hek
 refine wp_exit ?_
 simp only [Exit.then,Exit.inBlock,↓reduceIte]
 refine gG _ _ ?_
 refine wp_seq_k (fun iZ hr=>wp_seq_k (fun iB hZ=>rg [0,1,2,3] (sv 51 (pT ba 2) ?_)))
 refine sw 52 rs rfl (rk 24 2 ai) ?_
 refine sw 53 (iT ((D.q:Nat):Int)) rfl (zb0 (e:=80) hrs (za9 rfl) _ _ rfl rfl (by kernel_rfl)) ?_
 refine sv 54 (iT 0) (za0 (hZ _ _ ?_))
 refine wp_block ?_
 refine zb1 (a:=⟨List.toArray ?l49,[]⟩) (fun n a w'=>∃ (r:Nat) (vs:Value) (vk:Value) (aa:Nat→Value),D.q - r=n∧a=⟨[.agg #[ds,os,rs],pT ba 0,.pointer none,iT 0,iT 0,pT aq 0,undef,aB 7,undef,aa 9,aa 10,undef,aa 12,aa 13,aa 14,aa 15,aa 16,undef,aa 18,aa 19,aa 20,aa 21,aa 22,aa 23,aa 24,aa 25,.bool false,undef,aa 28,aa 29,aa 30,aa 31,os,iT ((D.n:Nat):Int),iT ((D.n):Int),.bool (decide (((D.n):Int)<((D.n:Nat):Int))),aa 36,aa 37,aa 38,aa 39,aa 40,aa 41,aa 42,aa 43,aa 44,aa 45,aa 46,aa 47,aa 48,aa 49,aa 50,aa 51,rs,iT ((D.q:Nat):Int),iT (r:Int),aa 55,aa 56,aa 57,aa 58,aa 59,aa 60,aa 61,aa 62,aa 63,aa 64,aa 65,aa 66,aa 67,aa 68,aa 69,aa 70,aa 71,aa 72,aa 73,aa 74,aa 75,aa 76,aa 77,aa 78,aa 79,aa 80,aa 81,aa 82,aa 83,aa 84,aa 85,aa 86,aa 87,aa 88,aa 89,aa 90,aa 91,aa 92,aa 93,aa 94,aa 95,aa 96,aa 97,aa 98,aa 99,aa 100,aa 101,aa 102,aa 103,aa 104,aa 105,aa 106,aa 107,aa 108,aa 109,aa 110,aa 111,aa 112,aa 113,aa 114,aa 115,aa 116,aa 117,aa 118,aa 119,aa 120,aa 121,aa 122,aa 123,aa 124,aa 125,aa 126,aa 127,aa 128,aa 129,aa 130,aa 131,aa 132,aa 133,aa 134,aa 135,aa 136,aa 137,aa 138,aa 139,aa 140,aa 141,aa 142,aa 143,aa 144,aa 145,aa 146,aa 147,aa 148,aa 149,aa 150,aa 151,aa 152,aa 153,aa 154,aa 155,aa 156,aa 157,aa 158,aa 159,aa 160,aa 161,aa 162,aa 163,aa 164,aa 165,aa 166,aa 167,aa 168,aa 169,aa 170,undef].toArray,[]⟩∧r≤D.q∧Ow (ERw (ERw (ESp 64) 124 8) 162 1) 161 1 w' w.heap.size vs (tb (fun z0=>tb (fun z1=>tb (fun z2=>(D.sp z0 z1 z2)) (D.ol z1)) D.n) r)∧Ow (ERat 64) 62 4 w' w.heap.size vk (tb (fun z1=>(D.cn z1)) r)∧Ow EI64 3 1 w' w.heap.size vc (tb (fun z1=>(D.ch z1)) D.n)∧Lc w' ba #[ds,os,rs] 26∧Lc w' aq #[ds,os,rs,vs,vk,vc] 158∧Gr w w') (D.q - 0) ?_ ?_
 ·exact ⟨0,sN,sN,(fun i=>List.getD ?l49 i undef),rfl,rfl,Nat.zero_le _,Ow.nil _ _ _ _ _,Ow.nil _ _ _ _ _,oc,ai,ah,hB⟩
 rintro jg jH fg ⟨r,vs,vk,aa,rfl,rfl,hkr,os_,ok_,oc,ai,ah,hB⟩ iP fN
 have lehR:=Below.size hB
 have hR:=Gr.refl fg
 refine wp_seq_k (fun iy il=>rg [0] (sv 55 (.bool (decide ((r:Int)<((D.q:Nat):Int)))) ?_))
 refine za0 (il _ _ ?_)
 refine wp_seq_k (fun iR gj=>?_)
 refine wp_cond_split rfl (fun dC=>?_) (fun dC=>?_)
 ·have hlr:r<D.q:=by have:=of_decide_eq_true dC;omega
  refine wp_skip ?_
  refine gj _ _ ?_
  refine wp_seq_k (fun jo fj=>?_)
  refine wp_block ?_
  refine wp_seq_k (fun iL gX=>rg [0,1,2,3] ?_)
  refine sw 56 (adr rs (r*8)) rfl (zc0 (e:=80) hrs za8 (by decide) r (by omega) _ _ _ rfl rfl rfl (by kernel_rfl) (by kernel_rfl)) ?_
  obtain ⟨_,_,⟨dz,bX,rfl,bT⟩,fs⟩:=Sl.get hrs (by decide) (zc3 (f:=(fun z1=>(D.rq z1))) (n:=D.q) (i:=r) (by omega))
  refine sw 57 (.agg #[sV dz,iT 0,sV (zd4 (D.cn r)),bX,sV [],sN,sV (tO (D.hl r) (D.vl r)),sV (tO (D.hh r) (D.vh r))]) rfl (ze5 [sV dz,iT 0,sV (zd4 (D.cn r)),bX,sV [],sN,sV (tO (D.hl r) (D.vl r)),sV (tO (D.hh r) (D.vh r))] (fs.gr hB) _ _ rfl rfl (by kernel_rfl)) ?_
  refine se ?_
  refine ea 80 #[sV [],iT 0,sV [],sN,sV [],sN,sV [],sV []] 9 hB fun bP jx f0 az f8 hO hB=>?_
  have dd:=ai.ne f8
  have c6:=ah.ne f8
  have dZ:=Nat.le_trans (Below.size hR) f8
  replace hR:=hR.trans f0
  simp only [p3,p4]
  refine se ?_
  refine es 80 0 (.agg #[sV dz,iT 0,sV (zd4 (D.cn r)),bX,sV [],sN,sV (tO (D.hl r) (D.vl r)),sV (tO (D.hh r) (D.vh r))]) [sV dz,iT 0,sV (zd4 (D.cn r)),bX,sV [],sN,sV (tO (D.hl r) (D.vl r)),sV (tO (D.hh r) (D.vh r))] #[sV dz,iT 0,sV (zd4 (D.cn r)),bX,sV [],sN,sV (tO (D.hl r) (D.vl r)),sV (tO (D.hh r) (D.vh r))] az hB hO ⟨rfl,rfl,rfl,bT.one,rfl,rfl,rfl,rfl,trivial⟩ fun iS dJ gs az hB=>?_
  replace hR:=dJ.gr hR dZ
  refine za0 (gX _ _ ?_)
  refine wp_seq_k (fun i9 ic=>rg [0,1,2,3,4] (sv 58 (pT ba 0) ?_))
  replace ai:=dJ.lc (ai.gr f0) dd
  refine sw 59 ds rfl (rk 22 0 ai) ?_
  refine sw 60 (iT ((D.n:Nat):Int)) rfl (zb0 (e:=71) hds (za9 rfl) _ _ rfl rfl (by kernel_rfl)) ?_
  refine se ?_
  refine eff_mk (E:=(ERat 64)) (0:Rat) 146 62 (.agg #[.bool false,sN,.bool false,sN]) D.n 4 64 (some 61) rfl rfl rfl rfl (by kernel_rfl) (by kernel_rfl) (by decide) (by omega) (by decide) (fun w2=>yb3 64 (by omega) w2) (fun bV jv ew fq dW=>?_)
  have cZ:=ai.ne dW
  replace ah:=dJ.lc (ah.gr f0) c6
  have de:=ah.ne dW
  have df:=az.ne dW
  have dA:=Nat.le_trans (Below.size hR) dW
  replace dW:=Nat.le_trans (Below.size hB) dW
  replace hB:=hB.trans ew
  replace hR:=hR.trans ew
  simp only [zd1,p3,p4]
  refine sv 10 (sT bV D.n D.n) (za0 (ic _ _ ?_))
  refine wp_seq_k (fun i3 hz=>wp_seq_k (fun jF gC=>?_))
  replace bT:=(bT.cast (show (D.rq r).ts=D.tms r from rfl)).cast (list_tb (d:=((0:Nat),(0:Rat)))).symm
  refine rg [0,1,2,3,4,5] (sv 62 (pT bP 1) ?_)
  refine sv 63 (pT bP 2) ?_
  refine sv 64 (pT bP 3) ?_
  replace az:=az.gr ew
  refine sw 65 bX rfl (rk 73 3 az) ?_
  refine sw 66 (iT (((D.tms r).length:Nat):Int)) rfl (zb0 (e:=110) bT (za9 rfl) _ _ rfl rfl (by kernel_rfl)) ?_
  refine sv 67 (iT 0) (za0 (gC _ _ ?_))
  refine wp_block ?_
  replace ai:=ai.gr ew
  replace ah:=ah.gr ew
  refine zb1 (a:=⟨List.toArray ?l62,[]⟩) (fun n a w'=>∃ (j:Nat) (ad:Nat→Value),(D.tms r).length - j=n∧a=⟨[.agg #[ds,os,rs],pT ba 0,.pointer none,iT 0,iT 0,pT aq 0,undef,aB 7,undef,pT bP 0,sT bV D.n D.n,undef,ad 12,aa 13,aa 14,aa 15,aa 16,undef,aa 18,aa 19,aa 20,aa 21,ad 22,ad 23,ad 24,ad 25,.bool false,undef,ad 28,ad 29,ad 30,ad 31,os,iT ((D.n:Nat):Int),iT ((D.n):Int),.bool (decide (((D.n):Int)<((D.n:Nat):Int))),ad 36,ad 37,ad 38,ad 39,ad 40,ad 41,ad 42,ad 43,ad 44,ad 45,ad 46,ad 47,ad 48,ad 49,ad 50,ad 51,rs,iT ((D.q:Nat):Int),iT (r:Int),.bool (decide ((r:Int)<((D.q:Nat):Int))),ad 56,ad 57,ad 58,ad 59,ad 60,ad 61,ad 62,ad 63,ad 64,bX,iT (((D.tms r).length:Nat):Int),iT (j:Int),ad 68,ad 69,ad 70,ad 71,ad 72,ad 73,ad 74,ad 75,ad 76,ad 77,ad 78,ad 79,ad 80,ad 81,ad 82,aa 83,aa 84,aa 85,aa 86,ad 87,ad 88,ad 89,aa 90,aa 91,aa 92,aa 93,ad 94,ad 95,ad 96,ad 97,ad 98,ad 99,ad 100,ad 101,ad 102,ad 103,ad 104,ad 105,ad 106,ad 107,ad 108,ad 109,ad 110,ad 111,ad 112,ad 113,ad 114,ad 115,ad 116,ad 117,ad 118,ad 119,ad 120,ad 121,ad 122,ad 123,ad 124,ad 125,ad 126,ad 127,ad 128,ad 129,ad 130,ad 131,ad 132,ad 133,ad 134,ad 135,ad 136,ad 137,ad 138,ad 139,ad 140,ad 141,ad 142,ad 143,ad 144,ad 145,ad 146,ad 147,ad 148,ad 149,ad 150,ad 151,ad 152,ad 153,ad 154,ad 155,ad 156,ad 157,ad 158,ad 159,ad 160,ad 161,ad 162,ad 163,ad 164,ad 165,ad 166,ad 167,ad 168,ad 169,ad 170,undef].toArray,[]⟩∧j≤(D.tms r).length∧Mk (ERat 64) 62 4 w' bV (tb (D.fcj r j) D.n)∧Lc w' ba #[ds,os,rs] 26∧Lc w' aq #[ds,os,rs,vs,vk,vc] 158∧Lc w' bP #[sV dz,iT 0,sV (zd4 (D.cn r)),bX,sV [],sN,sV (tO (D.hl r) (D.vl r)),sV (tO (D.hh r) (D.vh r))] 80∧Gr fg w'∧Gr w w') ((D.tms r).length - 0) ?_ ?_
  ·exact ⟨0,(fun i=>List.getD ?l62 i undef),rfl,rfl,Nat.zero_le _,fq.cast (rep_tb (d:=(0:Rat))),ai,ah,az,hR,hB⟩
  rintro jb jG eC ⟨j,ad,rfl,rfl,hkj,hfk,ai,ah,az,hR,hB⟩ iA gW
  have htl:=zY7 (D:=D) (r:=r)
  have gv:j<(D.tms r).length→((D.tms r).getD j (0,0)).1<D.n:=fun h=>zY6 h
  refine wp_seq_k (fun iv hD=>rg [0] (sv 68 (.bool (decide ((j:Int)<(((D.tms r).length:Nat):Int)))) ?_))
  refine za0 (hD _ _ ?_)
  refine wp_seq_k (fun iu gl=>?_)
  refine wp_cond_split rfl (fun dF=>?_) (fun dF=>?_)
  ·have hlj:j<(D.tms r).length:=by have:=of_decide_eq_true dF;omega
   refine wp_skip ?_
   refine gl _ _ ?_
   refine wp_seq_k (fun iV ht=>?_)
   refine wp_block ?_
   refine wp_seq_k (fun i4 hn=>rg [0,1,2,3] ?_)
   refine sw 69 (adr bX (j*2)) rfl (zc0 (e:=110) bT za8 (by decide) j (by omega) _ _ _ rfl rfl rfl (by kernel_rfl) (by kernel_rfl)) ?_
   obtain ⟨_,_,rfl,fZ⟩:=Sl.get bT (by decide) (zc3 (f:=(fun z1=>((D.tms r).getD z1 (0,0)))) (n:=(D.tms r).length) (i:=j) (by omega))
   refine sw 70 (.agg #[iT ((((D.tms r).getD j (0,0)).1:Nat):Int),sV (zd4 (((D.tms r).getD j (0,0)).2))]) rfl (ze5 [iT ((((D.tms r).getD j (0,0)).1:Nat):Int),sV (zd4 (((D.tms r).getD j (0,0)).2))] (fZ.gr hB) _ _ rfl rfl (by kernel_rfl)) ?_
   refine se ?_
   refine ea 110 #[iT 0,sV []] 12 hB fun fl jC ev cm eu gD hB=>?_
   have c4:=ai.ne eu
   have dq:=ah.ne eu
   have dp:=az.ne eu
   have fy:=eu
   have dX:=Nat.le_trans (Below.size hR) eu
   replace hR:=hR.trans ev
   simp only [p3,p4]
   refine se ?_
   refine es 110 0 (.agg #[iT ((((D.tms r).getD j (0,0)).1:Nat):Int),sV (zd4 (((D.tms r).getD j (0,0)).2))]) [iT ((((D.tms r).getD j (0,0)).1:Nat):Int),sV (zd4 (((D.tms r).getD j (0,0)).2))] #[iT ((((D.tms r).getD j (0,0)).1:Nat):Int),sV (zd4 (((D.tms r).getD j (0,0)).2))] cm hB gD ⟨rfl,rfl,trivial⟩ fun io cD hX cm hB=>?_
   replace hR:=cD.gr hR dX
   refine za0 (hn _ _ ?_)
   have bF:=Gr.drew io
   replace hB:=hB.trans bF
   replace hR:=hR.trans bF
   replace cm:=cm.gr bF
   refine za4 (fun w'=>Lc w' fl #[iT ((((D.tms r).getD j (0,0)).1:Nat):Int),sV (zd4 (((D.tms r).getD j (0,0)).2))] 110) [(true,0),(true,1),(true,2),(true,3),(true,4),(false,5),(true,6),(true,7),(true,8),(true,9),(false,10)] (by kernel_rfl) (by kernel_rfl) (by kernel_rfl) (by decide) (fun _ _ _ _ _ h=>h) cm ?_
   refine ov 72 (sT bV D.n D.n) ?_
   refine ov 73 (pT fl 0) ?_
   refine ow 74 (iT ((((D.tms r).getD j (0,0)).1:Nat):Int)) rfl (fun w' hS=>(rk 3 0 hS)) ?_
   refine ov 75 (pT fl 1) ?_
   refine ow 76 (sV (zd4 (((D.tms r).getD j (0,0)).2))) rfl (fun w' hS=>(rk 33 1 hS)) ?_
   refine oe ?_
   refine ec 77 (zB1 (((D.tms r).getD j (0,0)).2) (zY8 ok hlr hlj).sz64 (by omega) (by omega) (zC3 (zY8 ok hlr hlj)) _ (hm.gr hB)) ?_
   rintro jm i0 ⟨⟨eV,fa,e0,eZ,rfl,eE⟩,dL⟩
   refine ⟨_,rfl,?_⟩
   replace hB:=hB.trans dL
   replace hR:=hR.trans dL
   replace cm:=cm.gr dL
   refine ⟨cm,?_⟩
   simp only [p3,p4]
   refine ov 71 (.tuple #[.agg #[eV,fa,e0,eZ],iT 0]) ?_
   refine ov 78 (.agg #[eV,fa,e0,eZ]) ?_
   refine ov 79 (iT 0) ?_
   refine ow 80 (adr (sT bV D.n D.n) ((((D.tms r).getD j (0,0)).1)*4)) rfl (fun w' hS=>(zc0 (e:=62) (n:=D.n) (hfk.sl_n (n:=D.n) (cap:=D.n) za8 (Nat.le_refl _)) za8 (by decide) (((D.tms r).getD j (0,0)).1) (by omega) _ _ _ rfl rfl rfl (by kernel_rfl) (by kernel_rfl))) ?_
   refine oe ?_
   replace hfk:=hfk.gr (za5 64) (((cD.gr ev fy).trans bF).trans dL)
   refine eff_stm (za5 64) hfk (((D.tms r).getD j (0,0)).1) (by rw [za8];exact zY6 hlj) (((D.tms r).getD j (0,0)).2) (.agg #[eV,fa,e0,eZ]) [eV,fa,e0,eZ] (D.n) (D.n) 62 _ _ rfl rfl rfl rfl rfl (by kernel_rfl) rfl ⟨eE.one0,eE.one1,eE.one2,eE.one3,trivial⟩ ⟨_,_,_,_,rfl,eE.mono (by omega)⟩ (by decide) (fun jw cz fF f6=>?_)
   replace hB:=cz.gr hB dW
   replace hR:=cz.gr hR dA
   replace cm:=fF 110 (by decide) _ _ _ cm
   refine ⟨cm,?_⟩
   refine zb4 ?_
   refine ht _ _ ?_
   refine rg [0,1] ?_
   refine sw 81 (iT ((j:Int)+1)) rfl (rwI ((j:Int)+1)) ?_
   refine sv 67 (iT ((j:Int)+1)) ?_
   refine za0 ?_
   replace ai:=cz.lc ((cD.lc (ai.gr ev) c4).gr (bF.trans dL)) cZ
   replace ah:=cz.lc ((cD.lc (ah.gr ev) dq).gr (bF.trans dL)) de
   replace az:=cz.lc ((cD.lc (az.gr ev) dp).gr (bF.trans dL)) df
   refine gW ((D.tms r).length - (j+1)) ⟨List.toArray ?l81,[]⟩ _ (by omega) ?_
   exact ⟨j+1,(fun i=>List.getD ?l81 i undef),rfl,rfl,(by omega),f6.cast (set_tb.trans (congrArg (fun F=>tb F D.n) (fcj_set hlj))),ai,ah,az,hR,hB⟩
  have hej:(D.tms r).length=j:=by have:=of_decide_eq_false dF;omega
  refine wp_exit ?_
  simp only [Exit.then,Exit.inBlock,↓reduceIte]
  refine hz _ _ ?_
  refine wp_seq_k (fun jf gx=>rg [0] (sv 13 (sN) ?_))
  refine za0 (gx _ _ ?_)
  refine wp_seq_k (fun jj g8=>wp_seq_k (fun iC hH=>rg [0,1,2,3] (sv 82 (pT ba 1) ?_)))
  refine sw 83 os rfl (rk 23 1 ai) ?_
  refine sw 84 (iT ((D.n:Nat):Int)) rfl (zb0 (e:=72) hos (za9 rfl) _ _ rfl rfl (by kernel_rfl)) ?_
  refine sv 85 (iT 0) (za0 (hH _ _ ?_))
  refine wp_block ?_
  have hfa:=(hfk.sl_n (n:=D.n) (cap:=D.n) za8 (Nat.le_refl _)).cast (zu9 (g:=fun z1=>(D.fc r z1)) fun i hi=>by rw [← hej];exact fcj_all hi)
  have lehF:=Below.size hB
  have lehF_hR:=Below.size hR
  have hF:=Gr.refl eC
  refine zb1 (a:=⟨List.toArray ?l85,[]⟩) (fun n a w'=>∃ (i:Nat) (vr:Value) (ac:Nat→Value),D.n - i=n∧a=⟨[.agg #[ds,os,rs],pT ba 0,.pointer none,iT 0,iT 0,pT aq 0,undef,aB 7,undef,pT bP 0,sT bV D.n D.n,undef,ad 12,vr,ac 14,ac 15,ac 16,undef,ac 18,ac 19,ac 20,aa 21,ac 22,ac 23,ac 24,ac 25,.bool false,undef,ac 28,ac 29,ac 30,ac 31,os,iT ((D.n:Nat):Int),iT ((D.n):Int),.bool (decide (((D.n):Int)<((D.n:Nat):Int))),ac 36,ac 37,ac 38,ac 39,ac 40,ac 41,ac 42,ac 43,ac 44,ac 45,ac 46,ac 47,ac 48,ac 49,ac 50,ac 51,rs,iT ((D.q:Nat):Int),iT (r:Int),.bool (decide ((r:Int)<((D.q:Nat):Int))),ac 56,ac 57,ac 58,ac 59,ac 60,ac 61,ac 62,ac 63,ac 64,bX,iT (((D.tms r).length:Nat):Int),iT (j:Int),.bool (decide ((j:Int)<(((D.tms r).length:Nat):Int))),ac 69,ac 70,ac 71,ac 72,ac 73,ac 74,ac 75,ac 76,ac 77,ac 78,ac 79,ac 80,ac 81,ac 82,os,iT ((D.n:Nat):Int),iT (i:Int),ac 86,ac 87,ac 88,ac 89,ac 90,ac 91,ac 92,ac 93,ac 94,ac 95,ac 96,ac 97,ac 98,ac 99,ac 100,ac 101,ac 102,ac 103,ac 104,ac 105,ac 106,ac 107,ac 108,ac 109,ac 110,ac 111,ac 112,ac 113,ac 114,ac 115,ac 116,ac 117,ac 118,ac 119,ac 120,ac 121,ac 122,ac 123,ac 124,ac 125,ac 126,ac 127,ac 128,ac 129,ac 130,ac 131,ac 132,ac 133,ac 134,ac 135,ac 136,ac 137,ac 138,ac 139,ac 140,ac 141,ac 142,ac 143,ac 144,ac 145,ac 146,ac 147,ac 148,ac 149,ac 150,ac 151,ac 152,ac 153,ac 154,ac 155,ac 156,ac 157,ac 158,ac 159,ac 160,ac 161,ac 162,ac 163,ac 164,ac 165,ac 166,ac 167,ac 168,ac 169,ac 170,undef].toArray,[]⟩∧i≤D.n∧Ow (ERw (ESp 64) 124 8) 162 1 w' eC.heap.size vr (tb (fun z1=>tb (fun z2=>(D.sp r z1 z2)) (D.ol z1)) i)∧Lc w' ba #[ds,os,rs] 26∧Lc w' aq #[ds,os,rs,vs,vk,vc] 158∧Lc w' bP #[sV dz,iT 0,sV (zd4 (D.cn r)),bX,sV [],sN,sV (tO (D.hl r) (D.vl r)),sV (tO (D.hh r) (D.vh r))] 80∧Gr fg w'∧Gr eC w'∧Gr w w') (D.n - 0) ?_ ?_
  ·exact ⟨0,sN,(fun i=>List.getD ?l85 i undef),rfl,rfl,Nat.zero_le _,Ow.nil _ _ _ _ _,ai,ah,az,hR,hF,hB⟩
  rintro i1 iN e8 ⟨i,vr,ac,rfl,rfl,hki,orr,ai,ah,az,hR,hF,hB⟩ jc hj
  have lehG:=Below.size hB
  have lehG_hR:=Below.size hR
  have lehG_hF:=Below.size hF
  have hG:=Gr.refl e8
  refine wp_seq_k (fun jl h8=>rg [0] (sv 86 (.bool (decide ((i:Int)<((D.n:Nat):Int)))) ?_))
  refine za0 (h8 _ _ ?_)
  refine wp_seq_k (fun iG gE=>?_)
  refine wp_cond_split rfl (fun dH=>?_) (fun dH=>?_)
  ·have hli:i<D.n:=by have:=of_decide_eq_true dH;omega
   refine wp_skip ?_
   refine gE _ _ ?_
   refine wp_seq_k (fun iX hP=>?_)
   refine wp_block ?_
   refine wp_seq_k (fun iE gU=>rg [0,1,2,3,4] (sv 87 (iT (i:Int)) ?_))
   refine sw 88 (adr os (i*1)) rfl (zc0 (e:=72) hos za8 (by decide) i (by omega) _ _ _ rfl rfl rfl (by kernel_rfl) (by kernel_rfl)) ?_
   obtain ⟨_,_,⟨dM,rfl,dD⟩,fJ⟩:=Sl.get hos (by decide) (zc3 (f:=(fun z0=>tb (fun z1=>(D.op z0 z1)) (D.ol z0))) (n:=D.n) (i:=i) (by omega))
   refine sw 89 dM rfl (ze6 dM (fJ.gr hB) _ _ rfl rfl (by kernel_rfl)) ?_
   refine sv 14 (iT (i:Int)) ?_
   refine sv 15 dM (za0 (gU _ _ ?_))
   refine wp_seq_k (fun jE hM=>rg [0] (sv 16 (sN) ?_))
   refine za0 (hM _ _ ?_)
   refine wp_seq_k (fun i6 g6=>wp_seq_k (fun jD hT=>rg [0,1,2] (sv 90 dM ?_)))
   refine sw 91 (iT ((D.ol i:Nat):Int)) rfl (zb0 (e:=68) dD (za9 rfl) _ _ rfl rfl (by kernel_rfl)) ?_
   refine sv 92 (iT 0) (za0 (hT _ _ ?_))
   refine wp_block ?_
   refine zb1 (a:=⟨List.toArray ?l95,[]⟩) (fun n a w'=>∃ (k2:Nat) (vq:Value) (ae:Nat→Value),(D.ol i) - k2=n∧a=⟨[.agg #[ds,os,rs],pT ba 0,.pointer none,iT 0,iT 0,pT aq 0,undef,aB 7,undef,pT bP 0,sT bV D.n D.n,undef,ad 12,vr,iT (i:Int),dM,vq,undef,ae 18,ae 19,ae 20,aa 21,ae 22,ae 23,ae 24,ae 25,.bool false,undef,ae 28,ae 29,ae 30,ae 31,os,iT ((D.n:Nat):Int),iT ((D.n):Int),.bool (decide (((D.n):Int)<((D.n:Nat):Int))),ae 36,ae 37,ae 38,ae 39,ae 40,ae 41,ae 42,ae 43,ae 44,ae 45,ae 46,ae 47,ae 48,ae 49,ae 50,ae 51,rs,iT ((D.q:Nat):Int),iT (r:Int),.bool (decide ((r:Int)<((D.q:Nat):Int))),ae 56,ae 57,ae 58,ae 59,ae 60,ae 61,ae 62,ae 63,ae 64,bX,iT (((D.tms r).length:Nat):Int),iT (j:Int),.bool (decide ((j:Int)<(((D.tms r).length:Nat):Int))),ae 69,ae 70,ae 71,ae 72,ae 73,ae 74,ae 75,ae 76,ae 77,ae 78,ae 79,ae 80,ae 81,ae 82,os,iT ((D.n:Nat):Int),iT (i:Int),.bool (decide ((i:Int)<((D.n:Nat):Int))),ae 87,ae 88,ae 89,dM,iT ((D.ol i:Nat):Int),iT (k2:Int),ae 93,ae 94,ae 95,ae 96,ae 97,ae 98,ae 99,ae 100,ae 101,ae 102,ae 103,ae 104,ae 105,ae 106,ae 107,ae 108,ae 109,ae 110,ae 111,ae 112,ae 113,ae 114,ae 115,ae 116,ae 117,ae 118,ae 119,ae 120,ae 121,ae 122,ae 123,ae 124,ae 125,ae 126,ae 127,ae 128,ae 129,ae 130,ae 131,ae 132,ae 133,ae 134,ae 135,ae 136,ae 137,ae 138,ae 139,ae 140,ae 141,ae 142,ae 143,ae 144,ae 145,ae 146,ae 147,ae 148,ae 149,ae 150,ae 151,ae 152,ae 153,ae 154,ae 155,ae 156,ae 157,ae 158,ae 159,ae 160,ae 161,ae 162,ae 163,ae 164,ae 165,ae 166,ae 167,ae 168,ae 169,ae 170,undef].toArray,[]⟩∧k2≤(D.ol i)∧Ow (ESp 64) 124 8 w' e8.heap.size vq (tb (fun z2=>(D.sp r i z2)) k2)∧Lc w' ba #[ds,os,rs] 26∧Lc w' aq #[ds,os,rs,vs,vk,vc] 158∧Lc w' bP #[sV dz,iT 0,sV (zd4 (D.cn r)),bX,sV [],sN,sV (tO (D.hl r) (D.vl r)),sV (tO (D.hh r) (D.vh r))] 80∧Gr fg w'∧Gr eC w'∧Gr e8 w'∧Gr w w') ((D.ol i) - 0) ?_ ?_
   ·exact ⟨0,sN,(fun i=>List.getD ?l95 i undef),rfl,rfl,Nat.zero_le _,Ow.nil _ _ _ _ _,ai,ah,az,hR,hF,hG,hB⟩
   rintro iF iO jz ⟨k2,vq,ae,rfl,rfl,hW,oq,ai,ah,az,hR,hF,hG,hB⟩ iW gH
   have hnom:=ok.nom i hli
   have hlo:k2<D.ol i→-1048576≤D.lo i k2∧D.lo i k2≤D.up i k2∧D.up i k2≤1048576:=fun h=>ok.lo i k2 hli h
   have iQ:=ok.o2 i hli
   refine wp_seq_k (fun jq hU=>rg [0] (sv 93 (.bool (decide ((k2:Int)<((D.ol i:Nat):Int)))) ?_))
   refine za0 (hU _ _ ?_)
   refine wp_seq_k (fun iY g1=>?_)
   refine wp_cond_split rfl (fun d8=>?_) (fun d8=>?_)
   ·have ef:k2<(D.ol i):=by have:=of_decide_eq_true d8;omega
    refine wp_skip ?_
    refine g1 _ _ ?_
    refine wp_seq_k (fun iJ hV=>?_)
    refine wp_block ?_
    refine wp_seq_k (fun gO fS=>rg [0,1,2,3] ?_)
    refine sw 94 (adr dM (k2*3)) rfl (zc0 (e:=68) dD za8 (by decide) k2 (by omega) _ _ _ rfl rfl rfl (by kernel_rfl) (by kernel_rfl)) ?_
    obtain ⟨_,_,rfl,eG⟩:=Sl.get dD (by decide) (zc3 (f:=(fun z1=>(D.op i z1))) (n:=(D.ol i)) (i:=k2) (by omega))
    refine sw 95 (.agg #[iT (D.lo i k2),iT (D.up i k2),iT (D.co i k2)]) rfl (ze5 [iT (D.lo i k2),iT (D.up i k2),iT (D.co i k2)] (eG.gr hB) _ _ rfl rfl (by kernel_rfl)) ?_
    refine se ?_
    refine ea 68 #[iT 0,iT 0,iT 0] 18 hB fun b2 gz bK ak bS f5 hB=>?_
    have cf:=ai.ne bS
    have cl:=ah.ne bS
    have cL:=az.ne bS
    have c5:=Nat.le_trans (Below.size hR) bS
    have c8:=Nat.le_trans (Below.size hF) bS
    have di:=Nat.le_trans (Below.size hG) bS
    replace hR:=hR.trans bK
    replace hF:=hF.trans bK
    replace hG:=hG.trans bK
    simp only [p3,p4]
    refine se ?_
    have eg:=ak
    refine es 68 0 (.agg #[iT (D.lo i k2),iT (D.up i k2),iT (D.co i k2)]) [iT (D.lo i k2),iT (D.up i k2),iT (D.co i k2)] #[iT (D.lo i k2),iT (D.up i k2),iT (D.co i k2)] ak hB f5 ⟨rfl,rfl,rfl,trivial⟩ fun fK a1 gb ak hB=>?_
    replace hR:=a1.gr hR c5
    replace hF:=a1.gr hF c8
    replace hG:=a1.gr hG di
    refine za0 (fS _ _ ?_)
    refine wp_seq_k (fun gm ft=>?_)
    obtain ⟨_,_,⟨cS,cw,cP,cT,rfl,fT⟩,bQ⟩:=Sl.get hfa (by decide) (zc3 (f:=(fun z1=>(D.fc r z1))) (n:=D.n) (i:=i) (by omega))
    obtain ⟨_,_,⟨fL,rfl⟩,bh⟩:=Sl.get hds (by decide) (zc3 (f:=(fun z1=>(D.nom z1))) (n:=D.n) (i:=i) (by omega))
    have eA:=Below.size hB
    have cN:=Below.size hR
    have cA:=Below.size hF
    have cd:=Below.size hG
    replace ai:=a1.lc (ai.gr bK) cf
    have b4:=ai.lt
    replace ah:=a1.lc (ah.gr bK) cl
    have b6:=ah.lt
    replace az:=a1.lc (az.gr bK) cL
    have cI:=az.lt
    have bW:=ak.lt
    have aJ:=Gr.drew fK
    replace hB:=hB.trans aJ
    replace hR:=hR.trans aJ
    replace hF:=hF.trans aJ
    replace hG:=hG.trans aJ
    replace ai:=ai.gr aJ
    replace ak:=ak.gr aJ
    refine zk2 (fun w'=>Lc w' ba #[ds,os,rs] 26∧Lc w' b2 #[iT (D.lo i k2),iT (D.up i k2),iT (D.co i k2)] 68∧AtV w' (sT bV D.n D.n) (i*4) [cS,cw,cP,cT]∧AtV w' ds (i*4) [sV fL,iT (D.nom i),iT 0,iT 0]) [(true,0),(true,1),(true,2),(true,3),(true,4),(true,5),(true,6),(true,7),(true,8),(true,9),(true,10),(true,11),(true,12),(false,13),(false,14)] [⟨15,19,62,#[.bool false,sN,.bool false,sN]⟩] [(false,16)] (by kernel_rfl) (by kernel_rfl) (by kernel_rfl) (by kernel_rfl) (by kernel_rfl) (by decide) (fun _ _ _ _ _ h=>h) (fun _ _ _ _ _ h=>h) (fun w' o h=>⟨Lc.gr h.1 (Gr.alloc w' o),Lc.gr h.2.1 (Gr.alloc w' o),AtV.gr h.2.2.1 (Gr.alloc w' o),AtV.gr h.2.2.2 (Gr.alloc w' o)⟩) ⟨ai,ak,bQ.gr hF,bh.gr hB⟩ (by intro f hf;simp only [List.mem_cons,List.not_mem_nil,or_false] at hf;rcases hf with rfl<;>first | exact zn5 (z:=(.agg #[.bool false,sN,.bool false,sN])) (by kernel_rfl) rfl) ?_
    refine fv 96 (sT bV D.n D.n) ?_
    refine fv 97 (iT (i:Int)) ?_
    refine fw 98 (adr (sT bV D.n D.n) (i*4)) rfl (fun w' hS=>(zc0 (e:=62) hfa za8 (by decide) i (by omega) _ _ _ rfl rfl rfl (by kernel_rfl) (by kernel_rfl))) ?_
    refine fw 99 (.agg #[cS,cw,cP,cT]) rfl (fun w' hS=>(ze5 [cS,cw,cP,cT] hS.2.2.1 _ _ rfl rfl (by kernel_rfl))) ?_
    refine fv 100 (pT ba 0) ?_
    refine fw 101 ds rfl (fun w' hS=>(rk 22 0 hS.1)) ?_
    refine fv 102 (iT (i:Int)) ?_
    refine fw 103 (adr ds (i*4)) rfl (fun w' hS=>(zc0 (e:=71) hds za8 (by decide) i (by omega) _ _ _ rfl rfl rfl (by kernel_rfl) (by kernel_rfl))) ?_
    refine fw 104 (adr ds (i*4+1)) rfl (fun w' hS=>(zA6 (off:=1) bh _ _ 1 rfl rfl (by kernel_rfl))) ?_
    refine fw 105 (iT (D.nom i)) rfl (fun w' hS=>(ze6 (iT (D.nom i)) (AtV.part (i:=1) (us:=[iT (D.nom i)]) hS.2.2.2 rfl) _ _ rfl rfl (by kernel_rfl))) ?_
    refine fv 106 (pT b2 0) ?_
    refine fw 107 (iT (D.lo i k2)) rfl (fun w' hS=>(rk 3 0 hS.2.1)) ?_
    refine fw 108 (iT ((D.nom i)+(D.lo i k2))) rfl (fun w' hS=>(rwI ((D.nom i)+(D.lo i k2)))) ?_
    refine zv7 rfl rfl (fun hN bg _ g9 fY=>?_)
    replace hB:=hB.trans bg
    replace hR:=hR.trans bg
    replace hF:=hF.trans bg
    replace hG:=hG.trans bg
    refine ec 109 (zM8 ((D.nom i)+(D.lo i k2)) (by omega) (by omega) _) ?_
    rintro h6 hL ⟨⟨ir,hb,gN,gw,rfl,d7⟩,a4⟩
    refine ⟨_,rfl,?_⟩
    replace hB:=hB.trans a4
    replace hR:=hR.trans a4
    replace hF:=hF.trans a4
    replace hG:=hG.trans a4
    replace ai:=ai.gr (bg.trans a4)
    replace ak:=ak.gr (bg.trans a4)
    refine fY _ _ a4 ⟨ai,ak,bQ.gr hF,bh.gr hB⟩ ?_
    simp only [p3,p4]
    refine zv7 rfl rfl (fun ia a3 _ hI fA=>?_)
    replace hB:=hB.trans a3
    replace hR:=hR.trans a3
    replace hF:=hF.trans a3
    replace hG:=hG.trans a3
    replace d7:=d7.kp a3.kp
    refine ec 110 (mul_r (fT.kp hF.kp) d7 (by omega)) ?_
    rintro hk h4 ⟨⟨bn,bA,bt,bu,rfl,a5⟩,a7⟩
    refine ⟨_,rfl,?_⟩
    replace hB:=hB.trans a7
    replace hR:=hR.trans a7
    replace hF:=hF.trans a7
    replace hG:=hG.trans a7
    replace ai:=ai.gr (a3.trans a7)
    replace ak:=ak.gr (a3.trans a7)
    refine fA _ _ a7 ⟨ai,ak,bQ.gr hF,bh.gr hB⟩ ?_
    simp only [p3,p4]
    refine zH6 (fun fG a6 _=>?_)
    replace hB:=hB.trans a6
    replace hR:=hR.trans a6
    replace hF:=hF.trans a6
    replace hG:=hG.trans a6
    refine zZ0 (fun bH (au:Lc fG bH #[.bool false,sN,.bool false,sN] 62) q122=>?_)
    have cp:ba≠bH:=Nat.ne_of_lt (Nat.lt_of_lt_of_le b4 q122)
    have cJ:aq≠bH:=Nat.ne_of_lt (Nat.lt_of_lt_of_le b6 q122)
    have cu:bP≠bH:=Nat.ne_of_lt (Nat.lt_of_lt_of_le cI q122)
    have b3:b2≠bH:=Nat.ne_of_lt (Nat.lt_of_lt_of_le bW q122)
    have dc:=Nat.le_trans cN q122
    have da:=Nat.le_trans cA q122
    have dv:=Nat.le_trans cd q122
    replace q122:=Nat.le_trans eA q122
    simp only [zd1,p3,p4]
    refine oe ?_
    have eK:=au
    refine es 62 0 (.agg #[bn,bA,bt,bu]) [bn,bA,bt,bu] #[bn,bA,bt,bu] au hB q122 ⟨a5.one0,a5.one1,a5.one2,a5.one3,trivial⟩ fun fX aN eh au hB=>?_
    replace hR:=aN.gr hR dc
    replace hF:=aN.gr hF da
    replace hG:=aN.gr hG dv
    replace ai:=aN.lc (ai.gr a6) cp
    replace ak:=aN.lc (ak.gr a6) b3
    refine ⟨⟨ai,ak,bQ.gr hF,bh.gr hB⟩,?_⟩
    refine zb4 ?_
    refine ft _ _ ?_
    refine wp_seq_k (fun ip fV=>?_)
    obtain ⟨_,_,⟨cC,cy,cq,cH,rfl,fW⟩,bL⟩:=Sl.get hfa (by decide) (zc3 (f:=(fun z1=>(D.fc r z1))) (n:=D.n) (i:=i) (by omega))
    obtain ⟨_,_,⟨fP,rfl⟩,bo⟩:=Sl.get hds (by decide) (zc3 (f:=(fun z1=>(D.nom z1))) (n:=D.n) (i:=i) (by omega))
    have ed:=Below.size hB
    have cB:=Below.size hR
    have cr:=Below.size hF
    have b5:=Below.size hG
    have cQ:=ai.lt
    replace ah:=aN.lc (ah.gr (aJ.trans (bg.trans (a4.trans (a3.trans (a7.trans a6)))))) cJ
    have cV:=ah.lt
    replace az:=aN.lc (az.gr (aJ.trans (bg.trans (a4.trans (a3.trans (a7.trans a6)))))) cu
    have cR:=az.lt
    have bY:=ak.lt
    have b0:=au.lt
    have ax:=Gr.drew fX
    replace hB:=hB.trans ax
    replace hR:=hR.trans ax
    replace hF:=hF.trans ax
    replace hG:=hG.trans ax
    replace ai:=ai.gr ax
    replace ak:=ak.gr ax
    refine zk2 (fun w'=>Lc w' ba #[ds,os,rs] 26∧Lc w' b2 #[iT (D.lo i k2),iT (D.up i k2),iT (D.co i k2)] 68∧AtV w' (sT bV D.n D.n) (i*4) [cC,cy,cq,cH]∧AtV w' ds (i*4) [sV fP,iT (D.nom i),iT 0,iT 0]) [(true,0),(true,1),(true,2),(true,3),(true,4),(true,5),(true,6),(true,7),(true,8),(true,9),(true,10),(true,11),(true,12),(false,13),(false,14)] [⟨15,20,62,#[.bool false,sN,.bool false,sN]⟩] [(false,16)] (by kernel_rfl) (by kernel_rfl) (by kernel_rfl) (by kernel_rfl) (by kernel_rfl) (by decide) (fun _ _ _ _ _ h=>h) (fun _ _ _ _ _ h=>h) (fun w' o h=>⟨Lc.gr h.1 (Gr.alloc w' o),Lc.gr h.2.1 (Gr.alloc w' o),AtV.gr h.2.2.1 (Gr.alloc w' o),AtV.gr h.2.2.2 (Gr.alloc w' o)⟩) ⟨ai,ak,bL.gr hF,bo.gr hB⟩ (by intro f hf;simp only [List.mem_cons,List.not_mem_nil,or_false] at hf;rcases hf with rfl<;>first | exact zn5 (z:=(.agg #[.bool false,sN,.bool false,sN])) (by kernel_rfl) rfl) ?_
    refine fv 111 (sT bV D.n D.n) ?_
    refine fv 112 (iT (i:Int)) ?_
    refine fw 113 (adr (sT bV D.n D.n) (i*4)) rfl (fun w' hS=>(zc0 (e:=62) hfa za8 (by decide) i (by omega) _ _ _ rfl rfl rfl (by kernel_rfl) (by kernel_rfl))) ?_
    refine fw 114 (.agg #[cC,cy,cq,cH]) rfl (fun w' hS=>(ze5 [cC,cy,cq,cH] hS.2.2.1 _ _ rfl rfl (by kernel_rfl))) ?_
    refine fv 115 (pT ba 0) ?_
    refine fw 116 ds rfl (fun w' hS=>(rk 22 0 hS.1)) ?_
    refine fv 117 (iT (i:Int)) ?_
    refine fw 118 (adr ds (i*4)) rfl (fun w' hS=>(zc0 (e:=71) hds za8 (by decide) i (by omega) _ _ _ rfl rfl rfl (by kernel_rfl) (by kernel_rfl))) ?_
    refine fw 119 (adr ds (i*4+1)) rfl (fun w' hS=>(zA6 (off:=1) bo _ _ 1 rfl rfl (by kernel_rfl))) ?_
    refine fw 120 (iT (D.nom i)) rfl (fun w' hS=>(ze6 (iT (D.nom i)) (AtV.part (i:=1) (us:=[iT (D.nom i)]) hS.2.2.2 rfl) _ _ rfl rfl (by kernel_rfl))) ?_
    refine fv 121 (pT b2 1) ?_
    refine fw 122 (iT (D.up i k2)) rfl (fun w' hS=>(rk 3 1 hS.2.1)) ?_
    refine fw 123 (iT ((D.nom i)+(D.up i k2))) rfl (fun w' hS=>(rwI ((D.nom i)+(D.up i k2)))) ?_
    refine zv7 rfl rfl (fun gZ aW _ gY f4=>?_)
    replace hB:=hB.trans aW
    replace hR:=hR.trans aW
    replace hF:=hF.trans aW
    replace hG:=hG.trans aW
    refine ec 124 (zM8 ((D.nom i)+(D.up i k2)) (by omega) (by omega) _) ?_
    rintro ij hc ⟨⟨ie,h7,gt,hJ,rfl,dU⟩,aQ⟩
    refine ⟨_,rfl,?_⟩
    replace hB:=hB.trans aQ
    replace hR:=hR.trans aQ
    replace hF:=hF.trans aQ
    replace hG:=hG.trans aQ
    replace ai:=ai.gr (aW.trans aQ)
    replace ak:=ak.gr (aW.trans aQ)
    refine f4 _ _ aQ ⟨ai,ak,bL.gr hF,bo.gr hB⟩ ?_
    simp only [p3,p4]
    refine zv7 rfl rfl (fun gV aS _ gB fB=>?_)
    replace hB:=hB.trans aS
    replace hR:=hR.trans aS
    replace hF:=hF.trans aS
    replace hG:=hG.trans aS
    replace dU:=dU.kp aS.kp
    refine ec 125 (mul_r (fW.kp hF.kp) dU (by omega)) ?_
    rintro ho g5 ⟨⟨bC,bD,bw,bl,rfl,a8⟩,aP⟩
    refine ⟨_,rfl,?_⟩
    replace hB:=hB.trans aP
    replace hR:=hR.trans aP
    replace hF:=hF.trans aP
    replace hG:=hG.trans aP
    replace ai:=ai.gr (aS.trans aP)
    replace ak:=ak.gr (aS.trans aP)
    refine fB _ _ aP ⟨ai,ak,bL.gr hF,bo.gr hB⟩ ?_
    simp only [p3,p4]
    refine zH6 (fun fu aU _=>?_)
    replace hB:=hB.trans aU
    replace hR:=hR.trans aU
    replace hF:=hF.trans aU
    replace hG:=hG.trans aU
    refine zZ0 (fun bE (aw:Lc fu bE #[.bool false,sN,.bool false,sN] 62) q143=>?_)
    have ct:ba≠bE:=Nat.ne_of_lt (Nat.lt_of_lt_of_le cQ q143)
    have cK:aq≠bE:=Nat.ne_of_lt (Nat.lt_of_lt_of_le cV q143)
    have cF:bP≠bE:=Nat.ne_of_lt (Nat.lt_of_lt_of_le cR q143)
    have bU:b2≠bE:=Nat.ne_of_lt (Nat.lt_of_lt_of_le bY q143)
    have b1:bH≠bE:=Nat.ne_of_lt (Nat.lt_of_lt_of_le b0 q143)
    have cY:=Nat.le_trans cB q143
    have dj:=Nat.le_trans cr q143
    have dw:=Nat.le_trans b5 q143
    replace q143:=Nat.le_trans ed q143
    simp only [zd1,p3,p4]
    refine oe ?_
    have ee:=aw
    refine es 62 0 (.agg #[bC,bD,bw,bl]) [bC,bD,bw,bl] #[bC,bD,bw,bl] aw hB q143 ⟨a8.one0,a8.one1,a8.one2,a8.one3,trivial⟩ fun f3 aH dy aw hB=>?_
    replace hR:=aH.gr hR cY
    replace hF:=aH.gr hF dj
    replace hG:=aH.gr hG dw
    replace ai:=aH.lc (ai.gr aU) ct
    replace ak:=aH.lc (ak.gr aU) bU
    refine ⟨⟨ai,ak,bL.gr hF,bo.gr hB⟩,?_⟩
    refine zb4 ?_
    refine fV _ _ ?_
    have av:=Gr.drew f3
    replace hB:=hB.trans av
    replace hR:=hR.trans av
    replace hF:=hF.trans av
    replace hG:=hG.trans av
    replace au:=(aH.lc (au.gr (ax.trans (aW.trans (aQ.trans (aS.trans (aP.trans aU)))))) b1).gr av
    replace aw:=aw.gr av
    refine za4 (fun w'=>Lc w' bH #[bn,bA,bt,bu] 62∧Lc w' bE #[bC,bD,bw,bl] 62) [(true,0),(true,1),(true,2),(true,4),(true,5),(false,3),(false,6),(true,7),(false,8),(false,9),(true,10)] (by kernel_rfl) (by kernel_rfl) (by kernel_rfl) (by decide) (fun _ _ _ _ _ h=>h) ⟨au,aw⟩ ?_
    refine ov 126 vq ?_
    refine ow 127 (.agg #[bn,bA,bt,bu]) rfl (fun w' hS=>(rl 62 0 [bn,bA,bt,bu] hS.1)) ?_
    refine ow 128 (.agg #[bC,bD,bw,bl]) rfl (fun w' hS=>(rl 62 0 [bC,bD,bw,bl] hS.2)) ?_
    refine ow 130 (.agg #[bn,bA,bt,bu]) rfl (fun w' hS=>(rl 62 0 [bn,bA,bt,bu] hS.1)) ?_
    refine ow 131 (.agg #[bC,bD,bw,bl]) rfl (fun w' hS=>(rl 62 0 [bC,bD,bw,bl] hS.2)) ?_
    refine oe ?_
    have ez:=a6.kp.trans (eh.trans (ax.kp.trans (aW.kp.trans (aQ.kp.trans (aS.kp.trans (aP.kp.trans (aU.kp.trans (dy.trans av.kp))))))))
    replace a5:=a5.kp ez
    have el:=aU.kp.trans (dy.trans av.kp)
    replace a8:=a8.kp el
    refine ec 129 (min_r a5 a8 (by omega)) ?_
    rintro hp gK ⟨⟨dT,dP,dB,dO,rfl,bJ⟩,aR⟩
    refine ⟨_,rfl,?_⟩
    replace hB:=hB.trans aR
    replace hR:=hR.trans aR
    replace hF:=hF.trans aR
    replace hG:=hG.trans aR
    replace au:=au.gr aR
    replace aw:=aw.gr aR
    refine ⟨⟨au,aw⟩,?_⟩
    simp only [p3,p4]
    refine oe ?_
    replace a5:=a5.kp aR.kp
    replace a8:=a8.kp aR.kp
    refine ec 132 (max_r a5 a8 (by omega)) ?_
    rintro im ib ⟨⟨dS,dY,dR,dK,rfl,bI⟩,aZ⟩
    refine ⟨_,rfl,?_⟩
    replace hB:=hB.trans aZ
    replace hR:=hR.trans aZ
    replace hF:=hF.trans aZ
    replace hG:=hG.trans aZ
    replace au:=au.gr aZ
    replace aw:=aw.gr aZ
    refine ⟨⟨au,aw⟩,?_⟩
    simp only [p3,p4]
    refine ov 133 (.agg #[dT,dP,dB,dO,dS,dY,dR,dK]) ?_
    refine oe ?_
    refine zc5 124 1 #[dT,dP,dB,dO,dS,dY,dR,dK] (some 134) rfl (fun _=>by kernel_rfl) (fun f9 gF aT fI dQ=>?_)
    replace ai:=ai.gr (av.trans (aR.trans aZ))
    replace ah:=(aH.lc (ah.gr (ax.trans (aW.trans (aQ.trans (aS.trans (aP.trans aU)))))) cK).gr (av.trans (aR.trans aZ))
    replace az:=(aH.lc (az.gr (ax.trans (aW.trans (aQ.trans (aS.trans (aP.trans aU)))))) cF).gr (av.trans (aR.trans aZ))
    have eO:=Nat.le_trans (Below.size hR) dQ
    have eW:=Nat.le_trans (Below.size hF) dQ
    have eP:=Nat.le_trans (Below.size hG) dQ
    replace hB:=hB.trans aT
    replace hR:=hR.trans aT
    replace hF:=hF.trans aT
    replace hG:=hG.trans aT
    replace au:=au.gr aT
    replace aw:=aw.gr aT
    refine ⟨⟨au,aw⟩,?_⟩
    simp only [zd1,p3,p4]
    refine oe ?_
    have eL:=aZ.kp.trans aT.kp
    replace bJ:=bJ.kp eL
    replace bI:=bI.kp aT.kp
    replace oq:=(((((((((((((((((((oq.gr (za7 64) bK).kts (za7 64) (a1.kts eg (by decide))).gr (za7 64) aJ).gr (za7 64) bg).gr (za7 64) a4).gr (za7 64) a3).gr (za7 64) a7).gr (za7 64) a6).kts (za7 64) (aN.kts eK (by decide))).gr (za7 64) ax).gr (za7 64) aW).gr (za7 64) aQ).gr (za7 64) aS).gr (za7 64) aP).gr (za7 64) aU).kts (za7 64) (aH.kts ee (by decide))).gr (za7 64) av).gr (za7 64) aR).gr (za7 64) aZ).gr (za7 64) aT
    refine zg8 (za7 64) _ _ 162 124 e8.heap.size (.agg #[.bool false,sN,.bool false,sN,.bool false,sN,.bool false,sN]) vq (tb (fun z2=>(D.sp r i z2)) k2) f9 [dT,dP,dB,dO,dS,dY,dR,dK] ((rmin ((D.fc r i)*((((D.nom i)+(D.lo i k2)):Int):Rat)) ((D.fc r i)*((((D.nom i)+(D.up i k2)):Int):Rat))),(rmax ((D.fc r i)*((((D.nom i)+(D.lo i k2)):Int):Rat)) ((D.fc r i)*((((D.nom i)+(D.up i k2)):Int):Rat)))) 8 1 (some 135) 128 rfl rfl rfl rfl oq fI ⟨bJ.one0,bJ.one1,bJ.one2,bJ.one3,bI.one0,bI.one1,bI.one2,bI.one3,trivial⟩ rfl ⟨_,_,_,_,_,_,_,_,rfl,bJ.resz (sl_sz ok hlr hli ef) (by omega),bI.resz (su_sz ok hlr hli ef) (by omega)⟩ (Below.size hG) (by rw [za8];omega) (by decide) (by kernel_rfl) (by kernel_rfl) (by decide) (by decide) (fun eD hs ck bv bM=>?_)
    replace hB:=bM _ hB lehG
    replace hR:=bM _ hR lehG_hR
    replace hF:=bM _ hF lehG_hF
    replace hG:=bM _ hG (Nat.le_refl _)
    replace ck:=ck.cast (zf4 (f:=(fun z2=>(D.sp r i z2))) (n:=k2) (by first | rfl | exact zf8))
    replace au:=bv.lc au (by decide)
    replace aw:=bv.lc aw (by decide)
    refine ⟨⟨au,aw⟩,?_⟩
    simp only [zd1,p3,p4]
    refine ov 16 eD ?_
    refine zb4 ?_
    refine hV _ _ ?_
    refine rg [0,1] ?_
    refine sw 136 (iT ((k2:Int)+1)) rfl (rwI ((k2:Int)+1)) ?_
    refine sv 92 (iT ((k2:Int)+1)) ?_
    refine za0 ?_
    replace ai:=bv.lc (ai.gr aT) (by decide)
    replace ah:=bv.lc (ah.gr aT) (by decide)
    replace az:=bv.lc (az.gr aT) (by decide)
    refine gH ((D.ol i) - (k2+1)) ⟨List.toArray ?l170,[]⟩ _ (by omega) ?_
    exact ⟨k2+1,eD,(fun i=>List.getD ?l170 i undef),rfl,rfl,(by omega),ck,ai,ah,az,hR,hF,hG,hB⟩
   have ga:(D.ol i)=k2:=by have:=of_decide_eq_false d8;omega
   subst ga
   refine wp_exit ?_
   simp only [Exit.then,Exit.inBlock,↓reduceIte]
   refine g6 _ _ ?_
   refine rg [0,1,2,3,4] (sv 137 vr ?_)
   refine sv 138 vq ?_
   refine se ?_
   refine zC5 161 162 vq (some 139) rfl rfl rfl (oq.sl).forms (fun _ _ _ _=>by kernel_rfl) (fun fp gQ bi fD dV=>?_)
   have eX:=Nat.le_trans (Below.size hR) dV
   have eR:=Nat.le_trans (Below.size hF) dV
   have eS:=Nat.le_trans (Below.size hG) dV
   replace hB:=hB.trans bi
   replace hR:=hR.trans bi
   replace hF:=hF.trans bi
   replace hG:=hG.trans bi
   simp only [zd1,p3,p4]
   refine se ?_
   replace oq:=oq.gr (za7 64) bi
   refine zg8 (za1 (za7 64) 124 8) _ _ 161 162 eC.heap.size (sN) vr (tb (fun z1=>tb (fun z2=>(D.sp r z1 z2)) (D.ol z1)) i) fp [vq] (tb (fun z2=>(D.sp r i z2)) (D.ol i)) 1 1 (some 140) 24 rfl rfl rfl rfl (orr.gr (za1 (za7 64) 124 8) hG) fD ⟨oq.one,trivial⟩ rfl ⟨_,rfl,oq.sl⟩ (Below.size hF) (by rw [za8];omega) (by decide) (by kernel_rfl) (by kernel_rfl) (by decide) (by decide) (fun eJ hK cj cG cO=>?_)
   replace hB:=cO _ hB lehF
   replace hR:=cO _ hR lehF_hR
   replace hF:=cO _ hF (Nat.le_refl _)
   replace cj:=cj.cast (zf4 (f:=(fun z1=>tb (fun z2=>(D.sp r z1 z2)) (D.ol z1))) (n:=i) (by first | rfl | exact zf8))
   simp only [zd1,p3,p4]
   refine sv 13 eJ (za0 (hP _ _ ?_))
   refine rg [0,1] ?_
   refine sw 141 (iT ((i:Int)+1)) rfl (rwI ((i:Int)+1)) ?_
   refine sv 85 (iT ((i:Int)+1)) ?_
   refine za0 ?_
   replace ai:=cG.lc (ai.gr bi) (by decide)
   replace ah:=cG.lc (ah.gr bi) (by decide)
   replace az:=cG.lc (az.gr bi) (by decide)
   refine hj (D.n - (i+1)) ⟨List.toArray ?l173,[]⟩ _ (by omega) ?_
   exact ⟨i+1,eJ,(fun i=>List.getD ?l173 i undef),rfl,rfl,(by omega),cj,ai,ah,az,hR,hF,hB⟩
  have hei:D.n=i:=by have:=of_decide_eq_false dH;omega
  subst hei
  refine wp_exit ?_
  simp only [Exit.then,Exit.inBlock,↓reduceIte]
  refine g8 _ _ ?_
  refine wp_seq_k (fun hu fC=>rg [0,1,2,3,4,5,6,7,8,9,10] (sv 143 (pT bP 1) ?_))
  refine sv 144 (pT bP 2) ?_
  refine sv 145 (pT bP 2) ?_
  refine sw 146 (sV (zd4 (D.cn r))) rfl (rk 33 2 az) ?_
  refine se ?_
  refine ec 147 (zB1 (D.cn r) (ok.cn r hlr).sz64 (by omega) (by omega) (zC3 (ok.cn r hlr)) _ (hm.gr hB)) ?_
  rintro gP hx ⟨⟨aI,aK,aF,aG,rfl,al⟩,bZ⟩
  refine ⟨_,rfl,?_⟩
  replace hB:=hB.trans bZ
  replace hR:=hR.trans bZ
  replace hF:=hF.trans bZ
  replace hG:=hG.trans bZ
  simp only [p3,p4]
  refine sv 142 (.tuple #[.agg #[aI,aK,aF,aG],iT 0]) ?_
  refine sv 148 (.agg #[aI,aK,aF,aG]) ?_
  refine sv 149 (iT 0) ?_
  refine se ?_
  refine ea 62 #[.bool false,sN,.bool false,sN] 21 hB fun f2 ig bf af cU f7 hB=>?_
  replace ai:=ai.gr bZ
  have bq:=ai.ne cU
  replace ah:=ah.gr bZ
  have ap:=ah.ne cU
  have aV:=Nat.le_trans (Below.size hR) cU
  have dt:=Nat.le_trans (Below.size hF) cU
  have c7:=Nat.le_trans (Below.size hG) cU
  replace hR:=hR.trans bf
  replace hF:=hF.trans bf
  replace hG:=hG.trans bf
  simp only [p3,p4]
  refine se ?_
  refine es 62 0 (.agg #[aI,aK,aF,aG]) [aI,aK,aF,aG] #[aI,aK,aF,aG] af hB f7 ⟨al.one0,al.one1,al.one2,al.one3,trivial⟩ fun fo a9 cg af hB=>?_
  replace hR:=a9.gr hR aV
  replace hF:=a9.gr hF dt
  replace hG:=a9.gr hG c7
  refine sv 22 (iT 0) (za0 (fC _ _ ?_))
  have okR:=ok_
  replace os_:=os_.gr (za1 (za1 (za7 64) 124 8) 162 1) hR
  replace ok_:=ok_.gr (za5 64) hR
  replace oc:=oc.gr za2 hR
  have aj:=Gr.drew fo
  replace hB:=hB.trans aj
  replace hR:=hR.trans aj
  replace hF:=hF.trans aj
  replace hG:=hG.trans aj
  replace af:=af.gr aj
  replace ah:=(a9.lc (ah.gr bf) ap).gr aj
  refine zC1 (fun w'=>Lc w' f2 #[aI,aK,aF,aG] 62) [([18,21],(fun w'=>Lc w' aq #[ds,os,rs,vs,vk,vc] 158))] (.two [(true,0),(true,1),(true,2),(true,3),(true,4),(true,5),(true,6),(true,9),(true,10),(true,11),(true,12),(true,13)] 7 14 (.two [] 8 14 (.fin [(false,14),(false,15),(true,16),(true,17),(false,18),(true,19),(true,20),(false,21)]) (.fin [(false,8),(false,15),(true,16),(true,17),(false,18),(true,19),(true,20),(false,21)])) (.fin [(false,7),(false,8),(false,15),(true,16),(true,17),(false,18),(true,19),(true,20),(false,21)])) (by kernel_rfl) (by kernel_rfl) (by kernel_rfl) (by decide) (fun _ _ _ _ _ h=>h) af ⟨fun _=>ah,trivial⟩ ?_
  show zf7 _ _ (yb6 _ _) _ _ _ _ _ _
  refine tv 150 (pT aq 0) ?_
  refine tv 151 (pT aq 0) ?_
  refine tv 152 (pT aq 0) ?_
  refine tv 153 (pT aq 0) ?_
  refine tv 154 (pT aq 3) ?_
  refine tw 155 vs rfl (fun w' hS=>(rk 156 3 (hS.2.1 (by kernel_rfl)))) ?_
  refine tv 156 vr ?_
  refine tv 159 (pT aq 0) ?_
  refine tv 160 (pT aq 0) ?_
  refine tv 161 (pT aq 4) ?_
  refine tw 162 vk rfl (fun w' hS=>(rk 146 4 (hS.2.1 (by kernel_rfl)))) ?_
  refine tw 163 (.agg #[aI,aK,aF,aG]) rfl (fun w' hS=>(rl 62 0 [aI,aK,aF,aG] hS.1)) ?_
  refine zr8 ⟨?_,?_⟩
  ·refine te ?_
   refine zC5 156 161 vr (some 157) rfl rfl rfl ((orr.gr (za1 (za7 64) 124 8) hG).sl).forms (fun _ _ _ _=>by kernel_rfl) (fun et gR ay dh d5=>?_)
   replace ai:=(a9.lc (ai.gr bf) bq).gr aj
   have eQ:=Nat.le_trans (Below.size hR) d5
   have fb:=Nat.le_trans (Below.size hF) d5
   have fd:=Nat.le_trans (Below.size hG) d5
   replace hB:=hB.trans ay
   replace hR:=hR.trans ay
   replace hF:=hF.trans ay
   replace hG:=hG.trans ay
   replace af:=af.gr ay
   replace ah:=ah.gr ay
   refine ⟨af,⟨fun _=>ah,trivial⟩,?_⟩
   simp only [zd1,p3,p4]
   refine zr8 ?_
   show zf7 _ _ (yb6 _ _) _ _ _ _ _ _
   refine zr8 ⟨?_,?_⟩
   ·refine te ?_
    replace os_:=os_.gr (za1 (za1 (za7 64) 124 8) 162 1) (aj.trans ay)
    refine zg8 (za1 (za1 (za7 64) 124 8) 162 1) _ _ 156 161 w.heap.size (sN) vs (tb (fun z0=>tb (fun z1=>tb (fun z2=>(D.sp z0 z1 z2)) (D.ol z1)) D.n) r) et [vr] (tb (fun z1=>tb (fun z2=>(D.sp r z1 z2)) (D.ol z1)) (D.n)) 1 1 (some 158) 24 rfl rfl rfl rfl os_ dh ⟨orr.one,trivial⟩ rfl ⟨_,rfl,(orr.gr (za1 (za7 64) 124 8) hG).sl⟩ (Below.size hB) (by rw [za8];omega) (by decide) (by kernel_rfl) (by kernel_rfl) (by decide) (by decide) (fun b8 hd aM bb ex=>?_)
    replace hB:=ex _ hB (Nat.le_refl _)
    replace aM:=aM.cast (zf4 (f:=(fun z0=>tb (fun z1=>tb (fun z2=>(D.sp z0 z1 z2)) (D.ol z1)) D.n)) (n:=r) (by first | rfl | exact zf8))
    replace af:=bb.lc af (by decide)
    replace ah:=bb.lc ah (by decide)
    refine ⟨af,⟨fun _=>ah,trivial⟩,?_⟩
    simp only [zd1,p3,p4]
    refine zr8 ?_
    show zf7 _ _ _ _ _ _ _ _ _
    refine te ?_
    refine zc5 62 1 #[aI,aK,aF,aG] (some 164) rfl (fun _=>by kernel_rfl) (fun fm gS bs fQ gq=>?_)
    replace ai:=bb.lc (ai.gr ay) (by decide)
    replace hB:=hB.trans bs
    replace af:=af.gr bs
    replace ah:=ah.gr bs
    refine ⟨af,⟨fun _=>ah,trivial⟩,?_⟩
    simp only [zd1,p3,p4]
    refine te ?_
    have eH:=bf.kp.trans (cg.trans (aj.kp.trans (ay.kp.trans ((bb.kp (by decide)).trans bs.kp))))
    replace al:=al.kp eH
    replace ok_:=(((ok_.gr (za5 64) aj).gr (za5 64) ay).kts (za5 64) (bb.kts (by decide))).gr (za5 64) bs
    refine zC0 (za5 64) _ _ 146 62 w.heap.size (.agg #[.bool false,sN,.bool false,sN]) vk (tb (fun z1=>(D.cn z1)) r) fm [aI,aK,aF,aG] (D.cn r) 4 1 (some 165) 64 rfl rfl rfl rfl ok_ fQ ⟨al.one0,al.one1,al.one2,al.one3,trivial⟩ rfl ⟨_,_,_,_,rfl,al.mono (by omega)⟩ (Below.size hB) (by rw [za8];omega) (by decide) (by kernel_rfl) (by kernel_rfl) (by decide) (by decide) (fun db gk aE bO en ek=>?_)
    replace hB:=en _ hB (Nat.le_refl _)
    replace af:=ek _ _ _ (fun g n cap e=>by have h1:=(okR.blk e).2;have h2:=aV;omega) af
    replace aE:=aE.cast (zf4 (f:=(fun z1=>(D.cn z1))) (n:=r) (by first | rfl | exact zf8))
    replace ah:=bO.lc ah (by decide)
    refine ⟨af,⟨fun _=>ah,trivial⟩,?_⟩
    simp only [zd1,p3,p4]
    refine tv 166 (pT aq 0) ?_
    refine tv 167 (pT aq 3) ?_
    refine te ?_
    replace aM:=(aM.gr (za1 (za1 (za7 64) 124 8) 162 1) bs).kts (za1 (za1 (za7 64) 124 8) 162 1) (bO.kts (by decide))
    have cc:=ah
    refine es (hv:=(by obtain ⟨_,_,e,_⟩:=(aM.sl).form;rw [e];rfl)) 156 3 b8 [b8] #[ds,os,rs,b8,vk,vc] ah hB dx ⟨aM.one,trivial⟩ fun iq bm gi ah hB=>?_
    replace af:=bm.lc af (Ne.symm ap)
    refine ⟨af,⟨zh7 (by kernel_rfl),trivial⟩,?_⟩
    refine tv 168 (pT aq 0) ?_
    refine tv 169 (pT aq 4) ?_
    refine te ?_
    replace aE:=aE.kts (za5 64) (bm.kts cc (by decide))
    have b9:=ah
    refine es (hv:=(by obtain ⟨_,_,e,_⟩:=(aE.sl).form;rw [e];rfl)) 146 4 db [db] #[ds,os,rs,b8,db,vc] ah hB dx ⟨aE.one,trivial⟩ fun gu bp gg ah hB=>?_
    replace af:=bp.lc af (Ne.symm ap)
    refine ⟨af,⟨zh7 (by kernel_rfl),trivial⟩,?_⟩
    refine zi0 ?_
    refine fj _ _ ?_
    refine rg [0,1] ?_
    refine sw 170 (iT ((r:Int)+1)) rfl (rwI ((r:Int)+1)) ?_
    refine sv 54 (iT ((r:Int)+1)) ?_
    refine za0 ?_
    replace aM:=(aM.kts (za1 (za1 (za7 64) 124 8) 162 1) (bm.kts cc (by decide))).kts (za1 (za1 (za7 64) 124 8) 162 1) (bp.kts b9 (by decide))
    replace aE:=aE.kts (za5 64) (bp.kts b9 (by decide))
    replace oc:=((((((oc.gr za2 aj).gr za2 ay).kts za2 (bb.kts (by decide))).gr za2 bs).kts za2 (bO.kts (by decide))).kts za2 (bm.kts cc (by decide))).kts za2 (bp.kts b9 (by decide))
    replace ai:=bp.lc (bm.lc (bO.lc (ai.gr bs) (by decide)) ar) ar
    refine fN (D.q - (r+1)) ⟨List.toArray ?l207,[]⟩ _ (by omega) ?_
    exact ⟨r+1,b8,db,(fun i=>List.getD ?l207 i undef),rfl,rfl,(by omega),aM,aE,oc,ai,ah,hB⟩
   refine te ?_
   refine zc5 62 1 #[aI,aK,aF,aG] (some 164) rfl (fun _=>by kernel_rfl) (fun fH h5 aO dI dG=>?_)
   replace ai:=ai.gr ay
   have e4:=Nat.le_trans (Below.size hR) dG
   have eN:=Nat.le_trans (Below.size hF) dG
   have eY:=Nat.le_trans (Below.size hG) dG
   replace hB:=hB.trans aO
   replace hR:=hR.trans aO
   replace hF:=hF.trans aO
   replace hG:=hG.trans aO
   replace af:=af.gr aO
   replace ah:=ah.gr aO
   refine ⟨af,⟨fun _=>ah,trivial⟩,?_⟩
   simp only [zd1,p3,p4]
   refine zr8 ?_
   show zf7 _ _ _ _ _ _ _ _ _
   refine te ?_
   replace dh:=dh.gr aO
   replace os_:=os_.gr (za1 (za1 (za7 64) 124 8) 162 1) (aj.trans (ay.trans aO))
   refine zg8 (za1 (za1 (za7 64) 124 8) 162 1) _ _ 156 161 w.heap.size (sN) vs (tb (fun z0=>tb (fun z1=>tb (fun z2=>(D.sp z0 z1 z2)) (D.ol z1)) D.n) r) et [vr] (tb (fun z1=>tb (fun z2=>(D.sp r z1 z2)) (D.ol z1)) (D.n)) 1 1 (some 158) 24 rfl rfl rfl rfl os_ dh ⟨orr.one,trivial⟩ rfl ⟨_,rfl,(orr.gr (za1 (za7 64) 124 8) hG).sl⟩ (Below.size hB) (by rw [za8];omega) (by decide) (by kernel_rfl) (by kernel_rfl) (by decide) (by decide) (fun cx gp aL aX eM=>?_)
   replace hB:=eM _ hB (Nat.le_refl _)
   replace aL:=aL.cast (zf4 (f:=(fun z0=>tb (fun z1=>tb (fun z2=>(D.sp z0 z1 z2)) (D.ol z1)) D.n)) (n:=r) (by first | rfl | exact zf8))
   replace af:=aX.lc af (by decide)
   replace ah:=aX.lc ah (by decide)
   refine ⟨af,⟨fun _=>ah,trivial⟩,?_⟩
   simp only [zd1,p3,p4]
   refine te ?_
   replace dI:=aX.lc dI (by decide)
   have ep:=bf.kp.trans (cg.trans (aj.kp.trans (ay.kp.trans (aO.kp.trans (aX.kp (by decide))))))
   replace al:=al.kp ep
   replace ok_:=(((ok_.gr (za5 64) aj).gr (za5 64) ay).gr (za5 64) aO).kts (za5 64) (aX.kts (by decide))
   refine zC0 (za5 64) _ _ 146 62 w.heap.size (.agg #[.bool false,sN,.bool false,sN]) vk (tb (fun z1=>(D.cn z1)) r) fH [aI,aK,aF,aG] (D.cn r) 4 1 (some 165) 64 rfl rfl rfl rfl ok_ dI ⟨al.one0,al.one1,al.one2,al.one3,trivial⟩ rfl ⟨_,_,_,_,rfl,al.mono (by omega)⟩ (Below.size hB) (by rw [za8];omega) (by decide) (by kernel_rfl) (by kernel_rfl) (by decide) (by decide) (fun cX g7 aD bR ei eB=>?_)
   replace hB:=ei _ hB (Nat.le_refl _)
   replace af:=eB _ _ _ (fun g n cap e=>by have h1:=(okR.blk e).2;have h2:=aV;omega) af
   replace aD:=aD.cast (zf4 (f:=(fun z1=>(D.cn z1))) (n:=r) (by first | rfl | exact zf8))
   replace ah:=bR.lc ah (by decide)
   refine ⟨af,⟨fun _=>ah,trivial⟩,?_⟩
   simp only [zd1,p3,p4]
   refine tv 166 (pT aq 0) ?_
   refine tv 167 (pT aq 3) ?_
   refine te ?_
   replace aL:=aL.kts (za1 (za1 (za7 64) 124 8) 162 1) (bR.kts (by decide))
   have b7:=ah
   refine es (hv:=(by obtain ⟨_,_,e,_⟩:=(aL.sl).form;rw [e];rfl)) 156 3 cx [cx] #[ds,os,rs,cx,vk,vc] ah hB dx ⟨aL.one,trivial⟩ fun hC bB gc ah hB=>?_
   replace af:=bB.lc af (Ne.symm ap)
   refine ⟨af,⟨zh7 (by kernel_rfl),trivial⟩,?_⟩
   refine tv 168 (pT aq 0) ?_
   refine tv 169 (pT aq 4) ?_
   refine te ?_
   replace aD:=aD.kts (za5 64) (bB.kts b7 (by decide))
   have cb:=ah
   refine es (hv:=(by obtain ⟨_,_,e,_⟩:=(aD.sl).form;rw [e];rfl)) 146 4 cX [cX] #[ds,os,rs,cx,cX,vc] ah hB dx ⟨aD.one,trivial⟩ fun g3 bj gd ah hB=>?_
   replace af:=bj.lc af (Ne.symm ap)
   refine ⟨af,⟨zh7 (by kernel_rfl),trivial⟩,?_⟩
   refine zi0 ?_
   refine fj _ _ ?_
   refine rg [0,1] ?_
   refine sw 170 (iT ((r:Int)+1)) rfl (rwI ((r:Int)+1)) ?_
   refine sv 54 (iT ((r:Int)+1)) ?_
   refine za0 ?_
   replace aL:=(aL.kts (za1 (za1 (za7 64) 124 8) 162 1) (bB.kts b7 (by decide))).kts (za1 (za1 (za7 64) 124 8) 162 1) (bj.kts cb (by decide))
   replace aD:=aD.kts (za5 64) (bj.kts cb (by decide))
   replace oc:=((((((oc.gr za2 aj).gr za2 ay).gr za2 aO).kts za2 (aX.kts (by decide))).kts za2 (bR.kts (by decide))).kts za2 (bB.kts b7 (by decide))).kts za2 (bj.kts cb (by decide))
   replace ai:=bj.lc (bB.lc (bR.lc (aX.lc (ai.gr aO) (by decide)) (by decide)) ar) ar
   refine fN (D.q - (r+1)) ⟨List.toArray ?l219,[]⟩ _ (by omega) ?_
   exact ⟨r+1,cx,cX,(fun i=>List.getD ?l219 i undef),rfl,rfl,(by omega),aL,aD,oc,ai,ah,hB⟩
  refine te ?_
  refine zc5 62 1 #[aI,aK,aF,aG] (some 164) rfl (fun _=>by kernel_rfl) (fun fO g0 a2 d9 dN=>?_)
  replace ai:=(a9.lc (ai.gr bf) bq).gr aj
  have eU:=Nat.le_trans (Below.size hR) dN
  have e9:=Nat.le_trans (Below.size hF) dN
  have e3:=Nat.le_trans (Below.size hG) dN
  replace hB:=hB.trans a2
  replace hR:=hR.trans a2
  replace hF:=hF.trans a2
  replace hG:=hG.trans a2
  replace af:=af.gr a2
  replace ah:=ah.gr a2
  refine ⟨af,⟨fun _=>ah,trivial⟩,?_⟩
  simp only [zd1,p3,p4]
  refine zr8 ?_
  show zf7 _ _ _ _ _ _ _ _ _
  refine te ?_
  refine zC5 156 161 vr (some 157) rfl rfl rfl ((orr.gr (za1 (za7 64) 124 8) hG).sl).forms (fun _ _ _ _=>by kernel_rfl) (fun fk hq aY f1 dE=>?_)
  replace ai:=ai.gr a2
  have e1:=Nat.le_trans (Below.size hR) dE
  have e7:=Nat.le_trans (Below.size hF) dE
  have eT:=Nat.le_trans (Below.size hG) dE
  replace hB:=hB.trans aY
  replace hR:=hR.trans aY
  replace hG:=hG.trans aY
  replace af:=af.gr aY
  replace ah:=ah.gr aY
  refine ⟨af,⟨fun _=>ah,trivial⟩,?_⟩
  simp only [zd1,p3,p4]
  refine te ?_
  replace os_:=os_.gr (za1 (za1 (za7 64) 124 8) 162 1) (aj.trans (a2.trans aY))
  refine zg8 (za1 (za1 (za7 64) 124 8) 162 1) _ _ 156 161 w.heap.size (sN) vs (tb (fun z0=>tb (fun z1=>tb (fun z2=>(D.sp z0 z1 z2)) (D.ol z1)) D.n) r) fk [vr] (tb (fun z1=>tb (fun z2=>(D.sp r z1 z2)) (D.ol z1)) (D.n)) 1 1 (some 158) 24 rfl rfl rfl rfl os_ f1 ⟨orr.one,trivial⟩ rfl ⟨_,rfl,(orr.gr (za1 (za7 64) 124 8) hG).sl⟩ (Below.size hB) (by rw [za8];omega) (by decide) (by kernel_rfl) (by kernel_rfl) (by decide) (by decide) (fun cM hw aC a0 eF=>?_)
  replace hB:=eF _ hB (Nat.le_refl _)
  replace aC:=aC.cast (zf4 (f:=(fun z0=>tb (fun z1=>tb (fun z2=>(D.sp z0 z1 z2)) (D.ol z1)) D.n)) (n:=r) (by first | rfl | exact zf8))
  replace af:=a0.lc af (by decide)
  replace ah:=a0.lc ah (by decide)
  refine ⟨af,⟨fun _=>ah,trivial⟩,?_⟩
  simp only [zd1,p3,p4]
  refine te ?_
  replace d9:=a0.lc (d9.gr aY) (by decide)
  have er:=bf.kp.trans (cg.trans (aj.kp.trans (a2.kp.trans (aY.kp.trans (a0.kp (by decide))))))
  replace al:=al.kp er
  replace ok_:=(((ok_.gr (za5 64) aj).gr (za5 64) a2).gr (za5 64) aY).kts (za5 64) (a0.kts (by decide))
  refine zC0 (za5 64) _ _ 146 62 w.heap.size (.agg #[.bool false,sN,.bool false,sN]) vk (tb (fun z1=>(D.cn z1)) r) fO [aI,aK,aF,aG] (D.cn r) 4 1 (some 165) 64 rfl rfl rfl rfl ok_ d9 ⟨al.one0,al.one1,al.one2,al.one3,trivial⟩ rfl ⟨_,_,_,_,rfl,al.mono (by omega)⟩ (Below.size hB) (by rw [za8];omega) (by decide) (by kernel_rfl) (by kernel_rfl) (by decide) (by decide) (fun dr ii aA bN ey eI=>?_)
  replace hB:=ey _ hB (Nat.le_refl _)
  replace af:=eI _ _ _ (fun g n cap e=>by have h1:=(okR.blk e).2;have h2:=aV;omega) af
  replace aA:=aA.cast (zf4 (f:=(fun z1=>(D.cn z1))) (n:=r) (by first | rfl | exact zf8))
  replace ah:=bN.lc ah (by decide)
  refine ⟨af,⟨fun _=>ah,trivial⟩,?_⟩
  simp only [zd1,p3,p4]
  refine tv 166 (pT aq 0) ?_
  refine tv 167 (pT aq 3) ?_
  refine te ?_
  replace aC:=aC.kts (za1 (za1 (za7 64) 124 8) 162 1) (bN.kts (by decide))
  have cE:=ah
  refine es (hv:=(by obtain ⟨_,_,e,_⟩:=(aC.sl).form;rw [e];rfl)) 156 3 cM [cM] #[ds,os,rs,cM,vk,vc] ah hB dx ⟨aC.one,trivial⟩ fun h9 bk gh ah hB=>?_
  replace af:=bk.lc af (Ne.symm ap)
  refine ⟨af,⟨zh7 (by kernel_rfl),trivial⟩,?_⟩
  refine tv 168 (pT aq 0) ?_
  refine tv 169 (pT aq 4) ?_
  refine te ?_
  replace aA:=aA.kts (za5 64) (bk.kts cE (by decide))
  have cW:=ah
  refine es (hv:=(by obtain ⟨_,_,e,_⟩:=(aA.sl).form;rw [e];rfl)) 146 4 dr [dr] #[ds,os,rs,cM,dr,vc] ah hB dx ⟨aA.one,trivial⟩ fun h3 br ge ah hB=>?_
  replace af:=br.lc af (Ne.symm ap)
  refine ⟨af,⟨zh7 (by kernel_rfl),trivial⟩,?_⟩
  refine zi0 ?_
  refine fj _ _ ?_
  refine rg [0,1] ?_
  refine sw 170 (iT ((r:Int)+1)) rfl (rwI ((r:Int)+1)) ?_
  refine sv 54 (iT ((r:Int)+1)) ?_
  refine za0 ?_
  replace aC:=(aC.kts (za1 (za1 (za7 64) 124 8) 162 1) (bk.kts cE (by decide))).kts (za1 (za1 (za7 64) 124 8) 162 1) (br.kts cW (by decide))
  replace aA:=aA.kts (za5 64) (br.kts cW (by decide))
  replace oc:=((((((oc.gr za2 aj).gr za2 a2).gr za2 aY).kts za2 (a0.kts (by decide))).kts za2 (bN.kts (by decide))).kts za2 (bk.kts cE (by decide))).kts za2 (br.kts cW (by decide))
  replace ai:=br.lc (bk.lc (bN.lc (a0.lc (ai.gr aY) (by decide)) (by decide)) ar) ar
  refine fN (D.q - (r+1)) ⟨List.toArray ?l233,[]⟩ _ (by omega) ?_
  exact ⟨r+1,cM,dr,(fun i=>List.getD ?l233 i undef),rfl,rfl,(by omega),aC,aA,oc,ai,ah,hB⟩
 have her:D.q=r:=by have:=of_decide_eq_false dC;omega
 subst her
 refine wp_exit ?_
 simp only [Exit.then,Exit.inBlock,↓reduceIte]
 refine hr _ _ ?_
 refine wp_seq_k (fun h0 fM=>rg [0,1,2] (sv 171 (pT aq 0) ?_))
 refine sv 2 (pT aq 0) ?_
 refine sv 3 (iT 0) (za0 (fM _ _ ?_))
 refine wp_ret ?_
 refine bodyPost_ret (v:=(.tuple #[pT aq 0,iT 0])) (zg5 rfl rfl rfl) rfl ⟨?_,hB⟩
 exact ⟨_,_,_,_,rfl,ah,dx,⟨hds.gr zb8 hB,hos.gr (za1 za6 68 3) hB,hrs.gr zb9 hB,(os_.gr (za1 (za1 (za7 64) 124 8) 162 1) hR).sl,(ok_.gr (za5 64) hR).sl,(oc.gr za2 hR).sl⟩⟩

end Go.Proofs.YtjhflekncldflaaGreatDoor
namespace Go.Proofs.YtjhflekncldflaaGreatDoor
open Go.RowKit
theorem op_ok {D:Ofr} {ds os rs:Value} (ok:D.Ok) {w:World} (hm:Mx w) (hck:∀ w1,Gr w w1→Calls Tryz.prog 14 #[.agg #[ds,os,rs]] w1 fun e w'=>e=.returned (.int .i64 0)∧Gr w1 w')
  (hds:Sl EDm 71 4 w ds (tb (fun z1=>(D.nom z1)) D.n)) (hos:Sl (ERw EOp 68 3) 72 1 w os (tb (fun z0=>tb (fun z1=>(D.op z0 z1)) (D.ol z0)) D.n)) (hrs:Sl ERq 80 8 w rs (tb (fun z1=>(D.rq z1)) D.q)):zS2 D ds os rs w:=fun w1 g=>
 al_open ok (hm.gr g) (fun w2 g2=>hck w2 (g.trans g2)) (hds.gr zb8 g) (hos.gr (za1 za6 _ _) g) (hrs.gr zb9 g)
theorem zA1 (n:Nat) (h:0<n):((Lib.decDigits n)[0]?==some 48)=false:=by
 induction n using Nat.strongRecOn with
 | _ n ih=>
  by_cases h10:n<10
  ·rw [zd3 h10]
   have:n=1∨n=2∨n=3∨n=4∨n=5∨n=6∨n=7∨n=8∨n=9:=by omega
   rcases this with rfl | rfl | rfl | rfl | rfl | rfl | rfl | rfl | rfl<;>decide
  rw [zg3 (by omega),List.getElem?_append_left (zo2 _)]
  exact ih (n/10) (by omega) (by omega)
theorem yc3 (z:Int):zD2 (Lib.itoa z)=false:=by
 unfold zD2
 rw [zi3]
 by_cases h:z=0
 ·subst h
  have e:Lib.itoa 0=Lib.decDigits 0:=zb6 (by omega)
  rw [e,show Lib.decDigits (Int.natAbs 0)=[48] from zd3 (by decide),show Lib.decDigits 0=[48] from zd3 (by decide)];rfl
 rw [zA1 _ (by omega)];rfl
theorem zl0 (q:Rat) {m:Nat} (h:(zd4 q).length≤m):ck2 (zd4 q) m=0:=by
 have hd:=q.den_pos
 have eden:Lib.itoa (q.den:Int)=Lib.decDigits q.den:=by rw [zb6 (by omega),Int.natAbs_natCast]
 have hh:=zA1 q.den hd
 unfold ck2
 rw [if_neg (by omega),zl8,zv6,zi3,yc3,eden,zp5,zp5,hh,if_neg (by decide),if_neg,if_neg (by decide),if_neg]
 ·rw [← eden,zj7,zj7]
  intro e
  rw [Bool.and_eq_true,decide_eq_true_eq,Bool.or_eq_true] at e
  obtain ⟨h1,h2⟩:=e
  have h3:(zh3 (zd4 q)).2≠none:=(zA3 (zd4 q)).1 (by rw [zl8];exact h1)
  rw [zp6] at h3
  have h4:¬ q.den=1:=fun e=>h3 (by dsimp only;rw [if_pos e])
  rcases h2 with h2 | h2
  ·have e1:Lib.itoa 1=[49]:=(zb6 (by omega)).trans (zd3 (by decide))
   rw [beq_iff_eq,← e1] at h2
   have:=zv1 h2
   omega
  have:Int.gcd q.num (q.den:Int)=1:=by
   have:=q.reduced
   simpa [Int.gcd,Nat.Coprime] using this
  rw [this] at h2;exact absurd h2 (by decide)
 intro e
 unfold zl1 at e
 have hp:=zo2 q.den
 generalize Lib.decDigits q.den=l at*
 cases l with
 | nil=>simp at hp
 | cons c l=>simp at e hh;exact hh e.1
theorem ratL_inj {a b:Rat} (h:zd4 a=zd4 b):a=b:=by
 have h1:=zl8 a
 have h2:=zv6 a
 rw [h,zl8] at h1
 rw [h,zv6] at h2
 have e1:=zv1 h1
 have e2:=zv1 h2
 exact Rat.ext e1.symm (by omega)
theorem valP_q {q:Rat} (h:(zd4 q).length≤400):zg1 (zd4 q)=q:=(ratL_inj (zU0 (zl0 q h))).symm
theorem zG9 {q:Rat} (h:RZ 60 60 q):(zd4 q).length≤400:=by have:=zC3 h;omega
def Ofr.xl_ (D:Ofr) (r:Nat):Exl:=⟨0,zd4 (D.cn r),(D.tms r).length,fun t=>((((D.tms r).getD t (0,0)).1:Nat),zd4 ((D.tms r).getD t (0,0)).2),[],0⟩
def Ofr.off (D:Ofr) (dn rn:Nat→List UInt8):Offg:={n:=D.n,dm:=fun i=>⟨dn i,D.nom i,0,0⟩,m:=D.n,ol:=D.ol,op:=D.op,q:=D.q,rq:=fun r=>⟨rn r,D.xl_ r,fun _=>⟨0,[],0,fun _=>(0,[]),[],0⟩,tO (D.hl r) (D.vl r),tO (D.hh r) (D.vh r)⟩}
structure NmOk (n:Nat) (nm:Nat→List UInt8):Prop where
 is:∀ i,i<n→isNm (nm i)=true
 ne:∀ j i,j<i→i<n→nm j≠nm i
theorem NmOk.dup {n:Nat} {nm:Nat→List UInt8} (h:NmOk n nm) {i:Nat} (hi:i<n):zg4 nm i (nm i)=false:=by
 unfold zg4
 rw [List.any_eq_false]
 intro j hj
 have:=h.ne j i (List.mem_range.1 hj) hi
 simpa using this
section
variable {D:Ofr} {dn rn:Nat→List UInt8}
theorem zy4 {z:Int} (h:-1073741824≤z∧z≤1073741824):zg2 z=false:=by unfold zg2;simp;omega
theorem tms_inc {r t:Nat} (h:t<(D.tms r).length) (h0:0<t):((D.tms r).getD (t - 1) (0,0)).1<((D.tms r).getD t (0,0)).1:=by
 have hp:(D.tms r).Pairwise (fun a b=>a.1<b.1):=by
  unfold Ofr.tms Ofr.nzd
  rw [List.pairwise_map]
  exact List.pairwise_lt_range.filter _
 have:=(List.pairwise_iff_getElem.1 hp) (t - 1) t (by omega) h (by omega)
 rwa [List.getD_eq_getElem?_getD,List.getD_eq_getElem?_getD,List.getElem?_eq_getElem h,List.getElem?_eq_getElem (show t - 1<_ by omega)]
theorem tms_nz {r t:Nat} (h:t<(D.tms r).length):((D.tms r).getD t (0,0)).2≠0:=by
 have hm:=zB9 h
 unfold Ofr.tms Ofr.nzd at hm
 obtain ⟨i,hi,e⟩:=List.mem_map.1 hm
 unfold Ofr.tms Ofr.nzd
 rw [← e]
 simpa using (List.mem_filter.1 hi).2
theorem nde_form (ok:D.Ok) {r:Nat} (hr:r<D.q):nde D.n (D.xl_ r)=0:=by
 have hodd:(D.xl_ r).odd=false:=zo5 (.inl rfl) (.inr rfl)
 rw [zi5 hodd,if_pos (show (D.xl_ r).op=0 from rfl),if_neg (show ¬ 0<(D.xl_ r).na from Nat.lt_irrefl 0)]
 unfold zH8
 have hc:ck2 (D.xl_ r).c 400=0:=zl0 _ (zG9 (ok.cn r hr))
 have hl:=zY7 (D:=D) (r:=r)
 have:=ok.n2
 rw [if_neg (fun e=>e hc),if_neg (by show ¬ 64<(D.tms r).length;omega)]
 refine zm1.2 fun t ht=>?_
 have ht:t<(D.tms r).length:=ht
 have h1:=zY6 ht
 have h2:=zG9 (zY8 ok hr ht)
 have hz:sgn (zg1 (zd4 ((D.tms r).getD t (0,0)).2)).num≠0:=by
  rw [valP_q h2]
  exact fun e=>tms_nz ht (Rat.num_eq_zero.1 (zf2.1 e))
 exact zU9 (show ¬ ((((D.tms r).getD t (0,0)).1:Nat):Int)<0 by omega) (show ¬ (D.n:Int)≤((((D.tms r).getD t (0,0)).1:Nat):Int) by omega)
  (fun e=>by have:=tms_inc ht e.1;have e2:((((D.tms r).getD t (0,0)).1:Nat):Int)≤((((D.tms r).getD (t - 1) (0,0)).1:Nat):Int):=e.2;omega) (zl0 _ h2) hz
theorem yc4 (h:∀ i,i<D.n→0<D.ol i):∀ {j k:Nat},j≤k→k≤D.n→D.pr j≤D.pr k
  | j, 0, h1, _ => by obtain rfl : j = 0 := by omega
                      exact Nat.le_refl _
  | j,k+1,h1,h2=>by
    rcases Nat.lt_or_eq_of_le h1 with h3 | rfl
    · refine Nat.le_trans (yc4 h (by omega:j≤k) (by omega)) ?_
      have:=h k (by omega)
      exact Nat.le_mul_of_pos_right _ this
    exact Nat.le_refl _
theorem chn_pr (ok:D.Ok):∀ k,k≤D.n→chn D.ol k=D.pr k
 | 0,_=>rfl
 | k+1,h=>by
  unfold chn Ofr.pr
  rw [chn_pr ok k (by omega)]
  have h1:D.pr (k+1)≤4096:=Nat.le_trans (yc4 ok.o1 h (Nat.le_refl _)) ok.few
  have h2:D.pr (k+1)=D.pr k*D.ol k:=rfl
  rw [if_neg (by omega)]
theorem rz_ck {b:Bool} {q:Rat} (h:RZ 60 60 q) (hn:tO b q≠[]):ck2 (tO b q) 400=0∧zg1 (tO b q)=q∧b=true:=by
 cases b with
 | false=>exact absurd rfl hn
 | true=>exact ⟨zl0 _ (zG9 h),valP_q (zG9 h),rfl⟩
theorem off_chk (ok:D.Ok) (hd:NmOk D.n dn) (hr:NmOk D.q rn) (hv:∀ r,r<D.q→D.hl r=true→D.hh r=true→D.vl r≤D.vh r):(D.off dn rn).chk=0:=by
 have n1:=ok.n1
 have n2:=ok.n2
 have q2:=ok.q2
 have e1:dck (D.off dn rn).dm (D.off dn rn).n=0:=by
  unfold dck
  rw [if_neg (show ¬ 64<(D.off dn rn).n from by show ¬ 64<D.n;omega)]
  refine zm1.2 fun i hi=>?_
  have hi:i<D.n:=hi
  have:=ok.nom i hi
  exact dke_0 (hd.is i hi) (zy4 (by show -1073741824≤D.nom i∧D.nom i≤1073741824;omega)) (zy4 (by show -1073741824≤(0:Int)∧(0:Int)≤1073741824;omega)) (zy4 (by show -1073741824≤(0:Int)∧(0:Int)≤1073741824;omega)) (show ¬ (0:Int)<0 by omega) (hd.dup hi)
 have e2:tol (D.off dn rn).dm (D.off dn rn).n=false:=by
  unfold tol
  rw [List.any_eq_false]
  intro i _ h
  revert h;show ¬ ((0:Int) !=0||(0:Int) !=0)=true;decide
 have e3:fe (fun i=>opl ((D.off dn rn).op i) ((D.off dn rn).ol i)) (D.off dn rn).m=0:=zm1.2 fun i hi=>by
  have hi:i<D.n:=hi
  have o1:=ok.o1 i hi
  have o2:=ok.o2 i hi
  show opl (D.op i) (D.ol i)=0
  unfold opl
  rw [if_neg (by omega),if_neg (by omega)]
  refine zm1.2 fun k hk=>?_
  have h1:=ok.lo i k hi hk
  have h2:=ok.co i k hi hk
  exact ope_0 (zy4 (by show -1073741824≤D.lo i k∧D.lo i k≤1073741824;omega)) (zy4 (by show -1073741824≤D.up i k∧D.up i k≤1073741824;omega)) (show ¬ D.co i k<0 by omega) (show ¬ 1048576<D.co i k by omega) (show ¬ D.up i k<D.lo i k by omega)
 have e4:chn (D.off dn rn).ol (D.off dn rn).m≤4096:=by
  show chn D.ol D.n≤4096
  rw [chn_pr ok D.n (Nat.le_refl _)];exact ok.few
 rw [ck_r (show ¬ (D.n:Int)=0 by omega) (show ¬ (12:Int)<(D.n:Int) by omega) e1 e2 rfl e3 (by omega) (show ¬ (16:Int)<(D.q:Int) by omega)]
 refine zm1.2 fun r aa=>?_
 have aa:r<D.q:=aa
 rw [rqe_eq]
 have hx:exe D.n (D.xl_ r) (fun _=>⟨0,[],0,fun _=>(0,[]),[],0⟩)=0:=by
  unfold exe
  rw [if_neg (fun e=>e (nde_form ok aa))];rfl
 have ac:tO (D.hl r) (D.vl r)=[]∨ck2 (tO (D.hl r) (D.vl r)) 400=0:=Classical.or_iff_not_imp_left.2 fun h=>(rz_ck (ok.vl r aa) h).1
 have ad:tO (D.hh r) (D.vh r)=[]∨ck2 (tO (D.hh r) (D.vh r)) 400=0:=Classical.or_iff_not_imp_left.2 fun h=>(rz_ck (ok.vh r aa) h).1
 refine (rq_0 (N:=D.n) (r:=(D.off dn rn).rq r) (hr.is r aa) (hr.dup aa) hx rfl ac ad ?_).symm
 by_cases h1:tO (D.hl r) (D.vl r)=[]
 ·exact .inl h1
 by_cases h2:tO (D.hh r) (D.vh r)=[]
 ·exact .inr (.inl h2)
 refine .inr (.inr ?_)
 obtain ⟨_,v1,b1⟩:=rz_ck (ok.vl r aa) h1
 obtain ⟨_,v2,b2⟩:=rz_ck (ok.vh r aa) h2
 show ¬ zg1 (tO (D.hh r) (D.vh r))<zg1 (tO (D.hl r) (D.vl r))
 rw [v1,v2]
 have:=hv r aa b1 b2
 exact Rat.not_lt.2 this
end
def ERn (w:World) (x:List UInt8 × Rq) (vs:List Value):Prop:=∃ u:Value,vs=[ze3 x.1,.int .i64 0,ze3 (zd4 x.2.c),u,ze3 [],.slice none 0 0,ze3 (tO x.2.hl x.2.vl),ze3 (tO x.2.hh x.2.vh)]∧Sl ETm 110 2 w u x.2.ts
theorem stab_rn:zn8 ERn [110]:=fun w w' x vs hk h=>by
 obtain ⟨u,e,hs⟩:=h
 exact ⟨u,e,hs.kts zY0 hk⟩
theorem Sl.tbm {α β:Type} {E:World→α→List Value→Prop} {F:World→β→List Value→Prop} {T c:Nat} {w:World} {v:Value} {f:Nat→α} {g:Nat→β} {n:Nat} (h:Sl E T c w v (tb f n)) (hg:∀ i,i<n→∀ vs,E w (f i) vs→F w (g i) vs):Sl F T c w v (tb g n):=by
 obtain ⟨ys,h1,h2⟩:=h
 refine ⟨ys,by rw [za8] at h1 ⊢;exact h1,by rw [h2.1,za8,za8],fun i x hx=>?_⟩
 have hi:i<n:=by have:=(List.getElem?_eq_some_iff.1 hx).1;rwa [za8] at this
 rw [zc3 hi] at hx
 obtain rfl:=Option.some.inj hx
 exact hg i hi _ (h2.2 i _ (zc3 hi))
structure OfM (w:World) (D:Ofr) (dn rn:Nat→List UInt8) (ds os rs:Value):Prop where
 ds:Sl EDg 71 4 w ds (tb (fun z1=>(⟨dn z1,D.nom z1,0,0⟩:Dmn)) D.n)
 os:Sl (ERw EOp 68 3) 72 1 w os (tb (fun z0=>tb (fun z1=>(D.op z0 z1)) (D.ol z0)) D.n)
 rs:Sl ERn 80 8 w rs (tb (fun z1=>(rn z1,D.rq z1)) D.q)
section
variable {w w':World} {D:Ofr} {dn rn:Nat→List UInt8} {ds os rs:Value}
theorem OfM.gr (h:OfM w D dn rn ds os rs) (g:Gr w w'):OfM w' D dn rn ds os rs:=⟨h.ds.gr zc7 g,h.os.gr (za1 za6 _ _) g,h.rs.gr stab_rn g⟩
theorem OfM.dm (h:OfM w D dn rn ds os rs):Sl EDm 71 4 w ds (tb (fun z1=>(D.nom z1)) D.n):=h.ds.tbm fun i _ _ e=>⟨dn i,e⟩
theorem OfM.rq (h:OfM w D dn rn ds os rs):Sl ERq 80 8 w rs (tb (fun z1=>(D.rq z1)) D.q):=h.rs.tbm fun i _ _ ⟨u,e,hs⟩=>⟨rn i,u,e,hs⟩
structure OfOk (D:Ofr) (dn rn:Nat→List UInt8):Prop where
 ok:D.Ok
 dn:NmOk D.n dn
 rn:NmOk D.q rn
 hv:∀ r,r<D.q→D.hl r=true→D.hh r=true→D.vl r≤D.vh r
theorem tO_len {b:Bool} {q:Rat} (h:RZ 60 60 q):(tO b q).length≤14000:=by
 cases b with
 | false=>exact Nat.zero_le _
 | true=>have:=zG9 h;exact Nat.le_trans this (by decide)
theorem OfM.check (h:OfM w D dn rn ds os rs) (ok:OfOk D dn rn) (hm:Mx w):Calls Tryz.prog 14 #[.agg #[ds,os,rs]] w fun e w'=>e=.returned (.int .i64 0)∧Gr w w':=by
 have hn:=ok.ok.n2
 have h1:Sl (ESl EOp 3) 72 1 w os (tb (fun z0=>tb (fun z1=>((D.off dn rn).op z0 z1)) ((D.off dn rn).ol z0)) (D.off dn rn).m):=h.os.mono fun x vs ⟨u,e,hs⟩=>⟨u,_,e,hs⟩
 have h2:Sl ERg 80 8 w rs (tb (fun z1=>((D.off dn rn).rq z1)) (D.off dn rn).q):=h.rs.tbm fun r hr vs ⟨u,e,hs⟩=>by
  have aa:Sl ETm 110 2 w u (tb (fun t=>(D.tms r).getD t (0,0)) (D.tms r).length):=by rw [list_tb];exact hs
  exact ⟨u,_,_,0,e,aa.tbm fun t _ vs e=>e,Sl.nil _ _ _ _ none 0⟩
 have:=zM7 (D:=D.off dn rn) (fun r hr=>tO_len (ok.ok.vl r hr)) (fun r hr=>tO_len (ok.ok.vh r hr)) hm h.ds h1 h2 (fun r hr u T v S hu hv w1 g=>by
  obtain ⟨ao,cap,rfl,_⟩:=hv.form
  have h3:=zF1 (N:=D.n) (by omega) (x:=D.xl_ r) rfl (ao:=ao) (cap:=cap) (hm.gr g) (hu.gr zv8 g)
  rw [za8]
  refine h3.mono fun e w' he=>⟨he.1.trans (congrArg (fun z=>Ending.returned (.int .i64 z)) ?_),he.2⟩
  show _=exe D.n (D.xl_ r) _
  unfold exe
  by_cases hz:nde D.n (D.xl_ r)=0
  ·rw [if_neg (fun e=>e hz),hz];rfl
  rw [if_pos hz])
 rw [off_chk ok.ok ok.dn ok.rn ok.hv] at this
 exact this
theorem OfM.op (h:OfM w D dn rn ds os rs) (ok:OfOk D dn rn) (hm:Mx w):zS2 D ds os rs w:=
 op_ok ok.ok hm (fun _ g=>(h.gr g).check ok (hm.gr g)) h.dm h.os h.rq
end
def Off (w:World) (D:Ofr) (ds os rs:Value):Prop:=∃ dn rn,OfM w D dn rn ds os rs∧OfOk D dn rn
section
variable {D:Ofr} {c:List Int}
def bndA (D:Ofr) (c:List Int):Int:=if D.pe c=0 then D.bd (ze7 c) else 0
def fz1 (D:Ofr) (c:List Int):Int:=if 0>(fz D (ze7 c)).1 then 0 else (fz D (ze7 c)).1
def flA (D:Ofr) (c:List Int):Int:=if D.pe c=0 then fz1 D c else 0
def flB (D:Ofr) (c:List Int):Int:=if D.pe c=0 then (fz D (ze7 c)).2 else 0
def flC (D:Ofr) (c:List Int):Bool:=if D.pe c=0 then (fz D (ze7 c)).2 !=(0:Int) else false
def wsI (D:Ofr) (c:List Int) (z:Int):Prop:=D.ce c=0∧0≤z∧z<(D.q:Int)
instance (D:Ofr) (c:List Int) (z:Int):Decidable (wsI D c z):=inferInstanceAs (Decidable (_∧_))
def wsA (D:Ofr) (c:List Int) (z:Int):List UInt8:=if wsI D c z then zd4 (D.wl (ze7 c) z.toNat) else []
def wsB (D:Ofr) (c:List Int) (z:Int):List UInt8:=if wsI D c z then zd4 (D.wu (ze7 c) z.toNat) else []
def wsE (D:Ofr) (c:List Int) (z:Int):Int:=if D.ce c≠0 then D.ce c else if 0≤z∧z<(D.q:Int) then 0 else 2
end
section
variable {w w':World} {D:Ofr} {ds os rs vc:Value} {c:List Int} {TT:Nat}
theorem Off.gr (h:Off w D ds os rs) (g:Gr w w'):Off w' D ds os rs:=let ⟨dn,rn,h1,h2⟩:=h;⟨dn,rn,h1.gr g,h2⟩
theorem Off.ok (h:Off w D ds os rs):D.Ok:=let ⟨_,_,_,h2⟩:=h;h2.ok
theorem Off.dm (h:Off w D ds os rs):Sl EDm 71 4 w ds (tb (fun z1=>(D.nom z1)) D.n):=let ⟨_,_,h1,_⟩:=h;h1.dm
theorem Off.op (h:Off w D ds os rs):Sl (ERw EOp 68 3) 72 1 w os (tb (fun z0=>tb (fun z1=>(D.op z0 z1)) (D.ol z0)) D.n):=let ⟨_,_,h1,_⟩:=h;h1.os
theorem Off.rq (h:Off w D ds os rs):Sl ERq 80 8 w rs (tb (fun z1=>(D.rq z1)) D.q):=let ⟨_,_,h1,_⟩:=h;h1.rq
theorem Off.one0 (h:Off w D ds os rs):ds.oneCell'=true:=h.dm.one
theorem Off.one1 (h:Off w D ds os rs):os.oneCell'=true:=h.op.one
theorem Off.one2 (h:Off w D ds os rs):rs.oneCell'=true:=h.rq.one
theorem Off.opn (h:Off w D ds os rs) (hm:Mx w):zS2 D ds os rs w:=let ⟨_,_,h1,h2⟩:=h;h1.op h2 hm
theorem zA2 (h:Off w D ds os rs) (hm:Mx w) (ht:Tab w):Calls Tryz.prog 20 #[.agg #[ds,os,rs]] w fun e w'=>(∃ vc vp,e=.returned (.tuple #[.agg #[.bool D.best.ok,vc,.int .i64 D.best.co,vp],.int .i64 0])∧Sl EI64 3 1 w' vc (zs6 D.best.ch)∧Sl ELf 108 4 w' vp (D.leaves D.best (D.n+1) []))∧Gr w w':=
 zI3 h.ok hm ht h.one0 h.one1 h.one2 (h.opn hm)
theorem v_verify (h:Off w D ds os rs) (hm:Mx w) {b:Bool} {c:List Int} {co:Int} {pf:List Leaf} {vc vp:Value} (hc:Sl EI64 3 1 w vc c) (hp:Sl ELf 108 4 w vp pf):
  Calls Tryz.prog 21 #[.agg #[ds,os,rs],.agg #[.bool b,vc,.int .i64 co,vp]] w fun e w'=>e=.returned (.int .i64 (D.ver ⟨b,c,co,pf⟩))∧Gr w w':=
 zU8 h.ok hm h.one0 h.one1 h.one2 (h.opn hm) hc hp
theorem v_bound (h:Off w D ds os rs) (hm:Mx w) (hc:Sl EI64 TT 1 w vc c):Calls Tryz.prog 18 #[.agg #[ds,os,rs],vc] w fun e w'=>e=.returned (.tuple #[.int .i64 (bndA D c),.int .i64 (D.pe c)])∧Gr w w':=
 (al_bound h.ok hm h.one0 h.one1 h.one2 (h.opn hm) (hc.cast (list_tb (d:=0)).symm)).mono fun e w' he=>⟨he.1.trans (by unfold bndA;split<;>simp_all),he.2⟩
theorem v_fails (h:Off w D ds os rs) (hm:Mx w) (hc:Sl EI64 TT 1 w vc c):Calls Tryz.prog 19 #[.agg #[ds,os,rs],vc] w fun e w'=>e=.returned (.tuple #[.int .i64 (flA D c),.int .i64 (flB D c),.bool (flC D c),.int .i64 (D.pe c)])∧Gr w w':=
 (al_fails h.ok hm h.one0 h.one1 h.one2 (h.opn hm) (hc.cast (list_tb (d:=0)).symm)).mono fun e w' he=>⟨he.1.trans (by unfold flA flB flC fz1;by_cases h0:D.pe c=0<;>simp [h0]),he.2⟩
theorem v_worst (h:Off w D ds os rs) (hm:Mx w) (ht:Tab w) (hc:Sl EI64 TT 1 w vc c) (z:Int):Calls Tryz.prog 16 #[.agg #[ds,os,rs],vc,.int .i64 z] w fun e w'=>e=.returned (.tuple #[.string ⟨(wsA D c z).toArray⟩,.string ⟨(wsB D c z).toArray⟩,.int .i64 (wsE D c z)])∧Gr w w':=by
 have aa:=hc.cast (list_tb (d:=0)).symm
 by_cases h0:D.ce c=0
 ·by_cases h1:0≤z∧z<(D.q:Int)
  ·have hi:wsI D c z:=⟨h0,h1⟩
   have:=zI4 (r:=z.toNat) h.ok hm h.one0 h.one1 h.one2 (h.opn hm) ht (by omega) aa h0
   rw [show ((z.toNat:Nat):Int)=z by omega] at this
   refine this.mono fun e w' he=>⟨he.1.trans ?_,he.2⟩
   unfold wsA wsB wsE
   rw [if_pos hi,if_pos hi,if_neg (fun e=>e h0),if_pos h1]
  have hi:¬ wsI D c z:=fun e=>h1 e.2
  have e:wsA D c z=[]∧wsB D c z=[]∧wsE D c z=2:=by
   unfold wsA wsB wsE
   rw [if_neg hi,if_neg hi,if_neg (fun e=>e h0),if_neg h1]
   exact ⟨rfl,rfl,rfl⟩
  rw [e.1,e.2.1,e.2.2]
  rcases Int.lt_or_le z 0 with h2 | h2
  ·exact zI5 h.ok hm h.one0 h.one1 h.one2 (h.opn hm) h.rq aa h0 z h2
  exact zI6 h.ok hm h.one0 h.one1 h.one2 (h.opn hm) h.rq aa h0 z (by omega)
 have hi:¬ wsI D c z:=fun e=>h0 e.1
 have e:wsA D c z=[]∧wsB D c z=[]∧wsE D c z=D.ce c:=by
  unfold wsA wsB wsE
  rw [if_neg hi,if_neg hi,if_pos h0]
  exact ⟨rfl,rfl,rfl⟩
 rw [e.1,e.2.1,e.2.2]
 exact zQ3 h.ok hm h.one0 h.one1 h.one2 (h.opn hm) aa h0 z
theorem Els.one {α:Type} {E:World→α→List Value→Prop} {c:Nat} {w:World} {x:α} {vs:List Value} (hl:vs.length=c) (h:E w x vs):Els E c w vs [x]:=by
 have:=(Els.nil E c w).snoc hl h
 simpa using this
theorem Els.two {α:Type} {E:World→α→List Value→Prop} {c:Nat} {w:World} {x y:α} {vs us:List Value} (hl:vs.length=c) (h:E w x vs) (hl2:us.length=c) (h2:E w y us):Els E c w (vs++us) [x,y]:=by
 have:=(Els.one hl h).snoc hl2 h2
 simpa using this
theorem Els.three {α:Type} {E:World→α→List Value→Prop} {c:Nat} {w:World} {x y z:α} {vs us ts:List Value} (hl:vs.length=c) (h:E w x vs) (hl2:us.length=c) (h2:E w y us) (hl3:ts.length=c) (h3:E w z ts):Els E c w (vs++us++ts) [x,y,z]:=by
 have:=(Els.two hl h hl2 h2).snoc hl3 h3
 simpa using this
theorem zr3 {α:Type} {E:World→α→List Value→Prop} {T c b n:Nat} {w:World} {cs:Array Value} {xs:List α} (hL:Lc w b cs T) (he:Els E c w cs.toList xs) (hn:xs.length=n):Sl E T c w (.slice (some ⟨b,0,none⟩) n n) xs:=
 Mk.sl_n ⟨cs.toList,by simpa using hL,he⟩ hn (Nat.le_refl _)
end
end Go.Proofs.YtjhflekncldflaaGreatDoor
namespace Go.Proofs.YtjhflekncldflaaGreatDoor
set_option maxRecDepth 100000
set_option maxHeartbeats 4000000
open Go.RowKit

def exD (a b:Rat):Ofr where
 n:=2
 q:=1
 nom:=fun _=>10
 ol:=fun _=>2
 lo:=fun i k=>if k=0 then (if i=0 then -2 else -3) else -1
 up:=fun i k=>if k=0 then (if i=0 then 2 else 3) else 1
 co:=fun i k=>if k=0 then 1 else (if i=0 then 4 else 2)
 fc:=fun _ _=>1
 cn:=fun _=>0
 hl:=fun _=>true
 hh:=fun _=>true
 vl:=fun _=>a
 vh:=fun _=>b
def dnE (i:Nat):List UInt8:=if i=0 then [97] else [98]
def rnE (_:Nat):List UInt8:=[114]
theorem ex_ok {a b:Rat} (ha:RZ 60 60 a) (hb:RZ 60 60 b) (hab:a≤b):OfOk (exD a b) dnE rnE where
 ok:={
  n1:=(show 0<2 by decide)
  n2:=(show 2≤12 by decide)
  o1:=fun i _=>(show 0<2 by decide)
  o2:=fun i _=>(show 2≤8 by decide)
  q2:=by show 1≤16;decide
  few:=by show 1*2*2≤4096;decide
  nom:=fun i _=>by show -1048576≤(10:Int)∧(10:Int)≤1048576;decide
  lo:=fun i k _ _=>by unfold exD;dsimp only;(repeat' split)<;>decide
  co:=fun i k _ _=>by unfold exD;dsimp only;(repeat' split)<;>decide
  fc:=fun r i _ _=>by show RZ 30 30 1;exact ⟨by unfold Sz;decide+kernel,by unfold Sz;decide+kernel⟩
  cn:=fun r _=>by show RZ 60 60 0;exact ⟨by unfold Sz;decide+kernel,by unfold Sz;decide+kernel⟩
  vl:=fun r _=>ha
  vh:=fun r _=>hb}
 dn:=⟨fun i _=>by unfold dnE;split<;>kernel_rfl,fun j i h1 h2=>by
  have h2:i<2:=h2
  obtain rfl:j=0:=by omega
  obtain rfl:i=1:=by omega
  decide⟩
 rn:=⟨fun i _=>by kernel_rfl,fun j i h1 h2=>by have h2:i<1:=h2;omega⟩
 hv:=fun _ _ _ _=>hab
theorem ex_of_m {a b:Rat} {X Y:List UInt8} (hX:X=zd4 a) (hY:Y=zd4 b) {w:World} {b1 b2 b3 b4 b5 b6:Nat} (L1:Lc w b1 #[ze3 [97],iT 10,iT 0,iT 0,ze3 [98],iT 10,iT 0,iT 0] 71)
  (L2:Lc w b2 #[iT (-2),iT 2,iT 1,iT (-1),iT 1,iT 4] 68) (L3:Lc w b3 #[iT (-3),iT 3,iT 1,iT (-1),iT 1,iT 2] 68)
  (L4:Lc w b4 #[sT b2 2 2,sT b3 2 2] 72) (L5:Lc w b5 #[iT 0,ze3 [49],iT 1,ze3 [49]] 110)
  (L6:Lc w b6 #[ze3 [114],iT 0,ze3 [48],sT b5 2 2,ze3 [],sN,ze3 X,ze3 Y] 80):
  OfM w (exD a b) dnE rnE (sT b1 2 2) (sT b4 2 2) (sT b6 1 1):=by
 subst hX hY
 have e1:zd4 1=[49]:=by kernel_rfl
 have e0:zd4 0=[48]:=by kernel_rfl
 have et:(exD a b).tms 0=[(0,1),(1,1)]:=by kernel_rfl
 refine ⟨?_,?_,?_⟩
 ·exact (zr3 (E:=EDg) (c:=4) (xs:=[⟨[97],10,0,0⟩,⟨[98],10,0,0⟩]) L1 (Els.two (vs:=[_,_,_,_]) (us:=[_,_,_,_]) rfl rfl rfl rfl) rfl).cast rfl
 ·have s2:=zr3 (E:=EOp) (c:=3) (xs:=[(-2,2,1),(-1,1,4)]) L2 (Els.two (vs:=[_,_,_]) (us:=[_,_,_]) rfl rfl rfl rfl) rfl
  have s3:=zr3 (E:=EOp) (c:=3) (xs:=[(-3,3,1),(-1,1,2)]) L3 (Els.two (vs:=[_,_,_]) (us:=[_,_,_]) rfl rfl rfl rfl) rfl
  exact (zr3 (E:=ERw EOp 68 3) (c:=1) L4 (Els.two (vs:=[_]) (us:=[_]) rfl ⟨_,rfl,s2⟩ rfl ⟨_,rfl,s3⟩) rfl).cast rfl
 have s5:=zr3 (E:=ETm) (c:=2) (xs:=[(0,1),(1,1)]) L5 (Els.two (vs:=[_,_]) (us:=[_,_]) rfl (by show _=[_,ze3 (zd4 1)];rw [e1];rfl) rfl (by show _=[_,ze3 (zd4 1)];rw [e1];rfl)) rfl
 have hE:ERn w ([114],(exD a b).rq 0) [ze3 [114],iT 0,ze3 [48],sT b5 2 2,ze3 [],sN,ze3 (zd4 a),ze3 (zd4 b)]:=by
  refine ⟨sT b5 2 2,?_,?_⟩
  ·show _=[ze3 [114],iT 0,ze3 (zd4 0),_,ze3 [],sN,ze3 (zd4 a),ze3 (zd4 b)]
   rw [e0]
  show Sl ETm _ _ _ _ ((exD a b).tms 0)
  rw [et];exact s5
 exact (zr3 (E:=ERn) (c:=8) (xs:=[([114],(exD a b).rq 0)]) L6 (Els.one rfl hE) rfl).cast rfl
theorem ex_of {a b:Rat} {X Y:List UInt8} (hX:X=zd4 a) (hY:Y=zd4 b) (w:World):
    Calls Tryz.prog 38 #[sV X,sV Y] w fun e w'=>(∃ ds os rs,e=.returned (.agg #[ds,os,rs])∧OfM w' (exD a b) dnE rnE ds os rs)∧Gr w w':=by
 go_enter Tryz.func38,Tryz.ntmps38
 have hB:=Gr.refl w
 refine wp_seq_k (fun a5 aW=>rg [0] ?_)
 refine se ?_
 refine ea 26 #[sN,sN,sN] 4 hB fun bf bi a6 aa ba aS hB=>?_
 simp only [p3,p4]
 refine za0 (aW _ _ ?_)
 refine wp_seq_k (fun a2 aN=>rg [0,1,2,3,4,5] (sv 6 (.agg #[iT 0,sV [49]]) ?_))
 refine sv 7 (.agg #[iT 1,sV [49]]) ?_
 refine se ?_
 refine zc5 110 2 #[iT 0,sV [49],iT 1,sV [49]] (some 8) rfl (fun _=>by kernel_rfl) (fun al a7 aI ac aV=>?_)
 have ap:=aa.ne aV
 replace hB:=hB.trans aI
 simp only [zd1,p3,p4]
 refine sv 9 (.agg #[sV [48],sT al 2 2]) ?_
 refine se ?_
 refine ea 75 #[sV [],sN] 5 hB fun bj a3 aJ ae aK aT hB=>?_
 replace aa:=aa.gr aI
 have af:=aa.ne aK
 have ak:=ac.ne aK
 simp only [p3,p4]
 refine se ?_
 refine es 75 0 (.agg #[sV [48],sT al 2 2]) [sV [48],sT al 2 2] #[sV [48],sT al 2 2] ae hB aT ⟨rfl,rfl,trivial⟩ fun a4 aD aZ ae hB=>?_
 refine za0 (aN _ _ ?_)
 refine wp_seq_k (fun bg aP=>rg [0,1,2,3,4,5,6,7,8,9,10,11,12,13,14,15,16,17] (sv 10 (.agg #[sV [97],iT 10,iT 0,iT 0]) ?_))
 refine sv 11 (.agg #[sV [98],iT 10,iT 0,iT 0]) ?_
 refine se ?_
 refine zc5 71 2 #[sV [97],iT 10,iT 0,iT 0,sV [98],iT 10,iT 0,iT 0] (some 12) rfl (fun _=>by kernel_rfl) (fun aC a0 aF ar aQ=>?_)
 replace aa:=aD.lc (aa.gr aJ) af
 have ah:=aa.ne aQ
 replace ac:=aD.lc (ac.gr aJ) ak
 replace hB:=hB.trans aF
 simp only [zd1,p3,p4]
 refine sv 13 (.agg #[iT (-2),iT 2,iT 1]) ?_
 refine sv 14 (.agg #[iT (-1),iT 1,iT 4]) ?_
 refine se ?_
 refine zc5 68 2 #[iT (-2),iT 2,iT 1,iT (-1),iT 1,iT 4] (some 15) rfl (fun _=>by kernel_rfl) (fun aX a8 aB aw aY=>?_)
 replace aa:=aa.gr aF
 have aq:=aa.ne aY
 replace ac:=ac.gr aF
 replace ae:=ae.gr aF
 replace hB:=hB.trans aB
 simp only [zd1,p3,p4]
 refine sv 16 (.agg #[iT (-3),iT 3,iT 1]) ?_
 refine sv 17 (.agg #[iT (-1),iT 1,iT 2]) ?_
 refine se ?_
 refine zc5 68 2 #[iT (-3),iT 3,iT 1,iT (-1),iT 1,iT 2] (some 18) rfl (fun _=>by kernel_rfl) (fun aU a1 ay aA aR=>?_)
 replace aa:=aa.gr aB
 have aj:=aa.ne aR
 replace ac:=ac.gr aB
 replace ae:=ae.gr aB
 replace ar:=ar.gr aB
 replace hB:=hB.trans ay
 simp only [zd1,p3,p4]
 refine se ?_
 refine zc5 72 2 #[sT aX 2 2,sT aU 2 2] (some 19) rfl (fun _=>by kernel_rfl) (fun aE bh av aG aO=>?_)
 replace aa:=aa.gr ay
 have au:=aa.ne aO
 replace ac:=ac.gr ay
 replace ae:=ae.gr ay
 replace ar:=ar.gr ay
 replace aw:=aw.gr ay
 replace hB:=hB.trans av
 simp only [zd1,p3,p4]
 replace ae:=ae.gr av
 refine sw 20 (.agg #[sV [48],sT al 2 2]) rfl (rl 75 0 [sV [48],sT al 2 2] ae) ?_
 refine sv 21 (.agg #[iT 0,sV [48],sT al 2 2,sV [],sN]) ?_
 refine sv 22 (sV X) ?_
 refine sv 23 (sV Y) ?_
 refine sv 24 (.agg #[sV [114],iT 0,sV [48],sT al 2 2,sV [],sN,sV X,sV Y]) ?_
 refine se ?_
 refine zc5 80 1 #[sV [114],iT 0,sV [48],sT al 2 2,sV [],sN,sV X,sV Y] (some 25) rfl (fun _=>by kernel_rfl) (fun az a9 ax aH aL=>?_)
 replace aa:=aa.gr av
 have ai:=aa.ne aL
 replace ac:=ac.gr av
 replace ar:=ar.gr av
 replace aw:=aw.gr av
 replace aA:=aA.gr av
 replace hB:=hB.trans ax
 simp only [zd1,p3,p4]
 refine sv 26 (.agg #[sT aC 2 2,sT aE 2 2,sT az 1 1]) ?_
 refine se ?_
 replace aa:=aa.gr ax
 refine es 26 0 (.agg #[sT aC 2 2,sT aE 2 2,sT az 1 1]) [sT aC 2 2,sT aE 2 2,sT az 1 1] #[sT aC 2 2,sT aE 2 2,sT az 1 1] aa hB aS ⟨rfl,rfl,rfl,trivial⟩ fun bb ad aM aa hB=>?_
 refine za0 (aP _ _ ?_)
 refine wp_ret ?_
 refine bodyPost_ret (v:=(.agg #[sT aC 2 2,sT aE 2 2,sT az 1 1])) (zc8 _ _ _ rfl rfl aa (by kernel_rfl)) rfl ⟨?_,hB⟩
 replace ar:=ad.lc (ar.gr ax) (Ne.symm ah)
 replace aG:=ad.lc (aG.gr ax) (Ne.symm au)
 replace aH:=ad.lc aH (Ne.symm ai)
 replace aw:=ad.lc (aw.gr ax) (Ne.symm aq)
 replace aA:=ad.lc (aA.gr ax) (Ne.symm aj)
 replace ac:=ad.lc (ac.gr ax) (Ne.symm ap)
 exact ⟨_,_,_,rfl,ex_of_m hX hY ar aw aA aG ac aH⟩

theorem kn_all0 {w:World} {ds os rs:Value} (h:Off w (exD 18 22) ds os rs) (hm:Mx w) (ht:Tab w):Calls Tryz.prog 20 #[.agg #[ds,os,rs]] w fun e w'=>(∃ vc vp,e=.returned (.tuple #[.agg #[.bool true,vc,iT 6,vp],iT 0])∧Sl EI64 3 1 w' vc (zs6 (exD 18 22).best.ch)∧Sl ELf 108 4 w' vp ((exD 18 22).leaves (exD 18 22).best ((exD 18 22).n+1) []))∧Gr w w':=
 (zA2 h hm ht).mono fun e w' ⟨⟨vc,vp,he,h1,h2⟩,g⟩=>⟨⟨vc,vp,he.trans (by rw [show (exD 18 22).best.ok=true from by kernel_rfl,show (exD 18 22).best.co=6 from by kernel_rfl]),h1,h2⟩,g⟩
theorem kn_all1 {w:World} {ds os rs:Value} (h:Off w (exD 19 21) ds os rs) (hm:Mx w) (ht:Tab w):Calls Tryz.prog 20 #[.agg #[ds,os,rs]] w fun e w'=>(∃ vc vp,e=.returned (.tuple #[.agg #[.bool false,vc,iT 0,vp],iT 0])∧Sl EI64 3 1 w' vc (zs6 (exD 19 21).best.ch)∧Sl ELf 108 4 w' vp ((exD 19 21).leaves (exD 19 21).best ((exD 19 21).n+1) []))∧Gr w w':=
 (zA2 h hm ht).mono fun e w' ⟨⟨vc,vp,he,h1,h2⟩,g⟩=>⟨⟨vc,vp,he.trans (by rw [show (exD 19 21).best.ok=false from by kernel_rfl,show (exD 19 21).best.co=0 from by kernel_rfl]),h1,h2⟩,g⟩
theorem kn_worst {w:World} {ds os rs:Value} (h:Off w (exD 18 22) ds os rs) (hm:Mx w) (ht:Tab w) {vc:Value} (hc:Sl EI64 3 1 w vc [0,1]):Calls Tryz.prog 16 #[.agg #[ds,os,rs],vc,iT 0] w fun e w'=>e=.returned (.tuple #[.string ⟨[49,55].toArray⟩,.string ⟨[50,51].toArray⟩,iT 0])∧Gr w w':=
 (v_worst h hm ht hc 0).mono fun e w' he=>⟨he.1.trans (by rw [show wsA (exD 18 22) [0,1] 0=[49,55] from by kernel_rfl,show wsB (exD 18 22) [0,1] 0=[50,51] from by kernel_rfl,show wsE (exD 18 22) [0,1] 0=0 from by kernel_rfl]),he.2⟩
theorem kn_fails {w:World} {ds os rs:Value} (h:Off w (exD 18 22) ds os rs) (hm:Mx w) {vc:Value} (hc:Sl EI64 3 1 w vc [0]):Calls Tryz.prog 19 #[.agg #[ds,os,rs],vc] w fun e w'=>e=.returned (.tuple #[iT 0,iT 1,.bool true,iT 0])∧Gr w w':=
 (v_fails h hm hc).mono fun e w' he=>⟨he.1.trans (by rw [show flA (exD 18 22) [0]=0 from by kernel_rfl,show flB (exD 18 22) [0]=1 from by kernel_rfl,show flC (exD 18 22) [0]=true from by kernel_rfl,show (exD 18 22).pe [0]=0 from by kernel_rfl]),he.2⟩
theorem kn_bound {w:World} {ds os rs:Value} (h:Off w (exD 18 22) ds os rs) (hm:Mx w) {vc:Value} (hc:Sl EI64 3 1 w vc [1]):Calls Tryz.prog 18 #[.agg #[ds,os,rs],vc] w fun e w'=>e=.returned (.tuple #[iT 5,iT 0])∧Gr w w':=
 (v_bound h hm hc).mono fun e w' he=>⟨he.1.trans (by rw [show bndA (exD 18 22) [1]=5 from by kernel_rfl,show (exD 18 22).pe [1]=0 from by kernel_rfl]),he.2⟩
theorem kn_ver {w:World} {ds os rs:Value} (h:Off w (exD 18 22) ds os rs) (hm:Mx w) {vc:Value} (hc:Sl EI64 3 1 w vc [1,1]) {vp:Value} (hp:Sl ELf 108 4 w vp [⟨[(0,0)],0,0,[[49]]⟩,⟨[(0,1),(1,0)],0,0,[[49]]⟩,⟨[(0,1),(1,1)],6,-1,[]⟩]):Calls Tryz.prog 21 #[.agg #[ds,os,rs],.agg #[.bool true,vc,iT 6,vp]] w fun e w'=>e=.returned (iT 0)∧Gr w w':=
 (v_verify h hm hc hp).mono fun e w' he=>⟨he.1.trans (by rw [show (exD 18 22).ver ⟨true,[1,1],6,[⟨[(0,0)],0,0,[[49]]⟩,⟨[(0,1),(1,0)],0,0,[[49]]⟩,⟨[(0,1),(1,1)],6,-1,[]⟩]⟩=0 from by kernel_rfl]),he.2⟩
theorem ex_ok1:OfOk (exD 18 22) dnE rnE:=ex_ok ⟨by unfold Sz;decide+kernel,by unfold Sz;decide+kernel⟩ ⟨by unfold Sz;decide+kernel,by unfold Sz;decide+kernel⟩ (by decide+kernel)
theorem ex_ok2:OfOk (exD 19 21) dnE rnE:=ex_ok ⟨by unfold Sz;decide+kernel,by unfold Sz;decide+kernel⟩ ⟨by unfold Sz;decide+kernel,by unfold Sz;decide+kernel⟩ (by decide+kernel)
theorem sl_pk1 {w:World} {b:Nat} {x y:Int} (hL:Lc w b #[iT x,iT y] 104):Sl EPk 104 2 w (sT b 1 1) [(x,y)]:=zr3 hL (Els.one rfl rfl) rfl
theorem sl_pk2 {w:World} {b:Nat} {x y z t:Int} (hL:Lc w b #[iT x,iT y,iT z,iT t] 104):Sl EPk 104 2 w (sT b 2 2) [(x,y),(z,t)]:=zr3 hL (Els.two (vs:=[_,_]) rfl rfl rfl rfl) rfl
theorem sl_in1 {w:World} {b:Nat} {x:Int} (hL:Lc w b #[iT x] 3):Sl EI64 3 1 w (sT b 1 1) [x]:=zr3 hL (Els.one rfl rfl) rfl
theorem sl_in2 {w:World} {b:Nat} {x y:Int} (hL:Lc w b #[iT x,iT y] 3):Sl EI64 3 1 w (sT b 2 2) [x,y]:=zr3 hL (Els.two (vs:=[_]) rfl rfl rfl rfl) rfl
theorem known43 {w:World} (hm:Mx w) (ht:Tab w):
    Calls Tryz.prog 11 #[] w fun e w'=>e=.returned (.bool true)∧Gr w w':=by
 go_enter Tryz.func11,Tryz.ntmps11
 have hB:=Gr.refl w
 refine wp_seq_k (fun cA b7=>rg [0] (sv 0 (.bool false) ?_))
 refine za0 (b7 _ _ ?_)
 refine wp_seq_k (fun cx b9=>rg [0,1,2] ?_)
 refine se ?_
 refine ec 17 (ex_of (a:=18) (b:=22) (X:=[49,56]) (Y:=[50,50]) (by kernel_rfl) (by kernel_rfl) _) ?_
 rintro cr cc ⟨⟨af,ae,ah,rfl,a5⟩,cj⟩
 refine ⟨_,rfl,?_⟩
 replace hB:=hB.trans cj
 have ak:Off _ (exD 18 22) _ _ _:=⟨_,_,a5,ex_ok1⟩
 have aa:=Gr.refl cc
 simp only [p3,p4]
 refine se ?_
 refine ea 26 #[sN,sN,sN] 1 hB fun cE cX bQ ad b1 bU hB=>?_
 have ay:=Nat.le_trans (Below.size aa) b1
 replace aa:=aa.trans bQ
 simp only [p3,p4]
 refine se ?_
 refine es 26 0 (.agg #[af,ae,ah]) [af,ae,ah] #[af,ae,ah] ad hB bU ⟨ak.one0,ak.one1,ak.one2,trivial⟩ fun cy bp bP ad hB=>?_
 replace aa:=bp.gr aa ay
 refine za0 (b9 _ _ ?_)
 refine wp_seq_k (fun ct b0=>rg [0,1,2,3,4,5,6,7] ?_)
 refine sw 19 (.agg #[af,ae,ah]) rfl (rl 26 0 [af,ae,ah] ad) ?_
 refine se ?_
 refine ec 20 (kn_all0 (ak.gr aa) (hm.gr hB) (ht.gr hB)) ?_
 rintro cw c8 ⟨⟨aq,au,rfl,bl,bn⟩,bt⟩
 refine ⟨_,rfl,?_⟩
 replace hB:=hB.trans bt
 replace aa:=aa.trans bt
 simp only [p3,p4]
 refine sv 18 (.tuple #[.agg #[.bool true,aq,iT 6,au],iT 0]) ?_
 refine sv 21 (.agg #[.bool true,aq,iT 6,au]) ?_
 refine sv 22 (iT 0) ?_
 refine se ?_
 refine ea 43 #[.bool false,sN,iT 0,sN] 2 hB fun bD cP bF ai bC bR hB=>?_
 replace ad:=ad.gr bt
 have aE:=ad.ne bC
 have ar:=Nat.le_trans (Below.size aa) bC
 replace aa:=aa.trans bF
 simp only [p3,p4]
 refine se ?_
 refine es 43 0 (.agg #[.bool true,aq,iT 6,au]) [.bool true,aq,iT 6,au] #[.bool true,aq,iT 6,au] ai hB bR ⟨rfl,bl.one,rfl,bn.one,trivial⟩ fun cY aQ bX ai hB=>?_
 replace aa:=aQ.gr aa ar
 refine sv 3 (iT 0) (za0 (b0 _ _ ?_))
 refine wp_seq_k (fun cF b8=>rg [0,1,2,3,4,5,6,7,8,9] ?_)
 replace ad:=aQ.lc (ad.gr bF) aE
 refine sw 24 (.agg #[af,ae,ah]) rfl (rl 26 0 [af,ae,ah] ad) ?_
 refine se ?_
 refine zc5 3 2 #[iT 0,iT 1] (some 25) rfl (fun _=>by kernel_rfl) (fun cQ cK bh cm bO=>?_)
 have aY:=Nat.le_trans (Below.size aa) bO
 replace hB:=hB.trans bh
 replace aa:=aa.trans bh
 simp only [zd1,p3,p4]
 refine se ?_
 refine ec 26 (kn_worst (ak.gr aa) (hm.gr hB) (ht.gr hB) (sl_in2 cm)) ?_
 rintro cV cZ ⟨rfl,bk⟩
 refine ⟨_,rfl,?_⟩
 replace hB:=hB.trans bk
 replace aa:=aa.trans bk
 simp only [p3,p4]
 refine sv 23 (.tuple #[sV [49,55],sV [50,51],iT 0]) ?_
 refine sv 27 (sV [49,55]) ?_
 refine sv 28 (sV [50,51]) ?_
 refine sv 29 (iT 0) ?_
 refine sv 4 (sV [49,55]) ?_
 refine sv 5 (sV [50,51]) ?_
 refine sv 6 (iT 0) (za0 (b8 _ _ ?_))
 refine wp_seq_k (fun cB cg=>rg [0,1,2,3,4,5,6,7,8,9,10,11] ?_)
 replace ad:=ad.gr (bh.trans bk)
 refine sw 31 (.agg #[af,ae,ah]) rfl (rl 26 0 [af,ae,ah] ad) ?_
 refine se ?_
 refine zc5 3 1 #[iT 0] (some 32) rfl (fun _=>by kernel_rfl) (fun cU c4 a9 bZ cd=>?_)
 replace ai:=ai.gr (bh.trans bk)
 have a1:=Nat.le_trans (Below.size aa) cd
 replace hB:=hB.trans a9
 replace aa:=aa.trans a9
 simp only [zd1,p3,p4]
 refine se ?_
 refine ec 33 (kn_fails (ak.gr aa) (hm.gr hB) (sl_in1 bZ)) ?_
 rintro da cD ⟨rfl,bb⟩
 refine ⟨_,rfl,?_⟩
 replace hB:=hB.trans bb
 replace aa:=aa.trans bb
 simp only [p3,p4]
 refine sv 30 (.tuple #[iT 0,iT 1,.bool true,iT 0]) ?_
 refine sv 34 (iT 0) ?_
 refine sv 35 (iT 1) ?_
 refine sv 36 (.bool true) ?_
 refine sv 37 (iT 0) ?_
 refine sv 7 (iT 0) ?_
 refine sv 8 (iT 1) ?_
 refine sv 9 (.bool true) ?_
 refine sv 10 (iT 0) (za0 (cg _ _ ?_))
 refine wp_seq_k (fun dc cl=>rg [0,1,2,3,4,5,6,7] ?_)
 replace ad:=ad.gr (a9.trans bb)
 refine sw 39 (.agg #[af,ae,ah]) rfl (rl 26 0 [af,ae,ah] ad) ?_
 refine se ?_
 refine zc5 3 1 #[iT 1] (some 40) rfl (fun _=>by kernel_rfl) (fun cT cR bj bS b2=>?_)
 replace ai:=ai.gr (a9.trans bb)
 have a7:=Nat.le_trans (Below.size aa) b2
 replace hB:=hB.trans bj
 replace aa:=aa.trans bj
 simp only [zd1,p3,p4]
 refine se ?_
 refine ec 41 (kn_bound (ak.gr aa) (hm.gr hB) (sl_in1 bS)) ?_
 rintro cH cq ⟨rfl,bg⟩
 refine ⟨_,rfl,?_⟩
 replace hB:=hB.trans bg
 replace aa:=aa.trans bg
 simp only [p3,p4]
 refine sv 38 (.tuple #[iT 5,iT 0]) ?_
 refine sv 42 (iT 5) ?_
 refine sv 43 (iT 0) ?_
 refine sv 11 (iT 5) ?_
 refine sv 12 (iT 0) (za0 (cl _ _ ?_))
 refine wp_seq_k (fun cS b5=>rg [0,1,2,3,4,5,6,7] ?_)
 refine se ?_
 refine ec 45 (ex_of (a:=19) (b:=21) (X:=[49,57]) (Y:=[50,49]) (by kernel_rfl) (by kernel_rfl) _) ?_
 rintro cO cf ⟨⟨cp,b6,cb,rfl,aZ⟩,ba⟩
 refine ⟨_,rfl,?_⟩
 replace hB:=hB.trans ba
 replace aa:=aa.trans ba
 have bs:Off _ (exD 19 21) _ _ _:=⟨_,_,aZ,ex_ok2⟩
 have ac:=Gr.refl cf
 simp only [p3,p4]
 refine se ?_
 refine ec 46 (kn_all1 (bs.gr ac) (hm.gr hB) (ht.gr hB)) ?_
 rintro cu cG ⟨⟨aA,aw,rfl,bm,bq⟩,a6⟩
 refine ⟨_,rfl,?_⟩
 replace hB:=hB.trans a6
 replace aa:=aa.trans a6
 replace ac:=ac.trans a6
 simp only [p3,p4]
 refine sv 44 (.tuple #[.agg #[.bool false,aA,iT 0,aw],iT 0]) ?_
 refine sv 47 (.agg #[.bool false,aA,iT 0,aw]) ?_
 refine sv 48 (iT 0) ?_
 refine se ?_
 refine ea 43 #[.bool false,sN,iT 0,sN] 13 hB fun bE cW bf aj bi bW hB=>?_
 replace ad:=ad.gr (bj.trans (bg.trans (ba.trans a6)))
 have aG:=ad.ne bi
 replace ai:=ai.gr (bj.trans (bg.trans (ba.trans a6)))
 have aH:=ai.ne bi
 have ax:=Nat.le_trans (Below.size aa) bi
 have ap:=Nat.le_trans (Below.size ac) bi
 replace aa:=aa.trans bf
 replace ac:=ac.trans bf
 simp only [p3,p4]
 refine se ?_
 refine es 43 0 (.agg #[.bool false,aA,iT 0,aw]) [.bool false,aA,iT 0,aw] #[.bool false,aA,iT 0,aw] aj hB bW ⟨rfl,bm.one,rfl,bq.one,trivial⟩ fun cJ aI b4 aj hB=>?_
 replace aa:=aI.gr aa ax
 replace ac:=aI.gr ac ap
 refine sv 14 (iT 0) (za0 (b5 _ _ ?_))
 refine wp_seq_k (fun dd b3=>rg [0,1,2,3,4,5,6,7,8,9,10,11,12,13,14] (sv 49 (.agg #[iT 0,iT 0]) ?_))
 refine se ?_
 refine zc5 104 1 #[iT 0,iT 0] (some 50) rfl (fun _=>by kernel_rfl) (fun bw cM aM al bA=>?_)
 replace ad:=aI.lc (ad.gr bf) aG
 replace ai:=aI.lc (ai.gr bf) aH
 have a0:=Nat.le_trans (Below.size aa) bA
 have aX:=Nat.le_trans (Below.size ac) bA
 replace hB:=hB.trans aM
 replace aa:=aa.trans aM
 replace ac:=ac.trans aM
 simp only [zd1,p3,p4]
 refine se ?_
 refine zc5 33 1 #[sV [49]] (some 51) rfl (fun _=>by kernel_rfl) (fun bL c5 aK az bv=>?_)
 replace ad:=ad.gr aM
 replace ai:=ai.gr aM
 replace aj:=aj.gr aM
 have aS:=Nat.le_trans (Below.size aa) bv
 have aV:=Nat.le_trans (Below.size ac) bv
 replace hB:=hB.trans aK
 replace aa:=aa.trans aK
 replace ac:=ac.trans aK
 simp only [zd1,p3,p4]
 refine sv 52 (.agg #[sT bw 1 1,iT 0,iT 0,sT bL 1 1]) ?_
 refine sv 53 (.agg #[iT 0,iT 1]) ?_
 refine sv 54 (.agg #[iT 1,iT 0]) ?_
 refine se ?_
 refine zc5 104 2 #[iT 0,iT 1,iT 1,iT 0] (some 55) rfl (fun _=>by kernel_rfl) (fun bN cI aJ aD bM=>?_)
 replace ad:=ad.gr aK
 replace ai:=ai.gr aK
 replace aj:=aj.gr aK
 replace al:=al.gr aK
 have a2:=Nat.le_trans (Below.size aa) bM
 have a3:=Nat.le_trans (Below.size ac) bM
 replace hB:=hB.trans aJ
 replace aa:=aa.trans aJ
 replace ac:=ac.trans aJ
 simp only [zd1,p3,p4]
 refine se ?_
 refine zc5 33 1 #[sV [49]] (some 56) rfl (fun _=>by kernel_rfl) (fun bK c7 aF aL bH=>?_)
 replace ad:=ad.gr aJ
 replace ai:=ai.gr aJ
 replace aj:=aj.gr aJ
 replace al:=al.gr aJ
 replace az:=az.gr aJ
 have aN:=Nat.le_trans (Below.size aa) bH
 have a4:=Nat.le_trans (Below.size ac) bH
 replace hB:=hB.trans aF
 replace aa:=aa.trans aF
 replace ac:=ac.trans aF
 simp only [zd1,p3,p4]
 refine sv 57 (.agg #[sT bN 2 2,iT 0,iT 0,sT bK 1 1]) ?_
 refine sv 58 (.agg #[iT 0,iT 1]) ?_
 refine sv 59 (.agg #[iT 1,iT 1]) ?_
 refine se ?_
 refine zc5 104 2 #[iT 0,iT 1,iT 1,iT 1] (some 60) rfl (fun _=>by kernel_rfl) (fun bJ db aC aT bB=>?_)
 replace ad:=ad.gr aF
 replace ai:=ai.gr aF
 replace aj:=aj.gr aF
 replace al:=al.gr aF
 replace az:=az.gr aF
 replace aD:=aD.gr aF
 have aW:=Nat.le_trans (Below.size aa) bB
 have aR:=Nat.le_trans (Below.size ac) bB
 replace hB:=hB.trans aC
 replace aa:=aa.trans aC
 replace ac:=ac.trans aC
 simp only [zd1,p3,p4]
 refine sv 61 (.agg #[sT bJ 2 2,iT 6,iT (-1),sN]) ?_
 refine se ?_
 refine zc5 108 3 #[sT bw 1 1,iT 0,iT 0,sT bL 1 1,sT bN 2 2,iT 0,iT 0,sT bK 1 1,sT bJ 2 2,iT 6,iT (-1),sN] (some 62) rfl (fun _=>by kernel_rfl) (fun bu cC av bo bG=>?_)
 replace ad:=ad.gr aC
 replace ai:=ai.gr aC
 replace aj:=aj.gr aC
 replace al:=al.gr aC
 replace az:=az.gr aC
 replace aD:=aD.gr aC
 replace aL:=aL.gr aC
 have aP:=Nat.le_trans (Below.size aa) bG
 have aU:=Nat.le_trans (Below.size ac) bG
 replace hB:=hB.trans av
 replace aa:=aa.trans av
 replace ac:=ac.trans av
 simp only [zd1,p3,p4]
 refine sv 15 (sT bu 3 3) (za0 (b3 _ _ ?_))
 refine wp_seq_k (fun c6 bV=>rg [0,1,2,3,4,5] ?_)
 replace ad:=ad.gr av
 refine sw 63 (.agg #[af,ae,ah]) rfl (rl 26 0 [af,ae,ah] ad) ?_
 refine se ?_
 refine zc5 3 2 #[iT 1,iT 1] (some 64) rfl (fun _=>by kernel_rfl) (fun ck cL aB bT bI=>?_)
 replace ai:=ai.gr av
 replace aj:=aj.gr av
 replace al:=al.gr av
 replace az:=az.gr av
 replace aD:=aD.gr av
 replace aL:=aL.gr av
 replace aT:=aT.gr av
 have a8:=Nat.le_trans (Below.size aa) bI
 have aO:=Nat.le_trans (Below.size ac) bI
 replace hB:=hB.trans aB
 replace aa:=aa.trans aB
 simp only [zd1,p3,p4]
 refine sv 65 (sT bu 3 3) ?_
 refine sv 66 (.agg #[.bool true,sT ck 2 2,iT 6,sT bu 3 3]) ?_
 refine se ?_
 replace bo:=bo.gr aB
 replace al:=al.gr aB
 replace az:=az.gr aB
 replace aD:=aD.gr aB
 replace aL:=aL.gr aB
 replace aT:=aT.gr aB
 refine ec 67 (kn_ver (ak.gr aa) (hm.gr hB) (sl_in2 bT) (zr3 bo (Els.three (vs:=[_,_,_,_]) (us:=[_,_,_,_]) (ts:=[_,_,_,_]) rfl ⟨_,_,rfl,sl_pk1 al,zL0 az⟩ rfl ⟨_,_,rfl,sl_pk2 aD,zL0 aL⟩ rfl ⟨_,_,rfl,sl_pk2 aT,Sl.nil _ _ _ _ none 0⟩) rfl)) ?_
 rintro cN c9 ⟨rfl,br⟩
 refine ⟨_,rfl,?_⟩
 replace hB:=hB.trans br
 simp only [p3,p4]
 refine sv 16 (iT 0) (za0 (bV _ _ ?_))
 refine wp_seq_k (fun cz bY=>rg [0,1,2,3,4,5,6,7,8,9,10,11,12,13,14,15,16,17,18,19,20,21,22,23,24,25,26,27,28,29,30,31,32,33,34,35,36,37,38,39,40,41,42,43,44,45,46,47,48,49,50,51,52,53,54,55,56,57,58,59,60,61,62,63,64] (sv 68 (iT 0) ?_))
 refine sv 69 (.bool true) ?_
 refine sv 70 (.bool true) ?_
 refine sv 71 (pT bD 0) ?_
 replace ai:=ai.gr (aB.trans br)
 refine sw 72 (.bool true) rfl (rk 4 0 ai) ?_
 refine sv 73 (.bool true) ?_
 refine sv 74 (.bool true) ?_
 refine sv 75 (pT bD 2) ?_
 refine sw 76 (iT 6) rfl (rk 3 2 ai) ?_
 refine sv 77 (.bool true) ?_
 refine sv 78 (.bool true) ?_
 refine sv 79 (.bool true) ?_
 refine sv 80 (sV [49,55]) ?_
 refine sv 81 (.bool true) ?_
 refine sv 82 (.bool true) ?_
 refine sv 83 (.bool true) ?_
 refine sv 84 (sV [50,51]) ?_
 refine sv 85 (.bool true) ?_
 refine sv 86 (.bool true) ?_
 refine sv 87 (.bool true) ?_
 refine sv 88 (iT 0) ?_
 refine sv 89 (.bool true) ?_
 refine sv 90 (.bool true) ?_
 refine sv 91 (.bool true) ?_
 refine sv 92 (iT 0) ?_
 refine sv 93 (.bool true) ?_
 refine sv 94 (.bool true) ?_
 refine sv 95 (.bool true) ?_
 refine sv 96 (iT 1) ?_
 refine sv 97 (.bool true) ?_
 refine sv 98 (.bool true) ?_
 refine sv 99 (.bool true) ?_
 refine sv 100 (.bool true) ?_
 refine sv 101 (.bool true) ?_
 refine sv 102 (.bool true) ?_
 refine sv 103 (iT 0) ?_
 refine sv 104 (.bool true) ?_
 refine sv 105 (.bool true) ?_
 refine sv 106 (.bool true) ?_
 refine sv 107 (iT 5) ?_
 refine sv 108 (.bool true) ?_
 refine sv 109 (.bool true) ?_
 refine sv 110 (.bool true) ?_
 refine sv 111 (iT 0) ?_
 refine sv 112 (.bool true) ?_
 refine sv 113 (.bool true) ?_
 refine sv 114 (.bool true) ?_
 refine sv 115 (iT 0) ?_
 refine sv 116 (.bool true) ?_
 refine sv 117 (.bool true) ?_
 refine sv 118 (.bool true) ?_
 refine sv 119 (pT bE 0) ?_
 replace aj:=aj.gr (aB.trans br)
 refine sw 120 (.bool false) rfl (rk 4 0 aj) ?_
 refine sv 121 (.bool true) ?_
 refine sv 122 (.bool true) ?_
 refine sv 123 (.bool true) ?_
 refine sv 124 (pT bE 2) ?_
 refine sw 125 (iT 0) rfl (rk 3 2 aj) ?_
 refine sv 126 (.bool true) ?_
 refine sv 127 (.bool true) ?_
 refine sv 128 (.bool true) ?_
 refine sv 129 (iT 0) ?_
 refine sv 130 (.bool true) ?_
 refine sv 131 (.bool true) ?_
 refine sv 0 (.bool true) (za0 (bY _ _ ?_))
 refine wp_ret ?_
 refine bodyPost_ret (v:=(.bool true)) (za3 rfl rfl) rfl ⟨?_,hB⟩
 exact rfl

end Go.Proofs.YtjhflekncldflaaGreatDoor
namespace Go.Proofs.YtjhflekncldflaaGreatDoor
open Go.RowKit
structure Rul where
 f:Nat→Int
 be:Int
 ov:Int
 op:Int
structure Dsc where
 nn:Nat
 nv:Nat→Int
 dn:Nat→Nat
 dl:Nat→Nat→Int × Int × Int
 rn:Nat
 rl:Nat→Rul
def zmin (a b:Int):Int:=if b<a then b else a
def zmax (a b:Int):Int:=if a<b then b else a
namespace Dsc
variable (x:Dsc)
structure Ok:Prop where
 nv:∀ i,-128≤x.nv i∧x.nv i≤127
 dl:∀ i k,(-128≤(x.dl i k).1∧(x.dl i k).1≤127)∧(-128≤(x.dl i k).2.1∧(x.dl i k).2.1≤127)∧0≤(x.dl i k).2.2∧(x.dl i k).2.2≤255
 rf:∀ r i,-128≤(x.rl r).f i∧(x.rl r).f i≤127
 rb:∀ r,(-128≤(x.rl r).be∧(x.rl r).be≤127)∧(-128≤(x.rl r).ov∧(x.rl r).ov≤127)∧0≤(x.rl r).op∧(x.rl r).op≤255
def n:Nat:=if x.nn=0 then 1 else if 4<x.nn then 4 else x.nn
def q:Nat:=if 3<x.rn then 3 else x.rn
def nom (i:Nat):Int:=if i<x.nn then x.nv i else 0
def dm (i:Nat):Nat:=if 3<x.dn i then 3 else x.dn i
def ol (i:Nat):Nat:=if x.dn i=0 then 1 else x.dm i
def opt (i k:Nat):Int × Int × Int:=(zmin (x.dl i k).1 (x.dl i k).2.1,zmax (x.dl i k).1 (x.dl i k).2.1,(x.dl i k).2.2)
def op (i k:Nat):Int × Int × Int:=if x.dn i=0 then (0,0,0) else x.opt i k
def ci (r i:Nat):Int:=Int.tmod ((x.rl r).f i) 4
def mid (r k:Nat):Int:=zD1 (fun i=>x.ci r i*x.nom i) k
def hg (r:Nat):Int:=x.mid r x.n+(x.rl r).ov
def ltr (z:Nat):List UInt8:=[UInt8.ofNat z]
end Dsc
section
variable {x:Dsc}
theorem Dsc.Ok.nom (h:x.Ok) (i:Nat):-128≤x.nom i∧x.nom i≤127:=by unfold Dsc.nom;have:=h.nv i;split<;>omega
theorem tmod4 (z:Int):-3≤Int.tmod z 4∧Int.tmod z 4≤3:=by
 have h1:=Int.natAbs_tmod z 4
 have h2:z.natAbs % (4:Int).natAbs<4:=Nat.mod_lt _ (by decide)
 omega
theorem Dsc.ci_b (r i:Nat):-3≤x.ci r i∧x.ci r i≤3:=tmod4 _
theorem mul_b {a b:Int} (h1:-3≤a∧a≤3) (h2:-128≤b∧b≤127):-384≤a*b∧a*b≤384:=by
 have:a=-3∨a=-2∨a=-1∨a=0∨a=1∨a=2∨a=3:=by omega
 rcases this with rfl | rfl | rfl | rfl | rfl | rfl | rfl<;>omega
theorem Dsc.Ok.mid (h:x.Ok) (r:Nat):∀ k:Nat,-384*(k:Int)≤x.mid r k∧x.mid r k≤384*(k:Int)
 | 0=>by unfold Dsc.mid zD1;omega
 | k+1=>by
  have h1:=Dsc.Ok.mid h r k
  have h2:=mul_b (Dsc.ci_b (x:=x) r k) (h.nom k)
  have e:x.mid r (k+1)=x.mid r k+x.ci r k*x.nom k:=rfl
  rw [e];omega
theorem zmin_b {a b l u:Int} (h1:l≤a∧a≤u) (h2:l≤b∧b≤u):l≤zmin a b∧zmin a b≤u:=by unfold zmin;split<;>omega
theorem zmax_b {a b l u:Int} (h1:l≤a∧a≤u) (h2:l≤b∧b≤u):l≤zmax a b∧zmax a b≤u:=by unfold zmax;split<;>omega
theorem zmin_le {a b:Int}:zmin a b≤zmax a b:=by unfold zmin zmax;split<;>split<;>omega
theorem Dsc.Ok.opt (h:x.Ok) (i k:Nat):(-128≤(x.opt i k).1∧(x.opt i k).1≤(x.opt i k).2.1∧(x.opt i k).2.1≤127)∧0≤(x.opt i k).2.2∧(x.opt i k).2.2≤255:=by
 obtain ⟨h1,h2,h3⟩:=h.dl i k
 have a:=zmin_b h1 h2
 have b:=zmax_b h1 h2
 have c:=zmin_le (a:=(x.dl i k).1) (b:=(x.dl i k).2.1)
 exact ⟨⟨a.1,c,b.2⟩,h3⟩
theorem Dsc.Ok.op (h:x.Ok) (i k:Nat):(-128≤(x.op i k).1∧(x.op i k).1≤(x.op i k).2.1∧(x.op i k).2.1≤127)∧0≤(x.op i k).2.2∧(x.op i k).2.2≤255:=by
 unfold Dsc.op
 split
 ·decide
 exact h.opt i k
theorem isNm_ltr {z:Nat} (h:97≤z) (h2:z≤122):isNm (Dsc.ltr z)=true:=by
 have key:∀ y:Fin 26,isNm (Dsc.ltr (97+y.val))=true:=by decide+kernel
 have:=key ⟨z - 97,by omega⟩
 rwa [show 97+(z - 97)=z by omega] at this
theorem ltr_ne {a b:Nat} (h:a<b) (h2:b≤122):Dsc.ltr a≠Dsc.ltr b:=fun e=>by
 have e2:UInt8.ofNat a=UInt8.ofNat b:=by simpa [Dsc.ltr] using e
 have e3:=congrArg UInt8.toNat e2
 rw [UInt8.toNat_ofNat_of_lt' (by show a<256;omega),UInt8.toNat_ofNat_of_lt' (by show b<256;omega)] at e3
 omega
theorem nm_ltr {N z:Nat} (h:97≤z) (h2:z+N≤123):NmOk N (fun i=>Dsc.ltr (z+i)):=⟨fun i hi=>isNm_ltr (by omega) (by omega),fun j i h1 h3=>ltr_ne (by omega) (by omega)⟩
end
def EI8 (_:World) (z:Int) (vs:List Value):Prop:=vs=[.int .i8 z]
theorem stab_i8:zn8 EI8 []:=fun _ _ _ _ _ h=>h
def EDe (_:World) (d:Int × Int × Int) (vs:List Value):Prop:=vs=[.int .i8 d.1,.int .i8 d.2.1,.int .u8 d.2.2]
theorem zA5:zn8 EDe []:=fun _ _ _ _ _ h=>h
def ERu (_:World) (r:Rul) (vs:List Value):Prop:=vs=[.int .i8 (r.f 0),.int .i8 (r.f 1),.int .i8 (r.f 2),.int .i8 (r.f 3),.int .i8 r.be,.int .i8 r.ov,.int .u8 r.op]
theorem stab_ru:zn8 ERu []:=fun _ _ _ _ _ h=>h
structure DscM (w:World) (x:Dsc) (vn d0 d1 d2 d3 vr:Value):Prop where
 ok:x.Ok
 vn:∃ T,Sl EI8 T 1 w vn (tb (fun i=>x.nv i) x.nn)
 d0:∃ T,Sl EDe T 3 w d0 (tb (fun k=>x.dl 0 k) (x.dn 0))
 d1:∃ T,Sl EDe T 3 w d1 (tb (fun k=>x.dl 1 k) (x.dn 1))
 d2:∃ T,Sl EDe T 3 w d2 (tb (fun k=>x.dl 2 k) (x.dn 2))
 d3:∃ T,Sl EDe T 3 w d3 (tb (fun k=>x.dl 3 k) (x.dn 3))
 vr:∃ T,Sl ERu T 7 w vr (tb (fun r=>x.rl r) x.rn)
theorem DscM.gr {w w':World} {x:Dsc} {vn d0 d1 d2 d3 vr:Value} (h:DscM w x vn d0 d1 d2 d3 vr) (g:Gr w w'):DscM w' x vn d0 d1 d2 d3 vr where
 ok:=h.ok
 vn:=let ⟨T,s⟩:=h.vn;⟨T,s.gr stab_i8 g⟩
 d0:=let ⟨T,s⟩:=h.d0;⟨T,s.gr zA5 g⟩
 d1:=let ⟨T,s⟩:=h.d1;⟨T,s.gr zA5 g⟩
 d2:=let ⟨T,s⟩:=h.d2;⟨T,s.gr zA5 g⟩
 d3:=let ⟨T,s⟩:=h.d3;⟨T,s.gr zA5 g⟩
 vr:=let ⟨T,s⟩:=h.vr;⟨T,s.gr stab_ru g⟩
def v4 (d0 d1 d2 d3:Value) (i:Nat):Value:=if i=0 then d0 else if i=1 then d1 else if i=2 then d2 else d3
theorem DscM.d4 {w:World} {x:Dsc} {vn d0 d1 d2 d3 vr:Value} (h:DscM w x vn d0 d1 d2 d3 vr) {i:Nat} (hi:i<4):∃ T,Sl EDe T 3 w (v4 d0 d1 d2 d3 i) (tb (fun k=>x.dl i k) (x.dn i)):=by
 have:i=0∨i=1∨i=2∨i=3:=by omega
 rcases this with rfl | rfl | rfl | rfl
 ·exact h.d0
 ·exact h.d1
 ·exact h.d2
 exact h.d3
section
variable {P:Program} {a:Act} {o:Oper} {w:World}
theorem zT4 {src dst e:TypeId} {x:Operand} {b z:Nat} (hL:Lc w b #[.int .u8 (z:Int)] 5) (hop:o.op=.convert src dst x:=by rfl) (hx:a.eval x=.slice (some ⟨b,0,none⟩) 1 1:=by rfl)
  (hs:P.underlying src=some (.slice e):=by kernel_rfl) (he:P.underlying e=some (.int .u8):=by kernel_rfl) (hd:P.underlying dst=some .string:=by kernel_rfl):RunV P a o w (.string ⟨(Dsc.ltr z).toArray⟩):=by
 have hc:w.cell? ⟨b,0,none⟩=some (.int .u8 (z:Int)):=by rw [zc1 hL];rfl
 have h1:=run_loadCells_list (P:=P) (w:=w) ⟨b,0,none⟩ [.int .u8 (z:Int)] (fun j v hj=>by
  have:j=0:=by have:=(List.getElem?_eq_some_iff.1 hj).1;simp at this;omega
  subst this
  simp at hj;subst hj
  simpa [Addr.add] using hc)
 have h:=run_bytesToString (P:=P) w ⟨b,0,none⟩ 1 1 [(z:Int)] (by simpa using h1)
 have e1:(Conv.bytesToString (.slice (some ⟨b,0,none⟩) 1 1)).run P w=.ok (.string ⟨(Dsc.ltr z).toArray⟩) w:=h.trans (by
  have:(List.foldl (fun (r:ByteArray) (n:Int)=>r.push (UInt8.ofNat n.toNat)) ByteArray.empty [(z:Int)])=⟨(Dsc.ltr z).toArray⟩:=by
   show ByteArray.empty.push (UInt8.ofNat ((z:Int)).toNat)=_
   rw [Int.toNat_natCast];rfl
  rw [this])
 unfold RunV execOp
 simp only [hop,hx,Sem.run_bind,run_convert_bytes_string w src dst e _ 1 1 hs he hd,e1,Result.andThen_ok,Sem.run_pure]
end
section
variable {x:Dsc} {i k r:Nat} {w:World}
end
end Go.Proofs.YtjhflekncldflaaGreatDoor
namespace Go.Proofs.YtjhflekncldflaaGreatDoor
open Go.RowKit

def zO1 (k m:Nat):Nat:=if k=0 then 12+m else if k=1 then 4 else if k=3 then 3 else 1
def zB5 (k m i:Nat):Nat:=if k=1 then (if i=3∧m=1 then 9 else 8) else if k=3 then 8 else 1
def zn9 (i:Nat):Rqg:=⟨Dsc.ltr (97+i),⟨0,[48],0,fun _=>(0,[]),[],0⟩,fun _=>⟨0,[],0,fun _=>(0,[]),[],0⟩,[],[]⟩
def zj2 (k m:Nat):Offg:={n:=zO1 k m,dm:=fun i=>⟨Dsc.ltr (97+i),0,0,0⟩,m:=zO1 k m,ol:=zB5 k m,op:=fun _ _=>(0,0,0),q:=if k=2 then 16+m else 0,rq:=zn9}
def limX (i:Nat):Dmn:=⟨if i<3 then Dsc.ltr (97+i) else if i=3 then [121] else [122],0,0,0⟩
def limY (i:Nat):Nat:=if i<4 then 8 else 2
def limA:Offg:={n:=5,dm:=limX,m:=5,ol:=limY,op:=fun _ _=>(0,0,0),q:=0,rq:=zn9}
theorem limD_b {k m:Nat} (h:m<2):1≤zO1 k m∧zO1 k m≤13:=by unfold zO1;(repeat' split)<;>omega
theorem limN_b {k m i:Nat}:1≤zB5 k m i∧zB5 k m i≤9:=by unfold zB5;(repeat' split)<;>omega
theorem zO2 (n i:Nat):nde n (zn9 i).x=0:=by
 have hodd:(zn9 i).x.odd=false:=zo5 (.inl rfl) (.inr rfl)
 rw [zi5 hodd,if_pos (show (zn9 i).x.op=0 from rfl),if_neg (show ¬ 0<(zn9 i).x.na from Nat.lt_irrefl 0)]
 unfold zH8
 have hc:ck2 (zn9 i).x.c 400=0:=by kernel_rfl
 rw [if_neg (fun e=>e hc),if_neg (by show ¬ 64<0;omega)]
 rfl
theorem zO3 (n i:Nat):exe n (zn9 i).x (zn9 i).ag=0:=by
 unfold exe
 rw [if_neg (fun e=>e (zO2 n i))]
 rfl
theorem limR_rqe (n:Nat) {i:Nat} (hi:i<16):rqe n zn9 i=0:=by
 have hn:NmOk 17 (fun i=>Dsc.ltr (97+i)):=nm_ltr (by omega) (by omega)
 unfold rqe
 rw [if_neg (by rw [show isNm (zn9 i).nm=true from hn.is i (by omega)];decide),if_neg (by rw [show zg4 (fun j=>(zn9 j).nm) i (zn9 i).nm=false from hn.dup (by omega)];decide),if_neg (fun e=>e (zO3 n i)),if_neg (fun e=>e (show (zn9 i).x.op=0 from rfl)),
  if_neg (fun e=>e.1 (show (zn9 i).lo=[] from rfl)),if_neg (fun e=>e.1 (show (zn9 i).hi=[] from rfl)),if_neg (fun e=>e.1 (show (zn9 i).lo=[] from rfl))]
theorem limA_chk:limA.chk=6:=by
 unfold Offg.chk
 rw [if_neg (by decide),if_neg (by decide),if_neg (by rw [show dck limA.dm limA.n=0 by kernel_rfl];decide),if_neg (by rw [show tol limA.dm limA.n=false by kernel_rfl];decide),if_neg (fun e=>e rfl),if_neg (by rw [show fe (fun i=>opl (limA.op i) (limA.ol i)) limA.m=0 by kernel_rfl];decide),if_pos (.inl (by rw [show chn limA.ol limA.m=4097 by kernel_rfl];decide))]
theorem zB6 {k m:Nat} (hk:k<4) (hm:m<2) (h:¬ (k=3∧m=1)):(zj2 k m).chk=if m=0 then 0 else 6:=by
 have key:∀ (k m:Nat),k<4→m<2→¬ (k=3∧m=1)→(k=0∧m=1)∨(k=1∧m=1)∨(k=2∧m=1)∨(m=0∧(k=0∨k=1∨k=2∨k=3)):=fun k m h1 h2 h3=>by omega
 have good:∀ k m:Nat,(zj2 k m).n≠0→¬ 12<(zj2 k m).n→dck (zj2 k m).dm (zj2 k m).n=0→tol (zj2 k m).dm (zj2 k m).n=false→fe (fun i=>opl ((zj2 k m).op i) ((zj2 k m).ol i)) (zj2 k m).m=0→(zj2 k m).chk=if 4096<chn (zj2 k m).ol (zj2 k m).m∨16<(zj2 k m).q then 6 else fe (rqe (zj2 k m).n (zj2 k m).rq) (zj2 k m).q:=fun k m h1 h2 h3 h4 h5=>by
  unfold Offg.chk
  rw [if_neg h1,if_neg h2,if_neg (fun e=>e h3),if_neg (by rw [h4];decide),if_neg (fun e=>e rfl),if_neg (fun e=>e h5)]
 rcases key k m hk hm h with ⟨rfl,rfl⟩ | ⟨rfl,rfl⟩ | ⟨rfl,rfl⟩ | ⟨rfl,rfl | rfl | rfl | rfl⟩
 ·unfold Offg.chk
  rw [if_neg (by decide),if_pos (by decide)];rfl
 ·unfold Offg.chk
  rw [if_neg (by decide),if_neg (by decide),if_neg (by rw [show dck (zj2 1 1).dm (zj2 1 1).n=0 by kernel_rfl];decide),if_neg (by rw [show tol (zj2 1 1).dm (zj2 1 1).n=false by kernel_rfl];decide),if_neg (fun e=>e rfl),if_pos (by rw [show fe (fun i=>opl ((zj2 1 1).op i) ((zj2 1 1).ol i)) (zj2 1 1).m=6 by kernel_rfl];decide)]
  show fe (fun i=>opl ((zj2 1 1).op i) ((zj2 1 1).ol i)) (zj2 1 1).m=6
  kernel_rfl
 ·rw [good 2 1 (by decide) (by decide) (by kernel_rfl) (by kernel_rfl) (by kernel_rfl),if_pos (.inr (by decide))];rfl
 ·rw [good 0 0 (by decide) (by decide) (by kernel_rfl) (by kernel_rfl) (by kernel_rfl),if_neg (by rw [show chn (zj2 0 0).ol (zj2 0 0).m=1 by kernel_rfl,show (zj2 0 0).q=0 from rfl];decide)];rfl
 ·rw [good 1 0 (by decide) (by decide) (by kernel_rfl) (by kernel_rfl) (by kernel_rfl),if_neg (by rw [show chn (zj2 1 0).ol (zj2 1 0).m=4096 by kernel_rfl,show (zj2 1 0).q=0 from rfl];decide)];rfl
 ·rw [good 2 0 (by decide) (by decide) (by kernel_rfl) (by kernel_rfl) (by kernel_rfl),if_neg (by rw [show chn (zj2 2 0).ol (zj2 2 0).m=1 by kernel_rfl,show (zj2 2 0).q=16 from rfl];decide)]
  exact zm1.2 fun i hi=>limR_rqe _ hi
 rw [good 3 0 (by decide) (by decide) (by kernel_rfl) (by kernel_rfl) (by kernel_rfl),if_neg (by rw [show chn (zj2 3 0).ol (zj2 3 0).m=512 by kernel_rfl,show (zj2 3 0).q=0 from rfl];decide)];rfl
def ERl (_:World) (x:Rqg) (vs:List Value):Prop:=(x.x.tn=0∧x.x.na=0)∧vs=[ze3 x.nm,.int .i64 x.x.op,ze3 x.x.c,.slice none 0 0,ze3 x.x.k,.slice none 0 0,ze3 x.lo,ze3 x.hi]
theorem zm2:zn8 ERl []:=fun _ _ _ _ _ h=>h
theorem zX2 {w:World} (i:Nat):ERl w (zn9 i) [ze3 (Dsc.ltr (97+i)),.int .i64 0,ze3 [48],.slice none 0 0,ze3 [],.slice none 0 0,ze3 [],ze3 []]:=⟨⟨rfl,rfl⟩,rfl⟩
theorem erl_erg {w:World} {x:Rqg} {vs:List Value} (h:ERl w x vs):ERg w x vs:=by
 obtain ⟨⟨h1,h2⟩,rfl⟩:=h
 refine ⟨_,0,_,0,rfl,?_,?_⟩
 ·rw [h1];exact Sl.nil _ _ _ _ none 0
 rw [h2];exact Sl.nil _ _ _ _ none 0
theorem one_dg (w:World):∀ x vs,EDg w x vs→∀ y ∈ vs,y.oneCell'=true:=fun x vs h y hy=>by
 unfold EDg at h;subst h
 simp only [List.mem_cons,List.not_mem_nil,or_false] at hy
 rcases hy with rfl | rfl | rfl | rfl<;>rfl
theorem lim_call {D:Offg} (hr:D.rq=zn9) (hn:D.n≤64) {ds os rs:Value} {w:World} (hm:Mx w) (h1:Sl EDg 71 4 w ds (tb (fun z1=>D.dm z1) D.n)) (h2:Sl (ERw EOp 68 3) 72 1 w os (tb (fun z0=>tb (fun z1=>D.op z0 z1) (D.ol z0)) D.m)) (h3:Sl ERl 80 8 w rs (tb (fun z1=>zn9 z1) D.q)):
  Calls Tryz.prog 14 #[.agg #[ds,os,rs]] w fun e w'=>e=.returned (.int .i64 D.chk)∧Gr w w':=by
 have aa:Sl (ESl EOp 3) 72 1 w os (tb (fun z0=>tb (fun z1=>D.op z0 z1) (D.ol z0)) D.m):=h2.tbm fun i _ _ ⟨u,e,hs⟩=>⟨u,_,e,hs⟩
 refine zM7 (D:=D) (fun i _=>by rw [hr];exact Nat.zero_le _) (fun i _=>by rw [hr];exact Nat.zero_le _) hm h1 aa (by rw [hr];exact h3.tbm fun _ _ _=>erl_erg) (fun r _ u T v S hu hv w1 g=>?_)
 rw [hr] at hu hv ⊢
 obtain ⟨ao,cap,rfl,_⟩:=hv.form
 have h4:=zF1 (N:=D.n) hn (x:=(zn9 r).x) rfl (ao:=ao) (cap:=cap) (hm.gr g) (hu.gr zv8 g)
 rw [za8]
 refine h4.mono fun e w' he=>⟨he.1.trans (congrArg (fun z=>Ending.returned (.int .i64 z)) ?_),he.2⟩
 rw [zO3,zO2]
theorem zm3 {D:Offg} {z:Int} (hz:D.chk=z) (hr:D.rq=zn9) (hn:D.n≤64) {ds os rs:Value} {w:World} (hm:Mx w) (h1:Sl EDg 71 4 w ds (tb (fun z1=>D.dm z1) D.n)) (h2:Sl (ERw EOp 68 3) 72 1 w os (tb (fun z0=>tb (fun z1=>D.op z0 z1) (D.ol z0)) D.m)) (h3:Sl ERl 80 8 w rs (tb (fun z1=>zn9 z1) D.q)):
  Calls Tryz.prog 14 #[.agg #[ds,os,rs]] w fun e w'=>e=.returned (.int .i64 z)∧Gr w w':=by
 subst hz;exact lim_call hr hn hm h1 h2 h3
theorem lim_nil {w:World} {T:Nat}:Sl ERl T 8 w (.slice none 0 0) (tb (fun z1=>zn9 z1) 0):=Sl.nil _ _ _ _ none 0
end Go.Proofs.YtjhflekncldflaaGreatDoor
