/- Joined of: Gen214, Opk, Vo, Vp, Ds, Oc, Gen227. -/
import Derived.Test.YtjhflekncldflaaGreatDoorPartE
import Derived.Test.YtjhflekncldflaaGreatDoorPartF
import Derived.Test.YtjhflekncldflaaGreatDoorPartD
import Derived.Laws.BytesString
import Derived.Test.YtjhflekncldflaaGreatDoorPartB
namespace Go.Proofs.YtjhflekncldflaaGreatDoor
set_option maxRecDepth 100000
set_option maxHeartbeats 8000000
open Go.RowKit

theorem al_open {D:Ofr} {ds os rs:Value} (ok:D.Ok) {w:World} (hm:Mx w) (hck:∀ w1,Gr w w1→Calls Tryz.prog 14 #[.agg #[ds,os,rs]] w1 fun e w'=>e=.returned (iT 0)∧Gr w1 w') (hds:Sl EDm 71 4 w ds (tb (fun z1=>(D.nom z1)) D.n)) (hos:Sl (ERw EOp 68 3) 72 1 w os (tb (fun z0=>tb (fun z1=>(D.op z0 z1)) (D.ol z0)) D.n)) (hrs:Sl ERq 80 8 w rs (tb (fun z1=>(D.rq z1)) D.q)):
    Calls Tryz.prog 46 #[.agg #[ds,os,rs]] w fun e w'=>(∃ dk sp cs ch,e=.returned (.tuple #[pT dk 0,iT 0])∧Lc w' dk #[ds,os,rs,sp,cs,ch] 158∧w.heap.size≤dk∧Dsk w' D ds os rs sp cs ch)∧Gr w w':=by
 have n1:=ok.n1
 have n2:=ok.n2
 have iJ:=ok.q2
 go_enter Tryz.func46,Tryz.ntmps46
 have hB:=Gr.refl w
 refine wp_seq_k (fun jI ia=>rg [0,1,2] ?_)
 refine se ?_
 refine eb 26 #[ds,os,rs] 1 hB fun ba jj js ai jb jD hB=>?_
 simp only [p3,p4]
 refine sv 2 (.pointer none) ?_
 refine sv 3 (iT 0) (za0 (ia _ _ ?_))
 refine wp_seq_k (fun iB h9=>wp_seq_k (fun iv hE=>rg [0,1,2] ?_))
 refine sw 23 (.agg #[ds,os,rs]) rfl (rl 26 0 [ds,os,rs] ai) ?_
 refine se ?_
 refine ec 24 (hck _ hB) ?_
 rintro jl iQ ⟨rfl,gh⟩
 refine ⟨_,rfl,?_⟩
 replace hB:=hB.trans gh
 simp only [p3,p4]
 refine sv 4 (iT 0) (za0 (hE _ _ ?_))
 refine wp_seq_k (fun jA hO=>rg [0,1] (sv 25 (iT 0) ?_))
 refine sv 26 (.bool false) (za0 (hO _ _ ?_))
 refine wp_cond_false rfl ?_
 refine wp_skip ?_
 refine h9 _ _ ?_
 refine wp_seq_k (fun i6 hb=>rg [0,1,2,3] ?_)
 replace ai:=ai.gr gh
 refine sw 28 (.agg #[ds,os,rs]) rfl (rl 26 0 [ds,os,rs] ai) ?_
 refine sv 29 (.agg #[ds,os,rs,sN,sN,sN]) ?_
 refine se ?_
 refine eb 158 #[ds,os,rs,sN,sN,sN] 30 hB fun aq iW gP ah gG dz hB=>?_
 have ar:=ai.ne gG
 simp only [p3,p4]
 refine sv 5 (pT aq 0) (za0 (hb _ _ ?_))
 refine wp_seq_k (fun jF gN=>wp_seq_k (fun iO gt=>rg [0,1,2,3] (sv 31 (pT ba 1) ?_)))
 replace ai:=ai.gr gP
 refine sw 32 os rfl (rk 23 1 ai) ?_
 refine sw 33 (iT ((D.n:Nat):Int)) rfl (za9 (e:=72) hos (za8 rfl) _ _ rfl rfl (by kernel_rfl)) ?_
 refine sv 34 (iT 0) (za0 (gt _ _ ?_))
 refine wp_block ?_
 refine zb2 (a:=⟨List.toArray ?l20,[]⟩) (fun n a w'=>∃ (k:Nat) (vc:Value) (aM:Nat→Value),D.n - k=n∧a=⟨[.agg #[ds,os,rs],pT ba 0,.pointer none,iT 0,iT 0,pT aq 0,undef,aM 7,undef,undef,undef,undef,undef,undef,undef,undef,undef,undef,undef,undef,undef,undef,undef,aM 23,aM 24,aM 25,.bool false,undef,aM 28,aM 29,aM 30,aM 31,os,iT ((D.n:Nat):Int),iT (k:Int),aM 35,aM 36,aM 37,aM 38,aM 39,aM 40,aM 41,aM 42,aM 43,aM 44,aM 45,aM 46,aM 47,aM 48,aM 49,aM 50,undef,undef,undef,undef,undef,undef,undef,undef,undef,undef,undef,undef,undef,undef,undef,undef,undef,undef,undef,undef,undef,undef,undef,undef,undef,undef,undef,undef,undef,undef,undef,undef,undef,undef,undef,undef,undef,undef,undef,undef,undef,undef,undef,undef,undef,undef,undef,undef,undef,undef,undef,undef,undef,undef,undef,undef,undef,undef,undef,undef,undef,undef,undef,undef,undef,undef,undef,undef,undef,undef,undef,undef,undef,undef,undef,undef,undef,undef,undef,undef,undef,undef,undef,undef,undef,undef,undef,undef,undef,undef,undef,undef,undef,undef,undef,undef,undef,undef,undef,undef,undef,undef,undef,undef,undef,undef,undef,undef,undef,undef,undef,undef,undef,undef,undef,undef,undef,undef,undef,undef,undef].toArray,[]⟩∧k≤D.n∧Ow EI64 3 1 w' w.heap.size vc (tb (fun z1=>(D.ch z1)) k)∧Lc w' ba #[ds,os,rs] 26∧Lc w' aq #[ds,os,rs,sN,sN,vc] 158∧Gr w w') (D.n - 0) ?_ ?_
 ·exact ⟨0,sN,(fun i=>List.getD ?l20 i undef),rfl,rfl,Nat.zero_le _,Ow.nil _ _ _ _ _,ai,ah,hB⟩
 rintro jy iL hU ⟨k,vc,aM,rfl,rfl,hkk,oc,ai,ah,hB⟩ i2 gx
 refine wp_seq_k (fun iG ie=>rg [0] (sv 35 (.bool (decide ((k:Int)<((D.n:Nat):Int)))) ?_))
 refine za0 (ie _ _ ?_)
 refine wp_seq_k (fun iw gM=>?_)
 refine wp_cond_split rfl (fun dY=>?_) (fun dY=>?_)
 ·have hlk:k<D.n:=by have:=of_decide_eq_true dY;omega
  refine wp_skip ?_
  refine gM _ _ ?_
  refine wp_seq_k (fun iE iu=>?_)
  refine wp_block ?_
  refine wp_seq_k (fun jc g5=>rg [0,1,2] ?_)
  refine sw 36 (adr os (k*1)) rfl (zb1 (e:=72) hos za7 (by decide) k (by omega) _ _ _ rfl rfl rfl (by kernel_rfl) (by kernel_rfl)) ?_
  obtain ⟨_,_,⟨eS,rfl,f3⟩,fI⟩:=Sl.get hos (by decide) (zb5 (f:=(fun z0=>tb (fun z1=>(D.op z0 z1)) (D.ol z0))) (n:=D.n) (i:=k) (by omega))
  refine sw 37 eS rfl (zc7 eS (fI.gr hB) _ _ rfl rfl (by kernel_rfl)) ?_
  refine sv 7 eS (za0 (g5 _ _ ?_))
  have di:=Gr.drew hU
  replace hB:=hB.trans di
  replace ah:=ah.gr di
  refine zd2 (fun _=>True) [([12],(fun w'=>Lc w' aq #[ds,os,rs,sN,sN,vc] 158))] [(true,0),(true,1),(true,2),(true,3),(true,4),(true,5),(false,6),(true,7),(false,8),(false,9),(true,10),(true,11),(false,12)] (by kernel_rfl) (by kernel_rfl) (by kernel_rfl) (by decide) (fun _ _ _ _ _ h=>h) trivial ⟨fun _=>ah,trivial⟩ ?_
  refine tv 38 (pT aq 0) ?_
  refine tv 39 (pT aq 0) ?_
  refine tv 40 (pT aq 0) ?_
  refine tv 41 (pT aq 5) ?_
  refine tw 42 vc rfl (fun w' hS=>(rk 40 5 (hS.2.1 (by kernel_rfl)))) ?_
  refine tv 43 eS ?_
  refine te ?_
  refine ec 44 (min_opt ok hlk (f3.gr za4 hB)) ?_
  rintro jn jC ⟨⟨ig,gl,rfl⟩,eQ⟩
  refine ⟨_,rfl,?_⟩
  replace hB:=hB.trans eQ
  replace ah:=ah.gr eQ
  refine ⟨trivial,⟨fun _=>ah,trivial⟩,?_⟩
  simp only [p3,p4]
  refine tv 45 (iT (D.ch k)) ?_
  refine te ?_
  refine zc5 3 1 #[iT (D.ch k)] (some 46) rfl (fun _=>by kernel_rfl) (fun gy jp fa hu ix=>?_)
  replace ai:=ai.gr (di.trans eQ)
  replace hB:=hB.trans fa
  replace ah:=ah.gr fa
  refine ⟨trivial,⟨fun _=>ah,trivial⟩,?_⟩
  simp only [zd0,p3,p4]
  refine te ?_
  replace oc:=oc.gr za2 (di.trans (eQ.trans fa))
  refine zd9 za2 _ _ 40 3 w.heap.size (iT 0) vc (tb (fun z1=>(D.ch z1)) k) gy [iT (D.ch k)] ((D.ch k):Int) 1 1 (some 47) 8 rfl rfl rfl rfl oc hu ⟨rfl,trivial⟩ rfl rfl (Below.size hB) (by rw [za7];omega) (by decide) (by kernel_rfl) (by kernel_rfl) (by decide) (by decide) (fun fd jq bF eA fk=>?_)
  replace hB:=fk _ hB (Nat.le_refl _)
  replace bF:=bF.cast (zd8 (f:=(fun z1=>(D.ch z1))) (n:=k) (by first | rfl | exact ze1))
  replace ah:=eA.lc ah (by decide)
  refine ⟨trivial,⟨fun _=>ah,trivial⟩,?_⟩
  simp only [zd0,p3,p4]
  refine tv 48 (pT aq 0) ?_
  refine tv 49 (pT aq 5) ?_
  refine te ?_
  have fH:=ah
  refine es (hv:=(by obtain ⟨_,_,e,_⟩:=(bF.sl).form;rw [e];rfl)) 40 5 fd [fd] #[ds,os,rs,sN,sN,fd] ah hB dz ⟨bF.one,trivial⟩ fun iY eG ik ah hB=>?_
  refine ⟨trivial,⟨zf9 (by kernel_rfl),trivial⟩,?_⟩
  refine zg4 ?_
  refine iu _ _ ?_
  refine rg [0,1] ?_
  refine sw 50 (iT ((k:Int)+1)) rfl (rwI ((k:Int)+1)) ?_
  refine sv 34 (iT ((k:Int)+1)) ?_
  refine za0 ?_
  replace bF:=bF.kts za2 (eG.kts fH (by decide))
  replace ai:=eG.lc (eA.lc (ai.gr fa) (by decide)) ar
  refine gx (D.n - (k+1)) ⟨List.toArray ?l46,[]⟩ _ (by omega) ?_
  exact ⟨k+1,fd,(fun i=>List.getD ?l46 i undef),rfl,rfl,(by omega),bF,ai,ah,hB⟩
 have hek:D.n=k:=by have:=of_decide_eq_false dY;omega
 subst hek
 refine wp_exit ?_
 simp only [Exit.then,Exit.inBlock,↓reduceIte]
 refine gN _ _ ?_
 refine wp_seq_k (fun iZ hY=>wp_seq_k (fun jz gS=>rg [0,1,2,3] (sv 51 (pT ba 2) ?_)))
 refine sw 52 rs rfl (rk 24 2 ai) ?_
 refine sw 53 (iT ((D.q:Nat):Int)) rfl (za9 (e:=80) hrs (za8 rfl) _ _ rfl rfl (by kernel_rfl)) ?_
 refine sv 54 (iT 0) (za0 (gS _ _ ?_))
 refine wp_block ?_
 refine zb2 (a:=⟨List.toArray ?l49,[]⟩) (fun n a w'=>∃ (r:Nat) (vs:Value) (vk:Value) (aa:Nat→Value),D.q - r=n∧a=⟨[.agg #[ds,os,rs],pT ba 0,.pointer none,iT 0,iT 0,pT aq 0,undef,aM 7,undef,aa 9,aa 10,undef,aa 12,aa 13,aa 14,aa 15,aa 16,undef,aa 18,aa 19,aa 20,aa 21,aa 22,aa 23,aa 24,aa 25,.bool false,undef,aa 28,aa 29,aa 30,aa 31,os,iT ((D.n:Nat):Int),iT ((D.n):Int),.bool (decide (((D.n):Int)<((D.n:Nat):Int))),aa 36,aa 37,aa 38,aa 39,aa 40,aa 41,aa 42,aa 43,aa 44,aa 45,aa 46,aa 47,aa 48,aa 49,aa 50,aa 51,rs,iT ((D.q:Nat):Int),iT (r:Int),aa 55,aa 56,aa 57,aa 58,aa 59,aa 60,aa 61,aa 62,aa 63,aa 64,aa 65,aa 66,aa 67,aa 68,aa 69,aa 70,aa 71,aa 72,aa 73,aa 74,aa 75,aa 76,aa 77,aa 78,aa 79,aa 80,aa 81,aa 82,aa 83,aa 84,aa 85,aa 86,aa 87,aa 88,aa 89,aa 90,aa 91,aa 92,aa 93,aa 94,aa 95,aa 96,aa 97,aa 98,aa 99,aa 100,aa 101,aa 102,aa 103,aa 104,aa 105,aa 106,aa 107,aa 108,aa 109,aa 110,aa 111,aa 112,aa 113,aa 114,aa 115,aa 116,aa 117,aa 118,aa 119,aa 120,aa 121,aa 122,aa 123,aa 124,aa 125,aa 126,aa 127,aa 128,aa 129,aa 130,aa 131,aa 132,aa 133,aa 134,aa 135,aa 136,aa 137,aa 138,aa 139,aa 140,aa 141,aa 142,aa 143,aa 144,aa 145,aa 146,aa 147,aa 148,aa 149,aa 150,aa 151,aa 152,aa 153,aa 154,aa 155,aa 156,aa 157,aa 158,aa 159,aa 160,aa 161,aa 162,aa 163,aa 164,aa 165,aa 166,aa 167,aa 168,aa 169,aa 170,undef].toArray,[]⟩∧r≤D.q∧Ow (ERw (ERw (ESp 64) 124 8) 162 1) 161 1 w' w.heap.size vs (tb (fun z0=>tb (fun z1=>tb (fun z2=>(D.sp z0 z1 z2)) (D.ol z1)) D.n) r)∧Ow (ERat 64) 62 4 w' w.heap.size vk (tb (fun z1=>(D.cn z1)) r)∧Ow EI64 3 1 w' w.heap.size vc (tb (fun z1=>(D.ch z1)) D.n)∧Lc w' ba #[ds,os,rs] 26∧Lc w' aq #[ds,os,rs,vs,vk,vc] 158∧Gr w w') (D.q - 0) ?_ ?_
 ·exact ⟨0,sN,sN,(fun i=>List.getD ?l49 i undef),rfl,rfl,Nat.zero_le _,Ow.nil _ _ _ _ _,Ow.nil _ _ _ _ _,oc,ai,ah,hB⟩
 rintro jG jE e3 ⟨r,vs,vk,aa,rfl,rfl,hkr,os_,ok_,oc,ai,ah,hB⟩ iS fp
 have lehR:=Below.size hB
 have hR:=Gr.refl e3
 refine wp_seq_k (fun i5 ir=>rg [0] (sv 55 (.bool (decide ((r:Int)<((D.q:Nat):Int)))) ?_))
 refine za0 (ir _ _ ?_)
 refine wp_seq_k (fun iR g4=>?_)
 refine wp_cond_split rfl (fun dL=>?_) (fun dL=>?_)
 ·have hlr:r<D.q:=by have:=of_decide_eq_true dL;omega
  refine wp_skip ?_
  refine g4 _ _ ?_
  refine wp_seq_k (fun jB fP=>?_)
  refine wp_block ?_
  refine wp_seq_k (fun iF gR=>rg [0,1,2,3] ?_)
  refine sw 56 (adr rs (r*8)) rfl (zb1 (e:=80) hrs za7 (by decide) r (by omega) _ _ _ rfl rfl rfl (by kernel_rfl) (by kernel_rfl)) ?_
  obtain ⟨_,_,⟨dx,b0,rfl,b2⟩,fA⟩:=Sl.get hrs (by decide) (zb5 (f:=(fun z1=>(D.rq z1))) (n:=D.q) (i:=r) (by omega))
  refine sw 57 (.agg #[sV dx,iT 0,sV (zc3 (D.cn r)),b0,sV [],sN,sV (tO (D.hl r) (D.vl r)),sV (tO (D.hh r) (D.vh r))]) rfl (ze7 [sV dx,iT 0,sV (zc3 (D.cn r)),b0,sV [],sN,sV (tO (D.hl r) (D.vl r)),sV (tO (D.hh r) (D.vh r))] (fA.gr hB) _ _ rfl rfl (by kernel_rfl)) ?_
  refine se ?_
  refine ea 80 #[sV [],iT 0,sV [],sN,sV [],sN,sV [],sV []] 9 hB fun bP i0 fU az fq hV hB=>?_
  have db:=ai.ne fq
  have c6:=ah.ne fq
  have dE:=Nat.le_trans (Below.size hR) fq
  replace hR:=hR.trans fU
  simp only [p3,p4]
  refine se ?_
  refine es 80 0 (.agg #[sV dx,iT 0,sV (zc3 (D.cn r)),b0,sV [],sN,sV (tO (D.hl r) (D.vl r)),sV (tO (D.hh r) (D.vh r))]) [sV dx,iT 0,sV (zc3 (D.cn r)),b0,sV [],sN,sV (tO (D.hl r) (D.vl r)),sV (tO (D.hh r) (D.vh r))] #[sV dx,iT 0,sV (zc3 (D.cn r)),b0,sV [],sN,sV (tO (D.hl r) (D.vl r)),sV (tO (D.hh r) (D.vh r))] az hB hV ⟨rfl,rfl,rfl,b2.one,rfl,rfl,rfl,rfl,trivial⟩ fun i9 d9 g3 az hB=>?_
  replace hR:=d9.gr hR dE
  refine za0 (gR _ _ ?_)
  refine wp_seq_k (fun jw hy=>rg [0,1,2,3,4] (sv 58 (pT ba 0) ?_))
  replace ai:=d9.lc (ai.gr fU) db
  refine sw 59 ds rfl (rk 22 0 ai) ?_
  refine sw 60 (iT ((D.n:Nat):Int)) rfl (za9 (e:=71) hds (za8 rfl) _ _ rfl rfl (by kernel_rfl)) ?_
  refine se ?_
  refine eff_mk (E:=(ERat 64)) (0:Rat) 146 62 (.agg #[.bool false,sN,.bool false,sN]) D.n 4 64 (some 61) rfl rfl rfl rfl (by kernel_rfl) (by kernel_rfl) (by decide) (by omega) (by decide) (fun w2=>yd8 64 (by omega) w2) (fun bX jo er fV dA=>?_)
  have dq:=ai.ne dA
  replace ah:=d9.lc (ah.gr fU) c6
  have dt:=ah.ne dA
  have c9:=az.ne dA
  have dH:=Nat.le_trans (Below.size hR) dA
  replace dA:=Nat.le_trans (Below.size hB) dA
  replace hB:=hB.trans er
  replace hR:=hR.trans er
  simp only [zd0,p3,p4]
  refine sv 10 (sT bX D.n D.n) (za0 (hy _ _ ?_))
  refine wp_seq_k (fun iX g6=>wp_seq_k (fun ju gO=>?_))
  replace b2:=(b2.cast (show (D.rq r).ts=D.tms r from rfl)).cast (list_tb (d:=((0:Nat),(0:Rat)))).symm
  refine rg [0,1,2,3,4,5] (sv 62 (pT bP 1) ?_)
  refine sv 63 (pT bP 2) ?_
  refine sv 64 (pT bP 3) ?_
  replace az:=az.gr er
  refine sw 65 b0 rfl (rk 73 3 az) ?_
  refine sw 66 (iT (((D.tms r).length:Nat):Int)) rfl (za9 (e:=110) b2 (za8 rfl) _ _ rfl rfl (by kernel_rfl)) ?_
  refine sv 67 (iT 0) (za0 (gO _ _ ?_))
  refine wp_block ?_
  replace ai:=ai.gr er
  replace ah:=ah.gr er
  refine zb2 (a:=⟨List.toArray ?l62,[]⟩) (fun n a w'=>∃ (j:Nat) (ae:Nat→Value),(D.tms r).length - j=n∧a=⟨[.agg #[ds,os,rs],pT ba 0,.pointer none,iT 0,iT 0,pT aq 0,undef,aM 7,undef,pT bP 0,sT bX D.n D.n,undef,ae 12,aa 13,aa 14,aa 15,aa 16,undef,aa 18,aa 19,aa 20,aa 21,ae 22,ae 23,ae 24,ae 25,.bool false,undef,ae 28,ae 29,ae 30,ae 31,os,iT ((D.n:Nat):Int),iT ((D.n):Int),.bool (decide (((D.n):Int)<((D.n:Nat):Int))),ae 36,ae 37,ae 38,ae 39,ae 40,ae 41,ae 42,ae 43,ae 44,ae 45,ae 46,ae 47,ae 48,ae 49,ae 50,ae 51,rs,iT ((D.q:Nat):Int),iT (r:Int),.bool (decide ((r:Int)<((D.q:Nat):Int))),ae 56,ae 57,ae 58,ae 59,ae 60,ae 61,ae 62,ae 63,ae 64,b0,iT (((D.tms r).length:Nat):Int),iT (j:Int),ae 68,ae 69,ae 70,ae 71,ae 72,ae 73,ae 74,ae 75,ae 76,ae 77,ae 78,ae 79,ae 80,ae 81,ae 82,aa 83,aa 84,aa 85,aa 86,ae 87,ae 88,ae 89,aa 90,aa 91,aa 92,aa 93,ae 94,ae 95,ae 96,ae 97,ae 98,ae 99,ae 100,ae 101,ae 102,ae 103,ae 104,ae 105,ae 106,ae 107,ae 108,ae 109,ae 110,ae 111,ae 112,ae 113,ae 114,ae 115,ae 116,ae 117,ae 118,ae 119,ae 120,ae 121,ae 122,ae 123,ae 124,ae 125,ae 126,ae 127,ae 128,ae 129,ae 130,ae 131,ae 132,ae 133,ae 134,ae 135,ae 136,ae 137,ae 138,ae 139,ae 140,ae 141,ae 142,ae 143,ae 144,ae 145,ae 146,ae 147,ae 148,ae 149,ae 150,ae 151,ae 152,ae 153,ae 154,ae 155,ae 156,ae 157,ae 158,ae 159,ae 160,ae 161,ae 162,ae 163,ae 164,ae 165,ae 166,ae 167,ae 168,ae 169,ae 170,undef].toArray,[]⟩∧j≤(D.tms r).length∧Mk (ERat 64) 62 4 w' bX (tb (D.fcj r j) D.n)∧Lc w' ba #[ds,os,rs] 26∧Lc w' aq #[ds,os,rs,vs,vk,vc] 158∧Lc w' bP #[sV dx,iT 0,sV (zc3 (D.cn r)),b0,sV [],sN,sV (tO (D.hl r) (D.vl r)),sV (tO (D.hh r) (D.vh r))] 80∧Gr e3 w'∧Gr w w') ((D.tms r).length - 0) ?_ ?_
  ·exact ⟨0,(fun i=>List.getD ?l62 i undef),rfl,rfl,Nat.zero_le _,fV.cast (rep_tb (d:=(0:Rat))),ai,ah,az,hR,hB⟩
  rintro jd jh eE ⟨j,ae,rfl,rfl,hkj,hfk,ai,ah,az,hR,hB⟩ iN hp
  have htl:=zK8 (D:=D) (r:=r)
  have id:j<(D.tms r).length→((D.tms r).getD j (0,0)).1<D.n:=fun h=>yb0 h
  refine wp_seq_k (fun jg gZ=>rg [0] (sv 68 (.bool (decide ((j:Int)<(((D.tms r).length:Nat):Int)))) ?_))
  refine za0 (gZ _ _ ?_)
  refine wp_seq_k (fun jk gY=>?_)
  refine wp_cond_split rfl (fun dN=>?_) (fun dN=>?_)
  ·have hlj:j<(D.tms r).length:=by have:=of_decide_eq_true dN;omega
   refine wp_skip ?_
   refine gY _ _ ?_
   refine wp_seq_k (fun iM gu=>?_)
   refine wp_block ?_
   refine wp_seq_k (fun jH gJ=>rg [0,1,2,3] ?_)
   refine sw 69 (adr b0 (j*2)) rfl (zb1 (e:=110) b2 za7 (by decide) j (by omega) _ _ _ rfl rfl rfl (by kernel_rfl) (by kernel_rfl)) ?_
   obtain ⟨_,_,rfl,fY⟩:=Sl.get b2 (by decide) (zb5 (f:=(fun z1=>((D.tms r).getD z1 (0,0)))) (n:=(D.tms r).length) (i:=j) (by omega))
   refine sw 70 (.agg #[iT ((((D.tms r).getD j (0,0)).1:Nat):Int),sV (zc3 (((D.tms r).getD j (0,0)).2))]) rfl (ze7 [iT ((((D.tms r).getD j (0,0)).1:Nat):Int),sV (zc3 (((D.tms r).getD j (0,0)).2))] (fY.gr hB) _ _ rfl rfl (by kernel_rfl)) ?_
   refine se ?_
   refine ea 110 #[iT 0,sV []] 12 hB fun fR ji ex cW eN gU hB=>?_
   have dd:=ai.ne eN
   have da:=ah.ne eN
   have c7:=az.ne eN
   have fE:=eN
   have dV:=Nat.le_trans (Below.size hR) eN
   replace hR:=hR.trans ex
   simp only [p3,p4]
   refine se ?_
   refine es 110 0 (.agg #[iT ((((D.tms r).getD j (0,0)).1:Nat):Int),sV (zc3 (((D.tms r).getD j (0,0)).2))]) [iT ((((D.tms r).getD j (0,0)).1:Nat):Int),sV (zc3 (((D.tms r).getD j (0,0)).2))] #[iT ((((D.tms r).getD j (0,0)).1:Nat):Int),sV (zc3 (((D.tms r).getD j (0,0)).2))] cW hB gU ⟨rfl,rfl,trivial⟩ fun gD cf gk cW hB=>?_
   replace hR:=cf.gr hR dV
   refine za0 (gJ _ _ ?_)
   have bE:=Gr.drew gD
   replace hB:=hB.trans bE
   replace hR:=hR.trans bE
   replace cW:=cW.gr bE
   refine za5 (fun w'=>Lc w' fR #[iT ((((D.tms r).getD j (0,0)).1:Nat):Int),sV (zc3 (((D.tms r).getD j (0,0)).2))] 110) [(true,0),(true,1),(true,2),(true,3),(true,4),(false,5),(true,6),(true,7),(true,8),(true,9),(false,10)] (by kernel_rfl) (by kernel_rfl) (by kernel_rfl) (by decide) (fun _ _ _ _ _ h=>h) cW ?_
   refine ov 72 (sT bX D.n D.n) ?_
   refine ov 73 (pT fR 0) ?_
   refine ow 74 (iT ((((D.tms r).getD j (0,0)).1:Nat):Int)) rfl (fun w' hS=>(rk 3 0 hS)) ?_
   refine ov 75 (pT fR 1) ?_
   refine ow 76 (sV (zc3 (((D.tms r).getD j (0,0)).2))) rfl (fun w' hS=>(rk 33 1 hS)) ?_
   refine oe ?_
   refine ec 77 (zs3 (((D.tms r).getD j (0,0)).2) (zG8 ok hlr hlj).sz64 (by omega) (by omega) (zs9 (zG8 ok hlr hlj)) _ (hm.gr hB)) ?_
   rintro je iI ⟨⟨eZ,eR,eY,fh,rfl,eL⟩,dW⟩
   refine ⟨_,rfl,?_⟩
   replace hB:=hB.trans dW
   replace hR:=hR.trans dW
   replace cW:=cW.gr dW
   refine ⟨cW,?_⟩
   simp only [p3,p4]
   refine ov 71 (.tuple #[.agg #[eZ,eR,eY,fh],iT 0]) ?_
   refine ov 78 (.agg #[eZ,eR,eY,fh]) ?_
   refine ov 79 (iT 0) ?_
   refine ow 80 (adr (sT bX D.n D.n) ((((D.tms r).getD j (0,0)).1)*4)) rfl (fun w' hS=>(zb1 (e:=62) (n:=D.n) (hfk.sl_n (n:=D.n) (cap:=D.n) za7 (Nat.le_refl _)) za7 (by decide) (((D.tms r).getD j (0,0)).1) (by omega) _ _ _ rfl rfl rfl (by kernel_rfl) (by kernel_rfl))) ?_
   refine oe ?_
   replace hfk:=hfk.gr (za6 64) (((cf.gr ex fE).trans bE).trans dW)
   refine eff_stm (za6 64) hfk (((D.tms r).getD j (0,0)).1) (by rw [za7];exact yb0 hlj) (((D.tms r).getD j (0,0)).2) (.agg #[eZ,eR,eY,fh]) [eZ,eR,eY,fh] (D.n) (D.n) 62 _ _ rfl rfl rfl rfl rfl (by kernel_rfl) rfl ⟨eL.one0,eL.one1,eL.one2,eL.one3,trivial⟩ ⟨_,_,_,_,rfl,eL.mono (by omega)⟩ (by decide) (fun iy cS fm fF=>?_)
   replace hB:=cS.gr hB dA
   replace hR:=cS.gr hR dH
   replace cW:=fm 110 (by decide) _ _ _ cW
   refine ⟨cW,?_⟩
   refine zb4 ?_
   refine gu _ _ ?_
   refine rg [0,1] ?_
   refine sw 81 (iT ((j:Int)+1)) rfl (rwI ((j:Int)+1)) ?_
   refine sv 67 (iT ((j:Int)+1)) ?_
   refine za0 ?_
   replace ai:=cS.lc ((cf.lc (ai.gr ex) dd).gr (bE.trans dW)) dq
   replace ah:=cS.lc ((cf.lc (ah.gr ex) da).gr (bE.trans dW)) dt
   replace az:=cS.lc ((cf.lc (az.gr ex) c7).gr (bE.trans dW)) c9
   refine hp ((D.tms r).length - (j+1)) ⟨List.toArray ?l81,[]⟩ _ (by omega) ?_
   exact ⟨j+1,(fun i=>List.getD ?l81 i undef),rfl,rfl,(by omega),fF.cast (set_tb.trans (congrArg (fun F=>tb F D.n) (fcj_set hlj))),ai,ah,az,hR,hB⟩
  have hej:(D.tms r).length=j:=by have:=of_decide_eq_false dN;omega
  refine wp_exit ?_
  simp only [Exit.then,Exit.inBlock,↓reduceIte]
  refine g6 _ _ ?_
  refine wp_seq_k (fun iH gw=>rg [0] (sv 13 (sN) ?_))
  refine za0 (gw _ _ ?_)
  refine wp_seq_k (fun i1 il=>wp_seq_k (fun iK ih=>rg [0,1,2,3] (sv 82 (pT ba 1) ?_)))
  refine sw 83 os rfl (rk 23 1 ai) ?_
  refine sw 84 (iT ((D.n:Nat):Int)) rfl (za9 (e:=72) hos (za8 rfl) _ _ rfl rfl (by kernel_rfl)) ?_
  refine sv 85 (iT 0) (za0 (ih _ _ ?_))
  refine wp_block ?_
  have hfa:=(hfk.sl_n (n:=D.n) (cap:=D.n) za7 (Nat.le_refl _)).cast (zw2 (g:=fun z1=>(D.fc r z1)) fun i hi=>by rw [← hej];exact fcj_all hi)
  have lehF:=Below.size hB
  have lehF_hR:=Below.size hR
  have hF:=Gr.refl eE
  refine zb2 (a:=⟨List.toArray ?l85,[]⟩) (fun n a w'=>∃ (i:Nat) (vr:Value) (ac:Nat→Value),D.n - i=n∧a=⟨[.agg #[ds,os,rs],pT ba 0,.pointer none,iT 0,iT 0,pT aq 0,undef,aM 7,undef,pT bP 0,sT bX D.n D.n,undef,ae 12,vr,ac 14,ac 15,ac 16,undef,ac 18,ac 19,ac 20,aa 21,ac 22,ac 23,ac 24,ac 25,.bool false,undef,ac 28,ac 29,ac 30,ac 31,os,iT ((D.n:Nat):Int),iT ((D.n):Int),.bool (decide (((D.n):Int)<((D.n:Nat):Int))),ac 36,ac 37,ac 38,ac 39,ac 40,ac 41,ac 42,ac 43,ac 44,ac 45,ac 46,ac 47,ac 48,ac 49,ac 50,ac 51,rs,iT ((D.q:Nat):Int),iT (r:Int),.bool (decide ((r:Int)<((D.q:Nat):Int))),ac 56,ac 57,ac 58,ac 59,ac 60,ac 61,ac 62,ac 63,ac 64,b0,iT (((D.tms r).length:Nat):Int),iT (j:Int),.bool (decide ((j:Int)<(((D.tms r).length:Nat):Int))),ac 69,ac 70,ac 71,ac 72,ac 73,ac 74,ac 75,ac 76,ac 77,ac 78,ac 79,ac 80,ac 81,ac 82,os,iT ((D.n:Nat):Int),iT (i:Int),ac 86,ac 87,ac 88,ac 89,ac 90,ac 91,ac 92,ac 93,ac 94,ac 95,ac 96,ac 97,ac 98,ac 99,ac 100,ac 101,ac 102,ac 103,ac 104,ac 105,ac 106,ac 107,ac 108,ac 109,ac 110,ac 111,ac 112,ac 113,ac 114,ac 115,ac 116,ac 117,ac 118,ac 119,ac 120,ac 121,ac 122,ac 123,ac 124,ac 125,ac 126,ac 127,ac 128,ac 129,ac 130,ac 131,ac 132,ac 133,ac 134,ac 135,ac 136,ac 137,ac 138,ac 139,ac 140,ac 141,ac 142,ac 143,ac 144,ac 145,ac 146,ac 147,ac 148,ac 149,ac 150,ac 151,ac 152,ac 153,ac 154,ac 155,ac 156,ac 157,ac 158,ac 159,ac 160,ac 161,ac 162,ac 163,ac 164,ac 165,ac 166,ac 167,ac 168,ac 169,ac 170,undef].toArray,[]⟩∧i≤D.n∧Ow (ERw (ESp 64) 124 8) 162 1 w' eE.heap.size vr (tb (fun z1=>tb (fun z2=>(D.sp r z1 z2)) (D.ol z1)) i)∧Lc w' ba #[ds,os,rs] 26∧Lc w' aq #[ds,os,rs,vs,vk,vc] 158∧Lc w' bP #[sV dx,iT 0,sV (zc3 (D.cn r)),b0,sV [],sN,sV (tO (D.hl r) (D.vl r)),sV (tO (D.hh r) (D.vh r))] 80∧Gr e3 w'∧Gr eE w'∧Gr w w') (D.n - 0) ?_ ?_
  ·exact ⟨0,sN,(fun i=>List.getD ?l85 i undef),rfl,rfl,Nat.zero_le _,Ow.nil _ _ _ _ _,ai,ah,az,hR,hF,hB⟩
  rintro iC iz eV ⟨i,vr,ac,rfl,rfl,hki,orr,ai,ah,az,hR,hF,hB⟩ iP gv
  have lehG:=Below.size hB
  have lehG_hR:=Below.size hR
  have lehG_hF:=Below.size hF
  have hG:=Gr.refl eV
  refine wp_seq_k (fun jr gp=>rg [0] (sv 86 (.bool (decide ((i:Int)<((D.n:Nat):Int)))) ?_))
  refine za0 (gp _ _ ?_)
  refine wp_seq_k (fun jx gF=>?_)
  refine wp_cond_split rfl (fun dG=>?_) (fun dG=>?_)
  ·have hli:i<D.n:=by have:=of_decide_eq_true dG;omega
   refine wp_skip ?_
   refine gF _ _ ?_
   refine wp_seq_k (fun jv hn=>?_)
   refine wp_block ?_
   refine wp_seq_k (fun jt iq=>rg [0,1,2,3,4] (sv 87 (iT (i:Int)) ?_))
   refine sw 88 (adr os (i*1)) rfl (zb1 (e:=72) hos za7 (by decide) i (by omega) _ _ _ rfl rfl rfl (by kernel_rfl) (by kernel_rfl)) ?_
   obtain ⟨_,_,⟨dT,rfl,dP⟩,ga⟩:=Sl.get hos (by decide) (zb5 (f:=(fun z0=>tb (fun z1=>(D.op z0 z1)) (D.ol z0))) (n:=D.n) (i:=i) (by omega))
   refine sw 89 dT rfl (zc7 dT (ga.gr hB) _ _ rfl rfl (by kernel_rfl)) ?_
   refine sv 14 (iT (i:Int)) ?_
   refine sv 15 dT (za0 (iq _ _ ?_))
   refine wp_seq_k (fun iD g7=>rg [0] (sv 16 (sN) ?_))
   refine za0 (g7 _ _ ?_)
   refine wp_seq_k (fun i7 h6=>wp_seq_k (fun iU hj=>rg [0,1,2] (sv 90 dT ?_)))
   refine sw 91 (iT ((D.ol i:Nat):Int)) rfl (za9 (e:=68) dP (za8 rfl) _ _ rfl rfl (by kernel_rfl)) ?_
   refine sv 92 (iT 0) (za0 (hj _ _ ?_))
   refine wp_block ?_
   refine zb2 (a:=⟨List.toArray ?l95,[]⟩) (fun n a w'=>∃ (k2:Nat) (vq:Value) (ad:Nat→Value),(D.ol i) - k2=n∧a=⟨[.agg #[ds,os,rs],pT ba 0,.pointer none,iT 0,iT 0,pT aq 0,undef,aM 7,undef,pT bP 0,sT bX D.n D.n,undef,ae 12,vr,iT (i:Int),dT,vq,undef,ad 18,ad 19,ad 20,aa 21,ad 22,ad 23,ad 24,ad 25,.bool false,undef,ad 28,ad 29,ad 30,ad 31,os,iT ((D.n:Nat):Int),iT ((D.n):Int),.bool (decide (((D.n):Int)<((D.n:Nat):Int))),ad 36,ad 37,ad 38,ad 39,ad 40,ad 41,ad 42,ad 43,ad 44,ad 45,ad 46,ad 47,ad 48,ad 49,ad 50,ad 51,rs,iT ((D.q:Nat):Int),iT (r:Int),.bool (decide ((r:Int)<((D.q:Nat):Int))),ad 56,ad 57,ad 58,ad 59,ad 60,ad 61,ad 62,ad 63,ad 64,b0,iT (((D.tms r).length:Nat):Int),iT (j:Int),.bool (decide ((j:Int)<(((D.tms r).length:Nat):Int))),ad 69,ad 70,ad 71,ad 72,ad 73,ad 74,ad 75,ad 76,ad 77,ad 78,ad 79,ad 80,ad 81,ad 82,os,iT ((D.n:Nat):Int),iT (i:Int),.bool (decide ((i:Int)<((D.n:Nat):Int))),ad 87,ad 88,ad 89,dT,iT ((D.ol i:Nat):Int),iT (k2:Int),ad 93,ad 94,ad 95,ad 96,ad 97,ad 98,ad 99,ad 100,ad 101,ad 102,ad 103,ad 104,ad 105,ad 106,ad 107,ad 108,ad 109,ad 110,ad 111,ad 112,ad 113,ad 114,ad 115,ad 116,ad 117,ad 118,ad 119,ad 120,ad 121,ad 122,ad 123,ad 124,ad 125,ad 126,ad 127,ad 128,ad 129,ad 130,ad 131,ad 132,ad 133,ad 134,ad 135,ad 136,ad 137,ad 138,ad 139,ad 140,ad 141,ad 142,ad 143,ad 144,ad 145,ad 146,ad 147,ad 148,ad 149,ad 150,ad 151,ad 152,ad 153,ad 154,ad 155,ad 156,ad 157,ad 158,ad 159,ad 160,ad 161,ad 162,ad 163,ad 164,ad 165,ad 166,ad 167,ad 168,ad 169,ad 170,undef].toArray,[]⟩∧k2≤(D.ol i)∧Ow (ESp 64) 124 8 w' eV.heap.size vq (tb (fun z2=>(D.sp r i z2)) k2)∧Lc w' ba #[ds,os,rs] 26∧Lc w' aq #[ds,os,rs,vs,vk,vc] 158∧Lc w' bP #[sV dx,iT 0,sV (zc3 (D.cn r)),b0,sV [],sN,sV (tO (D.hl r) (D.vl r)),sV (tO (D.hh r) (D.vh r))] 80∧Gr e3 w'∧Gr eE w'∧Gr eV w'∧Gr w w') ((D.ol i) - 0) ?_ ?_
   ·exact ⟨0,sN,(fun i=>List.getD ?l95 i undef),rfl,rfl,Nat.zero_le _,Ow.nil _ _ _ _ _,ai,ah,az,hR,hF,hG,hB⟩
   rintro jm iV jf ⟨k2,vq,ad,rfl,rfl,g8,oq,ai,ah,az,hR,hF,hG,hB⟩ ja gT
   have hnom:=ok.nom i hli
   have hlo:k2<D.ol i→-1048576≤D.lo i k2∧D.lo i k2≤D.up i k2∧D.up i k2≤1048576:=fun h=>ok.lo i k2 hli h
   have i8:=ok.o2 i hli
   refine wp_seq_k (fun i4 hQ=>rg [0] (sv 93 (.bool (decide ((k2:Int)<((D.ol i:Nat):Int)))) ?_))
   refine za0 (hQ _ _ ?_)
   refine wp_seq_k (fun iA g9=>?_)
   refine wp_cond_split rfl (fun dZ=>?_) (fun dZ=>?_)
   ·have eH:k2<(D.ol i):=by have:=of_decide_eq_true dZ;omega
    refine wp_skip ?_
    refine g9 _ _ ?_
    refine wp_seq_k (fun i3 g0=>?_)
    refine wp_block ?_
    refine wp_seq_k (fun gs ft=>rg [0,1,2,3] ?_)
    refine sw 94 (adr dT (k2*3)) rfl (zb1 (e:=68) dP za7 (by decide) k2 (by omega) _ _ _ rfl rfl rfl (by kernel_rfl) (by kernel_rfl)) ?_
    obtain ⟨_,_,rfl,em⟩:=Sl.get dP (by decide) (zb5 (f:=(fun z1=>(D.op i z1))) (n:=(D.ol i)) (i:=k2) (by omega))
    refine sw 95 (.agg #[iT (D.lo i k2),iT (D.up i k2),iT (D.co i k2)]) rfl (ze7 [iT (D.lo i k2),iT (D.up i k2),iT (D.co i k2)] (em.gr hB) _ _ rfl rfl (by kernel_rfl)) ?_
    refine se ?_
    refine ea 68 #[iT 0,iT 0,iT 0] 18 hB fun bV gQ bI ak bS f0 hB=>?_
    have cq:=ai.ne bS
    have cE:=ah.ne bS
    have ct:=az.ne bS
    have c4:=Nat.le_trans (Below.size hR) bS
    have c8:=Nat.le_trans (Below.size hF) bS
    have c5:=Nat.le_trans (Below.size hG) bS
    replace hR:=hR.trans bI
    replace hF:=hF.trans bI
    replace hG:=hG.trans bI
    simp only [p3,p4]
    refine se ?_
    have eC:=ak
    refine es 68 0 (.agg #[iT (D.lo i k2),iT (D.up i k2),iT (D.co i k2)]) [iT (D.lo i k2),iT (D.up i k2),iT (D.co i k2)] #[iT (D.lo i k2),iT (D.up i k2),iT (D.co i k2)] ak hB f0 ⟨rfl,rfl,rfl,trivial⟩ fun fQ aZ gi ak hB=>?_
    replace hR:=aZ.gr hR c4
    replace hF:=aZ.gr hF c8
    replace hG:=aZ.gr hG c5
    refine za0 (ft _ _ ?_)
    refine wp_seq_k (fun gH fo=>?_)
    obtain ⟨_,_,⟨cb,b7,b8,cr,rfl,fJ⟩,bR⟩:=Sl.get hfa (by decide) (zb5 (f:=(fun z1=>(D.fc r z1))) (n:=D.n) (i:=i) (by omega))
    obtain ⟨_,_,⟨fs,rfl⟩,bu⟩:=Sl.get hds (by decide) (zb5 (f:=(fun z1=>(D.nom z1))) (n:=D.n) (i:=i) (by omega))
    have en:=Below.size hB
    have cQ:=Below.size hR
    have cO:=Below.size hF
    have cc:=Below.size hG
    replace ai:=aZ.lc (ai.gr bI) cq
    have cG:=ai.lt
    replace ah:=aZ.lc (ah.gr bI) cE
    have cM:=ah.lt
    replace az:=aZ.lc (az.gr bI) ct
    have cJ:=az.lt
    have b1:=ak.lt
    have aH:=Gr.drew fQ
    replace hB:=hB.trans aH
    replace hR:=hR.trans aH
    replace hF:=hF.trans aH
    replace hG:=hG.trans aH
    replace ai:=ai.gr aH
    replace ak:=ak.gr aH
    refine zg2 (fun w'=>Lc w' ba #[ds,os,rs] 26∧Lc w' bV #[iT (D.lo i k2),iT (D.up i k2),iT (D.co i k2)] 68∧AtV w' (sT bX D.n D.n) (i*4) [cb,b7,b8,cr]∧AtV w' ds (i*4) [sV fs,iT (D.nom i),iT 0,iT 0]) [(true,0),(true,1),(true,2),(true,3),(true,4),(true,5),(true,6),(true,7),(true,8),(true,9),(true,10),(true,11),(true,12),(false,13),(false,14)] [⟨15,19,62,#[.bool false,sN,.bool false,sN]⟩] [(false,16)] (by kernel_rfl) (by kernel_rfl) (by kernel_rfl) (by kernel_rfl) (by kernel_rfl) (by decide) (fun _ _ _ _ _ h=>h) (fun _ _ _ _ _ h=>h) (fun w' o h=>⟨Lc.gr h.1 (Gr.alloc w' o),Lc.gr h.2.1 (Gr.alloc w' o),AtV.gr h.2.2.1 (Gr.alloc w' o),AtV.gr h.2.2.2 (Gr.alloc w' o)⟩) ⟨ai,ak,bR.gr hF,bu.gr hB⟩ (by intro f hf;simp only [List.mem_cons,List.not_mem_nil,or_false] at hf;rcases hf with rfl<;>first | exact zh1 (z:=(.agg #[.bool false,sN,.bool false,sN])) (by kernel_rfl) rfl) ?_
    refine fv 96 (sT bX D.n D.n) ?_
    refine fv 97 (iT (i:Int)) ?_
    refine fw 98 (adr (sT bX D.n D.n) (i*4)) rfl (fun w' hS=>(zb1 (e:=62) hfa za7 (by decide) i (by omega) _ _ _ rfl rfl rfl (by kernel_rfl) (by kernel_rfl))) ?_
    refine fw 99 (.agg #[cb,b7,b8,cr]) rfl (fun w' hS=>(ze7 [cb,b7,b8,cr] hS.2.2.1 _ _ rfl rfl (by kernel_rfl))) ?_
    refine fv 100 (pT ba 0) ?_
    refine fw 101 ds rfl (fun w' hS=>(rk 22 0 hS.1)) ?_
    refine fv 102 (iT (i:Int)) ?_
    refine fw 103 (adr ds (i*4)) rfl (fun w' hS=>(zb1 (e:=71) hds za7 (by decide) i (by omega) _ _ _ rfl rfl rfl (by kernel_rfl) (by kernel_rfl))) ?_
    refine fw 104 (adr ds (i*4+1)) rfl (fun w' hS=>(ze3 (off:=1) bu _ _ 1 rfl rfl (by kernel_rfl))) ?_
    refine fw 105 (iT (D.nom i)) rfl (fun w' hS=>(zc7 (iT (D.nom i)) (AtV.part (i:=1) (us:=[iT (D.nom i)]) hS.2.2.2 rfl) _ _ rfl rfl (by kernel_rfl))) ?_
    refine fv 106 (pT bV 0) ?_
    refine fw 107 (iT (D.lo i k2)) rfl (fun w' hS=>(rk 3 0 hS.2.1)) ?_
    refine fw 108 (iT ((D.nom i)+(D.lo i k2))) rfl (fun w' hS=>(rwI ((D.nom i)+(D.lo i k2)))) ?_
    refine zk2 rfl rfl (fun ii bf _ im fM=>?_)
    replace hB:=hB.trans bf
    replace hR:=hR.trans bf
    replace hF:=hF.trans bf
    replace hG:=hG.trans bf
    refine ec 109 (zo4 ((D.nom i)+(D.lo i k2)) (by omega) (by omega) _) ?_
    rintro hr hL ⟨⟨hZ,gq,gz,gC,rfl,dJ⟩,a3⟩
    refine ⟨_,rfl,?_⟩
    replace hB:=hB.trans a3
    replace hR:=hR.trans a3
    replace hF:=hF.trans a3
    replace hG:=hG.trans a3
    replace ai:=ai.gr (bf.trans a3)
    replace ak:=ak.gr (bf.trans a3)
    refine fM _ _ a3 ⟨ai,ak,bR.gr hF,bu.gr hB⟩ ?_
    simp only [p3,p4]
    refine zk2 rfl rfl (fun hD a4 _ g1 f8=>?_)
    replace hB:=hB.trans a4
    replace hR:=hR.trans a4
    replace hF:=hF.trans a4
    replace hG:=hG.trans a4
    replace dJ:=dJ.kp a4.kp
    refine ec 110 (mul_r (fJ.kp hF.kp) dJ (by omega)) ?_
    rintro hM ha ⟨⟨bB,bo,bi,bt,rfl,a7⟩,a6⟩
    refine ⟨_,rfl,?_⟩
    replace hB:=hB.trans a6
    replace hR:=hR.trans a6
    replace hF:=hF.trans a6
    replace hG:=hG.trans a6
    replace ai:=ai.gr (a4.trans a6)
    replace ak:=ak.gr (a4.trans a6)
    refine f8 _ _ a6 ⟨ai,ak,bR.gr hF,bu.gr hB⟩ ?_
    simp only [p3,p4]
    refine zs2 (fun fD a5 _=>?_)
    replace hB:=hB.trans a5
    replace hR:=hR.trans a5
    replace hF:=hF.trans a5
    replace hG:=hG.trans a5
    refine zD8 (fun bG (au:Lc fD bG #[.bool false,sN,.bool false,sN] 62) q122=>?_)
    have cL:ba≠bG:=Nat.ne_of_lt (Nat.lt_of_lt_of_le cG q122)
    have cw:aq≠bG:=Nat.ne_of_lt (Nat.lt_of_lt_of_le cM q122)
    have cU:bP≠bG:=Nat.ne_of_lt (Nat.lt_of_lt_of_le cJ q122)
    have bT:bV≠bG:=Nat.ne_of_lt (Nat.lt_of_lt_of_le b1 q122)
    have dw:=Nat.le_trans cQ q122
    have de:=Nat.le_trans cO q122
    have dh:=Nat.le_trans cc q122
    replace q122:=Nat.le_trans en q122
    simp only [zd0,p3,p4]
    refine oe ?_
    have ed:=au
    refine es 62 0 (.agg #[bB,bo,bi,bt]) [bB,bo,bi,bt] #[bB,bo,bi,bt] au hB q122 ⟨a7.one0,a7.one1,a7.one2,a7.one3,trivial⟩ fun fW aN eB au hB=>?_
    replace hR:=aN.gr hR dw
    replace hF:=aN.gr hF de
    replace hG:=aN.gr hG dh
    replace ai:=aN.lc (ai.gr a5) cL
    replace ak:=aN.lc (ak.gr a5) bT
    refine ⟨⟨ai,ak,bR.gr hF,bu.gr hB⟩,?_⟩
    refine zb4 ?_
    refine fo _ _ ?_
    refine wp_seq_k (fun hk fL=>?_)
    obtain ⟨_,_,⟨cC,cy,cV,cR,rfl,f2⟩,bN⟩:=Sl.get hfa (by decide) (zb5 (f:=(fun z1=>(D.fc r z1))) (n:=D.n) (i:=i) (by omega))
    obtain ⟨_,_,⟨fX,rfl⟩,bl⟩:=Sl.get hds (by decide) (zb5 (f:=(fun z1=>(D.nom z1))) (n:=D.n) (i:=i) (by omega))
    have el:=Below.size hB
    have cx:=Below.size hR
    have b6:=Below.size hF
    have b4:=Below.size hG
    have cT:=ai.lt
    replace ah:=aN.lc (ah.gr (aH.trans (bf.trans (a3.trans (a4.trans (a6.trans a5)))))) cw
    have cg:=ah.lt
    replace az:=aN.lc (az.gr (aH.trans (bf.trans (a3.trans (a4.trans (a6.trans a5)))))) cU
    have ck:=az.lt
    have bW:=ak.lt
    have bU:=au.lt
    have ax:=Gr.drew fW
    replace hB:=hB.trans ax
    replace hR:=hR.trans ax
    replace hF:=hF.trans ax
    replace hG:=hG.trans ax
    replace ai:=ai.gr ax
    replace ak:=ak.gr ax
    refine zg2 (fun w'=>Lc w' ba #[ds,os,rs] 26∧Lc w' bV #[iT (D.lo i k2),iT (D.up i k2),iT (D.co i k2)] 68∧AtV w' (sT bX D.n D.n) (i*4) [cC,cy,cV,cR]∧AtV w' ds (i*4) [sV fX,iT (D.nom i),iT 0,iT 0]) [(true,0),(true,1),(true,2),(true,3),(true,4),(true,5),(true,6),(true,7),(true,8),(true,9),(true,10),(true,11),(true,12),(false,13),(false,14)] [⟨15,20,62,#[.bool false,sN,.bool false,sN]⟩] [(false,16)] (by kernel_rfl) (by kernel_rfl) (by kernel_rfl) (by kernel_rfl) (by kernel_rfl) (by decide) (fun _ _ _ _ _ h=>h) (fun _ _ _ _ _ h=>h) (fun w' o h=>⟨Lc.gr h.1 (Gr.alloc w' o),Lc.gr h.2.1 (Gr.alloc w' o),AtV.gr h.2.2.1 (Gr.alloc w' o),AtV.gr h.2.2.2 (Gr.alloc w' o)⟩) ⟨ai,ak,bN.gr hF,bl.gr hB⟩ (by intro f hf;simp only [List.mem_cons,List.not_mem_nil,or_false] at hf;rcases hf with rfl<;>first | exact zh1 (z:=(.agg #[.bool false,sN,.bool false,sN])) (by kernel_rfl) rfl) ?_
    refine fv 111 (sT bX D.n D.n) ?_
    refine fv 112 (iT (i:Int)) ?_
    refine fw 113 (adr (sT bX D.n D.n) (i*4)) rfl (fun w' hS=>(zb1 (e:=62) hfa za7 (by decide) i (by omega) _ _ _ rfl rfl rfl (by kernel_rfl) (by kernel_rfl))) ?_
    refine fw 114 (.agg #[cC,cy,cV,cR]) rfl (fun w' hS=>(ze7 [cC,cy,cV,cR] hS.2.2.1 _ _ rfl rfl (by kernel_rfl))) ?_
    refine fv 115 (pT ba 0) ?_
    refine fw 116 ds rfl (fun w' hS=>(rk 22 0 hS.1)) ?_
    refine fv 117 (iT (i:Int)) ?_
    refine fw 118 (adr ds (i*4)) rfl (fun w' hS=>(zb1 (e:=71) hds za7 (by decide) i (by omega) _ _ _ rfl rfl rfl (by kernel_rfl) (by kernel_rfl))) ?_
    refine fw 119 (adr ds (i*4+1)) rfl (fun w' hS=>(ze3 (off:=1) bl _ _ 1 rfl rfl (by kernel_rfl))) ?_
    refine fw 120 (iT (D.nom i)) rfl (fun w' hS=>(zc7 (iT (D.nom i)) (AtV.part (i:=1) (us:=[iT (D.nom i)]) hS.2.2.2 rfl) _ _ rfl rfl (by kernel_rfl))) ?_
    refine fv 121 (pT bV 1) ?_
    refine fw 122 (iT (D.up i k2)) rfl (fun w' hS=>(rk 3 1 hS.2.1)) ?_
    refine fw 123 (iT ((D.nom i)+(D.up i k2))) rfl (fun w' hS=>(rwI ((D.nom i)+(D.up i k2)))) ?_
    refine zk2 rfl rfl (fun hd a1 _ h0 f6=>?_)
    replace hB:=hB.trans a1
    replace hR:=hR.trans a1
    replace hF:=hF.trans a1
    replace hG:=hG.trans a1
    refine ec 124 (zo4 ((D.nom i)+(D.up i k2)) (by omega) (by omega) _) ?_
    rintro hs hH ⟨⟨hJ,ho,ic,hC,rfl,d6⟩,aR⟩
    refine ⟨_,rfl,?_⟩
    replace hB:=hB.trans aR
    replace hR:=hR.trans aR
    replace hF:=hF.trans aR
    replace hG:=hG.trans aR
    replace ai:=ai.gr (a1.trans aR)
    replace ak:=ak.gr (a1.trans aR)
    refine f6 _ _ aR ⟨ai,ak,bN.gr hF,bl.gr hB⟩ ?_
    simp only [p3,p4]
    refine zk2 rfl rfl (fun gm aT _ g2 fl=>?_)
    replace hB:=hB.trans aT
    replace hR:=hR.trans aT
    replace hF:=hF.trans aT
    replace hG:=hG.trans aT
    replace d6:=d6.kp aT.kp
    refine ec 125 (mul_r (f2.kp hF.kp) d6 (by omega)) ?_
    rintro hc hK ⟨⟨bh,bD,bk,bw,rfl,a8⟩,aQ⟩
    refine ⟨_,rfl,?_⟩
    replace hB:=hB.trans aQ
    replace hR:=hR.trans aQ
    replace hF:=hF.trans aQ
    replace hG:=hG.trans aQ
    replace ai:=ai.gr (aT.trans aQ)
    replace ak:=ak.gr (aT.trans aQ)
    refine fl _ _ aQ ⟨ai,ak,bN.gr hF,bl.gr hB⟩ ?_
    simp only [p3,p4]
    refine zs2 (fun fZ aU _=>?_)
    replace hB:=hB.trans aU
    replace hR:=hR.trans aU
    replace hF:=hF.trans aU
    replace hG:=hG.trans aU
    refine zD8 (fun bK (aw:Lc fZ bK #[.bool false,sN,.bool false,sN] 62) q143=>?_)
    have cm:ba≠bK:=Nat.ne_of_lt (Nat.lt_of_lt_of_le cT q143)
    have cd:aq≠bK:=Nat.ne_of_lt (Nat.lt_of_lt_of_le cg q143)
    have cA:bP≠bK:=Nat.ne_of_lt (Nat.lt_of_lt_of_le ck q143)
    have b3:bV≠bK:=Nat.ne_of_lt (Nat.lt_of_lt_of_le bW q143)
    have bZ:bG≠bK:=Nat.ne_of_lt (Nat.lt_of_lt_of_le bU q143)
    have dv:=Nat.le_trans cx q143
    have dj:=Nat.le_trans b6 q143
    have dr:=Nat.le_trans b4 q143
    replace q143:=Nat.le_trans el q143
    simp only [zd0,p3,p4]
    refine oe ?_
    have eJ:=aw
    refine es 62 0 (.agg #[bh,bD,bk,bw]) [bh,bD,bk,bw] #[bh,bD,bk,bw] aw hB q143 ⟨a8.one0,a8.one1,a8.one2,a8.one3,trivial⟩ fun f5 aE dy aw hB=>?_
    replace hR:=aE.gr hR dv
    replace hF:=aE.gr hF dj
    replace hG:=aE.gr hG dr
    replace ai:=aE.lc (ai.gr aU) cm
    replace ak:=aE.lc (ak.gr aU) b3
    refine ⟨⟨ai,ak,bN.gr hF,bl.gr hB⟩,?_⟩
    refine zb4 ?_
    refine fL _ _ ?_
    have av:=Gr.drew f5
    replace hB:=hB.trans av
    replace hR:=hR.trans av
    replace hF:=hF.trans av
    replace hG:=hG.trans av
    replace au:=(aE.lc (au.gr (ax.trans (a1.trans (aR.trans (aT.trans (aQ.trans aU)))))) bZ).gr av
    replace aw:=aw.gr av
    refine za5 (fun w'=>Lc w' bG #[bB,bo,bi,bt] 62∧Lc w' bK #[bh,bD,bk,bw] 62) [(true,0),(true,1),(true,2),(true,4),(true,5),(false,3),(false,6),(true,7),(false,8),(false,9),(true,10)] (by kernel_rfl) (by kernel_rfl) (by kernel_rfl) (by decide) (fun _ _ _ _ _ h=>h) ⟨au,aw⟩ ?_
    refine ov 126 vq ?_
    refine ow 127 (.agg #[bB,bo,bi,bt]) rfl (fun w' hS=>(rl 62 0 [bB,bo,bi,bt] hS.1)) ?_
    refine ow 128 (.agg #[bh,bD,bk,bw]) rfl (fun w' hS=>(rl 62 0 [bh,bD,bk,bw] hS.2)) ?_
    refine ow 130 (.agg #[bB,bo,bi,bt]) rfl (fun w' hS=>(rl 62 0 [bB,bo,bi,bt] hS.1)) ?_
    refine ow 131 (.agg #[bh,bD,bk,bw]) rfl (fun w' hS=>(rl 62 0 [bh,bD,bk,bw] hS.2)) ?_
    refine oe ?_
    have ef:=a5.kp.trans (eB.trans (ax.kp.trans (a1.kp.trans (aR.kp.trans (aT.kp.trans (aQ.kp.trans (aU.kp.trans (dy.trans av.kp))))))))
    replace a7:=a7.kp ef
    have eh:=aU.kp.trans (dy.trans av.kp)
    replace a8:=a8.kp eh
    refine ec 129 (min_r a7 a8 (by omega)) ?_
    rintro h4 h7 ⟨⟨dM,dS,d7,dF,rfl,bH⟩,aS⟩
    refine ⟨_,rfl,?_⟩
    replace hB:=hB.trans aS
    replace hR:=hR.trans aS
    replace hF:=hF.trans aS
    replace hG:=hG.trans aS
    replace au:=au.gr aS
    replace aw:=aw.gr aS
    refine ⟨⟨au,aw⟩,?_⟩
    simp only [p3,p4]
    refine oe ?_
    replace a7:=a7.kp aS.kp
    replace a8:=a8.kp aS.kp
    refine ec 132 (max_r a7 a8 (by omega)) ?_
    rintro ib gA ⟨⟨dK,dR,d8,dO,rfl,bJ⟩,aY⟩
    refine ⟨_,rfl,?_⟩
    replace hB:=hB.trans aY
    replace hR:=hR.trans aY
    replace hF:=hF.trans aY
    replace hG:=hG.trans aY
    replace au:=au.gr aY
    replace aw:=aw.gr aY
    refine ⟨⟨au,aw⟩,?_⟩
    simp only [p3,p4]
    refine ov 133 (.agg #[dM,dS,d7,dF,dK,dR,d8,dO]) ?_
    refine oe ?_
    refine zc5 124 1 #[dM,dS,d7,dF,dK,dR,d8,dO] (some 134) rfl (fun _=>by kernel_rfl) (fun fN hq aO fC dQ=>?_)
    replace ai:=ai.gr (av.trans (aS.trans aY))
    replace ah:=(aE.lc (ah.gr (ax.trans (a1.trans (aR.trans (aT.trans (aQ.trans aU)))))) cd).gr (av.trans (aS.trans aY))
    replace az:=(aE.lc (az.gr (ax.trans (a1.trans (aR.trans (aT.trans (aQ.trans aU)))))) cA).gr (av.trans (aS.trans aY))
    have e7:=Nat.le_trans (Below.size hR) dQ
    have eO:=Nat.le_trans (Below.size hF) dQ
    have e4:=Nat.le_trans (Below.size hG) dQ
    replace hB:=hB.trans aO
    replace hR:=hR.trans aO
    replace hF:=hF.trans aO
    replace hG:=hG.trans aO
    replace au:=au.gr aO
    replace aw:=aw.gr aO
    refine ⟨⟨au,aw⟩,?_⟩
    simp only [zd0,p3,p4]
    refine oe ?_
    have eI:=aY.kp.trans aO.kp
    replace bH:=bH.kp eI
    replace bJ:=bJ.kp aO.kp
    replace oq:=(((((((((((((((((((oq.gr (zb0 64) bI).kts (zb0 64) (aZ.kts eC (by decide))).gr (zb0 64) aH).gr (zb0 64) bf).gr (zb0 64) a3).gr (zb0 64) a4).gr (zb0 64) a6).gr (zb0 64) a5).kts (zb0 64) (aN.kts ed (by decide))).gr (zb0 64) ax).gr (zb0 64) a1).gr (zb0 64) aR).gr (zb0 64) aT).gr (zb0 64) aQ).gr (zb0 64) aU).kts (zb0 64) (aE.kts eJ (by decide))).gr (zb0 64) av).gr (zb0 64) aS).gr (zb0 64) aY).gr (zb0 64) aO
    refine zd9 (zb0 64) _ _ 162 124 eV.heap.size (.agg #[.bool false,sN,.bool false,sN,.bool false,sN,.bool false,sN]) vq (tb (fun z2=>(D.sp r i z2)) k2) fN [dM,dS,d7,dF,dK,dR,d8,dO] ((rmin ((D.fc r i)*((((D.nom i)+(D.lo i k2)):Int):Rat)) ((D.fc r i)*((((D.nom i)+(D.up i k2)):Int):Rat))),(rmax ((D.fc r i)*((((D.nom i)+(D.lo i k2)):Int):Rat)) ((D.fc r i)*((((D.nom i)+(D.up i k2)):Int):Rat)))) 8 1 (some 135) 128 rfl rfl rfl rfl oq fC ⟨bH.one0,bH.one1,bH.one2,bH.one3,bJ.one0,bJ.one1,bJ.one2,bJ.one3,trivial⟩ rfl ⟨_,_,_,_,_,_,_,_,rfl,bH.resz (sl_sz ok hlr hli eH) (by omega),bJ.resz (su_sz ok hlr hli eH) (by omega)⟩ (Below.size hG) (by rw [za7];omega) (by decide) (by kernel_rfl) (by kernel_rfl) (by decide) (by decide) (fun eD gV cl bC bL=>?_)
    replace hB:=bL _ hB lehG
    replace hR:=bL _ hR lehG_hR
    replace hF:=bL _ hF lehG_hF
    replace hG:=bL _ hG (Nat.le_refl _)
    replace cl:=cl.cast (zd8 (f:=(fun z2=>(D.sp r i z2))) (n:=k2) (by first | rfl | exact ze1))
    replace au:=bC.lc au (by decide)
    replace aw:=bC.lc aw (by decide)
    refine ⟨⟨au,aw⟩,?_⟩
    simp only [zd0,p3,p4]
    refine ov 16 eD ?_
    refine zb4 ?_
    refine g0 _ _ ?_
    refine rg [0,1] ?_
    refine sw 136 (iT ((k2:Int)+1)) rfl (rwI ((k2:Int)+1)) ?_
    refine sv 92 (iT ((k2:Int)+1)) ?_
    refine za0 ?_
    replace ai:=bC.lc (ai.gr aO) (by decide)
    replace ah:=bC.lc (ah.gr aO) (by decide)
    replace az:=bC.lc (az.gr aO) (by decide)
    refine gT ((D.ol i) - (k2+1)) ⟨List.toArray ?l170,[]⟩ _ (by omega) ?_
    exact ⟨k2+1,eD,(fun i=>List.getD ?l170 i undef),rfl,rfl,(by omega),cl,ai,ah,az,hR,hF,hG,hB⟩
   have f9:(D.ol i)=k2:=by have:=of_decide_eq_false dZ;omega
   subst f9
   refine wp_exit ?_
   simp only [Exit.then,Exit.inBlock,↓reduceIte]
   refine h6 _ _ ?_
   refine rg [0,1,2,3,4] (sv 137 vr ?_)
   refine sv 138 vq ?_
   refine se ?_
   refine zq0 161 162 vq (some 139) rfl rfl rfl (oq.sl).forms (fun _ _ _ _=>by kernel_rfl) (fun fK h5 bs f7 dB=>?_)
   have e0:=Nat.le_trans (Below.size hR) dB
   have e2:=Nat.le_trans (Below.size hF) dB
   have eT:=Nat.le_trans (Below.size hG) dB
   replace hB:=hB.trans bs
   replace hR:=hR.trans bs
   replace hF:=hF.trans bs
   replace hG:=hG.trans bs
   simp only [zd0,p3,p4]
   refine se ?_
   replace oq:=oq.gr (zb0 64) bs
   refine zd9 (za1 (zb0 64) 124 8) _ _ 161 162 eE.heap.size (sN) vr (tb (fun z1=>tb (fun z2=>(D.sp r z1 z2)) (D.ol z1)) i) fK [vq] (tb (fun z2=>(D.sp r i z2)) (D.ol i)) 1 1 (some 140) 24 rfl rfl rfl rfl (orr.gr (za1 (zb0 64) 124 8) hG) f7 ⟨oq.one,trivial⟩ rfl ⟨_,rfl,oq.sl⟩ (Below.size hF) (by rw [za7];omega) (by decide) (by kernel_rfl) (by kernel_rfl) (by decide) (by decide) (fun ew gW cP cB cH=>?_)
   replace hB:=cH _ hB lehF
   replace hR:=cH _ hR lehF_hR
   replace hF:=cH _ hF (Nat.le_refl _)
   replace cP:=cP.cast (zd8 (f:=(fun z1=>tb (fun z2=>(D.sp r z1 z2)) (D.ol z1))) (n:=i) (by first | rfl | exact ze1))
   simp only [zd0,p3,p4]
   refine sv 13 ew (za0 (hn _ _ ?_))
   refine rg [0,1] ?_
   refine sw 141 (iT ((i:Int)+1)) rfl (rwI ((i:Int)+1)) ?_
   refine sv 85 (iT ((i:Int)+1)) ?_
   refine za0 ?_
   replace ai:=cB.lc (ai.gr bs) (by decide)
   replace ah:=cB.lc (ah.gr bs) (by decide)
   replace az:=cB.lc (az.gr bs) (by decide)
   refine gv (D.n - (i+1)) ⟨List.toArray ?l173,[]⟩ _ (by omega) ?_
   exact ⟨i+1,ew,(fun i=>List.getD ?l173 i undef),rfl,rfl,(by omega),cP,ai,ah,az,hR,hF,hB⟩
  have hei:D.n=i:=by have:=of_decide_eq_false dG;omega
  subst hei
  refine wp_exit ?_
  simp only [Exit.then,Exit.inBlock,↓reduceIte]
  refine il _ _ ?_
  refine wp_seq_k (fun hz fu=>rg [0,1,2,3,4,5,6,7,8,9,10] (sv 143 (pT bP 1) ?_))
  refine sv 144 (pT bP 2) ?_
  refine sv 145 (pT bP 2) ?_
  refine sw 146 (sV (zc3 (D.cn r))) rfl (rk 33 2 az) ?_
  refine se ?_
  refine ec 147 (zs3 (D.cn r) (ok.cn r hlr).sz64 (by omega) (by omega) (zs9 (ok.cn r hlr)) _ (hm.gr hB)) ?_
  rintro hI gL ⟨⟨aD,aJ,aK,aG,rfl,al⟩,bY⟩
  refine ⟨_,rfl,?_⟩
  replace hB:=hB.trans bY
  replace hR:=hR.trans bY
  replace hF:=hF.trans bY
  replace hG:=hG.trans bY
  simp only [p3,p4]
  refine sv 142 (.tuple #[.agg #[aD,aJ,aK,aG],iT 0]) ?_
  refine sv 148 (.agg #[aD,aJ,aK,aG]) ?_
  refine sv 149 (iT 0) ?_
  refine se ?_
  refine ea 62 #[.bool false,sN,.bool false,sN] 21 hB fun fS hx bg af b5 fj hB=>?_
  replace ai:=ai.gr bY
  have br:=ai.ne b5
  replace ah:=ah.gr bY
  have ap:=ah.ne b5
  have aV:=Nat.le_trans (Below.size hR) b5
  have cZ:=Nat.le_trans (Below.size hF) b5
  have dc:=Nat.le_trans (Below.size hG) b5
  replace hR:=hR.trans bg
  replace hF:=hF.trans bg
  replace hG:=hG.trans bg
  simp only [p3,p4]
  refine se ?_
  refine es 62 0 (.agg #[aD,aJ,aK,aG]) [aD,aJ,aK,aG] #[aD,aJ,aK,aG] af hB fj ⟨al.one0,al.one1,al.one2,al.one3,trivial⟩ fun fO a9 cF af hB=>?_
  replace hR:=a9.gr hR aV
  replace hF:=a9.gr hF cZ
  replace hG:=a9.gr hG dc
  refine sv 22 (iT 0) (za0 (fu _ _ ?_))
  have okR:=ok_
  replace os_:=os_.gr (za1 (za1 (zb0 64) 124 8) 162 1) hR
  replace ok_:=ok_.gr (za6 64) hR
  replace oc:=oc.gr za2 hR
  have aj:=Gr.drew fO
  replace hB:=hB.trans aj
  replace hR:=hR.trans aj
  replace hF:=hF.trans aj
  replace hG:=hG.trans aj
  replace af:=af.gr aj
  replace ah:=(a9.lc (ah.gr bg) ap).gr aj
  refine zD9 (fun w'=>Lc w' fS #[aD,aJ,aK,aG] 62) [([18,21],(fun w'=>Lc w' aq #[ds,os,rs,vs,vk,vc] 158))] (.two [(true,0),(true,1),(true,2),(true,3),(true,4),(true,5),(true,6),(true,9),(true,10),(true,11),(true,12),(true,13)] 7 14 (.two [] 8 14 (.fin [(false,14),(false,15),(true,16),(true,17),(false,18),(true,19),(true,20),(false,21)]) (.fin [(false,8),(false,15),(true,16),(true,17),(false,18),(true,19),(true,20),(false,21)])) (.fin [(false,7),(false,8),(false,15),(true,16),(true,17),(false,18),(true,19),(true,20),(false,21)])) (by kernel_rfl) (by kernel_rfl) (by kernel_rfl) (by decide) (fun _ _ _ _ _ h=>h) af ⟨fun _=>ah,trivial⟩ ?_
  show zg8 _ _ (ye1 _ _) _ _ _ _ _ _
  refine tv 150 (pT aq 0) ?_
  refine tv 151 (pT aq 0) ?_
  refine tv 152 (pT aq 0) ?_
  refine tv 153 (pT aq 0) ?_
  refine tv 154 (pT aq 3) ?_
  refine tw 155 vs rfl (fun w' hS=>(rk 156 3 (hS.2.1 (by kernel_rfl)))) ?_
  refine tv 156 vr ?_
  refine tv 159 (pT aq 0) ?_
  refine tv 160 (pT aq 0) ?_
  refine tv 161 (pT aq 4) ?_
  refine tw 162 vk rfl (fun w' hS=>(rk 146 4 (hS.2.1 (by kernel_rfl)))) ?_
  refine tw 163 (.agg #[aD,aJ,aK,aG]) rfl (fun w' hS=>(rl 62 0 [aD,aJ,aK,aG] hS.1)) ?_
  refine zs8 ⟨?_,?_⟩
  ·refine te ?_
   refine zq0 156 161 vr (some 157) rfl rfl rfl ((orr.gr (za1 (zb0 64) 124 8) hG).sl).forms (fun _ _ _ _=>by kernel_rfl) (fun eM hw ay cY dI=>?_)
   replace ai:=(a9.lc (ai.gr bg) br).gr aj
   have fb:=Nat.le_trans (Below.size hR) dI
   have eX:=Nat.le_trans (Below.size hF) dI
   have eW:=Nat.le_trans (Below.size hG) dI
   replace hB:=hB.trans ay
   replace hR:=hR.trans ay
   replace hF:=hF.trans ay
   replace hG:=hG.trans ay
   replace af:=af.gr ay
   replace ah:=ah.gr ay
   refine ⟨af,⟨fun _=>ah,trivial⟩,?_⟩
   simp only [zd0,p3,p4]
   refine zs8 ?_
   show zg8 _ _ (ye1 _ _) _ _ _ _ _ _
   refine zs8 ⟨?_,?_⟩
   ·refine te ?_
    replace os_:=os_.gr (za1 (za1 (zb0 64) 124 8) 162 1) (aj.trans ay)
    refine zd9 (za1 (za1 (zb0 64) 124 8) 162 1) _ _ 156 161 w.heap.size (sN) vs (tb (fun z0=>tb (fun z1=>tb (fun z2=>(D.sp z0 z1 z2)) (D.ol z1)) D.n) r) eM [vr] (tb (fun z1=>tb (fun z2=>(D.sp r z1 z2)) (D.ol z1)) (D.n)) 1 1 (some 158) 24 rfl rfl rfl rfl os_ cY ⟨orr.one,trivial⟩ rfl ⟨_,rfl,(orr.gr (za1 (zb0 64) 124 8) hG).sl⟩ (Below.size hB) (by rw [za7];omega) (by decide) (by kernel_rfl) (by kernel_rfl) (by decide) (by decide) (fun cj hT aI bb ej=>?_)
    replace hB:=ej _ hB (Nat.le_refl _)
    replace aI:=aI.cast (zd8 (f:=(fun z0=>tb (fun z1=>tb (fun z2=>(D.sp z0 z1 z2)) (D.ol z1)) D.n)) (n:=r) (by first | rfl | exact ze1))
    replace af:=bb.lc af (by decide)
    replace ah:=bb.lc ah (by decide)
    refine ⟨af,⟨fun _=>ah,trivial⟩,?_⟩
    simp only [zd0,p3,p4]
    refine zs8 ?_
    show zg8 _ _ _ _ _ _ _ _ _
    refine te ?_
    refine zc5 62 1 #[aD,aJ,aK,aG] (some 164) rfl (fun _=>by kernel_rfl) (fun fy h8 bm f1 hN=>?_)
    replace ai:=bb.lc (ai.gr ay) (by decide)
    replace hB:=hB.trans bm
    replace af:=af.gr bm
    replace ah:=ah.gr bm
    refine ⟨af,⟨fun _=>ah,trivial⟩,?_⟩
    simp only [zd0,p3,p4]
    refine te ?_
    have eu:=bg.kp.trans (cF.trans (aj.kp.trans (ay.kp.trans ((bb.kp (by decide)).trans bm.kp))))
    replace al:=al.kp eu
    replace ok_:=(((ok_.gr (za6 64) aj).gr (za6 64) ay).kts (za6 64) (bb.kts (by decide))).gr (za6 64) bm
    refine zK9 (za6 64) _ _ 146 62 w.heap.size (.agg #[.bool false,sN,.bool false,sN]) vk (tb (fun z1=>(D.cn z1)) r) fy [aD,aJ,aK,aG] (D.cn r) 4 1 (some 165) 64 rfl rfl rfl rfl ok_ f1 ⟨al.one0,al.one1,al.one2,al.one3,trivial⟩ rfl ⟨_,_,_,_,rfl,al.mono (by omega)⟩ (Below.size hB) (by rw [za7];omega) (by decide) (by kernel_rfl) (by kernel_rfl) (by decide) (by decide) (fun dp ij aB bO et ee=>?_)
    replace hB:=et _ hB (Nat.le_refl _)
    replace af:=ee _ _ _ (fun g n cap e=>by have h1:=(okR.blk e).2;have h2:=aV;omega) af
    replace aB:=aB.cast (zd8 (f:=(fun z1=>(D.cn z1))) (n:=r) (by first | rfl | exact ze1))
    replace ah:=bO.lc ah (by decide)
    refine ⟨af,⟨fun _=>ah,trivial⟩,?_⟩
    simp only [zd0,p3,p4]
    refine tv 166 (pT aq 0) ?_
    refine tv 167 (pT aq 3) ?_
    refine te ?_
    replace aI:=(aI.gr (za1 (za1 (zb0 64) 124 8) 162 1) bm).kts (za1 (za1 (zb0 64) 124 8) 162 1) (bO.kts (by decide))
    have cD:=ah
    refine es (hv:=(by obtain ⟨_,_,e,_⟩:=(aI.sl).form;rw [e];rfl)) 156 3 cj [cj] #[ds,os,rs,cj,vk,vc] ah hB dz ⟨aI.one,trivial⟩ fun gn bp gj ah hB=>?_
    replace af:=bp.lc af (Ne.symm ap)
    refine ⟨af,⟨zf9 (by kernel_rfl),trivial⟩,?_⟩
    refine tv 168 (pT aq 0) ?_
    refine tv 169 (pT aq 4) ?_
    refine te ?_
    replace aB:=aB.kts (za6 64) (bp.kts cD (by decide))
    have cK:=ah
    refine es (hv:=(by obtain ⟨_,_,e,_⟩:=(aB.sl).form;rw [e];rfl)) 146 4 dp [dp] #[ds,os,rs,cj,dp,vc] ah hB dz ⟨aB.one,trivial⟩ fun hA bj gc ah hB=>?_
    replace af:=bj.lc af (Ne.symm ap)
    refine ⟨af,⟨zf9 (by kernel_rfl),trivial⟩,?_⟩
    refine zg4 ?_
    refine fP _ _ ?_
    refine rg [0,1] ?_
    refine sw 170 (iT ((r:Int)+1)) rfl (rwI ((r:Int)+1)) ?_
    refine sv 54 (iT ((r:Int)+1)) ?_
    refine za0 ?_
    replace aI:=(aI.kts (za1 (za1 (zb0 64) 124 8) 162 1) (bp.kts cD (by decide))).kts (za1 (za1 (zb0 64) 124 8) 162 1) (bj.kts cK (by decide))
    replace aB:=aB.kts (za6 64) (bj.kts cK (by decide))
    replace oc:=((((((oc.gr za2 aj).gr za2 ay).kts za2 (bb.kts (by decide))).gr za2 bm).kts za2 (bO.kts (by decide))).kts za2 (bp.kts cD (by decide))).kts za2 (bj.kts cK (by decide))
    replace ai:=bj.lc (bp.lc (bO.lc (ai.gr bm) (by decide)) ar) ar
    refine fp (D.q - (r+1)) ⟨List.toArray ?l207,[]⟩ _ (by omega) ?_
    exact ⟨r+1,cj,dp,(fun i=>List.getD ?l207 i undef),rfl,rfl,(by omega),aI,aB,oc,ai,ah,hB⟩
   refine te ?_
   refine zc5 62 1 #[aD,aJ,aK,aG] (some 164) rfl (fun _=>by kernel_rfl) (fun gb gI aP dC d5=>?_)
   replace ai:=ai.gr ay
   have e9:=Nat.le_trans (Below.size hR) d5
   have eU:=Nat.le_trans (Below.size hF) d5
   have fg:=Nat.le_trans (Below.size hG) d5
   replace hB:=hB.trans aP
   replace hR:=hR.trans aP
   replace hF:=hF.trans aP
   replace hG:=hG.trans aP
   replace af:=af.gr aP
   replace ah:=ah.gr aP
   refine ⟨af,⟨fun _=>ah,trivial⟩,?_⟩
   simp only [zd0,p3,p4]
   refine zs8 ?_
   show zg8 _ _ _ _ _ _ _ _ _
   refine te ?_
   replace cY:=cY.gr aP
   replace os_:=os_.gr (za1 (za1 (zb0 64) 124 8) 162 1) (aj.trans (ay.trans aP))
   refine zd9 (za1 (za1 (zb0 64) 124 8) 162 1) _ _ 156 161 w.heap.size (sN) vs (tb (fun z0=>tb (fun z1=>tb (fun z2=>(D.sp z0 z1 z2)) (D.ol z1)) D.n) r) eM [vr] (tb (fun z1=>tb (fun z2=>(D.sp r z1 z2)) (D.ol z1)) (D.n)) 1 1 (some 158) 24 rfl rfl rfl rfl os_ cY ⟨orr.one,trivial⟩ rfl ⟨_,rfl,(orr.gr (za1 (zb0 64) 124 8) hG).sl⟩ (Below.size hB) (by rw [za7];omega) (by decide) (by kernel_rfl) (by kernel_rfl) (by decide) (by decide) (fun cI io aC a2 ep=>?_)
   replace hB:=ep _ hB (Nat.le_refl _)
   replace aC:=aC.cast (zd8 (f:=(fun z0=>tb (fun z1=>tb (fun z2=>(D.sp z0 z1 z2)) (D.ol z1)) D.n)) (n:=r) (by first | rfl | exact ze1))
   replace af:=a2.lc af (by decide)
   replace ah:=a2.lc ah (by decide)
   refine ⟨af,⟨fun _=>ah,trivial⟩,?_⟩
   simp only [zd0,p3,p4]
   refine te ?_
   replace dC:=a2.lc dC (by decide)
   have ev:=bg.kp.trans (cF.trans (aj.kp.trans (ay.kp.trans (aP.kp.trans (a2.kp (by decide))))))
   replace al:=al.kp ev
   replace ok_:=(((ok_.gr (za6 64) aj).gr (za6 64) ay).gr (za6 64) aP).kts (za6 64) (a2.kts (by decide))
   refine zK9 (za6 64) _ _ 146 62 w.heap.size (.agg #[.bool false,sN,.bool false,sN]) vk (tb (fun z1=>(D.cn z1)) r) gb [aD,aJ,aK,aG] (D.cn r) 4 1 (some 165) 64 rfl rfl rfl rfl ok_ dC ⟨al.one0,al.one1,al.one2,al.one3,trivial⟩ rfl ⟨_,_,_,_,rfl,al.mono (by omega)⟩ (Below.size hB) (by rw [za7];omega) (by decide) (by kernel_rfl) (by kernel_rfl) (by decide) (by decide) (fun df gX aA bM ei ey=>?_)
   replace hB:=ei _ hB (Nat.le_refl _)
   replace af:=ey _ _ _ (fun g n cap e=>by have h1:=(okR.blk e).2;have h2:=aV;omega) af
   replace aA:=aA.cast (zd8 (f:=(fun z1=>(D.cn z1))) (n:=r) (by first | rfl | exact ze1))
   replace ah:=bM.lc ah (by decide)
   refine ⟨af,⟨fun _=>ah,trivial⟩,?_⟩
   simp only [zd0,p3,p4]
   refine tv 166 (pT aq 0) ?_
   refine tv 167 (pT aq 3) ?_
   refine te ?_
   replace aC:=aC.kts (za1 (za1 (zb0 64) 124 8) 162 1) (bM.kts (by decide))
   have b9:=ah
   refine es (hv:=(by obtain ⟨_,_,e,_⟩:=(aC.sl).form;rw [e];rfl)) 156 3 cI [cI] #[ds,os,rs,cI,vk,vc] ah hB dz ⟨aC.one,trivial⟩ fun hW bq gf ah hB=>?_
   replace af:=bq.lc af (Ne.symm ap)
   refine ⟨af,⟨zf9 (by kernel_rfl),trivial⟩,?_⟩
   refine tv 168 (pT aq 0) ?_
   refine tv 169 (pT aq 4) ?_
   refine te ?_
   replace aA:=aA.kts (za6 64) (bq.kts b9 (by decide))
   have cp:=ah
   refine es (hv:=(by obtain ⟨_,_,e,_⟩:=(aA.sl).form;rw [e];rfl)) 146 4 df [df] #[ds,os,rs,cI,df,vc] ah hB dz ⟨aA.one,trivial⟩ fun ip bn gd ah hB=>?_
   replace af:=bn.lc af (Ne.symm ap)
   refine ⟨af,⟨zf9 (by kernel_rfl),trivial⟩,?_⟩
   refine zg4 ?_
   refine fP _ _ ?_
   refine rg [0,1] ?_
   refine sw 170 (iT ((r:Int)+1)) rfl (rwI ((r:Int)+1)) ?_
   refine sv 54 (iT ((r:Int)+1)) ?_
   refine za0 ?_
   replace aC:=(aC.kts (za1 (za1 (zb0 64) 124 8) 162 1) (bq.kts b9 (by decide))).kts (za1 (za1 (zb0 64) 124 8) 162 1) (bn.kts cp (by decide))
   replace aA:=aA.kts (za6 64) (bn.kts cp (by decide))
   replace oc:=((((((oc.gr za2 aj).gr za2 ay).gr za2 aP).kts za2 (a2.kts (by decide))).kts za2 (bM.kts (by decide))).kts za2 (bq.kts b9 (by decide))).kts za2 (bn.kts cp (by decide))
   replace ai:=bn.lc (bq.lc (bM.lc (a2.lc (ai.gr aP) (by decide)) (by decide)) ar) ar
   refine fp (D.q - (r+1)) ⟨List.toArray ?l219,[]⟩ _ (by omega) ?_
   exact ⟨r+1,cI,df,(fun i=>List.getD ?l219 i undef),rfl,rfl,(by omega),aC,aA,oc,ai,ah,hB⟩
  refine te ?_
  refine zc5 62 1 #[aD,aJ,aK,aG] (some 164) rfl (fun _=>by kernel_rfl) (fun fG gK aW dX dU=>?_)
  replace ai:=(a9.lc (ai.gr bg) br).gr aj
  have e6:=Nat.le_trans (Below.size hR) dU
  have e8:=Nat.le_trans (Below.size hF) dU
  have eP:=Nat.le_trans (Below.size hG) dU
  replace hB:=hB.trans aW
  replace hR:=hR.trans aW
  replace hF:=hF.trans aW
  replace hG:=hG.trans aW
  replace af:=af.gr aW
  replace ah:=ah.gr aW
  refine ⟨af,⟨fun _=>ah,trivial⟩,?_⟩
  simp only [zd0,p3,p4]
  refine zs8 ?_
  show zg8 _ _ _ _ _ _ _ _ _
  refine te ?_
  refine zq0 156 161 vr (some 157) rfl rfl rfl ((orr.gr (za1 (zb0 64) 124 8) hG).sl).forms (fun _ _ _ _=>by kernel_rfl) (fun fT ht a0 fB dD=>?_)
  replace ai:=ai.gr aW
  have e1:=Nat.le_trans (Below.size hR) dD
  have e5:=Nat.le_trans (Below.size hF) dD
  have fi:=Nat.le_trans (Below.size hG) dD
  replace hB:=hB.trans a0
  replace hR:=hR.trans a0
  replace hG:=hG.trans a0
  replace af:=af.gr a0
  replace ah:=ah.gr a0
  refine ⟨af,⟨fun _=>ah,trivial⟩,?_⟩
  simp only [zd0,p3,p4]
  refine te ?_
  replace os_:=os_.gr (za1 (za1 (zb0 64) 124 8) 162 1) (aj.trans (aW.trans a0))
  refine zd9 (za1 (za1 (zb0 64) 124 8) 162 1) _ _ 156 161 w.heap.size (sN) vs (tb (fun z0=>tb (fun z1=>tb (fun z2=>(D.sp z0 z1 z2)) (D.ol z1)) D.n) r) fT [vr] (tb (fun z1=>tb (fun z2=>(D.sp r z1 z2)) (D.ol z1)) (D.n)) 1 1 (some 158) 24 rfl rfl rfl rfl os_ fB ⟨orr.one,trivial⟩ rfl ⟨_,rfl,(orr.gr (za1 (zb0 64) 124 8) hG).sl⟩ (Below.size hB) (by rw [za7];omega) (by decide) (by kernel_rfl) (by kernel_rfl) (by decide) (by decide) (fun cN gB aF aX eg=>?_)
  replace hB:=eg _ hB (Nat.le_refl _)
  replace aF:=aF.cast (zd8 (f:=(fun z0=>tb (fun z1=>tb (fun z2=>(D.sp z0 z1 z2)) (D.ol z1)) D.n)) (n:=r) (by first | rfl | exact ze1))
  replace af:=aX.lc af (by decide)
  replace ah:=aX.lc ah (by decide)
  refine ⟨af,⟨fun _=>ah,trivial⟩,?_⟩
  simp only [zd0,p3,p4]
  refine te ?_
  replace dX:=aX.lc (dX.gr a0) (by decide)
  have eF:=bg.kp.trans (cF.trans (aj.kp.trans (aW.kp.trans (a0.kp.trans (aX.kp (by decide))))))
  replace al:=al.kp eF
  replace ok_:=(((ok_.gr (za6 64) aj).gr (za6 64) aW).gr (za6 64) a0).kts (za6 64) (aX.kts (by decide))
  refine zK9 (za6 64) _ _ 146 62 w.heap.size (.agg #[.bool false,sN,.bool false,sN]) vk (tb (fun z1=>(D.cn z1)) r) fG [aD,aJ,aK,aG] (D.cn r) 4 1 (some 165) 64 rfl rfl rfl rfl ok_ dX ⟨al.one0,al.one1,al.one2,al.one3,trivial⟩ rfl ⟨_,_,_,_,rfl,al.mono (by omega)⟩ (Below.size hB) (by rw [za7];omega) (by decide) (by kernel_rfl) (by kernel_rfl) (by decide) (by decide) (fun cX gE aL bQ ez eK=>?_)
  replace hB:=ez _ hB (Nat.le_refl _)
  replace af:=eK _ _ _ (fun g n cap e=>by have h1:=(okR.blk e).2;have h2:=aV;omega) af
  replace aL:=aL.cast (zd8 (f:=(fun z1=>(D.cn z1))) (n:=r) (by first | rfl | exact ze1))
  replace ah:=bQ.lc ah (by decide)
  refine ⟨af,⟨fun _=>ah,trivial⟩,?_⟩
  simp only [zd0,p3,p4]
  refine tv 166 (pT aq 0) ?_
  refine tv 167 (pT aq 3) ?_
  refine te ?_
  replace aF:=aF.kts (za1 (za1 (zb0 64) 124 8) 162 1) (bQ.kts (by decide))
  have cu:=ah
  refine es (hv:=(by obtain ⟨_,_,e,_⟩:=(aF.sl).form;rw [e];rfl)) 156 3 cN [cN] #[ds,os,rs,cN,vk,vc] ah hB dz ⟨aF.one,trivial⟩ fun h3 bv ge ah hB=>?_
  replace af:=bv.lc af (Ne.symm ap)
  refine ⟨af,⟨zf9 (by kernel_rfl),trivial⟩,?_⟩
  refine tv 168 (pT aq 0) ?_
  refine tv 169 (pT aq 4) ?_
  refine te ?_
  replace aL:=aL.kts (za6 64) (bv.kts cu (by decide))
  have cz:=ah
  refine es (hv:=(by obtain ⟨_,_,e,_⟩:=(aL.sl).form;rw [e];rfl)) 146 4 cX [cX] #[ds,os,rs,cN,cX,vc] ah hB dz ⟨aL.one,trivial⟩ fun hX bA gg ah hB=>?_
  replace af:=bA.lc af (Ne.symm ap)
  refine ⟨af,⟨zf9 (by kernel_rfl),trivial⟩,?_⟩
  refine zg4 ?_
  refine fP _ _ ?_
  refine rg [0,1] ?_
  refine sw 170 (iT ((r:Int)+1)) rfl (rwI ((r:Int)+1)) ?_
  refine sv 54 (iT ((r:Int)+1)) ?_
  refine za0 ?_
  replace aF:=(aF.kts (za1 (za1 (zb0 64) 124 8) 162 1) (bv.kts cu (by decide))).kts (za1 (za1 (zb0 64) 124 8) 162 1) (bA.kts cz (by decide))
  replace aL:=aL.kts (za6 64) (bA.kts cz (by decide))
  replace oc:=((((((oc.gr za2 aj).gr za2 aW).gr za2 a0).kts za2 (aX.kts (by decide))).kts za2 (bQ.kts (by decide))).kts za2 (bv.kts cu (by decide))).kts za2 (bA.kts cz (by decide))
  replace ai:=bA.lc (bv.lc (bQ.lc (aX.lc (ai.gr a0) (by decide)) (by decide)) ar) ar
  refine fp (D.q - (r+1)) ⟨List.toArray ?l233,[]⟩ _ (by omega) ?_
  exact ⟨r+1,cN,cX,(fun i=>List.getD ?l233 i undef),rfl,rfl,(by omega),aF,aL,oc,ai,ah,hB⟩
 have her:D.q=r:=by have:=of_decide_eq_false dL;omega
 subst her
 refine wp_exit ?_
 simp only [Exit.then,Exit.inBlock,↓reduceIte]
 refine hY _ _ ?_
 refine wp_seq_k (fun hP f4=>rg [0,1,2] (sv 171 (pT aq 0) ?_))
 refine sv 2 (pT aq 0) ?_
 refine sv 3 (iT 0) (za0 (f4 _ _ ?_))
 refine wp_ret ?_
 refine bodyPost_ret (v:=(.tuple #[pT aq 0,iT 0])) (zf2 rfl rfl rfl) rfl ⟨?_,hB⟩
 exact ⟨_,_,_,_,rfl,ah,dz,⟨hds.gr zb9 hB,hos.gr (za1 za4 68 3) hB,hrs.gr zc0 hB,(os_.gr (za1 (za1 (zb0 64) 124 8) 162 1) hR).sl,(ok_.gr (za6 64) hR).sl,(oc.gr za2 hR).sl⟩⟩

end Go.Proofs.YtjhflekncldflaaGreatDoor
namespace Go.Proofs.YtjhflekncldflaaGreatDoor
open Go.RowKit
theorem op_ok {D:Ofr} {ds os rs:Value} (ok:D.Ok) {w:World} (hm:Mx w) (hck:∀ w1,Gr w w1→Calls Tryz.prog 14 #[.agg #[ds,os,rs]] w1 fun e w'=>e=.returned (.int .i64 0)∧Gr w1 w')
  (hds:Sl EDm 71 4 w ds (tb (fun z1=>(D.nom z1)) D.n)) (hos:Sl (ERw EOp 68 3) 72 1 w os (tb (fun z0=>tb (fun z1=>(D.op z0 z1)) (D.ol z0)) D.n)) (hrs:Sl ERq 80 8 w rs (tb (fun z1=>(D.rq z1)) D.q)):zO0 D ds os rs w:=fun w1 g=>
 al_open ok (hm.gr g) (fun w2 g2=>hck w2 (g.trans g2)) (hds.gr zb9 g) (hos.gr (za1 za4 _ _) g) (hrs.gr zc0 g)
theorem zB8 (n:Nat) (h:0<n):((Lib.decDigits n)[0]?==some 48)=false:=by
 induction n using Nat.strongRecOn with
 | _ n ih=>
  by_cases h10:n<10
  ·rw [zd7 h10]
   have:n=1∨n=2∨n=3∨n=4∨n=5∨n=6∨n=7∨n=8∨n=9:=by omega
   rcases this with rfl | rfl | rfl | rfl | rfl | rfl | rfl | rfl | rfl<;>decide
  rw [zh5 (by omega),List.getElem?_append_left (zo8 _)]
  exact ih (n/10) (by omega) (by omega)
theorem ye8 (z:Int):zE7 (Lib.itoa z)=false:=by
 unfold zE7
 rw [zj4]
 by_cases h:z=0
 ·subst h
  have e:Lib.itoa 0=Lib.decDigits 0:=zc1 (by omega)
  rw [e,show Lib.decDigits (Int.natAbs 0)=[48] from zd7 (by decide),show Lib.decDigits 0=[48] from zd7 (by decide)];rfl
 rw [zB8 _ (by omega)];rfl
theorem zj7 (q:Rat) {m:Nat} (h:(zc3 q).length≤m):ck2 (zc3 q) m=0:=by
 have hd:=q.den_pos
 have eden:Lib.itoa (q.den:Int)=Lib.decDigits q.den:=by rw [zc1 (by omega),Int.natAbs_natCast]
 have hh:=zB8 q.den hd
 unfold ck2
 rw [if_neg (by omega),zm6,zw8,zj4,ye8,eden,zq3,zq3,hh,if_neg (by decide),if_neg,if_neg (by decide),if_neg]
 ·rw [← eden,zk8,zk8]
  intro e
  rw [Bool.and_eq_true,decide_eq_true_eq,Bool.or_eq_true] at e
  obtain ⟨h1,h2⟩:=e
  have h3:(zi4 (zc3 q)).2≠none:=(zC0 (zc3 q)).1 (by rw [zm6];exact h1)
  rw [zq4] at h3
  have h4:¬ q.den=1:=fun e=>h3 (by dsimp only;rw [if_pos e])
  rcases h2 with h2 | h2
  ·have e1:Lib.itoa 1=[49]:=(zc1 (by omega)).trans (zd7 (by decide))
   rw [beq_iff_eq,← e1] at h2
   have:=zw3 h2
   omega
  have:Int.gcd q.num (q.den:Int)=1:=by
   have:=q.reduced
   simpa [Int.gcd,Nat.Coprime] using this
  rw [this] at h2;exact absurd h2 (by decide)
 intro e
 unfold zm0 at e
 have hp:=zo8 q.den
 generalize Lib.decDigits q.den=l at*
 cases l with
 | nil=>simp at hp
 | cons c l=>simp at e hh;exact hh e.1
theorem ratL_inj {a b:Rat} (h:zc3 a=zc3 b):a=b:=by
 have h1:=zm6 a
 have h2:=zw8 a
 rw [h,zm6] at h1
 rw [h,zw8] at h2
 have e1:=zw3 h1
 have e2:=zw3 h2
 exact Rat.ext e1.symm (by omega)
theorem valP_q {q:Rat} (h:(zc3 q).length≤400):zh2 (zc3 q)=q:=(ratL_inj (zV8 (zj7 q h))).symm
theorem zI6 {q:Rat} (h:RZ 60 60 q):(zc3 q).length≤400:=by have:=zs9 h;omega
def Ofr.xl_ (D:Ofr) (r:Nat):Exl:=⟨0,zc3 (D.cn r),(D.tms r).length,fun t=>((((D.tms r).getD t (0,0)).1:Nat),zc3 ((D.tms r).getD t (0,0)).2),[],0⟩
def Ofr.off (D:Ofr) (dn rn:Nat→List UInt8):Offg:={n:=D.n,dm:=fun i=>⟨dn i,D.nom i,0,0⟩,m:=D.n,ol:=D.ol,op:=D.op,q:=D.q,rq:=fun r=>⟨rn r,D.xl_ r,fun _=>⟨0,[],0,fun _=>(0,[]),[],0⟩,tO (D.hl r) (D.vl r),tO (D.hh r) (D.vh r)⟩}
structure NmOk (n:Nat) (nm:Nat→List UInt8):Prop where
 is:∀ i,i<n→isNm (nm i)=true
 ne:∀ j i,j<i→i<n→nm j≠nm i
theorem NmOk.dup {n:Nat} {nm:Nat→List UInt8} (h:NmOk n nm) {i:Nat} (hi:i<n):zi1 nm i (nm i)=false:=by
 unfold zi1
 rw [List.any_eq_false]
 intro j hj
 have:=h.ne j i (List.mem_range.1 hj) hi
 simpa using this
section
variable {D:Ofr} {dn rn:Nat→List UInt8}
theorem zz9 {z:Int} (h:-1073741824≤z∧z≤1073741824):zh3 z=false:=by unfold zh3;simp;omega
theorem tms_inc {r t:Nat} (h:t<(D.tms r).length) (h0:0<t):((D.tms r).getD (t - 1) (0,0)).1<((D.tms r).getD t (0,0)).1:=by
 have hp:(D.tms r).Pairwise (fun a b=>a.1<b.1):=by
  unfold Ofr.tms Ofr.nzd
  rw [List.pairwise_map]
  exact List.pairwise_lt_range.filter _
 have:=(List.pairwise_iff_getElem.1 hp) (t - 1) t (by omega) h (by omega)
 rwa [List.getD_eq_getElem?_getD,List.getD_eq_getElem?_getD,List.getElem?_eq_getElem h,List.getElem?_eq_getElem (show t - 1<_ by omega)]
theorem tms_nz {r t:Nat} (h:t<(D.tms r).length):((D.tms r).getD t (0,0)).2≠0:=by
 have hm:=zy5 h
 unfold Ofr.tms Ofr.nzd at hm
 obtain ⟨i,hi,e⟩:=List.mem_map.1 hm
 unfold Ofr.tms Ofr.nzd
 rw [← e]
 simpa using (List.mem_filter.1 hi).2
theorem nde_form (ok:D.Ok) {r:Nat} (hr:r<D.q):nde D.n (D.xl_ r)=0:=by
 have hodd:(D.xl_ r).odd=false:=zq8 (.inl rfl) (.inr rfl)
 rw [zj9 hodd,if_pos (show (D.xl_ r).op=0 from rfl),if_neg (show ¬ 0<(D.xl_ r).na from Nat.lt_irrefl 0)]
 unfold zN5
 have hc:ck2 (D.xl_ r).c 400=0:=zj7 _ (zI6 (ok.cn r hr))
 have hl:=zK8 (D:=D) (r:=r)
 have:=ok.n2
 rw [if_neg (fun e=>e hc),if_neg (by show ¬ 64<(D.tms r).length;omega)]
 refine zp1.2 fun t ht=>?_
 have ht:t<(D.tms r).length:=ht
 have h1:=yb0 ht
 have h2:=zI6 (zG8 ok hr ht)
 have hz:sgn (zh2 (zc3 ((D.tms r).getD t (0,0)).2)).num≠0:=by
  rw [valP_q h2]
  exact fun e=>tms_nz ht (Rat.num_eq_zero.1 (zg0.1 e))
 exact zW7 (show ¬ ((((D.tms r).getD t (0,0)).1:Nat):Int)<0 by omega) (show ¬ (D.n:Int)≤((((D.tms r).getD t (0,0)).1:Nat):Int) by omega)
  (fun e=>by have:=tms_inc ht e.1;have e2:((((D.tms r).getD t (0,0)).1:Nat):Int)≤((((D.tms r).getD (t - 1) (0,0)).1:Nat):Int):=e.2;omega) (zj7 _ h2) hz
theorem ye9 (h:∀ i,i<D.n→0<D.ol i):∀ {j k:Nat},j≤k→k≤D.n→D.pr j≤D.pr k
  | j, 0, h1, _ => by obtain rfl : j = 0 := by omega
                      exact Nat.le_refl _
  | j,k+1,h1,h2=>by
    rcases Nat.lt_or_eq_of_le h1 with h3 | rfl
    · refine Nat.le_trans (ye9 h (by omega:j≤k) (by omega)) ?_
      have:=h k (by omega)
      exact Nat.le_mul_of_pos_right _ this
    exact Nat.le_refl _
theorem chn_pr (ok:D.Ok):∀ k,k≤D.n→chn D.ol k=D.pr k
 | 0,_=>rfl
 | k+1,h=>by
  unfold chn Ofr.pr
  rw [chn_pr ok k (by omega)]
  have h1:D.pr (k+1)≤4096:=Nat.le_trans (ye9 ok.o1 h (Nat.le_refl _)) ok.few
  have h2:D.pr (k+1)=D.pr k*D.ol k:=rfl
  rw [if_neg (by omega)]
theorem rz_ck {b:Bool} {q:Rat} (h:RZ 60 60 q) (hn:tO b q≠[]):ck2 (tO b q) 400=0∧zh2 (tO b q)=q∧b=true:=by
 cases b with
 | false=>exact absurd rfl hn
 | true=>exact ⟨zj7 _ (zI6 h),valP_q (zI6 h),rfl⟩
theorem off_chk (ok:D.Ok) (hd:NmOk D.n dn) (hr:NmOk D.q rn) (hv:∀ r,r<D.q→D.hl r=true→D.hh r=true→D.vl r≤D.vh r):(D.off dn rn).chk=0:=by
 have n1:=ok.n1
 have n2:=ok.n2
 have q2:=ok.q2
 have e1:dck (D.off dn rn).dm (D.off dn rn).n=0:=by
  unfold dck
  rw [if_neg (show ¬ 64<(D.off dn rn).n from by show ¬ 64<D.n;omega)]
  refine zp1.2 fun i hi=>?_
  have hi:i<D.n:=hi
  have:=ok.nom i hi
  exact dke_0 (hd.is i hi) (zz9 (by show -1073741824≤D.nom i∧D.nom i≤1073741824;omega)) (zz9 (by show -1073741824≤(0:Int)∧(0:Int)≤1073741824;omega)) (zz9 (by show -1073741824≤(0:Int)∧(0:Int)≤1073741824;omega)) (show ¬ (0:Int)<0 by omega) (hd.dup hi)
 have e2:tol (D.off dn rn).dm (D.off dn rn).n=false:=by
  unfold tol
  rw [List.any_eq_false]
  intro i _ h
  revert h;show ¬ ((0:Int) !=0||(0:Int) !=0)=true;decide
 have e3:fe (fun i=>opl ((D.off dn rn).op i) ((D.off dn rn).ol i)) (D.off dn rn).m=0:=zp1.2 fun i hi=>by
  have hi:i<D.n:=hi
  have o1:=ok.o1 i hi
  have o2:=ok.o2 i hi
  show opl (D.op i) (D.ol i)=0
  unfold opl
  rw [if_neg (by omega),if_neg (by omega)]
  refine zp1.2 fun k hk=>?_
  have h1:=ok.lo i k hi hk
  have h2:=ok.co i k hi hk
  exact ope_0 (zz9 (by show -1073741824≤D.lo i k∧D.lo i k≤1073741824;omega)) (zz9 (by show -1073741824≤D.up i k∧D.up i k≤1073741824;omega)) (show ¬ D.co i k<0 by omega) (show ¬ 1048576<D.co i k by omega) (show ¬ D.up i k<D.lo i k by omega)
 have e4:chn (D.off dn rn).ol (D.off dn rn).m≤4096:=by
  show chn D.ol D.n≤4096
  rw [chn_pr ok D.n (Nat.le_refl _)];exact ok.few
 rw [ck_r (show ¬ (D.n:Int)=0 by omega) (show ¬ (12:Int)<(D.n:Int) by omega) e1 e2 rfl e3 (by omega) (show ¬ (16:Int)<(D.q:Int) by omega)]
 refine zp1.2 fun r aa=>?_
 have aa:r<D.q:=aa
 rw [rqe_eq]
 have hx:exe D.n (D.xl_ r) (fun _=>⟨0,[],0,fun _=>(0,[]),[],0⟩)=0:=by
  unfold exe
  rw [if_neg (fun e=>e (nde_form ok aa))];rfl
 have ac:tO (D.hl r) (D.vl r)=[]∨ck2 (tO (D.hl r) (D.vl r)) 400=0:=Classical.or_iff_not_imp_left.2 fun h=>(rz_ck (ok.vl r aa) h).1
 have ad:tO (D.hh r) (D.vh r)=[]∨ck2 (tO (D.hh r) (D.vh r)) 400=0:=Classical.or_iff_not_imp_left.2 fun h=>(rz_ck (ok.vh r aa) h).1
 refine (rq_0 (N:=D.n) (r:=(D.off dn rn).rq r) (hr.is r aa) (hr.dup aa) hx rfl ac ad ?_).symm
 by_cases h1:tO (D.hl r) (D.vl r)=[]
 ·exact .inl h1
 by_cases h2:tO (D.hh r) (D.vh r)=[]
 ·exact .inr (.inl h2)
 refine .inr (.inr ?_)
 obtain ⟨_,v1,b1⟩:=rz_ck (ok.vl r aa) h1
 obtain ⟨_,v2,b2⟩:=rz_ck (ok.vh r aa) h2
 show ¬ zh2 (tO (D.hh r) (D.vh r))<zh2 (tO (D.hl r) (D.vl r))
 rw [v1,v2]
 have:=hv r aa b1 b2
 exact Rat.not_lt.2 this
end
def ERn (w:World) (x:List UInt8 × Rq) (vs:List Value):Prop:=∃ u:Value,vs=[zf1 x.1,.int .i64 0,zf1 (zc3 x.2.c),u,zf1 [],.slice none 0 0,zf1 (tO x.2.hl x.2.vl),zf1 (tO x.2.hh x.2.vh)]∧Sl ETm 110 2 w u x.2.ts
theorem ze6:zo6 ERn [110]:=fun w w' x vs hk h=>by
 obtain ⟨u,e,hs⟩:=h
 exact ⟨u,e,hs.kts zg3 hk⟩
theorem Sl.tbm {α β:Type} {E:World→α→List Value→Prop} {F:World→β→List Value→Prop} {T c:Nat} {w:World} {v:Value} {f:Nat→α} {g:Nat→β} {n:Nat} (h:Sl E T c w v (tb f n)) (hg:∀ i,i<n→∀ vs,E w (f i) vs→F w (g i) vs):Sl F T c w v (tb g n):=by
 obtain ⟨ys,h1,h2⟩:=h
 refine ⟨ys,by rw [za7] at h1 ⊢;exact h1,by rw [h2.1,za7,za7],fun i x hx=>?_⟩
 have hi:i<n:=by have:=(List.getElem?_eq_some_iff.1 hx).1;rwa [za7] at this
 rw [zb5 hi] at hx
 obtain rfl:=Option.some.inj hx
 exact hg i hi _ (h2.2 i _ (zb5 hi))
structure OfM (w:World) (D:Ofr) (dn rn:Nat→List UInt8) (ds os rs:Value):Prop where
 ds:Sl EDg 71 4 w ds (tb (fun z1=>(⟨dn z1,D.nom z1,0,0⟩:Dmn)) D.n)
 os:Sl (ERw EOp 68 3) 72 1 w os (tb (fun z0=>tb (fun z1=>(D.op z0 z1)) (D.ol z0)) D.n)
 rs:Sl ERn 80 8 w rs (tb (fun z1=>(rn z1,D.rq z1)) D.q)
section
variable {w w':World} {D:Ofr} {dn rn:Nat→List UInt8} {ds os rs:Value}
theorem OfM.gr (h:OfM w D dn rn ds os rs) (g:Gr w w'):OfM w' D dn rn ds os rs:=⟨h.ds.gr zb3 g,h.os.gr (za1 za4 _ _) g,h.rs.gr ze6 g⟩
theorem OfM.dm (h:OfM w D dn rn ds os rs):Sl EDm 71 4 w ds (tb (fun z1=>(D.nom z1)) D.n):=h.ds.tbm fun i _ _ e=>⟨dn i,e⟩
theorem OfM.rq (h:OfM w D dn rn ds os rs):Sl ERq 80 8 w rs (tb (fun z1=>(D.rq z1)) D.q):=h.rs.tbm fun i _ _ ⟨u,e,hs⟩=>⟨rn i,u,e,hs⟩
structure OfOk (D:Ofr) (dn rn:Nat→List UInt8):Prop where
 ok:D.Ok
 dn:NmOk D.n dn
 rn:NmOk D.q rn
 hv:∀ r,r<D.q→D.hl r=true→D.hh r=true→D.vl r≤D.vh r
theorem tO_len {b:Bool} {q:Rat} (h:RZ 60 60 q):(tO b q).length≤14000:=by
 cases b with
 | false=>exact Nat.zero_le _
 | true=>have:=zI6 h;exact Nat.le_trans this (by decide)
theorem OfM.check (h:OfM w D dn rn ds os rs) (ok:OfOk D dn rn) (hm:Mx w):Calls Tryz.prog 14 #[.agg #[ds,os,rs]] w fun e w'=>e=.returned (.int .i64 0)∧Gr w w':=by
 have hn:=ok.ok.n2
 have h1:Sl (ESl EOp 3) 72 1 w os (tb (fun z0=>tb (fun z1=>((D.off dn rn).op z0 z1)) ((D.off dn rn).ol z0)) (D.off dn rn).m):=h.os.mono fun x vs ⟨u,e,hs⟩=>⟨u,_,e,hs⟩
 have h2:Sl ERg 80 8 w rs (tb (fun z1=>((D.off dn rn).rq z1)) (D.off dn rn).q):=h.rs.tbm fun r hr vs ⟨u,e,hs⟩=>by
  have aa:Sl ETm 110 2 w u (tb (fun t=>(D.tms r).getD t (0,0)) (D.tms r).length):=by rw [list_tb];exact hs
  exact ⟨u,_,_,0,e,aa.tbm fun t _ vs e=>e,Sl.nil _ _ _ _ none 0⟩
 have:=al_check (D:=D.off dn rn) (fun r hr=>tO_len (ok.ok.vl r hr)) (fun r hr=>tO_len (ok.ok.vh r hr)) hm h.ds h1 h2 (fun r hr u T v S hu hv w1 g=>by
  obtain ⟨ao,cap,rfl,_⟩:=hv.form
  have h3:=ya4 (N:=D.n) (by omega) (x:=D.xl_ r) rfl (ao:=ao) (cap:=cap) (hm.gr g) (hu.gr zC4 g)
  rw [za7]
  refine h3.mono fun e w' he=>⟨he.1.trans (congrArg (fun z=>Ending.returned (.int .i64 z)) ?_),he.2⟩
  show _=exe D.n (D.xl_ r) _
  unfold exe
  by_cases hz:nde D.n (D.xl_ r)=0
  ·rw [if_neg (fun e=>e hz),hz];rfl
  rw [if_pos hz])
 rw [off_chk ok.ok ok.dn ok.rn ok.hv] at this
 exact this
theorem OfM.op (h:OfM w D dn rn ds os rs) (ok:OfOk D dn rn) (hm:Mx w):zO0 D ds os rs w:=
 op_ok ok.ok hm (fun _ g=>(h.gr g).check ok (hm.gr g)) h.dm h.os h.rq
end
def Off (w:World) (D:Ofr) (ds os rs:Value):Prop:=∃ dn rn,OfM w D dn rn ds os rs∧OfOk D dn rn
section
variable {D:Ofr} {c:List Int}
def zM0 (D:Ofr) (c:List Int):Int:=if D.ce c=0 then D.bd (zd5 c) else 0
def bndA (D:Ofr) (c:List Int):Int:=if D.pe c=0 then D.bd (zd5 c) else 0
def fz1 (D:Ofr) (c:List Int):Int:=if 0>(fz D (zd5 c)).1 then 0 else (fz D (zd5 c)).1
def mtA (D:Ofr) (c:List Int):Int:=if D.ce c=0 then fz1 D c else 0
def mtB (D:Ofr) (c:List Int):Bool:=if D.ce c=0 then (fz D (zd5 c)).2==(0:Int) else false
def flA (D:Ofr) (c:List Int):Int:=if D.pe c=0 then fz1 D c else 0
def flB (D:Ofr) (c:List Int):Int:=if D.pe c=0 then (fz D (zd5 c)).2 else 0
def flC (D:Ofr) (c:List Int):Bool:=if D.pe c=0 then (fz D (zd5 c)).2 !=(0:Int) else false
def wsI (D:Ofr) (c:List Int) (z:Int):Prop:=D.ce c=0∧0≤z∧z<(D.q:Int)
instance (D:Ofr) (c:List Int) (z:Int):Decidable (wsI D c z):=inferInstanceAs (Decidable (_∧_))
def wsA (D:Ofr) (c:List Int) (z:Int):List UInt8:=if wsI D c z then zc3 (D.wl (zd5 c) z.toNat) else []
def wsB (D:Ofr) (c:List Int) (z:Int):List UInt8:=if wsI D c z then zc3 (D.wu (zd5 c) z.toNat) else []
def wsE (D:Ofr) (c:List Int) (z:Int):Int:=if D.ce c≠0 then D.ce c else if 0≤z∧z<(D.q:Int) then 0 else 2
end
section
variable {w w':World} {D:Ofr} {ds os rs vc:Value} {c:List Int} {TT:Nat}
theorem Off.gr (h:Off w D ds os rs) (g:Gr w w'):Off w' D ds os rs:=let ⟨dn,rn,h1,h2⟩:=h;⟨dn,rn,h1.gr g,h2⟩
theorem Off.ok (h:Off w D ds os rs):D.Ok:=let ⟨_,_,_,h2⟩:=h;h2.ok
theorem Off.dm (h:Off w D ds os rs):Sl EDm 71 4 w ds (tb (fun z1=>(D.nom z1)) D.n):=let ⟨_,_,h1,_⟩:=h;h1.dm
theorem Off.op (h:Off w D ds os rs):Sl (ERw EOp 68 3) 72 1 w os (tb (fun z0=>tb (fun z1=>(D.op z0 z1)) (D.ol z0)) D.n):=let ⟨_,_,h1,_⟩:=h;h1.os
theorem Off.rq (h:Off w D ds os rs):Sl ERq 80 8 w rs (tb (fun z1=>(D.rq z1)) D.q):=let ⟨_,_,h1,_⟩:=h;h1.rq
theorem Off.one0 (h:Off w D ds os rs):ds.oneCell'=true:=h.dm.one
theorem Off.one1 (h:Off w D ds os rs):os.oneCell'=true:=h.op.one
theorem Off.one2 (h:Off w D ds os rs):rs.oneCell'=true:=h.rq.one
theorem Off.opn (h:Off w D ds os rs) (hm:Mx w):zO0 D ds os rs w:=let ⟨_,_,h1,h2⟩:=h;h1.op h2 hm
theorem zB9 (h:Off w D ds os rs) (hm:Mx w) (ht:Tab w):Calls Tryz.prog 20 #[.agg #[ds,os,rs]] w fun e w'=>(∃ vc vp,e=.returned (.tuple #[.agg #[.bool D.best.ok,vc,.int .i64 D.best.co,vp],.int .i64 0])∧Sl EI64 3 1 w' vc (zt7 D.best.ch)∧Sl ELf 108 4 w' vp (D.leaves D.best (D.n+1) []))∧Gr w w':=
 zJ8 h.ok hm ht h.one0 h.one1 h.one2 (h.opn hm)
theorem v_verify (h:Off w D ds os rs) (hm:Mx w) {b:Bool} {c:List Int} {co:Int} {pf:List Leaf} {vc vp:Value} (hc:Sl EI64 3 1 w vc c) (hp:Sl ELf 108 4 w vp pf):
  Calls Tryz.prog 21 #[.agg #[ds,os,rs],.agg #[.bool b,vc,.int .i64 co,vp]] w fun e w'=>e=.returned (.int .i64 (D.ver ⟨b,c,co,pf⟩))∧Gr w w':=
 zW6 h.ok hm h.one0 h.one1 h.one2 (h.opn hm) hc hp
theorem v_cost (h:Off w D ds os rs) (hm:Mx w) (hc:Sl EI64 TT 1 w vc c):Calls Tryz.prog 15 #[.agg #[ds,os,rs],vc] w fun e w'=>e=.returned (.tuple #[.int .i64 (zM0 D c),.int .i64 (D.ce c)])∧Gr w w':=
 (al_cost h.ok hm h.one0 h.one1 h.one2 (h.opn hm) (hc.cast (list_tb (d:=0)).symm)).mono fun e w' he=>⟨he.1.trans (by unfold zM0;split<;>simp_all),he.2⟩
theorem v_bound (h:Off w D ds os rs) (hm:Mx w) (hc:Sl EI64 TT 1 w vc c):Calls Tryz.prog 18 #[.agg #[ds,os,rs],vc] w fun e w'=>e=.returned (.tuple #[.int .i64 (bndA D c),.int .i64 (D.pe c)])∧Gr w w':=
 (al_bound h.ok hm h.one0 h.one1 h.one2 (h.opn hm) (hc.cast (list_tb (d:=0)).symm)).mono fun e w' he=>⟨he.1.trans (by unfold bndA;split<;>simp_all),he.2⟩
theorem v_meets (h:Off w D ds os rs) (hm:Mx w) (hc:Sl EI64 TT 1 w vc c):Calls Tryz.prog 17 #[.agg #[ds,os,rs],vc] w fun e w'=>e=.returned (.tuple #[.int .i64 (mtA D c),.bool (mtB D c),.int .i64 (D.ce c)])∧Gr w w':=
 (al_meets h.ok hm h.one0 h.one1 h.one2 (h.opn hm) (hc.cast (list_tb (d:=0)).symm)).mono fun e w' he=>⟨he.1.trans (by unfold mtA mtB fz1;by_cases h0:D.ce c=0<;>simp [h0]),he.2⟩
theorem v_fails (h:Off w D ds os rs) (hm:Mx w) (hc:Sl EI64 TT 1 w vc c):Calls Tryz.prog 19 #[.agg #[ds,os,rs],vc] w fun e w'=>e=.returned (.tuple #[.int .i64 (flA D c),.int .i64 (flB D c),.bool (flC D c),.int .i64 (D.pe c)])∧Gr w w':=
 (al_fails h.ok hm h.one0 h.one1 h.one2 (h.opn hm) (hc.cast (list_tb (d:=0)).symm)).mono fun e w' he=>⟨he.1.trans (by unfold flA flB flC fz1;by_cases h0:D.pe c=0<;>simp [h0]),he.2⟩
theorem yf0 (h:Off w D ds os rs) (hm:Mx w) (ht:Tab w) (hc:Sl EI64 TT 1 w vc c) (z:Int):Calls Tryz.prog 16 #[.agg #[ds,os,rs],vc,.int .i64 z] w fun e w'=>e=.returned (.tuple #[.string ⟨(wsA D c z).toArray⟩,.string ⟨(wsB D c z).toArray⟩,.int .i64 (wsE D c z)])∧Gr w w':=by
 have aa:=hc.cast (list_tb (d:=0)).symm
 by_cases h0:D.ce c=0
 ·by_cases h1:0≤z∧z<(D.q:Int)
  ·have hi:wsI D c z:=⟨h0,h1⟩
   have:=zJ9 (r:=z.toNat) h.ok hm h.one0 h.one1 h.one2 (h.opn hm) ht (by omega) aa h0
   rw [show ((z.toNat:Nat):Int)=z by omega] at this
   refine this.mono fun e w' he=>⟨he.1.trans ?_,he.2⟩
   unfold wsA wsB wsE
   rw [if_pos hi,if_pos hi,if_neg (fun e=>e h0),if_pos h1]
  have hi:¬ wsI D c z:=fun e=>h1 e.2
  have e:wsA D c z=[]∧wsB D c z=[]∧wsE D c z=2:=by
   unfold wsA wsB wsE
   rw [if_neg hi,if_neg hi,if_neg (fun e=>e h0),if_neg h1]
   exact ⟨rfl,rfl,rfl⟩
  rw [e.1,e.2.1,e.2.2]
  rcases Int.lt_or_le z 0 with h2 | h2
  ·exact zK0 h.ok hm h.one0 h.one1 h.one2 (h.opn hm) h.rq aa h0 z h2
  exact zK1 h.ok hm h.one0 h.one1 h.one2 (h.opn hm) h.rq aa h0 z (by omega)
 have hi:¬ wsI D c z:=fun e=>h0 e.1
 have e:wsA D c z=[]∧wsB D c z=[]∧wsE D c z=D.ce c:=by
  unfold wsA wsB wsE
  rw [if_neg hi,if_neg hi,if_pos h0]
  exact ⟨rfl,rfl,rfl⟩
 rw [e.1,e.2.1,e.2.2]
 exact zS0 h.ok hm h.one0 h.one1 h.one2 (h.opn hm) aa h0 z
theorem Els.one {α:Type} {E:World→α→List Value→Prop} {c:Nat} {w:World} {x:α} {vs:List Value} (hl:vs.length=c) (h:E w x vs):Els E c w vs [x]:=by
 have:=(Els.nil E c w).snoc hl h
 simpa using this
theorem Els.two {α:Type} {E:World→α→List Value→Prop} {c:Nat} {w:World} {x y:α} {vs us:List Value} (hl:vs.length=c) (h:E w x vs) (hl2:us.length=c) (h2:E w y us):Els E c w (vs++us) [x,y]:=by
 have:=(Els.one hl h).snoc hl2 h2
 simpa using this
theorem Els.three {α:Type} {E:World→α→List Value→Prop} {c:Nat} {w:World} {x y z:α} {vs us ts:List Value} (hl:vs.length=c) (h:E w x vs) (hl2:us.length=c) (h2:E w y us) (hl3:ts.length=c) (h3:E w z ts):Els E c w (vs++us++ts) [x,y,z]:=by
 have:=(Els.two hl h hl2 h2).snoc hl3 h3
 simpa using this
theorem zq1 {α:Type} {E:World→α→List Value→Prop} {T c b n:Nat} {w:World} {cs:Array Value} {xs:List α} (hL:Lc w b cs T) (he:Els E c w cs.toList xs) (hn:xs.length=n):Sl E T c w (.slice (some ⟨b,0,none⟩) n n) xs:=
 Mk.sl_n ⟨cs.toList,by simpa using hL,he⟩ hn (Nat.le_refl _)
end
end Go.Proofs.YtjhflekncldflaaGreatDoor
namespace Go.Proofs.YtjhflekncldflaaGreatDoor
open Go.RowKit
structure Rul where
 f:Nat→Int
 be:Int
 ov:Int
 op:Int
structure Dsc where
 nn:Nat
 nv:Nat→Int
 dn:Nat→Nat
 dl:Nat→Nat→Int × Int × Int
 rn:Nat
 rl:Nat→Rul
def zq2 (a b:Int):Int:=if b<a then b else a
def zn5 (a b:Int):Int:=if a<b then b else a
namespace Dsc
variable (x:Dsc)
structure Ok:Prop where
 nv:∀ i,-128≤x.nv i∧x.nv i≤127
 dl:∀ i k,(-128≤(x.dl i k).1∧(x.dl i k).1≤127)∧(-128≤(x.dl i k).2.1∧(x.dl i k).2.1≤127)∧0≤(x.dl i k).2.2∧(x.dl i k).2.2≤255
 rf:∀ r i,-128≤(x.rl r).f i∧(x.rl r).f i≤127
 rb:∀ r,(-128≤(x.rl r).be∧(x.rl r).be≤127)∧(-128≤(x.rl r).ov∧(x.rl r).ov≤127)∧0≤(x.rl r).op∧(x.rl r).op≤255
def n:Nat:=if x.nn=0 then 1 else if 4<x.nn then 4 else x.nn
def q:Nat:=if 3<x.rn then 3 else x.rn
def nom (i:Nat):Int:=if i<x.nn then x.nv i else 0
def dm (i:Nat):Nat:=if 3<x.dn i then 3 else x.dn i
def ol (i:Nat):Nat:=if x.dn i=0 then 1 else x.dm i
def opt (i k:Nat):Int × Int × Int:=(zq2 (x.dl i k).1 (x.dl i k).2.1,zn5 (x.dl i k).1 (x.dl i k).2.1,(x.dl i k).2.2)
def op (i k:Nat):Int × Int × Int:=if x.dn i=0 then (0,0,0) else x.opt i k
def ci (r i:Nat):Int:=Int.tmod ((x.rl r).f i) 4
def mid (r k:Nat):Int:=zD2 (fun i=>x.ci r i*x.nom i) k
def lw (r:Nat):Int:=x.mid r x.n - (x.rl r).be
def hg (r:Nat):Int:=x.mid r x.n+(x.rl r).ov
def ofr:Ofr where
 n:=x.n
 q:=x.q
 nom:=x.nom
 ol:=x.ol
 lo:=fun i k=>(x.op i k).1
 up:=fun i k=>(x.op i k).2.1
 co:=fun i k=>(x.op i k).2.2
 fc:=fun r i=>((x.ci r i:Int):Rat)
 cn:=fun _=>1/2
 hl:=fun r=>decide ((x.rl r).op % 4≠1)
 hh:=fun r=>decide ((x.rl r).op % 4≠2)
 vl:=fun r=>((zq2 (x.lw r) (x.hg r):Int):Rat)
 vh:=fun r=>((zn5 (x.lw r) (x.hg r):Int):Rat)
def ltr (z:Nat):List UInt8:=[UInt8.ofNat z]
def dnm (i:Nat):List UInt8:=ltr (97+i)
def rnm (i:Nat):List UInt8:=ltr (112+i)
end Dsc
section
variable {x:Dsc}
theorem Dsc.n_b:1≤x.n∧x.n≤4:=by unfold Dsc.n;(repeat' split)<;>omega
theorem Dsc.q_b:x.q≤3∧x.q≤x.rn:=by unfold Dsc.q;split<;>omega
theorem Dsc.dm_b (i:Nat):x.dm i≤3∧x.dm i≤x.dn i:=by unfold Dsc.dm;split<;>omega
theorem Dsc.ol_b (i:Nat):1≤x.ol i∧x.ol i≤3:=by unfold Dsc.ol Dsc.dm;(repeat' split)<;>omega
theorem Dsc.Ok.nom (h:x.Ok) (i:Nat):-128≤x.nom i∧x.nom i≤127:=by unfold Dsc.nom;have:=h.nv i;split<;>omega
theorem tmod4 (z:Int):-3≤Int.tmod z 4∧Int.tmod z 4≤3:=by
 have h1:=Int.natAbs_tmod z 4
 have h2:z.natAbs % (4:Int).natAbs<4:=Nat.mod_lt _ (by decide)
 omega
theorem Dsc.ci_b (r i:Nat):-3≤x.ci r i∧x.ci r i≤3:=tmod4 _
theorem mul_b {a b:Int} (h1:-3≤a∧a≤3) (h2:-128≤b∧b≤127):-384≤a*b∧a*b≤384:=by
 have:a=-3∨a=-2∨a=-1∨a=0∨a=1∨a=2∨a=3:=by omega
 rcases this with rfl | rfl | rfl | rfl | rfl | rfl | rfl<;>omega
theorem Dsc.Ok.mid (h:x.Ok) (r:Nat):∀ k:Nat,-384*(k:Int)≤x.mid r k∧x.mid r k≤384*(k:Int)
 | 0=>by unfold Dsc.mid zD2;omega
 | k+1=>by
  have h1:=Dsc.Ok.mid h r k
  have h2:=mul_b (Dsc.ci_b (x:=x) r k) (h.nom k)
  have e:x.mid r (k+1)=x.mid r k+x.ci r k*x.nom k:=rfl
  rw [e];omega
theorem zV0 {a b l u:Int} (h1:l≤a∧a≤u) (h2:l≤b∧b≤u):l≤zq2 a b∧zq2 a b≤u:=by unfold zq2;split<;>omega
theorem zV1 {a b l u:Int} (h1:l≤a∧a≤u) (h2:l≤b∧b≤u):l≤zn5 a b∧zn5 a b≤u:=by unfold zn5;split<;>omega
theorem zV2 {a b:Int}:zq2 a b≤zn5 a b:=by unfold zq2 zn5;split<;>split<;>omega
theorem Dsc.Ok.opt (h:x.Ok) (i k:Nat):(-128≤(x.opt i k).1∧(x.opt i k).1≤(x.opt i k).2.1∧(x.opt i k).2.1≤127)∧0≤(x.opt i k).2.2∧(x.opt i k).2.2≤255:=by
 obtain ⟨h1,h2,h3⟩:=h.dl i k
 have a:=zV0 h1 h2
 have b:=zV1 h1 h2
 have c:=zV2 (a:=(x.dl i k).1) (b:=(x.dl i k).2.1)
 exact ⟨⟨a.1,c,b.2⟩,h3⟩
theorem Dsc.Ok.op (h:x.Ok) (i k:Nat):(-128≤(x.op i k).1∧(x.op i k).1≤(x.op i k).2.1∧(x.op i k).2.1≤127)∧0≤(x.op i k).2.2∧(x.op i k).2.2≤255:=by
 unfold Dsc.op
 split
 ·decide
 exact h.opt i k
theorem Dsc.Ok.lwhg (h:x.Ok) (r:Nat):(-2000≤x.lw r∧x.lw r≤2000)∧-2000≤x.hg r∧x.hg r≤2000:=by
 have h1:=h.mid r x.n
 have h2:=Dsc.n_b (x:=x)
 have h3:=h.rb r
 unfold Dsc.lw Dsc.hg;omega
theorem isNm_ltr {z:Nat} (h:97≤z) (h2:z≤122):isNm (Dsc.ltr z)=true:=by
 have key:∀ y:Fin 26,isNm (Dsc.ltr (97+y.val))=true:=by decide+kernel
 have:=key ⟨z - 97,by omega⟩
 rwa [show 97+(z - 97)=z by omega] at this
theorem ltr_ne {a b:Nat} (h:a<b) (h2:b≤122):Dsc.ltr a≠Dsc.ltr b:=fun e=>by
 have e2:UInt8.ofNat a=UInt8.ofNat b:=by simpa [Dsc.ltr] using e
 have e3:=congrArg UInt8.toNat e2
 rw [UInt8.toNat_ofNat_of_lt' (by show a<256;omega),UInt8.toNat_ofNat_of_lt' (by show b<256;omega)] at e3
 omega
theorem nm_ltr {N z:Nat} (h:97≤z) (h2:z+N≤123):NmOk N (fun i=>Dsc.ltr (z+i)):=⟨fun i hi=>isNm_ltr (by omega) (by omega),fun j i h1 h3=>ltr_ne (by omega) (by omega)⟩
theorem Dsc.Ok.ofok (h:x.Ok):OfOk x.ofr Dsc.dnm Dsc.rnm:=by
 have hn:=Dsc.n_b (x:=x)
 have hq:=Dsc.q_b (x:=x)
 refine ⟨⟨hn.1,Nat.le_trans hn.2 (by decide),fun i _=>(Dsc.ol_b i).1,fun i _=>Nat.le_trans (Dsc.ol_b i).2 (by decide),Nat.le_trans hq.1 (by decide),?_,fun i _=>?_,fun i k _ _=>?_,fun i k _ _=>?_,fun r i _ _=>?_,fun r _=>?_,fun r _=>?_,fun r _=>?_⟩,
  nm_ltr (by decide) (by have:x.ofr.n=x.n:=rfl;omega),nm_ltr (by decide) (by have:x.ofr.q=x.q:=rfl;omega),fun r _ _ _=>?_⟩
 ·have hp:∀ k,k≤4→x.ofr.pr k≤3 ^ k:=fun k=>by
   induction k with
   | zero=>exact fun _=>Nat.le_refl _
   | succ k ih=>exact fun hk=>Nat.le_trans (Nat.mul_le_mul (ih (by omega)) (Dsc.ol_b k).2) (Nat.le_of_eq (Nat.pow_succ ..).symm)
  exact Nat.le_trans (hp _ hn.2) (Nat.le_trans (Nat.pow_le_pow_right (by decide) hn.2) (by decide))
 ·have:=h.nom i;show -1048576≤x.nom i∧x.nom i≤1048576;omega
 ·have:=h.op i k;show -1048576≤(x.op i k).1∧(x.op i k).1≤(x.op i k).2.1∧(x.op i k).2.1≤1048576;omega
 ·have:=h.op i k;show 0≤(x.op i k).2.2∧(x.op i k).2.2≤1048576;omega
 ·have:=Dsc.ci_b (x:=x) r i
  exact (RZ.int (a:=23) (z:=x.ci r i) (by unfold Sz;omega)).mono (by omega) (by omega)
 ·show RZ 60 60 (1/2)
  exact ⟨by unfold Sz;decide+kernel,by unfold Sz;decide+kernel⟩
 ·have:=h.lwhg r
  have:=zV0 this.1 this.2
  exact (RZ.int (a:=23) (z:=zq2 (x.lw r) (x.hg r)) (by unfold Sz;omega)).mono (by omega) (by omega)
 ·have:=h.lwhg r
  have:=zV1 this.1 this.2
  exact (RZ.int (a:=23) (z:=zn5 (x.lw r) (x.hg r)) (by unfold Sz;omega)).mono (by omega) (by omega)
 exact Rat.intCast_le_intCast.2 zV2
end
def EI8 (_:World) (z:Int) (vs:List Value):Prop:=vs=[.int .i8 z]
theorem stab_i8:zo6 EI8 []:=fun _ _ _ _ _ h=>h
def EDe (_:World) (d:Int × Int × Int) (vs:List Value):Prop:=vs=[.int .i8 d.1,.int .i8 d.2.1,.int .u8 d.2.2]
theorem zC2:zo6 EDe []:=fun _ _ _ _ _ h=>h
def ERu (_:World) (r:Rul) (vs:List Value):Prop:=vs=[.int .i8 (r.f 0),.int .i8 (r.f 1),.int .i8 (r.f 2),.int .i8 (r.f 3),.int .i8 r.be,.int .i8 r.ov,.int .u8 r.op]
theorem stab_ru:zo6 ERu []:=fun _ _ _ _ _ h=>h
structure DscM (w:World) (x:Dsc) (vn d0 d1 d2 d3 vr:Value):Prop where
 ok:x.Ok
 vn:∃ T,Sl EI8 T 1 w vn (tb (fun i=>x.nv i) x.nn)
 d0:∃ T,Sl EDe T 3 w d0 (tb (fun k=>x.dl 0 k) (x.dn 0))
 d1:∃ T,Sl EDe T 3 w d1 (tb (fun k=>x.dl 1 k) (x.dn 1))
 d2:∃ T,Sl EDe T 3 w d2 (tb (fun k=>x.dl 2 k) (x.dn 2))
 d3:∃ T,Sl EDe T 3 w d3 (tb (fun k=>x.dl 3 k) (x.dn 3))
 vr:∃ T,Sl ERu T 7 w vr (tb (fun r=>x.rl r) x.rn)
theorem DscM.gr {w w':World} {x:Dsc} {vn d0 d1 d2 d3 vr:Value} (h:DscM w x vn d0 d1 d2 d3 vr) (g:Gr w w'):DscM w' x vn d0 d1 d2 d3 vr where
 ok:=h.ok
 vn:=let ⟨T,s⟩:=h.vn;⟨T,s.gr stab_i8 g⟩
 d0:=let ⟨T,s⟩:=h.d0;⟨T,s.gr zC2 g⟩
 d1:=let ⟨T,s⟩:=h.d1;⟨T,s.gr zC2 g⟩
 d2:=let ⟨T,s⟩:=h.d2;⟨T,s.gr zC2 g⟩
 d3:=let ⟨T,s⟩:=h.d3;⟨T,s.gr zC2 g⟩
 vr:=let ⟨T,s⟩:=h.vr;⟨T,s.gr stab_ru g⟩
def v4 (d0 d1 d2 d3:Value) (i:Nat):Value:=if i=0 then d0 else if i=1 then d1 else if i=2 then d2 else d3
theorem DscM.d4 {w:World} {x:Dsc} {vn d0 d1 d2 d3 vr:Value} (h:DscM w x vn d0 d1 d2 d3 vr) {i:Nat} (hi:i<4):∃ T,Sl EDe T 3 w (v4 d0 d1 d2 d3 i) (tb (fun k=>x.dl i k) (x.dn i)):=by
 have:i=0∨i=1∨i=2∨i=3:=by omega
 rcases this with rfl | rfl | rfl | rfl
 ·exact h.d0
 ·exact h.d1
 ·exact h.d2
 exact h.d3
section
variable {P:Program} {a:Act} {o:Oper} {w:World}
theorem zF4 {t:TypeId} {x y:Operand} (b off len elem sz k:Nat) (hk:k<len) (hop:o.op=.indexAddr t x y:=by rfl) (hx:a.eval x=.pointer (some ⟨b,off,none⟩):=by rfl) (hy:a.eval y=.int .i64 (k:Int):=by rfl)
  (hu:P.underlying t=some (.array len elem):=by kernel_rfl) (hs:(P.info? elem).map (·.size)=some sz:=by kernel_rfl):RunV P a o w (.pointer (some ⟨b,off+sz*k,none⟩)):=by
 obtain ⟨i,hi,hsz⟩:=Option.map_eq_some_iff.1 hs
 have h2:(0:Int)≤(k:Int)∧(k:Int)<(len:Int):=by omega
 unfold RunV execOp
 simp only [hop,hx,hy]
 by_cases h0:sz*k=0<;>simp [Instr.indexAt,Instr.sureAddr,asIntOf,run_underlying hu,sizeOf,typeInfo,hi,hsz,h2,hk,h0,Addr.add,Nat.mul_comm k sz]
theorem zM6 {t:TypeId} {x:Operand} {b T i:Nat} {c0 d0 d1 d2 d3 c5:Value} (hL:Lc w b #[c0,d0,d1,d2,d3,c5] T) (hi:i<4) (hop:o.op=.load t x:=by rfl) (hx:a.eval x=.pointer (some ⟨b,1+1*i,none⟩):=by rfl) (hs:zl8 P t=true:=by kernel_rfl):RunV P a o w (v4 d0 d1 d2 d3 i):=by
 have:i=0∨i=1∨i=2∨i=3:=by omega
 rcases this with rfl | rfl | rfl | rfl<;>exact zR1 t x b _ _ _ _ hop hx hL rfl hs
theorem rv_aia {t:TypeId} {x y:Operand} (v:Value) (j len elem sz k:Nat) {us:List Value} {w0:World} (hA:AtV w0 v j us) (hk:k<len) (hop:o.op=.indexAddr t x y:=by rfl) (hx:a.eval x=adr v j:=by rfl) (hy:a.eval y=.int .i64 (k:Int):=by rfl)
  (hu:P.underlying t=some (.array len elem):=by kernel_rfl) (hs:(P.info? elem).map (·.size)=some sz:=by kernel_rfl):RunV P a o w (adr v (j+sz*k)):=by
 obtain ⟨b,o2,n,cap,rfl,hr⟩:=hA
 have hx':a.eval x=.pointer (some ⟨b,o2+j,none⟩):=hx
 have:=zF4 (P:=P) (a:=a) (o:=o) (w:=w) b (o2+j) len elem sz k hk hop hx' hy hu hs
 rwa [Nat.add_assoc] at this
theorem rv_fc4 {t:TypeId} {x:Operand} {v:Value} {j i:Nat} {r:Rul} (h:AtV w v j [.int .i8 (r.f 0),.int .i8 (r.f 1),.int .i8 (r.f 2),.int .i8 (r.f 3),.int .i8 r.be,.int .i8 r.ov,.int .u8 r.op]) (hi:i<4) (hop:o.op=.load t x:=by rfl) (hx:a.eval x=adr v (j+0+1*i):=by rfl) (hs:zl8 P t=true:=by kernel_rfl):RunV P a o w (.int .i8 (r.f i)):=by
 have:i=0∨i=1∨i=2∨i=3:=by omega
 rcases this with rfl | rfl | rfl | rfl
 ·exact zc7 _ (AtV.part (i:=0) (us:=[.int .i8 (r.f 0)]) h rfl) t x hop hx hs
 ·exact zc7 _ (AtV.part (i:=1) (us:=[.int .i8 (r.f 1)]) h rfl) t x hop hx hs
 ·exact zc7 _ (AtV.part (i:=2) (us:=[.int .i8 (r.f 2)]) h rfl) t x hop hx hs
 exact zc7 _ (AtV.part (i:=3) (us:=[.int .i8 (r.f 3)]) h rfl) t x hop hx hs
theorem rv_b2s {src dst e:TypeId} {x:Operand} {b z:Nat} (hL:Lc w b #[.int .u8 (z:Int)] 5) (hop:o.op=.convert src dst x:=by rfl) (hx:a.eval x=.slice (some ⟨b,0,none⟩) 1 1:=by rfl)
  (hs:P.underlying src=some (.slice e):=by kernel_rfl) (he:P.underlying e=some (.int .u8):=by kernel_rfl) (hd:P.underlying dst=some .string:=by kernel_rfl):RunV P a o w (.string ⟨(Dsc.ltr z).toArray⟩):=by
 have hc:w.cell? ⟨b,0,none⟩=some (.int .u8 (z:Int)):=by rw [zc4 hL];rfl
 have h1:=run_loadCells_list (P:=P) (w:=w) ⟨b,0,none⟩ [.int .u8 (z:Int)] (fun j v hj=>by
  have:j=0:=by have:=(List.getElem?_eq_some_iff.1 hj).1;simp at this;omega
  subst this
  simp at hj;subst hj
  simpa [Addr.add] using hc)
 have h:=run_bytesToString (P:=P) w ⟨b,0,none⟩ 1 1 [(z:Int)] (by simpa using h1)
 have e1:(Conv.bytesToString (.slice (some ⟨b,0,none⟩) 1 1)).run P w=.ok (.string ⟨(Dsc.ltr z).toArray⟩) w:=h.trans (by
  have:(List.foldl (fun (r:ByteArray) (n:Int)=>r.push (UInt8.ofNat n.toNat)) ByteArray.empty [(z:Int)])=⟨(Dsc.ltr z).toArray⟩:=by
   show ByteArray.empty.push (UInt8.ofNat ((z:Int)).toNat)=_
   rw [Int.toNat_natCast];rfl
  rw [this])
 unfold RunV execOp
 simp only [hop,hx,Sem.run_bind,run_convert_bytes_string w src dst e _ 1 1 hs he hd,e1,Result.andThen_ok,Sem.run_pure]
end
section
variable {x:Dsc} {i k r:Nat} {w:World}
def Dsc.tmk (x:Dsc) (r k:Nat):List (Nat × Rat):=((List.range k).filter fun i=>decide (x.ofr.fc r i≠0)).map fun i=>(i,x.ofr.fc r i)
theorem tmk_len:(x.tmk r k).length≤k:=by
 unfold Dsc.tmk
 rw [List.length_map]
 have:=List.length_filter_le (fun i=>decide (x.ofr.fc r i≠0)) (List.range k)
 rwa [List.length_range] at this
theorem fc_nz:x.ofr.fc r k≠0↔x.ci r k≠0:=by
 show ((x.ci r k:Int):Rat)≠0↔_
 rw [Ne,Rat.intCast_eq_zero_iff]
theorem tmk_snoc (h:x.ci r k≠0):x.tmk r k++[(k,x.ofr.fc r k)]=x.tmk r (k+1):=by
 unfold Dsc.tmk
 rw [List.range_succ,List.filter_append,List.map_append,List.filter_cons_of_pos (by simpa using fc_nz.2 h)]
 rfl
theorem tmk_skip (h:x.ci r k=0):x.tmk r k=x.tmk r (k+1):=by
 unfold Dsc.tmk
 rw [List.range_succ,List.filter_append,List.filter_cons_of_neg (by have:=mt fc_nz.1 (fun e=>e h);simpa using this)]
 simp
theorem tmk_tb (h:x.ci r k≠0):tb (fun z1=>(x.tmk r k).getD z1 (0,0)) (x.tmk r k).length++[(k,x.ofr.fc r k)]=tb (fun z1=>(x.tmk r (k+1)).getD z1 (0,0)) (x.tmk r (k+1)).length:=by
 rw [list_tb,list_tb];exact tmk_snoc h
theorem tmk_tb0 (h:x.ci r k=0):tb (fun z1=>(x.tmk r k).getD z1 (0,0)) (x.tmk r k).length=tb (fun z1=>(x.tmk r (k+1)).getD z1 (0,0)) (x.tmk r (k+1)).length:=by
 rw [list_tb,list_tb];exact tmk_skip h
theorem edg_in (h:i<x.nn):EDg w ⟨Dsc.dnm i,x.nom i,0,0⟩ [zf1 (Dsc.ltr (97+i)),.int .i64 (x.nv i),.int .i64 0,.int .i64 0]:=by
 show _=[_,Value.int .i64 (x.nom i),_,_]
 unfold Dsc.nom;rw [if_pos h];rfl
theorem edg_out (h:¬ i<x.nn):EDg w ⟨Dsc.dnm i,x.nom i,0,0⟩ [zf1 (Dsc.ltr (97+i)),.int .i64 0,.int .i64 0,.int .i64 0]:=by
 show _=[_,Value.int .i64 (x.nom i),_,_]
 unfold Dsc.nom;rw [if_neg h];rfl
theorem n_eq:(if (4:Int)<(if 1>((x.nn:Nat):Int) then 1 else ((x.nn:Nat):Int)) then (4:Int) else (if 1>((x.nn:Nat):Int) then 1 else ((x.nn:Nat):Int)))=((x.n:Nat):Int):=by
 unfold Dsc.n;(repeat' split)<;>omega
theorem dm_a (h:¬ k<x.dn i) (hk:k≤x.dm i):x.dm i=k:=by have e:x.dm i=(if 3<x.dn i then 3 else x.dn i):=rfl;split at e<;>omega
theorem dm_c (h:¬ k<3) (hk:k≤x.dm i):x.dm i=k:=by have e:x.dm i=(if 3<x.dn i then 3 else x.dn i):=rfl;split at e<;>omega
theorem dm_lt (h:k<x.dn i) (h2:k<3):k<x.dm i:=by unfold Dsc.dm;split<;>omega
theorem q_a (h:¬ k<x.rn) (hk:k≤x.q):x.q=k:=by have e:x.q=(if 3<x.rn then 3 else x.rn):=rfl;split at e<;>omega
theorem q_c (h:¬ k<3) (hk:k≤x.q):x.q=k:=by have e:x.q=(if 3<x.rn then 3 else x.rn):=rfl;split at e<;>omega
theorem q_lt (h:k<x.rn) (h2:k<3):k<x.q:=by unfold Dsc.q;split<;>omega
theorem dm_0:x.dm i=0↔x.dn i=0:=by unfold Dsc.dm;split<;>omega
theorem row_0 (h:((x.dm i:Nat):Int)=0):[((0:Int),(0:Int),(0:Int))]=tb (fun k=>x.op i k) (x.ol i):=by
 have h0:=dm_0.1 (show x.dm i=0 by omega)
 unfold Dsc.ol Dsc.op;rw [if_pos h0]
 simp only [if_pos h0];rfl
theorem row_k (h:¬ ((x.dm i:Nat):Int)=0):tb (fun k=>x.opt i k) (x.dm i)=tb (fun k=>x.op i k) (x.ol i):=by
 have h0:=mt dm_0.2 (show ¬ x.dm i=0 by omega)
 unfold Dsc.ol Dsc.op;rw [if_neg h0]
 simp only [if_neg h0]
theorem half_t:zc3 (1/2)=[49,47,50]:=by kernel_rfl
theorem lo_y (h:¬ (x.rl r).op % 4=1):zc3 (((zq2 (x.lw r) (x.hg r):Int):Rat))=tO (x.ofr.hl r) (x.ofr.vl r):=by
 show _=tO (decide ((x.rl r).op % 4≠1)) _
 rw [decide_eq_true h];rfl
theorem lo_n (h:(x.rl r).op % 4=1):[]=tO (x.ofr.hl r) (x.ofr.vl r):=by
 show _=tO (decide ((x.rl r).op % 4≠1)) _
 rw [decide_eq_false (fun e=>e h)];rfl
theorem hi_y (h:¬ (x.rl r).op % 4=2):zc3 (((zn5 (x.lw r) (x.hg r):Int):Rat))=tO (x.ofr.hh r) (x.ofr.vh r):=by
 show _=tO (decide ((x.rl r).op % 4≠2)) _
 rw [decide_eq_true h];rfl
theorem hi_n (h:(x.rl r).op % 4=2):[]=tO (x.ofr.hh r) (x.ofr.vh r):=by
 show _=tO (decide ((x.rl r).op % 4≠2)) _
 rw [decide_eq_false (fun e=>e h)];rfl
theorem zM7 {u:Value} {A B:List UInt8} (h1:A=tO (x.ofr.hl r) (x.ofr.vl r)) (h2:B=tO (x.ofr.hh r) (x.ofr.vh r)) (hs:Sl ETm 110 2 w u (tb (fun z1=>(x.tmk r x.n).getD z1 (0,0)) (x.tmk r x.n).length)):
  ERn w (Dsc.rnm r,x.ofr.rq r) [zf1 (Dsc.ltr (112+r)),.int .i64 0,zf1 [49,47,50],u,zf1 [],.slice none 0 0,zf1 A,zf1 B]:=by
 rw [list_tb] at hs
 refine ⟨u,?_,hs⟩
 show _=[zf1 (Dsc.ltr (112+r)),Value.int .i64 0,zf1 (zc3 (1/2)),u,zf1 [],.slice none 0 0,zf1 (tO (x.ofr.hl r) (x.ofr.vl r)),zf1 (tO (x.ofr.hh r) (x.ofr.vh r))]
 rw [half_t,h1,h2]
end
end Go.Proofs.YtjhflekncldflaaGreatDoor
namespace Go.Proofs.YtjhflekncldflaaGreatDoor
open Go.ChangeShapes Go.WideShapes Go.ChangeAt Go.RowKit
inductive CK where
 | int (k:IntKind)
 | sl (ks:List IntKind)
def CKis (W:World):CK→Value→Prop
 | .int k,c=>∃ z,c=.int k z∧k.has z
 | .sl ks,c=>∃ (T:Nat) (xs:List (List Int)),Sl (EK ks) T ks.length W c xs
def CKs (W:World):List CK→List Value→Prop
 | k::ks,c::cs=>CKis W k c∧CKs W ks cs
 | [],[]=>True
 | _,_=>False
section
variable {W:World}
theorem CKs.len:∀ {ks:List CK} {cs:List Value},CKs W ks cs→cs.length=ks.length
 | _::_,_::_,h=>by simp [CKs.len h.2]
 | [],[],_=>rfl
 | _::_,[],h=>h.elim
 | [],_::_,h=>h.elim
theorem CKs.app:∀ {ks ls:List CK} {cs ds:List Value},CKs W ks cs→CKs W ls ds→CKs W (ks++ls) (cs++ds)
 | _::_,_,_::_,_,h,g=>⟨h.1,CKs.app h.2 g⟩
 | [],_,[],_,_,g=>g
 | _::_,_,[],_,h,_=>h.elim
 | [],_,_::_,_,h,_=>h.elim
theorem CKs.rep {ks:List CK}:∀ {m:Nat} {cs:List Value},cs.length=m*ks.length→(∀ i,i<m→CKs W ks ((cs.drop (i*ks.length)).take ks.length))→CKs W (List.replicate m ks).flatten cs
 | 0,cs,hl,_=>by
  rw [Nat.zero_mul] at hl
  rw [List.length_eq_zero_iff.1 hl];trivial
 | m+1,cs,hl,h=>by
  have h0:=h 0 (by omega)
  rw [Nat.zero_mul,List.drop_zero] at h0
  have hr:CKs W (List.replicate m ks).flatten (cs.drop ks.length):=CKs.rep (by rw [List.length_drop,hl,Nat.add_mul];omega) fun i hi=>by
   have:=h (i+1) (by omega)
   rw [List.drop_drop,show ks.length+i*ks.length=(i+1)*ks.length by rw [Nat.add_mul];omega]
   exact this
  have:=h0.app hr
  rw [List.take_append_drop] at this
  exact this
def zw0 (P:Program) (rec:TypeId→Option (List CK)):Nat→List Field→Option (List CK)
 | _,[]=>some []
 | off,f::fs=>match rec f.type with
  | some ks=>if f.offset=off∧P.cellsOf f.type=ks.length then (zw0 P rec (off+ks.length) fs).map (ks++·) else none
  | none=>none
def ckOf (P:Program):Nat→TypeId→Option (List CK)
 | 0,_=>none
 | n+1,t=>match P.underlying t with
  | some (.int k)=>some [.int k]
  | some (.slice e)=>match zA9 P n e with
   | some ks=>if 0<ks.length∧P.cellsOf e=ks.length then some [.sl ks] else none
   | none=>none
  | some (.array m e)=>match ckOf P n e with
   | some ks=>if P.cellsOf e=ks.length∧P.cellsOf t=m*ks.length then some (List.replicate m ks).flatten else none
   | none=>none
  | some (.struct fs)=>match zw0 P (ckOf P n) 0 fs.toList with
   | some ks=>if P.cellsOf t=ks.length then some ks else none
   | none=>none
  | _=>none
theorem zt9 {P:Program} {rec:TypeId→Option (List CK)} {cs:List Value}:∀ {fs:List Field} {off:Nat} {ks:List CK},zw0 P rec off fs=some ks→cs.length=off+ks.length→
  (∀ (f:Field) (ls:List CK),f ∈ fs→rec f.type=some ls→CKs W ls ((cs.drop f.offset).take (P.cellsOf f.type)))→CKs W ks (cs.drop off)
 | [],off,ks,h,hl,_=>by
  obtain rfl:=Option.some.inj h
  rw [List.drop_eq_nil_of_le (by simpa using Nat.le_of_eq hl)];trivial
 | f::fs,off,ks,h,hl,hf=>by
  unfold zw0 at h
  split at h
  ·rename_i ls hls
   split at h
   ·rename_i hc
    obtain ⟨rs,hr,rfl⟩:=Option.map_eq_some_iff.1 h
    have h0:=hf f ls (by simp) hls
    rw [hc.1,hc.2] at h0
    have h1:=zt9 hr (by rw [hl,List.length_append];omega) fun g l hg=>hf g l (by simp [hg])
    have:=h0.app h1
    rw [← List.drop_drop,List.take_append_drop] at this
    exact this
   cases h
  cases h
variable {H:Type} {enc:TypeId × Value→H} {P:Program} {base base2:Nat} {sp:Nat→Bool} {held:Bool}
theorem zD5:∀ {n:Nat} {t:TypeId} {ks:List CK} {fuel:Nat} {cs:List Value} {x:DataW H × List MemPlace},
  ckOf P n t=some ks→DataW.trod enc P W base sp held fuel t cs=some x→CKs W ks cs
 | 0,_,_,_,_,_,h,_=>by cases h
 | n+1,t,ks,fuel,cs,x,h,ht=>by
  unfold ckOf at h
  split at h
  ·rename_i k hu
   obtain rfl:=Option.some.inj h
   obtain ⟨z,rfl,_,hz⟩:=DataW.trod_int hu ht
   exact ⟨⟨z,rfl,zy7 hz⟩,trivial⟩
  ·rename_i e hu
   split at h
   ·rename_i ls hls
    split at h
    ·rename_i hc
     obtain rfl:=Option.some.inj h
     obtain ⟨v,T,xs,rfl,hs⟩:=yb5 (E:=EK ls) hu hc.2 hc.1 (fun _ _ _ _ hx=>⟨_,(zr5 hls hx).ek⟩) ht
     exact ⟨⟨T,xs,hs⟩,trivial⟩
    cases h
   cases h
  ·rename_i m e hu
   split at h
   ·rename_i ls hls
    split at h
    ·rename_i hc
     obtain rfl:=Option.some.inj h
     obtain ⟨xs,g,_,_,hl,hx,he⟩:=DataW.trod_array hu ht
     refine CKs.rep (by rw [hl,hc.2]) fun i hi=>?_
     have h1:=he i hi
     rw [hc.1] at h1
     exact zD5 hls (h1.trans (List.getElem?_eq_getElem (by omega)))
    cases h
   cases h
  ·rename_i fs hu
   split at h
   ·rename_i ls hls
    split at h
    ·rename_i hc
     obtain rfl:=Option.some.inj h
     obtain ⟨xs,g,_,_,hl,hx,he⟩:=DataW.trod_struct hu ht
     have:=zt9 (cs:=cs) hls (by rw [hl,hc];omega) fun f l hf hr=>by
      obtain ⟨i,hi,hfi⟩:=List.getElem_of_mem hf
      have hi':i<fs.size:=by simpa using hi
      have hfi':fs[i]?=some f:=by rw [Array.getElem?_eq_getElem hi'];simpa using hfi
      have h1:=he i f hfi'
      exact zD5 hr (h1.trans (List.getElem?_eq_getElem (by omega)))
     rw [List.drop_zero] at this
     exact this
    cases h
   cases h
  cases h
def isStr (P:Program) (t:TypeId):Bool:=match P.underlying t with
 | some (.struct _)=>true
 | _=>false
theorem open_cks {t:TypeId} {v:Value} {d:DataW H} {p:List MemPlace} (n:Nat) {ks:List CK} (hs:isStr P t=true) (hk:ckOf P n t=some ks) (hval:Value.okWide P W .any base2 t v) (h:DataW.Trod enc P W base sp held t v d p):
  ∃ cs,v=.agg cs∧CKs W ks cs.toList:=by
 unfold isStr at hs
 split at hs
 ·next fs hu=>
  obtain ⟨cs,rfl,hl⟩:=okWide_struct hu hval
  obtain ⟨fuel,hf⟩:=h
  exact ⟨cs,rfl,zD5 hk hf⟩
 cases hs
theorem has_0 (k:IntKind):k.has 0:=zy7 (by cases k<;>rfl)
theorem zy3 {ks:List IntKind} {T c:Nat} {v:Value} {xs:List (List Int)} (h:Sl (EK ks) T c W v xs) (i j:Nat) {k:IntKind} (hk:ks[j]?=some k):k.has ((xs.getD i []).getD j 0):=by
 obtain ⟨ys,_,h2⟩:=h
 rw [show xs.getD i []=(xs[i]?).getD [] from List.getD_eq_getElem?_getD ..]
 cases e:xs[i]? with
 | none=>exact has_0 k
 | some x=>exact (h2.2 i x e).2.2 j k hk
theorem zy4 {α:Type} {E:World→α→List Value→Prop} {ks:List IntKind} {T c:Nat} {v:Value} {xs:List (List Int)} (h:Sl (EK ks) T c W v xs) (g:List Int→α) (hg:∀ x vs,EK ks W x vs→E W (g x) vs):Sl E T c W v (tb (fun i=>g (xs.getD i [])) xs.length):=by
 obtain ⟨ys,h1,h2⟩:=h
 have hl:(tb (fun i=>g (xs.getD i [])) xs.length).length=xs.length:=za7
 refine ⟨ys,by rw [hl];exact h1,by rw [h2.1,hl],fun i x hx=>?_⟩
 have hi:i<xs.length:=by rw [← hl];exact (List.getElem?_eq_some_iff.1 hx).1
 rw [zb5 hi] at hx
 obtain rfl:=Option.some.inj hx
 have:=h2.2 i _ (List.getElem?_eq_getElem hi)
 rw [List.getD_eq_getElem?_getD,List.getElem?_eq_getElem hi]
 exact hg _ _ this
def zu0 (e:List Int):Int × Int × Int:=(e.getD 0 0,e.getD 1 0,e.getD 2 0)
def ya9 (e:List Int):Rul:=⟨fun j=>if j<4 then e.getD j 0 else 0,e.getD 4 0,e.getD 5 0,e.getD 6 0⟩
def sel4 {α:Type} (a b c d:α) (i:Nat):α:=if i=0 then a else if i=1 then b else if i=2 then c else d
theorem sel4_all {α:Type} {Q:α→Prop} {a b c d:α} (ha:Q a) (hb:Q b) (hc:Q c) (hd:Q d) (i:Nat):Q (sel4 a b c d i):=by unfold sel4;(repeat' split)<;>assumption
theorem ek_de {e:List Int} {vs:List Value} (h:EK [.i8,.i8,.u8] W e vs):EDe W (zu0 e) vs:=by
 obtain ⟨h1,h2,_⟩:=h
 match e,h1 with
 | [a,b,c],_=>exact h2
theorem ek_ru {e:List Int} {vs:List Value} (h:EK [.i8,.i8,.i8,.i8,.i8,.i8,.u8] W e vs):ERu W (ya9 e) vs:=by
 obtain ⟨h1,h2,_⟩:=h
 match e,h1 with
 | [a,b,c,d,x,y,z],_=>exact h2
theorem ek_i8 {e:List Int} {vs:List Value} (h:EK [.i8] W e vs):EI8 W (e.getD 0 0) vs:=by
 obtain ⟨h1,h2,_⟩:=h
 match e,h1 with
 | [a],_=>exact h2
theorem CKs.cons {k:CK} {ks:List CK} {cs:List Value} (h:CKs W (k::ks) cs):∃ c ds,cs=c::ds∧CKis W k c∧CKs W ks ds:=by
 match cs,h with
 | c::ds,⟨h1,h2⟩=>exact ⟨c,ds,rfl,h1,h2⟩
theorem CKs.nil {cs:List Value} (h:CKs W [] cs):cs=[]:=by
 match cs,h with
 | [],_=>rfl
def dscOf (l0 l1 l2 l3 l4 l5:List (List Int)):Dsc:=⟨l0.length,fun i=>(l0.getD i []).getD 0 0,fun i=>(sel4 l1 l2 l3 l4 i).length,fun i k=>zu0 ((sel4 l1 l2 l3 l4 i).getD k []),l5.length,fun r=>ya9 (l5.getD r [])⟩
def DealOk (d:Int × Int × Int):Prop:=(-128≤d.1∧d.1≤127)∧(-128≤d.2.1∧d.2.1≤127)∧0≤d.2.2∧d.2.2≤255
theorem zD6 {T:Nat} {v:Value} {l:List (List Int)} (s:Sl (EK [.i8,.i8,.u8]) T 3 W v l) (k:Nat):DealOk (zu0 (l.getD k [])):=
 ⟨show IntKind.i8.has _ from zy3 s k 0 rfl,show IntKind.i8.has _ from zy3 s k 1 rfl,show IntKind.u8.has _ from zy3 s k 2 rfl⟩
section
variable {l0 l1 l2 l3 l4 l5:List (List Int)} {T0 T1 T2 T3 T4 T5:Nat} {vn d0 d1 d2 d3 vr:Value}
theorem dsc_ok (s0:Sl (EK [.i8]) T0 1 W vn l0) (s1:Sl (EK [.i8,.i8,.u8]) T1 3 W d0 l1) (s2:Sl (EK [.i8,.i8,.u8]) T2 3 W d1 l2) (s3:Sl (EK [.i8,.i8,.u8]) T3 3 W d2 l3) (s4:Sl (EK [.i8,.i8,.u8]) T4 3 W d3 l4) (s5:Sl (EK [.i8,.i8,.i8,.i8,.i8,.i8,.u8]) T5 7 W vr l5):(dscOf l0 l1 l2 l3 l4 l5).Ok where
 nv:=fun i=>show IntKind.i8.has _ from zy3 s0 i 0 rfl
 dl:=fun i k=>sel4_all (α:=List (List Int)) (Q:=fun l=>DealOk (zu0 (l.getD k []))) (zD6 s1 k) (zD6 s2 k) (zD6 s3 k) (zD6 s4 k) i
 rf:=fun r i=>by
  show -128≤(if i<4 then (l5.getD r []).getD i 0 else 0)∧(if i<4 then (l5.getD r []).getD i 0 else 0)≤127
  split
  ·next h4=>
   have:i=0∨i=1∨i=2∨i=3:=by omega
   rcases this with rfl | rfl | rfl | rfl
   ·exact (show IntKind.i8.has _ from zy3 s5 r 0 rfl)
   ·exact (show IntKind.i8.has _ from zy3 s5 r 1 rfl)
   ·exact (show IntKind.i8.has _ from zy3 s5 r 2 rfl)
   exact (show IntKind.i8.has _ from zy3 s5 r 3 rfl)
  omega
 rb:=fun r=>⟨show IntKind.i8.has _ from zy3 s5 r 4 rfl,show IntKind.i8.has _ from zy3 s5 r 5 rfl,show IntKind.u8.has _ from zy3 s5 r 6 rfl⟩
theorem dsc_m (s0:Sl (EK [.i8]) T0 1 W vn l0) (s1:Sl (EK [.i8,.i8,.u8]) T1 3 W d0 l1) (s2:Sl (EK [.i8,.i8,.u8]) T2 3 W d1 l2) (s3:Sl (EK [.i8,.i8,.u8]) T3 3 W d2 l3) (s4:Sl (EK [.i8,.i8,.u8]) T4 3 W d3 l4) (s5:Sl (EK [.i8,.i8,.i8,.i8,.i8,.i8,.u8]) T5 7 W vr l5):DscM W (dscOf l0 l1 l2 l3 l4 l5) vn d0 d1 d2 d3 vr where
 ok:=dsc_ok s0 s1 s2 s3 s4 s5
 vn:=⟨T0,zy4 s0 (fun e:List Int=>e.getD 0 0) fun _ _=>ek_i8⟩
 d0:=⟨T1,zy4 s1 zu0 fun _ _=>ek_de⟩
 d1:=⟨T2,zy4 s2 zu0 fun _ _=>ek_de⟩
 d2:=⟨T3,zy4 s3 zu0 fun _ _=>ek_de⟩
 d3:=⟨T4,zy4 s4 zu0 fun _ _=>ek_de⟩
 vr:=⟨T5,zy4 s5 ya9 fun _ _=>ek_ru⟩
end
theorem dsc_of {cs:Array Value} (h:CKs W [.sl [.i8],.sl [.i8,.i8,.u8],.sl [.i8,.i8,.u8],.sl [.i8,.i8,.u8],.sl [.i8,.i8,.u8],.sl [.i8,.i8,.i8,.i8,.i8,.i8,.u8]] cs.toList):
  ∃ x vn d0 d1 d2 d3 vr,cs=#[vn,d0,d1,d2,d3,vr]∧DscM W x vn d0 d1 d2 d3 vr:=by
 obtain ⟨cs⟩:=cs
 obtain ⟨vn,r0,e0,⟨T0,l0,s0⟩,h⟩:=CKs.cons h
 obtain ⟨d0,r1,e1,⟨T1,l1,s1⟩,h⟩:=CKs.cons h
 obtain ⟨d1,r2,e2,⟨T2,l2,s2⟩,h⟩:=CKs.cons h
 obtain ⟨d2,r3,e3,⟨T3,l3,s3⟩,h⟩:=CKs.cons h
 obtain ⟨d3,r4,e4,⟨T4,l4,s4⟩,h⟩:=CKs.cons h
 obtain ⟨vr,r5,e5,⟨T5,l5,s5⟩,h⟩:=CKs.cons h
 have e6:=CKs.nil h
 subst e6 e5 e4 e3 e2 e1
 have e0:cs=_:=e0
 subst e0
 exact ⟨_,vn,d0,d1,d2,d3,vr,rfl,dsc_m s0 s1 s2 s3 s4 s5⟩
theorem ints_of {T:Nat} {v:Value} {xs:List (List Int)} (h:Sl (EK [.i64]) T 1 W v xs):Sl EI64 T 1 W v (tb (fun i=>ca (tb (fun i=>(xs.getD i []).getD 0 0) xs.length) i) (tb (fun i=>(xs.getD i []).getD 0 0) xs.length).length):=
 (zy4 h (fun e:List Int=>e.getD 0 0) fun e vs g=>by
  obtain ⟨h1,h2,_⟩:=g
  match e,h1 with
  | [a],_=>exact h2).cast (list_tb (d:=0)).symm
end
end Go.Proofs.YtjhflekncldflaaGreatDoor
namespace Go.Proofs.YtjhflekncldflaaGreatDoor
set_option maxRecDepth 100000
set_option maxHeartbeats 4000000
open Go.RowKit

def exD (a b:Rat):Ofr where
 n:=2
 q:=1
 nom:=fun _=>10
 ol:=fun _=>2
 lo:=fun i k=>if k=0 then (if i=0 then -2 else -3) else -1
 up:=fun i k=>if k=0 then (if i=0 then 2 else 3) else 1
 co:=fun i k=>if k=0 then 1 else (if i=0 then 4 else 2)
 fc:=fun _ _=>1
 cn:=fun _=>0
 hl:=fun _=>true
 hh:=fun _=>true
 vl:=fun _=>a
 vh:=fun _=>b
def dnE (i:Nat):List UInt8:=if i=0 then [97] else [98]
def rnE (_:Nat):List UInt8:=[114]
theorem ex_ok {a b:Rat} (ha:RZ 60 60 a) (hb:RZ 60 60 b) (hab:a≤b):OfOk (exD a b) dnE rnE where
 ok:={
  n1:=(show 0<2 by decide)
  n2:=(show 2≤12 by decide)
  o1:=fun i _=>(show 0<2 by decide)
  o2:=fun i _=>(show 2≤8 by decide)
  q2:=by show 1≤16;decide
  few:=by show 1*2*2≤4096;decide
  nom:=fun i _=>by show -1048576≤(10:Int)∧(10:Int)≤1048576;decide
  lo:=fun i k _ _=>by unfold exD;dsimp only;(repeat' split)<;>decide
  co:=fun i k _ _=>by unfold exD;dsimp only;(repeat' split)<;>decide
  fc:=fun r i _ _=>by show RZ 30 30 1;exact ⟨by unfold Sz;decide+kernel,by unfold Sz;decide+kernel⟩
  cn:=fun r _=>by show RZ 60 60 0;exact ⟨by unfold Sz;decide+kernel,by unfold Sz;decide+kernel⟩
  vl:=fun r _=>ha
  vh:=fun r _=>hb}
 dn:=⟨fun i _=>by unfold dnE;split<;>kernel_rfl,fun j i h1 h2=>by
  have h2:i<2:=h2
  obtain rfl:j=0:=by omega
  obtain rfl:i=1:=by omega
  decide⟩
 rn:=⟨fun i _=>by kernel_rfl,fun j i h1 h2=>by have h2:i<1:=h2;omega⟩
 hv:=fun _ _ _ _=>hab
theorem ex_of_m {a b:Rat} {X Y:List UInt8} (hX:X=zc3 a) (hY:Y=zc3 b) {w:World} {b1 b2 b3 b4 b5 b6:Nat} (L1:Lc w b1 #[zf1 [97],iT 10,iT 0,iT 0,zf1 [98],iT 10,iT 0,iT 0] 71)
  (L2:Lc w b2 #[iT (-2),iT 2,iT 1,iT (-1),iT 1,iT 4] 68) (L3:Lc w b3 #[iT (-3),iT 3,iT 1,iT (-1),iT 1,iT 2] 68)
  (L4:Lc w b4 #[sT b2 2 2,sT b3 2 2] 72) (L5:Lc w b5 #[iT 0,zf1 [49],iT 1,zf1 [49]] 110)
  (L6:Lc w b6 #[zf1 [114],iT 0,zf1 [48],sT b5 2 2,zf1 [],sN,zf1 X,zf1 Y] 80):
  OfM w (exD a b) dnE rnE (sT b1 2 2) (sT b4 2 2) (sT b6 1 1):=by
 subst hX hY
 have e1:zc3 1=[49]:=by kernel_rfl
 have e0:zc3 0=[48]:=by kernel_rfl
 have et:(exD a b).tms 0=[(0,1),(1,1)]:=by kernel_rfl
 refine ⟨?_,?_,?_⟩
 ·exact (zq1 (E:=EDg) (c:=4) (xs:=[⟨[97],10,0,0⟩,⟨[98],10,0,0⟩]) L1 (Els.two (vs:=[_,_,_,_]) (us:=[_,_,_,_]) rfl rfl rfl rfl) rfl).cast rfl
 ·have s2:=zq1 (E:=EOp) (c:=3) (xs:=[(-2,2,1),(-1,1,4)]) L2 (Els.two (vs:=[_,_,_]) (us:=[_,_,_]) rfl rfl rfl rfl) rfl
  have s3:=zq1 (E:=EOp) (c:=3) (xs:=[(-3,3,1),(-1,1,2)]) L3 (Els.two (vs:=[_,_,_]) (us:=[_,_,_]) rfl rfl rfl rfl) rfl
  exact (zq1 (E:=ERw EOp 68 3) (c:=1) L4 (Els.two (vs:=[_]) (us:=[_]) rfl ⟨_,rfl,s2⟩ rfl ⟨_,rfl,s3⟩) rfl).cast rfl
 have s5:=zq1 (E:=ETm) (c:=2) (xs:=[(0,1),(1,1)]) L5 (Els.two (vs:=[_,_]) (us:=[_,_]) rfl (by show _=[_,zf1 (zc3 1)];rw [e1];rfl) rfl (by show _=[_,zf1 (zc3 1)];rw [e1];rfl)) rfl
 have hE:ERn w ([114],(exD a b).rq 0) [zf1 [114],iT 0,zf1 [48],sT b5 2 2,zf1 [],sN,zf1 (zc3 a),zf1 (zc3 b)]:=by
  refine ⟨sT b5 2 2,?_,?_⟩
  ·show _=[zf1 [114],iT 0,zf1 (zc3 0),_,zf1 [],sN,zf1 (zc3 a),zf1 (zc3 b)]
   rw [e0]
  show Sl ETm _ _ _ _ ((exD a b).tms 0)
  rw [et];exact s5
 exact (zq1 (E:=ERn) (c:=8) (xs:=[([114],(exD a b).rq 0)]) L6 (Els.one rfl hE) rfl).cast rfl
theorem ex_of {a b:Rat} {X Y:List UInt8} (hX:X=zc3 a) (hY:Y=zc3 b) (w:World):
    Calls Tryz.prog 38 #[sV X,sV Y] w fun e w'=>(∃ ds os rs,e=.returned (.agg #[ds,os,rs])∧OfM w' (exD a b) dnE rnE ds os rs)∧Gr w w':=by
 go_enter Tryz.func38,Tryz.ntmps38
 have hB:=Gr.refl w
 refine wp_seq_k (fun bi aL=>rg [0] ?_)
 refine se ?_
 refine ea 26 #[sN,sN,sN] 4 hB fun a5 bg a0 aa a6 aW hB=>?_
 simp only [p3,p4]
 refine za0 (aL _ _ ?_)
 refine wp_seq_k (fun a8 aZ=>rg [0,1,2,3,4,5] (sv 6 (.agg #[iT 0,sV [49]]) ?_))
 refine sv 7 (.agg #[iT 1,sV [49]]) ?_
 refine se ?_
 refine zc5 110 2 #[iT 0,sV [49],iT 1,sV [49]] (some 8) rfl (fun _=>by kernel_rfl) (fun ai bf aI ac aO=>?_)
 have al:=aa.ne aO
 replace hB:=hB.trans aI
 simp only [zd0,p3,p4]
 refine sv 9 (.agg #[sV [48],sT ai 2 2]) ?_
 refine se ?_
 refine ea 75 #[sV [],sN] 5 hB fun a2 a3 aK ae aJ aQ hB=>?_
 replace aa:=aa.gr aI
 have aj:=aa.ne aJ
 have ar:=ac.ne aJ
 simp only [p3,p4]
 refine se ?_
 refine es 75 0 (.agg #[sV [48],sT ai 2 2]) [sV [48],sT ai 2 2] #[sV [48],sT ai 2 2] ae hB aQ ⟨rfl,rfl,trivial⟩ fun bh aA aU ae hB=>?_
 refine za0 (aZ _ _ ?_)
 refine wp_seq_k (fun a1 aS=>rg [0,1,2,3,4,5,6,7,8,9,10,11,12,13,14,15,16,17] (sv 10 (.agg #[sV [97],iT 10,iT 0,iT 0]) ?_))
 refine sv 11 (.agg #[sV [98],iT 10,iT 0,iT 0]) ?_
 refine se ?_
 refine zc5 71 2 #[sV [97],iT 10,iT 0,iT 0,sV [98],iT 10,iT 0,iT 0] (some 12) rfl (fun _=>by kernel_rfl) (fun aD a7 aF aq aT=>?_)
 replace aa:=aA.lc (aa.gr aK) aj
 have au:=aa.ne aT
 replace ac:=aA.lc (ac.gr aK) ar
 replace hB:=hB.trans aF
 simp only [zd0,p3,p4]
 refine sv 13 (.agg #[iT (-2),iT 2,iT 1]) ?_
 refine sv 14 (.agg #[iT (-1),iT 1,iT 4]) ?_
 refine se ?_
 refine zc5 68 2 #[iT (-2),iT 2,iT 1,iT (-1),iT 1,iT 4] (some 15) rfl (fun _=>by kernel_rfl) (fun aM a9 az aw aR=>?_)
 replace aa:=aa.gr aF
 have af:=aa.ne aR
 replace ac:=ac.gr aF
 replace ae:=ae.gr aF
 replace hB:=hB.trans az
 simp only [zd0,p3,p4]
 refine sv 16 (.agg #[iT (-3),iT 3,iT 1]) ?_
 refine sv 17 (.agg #[iT (-1),iT 1,iT 2]) ?_
 refine se ?_
 refine zc5 68 2 #[iT (-3),iT 3,iT 1,iT (-1),iT 1,iT 2] (some 18) rfl (fun _=>by kernel_rfl) (fun aV a4 ay aC aY=>?_)
 replace aa:=aa.gr az
 have ak:=aa.ne aY
 replace ac:=ac.gr az
 replace ae:=ae.gr az
 replace aq:=aq.gr az
 replace hB:=hB.trans ay
 simp only [zd0,p3,p4]
 refine se ?_
 refine zc5 72 2 #[sT aM 2 2,sT aV 2 2] (some 19) rfl (fun _=>by kernel_rfl) (fun aE ba av aH aP=>?_)
 replace aa:=aa.gr ay
 have ap:=aa.ne aP
 replace ac:=ac.gr ay
 replace ae:=ae.gr ay
 replace aq:=aq.gr ay
 replace aw:=aw.gr ay
 replace hB:=hB.trans av
 simp only [zd0,p3,p4]
 replace ae:=ae.gr av
 refine sw 20 (.agg #[sV [48],sT ai 2 2]) rfl (rl 75 0 [sV [48],sT ai 2 2] ae) ?_
 refine sv 21 (.agg #[iT 0,sV [48],sT ai 2 2,sV [],sN]) ?_
 refine sv 22 (sV X) ?_
 refine sv 23 (sV Y) ?_
 refine sv 24 (.agg #[sV [114],iT 0,sV [48],sT ai 2 2,sV [],sN,sV X,sV Y]) ?_
 refine se ?_
 refine zc5 80 1 #[sV [114],iT 0,sV [48],sT ai 2 2,sV [],sN,sV X,sV Y] (some 25) rfl (fun _=>by kernel_rfl) (fun aB bb ax aG aN=>?_)
 replace aa:=aa.gr av
 have ah:=aa.ne aN
 replace ac:=ac.gr av
 replace aq:=aq.gr av
 replace aw:=aw.gr av
 replace aC:=aC.gr av
 replace hB:=hB.trans ax
 simp only [zd0,p3,p4]
 refine sv 26 (.agg #[sT aD 2 2,sT aE 2 2,sT aB 1 1]) ?_
 refine se ?_
 replace aa:=aa.gr ax
 refine es 26 0 (.agg #[sT aD 2 2,sT aE 2 2,sT aB 1 1]) [sT aD 2 2,sT aE 2 2,sT aB 1 1] #[sT aD 2 2,sT aE 2 2,sT aB 1 1] aa hB aW ⟨rfl,rfl,rfl,trivial⟩ fun bj ad aX aa hB=>?_
 refine za0 (aS _ _ ?_)
 refine wp_ret ?_
 refine bodyPost_ret (v:=(.agg #[sT aD 2 2,sT aE 2 2,sT aB 1 1])) (zc8 _ _ _ rfl rfl aa (by kernel_rfl)) rfl ⟨?_,hB⟩
 replace aq:=ad.lc (aq.gr ax) (Ne.symm au)
 replace aH:=ad.lc (aH.gr ax) (Ne.symm ap)
 replace aG:=ad.lc aG (Ne.symm ah)
 replace aw:=ad.lc (aw.gr ax) (Ne.symm af)
 replace aC:=ad.lc (aC.gr ax) (Ne.symm ak)
 replace ac:=ad.lc (ac.gr ax) (Ne.symm al)
 exact ⟨_,_,_,rfl,ex_of_m hX hY aq aw aC aH ac aG⟩

theorem kn_all0 {w:World} {ds os rs:Value} (h:Off w (exD 18 22) ds os rs) (hm:Mx w) (ht:Tab w):Calls Tryz.prog 20 #[.agg #[ds,os,rs]] w fun e w'=>(∃ vc vp,e=.returned (.tuple #[.agg #[.bool true,vc,iT 6,vp],iT 0])∧Sl EI64 3 1 w' vc (zt7 (exD 18 22).best.ch)∧Sl ELf 108 4 w' vp ((exD 18 22).leaves (exD 18 22).best ((exD 18 22).n+1) []))∧Gr w w':=
 (zB9 h hm ht).mono fun e w' ⟨⟨vc,vp,he,h1,h2⟩,g⟩=>⟨⟨vc,vp,he.trans (by rw [show (exD 18 22).best.ok=true from by kernel_rfl,show (exD 18 22).best.co=6 from by kernel_rfl]),h1,h2⟩,g⟩
theorem kn_all1 {w:World} {ds os rs:Value} (h:Off w (exD 19 21) ds os rs) (hm:Mx w) (ht:Tab w):Calls Tryz.prog 20 #[.agg #[ds,os,rs]] w fun e w'=>(∃ vc vp,e=.returned (.tuple #[.agg #[.bool false,vc,iT 0,vp],iT 0])∧Sl EI64 3 1 w' vc (zt7 (exD 19 21).best.ch)∧Sl ELf 108 4 w' vp ((exD 19 21).leaves (exD 19 21).best ((exD 19 21).n+1) []))∧Gr w w':=
 (zB9 h hm ht).mono fun e w' ⟨⟨vc,vp,he,h1,h2⟩,g⟩=>⟨⟨vc,vp,he.trans (by rw [show (exD 19 21).best.ok=false from by kernel_rfl,show (exD 19 21).best.co=0 from by kernel_rfl]),h1,h2⟩,g⟩
theorem kn_worst {w:World} {ds os rs:Value} (h:Off w (exD 18 22) ds os rs) (hm:Mx w) (ht:Tab w) {vc:Value} (hc:Sl EI64 3 1 w vc [0,1]):Calls Tryz.prog 16 #[.agg #[ds,os,rs],vc,iT 0] w fun e w'=>e=.returned (.tuple #[.string ⟨[49,55].toArray⟩,.string ⟨[50,51].toArray⟩,iT 0])∧Gr w w':=
 (yf0 h hm ht hc 0).mono fun e w' he=>⟨he.1.trans (by rw [show wsA (exD 18 22) [0,1] 0=[49,55] from by kernel_rfl,show wsB (exD 18 22) [0,1] 0=[50,51] from by kernel_rfl,show wsE (exD 18 22) [0,1] 0=0 from by kernel_rfl]),he.2⟩
theorem kn_fails {w:World} {ds os rs:Value} (h:Off w (exD 18 22) ds os rs) (hm:Mx w) {vc:Value} (hc:Sl EI64 3 1 w vc [0]):Calls Tryz.prog 19 #[.agg #[ds,os,rs],vc] w fun e w'=>e=.returned (.tuple #[iT 0,iT 1,.bool true,iT 0])∧Gr w w':=
 (v_fails h hm hc).mono fun e w' he=>⟨he.1.trans (by rw [show flA (exD 18 22) [0]=0 from by kernel_rfl,show flB (exD 18 22) [0]=1 from by kernel_rfl,show flC (exD 18 22) [0]=true from by kernel_rfl,show (exD 18 22).pe [0]=0 from by kernel_rfl]),he.2⟩
theorem kn_bound {w:World} {ds os rs:Value} (h:Off w (exD 18 22) ds os rs) (hm:Mx w) {vc:Value} (hc:Sl EI64 3 1 w vc [1]):Calls Tryz.prog 18 #[.agg #[ds,os,rs],vc] w fun e w'=>e=.returned (.tuple #[iT 5,iT 0])∧Gr w w':=
 (v_bound h hm hc).mono fun e w' he=>⟨he.1.trans (by rw [show bndA (exD 18 22) [1]=5 from by kernel_rfl,show (exD 18 22).pe [1]=0 from by kernel_rfl]),he.2⟩
theorem kn_ver {w:World} {ds os rs:Value} (h:Off w (exD 18 22) ds os rs) (hm:Mx w) {vc:Value} (hc:Sl EI64 3 1 w vc [1,1]) {vp:Value} (hp:Sl ELf 108 4 w vp [⟨[(0,0)],0,0,[[49]]⟩,⟨[(0,1),(1,0)],0,0,[[49]]⟩,⟨[(0,1),(1,1)],6,-1,[]⟩]):Calls Tryz.prog 21 #[.agg #[ds,os,rs],.agg #[.bool true,vc,iT 6,vp]] w fun e w'=>e=.returned (iT 0)∧Gr w w':=
 (v_verify h hm hc hp).mono fun e w' he=>⟨he.1.trans (by rw [show (exD 18 22).ver ⟨true,[1,1],6,[⟨[(0,0)],0,0,[[49]]⟩,⟨[(0,1),(1,0)],0,0,[[49]]⟩,⟨[(0,1),(1,1)],6,-1,[]⟩]⟩=0 from by kernel_rfl]),he.2⟩
theorem ex_ok1:OfOk (exD 18 22) dnE rnE:=ex_ok ⟨by unfold Sz;decide+kernel,by unfold Sz;decide+kernel⟩ ⟨by unfold Sz;decide+kernel,by unfold Sz;decide+kernel⟩ (by decide+kernel)
theorem ex_ok2:OfOk (exD 19 21) dnE rnE:=ex_ok ⟨by unfold Sz;decide+kernel,by unfold Sz;decide+kernel⟩ ⟨by unfold Sz;decide+kernel,by unfold Sz;decide+kernel⟩ (by decide+kernel)
theorem sl_pk1 {w:World} {b:Nat} {x y:Int} (hL:Lc w b #[iT x,iT y] 104):Sl EPk 104 2 w (sT b 1 1) [(x,y)]:=zq1 hL (Els.one rfl rfl) rfl
theorem sl_pk2 {w:World} {b:Nat} {x y z t:Int} (hL:Lc w b #[iT x,iT y,iT z,iT t] 104):Sl EPk 104 2 w (sT b 2 2) [(x,y),(z,t)]:=zq1 hL (Els.two (vs:=[_,_]) rfl rfl rfl rfl) rfl
theorem sl_in1 {w:World} {b:Nat} {x:Int} (hL:Lc w b #[iT x] 3):Sl EI64 3 1 w (sT b 1 1) [x]:=zq1 hL (Els.one rfl rfl) rfl
theorem sl_in2 {w:World} {b:Nat} {x y:Int} (hL:Lc w b #[iT x,iT y] 3):Sl EI64 3 1 w (sT b 2 2) [x,y]:=zq1 hL (Els.two (vs:=[_]) rfl rfl rfl rfl) rfl
theorem zX7 {w:World} (hm:Mx w) (ht:Tab w):
    Calls Tryz.prog 11 #[] w fun e w'=>e=.returned (.bool true)∧Gr w w':=by
 go_enter Tryz.func11,Tryz.ntmps11
 have hB:=Gr.refl w
 refine wp_seq_k (fun dd b2=>rg [0] (sv 0 (.bool false) ?_))
 refine za0 (b2 _ _ ?_)
 refine wp_seq_k (fun cP cc=>rg [0,1,2] ?_)
 refine se ?_
 refine ec 17 (ex_of (a:=18) (b:=22) (X:=[49,56]) (Y:=[50,50]) (by kernel_rfl) (by kernel_rfl) _) ?_
 rintro cY bO ⟨⟨ai,ae,af,rfl,a5⟩,bY⟩
 refine ⟨_,rfl,?_⟩
 replace hB:=hB.trans bY
 have ak:Off _ (exD 18 22) _ _ _:=⟨_,_,a5,ex_ok1⟩
 have aa:=Gr.refl bO
 simp only [p3,p4]
 refine se ?_
 refine ea 26 #[sN,sN,sN] 1 hB fun cx c5 b4 ad b6 bP hB=>?_
 have aA:=Nat.le_trans (Below.size aa) b6
 replace aa:=aa.trans b4
 simp only [p3,p4]
 refine se ?_
 refine es 26 0 (.agg #[ai,ae,af]) [ai,ae,af] #[ai,ae,af] ad hB bP ⟨ak.one0,ak.one1,ak.one2,trivial⟩ fun cS bt cb ad hB=>?_
 replace aa:=bt.gr aa aA
 refine za0 (cc _ _ ?_)
 refine wp_seq_k (fun c4 bU=>rg [0,1,2,3,4,5,6,7] ?_)
 refine sw 19 (.agg #[ai,ae,af]) rfl (rl 26 0 [ai,ae,af] ad) ?_
 refine se ?_
 refine ec 20 (kn_all0 (ak.gr aa) (hm.gr hB) (ht.gr hB)) ?_
 rintro cZ c8 ⟨⟨ar,ap,rfl,bl,bm⟩,bs⟩
 refine ⟨_,rfl,?_⟩
 replace hB:=hB.trans bs
 replace aa:=aa.trans bs
 simp only [p3,p4]
 refine sv 18 (.tuple #[.agg #[.bool true,ar,iT 6,ap],iT 0]) ?_
 refine sv 21 (.agg #[.bool true,ar,iT 6,ap]) ?_
 refine sv 22 (iT 0) ?_
 refine se ?_
 refine ea 43 #[.bool false,sN,iT 0,sN] 2 hB fun bB cT bF ah bD cg hB=>?_
 replace ad:=ad.gr bs
 have aI:=ad.ne bD
 have aw:=Nat.le_trans (Below.size aa) bD
 replace aa:=aa.trans bF
 simp only [p3,p4]
 refine se ?_
 refine es 43 0 (.agg #[.bool true,ar,iT 6,ap]) [.bool true,ar,iT 6,ap] #[.bool true,ar,iT 6,ap] ah hB cg ⟨rfl,bl.one,rfl,bm.one,trivial⟩ fun cU a4 bR ah hB=>?_
 replace aa:=a4.gr aa aw
 refine sv 3 (iT 0) (za0 (bU _ _ ?_))
 refine wp_seq_k (fun cN bQ=>rg [0,1,2,3,4,5,6,7,8,9] ?_)
 replace ad:=a4.lc (ad.gr bF) aI
 refine sw 24 (.agg #[ai,ae,af]) rfl (rl 26 0 [ai,ae,af] ad) ?_
 refine se ?_
 refine zc5 3 2 #[iT 0,iT 1] (some 25) rfl (fun _=>by kernel_rfl) (fun c9 cz a9 cj b8=>?_)
 have aT:=Nat.le_trans (Below.size aa) b8
 replace hB:=hB.trans a9
 replace aa:=aa.trans a9
 simp only [zd0,p3,p4]
 refine se ?_
 refine ec 26 (kn_worst (ak.gr aa) (hm.gr hB) (ht.gr hB) (sl_in2 cj)) ?_
 rintro cG cD ⟨rfl,bk⟩
 refine ⟨_,rfl,?_⟩
 replace hB:=hB.trans bk
 replace aa:=aa.trans bk
 simp only [p3,p4]
 refine sv 23 (.tuple #[sV [49,55],sV [50,51],iT 0]) ?_
 refine sv 27 (sV [49,55]) ?_
 refine sv 28 (sV [50,51]) ?_
 refine sv 29 (iT 0) ?_
 refine sv 4 (sV [49,55]) ?_
 refine sv 5 (sV [50,51]) ?_
 refine sv 6 (iT 0) (za0 (bQ _ _ ?_))
 refine wp_seq_k (fun cr b0=>rg [0,1,2,3,4,5,6,7,8,9,10,11] ?_)
 replace ad:=ad.gr (a9.trans bk)
 refine sw 31 (.agg #[ai,ae,af]) rfl (rl 26 0 [ai,ae,af] ad) ?_
 refine se ?_
 refine zc5 3 1 #[iT 0] (some 32) rfl (fun _=>by kernel_rfl) (fun cI cQ bi ck bV=>?_)
 replace ah:=ah.gr (a9.trans bk)
 have a1:=Nat.le_trans (Below.size aa) bV
 replace hB:=hB.trans bi
 replace aa:=aa.trans bi
 simp only [zd0,p3,p4]
 refine se ?_
 refine ec 33 (kn_fails (ak.gr aa) (hm.gr hB) (sl_in1 ck)) ?_
 rintro cX cW ⟨rfl,ba⟩
 refine ⟨_,rfl,?_⟩
 replace hB:=hB.trans ba
 replace aa:=aa.trans ba
 simp only [p3,p4]
 refine sv 30 (.tuple #[iT 0,iT 1,.bool true,iT 0]) ?_
 refine sv 34 (iT 0) ?_
 refine sv 35 (iT 1) ?_
 refine sv 36 (.bool true) ?_
 refine sv 37 (iT 0) ?_
 refine sv 7 (iT 0) ?_
 refine sv 8 (iT 1) ?_
 refine sv 9 (.bool true) ?_
 refine sv 10 (iT 0) (za0 (b0 _ _ ?_))
 refine wp_seq_k (fun cw cd=>rg [0,1,2,3,4,5,6,7] ?_)
 replace ad:=ad.gr (bi.trans ba)
 refine sw 39 (.agg #[ai,ae,af]) rfl (rl 26 0 [ai,ae,af] ad) ?_
 refine se ?_
 refine zc5 3 1 #[iT 1] (some 40) rfl (fun _=>by kernel_rfl) (fun cE dc bf cl b7=>?_)
 replace ah:=ah.gr (bi.trans ba)
 have aP:=Nat.le_trans (Below.size aa) b7
 replace hB:=hB.trans bf
 replace aa:=aa.trans bf
 simp only [zd0,p3,p4]
 refine se ?_
 refine ec 41 (kn_bound (ak.gr aa) (hm.gr hB) (sl_in1 cl)) ?_
 rintro cB cO ⟨rfl,bb⟩
 refine ⟨_,rfl,?_⟩
 replace hB:=hB.trans bb
 replace aa:=aa.trans bb
 simp only [p3,p4]
 refine sv 38 (.tuple #[iT 5,iT 0]) ?_
 refine sv 42 (iT 5) ?_
 refine sv 43 (iT 0) ?_
 refine sv 11 (iT 5) ?_
 refine sv 12 (iT 0) (za0 (cd _ _ ?_))
 refine wp_seq_k (fun cy bZ=>rg [0,1,2,3,4,5,6,7] ?_)
 refine se ?_
 refine ec 45 (ex_of (a:=19) (b:=21) (X:=[49,57]) (Y:=[50,49]) (by kernel_rfl) (by kernel_rfl) _) ?_
 rintro cq b9 ⟨⟨bX,cm,bW,rfl,aV⟩,bj⟩
 refine ⟨_,rfl,?_⟩
 replace hB:=hB.trans bj
 replace aa:=aa.trans bj
 have br:Off _ (exD 19 21) _ _ _:=⟨_,_,aV,ex_ok2⟩
 have ac:=Gr.refl b9
 simp only [p3,p4]
 refine se ?_
 refine ec 46 (kn_all1 (br.gr ac) (hm.gr hB) (ht.gr hB)) ?_
 rintro cC cA ⟨⟨aq,ax,rfl,bn,bp⟩,aQ⟩
 refine ⟨_,rfl,?_⟩
 replace hB:=hB.trans aQ
 replace aa:=aa.trans aQ
 replace ac:=ac.trans aQ
 simp only [p3,p4]
 refine sv 44 (.tuple #[.agg #[.bool false,aq,iT 0,ax],iT 0]) ?_
 refine sv 47 (.agg #[.bool false,aq,iT 0,ax]) ?_
 refine sv 48 (iT 0) ?_
 refine se ?_
 refine ea 43 #[.bool false,sN,iT 0,sN] 13 hB fun bJ cL bh aj bg b5 hB=>?_
 replace ad:=ad.gr (bf.trans (bb.trans (bj.trans aQ)))
 have aF:=ad.ne bg
 replace ah:=ah.gr (bf.trans (bb.trans (bj.trans aQ)))
 have aH:=ah.ne bg
 have az:=Nat.le_trans (Below.size aa) bg
 have av:=Nat.le_trans (Below.size ac) bg
 replace aa:=aa.trans bh
 replace ac:=ac.trans bh
 simp only [p3,p4]
 refine se ?_
 refine es 43 0 (.agg #[.bool false,aq,iT 0,ax]) [.bool false,aq,iT 0,ax] #[.bool false,aq,iT 0,ax] aj hB b5 ⟨rfl,bn.one,rfl,bp.one,trivial⟩ fun cJ aD cf aj hB=>?_
 replace aa:=aD.gr aa az
 replace ac:=aD.gr ac av
 refine sv 14 (iT 0) (za0 (bZ _ _ ?_))
 refine wp_seq_k (fun cH b1=>rg [0,1,2,3,4,5,6,7,8,9,10,11,12,13,14] (sv 49 (.agg #[iT 0,iT 0]) ?_))
 refine se ?_
 refine zc5 104 1 #[iT 0,iT 0] (some 50) rfl (fun _=>by kernel_rfl) (fun bC c7 aM al bA=>?_)
 replace ad:=aD.lc (ad.gr bh) aF
 replace ah:=aD.lc (ah.gr bh) aH
 have a6:=Nat.le_trans (Below.size aa) bA
 have aS:=Nat.le_trans (Below.size ac) bA
 replace hB:=hB.trans aM
 replace aa:=aa.trans aM
 replace ac:=ac.trans aM
 simp only [zd0,p3,p4]
 refine se ?_
 refine zc5 33 1 #[sV [49]] (some 51) rfl (fun _=>by kernel_rfl) (fun bI cF aK ay bH=>?_)
 replace ad:=ad.gr aM
 replace ah:=ah.gr aM
 replace aj:=aj.gr aM
 have aU:=Nat.le_trans (Below.size aa) bH
 have aO:=Nat.le_trans (Below.size ac) bH
 replace hB:=hB.trans aK
 replace aa:=aa.trans aK
 replace ac:=ac.trans aK
 simp only [zd0,p3,p4]
 refine sv 52 (.agg #[sT bC 1 1,iT 0,iT 0,sT bI 1 1]) ?_
 refine sv 53 (.agg #[iT 0,iT 1]) ?_
 refine sv 54 (.agg #[iT 1,iT 0]) ?_
 refine se ?_
 refine zc5 104 2 #[iT 0,iT 1,iT 1,iT 0] (some 55) rfl (fun _=>by kernel_rfl) (fun bG cV aJ aE bM=>?_)
 replace ad:=ad.gr aK
 replace ah:=ah.gr aK
 replace aj:=aj.gr aK
 replace al:=al.gr aK
 have aZ:=Nat.le_trans (Below.size aa) bM
 have aX:=Nat.le_trans (Below.size ac) bM
 replace hB:=hB.trans aJ
 replace aa:=aa.trans aJ
 replace ac:=ac.trans aJ
 simp only [zd0,p3,p4]
 refine se ?_
 refine zc5 33 1 #[sV [49]] (some 56) rfl (fun _=>by kernel_rfl) (fun bw cu aG aL bL=>?_)
 replace ad:=ad.gr aJ
 replace ah:=ah.gr aJ
 replace aj:=aj.gr aJ
 replace al:=al.gr aJ
 replace ay:=ay.gr aJ
 have a7:=Nat.le_trans (Below.size aa) bL
 have a2:=Nat.le_trans (Below.size ac) bL
 replace hB:=hB.trans aG
 replace aa:=aa.trans aG
 replace ac:=ac.trans aG
 simp only [zd0,p3,p4]
 refine sv 57 (.agg #[sT bG 2 2,iT 0,iT 0,sT bw 1 1]) ?_
 refine sv 58 (.agg #[iT 0,iT 1]) ?_
 refine sv 59 (.agg #[iT 1,iT 1]) ?_
 refine se ?_
 refine zc5 104 2 #[iT 0,iT 1,iT 1,iT 1] (some 60) rfl (fun _=>by kernel_rfl) (fun bN ct aC a3 bE=>?_)
 replace ad:=ad.gr aG
 replace ah:=ah.gr aG
 replace aj:=aj.gr aG
 replace al:=al.gr aG
 replace ay:=ay.gr aG
 replace aE:=aE.gr aG
 have aR:=Nat.le_trans (Below.size aa) bE
 have aW:=Nat.le_trans (Below.size ac) bE
 replace hB:=hB.trans aC
 replace aa:=aa.trans aC
 replace ac:=ac.trans aC
 simp only [zd0,p3,p4]
 refine sv 61 (.agg #[sT bN 2 2,iT 6,iT (-1),sN]) ?_
 refine se ?_
 refine zc5 108 3 #[sT bC 1 1,iT 0,iT 0,sT bI 1 1,sT bG 2 2,iT 0,iT 0,sT bw 1 1,sT bN 2 2,iT 6,iT (-1),sN] (some 62) rfl (fun _=>by kernel_rfl) (fun bu c6 au bq bK=>?_)
 replace ad:=ad.gr aC
 replace ah:=ah.gr aC
 replace aj:=aj.gr aC
 replace al:=al.gr aC
 replace ay:=ay.gr aC
 replace aE:=aE.gr aC
 replace aL:=aL.gr aC
 have aY:=Nat.le_trans (Below.size aa) bK
 have a8:=Nat.le_trans (Below.size ac) bK
 replace hB:=hB.trans au
 replace aa:=aa.trans au
 replace ac:=ac.trans au
 simp only [zd0,p3,p4]
 refine sv 15 (sT bu 3 3) (za0 (b1 _ _ ?_))
 refine wp_seq_k (fun cM b3=>rg [0,1,2,3,4,5] ?_)
 replace ad:=ad.gr au
 refine sw 63 (.agg #[ai,ae,af]) rfl (rl 26 0 [ai,ae,af] ad) ?_
 refine se ?_
 refine zc5 3 2 #[iT 1,iT 1] (some 64) rfl (fun _=>by kernel_rfl) (fun bT cK aB cp bv=>?_)
 replace ah:=ah.gr au
 replace aj:=aj.gr au
 replace al:=al.gr au
 replace ay:=ay.gr au
 replace aE:=aE.gr au
 replace aL:=aL.gr au
 replace a3:=a3.gr au
 have aN:=Nat.le_trans (Below.size aa) bv
 have a0:=Nat.le_trans (Below.size ac) bv
 replace hB:=hB.trans aB
 replace aa:=aa.trans aB
 simp only [zd0,p3,p4]
 refine sv 65 (sT bu 3 3) ?_
 refine sv 66 (.agg #[.bool true,sT bT 2 2,iT 6,sT bu 3 3]) ?_
 refine se ?_
 replace bq:=bq.gr aB
 replace al:=al.gr aB
 replace ay:=ay.gr aB
 replace aE:=aE.gr aB
 replace aL:=aL.gr aB
 replace a3:=a3.gr aB
 refine ec 67 (kn_ver (ak.gr aa) (hm.gr hB) (sl_in2 cp) (zq1 bq (Els.three (vs:=[_,_,_,_]) (us:=[_,_,_,_]) (ts:=[_,_,_,_]) rfl ⟨_,_,rfl,sl_pk1 al,zM8 ay⟩ rfl ⟨_,_,rfl,sl_pk2 aE,zM8 aL⟩ rfl ⟨_,_,rfl,sl_pk2 a3,Sl.nil _ _ _ _ none 0⟩) rfl)) ?_
 rintro cR db ⟨rfl,bo⟩
 refine ⟨_,rfl,?_⟩
 replace hB:=hB.trans bo
 simp only [p3,p4]
 refine sv 16 (iT 0) (za0 (b3 _ _ ?_))
 refine wp_seq_k (fun da bS=>rg [0,1,2,3,4,5,6,7,8,9,10,11,12,13,14,15,16,17,18,19,20,21,22,23,24,25,26,27,28,29,30,31,32,33,34,35,36,37,38,39,40,41,42,43,44,45,46,47,48,49,50,51,52,53,54,55,56,57,58,59,60,61,62,63,64] (sv 68 (iT 0) ?_))
 refine sv 69 (.bool true) ?_
 refine sv 70 (.bool true) ?_
 refine sv 71 (pT bB 0) ?_
 replace ah:=ah.gr (aB.trans bo)
 refine sw 72 (.bool true) rfl (rk 4 0 ah) ?_
 refine sv 73 (.bool true) ?_
 refine sv 74 (.bool true) ?_
 refine sv 75 (pT bB 2) ?_
 refine sw 76 (iT 6) rfl (rk 3 2 ah) ?_
 refine sv 77 (.bool true) ?_
 refine sv 78 (.bool true) ?_
 refine sv 79 (.bool true) ?_
 refine sv 80 (sV [49,55]) ?_
 refine sv 81 (.bool true) ?_
 refine sv 82 (.bool true) ?_
 refine sv 83 (.bool true) ?_
 refine sv 84 (sV [50,51]) ?_
 refine sv 85 (.bool true) ?_
 refine sv 86 (.bool true) ?_
 refine sv 87 (.bool true) ?_
 refine sv 88 (iT 0) ?_
 refine sv 89 (.bool true) ?_
 refine sv 90 (.bool true) ?_
 refine sv 91 (.bool true) ?_
 refine sv 92 (iT 0) ?_
 refine sv 93 (.bool true) ?_
 refine sv 94 (.bool true) ?_
 refine sv 95 (.bool true) ?_
 refine sv 96 (iT 1) ?_
 refine sv 97 (.bool true) ?_
 refine sv 98 (.bool true) ?_
 refine sv 99 (.bool true) ?_
 refine sv 100 (.bool true) ?_
 refine sv 101 (.bool true) ?_
 refine sv 102 (.bool true) ?_
 refine sv 103 (iT 0) ?_
 refine sv 104 (.bool true) ?_
 refine sv 105 (.bool true) ?_
 refine sv 106 (.bool true) ?_
 refine sv 107 (iT 5) ?_
 refine sv 108 (.bool true) ?_
 refine sv 109 (.bool true) ?_
 refine sv 110 (.bool true) ?_
 refine sv 111 (iT 0) ?_
 refine sv 112 (.bool true) ?_
 refine sv 113 (.bool true) ?_
 refine sv 114 (.bool true) ?_
 refine sv 115 (iT 0) ?_
 refine sv 116 (.bool true) ?_
 refine sv 117 (.bool true) ?_
 refine sv 118 (.bool true) ?_
 refine sv 119 (pT bJ 0) ?_
 replace aj:=aj.gr (aB.trans bo)
 refine sw 120 (.bool false) rfl (rk 4 0 aj) ?_
 refine sv 121 (.bool true) ?_
 refine sv 122 (.bool true) ?_
 refine sv 123 (.bool true) ?_
 refine sv 124 (pT bJ 2) ?_
 refine sw 125 (iT 0) rfl (rk 3 2 aj) ?_
 refine sv 126 (.bool true) ?_
 refine sv 127 (.bool true) ?_
 refine sv 128 (.bool true) ?_
 refine sv 129 (iT 0) ?_
 refine sv 130 (.bool true) ?_
 refine sv 131 (.bool true) ?_
 refine sv 0 (.bool true) (za0 (bS _ _ ?_))
 refine wp_ret ?_
 refine bodyPost_ret (v:=(.bool true)) (za3 rfl rfl) rfl ⟨?_,hB⟩
 exact rfl

end Go.Proofs.YtjhflekncldflaaGreatDoor
