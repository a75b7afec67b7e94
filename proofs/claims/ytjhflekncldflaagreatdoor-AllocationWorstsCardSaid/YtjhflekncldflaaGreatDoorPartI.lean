/- Joined of: Gen234, RowAllocationWorsts. -/
import Derived.Test.YtjhflekncldflaaGreatDoorPartG
import Derived.Test.YtjhflekncldflaaGreatDoorPartH
import Derived.Test.YtjhflekncldflaaGreatDoorPartD
import Derived.Test.YtjhflekncldflaaGreatDoorCards
import Derived.Test.YtjhflekncldflaaGreatDoorTie
import Derived.Test.YtjhflekncldflaaGreatDoorPartA
import Derived.Test.YtjhflekncldflaaGreatDoorPartB
namespace Go.Proofs.YtjhflekncldflaaGreatDoor
set_option maxRecDepth 100000
set_option maxHeartbeats 8000000
open Go.RowKit

section
variable {D:Ofr} {c:List Int} {z:Int}
theorem wi_A (h:¬ D.ce c=0):wsA D c z=[]:=by unfold wsA;exact if_neg fun e=>h e.1
theorem wi_B (h:¬ D.ce c=0):wsB D c z=[]:=by unfold wsB;exact if_neg fun e=>h e.1
theorem wi_E (h:¬ D.ce c=0):wsE D c z=D.ce c:=by unfold wsE;exact if_pos h
theorem wi_C (h:¬ D.ce c=0):zM0 D c=0:=by unfold zM0;exact if_neg h
theorem wi_M (h:¬ D.ce c=0):mtA D c=0:=by unfold mtA;exact if_neg h
theorem wi_N (h:¬ D.ce c=0):mtB D c=false:=by unfold mtB;exact if_neg h
theorem wj_C (h:D.ce c=0):zM0 D c=D.bd (zd5 c):=by unfold zM0;exact if_pos h
theorem wj_M (h:D.ce c=0):mtA D c=fzA D (zd5 c):=by unfold mtA;exact if_pos h
theorem wj_N (h:D.ce c=0):mtB D c=((fz D (zd5 c)).2==(0:Int)):=by unfold mtB;exact if_pos h
theorem wk_A (g:¬ (0≤z∧z<(D.q:Int))):wsA D c z=[]:=by unfold wsA;exact if_neg fun e=>g e.2
theorem wk_B (g:¬ (0≤z∧z<(D.q:Int))):wsB D c z=[]:=by unfold wsB;exact if_neg fun e=>g e.2
theorem wk_E (h:D.ce c=0) (g:¬ (0≤z∧z<(D.q:Int))):wsE D c z=2:=by unfold wsE;rw [if_neg (fun e=>e h),if_neg g]
theorem wl_A (h:D.ce c=0) (g:0≤z∧z<(D.q:Int)):wsA D c z=zc3 (D.wl (zd5 c) z.toNat):=by unfold wsA;exact if_pos ⟨h,g⟩
theorem wl_B (h:D.ce c=0) (g:0≤z∧z<(D.q:Int)):wsB D c z=zc3 (D.wu (zd5 c) z.toNat):=by unfold wsB;exact if_pos ⟨h,g⟩
theorem wl_E (h:D.ce c=0) (g:0≤z∧z<(D.q:Int)):wsE D c z=0:=by unfold wsE;rw [if_neg (fun e=>e h),if_pos g]
theorem zY1 {ds os rs:Value} {w:World} (hz:0≤z∧z<(D.q:Int)) (ho:Off w D ds os rs) (hm:Mx w) {TT:Nat} {l:List Nat} {v:Value} (hv:D.vp l) (hl:Sl EI64 TT 1 w v (tb (fun z1=>((Ofr.at_ l z1:Nat):Int)) l.length)):
  Calls Tryz.prog 26 #[.agg #[ds,os,rs],v,iT z] w fun e w'=>(∃ c0 c1 c2 c3 c4 c5 c6 c7,e=.returned (.tuple #[.agg #[c0,c1,c2,c3],.agg #[c4,c5,c6,c7]])∧IsRat w' 900 c0 c1 c2 c3 (D.wl l z.toNat)∧IsRat w' 900 c4 c5 c6 c7 (D.wu l z.toNat))∧Gr w w':=by
 have:=zX9 (r:=z.toNat) (by omega) ho hm hv hl
 rw [show ((z.toNat:Nat):Int)=z by omega] at this
 exact this
end
theorem zq9 {x:Dsc} {vn d0 d1 d2 d3 vr:Value} {w:World} (hm:Mx w) (ht:Tab w) (hx:DscM w x vn d0 d1 d2 d3 vr) {TT:Nat} {c:List Int} {v:Value} (hl:Sl EI64 TT 1 w v (tb (fun z1=>(ca c z1)) c.length)) (z:Int):
    Calls Tryz.prog 4 #[.agg #[vn,d0,d1,d2,d3,vr],v,iT (z)] w fun e w'=>e=.returned (.bool true)∧Gr w w':=by
 obtain ⟨T8,hvn⟩:=hx.vn
 obtain ⟨T9,hvr⟩:=hx.vr
 have ovn:=hvn.one
 have ovr:=hvr.one
 have cq:=hx.d0.elim fun _ h=>h.one
 have cY:=hx.d1.elim fun _ h=>h.one
 have cw:=hx.d2.elim fun _ h=>h.one
 have b2:=hx.d3.elim fun _ h=>h.one
 have ok:=hx.ok.ofok.ok
 have n1:=ok.n1
 have n2:=ok.n2
 have cg:=ok.q2
 have ov:=hl.one
 go_enter Tryz.func4,Tryz.ntmps4
 have hB:=Gr.refl w
 refine wp_seq_k (fun da bI=>rg [0,1] ?_)
 refine se ?_
 refine eb 52 #[vn,d0,d1,d2,d3,vr] 3 hB fun cL cj cD aV b6 c5 hB=>?_
 simp only [p3,p4]
 refine sv 6 (.bool false) (za0 (bI _ _ ?_))
 refine wp_seq_k (fun b7 bH=>wp_seq_k (fun b1 bq=>rg [0,1,2,3,4,5,6] ?_))
 refine se ?_
 refine ec 21 (zX7 (hm.gr hB) (ht.gr hB)) ?_
 rintro ck cI ⟨rfl,bk⟩
 refine ⟨_,rfl,?_⟩
 replace hB:=hB.trans bk
 simp only [p3,p4]
 refine sv 22 (.bool false) ?_
 refine sv 23 (.bool false) ?_
 refine sv 24 v ?_
 refine sw 25 (iT ((c.length:Nat):Int)) rfl (za9 (e:=3) hl (za8 rfl) _ _ rfl rfl (by kernel_rfl)) ?_
 refine sv 26 (.bool (decide ((5:Int)<((c.length:Nat):Int)))) ?_
 refine sv 27 (.bool (decide ((5:Int)<((c.length:Nat):Int)))) (za0 (bq _ _ ?_))
 refine wp_cond_split rfl (fun aE=>?_) (fun aE=>?_)
 ·have bS:((5:Int)<((c.length:Nat):Int)):=of_decide_eq_true aE
  refine wp_seq_k (fun cz bL=>rg [0,1] ?_)
  refine se ?_
  refine ec 28 (zX7 (hm.gr hB) (ht.gr hB)) ?_
  rintro cF cP ⟨rfl,bo⟩
  refine ⟨_,rfl,?_⟩
  replace hB:=hB.trans bo
  simp only [p3,p4]
  refine sv 6 (.bool true) (za0 (bL _ _ ?_))
  refine wp_ret ?_
  simp only [Exit.then]
  refine bodyPost_ret (v:=(.bool true)) (za3 rfl rfl) rfl ⟨?_,hB⟩
  exact rfl
 have bJ:¬ ((5:Int)<((c.length:Nat):Int)):=of_decide_eq_false aE
 refine wp_skip ?_
 refine bH _ _ ?_
 refine wp_seq_k (fun c6 bs=>rg [0,1,2,3] ?_)
 replace aV:=aV.gr bk
 refine sw 29 (.agg #[vn,d0,d1,d2,d3,vr]) rfl (rl 52 0 [vn,d0,d1,d2,d3,vr] aV) ?_
 refine se ?_
 refine ec 30 (of_offer (ht.gr hB) (hx.gr hB)) ?_
 rintro cl bv ⟨⟨ad,ae,ac,rfl,aH⟩,bW⟩
 refine ⟨_,rfl,?_⟩
 replace hB:=hB.trans bW
 have ah:Off _ x.ofr _ _ _:=⟨_,_,aH,hx.ok.ofok⟩
 have aa:=Gr.refl bv
 simp only [p3,p4]
 refine se ?_
 refine ea 26 #[sN,sN,sN] 7 hB fun bp cy bZ av bX bM hB=>?_
 have aB:=Nat.le_trans (Below.size aa) bX
 replace aa:=aa.trans bZ
 simp only [p3,p4]
 refine se ?_
 refine es 26 0 (.agg #[ad,ae,ac]) [ad,ae,ac] #[ad,ae,ac] av hB bM ⟨ah.one0,ah.one1,ah.one2,trivial⟩ fun cG aZ bP av hB=>?_
 replace aa:=aZ.gr aa aB
 refine za0 (bs _ _ ?_)
 refine wp_seq_k (fun cb bY=>rg [0,1,2,3,4,5,6,7] ?_)
 refine sw 32 (.agg #[ad,ae,ac]) rfl (rl 26 0 [ad,ae,ac] av) ?_
 refine sv 33 v ?_
 refine se ?_
 refine ec 34 (v_cost (ah.gr aa) (hm.gr hB) ((hl.gr za2 hB).cast (list_tb (d:=(0:Int))))) ?_
 rintro cC c4 ⟨rfl,aT⟩
 refine ⟨_,rfl,?_⟩
 replace hB:=hB.trans aT
 replace aa:=aa.trans aT
 simp only [p3,p4]
 refine sv 31 (.tuple #[iT (zM0 x.ofr c),iT (x.ofr.ce c)]) ?_
 refine sv 35 (iT (zM0 x.ofr c)) ?_
 refine sv 36 (iT (x.ofr.ce c)) ?_
 refine sv 8 (iT (zM0 x.ofr c)) ?_
 refine sv 9 (iT (x.ofr.ce c)) (za0 (bY _ _ ?_))
 refine wp_seq_k (fun b3 bT=>rg [0,1,2,3,4,5,6,7,8,9,10] ?_)
 replace av:=av.gr aT
 refine sw 38 (.agg #[ad,ae,ac]) rfl (rl 26 0 [ad,ae,ac] av) ?_
 refine sv 39 v ?_
 refine sv 40 (iT (z)) ?_
 refine se ?_
 refine ec 41 (yf0 (ah.gr aa) (hm.gr hB) (ht.gr hB) ((hl.gr za2 hB).cast (list_tb (d:=(0:Int)))) (z)) ?_
 rintro cf cE ⟨rfl,a8⟩
 refine ⟨_,rfl,?_⟩
 replace hB:=hB.trans a8
 replace aa:=aa.trans a8
 simp only [p3,p4]
 refine sv 37 (.tuple #[sV (wsA x.ofr c z),sV (wsB x.ofr c z),iT (wsE x.ofr c z)]) ?_
 refine sv 42 (sV (wsA x.ofr c z)) ?_
 refine sv 43 (sV (wsB x.ofr c z)) ?_
 refine sv 44 (iT (wsE x.ofr c z)) ?_
 refine sv 10 (sV (wsA x.ofr c z)) ?_
 refine sv 11 (sV (wsB x.ofr c z)) ?_
 refine sv 12 (iT (wsE x.ofr c z)) (za0 (bT _ _ ?_))
 refine wp_seq_k (fun b9 bE=>rg [0,1,2,3,4,5,6,7,8,9] ?_)
 replace av:=av.gr a8
 refine sw 46 (.agg #[ad,ae,ac]) rfl (rl 26 0 [ad,ae,ac] av) ?_
 refine sv 47 v ?_
 refine se ?_
 refine ec 48 (v_meets (ah.gr aa) (hm.gr hB) ((hl.gr za2 hB).cast (list_tb (d:=(0:Int))))) ?_
 rintro b4 cM ⟨rfl,bg⟩
 refine ⟨_,rfl,?_⟩
 replace hB:=hB.trans bg
 replace aa:=aa.trans bg
 simp only [p3,p4]
 refine sv 45 (.tuple #[iT (mtA x.ofr c),.bool (mtB x.ofr c),iT (x.ofr.ce c)]) ?_
 refine sv 49 (iT (mtA x.ofr c)) ?_
 refine sv 50 (.bool (mtB x.ofr c)) ?_
 refine sv 51 (iT (x.ofr.ce c)) ?_
 refine sv 13 (iT (mtA x.ofr c)) ?_
 refine sv 14 (.bool (mtB x.ofr c)) ?_
 refine sv 15 (iT (x.ofr.ce c)) (za0 (bE _ _ ?_))
 refine wp_seq_k (fun b8 bA=>rg [0,1,2,3] ?_)
 replace av:=av.gr bg
 refine sw 52 (.agg #[ad,ae,ac]) rfl (rl 26 0 [ad,ae,ac] av) ?_
 refine sv 53 v ?_
 refine se ?_
 refine ec 54 (m_choice (ah.gr aa) (hm.gr hB) (hl.gr za2 hB)) ?_
 rintro c7 cu ⟨rfl,bb⟩
 refine ⟨_,rfl,?_⟩
 replace hB:=hB.trans bb
 replace aa:=aa.trans bb
 simp only [p3,p4]
 refine sv 16 (iT (x.ofr.ce c)) (za0 (bA _ _ ?_))
 refine wp_seq_k (fun c8 bN=>wp_seq_k (fun cm bG=>rg [0,1] (sv 55 (iT (x.ofr.ce c)) ?_)))
 refine sv 56 (.bool ((x.ofr.ce c) !=(0:Int))) (za0 (bG _ _ ?_))
 refine wp_cond_split rfl (fun aA=>?_) (fun aA=>?_)
 ·have h0:¬ x.ofr.ce c=0:=bne_iff_ne.1 aA
  refine wp_seq_k (fun ct bD=>rg [0,1,2,3,4,5,6,7,8,9,10,11,12,13,14,15,16,17,18,19,20,21,22,23,24,25,26,27,28,29,30,31,32,33] (sv 57 (iT (x.ofr.ce c)) ?_))
  refine sv 58 (iT (x.ofr.ce c)) ?_
  have aL:((x.ofr.ce c)==(x.ofr.ce c))=true:=(by simp)
  refine sw 59 (.bool true) rfl (RunV.bool (x:=((x.ofr.ce c)==(x.ofr.ce c))) (rvk (by kernel_rfl)) aL) ?_
  refine sv 60 (.bool true) ?_
  refine sv 61 (iT (wsE x.ofr c z)) ?_
  refine sv 62 (iT (x.ofr.ce c)) ?_
  have a2:((wsE x.ofr c z)==(x.ofr.ce c))=true:=(by rw [wi_E h0];simp)
  refine sw 63 (.bool true) rfl (RunV.bool (x:=((wsE x.ofr c z)==(x.ofr.ce c))) (rvk (by kernel_rfl)) a2) ?_
  refine sv 64 (.bool true) ?_
  refine sv 65 (.bool true) ?_
  refine sv 66 (iT (x.ofr.ce c)) ?_
  refine sv 67 (iT (x.ofr.ce c)) ?_
  refine sw 68 (.bool true) rfl (RunV.bool (x:=((x.ofr.ce c)==(x.ofr.ce c))) (rvk (by kernel_rfl)) aL) ?_
  refine sv 69 (.bool true) ?_
  refine sv 70 (.bool true) ?_
  refine sv 71 (iT (zM0 x.ofr c)) ?_
  have a9:((zM0 x.ofr c)==(0:Int))=true:=(by rw [wi_C h0];simp)
  refine sw 72 (.bool true) rfl (RunV.bool (x:=((zM0 x.ofr c)==(0:Int))) (rvk (by kernel_rfl)) a9) ?_
  refine sv 73 (.bool true) ?_
  refine sv 74 (.bool true) ?_
  refine sv 75 (sV (wsA x.ofr c z)) ?_
  have a3:((wsA x.ofr c z)==([]:List UInt8))=true:=(by rw [wi_A h0];simp)
  refine sw 76 (.bool true) rfl (RunV.bool (x:=((wsA x.ofr c z)==([]:List UInt8))) (zf4 33 33 _ _ (wsA x.ofr c z) ([]) rfl rfl rfl) a3) ?_
  refine sv 77 (.bool true) ?_
  refine sv 78 (.bool true) ?_
  refine sv 79 (sV (wsB x.ofr c z)) ?_
  have aX:((wsB x.ofr c z)==([]:List UInt8))=true:=(by rw [wi_B h0];simp)
  refine sw 80 (.bool true) rfl (RunV.bool (x:=((wsB x.ofr c z)==([]:List UInt8))) (zf4 33 33 _ _ (wsB x.ofr c z) ([]) rfl rfl rfl) aX) ?_
  refine sv 81 (.bool true) ?_
  refine sv 82 (.bool true) ?_
  refine sv 83 (iT (mtA x.ofr c)) ?_
  have aW:((mtA x.ofr c)==(0:Int))=true:=(by rw [wi_M h0];simp)
  refine sw 84 (.bool true) rfl (RunV.bool (x:=((mtA x.ofr c)==(0:Int))) (rvk (by kernel_rfl)) aW) ?_
  refine sv 85 (.bool true) ?_
  refine sv 86 (.bool true) ?_
  refine sv 87 (.bool (mtB x.ofr c)) ?_
  refine sv 88 (.bool (!(mtB x.ofr c))) ?_
  refine sv 89 (.bool (!(mtB x.ofr c))) ?_
  refine sv 6 (.bool (!(mtB x.ofr c))) (za0 (bD _ _ ?_))
  refine wp_ret ?_
  simp only [Exit.then]
  refine bodyPost_ret (v:=(.bool (!(mtB x.ofr c)))) (za3 rfl rfl) rfl ⟨?_,hB⟩
  exact congrArg (fun b=>Ending.returned (.bool b)) (by rw [wi_N h0];rfl)
 have h0:x.ofr.ce c=0:=by simpa using aA
 refine wp_skip ?_
 refine bN _ _ ?_
 refine wp_seq_k (fun cr bO=>rg [0,1,2,3,4,5,6,7] ?_)
 replace av:=av.gr bb
 refine sw 91 (.agg #[ad,ae,ac]) rfl (rl 26 0 [ad,ae,ac] av) ?_
 refine sv 92 v ?_
 refine se ?_
 refine ec 93 (m_meets (ah.gr aa) (hm.gr hB) (zA1 h0).1 ((hl.gr za2 hB).cast (c_l (zA1 h0).2.1))) ?_
 rintro cQ cx ⟨rfl,aO⟩
 refine ⟨_,rfl,?_⟩
 replace hB:=hB.trans aO
 replace aa:=aa.trans aO
 simp only [p3,p4]
 refine sv 90 (.tuple #[iT (fzA x.ofr (zd5 c)),.bool ((fz x.ofr (zd5 c)).2==(0:Int))]) ?_
 refine sv 94 (iT (fzA x.ofr (zd5 c))) ?_
 refine sv 95 (.bool ((fz x.ofr (zd5 c)).2==(0:Int))) ?_
 refine sv 17 (iT (fzA x.ofr (zd5 c))) ?_
 refine sv 18 (.bool ((fz x.ofr (zd5 c)).2==(0:Int))) (za0 (bO _ _ ?_))
 refine wp_seq_k (fun cA bt=>wp_seq_k (fun cJ bF=>rg [0,1,2,3,4,5,6,7,8,9,10,11,12,13,14,15,16,17,18,19,20,21,22] (sv 96 (iT (x.ofr.ce c)) ?_)))
 refine sw 97 (.bool false) rfl (RunV.bool (x:=((x.ofr.ce c) !=(0:Int))) (rvk (by kernel_rfl)) aA) ?_
 refine sv 98 (.bool false) ?_
 refine sv 99 (iT (zM0 x.ofr c)) ?_
 replace av:=av.gr aO
 refine sw 100 (.agg #[ad,ae,ac]) rfl (rl 26 0 [ad,ae,ac] av) ?_
 refine sv 101 v ?_
 refine se ?_
 refine ec 102 (m_cost (ah.gr aa) (hm.gr hB) (zA1 h0).1 ((hl.gr za2 hB).cast (c_l (zA1 h0).2.1))) ?_
 rintro cS cO ⟨rfl,bi⟩
 refine ⟨_,rfl,?_⟩
 replace hB:=hB.trans bi
 replace aa:=aa.trans bi
 simp only [p3,p4]
 have a1:((zM0 x.ofr c) !=(x.ofr.bd (zd5 c)))=false:=(by rw [wj_C h0];simp)
 refine sw 103 (.bool false) rfl (RunV.bool (x:=((zM0 x.ofr c) !=(x.ofr.bd (zd5 c)))) (rvk (by kernel_rfl)) a1) ?_
 refine sv 104 (.bool false) ?_
 refine sv 105 (.bool false) ?_
 refine sv 106 (iT (x.ofr.ce c)) ?_
 refine sw 107 (.bool false) rfl (RunV.bool (x:=((x.ofr.ce c) !=(0:Int))) (rvk (by kernel_rfl)) aA) ?_
 refine sv 108 (.bool false) ?_
 refine sv 109 (.bool false) ?_
 refine sv 110 (iT (mtA x.ofr c)) ?_
 refine sv 111 (iT (fzA x.ofr (zd5 c))) ?_
 have aY:((mtA x.ofr c) !=(fzA x.ofr (zd5 c)))=false:=(by rw [wj_M h0];simp)
 refine sw 112 (.bool false) rfl (RunV.bool (x:=((mtA x.ofr c) !=(fzA x.ofr (zd5 c)))) (rvk (by kernel_rfl)) aY) ?_
 refine sv 113 (.bool false) ?_
 refine sv 114 (.bool false) ?_
 refine sv 115 (.bool (mtB x.ofr c)) ?_
 refine sv 116 (.bool ((fz x.ofr (zd5 c)).2==(0:Int))) ?_
 have aQ:((mtB x.ofr c) !=((fz x.ofr (zd5 c)).2==(0:Int)))=false:=(by rw [wj_N h0];simp)
 refine sw 117 (.bool false) rfl (RunV.bool (x:=((mtB x.ofr c) !=((fz x.ofr (zd5 c)).2==(0:Int)))) (rvk (by kernel_rfl)) aQ) ?_
 refine sv 118 (.bool false) (za0 (bF _ _ ?_))
 refine wp_cond_false rfl ?_
 refine wp_skip ?_
 refine bt _ _ ?_
 refine wp_seq_k (fun b0 bV=>wp_seq_k (fun cK bl=>?_))
 rcases Bool.eq_false_or_eq_true (decide (z<(0:Int))) with hb52 | hb52
 ·have br:z<0:=of_decide_eq_true hb52
  have hzr:¬ (0≤z∧z<(x.ofr.q:Int)):=by omega
  refine rg [0,1,2,3,4,5,6,7,8] (sv 119 (iT (z)) ?_)
  refine sw 120 (.bool true) rfl (RunV.bool (x:=decide (z<(0:Int))) (rvk (by kernel_rfl)) hb52) ?_
  refine swk 121 (.bool true) [(3,122),(4,123),(5,124),(6,125),(7,126)] rfl (rvk (by kernel_rfl)) ?_
  refine sv 127 (.bool true) (za0 (bl _ _ ?_))
  refine wp_cond_true rfl ?_
  refine wp_seq_k (fun cZ bU=>rg [0,1,2,3,4,5,6,7,8,9,10] (sv 128 (iT (wsE x.ofr c z)) ?_))
  have a0:((wsE x.ofr c z)==(2:Int))=true:=(by rw [wk_E h0 hzr];simp)
  refine sw 129 (.bool true) rfl (RunV.bool (x:=((wsE x.ofr c z)==(2:Int))) (rvk (by kernel_rfl)) a0) ?_
  refine sv 130 (.bool true) ?_
  refine sv 131 (sV (wsA x.ofr c z)) ?_
  have a7:((wsA x.ofr c z)==([]:List UInt8))=true:=(by rw [wk_A hzr];simp)
  refine sw 132 (.bool true) rfl (RunV.bool (x:=((wsA x.ofr c z)==([]:List UInt8))) (zf4 33 33 _ _ (wsA x.ofr c z) ([]) rfl rfl rfl) a7) ?_
  refine sv 133 (.bool true) ?_
  refine sv 134 (.bool true) ?_
  refine sv 135 (sV (wsB x.ofr c z)) ?_
  have aU:((wsB x.ofr c z)==([]:List UInt8))=true:=(by rw [wk_B hzr];simp)
  refine sw 136 (.bool true) rfl (RunV.bool (x:=((wsB x.ofr c z)==([]:List UInt8))) (zf4 33 33 _ _ (wsB x.ofr c z) ([]) rfl rfl rfl) aU) ?_
  refine sv 137 (.bool true) ?_
  refine sv 6 (.bool true) (za0 (bU _ _ ?_))
  refine wp_ret ?_
  simp only [Exit.then]
  refine bodyPost_ret (v:=(.bool true)) (za3 rfl rfl) rfl ⟨?_,hB⟩
  exact rfl
 have br:¬ z<0:=of_decide_eq_false hb52
 refine rg [0,1,2,3,4,5,6,7,8] (sv 119 (iT (z)) ?_)
 refine sw 120 (.bool false) rfl (RunV.bool (x:=decide (z<(0:Int))) (rvk (by kernel_rfl)) hb52) ?_
 refine sv 121 (.bool false) ?_
 refine sv 122 (iT (z)) ?_
 refine sv 123 (pT bp 2) ?_
 replace av:=av.gr bi
 refine sw 124 ac rfl (rk 24 2 av) ?_
 refine sw 125 (iT ((x.ofr.q:Nat):Int)) rfl (za9 (e:=80) ah.rq (za8 rfl) _ _ rfl rfl (by kernel_rfl)) ?_
 refine sv 126 (.bool (decide (((x.ofr.q:Nat):Int)≤z))) ?_
 refine sv 127 (.bool (decide (((x.ofr.q:Nat):Int)≤z))) (za0 (bl _ _ ?_))
 refine wp_cond_split rfl (fun aD=>?_) (fun aD=>?_)
 ·have bC:(x.ofr.q:Int)≤z:=of_decide_eq_true aD
  have hzr:¬ (0≤z∧z<(x.ofr.q:Int)):=by omega
  refine wp_seq_k (fun cH bn=>rg [0,1,2,3,4,5,6,7,8,9,10] (sv 128 (iT (wsE x.ofr c z)) ?_))
  have aR:((wsE x.ofr c z)==(2:Int))=true:=(by rw [wk_E h0 hzr];simp)
  refine sw 129 (.bool true) rfl (RunV.bool (x:=((wsE x.ofr c z)==(2:Int))) (rvk (by kernel_rfl)) aR) ?_
  refine sv 130 (.bool true) ?_
  refine sv 131 (sV (wsA x.ofr c z)) ?_
  have a4:((wsA x.ofr c z)==([]:List UInt8))=true:=(by rw [wk_A hzr];simp)
  refine sw 132 (.bool true) rfl (RunV.bool (x:=((wsA x.ofr c z)==([]:List UInt8))) (zf4 33 33 _ _ (wsA x.ofr c z) ([]) rfl rfl rfl) a4) ?_
  refine sv 133 (.bool true) ?_
  refine sv 134 (.bool true) ?_
  refine sv 135 (sV (wsB x.ofr c z)) ?_
  have bf:((wsB x.ofr c z)==([]:List UInt8))=true:=(by rw [wk_B hzr];simp)
  refine sw 136 (.bool true) rfl (RunV.bool (x:=((wsB x.ofr c z)==([]:List UInt8))) (zf4 33 33 _ _ (wsB x.ofr c z) ([]) rfl rfl rfl) bf) ?_
  refine sv 137 (.bool true) ?_
  refine sv 6 (.bool true) (za0 (bn _ _ ?_))
  refine wp_ret ?_
  simp only [Exit.then]
  refine bodyPost_ret (v:=(.bool true)) (za3 rfl rfl) rfl ⟨?_,hB⟩
  exact rfl
 have bC:¬ (x.ofr.q:Int)≤z:=of_decide_eq_false aD
 have hzr:0≤z∧z<(x.ofr.q:Int):=by omega
 refine wp_skip ?_
 refine bV _ _ ?_
 refine wp_seq_k (fun cp bR=>rg [0,1,2,3,4,5,6,7,8,9,10] ?_)
 refine sw 139 (.agg #[ad,ae,ac]) rfl (rl 26 0 [ad,ae,ac] av) ?_
 refine sv 140 v ?_
 refine sv 141 (iT (z)) ?_
 refine se ?_
 refine ec 142 (zY1 hzr (ah.gr aa) (hm.gr hB) (zA1 h0).1 ((hl.gr za2 hB).cast (c_l (zA1 h0).2.1))) ?_
 rintro db cX ⟨⟨ar,ap,af,ai,ak,au,aq,al,rfl,aw,aj⟩,bm⟩
 refine ⟨_,rfl,?_⟩
 replace hB:=hB.trans bm
 replace aa:=aa.trans bm
 simp only [p3,p4]
 refine sv 138 (.tuple #[.agg #[ar,ap,af,ai],.agg #[ak,au,aq,al]]) ?_
 refine sv 143 (.agg #[ar,ap,af,ai]) ?_
 refine sv 144 (.agg #[ak,au,aq,al]) ?_
 refine se ?_
 refine ea 62 #[.bool false,sN,.bool false,sN] 19 hB fun cB cW a5 aC bw bB hB=>?_
 have ay:=Nat.le_trans (Below.size aa) bw
 replace aa:=aa.trans a5
 simp only [p3,p4]
 refine se ?_
 refine ea 62 #[.bool false,sN,.bool false,sN] 20 hB fun cV cd aM aF bj bK hB=>?_
 have ax:=aC.ne bj
 have az:=Nat.le_trans (Below.size aa) bj
 replace aa:=aa.trans aM
 simp only [p3,p4]
 refine se ?_
 replace aC:=aC.gr aM
 refine es 62 0 (.agg #[ar,ap,af,ai]) [ar,ap,af,ai] #[ar,ap,af,ai] aC hB bB ⟨aw.one0,aw.one1,aw.one2,aw.one3,trivial⟩ fun b5 aI aJ aC hB=>?_
 replace aa:=aI.gr aa ay
 refine se ?_
 replace aF:=aI.lc aF (Ne.symm ax)
 refine es 62 0 (.agg #[ak,au,aq,al]) [ak,au,aq,al] #[ak,au,aq,al] aF hB bK ⟨aj.one0,aj.one1,aj.one2,aj.one3,trivial⟩ fun c9 aG aK aF hB=>?_
 replace aa:=aG.gr aa az
 refine za0 (bR _ _ ?_)
 refine wp_seq_k (fun cR bu=>rg [0,1,2,3,4,5,6,7,8,9,10,11,12,13,14] (sv 145 (iT (wsE x.ofr c z)) ?_))
 have aS:((wsE x.ofr c z)==(0:Int))=true:=(by rw [wl_E h0 hzr];simp)
 refine sw 146 (.bool true) rfl (RunV.bool (x:=((wsE x.ofr c z)==(0:Int))) (rvk (by kernel_rfl)) aS) ?_
 refine sv 147 (.bool true) ?_
 refine sv 148 (sV (wsA x.ofr c z)) ?_
 replace aC:=aG.lc aC ax
 refine sw 149 (.agg #[ar,ap,af,ai]) rfl (rl 62 0 [ar,ap,af,ai] aC) ?_
 refine se ?_
 have a6:=a5.kp.trans (aM.kp.trans (aJ.trans aK))
 replace aw:=aw.kp a6
 refine ec 150 (zi6 aw (by omega) (ht.gr hB)) ?_
 rintro cT cc ⟨rfl,aP⟩
 refine ⟨_,rfl,?_⟩
 replace hB:=hB.trans aP
 simp only [p3,p4]
 have ba:((wsA x.ofr c z)==(zc3 (x.ofr.wl (zd5 c) z.toNat)))=true:=(by rw [wl_A h0 hzr];simp)
 refine sw 151 (.bool true) rfl (RunV.bool (x:=((wsA x.ofr c z)==(zc3 (x.ofr.wl (zd5 c) z.toNat)))) (zf4 33 33 _ _ (wsA x.ofr c z) (zc3 (x.ofr.wl (zd5 c) z.toNat)) rfl rfl rfl) ba) ?_
 refine sv 152 (.bool true) ?_
 refine sv 153 (.bool true) ?_
 refine sv 154 (sV (wsB x.ofr c z)) ?_
 replace aF:=aF.gr aP
 refine sw 155 (.agg #[ak,au,aq,al]) rfl (rl 62 0 [ak,au,aq,al] aF) ?_
 refine se ?_
 have bh:=a5.kp.trans (aM.kp.trans (aJ.trans (aK.trans aP.kp)))
 replace aj:=aj.kp bh
 refine ec 156 (zi6 aj (by omega) (ht.gr hB)) ?_
 rintro cN cU ⟨rfl,bQ⟩
 refine ⟨_,rfl,?_⟩
 replace hB:=hB.trans bQ
 simp only [p3,p4]
 have aN:((wsB x.ofr c z)==(zc3 (x.ofr.wu (zd5 c) z.toNat)))=true:=(by rw [wl_B h0 hzr];simp)
 refine sw 157 (.bool true) rfl (RunV.bool (x:=((wsB x.ofr c z)==(zc3 (x.ofr.wu (zd5 c) z.toNat)))) (zf4 33 33 _ _ (wsB x.ofr c z) (zc3 (x.ofr.wu (zd5 c) z.toNat)) rfl rfl rfl) aN) ?_
 refine sv 158 (.bool true) ?_
 refine sv 6 (.bool true) (za0 (bu _ _ ?_))
 refine wp_ret ?_
 refine bodyPost_ret (v:=(.bool true)) (za3 rfl rfl) rfl ⟨?_,hB⟩
 exact rfl

end Go.Proofs.YtjhflekncldflaaGreatDoor
namespace Go.Proofs.YtjhflekncldflaaGreatDoor
open Go.ChangeShapes Go.WideShapes Go.ChangeAt Go.RowKit

theorem zm3 {W : World} (h : laidMetH Tryz.prog Rows.allocationWorstsRow.laid W) : Tab W :=
 Lib.tabIs_of_head (rest := _) (g := 0) (t := 260) (e := 189) (n := 20) (by kernel_rfl) (by kernel_rfl) (by kernel_rfl) (by kernel_rfl) (by kernel_rfl) (by kernel_rfl) ((show laidMet Tryz.prog Rows.allocationWorstsRow.laid W from (MakeChecks.laidMetH_plain _ _ _ (by kernel_rfl)) ▸ h).tail.tail)
theorem zl5 {W : World} (h : W.ShapedOpen Tryz.prog) : Mx W :=
 Go.Proofs.cell_of_shapedOpen_int (zero := #[.int .i64 0]) (g := 1) (t := 3) h (of_decide_eq_true (by kernel_rfl)) (by kernel_rfl) rfl (by kernel_rfl) (by kernel_rfl) Tryz.underlying3
set_option maxRecDepth 100000 in
theorem zk6 (H : Type) (enc : TypeId × Value → H) (W : World) (base : Nat) (args : Array Value) (ds gs : List (DataW H)) (before : List MemPlace)
  (hval : ∀ (j : Nat) t v, Tryz.f4.params[j]? = some t → args[j]? = some v → Value.okWide Tryz.prog W .any base t v)
  (hW : DataW.Whole enc Tryz.prog Tryz.f4.params.toList Rows.allocationWorstsSpec.vars false W args.toList ds gs before) (hL : laidMetH Tryz.prog Rows.allocationWorstsRow.laid W) (hsh : W.ShapedOpen Tryz.prog) :
  Calls Tryz.prog 4 args W fun e W' => ∃ v, e = .returned v ∧ Rows.allocationWorstsSpec.post enc Tryz.prog Tryz.f4 false true false false W args v W' := by
 have hW' := hW
 obtain ⟨p, q, aj, hV, rfl, hfz, hnd⟩ := hW
 have hA : DataW.TrodAll enc Tryz.prog W 0 (fun _ => true) true Tryz.f4.params.toList args.toList ds p := aj
 rw [Tryz.params4] at hA hval
 obtain ⟨v0, ax, d0, ap, p0, q0, hargs, rfl, rfl, h0, r0⟩ := trodAll_cons hA
 obtain ⟨v1, av, d1, ar, p1, q1, rfl, rfl, rfl, h1, r1⟩ := trodAll_cons r0
 obtain ⟨v2, aw, d2, aq, p2, q2, rfl, rfl, rfl, h2, r2⟩ := trodAll_cons r1
 obtain ⟨rfl, rfl, rfl⟩ := trodAll_nil r2
 obtain rfl : args = #[v0, v1, v2] := by cases args; simp_all
 obtain ⟨rfl, rfl⟩ := trodVars_none hV
 obtain ⟨c0, rfl, k0⟩ := open_cks 6 (by kernel_rfl) (by kernel_rfl) (hval 0 52 v0 rfl rfl) h0
 obtain ⟨x0, al, ac, ai, af, ae, ad, rfl, ah⟩ := dsc_of k0
 obtain ⟨T1, au, o1⟩ := yb6 5 (ks := [.i64]) (e := 3) (by kernel_rfl) (by kernel_rfl) (by kernel_rfl) (by decide) (hval 1 40 v1 rfl rfl) h1
 obtain ⟨aa, rfl, ak⟩ := zY9 (k := .i64) (by kernel_rfl) (hval 2 3 v2 rfl rfl)
 refine ((fun _ ht hm => zq9 hm ht ah (ints_of o1) aa)  W (zm3 hL) (zl5 hsh)).mono fun e W' ⟨he, hg⟩ => ?_
 subst he
 exact ⟨_, rfl, law_post (tb := 4) laidOut (by kernel_rfl) (by kernel_rfl) (by kernel_rfl) rfl hW' rfl hg⟩
noncomputable def zf7 (os : Os) : World := World.laidAll Tryz.prog os Rows.allocationWorstsRow.laid
theorem zo3 (os : Os) : laidMet Tryz.prog Rows.allocationWorstsRow.laid ((zf7 os).forCall (fun _ _ => 0) ⟨#[], #[.agg #[.slice none 0 0, .slice none 0 0, .slice none 0 0, .slice none 0 0, .slice none 0 0, .slice none 0 0], .slice none 0 0, .int .i64 0], []⟩).memory :=
 laidMet_laidAll _ (by kernel_rfl) (by kernel_rfl)
theorem zm4 (os : Os) {H : Type} (enc : TypeId × Value → H) : ∃ places, DataW.whole enc Tryz.prog ((zf7 os).forCall (fun _ _ => 0) ⟨#[], #[.agg #[.slice none 0 0, .slice none 0 0, .slice none 0 0, .slice none 0 0, .slice none 0 0, .slice none 0 0], .slice none 0 0, .int .i64 0], []⟩).memory Tryz.f4.params.toList Rows.allocationWorstsSpec.vars false (#[.agg #[.slice none 0 0, .slice none 0 0, .slice none 0 0, .slice none 0 0, .slice none 0 0, .slice none 0 0], .slice none 0 0, .int .i64 0] : Array Value).toList 8 = some ([.agg [.nil, .agg [.nil, .nil, .nil, .nil], .nil], .nil, .lit (.int .i64 0)], [], places) :=
 ⟨[], by kernel_rfl⟩
set_option maxRecDepth 100000 in
theorem zl6 (os : Os) (started : os.Started) (H : Type) (enc : TypeId × Value → H) (F : Stop.Interp) :
  ReturnsInHanded {} Tryz.checked os 4 .any ((OpenSpec.ofChange Rows.allocationWorstsSpec).preRow enc Tryz.prog Tryz.f4 Rows.allocationWorstsRow.domain false Rows.allocationWorstsRow.laid) (((OpenSpec.ofChange Rows.allocationWorstsSpec).at F).post enc Tryz.prog Tryz.f4 false true false false) := by
 obtain ⟨places, hx⟩ := zm4 os enc
 refine returnsInHanded_of_row (C := Tryz.checked) (s := OpenSpec.ofChange Rows.allocationWorstsSpec) own started (by kernel_rfl) Tryz.func4
  (zA0 (enc := enc) (C := Tryz.checked) false (zf7 os) #[.agg #[.slice none 0 0, .slice none 0 0, .slice none 0 0, .slice none 0 0, .slice none 0 0, .slice none 0 0], .slice none 0 0, .int .i64 0] (World.laidAll_os _ _ _) (World.shaped_of_ZipB (by kernel_rfl) (by kernel_rfl)) (by kernel_rfl)
   (OpenSpec.preRow_of_cond 8 hx (by kernel_rfl) (fun k hk => by cases hk) (by kernel_rfl) (by rw [MakeChecks.laidMetH_plain _ _ _ (by kernel_rfl)]; exact zo3 os))) ?_
 intro W base args ds gs before hval hW _ _ _ hL hsh _
 exact zk6 H enc W base args ds gs before hval hW hL hsh
theorem zn2 : Rows.AllocationWorstsSaid :=
 OpenClaim.holds_of_cond 4 Tryz.f4 rfl rfl rfl rfl rfl rfl rfl ⟨rfl, rfl, rfl, rfl, rfl⟩ rfl rfl rfl rfl rfl (by kernel_rfl) Tryz.func4 (by kernel_rfl)
  (of_decide_eq_true (by kernel_rfl)) (by unfold Func.isWrapper; first | (rw [if_pos (by decide +kernel)]; kernel_rfl) | (rw [if_neg (by decide +kernel)]; exact ⟨rfl, rfl⟩))
  (fun os started H enc _ F => by rw [OpenClaim.pre_eq_preRow]; exact zl6 os started H enc F)
theorem zm5 (f : FuncId) (fn : Func) (hf : Tryz.pinned.checked.prog.funcNamed "dowel/dowellaw43.AllocationWorsts" = some f) (hfn : Tryz.pinned.checked.prog.funcs[f]? = some fn) :
  true = Tryz.pinned.checked.prog.looks [] ∧ ∀ (j : Nat) t, fn.params[j]? = some t → Tryz.pinned.checked.prog.wantsStandIn t = false := by
 obtain rfl : f = 4 := Option.some.inj ((show Tryz.prog.funcNamed "dowel/dowellaw43.AllocationWorsts" = some 4 by kernel_rfl).symm.trans hf) |>.symm
 obtain rfl : fn = Tryz.f4 := (Option.some.inj (Tryz.func4.symm.trans hfn)).symm
 refine ⟨by kernel_rfl, fun j t ht => ?_⟩
 rw [Tryz.params4] at ht
 have hm := Array.mem_of_getElem? ht
 have hall : (#[52, 40, 3] : Array TypeId).toList.all (fun t => !Tryz.prog.wantsStandIn t) = true := by kernel_rfl
 have := List.all_eq_true.1 hall t (Array.mem_toList_iff.2 hm)
 have h3 : Tryz.prog.wantsStandIn t = false := by simpa using this
 exact h3
theorem allocationWorsts_card : Rows.AllocationWorstsCardSaid :=
 Claim7.holds_tied_plain_at .later [] _ _ _ _ zn2 (fun _ h => by cases h) (by kernel_rfl) (fun _ h => by cases h) allocationWorsts_row_tie rfl ⟨rfl, rfl⟩ (by kernel_rfl) rfl zm5 (by kernel_rfl)
end Go.Proofs.YtjhflekncldflaaGreatDoor
