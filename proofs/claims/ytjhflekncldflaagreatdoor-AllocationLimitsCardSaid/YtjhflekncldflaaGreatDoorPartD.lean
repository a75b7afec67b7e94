/- Joined of: Gen47, Po, Gen202, Px, Gen203, Apf, Wx, El, Gen204, Gen205, Gen33, Gen206, Pv, Gen207. -/
import Derived.Test.YtjhflekncldflaaGreatDoorPartC
import Derived.ArgAppend
namespace Go.Proofs.YtjhflekncldflaaGreatDoor
set_option maxRecDepth 100000
set_option maxHeartbeats 1000000
open Go.RowKit

theorem zd8 (l:List UInt8) (_hl:l.length≤1000000) (w:World):
    Calls Tryz.prog 117 #[sV l] w fun e w'=>e=.returned (.bool (zf3 l))∧Gr w w':=by
 go_enter Tryz.func117,Tryz.ntmps117
 have hB:=Gr.refl w
 refine wp_seq_k (fun K1 k1=>rg [0] (sv 2 (.bool false) ?_))
 refine za0 (k1 _ _ ?_)
 refine wp_seq_k (fun K2 k2=>rg [0,1,2,3,4,5,6,7] (sv 3 (sV l) ?_))
 refine sw 4 (.bool ((l) !=([]:List UInt8))) rfl (zP0 9 9 _ _ (l) ([]) rfl rfl rfl) ?_
 rcases Bool.eq_false_or_eq_true ((l) !=([]:List UInt8)) with hb3 | hb3
 ·refine sw 5 (.bool true) rfl (RunV.bool (x:=((l) !=([]:List UInt8))) (rvk (by kernel_rfl)) hb3) ?_
  refine sv 6 (sV l) ?_
  refine se ?_
  refine ec 7 (trim_any (l) (by omega) _) ?_
  rintro e4 w4 ⟨rfl,g4⟩
  refine ⟨_,rfl,?_⟩
  replace hB:=hB.trans g4
  simp only [p3,p4]
  refine sw 8 (.bool ((Lib.trimS (l) [48,49,50,51,52,53,54,55,56,57])==([]:List UInt8))) rfl (zi9 9 9 _ _ (Lib.trimS (l) [48,49,50,51,52,53,54,55,56,57]) ([]) rfl rfl rfl) ?_
  refine sv 9 (.bool ((Lib.trimS (l) [48,49,50,51,52,53,54,55,56,57])==([]:List UInt8))) ?_
  refine sv 2 (.bool ((Lib.trimS (l) [48,49,50,51,52,53,54,55,56,57])==([]:List UInt8))) (za0 (k2 _ _ ?_))
  refine wp_ret ?_
  refine bodyPost_ret (v:=(.bool ((Lib.trimS (l) [48,49,50,51,52,53,54,55,56,57])==([]:List UInt8)))) (za3 rfl rfl) rfl ⟨?_,hB⟩
  exact (by rw [zG0,hb3];rfl)
 refine sw 5 (.bool false) rfl (RunV.bool (x:=((l) !=([]:List UInt8))) (rvk (by kernel_rfl)) hb3) ?_
 refine ss 6 ?_
 refine ss 7 ?_
 refine ss 8 ?_
 refine sv 9 (.bool false) ?_
 refine sv 2 (.bool false) (za0 (k2 _ _ ?_))
 refine wp_ret ?_
 refine bodyPost_ret (v:=(.bool false)) (za3 rfl rfl) rfl ⟨?_,hB⟩
 exact (by rw [zG0,hb3];rfl)

theorem zW0 (X:List UInt8) (most:Int) (_hx:X.length≤1000000) (_hlong:most<(X.length:Int)) (w:World) (hm:Mx w):
    Calls Tryz.prog 92 #[sV X,iT (most)] w fun e w'=>e=.returned (.tuple #[.agg #[.bool false,sN,.bool false,sN],iT 5])∧Gr w w':=by
 have hl:decide (most<((X).length:Int))=true:=by simp;omega
 go_enter Tryz.func92,Tryz.ntmps92
 have hB:=Gr.refl w
 refine wp_seq_k (fun K1 k1=>rg [0,1] ?_)
 refine se ?_
 refine ea 62 #[.bool false,sN,.bool false,sN] 4 hB fun b2 w2 g2 L2 o2 q2 hB=>?_
 simp only [p3,p4]
 refine sv 5 (iT 0) (za0 (k1 _ _ ?_))
 refine wp_seq_k (fun K3 k3=>rg [0,1] (sv 13 (sV X) ?_))
 refine sv 6 (sV X) (za0 (k3 _ _ ?_))
 refine wp_seq_k (fun K4 k4=>rg [0,1,2,3,4,5,6,7,8] (sv 15 (sV X) ?_))
 refine se ?_
 refine ec 16 (zK0 (X) (by omega) (hm.gr hB)) ?_
 rintro e5 w5 ⟨rfl,g5⟩
 refine ⟨_,rfl,?_⟩
 replace hB:=hB.trans g5
 simp only [p3,p4]
 refine sv 14 (.tuple #[sV (zt7 (X)),sV ((zh3 (X)).2.getD []),.bool ((zh3 (X)).2.isSome)]) ?_
 refine sv 17 (sV (zt7 (X))) ?_
 refine sv 18 (sV ((zh3 (X)).2.getD [])) ?_
 refine sv 19 (.bool ((zh3 (X)).2.isSome)) ?_
 refine sv 7 (sV (zt7 (X))) ?_
 refine sv 8 (sV ((zh3 (X)).2.getD [])) ?_
 refine sv 9 (.bool ((zh3 (X)).2.isSome)) (za0 (k4 _ _ ?_))
 refine wp_seq_k (fun K6 k6=>?_)
 refine wp_block ?_
 refine wp_seq_k (fun K7 k7=>rg [0,1,2,3,4] (sv 21 (sV X) ?_))
 refine sv 22 (iT ((X).length:Int)) ?_
 refine sv 23 (iT (most)) ?_
 refine sw 24 (.bool true) rfl (RunV.bool (x:=decide (most<((X).length:Int))) (rvk (by kernel_rfl)) hl) ?_
 refine sv 20 (.bool true) (za0 (k7 _ _ ?_))
 refine wp_cond_true rfl ?_
 refine wp_seq_k (fun K8 k8=>rg [0,1,2] (sv 25 (.agg #[.bool false,sN,.bool false,sN]) ?_))
 refine se ?_
 replace L2:=L2.gr g5
 refine es 62 0 (.agg #[.bool false,sN,.bool false,sN]) [.bool false,sN,.bool false,sN] #[.bool false,sN,.bool false,sN] L2 hB q2 ⟨rfl,rfl,rfl,rfl,trivial⟩ fun w9 aa ac L2 hB=>?_
 refine sv 5 (iT 5) (za0 (k8 _ _ ?_))
 refine wp_ret ?_
 simp only [Exit.then,Exit.inBlock]
 refine bodyPost_ret (v:=(.tuple #[.agg #[.bool false,sN,.bool false,sN],iT 5])) (zb5 _ _ _ rfl rfl L2 (by kernel_rfl) rfl) rfl ⟨?_,hB⟩
 exact rfl

theorem read_ns (X:List UInt8) (most:Int) (_hx:X.length≤14000) (_hlong:(X.length:Int)≤most) (hc:zh3 X=(X,none)) (h1:zf3 (zc4 X)=false) (w:World) (hm:Mx w):
    Calls Tryz.prog 92 #[sV X,iT (most)] w fun e w'=>e=.returned (.tuple #[.agg #[.bool false,sN,.bool false,sN],iT 14])∧Gr w w':=by
 have hl:decide (most<((X).length:Int))=false:=by simp;omega
 have hsX:(zc4 (X)).length≤(X).length:=zf5 _
 go_enter Tryz.func92,Tryz.ntmps92
 have hB:=Gr.refl w
 refine wp_seq_k (fun K1 k1=>rg [0,1] ?_)
 refine se ?_
 refine ea 62 #[.bool false,sN,.bool false,sN] 4 hB fun b2 w2 g2 L2 o2 q2 hB=>?_
 simp only [p3,p4]
 refine sv 5 (iT 0) (za0 (k1 _ _ ?_))
 refine wp_seq_k (fun K3 k3=>rg [0,1] (sv 13 (sV X) ?_))
 refine sv 6 (sV X) (za0 (k3 _ _ ?_))
 refine wp_seq_k (fun K4 k4=>rg [0,1,2,3,4,5,6,7,8] (sv 15 (sV X) ?_))
 refine se ?_
 refine ec 16 (cut_no (X) (by omega) hc (hm.gr hB)) ?_
 rintro e5 w5 ⟨rfl,g5⟩
 refine ⟨_,rfl,?_⟩
 replace hB:=hB.trans g5
 simp only [p3,p4]
 refine sv 14 (.tuple #[sV X,sV [],.bool false]) ?_
 refine sv 17 (sV X) ?_
 refine sv 18 (sV []) ?_
 refine sv 19 (.bool false) ?_
 refine sv 7 (sV X) ?_
 refine sv 8 (sV []) ?_
 refine sv 9 (.bool false) (za0 (k4 _ _ ?_))
 refine wp_seq_k (fun K6 k6=>?_)
 refine wp_block ?_
 refine wp_seq_k (fun K7 k7=>rg [0,1,2,3,4] (sv 21 (sV X) ?_))
 refine sv 22 (iT ((X).length:Int)) ?_
 refine sv 23 (iT (most)) ?_
 refine sw 24 (.bool false) rfl (RunV.bool (x:=decide (most<((X).length:Int))) (rvk (by kernel_rfl)) hl) ?_
 refine sv 20 (.bool false) (za0 (k7 _ _ ?_))
 refine wp_cond_false rfl ?_
 refine wp_seq_k (fun K8 k8=>rg [0,1,2,3,4,5,6,7,8,9,10,11,12] (sv 27 (sV X) ?_))
 refine se ?_
 refine ec 28 (zd5 (X) _) ?_
 rintro e9 w9 ⟨rfl,g9⟩
 refine ⟨_,rfl,?_⟩
 replace hB:=hB.trans g9
 simp only [p3,p4]
 refine se ?_
 refine ec 29 (zd8 (zc4 (X)) (by omega) _) ?_
 rintro ah ai ⟨rfl,aa⟩
 refine ⟨_,rfl,?_⟩
 replace hB:=hB.trans aa
 simp only [p3,p4]
 refine sw 30 (.bool true) rfl (RunV.bool (x:=!(zf3 (zc4 (X)))) (rvk (by kernel_rfl)) (show (!(zf3 (zc4 (X))))=true by rw [h1];rfl)) ?_
 refine sv 31 (.bool true) ?_
 refine ss 32 ?_
 refine ss 33 ?_
 refine ss 34 ?_
 refine ss 35 ?_
 refine ss 36 ?_
 refine ss 37 ?_
 refine sv 38 (.bool true) ?_
 refine sv 26 (.bool true) (za0 (k8 _ _ ?_))
 refine wp_cond_true rfl ?_
 refine wp_seq_k (fun af ad=>rg [0,1,2] (sv 39 (.agg #[.bool false,sN,.bool false,sN]) ?_))
 refine se ?_
 replace L2:=L2.gr (g5.trans (g9.trans aa))
 refine es 62 0 (.agg #[.bool false,sN,.bool false,sN]) [.bool false,sN,.bool false,sN] #[.bool false,sN,.bool false,sN] L2 hB q2 ⟨rfl,rfl,rfl,rfl,trivial⟩ fun aj ac ae L2 hB=>?_
 refine sv 5 (iT 14) (za0 (ad _ _ ?_))
 refine wp_ret ?_
 simp only [Exit.then,Exit.inBlock]
 refine bodyPost_ret (v:=(.tuple #[.agg #[.bool false,sN,.bool false,sN],iT 14])) (zb5 _ _ _ rfl rfl L2 (by kernel_rfl) rfl) rfl ⟨?_,hB⟩
 exact rfl

theorem read_nf (X:List UInt8) (most:Int) (_hx:X.length≤14000) (_hlong:(X.length:Int)≤most) (hc:zh3 X=(X,none)) (h1:zf3 (zc4 X)=true) (h2:zD2 X=true) (w:World) (hm:Mx w):
    Calls Tryz.prog 92 #[sV X,iT (most)] w fun e w'=>e=.returned (.tuple #[.agg #[.bool false,sN,.bool false,sN],iT 3])∧Gr w w':=by
 have hl:decide (most<((X).length:Int))=false:=by simp;omega
 have hsX:(zc4 (X)).length≤(X).length:=zf5 _
 go_enter Tryz.func92,Tryz.ntmps92
 have hB:=Gr.refl w
 refine wp_seq_k (fun K1 k1=>rg [0,1] ?_)
 refine se ?_
 refine ea 62 #[.bool false,sN,.bool false,sN] 4 hB fun b2 w2 g2 L2 o2 q2 hB=>?_
 simp only [p3,p4]
 refine sv 5 (iT 0) (za0 (k1 _ _ ?_))
 refine wp_seq_k (fun K3 k3=>rg [0,1] (sv 13 (sV X) ?_))
 refine sv 6 (sV X) (za0 (k3 _ _ ?_))
 refine wp_seq_k (fun K4 k4=>rg [0,1,2,3,4,5,6,7,8] (sv 15 (sV X) ?_))
 refine se ?_
 refine ec 16 (cut_no (X) (by omega) hc (hm.gr hB)) ?_
 rintro e5 w5 ⟨rfl,g5⟩
 refine ⟨_,rfl,?_⟩
 replace hB:=hB.trans g5
 simp only [p3,p4]
 refine sv 14 (.tuple #[sV X,sV [],.bool false]) ?_
 refine sv 17 (sV X) ?_
 refine sv 18 (sV []) ?_
 refine sv 19 (.bool false) ?_
 refine sv 7 (sV X) ?_
 refine sv 8 (sV []) ?_
 refine sv 9 (.bool false) (za0 (k4 _ _ ?_))
 refine wp_seq_k (fun K6 k6=>?_)
 refine wp_block ?_
 refine wp_seq_k (fun K7 k7=>rg [0,1,2,3,4] (sv 21 (sV X) ?_))
 refine sv 22 (iT ((X).length:Int)) ?_
 refine sv 23 (iT (most)) ?_
 refine sw 24 (.bool false) rfl (RunV.bool (x:=decide (most<((X).length:Int))) (rvk (by kernel_rfl)) hl) ?_
 refine sv 20 (.bool false) (za0 (k7 _ _ ?_))
 refine wp_cond_false rfl ?_
 refine wp_seq_k (fun K8 k8=>rg [0,1,2,3,4,5,6,7,8,9,10,11,12] (sv 27 (sV X) ?_))
 refine se ?_
 refine ec 28 (zd5 (X) _) ?_
 rintro e9 w9 ⟨rfl,g9⟩
 refine ⟨_,rfl,?_⟩
 replace hB:=hB.trans g9
 simp only [p3,p4]
 refine se ?_
 refine ec 29 (zd8 (zc4 (X)) (by omega) _) ?_
 rintro ax ay ⟨rfl,ae⟩
 refine ⟨_,rfl,?_⟩
 replace hB:=hB.trans ae
 simp only [p3,p4]
 refine sw 30 (.bool false) rfl (RunV.bool (x:=!(zf3 (zc4 (X)))) (rvk (by kernel_rfl)) (show (!(zf3 (zc4 (X))))=false by rw [h1];rfl)) ?_
 refine sv 31 (.bool false) ?_
 refine sv 32 (.bool false) ?_
 refine sv 33 (.bool false) ?_
 refine ss 34 ?_
 refine ss 35 ?_
 refine ss 36 ?_
 refine sv 37 (.bool false) ?_
 refine sv 38 (.bool false) ?_
 refine sv 26 (.bool false) (za0 (k8 _ _ ?_))
 refine wp_cond_false rfl ?_
 refine wp_seq_k (fun aA ah=>rg [0,1,2,3,4,5,6] (sv 41 (.bool false) ?_))
 refine sv 42 (.bool false) ?_
 refine ss 43 ?_
 refine ss 44 ?_
 refine ss 45 ?_
 refine sv 46 (.bool false) ?_
 refine sv 40 (.bool false) (za0 (ah _ _ ?_))
 refine wp_cond_false rfl ?_
 refine wp_skip ?_
 refine k6 _ _ ?_
 refine wp_seq_k (fun aB ai=>rg [0,1,2,3,4,5,6,7] (sv 49 (sV X) ?_))
 refine se ?_
 refine ec 50 (zx8 (X) (by omega) h1 h2 _) ?_
 rintro aI aJ ⟨rfl,ad⟩
 refine ⟨_,rfl,?_⟩
 replace hB:=hB.trans ad
 simp only [p3,p4]
 refine sv 48 (.tuple #[.agg #[.bool false,sN],iT 3]) ?_
 refine sv 51 (.agg #[.bool false,sN]) ?_
 refine sv 52 (iT 3) ?_
 refine se ?_
 refine ea 60 #[.bool false,sN] 10 hB fun aH aD ak af aq au hB=>?_
 replace L2:=L2.gr (g5.trans (g9.trans (ae.trans ad)))
 have aa:=L2.ne aq
 simp only [p3,p4]
 refine se ?_
 refine es 60 0 (.agg #[.bool false,sN]) [.bool false,sN] #[.bool false,sN] af hB au ⟨rfl,rfl,trivial⟩ fun aE ac av af hB=>?_
 refine sv 11 (iT 3) (za0 (ai _ _ ?_))
 refine wp_seq_k (fun aG aC=>wp_seq_k (fun aF ar=>rg [0,1] (sv 53 (iT 3) ?_)))
 refine sv 54 (.bool true) (za0 (ar _ _ ?_))
 refine wp_cond_true rfl ?_
 refine wp_seq_k (fun aw ap=>rg [0,1,2] (sv 55 (.agg #[.bool false,sN,.bool false,sN]) ?_))
 refine se ?_
 replace L2:=ac.lc (L2.gr ak) aa
 refine es 62 0 (.agg #[.bool false,sN,.bool false,sN]) [.bool false,sN,.bool false,sN] #[.bool false,sN,.bool false,sN] L2 hB q2 ⟨rfl,rfl,rfl,rfl,trivial⟩ fun az aj al L2 hB=>?_
 refine sv 5 (iT 3) (za0 (ap _ _ ?_))
 refine wp_ret ?_
 simp only [Exit.then]
 refine bodyPost_ret (v:=(.tuple #[.agg #[.bool false,sN,.bool false,sN],iT 3])) (zb5 _ _ _ rfl rfl L2 (by kernel_rfl) rfl) rfl ⟨?_,hB⟩
 exact rfl

theorem read_fs1 (X A D:List UInt8) (most:Int) (_hx:X.length≤14000) (_hlong:(X.length:Int)≤most) (hc:zh3 X=(A,some D)) (_hA:(A).length≤X.length) (_hD:D.length≤X.length) (h1:zf3 (zc4 A)=false) (w:World) (hm:Mx w):
    Calls Tryz.prog 92 #[sV X,iT (most)] w fun e w'=>e=.returned (.tuple #[.agg #[.bool false,sN,.bool false,sN],iT 14])∧Gr w w':=by
 have hl:decide (most<((X).length:Int))=false:=by simp;omega
 have hsA:(zc4 (A)).length≤(A).length:=zf5 _
 go_enter Tryz.func92,Tryz.ntmps92
 have hB:=Gr.refl w
 refine wp_seq_k (fun K1 k1=>rg [0,1] ?_)
 refine se ?_
 refine ea 62 #[.bool false,sN,.bool false,sN] 4 hB fun b2 w2 g2 L2 o2 q2 hB=>?_
 simp only [p3,p4]
 refine sv 5 (iT 0) (za0 (k1 _ _ ?_))
 refine wp_seq_k (fun K3 k3=>rg [0,1] (sv 13 (sV X) ?_))
 refine sv 6 (sV X) (za0 (k3 _ _ ?_))
 refine wp_seq_k (fun K4 k4=>rg [0,1,2,3,4,5,6,7,8] (sv 15 (sV X) ?_))
 refine se ?_
 refine ec 16 (zp3 (X) (A) (D) (by omega) hc (hm.gr hB)) ?_
 rintro e5 w5 ⟨rfl,g5⟩
 refine ⟨_,rfl,?_⟩
 replace hB:=hB.trans g5
 simp only [p3,p4]
 refine sv 14 (.tuple #[sV A,sV D,.bool true]) ?_
 refine sv 17 (sV A) ?_
 refine sv 18 (sV D) ?_
 refine sv 19 (.bool true) ?_
 refine sv 7 (sV A) ?_
 refine sv 8 (sV D) ?_
 refine sv 9 (.bool true) (za0 (k4 _ _ ?_))
 refine wp_seq_k (fun K6 k6=>?_)
 refine wp_block ?_
 refine wp_seq_k (fun K7 k7=>rg [0,1,2,3,4] (sv 21 (sV X) ?_))
 refine sv 22 (iT ((X).length:Int)) ?_
 refine sv 23 (iT (most)) ?_
 refine sw 24 (.bool false) rfl (RunV.bool (x:=decide (most<((X).length:Int))) (rvk (by kernel_rfl)) hl) ?_
 refine sv 20 (.bool false) (za0 (k7 _ _ ?_))
 refine wp_cond_false rfl ?_
 refine wp_seq_k (fun K8 k8=>rg [0,1,2,3,4,5,6,7,8,9,10,11,12] (sv 27 (sV A) ?_))
 refine se ?_
 refine ec 28 (zd5 (A) _) ?_
 rintro e9 w9 ⟨rfl,g9⟩
 refine ⟨_,rfl,?_⟩
 replace hB:=hB.trans g9
 simp only [p3,p4]
 refine se ?_
 refine ec 29 (zd8 (zc4 (A)) (by omega) _) ?_
 rintro af ah ⟨rfl,aa⟩
 refine ⟨_,rfl,?_⟩
 replace hB:=hB.trans aa
 simp only [p3,p4]
 refine sw 30 (.bool true) rfl (RunV.bool (x:=!(zf3 (zc4 (A)))) (rvk (by kernel_rfl)) (show (!(zf3 (zc4 (A))))=true by rw [h1];rfl)) ?_
 refine sv 31 (.bool true) ?_
 refine ss 32 ?_
 refine ss 33 ?_
 refine ss 34 ?_
 refine ss 35 ?_
 refine ss 36 ?_
 refine ss 37 ?_
 refine sv 38 (.bool true) ?_
 refine sv 26 (.bool true) (za0 (k8 _ _ ?_))
 refine wp_cond_true rfl ?_
 refine wp_seq_k (fun aj ac=>rg [0,1,2] (sv 39 (.agg #[.bool false,sN,.bool false,sN]) ?_))
 refine se ?_
 replace L2:=L2.gr (g5.trans (g9.trans aa))
 refine es 62 0 (.agg #[.bool false,sN,.bool false,sN]) [.bool false,sN,.bool false,sN] #[.bool false,sN,.bool false,sN] L2 hB q2 ⟨rfl,rfl,rfl,rfl,trivial⟩ fun ai ae ad L2 hB=>?_
 refine sv 5 (iT 14) (za0 (ac _ _ ?_))
 refine wp_ret ?_
 simp only [Exit.then,Exit.inBlock]
 refine bodyPost_ret (v:=(.tuple #[.agg #[.bool false,sN,.bool false,sN],iT 14])) (zb5 _ _ _ rfl rfl L2 (by kernel_rfl) rfl) rfl ⟨?_,hB⟩
 exact rfl

theorem read_fs2 (X A D:List UInt8) (most:Int) (_hx:X.length≤14000) (_hlong:(X.length:Int)≤most) (hc:zh3 X=(A,some D)) (_hA:(A).length≤X.length) (_hD:D.length≤X.length) (h1:zf3 (zc4 A)=true) (h2:zf3 D=false) (w:World) (hm:Mx w):
    Calls Tryz.prog 92 #[sV X,iT (most)] w fun e w'=>e=.returned (.tuple #[.agg #[.bool false,sN,.bool false,sN],iT 14])∧Gr w w':=by
 have hl:decide (most<((X).length:Int))=false:=by simp;omega
 have hsA:(zc4 (A)).length≤(A).length:=zf5 _
 go_enter Tryz.func92,Tryz.ntmps92
 have hB:=Gr.refl w
 refine wp_seq_k (fun K1 k1=>rg [0,1] ?_)
 refine se ?_
 refine ea 62 #[.bool false,sN,.bool false,sN] 4 hB fun b2 w2 g2 L2 o2 q2 hB=>?_
 simp only [p3,p4]
 refine sv 5 (iT 0) (za0 (k1 _ _ ?_))
 refine wp_seq_k (fun K3 k3=>rg [0,1] (sv 13 (sV X) ?_))
 refine sv 6 (sV X) (za0 (k3 _ _ ?_))
 refine wp_seq_k (fun K4 k4=>rg [0,1,2,3,4,5,6,7,8] (sv 15 (sV X) ?_))
 refine se ?_
 refine ec 16 (zp3 (X) (A) (D) (by omega) hc (hm.gr hB)) ?_
 rintro e5 w5 ⟨rfl,g5⟩
 refine ⟨_,rfl,?_⟩
 replace hB:=hB.trans g5
 simp only [p3,p4]
 refine sv 14 (.tuple #[sV A,sV D,.bool true]) ?_
 refine sv 17 (sV A) ?_
 refine sv 18 (sV D) ?_
 refine sv 19 (.bool true) ?_
 refine sv 7 (sV A) ?_
 refine sv 8 (sV D) ?_
 refine sv 9 (.bool true) (za0 (k4 _ _ ?_))
 refine wp_seq_k (fun K6 k6=>?_)
 refine wp_block ?_
 refine wp_seq_k (fun K7 k7=>rg [0,1,2,3,4] (sv 21 (sV X) ?_))
 refine sv 22 (iT ((X).length:Int)) ?_
 refine sv 23 (iT (most)) ?_
 refine sw 24 (.bool false) rfl (RunV.bool (x:=decide (most<((X).length:Int))) (rvk (by kernel_rfl)) hl) ?_
 refine sv 20 (.bool false) (za0 (k7 _ _ ?_))
 refine wp_cond_false rfl ?_
 refine wp_seq_k (fun K8 k8=>rg [0,1,2,3,4,5,6,7,8,9,10,11,12] (sv 27 (sV A) ?_))
 refine se ?_
 refine ec 28 (zd5 (A) _) ?_
 rintro e9 w9 ⟨rfl,g9⟩
 refine ⟨_,rfl,?_⟩
 replace hB:=hB.trans g9
 simp only [p3,p4]
 refine se ?_
 refine ec 29 (zd8 (zc4 (A)) (by omega) _) ?_
 rintro ai aj ⟨rfl,aa⟩
 refine ⟨_,rfl,?_⟩
 replace hB:=hB.trans aa
 simp only [p3,p4]
 refine sw 30 (.bool false) rfl (RunV.bool (x:=!(zf3 (zc4 (A)))) (rvk (by kernel_rfl)) (show (!(zf3 (zc4 (A))))=false by rw [h1];rfl)) ?_
 refine sv 31 (.bool false) ?_
 refine sv 32 (.bool true) ?_
 refine sv 33 (.bool true) ?_
 refine sv 34 (sV D) ?_
 refine se ?_
 refine ec 35 (zd8 (D) (by omega) _) ?_
 rintro ah al ⟨rfl,ac⟩
 refine ⟨_,rfl,?_⟩
 replace hB:=hB.trans ac
 simp only [p3,p4]
 refine sw 36 (.bool true) rfl (RunV.bool (x:=!(zf3 (D))) (rvk (by kernel_rfl)) (show (!(zf3 (D)))=true by rw [h2];rfl)) ?_
 refine sv 37 (.bool true) ?_
 refine sv 38 (.bool true) ?_
 refine sv 26 (.bool true) (za0 (k8 _ _ ?_))
 refine wp_cond_true rfl ?_
 refine wp_seq_k (fun ak ad=>rg [0,1,2] (sv 39 (.agg #[.bool false,sN,.bool false,sN]) ?_))
 refine se ?_
 replace L2:=L2.gr (g5.trans (g9.trans (aa.trans ac)))
 refine es 62 0 (.agg #[.bool false,sN,.bool false,sN]) [.bool false,sN,.bool false,sN] #[.bool false,sN,.bool false,sN] L2 hB q2 ⟨rfl,rfl,rfl,rfl,trivial⟩ fun ap af ae L2 hB=>?_
 refine sv 5 (iT 14) (za0 (ad _ _ ?_))
 refine wp_ret ?_
 simp only [Exit.then,Exit.inBlock]
 refine bodyPost_ret (v:=(.tuple #[.agg #[.bool false,sN,.bool false,sN],iT 14])) (zb5 _ _ _ rfl rfl L2 (by kernel_rfl) rfl) rfl ⟨?_,hB⟩
 exact rfl

theorem read_fz (X A D:List UInt8) (most:Int) (_hx:X.length≤14000) (_hlong:(X.length:Int)≤most) (hc:zh3 X=(A,some D)) (_hA:(A).length≤X.length) (_hD:D.length≤X.length) (h1:zf3 (zc4 A)=true) (h2:zf3 D=true) (h3:zl1 D=true) (w:World) (hm:Mx w):
    Calls Tryz.prog 92 #[sV X,iT (most)] w fun e w'=>e=.returned (.tuple #[.agg #[.bool false,sN,.bool false,sN],iT 19])∧Gr w w':=by
 have hl:decide (most<((X).length:Int))=false:=by simp;omega
 have hsA:(zc4 (A)).length≤(A).length:=zf5 _
 have h4:((Lib.trimS (D) [48])==([]:List UInt8))=true:=by rw [← zk0];exact h3
 go_enter Tryz.func92,Tryz.ntmps92
 have hB:=Gr.refl w
 refine wp_seq_k (fun K1 k1=>rg [0,1] ?_)
 refine se ?_
 refine ea 62 #[.bool false,sN,.bool false,sN] 4 hB fun b2 w2 g2 L2 o2 q2 hB=>?_
 simp only [p3,p4]
 refine sv 5 (iT 0) (za0 (k1 _ _ ?_))
 refine wp_seq_k (fun K3 k3=>rg [0,1] (sv 13 (sV X) ?_))
 refine sv 6 (sV X) (za0 (k3 _ _ ?_))
 refine wp_seq_k (fun K4 k4=>rg [0,1,2,3,4,5,6,7,8] (sv 15 (sV X) ?_))
 refine se ?_
 refine ec 16 (zp3 (X) (A) (D) (by omega) hc (hm.gr hB)) ?_
 rintro e5 w5 ⟨rfl,g5⟩
 refine ⟨_,rfl,?_⟩
 replace hB:=hB.trans g5
 simp only [p3,p4]
 refine sv 14 (.tuple #[sV A,sV D,.bool true]) ?_
 refine sv 17 (sV A) ?_
 refine sv 18 (sV D) ?_
 refine sv 19 (.bool true) ?_
 refine sv 7 (sV A) ?_
 refine sv 8 (sV D) ?_
 refine sv 9 (.bool true) (za0 (k4 _ _ ?_))
 refine wp_seq_k (fun K6 k6=>?_)
 refine wp_block ?_
 refine wp_seq_k (fun K7 k7=>rg [0,1,2,3,4] (sv 21 (sV X) ?_))
 refine sv 22 (iT ((X).length:Int)) ?_
 refine sv 23 (iT (most)) ?_
 refine sw 24 (.bool false) rfl (RunV.bool (x:=decide (most<((X).length:Int))) (rvk (by kernel_rfl)) hl) ?_
 refine sv 20 (.bool false) (za0 (k7 _ _ ?_))
 refine wp_cond_false rfl ?_
 refine wp_seq_k (fun K8 k8=>rg [0,1,2,3,4,5,6,7,8,9,10,11,12] (sv 27 (sV A) ?_))
 refine se ?_
 refine ec 28 (zd5 (A) _) ?_
 rintro e9 w9 ⟨rfl,g9⟩
 refine ⟨_,rfl,?_⟩
 replace hB:=hB.trans g9
 simp only [p3,p4]
 refine se ?_
 refine ec 29 (zd8 (zc4 (A)) (by omega) _) ?_
 rintro ak al ⟨rfl,ac⟩
 refine ⟨_,rfl,?_⟩
 replace hB:=hB.trans ac
 simp only [p3,p4]
 refine sw 30 (.bool false) rfl (RunV.bool (x:=!(zf3 (zc4 (A)))) (rvk (by kernel_rfl)) (show (!(zf3 (zc4 (A))))=false by rw [h1];rfl)) ?_
 refine sv 31 (.bool false) ?_
 refine sv 32 (.bool true) ?_
 refine sv 33 (.bool true) ?_
 refine sv 34 (sV D) ?_
 refine se ?_
 refine ec 35 (zd8 (D) (by omega) _) ?_
 rintro aj au ⟨rfl,ad⟩
 refine ⟨_,rfl,?_⟩
 replace hB:=hB.trans ad
 simp only [p3,p4]
 refine sw 36 (.bool false) rfl (RunV.bool (x:=!(zf3 (D))) (rvk (by kernel_rfl)) (show (!(zf3 (D)))=false by rw [h2];rfl)) ?_
 refine sv 37 (.bool false) ?_
 refine sv 38 (.bool false) ?_
 refine sv 26 (.bool false) (za0 (k8 _ _ ?_))
 refine wp_cond_false rfl ?_
 refine wp_seq_k (fun ap ae=>rg [0,1,2,3,4,5,6] (sv 41 (.bool true) ?_))
 refine sv 42 (.bool true) ?_
 refine sv 43 (sV D) ?_
 refine se ?_
 refine ec 44 (zm6 (D) (by omega) _) ?_
 rintro av aw ⟨rfl,aa⟩
 refine ⟨_,rfl,?_⟩
 replace hB:=hB.trans aa
 simp only [p3,p4]
 refine sw 45 (.bool true) rfl (RunV.bool (x:=((Lib.trimS (D) [48])==([]:List UInt8))) (zi9 9 9 _ _ (Lib.trimS (D) [48]) ([]) rfl rfl rfl) h4) ?_
 refine sv 46 (.bool true) ?_
 refine sv 40 (.bool true) (za0 (ae _ _ ?_))
 refine wp_cond_true rfl ?_
 refine wp_seq_k (fun aq af=>rg [0,1,2] (sv 47 (.agg #[.bool false,sN,.bool false,sN]) ?_))
 refine se ?_
 replace L2:=L2.gr (g5.trans (g9.trans (ac.trans (ad.trans aa))))
 refine es 62 0 (.agg #[.bool false,sN,.bool false,sN]) [.bool false,sN,.bool false,sN] #[.bool false,sN,.bool false,sN] L2 hB q2 ⟨rfl,rfl,rfl,rfl,trivial⟩ fun ar ah ai L2 hB=>?_
 refine sv 5 (iT 19) (za0 (af _ _ ?_))
 refine wp_ret ?_
 simp only [Exit.then,Exit.inBlock]
 refine bodyPost_ret (v:=(.tuple #[.agg #[.bool false,sN,.bool false,sN],iT 19])) (zb5 _ _ _ rfl rfl L2 (by kernel_rfl) rfl) rfl ⟨?_,hB⟩
 exact rfl

theorem read_fb1 (X A D:List UInt8) (most:Int) (_hx:X.length≤14000) (_hlong:(X.length:Int)≤most) (hc:zh3 X=(A,some D)) (_hA:(A).length≤X.length) (_hD:D.length≤X.length) (h1:zf3 (zc4 A)=true) (h2:zf3 D=true) (h3:zl1 D=false) (h5:zD2 A=true) (w:World) (hm:Mx w):
    Calls Tryz.prog 92 #[sV X,iT (most)] w fun e w'=>e=.returned (.tuple #[.agg #[.bool false,sN,.bool false,sN],iT 3])∧Gr w w':=by
 have hl:decide (most<((X).length:Int))=false:=by simp;omega
 have hsA:(zc4 (A)).length≤(A).length:=zf5 _
 have h4:((Lib.trimS (D) [48])==([]:List UInt8))=false:=by rw [← zk0];exact h3
 go_enter Tryz.func92,Tryz.ntmps92
 have hB:=Gr.refl w
 refine wp_seq_k (fun K1 k1=>rg [0,1] ?_)
 refine se ?_
 refine ea 62 #[.bool false,sN,.bool false,sN] 4 hB fun b2 w2 g2 L2 o2 q2 hB=>?_
 simp only [p3,p4]
 refine sv 5 (iT 0) (za0 (k1 _ _ ?_))
 refine wp_seq_k (fun K3 k3=>rg [0,1] (sv 13 (sV X) ?_))
 refine sv 6 (sV X) (za0 (k3 _ _ ?_))
 refine wp_seq_k (fun K4 k4=>rg [0,1,2,3,4,5,6,7,8] (sv 15 (sV X) ?_))
 refine se ?_
 refine ec 16 (zp3 (X) (A) (D) (by omega) hc (hm.gr hB)) ?_
 rintro e5 w5 ⟨rfl,g5⟩
 refine ⟨_,rfl,?_⟩
 replace hB:=hB.trans g5
 simp only [p3,p4]
 refine sv 14 (.tuple #[sV A,sV D,.bool true]) ?_
 refine sv 17 (sV A) ?_
 refine sv 18 (sV D) ?_
 refine sv 19 (.bool true) ?_
 refine sv 7 (sV A) ?_
 refine sv 8 (sV D) ?_
 refine sv 9 (.bool true) (za0 (k4 _ _ ?_))
 refine wp_seq_k (fun K6 k6=>?_)
 refine wp_block ?_
 refine wp_seq_k (fun K7 k7=>rg [0,1,2,3,4] (sv 21 (sV X) ?_))
 refine sv 22 (iT ((X).length:Int)) ?_
 refine sv 23 (iT (most)) ?_
 refine sw 24 (.bool false) rfl (RunV.bool (x:=decide (most<((X).length:Int))) (rvk (by kernel_rfl)) hl) ?_
 refine sv 20 (.bool false) (za0 (k7 _ _ ?_))
 refine wp_cond_false rfl ?_
 refine wp_seq_k (fun K8 k8=>rg [0,1,2,3,4,5,6,7,8,9,10,11,12] (sv 27 (sV A) ?_))
 refine se ?_
 refine ec 28 (zd5 (A) _) ?_
 rintro e9 w9 ⟨rfl,g9⟩
 refine ⟨_,rfl,?_⟩
 replace hB:=hB.trans g9
 simp only [p3,p4]
 refine se ?_
 refine ec 29 (zd8 (zc4 (A)) (by omega) _) ?_
 rintro aN aO ⟨rfl,ae⟩
 refine ⟨_,rfl,?_⟩
 replace hB:=hB.trans ae
 simp only [p3,p4]
 refine sw 30 (.bool false) rfl (RunV.bool (x:=!(zf3 (zc4 (A)))) (rvk (by kernel_rfl)) (show (!(zf3 (zc4 (A))))=false by rw [h1];rfl)) ?_
 refine sv 31 (.bool false) ?_
 refine sv 32 (.bool true) ?_
 refine sv 33 (.bool true) ?_
 refine sv 34 (sV D) ?_
 refine se ?_
 refine ec 35 (zd8 (D) (by omega) _) ?_
 rintro ay aF ⟨rfl,ai⟩
 refine ⟨_,rfl,?_⟩
 replace hB:=hB.trans ai
 simp only [p3,p4]
 refine sw 36 (.bool false) rfl (RunV.bool (x:=!(zf3 (D))) (rvk (by kernel_rfl)) (show (!(zf3 (D)))=false by rw [h2];rfl)) ?_
 refine sv 37 (.bool false) ?_
 refine sv 38 (.bool false) ?_
 refine sv 26 (.bool false) (za0 (k8 _ _ ?_))
 refine wp_cond_false rfl ?_
 refine wp_seq_k (fun aA aq=>rg [0,1,2,3,4,5,6] (sv 41 (.bool true) ?_))
 refine sv 42 (.bool true) ?_
 refine sv 43 (sV D) ?_
 refine se ?_
 refine ec 44 (zm6 (D) (by omega) _) ?_
 rintro aG aK ⟨rfl,ad⟩
 refine ⟨_,rfl,?_⟩
 replace hB:=hB.trans ad
 simp only [p3,p4]
 refine sw 45 (.bool false) rfl (RunV.bool (x:=((Lib.trimS (D) [48])==([]:List UInt8))) (zi9 9 9 _ _ (Lib.trimS (D) [48]) ([]) rfl rfl rfl) h4) ?_
 refine sv 46 (.bool false) ?_
 refine sv 40 (.bool false) (za0 (aq _ _ ?_))
 refine wp_cond_false rfl ?_
 refine wp_skip ?_
 refine k6 _ _ ?_
 refine wp_seq_k (fun aD ar=>rg [0,1,2,3,4,5,6,7] (sv 49 (sV A) ?_))
 refine se ?_
 refine ec 50 (zx8 (A) (by omega) h1 h5 _) ?_
 rintro az aJ ⟨rfl,af⟩
 refine ⟨_,rfl,?_⟩
 replace hB:=hB.trans af
 simp only [p3,p4]
 refine sv 48 (.tuple #[.agg #[.bool false,sN],iT 3]) ?_
 refine sv 51 (.agg #[.bool false,sN]) ?_
 refine sv 52 (iT 3) ?_
 refine se ?_
 refine ea 60 #[.bool false,sN] 10 hB fun aC aP aw ah ak al hB=>?_
 replace L2:=L2.gr (g5.trans (g9.trans (ae.trans (ai.trans (ad.trans af)))))
 have aa:=L2.ne ak
 simp only [p3,p4]
 refine se ?_
 refine es 60 0 (.agg #[.bool false,sN]) [.bool false,sN] #[.bool false,sN] ah hB al ⟨rfl,rfl,trivial⟩ fun aH ac ap ah hB=>?_
 refine sv 11 (iT 3) (za0 (ar _ _ ?_))
 refine wp_seq_k (fun aI aE=>wp_seq_k (fun aB au=>rg [0,1] (sv 53 (iT 3) ?_)))
 refine sv 54 (.bool true) (za0 (au _ _ ?_))
 refine wp_cond_true rfl ?_
 refine wp_seq_k (fun aM aj=>rg [0,1,2] (sv 55 (.agg #[.bool false,sN,.bool false,sN]) ?_))
 refine se ?_
 replace L2:=ac.lc (L2.gr aw) aa
 refine es 62 0 (.agg #[.bool false,sN,.bool false,sN]) [.bool false,sN,.bool false,sN] #[.bool false,sN,.bool false,sN] L2 hB q2 ⟨rfl,rfl,rfl,rfl,trivial⟩ fun aL av ax L2 hB=>?_
 refine sv 5 (iT 3) (za0 (aj _ _ ?_))
 refine wp_ret ?_
 simp only [Exit.then]
 refine bodyPost_ret (v:=(.tuple #[.agg #[.bool false,sN,.bool false,sN],iT 3])) (zb5 _ _ _ rfl rfl L2 (by kernel_rfl) rfl) rfl ⟨?_,hB⟩
 exact rfl

theorem read_fb2 (X D:List UInt8) (z:Int) (most:Int) (_hx:X.length≤14000) (_hlong:(X.length:Int)≤most) (hc:zh3 X=(Lib.itoa (z),some D)) (_hA:(Lib.itoa (z)).length≤X.length) (_hD:D.length≤X.length) (h2:zf3 D=true) (aF:zf3 (zc4 D)=true) (h3:zl1 D=false) (h5:zD2 D=true) (w:World) (hm:Mx w):
    Calls Tryz.prog 92 #[sV X,iT (most)] w fun e w'=>e=.returned (.tuple #[.agg #[.bool false,sN,.bool false,sN],iT 3])∧Gr w w':=by
 have hl:decide (most<((X).length:Int))=false:=by simp;omega
 have hsA:(zc4 (Lib.itoa (z))).length≤(Lib.itoa (z)).length:=zf5 _
 have h1:zf3 (zc4 (Lib.itoa (z)))=true:=by rw [zi3];exact zp5 _
 have h4:((Lib.trimS (D) [48])==([]:List UInt8))=false:=by rw [← zk0];exact h3
 go_enter Tryz.func92,Tryz.ntmps92
 have hB:=Gr.refl w
 refine wp_seq_k (fun K1 k1=>rg [0,1] ?_)
 refine se ?_
 refine ea 62 #[.bool false,sN,.bool false,sN] 4 hB fun b2 w2 g2 L2 o2 q2 hB=>?_
 simp only [p3,p4]
 refine sv 5 (iT 0) (za0 (k1 _ _ ?_))
 refine wp_seq_k (fun K3 k3=>rg [0,1] (sv 13 (sV X) ?_))
 refine sv 6 (sV X) (za0 (k3 _ _ ?_))
 refine wp_seq_k (fun K4 k4=>rg [0,1,2,3,4,5,6,7,8] (sv 15 (sV X) ?_))
 refine se ?_
 refine ec 16 (zp3 (X) (Lib.itoa (z)) (D) (by omega) hc (hm.gr hB)) ?_
 rintro e5 w5 ⟨rfl,g5⟩
 refine ⟨_,rfl,?_⟩
 replace hB:=hB.trans g5
 simp only [p3,p4]
 refine sv 14 (.tuple #[sV (Lib.itoa (z)),sV D,.bool true]) ?_
 refine sv 17 (sV (Lib.itoa (z))) ?_
 refine sv 18 (sV D) ?_
 refine sv 19 (.bool true) ?_
 refine sv 7 (sV (Lib.itoa (z))) ?_
 refine sv 8 (sV D) ?_
 refine sv 9 (.bool true) (za0 (k4 _ _ ?_))
 refine wp_seq_k (fun K6 k6=>?_)
 refine wp_block ?_
 refine wp_seq_k (fun K7 k7=>rg [0,1,2,3,4] (sv 21 (sV X) ?_))
 refine sv 22 (iT ((X).length:Int)) ?_
 refine sv 23 (iT (most)) ?_
 refine sw 24 (.bool false) rfl (RunV.bool (x:=decide (most<((X).length:Int))) (rvk (by kernel_rfl)) hl) ?_
 refine sv 20 (.bool false) (za0 (k7 _ _ ?_))
 refine wp_cond_false rfl ?_
 refine wp_seq_k (fun K8 k8=>rg [0,1,2,3,4,5,6,7,8,9,10,11,12] (sv 27 (sV (Lib.itoa (z))) ?_))
 refine se ?_
 refine ec 28 (zd5 (Lib.itoa (z)) _) ?_
 rintro e9 w9 ⟨rfl,g9⟩
 refine ⟨_,rfl,?_⟩
 replace hB:=hB.trans g9
 simp only [p3,p4]
 refine se ?_
 refine ec 29 (zd8 (zc4 (Lib.itoa (z))) (by omega) _) ?_
 rintro bi bj ⟨rfl,au⟩
 refine ⟨_,rfl,?_⟩
 replace hB:=hB.trans au
 simp only [p3,p4]
 refine sw 30 (.bool false) rfl (RunV.bool (x:=!(zf3 (zc4 (Lib.itoa (z))))) (rvk (by kernel_rfl)) (show (!(zf3 (zc4 (Lib.itoa (z)))))=false by rw [h1];rfl)) ?_
 refine sv 31 (.bool false) ?_
 refine sv 32 (.bool true) ?_
 refine sv 33 (.bool true) ?_
 refine sv 34 (sV D) ?_
 refine se ?_
 refine ec 35 (zd8 (D) (by omega) _) ?_
 rintro aV a5 ⟨rfl,ay⟩
 refine ⟨_,rfl,?_⟩
 replace hB:=hB.trans ay
 simp only [p3,p4]
 refine sw 36 (.bool false) rfl (RunV.bool (x:=!(zf3 (D))) (rvk (by kernel_rfl)) (show (!(zf3 (D)))=false by rw [h2];rfl)) ?_
 refine sv 37 (.bool false) ?_
 refine sv 38 (.bool false) ?_
 refine sv 26 (.bool false) (za0 (k8 _ _ ?_))
 refine wp_cond_false rfl ?_
 refine wp_seq_k (fun aX aL=>rg [0,1,2,3,4,5,6] (sv 41 (.bool true) ?_))
 refine sv 42 (.bool true) ?_
 refine sv 43 (sV D) ?_
 refine se ?_
 refine ec 44 (zm6 (D) (by omega) _) ?_
 rintro a6 bf ⟨rfl,ar⟩
 refine ⟨_,rfl,?_⟩
 replace hB:=hB.trans ar
 simp only [p3,p4]
 refine sw 45 (.bool false) rfl (RunV.bool (x:=((Lib.trimS (D) [48])==([]:List UInt8))) (zi9 9 9 _ _ (Lib.trimS (D) [48]) ([]) rfl rfl rfl) h4) ?_
 refine sv 46 (.bool false) ?_
 refine sv 40 (.bool false) (za0 (aL _ _ ?_))
 refine wp_cond_false rfl ?_
 refine wp_skip ?_
 refine k6 _ _ ?_
 refine wp_seq_k (fun a4 aN=>rg [0,1,2,3,4,5,6,7] (sv 49 (sV (Lib.itoa (z))) ?_))
 refine se ?_
 refine ec 50 (zm5 (z) (zo1 (z) (m:=14000) (by omega)) (by omega) _) ?_
 rintro aW ba ⟨⟨aj,ai,rfl,aq⟩,ax⟩
 refine ⟨_,rfl,?_⟩
 replace hB:=hB.trans ax
 simp only [p3,p4]
 refine sv 48 (.tuple #[.agg #[aj,ai],iT 0]) ?_
 refine sv 51 (.agg #[aj,ai]) ?_
 refine sv 52 (iT 0) ?_
 refine se ?_
 refine ea 60 #[.bool false,sN] 10 hB fun aG bk aT aa aD aE hB=>?_
 replace L2:=L2.gr (g5.trans (g9.trans (au.trans (ay.trans (ar.trans ax)))))
 have af:=L2.ne aD
 simp only [p3,p4]
 refine se ?_
 refine es 60 0 (.agg #[aj,ai]) [aj,ai] #[aj,ai] aa hB aE ⟨aq.one0,aq.one1,trivial⟩ fun a7 ap aI aa hB=>?_
 refine sv 11 (iT 0) (za0 (aN _ _ ?_))
 refine wp_seq_k (fun a9 aH=>wp_seq_k (fun a1 aQ=>rg [0,1] (sv 53 (iT 0) ?_)))
 refine sv 54 (.bool false) (za0 (aQ _ _ ?_))
 refine wp_cond_false rfl ?_
 refine wp_skip ?_
 refine aH _ _ ?_
 refine wp_seq_k (fun bh aB=>wp_seq_k (fun a3 aK=>rg [0,1] (sv 56 (.bool true) ?_)))
 refine sv 57 (.bool false) (za0 (aK _ _ ?_))
 refine wp_cond_false rfl ?_
 refine wp_skip ?_
 refine aB _ _ ?_
 refine wp_seq_k (fun aZ aR=>rg [0,1,2,3,4,5,6,7] (sv 61 (sV D) ?_))
 refine se ?_
 refine ec 62 (zx8 (D) (by omega) aF h5 _) ?_
 rintro aU bg ⟨rfl,al⟩
 refine ⟨_,rfl,?_⟩
 replace hB:=hB.trans al
 simp only [p3,p4]
 refine sv 60 (.tuple #[.agg #[.bool false,sN],iT 3]) ?_
 refine sv 63 (.agg #[.bool false,sN]) ?_
 refine sv 64 (iT 3) ?_
 refine se ?_
 refine ea 60 #[.bool false,sN] 12 hB fun aA a0 av ac aw aO hB=>?_
 replace L2:=(ap.lc (L2.gr aT) af).gr al
 have ah:=L2.ne aw
 replace aa:=aa.gr al
 have ad:=aa.ne aw
 simp only [p3,p4]
 refine se ?_
 refine es 60 0 (.agg #[.bool false,sN]) [.bool false,sN] #[.bool false,sN] ac hB aO ⟨rfl,rfl,trivial⟩ fun az ak aS ac hB=>?_
 refine sv 11 (iT 3) (za0 (aR _ _ ?_))
 refine wp_seq_k (fun a2 aY=>wp_seq_k (fun a8 aJ=>?_))
 have ae:=Gr.drew az
 replace hB:=hB.trans ae
 replace aa:=(ak.lc (aa.gr av) ad).gr ae
 replace ac:=ac.gr ae
 refine za4 (fun w'=>Lc w' aG #[aj,ai] 60∧Lc w' aA #[.bool false,sN] 60) [(true,0),(true,1),(true,2),(true,3),(false,4),(false,5),(true,6),(true,7),(true,8),(true,9),(true,10),(false,11),(false,12),(false,13),(true,14),(true,15)] (by kernel_rfl) (by kernel_rfl) (by kernel_rfl) (by decide) (fun _ _ _ _ _ h=>h) ⟨aa,ac⟩ ?_
 refine ov 65 (iT 3) ?_
 refine ov 66 (.bool true) ?_
 refine ov 67 (.bool true) ?_
 refine os 68 ?_
 refine oz 69 ⟨aa,ac⟩ ?_
 refine oz 70 ⟨aa,ac⟩ ?_
 refine os 71 ?_
 refine ov 72 (.bool true) ?_
 refine ov 73 (.bool true) ?_
 refine os 74 ?_
 refine os 75 ?_
 refine oz 76 ⟨aa,ac⟩ ?_
 refine oz 77 ⟨aa,ac⟩ ?_
 refine oz 78 ⟨aa,ac⟩ ?_
 refine os 79 ?_
 refine ov 80 (.bool true) ?_
 refine zb4 ?_
 refine aJ _ _ ?_
 refine wp_cond_true rfl ?_
 refine wp_seq_k (fun bl aP=>rg [0,1,2] (sv 81 (.agg #[.bool false,sN,.bool false,sN]) ?_))
 refine se ?_
 replace L2:=(ak.lc (L2.gr av) ah).gr ae
 refine es 62 0 (.agg #[.bool false,sN,.bool false,sN]) [.bool false,sN,.bool false,sN] #[.bool false,sN,.bool false,sN] L2 hB q2 ⟨rfl,rfl,rfl,rfl,trivial⟩ fun bb aM aC L2 hB=>?_
 refine sv 5 (iT 3) (za0 (aP _ _ ?_))
 refine wp_ret ?_
 simp only [Exit.then]
 refine bodyPost_ret (v:=(.tuple #[.agg #[.bool false,sN,.bool false,sN],iT 3])) (zb5 _ _ _ rfl rfl L2 (by kernel_rfl) rfl) rfl ⟨?_,hB⟩
 exact rfl

theorem read_g1 (X:List UInt8) (z d:Int) (most:Int) (_hx:X.length≤14000) (_hlong:(X.length:Int)≤most) (hc:zh3 X=(Lib.itoa (z),some (Lib.itoa (d)))) (_hA:(Lib.itoa (z)).length≤X.length) (_hD:(Lib.itoa (d)).length≤X.length) (h2:zf3 (Lib.itoa d)=true) (h3:zl1 (Lib.itoa d)=false) (h5:d=1) (w:World) (hm:Mx w):
    Calls Tryz.prog 92 #[sV X,iT (most)] w fun e w'=>e=.returned (.tuple #[.agg #[.bool false,sN,.bool false,sN],iT 3])∧Gr w w':=by
 have hl:decide (most<((X).length:Int))=false:=by simp;omega
 have hsA:(zc4 (Lib.itoa (z))).length≤(Lib.itoa (z)).length:=zf5 _
 have h1:zf3 (zc4 (Lib.itoa (z)))=true:=by rw [zi3];exact zp5 _
 have h4:((Lib.trimS (Lib.itoa (d)) [48])==([]:List UInt8))=false:=by rw [← zk0];exact h3
 have h6:(sgn (d - 1)==(0:Int))=true:=by rw [h5];rfl
 go_enter Tryz.func92,Tryz.ntmps92
 have hB:=Gr.refl w
 refine wp_seq_k (fun K1 k1=>rg [0,1] ?_)
 refine se ?_
 refine ea 62 #[.bool false,sN,.bool false,sN] 4 hB fun b2 w2 g2 L2 o2 q2 hB=>?_
 simp only [p3,p4]
 refine sv 5 (iT 0) (za0 (k1 _ _ ?_))
 refine wp_seq_k (fun K3 k3=>rg [0,1] (sv 13 (sV X) ?_))
 refine sv 6 (sV X) (za0 (k3 _ _ ?_))
 refine wp_seq_k (fun K4 k4=>rg [0,1,2,3,4,5,6,7,8] (sv 15 (sV X) ?_))
 refine se ?_
 refine ec 16 (zp3 (X) (Lib.itoa (z)) (Lib.itoa (d)) (by omega) hc (hm.gr hB)) ?_
 rintro e5 w5 ⟨rfl,g5⟩
 refine ⟨_,rfl,?_⟩
 replace hB:=hB.trans g5
 simp only [p3,p4]
 refine sv 14 (.tuple #[sV (Lib.itoa (z)),sV (Lib.itoa (d)),.bool true]) ?_
 refine sv 17 (sV (Lib.itoa (z))) ?_
 refine sv 18 (sV (Lib.itoa (d))) ?_
 refine sv 19 (.bool true) ?_
 refine sv 7 (sV (Lib.itoa (z))) ?_
 refine sv 8 (sV (Lib.itoa (d))) ?_
 refine sv 9 (.bool true) (za0 (k4 _ _ ?_))
 refine wp_seq_k (fun K6 k6=>?_)
 refine wp_block ?_
 refine wp_seq_k (fun K7 k7=>rg [0,1,2,3,4] (sv 21 (sV X) ?_))
 refine sv 22 (iT ((X).length:Int)) ?_
 refine sv 23 (iT (most)) ?_
 refine sw 24 (.bool false) rfl (RunV.bool (x:=decide (most<((X).length:Int))) (rvk (by kernel_rfl)) hl) ?_
 refine sv 20 (.bool false) (za0 (k7 _ _ ?_))
 refine wp_cond_false rfl ?_
 refine wp_seq_k (fun K8 k8=>rg [0,1,2,3,4,5,6,7,8,9,10,11,12] (sv 27 (sV (Lib.itoa (z))) ?_))
 refine se ?_
 refine ec 28 (zd5 (Lib.itoa (z)) _) ?_
 rintro e9 w9 ⟨rfl,g9⟩
 refine ⟨_,rfl,?_⟩
 replace hB:=hB.trans g9
 simp only [p3,p4]
 refine se ?_
 refine ec 29 (zd8 (zc4 (Lib.itoa (z))) (by omega) _) ?_
 rintro bs bu ⟨rfl,aC⟩
 refine ⟨_,rfl,?_⟩
 replace hB:=hB.trans aC
 simp only [p3,p4]
 refine sw 30 (.bool false) rfl (RunV.bool (x:=!(zf3 (zc4 (Lib.itoa (z))))) (rvk (by kernel_rfl)) (show (!(zf3 (zc4 (Lib.itoa (z)))))=false by rw [h1];rfl)) ?_
 refine sv 31 (.bool false) ?_
 refine sv 32 (.bool true) ?_
 refine sv 33 (.bool true) ?_
 refine sv 34 (sV (Lib.itoa (d))) ?_
 refine se ?_
 refine ec 35 (zd8 (Lib.itoa (d)) (by omega) _) ?_
 rintro a1 bi ⟨rfl,aF⟩
 refine ⟨_,rfl,?_⟩
 replace hB:=hB.trans aF
 simp only [p3,p4]
 refine sw 36 (.bool false) rfl (RunV.bool (x:=!(zf3 (Lib.itoa (d)))) (rvk (by kernel_rfl)) (show (!(zf3 (Lib.itoa (d))))=false by rw [h2];rfl)) ?_
 refine sv 37 (.bool false) ?_
 refine sv 38 (.bool false) ?_
 refine sv 26 (.bool false) (za0 (k8 _ _ ?_))
 refine wp_cond_false rfl ?_
 refine wp_seq_k (fun a3 aU=>rg [0,1,2,3,4,5,6] (sv 41 (.bool true) ?_))
 refine sv 42 (.bool true) ?_
 refine sv 43 (sV (Lib.itoa (d))) ?_
 refine se ?_
 refine ec 44 (zm6 (Lib.itoa (d)) (by omega) _) ?_
 rintro bj bo ⟨rfl,aB⟩
 refine ⟨_,rfl,?_⟩
 replace hB:=hB.trans aB
 simp only [p3,p4]
 refine sw 45 (.bool false) rfl (RunV.bool (x:=((Lib.trimS (Lib.itoa (d)) [48])==([]:List UInt8))) (zi9 9 9 _ _ (Lib.trimS (Lib.itoa (d)) [48]) ([]) rfl rfl rfl) h4) ?_
 refine sv 46 (.bool false) ?_
 refine sv 40 (.bool false) (za0 (aU _ _ ?_))
 refine wp_cond_false rfl ?_
 refine wp_skip ?_
 refine k6 _ _ ?_
 refine wp_seq_k (fun bb aV=>rg [0,1,2,3,4,5,6,7] (sv 49 (sV (Lib.itoa (z))) ?_))
 refine se ?_
 refine ec 50 (zm5 (z) (zo1 (z) (m:=14000) (by omega)) (by omega) _) ?_
 rintro a2 bn ⟨⟨al,ak,rfl,aA⟩,aE⟩
 refine ⟨_,rfl,?_⟩
 replace hB:=hB.trans aE
 simp only [p3,p4]
 refine sv 48 (.tuple #[.agg #[al,ak],iT 0]) ?_
 refine sv 51 (.agg #[al,ak]) ?_
 refine sv 52 (iT 0) ?_
 refine se ?_
 refine ea 60 #[.bool false,sN] 10 hB fun aP bv aZ aa aL aO hB=>?_
 replace L2:=L2.gr (g5.trans (g9.trans (aC.trans (aF.trans (aB.trans aE)))))
 have ai:=L2.ne aL
 simp only [p3,p4]
 refine se ?_
 refine es 60 0 (.agg #[al,ak]) [al,ak] #[al,ak] aa hB aO ⟨aA.one0,aA.one1,trivial⟩ fun bk aw aR aa hB=>?_
 refine sv 11 (iT 0) (za0 (aV _ _ ?_))
 refine wp_seq_k (fun bm aQ=>wp_seq_k (fun a8 aX=>rg [0,1] (sv 53 (iT 0) ?_)))
 refine sv 54 (.bool false) (za0 (aX _ _ ?_))
 refine wp_cond_false rfl ?_
 refine wp_skip ?_
 refine aQ _ _ ?_
 refine wp_seq_k (fun br aK=>wp_seq_k (fun ba aT=>rg [0,1] (sv 56 (.bool true) ?_)))
 refine sv 57 (.bool false) (za0 (aT _ _ ?_))
 refine wp_cond_false rfl ?_
 refine wp_skip ?_
 refine aK _ _ ?_
 refine wp_seq_k (fun a5 aY=>rg [0,1,2,3,4,5,6,7] (sv 61 (sV (Lib.itoa (d))) ?_))
 refine se ?_
 refine ec 62 (zm5 (d) (zo1 (d) (m:=14000) (by omega)) (by omega) _) ?_
 rintro a0 bq ⟨⟨ah,af,rfl,ar⟩,av⟩
 refine ⟨_,rfl,?_⟩
 replace hB:=hB.trans av
 simp only [p3,p4]
 refine sv 60 (.tuple #[.agg #[ah,af],iT 0]) ?_
 refine sv 63 (.agg #[ah,af]) ?_
 refine sv 64 (iT 0) ?_
 refine se ?_
 refine ea 60 #[.bool false,sN] 12 hB fun aH a7 ax ac aD aW hB=>?_
 replace L2:=(aw.lc (L2.gr aZ) ai).gr av
 have aj:=L2.ne aD
 replace aa:=aa.gr av
 have ae:=aa.ne aD
 simp only [p3,p4]
 refine se ?_
 refine es 60 0 (.agg #[ah,af]) [ah,af] #[ah,af] ac hB aW ⟨ar.one0,ar.one1,trivial⟩ fun aG aq az ac hB=>?_
 refine sv 11 (iT 0) (za0 (aY _ _ ?_))
 refine wp_seq_k (fun a9 a4=>wp_seq_k (fun bl aS=>?_))
 have ad:=Gr.drew aG
 replace hB:=hB.trans ad
 replace aa:=(aq.lc (aa.gr ax) ae).gr ad
 replace ac:=ac.gr ad
 refine za4 (fun w'=>Lc w' aP #[al,ak] 60∧Lc w' aH #[ah,af] 60) [(true,0),(true,1),(true,2),(true,3),(false,4),(false,5),(true,6),(true,7),(true,8),(true,9),(true,10),(false,11),(false,12),(false,13),(true,14),(true,15)] (by kernel_rfl) (by kernel_rfl) (by kernel_rfl) (by decide) (fun _ _ _ _ _ h=>h) ⟨aa,ac⟩ ?_
 refine ov 65 (iT 0) ?_
 refine ov 66 (.bool false) ?_
 refine ov 67 (.bool false) ?_
 refine ow 68 (.agg #[ah,af]) rfl (fun w' hS=>(rl 60 0 [ah,af] hS.2)) ?_
 refine oe ?_
 refine ec 69 (zA8 _) ?_
 rintro bw bf ⟨⟨bp,bg,rfl,aI⟩,ap⟩
 refine ⟨_,rfl,?_⟩
 replace hB:=hB.trans ap
 replace aa:=aa.gr ap
 replace ac:=ac.gr ap
 refine ⟨⟨aa,ac⟩,?_⟩
 simp only [p3,p4]
 refine oe ?_
 have ay:=ax.kp.trans (az.trans (ad.kp.trans ap.kp))
 replace ar:=ar.kp ay
 refine ec 70 (zf1 ar aI (by omega) (by omega)) ?_
 rintro a6 bA ⟨rfl,au⟩
 refine ⟨_,rfl,?_⟩
 replace hB:=hB.trans au
 replace aa:=aa.gr au
 replace ac:=ac.gr au
 refine ⟨⟨aa,ac⟩,?_⟩
 simp only [p3,p4]
 refine ow 71 (.bool true) rfl (fun w' hS=>(RunV.bool (x:=(sgn (d - 1)==(0:Int))) (rvk (by kernel_rfl)) h6)) ?_
 refine ov 72 (.bool true) ?_
 refine ov 73 (.bool true) ?_
 refine os 74 ?_
 refine os 75 ?_
 refine oz 76 ⟨aa,ac⟩ ?_
 refine oz 77 ⟨aa,ac⟩ ?_
 refine oz 78 ⟨aa,ac⟩ ?_
 refine os 79 ?_
 refine ov 80 (.bool true) ?_
 refine zb4 ?_
 refine aS _ _ ?_
 refine wp_cond_true rfl ?_
 refine wp_seq_k (fun bt aM=>rg [0,1,2] (sv 81 (.agg #[.bool false,sN,.bool false,sN]) ?_))
 refine se ?_
 replace L2:=(aq.lc (L2.gr ax) aj).gr (ad.trans (ap.trans au))
 refine es 62 0 (.agg #[.bool false,sN,.bool false,sN]) [.bool false,sN,.bool false,sN] #[.bool false,sN,.bool false,sN] L2 hB q2 ⟨rfl,rfl,rfl,rfl,trivial⟩ fun bh aJ aN L2 hB=>?_
 refine sv 5 (iT 3) (za0 (aM _ _ ?_))
 refine wp_ret ?_
 simp only [Exit.then]
 refine bodyPost_ret (v:=(.tuple #[.agg #[.bool false,sN,.bool false,sN],iT 3])) (zb5 _ _ _ rfl rfl L2 (by kernel_rfl) rfl) rfl ⟨?_,hB⟩
 exact rfl

theorem read_g2 (X:List UInt8) (z d:Int) (most:Int) (_hx:X.length≤14000) (_hlong:(X.length:Int)≤most) (hc:zh3 X=(Lib.itoa (z),some (Lib.itoa (d)))) (_hA:(Lib.itoa (z)).length≤X.length) (_hD:(Lib.itoa (d)).length≤X.length) (h2:zf3 (Lib.itoa d)=true) (h3:zl1 (Lib.itoa d)=false) (h5:d≠1) (h7:Int.gcd z d≠1) (w:World) (hm:Mx w):
    Calls Tryz.prog 92 #[sV X,iT (most)] w fun e w'=>e=.returned (.tuple #[.agg #[.bool false,sN,.bool false,sN],iT 3])∧Gr w w':=by
 have hl:decide (most<((X).length:Int))=false:=by simp;omega
 have hsA:(zc4 (Lib.itoa (z))).length≤(Lib.itoa (z)).length:=zf5 _
 have h1:zf3 (zc4 (Lib.itoa (z)))=true:=by rw [zi3];exact zp5 _
 have h4:((Lib.trimS (Lib.itoa (d)) [48])==([]:List UInt8))=false:=by rw [← zk0];exact h3
 have h6:(sgn (d - 1)==(0:Int))=false:=by rw [beq_eq_false_iff_ne];exact fun e=>h5 (by have:=zf2.1 e;omega)
 have h8:(sgn ((Int.gcd (z) (d):Int) - 1) !=(0:Int))=true:=by rw [bne_iff_ne];exact fun e=>h7 (by have:=zf2.1 e;omega)
 go_enter Tryz.func92,Tryz.ntmps92
 have hB:=Gr.refl w
 refine wp_seq_k (fun K1 k1=>rg [0,1] ?_)
 refine se ?_
 refine ea 62 #[.bool false,sN,.bool false,sN] 4 hB fun b2 w2 g2 L2 o2 q2 hB=>?_
 simp only [p3,p4]
 refine sv 5 (iT 0) (za0 (k1 _ _ ?_))
 refine wp_seq_k (fun K3 k3=>rg [0,1] (sv 13 (sV X) ?_))
 refine sv 6 (sV X) (za0 (k3 _ _ ?_))
 refine wp_seq_k (fun K4 k4=>rg [0,1,2,3,4,5,6,7,8] (sv 15 (sV X) ?_))
 refine se ?_
 refine ec 16 (zp3 (X) (Lib.itoa (z)) (Lib.itoa (d)) (by omega) hc (hm.gr hB)) ?_
 rintro e5 w5 ⟨rfl,g5⟩
 refine ⟨_,rfl,?_⟩
 replace hB:=hB.trans g5
 simp only [p3,p4]
 refine sv 14 (.tuple #[sV (Lib.itoa (z)),sV (Lib.itoa (d)),.bool true]) ?_
 refine sv 17 (sV (Lib.itoa (z))) ?_
 refine sv 18 (sV (Lib.itoa (d))) ?_
 refine sv 19 (.bool true) ?_
 refine sv 7 (sV (Lib.itoa (z))) ?_
 refine sv 8 (sV (Lib.itoa (d))) ?_
 refine sv 9 (.bool true) (za0 (k4 _ _ ?_))
 refine wp_seq_k (fun K6 k6=>?_)
 refine wp_block ?_
 refine wp_seq_k (fun K7 k7=>rg [0,1,2,3,4] (sv 21 (sV X) ?_))
 refine sv 22 (iT ((X).length:Int)) ?_
 refine sv 23 (iT (most)) ?_
 refine sw 24 (.bool false) rfl (RunV.bool (x:=decide (most<((X).length:Int))) (rvk (by kernel_rfl)) hl) ?_
 refine sv 20 (.bool false) (za0 (k7 _ _ ?_))
 refine wp_cond_false rfl ?_
 refine wp_seq_k (fun K8 k8=>rg [0,1,2,3,4,5,6,7,8,9,10,11,12] (sv 27 (sV (Lib.itoa (z))) ?_))
 refine se ?_
 refine ec 28 (zd5 (Lib.itoa (z)) _) ?_
 rintro e9 w9 ⟨rfl,g9⟩
 refine ⟨_,rfl,?_⟩
 replace hB:=hB.trans g9
 simp only [p3,p4]
 refine se ?_
 refine ec 29 (zd8 (zc4 (Lib.itoa (z))) (by omega) _) ?_
 rintro bK bL ⟨rfl,aI⟩
 refine ⟨_,rfl,?_⟩
 replace hB:=hB.trans aI
 simp only [p3,p4]
 refine sw 30 (.bool false) rfl (RunV.bool (x:=!(zf3 (zc4 (Lib.itoa (z))))) (rvk (by kernel_rfl)) (show (!(zf3 (zc4 (Lib.itoa (z)))))=false by rw [h1];rfl)) ?_
 refine sv 31 (.bool false) ?_
 refine sv 32 (.bool true) ?_
 refine sv 33 (.bool true) ?_
 refine sv 34 (sV (Lib.itoa (d))) ?_
 refine se ?_
 refine ec 35 (zd8 (Lib.itoa (d)) (by omega) _) ?_
 rintro a7 bp ⟨rfl,aL⟩
 refine ⟨_,rfl,?_⟩
 replace hB:=hB.trans aL
 simp only [p3,p4]
 refine sw 36 (.bool false) rfl (RunV.bool (x:=!(zf3 (Lib.itoa (d)))) (rvk (by kernel_rfl)) (show (!(zf3 (Lib.itoa (d))))=false by rw [h2];rfl)) ?_
 refine sv 37 (.bool false) ?_
 refine sv 38 (.bool false) ?_
 refine sv 26 (.bool false) (za0 (k8 _ _ ?_))
 refine wp_cond_false rfl ?_
 refine wp_seq_k (fun a9 aZ=>rg [0,1,2,3,4,5,6] (sv 41 (.bool true) ?_))
 refine sv 42 (.bool true) ?_
 refine sv 43 (sV (Lib.itoa (d))) ?_
 refine se ?_
 refine ec 44 (zm6 (Lib.itoa (d)) (by omega) _) ?_
 rintro bs bG ⟨rfl,aH⟩
 refine ⟨_,rfl,?_⟩
 replace hB:=hB.trans aH
 simp only [p3,p4]
 refine sw 45 (.bool false) rfl (RunV.bool (x:=((Lib.trimS (Lib.itoa (d)) [48])==([]:List UInt8))) (zi9 9 9 _ _ (Lib.trimS (Lib.itoa (d)) [48]) ([]) rfl rfl rfl) h4) ?_
 refine sv 46 (.bool false) ?_
 refine sv 40 (.bool false) (za0 (aZ _ _ ?_))
 refine wp_cond_false rfl ?_
 refine wp_skip ?_
 refine k6 _ _ ?_
 refine wp_seq_k (fun bm a0=>rg [0,1,2,3,4,5,6,7] (sv 49 (sV (Lib.itoa (z))) ?_))
 refine se ?_
 refine ec 50 (zm5 (z) (zo1 (z) (m:=14000) (by omega)) (by omega) _) ?_
 rintro a8 bE ⟨⟨ak,ai,rfl,au⟩,aK⟩
 refine ⟨_,rfl,?_⟩
 replace hB:=hB.trans aK
 simp only [p3,p4]
 refine sv 48 (.tuple #[.agg #[ak,ai],iT 0]) ?_
 refine sv 51 (.agg #[ak,ai]) ?_
 refine sv 52 (iT 0) ?_
 refine se ?_
 refine ea 60 #[.bool false,sN] 10 hB fun aU bN aM aa aS aT hB=>?_
 replace L2:=L2.gr (g5.trans (g9.trans (aI.trans (aL.trans (aH.trans aK)))))
 have al:=L2.ne aS
 simp only [p3,p4]
 refine se ?_
 refine es 60 0 (.agg #[ak,ai]) [ak,ai] #[ak,ai] aa hB aT ⟨au.one0,au.one1,trivial⟩ fun bt aD aF aa hB=>?_
 refine sv 11 (iT 0) (za0 (a0 _ _ ?_))
 refine wp_seq_k (fun bw aV=>wp_seq_k (fun bj a3=>rg [0,1] (sv 53 (iT 0) ?_)))
 refine sv 54 (.bool false) (za0 (a3 _ _ ?_))
 refine wp_cond_false rfl ?_
 refine wp_skip ?_
 refine aV _ _ ?_
 refine wp_seq_k (fun bJ aQ=>wp_seq_k (fun bl aY=>rg [0,1] (sv 56 (.bool true) ?_)))
 refine sv 57 (.bool false) (za0 (aY _ _ ?_))
 refine wp_cond_false rfl ?_
 refine wp_skip ?_
 refine aQ _ _ ?_
 refine wp_seq_k (fun bf a4=>rg [0,1,2,3,4,5,6,7] (sv 61 (sV (Lib.itoa (d))) ?_))
 refine se ?_
 refine ec 62 (zm5 (d) (zo1 (d) (m:=14000) (by omega)) (by omega) _) ?_
 rintro a6 bI ⟨⟨af,ae,rfl,aj⟩,ay⟩
 refine ⟨_,rfl,?_⟩
 replace hB:=hB.trans ay
 simp only [p3,p4]
 refine sv 60 (.tuple #[.agg #[af,ae],iT 0]) ?_
 refine sv 63 (.agg #[af,ae]) ?_
 refine sv 64 (iT 0) ?_
 refine se ?_
 refine ea 60 #[.bool false,sN] 12 hB fun aP bi az ac aJ a1 hB=>?_
 replace L2:=(aD.lc (L2.gr aM) al).gr ay
 have ap:=L2.ne aJ
 replace aa:=aa.gr ay
 have ah:=aa.ne aJ
 simp only [p3,p4]
 refine se ?_
 refine es 60 0 (.agg #[af,ae]) [af,ae] #[af,ae] ac hB a1 ⟨aj.one0,aj.one1,trivial⟩ fun aN aw ax ac hB=>?_
 refine sv 11 (iT 0) (za0 (a4 _ _ ?_))
 refine wp_seq_k (fun bk bb=>wp_seq_k (fun bv aX=>?_))
 have ad:=Gr.drew aN
 replace hB:=hB.trans ad
 replace aa:=(aw.lc (aa.gr az) ah).gr ad
 replace ac:=ac.gr ad
 refine za4 (fun w'=>Lc w' aU #[ak,ai] 60∧Lc w' aP #[af,ae] 60) [(true,0),(true,1),(true,2),(true,3),(false,4),(false,5),(true,6),(true,7),(true,8),(true,9),(true,10),(false,11),(false,12),(false,13),(true,14),(true,15)] (by kernel_rfl) (by kernel_rfl) (by kernel_rfl) (by decide) (fun _ _ _ _ _ h=>h) ⟨aa,ac⟩ ?_
 refine ov 65 (iT 0) ?_
 refine ov 66 (.bool false) ?_
 refine ov 67 (.bool false) ?_
 refine ow 68 (.agg #[af,ae]) rfl (fun w' hS=>(rl 60 0 [af,ae] hS.2)) ?_
 refine oe ?_
 refine ec 69 (zA8 _) ?_
 rintro bH bB ⟨⟨bO,bQ,rfl,aR⟩,ar⟩
 refine ⟨_,rfl,?_⟩
 replace hB:=hB.trans ar
 replace aa:=aa.gr ar
 replace ac:=ac.gr ar
 refine ⟨⟨aa,ac⟩,?_⟩
 simp only [p3,p4]
 refine oe ?_
 have aG:=az.kp.trans (ax.trans (ad.kp.trans ar.kp))
 replace aj:=aj.kp aG
 refine ec 70 (zf1 aj aR (by omega) (by omega)) ?_
 rintro br bA ⟨rfl,aq⟩
 refine ⟨_,rfl,?_⟩
 replace hB:=hB.trans aq
 replace aa:=aa.gr aq
 replace ac:=ac.gr aq
 refine ⟨⟨aa,ac⟩,?_⟩
 simp only [p3,p4]
 refine ow 71 (.bool false) rfl (fun w' hS=>(RunV.bool (x:=(sgn (d - 1)==(0:Int))) (rvk (by kernel_rfl)) h6)) ?_
 refine ov 72 (.bool false) ?_
 refine ov 73 (.bool false) ?_
 refine ow 74 (.agg #[ak,ai]) rfl (fun w' hS=>(rl 60 0 [ak,ai] hS.1)) ?_
 refine ow 75 (.agg #[af,ae]) rfl (fun w' hS=>(rl 60 0 [af,ae] hS.2)) ?_
 refine oe ?_
 have aE:=aM.kp.trans (aF.trans (ay.kp.trans (az.kp.trans (ax.trans (ad.kp.trans (ar.kp.trans aq.kp))))))
 replace au:=au.kp aE
 replace aj:=aj.kp aq.kp
 refine ec 76 (gcd_i au aj (by omega)) ?_
 rintro bo bM ⟨⟨bq,bh,rfl,aC⟩,aB⟩
 refine ⟨_,rfl,?_⟩
 replace hB:=hB.trans aB
 replace aa:=aa.gr aB
 replace ac:=ac.gr aB
 refine ⟨⟨aa,ac⟩,?_⟩
 simp only [p3,p4]
 refine oe ?_
 refine ec 77 (zA8 _) ?_
 rintro bF bn ⟨⟨bC,bg,rfl,aW⟩,av⟩
 refine ⟨_,rfl,?_⟩
 replace hB:=hB.trans av
 replace aa:=aa.gr av
 replace ac:=ac.gr av
 refine ⟨⟨aa,ac⟩,?_⟩
 simp only [p3,p4]
 refine oe ?_
 replace aC:=aC.kp av.kp
 refine ec 78 (zf1 aC aW (by omega) (by omega)) ?_
 rintro bD ba ⟨rfl,aA⟩
 refine ⟨_,rfl,?_⟩
 replace hB:=hB.trans aA
 replace aa:=aa.gr aA
 replace ac:=ac.gr aA
 refine ⟨⟨aa,ac⟩,?_⟩
 simp only [p3,p4]
 refine ow 79 (.bool true) rfl (fun w' hS=>(RunV.bool (x:=(sgn ((Int.gcd (z) (d):Int) - 1) !=(0:Int))) (rvk (by kernel_rfl)) h8)) ?_
 refine ov 80 (.bool true) ?_
 refine zb4 ?_
 refine aX _ _ ?_
 refine wp_cond_true rfl ?_
 refine wp_seq_k (fun bu a2=>rg [0,1,2] (sv 81 (.agg #[.bool false,sN,.bool false,sN]) ?_))
 refine se ?_
 replace L2:=(aw.lc (L2.gr az) ap).gr (ad.trans (ar.trans (aq.trans (aB.trans (av.trans aA)))))
 refine es 62 0 (.agg #[.bool false,sN,.bool false,sN]) [.bool false,sN,.bool false,sN] #[.bool false,sN,.bool false,sN] L2 hB q2 ⟨rfl,rfl,rfl,rfl,trivial⟩ fun bP aO a5 L2 hB=>?_
 refine sv 5 (iT 3) (za0 (a2 _ _ ?_))
 refine wp_ret ?_
 simp only [Exit.then]
 refine bodyPost_ret (v:=(.tuple #[.agg #[.bool false,sN,.bool false,sN],iT 3])) (zb5 _ _ _ rfl rfl L2 (by kernel_rfl) rfl) rfl ⟨?_,hB⟩
 exact rfl

theorem read_bad (X:List UInt8) (most:Nat) (hx:X.length≤14000) (h:ck2 X most≠0) (w:World) (hm:Mx w):
  Calls Tryz.prog 92 #[sV X,iT (most)] w fun e w'=>e=.returned (.tuple #[.agg #[.bool false,sN,.bool false,sN],iT (ck2 X most)])∧Gr w w':=by
 by_cases hl:most<X.length
 ·have e:ck2 X most=5:=by unfold ck2;rw [if_pos hl]
  rw [e];exact zW0 X most (by omega) (by omega) w hm
 have aa:(X.length:Int)≤(most:Int):=by omega
 have hcl:=zv5 X
 have hnl:=zA3 X
 rcases hcut:zh3 X with ⟨A,_ | D⟩
 ·rw [hcut] at hcl hnl
  obtain rfl:X=A:=hcl
  have hn:zt7 X=X:=by unfold zt7;rw [hcut]
  have hd:zD4 X=[49]:=by unfold zD4;rw [hcut];rfl
  unfold ck2 at h ⊢
  rw [if_neg hl,hn,hd] at h ⊢
  rw [show zf3 [49]=true from by decide,Bool.and_true] at h ⊢
  by_cases h1:zf3 (zc4 X)=true
  ·rw [if_neg (by rw [h1];decide),if_neg (by decide)] at h ⊢
   by_cases h2:zD2 X=true
   ·rw [if_pos (by rw [h2];rfl)]
    exact read_nf X most hx aa hcut h1 h2 w hm
   rw [Bool.not_eq_true] at h2
   rw [if_neg (by rw [h2];decide),if_neg (by simp)] at h
   exact absurd rfl h
  rw [Bool.not_eq_true] at h1
  rw [if_pos h1]
  exact read_ns X most hx aa hcut h1 w hm
 rw [hcut] at hcl hnl
 dsimp only at hcl
 have hn:zt7 X=A:=by unfold zt7;rw [hcut]
 have hd:zD4 X=D:=by unfold zD4;rw [hcut];rfl
 have hlen:X.length=A.length+(D.length+1):=by rw [hcl];simp
 have hA:A.length≤X.length:=by omega
 have hD:D.length≤X.length:=by omega
 unfold ck2 at h ⊢
 rw [if_neg hl,hn,hd] at h ⊢
 by_cases h1:zf3 (zc4 A)=true
 ·by_cases h2:zf3 D=true
  ·rw [h1,h2,if_neg (by decide)] at h ⊢
   by_cases h3:zl1 D=true
   ·rw [if_pos h3]
    exact read_fz X A D most hx aa hcut hA hD h1 h2 h3 w hm
   rw [if_neg h3] at h ⊢
   rw [Bool.not_eq_true] at h3
   by_cases h4:zD2 A=true
   ·rw [if_pos (by rw [h4];rfl)]
    exact read_fb1 X A D most hx aa hcut hA hD h1 h2 h3 h4 w hm
   rw [Bool.not_eq_true] at h4
   obtain ⟨z,rfl⟩:=zD3 h1 h4
   have hz:valZ (Lib.itoa z)=z:=zj7 z
   by_cases h5:(D[0]?==some 48)=true
   ·rw [if_pos (by rw [h5,Bool.or_true])]
    exact read_fb2 X D z most hx aa hcut hA hD h2 (ya3 h2) h3 (ya4 h2 h3 h5) w hm
   rw [Bool.not_eq_true] at h5
   obtain ⟨e1,e2⟩:=zK5 h2 h5
   obtain ⟨d,ac⟩:∃ d:Int,d=(zh2 D:Int):=⟨_,rfl⟩
   have e3:Lib.itoa d=D:=by rw [ac,zb6 (by omega),Int.natAbs_natCast];exact e1
   subst e3
   have hv:valZ (Lib.itoa d)=d:=zj7 d
   rw [if_neg (by rw [h4,h5];decide),hz,hv] at h ⊢
   have hlt:decide ((Lib.itoa z).length<X.length)=true:=by simp;omega
   rw [hlt,Bool.true_and] at h ⊢
   by_cases h6:d=1
   ·rw [if_pos (by rw [h6,itoa_one];rfl)]
    exact read_g1 X z d most hx aa hcut hA hD h2 h3 h6 w hm
   by_cases h7:Int.gcd z d=1
   ·rw [if_neg (by rw [h7];simp;intro e;exact h6 (zv1 (by rw [e,itoa_one])))] at h
    exact absurd rfl h
   rw [if_pos (by simp [h7])]
   exact read_g2 X z d most hx aa hcut hA hD h2 h3 h6 h7 w hm
  rw [Bool.not_eq_true] at h2
  rw [if_pos (by rw [h2,Bool.and_false])]
  exact read_fs2 X A D most hx aa hcut hA hD h1 h2 w hm
 rw [Bool.not_eq_true] at h1
 rw [if_pos (by rw [h1];rfl)]
 exact read_fs1 X A D most hx aa hcut hA hD h1 w hm

theorem zy9 (X:List UInt8) (hx:X.length≤14000) (h:ck2 X 400≠0) (w:World) (hm:Mx w):
    Calls Tryz.prog 64 #[sV X] w fun e w'=>e=.returned (.tuple #[.agg #[.bool false,sN,.bool false,sN],iT (ck2 X 400)])∧Gr w w':=by
 go_enter Tryz.func64,Tryz.ntmps64
 have hB:=Gr.refl w
 refine wp_seq_k (fun K1 k1=>rg [0,1] ?_)
 refine se ?_
 refine ea 62 #[.bool false,sN,.bool false,sN] 2 hB fun b2 w2 g2 L2 o2 q2 hB=>?_
 simp only [p3,p4]
 refine sv 3 (iT 0) (za0 (k1 _ _ ?_))
 refine wp_seq_k (fun K3 k3=>rg [0,1,2,3,4,5] (sv 4 (sV X) ?_))
 refine se ?_
 refine ec 5 (read_bad X 400 hx h _ (hm.gr hB)) ?_
 rintro e4 w4 ⟨rfl,g4⟩
 refine ⟨_,rfl,?_⟩
 replace hB:=hB.trans g4
 simp only [p3,p4]
 refine sv 6 (.agg #[.bool false,sN,.bool false,sN]) ?_
 refine sv 7 (iT (ck2 X 400)) ?_
 refine se ?_
 replace L2:=L2.gr g4
 refine es 62 0 (.agg #[.bool false,sN,.bool false,sN]) [.bool false,sN,.bool false,sN] #[.bool false,sN,.bool false,sN] L2 hB q2 ⟨rfl,rfl,rfl,rfl,trivial⟩ fun w5 aa ac L2 hB=>?_
 refine sv 3 (iT (ck2 X 400)) (za0 (k3 _ _ ?_))
 refine wp_ret ?_
 refine bodyPost_ret (v:=(.tuple #[.agg #[.bool false,sN,.bool false,sN],iT (ck2 X 400)])) (zb5 _ _ _ rfl rfl L2 (by kernel_rfl) rfl) rfl ⟨?_,hB⟩
 exact rfl

end Go.Proofs.YtjhflekncldflaaGreatDoor
namespace Go.Proofs.YtjhflekncldflaaGreatDoor
open Go.RowKit
def bz (b:Bool) (q:Rat):Rat:=if b then q else 0
def eo (b:Bool):Int:=if b then 0 else 14
theorem zZ4:ck2 [] 400=14:=by decide
theorem RZ.sz64 {q:Rat} (h:RZ 60 60 q):Sz 64 q.num∧Sz 64 (q.den:Int):=h.mono (by omega) (by omega)
theorem zC3 {q:Rat} (h:RZ 60 60 q):((zd4 q).length:Int)≤400:=by
 have:=zP1 h.1 h.2
 omega
theorem zJ5 (b:Bool) (q:Rat) (hq:RZ 60 60 q) (w:World) (hm:Mx w):
  Calls Tryz.prog 64 #[.string ⟨(tO b q).toArray⟩] w fun e w'=>(∃ c0 c1 c2 c3,e=.returned (.tuple #[.agg #[c0,c1,c2,c3],.int .i64 (eo b)])∧IsRat w' 64 c0 c1 c2 c3 (bz b q))∧Gr w w':=by
 cases b with
 | true=>exact zB1 q hq.sz64 (by omega) (by omega) (zC3 hq) w hm
 | false=>
  refine (zy9 [] (by decide) (by rw [zZ4];decide) w hm).mono fun e w' h=>⟨⟨_,_,_,_,?_,IsRat.zero _ (by omega)⟩,h.2⟩
  rw [h.1,zZ4];rfl
section
variable {D:Ofr} {l:List Nat} {r:Nat}
theorem eo_t {b:Bool} (h:(eo b==0)=true):b=true:=by cases b<;>simp_all [eo]
theorem eo_f {b:Bool} (h:(eo b==0)=false):b=false:=by cases b<;>simp_all [eo]
theorem ab_t (h:D.hh r=true):decide (0<zl4 (D.wu l r) (bz (D.hh r) (D.vh r)))=D.ab l r:=by
 unfold Ofr.ab bz;rw [h]
 simp only [if_true,Bool.true_and]
 exact decide_eq_decide.2 zx9
theorem ab_f (h:D.hh r=false):false=D.ab l r:=by unfold Ofr.ab;rw [h];rfl
theorem be_t (h:D.hl r=true):decide (zl4 (D.wl l r) (bz (D.hl r) (D.vl r))<0)=D.be l r:=by
 unfold Ofr.be bz;rw [h]
 simp only [if_true,Bool.true_and]
 exact decide_eq_decide.2 zK1
theorem be_f (h:D.hl r=false):false=D.be l r:=by unfold Ofr.be;rw [h];rfl
theorem ret2b {a b c d:Bool} (h:a=c) (g:b=d):(Value.tuple #[.bool a,.bool b])=.tuple #[.bool c,.bool d]:=by rw [h,g]
def fz (D:Ofr) (l:List Nat):Int × Int:=match D.ff l with | some r=>((r:Int),D.side l r) | none=>(-1,0)
theorem fz_ab (hr:r<D.q) (h:∀ j,j<r→D.bad l j=false) (ha:D.ab l r=true):fz D l=((r:Int),1):=by
 have hb:D.bad l r=true:=by unfold Ofr.bad;rw [ha];rfl
 unfold fz;rw [ff_eq hr hb h]
 show ((r:Int),D.side l r)=_
 unfold Ofr.side;rw [if_pos ha]
theorem fz_be (hr:r<D.q) (h:∀ j,j<r→D.bad l j=false) (ha:D.ab l r=false) (hb:D.be l r=true):fz D l=((r:Int),-1):=by
 have hb:D.bad l r=true:=by unfold Ofr.bad;rw [ha,hb];rfl
 unfold fz;rw [ff_eq hr hb h]
 show ((r:Int),D.side l r)=_
 unfold Ofr.side;rw [if_neg (by rw [ha];decide)]
theorem fz_no (h:∀ j,j<D.q→D.bad l j=false):fz D l=(-1,0):=by unfold fz;rw [ff_no h]
theorem fz_one (h:∀ j,j<r→D.bad l j=false) (ha:D.ab l r=false) (hb:D.be l r=false):∀ j,j<r+1→D.bad l j=false:=fun j hj=>by
 rcases Nat.lt_or_eq_of_le (Nat.le_of_lt_succ hj) with h1 | rfl
 ·exact h j h1
 unfold Ofr.bad;rw [ha,hb];rfl
theorem zp1:((fz D l).2≠0)↔(D.ff l).isSome=true:=by
 unfold fz
 cases D.ff l with
 | none=>simp
 | some r=>simp only [Ofr.side,Option.isSome_some,iff_true];split<;>decide
end
end Go.Proofs.YtjhflekncldflaaGreatDoor
namespace Go.Proofs.YtjhflekncldflaaGreatDoor
set_option maxRecDepth 100000
set_option maxHeartbeats 1000000
open Go.RowKit

theorem zL8 {D:Ofr} {dk r:Nat} {ds os rs sp cs ch:Value} (ok:D.Ok) {w:World} (hL:Lc w dk #[ds,os,rs,sp,cs,ch] 158) (hD:Dsk w D ds os rs sp cs ch) (hm:Mx w) (hr:r<D.q) {TT:Nat} {l:List Nat} {v:Value} (hv:D.vp l) (hl:Sl EI64 TT 1 w v (tb (fun z1=>((Ofr.at_ l z1:Nat):Int)) l.length)):
    Calls Tryz.prog 81 #[pT dk 0,v,iT (r:Int)] w fun e w'=>e=.returned (.tuple #[.bool (D.ab l r),.bool (D.be l r)])∧Gr w w':=by
 have n1:=ok.n1
 have n2:=ok.n2
 have cy:=ok.q2
 have bU:=hv.1
 go_enter Tryz.func81,Tryz.ntmps81
 have hB:=Gr.refl w
 refine wp_seq_k (fun cb bP=>rg [0,1] (sv 6 (.bool false) ?_))
 refine sv 7 (.bool false) (za0 (bP _ _ ?_))
 refine wp_seq_k (fun b8 bQ=>?_)
 obtain ⟨_,_,⟨aV,aX,rfl,a9⟩,ax⟩:=Sl.get hD.rs (by decide) (zc3 (f:=(fun z1=>(D.rq z1))) (n:=D.q) (i:=r) (by omega))
 have aZ:=Below.size hB
 have av:=hL.lt
 have a6:=Gr.drew w
 replace hB:=hB.trans a6
 replace hL:=hL.gr a6
 refine zk2 (fun w'=>Lc w' dk #[ds,os,rs,sp,cs,ch] 158∧AtV w' rs (r*8) [sV aV,iT 0,sV (zd4 (D.cn r)),aX,sV [],sN,sV (tO (D.hl r) (D.vl r)),sV (tO (D.hh r) (D.vh r))]) [(true,0),(true,1),(true,2),(true,4),(true,5),(true,6),(true,7),(true,8),(true,9),(true,10),(true,11),(false,3)] [⟨12,8,124,#[.bool false,sN,.bool false,sN,.bool false,sN,.bool false,sN]⟩,⟨13,9,80,#[sV [],iT 0,sV [],sN,sV [],sN,sV [],sV []]⟩] [(false,14),(false,15)] (by kernel_rfl) (by kernel_rfl) (by kernel_rfl) (by kernel_rfl) (by kernel_rfl) (by decide) (fun _ _ _ _ _ h=>h) (fun _ _ _ _ _ h=>h) (fun w' o h=>⟨Lc.gr h.1 (Gr.alloc w' o),AtV.gr h.2 (Gr.alloc w' o)⟩) ⟨hL,ax.gr hB⟩ (by intro f hf;simp only [List.mem_cons,List.not_mem_nil,or_false] at hf;rcases hf with rfl | rfl<;>first | exact zn5 (z:=(.agg #[.bool false,sN,.bool false,sN,.bool false,sN,.bool false,sN])) (by kernel_rfl) rfl | exact zn5 (z:=(.agg #[sV [],iT 0,sV [],sN,sV [],sN,sV [],sV []])) (by kernel_rfl) rfl) ?_
 refine fv 13 (pT dk 0) ?_
 refine fv 14 v ?_
 refine fv 15 (iT (r:Int)) ?_
 refine fv 17 (pT dk 0) ?_
 refine fv 18 (pT dk 0) ?_
 refine fv 19 (pT dk 0) ?_
 refine fv 20 (pT dk 2) ?_
 refine fw 21 rs rfl (fun w' hS=>(rk 24 2 hS.1)) ?_
 refine fv 22 (iT (r:Int)) ?_
 refine fw 23 (adr rs (r*8)) rfl (fun w' hS=>(zc0 (e:=80) hD.rs za8 (by decide) r (by omega) _ _ _ rfl rfl rfl (by kernel_rfl) (by kernel_rfl))) ?_
 refine fw 24 (.agg #[sV aV,iT 0,sV (zd4 (D.cn r)),aX,sV [],sN,sV (tO (D.hl r) (D.vl r)),sV (tO (D.hh r) (D.vh r))]) rfl (fun w' hS=>(ze5 [sV aV,iT 0,sV (zd4 (D.cn r)),aX,sV [],sN,sV (tO (D.hl r) (D.vl r)),sV (tO (D.hh r) (D.vh r))] hS.2 _ _ rfl rfl (by kernel_rfl))) ?_
 refine zv7 rfl rfl (fun cg bv _ cp bN=>?_)
 replace hB:=hB.trans bv
 replace hL:=hL.gr bv
 refine ec 16 (zL7 ok hL (⟨hD.ds.gr zb8 hB,hD.os.gr (za1 za6 68 3) hB,hD.rs.gr zb9 hB,hD.sp.gr (za1 (za1 (za7 64) 124 8) 162 1) hB,hD.cs.gr (za5 64) hB,hD.ch.gr za2 hB⟩:Dsk _ D _ _ _ _ _ _) hr hv (hl.gr za2 hB)) ?_
 rintro cc bV ⟨⟨aa,ad,ac,af,ak,ap,aj,al,rfl,ah,ae⟩,bq⟩
 refine ⟨_,rfl,?_⟩
 replace hB:=hB.trans bq
 replace hL:=hL.gr bq
 refine bN _ _ bq ⟨hL,ax.gr hB⟩ ?_
 simp only [p3,p4]
 refine zH6 (fun bA a0 _=>?_)
 replace hB:=hB.trans a0
 refine floFin2 (fun a3 a4 (ai:Lc bA a3 #[.bool false,sN,.bool false,sN,.bool false,sN,.bool false,sN] 124) q27 (aq:Lc bA a4 #[sV [],iT 0,sV [],sN,sV [],sN,sV [],sV []] 80) q28 ne27_28=>?_)
 have aG:dk≠a3:=Nat.ne_of_lt (Nat.lt_of_lt_of_le av q27)
 replace q27:=Nat.le_trans aZ q27
 have aI:dk≠a4:=Nat.ne_of_lt (Nat.lt_of_lt_of_le av q28)
 replace q28:=Nat.le_trans aZ q28
 simp only [zd1,p3,p4]
 refine oe ?_
 refine es 124 0 (.agg #[aa,ad,ac,af,ak,ap,aj,al]) [aa,ad,ac,af,ak,ap,aj,al] #[aa,ad,ac,af,ak,ap,aj,al] ai hB q27 ⟨ah.one0,ah.one1,ah.one2,ah.one3,ae.one0,ae.one1,ae.one2,ae.one3,trivial⟩ fun bY a5 aQ ai hB=>?_
 replace hL:=a5.lc (hL.gr a0) aG
 refine ⟨⟨hL,ax.gr hB⟩,?_⟩
 refine oe ?_
 replace aq:=a5.lc aq (Ne.symm ne27_28)
 refine es 80 0 (.agg #[sV aV,iT 0,sV (zd4 (D.cn r)),aX,sV [],sN,sV (tO (D.hl r) (D.vl r)),sV (tO (D.hh r) (D.vh r))]) [sV aV,iT 0,sV (zd4 (D.cn r)),aX,sV [],sN,sV (tO (D.hl r) (D.vl r)),sV (tO (D.hh r) (D.vh r))] #[sV aV,iT 0,sV (zd4 (D.cn r)),aX,sV [],sN,sV (tO (D.hl r) (D.vl r)),sV (tO (D.hh r) (D.vh r))] aq hB q28 ⟨rfl,rfl,rfl,a9.one,rfl,rfl,rfl,rfl,trivial⟩ fun bZ a1 aR aq hB=>?_
 replace hL:=a1.lc hL aI
 refine ⟨⟨hL,ax.gr hB⟩,?_⟩
 refine zb4 ?_
 refine bQ _ _ ?_
 refine wp_seq_k (fun cD bO=>rg [0,1,2,3,4,5,6,7,8] (sv 26 (pT a4 7) ?_))
 refine sw 27 (sV (tO (D.hh r) (D.vh r))) rfl (rk 33 7 aq) ?_
 refine se ?_
 refine ec 28 (zJ5 (D.hh r) (D.vh r) (ok.vh _ hr) _ (hm.gr hB)) ?_
 rintro cz b0 ⟨⟨aH,aM,aD,aC,rfl,aN⟩,aW⟩
 refine ⟨_,rfl,?_⟩
 replace hB:=hB.trans aW
 simp only [p3,p4]
 refine sv 25 (.tuple #[.agg #[aH,aM,aD,aC],iT (eo (D.hh r))]) ?_
 refine sv 29 (.agg #[aH,aM,aD,aC]) ?_
 refine sv 30 (iT (eo (D.hh r))) ?_
 refine se ?_
 refine ea 62 #[.bool false,sN,.bool false,sN] 10 hB fun cA cx aB bi bw bJ hB=>?_
 replace ai:=(a1.lc ai ne27_28).gr aW
 have ar:=ai.ne bw
 replace aq:=aq.gr aW
 have au:=aq.ne bw
 simp only [p3,p4]
 refine se ?_
 refine es 62 0 (.agg #[aH,aM,aD,aC]) [aH,aM,aD,aC] #[aH,aM,aD,aC] bi hB bJ ⟨aN.one0,aN.one1,aN.one2,aN.one3,trivial⟩ fun cj aA az bi hB=>?_
 refine sv 11 (iT (eo (D.hh r))) (za0 (bO _ _ ?_))
 refine wp_seq_k (fun cd bu=>rg [0,1,2,3,4,5,6,7,8,9] (sv 31 (iT (eo (D.hh r))) ?_))
 refine sv 32 (.bool (eo (D.hh r)==(0:Int))) ?_
 rcases Bool.eq_false_or_eq_true (eo (D.hh r)==(0:Int)) with hb38 | hb38
 ·have pA:D.hh r=true:=eo_t hb38
  refine sw 33 (.bool true) rfl (RunV.bool (x:=(eo (D.hh r)==(0:Int))) (rvk (by kernel_rfl)) hb38) ?_
  refine sv 34 (pT a3 4) ?_
  replace ai:=aA.lc (ai.gr aB) ar
  refine sw 35 (.agg #[ak,ap,aj,al]) rfl (rl 62 4 [ak,ap,aj,al] ai) ?_
  refine sw 36 (.agg #[aH,aM,aD,aC]) rfl (rl 62 0 [aH,aM,aD,aC] bi) ?_
  refine se ?_
  have ba:=a0.kp.trans (aQ.trans (aR.trans (aW.kp.trans (aB.kp.trans az))))
  replace ae:=ae.kp ba
  have br:=aB.kp.trans az
  replace aN:=aN.kp br
  refine ec 37 (zj8 ae aN (by omega)) ?_
  rintro cf bX ⟨rfl,a8⟩
  refine ⟨_,rfl,?_⟩
  replace hB:=hB.trans a8
  simp only [p3,p4]
  refine sv 38 (.bool (decide ((0:Int)<zl4 (D.wu l r) (bz (D.hh r) (D.vh r))))) ?_
  refine sv 39 (.bool (decide ((0:Int)<zl4 (D.wu l r) (bz (D.hh r) (D.vh r))))) ?_
  refine sv 6 (.bool (decide ((0:Int)<zl4 (D.wu l r) (bz (D.hh r) (D.vh r))))) (za0 (bu _ _ ?_))
  refine wp_seq_k (fun cC bH=>rg [0,1,2,3,4,5,6,7,8] (sv 41 (pT a4 6) ?_))
  replace aq:=(aA.lc (aq.gr aB) au).gr a8
  refine sw 42 (sV (tO (D.hl r) (D.vl r))) rfl (rk 33 6 aq) ?_
  refine se ?_
  refine ec 43 (zJ5 (D.hl r) (D.vl r) (ok.vl _ hr) _ (hm.gr hB)) ?_
  rintro b5 cr ⟨⟨aU,aK,aE,aL,rfl,aF⟩,a7⟩
  refine ⟨_,rfl,?_⟩
  replace hB:=hB.trans a7
  simp only [p3,p4]
  refine sv 40 (.tuple #[.agg #[aU,aK,aE,aL],iT (eo (D.hl r))]) ?_
  refine sv 44 (.agg #[aU,aK,aE,aL]) ?_
  refine sv 45 (iT (eo (D.hl r))) ?_
  refine se ?_
  refine ea 62 #[.bool false,sN,.bool false,sN] 12 hB fun cE b7 bh bl bE bD hB=>?_
  replace ai:=ai.gr (a8.trans a7)
  have aw:=ai.ne bE
  replace aq:=aq.gr a7
  simp only [p3,p4]
  refine se ?_
  refine es 62 0 (.agg #[aU,aK,aE,aL]) [aU,aK,aE,aL] #[aU,aK,aE,aL] bl hB bD ⟨aF.one0,aF.one1,aF.one2,aF.one3,trivial⟩ fun cq bf a2 bl hB=>?_
  refine sv 11 (iT (eo (D.hl r))) (za0 (bH _ _ ?_))
  refine wp_seq_k (fun b1 bs=>rg [0,1,2,3,4,5,6,7,8,9] (sv 46 (iT (eo (D.hl r))) ?_))
  refine sv 47 (.bool (eo (D.hl r)==(0:Int))) ?_
  rcases Bool.eq_false_or_eq_true (eo (D.hl r)==(0:Int)) with hb47 | hb47
  ·have pB:D.hl r=true:=eo_t hb47
   refine sw 48 (.bool true) rfl (RunV.bool (x:=(eo (D.hl r)==(0:Int))) (rvk (by kernel_rfl)) hb47) ?_
   refine sv 49 (pT a3 0) ?_
   replace ai:=bf.lc (ai.gr bh) aw
   refine sw 50 (.agg #[aa,ad,ac,af]) rfl (rl 62 0 [aa,ad,ac,af] ai) ?_
   refine sw 51 (.agg #[aU,aK,aE,aL]) rfl (rl 62 0 [aU,aK,aE,aL] bl) ?_
   refine se ?_
   have bm:=a0.kp.trans (aQ.trans (aR.trans (aW.kp.trans (aB.kp.trans (az.trans (a8.kp.trans (a7.kp.trans (bh.kp.trans a2))))))))
   replace ah:=ah.kp bm
   have bj:=bh.kp.trans a2
   replace aF:=aF.kp bj
   refine ec 52 (zj8 ah aF (by omega)) ?_
   rintro cl b6 ⟨rfl,bG⟩
   refine ⟨_,rfl,?_⟩
   replace hB:=hB.trans bG
   simp only [p3,p4]
   refine sv 53 (.bool (decide (zl4 (D.wl l r) (bz (D.hl r) (D.vl r))<(0:Int)))) ?_
   refine sv 54 (.bool (decide (zl4 (D.wl l r) (bz (D.hl r) (D.vl r))<(0:Int)))) ?_
   refine sv 7 (.bool (decide (zl4 (D.wl l r) (bz (D.hl r) (D.vl r))<(0:Int)))) (za0 (bs _ _ ?_))
   refine wp_seq_k (fun b4 bB=>rg [0,1,2,3] (sv 55 (.bool (decide ((0:Int)<zl4 (D.wu l r) (bz (D.hh r) (D.vh r))))) ?_))
   refine sv 56 (.bool (decide (zl4 (D.wl l r) (bz (D.hl r) (D.vl r))<(0:Int)))) ?_
   refine sv 6 (.bool (decide ((0:Int)<zl4 (D.wu l r) (bz (D.hh r) (D.vh r))))) ?_
   refine sv 7 (.bool (decide (zl4 (D.wl l r) (bz (D.hl r) (D.vl r))<(0:Int)))) (za0 (bB _ _ ?_))
   refine wp_ret ?_
   refine bodyPost_ret (v:=(.tuple #[.bool (decide ((0:Int)<zl4 (D.wu l r) (bz (D.hh r) (D.vh r)))),.bool (decide (zl4 (D.wl l r) (bz (D.hl r) (D.vl r))<(0:Int)))])) (zg5 rfl rfl rfl) rfl ⟨?_,hB⟩
   exact (congrArg _ (ret2b (ab_t pA) (be_t pB)))
  have pB:D.hl r=false:=eo_f hb47
  refine swk 48 (.bool false) [(3,49),(4,50),(5,51),(6,52),(7,53)] rfl (RunV.bool (x:=(eo (D.hl r)==(0:Int))) (rvk (by kernel_rfl)) hb47) ?_
  refine sv 54 (.bool false) ?_
  refine sv 7 (.bool false) (za0 (bs _ _ ?_))
  refine wp_seq_k (fun ct bM=>rg [0,1,2,3] (sv 55 (.bool (decide ((0:Int)<zl4 (D.wu l r) (bz (D.hh r) (D.vh r))))) ?_))
  refine sv 56 (.bool false) ?_
  refine sv 6 (.bool (decide ((0:Int)<zl4 (D.wu l r) (bz (D.hh r) (D.vh r))))) ?_
  refine sv 7 (.bool false) (za0 (bM _ _ ?_))
  refine wp_ret ?_
  refine bodyPost_ret (v:=(.tuple #[.bool (decide ((0:Int)<zl4 (D.wu l r) (bz (D.hh r) (D.vh r)))),.bool false])) (zg5 rfl rfl rfl) rfl ⟨?_,hB⟩
  exact (congrArg _ (ret2b (ab_t pA) (be_f pB)))
 have pA:D.hh r=false:=eo_f hb38
 refine swk 33 (.bool false) [(3,34),(4,35),(5,36),(6,37),(7,38)] rfl (RunV.bool (x:=(eo (D.hh r)==(0:Int))) (rvk (by kernel_rfl)) hb38) ?_
 refine sv 39 (.bool false) ?_
 refine sv 6 (.bool false) (za0 (bu _ _ ?_))
 refine wp_seq_k (fun cm bC=>rg [0,1,2,3,4,5,6,7,8] (sv 41 (pT a4 6) ?_))
 replace aq:=aA.lc (aq.gr aB) au
 refine sw 42 (sV (tO (D.hl r) (D.vl r))) rfl (rk 33 6 aq) ?_
 refine se ?_
 refine ec 43 (zJ5 (D.hl r) (D.vl r) (ok.vl _ hr) _ (hm.gr hB)) ?_
 rintro bS b2 ⟨⟨aP,aJ,aS,aT,rfl,aO⟩,bb⟩
 refine ⟨_,rfl,?_⟩
 replace hB:=hB.trans bb
 simp only [p3,p4]
 refine sv 40 (.tuple #[.agg #[aP,aJ,aS,aT],iT (eo (D.hl r))]) ?_
 refine sv 44 (.agg #[aP,aJ,aS,aT]) ?_
 refine sv 45 (iT (eo (D.hl r))) ?_
 refine se ?_
 refine ea 62 #[.bool false,sN,.bool false,sN] 12 hB fun ck cB bp bg bR bI hB=>?_
 replace ai:=(aA.lc (ai.gr aB) ar).gr bb
 have ay:=ai.ne bR
 simp only [p3,p4]
 refine se ?_
 refine es 62 0 (.agg #[aP,aJ,aS,aT]) [aP,aJ,aS,aT] #[aP,aJ,aS,aT] bg hB bI ⟨aO.one0,aO.one1,aO.one2,aO.one3,trivial⟩ fun cw bo aY bg hB=>?_
 refine sv 11 (iT (eo (D.hl r))) (za0 (bC _ _ ?_))
 refine wp_seq_k (fun b3 bt=>rg [0,1,2,3,4,5,6,7,8,9] (sv 46 (iT (eo (D.hl r))) ?_))
 refine sv 47 (.bool (eo (D.hl r)==(0:Int))) ?_
 rcases Bool.eq_false_or_eq_true (eo (D.hl r)==(0:Int)) with hb58 | hb58
 ·have pB:D.hl r=true:=eo_t hb58
  refine sw 48 (.bool true) rfl (RunV.bool (x:=(eo (D.hl r)==(0:Int))) (rvk (by kernel_rfl)) hb58) ?_
  refine sv 49 (pT a3 0) ?_
  replace ai:=bo.lc (ai.gr bp) ay
  refine sw 50 (.agg #[aa,ad,ac,af]) rfl (rl 62 0 [aa,ad,ac,af] ai) ?_
  refine sw 51 (.agg #[aP,aJ,aS,aT]) rfl (rl 62 0 [aP,aJ,aS,aT] bg) ?_
  refine se ?_
  have bn:=a0.kp.trans (aQ.trans (aR.trans (aW.kp.trans (aB.kp.trans (az.trans (bb.kp.trans (bp.kp.trans aY)))))))
  replace ah:=ah.kp bn
  have bk:=bp.kp.trans aY
  replace aO:=aO.kp bk
  refine ec 52 (zj8 ah aO (by omega)) ?_
  rintro b9 cu ⟨rfl,bK⟩
  refine ⟨_,rfl,?_⟩
  replace hB:=hB.trans bK
  simp only [p3,p4]
  refine sv 53 (.bool (decide (zl4 (D.wl l r) (bz (D.hl r) (D.vl r))<(0:Int)))) ?_
  refine sv 54 (.bool (decide (zl4 (D.wl l r) (bz (D.hl r) (D.vl r))<(0:Int)))) ?_
  refine sv 7 (.bool (decide (zl4 (D.wl l r) (bz (D.hl r) (D.vl r))<(0:Int)))) (za0 (bt _ _ ?_))
  refine wp_seq_k (fun bW bF=>rg [0,1,2,3] (sv 55 (.bool false) ?_))
  refine sv 56 (.bool (decide (zl4 (D.wl l r) (bz (D.hl r) (D.vl r))<(0:Int)))) ?_
  refine sv 6 (.bool false) ?_
  refine sv 7 (.bool (decide (zl4 (D.wl l r) (bz (D.hl r) (D.vl r))<(0:Int)))) (za0 (bF _ _ ?_))
  refine wp_ret ?_
  refine bodyPost_ret (v:=(.tuple #[.bool false,.bool (decide (zl4 (D.wl l r) (bz (D.hl r) (D.vl r))<(0:Int)))])) (zg5 rfl rfl rfl) rfl ⟨?_,hB⟩
  exact (congrArg _ (ret2b (ab_f pA) (be_t pB)))
 have pB:D.hl r=false:=eo_f hb58
 refine swk 48 (.bool false) [(3,49),(4,50),(5,51),(6,52),(7,53)] rfl (RunV.bool (x:=(eo (D.hl r)==(0:Int))) (rvk (by kernel_rfl)) hb58) ?_
 refine sv 54 (.bool false) ?_
 refine sv 7 (.bool false) (za0 (bt _ _ ?_))
 refine wp_seq_k (fun bT bL=>rg [0,1,2,3] (sv 55 (.bool false) ?_))
 refine sv 56 (.bool false) ?_
 refine sv 6 (.bool false) ?_
 refine sv 7 (.bool false) (za0 (bL _ _ ?_))
 refine wp_ret ?_
 refine bodyPost_ret (v:=(.tuple #[.bool false,.bool false])) (zg5 rfl rfl rfl) rfl ⟨?_,hB⟩
 exact (congrArg _ (ret2b (ab_f pA) (be_f pB)))

theorem zp9 {D:Ofr} {dk:Nat} {ds os rs sp cs ch:Value} (ok:D.Ok) {w:World} (hL:Lc w dk #[ds,os,rs,sp,cs,ch] 158) (hD:Dsk w D ds os rs sp cs ch) (hm:Mx w) {TT:Nat} {l:List Nat} {v:Value} (hv:D.vp l) (hl:Sl EI64 TT 1 w v (tb (fun z1=>((Ofr.at_ l z1:Nat):Int)) l.length)):
    Calls Tryz.prog 50 #[pT dk 0,v] w fun e w'=>e=.returned (.tuple #[iT (fz D l).1,iT (fz D l).2])∧Gr w w':=by
 have n1:=ok.n1
 have n2:=ok.n2
 have aQ:=ok.q2
 have aA:=hv.1
 go_enter Tryz.func50,Tryz.ntmps50
 have hB:=Gr.refl w
 refine wp_seq_k (fun aE aw=>rg [0,1] (sv 4 (iT 0) ?_))
 refine sv 5 (iT 0) (za0 (aw _ _ ?_))
 refine wp_seq_k (fun aC ay=>wp_seq_k (fun aD ar=>rg [0,1,2,3,4,5,6] (sv 9 (pT dk 0) ?_)))
 refine sv 10 (pT dk 0) ?_
 refine sv 11 (pT dk 0) ?_
 refine sv 12 (pT dk 2) ?_
 refine sw 13 rs rfl (rk 24 2 hL) ?_
 refine sw 14 (iT ((D.q:Nat):Int)) rfl (zb0 (e:=80) hD.rs (za9 rfl) _ _ rfl rfl (by kernel_rfl)) ?_
 refine sv 15 (iT 0) (za0 (ar _ _ ?_))
 refine wp_block ?_
 refine zb1 (a:=⟨List.toArray ?l13,[]⟩) (fun n a w'=>∃ (k:Nat) (aa:Nat→Value),D.q - k=n∧a=⟨[pT dk 0,v,undef,undef,aa 4,aa 5,aa 6,aa 7,aa 8,aa 9,aa 10,aa 11,aa 12,aa 13,iT ((D.q:Nat):Int),iT (k:Int),aa 16,aa 17,aa 18,aa 19,aa 20,aa 21,aa 22,aa 23,aa 24,aa 25,aa 26,aa 27,aa 28,aa 29,aa 30,aa 31].toArray,[]⟩∧k≤D.q∧(∀ j,j<k→D.bad l j=false)∧Lc w' dk #[ds,os,rs,sp,cs,ch] 158∧Gr w w') (D.q - 0) ?_ ?_
 ·exact ⟨0,(fun i=>List.getD ?l13 i undef),rfl,rfl,Nat.zero_le _,(fun j hj=>absurd hj (Nat.not_lt_zero j)),hL,hB⟩
 rintro aR aU aP ⟨k,aa,rfl,rfl,hkk,hf,hL,hB⟩ aN al
 refine wp_seq_k (fun aJ au=>rg [0] (sv 16 (.bool (decide ((k:Int)<((D.q:Nat):Int)))) ?_))
 refine za0 (au _ _ ?_)
 refine wp_seq_k (fun aB ak=>?_)
 refine wp_cond_split rfl (fun ae=>?_) (fun ae=>?_)
 ·have hlk:k<D.q:=by have:=of_decide_eq_true ae;omega
  refine wp_skip ?_
  refine ak _ _ ?_
  refine wp_seq_k (fun aT ai=>?_)
  refine wp_block ?_
  refine wp_seq_k (fun aM aj=>rg [0,1] (sv 17 (iT (k:Int)) ?_))
  refine sv 6 (iT (k:Int)) (za0 (aj _ _ ?_))
  refine wp_seq_k (fun aG ax=>rg [0,1,2,3,4,5,6,7,8] (sv 19 (pT dk 0) ?_))
  refine sv 20 v ?_
  refine sv 21 (iT (k:Int)) ?_
  refine se ?_
  refine ec 22 (zL8 ok hL (⟨hD.ds.gr zb8 hB,hD.os.gr (za1 za6 68 3) hB,hD.rs.gr zb9 hB,hD.sp.gr (za1 (za1 (za7 64) 124 8) 162 1) hB,hD.cs.gr (za5 64) hB,hD.ch.gr za2 hB⟩:Dsk _ D _ _ _ _ _ _) (hm.gr hB) hlk hv (hl.gr za2 hB)) ?_
  rintro aS aK ⟨rfl,af⟩
  refine ⟨_,rfl,?_⟩
  replace hB:=hB.trans af
  simp only [p3,p4]
  refine sv 18 (.tuple #[.bool (D.ab l k),.bool (D.be l k)]) ?_
  refine sv 23 (.bool (D.ab l k)) ?_
  refine sv 24 (.bool (D.be l k)) ?_
  refine sv 7 (.bool (D.ab l k)) ?_
  refine sv 8 (.bool (D.be l k)) (za0 (ax _ _ ?_))
  refine wp_block ?_
  refine wp_seq_k (fun aI aq=>rg [0,1] (sv 26 (.bool (D.ab l k)) ?_))
  refine sv 25 (.bool (D.ab l k)) (za0 (aq _ _ ?_))
  refine wp_cond_split rfl (fun ac=>?_) (fun ac=>?_)
  ·have pA:=ac
   refine wp_seq_k (fun aF az=>rg [0,1,2] (sv 27 (iT (k:Int)) ?_))
   refine sv 4 (iT (k:Int)) ?_
   refine sv 5 (iT 1) (za0 (az _ _ ?_))
   refine wp_ret ?_
   simp only [Exit.then,Exit.inBlock]
   refine bodyPost_ret (v:=(.tuple #[iT (k:Int),iT 1])) (zg5 rfl rfl rfl) rfl ⟨?_,hB⟩
   exact (by rw [fz_ab hlk hf pA])
  have pA:=ac
  refine wp_seq_k (fun aL ap=>rg [0,1] (sv 29 (.bool (D.be l k)) ?_))
  refine sv 28 (.bool (D.be l k)) (za0 (ap _ _ ?_))
  refine wp_cond_split rfl (fun ad=>?_) (fun ad=>?_)
  ·have pB:=ad
   refine wp_seq_k (fun aH ah=>rg [0,1,2] (sv 30 (iT (k:Int)) ?_))
   refine sv 4 (iT (k:Int)) ?_
   refine sv 5 (iT (-1)) (za0 (ah _ _ ?_))
   refine wp_ret ?_
   simp only [Exit.then,Exit.inBlock]
   refine bodyPost_ret (v:=(.tuple #[iT (k:Int),iT (-1)])) (zg5 rfl rfl rfl) rfl ⟨?_,hB⟩
   exact (by rw [fz_be hlk hf pA pB])
  have pB:=ad
  refine wp_skip ?_
  refine ai _ _ ?_
  refine rg [0,1] ?_
  refine sw 31 (iT ((k:Int)+1)) rfl (rwI ((k:Int)+1)) ?_
  refine sv 15 (iT ((k:Int)+1)) ?_
  refine za0 ?_
  replace hL:=hL.gr af
  refine al (D.q - (k+1)) ⟨List.toArray ?l27,[]⟩ _ (by omega) ?_
  exact ⟨k+1,(fun i=>List.getD ?l27 i undef),rfl,rfl,(by omega),fz_one hf pA pB,hL,hB⟩
 have hek:D.q=k:=by have:=of_decide_eq_false ae;omega
 subst hek
 refine wp_exit ?_
 simp only [Exit.then,Exit.inBlock,↓reduceIte]
 refine ay _ _ ?_
 refine wp_seq_k (fun aO av=>rg [0,1] (sv 4 (iT (-1)) ?_))
 refine sv 5 (iT 0) (za0 (av _ _ ?_))
 refine wp_ret ?_
 refine bodyPost_ret (v:=(.tuple #[iT (-1),iT 0])) (zg5 rfl rfl rfl) rfl ⟨?_,hB⟩
 exact (by rw [fz_no hf])

end Go.Proofs.YtjhflekncldflaaGreatDoor
namespace Go.Proofs.YtjhflekncldflaaGreatDoor
def ca (c:List Int) (i:Nat):Int:=c.getD i 0
section
variable {D:Ofr} {c:List Int} {k:Nat}
theorem inb_f (hk:k<c.length) (h:ca c k<0∨(D.ol k:Int)≤ca c k):D.inb c=false:=by
 cases e:D.inb c with
 | false=>rfl
 | true=>
  unfold Ofr.inb at e
  rw [List.all_eq_true] at e
  have:=e k (List.mem_range.2 hk)
  simp only [Bool.and_eq_true,decide_eq_true_eq] at this
  unfold ca at h;omega
theorem inb_t (h:∀ j,j<c.length→0≤ca c j∧ca c j<(D.ol j:Int)):D.inb c=true:=by
 unfold Ofr.inb
 rw [List.all_eq_true]
 intro j hj
 have:=h j (List.mem_range.1 hj)
 simp only [Bool.and_eq_true,decide_eq_true_eq]
 exact this
theorem pe_13 (h:D.n<c.length):D.pe c=13:=by unfold Ofr.pe;rw [if_pos h]
theorem pe_2 (h:¬ D.n<c.length) (hk:k<c.length) (g:ca c k<0∨(D.ol k:Int)≤ca c k):D.pe c=2:=by
 unfold Ofr.pe;rw [if_neg h,inb_f hk g];rfl
theorem pe_0 (h:¬ D.n<c.length) (g:∀ j,j<c.length→0≤ca c j∧ca c j<(D.ol j:Int)):D.pe c=0:=by
 unfold Ofr.pe;rw [if_neg h,inb_t g];rfl
theorem ce_13 (h:¬ c.length=D.n):D.ce c=13:=by unfold Ofr.ce;rw [if_pos h]
theorem ce_pe (h:c.length=D.n):D.ce c=D.pe c:=by
 unfold Ofr.ce Ofr.pe;rw [if_neg (show ¬ c.length≠D.n from fun g=>g h),if_neg (show ¬ D.n<c.length by omega)]
theorem zR8 (h:D.pe c=0):D.vp (ze7 c)∧zs6 (ze7 c)=c:=by
 unfold Ofr.pe at h
 split at h
 ·cases h
 split at h
 ·next h1 h2=>
  refine ⟨⟨by unfold ze7;rw [List.length_map];omega,?_⟩,zF0 h2⟩
  have:=zF0 h2
  exact inb_ints.1 (by rw [this];exact h2)
 cases h
theorem ce_vp (h:D.ce c=0):D.vp (ze7 c)∧zs6 (ze7 c)=c∧(ze7 c).length=D.n:=by
 by_cases e:c.length=D.n
 ·rw [ce_pe e] at h
  exact ⟨(zR8 h).1,(zR8 h).2,by unfold ze7;rw [List.length_map];exact e⟩
 rw [ce_13 e] at h;cases h
theorem ext1 (h:∀ j,j<k→0≤ca c j∧ca c j<(D.ol j:Int)) (h1:¬ ca c k<0) (h2:¬ (D.ol k:Int)≤ca c k):∀ j,j<k+1→0≤ca c j∧ca c j<(D.ol j:Int):=fun j hj=>by
 rcases Nat.lt_or_eq_of_le (Nat.le_of_lt_succ hj) with h3 | rfl
 ·exact h j h3
 omega
end
end Go.Proofs.YtjhflekncldflaaGreatDoor
namespace Go.Proofs.YtjhflekncldflaaGreatDoor
set_option maxRecDepth 100000
set_option maxHeartbeats 1000000
open Go.RowKit

theorem zv9 {D:Ofr} {dk:Nat} {ds os rs sp cs ch:Value} (ok:D.Ok) {w:World} (hL:Lc w dk #[ds,os,rs,sp,cs,ch] 158) (hD:Dsk w D ds os rs sp cs ch) {TT:Nat} {c:List Int} {v:Value} (hl:Sl EI64 TT 1 w v (tb (fun z1=>(ca c z1)) c.length)):
    Calls Tryz.prog 51 #[pT dk 0,v] w fun e w'=>e=.returned (iT (D.pe c))∧Gr w w':=by
 have n1:=ok.n1
 have n2:=ok.n2
 have aW:=ok.q2
 go_enter Tryz.func51,Tryz.ntmps51
 have hB:=Gr.refl w
 refine wp_seq_k (fun aJ aB=>rg [0] (sv 4 (iT 0) ?_))
 refine za0 (aB _ _ ?_)
 refine wp_seq_k (fun aH aD=>wp_seq_k (fun aI ax=>rg [0,1,2,3,4,5,6,7,8] (sv 7 v ?_)))
 refine sw 8 (iT ((c.length:Nat):Int)) rfl (zb0 (e:=3) hl (za9 rfl) _ _ rfl rfl (by kernel_rfl)) ?_
 refine sv 9 (pT dk 0) ?_
 refine sv 10 (pT dk 0) ?_
 refine sv 11 (pT dk 0) ?_
 refine sv 12 (pT dk 0) ?_
 refine sw 13 ds rfl (rk 22 0 hL) ?_
 refine sw 14 (iT ((D.n:Nat):Int)) rfl (zb0 (e:=71) hD.ds (za9 rfl) _ _ rfl rfl (by kernel_rfl)) ?_
 refine sv 15 (.bool (decide (((D.n:Nat):Int)<((c.length:Nat):Int)))) (za0 (ax _ _ ?_))
 refine wp_cond_split rfl (fun ae=>?_) (fun ae=>?_)
 ·have hd:D.n<c.length:=by have:=of_decide_eq_true ae;omega
  refine wp_seq_k (fun aR ay=>rg [0] (sv 4 (iT 13) ?_))
  refine za0 (ay _ _ ?_)
  refine wp_ret ?_
  simp only [Exit.then]
  refine bodyPost_ret (v:=(iT 13)) (za3 rfl rfl) rfl ⟨?_,hB⟩
  exact (by rw [pe_13 hd])
 have hd:¬ D.n<c.length:=by have:=of_decide_eq_false ae;omega
 refine wp_skip ?_
 refine aD _ _ ?_
 refine wp_seq_k (fun aG av=>wp_seq_k (fun aS al=>rg [0,1,2] (sv 16 v ?_)))
 refine sw 17 (iT ((c.length:Nat):Int)) rfl (zb0 (e:=3) hl (za9 rfl) _ _ rfl rfl (by kernel_rfl)) ?_
 refine sv 18 (iT 0) (za0 (al _ _ ?_))
 refine wp_block ?_
 refine zb1 (a:=⟨List.toArray ?l17,[]⟩) (fun n a w'=>∃ (k:Nat) (aa:Nat→Value),c.length - k=n∧a=⟨[pT dk 0,v,undef,undef,aa 4,aa 5,aa 6,aa 7,aa 8,aa 9,aa 10,aa 11,aa 12,aa 13,aa 14,.bool (decide (((D.n:Nat):Int)<((c.length:Nat):Int))),v,iT ((c.length:Nat):Int),iT (k:Int),aa 19,aa 20,aa 21,aa 22,aa 23,aa 24,aa 25,aa 26,aa 27,aa 28,aa 29,aa 30,aa 31,aa 32,aa 33,aa 34,aa 35,aa 36,aa 37,aa 38].toArray,[]⟩∧k≤c.length∧(∀ j,j<k→0≤ca c j∧ca c j<(D.ol j:Int))∧Lc w' dk #[ds,os,rs,sp,cs,ch] 158∧Gr w w') (c.length - 0) ?_ ?_
 ·exact ⟨0,(fun i=>List.getD ?l17 i undef),rfl,rfl,Nat.zero_le _,(fun j hj=>absurd hj (Nat.not_lt_zero j)),hL,hB⟩
 rintro aN aL aT ⟨k,aa,rfl,rfl,hkk,hf,hL,hB⟩ aY aq
 refine wp_seq_k (fun aV au=>rg [0] (sv 19 (.bool (decide ((k:Int)<((c.length:Nat):Int)))) ?_))
 refine za0 (au _ _ ?_)
 refine wp_seq_k (fun aO aC=>?_)
 refine wp_cond_split rfl (fun ac=>?_) (fun ac=>?_)
 ·have hlk:k<c.length:=by have:=of_decide_eq_true ac;omega
  refine wp_skip ?_
  refine aC _ _ ?_
  refine wp_seq_k (fun aQ aw=>?_)
  refine wp_block ?_
  refine wp_seq_k (fun aK aE=>rg [0,1,2,3,4] (sv 20 (iT (k:Int)) ?_))
  refine sw 21 (adr v (k*1)) rfl (zc0 (e:=3) hl za8 (by decide) k (by omega) _ _ _ rfl rfl rfl (by kernel_rfl) (by kernel_rfl)) ?_
  obtain ⟨_,_,rfl,af⟩:=Sl.get hl (by decide) (zc3 (f:=(fun z1=>(ca c z1))) (n:=c.length) (i:=k) (by omega))
  refine sw 22 (iT (ca c k)) rfl (ze6 (iT (ca c k)) (af.gr hB) _ _ rfl rfl (by kernel_rfl)) ?_
  refine sv 5 (iT (k:Int)) ?_
  refine sv 6 (iT (ca c k)) (za0 (aE _ _ ?_))
  refine wp_seq_k (fun aU aj=>rg [0,1,2,3,4,5,6,7,8,9,10,11,12,13,14] (sv 23 (iT (ca c k)) ?_))
  refine sv 24 (.bool (decide ((ca c k)<(0:Int)))) ?_
  rcases Bool.eq_false_or_eq_true (decide ((ca c k)<(0:Int))) with hb25 | hb25
  ·have hx:ca c k<0∨(D.ol k:Int)≤ca c k:=.inl (of_decide_eq_true hb25)
   refine swk 25 (.bool true) [(3,26),(4,27),(5,28),(6,29),(7,30),(8,31),(9,32),(10,33),(11,34),(12,35),(13,36)] rfl (RunV.bool (x:=decide ((ca c k)<(0:Int))) (rvk (by kernel_rfl)) hb25) ?_
   refine sv 37 (.bool true) (za0 (aj _ _ ?_))
   refine wp_cond_true rfl ?_
   refine wp_seq_k (fun aP ap=>rg [0] (sv 4 (iT 2) ?_))
   refine za0 (ap _ _ ?_)
   refine wp_ret ?_
   simp only [Exit.then,Exit.inBlock]
   refine bodyPost_ret (v:=(iT 2)) (za3 rfl rfl) rfl ⟨?_,hB⟩
   exact (by rw [pe_2 hd hlk hx])
  have aF:¬ ca c k<0:=of_decide_eq_false hb25
  refine sw 25 (.bool false) rfl (RunV.bool (x:=decide ((ca c k)<(0:Int))) (rvk (by kernel_rfl)) hb25) ?_
  refine sv 26 (iT (ca c k)) ?_
  refine sv 27 (pT dk 0) ?_
  refine sv 28 (pT dk 0) ?_
  refine sv 29 (pT dk 0) ?_
  refine sv 30 (pT dk 1) ?_
  refine sw 31 os rfl (rk 23 1 hL) ?_
  refine sv 32 (iT (k:Int)) ?_
  refine sw 33 (adr os (k*1)) rfl (zc0 (e:=72) hD.os za8 (by decide) k (by omega) _ _ _ rfl rfl rfl (by kernel_rfl) (by kernel_rfl)) ?_
  obtain ⟨_,_,⟨ak,rfl,ah⟩,ai⟩:=Sl.get hD.os (by decide) (zc3 (f:=(fun z0=>tb (fun z1=>(D.op z0 z1)) (D.ol z0))) (n:=D.n) (i:=k) (by omega))
  refine sw 34 ak rfl (ze6 ak (ai.gr hB) _ _ rfl rfl (by kernel_rfl)) ?_
  refine sw 35 (iT ((D.ol k:Nat):Int)) rfl (zb0 (e:=68) ah (za9 rfl) _ _ rfl rfl (by kernel_rfl)) ?_
  refine sv 36 (.bool (decide (((D.ol k:Nat):Int)≤(ca c k)))) ?_
  refine sv 37 (.bool (decide (((D.ol k:Nat):Int)≤(ca c k)))) (za0 (aj _ _ ?_))
  refine wp_cond_split rfl (fun ad=>?_) (fun ad=>?_)
  ·have hx:ca c k<0∨(D.ol k:Int)≤ca c k:=.inr (of_decide_eq_true ad)
   refine wp_seq_k (fun aX ar=>rg [0] (sv 4 (iT 2) ?_))
   refine za0 (ar _ _ ?_)
   refine wp_ret ?_
   simp only [Exit.then,Exit.inBlock]
   refine bodyPost_ret (v:=(iT 2)) (za3 rfl rfl) rfl ⟨?_,hB⟩
   exact (by rw [pe_2 hd hlk hx])
  have az:¬ (D.ol k:Int)≤ca c k:=of_decide_eq_false ad
  refine wp_skip ?_
  refine aw _ _ ?_
  refine rg [0,1] ?_
  refine sw 38 (iT ((k:Int)+1)) rfl (rwI ((k:Int)+1)) ?_
  refine sv 18 (iT ((k:Int)+1)) ?_
  refine za0 ?_
  refine aq (c.length - (k+1)) ⟨List.toArray ?l30,[]⟩ _ (by omega) ?_
  exact ⟨k+1,(fun i=>List.getD ?l30 i undef),rfl,rfl,(by omega),ext1 hf aF az,hL,hB⟩
 have hek:c.length=k:=by have:=of_decide_eq_false ac;omega
 refine wp_exit ?_
 simp only [Exit.then,Exit.inBlock,↓reduceIte]
 refine av _ _ ?_
 refine wp_seq_k (fun aM aA=>rg [0] (sv 4 (iT 0) ?_))
 refine za0 (aA _ _ ?_)
 refine wp_ret ?_
 refine bodyPost_ret (v:=(iT 0)) (za3 rfl rfl) rfl ⟨?_,hB⟩
 exact (by rw [pe_0 hd (by rw [hek];exact hf)])

theorem zq0 {D:Ofr} {dk:Nat} {ds os rs sp cs ch:Value} (ok:D.Ok) {w:World} (hL:Lc w dk #[ds,os,rs,sp,cs,ch] 158) (hD:Dsk w D ds os rs sp cs ch) {TT:Nat} {c:List Int} {v:Value} (hl:Sl EI64 TT 1 w v (tb (fun z1=>(ca c z1)) c.length)):
    Calls Tryz.prog 47 #[pT dk 0,v] w fun e w'=>e=.returned (iT (D.ce c))∧Gr w w':=by
 have n1:=ok.n1
 have n2:=ok.n2
 have aj:=ok.q2
 go_enter Tryz.func47,Tryz.ntmps47
 have hB:=Gr.refl w
 refine wp_seq_k (fun av ac=>rg [0] (sv 4 (iT 0) ?_))
 refine za0 (ac _ _ ?_)
 refine wp_seq_k (fun al ad=>wp_seq_k (fun aq ae=>rg [0,1,2,3,4,5,6,7,8] (sv 5 v ?_)))
 refine sw 6 (iT ((c.length:Nat):Int)) rfl (zb0 (e:=3) hl (za9 rfl) _ _ rfl rfl (by kernel_rfl)) ?_
 refine sv 7 (pT dk 0) ?_
 refine sv 8 (pT dk 0) ?_
 refine sv 9 (pT dk 0) ?_
 refine sv 10 (pT dk 0) ?_
 refine sw 11 ds rfl (rk 22 0 hL) ?_
 refine sw 12 (iT ((D.n:Nat):Int)) rfl (zb0 (e:=71) hD.ds (za9 rfl) _ _ rfl rfl (by kernel_rfl)) ?_
 refine sv 13 (.bool (((c.length:Nat):Int) !=((D.n:Nat):Int))) (za0 (ae _ _ ?_))
 refine wp_cond_split rfl (fun aa=>?_) (fun aa=>?_)
 ·have hd:=bne_t aa
  refine wp_seq_k (fun au af=>rg [0] (sv 4 (iT 13) ?_))
  refine za0 (af _ _ ?_)
  refine wp_ret ?_
  simp only [Exit.then]
  refine bodyPost_ret (v:=(iT 13)) (za3 rfl rfl) rfl ⟨?_,hB⟩
  exact (by rw [ce_13 hd])
 have hd:=bne_f aa
 refine wp_skip ?_
 refine ad _ _ ?_
 refine wp_seq_k (fun ak ai=>rg [0,1,2,3] (sv 14 (pT dk 0) ?_))
 refine sv 15 v ?_
 refine se ?_
 refine ec 16 (zv9 ok hL (⟨hD.ds.gr zb8 hB,hD.os.gr (za1 za6 68 3) hB,hD.rs.gr zb9 hB,hD.sp.gr (za1 (za1 (za7 64) 124 8) 162 1) hB,hD.cs.gr (za5 64) hB,hD.ch.gr za2 hB⟩:Dsk _ D _ _ _ _ _ _) (hl.gr za2 hB)) ?_
 rintro ap ar ⟨rfl,ah⟩
 refine ⟨_,rfl,?_⟩
 replace hB:=hB.trans ah
 simp only [p3,p4]
 refine sv 4 (iT (D.pe c)) (za0 (ai _ _ ?_))
 refine wp_ret ?_
 refine bodyPost_ret (v:=(iT (D.pe c))) (za3 rfl rfl) rfl ⟨?_,hB⟩
 exact (by rw [ce_pe hd])

end Go.Proofs.YtjhflekncldflaaGreatDoor
namespace Go.Proofs.YtjhflekncldflaaGreatDoor
open Go.RowKit
section
variable {α:Type} {P:Program} {a:Act} {o:Oper} {w:World} {Q:Exit→Act→World→Prop} {K:Act→World→Prop}
def capv (v:Value) (n c:Nat):Value:=
 match v with
 | .slice ao _ _=>.slice (if n=0 then ao else ao.map (·.add (0*c))) (n - 0) (n - 0)
 | _=>undef
theorem zv2 {E:World→α→List Value→Prop} {T:TypeId} {c:Nat} {v:Value} {xs:List α} {w0:World} (h:Sl E T c w0 v xs) (n:Nat) (hn:xs.length=n) (t:TypeId) (x hi mx:Operand) (hop:o.op=.slice t x none (some hi) (some mx)) (hx:a.eval x=v)
  (hhi:a.eval hi=.int .i64 (n:Int)) (hmx:a.eval mx=.int .i64 (n:Int)) {e:TypeId} (hu:P.underlying t=some (.slice e)) (hs:(P.info? e).map (·.size)=some c):RunV P a o w (capv v n c):=by
 obtain ⟨ao,cap,rfl,hcap⟩:=h.form
 subst hn
 obtain ⟨i,hi',_⟩:=Option.map_eq_some_iff.1 hs
 unfold RunV execOp
 simp only [hop,hx]
 have b1:(Instr.sliceBound (.int .i64 (xs.length:Int)) cap .slice3Acap).run P w=.ok xs.length w:=by simp [Instr.sliceBound,asIntOf];omega
 have b2:(Instr.sliceBound (.int .i64 (xs.length:Int)) xs.length .slice3B).run P w=.ok xs.length w:=by simp [Instr.sliceBound,asIntOf]
 simp [Instr.sliceAt,Instr.slice,run_underlying hu,Instr.sliceBounds,sizeOf,typeInfo,hi',capv,hhi,hmx,b1,b2]
theorem Sl.capv {E:World→α→List Value→Prop} {T:TypeId} {c:Nat} {v:Value} {xs:List α} (h:Sl E T c w v xs) {n:Nat} (hn:xs.length=n):Sl E T c w (capv v n c) xs:=by
 obtain ⟨ys,⟨ao,cap,rfl,hcap,hc⟩,hE⟩:=h
 subst hn
 refine ⟨ys,⟨_,xs.length,rfl,Nat.le_refl _,fun hp=>?_⟩,hE⟩
 obtain ⟨b,off,cs,fr,e1,e2,e3⟩:=hc hp
 refine ⟨b,off,cs,fr,?_,e2,e3⟩
 subst e1
 split
 ·rfl
 simp [Addr.add]
theorem zv3 {E:World→α→List Value→Prop} {ts:List TypeId} (hS:zn8 E ts) (s x:Operand) (t:TypeId) (T:Nat) (z:Value) (v:Value) (n:Nat) (xs:List α) (b:Nat) (us:List Value) (x0:α) (c cx:Nat) (d:Option Tmp) (bytes:Nat) (hd:o.dst=d)
  (ho:o.op=.call {callee:=.builtin .append,args:=#[s,x],argTypes:=#[t,t]}) (hs:a.eval s=capv v n c) (hx:a.eval x=.slice (some ⟨b,0,none⟩) 1 cx)
  (hv:Sl E T c w v xs) (hlen:xs.length=n) (hL:Lc w b us.toArray T) (hu:One1 us) (hl:us.length=c) (hE:E w x0 us) (hn:n≤1000000) (hbytes:bytes≤1000)
  (ht:P.underlying t=some (.slice T)) (hi:(P.info? T).map (fun i=>(i.zero,i.size,i.bytes))=some (some z,c,bytes)) (hzs:z.cells.size=c∧0<c)
  (h:∀ v' w',Ow E T c w' w.heap.size v' (xs++[x0])→Gr w w'→K (a.put d v') w'):o.wp P a w K Q:=by
 subst hd
 obtain ⟨i,hi,hz,hsize,hby⟩:=info_parts hi
 have ah:(xs.length+1)*bytes≤1000001*1000:=Nat.mul_le_mul (by omega) hbytes
 have af:=hv.capv hlen
 have hnews:∀ j y,us[j]?=some y→w.cell? ((⟨b,0,none⟩:Addr).add j)=some y:=fun j y hj=>by
  have e:(⟨b,0,none⟩:Addr).add j=⟨b,j,none⟩:=by by_cases h0:j=0<;>simp [Addr.add,h0]
  rw [e,zc1 hL];simpa using hj
 have key:∃ v' w' ys,(Builtin.append_ #[t,t] o.type #[capv v n c,.slice (some ⟨b,0,none⟩) 1 cx]).run P w=.ok v' w'∧w'.ownsRow w.heap.size T c v' (xs.length+1) (ys++us)∧w.grownBy w' none∧Els E c w ys xs:=by
  obtain ⟨ys,⟨ao,cap,e,hcap,hc⟩,hEl⟩:=af
  have hcn:cap=n:=by
   obtain ⟨ai,ae,e2,_⟩:=hv.form
   subst e2
   unfold Proofs.YtjhflekncldflaaGreatDoor.capv at e
   injection e with _ _ e3
   omega
  subst hcn
  have holds:∀ b2,ao=some b2→∀ j u,ys[j]?=some u→w.cell? (b2.add j)=some u:=fun b2 hb j u hj=>by
   have hp:j<ys.length:=(List.getElem?_eq_some_iff.1 hj).1
   obtain ⟨b3,off,cs,fr,e1,e2,e3⟩:=hc (by omega)
   rw [hb] at e1
   obtain rfl:=Option.some.inj e1
   have e4:(⟨b3,off,none⟩:Addr).add j=⟨b3,off+j,none⟩:=by by_cases h0:j=0<;>simp [Addr.add,h0]
   rw [e4,zc1 e2,e3 j hp];exact hj
  rw [e]
  cases ao with
  | some b2=>
   obtain ⟨v',w',r,k1,k2⟩:=run_append_arg_grows (P:=P) w t o.type T i z c bytes ht hi hz hsize hby hzs.1 hzs.2 b2 xs.length cap ys hEl.1 (holds b2 rfl) ⟨b,0,none⟩ 1 cx us (by omega) hnews (by omega) (by unfold maxLen;omega) (by omega)
   exact ⟨v',w',ys,r,k1,k2,hEl⟩
  | none=>
   have aa:ys=[]:=List.eq_nil_of_length_eq_zero (by
    rcases Nat.eq_zero_or_pos ys.length with h0 | h0
    ·exact h0
    obtain ⟨_,_,_,_,e1,_⟩:=hc h0
    cases e1)
   have ac:xs.length=0:=by
    have:=hEl.1
    rw [aa] at this
    rcases Nat.eq_zero_or_pos xs.length with h0 | h0
    ·exact h0
    have:=Nat.mul_pos h0 hzs.2
    simp at*;omega
   have ad:cap=0:=by omega
   subst ad
   rw [ac]
   obtain ⟨v',w',r,k1,k2,_⟩:=run_append_own (P:=P) w w.heap.size t o.type T i z c bytes ht hi hz hsize hby hzs.1 hzs.2 (.slice none 0 0) 0 [] (World.ownsRow_nil w _ T c) ⟨b,0,none⟩ 1 cx us (by omega) hnews hu.all (by unfold maxLen;omega) (by omega) (Nat.le_refl _)
   exact ⟨v',w',[],r,by simpa using k1,by simpa [Value.ownBlock] using k2,by rw [← aa];exact hEl⟩
 obtain ⟨v',w',ys,hr,k1,k2,hEl⟩:=key
 have hg:Gr w w':=⟨k2.os,k2.tape,k2.output,k2.size,fun k hk=>k2.block k hk (fun e=>by cases e)⟩
 unfold Oper.wp execOp
 simp only [ho,resolve,invoke,builtin,Sem.run_bind,Sem.run_pure,Result.andThen_ok,List.map_toArray,List.map_cons,List.map_nil,hs,hx,hr]
 exact h v' w' ⟨_,by simpa using k1,(hEl.snoc hl hE).kts hS (hg.kts ts)⟩ hg
end
structure Wx (B:Nat) (T0:TypeId) (bx:Nat) (ts:List TypeId) (w w':World):Prop where
 os:w'.os=w.os
 tape:w'.tape=w.tape
 output:w'.output=w.output
 size:w.heap.size≤w'.heap.size
 block:∀ (b:Nat) (cs:Array Value) (t:TypeId) (fr:Nat × Nat),ts.contains t=false→(t=T0→b≠bx)→w.heap[b]?=some (.cells cs t fr)→w'.heap[b]?=some (.cells cs t fr)
 below:∀ w0,Gr w0 w→w0.heap.size≤B→Gr w0 w'
section
variable {B bx:Nat} {T0:TypeId} {ts:List TypeId} {w w1 w2:World}
theorem Wx.refl (w:World):Wx B T0 bx ts w w:=⟨rfl,rfl,rfl,Nat.le_refl _,fun _ _ _ _ _ _ h=>h,fun _ h _=>h⟩
theorem Wx.trans2 (h:Wx B T0 bx ts w w1) (g:Wx B T0 bx ts w1 w2):Wx B T0 bx ts w w2:=
 ⟨g.os.trans h.os,g.tape.trans h.tape,g.output.trans h.output,Nat.le_trans h.size g.size,fun b cs t fr ht hn hb=>g.block b cs t fr ht hn (h.block b cs t fr ht hn hb),fun w0 h0 hb=>g.below w0 (h.below w0 h0 hb) hb⟩
theorem Wx.of_gr (g:Gr w w1):Wx B T0 bx ts w w1:=
 ⟨g.os,g.tape,g.output,g.size,fun b cs t fr _ _ hb=>(g.block b (ze8 hb)).trans hb,fun _ h0 _=>h0.trans g⟩
theorem Wx.trans (h:Wx B T0 bx ts w w1) (g:Gr w1 w2):Wx B T0 bx ts w w2:=h.trans2 (.of_gr g)
theorem Wx.st {cs:Array Value} (h:Wx B T0 bx ts w w1) (st:St w1 w2 bx) (L:Lc w1 bx cs T0) (hb:B≤bx):Wx B T0 bx ts w w2:=
 h.trans2 ⟨st.os,st.tape,st.output,Nat.le_of_eq st.size.symm,fun c ds u fr _ hn hc=>by
  by_cases e:c=bx
  ·subst e
   unfold Lc at L
   rw [L] at hc
   injection hc with hc
   injection hc with _ e2 _
   exact absurd rfl (hn e2.symm)
  exact (st.block c e).trans hc,fun w0 h0 hw=>st.gr h0 (by omega)⟩
theorem Wx.sto {b:Nat} (h:Wx B T0 bx ts w w1) (st:St w1 w2 b) (q:w.heap.size≤b) (hb:B≤w.heap.size):Wx B T0 bx ts w w2:=
 ⟨st.os.trans h.os,st.tape.trans h.tape,st.output.trans h.output,Nat.le_trans h.size (Nat.le_of_eq st.size.symm),fun c ds u fr hu hn hc=>by
  have:=ze8 hc
  exact (st.block c (by omega)).trans (h.block c ds u fr hu hn hc),fun w0 h0 hw=>st.gr (h.below w0 h0 hw) (by omega)⟩
theorem Wx.wt {T:TypeId} (h:Wx B T0 bx ts w w1) (g:Wt T w1 w2) (ht:ts.contains T=true) (hg:∀ w0,Gr w0 w1→w0.heap.size≤B→Gr w0 w2):Wx B T0 bx ts w w2:=
 h.trans2 ⟨g.os,g.tape,g.output,g.size,fun b cs t fr hu _ hb=>g.block b cs t fr (fun e=>by rw [e,ht] at hu;cases hu) hb,hg⟩
theorem Wx.kt {t:TypeId} (h:Wx B T0 bx ts w w1) (ht:((T0::ts).contains t)=false):Kt t w w1:=fun b cs fr hb=>by
 rw [List.contains_cons] at ht
 simp only [Bool.or_eq_false_iff,beq_eq_false_iff_ne] at ht
 exact h.block b cs t fr ht.2 (fun e=>absurd e ht.1) hb
theorem Wx.kp (h:Wx B T0 bx ts w w1) (ht:((T0::ts).contains 171)=false):Kp w w1:=fun b cs fr hb=>h.kt ht b cs fr hb
theorem Wx.kts {us:List TypeId} (h:Wx B T0 bx ts w w1) (ht:(us.all fun t=>!((T0::ts).contains t))=true):Kts us w w1:=fun t hm=>h.kt (by have:=List.all_eq_true.1 ht t hm;rw [Bool.not_eq_true'] at this;exact this)
theorem Wx.lc {b:Nat} {cs:Array Value} {t:TypeId} (h:Wx B T0 bx ts w w1) (hL:Lc w b cs t) (ht:((T0::ts).contains t)=false):Lc w1 b cs t:=h.kt ht b cs _ hL
theorem Wx.lcn {b:Nat} {cs:Array Value} (h:Wx B T0 bx ts w w1) (hL:Lc w b cs T0) (hn:b≠bx) (ht:ts.contains T0=false:=by decide):Lc w1 b cs T0:=h.block b cs T0 _ ht (fun _=>hn) hL
end
theorem zf6 {P:Program} {w:World} {fn:Func} {tmps:Array Value} (h:fn.results=#[]):(results fn tmps).run P w=.ok (.tuple #[]) w:=by simp [results,h]
theorem zH0 {l:List Nat} {k:Nat}:tb (fun z1=>((Ofr.at_ l z1:Nat):Int)) l.length++[((k:Nat):Int)]=tb (fun z1=>((Ofr.at_ (l++[k]) z1:Nat):Int)) (l++[k]).length:=by
 rw [List.length_append,List.length_singleton,← zf4 (by rw [at_new])]
 congr 1
 exact zu9 fun i hi=>by rw [zE9 hi]
def Ofr.fold (D:Ofr) (g:Nat) (l:List Nat) (s:Bst) (k:Nat):Bst:=(List.range k).foldl (fun s k=>D.srch g (l++[k]) s) s
section
variable {D:Ofr} {g k:Nat} {l:List Nat} {s:Bst}
theorem zH1:D.srch g (l++[k]) (D.fold g l s k)=D.fold g l s (k+1):=by unfold Ofr.fold;rw [List.range_succ,List.foldl_append];rfl
theorem srch_be (h:D.beats s l=true):D.srch (g+1) l s=s:=by unfold Ofr.srch;rw [if_pos h]
theorem yc6 (h:D.beats s l=false) (h2:(fz D l).2≠0):D.srch (g+1) l s=s:=by
 unfold Ofr.srch;rw [if_neg (by rw [h];decide),if_pos (zp1.1 h2)]
theorem yc7 (h:D.beats s l=false) (h2:(fz D l).2=0) (h3:l.length=D.n):D.srch (g+1) l s=⟨true,l,D.bd l⟩:=by
 unfold Ofr.srch;rw [if_neg (by rw [h];decide),if_neg (fun e=>zp1.2 e h2),if_pos h3]
theorem yc8 (h:D.beats s l=false) (h2:(fz D l).2=0) (h3:¬ l.length=D.n):D.srch (g+1) l s=D.fold g l s (D.ol l.length):=by
 unfold Ofr.srch;rw [if_neg (by rw [h];decide),if_neg (fun e=>zp1.2 e h2),if_neg h3];rfl
theorem yc9 (h:s.ok=false):D.beats s l=false:=by unfold Ofr.beats;rw [h];rfl
theorem zD0 {b:Bool} (h:s.ok=true) (h2:decide (s.co≤D.bd l)=b):D.beats s l=b:=by unfold Ofr.beats;rw [h,h2];rfl
end
def EPk (_:World) (x:Int × Int) (vs:List Value):Prop:=vs=[.int .i64 x.1,.int .i64 x.2]
theorem ze9:zn8 EPk []:=fun _ _ _ _ _ h=>h
theorem pk_tb {l:List Nat}:tb (fun z1=>((z1:Int),((Ofr.at_ l z1:Nat):Int))) l.length=pk l:=rfl
theorem zT5 {l:List Nat}:tb (fun z1=>((Ofr.at_ l z1:Nat):Int)) l.length=zs6 l:=by
 unfold zs6
 apply List.ext_getElem?
 intro i
 rcases Nat.lt_or_ge i l.length with hi | hi
 ·rw [zc3 hi,List.getElem?_map,List.getElem?_eq_getElem hi]
  unfold Ofr.at_
  rw [List.getD_eq_getElem?_getD,List.getElem?_eq_getElem hi];rfl
 rw [List.getElem?_eq_none (by rw [za8];omega),List.getElem?_map,List.getElem?_eq_none hi];rfl
def ELf (w:World) (x:Leaf) (vs:List Value):Prop:=∃ u v,vs=[u,.int .i64 x.least,.int .i64 x.rq,v]∧Sl EPk 104 2 w u x.fx∧Sl ETxt 33 1 w v x.du
theorem zc2:zn8 ELf [104,33]:=fun w w' x vs hk h=>by
 obtain ⟨u,v,e,h1,h2⟩:=h
 exact ⟨u,v,e,h1.kts ze9 fun t ht=>hk t (by simp at ht;subst ht;simp),h2.kts zk7 fun t ht=>hk t (by simp at ht;subst ht;simp)⟩
theorem zL0 {w:World} {b:Nat} {X:List UInt8} {T:TypeId} (h:Lc w b #[ze3 X] T):Sl ETxt T 1 w (.slice (some ⟨b,0,none⟩) 1 1) [X]:=by
 refine ⟨[]++[ze3 X],⟨_,1,rfl,Nat.le_refl _,fun _=>⟨b,0,_,_,rfl,h,fun j hj=>?_⟩⟩,(Els.nil ETxt 1 w).snoc rfl rfl⟩
 rw [Nat.zero_add]
 simp at hj;subst hj;rfl
section
variable {D:Ofr} {g k:Nat} {l:List Nat} {s:Bst}
def Ofr.lvs (D:Ofr) (s:Bst) (g:Nat) (l:List Nat) (k:Nat):List Leaf:=(List.range k).flatMap fun k=>D.leaves s g (l++[k])
theorem zL1 {pf:List Leaf}:pf=pf++D.lvs s g l 0:=(List.append_nil _).symm
theorem zL2 {pf:List Leaf}:pf++D.lvs s g l k++D.leaves s g (l++[k])=pf++D.lvs s g l (k+1):=by
 unfold Ofr.lvs;rw [List.range_succ,List.flatMap_append,List.append_assoc];simp
theorem lv_be (h:D.beats s l=true):D.leaves s (g+1) l=[⟨pk l,D.bd l,-1,[]⟩]:=by unfold Ofr.leaves;rw [if_pos h]
theorem ratL_m1:zd4 (((-1:Int)):Rat)=[45,49]:=by decide+kernel
theorem ratL_p1:zd4 (((1:Int)):Rat)=[49]:=by decide+kernel
theorem lv_ff (h:D.beats s l=false) (h2:(fz D l).2≠0):D.leaves s (g+1) l=[⟨pk l,0,(fz D l).1,[zd4 (((fz D l).2:Int):Rat)]⟩]:=by
 unfold Ofr.leaves;rw [if_neg (by rw [h];decide)]
 unfold fz at h2 ⊢
 cases e:D.ff l with
 | none=>rw [e] at h2;exact absurd rfl h2
 | some r=>
  show [Leaf.mk (pk l) 0 (r:Int) [sideT (D.side l r)]]=[Leaf.mk (pk l) 0 (r:Int) [zd4 ((D.side l r:Int):Rat)]]
  unfold Ofr.side sideT
  split
  ·rw [ratL_p1];rfl
  rw [ratL_m1];rfl
theorem lv_go (h:D.beats s l=false) (h2:(fz D l).2=0) (h3:¬ l.length=D.n):D.leaves s (g+1) l=D.lvs s g l (D.ol l.length):=by
 unfold Ofr.leaves;rw [if_neg (by rw [h];decide)]
 have e:D.ff l=none:=by
  cases e:D.ff l with
  | none=>rfl
  | some r=>exact absurd h2 (zp1.2 (by rw [e];rfl))
 rw [e]
 show (if l.length=D.n then [] else _)=_
 rw [if_neg h3];rfl
theorem fz_b:-1≤(fz D l).2∧(fz D l).2≤1:=by
 unfold fz
 cases D.ff l with
 | none=>exact ⟨(by decide:(-1:Int)≤0),(by decide:(0:Int)≤1)⟩
 | some r=>simp only [Ofr.side];split<;>decide
theorem zL3 (hs:∀ c,D.good c→s.ok=true∧s.co≤D.bd c) (hv:D.vp l) (h:D.beats s l=false) (h2:(fz D l).2=0):¬ l.length=D.n:=fun e=>by
 have hg:D.good l:=⟨hv,e,by
  cases e2:(D.ff l).isSome with
  | false=>rfl
  | true=>exact absurd h2 (zp1.2 e2)⟩
 obtain ⟨a,b⟩:=hs l hg
 unfold Ofr.beats at h
 rw [a] at h
 simp at h;omega
end
def Ofr.pm (D:Ofr):Nat→Nat→Nat
 | 0,_=>1
 | g+1,i=>if i=D.n then 1 else D.ol i*D.pm g (i+1)
section
variable {D:Ofr} {s:Bst} {pf:List Leaf} {g k:Nat} {l:List Nat}
theorem zD9 (ok:D.Ok):∀ {g i:Nat},i≤D.n→0<D.pm g i
 | 0,_,_=>Nat.one_pos
 | g+1,i,h=>by
  unfold Ofr.pm
  split
  ·exact Nat.one_pos
  exact Nat.mul_pos (ok.o1 i (by omega)) (zD9 ok (by omega))
theorem lvs_le (h:∀ j,j<k→(D.leaves s g (l++[j])).length≤D.pm g (l.length+1)):(D.lvs s g l k).length≤k*D.pm g (l.length+1):=by
 unfold Ofr.lvs
 induction k with
 | zero=>simp
 | succ K ih=>
  have h3:=ih fun j hj=>h j (by omega)
  have h2:=h K (by omega)
  have e:([K].flatMap fun k=>D.leaves s g (l++[k]))=D.leaves s g (l++[K]):=by simp
  rw [List.range_succ,List.flatMap_append,List.length_append,Nat.succ_mul,e]
  omega
theorem zE0 (ok:D.Ok):∀ (g:Nat) (l:List Nat),D.n<l.length+g→D.vp l→(D.leaves s g l).length≤D.pm g l.length
 | 0,_,hg,hv=>absurd hv.1 (by omega)
 | g+1,l,hg,hv=>by
  have h1:=zD9 ok (g:=g+1) hv.1
  unfold Ofr.leaves
  split
  ·simp;omega
  split
  ·simp;omega
  split
  ·simp
  next hn=>
  have aa:=hv.1
  unfold Ofr.pm
  rw [if_neg hn]
  exact lvs_le fun j hj=>by
   have:=zE0 ok g (l++[j]) (by simp;omega) (hv.snoc (by omega) hj)
   rwa [List.length_append,List.length_singleton] at this
theorem zL4 (ok:D.Ok) (hg:D.n<l.length+(g+1)) (hv:D.vp l) (hn:¬ l.length=D.n) (hk:k<D.ol l.length) (h:pf.length+D.pm (g+1) l.length≤1000000):(pf++D.lvs s g l k).length+D.pm g (l++[k]).length≤1000000:=by
 have aa:=hv.1
 have h1:(D.lvs s g l k).length≤k*D.pm g (l.length+1):=lvs_le fun j hj=>by
  have:=zE0 (s:=s) ok g (l++[j]) (by simp;omega) (hv.snoc (by omega) (by omega))
  rwa [List.length_append,List.length_singleton] at this
 unfold Ofr.pm at h
 rw [if_neg hn] at h
 have h2:(k+1)*D.pm g (l.length+1)≤D.ol l.length*D.pm g (l.length+1):=Nat.mul_le_mul_right _ hk
 rw [Nat.succ_mul] at h2
 rw [List.length_append,List.length_append,List.length_singleton]
 omega
theorem pm_pr:∀ (g i:Nat),D.n<i+g→i≤D.n→D.pr i*D.pm g i=D.pr D.n
 | 0,i,h,h2=>absurd h (by omega)
 | g+1,i,h,h2=>by
  unfold Ofr.pm
  split
  ·next e=>rw [e,Nat.mul_one]
  rw [← Nat.mul_assoc]
  exact pm_pr g (i+1) (by omega) (by omega)
theorem pm_few (ok:D.Ok):D.pm (D.n+1) 0≤4096:=by
 have h:=pm_pr (D:=D) (D.n+1) 0 (by omega) (Nat.zero_le _)
 have h2:=ok.few
 have h3:D.pr 0=1:=rfl
 rw [h3,Nat.one_mul] at h
 omega
end
end Go.Proofs.YtjhflekncldflaaGreatDoor
namespace Go.Proofs.YtjhflekncldflaaGreatDoor
set_option maxRecDepth 100000
set_option maxHeartbeats 2000000
open Go.RowKit

theorem zL9 {l:List Nat} (_hn:l.length≤12) {w:World} {v:Value} (hl:Sl EI64 3 1 w v (tb (fun z1=>((Ofr.at_ l z1:Nat):Int)) l.length)):
    Calls Tryz.prog 55 #[v] w fun e w'=>(∃ u,e=.returned u∧Sl EPk 104 2 w' u (tb (fun z1=>((z1:Int),((Ofr.at_ l z1:Nat):Int))) l.length))∧Gr w w':=by
 go_enter Tryz.func55,Tryz.ntmps55
 have hB:=Gr.refl w
 refine wp_seq_k (fun aJ ar=>rg [0] (sv 2 (sN) ?_))
 refine za0 (ar _ _ ?_)
 refine wp_seq_k (fun aG av=>rg [0] (sv 3 (sN) ?_))
 refine za0 (av _ _ ?_)
 refine wp_seq_k (fun aH ak=>wp_seq_k (fun aF az=>rg [0,1,2] (sv 6 v ?_)))
 refine sw 7 (iT ((l.length:Nat):Int)) rfl (zb0 (e:=3) hl (za9 rfl) _ _ rfl rfl (by kernel_rfl)) ?_
 refine sv 8 (iT 0) (za0 (az _ _ ?_))
 refine wp_block ?_
 refine zb1 (a:=⟨List.toArray ?l14,[]⟩) (fun n a w'=>∃ (j:Nat) (vo:Value) (aa:Nat→Value),l.length - j=n∧a=⟨[v,undef,sN,vo,aa 4,aa 5,v,iT ((l.length:Nat):Int),iT (j:Int),aa 9,aa 10,aa 11,aa 12,aa 13,aa 14,aa 15,aa 16,aa 17,aa 18,aa 19,undef].toArray,[]⟩∧j≤l.length∧Ow EPk 104 2 w' w.heap.size vo (tb (fun z1=>((z1:Int),((Ofr.at_ l z1:Nat):Int))) j)∧Gr w w') (l.length - 0) ?_ ?_
 ·exact ⟨0,sN,(fun i=>List.getD ?l14 i undef),rfl,rfl,Nat.zero_le _,Ow.nil _ _ _ _ _,hB⟩
 rintro aK aQ aI ⟨j,vo,aa,rfl,rfl,hkj,oo,hB⟩ aO al
 refine wp_seq_k (fun aE ax=>rg [0] (sv 9 (.bool (decide ((j:Int)<((l.length:Nat):Int)))) ?_))
 refine za0 (ax _ _ ?_)
 refine wp_seq_k (fun aP ap=>?_)
 refine wp_cond_split rfl (fun ac=>?_) (fun ac=>?_)
 ·have hlj:j<l.length:=by have:=of_decide_eq_true ac;omega
  refine wp_skip ?_
  refine ap _ _ ?_
  refine wp_seq_k (fun aD aw=>?_)
  refine wp_block ?_
  refine wp_seq_k (fun aM au=>rg [0,1,2,3,4] (sv 10 (iT (j:Int)) ?_))
  refine sw 11 (adr v (j*1)) rfl (zc0 (e:=3) hl za8 (by decide) j (by omega) _ _ _ rfl rfl rfl (by kernel_rfl) (by kernel_rfl)) ?_
  obtain ⟨_,_,rfl,ae⟩:=Sl.get hl (by decide) (zc3 (f:=(fun z1=>((Ofr.at_ l z1:Nat):Int))) (n:=l.length) (i:=j) (by omega))
  refine sw 12 (iT ((Ofr.at_ l j:Nat):Int)) rfl (ze6 (iT ((Ofr.at_ l j:Nat):Int)) (ae.gr hB) _ _ rfl rfl (by kernel_rfl)) ?_
  refine sv 4 (iT (j:Int)) ?_
  refine sv 5 (iT ((Ofr.at_ l j:Nat):Int)) (za0 (au _ _ ?_))
  refine rg [0,1,2,3,4,5,6] (sv 13 vo ?_)
  refine sv 14 (iT (j:Int)) ?_
  refine sv 15 (iT ((Ofr.at_ l j:Nat):Int)) ?_
  refine sv 16 (.agg #[iT (j:Int),iT ((Ofr.at_ l j:Nat):Int)]) ?_
  refine se ?_
  refine zc5 104 1 #[iT (j:Int),iT ((Ofr.at_ l j:Nat):Int)] (some 17) rfl (fun _=>by kernel_rfl) (fun aq aL ai ay aB=>?_)
  replace hB:=hB.trans ai
  simp only [zd1,p3,p4]
  refine se ?_
  replace oo:=oo.gr ze9 ai
  refine zg8 ze9 _ _ 105 104 w.heap.size (.agg #[iT 0,iT 0]) vo (tb (fun z1=>((z1:Int),((Ofr.at_ l z1:Nat):Int))) j) aq [iT (j:Int),iT ((Ofr.at_ l j:Nat):Int)] (((j:Int):Int),(((Ofr.at_ l j:Nat):Int):Int)) 2 1 (some 18) 16 rfl rfl rfl rfl oo ay ⟨rfl,rfl,trivial⟩ rfl rfl (Below.size hB) (by rw [za8];omega) (by decide) (by kernel_rfl) (by kernel_rfl) (by decide) (by decide) (fun ah aN ad aj af=>?_)
  replace hB:=af _ hB (Nat.le_refl _)
  replace ad:=ad.cast (zf4 (f:=(fun z1=>((z1:Int),((Ofr.at_ l z1:Nat):Int)))) (n:=j) (by first | rfl | exact zf8))
  simp only [zd1,p3,p4]
  refine sv 3 ah (za0 (aw _ _ ?_))
  refine rg [0,1] ?_
  refine sw 19 (iT ((j:Int)+1)) rfl (rwI ((j:Int)+1)) ?_
  refine sv 8 (iT ((j:Int)+1)) ?_
  refine za0 ?_
  refine al (l.length - (j+1)) ⟨List.toArray ?l23,[]⟩ _ (by omega) ?_
  exact ⟨j+1,ah,(fun i=>List.getD ?l23 i undef),rfl,rfl,(by omega),ad,hB⟩
 have hej:l.length=j:=by have:=of_decide_eq_false ac;omega
 refine wp_exit ?_
 simp only [Exit.then,Exit.inBlock,↓reduceIte]
 refine ak _ _ ?_
 refine wp_seq_k (fun aC aA=>rg [0,1] (sv 20 vo ?_))
 refine sv 2 vo (za0 (aA _ _ ?_))
 refine wp_ret ?_
 refine bodyPost_ret (v:=vo) (za3 rfl rfl) rfl ⟨?_,hB⟩
 exact ⟨_,rfl,Sl.cast (oo.sl) (by rw [hej])⟩

theorem cl_int_n {N cx:Nat} {F:Nat→Int} (_hN:N≤1000) {w:World} (hs:Sl EI64 3 1 w (.slice none N cx) (tb F N)):
    Calls Tryz.prog 53 #[.slice none N cx] w fun e w'=>(∃ u,e=.returned u∧Ow EI64 3 1 w' w.heap.size u (tb F N))∧Gr w w':=by
 go_enter Tryz.func53,Tryz.ntmps53
 have hB:=Gr.refl w
 refine wp_seq_k (fun ae aa=>rg [0] (sv 2 (sN) ?_))
 refine za0 (aa _ _ ?_)
 refine wp_seq_k (fun ai af=>wp_seq_k (fun aj ac=>rg [0,1] (sv 3 (.slice none N cx) ?_)))
 refine sv 4 (.bool true) (za0 (ac _ _ ?_))
 refine wp_cond_true rfl ?_
 refine wp_seq_k (fun ah ad=>rg [0] (sv 2 (sN) ?_))
 refine za0 (ad _ _ ?_)
 refine wp_ret ?_
 simp only [Exit.then]
 refine bodyPost_ret (v:=(sN)) (za3 rfl rfl) rfl ⟨?_,hB⟩
 exact ⟨_,rfl,zS0 (hs.gr za2 hB)⟩

theorem cl_int_s {N cx:Nat} {ad:Addr} {F:Nat→Int} (_hN:N≤1000) {w:World} (hs:Sl EI64 3 1 w (.slice (some ad) N cx) (tb F N)):
    Calls Tryz.prog 53 #[.slice (some ad) N cx] w fun e w'=>(∃ u,e=.returned u∧Ow EI64 3 1 w' w.heap.size u (tb F N))∧Gr w w':=by
 go_enter Tryz.func53,Tryz.ntmps53
 have hB:=Gr.refl w
 refine wp_seq_k (fun aw ah=>rg [0] (sv 2 (sN) ?_))
 refine za0 (ah _ _ ?_)
 refine wp_seq_k (fun ay ai=>wp_seq_k (fun az aj=>rg [0,1] (sv 3 (.slice (some ad) N cx) ?_)))
 refine sv 4 (.bool false) (za0 (aj _ _ ?_))
 refine wp_cond_false rfl ?_
 refine wp_skip ?_
 refine ai _ _ ?_
 refine wp_seq_k (fun ax ap=>rg [0,1,2,3] ?_)
 refine se ?_
 refine zc5 3 0 #[] (some 5) rfl (fun _=>by kernel_rfl) (fun aq aA ar al ae=>?_)
 replace ae:=Nat.le_trans (Below.size hB) ae
 replace hB:=hB.trans ar
 simp only [zd1,p3,p4]
 refine sv 6 (.slice (some ad) N cx) ?_
 refine se ?_
 refine zK3 za2 _ _ 40 3 w.heap.size 3 (iT 0) (sT aq 0 0) ([]:List Int) (.slice (some ad) N cx) (tb F N) 1 (some 7) 8 rfl rfl rfl rfl (ow_empty (E:=EI64) (c:=1) (B:=w.heap.size) al ae) (hs.gr za2 hB) (one_i64 _) (Below.size hB) (by simp only [List.length_nil,za8];omega) (by decide) (by kernel_rfl) (by kernel_rfl) (by decide) (by decide) (fun af av aa au ac ak=>?_)
 replace hB:=ac _ hB (Nat.le_refl _)
 replace aa:=aa.cast (List.nil_append _)
 simp only [zd1,p3,p4]
 refine sv 2 af (za0 (ap _ _ ?_))
 refine wp_ret ?_
 refine bodyPost_ret (v:=af) (za3 rfl rfl) rfl ⟨?_,hB⟩
 exact ⟨_,rfl,aa⟩

theorem cl_int {N:Nat} {v:Value} {F:Nat→Int} (hN:N≤1000) {w:World} (h:Sl EI64 3 1 w v (tb F N)):
  Calls Tryz.prog 53 #[v] w fun e w'=>(∃ u,e=.returned u∧Ow EI64 3 1 w' w.heap.size u (tb F N))∧Gr w w':=by
 obtain ⟨ao,cap,hv,_⟩:=h.form
 rw [za8] at hv
 subst hv
 cases ao with
 | none=>exact cl_int_n hN h
 | some ad=>exact cl_int_s hN h
end Go.Proofs.YtjhflekncldflaaGreatDoor
namespace Go.Proofs.YtjhflekncldflaaGreatDoor
set_option maxRecDepth 100000
set_option maxHeartbeats 4000000
open Go.RowKit

def SOK (D:Ofr) (B dk ba bd bo bs:Nat) (ds os rs sp cs ch vp:Value) (g:Nat):Prop:=∀ (l:List Nat) (s:Bst) (w0 w:World) (v vc:Value),D.n<l.length+g→D.vp l→Mx w0→Gr w0 w→w0.heap.size≤B→Lc w dk #[ds,os,rs,sp,cs,ch] 158→Lc w bd #[.pointer (some ⟨dk,0,none⟩)] 118→Lc w bo #[ds,os,rs] 26→Lc w bs #[(.func (.func 52) #[] #[.pointer (some ⟨ba,0,none⟩),.pointer (some ⟨bd,0,none⟩),.pointer (some ⟨bo,0,none⟩),.pointer (some ⟨bs,0,none⟩)])] 128→Lc w ba #[.bool s.ok,vc,.int .i64 s.co,vp] 43→Dsk w D ds os rs sp cs ch→Sl EI64 3 1 w vc (zs6 s.ch)→Sl EI64 3 1 w v (tb (fun z1=>((Ofr.at_ l z1:Nat):Int)) l.length)→
  Calls Tryz.prog 52 #[v,.pointer (some ⟨ba,0,none⟩),.pointer (some ⟨bd,0,none⟩),.pointer (some ⟨bo,0,none⟩),.pointer (some ⟨bs,0,none⟩)] w fun e w'=>(∃ vd,e=.returned (.tuple #[])∧Lc w' ba #[.bool (D.srch g l s).ok,vd,.int .i64 (D.srch g l s).co,vp] 43∧Sl EI64 3 1 w' vd (zs6 (D.srch g l s).ch))∧Wx B 43 ba [] w w'
theorem zI1 {D:Ofr} {B dk ba bd bo bs g:Nat} {ds os rs sp cs ch v vc vp:Value} {l:List Nat} {s:Bst} {w0 w:World} (ok:D.Ok) (ih:SOK D B dk ba bd bo bs ds os rs sp cs ch vp g) (hBa:B≤ba) (_hg:D.n<l.length+(g+1)) (hv:D.vp l) (hm:Mx w0) (h0:Gr w0 w) (a0:w0.heap.size≤B) (hL:Lc w dk #[ds,os,rs,sp,cs,ch] 158) (aa:Lc w bd #[pT dk 0] 118) (ae:Lc w bo #[ds,os,rs] 26) (ad:Lc w bs #[(.func (.func 52) #[] #[pT ba 0,pT bd 0,pT bo 0,pT bs 0])] 128) (ac:Lc w ba #[.bool s.ok,vc,iT s.co,vp] 43) (hD:Dsk w D ds os rs sp cs ch) (hc:Sl EI64 3 1 w vc (zs6 s.ch)) (hl:Sl EI64 3 1 w v (tb (fun z1=>((Ofr.at_ l z1:Nat):Int)) l.length)):
    Calls Tryz.prog 52 #[v,pT ba 0,pT bd 0,pT bo 0,pT bs 0] w fun e w'=>(∃ vd,e=.returned (.tuple #[])∧Lc w' ba #[.bool (D.srch (g+1) l s).ok,vd,iT (D.srch (g+1) l s).co,vp] 43∧Sl EI64 3 1 w' vd (zs6 (D.srch (g+1) l s).ch))∧Wx B 43 ba [] w w':=by
 have n1:=ok.n1
 have n2:=ok.n2
 have c5:=ok.q2
 have ck:=hv.1
 have hds:=hD.ds
 have hos:=hD.os
 have hrs:=hD.rs
 have hsp:=hD.sp
 have hcs:=hD.cs
 have hch:=hD.ch
 have ah:=Lc.nety aa ac (by decide)
 go_enter Tryz.func52,Tryz.ntmps52
 have hB:=Wx.refl (B:=B) (T0:=43) (bx:=ba) (ts:=[]) w
 refine wp_seq_k (fun cJ bA=>wp_seq_k (fun cH bB=>?_))
 have ai:=Gr.drew w
 replace hB:=hB.trans ai
 replace aa:=aa.gr ai
 replace ac:=ac.gr ai
 refine za4 (fun w'=>Lc w' bd #[pT dk 0] 118∧Lc w' ba #[.bool (s.ok),vc,iT (s.co),vp] 43) [(true,0),(true,1),(true,2),(true,3),(true,4),(true,6),(true,7),(false,5),(true,8),(true,9)] (by kernel_rfl) (by kernel_rfl) (by kernel_rfl) (by decide) (fun _ _ _ _ _ h=>h) ⟨aa,ac⟩ ?_
 refine ov 9 (pT ba 0) ?_
 refine ow 10 (.bool (s.ok)) rfl (fun w' hS=>(rk 4 0 hS.2)) ?_
 rcases Bool.eq_false_or_eq_true (s.ok) with hb14 | hb14
 ·have sk:=hb14
  refine ow 11 (.bool true) rfl (fun w' hS=>(RunV.bool (x:=s.ok) (rvk (by kernel_rfl)) hb14)) ?_
  refine ow 12 (pT dk 0) rfl (fun w' hS=>(rk 118 0 hS.1)) ?_
  refine ov 13 v ?_
  refine ov 15 (pT ba 2) ?_
  refine ow 16 (iT (s.co)) rfl (fun w' hS=>(rk 3 2 hS.2)) ?_
  refine oe ?_
  replace hL:=hL.gr ai
  replace hds:=hds.gr zb8 ai
  replace hos:=hos.gr (za1 za6 68 3) ai
  replace hrs:=hrs.gr zb9 ai
  replace hsp:=hsp.gr (za1 (za1 (za7 64) 124 8) 162 1) ai
  replace hcs:=hcs.gr (za5 64) ai
  replace hch:=hch.gr za2 ai
  replace hl:=hl.gr za2 ai
  refine ec 14 (zi7 ok hL (⟨hds,hos,hrs,hsp,hcs,hch⟩:Dsk _ D _ _ _ _ _ _) hv hl) ?_
  rintro cI c7 ⟨rfl,aB⟩
  refine ⟨_,rfl,?_⟩
  replace hB:=hB.trans aB
  replace aa:=aa.gr aB
  replace ac:=ac.gr aB
  refine ⟨⟨aa,ac⟩,?_⟩
  simp only [p3,p4]
  refine ov 17 (.bool (decide (s.co≤D.bd l))) ?_
  refine ov 18 (.bool (decide (s.co≤D.bd l))) ?_
  refine zb4 ?_
  refine bB _ _ ?_
  refine wp_cond_split rfl (fun aP=>?_) (fun aP=>?_)
  ·have hbe:=zD0 sk aP
   refine wp_ret ?_
   simp only [Exit.then]
   refine bodyPost_ret (v:=(.tuple #[])) (zf6 rfl) rfl ⟨?_,hB⟩
   replace hc:=hc.gr za2 (ai.trans aB)
   exact (by rw [srch_be hbe];exact ⟨_,rfl,ac,hc⟩)
  have hbe:=zD0 sk aP
  refine wp_skip ?_
  refine bA _ _ ?_
  refine wp_seq_k (fun cX bK=>wp_seq_k (fun cP bU=>rg [0,1,2,3,4,5,6,7] ?_))
  refine sw 20 (pT dk 0) rfl (rk 118 0 aa) ?_
  refine sv 21 v ?_
  refine se ?_
  replace hL:=hL.gr aB
  replace hds:=hds.gr zb8 aB
  replace hos:=hos.gr (za1 za6 68 3) aB
  replace hrs:=hrs.gr zb9 aB
  replace hsp:=hsp.gr (za1 (za1 (za7 64) 124 8) 162 1) aB
  replace hcs:=hcs.gr (za5 64) aB
  replace hch:=hch.gr za2 aB
  replace hl:=hl.gr za2 aB
  refine ec 22 (zp9 ok hL (⟨hds,hos,hrs,hsp,hcs,hch⟩:Dsk _ D _ _ _ _ _ _) (hm.gr (hB.below _ h0 a0)) hv hl) ?_
  rintro c6 bM ⟨rfl,av⟩
  refine ⟨_,rfl,?_⟩
  replace hB:=hB.trans av
  simp only [p3,p4]
  refine sv 19 (.tuple #[iT ((fz D l).1),iT ((fz D l).2)]) ?_
  refine sv 23 (iT ((fz D l).1)) ?_
  refine sv 24 (iT ((fz D l).2)) ?_
  refine sv 6 (iT ((fz D l).1)) ?_
  refine sv 7 (iT ((fz D l).2)) (za0 (bU _ _ ?_))
  refine wp_seq_k (fun cr cb=>rg [0,1] (sv 25 (iT ((fz D l).2)) ?_))
  refine sv 26 (.bool ((fz D l).2 !=(0:Int))) (za0 (cb _ _ ?_))
  refine wp_cond_split rfl (fun aT=>?_) (fun aT=>?_)
  ·have hf:(fz D l).2≠0:=by simpa using aT
   refine wp_ret ?_
   simp only [Exit.then]
   refine bodyPost_ret (v:=(.tuple #[])) (zf6 rfl) rfl ⟨?_,hB⟩
   replace ac:=ac.gr av
   replace hc:=hc.gr za2 (ai.trans (aB.trans av))
   exact (by rw [yc6 hbe hf];exact ⟨_,rfl,ac,hc⟩)
  have hf:(fz D l).2=0:=by simpa using aT
  refine wp_skip ?_
  refine bK _ _ ?_
  refine wp_seq_k (fun cM bX=>wp_seq_k (fun cW b9=>rg [0,1,2,3,4,5] (sv 27 v ?_)))
  refine sw 28 (iT ((l.length:Nat):Int)) rfl (zb0 (e:=3) hl (za9 rfl) _ _ rfl rfl (by kernel_rfl)) ?_
  refine sv 29 (pT bo 0) ?_
  replace ae:=ae.gr (ai.trans (aB.trans av))
  refine sw 30 ds rfl (rk 22 0 ae) ?_
  refine sw 31 (iT ((D.n:Nat):Int)) rfl (zb0 (e:=71) hds (za9 rfl) _ _ rfl rfl (by kernel_rfl)) ?_
  refine sv 32 (.bool (((l.length:Nat):Int)==((D.n:Nat):Int))) (za0 (b9 _ _ ?_))
  refine wp_cond_split rfl (fun aW=>?_) (fun aW=>?_)
  ·have hn:l.length=D.n:=by have:=aW;simp at this;omega
   refine wp_seq_k (fun cQ bG=>?_)
   have ax:=Gr.drew bM
   replace hB:=hB.trans ax
   replace aa:=aa.gr (av.trans ax)
   refine za4 (fun w'=>Lc w' bd #[pT dk 0] 118) [(true,0),(true,2),(true,3),(true,5),(false,1),(false,4),(false,6),(true,7),(false,8),(true,9),(false,10)] (by kernel_rfl) (by kernel_rfl) (by kernel_rfl) (by decide) (fun _ _ _ _ _ h=>h) aa ?_
   refine ov 33 v ?_
   refine ow 35 (pT dk 0) rfl (fun w' hS=>(rk 118 0 hS)) ?_
   refine ov 36 v ?_
   refine ov 38 (pT ba 0) ?_
   refine oe ?_
   replace hl:=hl.gr za2 (av.trans ax)
   refine ec 34 (cl_int (by omega) hl) ?_
   rintro cx da ⟨⟨a7,rfl,aA⟩,aG⟩
   refine ⟨_,rfl,?_⟩
   replace hB:=hB.trans aG
   replace aA:=aA.sl
   replace aa:=aa.gr aG
   refine ⟨aa,?_⟩
   simp only [p3,p4]
   refine oe ?_
   replace hL:=hL.gr (av.trans (ax.trans aG))
   replace hds:=hds.gr zb8 (av.trans (ax.trans aG))
   replace hos:=hos.gr (za1 za6 68 3) (av.trans (ax.trans aG))
   replace hrs:=hrs.gr zb9 (av.trans (ax.trans aG))
   replace hsp:=hsp.gr (za1 (za1 (za7 64) 124 8) 162 1) (av.trans (ax.trans aG))
   replace hcs:=hcs.gr (za5 64) (av.trans (ax.trans aG))
   replace hch:=hch.gr za2 (av.trans (ax.trans aG))
   replace hl:=hl.gr za2 aG
   refine ec 37 (zi7 ok hL (⟨hds,hos,hrs,hsp,hcs,hch⟩:Dsk _ D _ _ _ _ _ _) hv hl) ?_
   rintro cS cE ⟨rfl,bf⟩
   refine ⟨_,rfl,?_⟩
   replace hB:=hB.trans bf
   replace aa:=aa.gr bf
   refine ⟨aa,?_⟩
   simp only [p3,p4]
   refine oe ?_
   replace ac:=ac.gr (av.trans (ax.trans (aG.trans bf)))
   have aY:=ac
   refine zd2 4 _ _ ba 0 (.bool true) [.bool true] #[.bool (s.ok),vc,iT (s.co),vp] #[.bool true,vc,iT (s.co),vp] 43 rfl rfl rfl rfl rfl aY (by kernel_rfl) (Nat.le_of_ble_eq_true rfl) ⟨rfl,trivial⟩ (by kernel_rfl) (fun cF aV ac=>?_)
   replace hB:=hB.st aV aY hBa
   replace aa:=aV.lc aa ah
   refine ⟨aa,?_⟩
   refine ov 39 (pT ba 1) ?_
   refine oe ?_
   have aS:=ac
   replace aA:=(aA.gr za2 bf).kts za2 (aV.kts aY (by decide))
   refine zd2 40 _ _ ba 1 a7 [a7] #[.bool true,vc,iT (s.co),vp] #[.bool true,a7,iT (s.co),vp] 43 rfl rfl rfl rfl (by obtain ⟨_,_,e,_⟩:=aA.form;rw [e];rfl) aS (by kernel_rfl) (Nat.le_of_ble_eq_true rfl) ⟨aA.one,trivial⟩ (by kernel_rfl) (fun cm aQ ac=>?_)
   replace hB:=hB.st aQ aS hBa
   replace aa:=aQ.lc aa ah
   refine ⟨aa,?_⟩
   refine ov 40 (pT ba 2) ?_
   refine oe ?_
   have aN:=ac
   refine zd2 3 _ _ ba 2 (iT (D.bd l)) [iT (D.bd l)] #[.bool true,a7,iT (s.co),vp] #[.bool true,a7,iT (D.bd l),vp] 43 rfl rfl rfl rfl rfl aN (by kernel_rfl) (Nat.le_of_ble_eq_true rfl) ⟨rfl,trivial⟩ (by kernel_rfl) (fun cC aU ac=>?_)
   replace hB:=hB.st aU aN hBa
   replace aa:=aU.lc aa ah
   refine ⟨aa,?_⟩
   refine zb4 ?_
   refine bG _ _ ?_
   refine wp_ret ?_
   simp only [Exit.then]
   refine bodyPost_ret (v:=(.tuple #[])) (zf6 rfl) rfl ⟨?_,hB⟩
   replace aA:=(aA.kts za2 (aQ.kts aS (by decide))).kts za2 (aU.kts aN (by decide))
   exact (by rw [yc7 hbe hf hn];exact ⟨_,rfl,ac,aA.cast zT5⟩)
  have hn:¬ l.length=D.n:=by have:=aW;simp at this;omega
  have bT:=ok.o2 l.length (by omega)
  refine wp_skip ?_
  refine bX _ _ ?_
  refine wp_seq_k (fun cz bZ=>rg [0,1,2,3,4,5,6,7] (sv 41 (pT bo 1) ?_))
  refine sw 42 os rfl (rk 23 1 ae) ?_
  refine sv 43 v ?_
  refine sw 44 (iT ((l.length:Nat):Int)) rfl (zb0 (e:=3) hl (za9 rfl) _ _ rfl rfl (by kernel_rfl)) ?_
  refine sw 45 (adr os (l.length*1)) rfl (zc0 (e:=72) hos za8 (by decide) l.length (by omega) _ _ _ rfl rfl rfl (by kernel_rfl) (by kernel_rfl)) ?_
  replace hos:=hos.gr (za1 za6 68 3) av
  obtain ⟨_,_,⟨bw,rfl,bi⟩,bh⟩:=Sl.get hos (by decide) (zc3 (f:=(fun z0=>tb (fun z1=>(D.op z0 z1)) (D.ol z0))) (n:=D.n) (i:=l.length) (by omega))
  refine sw 46 bw rfl (ze6 bw bh _ _ rfl rfl (by kernel_rfl)) ?_
  refine sw 47 (iT ((D.ol l.length:Nat):Int)) rfl (zb0 (e:=68) bi (za9 rfl) _ _ rfl rfl (by kernel_rfl)) ?_
  refine sv 48 (iT 0) (za0 (bZ _ _ ?_))
  refine wp_block ?_
  replace hds:=hds.gr zb8 av
  replace hrs:=hrs.gr zb9 av
  replace hsp:=hsp.gr (za1 (za1 (za7 64) 124 8) 162 1) av
  replace hcs:=hcs.gr (za5 64) av
  replace hch:=hch.gr za2 av
  replace hl:=hl.gr za2 av
  replace hc:=hc.gr za2 (ai.trans (aB.trans av))
  replace hL:=hL.gr av
  replace aa:=aa.gr av
  replace ad:=ad.gr (ai.trans (aB.trans av))
  replace ac:=ac.gr av
  refine zb1 (a:=⟨List.toArray ?l51,[]⟩) (fun n a w'=>∃ (k:Nat) (vk:Value) (aj:Nat→Value),(D.ol l.length) - k=n∧a=⟨[v,pT ba 0,pT bd 0,pT bo 0,pT bs 0,undef,aj 6,iT ((fz D l).2),aj 8,aj 9,aj 10,aj 11,aj 12,aj 13,aj 14,aj 15,aj 16,aj 17,.bool (decide (s.co≤D.bd l)),aj 19,aj 20,aj 21,aj 22,aj 23,aj 24,aj 25,.bool ((fz D l).2 !=(0:Int)),aj 27,aj 28,aj 29,aj 30,aj 31,.bool (((l.length:Nat):Int)==((D.n:Nat):Int)),undef,undef,undef,undef,undef,undef,undef,undef,aj 41,aj 42,aj 43,aj 44,aj 45,aj 46,iT ((D.ol l.length:Nat):Int),iT (k:Int),aj 49,aj 50,aj 51,aj 52,aj 53,aj 54,aj 55,aj 56,aj 57,aj 58,aj 59,aj 60,aj 61,aj 62].toArray,[]⟩∧k≤(D.ol l.length)∧Sl EDm 71 4 w' ds (tb (fun z1=>(D.nom z1)) D.n)∧Sl (ERw EOp 68 3) 72 1 w' os (tb (fun z0=>tb (fun z1=>(D.op z0 z1)) (D.ol z0)) D.n)∧Sl ERq 80 8 w' rs (tb (fun z1=>(D.rq z1)) D.q)∧Sl (ERw (ERw (ESp 64) 124 8) 162 1) 161 1 w' sp (tb (fun z0=>tb (fun z1=>tb (fun z2=>(D.sp z0 z1 z2)) (D.ol z1)) D.n) D.q)∧Sl (ERat 64) 62 4 w' cs (tb (fun z1=>(D.cn z1)) D.q)∧Sl EI64 3 1 w' ch (tb (fun z1=>(D.ch z1)) D.n)∧Sl EI64 3 1 w' v (tb (fun z1=>((Ofr.at_ l z1:Nat):Int)) l.length)∧Sl EI64 3 1 w' vk (zs6 (D.fold g l s k).ch)∧Lc w' dk #[ds,os,rs,sp,cs,ch] 158∧Lc w' bd #[pT dk 0] 118∧Lc w' bo #[ds,os,rs] 26∧Lc w' bs #[(.func (.func 52) #[] #[pT ba 0,pT bd 0,pT bo 0,pT bs 0])] 128∧Lc w' ba #[.bool ((D.fold g l s k).ok),vk,iT ((D.fold g l s k).co),vp] 43∧Wx B 43 ba [] w w') ((D.ol l.length) - 0) ?_ ?_
  ·exact ⟨0,vc,(fun i=>List.getD ?l51 i undef),rfl,rfl,Nat.zero_le _,hds,hos,hrs,hsp,hcs,hch,hl,hc,hL,aa,ae,ad,ac,hB⟩
  rintro cR cB bL ⟨k,vk,aj,rfl,rfl,hkk,hds,hos,hrs,hsp,hcs,hch,hl,hc,hL,aa,ae,ad,ac,hB⟩ cA bC
  refine wp_seq_k (fun cY b5=>rg [0] (sv 49 (.bool (decide ((k:Int)<((D.ol l.length:Nat):Int)))) ?_))
  refine za0 (b5 _ _ ?_)
  refine wp_seq_k (fun cU bF=>?_)
  refine wp_cond_split rfl (fun aZ=>?_) (fun aZ=>?_)
  ·have hlk:k<(D.ol l.length):=by have:=of_decide_eq_true aZ;omega
   refine wp_skip ?_
   refine bF _ _ ?_
   refine wp_seq_k (fun ct bJ=>?_)
   refine wp_block ?_
   refine wp_seq_k (fun cN b6=>rg [0,1] (sv 50 (iT (k:Int)) ?_))
   refine sv 8 (iT (k:Int)) (za0 (b6 _ _ ?_))
   have ar:=Gr.drew bL
   replace hB:=hB.trans ar
   replace ad:=ad.gr ar
   refine za4 (fun w'=>Lc w' bs #[(.func (.func 52) #[] #[pT ba 0,pT bd 0,pT bo 0,pT bs 0])] 128) [(true,0),(true,1),(true,2),(true,3),(true,4),(true,5),(true,6),(true,7),(false,8),(false,9),(false,10)] (by kernel_rfl) (by kernel_rfl) (by kernel_rfl) (by decide) (fun _ _ _ _ _ h=>h) ad ?_
   refine ow 51 (.func (.func 52) #[] #[pT ba 0,pT bd 0,pT bo 0,pT bs 0]) rfl (fun w' hS=>(rk 128 0 hS)) ?_
   refine ov 52 v ?_
   refine ov 53 v ?_
   refine ow 54 (iT ((l.length:Nat):Int)) rfl (fun w' hS=>(zb0 (e:=3) hl (za9 rfl) _ _ rfl rfl (by kernel_rfl))) ?_
   refine ov 55 v ?_
   refine ow 56 (iT ((l.length:Nat):Int)) rfl (fun w' hS=>(zb0 (e:=3) hl (za9 rfl) _ _ rfl rfl (by kernel_rfl))) ?_
   refine ow 57 (capv v l.length 1) rfl (fun w' hS=>(zv2 (e:=3) hl l.length za8 _ _ _ _ rfl rfl rfl rfl (by kernel_rfl) (by kernel_rfl))) ?_
   refine ov 58 (iT (k:Int)) ?_
   refine oe ?_
   refine zc5 3 1 #[iT (k:Int)] (some 59) rfl (fun _=>by kernel_rfl) (fun bS c4 aD bQ cO=>?_)
   replace hL:=hL.gr ar
   replace aa:=aa.gr ar
   replace ae:=ae.gr ar
   replace ac:=ac.gr ar
   replace hB:=hB.trans aD
   replace ad:=ad.gr aD
   refine ⟨ad,?_⟩
   simp only [zd1,p3,p4]
   refine oe ?_
   replace hl:=hl.gr za2 (ar.trans aD)
   refine zv3 za2 _ _ 40 3 (iT 0) v l.length (tb (fun z1=>((Ofr.at_ l z1:Nat):Int)) l.length) bS [iT (k:Int)] ((k:Int):Int) 1 1 (some 60) 8 rfl rfl rfl rfl hl za8 bQ ⟨rfl,trivial⟩ rfl rfl (by omega) (by decide) (by kernel_rfl) (by kernel_rfl) (by decide) (fun cT cw bn aC=>?_)
   replace hB:=hB.trans aC
   have bu:=bn.sl.cast zH0
   replace ad:=ad.gr aC
   refine ⟨ad,?_⟩
   simp only [zd1,p3,p4]
   refine oe ?_
   replace hL:=hL.gr (aD.trans aC)
   replace aa:=aa.gr (aD.trans aC)
   replace ae:=ae.gr (aD.trans aC)
   replace ac:=ac.gr (aD.trans aC)
   replace hc:=hc.gr za2 (ar.trans (aD.trans aC))
   replace hds:=hds.gr zb8 (ar.trans (aD.trans aC))
   replace hos:=hos.gr (za1 za6 68 3) (ar.trans (aD.trans aC))
   replace hrs:=hrs.gr zb9 (ar.trans (aD.trans aC))
   replace hsp:=hsp.gr (za1 (za1 (za7 64) 124 8) 162 1) (ar.trans (aD.trans aC))
   replace hcs:=hcs.gr (za5 64) (ar.trans (aD.trans aC))
   replace hch:=hch.gr za2 (ar.trans (aD.trans aC))
   refine zh0 (some 61) rfl (by kernel_rfl) (ih (l++[k]) (D.fold g l s k) w0 _ _ _ (by rw [List.length_append,List.length_singleton];omega) (hv.snoc (by omega) hlk) hm (hB.below _ h0 a0) a0 hL aa ae ad ac ⟨hds,hos,hrs,hsp,hcs,hch⟩ hc bu) ?_
   rintro db c8 ⟨⟨bv,rfl,ac,a2⟩,aw⟩
   refine ⟨_,rfl,?_⟩
   replace hB:=hB.trans2 aw
   replace ad:=aw.lc ad (by decide)
   refine ⟨ad,?_⟩
   simp only [zd1,p3,p4]
   refine zb4 ?_
   refine bJ _ _ ?_
   refine rg [0,1] ?_
   refine sw 62 (iT ((k:Int)+1)) rfl (rwI ((k:Int)+1)) ?_
   refine sv 48 (iT ((k:Int)+1)) ?_
   refine za0 ?_
   replace hds:=hds.kts zb8 (aw.kts (by decide))
   replace hos:=hos.kts (za1 za6 68 3) (aw.kts (by decide))
   replace hrs:=hrs.kts zb9 (aw.kts (by decide))
   replace hsp:=hsp.kts (za1 (za1 (za7 64) 124 8) 162 1) (aw.kts (by decide))
   replace hcs:=hcs.kts (za5 64) (aw.kts (by decide))
   replace hch:=hch.kts za2 (aw.kts (by decide))
   replace hl:=(hl.gr za2 aC).kts za2 (aw.kts (by decide))
   rw [zH1] at ac a2
   replace hL:=aw.lc hL (by decide)
   replace aa:=aw.lc aa (by decide)
   replace ae:=aw.lc ae (by decide)
   refine bC ((D.ol l.length) - (k+1)) ⟨List.toArray ?l71,[]⟩ _ (by omega) ?_
   exact ⟨k+1,bv,(fun i=>List.getD ?l71 i undef),rfl,rfl,(by omega),hds,hos,hrs,hsp,hcs,hch,hl,a2,hL,aa,ae,ad,ac,hB⟩
  have hek:(D.ol l.length)=k:=by have:=of_decide_eq_false aZ;omega
  subst hek
  refine wp_exit ?_
  simp only [Exit.then,Exit.inBlock,↓reduceIte]
  show bodyPost _ _ _ .normal _ _
  refine bodyPost_end (v:=(.tuple #[])) (zf6 rfl) rfl ⟨?_,hB⟩
  exact (by rw [yc8 hbe hf hn];exact ⟨_,rfl,ac,hc⟩)
 have hbe:D.beats s l=false:=yc9 hb14
 refine ow 11 (.bool false) rfl (fun w' hS=>(RunV.bool (x:=s.ok) (rvk (by kernel_rfl)) hb14)) ?_
 refine Go.Proofs.YtjhflekncldflaaGreatDoor.os 12 ?_
 refine Go.Proofs.YtjhflekncldflaaGreatDoor.os 13 ?_
 refine Go.Proofs.YtjhflekncldflaaGreatDoor.os 15 ?_
 refine Go.Proofs.YtjhflekncldflaaGreatDoor.os 16 ?_
 refine oz 14 ⟨aa,ac⟩ ?_
 refine Go.Proofs.YtjhflekncldflaaGreatDoor.os 17 ?_
 refine ov 18 (.bool false) ?_
 refine zb4 ?_
 refine bB _ _ ?_
 refine wp_cond_false rfl ?_
 refine wp_skip ?_
 refine bA _ _ ?_
 refine wp_seq_k (fun cu b4=>wp_seq_k (fun cG cg=>rg [0,1,2,3,4,5,6,7] ?_))
 refine sw 20 (pT dk 0) rfl (rk 118 0 aa) ?_
 refine sv 21 v ?_
 refine se ?_
 replace hL:=hL.gr ai
 replace hds:=hds.gr zb8 ai
 replace hos:=hos.gr (za1 za6 68 3) ai
 replace hrs:=hrs.gr zb9 ai
 replace hsp:=hsp.gr (za1 (za1 (za7 64) 124 8) 162 1) ai
 replace hcs:=hcs.gr (za5 64) ai
 replace hch:=hch.gr za2 ai
 replace hl:=hl.gr za2 ai
 refine ec 22 (zp9 ok hL (⟨hds,hos,hrs,hsp,hcs,hch⟩:Dsk _ D _ _ _ _ _ _) (hm.gr (hB.below _ h0 a0)) hv hl) ?_
 rintro c9 bV ⟨rfl,au⟩
 refine ⟨_,rfl,?_⟩
 replace hB:=hB.trans au
 simp only [p3,p4]
 refine sv 19 (.tuple #[iT ((fz D l).1),iT ((fz D l).2)]) ?_
 refine sv 23 (iT ((fz D l).1)) ?_
 refine sv 24 (iT ((fz D l).2)) ?_
 refine sv 6 (iT ((fz D l).1)) ?_
 refine sv 7 (iT ((fz D l).2)) (za0 (cg _ _ ?_))
 refine wp_seq_k (fun cq b0=>rg [0,1] (sv 25 (iT ((fz D l).2)) ?_))
 refine sv 26 (.bool ((fz D l).2 !=(0:Int))) (za0 (b0 _ _ ?_))
 refine wp_cond_split rfl (fun aM=>?_) (fun aM=>?_)
 ·have hf:(fz D l).2≠0:=by simpa using aM
  refine wp_ret ?_
  simp only [Exit.then]
  refine bodyPost_ret (v:=(.tuple #[])) (zf6 rfl) rfl ⟨?_,hB⟩
  replace ac:=ac.gr au
  replace hc:=hc.gr za2 (ai.trans au)
  exact (by rw [yc6 hbe hf];exact ⟨_,rfl,ac,hc⟩)
 have hf:(fz D l).2=0:=by simpa using aM
 refine wp_skip ?_
 refine b4 _ _ ?_
 refine wp_seq_k (fun cD bO=>wp_seq_k (fun cK bN=>rg [0,1,2,3,4,5] (sv 27 v ?_)))
 refine sw 28 (iT ((l.length:Nat):Int)) rfl (zb0 (e:=3) hl (za9 rfl) _ _ rfl rfl (by kernel_rfl)) ?_
 refine sv 29 (pT bo 0) ?_
 replace ae:=ae.gr (ai.trans au)
 refine sw 30 ds rfl (rk 22 0 ae) ?_
 refine sw 31 (iT ((D.n:Nat):Int)) rfl (zb0 (e:=71) hds (za9 rfl) _ _ rfl rfl (by kernel_rfl)) ?_
 refine sv 32 (.bool (((l.length:Nat):Int)==((D.n:Nat):Int))) (za0 (bN _ _ ?_))
 refine wp_cond_split rfl (fun aX=>?_) (fun aX=>?_)
 ·have hn:l.length=D.n:=by have:=aX;simp at this;omega
  refine wp_seq_k (fun cV b1=>?_)
  have ay:=Gr.drew bV
  replace hB:=hB.trans ay
  replace aa:=aa.gr (au.trans ay)
  refine za4 (fun w'=>Lc w' bd #[pT dk 0] 118) [(true,0),(true,2),(true,3),(true,5),(false,1),(false,4),(false,6),(true,7),(false,8),(true,9),(false,10)] (by kernel_rfl) (by kernel_rfl) (by kernel_rfl) (by decide) (fun _ _ _ _ _ h=>h) aa ?_
  refine ov 33 v ?_
  refine ow 35 (pT dk 0) rfl (fun w' hS=>(rk 118 0 hS)) ?_
  refine ov 36 v ?_
  refine ov 38 (pT ba 0) ?_
  refine oe ?_
  replace hl:=hl.gr za2 (au.trans ay)
  refine ec 34 (cl_int (by omega) hl) ?_
  rintro cy cp ⟨⟨a3,rfl,az⟩,aH⟩
  refine ⟨_,rfl,?_⟩
  replace hB:=hB.trans aH
  replace az:=az.sl
  replace aa:=aa.gr aH
  refine ⟨aa,?_⟩
  simp only [p3,p4]
  refine oe ?_
  replace hL:=hL.gr (au.trans (ay.trans aH))
  replace hds:=hds.gr zb8 (au.trans (ay.trans aH))
  replace hos:=hos.gr (za1 za6 68 3) (au.trans (ay.trans aH))
  replace hrs:=hrs.gr zb9 (au.trans (ay.trans aH))
  replace hsp:=hsp.gr (za1 (za1 (za7 64) 124 8) 162 1) (au.trans (ay.trans aH))
  replace hcs:=hcs.gr (za5 64) (au.trans (ay.trans aH))
  replace hch:=hch.gr za2 (au.trans (ay.trans aH))
  replace hl:=hl.gr za2 aH
  refine ec 37 (zi7 ok hL (⟨hds,hos,hrs,hsp,hcs,hch⟩:Dsk _ D _ _ _ _ _ _) hv hl) ?_
  rintro cL cZ ⟨rfl,bb⟩
  refine ⟨_,rfl,?_⟩
  replace hB:=hB.trans bb
  replace aa:=aa.gr bb
  refine ⟨aa,?_⟩
  simp only [p3,p4]
  refine oe ?_
  replace ac:=ac.gr (au.trans (ay.trans (aH.trans bb)))
  have aR:=ac
  refine zd2 4 _ _ ba 0 (.bool true) [.bool true] #[.bool (s.ok),vc,iT (s.co),vp] #[.bool true,vc,iT (s.co),vp] 43 rfl rfl rfl rfl rfl aR (by kernel_rfl) (Nat.le_of_ble_eq_true rfl) ⟨rfl,trivial⟩ (by kernel_rfl) (fun cl aO ac=>?_)
  replace hB:=hB.st aO aR hBa
  replace aa:=aO.lc aa ah
  refine ⟨aa,?_⟩
  refine ov 39 (pT ba 1) ?_
  refine oe ?_
  have aE:=ac
  replace az:=(az.gr za2 bb).kts za2 (aO.kts aR (by decide))
  refine zd2 40 _ _ ba 1 a3 [a3] #[.bool true,vc,iT (s.co),vp] #[.bool true,a3,iT (s.co),vp] 43 rfl rfl rfl rfl (by obtain ⟨_,_,e,_⟩:=az.form;rw [e];rfl) aE (by kernel_rfl) (Nat.le_of_ble_eq_true rfl) ⟨az.one,trivial⟩ (by kernel_rfl) (fun bR aF ac=>?_)
  replace hB:=hB.st aF aE hBa
  replace aa:=aF.lc aa ah
  refine ⟨aa,?_⟩
  refine ov 40 (pT ba 2) ?_
  refine oe ?_
  have aK:=ac
  refine zd2 3 _ _ ba 2 (iT (D.bd l)) [iT (D.bd l)] #[.bool true,a3,iT (s.co),vp] #[.bool true,a3,iT (D.bd l),vp] 43 rfl rfl rfl rfl rfl aK (by kernel_rfl) (Nat.le_of_ble_eq_true rfl) ⟨rfl,trivial⟩ (by kernel_rfl) (fun bH aI ac=>?_)
  replace hB:=hB.st aI aK hBa
  replace aa:=aI.lc aa ah
  refine ⟨aa,?_⟩
  refine zb4 ?_
  refine b1 _ _ ?_
  refine wp_ret ?_
  simp only [Exit.then]
  refine bodyPost_ret (v:=(.tuple #[])) (zf6 rfl) rfl ⟨?_,hB⟩
  replace az:=(az.kts za2 (aF.kts aE (by decide))).kts za2 (aI.kts aK (by decide))
  exact (by rw [yc7 hbe hf hn];exact ⟨_,rfl,ac,az.cast zT5⟩)
 have hn:¬ l.length=D.n:=by have:=aX;simp at this;omega
 have bT:=ok.o2 l.length (by omega)
 refine wp_skip ?_
 refine bO _ _ ?_
 refine wp_seq_k (fun b2 br=>rg [0,1,2,3,4,5,6,7] (sv 41 (pT bo 1) ?_))
 refine sw 42 os rfl (rk 23 1 ae) ?_
 refine sv 43 v ?_
 refine sw 44 (iT ((l.length:Nat):Int)) rfl (zb0 (e:=3) hl (za9 rfl) _ _ rfl rfl (by kernel_rfl)) ?_
 refine sw 45 (adr os (l.length*1)) rfl (zc0 (e:=72) hos za8 (by decide) l.length (by omega) _ _ _ rfl rfl rfl (by kernel_rfl) (by kernel_rfl)) ?_
 replace hos:=hos.gr (za1 za6 68 3) au
 obtain ⟨_,_,⟨a1,rfl,a5⟩,a4⟩:=Sl.get hos (by decide) (zc3 (f:=(fun z0=>tb (fun z1=>(D.op z0 z1)) (D.ol z0))) (n:=D.n) (i:=l.length) (by omega))
 refine sw 46 a1 rfl (ze6 a1 a4 _ _ rfl rfl (by kernel_rfl)) ?_
 refine sw 47 (iT ((D.ol l.length:Nat):Int)) rfl (zb0 (e:=68) a5 (za9 rfl) _ _ rfl rfl (by kernel_rfl)) ?_
 refine sv 48 (iT 0) (za0 (br _ _ ?_))
 refine wp_block ?_
 replace hds:=hds.gr zb8 au
 replace hrs:=hrs.gr zb9 au
 replace hsp:=hsp.gr (za1 (za1 (za7 64) 124 8) 162 1) au
 replace hcs:=hcs.gr (za5 64) au
 replace hch:=hch.gr za2 au
 replace hl:=hl.gr za2 au
 replace hc:=hc.gr za2 (ai.trans au)
 replace hL:=hL.gr au
 replace aa:=aa.gr au
 replace ad:=ad.gr (ai.trans au)
 replace ac:=ac.gr au
 refine zb1 (a:=⟨List.toArray ?l105,[]⟩) (fun n a w'=>∃ (k:Nat) (vk:Value) (af:Nat→Value),(D.ol l.length) - k=n∧a=⟨[v,pT ba 0,pT bd 0,pT bo 0,pT bs 0,undef,af 6,iT ((fz D l).2),af 8,af 9,af 10,af 11,undef,undef,undef,undef,undef,undef,.bool false,af 19,af 20,af 21,af 22,af 23,af 24,af 25,.bool ((fz D l).2 !=(0:Int)),af 27,af 28,af 29,af 30,af 31,.bool (((l.length:Nat):Int)==((D.n:Nat):Int)),undef,undef,undef,undef,undef,undef,undef,undef,af 41,af 42,af 43,af 44,af 45,af 46,iT ((D.ol l.length:Nat):Int),iT (k:Int),af 49,af 50,af 51,af 52,af 53,af 54,af 55,af 56,af 57,af 58,af 59,af 60,af 61,af 62].toArray,[]⟩∧k≤(D.ol l.length)∧Sl EDm 71 4 w' ds (tb (fun z1=>(D.nom z1)) D.n)∧Sl (ERw EOp 68 3) 72 1 w' os (tb (fun z0=>tb (fun z1=>(D.op z0 z1)) (D.ol z0)) D.n)∧Sl ERq 80 8 w' rs (tb (fun z1=>(D.rq z1)) D.q)∧Sl (ERw (ERw (ESp 64) 124 8) 162 1) 161 1 w' sp (tb (fun z0=>tb (fun z1=>tb (fun z2=>(D.sp z0 z1 z2)) (D.ol z1)) D.n) D.q)∧Sl (ERat 64) 62 4 w' cs (tb (fun z1=>(D.cn z1)) D.q)∧Sl EI64 3 1 w' ch (tb (fun z1=>(D.ch z1)) D.n)∧Sl EI64 3 1 w' v (tb (fun z1=>((Ofr.at_ l z1:Nat):Int)) l.length)∧Sl EI64 3 1 w' vk (zs6 (D.fold g l s k).ch)∧Lc w' dk #[ds,os,rs,sp,cs,ch] 158∧Lc w' bd #[pT dk 0] 118∧Lc w' bo #[ds,os,rs] 26∧Lc w' bs #[(.func (.func 52) #[] #[pT ba 0,pT bd 0,pT bo 0,pT bs 0])] 128∧Lc w' ba #[.bool ((D.fold g l s k).ok),vk,iT ((D.fold g l s k).co),vp] 43∧Wx B 43 ba [] w w') ((D.ol l.length) - 0) ?_ ?_
 ·exact ⟨0,vc,(fun i=>List.getD ?l105 i undef),rfl,rfl,Nat.zero_le _,hds,hos,hrs,hsp,hcs,hch,hl,hc,hL,aa,ae,ad,ac,hB⟩
 rintro bI bE bm ⟨k,vk,af,rfl,rfl,hkk,hds,hos,hrs,hsp,hcs,hch,hl,hc,hL,aa,ae,ad,ac,hB⟩ cf bt
 refine wp_seq_k (fun b7 bg=>rg [0] (sv 49 (.bool (decide ((k:Int)<((D.ol l.length:Nat):Int)))) ?_))
 refine za0 (bg _ _ ?_)
 refine wp_seq_k (fun bD bp=>?_)
 refine wp_cond_split rfl (fun aJ=>?_) (fun aJ=>?_)
 ·have hlk:k<(D.ol l.length):=by have:=of_decide_eq_true aJ;omega
  refine wp_skip ?_
  refine bp _ _ ?_
  refine wp_seq_k (fun bW bj=>?_)
  refine wp_block ?_
  refine wp_seq_k (fun b3 bq=>rg [0,1] (sv 50 (iT (k:Int)) ?_))
  refine sv 8 (iT (k:Int)) (za0 (bq _ _ ?_))
  have ak:=Gr.drew bm
  replace hB:=hB.trans ak
  replace ad:=ad.gr ak
  refine za4 (fun w'=>Lc w' bs #[(.func (.func 52) #[] #[pT ba 0,pT bd 0,pT bo 0,pT bs 0])] 128) [(true,0),(true,1),(true,2),(true,3),(true,4),(true,5),(true,6),(true,7),(false,8),(false,9),(false,10)] (by kernel_rfl) (by kernel_rfl) (by kernel_rfl) (by decide) (fun _ _ _ _ _ h=>h) ad ?_
  refine ow 51 (.func (.func 52) #[] #[pT ba 0,pT bd 0,pT bo 0,pT bs 0]) rfl (fun w' hS=>(rk 128 0 hS)) ?_
  refine ov 52 v ?_
  refine ov 53 v ?_
  refine ow 54 (iT ((l.length:Nat):Int)) rfl (fun w' hS=>(zb0 (e:=3) hl (za9 rfl) _ _ rfl rfl (by kernel_rfl))) ?_
  refine ov 55 v ?_
  refine ow 56 (iT ((l.length:Nat):Int)) rfl (fun w' hS=>(zb0 (e:=3) hl (za9 rfl) _ _ rfl rfl (by kernel_rfl))) ?_
  refine ow 57 (capv v l.length 1) rfl (fun w' hS=>(zv2 (e:=3) hl l.length za8 _ _ _ _ rfl rfl rfl rfl (by kernel_rfl) (by kernel_rfl))) ?_
  refine ov 58 (iT (k:Int)) ?_
  refine oe ?_
  refine zc5 3 1 #[iT (k:Int)] (some 59) rfl (fun _=>by kernel_rfl) (fun bk cd aq bl cj=>?_)
  replace hL:=hL.gr ak
  replace aa:=aa.gr ak
  replace ae:=ae.gr ak
  replace ac:=ac.gr ak
  replace hB:=hB.trans aq
  replace ad:=ad.gr aq
  refine ⟨ad,?_⟩
  simp only [zd1,p3,p4]
  refine oe ?_
  replace hl:=hl.gr za2 (ak.trans aq)
  refine zv3 za2 _ _ 40 3 (iT 0) v l.length (tb (fun z1=>((Ofr.at_ l z1:Nat):Int)) l.length) bk [iT (k:Int)] ((k:Int):Int) 1 1 (some 60) 8 rfl rfl rfl rfl hl za8 bl ⟨rfl,trivial⟩ rfl rfl (by omega) (by decide) (by kernel_rfl) (by kernel_rfl) (by decide) (fun bY bP a6 ap=>?_)
  replace hB:=hB.trans ap
  have a8:=a6.sl.cast zH0
  replace ad:=ad.gr ap
  refine ⟨ad,?_⟩
  simp only [zd1,p3,p4]
  refine oe ?_
  replace hL:=hL.gr (aq.trans ap)
  replace aa:=aa.gr (aq.trans ap)
  replace ae:=ae.gr (aq.trans ap)
  replace ac:=ac.gr (aq.trans ap)
  replace hc:=hc.gr za2 (ak.trans (aq.trans ap))
  replace hds:=hds.gr zb8 (ak.trans (aq.trans ap))
  replace hos:=hos.gr (za1 za6 68 3) (ak.trans (aq.trans ap))
  replace hrs:=hrs.gr zb9 (ak.trans (aq.trans ap))
  replace hsp:=hsp.gr (za1 (za1 (za7 64) 124 8) 162 1) (ak.trans (aq.trans ap))
  replace hcs:=hcs.gr (za5 64) (ak.trans (aq.trans ap))
  replace hch:=hch.gr za2 (ak.trans (aq.trans ap))
  refine zh0 (some 61) rfl (by kernel_rfl) (ih (l++[k]) (D.fold g l s k) w0 _ _ _ (by rw [List.length_append,List.length_singleton];omega) (hv.snoc (by omega) hlk) hm (hB.below _ h0 a0) a0 hL aa ae ad ac ⟨hds,hos,hrs,hsp,hcs,hch⟩ hc a8) ?_
  rintro b8 cc ⟨⟨a9,rfl,ac,aL⟩,al⟩
  refine ⟨_,rfl,?_⟩
  replace hB:=hB.trans2 al
  replace ad:=al.lc ad (by decide)
  refine ⟨ad,?_⟩
  simp only [zd1,p3,p4]
  refine zb4 ?_
  refine bj _ _ ?_
  refine rg [0,1] ?_
  refine sw 62 (iT ((k:Int)+1)) rfl (rwI ((k:Int)+1)) ?_
  refine sv 48 (iT ((k:Int)+1)) ?_
  refine za0 ?_
  replace hds:=hds.kts zb8 (al.kts (by decide))
  replace hos:=hos.kts (za1 za6 68 3) (al.kts (by decide))
  replace hrs:=hrs.kts zb9 (al.kts (by decide))
  replace hsp:=hsp.kts (za1 (za1 (za7 64) 124 8) 162 1) (al.kts (by decide))
  replace hcs:=hcs.kts (za5 64) (al.kts (by decide))
  replace hch:=hch.kts za2 (al.kts (by decide))
  replace hl:=(hl.gr za2 ap).kts za2 (al.kts (by decide))
  rw [zH1] at ac aL
  replace hL:=al.lc hL (by decide)
  replace aa:=al.lc aa (by decide)
  replace ae:=al.lc ae (by decide)
  refine bt ((D.ol l.length) - (k+1)) ⟨List.toArray ?l125,[]⟩ _ (by omega) ?_
  exact ⟨k+1,a9,(fun i=>List.getD ?l125 i undef),rfl,rfl,(by omega),hds,hos,hrs,hsp,hcs,hch,hl,aL,hL,aa,ae,ad,ac,hB⟩
 have hek:(D.ol l.length)=k:=by have:=of_decide_eq_false aJ;omega
 subst hek
 refine wp_exit ?_
 simp only [Exit.then,Exit.inBlock,↓reduceIte]
 show bodyPost _ _ _ .normal _ _
 refine bodyPost_end (v:=(.tuple #[])) (zf6 rfl) rfl ⟨?_,hB⟩
 exact (by rw [yc8 hbe hf hn];exact ⟨_,rfl,ac,hc⟩)

theorem zE2 {D:Ofr} {B dk ba bd bo bs:Nat} {ds os rs sp cs ch vp:Value} (ok:D.Ok) (hBa:B≤ba):∀ g,SOK D B dk ba bd bo bs ds os rs sp cs ch vp g
 | 0=>fun l _ _ _ _ _ hg hv _ _ _ _ _ _ _ _ _ _ _=>absurd hv.1 (by omega)
 | g+1=>fun _ _ _ _ _ _ hg hv hm h0 hb0 hL L9001 L9002 L9003 L9004 hD hc hl=>zI1 ok (zE2 ok hBa g) hBa hg hv hm h0 hb0 hL L9001 L9002 L9003 L9004 hD hc hl
end Go.Proofs.YtjhflekncldflaaGreatDoor
namespace Go.Proofs.YtjhflekncldflaaGreatDoor
set_option maxRecDepth 100000
set_option maxHeartbeats 1000000
open Go.RowKit

theorem number_w {k:Nat} {u0 u1 u2 u3:Value} {a:Rat} {w:World} (ha:IsRat w k u0 u1 u2 u3 a) (_hk:k≤800000) (ht:Tab w) (hw:a.den=1):
    Calls Tryz.prog 27 #[.agg #[u0,u1,u2,u3]] w fun e w'=>e=.returned (sV (zd4 a))∧Gr w w':=by
 go_enter Tryz.func27,Tryz.ntmps27
 have hB:=Gr.refl w
 refine wp_seq_k (fun K1 k1=>rg [0,1] ?_)
 refine se ?_
 refine eb 62 #[u0,u1,u2,u3] 1 hB fun b2 w2 g2 L2 o2 q2 hB=>?_
 simp only [p3,p4]
 refine sv 2 (sV []) (za0 (k1 _ _ ?_))
 refine wp_seq_k (fun K3 k3=>wp_seq_k (fun K4 k4=>rg [0,1] ?_))
 refine sw 3 (.agg #[u0,u1,u2,u3]) rfl (rl 62 0 [u0,u1,u2,u3] L2) ?_
 refine se ?_
 replace ha:=ha.kp g2.kp
 refine ec 4 (zj4 ha (by omega) hw) ?_
 rintro e5 w5 ⟨rfl,g5⟩
 refine ⟨_,rfl,?_⟩
 replace hB:=hB.trans g5
 simp only [p3,p4]
 refine za0 (k4 _ _ ?_)
 refine wp_cond_true rfl ?_
 refine wp_seq_k (fun K6 k6=>rg [0,1,2,3] (sv 5 (pT b2 0) ?_))
 replace L2:=L2.gr g5
 refine sw 6 (.agg #[u0,u1]) rfl (rl 60 0 [u0,u1] L2) ?_
 refine se ?_
 replace ha:=ha.kp g5.kp
 refine ec 7 (zU3 ha.num (by omega) (ht.gr hB)) ?_
 rintro e7 w7 ⟨rfl,g7⟩
 refine ⟨_,rfl,?_⟩
 replace hB:=hB.trans g7
 simp only [p3,p4]
 refine sv 2 (sV (Lib.itoa (a.num))) (za0 (k6 _ _ ?_))
 refine wp_ret ?_
 simp only [Exit.then]
 refine bodyPost_ret (v:=(sV (Lib.itoa (a.num)))) (za3 rfl rfl) rfl ⟨?_,hB⟩
 exact (by rw [zS6 hw])

theorem number_d {k:Nat} {u0 u1 u2 u3:Value} {a:Rat} {w:World} (ha:IsRat w k u0 u1 u2 u3 a) (_hk:k≤800000) (ht:Tab w) (hd:IsInt w k u2 u3 (a.den:Int)) (hw:¬ a.den=1):
    Calls Tryz.prog 27 #[.agg #[u0,u1,u2,u3]] w fun e w'=>e=.returned (sV (zd4 a))∧Gr w w':=by
 have ak:=zu5 ha.num.sz
 have ap:=zu5 hd.sz
 go_enter Tryz.func27,Tryz.ntmps27
 have hB:=Gr.refl w
 refine wp_seq_k (fun K1 k1=>rg [0,1] ?_)
 refine se ?_
 refine eb 62 #[u0,u1,u2,u3] 1 hB fun b2 w2 g2 L2 o2 q2 hB=>?_
 simp only [p3,p4]
 refine sv 2 (sV []) (za0 (k1 _ _ ?_))
 refine wp_seq_k (fun K3 k3=>wp_seq_k (fun K4 k4=>rg [0,1] ?_))
 refine sw 3 (.agg #[u0,u1,u2,u3]) rfl (rl 62 0 [u0,u1,u2,u3] L2) ?_
 refine se ?_
 replace ha:=ha.kp g2.kp
 refine ec 4 (zp2 ha (by omega) hw) ?_
 rintro e5 w5 ⟨rfl,g5⟩
 refine ⟨_,rfl,?_⟩
 replace hB:=hB.trans g5
 simp only [p3,p4]
 refine za0 (k4 _ _ ?_)
 refine wp_cond_false rfl ?_
 refine wp_skip ?_
 refine k3 _ _ ?_
 refine wp_seq_k (fun K6 k6=>?_)
 have aa:=Gr.drew w5
 replace hB:=hB.trans aa
 replace L2:=L2.gr (g5.trans aa)
 refine za4 (fun w'=>Lc w' b2 #[u0,u1,u2,u3] 62) [(true,0),(true,1),(true,4),(true,5),(false,2),(true,3),(false,6),(true,7),(true,8)] (by kernel_rfl) (by kernel_rfl) (by kernel_rfl) (by decide) (fun _ _ _ _ _ h=>h) L2 ?_
 refine ov 8 (pT b2 0) ?_
 refine ow 9 (.agg #[u0,u1]) rfl (fun w' hS=>(rl 60 0 [u0,u1] hS)) ?_
 refine ov 12 (pT b2 2) ?_
 refine ow 13 (.agg #[u2,u3]) rfl (fun w' hS=>(rl 60 2 [u2,u3] hS)) ?_
 refine oe ?_
 have ae:=g5.kp.trans aa.kp
 replace ha:=ha.kp ae
 refine ec 10 (zU3 ha.num (by omega) (ht.gr hB)) ?_
 rintro ai aj ⟨rfl,ad⟩
 refine ⟨_,rfl,?_⟩
 replace hB:=hB.trans ad
 replace L2:=L2.gr ad
 refine ⟨L2,?_⟩
 simp only [p3,p4]
 refine ow 11 (sV ((Lib.itoa (a.num))++([47]))) rfl (fun w' hS=>(zO4 9 9 _ _ (Lib.itoa (a.num)) ([47]) rfl rfl rfl (by simp only [List.length_cons,List.length_nil];omega))) ?_
 refine oe ?_
 have ac:=g2.kp.trans (g5.kp.trans (aa.kp.trans ad.kp))
 replace hd:=hd.kp ac
 refine ec 14 (zU3 hd (by omega) (ht.gr hB)) ?_
 rintro al ah ⟨rfl,af⟩
 refine ⟨_,rfl,?_⟩
 replace hB:=hB.trans af
 replace L2:=L2.gr af
 refine ⟨L2,?_⟩
 simp only [p3,p4]
 refine ow 15 (sV (((Lib.itoa (a.num))++([47]))++(Lib.itoa (a.den:Int)))) rfl (fun w' hS=>(zO4 9 9 _ _ ((Lib.itoa (a.num))++([47])) (Lib.itoa (a.den:Int)) rfl rfl rfl (by simp only [List.length_append,List.length_cons,List.length_nil];omega))) ?_
 refine ov 2 (sV (((Lib.itoa (a.num))++([47]))++(Lib.itoa (a.den:Int)))) ?_
 refine zb4 ?_
 refine k6 _ _ ?_
 refine wp_ret ?_
 refine bodyPost_ret (v:=(sV (((Lib.itoa (a.num))++([47]))++(Lib.itoa (a.den:Int))))) (za3 rfl rfl) rfl ⟨?_,hB⟩
 exact (by rw [zS7 hw])

theorem zu1 {k:Nat} {u0 u1 u2 u3:Value} {a:Rat} {w:World} (ha:IsRat w k u0 u1 u2 u3 a) (hk:k≤800000) (ht:Tab w):
  Calls Tryz.prog 27 #[.agg #[u0,u1,u2,u3]] w fun e w'=>e=.returned (sV (zd4 a))∧Gr w w':=by
 by_cases hw:a.den=1
 ·exact number_w ha hk ht hw
 obtain ⟨D,h2,h3⟩:=ha.den
 rcases h3 with h3 | ⟨_,h4⟩
 ·subst h3;exact number_d ha hk ht h2 hw
 exact absurd h4 hw

end Go.Proofs.YtjhflekncldflaaGreatDoor
namespace Go.Proofs.YtjhflekncldflaaGreatDoor
set_option maxRecDepth 100000
set_option maxHeartbeats 4000000
open Go.RowKit

def POK (D:Ofr) (s:Bst) (vc:Value) (B dk ba bd bo bs:Nat) (ds os rs sp cs ch:Value) (g:Nat):Prop:=∀ (l:List Nat) (pf:List Leaf) (w0 w:World) (v vp:Value),D.n<l.length+g→D.vp l→Mx w0→Tab w0→Gr w0 w→w0.heap.size≤B→B≤w.heap.size→pf.length+D.pm g l.length≤1000000→Lc w dk #[ds,os,rs,sp,cs,ch] 158→Lc w bd #[.pointer (some ⟨dk,0,none⟩)] 118→Lc w bo #[ds,os,rs] 26→Lc w bs #[(.func (.func 54) #[] #[.pointer (some ⟨bd,0,none⟩),.pointer (some ⟨ba,0,none⟩),.pointer (some ⟨bo,0,none⟩),.pointer (some ⟨bs,0,none⟩)])] 128→Lc w ba #[.bool s.ok,vc,.int .i64 s.co,vp] 43→Dsk w D ds os rs sp cs ch→Ow ELf 108 4 w B vp pf→Sl EI64 3 1 w v (tb (fun z1=>((Ofr.at_ l z1:Nat):Int)) l.length)→
  Calls Tryz.prog 54 #[v,.pointer (some ⟨bd,0,none⟩),.pointer (some ⟨ba,0,none⟩),.pointer (some ⟨bo,0,none⟩),.pointer (some ⟨bs,0,none⟩)] w fun e w'=>(∃ vd,e=.returned (.tuple #[])∧Lc w' ba #[.bool s.ok,vc,.int .i64 s.co,vd] 43∧Ow ELf 108 4 w' B vd (pf++D.leaves s g l))∧Wx B 43 ba [108] w w'
theorem zQ1 {D:Ofr} {B dk ba bd bo bs g:Nat} {ds os rs sp cs ch v vc vp:Value} {l:List Nat} {s:Bst} {pf:List Leaf} {w0 w:World} (ok:D.Ok) (hbest:∀ c,D.good c→s.ok=true∧s.co≤D.bd c) (ih:POK D s vc B dk ba bd bo bs ds os rs sp cs ch g) (hBa:B≤ba) (hg:D.n<l.length+(g+1)) (hv:D.vp l) (hm:Mx w0) (ht:Tab w0) (h0:Gr w0 w) (a7:w0.heap.size≤B) (hBw:B≤w.heap.size) (hpn:pf.length+D.pm (g+1) l.length≤1000000) (hL:Lc w dk #[ds,os,rs,sp,cs,ch] 158) (ad:Lc w bd #[pT dk 0] 118) (ae:Lc w bo #[ds,os,rs] 26) (ac:Lc w bs #[(.func (.func 54) #[] #[pT bd 0,pT ba 0,pT bo 0,pT bs 0])] 128) (aa:Lc w ba #[.bool s.ok,vc,iT s.co,vp] 43) (hD:Dsk w D ds os rs sp cs ch) (hp:Ow ELf 108 4 w B vp pf) (hl:Sl EI64 3 1 w v (tb (fun z1=>((Ofr.at_ l z1:Nat):Int)) l.length)):
    Calls Tryz.prog 54 #[v,pT bd 0,pT ba 0,pT bo 0,pT bs 0] w fun e w'=>(∃ vd,e=.returned (.tuple #[])∧Lc w' ba #[.bool s.ok,vc,iT s.co,vd] 43∧Ow ELf 108 4 w' B vd (pf++D.leaves s (g+1) l))∧Wx B 43 ba [108] w w':=by
 have n1:=ok.n1
 have n2:=ok.n2
 have d6:=ok.q2
 have cZ:=hv.1
 have hds:=hD.ds
 have hos:=hD.os
 have hrs:=hD.rs
 have hsp:=hD.sp
 have hcs:=hD.cs
 have hch:=hD.ch
 go_enter Tryz.func54,Tryz.ntmps54
 have hB:=Wx.refl (B:=B) (T0:=43) (bx:=ba) (ts:=[108]) w
 refine wp_seq_k (fun da cR=>rg [0,1,2,3,4] (sv 10 v ?_))
 refine se ?_
 refine ec 11 (zL9 (by omega) hl) ?_
 rintro cY dy ⟨⟨dz,rfl,aF⟩,aG⟩
 refine ⟨_,rfl,?_⟩
 replace hB:=hB.trans aG
 obtain ⟨ai,aj,ak,rfl⟩:=aF.forms
 simp only [p3,p4]
 refine sv 12 (.agg #[.slice ai aj ak,iT 0,iT (-1),sN]) ?_
 refine se ?_
 refine ze1 108 (.agg #[sN,iT 0,iT 0,sN]) #[sN,iT 0,iT 0,sN] (some 6) rfl rfl (by kernel_rfl) rfl (fun aT d9 aC aB aH=>?_)
 replace hL:=hL.gr aG
 have a8:=hL.ne aH
 replace ad:=ad.gr aG
 have aS:=ad.ne aH
 replace ae:=ae.gr aG
 have av:=ae.ne aH
 replace ac:=ac.gr aG
 have au:=ac.ne aH
 replace aa:=aa.gr aG
 have al:=aa.ne aH
 replace hp:=hp.gr zc2 aG
 have aw:=hp.ne aH
 have ax:=aH
 replace aH:=Nat.le_trans hB.size aH
 replace hB:=hB.trans aC
 simp only [zd1,p3,p4]
 refine se ?_
 have a0:=aB
 refine zd2 108 _ _ aT 0 (.agg #[.slice ai aj ak,iT 0,iT (-1),sN]) [.slice ai aj ak,iT 0,iT (-1),sN] #[sN,iT 0,iT 0,sN] #[.slice ai aj ak,iT 0,iT (-1),sN] 108 rfl rfl rfl rfl rfl a0 (by kernel_rfl) (Nat.le_of_ble_eq_true rfl) ⟨rfl,rfl,rfl,rfl,trivial⟩ (by kernel_rfl) (fun dU ah aB=>?_)
 replace hB:=hB.sto ah aH hBw
 refine za0 (cR _ _ ?_)
 refine wp_seq_k (fun dj cF=>rg [0,1,2,3,4,5,6,7] ?_)
 replace ad:=ah.lc (ad.gr aC) aS
 refine sw 14 (pT dk 0) rfl (rk 118 0 ad) ?_
 refine sv 15 v ?_
 refine se ?_
 replace hL:=ah.lc (hL.gr aC) a8
 replace hds:=hds.gr zb8 (ah.gr (aG.trans aC) (Nat.le_trans (Below.size aG) ax))
 replace hos:=hos.gr (za1 za6 68 3) (ah.gr (aG.trans aC) (Nat.le_trans (Below.size aG) ax))
 replace hrs:=hrs.gr zb9 (ah.gr (aG.trans aC) (Nat.le_trans (Below.size aG) ax))
 replace hsp:=hsp.gr (za1 (za1 (za7 64) 124 8) 162 1) (ah.gr (aG.trans aC) (Nat.le_trans (Below.size aG) ax))
 replace hcs:=hcs.gr (za5 64) (ah.gr (aG.trans aC) (Nat.le_trans (Below.size aG) ax))
 replace hch:=hch.gr za2 (ah.gr (aG.trans aC) (Nat.le_trans (Below.size aG) ax))
 replace hl:=hl.gr za2 (ah.gr (aG.trans aC) (Nat.le_trans (Below.size aG) ax))
 refine ec 16 (zp9 ok hL (⟨hds,hos,hrs,hsp,hcs,hch⟩:Dsk _ D _ _ _ _ _ _) (hm.gr (hB.below _ h0 a7)) hv hl) ?_
 rintro c6 cJ ⟨rfl,aq⟩
 refine ⟨_,rfl,?_⟩
 replace hB:=hB.trans aq
 simp only [p3,p4]
 refine sv 13 (.tuple #[iT ((fz D l).1),iT ((fz D l).2)]) ?_
 refine sv 17 (iT ((fz D l).1)) ?_
 refine sv 18 (iT ((fz D l).2)) ?_
 refine sv 7 (iT ((fz D l).1)) ?_
 refine sv 8 (iT ((fz D l).2)) (za0 (cF _ _ ?_))
 refine wp_seq_k (fun dv bQ=>?_)
 refine wp_block ?_
 refine wp_seq_k (fun ek b8=>?_)
 have af:=Gr.drew cJ
 replace hB:=hB.trans af
 replace ad:=ad.gr (aq.trans af)
 replace aa:=(ah.lc (aa.gr aC) al).gr (aq.trans af)
 refine za4 (fun w'=>Lc w' bd #[pT dk 0] 118∧Lc w' ba #[.bool (s.ok),vc,iT (s.co),vp] 43) [(true,0),(true,1),(true,2),(true,3),(true,4),(true,6),(true,7),(false,5),(true,8),(true,9),(true,10)] (by kernel_rfl) (by kernel_rfl) (by kernel_rfl) (by decide) (fun _ _ _ _ _ h=>h) ⟨ad,aa⟩ ?_
 refine ov 42 (pT ba 0) ?_
 refine ow 43 (.bool (s.ok)) rfl (fun w' hS=>(rk 4 0 hS.2)) ?_
 rcases Bool.eq_false_or_eq_true (s.ok) with hb20 | hb20
 ·have sk:=hb20
  refine ow 44 (.bool true) rfl (fun w' hS=>(RunV.bool (x:=s.ok) (rvk (by kernel_rfl)) hb20)) ?_
  refine ow 45 (pT dk 0) rfl (fun w' hS=>(rk 118 0 hS.1)) ?_
  refine ov 46 v ?_
  refine ov 48 (pT ba 2) ?_
  refine ow 49 (iT (s.co)) rfl (fun w' hS=>(rk 3 2 hS.2)) ?_
  refine oe ?_
  replace hL:=hL.gr (aq.trans af)
  replace hds:=hds.gr zb8 (aq.trans af)
  replace hos:=hos.gr (za1 za6 68 3) (aq.trans af)
  replace hrs:=hrs.gr zb9 (aq.trans af)
  replace hsp:=hsp.gr (za1 (za1 (za7 64) 124 8) 162 1) (aq.trans af)
  replace hcs:=hcs.gr (za5 64) (aq.trans af)
  replace hch:=hch.gr za2 (aq.trans af)
  replace hl:=hl.gr za2 (aq.trans af)
  refine ec 47 (zi7 ok hL (⟨hds,hos,hrs,hsp,hcs,hch⟩:Dsk _ D _ _ _ _ _ _) hv hl) ?_
  rintro dP eg ⟨rfl,ay⟩
  refine ⟨_,rfl,?_⟩
  replace hB:=hB.trans ay
  replace ad:=ad.gr ay
  replace aa:=aa.gr ay
  refine ⟨⟨ad,aa⟩,?_⟩
  simp only [p3,p4]
  refine ov 50 (.bool (decide (s.co≤D.bd l))) ?_
  refine ov 51 (.bool (decide (s.co≤D.bd l))) ?_
  refine ov 41 (.bool (decide (s.co≤D.bd l))) ?_
  refine zb4 ?_
  refine b8 _ _ ?_
  refine wp_cond_split rfl (fun bg=>?_) (fun bg=>?_)
  ·have hbe:=zD0 sk bg
   refine rg [0,1,2,3,4] ?_
   refine sw 52 (pT dk 0) rfl (rk 118 0 ad) ?_
   refine sv 53 v ?_
   refine se ?_
   replace hL:=hL.gr ay
   replace hds:=hds.gr zb8 ay
   replace hos:=hos.gr (za1 za6 68 3) ay
   replace hrs:=hrs.gr zb9 ay
   replace hsp:=hsp.gr (za1 (za1 (za7 64) 124 8) 162 1) ay
   replace hcs:=hcs.gr (za5 64) ay
   replace hch:=hch.gr za2 ay
   replace hl:=hl.gr za2 ay
   refine ec 54 (zi7 ok hL (⟨hds,hos,hrs,hsp,hcs,hch⟩:Dsk _ D _ _ _ _ _ _) hv hl) ?_
   rintro en dd ⟨rfl,bt⟩
   refine ⟨_,rfl,?_⟩
   replace hB:=hB.trans bt
   simp only [p3,p4]
   refine sv 55 (pT aT 1) ?_
   refine se ?_
   replace aB:=aB.gr (aq.trans (af.trans (ay.trans bt)))
   have b1:=aB
   refine zd2 3 _ _ aT 1 (iT (D.bd l)) [iT (D.bd l)] #[.slice ai aj ak,iT 0,iT (-1),sN] #[.slice ai aj ak,iT (D.bd l),iT (-1),sN] 108 rfl rfl rfl rfl rfl b1 (by kernel_rfl) (Nat.le_of_ble_eq_true rfl) ⟨rfl,trivial⟩ (by kernel_rfl) (fun c5 aY aB=>?_)
   replace hB:=hB.sto aY aH hBw
   refine za0 (bQ _ _ ?_)
   refine rg [0,1,2,3,4,5,6] (sv 66 (pT ba 3) ?_)
   replace aa:=aY.lc (aa.gr bt) al
   refine sw 67 vp rfl (rk 41 3 aa) ?_
   refine sw 68 (.agg #[.slice ai aj ak,iT (D.bd l),iT (-1),sN]) rfl (rl 108 0 [.slice ai aj ak,iT (D.bd l),iT (-1),sN] aB) ?_
   refine se ?_
   refine zc5 108 1 #[.slice ai aj ak,iT (D.bd l),iT (-1),sN] (some 69) rfl (fun _=>by kernel_rfl) (fun cK dL bG cm cG=>?_)
   replace hp:=hp.gr zc2 (aY.gr (((((ah.gr aC ax).trans aq).trans af).trans ay).trans bt) ax)
   have bL:=hp.ne cG
   replace hB:=hB.trans bG
   simp only [zd1,p3,p4]
   refine se ?_
   replace aF:=aF.gr ze9 ((aY.gr (((((ah.gr aC ax).trans aq).trans af).trans ay).trans bt) ax).trans bG)
   replace hp:=hp.gr zc2 bG
   refine zg8 zc2 _ _ 41 108 B (.agg #[sN,iT 0,iT 0,sN]) vp pf cK [.slice ai aj ak,iT (D.bd l),iT (-1),sN] (⟨pk l,D.bd l,-1,[]⟩:Leaf) 4 1 (some 70) 64 rfl rfl rfl rfl hp cm ⟨rfl,rfl,rfl,rfl,trivial⟩ rfl ⟨_,_,rfl,aF.cast pk_tb,Sl.nil _ _ _ _ none 0⟩ (Nat.le_trans hBw hB.size) (by have:=zD9 ok (g:=g+1) hv.1;omega) (by decide) (by kernel_rfl) (by kernel_rfl) (by decide) (by decide) (fun b2 cX aW bw bU=>?_)
   replace hB:=hB.wt bw (by decide) bU
   simp only [zd1,p3,p4]
   refine sv 71 (pT ba 3) ?_
   refine se ?_
   replace aa:=bw.lc (aa.gr bG) (by decide)
   have a3:=aa
   refine zd2 41 _ _ ba 3 b2 [b2] #[.bool (s.ok),vc,iT (s.co),vp] #[.bool (s.ok),vc,iT (s.co),b2] 43 rfl rfl rfl rfl (by obtain ⟨_,_,e,_⟩:=(aW.sl).form;rw [e];rfl) a3 (by kernel_rfl) (Nat.le_of_ble_eq_true rfl) ⟨aW.one,trivial⟩ (by kernel_rfl) (fun df bv aa=>?_)
   replace hB:=hB.st bv a3 hBa
   refine za0 ?_
   show bodyPost _ _ _ .normal _ _
   refine bodyPost_end (v:=(.tuple #[])) (zf6 rfl) rfl ⟨?_,hB⟩
   replace aW:=aW.kts zc2 (bv.kts a3 (by decide))
   exact (by rw [lv_be hbe];exact ⟨_,rfl,aa,aW⟩)
  have hbe:=zD0 sk bg
  refine wp_seq_k (fun ej cl=>rg [0,1,2] (sv 57 (iT ((fz D l).2)) ?_))
  refine sv 58 (.bool ((fz D l).2 !=(0:Int))) ?_
  refine sv 56 (.bool ((fz D l).2 !=(0:Int))) (za0 (cl _ _ ?_))
  refine wp_cond_split rfl (fun a5=>?_) (fun a5=>?_)
  ·have hf:(fz D l).2≠0:=by simpa using a5
   have hfb:=fz_b (D:=D) (l:=l)
   refine rg [0,1,2,3,4,5,6,7,8] (sv 59 (iT ((fz D l).1)) ?_)
   refine sv 60 (iT ((fz D l).2)) ?_
   refine se ?_
   refine ec 61 (zM8 ((fz D l).2) (by omega) (by omega) _) ?_
   rintro eu dT ⟨⟨dC,de,ed,ez,rfl,cH⟩,aZ⟩
   refine ⟨_,rfl,?_⟩
   replace hB:=hB.trans aZ
   simp only [p3,p4]
   refine se ?_
   refine ec 62 (zu1 cH (by omega) (ht.gr (hB.below _ h0 a7))) ?_
   rintro dO dq ⟨rfl,aX⟩
   refine ⟨_,rfl,?_⟩
   replace hB:=hB.trans aX
   simp only [p3,p4]
   refine se ?_
   refine zc5 33 1 #[sV (zd4 (((fz D l).2:Int):Rat))] (some 63) rfl (fun _=>by kernel_rfl) (fun bb dA bm bn b7=>?_)
   replace hL:=hL.gr (ay.trans (aZ.trans aX))
   replace ad:=ad.gr (aZ.trans aX)
   replace ae:=(ah.lc (ae.gr aC) av).gr (aq.trans (af.trans (ay.trans (aZ.trans aX))))
   replace ac:=(ah.lc (ac.gr aC) au).gr (aq.trans (af.trans (ay.trans (aZ.trans aX))))
   replace aa:=aa.gr (aZ.trans aX)
   replace aB:=aB.gr (aq.trans (af.trans (ay.trans (aZ.trans aX))))
   have aN:=aB.ne b7
   replace hp:=hp.gr zc2 ((((((ah.gr aC ax).trans aq).trans af).trans ay).trans aZ).trans aX)
   have bF:=hp.ne b7
   replace hB:=hB.trans bm
   simp only [zd1,p3,p4]
   refine sv 64 (pT aT 2) ?_
   refine se ?_
   replace aB:=aB.gr bm
   have bu:=aB
   refine zd2 3 _ _ aT 2 (iT ((fz D l).1)) [iT ((fz D l).1)] #[.slice ai aj ak,iT 0,iT (-1),sN] #[.slice ai aj ak,iT 0,iT ((fz D l).1),sN] 108 rfl rfl rfl rfl rfl bu (by kernel_rfl) (Nat.le_of_ble_eq_true rfl) ⟨rfl,trivial⟩ (by kernel_rfl) (fun dx aR aB=>?_)
   replace hB:=hB.sto aR aH hBw
   refine sv 65 (pT aT 3) ?_
   refine se ?_
   have bC:=aB
   refine zd2 106 _ _ aT 3 (sT bb 1 1) [sT bb 1 1] #[.slice ai aj ak,iT 0,iT ((fz D l).1),sN] #[.slice ai aj ak,iT 0,iT ((fz D l).1),sT bb 1 1] 108 rfl rfl rfl rfl rfl bC (by kernel_rfl) (Nat.le_of_ble_eq_true rfl) ⟨rfl,trivial⟩ (by kernel_rfl) (fun dZ aO aB=>?_)
   replace hB:=hB.sto aO aH hBw
   refine za0 (bQ _ _ ?_)
   refine rg [0,1,2,3,4,5,6] (sv 66 (pT ba 3) ?_)
   replace aa:=aO.lc (aR.lc (aa.gr bm) al) al
   refine sw 67 vp rfl (rk 41 3 aa) ?_
   refine sw 68 (.agg #[.slice ai aj ak,iT 0,iT ((fz D l).1),sT bb 1 1]) rfl (rl 108 0 [.slice ai aj ak,iT 0,iT ((fz D l).1),sT bb 1 1] aB) ?_
   refine se ?_
   refine zc5 108 1 #[.slice ai aj ak,iT 0,iT ((fz D l).1),sT bb 1 1] (some 69) rfl (fun _=>by kernel_rfl) (fun cW dp bl ck cU=>?_)
   replace bn:=aO.lc (aR.lc bn (Ne.symm aN)) (Ne.symm aN)
   replace hp:=((hp.gr zc2 bm).st zc2 aR aw (aR.kts bu (by decide))).st zc2 aO aw (aO.kts bC (by decide))
   have bJ:=hp.ne cU
   replace hB:=hB.trans bl
   simp only [zd1,p3,p4]
   refine se ?_
   replace aF:=aF.gr ze9 ((aO.gr (aR.gr (((((((ah.gr aC ax).trans aq).trans af).trans ay).trans aZ).trans aX).trans bm) ax) ax).trans bl)
   replace bn:=bn.gr bl
   replace hp:=hp.gr zc2 bl
   refine zg8 zc2 _ _ 41 108 B (.agg #[sN,iT 0,iT 0,sN]) vp pf cW [.slice ai aj ak,iT 0,iT ((fz D l).1),sT bb 1 1] (⟨pk l,0,(fz D l).1,[zd4 (((fz D l).2:Int):Rat)]⟩:Leaf) 4 1 (some 70) 64 rfl rfl rfl rfl hp ck ⟨rfl,rfl,rfl,rfl,trivial⟩ rfl ⟨_,_,rfl,aF.cast pk_tb,zL0 bn⟩ (Nat.le_trans hBw hB.size) (by have:=zD9 ok (g:=g+1) hv.1;omega) (by decide) (by kernel_rfl) (by kernel_rfl) (by decide) (by decide) (fun bW ee aV bE bN=>?_)
   replace hB:=hB.wt bE (by decide) bN
   simp only [zd1,p3,p4]
   refine sv 71 (pT ba 3) ?_
   refine se ?_
   replace aa:=bE.lc (aa.gr bl) (by decide)
   have bi:=aa
   refine zd2 41 _ _ ba 3 bW [bW] #[.bool (s.ok),vc,iT (s.co),vp] #[.bool (s.ok),vc,iT (s.co),bW] 43 rfl rfl rfl rfl (by obtain ⟨_,_,e,_⟩:=(aV.sl).form;rw [e];rfl) bi (by kernel_rfl) (Nat.le_of_ble_eq_true rfl) ⟨aV.one,trivial⟩ (by kernel_rfl) (fun ev bp aa=>?_)
   replace hB:=hB.st bp bi hBa
   refine za0 ?_
   show bodyPost _ _ _ .normal _ _
   refine bodyPost_end (v:=(.tuple #[])) (zf6 rfl) rfl ⟨?_,hB⟩
   replace aV:=aV.kts zc2 (bp.kts bi (by decide))
   exact (by rw [lv_ff hbe hf];exact ⟨_,rfl,aa,aV⟩)
  have hf:(fz D l).2=0:=by simpa using a5
  have hn:=zL3 hbest hv hbe hf
  have cO:=ok.o2 l.length (by omega)
  refine wp_seq_k (fun dR cr=>wp_seq_k (fun d8 ct=>rg [0,1,2,3,4,5,6,7] (sv 19 (pT bo 1) ?_)))
  replace ae:=(ah.lc (ae.gr aC) av).gr (aq.trans (af.trans ay))
  refine sw 20 os rfl (rk 23 1 ae) ?_
  refine sv 21 v ?_
  refine sw 22 (iT ((l.length:Nat):Int)) rfl (zb0 (e:=3) hl (za9 rfl) _ _ rfl rfl (by kernel_rfl)) ?_
  refine sw 23 (adr os (l.length*1)) rfl (zc0 (e:=72) hos za8 (by decide) l.length (by omega) _ _ _ rfl rfl rfl (by kernel_rfl) (by kernel_rfl)) ?_
  replace hos:=hos.gr (za1 za6 68 3) ay
  obtain ⟨_,_,⟨cb,rfl,bS⟩,bT⟩:=Sl.get hos (by decide) (zc3 (f:=(fun z0=>tb (fun z1=>(D.op z0 z1)) (D.ol z0))) (n:=D.n) (i:=l.length) (by omega))
  refine sw 24 cb rfl (ze6 cb bT _ _ rfl rfl (by kernel_rfl)) ?_
  refine sw 25 (iT ((D.ol l.length:Nat):Int)) rfl (zb0 (e:=68) bS (za9 rfl) _ _ rfl rfl (by kernel_rfl)) ?_
  refine sv 26 (iT 0) (za0 (ct _ _ ?_))
  refine wp_block ?_
  replace hds:=hds.gr zb8 ay
  replace hrs:=hrs.gr zb9 ay
  replace hsp:=hsp.gr (za1 (za1 (za7 64) 124 8) 162 1) ay
  replace hcs:=hcs.gr (za5 64) ay
  replace hch:=hch.gr za2 ay
  replace hl:=hl.gr za2 ay
  replace hp:=hp.gr zc2 ((((ah.gr aC ax).trans aq).trans af).trans ay)
  replace hL:=hL.gr ay
  replace ac:=(ah.lc (ac.gr aC) au).gr (aq.trans (af.trans ay))
  refine zb1 (a:=⟨List.toArray ?l42,[]⟩) (fun n a w'=>∃ (k:Nat) (vk:Value) (ap:Nat→Value),(D.ol l.length) - k=n∧a=⟨[v,pT bd 0,pT ba 0,pT bo 0,pT bs 0,undef,pT aT 0,iT ((fz D l).1),iT ((fz D l).2),ap 9,ap 10,ap 11,ap 12,ap 13,ap 14,ap 15,ap 16,ap 17,ap 18,ap 19,ap 20,ap 21,ap 22,ap 23,ap 24,iT ((D.ol l.length:Nat):Int),iT (k:Int),ap 27,ap 28,ap 29,ap 30,ap 31,ap 32,ap 33,ap 34,ap 35,ap 36,ap 37,ap 38,ap 39,ap 40,.bool (decide (s.co≤D.bd l)),ap 42,ap 43,ap 44,ap 45,ap 46,ap 47,ap 48,ap 49,ap 50,ap 51,undef,undef,undef,undef,.bool ((fz D l).2 !=(0:Int)),ap 57,ap 58,undef,undef,undef,undef,undef,undef,undef,undef,undef,undef,undef,undef,undef].toArray,[]⟩∧k≤(D.ol l.length)∧Sl EDm 71 4 w' ds (tb (fun z1=>(D.nom z1)) D.n)∧Sl (ERw EOp 68 3) 72 1 w' os (tb (fun z0=>tb (fun z1=>(D.op z0 z1)) (D.ol z0)) D.n)∧Sl ERq 80 8 w' rs (tb (fun z1=>(D.rq z1)) D.q)∧Sl (ERw (ERw (ESp 64) 124 8) 162 1) 161 1 w' sp (tb (fun z0=>tb (fun z1=>tb (fun z2=>(D.sp z0 z1 z2)) (D.ol z1)) D.n) D.q)∧Sl (ERat 64) 62 4 w' cs (tb (fun z1=>(D.cn z1)) D.q)∧Sl EI64 3 1 w' ch (tb (fun z1=>(D.ch z1)) D.n)∧Sl EI64 3 1 w' v (tb (fun z1=>((Ofr.at_ l z1:Nat):Int)) l.length)∧Ow ELf 108 4 w' B vk (pf++D.lvs s g l k)∧Lc w' dk #[ds,os,rs,sp,cs,ch] 158∧Lc w' bd #[pT dk 0] 118∧Lc w' bo #[ds,os,rs] 26∧Lc w' bs #[(.func (.func 54) #[] #[pT bd 0,pT ba 0,pT bo 0,pT bs 0])] 128∧Lc w' ba #[.bool (s.ok),vc,iT (s.co),vk] 43∧Wx B 43 ba [108] w w') ((D.ol l.length) - 0) ?_ ?_
  ·exact ⟨0,vp,(fun i=>List.getD ?l42 i undef),rfl,rfl,Nat.zero_le _,hds,hos,hrs,hsp,hcs,hch,hl,hp.cast zL1,hL,ad,ae,ac,aa,hB⟩
  rintro c8 dr cV ⟨k,vk,ap,rfl,rfl,hkk,hds,hos,hrs,hsp,hcs,hch,hl,hp,hL,ad,ae,ac,aa,hB⟩ ep cS
  refine wp_seq_k (fun c9 cu=>rg [0] (sv 27 (.bool (decide ((k:Int)<((D.ol l.length:Nat):Int)))) ?_))
  refine za0 (cu _ _ ?_)
  refine wp_seq_k (fun er cD=>?_)
  refine wp_cond_split rfl (fun a9=>?_) (fun a9=>?_)
  ·have hlk:k<(D.ol l.length):=by have:=of_decide_eq_true a9;omega
   refine wp_skip ?_
   refine cD _ _ ?_
   refine wp_seq_k (fun dG cq=>?_)
   refine wp_block ?_
   refine wp_seq_k (fun et cf=>rg [0,1] (sv 28 (iT (k:Int)) ?_))
   refine sv 9 (iT (k:Int)) (za0 (cf _ _ ?_))
   have az:=Gr.drew cV
   replace hB:=hB.trans az
   replace ac:=ac.gr az
   refine za4 (fun w'=>Lc w' bs #[(.func (.func 54) #[] #[pT bd 0,pT ba 0,pT bo 0,pT bs 0])] 128) [(true,0),(true,1),(true,2),(true,3),(true,4),(true,5),(true,6),(true,7),(false,8),(false,9),(false,10)] (by kernel_rfl) (by kernel_rfl) (by kernel_rfl) (by decide) (fun _ _ _ _ _ h=>h) ac ?_
   refine ow 29 (.func (.func 54) #[] #[pT bd 0,pT ba 0,pT bo 0,pT bs 0]) rfl (fun w' hS=>(rk 128 0 hS)) ?_
   refine ov 30 v ?_
   refine ov 31 v ?_
   refine ow 32 (iT ((l.length:Nat):Int)) rfl (fun w' hS=>(zb0 (e:=3) hl (za9 rfl) _ _ rfl rfl (by kernel_rfl))) ?_
   refine ov 33 v ?_
   refine ow 34 (iT ((l.length:Nat):Int)) rfl (fun w' hS=>(zb0 (e:=3) hl (za9 rfl) _ _ rfl rfl (by kernel_rfl))) ?_
   refine ow 35 (capv v l.length 1) rfl (fun w' hS=>(zv2 (e:=3) hl l.length za8 _ _ _ _ rfl rfl rfl rfl (by kernel_rfl) (by kernel_rfl))) ?_
   refine ov 36 (iT (k:Int)) ?_
   refine oe ?_
   refine zc5 3 1 #[iT (k:Int)] (some 37) rfl (fun _=>by kernel_rfl) (fun cE dV aK cg cL=>?_)
   replace hL:=hL.gr az
   replace ad:=ad.gr az
   replace ae:=ae.gr az
   replace aa:=aa.gr az
   replace hp:=hp.gr zc2 az
   have bH:=hp.ne cL
   replace hB:=hB.trans aK
   replace ac:=ac.gr aK
   refine ⟨ac,?_⟩
   simp only [zd1,p3,p4]
   refine oe ?_
   replace hl:=hl.gr za2 (az.trans aK)
   refine zv3 za2 _ _ 40 3 (iT 0) v l.length (tb (fun z1=>((Ofr.at_ l z1:Nat):Int)) l.length) cE [iT (k:Int)] ((k:Int):Int) 1 1 (some 38) 8 rfl rfl rfl rfl hl za8 cg ⟨rfl,trivial⟩ rfl rfl (by omega) (by decide) (by kernel_rfl) (by kernel_rfl) (by decide) (fun dM dJ bV aJ=>?_)
   replace hB:=hB.trans aJ
   have b0:=bV.sl.cast zH0
   replace ac:=ac.gr aJ
   refine ⟨ac,?_⟩
   simp only [zd1,p3,p4]
   refine oe ?_
   replace hL:=hL.gr (aK.trans aJ)
   replace ad:=ad.gr (aK.trans aJ)
   replace ae:=ae.gr (aK.trans aJ)
   replace aa:=aa.gr (aK.trans aJ)
   replace hp:=hp.gr zc2 (aK.trans aJ)
   replace hds:=hds.gr zb8 (az.trans (aK.trans aJ))
   replace hos:=hos.gr (za1 za6 68 3) (az.trans (aK.trans aJ))
   replace hrs:=hrs.gr zb9 (az.trans (aK.trans aJ))
   replace hsp:=hsp.gr (za1 (za1 (za7 64) 124 8) 162 1) (az.trans (aK.trans aJ))
   replace hcs:=hcs.gr (za5 64) (az.trans (aK.trans aJ))
   replace hch:=hch.gr za2 (az.trans (aK.trans aJ))
   refine zh0 (some 39) rfl (by kernel_rfl) (ih (l++[k]) (pf++D.lvs s g l k) w0 _ _ _ (by rw [List.length_append,List.length_singleton];omega) (hv.snoc (by omega) hlk) hm ht (hB.below _ h0 a7) a7 (Nat.le_trans hBw hB.size) (zL4 ok hg hv hn hlk hpn) hL ad ae ac aa ⟨hds,hos,hrs,hsp,hcs,hch⟩ hp b0) ?_
   rintro ei dH ⟨⟨bP,rfl,aa,b3⟩,aD⟩
   refine ⟨_,rfl,?_⟩
   replace hB:=hB.trans2 aD
   replace ac:=aD.lc ac (by decide)
   refine ⟨ac,?_⟩
   simp only [zd1,p3,p4]
   refine zb4 ?_
   refine cq _ _ ?_
   refine rg [0,1] ?_
   refine sw 40 (iT ((k:Int)+1)) rfl (rwI ((k:Int)+1)) ?_
   refine sv 26 (iT ((k:Int)+1)) ?_
   refine za0 ?_
   replace hds:=hds.kts zb8 (aD.kts (by decide))
   replace hos:=hos.kts (za1 za6 68 3) (aD.kts (by decide))
   replace hrs:=hrs.kts zb9 (aD.kts (by decide))
   replace hsp:=hsp.kts (za1 (za1 (za7 64) 124 8) 162 1) (aD.kts (by decide))
   replace hcs:=hcs.kts (za5 64) (aD.kts (by decide))
   replace hch:=hch.kts za2 (aD.kts (by decide))
   replace hl:=(hl.gr za2 aJ).kts za2 (aD.kts (by decide))
   replace hL:=aD.lc hL (by decide)
   replace ad:=aD.lc ad (by decide)
   replace ae:=aD.lc ae (by decide)
   refine cS ((D.ol l.length) - (k+1)) ⟨List.toArray ?l62,[]⟩ _ (by omega) ?_
   exact ⟨k+1,bP,(fun i=>List.getD ?l62 i undef),rfl,rfl,(by omega),hds,hos,hrs,hsp,hcs,hch,hl,b3.cast zL2,hL,ad,ae,ac,aa,hB⟩
  have hek:(D.ol l.length)=k:=by have:=of_decide_eq_false a9;omega
  subst hek
  refine wp_exit ?_
  simp only [Exit.then,Exit.inBlock,↓reduceIte]
  refine cr _ _ ?_
  refine wp_ret ?_
  simp only [Exit.then,Exit.inBlock]
  refine bodyPost_ret (v:=(.tuple #[])) (zf6 rfl) rfl ⟨?_,hB⟩
  exact (by rw [lv_go hbe hf hn];exact ⟨_,rfl,aa,hp⟩)
 have hbe:D.beats s l=false:=yc9 hb20
 refine ow 44 (.bool false) rfl (fun w' hS=>(RunV.bool (x:=s.ok) (rvk (by kernel_rfl)) hb20)) ?_
 refine Go.Proofs.YtjhflekncldflaaGreatDoor.os 45 ?_
 refine Go.Proofs.YtjhflekncldflaaGreatDoor.os 46 ?_
 refine Go.Proofs.YtjhflekncldflaaGreatDoor.os 48 ?_
 refine Go.Proofs.YtjhflekncldflaaGreatDoor.os 49 ?_
 refine oz 47 ⟨ad,aa⟩ ?_
 refine Go.Proofs.YtjhflekncldflaaGreatDoor.os 50 ?_
 refine ov 51 (.bool false) ?_
 refine ov 41 (.bool false) ?_
 refine zb4 ?_
 refine b8 _ _ ?_
 refine wp_cond_false rfl ?_
 refine wp_seq_k (fun c4 cp=>rg [0,1,2] (sv 57 (iT ((fz D l).2)) ?_))
 refine sv 58 (.bool ((fz D l).2 !=(0:Int))) ?_
 refine sv 56 (.bool ((fz D l).2 !=(0:Int))) (za0 (cp _ _ ?_))
 refine wp_cond_split rfl (fun a4=>?_) (fun a4=>?_)
 ·have hf:(fz D l).2≠0:=by simpa using a4
  have hfb:=fz_b (D:=D) (l:=l)
  refine rg [0,1,2,3,4,5,6,7,8] (sv 59 (iT ((fz D l).1)) ?_)
  refine sv 60 (iT ((fz D l).2)) ?_
  refine se ?_
  refine ec 61 (zM8 ((fz D l).2) (by omega) (by omega) _) ?_
  rintro dN dE ⟨⟨ew,eh,c7,dB,rfl,cA⟩,a1⟩
  refine ⟨_,rfl,?_⟩
  replace hB:=hB.trans a1
  simp only [p3,p4]
  refine se ?_
  refine ec 62 (zu1 cA (by omega) (ht.gr (hB.below _ h0 a7))) ?_
  rintro dW dQ ⟨rfl,a2⟩
  refine ⟨_,rfl,?_⟩
  replace hB:=hB.trans a2
  simp only [p3,p4]
  refine se ?_
  refine zc5 33 1 #[sV (zd4 (((fz D l).2:Int):Rat))] (some 63) rfl (fun _=>by kernel_rfl) (fun a6 dc bq bA b9=>?_)
  replace hL:=hL.gr (aq.trans (af.trans (a1.trans a2)))
  replace ad:=ad.gr (a1.trans a2)
  replace ae:=(ah.lc (ae.gr aC) av).gr (aq.trans (af.trans (a1.trans a2)))
  replace ac:=(ah.lc (ac.gr aC) au).gr (aq.trans (af.trans (a1.trans a2)))
  replace aa:=aa.gr (a1.trans a2)
  replace aB:=aB.gr (aq.trans (af.trans (a1.trans a2)))
  have aI:=aB.ne b9
  replace hp:=(((((hp.gr zc2 aC).st zc2 ah aw (ah.kts a0 (by decide))).gr zc2 aq).gr zc2 af).gr zc2 a1).gr zc2 a2
  have bI:=hp.ne b9
  replace hB:=hB.trans bq
  simp only [zd1,p3,p4]
  refine sv 64 (pT aT 2) ?_
  refine se ?_
  replace aB:=aB.gr bq
  have bj:=aB
  refine zd2 3 _ _ aT 2 (iT ((fz D l).1)) [iT ((fz D l).1)] #[.slice ai aj ak,iT 0,iT (-1),sN] #[.slice ai aj ak,iT 0,iT ((fz D l).1),sN] 108 rfl rfl rfl rfl rfl bj (by kernel_rfl) (Nat.le_of_ble_eq_true rfl) ⟨rfl,trivial⟩ (by kernel_rfl) (fun dI aQ aB=>?_)
  replace hB:=hB.sto aQ aH hBw
  refine sv 65 (pT aT 3) ?_
  refine se ?_
  have bf:=aB
  refine zd2 106 _ _ aT 3 (sT a6 1 1) [sT a6 1 1] #[.slice ai aj ak,iT 0,iT ((fz D l).1),sN] #[.slice ai aj ak,iT 0,iT ((fz D l).1),sT a6 1 1] 108 rfl rfl rfl rfl rfl bf (by kernel_rfl) (Nat.le_of_ble_eq_true rfl) ⟨rfl,trivial⟩ (by kernel_rfl) (fun d7 aP aB=>?_)
  replace hB:=hB.sto aP aH hBw
  refine za0 (bQ _ _ ?_)
  refine rg [0,1,2,3,4,5,6] (sv 66 (pT ba 3) ?_)
  replace aa:=aP.lc (aQ.lc (aa.gr bq) al) al
  refine sw 67 vp rfl (rk 41 3 aa) ?_
  refine sw 68 (.agg #[.slice ai aj ak,iT 0,iT ((fz D l).1),sT a6 1 1]) rfl (rl 108 0 [.slice ai aj ak,iT 0,iT ((fz D l).1),sT a6 1 1] aB) ?_
  refine se ?_
  refine zc5 108 1 #[.slice ai aj ak,iT 0,iT ((fz D l).1),sT a6 1 1] (some 69) rfl (fun _=>by kernel_rfl) (fun cT em bD cP cB=>?_)
  replace bA:=aP.lc (aQ.lc bA (Ne.symm aI)) (Ne.symm aI)
  replace hp:=((hp.gr zc2 bq).st zc2 aQ aw (aQ.kts bj (by decide))).st zc2 aP aw (aP.kts bf (by decide))
  have bK:=hp.ne cB
  replace hB:=hB.trans bD
  simp only [zd1,p3,p4]
  refine se ?_
  replace aF:=(((((((((aF.gr ze9 aC).kts ze9 (ah.kts a0 (by decide))).gr ze9 aq).gr ze9 af).gr ze9 a1).gr ze9 a2).gr ze9 bq).kts ze9 (aQ.kts bj (by decide))).kts ze9 (aP.kts bf (by decide))).gr ze9 bD
  replace bA:=bA.gr bD
  replace hp:=hp.gr zc2 bD
  refine zg8 zc2 _ _ 41 108 B (.agg #[sN,iT 0,iT 0,sN]) vp pf cT [.slice ai aj ak,iT 0,iT ((fz D l).1),sT a6 1 1] (⟨pk l,0,(fz D l).1,[zd4 (((fz D l).2:Int):Rat)]⟩:Leaf) 4 1 (some 70) 64 rfl rfl rfl rfl hp cP ⟨rfl,rfl,rfl,rfl,trivial⟩ rfl ⟨_,_,rfl,aF.cast pk_tb,zL0 bA⟩ (Nat.le_trans hBw hB.size) (by have:=zD9 ok (g:=g+1) hv.1;omega) (by decide) (by kernel_rfl) (by kernel_rfl) (by decide) (by decide) (fun b4 dX aU br bO=>?_)
  replace hB:=hB.wt br (by decide) bO
  simp only [zd1,p3,p4]
  refine sv 71 (pT ba 3) ?_
  refine se ?_
  replace aa:=br.lc (aa.gr bD) (by decide)
  have bh:=aa
  refine zd2 41 _ _ ba 3 b4 [b4] #[.bool (s.ok),vc,iT (s.co),vp] #[.bool (s.ok),vc,iT (s.co),b4] 43 rfl rfl rfl rfl (by obtain ⟨_,_,e,_⟩:=(aU.sl).form;rw [e];rfl) bh (by kernel_rfl) (Nat.le_of_ble_eq_true rfl) ⟨aU.one,trivial⟩ (by kernel_rfl) (fun el bB aa=>?_)
  replace hB:=hB.st bB bh hBa
  refine za0 ?_
  show bodyPost _ _ _ .normal _ _
  refine bodyPost_end (v:=(.tuple #[])) (zf6 rfl) rfl ⟨?_,hB⟩
  replace aU:=aU.kts zc2 (bB.kts bh (by decide))
  exact (by rw [lv_ff hbe hf];exact ⟨_,rfl,aa,aU⟩)
 have hf:(fz D l).2=0:=by simpa using a4
 have hn:=zL3 hbest hv hbe hf
 have cO:=ok.o2 l.length (by omega)
 refine wp_seq_k (fun ey cQ=>wp_seq_k (fun dY cw=>rg [0,1,2,3,4,5,6,7] (sv 19 (pT bo 1) ?_)))
 replace ae:=(ah.lc (ae.gr aC) av).gr (aq.trans af)
 refine sw 20 os rfl (rk 23 1 ae) ?_
 refine sv 21 v ?_
 refine sw 22 (iT ((l.length:Nat):Int)) rfl (zb0 (e:=3) hl (za9 rfl) _ _ rfl rfl (by kernel_rfl)) ?_
 refine sw 23 (adr os (l.length*1)) rfl (zc0 (e:=72) hos za8 (by decide) l.length (by omega) _ _ _ rfl rfl rfl (by kernel_rfl) (by kernel_rfl)) ?_
 replace hos:=hos.gr (za1 za6 68 3) (aq.trans af)
 obtain ⟨_,_,⟨cc,rfl,bZ⟩,bY⟩:=Sl.get hos (by decide) (zc3 (f:=(fun z0=>tb (fun z1=>(D.op z0 z1)) (D.ol z0))) (n:=D.n) (i:=l.length) (by omega))
 refine sw 24 cc rfl (ze6 cc bY _ _ rfl rfl (by kernel_rfl)) ?_
 refine sw 25 (iT ((D.ol l.length:Nat):Int)) rfl (zb0 (e:=68) bZ (za9 rfl) _ _ rfl rfl (by kernel_rfl)) ?_
 refine sv 26 (iT 0) (za0 (cw _ _ ?_))
 refine wp_block ?_
 replace hds:=hds.gr zb8 (aq.trans af)
 replace hrs:=hrs.gr zb9 (aq.trans af)
 replace hsp:=hsp.gr (za1 (za1 (za7 64) 124 8) 162 1) (aq.trans af)
 replace hcs:=hcs.gr (za5 64) (aq.trans af)
 replace hch:=hch.gr za2 (aq.trans af)
 replace hl:=hl.gr za2 (aq.trans af)
 replace hp:=(((hp.gr zc2 aC).st zc2 ah aw (ah.kts a0 (by decide))).gr zc2 aq).gr zc2 af
 replace hL:=hL.gr (aq.trans af)
 replace ac:=(ah.lc (ac.gr aC) au).gr (aq.trans af)
 refine zb1 (a:=⟨List.toArray ?l76,[]⟩) (fun n a w'=>∃ (k:Nat) (vk:Value) (ar:Nat→Value),(D.ol l.length) - k=n∧a=⟨[v,pT bd 0,pT ba 0,pT bo 0,pT bs 0,undef,pT aT 0,iT ((fz D l).1),iT ((fz D l).2),ar 9,ar 10,ar 11,ar 12,ar 13,ar 14,ar 15,ar 16,ar 17,ar 18,ar 19,ar 20,ar 21,ar 22,ar 23,ar 24,iT ((D.ol l.length:Nat):Int),iT (k:Int),ar 27,ar 28,ar 29,ar 30,ar 31,ar 32,ar 33,ar 34,ar 35,ar 36,ar 37,ar 38,ar 39,ar 40,.bool false,ar 42,ar 43,ar 44,undef,undef,undef,undef,undef,undef,ar 51,undef,undef,undef,undef,.bool ((fz D l).2 !=(0:Int)),ar 57,ar 58,undef,undef,undef,undef,undef,undef,undef,undef,undef,undef,undef,undef,undef].toArray,[]⟩∧k≤(D.ol l.length)∧Sl EDm 71 4 w' ds (tb (fun z1=>(D.nom z1)) D.n)∧Sl (ERw EOp 68 3) 72 1 w' os (tb (fun z0=>tb (fun z1=>(D.op z0 z1)) (D.ol z0)) D.n)∧Sl ERq 80 8 w' rs (tb (fun z1=>(D.rq z1)) D.q)∧Sl (ERw (ERw (ESp 64) 124 8) 162 1) 161 1 w' sp (tb (fun z0=>tb (fun z1=>tb (fun z2=>(D.sp z0 z1 z2)) (D.ol z1)) D.n) D.q)∧Sl (ERat 64) 62 4 w' cs (tb (fun z1=>(D.cn z1)) D.q)∧Sl EI64 3 1 w' ch (tb (fun z1=>(D.ch z1)) D.n)∧Sl EI64 3 1 w' v (tb (fun z1=>((Ofr.at_ l z1:Nat):Int)) l.length)∧Ow ELf 108 4 w' B vk (pf++D.lvs s g l k)∧Lc w' dk #[ds,os,rs,sp,cs,ch] 158∧Lc w' bd #[pT dk 0] 118∧Lc w' bo #[ds,os,rs] 26∧Lc w' bs #[(.func (.func 54) #[] #[pT bd 0,pT ba 0,pT bo 0,pT bs 0])] 128∧Lc w' ba #[.bool (s.ok),vc,iT (s.co),vk] 43∧Wx B 43 ba [108] w w') ((D.ol l.length) - 0) ?_ ?_
 ·exact ⟨0,vp,(fun i=>List.getD ?l76 i undef),rfl,rfl,Nat.zero_le _,hds,hos,hrs,hsp,hcs,hch,hl,hp.cast zL1,hL,ad,ae,ac,aa,hB⟩
 rintro ex dh cx ⟨k,vk,ar,rfl,rfl,hkk,hds,hos,hrs,hsp,hcs,hch,hl,hp,hL,ad,ae,ac,aa,hB⟩ dw cM
 refine wp_seq_k (fun ef cI=>rg [0] (sv 27 (.bool (decide ((k:Int)<((D.ol l.length:Nat):Int)))) ?_))
 refine za0 (cI _ _ ?_)
 refine wp_seq_k (fun db cC=>?_)
 refine wp_cond_split rfl (fun bk=>?_) (fun bk=>?_)
 ·have hlk:k<(D.ol l.length):=by have:=of_decide_eq_true bk;omega
  refine wp_skip ?_
  refine cC _ _ ?_
  refine wp_seq_k (fun dD cj=>?_)
  refine wp_block ?_
  refine wp_seq_k (fun dF cz=>rg [0,1] (sv 28 (iT (k:Int)) ?_))
  refine sv 9 (iT (k:Int)) (za0 (cz _ _ ?_))
  have aA:=Gr.drew cx
  replace hB:=hB.trans aA
  replace ac:=ac.gr aA
  refine za4 (fun w'=>Lc w' bs #[(.func (.func 54) #[] #[pT bd 0,pT ba 0,pT bo 0,pT bs 0])] 128) [(true,0),(true,1),(true,2),(true,3),(true,4),(true,5),(true,6),(true,7),(false,8),(false,9),(false,10)] (by kernel_rfl) (by kernel_rfl) (by kernel_rfl) (by decide) (fun _ _ _ _ _ h=>h) ac ?_
  refine ow 29 (.func (.func 54) #[] #[pT bd 0,pT ba 0,pT bo 0,pT bs 0]) rfl (fun w' hS=>(rk 128 0 hS)) ?_
  refine ov 30 v ?_
  refine ov 31 v ?_
  refine ow 32 (iT ((l.length:Nat):Int)) rfl (fun w' hS=>(zb0 (e:=3) hl (za9 rfl) _ _ rfl rfl (by kernel_rfl))) ?_
  refine ov 33 v ?_
  refine ow 34 (iT ((l.length:Nat):Int)) rfl (fun w' hS=>(zb0 (e:=3) hl (za9 rfl) _ _ rfl rfl (by kernel_rfl))) ?_
  refine ow 35 (capv v l.length 1) rfl (fun w' hS=>(zv2 (e:=3) hl l.length za8 _ _ _ _ rfl rfl rfl rfl (by kernel_rfl) (by kernel_rfl))) ?_
  refine ov 36 (iT (k:Int)) ?_
  refine oe ?_
  refine zc5 3 1 #[iT (k:Int)] (some 37) rfl (fun _=>by kernel_rfl) (fun cd dt aM cN cy=>?_)
  replace hL:=hL.gr aA
  replace ad:=ad.gr aA
  replace ae:=ae.gr aA
  replace aa:=aa.gr aA
  replace hp:=hp.gr zc2 aA
  have bM:=hp.ne cy
  replace hB:=hB.trans aM
  replace ac:=ac.gr aM
  refine ⟨ac,?_⟩
  simp only [zd1,p3,p4]
  refine oe ?_
  replace hl:=hl.gr za2 (aA.trans aM)
  refine zv3 za2 _ _ 40 3 (iT 0) v l.length (tb (fun z1=>((Ofr.at_ l z1:Nat):Int)) l.length) cd [iT (k:Int)] ((k:Int):Int) 1 1 (some 38) 8 rfl rfl rfl rfl hl za8 cN ⟨rfl,trivial⟩ rfl rfl (by omega) (by decide) (by kernel_rfl) (by kernel_rfl) (by decide) (fun d5 dK bR aL=>?_)
  replace hB:=hB.trans aL
  have bX:=bR.sl.cast zH0
  replace ac:=ac.gr aL
  refine ⟨ac,?_⟩
  simp only [zd1,p3,p4]
  refine oe ?_
  replace hL:=hL.gr (aM.trans aL)
  replace ad:=ad.gr (aM.trans aL)
  replace ae:=ae.gr (aM.trans aL)
  replace aa:=aa.gr (aM.trans aL)
  replace hp:=hp.gr zc2 (aM.trans aL)
  replace hds:=hds.gr zb8 (aA.trans (aM.trans aL))
  replace hos:=hos.gr (za1 za6 68 3) (aA.trans (aM.trans aL))
  replace hrs:=hrs.gr zb9 (aA.trans (aM.trans aL))
  replace hsp:=hsp.gr (za1 (za1 (za7 64) 124 8) 162 1) (aA.trans (aM.trans aL))
  replace hcs:=hcs.gr (za5 64) (aA.trans (aM.trans aL))
  replace hch:=hch.gr za2 (aA.trans (aM.trans aL))
  refine zh0 (some 39) rfl (by kernel_rfl) (ih (l++[k]) (pf++D.lvs s g l k) w0 _ _ _ (by rw [List.length_append,List.length_singleton];omega) (hv.snoc (by omega) hlk) hm ht (hB.below _ h0 a7) a7 (Nat.le_trans hBw hB.size) (zL4 ok hg hv hn hlk hpn) hL ad ae ac aa ⟨hds,hos,hrs,hsp,hcs,hch⟩ hp bX) ?_
  rintro di dS ⟨⟨b5,rfl,aa,b6⟩,aE⟩
  refine ⟨_,rfl,?_⟩
  replace hB:=hB.trans2 aE
  replace ac:=aE.lc ac (by decide)
  refine ⟨ac,?_⟩
  simp only [zd1,p3,p4]
  refine zb4 ?_
  refine cj _ _ ?_
  refine rg [0,1] ?_
  refine sw 40 (iT ((k:Int)+1)) rfl (rwI ((k:Int)+1)) ?_
  refine sv 26 (iT ((k:Int)+1)) ?_
  refine za0 ?_
  replace hds:=hds.kts zb8 (aE.kts (by decide))
  replace hos:=hos.kts (za1 za6 68 3) (aE.kts (by decide))
  replace hrs:=hrs.kts zb9 (aE.kts (by decide))
  replace hsp:=hsp.kts (za1 (za1 (za7 64) 124 8) 162 1) (aE.kts (by decide))
  replace hcs:=hcs.kts (za5 64) (aE.kts (by decide))
  replace hch:=hch.kts za2 (aE.kts (by decide))
  replace hl:=(hl.gr za2 aL).kts za2 (aE.kts (by decide))
  replace hL:=aE.lc hL (by decide)
  replace ad:=aE.lc ad (by decide)
  replace ae:=aE.lc ae (by decide)
  refine cM ((D.ol l.length) - (k+1)) ⟨List.toArray ?l96,[]⟩ _ (by omega) ?_
  exact ⟨k+1,b5,(fun i=>List.getD ?l96 i undef),rfl,rfl,(by omega),hds,hos,hrs,hsp,hcs,hch,hl,b6.cast zL2,hL,ad,ae,ac,aa,hB⟩
 have hek:(D.ol l.length)=k:=by have:=of_decide_eq_false bk;omega
 subst hek
 refine wp_exit ?_
 simp only [Exit.then,Exit.inBlock,↓reduceIte]
 refine cQ _ _ ?_
 refine wp_ret ?_
 simp only [Exit.then,Exit.inBlock]
 refine bodyPost_ret (v:=(.tuple #[])) (zf6 rfl) rfl ⟨?_,hB⟩
 exact (by rw [lv_go hbe hf hn];exact ⟨_,rfl,aa,hp⟩)

theorem zM0 {D:Ofr} {B dk ba bd bo bs:Nat} {ds os rs sp cs ch vc:Value} {s:Bst} (ok:D.Ok) (hbest:∀ c,D.good c→s.ok=true∧s.co≤D.bd c) (hBa:B≤ba):∀ g,POK D s vc B dk ba bd bo bs ds os rs sp cs ch g
 | 0=>fun l _ _ _ _ _ hg hv _ _ _ _ _ _ _ _ _ _ _ _ _ _=>absurd hv.1 (by omega)
 | g+1=>fun _ _ _ _ _ _ hg hv hm ht h0 hb0 hBw hpn hL L9001 L9002 L9003 L9004 hD hp hl=>zQ1 ok hbest (zM0 ok hbest hBa g) hBa hg hv hm ht h0 hb0 hBw hpn hL L9001 L9002 L9003 L9004 hD hp hl
end Go.Proofs.YtjhflekncldflaaGreatDoor
namespace Go.Proofs.YtjhflekncldflaaGreatDoor
open Go.RowKit
section
variable {D:Ofr} {b:Bool} {co least z:Int} {fx:List (Int × Int)} {du:List (List UInt8)} {l:List Nat} {r:Nat}
theorem zu8:D.proves b co ⟨fx,least,-1,du⟩ l=((((((du.length:Nat):Int)==(0:Int))&&b)&&(least==D.bd l))&&decide (co≤least)):=by
 unfold Ofr.proves
 simp only [if_true]
 have h1:du.isEmpty=(((du.length:Nat):Int)==(0:Int)):=by
  cases du with
  | nil=>rfl
  | cons x xs=>rw [Bool.eq_iff_iff];simp;omega
 have h2:decide (least=D.bd l)=(least==D.bd l):=by rw [Bool.eq_iff_iff];simp
 rw [h1,h2]
theorem proves_B (h:z< -1):D.proves b co ⟨fx,least,z,du⟩ l=false:=by
 unfold Ofr.proves
 rw [if_neg (show ¬ z=-1 by omega),if_pos (.inl (by show z<0;omega))]
theorem zx5 (h:D.q≤r∨least≠0∨du.length≠1):D.proves b co ⟨fx,least,(r:Int),du⟩ l=false:=by
 unfold Ofr.proves
 rw [if_neg (show ¬ (r:Int)=-1 by omega),if_pos (.inr (by show (D.q:Int)≤(r:Int)∨least≠0∨du.length≠1;omega))]
theorem zq8 (h1:r<D.q) (h2:least=0) (h3:du.length=1):D.proves b co ⟨fx,least,(r:Int),du⟩ l=((decide (du.getD 0 []=[49])&&D.ab l r)||(decide (du.getD 0 []=[45,49])&&D.be l r)):=by
 unfold Ofr.proves
 rw [if_neg (show ¬ (r:Int)=-1 by omega),if_neg (by show ¬ ((r:Int)<0∨(D.q:Int)≤(r:Int)∨least≠0∨du.length≠1);omega)]
 rfl
theorem list_tb {α:Type} {xs:List α} {d:α}:tb (fun i=>xs.getD i d) xs.length=xs:=by
 apply List.ext_getElem?
 intro i
 rcases Nat.lt_or_ge i xs.length with hi | hi
 ·rw [zc3 hi,List.getD_eq_getElem?_getD,List.getElem?_eq_getElem hi];rfl
 rw [List.getElem?_eq_none (by rw [za8];omega),List.getElem?_eq_none hi]
end
end Go.Proofs.YtjhflekncldflaaGreatDoor
namespace Go.Proofs.YtjhflekncldflaaGreatDoor
set_option maxRecDepth 100000
set_option maxHeartbeats 4000000
open Go.RowKit

theorem proves_a {D:Ofr} {dk:Nat} {ds os rs sp cs ch:Value} (ok:D.Ok) {w:World} (hL:Lc w dk #[ds,os,rs,sp,cs,ch] 158) (hD:Dsk w D ds os rs sp cs ch) (_hm:Mx w) {b:Bool} {vc vp u vd:Value} {co least:Int} {fx:List (Int × Int)} {du:List (List UInt8)} (_hu:vd.oneCell'=true) (hd:Sl ETxt 33 1 w vd (tb (fun z1=>(du.getD z1 [])) du.length)) (_hu1:u.oneCell'=true) (_hc1:vc.oneCell'=true) (_hp1:vp.oneCell'=true) {TT:Nat} {l:List Nat} {v:Value} (hv:D.vp l) (hl:Sl EI64 TT 1 w v (tb (fun z1=>((Ofr.at_ l z1:Nat):Int)) l.length)):
    Calls Tryz.prog 59 #[pT dk 0,.agg #[.bool (b),vc,iT (co),vp],.agg #[u,iT (least),iT (-1),vd],v] w fun e w'=>e=.returned (.bool (D.proves b co ⟨fx,least,-1,du⟩ l))∧Gr w w':=by
 have n1:=ok.n1
 have n2:=ok.n2
 have aC:=ok.q2
 have au:=hv.1
 go_enter Tryz.func59,Tryz.ntmps59
 have hB:=Gr.refl w
 refine wp_seq_k (fun ax ap=>rg [0,1,2] ?_)
 refine se ?_
 refine eb 43 #[.bool (b),vc,iT (co),vp] 5 hB fun ai aG al ad aD az hB=>?_
 simp only [p3,p4]
 refine se ?_
 refine eb 108 #[u,iT (least),iT (-1),vd] 6 hB fun ae aq aj ac aB aF hB=>?_
 replace hL:=hL.gr al
 simp only [p3,p4]
 refine sv 8 (.bool false) (za0 (ap _ _ ?_))
 refine wp_seq_k (fun aw ar=>rg [0,1,2] (sv 12 (pT ae 2) ?_))
 refine sw 13 (iT (-1)) rfl (rk 3 2 ac) ?_
 refine sv 9 (iT (-1)) (za0 (ar _ _ ?_))
 refine wp_block ?_
 refine wp_seq_k (fun aE ak=>rg [0,1,2] (sv 40 (iT (-1)) ?_))
 refine sv 41 (.bool true) ?_
 refine sv 39 (.bool true) (za0 (ak _ _ ?_))
 refine wp_cond_true rfl ?_
 refine wp_seq_k (fun av af=>?_)
 have aa:=Gr.drew aq
 replace hB:=hB.trans aa
 replace ad:=ad.gr (aj.trans aa)
 replace ac:=ac.gr aa
 refine za4 (fun w'=>Lc w' ai #[.bool (b),vc,iT (co),vp] 43∧Lc w' ae #[u,iT (least),iT (-1),vd] 108) [(true,0),(true,1),(true,2),(true,3),(true,4),(true,5),(true,6),(true,7),(true,8),(true,9),(true,10),(true,11),(true,12),(false,13),(true,14),(true,15),(true,16),(true,17),(true,18),(true,19),(true,20),(true,21),(true,22),(true,23)] (by kernel_rfl) (by kernel_rfl) (by kernel_rfl) (by decide) (fun _ _ _ _ _ h=>h) ⟨ad,ac⟩ ?_
 refine ov 42 (pT ae 3) ?_
 refine ow 43 vd rfl (fun w' hS=>(rk 106 3 hS.2)) ?_
 refine ow 44 (iT ((du.length:Nat):Int)) rfl (fun w' hS=>(zb0 (e:=33) hd (za9 rfl) _ _ rfl rfl (by kernel_rfl))) ?_
 refine ov 45 (.bool (((du.length:Nat):Int)==(0:Int))) ?_
 rcases Bool.eq_false_or_eq_true (((du.length:Nat):Int)==(0:Int)) with hb18 | hb18
 ·refine ow 46 (.bool true) rfl (fun w' hS=>(RunV.bool (x:=(((du.length:Nat):Int)==(0:Int))) (rvk (by kernel_rfl)) hb18)) ?_
  refine ov 47 (pT ai 0) ?_
  refine ow 48 (.bool (b)) rfl (fun w' hS=>(rk 4 0 hS.1)) ?_
  refine ov 49 (.bool (b)) ?_
  rcases Bool.eq_false_or_eq_true (b) with hb19 | hb19
  ·refine ow 50 (.bool true) rfl (fun w' hS=>(RunV.bool (x:=b) (rvk (by kernel_rfl)) hb19)) ?_
   refine ov 51 (pT ae 1) ?_
   refine ow 52 (iT (least)) rfl (fun w' hS=>(rk 3 1 hS.2)) ?_
   refine ov 53 (pT dk 0) ?_
   refine ov 54 v ?_
   refine oe ?_
   replace hL:=hL.gr (aj.trans aa)
   refine ec 55 (zi7 ok hL (⟨hD.ds.gr zb8 hB,hD.os.gr (za1 za6 68 3) hB,hD.rs.gr zb9 hB,hD.sp.gr (za1 (za1 (za7 64) 124 8) 162 1) hB,hD.cs.gr (za5 64) hB,hD.ch.gr za2 hB⟩:Dsk _ D _ _ _ _ _ _) hv (hl.gr za2 hB)) ?_
   rintro ay aA ⟨rfl,ah⟩
   refine ⟨_,rfl,?_⟩
   replace hB:=hB.trans ah
   replace ad:=ad.gr ah
   replace ac:=ac.gr ah
   refine ⟨⟨ad,ac⟩,?_⟩
   simp only [p3,p4]
   refine ov 56 (.bool (least==D.bd l)) ?_
   refine ov 57 (.bool (least==D.bd l)) ?_
   rcases Bool.eq_false_or_eq_true (least==D.bd l) with hb22 | hb22
   ·refine ow 58 (.bool true) rfl (fun w' hS=>(RunV.bool (x:=(least==D.bd l)) (rvk (by kernel_rfl)) hb22)) ?_
    refine ov 59 (pT ae 1) ?_
    refine ow 60 (iT (least)) rfl (fun w' hS=>(rk 3 1 hS.2)) ?_
    refine ov 61 (pT ai 2) ?_
    refine ow 62 (iT (co)) rfl (fun w' hS=>(rk 3 2 hS.1)) ?_
    refine ov 63 (.bool (decide (co≤least))) ?_
    refine ov 64 (.bool (decide (co≤least))) ?_
    refine ov 8 (.bool (decide (co≤least))) ?_
    refine zb4 ?_
    refine af _ _ ?_
    refine wp_ret ?_
    simp only [Exit.inBlock]
    refine bodyPost_ret (v:=(.bool (decide (co≤least)))) (za3 rfl rfl) rfl ⟨?_,hB⟩
    exact (by rw [zu8,hb18,hb19,hb22]<;>rfl)
   refine ow 58 (.bool false) rfl (fun w' hS=>(RunV.bool (x:=(least==D.bd l)) (rvk (by kernel_rfl)) hb22)) ?_
   refine Go.Proofs.YtjhflekncldflaaGreatDoor.os 59 ?_
   refine Go.Proofs.YtjhflekncldflaaGreatDoor.os 60 ?_
   refine Go.Proofs.YtjhflekncldflaaGreatDoor.os 61 ?_
   refine Go.Proofs.YtjhflekncldflaaGreatDoor.os 62 ?_
   refine Go.Proofs.YtjhflekncldflaaGreatDoor.os 63 ?_
   refine ov 64 (.bool false) ?_
   refine ov 8 (.bool false) ?_
   refine zb4 ?_
   refine af _ _ ?_
   refine wp_ret ?_
   simp only [Exit.inBlock]
   refine bodyPost_ret (v:=(.bool false)) (za3 rfl rfl) rfl ⟨?_,hB⟩
   exact (by rw [zu8,hb18,hb19,hb22]<;>rfl)
  refine ow 50 (.bool false) rfl (fun w' hS=>(RunV.bool (x:=b) (rvk (by kernel_rfl)) hb19)) ?_
  refine Go.Proofs.YtjhflekncldflaaGreatDoor.os 51 ?_
  refine Go.Proofs.YtjhflekncldflaaGreatDoor.os 52 ?_
  refine Go.Proofs.YtjhflekncldflaaGreatDoor.os 53 ?_
  refine Go.Proofs.YtjhflekncldflaaGreatDoor.os 54 ?_
  refine oz 55 ⟨ad,ac⟩ ?_
  refine Go.Proofs.YtjhflekncldflaaGreatDoor.os 56 ?_
  refine ov 57 (.bool false) ?_
  refine ov 58 (.bool false) ?_
  refine Go.Proofs.YtjhflekncldflaaGreatDoor.os 59 ?_
  refine Go.Proofs.YtjhflekncldflaaGreatDoor.os 60 ?_
  refine Go.Proofs.YtjhflekncldflaaGreatDoor.os 61 ?_
  refine Go.Proofs.YtjhflekncldflaaGreatDoor.os 62 ?_
  refine Go.Proofs.YtjhflekncldflaaGreatDoor.os 63 ?_
  refine ov 64 (.bool false) ?_
  refine ov 8 (.bool false) ?_
  refine zb4 ?_
  refine af _ _ ?_
  refine wp_ret ?_
  simp only [Exit.inBlock]
  refine bodyPost_ret (v:=(.bool false)) (za3 rfl rfl) rfl ⟨?_,hB⟩
  exact (by rw [zu8,hb18,hb19]<;>rfl)
 refine ow 46 (.bool false) rfl (fun w' hS=>(RunV.bool (x:=(((du.length:Nat):Int)==(0:Int))) (rvk (by kernel_rfl)) hb18)) ?_
 refine Go.Proofs.YtjhflekncldflaaGreatDoor.os 47 ?_
 refine Go.Proofs.YtjhflekncldflaaGreatDoor.os 48 ?_
 refine ov 49 (.bool false) ?_
 refine ov 50 (.bool false) ?_
 refine Go.Proofs.YtjhflekncldflaaGreatDoor.os 51 ?_
 refine Go.Proofs.YtjhflekncldflaaGreatDoor.os 52 ?_
 refine Go.Proofs.YtjhflekncldflaaGreatDoor.os 53 ?_
 refine Go.Proofs.YtjhflekncldflaaGreatDoor.os 54 ?_
 refine oz 55 ⟨ad,ac⟩ ?_
 refine Go.Proofs.YtjhflekncldflaaGreatDoor.os 56 ?_
 refine ov 57 (.bool false) ?_
 refine ov 58 (.bool false) ?_
 refine Go.Proofs.YtjhflekncldflaaGreatDoor.os 59 ?_
 refine Go.Proofs.YtjhflekncldflaaGreatDoor.os 60 ?_
 refine Go.Proofs.YtjhflekncldflaaGreatDoor.os 61 ?_
 refine Go.Proofs.YtjhflekncldflaaGreatDoor.os 62 ?_
 refine Go.Proofs.YtjhflekncldflaaGreatDoor.os 63 ?_
 refine ov 64 (.bool false) ?_
 refine ov 8 (.bool false) ?_
 refine zb4 ?_
 refine af _ _ ?_
 refine wp_ret ?_
 simp only [Exit.inBlock]
 refine bodyPost_ret (v:=(.bool false)) (za3 rfl rfl) rfl ⟨?_,hB⟩
 exact (by rw [zu8,hb18]<;>rfl)

theorem proves_b {D:Ofr} {dk:Nat} {ds os rs sp cs ch:Value} (ok:D.Ok) {w:World} (_hL:Lc w dk #[ds,os,rs,sp,cs,ch] 158) (_hD:Dsk w D ds os rs sp cs ch) (_hm:Mx w) {b:Bool} {vc vp u vd:Value} {co least:Int} {fx:List (Int × Int)} {du:List (List UInt8)} (_hu:vd.oneCell'=true) (_hd:Sl ETxt 33 1 w vd (tb (fun z1=>(du.getD z1 [])) du.length)) (_hu1:u.oneCell'=true) (_hc1:vc.oneCell'=true) (_hp1:vp.oneCell'=true) {z:Int} (hz:z< -1) {TT:Nat} {l:List Nat} {v:Value} (hv:D.vp l) (_hl:Sl EI64 TT 1 w v (tb (fun z1=>((Ofr.at_ l z1:Nat):Int)) l.length)):
    Calls Tryz.prog 59 #[pT dk 0,.agg #[.bool (b),vc,iT (co),vp],.agg #[u,iT (least),iT (z),vd],v] w fun e w'=>e=.returned (.bool (D.proves b co ⟨fx,least,z,du⟩ l))∧Gr w w':=by
 have n1:=ok.n1
 have n2:=ok.n2
 have ay:=ok.q2
 have aq:=hv.1
 go_enter Tryz.func59,Tryz.ntmps59
 have hB:=Gr.refl w
 refine wp_seq_k (fun au ai=>rg [0,1,2] ?_)
 refine se ?_
 refine eb 43 #[.bool (b),vc,iT (co),vp] 5 hB fun aD aG av ap az aw hB=>?_
 simp only [p3,p4]
 refine se ?_
 refine eb 108 #[u,iT (least),iT (z),vd] 6 hB fun ah aA aC af ax aF hB=>?_
 simp only [p3,p4]
 refine sv 8 (.bool false) (za0 (ai _ _ ?_))
 refine wp_seq_k (fun ar ak=>rg [0,1,2] (sv 12 (pT ah 2) ?_))
 refine sw 13 (iT (z)) rfl (rk 3 2 af) ?_
 refine sv 9 (iT (z)) (za0 (ak _ _ ?_))
 refine wp_block ?_
 refine wp_seq_k (fun aB ad=>rg [0,1,2] (sv 40 (iT (z)) ?_))
 have ac:(z==(-1:Int))=false:=(by rw [beq_eq_false_iff_ne];omega)
 refine sw 41 (.bool false) rfl (RunV.bool (x:=(z==(-1:Int))) (rvk (by kernel_rfl)) ac) ?_
 refine sv 39 (.bool false) (za0 (ad _ _ ?_))
 refine wp_cond_false rfl ?_
 refine wp_seq_k (fun aE ae=>rg [0,1,2,3,4,5,6,7,8,9,10,11,12,13,14,15,16,17,18,19,20,21,22,23] (sv 66 (iT (z)) ?_))
 have aa:(decide (z<(0:Int)))=true:=(by simp only [decide_eq_true_eq];omega)
 refine sw 67 (.bool true) rfl (RunV.bool (x:=decide (z<(0:Int))) (rvk (by kernel_rfl)) aa) ?_
 refine swk 68 (.bool true) [(3,69),(4,70),(5,71),(6,72),(7,73),(8,74),(9,75),(10,76)] rfl (rvk (by kernel_rfl)) ?_
 refine sv 77 (.bool true) ?_
 refine swk 78 (.bool true) [(13,79),(14,80),(15,81)] rfl (rvk (by kernel_rfl)) ?_
 refine sv 82 (.bool true) ?_
 refine swk 83 (.bool true) [(18,84),(19,85),(20,86),(21,87)] rfl (rvk (by kernel_rfl)) ?_
 refine sv 88 (.bool true) ?_
 refine sv 65 (.bool true) (za0 (ae _ _ ?_))
 refine wp_cond_true rfl ?_
 refine wp_seq_k (fun al aj=>rg [0] (sv 8 (.bool false) ?_))
 refine za0 (aj _ _ ?_)
 refine wp_ret ?_
 simp only [Exit.inBlock]
 refine bodyPost_ret (v:=(.bool false)) (za3 rfl rfl) rfl ⟨?_,hB⟩
 exact (by rw [proves_B hz])

theorem zh4 {X Y:List UInt8}:decide (X=Y)=(X==Y):=by rw [Bool.eq_iff_iff];simp
theorem proves_c {D:Ofr} {dk:Nat} {ds os rs sp cs ch:Value} (ok:D.Ok) {w:World} (hL:Lc w dk #[ds,os,rs,sp,cs,ch] 158) (hD:Dsk w D ds os rs sp cs ch) (hm:Mx w) {b:Bool} {vc vp u vd:Value} {co least:Int} {fx:List (Int × Int)} {du:List (List UInt8)} (_hu:vd.oneCell'=true) (hd:Sl ETxt 33 1 w vd (tb (fun z1=>(du.getD z1 [])) du.length)) (_hu1:u.oneCell'=true) (_hc1:vc.oneCell'=true) (_hp1:vp.oneCell'=true) {r:Nat} {TT:Nat} {l:List Nat} {v:Value} (hv:D.vp l) (hl:Sl EI64 TT 1 w v (tb (fun z1=>((Ofr.at_ l z1:Nat):Int)) l.length)):
    Calls Tryz.prog 59 #[pT dk 0,.agg #[.bool (b),vc,iT (co),vp],.agg #[u,iT (least),iT (r:Int),vd],v] w fun e w'=>e=.returned (.bool (D.proves b co ⟨fx,least,(r:Int),du⟩ l))∧Gr w w':=by
 have n1:=ok.n1
 have n2:=ok.n2
 have aM:=ok.q2
 have aE:=hv.1
 go_enter Tryz.func59,Tryz.ntmps59
 have hB:=Gr.refl w
 refine wp_seq_k (fun aH aw=>rg [0,1,2] ?_)
 refine se ?_
 refine eb 43 #[.bool (b),vc,iT (co),vp] 5 hB fun aT aW au aD aN aJ hB=>?_
 simp only [p3,p4]
 refine se ?_
 refine eb 108 #[u,iT (least),iT (r:Int),vd] 6 hB fun ae aP ay aa aL aV hB=>?_
 replace hL:=hL.gr au
 simp only [p3,p4]
 refine sv 8 (.bool false) (za0 (aw _ _ ?_))
 refine wp_seq_k (fun aF aA=>rg [0,1,2] (sv 12 (pT ae 2) ?_))
 refine sw 13 (iT (r:Int)) rfl (rk 3 2 aa) ?_
 refine sv 9 (iT (r:Int)) (za0 (aA _ _ ?_))
 refine wp_block ?_
 refine wp_seq_k (fun aS ar=>rg [0,1,2] (sv 40 (iT (r:Int)) ?_))
 have al:((r:Int)==(-1:Int))=false:=(by rw [beq_eq_false_iff_ne];omega)
 refine sw 41 (.bool false) rfl (RunV.bool (x:=((r:Int)==(-1:Int))) (rvk (by kernel_rfl)) al) ?_
 refine sv 39 (.bool false) (za0 (ar _ _ ?_))
 refine wp_cond_false rfl ?_
 refine wp_seq_k (fun aU aj=>rg [0,1,2,3,4,5,6,7,8,9,10,11,12,13,14,15,16,17,18,19,20,21,22,23] (sv 66 (iT (r:Int)) ?_))
 have ak:(decide ((r:Int)<(0:Int)))=false:=(by simp only [decide_eq_false_iff_not];omega)
 refine sw 67 (.bool false) rfl (RunV.bool (x:=decide ((r:Int)<(0:Int))) (rvk (by kernel_rfl)) ak) ?_
 refine sv 68 (.bool false) ?_
 refine sv 69 (iT (r:Int)) ?_
 refine sv 70 (pT dk 0) ?_
 refine sv 71 (pT dk 0) ?_
 refine sv 72 (pT dk 0) ?_
 refine sv 73 (pT dk 2) ?_
 replace hL:=hL.gr ay
 refine sw 74 rs rfl (rk 24 2 hL) ?_
 refine sw 75 (iT ((D.q:Nat):Int)) rfl (zb0 (e:=80) hD.rs (za9 rfl) _ _ rfl rfl (by kernel_rfl)) ?_
 refine sv 76 (.bool (decide (((D.q:Nat):Int)≤(r:Int)))) ?_
 refine sv 77 (.bool (decide (((D.q:Nat):Int)≤(r:Int)))) ?_
 rcases Bool.eq_false_or_eq_true (decide (((D.q:Nat):Int)≤(r:Int))) with hb18 | hb18
 ·have hx:D.q≤r∨least≠0∨du.length≠1:=.inl (by have:=of_decide_eq_true hb18;omega)
  refine swk 78 (.bool true) [(13,79),(14,80),(15,81)] rfl (RunV.bool (x:=decide (((D.q:Nat):Int)≤(r:Int))) (rvk (by kernel_rfl)) hb18) ?_
  refine sv 82 (.bool true) ?_
  refine swk 83 (.bool true) [(18,84),(19,85),(20,86),(21,87)] rfl (rvk (by kernel_rfl)) ?_
  refine sv 88 (.bool true) ?_
  refine sv 65 (.bool true) (za0 (aj _ _ ?_))
  refine wp_cond_true rfl ?_
  refine wp_seq_k (fun aO ax=>rg [0] (sv 8 (.bool false) ?_))
  refine za0 (ax _ _ ?_)
  refine wp_ret ?_
  simp only [Exit.inBlock]
  refine bodyPost_ret (v:=(.bool false)) (za3 rfl rfl) rfl ⟨?_,hB⟩
  exact (by rw [zx5 hx])
 have hr:r<D.q:=by have:=of_decide_eq_false hb18;omega
 refine sw 78 (.bool false) rfl (RunV.bool (x:=decide (((D.q:Nat):Int)≤(r:Int))) (rvk (by kernel_rfl)) hb18) ?_
 refine sv 79 (pT ae 1) ?_
 refine sw 80 (iT (least)) rfl (rk 3 1 aa) ?_
 refine sv 81 (.bool (least !=(0:Int))) ?_
 refine sv 82 (.bool (least !=(0:Int))) ?_
 rcases Bool.eq_false_or_eq_true (least !=(0:Int)) with hb20 | hb20
 ·have hx:D.q≤r∨least≠0∨du.length≠1:=.inr (.inl (by simpa using hb20))
  refine swk 83 (.bool true) [(18,84),(19,85),(20,86),(21,87)] rfl (RunV.bool (x:=(least !=(0:Int))) (rvk (by kernel_rfl)) hb20) ?_
  refine sv 88 (.bool true) ?_
  refine sv 65 (.bool true) (za0 (aj _ _ ?_))
  refine wp_cond_true rfl ?_
  refine wp_seq_k (fun aR aq=>rg [0] (sv 8 (.bool false) ?_))
  refine za0 (aq _ _ ?_)
  refine wp_ret ?_
  simp only [Exit.inBlock]
  refine bodyPost_ret (v:=(.bool false)) (za3 rfl rfl) rfl ⟨?_,hB⟩
  exact (by rw [zx5 hx])
 have ah:least=0:=by simpa using hb20
 refine sw 83 (.bool false) rfl (RunV.bool (x:=(least !=(0:Int))) (rvk (by kernel_rfl)) hb20) ?_
 refine sv 84 (pT ae 3) ?_
 refine sw 85 vd rfl (rk 106 3 aa) ?_
 refine sw 86 (iT ((du.length:Nat):Int)) rfl (zb0 (e:=33) hd (za9 rfl) _ _ rfl rfl (by kernel_rfl)) ?_
 refine sv 87 (.bool (((du.length:Nat):Int) !=(1:Int))) ?_
 refine sv 88 (.bool (((du.length:Nat):Int) !=(1:Int))) ?_
 refine sv 65 (.bool (((du.length:Nat):Int) !=(1:Int))) (za0 (aj _ _ ?_))
 refine wp_cond_split rfl (fun ac=>?_) (fun ac=>?_)
 ·have hx:D.q≤r∨least≠0∨du.length≠1:=.inr (.inr (by have:=ac;simp at this;omega))
  refine wp_seq_k (fun aK az=>rg [0] (sv 8 (.bool false) ?_))
  refine za0 (az _ _ ?_)
  refine wp_ret ?_
  simp only [Exit.inBlock]
  refine bodyPost_ret (v:=(.bool false)) (za3 rfl rfl) rfl ⟨?_,hB⟩
  exact (by rw [zx5 hx])
 have af:du.length=1:=by have:=ac;simp at this;omega
 refine wp_seq_k (fun aC aB=>rg [0,1,2,3,4,5,6,7,8] (sv 15 (pT dk 0) ?_))
 refine sv 16 v ?_
 refine sv 17 (iT (r:Int)) ?_
 refine se ?_
 refine ec 18 (zL8 ok hL (⟨hD.ds.gr zb8 hB,hD.os.gr (za1 za6 68 3) hB,hD.rs.gr zb9 hB,hD.sp.gr (za1 (za1 (za7 64) 124 8) 162 1) hB,hD.cs.gr (za5 64) hB,hD.ch.gr za2 hB⟩:Dsk _ D _ _ _ _ _ _) (hm.gr hB) hr hv (hl.gr za2 hB)) ?_
 rintro aI aG ⟨rfl,ap⟩
 refine ⟨_,rfl,?_⟩
 replace hB:=hB.trans ap
 simp only [p3,p4]
 refine sv 14 (.tuple #[.bool (D.ab l r),.bool (D.be l r)]) ?_
 refine sv 19 (.bool (D.ab l r)) ?_
 refine sv 20 (.bool (D.be l r)) ?_
 refine sv 10 (.bool (D.ab l r)) ?_
 refine sv 11 (.bool (D.be l r)) (za0 (aB _ _ ?_))
 refine wp_seq_k (fun aQ ai=>rg [0,1,2,3,4,5,6,7,8,9,10,11,12,13,14,15,16,17,18] (sv 21 (pT ae 3) ?_))
 replace aa:=aa.gr ap
 refine sw 22 vd rfl (rk 106 3 aa) ?_
 refine sw 23 (adr vd (0*1)) rfl (zc0 (e:=33) hd za8 (by decide) 0 (by omega) _ _ _ rfl rfl rfl (by kernel_rfl) (by kernel_rfl)) ?_
 obtain ⟨_,_,rfl,ad⟩:=Sl.get hd (by decide) (zc3 (f:=(fun z1=>(du.getD z1 []))) (n:=du.length) (i:=0) (by omega))
 refine sw 24 (sV ((du.getD 0 []))) rfl (ze6 (sV ((du.getD 0 []))) (ad.gr hB) _ _ rfl rfl (by kernel_rfl)) ?_
 refine sw 25 (.bool ((du.getD 0 [])==([49]:List UInt8))) rfl (zi9 33 33 _ _ (du.getD 0 []) ([49]) rfl rfl rfl) ?_
 rcases Bool.eq_false_or_eq_true ((du.getD 0 [])==([49]:List UInt8)) with hb28 | hb28
 ·have av:=hb28
  refine sw 26 (.bool true) rfl (RunV.bool (x:=((du.getD 0 [])==([49]:List UInt8))) (rvk (by kernel_rfl)) hb28) ?_
  refine sv 27 (.bool (D.ab l r)) ?_
  refine sv 28 (.bool (D.ab l r)) ?_
  rcases Bool.eq_false_or_eq_true (D.ab l r) with hb29 | hb29
  ·refine swk 29 (.bool true) [(9,30),(10,31),(11,32),(12,33),(13,34),(14,35),(15,36),(16,37)] rfl (RunV.bool (x:=(D.ab l r)) (rvk (by kernel_rfl)) hb29) ?_
   refine sv 38 (.bool true) ?_
   refine sv 8 (.bool true) (za0 (ai _ _ ?_))
   refine wp_ret ?_
   simp only [Exit.inBlock]
   refine bodyPost_ret (v:=(.bool true)) (za3 rfl rfl) rfl ⟨?_,hB⟩
   exact (by rw [zq8 hr ah af,zh4,zh4,hb28,hb29]<;>rfl)
  refine sw 29 (.bool false) rfl (RunV.bool (x:=(D.ab l r)) (rvk (by kernel_rfl)) hb29) ?_
  refine sv 30 (pT ae 3) ?_
  refine sw 31 vd rfl (rk 106 3 aa) ?_
  refine sw 32 (adr vd (0*1)) rfl (zc0 (e:=33) hd za8 (by decide) 0 (by omega) _ _ _ rfl rfl rfl (by kernel_rfl) (by kernel_rfl)) ?_
  refine sw 33 (sV ((du.getD 0 []))) rfl (ze6 (sV ((du.getD 0 []))) (ad.gr hB) _ _ rfl rfl (by kernel_rfl)) ?_
  refine sw 34 (.bool ((du.getD 0 [])==([45,49]:List UInt8))) rfl (zi9 33 33 _ _ (du.getD 0 []) ([45,49]) rfl rfl rfl) ?_
  rcases Bool.eq_false_or_eq_true ((du.getD 0 [])==([45,49]:List UInt8)) with hb30 | hb30
  ·refine sw 35 (.bool true) rfl (RunV.bool (x:=((du.getD 0 [])==([45,49]:List UInt8))) (rvk (by kernel_rfl)) hb30) ?_
   refine sv 36 (.bool (D.be l r)) ?_
   refine sv 37 (.bool (D.be l r)) ?_
   refine sv 38 (.bool (D.be l r)) ?_
   refine sv 8 (.bool (D.be l r)) (za0 (ai _ _ ?_))
   refine wp_ret ?_
   simp only [Exit.inBlock]
   refine bodyPost_ret (v:=(.bool (D.be l r))) (za3 rfl rfl) rfl ⟨?_,hB⟩
   exact (by rw [zq8 hr ah af,zh4,zh4,hb28,hb29,hb30]<;>rfl)
  refine sw 35 (.bool false) rfl (RunV.bool (x:=((du.getD 0 [])==([45,49]:List UInt8))) (rvk (by kernel_rfl)) hb30) ?_
  refine ss 36 ?_
  refine sv 37 (.bool false) ?_
  refine sv 38 (.bool false) ?_
  refine sv 8 (.bool false) (za0 (ai _ _ ?_))
  refine wp_ret ?_
  simp only [Exit.inBlock]
  refine bodyPost_ret (v:=(.bool false)) (za3 rfl rfl) rfl ⟨?_,hB⟩
  exact (by rw [zq8 hr ah af,zh4,zh4,hb28,hb29,hb30]<;>rfl)
 have av:=hb28
 refine sw 26 (.bool false) rfl (RunV.bool (x:=((du.getD 0 [])==([49]:List UInt8))) (rvk (by kernel_rfl)) hb28) ?_
 refine ss 27 ?_
 refine sv 28 (.bool false) ?_
 refine sv 29 (.bool false) ?_
 refine sv 30 (pT ae 3) ?_
 refine sw 31 vd rfl (rk 106 3 aa) ?_
 refine sw 32 (adr vd (0*1)) rfl (zc0 (e:=33) hd za8 (by decide) 0 (by omega) _ _ _ rfl rfl rfl (by kernel_rfl) (by kernel_rfl)) ?_
 refine sw 33 (sV ((du.getD 0 []))) rfl (ze6 (sV ((du.getD 0 []))) (ad.gr hB) _ _ rfl rfl (by kernel_rfl)) ?_
 refine sw 34 (.bool ((du.getD 0 [])==([45,49]:List UInt8))) rfl (zi9 33 33 _ _ (du.getD 0 []) ([45,49]) rfl rfl rfl) ?_
 rcases Bool.eq_false_or_eq_true ((du.getD 0 [])==([45,49]:List UInt8)) with hb31 | hb31
 ·refine sw 35 (.bool true) rfl (RunV.bool (x:=((du.getD 0 [])==([45,49]:List UInt8))) (rvk (by kernel_rfl)) hb31) ?_
  refine sv 36 (.bool (D.be l r)) ?_
  refine sv 37 (.bool (D.be l r)) ?_
  refine sv 38 (.bool (D.be l r)) ?_
  refine sv 8 (.bool (D.be l r)) (za0 (ai _ _ ?_))
  refine wp_ret ?_
  simp only [Exit.inBlock]
  refine bodyPost_ret (v:=(.bool (D.be l r))) (za3 rfl rfl) rfl ⟨?_,hB⟩
  exact (by rw [zq8 hr ah af,zh4,zh4,hb28,hb31]<;>rfl)
 refine sw 35 (.bool false) rfl (RunV.bool (x:=((du.getD 0 [])==([45,49]:List UInt8))) (rvk (by kernel_rfl)) hb31) ?_
 refine ss 36 ?_
 refine sv 37 (.bool false) ?_
 refine sv 38 (.bool false) ?_
 refine sv 8 (.bool false) (za0 (ai _ _ ?_))
 refine wp_ret ?_
 simp only [Exit.inBlock]
 refine bodyPost_ret (v:=(.bool false)) (za3 rfl rfl) rfl ⟨?_,hB⟩
 exact (by rw [zq8 hr ah af,zh4,zh4,hb28,hb31]<;>rfl)

theorem zU4 {D:Ofr} {dk:Nat} {ds os rs sp cs ch:Value} (ok:D.Ok) {w:World} (hL:Lc w dk #[ds,os,rs,sp,cs,ch] 158) (hD:Dsk w D ds os rs sp cs ch) (hm:Mx w) {b:Bool} {vc vp u vd:Value} {co least:Int} {fx:List (Int × Int)} {du:List (List UInt8)} (hu:vd.oneCell'=true) (hd:Sl ETxt 33 1 w vd (tb (fun z1=>(du.getD z1 [])) du.length)) (aa:u.oneCell'=true) (ac:vc.oneCell'=true) (ad:vp.oneCell'=true) {z:Int} {TT:Nat} {l:List Nat} {v:Value} (hv:D.vp l) (hl:Sl EI64 TT 1 w v (tb (fun z1=>((Ofr.at_ l z1:Nat):Int)) l.length)):
  Calls Tryz.prog 59 #[pT dk 0,.agg #[.bool (b),vc,iT (co),vp],.agg #[u,iT (least),iT z,vd],v] w fun e w'=>e=.returned (.bool (D.proves b co ⟨fx,least,z,du⟩ l))∧Gr w w':=by
 by_cases h1:z=-1
 ·subst h1;exact proves_a ok hL hD hm hu hd aa ac ad hv hl
 by_cases h2:z< -1
 ·exact proves_b ok hL hD hm hu hd aa ac ad h2 hv hl
 obtain ⟨r,rfl⟩:∃ r:Nat,z=(r:Int):=⟨z.toNat,by omega⟩
 exact proves_c ok hL hD hm hu hd aa ac ad hv hl
end Go.Proofs.YtjhflekncldflaaGreatDoor
