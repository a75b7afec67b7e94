/- Joined of: Gen47, Sl, Sy1, Gen31, Gen35, Gen33, Lit2, Gen37, Mk, Ars, Arr, Peq. -/
import Derived.Test.YthhbibpaeonecaaGreatDoorPartC
import Derived.Test.YthhbibpaeonecaaGreatDoorPartA
import Derived.Test.YthhbibpaeonecaaGreatDoorPartB
import Derived.ChangeKeysEq
import Derived.Laws.StructEq
namespace Go.Proofs.YthhbibpaeonecaaGreatDoor
open Go.RowKit

set_option maxRecDepth 100000 in
set_option maxHeartbeats 1000000 in
theorem rdigits_a (l:List UInt8) (_hl:l.length≤1000000) (w:World):
    Calls Tryz.prog 70 #[(.string ⟨(l:List UInt8).toArray⟩)] w fun e w'=>e=.returned (.bool (allD l))∧Gr w w':=by
 go_enter Tryz.func70,Tryz.ntmps70
 have hB:=Gr.refl w
 refine wp_seq_k (fun K1 k1=>?_)
 refine rg [0] ?_
 refine sv 2 (.bool false) ?_
 refine sq_nil ?_
 refine k1 _ _ ?_
 try clear k1 K1
 refine wp_seq_k (fun K2 k2=>?_)
 refine rg [0,1,2,3,4,5,6,7] ?_
 refine sv 3 (.string ⟨(l:List UInt8).toArray⟩) ?_
 refine sw 4 (.bool (((l) !=([]:List UInt8)))) rfl (rv_sne 9 9 _ _ (l) ([]) rfl rfl rfl) ?_
 rcases Bool.eq_false_or_eq_true (((l) !=([]:List UInt8))) with hb3 | hb3
 ·refine sw 5 (.bool true) rfl (RunV.bool (x:=((l) !=([]:List UInt8))) (rvk (by kernel_rfl)) hb3) ?_
  refine sv 6 (.string ⟨(l:List UInt8).toArray⟩) ?_
  refine se ?_
  refine ec 7 (trim_any (l) (by omega) _) ?_
  rintro e4 w4 ⟨rfl,g4⟩
  refine ⟨_,rfl,?_⟩
  replace hB:=hB.trans g4
  simp only [p3,p4]
  refine sw 8 (.bool (((Lib.trimS (l) [48,49,50,51,52,53,54,55,56,57])==([]:List UInt8)))) rfl (rv_seq 9 9 _ _ (Lib.trimS (l) [48,49,50,51,52,53,54,55,56,57]) ([]) rfl rfl rfl) ?_
  refine sv 9 (.bool (((Lib.trimS (l) [48,49,50,51,52,53,54,55,56,57])==([]:List UInt8)))) ?_
  refine sv 2 (.bool (((Lib.trimS (l) [48,49,50,51,52,53,54,55,56,57])==([]:List UInt8)))) ?_
  refine sq_nil ?_
  refine k2 _ _ ?_
  try clear k2 K2
  refine wp_ret ?_
  refine bodyPost_ret (v:=(.bool (((Lib.trimS (l) [48,49,50,51,52,53,54,55,56,57])==([]:List UInt8))))) (ret_tmp rfl rfl) rfl ⟨?_,hB⟩
  exact (by rw [allD_trim,hb3];rfl)
 ·refine sw 5 (.bool false) rfl (RunV.bool (x:=((l) !=([]:List UInt8))) (rvk (by kernel_rfl)) hb3) ?_
  refine ss 6 ?_
  refine ss 7 ?_
  refine ss 8 ?_
  refine sv 9 (.bool false) ?_
  refine sv 2 (.bool false) ?_
  refine sq_nil ?_
  refine k2 _ _ ?_
  try clear k2 K2
  refine wp_ret ?_
  refine bodyPost_ret (v:=(.bool false)) (ret_tmp rfl rfl) rfl ⟨?_,hB⟩
  exact (by rw [allD_trim,hb3];rfl)

set_option maxRecDepth 100000 in
set_option maxHeartbeats 1000000 in
theorem read_long (X:List UInt8) (most:Int) (_hx:X.length≤1000000) (_hlong:most<(X.length:Int)) (w:World) (hm:Mx w):
    Calls Tryz.prog 47 #[(.string ⟨(X:List UInt8).toArray⟩),(.int .i64 (most))] w fun e w'=>e=.returned (.tuple #[.agg #[.bool false,.slice none 0 0,.bool false,.slice none 0 0],.int .i64 5])∧Gr w w':=by
 have hl:decide (most<((X).length:Int))=true:=by simp;omega
 go_enter Tryz.func47,Tryz.ntmps47
 have hB:=Gr.refl w
 refine wp_seq_k (fun K1 k1=>?_)
 refine rg [0,1] ?_
 refine se ?_
 refine ea 33 #[(.bool false),(.slice none 0 0),(.bool false),(.slice none 0 0)] 4 hB fun b2 w2 g2 L2 o2 q2 hB=>?_
 simp only [p3,p4]
 refine sv 5 (.int .i64 0) ?_
 refine sq_nil ?_
 refine k1 _ _ ?_
 try clear k1 K1
 refine wp_seq_k (fun K3 k3=>?_)
 refine rg [0,1] ?_
 refine sv 13 (.string ⟨(X:List UInt8).toArray⟩) ?_
 refine sv 6 (.string ⟨(X:List UInt8).toArray⟩) ?_
 refine sq_nil ?_
 refine k3 _ _ ?_
 try clear k3 K3
 refine wp_seq_k (fun K4 k4=>?_)
 refine rg [0,1,2,3,4,5,6,7,8] ?_
 refine sv 15 (.string ⟨(X:List UInt8).toArray⟩) ?_
 refine se ?_
 refine ec 16 (cut_any (X) (by omega) (hm.gr hB)) ?_
 rintro e5 w5 ⟨rfl,g5⟩
 refine ⟨_,rfl,?_⟩
 replace hB:=hB.trans g5
 simp only [p3,p4]
 refine sv 14 (.tuple #[(.string ⟨(numL (X):List UInt8).toArray⟩),(.string ⟨((cutL (X)).2.getD []:List UInt8).toArray⟩),(.bool ((cutL (X)).2.isSome))]) ?_
 refine sv 17 (.string ⟨(numL (X):List UInt8).toArray⟩) ?_
 refine sv 18 (.string ⟨((cutL (X)).2.getD []:List UInt8).toArray⟩) ?_
 refine sv 19 (.bool ((cutL (X)).2.isSome)) ?_
 refine sv 7 (.string ⟨(numL (X):List UInt8).toArray⟩) ?_
 refine sv 8 (.string ⟨((cutL (X)).2.getD []:List UInt8).toArray⟩) ?_
 refine sv 9 (.bool ((cutL (X)).2.isSome)) ?_
 refine sq_nil ?_
 refine k4 _ _ ?_
 try clear k4 K4
 refine wp_seq_k (fun K6 k6=>?_)
 refine wp_block ?_
 refine wp_seq_k (fun K7 k7=>?_)
 refine rg [0,1,2,3,4] ?_
 refine sv 21 (.string ⟨(X:List UInt8).toArray⟩) ?_
 refine sv 22 (.int .i64 (((X).length:Int))) ?_
 refine sv 23 (.int .i64 (most)) ?_
 refine sw 24 (.bool true) rfl (RunV.bool (x:=decide (most<((X).length:Int))) (rvk (by kernel_rfl)) hl) ?_
 refine sv 20 (.bool true) ?_
 refine sq_nil ?_
 refine k7 _ _ ?_
 try clear k7 K7
 refine wp_cond_true rfl ?_
 refine wp_seq_k (fun K8 k8=>?_)
 refine rg [0,1,2] ?_
 refine sv 25 (.agg #[(.bool false),(.slice none 0 0),(.bool false),(.slice none 0 0)]) ?_
 refine se ?_
 replace L2:=L2.gr g5
 refine es 33 0 (.agg #[(.bool false),(.slice none 0 0),(.bool false),(.slice none 0 0)]) [(.bool false),(.slice none 0 0),(.bool false),(.slice none 0 0)] #[(.bool false),(.slice none 0 0),(.bool false),(.slice none 0 0)] L2 hB q2 ⟨rfl,rfl,rfl,rfl,trivial⟩ fun w9 st9 kp9 L2 hB=>?_
 refine sv 5 (.int .i64 5) ?_
 refine sq_nil ?_
 refine k8 _ _ ?_
 try clear k8 K8
 refine wp_ret ?_
 simp only [Exit.then,Exit.inBlock]
 refine bodyPost_ret (v:=(.tuple #[(.agg #[(.bool false),(.slice none 0 0),(.bool false),(.slice none 0 0)]),(.int .i64 5)])) (ret_cell_tmp' _ _ _ rfl rfl L2 (by kernel_rfl) rfl) rfl ⟨?_,hB⟩
 exact rfl

set_option maxRecDepth 100000 in
set_option maxHeartbeats 1000000 in
theorem read_ns (X:List UInt8) (most:Int) (_hx:X.length≤14000) (_hlong:(X.length:Int)≤most) (hc:cutL X=(X,none)) (h1:allD (strip X)=false) (w:World) (hm:Mx w):
    Calls Tryz.prog 47 #[(.string ⟨(X:List UInt8).toArray⟩),(.int .i64 (most))] w fun e w'=>e=.returned (.tuple #[.agg #[.bool false,.slice none 0 0,.bool false,.slice none 0 0],.int .i64 14])∧Gr w w':=by
 have hl:decide (most<((X).length:Int))=false:=by simp;omega
 have hsX:(strip (X)).length≤(X).length:=strip_len _
 go_enter Tryz.func47,Tryz.ntmps47
 have hB:=Gr.refl w
 refine wp_seq_k (fun K1 k1=>?_)
 refine rg [0,1] ?_
 refine se ?_
 refine ea 33 #[(.bool false),(.slice none 0 0),(.bool false),(.slice none 0 0)] 4 hB fun b2 w2 g2 L2 o2 q2 hB=>?_
 simp only [p3,p4]
 refine sv 5 (.int .i64 0) ?_
 refine sq_nil ?_
 refine k1 _ _ ?_
 try clear k1 K1
 refine wp_seq_k (fun K3 k3=>?_)
 refine rg [0,1] ?_
 refine sv 13 (.string ⟨(X:List UInt8).toArray⟩) ?_
 refine sv 6 (.string ⟨(X:List UInt8).toArray⟩) ?_
 refine sq_nil ?_
 refine k3 _ _ ?_
 try clear k3 K3
 refine wp_seq_k (fun K4 k4=>?_)
 refine rg [0,1,2,3,4,5,6,7,8] ?_
 refine sv 15 (.string ⟨(X:List UInt8).toArray⟩) ?_
 refine se ?_
 refine ec 16 (cut_no (X) (by omega) hc (hm.gr hB)) ?_
 rintro e5 w5 ⟨rfl,g5⟩
 refine ⟨_,rfl,?_⟩
 replace hB:=hB.trans g5
 simp only [p3,p4]
 refine sv 14 (.tuple #[(.string ⟨(X:List UInt8).toArray⟩),(.string ⟨([]:List UInt8).toArray⟩),(.bool false)]) ?_
 refine sv 17 (.string ⟨(X:List UInt8).toArray⟩) ?_
 refine sv 18 (.string ⟨([]:List UInt8).toArray⟩) ?_
 refine sv 19 (.bool false) ?_
 refine sv 7 (.string ⟨(X:List UInt8).toArray⟩) ?_
 refine sv 8 (.string ⟨([]:List UInt8).toArray⟩) ?_
 refine sv 9 (.bool false) ?_
 refine sq_nil ?_
 refine k4 _ _ ?_
 try clear k4 K4
 refine wp_seq_k (fun K6 k6=>?_)
 refine wp_block ?_
 refine wp_seq_k (fun K7 k7=>?_)
 refine rg [0,1,2,3,4] ?_
 refine sv 21 (.string ⟨(X:List UInt8).toArray⟩) ?_
 refine sv 22 (.int .i64 (((X).length:Int))) ?_
 refine sv 23 (.int .i64 (most)) ?_
 refine sw 24 (.bool false) rfl (RunV.bool (x:=decide (most<((X).length:Int))) (rvk (by kernel_rfl)) hl) ?_
 refine sv 20 (.bool false) ?_
 refine sq_nil ?_
 refine k7 _ _ ?_
 try clear k7 K7
 refine wp_cond_false rfl ?_
 refine wp_seq_k (fun K8 k8=>?_)
 refine rg [0,1,2,3,4,5,6,7,8,9,10,11,12] ?_
 refine sv 27 (.string ⟨(X:List UInt8).toArray⟩) ?_
 refine se ?_
 refine ec 28 (trimprefix_any (X) _) ?_
 rintro e9 w9 ⟨rfl,g9⟩
 refine ⟨_,rfl,?_⟩
 replace hB:=hB.trans g9
 simp only [p3,p4]
 refine se ?_
 refine ec 29 (rdigits_a (strip (X)) (by omega) _) ?_
 rintro e10 w10 ⟨rfl,g10⟩
 refine ⟨_,rfl,?_⟩
 replace hB:=hB.trans g10
 simp only [p3,p4]
 refine sw 30 (.bool true) rfl (RunV.bool (x:=!(allD (strip (X)))) (rvk (by kernel_rfl)) (show (!(allD (strip (X))))=true by rw [h1];rfl)) ?_
 refine sv 31 (.bool true) ?_
 refine ss 32 ?_
 refine ss 33 ?_
 refine ss 34 ?_
 refine ss 35 ?_
 refine ss 36 ?_
 refine ss 37 ?_
 refine sv 38 (.bool true) ?_
 refine sv 26 (.bool true) ?_
 refine sq_nil ?_
 refine k8 _ _ ?_
 try clear k8 K8
 refine wp_cond_true rfl ?_
 refine wp_seq_k (fun K11 k11=>?_)
 refine rg [0,1,2] ?_
 refine sv 39 (.agg #[(.bool false),(.slice none 0 0),(.bool false),(.slice none 0 0)]) ?_
 refine se ?_
 replace L2:=L2.gr (g5.trans (g9.trans g10))
 refine es 33 0 (.agg #[(.bool false),(.slice none 0 0),(.bool false),(.slice none 0 0)]) [(.bool false),(.slice none 0 0),(.bool false),(.slice none 0 0)] #[(.bool false),(.slice none 0 0),(.bool false),(.slice none 0 0)] L2 hB q2 ⟨rfl,rfl,rfl,rfl,trivial⟩ fun w12 st12 kp12 L2 hB=>?_
 refine sv 5 (.int .i64 14) ?_
 refine sq_nil ?_
 refine k11 _ _ ?_
 try clear k11 K11
 refine wp_ret ?_
 simp only [Exit.then,Exit.inBlock]
 refine bodyPost_ret (v:=(.tuple #[(.agg #[(.bool false),(.slice none 0 0),(.bool false),(.slice none 0 0)]),(.int .i64 14)])) (ret_cell_tmp' _ _ _ rfl rfl L2 (by kernel_rfl) rfl) rfl ⟨?_,hB⟩
 exact rfl

set_option maxRecDepth 100000 in
set_option maxHeartbeats 1000000 in
theorem read_nf (X:List UInt8) (most:Int) (_hx:X.length≤14000) (_hlong:(X.length:Int)≤most) (hc:cutL X=(X,none)) (h1:allD (strip X)=true) (h2:badZ X=true) (w:World) (hm:Mx w):
    Calls Tryz.prog 47 #[(.string ⟨(X:List UInt8).toArray⟩),(.int .i64 (most))] w fun e w'=>e=.returned (.tuple #[.agg #[.bool false,.slice none 0 0,.bool false,.slice none 0 0],.int .i64 3])∧Gr w w':=by
 have hl:decide (most<((X).length:Int))=false:=by simp;omega
 have hsX:(strip (X)).length≤(X).length:=strip_len _
 go_enter Tryz.func47,Tryz.ntmps47
 have hB:=Gr.refl w
 refine wp_seq_k (fun K1 k1=>?_)
 refine rg [0,1] ?_
 refine se ?_
 refine ea 33 #[(.bool false),(.slice none 0 0),(.bool false),(.slice none 0 0)] 4 hB fun b2 w2 g2 L2 o2 q2 hB=>?_
 simp only [p3,p4]
 refine sv 5 (.int .i64 0) ?_
 refine sq_nil ?_
 refine k1 _ _ ?_
 try clear k1 K1
 refine wp_seq_k (fun K3 k3=>?_)
 refine rg [0,1] ?_
 refine sv 13 (.string ⟨(X:List UInt8).toArray⟩) ?_
 refine sv 6 (.string ⟨(X:List UInt8).toArray⟩) ?_
 refine sq_nil ?_
 refine k3 _ _ ?_
 try clear k3 K3
 refine wp_seq_k (fun K4 k4=>?_)
 refine rg [0,1,2,3,4,5,6,7,8] ?_
 refine sv 15 (.string ⟨(X:List UInt8).toArray⟩) ?_
 refine se ?_
 refine ec 16 (cut_no (X) (by omega) hc (hm.gr hB)) ?_
 rintro e5 w5 ⟨rfl,g5⟩
 refine ⟨_,rfl,?_⟩
 replace hB:=hB.trans g5
 simp only [p3,p4]
 refine sv 14 (.tuple #[(.string ⟨(X:List UInt8).toArray⟩),(.string ⟨([]:List UInt8).toArray⟩),(.bool false)]) ?_
 refine sv 17 (.string ⟨(X:List UInt8).toArray⟩) ?_
 refine sv 18 (.string ⟨([]:List UInt8).toArray⟩) ?_
 refine sv 19 (.bool false) ?_
 refine sv 7 (.string ⟨(X:List UInt8).toArray⟩) ?_
 refine sv 8 (.string ⟨([]:List UInt8).toArray⟩) ?_
 refine sv 9 (.bool false) ?_
 refine sq_nil ?_
 refine k4 _ _ ?_
 try clear k4 K4
 refine wp_seq_k (fun K6 k6=>?_)
 refine wp_block ?_
 refine wp_seq_k (fun K7 k7=>?_)
 refine rg [0,1,2,3,4] ?_
 refine sv 21 (.string ⟨(X:List UInt8).toArray⟩) ?_
 refine sv 22 (.int .i64 (((X).length:Int))) ?_
 refine sv 23 (.int .i64 (most)) ?_
 refine sw 24 (.bool false) rfl (RunV.bool (x:=decide (most<((X).length:Int))) (rvk (by kernel_rfl)) hl) ?_
 refine sv 20 (.bool false) ?_
 refine sq_nil ?_
 refine k7 _ _ ?_
 try clear k7 K7
 refine wp_cond_false rfl ?_
 refine wp_seq_k (fun K8 k8=>?_)
 refine rg [0,1,2,3,4,5,6,7,8,9,10,11,12] ?_
 refine sv 27 (.string ⟨(X:List UInt8).toArray⟩) ?_
 refine se ?_
 refine ec 28 (trimprefix_any (X) _) ?_
 rintro e9 w9 ⟨rfl,g9⟩
 refine ⟨_,rfl,?_⟩
 replace hB:=hB.trans g9
 simp only [p3,p4]
 refine se ?_
 refine ec 29 (rdigits_a (strip (X)) (by omega) _) ?_
 rintro e10 w10 ⟨rfl,g10⟩
 refine ⟨_,rfl,?_⟩
 replace hB:=hB.trans g10
 simp only [p3,p4]
 refine sw 30 (.bool false) rfl (RunV.bool (x:=!(allD (strip (X)))) (rvk (by kernel_rfl)) (show (!(allD (strip (X))))=false by rw [h1];rfl)) ?_
 refine sv 31 (.bool false) ?_
 refine sv 32 (.bool false) ?_
 refine sv 33 (.bool false) ?_
 refine ss 34 ?_
 refine ss 35 ?_
 refine ss 36 ?_
 refine sv 37 (.bool false) ?_
 refine sv 38 (.bool false) ?_
 refine sv 26 (.bool false) ?_
 refine sq_nil ?_
 refine k8 _ _ ?_
 try clear k8 K8
 refine wp_cond_false rfl ?_
 refine wp_seq_k (fun K11 k11=>?_)
 refine rg [0,1,2,3,4,5,6] ?_
 refine sv 41 (.bool false) ?_
 refine sv 42 (.bool false) ?_
 refine ss 43 ?_
 refine ss 44 ?_
 refine ss 45 ?_
 refine sv 46 (.bool false) ?_
 refine sv 40 (.bool false) ?_
 refine sq_nil ?_
 refine k11 _ _ ?_
 try clear k11 K11
 refine wp_cond_false rfl ?_
 refine wp_skip ?_
 refine k6 _ _ ?_
 try clear k6 K6
 refine wp_seq_k (fun K12 k12=>?_)
 refine rg [0,1,2,3,4,5,6,7] ?_
 refine sv 49 (.string ⟨(X:List UInt8).toArray⟩) ?_
 refine se ?_
 refine ec 50 (parse_bad (X) (by omega) h1 h2 _) ?_
 rintro e13 w13 ⟨rfl,g13⟩
 refine ⟨_,rfl,?_⟩
 replace hB:=hB.trans g13
 simp only [p3,p4]
 refine sv 48 (.tuple #[(.agg #[(.bool false),(.slice none 0 0)]),(.int .i64 3)]) ?_
 refine sv 51 (.agg #[(.bool false),(.slice none 0 0)]) ?_
 refine sv 52 (.int .i64 3) ?_
 refine se ?_
 refine ea 31 #[(.bool false),(.slice none 0 0)] 10 hB fun b14 w14 g14 L14 o14 q14 hB=>?_
 replace L2:=L2.gr (g5.trans (g9.trans (g10.trans g13)))
 have ne2_14:=L2.ne o14
 simp only [p3,p4]
 refine se ?_
 refine es 31 0 (.agg #[(.bool false),(.slice none 0 0)]) [(.bool false),(.slice none 0 0)] #[(.bool false),(.slice none 0 0)] L14 hB q14 ⟨rfl,rfl,trivial⟩ fun w15 st15 kp15 L14 hB=>?_
 refine sv 11 (.int .i64 3) ?_
 refine sq_nil ?_
 refine k12 _ _ ?_
 try clear k12 K12
 refine wp_seq_k (fun K16 k16=>?_)
 refine wp_seq_k (fun K17 k17=>?_)
 refine rg [0,1] ?_
 refine sv 53 (.int .i64 3) ?_
 refine sv 54 (.bool true) ?_
 refine sq_nil ?_
 refine k17 _ _ ?_
 try clear k17 K17
 refine wp_cond_true rfl ?_
 refine wp_seq_k (fun K18 k18=>?_)
 refine rg [0,1,2] ?_
 refine sv 55 (.agg #[(.bool false),(.slice none 0 0),(.bool false),(.slice none 0 0)]) ?_
 refine se ?_
 replace L2:=st15.lc (L2.gr g14) ne2_14
 refine es 33 0 (.agg #[(.bool false),(.slice none 0 0),(.bool false),(.slice none 0 0)]) [(.bool false),(.slice none 0 0),(.bool false),(.slice none 0 0)] #[(.bool false),(.slice none 0 0),(.bool false),(.slice none 0 0)] L2 hB q2 ⟨rfl,rfl,rfl,rfl,trivial⟩ fun w19 st19 kp19 L2 hB=>?_
 refine sv 5 (.int .i64 3) ?_
 refine sq_nil ?_
 refine k18 _ _ ?_
 try clear k18 K18
 refine wp_ret ?_
 simp only [Exit.then]
 refine bodyPost_ret (v:=(.tuple #[(.agg #[(.bool false),(.slice none 0 0),(.bool false),(.slice none 0 0)]),(.int .i64 3)])) (ret_cell_tmp' _ _ _ rfl rfl L2 (by kernel_rfl) rfl) rfl ⟨?_,hB⟩
 exact rfl

set_option maxRecDepth 100000 in
set_option maxHeartbeats 1000000 in
theorem read_fs1 (X A D:List UInt8) (most:Int) (_hx:X.length≤14000) (_hlong:(X.length:Int)≤most) (hc:cutL X=(A,some D)) (_hA:(A).length≤X.length) (_hD:D.length≤X.length) (h1:allD (strip A)=false) (w:World) (hm:Mx w):
    Calls Tryz.prog 47 #[(.string ⟨(X:List UInt8).toArray⟩),(.int .i64 (most))] w fun e w'=>e=.returned (.tuple #[.agg #[.bool false,.slice none 0 0,.bool false,.slice none 0 0],.int .i64 14])∧Gr w w':=by
 have hl:decide (most<((X).length:Int))=false:=by simp;omega
 have hsA:(strip (A)).length≤(A).length:=strip_len _
 go_enter Tryz.func47,Tryz.ntmps47
 have hB:=Gr.refl w
 refine wp_seq_k (fun K1 k1=>?_)
 refine rg [0,1] ?_
 refine se ?_
 refine ea 33 #[(.bool false),(.slice none 0 0),(.bool false),(.slice none 0 0)] 4 hB fun b2 w2 g2 L2 o2 q2 hB=>?_
 simp only [p3,p4]
 refine sv 5 (.int .i64 0) ?_
 refine sq_nil ?_
 refine k1 _ _ ?_
 try clear k1 K1
 refine wp_seq_k (fun K3 k3=>?_)
 refine rg [0,1] ?_
 refine sv 13 (.string ⟨(X:List UInt8).toArray⟩) ?_
 refine sv 6 (.string ⟨(X:List UInt8).toArray⟩) ?_
 refine sq_nil ?_
 refine k3 _ _ ?_
 try clear k3 K3
 refine wp_seq_k (fun K4 k4=>?_)
 refine rg [0,1,2,3,4,5,6,7,8] ?_
 refine sv 15 (.string ⟨(X:List UInt8).toArray⟩) ?_
 refine se ?_
 refine ec 16 (cut_yes (X) (A) (D) (by omega) hc (hm.gr hB)) ?_
 rintro e5 w5 ⟨rfl,g5⟩
 refine ⟨_,rfl,?_⟩
 replace hB:=hB.trans g5
 simp only [p3,p4]
 refine sv 14 (.tuple #[(.string ⟨(A:List UInt8).toArray⟩),(.string ⟨(D:List UInt8).toArray⟩),(.bool true)]) ?_
 refine sv 17 (.string ⟨(A:List UInt8).toArray⟩) ?_
 refine sv 18 (.string ⟨(D:List UInt8).toArray⟩) ?_
 refine sv 19 (.bool true) ?_
 refine sv 7 (.string ⟨(A:List UInt8).toArray⟩) ?_
 refine sv 8 (.string ⟨(D:List UInt8).toArray⟩) ?_
 refine sv 9 (.bool true) ?_
 refine sq_nil ?_
 refine k4 _ _ ?_
 try clear k4 K4
 refine wp_seq_k (fun K6 k6=>?_)
 refine wp_block ?_
 refine wp_seq_k (fun K7 k7=>?_)
 refine rg [0,1,2,3,4] ?_
 refine sv 21 (.string ⟨(X:List UInt8).toArray⟩) ?_
 refine sv 22 (.int .i64 (((X).length:Int))) ?_
 refine sv 23 (.int .i64 (most)) ?_
 refine sw 24 (.bool false) rfl (RunV.bool (x:=decide (most<((X).length:Int))) (rvk (by kernel_rfl)) hl) ?_
 refine sv 20 (.bool false) ?_
 refine sq_nil ?_
 refine k7 _ _ ?_
 try clear k7 K7
 refine wp_cond_false rfl ?_
 refine wp_seq_k (fun K8 k8=>?_)
 refine rg [0,1,2,3,4,5,6,7,8,9,10,11,12] ?_
 refine sv 27 (.string ⟨(A:List UInt8).toArray⟩) ?_
 refine se ?_
 refine ec 28 (trimprefix_any (A) _) ?_
 rintro e9 w9 ⟨rfl,g9⟩
 refine ⟨_,rfl,?_⟩
 replace hB:=hB.trans g9
 simp only [p3,p4]
 refine se ?_
 refine ec 29 (rdigits_a (strip (A)) (by omega) _) ?_
 rintro e10 w10 ⟨rfl,g10⟩
 refine ⟨_,rfl,?_⟩
 replace hB:=hB.trans g10
 simp only [p3,p4]
 refine sw 30 (.bool true) rfl (RunV.bool (x:=!(allD (strip (A)))) (rvk (by kernel_rfl)) (show (!(allD (strip (A))))=true by rw [h1];rfl)) ?_
 refine sv 31 (.bool true) ?_
 refine ss 32 ?_
 refine ss 33 ?_
 refine ss 34 ?_
 refine ss 35 ?_
 refine ss 36 ?_
 refine ss 37 ?_
 refine sv 38 (.bool true) ?_
 refine sv 26 (.bool true) ?_
 refine sq_nil ?_
 refine k8 _ _ ?_
 try clear k8 K8
 refine wp_cond_true rfl ?_
 refine wp_seq_k (fun K11 k11=>?_)
 refine rg [0,1,2] ?_
 refine sv 39 (.agg #[(.bool false),(.slice none 0 0),(.bool false),(.slice none 0 0)]) ?_
 refine se ?_
 replace L2:=L2.gr (g5.trans (g9.trans g10))
 refine es 33 0 (.agg #[(.bool false),(.slice none 0 0),(.bool false),(.slice none 0 0)]) [(.bool false),(.slice none 0 0),(.bool false),(.slice none 0 0)] #[(.bool false),(.slice none 0 0),(.bool false),(.slice none 0 0)] L2 hB q2 ⟨rfl,rfl,rfl,rfl,trivial⟩ fun w12 st12 kp12 L2 hB=>?_
 refine sv 5 (.int .i64 14) ?_
 refine sq_nil ?_
 refine k11 _ _ ?_
 try clear k11 K11
 refine wp_ret ?_
 simp only [Exit.then,Exit.inBlock]
 refine bodyPost_ret (v:=(.tuple #[(.agg #[(.bool false),(.slice none 0 0),(.bool false),(.slice none 0 0)]),(.int .i64 14)])) (ret_cell_tmp' _ _ _ rfl rfl L2 (by kernel_rfl) rfl) rfl ⟨?_,hB⟩
 exact rfl

set_option maxRecDepth 100000 in
set_option maxHeartbeats 1000000 in
theorem read_fs2 (X A D:List UInt8) (most:Int) (_hx:X.length≤14000) (_hlong:(X.length:Int)≤most) (hc:cutL X=(A,some D)) (_hA:(A).length≤X.length) (_hD:D.length≤X.length) (h1:allD (strip A)=true) (h2:allD D=false) (w:World) (hm:Mx w):
    Calls Tryz.prog 47 #[(.string ⟨(X:List UInt8).toArray⟩),(.int .i64 (most))] w fun e w'=>e=.returned (.tuple #[.agg #[.bool false,.slice none 0 0,.bool false,.slice none 0 0],.int .i64 14])∧Gr w w':=by
 have hl:decide (most<((X).length:Int))=false:=by simp;omega
 have hsA:(strip (A)).length≤(A).length:=strip_len _
 go_enter Tryz.func47,Tryz.ntmps47
 have hB:=Gr.refl w
 refine wp_seq_k (fun K1 k1=>?_)
 refine rg [0,1] ?_
 refine se ?_
 refine ea 33 #[(.bool false),(.slice none 0 0),(.bool false),(.slice none 0 0)] 4 hB fun b2 w2 g2 L2 o2 q2 hB=>?_
 simp only [p3,p4]
 refine sv 5 (.int .i64 0) ?_
 refine sq_nil ?_
 refine k1 _ _ ?_
 try clear k1 K1
 refine wp_seq_k (fun K3 k3=>?_)
 refine rg [0,1] ?_
 refine sv 13 (.string ⟨(X:List UInt8).toArray⟩) ?_
 refine sv 6 (.string ⟨(X:List UInt8).toArray⟩) ?_
 refine sq_nil ?_
 refine k3 _ _ ?_
 try clear k3 K3
 refine wp_seq_k (fun K4 k4=>?_)
 refine rg [0,1,2,3,4,5,6,7,8] ?_
 refine sv 15 (.string ⟨(X:List UInt8).toArray⟩) ?_
 refine se ?_
 refine ec 16 (cut_yes (X) (A) (D) (by omega) hc (hm.gr hB)) ?_
 rintro e5 w5 ⟨rfl,g5⟩
 refine ⟨_,rfl,?_⟩
 replace hB:=hB.trans g5
 simp only [p3,p4]
 refine sv 14 (.tuple #[(.string ⟨(A:List UInt8).toArray⟩),(.string ⟨(D:List UInt8).toArray⟩),(.bool true)]) ?_
 refine sv 17 (.string ⟨(A:List UInt8).toArray⟩) ?_
 refine sv 18 (.string ⟨(D:List UInt8).toArray⟩) ?_
 refine sv 19 (.bool true) ?_
 refine sv 7 (.string ⟨(A:List UInt8).toArray⟩) ?_
 refine sv 8 (.string ⟨(D:List UInt8).toArray⟩) ?_
 refine sv 9 (.bool true) ?_
 refine sq_nil ?_
 refine k4 _ _ ?_
 try clear k4 K4
 refine wp_seq_k (fun K6 k6=>?_)
 refine wp_block ?_
 refine wp_seq_k (fun K7 k7=>?_)
 refine rg [0,1,2,3,4] ?_
 refine sv 21 (.string ⟨(X:List UInt8).toArray⟩) ?_
 refine sv 22 (.int .i64 (((X).length:Int))) ?_
 refine sv 23 (.int .i64 (most)) ?_
 refine sw 24 (.bool false) rfl (RunV.bool (x:=decide (most<((X).length:Int))) (rvk (by kernel_rfl)) hl) ?_
 refine sv 20 (.bool false) ?_
 refine sq_nil ?_
 refine k7 _ _ ?_
 try clear k7 K7
 refine wp_cond_false rfl ?_
 refine wp_seq_k (fun K8 k8=>?_)
 refine rg [0,1,2,3,4,5,6,7,8,9,10,11,12] ?_
 refine sv 27 (.string ⟨(A:List UInt8).toArray⟩) ?_
 refine se ?_
 refine ec 28 (trimprefix_any (A) _) ?_
 rintro e9 w9 ⟨rfl,g9⟩
 refine ⟨_,rfl,?_⟩
 replace hB:=hB.trans g9
 simp only [p3,p4]
 refine se ?_
 refine ec 29 (rdigits_a (strip (A)) (by omega) _) ?_
 rintro e10 w10 ⟨rfl,g10⟩
 refine ⟨_,rfl,?_⟩
 replace hB:=hB.trans g10
 simp only [p3,p4]
 refine sw 30 (.bool false) rfl (RunV.bool (x:=!(allD (strip (A)))) (rvk (by kernel_rfl)) (show (!(allD (strip (A))))=false by rw [h1];rfl)) ?_
 refine sv 31 (.bool false) ?_
 refine sv 32 (.bool true) ?_
 refine sv 33 (.bool true) ?_
 refine sv 34 (.string ⟨(D:List UInt8).toArray⟩) ?_
 refine se ?_
 refine ec 35 (rdigits_a (D) (by omega) _) ?_
 rintro e11 w11 ⟨rfl,g11⟩
 refine ⟨_,rfl,?_⟩
 replace hB:=hB.trans g11
 simp only [p3,p4]
 refine sw 36 (.bool true) rfl (RunV.bool (x:=!(allD (D))) (rvk (by kernel_rfl)) (show (!(allD (D)))=true by rw [h2];rfl)) ?_
 refine sv 37 (.bool true) ?_
 refine sv 38 (.bool true) ?_
 refine sv 26 (.bool true) ?_
 refine sq_nil ?_
 refine k8 _ _ ?_
 try clear k8 K8
 refine wp_cond_true rfl ?_
 refine wp_seq_k (fun K12 k12=>?_)
 refine rg [0,1,2] ?_
 refine sv 39 (.agg #[(.bool false),(.slice none 0 0),(.bool false),(.slice none 0 0)]) ?_
 refine se ?_
 replace L2:=L2.gr (g5.trans (g9.trans (g10.trans g11)))
 refine es 33 0 (.agg #[(.bool false),(.slice none 0 0),(.bool false),(.slice none 0 0)]) [(.bool false),(.slice none 0 0),(.bool false),(.slice none 0 0)] #[(.bool false),(.slice none 0 0),(.bool false),(.slice none 0 0)] L2 hB q2 ⟨rfl,rfl,rfl,rfl,trivial⟩ fun w13 st13 kp13 L2 hB=>?_
 refine sv 5 (.int .i64 14) ?_
 refine sq_nil ?_
 refine k12 _ _ ?_
 try clear k12 K12
 refine wp_ret ?_
 simp only [Exit.then,Exit.inBlock]
 refine bodyPost_ret (v:=(.tuple #[(.agg #[(.bool false),(.slice none 0 0),(.bool false),(.slice none 0 0)]),(.int .i64 14)])) (ret_cell_tmp' _ _ _ rfl rfl L2 (by kernel_rfl) rfl) rfl ⟨?_,hB⟩
 exact rfl

set_option maxRecDepth 100000 in
set_option maxHeartbeats 1000000 in
theorem read_fz (X A D:List UInt8) (most:Int) (_hx:X.length≤14000) (_hlong:(X.length:Int)≤most) (hc:cutL X=(A,some D)) (_hA:(A).length≤X.length) (_hD:D.length≤X.length) (h1:allD (strip A)=true) (h2:allD D=true) (h3:zerosL D=true) (w:World) (hm:Mx w):
    Calls Tryz.prog 47 #[(.string ⟨(X:List UInt8).toArray⟩),(.int .i64 (most))] w fun e w'=>e=.returned (.tuple #[.agg #[.bool false,.slice none 0 0,.bool false,.slice none 0 0],.int .i64 19])∧Gr w w':=by
 have hl:decide (most<((X).length:Int))=false:=by simp;omega
 have hsA:(strip (A)).length≤(A).length:=strip_len _
 have h4:((Lib.trimS (D) [48])==([]:List UInt8))=true:=by rw [← zeros_trim];exact h3
 go_enter Tryz.func47,Tryz.ntmps47
 have hB:=Gr.refl w
 refine wp_seq_k (fun K1 k1=>?_)
 refine rg [0,1] ?_
 refine se ?_
 refine ea 33 #[(.bool false),(.slice none 0 0),(.bool false),(.slice none 0 0)] 4 hB fun b2 w2 g2 L2 o2 q2 hB=>?_
 simp only [p3,p4]
 refine sv 5 (.int .i64 0) ?_
 refine sq_nil ?_
 refine k1 _ _ ?_
 try clear k1 K1
 refine wp_seq_k (fun K3 k3=>?_)
 refine rg [0,1] ?_
 refine sv 13 (.string ⟨(X:List UInt8).toArray⟩) ?_
 refine sv 6 (.string ⟨(X:List UInt8).toArray⟩) ?_
 refine sq_nil ?_
 refine k3 _ _ ?_
 try clear k3 K3
 refine wp_seq_k (fun K4 k4=>?_)
 refine rg [0,1,2,3,4,5,6,7,8] ?_
 refine sv 15 (.string ⟨(X:List UInt8).toArray⟩) ?_
 refine se ?_
 refine ec 16 (cut_yes (X) (A) (D) (by omega) hc (hm.gr hB)) ?_
 rintro e5 w5 ⟨rfl,g5⟩
 refine ⟨_,rfl,?_⟩
 replace hB:=hB.trans g5
 simp only [p3,p4]
 refine sv 14 (.tuple #[(.string ⟨(A:List UInt8).toArray⟩),(.string ⟨(D:List UInt8).toArray⟩),(.bool true)]) ?_
 refine sv 17 (.string ⟨(A:List UInt8).toArray⟩) ?_
 refine sv 18 (.string ⟨(D:List UInt8).toArray⟩) ?_
 refine sv 19 (.bool true) ?_
 refine sv 7 (.string ⟨(A:List UInt8).toArray⟩) ?_
 refine sv 8 (.string ⟨(D:List UInt8).toArray⟩) ?_
 refine sv 9 (.bool true) ?_
 refine sq_nil ?_
 refine k4 _ _ ?_
 try clear k4 K4
 refine wp_seq_k (fun K6 k6=>?_)
 refine wp_block ?_
 refine wp_seq_k (fun K7 k7=>?_)
 refine rg [0,1,2,3,4] ?_
 refine sv 21 (.string ⟨(X:List UInt8).toArray⟩) ?_
 refine sv 22 (.int .i64 (((X).length:Int))) ?_
 refine sv 23 (.int .i64 (most)) ?_
 refine sw 24 (.bool false) rfl (RunV.bool (x:=decide (most<((X).length:Int))) (rvk (by kernel_rfl)) hl) ?_
 refine sv 20 (.bool false) ?_
 refine sq_nil ?_
 refine k7 _ _ ?_
 try clear k7 K7
 refine wp_cond_false rfl ?_
 refine wp_seq_k (fun K8 k8=>?_)
 refine rg [0,1,2,3,4,5,6,7,8,9,10,11,12] ?_
 refine sv 27 (.string ⟨(A:List UInt8).toArray⟩) ?_
 refine se ?_
 refine ec 28 (trimprefix_any (A) _) ?_
 rintro e9 w9 ⟨rfl,g9⟩
 refine ⟨_,rfl,?_⟩
 replace hB:=hB.trans g9
 simp only [p3,p4]
 refine se ?_
 refine ec 29 (rdigits_a (strip (A)) (by omega) _) ?_
 rintro e10 w10 ⟨rfl,g10⟩
 refine ⟨_,rfl,?_⟩
 replace hB:=hB.trans g10
 simp only [p3,p4]
 refine sw 30 (.bool false) rfl (RunV.bool (x:=!(allD (strip (A)))) (rvk (by kernel_rfl)) (show (!(allD (strip (A))))=false by rw [h1];rfl)) ?_
 refine sv 31 (.bool false) ?_
 refine sv 32 (.bool true) ?_
 refine sv 33 (.bool true) ?_
 refine sv 34 (.string ⟨(D:List UInt8).toArray⟩) ?_
 refine se ?_
 refine ec 35 (rdigits_a (D) (by omega) _) ?_
 rintro e11 w11 ⟨rfl,g11⟩
 refine ⟨_,rfl,?_⟩
 replace hB:=hB.trans g11
 simp only [p3,p4]
 refine sw 36 (.bool false) rfl (RunV.bool (x:=!(allD (D))) (rvk (by kernel_rfl)) (show (!(allD (D)))=false by rw [h2];rfl)) ?_
 refine sv 37 (.bool false) ?_
 refine sv 38 (.bool false) ?_
 refine sv 26 (.bool false) ?_
 refine sq_nil ?_
 refine k8 _ _ ?_
 try clear k8 K8
 refine wp_cond_false rfl ?_
 refine wp_seq_k (fun K12 k12=>?_)
 refine rg [0,1,2,3,4,5,6] ?_
 refine sv 41 (.bool true) ?_
 refine sv 42 (.bool true) ?_
 refine sv 43 (.string ⟨(D:List UInt8).toArray⟩) ?_
 refine se ?_
 refine ec 44 (trim_any0 (D) (by omega) _) ?_
 rintro e13 w13 ⟨rfl,g13⟩
 refine ⟨_,rfl,?_⟩
 replace hB:=hB.trans g13
 simp only [p3,p4]
 refine sw 45 (.bool true) rfl (RunV.bool (x:=((Lib.trimS (D) [48])==([]:List UInt8))) (rv_seq 9 9 _ _ (Lib.trimS (D) [48]) ([]) rfl rfl rfl) h4) ?_
 refine sv 46 (.bool true) ?_
 refine sv 40 (.bool true) ?_
 refine sq_nil ?_
 refine k12 _ _ ?_
 try clear k12 K12
 refine wp_cond_true rfl ?_
 refine wp_seq_k (fun K14 k14=>?_)
 refine rg [0,1,2] ?_
 refine sv 47 (.agg #[(.bool false),(.slice none 0 0),(.bool false),(.slice none 0 0)]) ?_
 refine se ?_
 replace L2:=L2.gr (g5.trans (g9.trans (g10.trans (g11.trans g13))))
 refine es 33 0 (.agg #[(.bool false),(.slice none 0 0),(.bool false),(.slice none 0 0)]) [(.bool false),(.slice none 0 0),(.bool false),(.slice none 0 0)] #[(.bool false),(.slice none 0 0),(.bool false),(.slice none 0 0)] L2 hB q2 ⟨rfl,rfl,rfl,rfl,trivial⟩ fun w15 st15 kp15 L2 hB=>?_
 refine sv 5 (.int .i64 19) ?_
 refine sq_nil ?_
 refine k14 _ _ ?_
 try clear k14 K14
 refine wp_ret ?_
 simp only [Exit.then,Exit.inBlock]
 refine bodyPost_ret (v:=(.tuple #[(.agg #[(.bool false),(.slice none 0 0),(.bool false),(.slice none 0 0)]),(.int .i64 19)])) (ret_cell_tmp' _ _ _ rfl rfl L2 (by kernel_rfl) rfl) rfl ⟨?_,hB⟩
 exact rfl

set_option maxRecDepth 100000 in
set_option maxHeartbeats 1000000 in
theorem read_fb1 (X A D:List UInt8) (most:Int) (_hx:X.length≤14000) (_hlong:(X.length:Int)≤most) (hc:cutL X=(A,some D)) (_hA:(A).length≤X.length) (_hD:D.length≤X.length) (h1:allD (strip A)=true) (h2:allD D=true) (h3:zerosL D=false) (h5:badZ A=true) (w:World) (hm:Mx w):
    Calls Tryz.prog 47 #[(.string ⟨(X:List UInt8).toArray⟩),(.int .i64 (most))] w fun e w'=>e=.returned (.tuple #[.agg #[.bool false,.slice none 0 0,.bool false,.slice none 0 0],.int .i64 3])∧Gr w w':=by
 have hl:decide (most<((X).length:Int))=false:=by simp;omega
 have hsA:(strip (A)).length≤(A).length:=strip_len _
 have h4:((Lib.trimS (D) [48])==([]:List UInt8))=false:=by rw [← zeros_trim];exact h3
 go_enter Tryz.func47,Tryz.ntmps47
 have hB:=Gr.refl w
 refine wp_seq_k (fun K1 k1=>?_)
 refine rg [0,1] ?_
 refine se ?_
 refine ea 33 #[(.bool false),(.slice none 0 0),(.bool false),(.slice none 0 0)] 4 hB fun b2 w2 g2 L2 o2 q2 hB=>?_
 simp only [p3,p4]
 refine sv 5 (.int .i64 0) ?_
 refine sq_nil ?_
 refine k1 _ _ ?_
 try clear k1 K1
 refine wp_seq_k (fun K3 k3=>?_)
 refine rg [0,1] ?_
 refine sv 13 (.string ⟨(X:List UInt8).toArray⟩) ?_
 refine sv 6 (.string ⟨(X:List UInt8).toArray⟩) ?_
 refine sq_nil ?_
 refine k3 _ _ ?_
 try clear k3 K3
 refine wp_seq_k (fun K4 k4=>?_)
 refine rg [0,1,2,3,4,5,6,7,8] ?_
 refine sv 15 (.string ⟨(X:List UInt8).toArray⟩) ?_
 refine se ?_
 refine ec 16 (cut_yes (X) (A) (D) (by omega) hc (hm.gr hB)) ?_
 rintro e5 w5 ⟨rfl,g5⟩
 refine ⟨_,rfl,?_⟩
 replace hB:=hB.trans g5
 simp only [p3,p4]
 refine sv 14 (.tuple #[(.string ⟨(A:List UInt8).toArray⟩),(.string ⟨(D:List UInt8).toArray⟩),(.bool true)]) ?_
 refine sv 17 (.string ⟨(A:List UInt8).toArray⟩) ?_
 refine sv 18 (.string ⟨(D:List UInt8).toArray⟩) ?_
 refine sv 19 (.bool true) ?_
 refine sv 7 (.string ⟨(A:List UInt8).toArray⟩) ?_
 refine sv 8 (.string ⟨(D:List UInt8).toArray⟩) ?_
 refine sv 9 (.bool true) ?_
 refine sq_nil ?_
 refine k4 _ _ ?_
 try clear k4 K4
 refine wp_seq_k (fun K6 k6=>?_)
 refine wp_block ?_
 refine wp_seq_k (fun K7 k7=>?_)
 refine rg [0,1,2,3,4] ?_
 refine sv 21 (.string ⟨(X:List UInt8).toArray⟩) ?_
 refine sv 22 (.int .i64 (((X).length:Int))) ?_
 refine sv 23 (.int .i64 (most)) ?_
 refine sw 24 (.bool false) rfl (RunV.bool (x:=decide (most<((X).length:Int))) (rvk (by kernel_rfl)) hl) ?_
 refine sv 20 (.bool false) ?_
 refine sq_nil ?_
 refine k7 _ _ ?_
 try clear k7 K7
 refine wp_cond_false rfl ?_
 refine wp_seq_k (fun K8 k8=>?_)
 refine rg [0,1,2,3,4,5,6,7,8,9,10,11,12] ?_
 refine sv 27 (.string ⟨(A:List UInt8).toArray⟩) ?_
 refine se ?_
 refine ec 28 (trimprefix_any (A) _) ?_
 rintro e9 w9 ⟨rfl,g9⟩
 refine ⟨_,rfl,?_⟩
 replace hB:=hB.trans g9
 simp only [p3,p4]
 refine se ?_
 refine ec 29 (rdigits_a (strip (A)) (by omega) _) ?_
 rintro e10 w10 ⟨rfl,g10⟩
 refine ⟨_,rfl,?_⟩
 replace hB:=hB.trans g10
 simp only [p3,p4]
 refine sw 30 (.bool false) rfl (RunV.bool (x:=!(allD (strip (A)))) (rvk (by kernel_rfl)) (show (!(allD (strip (A))))=false by rw [h1];rfl)) ?_
 refine sv 31 (.bool false) ?_
 refine sv 32 (.bool true) ?_
 refine sv 33 (.bool true) ?_
 refine sv 34 (.string ⟨(D:List UInt8).toArray⟩) ?_
 refine se ?_
 refine ec 35 (rdigits_a (D) (by omega) _) ?_
 rintro e11 w11 ⟨rfl,g11⟩
 refine ⟨_,rfl,?_⟩
 replace hB:=hB.trans g11
 simp only [p3,p4]
 refine sw 36 (.bool false) rfl (RunV.bool (x:=!(allD (D))) (rvk (by kernel_rfl)) (show (!(allD (D)))=false by rw [h2];rfl)) ?_
 refine sv 37 (.bool false) ?_
 refine sv 38 (.bool false) ?_
 refine sv 26 (.bool false) ?_
 refine sq_nil ?_
 refine k8 _ _ ?_
 try clear k8 K8
 refine wp_cond_false rfl ?_
 refine wp_seq_k (fun K12 k12=>?_)
 refine rg [0,1,2,3,4,5,6] ?_
 refine sv 41 (.bool true) ?_
 refine sv 42 (.bool true) ?_
 refine sv 43 (.string ⟨(D:List UInt8).toArray⟩) ?_
 refine se ?_
 refine ec 44 (trim_any0 (D) (by omega) _) ?_
 rintro e13 w13 ⟨rfl,g13⟩
 refine ⟨_,rfl,?_⟩
 replace hB:=hB.trans g13
 simp only [p3,p4]
 refine sw 45 (.bool false) rfl (RunV.bool (x:=((Lib.trimS (D) [48])==([]:List UInt8))) (rv_seq 9 9 _ _ (Lib.trimS (D) [48]) ([]) rfl rfl rfl) h4) ?_
 refine sv 46 (.bool false) ?_
 refine sv 40 (.bool false) ?_
 refine sq_nil ?_
 refine k12 _ _ ?_
 try clear k12 K12
 refine wp_cond_false rfl ?_
 refine wp_skip ?_
 refine k6 _ _ ?_
 try clear k6 K6
 refine wp_seq_k (fun K14 k14=>?_)
 refine rg [0,1,2,3,4,5,6,7] ?_
 refine sv 49 (.string ⟨(A:List UInt8).toArray⟩) ?_
 refine se ?_
 refine ec 50 (parse_bad (A) (by omega) h1 h5 _) ?_
 rintro e15 w15 ⟨rfl,g15⟩
 refine ⟨_,rfl,?_⟩
 replace hB:=hB.trans g15
 simp only [p3,p4]
 refine sv 48 (.tuple #[(.agg #[(.bool false),(.slice none 0 0)]),(.int .i64 3)]) ?_
 refine sv 51 (.agg #[(.bool false),(.slice none 0 0)]) ?_
 refine sv 52 (.int .i64 3) ?_
 refine se ?_
 refine ea 31 #[(.bool false),(.slice none 0 0)] 10 hB fun b16 w16 g16 L16 o16 q16 hB=>?_
 replace L2:=L2.gr (g5.trans (g9.trans (g10.trans (g11.trans (g13.trans g15)))))
 have ne2_16:=L2.ne o16
 simp only [p3,p4]
 refine se ?_
 refine es 31 0 (.agg #[(.bool false),(.slice none 0 0)]) [(.bool false),(.slice none 0 0)] #[(.bool false),(.slice none 0 0)] L16 hB q16 ⟨rfl,rfl,trivial⟩ fun w17 st17 kp17 L16 hB=>?_
 refine sv 11 (.int .i64 3) ?_
 refine sq_nil ?_
 refine k14 _ _ ?_
 try clear k14 K14
 refine wp_seq_k (fun K18 k18=>?_)
 refine wp_seq_k (fun K19 k19=>?_)
 refine rg [0,1] ?_
 refine sv 53 (.int .i64 3) ?_
 refine sv 54 (.bool true) ?_
 refine sq_nil ?_
 refine k19 _ _ ?_
 try clear k19 K19
 refine wp_cond_true rfl ?_
 refine wp_seq_k (fun K20 k20=>?_)
 refine rg [0,1,2] ?_
 refine sv 55 (.agg #[(.bool false),(.slice none 0 0),(.bool false),(.slice none 0 0)]) ?_
 refine se ?_
 replace L2:=st17.lc (L2.gr g16) ne2_16
 refine es 33 0 (.agg #[(.bool false),(.slice none 0 0),(.bool false),(.slice none 0 0)]) [(.bool false),(.slice none 0 0),(.bool false),(.slice none 0 0)] #[(.bool false),(.slice none 0 0),(.bool false),(.slice none 0 0)] L2 hB q2 ⟨rfl,rfl,rfl,rfl,trivial⟩ fun w21 st21 kp21 L2 hB=>?_
 refine sv 5 (.int .i64 3) ?_
 refine sq_nil ?_
 refine k20 _ _ ?_
 try clear k20 K20
 refine wp_ret ?_
 simp only [Exit.then]
 refine bodyPost_ret (v:=(.tuple #[(.agg #[(.bool false),(.slice none 0 0),(.bool false),(.slice none 0 0)]),(.int .i64 3)])) (ret_cell_tmp' _ _ _ rfl rfl L2 (by kernel_rfl) rfl) rfl ⟨?_,hB⟩
 exact rfl

set_option maxRecDepth 100000 in
set_option maxHeartbeats 1000000 in
theorem read_fb2 (X D:List UInt8) (z:Int) (most:Int) (_hx:X.length≤14000) (_hlong:(X.length:Int)≤most) (hc:cutL X=(Lib.itoa (z),some D)) (_hA:(Lib.itoa (z)).length≤X.length) (_hD:D.length≤X.length) (h2:allD D=true) (h2b:allD (strip D)=true) (h3:zerosL D=false) (h5:badZ D=true) (w:World) (hm:Mx w):
    Calls Tryz.prog 47 #[(.string ⟨(X:List UInt8).toArray⟩),(.int .i64 (most))] w fun e w'=>e=.returned (.tuple #[.agg #[.bool false,.slice none 0 0,.bool false,.slice none 0 0],.int .i64 3])∧Gr w w':=by
 have hl:decide (most<((X).length:Int))=false:=by simp;omega
 have hsA:(strip (Lib.itoa (z))).length≤(Lib.itoa (z)).length:=strip_len _
 have h1:allD (strip (Lib.itoa (z)))=true:=by rw [strip_itoa];exact allD_dec _
 have h4:((Lib.trimS (D) [48])==([]:List UInt8))=false:=by rw [← zeros_trim];exact h3
 go_enter Tryz.func47,Tryz.ntmps47
 have hB:=Gr.refl w
 refine wp_seq_k (fun K1 k1=>?_)
 refine rg [0,1] ?_
 refine se ?_
 refine ea 33 #[(.bool false),(.slice none 0 0),(.bool false),(.slice none 0 0)] 4 hB fun b2 w2 g2 L2 o2 q2 hB=>?_
 simp only [p3,p4]
 refine sv 5 (.int .i64 0) ?_
 refine sq_nil ?_
 refine k1 _ _ ?_
 try clear k1 K1
 refine wp_seq_k (fun K3 k3=>?_)
 refine rg [0,1] ?_
 refine sv 13 (.string ⟨(X:List UInt8).toArray⟩) ?_
 refine sv 6 (.string ⟨(X:List UInt8).toArray⟩) ?_
 refine sq_nil ?_
 refine k3 _ _ ?_
 try clear k3 K3
 refine wp_seq_k (fun K4 k4=>?_)
 refine rg [0,1,2,3,4,5,6,7,8] ?_
 refine sv 15 (.string ⟨(X:List UInt8).toArray⟩) ?_
 refine se ?_
 refine ec 16 (cut_yes (X) (Lib.itoa (z)) (D) (by omega) hc (hm.gr hB)) ?_
 rintro e5 w5 ⟨rfl,g5⟩
 refine ⟨_,rfl,?_⟩
 replace hB:=hB.trans g5
 simp only [p3,p4]
 refine sv 14 (.tuple #[(.string ⟨(Lib.itoa (z):List UInt8).toArray⟩),(.string ⟨(D:List UInt8).toArray⟩),(.bool true)]) ?_
 refine sv 17 (.string ⟨(Lib.itoa (z):List UInt8).toArray⟩) ?_
 refine sv 18 (.string ⟨(D:List UInt8).toArray⟩) ?_
 refine sv 19 (.bool true) ?_
 refine sv 7 (.string ⟨(Lib.itoa (z):List UInt8).toArray⟩) ?_
 refine sv 8 (.string ⟨(D:List UInt8).toArray⟩) ?_
 refine sv 9 (.bool true) ?_
 refine sq_nil ?_
 refine k4 _ _ ?_
 try clear k4 K4
 refine wp_seq_k (fun K6 k6=>?_)
 refine wp_block ?_
 refine wp_seq_k (fun K7 k7=>?_)
 refine rg [0,1,2,3,4] ?_
 refine sv 21 (.string ⟨(X:List UInt8).toArray⟩) ?_
 refine sv 22 (.int .i64 (((X).length:Int))) ?_
 refine sv 23 (.int .i64 (most)) ?_
 refine sw 24 (.bool false) rfl (RunV.bool (x:=decide (most<((X).length:Int))) (rvk (by kernel_rfl)) hl) ?_
 refine sv 20 (.bool false) ?_
 refine sq_nil ?_
 refine k7 _ _ ?_
 try clear k7 K7
 refine wp_cond_false rfl ?_
 refine wp_seq_k (fun K8 k8=>?_)
 refine rg [0,1,2,3,4,5,6,7,8,9,10,11,12] ?_
 refine sv 27 (.string ⟨(Lib.itoa (z):List UInt8).toArray⟩) ?_
 refine se ?_
 refine ec 28 (trimprefix_any (Lib.itoa (z)) _) ?_
 rintro e9 w9 ⟨rfl,g9⟩
 refine ⟨_,rfl,?_⟩
 replace hB:=hB.trans g9
 simp only [p3,p4]
 refine se ?_
 refine ec 29 (rdigits_a (strip (Lib.itoa (z))) (by omega) _) ?_
 rintro e10 w10 ⟨rfl,g10⟩
 refine ⟨_,rfl,?_⟩
 replace hB:=hB.trans g10
 simp only [p3,p4]
 refine sw 30 (.bool false) rfl (RunV.bool (x:=!(allD (strip (Lib.itoa (z))))) (rvk (by kernel_rfl)) (show (!(allD (strip (Lib.itoa (z)))))=false by rw [h1];rfl)) ?_
 refine sv 31 (.bool false) ?_
 refine sv 32 (.bool true) ?_
 refine sv 33 (.bool true) ?_
 refine sv 34 (.string ⟨(D:List UInt8).toArray⟩) ?_
 refine se ?_
 refine ec 35 (rdigits_a (D) (by omega) _) ?_
 rintro e11 w11 ⟨rfl,g11⟩
 refine ⟨_,rfl,?_⟩
 replace hB:=hB.trans g11
 simp only [p3,p4]
 refine sw 36 (.bool false) rfl (RunV.bool (x:=!(allD (D))) (rvk (by kernel_rfl)) (show (!(allD (D)))=false by rw [h2];rfl)) ?_
 refine sv 37 (.bool false) ?_
 refine sv 38 (.bool false) ?_
 refine sv 26 (.bool false) ?_
 refine sq_nil ?_
 refine k8 _ _ ?_
 try clear k8 K8
 refine wp_cond_false rfl ?_
 refine wp_seq_k (fun K12 k12=>?_)
 refine rg [0,1,2,3,4,5,6] ?_
 refine sv 41 (.bool true) ?_
 refine sv 42 (.bool true) ?_
 refine sv 43 (.string ⟨(D:List UInt8).toArray⟩) ?_
 refine se ?_
 refine ec 44 (trim_any0 (D) (by omega) _) ?_
 rintro e13 w13 ⟨rfl,g13⟩
 refine ⟨_,rfl,?_⟩
 replace hB:=hB.trans g13
 simp only [p3,p4]
 refine sw 45 (.bool false) rfl (RunV.bool (x:=((Lib.trimS (D) [48])==([]:List UInt8))) (rv_seq 9 9 _ _ (Lib.trimS (D) [48]) ([]) rfl rfl rfl) h4) ?_
 refine sv 46 (.bool false) ?_
 refine sv 40 (.bool false) ?_
 refine sq_nil ?_
 refine k12 _ _ ?_
 try clear k12 K12
 refine wp_cond_false rfl ?_
 refine wp_skip ?_
 refine k6 _ _ ?_
 try clear k6 K6
 refine wp_seq_k (fun K14 k14=>?_)
 refine rg [0,1,2,3,4,5,6,7] ?_
 refine sv 49 (.string ⟨(Lib.itoa (z):List UInt8).toArray⟩) ?_
 refine se ?_
 refine ec 50 (parse_i (z) (itoa_sz (z) (m:=14000) (by omega)) (by omega) _) ?_
 rintro e15 w15 ⟨⟨x15,y15,rfl,h15⟩,g15⟩
 refine ⟨_,rfl,?_⟩
 replace hB:=hB.trans g15
 simp only [p3,p4]
 refine sv 48 (.tuple #[(.agg #[x15,y15]),(.int .i64 0)]) ?_
 refine sv 51 (.agg #[x15,y15]) ?_
 refine sv 52 (.int .i64 0) ?_
 refine se ?_
 refine ea 31 #[(.bool false),(.slice none 0 0)] 10 hB fun b16 w16 g16 L16 o16 q16 hB=>?_
 replace L2:=L2.gr (g5.trans (g9.trans (g10.trans (g11.trans (g13.trans g15)))))
 have ne2_16:=L2.ne o16
 simp only [p3,p4]
 refine se ?_
 refine es 31 0 (.agg #[x15,y15]) [x15,y15] #[x15,y15] L16 hB q16 ⟨h15.one0,h15.one1,trivial⟩ fun w17 st17 kp17 L16 hB=>?_
 refine sv 11 (.int .i64 0) ?_
 refine sq_nil ?_
 refine k14 _ _ ?_
 try clear k14 K14
 refine wp_seq_k (fun K18 k18=>?_)
 refine wp_seq_k (fun K19 k19=>?_)
 refine rg [0,1] ?_
 refine sv 53 (.int .i64 0) ?_
 refine sv 54 (.bool false) ?_
 refine sq_nil ?_
 refine k19 _ _ ?_
 try clear k19 K19
 refine wp_cond_false rfl ?_
 refine wp_skip ?_
 refine k18 _ _ ?_
 try clear k18 K18
 refine wp_seq_k (fun K20 k20=>?_)
 refine wp_seq_k (fun K21 k21=>?_)
 refine rg [0,1] ?_
 refine sv 56 (.bool true) ?_
 refine sv 57 (.bool false) ?_
 refine sq_nil ?_
 refine k21 _ _ ?_
 try clear k21 K21
 refine wp_cond_false rfl ?_
 refine wp_skip ?_
 refine k20 _ _ ?_
 try clear k20 K20
 refine wp_seq_k (fun K22 k22=>?_)
 refine rg [0,1,2,3,4,5,6,7] ?_
 refine sv 61 (.string ⟨(D:List UInt8).toArray⟩) ?_
 refine se ?_
 refine ec 62 (parse_bad (D) (by omega) h2b h5 _) ?_
 rintro e23 w23 ⟨rfl,g23⟩
 refine ⟨_,rfl,?_⟩
 replace hB:=hB.trans g23
 simp only [p3,p4]
 refine sv 60 (.tuple #[(.agg #[(.bool false),(.slice none 0 0)]),(.int .i64 3)]) ?_
 refine sv 63 (.agg #[(.bool false),(.slice none 0 0)]) ?_
 refine sv 64 (.int .i64 3) ?_
 refine se ?_
 refine ea 31 #[(.bool false),(.slice none 0 0)] 12 hB fun b24 w24 g24 L24 o24 q24 hB=>?_
 replace L2:=(st17.lc (L2.gr g16) ne2_16).gr g23
 have ne2_24:=L2.ne o24
 replace L16:=L16.gr g23
 have ne16_24:=L16.ne o24
 simp only [p3,p4]
 refine se ?_
 refine es 31 0 (.agg #[(.bool false),(.slice none 0 0)]) [(.bool false),(.slice none 0 0)] #[(.bool false),(.slice none 0 0)] L24 hB q24 ⟨rfl,rfl,trivial⟩ fun w25 st25 kp25 L24 hB=>?_
 refine sv 11 (.int .i64 3) ?_
 refine sq_nil ?_
 refine k22 _ _ ?_
 try clear k22 K22
 refine wp_seq_k (fun K26 k26=>?_)
 refine wp_seq_k (fun K27 k27=>?_)
 have gd29:=Gr.drew w25
 replace hB:=hB.trans gd29
 replace L16:=(st25.lc (L16.gr g24) ne16_24).gr gd29
 replace L24:=L24.gr gd29
 refine wp_region_ord (fun w'=>Lc w' b16 #[x15,y15] 31∧Lc w' b24 #[(.bool false),(.slice none 0 0)] 31) [(true,0),(true,1),(true,2),(true,3),(false,4),(false,5),(true,6),(true,7),(true,8),(true,9),(true,10),(false,11),(false,12),(false,13),(true,14),(true,15)] (by kernel_rfl) (by kernel_rfl) (by kernel_rfl) (by decide) (fun _ _ _ _ _ h=>h) ⟨L16,L24⟩ ?_
 refine ov 65 (.int .i64 3) ?_
 refine ov 66 (.bool true) ?_
 refine ov 67 (.bool true) ?_
 refine os 68 ?_
 refine oz 69 ⟨L16,L24⟩ ?_
 refine oz 70 ⟨L16,L24⟩ ?_
 refine os 71 ?_
 refine ov 72 (.bool true) ?_
 refine ov 73 (.bool true) ?_
 refine os 74 ?_
 refine os 75 ?_
 refine oz 76 ⟨L16,L24⟩ ?_
 refine oz 77 ⟨L16,L24⟩ ?_
 refine oz 78 ⟨L16,L24⟩ ?_
 refine os 79 ?_
 refine ov 80 (.bool true) ?_
 refine ord_nil ?_
 refine k27 _ _ ?_
 try clear k27 K27
 refine wp_cond_true rfl ?_
 refine wp_seq_k (fun K30 k30=>?_)
 refine rg [0,1,2] ?_
 refine sv 81 (.agg #[(.bool false),(.slice none 0 0),(.bool false),(.slice none 0 0)]) ?_
 refine se ?_
 replace L2:=(st25.lc (L2.gr g24) ne2_24).gr gd29
 refine es 33 0 (.agg #[(.bool false),(.slice none 0 0),(.bool false),(.slice none 0 0)]) [(.bool false),(.slice none 0 0),(.bool false),(.slice none 0 0)] #[(.bool false),(.slice none 0 0),(.bool false),(.slice none 0 0)] L2 hB q2 ⟨rfl,rfl,rfl,rfl,trivial⟩ fun w31 st31 kp31 L2 hB=>?_
 refine sv 5 (.int .i64 3) ?_
 refine sq_nil ?_
 refine k30 _ _ ?_
 try clear k30 K30
 refine wp_ret ?_
 simp only [Exit.then]
 refine bodyPost_ret (v:=(.tuple #[(.agg #[(.bool false),(.slice none 0 0),(.bool false),(.slice none 0 0)]),(.int .i64 3)])) (ret_cell_tmp' _ _ _ rfl rfl L2 (by kernel_rfl) rfl) rfl ⟨?_,hB⟩
 exact rfl

set_option maxRecDepth 100000 in
set_option maxHeartbeats 1000000 in
theorem read_g1 (X:List UInt8) (z d:Int) (most:Int) (_hx:X.length≤14000) (_hlong:(X.length:Int)≤most) (hc:cutL X=(Lib.itoa (z),some (Lib.itoa (d)))) (_hA:(Lib.itoa (z)).length≤X.length) (_hD:(Lib.itoa (d)).length≤X.length) (h2:allD (Lib.itoa d)=true) (h3:zerosL (Lib.itoa d)=false) (h5:d=1) (w:World) (hm:Mx w):
    Calls Tryz.prog 47 #[(.string ⟨(X:List UInt8).toArray⟩),(.int .i64 (most))] w fun e w'=>e=.returned (.tuple #[.agg #[.bool false,.slice none 0 0,.bool false,.slice none 0 0],.int .i64 3])∧Gr w w':=by
 have hl:decide (most<((X).length:Int))=false:=by simp;omega
 have hsA:(strip (Lib.itoa (z))).length≤(Lib.itoa (z)).length:=strip_len _
 have h1:allD (strip (Lib.itoa (z)))=true:=by rw [strip_itoa];exact allD_dec _
 have h4:((Lib.trimS (Lib.itoa (d)) [48])==([]:List UInt8))=false:=by rw [← zeros_trim];exact h3
 have h6:(sgn (d - 1)==(0:Int))=true:=by rw [h5];rfl
 go_enter Tryz.func47,Tryz.ntmps47
 have hB:=Gr.refl w
 refine wp_seq_k (fun K1 k1=>?_)
 refine rg [0,1] ?_
 refine se ?_
 refine ea 33 #[(.bool false),(.slice none 0 0),(.bool false),(.slice none 0 0)] 4 hB fun b2 w2 g2 L2 o2 q2 hB=>?_
 simp only [p3,p4]
 refine sv 5 (.int .i64 0) ?_
 refine sq_nil ?_
 refine k1 _ _ ?_
 try clear k1 K1
 refine wp_seq_k (fun K3 k3=>?_)
 refine rg [0,1] ?_
 refine sv 13 (.string ⟨(X:List UInt8).toArray⟩) ?_
 refine sv 6 (.string ⟨(X:List UInt8).toArray⟩) ?_
 refine sq_nil ?_
 refine k3 _ _ ?_
 try clear k3 K3
 refine wp_seq_k (fun K4 k4=>?_)
 refine rg [0,1,2,3,4,5,6,7,8] ?_
 refine sv 15 (.string ⟨(X:List UInt8).toArray⟩) ?_
 refine se ?_
 refine ec 16 (cut_yes (X) (Lib.itoa (z)) (Lib.itoa (d)) (by omega) hc (hm.gr hB)) ?_
 rintro e5 w5 ⟨rfl,g5⟩
 refine ⟨_,rfl,?_⟩
 replace hB:=hB.trans g5
 simp only [p3,p4]
 refine sv 14 (.tuple #[(.string ⟨(Lib.itoa (z):List UInt8).toArray⟩),(.string ⟨(Lib.itoa (d):List UInt8).toArray⟩),(.bool true)]) ?_
 refine sv 17 (.string ⟨(Lib.itoa (z):List UInt8).toArray⟩) ?_
 refine sv 18 (.string ⟨(Lib.itoa (d):List UInt8).toArray⟩) ?_
 refine sv 19 (.bool true) ?_
 refine sv 7 (.string ⟨(Lib.itoa (z):List UInt8).toArray⟩) ?_
 refine sv 8 (.string ⟨(Lib.itoa (d):List UInt8).toArray⟩) ?_
 refine sv 9 (.bool true) ?_
 refine sq_nil ?_
 refine k4 _ _ ?_
 try clear k4 K4
 refine wp_seq_k (fun K6 k6=>?_)
 refine wp_block ?_
 refine wp_seq_k (fun K7 k7=>?_)
 refine rg [0,1,2,3,4] ?_
 refine sv 21 (.string ⟨(X:List UInt8).toArray⟩) ?_
 refine sv 22 (.int .i64 (((X).length:Int))) ?_
 refine sv 23 (.int .i64 (most)) ?_
 refine sw 24 (.bool false) rfl (RunV.bool (x:=decide (most<((X).length:Int))) (rvk (by kernel_rfl)) hl) ?_
 refine sv 20 (.bool false) ?_
 refine sq_nil ?_
 refine k7 _ _ ?_
 try clear k7 K7
 refine wp_cond_false rfl ?_
 refine wp_seq_k (fun K8 k8=>?_)
 refine rg [0,1,2,3,4,5,6,7,8,9,10,11,12] ?_
 refine sv 27 (.string ⟨(Lib.itoa (z):List UInt8).toArray⟩) ?_
 refine se ?_
 refine ec 28 (trimprefix_any (Lib.itoa (z)) _) ?_
 rintro e9 w9 ⟨rfl,g9⟩
 refine ⟨_,rfl,?_⟩
 replace hB:=hB.trans g9
 simp only [p3,p4]
 refine se ?_
 refine ec 29 (rdigits_a (strip (Lib.itoa (z))) (by omega) _) ?_
 rintro e10 w10 ⟨rfl,g10⟩
 refine ⟨_,rfl,?_⟩
 replace hB:=hB.trans g10
 simp only [p3,p4]
 refine sw 30 (.bool false) rfl (RunV.bool (x:=!(allD (strip (Lib.itoa (z))))) (rvk (by kernel_rfl)) (show (!(allD (strip (Lib.itoa (z)))))=false by rw [h1];rfl)) ?_
 refine sv 31 (.bool false) ?_
 refine sv 32 (.bool true) ?_
 refine sv 33 (.bool true) ?_
 refine sv 34 (.string ⟨(Lib.itoa (d):List UInt8).toArray⟩) ?_
 refine se ?_
 refine ec 35 (rdigits_a (Lib.itoa (d)) (by omega) _) ?_
 rintro e11 w11 ⟨rfl,g11⟩
 refine ⟨_,rfl,?_⟩
 replace hB:=hB.trans g11
 simp only [p3,p4]
 refine sw 36 (.bool false) rfl (RunV.bool (x:=!(allD (Lib.itoa (d)))) (rvk (by kernel_rfl)) (show (!(allD (Lib.itoa (d))))=false by rw [h2];rfl)) ?_
 refine sv 37 (.bool false) ?_
 refine sv 38 (.bool false) ?_
 refine sv 26 (.bool false) ?_
 refine sq_nil ?_
 refine k8 _ _ ?_
 try clear k8 K8
 refine wp_cond_false rfl ?_
 refine wp_seq_k (fun K12 k12=>?_)
 refine rg [0,1,2,3,4,5,6] ?_
 refine sv 41 (.bool true) ?_
 refine sv 42 (.bool true) ?_
 refine sv 43 (.string ⟨(Lib.itoa (d):List UInt8).toArray⟩) ?_
 refine se ?_
 refine ec 44 (trim_any0 (Lib.itoa (d)) (by omega) _) ?_
 rintro e13 w13 ⟨rfl,g13⟩
 refine ⟨_,rfl,?_⟩
 replace hB:=hB.trans g13
 simp only [p3,p4]
 refine sw 45 (.bool false) rfl (RunV.bool (x:=((Lib.trimS (Lib.itoa (d)) [48])==([]:List UInt8))) (rv_seq 9 9 _ _ (Lib.trimS (Lib.itoa (d)) [48]) ([]) rfl rfl rfl) h4) ?_
 refine sv 46 (.bool false) ?_
 refine sv 40 (.bool false) ?_
 refine sq_nil ?_
 refine k12 _ _ ?_
 try clear k12 K12
 refine wp_cond_false rfl ?_
 refine wp_skip ?_
 refine k6 _ _ ?_
 try clear k6 K6
 refine wp_seq_k (fun K14 k14=>?_)
 refine rg [0,1,2,3,4,5,6,7] ?_
 refine sv 49 (.string ⟨(Lib.itoa (z):List UInt8).toArray⟩) ?_
 refine se ?_
 refine ec 50 (parse_i (z) (itoa_sz (z) (m:=14000) (by omega)) (by omega) _) ?_
 rintro e15 w15 ⟨⟨x15,y15,rfl,h15⟩,g15⟩
 refine ⟨_,rfl,?_⟩
 replace hB:=hB.trans g15
 simp only [p3,p4]
 refine sv 48 (.tuple #[(.agg #[x15,y15]),(.int .i64 0)]) ?_
 refine sv 51 (.agg #[x15,y15]) ?_
 refine sv 52 (.int .i64 0) ?_
 refine se ?_
 refine ea 31 #[(.bool false),(.slice none 0 0)] 10 hB fun b16 w16 g16 L16 o16 q16 hB=>?_
 replace L2:=L2.gr (g5.trans (g9.trans (g10.trans (g11.trans (g13.trans g15)))))
 have ne2_16:=L2.ne o16
 simp only [p3,p4]
 refine se ?_
 refine es 31 0 (.agg #[x15,y15]) [x15,y15] #[x15,y15] L16 hB q16 ⟨h15.one0,h15.one1,trivial⟩ fun w17 st17 kp17 L16 hB=>?_
 refine sv 11 (.int .i64 0) ?_
 refine sq_nil ?_
 refine k14 _ _ ?_
 try clear k14 K14
 refine wp_seq_k (fun K18 k18=>?_)
 refine wp_seq_k (fun K19 k19=>?_)
 refine rg [0,1] ?_
 refine sv 53 (.int .i64 0) ?_
 refine sv 54 (.bool false) ?_
 refine sq_nil ?_
 refine k19 _ _ ?_
 try clear k19 K19
 refine wp_cond_false rfl ?_
 refine wp_skip ?_
 refine k18 _ _ ?_
 try clear k18 K18
 refine wp_seq_k (fun K20 k20=>?_)
 refine wp_seq_k (fun K21 k21=>?_)
 refine rg [0,1] ?_
 refine sv 56 (.bool true) ?_
 refine sv 57 (.bool false) ?_
 refine sq_nil ?_
 refine k21 _ _ ?_
 try clear k21 K21
 refine wp_cond_false rfl ?_
 refine wp_skip ?_
 refine k20 _ _ ?_
 try clear k20 K20
 refine wp_seq_k (fun K22 k22=>?_)
 refine rg [0,1,2,3,4,5,6,7] ?_
 refine sv 61 (.string ⟨(Lib.itoa (d):List UInt8).toArray⟩) ?_
 refine se ?_
 refine ec 62 (parse_i (d) (itoa_sz (d) (m:=14000) (by omega)) (by omega) _) ?_
 rintro e23 w23 ⟨⟨x23,y23,rfl,h23⟩,g23⟩
 refine ⟨_,rfl,?_⟩
 replace hB:=hB.trans g23
 simp only [p3,p4]
 refine sv 60 (.tuple #[(.agg #[x23,y23]),(.int .i64 0)]) ?_
 refine sv 63 (.agg #[x23,y23]) ?_
 refine sv 64 (.int .i64 0) ?_
 refine se ?_
 refine ea 31 #[(.bool false),(.slice none 0 0)] 12 hB fun b24 w24 g24 L24 o24 q24 hB=>?_
 replace L2:=(st17.lc (L2.gr g16) ne2_16).gr g23
 have ne2_24:=L2.ne o24
 replace L16:=L16.gr g23
 have ne16_24:=L16.ne o24
 simp only [p3,p4]
 refine se ?_
 refine es 31 0 (.agg #[x23,y23]) [x23,y23] #[x23,y23] L24 hB q24 ⟨h23.one0,h23.one1,trivial⟩ fun w25 st25 kp25 L24 hB=>?_
 refine sv 11 (.int .i64 0) ?_
 refine sq_nil ?_
 refine k22 _ _ ?_
 try clear k22 K22
 refine wp_seq_k (fun K26 k26=>?_)
 refine wp_seq_k (fun K27 k27=>?_)
 have gd34:=Gr.drew w25
 replace hB:=hB.trans gd34
 replace L16:=(st25.lc (L16.gr g24) ne16_24).gr gd34
 replace L24:=L24.gr gd34
 refine wp_region_ord (fun w'=>Lc w' b16 #[x15,y15] 31∧Lc w' b24 #[x23,y23] 31) [(true,0),(true,1),(true,2),(true,3),(false,4),(false,5),(true,6),(true,7),(true,8),(true,9),(true,10),(false,11),(false,12),(false,13),(true,14),(true,15)] (by kernel_rfl) (by kernel_rfl) (by kernel_rfl) (by decide) (fun _ _ _ _ _ h=>h) ⟨L16,L24⟩ ?_
 refine ov 65 (.int .i64 0) ?_
 refine ov 66 (.bool false) ?_
 refine ov 67 (.bool false) ?_
 refine ow 68 (.agg #[x23,y23]) rfl (fun w' hS=>(rl 31 0 [x23,y23] hS.2)) ?_
 refine oe ?_
 refine ec 69 (one_i _) ?_
 rintro e36 w36 ⟨⟨x36,y36,rfl,h36⟩,g36⟩
 refine ⟨_,rfl,?_⟩
 replace hB:=hB.trans g36
 replace L16:=L16.gr g36
 replace L24:=L24.gr g36
 refine ⟨⟨L16,L24⟩,?_⟩
 simp only [p3,p4]
 refine oe ?_
 have kq39:=g24.kp.trans (kp25.trans (gd34.kp.trans g36.kp))
 replace h23:=h23.kp kq39
 refine ec 70 (compare_i h23 h36 (by omega) (by omega)) ?_
 rintro e38 w38 ⟨rfl,g38⟩
 refine ⟨_,rfl,?_⟩
 replace hB:=hB.trans g38
 replace L16:=L16.gr g38
 replace L24:=L24.gr g38
 refine ⟨⟨L16,L24⟩,?_⟩
 simp only [p3,p4]
 refine ow 71 (.bool true) rfl (fun w' hS=>(RunV.bool (x:=(sgn (d - 1)==(0:Int))) (rvk (by kernel_rfl)) h6)) ?_
 refine ov 72 (.bool true) ?_
 refine ov 73 (.bool true) ?_
 refine os 74 ?_
 refine os 75 ?_
 refine oz 76 ⟨L16,L24⟩ ?_
 refine oz 77 ⟨L16,L24⟩ ?_
 refine oz 78 ⟨L16,L24⟩ ?_
 refine os 79 ?_
 refine ov 80 (.bool true) ?_
 refine ord_nil ?_
 refine k27 _ _ ?_
 try clear k27 K27
 refine wp_cond_true rfl ?_
 refine wp_seq_k (fun K40 k40=>?_)
 refine rg [0,1,2] ?_
 refine sv 81 (.agg #[(.bool false),(.slice none 0 0),(.bool false),(.slice none 0 0)]) ?_
 refine se ?_
 replace L2:=(st25.lc (L2.gr g24) ne2_24).gr (gd34.trans (g36.trans g38))
 refine es 33 0 (.agg #[(.bool false),(.slice none 0 0),(.bool false),(.slice none 0 0)]) [(.bool false),(.slice none 0 0),(.bool false),(.slice none 0 0)] #[(.bool false),(.slice none 0 0),(.bool false),(.slice none 0 0)] L2 hB q2 ⟨rfl,rfl,rfl,rfl,trivial⟩ fun w41 st41 kp41 L2 hB=>?_
 refine sv 5 (.int .i64 3) ?_
 refine sq_nil ?_
 refine k40 _ _ ?_
 try clear k40 K40
 refine wp_ret ?_
 simp only [Exit.then]
 refine bodyPost_ret (v:=(.tuple #[(.agg #[(.bool false),(.slice none 0 0),(.bool false),(.slice none 0 0)]),(.int .i64 3)])) (ret_cell_tmp' _ _ _ rfl rfl L2 (by kernel_rfl) rfl) rfl ⟨?_,hB⟩
 exact rfl

set_option maxRecDepth 100000 in
set_option maxHeartbeats 1000000 in
theorem read_g2 (X:List UInt8) (z d:Int) (most:Int) (_hx:X.length≤14000) (_hlong:(X.length:Int)≤most) (hc:cutL X=(Lib.itoa (z),some (Lib.itoa (d)))) (_hA:(Lib.itoa (z)).length≤X.length) (_hD:(Lib.itoa (d)).length≤X.length) (h2:allD (Lib.itoa d)=true) (h3:zerosL (Lib.itoa d)=false) (h5:d≠1) (h7:Int.gcd z d≠1) (w:World) (hm:Mx w):
    Calls Tryz.prog 47 #[(.string ⟨(X:List UInt8).toArray⟩),(.int .i64 (most))] w fun e w'=>e=.returned (.tuple #[.agg #[.bool false,.slice none 0 0,.bool false,.slice none 0 0],.int .i64 3])∧Gr w w':=by
 have hl:decide (most<((X).length:Int))=false:=by simp;omega
 have hsA:(strip (Lib.itoa (z))).length≤(Lib.itoa (z)).length:=strip_len _
 have h1:allD (strip (Lib.itoa (z)))=true:=by rw [strip_itoa];exact allD_dec _
 have h4:((Lib.trimS (Lib.itoa (d)) [48])==([]:List UInt8))=false:=by rw [← zeros_trim];exact h3
 have h6:(sgn (d - 1)==(0:Int))=false:=by rw [beq_eq_false_iff_ne];exact fun e=>h5 (by have:=sgn_eq_zero.1 e;omega)
 have h8:(sgn ((Int.gcd (z) (d):Int) - 1) !=(0:Int))=true:=by rw [bne_iff_ne];exact fun e=>h7 (by have:=sgn_eq_zero.1 e;omega)
 go_enter Tryz.func47,Tryz.ntmps47
 have hB:=Gr.refl w
 refine wp_seq_k (fun K1 k1=>?_)
 refine rg [0,1] ?_
 refine se ?_
 refine ea 33 #[(.bool false),(.slice none 0 0),(.bool false),(.slice none 0 0)] 4 hB fun b2 w2 g2 L2 o2 q2 hB=>?_
 simp only [p3,p4]
 refine sv 5 (.int .i64 0) ?_
 refine sq_nil ?_
 refine k1 _ _ ?_
 try clear k1 K1
 refine wp_seq_k (fun K3 k3=>?_)
 refine rg [0,1] ?_
 refine sv 13 (.string ⟨(X:List UInt8).toArray⟩) ?_
 refine sv 6 (.string ⟨(X:List UInt8).toArray⟩) ?_
 refine sq_nil ?_
 refine k3 _ _ ?_
 try clear k3 K3
 refine wp_seq_k (fun K4 k4=>?_)
 refine rg [0,1,2,3,4,5,6,7,8] ?_
 refine sv 15 (.string ⟨(X:List UInt8).toArray⟩) ?_
 refine se ?_
 refine ec 16 (cut_yes (X) (Lib.itoa (z)) (Lib.itoa (d)) (by omega) hc (hm.gr hB)) ?_
 rintro e5 w5 ⟨rfl,g5⟩
 refine ⟨_,rfl,?_⟩
 replace hB:=hB.trans g5
 simp only [p3,p4]
 refine sv 14 (.tuple #[(.string ⟨(Lib.itoa (z):List UInt8).toArray⟩),(.string ⟨(Lib.itoa (d):List UInt8).toArray⟩),(.bool true)]) ?_
 refine sv 17 (.string ⟨(Lib.itoa (z):List UInt8).toArray⟩) ?_
 refine sv 18 (.string ⟨(Lib.itoa (d):List UInt8).toArray⟩) ?_
 refine sv 19 (.bool true) ?_
 refine sv 7 (.string ⟨(Lib.itoa (z):List UInt8).toArray⟩) ?_
 refine sv 8 (.string ⟨(Lib.itoa (d):List UInt8).toArray⟩) ?_
 refine sv 9 (.bool true) ?_
 refine sq_nil ?_
 refine k4 _ _ ?_
 try clear k4 K4
 refine wp_seq_k (fun K6 k6=>?_)
 refine wp_block ?_
 refine wp_seq_k (fun K7 k7=>?_)
 refine rg [0,1,2,3,4] ?_
 refine sv 21 (.string ⟨(X:List UInt8).toArray⟩) ?_
 refine sv 22 (.int .i64 (((X).length:Int))) ?_
 refine sv 23 (.int .i64 (most)) ?_
 refine sw 24 (.bool false) rfl (RunV.bool (x:=decide (most<((X).length:Int))) (rvk (by kernel_rfl)) hl) ?_
 refine sv 20 (.bool false) ?_
 refine sq_nil ?_
 refine k7 _ _ ?_
 try clear k7 K7
 refine wp_cond_false rfl ?_
 refine wp_seq_k (fun K8 k8=>?_)
 refine rg [0,1,2,3,4,5,6,7,8,9,10,11,12] ?_
 refine sv 27 (.string ⟨(Lib.itoa (z):List UInt8).toArray⟩) ?_
 refine se ?_
 refine ec 28 (trimprefix_any (Lib.itoa (z)) _) ?_
 rintro e9 w9 ⟨rfl,g9⟩
 refine ⟨_,rfl,?_⟩
 replace hB:=hB.trans g9
 simp only [p3,p4]
 refine se ?_
 refine ec 29 (rdigits_a (strip (Lib.itoa (z))) (by omega) _) ?_
 rintro e10 w10 ⟨rfl,g10⟩
 refine ⟨_,rfl,?_⟩
 replace hB:=hB.trans g10
 simp only [p3,p4]
 refine sw 30 (.bool false) rfl (RunV.bool (x:=!(allD (strip (Lib.itoa (z))))) (rvk (by kernel_rfl)) (show (!(allD (strip (Lib.itoa (z)))))=false by rw [h1];rfl)) ?_
 refine sv 31 (.bool false) ?_
 refine sv 32 (.bool true) ?_
 refine sv 33 (.bool true) ?_
 refine sv 34 (.string ⟨(Lib.itoa (d):List UInt8).toArray⟩) ?_
 refine se ?_
 refine ec 35 (rdigits_a (Lib.itoa (d)) (by omega) _) ?_
 rintro e11 w11 ⟨rfl,g11⟩
 refine ⟨_,rfl,?_⟩
 replace hB:=hB.trans g11
 simp only [p3,p4]
 refine sw 36 (.bool false) rfl (RunV.bool (x:=!(allD (Lib.itoa (d)))) (rvk (by kernel_rfl)) (show (!(allD (Lib.itoa (d))))=false by rw [h2];rfl)) ?_
 refine sv 37 (.bool false) ?_
 refine sv 38 (.bool false) ?_
 refine sv 26 (.bool false) ?_
 refine sq_nil ?_
 refine k8 _ _ ?_
 try clear k8 K8
 refine wp_cond_false rfl ?_
 refine wp_seq_k (fun K12 k12=>?_)
 refine rg [0,1,2,3,4,5,6] ?_
 refine sv 41 (.bool true) ?_
 refine sv 42 (.bool true) ?_
 refine sv 43 (.string ⟨(Lib.itoa (d):List UInt8).toArray⟩) ?_
 refine se ?_
 refine ec 44 (trim_any0 (Lib.itoa (d)) (by omega) _) ?_
 rintro e13 w13 ⟨rfl,g13⟩
 refine ⟨_,rfl,?_⟩
 replace hB:=hB.trans g13
 simp only [p3,p4]
 refine sw 45 (.bool false) rfl (RunV.bool (x:=((Lib.trimS (Lib.itoa (d)) [48])==([]:List UInt8))) (rv_seq 9 9 _ _ (Lib.trimS (Lib.itoa (d)) [48]) ([]) rfl rfl rfl) h4) ?_
 refine sv 46 (.bool false) ?_
 refine sv 40 (.bool false) ?_
 refine sq_nil ?_
 refine k12 _ _ ?_
 try clear k12 K12
 refine wp_cond_false rfl ?_
 refine wp_skip ?_
 refine k6 _ _ ?_
 try clear k6 K6
 refine wp_seq_k (fun K14 k14=>?_)
 refine rg [0,1,2,3,4,5,6,7] ?_
 refine sv 49 (.string ⟨(Lib.itoa (z):List UInt8).toArray⟩) ?_
 refine se ?_
 refine ec 50 (parse_i (z) (itoa_sz (z) (m:=14000) (by omega)) (by omega) _) ?_
 rintro e15 w15 ⟨⟨x15,y15,rfl,h15⟩,g15⟩
 refine ⟨_,rfl,?_⟩
 replace hB:=hB.trans g15
 simp only [p3,p4]
 refine sv 48 (.tuple #[(.agg #[x15,y15]),(.int .i64 0)]) ?_
 refine sv 51 (.agg #[x15,y15]) ?_
 refine sv 52 (.int .i64 0) ?_
 refine se ?_
 refine ea 31 #[(.bool false),(.slice none 0 0)] 10 hB fun b16 w16 g16 L16 o16 q16 hB=>?_
 replace L2:=L2.gr (g5.trans (g9.trans (g10.trans (g11.trans (g13.trans g15)))))
 have ne2_16:=L2.ne o16
 simp only [p3,p4]
 refine se ?_
 refine es 31 0 (.agg #[x15,y15]) [x15,y15] #[x15,y15] L16 hB q16 ⟨h15.one0,h15.one1,trivial⟩ fun w17 st17 kp17 L16 hB=>?_
 refine sv 11 (.int .i64 0) ?_
 refine sq_nil ?_
 refine k14 _ _ ?_
 try clear k14 K14
 refine wp_seq_k (fun K18 k18=>?_)
 refine wp_seq_k (fun K19 k19=>?_)
 refine rg [0,1] ?_
 refine sv 53 (.int .i64 0) ?_
 refine sv 54 (.bool false) ?_
 refine sq_nil ?_
 refine k19 _ _ ?_
 try clear k19 K19
 refine wp_cond_false rfl ?_
 refine wp_skip ?_
 refine k18 _ _ ?_
 try clear k18 K18
 refine wp_seq_k (fun K20 k20=>?_)
 refine wp_seq_k (fun K21 k21=>?_)
 refine rg [0,1] ?_
 refine sv 56 (.bool true) ?_
 refine sv 57 (.bool false) ?_
 refine sq_nil ?_
 refine k21 _ _ ?_
 try clear k21 K21
 refine wp_cond_false rfl ?_
 refine wp_skip ?_
 refine k20 _ _ ?_
 try clear k20 K20
 refine wp_seq_k (fun K22 k22=>?_)
 refine rg [0,1,2,3,4,5,6,7] ?_
 refine sv 61 (.string ⟨(Lib.itoa (d):List UInt8).toArray⟩) ?_
 refine se ?_
 refine ec 62 (parse_i (d) (itoa_sz (d) (m:=14000) (by omega)) (by omega) _) ?_
 rintro e23 w23 ⟨⟨x23,y23,rfl,h23⟩,g23⟩
 refine ⟨_,rfl,?_⟩
 replace hB:=hB.trans g23
 simp only [p3,p4]
 refine sv 60 (.tuple #[(.agg #[x23,y23]),(.int .i64 0)]) ?_
 refine sv 63 (.agg #[x23,y23]) ?_
 refine sv 64 (.int .i64 0) ?_
 refine se ?_
 refine ea 31 #[(.bool false),(.slice none 0 0)] 12 hB fun b24 w24 g24 L24 o24 q24 hB=>?_
 replace L2:=(st17.lc (L2.gr g16) ne2_16).gr g23
 have ne2_24:=L2.ne o24
 replace L16:=L16.gr g23
 have ne16_24:=L16.ne o24
 simp only [p3,p4]
 refine se ?_
 refine es 31 0 (.agg #[x23,y23]) [x23,y23] #[x23,y23] L24 hB q24 ⟨h23.one0,h23.one1,trivial⟩ fun w25 st25 kp25 L24 hB=>?_
 refine sv 11 (.int .i64 0) ?_
 refine sq_nil ?_
 refine k22 _ _ ?_
 try clear k22 K22
 refine wp_seq_k (fun K26 k26=>?_)
 refine wp_seq_k (fun K27 k27=>?_)
 have gd41:=Gr.drew w25
 replace hB:=hB.trans gd41
 replace L16:=(st25.lc (L16.gr g24) ne16_24).gr gd41
 replace L24:=L24.gr gd41
 refine wp_region_ord (fun w'=>Lc w' b16 #[x15,y15] 31∧Lc w' b24 #[x23,y23] 31) [(true,0),(true,1),(true,2),(true,3),(false,4),(false,5),(true,6),(true,7),(true,8),(true,9),(true,10),(false,11),(false,12),(false,13),(true,14),(true,15)] (by kernel_rfl) (by kernel_rfl) (by kernel_rfl) (by decide) (fun _ _ _ _ _ h=>h) ⟨L16,L24⟩ ?_
 refine ov 65 (.int .i64 0) ?_
 refine ov 66 (.bool false) ?_
 refine ov 67 (.bool false) ?_
 refine ow 68 (.agg #[x23,y23]) rfl (fun w' hS=>(rl 31 0 [x23,y23] hS.2)) ?_
 refine oe ?_
 refine ec 69 (one_i _) ?_
 rintro e43 w43 ⟨⟨x43,y43,rfl,h43⟩,g43⟩
 refine ⟨_,rfl,?_⟩
 replace hB:=hB.trans g43
 replace L16:=L16.gr g43
 replace L24:=L24.gr g43
 refine ⟨⟨L16,L24⟩,?_⟩
 simp only [p3,p4]
 refine oe ?_
 have kq46:=g24.kp.trans (kp25.trans (gd41.kp.trans g43.kp))
 replace h23:=h23.kp kq46
 refine ec 70 (compare_i h23 h43 (by omega) (by omega)) ?_
 rintro e45 w45 ⟨rfl,g45⟩
 refine ⟨_,rfl,?_⟩
 replace hB:=hB.trans g45
 replace L16:=L16.gr g45
 replace L24:=L24.gr g45
 refine ⟨⟨L16,L24⟩,?_⟩
 simp only [p3,p4]
 refine ow 71 (.bool false) rfl (fun w' hS=>(RunV.bool (x:=(sgn (d - 1)==(0:Int))) (rvk (by kernel_rfl)) h6)) ?_
 refine ov 72 (.bool false) ?_
 refine ov 73 (.bool false) ?_
 refine ow 74 (.agg #[x15,y15]) rfl (fun w' hS=>(rl 31 0 [x15,y15] hS.1)) ?_
 refine ow 75 (.agg #[x23,y23]) rfl (fun w' hS=>(rl 31 0 [x23,y23] hS.2)) ?_
 refine oe ?_
 have kq49:=g16.kp.trans (kp17.trans (g23.kp.trans (g24.kp.trans (kp25.trans (gd41.kp.trans (g43.kp.trans g45.kp))))))
 replace h15:=h15.kp kq49
 replace h23:=h23.kp g45.kp
 refine ec 76 (gcd_i h15 h23 (by omega)) ?_
 rintro e48 w48 ⟨⟨x48,y48,rfl,h48⟩,g48⟩
 refine ⟨_,rfl,?_⟩
 replace hB:=hB.trans g48
 replace L16:=L16.gr g48
 replace L24:=L24.gr g48
 refine ⟨⟨L16,L24⟩,?_⟩
 simp only [p3,p4]
 refine oe ?_
 refine ec 77 (one_i _) ?_
 rintro e51 w51 ⟨⟨x51,y51,rfl,h51⟩,g51⟩
 refine ⟨_,rfl,?_⟩
 replace hB:=hB.trans g51
 replace L16:=L16.gr g51
 replace L24:=L24.gr g51
 refine ⟨⟨L16,L24⟩,?_⟩
 simp only [p3,p4]
 refine oe ?_
 replace h48:=h48.kp g51.kp
 refine ec 78 (compare_i h48 h51 (by omega) (by omega)) ?_
 rintro e53 w53 ⟨rfl,g53⟩
 refine ⟨_,rfl,?_⟩
 replace hB:=hB.trans g53
 replace L16:=L16.gr g53
 replace L24:=L24.gr g53
 refine ⟨⟨L16,L24⟩,?_⟩
 simp only [p3,p4]
 refine ow 79 (.bool true) rfl (fun w' hS=>(RunV.bool (x:=(sgn ((Int.gcd (z) (d):Int) - 1) !=(0:Int))) (rvk (by kernel_rfl)) h8)) ?_
 refine ov 80 (.bool true) ?_
 refine ord_nil ?_
 refine k27 _ _ ?_
 try clear k27 K27
 refine wp_cond_true rfl ?_
 refine wp_seq_k (fun K54 k54=>?_)
 refine rg [0,1,2] ?_
 refine sv 81 (.agg #[(.bool false),(.slice none 0 0),(.bool false),(.slice none 0 0)]) ?_
 refine se ?_
 replace L2:=(st25.lc (L2.gr g24) ne2_24).gr (gd41.trans (g43.trans (g45.trans (g48.trans (g51.trans g53)))))
 refine es 33 0 (.agg #[(.bool false),(.slice none 0 0),(.bool false),(.slice none 0 0)]) [(.bool false),(.slice none 0 0),(.bool false),(.slice none 0 0)] #[(.bool false),(.slice none 0 0),(.bool false),(.slice none 0 0)] L2 hB q2 ⟨rfl,rfl,rfl,rfl,trivial⟩ fun w55 st55 kp55 L2 hB=>?_
 refine sv 5 (.int .i64 3) ?_
 refine sq_nil ?_
 refine k54 _ _ ?_
 try clear k54 K54
 refine wp_ret ?_
 simp only [Exit.then]
 refine bodyPost_ret (v:=(.tuple #[(.agg #[(.bool false),(.slice none 0 0),(.bool false),(.slice none 0 0)]),(.int .i64 3)])) (ret_cell_tmp' _ _ _ rfl rfl L2 (by kernel_rfl) rfl) rfl ⟨?_,hB⟩
 exact rfl

theorem read_bad (X:List UInt8) (most:Nat) (hx:X.length≤14000) (h:ck2 X most≠0) (w:World) (hm:Mx w):
    Calls Tryz.prog 47 #[(.string ⟨(X:List UInt8).toArray⟩),(.int .i64 (most))] w fun e w'=>e=.returned (.tuple #[.agg #[.bool false,.slice none 0 0,.bool false,.slice none 0 0],.int .i64 (ck2 X most)])∧Gr w w':=by
  by_cases hl:most<X.length
  · have e:ck2 X most=5:=by unfold ck2;rw [if_pos hl]
    rw [e];exact read_long X most (by omega) (by omega) w hm
  have hl2:(X.length:Int)≤(most:Int):=by omega
  have hcl:=cutL_eq X
  have hnl:=numL_len X
  rcases hcut:cutL X with ⟨A,_ | D⟩
  · rw [hcut] at hcl hnl
    obtain rfl:X=A:=hcl
    have hn:numL X=X:=by unfold numL;rw [hcut]
    have hd:denL X=[49]:=by unfold denL;rw [hcut];rfl
    unfold ck2 at h ⊢
    rw [if_neg hl,hn,hd] at h ⊢
    rw [show allD [49]=true from by decide,Bool.and_true] at h ⊢
    by_cases h1:allD (strip X)=true
    · rw [if_neg (by rw [h1];decide),if_neg (by decide)] at h ⊢
      by_cases h2:badZ X=true
      · rw [if_pos (by rw [h2];rfl)]
        exact read_nf X most hx hl2 hcut h1 h2 w hm
      · rw [Bool.not_eq_true] at h2
        rw [if_neg (by rw [h2];decide),if_neg (by simp)] at h
        exact absurd rfl h
    · rw [Bool.not_eq_true] at h1
      rw [if_pos h1]
      exact read_ns X most hx hl2 hcut h1 w hm
  · rw [hcut] at hcl hnl
    dsimp only at hcl
    have hn:numL X=A:=by unfold numL;rw [hcut]
    have hd:denL X=D:=by unfold denL;rw [hcut];rfl
    have hlen:X.length=A.length+(D.length+1):=by rw [hcl];simp
    have hA:A.length≤X.length:=by omega
    have hD:D.length≤X.length:=by omega
    unfold ck2 at h ⊢
    rw [if_neg hl,hn,hd] at h ⊢
    by_cases h1:allD (strip A)=true
    · by_cases h2:allD D=true
      · rw [h1,h2,if_neg (by decide)] at h ⊢
        by_cases h3:zerosL D=true
        · rw [if_pos h3]
          exact read_fz X A D most hx hl2 hcut hA hD h1 h2 h3 w hm
        rw [if_neg h3] at h ⊢
        rw [Bool.not_eq_true] at h3
        by_cases h4:badZ A=true
        · rw [if_pos (by rw [h4];rfl)]
          exact read_fb1 X A D most hx hl2 hcut hA hD h1 h2 h3 h4 w hm
        rw [Bool.not_eq_true] at h4
        obtain ⟨z,rfl⟩:=form_itoa h1 h4
        have hz:valZ (Lib.itoa z)=z:=valZ_itoa z
        by_cases h5:(D[0]?==some 48)=true
        · rw [if_pos (by rw [h5,Bool.or_true])]
          exact read_fb2 X D z most hx hl2 hcut hA hD h2 (strip_dig h2) h3 (badZ_head h2 h3 h5) w hm
        rw [Bool.not_eq_true] at h5
        obtain ⟨e1,e2⟩:=den_text h2 h5
        obtain ⟨d,hd1⟩:∃ d:Int,d=(valL D:Int):=⟨_,rfl⟩
        have e3:Lib.itoa d=D:=by rw [hd1,itoa_nonneg (by omega),Int.natAbs_natCast];exact e1
        subst e3
        have hv:valZ (Lib.itoa d)=d:=valZ_itoa d
        rw [if_neg (by rw [h4,h5];decide),hz,hv] at h ⊢
        have hlt:decide ((Lib.itoa z).length<X.length)=true:=by simp;omega
        rw [hlt,Bool.true_and] at h ⊢
        by_cases h6:d=1
        · rw [if_pos (by rw [h6,itoa_one];rfl)]
          exact read_g1 X z d most hx hl2 hcut hA hD h2 h3 h6 w hm
        · by_cases h7:Int.gcd z d=1
          · rw [if_neg (by rw [h7];simp;intro e;exact h6 (itoa_inj (by rw [e,itoa_one])))] at h
            exact absurd rfl h
          · rw [if_pos (by simp [h7])]
            exact read_g2 X z d most hx hl2 hcut hA hD h2 h3 h6 h7 w hm
      · rw [Bool.not_eq_true] at h2
        rw [if_pos (by rw [h2,Bool.and_false])]
        exact read_fs2 X A D most hx hl2 hcut hA hD h1 h2 w hm
    · rw [Bool.not_eq_true] at h1
      rw [if_pos (by rw [h1];rfl)]
      exact read_fs1 X A D most hx hl2 hcut hA hD h1 w hm

set_option maxRecDepth 100000 in
set_option maxHeartbeats 1000000 in
theorem rread_bad (X:List UInt8) (hx:X.length≤14000) (h:ck2 X 65536≠0) (w:World) (hm:Mx w):
    Calls Tryz.prog 23 #[(.string ⟨(X:List UInt8).toArray⟩)] w fun e w'=>e=.returned (.tuple #[.agg #[.bool false,.slice none 0 0,.bool false,.slice none 0 0],.int .i64 (ck2 X 65536)])∧Gr w w':=by
 go_enter Tryz.func23,Tryz.ntmps23
 have hB:=Gr.refl w
 refine wp_seq_k (fun K1 k1=>?_)
 refine rg [0,1] ?_
 refine se ?_
 refine ea 33 #[(.bool false),(.slice none 0 0),(.bool false),(.slice none 0 0)] 2 hB fun b2 w2 g2 L2 o2 q2 hB=>?_
 simp only [p3,p4]
 refine sv 3 (.int .i64 0) ?_
 refine sq_nil ?_
 refine k1 _ _ ?_
 try clear k1 K1
 refine wp_seq_k (fun K3 k3=>?_)
 refine rg [0,1,2,3,4,5] ?_
 refine sv 4 (.string ⟨(X:List UInt8).toArray⟩) ?_
 refine se ?_
 refine ec 5 (read_bad X 65536 hx h _ (hm.gr hB)) ?_
 rintro e4 w4 ⟨rfl,g4⟩
 refine ⟨_,rfl,?_⟩
 replace hB:=hB.trans g4
 simp only [p3,p4]
 refine sv 6 (.agg #[(.bool false),(.slice none 0 0),(.bool false),(.slice none 0 0)]) ?_
 refine sv 7 (.int .i64 (ck2 X 65536)) ?_
 refine se ?_
 replace L2:=L2.gr g4
 refine es 33 0 (.agg #[(.bool false),(.slice none 0 0),(.bool false),(.slice none 0 0)]) [(.bool false),(.slice none 0 0),(.bool false),(.slice none 0 0)] #[(.bool false),(.slice none 0 0),(.bool false),(.slice none 0 0)] L2 hB q2 ⟨rfl,rfl,rfl,rfl,trivial⟩ fun w5 st5 kp5 L2 hB=>?_
 refine sv 3 (.int .i64 (ck2 X 65536)) ?_
 refine sq_nil ?_
 refine k3 _ _ ?_
 try clear k3 K3
 refine wp_ret ?_
 refine bodyPost_ret (v:=(.tuple #[(.agg #[(.bool false),(.slice none 0 0),(.bool false),(.slice none 0 0)]),(.int .i64 (ck2 X 65536))])) (ret_cell_tmp' _ _ _ rfl rfl L2 (by kernel_rfl) rfl) rfl ⟨?_,hB⟩
 exact rfl

/-- all blocks of type t are as they were -/
def Kt (t:TypeId) (w w':World):Prop:=∀ (b:Nat) (cs:Array Value) (fr:Nat × Nat),w.heap[b]?=some (Obj.cells cs t fr)→w'.heap[b]?=some (Obj.cells cs t fr)
theorem Kt.refl (t:TypeId) (w:World):Kt t w w:=fun _ _ _ h=>h
theorem Kt.trans {t:TypeId} {a b c:World} (h:Kt t a b) (k:Kt t b c):Kt t a c:=fun b cs fr hb=>k b cs fr (h b cs fr hb)
theorem Gr.kt {w w':World} (h:Gr w w') (t:TypeId):Kt t w w':=fun _ _ _ hk=>h.heap hk
theorem Kt.kp {w w':World} (h:Kt 136 w w'):Kp w w':=h
theorem St.kt {w w':World} {b:Nat} {cs:Array Value} {T t:TypeId} (h:St w w' b) (hL:Lc w b cs T) (ht:t≠T):Kt t w w':=fun c ds fr hc=>by
  by_cases e:c=b
  · subst e
    unfold Lc at hL
    rw [hc] at hL
    simp only [Option.some.injEq,Obj.cells.injEq] at hL
    exact absurd hL.2.1 ht
  · exact (h.block c e).trans hc
theorem Wt.kt {T t:TypeId} {w w':World} (h:Wt T w w') (ht:t≠T):Kt t w w':=fun b cs fr hb=>h.block b cs _ fr ht hb
/-- all of some types -/
def Kts (ts:List TypeId) (w w':World):Prop:=∀ t ∈ ts,Kt t w w'
theorem Gr.kts {w w':World} (h:Gr w w') (ts:List TypeId):Kts ts w w':=fun t _=>h.kt t
theorem St.kts {w w':World} {b:Nat} {cs:Array Value} {T:TypeId} {ts:List TypeId} (h:St w w' b) (hL:Lc w b cs T) (ht:(ts.all fun t=>t !=T)=true):Kts ts w w':=fun t hm=>h.kt hL (by have:=List.all_eq_true.1 ht t hm;simpa using this)
theorem Wt.kts {w w':World} {T:TypeId} {ts:List TypeId} (h:Wt T w w') (ht:(ts.all fun t=>t !=T)=true):Kts ts w w':=fun t hm=>h.kt (by have:=List.all_eq_true.1 ht t hm;simpa using this)

section
variable {α:Type}
/-- what cells say of an element,and on which types it hangs -/
def Stab (E:World→α→List Value→Prop) (ts:List TypeId):Prop:=∀ w w' x vs,Kts ts w w'→E w x vs→E w' x vs
def Els (E:World→α→List Value→Prop) (c:Nat) (w:World) (ys:List Value) (xs:List α):Prop:=
  ys.length=xs.length*c∧∀ (i:Nat) (x:α),xs[i]?=some x→E w x ((ys.drop (i*c)).take c)
theorem Els.kts {E:World→α→List Value→Prop} {ts:List TypeId} {c:Nat} {w w':World} {ys:List Value} {xs:List α} (h:Els E c w ys xs) (hS:Stab E ts) (k:Kts ts w w'):Els E c w' ys xs:=
  ⟨h.1,fun i x hx=>hS _ _ _ _ k (h.2 i x hx)⟩
theorem Els.nil (E:World→α→List Value→Prop) (c:Nat) (w:World):Els E c w [] []:=⟨by simp,fun i x h=>by simp at h⟩
theorem Els.snoc {E:World→α→List Value→Prop} {c:Nat} {w:World} {ys:List Value} {xs:List α} (h:Els E c w ys xs) {x:α} {vs:List Value} (hv:vs.length=c) (hx:E w x vs):Els E c w (ys++vs) (xs++[x]):=by
  refine ⟨by simp [h.1,hv,Nat.add_mul],fun i y hy=>?_⟩
  rcases Nat.lt_or_ge i xs.length with hi | hi
  · rw [List.getElem?_append_left hi] at hy
    have h1:i*c+c≤ys.length:=by
      rw [h.1]
      have:=Nat.mul_le_mul_right c (show i+1≤xs.length by omega)
      rw [Nat.add_mul] at this;omega
    have:=h.2 i y hy
    rw [List.drop_append_of_le_length (by omega),List.take_append_of_le_length (by rw [List.length_drop];omega)]
    exact this
  · rw [List.getElem?_append_right hi] at hy
    have h0:i=xs.length:=by
      have:=(List.getElem?_eq_some_iff.1 hy).1
      simp at this;omega
    subst h0
    simp only [Nat.sub_self,List.getElem?_cons_zero,Option.some.injEq] at hy
    subst hy
    rw [← h.1,List.drop_left,← hv,List.take_length]
    exact hx
theorem Els.set {E:World→α→List Value→Prop} {c:Nat} {w:World} {ys:List Value} {xs:List α} (h:Els E c w ys xs) {i:Nat} (hi:i<xs.length) {x:α} {vs:List Value} (hv:vs.length=c) (hx:E w x vs):
    Els E c w (ys.take (i*c)++vs++ys.drop (i*c+c)) (xs.set i x):=by
  have hle:i*c+c≤ys.length:=by
    rw [h.1]
    have:=Nat.mul_le_mul_right c (show i+1≤xs.length by omega)
    rw [Nat.add_mul] at this;omega
  refine ⟨by rw [List.length_append,List.length_append,List.length_take,List.length_drop,List.length_set,hv,Nat.min_eq_left (by omega)];have:=h.1;omega,fun j y hy=>?_⟩
  rcases Nat.lt_trichotomy j i with hj | hj | hj
  · rw [List.getElem?_set_ne (by omega)] at hy
    have h1:j*c+c≤i*c:=by
      have:=Nat.mul_le_mul_right c (show j+1≤i by omega)
      rw [Nat.add_mul] at this;omega
    have e:((ys.take (i*c)++vs++ys.drop (i*c+c)).drop (j*c)).take c=(ys.drop (j*c)).take c:=by
      rw [List.append_assoc,List.drop_append_of_le_length (by rw [List.length_take];omega),List.take_append_of_le_length (by rw [List.length_drop,List.length_take];omega),List.drop_take,List.take_take]
      congr 1;omega
    rw [e];exact h.2 j y hy
  · subst hj
    rw [List.getElem?_set_self hi] at hy
    obtain rfl:=Option.some.inj hy
    have e:((ys.take (j*c)++vs++ys.drop (j*c+c)).drop (j*c)).take c=vs:=by
      have hl:(ys.take (j*c)).length=j*c:=by rw [List.length_take];omega
      rw [List.append_assoc,List.drop_append,hl,Nat.sub_self,List.drop_zero,List.drop_eq_nil_of_le (by omega),List.nil_append,List.take_append_of_le_length (by omega),List.take_of_length_le (by omega)]
    rw [e];exact hx
  · rw [List.getElem?_set_ne (by omega)] at hy
    have h1:i*c+c≤j*c:=by
      have:=Nat.mul_le_mul_right c (show i+1≤j by omega)
      rw [Nat.add_mul] at this;omega
    have e:((ys.take (i*c)++vs++ys.drop (i*c+c)).drop (j*c)).take c=(ys.drop (j*c)).take c:=by
      have hl:(ys.take (i*c)++vs).length=i*c+c:=by rw [List.length_append,List.length_take];omega
      rw [List.drop_append,hl,List.drop_eq_nil_of_le (by omega),List.nil_append,List.drop_drop]
      congr 2;omega
    rw [e];exact h.2 j y hy
theorem Els.mono {E F:World→α→List Value→Prop} {c:Nat} {w:World} {ys:List Value} {xs:List α} (h:Els E c w ys xs) (hf:∀ x vs,E w x vs→F w x vs):Els F c w ys xs:=⟨h.1,fun i x hx=>hf _ _ (h.2 i x hx)⟩

/-- v is a slice of n elements,whose cells are ys -/
def Cs (T:TypeId) (w:World) (v:Value) (n:Nat) (ys:List Value):Prop:=
  ∃ ao cap,v=.slice ao n cap∧n≤cap∧(0<ys.length→∃ b off cs fr,ao=some ⟨b,off,none⟩∧w.heap[b]?=some (.cells cs T fr)∧∀ j,j<ys.length→cs[off+j]?=ys[j]?)
theorem Cs.kt {T:TypeId} {w w':World} {v:Value} {n:Nat} {ys:List Value} (h:Cs T w v n ys) (k:Kt T w w'):Cs T w' v n ys:=by
  obtain ⟨ao,cap,h1,h2,h3⟩:=h
  refine ⟨ao,cap,h1,h2,fun hp=>?_⟩
  obtain ⟨b,off,cs,fr,e1,e2,e3⟩:=h3 hp
  exact ⟨b,off,cs,fr,e1,k _ _ _ e2,e3⟩
/-- the address of a cell of a slice -/
def adr (v:Value) (j:Nat):Value:=
  match v with
  | .slice (some ⟨b,off,_⟩) _ _=>.pointer (some ⟨b,off+j,none⟩)
  | _=>undef
/-- at cell j of a slice lie vs -/
def AtV (w:World) (v:Value) (j:Nat) (vs:List Value):Prop:=∃ b off n cap,v=.slice (some ⟨b,off,none⟩) n cap∧w.rangeAt b (off+j) vs
theorem Cs.at_ {T:TypeId} {w:World} {v:Value} {n:Nat} {ys:List Value} (h:Cs T w v n ys) (hp:0<ys.length) (j:Nat) (vs:List Value) (hv:(ys.drop j).take vs.length=vs):AtV w v j vs:=by
  obtain ⟨ao,cap,rfl,h2,h3⟩:=h
  obtain ⟨b,off,cs,fr,rfl,e2,e3⟩:=h3 hp
  refine ⟨b,off,_,_,rfl,fun i u hi=>?_⟩
  have hi':i<vs.length:=(List.getElem?_eq_some_iff.1 hi).1
  have h1:((ys.drop j).take vs.length)[i]?=vs[i]?:=by rw [hv]
  rw [List.getElem?_take_of_lt hi',List.getElem?_drop,hi] at h1
  rw [cells_of e2,Nat.add_assoc,e3 (j+i) (List.getElem?_eq_some_iff.1 h1).1]
  exact h1
/-- a slice of elements -/
def Sl (E:World→α→List Value→Prop) (T:TypeId) (c:Nat) (w:World) (v:Value) (xs:List α):Prop:=∃ ys,Cs T w v xs.length ys∧Els E c w ys xs
theorem Sl.kts {E:World→α→List Value→Prop} {ts:List TypeId} {T:TypeId} {c:Nat} {w w':World} {v:Value} {xs:List α} (h:Sl E T c w v xs) (hS:Stab E ts) (k:Kts (T::ts) w w'):Sl E T c w' v xs:=by
  obtain ⟨ys,h1,h2⟩:=h
  exact ⟨ys,h1.kt (k T (by simp)),h2.kts hS (fun t ht=>k t (by simp [ht]))⟩
theorem Sl.gr {E:World→α→List Value→Prop} {ts:List TypeId} {T:TypeId} {c:Nat} {w w':World} {v:Value} {xs:List α} (h:Sl E T c w v xs) (hS:Stab E ts) (g:Gr w w'):Sl E T c w' v xs:=h.kts hS (g.kts _)
theorem Sl.mono {E F:World→α→List Value→Prop} {T:TypeId} {c:Nat} {w:World} {v:Value} {xs:List α} (h:Sl E T c w v xs) (hf:∀ x vs,E w x vs→F w x vs):Sl F T c w v xs:=by
  obtain ⟨ys,h1,h2⟩:=h
  exact ⟨ys,h1,h2.mono hf⟩
theorem Sl.form {E:World→α→List Value→Prop} {T:TypeId} {c:Nat} {w:World} {v:Value} {xs:List α} (h:Sl E T c w v xs):∃ ao cap,v=.slice ao xs.length cap∧xs.length≤cap:=by
  obtain ⟨ys,⟨ao,cap,h1,h2,_⟩,_⟩:=h
  exact ⟨ao,cap,h1,h2⟩
theorem Sl.one {E:World→α→List Value→Prop} {T:TypeId} {c:Nat} {w:World} {v:Value} {xs:List α} (h:Sl E T c w v xs):v.oneCell'=true:=by
  obtain ⟨ao,cap,rfl,_⟩:=h.form;rfl
theorem Sl.nil (E:World→α→List Value→Prop) (T:TypeId) (c:Nat) (w:World) (ao:Option Addr) (cap:Nat):Sl E T c w (.slice ao 0 cap) ([]:List α):=
  ⟨[],⟨ao,cap,rfl,Nat.zero_le _,fun h=>by simp at h⟩,Els.nil ..⟩
theorem Sl.get {E:World→α→List Value→Prop} {T:TypeId} {c:Nat} {w:World} {v:Value} {xs:List α} (h:Sl E T c w v xs) (hc:0<c) {i:Nat} {x:α} (hx:xs[i]?=some x):∃ vs,vs.length=c∧E w x vs∧AtV w v (i*c) vs:=by
  obtain ⟨ys,h1,h2⟩:=h
  have hi:=(List.getElem?_eq_some_iff.1 hx).1
  have hle:i*c+c≤ys.length:=by
    rw [h2.1]
    have:=Nat.mul_le_mul_right c (show i+1≤xs.length by omega)
    rw [Nat.add_mul] at this;omega
  have hl:((ys.drop (i*c)).take c).length=c:=by rw [List.length_take,List.length_drop];omega
  exact ⟨_,hl,h2.2 i x hx,h1.at_ (by omega) _ _ (by rw [hl])⟩
theorem Sl.adr_some {E:World→α→List Value→Prop} {T:TypeId} {c:Nat} {w:World} {v:Value} {xs:List α} (h:Sl E T c w v xs) (hc:0<c) (hp:0<xs.length):∃ b off cap,v=.slice (some ⟨b,off,none⟩) xs.length cap:=by
  obtain ⟨ys,⟨ao,cap,h1,h2,h3⟩,h4⟩:=h
  obtain ⟨b,off,cs,fr,e1,_⟩:=h3 (by rw [h4.1];exact Nat.mul_pos hp hc)
  exact ⟨b,off,cap,by rw [h1,e1]⟩

variable {P:Program} {a:Act} {o:Oper} {w:World} {Q:Exit→Act→World→Prop} {K:Act→World→Prop} {ops:Array Oper}
theorem rv_ldn (vs:List Value) {v:Value} {j:Nat} (h:AtV w v j vs) (t:TypeId) (x:Operand) (hop:o.op=.load t x) (hx:a.eval x=adr v j) (hs:aggSize P t=some vs.length):RunV P a o w (.agg vs.toArray):=by
  obtain ⟨b,off,n,cap,rfl,hr⟩:=h
  have hx':a.eval x=.pointer (some ⟨b,off+j,none⟩):=hx
  unfold aggSize at hs
  unfold RunV
  cases hd:P.underlying t with
  | none=>rw [hd] at hs;cases hs
  | some d=>
    rw [hd] at hs
    have hrow:d.isRow=true∧(P.info? t).map (·.size)=some vs.length:=by
      cases d<;>first | cases hs | exact ⟨rfl,hs⟩
    unfold execOp
    simp only [hop,hx',Instr.loadAt,Instr.sureAddr,Sem.run_bind,Sem.run_pure,Result.andThen_ok,run_loadVar_mid w b (off+j) t vs d hr hd hrow.1 hrow.2]
/-- block b is an array of elements of the call's own -/
def Mk (E:World→α→List Value→Prop) (T:TypeId) (c:Nat) (w:World) (b:Nat) (xs:List α):Prop:=∃ ys:List Value,Lc w b ys.toArray T∧Els E c w ys xs
theorem Mk.kts {E:World→α→List Value→Prop} {ts:List TypeId} {T:TypeId} {c:Nat} {w w':World} {b:Nat} {xs:List α} (h:Mk E T c w b xs) (hS:Stab E ts) (k:Kts (T::ts) w w'):Mk E T c w' b xs:=by
  obtain ⟨ys,h1,h2⟩:=h
  exact ⟨ys,k T (by simp) _ _ _ h1,h2.kts hS (fun t ht=>k t (by simp [ht]))⟩
theorem Mk.gr {E:World→α→List Value→Prop} {ts:List TypeId} {T:TypeId} {c:Nat} {w w':World} {b:Nat} {xs:List α} (h:Mk E T c w b xs) (hS:Stab E ts) (g:Gr w w'):Mk E T c w' b xs:=h.kts hS (g.kts _)
theorem Mk.lt {E:World→α→List Value→Prop} {T:TypeId} {c:Nat} {w:World} {b:Nat} {xs:List α} (h:Mk E T c w b xs):b<w.heap.size:=by
  obtain ⟨ys,h1,_⟩:=h;exact h1.lt
theorem AtV.gr {w w':World} {v:Value} {j:Nat} {vs:List Value} (h:AtV w v j vs) (g:Gr w w'):AtV w' v j vs:=by
  obtain ⟨b,off,n,cap,e,hr⟩:=h
  refine ⟨b,off,n,cap,e,fun i u hi=>?_⟩
  have h1:=hr i u hi
  rw [← h1]
  exact Below.cell g (p:=⟨b,off+j+i,none⟩) (World.block_lt_of_cell? w _ h1)
/-- a slice that the call appends to -/
def Ow (E:World→α→List Value→Prop) (T:TypeId) (c:Nat) (w:World) (B:Nat) (v:Value) (xs:List α):Prop:=∃ ys,w.ownsRow B T c v xs.length ys∧Els E c w ys xs
theorem ownsRow_gr {w w':World} {B T c n:Nat} {v:Value} {ys:List Value} (h:w.ownsRow B T c v n ys) (k:Kt T w w'):w'.ownsRow B T c v n ys:=by
  refine ⟨h.1,?_⟩
  rcases h.2 with hn | ⟨g,cap,cur,rfl,hb,hg,hr⟩
  · exact .inl hn
  · exact .inr ⟨g,cap,cur,rfl,hb,k _ _ _ hg,hr⟩
theorem Ow.kts {E:World→α→List Value→Prop} {ts:List TypeId} {T:TypeId} {c B:Nat} {w w':World} {v:Value} {xs:List α} (h:Ow E T c w B v xs) (hS:Stab E ts) (k:Kts (T::ts) w w'):Ow E T c w' B v xs:=by
  obtain ⟨ys,h1,h2⟩:=h
  exact ⟨ys,ownsRow_gr h1 (k T (by simp)),h2.kts hS (fun t ht=>k t (by simp [ht]))⟩
theorem Ow.gr {E:World→α→List Value→Prop} {ts:List TypeId} {T:TypeId} {c B:Nat} {w w':World} {v:Value} {xs:List α} (h:Ow E T c w B v xs) (hS:Stab E ts) (g:Gr w w'):Ow E T c w' B v xs:=h.kts hS (g.kts _)
theorem Ow.nil (E:World→α→List Value→Prop) (T:TypeId) (c:Nat) (w:World) (B:Nat):Ow E T c w B (.slice none 0 0) ([]:List α):=⟨[],World.ownsRow_nil ..,Els.nil ..⟩
theorem Ow.one {E:World→α→List Value→Prop} {T:TypeId} {c B:Nat} {w:World} {v:Value} {xs:List α} (h:Ow E T c w B v xs):v.oneCell'=true:=by
  obtain ⟨ys,h1,_⟩:=h
  rcases h1.2 with ⟨rfl,_⟩ | ⟨g,cap,cur,rfl,_⟩<;>rfl
/-- the slice does not lie in a block -/
def OwNe (v:Value) (b:Nat):Prop:=∀ g n cap,v=.slice (some ⟨g,0,none⟩) n cap→g≠b
theorem Ow.ne {E:World→α→List Value→Prop} {T:TypeId} {c B b:Nat} {w:World} {v:Value} {xs:List α} (h:Ow E T c w B v xs) (hb:w.heap.size≤b):OwNe v b:=by
  obtain ⟨ys,h1,_⟩:=h
  intro g n cap e
  rcases h1.2 with ⟨hn,_⟩ | ⟨g',cap',cur,he,_,hg,_⟩
  · rw [hn] at e;cases e
  · rw [he] at e;cases e
    have:=heap_lt hg
    omega
theorem Ow.st {E:World→α→List Value→Prop} {ts:List TypeId} {T:TypeId} {c B b:Nat} {w w':World} {v:Value} {xs:List α} (h:Ow E T c w B v xs) (hS:Stab E ts) (st:St w w' b) (hn:OwNe v b) (k:Kts ts w w'):Ow E T c w' B v xs:=by
  obtain ⟨ys,h1,h2⟩:=h
  refine ⟨ys,⟨h1.1,?_⟩,h2.kts hS k⟩
  rcases h1.2 with hv | ⟨g,cap,cur,rfl,hb,hg,hr⟩
  · exact .inl hv
  · exact .inr ⟨g,cap,cur,rfl,hb,by rw [st.block g (hn g _ _ rfl)];exact hg,hr⟩
theorem Ow.mono {E:World→α→List Value→Prop} {T:TypeId} {c B C:Nat} {w:World} {v:Value} {xs:List α} (h:Ow E T c w B v xs) (hC:C≤B):Ow E T c w C v xs:=by
  obtain ⟨ys,h1,h2⟩:=h
  refine ⟨ys,⟨h1.1,?_⟩,h2⟩
  rcases h1.2 with hn | ⟨g,cap,cur,rfl,hb,hg,hr⟩
  · exact .inl hn
  · exact .inr ⟨g,cap,cur,rfl,Nat.le_trans hC hb,hg,hr⟩
theorem Sl.cases {E:World→α→List Value→Prop} {T:TypeId} {c:Nat} {w:World} {v:Value} {xs:List α} (h:Sl E T c w v xs) (hc:0<c):xs=[]∨0<xs.length∧∃ b off cap,v=.slice (some ⟨b,off,none⟩) xs.length cap:=by
  cases xs with
  | nil=>exact .inl rfl
  | cons x xs=>exact .inr ⟨by simp,h.adr_some hc (by simp)⟩
end
/-! ### elements -/
/-- a rational of less than k bits -/
def ERat (k:Nat) (w:World) (q:Rat) (vs:List Value):Prop:=∃ c0 c1 c2 c3,vs=[c0,c1,c2,c3]∧IsRat w k c0 c1 c2 c3 q
theorem ERat.mono {k m:Nat} {w:World} {q:Rat} {vs:List Value} (h:ERat k w q vs) (hk:k≤m):ERat m w q vs:=by
  obtain ⟨c0,c1,c2,c3,e,hq⟩:=h
  exact ⟨c0,c1,c2,c3,e,hq.mono hk⟩
/-- a value of one cell:an int between bounds,a Bool that is perhaps known,a string (perhaps the text of a rational),a cell of a rational,of an integer,a pointer,a slice,a function,any other,a string of any length -/
inductive Cl where
  | ci (k:IntKind) (z lo hi:Int)
  | cb (t:Bool) (d:Option Bool)
  | cw (l:List UInt8) (d:Option (Nat × Rat))
  | cr (j c k:Nat) (q:Rat)
  | cz (j c k:Nat) (q:Int)
  | cp (j off:Nat)
  | cs (j off len cap:Nat)
  | cf (fn:Nat) (caps:List (Nat × Nat))
  | cv (x:Value)
  | ct (l:List UInt8)
inductive TV where
  | vc (x:Cl)
  | vg (l:List Cl)
inductive SV where
  | so (x:TV)
  | st (l:List TV)
  | su
  | sj (j i:Nat)
  | fs (v:Value) (len c:Nat) (xs:List (List Cl))
  | fa (v:Value) (j:Nat) (cs:List Cl)
/-- the blocks,the rationals and the integers that the symbols name (from 10 on:anything) -/
structure Env where
  E:Nat→Nat
  R:Nat→Nat→Value
  Z:Nat→Nat→Value
  D:List Deferred
  K:List (Nat × Obj)
def Env.ptr (X:Env) (x:Nat × Nat):Value:=.pointer (some ⟨X.E x.1,x.2,none⟩)
def Cl.den (X:Env):Cl→Value
  | .ci k z _ _=>.int k z
  | .cb t _=>.bool t
  | .cw l _=>.string ⟨l.toArray⟩
  | .cr j c _ _=>X.R j c
  | .cz j c _ _=>X.Z j c
  | .cp j o=>.pointer (some ⟨X.E j,o,none⟩)
  | .cs j o l c=>.slice (some ⟨X.E j,o,none⟩) l c
  | .cf fn caps=>.func (.func fn) #[] (caps.map X.ptr).toArray
  | .cv x=>x
  | .ct l=>.string ⟨l.toArray⟩
def dnL (X:Env) (l:List Cl):Array Value:=(l.map (Cl.den X)).toArray
def TV.den (X:Env):TV→Value
  | .vc x=>x.den X
  | .vg l=>.agg (dnL X l)
def SV.den (X:Env):SV→Value
  | .so x=>x.den X
  | .st l=>.tuple (l.map (TV.den X)).toArray
  | .su=>undef
  | .sj j i=>X.Z j (10+i)
  | .fs v _ _ _=>v
  | .fa v j _=>adr v j
/-- how many of each there are -/
structure Nn where
  b:Nat
  r:Nat
  z:Nat
structure Nn.le (m n:Nn):Prop where
  b:m.b≤n.b
  r:m.r≤n.r
  z:m.z≤n.z
theorem Nn.le.refl (m:Nn):m.le m:=⟨Nat.le_refl _,Nat.le_refl _,Nat.le_refl _⟩
theorem Nn.le.trans {l m n:Nn} (h:l.le m) (k:m.le n):l.le n:=⟨Nat.le_trans h.b k.b,Nat.le_trans h.r k.r,Nat.le_trans h.z k.z⟩
def Cl.lt (n:Nn):Cl→Bool
  | .cr j c _ _=>Nat.blt j n.r&&Nat.blt c 4
  | .cz j c _ _=>Nat.blt j n.z&&Nat.blt c 2
  | .cp j _ | .cs j _ _ _=>Nat.blt j n.b
  | .cf _ caps=>caps.all fun x=>Nat.blt x.1 n.b
  | _=>true
def Cl.good (X:Env) (W:World):Cl→Prop
  | .ci _ z lo hi=>lo≤z∧z≤hi
  | .cb t d=>∀ v,d=some v→t=v
  | .cw l d=>∀ k q,d=some (k,q)→l=ratL q∧Sz k q.num∧Sz k (q.den:Int)
  | .cr j _ k q=>IsRat W k (X.R j 0) (X.R j 1) (X.R j 2) (X.R j 3) q
  | .cz j _ k q=>IsInt W k (X.Z j 0) (X.Z j 1) q
  | .cv x=>x.oneCell'=true
  | .ct l=>(l.length:Int)≤9223372036854775807
  | _=>True
def Cl.ok (n:Nn) (X:Env) (W:World) (c:Cl):Prop:=c.lt n=true∧c.good X W
def okL (n:Nn) (X:Env) (W:World) (l:List Cl):Prop:=∀ c ∈ l,c.ok n X W
def TV.ok (n:Nn) (X:Env) (W:World):TV→Prop
  | .vc x=>x.ok n X W
  | .vg l=>okL n X W l
/-- at cell j of a slice that came in lie such cells -/
def AtK (n:Nn) (X:Env) (W:World) (v:Value) (j:Nat) (cs:List Cl):Prop:=
  okL n X W cs∧∃ b o l cap us t fr,v=.slice (some ⟨b,o,none⟩) l cap∧(b,Obj.cells us t fr) ∈ X.K∧∀ (i:Nat) u,(cs.map (Cl.den X))[i]?=some u→us[o+j+i]?=some u
def SV.ok (n:Nn) (X:Env) (W:World):SV→Prop
  | .so x=>x.ok n X W
  | .st l=>∀ x ∈ l,x.ok n X W
  | .su=>True
  | .sj j _=>Nat.blt j n.z=true
  | .fs v len c xs=>(∃ ao cap,v=.slice ao len cap)∧∀ (i:Nat) cs,xs[i]?=some cs→AtK n X W v (i*c) cs
  | .fa v j cs=>AtK n X W v j cs
def okF (n:Nn) (X:Env) (W:World) (l:List SV):Prop:=∀ c ∈ l,c.ok n X W
/-- two environments agree on so many -/
structure Agr (n:Nn) (X Y:Env):Prop where
  E:∀ i,i<n.b→X.E i=Y.E i
  R:∀ i c,i<n.r→X.R i c=Y.R i c
  Z:∀ i c,i<n.z→X.Z i c=Y.Z i c
  D:(X.D,X.K)=(Y.D,Y.K)
theorem Agr.d {n:Nn} {X Y:Env} (h:Agr n X Y):X.D=Y.D:=congrArg Prod.fst h.D
theorem Agr.k {n:Nn} {X Y:Env} (h:Agr n X Y):X.K=Y.K:=congrArg Prod.snd h.D
theorem Agr.refl (n:Nn) (X:Env):Agr n X X:=⟨fun _ _=>rfl,fun _ _ _=>rfl,fun _ _ _=>rfl,rfl⟩
theorem Agr.trans {n:Nn} {X Y Z:Env} (h:Agr n X Y) (k:Agr n Y Z):Agr n X Z:=
  ⟨fun i hi=>(h.E i hi).trans (k.E i hi),fun i c hi=>(h.R i c hi).trans (k.R i c hi),fun i c hi=>(h.Z i c hi).trans (k.Z i c hi),h.D.trans k.D⟩
theorem Agr.mono {m n:Nn} {X Y:Env} (h:Agr n X Y) (hm:m.le n):Agr m X Y:=
  ⟨fun i hi=>h.E i (Nat.lt_of_lt_of_le hi hm.b),fun i c hi=>h.R i c (Nat.lt_of_lt_of_le hi hm.r),fun i c hi=>h.Z i c (Nat.lt_of_lt_of_le hi hm.z),h.D⟩
theorem blt_of {a b:Nat} (h:Nat.blt a b=true):a<b:=Nat.le_of_ble_eq_true h
theorem blt_to {a b:Nat} (h:a<b):Nat.blt a b=true:=Nat.ble_eq_true_of_le h
theorem blt_mono {a b c:Nat} (h:Nat.blt a b=true) (k:b≤c):Nat.blt a c=true:=blt_to (Nat.lt_of_lt_of_le (blt_of h) k)
theorem Cl.lt_mono {m n:Nn} (h:m.le n) {c:Cl} (hc:c.lt m=true):c.lt n=true:=by
  cases c with
  | cr j c k q=>
    simp only [Cl.lt,Bool.and_eq_true] at hc ⊢
    exact ⟨blt_mono hc.1 h.r,hc.2⟩
  | cz j c k q=>
    simp only [Cl.lt,Bool.and_eq_true] at hc ⊢
    exact ⟨blt_mono hc.1 h.z,hc.2⟩
  | cp j o=>exact blt_mono hc h.b
  | cs j o l c=>exact blt_mono hc h.b
  | cf fn caps=>
    simp only [Cl.lt,List.all_eq_true] at hc ⊢
    exact fun x hx=>blt_mono (hc x hx) h.b
  | _=>rfl
theorem Cl.den_agree {n:Nn} {X Y:Env} (h:Agr n X Y) {c:Cl} (hc:c.lt n=true):c.den X=c.den Y:=by
  cases c with
  | cr j c k q=>
    simp only [Cl.lt,Bool.and_eq_true] at hc
    exact h.R _ _ (blt_of hc.1)
  | cz j c k q=>
    simp only [Cl.lt,Bool.and_eq_true] at hc
    exact h.Z _ _ (blt_of hc.1)
  | cp j o=>simp only [Cl.den,h.E j (blt_of hc)]
  | cs j o l c=>simp only [Cl.den,h.E j (blt_of hc)]
  | cf fn caps=>
    simp only [Cl.lt,List.all_eq_true] at hc
    simp only [Cl.den]
    rw [List.map_congr_left (g:=Y.ptr) fun x hx=>?_]
    simp only [Env.ptr,h.E _ (blt_of (hc x hx))]
  | _=>rfl
theorem Cl.ok_to {m n:Nn} {X Y:Env} {V W:World} (hn:m.le n) (h:Agr m X Y) (hk:Kp V W) {c:Cl} (hc:c.ok m X V):c.ok n Y W:=by
  refine ⟨Cl.lt_mono hn hc.1,?_⟩
  have h1:=hc.1
  have h2:=hc.2
  cases c with
  | cr j c k q=>
    simp only [Cl.lt,Bool.and_eq_true] at h1
    have hj:=blt_of h1.1
    simp only [Cl.good,← h.R _ _ hj] at h2 ⊢
    exact h2.kp hk
  | cz j c k q=>
    simp only [Cl.lt,Bool.and_eq_true] at h1
    have hj:=blt_of h1.1
    simp only [Cl.good,← h.Z _ _ hj] at h2 ⊢
    exact h2.kp hk
  | _=>exact h2
theorem okL_to {m n:Nn} {X Y:Env} {V W:World} (hn:m.le n) (h:Agr m X Y) (hk:Kp V W) {l:List Cl} (hl:okL m X V l):okL n Y W l:=fun c hc=>Cl.ok_to hn h hk (hl c hc)
theorem TV.ok_to {m n:Nn} {X Y:Env} {V W:World} (hn:m.le n) (h:Agr m X Y) (hk:Kp V W) {x:TV} (hx:x.ok m X V):x.ok n Y W:=by
  cases x with
  | vc x=>exact Cl.ok_to hn h hk hx
  | vg l=>exact okL_to hn h hk hx
theorem AtK.to {m n:Nn} {X Y:Env} {V W:World} (hn:m.le n) (h:Agr m X Y) (hk:Kp V W) {v:Value} {j:Nat} {cs:List Cl} (hx:AtK m X V v j cs):AtK n Y W v j cs:=by
  obtain ⟨h0,b,o,l,cap,us,t,fr,h1,h2,h3⟩:=hx
  refine ⟨okL_to hn h hk h0,b,o,l,cap,us,t,fr,h1,h.k ▸ h2,?_⟩
  rw [← List.map_congr_left fun x hm=>Cl.den_agree h (h0 x hm).1]
  exact h3
theorem SV.ok_to {m n:Nn} {X Y:Env} {V W:World} (hn:m.le n) (h:Agr m X Y) (hk:Kp V W) {x:SV} (hx:x.ok m X V):x.ok n Y W:=by
  cases x with
  | so x=>exact TV.ok_to hn h hk hx
  | st l=>exact fun x hm=>TV.ok_to hn h hk (hx x hm)
  | su=>trivial
  | sj j i=>exact blt_mono hx hn.z
  | fs v len c xs=>exact ⟨hx.1,fun i cs hi=>(hx.2 i cs hi).to hn h hk⟩
  | fa v j cs=>exact AtK.to hn h hk hx
theorem okF_to {m n:Nn} {X Y:Env} {V W:World} (hn:m.le n) (h:Agr m X Y) (hk:Kp V W) {l:List SV} (hl:okF m X V l):okF n Y W l:=fun c hc=>SV.ok_to hn h hk (hl c hc)
theorem dnL_agree {n:Nn} {X Y:Env} (h:Agr n X Y) {l:List Cl} (hl:∀ c ∈ l,c.lt n=true):dnL X l=dnL Y l:=by
  unfold dnL
  rw [List.map_congr_left fun x hx=>Cl.den_agree h (hl x hx)]
theorem TV.den_agree {n:Nn} {X Y:Env} {W:World} (h:Agr n X Y) {x:TV} (hx:x.ok n X W):x.den X=x.den Y:=by
  cases x with
  | vc x=>exact Cl.den_agree h hx.1
  | vg l=>exact congrArg Value.agg (dnL_agree h fun c hc=>(hx c hc).1)
theorem SV.den_agree {n:Nn} {X Y:Env} {W:World} (h:Agr n X Y) {x:SV} (hx:x.ok n X W):x.den X=x.den Y:=by
  cases x with
  | so x=>exact TV.den_agree h hx
  | st l=>simp only [SV.den];rw [List.map_congr_left fun x hm=>TV.den_agree h (hx x hm)]
  | su=>rfl
  | sj j i=>exact h.Z _ _ (blt_of hx)
  | fs v len c xs=>rfl
  | fa v j cs=>rfl
theorem Cl.one {n:Nn} {X:Env} {W:World} {c:Cl} (h:c.ok n X W):(c.den X).oneCell'=true:=by
  have h1:=h.1
  have h2:=h.2
  cases c with
  | cr j c k q=>
    simp only [Cl.lt,Bool.and_eq_true] at h1
    have hc:=blt_of h1.2
    simp only [Cl.good] at h2
    simp only [Cl.den]
    match c,hc with
    | 0,_=>exact h2.one0
    | 1,_=>exact h2.one1
    | 2,_=>exact h2.one2
    | 3,_=>exact h2.one3
  | cz j c k q=>
    simp only [Cl.lt,Bool.and_eq_true] at h1
    have hc:=blt_of h1.2
    simp only [Cl.good] at h2
    simp only [Cl.den]
    match c,hc with
    | 0,_=>exact h2.one0
    | 1,_=>exact h2.one1
  | cv x=>exact h2
  | _=>rfl

/-! ### the same symbols beside other deferred calls -/
def Env.wd (X:Env) (D:List Deferred):Env:={X with D:=D}
theorem Cl.den_D (X:Env) (D:List Deferred) (c:Cl):c.den (X.wd D)=c.den X:=by cases c<;>rfl
theorem Cl.ok_D {n:Nn} {X:Env} {W:World} {c:Cl} (h:c.ok n X W) (D:List Deferred):c.ok n (X.wd D) W:=by
  refine ⟨h.1,?_⟩
  have:=h.2
  cases c<;>exact this
theorem okL_D {n:Nn} {X:Env} {W:World} {l:List Cl} (h:okL n X W l) (D:List Deferred):okL n (X.wd D) W l:=fun c hc=>Cl.ok_D (h c hc) D
theorem dnL_D (X:Env) (D:List Deferred) (l:List Cl):dnL (X.wd D) l=dnL X l:=by
  unfold dnL
  rw [List.map_congr_left fun c _=>Cl.den_D X D c]
theorem TV.den_D (X:Env) (D:List Deferred) (x:TV):x.den (X.wd D)=x.den X:=by
  cases x with
  | vc c=>exact Cl.den_D X D c
  | vg l=>exact congrArg Value.agg (dnL_D X D l)
theorem SV.den_D (X:Env) (D:List Deferred) (x:SV):x.den (X.wd D)=x.den X:=by
  cases x with
  | so x=>exact TV.den_D X D x
  | st l=>simp only [SV.den];rw [List.map_congr_left fun x _=>TV.den_D X D x]
  | su=>rfl
  | sj j i=>rfl
  | fs v len c xs=>rfl
  | fa v j cs=>rfl
theorem TV.ok_D {n:Nn} {X:Env} {W:World} {x:TV} (h:x.ok n X W) (D:List Deferred):x.ok n (X.wd D) W:=by
  cases x with
  | vc c=>exact Cl.ok_D h D
  | vg l=>exact okL_D h D
theorem AtK.d {n:Nn} {X:Env} {W:World} {v:Value} {j:Nat} {cs:List Cl} (hx:AtK n X W v j cs) (D:List Deferred):AtK n (X.wd D) W v j cs:=by
  obtain ⟨h0,b,o,l,cap,us,t,fr,h1,h2,h3⟩:=hx
  refine ⟨okL_D h0 D,b,o,l,cap,us,t,fr,h1,h2,?_⟩
  rw [List.map_congr_left fun x _=>Cl.den_D X D x]
  exact h3
theorem SV.ok_D {n:Nn} {X:Env} {W:World} {x:SV} (h:x.ok n X W) (D:List Deferred):x.ok n (X.wd D) W:=by
  cases x with
  | so x=>exact TV.ok_D h D
  | st l=>exact fun x hx=>TV.ok_D (h x hx) D
  | su=>trivial
  | sj j i=>exact h
  | fs v len c xs=>exact ⟨h.1,fun i cs hi=>(h.2 i cs hi).d D⟩
  | fa v j cs=>exact AtK.d h D
/-- the rational with this text -/
def litRat:List UInt8→Option (Nat × Rat)
  | [48]=>some (1,0)
  | [49]=>some (1,1)
  | [45,49]=>some (1,-1)
  | _=>none
theorem litRat_ok {l:List UInt8} {k:Nat} {q:Rat} (h:litRat l=some (k,q)):l=ratL q∧Sz k q.num∧Sz k (q.den:Int):=by
  unfold litRat at h
  split at h<;>first
    | cases h;done
    | (simp only [Option.some.injEq,Prod.mk.injEq] at h
       obtain ⟨rfl,rfl⟩:=h
       exact ⟨by kernel_rfl,of_decide_eq_true (p:=(_<2 ^ 1)) (by kernel_rfl),of_decide_eq_true (p:=(_<2 ^ 1)) (by kernel_rfl)⟩)
def clOf:Value→Option Cl
  | .bool b=>some (.cb b (some b))
  | .int k n=>some (.ci k n n n)
  | .string s=>some (.cw s.data.toList (litRat s.data.toList))
  | x=>if x.oneCell' then some (.cv x) else none
def clsOf:List Value→Option (List Cl)
  | []=>some []
  | v::l=>match clOf v,clsOf l with
    | some c,some r=>some (c::r)
    | _,_=>none
def svOf:Value→Option SV
  | .agg cs=>match clsOf cs.toList with
    | some l=>some (.so (.vg l))
    | none=>none
  | .tuple _=>none
  | v=>match clOf v with
    | some c=>some (.so (.vc c))
    | none=>none
theorem clOf_ok {v:Value} {c:Cl} (h:clOf v=some c) (n:Nn) (X:Env) (W:World):c.den X=v∧c.ok n X W:=by
  unfold clOf at h
  split at h
  · cases h;exact ⟨rfl,rfl,fun v hv=>by simpa using hv⟩
  · cases h;exact ⟨rfl,rfl,Int.le_refl _,Int.le_refl _⟩
  · cases h
    exact ⟨by simp [Cl.den],rfl,fun k q hq=>litRat_ok hq⟩
  · split at h
    · cases h;exact ⟨rfl,rfl,by assumption⟩
    · cases h
theorem clsOf_ok:∀ {l:List Value} {r:List Cl} (_:clsOf l=some r) (n:Nn) (X:Env) (W:World),r.map (Cl.den X)=l∧okL n X W r
  | [],r,h,n,X,W=>by cases h;exact ⟨rfl,fun _ hc=>by cases hc⟩
  | v::l,r,h,n,X,W=>by
    unfold clsOf at h
    split at h
    · rename_i c r' h1 h2
      cases h
      have a:=clOf_ok h1 n X W
      have b:=clsOf_ok h2 n X W
      refine ⟨by simp [a.1,b.1],fun x hx=>?_⟩
      rcases List.mem_cons.1 hx with rfl | hx
      · exact a.2
      · exact b.2 x hx
    · cases h
theorem svOf_ok {v:Value} {s:SV} (h:svOf v=some s) (n:Nn) (X:Env) (W:World):s.den X=v∧s.ok n X W:=by
  unfold svOf at h
  split at h
  · split at h
    · rename_i h1
      cases h
      have a:=clsOf_ok h1 n X W
      exact ⟨by simp [SV.den,TV.den,dnL,a.1],a.2⟩
    · cases h
  · cases h
  · split at h
    · rename_i h1
      cases h
      exact clOf_ok h1 n X W
    · cases h

/-! ### lists,quick for the kernel -/
noncomputable def nth {α:Type} (l:List α):Nat→Option α:=List.rec (motive:=fun _=>Nat→Option α) (fun _=>none) (fun a _ ih i=>Nat.rec (motive:=fun _=>Option α) (some a) (fun m _=>ih m) i) l
theorem nth_eq {α:Type}:∀ (l:List α) (i:Nat),nth l i=l[i]?
  | [],_=>rfl
  | _::_,0=>rfl
  | _::l,i+1=>nth_eq l i
noncomputable def setF {α β:Type} (l:List α):Nat→α→(List α→β)→β:=List.rec (motive:=fun _=>Nat→α→(List α→β)→β) (fun _ _ k=>k []) (fun a l ih i v k=>Nat.rec (motive:=fun _=>β) (k (v::l)) (fun m _=>ih m v fun r=>k (a::r)) i) l
theorem setF_eq {α β:Type}:∀ (l:List α) (i:Nat) (v:α) (k:List α→β),setF l i v k=k (l.set i v)
  | [],_,_,_=>rfl
  | _::_,0,_,_=>rfl
  | a::l,i+1,v,k=>setF_eq l i v fun r=>k (a::r)
noncomputable def frcL {α β:Type} (l:List α):(List α→β)→β:=List.rec (motive:=fun _=>(List α→β)→β) (fun k=>k []) (fun a _ ih k=>ih fun r=>k (a::r)) l
theorem frcL_eq {α β:Type}:∀ (l:List α) (k:List α→β),frcL l k=k l
  | [],_=>rfl
  | a::l,k=>frcL_eq l fun r=>k (a::r)
noncomputable def appF {α β:Type} (l m:List α):(List α→β)→β:=List.rec (motive:=fun _=>(List α→β)→β) (fun k=>k m) (fun a _ ih k=>ih fun r=>k (a::r)) l
theorem appF_eq {α β:Type} (m:List α):∀ (l:List α) (k:List α→β),appF l m k=k (l++m)
  | [],_=>rfl
  | a::l,k=>appF_eq m l fun r=>k (a::r)

/-! ### the frame -/
def actOf (X:Env) (fr:List SV):Act:=⟨(fr.map (SV.den X)).toArray,X.D⟩
noncomputable def ev (fr:List SV):Operand→Option SV
  | .tmp t=>nth fr t
  | .const v=>svOf v
  | .func f=>some (.so (.vc (.cf f [])))
  | .global _=>none
theorem ev_ok {fr:List SV} {x:Operand} {s:SV} (h:ev fr x=some s) {n:Nn} {X:Env} {W:World} (hf:okF n X W fr):(actOf X fr).eval x=s.den X∧s.ok n X W:=by
  cases x with
  | tmp t=>
    simp only [ev,nth_eq] at h
    refine ⟨?_,hf s (List.mem_of_getElem? h)⟩
    simp only [Act.eval,actOf,Array.getD_eq_getD_getElem?]
    simp [h]
  | const v=>
    have:=svOf_ok h n X W
    exact ⟨this.1.symm,this.2⟩
  | func f=>cases h;exact ⟨rfl,rfl,trivial⟩
  | global g=>cases h
theorem put_act (X:Env) (fr:List SV) (d:Nat) (s:SV):(actOf X fr).put (some d) (s.den X)=actOf X (fr.set d s):=by
  simp [actOf,Act.put,List.map_set]
theorem okF_set {n:Nn} {X:Env} {W:World} {fr:List SV} (hf:okF n X W fr) {d:Nat} {s:SV} (hs:s.ok n X W):okF n X W (fr.set d s):=fun c hc=>by
  rcases List.mem_or_eq_of_mem_set hc with h | h
  · exact hf c h
  · exact h ▸ hs
theorem actOf_agree {n:Nn} {X Y:Env} {W:World} (h:Agr n X Y) {fr:List SV} (hf:okF n X W fr):actOf X fr=actOf Y fr:=by
  unfold actOf
  rw [List.map_congr_left fun x hx=>SV.den_agree h (hf x hx),h.d]
set_option maxRecDepth 100000 in
set_option maxHeartbeats 1000000 in
theorem number_w {k:Nat} {u0 u1 u2 u3:Value} {a:Rat} {w:World} (ha:IsRat w k u0 u1 u2 u3 a) (_hk:k≤800000) (ht:Tab w) (hw:a.den=1):
    Calls Tryz.prog 35 #[(.agg #[u0,u1,u2,u3])] w fun e w'=>e=.returned (.string ⟨(ratL a).toArray⟩)∧Gr w w':=by
 go_enter Tryz.func35,Tryz.ntmps35
 have hB:=Gr.refl w
 refine wp_seq_k (fun K1 k1=>?_)
 refine rg [0,1] ?_
 refine se ?_
 refine eb 33 #[u0,u1,u2,u3] 1 hB fun b2 w2 g2 L2 o2 q2 hB=>?_
 simp only [p3,p4]
 refine sv 2 (.string ⟨([]:List UInt8).toArray⟩) ?_
 refine sq_nil ?_
 refine k1 _ _ ?_
 try clear k1 K1
 refine wp_seq_k (fun K3 k3=>?_)
 refine wp_seq_k (fun K4 k4=>?_)
 refine rg [0,1] ?_
 refine sw 3 (.agg #[u0,u1,u2,u3]) rfl (rl 33 0 [u0,u1,u2,u3] L2) ?_
 refine se ?_
 replace ha:=ha.kp g2.kp
 refine ec 4 (whole_t ha (by omega) hw) ?_
 rintro e5 w5 ⟨rfl,g5⟩
 refine ⟨_,rfl,?_⟩
 replace hB:=hB.trans g5
 simp only [p3,p4]
 refine sq_nil ?_
 refine k4 _ _ ?_
 try clear k4 K4
 refine wp_cond_true rfl ?_
 refine wp_seq_k (fun K6 k6=>?_)
 refine rg [0,1,2,3] ?_
 refine sv 5 (.pointer (some ⟨b2,0,none⟩)) ?_
 replace L2:=L2.gr g5
 refine sw 6 (.agg #[u0,u1]) rfl (rl 31 0 [u0,u1] L2) ?_
 refine se ?_
 replace ha:=ha.kp g5.kp
 refine ec 7 (text_i ha.num (by omega) (ht.gr hB)) ?_
 rintro e7 w7 ⟨rfl,g7⟩
 refine ⟨_,rfl,?_⟩
 replace hB:=hB.trans g7
 simp only [p3,p4]
 refine sv 2 (.string ⟨(Lib.itoa (a.num):List UInt8).toArray⟩) ?_
 refine sq_nil ?_
 refine k6 _ _ ?_
 try clear k6 K6
 refine wp_ret ?_
 simp only [Exit.then]
 refine bodyPost_ret (v:=(.string ⟨(Lib.itoa (a.num):List UInt8).toArray⟩)) (ret_tmp rfl rfl) rfl ⟨?_,hB⟩
 exact (by rw [ratL_w hw])

set_option maxRecDepth 100000 in
set_option maxHeartbeats 1000000 in
theorem number_d {k:Nat} {u0 u1 u2 u3:Value} {a:Rat} {w:World} (ha:IsRat w k u0 u1 u2 u3 a) (_hk:k≤800000) (ht:Tab w) (hd:IsInt w k u2 u3 (a.den:Int)) (hw:¬ a.den=1):
    Calls Tryz.prog 35 #[(.agg #[u0,u1,u2,u3])] w fun e w'=>e=.returned (.string ⟨(ratL a).toArray⟩)∧Gr w w':=by
 have hl1:=itoa_len ha.num.sz
 have hl2:=itoa_len hd.sz
 go_enter Tryz.func35,Tryz.ntmps35
 have hB:=Gr.refl w
 refine wp_seq_k (fun K1 k1=>?_)
 refine rg [0,1] ?_
 refine se ?_
 refine eb 33 #[u0,u1,u2,u3] 1 hB fun b2 w2 g2 L2 o2 q2 hB=>?_
 simp only [p3,p4]
 refine sv 2 (.string ⟨([]:List UInt8).toArray⟩) ?_
 refine sq_nil ?_
 refine k1 _ _ ?_
 try clear k1 K1
 refine wp_seq_k (fun K3 k3=>?_)
 refine wp_seq_k (fun K4 k4=>?_)
 refine rg [0,1] ?_
 refine sw 3 (.agg #[u0,u1,u2,u3]) rfl (rl 33 0 [u0,u1,u2,u3] L2) ?_
 refine se ?_
 replace ha:=ha.kp g2.kp
 refine ec 4 (whole_f ha (by omega) hw) ?_
 rintro e5 w5 ⟨rfl,g5⟩
 refine ⟨_,rfl,?_⟩
 replace hB:=hB.trans g5
 simp only [p3,p4]
 refine sq_nil ?_
 refine k4 _ _ ?_
 try clear k4 K4
 refine wp_cond_false rfl ?_
 refine wp_skip ?_
 refine k3 _ _ ?_
 try clear k3 K3
 refine wp_seq_k (fun K6 k6=>?_)
 have gd14:=Gr.drew w5
 replace hB:=hB.trans gd14
 replace L2:=L2.gr (g5.trans gd14)
 refine wp_region_ord (fun w'=>Lc w' b2 #[u0,u1,u2,u3] 33) [(true,0),(true,1),(true,4),(true,5),(false,2),(true,3),(false,6),(true,7),(true,8)] (by kernel_rfl) (by kernel_rfl) (by kernel_rfl) (by decide) (fun _ _ _ _ _ h=>h) L2 ?_
 refine ov 8 (.pointer (some ⟨b2,0,none⟩)) ?_
 refine ow 9 (.agg #[u0,u1]) rfl (fun w' hS=>(rl 31 0 [u0,u1] hS)) ?_
 refine ov 12 (.pointer (some ⟨b2,2,none⟩)) ?_
 refine ow 13 (.agg #[u2,u3]) rfl (fun w' hS=>(rl 31 2 [u2,u3] hS)) ?_
 refine oe ?_
 have kq17:=g5.kp.trans gd14.kp
 replace ha:=ha.kp kq17
 refine ec 10 (text_i ha.num (by omega) (ht.gr hB)) ?_
 rintro e16 w16 ⟨rfl,g16⟩
 refine ⟨_,rfl,?_⟩
 replace hB:=hB.trans g16
 replace L2:=L2.gr g16
 refine ⟨L2,?_⟩
 simp only [p3,p4]
 refine ow 11 (.string ⟨((Lib.itoa (a.num))++([47]):List UInt8).toArray⟩) rfl (fun w' hS=>(rv_cat 9 9 _ _ (Lib.itoa (a.num)) ([47]) rfl rfl rfl (by simp only [List.length_cons,List.length_nil];omega))) ?_
 refine oe ?_
 have kq20:=g2.kp.trans (g5.kp.trans (gd14.kp.trans g16.kp))
 replace hd:=hd.kp kq20
 refine ec 14 (text_i hd (by omega) (ht.gr hB)) ?_
 rintro e19 w19 ⟨rfl,g19⟩
 refine ⟨_,rfl,?_⟩
 replace hB:=hB.trans g19
 replace L2:=L2.gr g19
 refine ⟨L2,?_⟩
 simp only [p3,p4]
 refine ow 15 (.string ⟨(((Lib.itoa (a.num))++([47]))++(Lib.itoa ((a.den:Int))):List UInt8).toArray⟩) rfl (fun w' hS=>(rv_cat 9 9 _ _ ((Lib.itoa (a.num))++([47])) (Lib.itoa ((a.den:Int))) rfl rfl rfl (by simp only [List.length_append,List.length_cons,List.length_nil];omega))) ?_
 refine ov 2 (.string ⟨(((Lib.itoa (a.num))++([47]))++(Lib.itoa ((a.den:Int))):List UInt8).toArray⟩) ?_
 refine ord_nil ?_
 refine k6 _ _ ?_
 try clear k6 K6
 refine wp_ret ?_
 refine bodyPost_ret (v:=(.string ⟨(((Lib.itoa (a.num))++([47]))++(Lib.itoa ((a.den:Int))):List UInt8).toArray⟩)) (ret_tmp rfl rfl) rfl ⟨?_,hB⟩
 exact (by rw [ratL_f hw])

theorem number_r {k:Nat} {u0 u1 u2 u3:Value} {a:Rat} {w:World} (ha:IsRat w k u0 u1 u2 u3 a) (hk:k≤800000) (ht:Tab w):
    Calls Tryz.prog 35 #[.agg #[u0,u1,u2,u3]] w fun e w'=>e=.returned (.string ⟨(ratL a).toArray⟩)∧Gr w w':=by
  by_cases hw:a.den=1
  · exact number_w ha hk ht hw
  · obtain ⟨D,h2,h3⟩:=ha.den
    rcases h3 with h3 | ⟨_,h4⟩
    · subst h3;exact number_d ha hk ht h2 hw
    · exact absurd h4 hw

theorem itoa_litp {x:Int} (z:Nat) (e:x=(z:Int)) (h1:z<10):Lib.itoa x=[UInt8.ofNat (48+z)]:=by
  unfold Lib.itoa
  rw [e,if_neg (by omega),Int.toNat_natCast,dec_small h1]
theorem text_lit {X Y:List UInt8} (h:X=Y):(X==Y)=true:=by rw [h];exact beq_self_eq_true _
theorem ratL_litw {q:Rat} {Y:List UInt8} (h:(q.den==1)=true) (e:Lib.itoa q.num=Y):(ratL q==Y)=true:=by
  rw [ratL_w (by simpa using h)];exact text_lit e
theorem sz_divInt {k:Nat} {x y:Int} (hx:Sz k x) (hy:Sz k y) (h0:y≠0):Sz k (Rat.divInt x y).num∧Sz k ((Rat.divInt x y).den:Int):=by
  have key:∀ {x y:Int},Sz k x→Sz k y→0<y→Sz k (Rat.divInt x y).num∧Sz k ((Rat.divInt x y).den:Int):=by
    intro x y hx hy h0
    obtain ⟨h1,h2,h3⟩:=divInt_parts (N:=x) h0
    rw [h1,h2]
    exact ⟨sz_div hx h3,sz_div hy h3⟩
  rcases Int.lt_or_gt_of_ne h0 with h | h
  · have:=key hx.neg hy.neg (by omega)
    rwa [Rat.neg_divInt_neg] at this
  · exact key hx hy h
-- LEFT OUT:r1_check r1_check_l r1_digits r1_digits_i r1_divmod r1_gcd r1_minus r1_minus_f r1_minus_i r1_mul r1_order r1_order_i r1_plus r1_plus_i r1_sign_i r1_sign_n r1_sign_p r1_sign_v r1_sign_z r1_sub_one r1_text r1_text_s r1_text_z r1_trim r2_check r2_digits r2_parts r2_parts_q r2_slash r2_text_q r2_zeros text_at wpList_makeI
def sEq:List (List UInt8)→List (List UInt8)→Bool
  | x::xs,y::ys=>x==y&&sEq xs ys
  | _,_=>true
theorem items_strs {P:Program} {w:World} {d e:Nat} (he:P.underlying e=some .string) (hp:P.plainKey e=true) (A B:Array Value):
    ∀ (X Y:List (List UInt8)) (i0:Nat),X.length=Y.length→(∀ j x,X[j]?=some x→A[i0+j]?=some (.string ⟨x.toArray⟩))→(∀ j y,Y[j]?=some y→B[i0+j]?=some (.string ⟨y.toArray⟩))→
      (Op.eqItems (d+1) e 1 A B (List.range' i0 X.length)).run P w=.ok (sEq X Y) w
  | [],_,_,_,_,_=>by simp [Op.eqItems,sEq]
  | x::xs,[],_,h,_,_=>by simp at h
  | x::xs,y::ys,i0,h,hA,hB=>by
    have h1:A[i0]?=some (.string ⟨x.toArray⟩):=hA 0 x rfl
    have h2:B[i0]?=some (.string ⟨y.toArray⟩):=hB 0 y rfl
    have ih:=items_strs (w:=w) (d:=d) he hp A B xs ys (i0+1) (by simpa using h) (fun j z hj=>by have:=hA (j+1) z hj;rwa [show i0+(j+1)=i0+1+j by omega] at this)
      (fun j z hj=>by have:=hB (j+1) z hj;rwa [show i0+(j+1)=i0+1+j by omega] at this)
    have e:((⟨x.toArray⟩:ByteArray).toList==(⟨y.toArray⟩:ByteArray).toList)=(x==y):=by rw [ByteArray.toList_eq,ByteArray.toList_eq]
    rw [List.length_cons,List.range'_succ]
    simp only [Op.eqItems,Sem.run_bind,Nat.mul_one,run_part_plain w hp h1,run_part_plain w hp h2,Result.andThen_ok,run_equalIn_string w d _ _ _ he,e,sEq]
    cases hxy:(x==y) with
    | true=>simpa using ih
    | false=>simp
section
variable {P:Program} {a:Act} {o:Oper} {w:World}
theorem strs_equal {t e:Nat} (X Y:List (List UInt8)) (hu:P.underlying t=some (.array X.length e)) (hn:X.length=Y.length)
    (he:(P.underlying e,(P.info? e).isSome,P.cellsOf e,P.plainKey e)=(some .string,true,1,true)):
    (Op.equal t (.agg (X.map fun l=>Value.string ⟨l.toArray⟩).toArray) (.agg (Y.map fun l=>Value.string ⟨l.toArray⟩).toArray)).run P w=.ok (sEq X Y) w:=by
  simp only [Prod.mk.injEq] at he
  obtain ⟨h1,h2,h3,h4⟩:=he
  obtain ⟨i,hi⟩:=Option.isSome_iff_exists.1 h2
  show (Op.equalIn (9999+1) t _ _).run P w=_
  rw [run_equalIn_array w 9999 _ _ hu hi,h3,List.range_eq_range']
  exact items_strs (d:=9998) h1 h4 _ _ X Y 0 hn (fun j x hj=>by simp [hj]) (fun j y hj=>by simp [hj])
theorem rv_ssq (t t2 e:Nat) (x y:Operand) (X Y:List (List UInt8)) (hop:o.op=.binOp .eql t x y t2) (hx:a.eval x=.agg (X.map fun l=>Value.string ⟨l.toArray⟩).toArray) (hy:a.eval y=.agg (Y.map fun l=>Value.string ⟨l.toArray⟩).toArray)
    (hu:(P.underlying t,decide (X.length=Y.length))=(some (.array X.length e),true)) (he:(P.underlying e,(P.info? e).isSome,P.cellsOf e,P.plainKey e)=(some .string,true,1,true)) (hg:P.eqGuardType P.depth t=false):
    RunV P a o w (.bool (sEq X Y)):=by
  simp only [Prod.mk.injEq,decide_eq_true_eq] at hu
  have h:=strs_equal (w:=w) X Y hu.1 hu.2 he
  unfold RunV execOp
  simp only [hop,hx,hy]
  simp [go_sem,binOp,eqGuard,hg,h]
theorem rv_ssn (t t2 e:Nat) (x y:Operand) (X Y:List (List UInt8)) (hop:o.op=.binOp .neq t x y t2) (hx:a.eval x=.agg (X.map fun l=>Value.string ⟨l.toArray⟩).toArray) (hy:a.eval y=.agg (Y.map fun l=>Value.string ⟨l.toArray⟩).toArray)
    (hu:(P.underlying t,decide (X.length=Y.length))=(some (.array X.length e),true)) (he:(P.underlying e,(P.info? e).isSome,P.cellsOf e,P.plainKey e)=(some .string,true,1,true)) (hg:P.eqGuardType P.depth t=false):
    RunV P a o w (.bool (!sEq X Y)):=by
  simp only [Prod.mk.injEq,decide_eq_true_eq] at hu
  have h:=strs_equal (w:=w) X Y hu.1 hu.2 he
  unfold RunV execOp
  simp only [hop,hx,hy]
  simp [go_sem,binOp,eqGuard,hg,h]
end
theorem sEq_same:∀ (X:List (List UInt8)),sEq X X=true
  | []=>rfl
  | x::xs=>by rw [sEq,sEq_same xs,beq_self_eq_true];rfl
/-- both numbers of a rational are of less than k bits -/
abbrev RS (k:Nat) (a:Rat):Prop:=Sz k a.num∧Sz k (a.den:Int)
theorem RS.add {k m:Nat} {a b:Rat} (ha:RS k a) (hb:RS m b):RS (k+m+1) (a+b):=by
  rw [← rat_add]
  have h:=(ha.1.mul hb.2).add' (by have:=hb.1.mul ha.2;rw [Nat.add_comm] at this;exact this)
  exact sz_divInt h ((ha.2.mul hb.2).mono (by omega)) (Int.ne_of_gt (den2_pos a b))
theorem RS.mul {k m:Nat} {a b:Rat} (ha:RS k a) (hb:RS m b):RS (k+m) (a*b):=by
  rw [← rat_mul]
  exact sz_divInt (ha.1.mul hb.1) (ha.2.mul hb.2) (Int.ne_of_gt (den2_pos a b))
theorem RS.neg {k:Nat} {a:Rat} (h:RS k a):RS k (-a):=rsz_neg h
theorem RS.sub {k m:Nat} {a b:Rat} (ha:RS k a) (hb:RS m b):RS (k+m+1) (a - b):=by
  rw [Rat.sub_eq_add_neg];exact ha.add hb.neg
theorem RS.div {k m:Nat} {a b:Rat} (ha:RS k a) (hb:RS m b) (h0:b.num≠0):RS (k+m) (a/b):=by
  rw [← rat_div]
  exact sz_divInt (ha.1.mul hb.2) (ha.2.mul hb.1) (Int.mul_ne_zero (Int.ne_of_gt (den_pos_i a)) h0)
theorem RS.int {k:Nat} {z:Int} (h:Sz k z) (hk:0<k):RS k (z:Rat):=⟨h,show (1:Nat)<2 ^ k from Nat.one_lt_two_pow (by omega)⟩
theorem RS.mono {k m:Nat} {a:Rat} (h:RS k a) (hk:k≤m):RS m a:=⟨h.1.mono hk,h.2.mono hk⟩
def allEq:List Int→List Int→Bool
  | x::xs,y::ys=>x==y&&allEq xs ys
  | _,_=>true
/-- the same,from the left on -/
def eqL:Bool→List Int→List Int→Bool
  | b,x::xs,y::ys=>eqL (b&&x==y) xs ys
  | b,_,_=>b
theorem eqL_all:∀ (X Y:List Int) (b:Bool),eqL b X Y=(b&&allEq X Y)
  | [],_,b=>by simp [eqL,allEq]
  | _::_,[],b=>by simp [eqL,allEq]
  | x::xs,y::ys,b=>by rw [eqL,eqL_all xs ys,allEq,Bool.and_assoc]
def conjL:List Int→List Int→Bool
  | x::xs,y::ys=>eqL (x==y) xs ys
  | _,_=>true
theorem conjL_all (X Y:List Int):conjL X Y=allEq X Y:=by
  cases X with
  | nil=>cases Y<;>rfl
  | cons x xs=>cases Y with
    | nil=>rfl
    | cons y ys=>rw [conjL,eqL_all,allEq]

theorem items_int {P:Program} {w:World} {d e:Nat} {k:IntKind} (he:P.underlying e=some (.int k)) (hp:P.plainKey e=true) (A B:Array Value):
    ∀ (X Y:List Int) (i0:Nat),X.length=Y.length→(∀ j x,X[j]?=some x→A[i0+j]?=some (.int k x))→(∀ j y,Y[j]?=some y→B[i0+j]?=some (.int k y))→
      (Op.eqItems (d+1) e 1 A B (List.range' i0 X.length)).run P w=.ok (allEq X Y) w
  | [],_,_,_,_,_=>by simp [Op.eqItems,allEq]
  | x::xs,[],_,h,_,_=>by simp at h
  | x::xs,y::ys,i0,h,hA,hB=>by
    have h1:A[i0]?=some (.int k x):=hA 0 x rfl
    have h2:B[i0]?=some (.int k y):=hB 0 y rfl
    have ih:=items_int (w:=w) (d:=d) he hp A B xs ys (i0+1) (by simpa using h) (fun j z hj=>by have:=hA (j+1) z hj;rwa [show i0+(j+1)=i0+1+j by omega] at this)
      (fun j z hj=>by have:=hB (j+1) z hj;rwa [show i0+(j+1)=i0+1+j by omega] at this)
    rw [List.length_cons,List.range'_succ]
    simp only [Op.eqItems,Sem.run_bind,Nat.mul_one,run_part_plain w hp h1,run_part_plain w hp h2,Result.andThen_ok,run_equalIn_int w d e k k x y he,allEq]
    cases hxy:(x==y) with
    | true=>simpa using ih
    | false=>simp

section
variable {P:Program} {a:Act} {o:Oper} {w:World}
theorem arr_equal {t e:Nat} {k:IntKind} (X Y:List Int) (hu:P.underlying t=some (.array X.length e)) (hn:X.length=Y.length)
    (he:(P.underlying e,(P.info? e).isSome,P.cellsOf e,P.plainKey e)=(some (.int k),true,1,true)):
    (Op.equal t (.agg (X.map (Value.int k)).toArray) (.agg (Y.map (Value.int k)).toArray)).run P w=.ok (allEq X Y) w:=by
  simp only [Prod.mk.injEq] at he
  obtain ⟨h1,h2,h3,h4⟩:=he
  obtain ⟨i,hi⟩:=Option.isSome_iff_exists.1 h2
  show (Op.equalIn (9999+1) t _ _).run P w=_
  rw [run_equalIn_array w 9999 _ _ hu hi,h3,List.range_eq_range']
  exact items_int (d:=9998) h1 h4 _ _ X Y 0 hn (fun j x hj=>by simp [hj]) (fun j y hj=>by simp [hj])
theorem rv_arreq (t t2 e:Nat) {k:IntKind} (x y:Operand) (X Y:List Int) (hop:o.op=.binOp .eql t x y t2) (hx:a.eval x=.agg (X.map (Value.int k)).toArray) (hy:a.eval y=.agg (Y.map (Value.int k)).toArray)
    (hu:(P.underlying t,decide (X.length=Y.length))=(some (.array X.length e),true)) (he:(P.underlying e,(P.info? e).isSome,P.cellsOf e,P.plainKey e)=(some (.int k),true,1,true)) (hg:P.eqGuardType P.depth t=false):
    RunV P a o w (.bool (conjL X Y)):=by
  simp only [Prod.mk.injEq,decide_eq_true_eq] at hu
  have h:=arr_equal (w:=w) X Y hu.1 hu.2 he
  rw [conjL_all]
  unfold RunV execOp
  simp only [hop,hx,hy]
  simp [go_sem,binOp,eqGuard,hg,h]
theorem rv_arrne (t t2 e:Nat) {k:IntKind} (x y:Operand) (X Y:List Int) (hop:o.op=.binOp .neq t x y t2) (hx:a.eval x=.agg (X.map (Value.int k)).toArray) (hy:a.eval y=.agg (Y.map (Value.int k)).toArray)
    (hu:(P.underlying t,decide (X.length=Y.length))=(some (.array X.length e),true)) (he:(P.underlying e,(P.info? e).isSome,P.cellsOf e,P.plainKey e)=(some (.int k),true,1,true)) (hg:P.eqGuardType P.depth t=false):
    RunV P a o w (.bool (!conjL X Y)):=by
  simp only [Prod.mk.injEq,decide_eq_true_eq] at hu
  have h:=arr_equal (w:=w) X Y hu.1 hu.2 he
  rw [conjL_all]
  unfold RunV execOp
  simp only [hop,hx,hy]
  simp [go_sem,binOp,eqGuard,hg,h]
end
section
variable {P:Program} {a:Act} {o:Oper} {w:World}
theorem run_part_arr {e n e' off:Nat} {xs:Array Value} (hu:P.underlying e=some (.array n e')):(part e xs off).run P w=.ok (.agg (xs.extract off (off+P.cellsOf e))) w:=by
  obtain ⟨i,hi⟩:=info_of_underlying hu
  simp [part,isAgg,run_underlying hu,run_sizeOf w hi]
theorem plc_equal {t tA tS eA eS:Nat} (z0 z1 z2 z3 y0 y1 y2 y3:Int) (X0 X1 X2 Y0 Y1 Y2:List UInt8)
    (ht:P.underlying t=some (.struct (P.fieldsOf t))) (hs:P.stoodInHeld t=false)
    (hf:((P.fieldsOf t).toList.map fun f=>(f.name=="_",f.type,f.offset))=[(false,tA,0),(false,tS,4)])
    (hA:(P.underlying tA,P.cellsOf tA)=(some (.array 4 eA),4)) (hS:(P.underlying tS,P.cellsOf tS)=(some (.array 3 eS),3))
    (heA:(P.underlying eA,(P.info? eA).isSome,P.cellsOf eA,P.plainKey eA)=(some (.int .i64),true,1,true))
    (heS:(P.underlying eS,(P.info? eS).isSome,P.cellsOf eS,P.plainKey eS)=(some .string,true,1,true)):
    (Op.equal t (.agg #[.int .i64 z0,.int .i64 z1,.int .i64 z2,.int .i64 z3,.string ⟨X0.toArray⟩,.string ⟨X1.toArray⟩,.string ⟨X2.toArray⟩])
      (.agg #[.int .i64 y0,.int .i64 y1,.int .i64 y2,.int .i64 y3,.string ⟨Y0.toArray⟩,.string ⟨Y1.toArray⟩,.string ⟨Y2.toArray⟩])).run P w
      =.ok (allEq [z0,z1,z2,z3] [y0,y1,y2,y3]&&sEq [X0,X1,X2] [Y0,Y1,Y2]) w:=by
  simp only [Prod.mk.injEq] at hA hS
  obtain ⟨hA1,hA2⟩:=hA
  obtain ⟨hS1,hS2⟩:=hS
  obtain ⟨f1,f2,hfs⟩:∃ f1 f2,(P.fieldsOf t).toList=[f1,f2]:=by
    generalize (P.fieldsOf t).toList=l at hf
    rcases l with _ | ⟨f1,_ | ⟨f2,_ | ⟨f3,l⟩⟩⟩
    · simp at hf
    · simp at hf
    · exact ⟨f1,f2,rfl⟩
    · simp at hf
  rw [hfs] at hf
  simp only [List.map_cons,List.map_nil,List.cons.injEq,Prod.mk.injEq,and_true,beq_eq_false_iff_ne,ne_eq] at hf
  obtain ⟨⟨n1,t1,o1⟩,n2,t2,o2⟩:=hf
  have p1:=run_part_arr (P:=P) (w:=w) (off:=0) (xs:=#[.int .i64 z0,.int .i64 z1,.int .i64 z2,.int .i64 z3,.string ⟨X0.toArray⟩,.string ⟨X1.toArray⟩,.string ⟨X2.toArray⟩]) hA1
  have p2:=run_part_arr (P:=P) (w:=w) (off:=0) (xs:=#[.int .i64 y0,.int .i64 y1,.int .i64 y2,.int .i64 y3,.string ⟨Y0.toArray⟩,.string ⟨Y1.toArray⟩,.string ⟨Y2.toArray⟩]) hA1
  have p3:=run_part_arr (P:=P) (w:=w) (off:=4) (xs:=#[.int .i64 z0,.int .i64 z1,.int .i64 z2,.int .i64 z3,.string ⟨X0.toArray⟩,.string ⟨X1.toArray⟩,.string ⟨X2.toArray⟩]) hS1
  have p4:=run_part_arr (P:=P) (w:=w) (off:=4) (xs:=#[.int .i64 y0,.int .i64 y1,.int .i64 y2,.int .i64 y3,.string ⟨Y0.toArray⟩,.string ⟨Y1.toArray⟩,.string ⟨Y2.toArray⟩]) hS1
  rw [hA2] at p1 p2
  rw [hS2] at p3 p4
  have q1:(Op.equalIn 9999 tA (.agg #[.int .i64 z0,.int .i64 z1,.int .i64 z2,.int .i64 z3]) (.agg #[.int .i64 y0,.int .i64 y1,.int .i64 y2,.int .i64 y3])).run P w=.ok (allEq [z0,z1,z2,z3] [y0,y1,y2,y3]) w:=by
    simp only [Prod.mk.injEq] at heA
    obtain ⟨h1,h2,h3,h4⟩:=heA
    obtain ⟨i,hi⟩:=Option.isSome_iff_exists.1 h2
    show (Op.equalIn (9998+1) tA _ _).run P w=_
    rw [run_equalIn_array w 9998 _ _ hA1 hi,h3,List.range_eq_range']
    exact items_int (d:=9997) h1 h4 _ _ [z0,z1,z2,z3] [y0,y1,y2,y3] 0 rfl (fun j x hj=>by
      rcases j with _ | _ | _ | _ | j<;>simp_all) (fun j x hj=>by rcases j with _ | _ | _ | _ | j<;>simp_all)
  have q2:(Op.equalIn 9999 tS (.agg #[.string ⟨X0.toArray⟩,.string ⟨X1.toArray⟩,.string ⟨X2.toArray⟩]) (.agg #[.string ⟨Y0.toArray⟩,.string ⟨Y1.toArray⟩,.string ⟨Y2.toArray⟩])).run P w=.ok (sEq [X0,X1,X2] [Y0,Y1,Y2]) w:=by
    simp only [Prod.mk.injEq] at heS
    obtain ⟨h1,h2,h3,h4⟩:=heS
    obtain ⟨i,hi⟩:=Option.isSome_iff_exists.1 h2
    show (Op.equalIn (9998+1) tS _ _).run P w=_
    rw [run_equalIn_array w 9998 _ _ hS1 hi,h3,List.range_eq_range']
    exact items_strs (d:=9997) h1 h4 _ _ [X0,X1,X2] [Y0,Y1,Y2] 0 rfl (fun j x hj=>by
      rcases j with _ | _ | _ | j<;>simp_all) (fun j x hj=>by rcases j with _ | _ | _ | j<;>simp_all)
  show (Op.equalIn (9999+1) t _ _).run P w=_
  rw [run_equalIn_struct w 9999 t _ _ ht hs,hfs]
  simp only [Op.eqFields,n1,n2,t1,t2,o1,o2,not_false_eq_true,ne_eq,if_true,Sem.run_bind,p1,p2,Result.andThen_ok]
  simp only [Array.extract,Nat.zero_add]
  refine Eq.trans (b:=Result.andThen (.ok (allEq [z0,z1,z2,z3] [y0,y1,y2,y3]) w) _) (congrArg (fun r=>Result.andThen r _) q1) ?_
  rw [Result.andThen_ok]
  cases h:allEq [z0,z1,z2,z3] [y0,y1,y2,y3] with
  | false=>simp
  | true=>
    simp only [Bool.not_true,Bool.false_eq_true,if_false,Sem.run_bind,p3,p4,Result.andThen_ok]
    refine Eq.trans (b:=Result.andThen (.ok (sEq [X0,X1,X2] [Y0,Y1,Y2]) w) _) (congrArg (fun r=>Result.andThen r _) q2) ?_
    rw [Result.andThen_ok]
    cases h2:sEq [X0,X1,X2] [Y0,Y1,Y2]<;>simp
theorem rv_plceq (t t2 tA tS eA eS:Nat) (x y:Operand) (z0 z1 z2 z3 y0 y1 y2 y3:Int) (X0 X1 X2 Y0 Y1 Y2:List UInt8) (hop:o.op=.binOp .eql t x y t2)
    (hx:a.eval x=.agg #[.int .i64 z0,.int .i64 z1,.int .i64 z2,.int .i64 z3,.string ⟨X0.toArray⟩,.string ⟨X1.toArray⟩,.string ⟨X2.toArray⟩])
    (hy:a.eval y=.agg #[.int .i64 y0,.int .i64 y1,.int .i64 y2,.int .i64 y3,.string ⟨Y0.toArray⟩,.string ⟨Y1.toArray⟩,.string ⟨Y2.toArray⟩])
    (ht:P.underlying t=some (.struct (P.fieldsOf t))) (hs:P.stoodInHeld t=false)
    (hf:((P.fieldsOf t).toList.map fun f=>(f.name=="_",f.type,f.offset))=[(false,tA,0),(false,tS,4)])
    (hA:(P.underlying tA,P.cellsOf tA)=(some (.array 4 eA),4)) (hS:(P.underlying tS,P.cellsOf tS)=(some (.array 3 eS),3))
    (heA:(P.underlying eA,(P.info? eA).isSome,P.cellsOf eA,P.plainKey eA)=(some (.int .i64),true,1,true))
    (heS:(P.underlying eS,(P.info? eS).isSome,P.cellsOf eS,P.plainKey eS)=(some .string,true,1,true)) (hg:P.eqGuardType P.depth t=false):
    RunV P a o w (.bool (allEq [z0,z1,z2,z3] [y0,y1,y2,y3]&&sEq [X0,X1,X2] [Y0,Y1,Y2])):=by
  have h:=plc_equal (P:=P) (w:=w) z0 z1 z2 z3 y0 y1 y2 y3 X0 X1 X2 Y0 Y1 Y2 ht hs hf hA hS heA heS
  unfold RunV execOp
  simp only [hop,hx,hy]
  simp [go_sem,binOp,eqGuard,hg,h]
theorem rv_plcne (t t2 tA tS eA eS:Nat) (x y:Operand) (z0 z1 z2 z3 y0 y1 y2 y3:Int) (X0 X1 X2 Y0 Y1 Y2:List UInt8) (hop:o.op=.binOp .neq t x y t2)
    (hx:a.eval x=.agg #[.int .i64 z0,.int .i64 z1,.int .i64 z2,.int .i64 z3,.string ⟨X0.toArray⟩,.string ⟨X1.toArray⟩,.string ⟨X2.toArray⟩])
    (hy:a.eval y=.agg #[.int .i64 y0,.int .i64 y1,.int .i64 y2,.int .i64 y3,.string ⟨Y0.toArray⟩,.string ⟨Y1.toArray⟩,.string ⟨Y2.toArray⟩])
    (ht:P.underlying t=some (.struct (P.fieldsOf t))) (hs:P.stoodInHeld t=false)
    (hf:((P.fieldsOf t).toList.map fun f=>(f.name=="_",f.type,f.offset))=[(false,tA,0),(false,tS,4)])
    (hA:(P.underlying tA,P.cellsOf tA)=(some (.array 4 eA),4)) (hS:(P.underlying tS,P.cellsOf tS)=(some (.array 3 eS),3))
    (heA:(P.underlying eA,(P.info? eA).isSome,P.cellsOf eA,P.plainKey eA)=(some (.int .i64),true,1,true))
    (heS:(P.underlying eS,(P.info? eS).isSome,P.cellsOf eS,P.plainKey eS)=(some .string,true,1,true)) (hg:P.eqGuardType P.depth t=false):
    RunV P a o w (.bool (!(allEq [z0,z1,z2,z3] [y0,y1,y2,y3]&&sEq [X0,X1,X2] [Y0,Y1,Y2]))):=by
  have h:=plc_equal (P:=P) (w:=w) z0 z1 z2 z3 y0 y1 y2 y3 X0 X1 X2 Y0 Y1 Y2 ht hs hf hA hS heA heS
  unfold RunV execOp
  simp only [hop,hx,hy]
  simp [go_sem,binOp,eqGuard,hg,h]
/-- the types of a struct of four ints and three texts -/
def plcT (P:Program) (t:TypeId):Bool:=match P.underlying t with
  | some (.struct fs)=>match fs.toList with
    | [f,g]=>f.name !="_"&&g.name !="_"&&Nat.beq f.offset 0&&Nat.beq g.offset 4&&!P.stoodInHeld t&&(match P.underlying f.type,P.underlying g.type with
      | some (.array 4 d),some (.array 3 e)=>Nat.beq (P.cellsOf f.type) 4&&Nat.beq (P.cellsOf g.type) 3&&(match P.underlying d,P.underlying e with
        | some (.int .i64),some .string=>(P.info? d).isSome&&Nat.beq (P.cellsOf d) 1&&P.plainKey d&&(P.info? e).isSome&&Nat.beq (P.cellsOf e) 1&&P.plainKey e
        | _,_=>false)
      | _,_=>false)
    | _=>false
  | _=>false
theorem plcT_ok {t:TypeId} (h:plcT P t=true):∃ tA tS eA eS,P.underlying t=some (.struct (P.fieldsOf t))∧P.stoodInHeld t=false∧((P.fieldsOf t).toList.map fun f=>(f.name=="_",f.type,f.offset))=[(false,tA,0),(false,tS,4)]∧
    (P.underlying tA,P.cellsOf tA)=(some (.array 4 eA),4)∧(P.underlying tS,P.cellsOf tS)=(some (.array 3 eS),3)∧(P.underlying eA,(P.info? eA).isSome,P.cellsOf eA,P.plainKey eA)=(some (.int .i64),true,1,true)∧
    (P.underlying eS,(P.info? eS).isSome,P.cellsOf eS,P.plainKey eS)=(some .string,true,1,true):=by
  unfold plcT at h
  split at h
  · rename_i fs hu
    split at h
    · rename_i f g hl
      simp only [Bool.and_eq_true,Nat.beq_eq,bne_iff_ne,ne_eq,Bool.not_eq_true'] at h
      obtain ⟨⟨⟨⟨⟨n1,n2⟩,o1⟩,o2⟩,hs⟩,h⟩:=h
      split at h
      · rename_i d e hd he
        simp only [Bool.and_eq_true,Nat.beq_eq] at h
        obtain ⟨⟨c1,c2⟩,h⟩:=h
        split at h
        · rename_i kd ke
          simp only [Bool.and_eq_true,Nat.beq_eq] at h
          obtain ⟨⟨⟨⟨⟨i1,i2⟩,i3⟩,j1⟩,j2⟩,j3⟩:=h
          have hf:P.fieldsOf t=fs:=by unfold Program.fieldsOf;rw [hu]
          refine ⟨f.type,g.type,d,e,by rw [hf];exact hu,hs,?_,by rw [hd,c1],by rw [he,c2],by rw [kd,i1,i2,i3],by rw [ke,j1,j2,j3]⟩
          rw [hf,hl]
          simp [n1,n2,o1,o2]
        · cases h
      · cases h
    · cases h
  · cases h
end
end Go.Proofs.YthhbibpaeonecaaGreatDoor
