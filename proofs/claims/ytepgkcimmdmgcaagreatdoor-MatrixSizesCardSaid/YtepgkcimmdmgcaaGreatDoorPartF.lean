/- Joined of: Rda, Gen47, Li, Lv, Gen191. -/
import Derived.Test.YtepgkcimmdmgcaaGreatDoorPartE
import Derived.Test.YtepgkcimmdmgcaaGreatDoorPartB
import Derived.ChangeArms
namespace Go.Proofs.YtepgkcimmdmgcaaGreatDoor
open Go.RowKit

theorem trimS_nil {l cs:List UInt8}:Lib.trimS l cs=[]↔∀ c ∈ l,cs.contains c=true:=by
  constructor
  · intro h c hc
    rcases Bool.eq_false_or_eq_true (cs.contains c) with e | e
    · exact e
    · exact absurd h (trimS_some hc e)
  · exact trimS_all
theorem digit_iff {c:UInt8}:[48,49,50,51,52,53,54,55,56,57].contains c=true↔48≤c.toNat∧c.toNat≤57:=by
  constructor
  · intro h
    simp only [List.contains_cons,List.contains_nil,Bool.or_eq_true,beq_iff_eq,Bool.or_false] at h
    rcases h with rfl | rfl | rfl | rfl | rfl | rfl | rfl | rfl | rfl | rfl<;>decide
  · exact digit_in
/-- some bytes,all of them digits -/
theorem allD_trim (l:List UInt8):allD l=((l !=([]:List UInt8))&&(Lib.trimS l [48,49,50,51,52,53,54,55,56,57]==([]:List UInt8))):=by
  rw [Bool.eq_iff_iff]
  simp only [allD,Bool.and_eq_true,decide_eq_true_eq,List.all_eq_true,bne_iff_ne,beq_iff_eq,trimS_nil,digit_iff,isD_iff]
  rw [← List.length_pos_iff]
theorem zeros_trim (l:List UInt8):zerosL l=(Lib.trimS l [48]==([]:List UInt8)):=by
  rw [Bool.eq_iff_iff]
  simp [zerosL,trimS_nil]
theorem trim_any (l:List UInt8) (hl:l.length≤1000000) (w:World):
    Calls Tryz.prog 128 #[.string ⟨l.toArray⟩,.string ⟨#[48,49,50,51,52,53,54,55,56,57]⟩] w fun e w'=>e=.returned (.string ⟨(Lib.trimS l [48,49,50,51,52,53,54,55,56,57]).toArray⟩)∧Gr w w':=by
  refine (Any.strings_Trim_laid Tryz.lays160 (by kernel_rfl) ⟨l.toArray⟩ ⟨#[48,49,50,51,52,53,54,55,56,57]⟩ w (by show l.toArray.size≤_;simp;omega) (by decide) (ascii_of_all (by decide))).mono ?_
  rintro e w1 ⟨he,g⟩
  exact ⟨he,g⟩
theorem trim_any0 (l:List UInt8) (hl:l.length≤1000000) (w:World):
    Calls Tryz.prog 128 #[.string ⟨l.toArray⟩,.string ⟨#[48]⟩] w fun e w'=>e=.returned (.string ⟨(Lib.trimS l [48]).toArray⟩)∧Gr w w':=by
  refine (Any.strings_Trim_laid Tryz.lays160 (by kernel_rfl) ⟨l.toArray⟩ ⟨#[48]⟩ w (by show l.toArray.size≤_;simp;omega) (by decide) (ascii_of_all (by decide))).mono ?_
  rintro e w1 ⟨he,g⟩
  exact ⟨he,g⟩
theorem trimprefix_any (l:List UInt8) (w:World):Calls Tryz.prog 127 #[.string ⟨l.toArray⟩,.string ⟨#[45]⟩] w fun e w'=>e=.returned (.string ⟨(strip l).toArray⟩)∧Gr w w':=by
  refine (Tryz.strings_TrimPrefix _ _ _).mono ?_
  rintro e w1 ⟨he,rfl⟩
  refine ⟨?_,Gr.refl _⟩
  rw [he]
  show Ending.returned (.string ⟨(Lib.trimPrefix l [45]).toArray⟩)=_
  have:Lib.trimPrefix l [45]=strip l:=by
    cases l with
    | nil=>rfl
    | cons c l=>
      rw [strip_cons]
      by_cases hc:c=45
      · subst hc;simp [Lib.trimPrefix,Lib.hasPrefix]
      · have:¬ (45:UInt8)=c:=fun e=>hc e.symm
        simp [Lib.trimPrefix,Lib.hasPrefix,List.isPrefixOf,hc,this]
  rw [this]
theorem cut_any (l:List UInt8) (hl:l.length≤1000000) {w:World} (hm:Mx w):
    Calls Tryz.prog 125 #[.string ⟨l.toArray⟩,.string ⟨#[47]⟩] w fun e w'=>e=.returned (.tuple #[.string ⟨(numL l).toArray⟩,.string ⟨((cutL l).2.getD []).toArray⟩,.bool (cutL l).2.isSome])∧Gr w w':=by
  obtain ⟨m,hm⟩:=hm
  refine (Tryz.strings_Cut ⟨l.toArray⟩ ⟨#[47]⟩ m w (by show l.toArray.size<_;simp;omega) hm).mono ?_
  rintro e w1 ⟨he,n,rfl⟩
  refine ⟨?_,(Below.refl _ _).drewN _⟩
  rw [he]
  have e1:(⟨l.toArray⟩:ByteArray).data.toList=l:=by simp
  rw [e1,show (⟨#[47]⟩:ByteArray).data.toList=[47] from rfl,cut_slash]
theorem cut_no (l:List UInt8) (hl:l.length≤1000000) (hc:cutL l=(l,none)) {w:World} (hm:Mx w):
    Calls Tryz.prog 125 #[.string ⟨l.toArray⟩,.string ⟨#[47]⟩] w fun e w'=>e=.returned (.tuple #[.string ⟨l.toArray⟩,.string ⟨([]:List UInt8).toArray⟩,.bool false])∧Gr w w':=by
  refine (cut_any l hl hm).mono ?_
  rintro e w1 ⟨he,g⟩
  exact ⟨by rw [he,numL,hc];rfl,g⟩
theorem cut_yes (X A D:List UInt8) (hl:X.length≤1000000) (hc:cutL X=(A,some D)) {w:World} (hm:Mx w):
    Calls Tryz.prog 125 #[.string ⟨X.toArray⟩,.string ⟨#[47]⟩] w fun e w'=>e=.returned (.tuple #[.string ⟨A.toArray⟩,.string ⟨D.toArray⟩,.bool true])∧Gr w w':=by
  refine (cut_any X hl hm).mono ?_
  rintro e w1 ⟨he,g⟩
  exact ⟨by rw [he,numL,hc];rfl,g⟩
theorem strip_len (l:List UInt8):(strip l).length≤l.length:=by
  rcases strip_cases l with e | ⟨e,_⟩
  · have:=congrArg List.length e;simp at this;omega
  · have:=congrArg List.length e;omega
theorem strip_dig {l:List UInt8} (h:allD l=true):allD (strip l)=true:=by
  cases l with
  | nil=>exact h
  | cons c l=>
    rw [strip_cons]
    by_cases hc:c=45
    · have:=(allD_all h).2 c (by simp)
      subst hc
      simp at this
    · rw [if_neg hc];exact h
theorem badZ_head {l:List UInt8} (h:allD l=true) (h2:zerosL l=false) (h3:(l[0]?==some 48)=true):badZ l=true:=by
  cases l with
  | nil=>cases h3
  | cons c l=>
    have hc:c=48:=by simpa using h3
    subst hc
    cases l with
    | nil=>simp [zerosL] at h2
    | cons d l=>simp [badZ,strip_cons]
set_option maxHeartbeats 1000000 in
theorem parse_bad (l:List UInt8) (hl:l.length≤60000) (h1:allD (strip l)=true) (h2:badZ l=true) (w:World):
    Calls Tryz.prog 129 #[.string ⟨l.toArray⟩] w fun e w'=>e=.returned (.tuple #[.agg #[.bool false,.slice none 0 0],.int .i64 3])∧Gr w w':=by
  have hs1:=allD_all h1
  obtain ⟨s,hs⟩:∃ s:ByteArray,s=⟨l.toArray⟩:=⟨_,rfl⟩
  have hss:s.size=l.length:=by rw [hs];show l.toArray.size=_;simp
  obtain ⟨D,hD⟩:∃ D:ByteArray,D=⟨(strip l).toArray⟩:=⟨_,rfl⟩
  have hDl:D.data.toList=strip l:=by rw [hD]
  have hDs:D.size=(strip l).length:=by rw [hD];show (strip l).toArray.size=_;simp
  have hD0:0<D.size:=by rw [hDs];exact List.length_pos_iff.2 hs1.1
  have hslen:=strip_len l
  have hc:∀ w,Calls Tryz.prog 153 #[.string s,.string ⟨#[45]⟩] w fun e w'=>e=.returned (.tuple #[.string D,.bool (decide ((strip l).length<l.length))])∧w=w':=by
    intro w
    rw [hs,hD]
    refine (Tryz.strings_CutPrefix _ _ _).mono ?_
    rintro e w1 ⟨he,rfl⟩
    refine ⟨?_,rfl⟩
    rw [he]
    show Ending.returned (.tuple #[.string ⟨(Lib.trimPrefix l [45]).toArray⟩,.bool (Lib.hasPrefix l [45])])=_
    cases l with
    | nil=>rfl
    | cons c l=>
      rw [strip_cons]
      by_cases hc:c=45
      · subst hc;simp [Lib.trimPrefix,Lib.hasPrefix]
      · have:¬ (45:UInt8)=c:=fun e=>hc e.symm
        simp [Lib.trimPrefix,Lib.hasPrefix,List.isPrefixOf,hc,this]
  have hcn:=contains_no D (by rw [hDl];exact hs1.2)
  have hne:(D.toList==[])=false:=by
    rw [beq_eq_false_iff_ne,ByteArray.toList_eq,hDl];exact hs1.1
  have hz0:(D[0].toNat:Int)=48∧(1<D.size∨(strip l).length<l.length):=by
    unfold badZ at h2
    simp only [Bool.and_eq_true,Bool.or_eq_true,decide_eq_true_eq] at h2
    have hh:=head48 hD0
    rw [hDl,h2.1] at hh
    have hh:=(beq_iff_eq.1 hh.symm)
    refine ⟨hh,?_⟩
    rw [hDs]
    omega
  have h48':((D[0].toNat:Int)==48)=true:=by rw [hz0.1];rfl
  have hor:=hz0.2
  have hD1:D.size≤60000:=by omega
  have hss2:s.size≤60000:=by omega
  rw [← hs]
  have HD:=Lib.hid hDl
  clear hz0 hDl hDs hD hs hss h2 hs1 h1 hslen
  go_enter Tryz.func129,Tryz.ntmps129
  go_wp2_with fail
  (with_reducible refine (hc _).mono ?_)
  rintro e w1 ⟨rfl,rfl⟩
  clear hc
  go_wp2_with fail
  (with_reducible refine (hcn _).mono ?_)
  rintro e w2 ⟨rfl,g2⟩
  clear hcn
  have p3:=Gr.heap g2 (heap_alloc_new w (.cells #[.bool false,.slice none 0 0] 69))
  have d0:=cells_of p3 0
  have d1:=cells_of p3 1
  have d2:=free_of p3
  have gw:Gr w w2:=(Gr.alloc w _).trans g2
  by_cases hD2:(1:Int)<(D.size:Int)
  · go_wp2
    have p4:=heap_setCell_at (i:=1) (.slice none 0 0) (heap_setCell_at (i:=0) (.bool false) p3)
    have hst:=(St.setCell w2 w.heap.size 0 (.bool false)).trans (St.setCell _ w.heap.size 1 (.slice none 0 0))
    exact bodyPost_ret (v:=.tuple #[.agg #[.bool false,.slice none 0 0],.int .i64 3]) (ret_cell_tmp' _ _ _ rfl rfl p4 (by kernel_rfl) rfl) rfl ⟨rfl,hst.gr gw (Nat.le_refl _)⟩
  · have hlt:(strip l).length<l.length:=by
      rcases hor with h | h
      · omega
      · exact h
    go_wp2
    have p4:=heap_setCell_at (i:=1) (.slice none 0 0) (heap_setCell_at (i:=0) (.bool false) p3)
    have hst:=(St.setCell w2 w.heap.size 0 (.bool false)).trans (St.setCell _ w.heap.size 1 (.slice none 0 0))
    exact bodyPost_ret (v:=.tuple #[.agg #[.bool false,.slice none 0 0],.int .i64 3]) (ret_cell_tmp' _ _ _ rfl rfl p4 (by kernel_rfl) rfl) rfl ⟨rfl,hst.gr gw (Nat.le_refl _)⟩
set_option maxRecDepth 100000 in
set_option maxHeartbeats 1000000 in
theorem rdigits_a (l:List UInt8) (_hl:l.length≤1000000) (w:World):
    Calls Tryz.prog 126 #[(.string ⟨(l:List UInt8).toArray⟩)] w fun e w'=>e=.returned (.bool (allD l))∧Gr w w':=by
 go_enter Tryz.func126,Tryz.ntmps126
 have hB:=Gr.refl w
 refine wp_seq_k (fun K1 k1=>?_)
 refine rg [0] ?_
 refine sv 2 (.bool false) ?_
 refine sq_nil ?_
 refine k1 _ _ ?_
 try clear k1 K1
 refine wp_seq_k (fun K2 k2=>?_)
 refine rg [0,1,2,3,4,5,6,7] ?_
 refine sv 3 (.string ⟨(l:List UInt8).toArray⟩) ?_
 refine sw 4 (.bool (((l) !=([]:List UInt8)))) rfl (rv_sne 9 9 _ _ (l) ([]) rfl rfl rfl) ?_
 rcases Bool.eq_false_or_eq_true (((l) !=([]:List UInt8))) with hb3 | hb3
 ·refine sw 5 (.bool true) rfl (RunV.bool (x:=((l) !=([]:List UInt8))) (rvk (by kernel_rfl)) hb3) ?_
  refine sv 6 (.string ⟨(l:List UInt8).toArray⟩) ?_
  refine se ?_
  refine ec 7 (trim_any (l) (by omega) _) ?_
  rintro e4 w4 ⟨rfl,g4⟩
  refine ⟨_,rfl,?_⟩
  replace hB:=hB.trans g4
  simp only [p3,p4]
  refine sw 8 (.bool (((Lib.trimS (l) [48,49,50,51,52,53,54,55,56,57])==([]:List UInt8)))) rfl (rv_seq 9 9 _ _ (Lib.trimS (l) [48,49,50,51,52,53,54,55,56,57]) ([]) rfl rfl rfl) ?_
  refine sv 9 (.bool (((Lib.trimS (l) [48,49,50,51,52,53,54,55,56,57])==([]:List UInt8)))) ?_
  refine sv 2 (.bool (((Lib.trimS (l) [48,49,50,51,52,53,54,55,56,57])==([]:List UInt8)))) ?_
  refine sq_nil ?_
  refine k2 _ _ ?_
  try clear k2 K2
  refine wp_ret ?_
  refine bodyPost_ret (v:=(.bool (((Lib.trimS (l) [48,49,50,51,52,53,54,55,56,57])==([]:List UInt8))))) (ret_tmp rfl rfl) rfl ⟨?_,hB⟩
  exact (by rw [allD_trim,hb3];rfl)
 ·refine sw 5 (.bool false) rfl (RunV.bool (x:=((l) !=([]:List UInt8))) (rvk (by kernel_rfl)) hb3) ?_
  refine ss 6 ?_
  refine ss 7 ?_
  refine ss 8 ?_
  refine sv 9 (.bool false) ?_
  refine sv 2 (.bool false) ?_
  refine sq_nil ?_
  refine k2 _ _ ?_
  try clear k2 K2
  refine wp_ret ?_
  refine bodyPost_ret (v:=(.bool false)) (ret_tmp rfl rfl) rfl ⟨?_,hB⟩
  exact (by rw [allD_trim,hb3];rfl)

set_option maxRecDepth 100000 in
set_option maxHeartbeats 1000000 in
theorem read_long (X:List UInt8) (most:Int) (_hx:X.length≤1000000) (_hlong:most<(X.length:Int)) (w:World) (hm:Mx w):
    Calls Tryz.prog 99 #[(.string ⟨(X:List UInt8).toArray⟩),(.int .i64 (most))] w fun e w'=>e=.returned (.tuple #[.agg #[.bool false,.slice none 0 0,.bool false,.slice none 0 0],.int .i64 5])∧Gr w w':=by
 have hl:decide (most<((X).length:Int))=true:=by simp;omega
 go_enter Tryz.func99,Tryz.ntmps99
 have hB:=Gr.refl w
 refine wp_seq_k (fun K1 k1=>?_)
 refine rg [0,1] ?_
 refine se ?_
 refine ea 71 #[(.bool false),(.slice none 0 0),(.bool false),(.slice none 0 0)] 4 hB fun b2 w2 g2 L2 o2 q2 hB=>?_
 simp only [p3,p4]
 refine sv 5 (.int .i64 0) ?_
 refine sq_nil ?_
 refine k1 _ _ ?_
 try clear k1 K1
 refine wp_seq_k (fun K3 k3=>?_)
 refine rg [0,1] ?_
 refine sv 13 (.string ⟨(X:List UInt8).toArray⟩) ?_
 refine sv 6 (.string ⟨(X:List UInt8).toArray⟩) ?_
 refine sq_nil ?_
 refine k3 _ _ ?_
 try clear k3 K3
 refine wp_seq_k (fun K4 k4=>?_)
 refine rg [0,1,2,3,4,5,6,7,8] ?_
 refine sv 15 (.string ⟨(X:List UInt8).toArray⟩) ?_
 refine se ?_
 refine ec 16 (cut_any (X) (by omega) (hm.gr hB)) ?_
 rintro e5 w5 ⟨rfl,g5⟩
 refine ⟨_,rfl,?_⟩
 replace hB:=hB.trans g5
 simp only [p3,p4]
 refine sv 14 (.tuple #[(.string ⟨(numL (X):List UInt8).toArray⟩),(.string ⟨((cutL (X)).2.getD []:List UInt8).toArray⟩),(.bool ((cutL (X)).2.isSome))]) ?_
 refine sv 17 (.string ⟨(numL (X):List UInt8).toArray⟩) ?_
 refine sv 18 (.string ⟨((cutL (X)).2.getD []:List UInt8).toArray⟩) ?_
 refine sv 19 (.bool ((cutL (X)).2.isSome)) ?_
 refine sv 7 (.string ⟨(numL (X):List UInt8).toArray⟩) ?_
 refine sv 8 (.string ⟨((cutL (X)).2.getD []:List UInt8).toArray⟩) ?_
 refine sv 9 (.bool ((cutL (X)).2.isSome)) ?_
 refine sq_nil ?_
 refine k4 _ _ ?_
 try clear k4 K4
 refine wp_seq_k (fun K6 k6=>?_)
 refine wp_block ?_
 refine wp_seq_k (fun K7 k7=>?_)
 refine rg [0,1,2,3,4] ?_
 refine sv 21 (.string ⟨(X:List UInt8).toArray⟩) ?_
 refine sv 22 (.int .i64 (((X).length:Int))) ?_
 refine sv 23 (.int .i64 (most)) ?_
 refine sw 24 (.bool true) rfl (RunV.bool (x:=decide (most<((X).length:Int))) (rvk (by kernel_rfl)) hl) ?_
 refine sv 20 (.bool true) ?_
 refine sq_nil ?_
 refine k7 _ _ ?_
 try clear k7 K7
 refine wp_cond_true rfl ?_
 refine wp_seq_k (fun K8 k8=>?_)
 refine rg [0,1,2] ?_
 refine sv 25 (.agg #[(.bool false),(.slice none 0 0),(.bool false),(.slice none 0 0)]) ?_
 refine se ?_
 replace L2:=L2.gr g5
 refine es 71 0 (.agg #[(.bool false),(.slice none 0 0),(.bool false),(.slice none 0 0)]) [(.bool false),(.slice none 0 0),(.bool false),(.slice none 0 0)] #[(.bool false),(.slice none 0 0),(.bool false),(.slice none 0 0)] L2 hB q2 ⟨rfl,rfl,rfl,rfl,trivial⟩ fun w9 st9 kp9 L2 hB=>?_
 refine sv 5 (.int .i64 5) ?_
 refine sq_nil ?_
 refine k8 _ _ ?_
 try clear k8 K8
 refine wp_ret ?_
 simp only [Exit.then,Exit.inBlock]
 refine bodyPost_ret (v:=(.tuple #[(.agg #[(.bool false),(.slice none 0 0),(.bool false),(.slice none 0 0)]),(.int .i64 5)])) (ret_cell_tmp' _ _ _ rfl rfl L2 (by kernel_rfl) rfl) rfl ⟨?_,hB⟩
 exact rfl

set_option maxRecDepth 100000 in
set_option maxHeartbeats 1000000 in
theorem read_ns (X:List UInt8) (most:Int) (_hx:X.length≤14000) (_hlong:(X.length:Int)≤most) (hc:cutL X=(X,none)) (h1:allD (strip X)=false) (w:World) (hm:Mx w):
    Calls Tryz.prog 99 #[(.string ⟨(X:List UInt8).toArray⟩),(.int .i64 (most))] w fun e w'=>e=.returned (.tuple #[.agg #[.bool false,.slice none 0 0,.bool false,.slice none 0 0],.int .i64 14])∧Gr w w':=by
 have hl:decide (most<((X).length:Int))=false:=by simp;omega
 have hsX:(strip (X)).length≤(X).length:=strip_len _
 go_enter Tryz.func99,Tryz.ntmps99
 have hB:=Gr.refl w
 refine wp_seq_k (fun K1 k1=>?_)
 refine rg [0,1] ?_
 refine se ?_
 refine ea 71 #[(.bool false),(.slice none 0 0),(.bool false),(.slice none 0 0)] 4 hB fun b2 w2 g2 L2 o2 q2 hB=>?_
 simp only [p3,p4]
 refine sv 5 (.int .i64 0) ?_
 refine sq_nil ?_
 refine k1 _ _ ?_
 try clear k1 K1
 refine wp_seq_k (fun K3 k3=>?_)
 refine rg [0,1] ?_
 refine sv 13 (.string ⟨(X:List UInt8).toArray⟩) ?_
 refine sv 6 (.string ⟨(X:List UInt8).toArray⟩) ?_
 refine sq_nil ?_
 refine k3 _ _ ?_
 try clear k3 K3
 refine wp_seq_k (fun K4 k4=>?_)
 refine rg [0,1,2,3,4,5,6,7,8] ?_
 refine sv 15 (.string ⟨(X:List UInt8).toArray⟩) ?_
 refine se ?_
 refine ec 16 (cut_no (X) (by omega) hc (hm.gr hB)) ?_
 rintro e5 w5 ⟨rfl,g5⟩
 refine ⟨_,rfl,?_⟩
 replace hB:=hB.trans g5
 simp only [p3,p4]
 refine sv 14 (.tuple #[(.string ⟨(X:List UInt8).toArray⟩),(.string ⟨([]:List UInt8).toArray⟩),(.bool false)]) ?_
 refine sv 17 (.string ⟨(X:List UInt8).toArray⟩) ?_
 refine sv 18 (.string ⟨([]:List UInt8).toArray⟩) ?_
 refine sv 19 (.bool false) ?_
 refine sv 7 (.string ⟨(X:List UInt8).toArray⟩) ?_
 refine sv 8 (.string ⟨([]:List UInt8).toArray⟩) ?_
 refine sv 9 (.bool false) ?_
 refine sq_nil ?_
 refine k4 _ _ ?_
 try clear k4 K4
 refine wp_seq_k (fun K6 k6=>?_)
 refine wp_block ?_
 refine wp_seq_k (fun K7 k7=>?_)
 refine rg [0,1,2,3,4] ?_
 refine sv 21 (.string ⟨(X:List UInt8).toArray⟩) ?_
 refine sv 22 (.int .i64 (((X).length:Int))) ?_
 refine sv 23 (.int .i64 (most)) ?_
 refine sw 24 (.bool false) rfl (RunV.bool (x:=decide (most<((X).length:Int))) (rvk (by kernel_rfl)) hl) ?_
 refine sv 20 (.bool false) ?_
 refine sq_nil ?_
 refine k7 _ _ ?_
 try clear k7 K7
 refine wp_cond_false rfl ?_
 refine wp_seq_k (fun K8 k8=>?_)
 refine rg [0,1,2,3,4,5,6,7,8,9,10,11,12] ?_
 refine sv 27 (.string ⟨(X:List UInt8).toArray⟩) ?_
 refine se ?_
 refine ec 28 (trimprefix_any (X) _) ?_
 rintro e9 w9 ⟨rfl,g9⟩
 refine ⟨_,rfl,?_⟩
 replace hB:=hB.trans g9
 simp only [p3,p4]
 refine se ?_
 refine ec 29 (rdigits_a (strip (X)) (by omega) _) ?_
 rintro e10 w10 ⟨rfl,g10⟩
 refine ⟨_,rfl,?_⟩
 replace hB:=hB.trans g10
 simp only [p3,p4]
 refine sw 30 (.bool true) rfl (RunV.bool (x:=!(allD (strip (X)))) (rvk (by kernel_rfl)) (show (!(allD (strip (X))))=true by rw [h1];rfl)) ?_
 refine sv 31 (.bool true) ?_
 refine ss 32 ?_
 refine ss 33 ?_
 refine ss 34 ?_
 refine ss 35 ?_
 refine ss 36 ?_
 refine ss 37 ?_
 refine sv 38 (.bool true) ?_
 refine sv 26 (.bool true) ?_
 refine sq_nil ?_
 refine k8 _ _ ?_
 try clear k8 K8
 refine wp_cond_true rfl ?_
 refine wp_seq_k (fun K11 k11=>?_)
 refine rg [0,1,2] ?_
 refine sv 39 (.agg #[(.bool false),(.slice none 0 0),(.bool false),(.slice none 0 0)]) ?_
 refine se ?_
 replace L2:=L2.gr (g5.trans (g9.trans g10))
 refine es 71 0 (.agg #[(.bool false),(.slice none 0 0),(.bool false),(.slice none 0 0)]) [(.bool false),(.slice none 0 0),(.bool false),(.slice none 0 0)] #[(.bool false),(.slice none 0 0),(.bool false),(.slice none 0 0)] L2 hB q2 ⟨rfl,rfl,rfl,rfl,trivial⟩ fun w12 st12 kp12 L2 hB=>?_
 refine sv 5 (.int .i64 14) ?_
 refine sq_nil ?_
 refine k11 _ _ ?_
 try clear k11 K11
 refine wp_ret ?_
 simp only [Exit.then,Exit.inBlock]
 refine bodyPost_ret (v:=(.tuple #[(.agg #[(.bool false),(.slice none 0 0),(.bool false),(.slice none 0 0)]),(.int .i64 14)])) (ret_cell_tmp' _ _ _ rfl rfl L2 (by kernel_rfl) rfl) rfl ⟨?_,hB⟩
 exact rfl

set_option maxRecDepth 100000 in
set_option maxHeartbeats 1000000 in
theorem read_nf (X:List UInt8) (most:Int) (_hx:X.length≤14000) (_hlong:(X.length:Int)≤most) (hc:cutL X=(X,none)) (h1:allD (strip X)=true) (h2:badZ X=true) (w:World) (hm:Mx w):
    Calls Tryz.prog 99 #[(.string ⟨(X:List UInt8).toArray⟩),(.int .i64 (most))] w fun e w'=>e=.returned (.tuple #[.agg #[.bool false,.slice none 0 0,.bool false,.slice none 0 0],.int .i64 3])∧Gr w w':=by
 have hl:decide (most<((X).length:Int))=false:=by simp;omega
 have hsX:(strip (X)).length≤(X).length:=strip_len _
 go_enter Tryz.func99,Tryz.ntmps99
 have hB:=Gr.refl w
 refine wp_seq_k (fun K1 k1=>?_)
 refine rg [0,1] ?_
 refine se ?_
 refine ea 71 #[(.bool false),(.slice none 0 0),(.bool false),(.slice none 0 0)] 4 hB fun b2 w2 g2 L2 o2 q2 hB=>?_
 simp only [p3,p4]
 refine sv 5 (.int .i64 0) ?_
 refine sq_nil ?_
 refine k1 _ _ ?_
 try clear k1 K1
 refine wp_seq_k (fun K3 k3=>?_)
 refine rg [0,1] ?_
 refine sv 13 (.string ⟨(X:List UInt8).toArray⟩) ?_
 refine sv 6 (.string ⟨(X:List UInt8).toArray⟩) ?_
 refine sq_nil ?_
 refine k3 _ _ ?_
 try clear k3 K3
 refine wp_seq_k (fun K4 k4=>?_)
 refine rg [0,1,2,3,4,5,6,7,8] ?_
 refine sv 15 (.string ⟨(X:List UInt8).toArray⟩) ?_
 refine se ?_
 refine ec 16 (cut_no (X) (by omega) hc (hm.gr hB)) ?_
 rintro e5 w5 ⟨rfl,g5⟩
 refine ⟨_,rfl,?_⟩
 replace hB:=hB.trans g5
 simp only [p3,p4]
 refine sv 14 (.tuple #[(.string ⟨(X:List UInt8).toArray⟩),(.string ⟨([]:List UInt8).toArray⟩),(.bool false)]) ?_
 refine sv 17 (.string ⟨(X:List UInt8).toArray⟩) ?_
 refine sv 18 (.string ⟨([]:List UInt8).toArray⟩) ?_
 refine sv 19 (.bool false) ?_
 refine sv 7 (.string ⟨(X:List UInt8).toArray⟩) ?_
 refine sv 8 (.string ⟨([]:List UInt8).toArray⟩) ?_
 refine sv 9 (.bool false) ?_
 refine sq_nil ?_
 refine k4 _ _ ?_
 try clear k4 K4
 refine wp_seq_k (fun K6 k6=>?_)
 refine wp_block ?_
 refine wp_seq_k (fun K7 k7=>?_)
 refine rg [0,1,2,3,4] ?_
 refine sv 21 (.string ⟨(X:List UInt8).toArray⟩) ?_
 refine sv 22 (.int .i64 (((X).length:Int))) ?_
 refine sv 23 (.int .i64 (most)) ?_
 refine sw 24 (.bool false) rfl (RunV.bool (x:=decide (most<((X).length:Int))) (rvk (by kernel_rfl)) hl) ?_
 refine sv 20 (.bool false) ?_
 refine sq_nil ?_
 refine k7 _ _ ?_
 try clear k7 K7
 refine wp_cond_false rfl ?_
 refine wp_seq_k (fun K8 k8=>?_)
 refine rg [0,1,2,3,4,5,6,7,8,9,10,11,12] ?_
 refine sv 27 (.string ⟨(X:List UInt8).toArray⟩) ?_
 refine se ?_
 refine ec 28 (trimprefix_any (X) _) ?_
 rintro e9 w9 ⟨rfl,g9⟩
 refine ⟨_,rfl,?_⟩
 replace hB:=hB.trans g9
 simp only [p3,p4]
 refine se ?_
 refine ec 29 (rdigits_a (strip (X)) (by omega) _) ?_
 rintro e10 w10 ⟨rfl,g10⟩
 refine ⟨_,rfl,?_⟩
 replace hB:=hB.trans g10
 simp only [p3,p4]
 refine sw 30 (.bool false) rfl (RunV.bool (x:=!(allD (strip (X)))) (rvk (by kernel_rfl)) (show (!(allD (strip (X))))=false by rw [h1];rfl)) ?_
 refine sv 31 (.bool false) ?_
 refine sv 32 (.bool false) ?_
 refine sv 33 (.bool false) ?_
 refine ss 34 ?_
 refine ss 35 ?_
 refine ss 36 ?_
 refine sv 37 (.bool false) ?_
 refine sv 38 (.bool false) ?_
 refine sv 26 (.bool false) ?_
 refine sq_nil ?_
 refine k8 _ _ ?_
 try clear k8 K8
 refine wp_cond_false rfl ?_
 refine wp_seq_k (fun K11 k11=>?_)
 refine rg [0,1,2,3,4,5,6] ?_
 refine sv 41 (.bool false) ?_
 refine sv 42 (.bool false) ?_
 refine ss 43 ?_
 refine ss 44 ?_
 refine ss 45 ?_
 refine sv 46 (.bool false) ?_
 refine sv 40 (.bool false) ?_
 refine sq_nil ?_
 refine k11 _ _ ?_
 try clear k11 K11
 refine wp_cond_false rfl ?_
 refine wp_skip ?_
 refine k6 _ _ ?_
 try clear k6 K6
 refine wp_seq_k (fun K12 k12=>?_)
 refine rg [0,1,2,3,4,5,6,7] ?_
 refine sv 49 (.string ⟨(X:List UInt8).toArray⟩) ?_
 refine se ?_
 refine ec 50 (parse_bad (X) (by omega) h1 h2 _) ?_
 rintro e13 w13 ⟨rfl,g13⟩
 refine ⟨_,rfl,?_⟩
 replace hB:=hB.trans g13
 simp only [p3,p4]
 refine sv 48 (.tuple #[(.agg #[(.bool false),(.slice none 0 0)]),(.int .i64 3)]) ?_
 refine sv 51 (.agg #[(.bool false),(.slice none 0 0)]) ?_
 refine sv 52 (.int .i64 3) ?_
 refine se ?_
 refine ea 69 #[(.bool false),(.slice none 0 0)] 10 hB fun b14 w14 g14 L14 o14 q14 hB=>?_
 replace L2:=L2.gr (g5.trans (g9.trans (g10.trans g13)))
 have ne2_14:=L2.ne o14
 simp only [p3,p4]
 refine se ?_
 refine es 69 0 (.agg #[(.bool false),(.slice none 0 0)]) [(.bool false),(.slice none 0 0)] #[(.bool false),(.slice none 0 0)] L14 hB q14 ⟨rfl,rfl,trivial⟩ fun w15 st15 kp15 L14 hB=>?_
 refine sv 11 (.int .i64 3) ?_
 refine sq_nil ?_
 refine k12 _ _ ?_
 try clear k12 K12
 refine wp_seq_k (fun K16 k16=>?_)
 refine wp_seq_k (fun K17 k17=>?_)
 refine rg [0,1] ?_
 refine sv 53 (.int .i64 3) ?_
 refine sv 54 (.bool true) ?_
 refine sq_nil ?_
 refine k17 _ _ ?_
 try clear k17 K17
 refine wp_cond_true rfl ?_
 refine wp_seq_k (fun K18 k18=>?_)
 refine rg [0,1,2] ?_
 refine sv 55 (.agg #[(.bool false),(.slice none 0 0),(.bool false),(.slice none 0 0)]) ?_
 refine se ?_
 replace L2:=st15.lc (L2.gr g14) ne2_14
 refine es 71 0 (.agg #[(.bool false),(.slice none 0 0),(.bool false),(.slice none 0 0)]) [(.bool false),(.slice none 0 0),(.bool false),(.slice none 0 0)] #[(.bool false),(.slice none 0 0),(.bool false),(.slice none 0 0)] L2 hB q2 ⟨rfl,rfl,rfl,rfl,trivial⟩ fun w19 st19 kp19 L2 hB=>?_
 refine sv 5 (.int .i64 3) ?_
 refine sq_nil ?_
 refine k18 _ _ ?_
 try clear k18 K18
 refine wp_ret ?_
 simp only [Exit.then]
 refine bodyPost_ret (v:=(.tuple #[(.agg #[(.bool false),(.slice none 0 0),(.bool false),(.slice none 0 0)]),(.int .i64 3)])) (ret_cell_tmp' _ _ _ rfl rfl L2 (by kernel_rfl) rfl) rfl ⟨?_,hB⟩
 exact rfl

set_option maxRecDepth 100000 in
set_option maxHeartbeats 1000000 in
theorem read_fs1 (X A D:List UInt8) (most:Int) (_hx:X.length≤14000) (_hlong:(X.length:Int)≤most) (hc:cutL X=(A,some D)) (_hA:(A).length≤X.length) (_hD:D.length≤X.length) (h1:allD (strip A)=false) (w:World) (hm:Mx w):
    Calls Tryz.prog 99 #[(.string ⟨(X:List UInt8).toArray⟩),(.int .i64 (most))] w fun e w'=>e=.returned (.tuple #[.agg #[.bool false,.slice none 0 0,.bool false,.slice none 0 0],.int .i64 14])∧Gr w w':=by
 have hl:decide (most<((X).length:Int))=false:=by simp;omega
 have hsA:(strip (A)).length≤(A).length:=strip_len _
 go_enter Tryz.func99,Tryz.ntmps99
 have hB:=Gr.refl w
 refine wp_seq_k (fun K1 k1=>?_)
 refine rg [0,1] ?_
 refine se ?_
 refine ea 71 #[(.bool false),(.slice none 0 0),(.bool false),(.slice none 0 0)] 4 hB fun b2 w2 g2 L2 o2 q2 hB=>?_
 simp only [p3,p4]
 refine sv 5 (.int .i64 0) ?_
 refine sq_nil ?_
 refine k1 _ _ ?_
 try clear k1 K1
 refine wp_seq_k (fun K3 k3=>?_)
 refine rg [0,1] ?_
 refine sv 13 (.string ⟨(X:List UInt8).toArray⟩) ?_
 refine sv 6 (.string ⟨(X:List UInt8).toArray⟩) ?_
 refine sq_nil ?_
 refine k3 _ _ ?_
 try clear k3 K3
 refine wp_seq_k (fun K4 k4=>?_)
 refine rg [0,1,2,3,4,5,6,7,8] ?_
 refine sv 15 (.string ⟨(X:List UInt8).toArray⟩) ?_
 refine se ?_
 refine ec 16 (cut_yes (X) (A) (D) (by omega) hc (hm.gr hB)) ?_
 rintro e5 w5 ⟨rfl,g5⟩
 refine ⟨_,rfl,?_⟩
 replace hB:=hB.trans g5
 simp only [p3,p4]
 refine sv 14 (.tuple #[(.string ⟨(A:List UInt8).toArray⟩),(.string ⟨(D:List UInt8).toArray⟩),(.bool true)]) ?_
 refine sv 17 (.string ⟨(A:List UInt8).toArray⟩) ?_
 refine sv 18 (.string ⟨(D:List UInt8).toArray⟩) ?_
 refine sv 19 (.bool true) ?_
 refine sv 7 (.string ⟨(A:List UInt8).toArray⟩) ?_
 refine sv 8 (.string ⟨(D:List UInt8).toArray⟩) ?_
 refine sv 9 (.bool true) ?_
 refine sq_nil ?_
 refine k4 _ _ ?_
 try clear k4 K4
 refine wp_seq_k (fun K6 k6=>?_)
 refine wp_block ?_
 refine wp_seq_k (fun K7 k7=>?_)
 refine rg [0,1,2,3,4] ?_
 refine sv 21 (.string ⟨(X:List UInt8).toArray⟩) ?_
 refine sv 22 (.int .i64 (((X).length:Int))) ?_
 refine sv 23 (.int .i64 (most)) ?_
 refine sw 24 (.bool false) rfl (RunV.bool (x:=decide (most<((X).length:Int))) (rvk (by kernel_rfl)) hl) ?_
 refine sv 20 (.bool false) ?_
 refine sq_nil ?_
 refine k7 _ _ ?_
 try clear k7 K7
 refine wp_cond_false rfl ?_
 refine wp_seq_k (fun K8 k8=>?_)
 refine rg [0,1,2,3,4,5,6,7,8,9,10,11,12] ?_
 refine sv 27 (.string ⟨(A:List UInt8).toArray⟩) ?_
 refine se ?_
 refine ec 28 (trimprefix_any (A) _) ?_
 rintro e9 w9 ⟨rfl,g9⟩
 refine ⟨_,rfl,?_⟩
 replace hB:=hB.trans g9
 simp only [p3,p4]
 refine se ?_
 refine ec 29 (rdigits_a (strip (A)) (by omega) _) ?_
 rintro e10 w10 ⟨rfl,g10⟩
 refine ⟨_,rfl,?_⟩
 replace hB:=hB.trans g10
 simp only [p3,p4]
 refine sw 30 (.bool true) rfl (RunV.bool (x:=!(allD (strip (A)))) (rvk (by kernel_rfl)) (show (!(allD (strip (A))))=true by rw [h1];rfl)) ?_
 refine sv 31 (.bool true) ?_
 refine ss 32 ?_
 refine ss 33 ?_
 refine ss 34 ?_
 refine ss 35 ?_
 refine ss 36 ?_
 refine ss 37 ?_
 refine sv 38 (.bool true) ?_
 refine sv 26 (.bool true) ?_
 refine sq_nil ?_
 refine k8 _ _ ?_
 try clear k8 K8
 refine wp_cond_true rfl ?_
 refine wp_seq_k (fun K11 k11=>?_)
 refine rg [0,1,2] ?_
 refine sv 39 (.agg #[(.bool false),(.slice none 0 0),(.bool false),(.slice none 0 0)]) ?_
 refine se ?_
 replace L2:=L2.gr (g5.trans (g9.trans g10))
 refine es 71 0 (.agg #[(.bool false),(.slice none 0 0),(.bool false),(.slice none 0 0)]) [(.bool false),(.slice none 0 0),(.bool false),(.slice none 0 0)] #[(.bool false),(.slice none 0 0),(.bool false),(.slice none 0 0)] L2 hB q2 ⟨rfl,rfl,rfl,rfl,trivial⟩ fun w12 st12 kp12 L2 hB=>?_
 refine sv 5 (.int .i64 14) ?_
 refine sq_nil ?_
 refine k11 _ _ ?_
 try clear k11 K11
 refine wp_ret ?_
 simp only [Exit.then,Exit.inBlock]
 refine bodyPost_ret (v:=(.tuple #[(.agg #[(.bool false),(.slice none 0 0),(.bool false),(.slice none 0 0)]),(.int .i64 14)])) (ret_cell_tmp' _ _ _ rfl rfl L2 (by kernel_rfl) rfl) rfl ⟨?_,hB⟩
 exact rfl

set_option maxRecDepth 100000 in
set_option maxHeartbeats 1000000 in
theorem read_fs2 (X A D:List UInt8) (most:Int) (_hx:X.length≤14000) (_hlong:(X.length:Int)≤most) (hc:cutL X=(A,some D)) (_hA:(A).length≤X.length) (_hD:D.length≤X.length) (h1:allD (strip A)=true) (h2:allD D=false) (w:World) (hm:Mx w):
    Calls Tryz.prog 99 #[(.string ⟨(X:List UInt8).toArray⟩),(.int .i64 (most))] w fun e w'=>e=.returned (.tuple #[.agg #[.bool false,.slice none 0 0,.bool false,.slice none 0 0],.int .i64 14])∧Gr w w':=by
 have hl:decide (most<((X).length:Int))=false:=by simp;omega
 have hsA:(strip (A)).length≤(A).length:=strip_len _
 go_enter Tryz.func99,Tryz.ntmps99
 have hB:=Gr.refl w
 refine wp_seq_k (fun K1 k1=>?_)
 refine rg [0,1] ?_
 refine se ?_
 refine ea 71 #[(.bool false),(.slice none 0 0),(.bool false),(.slice none 0 0)] 4 hB fun b2 w2 g2 L2 o2 q2 hB=>?_
 simp only [p3,p4]
 refine sv 5 (.int .i64 0) ?_
 refine sq_nil ?_
 refine k1 _ _ ?_
 try clear k1 K1
 refine wp_seq_k (fun K3 k3=>?_)
 refine rg [0,1] ?_
 refine sv 13 (.string ⟨(X:List UInt8).toArray⟩) ?_
 refine sv 6 (.string ⟨(X:List UInt8).toArray⟩) ?_
 refine sq_nil ?_
 refine k3 _ _ ?_
 try clear k3 K3
 refine wp_seq_k (fun K4 k4=>?_)
 refine rg [0,1,2,3,4,5,6,7,8] ?_
 refine sv 15 (.string ⟨(X:List UInt8).toArray⟩) ?_
 refine se ?_
 refine ec 16 (cut_yes (X) (A) (D) (by omega) hc (hm.gr hB)) ?_
 rintro e5 w5 ⟨rfl,g5⟩
 refine ⟨_,rfl,?_⟩
 replace hB:=hB.trans g5
 simp only [p3,p4]
 refine sv 14 (.tuple #[(.string ⟨(A:List UInt8).toArray⟩),(.string ⟨(D:List UInt8).toArray⟩),(.bool true)]) ?_
 refine sv 17 (.string ⟨(A:List UInt8).toArray⟩) ?_
 refine sv 18 (.string ⟨(D:List UInt8).toArray⟩) ?_
 refine sv 19 (.bool true) ?_
 refine sv 7 (.string ⟨(A:List UInt8).toArray⟩) ?_
 refine sv 8 (.string ⟨(D:List UInt8).toArray⟩) ?_
 refine sv 9 (.bool true) ?_
 refine sq_nil ?_
 refine k4 _ _ ?_
 try clear k4 K4
 refine wp_seq_k (fun K6 k6=>?_)
 refine wp_block ?_
 refine wp_seq_k (fun K7 k7=>?_)
 refine rg [0,1,2,3,4] ?_
 refine sv 21 (.string ⟨(X:List UInt8).toArray⟩) ?_
 refine sv 22 (.int .i64 (((X).length:Int))) ?_
 refine sv 23 (.int .i64 (most)) ?_
 refine sw 24 (.bool false) rfl (RunV.bool (x:=decide (most<((X).length:Int))) (rvk (by kernel_rfl)) hl) ?_
 refine sv 20 (.bool false) ?_
 refine sq_nil ?_
 refine k7 _ _ ?_
 try clear k7 K7
 refine wp_cond_false rfl ?_
 refine wp_seq_k (fun K8 k8=>?_)
 refine rg [0,1,2,3,4,5,6,7,8,9,10,11,12] ?_
 refine sv 27 (.string ⟨(A:List UInt8).toArray⟩) ?_
 refine se ?_
 refine ec 28 (trimprefix_any (A) _) ?_
 rintro e9 w9 ⟨rfl,g9⟩
 refine ⟨_,rfl,?_⟩
 replace hB:=hB.trans g9
 simp only [p3,p4]
 refine se ?_
 refine ec 29 (rdigits_a (strip (A)) (by omega) _) ?_
 rintro e10 w10 ⟨rfl,g10⟩
 refine ⟨_,rfl,?_⟩
 replace hB:=hB.trans g10
 simp only [p3,p4]
 refine sw 30 (.bool false) rfl (RunV.bool (x:=!(allD (strip (A)))) (rvk (by kernel_rfl)) (show (!(allD (strip (A))))=false by rw [h1];rfl)) ?_
 refine sv 31 (.bool false) ?_
 refine sv 32 (.bool true) ?_
 refine sv 33 (.bool true) ?_
 refine sv 34 (.string ⟨(D:List UInt8).toArray⟩) ?_
 refine se ?_
 refine ec 35 (rdigits_a (D) (by omega) _) ?_
 rintro e11 w11 ⟨rfl,g11⟩
 refine ⟨_,rfl,?_⟩
 replace hB:=hB.trans g11
 simp only [p3,p4]
 refine sw 36 (.bool true) rfl (RunV.bool (x:=!(allD (D))) (rvk (by kernel_rfl)) (show (!(allD (D)))=true by rw [h2];rfl)) ?_
 refine sv 37 (.bool true) ?_
 refine sv 38 (.bool true) ?_
 refine sv 26 (.bool true) ?_
 refine sq_nil ?_
 refine k8 _ _ ?_
 try clear k8 K8
 refine wp_cond_true rfl ?_
 refine wp_seq_k (fun K12 k12=>?_)
 refine rg [0,1,2] ?_
 refine sv 39 (.agg #[(.bool false),(.slice none 0 0),(.bool false),(.slice none 0 0)]) ?_
 refine se ?_
 replace L2:=L2.gr (g5.trans (g9.trans (g10.trans g11)))
 refine es 71 0 (.agg #[(.bool false),(.slice none 0 0),(.bool false),(.slice none 0 0)]) [(.bool false),(.slice none 0 0),(.bool false),(.slice none 0 0)] #[(.bool false),(.slice none 0 0),(.bool false),(.slice none 0 0)] L2 hB q2 ⟨rfl,rfl,rfl,rfl,trivial⟩ fun w13 st13 kp13 L2 hB=>?_
 refine sv 5 (.int .i64 14) ?_
 refine sq_nil ?_
 refine k12 _ _ ?_
 try clear k12 K12
 refine wp_ret ?_
 simp only [Exit.then,Exit.inBlock]
 refine bodyPost_ret (v:=(.tuple #[(.agg #[(.bool false),(.slice none 0 0),(.bool false),(.slice none 0 0)]),(.int .i64 14)])) (ret_cell_tmp' _ _ _ rfl rfl L2 (by kernel_rfl) rfl) rfl ⟨?_,hB⟩
 exact rfl

set_option maxRecDepth 100000 in
set_option maxHeartbeats 1000000 in
theorem read_fz (X A D:List UInt8) (most:Int) (_hx:X.length≤14000) (_hlong:(X.length:Int)≤most) (hc:cutL X=(A,some D)) (_hA:(A).length≤X.length) (_hD:D.length≤X.length) (h1:allD (strip A)=true) (h2:allD D=true) (h3:zerosL D=true) (w:World) (hm:Mx w):
    Calls Tryz.prog 99 #[(.string ⟨(X:List UInt8).toArray⟩),(.int .i64 (most))] w fun e w'=>e=.returned (.tuple #[.agg #[.bool false,.slice none 0 0,.bool false,.slice none 0 0],.int .i64 19])∧Gr w w':=by
 have hl:decide (most<((X).length:Int))=false:=by simp;omega
 have hsA:(strip (A)).length≤(A).length:=strip_len _
 have h4:((Lib.trimS (D) [48])==([]:List UInt8))=true:=by rw [← zeros_trim];exact h3
 go_enter Tryz.func99,Tryz.ntmps99
 have hB:=Gr.refl w
 refine wp_seq_k (fun K1 k1=>?_)
 refine rg [0,1] ?_
 refine se ?_
 refine ea 71 #[(.bool false),(.slice none 0 0),(.bool false),(.slice none 0 0)] 4 hB fun b2 w2 g2 L2 o2 q2 hB=>?_
 simp only [p3,p4]
 refine sv 5 (.int .i64 0) ?_
 refine sq_nil ?_
 refine k1 _ _ ?_
 try clear k1 K1
 refine wp_seq_k (fun K3 k3=>?_)
 refine rg [0,1] ?_
 refine sv 13 (.string ⟨(X:List UInt8).toArray⟩) ?_
 refine sv 6 (.string ⟨(X:List UInt8).toArray⟩) ?_
 refine sq_nil ?_
 refine k3 _ _ ?_
 try clear k3 K3
 refine wp_seq_k (fun K4 k4=>?_)
 refine rg [0,1,2,3,4,5,6,7,8] ?_
 refine sv 15 (.string ⟨(X:List UInt8).toArray⟩) ?_
 refine se ?_
 refine ec 16 (cut_yes (X) (A) (D) (by omega) hc (hm.gr hB)) ?_
 rintro e5 w5 ⟨rfl,g5⟩
 refine ⟨_,rfl,?_⟩
 replace hB:=hB.trans g5
 simp only [p3,p4]
 refine sv 14 (.tuple #[(.string ⟨(A:List UInt8).toArray⟩),(.string ⟨(D:List UInt8).toArray⟩),(.bool true)]) ?_
 refine sv 17 (.string ⟨(A:List UInt8).toArray⟩) ?_
 refine sv 18 (.string ⟨(D:List UInt8).toArray⟩) ?_
 refine sv 19 (.bool true) ?_
 refine sv 7 (.string ⟨(A:List UInt8).toArray⟩) ?_
 refine sv 8 (.string ⟨(D:List UInt8).toArray⟩) ?_
 refine sv 9 (.bool true) ?_
 refine sq_nil ?_
 refine k4 _ _ ?_
 try clear k4 K4
 refine wp_seq_k (fun K6 k6=>?_)
 refine wp_block ?_
 refine wp_seq_k (fun K7 k7=>?_)
 refine rg [0,1,2,3,4] ?_
 refine sv 21 (.string ⟨(X:List UInt8).toArray⟩) ?_
 refine sv 22 (.int .i64 (((X).length:Int))) ?_
 refine sv 23 (.int .i64 (most)) ?_
 refine sw 24 (.bool false) rfl (RunV.bool (x:=decide (most<((X).length:Int))) (rvk (by kernel_rfl)) hl) ?_
 refine sv 20 (.bool false) ?_
 refine sq_nil ?_
 refine k7 _ _ ?_
 try clear k7 K7
 refine wp_cond_false rfl ?_
 refine wp_seq_k (fun K8 k8=>?_)
 refine rg [0,1,2,3,4,5,6,7,8,9,10,11,12] ?_
 refine sv 27 (.string ⟨(A:List UInt8).toArray⟩) ?_
 refine se ?_
 refine ec 28 (trimprefix_any (A) _) ?_
 rintro e9 w9 ⟨rfl,g9⟩
 refine ⟨_,rfl,?_⟩
 replace hB:=hB.trans g9
 simp only [p3,p4]
 refine se ?_
 refine ec 29 (rdigits_a (strip (A)) (by omega) _) ?_
 rintro e10 w10 ⟨rfl,g10⟩
 refine ⟨_,rfl,?_⟩
 replace hB:=hB.trans g10
 simp only [p3,p4]
 refine sw 30 (.bool false) rfl (RunV.bool (x:=!(allD (strip (A)))) (rvk (by kernel_rfl)) (show (!(allD (strip (A))))=false by rw [h1];rfl)) ?_
 refine sv 31 (.bool false) ?_
 refine sv 32 (.bool true) ?_
 refine sv 33 (.bool true) ?_
 refine sv 34 (.string ⟨(D:List UInt8).toArray⟩) ?_
 refine se ?_
 refine ec 35 (rdigits_a (D) (by omega) _) ?_
 rintro e11 w11 ⟨rfl,g11⟩
 refine ⟨_,rfl,?_⟩
 replace hB:=hB.trans g11
 simp only [p3,p4]
 refine sw 36 (.bool false) rfl (RunV.bool (x:=!(allD (D))) (rvk (by kernel_rfl)) (show (!(allD (D)))=false by rw [h2];rfl)) ?_
 refine sv 37 (.bool false) ?_
 refine sv 38 (.bool false) ?_
 refine sv 26 (.bool false) ?_
 refine sq_nil ?_
 refine k8 _ _ ?_
 try clear k8 K8
 refine wp_cond_false rfl ?_
 refine wp_seq_k (fun K12 k12=>?_)
 refine rg [0,1,2,3,4,5,6] ?_
 refine sv 41 (.bool true) ?_
 refine sv 42 (.bool true) ?_
 refine sv 43 (.string ⟨(D:List UInt8).toArray⟩) ?_
 refine se ?_
 refine ec 44 (trim_any0 (D) (by omega) _) ?_
 rintro e13 w13 ⟨rfl,g13⟩
 refine ⟨_,rfl,?_⟩
 replace hB:=hB.trans g13
 simp only [p3,p4]
 refine sw 45 (.bool true) rfl (RunV.bool (x:=((Lib.trimS (D) [48])==([]:List UInt8))) (rv_seq 9 9 _ _ (Lib.trimS (D) [48]) ([]) rfl rfl rfl) h4) ?_
 refine sv 46 (.bool true) ?_
 refine sv 40 (.bool true) ?_
 refine sq_nil ?_
 refine k12 _ _ ?_
 try clear k12 K12
 refine wp_cond_true rfl ?_
 refine wp_seq_k (fun K14 k14=>?_)
 refine rg [0,1,2] ?_
 refine sv 47 (.agg #[(.bool false),(.slice none 0 0),(.bool false),(.slice none 0 0)]) ?_
 refine se ?_
 replace L2:=L2.gr (g5.trans (g9.trans (g10.trans (g11.trans g13))))
 refine es 71 0 (.agg #[(.bool false),(.slice none 0 0),(.bool false),(.slice none 0 0)]) [(.bool false),(.slice none 0 0),(.bool false),(.slice none 0 0)] #[(.bool false),(.slice none 0 0),(.bool false),(.slice none 0 0)] L2 hB q2 ⟨rfl,rfl,rfl,rfl,trivial⟩ fun w15 st15 kp15 L2 hB=>?_
 refine sv 5 (.int .i64 19) ?_
 refine sq_nil ?_
 refine k14 _ _ ?_
 try clear k14 K14
 refine wp_ret ?_
 simp only [Exit.then,Exit.inBlock]
 refine bodyPost_ret (v:=(.tuple #[(.agg #[(.bool false),(.slice none 0 0),(.bool false),(.slice none 0 0)]),(.int .i64 19)])) (ret_cell_tmp' _ _ _ rfl rfl L2 (by kernel_rfl) rfl) rfl ⟨?_,hB⟩
 exact rfl

set_option maxRecDepth 100000 in
set_option maxHeartbeats 1000000 in
theorem read_fb1 (X A D:List UInt8) (most:Int) (_hx:X.length≤14000) (_hlong:(X.length:Int)≤most) (hc:cutL X=(A,some D)) (_hA:(A).length≤X.length) (_hD:D.length≤X.length) (h1:allD (strip A)=true) (h2:allD D=true) (h3:zerosL D=false) (h5:badZ A=true) (w:World) (hm:Mx w):
    Calls Tryz.prog 99 #[(.string ⟨(X:List UInt8).toArray⟩),(.int .i64 (most))] w fun e w'=>e=.returned (.tuple #[.agg #[.bool false,.slice none 0 0,.bool false,.slice none 0 0],.int .i64 3])∧Gr w w':=by
 have hl:decide (most<((X).length:Int))=false:=by simp;omega
 have hsA:(strip (A)).length≤(A).length:=strip_len _
 have h4:((Lib.trimS (D) [48])==([]:List UInt8))=false:=by rw [← zeros_trim];exact h3
 go_enter Tryz.func99,Tryz.ntmps99
 have hB:=Gr.refl w
 refine wp_seq_k (fun K1 k1=>?_)
 refine rg [0,1] ?_
 refine se ?_
 refine ea 71 #[(.bool false),(.slice none 0 0),(.bool false),(.slice none 0 0)] 4 hB fun b2 w2 g2 L2 o2 q2 hB=>?_
 simp only [p3,p4]
 refine sv 5 (.int .i64 0) ?_
 refine sq_nil ?_
 refine k1 _ _ ?_
 try clear k1 K1
 refine wp_seq_k (fun K3 k3=>?_)
 refine rg [0,1] ?_
 refine sv 13 (.string ⟨(X:List UInt8).toArray⟩) ?_
 refine sv 6 (.string ⟨(X:List UInt8).toArray⟩) ?_
 refine sq_nil ?_
 refine k3 _ _ ?_
 try clear k3 K3
 refine wp_seq_k (fun K4 k4=>?_)
 refine rg [0,1,2,3,4,5,6,7,8] ?_
 refine sv 15 (.string ⟨(X:List UInt8).toArray⟩) ?_
 refine se ?_
 refine ec 16 (cut_yes (X) (A) (D) (by omega) hc (hm.gr hB)) ?_
 rintro e5 w5 ⟨rfl,g5⟩
 refine ⟨_,rfl,?_⟩
 replace hB:=hB.trans g5
 simp only [p3,p4]
 refine sv 14 (.tuple #[(.string ⟨(A:List UInt8).toArray⟩),(.string ⟨(D:List UInt8).toArray⟩),(.bool true)]) ?_
 refine sv 17 (.string ⟨(A:List UInt8).toArray⟩) ?_
 refine sv 18 (.string ⟨(D:List UInt8).toArray⟩) ?_
 refine sv 19 (.bool true) ?_
 refine sv 7 (.string ⟨(A:List UInt8).toArray⟩) ?_
 refine sv 8 (.string ⟨(D:List UInt8).toArray⟩) ?_
 refine sv 9 (.bool true) ?_
 refine sq_nil ?_
 refine k4 _ _ ?_
 try clear k4 K4
 refine wp_seq_k (fun K6 k6=>?_)
 refine wp_block ?_
 refine wp_seq_k (fun K7 k7=>?_)
 refine rg [0,1,2,3,4] ?_
 refine sv 21 (.string ⟨(X:List UInt8).toArray⟩) ?_
 refine sv 22 (.int .i64 (((X).length:Int))) ?_
 refine sv 23 (.int .i64 (most)) ?_
 refine sw 24 (.bool false) rfl (RunV.bool (x:=decide (most<((X).length:Int))) (rvk (by kernel_rfl)) hl) ?_
 refine sv 20 (.bool false) ?_
 refine sq_nil ?_
 refine k7 _ _ ?_
 try clear k7 K7
 refine wp_cond_false rfl ?_
 refine wp_seq_k (fun K8 k8=>?_)
 refine rg [0,1,2,3,4,5,6,7,8,9,10,11,12] ?_
 refine sv 27 (.string ⟨(A:List UInt8).toArray⟩) ?_
 refine se ?_
 refine ec 28 (trimprefix_any (A) _) ?_
 rintro e9 w9 ⟨rfl,g9⟩
 refine ⟨_,rfl,?_⟩
 replace hB:=hB.trans g9
 simp only [p3,p4]
 refine se ?_
 refine ec 29 (rdigits_a (strip (A)) (by omega) _) ?_
 rintro e10 w10 ⟨rfl,g10⟩
 refine ⟨_,rfl,?_⟩
 replace hB:=hB.trans g10
 simp only [p3,p4]
 refine sw 30 (.bool false) rfl (RunV.bool (x:=!(allD (strip (A)))) (rvk (by kernel_rfl)) (show (!(allD (strip (A))))=false by rw [h1];rfl)) ?_
 refine sv 31 (.bool false) ?_
 refine sv 32 (.bool true) ?_
 refine sv 33 (.bool true) ?_
 refine sv 34 (.string ⟨(D:List UInt8).toArray⟩) ?_
 refine se ?_
 refine ec 35 (rdigits_a (D) (by omega) _) ?_
 rintro e11 w11 ⟨rfl,g11⟩
 refine ⟨_,rfl,?_⟩
 replace hB:=hB.trans g11
 simp only [p3,p4]
 refine sw 36 (.bool false) rfl (RunV.bool (x:=!(allD (D))) (rvk (by kernel_rfl)) (show (!(allD (D)))=false by rw [h2];rfl)) ?_
 refine sv 37 (.bool false) ?_
 refine sv 38 (.bool false) ?_
 refine sv 26 (.bool false) ?_
 refine sq_nil ?_
 refine k8 _ _ ?_
 try clear k8 K8
 refine wp_cond_false rfl ?_
 refine wp_seq_k (fun K12 k12=>?_)
 refine rg [0,1,2,3,4,5,6] ?_
 refine sv 41 (.bool true) ?_
 refine sv 42 (.bool true) ?_
 refine sv 43 (.string ⟨(D:List UInt8).toArray⟩) ?_
 refine se ?_
 refine ec 44 (trim_any0 (D) (by omega) _) ?_
 rintro e13 w13 ⟨rfl,g13⟩
 refine ⟨_,rfl,?_⟩
 replace hB:=hB.trans g13
 simp only [p3,p4]
 refine sw 45 (.bool false) rfl (RunV.bool (x:=((Lib.trimS (D) [48])==([]:List UInt8))) (rv_seq 9 9 _ _ (Lib.trimS (D) [48]) ([]) rfl rfl rfl) h4) ?_
 refine sv 46 (.bool false) ?_
 refine sv 40 (.bool false) ?_
 refine sq_nil ?_
 refine k12 _ _ ?_
 try clear k12 K12
 refine wp_cond_false rfl ?_
 refine wp_skip ?_
 refine k6 _ _ ?_
 try clear k6 K6
 refine wp_seq_k (fun K14 k14=>?_)
 refine rg [0,1,2,3,4,5,6,7] ?_
 refine sv 49 (.string ⟨(A:List UInt8).toArray⟩) ?_
 refine se ?_
 refine ec 50 (parse_bad (A) (by omega) h1 h5 _) ?_
 rintro e15 w15 ⟨rfl,g15⟩
 refine ⟨_,rfl,?_⟩
 replace hB:=hB.trans g15
 simp only [p3,p4]
 refine sv 48 (.tuple #[(.agg #[(.bool false),(.slice none 0 0)]),(.int .i64 3)]) ?_
 refine sv 51 (.agg #[(.bool false),(.slice none 0 0)]) ?_
 refine sv 52 (.int .i64 3) ?_
 refine se ?_
 refine ea 69 #[(.bool false),(.slice none 0 0)] 10 hB fun b16 w16 g16 L16 o16 q16 hB=>?_
 replace L2:=L2.gr (g5.trans (g9.trans (g10.trans (g11.trans (g13.trans g15)))))
 have ne2_16:=L2.ne o16
 simp only [p3,p4]
 refine se ?_
 refine es 69 0 (.agg #[(.bool false),(.slice none 0 0)]) [(.bool false),(.slice none 0 0)] #[(.bool false),(.slice none 0 0)] L16 hB q16 ⟨rfl,rfl,trivial⟩ fun w17 st17 kp17 L16 hB=>?_
 refine sv 11 (.int .i64 3) ?_
 refine sq_nil ?_
 refine k14 _ _ ?_
 try clear k14 K14
 refine wp_seq_k (fun K18 k18=>?_)
 refine wp_seq_k (fun K19 k19=>?_)
 refine rg [0,1] ?_
 refine sv 53 (.int .i64 3) ?_
 refine sv 54 (.bool true) ?_
 refine sq_nil ?_
 refine k19 _ _ ?_
 try clear k19 K19
 refine wp_cond_true rfl ?_
 refine wp_seq_k (fun K20 k20=>?_)
 refine rg [0,1,2] ?_
 refine sv 55 (.agg #[(.bool false),(.slice none 0 0),(.bool false),(.slice none 0 0)]) ?_
 refine se ?_
 replace L2:=st17.lc (L2.gr g16) ne2_16
 refine es 71 0 (.agg #[(.bool false),(.slice none 0 0),(.bool false),(.slice none 0 0)]) [(.bool false),(.slice none 0 0),(.bool false),(.slice none 0 0)] #[(.bool false),(.slice none 0 0),(.bool false),(.slice none 0 0)] L2 hB q2 ⟨rfl,rfl,rfl,rfl,trivial⟩ fun w21 st21 kp21 L2 hB=>?_
 refine sv 5 (.int .i64 3) ?_
 refine sq_nil ?_
 refine k20 _ _ ?_
 try clear k20 K20
 refine wp_ret ?_
 simp only [Exit.then]
 refine bodyPost_ret (v:=(.tuple #[(.agg #[(.bool false),(.slice none 0 0),(.bool false),(.slice none 0 0)]),(.int .i64 3)])) (ret_cell_tmp' _ _ _ rfl rfl L2 (by kernel_rfl) rfl) rfl ⟨?_,hB⟩
 exact rfl

set_option maxRecDepth 100000 in
set_option maxHeartbeats 1000000 in
theorem read_fb2 (X D:List UInt8) (z:Int) (most:Int) (_hx:X.length≤14000) (_hlong:(X.length:Int)≤most) (hc:cutL X=(Lib.itoa (z),some D)) (_hA:(Lib.itoa (z)).length≤X.length) (_hD:D.length≤X.length) (h2:allD D=true) (h2b:allD (strip D)=true) (h3:zerosL D=false) (h5:badZ D=true) (w:World) (hm:Mx w):
    Calls Tryz.prog 99 #[(.string ⟨(X:List UInt8).toArray⟩),(.int .i64 (most))] w fun e w'=>e=.returned (.tuple #[.agg #[.bool false,.slice none 0 0,.bool false,.slice none 0 0],.int .i64 3])∧Gr w w':=by
 have hl:decide (most<((X).length:Int))=false:=by simp;omega
 have hsA:(strip (Lib.itoa (z))).length≤(Lib.itoa (z)).length:=strip_len _
 have h1:allD (strip (Lib.itoa (z)))=true:=by rw [strip_itoa];exact allD_dec _
 have h4:((Lib.trimS (D) [48])==([]:List UInt8))=false:=by rw [← zeros_trim];exact h3
 go_enter Tryz.func99,Tryz.ntmps99
 have hB:=Gr.refl w
 refine wp_seq_k (fun K1 k1=>?_)
 refine rg [0,1] ?_
 refine se ?_
 refine ea 71 #[(.bool false),(.slice none 0 0),(.bool false),(.slice none 0 0)] 4 hB fun b2 w2 g2 L2 o2 q2 hB=>?_
 simp only [p3,p4]
 refine sv 5 (.int .i64 0) ?_
 refine sq_nil ?_
 refine k1 _ _ ?_
 try clear k1 K1
 refine wp_seq_k (fun K3 k3=>?_)
 refine rg [0,1] ?_
 refine sv 13 (.string ⟨(X:List UInt8).toArray⟩) ?_
 refine sv 6 (.string ⟨(X:List UInt8).toArray⟩) ?_
 refine sq_nil ?_
 refine k3 _ _ ?_
 try clear k3 K3
 refine wp_seq_k (fun K4 k4=>?_)
 refine rg [0,1,2,3,4,5,6,7,8] ?_
 refine sv 15 (.string ⟨(X:List UInt8).toArray⟩) ?_
 refine se ?_
 refine ec 16 (cut_yes (X) (Lib.itoa (z)) (D) (by omega) hc (hm.gr hB)) ?_
 rintro e5 w5 ⟨rfl,g5⟩
 refine ⟨_,rfl,?_⟩
 replace hB:=hB.trans g5
 simp only [p3,p4]
 refine sv 14 (.tuple #[(.string ⟨(Lib.itoa (z):List UInt8).toArray⟩),(.string ⟨(D:List UInt8).toArray⟩),(.bool true)]) ?_
 refine sv 17 (.string ⟨(Lib.itoa (z):List UInt8).toArray⟩) ?_
 refine sv 18 (.string ⟨(D:List UInt8).toArray⟩) ?_
 refine sv 19 (.bool true) ?_
 refine sv 7 (.string ⟨(Lib.itoa (z):List UInt8).toArray⟩) ?_
 refine sv 8 (.string ⟨(D:List UInt8).toArray⟩) ?_
 refine sv 9 (.bool true) ?_
 refine sq_nil ?_
 refine k4 _ _ ?_
 try clear k4 K4
 refine wp_seq_k (fun K6 k6=>?_)
 refine wp_block ?_
 refine wp_seq_k (fun K7 k7=>?_)
 refine rg [0,1,2,3,4] ?_
 refine sv 21 (.string ⟨(X:List UInt8).toArray⟩) ?_
 refine sv 22 (.int .i64 (((X).length:Int))) ?_
 refine sv 23 (.int .i64 (most)) ?_
 refine sw 24 (.bool false) rfl (RunV.bool (x:=decide (most<((X).length:Int))) (rvk (by kernel_rfl)) hl) ?_
 refine sv 20 (.bool false) ?_
 refine sq_nil ?_
 refine k7 _ _ ?_
 try clear k7 K7
 refine wp_cond_false rfl ?_
 refine wp_seq_k (fun K8 k8=>?_)
 refine rg [0,1,2,3,4,5,6,7,8,9,10,11,12] ?_
 refine sv 27 (.string ⟨(Lib.itoa (z):List UInt8).toArray⟩) ?_
 refine se ?_
 refine ec 28 (trimprefix_any (Lib.itoa (z)) _) ?_
 rintro e9 w9 ⟨rfl,g9⟩
 refine ⟨_,rfl,?_⟩
 replace hB:=hB.trans g9
 simp only [p3,p4]
 refine se ?_
 refine ec 29 (rdigits_a (strip (Lib.itoa (z))) (by omega) _) ?_
 rintro e10 w10 ⟨rfl,g10⟩
 refine ⟨_,rfl,?_⟩
 replace hB:=hB.trans g10
 simp only [p3,p4]
 refine sw 30 (.bool false) rfl (RunV.bool (x:=!(allD (strip (Lib.itoa (z))))) (rvk (by kernel_rfl)) (show (!(allD (strip (Lib.itoa (z)))))=false by rw [h1];rfl)) ?_
 refine sv 31 (.bool false) ?_
 refine sv 32 (.bool true) ?_
 refine sv 33 (.bool true) ?_
 refine sv 34 (.string ⟨(D:List UInt8).toArray⟩) ?_
 refine se ?_
 refine ec 35 (rdigits_a (D) (by omega) _) ?_
 rintro e11 w11 ⟨rfl,g11⟩
 refine ⟨_,rfl,?_⟩
 replace hB:=hB.trans g11
 simp only [p3,p4]
 refine sw 36 (.bool false) rfl (RunV.bool (x:=!(allD (D))) (rvk (by kernel_rfl)) (show (!(allD (D)))=false by rw [h2];rfl)) ?_
 refine sv 37 (.bool false) ?_
 refine sv 38 (.bool false) ?_
 refine sv 26 (.bool false) ?_
 refine sq_nil ?_
 refine k8 _ _ ?_
 try clear k8 K8
 refine wp_cond_false rfl ?_
 refine wp_seq_k (fun K12 k12=>?_)
 refine rg [0,1,2,3,4,5,6] ?_
 refine sv 41 (.bool true) ?_
 refine sv 42 (.bool true) ?_
 refine sv 43 (.string ⟨(D:List UInt8).toArray⟩) ?_
 refine se ?_
 refine ec 44 (trim_any0 (D) (by omega) _) ?_
 rintro e13 w13 ⟨rfl,g13⟩
 refine ⟨_,rfl,?_⟩
 replace hB:=hB.trans g13
 simp only [p3,p4]
 refine sw 45 (.bool false) rfl (RunV.bool (x:=((Lib.trimS (D) [48])==([]:List UInt8))) (rv_seq 9 9 _ _ (Lib.trimS (D) [48]) ([]) rfl rfl rfl) h4) ?_
 refine sv 46 (.bool false) ?_
 refine sv 40 (.bool false) ?_
 refine sq_nil ?_
 refine k12 _ _ ?_
 try clear k12 K12
 refine wp_cond_false rfl ?_
 refine wp_skip ?_
 refine k6 _ _ ?_
 try clear k6 K6
 refine wp_seq_k (fun K14 k14=>?_)
 refine rg [0,1,2,3,4,5,6,7] ?_
 refine sv 49 (.string ⟨(Lib.itoa (z):List UInt8).toArray⟩) ?_
 refine se ?_
 refine ec 50 (parse_i (z) (itoa_sz (z) (m:=14000) (by omega)) (by omega) _) ?_
 rintro e15 w15 ⟨⟨x15,y15,rfl,h15⟩,g15⟩
 refine ⟨_,rfl,?_⟩
 replace hB:=hB.trans g15
 simp only [p3,p4]
 refine sv 48 (.tuple #[(.agg #[x15,y15]),(.int .i64 0)]) ?_
 refine sv 51 (.agg #[x15,y15]) ?_
 refine sv 52 (.int .i64 0) ?_
 refine se ?_
 refine ea 69 #[(.bool false),(.slice none 0 0)] 10 hB fun b16 w16 g16 L16 o16 q16 hB=>?_
 replace L2:=L2.gr (g5.trans (g9.trans (g10.trans (g11.trans (g13.trans g15)))))
 have ne2_16:=L2.ne o16
 simp only [p3,p4]
 refine se ?_
 refine es 69 0 (.agg #[x15,y15]) [x15,y15] #[x15,y15] L16 hB q16 ⟨h15.one0,h15.one1,trivial⟩ fun w17 st17 kp17 L16 hB=>?_
 refine sv 11 (.int .i64 0) ?_
 refine sq_nil ?_
 refine k14 _ _ ?_
 try clear k14 K14
 refine wp_seq_k (fun K18 k18=>?_)
 refine wp_seq_k (fun K19 k19=>?_)
 refine rg [0,1] ?_
 refine sv 53 (.int .i64 0) ?_
 refine sv 54 (.bool false) ?_
 refine sq_nil ?_
 refine k19 _ _ ?_
 try clear k19 K19
 refine wp_cond_false rfl ?_
 refine wp_skip ?_
 refine k18 _ _ ?_
 try clear k18 K18
 refine wp_seq_k (fun K20 k20=>?_)
 refine wp_seq_k (fun K21 k21=>?_)
 refine rg [0,1] ?_
 refine sv 56 (.bool true) ?_
 refine sv 57 (.bool false) ?_
 refine sq_nil ?_
 refine k21 _ _ ?_
 try clear k21 K21
 refine wp_cond_false rfl ?_
 refine wp_skip ?_
 refine k20 _ _ ?_
 try clear k20 K20
 refine wp_seq_k (fun K22 k22=>?_)
 refine rg [0,1,2,3,4,5,6,7] ?_
 refine sv 61 (.string ⟨(D:List UInt8).toArray⟩) ?_
 refine se ?_
 refine ec 62 (parse_bad (D) (by omega) h2b h5 _) ?_
 rintro e23 w23 ⟨rfl,g23⟩
 refine ⟨_,rfl,?_⟩
 replace hB:=hB.trans g23
 simp only [p3,p4]
 refine sv 60 (.tuple #[(.agg #[(.bool false),(.slice none 0 0)]),(.int .i64 3)]) ?_
 refine sv 63 (.agg #[(.bool false),(.slice none 0 0)]) ?_
 refine sv 64 (.int .i64 3) ?_
 refine se ?_
 refine ea 69 #[(.bool false),(.slice none 0 0)] 12 hB fun b24 w24 g24 L24 o24 q24 hB=>?_
 replace L2:=(st17.lc (L2.gr g16) ne2_16).gr g23
 have ne2_24:=L2.ne o24
 replace L16:=L16.gr g23
 have ne16_24:=L16.ne o24
 simp only [p3,p4]
 refine se ?_
 refine es 69 0 (.agg #[(.bool false),(.slice none 0 0)]) [(.bool false),(.slice none 0 0)] #[(.bool false),(.slice none 0 0)] L24 hB q24 ⟨rfl,rfl,trivial⟩ fun w25 st25 kp25 L24 hB=>?_
 refine sv 11 (.int .i64 3) ?_
 refine sq_nil ?_
 refine k22 _ _ ?_
 try clear k22 K22
 refine wp_seq_k (fun K26 k26=>?_)
 refine wp_seq_k (fun K27 k27=>?_)
 have gd29:=Gr.drew w25
 replace hB:=hB.trans gd29
 replace L16:=(st25.lc (L16.gr g24) ne16_24).gr gd29
 replace L24:=L24.gr gd29
 refine wp_region_ord (fun w'=>Lc w' b16 #[x15,y15] 69∧Lc w' b24 #[(.bool false),(.slice none 0 0)] 69) [(true,0),(true,1),(true,2),(true,3),(false,4),(false,5),(true,6),(true,7),(true,8),(true,9),(true,10),(false,11),(false,12),(false,13),(true,14),(true,15)] (by kernel_rfl) (by kernel_rfl) (by kernel_rfl) (by decide) (fun _ _ _ _ _ h=>h) ⟨L16,L24⟩ ?_
 refine ov 65 (.int .i64 3) ?_
 refine ov 66 (.bool true) ?_
 refine ov 67 (.bool true) ?_
 refine os 68 ?_
 refine oz 69 ⟨L16,L24⟩ ?_
 refine oz 70 ⟨L16,L24⟩ ?_
 refine os 71 ?_
 refine ov 72 (.bool true) ?_
 refine ov 73 (.bool true) ?_
 refine os 74 ?_
 refine os 75 ?_
 refine oz 76 ⟨L16,L24⟩ ?_
 refine oz 77 ⟨L16,L24⟩ ?_
 refine oz 78 ⟨L16,L24⟩ ?_
 refine os 79 ?_
 refine ov 80 (.bool true) ?_
 refine ord_nil ?_
 refine k27 _ _ ?_
 try clear k27 K27
 refine wp_cond_true rfl ?_
 refine wp_seq_k (fun K30 k30=>?_)
 refine rg [0,1,2] ?_
 refine sv 81 (.agg #[(.bool false),(.slice none 0 0),(.bool false),(.slice none 0 0)]) ?_
 refine se ?_
 replace L2:=(st25.lc (L2.gr g24) ne2_24).gr gd29
 refine es 71 0 (.agg #[(.bool false),(.slice none 0 0),(.bool false),(.slice none 0 0)]) [(.bool false),(.slice none 0 0),(.bool false),(.slice none 0 0)] #[(.bool false),(.slice none 0 0),(.bool false),(.slice none 0 0)] L2 hB q2 ⟨rfl,rfl,rfl,rfl,trivial⟩ fun w31 st31 kp31 L2 hB=>?_
 refine sv 5 (.int .i64 3) ?_
 refine sq_nil ?_
 refine k30 _ _ ?_
 try clear k30 K30
 refine wp_ret ?_
 simp only [Exit.then]
 refine bodyPost_ret (v:=(.tuple #[(.agg #[(.bool false),(.slice none 0 0),(.bool false),(.slice none 0 0)]),(.int .i64 3)])) (ret_cell_tmp' _ _ _ rfl rfl L2 (by kernel_rfl) rfl) rfl ⟨?_,hB⟩
 exact rfl

set_option maxRecDepth 100000 in
set_option maxHeartbeats 1000000 in
theorem read_g1 (X:List UInt8) (z d:Int) (most:Int) (_hx:X.length≤14000) (_hlong:(X.length:Int)≤most) (hc:cutL X=(Lib.itoa (z),some (Lib.itoa (d)))) (_hA:(Lib.itoa (z)).length≤X.length) (_hD:(Lib.itoa (d)).length≤X.length) (h2:allD (Lib.itoa d)=true) (h3:zerosL (Lib.itoa d)=false) (h5:d=1) (w:World) (hm:Mx w):
    Calls Tryz.prog 99 #[(.string ⟨(X:List UInt8).toArray⟩),(.int .i64 (most))] w fun e w'=>e=.returned (.tuple #[.agg #[.bool false,.slice none 0 0,.bool false,.slice none 0 0],.int .i64 3])∧Gr w w':=by
 have hl:decide (most<((X).length:Int))=false:=by simp;omega
 have hsA:(strip (Lib.itoa (z))).length≤(Lib.itoa (z)).length:=strip_len _
 have h1:allD (strip (Lib.itoa (z)))=true:=by rw [strip_itoa];exact allD_dec _
 have h4:((Lib.trimS (Lib.itoa (d)) [48])==([]:List UInt8))=false:=by rw [← zeros_trim];exact h3
 have h6:(sgn (d - 1)==(0:Int))=true:=by rw [h5];rfl
 go_enter Tryz.func99,Tryz.ntmps99
 have hB:=Gr.refl w
 refine wp_seq_k (fun K1 k1=>?_)
 refine rg [0,1] ?_
 refine se ?_
 refine ea 71 #[(.bool false),(.slice none 0 0),(.bool false),(.slice none 0 0)] 4 hB fun b2 w2 g2 L2 o2 q2 hB=>?_
 simp only [p3,p4]
 refine sv 5 (.int .i64 0) ?_
 refine sq_nil ?_
 refine k1 _ _ ?_
 try clear k1 K1
 refine wp_seq_k (fun K3 k3=>?_)
 refine rg [0,1] ?_
 refine sv 13 (.string ⟨(X:List UInt8).toArray⟩) ?_
 refine sv 6 (.string ⟨(X:List UInt8).toArray⟩) ?_
 refine sq_nil ?_
 refine k3 _ _ ?_
 try clear k3 K3
 refine wp_seq_k (fun K4 k4=>?_)
 refine rg [0,1,2,3,4,5,6,7,8] ?_
 refine sv 15 (.string ⟨(X:List UInt8).toArray⟩) ?_
 refine se ?_
 refine ec 16 (cut_yes (X) (Lib.itoa (z)) (Lib.itoa (d)) (by omega) hc (hm.gr hB)) ?_
 rintro e5 w5 ⟨rfl,g5⟩
 refine ⟨_,rfl,?_⟩
 replace hB:=hB.trans g5
 simp only [p3,p4]
 refine sv 14 (.tuple #[(.string ⟨(Lib.itoa (z):List UInt8).toArray⟩),(.string ⟨(Lib.itoa (d):List UInt8).toArray⟩),(.bool true)]) ?_
 refine sv 17 (.string ⟨(Lib.itoa (z):List UInt8).toArray⟩) ?_
 refine sv 18 (.string ⟨(Lib.itoa (d):List UInt8).toArray⟩) ?_
 refine sv 19 (.bool true) ?_
 refine sv 7 (.string ⟨(Lib.itoa (z):List UInt8).toArray⟩) ?_
 refine sv 8 (.string ⟨(Lib.itoa (d):List UInt8).toArray⟩) ?_
 refine sv 9 (.bool true) ?_
 refine sq_nil ?_
 refine k4 _ _ ?_
 try clear k4 K4
 refine wp_seq_k (fun K6 k6=>?_)
 refine wp_block ?_
 refine wp_seq_k (fun K7 k7=>?_)
 refine rg [0,1,2,3,4] ?_
 refine sv 21 (.string ⟨(X:List UInt8).toArray⟩) ?_
 refine sv 22 (.int .i64 (((X).length:Int))) ?_
 refine sv 23 (.int .i64 (most)) ?_
 refine sw 24 (.bool false) rfl (RunV.bool (x:=decide (most<((X).length:Int))) (rvk (by kernel_rfl)) hl) ?_
 refine sv 20 (.bool false) ?_
 refine sq_nil ?_
 refine k7 _ _ ?_
 try clear k7 K7
 refine wp_cond_false rfl ?_
 refine wp_seq_k (fun K8 k8=>?_)
 refine rg [0,1,2,3,4,5,6,7,8,9,10,11,12] ?_
 refine sv 27 (.string ⟨(Lib.itoa (z):List UInt8).toArray⟩) ?_
 refine se ?_
 refine ec 28 (trimprefix_any (Lib.itoa (z)) _) ?_
 rintro e9 w9 ⟨rfl,g9⟩
 refine ⟨_,rfl,?_⟩
 replace hB:=hB.trans g9
 simp only [p3,p4]
 refine se ?_
 refine ec 29 (rdigits_a (strip (Lib.itoa (z))) (by omega) _) ?_
 rintro e10 w10 ⟨rfl,g10⟩
 refine ⟨_,rfl,?_⟩
 replace hB:=hB.trans g10
 simp only [p3,p4]
 refine sw 30 (.bool false) rfl (RunV.bool (x:=!(allD (strip (Lib.itoa (z))))) (rvk (by kernel_rfl)) (show (!(allD (strip (Lib.itoa (z)))))=false by rw [h1];rfl)) ?_
 refine sv 31 (.bool false) ?_
 refine sv 32 (.bool true) ?_
 refine sv 33 (.bool true) ?_
 refine sv 34 (.string ⟨(Lib.itoa (d):List UInt8).toArray⟩) ?_
 refine se ?_
 refine ec 35 (rdigits_a (Lib.itoa (d)) (by omega) _) ?_
 rintro e11 w11 ⟨rfl,g11⟩
 refine ⟨_,rfl,?_⟩
 replace hB:=hB.trans g11
 simp only [p3,p4]
 refine sw 36 (.bool false) rfl (RunV.bool (x:=!(allD (Lib.itoa (d)))) (rvk (by kernel_rfl)) (show (!(allD (Lib.itoa (d))))=false by rw [h2];rfl)) ?_
 refine sv 37 (.bool false) ?_
 refine sv 38 (.bool false) ?_
 refine sv 26 (.bool false) ?_
 refine sq_nil ?_
 refine k8 _ _ ?_
 try clear k8 K8
 refine wp_cond_false rfl ?_
 refine wp_seq_k (fun K12 k12=>?_)
 refine rg [0,1,2,3,4,5,6] ?_
 refine sv 41 (.bool true) ?_
 refine sv 42 (.bool true) ?_
 refine sv 43 (.string ⟨(Lib.itoa (d):List UInt8).toArray⟩) ?_
 refine se ?_
 refine ec 44 (trim_any0 (Lib.itoa (d)) (by omega) _) ?_
 rintro e13 w13 ⟨rfl,g13⟩
 refine ⟨_,rfl,?_⟩
 replace hB:=hB.trans g13
 simp only [p3,p4]
 refine sw 45 (.bool false) rfl (RunV.bool (x:=((Lib.trimS (Lib.itoa (d)) [48])==([]:List UInt8))) (rv_seq 9 9 _ _ (Lib.trimS (Lib.itoa (d)) [48]) ([]) rfl rfl rfl) h4) ?_
 refine sv 46 (.bool false) ?_
 refine sv 40 (.bool false) ?_
 refine sq_nil ?_
 refine k12 _ _ ?_
 try clear k12 K12
 refine wp_cond_false rfl ?_
 refine wp_skip ?_
 refine k6 _ _ ?_
 try clear k6 K6
 refine wp_seq_k (fun K14 k14=>?_)
 refine rg [0,1,2,3,4,5,6,7] ?_
 refine sv 49 (.string ⟨(Lib.itoa (z):List UInt8).toArray⟩) ?_
 refine se ?_
 refine ec 50 (parse_i (z) (itoa_sz (z) (m:=14000) (by omega)) (by omega) _) ?_
 rintro e15 w15 ⟨⟨x15,y15,rfl,h15⟩,g15⟩
 refine ⟨_,rfl,?_⟩
 replace hB:=hB.trans g15
 simp only [p3,p4]
 refine sv 48 (.tuple #[(.agg #[x15,y15]),(.int .i64 0)]) ?_
 refine sv 51 (.agg #[x15,y15]) ?_
 refine sv 52 (.int .i64 0) ?_
 refine se ?_
 refine ea 69 #[(.bool false),(.slice none 0 0)] 10 hB fun b16 w16 g16 L16 o16 q16 hB=>?_
 replace L2:=L2.gr (g5.trans (g9.trans (g10.trans (g11.trans (g13.trans g15)))))
 have ne2_16:=L2.ne o16
 simp only [p3,p4]
 refine se ?_
 refine es 69 0 (.agg #[x15,y15]) [x15,y15] #[x15,y15] L16 hB q16 ⟨h15.one0,h15.one1,trivial⟩ fun w17 st17 kp17 L16 hB=>?_
 refine sv 11 (.int .i64 0) ?_
 refine sq_nil ?_
 refine k14 _ _ ?_
 try clear k14 K14
 refine wp_seq_k (fun K18 k18=>?_)
 refine wp_seq_k (fun K19 k19=>?_)
 refine rg [0,1] ?_
 refine sv 53 (.int .i64 0) ?_
 refine sv 54 (.bool false) ?_
 refine sq_nil ?_
 refine k19 _ _ ?_
 try clear k19 K19
 refine wp_cond_false rfl ?_
 refine wp_skip ?_
 refine k18 _ _ ?_
 try clear k18 K18
 refine wp_seq_k (fun K20 k20=>?_)
 refine wp_seq_k (fun K21 k21=>?_)
 refine rg [0,1] ?_
 refine sv 56 (.bool true) ?_
 refine sv 57 (.bool false) ?_
 refine sq_nil ?_
 refine k21 _ _ ?_
 try clear k21 K21
 refine wp_cond_false rfl ?_
 refine wp_skip ?_
 refine k20 _ _ ?_
 try clear k20 K20
 refine wp_seq_k (fun K22 k22=>?_)
 refine rg [0,1,2,3,4,5,6,7] ?_
 refine sv 61 (.string ⟨(Lib.itoa (d):List UInt8).toArray⟩) ?_
 refine se ?_
 refine ec 62 (parse_i (d) (itoa_sz (d) (m:=14000) (by omega)) (by omega) _) ?_
 rintro e23 w23 ⟨⟨x23,y23,rfl,h23⟩,g23⟩
 refine ⟨_,rfl,?_⟩
 replace hB:=hB.trans g23
 simp only [p3,p4]
 refine sv 60 (.tuple #[(.agg #[x23,y23]),(.int .i64 0)]) ?_
 refine sv 63 (.agg #[x23,y23]) ?_
 refine sv 64 (.int .i64 0) ?_
 refine se ?_
 refine ea 69 #[(.bool false),(.slice none 0 0)] 12 hB fun b24 w24 g24 L24 o24 q24 hB=>?_
 replace L2:=(st17.lc (L2.gr g16) ne2_16).gr g23
 have ne2_24:=L2.ne o24
 replace L16:=L16.gr g23
 have ne16_24:=L16.ne o24
 simp only [p3,p4]
 refine se ?_
 refine es 69 0 (.agg #[x23,y23]) [x23,y23] #[x23,y23] L24 hB q24 ⟨h23.one0,h23.one1,trivial⟩ fun w25 st25 kp25 L24 hB=>?_
 refine sv 11 (.int .i64 0) ?_
 refine sq_nil ?_
 refine k22 _ _ ?_
 try clear k22 K22
 refine wp_seq_k (fun K26 k26=>?_)
 refine wp_seq_k (fun K27 k27=>?_)
 have gd34:=Gr.drew w25
 replace hB:=hB.trans gd34
 replace L16:=(st25.lc (L16.gr g24) ne16_24).gr gd34
 replace L24:=L24.gr gd34
 refine wp_region_ord (fun w'=>Lc w' b16 #[x15,y15] 69∧Lc w' b24 #[x23,y23] 69) [(true,0),(true,1),(true,2),(true,3),(false,4),(false,5),(true,6),(true,7),(true,8),(true,9),(true,10),(false,11),(false,12),(false,13),(true,14),(true,15)] (by kernel_rfl) (by kernel_rfl) (by kernel_rfl) (by decide) (fun _ _ _ _ _ h=>h) ⟨L16,L24⟩ ?_
 refine ov 65 (.int .i64 0) ?_
 refine ov 66 (.bool false) ?_
 refine ov 67 (.bool false) ?_
 refine ow 68 (.agg #[x23,y23]) rfl (fun w' hS=>(rl 69 0 [x23,y23] hS.2)) ?_
 refine oe ?_
 refine ec 69 (one_i _) ?_
 rintro e36 w36 ⟨⟨x36,y36,rfl,h36⟩,g36⟩
 refine ⟨_,rfl,?_⟩
 replace hB:=hB.trans g36
 replace L16:=L16.gr g36
 replace L24:=L24.gr g36
 refine ⟨⟨L16,L24⟩,?_⟩
 simp only [p3,p4]
 refine oe ?_
 have kq39:=g24.kp.trans (kp25.trans (gd34.kp.trans g36.kp))
 replace h23:=h23.kp kq39
 refine ec 70 (compare_i h23 h36 (by omega) (by omega)) ?_
 rintro e38 w38 ⟨rfl,g38⟩
 refine ⟨_,rfl,?_⟩
 replace hB:=hB.trans g38
 replace L16:=L16.gr g38
 replace L24:=L24.gr g38
 refine ⟨⟨L16,L24⟩,?_⟩
 simp only [p3,p4]
 refine ow 71 (.bool true) rfl (fun w' hS=>(RunV.bool (x:=(sgn (d - 1)==(0:Int))) (rvk (by kernel_rfl)) h6)) ?_
 refine ov 72 (.bool true) ?_
 refine ov 73 (.bool true) ?_
 refine os 74 ?_
 refine os 75 ?_
 refine oz 76 ⟨L16,L24⟩ ?_
 refine oz 77 ⟨L16,L24⟩ ?_
 refine oz 78 ⟨L16,L24⟩ ?_
 refine os 79 ?_
 refine ov 80 (.bool true) ?_
 refine ord_nil ?_
 refine k27 _ _ ?_
 try clear k27 K27
 refine wp_cond_true rfl ?_
 refine wp_seq_k (fun K40 k40=>?_)
 refine rg [0,1,2] ?_
 refine sv 81 (.agg #[(.bool false),(.slice none 0 0),(.bool false),(.slice none 0 0)]) ?_
 refine se ?_
 replace L2:=(st25.lc (L2.gr g24) ne2_24).gr (gd34.trans (g36.trans g38))
 refine es 71 0 (.agg #[(.bool false),(.slice none 0 0),(.bool false),(.slice none 0 0)]) [(.bool false),(.slice none 0 0),(.bool false),(.slice none 0 0)] #[(.bool false),(.slice none 0 0),(.bool false),(.slice none 0 0)] L2 hB q2 ⟨rfl,rfl,rfl,rfl,trivial⟩ fun w41 st41 kp41 L2 hB=>?_
 refine sv 5 (.int .i64 3) ?_
 refine sq_nil ?_
 refine k40 _ _ ?_
 try clear k40 K40
 refine wp_ret ?_
 simp only [Exit.then]
 refine bodyPost_ret (v:=(.tuple #[(.agg #[(.bool false),(.slice none 0 0),(.bool false),(.slice none 0 0)]),(.int .i64 3)])) (ret_cell_tmp' _ _ _ rfl rfl L2 (by kernel_rfl) rfl) rfl ⟨?_,hB⟩
 exact rfl

set_option maxRecDepth 100000 in
set_option maxHeartbeats 1000000 in
theorem read_g2 (X:List UInt8) (z d:Int) (most:Int) (_hx:X.length≤14000) (_hlong:(X.length:Int)≤most) (hc:cutL X=(Lib.itoa (z),some (Lib.itoa (d)))) (_hA:(Lib.itoa (z)).length≤X.length) (_hD:(Lib.itoa (d)).length≤X.length) (h2:allD (Lib.itoa d)=true) (h3:zerosL (Lib.itoa d)=false) (h5:d≠1) (h7:Int.gcd z d≠1) (w:World) (hm:Mx w):
    Calls Tryz.prog 99 #[(.string ⟨(X:List UInt8).toArray⟩),(.int .i64 (most))] w fun e w'=>e=.returned (.tuple #[.agg #[.bool false,.slice none 0 0,.bool false,.slice none 0 0],.int .i64 3])∧Gr w w':=by
 have hl:decide (most<((X).length:Int))=false:=by simp;omega
 have hsA:(strip (Lib.itoa (z))).length≤(Lib.itoa (z)).length:=strip_len _
 have h1:allD (strip (Lib.itoa (z)))=true:=by rw [strip_itoa];exact allD_dec _
 have h4:((Lib.trimS (Lib.itoa (d)) [48])==([]:List UInt8))=false:=by rw [← zeros_trim];exact h3
 have h6:(sgn (d - 1)==(0:Int))=false:=by rw [beq_eq_false_iff_ne];exact fun e=>h5 (by have:=sgn_eq_zero.1 e;omega)
 have h8:(sgn ((Int.gcd (z) (d):Int) - 1) !=(0:Int))=true:=by rw [bne_iff_ne];exact fun e=>h7 (by have:=sgn_eq_zero.1 e;omega)
 go_enter Tryz.func99,Tryz.ntmps99
 have hB:=Gr.refl w
 refine wp_seq_k (fun K1 k1=>?_)
 refine rg [0,1] ?_
 refine se ?_
 refine ea 71 #[(.bool false),(.slice none 0 0),(.bool false),(.slice none 0 0)] 4 hB fun b2 w2 g2 L2 o2 q2 hB=>?_
 simp only [p3,p4]
 refine sv 5 (.int .i64 0) ?_
 refine sq_nil ?_
 refine k1 _ _ ?_
 try clear k1 K1
 refine wp_seq_k (fun K3 k3=>?_)
 refine rg [0,1] ?_
 refine sv 13 (.string ⟨(X:List UInt8).toArray⟩) ?_
 refine sv 6 (.string ⟨(X:List UInt8).toArray⟩) ?_
 refine sq_nil ?_
 refine k3 _ _ ?_
 try clear k3 K3
 refine wp_seq_k (fun K4 k4=>?_)
 refine rg [0,1,2,3,4,5,6,7,8] ?_
 refine sv 15 (.string ⟨(X:List UInt8).toArray⟩) ?_
 refine se ?_
 refine ec 16 (cut_yes (X) (Lib.itoa (z)) (Lib.itoa (d)) (by omega) hc (hm.gr hB)) ?_
 rintro e5 w5 ⟨rfl,g5⟩
 refine ⟨_,rfl,?_⟩
 replace hB:=hB.trans g5
 simp only [p3,p4]
 refine sv 14 (.tuple #[(.string ⟨(Lib.itoa (z):List UInt8).toArray⟩),(.string ⟨(Lib.itoa (d):List UInt8).toArray⟩),(.bool true)]) ?_
 refine sv 17 (.string ⟨(Lib.itoa (z):List UInt8).toArray⟩) ?_
 refine sv 18 (.string ⟨(Lib.itoa (d):List UInt8).toArray⟩) ?_
 refine sv 19 (.bool true) ?_
 refine sv 7 (.string ⟨(Lib.itoa (z):List UInt8).toArray⟩) ?_
 refine sv 8 (.string ⟨(Lib.itoa (d):List UInt8).toArray⟩) ?_
 refine sv 9 (.bool true) ?_
 refine sq_nil ?_
 refine k4 _ _ ?_
 try clear k4 K4
 refine wp_seq_k (fun K6 k6=>?_)
 refine wp_block ?_
 refine wp_seq_k (fun K7 k7=>?_)
 refine rg [0,1,2,3,4] ?_
 refine sv 21 (.string ⟨(X:List UInt8).toArray⟩) ?_
 refine sv 22 (.int .i64 (((X).length:Int))) ?_
 refine sv 23 (.int .i64 (most)) ?_
 refine sw 24 (.bool false) rfl (RunV.bool (x:=decide (most<((X).length:Int))) (rvk (by kernel_rfl)) hl) ?_
 refine sv 20 (.bool false) ?_
 refine sq_nil ?_
 refine k7 _ _ ?_
 try clear k7 K7
 refine wp_cond_false rfl ?_
 refine wp_seq_k (fun K8 k8=>?_)
 refine rg [0,1,2,3,4,5,6,7,8,9,10,11,12] ?_
 refine sv 27 (.string ⟨(Lib.itoa (z):List UInt8).toArray⟩) ?_
 refine se ?_
 refine ec 28 (trimprefix_any (Lib.itoa (z)) _) ?_
 rintro e9 w9 ⟨rfl,g9⟩
 refine ⟨_,rfl,?_⟩
 replace hB:=hB.trans g9
 simp only [p3,p4]
 refine se ?_
 refine ec 29 (rdigits_a (strip (Lib.itoa (z))) (by omega) _) ?_
 rintro e10 w10 ⟨rfl,g10⟩
 refine ⟨_,rfl,?_⟩
 replace hB:=hB.trans g10
 simp only [p3,p4]
 refine sw 30 (.bool false) rfl (RunV.bool (x:=!(allD (strip (Lib.itoa (z))))) (rvk (by kernel_rfl)) (show (!(allD (strip (Lib.itoa (z)))))=false by rw [h1];rfl)) ?_
 refine sv 31 (.bool false) ?_
 refine sv 32 (.bool true) ?_
 refine sv 33 (.bool true) ?_
 refine sv 34 (.string ⟨(Lib.itoa (d):List UInt8).toArray⟩) ?_
 refine se ?_
 refine ec 35 (rdigits_a (Lib.itoa (d)) (by omega) _) ?_
 rintro e11 w11 ⟨rfl,g11⟩
 refine ⟨_,rfl,?_⟩
 replace hB:=hB.trans g11
 simp only [p3,p4]
 refine sw 36 (.bool false) rfl (RunV.bool (x:=!(allD (Lib.itoa (d)))) (rvk (by kernel_rfl)) (show (!(allD (Lib.itoa (d))))=false by rw [h2];rfl)) ?_
 refine sv 37 (.bool false) ?_
 refine sv 38 (.bool false) ?_
 refine sv 26 (.bool false) ?_
 refine sq_nil ?_
 refine k8 _ _ ?_
 try clear k8 K8
 refine wp_cond_false rfl ?_
 refine wp_seq_k (fun K12 k12=>?_)
 refine rg [0,1,2,3,4,5,6] ?_
 refine sv 41 (.bool true) ?_
 refine sv 42 (.bool true) ?_
 refine sv 43 (.string ⟨(Lib.itoa (d):List UInt8).toArray⟩) ?_
 refine se ?_
 refine ec 44 (trim_any0 (Lib.itoa (d)) (by omega) _) ?_
 rintro e13 w13 ⟨rfl,g13⟩
 refine ⟨_,rfl,?_⟩
 replace hB:=hB.trans g13
 simp only [p3,p4]
 refine sw 45 (.bool false) rfl (RunV.bool (x:=((Lib.trimS (Lib.itoa (d)) [48])==([]:List UInt8))) (rv_seq 9 9 _ _ (Lib.trimS (Lib.itoa (d)) [48]) ([]) rfl rfl rfl) h4) ?_
 refine sv 46 (.bool false) ?_
 refine sv 40 (.bool false) ?_
 refine sq_nil ?_
 refine k12 _ _ ?_
 try clear k12 K12
 refine wp_cond_false rfl ?_
 refine wp_skip ?_
 refine k6 _ _ ?_
 try clear k6 K6
 refine wp_seq_k (fun K14 k14=>?_)
 refine rg [0,1,2,3,4,5,6,7] ?_
 refine sv 49 (.string ⟨(Lib.itoa (z):List UInt8).toArray⟩) ?_
 refine se ?_
 refine ec 50 (parse_i (z) (itoa_sz (z) (m:=14000) (by omega)) (by omega) _) ?_
 rintro e15 w15 ⟨⟨x15,y15,rfl,h15⟩,g15⟩
 refine ⟨_,rfl,?_⟩
 replace hB:=hB.trans g15
 simp only [p3,p4]
 refine sv 48 (.tuple #[(.agg #[x15,y15]),(.int .i64 0)]) ?_
 refine sv 51 (.agg #[x15,y15]) ?_
 refine sv 52 (.int .i64 0) ?_
 refine se ?_
 refine ea 69 #[(.bool false),(.slice none 0 0)] 10 hB fun b16 w16 g16 L16 o16 q16 hB=>?_
 replace L2:=L2.gr (g5.trans (g9.trans (g10.trans (g11.trans (g13.trans g15)))))
 have ne2_16:=L2.ne o16
 simp only [p3,p4]
 refine se ?_
 refine es 69 0 (.agg #[x15,y15]) [x15,y15] #[x15,y15] L16 hB q16 ⟨h15.one0,h15.one1,trivial⟩ fun w17 st17 kp17 L16 hB=>?_
 refine sv 11 (.int .i64 0) ?_
 refine sq_nil ?_
 refine k14 _ _ ?_
 try clear k14 K14
 refine wp_seq_k (fun K18 k18=>?_)
 refine wp_seq_k (fun K19 k19=>?_)
 refine rg [0,1] ?_
 refine sv 53 (.int .i64 0) ?_
 refine sv 54 (.bool false) ?_
 refine sq_nil ?_
 refine k19 _ _ ?_
 try clear k19 K19
 refine wp_cond_false rfl ?_
 refine wp_skip ?_
 refine k18 _ _ ?_
 try clear k18 K18
 refine wp_seq_k (fun K20 k20=>?_)
 refine wp_seq_k (fun K21 k21=>?_)
 refine rg [0,1] ?_
 refine sv 56 (.bool true) ?_
 refine sv 57 (.bool false) ?_
 refine sq_nil ?_
 refine k21 _ _ ?_
 try clear k21 K21
 refine wp_cond_false rfl ?_
 refine wp_skip ?_
 refine k20 _ _ ?_
 try clear k20 K20
 refine wp_seq_k (fun K22 k22=>?_)
 refine rg [0,1,2,3,4,5,6,7] ?_
 refine sv 61 (.string ⟨(Lib.itoa (d):List UInt8).toArray⟩) ?_
 refine se ?_
 refine ec 62 (parse_i (d) (itoa_sz (d) (m:=14000) (by omega)) (by omega) _) ?_
 rintro e23 w23 ⟨⟨x23,y23,rfl,h23⟩,g23⟩
 refine ⟨_,rfl,?_⟩
 replace hB:=hB.trans g23
 simp only [p3,p4]
 refine sv 60 (.tuple #[(.agg #[x23,y23]),(.int .i64 0)]) ?_
 refine sv 63 (.agg #[x23,y23]) ?_
 refine sv 64 (.int .i64 0) ?_
 refine se ?_
 refine ea 69 #[(.bool false),(.slice none 0 0)] 12 hB fun b24 w24 g24 L24 o24 q24 hB=>?_
 replace L2:=(st17.lc (L2.gr g16) ne2_16).gr g23
 have ne2_24:=L2.ne o24
 replace L16:=L16.gr g23
 have ne16_24:=L16.ne o24
 simp only [p3,p4]
 refine se ?_
 refine es 69 0 (.agg #[x23,y23]) [x23,y23] #[x23,y23] L24 hB q24 ⟨h23.one0,h23.one1,trivial⟩ fun w25 st25 kp25 L24 hB=>?_
 refine sv 11 (.int .i64 0) ?_
 refine sq_nil ?_
 refine k22 _ _ ?_
 try clear k22 K22
 refine wp_seq_k (fun K26 k26=>?_)
 refine wp_seq_k (fun K27 k27=>?_)
 have gd41:=Gr.drew w25
 replace hB:=hB.trans gd41
 replace L16:=(st25.lc (L16.gr g24) ne16_24).gr gd41
 replace L24:=L24.gr gd41
 refine wp_region_ord (fun w'=>Lc w' b16 #[x15,y15] 69∧Lc w' b24 #[x23,y23] 69) [(true,0),(true,1),(true,2),(true,3),(false,4),(false,5),(true,6),(true,7),(true,8),(true,9),(true,10),(false,11),(false,12),(false,13),(true,14),(true,15)] (by kernel_rfl) (by kernel_rfl) (by kernel_rfl) (by decide) (fun _ _ _ _ _ h=>h) ⟨L16,L24⟩ ?_
 refine ov 65 (.int .i64 0) ?_
 refine ov 66 (.bool false) ?_
 refine ov 67 (.bool false) ?_
 refine ow 68 (.agg #[x23,y23]) rfl (fun w' hS=>(rl 69 0 [x23,y23] hS.2)) ?_
 refine oe ?_
 refine ec 69 (one_i _) ?_
 rintro e43 w43 ⟨⟨x43,y43,rfl,h43⟩,g43⟩
 refine ⟨_,rfl,?_⟩
 replace hB:=hB.trans g43
 replace L16:=L16.gr g43
 replace L24:=L24.gr g43
 refine ⟨⟨L16,L24⟩,?_⟩
 simp only [p3,p4]
 refine oe ?_
 have kq46:=g24.kp.trans (kp25.trans (gd41.kp.trans g43.kp))
 replace h23:=h23.kp kq46
 refine ec 70 (compare_i h23 h43 (by omega) (by omega)) ?_
 rintro e45 w45 ⟨rfl,g45⟩
 refine ⟨_,rfl,?_⟩
 replace hB:=hB.trans g45
 replace L16:=L16.gr g45
 replace L24:=L24.gr g45
 refine ⟨⟨L16,L24⟩,?_⟩
 simp only [p3,p4]
 refine ow 71 (.bool false) rfl (fun w' hS=>(RunV.bool (x:=(sgn (d - 1)==(0:Int))) (rvk (by kernel_rfl)) h6)) ?_
 refine ov 72 (.bool false) ?_
 refine ov 73 (.bool false) ?_
 refine ow 74 (.agg #[x15,y15]) rfl (fun w' hS=>(rl 69 0 [x15,y15] hS.1)) ?_
 refine ow 75 (.agg #[x23,y23]) rfl (fun w' hS=>(rl 69 0 [x23,y23] hS.2)) ?_
 refine oe ?_
 have kq49:=g16.kp.trans (kp17.trans (g23.kp.trans (g24.kp.trans (kp25.trans (gd41.kp.trans (g43.kp.trans g45.kp))))))
 replace h15:=h15.kp kq49
 replace h23:=h23.kp g45.kp
 refine ec 76 (gcd_i h15 h23 (by omega)) ?_
 rintro e48 w48 ⟨⟨x48,y48,rfl,h48⟩,g48⟩
 refine ⟨_,rfl,?_⟩
 replace hB:=hB.trans g48
 replace L16:=L16.gr g48
 replace L24:=L24.gr g48
 refine ⟨⟨L16,L24⟩,?_⟩
 simp only [p3,p4]
 refine oe ?_
 refine ec 77 (one_i _) ?_
 rintro e51 w51 ⟨⟨x51,y51,rfl,h51⟩,g51⟩
 refine ⟨_,rfl,?_⟩
 replace hB:=hB.trans g51
 replace L16:=L16.gr g51
 replace L24:=L24.gr g51
 refine ⟨⟨L16,L24⟩,?_⟩
 simp only [p3,p4]
 refine oe ?_
 replace h48:=h48.kp g51.kp
 refine ec 78 (compare_i h48 h51 (by omega) (by omega)) ?_
 rintro e53 w53 ⟨rfl,g53⟩
 refine ⟨_,rfl,?_⟩
 replace hB:=hB.trans g53
 replace L16:=L16.gr g53
 replace L24:=L24.gr g53
 refine ⟨⟨L16,L24⟩,?_⟩
 simp only [p3,p4]
 refine ow 79 (.bool true) rfl (fun w' hS=>(RunV.bool (x:=(sgn ((Int.gcd (z) (d):Int) - 1) !=(0:Int))) (rvk (by kernel_rfl)) h8)) ?_
 refine ov 80 (.bool true) ?_
 refine ord_nil ?_
 refine k27 _ _ ?_
 try clear k27 K27
 refine wp_cond_true rfl ?_
 refine wp_seq_k (fun K54 k54=>?_)
 refine rg [0,1,2] ?_
 refine sv 81 (.agg #[(.bool false),(.slice none 0 0),(.bool false),(.slice none 0 0)]) ?_
 refine se ?_
 replace L2:=(st25.lc (L2.gr g24) ne2_24).gr (gd41.trans (g43.trans (g45.trans (g48.trans (g51.trans g53)))))
 refine es 71 0 (.agg #[(.bool false),(.slice none 0 0),(.bool false),(.slice none 0 0)]) [(.bool false),(.slice none 0 0),(.bool false),(.slice none 0 0)] #[(.bool false),(.slice none 0 0),(.bool false),(.slice none 0 0)] L2 hB q2 ⟨rfl,rfl,rfl,rfl,trivial⟩ fun w55 st55 kp55 L2 hB=>?_
 refine sv 5 (.int .i64 3) ?_
 refine sq_nil ?_
 refine k54 _ _ ?_
 try clear k54 K54
 refine wp_ret ?_
 simp only [Exit.then]
 refine bodyPost_ret (v:=(.tuple #[(.agg #[(.bool false),(.slice none 0 0),(.bool false),(.slice none 0 0)]),(.int .i64 3)])) (ret_cell_tmp' _ _ _ rfl rfl L2 (by kernel_rfl) rfl) rfl ⟨?_,hB⟩
 exact rfl

theorem read_bad (X:List UInt8) (most:Nat) (hx:X.length≤14000) (h:ck2 X most≠0) (w:World) (hm:Mx w):
    Calls Tryz.prog 99 #[(.string ⟨(X:List UInt8).toArray⟩),(.int .i64 (most))] w fun e w'=>e=.returned (.tuple #[.agg #[.bool false,.slice none 0 0,.bool false,.slice none 0 0],.int .i64 (ck2 X most)])∧Gr w w':=by
  by_cases hl:most<X.length
  · have e:ck2 X most=5:=by unfold ck2;rw [if_pos hl]
    rw [e];exact read_long X most (by omega) (by omega) w hm
  have hl2:(X.length:Int)≤(most:Int):=by omega
  have hcl:=cutL_eq X
  have hnl:=numL_len X
  rcases hcut:cutL X with ⟨A,_ | D⟩
  · rw [hcut] at hcl hnl
    obtain rfl:X=A:=hcl
    have hn:numL X=X:=by unfold numL;rw [hcut]
    have hd:denL X=[49]:=by unfold denL;rw [hcut];rfl
    unfold ck2 at h ⊢
    rw [if_neg hl,hn,hd] at h ⊢
    rw [show allD [49]=true from by decide,Bool.and_true] at h ⊢
    by_cases h1:allD (strip X)=true
    · rw [if_neg (by rw [h1];decide),if_neg (by decide)] at h ⊢
      by_cases h2:badZ X=true
      · rw [if_pos (by rw [h2];rfl)]
        exact read_nf X most hx hl2 hcut h1 h2 w hm
      · rw [Bool.not_eq_true] at h2
        rw [if_neg (by rw [h2];decide),if_neg (by simp)] at h
        exact absurd rfl h
    · rw [Bool.not_eq_true] at h1
      rw [if_pos h1]
      exact read_ns X most hx hl2 hcut h1 w hm
  · rw [hcut] at hcl hnl
    dsimp only at hcl
    have hn:numL X=A:=by unfold numL;rw [hcut]
    have hd:denL X=D:=by unfold denL;rw [hcut];rfl
    have hlen:X.length=A.length+(D.length+1):=by rw [hcl];simp
    have hA:A.length≤X.length:=by omega
    have hD:D.length≤X.length:=by omega
    unfold ck2 at h ⊢
    rw [if_neg hl,hn,hd] at h ⊢
    by_cases h1:allD (strip A)=true
    · by_cases h2:allD D=true
      · rw [h1,h2,if_neg (by decide)] at h ⊢
        by_cases h3:zerosL D=true
        · rw [if_pos h3]
          exact read_fz X A D most hx hl2 hcut hA hD h1 h2 h3 w hm
        rw [if_neg h3] at h ⊢
        rw [Bool.not_eq_true] at h3
        by_cases h4:badZ A=true
        · rw [if_pos (by rw [h4];rfl)]
          exact read_fb1 X A D most hx hl2 hcut hA hD h1 h2 h3 h4 w hm
        rw [Bool.not_eq_true] at h4
        obtain ⟨z,rfl⟩:=form_itoa h1 h4
        have hz:valZ (Lib.itoa z)=z:=valZ_itoa z
        by_cases h5:(D[0]?==some 48)=true
        · rw [if_pos (by rw [h5,Bool.or_true])]
          exact read_fb2 X D z most hx hl2 hcut hA hD h2 (strip_dig h2) h3 (badZ_head h2 h3 h5) w hm
        rw [Bool.not_eq_true] at h5
        obtain ⟨e1,e2⟩:=den_text h2 h5
        obtain ⟨d,hd1⟩:∃ d:Int,d=(valL D:Int):=⟨_,rfl⟩
        have e3:Lib.itoa d=D:=by rw [hd1,itoa_nonneg (by omega),Int.natAbs_natCast];exact e1
        subst e3
        have hv:valZ (Lib.itoa d)=d:=valZ_itoa d
        rw [if_neg (by rw [h4,h5];decide),hz,hv] at h ⊢
        have hlt:decide ((Lib.itoa z).length<X.length)=true:=by simp;omega
        rw [hlt,Bool.true_and] at h ⊢
        by_cases h6:d=1
        · rw [if_pos (by rw [h6,itoa_one];rfl)]
          exact read_g1 X z d most hx hl2 hcut hA hD h2 h3 h6 w hm
        · by_cases h7:Int.gcd z d=1
          · rw [if_neg (by rw [h7];simp;intro e;exact h6 (itoa_inj (by rw [e,itoa_one])))] at h
            exact absurd rfl h
          · rw [if_pos (by simp [h7])]
            exact read_g2 X z d most hx hl2 hcut hA hD h2 h3 h6 h7 w hm
      · rw [Bool.not_eq_true] at h2
        rw [if_pos (by rw [h2,Bool.and_false])]
        exact read_fs2 X A D most hx hl2 hcut hA hD h1 h2 w hm
    · rw [Bool.not_eq_true] at h1
      rw [if_pos (by rw [h1];rfl)]
      exact read_fs1 X A D most hx hl2 hcut hA hD h1 w hm

set_option maxRecDepth 100000 in
set_option maxHeartbeats 1000000 in
theorem rparse_bad (X:List UInt8) (hx:X.length≤14000) (h:ck2 X 400≠0) (w:World) (hm:Mx w):
    Calls Tryz.prog 71 #[(.string ⟨(X:List UInt8).toArray⟩)] w fun e w'=>e=.returned (.tuple #[.agg #[.bool false,.slice none 0 0,.bool false,.slice none 0 0],.int .i64 (ck2 X 400)])∧Gr w w':=by
 go_enter Tryz.func71,Tryz.ntmps71
 have hB:=Gr.refl w
 refine wp_seq_k (fun K1 k1=>?_)
 refine rg [0,1] ?_
 refine se ?_
 refine ea 71 #[(.bool false),(.slice none 0 0),(.bool false),(.slice none 0 0)] 2 hB fun b2 w2 g2 L2 o2 q2 hB=>?_
 simp only [p3,p4]
 refine sv 3 (.int .i64 0) ?_
 refine sq_nil ?_
 refine k1 _ _ ?_
 try clear k1 K1
 refine wp_seq_k (fun K3 k3=>?_)
 refine rg [0,1,2,3,4,5] ?_
 refine sv 4 (.string ⟨(X:List UInt8).toArray⟩) ?_
 refine se ?_
 refine ec 5 (read_bad X 400 hx h _ (hm.gr hB)) ?_
 rintro e4 w4 ⟨rfl,g4⟩
 refine ⟨_,rfl,?_⟩
 replace hB:=hB.trans g4
 simp only [p3,p4]
 refine sv 6 (.agg #[(.bool false),(.slice none 0 0),(.bool false),(.slice none 0 0)]) ?_
 refine sv 7 (.int .i64 (ck2 X 400)) ?_
 refine se ?_
 replace L2:=L2.gr g4
 refine es 71 0 (.agg #[(.bool false),(.slice none 0 0),(.bool false),(.slice none 0 0)]) [(.bool false),(.slice none 0 0),(.bool false),(.slice none 0 0)] #[(.bool false),(.slice none 0 0),(.bool false),(.slice none 0 0)] L2 hB q2 ⟨rfl,rfl,rfl,rfl,trivial⟩ fun w5 st5 kp5 L2 hB=>?_
 refine sv 3 (.int .i64 (ck2 X 400)) ?_
 refine sq_nil ?_
 refine k3 _ _ ?_
 try clear k3 K3
 refine wp_ret ?_
 refine bodyPost_ret (v:=(.tuple #[(.agg #[(.bool false),(.slice none 0 0),(.bool false),(.slice none 0 0)]),(.int .i64 (ck2 X 400))])) (ret_cell_tmp' _ _ _ rfl rfl L2 (by kernel_rfl) rfl) rfl ⟨?_,hB⟩
 exact rfl

/-- the first error of a list of texts -/
def ferr:List (List UInt8)→Int
  | []=>0
  | X::Xs=>if ck2 X 40=0 then ferr Xs else ck2 X 40
theorem take_succ_getD {α:Type} {Xs:List α} {d:α} {k:Nat} (hk:k<Xs.length):Xs.take (k+1)=Xs.take k++[Xs.getD k d]:=by
  rw [List.take_add_one,List.getD_eq_getElem?_getD,List.getElem?_eq_getElem hk];rfl
theorem ferr_mid:∀ {Xs:List (List UInt8)} {k:Nat},k<Xs.length→(∀ j,j<k→ck2 (Xs.getD j []) 40=0)→ck2 (Xs.getD k []) 40≠0→ferr Xs=ck2 (Xs.getD k []) 40
  | [],_,h,_,_=>by simp at h
  | X::Xs,0,_,_,h=>by simp only [List.getD_cons_zero] at h ⊢;rw [ferr,if_neg h]
  | X::Xs,k+1,hk,hj,h=>by
    have h0:=hj 0 (by omega)
    simp only [List.getD_cons_zero] at h0
    simp only [List.getD_cons_succ] at h ⊢
    rw [ferr,if_pos h0]
    exact ferr_mid (by simpa using hk) (fun j hj'=>by have:=hj (j+1) (by omega);simpa using this) h
theorem ferr_none:∀ {Xs:List (List UInt8)},(∀ j,j<Xs.length→ck2 (Xs.getD j []) 40=0)→ferr Xs=0
  | [],_=>rfl
  | X::Xs,h=>by
    have h0:=h 0 (by simp)
    simp only [List.getD_cons_zero] at h0
    rw [ferr,if_pos h0]
    exact ferr_none fun j hj=>by have:=h (j+1) (by simpa using hj);simpa using this
open Classical in
/-- the rational of a text -/
noncomputable def valT (X:List UInt8):Rat:=if h:∃ q,X=ratL q then h.choose else 0
theorem valT_ratL {X:List UInt8} (h:∃ q,X=ratL q):X=ratL (valT X):=by
  unfold valT
  rw [dif_pos h]
  exact h.choose_spec
theorem valT_ck {X:List UInt8} (h:ck2 X 40=0):X=ratL (valT X):=by
  obtain ⟨⟨q,e⟩,_⟩:=ck2_ratL h
  exact valT_ratL ⟨q,e⟩
/-- the first k elements done,the others as they were made -/
def filled {α β:Type} (f:α→β) (d:β) (Xs:List α) (k:Nat):List β:=(Xs.take k).map f++List.replicate (Xs.length - k) d
theorem filled_zero {α β:Type} (f:α→β) (d:β) (Xs:List α):filled f d Xs 0=List.replicate Xs.length d:=by simp [filled]
theorem filled_len {α β:Type} (f:α→β) (d:β) (Xs:List α) {k:Nat} (hk:k≤Xs.length):(filled f d Xs k).length=Xs.length:=by simp [filled];omega
theorem filled_all {α β:Type} (f:α→β) (d:β) (Xs:List α):filled f d Xs Xs.length=Xs.map f:=by simp [filled]
theorem filled_set {α β:Type} (f:α→β) (d:β) {Xs:List α} (dx:α) {k:Nat} (hk:k<Xs.length) {y:β} (hy:y=f (Xs.getD k dx)):(filled f d Xs k).set k y=filled f d Xs (k+1):=by
  unfold filled
  have h1:((Xs.take k).map f).length=k:=by simp;omega
  have h2:List.replicate (Xs.length - k) d=d::List.replicate (Xs.length - (k+1)) d:=by
    rw [show Xs.length - k=(Xs.length - (k+1))+1 by omega,List.replicate_succ]
  rw [List.set_append_right _ _ (by omega),h1,Nat.sub_self,h2,List.set_cons_zero,take_succ_getD (d:=dx) hk,List.map_append,hy]
  simp
theorem map_valT {Xs:List (List UInt8)} (h:ferr Xs=0):(Xs.map valT).map ratL=Xs:=by
  induction Xs with
  | nil=>rfl
  | cons X Xs ih=>
    rw [ferr] at h
    split at h
    · next e=>rw [List.map_cons,List.map_cons,ih h,← valT_ck e]
    · next e=>exact absurd h e
theorem ck2_mst {X:List UInt8} {m n:Nat} (h1:X.length≤m) (h2:X.length≤n):ck2 X m=ck2 X n:=by
  unfold ck2
  rw [if_neg (show ¬ m<X.length by omega),if_neg (show ¬ n<X.length by omega)]
theorem pz_ok (X:List UInt8) (h:ck2 X 40=0) (w:World) (hm:Mx w):
    Calls Tryz.prog 71 #[.string ⟨X.toArray⟩] w fun e w'=>(∃ c0 c1 c2 c3,e=.returned (.tuple #[.agg #[c0,c1,c2,c3],.int .i64 0])∧IsRat w' 160 c0 c1 c2 c3 (valT X))∧Gr w w':=by
  have hl:=(ck2_ratL h).2
  have e:=valT_ck h
  have hs:=ratL_sz (valT X) (m:=40) (by rw [← e];omega)
  have:=parse_q (k:=160) (valT X) hs (by omega) (by omega) (by rw [← e];omega) w hm
  rw [← e] at this;exact this
theorem pz_bad (X:List UInt8) (hl:X.length≤40) (h:ck2 X 40≠0) (w:World) (hm:Mx w):
    Calls Tryz.prog 71 #[.string ⟨X.toArray⟩] w fun e w'=>e=.returned (.tuple #[.agg #[.bool false,.slice none 0 0,.bool false,.slice none 0 0],.int .i64 (ck2 X 40)])∧Gr w w':=by
  have e:=ck2_mst (X:=X) (m:=40) (n:=400) hl (by omega)
  rw [e] at h ⊢
  exact rparse_bad X (by omega) h w hm
-- LEFT OUT:r1_check r2_check r2_check_l r2_digits r2_parts r2_parts_q r2_slash r2_zeros rz_bad rz_ok
section
variable {zl:Nat→Nat} {X:Nat→Nat→List UInt8} {k Z N:Nat}
/-- the first error of the lengths of the first k rows -/
def szc (zl:Nat→Nat):Nat→Int
  | 0=>0
  | k+1=>if szc zl k≠0 then szc zl k else if 96<zl k then 6 else if zl k≠zl 0 then 13 else 0
theorem szc_a (h:¬ szc zl k=0):szc zl k=szc zl (k+1):=(if_pos h).symm
theorem szc_b (h:szc zl k=0) (hb:96<zl k):6=szc zl (k+1):=by show _=ite _ _ _;rw [if_neg (fun e=>e h),if_pos hb]
theorem szc_c (h:szc zl k=0) (hb:¬ 96<zl k) (hn:¬ zl k=zl 0):13=szc zl (k+1):=by show _=ite _ _ _;rw [if_neg (fun e=>e h),if_neg hb,if_pos hn]
theorem szc_d (h:szc zl k=0) (hb:¬ 96<zl k) (hn:zl k=zl 0):szc zl k=szc zl (k+1):=by show _=ite _ _ _;rw [if_neg (fun e=>e h),if_neg hb,if_neg (fun e=>e hn)];exact h
theorem szc_stay (h:¬ szc zl k=0):∀ {Z:Nat},k≤Z→szc zl Z=szc zl k
  | 0,hk=>by rw [show k=0 by omega]
  | Z+1,hk=>by
    rcases Nat.eq_or_lt_of_le hk with rfl | h1
    · rfl
    · have h2:=szc_stay h (Z:=Z) (by omega)
      rw [← szc_a (by rw [h2];exact h),h2]
theorem szc_zero (h:szc zl Z=0) (hk:k<Z):zl k≤96∧zl k=zl 0:=by
  have h1:szc zl (k+1)=0:=Classical.byContradiction fun hn=>by rw [szc_stay hn (Z:=Z) (by omega)] at h;exact hn h
  have h0:szc zl k=0:=Classical.byContradiction fun hn=>by rw [szc_stay hn (Z:=k+1) (by omega)] at h1;exact hn h1
  by_cases hb:96<zl k
  · rw [← szc_b h0 hb] at h1;cases h1
  · by_cases hn:zl k=zl 0
    · exact ⟨by omega,hn⟩
    · rw [← szc_c h0 hb hn] at h1;cases h1
/-- the first error of the texts of the first k rows -/
def rfe (X:Nat→Nat→List UInt8) (N:Nat):Nat→Int
  | 0=>0
  | k+1=>if rfe X N k≠0 then rfe X N k else ferr (tb (X k) N)
theorem rfe_a (h:¬ rfe X N k=0):rfe X N k=rfe X N (k+1):=(if_pos h).symm
theorem rfe_b (h:rfe X N k=0):ferr (tb (X k) N)=rfe X N (k+1):=(if_neg fun e=>e h).symm
theorem rfe_stay (h:¬ rfe X N k=0):∀ {Z:Nat},k≤Z→rfe X N Z=rfe X N k
  | 0,hk=>by rw [show k=0 by omega]
  | Z+1,hk=>by
    rcases Nat.eq_or_lt_of_le hk with rfl | h1
    · rfl
    · have h2:=rfe_stay h (Z:=Z) (by omega)
      rw [← rfe_a (by rw [h2];exact h),h2]
theorem rfe_zero (h:rfe X N Z=0) (hk:k<Z):ferr (tb (X k) N)=0:=by
  have h1:rfe X N (k+1)=0:=Classical.byContradiction fun hn=>by rw [rfe_stay hn (Z:=Z) (by omega)] at h;exact hn h
  have h0:rfe X N k=0:=Classical.byContradiction fun hn=>by rw [rfe_stay hn (Z:=k+1) (by omega)] at h1;exact hn h1
  rw [rfe_b h0];exact h1
end
theorem map_tb {α β:Type} (f:α→β) (g:Nat→α) (n:Nat):(tb g n).map f=tb (fun k=>f (g k)) n:=by
  unfold tb;rw [List.map_map];rfl
theorem tb_short {g:Nat→List UInt8} {n:Nat} (h:∀ k,k<n→(g k).length≤20) (j:Nat):((tb g n).getD j []).length≤40:=by
  rw [List.getD_eq_getElem?_getD]
  by_cases hj:j<n
  · rw [tb_get hj,Option.getD_some];have:=h j hj;omega
  · rw [List.getElem?_eq_none (by rw [tb_len];omega)];simp
theorem tb_back {g:Nat→List UInt8} {n:Nat} (h:ferr (tb g n)=0):tb (fun k=>ratL (valT (g k))) n=tb g n:=by
  have:=map_valT h
  rw [map_tb,map_tb] at this;exact this
theorem txr_of {T:Nat} {w:World} {v:Value} {xs:List (List (List UInt8))} (h:Sl (ESl ETxt 1) T 1 w v xs):∃ (X:Nat→Nat→List UInt8) (zl:Nat→Nat) (Z:Nat),Sl (ESl ETxt 1) T 1 w v (tb (fun z0=>tb (X z0) (zl z0)) Z):=
  ⟨_,_,_,(h.cast (list_tb [] _)).cast (tb_congr fun i _=>list_tb [] _)⟩
section
variable {H:Type} {enc:TypeId × Value→H} {P:Program} {W:World} {base:Nat} {sp:Nat→Bool} {held:Bool}
theorem trod_txt {t fuel:Nat} {cs:List Value} {y:DataW H × List MemPlace} (ht:P.underlying t=some .string) (h:DataW.trod enc P W base sp held fuel t cs=some y):∃ x,ETxt W x cs:=by
  obtain ⟨s,rfl,_⟩:=DataW.trod_string ht h
  exact ⟨s.data.toList,by unfold ETxt strV;simp⟩
end
theorem ck_succ {Xs:List (List UInt8)} {k:Nat} (h:∀ j,j<k→ck2 (Xs.getD j []) 40=0) (hk:ck2 (Xs.getD k []) 40=0):∀ j,j<k+1→ck2 (Xs.getD j []) 40=0:=fun j hj=>by
  rcases Nat.lt_or_eq_of_le (Nat.le_of_lt_succ hj) with h1 | rfl
  · exact h j h1
  · exact hk

set_option maxRecDepth 100000 in
set_option maxHeartbeats 1000000 in
theorem all_pz (v:Value) (Xs:List (List UInt8)) (_hn:Xs.length≤100) (hl:∀ j,(Xs.getD j []).length≤40) {w:World} (hs:Sl ETxt 61 1 w v Xs) (hm:Mx w):
    Calls Tryz.prog 70 #[v,(.func (.func 71) #[] #[])] w fun e w'=>(∃ u,e=.returned (.tuple #[u,.int .i64 (ferr Xs)])∧(ferr Xs=0→Sl (ERat 160) 71 4 w' u (Xs.map valT))∧(ferr Xs≠0→u=.slice none 0 0))∧Gr w w':=by
 go_enter Tryz.func70,Tryz.ntmps70
 have hB:=Gr.refl w
 refine wp_seq_k (fun K1 k1=>?_)
 refine rg [0,1] ?_
 refine sv 4 (.slice none 0 0) ?_
 refine sv 5 (.int .i64 0) ?_
 refine sq_nil ?_
 refine k1 _ _ ?_
 try clear k1 K1
 refine wp_seq_k (fun K2 k2=>?_)
 refine rg [0,1,2,3] ?_
 refine sv 10 v ?_
 refine sw 11 (.int .i64 (((Xs).length:Int))) rfl (rv_len (e:=61) hs _ _ rfl rfl (by kernel_rfl)) ?_
 refine se ?_
 refine eff_mk (E:=(ERat 160)) (0:Rat) 49 71 (.agg #[(.bool false),(.slice none 0 0),(.bool false),(.slice none 0 0)]) (Xs).length 4 64 (some 12) rfl rfl rfl rfl (by kernel_rfl) (by kernel_rfl) (by decide) (by omega) (by decide) (fun w2=>erat_zero 160 (by omega) w2) (fun b3 w3 g3 mk3 q3=>?_)
 replace q3:=Nat.le_trans (Below.size hB) q3
 replace hB:=hB.trans g3
 simp only [putl,p3,p4]
 refine sv 6 (.slice (some ⟨b3,0,none⟩) (Xs).length (Xs).length) ?_
 refine sq_nil ?_
 refine k2 _ _ ?_
 try clear k2 K2
 refine wp_seq_k (fun K4 k4=>?_)
 refine wp_seq_k (fun K5 k5=>?_)
 refine rg [0,1,2] ?_
 refine sv 13 v ?_
 refine sw 14 (.int .i64 (((Xs).length:Int))) rfl (rv_len (e:=61) hs _ _ rfl rfl (by kernel_rfl)) ?_
 refine sv 15 (.int .i64 0) ?_
 refine sq_nil ?_
 refine k5 _ _ ?_
 try clear k5 K5
 refine wp_block ?_
 refine wp_loop_inv (a:=⟨List.toArray ?l6,[]⟩) (fun n a w'=>∃ (k:Nat) (u6:Nat→Value),(Xs).length - k=n∧a=⟨[v,(.func (.func 71) #[] #[]),undef,undef,(u6 4),(u6 5),(.slice (some ⟨b3,0,none⟩) (Xs).length (Xs).length),(u6 7),(u6 8),(u6 9),(u6 10),(u6 11),(u6 12),v,(.int .i64 (((Xs).length:Int))),(.int .i64 ((k:Int))),(u6 16),(u6 17),(u6 18),(u6 19),(u6 20),(u6 21),(u6 22),(u6 23),(u6 24),(u6 25),(u6 26),(u6 27),(u6 28),(u6 29),(u6 30),(u6 31),(u6 32),undef].toArray,[]⟩∧k≤(Xs).length∧(∀ j,j<k→ck2 ((Xs).getD j []) 40=0)∧Mk (ERat 160) 71 4 w' b3 (filled valT 0 Xs k)∧Gr w w') ((Xs).length - 0) ?_ ?_
 ·exact ⟨0,(fun i=>List.getD ?l6 i undef),rfl,rfl,(Nat.zero_le _),(fun j h=>absurd h (Nat.not_lt_zero j)),(by rw [filled_zero];exact mk3),hB⟩
 rintro n6 a6 w6 ⟨k,u6,rfl,rfl,hk,hall,hmk,hB⟩ K6 k6
 refine wp_seq_k (fun K7 k7=>?_)
 refine rg [0] ?_
 refine sv 16 (.bool (decide ((k:Int)<((Xs).length:Int)))) ?_
 refine sq_nil ?_
 refine k7 _ _ ?_
 try clear k7 K7
 refine wp_seq_k (fun K8 k8=>?_)
 refine wp_cond_split (t:=decide ((k:Int)<((Xs).length:Int))) rfl (fun hb9=>?_) (fun hb9=>?_)
 ·have hlt:=of_decide_eq_true hb9
  refine wp_skip ?_
  refine k8 _ _ ?_
  try clear k8 K8
  refine wp_seq_k (fun K10 k10=>?_)
  refine wp_block ?_
  refine wp_seq_k (fun K11 k11=>?_)
  refine rg [0,1,2,3,4] ?_
  refine sv 17 (.int .i64 ((k:Int))) ?_
  refine sw 18 (adr v (k*1)) rfl (rv_idx (e:=61) hs (by decide) k (by omega) _ _ _ rfl rfl rfl (by kernel_rfl) (by kernel_rfl)) ?_
  obtain ⟨_,_,rfl,at12⟩:=(hs.gr stab_txt hB).get (by decide) (getD_some (d:=([]:List UInt8)) (i:=k) (xs:=Xs) (by omega))
  refine sw 19 (.string ⟨((Xs).getD k []:List UInt8).toArray⟩) rfl (rv_ld1 (.string ⟨((Xs).getD k []:List UInt8).toArray⟩) at12 _ _ rfl rfl (by kernel_rfl)) ?_
  refine sv 7 (.int .i64 ((k:Int))) ?_
  refine sv 8 (.string ⟨((Xs).getD k []:List UInt8).toArray⟩) ?_
  refine sq_nil ?_
  refine k11 _ _ ?_
  try clear k11 K11
  refine wp_seq_k (fun K13 k13=>?_)
  refine rg [0] ?_
  refine sv 9 (.int .i64 0) ?_
  refine sq_nil ?_
  refine k13 _ _ ?_
  try clear k13 K13
  refine wp_seq_k (fun K14 k14=>?_)
  refine rg [0,1,2,3,4,5,6,7,8,9,10] ?_
  refine sv 21 (.slice (some ⟨b3,0,none⟩) (Xs).length (Xs).length) ?_
  refine sv 22 (.int .i64 ((k:Int))) ?_
  refine sv 23 (.func (.func 71) #[] #[]) ?_
  refine sv 24 (.string ⟨((Xs).getD k []:List UInt8).toArray⟩) ?_
  refine se ?_
  rcases Bool.eq_false_or_eq_true ((ck2 ((Xs).getD k []) 40==(0:Int))) with hb15 | hb15
  ·have hc0:=eq_of_beq hb15
   refine ec 25 (pz_ok ((Xs).getD k []) hc0 _ (hm.gr hB)) ?_
   rintro e16 w16 ⟨⟨p16,q16,r16,s16,rfl,h16⟩,g16⟩
   refine ⟨_,rfl,?_⟩
   replace hB:=hB.trans g16
   simp only [p3,p4]
   refine sv 20 (.tuple #[(.agg #[p16,q16,r16,s16]),(.int .i64 0)]) ?_
   refine sv 26 (.agg #[p16,q16,r16,s16]) ?_
   refine sv 27 (.int .i64 0) ?_
   refine sw 28 (adr (.slice (some ⟨b3,0,none⟩) (Xs).length (Xs).length) (k*4)) rfl (rv_idx (e:=71) (hmk.sl_n (filled_len valT 0 Xs hk) (Nat.le_refl _)) (by decide) k (by rw [filled_len valT 0 Xs hk];omega) _ _ _ rfl rfl rfl (by kernel_rfl) (by kernel_rfl)) ?_
   refine se ?_
   replace hmk:=hmk.gr (stab_rat 160) g16
   refine eff_stm (stab_rat 160) hmk k (by rw [filled_len valT 0 Xs hk];omega) ((valT ((Xs).getD k []))) (.agg #[p16,q16,r16,s16]) [p16,q16,r16,s16] ((Xs).length) ((Xs).length) 71 _ _ rfl rfl rfl rfl rfl (by kernel_rfl) rfl ⟨h16.one0,h16.one1,h16.one2,h16.one3,trivial⟩ ⟨_,_,_,_,rfl,h16.mono (by omega)⟩ (by decide) (fun w17 st17 kt17 mk17=>?_)
   replace hB:=st17.gr hB q3
   refine sv 9 (.int .i64 0) ?_
   refine sq_nil ?_
   refine k14 _ _ ?_
   try clear k14 K14
   refine wp_seq_k (fun K18 k18=>?_)
   refine rg [0,1] ?_
   refine sv 29 (.int .i64 0) ?_
   refine sv 30 (.bool false) ?_
   refine sq_nil ?_
   refine k18 _ _ ?_
   try clear k18 K18
   refine wp_cond_false rfl ?_
   refine wp_skip ?_
   refine k10 _ _ ?_
   try clear k10 K10
   refine rg [0,1] ?_
   refine sw 32 (.int .i64 (((k:Int)+1))) rfl (RunV.int (x:=IntKind.i64.wrap (((k:Int)+1))) (y:=((k:Int)+1)) (rvk (by kernel_rfl)) (by first | rfl | (rw [IntKind.wrap_i64];omega))) ?_
   refine sv 15 (.int .i64 (((k:Int)+1))) ?_
   refine sq_nil ?_
   refine k6 ((Xs).length - (k+1)) ⟨List.toArray ?l19,[]⟩ _ (by omega) ?_
   exact ⟨k+1,(fun i=>List.getD ?l19 i undef),rfl,rfl,(by omega),(ck_succ hall hc0),(by rw [← filled_set valT 0 [] (by omega) rfl];exact mk17),hB⟩
  ·have hc1:ck2 ((Xs).getD k []) 40≠0:=ne_of_beq_false hb15
   refine ec 25 (pz_bad ((Xs).getD k []) (hl k) hc1 _ (hm.gr hB)) ?_
   rintro e20 w20 ⟨rfl,g20⟩
   refine ⟨_,rfl,?_⟩
   replace hB:=hB.trans g20
   simp only [p3,p4]
   refine sv 20 (.tuple #[(.agg #[(.bool false),(.slice none 0 0),(.bool false),(.slice none 0 0)]),(.int .i64 (ck2 ((Xs).getD k []) 40))]) ?_
   refine sv 26 (.agg #[(.bool false),(.slice none 0 0),(.bool false),(.slice none 0 0)]) ?_
   refine sv 27 (.int .i64 (ck2 ((Xs).getD k []) 40)) ?_
   refine sw 28 (adr (.slice (some ⟨b3,0,none⟩) (Xs).length (Xs).length) (k*4)) rfl (rv_idx (e:=71) (hmk.sl_n (filled_len valT 0 Xs hk) (Nat.le_refl _)) (by decide) k (by rw [filled_len valT 0 Xs hk];omega) _ _ _ rfl rfl rfl (by kernel_rfl) (by kernel_rfl)) ?_
   refine se ?_
   replace hmk:=hmk.gr (stab_rat 160) g20
   refine eff_stm (stab_rat 160) hmk k (by rw [filled_len valT 0 Xs hk];omega) (0) (.agg #[(.bool false),(.slice none 0 0),(.bool false),(.slice none 0 0)]) [(.bool false),(.slice none 0 0),(.bool false),(.slice none 0 0)] ((Xs).length) ((Xs).length) 71 _ _ rfl rfl rfl rfl rfl (by kernel_rfl) rfl ⟨rfl,rfl,rfl,rfl,trivial⟩ ⟨_,_,_,_,rfl,(IsRat.zero _ (k:=64) (Nat.le_refl _)).mono (by omega)⟩ (by decide) (fun w21 st21 kt21 mk21=>?_)
   replace hB:=st21.gr hB q3
   refine sv 9 (.int .i64 (ck2 ((Xs).getD k []) 40)) ?_
   refine sq_nil ?_
   refine k14 _ _ ?_
   try clear k14 K14
   refine wp_seq_k (fun K22 k22=>?_)
   refine rg [0,1] ?_
   refine sv 29 (.int .i64 (ck2 ((Xs).getD k []) 40)) ?_
   have hb23:((ck2 ((Xs).getD k []) 40 !=(0:Int)))=true:=(by simpa using hc1)
   refine sw 30 (.bool true) rfl (RunV.bool (x:=(ck2 ((Xs).getD k []) 40 !=(0:Int))) (rvk (by kernel_rfl)) hb23) ?_
   refine sq_nil ?_
   refine k22 _ _ ?_
   try clear k22 K22
   refine wp_cond_true rfl ?_
   refine wp_seq_k (fun K24 k24=>?_)
   refine rg [0,1,2] ?_
   refine sv 31 (.int .i64 (ck2 ((Xs).getD k []) 40)) ?_
   refine sv 4 (.slice none 0 0) ?_
   refine sv 5 (.int .i64 (ck2 ((Xs).getD k []) 40)) ?_
   refine sq_nil ?_
   refine k24 _ _ ?_
   try clear k24 K24
   refine wp_ret ?_
   simp only [Exit.then,Exit.inBlock]
   refine bodyPost_ret (v:=(.tuple #[(.slice none 0 0),(.int .i64 (ck2 ((Xs).getD k []) 40))])) (ret_tmp2 rfl rfl rfl) rfl ⟨?_,hB⟩
   have hz:=ferr_mid (by omega) hall hc1
   exact ⟨_,by rw [hz],fun h=>absurd (hz.symm.trans h) hc1,fun _=>rfl⟩
 ·have hge:=of_decide_eq_false hb9
  have hkk:k=(Xs).length:=by omega
  refine wp_exit ?_
  simp only [Exit.then,Exit.inBlock,↓reduceIte]
  refine k4 _ _ ?_
  try clear k4 K4
  refine wp_seq_k (fun K25 k25=>?_)
  refine rg [0,1,2] ?_
  refine sv 33 (.slice (some ⟨b3,0,none⟩) (Xs).length (Xs).length) ?_
  refine sv 4 (.slice (some ⟨b3,0,none⟩) (Xs).length (Xs).length) ?_
  refine sv 5 (.int .i64 0) ?_
  refine sq_nil ?_
  refine k25 _ _ ?_
  try clear k25 K25
  refine wp_ret ?_
  refine bodyPost_ret (v:=(.tuple #[(.slice (some ⟨b3,0,none⟩) (Xs).length (Xs).length),(.int .i64 0)])) (ret_tmp2 rfl rfl rfl) rfl ⟨?_,hB⟩
  have hS:=(hmk.sl_n (filled_len valT 0 Xs hk) (Nat.le_refl _))
  subst hkk
  have hz:=ferr_none hall
  rw [filled_all] at hS
  exact ⟨_,by rw [hz],fun _=>hS,fun h=>absurd hz h⟩

set_option maxRecDepth 100000 in
set_option maxHeartbeats 1000000 in
theorem parses_l (v:Value) (Xs:List (List UInt8)) (hn:Xs.length≤100) (hl:∀ j,(Xs.getD j []).length≤40) {w:World} (hs:Sl ETxt 61 1 w v Xs) (hm:Mx w):
    Calls Tryz.prog 28 #[v] w fun e w'=>(∃ u,e=.returned (.tuple #[u,.int .i64 (ferr Xs)])∧(ferr Xs=0→Sl (ERat 160) 71 4 w' u (Xs.map valT))∧(ferr Xs≠0→u=.slice none 0 0))∧Gr w w':=by
 go_enter Tryz.func28,Tryz.ntmps28
 have hB:=Gr.refl w
 refine wp_seq_k (fun K1 k1=>?_)
 refine rg [0,1] ?_
 refine sv 2 (.slice none 0 0) ?_
 refine sv 3 (.int .i64 0) ?_
 refine sq_nil ?_
 refine k1 _ _ ?_
 try clear k1 K1
 refine wp_seq_k (fun K2 k2=>?_)
 refine rg [0,1,2,3,4,5] ?_
 refine sv 4 v ?_
 refine se ?_
 refine ec 5 (all_pz v Xs hn hl (hs.gr stab_txt hB) (hm.gr hB)) ?_
 rintro e3 w3 ⟨⟨u3,rfl,hy3,hz3⟩,g3⟩
 refine ⟨_,rfl,?_⟩
 replace hB:=hB.trans g3
 simp only [p3,p4]
 refine sv 6 u3 ?_
 refine sv 7 (.int .i64 (ferr Xs)) ?_
 refine sv 2 u3 ?_
 refine sv 3 (.int .i64 (ferr Xs)) ?_
 refine sq_nil ?_
 refine k2 _ _ ?_
 try clear k2 K2
 refine wp_ret ?_
 refine bodyPost_ret (v:=(.tuple #[u3,(.int .i64 (ferr Xs))])) (ret_tmp2 rfl rfl rfl) rfl ⟨?_,hB⟩
 exact ⟨_,rfl,fun h=>by have:=hy3 h;exact this,hz3⟩

set_option maxRecDepth 100000 in
set_option maxHeartbeats 1000000 in
theorem numbers_l (v:Value) (Xs:List Rat) (_hn:Xs.length≤100) {w:World} (hs:Sl (ERat 160) 71 4 w v Xs) (ht:Tab w):
    Calls Tryz.prog 73 #[v] w fun e w'=>(∃ u,e=.returned u∧Sl ETxt 61 1 w' u (Xs.map ratL))∧Gr w w':=by
 go_enter Tryz.func73,Tryz.ntmps73
 have hB:=Gr.refl w
 refine wp_seq_k (fun K1 k1=>?_)
 refine rg [0] ?_
 refine sv 2 (.slice none 0 0) ?_
 refine sq_nil ?_
 refine k1 _ _ ?_
 try clear k1 K1
 refine wp_seq_k (fun K2 k2=>?_)
 refine rg [0,1,2,3] ?_
 refine sv 6 v ?_
 refine sw 7 (.int .i64 (((Xs).length:Int))) rfl (rv_len (e:=71) hs _ _ rfl rfl (by kernel_rfl)) ?_
 refine se ?_
 refine eff_mk (E:=ETxt) ([]:List UInt8) 60 61 (.string ⟨([]:List UInt8).toArray⟩) (Xs).length 1 16 (some 8) rfl rfl rfl rfl (by kernel_rfl) (by kernel_rfl) (by decide) (by omega) (by decide) (fun _=>rfl) (fun b3 w3 g3 mk3 q3=>?_)
 replace q3:=Nat.le_trans (Below.size hB) q3
 replace hB:=hB.trans g3
 simp only [putl,p3,p4]
 refine sv 3 (.slice (some ⟨b3,0,none⟩) (Xs).length (Xs).length) ?_
 refine sq_nil ?_
 refine k2 _ _ ?_
 try clear k2 K2
 refine wp_seq_k (fun K4 k4=>?_)
 refine wp_seq_k (fun K5 k5=>?_)
 refine rg [0,1,2] ?_
 refine sv 9 v ?_
 refine sw 10 (.int .i64 (((Xs).length:Int))) rfl (rv_len (e:=71) hs _ _ rfl rfl (by kernel_rfl)) ?_
 refine sv 11 (.int .i64 0) ?_
 refine sq_nil ?_
 refine k5 _ _ ?_
 try clear k5 K5
 refine wp_block ?_
 refine wp_loop_inv (a:=⟨List.toArray ?l6,[]⟩) (fun n a w'=>∃ (k:Nat) (u6:Nat→Value),(Xs).length - k=n∧a=⟨[v,undef,(.slice none 0 0),(.slice (some ⟨b3,0,none⟩) (Xs).length (Xs).length),(u6 4),(u6 5),(u6 6),(u6 7),(u6 8),v,(.int .i64 (((Xs).length:Int))),(.int .i64 ((k:Int))),(u6 12),(u6 13),(u6 14),(u6 15),(u6 16),(u6 17),(u6 18),(u6 19),(u6 20),(u6 21),undef].toArray,[]⟩∧k≤(Xs).length∧Mk ETxt 61 1 w' b3 (filled ratL [] Xs k)∧Gr w w') ((Xs).length - 0) ?_ ?_
 ·exact ⟨0,(fun i=>List.getD ?l6 i undef),rfl,rfl,(Nat.zero_le _),(by rw [filled_zero];exact mk3),hB⟩
 rintro n6 a6 w6 ⟨k,u6,rfl,rfl,hk,hmk,hB⟩ K6 k6
 refine wp_seq_k (fun K7 k7=>?_)
 refine rg [0] ?_
 refine sv 12 (.bool (decide ((k:Int)<((Xs).length:Int)))) ?_
 refine sq_nil ?_
 refine k7 _ _ ?_
 try clear k7 K7
 refine wp_seq_k (fun K8 k8=>?_)
 refine wp_cond_split (t:=decide ((k:Int)<((Xs).length:Int))) rfl (fun hb9=>?_) (fun hb9=>?_)
 ·have hlt:=of_decide_eq_true hb9
  refine wp_skip ?_
  refine k8 _ _ ?_
  try clear k8 K8
  refine wp_seq_k (fun K10 k10=>?_)
  refine wp_block ?_
  refine wp_seq_k (fun K11 k11=>?_)
  refine rg [0,1,2,3,4,5] ?_
  refine sv 13 (.int .i64 ((k:Int))) ?_
  refine sw 14 (adr v (k*4)) rfl (rv_idx (e:=71) hs (by decide) k (by omega) _ _ _ rfl rfl rfl (by kernel_rfl) (by kernel_rfl)) ?_
  obtain ⟨_,_,⟨cA12,cB12,cC12,cD12,rfl,h12⟩,at12⟩:=(hs.gr (stab_rat 160) hB).get (by decide) (getD_some (d:=(0:Rat)) (i:=k) (xs:=Xs) (by omega))
  refine sw 15 (.agg #[cA12,cB12,cC12,cD12]) rfl (rv_ldn [cA12,cB12,cC12,cD12] at12 _ _ rfl rfl (by kernel_rfl)) ?_
  refine se ?_
  refine ea 71 #[(.bool false),(.slice none 0 0),(.bool false),(.slice none 0 0)] 5 hB fun b13 w13 g13 L13 o13 q13 hB=>?_
  simp only [p3,p4]
  refine sv 4 (.int .i64 ((k:Int))) ?_
  refine se ?_
  have lo14:=L13
  refine es 71 0 (.agg #[cA12,cB12,cC12,cD12]) [cA12,cB12,cC12,cD12] #[cA12,cB12,cC12,cD12] L13 hB q13 ⟨h12.one0,h12.one1,h12.one2,h12.one3,trivial⟩ fun w14 st14 kp14 L13 hB=>?_
  refine sq_nil ?_
  refine k11 _ _ ?_
  try clear k11 K11
  refine rg [0,1,2,3,4,5] ?_
  refine sv 16 (.slice (some ⟨b3,0,none⟩) (Xs).length (Xs).length) ?_
  refine sv 17 (.int .i64 ((k:Int))) ?_
  refine sw 18 (.agg #[cA12,cB12,cC12,cD12]) rfl (rl 71 0 [cA12,cB12,cC12,cD12] L13) ?_
  refine se ?_
  have kq16:=g13.kp.trans kp14
  replace h12:=h12.kp kq16
  refine ec 19 (number_r h12 (by omega) (ht.gr hB)) ?_
  rintro e15 w15 ⟨rfl,g15⟩
  refine ⟨_,rfl,?_⟩
  replace hB:=hB.trans g15
  simp only [p3,p4]
  refine sw 20 (adr (.slice (some ⟨b3,0,none⟩) (Xs).length (Xs).length) (k*1)) rfl (rv_idx (e:=61) (hmk.sl_n (filled_len ratL [] Xs hk) (Nat.le_refl _)) (by decide) k (by rw [filled_len ratL [] Xs hk];omega) _ _ _ rfl rfl rfl (by kernel_rfl) (by kernel_rfl)) ?_
  refine se ?_
  replace hmk:=((hmk.gr stab_txt g13).kts stab_txt (st14.kts lo14 (by decide))).gr stab_txt g15
  refine eff_stm stab_txt hmk k (by rw [filled_len ratL [] Xs hk];omega) (ratL (((Xs).getD k 0)):List UInt8) (.string ⟨(ratL (((Xs).getD k 0)):List UInt8).toArray⟩) [(.string ⟨(ratL (((Xs).getD k 0)):List UInt8).toArray⟩)] ((Xs).length) ((Xs).length) 61 _ _ rfl rfl rfl rfl rfl (by kernel_rfl) rfl ⟨rfl,trivial⟩ rfl (by decide) (fun w17 st17 kt17 mk17=>?_)
  replace hB:=st17.gr hB q3
  refine sq_nil ?_
  refine k10 _ _ ?_
  try clear k10 K10
  refine rg [0,1] ?_
  refine sw 21 (.int .i64 (((k:Int)+1))) rfl (RunV.int (x:=IntKind.i64.wrap (((k:Int)+1))) (y:=((k:Int)+1)) (rvk (by kernel_rfl)) (by first | rfl | (rw [IntKind.wrap_i64];omega))) ?_
  refine sv 11 (.int .i64 (((k:Int)+1))) ?_
  refine sq_nil ?_
  refine k6 ((Xs).length - (k+1)) ⟨List.toArray ?l18,[]⟩ _ (by omega) ?_
  exact ⟨k+1,(fun i=>List.getD ?l18 i undef),rfl,rfl,(by omega),(by rw [← filled_set ratL [] 0 (by omega) rfl];exact mk17),hB⟩
 ·have hge:=of_decide_eq_false hb9
  have hkk:k=(Xs).length:=by omega
  refine wp_exit ?_
  simp only [Exit.then,Exit.inBlock,↓reduceIte]
  refine k4 _ _ ?_
  try clear k4 K4
  refine wp_seq_k (fun K19 k19=>?_)
  refine rg [0,1] ?_
  refine sv 22 (.slice (some ⟨b3,0,none⟩) (Xs).length (Xs).length) ?_
  refine sv 2 (.slice (some ⟨b3,0,none⟩) (Xs).length (Xs).length) ?_
  refine sq_nil ?_
  refine k19 _ _ ?_
  try clear k19 K19
  refine wp_ret ?_
  refine bodyPost_ret (v:=(.slice (some ⟨b3,0,none⟩) (Xs).length (Xs).length)) (ret_tmp rfl rfl) rfl ⟨?_,hB⟩
  have hS:=(hmk.sl_n (filled_len ratL [] Xs hk) (Nat.le_refl _))
  subst hkk
  rw [filled_all] at hS
  exact ⟨_,rfl,hS⟩

end Go.Proofs.YtepgkcimmdmgcaaGreatDoor
