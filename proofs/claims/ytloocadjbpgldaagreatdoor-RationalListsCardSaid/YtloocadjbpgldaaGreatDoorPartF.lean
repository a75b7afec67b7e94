/- Joined of: Gen39, Law2. -/
import Derived.Test.YtloocadjbpgldaaGreatDoorPartE
import Derived.Test.YtloocadjbpgldaaGreatDoorPartB
import Derived.Lay
import Derived.MakeChecks
/- Printed by a program of the prover's: what the laws of chapter 02 take. -/
namespace Go.Proofs.YtloocadjbpgldaaGreatDoor
open Go.RowKit

set_option maxRecDepth 100000 in
set_option maxHeartbeats 1000000 in
theorem right1 (X : List UInt8) {ab : Nat} {w : World} (hL : Lc w ab #[(.string ⟨(X : List UInt8).toArray⟩)] 9) :
    Calls Tryz.prog 28 #[(.slice (some ⟨ab, 0, none⟩) 1 1)] w fun e w' => e = .returned (.bool (okT (X))) ∧ Gr w w' := by
 go_enter Tryz.func28, Tryz.ntmps28
 have hB := Gr.refl w
 refine wp_seq_k (fun K1 k1 => ?_)
 refine rg [0] ?_
 refine sv 2 (.bool false) ?_
 simp only [p3, p4]
 refine sq_nil ?_
 refine k1 _ _ ?_
 try clear k1 K1
 refine wp_seq_k (fun K2 k2 => ?_)
 refine wp_seq_k (fun K3 k3 => ?_)
 refine rg [0, 1, 2] ?_
 refine sv 5 (.slice (some ⟨ab, 0, none⟩) 1 1) ?_
 simp only [p3, p4]
 refine sv 6 (.int .i64 1) ?_
 simp only [p3, p4]
 refine sv 7 (.int .i64 0) ?_
 simp only [p3, p4]
 refine sq_nil ?_
 refine k3 _ _ ?_
 try clear k3 K3
 refine wp_block ?_
 refine wp_loop_rounds 4 ?_
 show Code.wp _ _ _ _ _
 refine wp_seq_k (fun K4 k4 => ?_)
 refine rg [0] ?_
 refine sv 8 (.bool true) ?_
 simp only [p3, p4]
 refine sq_nil ?_
 refine k4 _ _ ?_
 try clear k4 K4
 refine wp_seq_k (fun K5 k5 => ?_)
 refine wp_cond_true rfl ?_
 refine wp_skip ?_
 refine k5 _ _ ?_
 try clear k5 K5
 refine wp_seq_k (fun K6 k6 => ?_)
 refine wp_block ?_
 refine wp_seq_k (fun K7 k7 => ?_)
 refine rg [0, 1, 2] ?_
 refine sv 9 (.pointer (some ⟨ab, 0, none⟩)) ?_
 simp only [p3, p4]
 refine sw 10 (.string ⟨(X : List UInt8).toArray⟩) rfl (rk 9 0 hL) ?_
 simp only [p3, p4]
 refine sv 4 (.string ⟨(X : List UInt8).toArray⟩) ?_
 simp only [p3, p4]
 refine sq_nil ?_
 refine k7 _ _ ?_
 try clear k7 K7
 refine wp_seq_k (fun K8 k8 => ?_)
 refine rg [0, 1, 2, 3, 4, 5, 6, 7] ?_
 refine sv 11 (.string ⟨(X : List UInt8).toArray⟩) ?_
 simp only [p3, p4]
 refine sv 12 (.int .i64 (((X).length : Int))) ?_
 simp only [p3, p4]
 refine sv 13 (.bool (decide ((40 : Int) < ((X).length : Int)))) ?_
 simp only [p3, p4]
 rcases Bool.eq_false_or_eq_true (decide ((40 : Int) < ((X).length : Int))) with hb9 | hb9
 ·refine sw 14 (.bool true) rfl (RunV.bool (x := decide ((40 : Int) < ((X).length : Int))) (rvk (by kernel_rfl)) hb9) ?_
  simp only [p3, p4]
  refine ss 15 ?_
  simp only [p3, p4]
  refine ss 16 ?_
  simp only [p3, p4]
  refine ss 17 ?_
  simp only [p3, p4]
  refine sv 18 (.bool true) ?_
  simp only [p3, p4]
  refine sq_nil ?_
  refine k8 _ _ ?_
  try clear k8 K8
  refine wp_cond_true rfl ?_
  refine wp_seq_k (fun K10 k10 => ?_)
  refine rg [0] ?_
  refine sv 2 (.bool false) ?_
  simp only [p3, p4]
  refine sq_nil ?_
  refine k10 _ _ ?_
  try clear k10 K10
  refine wp_ret ?_
  simp only [Exit.then, Exit.inBlock]
  refine bodyPost_ret (v := (.bool false)) (ret_tmp rfl rfl) rfl ⟨?_, hB⟩
  exact (by unfold okT; rw [hb9]; rfl)
 ·refine sw 14 (.bool false) rfl (RunV.bool (x := decide ((40 : Int) < ((X).length : Int))) (rvk (by kernel_rfl)) hb9) ?_
  simp only [p3, p4]
  refine sv 15 (.string ⟨(X : List UInt8).toArray⟩) ?_
  simp only [p3, p4]
  refine se ?_
  refine ec 16 (r2_check_l (X) 40 (by simp only [decide_eq_false_iff_not] at *; omega) (by omega) _) ?_
  rintro e11 w11 ⟨rfl, g11⟩
  refine ⟨_, rfl, ?_⟩
  replace hB := hB.trans g11
  simp only [p3, p4]
  refine sv 17 (.bool ((ck2 (X) 40 != (0 : Int)))) ?_
  simp only [p3, p4]
  refine sv 18 (.bool ((ck2 (X) 40 != (0 : Int)))) ?_
  simp only [p3, p4]
  refine sq_nil ?_
  refine k8 _ _ ?_
  try clear k8 K8
  refine wp_cond_split (t := (ck2 (X) 40 != (0 : Int))) rfl (fun hb12 => ?_) (fun hb12 => ?_)
  ·refine wp_seq_k (fun K13 k13 => ?_)
   refine rg [0] ?_
   refine sv 2 (.bool false) ?_
   simp only [p3, p4]
   refine sq_nil ?_
   refine k13 _ _ ?_
   try clear k13 K13
   refine wp_ret ?_
   simp only [Exit.then, Exit.inBlock]
   refine bodyPost_ret (v := (.bool false)) (ret_tmp rfl rfl) rfl ⟨?_, hB⟩
   exact (by unfold okT; rw [hb9, hb12]; rfl)
  ·refine wp_skip ?_
   refine k6 _ _ ?_
   try clear k6 K6
   refine rg [0, 1] ?_
   refine sv 19 (.int .i64 1) ?_
   simp only [p3, p4]
   refine sv 7 (.int .i64 1) ?_
   simp only [p3, p4]
   refine sq_nil ?_
   show Code.rounds _ _ _ _ _ _
   show Code.wp _ _ _ _ _
   refine wp_seq_k (fun K14 k14 => ?_)
   refine rg [0] ?_
   refine sv 8 (.bool false) ?_
   simp only [p3, p4]
   refine sq_nil ?_
   refine k14 _ _ ?_
   try clear k14 K14
   refine wp_seq_k (fun K15 k15 => ?_)
   refine wp_cond_false rfl ?_
   refine wp_exit ?_
   simp only [Exit.then, Exit.inBlock, ↓reduceIte]
   refine k2 _ _ ?_
   try clear k2 K2
   refine wp_seq_k (fun K16 k16 => ?_)
   refine rg [0] ?_
   refine sv 2 (.bool true) ?_
   simp only [p3, p4]
   refine sq_nil ?_
   refine k16 _ _ ?_
   try clear k16 K16
   refine wp_ret ?_
   refine bodyPost_ret (v := (.bool true)) (ret_tmp rfl rfl) rfl ⟨?_, hB⟩
   exact (by unfold okT; rw [hb9, hb12]; rfl)

set_option maxRecDepth 100000 in
set_option maxHeartbeats 1000000 in
theorem right2 (X Y : List UInt8) {ab : Nat} {w : World} (hL : Lc w ab #[(.string ⟨(X : List UInt8).toArray⟩), (.string ⟨(Y : List UInt8).toArray⟩)] 9) :
    Calls Tryz.prog 28 #[(.slice (some ⟨ab, 0, none⟩) 2 2)] w fun e w' => e = .returned (.bool (okT (X) && okT (Y))) ∧ Gr w w' := by
 go_enter Tryz.func28, Tryz.ntmps28
 have hB := Gr.refl w
 refine wp_seq_k (fun K1 k1 => ?_)
 refine rg [0] ?_
 refine sv 2 (.bool false) ?_
 simp only [p3, p4]
 refine sq_nil ?_
 refine k1 _ _ ?_
 try clear k1 K1
 refine wp_seq_k (fun K2 k2 => ?_)
 refine wp_seq_k (fun K3 k3 => ?_)
 refine rg [0, 1, 2] ?_
 refine sv 5 (.slice (some ⟨ab, 0, none⟩) 2 2) ?_
 simp only [p3, p4]
 refine sv 6 (.int .i64 2) ?_
 simp only [p3, p4]
 refine sv 7 (.int .i64 0) ?_
 simp only [p3, p4]
 refine sq_nil ?_
 refine k3 _ _ ?_
 try clear k3 K3
 refine wp_block ?_
 refine wp_loop_rounds 4 ?_
 show Code.wp _ _ _ _ _
 refine wp_seq_k (fun K4 k4 => ?_)
 refine rg [0] ?_
 refine sv 8 (.bool true) ?_
 simp only [p3, p4]
 refine sq_nil ?_
 refine k4 _ _ ?_
 try clear k4 K4
 refine wp_seq_k (fun K5 k5 => ?_)
 refine wp_cond_true rfl ?_
 refine wp_skip ?_
 refine k5 _ _ ?_
 try clear k5 K5
 refine wp_seq_k (fun K6 k6 => ?_)
 refine wp_block ?_
 refine wp_seq_k (fun K7 k7 => ?_)
 refine rg [0, 1, 2] ?_
 refine sv 9 (.pointer (some ⟨ab, 0, none⟩)) ?_
 simp only [p3, p4]
 refine sw 10 (.string ⟨(X : List UInt8).toArray⟩) rfl (rk 9 0 hL) ?_
 simp only [p3, p4]
 refine sv 4 (.string ⟨(X : List UInt8).toArray⟩) ?_
 simp only [p3, p4]
 refine sq_nil ?_
 refine k7 _ _ ?_
 try clear k7 K7
 refine wp_seq_k (fun K8 k8 => ?_)
 refine rg [0, 1, 2, 3, 4, 5, 6, 7] ?_
 refine sv 11 (.string ⟨(X : List UInt8).toArray⟩) ?_
 simp only [p3, p4]
 refine sv 12 (.int .i64 (((X).length : Int))) ?_
 simp only [p3, p4]
 refine sv 13 (.bool (decide ((40 : Int) < ((X).length : Int)))) ?_
 simp only [p3, p4]
 rcases Bool.eq_false_or_eq_true (decide ((40 : Int) < ((X).length : Int))) with hb9 | hb9
 ·refine sw 14 (.bool true) rfl (RunV.bool (x := decide ((40 : Int) < ((X).length : Int))) (rvk (by kernel_rfl)) hb9) ?_
  simp only [p3, p4]
  refine ss 15 ?_
  simp only [p3, p4]
  refine ss 16 ?_
  simp only [p3, p4]
  refine ss 17 ?_
  simp only [p3, p4]
  refine sv 18 (.bool true) ?_
  simp only [p3, p4]
  refine sq_nil ?_
  refine k8 _ _ ?_
  try clear k8 K8
  refine wp_cond_true rfl ?_
  refine wp_seq_k (fun K10 k10 => ?_)
  refine rg [0] ?_
  refine sv 2 (.bool false) ?_
  simp only [p3, p4]
  refine sq_nil ?_
  refine k10 _ _ ?_
  try clear k10 K10
  refine wp_ret ?_
  simp only [Exit.then, Exit.inBlock]
  refine bodyPost_ret (v := (.bool false)) (ret_tmp rfl rfl) rfl ⟨?_, hB⟩
  exact (by unfold okT; rw [hb9]; rfl)
 ·refine sw 14 (.bool false) rfl (RunV.bool (x := decide ((40 : Int) < ((X).length : Int))) (rvk (by kernel_rfl)) hb9) ?_
  simp only [p3, p4]
  refine sv 15 (.string ⟨(X : List UInt8).toArray⟩) ?_
  simp only [p3, p4]
  refine se ?_
  refine ec 16 (r2_check_l (X) 40 (by simp only [decide_eq_false_iff_not] at *; omega) (by omega) _) ?_
  rintro e11 w11 ⟨rfl, g11⟩
  refine ⟨_, rfl, ?_⟩
  replace hB := hB.trans g11
  simp only [p3, p4]
  refine sv 17 (.bool ((ck2 (X) 40 != (0 : Int)))) ?_
  simp only [p3, p4]
  refine sv 18 (.bool ((ck2 (X) 40 != (0 : Int)))) ?_
  simp only [p3, p4]
  refine sq_nil ?_
  refine k8 _ _ ?_
  try clear k8 K8
  refine wp_cond_split (t := (ck2 (X) 40 != (0 : Int))) rfl (fun hb12 => ?_) (fun hb12 => ?_)
  ·refine wp_seq_k (fun K13 k13 => ?_)
   refine rg [0] ?_
   refine sv 2 (.bool false) ?_
   simp only [p3, p4]
   refine sq_nil ?_
   refine k13 _ _ ?_
   try clear k13 K13
   refine wp_ret ?_
   simp only [Exit.then, Exit.inBlock]
   refine bodyPost_ret (v := (.bool false)) (ret_tmp rfl rfl) rfl ⟨?_, hB⟩
   exact (by unfold okT; rw [hb9, hb12]; rfl)
  ·refine wp_skip ?_
   refine k6 _ _ ?_
   try clear k6 K6
   refine rg [0, 1] ?_
   refine sv 19 (.int .i64 1) ?_
   simp only [p3, p4]
   refine sv 7 (.int .i64 1) ?_
   simp only [p3, p4]
   refine sq_nil ?_
   show Code.rounds _ _ _ _ _ _
   show Code.wp _ _ _ _ _
   refine wp_seq_k (fun K14 k14 => ?_)
   refine rg [0] ?_
   refine sv 8 (.bool true) ?_
   simp only [p3, p4]
   refine sq_nil ?_
   refine k14 _ _ ?_
   try clear k14 K14
   refine wp_seq_k (fun K15 k15 => ?_)
   refine wp_cond_true rfl ?_
   refine wp_skip ?_
   refine k15 _ _ ?_
   try clear k15 K15
   refine wp_seq_k (fun K16 k16 => ?_)
   refine wp_block ?_
   refine wp_seq_k (fun K17 k17 => ?_)
   refine rg [0, 1, 2] ?_
   refine sv 9 (.pointer (some ⟨ab, 1, none⟩)) ?_
   simp only [p3, p4]
   replace hL := hL.gr g11
   refine sw 10 (.string ⟨(Y : List UInt8).toArray⟩) rfl (rk 9 1 hL) ?_
   simp only [p3, p4]
   refine sv 4 (.string ⟨(Y : List UInt8).toArray⟩) ?_
   simp only [p3, p4]
   refine sq_nil ?_
   refine k17 _ _ ?_
   try clear k17 K17
   refine wp_seq_k (fun K18 k18 => ?_)
   refine rg [0, 1, 2, 3, 4, 5, 6, 7] ?_
   refine sv 11 (.string ⟨(Y : List UInt8).toArray⟩) ?_
   simp only [p3, p4]
   refine sv 12 (.int .i64 (((Y).length : Int))) ?_
   simp only [p3, p4]
   refine sv 13 (.bool (decide ((40 : Int) < ((Y).length : Int)))) ?_
   simp only [p3, p4]
   rcases Bool.eq_false_or_eq_true (decide ((40 : Int) < ((Y).length : Int))) with hb19 | hb19
   ·refine sw 14 (.bool true) rfl (RunV.bool (x := decide ((40 : Int) < ((Y).length : Int))) (rvk (by kernel_rfl)) hb19) ?_
    simp only [p3, p4]
    refine ss 15 ?_
    simp only [p3, p4]
    refine ss 16 ?_
    simp only [p3, p4]
    refine ss 17 ?_
    simp only [p3, p4]
    refine sv 18 (.bool true) ?_
    simp only [p3, p4]
    refine sq_nil ?_
    refine k18 _ _ ?_
    try clear k18 K18
    refine wp_cond_true rfl ?_
    refine wp_seq_k (fun K20 k20 => ?_)
    refine rg [0] ?_
    refine sv 2 (.bool false) ?_
    simp only [p3, p4]
    refine sq_nil ?_
    refine k20 _ _ ?_
    try clear k20 K20
    refine wp_ret ?_
    simp only [Exit.then, Exit.inBlock]
    refine bodyPost_ret (v := (.bool false)) (ret_tmp rfl rfl) rfl ⟨?_, hB⟩
    exact (by unfold okT; rw [hb9, hb12, hb19]; rfl)
   ·refine sw 14 (.bool false) rfl (RunV.bool (x := decide ((40 : Int) < ((Y).length : Int))) (rvk (by kernel_rfl)) hb19) ?_
    simp only [p3, p4]
    refine sv 15 (.string ⟨(Y : List UInt8).toArray⟩) ?_
    simp only [p3, p4]
    refine se ?_
    refine ec 16 (r2_check_l (Y) 40 (by simp only [decide_eq_false_iff_not] at *; omega) (by omega) _) ?_
    rintro e21 w21 ⟨rfl, g21⟩
    refine ⟨_, rfl, ?_⟩
    replace hB := hB.trans g21
    simp only [p3, p4]
    refine sv 17 (.bool ((ck2 (Y) 40 != (0 : Int)))) ?_
    simp only [p3, p4]
    refine sv 18 (.bool ((ck2 (Y) 40 != (0 : Int)))) ?_
    simp only [p3, p4]
    refine sq_nil ?_
    refine k18 _ _ ?_
    try clear k18 K18
    refine wp_cond_split (t := (ck2 (Y) 40 != (0 : Int))) rfl (fun hb22 => ?_) (fun hb22 => ?_)
    ·refine wp_seq_k (fun K23 k23 => ?_)
     refine rg [0] ?_
     refine sv 2 (.bool false) ?_
     simp only [p3, p4]
     refine sq_nil ?_
     refine k23 _ _ ?_
     try clear k23 K23
     refine wp_ret ?_
     simp only [Exit.then, Exit.inBlock]
     refine bodyPost_ret (v := (.bool false)) (ret_tmp rfl rfl) rfl ⟨?_, hB⟩
     exact (by unfold okT; rw [hb9, hb12, hb19, hb22]; rfl)
    ·refine wp_skip ?_
     refine k16 _ _ ?_
     try clear k16 K16
     refine rg [0, 1] ?_
     refine sv 19 (.int .i64 2) ?_
     simp only [p3, p4]
     refine sv 7 (.int .i64 2) ?_
     simp only [p3, p4]
     refine sq_nil ?_
     show Code.rounds _ _ _ _ _ _
     show Code.wp _ _ _ _ _
     refine wp_seq_k (fun K24 k24 => ?_)
     refine rg [0] ?_
     refine sv 8 (.bool false) ?_
     simp only [p3, p4]
     refine sq_nil ?_
     refine k24 _ _ ?_
     try clear k24 K24
     refine wp_seq_k (fun K25 k25 => ?_)
     refine wp_cond_false rfl ?_
     refine wp_exit ?_
     simp only [Exit.then, Exit.inBlock, ↓reduceIte]
     refine k2 _ _ ?_
     try clear k2 K2
     refine wp_seq_k (fun K26 k26 => ?_)
     refine rg [0] ?_
     refine sv 2 (.bool true) ?_
     simp only [p3, p4]
     refine sq_nil ?_
     refine k26 _ _ ?_
     try clear k26 K26
     refine wp_ret ?_
     refine bodyPost_ret (v := (.bool true)) (ret_tmp rfl rfl) rfl ⟨?_, hB⟩
     exact (by unfold okT; rw [hb9, hb12, hb19, hb22]; rfl)

set_option maxRecDepth 100000 in
set_option maxHeartbeats 1000000 in
theorem right3 (X Y Z : List UInt8) {ab : Nat} {w : World} (hL : Lc w ab #[(.string ⟨(X : List UInt8).toArray⟩), (.string ⟨(Y : List UInt8).toArray⟩), (.string ⟨(Z : List UInt8).toArray⟩)] 9) :
    Calls Tryz.prog 28 #[(.slice (some ⟨ab, 0, none⟩) 3 3)] w fun e w' => e = .returned (.bool ((okT (X) && okT (Y)) && okT (Z))) ∧ Gr w w' := by
 go_enter Tryz.func28, Tryz.ntmps28
 have hB := Gr.refl w
 refine wp_seq_k (fun K1 k1 => ?_)
 refine rg [0] ?_
 refine sv 2 (.bool false) ?_
 simp only [p3, p4]
 refine sq_nil ?_
 refine k1 _ _ ?_
 try clear k1 K1
 refine wp_seq_k (fun K2 k2 => ?_)
 refine wp_seq_k (fun K3 k3 => ?_)
 refine rg [0, 1, 2] ?_
 refine sv 5 (.slice (some ⟨ab, 0, none⟩) 3 3) ?_
 simp only [p3, p4]
 refine sv 6 (.int .i64 3) ?_
 simp only [p3, p4]
 refine sv 7 (.int .i64 0) ?_
 simp only [p3, p4]
 refine sq_nil ?_
 refine k3 _ _ ?_
 try clear k3 K3
 refine wp_block ?_
 refine wp_loop_rounds 4 ?_
 show Code.wp _ _ _ _ _
 refine wp_seq_k (fun K4 k4 => ?_)
 refine rg [0] ?_
 refine sv 8 (.bool true) ?_
 simp only [p3, p4]
 refine sq_nil ?_
 refine k4 _ _ ?_
 try clear k4 K4
 refine wp_seq_k (fun K5 k5 => ?_)
 refine wp_cond_true rfl ?_
 refine wp_skip ?_
 refine k5 _ _ ?_
 try clear k5 K5
 refine wp_seq_k (fun K6 k6 => ?_)
 refine wp_block ?_
 refine wp_seq_k (fun K7 k7 => ?_)
 refine rg [0, 1, 2] ?_
 refine sv 9 (.pointer (some ⟨ab, 0, none⟩)) ?_
 simp only [p3, p4]
 refine sw 10 (.string ⟨(X : List UInt8).toArray⟩) rfl (rk 9 0 hL) ?_
 simp only [p3, p4]
 refine sv 4 (.string ⟨(X : List UInt8).toArray⟩) ?_
 simp only [p3, p4]
 refine sq_nil ?_
 refine k7 _ _ ?_
 try clear k7 K7
 refine wp_seq_k (fun K8 k8 => ?_)
 refine rg [0, 1, 2, 3, 4, 5, 6, 7] ?_
 refine sv 11 (.string ⟨(X : List UInt8).toArray⟩) ?_
 simp only [p3, p4]
 refine sv 12 (.int .i64 (((X).length : Int))) ?_
 simp only [p3, p4]
 refine sv 13 (.bool (decide ((40 : Int) < ((X).length : Int)))) ?_
 simp only [p3, p4]
 rcases Bool.eq_false_or_eq_true (decide ((40 : Int) < ((X).length : Int))) with hb9 | hb9
 ·refine sw 14 (.bool true) rfl (RunV.bool (x := decide ((40 : Int) < ((X).length : Int))) (rvk (by kernel_rfl)) hb9) ?_
  simp only [p3, p4]
  refine ss 15 ?_
  simp only [p3, p4]
  refine ss 16 ?_
  simp only [p3, p4]
  refine ss 17 ?_
  simp only [p3, p4]
  refine sv 18 (.bool true) ?_
  simp only [p3, p4]
  refine sq_nil ?_
  refine k8 _ _ ?_
  try clear k8 K8
  refine wp_cond_true rfl ?_
  refine wp_seq_k (fun K10 k10 => ?_)
  refine rg [0] ?_
  refine sv 2 (.bool false) ?_
  simp only [p3, p4]
  refine sq_nil ?_
  refine k10 _ _ ?_
  try clear k10 K10
  refine wp_ret ?_
  simp only [Exit.then, Exit.inBlock]
  refine bodyPost_ret (v := (.bool false)) (ret_tmp rfl rfl) rfl ⟨?_, hB⟩
  exact (by unfold okT; rw [hb9]; rfl)
 ·refine sw 14 (.bool false) rfl (RunV.bool (x := decide ((40 : Int) < ((X).length : Int))) (rvk (by kernel_rfl)) hb9) ?_
  simp only [p3, p4]
  refine sv 15 (.string ⟨(X : List UInt8).toArray⟩) ?_
  simp only [p3, p4]
  refine se ?_
  refine ec 16 (r2_check_l (X) 40 (by simp only [decide_eq_false_iff_not] at *; omega) (by omega) _) ?_
  rintro e11 w11 ⟨rfl, g11⟩
  refine ⟨_, rfl, ?_⟩
  replace hB := hB.trans g11
  simp only [p3, p4]
  refine sv 17 (.bool ((ck2 (X) 40 != (0 : Int)))) ?_
  simp only [p3, p4]
  refine sv 18 (.bool ((ck2 (X) 40 != (0 : Int)))) ?_
  simp only [p3, p4]
  refine sq_nil ?_
  refine k8 _ _ ?_
  try clear k8 K8
  refine wp_cond_split (t := (ck2 (X) 40 != (0 : Int))) rfl (fun hb12 => ?_) (fun hb12 => ?_)
  ·refine wp_seq_k (fun K13 k13 => ?_)
   refine rg [0] ?_
   refine sv 2 (.bool false) ?_
   simp only [p3, p4]
   refine sq_nil ?_
   refine k13 _ _ ?_
   try clear k13 K13
   refine wp_ret ?_
   simp only [Exit.then, Exit.inBlock]
   refine bodyPost_ret (v := (.bool false)) (ret_tmp rfl rfl) rfl ⟨?_, hB⟩
   exact (by unfold okT; rw [hb9, hb12]; rfl)
  ·refine wp_skip ?_
   refine k6 _ _ ?_
   try clear k6 K6
   refine rg [0, 1] ?_
   refine sv 19 (.int .i64 1) ?_
   simp only [p3, p4]
   refine sv 7 (.int .i64 1) ?_
   simp only [p3, p4]
   refine sq_nil ?_
   show Code.rounds _ _ _ _ _ _
   show Code.wp _ _ _ _ _
   refine wp_seq_k (fun K14 k14 => ?_)
   refine rg [0] ?_
   refine sv 8 (.bool true) ?_
   simp only [p3, p4]
   refine sq_nil ?_
   refine k14 _ _ ?_
   try clear k14 K14
   refine wp_seq_k (fun K15 k15 => ?_)
   refine wp_cond_true rfl ?_
   refine wp_skip ?_
   refine k15 _ _ ?_
   try clear k15 K15
   refine wp_seq_k (fun K16 k16 => ?_)
   refine wp_block ?_
   refine wp_seq_k (fun K17 k17 => ?_)
   refine rg [0, 1, 2] ?_
   refine sv 9 (.pointer (some ⟨ab, 1, none⟩)) ?_
   simp only [p3, p4]
   replace hL := hL.gr g11
   refine sw 10 (.string ⟨(Y : List UInt8).toArray⟩) rfl (rk 9 1 hL) ?_
   simp only [p3, p4]
   refine sv 4 (.string ⟨(Y : List UInt8).toArray⟩) ?_
   simp only [p3, p4]
   refine sq_nil ?_
   refine k17 _ _ ?_
   try clear k17 K17
   refine wp_seq_k (fun K18 k18 => ?_)
   refine rg [0, 1, 2, 3, 4, 5, 6, 7] ?_
   refine sv 11 (.string ⟨(Y : List UInt8).toArray⟩) ?_
   simp only [p3, p4]
   refine sv 12 (.int .i64 (((Y).length : Int))) ?_
   simp only [p3, p4]
   refine sv 13 (.bool (decide ((40 : Int) < ((Y).length : Int)))) ?_
   simp only [p3, p4]
   rcases Bool.eq_false_or_eq_true (decide ((40 : Int) < ((Y).length : Int))) with hb19 | hb19
   ·refine sw 14 (.bool true) rfl (RunV.bool (x := decide ((40 : Int) < ((Y).length : Int))) (rvk (by kernel_rfl)) hb19) ?_
    simp only [p3, p4]
    refine ss 15 ?_
    simp only [p3, p4]
    refine ss 16 ?_
    simp only [p3, p4]
    refine ss 17 ?_
    simp only [p3, p4]
    refine sv 18 (.bool true) ?_
    simp only [p3, p4]
    refine sq_nil ?_
    refine k18 _ _ ?_
    try clear k18 K18
    refine wp_cond_true rfl ?_
    refine wp_seq_k (fun K20 k20 => ?_)
    refine rg [0] ?_
    refine sv 2 (.bool false) ?_
    simp only [p3, p4]
    refine sq_nil ?_
    refine k20 _ _ ?_
    try clear k20 K20
    refine wp_ret ?_
    simp only [Exit.then, Exit.inBlock]
    refine bodyPost_ret (v := (.bool false)) (ret_tmp rfl rfl) rfl ⟨?_, hB⟩
    exact (by unfold okT; rw [hb9, hb12, hb19]; rfl)
   ·refine sw 14 (.bool false) rfl (RunV.bool (x := decide ((40 : Int) < ((Y).length : Int))) (rvk (by kernel_rfl)) hb19) ?_
    simp only [p3, p4]
    refine sv 15 (.string ⟨(Y : List UInt8).toArray⟩) ?_
    simp only [p3, p4]
    refine se ?_
    refine ec 16 (r2_check_l (Y) 40 (by simp only [decide_eq_false_iff_not] at *; omega) (by omega) _) ?_
    rintro e21 w21 ⟨rfl, g21⟩
    refine ⟨_, rfl, ?_⟩
    replace hB := hB.trans g21
    simp only [p3, p4]
    refine sv 17 (.bool ((ck2 (Y) 40 != (0 : Int)))) ?_
    simp only [p3, p4]
    refine sv 18 (.bool ((ck2 (Y) 40 != (0 : Int)))) ?_
    simp only [p3, p4]
    refine sq_nil ?_
    refine k18 _ _ ?_
    try clear k18 K18
    refine wp_cond_split (t := (ck2 (Y) 40 != (0 : Int))) rfl (fun hb22 => ?_) (fun hb22 => ?_)
    ·refine wp_seq_k (fun K23 k23 => ?_)
     refine rg [0] ?_
     refine sv 2 (.bool false) ?_
     simp only [p3, p4]
     refine sq_nil ?_
     refine k23 _ _ ?_
     try clear k23 K23
     refine wp_ret ?_
     simp only [Exit.then, Exit.inBlock]
     refine bodyPost_ret (v := (.bool false)) (ret_tmp rfl rfl) rfl ⟨?_, hB⟩
     exact (by unfold okT; rw [hb9, hb12, hb19, hb22]; rfl)
    ·refine wp_skip ?_
     refine k16 _ _ ?_
     try clear k16 K16
     refine rg [0, 1] ?_
     refine sv 19 (.int .i64 2) ?_
     simp only [p3, p4]
     refine sv 7 (.int .i64 2) ?_
     simp only [p3, p4]
     refine sq_nil ?_
     show Code.rounds _ _ _ _ _ _
     show Code.wp _ _ _ _ _
     refine wp_seq_k (fun K24 k24 => ?_)
     refine rg [0] ?_
     refine sv 8 (.bool true) ?_
     simp only [p3, p4]
     refine sq_nil ?_
     refine k24 _ _ ?_
     try clear k24 K24
     refine wp_seq_k (fun K25 k25 => ?_)
     refine wp_cond_true rfl ?_
     refine wp_skip ?_
     refine k25 _ _ ?_
     try clear k25 K25
     refine wp_seq_k (fun K26 k26 => ?_)
     refine wp_block ?_
     refine wp_seq_k (fun K27 k27 => ?_)
     refine rg [0, 1, 2] ?_
     refine sv 9 (.pointer (some ⟨ab, 2, none⟩)) ?_
     simp only [p3, p4]
     replace hL := hL.gr g21
     refine sw 10 (.string ⟨(Z : List UInt8).toArray⟩) rfl (rk 9 2 hL) ?_
     simp only [p3, p4]
     refine sv 4 (.string ⟨(Z : List UInt8).toArray⟩) ?_
     simp only [p3, p4]
     refine sq_nil ?_
     refine k27 _ _ ?_
     try clear k27 K27
     refine wp_seq_k (fun K28 k28 => ?_)
     refine rg [0, 1, 2, 3, 4, 5, 6, 7] ?_
     refine sv 11 (.string ⟨(Z : List UInt8).toArray⟩) ?_
     simp only [p3, p4]
     refine sv 12 (.int .i64 (((Z).length : Int))) ?_
     simp only [p3, p4]
     refine sv 13 (.bool (decide ((40 : Int) < ((Z).length : Int)))) ?_
     simp only [p3, p4]
     rcases Bool.eq_false_or_eq_true (decide ((40 : Int) < ((Z).length : Int))) with hb29 | hb29
     ·refine sw 14 (.bool true) rfl (RunV.bool (x := decide ((40 : Int) < ((Z).length : Int))) (rvk (by kernel_rfl)) hb29) ?_
      simp only [p3, p4]
      refine ss 15 ?_
      simp only [p3, p4]
      refine ss 16 ?_
      simp only [p3, p4]
      refine ss 17 ?_
      simp only [p3, p4]
      refine sv 18 (.bool true) ?_
      simp only [p3, p4]
      refine sq_nil ?_
      refine k28 _ _ ?_
      try clear k28 K28
      refine wp_cond_true rfl ?_
      refine wp_seq_k (fun K30 k30 => ?_)
      refine rg [0] ?_
      refine sv 2 (.bool false) ?_
      simp only [p3, p4]
      refine sq_nil ?_
      refine k30 _ _ ?_
      try clear k30 K30
      refine wp_ret ?_
      simp only [Exit.then, Exit.inBlock]
      refine bodyPost_ret (v := (.bool false)) (ret_tmp rfl rfl) rfl ⟨?_, hB⟩
      exact (by unfold okT; rw [hb9, hb12, hb19, hb22, hb29]; rfl)
     ·refine sw 14 (.bool false) rfl (RunV.bool (x := decide ((40 : Int) < ((Z).length : Int))) (rvk (by kernel_rfl)) hb29) ?_
      simp only [p3, p4]
      refine sv 15 (.string ⟨(Z : List UInt8).toArray⟩) ?_
      simp only [p3, p4]
      refine se ?_
      refine ec 16 (r2_check_l (Z) 40 (by simp only [decide_eq_false_iff_not] at *; omega) (by omega) _) ?_
      rintro e31 w31 ⟨rfl, g31⟩
      refine ⟨_, rfl, ?_⟩
      replace hB := hB.trans g31
      simp only [p3, p4]
      refine sv 17 (.bool ((ck2 (Z) 40 != (0 : Int)))) ?_
      simp only [p3, p4]
      refine sv 18 (.bool ((ck2 (Z) 40 != (0 : Int)))) ?_
      simp only [p3, p4]
      refine sq_nil ?_
      refine k28 _ _ ?_
      try clear k28 K28
      refine wp_cond_split (t := (ck2 (Z) 40 != (0 : Int))) rfl (fun hb32 => ?_) (fun hb32 => ?_)
      ·refine wp_seq_k (fun K33 k33 => ?_)
       refine rg [0] ?_
       refine sv 2 (.bool false) ?_
       simp only [p3, p4]
       refine sq_nil ?_
       refine k33 _ _ ?_
       try clear k33 K33
       refine wp_ret ?_
       simp only [Exit.then, Exit.inBlock]
       refine bodyPost_ret (v := (.bool false)) (ret_tmp rfl rfl) rfl ⟨?_, hB⟩
       exact (by unfold okT; rw [hb9, hb12, hb19, hb22, hb29, hb32]; rfl)
      ·refine wp_skip ?_
       refine k26 _ _ ?_
       try clear k26 K26
       refine rg [0, 1] ?_
       refine sv 19 (.int .i64 3) ?_
       simp only [p3, p4]
       refine sv 7 (.int .i64 3) ?_
       simp only [p3, p4]
       refine sq_nil ?_
       show Code.rounds _ _ _ _ _ _
       show Code.wp _ _ _ _ _
       refine wp_seq_k (fun K34 k34 => ?_)
       refine rg [0] ?_
       refine sv 8 (.bool false) ?_
       simp only [p3, p4]
       refine sq_nil ?_
       refine k34 _ _ ?_
       try clear k34 K34
       refine wp_seq_k (fun K35 k35 => ?_)
       refine wp_cond_false rfl ?_
       refine wp_exit ?_
       simp only [Exit.then, Exit.inBlock, ↓reduceIte]
       refine k2 _ _ ?_
       try clear k2 K2
       refine wp_seq_k (fun K36 k36 => ?_)
       refine rg [0] ?_
       refine sv 2 (.bool true) ?_
       simp only [p3, p4]
       refine sq_nil ?_
       refine k36 _ _ ?_
       try clear k36 K36
       refine wp_ret ?_
       refine bodyPost_ret (v := (.bool true)) (ret_tmp rfl rfl) rfl ⟨?_, hB⟩
       exact (by unfold okT; rw [hb9, hb12, hb19, hb22, hb29, hb32]; rfl)

set_option maxRecDepth 100000 in
set_option maxHeartbeats 1000000 in
theorem is_q {k : Nat} {u0 u1 u2 u3 : Value} {a : Rat} (X : List UInt8) {w : World} (ha : IsRat w k u0 u1 u2 u3 a) (_hk : k ≤ 800000) (ht : Tab w) :
    Calls Tryz.prog 19 #[(.agg #[u0, u1, u2, u3]), (.string ⟨(X : List UInt8).toArray⟩)] w fun e w' => e = .returned (.bool (ratL a == X)) ∧ Gr w w' := by
 go_enter Tryz.func19, Tryz.ntmps19
 have hB := Gr.refl w
 refine wp_seq_k (fun K1 k1 => ?_)
 refine rg [0, 1] ?_
 refine se ?_
 refine eb 31 #[u0, u1, u2, u3] 2 hB fun b2 w2 g2 L2 o2 q2 hB => ?_
 simp only [p3, p4]
 refine sv 4 (.bool false) ?_
 simp only [p3, p4]
 refine sq_nil ?_
 refine k1 _ _ ?_
 try clear k1 K1
 refine wp_seq_k (fun K3 k3 => ?_)
 refine rg [0, 1, 2, 3, 4] ?_
 refine sw 5 (.agg #[u0, u1, u2, u3]) rfl (rl 31 0 [u0, u1, u2, u3] L2) ?_
 simp only [p3, p4]
 refine se ?_
 replace ha := ha.kp g2.kp
 refine ec 6 (number_r ha (by omega) (ht.gr hB)) ?_
 rintro e4 w4 ⟨rfl, g4⟩
 refine ⟨_, rfl, ?_⟩
 replace hB := hB.trans g4
 simp only [p3, p4]
 refine sv 7 (.string ⟨(X : List UInt8).toArray⟩) ?_
 simp only [p3, p4]
 refine sw 8 (.bool (((ratL (a)) == (X)))) rfl (rv_seq 9 9 _ _ (ratL (a)) (X) rfl rfl rfl) ?_
 simp only [p3, p4]
 refine sv 4 (.bool (((ratL (a)) == (X)))) ?_
 simp only [p3, p4]
 refine sq_nil ?_
 refine k3 _ _ ?_
 try clear k3 K3
 refine wp_ret ?_
 refine bodyPost_ret (v := (.bool (((ratL (a)) == (X))))) (ret_tmp rfl rfl) rfl ⟨?_, hB⟩
 exact rfl

set_option maxRecDepth 100000 in
set_option maxHeartbeats 1000000 in
theorem lread_q (a : Rat) (ha : Sz 160 a.num ∧ Sz 160 (a.den : Int)) (la : okT (ratL (a)) = true) (w : World) (hm : Mx w) :
    Calls Tryz.prog 29 #[(.string ⟨(ratL (a) : List UInt8).toArray⟩)] w fun e w' => (∃ c0 c1 c2 c3, e = .returned (.agg #[c0, c1, c2, c3]) ∧ IsRat w' 160 c0 c1 c2 c3 a) ∧ Gr w w' := by
 go_enter Tryz.func29, Tryz.ntmps29
 have hB := Gr.refl w
 refine wp_seq_k (fun K1 k1 => ?_)
 refine rg [0] ?_
 refine se ?_
 refine ea 31 #[(.bool false), (.slice none 0 0), (.bool false), (.slice none 0 0)] 2 hB fun b2 w2 g2 L2 o2 q2 hB => ?_
 simp only [p3, p4]
 refine sq_nil ?_
 refine k1 _ _ ?_
 try clear k1 K1
 refine wp_seq_k (fun K3 k3 => ?_)
 refine rg [0, 1, 2, 3, 4, 5, 6, 7] ?_
 refine sv 6 (.string ⟨(ratL (a) : List UInt8).toArray⟩) ?_
 simp only [p3, p4]
 refine se ?_
 refine ec 7 (parse_q a ha (by omega) (by omega) (by have := okT_len la; omega) _ (hm.gr hB)) ?_
 rintro e4 w4 ⟨⟨cc4_0, cc4_1, cc4_2, cc4_3, rfl, h4⟩, g4⟩
 refine ⟨_, rfl, ?_⟩
 replace hB := hB.trans g4
 simp only [p3, p4]
 refine sv 5 (.tuple #[(.agg #[cc4_0, cc4_1, cc4_2, cc4_3]), (.int .i64 0)]) ?_
 simp only [p3, p4]
 refine sv 8 (.agg #[cc4_0, cc4_1, cc4_2, cc4_3]) ?_
 simp only [p3, p4]
 refine sv 9 (.int .i64 0) ?_
 simp only [p3, p4]
 refine se ?_
 refine ea 31 #[(.bool false), (.slice none 0 0), (.bool false), (.slice none 0 0)] 3 hB fun b5 w5 g5 L5 o5 q5 hB => ?_
 replace L2 := L2.gr g4
 have ne2_5 := L2.ne o5
 simp only [p3, p4]
 refine se ?_
 refine es 31 0 (.agg #[cc4_0, cc4_1, cc4_2, cc4_3]) [cc4_0, cc4_1, cc4_2, cc4_3] #[cc4_0, cc4_1, cc4_2, cc4_3] L5 hB q5 ⟨h4.one0, h4.one1, h4.one2, h4.one3, trivial⟩ fun w6 st6 kp6 L5 hB => ?_
 refine sv 4 (.int .i64 0) ?_
 simp only [p3, p4]
 refine sq_nil ?_
 refine k3 _ _ ?_
 try clear k3 K3
 refine wp_seq_k (fun K7 k7 => ?_)
 refine rg [0, 1] ?_
 refine sw 10 (.agg #[cc4_0, cc4_1, cc4_2, cc4_3]) rfl (rl 31 0 [cc4_0, cc4_1, cc4_2, cc4_3] L5) ?_
 simp only [p3, p4]
 refine se ?_
 replace L2 := st6.lc (L2.gr g5) ne2_5
 refine es 31 0 (.agg #[cc4_0, cc4_1, cc4_2, cc4_3]) [cc4_0, cc4_1, cc4_2, cc4_3] #[cc4_0, cc4_1, cc4_2, cc4_3] L2 hB q2 ⟨h4.one0, h4.one1, h4.one2, h4.one3, trivial⟩ fun w8 st8 kp8 L2 hB => ?_
 refine sq_nil ?_
 refine k7 _ _ ?_
 try clear k7 K7
 refine wp_ret ?_
 refine bodyPost_ret (v := (.agg #[cc4_0, cc4_1, cc4_2, cc4_3])) (ret_cell _ _ _ rfl rfl L2 (by kernel_rfl)) rfl ⟨?_, hB⟩
 have kq9 := g5.kp.trans (kp6.trans kp8)
 replace h4 := h4.kp kq9
 exact ⟨_, _, _, _, rfl, h4⟩

set_option maxRecDepth 100000 in
set_option maxHeartbeats 1000000 in
theorem abs_r {k : Nat} {u0 u1 u2 u3 : Value} {a : Rat} {w : World} (ha : IsRat w k u0 u1 u2 u3 a) (__hk : k ≤ 100000) :
    Calls Tryz.prog 36 #[(.agg #[u0, u1, u2, u3])] w fun e w' => (∃ c0 c1 c2 c3, e = .returned (.agg #[c0, c1, c2, c3]) ∧ IsRat w' k c0 c1 c2 c3 (rabs a)) ∧ Gr w w' := by
 go_enter Tryz.func36, Tryz.ntmps36
 have hB := Gr.refl w
 refine wp_seq_k (fun K1 k1 => ?_)
 refine rg [0, 1] ?_
 refine se ?_
 refine eb 31 #[u0, u1, u2, u3] 1 hB fun b2 w2 g2 L2 o2 q2 hB => ?_
 simp only [p3, p4]
 refine se ?_
 refine ea 31 #[(.bool false), (.slice none 0 0), (.bool false), (.slice none 0 0)] 2 hB fun b3 w3 g3 L3 o3 q3 hB => ?_
 have ne2_3 := L2.ne o3
 simp only [p3, p4]
 refine sq_nil ?_
 refine k1 _ _ ?_
 try clear k1 K1
 refine wp_seq_k (fun K4 k4 => ?_)
 have gd11 := Gr.drew w3
 replace hB := hB.trans gd11
 replace L2 := L2.gr (g3.trans gd11)
 refine wp_region_ord (fun w' => Lc w' b2 #[u0, u1, u2, u3] 31) [(true, 0), (true, 1), (true, 3), (true, 4), (false, 2), (true, 5), (false, 6)] (by kernel_rfl) (by kernel_rfl) (by kernel_rfl) (by decide) (fun _ _ _ _ _ h => h) L2 ?_
 refine ov 3 (.pointer (some ⟨b2, 0, none⟩)) ?_
 simp only [p3, p4]
 refine ow 4 (.agg #[u0, u1]) rfl (fun w' hS => (rl 27 0 [u0, u1] hS)) ?_
 simp only [p3, p4]
 refine ov 6 (.pointer (some ⟨b2, 2, none⟩)) ?_
 simp only [p3, p4]
 refine ow 7 (.agg #[u2, u3]) rfl (fun w' hS => (rl 27 2 [u2, u3] hS)) ?_
 simp only [p3, p4]
 refine oe ?_
 have kq14 := g2.kp.trans (g3.kp.trans gd11.kp)
 replace ha := ha.kp kq14
 refine ec 5 (abs_i ha.num) ?_
 rintro e13 w13 ⟨⟨rfl, h13⟩, g13⟩
 refine ⟨_, rfl, ?_⟩
 replace hB := hB.trans g13
 replace L2 := L2.gr g13
 refine ⟨L2, ?_⟩
 simp only [p3, p4]
 refine ov 8 (.agg #[(.bool false), u1, u2, u3]) ?_
 simp only [p3, p4]
 refine oe ?_
 replace L3 := L3.gr (gd11.trans g13)
 refine es 31 0 (.agg #[(.bool false), u1, u2, u3]) [(.bool false), u1, u2, u3] #[(.bool false), u1, u2, u3] L3 hB q3 ⟨rfl, ha.one1, ha.one2, ha.one3, trivial⟩ fun w16 st16 kp16 L3 hB => ?_
 replace L2 := st16.lc L2 ne2_3
 refine ⟨L2, ?_⟩
 refine ord_nil ?_
 refine k4 _ _ ?_
 try clear k4 K4
 refine wp_ret ?_
 refine bodyPost_ret (v := (.agg #[(.bool false), u1, u2, u3])) (ret_cell _ _ _ rfl rfl L3 (by kernel_rfl)) rfl ⟨?_, hB⟩
 have kq17 := g13.kp.trans kp16
 replace ha := ha.kp kq17
 replace h13 := h13.kp kp16
 exact ⟨_, _, _, _, rfl, IsRat.abs ha h13⟩

set_option maxRecDepth 100000 in
set_option maxHeartbeats 1000000 in
theorem min_r {k : Nat} {u0 u1 u2 u3 v0 v1 v2 v3 : Value} {a b : Rat} {w : World} (ha : IsRat w k u0 u1 u2 u3 a) (hb : IsRat w k v0 v1 v2 v3 b) (_hk : k ≤ 50000) :
    Calls Tryz.prog 51 #[(.agg #[u0, u1, u2, u3]), (.agg #[v0, v1, v2, v3])] w fun e w' => (∃ c0 c1 c2 c3, e = .returned (.agg #[c0, c1, c2, c3]) ∧ IsRat w' k c0 c1 c2 c3 (if decide (rcmp b a < (0 : Int)) = true then b else a)) ∧ Gr w w' := by
 go_enter Tryz.func51, Tryz.ntmps51
 have hB := Gr.refl w
 refine wp_seq_k (fun K1 k1 => ?_)
 refine rg [0, 1, 2] ?_
 refine se ?_
 refine eb 31 #[u0, u1, u2, u3] 2 hB fun b2 w2 g2 L2 o2 q2 hB => ?_
 simp only [p3, p4]
 refine se ?_
 refine eb 31 #[v0, v1, v2, v3] 3 hB fun b3 w3 g3 L3 o3 q3 hB => ?_
 simp only [p3, p4]
 refine se ?_
 refine ea 31 #[(.bool false), (.slice none 0 0), (.bool false), (.slice none 0 0)] 4 hB fun b4 w4 g4 L4 o4 q4 hB => ?_
 replace L2 := L2.gr g3
 simp only [p3, p4]
 refine sq_nil ?_
 refine k1 _ _ ?_
 try clear k1 K1
 refine wp_seq_k (fun K5 k5 => ?_)
 refine wp_seq_k (fun K6 k6 => ?_)
 refine rg [0, 1, 2, 3] ?_
 replace L3 := L3.gr g4
 refine sw 5 (.agg #[v0, v1, v2, v3]) rfl (rl 31 0 [v0, v1, v2, v3] L3) ?_
 simp only [p3, p4]
 replace L2 := L2.gr g4
 refine sw 6 (.agg #[u0, u1, u2, u3]) rfl (rl 31 0 [u0, u1, u2, u3] L2) ?_
 simp only [p3, p4]
 refine se ?_
 have kq8 := g2.kp.trans (g3.kp.trans g4.kp)
 replace hb := hb.kp kq8
 replace ha := ha.kp kq8
 refine ec 7 (compare_r hb ha (by omega)) ?_
 rintro e7 w7 ⟨rfl, g7⟩
 refine ⟨_, rfl, ?_⟩
 replace hB := hB.trans g7
 simp only [p3, p4]
 refine sv 8 (.bool (decide (rcmp (b) (a) < (0 : Int)))) ?_
 simp only [p3, p4]
 refine sq_nil ?_
 refine k6 _ _ ?_
 try clear k6 K6
 refine wp_cond_split (t := decide (rcmp (b) (a) < (0 : Int))) rfl (fun hb9 => ?_) (fun hb9 => ?_)
 ·refine wp_seq_k (fun K10 k10 => ?_)
  refine rg [0, 1] ?_
  replace L3 := L3.gr g7
  refine sw 9 (.agg #[v0, v1, v2, v3]) rfl (rl 31 0 [v0, v1, v2, v3] L3) ?_
  simp only [p3, p4]
  refine se ?_
  replace L4 := L4.gr g7
  refine es 31 0 (.agg #[v0, v1, v2, v3]) [v0, v1, v2, v3] #[v0, v1, v2, v3] L4 hB q4 ⟨hb.one0, hb.one1, hb.one2, hb.one3, trivial⟩ fun w11 st11 kp11 L4 hB => ?_
  refine sq_nil ?_
  refine k10 _ _ ?_
  try clear k10 K10
  refine wp_ret ?_
  simp only [Exit.then]
  refine bodyPost_ret (v := (.agg #[v0, v1, v2, v3])) (ret_cell _ _ _ rfl rfl L4 (by kernel_rfl)) rfl ⟨?_, hB⟩
  have kq12 := g7.kp.trans kp11
  replace hb := hb.kp kq12
  exact ⟨_, _, _, _, rfl, by rw [if_pos hb9]; exact hb⟩
 ·refine wp_skip ?_
  refine k5 _ _ ?_
  try clear k5 K5
  refine wp_seq_k (fun K13 k13 => ?_)
  refine rg [0, 1] ?_
  replace L2 := L2.gr g7
  refine sw 10 (.agg #[u0, u1, u2, u3]) rfl (rl 31 0 [u0, u1, u2, u3] L2) ?_
  simp only [p3, p4]
  refine se ?_
  replace L4 := L4.gr g7
  refine es 31 0 (.agg #[u0, u1, u2, u3]) [u0, u1, u2, u3] #[u0, u1, u2, u3] L4 hB q4 ⟨ha.one0, ha.one1, ha.one2, ha.one3, trivial⟩ fun w14 st14 kp14 L4 hB => ?_
  refine sq_nil ?_
  refine k13 _ _ ?_
  try clear k13 K13
  refine wp_ret ?_
  refine bodyPost_ret (v := (.agg #[u0, u1, u2, u3])) (ret_cell _ _ _ rfl rfl L4 (by kernel_rfl)) rfl ⟨?_, hB⟩
  have kq15 := g7.kp.trans kp14
  replace ha := ha.kp kq15
  exact ⟨_, _, _, _, rfl, by rw [if_neg (by rw [hb9]; exact Bool.false_ne_true)]; exact ha⟩

set_option maxRecDepth 100000 in
set_option maxHeartbeats 1000000 in
theorem max_r {k : Nat} {u0 u1 u2 u3 v0 v1 v2 v3 : Value} {a b : Rat} {w : World} (ha : IsRat w k u0 u1 u2 u3 a) (hb : IsRat w k v0 v1 v2 v3 b) (_hk : k ≤ 50000) :
    Calls Tryz.prog 53 #[(.agg #[u0, u1, u2, u3]), (.agg #[v0, v1, v2, v3])] w fun e w' => (∃ c0 c1 c2 c3, e = .returned (.agg #[c0, c1, c2, c3]) ∧ IsRat w' k c0 c1 c2 c3 (if decide ((0 : Int) < rcmp b a) = true then b else a)) ∧ Gr w w' := by
 go_enter Tryz.func53, Tryz.ntmps53
 have hB := Gr.refl w
 refine wp_seq_k (fun K1 k1 => ?_)
 refine rg [0, 1, 2] ?_
 refine se ?_
 refine eb 31 #[u0, u1, u2, u3] 2 hB fun b2 w2 g2 L2 o2 q2 hB => ?_
 simp only [p3, p4]
 refine se ?_
 refine eb 31 #[v0, v1, v2, v3] 3 hB fun b3 w3 g3 L3 o3 q3 hB => ?_
 simp only [p3, p4]
 refine se ?_
 refine ea 31 #[(.bool false), (.slice none 0 0), (.bool false), (.slice none 0 0)] 4 hB fun b4 w4 g4 L4 o4 q4 hB => ?_
 replace L2 := L2.gr g3
 simp only [p3, p4]
 refine sq_nil ?_
 refine k1 _ _ ?_
 try clear k1 K1
 refine wp_seq_k (fun K5 k5 => ?_)
 refine wp_seq_k (fun K6 k6 => ?_)
 refine rg [0, 1, 2, 3] ?_
 replace L3 := L3.gr g4
 refine sw 5 (.agg #[v0, v1, v2, v3]) rfl (rl 31 0 [v0, v1, v2, v3] L3) ?_
 simp only [p3, p4]
 replace L2 := L2.gr g4
 refine sw 6 (.agg #[u0, u1, u2, u3]) rfl (rl 31 0 [u0, u1, u2, u3] L2) ?_
 simp only [p3, p4]
 refine se ?_
 have kq8 := g2.kp.trans (g3.kp.trans g4.kp)
 replace hb := hb.kp kq8
 replace ha := ha.kp kq8
 refine ec 7 (compare_r hb ha (by omega)) ?_
 rintro e7 w7 ⟨rfl, g7⟩
 refine ⟨_, rfl, ?_⟩
 replace hB := hB.trans g7
 simp only [p3, p4]
 refine sv 8 (.bool (decide ((0 : Int) < rcmp (b) (a)))) ?_
 simp only [p3, p4]
 refine sq_nil ?_
 refine k6 _ _ ?_
 try clear k6 K6
 refine wp_cond_split (t := decide ((0 : Int) < rcmp (b) (a))) rfl (fun hb9 => ?_) (fun hb9 => ?_)
 ·refine wp_seq_k (fun K10 k10 => ?_)
  refine rg [0, 1] ?_
  replace L3 := L3.gr g7
  refine sw 9 (.agg #[v0, v1, v2, v3]) rfl (rl 31 0 [v0, v1, v2, v3] L3) ?_
  simp only [p3, p4]
  refine se ?_
  replace L4 := L4.gr g7
  refine es 31 0 (.agg #[v0, v1, v2, v3]) [v0, v1, v2, v3] #[v0, v1, v2, v3] L4 hB q4 ⟨hb.one0, hb.one1, hb.one2, hb.one3, trivial⟩ fun w11 st11 kp11 L4 hB => ?_
  refine sq_nil ?_
  refine k10 _ _ ?_
  try clear k10 K10
  refine wp_ret ?_
  simp only [Exit.then]
  refine bodyPost_ret (v := (.agg #[v0, v1, v2, v3])) (ret_cell _ _ _ rfl rfl L4 (by kernel_rfl)) rfl ⟨?_, hB⟩
  have kq12 := g7.kp.trans kp11
  replace hb := hb.kp kq12
  exact ⟨_, _, _, _, rfl, by rw [if_pos hb9]; exact hb⟩
 ·refine wp_skip ?_
  refine k5 _ _ ?_
  try clear k5 K5
  refine wp_seq_k (fun K13 k13 => ?_)
  refine rg [0, 1] ?_
  replace L2 := L2.gr g7
  refine sw 10 (.agg #[u0, u1, u2, u3]) rfl (rl 31 0 [u0, u1, u2, u3] L2) ?_
  simp only [p3, p4]
  refine se ?_
  replace L4 := L4.gr g7
  refine es 31 0 (.agg #[u0, u1, u2, u3]) [u0, u1, u2, u3] #[u0, u1, u2, u3] L4 hB q4 ⟨ha.one0, ha.one1, ha.one2, ha.one3, trivial⟩ fun w14 st14 kp14 L4 hB => ?_
  refine sq_nil ?_
  refine k13 _ _ ?_
  try clear k13 K13
  refine wp_ret ?_
  refine bodyPost_ret (v := (.agg #[u0, u1, u2, u3])) (ret_cell _ _ _ rfl rfl L4 (by kernel_rfl)) rfl ⟨?_, hB⟩
  have kq15 := g7.kp.trans kp14
  replace ha := ha.kp kq15
  exact ⟨_, _, _, _, rfl, by rw [if_neg (by rw [hb9]; exact Bool.false_ne_true)]; exact ha⟩

set_option maxRecDepth 100000 in
set_option maxHeartbeats 1000000 in
theorem div_a {k m : Nat} {u0 u1 u2 u3 v0 v1 v2 v3 : Value} {a b : Rat} {w : World} (ha : IsRat w k u0 u1 u2 u3 a) (hb : IsRat w m v0 v1 v2 v3 b) (_hk : k + m ≤ 100000) (h0 : b.num ≠ 0) :
    Calls Tryz.prog 46 #[(.agg #[u0, u1, u2, u3]), (.agg #[v0, v1, v2, v3])] w fun e w' => (∃ c0 c1 c2 c3, e = .returned (.tuple #[.agg #[c0, c1, c2, c3], .int .i64 0]) ∧ IsRat w' (k + m) c0 c1 c2 c3 (a / b)) ∧ Gr w w' := by
 have hka := ha.big
 have hkb := hb.big
 have he : (sgn (b).num == (0 : Int)) = false := by rw [beq_eq_false_iff_ne]; exact fun e => h0 (sgn_eq_zero.1 e)
 go_enter Tryz.func46, Tryz.ntmps46
 have hB := Gr.refl w
 refine wp_seq_k (fun K1 k1 => ?_)
 refine rg [0, 1, 2, 3] ?_
 refine se ?_
 refine eb 31 #[u0, u1, u2, u3] 2 hB fun b2 w2 g2 L2 o2 q2 hB => ?_
 simp only [p3, p4]
 refine se ?_
 refine eb 31 #[v0, v1, v2, v3] 3 hB fun b3 w3 g3 L3 o3 q3 hB => ?_
 simp only [p3, p4]
 refine se ?_
 refine ea 31 #[(.bool false), (.slice none 0 0), (.bool false), (.slice none 0 0)] 4 hB fun b4 w4 g4 L4 o4 q4 hB => ?_
 replace L2 := L2.gr g3
 have ne2_4 := L2.ne o4
 have ne3_4 := L3.ne o4
 simp only [p3, p4]
 refine sv 5 (.int .i64 0) ?_
 simp only [p3, p4]
 refine sq_nil ?_
 refine k1 _ _ ?_
 try clear k1 K1
 refine wp_seq_k (fun K5 k5 => ?_)
 refine wp_seq_k (fun K6 k6 => ?_)
 refine rg [0, 1, 2] ?_
 replace L3 := L3.gr g4
 refine sw 6 (.agg #[v0, v1, v2, v3]) rfl (rl 31 0 [v0, v1, v2, v3] L3) ?_
 simp only [p3, p4]
 refine se ?_
 have kq8 := g2.kp.trans (g3.kp.trans g4.kp)
 replace hb := hb.kp kq8
 refine ec 7 (sign_r hb) ?_
 rintro e7 w7 ⟨rfl, g7⟩
 refine ⟨_, rfl, ?_⟩
 replace hB := hB.trans g7
 simp only [p3, p4]
 refine sw 8 (.bool false) rfl (RunV.bool (x := (sgn (b).num == (0 : Int))) (rvk (by kernel_rfl)) he) ?_
 simp only [p3, p4]
 refine sq_nil ?_
 refine k6 _ _ ?_
 try clear k6 K6
 refine wp_cond_false rfl ?_
 refine wp_skip ?_
 refine k5 _ _ ?_
 try clear k5 K5
 refine wp_seq_k (fun K9 k9 => ?_)
 have gd27 := Gr.drew w7
 replace hB := hB.trans gd27
 replace L2 := L2.gr (g4.trans (g7.trans gd27))
 replace L3 := L3.gr (g7.trans gd27)
 refine wp_region_ord (fun w' => Lc w' b2 #[u0, u1, u2, u3] 31 ∧ Lc w' b3 #[v0, v1, v2, v3] 31) [(true, 0), (true, 1), (true, 2), (true, 5), (true, 7), (true, 8), (false, 3), (false, 4), (false, 6), (false, 9), (false, 10), (false, 11), (true, 12)] (by kernel_rfl) (by kernel_rfl) (by kernel_rfl) (by decide) (fun _ _ _ _ _ h => h) ⟨L2, L3⟩ ?_
 refine ov 10 (.pointer (some ⟨b2, 0, none⟩)) ?_
 simp only [p3, p4]
 refine ow 11 (.agg #[u0, u1]) rfl (fun w' hS => (rl 27 0 [u0, u1] hS.1)) ?_
 simp only [p3, p4]
 refine ow 12 (.agg #[v0, v1, v2, v3]) rfl (fun w' hS => (rl 31 0 [v0, v1, v2, v3] hS.2)) ?_
 simp only [p3, p4]
 refine ow 15 (.agg #[u0, u1, u2, u3]) rfl (fun w' hS => (rl 31 0 [u0, u1, u2, u3] hS.1)) ?_
 simp only [p3, p4]
 refine ov 17 (.pointer (some ⟨b3, 0, none⟩)) ?_
 simp only [p3, p4]
 refine ow 18 (.agg #[v0, v1]) rfl (fun w' hS => (rl 27 0 [v0, v1] hS.2)) ?_
 simp only [p3, p4]
 refine oe ?_
 have kq30 := g7.kp.trans gd27.kp
 replace hb := hb.kp kq30
 refine ec 13 (den_i hb) ?_
 rintro e29 w29 ⟨⟨x29, y29, rfl, h29⟩, g29⟩
 refine ⟨_, rfl, ?_⟩
 replace hB := hB.trans g29
 replace L2 := L2.gr g29
 replace L3 := L3.gr g29
 refine ⟨⟨L2, L3⟩, ?_⟩
 simp only [p3, p4]
 refine oe ?_
 have kq33 := g2.kp.trans (g3.kp.trans (g4.kp.trans (g7.kp.trans (gd27.kp.trans g29.kp))))
 replace ha := ha.kp kq33
 refine ec 14 (mul_i ha.num h29 (by omega)) ?_
 rintro e32 w32 ⟨⟨x32, y32, rfl, h32⟩, g32⟩
 refine ⟨_, rfl, ?_⟩
 replace hB := hB.trans g32
 replace L2 := L2.gr g32
 replace L3 := L3.gr g32
 refine ⟨⟨L2, L3⟩, ?_⟩
 simp only [p3, p4]
 refine oe ?_
 replace ha := ha.kp g32.kp
 refine ec 16 (den_i ha) ?_
 rintro e35 w35 ⟨⟨x35, y35, rfl, h35⟩, g35⟩
 refine ⟨_, rfl, ?_⟩
 replace hB := hB.trans g35
 replace L2 := L2.gr g35
 replace L3 := L3.gr g35
 refine ⟨⟨L2, L3⟩, ?_⟩
 simp only [p3, p4]
 refine oe ?_
 have kq38 := g29.kp.trans (g32.kp.trans g35.kp)
 replace hb := hb.kp kq38
 refine ec 19 (mul_i h35 hb.num (by omega)) ?_
 rintro e37 w37 ⟨⟨x37, y37, rfl, h37⟩, g37⟩
 refine ⟨_, rfl, ?_⟩
 replace hB := hB.trans g37
 replace L2 := L2.gr g37
 replace L3 := L3.gr g37
 refine ⟨⟨L2, L3⟩, ?_⟩
 simp only [p3, p4]
 refine oe ?_
 have kq41 := g35.kp.trans g37.kp
 replace h32 := h32.kp kq41
 refine ec 20 (reduced_a (k + m) h32 h37 (Int.mul_ne_zero (Int.ne_of_gt (Int.natCast_pos.2 a.den_pos)) h0) (by omega) (by omega) (by omega) (by omega)) ?_
 rintro e40 w40 ⟨⟨p40, q40, r40, s40, rfl, h40⟩, g40⟩
 refine ⟨_, rfl, ?_⟩
 replace hB := hB.trans g40
 replace L2 := L2.gr g40
 replace L3 := L3.gr g40
 refine ⟨⟨L2, L3⟩, ?_⟩
 simp only [p3, p4]
 refine oe ?_
 replace L4 := L4.gr (g7.trans (gd27.trans (g29.trans (g32.trans (g35.trans (g37.trans g40))))))
 refine es 31 0 (.agg #[p40, q40, r40, s40]) [p40, q40, r40, s40] #[p40, q40, r40, s40] L4 hB q4 ⟨h40.one0, h40.one1, h40.one2, h40.one3, trivial⟩ fun w43 st43 kp43 L4 hB => ?_
 replace L2 := st43.lc L2 ne2_4
 replace L3 := st43.lc L3 ne3_4
 refine ⟨⟨L2, L3⟩, ?_⟩
 refine ov 5 (.int .i64 0) ?_
 simp only [p3, p4]
 refine ord_nil ?_
 refine k9 _ _ ?_
 try clear k9 K9
 refine wp_ret ?_
 refine bodyPost_ret (v := (.tuple #[(.agg #[p40, q40, r40, s40]), (.int .i64 0)])) (ret_cell_tmp' _ _ _ rfl rfl L4 (by kernel_rfl) rfl) rfl ⟨?_, hB⟩
 replace h40 := h40.kp kp43
 exact ⟨_, _, _, _, rfl, by rw [← rat_div]; exact h40⟩

set_option maxRecDepth 100000 in
set_option maxHeartbeats 1000000 in
theorem div_0 {k m : Nat} {u0 u1 u2 u3 v0 v1 v2 v3 : Value} {a b : Rat} {w : World} (_ha : IsRat w k u0 u1 u2 u3 a) (hb : IsRat w m v0 v1 v2 v3 b) (h0 : b.num = 0) :
    Calls Tryz.prog 46 #[(.agg #[u0, u1, u2, u3]), (.agg #[v0, v1, v2, v3])] w fun e w' => e = .returned (.tuple #[.agg #[.bool false, .slice none 0 0, .bool false, .slice none 0 0], .int .i64 19]) ∧ Gr w w' := by
 have he : (sgn (b).num == (0 : Int)) = true := by rw [h0]; rfl
 go_enter Tryz.func46, Tryz.ntmps46
 have hB := Gr.refl w
 refine wp_seq_k (fun K1 k1 => ?_)
 refine rg [0, 1, 2, 3] ?_
 refine se ?_
 refine eb 31 #[u0, u1, u2, u3] 2 hB fun b2 w2 g2 L2 o2 q2 hB => ?_
 simp only [p3, p4]
 refine se ?_
 refine eb 31 #[v0, v1, v2, v3] 3 hB fun b3 w3 g3 L3 o3 q3 hB => ?_
 simp only [p3, p4]
 refine se ?_
 refine ea 31 #[(.bool false), (.slice none 0 0), (.bool false), (.slice none 0 0)] 4 hB fun b4 w4 g4 L4 o4 q4 hB => ?_
 simp only [p3, p4]
 refine sv 5 (.int .i64 0) ?_
 simp only [p3, p4]
 refine sq_nil ?_
 refine k1 _ _ ?_
 try clear k1 K1
 refine wp_seq_k (fun K5 k5 => ?_)
 refine wp_seq_k (fun K6 k6 => ?_)
 refine rg [0, 1, 2] ?_
 replace L3 := L3.gr g4
 refine sw 6 (.agg #[v0, v1, v2, v3]) rfl (rl 31 0 [v0, v1, v2, v3] L3) ?_
 simp only [p3, p4]
 refine se ?_
 have kq8 := g2.kp.trans (g3.kp.trans g4.kp)
 replace hb := hb.kp kq8
 refine ec 7 (sign_r hb) ?_
 rintro e7 w7 ⟨rfl, g7⟩
 refine ⟨_, rfl, ?_⟩
 replace hB := hB.trans g7
 simp only [p3, p4]
 refine sw 8 (.bool true) rfl (RunV.bool (x := (sgn (b).num == (0 : Int))) (rvk (by kernel_rfl)) he) ?_
 simp only [p3, p4]
 refine sq_nil ?_
 refine k6 _ _ ?_
 try clear k6 K6
 refine wp_cond_true rfl ?_
 refine wp_seq_k (fun K9 k9 => ?_)
 refine rg [0, 1, 2] ?_
 refine sv 9 (.agg #[(.bool false), (.slice none 0 0), (.bool false), (.slice none 0 0)]) ?_
 simp only [p3, p4]
 refine se ?_
 replace L4 := L4.gr g7
 refine es 31 0 (.agg #[(.bool false), (.slice none 0 0), (.bool false), (.slice none 0 0)]) [(.bool false), (.slice none 0 0), (.bool false), (.slice none 0 0)] #[(.bool false), (.slice none 0 0), (.bool false), (.slice none 0 0)] L4 hB q4 ⟨rfl, rfl, rfl, rfl, trivial⟩ fun w10 st10 kp10 L4 hB => ?_
 refine sv 5 (.int .i64 19) ?_
 simp only [p3, p4]
 refine sq_nil ?_
 refine k9 _ _ ?_
 try clear k9 K9
 refine wp_ret ?_
 simp only [Exit.then]
 refine bodyPost_ret (v := (.tuple #[(.agg #[(.bool false), (.slice none 0 0), (.bool false), (.slice none 0 0)]), (.int .i64 19)])) (ret_cell_tmp' _ _ _ rfl rfl L4 (by kernel_rfl) rfl) rfl ⟨?_, hB⟩
 exact rfl

set_option maxRecDepth 100000 in
set_option maxHeartbeats 1000000 in
theorem r2_div {k m : Nat} (a b : Rat) (ha : Sz k a.num ∧ Sz k (a.den : Int)) (hb : Sz m b.num ∧ Sz m (b.den : Int)) (h0 : b.num ≠ 0) (_hk : k + m ≤ 6000) (w : World) :
    Calls Tryz.prog 49 #[(.string ⟨(ratL (a) : List UInt8).toArray⟩), (.string ⟨(ratL (b) : List UInt8).toArray⟩)] w fun e w' => e = .returned (.string ⟨(ratL (a / b)).toArray⟩) ∧ Gr w w' := by
 go_enter Tryz.func49, Tryz.ntmps49
 have hB := Gr.refl w
 refine wp_seq_k (fun K1 k1 => ?_)
 refine rg [0] ?_
 refine sv 4 (.string ⟨([] : List UInt8).toArray⟩) ?_
 simp only [p3, p4]
 refine sq_nil ?_
 refine k1 _ _ ?_
 try clear k1 K1
 refine wp_seq_k (fun K2 k2 => ?_)
 refine rg [0, 1, 2, 3, 4, 5, 6] ?_
 refine sv 10 (.string ⟨(ratL (a) : List UInt8).toArray⟩) ?_
 simp only [p3, p4]
 refine se ?_
 refine ec 11 (r2_parts_q a ha.1 ha.2 (by omega) _) ?_
 rintro e3 w3 ⟨rfl, g3⟩
 refine ⟨_, rfl, ?_⟩
 replace hB := hB.trans g3
 simp only [p3, p4]
 refine sv 9 (.tuple #[(.string ⟨(Lib.itoa (a.num) : List UInt8).toArray⟩), (.string ⟨(Lib.itoa ((a.den : Int)) : List UInt8).toArray⟩)]) ?_
 simp only [p3, p4]
 refine sv 12 (.string ⟨(Lib.itoa (a.num) : List UInt8).toArray⟩) ?_
 simp only [p3, p4]
 refine sv 13 (.string ⟨(Lib.itoa ((a.den : Int)) : List UInt8).toArray⟩) ?_
 simp only [p3, p4]
 refine sv 5 (.string ⟨(Lib.itoa (a.num) : List UInt8).toArray⟩) ?_
 simp only [p3, p4]
 refine sv 6 (.string ⟨(Lib.itoa ((a.den : Int)) : List UInt8).toArray⟩) ?_
 simp only [p3, p4]
 refine sq_nil ?_
 refine k2 _ _ ?_
 try clear k2 K2
 refine wp_seq_k (fun K4 k4 => ?_)
 refine rg [0, 1, 2, 3, 4, 5, 6] ?_
 refine sv 15 (.string ⟨(ratL (b) : List UInt8).toArray⟩) ?_
 simp only [p3, p4]
 refine se ?_
 refine ec 16 (r2_parts_q b hb.1 hb.2 (by omega) _) ?_
 rintro e5 w5 ⟨rfl, g5⟩
 refine ⟨_, rfl, ?_⟩
 replace hB := hB.trans g5
 simp only [p3, p4]
 refine sv 14 (.tuple #[(.string ⟨(Lib.itoa (b.num) : List UInt8).toArray⟩), (.string ⟨(Lib.itoa ((b.den : Int)) : List UInt8).toArray⟩)]) ?_
 simp only [p3, p4]
 refine sv 17 (.string ⟨(Lib.itoa (b.num) : List UInt8).toArray⟩) ?_
 simp only [p3, p4]
 refine sv 18 (.string ⟨(Lib.itoa ((b.den : Int)) : List UInt8).toArray⟩) ?_
 simp only [p3, p4]
 refine sv 7 (.string ⟨(Lib.itoa (b.num) : List UInt8).toArray⟩) ?_
 simp only [p3, p4]
 refine sv 8 (.string ⟨(Lib.itoa ((b.den : Int)) : List UInt8).toArray⟩) ?_
 simp only [p3, p4]
 refine sq_nil ?_
 refine k4 _ _ ?_
 try clear k4 K4
 refine wp_seq_k (fun K6 k6 => ?_)
 refine rg [0, 1, 2, 3, 4, 5, 6, 7] ?_
 refine sv 19 (.string ⟨(Lib.itoa (a.num) : List UInt8).toArray⟩) ?_
 simp only [p3, p4]
 refine sv 20 (.string ⟨(Lib.itoa ((b.den : Int)) : List UInt8).toArray⟩) ?_
 simp only [p3, p4]
 refine se ?_
 refine ec 21 (r1_mul (a.num) ((b.den : Int)) ha.1 hb.2 (by omega) _) ?_
 rintro e7 w7 ⟨rfl, g7⟩
 refine ⟨_, rfl, ?_⟩
 replace hB := hB.trans g7
 simp only [p3, p4]
 refine sv 22 (.string ⟨(Lib.itoa ((a.den : Int)) : List UInt8).toArray⟩) ?_
 simp only [p3, p4]
 refine sv 23 (.string ⟨(Lib.itoa (b.num) : List UInt8).toArray⟩) ?_
 simp only [p3, p4]
 refine se ?_
 refine ec 24 (r1_mul ((a.den : Int)) (b.num) ha.2 hb.1 (by omega) _) ?_
 rintro e8 w8 ⟨rfl, g8⟩
 refine ⟨_, rfl, ?_⟩
 replace hB := hB.trans g8
 simp only [p3, p4]
 refine se ?_
 refine ec 25 (r2_text_q (a.num * (b.den : Int)) ((a.den : Int) * b.num) _ rfl (ha.1.mul hb.2) ((ha.2.mul hb.1).mono (by omega)) (Int.mul_ne_zero (Int.ne_of_gt (den_pos_i a)) h0) (by omega) _) ?_
 rintro e9 w9 ⟨rfl, g9⟩
 refine ⟨_, rfl, ?_⟩
 replace hB := hB.trans g9
 simp only [p3, p4]
 refine sv 4 (.string ⟨(ratL (Rat.divInt (a.num * (b.den : Int)) ((a.den : Int) * b.num)) : List UInt8).toArray⟩) ?_
 simp only [p3, p4]
 refine sq_nil ?_
 refine k6 _ _ ?_
 try clear k6 K6
 refine wp_ret ?_
 refine bodyPost_ret (v := (.string ⟨(ratL (Rat.divInt (a.num * (b.den : Int)) ((a.den : Int) * b.num)) : List UInt8).toArray⟩)) (ret_tmp rfl rfl) rfl ⟨?_, hB⟩
 exact (by rw [rat_div])

set_option maxRecDepth 100000 in
set_option maxHeartbeats 1000000 in
theorem r2_ceil {k : Nat} (a : Rat) (ha : Sz k a.num ∧ Sz k (a.den : Int)) (_hk : k ≤ 6000) (w : World) :
    Calls Tryz.prog 43 #[(.string ⟨(ratL (a) : List UInt8).toArray⟩)] w fun e w' => e = .returned (.string ⟨(Lib.itoa (-((-a).num / ((-a).den : Int)))).toArray⟩) ∧ Gr w w' := by
 go_enter Tryz.func43, Tryz.ntmps43
 have hB := Gr.refl w
 refine wp_seq_k (fun K1 k1 => ?_)
 refine rg [0] ?_
 refine sv 2 (.string ⟨([] : List UInt8).toArray⟩) ?_
 simp only [p3, p4]
 refine sq_nil ?_
 refine k1 _ _ ?_
 try clear k1 K1
 refine wp_seq_k (fun K2 k2 => ?_)
 refine rg [0, 1, 2, 3, 4] ?_
 refine sv 3 (.string ⟨(ratL (a) : List UInt8).toArray⟩) ?_
 simp only [p3, p4]
 refine se ?_
 refine ec 4 (r2_neg (a) ha (by omega) _) ?_
 rintro e3 w3 ⟨rfl, g3⟩
 refine ⟨_, rfl, ?_⟩
 replace hB := hB.trans g3
 simp only [p3, p4]
 refine se ?_
 refine ec 5 (r2_floor (-a) (rsz_neg ha) (by omega) _) ?_
 rintro e4 w4 ⟨rfl, g4⟩
 refine ⟨_, rfl, ?_⟩
 replace hB := hB.trans g4
 simp only [p3, p4]
 refine se ?_
 refine ec 6 (r1_neg ((-a).num / ((-a).den : Int)) (sz_div (rsz_neg ha).1 (den_pos_i _)) (by omega) _) ?_
 rintro e5 w5 ⟨rfl, g5⟩
 refine ⟨_, rfl, ?_⟩
 replace hB := hB.trans g5
 simp only [p3, p4]
 refine sv 2 (.string ⟨(Lib.itoa (-((-a).num / ((-a).den : Int))) : List UInt8).toArray⟩) ?_
 simp only [p3, p4]
 refine sq_nil ?_
 refine k2 _ _ ?_
 try clear k2 K2
 refine wp_ret ?_
 refine bodyPost_ret (v := (.string ⟨(Lib.itoa (-((-a).num / ((-a).den : Int))) : List UInt8).toArray⟩)) (ret_tmp rfl rfl) rfl ⟨?_, hB⟩
 exact rfl

end Go.Proofs.YtloocadjbpgldaaGreatDoor
/- From a walk to a row: laws whose arguments hold strings, over worlds with sentinels laid. -/
namespace Go.Proofs.YtloocadjbpgldaaGreatDoor
open Go.ChangeShapes Go.WideShapes Go.ChangeAt Go.RowKit

section
variable {H : Type} {enc : TypeId × Value → H}
/-- there is an input that fits, at a world of which the shape is known -/
theorem witness_row_sh {C : Checked} {os : Os} {f : FuncId} {fn : Func} {s : OpenSpec} {conds : List PathCond} {apart : Bool} {laid : List (String × DataW Unit)} (modest : Bool) (w0 : World) (args : Array Value) (hos : w0.os = os)
    (hsh : (w0.forCall (fun _ _ => 0) ⟨#[], args, []⟩).Shaped C.prog)
    (hok : Input.okWideB C.prog (w0.forCall (fun _ _ => 0) ⟨#[], args, []⟩) f ⟨#[], args, []⟩ = true)
    (hrow : s.preRow enc C.prog fn conds apart laid (w0.forCall (fun _ _ => 0) ⟨#[], args, []⟩).memory args) :
    ∃ (w : World) (tape : Tape) (i : Input), w.os = os ∧ (w.forCall tape i).Shaped C.prog ∧ i.vars = [] ∧ Input.okWide C.prog (w.forCall tape i) .any w.heap.size f i ∧
      s.preRow enc C.prog fn conds apart laid (w.forCall tape i).memory i.args ∧ ({ modest := modest } : Assume).holds C.prog (lone (Frame.enter C.prog f i.args .normal) [] (w.forCall tape i)) :=
  ⟨w0, fun _ _ => 0, ⟨#[], args, []⟩, hos, hsh, (Input.okWide_of_okWideB (base := 0) hok).1, (Input.okWide_of_okWideB hok).2, hrow, by
    simp only [Assume.holds]
    exact ⟨by simp, by simp, fun _ => Modest.zero, by simp, by simp⟩⟩
end
theorem open_text {P : Program} {W : World} {base t : Nat} {v : Value} (hu : P.underlying t = some .string) (h : Value.okWide P W .any base t v) : ∃ X : List UInt8, v = .string ⟨X.toArray⟩ := by
  obtain ⟨s, rfl⟩ := okWide_string hu h
  exact ⟨s.data.toList, by simp⟩
theorem cell_str {P : Program} {W : World} {base u : Nat} {v : Value} (hu : P.underlying u = some .string) (h : Cell.okWide P W .any base u v) : ∃ X : List UInt8, v = .string ⟨X.toArray⟩ := by
  unfold Cell.okWide at h
  rw [hu] at h
  unfold Cell.ok at h
  rw [hu] at h
  cases v <;> simp at h
  next s => exact ⟨s.data.toList, by simp⟩
def kindD : Option IntKind → TypeDesc
  | some k => .int k
  | none => .string
def kindV (k : Option IntKind) (v : Option Value) : Prop :=
  match k with
  | some k => ∃ n : Int, v = some (.int k n) ∧ k.has n
  | none => ∃ X : List UInt8, v = some (.string ⟨X.toArray⟩)
/-- a parameter of cells that are integers or strings -/
theorem open_mixed {P : Program} {W : World} {base t : Nat} {v : Value} {ts : List TypeId} (ks : List (Option IntKind)) (hagg : (match P.underlying t with | some (.struct _) | some (.array _ _) => true | _ => false) = true)
    (hct : P.cellTypes P.depth t = some ts) (hC : P.cellsOf t = ts.length) (hk : ts.map (fun u => P.underlying u) = ks.map fun k => some (kindD k)) (h : Value.okWide P W .any base t v) :
    ∃ cs, v = .agg cs ∧ cs.size = ks.length ∧ ∀ (i : Nat) (k : Option IntKind), ks[i]? = some k → kindV k cs[i]? := by
  have hlen : ts.length = ks.length := by have := congrArg List.length hk; simpa using this
  have h' : ∃ cs, v = .agg cs ∧ cs.size = P.cellsOf t ∧ Row.okWide P W .any base t cs := by
    unfold Value.okWide at h
    split at h <;> first | exact h | (rename_i h1 h2; revert hagg; split <;> simp_all)
  obtain ⟨cs, hv, hs, ts', hct', _, hc⟩ := h'
  rw [hct] at hct'
  obtain rfl := Option.some.inj hct'
  refine ⟨cs, hv, by omega, fun i k hi => ?_⟩
  have hil : i < ks.length := (List.getElem?_eq_some_iff.1 hi).1
  have hic : i < cs.size := by omega
  obtain ⟨u, hu, hcell⟩ := hc i cs[i] (Array.getElem?_eq_getElem hic)
  rw [Nat.mod_eq_of_lt (by omega)] at hu
  have : (ts.map (fun u => P.underlying u))[i]? = some (P.underlying u) := by simp [hu]
  rw [hk] at this
  simp only [List.getElem?_map, hi, Option.map_some, Option.some.injEq] at this
  unfold kindV
  rw [Array.getElem?_eq_getElem hic]
  cases k with
  | some k =>
    obtain ⟨n, hn, hh⟩ := cell_int this.symm hcell
    exact ⟨n, by rw [hn], hh⟩
  | none =>
    obtain ⟨X, hX⟩ := cell_str this.symm hcell
    exact ⟨X, by rw [hX]⟩
theorem has_i64 {n : Int} (h : IntKind.i64.has n) : -9223372036854775808 ≤ n ∧ n ≤ 9223372036854775807 := h
end Go.Proofs.YtloocadjbpgldaaGreatDoor
