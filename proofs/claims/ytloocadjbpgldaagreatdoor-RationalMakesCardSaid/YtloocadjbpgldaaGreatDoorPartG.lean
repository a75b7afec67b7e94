/- Joined of: Gen38, RowRationalMakes. -/
import Derived.Test.YtloocadjbpgldaaGreatDoorPartE
import Derived.Test.YtloocadjbpgldaaGreatDoorCards
import Derived.Test.YtloocadjbpgldaaGreatDoorTie
import Derived.Test.YtloocadjbpgldaaGreatDoorPartF
/- Printed by a program of the prover's: RationalMakes. -/
namespace Go.Proofs.YtloocadjbpgldaaGreatDoor
open Go.RowKit

set_option maxRecDepth 100000 in
set_option maxHeartbeats 1000000 in
theorem is_m {k : Nat} {u0 u1 u2 u3 : Value} {a : Rat} (X : List UInt8) {w : World} (ha : IsRat w k u0 u1 u2 u3 a) (_hk : k ≤ 800000) (ht : Tab w) :
    Calls Tryz.prog 19 #[(.agg #[u0, u1, u2, u3]), (.string ⟨(X : List UInt8).toArray⟩)] w fun e w' => e = .returned (.bool (ratL a == X)) ∧ Gr w w' := by
 go_enter Tryz.func19, Tryz.ntmps19
 have hB := Gr.refl w
 refine wp_seq_k (fun K1 k1 => ?_)
 refine rg [0, 1] ?_
 refine se ?_
 refine eb 31 #[u0, u1, u2, u3] 2 hB fun b2 w2 g2 L2 o2 q2 hB => ?_
 simp only [p3, p4]
 refine sv 4 (.bool false) ?_
 simp only [p3, p4]
 refine sq_nil ?_
 refine k1 _ _ ?_
 try clear k1 K1
 refine wp_seq_k (fun K3 k3 => ?_)
 refine rg [0, 1, 2, 3, 4] ?_
 refine sw 5 (.agg #[u0, u1, u2, u3]) rfl (rl 31 0 [u0, u1, u2, u3] L2) ?_
 simp only [p3, p4]
 refine se ?_
 replace ha := ha.kp g2.kp
 refine ec 6 (number_r ha (by omega) (ht.gr hB)) ?_
 rintro e4 w4 ⟨rfl, g4⟩
 refine ⟨_, rfl, ?_⟩
 replace hB := hB.trans g4
 simp only [p3, p4]
 refine sv 7 (.string ⟨(X : List UInt8).toArray⟩) ?_
 simp only [p3, p4]
 refine sw 8 (.bool (((ratL (a)) == (X)))) rfl (rv_seq 9 9 _ _ (ratL (a)) (X) rfl rfl rfl) ?_
 simp only [p3, p4]
 refine sv 4 (.bool (((ratL (a)) == (X)))) ?_
 simp only [p3, p4]
 refine sq_nil ?_
 refine k3 _ _ ?_
 try clear k3 K3
 refine wp_ret ?_
 refine bodyPost_ret (v := (.bool (((ratL (a)) == (X))))) (ret_tmp rfl rfl) rfl ⟨?_, hB⟩
 exact rfl

set_option maxRecDepth 100000 in
set_option maxHeartbeats 1000000 in
theorem makes_b1 (X Y : List UInt8) (_h0 : 40 < X.length) (w : World) (ht : Tab w) :
    Calls Tryz.prog 3 #[(.string ⟨(X : List UInt8).toArray⟩), (.string ⟨(Y : List UInt8).toArray⟩)] w fun e w' => e = .returned (.bool true) ∧ Gr w w' := by
 have lx : decide ((40 : Int) < (X.length : Int)) = true := by simp; omega
 go_enter Tryz.func3, Tryz.ntmps3
 have hB := Gr.refl w
 refine wp_seq_k (fun K1 k1 => ?_)
 refine rg [0] ?_
 refine sv 4 (.bool false) ?_
 simp only [p3, p4]
 refine sq_nil ?_
 refine k1 _ _ ?_
 try clear k1 K1
 refine wp_seq_k (fun K2 k2 => ?_)
 refine wp_seq_k (fun K3 k3 => ?_)
 refine rg [0, 1, 2, 3, 4, 5, 6, 7, 8, 9, 10, 11, 12, 13, 14, 15, 16, 17, 18, 19, 20, 21] ?_
 refine se ?_
 refine ec 14 (known2 _ (ht.gr hB)) ?_
 rintro e4 w4 ⟨rfl, g4⟩
 refine ⟨_, rfl, ?_⟩
 replace hB := hB.trans g4
 simp only [p3, p4]
 refine sv 15 (.bool false) ?_
 simp only [p3, p4]
 refine sv 16 (.bool false) ?_
 simp only [p3, p4]
 refine sv 17 (.string ⟨(X : List UInt8).toArray⟩) ?_
 simp only [p3, p4]
 refine sv 18 (.int .i64 (((X).length : Int))) ?_
 simp only [p3, p4]
 refine sw 19 (.bool true) rfl (RunV.bool (x := decide ((40 : Int) < ((X).length : Int))) (rvk (by kernel_rfl)) lx) ?_
 simp only [p3, p4]
 refine sv 20 (.bool true) ?_
 simp only [p3, p4]
 refine sv 21 (.bool true) ?_
 simp only [p3, p4]
 refine ss 22 ?_
 simp only [p3, p4]
 refine ss 23 ?_
 simp only [p3, p4]
 refine ss 24 ?_
 simp only [p3, p4]
 refine sv 25 (.bool true) ?_
 simp only [p3, p4]
 refine sv 26 (.bool true) ?_
 simp only [p3, p4]
 refine ss 27 ?_
 simp only [p3, p4]
 refine ss 28 ?_
 simp only [p3, p4]
 refine ss 29 ?_
 simp only [p3, p4]
 refine sv 30 (.bool true) ?_
 simp only [p3, p4]
 refine sv 31 (.bool true) ?_
 simp only [p3, p4]
 refine ss 32 ?_
 simp only [p3, p4]
 refine ss 33 ?_
 simp only [p3, p4]
 refine ss 34 ?_
 simp only [p3, p4]
 refine sv 35 (.bool true) ?_
 simp only [p3, p4]
 refine sq_nil ?_
 refine k3 _ _ ?_
 try clear k3 K3
 refine wp_cond_true rfl ?_
 refine wp_seq_k (fun K5 k5 => ?_)
 refine rg [0, 1] ?_
 refine se ?_
 refine ec 36 (known2 _ (ht.gr hB)) ?_
 rintro e6 w6 ⟨rfl, g6⟩
 refine ⟨_, rfl, ?_⟩
 replace hB := hB.trans g6
 simp only [p3, p4]
 refine sv 4 (.bool true) ?_
 simp only [p3, p4]
 refine sq_nil ?_
 refine k5 _ _ ?_
 try clear k5 K5
 refine wp_ret ?_
 simp only [Exit.then]
 refine bodyPost_ret (v := (.bool true)) (ret_tmp rfl rfl) rfl ⟨?_, hB⟩
 exact rfl

set_option maxRecDepth 100000 in
set_option maxHeartbeats 1000000 in
theorem makes_b2 (X Y : List UInt8) (_h0 : X.length ≤ 40) (_h1 : 40 < Y.length) (w : World) (ht : Tab w) :
    Calls Tryz.prog 3 #[(.string ⟨(X : List UInt8).toArray⟩), (.string ⟨(Y : List UInt8).toArray⟩)] w fun e w' => e = .returned (.bool true) ∧ Gr w w' := by
 have lx : decide ((40 : Int) < (X.length : Int)) = false := by simp; omega
 have ly : decide ((40 : Int) < (Y.length : Int)) = true := by simp; omega
 go_enter Tryz.func3, Tryz.ntmps3
 have hB := Gr.refl w
 refine wp_seq_k (fun K1 k1 => ?_)
 refine rg [0] ?_
 refine sv 4 (.bool false) ?_
 simp only [p3, p4]
 refine sq_nil ?_
 refine k1 _ _ ?_
 try clear k1 K1
 refine wp_seq_k (fun K2 k2 => ?_)
 refine wp_seq_k (fun K3 k3 => ?_)
 refine rg [0, 1, 2, 3, 4, 5, 6, 7, 8, 9, 10, 11, 12, 13, 14, 15, 16, 17, 18, 19, 20, 21] ?_
 refine se ?_
 refine ec 14 (known2 _ (ht.gr hB)) ?_
 rintro e4 w4 ⟨rfl, g4⟩
 refine ⟨_, rfl, ?_⟩
 replace hB := hB.trans g4
 simp only [p3, p4]
 refine sv 15 (.bool false) ?_
 simp only [p3, p4]
 refine sv 16 (.bool false) ?_
 simp only [p3, p4]
 refine sv 17 (.string ⟨(X : List UInt8).toArray⟩) ?_
 simp only [p3, p4]
 refine sv 18 (.int .i64 (((X).length : Int))) ?_
 simp only [p3, p4]
 refine sw 19 (.bool false) rfl (RunV.bool (x := decide ((40 : Int) < ((X).length : Int))) (rvk (by kernel_rfl)) lx) ?_
 simp only [p3, p4]
 refine sv 20 (.bool false) ?_
 simp only [p3, p4]
 refine sv 21 (.bool false) ?_
 simp only [p3, p4]
 refine sv 22 (.string ⟨(Y : List UInt8).toArray⟩) ?_
 simp only [p3, p4]
 refine sv 23 (.int .i64 (((Y).length : Int))) ?_
 simp only [p3, p4]
 refine sw 24 (.bool true) rfl (RunV.bool (x := decide ((40 : Int) < ((Y).length : Int))) (rvk (by kernel_rfl)) ly) ?_
 simp only [p3, p4]
 refine sv 25 (.bool true) ?_
 simp only [p3, p4]
 refine sv 26 (.bool true) ?_
 simp only [p3, p4]
 refine ss 27 ?_
 simp only [p3, p4]
 refine ss 28 ?_
 simp only [p3, p4]
 refine ss 29 ?_
 simp only [p3, p4]
 refine sv 30 (.bool true) ?_
 simp only [p3, p4]
 refine sv 31 (.bool true) ?_
 simp only [p3, p4]
 refine ss 32 ?_
 simp only [p3, p4]
 refine ss 33 ?_
 simp only [p3, p4]
 refine ss 34 ?_
 simp only [p3, p4]
 refine sv 35 (.bool true) ?_
 simp only [p3, p4]
 refine sq_nil ?_
 refine k3 _ _ ?_
 try clear k3 K3
 refine wp_cond_true rfl ?_
 refine wp_seq_k (fun K5 k5 => ?_)
 refine rg [0, 1] ?_
 refine se ?_
 refine ec 36 (known2 _ (ht.gr hB)) ?_
 rintro e6 w6 ⟨rfl, g6⟩
 refine ⟨_, rfl, ?_⟩
 replace hB := hB.trans g6
 simp only [p3, p4]
 refine sv 4 (.bool true) ?_
 simp only [p3, p4]
 refine sq_nil ?_
 refine k5 _ _ ?_
 try clear k5 K5
 refine wp_ret ?_
 simp only [Exit.then]
 refine bodyPost_ret (v := (.bool true)) (ret_tmp rfl rfl) rfl ⟨?_, hB⟩
 exact rfl

set_option maxRecDepth 100000 in
set_option maxHeartbeats 1000000 in
theorem makes_b3 (X Y : List UInt8) (_h0 : X.length ≤ 40) (_h1 : Y.length ≤ 40) (c0 : ck1 X ≠ 0) (w : World) (ht : Tab w) :
    Calls Tryz.prog 3 #[(.string ⟨(X : List UInt8).toArray⟩), (.string ⟨(Y : List UInt8).toArray⟩)] w fun e w' => e = .returned (.bool true) ∧ Gr w w' := by
 have lx : decide ((40 : Int) < (X.length : Int)) = false := by simp; omega
 have ly : decide ((40 : Int) < (Y.length : Int)) = false := by simp; omega
 have cx : (ck1 X != (0 : Int)) = true := by simpa using c0
 go_enter Tryz.func3, Tryz.ntmps3
 have hB := Gr.refl w
 refine wp_seq_k (fun K1 k1 => ?_)
 refine rg [0] ?_
 refine sv 4 (.bool false) ?_
 simp only [p3, p4]
 refine sq_nil ?_
 refine k1 _ _ ?_
 try clear k1 K1
 refine wp_seq_k (fun K2 k2 => ?_)
 refine wp_seq_k (fun K3 k3 => ?_)
 refine rg [0, 1, 2, 3, 4, 5, 6, 7, 8, 9, 10, 11, 12, 13, 14, 15, 16, 17, 18, 19, 20, 21] ?_
 refine se ?_
 refine ec 14 (known2 _ (ht.gr hB)) ?_
 rintro e4 w4 ⟨rfl, g4⟩
 refine ⟨_, rfl, ?_⟩
 replace hB := hB.trans g4
 simp only [p3, p4]
 refine sv 15 (.bool false) ?_
 simp only [p3, p4]
 refine sv 16 (.bool false) ?_
 simp only [p3, p4]
 refine sv 17 (.string ⟨(X : List UInt8).toArray⟩) ?_
 simp only [p3, p4]
 refine sv 18 (.int .i64 (((X).length : Int))) ?_
 simp only [p3, p4]
 refine sw 19 (.bool false) rfl (RunV.bool (x := decide ((40 : Int) < ((X).length : Int))) (rvk (by kernel_rfl)) lx) ?_
 simp only [p3, p4]
 refine sv 20 (.bool false) ?_
 simp only [p3, p4]
 refine sv 21 (.bool false) ?_
 simp only [p3, p4]
 refine sv 22 (.string ⟨(Y : List UInt8).toArray⟩) ?_
 simp only [p3, p4]
 refine sv 23 (.int .i64 (((Y).length : Int))) ?_
 simp only [p3, p4]
 refine sw 24 (.bool false) rfl (RunV.bool (x := decide ((40 : Int) < ((Y).length : Int))) (rvk (by kernel_rfl)) ly) ?_
 simp only [p3, p4]
 refine sv 25 (.bool false) ?_
 simp only [p3, p4]
 refine sv 26 (.bool false) ?_
 simp only [p3, p4]
 refine sv 27 (.string ⟨(X : List UInt8).toArray⟩) ?_
 simp only [p3, p4]
 refine se ?_
 refine ec 28 (r1_check_l (X) (by omega) _) ?_
 rintro e5 w5 ⟨rfl, g5⟩
 refine ⟨_, rfl, ?_⟩
 replace hB := hB.trans g5
 simp only [p3, p4]
 refine sw 29 (.bool true) rfl (RunV.bool (x := (ck1 (X) != (0 : Int))) (rvk (by kernel_rfl)) cx) ?_
 simp only [p3, p4]
 refine sv 30 (.bool true) ?_
 simp only [p3, p4]
 refine sv 31 (.bool true) ?_
 simp only [p3, p4]
 refine ss 32 ?_
 simp only [p3, p4]
 refine ss 33 ?_
 simp only [p3, p4]
 refine ss 34 ?_
 simp only [p3, p4]
 refine sv 35 (.bool true) ?_
 simp only [p3, p4]
 refine sq_nil ?_
 refine k3 _ _ ?_
 try clear k3 K3
 refine wp_cond_true rfl ?_
 refine wp_seq_k (fun K6 k6 => ?_)
 refine rg [0, 1] ?_
 refine se ?_
 refine ec 36 (known2 _ (ht.gr hB)) ?_
 rintro e7 w7 ⟨rfl, g7⟩
 refine ⟨_, rfl, ?_⟩
 replace hB := hB.trans g7
 simp only [p3, p4]
 refine sv 4 (.bool true) ?_
 simp only [p3, p4]
 refine sq_nil ?_
 refine k6 _ _ ?_
 try clear k6 K6
 refine wp_ret ?_
 simp only [Exit.then]
 refine bodyPost_ret (v := (.bool true)) (ret_tmp rfl rfl) rfl ⟨?_, hB⟩
 exact rfl

set_option maxRecDepth 100000 in
set_option maxHeartbeats 1000000 in
theorem makes_b4 (X Y : List UInt8) (_h0 : X.length ≤ 40) (_h1 : Y.length ≤ 40) (c0x : ck1 X = 0) (c0 : ck1 Y ≠ 0) (w : World) (ht : Tab w) :
    Calls Tryz.prog 3 #[(.string ⟨(X : List UInt8).toArray⟩), (.string ⟨(Y : List UInt8).toArray⟩)] w fun e w' => e = .returned (.bool true) ∧ Gr w w' := by
 have lx : decide ((40 : Int) < (X.length : Int)) = false := by simp; omega
 have ly : decide ((40 : Int) < (Y.length : Int)) = false := by simp; omega
 have cx : (ck1 X != (0 : Int)) = false := by rw [c0x]; rfl
 have cy : (ck1 Y != (0 : Int)) = true := by simpa using c0
 go_enter Tryz.func3, Tryz.ntmps3
 have hB := Gr.refl w
 refine wp_seq_k (fun K1 k1 => ?_)
 refine rg [0] ?_
 refine sv 4 (.bool false) ?_
 simp only [p3, p4]
 refine sq_nil ?_
 refine k1 _ _ ?_
 try clear k1 K1
 refine wp_seq_k (fun K2 k2 => ?_)
 refine wp_seq_k (fun K3 k3 => ?_)
 refine rg [0, 1, 2, 3, 4, 5, 6, 7, 8, 9, 10, 11, 12, 13, 14, 15, 16, 17, 18, 19, 20, 21] ?_
 refine se ?_
 refine ec 14 (known2 _ (ht.gr hB)) ?_
 rintro e4 w4 ⟨rfl, g4⟩
 refine ⟨_, rfl, ?_⟩
 replace hB := hB.trans g4
 simp only [p3, p4]
 refine sv 15 (.bool false) ?_
 simp only [p3, p4]
 refine sv 16 (.bool false) ?_
 simp only [p3, p4]
 refine sv 17 (.string ⟨(X : List UInt8).toArray⟩) ?_
 simp only [p3, p4]
 refine sv 18 (.int .i64 (((X).length : Int))) ?_
 simp only [p3, p4]
 refine sw 19 (.bool false) rfl (RunV.bool (x := decide ((40 : Int) < ((X).length : Int))) (rvk (by kernel_rfl)) lx) ?_
 simp only [p3, p4]
 refine sv 20 (.bool false) ?_
 simp only [p3, p4]
 refine sv 21 (.bool false) ?_
 simp only [p3, p4]
 refine sv 22 (.string ⟨(Y : List UInt8).toArray⟩) ?_
 simp only [p3, p4]
 refine sv 23 (.int .i64 (((Y).length : Int))) ?_
 simp only [p3, p4]
 refine sw 24 (.bool false) rfl (RunV.bool (x := decide ((40 : Int) < ((Y).length : Int))) (rvk (by kernel_rfl)) ly) ?_
 simp only [p3, p4]
 refine sv 25 (.bool false) ?_
 simp only [p3, p4]
 refine sv 26 (.bool false) ?_
 simp only [p3, p4]
 refine sv 27 (.string ⟨(X : List UInt8).toArray⟩) ?_
 simp only [p3, p4]
 refine se ?_
 refine ec 28 (r1_check_l (X) (by omega) _) ?_
 rintro e5 w5 ⟨rfl, g5⟩
 refine ⟨_, rfl, ?_⟩
 replace hB := hB.trans g5
 simp only [p3, p4]
 refine sw 29 (.bool false) rfl (RunV.bool (x := (ck1 (X) != (0 : Int))) (rvk (by kernel_rfl)) cx) ?_
 simp only [p3, p4]
 refine sv 30 (.bool false) ?_
 simp only [p3, p4]
 refine sv 31 (.bool false) ?_
 simp only [p3, p4]
 refine sv 32 (.string ⟨(Y : List UInt8).toArray⟩) ?_
 simp only [p3, p4]
 refine se ?_
 refine ec 33 (r1_check_l (Y) (by omega) _) ?_
 rintro e6 w6 ⟨rfl, g6⟩
 refine ⟨_, rfl, ?_⟩
 replace hB := hB.trans g6
 simp only [p3, p4]
 refine sw 34 (.bool true) rfl (RunV.bool (x := (ck1 (Y) != (0 : Int))) (rvk (by kernel_rfl)) cy) ?_
 simp only [p3, p4]
 refine sv 35 (.bool true) ?_
 simp only [p3, p4]
 refine sq_nil ?_
 refine k3 _ _ ?_
 try clear k3 K3
 refine wp_cond_true rfl ?_
 refine wp_seq_k (fun K7 k7 => ?_)
 refine rg [0, 1] ?_
 refine se ?_
 refine ec 36 (known2 _ (ht.gr hB)) ?_
 rintro e8 w8 ⟨rfl, g8⟩
 refine ⟨_, rfl, ?_⟩
 replace hB := hB.trans g8
 simp only [p3, p4]
 refine sv 4 (.bool true) ?_
 simp only [p3, p4]
 refine sq_nil ?_
 refine k7 _ _ ?_
 try clear k7 K7
 refine wp_ret ?_
 simp only [Exit.then]
 refine bodyPost_ret (v := (.bool true)) (ret_tmp rfl rfl) rfl ⟨?_, hB⟩
 exact rfl

theorem lawMk0  : (ratL (0) == ([48] : List UInt8)) = true := ratL_litw (by kernel_rfl) (itoa_litp 0 (by kernel_rfl) (by decide))
set_option maxRecDepth 100000 in
set_option maxHeartbeats 4000000 in
theorem makes_0 (x : Int) (_h0 : (Lib.itoa x).length ≤ 40) (_h1 : (Lib.itoa 0).length ≤ 40) (c0x : ck1 (Lib.itoa x) = 0) (c0y : ck1 (Lib.itoa 0) = 0) (hx : Sz 160 x) (w : World) (ht : Tab w) :
    Calls Tryz.prog 3 #[(.string ⟨(Lib.itoa (x) : List UInt8).toArray⟩), (.string ⟨(Lib.itoa (0) : List UInt8).toArray⟩)] w fun e w' => e = .returned (.bool true) ∧ Gr w w' := by
 have lx : decide ((40 : Int) < ((Lib.itoa (x)).length : Int)) = false := by simp; omega
 have ly : decide ((40 : Int) < ((Lib.itoa (0)).length : Int)) = false := by simp; omega
 have cx : (ck1 (Lib.itoa (x)) != (0 : Int)) = false := by rw [c0x]; rfl
 have cy : (ck1 (Lib.itoa (0)) != (0 : Int)) = false := by rw [c0y]; rfl
 have ey : ((Lib.itoa (0)) == ([48] : List UInt8)) = true := text_lit (itoa_litp 0 (by kernel_rfl) (by decide))
 go_enter Tryz.func3, Tryz.ntmps3
 have hB := Gr.refl w
 refine wp_seq_k (fun K1 k1 => ?_)
 refine rg [0] ?_
 refine sv 4 (.bool false) ?_
 simp only [p3, p4]
 refine sq_nil ?_
 refine k1 _ _ ?_
 try clear k1 K1
 refine wp_seq_k (fun K2 k2 => ?_)
 refine wp_seq_k (fun K3 k3 => ?_)
 refine rg [0, 1, 2, 3, 4, 5, 6, 7, 8, 9, 10, 11, 12, 13, 14, 15, 16, 17, 18, 19, 20, 21] ?_
 refine se ?_
 refine ec 14 (known2 _ (ht.gr hB)) ?_
 rintro e4 w4 ⟨rfl, g4⟩
 refine ⟨_, rfl, ?_⟩
 replace hB := hB.trans g4
 simp only [p3, p4]
 refine sv 15 (.bool false) ?_
 simp only [p3, p4]
 refine sv 16 (.bool false) ?_
 simp only [p3, p4]
 refine sv 17 (.string ⟨(Lib.itoa (x) : List UInt8).toArray⟩) ?_
 simp only [p3, p4]
 refine sv 18 (.int .i64 (((Lib.itoa (x)).length : Int))) ?_
 simp only [p3, p4]
 refine sw 19 (.bool false) rfl (RunV.bool (x := decide ((40 : Int) < ((Lib.itoa (x)).length : Int))) (rvk (by kernel_rfl)) lx) ?_
 simp only [p3, p4]
 refine sv 20 (.bool false) ?_
 simp only [p3, p4]
 refine sv 21 (.bool false) ?_
 simp only [p3, p4]
 refine sv 22 (.string ⟨(Lib.itoa (0) : List UInt8).toArray⟩) ?_
 simp only [p3, p4]
 refine sv 23 (.int .i64 (((Lib.itoa (0)).length : Int))) ?_
 simp only [p3, p4]
 refine sw 24 (.bool false) rfl (RunV.bool (x := decide ((40 : Int) < ((Lib.itoa (0)).length : Int))) (rvk (by kernel_rfl)) ly) ?_
 simp only [p3, p4]
 refine sv 25 (.bool false) ?_
 simp only [p3, p4]
 refine sv 26 (.bool false) ?_
 simp only [p3, p4]
 refine sv 27 (.string ⟨(Lib.itoa (x) : List UInt8).toArray⟩) ?_
 simp only [p3, p4]
 refine se ?_
 refine ec 28 (r1_check_l (Lib.itoa (x)) (by omega) _) ?_
 rintro e5 w5 ⟨rfl, g5⟩
 refine ⟨_, rfl, ?_⟩
 replace hB := hB.trans g5
 simp only [p3, p4]
 refine sw 29 (.bool false) rfl (RunV.bool (x := (ck1 (Lib.itoa (x)) != (0 : Int))) (rvk (by kernel_rfl)) cx) ?_
 simp only [p3, p4]
 refine sv 30 (.bool false) ?_
 simp only [p3, p4]
 refine sv 31 (.bool false) ?_
 simp only [p3, p4]
 refine sv 32 (.string ⟨(Lib.itoa (0) : List UInt8).toArray⟩) ?_
 simp only [p3, p4]
 refine se ?_
 refine ec 33 (r1_check_l (Lib.itoa (0)) (by omega) _) ?_
 rintro e6 w6 ⟨rfl, g6⟩
 refine ⟨_, rfl, ?_⟩
 replace hB := hB.trans g6
 simp only [p3, p4]
 refine sw 34 (.bool false) rfl (RunV.bool (x := (ck1 (Lib.itoa (0)) != (0 : Int))) (rvk (by kernel_rfl)) cy) ?_
 simp only [p3, p4]
 refine sv 35 (.bool false) ?_
 simp only [p3, p4]
 refine sq_nil ?_
 refine k3 _ _ ?_
 try clear k3 K3
 refine wp_cond_false rfl ?_
 refine wp_skip ?_
 refine k2 _ _ ?_
 try clear k2 K2
 refine wp_seq_k (fun K7 k7 => ?_)
 refine rg [0, 1, 2, 3, 4, 5, 6, 7] ?_
 refine sv 38 (.string ⟨(Lib.itoa (x) : List UInt8).toArray⟩) ?_
 simp only [p3, p4]
 refine se ?_
 refine ec 39 (parse_i (x) hx (by omega) _) ?_
 rintro e8 w8 ⟨⟨x8, y8, rfl, h8⟩, g8⟩
 refine ⟨_, rfl, ?_⟩
 replace hB := hB.trans g8
 simp only [p3, p4]
 refine sv 37 (.tuple #[(.agg #[x8, y8]), (.int .i64 0)]) ?_
 simp only [p3, p4]
 refine sv 40 (.agg #[x8, y8]) ?_
 simp only [p3, p4]
 refine sv 41 (.int .i64 0) ?_
 simp only [p3, p4]
 refine se ?_
 refine ea 27 #[(.bool false), (.slice none 0 0)] 5 hB fun b9 w9 g9 L9 o9 q9 hB => ?_
 simp only [p3, p4]
 refine se ?_
 refine es 27 0 (.agg #[x8, y8]) [x8, y8] #[x8, y8] L9 hB q9 ⟨h8.one0, h8.one1, trivial⟩ fun w10 st10 kp10 L9 hB => ?_
 refine sv 6 (.int .i64 0) ?_
 simp only [p3, p4]
 refine sq_nil ?_
 refine k7 _ _ ?_
 try clear k7 K7
 refine wp_seq_k (fun K11 k11 => ?_)
 refine rg [0, 1, 2, 3, 4, 5, 6, 7] ?_
 refine sv 43 (.string ⟨(Lib.itoa (0) : List UInt8).toArray⟩) ?_
 simp only [p3, p4]
 refine se ?_
 refine ec 44 (parse_i (0) (Sz.zero 160) (by omega) _) ?_
 rintro e12 w12 ⟨⟨x12, y12, rfl, h12⟩, g12⟩
 refine ⟨_, rfl, ?_⟩
 replace hB := hB.trans g12
 simp only [p3, p4]
 refine sv 42 (.tuple #[(.agg #[x12, y12]), (.int .i64 0)]) ?_
 simp only [p3, p4]
 refine sv 45 (.agg #[x12, y12]) ?_
 simp only [p3, p4]
 refine sv 46 (.int .i64 0) ?_
 simp only [p3, p4]
 refine se ?_
 refine ea 27 #[(.bool false), (.slice none 0 0)] 7 hB fun b13 w13 g13 L13 o13 q13 hB => ?_
 replace L9 := L9.gr g12
 have ne9_13 := L9.ne o13
 simp only [p3, p4]
 refine se ?_
 refine es 27 0 (.agg #[x12, y12]) [x12, y12] #[x12, y12] L13 hB q13 ⟨h12.one0, h12.one1, trivial⟩ fun w14 st14 kp14 L13 hB => ?_
 refine sv 8 (.int .i64 0) ?_
 simp only [p3, p4]
 refine sq_nil ?_
 refine k11 _ _ ?_
 try clear k11 K11
 refine wp_seq_k (fun K15 k15 => ?_)
 refine rg [0, 1, 2, 3, 4, 5, 6, 7, 8] ?_
 replace L9 := st14.lc (L9.gr g13) ne9_13
 refine sw 48 (.agg #[x8, y8]) rfl (rl 27 0 [x8, y8] L9) ?_
 simp only [p3, p4]
 refine sw 49 (.agg #[x12, y12]) rfl (rl 27 0 [x12, y12] L13) ?_
 simp only [p3, p4]
 refine se ?_
 have kq17 := g9.kp.trans (kp10.trans (g12.kp.trans (g13.kp.trans kp14)))
 replace h8 := h8.kp kq17
 have kq18 := g13.kp.trans kp14
 replace h12 := h12.kp kq18
 refine ec 50 (make_0 h8 h12) ?_
 rintro e16 w16 ⟨rfl, g16⟩
 refine ⟨_, rfl, ?_⟩
 replace hB := hB.trans g16
 simp only [p3, p4]
 refine sv 47 (.tuple #[(.agg #[(.bool false), (.slice none 0 0), (.bool false), (.slice none 0 0)]), (.int .i64 19)]) ?_
 simp only [p3, p4]
 refine sv 51 (.agg #[(.bool false), (.slice none 0 0), (.bool false), (.slice none 0 0)]) ?_
 simp only [p3, p4]
 refine sv 52 (.int .i64 19) ?_
 simp only [p3, p4]
 refine se ?_
 refine ea 31 #[(.bool false), (.slice none 0 0), (.bool false), (.slice none 0 0)] 9 hB fun b19 w19 g19 L19 o19 q19 hB => ?_
 simp only [p3, p4]
 refine se ?_
 refine es 31 0 (.agg #[(.bool false), (.slice none 0 0), (.bool false), (.slice none 0 0)]) [(.bool false), (.slice none 0 0), (.bool false), (.slice none 0 0)] #[(.bool false), (.slice none 0 0), (.bool false), (.slice none 0 0)] L19 hB q19 ⟨rfl, rfl, rfl, rfl, trivial⟩ fun w20 st20 kp20 L19 hB => ?_
 refine sv 10 (.int .i64 19) ?_
 simp only [p3, p4]
 refine sq_nil ?_
 refine k15 _ _ ?_
 try clear k15 K15
 refine wp_seq_k (fun K21 k21 => ?_)
 refine wp_seq_k (fun K22 k22 => ?_)
 refine rg [0, 1] ?_
 refine sv 53 (.string ⟨(Lib.itoa (0) : List UInt8).toArray⟩) ?_
 simp only [p3, p4]
 refine sw 54 (.bool true) rfl (RunV.bool (x := ((Lib.itoa (0)) == ([48] : List UInt8))) (rv_seq 9 9 _ _ (Lib.itoa (0)) ([48]) rfl rfl rfl) ey) ?_
 simp only [p3, p4]
 refine sq_nil ?_
 refine k22 _ _ ?_
 try clear k22 K22
 refine wp_cond_true rfl ?_
 refine wp_seq_k (fun K23 k23 => ?_)
 refine rg [0, 1, 2, 3, 4, 5, 6] ?_
 refine sv 55 (.int .i64 19) ?_
 simp only [p3, p4]
 refine sv 56 (.bool true) ?_
 simp only [p3, p4]
 refine sv 57 (.bool true) ?_
 simp only [p3, p4]
 refine sw 58 (.agg #[(.bool false), (.slice none 0 0), (.bool false), (.slice none 0 0)]) rfl (rl 31 0 [(.bool false), (.slice none 0 0), (.bool false), (.slice none 0 0)] L19) ?_
 simp only [p3, p4]
 refine se ?_
 refine ec 59 (is_m ([48]) (IsRat.zero _ (k := 64) (Nat.le_refl _)) (by omega) (ht.gr hB)) ?_
 rintro e24 w24 ⟨rfl, g24⟩
 refine ⟨_, rfl, ?_⟩
 replace hB := hB.trans g24
 simp only [p3, p4]
 have hb25 : ((ratL (0)) == (([48] : List UInt8))) = true := (lawMk0  )
 refine sw 60 (.bool true) rfl (RunV.bool (x := (ratL (0)) == (([48] : List UInt8))) (rvk (by kernel_rfl)) hb25) ?_
 simp only [p3, p4]
 refine sv 4 (.bool true) ?_
 simp only [p3, p4]
 refine sq_nil ?_
 refine k23 _ _ ?_
 try clear k23 K23
 refine wp_ret ?_
 simp only [Exit.then]
 refine bodyPost_ret (v := (.bool true)) (ret_tmp rfl rfl) rfl ⟨?_, hB⟩
 exact rfl

set_option maxRecDepth 100000 in
set_option maxHeartbeats 4000000 in
theorem makes_a (x y : Int) (q : Rat) (eq : q = Rat.divInt x y) (_h0 : (Lib.itoa x).length ≤ 40) (_h1 : (Lib.itoa y).length ≤ 40) (c0x : ck1 (Lib.itoa x) = 0) (c0y : ck1 (Lib.itoa y) = 0) (hx : Sz 160 x) (hy : Sz 160 y) (hy0 : y ≠ 0) (hq : Sz 160 q.num ∧ Sz 160 (q.den : Int)) (w : World) (ht : Tab w) :
    Calls Tryz.prog 3 #[(.string ⟨(Lib.itoa (x) : List UInt8).toArray⟩), (.string ⟨(Lib.itoa (y) : List UInt8).toArray⟩)] w fun e w' => e = .returned (.bool true) ∧ Gr w w' := by
 have lx : decide ((40 : Int) < ((Lib.itoa (x)).length : Int)) = false := by simp; omega
 have ly : decide ((40 : Int) < ((Lib.itoa (y)).length : Int)) = false := by simp; omega
 have cx : (ck1 (Lib.itoa (x)) != (0 : Int)) = false := by rw [c0x]; rfl
 have cy : (ck1 (Lib.itoa (y)) != (0 : Int)) = false := by rw [c0y]; rfl
 have ey : ((Lib.itoa (y)) == ([48] : List UInt8)) = false := ne_zero_beq hy0
 go_enter Tryz.func3, Tryz.ntmps3
 have hB := Gr.refl w
 refine wp_seq_k (fun K1 k1 => ?_)
 refine rg [0] ?_
 refine sv 4 (.bool false) ?_
 simp only [p3, p4]
 refine sq_nil ?_
 refine k1 _ _ ?_
 try clear k1 K1
 refine wp_seq_k (fun K2 k2 => ?_)
 refine wp_seq_k (fun K3 k3 => ?_)
 refine rg [0, 1, 2, 3, 4, 5, 6, 7, 8, 9, 10, 11, 12, 13, 14, 15, 16, 17, 18, 19, 20, 21] ?_
 refine se ?_
 refine ec 14 (known2 _ (ht.gr hB)) ?_
 rintro e4 w4 ⟨rfl, g4⟩
 refine ⟨_, rfl, ?_⟩
 replace hB := hB.trans g4
 simp only [p3, p4]
 refine sv 15 (.bool false) ?_
 simp only [p3, p4]
 refine sv 16 (.bool false) ?_
 simp only [p3, p4]
 refine sv 17 (.string ⟨(Lib.itoa (x) : List UInt8).toArray⟩) ?_
 simp only [p3, p4]
 refine sv 18 (.int .i64 (((Lib.itoa (x)).length : Int))) ?_
 simp only [p3, p4]
 refine sw 19 (.bool false) rfl (RunV.bool (x := decide ((40 : Int) < ((Lib.itoa (x)).length : Int))) (rvk (by kernel_rfl)) lx) ?_
 simp only [p3, p4]
 refine sv 20 (.bool false) ?_
 simp only [p3, p4]
 refine sv 21 (.bool false) ?_
 simp only [p3, p4]
 refine sv 22 (.string ⟨(Lib.itoa (y) : List UInt8).toArray⟩) ?_
 simp only [p3, p4]
 refine sv 23 (.int .i64 (((Lib.itoa (y)).length : Int))) ?_
 simp only [p3, p4]
 refine sw 24 (.bool false) rfl (RunV.bool (x := decide ((40 : Int) < ((Lib.itoa (y)).length : Int))) (rvk (by kernel_rfl)) ly) ?_
 simp only [p3, p4]
 refine sv 25 (.bool false) ?_
 simp only [p3, p4]
 refine sv 26 (.bool false) ?_
 simp only [p3, p4]
 refine sv 27 (.string ⟨(Lib.itoa (x) : List UInt8).toArray⟩) ?_
 simp only [p3, p4]
 refine se ?_
 refine ec 28 (r1_check_l (Lib.itoa (x)) (by omega) _) ?_
 rintro e5 w5 ⟨rfl, g5⟩
 refine ⟨_, rfl, ?_⟩
 replace hB := hB.trans g5
 simp only [p3, p4]
 refine sw 29 (.bool false) rfl (RunV.bool (x := (ck1 (Lib.itoa (x)) != (0 : Int))) (rvk (by kernel_rfl)) cx) ?_
 simp only [p3, p4]
 refine sv 30 (.bool false) ?_
 simp only [p3, p4]
 refine sv 31 (.bool false) ?_
 simp only [p3, p4]
 refine sv 32 (.string ⟨(Lib.itoa (y) : List UInt8).toArray⟩) ?_
 simp only [p3, p4]
 refine se ?_
 refine ec 33 (r1_check_l (Lib.itoa (y)) (by omega) _) ?_
 rintro e6 w6 ⟨rfl, g6⟩
 refine ⟨_, rfl, ?_⟩
 replace hB := hB.trans g6
 simp only [p3, p4]
 refine sw 34 (.bool false) rfl (RunV.bool (x := (ck1 (Lib.itoa (y)) != (0 : Int))) (rvk (by kernel_rfl)) cy) ?_
 simp only [p3, p4]
 refine sv 35 (.bool false) ?_
 simp only [p3, p4]
 refine sq_nil ?_
 refine k3 _ _ ?_
 try clear k3 K3
 refine wp_cond_false rfl ?_
 refine wp_skip ?_
 refine k2 _ _ ?_
 try clear k2 K2
 refine wp_seq_k (fun K7 k7 => ?_)
 refine rg [0, 1, 2, 3, 4, 5, 6, 7] ?_
 refine sv 38 (.string ⟨(Lib.itoa (x) : List UInt8).toArray⟩) ?_
 simp only [p3, p4]
 refine se ?_
 refine ec 39 (parse_i (x) hx (by omega) _) ?_
 rintro e8 w8 ⟨⟨x8, y8, rfl, h8⟩, g8⟩
 refine ⟨_, rfl, ?_⟩
 replace hB := hB.trans g8
 simp only [p3, p4]
 refine sv 37 (.tuple #[(.agg #[x8, y8]), (.int .i64 0)]) ?_
 simp only [p3, p4]
 refine sv 40 (.agg #[x8, y8]) ?_
 simp only [p3, p4]
 refine sv 41 (.int .i64 0) ?_
 simp only [p3, p4]
 refine se ?_
 refine ea 27 #[(.bool false), (.slice none 0 0)] 5 hB fun b9 w9 g9 L9 o9 q9 hB => ?_
 simp only [p3, p4]
 refine se ?_
 refine es 27 0 (.agg #[x8, y8]) [x8, y8] #[x8, y8] L9 hB q9 ⟨h8.one0, h8.one1, trivial⟩ fun w10 st10 kp10 L9 hB => ?_
 refine sv 6 (.int .i64 0) ?_
 simp only [p3, p4]
 refine sq_nil ?_
 refine k7 _ _ ?_
 try clear k7 K7
 refine wp_seq_k (fun K11 k11 => ?_)
 refine rg [0, 1, 2, 3, 4, 5, 6, 7] ?_
 refine sv 43 (.string ⟨(Lib.itoa (y) : List UInt8).toArray⟩) ?_
 simp only [p3, p4]
 refine se ?_
 refine ec 44 (parse_i (y) hy (by omega) _) ?_
 rintro e12 w12 ⟨⟨x12, y12, rfl, h12⟩, g12⟩
 refine ⟨_, rfl, ?_⟩
 replace hB := hB.trans g12
 simp only [p3, p4]
 refine sv 42 (.tuple #[(.agg #[x12, y12]), (.int .i64 0)]) ?_
 simp only [p3, p4]
 refine sv 45 (.agg #[x12, y12]) ?_
 simp only [p3, p4]
 refine sv 46 (.int .i64 0) ?_
 simp only [p3, p4]
 refine se ?_
 refine ea 27 #[(.bool false), (.slice none 0 0)] 7 hB fun b13 w13 g13 L13 o13 q13 hB => ?_
 replace L9 := L9.gr g12
 have ne9_13 := L9.ne o13
 simp only [p3, p4]
 refine se ?_
 refine es 27 0 (.agg #[x12, y12]) [x12, y12] #[x12, y12] L13 hB q13 ⟨h12.one0, h12.one1, trivial⟩ fun w14 st14 kp14 L13 hB => ?_
 refine sv 8 (.int .i64 0) ?_
 simp only [p3, p4]
 refine sq_nil ?_
 refine k11 _ _ ?_
 try clear k11 K11
 refine wp_seq_k (fun K15 k15 => ?_)
 refine rg [0, 1, 2, 3, 4, 5, 6, 7, 8] ?_
 replace L9 := st14.lc (L9.gr g13) ne9_13
 refine sw 48 (.agg #[x8, y8]) rfl (rl 27 0 [x8, y8] L9) ?_
 simp only [p3, p4]
 refine sw 49 (.agg #[x12, y12]) rfl (rl 27 0 [x12, y12] L13) ?_
 simp only [p3, p4]
 refine se ?_
 have kq17 := g9.kp.trans (kp10.trans (g12.kp.trans (g13.kp.trans kp14)))
 replace h8 := h8.kp kq17
 have kq18 := g13.kp.trans kp14
 replace h12 := h12.kp kq18
 refine ec 50 (make_a 160 h8 h12 hy0 (by omega) (by omega) (by omega) (by omega)) ?_
 rintro e16 w16 ⟨⟨p16, q16, r16, s16, rfl, h16⟩, g16⟩
 refine ⟨_, rfl, ?_⟩
 replace hB := hB.trans g16
 rw [← eq] at h16
 simp only [p3, p4]
 refine sv 47 (.tuple #[(.agg #[p16, q16, r16, s16]), (.int .i64 0)]) ?_
 simp only [p3, p4]
 refine sv 51 (.agg #[p16, q16, r16, s16]) ?_
 simp only [p3, p4]
 refine sv 52 (.int .i64 0) ?_
 simp only [p3, p4]
 refine se ?_
 refine ea 31 #[(.bool false), (.slice none 0 0), (.bool false), (.slice none 0 0)] 9 hB fun b19 w19 g19 L19 o19 q19 hB => ?_
 simp only [p3, p4]
 refine se ?_
 refine es 31 0 (.agg #[p16, q16, r16, s16]) [p16, q16, r16, s16] #[p16, q16, r16, s16] L19 hB q19 ⟨h16.one0, h16.one1, h16.one2, h16.one3, trivial⟩ fun w20 st20 kp20 L19 hB => ?_
 refine sv 10 (.int .i64 0) ?_
 simp only [p3, p4]
 refine sq_nil ?_
 refine k15 _ _ ?_
 try clear k15 K15
 refine wp_seq_k (fun K21 k21 => ?_)
 refine wp_seq_k (fun K22 k22 => ?_)
 refine rg [0, 1] ?_
 refine sv 53 (.string ⟨(Lib.itoa (y) : List UInt8).toArray⟩) ?_
 simp only [p3, p4]
 refine sw 54 (.bool false) rfl (RunV.bool (x := ((Lib.itoa (y)) == ([48] : List UInt8))) (rv_seq 9 9 _ _ (Lib.itoa (y)) ([48]) rfl rfl rfl) ey) ?_
 simp only [p3, p4]
 refine sq_nil ?_
 refine k22 _ _ ?_
 try clear k22 K22
 refine wp_cond_false rfl ?_
 refine wp_skip ?_
 refine k21 _ _ ?_
 try clear k21 K21
 refine wp_seq_k (fun K23 k23 => ?_)
 refine rg [0, 1, 2, 3] ?_
 refine sv 61 (.string ⟨(Lib.itoa (x) : List UInt8).toArray⟩) ?_
 simp only [p3, p4]
 refine sv 62 (.string ⟨(Lib.itoa (y) : List UInt8).toArray⟩) ?_
 simp only [p3, p4]
 refine se ?_
 refine ec 63 (r2_text_q (x) (y) q eq hx hy hy0 (by omega) _) ?_
 rintro e24 w24 ⟨rfl, g24⟩
 refine ⟨_, rfl, ?_⟩
 replace hB := hB.trans g24
 simp only [p3, p4]
 refine sv 11 (.string ⟨(ratL (q) : List UInt8).toArray⟩) ?_
 simp only [p3, p4]
 refine sq_nil ?_
 refine k23 _ _ ?_
 try clear k23 K23
 refine wp_seq_k (fun K25 k25 => ?_)
 refine rg [0, 1, 2, 3, 4, 5, 6] ?_
 refine sv 65 (.string ⟨(ratL (q) : List UInt8).toArray⟩) ?_
 simp only [p3, p4]
 refine se ?_
 refine ec 66 (r2_parts_q q hq.1 hq.2 (by omega) _) ?_
 rintro e26 w26 ⟨rfl, g26⟩
 refine ⟨_, rfl, ?_⟩
 replace hB := hB.trans g26
 simp only [p3, p4]
 refine sv 64 (.tuple #[(.string ⟨(Lib.itoa (q.num) : List UInt8).toArray⟩), (.string ⟨(Lib.itoa ((q.den : Int)) : List UInt8).toArray⟩)]) ?_
 simp only [p3, p4]
 refine sv 67 (.string ⟨(Lib.itoa (q.num) : List UInt8).toArray⟩) ?_
 simp only [p3, p4]
 refine sv 68 (.string ⟨(Lib.itoa ((q.den : Int)) : List UInt8).toArray⟩) ?_
 simp only [p3, p4]
 refine sv 12 (.string ⟨(Lib.itoa (q.num) : List UInt8).toArray⟩) ?_
 simp only [p3, p4]
 refine sv 13 (.string ⟨(Lib.itoa ((q.den : Int)) : List UInt8).toArray⟩) ?_
 simp only [p3, p4]
 refine sq_nil ?_
 refine k25 _ _ ?_
 try clear k25 K25
 refine wp_seq_k (fun K27 k27 => ?_)
 refine rg [0, 1, 2, 3, 4, 5, 6, 7, 8, 9, 10, 11, 12, 13, 14, 15, 16, 17, 18, 19, 20, 21, 22, 23, 24, 25, 26, 27, 28, 29] ?_
 refine sv 69 (.int .i64 0) ?_
 simp only [p3, p4]
 refine sv 70 (.bool true) ?_
 simp only [p3, p4]
 refine sv 71 (.bool true) ?_
 simp only [p3, p4]
 refine sv 72 (.int .i64 0) ?_
 simp only [p3, p4]
 refine sv 73 (.bool true) ?_
 simp only [p3, p4]
 refine sv 74 (.bool true) ?_
 simp only [p3, p4]
 refine sv 75 (.bool true) ?_
 simp only [p3, p4]
 refine sv 76 (.int .i64 0) ?_
 simp only [p3, p4]
 refine sv 77 (.bool true) ?_
 simp only [p3, p4]
 refine sv 78 (.bool true) ?_
 simp only [p3, p4]
 refine sv 79 (.bool true) ?_
 simp only [p3, p4]
 replace L19 := L19.gr (g24.trans g26)
 refine sw 80 (.agg #[p16, q16, r16, s16]) rfl (rl 31 0 [p16, q16, r16, s16] L19) ?_
 simp only [p3, p4]
 refine sv 81 (.string ⟨(ratL (q) : List UInt8).toArray⟩) ?_
 simp only [p3, p4]
 refine se ?_
 have kq29 := g19.kp.trans (kp20.trans (g24.kp.trans g26.kp))
 replace h16 := h16.kp kq29
 refine ec 82 (is_m (ratL (q)) h16 (by omega) (ht.gr hB)) ?_
 rintro e28 w28 ⟨rfl, g28⟩
 refine ⟨_, rfl, ?_⟩
 replace hB := hB.trans g28
 simp only [p3, p4]
 have hb30 : ((ratL (q)) == (ratL (q))) = true := (text_lit rfl)
 refine sw 83 (.bool true) rfl (RunV.bool (x := (ratL (q)) == (ratL (q))) (rvk (by kernel_rfl)) hb30) ?_
 simp only [p3, p4]
 refine sv 84 (.bool true) ?_
 simp only [p3, p4]
 replace L19 := L19.gr g28
 refine sw 85 (.agg #[p16, q16, r16, s16]) rfl (rl 31 0 [p16, q16, r16, s16] L19) ?_
 simp only [p3, p4]
 refine se ?_
 replace h16 := h16.kp g28.kp
 refine ec 86 (num_r h16) ?_
 rintro e31 w31 ⟨⟨x31, y31, rfl, h31⟩, g31⟩
 refine ⟨_, rfl, ?_⟩
 replace hB := hB.trans g31
 simp only [p3, p4]
 refine se ?_
 refine ec 87 (text_i h31 (by omega) (ht.gr hB)) ?_
 rintro e32 w32 ⟨rfl, g32⟩
 refine ⟨_, rfl, ?_⟩
 replace hB := hB.trans g32
 simp only [p3, p4]
 refine sv 88 (.string ⟨(Lib.itoa (q.num) : List UInt8).toArray⟩) ?_
 simp only [p3, p4]
 have hb33 : (((Lib.itoa (q.num)) == (Lib.itoa (q.num)))) = true := (text_lit rfl)
 refine sw 89 (.bool true) rfl (RunV.bool (x := ((Lib.itoa (q.num)) == (Lib.itoa (q.num)))) (rv_seq 9 9 _ _ (Lib.itoa (q.num)) (Lib.itoa (q.num)) rfl rfl rfl) hb33) ?_
 simp only [p3, p4]
 refine sv 90 (.bool true) ?_
 simp only [p3, p4]
 refine sv 91 (.bool true) ?_
 simp only [p3, p4]
 replace L19 := L19.gr (g31.trans g32)
 refine sw 92 (.agg #[p16, q16, r16, s16]) rfl (rl 31 0 [p16, q16, r16, s16] L19) ?_
 simp only [p3, p4]
 refine se ?_
 have kq35 := g31.kp.trans g32.kp
 replace h16 := h16.kp kq35
 refine ec 93 (den_i h16) ?_
 rintro e34 w34 ⟨⟨x34, y34, rfl, h34⟩, g34⟩
 refine ⟨_, rfl, ?_⟩
 replace hB := hB.trans g34
 simp only [p3, p4]
 refine se ?_
 refine ec 94 (text_i h34 (by omega) (ht.gr hB)) ?_
 rintro e36 w36 ⟨rfl, g36⟩
 refine ⟨_, rfl, ?_⟩
 replace hB := hB.trans g36
 simp only [p3, p4]
 refine sv 95 (.string ⟨(Lib.itoa ((q.den : Int)) : List UInt8).toArray⟩) ?_
 simp only [p3, p4]
 have hb37 : (((Lib.itoa ((q.den : Int))) == (Lib.itoa ((q.den : Int))))) = true := (text_lit rfl)
 refine sw 96 (.bool true) rfl (RunV.bool (x := ((Lib.itoa ((q.den : Int))) == (Lib.itoa ((q.den : Int))))) (rv_seq 9 9 _ _ (Lib.itoa ((q.den : Int))) (Lib.itoa ((q.den : Int))) rfl rfl rfl) hb37) ?_
 simp only [p3, p4]
 refine sv 97 (.bool true) ?_
 simp only [p3, p4]
 refine sv 4 (.bool true) ?_
 simp only [p3, p4]
 refine sq_nil ?_
 refine k27 _ _ ?_
 try clear k27 K27
 refine wp_ret ?_
 refine bodyPost_ret (v := (.bool true)) (ret_tmp rfl rfl) rfl ⟨?_, hB⟩
 exact rfl

theorem rational_makes (X Y : List UInt8) (w : World) (ht : Tab w) :
    Calls Tryz.prog 3 #[(.string ⟨(X : List UInt8).toArray⟩), (.string ⟨(Y : List UInt8).toArray⟩)] w fun e w' => e = .returned (.bool true) ∧ Gr w w' := by
  by_cases h0 : X.length ≤ 40
  · by_cases h1 : Y.length ≤ 40
    · by_cases cx : ck1 X = 0
      · by_cases cy : ck1 Y = 0
        · obtain ⟨x, rfl⟩ := ck1_itoa cx
          obtain ⟨y, rfl⟩ := ck1_itoa cy
          by_cases y0 : y = 0
          · subst y0; exact makes_0 x h0 h1 cx cy (itoa_sz x h0) w ht
          · exact makes_a x y _ rfl h0 h1 cx cy (itoa_sz x h0) (itoa_sz y h1) y0 (sz_divInt (itoa_sz x h0) (itoa_sz y h1) y0) w ht
        · exact makes_b4 X Y h0 h1 cx cy w ht
      · exact makes_b3 X Y h0 h1 cx w ht
    · exact makes_b2 X Y h0 (by omega) w ht
  · exact makes_b1 X Y (by omega) w ht

end Go.Proofs.YtloocadjbpgldaaGreatDoor
/- The law RationalMakes holds of every input: its row, and its card tied to the program's text. Printed by a program of the prover's. -/
namespace Go.Proofs.YtloocadjbpgldaaGreatDoor
open Go.ChangeShapes Go.WideShapes Go.ChangeAt Go.RowKit

theorem rationalMakes_table {W : World} (h : laidMetH Tryz.prog Rows.rationalMakesRow.laid W) : Tab W :=
  Lib.tabIs_of_head (rest := _) (g := 2) (t := 171) (e := 84) (n := 20) (by kernel_rfl) (by kernel_rfl) (by kernel_rfl) (by kernel_rfl) (by kernel_rfl) (by kernel_rfl) ((show laidMet Tryz.prog Rows.rationalMakesRow.laid W from (MakeChecks.laidMetH_plain _ _ _ (by kernel_rfl)) ▸ h).tail.tail)
set_option maxRecDepth 100000 in
theorem rationalMakes_contract (H : Type) (enc : TypeId × Value → H) (W : World) (base : Nat) (args : Array Value) (ds gs : List (DataW H)) (before : List MemPlace)
    (hval : ∀ (j : Nat) t v, Tryz.f3.params[j]? = some t → args[j]? = some v → Value.okWide Tryz.prog W .any base t v)
    (hW : DataW.Whole enc Tryz.prog Tryz.f3.params.toList Rows.rationalMakesSpec.vars false W args.toList ds gs before) (hL : laidMetH Tryz.prog Rows.rationalMakesRow.laid W) :
    Calls Tryz.prog 3 args W fun e W' => ∃ v, e = .returned v ∧ Rows.rationalMakesSpec.post enc Tryz.prog Tryz.f3 false true false false W args v W' := by
  have hW' := hW
  obtain ⟨p, q, hA0, hV, rfl, hfz, hnd⟩ := hW
  have hA : DataW.TrodAll enc Tryz.prog W 0 (fun _ => true) true Tryz.f3.params.toList args.toList ds p := hA0
  rw [Tryz.params3] at hA hval
  obtain ⟨v0, vs0, d0, ds0, p0, q0, hargs, rfl, rfl, h0, r0⟩ := trodAll_cons hA
  obtain ⟨v1, vs1, d1, ds1, p1, q1, rfl, rfl, rfl, h1, r1⟩ := trodAll_cons r0
  obtain ⟨rfl, rfl, rfl⟩ := trodAll_nil r1
  obtain rfl : args = #[v0, v1] := by cases args; simp_all
  obtain ⟨rfl, rfl⟩ := trodVars_none hV
  obtain ⟨n0_0, rfl⟩ := open_text (by kernel_rfl) (hval 0 9 v0 rfl rfl)
  obtain ⟨n1_0, rfl⟩ := open_text (by kernel_rfl) (hval 1 9 v1 rfl rfl)
  refine (rational_makes n0_0 n1_0 W (rationalMakes_table hL)).mono fun e W' ⟨he, hg⟩ => ?_
  subst he
  exact ⟨_, rfl, law_post (tb := 4) laidOut (by kernel_rfl) (by kernel_rfl) (by kernel_rfl) rfl hW' rfl hg⟩
noncomputable def rationalMakes_world (os : Os) : World := World.laidAll Tryz.prog os Rows.rationalMakesRow.laid
theorem rationalMakes_met (os : Os) : laidMet Tryz.prog Rows.rationalMakesRow.laid ((rationalMakes_world os).forCall (fun _ _ => 0) ⟨#[], #[.string ⟨#[]⟩, .string ⟨#[]⟩], []⟩).memory :=
  laidMet_laidAll _ (by kernel_rfl) (by kernel_rfl)
theorem rationalMakes_reads (os : Os) {H : Type} (enc : TypeId × Value → H) : ∃ places, DataW.whole enc Tryz.prog ((rationalMakes_world os).forCall (fun _ _ => 0) ⟨#[], #[.string ⟨#[]⟩, .string ⟨#[]⟩], []⟩).memory Tryz.f3.params.toList Rows.rationalMakesSpec.vars false (#[.string ⟨#[]⟩, .string ⟨#[]⟩] : Array Value).toList 8 = some ([.lit (.string []), .lit (.string [])], [], places) :=
  ⟨[], by kernel_rfl⟩
set_option maxRecDepth 100000 in
theorem rationalMakes_lifted (os : Os) (started : os.Started) (H : Type) (enc : TypeId × Value → H) (F : Stop.Interp) :
    ReturnsInHanded {} Tryz.checked os 3 .any ((OpenSpec.ofChange Rows.rationalMakesSpec).preRow enc Tryz.prog Tryz.f3 Rows.rationalMakesRow.domain false Rows.rationalMakesRow.laid) (((OpenSpec.ofChange Rows.rationalMakesSpec).at F).post enc Tryz.prog Tryz.f3 false true false false) := by
  obtain ⟨places, hx⟩ := rationalMakes_reads os enc
  refine returnsInHanded_of_row (C := Tryz.checked) (s := OpenSpec.ofChange Rows.rationalMakesSpec) own started (by kernel_rfl) Tryz.func3
    (witness_row_sh (enc := enc) (C := Tryz.checked) false (rationalMakes_world os) #[.string ⟨#[]⟩, .string ⟨#[]⟩] (World.laidAll_os _ _ _) (World.shaped_of_ZipB (by kernel_rfl) (by kernel_rfl)) (by kernel_rfl)
      (OpenSpec.preRow_of_cond 8 hx (by kernel_rfl) (fun k hk => by cases hk) (by kernel_rfl) (by rw [MakeChecks.laidMetH_plain _ _ _ (by kernel_rfl)]; exact rationalMakes_met os))) ?_
  intro W base args ds gs before hval hW _ _ _ hL _ _
  exact rationalMakes_contract H enc W base args ds gs before hval hW hL
theorem rationalMakes_said : Rows.RationalMakesSaid :=
  OpenClaim.holds_of_cond 3 Tryz.f3 rfl rfl rfl rfl rfl rfl rfl ⟨rfl, rfl, rfl, rfl, rfl⟩ rfl rfl rfl rfl rfl (by kernel_rfl) Tryz.func3 (by kernel_rfl)
    (of_decide_eq_true (by kernel_rfl)) (by unfold Func.isWrapper; first | (rw [if_pos (by decide +kernel)]; kernel_rfl) | (rw [if_neg (by decide +kernel)]; exact ⟨rfl, rfl⟩))
    (fun os started H enc _ F => by rw [OpenClaim.pre_eq_preRow]; exact rationalMakes_lifted os started H enc F)
theorem rationalMakes_plain (f : FuncId) (fn : Func) (hf : Tryz.pinned.checked.prog.funcNamed "dowel/dowellaw02.RationalMakes" = some f) (hfn : Tryz.pinned.checked.prog.funcs[f]? = some fn) :
    true = Tryz.pinned.checked.prog.looks [] ∧ ∀ (j : Nat) t, fn.params[j]? = some t → Tryz.pinned.checked.prog.wantsStandIn t = false := by
  obtain rfl : f = 3 := Option.some.inj ((show Tryz.prog.funcNamed "dowel/dowellaw02.RationalMakes" = some 3 by kernel_rfl).symm.trans hf) |>.symm
  obtain rfl : fn = Tryz.f3 := (Option.some.inj (Tryz.func3.symm.trans hfn)).symm
  refine ⟨by kernel_rfl, fun j t ht => ?_⟩
  rw [Tryz.params3] at ht
  have hm := Array.mem_of_getElem? ht
  have hall : (#[9, 9] : Array TypeId).toList.all (fun t => !Tryz.prog.wantsStandIn t) = true := by kernel_rfl
  have := List.all_eq_true.1 hall t (Array.mem_toList_iff.2 hm)
  have h3 : Tryz.prog.wantsStandIn t = false := by simpa using this
  exact h3
/-- the card -/
theorem rationalMakes_card : Rows.RationalMakesCardSaid :=
  Claim7.holds_tied_plain_at .later [] _ _ _ _ rationalMakes_said (fun _ h => by cases h) (by kernel_rfl) (fun _ h => by cases h) rationalMakes_row_tie rfl ⟨rfl, rfl⟩ (by kernel_rfl) rfl rationalMakes_plain (by kernel_rfl)
end Go.Proofs.YtloocadjbpgldaaGreatDoor
