/- Joined of: Gen45, RowRationalField. -/
import Derived.Test.YtloocadjbpgldaaGreatDoorPartF
import Derived.Test.YtloocadjbpgldaaGreatDoorCards
import Derived.Test.YtloocadjbpgldaaGreatDoorTie
/- Printed by a program of the prover's: RationalField. -/
namespace Go.Proofs.YtloocadjbpgldaaGreatDoor
open Go.RowKit

set_option maxRecDepth 100000 in
set_option maxHeartbeats 1000000 in
theorem sum_0 (w : World) :
    Calls Tryz.prog 65 #[(.slice none 0 0)] w fun e w' => (∃ c0 c1 c2 c3, e = .returned (.agg #[c0, c1, c2, c3]) ∧ IsRat w' 64 c0 c1 c2 c3 (0)) ∧ Gr w w' := by
 go_enter Tryz.func65, Tryz.ntmps65
 have hB := Gr.refl w
 refine wp_seq_k (fun K1 k1 => ?_)
 refine rg [0] ?_
 refine se ?_
 refine ea 31 #[(.bool false), (.slice none 0 0), (.bool false), (.slice none 0 0)] 2 hB fun b2 w2 g2 L2 o2 q2 hB => ?_
 simp only [p3, p4]
 refine sq_nil ?_
 refine k1 _ _ ?_
 try clear k1 K1
 refine wp_seq_k (fun K3 k3 => ?_)
 refine rg [0] ?_
 refine se ?_
 refine ea 31 #[(.bool false), (.slice none 0 0), (.bool false), (.slice none 0 0)] 3 hB fun b4 w4 g4 L4 o4 q4 hB => ?_
 simp only [p3, p4]
 refine sq_nil ?_
 refine k3 _ _ ?_
 try clear k3 K3
 refine wp_seq_k (fun K5 k5 => ?_)
 refine wp_seq_k (fun K6 k6 => ?_)
 refine rg [0, 1, 2] ?_
 refine sv 6 (.slice none 0 0) ?_
 simp only [p3, p4]
 refine sv 7 (.int .i64 0) ?_
 simp only [p3, p4]
 refine sv 8 (.int .i64 0) ?_
 simp only [p3, p4]
 refine sq_nil ?_
 refine k6 _ _ ?_
 try clear k6 K6
 refine wp_block ?_
 refine wp_loop_rounds 4 ?_
 show Code.wp _ _ _ _ _
 refine wp_seq_k (fun K7 k7 => ?_)
 refine rg [0] ?_
 refine sv 9 (.bool false) ?_
 simp only [p3, p4]
 refine sq_nil ?_
 refine k7 _ _ ?_
 try clear k7 K7
 refine wp_seq_k (fun K8 k8 => ?_)
 refine wp_cond_false rfl ?_
 refine wp_exit ?_
 simp only [Exit.then, Exit.inBlock, ↓reduceIte]
 refine k5 _ _ ?_
 try clear k5 K5
 refine wp_seq_k (fun K9 k9 => ?_)
 refine rg [0, 1] ?_
 refine sw 16 (.agg #[(.bool false), (.slice none 0 0), (.bool false), (.slice none 0 0)]) rfl (rl 31 0 [(.bool false), (.slice none 0 0), (.bool false), (.slice none 0 0)] L4) ?_
 simp only [p3, p4]
 refine se ?_
 replace L2 := L2.gr g4
 refine es 31 0 (.agg #[(.bool false), (.slice none 0 0), (.bool false), (.slice none 0 0)]) [(.bool false), (.slice none 0 0), (.bool false), (.slice none 0 0)] #[(.bool false), (.slice none 0 0), (.bool false), (.slice none 0 0)] L2 hB q2 ⟨rfl, rfl, rfl, rfl, trivial⟩ fun w10 st10 kp10 L2 hB => ?_
 refine sq_nil ?_
 refine k9 _ _ ?_
 try clear k9 K9
 refine wp_ret ?_
 refine bodyPost_ret (v := (.agg #[(.bool false), (.slice none 0 0), (.bool false), (.slice none 0 0)])) (ret_cell _ _ _ rfl rfl L2 (by kernel_rfl)) rfl ⟨?_, hB⟩
 exact ⟨_, _, _, _, rfl, IsRat.zero _ (Nat.le_refl _)⟩

set_option maxRecDepth 100000 in
set_option maxHeartbeats 1000000 in
theorem sum_1 {k : Nat} {ab : Nat} {u0 u1 u2 u3 : Value} {a : Rat} {w : World} (ha : IsRat w k u0 u1 u2 u3 a) (hL : Lc w ab #[u0, u1, u2, u3] 31) (_hk : k ≤ 25000) :
    Calls Tryz.prog 65 #[(.slice (some ⟨ab, 0, none⟩) 1 1)] w fun e w' => (∃ c0 c1 c2 c3, e = .returned (.agg #[c0, c1, c2, c3]) ∧ IsRat w' (64 + k + 1) c0 c1 c2 c3 ((0 + a))) ∧ Gr w w' := by
 have hbig := ha.big
 go_enter Tryz.func65, Tryz.ntmps65
 have hB := Gr.refl w
 refine wp_seq_k (fun K1 k1 => ?_)
 refine rg [0] ?_
 refine se ?_
 refine ea 31 #[(.bool false), (.slice none 0 0), (.bool false), (.slice none 0 0)] 2 hB fun b2 w2 g2 L2 o2 q2 hB => ?_
 simp only [p3, p4]
 refine sq_nil ?_
 refine k1 _ _ ?_
 try clear k1 K1
 refine wp_seq_k (fun K3 k3 => ?_)
 refine rg [0] ?_
 refine se ?_
 refine ea 31 #[(.bool false), (.slice none 0 0), (.bool false), (.slice none 0 0)] 3 hB fun b4 w4 g4 L4 o4 q4 hB => ?_
 replace hL := hL.gr g2
 have ne2_4 := L2.ne o4
 simp only [p3, p4]
 refine sq_nil ?_
 refine k3 _ _ ?_
 try clear k3 K3
 refine wp_seq_k (fun K5 k5 => ?_)
 refine wp_seq_k (fun K6 k6 => ?_)
 refine rg [0, 1, 2] ?_
 refine sv 6 (.slice (some ⟨ab, 0, none⟩) 1 1) ?_
 simp only [p3, p4]
 refine sv 7 (.int .i64 1) ?_
 simp only [p3, p4]
 refine sv 8 (.int .i64 0) ?_
 simp only [p3, p4]
 refine sq_nil ?_
 refine k6 _ _ ?_
 try clear k6 K6
 refine wp_block ?_
 refine wp_loop_rounds 4 ?_
 show Code.wp _ _ _ _ _
 refine wp_seq_k (fun K7 k7 => ?_)
 refine rg [0] ?_
 refine sv 9 (.bool true) ?_
 simp only [p3, p4]
 refine sq_nil ?_
 refine k7 _ _ ?_
 try clear k7 K7
 refine wp_seq_k (fun K8 k8 => ?_)
 refine wp_cond_true rfl ?_
 refine wp_skip ?_
 refine k8 _ _ ?_
 try clear k8 K8
 refine wp_seq_k (fun K9 k9 => ?_)
 refine wp_block ?_
 refine wp_seq_k (fun K10 k10 => ?_)
 refine rg [0, 1, 2, 3] ?_
 refine sv 10 (.pointer (some ⟨ab, 0, none⟩)) ?_
 simp only [p3, p4]
 replace hL := hL.gr g4
 refine sw 11 (.agg #[u0, u1, u2, u3]) rfl (rl 31 0 [u0, u1, u2, u3] hL) ?_
 simp only [p3, p4]
 refine se ?_
 refine ea 31 #[(.bool false), (.slice none 0 0), (.bool false), (.slice none 0 0)] 5 hB fun b11 w11 g11 L11 o11 q11 hB => ?_
 replace L2 := L2.gr g4
 have ne2_11 := L2.ne o11
 have ne4_11 := L4.ne o11
 simp only [p3, p4]
 refine se ?_
 refine es 31 0 (.agg #[u0, u1, u2, u3]) [u0, u1, u2, u3] #[u0, u1, u2, u3] L11 hB q11 ⟨ha.one0, ha.one1, ha.one2, ha.one3, trivial⟩ fun w12 st12 kp12 L11 hB => ?_
 refine sq_nil ?_
 refine k10 _ _ ?_
 try clear k10 K10
 refine rg [0, 1, 2, 3] ?_
 replace L4 := st12.lc (L4.gr g11) ne4_11
 refine sw 12 (.agg #[(.bool false), (.slice none 0 0), (.bool false), (.slice none 0 0)]) rfl (rl 31 0 [(.bool false), (.slice none 0 0), (.bool false), (.slice none 0 0)] L4) ?_
 simp only [p3, p4]
 refine sw 13 (.agg #[u0, u1, u2, u3]) rfl (rl 31 0 [u0, u1, u2, u3] L11) ?_
 simp only [p3, p4]
 refine se ?_
 have kq14 := g2.kp.trans (g4.kp.trans (g11.kp.trans kp12))
 replace ha := ha.kp kq14
 refine ec 14 (add_r (IsRat.zero _ (k := 64) (Nat.le_refl _)) ha (by omega)) ?_
 rintro e13 w13 ⟨⟨p13, q13, r13, s13, rfl, h13⟩, g13⟩
 refine ⟨_, rfl, ?_⟩
 replace hB := hB.trans g13
 simp only [p3, p4]
 refine se ?_
 replace L4 := L4.gr g13
 refine es 31 0 (.agg #[p13, q13, r13, s13]) [p13, q13, r13, s13] #[p13, q13, r13, s13] L4 hB q4 ⟨h13.one0, h13.one1, h13.one2, h13.one3, trivial⟩ fun w15 st15 kp15 L4 hB => ?_
 refine sq_nil ?_
 refine k9 _ _ ?_
 try clear k9 K9
 refine rg [0, 1] ?_
 refine sv 15 (.int .i64 1) ?_
 simp only [p3, p4]
 refine sv 8 (.int .i64 1) ?_
 simp only [p3, p4]
 refine sq_nil ?_
 show Code.rounds _ _ _ _ _ _
 show Code.wp _ _ _ _ _
 refine wp_seq_k (fun K16 k16 => ?_)
 refine rg [0] ?_
 refine sv 9 (.bool false) ?_
 simp only [p3, p4]
 refine sq_nil ?_
 refine k16 _ _ ?_
 try clear k16 K16
 refine wp_seq_k (fun K17 k17 => ?_)
 refine wp_cond_false rfl ?_
 refine wp_exit ?_
 simp only [Exit.then, Exit.inBlock, ↓reduceIte]
 refine k5 _ _ ?_
 try clear k5 K5
 refine wp_seq_k (fun K18 k18 => ?_)
 refine rg [0, 1] ?_
 refine sw 16 (.agg #[p13, q13, r13, s13]) rfl (rl 31 0 [p13, q13, r13, s13] L4) ?_
 simp only [p3, p4]
 refine se ?_
 replace L2 := st15.lc ((st12.lc (L2.gr g11) ne2_11).gr g13) ne2_4
 refine es 31 0 (.agg #[p13, q13, r13, s13]) [p13, q13, r13, s13] #[p13, q13, r13, s13] L2 hB q2 ⟨h13.one0, h13.one1, h13.one2, h13.one3, trivial⟩ fun w19 st19 kp19 L2 hB => ?_
 refine sq_nil ?_
 refine k18 _ _ ?_
 try clear k18 K18
 refine wp_ret ?_
 refine bodyPost_ret (v := (.agg #[p13, q13, r13, s13])) (ret_cell _ _ _ rfl rfl L2 (by kernel_rfl)) rfl ⟨?_, hB⟩
 have kq20 := kp15.trans kp19
 replace h13 := h13.kp kq20
 exact ⟨_, _, _, _, rfl, h13⟩

set_option maxRecDepth 100000 in
set_option maxHeartbeats 1000000 in
theorem sum_3 {k : Nat} {ab : Nat} {u0 u1 u2 u3 : Value} {a : Rat} {v0 v1 v2 v3 : Value} {b : Rat} {x0 x1 x2 x3 : Value} {c : Rat} {w : World} (ha : IsRat w k u0 u1 u2 u3 a) (hb : IsRat w k v0 v1 v2 v3 b) (hc : IsRat w k x0 x1 x2 x3 c) (hL : Lc w ab #[u0, u1, u2, u3, v0, v1, v2, v3, x0, x1, x2, x3] 31) (_hk : k ≤ 25000) :
    Calls Tryz.prog 65 #[(.slice (some ⟨ab, 0, none⟩) 3 3)] w fun e w' => (∃ c0 c1 c2 c3, e = .returned (.agg #[c0, c1, c2, c3]) ∧ IsRat w' (((64 + k + 1) + k + 1) + k + 1) c0 c1 c2 c3 ((((0 + a) + b) + c))) ∧ Gr w w' := by
 have hbig := ha.big
 go_enter Tryz.func65, Tryz.ntmps65
 have hB := Gr.refl w
 refine wp_seq_k (fun K1 k1 => ?_)
 refine rg [0] ?_
 refine se ?_
 refine ea 31 #[(.bool false), (.slice none 0 0), (.bool false), (.slice none 0 0)] 2 hB fun b2 w2 g2 L2 o2 q2 hB => ?_
 simp only [p3, p4]
 refine sq_nil ?_
 refine k1 _ _ ?_
 try clear k1 K1
 refine wp_seq_k (fun K3 k3 => ?_)
 refine rg [0] ?_
 refine se ?_
 refine ea 31 #[(.bool false), (.slice none 0 0), (.bool false), (.slice none 0 0)] 3 hB fun b4 w4 g4 L4 o4 q4 hB => ?_
 replace hL := hL.gr g2
 have ne0_4 := hL.ne o4
 have ne2_4 := L2.ne o4
 simp only [p3, p4]
 refine sq_nil ?_
 refine k3 _ _ ?_
 try clear k3 K3
 refine wp_seq_k (fun K5 k5 => ?_)
 refine wp_seq_k (fun K6 k6 => ?_)
 refine rg [0, 1, 2] ?_
 refine sv 6 (.slice (some ⟨ab, 0, none⟩) 3 3) ?_
 simp only [p3, p4]
 refine sv 7 (.int .i64 3) ?_
 simp only [p3, p4]
 refine sv 8 (.int .i64 0) ?_
 simp only [p3, p4]
 refine sq_nil ?_
 refine k6 _ _ ?_
 try clear k6 K6
 refine wp_block ?_
 refine wp_loop_rounds 4 ?_
 show Code.wp _ _ _ _ _
 refine wp_seq_k (fun K7 k7 => ?_)
 refine rg [0] ?_
 refine sv 9 (.bool true) ?_
 simp only [p3, p4]
 refine sq_nil ?_
 refine k7 _ _ ?_
 try clear k7 K7
 refine wp_seq_k (fun K8 k8 => ?_)
 refine wp_cond_true rfl ?_
 refine wp_skip ?_
 refine k8 _ _ ?_
 try clear k8 K8
 refine wp_seq_k (fun K9 k9 => ?_)
 refine wp_block ?_
 refine wp_seq_k (fun K10 k10 => ?_)
 refine rg [0, 1, 2, 3] ?_
 refine sv 10 (.pointer (some ⟨ab, 0, none⟩)) ?_
 simp only [p3, p4]
 replace hL := hL.gr g4
 refine sw 11 (.agg #[u0, u1, u2, u3]) rfl (rl 31 0 [u0, u1, u2, u3] hL) ?_
 simp only [p3, p4]
 refine se ?_
 refine ea 31 #[(.bool false), (.slice none 0 0), (.bool false), (.slice none 0 0)] 5 hB fun b11 w11 g11 L11 o11 q11 hB => ?_
 have ne0_11 := hL.ne o11
 replace L2 := L2.gr g4
 have ne2_11 := L2.ne o11
 have ne4_11 := L4.ne o11
 simp only [p3, p4]
 refine se ?_
 refine es 31 0 (.agg #[u0, u1, u2, u3]) [u0, u1, u2, u3] #[u0, u1, u2, u3] L11 hB q11 ⟨ha.one0, ha.one1, ha.one2, ha.one3, trivial⟩ fun w12 st12 kp12 L11 hB => ?_
 refine sq_nil ?_
 refine k10 _ _ ?_
 try clear k10 K10
 refine rg [0, 1, 2, 3] ?_
 replace L4 := st12.lc (L4.gr g11) ne4_11
 refine sw 12 (.agg #[(.bool false), (.slice none 0 0), (.bool false), (.slice none 0 0)]) rfl (rl 31 0 [(.bool false), (.slice none 0 0), (.bool false), (.slice none 0 0)] L4) ?_
 simp only [p3, p4]
 refine sw 13 (.agg #[u0, u1, u2, u3]) rfl (rl 31 0 [u0, u1, u2, u3] L11) ?_
 simp only [p3, p4]
 refine se ?_
 have kq14 := g2.kp.trans (g4.kp.trans (g11.kp.trans kp12))
 replace ha := ha.kp kq14
 refine ec 14 (add_r (IsRat.zero _ (k := 64) (Nat.le_refl _)) ha (by omega)) ?_
 rintro e13 w13 ⟨⟨p13, q13, r13, s13, rfl, h13⟩, g13⟩
 refine ⟨_, rfl, ?_⟩
 replace hB := hB.trans g13
 simp only [p3, p4]
 refine se ?_
 replace L4 := L4.gr g13
 refine es 31 0 (.agg #[p13, q13, r13, s13]) [p13, q13, r13, s13] #[p13, q13, r13, s13] L4 hB q4 ⟨h13.one0, h13.one1, h13.one2, h13.one3, trivial⟩ fun w15 st15 kp15 L4 hB => ?_
 refine sq_nil ?_
 refine k9 _ _ ?_
 try clear k9 K9
 refine rg [0, 1] ?_
 refine sv 15 (.int .i64 1) ?_
 simp only [p3, p4]
 refine sv 8 (.int .i64 1) ?_
 simp only [p3, p4]
 refine sq_nil ?_
 show Code.rounds _ _ _ _ _ _
 show Code.wp _ _ _ _ _
 refine wp_seq_k (fun K16 k16 => ?_)
 refine rg [0] ?_
 refine sv 9 (.bool true) ?_
 simp only [p3, p4]
 refine sq_nil ?_
 refine k16 _ _ ?_
 try clear k16 K16
 refine wp_seq_k (fun K17 k17 => ?_)
 refine wp_cond_true rfl ?_
 refine wp_skip ?_
 refine k17 _ _ ?_
 try clear k17 K17
 refine wp_seq_k (fun K18 k18 => ?_)
 refine wp_block ?_
 refine wp_seq_k (fun K19 k19 => ?_)
 refine rg [0, 1, 2, 3] ?_
 refine sv 10 (.pointer (some ⟨ab, 4, none⟩)) ?_
 simp only [p3, p4]
 replace hL := st15.lc ((st12.lc (hL.gr g11) ne0_11).gr g13) ne0_4
 refine sw 11 (.agg #[v0, v1, v2, v3]) rfl (rl 31 4 [v0, v1, v2, v3] hL) ?_
 simp only [p3, p4]
 refine se ?_
 refine ea 31 #[(.bool false), (.slice none 0 0), (.bool false), (.slice none 0 0)] 5 hB fun b20 w20 g20 L20 o20 q20 hB => ?_
 have ne0_20 := hL.ne o20
 replace L2 := st15.lc ((st12.lc (L2.gr g11) ne2_11).gr g13) ne2_4
 have ne2_20 := L2.ne o20
 have ne4_20 := L4.ne o20
 simp only [p3, p4]
 refine se ?_
 refine es 31 0 (.agg #[v0, v1, v2, v3]) [v0, v1, v2, v3] #[v0, v1, v2, v3] L20 hB q20 ⟨hb.one0, hb.one1, hb.one2, hb.one3, trivial⟩ fun w21 st21 kp21 L20 hB => ?_
 refine sq_nil ?_
 refine k19 _ _ ?_
 try clear k19 K19
 refine rg [0, 1, 2, 3] ?_
 replace L4 := st21.lc (L4.gr g20) ne4_20
 refine sw 12 (.agg #[p13, q13, r13, s13]) rfl (rl 31 0 [p13, q13, r13, s13] L4) ?_
 simp only [p3, p4]
 refine sw 13 (.agg #[v0, v1, v2, v3]) rfl (rl 31 0 [v0, v1, v2, v3] L20) ?_
 simp only [p3, p4]
 refine se ?_
 have kq23 := kp15.trans (g20.kp.trans kp21)
 replace h13 := h13.kp kq23
 have kq24 := g2.kp.trans (g4.kp.trans (g11.kp.trans (kp12.trans (g13.kp.trans (kp15.trans (g20.kp.trans kp21))))))
 replace hb := hb.kp kq24
 refine ec 14 (add_r h13 hb (by omega)) ?_
 rintro e22 w22 ⟨⟨p22, q22, r22, s22, rfl, h22⟩, g22⟩
 refine ⟨_, rfl, ?_⟩
 replace hB := hB.trans g22
 simp only [p3, p4]
 refine se ?_
 replace L4 := L4.gr g22
 refine es 31 0 (.agg #[p22, q22, r22, s22]) [p22, q22, r22, s22] #[p22, q22, r22, s22] L4 hB q4 ⟨h22.one0, h22.one1, h22.one2, h22.one3, trivial⟩ fun w25 st25 kp25 L4 hB => ?_
 refine sq_nil ?_
 refine k18 _ _ ?_
 try clear k18 K18
 refine rg [0, 1] ?_
 refine sv 15 (.int .i64 2) ?_
 simp only [p3, p4]
 refine sv 8 (.int .i64 2) ?_
 simp only [p3, p4]
 refine sq_nil ?_
 show Code.rounds _ _ _ _ _ _
 show Code.wp _ _ _ _ _
 refine wp_seq_k (fun K26 k26 => ?_)
 refine rg [0] ?_
 refine sv 9 (.bool true) ?_
 simp only [p3, p4]
 refine sq_nil ?_
 refine k26 _ _ ?_
 try clear k26 K26
 refine wp_seq_k (fun K27 k27 => ?_)
 refine wp_cond_true rfl ?_
 refine wp_skip ?_
 refine k27 _ _ ?_
 try clear k27 K27
 refine wp_seq_k (fun K28 k28 => ?_)
 refine wp_block ?_
 refine wp_seq_k (fun K29 k29 => ?_)
 refine rg [0, 1, 2, 3] ?_
 refine sv 10 (.pointer (some ⟨ab, 8, none⟩)) ?_
 simp only [p3, p4]
 replace hL := st25.lc ((st21.lc (hL.gr g20) ne0_20).gr g22) ne0_4
 refine sw 11 (.agg #[x0, x1, x2, x3]) rfl (rl 31 8 [x0, x1, x2, x3] hL) ?_
 simp only [p3, p4]
 refine se ?_
 refine ea 31 #[(.bool false), (.slice none 0 0), (.bool false), (.slice none 0 0)] 5 hB fun b30 w30 g30 L30 o30 q30 hB => ?_
 replace L2 := st25.lc ((st21.lc (L2.gr g20) ne2_20).gr g22) ne2_4
 have ne2_30 := L2.ne o30
 have ne4_30 := L4.ne o30
 simp only [p3, p4]
 refine se ?_
 refine es 31 0 (.agg #[x0, x1, x2, x3]) [x0, x1, x2, x3] #[x0, x1, x2, x3] L30 hB q30 ⟨hc.one0, hc.one1, hc.one2, hc.one3, trivial⟩ fun w31 st31 kp31 L30 hB => ?_
 refine sq_nil ?_
 refine k29 _ _ ?_
 try clear k29 K29
 refine rg [0, 1, 2, 3] ?_
 replace L4 := st31.lc (L4.gr g30) ne4_30
 refine sw 12 (.agg #[p22, q22, r22, s22]) rfl (rl 31 0 [p22, q22, r22, s22] L4) ?_
 simp only [p3, p4]
 refine sw 13 (.agg #[x0, x1, x2, x3]) rfl (rl 31 0 [x0, x1, x2, x3] L30) ?_
 simp only [p3, p4]
 refine se ?_
 have kq33 := kp25.trans (g30.kp.trans kp31)
 replace h22 := h22.kp kq33
 have kq34 := g2.kp.trans (g4.kp.trans (g11.kp.trans (kp12.trans (g13.kp.trans (kp15.trans (g20.kp.trans (kp21.trans (g22.kp.trans (kp25.trans (g30.kp.trans kp31))))))))))
 replace hc := hc.kp kq34
 refine ec 14 (add_r h22 hc (by omega)) ?_
 rintro e32 w32 ⟨⟨p32, q32, r32, s32, rfl, h32⟩, g32⟩
 refine ⟨_, rfl, ?_⟩
 replace hB := hB.trans g32
 simp only [p3, p4]
 refine se ?_
 replace L4 := L4.gr g32
 refine es 31 0 (.agg #[p32, q32, r32, s32]) [p32, q32, r32, s32] #[p32, q32, r32, s32] L4 hB q4 ⟨h32.one0, h32.one1, h32.one2, h32.one3, trivial⟩ fun w35 st35 kp35 L4 hB => ?_
 refine sq_nil ?_
 refine k28 _ _ ?_
 try clear k28 K28
 refine rg [0, 1] ?_
 refine sv 15 (.int .i64 3) ?_
 simp only [p3, p4]
 refine sv 8 (.int .i64 3) ?_
 simp only [p3, p4]
 refine sq_nil ?_
 show Code.rounds _ _ _ _ _ _
 show Code.wp _ _ _ _ _
 refine wp_seq_k (fun K36 k36 => ?_)
 refine rg [0] ?_
 refine sv 9 (.bool false) ?_
 simp only [p3, p4]
 refine sq_nil ?_
 refine k36 _ _ ?_
 try clear k36 K36
 refine wp_seq_k (fun K37 k37 => ?_)
 refine wp_cond_false rfl ?_
 refine wp_exit ?_
 simp only [Exit.then, Exit.inBlock, ↓reduceIte]
 refine k5 _ _ ?_
 try clear k5 K5
 refine wp_seq_k (fun K38 k38 => ?_)
 refine rg [0, 1] ?_
 refine sw 16 (.agg #[p32, q32, r32, s32]) rfl (rl 31 0 [p32, q32, r32, s32] L4) ?_
 simp only [p3, p4]
 refine se ?_
 replace L2 := st35.lc ((st31.lc (L2.gr g30) ne2_30).gr g32) ne2_4
 refine es 31 0 (.agg #[p32, q32, r32, s32]) [p32, q32, r32, s32] #[p32, q32, r32, s32] L2 hB q2 ⟨h32.one0, h32.one1, h32.one2, h32.one3, trivial⟩ fun w39 st39 kp39 L2 hB => ?_
 refine sq_nil ?_
 refine k38 _ _ ?_
 try clear k38 K38
 refine wp_ret ?_
 refine bodyPost_ret (v := (.agg #[p32, q32, r32, s32])) (ret_cell _ _ _ rfl rfl L2 (by kernel_rfl)) rfl ⟨?_, hB⟩
 have kq40 := kp35.trans kp39
 replace h32 := h32.kp kq40
 exact ⟨_, _, _, _, rfl, h32⟩

set_option maxRecDepth 100000 in
set_option maxHeartbeats 1000000 in
theorem same_t {k m : Nat} {u0 u1 u2 u3 v0 v1 v2 v3 : Value} {a b : Rat} {w : World} (ha : IsRat w k u0 u1 u2 u3 a) (hb : IsRat w m v0 v1 v2 v3 b) (_hk : k + m ≤ 100000) (ht : Tab w) (e : a = b) :
    Calls Tryz.prog 63 #[(.agg #[u0, u1, u2, u3]), (.agg #[v0, v1, v2, v3])] w fun e w' => e = .returned (.bool true) ∧ Gr w w' := by
 have h1 : ((ratL (a)) == (ratL (b))) = true := text_lit (by rw [e])
 have h2 : (rcmp (a) (b) == (0 : Int)) = true := beq_iff_eq.2 (rcmp_zero.2 e)
 go_enter Tryz.func63, Tryz.ntmps63
 have hB := Gr.refl w
 refine wp_seq_k (fun K1 k1 => ?_)
 refine rg [0, 1, 2] ?_
 refine se ?_
 refine eb 31 #[u0, u1, u2, u3] 2 hB fun b2 w2 g2 L2 o2 q2 hB => ?_
 simp only [p3, p4]
 refine se ?_
 refine eb 31 #[v0, v1, v2, v3] 3 hB fun b3 w3 g3 L3 o3 q3 hB => ?_
 simp only [p3, p4]
 refine sv 4 (.bool false) ?_
 simp only [p3, p4]
 refine sq_nil ?_
 refine k1 _ _ ?_
 try clear k1 K1
 refine wp_seq_k (fun K4 k4 => ?_)
 have gd15 := Gr.drew w3
 replace hB := hB.trans gd15
 replace L2 := L2.gr (g3.trans gd15)
 replace L3 := L3.gr gd15
 refine wp_region_ord (fun w' => Lc w' b2 #[u0, u1, u2, u3] 31 ∧ Lc w' b3 #[v0, v1, v2, v3] 31) [(true, 0), (true, 2), (false, 1), (false, 3), (true, 4), (true, 5), (true, 6), (true, 7), (false, 8), (true, 9), (true, 10), (true, 11)] (by kernel_rfl) (by kernel_rfl) (by kernel_rfl) (by decide) (fun _ _ _ _ _ h => h) ⟨L2, L3⟩ ?_
 refine ow 5 (.agg #[u0, u1, u2, u3]) rfl (fun w' hS => (rl 31 0 [u0, u1, u2, u3] hS.1)) ?_
 simp only [p3, p4]
 refine ow 7 (.agg #[v0, v1, v2, v3]) rfl (fun w' hS => (rl 31 0 [v0, v1, v2, v3] hS.2)) ?_
 simp only [p3, p4]
 refine oe ?_
 have kq18 := g2.kp.trans (g3.kp.trans gd15.kp)
 replace ha := ha.kp kq18
 refine ec 6 (number_r ha (by omega) (ht.gr hB)) ?_
 rintro e17 w17 ⟨rfl, g17⟩
 refine ⟨_, rfl, ?_⟩
 replace hB := hB.trans g17
 replace L2 := L2.gr g17
 replace L3 := L3.gr g17
 refine ⟨⟨L2, L3⟩, ?_⟩
 simp only [p3, p4]
 refine oe ?_
 have kq21 := g2.kp.trans (g3.kp.trans (gd15.kp.trans g17.kp))
 replace hb := hb.kp kq21
 refine ec 8 (number_r hb (by omega) (ht.gr hB)) ?_
 rintro e20 w20 ⟨rfl, g20⟩
 refine ⟨_, rfl, ?_⟩
 replace hB := hB.trans g20
 replace L2 := L2.gr g20
 replace L3 := L3.gr g20
 refine ⟨⟨L2, L3⟩, ?_⟩
 simp only [p3, p4]
 refine ow 9 (.bool true) rfl (fun w' hS => (RunV.bool (x := ((ratL (a)) == (ratL (b)))) (rv_seq 42 42 _ _ (ratL (a)) (ratL (b)) rfl rfl rfl) h1)) ?_
 simp only [p3, p4]
 refine ov 10 (.bool true) ?_
 simp only [p3, p4]
 refine ow 11 (.agg #[u0, u1, u2, u3]) rfl (fun w' hS => (rl 31 0 [u0, u1, u2, u3] hS.1)) ?_
 simp only [p3, p4]
 refine ow 12 (.agg #[v0, v1, v2, v3]) rfl (fun w' hS => (rl 31 0 [v0, v1, v2, v3] hS.2)) ?_
 simp only [p3, p4]
 refine oe ?_
 have kq24 := g17.kp.trans g20.kp
 replace ha := ha.kp kq24
 replace hb := hb.kp g20.kp
 refine ec 13 (compare_r ha hb (by omega)) ?_
 rintro e23 w23 ⟨rfl, g23⟩
 refine ⟨_, rfl, ?_⟩
 replace hB := hB.trans g23
 replace L2 := L2.gr g23
 replace L3 := L3.gr g23
 refine ⟨⟨L2, L3⟩, ?_⟩
 simp only [p3, p4]
 refine ow 14 (.bool true) rfl (fun w' hS => (RunV.bool (x := (rcmp (a) (b) == (0 : Int))) (rvk (by kernel_rfl)) h2)) ?_
 simp only [p3, p4]
 refine ov 15 (.bool true) ?_
 simp only [p3, p4]
 refine ov 4 (.bool true) ?_
 simp only [p3, p4]
 refine ord_nil ?_
 refine k4 _ _ ?_
 try clear k4 K4
 refine wp_ret ?_
 refine bodyPost_ret (v := (.bool true)) (ret_tmp rfl rfl) rfl ⟨?_, hB⟩
 exact rfl

theorem lawFi0 (a b c : Rat)  : (((a + b) + c) : Rat) = (a + (b + c)) := by grind
theorem lawFi1 (a b c : Rat)  : ((((0 + a) + b) + c) : Rat) = ((a + b) + c) := by grind
theorem lawFi2  : ((0 : Rat) : Rat) = (((0 : Int) : Rat)) := by grind
theorem lawFi3 (a : Rat)  : ((0 + a) : Rat) = a := by grind
theorem lawFi4 (a b c : Rat)  : (((a * b) * c) : Rat) = (a * (b * c)) := by grind
theorem lawFi5 (a b c : Rat)  : (((a + b) * c) : Rat) = ((a * c) + (b * c)) := by grind
set_option maxRecDepth 100000 in
set_option maxHeartbeats 8000000 in
theorem field_0 (a : Rat) (ha : Sz 160 a.num ∧ Sz 160 (a.den : Int)) (la : okT (ratL (a)) = true) (b : Rat) (hb : Sz 160 b.num ∧ Sz 160 (b.den : Int)) (lb : okT (ratL (b)) = true) (c : Rat) (hc : Sz 160 c.num ∧ Sz 160 (c.den : Int)) (lc : okT (ratL (c)) = true) (h0 : b.num = 0) (w : World) (ht : Tab w) (hm : Mx w) :
    Calls Tryz.prog 12 #[(.string ⟨(ratL (a) : List UInt8).toArray⟩), (.string ⟨(ratL (b) : List UInt8).toArray⟩), (.string ⟨(ratL (c) : List UInt8).toArray⟩)] w fun e w' => e = .returned (.bool true) ∧ Gr w w' := by
 have lok : ((okT (ratL (a)) && okT (ratL (b))) && okT (ratL (c))) = true := okT_3 la lb lc
 have hz : (sgn (b).num == (0 : Int)) = true := (by rw [h0]; rfl)
 go_enter Tryz.func12, Tryz.ntmps12
 have hB := Gr.refl w
 refine wp_seq_k (fun K1 k1 => ?_)
 refine rg [0] ?_
 refine sv 6 (.bool false) ?_
 simp only [p3, p4]
 refine sq_nil ?_
 refine k1 _ _ ?_
 try clear k1 K1
 refine wp_seq_k (fun K2 k2 => ?_)
 refine wp_seq_k (fun K3 k3 => ?_)
 refine rg [0, 1, 2, 3, 4, 5, 6, 7, 8, 9] ?_
 refine se ?_
 refine ec 13 (known2 _ (ht.gr hB)) ?_
 rintro e4 w4 ⟨rfl, g4⟩
 refine ⟨_, rfl, ?_⟩
 replace hB := hB.trans g4
 simp only [p3, p4]
 refine sv 14 (.bool false) ?_
 simp only [p3, p4]
 refine sv 15 (.bool false) ?_
 simp only [p3, p4]
 refine sv 16 (.string ⟨(ratL (a) : List UInt8).toArray⟩) ?_
 simp only [p3, p4]
 refine sv 17 (.string ⟨(ratL (b) : List UInt8).toArray⟩) ?_
 simp only [p3, p4]
 refine sv 18 (.string ⟨(ratL (c) : List UInt8).toArray⟩) ?_
 simp only [p3, p4]
 refine se ?_
 refine eff_bs 9 3 #[(.string ⟨(ratL (a) : List UInt8).toArray⟩), (.string ⟨(ratL (b) : List UInt8).toArray⟩), (.string ⟨(ratL (c) : List UInt8).toArray⟩)] (some 19) rfl (fun _ => by kernel_rfl) (fun b5 w5 g5 L5 q5 => ?_)
 replace hB := hB.trans g5
 simp only [putl, p3, p4]
 refine se ?_
 refine ec 20 (right3 (ratL (a)) (ratL (b)) (ratL (c)) L5) ?_
 rintro e6 w6 ⟨rfl, g6⟩
 refine ⟨_, rfl, ?_⟩
 replace hB := hB.trans g6
 simp only [p3, p4]
 refine sw 21 (.bool false) rfl (RunV.bool (x := !(((okT (ratL (a)) && okT (ratL (b))) && okT (ratL (c))))) (rvk (by kernel_rfl)) (show (!(((okT (ratL (a)) && okT (ratL (b))) && okT (ratL (c))))) = false by rw [lok]; rfl)) ?_
 simp only [p3, p4]
 refine sv 22 (.bool false) ?_
 simp only [p3, p4]
 refine sq_nil ?_
 refine k3 _ _ ?_
 try clear k3 K3
 refine wp_cond_false rfl ?_
 refine wp_skip ?_
 refine k2 _ _ ?_
 try clear k2 K2
 refine wp_seq_k (fun K7 k7 => ?_)
 refine rg [0, 1, 2, 3, 4, 5, 6, 7, 8, 9, 10, 11] ?_
 refine sv 24 (.string ⟨(ratL (a) : List UInt8).toArray⟩) ?_
 simp only [p3, p4]
 refine se ?_
 refine ec 25 (lread_q a ha la _ (hm.gr hB)) ?_
 rintro e8 w8 ⟨⟨p8, q8, r8, s8, rfl, h8⟩, g8⟩
 refine ⟨_, rfl, ?_⟩
 replace hB := hB.trans g8
 simp only [p3, p4]
 refine sv 26 (.string ⟨(ratL (b) : List UInt8).toArray⟩) ?_
 simp only [p3, p4]
 refine se ?_
 refine ec 27 (lread_q b hb lb _ (hm.gr hB)) ?_
 rintro e9 w9 ⟨⟨p9, q9, r9, s9, rfl, h9⟩, g9⟩
 refine ⟨_, rfl, ?_⟩
 replace hB := hB.trans g9
 simp only [p3, p4]
 refine sv 28 (.string ⟨(ratL (c) : List UInt8).toArray⟩) ?_
 simp only [p3, p4]
 refine se ?_
 refine ec 29 (lread_q c hc lc _ (hm.gr hB)) ?_
 rintro e10 w10 ⟨⟨p10, q10, r10, s10, rfl, h10⟩, g10⟩
 refine ⟨_, rfl, ?_⟩
 replace hB := hB.trans g10
 simp only [p3, p4]
 refine se ?_
 refine ea 31 #[(.bool false), (.slice none 0 0), (.bool false), (.slice none 0 0)] 7 hB fun b11 w11 g11 L11 o11 q11 hB => ?_
 simp only [p3, p4]
 refine se ?_
 refine ea 31 #[(.bool false), (.slice none 0 0), (.bool false), (.slice none 0 0)] 8 hB fun b12 w12 g12 L12 o12 q12 hB => ?_
 have ne11_12 := L11.ne o12
 simp only [p3, p4]
 refine se ?_
 refine ea 31 #[(.bool false), (.slice none 0 0), (.bool false), (.slice none 0 0)] 9 hB fun b13 w13 g13 L13 o13 q13 hB => ?_
 replace L11 := L11.gr g12
 have ne11_13 := L11.ne o13
 have ne12_13 := L12.ne o13
 simp only [p3, p4]
 refine se ?_
 replace L11 := L11.gr g13
 refine es 31 0 (.agg #[p8, q8, r8, s8]) [p8, q8, r8, s8] #[p8, q8, r8, s8] L11 hB q11 ⟨h8.one0, h8.one1, h8.one2, h8.one3, trivial⟩ fun w14 st14 kp14 L11 hB => ?_
 refine se ?_
 replace L12 := st14.lc (L12.gr g13) (Ne.symm ne11_12)
 refine es 31 0 (.agg #[p9, q9, r9, s9]) [p9, q9, r9, s9] #[p9, q9, r9, s9] L12 hB q12 ⟨h9.one0, h9.one1, h9.one2, h9.one3, trivial⟩ fun w15 st15 kp15 L12 hB => ?_
 refine se ?_
 replace L13 := st15.lc (st14.lc L13 (Ne.symm ne11_13)) (Ne.symm ne12_13)
 refine es 31 0 (.agg #[p10, q10, r10, s10]) [p10, q10, r10, s10] #[p10, q10, r10, s10] L13 hB q13 ⟨h10.one0, h10.one1, h10.one2, h10.one3, trivial⟩ fun w16 st16 kp16 L13 hB => ?_
 refine sq_nil ?_
 refine k7 _ _ ?_
 try clear k7 K7
 refine wp_seq_k (fun K17 k17 => ?_)
 refine rg [0] ?_
 refine sv 10 (.func (.func 63) #[] #[]) ?_
 simp only [p3, p4]
 refine sq_nil ?_
 refine k17 _ _ ?_
 try clear k17 K17
 refine wp_seq_k (fun K18 k18 => ?_)
 refine wp_seq_k (fun K19 k19 => ?_)
 have gd64 := Gr.drew w16
 replace hB := hB.trans gd64
 replace L11 := (st16.lc (st15.lc L11 ne11_12) ne11_13).gr gd64
 replace L12 := (st16.lc L12 ne12_13).gr gd64
 replace L13 := L13.gr gd64
 refine wp_region_ord (fun w' => Lc w' b11 #[p8, q8, r8, s8] 31 ∧ Lc w' b12 #[p9, q9, r9, s9] 31 ∧ Lc w' b13 #[p10, q10, r10, s10] 31) [(true, 0), (true, 1), (true, 2), (true, 4), (true, 6), (true, 7), (true, 8), (false, 3), (false, 5), (false, 9), (false, 10), (false, 11), (true, 12), (true, 13), (true, 14), (true, 15), (true, 16), (true, 17), (true, 20), (true, 21), (true, 23), (false, 18), (false, 19), (false, 22), (false, 24), (false, 25), (true, 26), (true, 27), (true, 28), (true, 29), (false, 30), (false, 31), (false, 32), (true, 33), (true, 34), (true, 35), (true, 36), (true, 37), (true, 40), (false, 38), (false, 39), (false, 41), (true, 42), (true, 43)] (by kernel_rfl) (by kernel_rfl) (by kernel_rfl) (by decide) (fun _ _ _ _ _ h => h) ⟨L11, L12, L13⟩ ?_
 refine ov 30 (.func (.func 63) #[] #[]) ?_
 simp only [p3, p4]
 refine ow 31 (.agg #[p8, q8, r8, s8]) rfl (fun w' hS => (rl 31 0 [p8, q8, r8, s8] hS.1)) ?_
 simp only [p3, p4]
 refine ow 32 (.agg #[p9, q9, r9, s9]) rfl (fun w' hS => (rl 31 0 [p9, q9, r9, s9] hS.2.1)) ?_
 simp only [p3, p4]
 refine ow 34 (.agg #[p10, q10, r10, s10]) rfl (fun w' hS => (rl 31 0 [p10, q10, r10, s10] hS.2.2)) ?_
 simp only [p3, p4]
 refine ow 36 (.agg #[p8, q8, r8, s8]) rfl (fun w' hS => (rl 31 0 [p8, q8, r8, s8] hS.1)) ?_
 simp only [p3, p4]
 refine ow 37 (.agg #[p9, q9, r9, s9]) rfl (fun w' hS => (rl 31 0 [p9, q9, r9, s9] hS.2.1)) ?_
 simp only [p3, p4]
 refine ow 38 (.agg #[p10, q10, r10, s10]) rfl (fun w' hS => (rl 31 0 [p10, q10, r10, s10] hS.2.2)) ?_
 simp only [p3, p4]
 refine oe ?_
 have kq67 := g9.kp.trans (g10.kp.trans (g11.kp.trans (g12.kp.trans (g13.kp.trans (kp14.trans (kp15.trans (kp16.trans gd64.kp)))))))
 replace h8 := h8.kp kq67
 have kq68 := g10.kp.trans (g11.kp.trans (g12.kp.trans (g13.kp.trans (kp14.trans (kp15.trans (kp16.trans gd64.kp))))))
 replace h9 := h9.kp kq68
 refine ec 33 (add_r h8 h9 (by omega)) ?_
 rintro e66 w66 ⟨⟨p66, q66, r66, s66, rfl, h66⟩, g66⟩
 refine ⟨_, rfl, ?_⟩
 replace hB := hB.trans g66
 replace L11 := L11.gr g66
 replace L12 := L12.gr g66
 replace L13 := L13.gr g66
 refine ⟨⟨L11, L12, L13⟩, ?_⟩
 simp only [p3, p4]
 refine oe ?_
 have kq71 := g11.kp.trans (g12.kp.trans (g13.kp.trans (kp14.trans (kp15.trans (kp16.trans (gd64.kp.trans g66.kp))))))
 replace h10 := h10.kp kq71
 refine ec 35 (add_r h66 h10 (by omega)) ?_
 rintro e70 w70 ⟨⟨p70, q70, r70, s70, rfl, h70⟩, g70⟩
 refine ⟨_, rfl, ?_⟩
 replace hB := hB.trans g70
 replace L11 := L11.gr g70
 replace L12 := L12.gr g70
 replace L13 := L13.gr g70
 refine ⟨⟨L11, L12, L13⟩, ?_⟩
 simp only [p3, p4]
 refine oe ?_
 have kq74 := g66.kp.trans g70.kp
 replace h9 := h9.kp kq74
 replace h10 := h10.kp g70.kp
 refine ec 39 (add_r h9 h10 (by omega)) ?_
 rintro e73 w73 ⟨⟨p73, q73, r73, s73, rfl, h73⟩, g73⟩
 refine ⟨_, rfl, ?_⟩
 replace hB := hB.trans g73
 replace L11 := L11.gr g73
 replace L12 := L12.gr g73
 replace L13 := L13.gr g73
 refine ⟨⟨L11, L12, L13⟩, ?_⟩
 simp only [p3, p4]
 refine oe ?_
 have kq77 := g66.kp.trans (g70.kp.trans g73.kp)
 replace h8 := h8.kp kq77
 refine ec 40 (add_r h8 h73 (by omega)) ?_
 rintro e76 w76 ⟨⟨p76, q76, r76, s76, rfl, h76⟩, g76⟩
 refine ⟨_, rfl, ?_⟩
 replace hB := hB.trans g76
 replace L11 := L11.gr g76
 replace L12 := L12.gr g76
 replace L13 := L13.gr g76
 refine ⟨⟨L11, L12, L13⟩, ?_⟩
 simp only [p3, p4]
 refine oe ?_
 have kq80 := g73.kp.trans g76.kp
 replace h70 := h70.kp kq80
 refine ec 41 (same_t h70 h76 (by omega) (ht.gr hB) (lawFi0 a b c )) ?_
 rintro e79 w79 ⟨rfl, g79⟩
 refine ⟨_, rfl, ?_⟩
 replace hB := hB.trans g79
 replace L11 := L11.gr g79
 replace L12 := L12.gr g79
 replace L13 := L13.gr g79
 refine ⟨⟨L11, L12, L13⟩, ?_⟩
 simp only [p3, p4]
 refine ov 42 (.bool false) ?_
 simp only [p3, p4]
 refine ov 43 (.bool false) ?_
 simp only [p3, p4]
 refine ov 44 (.func (.func 63) #[] #[]) ?_
 simp only [p3, p4]
 refine ow 45 (.agg #[p8, q8, r8, s8]) rfl (fun w' hS => (rl 31 0 [p8, q8, r8, s8] hS.1)) ?_
 simp only [p3, p4]
 refine ow 46 (.agg #[p9, q9, r9, s9]) rfl (fun w' hS => (rl 31 0 [p9, q9, r9, s9] hS.2.1)) ?_
 simp only [p3, p4]
 refine ow 47 (.agg #[p10, q10, r10, s10]) rfl (fun w' hS => (rl 31 0 [p10, q10, r10, s10] hS.2.2)) ?_
 simp only [p3, p4]
 refine ow 50 (.agg #[p8, q8, r8, s8]) rfl (fun w' hS => (rl 31 0 [p8, q8, r8, s8] hS.1)) ?_
 simp only [p3, p4]
 refine ow 51 (.agg #[p9, q9, r9, s9]) rfl (fun w' hS => (rl 31 0 [p9, q9, r9, s9] hS.2.1)) ?_
 simp only [p3, p4]
 refine ow 53 (.agg #[p10, q10, r10, s10]) rfl (fun w' hS => (rl 31 0 [p10, q10, r10, s10] hS.2.2)) ?_
 simp only [p3, p4]
 refine oe ?_
 refine eff_bs 31 3 #[p8, q8, r8, s8, p9, q9, r9, s9, p10, q10, r10, s10] (some 48) rfl (fun _ => by kernel_rfl) (fun b82 w82 g82 L82 q82 => ?_)
 replace hB := hB.trans g82
 replace L11 := L11.gr g82
 replace L12 := L12.gr g82
 replace L13 := L13.gr g82
 refine ⟨⟨L11, L12, L13⟩, ?_⟩
 simp only [putl, p3, p4]
 refine oe ?_
 have kq85 := g76.kp.trans (g79.kp.trans g82.kp)
 replace h8 := h8.kp kq85
 have kq86 := g73.kp.trans (g76.kp.trans (g79.kp.trans g82.kp))
 replace h9 := h9.kp kq86
 replace h10 := h10.kp kq86
 refine ec 49 (sum_3 h8 h9 h10 L82 (by omega)) ?_
 rintro e84 w84 ⟨⟨p84, q84, r84, s84, rfl, h84⟩, g84⟩
 refine ⟨_, rfl, ?_⟩
 replace hB := hB.trans g84
 replace L11 := L11.gr g84
 replace L12 := L12.gr g84
 replace L13 := L13.gr g84
 refine ⟨⟨L11, L12, L13⟩, ?_⟩
 simp only [p3, p4]
 refine oe ?_
 replace h8 := h8.kp g84.kp
 replace h9 := h9.kp g84.kp
 refine ec 52 (add_r h8 h9 (by omega)) ?_
 rintro e88 w88 ⟨⟨p88, q88, r88, s88, rfl, h88⟩, g88⟩
 refine ⟨_, rfl, ?_⟩
 replace hB := hB.trans g88
 replace L11 := L11.gr g88
 replace L12 := L12.gr g88
 replace L13 := L13.gr g88
 refine ⟨⟨L11, L12, L13⟩, ?_⟩
 simp only [p3, p4]
 refine oe ?_
 have kq91 := g84.kp.trans g88.kp
 replace h10 := h10.kp kq91
 refine ec 54 (add_r h88 h10 (by omega)) ?_
 rintro e90 w90 ⟨⟨p90, q90, r90, s90, rfl, h90⟩, g90⟩
 refine ⟨_, rfl, ?_⟩
 replace hB := hB.trans g90
 replace L11 := L11.gr g90
 replace L12 := L12.gr g90
 replace L13 := L13.gr g90
 refine ⟨⟨L11, L12, L13⟩, ?_⟩
 simp only [p3, p4]
 refine oe ?_
 have kq94 := g88.kp.trans g90.kp
 replace h84 := h84.kp kq94
 refine ec 55 (same_t h84 h90 (by omega) (ht.gr hB) (lawFi1 a b c )) ?_
 rintro e93 w93 ⟨rfl, g93⟩
 refine ⟨_, rfl, ?_⟩
 replace hB := hB.trans g93
 replace L11 := L11.gr g93
 replace L12 := L12.gr g93
 replace L13 := L13.gr g93
 refine ⟨⟨L11, L12, L13⟩, ?_⟩
 simp only [p3, p4]
 refine ov 56 (.bool false) ?_
 simp only [p3, p4]
 refine ov 57 (.bool false) ?_
 simp only [p3, p4]
 refine ov 58 (.bool false) ?_
 simp only [p3, p4]
 refine ov 59 (.func (.func 63) #[] #[]) ?_
 simp only [p3, p4]
 refine oe ?_
 refine ec 60 (sum_0 _) ?_
 rintro e96 w96 ⟨⟨p96, q96, r96, s96, rfl, h96⟩, g96⟩
 refine ⟨_, rfl, ?_⟩
 replace hB := hB.trans g96
 replace L11 := L11.gr g96
 replace L12 := L12.gr g96
 replace L13 := L13.gr g96
 refine ⟨⟨L11, L12, L13⟩, ?_⟩
 simp only [p3, p4]
 refine oe ?_
 refine ec 61 (from_r (0) (by omega) (by omega) _) ?_
 rintro e98 w98 ⟨⟨p98, q98, r98, s98, rfl, h98⟩, g98⟩
 refine ⟨_, rfl, ?_⟩
 replace hB := hB.trans g98
 replace L11 := L11.gr g98
 replace L12 := L12.gr g98
 replace L13 := L13.gr g98
 refine ⟨⟨L11, L12, L13⟩, ?_⟩
 simp only [p3, p4]
 refine oe ?_
 replace h96 := h96.kp g98.kp
 refine ec 62 (same_t h96 h98 (by omega) (ht.gr hB) (lawFi2  )) ?_
 rintro e100 w100 ⟨rfl, g100⟩
 refine ⟨_, rfl, ?_⟩
 replace hB := hB.trans g100
 replace L11 := L11.gr g100
 replace L12 := L12.gr g100
 replace L13 := L13.gr g100
 refine ⟨⟨L11, L12, L13⟩, ?_⟩
 simp only [p3, p4]
 refine ov 63 (.bool false) ?_
 simp only [p3, p4]
 refine ov 64 (.bool false) ?_
 simp only [p3, p4]
 refine ov 65 (.bool false) ?_
 simp only [p3, p4]
 refine ov 66 (.func (.func 63) #[] #[]) ?_
 simp only [p3, p4]
 refine ow 67 (.agg #[p8, q8, r8, s8]) rfl (fun w' hS => (rl 31 0 [p8, q8, r8, s8] hS.1)) ?_
 simp only [p3, p4]
 refine ow 70 (.agg #[p8, q8, r8, s8]) rfl (fun w' hS => (rl 31 0 [p8, q8, r8, s8] hS.1)) ?_
 simp only [p3, p4]
 refine oe ?_
 refine eff_bs 31 1 #[p8, q8, r8, s8] (some 68) rfl (fun _ => by kernel_rfl) (fun b102 w102 g102 L102 q102 => ?_)
 replace hB := hB.trans g102
 replace L11 := L11.gr g102
 replace L12 := L12.gr g102
 replace L13 := L13.gr g102
 refine ⟨⟨L11, L12, L13⟩, ?_⟩
 simp only [putl, p3, p4]
 refine oe ?_
 have kq105 := g88.kp.trans (g90.kp.trans (g93.kp.trans (g96.kp.trans (g98.kp.trans (g100.kp.trans g102.kp)))))
 replace h8 := h8.kp kq105
 refine ec 69 (sum_1 h8 L102 (by omega)) ?_
 rintro e104 w104 ⟨⟨p104, q104, r104, s104, rfl, h104⟩, g104⟩
 refine ⟨_, rfl, ?_⟩
 replace hB := hB.trans g104
 replace L11 := L11.gr g104
 replace L12 := L12.gr g104
 replace L13 := L13.gr g104
 refine ⟨⟨L11, L12, L13⟩, ?_⟩
 simp only [p3, p4]
 refine oe ?_
 replace h8 := h8.kp g104.kp
 refine ec 71 (same_t h104 h8 (by omega) (ht.gr hB) (lawFi3 a )) ?_
 rintro e107 w107 ⟨rfl, g107⟩
 refine ⟨_, rfl, ?_⟩
 replace hB := hB.trans g107
 replace L11 := L11.gr g107
 replace L12 := L12.gr g107
 replace L13 := L13.gr g107
 refine ⟨⟨L11, L12, L13⟩, ?_⟩
 simp only [p3, p4]
 refine ov 72 (.bool false) ?_
 simp only [p3, p4]
 refine ov 73 (.bool false) ?_
 simp only [p3, p4]
 refine ord_nil ?_
 refine k19 _ _ ?_
 try clear k19 K19
 refine wp_cond_false rfl ?_
 refine wp_skip ?_
 refine k18 _ _ ?_
 try clear k18 K18
 refine wp_seq_k (fun K108 k108 => ?_)
 refine wp_seq_k (fun K109 k109 => ?_)
 have gd145 := Gr.drew w107
 replace hB := hB.trans gd145
 replace L11 := L11.gr gd145
 replace L12 := L12.gr gd145
 replace L13 := L13.gr gd145
 refine wp_region_ord (fun w' => Lc w' b11 #[p8, q8, r8, s8] 31 ∧ Lc w' b12 #[p9, q9, r9, s9] 31 ∧ Lc w' b13 #[p10, q10, r10, s10] 31) [(true, 0), (true, 1), (true, 2), (true, 4), (true, 6), (true, 7), (true, 8), (false, 3), (false, 5), (false, 9), (false, 10), (false, 11), (true, 12), (true, 13), (true, 14), (true, 15), (true, 16), (true, 18), (true, 20), (true, 21), (true, 23), (true, 24), (false, 17), (false, 19), (false, 22), (false, 25), (false, 26), (false, 27), (true, 28), (true, 29)] (by kernel_rfl) (by kernel_rfl) (by kernel_rfl) (by decide) (fun _ _ _ _ _ h => h) ⟨L11, L12, L13⟩ ?_
 refine ov 74 (.func (.func 63) #[] #[]) ?_
 simp only [p3, p4]
 refine ow 75 (.agg #[p8, q8, r8, s8]) rfl (fun w' hS => (rl 31 0 [p8, q8, r8, s8] hS.1)) ?_
 simp only [p3, p4]
 refine ow 76 (.agg #[p9, q9, r9, s9]) rfl (fun w' hS => (rl 31 0 [p9, q9, r9, s9] hS.2.1)) ?_
 simp only [p3, p4]
 refine ow 78 (.agg #[p10, q10, r10, s10]) rfl (fun w' hS => (rl 31 0 [p10, q10, r10, s10] hS.2.2)) ?_
 simp only [p3, p4]
 refine ow 80 (.agg #[p8, q8, r8, s8]) rfl (fun w' hS => (rl 31 0 [p8, q8, r8, s8] hS.1)) ?_
 simp only [p3, p4]
 refine ow 81 (.agg #[p9, q9, r9, s9]) rfl (fun w' hS => (rl 31 0 [p9, q9, r9, s9] hS.2.1)) ?_
 simp only [p3, p4]
 refine ow 82 (.agg #[p10, q10, r10, s10]) rfl (fun w' hS => (rl 31 0 [p10, q10, r10, s10] hS.2.2)) ?_
 simp only [p3, p4]
 refine oe ?_
 have kq148 := g107.kp.trans gd145.kp
 replace h8 := h8.kp kq148
 have kq149 := g88.kp.trans (g90.kp.trans (g93.kp.trans (g96.kp.trans (g98.kp.trans (g100.kp.trans (g102.kp.trans (g104.kp.trans (g107.kp.trans gd145.kp))))))))
 replace h9 := h9.kp kq149
 refine ec 77 (mul_r h8 h9 (by omega)) ?_
 rintro e147 w147 ⟨⟨p147, q147, r147, s147, rfl, h147⟩, g147⟩
 refine ⟨_, rfl, ?_⟩
 replace hB := hB.trans g147
 replace L11 := L11.gr g147
 replace L12 := L12.gr g147
 replace L13 := L13.gr g147
 refine ⟨⟨L11, L12, L13⟩, ?_⟩
 simp only [p3, p4]
 refine oe ?_
 have kq152 := g90.kp.trans (g93.kp.trans (g96.kp.trans (g98.kp.trans (g100.kp.trans (g102.kp.trans (g104.kp.trans (g107.kp.trans (gd145.kp.trans g147.kp))))))))
 replace h10 := h10.kp kq152
 refine ec 79 (mul_r h147 h10 (by omega)) ?_
 rintro e151 w151 ⟨⟨p151, q151, r151, s151, rfl, h151⟩, g151⟩
 refine ⟨_, rfl, ?_⟩
 replace hB := hB.trans g151
 replace L11 := L11.gr g151
 replace L12 := L12.gr g151
 replace L13 := L13.gr g151
 refine ⟨⟨L11, L12, L13⟩, ?_⟩
 simp only [p3, p4]
 refine oe ?_
 have kq155 := g147.kp.trans g151.kp
 replace h9 := h9.kp kq155
 replace h10 := h10.kp g151.kp
 refine ec 83 (mul_r h9 h10 (by omega)) ?_
 rintro e154 w154 ⟨⟨p154, q154, r154, s154, rfl, h154⟩, g154⟩
 refine ⟨_, rfl, ?_⟩
 replace hB := hB.trans g154
 replace L11 := L11.gr g154
 replace L12 := L12.gr g154
 replace L13 := L13.gr g154
 refine ⟨⟨L11, L12, L13⟩, ?_⟩
 simp only [p3, p4]
 refine oe ?_
 have kq158 := g147.kp.trans (g151.kp.trans g154.kp)
 replace h8 := h8.kp kq158
 refine ec 84 (mul_r h8 h154 (by omega)) ?_
 rintro e157 w157 ⟨⟨p157, q157, r157, s157, rfl, h157⟩, g157⟩
 refine ⟨_, rfl, ?_⟩
 replace hB := hB.trans g157
 replace L11 := L11.gr g157
 replace L12 := L12.gr g157
 replace L13 := L13.gr g157
 refine ⟨⟨L11, L12, L13⟩, ?_⟩
 simp only [p3, p4]
 refine oe ?_
 have kq161 := g154.kp.trans g157.kp
 replace h151 := h151.kp kq161
 refine ec 85 (same_t h151 h157 (by omega) (ht.gr hB) (lawFi4 a b c )) ?_
 rintro e160 w160 ⟨rfl, g160⟩
 refine ⟨_, rfl, ?_⟩
 replace hB := hB.trans g160
 replace L11 := L11.gr g160
 replace L12 := L12.gr g160
 replace L13 := L13.gr g160
 refine ⟨⟨L11, L12, L13⟩, ?_⟩
 simp only [p3, p4]
 refine ov 86 (.bool false) ?_
 simp only [p3, p4]
 refine ov 87 (.bool false) ?_
 simp only [p3, p4]
 refine ov 88 (.func (.func 63) #[] #[]) ?_
 simp only [p3, p4]
 refine ow 89 (.agg #[p8, q8, r8, s8]) rfl (fun w' hS => (rl 31 0 [p8, q8, r8, s8] hS.1)) ?_
 simp only [p3, p4]
 refine ow 90 (.agg #[p9, q9, r9, s9]) rfl (fun w' hS => (rl 31 0 [p9, q9, r9, s9] hS.2.1)) ?_
 simp only [p3, p4]
 refine ow 92 (.agg #[p10, q10, r10, s10]) rfl (fun w' hS => (rl 31 0 [p10, q10, r10, s10] hS.2.2)) ?_
 simp only [p3, p4]
 refine ow 94 (.agg #[p8, q8, r8, s8]) rfl (fun w' hS => (rl 31 0 [p8, q8, r8, s8] hS.1)) ?_
 simp only [p3, p4]
 refine ow 95 (.agg #[p10, q10, r10, s10]) rfl (fun w' hS => (rl 31 0 [p10, q10, r10, s10] hS.2.2)) ?_
 simp only [p3, p4]
 refine ow 97 (.agg #[p9, q9, r9, s9]) rfl (fun w' hS => (rl 31 0 [p9, q9, r9, s9] hS.2.1)) ?_
 simp only [p3, p4]
 refine ow 98 (.agg #[p10, q10, r10, s10]) rfl (fun w' hS => (rl 31 0 [p10, q10, r10, s10] hS.2.2)) ?_
 simp only [p3, p4]
 refine oe ?_
 have kq164 := g157.kp.trans g160.kp
 replace h8 := h8.kp kq164
 have kq165 := g154.kp.trans (g157.kp.trans g160.kp)
 replace h9 := h9.kp kq165
 refine ec 91 (add_r h8 h9 (by omega)) ?_
 rintro e163 w163 ⟨⟨p163, q163, r163, s163, rfl, h163⟩, g163⟩
 refine ⟨_, rfl, ?_⟩
 replace hB := hB.trans g163
 replace L11 := L11.gr g163
 replace L12 := L12.gr g163
 replace L13 := L13.gr g163
 refine ⟨⟨L11, L12, L13⟩, ?_⟩
 simp only [p3, p4]
 refine oe ?_
 have kq168 := g154.kp.trans (g157.kp.trans (g160.kp.trans g163.kp))
 replace h10 := h10.kp kq168
 refine ec 93 (mul_r h163 h10 (by omega)) ?_
 rintro e167 w167 ⟨⟨p167, q167, r167, s167, rfl, h167⟩, g167⟩
 refine ⟨_, rfl, ?_⟩
 replace hB := hB.trans g167
 replace L11 := L11.gr g167
 replace L12 := L12.gr g167
 replace L13 := L13.gr g167
 refine ⟨⟨L11, L12, L13⟩, ?_⟩
 simp only [p3, p4]
 refine oe ?_
 have kq171 := g163.kp.trans g167.kp
 replace h8 := h8.kp kq171
 replace h10 := h10.kp g167.kp
 refine ec 96 (mul_r h8 h10 (by omega)) ?_
 rintro e170 w170 ⟨⟨p170, q170, r170, s170, rfl, h170⟩, g170⟩
 refine ⟨_, rfl, ?_⟩
 replace hB := hB.trans g170
 replace L11 := L11.gr g170
 replace L12 := L12.gr g170
 replace L13 := L13.gr g170
 refine ⟨⟨L11, L12, L13⟩, ?_⟩
 simp only [p3, p4]
 refine oe ?_
 have kq174 := g163.kp.trans (g167.kp.trans g170.kp)
 replace h9 := h9.kp kq174
 replace h10 := h10.kp g170.kp
 refine ec 99 (mul_r h9 h10 (by omega)) ?_
 rintro e173 w173 ⟨⟨p173, q173, r173, s173, rfl, h173⟩, g173⟩
 refine ⟨_, rfl, ?_⟩
 replace hB := hB.trans g173
 replace L11 := L11.gr g173
 replace L12 := L12.gr g173
 replace L13 := L13.gr g173
 refine ⟨⟨L11, L12, L13⟩, ?_⟩
 simp only [p3, p4]
 refine oe ?_
 replace h170 := h170.kp g173.kp
 refine ec 100 (add_r h170 h173 (by omega)) ?_
 rintro e176 w176 ⟨⟨p176, q176, r176, s176, rfl, h176⟩, g176⟩
 refine ⟨_, rfl, ?_⟩
 replace hB := hB.trans g176
 replace L11 := L11.gr g176
 replace L12 := L12.gr g176
 replace L13 := L13.gr g176
 refine ⟨⟨L11, L12, L13⟩, ?_⟩
 simp only [p3, p4]
 refine oe ?_
 have kq179 := g170.kp.trans (g173.kp.trans g176.kp)
 replace h167 := h167.kp kq179
 refine ec 101 (same_t h167 h176 (by omega) (ht.gr hB) (lawFi5 a b c )) ?_
 rintro e178 w178 ⟨rfl, g178⟩
 refine ⟨_, rfl, ?_⟩
 replace hB := hB.trans g178
 replace L11 := L11.gr g178
 replace L12 := L12.gr g178
 replace L13 := L13.gr g178
 refine ⟨⟨L11, L12, L13⟩, ?_⟩
 simp only [p3, p4]
 refine ov 102 (.bool false) ?_
 simp only [p3, p4]
 refine ov 103 (.bool false) ?_
 simp only [p3, p4]
 refine ord_nil ?_
 refine k109 _ _ ?_
 try clear k109 K109
 refine wp_cond_false rfl ?_
 refine wp_skip ?_
 refine k108 _ _ ?_
 try clear k108 K108
 refine wp_seq_k (fun K180 k180 => ?_)
 refine rg [0, 1, 2, 3, 4, 5, 6, 7, 8] ?_
 refine sw 105 (.agg #[p8, q8, r8, s8]) rfl (rl 31 0 [p8, q8, r8, s8] L11) ?_
 simp only [p3, p4]
 refine sw 106 (.agg #[p9, q9, r9, s9]) rfl (rl 31 0 [p9, q9, r9, s9] L12) ?_
 simp only [p3, p4]
 refine se ?_
 have kq182 := g170.kp.trans (g173.kp.trans (g176.kp.trans g178.kp))
 replace h8 := h8.kp kq182
 have kq183 := g173.kp.trans (g176.kp.trans g178.kp)
 replace h9 := h9.kp kq183
 refine ec 107 (div_0 h8 h9 h0) ?_
 rintro e181 w181 ⟨rfl, g181⟩
 refine ⟨_, rfl, ?_⟩
 replace hB := hB.trans g181
 simp only [p3, p4]
 refine sv 104 (.tuple #[(.agg #[(.bool false), (.slice none 0 0), (.bool false), (.slice none 0 0)]), (.int .i64 19)]) ?_
 simp only [p3, p4]
 refine sv 108 (.agg #[(.bool false), (.slice none 0 0), (.bool false), (.slice none 0 0)]) ?_
 simp only [p3, p4]
 refine sv 109 (.int .i64 19) ?_
 simp only [p3, p4]
 refine se ?_
 refine ea 31 #[(.bool false), (.slice none 0 0), (.bool false), (.slice none 0 0)] 11 hB fun b184 w184 g184 L184 o184 q184 hB => ?_
 replace L12 := L12.gr g181
 have ne12_184 := L12.ne o184
 simp only [p3, p4]
 refine se ?_
 refine es 31 0 (.agg #[(.bool false), (.slice none 0 0), (.bool false), (.slice none 0 0)]) [(.bool false), (.slice none 0 0), (.bool false), (.slice none 0 0)] #[(.bool false), (.slice none 0 0), (.bool false), (.slice none 0 0)] L184 hB q184 ⟨rfl, rfl, rfl, rfl, trivial⟩ fun w185 st185 kp185 L184 hB => ?_
 refine sv 12 (.int .i64 19) ?_
 simp only [p3, p4]
 refine sq_nil ?_
 refine k180 _ _ ?_
 try clear k180 K180
 refine wp_seq_k (fun K186 k186 => ?_)
 refine wp_seq_k (fun K187 k187 => ?_)
 refine rg [0, 1, 2] ?_
 replace L12 := st185.lc (L12.gr g184) ne12_184
 refine sw 110 (.agg #[p9, q9, r9, s9]) rfl (rl 31 0 [p9, q9, r9, s9] L12) ?_
 simp only [p3, p4]
 refine se ?_
 have kq189 := g181.kp.trans (g184.kp.trans kp185)
 replace h9 := h9.kp kq189
 refine ec 111 (sign_r h9) ?_
 rintro e188 w188 ⟨rfl, g188⟩
 refine ⟨_, rfl, ?_⟩
 replace hB := hB.trans g188
 simp only [p3, p4]
 refine sw 112 (.bool true) rfl (RunV.bool (x := (sgn (b).num == (0 : Int))) (rvk (by kernel_rfl)) hz) ?_
 simp only [p3, p4]
 refine sq_nil ?_
 refine k187 _ _ ?_
 try clear k187 K187
 refine wp_cond_true rfl ?_
 refine wp_seq_k (fun K190 k190 => ?_)
 refine rg [0, 1, 2] ?_
 refine sv 113 (.int .i64 19) ?_
 simp only [p3, p4]
 refine sv 114 (.bool true) ?_
 simp only [p3, p4]
 refine sv 6 (.bool true) ?_
 simp only [p3, p4]
 refine sq_nil ?_
 refine k190 _ _ ?_
 try clear k190 K190
 refine wp_ret ?_
 simp only [Exit.then]
 refine bodyPost_ret (v := (.bool true)) (ret_tmp rfl rfl) rfl ⟨?_, hB⟩
 exact rfl

theorem lawFi6 (a b : Rat) (_h0 : b.num ≠ 0) : (((a / b) * b) : Rat) = a := by have hb : b ≠ 0 := (fun e => _h0 (by rw [e]; rfl)); grind
theorem lawFi7 (a b : Rat)  : (((a + b) - b) : Rat) = a := by grind
set_option maxRecDepth 100000 in
set_option maxHeartbeats 8000000 in
theorem field_q (a : Rat) (ha : Sz 160 a.num ∧ Sz 160 (a.den : Int)) (la : okT (ratL (a)) = true) (b : Rat) (hb : Sz 160 b.num ∧ Sz 160 (b.den : Int)) (lb : okT (ratL (b)) = true) (c : Rat) (hc : Sz 160 c.num ∧ Sz 160 (c.den : Int)) (lc : okT (ratL (c)) = true) (h0 : b.num ≠ 0) (w : World) (ht : Tab w) (hm : Mx w) :
    Calls Tryz.prog 12 #[(.string ⟨(ratL (a) : List UInt8).toArray⟩), (.string ⟨(ratL (b) : List UInt8).toArray⟩), (.string ⟨(ratL (c) : List UInt8).toArray⟩)] w fun e w' => e = .returned (.bool true) ∧ Gr w w' := by
 have lok : ((okT (ratL (a)) && okT (ratL (b))) && okT (ratL (c))) = true := okT_3 la lb lc
 have hz : (sgn (b).num == (0 : Int)) = false := (by rw [beq_eq_false_iff_ne]; exact fun e => h0 (sgn_eq_zero.1 e))
 go_enter Tryz.func12, Tryz.ntmps12
 have hB := Gr.refl w
 refine wp_seq_k (fun K1 k1 => ?_)
 refine rg [0] ?_
 refine sv 6 (.bool false) ?_
 simp only [p3, p4]
 refine sq_nil ?_
 refine k1 _ _ ?_
 try clear k1 K1
 refine wp_seq_k (fun K2 k2 => ?_)
 refine wp_seq_k (fun K3 k3 => ?_)
 refine rg [0, 1, 2, 3, 4, 5, 6, 7, 8, 9] ?_
 refine se ?_
 refine ec 13 (known2 _ (ht.gr hB)) ?_
 rintro e4 w4 ⟨rfl, g4⟩
 refine ⟨_, rfl, ?_⟩
 replace hB := hB.trans g4
 simp only [p3, p4]
 refine sv 14 (.bool false) ?_
 simp only [p3, p4]
 refine sv 15 (.bool false) ?_
 simp only [p3, p4]
 refine sv 16 (.string ⟨(ratL (a) : List UInt8).toArray⟩) ?_
 simp only [p3, p4]
 refine sv 17 (.string ⟨(ratL (b) : List UInt8).toArray⟩) ?_
 simp only [p3, p4]
 refine sv 18 (.string ⟨(ratL (c) : List UInt8).toArray⟩) ?_
 simp only [p3, p4]
 refine se ?_
 refine eff_bs 9 3 #[(.string ⟨(ratL (a) : List UInt8).toArray⟩), (.string ⟨(ratL (b) : List UInt8).toArray⟩), (.string ⟨(ratL (c) : List UInt8).toArray⟩)] (some 19) rfl (fun _ => by kernel_rfl) (fun b5 w5 g5 L5 q5 => ?_)
 replace hB := hB.trans g5
 simp only [putl, p3, p4]
 refine se ?_
 refine ec 20 (right3 (ratL (a)) (ratL (b)) (ratL (c)) L5) ?_
 rintro e6 w6 ⟨rfl, g6⟩
 refine ⟨_, rfl, ?_⟩
 replace hB := hB.trans g6
 simp only [p3, p4]
 refine sw 21 (.bool false) rfl (RunV.bool (x := !(((okT (ratL (a)) && okT (ratL (b))) && okT (ratL (c))))) (rvk (by kernel_rfl)) (show (!(((okT (ratL (a)) && okT (ratL (b))) && okT (ratL (c))))) = false by rw [lok]; rfl)) ?_
 simp only [p3, p4]
 refine sv 22 (.bool false) ?_
 simp only [p3, p4]
 refine sq_nil ?_
 refine k3 _ _ ?_
 try clear k3 K3
 refine wp_cond_false rfl ?_
 refine wp_skip ?_
 refine k2 _ _ ?_
 try clear k2 K2
 refine wp_seq_k (fun K7 k7 => ?_)
 refine rg [0, 1, 2, 3, 4, 5, 6, 7, 8, 9, 10, 11] ?_
 refine sv 24 (.string ⟨(ratL (a) : List UInt8).toArray⟩) ?_
 simp only [p3, p4]
 refine se ?_
 refine ec 25 (lread_q a ha la _ (hm.gr hB)) ?_
 rintro e8 w8 ⟨⟨p8, q8, r8, s8, rfl, h8⟩, g8⟩
 refine ⟨_, rfl, ?_⟩
 replace hB := hB.trans g8
 simp only [p3, p4]
 refine sv 26 (.string ⟨(ratL (b) : List UInt8).toArray⟩) ?_
 simp only [p3, p4]
 refine se ?_
 refine ec 27 (lread_q b hb lb _ (hm.gr hB)) ?_
 rintro e9 w9 ⟨⟨p9, q9, r9, s9, rfl, h9⟩, g9⟩
 refine ⟨_, rfl, ?_⟩
 replace hB := hB.trans g9
 simp only [p3, p4]
 refine sv 28 (.string ⟨(ratL (c) : List UInt8).toArray⟩) ?_
 simp only [p3, p4]
 refine se ?_
 refine ec 29 (lread_q c hc lc _ (hm.gr hB)) ?_
 rintro e10 w10 ⟨⟨p10, q10, r10, s10, rfl, h10⟩, g10⟩
 refine ⟨_, rfl, ?_⟩
 replace hB := hB.trans g10
 simp only [p3, p4]
 refine se ?_
 refine ea 31 #[(.bool false), (.slice none 0 0), (.bool false), (.slice none 0 0)] 7 hB fun b11 w11 g11 L11 o11 q11 hB => ?_
 simp only [p3, p4]
 refine se ?_
 refine ea 31 #[(.bool false), (.slice none 0 0), (.bool false), (.slice none 0 0)] 8 hB fun b12 w12 g12 L12 o12 q12 hB => ?_
 have ne11_12 := L11.ne o12
 simp only [p3, p4]
 refine se ?_
 refine ea 31 #[(.bool false), (.slice none 0 0), (.bool false), (.slice none 0 0)] 9 hB fun b13 w13 g13 L13 o13 q13 hB => ?_
 replace L11 := L11.gr g12
 have ne11_13 := L11.ne o13
 have ne12_13 := L12.ne o13
 simp only [p3, p4]
 refine se ?_
 replace L11 := L11.gr g13
 refine es 31 0 (.agg #[p8, q8, r8, s8]) [p8, q8, r8, s8] #[p8, q8, r8, s8] L11 hB q11 ⟨h8.one0, h8.one1, h8.one2, h8.one3, trivial⟩ fun w14 st14 kp14 L11 hB => ?_
 refine se ?_
 replace L12 := st14.lc (L12.gr g13) (Ne.symm ne11_12)
 refine es 31 0 (.agg #[p9, q9, r9, s9]) [p9, q9, r9, s9] #[p9, q9, r9, s9] L12 hB q12 ⟨h9.one0, h9.one1, h9.one2, h9.one3, trivial⟩ fun w15 st15 kp15 L12 hB => ?_
 refine se ?_
 replace L13 := st15.lc (st14.lc L13 (Ne.symm ne11_13)) (Ne.symm ne12_13)
 refine es 31 0 (.agg #[p10, q10, r10, s10]) [p10, q10, r10, s10] #[p10, q10, r10, s10] L13 hB q13 ⟨h10.one0, h10.one1, h10.one2, h10.one3, trivial⟩ fun w16 st16 kp16 L13 hB => ?_
 refine sq_nil ?_
 refine k7 _ _ ?_
 try clear k7 K7
 refine wp_seq_k (fun K17 k17 => ?_)
 refine rg [0] ?_
 refine sv 10 (.func (.func 63) #[] #[]) ?_
 simp only [p3, p4]
 refine sq_nil ?_
 refine k17 _ _ ?_
 try clear k17 K17
 refine wp_seq_k (fun K18 k18 => ?_)
 refine wp_seq_k (fun K19 k19 => ?_)
 have gd64 := Gr.drew w16
 replace hB := hB.trans gd64
 replace L11 := (st16.lc (st15.lc L11 ne11_12) ne11_13).gr gd64
 replace L12 := (st16.lc L12 ne12_13).gr gd64
 replace L13 := L13.gr gd64
 refine wp_region_ord (fun w' => Lc w' b11 #[p8, q8, r8, s8] 31 ∧ Lc w' b12 #[p9, q9, r9, s9] 31 ∧ Lc w' b13 #[p10, q10, r10, s10] 31) [(true, 0), (true, 1), (true, 2), (true, 4), (true, 6), (true, 7), (true, 8), (false, 3), (false, 5), (false, 9), (false, 10), (false, 11), (true, 12), (true, 13), (true, 14), (true, 15), (true, 16), (true, 17), (true, 20), (true, 21), (true, 23), (false, 18), (false, 19), (false, 22), (false, 24), (false, 25), (true, 26), (true, 27), (true, 28), (true, 29), (false, 30), (false, 31), (false, 32), (true, 33), (true, 34), (true, 35), (true, 36), (true, 37), (true, 40), (false, 38), (false, 39), (false, 41), (true, 42), (true, 43)] (by kernel_rfl) (by kernel_rfl) (by kernel_rfl) (by decide) (fun _ _ _ _ _ h => h) ⟨L11, L12, L13⟩ ?_
 refine ov 30 (.func (.func 63) #[] #[]) ?_
 simp only [p3, p4]
 refine ow 31 (.agg #[p8, q8, r8, s8]) rfl (fun w' hS => (rl 31 0 [p8, q8, r8, s8] hS.1)) ?_
 simp only [p3, p4]
 refine ow 32 (.agg #[p9, q9, r9, s9]) rfl (fun w' hS => (rl 31 0 [p9, q9, r9, s9] hS.2.1)) ?_
 simp only [p3, p4]
 refine ow 34 (.agg #[p10, q10, r10, s10]) rfl (fun w' hS => (rl 31 0 [p10, q10, r10, s10] hS.2.2)) ?_
 simp only [p3, p4]
 refine ow 36 (.agg #[p8, q8, r8, s8]) rfl (fun w' hS => (rl 31 0 [p8, q8, r8, s8] hS.1)) ?_
 simp only [p3, p4]
 refine ow 37 (.agg #[p9, q9, r9, s9]) rfl (fun w' hS => (rl 31 0 [p9, q9, r9, s9] hS.2.1)) ?_
 simp only [p3, p4]
 refine ow 38 (.agg #[p10, q10, r10, s10]) rfl (fun w' hS => (rl 31 0 [p10, q10, r10, s10] hS.2.2)) ?_
 simp only [p3, p4]
 refine oe ?_
 have kq67 := g9.kp.trans (g10.kp.trans (g11.kp.trans (g12.kp.trans (g13.kp.trans (kp14.trans (kp15.trans (kp16.trans gd64.kp)))))))
 replace h8 := h8.kp kq67
 have kq68 := g10.kp.trans (g11.kp.trans (g12.kp.trans (g13.kp.trans (kp14.trans (kp15.trans (kp16.trans gd64.kp))))))
 replace h9 := h9.kp kq68
 refine ec 33 (add_r h8 h9 (by omega)) ?_
 rintro e66 w66 ⟨⟨p66, q66, r66, s66, rfl, h66⟩, g66⟩
 refine ⟨_, rfl, ?_⟩
 replace hB := hB.trans g66
 replace L11 := L11.gr g66
 replace L12 := L12.gr g66
 replace L13 := L13.gr g66
 refine ⟨⟨L11, L12, L13⟩, ?_⟩
 simp only [p3, p4]
 refine oe ?_
 have kq71 := g11.kp.trans (g12.kp.trans (g13.kp.trans (kp14.trans (kp15.trans (kp16.trans (gd64.kp.trans g66.kp))))))
 replace h10 := h10.kp kq71
 refine ec 35 (add_r h66 h10 (by omega)) ?_
 rintro e70 w70 ⟨⟨p70, q70, r70, s70, rfl, h70⟩, g70⟩
 refine ⟨_, rfl, ?_⟩
 replace hB := hB.trans g70
 replace L11 := L11.gr g70
 replace L12 := L12.gr g70
 replace L13 := L13.gr g70
 refine ⟨⟨L11, L12, L13⟩, ?_⟩
 simp only [p3, p4]
 refine oe ?_
 have kq74 := g66.kp.trans g70.kp
 replace h9 := h9.kp kq74
 replace h10 := h10.kp g70.kp
 refine ec 39 (add_r h9 h10 (by omega)) ?_
 rintro e73 w73 ⟨⟨p73, q73, r73, s73, rfl, h73⟩, g73⟩
 refine ⟨_, rfl, ?_⟩
 replace hB := hB.trans g73
 replace L11 := L11.gr g73
 replace L12 := L12.gr g73
 replace L13 := L13.gr g73
 refine ⟨⟨L11, L12, L13⟩, ?_⟩
 simp only [p3, p4]
 refine oe ?_
 have kq77 := g66.kp.trans (g70.kp.trans g73.kp)
 replace h8 := h8.kp kq77
 refine ec 40 (add_r h8 h73 (by omega)) ?_
 rintro e76 w76 ⟨⟨p76, q76, r76, s76, rfl, h76⟩, g76⟩
 refine ⟨_, rfl, ?_⟩
 replace hB := hB.trans g76
 replace L11 := L11.gr g76
 replace L12 := L12.gr g76
 replace L13 := L13.gr g76
 refine ⟨⟨L11, L12, L13⟩, ?_⟩
 simp only [p3, p4]
 refine oe ?_
 have kq80 := g73.kp.trans g76.kp
 replace h70 := h70.kp kq80
 refine ec 41 (same_t h70 h76 (by omega) (ht.gr hB) (lawFi0 a b c )) ?_
 rintro e79 w79 ⟨rfl, g79⟩
 refine ⟨_, rfl, ?_⟩
 replace hB := hB.trans g79
 replace L11 := L11.gr g79
 replace L12 := L12.gr g79
 replace L13 := L13.gr g79
 refine ⟨⟨L11, L12, L13⟩, ?_⟩
 simp only [p3, p4]
 refine ov 42 (.bool false) ?_
 simp only [p3, p4]
 refine ov 43 (.bool false) ?_
 simp only [p3, p4]
 refine ov 44 (.func (.func 63) #[] #[]) ?_
 simp only [p3, p4]
 refine ow 45 (.agg #[p8, q8, r8, s8]) rfl (fun w' hS => (rl 31 0 [p8, q8, r8, s8] hS.1)) ?_
 simp only [p3, p4]
 refine ow 46 (.agg #[p9, q9, r9, s9]) rfl (fun w' hS => (rl 31 0 [p9, q9, r9, s9] hS.2.1)) ?_
 simp only [p3, p4]
 refine ow 47 (.agg #[p10, q10, r10, s10]) rfl (fun w' hS => (rl 31 0 [p10, q10, r10, s10] hS.2.2)) ?_
 simp only [p3, p4]
 refine ow 50 (.agg #[p8, q8, r8, s8]) rfl (fun w' hS => (rl 31 0 [p8, q8, r8, s8] hS.1)) ?_
 simp only [p3, p4]
 refine ow 51 (.agg #[p9, q9, r9, s9]) rfl (fun w' hS => (rl 31 0 [p9, q9, r9, s9] hS.2.1)) ?_
 simp only [p3, p4]
 refine ow 53 (.agg #[p10, q10, r10, s10]) rfl (fun w' hS => (rl 31 0 [p10, q10, r10, s10] hS.2.2)) ?_
 simp only [p3, p4]
 refine oe ?_
 refine eff_bs 31 3 #[p8, q8, r8, s8, p9, q9, r9, s9, p10, q10, r10, s10] (some 48) rfl (fun _ => by kernel_rfl) (fun b82 w82 g82 L82 q82 => ?_)
 replace hB := hB.trans g82
 replace L11 := L11.gr g82
 replace L12 := L12.gr g82
 replace L13 := L13.gr g82
 refine ⟨⟨L11, L12, L13⟩, ?_⟩
 simp only [putl, p3, p4]
 refine oe ?_
 have kq85 := g76.kp.trans (g79.kp.trans g82.kp)
 replace h8 := h8.kp kq85
 have kq86 := g73.kp.trans (g76.kp.trans (g79.kp.trans g82.kp))
 replace h9 := h9.kp kq86
 replace h10 := h10.kp kq86
 refine ec 49 (sum_3 h8 h9 h10 L82 (by omega)) ?_
 rintro e84 w84 ⟨⟨p84, q84, r84, s84, rfl, h84⟩, g84⟩
 refine ⟨_, rfl, ?_⟩
 replace hB := hB.trans g84
 replace L11 := L11.gr g84
 replace L12 := L12.gr g84
 replace L13 := L13.gr g84
 refine ⟨⟨L11, L12, L13⟩, ?_⟩
 simp only [p3, p4]
 refine oe ?_
 replace h8 := h8.kp g84.kp
 replace h9 := h9.kp g84.kp
 refine ec 52 (add_r h8 h9 (by omega)) ?_
 rintro e88 w88 ⟨⟨p88, q88, r88, s88, rfl, h88⟩, g88⟩
 refine ⟨_, rfl, ?_⟩
 replace hB := hB.trans g88
 replace L11 := L11.gr g88
 replace L12 := L12.gr g88
 replace L13 := L13.gr g88
 refine ⟨⟨L11, L12, L13⟩, ?_⟩
 simp only [p3, p4]
 refine oe ?_
 have kq91 := g84.kp.trans g88.kp
 replace h10 := h10.kp kq91
 refine ec 54 (add_r h88 h10 (by omega)) ?_
 rintro e90 w90 ⟨⟨p90, q90, r90, s90, rfl, h90⟩, g90⟩
 refine ⟨_, rfl, ?_⟩
 replace hB := hB.trans g90
 replace L11 := L11.gr g90
 replace L12 := L12.gr g90
 replace L13 := L13.gr g90
 refine ⟨⟨L11, L12, L13⟩, ?_⟩
 simp only [p3, p4]
 refine oe ?_
 have kq94 := g88.kp.trans g90.kp
 replace h84 := h84.kp kq94
 refine ec 55 (same_t h84 h90 (by omega) (ht.gr hB) (lawFi1 a b c )) ?_
 rintro e93 w93 ⟨rfl, g93⟩
 refine ⟨_, rfl, ?_⟩
 replace hB := hB.trans g93
 replace L11 := L11.gr g93
 replace L12 := L12.gr g93
 replace L13 := L13.gr g93
 refine ⟨⟨L11, L12, L13⟩, ?_⟩
 simp only [p3, p4]
 refine ov 56 (.bool false) ?_
 simp only [p3, p4]
 refine ov 57 (.bool false) ?_
 simp only [p3, p4]
 refine ov 58 (.bool false) ?_
 simp only [p3, p4]
 refine ov 59 (.func (.func 63) #[] #[]) ?_
 simp only [p3, p4]
 refine oe ?_
 refine ec 60 (sum_0 _) ?_
 rintro e96 w96 ⟨⟨p96, q96, r96, s96, rfl, h96⟩, g96⟩
 refine ⟨_, rfl, ?_⟩
 replace hB := hB.trans g96
 replace L11 := L11.gr g96
 replace L12 := L12.gr g96
 replace L13 := L13.gr g96
 refine ⟨⟨L11, L12, L13⟩, ?_⟩
 simp only [p3, p4]
 refine oe ?_
 refine ec 61 (from_r (0) (by omega) (by omega) _) ?_
 rintro e98 w98 ⟨⟨p98, q98, r98, s98, rfl, h98⟩, g98⟩
 refine ⟨_, rfl, ?_⟩
 replace hB := hB.trans g98
 replace L11 := L11.gr g98
 replace L12 := L12.gr g98
 replace L13 := L13.gr g98
 refine ⟨⟨L11, L12, L13⟩, ?_⟩
 simp only [p3, p4]
 refine oe ?_
 replace h96 := h96.kp g98.kp
 refine ec 62 (same_t h96 h98 (by omega) (ht.gr hB) (lawFi2  )) ?_
 rintro e100 w100 ⟨rfl, g100⟩
 refine ⟨_, rfl, ?_⟩
 replace hB := hB.trans g100
 replace L11 := L11.gr g100
 replace L12 := L12.gr g100
 replace L13 := L13.gr g100
 refine ⟨⟨L11, L12, L13⟩, ?_⟩
 simp only [p3, p4]
 refine ov 63 (.bool false) ?_
 simp only [p3, p4]
 refine ov 64 (.bool false) ?_
 simp only [p3, p4]
 refine ov 65 (.bool false) ?_
 simp only [p3, p4]
 refine ov 66 (.func (.func 63) #[] #[]) ?_
 simp only [p3, p4]
 refine ow 67 (.agg #[p8, q8, r8, s8]) rfl (fun w' hS => (rl 31 0 [p8, q8, r8, s8] hS.1)) ?_
 simp only [p3, p4]
 refine ow 70 (.agg #[p8, q8, r8, s8]) rfl (fun w' hS => (rl 31 0 [p8, q8, r8, s8] hS.1)) ?_
 simp only [p3, p4]
 refine oe ?_
 refine eff_bs 31 1 #[p8, q8, r8, s8] (some 68) rfl (fun _ => by kernel_rfl) (fun b102 w102 g102 L102 q102 => ?_)
 replace hB := hB.trans g102
 replace L11 := L11.gr g102
 replace L12 := L12.gr g102
 replace L13 := L13.gr g102
 refine ⟨⟨L11, L12, L13⟩, ?_⟩
 simp only [putl, p3, p4]
 refine oe ?_
 have kq105 := g88.kp.trans (g90.kp.trans (g93.kp.trans (g96.kp.trans (g98.kp.trans (g100.kp.trans g102.kp)))))
 replace h8 := h8.kp kq105
 refine ec 69 (sum_1 h8 L102 (by omega)) ?_
 rintro e104 w104 ⟨⟨p104, q104, r104, s104, rfl, h104⟩, g104⟩
 refine ⟨_, rfl, ?_⟩
 replace hB := hB.trans g104
 replace L11 := L11.gr g104
 replace L12 := L12.gr g104
 replace L13 := L13.gr g104
 refine ⟨⟨L11, L12, L13⟩, ?_⟩
 simp only [p3, p4]
 refine oe ?_
 replace h8 := h8.kp g104.kp
 refine ec 71 (same_t h104 h8 (by omega) (ht.gr hB) (lawFi3 a )) ?_
 rintro e107 w107 ⟨rfl, g107⟩
 refine ⟨_, rfl, ?_⟩
 replace hB := hB.trans g107
 replace L11 := L11.gr g107
 replace L12 := L12.gr g107
 replace L13 := L13.gr g107
 refine ⟨⟨L11, L12, L13⟩, ?_⟩
 simp only [p3, p4]
 refine ov 72 (.bool false) ?_
 simp only [p3, p4]
 refine ov 73 (.bool false) ?_
 simp only [p3, p4]
 refine ord_nil ?_
 refine k19 _ _ ?_
 try clear k19 K19
 refine wp_cond_false rfl ?_
 refine wp_skip ?_
 refine k18 _ _ ?_
 try clear k18 K18
 refine wp_seq_k (fun K108 k108 => ?_)
 refine wp_seq_k (fun K109 k109 => ?_)
 have gd145 := Gr.drew w107
 replace hB := hB.trans gd145
 replace L11 := L11.gr gd145
 replace L12 := L12.gr gd145
 replace L13 := L13.gr gd145
 refine wp_region_ord (fun w' => Lc w' b11 #[p8, q8, r8, s8] 31 ∧ Lc w' b12 #[p9, q9, r9, s9] 31 ∧ Lc w' b13 #[p10, q10, r10, s10] 31) [(true, 0), (true, 1), (true, 2), (true, 4), (true, 6), (true, 7), (true, 8), (false, 3), (false, 5), (false, 9), (false, 10), (false, 11), (true, 12), (true, 13), (true, 14), (true, 15), (true, 16), (true, 18), (true, 20), (true, 21), (true, 23), (true, 24), (false, 17), (false, 19), (false, 22), (false, 25), (false, 26), (false, 27), (true, 28), (true, 29)] (by kernel_rfl) (by kernel_rfl) (by kernel_rfl) (by decide) (fun _ _ _ _ _ h => h) ⟨L11, L12, L13⟩ ?_
 refine ov 74 (.func (.func 63) #[] #[]) ?_
 simp only [p3, p4]
 refine ow 75 (.agg #[p8, q8, r8, s8]) rfl (fun w' hS => (rl 31 0 [p8, q8, r8, s8] hS.1)) ?_
 simp only [p3, p4]
 refine ow 76 (.agg #[p9, q9, r9, s9]) rfl (fun w' hS => (rl 31 0 [p9, q9, r9, s9] hS.2.1)) ?_
 simp only [p3, p4]
 refine ow 78 (.agg #[p10, q10, r10, s10]) rfl (fun w' hS => (rl 31 0 [p10, q10, r10, s10] hS.2.2)) ?_
 simp only [p3, p4]
 refine ow 80 (.agg #[p8, q8, r8, s8]) rfl (fun w' hS => (rl 31 0 [p8, q8, r8, s8] hS.1)) ?_
 simp only [p3, p4]
 refine ow 81 (.agg #[p9, q9, r9, s9]) rfl (fun w' hS => (rl 31 0 [p9, q9, r9, s9] hS.2.1)) ?_
 simp only [p3, p4]
 refine ow 82 (.agg #[p10, q10, r10, s10]) rfl (fun w' hS => (rl 31 0 [p10, q10, r10, s10] hS.2.2)) ?_
 simp only [p3, p4]
 refine oe ?_
 have kq148 := g107.kp.trans gd145.kp
 replace h8 := h8.kp kq148
 have kq149 := g88.kp.trans (g90.kp.trans (g93.kp.trans (g96.kp.trans (g98.kp.trans (g100.kp.trans (g102.kp.trans (g104.kp.trans (g107.kp.trans gd145.kp))))))))
 replace h9 := h9.kp kq149
 refine ec 77 (mul_r h8 h9 (by omega)) ?_
 rintro e147 w147 ⟨⟨p147, q147, r147, s147, rfl, h147⟩, g147⟩
 refine ⟨_, rfl, ?_⟩
 replace hB := hB.trans g147
 replace L11 := L11.gr g147
 replace L12 := L12.gr g147
 replace L13 := L13.gr g147
 refine ⟨⟨L11, L12, L13⟩, ?_⟩
 simp only [p3, p4]
 refine oe ?_
 have kq152 := g90.kp.trans (g93.kp.trans (g96.kp.trans (g98.kp.trans (g100.kp.trans (g102.kp.trans (g104.kp.trans (g107.kp.trans (gd145.kp.trans g147.kp))))))))
 replace h10 := h10.kp kq152
 refine ec 79 (mul_r h147 h10 (by omega)) ?_
 rintro e151 w151 ⟨⟨p151, q151, r151, s151, rfl, h151⟩, g151⟩
 refine ⟨_, rfl, ?_⟩
 replace hB := hB.trans g151
 replace L11 := L11.gr g151
 replace L12 := L12.gr g151
 replace L13 := L13.gr g151
 refine ⟨⟨L11, L12, L13⟩, ?_⟩
 simp only [p3, p4]
 refine oe ?_
 have kq155 := g147.kp.trans g151.kp
 replace h9 := h9.kp kq155
 replace h10 := h10.kp g151.kp
 refine ec 83 (mul_r h9 h10 (by omega)) ?_
 rintro e154 w154 ⟨⟨p154, q154, r154, s154, rfl, h154⟩, g154⟩
 refine ⟨_, rfl, ?_⟩
 replace hB := hB.trans g154
 replace L11 := L11.gr g154
 replace L12 := L12.gr g154
 replace L13 := L13.gr g154
 refine ⟨⟨L11, L12, L13⟩, ?_⟩
 simp only [p3, p4]
 refine oe ?_
 have kq158 := g147.kp.trans (g151.kp.trans g154.kp)
 replace h8 := h8.kp kq158
 refine ec 84 (mul_r h8 h154 (by omega)) ?_
 rintro e157 w157 ⟨⟨p157, q157, r157, s157, rfl, h157⟩, g157⟩
 refine ⟨_, rfl, ?_⟩
 replace hB := hB.trans g157
 replace L11 := L11.gr g157
 replace L12 := L12.gr g157
 replace L13 := L13.gr g157
 refine ⟨⟨L11, L12, L13⟩, ?_⟩
 simp only [p3, p4]
 refine oe ?_
 have kq161 := g154.kp.trans g157.kp
 replace h151 := h151.kp kq161
 refine ec 85 (same_t h151 h157 (by omega) (ht.gr hB) (lawFi4 a b c )) ?_
 rintro e160 w160 ⟨rfl, g160⟩
 refine ⟨_, rfl, ?_⟩
 replace hB := hB.trans g160
 replace L11 := L11.gr g160
 replace L12 := L12.gr g160
 replace L13 := L13.gr g160
 refine ⟨⟨L11, L12, L13⟩, ?_⟩
 simp only [p3, p4]
 refine ov 86 (.bool false) ?_
 simp only [p3, p4]
 refine ov 87 (.bool false) ?_
 simp only [p3, p4]
 refine ov 88 (.func (.func 63) #[] #[]) ?_
 simp only [p3, p4]
 refine ow 89 (.agg #[p8, q8, r8, s8]) rfl (fun w' hS => (rl 31 0 [p8, q8, r8, s8] hS.1)) ?_
 simp only [p3, p4]
 refine ow 90 (.agg #[p9, q9, r9, s9]) rfl (fun w' hS => (rl 31 0 [p9, q9, r9, s9] hS.2.1)) ?_
 simp only [p3, p4]
 refine ow 92 (.agg #[p10, q10, r10, s10]) rfl (fun w' hS => (rl 31 0 [p10, q10, r10, s10] hS.2.2)) ?_
 simp only [p3, p4]
 refine ow 94 (.agg #[p8, q8, r8, s8]) rfl (fun w' hS => (rl 31 0 [p8, q8, r8, s8] hS.1)) ?_
 simp only [p3, p4]
 refine ow 95 (.agg #[p10, q10, r10, s10]) rfl (fun w' hS => (rl 31 0 [p10, q10, r10, s10] hS.2.2)) ?_
 simp only [p3, p4]
 refine ow 97 (.agg #[p9, q9, r9, s9]) rfl (fun w' hS => (rl 31 0 [p9, q9, r9, s9] hS.2.1)) ?_
 simp only [p3, p4]
 refine ow 98 (.agg #[p10, q10, r10, s10]) rfl (fun w' hS => (rl 31 0 [p10, q10, r10, s10] hS.2.2)) ?_
 simp only [p3, p4]
 refine oe ?_
 have kq164 := g157.kp.trans g160.kp
 replace h8 := h8.kp kq164
 have kq165 := g154.kp.trans (g157.kp.trans g160.kp)
 replace h9 := h9.kp kq165
 refine ec 91 (add_r h8 h9 (by omega)) ?_
 rintro e163 w163 ⟨⟨p163, q163, r163, s163, rfl, h163⟩, g163⟩
 refine ⟨_, rfl, ?_⟩
 replace hB := hB.trans g163
 replace L11 := L11.gr g163
 replace L12 := L12.gr g163
 replace L13 := L13.gr g163
 refine ⟨⟨L11, L12, L13⟩, ?_⟩
 simp only [p3, p4]
 refine oe ?_
 have kq168 := g154.kp.trans (g157.kp.trans (g160.kp.trans g163.kp))
 replace h10 := h10.kp kq168
 refine ec 93 (mul_r h163 h10 (by omega)) ?_
 rintro e167 w167 ⟨⟨p167, q167, r167, s167, rfl, h167⟩, g167⟩
 refine ⟨_, rfl, ?_⟩
 replace hB := hB.trans g167
 replace L11 := L11.gr g167
 replace L12 := L12.gr g167
 replace L13 := L13.gr g167
 refine ⟨⟨L11, L12, L13⟩, ?_⟩
 simp only [p3, p4]
 refine oe ?_
 have kq171 := g163.kp.trans g167.kp
 replace h8 := h8.kp kq171
 replace h10 := h10.kp g167.kp
 refine ec 96 (mul_r h8 h10 (by omega)) ?_
 rintro e170 w170 ⟨⟨p170, q170, r170, s170, rfl, h170⟩, g170⟩
 refine ⟨_, rfl, ?_⟩
 replace hB := hB.trans g170
 replace L11 := L11.gr g170
 replace L12 := L12.gr g170
 replace L13 := L13.gr g170
 refine ⟨⟨L11, L12, L13⟩, ?_⟩
 simp only [p3, p4]
 refine oe ?_
 have kq174 := g163.kp.trans (g167.kp.trans g170.kp)
 replace h9 := h9.kp kq174
 replace h10 := h10.kp g170.kp
 refine ec 99 (mul_r h9 h10 (by omega)) ?_
 rintro e173 w173 ⟨⟨p173, q173, r173, s173, rfl, h173⟩, g173⟩
 refine ⟨_, rfl, ?_⟩
 replace hB := hB.trans g173
 replace L11 := L11.gr g173
 replace L12 := L12.gr g173
 replace L13 := L13.gr g173
 refine ⟨⟨L11, L12, L13⟩, ?_⟩
 simp only [p3, p4]
 refine oe ?_
 replace h170 := h170.kp g173.kp
 refine ec 100 (add_r h170 h173 (by omega)) ?_
 rintro e176 w176 ⟨⟨p176, q176, r176, s176, rfl, h176⟩, g176⟩
 refine ⟨_, rfl, ?_⟩
 replace hB := hB.trans g176
 replace L11 := L11.gr g176
 replace L12 := L12.gr g176
 replace L13 := L13.gr g176
 refine ⟨⟨L11, L12, L13⟩, ?_⟩
 simp only [p3, p4]
 refine oe ?_
 have kq179 := g170.kp.trans (g173.kp.trans g176.kp)
 replace h167 := h167.kp kq179
 refine ec 101 (same_t h167 h176 (by omega) (ht.gr hB) (lawFi5 a b c )) ?_
 rintro e178 w178 ⟨rfl, g178⟩
 refine ⟨_, rfl, ?_⟩
 replace hB := hB.trans g178
 replace L11 := L11.gr g178
 replace L12 := L12.gr g178
 replace L13 := L13.gr g178
 refine ⟨⟨L11, L12, L13⟩, ?_⟩
 simp only [p3, p4]
 refine ov 102 (.bool false) ?_
 simp only [p3, p4]
 refine ov 103 (.bool false) ?_
 simp only [p3, p4]
 refine ord_nil ?_
 refine k109 _ _ ?_
 try clear k109 K109
 refine wp_cond_false rfl ?_
 refine wp_skip ?_
 refine k108 _ _ ?_
 try clear k108 K108
 refine wp_seq_k (fun K180 k180 => ?_)
 refine rg [0, 1, 2, 3, 4, 5, 6, 7, 8] ?_
 refine sw 105 (.agg #[p8, q8, r8, s8]) rfl (rl 31 0 [p8, q8, r8, s8] L11) ?_
 simp only [p3, p4]
 refine sw 106 (.agg #[p9, q9, r9, s9]) rfl (rl 31 0 [p9, q9, r9, s9] L12) ?_
 simp only [p3, p4]
 refine se ?_
 have kq182 := g170.kp.trans (g173.kp.trans (g176.kp.trans g178.kp))
 replace h8 := h8.kp kq182
 have kq183 := g173.kp.trans (g176.kp.trans g178.kp)
 replace h9 := h9.kp kq183
 refine ec 107 (div_a h8 h9 (by omega) h0) ?_
 rintro e181 w181 ⟨⟨p181, q181, r181, s181, rfl, h181⟩, g181⟩
 refine ⟨_, rfl, ?_⟩
 replace hB := hB.trans g181
 simp only [p3, p4]
 refine sv 104 (.tuple #[(.agg #[p181, q181, r181, s181]), (.int .i64 0)]) ?_
 simp only [p3, p4]
 refine sv 108 (.agg #[p181, q181, r181, s181]) ?_
 simp only [p3, p4]
 refine sv 109 (.int .i64 0) ?_
 simp only [p3, p4]
 refine se ?_
 refine ea 31 #[(.bool false), (.slice none 0 0), (.bool false), (.slice none 0 0)] 11 hB fun b184 w184 g184 L184 o184 q184 hB => ?_
 replace L11 := L11.gr g181
 have ne11_184 := L11.ne o184
 replace L12 := L12.gr g181
 have ne12_184 := L12.ne o184
 simp only [p3, p4]
 refine se ?_
 refine es 31 0 (.agg #[p181, q181, r181, s181]) [p181, q181, r181, s181] #[p181, q181, r181, s181] L184 hB q184 ⟨h181.one0, h181.one1, h181.one2, h181.one3, trivial⟩ fun w185 st185 kp185 L184 hB => ?_
 refine sv 12 (.int .i64 0) ?_
 simp only [p3, p4]
 refine sq_nil ?_
 refine k180 _ _ ?_
 try clear k180 K180
 refine wp_seq_k (fun K186 k186 => ?_)
 refine wp_seq_k (fun K187 k187 => ?_)
 refine rg [0, 1, 2] ?_
 replace L12 := st185.lc (L12.gr g184) ne12_184
 refine sw 110 (.agg #[p9, q9, r9, s9]) rfl (rl 31 0 [p9, q9, r9, s9] L12) ?_
 simp only [p3, p4]
 refine se ?_
 have kq189 := g181.kp.trans (g184.kp.trans kp185)
 replace h9 := h9.kp kq189
 refine ec 111 (sign_r h9) ?_
 rintro e188 w188 ⟨rfl, g188⟩
 refine ⟨_, rfl, ?_⟩
 replace hB := hB.trans g188
 simp only [p3, p4]
 refine sw 112 (.bool false) rfl (RunV.bool (x := (sgn (b).num == (0 : Int))) (rvk (by kernel_rfl)) hz) ?_
 simp only [p3, p4]
 refine sq_nil ?_
 refine k187 _ _ ?_
 try clear k187 K187
 refine wp_cond_false rfl ?_
 refine wp_skip ?_
 refine k186 _ _ ?_
 try clear k186 K186
 refine wp_seq_k (fun K190 k190 => ?_)
 have gd207 := Gr.drew w188
 replace hB := hB.trans gd207
 replace L11 := (st185.lc (L11.gr g184) ne11_184).gr (g188.trans gd207)
 replace L12 := L12.gr (g188.trans gd207)
 replace L184 := L184.gr (g188.trans gd207)
 refine wp_region_ord (fun w' => Lc w' b11 #[p8, q8, r8, s8] 31 ∧ Lc w' b12 #[p9, q9, r9, s9] 31 ∧ Lc w' b184 #[p181, q181, r181, s181] 31) [(true, 0), (true, 1), (true, 2), (true, 3), (true, 4), (true, 5), (true, 7), (false, 6), (false, 8), (true, 9), (true, 10), (true, 11), (true, 12), (true, 13), (true, 15), (true, 17), (false, 14), (false, 16), (false, 18), (true, 19), (true, 20)] (by kernel_rfl) (by kernel_rfl) (by kernel_rfl) (by decide) (fun _ _ _ _ _ h => h) ⟨L11, L12, L184⟩ ?_
 refine ov 115 (.int .i64 0) ?_
 simp only [p3, p4]
 refine ov 116 (.bool true) ?_
 simp only [p3, p4]
 refine ov 117 (.bool true) ?_
 simp only [p3, p4]
 refine ov 118 (.func (.func 63) #[] #[]) ?_
 simp only [p3, p4]
 refine ow 119 (.agg #[p181, q181, r181, s181]) rfl (fun w' hS => (rl 31 0 [p181, q181, r181, s181] hS.2.2)) ?_
 simp only [p3, p4]
 refine ow 120 (.agg #[p9, q9, r9, s9]) rfl (fun w' hS => (rl 31 0 [p9, q9, r9, s9] hS.2.1)) ?_
 simp only [p3, p4]
 refine ow 122 (.agg #[p8, q8, r8, s8]) rfl (fun w' hS => (rl 31 0 [p8, q8, r8, s8] hS.1)) ?_
 simp only [p3, p4]
 refine oe ?_
 have kq210 := g184.kp.trans (kp185.trans (g188.kp.trans gd207.kp))
 replace h181 := h181.kp kq210
 have kq211 := g188.kp.trans gd207.kp
 replace h9 := h9.kp kq211
 refine ec 121 (mul_r h181 h9 (by omega)) ?_
 rintro e209 w209 ⟨⟨p209, q209, r209, s209, rfl, h209⟩, g209⟩
 refine ⟨_, rfl, ?_⟩
 replace hB := hB.trans g209
 replace L11 := L11.gr g209
 replace L12 := L12.gr g209
 replace L184 := L184.gr g209
 refine ⟨⟨L11, L12, L184⟩, ?_⟩
 simp only [p3, p4]
 refine oe ?_
 have kq214 := g181.kp.trans (g184.kp.trans (kp185.trans (g188.kp.trans (gd207.kp.trans g209.kp))))
 replace h8 := h8.kp kq214
 refine ec 123 (same_t h209 h8 (by omega) (ht.gr hB) (lawFi6 a b h0)) ?_
 rintro e213 w213 ⟨rfl, g213⟩
 refine ⟨_, rfl, ?_⟩
 replace hB := hB.trans g213
 replace L11 := L11.gr g213
 replace L12 := L12.gr g213
 replace L184 := L184.gr g213
 refine ⟨⟨L11, L12, L184⟩, ?_⟩
 simp only [p3, p4]
 refine ov 124 (.bool true) ?_
 simp only [p3, p4]
 refine ov 125 (.bool true) ?_
 simp only [p3, p4]
 refine ov 126 (.func (.func 63) #[] #[]) ?_
 simp only [p3, p4]
 refine ow 127 (.agg #[p8, q8, r8, s8]) rfl (fun w' hS => (rl 31 0 [p8, q8, r8, s8] hS.1)) ?_
 simp only [p3, p4]
 refine ow 128 (.agg #[p9, q9, r9, s9]) rfl (fun w' hS => (rl 31 0 [p9, q9, r9, s9] hS.2.1)) ?_
 simp only [p3, p4]
 refine ow 130 (.agg #[p9, q9, r9, s9]) rfl (fun w' hS => (rl 31 0 [p9, q9, r9, s9] hS.2.1)) ?_
 simp only [p3, p4]
 refine ow 132 (.agg #[p8, q8, r8, s8]) rfl (fun w' hS => (rl 31 0 [p8, q8, r8, s8] hS.1)) ?_
 simp only [p3, p4]
 refine oe ?_
 replace h8 := h8.kp g213.kp
 have kq217 := g209.kp.trans g213.kp
 replace h9 := h9.kp kq217
 refine ec 129 (add_r h8 h9 (by omega)) ?_
 rintro e216 w216 ⟨⟨p216, q216, r216, s216, rfl, h216⟩, g216⟩
 refine ⟨_, rfl, ?_⟩
 replace hB := hB.trans g216
 replace L11 := L11.gr g216
 replace L12 := L12.gr g216
 replace L184 := L184.gr g216
 refine ⟨⟨L11, L12, L184⟩, ?_⟩
 simp only [p3, p4]
 refine oe ?_
 replace h9 := h9.kp g216.kp
 refine ec 131 (sub_r h216 h9 (by omega)) ?_
 rintro e219 w219 ⟨⟨p219, q219, r219, s219, rfl, h219⟩, g219⟩
 refine ⟨_, rfl, ?_⟩
 replace hB := hB.trans g219
 replace L11 := L11.gr g219
 replace L12 := L12.gr g219
 replace L184 := L184.gr g219
 refine ⟨⟨L11, L12, L184⟩, ?_⟩
 simp only [p3, p4]
 refine oe ?_
 have kq222 := g216.kp.trans g219.kp
 replace h8 := h8.kp kq222
 refine ec 133 (same_t h219 h8 (by omega) (ht.gr hB) (lawFi7 a b )) ?_
 rintro e221 w221 ⟨rfl, g221⟩
 refine ⟨_, rfl, ?_⟩
 replace hB := hB.trans g221
 replace L11 := L11.gr g221
 replace L12 := L12.gr g221
 replace L184 := L184.gr g221
 refine ⟨⟨L11, L12, L184⟩, ?_⟩
 simp only [p3, p4]
 refine ov 134 (.bool true) ?_
 simp only [p3, p4]
 refine ov 6 (.bool true) ?_
 simp only [p3, p4]
 refine ord_nil ?_
 refine k190 _ _ ?_
 try clear k190 K190
 refine wp_ret ?_
 refine bodyPost_ret (v := (.bool true)) (ret_tmp rfl rfl) rfl ⟨?_, hB⟩
 exact rfl

set_option maxRecDepth 100000 in
set_option maxHeartbeats 1000000 in
theorem field_b (X Y Z : List UInt8) (hok : ((okT (X) && okT (Y)) && okT (Z)) = false) (w : World) (ht : Tab w) (_hm : Mx w) :
    Calls Tryz.prog 12 #[(.string ⟨(X : List UInt8).toArray⟩), (.string ⟨(Y : List UInt8).toArray⟩), (.string ⟨(Z : List UInt8).toArray⟩)] w fun e w' => e = .returned (.bool true) ∧ Gr w w' := by
 go_enter Tryz.func12, Tryz.ntmps12
 have hB := Gr.refl w
 refine wp_seq_k (fun K1 k1 => ?_)
 refine rg [0] ?_
 refine sv 6 (.bool false) ?_
 simp only [p3, p4]
 refine sq_nil ?_
 refine k1 _ _ ?_
 try clear k1 K1
 refine wp_seq_k (fun K2 k2 => ?_)
 refine wp_seq_k (fun K3 k3 => ?_)
 refine rg [0, 1, 2, 3, 4, 5, 6, 7, 8, 9] ?_
 refine se ?_
 refine ec 13 (known2 _ (ht.gr hB)) ?_
 rintro e4 w4 ⟨rfl, g4⟩
 refine ⟨_, rfl, ?_⟩
 replace hB := hB.trans g4
 simp only [p3, p4]
 refine sv 14 (.bool false) ?_
 simp only [p3, p4]
 refine sv 15 (.bool false) ?_
 simp only [p3, p4]
 refine sv 16 (.string ⟨(X : List UInt8).toArray⟩) ?_
 simp only [p3, p4]
 refine sv 17 (.string ⟨(Y : List UInt8).toArray⟩) ?_
 simp only [p3, p4]
 refine sv 18 (.string ⟨(Z : List UInt8).toArray⟩) ?_
 simp only [p3, p4]
 refine se ?_
 refine eff_bs 9 3 #[(.string ⟨(X : List UInt8).toArray⟩), (.string ⟨(Y : List UInt8).toArray⟩), (.string ⟨(Z : List UInt8).toArray⟩)] (some 19) rfl (fun _ => by kernel_rfl) (fun b5 w5 g5 L5 q5 => ?_)
 replace hB := hB.trans g5
 simp only [putl, p3, p4]
 refine se ?_
 refine ec 20 (right3 (X) (Y) (Z) L5) ?_
 rintro e6 w6 ⟨rfl, g6⟩
 refine ⟨_, rfl, ?_⟩
 replace hB := hB.trans g6
 simp only [p3, p4]
 refine sw 21 (.bool true) rfl (RunV.bool (x := !(((okT (X) && okT (Y)) && okT (Z)))) (rvk (by kernel_rfl)) (show (!(((okT (X) && okT (Y)) && okT (Z)))) = true by rw [hok]; rfl)) ?_
 simp only [p3, p4]
 refine sv 22 (.bool true) ?_
 simp only [p3, p4]
 refine sq_nil ?_
 refine k3 _ _ ?_
 try clear k3 K3
 refine wp_cond_true rfl ?_
 refine wp_seq_k (fun K7 k7 => ?_)
 refine rg [0, 1] ?_
 refine se ?_
 refine ec 23 (known2 _ (ht.gr hB)) ?_
 rintro e8 w8 ⟨rfl, g8⟩
 refine ⟨_, rfl, ?_⟩
 replace hB := hB.trans g8
 simp only [p3, p4]
 refine sv 6 (.bool true) ?_
 simp only [p3, p4]
 refine sq_nil ?_
 refine k7 _ _ ?_
 try clear k7 K7
 refine wp_ret ?_
 simp only [Exit.then]
 refine bodyPost_ret (v := (.bool true)) (ret_tmp rfl rfl) rfl ⟨?_, hB⟩
 exact rfl

theorem rational_field (X Y Z : List UInt8) (w : World) (ht : Tab w) (hm : Mx w) :
    Calls Tryz.prog 12 #[(.string ⟨(X : List UInt8).toArray⟩), (.string ⟨(Y : List UInt8).toArray⟩), (.string ⟨(Z : List UInt8).toArray⟩)] w fun e w' => e = .returned (.bool true) ∧ Gr w w' := by
  rcases Bool.eq_false_or_eq_true ((okT (X) && okT (Y)) && okT (Z)) with hok | hok
  · obtain ⟨a, rfl, ha, la⟩ := okT_rat (ok3_0 hok)
    obtain ⟨b, rfl, hb, lb⟩ := okT_rat (ok3_1 hok)
    obtain ⟨c, rfl, hc, lc⟩ := okT_rat (ok3_2 hok)
    by_cases h0 : b.num = 0
    · exact field_0 a ha la b hb lb c hc lc h0 w ht hm
    · exact field_q a ha la b hb lb c hc lc h0 w ht hm
  · exact field_b X Y Z hok w ht hm

end Go.Proofs.YtloocadjbpgldaaGreatDoor
/- The law RationalField holds of every input: its row, and its card tied to the program's text. Printed by a program of the prover's. -/
namespace Go.Proofs.YtloocadjbpgldaaGreatDoor
open Go.ChangeShapes Go.WideShapes Go.ChangeAt Go.RowKit

theorem rationalField_table {W : World} (h : laidMetH Tryz.prog Rows.rationalFieldRow.laid W) : Tab W :=
  Lib.tabIs_of_head (rest := _) (g := 2) (t := 171) (e := 84) (n := 20) (by kernel_rfl) (by kernel_rfl) (by kernel_rfl) (by kernel_rfl) (by kernel_rfl) (by kernel_rfl) ((show laidMet Tryz.prog Rows.rationalFieldRow.laid W from (MakeChecks.laidMetH_plain _ _ _ (by kernel_rfl)) ▸ h).tail.tail)
theorem rationalField_maxlen {W : World} (h : W.ShapedOpen Tryz.prog) : Mx W :=
  Go.Proofs.cell_of_shapedOpen_int (zero := #[.int .i64 0]) (g := 3) (t := 3) h (of_decide_eq_true (by kernel_rfl)) (by kernel_rfl) rfl (by kernel_rfl) (by kernel_rfl) Tryz.underlying3
set_option maxRecDepth 100000 in
theorem rationalField_contract (H : Type) (enc : TypeId × Value → H) (W : World) (base : Nat) (args : Array Value) (ds gs : List (DataW H)) (before : List MemPlace)
    (hval : ∀ (j : Nat) t v, Tryz.f12.params[j]? = some t → args[j]? = some v → Value.okWide Tryz.prog W .any base t v)
    (hW : DataW.Whole enc Tryz.prog Tryz.f12.params.toList Rows.rationalFieldSpec.vars false W args.toList ds gs before) (hL : laidMetH Tryz.prog Rows.rationalFieldRow.laid W) (hsh : W.ShapedOpen Tryz.prog) :
    Calls Tryz.prog 12 args W fun e W' => ∃ v, e = .returned v ∧ Rows.rationalFieldSpec.post enc Tryz.prog Tryz.f12 false true false false W args v W' := by
  have hW' := hW
  obtain ⟨p, q, hA0, hV, rfl, hfz, hnd⟩ := hW
  have hA : DataW.TrodAll enc Tryz.prog W 0 (fun _ => true) true Tryz.f12.params.toList args.toList ds p := hA0
  rw [Tryz.params12] at hA hval
  obtain ⟨v0, vs0, d0, ds0, p0, q0, hargs, rfl, rfl, h0, r0⟩ := trodAll_cons hA
  obtain ⟨v1, vs1, d1, ds1, p1, q1, rfl, rfl, rfl, h1, r1⟩ := trodAll_cons r0
  obtain ⟨v2, vs2, d2, ds2, p2, q2, rfl, rfl, rfl, h2, r2⟩ := trodAll_cons r1
  obtain ⟨rfl, rfl, rfl⟩ := trodAll_nil r2
  obtain rfl : args = #[v0, v1, v2] := by cases args; simp_all
  obtain ⟨rfl, rfl⟩ := trodVars_none hV
  obtain ⟨n0_0, rfl⟩ := open_text (by kernel_rfl) (hval 0 9 v0 rfl rfl)
  obtain ⟨n1_0, rfl⟩ := open_text (by kernel_rfl) (hval 1 9 v1 rfl rfl)
  obtain ⟨n2_0, rfl⟩ := open_text (by kernel_rfl) (hval 2 9 v2 rfl rfl)
  refine (rational_field n0_0 n1_0 n2_0 W (rationalField_table hL) (rationalField_maxlen hsh)).mono fun e W' ⟨he, hg⟩ => ?_
  subst he
  exact ⟨_, rfl, law_post (tb := 4) laidOut (by kernel_rfl) (by kernel_rfl) (by kernel_rfl) rfl hW' rfl hg⟩
noncomputable def rationalField_world (os : Os) : World := World.laidAll Tryz.prog os Rows.rationalFieldRow.laid
theorem rationalField_met (os : Os) : laidMet Tryz.prog Rows.rationalFieldRow.laid ((rationalField_world os).forCall (fun _ _ => 0) ⟨#[], #[.string ⟨#[]⟩, .string ⟨#[]⟩, .string ⟨#[]⟩], []⟩).memory :=
  laidMet_laidAll _ (by kernel_rfl) (by kernel_rfl)
theorem rationalField_reads (os : Os) {H : Type} (enc : TypeId × Value → H) : ∃ places, DataW.whole enc Tryz.prog ((rationalField_world os).forCall (fun _ _ => 0) ⟨#[], #[.string ⟨#[]⟩, .string ⟨#[]⟩, .string ⟨#[]⟩], []⟩).memory Tryz.f12.params.toList Rows.rationalFieldSpec.vars false (#[.string ⟨#[]⟩, .string ⟨#[]⟩, .string ⟨#[]⟩] : Array Value).toList 8 = some ([.lit (.string []), .lit (.string []), .lit (.string [])], [], places) :=
  ⟨[], by kernel_rfl⟩
set_option maxRecDepth 100000 in
theorem rationalField_lifted (os : Os) (started : os.Started) (H : Type) (enc : TypeId × Value → H) (F : Stop.Interp) :
    ReturnsInHanded {} Tryz.checked os 12 .any ((OpenSpec.ofChange Rows.rationalFieldSpec).preRow enc Tryz.prog Tryz.f12 Rows.rationalFieldRow.domain false Rows.rationalFieldRow.laid) (((OpenSpec.ofChange Rows.rationalFieldSpec).at F).post enc Tryz.prog Tryz.f12 false true false false) := by
  obtain ⟨places, hx⟩ := rationalField_reads os enc
  refine returnsInHanded_of_row (C := Tryz.checked) (s := OpenSpec.ofChange Rows.rationalFieldSpec) own started (by kernel_rfl) Tryz.func12
    (witness_row_sh (enc := enc) (C := Tryz.checked) false (rationalField_world os) #[.string ⟨#[]⟩, .string ⟨#[]⟩, .string ⟨#[]⟩] (World.laidAll_os _ _ _) (World.shaped_of_ZipB (by kernel_rfl) (by kernel_rfl)) (by kernel_rfl)
      (OpenSpec.preRow_of_cond 8 hx (by kernel_rfl) (fun k hk => by cases hk) (by kernel_rfl) (by rw [MakeChecks.laidMetH_plain _ _ _ (by kernel_rfl)]; exact rationalField_met os))) ?_
  intro W base args ds gs before hval hW _ _ _ hL hsh _
  exact rationalField_contract H enc W base args ds gs before hval hW hL hsh
theorem rationalField_said : Rows.RationalFieldSaid :=
  OpenClaim.holds_of_cond 12 Tryz.f12 rfl rfl rfl rfl rfl rfl rfl ⟨rfl, rfl, rfl, rfl, rfl⟩ rfl rfl rfl rfl rfl (by kernel_rfl) Tryz.func12 (by kernel_rfl)
    (of_decide_eq_true (by kernel_rfl)) (by unfold Func.isWrapper; first | (rw [if_pos (by decide +kernel)]; kernel_rfl) | (rw [if_neg (by decide +kernel)]; exact ⟨rfl, rfl⟩))
    (fun os started H enc _ F => by rw [OpenClaim.pre_eq_preRow]; exact rationalField_lifted os started H enc F)
theorem rationalField_plain (f : FuncId) (fn : Func) (hf : Tryz.pinned.checked.prog.funcNamed "dowel/dowellaw02.RationalField" = some f) (hfn : Tryz.pinned.checked.prog.funcs[f]? = some fn) :
    true = Tryz.pinned.checked.prog.looks [] ∧ ∀ (j : Nat) t, fn.params[j]? = some t → Tryz.pinned.checked.prog.wantsStandIn t = false := by
  obtain rfl : f = 12 := Option.some.inj ((show Tryz.prog.funcNamed "dowel/dowellaw02.RationalField" = some 12 by kernel_rfl).symm.trans hf) |>.symm
  obtain rfl : fn = Tryz.f12 := (Option.some.inj (Tryz.func12.symm.trans hfn)).symm
  refine ⟨by kernel_rfl, fun j t ht => ?_⟩
  rw [Tryz.params12] at ht
  have hm := Array.mem_of_getElem? ht
  have hall : (#[9, 9, 9] : Array TypeId).toList.all (fun t => !Tryz.prog.wantsStandIn t) = true := by kernel_rfl
  have := List.all_eq_true.1 hall t (Array.mem_toList_iff.2 hm)
  have h3 : Tryz.prog.wantsStandIn t = false := by simpa using this
  exact h3
/-- the card -/
theorem rationalField_card : Rows.RationalFieldCardSaid :=
  Claim7.holds_tied_plain_at .later [] _ _ _ _ rationalField_said (fun _ h => by cases h) (by kernel_rfl) (fun _ h => by cases h) rationalField_row_tie rfl ⟨rfl, rfl⟩ (by kernel_rfl) rfl rationalField_plain (by kernel_rfl)
end Go.Proofs.YtloocadjbpgldaaGreatDoor
