/- Printed by a program of the prover's: DivMod, Compare, Sub. -/
import Derived.Test.YtgopfikljndklaaDoorInt7
namespace Go.Proofs.YtgopfikljndklaaDoor
open Go.RowKit

set_option maxRecDepth 100000 in
set_option maxHeartbeats 1000000 in
theorem sub_i {k m : Nat} {x y x2 y2 : Value} {z u : Int} {w : World} (hz : IsInt w k x y z) (hu : IsInt w m x2 y2 u) (_hk : k + m + 1 ≤ 1000000) :
    Calls Tryd.prog 64 #[(.agg #[x, y]), (.agg #[x2, y2])] w fun e w' => (∃ x' y', e = .returned (.agg #[x', y']) ∧ IsInt w' (k + m + 1) x' y' (z - u)) ∧ Gr w w' := by
 go_enter Tryd.func64, Tryd.ntmps64
 have hB := Gr.refl w
 refine wp_seq_k (fun K1 k1 => ?_)
 refine rg [0, 1, 2] ?_
 refine se ?_
 refine eb 29 #[x, y] 2 hB fun b2 w2 g2 L2 o2 q2 hB => ?_
 simp only [p3, p4]
 refine se ?_
 refine eb 29 #[x2, y2] 3 hB fun b3 w3 g3 L3 o3 q3 hB => ?_
 simp only [p3, p4]
 refine se ?_
 refine ea 29 #[(.bool false), (.slice none 0 0)] 4 hB fun b4 w4 g4 L4 o4 q4 hB => ?_
 replace L2 := L2.gr g3
 have ne2_4 := L2.ne o4
 have ne3_4 := L3.ne o4
 simp only [p3, p4]
 refine sq_nil ?_
 refine k1 _ _ ?_
 try clear k1 K1
 refine wp_seq_k (fun K5 k5 => ?_)
 have gd15 := Gr.drew w4
 replace hB := hB.trans gd15
 replace L2 := L2.gr (g4.trans gd15)
 replace L3 := L3.gr (g4.trans gd15)
 refine wp_region_ord (fun w' => Lc w' b2 #[x, y] 29 ∧ Lc w' b3 #[x2, y2] 29) [(true, 0), (true, 1), (false, 2), (false, 3), (false, 4)] (by kernel_rfl) (by kernel_rfl) (by kernel_rfl) (by decide) (fun _ _ _ _ _ h => h) ⟨L2, L3⟩ ?_
 refine ow 5 (.agg #[x, y]) rfl (fun w' hS => (rl 29 0 [x, y] hS.1)) ?_
 simp only [p3, p4]
 refine ow 6 (.agg #[x2, y2]) rfl (fun w' hS => (rl 29 0 [x2, y2] hS.2)) ?_
 simp only [p3, p4]
 refine oe ?_
 have kq18 := g2.kp.trans (g3.kp.trans (g4.kp.trans gd15.kp))
 replace hu := hu.kp kq18
 refine ec 7 (neg_i hu ) ?_
 rintro e17 w17 ⟨⟨x17, y17, rfl, h17⟩, g17⟩
 refine ⟨_, rfl, ?_⟩
 replace hB := hB.trans g17
 replace L2 := L2.gr g17
 replace L3 := L3.gr g17
 refine ⟨⟨L2, L3⟩, ?_⟩
 simp only [p3, p4]
 refine oe ?_
 have kq21 := g2.kp.trans (g3.kp.trans (g4.kp.trans (gd15.kp.trans g17.kp)))
 replace hz := hz.kp kq21
 refine ec 8 (add_i hz h17 (by omega)) ?_
 rintro e20 w20 ⟨⟨x20, y20, rfl, h20⟩, g20⟩
 refine ⟨_, rfl, ?_⟩
 replace hB := hB.trans g20
 replace L2 := L2.gr g20
 replace L3 := L3.gr g20
 refine ⟨⟨L2, L3⟩, ?_⟩
 simp only [p3, p4]
 refine oe ?_
 replace L4 := L4.gr (gd15.trans (g17.trans g20))
 refine es 29 0 (.agg #[x20, y20]) [x20, y20] #[x20, y20] L4 hB q4 ⟨h20.one0, h20.one1, trivial⟩ fun w23 st23 kp23 L4 hB => ?_
 replace L2 := st23.lc L2 ne2_4
 replace L3 := st23.lc L3 ne3_4
 refine ⟨⟨L2, L3⟩, ?_⟩
 refine ord_nil ?_
 refine k5 _ _ ?_
 try clear k5 K5
 refine wp_ret ?_
 refine bodyPost_ret (v := (.agg #[x20, y20])) (ret_cell _ _ _ rfl rfl L4 (by kernel_rfl)) rfl ⟨?_, hB⟩
 replace h20 := h20.kp kp23
 exact ⟨_, _, rfl, by rw [Int.sub_eq_add_neg]; exact h20⟩

set_option maxRecDepth 100000 in
set_option maxHeartbeats 1000000 in
theorem cmp_tt {w : World} {a b : Int} {ao bo : Option Addr} {la lb ca cb : Nat} (ha : Mag w ao la ca a) (hb : Mag w bo lb cb b) (_hla : la ≤ 1000000) (_hlb : lb ≤ 1000000) :
    Calls Tryd.prog 68 #[(.agg #[(.bool true), (.slice ao la ca)]), (.agg #[(.bool true), (.slice bo lb cb)])] w fun e w' => (e = .returned (.int .i64 (sgn (b - a)))) ∧ Gr w w' := by
 go_enter Tryd.func68, Tryd.ntmps68
 have hB := Gr.refl w
 refine wp_seq_k (fun K1 k1 => ?_)
 refine rg [0, 1, 2] ?_
 refine se ?_
 refine eb 29 #[(.bool true), (.slice ao la ca)] 2 hB fun b2 w2 g2 L2 o2 q2 hB => ?_
 simp only [p3, p4]
 refine se ?_
 refine eb 29 #[(.bool true), (.slice bo lb cb)] 3 hB fun b3 w3 g3 L3 o3 q3 hB => ?_
 simp only [p3, p4]
 refine sv 4 (.int .i64 0) ?_
 simp only [p3, p4]
 refine sq_nil ?_
 refine k1 _ _ ?_
 try clear k1 K1
 refine wp_seq_k (fun K4 k4 => ?_)
 refine wp_block ?_
 refine wp_seq_k (fun K5 k5 => ?_)
 refine rg [0, 1, 2, 3, 4, 5] ?_
 refine sv 6 (.pointer (some ⟨b2, 0, none⟩)) ?_
 simp only [p3, p4]
 replace L2 := L2.gr g3
 refine sw 7 (.bool true) rfl (rk 4 0 L2) ?_
 simp only [p3, p4]
 refine sv 8 (.pointer (some ⟨b3, 0, none⟩)) ?_
 simp only [p3, p4]
 refine sw 9 (.bool true) rfl (rk 4 0 L3) ?_
 simp only [p3, p4]
 refine sv 10 (.bool false) ?_
 simp only [p3, p4]
 refine sv 5 (.bool false) ?_
 simp only [p3, p4]
 refine sq_nil ?_
 refine k5 _ _ ?_
 try clear k5 K5
 refine wp_cond_false rfl ?_
 refine wp_seq_k (fun K6 k6 => ?_)
 refine rg [0, 1, 2] ?_
 refine sv 14 (.pointer (some ⟨b2, 0, none⟩)) ?_
 simp only [p3, p4]
 refine sw 15 (.bool true) rfl (rk 4 0 L2) ?_
 simp only [p3, p4]
 refine sv 13 (.bool true) ?_
 simp only [p3, p4]
 refine sq_nil ?_
 refine k6 _ _ ?_
 try clear k6 K6
 refine wp_cond_true rfl ?_
 refine wp_seq_k (fun K7 k7 => ?_)
 refine rg [0, 1, 2, 3, 4, 5] ?_
 refine sv 16 (.pointer (some ⟨b3, 1, none⟩)) ?_
 simp only [p3, p4]
 refine sw 17 (.slice bo lb cb) rfl (rk 27 1 L3) ?_
 simp only [p3, p4]
 refine sv 18 (.pointer (some ⟨b2, 1, none⟩)) ?_
 simp only [p3, p4]
 refine sw 19 (.slice ao la ca) rfl (rk 27 1 L2) ?_
 simp only [p3, p4]
 refine se ?_
 have kq9 := g2.kp.trans g3.kp
 replace hb := hb.kp kq9
 replace ha := ha.kp kq9
 refine ec 20 (order_m hb ha (by omega) (by omega)) ?_
 rintro e8 w8 ⟨rfl, g8⟩
 refine ⟨_, rfl, ?_⟩
 replace hB := hB.trans g8
 simp only [p3, p4]
 refine sv 4 (.int .i64 (sgn (b - a))) ?_
 simp only [p3, p4]
 refine sq_nil ?_
 refine k7 _ _ ?_
 try clear k7 K7
 refine wp_ret ?_
 simp only [Exit.then, Exit.inBlock]
 refine bodyPost_ret (v := (.int .i64 (sgn (b - a)))) (ret_tmp rfl rfl) rfl ⟨?_, hB⟩
 exact rfl

set_option maxRecDepth 100000 in
set_option maxHeartbeats 1000000 in
theorem cmp_tf {w : World} {a b : Int} {ao bo : Option Addr} {la lb ca cb : Nat} (_ha : Mag w ao la ca a) (_hb : Mag w bo lb cb b) (_hla : la ≤ 1000000) (_hlb : lb ≤ 1000000) :
    Calls Tryd.prog 68 #[(.agg #[(.bool true), (.slice ao la ca)]), (.agg #[(.bool false), (.slice bo lb cb)])] w fun e w' => (e = .returned (.int .i64 (-1))) ∧ Gr w w' := by
 go_enter Tryd.func68, Tryd.ntmps68
 have hB := Gr.refl w
 refine wp_seq_k (fun K1 k1 => ?_)
 refine rg [0, 1, 2] ?_
 refine se ?_
 refine eb 29 #[(.bool true), (.slice ao la ca)] 2 hB fun b2 w2 g2 L2 o2 q2 hB => ?_
 simp only [p3, p4]
 refine se ?_
 refine eb 29 #[(.bool false), (.slice bo lb cb)] 3 hB fun b3 w3 g3 L3 o3 q3 hB => ?_
 simp only [p3, p4]
 refine sv 4 (.int .i64 0) ?_
 simp only [p3, p4]
 refine sq_nil ?_
 refine k1 _ _ ?_
 try clear k1 K1
 refine wp_seq_k (fun K4 k4 => ?_)
 refine wp_block ?_
 refine wp_seq_k (fun K5 k5 => ?_)
 refine rg [0, 1, 2, 3, 4, 5] ?_
 refine sv 6 (.pointer (some ⟨b2, 0, none⟩)) ?_
 simp only [p3, p4]
 replace L2 := L2.gr g3
 refine sw 7 (.bool true) rfl (rk 4 0 L2) ?_
 simp only [p3, p4]
 refine sv 8 (.pointer (some ⟨b3, 0, none⟩)) ?_
 simp only [p3, p4]
 refine sw 9 (.bool false) rfl (rk 4 0 L3) ?_
 simp only [p3, p4]
 refine sv 10 (.bool true) ?_
 simp only [p3, p4]
 refine sv 5 (.bool true) ?_
 simp only [p3, p4]
 refine sq_nil ?_
 refine k5 _ _ ?_
 try clear k5 K5
 refine wp_cond_true rfl ?_
 refine wp_seq_k (fun K6 k6 => ?_)
 refine wp_seq_k (fun K7 k7 => ?_)
 refine rg [0, 1] ?_
 refine sv 11 (.pointer (some ⟨b2, 0, none⟩)) ?_
 simp only [p3, p4]
 refine sw 12 (.bool true) rfl (rk 4 0 L2) ?_
 simp only [p3, p4]
 refine sq_nil ?_
 refine k7 _ _ ?_
 try clear k7 K7
 refine wp_cond_true rfl ?_
 refine wp_seq_k (fun K8 k8 => ?_)
 refine rg [0] ?_
 refine sv 4 (.int .i64 (-1)) ?_
 simp only [p3, p4]
 refine sq_nil ?_
 refine k8 _ _ ?_
 try clear k8 K8
 refine wp_ret ?_
 simp only [Exit.then, Exit.inBlock]
 refine bodyPost_ret (v := (.int .i64 (-1))) (ret_tmp rfl rfl) rfl ⟨?_, hB⟩
 exact rfl

set_option maxRecDepth 100000 in
set_option maxHeartbeats 1000000 in
theorem cmp_ft {w : World} {a b : Int} {ao bo : Option Addr} {la lb ca cb : Nat} (_ha : Mag w ao la ca a) (_hb : Mag w bo lb cb b) (_hla : la ≤ 1000000) (_hlb : lb ≤ 1000000) :
    Calls Tryd.prog 68 #[(.agg #[(.bool false), (.slice ao la ca)]), (.agg #[(.bool true), (.slice bo lb cb)])] w fun e w' => (e = .returned (.int .i64 (1))) ∧ Gr w w' := by
 go_enter Tryd.func68, Tryd.ntmps68
 have hB := Gr.refl w
 refine wp_seq_k (fun K1 k1 => ?_)
 refine rg [0, 1, 2] ?_
 refine se ?_
 refine eb 29 #[(.bool false), (.slice ao la ca)] 2 hB fun b2 w2 g2 L2 o2 q2 hB => ?_
 simp only [p3, p4]
 refine se ?_
 refine eb 29 #[(.bool true), (.slice bo lb cb)] 3 hB fun b3 w3 g3 L3 o3 q3 hB => ?_
 simp only [p3, p4]
 refine sv 4 (.int .i64 0) ?_
 simp only [p3, p4]
 refine sq_nil ?_
 refine k1 _ _ ?_
 try clear k1 K1
 refine wp_seq_k (fun K4 k4 => ?_)
 refine wp_block ?_
 refine wp_seq_k (fun K5 k5 => ?_)
 refine rg [0, 1, 2, 3, 4, 5] ?_
 refine sv 6 (.pointer (some ⟨b2, 0, none⟩)) ?_
 simp only [p3, p4]
 replace L2 := L2.gr g3
 refine sw 7 (.bool false) rfl (rk 4 0 L2) ?_
 simp only [p3, p4]
 refine sv 8 (.pointer (some ⟨b3, 0, none⟩)) ?_
 simp only [p3, p4]
 refine sw 9 (.bool true) rfl (rk 4 0 L3) ?_
 simp only [p3, p4]
 refine sv 10 (.bool true) ?_
 simp only [p3, p4]
 refine sv 5 (.bool true) ?_
 simp only [p3, p4]
 refine sq_nil ?_
 refine k5 _ _ ?_
 try clear k5 K5
 refine wp_cond_true rfl ?_
 refine wp_seq_k (fun K6 k6 => ?_)
 refine wp_seq_k (fun K7 k7 => ?_)
 refine rg [0, 1] ?_
 refine sv 11 (.pointer (some ⟨b2, 0, none⟩)) ?_
 simp only [p3, p4]
 refine sw 12 (.bool false) rfl (rk 4 0 L2) ?_
 simp only [p3, p4]
 refine sq_nil ?_
 refine k7 _ _ ?_
 try clear k7 K7
 refine wp_cond_false rfl ?_
 refine wp_skip ?_
 refine k6 _ _ ?_
 try clear k6 K6
 refine wp_seq_k (fun K8 k8 => ?_)
 refine rg [0] ?_
 refine sv 4 (.int .i64 1) ?_
 simp only [p3, p4]
 refine sq_nil ?_
 refine k8 _ _ ?_
 try clear k8 K8
 refine wp_ret ?_
 simp only [Exit.then, Exit.inBlock]
 refine bodyPost_ret (v := (.int .i64 1)) (ret_tmp rfl rfl) rfl ⟨?_, hB⟩
 exact rfl

set_option maxRecDepth 100000 in
set_option maxHeartbeats 1000000 in
theorem cmp_ff {w : World} {a b : Int} {ao bo : Option Addr} {la lb ca cb : Nat} (ha : Mag w ao la ca a) (hb : Mag w bo lb cb b) (_hla : la ≤ 1000000) (_hlb : lb ≤ 1000000) :
    Calls Tryd.prog 68 #[(.agg #[(.bool false), (.slice ao la ca)]), (.agg #[(.bool false), (.slice bo lb cb)])] w fun e w' => (e = .returned (.int .i64 (sgn (a - b)))) ∧ Gr w w' := by
 go_enter Tryd.func68, Tryd.ntmps68
 have hB := Gr.refl w
 refine wp_seq_k (fun K1 k1 => ?_)
 refine rg [0, 1, 2] ?_
 refine se ?_
 refine eb 29 #[(.bool false), (.slice ao la ca)] 2 hB fun b2 w2 g2 L2 o2 q2 hB => ?_
 simp only [p3, p4]
 refine se ?_
 refine eb 29 #[(.bool false), (.slice bo lb cb)] 3 hB fun b3 w3 g3 L3 o3 q3 hB => ?_
 simp only [p3, p4]
 refine sv 4 (.int .i64 0) ?_
 simp only [p3, p4]
 refine sq_nil ?_
 refine k1 _ _ ?_
 try clear k1 K1
 refine wp_seq_k (fun K4 k4 => ?_)
 refine wp_block ?_
 refine wp_seq_k (fun K5 k5 => ?_)
 refine rg [0, 1, 2, 3, 4, 5] ?_
 refine sv 6 (.pointer (some ⟨b2, 0, none⟩)) ?_
 simp only [p3, p4]
 replace L2 := L2.gr g3
 refine sw 7 (.bool false) rfl (rk 4 0 L2) ?_
 simp only [p3, p4]
 refine sv 8 (.pointer (some ⟨b3, 0, none⟩)) ?_
 simp only [p3, p4]
 refine sw 9 (.bool false) rfl (rk 4 0 L3) ?_
 simp only [p3, p4]
 refine sv 10 (.bool false) ?_
 simp only [p3, p4]
 refine sv 5 (.bool false) ?_
 simp only [p3, p4]
 refine sq_nil ?_
 refine k5 _ _ ?_
 try clear k5 K5
 refine wp_cond_false rfl ?_
 refine wp_seq_k (fun K6 k6 => ?_)
 refine rg [0, 1, 2] ?_
 refine sv 14 (.pointer (some ⟨b2, 0, none⟩)) ?_
 simp only [p3, p4]
 refine sw 15 (.bool false) rfl (rk 4 0 L2) ?_
 simp only [p3, p4]
 refine sv 13 (.bool false) ?_
 simp only [p3, p4]
 refine sq_nil ?_
 refine k6 _ _ ?_
 try clear k6 K6
 refine wp_cond_false rfl ?_
 refine wp_skip ?_
 refine k4 _ _ ?_
 try clear k4 K4
 refine wp_seq_k (fun K7 k7 => ?_)
 refine rg [0, 1, 2, 3, 4, 5] ?_
 refine sv 21 (.pointer (some ⟨b2, 1, none⟩)) ?_
 simp only [p3, p4]
 refine sw 22 (.slice ao la ca) rfl (rk 27 1 L2) ?_
 simp only [p3, p4]
 refine sv 23 (.pointer (some ⟨b3, 1, none⟩)) ?_
 simp only [p3, p4]
 refine sw 24 (.slice bo lb cb) rfl (rk 27 1 L3) ?_
 simp only [p3, p4]
 refine se ?_
 have kq9 := g2.kp.trans g3.kp
 replace ha := ha.kp kq9
 replace hb := hb.kp kq9
 refine ec 25 (order_m ha hb (by omega) (by omega)) ?_
 rintro e8 w8 ⟨rfl, g8⟩
 refine ⟨_, rfl, ?_⟩
 replace hB := hB.trans g8
 simp only [p3, p4]
 refine sv 4 (.int .i64 (sgn (a - b))) ?_
 simp only [p3, p4]
 refine sq_nil ?_
 refine k7 _ _ ?_
 try clear k7 K7
 refine wp_ret ?_
 refine bodyPost_ret (v := (.int .i64 (sgn (a - b)))) (ret_tmp rfl rfl) rfl ⟨?_, hB⟩
 exact rfl

set_option maxRecDepth 100000 in
set_option maxHeartbeats 1000000 in
theorem divmod_0 {w : World} {s : Bool} {K m : Nat} {a b Z : Int} {ao bo : Option Addr} {la lb ca cb : Nat} (ha : Mag w ao la ca a) (hb : Mag w bo lb cb b) (hu : IsInt w m (.bool false) (.slice bo lb cb) b) (_hla : la ≤ 1000000) (_hlb : lb ≤ 1000000) (_hb0 : 0 < b) (hd : a % b = 0) (hQ : a / b = (Z.natAbs : Int)) (hS : 0 < a / b → (s != false) = decide (Z < 0)) (hZ : Sz K Z) (hK : K ≤ 1000000) (hm : m ≤ 1000000) :
    Calls Tryd.prog 45 #[(.agg #[(.bool (s)), (.slice ao la ca)]), (.agg #[(.bool false), (.slice bo lb cb)])] w fun e w' => (∃ x' y' x3 y3, e = .returned (.tuple #[.agg #[x', y'], .agg #[x3, y3], .int .i64 0]) ∧ IsInt w' K x' y' (Z) ∧ IsInt w' m x3 y3 (0)) ∧ Gr w w' := by
 have hR : a % b = ((0 : Int).natAbs : Int) := hd
 go_enter Tryd.func45, Tryd.ntmps45
 have hB := Gr.refl w
 refine wp_seq_k (fun K1 k1 => ?_)
 refine rg [0, 1, 2, 3, 4] ?_
 refine se ?_
 refine eb 29 #[(.bool (s)), (.slice ao la ca)] 2 hB fun b2 w2 g2 L2 o2 q2 hB => ?_
 simp only [p3, p4]
 refine se ?_
 refine eb 29 #[(.bool false), (.slice bo lb cb)] 3 hB fun b3 w3 g3 L3 o3 q3 hB => ?_
 simp only [p3, p4]
 refine se ?_
 refine ea 29 #[(.bool false), (.slice none 0 0)] 4 hB fun b4 w4 g4 L4 o4 q4 hB => ?_
 replace L2 := L2.gr g3
 have ne2_4 := L2.ne o4
 have ne3_4 := L3.ne o4
 simp only [p3, p4]
 refine se ?_
 refine ea 29 #[(.bool false), (.slice none 0 0)] 5 hB fun b5 w5 g5 L5 o5 q5 hB => ?_
 replace L2 := L2.gr g4
 have ne2_5 := L2.ne o5
 replace L3 := L3.gr g4
 have ne3_5 := L3.ne o5
 have ne4_5 := L4.ne o5
 simp only [p3, p4]
 refine sv 6 (.int .i64 0) ?_
 simp only [p3, p4]
 refine sq_nil ?_
 refine k1 _ _ ?_
 try clear k1 K1
 refine wp_seq_k (fun K6 k6 => ?_)
 refine wp_seq_k (fun K7 k7 => ?_)
 refine rg [0, 1, 2] ?_
 replace L3 := L3.gr g5
 refine sw 9 (.agg #[(.bool false), (.slice bo lb cb)]) rfl (rl 29 0 [(.bool false), (.slice bo lb cb)] L3) ?_
 simp only [p3, p4]
 refine se ?_
 have kq9 := g2.kp.trans (g3.kp.trans (g4.kp.trans g5.kp))
 replace hu := hu.kp kq9
 refine ec 10 (sign_pos hu (by omega)) ?_
 rintro e8 w8 ⟨rfl, g8⟩
 refine ⟨_, rfl, ?_⟩
 replace hB := hB.trans g8
 simp only [p3, p4]
 refine sv 11 (.bool false) ?_
 simp only [p3, p4]
 refine sq_nil ?_
 refine k7 _ _ ?_
 try clear k7 K7
 refine wp_cond_false rfl ?_
 refine wp_skip ?_
 refine k6 _ _ ?_
 try clear k6 K6
 refine wp_seq_k (fun K10 k10 => ?_)
 refine rg [0, 1, 2, 3, 4, 5, 6, 7, 8, 9] ?_
 refine sv 15 (.pointer (some ⟨b2, 1, none⟩)) ?_
 simp only [p3, p4]
 replace L2 := L2.gr (g5.trans g8)
 refine sw 16 (.slice ao la ca) rfl (rk 27 1 L2) ?_
 simp only [p3, p4]
 refine sv 17 (.pointer (some ⟨b3, 1, none⟩)) ?_
 simp only [p3, p4]
 replace L3 := L3.gr g8
 refine sw 18 (.slice bo lb cb) rfl (rk 27 1 L3) ?_
 simp only [p3, p4]
 refine se ?_
 have kq12 := g2.kp.trans (g3.kp.trans (g4.kp.trans (g5.kp.trans g8.kp)))
 replace ha := ha.kp kq12
 replace hb := hb.kp kq12
 refine ec 19 (divide_m ha hb (by omega) (by omega) (by omega)) ?_
 rintro e11 w11 ⟨⟨qo11, qk11, qc11, ro11, rk11, rc11, rfl, hq11, hr11⟩, g11⟩
 refine ⟨_, rfl, ?_⟩
 replace hB := hB.trans g11
 simp only [p3, p4]
 refine sv 14 (.tuple #[(.slice qo11 qk11 qc11), (.slice ro11 rk11 rc11)]) ?_
 simp only [p3, p4]
 refine sv 20 (.slice qo11 qk11 qc11) ?_
 simp only [p3, p4]
 refine sv 21 (.slice ro11 rk11 rc11) ?_
 simp only [p3, p4]
 refine sv 7 (.slice qo11 qk11 qc11) ?_
 simp only [p3, p4]
 refine sv 8 (.slice ro11 rk11 rc11) ?_
 simp only [p3, p4]
 refine sq_nil ?_
 refine k10 _ _ ?_
 try clear k10 K10
 refine wp_seq_k (fun K13 k13 => ?_)
 have gd24 := Gr.drew w11
 replace hB := hB.trans gd24
 replace L2 := L2.gr (g11.trans gd24)
 replace L3 := L3.gr (g11.trans gd24)
 refine wp_region_ord (fun w' => Lc w' b2 #[(.bool (s)), (.slice ao la ca)] 29 ∧ Lc w' b3 #[(.bool false), (.slice bo lb cb)] 29) [(true, 0), (true, 1), (true, 2), (true, 3), (true, 4), (true, 5), (true, 7), (true, 8), (true, 9), (false, 6), (false, 10), (false, 11), (false, 12)] (by kernel_rfl) (by kernel_rfl) (by kernel_rfl) (by decide) (fun _ _ _ _ _ h => h) ⟨L2, L3⟩ ?_
 refine ov 22 (.pointer (some ⟨b2, 0, none⟩)) ?_
 simp only [p3, p4]
 refine ow 23 (.bool (s)) rfl (fun w' hS => (rk 4 0 hS.1)) ?_
 simp only [p3, p4]
 refine ov 24 (.pointer (some ⟨b3, 0, none⟩)) ?_
 simp only [p3, p4]
 refine ow 25 (.bool false) rfl (fun w' hS => (rk 4 0 hS.2)) ?_
 simp only [p3, p4]
 refine ov 26 (.bool ((s != false))) ?_
 simp only [p3, p4]
 refine ov 27 (.slice qo11 qk11 qc11) ?_
 simp only [p3, p4]
 refine ov 29 (.pointer (some ⟨b2, 0, none⟩)) ?_
 simp only [p3, p4]
 refine ow 30 (.bool (s)) rfl (fun w' hS => (rk 4 0 hS.1)) ?_
 simp only [p3, p4]
 refine ov 31 (.slice ro11 rk11 rc11) ?_
 simp only [p3, p4]
 refine oe ?_
 replace hq11 := hq11.kp gd24.kp
 refine ec 28 (signed_z (neg := (s != false)) (Z := Z) hq11 hQ hS hZ hK) ?_
 rintro e26 w26 ⟨⟨x26, y26, rfl, h26⟩, g26⟩
 refine ⟨_, rfl, ?_⟩
 replace hB := hB.trans g26
 replace L2 := L2.gr g26
 replace L3 := L3.gr g26
 refine ⟨⟨L2, L3⟩, ?_⟩
 simp only [p3, p4]
 refine oe ?_
 have kq29 := gd24.kp.trans g26.kp
 replace hr11 := hr11.kp kq29
 refine ec 32 (signed_z (neg := s) (Z := 0) hr11 hR (fun h => by omega) (Sz.zero m) hm) ?_
 rintro e28 w28 ⟨⟨x28, y28, rfl, h28⟩, g28⟩
 refine ⟨_, rfl, ?_⟩
 replace hB := hB.trans g28
 replace L2 := L2.gr g28
 replace L3 := L3.gr g28
 refine ⟨⟨L2, L3⟩, ?_⟩
 simp only [p3, p4]
 refine oe ?_
 replace L4 := L4.gr (g5.trans (g8.trans (g11.trans (gd24.trans (g26.trans g28)))))
 refine es 29 0 (.agg #[x26, y26]) [x26, y26] #[x26, y26] L4 hB q4 ⟨h26.one0, h26.one1, trivial⟩ fun w31 st31 kp31 L4 hB => ?_
 replace L2 := st31.lc L2 ne2_4
 replace L3 := st31.lc L3 ne3_4
 refine ⟨⟨L2, L3⟩, ?_⟩
 refine oe ?_
 replace L5 := st31.lc (L5.gr (g8.trans (g11.trans (gd24.trans (g26.trans g28))))) (Ne.symm ne4_5)
 refine es 29 0 (.agg #[x28, y28]) [x28, y28] #[x28, y28] L5 hB q5 ⟨h28.one0, h28.one1, trivial⟩ fun w33 st33 kp33 L5 hB => ?_
 replace L2 := st33.lc L2 ne2_5
 replace L3 := st33.lc L3 ne3_5
 refine ⟨⟨L2, L3⟩, ?_⟩
 refine ord_nil ?_
 refine k13 _ _ ?_
 try clear k13 K13
 refine wp_seq_k (fun K34 k34 => ?_)
 refine wp_seq_k (fun K35 k35 => ?_)
 refine rg [0, 1, 2, 3, 4, 5, 6, 7, 8, 9] ?_
 refine sw 33 (.agg #[x28, y28]) rfl (rl 29 0 [x28, y28] L5) ?_
 simp only [p3, p4]
 refine se ?_
 have kq37 := kp31.trans kp33
 replace h28 := h28.kp kq37
 refine ec 34 (sign_zero h28) ?_
 rintro e36 w36 ⟨rfl, g36⟩
 refine ⟨_, rfl, ?_⟩
 replace hB := hB.trans g36
 simp only [p3, p4]
 refine sv 35 (.bool false) ?_
 simp only [p3, p4]
 refine sv 36 (.bool false) ?_
 simp only [p3, p4]
 refine ss 37 ?_
 simp only [p3, p4]
 refine ss 38 ?_
 simp only [p3, p4]
 refine ss 39 ?_
 simp only [p3, p4]
 refine ss 40 ?_
 simp only [p3, p4]
 refine ss 41 ?_
 simp only [p3, p4]
 refine sv 42 (.bool false) ?_
 simp only [p3, p4]
 refine sq_nil ?_
 refine k35 _ _ ?_
 try clear k35 K35
 refine wp_cond_false rfl ?_
 refine wp_skip ?_
 refine k34 _ _ ?_
 try clear k34 K34
 refine wp_seq_k (fun K38 k38 => ?_)
 have gd40 := Gr.drew w36
 replace hB := hB.trans gd40
 replace L4 := (st33.lc L4 ne4_5).gr (g36.trans gd40)
 replace L5 := L5.gr (g36.trans gd40)
 refine wp_region_ort (fun _ => True) [([2], (fun w' => Lc w' b4 #[x26, y26] 29)), ([3], (fun w' => Lc w' b5 #[x28, y28] 29))] [(true, 0), (true, 1), (false, 2), (false, 3), (true, 4)] (by kernel_rfl) (by kernel_rfl) (by kernel_rfl) (by decide) (fun _ _ _ _ _ h => h) trivial ⟨fun _ => L4, fun _ => L5, trivial⟩ ?_
 refine tw 49 (.agg #[x26, y26]) rfl (fun w' hS => (rl 29 0 [x26, y26] (hS.2.1 (by kernel_rfl)))) ?_
 simp only [p3, p4]
 refine tw 50 (.agg #[x28, y28]) rfl (fun w' hS => (rl 29 0 [x28, y28] (hS.2.2.1 (by kernel_rfl)))) ?_
 simp only [p3, p4]
 refine te ?_
 refine es 29 0 (.agg #[x26, y26]) [x26, y26] #[x26, y26] L4 hB q4 ⟨h26.one0, h26.one1, trivial⟩ fun w42 st42 kp42 L4 hB => ?_
 replace L5 := st42.lc L5 (Ne.symm ne4_5)
 refine ⟨trivial, ⟨cameT (by kernel_rfl), fun _ => L5, trivial⟩, ?_⟩
 refine te ?_
 refine es 29 0 (.agg #[x28, y28]) [x28, y28] #[x28, y28] L5 hB q5 ⟨h28.one0, h28.one1, trivial⟩ fun w44 st44 kp44 L5 hB => ?_
 refine ⟨trivial, ⟨cameT (by kernel_rfl), cameT (by kernel_rfl), trivial⟩, ?_⟩
 refine tv 6 (.int .i64 0) ?_
 simp only [p3, p4]
 refine ort_nil ?_
 refine k38 _ _ ?_
 try clear k38 K38
 refine wp_ret ?_
 replace L4 := st44.lc L4 ne4_5
 refine bodyPost_ret (v := (.tuple #[(.agg #[x26, y26]), (.agg #[x28, y28]), (.int .i64 0)])) (ret_cell2_tmp' _ _ _ _ _ _ rfl rfl rfl L4 (by kernel_rfl) L5 (by kernel_rfl) rfl) rfl ⟨?_, hB⟩
 have kq45 := g28.kp.trans (kp31.trans (kp33.trans (g36.kp.trans (gd40.kp.trans (kp42.trans kp44)))))
 replace h26 := h26.kp kq45
 have kq46 := g36.kp.trans (gd40.kp.trans (kp42.trans kp44))
 replace h28 := h28.kp kq46
 exact ⟨_, _, _, _, rfl, h26, h28⟩

set_option maxRecDepth 100000 in
set_option maxHeartbeats 1000000 in
theorem divmod_f {w : World} {K m : Nat} {a b : Int} {ao bo : Option Addr} {la lb ca cb : Nat} (ha : Mag w ao la ca a) (hb : Mag w bo lb cb b) (hu : IsInt w m (.bool false) (.slice bo lb cb) b) (_hla : la ≤ 1000000) (_hlb : lb ≤ 1000000) (_hb0 : 0 < b) (hR : 0 < a % b) (_hL : a % b < b) (_hQ : 0 ≤ a / b) (hZ : Sz K (a / b)) (hK : K ≤ 1000000) (hm : m ≤ 1000000) :
    Calls Tryd.prog 45 #[(.agg #[(.bool false), (.slice ao la ca)]), (.agg #[(.bool false), (.slice bo lb cb)])] w fun e w' => (∃ x' y' x3 y3, e = .returned (.tuple #[.agg #[x', y'], .agg #[x3, y3], .int .i64 0]) ∧ IsInt w' K x' y' (a / b) ∧ IsInt w' m x3 y3 (a % b)) ∧ Gr w w' := by
 go_enter Tryd.func45, Tryd.ntmps45
 have hB := Gr.refl w
 refine wp_seq_k (fun K1 k1 => ?_)
 refine rg [0, 1, 2, 3, 4] ?_
 refine se ?_
 refine eb 29 #[(.bool false), (.slice ao la ca)] 2 hB fun b2 w2 g2 L2 o2 q2 hB => ?_
 simp only [p3, p4]
 refine se ?_
 refine eb 29 #[(.bool false), (.slice bo lb cb)] 3 hB fun b3 w3 g3 L3 o3 q3 hB => ?_
 simp only [p3, p4]
 refine se ?_
 refine ea 29 #[(.bool false), (.slice none 0 0)] 4 hB fun b4 w4 g4 L4 o4 q4 hB => ?_
 replace L2 := L2.gr g3
 have ne2_4 := L2.ne o4
 have ne3_4 := L3.ne o4
 simp only [p3, p4]
 refine se ?_
 refine ea 29 #[(.bool false), (.slice none 0 0)] 5 hB fun b5 w5 g5 L5 o5 q5 hB => ?_
 replace L2 := L2.gr g4
 have ne2_5 := L2.ne o5
 replace L3 := L3.gr g4
 have ne3_5 := L3.ne o5
 have ne4_5 := L4.ne o5
 simp only [p3, p4]
 refine sv 6 (.int .i64 0) ?_
 simp only [p3, p4]
 refine sq_nil ?_
 refine k1 _ _ ?_
 try clear k1 K1
 refine wp_seq_k (fun K6 k6 => ?_)
 refine wp_seq_k (fun K7 k7 => ?_)
 refine rg [0, 1, 2] ?_
 replace L3 := L3.gr g5
 refine sw 9 (.agg #[(.bool false), (.slice bo lb cb)]) rfl (rl 29 0 [(.bool false), (.slice bo lb cb)] L3) ?_
 simp only [p3, p4]
 refine se ?_
 have kq9 := g2.kp.trans (g3.kp.trans (g4.kp.trans g5.kp))
 replace hu := hu.kp kq9
 refine ec 10 (sign_pos hu (by omega)) ?_
 rintro e8 w8 ⟨rfl, g8⟩
 refine ⟨_, rfl, ?_⟩
 replace hB := hB.trans g8
 simp only [p3, p4]
 refine sv 11 (.bool false) ?_
 simp only [p3, p4]
 refine sq_nil ?_
 refine k7 _ _ ?_
 try clear k7 K7
 refine wp_cond_false rfl ?_
 refine wp_skip ?_
 refine k6 _ _ ?_
 try clear k6 K6
 refine wp_seq_k (fun K10 k10 => ?_)
 refine rg [0, 1, 2, 3, 4, 5, 6, 7, 8, 9] ?_
 refine sv 15 (.pointer (some ⟨b2, 1, none⟩)) ?_
 simp only [p3, p4]
 replace L2 := L2.gr (g5.trans g8)
 refine sw 16 (.slice ao la ca) rfl (rk 27 1 L2) ?_
 simp only [p3, p4]
 refine sv 17 (.pointer (some ⟨b3, 1, none⟩)) ?_
 simp only [p3, p4]
 replace L3 := L3.gr g8
 refine sw 18 (.slice bo lb cb) rfl (rk 27 1 L3) ?_
 simp only [p3, p4]
 refine se ?_
 have kq12 := g2.kp.trans (g3.kp.trans (g4.kp.trans (g5.kp.trans g8.kp)))
 replace ha := ha.kp kq12
 replace hb := hb.kp kq12
 refine ec 19 (divide_m ha hb (by omega) (by omega) (by omega)) ?_
 rintro e11 w11 ⟨⟨qo11, qk11, qc11, ro11, rk11, rc11, rfl, hq11, hr11⟩, g11⟩
 refine ⟨_, rfl, ?_⟩
 replace hB := hB.trans g11
 simp only [p3, p4]
 refine sv 14 (.tuple #[(.slice qo11 qk11 qc11), (.slice ro11 rk11 rc11)]) ?_
 simp only [p3, p4]
 refine sv 20 (.slice qo11 qk11 qc11) ?_
 simp only [p3, p4]
 refine sv 21 (.slice ro11 rk11 rc11) ?_
 simp only [p3, p4]
 refine sv 7 (.slice qo11 qk11 qc11) ?_
 simp only [p3, p4]
 refine sv 8 (.slice ro11 rk11 rc11) ?_
 simp only [p3, p4]
 refine sq_nil ?_
 refine k10 _ _ ?_
 try clear k10 K10
 refine wp_seq_k (fun K13 k13 => ?_)
 have gd24 := Gr.drew w11
 replace hB := hB.trans gd24
 replace L2 := L2.gr (g11.trans gd24)
 replace L3 := L3.gr (g11.trans gd24)
 refine wp_region_ord (fun w' => Lc w' b2 #[(.bool false), (.slice ao la ca)] 29 ∧ Lc w' b3 #[(.bool false), (.slice bo lb cb)] 29) [(true, 0), (true, 1), (true, 2), (true, 3), (true, 4), (true, 5), (true, 7), (true, 8), (true, 9), (false, 6), (false, 10), (false, 11), (false, 12)] (by kernel_rfl) (by kernel_rfl) (by kernel_rfl) (by decide) (fun _ _ _ _ _ h => h) ⟨L2, L3⟩ ?_
 refine ov 22 (.pointer (some ⟨b2, 0, none⟩)) ?_
 simp only [p3, p4]
 refine ow 23 (.bool false) rfl (fun w' hS => (rk 4 0 hS.1)) ?_
 simp only [p3, p4]
 refine ov 24 (.pointer (some ⟨b3, 0, none⟩)) ?_
 simp only [p3, p4]
 refine ow 25 (.bool false) rfl (fun w' hS => (rk 4 0 hS.2)) ?_
 simp only [p3, p4]
 refine ov 26 (.bool false) ?_
 simp only [p3, p4]
 refine ov 27 (.slice qo11 qk11 qc11) ?_
 simp only [p3, p4]
 refine ov 29 (.pointer (some ⟨b2, 0, none⟩)) ?_
 simp only [p3, p4]
 refine ow 30 (.bool false) rfl (fun w' hS => (rk 4 0 hS.1)) ?_
 simp only [p3, p4]
 refine ov 31 (.slice ro11 rk11 rc11) ?_
 simp only [p3, p4]
 refine oe ?_
 replace hq11 := hq11.kp gd24.kp
 refine ec 28 (signed_z (neg := false) (Z := (a / b)) hq11 (by omega) (fun _ => by simp; omega) hZ hK) ?_
 rintro e26 w26 ⟨⟨x26, y26, rfl, h26⟩, g26⟩
 refine ⟨_, rfl, ?_⟩
 replace hB := hB.trans g26
 replace L2 := L2.gr g26
 replace L3 := L3.gr g26
 refine ⟨⟨L2, L3⟩, ?_⟩
 simp only [p3, p4]
 refine oe ?_
 have kq29 := gd24.kp.trans g26.kp
 replace hr11 := hr11.kp kq29
 refine ec 32 (signed_pf hr11 hR (Sz.of_le hu.sz (by omega)) hm) ?_
 rintro e28 w28 ⟨⟨k28, rfl, h28⟩, g28⟩
 refine ⟨_, rfl, ?_⟩
 replace hB := hB.trans g28
 replace L2 := L2.gr g28
 replace L3 := L3.gr g28
 refine ⟨⟨L2, L3⟩, ?_⟩
 simp only [p3, p4]
 refine oe ?_
 replace L4 := L4.gr (g5.trans (g8.trans (g11.trans (gd24.trans (g26.trans g28)))))
 refine es 29 0 (.agg #[x26, y26]) [x26, y26] #[x26, y26] L4 hB q4 ⟨h26.one0, h26.one1, trivial⟩ fun w31 st31 kp31 L4 hB => ?_
 replace L2 := st31.lc L2 ne2_4
 replace L3 := st31.lc L3 ne3_4
 refine ⟨⟨L2, L3⟩, ?_⟩
 refine oe ?_
 replace L5 := st31.lc (L5.gr (g8.trans (g11.trans (gd24.trans (g26.trans g28))))) (Ne.symm ne4_5)
 refine es 29 0 (.agg #[(.bool false), (.slice ro11 k28 rc11)]) [(.bool false), (.slice ro11 k28 rc11)] #[(.bool false), (.slice ro11 k28 rc11)] L5 hB q5 ⟨rfl, rfl, trivial⟩ fun w33 st33 kp33 L5 hB => ?_
 replace L2 := st33.lc L2 ne2_5
 replace L3 := st33.lc L3 ne3_5
 refine ⟨⟨L2, L3⟩, ?_⟩
 refine ord_nil ?_
 refine k13 _ _ ?_
 try clear k13 K13
 refine wp_seq_k (fun K34 k34 => ?_)
 refine wp_seq_k (fun K35 k35 => ?_)
 refine rg [0, 1, 2, 3, 4, 5, 6, 7, 8, 9] ?_
 refine sw 33 (.agg #[(.bool false), (.slice ro11 k28 rc11)]) rfl (rl 29 0 [(.bool false), (.slice ro11 k28 rc11)] L5) ?_
 simp only [p3, p4]
 refine se ?_
 have kq37 := kp31.trans kp33
 replace h28 := h28.kp kq37
 refine ec 34 (sign_pos h28 (by omega)) ?_
 rintro e36 w36 ⟨rfl, g36⟩
 refine ⟨_, rfl, ?_⟩
 replace hB := hB.trans g36
 simp only [p3, p4]
 refine sv 35 (.bool true) ?_
 simp only [p3, p4]
 refine sv 36 (.bool true) ?_
 simp only [p3, p4]
 refine sv 37 (.pointer (some ⟨b5, 0, none⟩)) ?_
 simp only [p3, p4]
 replace L5 := L5.gr g36
 refine sw 38 (.bool false) rfl (rk 4 0 L5) ?_
 simp only [p3, p4]
 refine sv 39 (.pointer (some ⟨b3, 0, none⟩)) ?_
 simp only [p3, p4]
 replace L3 := L3.gr g36
 refine sw 40 (.bool false) rfl (rk 4 0 L3) ?_
 simp only [p3, p4]
 refine sv 41 (.bool false) ?_
 simp only [p3, p4]
 refine sv 42 (.bool false) ?_
 simp only [p3, p4]
 refine sq_nil ?_
 refine k35 _ _ ?_
 try clear k35 K35
 refine wp_cond_false rfl ?_
 refine wp_skip ?_
 refine k34 _ _ ?_
 try clear k34 K34
 refine wp_seq_k (fun K38 k38 => ?_)
 have gd40 := Gr.drew w36
 replace hB := hB.trans gd40
 replace L4 := (st33.lc L4 ne4_5).gr (g36.trans gd40)
 replace L5 := L5.gr gd40
 refine wp_region_ort (fun _ => True) [([2], (fun w' => Lc w' b4 #[x26, y26] 29)), ([3], (fun w' => Lc w' b5 #[(.bool false), (.slice ro11 k28 rc11)] 29))] [(true, 0), (true, 1), (false, 2), (false, 3), (true, 4)] (by kernel_rfl) (by kernel_rfl) (by kernel_rfl) (by decide) (fun _ _ _ _ _ h => h) trivial ⟨fun _ => L4, fun _ => L5, trivial⟩ ?_
 refine tw 49 (.agg #[x26, y26]) rfl (fun w' hS => (rl 29 0 [x26, y26] (hS.2.1 (by kernel_rfl)))) ?_
 simp only [p3, p4]
 refine tw 50 (.agg #[(.bool false), (.slice ro11 k28 rc11)]) rfl (fun w' hS => (rl 29 0 [(.bool false), (.slice ro11 k28 rc11)] (hS.2.2.1 (by kernel_rfl)))) ?_
 simp only [p3, p4]
 refine te ?_
 refine es 29 0 (.agg #[x26, y26]) [x26, y26] #[x26, y26] L4 hB q4 ⟨h26.one0, h26.one1, trivial⟩ fun w42 st42 kp42 L4 hB => ?_
 replace L5 := st42.lc L5 (Ne.symm ne4_5)
 refine ⟨trivial, ⟨cameT (by kernel_rfl), fun _ => L5, trivial⟩, ?_⟩
 refine te ?_
 refine es 29 0 (.agg #[(.bool false), (.slice ro11 k28 rc11)]) [(.bool false), (.slice ro11 k28 rc11)] #[(.bool false), (.slice ro11 k28 rc11)] L5 hB q5 ⟨rfl, rfl, trivial⟩ fun w44 st44 kp44 L5 hB => ?_
 refine ⟨trivial, ⟨cameT (by kernel_rfl), cameT (by kernel_rfl), trivial⟩, ?_⟩
 refine tv 6 (.int .i64 0) ?_
 simp only [p3, p4]
 refine ort_nil ?_
 refine k38 _ _ ?_
 try clear k38 K38
 refine wp_ret ?_
 replace L4 := st44.lc L4 ne4_5
 refine bodyPost_ret (v := (.tuple #[(.agg #[x26, y26]), (.agg #[(.bool false), (.slice ro11 k28 rc11)]), (.int .i64 0)])) (ret_cell2_tmp' _ _ _ _ _ _ rfl rfl rfl L4 (by kernel_rfl) L5 (by kernel_rfl) rfl) rfl ⟨?_, hB⟩
 have kq45 := g28.kp.trans (kp31.trans (kp33.trans (g36.kp.trans (gd40.kp.trans (kp42.trans kp44)))))
 replace h26 := h26.kp kq45
 have kq46 := g36.kp.trans (gd40.kp.trans (kp42.trans kp44))
 replace h28 := h28.kp kq46
 exact ⟨_, _, _, _, rfl, h26, h28⟩

set_option maxRecDepth 100000 in
set_option maxHeartbeats 1000000 in
theorem divmod_t {w : World} {K m : Nat} {a b : Int} {ao bo : Option Addr} {la lb ca cb : Nat} (ha : Mag w ao la ca a) (hb : Mag w bo lb cb b) (hu : IsInt w m (.bool false) (.slice bo lb cb) b) (_hla : la ≤ 1000000) (_hlb : lb ≤ 1000000) (_hb0 : 0 < b) (hR : 0 < a % b) (_hL : a % b < b) (_hQ : 0 ≤ a / b) (hZ : Sz K (-(a / b))) (_hK : K + 64 + 1 ≤ 1000000) (_hm : m + m + 1 ≤ 1000000) :
    Calls Tryd.prog 45 #[(.agg #[(.bool true), (.slice ao la ca)]), (.agg #[(.bool false), (.slice bo lb cb)])] w fun e w' => (∃ x' y' x3 y3, e = .returned (.tuple #[.agg #[x', y'], .agg #[x3, y3], .int .i64 0]) ∧ IsInt w' (K + 64 + 1) x' y' (-(a / b) - 1) ∧ IsInt w' (m + m + 1) x3 y3 (-(a % b) + b)) ∧ Gr w w' := by
 go_enter Tryd.func45, Tryd.ntmps45
 have hB := Gr.refl w
 refine wp_seq_k (fun K1 k1 => ?_)
 refine rg [0, 1, 2, 3, 4] ?_
 refine se ?_
 refine eb 29 #[(.bool true), (.slice ao la ca)] 2 hB fun b2 w2 g2 L2 o2 q2 hB => ?_
 simp only [p3, p4]
 refine se ?_
 refine eb 29 #[(.bool false), (.slice bo lb cb)] 3 hB fun b3 w3 g3 L3 o3 q3 hB => ?_
 simp only [p3, p4]
 refine se ?_
 refine ea 29 #[(.bool false), (.slice none 0 0)] 4 hB fun b4 w4 g4 L4 o4 q4 hB => ?_
 replace L2 := L2.gr g3
 have ne2_4 := L2.ne o4
 have ne3_4 := L3.ne o4
 simp only [p3, p4]
 refine se ?_
 refine ea 29 #[(.bool false), (.slice none 0 0)] 5 hB fun b5 w5 g5 L5 o5 q5 hB => ?_
 replace L2 := L2.gr g4
 have ne2_5 := L2.ne o5
 replace L3 := L3.gr g4
 have ne3_5 := L3.ne o5
 have ne4_5 := L4.ne o5
 simp only [p3, p4]
 refine sv 6 (.int .i64 0) ?_
 simp only [p3, p4]
 refine sq_nil ?_
 refine k1 _ _ ?_
 try clear k1 K1
 refine wp_seq_k (fun K6 k6 => ?_)
 refine wp_seq_k (fun K7 k7 => ?_)
 refine rg [0, 1, 2] ?_
 replace L3 := L3.gr g5
 refine sw 9 (.agg #[(.bool false), (.slice bo lb cb)]) rfl (rl 29 0 [(.bool false), (.slice bo lb cb)] L3) ?_
 simp only [p3, p4]
 refine se ?_
 have kq9 := g2.kp.trans (g3.kp.trans (g4.kp.trans g5.kp))
 replace hu := hu.kp kq9
 refine ec 10 (sign_pos hu (by omega)) ?_
 rintro e8 w8 ⟨rfl, g8⟩
 refine ⟨_, rfl, ?_⟩
 replace hB := hB.trans g8
 simp only [p3, p4]
 refine sv 11 (.bool false) ?_
 simp only [p3, p4]
 refine sq_nil ?_
 refine k7 _ _ ?_
 try clear k7 K7
 refine wp_cond_false rfl ?_
 refine wp_skip ?_
 refine k6 _ _ ?_
 try clear k6 K6
 refine wp_seq_k (fun K10 k10 => ?_)
 refine rg [0, 1, 2, 3, 4, 5, 6, 7, 8, 9] ?_
 refine sv 15 (.pointer (some ⟨b2, 1, none⟩)) ?_
 simp only [p3, p4]
 replace L2 := L2.gr (g5.trans g8)
 refine sw 16 (.slice ao la ca) rfl (rk 27 1 L2) ?_
 simp only [p3, p4]
 refine sv 17 (.pointer (some ⟨b3, 1, none⟩)) ?_
 simp only [p3, p4]
 replace L3 := L3.gr g8
 refine sw 18 (.slice bo lb cb) rfl (rk 27 1 L3) ?_
 simp only [p3, p4]
 refine se ?_
 have kq12 := g2.kp.trans (g3.kp.trans (g4.kp.trans (g5.kp.trans g8.kp)))
 replace ha := ha.kp kq12
 replace hb := hb.kp kq12
 refine ec 19 (divide_m ha hb (by omega) (by omega) (by omega)) ?_
 rintro e11 w11 ⟨⟨qo11, qk11, qc11, ro11, rk11, rc11, rfl, hq11, hr11⟩, g11⟩
 refine ⟨_, rfl, ?_⟩
 replace hB := hB.trans g11
 simp only [p3, p4]
 refine sv 14 (.tuple #[(.slice qo11 qk11 qc11), (.slice ro11 rk11 rc11)]) ?_
 simp only [p3, p4]
 refine sv 20 (.slice qo11 qk11 qc11) ?_
 simp only [p3, p4]
 refine sv 21 (.slice ro11 rk11 rc11) ?_
 simp only [p3, p4]
 refine sv 7 (.slice qo11 qk11 qc11) ?_
 simp only [p3, p4]
 refine sv 8 (.slice ro11 rk11 rc11) ?_
 simp only [p3, p4]
 refine sq_nil ?_
 refine k10 _ _ ?_
 try clear k10 K10
 refine wp_seq_k (fun K13 k13 => ?_)
 have gd24 := Gr.drew w11
 replace hB := hB.trans gd24
 replace L2 := L2.gr (g11.trans gd24)
 replace L3 := L3.gr (g11.trans gd24)
 refine wp_region_ord (fun w' => Lc w' b2 #[(.bool true), (.slice ao la ca)] 29 ∧ Lc w' b3 #[(.bool false), (.slice bo lb cb)] 29) [(true, 0), (true, 1), (true, 2), (true, 3), (true, 4), (true, 5), (true, 7), (true, 8), (true, 9), (false, 6), (false, 10), (false, 11), (false, 12)] (by kernel_rfl) (by kernel_rfl) (by kernel_rfl) (by decide) (fun _ _ _ _ _ h => h) ⟨L2, L3⟩ ?_
 refine ov 22 (.pointer (some ⟨b2, 0, none⟩)) ?_
 simp only [p3, p4]
 refine ow 23 (.bool true) rfl (fun w' hS => (rk 4 0 hS.1)) ?_
 simp only [p3, p4]
 refine ov 24 (.pointer (some ⟨b3, 0, none⟩)) ?_
 simp only [p3, p4]
 refine ow 25 (.bool false) rfl (fun w' hS => (rk 4 0 hS.2)) ?_
 simp only [p3, p4]
 refine ov 26 (.bool true) ?_
 simp only [p3, p4]
 refine ov 27 (.slice qo11 qk11 qc11) ?_
 simp only [p3, p4]
 refine ov 29 (.pointer (some ⟨b2, 0, none⟩)) ?_
 simp only [p3, p4]
 refine ow 30 (.bool true) rfl (fun w' hS => (rk 4 0 hS.1)) ?_
 simp only [p3, p4]
 refine ov 31 (.slice ro11 rk11 rc11) ?_
 simp only [p3, p4]
 refine oe ?_
 replace hq11 := hq11.kp gd24.kp
 refine ec 28 (signed_z (neg := true) (Z := (-(a / b))) hq11 (by omega) (fun _ => by simp; omega) hZ (by omega)) ?_
 rintro e26 w26 ⟨⟨x26, y26, rfl, h26⟩, g26⟩
 refine ⟨_, rfl, ?_⟩
 replace hB := hB.trans g26
 replace L2 := L2.gr g26
 replace L3 := L3.gr g26
 refine ⟨⟨L2, L3⟩, ?_⟩
 simp only [p3, p4]
 refine oe ?_
 have kq29 := gd24.kp.trans g26.kp
 replace hr11 := hr11.kp kq29
 refine ec 32 (signed_pt hr11 hR (Sz.of_le hu.sz (by omega)) (by omega)) ?_
 rintro e28 w28 ⟨⟨k28, rfl, h28⟩, g28⟩
 refine ⟨_, rfl, ?_⟩
 replace hB := hB.trans g28
 replace L2 := L2.gr g28
 replace L3 := L3.gr g28
 refine ⟨⟨L2, L3⟩, ?_⟩
 simp only [p3, p4]
 refine oe ?_
 replace L4 := L4.gr (g5.trans (g8.trans (g11.trans (gd24.trans (g26.trans g28)))))
 refine es 29 0 (.agg #[x26, y26]) [x26, y26] #[x26, y26] L4 hB q4 ⟨h26.one0, h26.one1, trivial⟩ fun w31 st31 kp31 L4 hB => ?_
 replace L2 := st31.lc L2 ne2_4
 replace L3 := st31.lc L3 ne3_4
 refine ⟨⟨L2, L3⟩, ?_⟩
 refine oe ?_
 replace L5 := st31.lc (L5.gr (g8.trans (g11.trans (gd24.trans (g26.trans g28))))) (Ne.symm ne4_5)
 refine es 29 0 (.agg #[(.bool true), (.slice ro11 k28 rc11)]) [(.bool true), (.slice ro11 k28 rc11)] #[(.bool true), (.slice ro11 k28 rc11)] L5 hB q5 ⟨rfl, rfl, trivial⟩ fun w33 st33 kp33 L5 hB => ?_
 replace L2 := st33.lc L2 ne2_5
 replace L3 := st33.lc L3 ne3_5
 refine ⟨⟨L2, L3⟩, ?_⟩
 refine ord_nil ?_
 refine k13 _ _ ?_
 try clear k13 K13
 refine wp_seq_k (fun K34 k34 => ?_)
 refine wp_seq_k (fun K35 k35 => ?_)
 refine rg [0, 1, 2, 3, 4, 5, 6, 7, 8, 9] ?_
 refine sw 33 (.agg #[(.bool true), (.slice ro11 k28 rc11)]) rfl (rl 29 0 [(.bool true), (.slice ro11 k28 rc11)] L5) ?_
 simp only [p3, p4]
 refine se ?_
 have kq37 := kp31.trans kp33
 replace h28 := h28.kp kq37
 refine ec 34 (sign_neg h28 (by omega)) ?_
 rintro e36 w36 ⟨rfl, g36⟩
 refine ⟨_, rfl, ?_⟩
 replace hB := hB.trans g36
 simp only [p3, p4]
 refine sv 35 (.bool true) ?_
 simp only [p3, p4]
 refine sv 36 (.bool true) ?_
 simp only [p3, p4]
 refine sv 37 (.pointer (some ⟨b5, 0, none⟩)) ?_
 simp only [p3, p4]
 replace L5 := L5.gr g36
 refine sw 38 (.bool true) rfl (rk 4 0 L5) ?_
 simp only [p3, p4]
 refine sv 39 (.pointer (some ⟨b3, 0, none⟩)) ?_
 simp only [p3, p4]
 replace L3 := L3.gr g36
 refine sw 40 (.bool false) rfl (rk 4 0 L3) ?_
 simp only [p3, p4]
 refine sv 41 (.bool true) ?_
 simp only [p3, p4]
 refine sv 42 (.bool true) ?_
 simp only [p3, p4]
 refine sq_nil ?_
 refine k35 _ _ ?_
 try clear k35 K35
 refine wp_cond_true rfl ?_
 have gd39 := Gr.drew w36
 replace hB := hB.trans gd39
 replace L3 := L3.gr gd39
 replace L4 := (st33.lc L4 ne4_5).gr (g36.trans gd39)
 replace L5 := L5.gr gd39
 refine wp_region_ort (fun w' => Lc w' b3 #[(.bool false), (.slice bo lb cb)] 29) [([6], (fun w' => Lc w' b4 #[x26, y26] 29)), ([7], (fun w' => Lc w' b5 #[(.bool true), (.slice ro11 k28 rc11)] 29))] [(true, 0), (true, 3), (true, 4), (false, 1), (false, 2), (false, 5), (false, 6), (false, 7)] (by kernel_rfl) (by kernel_rfl) (by kernel_rfl) (by decide) (fun _ _ _ _ _ h => h) L3 ⟨fun _ => L4, fun _ => L5, trivial⟩ ?_
 refine tw 43 (.agg #[x26, y26]) rfl (fun w' hS => (rl 29 0 [x26, y26] (hS.2.1 (by kernel_rfl)))) ?_
 simp only [p3, p4]
 refine tw 46 (.agg #[(.bool true), (.slice ro11 k28 rc11)]) rfl (fun w' hS => (rl 29 0 [(.bool true), (.slice ro11 k28 rc11)] (hS.2.2.1 (by kernel_rfl)))) ?_
 simp only [p3, p4]
 refine tw 47 (.agg #[(.bool false), (.slice bo lb cb)]) rfl (fun w' hS => (rl 29 0 [(.bool false), (.slice bo lb cb)] hS.1)) ?_
 simp only [p3, p4]
 refine te ?_
 refine ec 44 (from_i (1) (by omega) (by omega) _) ?_
 rintro e41 w41 ⟨⟨x41, y41, rfl, h41⟩, g41⟩
 refine ⟨_, rfl, ?_⟩
 replace hB := hB.trans g41
 replace L3 := L3.gr g41
 replace L4 := L4.gr g41
 replace L5 := L5.gr g41
 refine ⟨L3, ⟨fun _ => L4, fun _ => L5, trivial⟩, ?_⟩
 simp only [p3, p4]
 refine te ?_
 have kq44 := g28.kp.trans (kp31.trans (kp33.trans (g36.kp.trans (gd39.kp.trans g41.kp))))
 replace h26 := h26.kp kq44
 refine ec 45 (sub_i h26 h41 (by omega)) ?_
 rintro e43 w43 ⟨⟨x43, y43, rfl, h43⟩, g43⟩
 refine ⟨_, rfl, ?_⟩
 replace hB := hB.trans g43
 replace L3 := L3.gr g43
 replace L4 := L4.gr g43
 replace L5 := L5.gr g43
 refine ⟨L3, ⟨fun _ => L4, fun _ => L5, trivial⟩, ?_⟩
 simp only [p3, p4]
 refine te ?_
 have kq47 := g36.kp.trans (gd39.kp.trans (g41.kp.trans g43.kp))
 replace h28 := h28.kp kq47
 have kq48 := g8.kp.trans (g11.kp.trans (gd24.kp.trans (g26.kp.trans (g28.kp.trans (kp31.trans (kp33.trans (g36.kp.trans (gd39.kp.trans (g41.kp.trans g43.kp)))))))))
 replace hu := hu.kp kq48
 refine ec 48 (add_i h28 hu (by omega)) ?_
 rintro e46 w46 ⟨⟨x46, y46, rfl, h46⟩, g46⟩
 refine ⟨_, rfl, ?_⟩
 replace hB := hB.trans g46
 replace L3 := L3.gr g46
 replace L4 := L4.gr g46
 replace L5 := L5.gr g46
 refine ⟨L3, ⟨fun _ => L4, fun _ => L5, trivial⟩, ?_⟩
 simp only [p3, p4]
 refine te ?_
 refine es 29 0 (.agg #[x43, y43]) [x43, y43] #[x43, y43] L4 hB q4 ⟨h43.one0, h43.one1, trivial⟩ fun w50 st50 kp50 L4 hB => ?_
 replace L3 := st50.lc L3 ne3_4
 replace L5 := st50.lc L5 (Ne.symm ne4_5)
 refine ⟨L3, ⟨cameT (by kernel_rfl), fun _ => L5, trivial⟩, ?_⟩
 refine te ?_
 refine es 29 0 (.agg #[x46, y46]) [x46, y46] #[x46, y46] L5 hB q5 ⟨h46.one0, h46.one1, trivial⟩ fun w52 st52 kp52 L5 hB => ?_
 replace L3 := st52.lc L3 ne3_5
 refine ⟨L3, ⟨cameT (by kernel_rfl), cameT (by kernel_rfl), trivial⟩, ?_⟩
 refine ort_nil ?_
 refine k34 _ _ ?_
 try clear k34 K34
 refine wp_seq_k (fun K53 k53 => ?_)
 have gd55 := Gr.drew w52
 replace hB := hB.trans gd55
 replace L4 := (st52.lc L4 ne4_5).gr gd55
 replace L5 := L5.gr gd55
 refine wp_region_ort (fun _ => True) [([2], (fun w' => Lc w' b4 #[x43, y43] 29)), ([3], (fun w' => Lc w' b5 #[x46, y46] 29))] [(true, 0), (true, 1), (false, 2), (false, 3), (true, 4)] (by kernel_rfl) (by kernel_rfl) (by kernel_rfl) (by decide) (fun _ _ _ _ _ h => h) trivial ⟨fun _ => L4, fun _ => L5, trivial⟩ ?_
 refine tw 49 (.agg #[x43, y43]) rfl (fun w' hS => (rl 29 0 [x43, y43] (hS.2.1 (by kernel_rfl)))) ?_
 simp only [p3, p4]
 refine tw 50 (.agg #[x46, y46]) rfl (fun w' hS => (rl 29 0 [x46, y46] (hS.2.2.1 (by kernel_rfl)))) ?_
 simp only [p3, p4]
 refine te ?_
 refine es 29 0 (.agg #[x43, y43]) [x43, y43] #[x43, y43] L4 hB q4 ⟨h43.one0, h43.one1, trivial⟩ fun w57 st57 kp57 L4 hB => ?_
 replace L5 := st57.lc L5 (Ne.symm ne4_5)
 refine ⟨trivial, ⟨cameT (by kernel_rfl), fun _ => L5, trivial⟩, ?_⟩
 refine te ?_
 refine es 29 0 (.agg #[x46, y46]) [x46, y46] #[x46, y46] L5 hB q5 ⟨h46.one0, h46.one1, trivial⟩ fun w59 st59 kp59 L5 hB => ?_
 refine ⟨trivial, ⟨cameT (by kernel_rfl), cameT (by kernel_rfl), trivial⟩, ?_⟩
 refine tv 6 (.int .i64 0) ?_
 simp only [p3, p4]
 refine ort_nil ?_
 refine k53 _ _ ?_
 try clear k53 K53
 refine wp_ret ?_
 replace L4 := st59.lc L4 ne4_5
 refine bodyPost_ret (v := (.tuple #[(.agg #[x43, y43]), (.agg #[x46, y46]), (.int .i64 0)])) (ret_cell2_tmp' _ _ _ _ _ _ rfl rfl rfl L4 (by kernel_rfl) L5 (by kernel_rfl) rfl) rfl ⟨?_, hB⟩
 have kq60 := g46.kp.trans (kp50.trans (kp52.trans (gd55.kp.trans (kp57.trans kp59))))
 replace h43 := h43.kp kq60
 have kq61 := kp50.trans (kp52.trans (gd55.kp.trans (kp57.trans kp59)))
 replace h46 := h46.kp kq61
 exact ⟨_, _, _, _, rfl, h43, h46⟩

set_option maxRecDepth 100000 in
set_option maxHeartbeats 1000000 in
theorem one_i (w : World) :
    Calls Tryd.prog 66 #[] w fun e w' => (∃ x' y', e = .returned (.agg #[x', y']) ∧ IsInt w' 64 x' y' (1)) ∧ Gr w w' := by
 go_enter Tryd.func66, Tryd.ntmps66
 have hB := Gr.refl w
 refine wp_seq_k (fun K1 k1 => ?_)
 refine rg [0] ?_
 refine se ?_
 refine ea 29 #[(.bool false), (.slice none 0 0)] 0 hB fun b2 w2 g2 L2 o2 q2 hB => ?_
 simp only [p3, p4]
 refine sq_nil ?_
 refine k1 _ _ ?_
 try clear k1 K1
 refine wp_seq_k (fun K3 k3 => ?_)
 refine rg [0, 1] ?_
 refine se ?_
 refine ec 1 (from_i (1) (by omega) (by omega) _) ?_
 rintro e4 w4 ⟨⟨x4, y4, rfl, h4⟩, g4⟩
 refine ⟨_, rfl, ?_⟩
 replace hB := hB.trans g4
 simp only [p3, p4]
 refine se ?_
 replace L2 := L2.gr g4
 refine es 29 0 (.agg #[x4, y4]) [x4, y4] #[x4, y4] L2 hB q2 ⟨h4.one0, h4.one1, trivial⟩ fun w5 st5 kp5 L2 hB => ?_
 refine sq_nil ?_
 refine k3 _ _ ?_
 try clear k3 K3
 refine wp_ret ?_
 refine bodyPost_ret (v := (.agg #[x4, y4])) (ret_cell _ _ _ rfl rfl L2 (by kernel_rfl)) rfl ⟨?_, hB⟩
 replace h4 := h4.kp kp5
 exact ⟨_, _, rfl, h4⟩

end Go.Proofs.YtgopfikljndklaaDoor
