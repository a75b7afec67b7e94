/- Printed by a program of the prover's: the operations on rationals. -/
import Derived.Test.YtgopfikljndklaaDoorRat1
namespace Go.Proofs.YtgopfikljndklaaDoor
open Go.RowKit

set_option maxRecDepth 100000 in
set_option maxHeartbeats 1000000 in
theorem add_tt {k m : Nat} {u0 u1 u2 u3 v0 v1 v2 v3 : Value} {a b : Rat} {w : World} (ha : IsRat w k u0 u1 u2 u3 a) (hb : IsRat w m v0 v1 v2 v3 b) (_hk : k + m ≤ 100000) (wa : a.den = 1) (wb : b.den = 1) :
    Calls Tryd.prog 56 #[(.agg #[u0, u1, u2, u3]), (.agg #[v0, v1, v2, v3])] w fun e w' => (∃ c0 c1 c2 c3, e = .returned (.agg #[c0, c1, c2, c3]) ∧ IsRat w' (k + m + 1) c0 c1 c2 c3 (a + b)) ∧ Gr w w' := by
  have hka := ha.big
  have hkb := hb.big
  go_enter Tryd.func56, Tryd.ntmps56
  have hB := Gr.refl w
  refine wp_seq_k (fun K1 k1 => ?_)
  refine wp_region ?_
  simp only [List.size_toArray, List.length_cons, List.length_nil, Nat.reduceAdd, List.range, List.range.loop]
  refine sq_eff rfl (by kernel_rfl) (fun K2 k2 => ?_)
  refine eff_box 31 _ (.agg #[u0, u1, u2, u3]) #[u0, u1, u2, u3] (some 2) rfl rfl rfl rfl (fun b3 w3 g3 L3 q3 => ?_)
  replace q3 := Nat.le_trans (Below.size hB) q3
  replace hB := Gr.trans hB g3
  refine k2 _ _ ?_
  try clear k2 K2
  simp only [p1, p2, p3, p4]
  refine sq_eff rfl (by kernel_rfl) (fun K4 k4 => ?_)
  refine eff_box 31 _ (.agg #[v0, v1, v2, v3]) #[v0, v1, v2, v3] (some 3) rfl rfl rfl rfl (fun b5 w5 g5 L5 q5 => ?_)
  have ne3_5 := L3.ne q5
  replace q5 := Nat.le_trans (Below.size hB) q5
  replace hB := Gr.trans hB g5
  refine k4 _ _ ?_
  try clear k4 K4
  simp only [p1, p2, p3, p4]
  refine sq_eff rfl (by kernel_rfl) (fun K6 k6 => ?_)
  refine eff_alloc 31 (.agg #[(.bool false), (.slice none 0 0), (.bool false), (.slice none 0 0)]) #[(.bool false), (.slice none 0 0), (.bool false), (.slice none 0 0)] (some 4) rfl rfl (by kernel_rfl) rfl (fun b7 w7 g7 L7 q7 => ?_)
  replace L3 := L3.gr g5
  have ne3_7 := L3.ne q7
  have ne5_7 := L5.ne q7
  replace q7 := Nat.le_trans (Below.size hB) q7
  replace hB := Gr.trans hB g7
  refine k6 _ _ ?_
  try clear k6 K6
  simp only [p1, p2, p3, p4]
  refine sq_nil ?_
  refine k1 _ _ ?_
  try clear k1 K1
  refine wp_seq_k (fun K8 k8 => ?_)
  refine wp_seq_k (fun K9 k9 => ?_)
  refine wp_region ?_
  simp only [List.size_toArray, List.length_cons, List.length_nil, Nat.reduceAdd, List.range, List.range.loop]
  replace L3 := L3.gr g7
  refine sq_val (some 5) (.agg #[u0, u1, u2, u3]) rfl rfl (by kernel_rfl) (rv_load 31 _ b3 0 _ _ [u0, u1, u2, u3] rfl rfl L3 rfl (by kernel_rfl)) ?_
  simp only [p1, p2, p3, p4]
  refine sq_eff rfl (by kernel_rfl) (fun K10 k10 => ?_)
  have kq12 := g3.kp.trans (g5.kp.trans g7.kp)
  replace ha := ha.kp kq12
  refine eff_call (some 6) rfl (by kernel_rfl) (whole_t ha (by omega) wa) ?_
  rintro e11 w11 ⟨rfl, g11⟩
  refine ⟨_, rfl, ?_⟩
  replace hB := Gr.trans hB g11
  refine k10 _ _ ?_
  try clear k10 K10
  simp only [p1, p2, p3, p4]
  refine sq_val (some 7) (.bool true) rfl rfl (by kernel_rfl) (rvk (by kernel_rfl)) ?_
  simp only [p1, p2, p3, p4]
  replace L5 := L5.gr (g7.trans g11)
  refine sq_val (some 8) (.agg #[v0, v1, v2, v3]) rfl rfl (by kernel_rfl) (rv_load 31 _ b5 0 _ _ [v0, v1, v2, v3] rfl rfl L5 rfl (by kernel_rfl)) ?_
  simp only [p1, p2, p3, p4]
  refine sq_eff rfl (by kernel_rfl) (fun K13 k13 => ?_)
  have kq15 := g3.kp.trans (g5.kp.trans (g7.kp.trans g11.kp))
  replace hb := hb.kp kq15
  refine eff_call (some 9) rfl (by kernel_rfl) (whole_t hb (by omega) wb) ?_
  rintro e14 w14 ⟨rfl, g14⟩
  refine ⟨_, rfl, ?_⟩
  replace hB := Gr.trans hB g14
  refine k13 _ _ ?_
  try clear k13 K13
  simp only [p1, p2, p3, p4]
  refine sq_val (some 10) (.bool true) rfl rfl (by kernel_rfl) (rvk (by kernel_rfl)) ?_
  simp only [p1, p2, p3, p4]
  refine sq_nil ?_
  refine k9 _ _ ?_
  try clear k9 K9
  refine wp_cond_true rfl ?_
  refine wp_seq_k (fun K16 k16 => ?_)
  refine wp_region ?_
  simp only [List.size_toArray, List.length_cons, List.length_nil, Nat.reduceAdd, List.range, List.range.loop]
  refine sq_val (some 11) (.pointer (some ⟨b3, 0, none⟩)) rfl rfl (by kernel_rfl) (rvk (by kernel_rfl)) ?_
  simp only [p1, p2, p3, p4]
  replace L3 := L3.gr (g11.trans g14)
  refine sq_val (some 12) (.agg #[u0, u1]) rfl rfl (by kernel_rfl) (rv_load 29 _ b3 0 _ _ [u0, u1] rfl rfl L3 rfl (by kernel_rfl)) ?_
  simp only [p1, p2, p3, p4]
  refine sq_val (some 13) (.pointer (some ⟨b5, 0, none⟩)) rfl rfl (by kernel_rfl) (rvk (by kernel_rfl)) ?_
  simp only [p1, p2, p3, p4]
  replace L5 := L5.gr g14
  refine sq_val (some 14) (.agg #[v0, v1]) rfl rfl (by kernel_rfl) (rv_load 29 _ b5 0 _ _ [v0, v1] rfl rfl L5 rfl (by kernel_rfl)) ?_
  simp only [p1, p2, p3, p4]
  refine sq_eff rfl (by kernel_rfl) (fun K17 k17 => ?_)
  have kq19 := g11.kp.trans g14.kp
  replace ha := ha.kp kq19
  replace hb := hb.kp g14.kp
  refine eff_call (some 15) rfl (by kernel_rfl) (add_e (k + m) ha.num hb.num (by omega) (by omega) (by omega)) ?_
  rintro e18 w18 ⟨⟨x18, y18, rfl, h18⟩, g18⟩
  refine ⟨_, rfl, ?_⟩
  replace hB := Gr.trans hB g18
  refine k17 _ _ ?_
  try clear k17 K17
  simp only [p1, p2, p3, p4]
  refine sq_val (some 16) (.agg #[x18, y18, (.bool false), (.slice none 0 0)]) rfl rfl (by kernel_rfl) (rvk (by kernel_rfl)) ?_
  simp only [p1, p2, p3, p4]
  refine sq_eff rfl (by kernel_rfl) (fun K20 k20 => ?_)
  replace L7 := L7.gr (g11.trans (g14.trans g18))
  refine eff_store 31 _ _ b7 0 (.agg #[x18, y18, (.bool false), (.slice none 0 0)]) [x18, y18, (.bool false), (.slice none 0 0)] _ #[x18, y18, (.bool false), (.slice none 0 0)] _ rfl rfl rfl rfl rfl L7 (by kernel_rfl) (Nat.le_of_ble_eq_true rfl) ⟨h18.one0, h18.one1, rfl, rfl, trivial⟩ (by kernel_rfl) (fun w21 st21 N21 => ?_)
  have kp21 := st21.kp L7 (by decide)
  replace hB := st21.gr hB q7
  replace L7 := N21
  refine k20 _ _ ?_
  try clear k20 K20
  refine sq_nil ?_
  refine k16 _ _ ?_
  try clear k16 K16
  refine wp_ret ?_
  simp only [Exit.then]
  refine bodyPost_ret (v := (.agg #[x18, y18, (.bool false), (.slice none 0 0)])) (ret_cell _ _ _ rfl rfl L7 (by kernel_rfl)) rfl ⟨?_, hB⟩
  replace h18 := h18.kp kp21
  exact ⟨_, _, _, _, rfl, by rw [← rat_int wa, ← rat_int wb, ← Rat.intCast_add]; exact IsRat.int h18 (by omega)⟩

set_option maxRecDepth 100000 in
set_option maxHeartbeats 1000000 in
theorem add_tf {k m : Nat} {u0 u1 u2 u3 v0 v1 v2 v3 : Value} {a b : Rat} {w : World} (ha : IsRat w k u0 u1 u2 u3 a) (hb : IsRat w m v0 v1 v2 v3 b) (_hk : k + m ≤ 100000) (wa : a.den = 1) (wb : b.den ≠ 1) :
    Calls Tryd.prog 56 #[(.agg #[u0, u1, u2, u3]), (.agg #[v0, v1, v2, v3])] w fun e w' => (∃ c0 c1 c2 c3, e = .returned (.agg #[c0, c1, c2, c3]) ∧ IsRat w' (k + m + 1) c0 c1 c2 c3 (a + b)) ∧ Gr w w' := by
  have hka := ha.big
  have hkb := hb.big
  go_enter Tryd.func56, Tryd.ntmps56
  have hB := Gr.refl w
  refine wp_seq_k (fun K1 k1 => ?_)
  refine wp_region ?_
  simp only [List.size_toArray, List.length_cons, List.length_nil, Nat.reduceAdd, List.range, List.range.loop]
  refine sq_eff rfl (by kernel_rfl) (fun K2 k2 => ?_)
  refine eff_box 31 _ (.agg #[u0, u1, u2, u3]) #[u0, u1, u2, u3] (some 2) rfl rfl rfl rfl (fun b3 w3 g3 L3 q3 => ?_)
  replace q3 := Nat.le_trans (Below.size hB) q3
  replace hB := Gr.trans hB g3
  refine k2 _ _ ?_
  try clear k2 K2
  simp only [p1, p2, p3, p4]
  refine sq_eff rfl (by kernel_rfl) (fun K4 k4 => ?_)
  refine eff_box 31 _ (.agg #[v0, v1, v2, v3]) #[v0, v1, v2, v3] (some 3) rfl rfl rfl rfl (fun b5 w5 g5 L5 q5 => ?_)
  have ne3_5 := L3.ne q5
  replace q5 := Nat.le_trans (Below.size hB) q5
  replace hB := Gr.trans hB g5
  refine k4 _ _ ?_
  try clear k4 K4
  simp only [p1, p2, p3, p4]
  refine sq_eff rfl (by kernel_rfl) (fun K6 k6 => ?_)
  refine eff_alloc 31 (.agg #[(.bool false), (.slice none 0 0), (.bool false), (.slice none 0 0)]) #[(.bool false), (.slice none 0 0), (.bool false), (.slice none 0 0)] (some 4) rfl rfl (by kernel_rfl) rfl (fun b7 w7 g7 L7 q7 => ?_)
  replace L3 := L3.gr g5
  have ne3_7 := L3.ne q7
  have ne5_7 := L5.ne q7
  replace q7 := Nat.le_trans (Below.size hB) q7
  replace hB := Gr.trans hB g7
  refine k6 _ _ ?_
  try clear k6 K6
  simp only [p1, p2, p3, p4]
  refine sq_nil ?_
  refine k1 _ _ ?_
  try clear k1 K1
  refine wp_seq_k (fun K8 k8 => ?_)
  refine wp_seq_k (fun K9 k9 => ?_)
  refine wp_region ?_
  simp only [List.size_toArray, List.length_cons, List.length_nil, Nat.reduceAdd, List.range, List.range.loop]
  replace L3 := L3.gr g7
  refine sq_val (some 5) (.agg #[u0, u1, u2, u3]) rfl rfl (by kernel_rfl) (rv_load 31 _ b3 0 _ _ [u0, u1, u2, u3] rfl rfl L3 rfl (by kernel_rfl)) ?_
  simp only [p1, p2, p3, p4]
  refine sq_eff rfl (by kernel_rfl) (fun K10 k10 => ?_)
  have kq12 := g3.kp.trans (g5.kp.trans g7.kp)
  replace ha := ha.kp kq12
  refine eff_call (some 6) rfl (by kernel_rfl) (whole_t ha (by omega) wa) ?_
  rintro e11 w11 ⟨rfl, g11⟩
  refine ⟨_, rfl, ?_⟩
  replace hB := Gr.trans hB g11
  refine k10 _ _ ?_
  try clear k10 K10
  simp only [p1, p2, p3, p4]
  refine sq_val (some 7) (.bool true) rfl rfl (by kernel_rfl) (rvk (by kernel_rfl)) ?_
  simp only [p1, p2, p3, p4]
  replace L5 := L5.gr (g7.trans g11)
  refine sq_val (some 8) (.agg #[v0, v1, v2, v3]) rfl rfl (by kernel_rfl) (rv_load 31 _ b5 0 _ _ [v0, v1, v2, v3] rfl rfl L5 rfl (by kernel_rfl)) ?_
  simp only [p1, p2, p3, p4]
  refine sq_eff rfl (by kernel_rfl) (fun K13 k13 => ?_)
  have kq15 := g3.kp.trans (g5.kp.trans (g7.kp.trans g11.kp))
  replace hb := hb.kp kq15
  refine eff_call (some 9) rfl (by kernel_rfl) (whole_f hb (by omega) wb) ?_
  rintro e14 w14 ⟨rfl, g14⟩
  refine ⟨_, rfl, ?_⟩
  replace hB := Gr.trans hB g14
  refine k13 _ _ ?_
  try clear k13 K13
  simp only [p1, p2, p3, p4]
  refine sq_val (some 10) (.bool false) rfl rfl (by kernel_rfl) (rvk (by kernel_rfl)) ?_
  simp only [p1, p2, p3, p4]
  refine sq_nil ?_
  refine k9 _ _ ?_
  try clear k9 K9
  refine wp_cond_false rfl ?_
  refine wp_skip ?_
  refine k8 _ _ ?_
  try clear k8 K8
  refine wp_seq_k (fun K16 k16 => ?_)
  have gd45 := Gr.drew w14
  replace hB := Gr.trans hB gd45
  replace L3 := L3.gr (g11.trans (g14.trans gd45))
  replace L5 := L5.gr (g14.trans gd45)
  refine wp_region_ord (fun w' => Lc w' b3 #[u0, u1, u2, u3] 31 ∧ Lc w' b5 #[v0, v1, v2, v3] 31) [(true, 0), (true, 1), (true, 2), (true, 5), (true, 6), (true, 7), (true, 11), (true, 13), (false, 3), (false, 4), (false, 8), (false, 9), (false, 10), (false, 12), (false, 14), (false, 15), (false, 16), (false, 17)] (by kernel_rfl) (by kernel_rfl) (by kernel_rfl) (by decide) (fun _ _ _ _ _ h => h) ⟨L3, L5⟩ ?_
  refine ord_pure (some 17) (.pointer (some ⟨b3, 0, none⟩)) rfl rfl rfl (fun w' hS => (rvk (by kernel_rfl))) ?_
  simp only [p1, p2, p3, p4]
  refine ord_pure (some 18) (.agg #[u0, u1]) rfl rfl rfl (fun w' hS => (rv_load 29 _ b3 0 _ _ [u0, u1] rfl rfl hS.1 rfl (by kernel_rfl))) ?_
  simp only [p1, p2, p3, p4]
  refine ord_pure (some 19) (.agg #[v0, v1, v2, v3]) rfl rfl rfl (fun w' hS => (rv_load 31 _ b5 0 _ _ [v0, v1, v2, v3] rfl rfl hS.2 rfl (by kernel_rfl))) ?_
  simp only [p1, p2, p3, p4]
  refine ord_pure (some 22) (.pointer (some ⟨b5, 0, none⟩)) rfl rfl rfl (fun w' hS => (rvk (by kernel_rfl))) ?_
  simp only [p1, p2, p3, p4]
  refine ord_pure (some 23) (.agg #[v0, v1]) rfl rfl rfl (fun w' hS => (rv_load 29 _ b5 0 _ _ [v0, v1] rfl rfl hS.2 rfl (by kernel_rfl))) ?_
  simp only [p1, p2, p3, p4]
  refine ord_pure (some 24) (.agg #[u0, u1, u2, u3]) rfl rfl rfl (fun w' hS => (rv_load 31 _ b3 0 _ _ [u0, u1, u2, u3] rfl rfl hS.1 rfl (by kernel_rfl))) ?_
  simp only [p1, p2, p3, p4]
  refine ord_pure (some 28) (.agg #[u0, u1, u2, u3]) rfl rfl rfl (fun w' hS => (rv_load 31 _ b3 0 _ _ [u0, u1, u2, u3] rfl rfl hS.1 rfl (by kernel_rfl))) ?_
  simp only [p1, p2, p3, p4]
  refine ord_pure (some 30) (.agg #[v0, v1, v2, v3]) rfl rfl rfl (fun w' hS => (rv_load 31 _ b5 0 _ _ [v0, v1, v2, v3] rfl rfl hS.2 rfl (by kernel_rfl))) ?_
  simp only [p1, p2, p3, p4]
  refine ord_eff rfl rfl (fun K46 k46 => ?_)
  have kq48 := g14.kp.trans gd45.kp
  replace hb := hb.kp kq48
  refine eff_call (some 20) rfl (by kernel_rfl) (den_i hb) ?_
  rintro e47 w47 ⟨⟨x47, y47, rfl, h47⟩, g47⟩
  refine ⟨_, rfl, ?_⟩
  replace hB := Gr.trans hB g47
  replace L3 := L3.gr g47
  replace L5 := L5.gr g47
  refine k46 _ _ ⟨L3, L5⟩ ?_
  try clear k46 K46
  simp only [p1, p2, p3, p4]
  refine ord_eff rfl rfl (fun K49 k49 => ?_)
  have kq51 := g11.kp.trans (g14.kp.trans (gd45.kp.trans g47.kp))
  replace ha := ha.kp kq51
  refine eff_call (some 21) rfl (by kernel_rfl) (mul_i ha.num h47 (by omega)) ?_
  rintro e50 w50 ⟨⟨x50, y50, rfl, h50⟩, g50⟩
  refine ⟨_, rfl, ?_⟩
  replace hB := Gr.trans hB g50
  replace L3 := L3.gr g50
  replace L5 := L5.gr g50
  refine k49 _ _ ⟨L3, L5⟩ ?_
  try clear k49 K49
  simp only [p1, p2, p3, p4]
  refine ord_eff rfl rfl (fun K52 k52 => ?_)
  replace ha := ha.kp g50.kp
  refine eff_call (some 25) rfl (by kernel_rfl) (den_i ha) ?_
  rintro e53 w53 ⟨⟨x53, y53, rfl, h53⟩, g53⟩
  refine ⟨_, rfl, ?_⟩
  replace hB := Gr.trans hB g53
  replace L3 := L3.gr g53
  replace L5 := L5.gr g53
  refine k52 _ _ ⟨L3, L5⟩ ?_
  try clear k52 K52
  simp only [p1, p2, p3, p4]
  refine ord_eff rfl rfl (fun K54 k54 => ?_)
  have kq56 := g47.kp.trans (g50.kp.trans g53.kp)
  replace hb := hb.kp kq56
  refine eff_call (some 26) rfl (by kernel_rfl) (mul_i hb.num h53 (by omega)) ?_
  rintro e55 w55 ⟨⟨x55, y55, rfl, h55⟩, g55⟩
  refine ⟨_, rfl, ?_⟩
  replace hB := Gr.trans hB g55
  replace L3 := L3.gr g55
  replace L5 := L5.gr g55
  refine k54 _ _ ⟨L3, L5⟩ ?_
  try clear k54 K54
  simp only [p1, p2, p3, p4]
  refine ord_eff rfl rfl (fun K57 k57 => ?_)
  have kq59 := g53.kp.trans g55.kp
  replace h50 := h50.kp kq59
  refine eff_call (some 27) rfl (by kernel_rfl) (add_e (k + m) h50 h55 (by omega) (by omega) (by omega)) ?_
  rintro e58 w58 ⟨⟨x58, y58, rfl, h58⟩, g58⟩
  refine ⟨_, rfl, ?_⟩
  replace hB := Gr.trans hB g58
  replace L3 := L3.gr g58
  replace L5 := L5.gr g58
  refine k57 _ _ ⟨L3, L5⟩ ?_
  try clear k57 K57
  simp only [p1, p2, p3, p4]
  refine ord_eff rfl rfl (fun K60 k60 => ?_)
  have kq62 := g53.kp.trans (g55.kp.trans g58.kp)
  replace ha := ha.kp kq62
  refine eff_call (some 29) rfl (by kernel_rfl) (den_i ha) ?_
  rintro e61 w61 ⟨⟨x61, y61, rfl, h61⟩, g61⟩
  refine ⟨_, rfl, ?_⟩
  replace hB := Gr.trans hB g61
  replace L3 := L3.gr g61
  replace L5 := L5.gr g61
  refine k60 _ _ ⟨L3, L5⟩ ?_
  try clear k60 K60
  simp only [p1, p2, p3, p4]
  refine ord_eff rfl rfl (fun K63 k63 => ?_)
  have kq65 := g55.kp.trans (g58.kp.trans g61.kp)
  replace hb := hb.kp kq65
  refine eff_call (some 31) rfl (by kernel_rfl) (den_i hb) ?_
  rintro e64 w64 ⟨⟨x64, y64, rfl, h64⟩, g64⟩
  refine ⟨_, rfl, ?_⟩
  replace hB := Gr.trans hB g64
  replace L3 := L3.gr g64
  replace L5 := L5.gr g64
  refine k63 _ _ ⟨L3, L5⟩ ?_
  try clear k63 K63
  simp only [p1, p2, p3, p4]
  refine ord_eff rfl rfl (fun K66 k66 => ?_)
  replace h61 := h61.kp g64.kp
  refine eff_call (some 32) rfl (by kernel_rfl) (mul_i h61 h64 (by omega)) ?_
  rintro e67 w67 ⟨⟨x67, y67, rfl, h67⟩, g67⟩
  refine ⟨_, rfl, ?_⟩
  replace hB := Gr.trans hB g67
  replace L3 := L3.gr g67
  replace L5 := L5.gr g67
  refine k66 _ _ ⟨L3, L5⟩ ?_
  try clear k66 K66
  simp only [p1, p2, p3, p4]
  refine ord_eff rfl rfl (fun K68 k68 => ?_)
  have kq70 := g61.kp.trans (g64.kp.trans g67.kp)
  replace h58 := h58.kp kq70
  refine eff_call (some 33) rfl (by kernel_rfl) (reduced_i ((k + m + 1)) h58 h67 (Int.mul_pos (Int.natCast_pos.2 a.den_pos) (Int.natCast_pos.2 b.den_pos)) (by omega) (by omega) (by omega) (by omega)) ?_
  rintro e69 w69 ⟨⟨p69, q69, r69, s69, rfl, h69⟩, g69⟩
  refine ⟨_, rfl, ?_⟩
  replace hB := Gr.trans hB g69
  replace L3 := L3.gr g69
  replace L5 := L5.gr g69
  refine k68 _ _ ⟨L3, L5⟩ ?_
  try clear k68 K68
  simp only [p1, p2, p3, p4]
  refine ord_eff rfl rfl (fun K71 k71 => ?_)
  replace L7 := L7.gr (g11.trans (g14.trans (gd45.trans (g47.trans (g50.trans (g53.trans (g55.trans (g58.trans (g61.trans (g64.trans (g67.trans g69)))))))))))
  refine eff_store 31 _ _ b7 0 (.agg #[p69, q69, r69, s69]) [p69, q69, r69, s69] _ #[p69, q69, r69, s69] _ rfl rfl rfl rfl rfl L7 (by kernel_rfl) (Nat.le_of_ble_eq_true rfl) ⟨h69.one0, h69.one1, h69.one2, h69.one3, trivial⟩ (by kernel_rfl) (fun w72 st72 N72 => ?_)
  have kp72 := st72.kp L7 (by decide)
  replace hB := st72.gr hB q7
  replace L7 := N72
  replace L3 := st72.lc L3 ne3_7
  replace L5 := st72.lc L5 ne5_7
  refine k71 _ _ ⟨L3, L5⟩ ?_
  try clear k71 K71
  refine ord_nil ?_
  refine k16 _ _ ?_
  try clear k16 K16
  refine wp_ret ?_
  refine bodyPost_ret (v := (.agg #[p69, q69, r69, s69])) (ret_cell _ _ _ rfl rfl L7 (by kernel_rfl)) rfl ⟨?_, hB⟩
  replace h69 := h69.kp kp72
  exact ⟨_, _, _, _, rfl, by rw [← rat_add]; exact h69⟩

set_option maxRecDepth 100000 in
set_option maxHeartbeats 1000000 in
theorem add_f {k m : Nat} {u0 u1 u2 u3 v0 v1 v2 v3 : Value} {a b : Rat} {w : World} (ha : IsRat w k u0 u1 u2 u3 a) (hb : IsRat w m v0 v1 v2 v3 b) (_hk : k + m ≤ 100000) (wa : a.den ≠ 1) :
    Calls Tryd.prog 56 #[(.agg #[u0, u1, u2, u3]), (.agg #[v0, v1, v2, v3])] w fun e w' => (∃ c0 c1 c2 c3, e = .returned (.agg #[c0, c1, c2, c3]) ∧ IsRat w' (k + m + 1) c0 c1 c2 c3 (a + b)) ∧ Gr w w' := by
  have hka := ha.big
  have hkb := hb.big
  go_enter Tryd.func56, Tryd.ntmps56
  have hB := Gr.refl w
  refine wp_seq_k (fun K1 k1 => ?_)
  refine wp_region ?_
  simp only [List.size_toArray, List.length_cons, List.length_nil, Nat.reduceAdd, List.range, List.range.loop]
  refine sq_eff rfl (by kernel_rfl) (fun K2 k2 => ?_)
  refine eff_box 31 _ (.agg #[u0, u1, u2, u3]) #[u0, u1, u2, u3] (some 2) rfl rfl rfl rfl (fun b3 w3 g3 L3 q3 => ?_)
  replace q3 := Nat.le_trans (Below.size hB) q3
  replace hB := Gr.trans hB g3
  refine k2 _ _ ?_
  try clear k2 K2
  simp only [p1, p2, p3, p4]
  refine sq_eff rfl (by kernel_rfl) (fun K4 k4 => ?_)
  refine eff_box 31 _ (.agg #[v0, v1, v2, v3]) #[v0, v1, v2, v3] (some 3) rfl rfl rfl rfl (fun b5 w5 g5 L5 q5 => ?_)
  have ne3_5 := L3.ne q5
  replace q5 := Nat.le_trans (Below.size hB) q5
  replace hB := Gr.trans hB g5
  refine k4 _ _ ?_
  try clear k4 K4
  simp only [p1, p2, p3, p4]
  refine sq_eff rfl (by kernel_rfl) (fun K6 k6 => ?_)
  refine eff_alloc 31 (.agg #[(.bool false), (.slice none 0 0), (.bool false), (.slice none 0 0)]) #[(.bool false), (.slice none 0 0), (.bool false), (.slice none 0 0)] (some 4) rfl rfl (by kernel_rfl) rfl (fun b7 w7 g7 L7 q7 => ?_)
  replace L3 := L3.gr g5
  have ne3_7 := L3.ne q7
  have ne5_7 := L5.ne q7
  replace q7 := Nat.le_trans (Below.size hB) q7
  replace hB := Gr.trans hB g7
  refine k6 _ _ ?_
  try clear k6 K6
  simp only [p1, p2, p3, p4]
  refine sq_nil ?_
  refine k1 _ _ ?_
  try clear k1 K1
  refine wp_seq_k (fun K8 k8 => ?_)
  refine wp_seq_k (fun K9 k9 => ?_)
  refine wp_region ?_
  simp only [List.size_toArray, List.length_cons, List.length_nil, Nat.reduceAdd, List.range, List.range.loop]
  replace L3 := L3.gr g7
  refine sq_val (some 5) (.agg #[u0, u1, u2, u3]) rfl rfl (by kernel_rfl) (rv_load 31 _ b3 0 _ _ [u0, u1, u2, u3] rfl rfl L3 rfl (by kernel_rfl)) ?_
  simp only [p1, p2, p3, p4]
  refine sq_eff rfl (by kernel_rfl) (fun K10 k10 => ?_)
  have kq12 := g3.kp.trans (g5.kp.trans g7.kp)
  replace ha := ha.kp kq12
  refine eff_call (some 6) rfl (by kernel_rfl) (whole_f ha (by omega) wa) ?_
  rintro e11 w11 ⟨rfl, g11⟩
  refine ⟨_, rfl, ?_⟩
  replace hB := Gr.trans hB g11
  refine k10 _ _ ?_
  try clear k10 K10
  simp only [p1, p2, p3, p4]
  refine sq_val (some 7) (.bool false) rfl rfl (by kernel_rfl) (rvk (by kernel_rfl)) ?_
  simp only [p1, p2, p3, p4]
  refine sq_skip (some 8) rfl rfl (by kernel_rfl) ?_
  simp only [p1, p2, p3, p4]
  refine sq_skip (some 9) rfl rfl (by kernel_rfl) ?_
  simp only [p1, p2, p3, p4]
  refine sq_val (some 10) (.bool false) rfl rfl (by kernel_rfl) (rvk (by kernel_rfl)) ?_
  simp only [p1, p2, p3, p4]
  refine sq_nil ?_
  refine k9 _ _ ?_
  try clear k9 K9
  refine wp_cond_false rfl ?_
  refine wp_skip ?_
  refine k8 _ _ ?_
  try clear k8 K8
  refine wp_seq_k (fun K13 k13 => ?_)
  have gd42 := Gr.drew w11
  replace hB := Gr.trans hB gd42
  replace L3 := L3.gr (g11.trans gd42)
  replace L5 := L5.gr (g7.trans (g11.trans gd42))
  refine wp_region_ord (fun w' => Lc w' b3 #[u0, u1, u2, u3] 31 ∧ Lc w' b5 #[v0, v1, v2, v3] 31) [(true, 0), (true, 1), (true, 2), (true, 5), (true, 6), (true, 7), (true, 11), (true, 13), (false, 3), (false, 4), (false, 8), (false, 9), (false, 10), (false, 12), (false, 14), (false, 15), (false, 16), (false, 17)] (by kernel_rfl) (by kernel_rfl) (by kernel_rfl) (by decide) (fun _ _ _ _ _ h => h) ⟨L3, L5⟩ ?_
  refine ord_pure (some 17) (.pointer (some ⟨b3, 0, none⟩)) rfl rfl rfl (fun w' hS => (rvk (by kernel_rfl))) ?_
  simp only [p1, p2, p3, p4]
  refine ord_pure (some 18) (.agg #[u0, u1]) rfl rfl rfl (fun w' hS => (rv_load 29 _ b3 0 _ _ [u0, u1] rfl rfl hS.1 rfl (by kernel_rfl))) ?_
  simp only [p1, p2, p3, p4]
  refine ord_pure (some 19) (.agg #[v0, v1, v2, v3]) rfl rfl rfl (fun w' hS => (rv_load 31 _ b5 0 _ _ [v0, v1, v2, v3] rfl rfl hS.2 rfl (by kernel_rfl))) ?_
  simp only [p1, p2, p3, p4]
  refine ord_pure (some 22) (.pointer (some ⟨b5, 0, none⟩)) rfl rfl rfl (fun w' hS => (rvk (by kernel_rfl))) ?_
  simp only [p1, p2, p3, p4]
  refine ord_pure (some 23) (.agg #[v0, v1]) rfl rfl rfl (fun w' hS => (rv_load 29 _ b5 0 _ _ [v0, v1] rfl rfl hS.2 rfl (by kernel_rfl))) ?_
  simp only [p1, p2, p3, p4]
  refine ord_pure (some 24) (.agg #[u0, u1, u2, u3]) rfl rfl rfl (fun w' hS => (rv_load 31 _ b3 0 _ _ [u0, u1, u2, u3] rfl rfl hS.1 rfl (by kernel_rfl))) ?_
  simp only [p1, p2, p3, p4]
  refine ord_pure (some 28) (.agg #[u0, u1, u2, u3]) rfl rfl rfl (fun w' hS => (rv_load 31 _ b3 0 _ _ [u0, u1, u2, u3] rfl rfl hS.1 rfl (by kernel_rfl))) ?_
  simp only [p1, p2, p3, p4]
  refine ord_pure (some 30) (.agg #[v0, v1, v2, v3]) rfl rfl rfl (fun w' hS => (rv_load 31 _ b5 0 _ _ [v0, v1, v2, v3] rfl rfl hS.2 rfl (by kernel_rfl))) ?_
  simp only [p1, p2, p3, p4]
  refine ord_eff rfl rfl (fun K43 k43 => ?_)
  have kq45 := g3.kp.trans (g5.kp.trans (g7.kp.trans (g11.kp.trans gd42.kp)))
  replace hb := hb.kp kq45
  refine eff_call (some 20) rfl (by kernel_rfl) (den_i hb) ?_
  rintro e44 w44 ⟨⟨x44, y44, rfl, h44⟩, g44⟩
  refine ⟨_, rfl, ?_⟩
  replace hB := Gr.trans hB g44
  replace L3 := L3.gr g44
  replace L5 := L5.gr g44
  refine k43 _ _ ⟨L3, L5⟩ ?_
  try clear k43 K43
  simp only [p1, p2, p3, p4]
  refine ord_eff rfl rfl (fun K46 k46 => ?_)
  have kq48 := g11.kp.trans (gd42.kp.trans g44.kp)
  replace ha := ha.kp kq48
  refine eff_call (some 21) rfl (by kernel_rfl) (mul_i ha.num h44 (by omega)) ?_
  rintro e47 w47 ⟨⟨x47, y47, rfl, h47⟩, g47⟩
  refine ⟨_, rfl, ?_⟩
  replace hB := Gr.trans hB g47
  replace L3 := L3.gr g47
  replace L5 := L5.gr g47
  refine k46 _ _ ⟨L3, L5⟩ ?_
  try clear k46 K46
  simp only [p1, p2, p3, p4]
  refine ord_eff rfl rfl (fun K49 k49 => ?_)
  replace ha := ha.kp g47.kp
  refine eff_call (some 25) rfl (by kernel_rfl) (den_i ha) ?_
  rintro e50 w50 ⟨⟨x50, y50, rfl, h50⟩, g50⟩
  refine ⟨_, rfl, ?_⟩
  replace hB := Gr.trans hB g50
  replace L3 := L3.gr g50
  replace L5 := L5.gr g50
  refine k49 _ _ ⟨L3, L5⟩ ?_
  try clear k49 K49
  simp only [p1, p2, p3, p4]
  refine ord_eff rfl rfl (fun K51 k51 => ?_)
  have kq53 := g44.kp.trans (g47.kp.trans g50.kp)
  replace hb := hb.kp kq53
  refine eff_call (some 26) rfl (by kernel_rfl) (mul_i hb.num h50 (by omega)) ?_
  rintro e52 w52 ⟨⟨x52, y52, rfl, h52⟩, g52⟩
  refine ⟨_, rfl, ?_⟩
  replace hB := Gr.trans hB g52
  replace L3 := L3.gr g52
  replace L5 := L5.gr g52
  refine k51 _ _ ⟨L3, L5⟩ ?_
  try clear k51 K51
  simp only [p1, p2, p3, p4]
  refine ord_eff rfl rfl (fun K54 k54 => ?_)
  have kq56 := g50.kp.trans g52.kp
  replace h47 := h47.kp kq56
  refine eff_call (some 27) rfl (by kernel_rfl) (add_e (k + m) h47 h52 (by omega) (by omega) (by omega)) ?_
  rintro e55 w55 ⟨⟨x55, y55, rfl, h55⟩, g55⟩
  refine ⟨_, rfl, ?_⟩
  replace hB := Gr.trans hB g55
  replace L3 := L3.gr g55
  replace L5 := L5.gr g55
  refine k54 _ _ ⟨L3, L5⟩ ?_
  try clear k54 K54
  simp only [p1, p2, p3, p4]
  refine ord_eff rfl rfl (fun K57 k57 => ?_)
  have kq59 := g50.kp.trans (g52.kp.trans g55.kp)
  replace ha := ha.kp kq59
  refine eff_call (some 29) rfl (by kernel_rfl) (den_i ha) ?_
  rintro e58 w58 ⟨⟨x58, y58, rfl, h58⟩, g58⟩
  refine ⟨_, rfl, ?_⟩
  replace hB := Gr.trans hB g58
  replace L3 := L3.gr g58
  replace L5 := L5.gr g58
  refine k57 _ _ ⟨L3, L5⟩ ?_
  try clear k57 K57
  simp only [p1, p2, p3, p4]
  refine ord_eff rfl rfl (fun K60 k60 => ?_)
  have kq62 := g52.kp.trans (g55.kp.trans g58.kp)
  replace hb := hb.kp kq62
  refine eff_call (some 31) rfl (by kernel_rfl) (den_i hb) ?_
  rintro e61 w61 ⟨⟨x61, y61, rfl, h61⟩, g61⟩
  refine ⟨_, rfl, ?_⟩
  replace hB := Gr.trans hB g61
  replace L3 := L3.gr g61
  replace L5 := L5.gr g61
  refine k60 _ _ ⟨L3, L5⟩ ?_
  try clear k60 K60
  simp only [p1, p2, p3, p4]
  refine ord_eff rfl rfl (fun K63 k63 => ?_)
  replace h58 := h58.kp g61.kp
  refine eff_call (some 32) rfl (by kernel_rfl) (mul_i h58 h61 (by omega)) ?_
  rintro e64 w64 ⟨⟨x64, y64, rfl, h64⟩, g64⟩
  refine ⟨_, rfl, ?_⟩
  replace hB := Gr.trans hB g64
  replace L3 := L3.gr g64
  replace L5 := L5.gr g64
  refine k63 _ _ ⟨L3, L5⟩ ?_
  try clear k63 K63
  simp only [p1, p2, p3, p4]
  refine ord_eff rfl rfl (fun K65 k65 => ?_)
  have kq67 := g58.kp.trans (g61.kp.trans g64.kp)
  replace h55 := h55.kp kq67
  refine eff_call (some 33) rfl (by kernel_rfl) (reduced_i ((k + m + 1)) h55 h64 (Int.mul_pos (Int.natCast_pos.2 a.den_pos) (Int.natCast_pos.2 b.den_pos)) (by omega) (by omega) (by omega) (by omega)) ?_
  rintro e66 w66 ⟨⟨p66, q66, r66, s66, rfl, h66⟩, g66⟩
  refine ⟨_, rfl, ?_⟩
  replace hB := Gr.trans hB g66
  replace L3 := L3.gr g66
  replace L5 := L5.gr g66
  refine k65 _ _ ⟨L3, L5⟩ ?_
  try clear k65 K65
  simp only [p1, p2, p3, p4]
  refine ord_eff rfl rfl (fun K68 k68 => ?_)
  replace L7 := L7.gr (g11.trans (gd42.trans (g44.trans (g47.trans (g50.trans (g52.trans (g55.trans (g58.trans (g61.trans (g64.trans g66))))))))))
  refine eff_store 31 _ _ b7 0 (.agg #[p66, q66, r66, s66]) [p66, q66, r66, s66] _ #[p66, q66, r66, s66] _ rfl rfl rfl rfl rfl L7 (by kernel_rfl) (Nat.le_of_ble_eq_true rfl) ⟨h66.one0, h66.one1, h66.one2, h66.one3, trivial⟩ (by kernel_rfl) (fun w69 st69 N69 => ?_)
  have kp69 := st69.kp L7 (by decide)
  replace hB := st69.gr hB q7
  replace L7 := N69
  replace L3 := st69.lc L3 ne3_7
  replace L5 := st69.lc L5 ne5_7
  refine k68 _ _ ⟨L3, L5⟩ ?_
  try clear k68 K68
  refine ord_nil ?_
  refine k13 _ _ ?_
  try clear k13 K13
  refine wp_ret ?_
  refine bodyPost_ret (v := (.agg #[p66, q66, r66, s66])) (ret_cell _ _ _ rfl rfl L7 (by kernel_rfl)) rfl ⟨?_, hB⟩
  replace h66 := h66.kp kp69
  exact ⟨_, _, _, _, rfl, by rw [← rat_add]; exact h66⟩

theorem add_r {k m : Nat} {u0 u1 u2 u3 v0 v1 v2 v3 : Value} {a b : Rat} {w : World} (ha : IsRat w k u0 u1 u2 u3 a) (hb : IsRat w m v0 v1 v2 v3 b) (hk : k + m ≤ 100000) :
    Calls Tryd.prog 56 #[.agg #[u0, u1, u2, u3], .agg #[v0, v1, v2, v3]] w fun e w' => (∃ c0 c1 c2 c3, e = .returned (.agg #[c0, c1, c2, c3]) ∧ IsRat w' (k + m + 1) c0 c1 c2 c3 (a + b)) ∧ Gr w w' := by
  by_cases wa : a.den = 1
  · by_cases wb : b.den = 1
    · exact add_tt ha hb hk wa wb
    · exact add_tf ha hb hk wa wb
  · exact add_f ha hb hk wa

set_option maxRecDepth 100000 in
set_option maxHeartbeats 1000000 in
theorem mul_tt {k m : Nat} {u0 u1 u2 u3 v0 v1 v2 v3 : Value} {a b : Rat} {w : World} (ha : IsRat w k u0 u1 u2 u3 a) (hb : IsRat w m v0 v1 v2 v3 b) (_hk : k + m ≤ 100000) (wa : a.den = 1) (wb : b.den = 1) :
    Calls Tryd.prog 33 #[(.agg #[u0, u1, u2, u3]), (.agg #[v0, v1, v2, v3])] w fun e w' => (∃ c0 c1 c2 c3, e = .returned (.agg #[c0, c1, c2, c3]) ∧ IsRat w' (k + m) c0 c1 c2 c3 (a * b)) ∧ Gr w w' := by
  have hka := ha.big
  have hkb := hb.big
  go_enter Tryd.func33, Tryd.ntmps33
  have hB := Gr.refl w
  refine wp_seq_k (fun K1 k1 => ?_)
  refine wp_region ?_
  simp only [List.size_toArray, List.length_cons, List.length_nil, Nat.reduceAdd, List.range, List.range.loop]
  refine sq_eff rfl (by kernel_rfl) (fun K2 k2 => ?_)
  refine eff_box 31 _ (.agg #[u0, u1, u2, u3]) #[u0, u1, u2, u3] (some 2) rfl rfl rfl rfl (fun b3 w3 g3 L3 q3 => ?_)
  replace q3 := Nat.le_trans (Below.size hB) q3
  replace hB := Gr.trans hB g3
  refine k2 _ _ ?_
  try clear k2 K2
  simp only [p1, p2, p3, p4]
  refine sq_eff rfl (by kernel_rfl) (fun K4 k4 => ?_)
  refine eff_box 31 _ (.agg #[v0, v1, v2, v3]) #[v0, v1, v2, v3] (some 3) rfl rfl rfl rfl (fun b5 w5 g5 L5 q5 => ?_)
  have ne3_5 := L3.ne q5
  replace q5 := Nat.le_trans (Below.size hB) q5
  replace hB := Gr.trans hB g5
  refine k4 _ _ ?_
  try clear k4 K4
  simp only [p1, p2, p3, p4]
  refine sq_eff rfl (by kernel_rfl) (fun K6 k6 => ?_)
  refine eff_alloc 31 (.agg #[(.bool false), (.slice none 0 0), (.bool false), (.slice none 0 0)]) #[(.bool false), (.slice none 0 0), (.bool false), (.slice none 0 0)] (some 4) rfl rfl (by kernel_rfl) rfl (fun b7 w7 g7 L7 q7 => ?_)
  replace L3 := L3.gr g5
  have ne3_7 := L3.ne q7
  have ne5_7 := L5.ne q7
  replace q7 := Nat.le_trans (Below.size hB) q7
  replace hB := Gr.trans hB g7
  refine k6 _ _ ?_
  try clear k6 K6
  simp only [p1, p2, p3, p4]
  refine sq_nil ?_
  refine k1 _ _ ?_
  try clear k1 K1
  refine wp_seq_k (fun K8 k8 => ?_)
  refine wp_seq_k (fun K9 k9 => ?_)
  refine wp_region ?_
  simp only [List.size_toArray, List.length_cons, List.length_nil, Nat.reduceAdd, List.range, List.range.loop]
  replace L3 := L3.gr g7
  refine sq_val (some 5) (.agg #[u0, u1, u2, u3]) rfl rfl (by kernel_rfl) (rv_load 31 _ b3 0 _ _ [u0, u1, u2, u3] rfl rfl L3 rfl (by kernel_rfl)) ?_
  simp only [p1, p2, p3, p4]
  refine sq_eff rfl (by kernel_rfl) (fun K10 k10 => ?_)
  have kq12 := g3.kp.trans (g5.kp.trans g7.kp)
  replace ha := ha.kp kq12
  refine eff_call (some 6) rfl (by kernel_rfl) (whole_t ha (by omega) wa) ?_
  rintro e11 w11 ⟨rfl, g11⟩
  refine ⟨_, rfl, ?_⟩
  replace hB := Gr.trans hB g11
  refine k10 _ _ ?_
  try clear k10 K10
  simp only [p1, p2, p3, p4]
  refine sq_val (some 7) (.bool true) rfl rfl (by kernel_rfl) (rvk (by kernel_rfl)) ?_
  simp only [p1, p2, p3, p4]
  replace L5 := L5.gr (g7.trans g11)
  refine sq_val (some 8) (.agg #[v0, v1, v2, v3]) rfl rfl (by kernel_rfl) (rv_load 31 _ b5 0 _ _ [v0, v1, v2, v3] rfl rfl L5 rfl (by kernel_rfl)) ?_
  simp only [p1, p2, p3, p4]
  refine sq_eff rfl (by kernel_rfl) (fun K13 k13 => ?_)
  have kq15 := g3.kp.trans (g5.kp.trans (g7.kp.trans g11.kp))
  replace hb := hb.kp kq15
  refine eff_call (some 9) rfl (by kernel_rfl) (whole_t hb (by omega) wb) ?_
  rintro e14 w14 ⟨rfl, g14⟩
  refine ⟨_, rfl, ?_⟩
  replace hB := Gr.trans hB g14
  refine k13 _ _ ?_
  try clear k13 K13
  simp only [p1, p2, p3, p4]
  refine sq_val (some 10) (.bool true) rfl rfl (by kernel_rfl) (rvk (by kernel_rfl)) ?_
  simp only [p1, p2, p3, p4]
  refine sq_nil ?_
  refine k9 _ _ ?_
  try clear k9 K9
  refine wp_cond_true rfl ?_
  refine wp_seq_k (fun K16 k16 => ?_)
  refine wp_region ?_
  simp only [List.size_toArray, List.length_cons, List.length_nil, Nat.reduceAdd, List.range, List.range.loop]
  refine sq_val (some 11) (.pointer (some ⟨b3, 0, none⟩)) rfl rfl (by kernel_rfl) (rvk (by kernel_rfl)) ?_
  simp only [p1, p2, p3, p4]
  replace L3 := L3.gr (g11.trans g14)
  refine sq_val (some 12) (.agg #[u0, u1]) rfl rfl (by kernel_rfl) (rv_load 29 _ b3 0 _ _ [u0, u1] rfl rfl L3 rfl (by kernel_rfl)) ?_
  simp only [p1, p2, p3, p4]
  refine sq_val (some 13) (.pointer (some ⟨b5, 0, none⟩)) rfl rfl (by kernel_rfl) (rvk (by kernel_rfl)) ?_
  simp only [p1, p2, p3, p4]
  replace L5 := L5.gr g14
  refine sq_val (some 14) (.agg #[v0, v1]) rfl rfl (by kernel_rfl) (rv_load 29 _ b5 0 _ _ [v0, v1] rfl rfl L5 rfl (by kernel_rfl)) ?_
  simp only [p1, p2, p3, p4]
  refine sq_eff rfl (by kernel_rfl) (fun K17 k17 => ?_)
  have kq19 := g11.kp.trans g14.kp
  replace ha := ha.kp kq19
  replace hb := hb.kp g14.kp
  refine eff_call (some 15) rfl (by kernel_rfl) (mul_i ha.num hb.num (by omega)) ?_
  rintro e18 w18 ⟨⟨x18, y18, rfl, h18⟩, g18⟩
  refine ⟨_, rfl, ?_⟩
  replace hB := Gr.trans hB g18
  refine k17 _ _ ?_
  try clear k17 K17
  simp only [p1, p2, p3, p4]
  refine sq_val (some 16) (.agg #[x18, y18, (.bool false), (.slice none 0 0)]) rfl rfl (by kernel_rfl) (rvk (by kernel_rfl)) ?_
  simp only [p1, p2, p3, p4]
  refine sq_eff rfl (by kernel_rfl) (fun K20 k20 => ?_)
  replace L7 := L7.gr (g11.trans (g14.trans g18))
  refine eff_store 31 _ _ b7 0 (.agg #[x18, y18, (.bool false), (.slice none 0 0)]) [x18, y18, (.bool false), (.slice none 0 0)] _ #[x18, y18, (.bool false), (.slice none 0 0)] _ rfl rfl rfl rfl rfl L7 (by kernel_rfl) (Nat.le_of_ble_eq_true rfl) ⟨h18.one0, h18.one1, rfl, rfl, trivial⟩ (by kernel_rfl) (fun w21 st21 N21 => ?_)
  have kp21 := st21.kp L7 (by decide)
  replace hB := st21.gr hB q7
  replace L7 := N21
  refine k20 _ _ ?_
  try clear k20 K20
  refine sq_nil ?_
  refine k16 _ _ ?_
  try clear k16 K16
  refine wp_ret ?_
  simp only [Exit.then]
  refine bodyPost_ret (v := (.agg #[x18, y18, (.bool false), (.slice none 0 0)])) (ret_cell _ _ _ rfl rfl L7 (by kernel_rfl)) rfl ⟨?_, hB⟩
  replace h18 := h18.kp kp21
  exact ⟨_, _, _, _, rfl, by rw [← rat_int wa, ← rat_int wb, ← Rat.intCast_mul]; exact IsRat.int h18 (by omega)⟩

set_option maxRecDepth 100000 in
set_option maxHeartbeats 1000000 in
theorem mul_tf {k m : Nat} {u0 u1 u2 u3 v0 v1 v2 v3 : Value} {a b : Rat} {w : World} (ha : IsRat w k u0 u1 u2 u3 a) (hb : IsRat w m v0 v1 v2 v3 b) (_hk : k + m ≤ 100000) (wa : a.den = 1) (wb : b.den ≠ 1) :
    Calls Tryd.prog 33 #[(.agg #[u0, u1, u2, u3]), (.agg #[v0, v1, v2, v3])] w fun e w' => (∃ c0 c1 c2 c3, e = .returned (.agg #[c0, c1, c2, c3]) ∧ IsRat w' (k + m) c0 c1 c2 c3 (a * b)) ∧ Gr w w' := by
  have hka := ha.big
  have hkb := hb.big
  go_enter Tryd.func33, Tryd.ntmps33
  have hB := Gr.refl w
  refine wp_seq_k (fun K1 k1 => ?_)
  refine wp_region ?_
  simp only [List.size_toArray, List.length_cons, List.length_nil, Nat.reduceAdd, List.range, List.range.loop]
  refine sq_eff rfl (by kernel_rfl) (fun K2 k2 => ?_)
  refine eff_box 31 _ (.agg #[u0, u1, u2, u3]) #[u0, u1, u2, u3] (some 2) rfl rfl rfl rfl (fun b3 w3 g3 L3 q3 => ?_)
  replace q3 := Nat.le_trans (Below.size hB) q3
  replace hB := Gr.trans hB g3
  refine k2 _ _ ?_
  try clear k2 K2
  simp only [p1, p2, p3, p4]
  refine sq_eff rfl (by kernel_rfl) (fun K4 k4 => ?_)
  refine eff_box 31 _ (.agg #[v0, v1, v2, v3]) #[v0, v1, v2, v3] (some 3) rfl rfl rfl rfl (fun b5 w5 g5 L5 q5 => ?_)
  have ne3_5 := L3.ne q5
  replace q5 := Nat.le_trans (Below.size hB) q5
  replace hB := Gr.trans hB g5
  refine k4 _ _ ?_
  try clear k4 K4
  simp only [p1, p2, p3, p4]
  refine sq_eff rfl (by kernel_rfl) (fun K6 k6 => ?_)
  refine eff_alloc 31 (.agg #[(.bool false), (.slice none 0 0), (.bool false), (.slice none 0 0)]) #[(.bool false), (.slice none 0 0), (.bool false), (.slice none 0 0)] (some 4) rfl rfl (by kernel_rfl) rfl (fun b7 w7 g7 L7 q7 => ?_)
  replace L3 := L3.gr g5
  have ne3_7 := L3.ne q7
  have ne5_7 := L5.ne q7
  replace q7 := Nat.le_trans (Below.size hB) q7
  replace hB := Gr.trans hB g7
  refine k6 _ _ ?_
  try clear k6 K6
  simp only [p1, p2, p3, p4]
  refine sq_nil ?_
  refine k1 _ _ ?_
  try clear k1 K1
  refine wp_seq_k (fun K8 k8 => ?_)
  refine wp_seq_k (fun K9 k9 => ?_)
  refine wp_region ?_
  simp only [List.size_toArray, List.length_cons, List.length_nil, Nat.reduceAdd, List.range, List.range.loop]
  replace L3 := L3.gr g7
  refine sq_val (some 5) (.agg #[u0, u1, u2, u3]) rfl rfl (by kernel_rfl) (rv_load 31 _ b3 0 _ _ [u0, u1, u2, u3] rfl rfl L3 rfl (by kernel_rfl)) ?_
  simp only [p1, p2, p3, p4]
  refine sq_eff rfl (by kernel_rfl) (fun K10 k10 => ?_)
  have kq12 := g3.kp.trans (g5.kp.trans g7.kp)
  replace ha := ha.kp kq12
  refine eff_call (some 6) rfl (by kernel_rfl) (whole_t ha (by omega) wa) ?_
  rintro e11 w11 ⟨rfl, g11⟩
  refine ⟨_, rfl, ?_⟩
  replace hB := Gr.trans hB g11
  refine k10 _ _ ?_
  try clear k10 K10
  simp only [p1, p2, p3, p4]
  refine sq_val (some 7) (.bool true) rfl rfl (by kernel_rfl) (rvk (by kernel_rfl)) ?_
  simp only [p1, p2, p3, p4]
  replace L5 := L5.gr (g7.trans g11)
  refine sq_val (some 8) (.agg #[v0, v1, v2, v3]) rfl rfl (by kernel_rfl) (rv_load 31 _ b5 0 _ _ [v0, v1, v2, v3] rfl rfl L5 rfl (by kernel_rfl)) ?_
  simp only [p1, p2, p3, p4]
  refine sq_eff rfl (by kernel_rfl) (fun K13 k13 => ?_)
  have kq15 := g3.kp.trans (g5.kp.trans (g7.kp.trans g11.kp))
  replace hb := hb.kp kq15
  refine eff_call (some 9) rfl (by kernel_rfl) (whole_f hb (by omega) wb) ?_
  rintro e14 w14 ⟨rfl, g14⟩
  refine ⟨_, rfl, ?_⟩
  replace hB := Gr.trans hB g14
  refine k13 _ _ ?_
  try clear k13 K13
  simp only [p1, p2, p3, p4]
  refine sq_val (some 10) (.bool false) rfl rfl (by kernel_rfl) (rvk (by kernel_rfl)) ?_
  simp only [p1, p2, p3, p4]
  refine sq_nil ?_
  refine k9 _ _ ?_
  try clear k9 K9
  refine wp_cond_false rfl ?_
  refine wp_skip ?_
  refine k8 _ _ ?_
  try clear k8 K8
  refine wp_seq_k (fun K16 k16 => ?_)
  have gd34 := Gr.drew w14
  replace hB := Gr.trans hB gd34
  replace L3 := L3.gr (g11.trans (g14.trans gd34))
  replace L5 := L5.gr (g14.trans gd34)
  refine wp_region_ord (fun w' => Lc w' b3 #[u0, u1, u2, u3] 31 ∧ Lc w' b5 #[v0, v1, v2, v3] 31) [(true, 0), (true, 1), (true, 2), (true, 3), (true, 5), (true, 7), (false, 4), (false, 6), (false, 8), (false, 9), (false, 10), (false, 11)] (by kernel_rfl) (by kernel_rfl) (by kernel_rfl) (by decide) (fun _ _ _ _ _ h => h) ⟨L3, L5⟩ ?_
  refine ord_pure (some 17) (.pointer (some ⟨b3, 0, none⟩)) rfl rfl rfl (fun w' hS => (rvk (by kernel_rfl))) ?_
  simp only [p1, p2, p3, p4]
  refine ord_pure (some 18) (.agg #[u0, u1]) rfl rfl rfl (fun w' hS => (rv_load 29 _ b3 0 _ _ [u0, u1] rfl rfl hS.1 rfl (by kernel_rfl))) ?_
  simp only [p1, p2, p3, p4]
  refine ord_pure (some 19) (.pointer (some ⟨b5, 0, none⟩)) rfl rfl rfl (fun w' hS => (rvk (by kernel_rfl))) ?_
  simp only [p1, p2, p3, p4]
  refine ord_pure (some 20) (.agg #[v0, v1]) rfl rfl rfl (fun w' hS => (rv_load 29 _ b5 0 _ _ [v0, v1] rfl rfl hS.2 rfl (by kernel_rfl))) ?_
  simp only [p1, p2, p3, p4]
  refine ord_pure (some 22) (.agg #[u0, u1, u2, u3]) rfl rfl rfl (fun w' hS => (rv_load 31 _ b3 0 _ _ [u0, u1, u2, u3] rfl rfl hS.1 rfl (by kernel_rfl))) ?_
  simp only [p1, p2, p3, p4]
  refine ord_pure (some 24) (.agg #[v0, v1, v2, v3]) rfl rfl rfl (fun w' hS => (rv_load 31 _ b5 0 _ _ [v0, v1, v2, v3] rfl rfl hS.2 rfl (by kernel_rfl))) ?_
  simp only [p1, p2, p3, p4]
  refine ord_eff rfl rfl (fun K35 k35 => ?_)
  have kq37 := g11.kp.trans (g14.kp.trans gd34.kp)
  replace ha := ha.kp kq37
  have kq38 := g14.kp.trans gd34.kp
  replace hb := hb.kp kq38
  refine eff_call (some 21) rfl (by kernel_rfl) (mul_i ha.num hb.num (by omega)) ?_
  rintro e36 w36 ⟨⟨x36, y36, rfl, h36⟩, g36⟩
  refine ⟨_, rfl, ?_⟩
  replace hB := Gr.trans hB g36
  replace L3 := L3.gr g36
  replace L5 := L5.gr g36
  refine k35 _ _ ⟨L3, L5⟩ ?_
  try clear k35 K35
  simp only [p1, p2, p3, p4]
  refine ord_eff rfl rfl (fun K39 k39 => ?_)
  replace ha := ha.kp g36.kp
  refine eff_call (some 23) rfl (by kernel_rfl) (den_i ha) ?_
  rintro e40 w40 ⟨⟨x40, y40, rfl, h40⟩, g40⟩
  refine ⟨_, rfl, ?_⟩
  replace hB := Gr.trans hB g40
  replace L3 := L3.gr g40
  replace L5 := L5.gr g40
  refine k39 _ _ ⟨L3, L5⟩ ?_
  try clear k39 K39
  simp only [p1, p2, p3, p4]
  refine ord_eff rfl rfl (fun K41 k41 => ?_)
  have kq43 := g36.kp.trans g40.kp
  replace hb := hb.kp kq43
  refine eff_call (some 25) rfl (by kernel_rfl) (den_i hb) ?_
  rintro e42 w42 ⟨⟨x42, y42, rfl, h42⟩, g42⟩
  refine ⟨_, rfl, ?_⟩
  replace hB := Gr.trans hB g42
  replace L3 := L3.gr g42
  replace L5 := L5.gr g42
  refine k41 _ _ ⟨L3, L5⟩ ?_
  try clear k41 K41
  simp only [p1, p2, p3, p4]
  refine ord_eff rfl rfl (fun K44 k44 => ?_)
  replace h40 := h40.kp g42.kp
  refine eff_call (some 26) rfl (by kernel_rfl) (mul_i h40 h42 (by omega)) ?_
  rintro e45 w45 ⟨⟨x45, y45, rfl, h45⟩, g45⟩
  refine ⟨_, rfl, ?_⟩
  replace hB := Gr.trans hB g45
  replace L3 := L3.gr g45
  replace L5 := L5.gr g45
  refine k44 _ _ ⟨L3, L5⟩ ?_
  try clear k44 K44
  simp only [p1, p2, p3, p4]
  refine ord_eff rfl rfl (fun K46 k46 => ?_)
  have kq48 := g40.kp.trans (g42.kp.trans g45.kp)
  replace h36 := h36.kp kq48
  refine eff_call (some 27) rfl (by kernel_rfl) (reduced_i ((k + m)) h36 h45 (Int.mul_pos (Int.natCast_pos.2 a.den_pos) (Int.natCast_pos.2 b.den_pos)) (by omega) (by omega) (by omega) (by omega)) ?_
  rintro e47 w47 ⟨⟨p47, q47, r47, s47, rfl, h47⟩, g47⟩
  refine ⟨_, rfl, ?_⟩
  replace hB := Gr.trans hB g47
  replace L3 := L3.gr g47
  replace L5 := L5.gr g47
  refine k46 _ _ ⟨L3, L5⟩ ?_
  try clear k46 K46
  simp only [p1, p2, p3, p4]
  refine ord_eff rfl rfl (fun K49 k49 => ?_)
  replace L7 := L7.gr (g11.trans (g14.trans (gd34.trans (g36.trans (g40.trans (g42.trans (g45.trans g47)))))))
  refine eff_store 31 _ _ b7 0 (.agg #[p47, q47, r47, s47]) [p47, q47, r47, s47] _ #[p47, q47, r47, s47] _ rfl rfl rfl rfl rfl L7 (by kernel_rfl) (Nat.le_of_ble_eq_true rfl) ⟨h47.one0, h47.one1, h47.one2, h47.one3, trivial⟩ (by kernel_rfl) (fun w50 st50 N50 => ?_)
  have kp50 := st50.kp L7 (by decide)
  replace hB := st50.gr hB q7
  replace L7 := N50
  replace L3 := st50.lc L3 ne3_7
  replace L5 := st50.lc L5 ne5_7
  refine k49 _ _ ⟨L3, L5⟩ ?_
  try clear k49 K49
  refine ord_nil ?_
  refine k16 _ _ ?_
  try clear k16 K16
  refine wp_ret ?_
  refine bodyPost_ret (v := (.agg #[p47, q47, r47, s47])) (ret_cell _ _ _ rfl rfl L7 (by kernel_rfl)) rfl ⟨?_, hB⟩
  replace h47 := h47.kp kp50
  exact ⟨_, _, _, _, rfl, by rw [← rat_mul]; exact h47⟩

set_option maxRecDepth 100000 in
set_option maxHeartbeats 1000000 in
theorem mul_f {k m : Nat} {u0 u1 u2 u3 v0 v1 v2 v3 : Value} {a b : Rat} {w : World} (ha : IsRat w k u0 u1 u2 u3 a) (hb : IsRat w m v0 v1 v2 v3 b) (_hk : k + m ≤ 100000) (wa : a.den ≠ 1) :
    Calls Tryd.prog 33 #[(.agg #[u0, u1, u2, u3]), (.agg #[v0, v1, v2, v3])] w fun e w' => (∃ c0 c1 c2 c3, e = .returned (.agg #[c0, c1, c2, c3]) ∧ IsRat w' (k + m) c0 c1 c2 c3 (a * b)) ∧ Gr w w' := by
  have hka := ha.big
  have hkb := hb.big
  go_enter Tryd.func33, Tryd.ntmps33
  have hB := Gr.refl w
  refine wp_seq_k (fun K1 k1 => ?_)
  refine wp_region ?_
  simp only [List.size_toArray, List.length_cons, List.length_nil, Nat.reduceAdd, List.range, List.range.loop]
  refine sq_eff rfl (by kernel_rfl) (fun K2 k2 => ?_)
  refine eff_box 31 _ (.agg #[u0, u1, u2, u3]) #[u0, u1, u2, u3] (some 2) rfl rfl rfl rfl (fun b3 w3 g3 L3 q3 => ?_)
  replace q3 := Nat.le_trans (Below.size hB) q3
  replace hB := Gr.trans hB g3
  refine k2 _ _ ?_
  try clear k2 K2
  simp only [p1, p2, p3, p4]
  refine sq_eff rfl (by kernel_rfl) (fun K4 k4 => ?_)
  refine eff_box 31 _ (.agg #[v0, v1, v2, v3]) #[v0, v1, v2, v3] (some 3) rfl rfl rfl rfl (fun b5 w5 g5 L5 q5 => ?_)
  have ne3_5 := L3.ne q5
  replace q5 := Nat.le_trans (Below.size hB) q5
  replace hB := Gr.trans hB g5
  refine k4 _ _ ?_
  try clear k4 K4
  simp only [p1, p2, p3, p4]
  refine sq_eff rfl (by kernel_rfl) (fun K6 k6 => ?_)
  refine eff_alloc 31 (.agg #[(.bool false), (.slice none 0 0), (.bool false), (.slice none 0 0)]) #[(.bool false), (.slice none 0 0), (.bool false), (.slice none 0 0)] (some 4) rfl rfl (by kernel_rfl) rfl (fun b7 w7 g7 L7 q7 => ?_)
  replace L3 := L3.gr g5
  have ne3_7 := L3.ne q7
  have ne5_7 := L5.ne q7
  replace q7 := Nat.le_trans (Below.size hB) q7
  replace hB := Gr.trans hB g7
  refine k6 _ _ ?_
  try clear k6 K6
  simp only [p1, p2, p3, p4]
  refine sq_nil ?_
  refine k1 _ _ ?_
  try clear k1 K1
  refine wp_seq_k (fun K8 k8 => ?_)
  refine wp_seq_k (fun K9 k9 => ?_)
  refine wp_region ?_
  simp only [List.size_toArray, List.length_cons, List.length_nil, Nat.reduceAdd, List.range, List.range.loop]
  replace L3 := L3.gr g7
  refine sq_val (some 5) (.agg #[u0, u1, u2, u3]) rfl rfl (by kernel_rfl) (rv_load 31 _ b3 0 _ _ [u0, u1, u2, u3] rfl rfl L3 rfl (by kernel_rfl)) ?_
  simp only [p1, p2, p3, p4]
  refine sq_eff rfl (by kernel_rfl) (fun K10 k10 => ?_)
  have kq12 := g3.kp.trans (g5.kp.trans g7.kp)
  replace ha := ha.kp kq12
  refine eff_call (some 6) rfl (by kernel_rfl) (whole_f ha (by omega) wa) ?_
  rintro e11 w11 ⟨rfl, g11⟩
  refine ⟨_, rfl, ?_⟩
  replace hB := Gr.trans hB g11
  refine k10 _ _ ?_
  try clear k10 K10
  simp only [p1, p2, p3, p4]
  refine sq_val (some 7) (.bool false) rfl rfl (by kernel_rfl) (rvk (by kernel_rfl)) ?_
  simp only [p1, p2, p3, p4]
  refine sq_skip (some 8) rfl rfl (by kernel_rfl) ?_
  simp only [p1, p2, p3, p4]
  refine sq_skip (some 9) rfl rfl (by kernel_rfl) ?_
  simp only [p1, p2, p3, p4]
  refine sq_val (some 10) (.bool false) rfl rfl (by kernel_rfl) (rvk (by kernel_rfl)) ?_
  simp only [p1, p2, p3, p4]
  refine sq_nil ?_
  refine k9 _ _ ?_
  try clear k9 K9
  refine wp_cond_false rfl ?_
  refine wp_skip ?_
  refine k8 _ _ ?_
  try clear k8 K8
  refine wp_seq_k (fun K13 k13 => ?_)
  have gd31 := Gr.drew w11
  replace hB := Gr.trans hB gd31
  replace L3 := L3.gr (g11.trans gd31)
  replace L5 := L5.gr (g7.trans (g11.trans gd31))
  refine wp_region_ord (fun w' => Lc w' b3 #[u0, u1, u2, u3] 31 ∧ Lc w' b5 #[v0, v1, v2, v3] 31) [(true, 0), (true, 1), (true, 2), (true, 3), (true, 5), (true, 7), (false, 4), (false, 6), (false, 8), (false, 9), (false, 10), (false, 11)] (by kernel_rfl) (by kernel_rfl) (by kernel_rfl) (by decide) (fun _ _ _ _ _ h => h) ⟨L3, L5⟩ ?_
  refine ord_pure (some 17) (.pointer (some ⟨b3, 0, none⟩)) rfl rfl rfl (fun w' hS => (rvk (by kernel_rfl))) ?_
  simp only [p1, p2, p3, p4]
  refine ord_pure (some 18) (.agg #[u0, u1]) rfl rfl rfl (fun w' hS => (rv_load 29 _ b3 0 _ _ [u0, u1] rfl rfl hS.1 rfl (by kernel_rfl))) ?_
  simp only [p1, p2, p3, p4]
  refine ord_pure (some 19) (.pointer (some ⟨b5, 0, none⟩)) rfl rfl rfl (fun w' hS => (rvk (by kernel_rfl))) ?_
  simp only [p1, p2, p3, p4]
  refine ord_pure (some 20) (.agg #[v0, v1]) rfl rfl rfl (fun w' hS => (rv_load 29 _ b5 0 _ _ [v0, v1] rfl rfl hS.2 rfl (by kernel_rfl))) ?_
  simp only [p1, p2, p3, p4]
  refine ord_pure (some 22) (.agg #[u0, u1, u2, u3]) rfl rfl rfl (fun w' hS => (rv_load 31 _ b3 0 _ _ [u0, u1, u2, u3] rfl rfl hS.1 rfl (by kernel_rfl))) ?_
  simp only [p1, p2, p3, p4]
  refine ord_pure (some 24) (.agg #[v0, v1, v2, v3]) rfl rfl rfl (fun w' hS => (rv_load 31 _ b5 0 _ _ [v0, v1, v2, v3] rfl rfl hS.2 rfl (by kernel_rfl))) ?_
  simp only [p1, p2, p3, p4]
  refine ord_eff rfl rfl (fun K32 k32 => ?_)
  have kq34 := g11.kp.trans gd31.kp
  replace ha := ha.kp kq34
  have kq35 := g3.kp.trans (g5.kp.trans (g7.kp.trans (g11.kp.trans gd31.kp)))
  replace hb := hb.kp kq35
  refine eff_call (some 21) rfl (by kernel_rfl) (mul_i ha.num hb.num (by omega)) ?_
  rintro e33 w33 ⟨⟨x33, y33, rfl, h33⟩, g33⟩
  refine ⟨_, rfl, ?_⟩
  replace hB := Gr.trans hB g33
  replace L3 := L3.gr g33
  replace L5 := L5.gr g33
  refine k32 _ _ ⟨L3, L5⟩ ?_
  try clear k32 K32
  simp only [p1, p2, p3, p4]
  refine ord_eff rfl rfl (fun K36 k36 => ?_)
  replace ha := ha.kp g33.kp
  refine eff_call (some 23) rfl (by kernel_rfl) (den_i ha) ?_
  rintro e37 w37 ⟨⟨x37, y37, rfl, h37⟩, g37⟩
  refine ⟨_, rfl, ?_⟩
  replace hB := Gr.trans hB g37
  replace L3 := L3.gr g37
  replace L5 := L5.gr g37
  refine k36 _ _ ⟨L3, L5⟩ ?_
  try clear k36 K36
  simp only [p1, p2, p3, p4]
  refine ord_eff rfl rfl (fun K38 k38 => ?_)
  have kq40 := g33.kp.trans g37.kp
  replace hb := hb.kp kq40
  refine eff_call (some 25) rfl (by kernel_rfl) (den_i hb) ?_
  rintro e39 w39 ⟨⟨x39, y39, rfl, h39⟩, g39⟩
  refine ⟨_, rfl, ?_⟩
  replace hB := Gr.trans hB g39
  replace L3 := L3.gr g39
  replace L5 := L5.gr g39
  refine k38 _ _ ⟨L3, L5⟩ ?_
  try clear k38 K38
  simp only [p1, p2, p3, p4]
  refine ord_eff rfl rfl (fun K41 k41 => ?_)
  replace h37 := h37.kp g39.kp
  refine eff_call (some 26) rfl (by kernel_rfl) (mul_i h37 h39 (by omega)) ?_
  rintro e42 w42 ⟨⟨x42, y42, rfl, h42⟩, g42⟩
  refine ⟨_, rfl, ?_⟩
  replace hB := Gr.trans hB g42
  replace L3 := L3.gr g42
  replace L5 := L5.gr g42
  refine k41 _ _ ⟨L3, L5⟩ ?_
  try clear k41 K41
  simp only [p1, p2, p3, p4]
  refine ord_eff rfl rfl (fun K43 k43 => ?_)
  have kq45 := g37.kp.trans (g39.kp.trans g42.kp)
  replace h33 := h33.kp kq45
  refine eff_call (some 27) rfl (by kernel_rfl) (reduced_i ((k + m)) h33 h42 (Int.mul_pos (Int.natCast_pos.2 a.den_pos) (Int.natCast_pos.2 b.den_pos)) (by omega) (by omega) (by omega) (by omega)) ?_
  rintro e44 w44 ⟨⟨p44, q44, r44, s44, rfl, h44⟩, g44⟩
  refine ⟨_, rfl, ?_⟩
  replace hB := Gr.trans hB g44
  replace L3 := L3.gr g44
  replace L5 := L5.gr g44
  refine k43 _ _ ⟨L3, L5⟩ ?_
  try clear k43 K43
  simp only [p1, p2, p3, p4]
  refine ord_eff rfl rfl (fun K46 k46 => ?_)
  replace L7 := L7.gr (g11.trans (gd31.trans (g33.trans (g37.trans (g39.trans (g42.trans g44))))))
  refine eff_store 31 _ _ b7 0 (.agg #[p44, q44, r44, s44]) [p44, q44, r44, s44] _ #[p44, q44, r44, s44] _ rfl rfl rfl rfl rfl L7 (by kernel_rfl) (Nat.le_of_ble_eq_true rfl) ⟨h44.one0, h44.one1, h44.one2, h44.one3, trivial⟩ (by kernel_rfl) (fun w47 st47 N47 => ?_)
  have kp47 := st47.kp L7 (by decide)
  replace hB := st47.gr hB q7
  replace L7 := N47
  replace L3 := st47.lc L3 ne3_7
  replace L5 := st47.lc L5 ne5_7
  refine k46 _ _ ⟨L3, L5⟩ ?_
  try clear k46 K46
  refine ord_nil ?_
  refine k13 _ _ ?_
  try clear k13 K13
  refine wp_ret ?_
  refine bodyPost_ret (v := (.agg #[p44, q44, r44, s44])) (ret_cell _ _ _ rfl rfl L7 (by kernel_rfl)) rfl ⟨?_, hB⟩
  replace h44 := h44.kp kp47
  exact ⟨_, _, _, _, rfl, by rw [← rat_mul]; exact h44⟩

theorem mul_r {k m : Nat} {u0 u1 u2 u3 v0 v1 v2 v3 : Value} {a b : Rat} {w : World} (ha : IsRat w k u0 u1 u2 u3 a) (hb : IsRat w m v0 v1 v2 v3 b) (hk : k + m ≤ 100000) :
    Calls Tryd.prog 33 #[.agg #[u0, u1, u2, u3], .agg #[v0, v1, v2, v3]] w fun e w' => (∃ c0 c1 c2 c3, e = .returned (.agg #[c0, c1, c2, c3]) ∧ IsRat w' (k + m) c0 c1 c2 c3 (a * b)) ∧ Gr w w' := by
  by_cases wa : a.den = 1
  · by_cases wb : b.den = 1
    · exact mul_tt ha hb hk wa wb
    · exact mul_tf ha hb hk wa wb
  · exact mul_f ha hb hk wa

set_option maxRecDepth 100000 in
set_option maxHeartbeats 1000000 in
theorem neg_r {k : Nat} {u0 u1 u2 u3 : Value} {a : Rat} {w : World} (ha : IsRat w k u0 u1 u2 u3 a)  :
    Calls Tryd.prog 69 #[(.agg #[u0, u1, u2, u3])] w fun e w' => (∃ c0 c1 c2 c3, e = .returned (.agg #[c0, c1, c2, c3]) ∧ IsRat w' k c0 c1 c2 c3 (-a)) ∧ Gr w w' := by
  go_enter Tryd.func69, Tryd.ntmps69
  have hB := Gr.refl w
  refine wp_seq_k (fun K1 k1 => ?_)
  refine wp_region ?_
  simp only [List.size_toArray, List.length_cons, List.length_nil, Nat.reduceAdd, List.range, List.range.loop]
  refine sq_eff rfl (by kernel_rfl) (fun K2 k2 => ?_)
  refine eff_box 31 _ (.agg #[u0, u1, u2, u3]) #[u0, u1, u2, u3] (some 1) rfl rfl rfl rfl (fun b3 w3 g3 L3 q3 => ?_)
  replace q3 := Nat.le_trans (Below.size hB) q3
  replace hB := Gr.trans hB g3
  refine k2 _ _ ?_
  try clear k2 K2
  simp only [p1, p2, p3, p4]
  refine sq_eff rfl (by kernel_rfl) (fun K4 k4 => ?_)
  refine eff_alloc 31 (.agg #[(.bool false), (.slice none 0 0), (.bool false), (.slice none 0 0)]) #[(.bool false), (.slice none 0 0), (.bool false), (.slice none 0 0)] (some 2) rfl rfl (by kernel_rfl) rfl (fun b5 w5 g5 L5 q5 => ?_)
  have ne3_5 := L3.ne q5
  replace q5 := Nat.le_trans (Below.size hB) q5
  replace hB := Gr.trans hB g5
  refine k4 _ _ ?_
  try clear k4 K4
  simp only [p1, p2, p3, p4]
  refine sq_nil ?_
  refine k1 _ _ ?_
  try clear k1 K1
  refine wp_seq_k (fun K6 k6 => ?_)
  have gd13 := Gr.drew w5
  replace hB := Gr.trans hB gd13
  replace L3 := L3.gr (g5.trans gd13)
  refine wp_region_ord (fun w' => Lc w' b3 #[u0, u1, u2, u3] 31) [(true, 0), (true, 1), (true, 3), (true, 4), (false, 2), (true, 5), (false, 6)] (by kernel_rfl) (by kernel_rfl) (by kernel_rfl) (by decide) (fun _ _ _ _ _ h => h) L3 ?_
  refine ord_pure (some 3) (.pointer (some ⟨b3, 0, none⟩)) rfl rfl rfl (fun w' hS => (rvk (by kernel_rfl))) ?_
  simp only [p1, p2, p3, p4]
  refine ord_pure (some 4) (.agg #[u0, u1]) rfl rfl rfl (fun w' hS => (rv_load 29 _ b3 0 _ _ [u0, u1] rfl rfl hS rfl (by kernel_rfl))) ?_
  simp only [p1, p2, p3, p4]
  refine ord_pure (some 6) (.pointer (some ⟨b3, 2, none⟩)) rfl rfl rfl (fun w' hS => (rvk (by kernel_rfl))) ?_
  simp only [p1, p2, p3, p4]
  refine ord_pure (some 7) (.agg #[u2, u3]) rfl rfl rfl (fun w' hS => (rv_load 29 _ b3 2 _ _ [u2, u3] rfl rfl hS rfl (by kernel_rfl))) ?_
  simp only [p1, p2, p3, p4]
  refine ord_eff rfl rfl (fun K14 k14 => ?_)
  have kq16 := g3.kp.trans (g5.kp.trans gd13.kp)
  replace ha := ha.kp kq16
  refine eff_call (some 5) rfl (by kernel_rfl) (neg_i ha.num ) ?_
  rintro e15 w15 ⟨⟨x15, y15, rfl, h15⟩, g15⟩
  refine ⟨_, rfl, ?_⟩
  replace hB := Gr.trans hB g15
  replace L3 := L3.gr g15
  refine k14 _ _ L3 ?_
  try clear k14 K14
  simp only [p1, p2, p3, p4]
  refine ord_pure (some 8) (.agg #[x15, y15, u2, u3]) rfl rfl rfl (fun w' hS => (rvk (by kernel_rfl))) ?_
  simp only [p1, p2, p3, p4]
  refine ord_eff rfl rfl (fun K17 k17 => ?_)
  replace L5 := L5.gr (gd13.trans g15)
  refine eff_store 31 _ _ b5 0 (.agg #[x15, y15, u2, u3]) [x15, y15, u2, u3] _ #[x15, y15, u2, u3] _ rfl rfl rfl rfl rfl L5 (by kernel_rfl) (Nat.le_of_ble_eq_true rfl) ⟨h15.one0, h15.one1, ha.one2, ha.one3, trivial⟩ (by kernel_rfl) (fun w18 st18 N18 => ?_)
  have kp18 := st18.kp L5 (by decide)
  replace hB := st18.gr hB q5
  replace L5 := N18
  replace L3 := st18.lc L3 ne3_5
  refine k17 _ _ L3 ?_
  try clear k17 K17
  refine ord_nil ?_
  refine k6 _ _ ?_
  try clear k6 K6
  refine wp_ret ?_
  refine bodyPost_ret (v := (.agg #[x15, y15, u2, u3])) (ret_cell _ _ _ rfl rfl L5 (by kernel_rfl)) rfl ⟨?_, hB⟩
  have kq19 := g15.kp.trans kp18
  replace ha := ha.kp kq19
  replace h15 := h15.kp kp18
  exact ⟨_, _, _, _, rfl, IsRat.neg ha h15⟩

set_option maxRecDepth 100000 in
set_option maxHeartbeats 1000000 in
theorem sub_r {k m : Nat} {u0 u1 u2 u3 v0 v1 v2 v3 : Value} {a b : Rat} {w : World} (ha : IsRat w k u0 u1 u2 u3 a) (hb : IsRat w m v0 v1 v2 v3 b) (_hk : k + m ≤ 100000)  :
    Calls Tryd.prog 55 #[(.agg #[u0, u1, u2, u3]), (.agg #[v0, v1, v2, v3])] w fun e w' => (∃ c0 c1 c2 c3, e = .returned (.agg #[c0, c1, c2, c3]) ∧ IsRat w' (k + m + 1) c0 c1 c2 c3 (a - b)) ∧ Gr w w' := by
  go_enter Tryd.func55, Tryd.ntmps55
  have hB := Gr.refl w
  refine wp_seq_k (fun K1 k1 => ?_)
  refine wp_region ?_
  simp only [List.size_toArray, List.length_cons, List.length_nil, Nat.reduceAdd, List.range, List.range.loop]
  refine sq_eff rfl (by kernel_rfl) (fun K2 k2 => ?_)
  refine eff_box 31 _ (.agg #[u0, u1, u2, u3]) #[u0, u1, u2, u3] (some 2) rfl rfl rfl rfl (fun b3 w3 g3 L3 q3 => ?_)
  replace q3 := Nat.le_trans (Below.size hB) q3
  replace hB := Gr.trans hB g3
  refine k2 _ _ ?_
  try clear k2 K2
  simp only [p1, p2, p3, p4]
  refine sq_eff rfl (by kernel_rfl) (fun K4 k4 => ?_)
  refine eff_box 31 _ (.agg #[v0, v1, v2, v3]) #[v0, v1, v2, v3] (some 3) rfl rfl rfl rfl (fun b5 w5 g5 L5 q5 => ?_)
  have ne3_5 := L3.ne q5
  replace q5 := Nat.le_trans (Below.size hB) q5
  replace hB := Gr.trans hB g5
  refine k4 _ _ ?_
  try clear k4 K4
  simp only [p1, p2, p3, p4]
  refine sq_eff rfl (by kernel_rfl) (fun K6 k6 => ?_)
  refine eff_alloc 31 (.agg #[(.bool false), (.slice none 0 0), (.bool false), (.slice none 0 0)]) #[(.bool false), (.slice none 0 0), (.bool false), (.slice none 0 0)] (some 4) rfl rfl (by kernel_rfl) rfl (fun b7 w7 g7 L7 q7 => ?_)
  replace L3 := L3.gr g5
  have ne3_7 := L3.ne q7
  have ne5_7 := L5.ne q7
  replace q7 := Nat.le_trans (Below.size hB) q7
  replace hB := Gr.trans hB g7
  refine k6 _ _ ?_
  try clear k6 K6
  simp only [p1, p2, p3, p4]
  refine sq_nil ?_
  refine k1 _ _ ?_
  try clear k1 K1
  refine wp_seq_k (fun K8 k8 => ?_)
  have gd18 := Gr.drew w7
  replace hB := Gr.trans hB gd18
  replace L3 := L3.gr (g7.trans gd18)
  replace L5 := L5.gr (g7.trans gd18)
  refine wp_region_ord (fun w' => Lc w' b3 #[u0, u1, u2, u3] 31 ∧ Lc w' b5 #[v0, v1, v2, v3] 31) [(true, 0), (true, 1), (false, 2), (false, 3), (false, 4)] (by kernel_rfl) (by kernel_rfl) (by kernel_rfl) (by decide) (fun _ _ _ _ _ h => h) ⟨L3, L5⟩ ?_
  refine ord_pure (some 5) (.agg #[u0, u1, u2, u3]) rfl rfl rfl (fun w' hS => (rv_load 31 _ b3 0 _ _ [u0, u1, u2, u3] rfl rfl hS.1 rfl (by kernel_rfl))) ?_
  simp only [p1, p2, p3, p4]
  refine ord_pure (some 6) (.agg #[v0, v1, v2, v3]) rfl rfl rfl (fun w' hS => (rv_load 31 _ b5 0 _ _ [v0, v1, v2, v3] rfl rfl hS.2 rfl (by kernel_rfl))) ?_
  simp only [p1, p2, p3, p4]
  refine ord_eff rfl rfl (fun K19 k19 => ?_)
  have kq21 := g3.kp.trans (g5.kp.trans (g7.kp.trans gd18.kp))
  replace hb := hb.kp kq21
  refine eff_call (some 7) rfl (by kernel_rfl) (neg_r hb ) ?_
  rintro e20 w20 ⟨⟨p20, q20, r20, s20, rfl, h20⟩, g20⟩
  refine ⟨_, rfl, ?_⟩
  replace hB := Gr.trans hB g20
  replace L3 := L3.gr g20
  replace L5 := L5.gr g20
  refine k19 _ _ ⟨L3, L5⟩ ?_
  try clear k19 K19
  simp only [p1, p2, p3, p4]
  refine ord_eff rfl rfl (fun K22 k22 => ?_)
  have kq24 := g3.kp.trans (g5.kp.trans (g7.kp.trans (gd18.kp.trans g20.kp)))
  replace ha := ha.kp kq24
  refine eff_call (some 8) rfl (by kernel_rfl) (add_r ha h20 (by omega)) ?_
  rintro e23 w23 ⟨⟨p23, q23, r23, s23, rfl, h23⟩, g23⟩
  refine ⟨_, rfl, ?_⟩
  replace hB := Gr.trans hB g23
  replace L3 := L3.gr g23
  replace L5 := L5.gr g23
  refine k22 _ _ ⟨L3, L5⟩ ?_
  try clear k22 K22
  simp only [p1, p2, p3, p4]
  refine ord_eff rfl rfl (fun K25 k25 => ?_)
  replace L7 := L7.gr (gd18.trans (g20.trans g23))
  refine eff_store 31 _ _ b7 0 (.agg #[p23, q23, r23, s23]) [p23, q23, r23, s23] _ #[p23, q23, r23, s23] _ rfl rfl rfl rfl rfl L7 (by kernel_rfl) (Nat.le_of_ble_eq_true rfl) ⟨h23.one0, h23.one1, h23.one2, h23.one3, trivial⟩ (by kernel_rfl) (fun w26 st26 N26 => ?_)
  have kp26 := st26.kp L7 (by decide)
  replace hB := st26.gr hB q7
  replace L7 := N26
  replace L3 := st26.lc L3 ne3_7
  replace L5 := st26.lc L5 ne5_7
  refine k25 _ _ ⟨L3, L5⟩ ?_
  try clear k25 K25
  refine ord_nil ?_
  refine k8 _ _ ?_
  try clear k8 K8
  refine wp_ret ?_
  refine bodyPost_ret (v := (.agg #[p23, q23, r23, s23])) (ret_cell _ _ _ rfl rfl L7 (by kernel_rfl)) rfl ⟨?_, hB⟩
  replace h23 := h23.kp kp26
  exact ⟨_, _, _, _, rfl, by rw [Rat.sub_eq_add_neg]; exact h23⟩

set_option maxRecDepth 100000 in
set_option maxHeartbeats 1000000 in
theorem num_r {k : Nat} {u0 u1 u2 u3 : Value} {a : Rat} {w : World} (ha : IsRat w k u0 u1 u2 u3 a)  :
    Calls Tryd.prog 50 #[(.agg #[u0, u1, u2, u3])] w fun e w' => (∃ x' y', e = .returned (.agg #[x', y']) ∧ IsInt w' k x' y' (a.num)) ∧ Gr w w' := by
  go_enter Tryd.func50, Tryd.ntmps50
  have hB := Gr.refl w
  refine wp_seq_k (fun K1 k1 => ?_)
  refine wp_region ?_
  simp only [List.size_toArray, List.length_cons, List.length_nil, Nat.reduceAdd, List.range, List.range.loop]
  refine sq_eff rfl (by kernel_rfl) (fun K2 k2 => ?_)
  refine eff_box 31 _ (.agg #[u0, u1, u2, u3]) #[u0, u1, u2, u3] (some 1) rfl rfl rfl rfl (fun b3 w3 g3 L3 q3 => ?_)
  replace q3 := Nat.le_trans (Below.size hB) q3
  replace hB := Gr.trans hB g3
  refine k2 _ _ ?_
  try clear k2 K2
  simp only [p1, p2, p3, p4]
  refine sq_eff rfl (by kernel_rfl) (fun K4 k4 => ?_)
  refine eff_alloc 29 (.agg #[(.bool false), (.slice none 0 0)]) #[(.bool false), (.slice none 0 0)] (some 2) rfl rfl (by kernel_rfl) rfl (fun b5 w5 g5 L5 q5 => ?_)
  have ne3_5 := L3.ne q5
  replace q5 := Nat.le_trans (Below.size hB) q5
  replace hB := Gr.trans hB g5
  refine k4 _ _ ?_
  try clear k4 K4
  simp only [p1, p2, p3, p4]
  refine sq_nil ?_
  refine k1 _ _ ?_
  try clear k1 K1
  refine wp_seq_k (fun K6 k6 => ?_)
  refine wp_region ?_
  simp only [List.size_toArray, List.length_cons, List.length_nil, Nat.reduceAdd, List.range, List.range.loop]
  refine sq_val (some 3) (.pointer (some ⟨b3, 0, none⟩)) rfl rfl (by kernel_rfl) (rvk (by kernel_rfl)) ?_
  simp only [p1, p2, p3, p4]
  replace L3 := L3.gr g5
  refine sq_val (some 4) (.agg #[u0, u1]) rfl rfl (by kernel_rfl) (rv_load 29 _ b3 0 _ _ [u0, u1] rfl rfl L3 rfl (by kernel_rfl)) ?_
  simp only [p1, p2, p3, p4]
  refine sq_eff rfl (by kernel_rfl) (fun K7 k7 => ?_)
  refine eff_store 29 _ _ b5 0 (.agg #[u0, u1]) [u0, u1] _ #[u0, u1] _ rfl rfl rfl rfl rfl L5 (by kernel_rfl) (Nat.le_of_ble_eq_true rfl) ⟨ha.one0, ha.one1, trivial⟩ (by kernel_rfl) (fun w8 st8 N8 => ?_)
  have kp8 := st8.kp L5 (by decide)
  replace hB := st8.gr hB q5
  replace L5 := N8
  refine k7 _ _ ?_
  try clear k7 K7
  refine sq_nil ?_
  refine k6 _ _ ?_
  try clear k6 K6
  refine wp_ret ?_
  refine bodyPost_ret (v := (.agg #[u0, u1])) (ret_cell _ _ _ rfl rfl L5 (by kernel_rfl)) rfl ⟨?_, hB⟩
  have kq9 := g3.kp.trans (g5.kp.trans kp8)
  replace ha := ha.kp kq9
  exact ⟨_, _, rfl, ha.num⟩

set_option maxRecDepth 100000 in
set_option maxHeartbeats 1000000 in
theorem sign_r {k : Nat} {u0 u1 u2 u3 : Value} {a : Rat} {w : World} (ha : IsRat w k u0 u1 u2 u3 a)  :
    Calls Tryd.prog 13 #[(.agg #[u0, u1, u2, u3])] w fun e w' => e = .returned (.int .i64 (sgn a.num)) ∧ Gr w w' := by
  go_enter Tryd.func13, Tryd.ntmps13
  have hB := Gr.refl w
  refine wp_seq_k (fun K1 k1 => ?_)
  refine wp_region ?_
  simp only [List.size_toArray, List.length_cons, List.length_nil, Nat.reduceAdd, List.range, List.range.loop]
  refine sq_eff rfl (by kernel_rfl) (fun K2 k2 => ?_)
  refine eff_box 31 _ (.agg #[u0, u1, u2, u3]) #[u0, u1, u2, u3] (some 1) rfl rfl rfl rfl (fun b3 w3 g3 L3 q3 => ?_)
  replace q3 := Nat.le_trans (Below.size hB) q3
  replace hB := Gr.trans hB g3
  refine k2 _ _ ?_
  try clear k2 K2
  simp only [p1, p2, p3, p4]
  refine sq_val (some 2) (.int .i64 0) rfl rfl (by kernel_rfl) (rvk (by kernel_rfl)) ?_
  simp only [p1, p2, p3, p4]
  refine sq_nil ?_
  refine k1 _ _ ?_
  try clear k1 K1
  refine wp_seq_k (fun K4 k4 => ?_)
  refine wp_region ?_
  simp only [List.size_toArray, List.length_cons, List.length_nil, Nat.reduceAdd, List.range, List.range.loop]
  refine sq_val (some 3) (.pointer (some ⟨b3, 0, none⟩)) rfl rfl (by kernel_rfl) (rvk (by kernel_rfl)) ?_
  simp only [p1, p2, p3, p4]
  refine sq_val (some 4) (.agg #[u0, u1]) rfl rfl (by kernel_rfl) (rv_load 29 _ b3 0 _ _ [u0, u1] rfl rfl L3 rfl (by kernel_rfl)) ?_
  simp only [p1, p2, p3, p4]
  refine sq_eff rfl (by kernel_rfl) (fun K5 k5 => ?_)
  replace ha := ha.kp g3.kp
  refine eff_call (some 5) rfl (by kernel_rfl) (sign_i ha.num) ?_
  rintro e6 w6 ⟨rfl, g6⟩
  refine ⟨_, rfl, ?_⟩
  replace hB := Gr.trans hB g6
  refine k5 _ _ ?_
  try clear k5 K5
  simp only [p1, p2, p3, p4]
  refine sq_val (some 2) (.int .i64 (sgn (a.num))) rfl rfl (by kernel_rfl) (rvk (by kernel_rfl)) ?_
  simp only [p1, p2, p3, p4]
  refine sq_nil ?_
  refine k4 _ _ ?_
  try clear k4 K4
  refine wp_ret ?_
  refine bodyPost_ret (v := (.int .i64 (sgn (a.num)))) (ret_tmp rfl rfl) rfl ⟨?_, hB⟩
  exact rfl

set_option maxRecDepth 100000 in
set_option maxHeartbeats 1000000 in
theorem from_r (z : Int) (_h0 : -9223372036854775808 ≤ z) (_h1 : z ≤ 9223372036854775807) (w : World) :
    Calls Tryd.prog 18 #[(.int .i64 (z))] w fun e w' => (∃ c0 c1 c2 c3, e = .returned (.agg #[c0, c1, c2, c3]) ∧ IsRat w' 64 c0 c1 c2 c3 ((z : Rat))) ∧ Gr w w' := by
  go_enter Tryd.func18, Tryd.ntmps18
  have hB := Gr.refl w
  refine wp_seq_k (fun K1 k1 => ?_)
  refine wp_region ?_
  simp only [List.size_toArray, List.length_cons, List.length_nil, Nat.reduceAdd, List.range, List.range.loop]
  refine sq_eff rfl (by kernel_rfl) (fun K2 k2 => ?_)
  refine eff_alloc 31 (.agg #[(.bool false), (.slice none 0 0), (.bool false), (.slice none 0 0)]) #[(.bool false), (.slice none 0 0), (.bool false), (.slice none 0 0)] (some 2) rfl rfl (by kernel_rfl) rfl (fun b3 w3 g3 L3 q3 => ?_)
  replace q3 := Nat.le_trans (Below.size hB) q3
  replace hB := Gr.trans hB g3
  refine k2 _ _ ?_
  try clear k2 K2
  simp only [p1, p2, p3, p4]
  refine sq_nil ?_
  refine k1 _ _ ?_
  try clear k1 K1
  refine wp_seq_k (fun K4 k4 => ?_)
  refine wp_region ?_
  simp only [List.size_toArray, List.length_cons, List.length_nil, Nat.reduceAdd, List.range, List.range.loop]
  refine sq_val (some 3) (.int .i64 (z)) rfl rfl (by kernel_rfl) (rvk (by kernel_rfl)) ?_
  simp only [p1, p2, p3, p4]
  refine sq_eff rfl (by kernel_rfl) (fun K5 k5 => ?_)
  refine eff_call (some 4) rfl (by kernel_rfl) (from_i (z) (by omega) (by omega) _) ?_
  rintro e6 w6 ⟨⟨x6, y6, rfl, h6⟩, g6⟩
  refine ⟨_, rfl, ?_⟩
  replace hB := Gr.trans hB g6
  refine k5 _ _ ?_
  try clear k5 K5
  simp only [p1, p2, p3, p4]
  refine sq_val (some 5) (.agg #[x6, y6, (.bool false), (.slice none 0 0)]) rfl rfl (by kernel_rfl) (rvk (by kernel_rfl)) ?_
  simp only [p1, p2, p3, p4]
  refine sq_eff rfl (by kernel_rfl) (fun K7 k7 => ?_)
  replace L3 := L3.gr g6
  refine eff_store 31 _ _ b3 0 (.agg #[x6, y6, (.bool false), (.slice none 0 0)]) [x6, y6, (.bool false), (.slice none 0 0)] _ #[x6, y6, (.bool false), (.slice none 0 0)] _ rfl rfl rfl rfl rfl L3 (by kernel_rfl) (Nat.le_of_ble_eq_true rfl) ⟨h6.one0, h6.one1, rfl, rfl, trivial⟩ (by kernel_rfl) (fun w8 st8 N8 => ?_)
  have kp8 := st8.kp L3 (by decide)
  replace hB := st8.gr hB q3
  replace L3 := N8
  refine k7 _ _ ?_
  try clear k7 K7
  refine sq_nil ?_
  refine k4 _ _ ?_
  try clear k4 K4
  refine wp_ret ?_
  refine bodyPost_ret (v := (.agg #[x6, y6, (.bool false), (.slice none 0 0)])) (ret_cell _ _ _ rfl rfl L3 (by kernel_rfl)) rfl ⟨?_, hB⟩
  replace h6 := h6.kp kp8
  exact ⟨_, _, _, _, rfl, IsRat.int h6 (by omega)⟩

set_option maxRecDepth 100000 in
set_option maxHeartbeats 1000000 in
theorem make_r {k m : Nat} (K : Nat) {n0 n1 d0 d1 : Value} {N D : Int} {w : World} (hn : IsInt w k n0 n1 N) (hd : IsInt w m d0 d1 D) (h0 : 0 < D) (_h1 : k ≤ K) (_h2 : m ≤ K) (_h3 : 64 ≤ K) (_h4 : 8 * K ≤ 1000000) :
    Calls Tryd.prog 49 #[(.agg #[n0, n1]), (.agg #[d0, d1])] w fun e w' => (∃ c0 c1 c2 c3, e = .returned (.tuple #[.agg #[c0, c1, c2, c3], .int .i64 0]) ∧ IsRat w' K c0 c1 c2 c3 (Rat.divInt N D)) ∧ Gr w w' := by
  go_enter Tryd.func49, Tryd.ntmps49
  have hB := Gr.refl w
  refine wp_seq_k (fun K1 k1 => ?_)
  refine wp_region ?_
  simp only [List.size_toArray, List.length_cons, List.length_nil, Nat.reduceAdd, List.range, List.range.loop]
  refine sq_eff rfl (by kernel_rfl) (fun K2 k2 => ?_)
  refine eff_box 29 _ (.agg #[n0, n1]) #[n0, n1] (some 2) rfl rfl rfl rfl (fun b3 w3 g3 L3 q3 => ?_)
  replace q3 := Nat.le_trans (Below.size hB) q3
  replace hB := Gr.trans hB g3
  refine k2 _ _ ?_
  try clear k2 K2
  simp only [p1, p2, p3, p4]
  refine sq_eff rfl (by kernel_rfl) (fun K4 k4 => ?_)
  refine eff_box 29 _ (.agg #[d0, d1]) #[d0, d1] (some 3) rfl rfl rfl rfl (fun b5 w5 g5 L5 q5 => ?_)
  have ne3_5 := L3.ne q5
  replace q5 := Nat.le_trans (Below.size hB) q5
  replace hB := Gr.trans hB g5
  refine k4 _ _ ?_
  try clear k4 K4
  simp only [p1, p2, p3, p4]
  refine sq_eff rfl (by kernel_rfl) (fun K6 k6 => ?_)
  refine eff_alloc 31 (.agg #[(.bool false), (.slice none 0 0), (.bool false), (.slice none 0 0)]) #[(.bool false), (.slice none 0 0), (.bool false), (.slice none 0 0)] (some 4) rfl rfl (by kernel_rfl) rfl (fun b7 w7 g7 L7 q7 => ?_)
  replace L3 := L3.gr g5
  have ne3_7 := L3.ne q7
  have ne5_7 := L5.ne q7
  replace q7 := Nat.le_trans (Below.size hB) q7
  replace hB := Gr.trans hB g7
  refine k6 _ _ ?_
  try clear k6 K6
  simp only [p1, p2, p3, p4]
  refine sq_val (some 5) (.int .i64 0) rfl rfl (by kernel_rfl) (rvk (by kernel_rfl)) ?_
  simp only [p1, p2, p3, p4]
  refine sq_nil ?_
  refine k1 _ _ ?_
  try clear k1 K1
  refine wp_seq_k (fun K8 k8 => ?_)
  refine wp_seq_k (fun K9 k9 => ?_)
  refine wp_region ?_
  simp only [List.size_toArray, List.length_cons, List.length_nil, Nat.reduceAdd, List.range, List.range.loop]
  replace L5 := L5.gr g7
  refine sq_val (some 6) (.agg #[d0, d1]) rfl rfl (by kernel_rfl) (rv_load 29 _ b5 0 _ _ [d0, d1] rfl rfl L5 rfl (by kernel_rfl)) ?_
  simp only [p1, p2, p3, p4]
  refine sq_eff rfl (by kernel_rfl) (fun K10 k10 => ?_)
  have kq12 := g3.kp.trans (g5.kp.trans g7.kp)
  replace hd := hd.kp kq12
  refine eff_call (some 7) rfl (by kernel_rfl) (sign_pos hd (by omega)) ?_
  rintro e11 w11 ⟨rfl, g11⟩
  refine ⟨_, rfl, ?_⟩
  replace hB := Gr.trans hB g11
  refine k10 _ _ ?_
  try clear k10 K10
  simp only [p1, p2, p3, p4]
  refine sq_val (some 8) (.bool false) rfl rfl (by kernel_rfl) (rvk (by kernel_rfl)) ?_
  simp only [p1, p2, p3, p4]
  refine sq_nil ?_
  refine k9 _ _ ?_
  try clear k9 K9
  refine wp_cond_false rfl ?_
  refine wp_skip ?_
  refine k8 _ _ ?_
  try clear k8 K8
  refine wp_seq_k (fun K13 k13 => ?_)
  refine wp_region ?_
  simp only [List.size_toArray, List.length_cons, List.length_nil, Nat.reduceAdd, List.range, List.range.loop]
  replace L3 := L3.gr (g7.trans g11)
  refine sq_val (some 10) (.agg #[n0, n1]) rfl rfl (by kernel_rfl) (rv_load 29 _ b3 0 _ _ [n0, n1] rfl rfl L3 rfl (by kernel_rfl)) ?_
  simp only [p1, p2, p3, p4]
  replace L5 := L5.gr g11
  refine sq_val (some 11) (.agg #[d0, d1]) rfl rfl (by kernel_rfl) (rv_load 29 _ b5 0 _ _ [d0, d1] rfl rfl L5 rfl (by kernel_rfl)) ?_
  simp only [p1, p2, p3, p4]
  refine sq_eff rfl (by kernel_rfl) (fun K14 k14 => ?_)
  have kq16 := g3.kp.trans (g5.kp.trans (g7.kp.trans g11.kp))
  replace hn := hn.kp kq16
  replace hd := hd.kp g11.kp
  refine eff_call (some 12) rfl (by kernel_rfl) (reduced_i (K) hn hd h0 (by omega) (by omega) (by omega) (by omega)) ?_
  rintro e15 w15 ⟨⟨p15, q15, r15, s15, rfl, h15⟩, g15⟩
  refine ⟨_, rfl, ?_⟩
  replace hB := Gr.trans hB g15
  refine k14 _ _ ?_
  try clear k14 K14
  simp only [p1, p2, p3, p4]
  refine sq_eff rfl (by kernel_rfl) (fun K17 k17 => ?_)
  replace L7 := L7.gr (g11.trans g15)
  refine eff_store 31 _ _ b7 0 (.agg #[p15, q15, r15, s15]) [p15, q15, r15, s15] _ #[p15, q15, r15, s15] _ rfl rfl rfl rfl rfl L7 (by kernel_rfl) (Nat.le_of_ble_eq_true rfl) ⟨h15.one0, h15.one1, h15.one2, h15.one3, trivial⟩ (by kernel_rfl) (fun w18 st18 N18 => ?_)
  have kp18 := st18.kp L7 (by decide)
  replace hB := st18.gr hB q7
  replace L7 := N18
  refine k17 _ _ ?_
  try clear k17 K17
  refine sq_val (some 5) (.int .i64 0) rfl rfl (by kernel_rfl) (rvk (by kernel_rfl)) ?_
  simp only [p1, p2, p3, p4]
  refine sq_nil ?_
  refine k13 _ _ ?_
  try clear k13 K13
  refine wp_ret ?_
  refine bodyPost_ret (v := (.tuple #[(.agg #[p15, q15, r15, s15]), (.int .i64 0)])) (ret_cell_tmp' _ _ _ rfl rfl L7 (by kernel_rfl) rfl) rfl ⟨?_, hB⟩
  replace h15 := h15.kp kp18
  exact ⟨_, _, _, _, rfl, h15⟩

theorem sign_rp {k : Nat} {u0 u1 u2 u3 : Value} {a : Rat} {w : World} (ha : IsRat w k u0 u1 u2 u3 a) (h : 0 < a.num) :
    Calls Tryd.prog 13 #[.agg #[u0, u1, u2, u3]] w fun e w' => e = .returned (.int .i64 1) ∧ Gr w w' := by
  have := sign_r ha
  rw [sgn_pos h] at this
  exact this

set_option maxRecDepth 100000 in
set_option maxHeartbeats 1000000 in
theorem div_r {k m : Nat} {u0 u1 u2 u3 v0 v1 v2 v3 : Value} {a b : Rat} {w : World} (ha : IsRat w k u0 u1 u2 u3 a) (hb : IsRat w m v0 v1 v2 v3 b) (_hk : k + m ≤ 100000) (h0 : 0 < b.num) :
    Calls Tryd.prog 17 #[(.agg #[u0, u1, u2, u3]), (.agg #[v0, v1, v2, v3])] w fun e w' => (∃ c0 c1 c2 c3, e = .returned (.tuple #[.agg #[c0, c1, c2, c3], .int .i64 0]) ∧ IsRat w' (k + m) c0 c1 c2 c3 (a / b)) ∧ Gr w w' := by
  have hka := ha.big
  have hkb := hb.big
  go_enter Tryd.func17, Tryd.ntmps17
  have hB := Gr.refl w
  refine wp_seq_k (fun K1 k1 => ?_)
  refine wp_region ?_
  simp only [List.size_toArray, List.length_cons, List.length_nil, Nat.reduceAdd, List.range, List.range.loop]
  refine sq_eff rfl (by kernel_rfl) (fun K2 k2 => ?_)
  refine eff_box 31 _ (.agg #[u0, u1, u2, u3]) #[u0, u1, u2, u3] (some 2) rfl rfl rfl rfl (fun b3 w3 g3 L3 q3 => ?_)
  replace q3 := Nat.le_trans (Below.size hB) q3
  replace hB := Gr.trans hB g3
  refine k2 _ _ ?_
  try clear k2 K2
  simp only [p1, p2, p3, p4]
  refine sq_eff rfl (by kernel_rfl) (fun K4 k4 => ?_)
  refine eff_box 31 _ (.agg #[v0, v1, v2, v3]) #[v0, v1, v2, v3] (some 3) rfl rfl rfl rfl (fun b5 w5 g5 L5 q5 => ?_)
  have ne3_5 := L3.ne q5
  replace q5 := Nat.le_trans (Below.size hB) q5
  replace hB := Gr.trans hB g5
  refine k4 _ _ ?_
  try clear k4 K4
  simp only [p1, p2, p3, p4]
  refine sq_eff rfl (by kernel_rfl) (fun K6 k6 => ?_)
  refine eff_alloc 31 (.agg #[(.bool false), (.slice none 0 0), (.bool false), (.slice none 0 0)]) #[(.bool false), (.slice none 0 0), (.bool false), (.slice none 0 0)] (some 4) rfl rfl (by kernel_rfl) rfl (fun b7 w7 g7 L7 q7 => ?_)
  replace L3 := L3.gr g5
  have ne3_7 := L3.ne q7
  have ne5_7 := L5.ne q7
  replace q7 := Nat.le_trans (Below.size hB) q7
  replace hB := Gr.trans hB g7
  refine k6 _ _ ?_
  try clear k6 K6
  simp only [p1, p2, p3, p4]
  refine sq_val (some 5) (.int .i64 0) rfl rfl (by kernel_rfl) (rvk (by kernel_rfl)) ?_
  simp only [p1, p2, p3, p4]
  refine sq_nil ?_
  refine k1 _ _ ?_
  try clear k1 K1
  refine wp_seq_k (fun K8 k8 => ?_)
  refine wp_seq_k (fun K9 k9 => ?_)
  refine wp_region ?_
  simp only [List.size_toArray, List.length_cons, List.length_nil, Nat.reduceAdd, List.range, List.range.loop]
  replace L5 := L5.gr g7
  refine sq_val (some 6) (.agg #[v0, v1, v2, v3]) rfl rfl (by kernel_rfl) (rv_load 31 _ b5 0 _ _ [v0, v1, v2, v3] rfl rfl L5 rfl (by kernel_rfl)) ?_
  simp only [p1, p2, p3, p4]
  refine sq_eff rfl (by kernel_rfl) (fun K10 k10 => ?_)
  have kq12 := g3.kp.trans (g5.kp.trans g7.kp)
  replace hb := hb.kp kq12
  refine eff_call (some 7) rfl (by kernel_rfl) (sign_rp hb h0) ?_
  rintro e11 w11 ⟨rfl, g11⟩
  refine ⟨_, rfl, ?_⟩
  replace hB := Gr.trans hB g11
  refine k10 _ _ ?_
  try clear k10 K10
  simp only [p1, p2, p3, p4]
  refine sq_val (some 8) (.bool false) rfl rfl (by kernel_rfl) (rvk (by kernel_rfl)) ?_
  simp only [p1, p2, p3, p4]
  refine sq_nil ?_
  refine k9 _ _ ?_
  try clear k9 K9
  refine wp_cond_false rfl ?_
  refine wp_skip ?_
  refine k8 _ _ ?_
  try clear k8 K8
  refine wp_seq_k (fun K13 k13 => ?_)
  have gd31 := Gr.drew w11
  replace hB := Gr.trans hB gd31
  replace L3 := L3.gr (g7.trans (g11.trans gd31))
  replace L5 := L5.gr (g11.trans gd31)
  refine wp_region_ord (fun w' => Lc w' b3 #[u0, u1, u2, u3] 31 ∧ Lc w' b5 #[v0, v1, v2, v3] 31) [(true, 0), (true, 1), (true, 2), (true, 5), (true, 7), (true, 8), (false, 3), (false, 4), (false, 6), (false, 9), (false, 10), (false, 11), (true, 12)] (by kernel_rfl) (by kernel_rfl) (by kernel_rfl) (by decide) (fun _ _ _ _ _ h => h) ⟨L3, L5⟩ ?_
  refine ord_pure (some 10) (.pointer (some ⟨b3, 0, none⟩)) rfl rfl rfl (fun w' hS => (rvk (by kernel_rfl))) ?_
  simp only [p1, p2, p3, p4]
  refine ord_pure (some 11) (.agg #[u0, u1]) rfl rfl rfl (fun w' hS => (rv_load 29 _ b3 0 _ _ [u0, u1] rfl rfl hS.1 rfl (by kernel_rfl))) ?_
  simp only [p1, p2, p3, p4]
  refine ord_pure (some 12) (.agg #[v0, v1, v2, v3]) rfl rfl rfl (fun w' hS => (rv_load 31 _ b5 0 _ _ [v0, v1, v2, v3] rfl rfl hS.2 rfl (by kernel_rfl))) ?_
  simp only [p1, p2, p3, p4]
  refine ord_pure (some 15) (.agg #[u0, u1, u2, u3]) rfl rfl rfl (fun w' hS => (rv_load 31 _ b3 0 _ _ [u0, u1, u2, u3] rfl rfl hS.1 rfl (by kernel_rfl))) ?_
  simp only [p1, p2, p3, p4]
  refine ord_pure (some 17) (.pointer (some ⟨b5, 0, none⟩)) rfl rfl rfl (fun w' hS => (rvk (by kernel_rfl))) ?_
  simp only [p1, p2, p3, p4]
  refine ord_pure (some 18) (.agg #[v0, v1]) rfl rfl rfl (fun w' hS => (rv_load 29 _ b5 0 _ _ [v0, v1] rfl rfl hS.2 rfl (by kernel_rfl))) ?_
  simp only [p1, p2, p3, p4]
  refine ord_eff rfl rfl (fun K32 k32 => ?_)
  have kq34 := g11.kp.trans gd31.kp
  replace hb := hb.kp kq34
  refine eff_call (some 13) rfl (by kernel_rfl) (den_i hb) ?_
  rintro e33 w33 ⟨⟨x33, y33, rfl, h33⟩, g33⟩
  refine ⟨_, rfl, ?_⟩
  replace hB := Gr.trans hB g33
  replace L3 := L3.gr g33
  replace L5 := L5.gr g33
  refine k32 _ _ ⟨L3, L5⟩ ?_
  try clear k32 K32
  simp only [p1, p2, p3, p4]
  refine ord_eff rfl rfl (fun K35 k35 => ?_)
  have kq37 := g3.kp.trans (g5.kp.trans (g7.kp.trans (g11.kp.trans (gd31.kp.trans g33.kp))))
  replace ha := ha.kp kq37
  refine eff_call (some 14) rfl (by kernel_rfl) (mul_i ha.num h33 (by omega)) ?_
  rintro e36 w36 ⟨⟨x36, y36, rfl, h36⟩, g36⟩
  refine ⟨_, rfl, ?_⟩
  replace hB := Gr.trans hB g36
  replace L3 := L3.gr g36
  replace L5 := L5.gr g36
  refine k35 _ _ ⟨L3, L5⟩ ?_
  try clear k35 K35
  simp only [p1, p2, p3, p4]
  refine ord_eff rfl rfl (fun K38 k38 => ?_)
  replace ha := ha.kp g36.kp
  refine eff_call (some 16) rfl (by kernel_rfl) (den_i ha) ?_
  rintro e39 w39 ⟨⟨x39, y39, rfl, h39⟩, g39⟩
  refine ⟨_, rfl, ?_⟩
  replace hB := Gr.trans hB g39
  replace L3 := L3.gr g39
  replace L5 := L5.gr g39
  refine k38 _ _ ⟨L3, L5⟩ ?_
  try clear k38 K38
  simp only [p1, p2, p3, p4]
  refine ord_eff rfl rfl (fun K40 k40 => ?_)
  have kq42 := g33.kp.trans (g36.kp.trans g39.kp)
  replace hb := hb.kp kq42
  refine eff_call (some 19) rfl (by kernel_rfl) (mul_i h39 hb.num (by omega)) ?_
  rintro e41 w41 ⟨⟨x41, y41, rfl, h41⟩, g41⟩
  refine ⟨_, rfl, ?_⟩
  replace hB := Gr.trans hB g41
  replace L3 := L3.gr g41
  replace L5 := L5.gr g41
  refine k40 _ _ ⟨L3, L5⟩ ?_
  try clear k40 K40
  simp only [p1, p2, p3, p4]
  refine ord_eff rfl rfl (fun K43 k43 => ?_)
  have kq45 := g39.kp.trans g41.kp
  replace h36 := h36.kp kq45
  refine eff_call (some 20) rfl (by kernel_rfl) (reduced_i ((k + m)) h36 h41 (Int.mul_pos (Int.natCast_pos.2 a.den_pos) h0) (by omega) (by omega) (by omega) (by omega)) ?_
  rintro e44 w44 ⟨⟨p44, q44, r44, s44, rfl, h44⟩, g44⟩
  refine ⟨_, rfl, ?_⟩
  replace hB := Gr.trans hB g44
  replace L3 := L3.gr g44
  replace L5 := L5.gr g44
  refine k43 _ _ ⟨L3, L5⟩ ?_
  try clear k43 K43
  simp only [p1, p2, p3, p4]
  refine ord_eff rfl rfl (fun K46 k46 => ?_)
  replace L7 := L7.gr (g11.trans (gd31.trans (g33.trans (g36.trans (g39.trans (g41.trans g44))))))
  refine eff_store 31 _ _ b7 0 (.agg #[p44, q44, r44, s44]) [p44, q44, r44, s44] _ #[p44, q44, r44, s44] _ rfl rfl rfl rfl rfl L7 (by kernel_rfl) (Nat.le_of_ble_eq_true rfl) ⟨h44.one0, h44.one1, h44.one2, h44.one3, trivial⟩ (by kernel_rfl) (fun w47 st47 N47 => ?_)
  have kp47 := st47.kp L7 (by decide)
  replace hB := st47.gr hB q7
  replace L7 := N47
  replace L3 := st47.lc L3 ne3_7
  replace L5 := st47.lc L5 ne5_7
  refine k46 _ _ ⟨L3, L5⟩ ?_
  try clear k46 K46
  refine ord_pure (some 5) (.int .i64 0) rfl rfl rfl (fun w' hS => (rvk (by kernel_rfl))) ?_
  simp only [p1, p2, p3, p4]
  refine ord_nil ?_
  refine k13 _ _ ?_
  try clear k13 K13
  refine wp_ret ?_
  refine bodyPost_ret (v := (.tuple #[(.agg #[p44, q44, r44, s44]), (.int .i64 0)])) (ret_cell_tmp' _ _ _ rfl rfl L7 (by kernel_rfl) rfl) rfl ⟨?_, hB⟩
  replace h44 := h44.kp kp47
  exact ⟨_, _, _, _, rfl, by rw [← rat_div]; exact h44⟩

set_option maxRecDepth 100000 in
set_option maxHeartbeats 1000000 in
theorem rcomp_tt {k m : Nat} {u0 u1 u2 u3 v0 v1 v2 v3 : Value} {a b : Rat} {w : World} (ha : IsRat w k u0 u1 u2 u3 a) (hb : IsRat w m v0 v1 v2 v3 b) (_hk : k + m ≤ 100000) (wa : a.den = 1) (wb : b.den = 1) :
    Calls Tryd.prog 53 #[(.agg #[u0, u1, u2, u3]), (.agg #[v0, v1, v2, v3])] w fun e w' => e = .returned (.int .i64 (rcmp a b)) ∧ Gr w w' := by
  have hka := ha.big
  have hkb := hb.big
  go_enter Tryd.func53, Tryd.ntmps53
  have hB := Gr.refl w
  refine wp_seq_k (fun K1 k1 => ?_)
  refine wp_region ?_
  simp only [List.size_toArray, List.length_cons, List.length_nil, Nat.reduceAdd, List.range, List.range.loop]
  refine sq_eff rfl (by kernel_rfl) (fun K2 k2 => ?_)
  refine eff_box 31 _ (.agg #[u0, u1, u2, u3]) #[u0, u1, u2, u3] (some 2) rfl rfl rfl rfl (fun b3 w3 g3 L3 q3 => ?_)
  replace q3 := Nat.le_trans (Below.size hB) q3
  replace hB := Gr.trans hB g3
  refine k2 _ _ ?_
  try clear k2 K2
  simp only [p1, p2, p3, p4]
  refine sq_eff rfl (by kernel_rfl) (fun K4 k4 => ?_)
  refine eff_box 31 _ (.agg #[v0, v1, v2, v3]) #[v0, v1, v2, v3] (some 3) rfl rfl rfl rfl (fun b5 w5 g5 L5 q5 => ?_)
  have ne3_5 := L3.ne q5
  replace q5 := Nat.le_trans (Below.size hB) q5
  replace hB := Gr.trans hB g5
  refine k4 _ _ ?_
  try clear k4 K4
  simp only [p1, p2, p3, p4]
  refine sq_val (some 4) (.int .i64 0) rfl rfl (by kernel_rfl) (rvk (by kernel_rfl)) ?_
  simp only [p1, p2, p3, p4]
  refine sq_nil ?_
  refine k1 _ _ ?_
  try clear k1 K1
  refine wp_seq_k (fun K6 k6 => ?_)
  refine wp_seq_k (fun K7 k7 => ?_)
  refine wp_region ?_
  simp only [List.size_toArray, List.length_cons, List.length_nil, Nat.reduceAdd, List.range, List.range.loop]
  replace L3 := L3.gr g5
  refine sq_val (some 5) (.agg #[u0, u1, u2, u3]) rfl rfl (by kernel_rfl) (rv_load 31 _ b3 0 _ _ [u0, u1, u2, u3] rfl rfl L3 rfl (by kernel_rfl)) ?_
  simp only [p1, p2, p3, p4]
  refine sq_eff rfl (by kernel_rfl) (fun K8 k8 => ?_)
  have kq10 := g3.kp.trans g5.kp
  replace ha := ha.kp kq10
  refine eff_call (some 6) rfl (by kernel_rfl) (whole_t ha (by omega) wa) ?_
  rintro e9 w9 ⟨rfl, g9⟩
  refine ⟨_, rfl, ?_⟩
  replace hB := Gr.trans hB g9
  refine k8 _ _ ?_
  try clear k8 K8
  simp only [p1, p2, p3, p4]
  refine sq_val (some 7) (.bool true) rfl rfl (by kernel_rfl) (rvk (by kernel_rfl)) ?_
  simp only [p1, p2, p3, p4]
  replace L5 := L5.gr g9
  refine sq_val (some 8) (.agg #[v0, v1, v2, v3]) rfl rfl (by kernel_rfl) (rv_load 31 _ b5 0 _ _ [v0, v1, v2, v3] rfl rfl L5 rfl (by kernel_rfl)) ?_
  simp only [p1, p2, p3, p4]
  refine sq_eff rfl (by kernel_rfl) (fun K11 k11 => ?_)
  have kq13 := g3.kp.trans (g5.kp.trans g9.kp)
  replace hb := hb.kp kq13
  refine eff_call (some 9) rfl (by kernel_rfl) (whole_t hb (by omega) wb) ?_
  rintro e12 w12 ⟨rfl, g12⟩
  refine ⟨_, rfl, ?_⟩
  replace hB := Gr.trans hB g12
  refine k11 _ _ ?_
  try clear k11 K11
  simp only [p1, p2, p3, p4]
  refine sq_val (some 10) (.bool true) rfl rfl (by kernel_rfl) (rvk (by kernel_rfl)) ?_
  simp only [p1, p2, p3, p4]
  refine sq_nil ?_
  refine k7 _ _ ?_
  try clear k7 K7
  refine wp_cond_true rfl ?_
  refine wp_seq_k (fun K14 k14 => ?_)
  refine wp_region ?_
  simp only [List.size_toArray, List.length_cons, List.length_nil, Nat.reduceAdd, List.range, List.range.loop]
  refine sq_val (some 11) (.pointer (some ⟨b3, 0, none⟩)) rfl rfl (by kernel_rfl) (rvk (by kernel_rfl)) ?_
  simp only [p1, p2, p3, p4]
  replace L3 := L3.gr (g9.trans g12)
  refine sq_val (some 12) (.agg #[u0, u1]) rfl rfl (by kernel_rfl) (rv_load 29 _ b3 0 _ _ [u0, u1] rfl rfl L3 rfl (by kernel_rfl)) ?_
  simp only [p1, p2, p3, p4]
  refine sq_val (some 13) (.pointer (some ⟨b5, 0, none⟩)) rfl rfl (by kernel_rfl) (rvk (by kernel_rfl)) ?_
  simp only [p1, p2, p3, p4]
  replace L5 := L5.gr g12
  refine sq_val (some 14) (.agg #[v0, v1]) rfl rfl (by kernel_rfl) (rv_load 29 _ b5 0 _ _ [v0, v1] rfl rfl L5 rfl (by kernel_rfl)) ?_
  simp only [p1, p2, p3, p4]
  refine sq_eff rfl (by kernel_rfl) (fun K15 k15 => ?_)
  have kq17 := g9.kp.trans g12.kp
  replace ha := ha.kp kq17
  replace hb := hb.kp g12.kp
  refine eff_call (some 15) rfl (by kernel_rfl) (compare_i ha.num hb.num (by omega) (by omega)) ?_
  rintro e16 w16 ⟨rfl, g16⟩
  refine ⟨_, rfl, ?_⟩
  replace hB := Gr.trans hB g16
  refine k15 _ _ ?_
  try clear k15 K15
  simp only [p1, p2, p3, p4]
  refine sq_val (some 4) (.int .i64 (sgn (a.num - b.num))) rfl rfl (by kernel_rfl) (rvk (by kernel_rfl)) ?_
  simp only [p1, p2, p3, p4]
  refine sq_nil ?_
  refine k14 _ _ ?_
  try clear k14 K14
  refine wp_ret ?_
  simp only [Exit.then]
  refine bodyPost_ret (v := (.int .i64 (sgn (a.num - b.num)))) (ret_tmp rfl rfl) rfl ⟨?_, hB⟩
  exact by rw [rcmp_int wa wb]

set_option maxRecDepth 100000 in
set_option maxHeartbeats 1000000 in
theorem rcomp_tf {k m : Nat} {u0 u1 u2 u3 v0 v1 v2 v3 : Value} {a b : Rat} {w : World} (ha : IsRat w k u0 u1 u2 u3 a) (hb : IsRat w m v0 v1 v2 v3 b) (_hk : k + m ≤ 100000) (wa : a.den = 1) (wb : b.den ≠ 1) :
    Calls Tryd.prog 53 #[(.agg #[u0, u1, u2, u3]), (.agg #[v0, v1, v2, v3])] w fun e w' => e = .returned (.int .i64 (rcmp a b)) ∧ Gr w w' := by
  have hka := ha.big
  have hkb := hb.big
  go_enter Tryd.func53, Tryd.ntmps53
  have hB := Gr.refl w
  refine wp_seq_k (fun K1 k1 => ?_)
  refine wp_region ?_
  simp only [List.size_toArray, List.length_cons, List.length_nil, Nat.reduceAdd, List.range, List.range.loop]
  refine sq_eff rfl (by kernel_rfl) (fun K2 k2 => ?_)
  refine eff_box 31 _ (.agg #[u0, u1, u2, u3]) #[u0, u1, u2, u3] (some 2) rfl rfl rfl rfl (fun b3 w3 g3 L3 q3 => ?_)
  replace q3 := Nat.le_trans (Below.size hB) q3
  replace hB := Gr.trans hB g3
  refine k2 _ _ ?_
  try clear k2 K2
  simp only [p1, p2, p3, p4]
  refine sq_eff rfl (by kernel_rfl) (fun K4 k4 => ?_)
  refine eff_box 31 _ (.agg #[v0, v1, v2, v3]) #[v0, v1, v2, v3] (some 3) rfl rfl rfl rfl (fun b5 w5 g5 L5 q5 => ?_)
  have ne3_5 := L3.ne q5
  replace q5 := Nat.le_trans (Below.size hB) q5
  replace hB := Gr.trans hB g5
  refine k4 _ _ ?_
  try clear k4 K4
  simp only [p1, p2, p3, p4]
  refine sq_val (some 4) (.int .i64 0) rfl rfl (by kernel_rfl) (rvk (by kernel_rfl)) ?_
  simp only [p1, p2, p3, p4]
  refine sq_nil ?_
  refine k1 _ _ ?_
  try clear k1 K1
  refine wp_seq_k (fun K6 k6 => ?_)
  refine wp_seq_k (fun K7 k7 => ?_)
  refine wp_region ?_
  simp only [List.size_toArray, List.length_cons, List.length_nil, Nat.reduceAdd, List.range, List.range.loop]
  replace L3 := L3.gr g5
  refine sq_val (some 5) (.agg #[u0, u1, u2, u3]) rfl rfl (by kernel_rfl) (rv_load 31 _ b3 0 _ _ [u0, u1, u2, u3] rfl rfl L3 rfl (by kernel_rfl)) ?_
  simp only [p1, p2, p3, p4]
  refine sq_eff rfl (by kernel_rfl) (fun K8 k8 => ?_)
  have kq10 := g3.kp.trans g5.kp
  replace ha := ha.kp kq10
  refine eff_call (some 6) rfl (by kernel_rfl) (whole_t ha (by omega) wa) ?_
  rintro e9 w9 ⟨rfl, g9⟩
  refine ⟨_, rfl, ?_⟩
  replace hB := Gr.trans hB g9
  refine k8 _ _ ?_
  try clear k8 K8
  simp only [p1, p2, p3, p4]
  refine sq_val (some 7) (.bool true) rfl rfl (by kernel_rfl) (rvk (by kernel_rfl)) ?_
  simp only [p1, p2, p3, p4]
  replace L5 := L5.gr g9
  refine sq_val (some 8) (.agg #[v0, v1, v2, v3]) rfl rfl (by kernel_rfl) (rv_load 31 _ b5 0 _ _ [v0, v1, v2, v3] rfl rfl L5 rfl (by kernel_rfl)) ?_
  simp only [p1, p2, p3, p4]
  refine sq_eff rfl (by kernel_rfl) (fun K11 k11 => ?_)
  have kq13 := g3.kp.trans (g5.kp.trans g9.kp)
  replace hb := hb.kp kq13
  refine eff_call (some 9) rfl (by kernel_rfl) (whole_f hb (by omega) wb) ?_
  rintro e12 w12 ⟨rfl, g12⟩
  refine ⟨_, rfl, ?_⟩
  replace hB := Gr.trans hB g12
  refine k11 _ _ ?_
  try clear k11 K11
  simp only [p1, p2, p3, p4]
  refine sq_val (some 10) (.bool false) rfl rfl (by kernel_rfl) (rvk (by kernel_rfl)) ?_
  simp only [p1, p2, p3, p4]
  refine sq_nil ?_
  refine k7 _ _ ?_
  try clear k7 K7
  refine wp_cond_false rfl ?_
  refine wp_skip ?_
  refine k6 _ _ ?_
  try clear k6 K6
  refine wp_seq_k (fun K14 k14 => ?_)
  have gd30 := Gr.drew w12
  replace hB := Gr.trans hB gd30
  replace L3 := L3.gr (g9.trans (g12.trans gd30))
  replace L5 := L5.gr (g12.trans gd30)
  refine wp_region_ord (fun w' => Lc w' b3 #[u0, u1, u2, u3] 31 ∧ Lc w' b5 #[v0, v1, v2, v3] 31) [(true, 0), (true, 1), (true, 2), (true, 5), (true, 6), (true, 7), (false, 3), (false, 4), (false, 8), (false, 9), (false, 10), (true, 11)] (by kernel_rfl) (by kernel_rfl) (by kernel_rfl) (by decide) (fun _ _ _ _ _ h => h) ⟨L3, L5⟩ ?_
  refine ord_pure (some 16) (.pointer (some ⟨b3, 0, none⟩)) rfl rfl rfl (fun w' hS => (rvk (by kernel_rfl))) ?_
  simp only [p1, p2, p3, p4]
  refine ord_pure (some 17) (.agg #[u0, u1]) rfl rfl rfl (fun w' hS => (rv_load 29 _ b3 0 _ _ [u0, u1] rfl rfl hS.1 rfl (by kernel_rfl))) ?_
  simp only [p1, p2, p3, p4]
  refine ord_pure (some 18) (.agg #[v0, v1, v2, v3]) rfl rfl rfl (fun w' hS => (rv_load 31 _ b5 0 _ _ [v0, v1, v2, v3] rfl rfl hS.2 rfl (by kernel_rfl))) ?_
  simp only [p1, p2, p3, p4]
  refine ord_pure (some 21) (.pointer (some ⟨b5, 0, none⟩)) rfl rfl rfl (fun w' hS => (rvk (by kernel_rfl))) ?_
  simp only [p1, p2, p3, p4]
  refine ord_pure (some 22) (.agg #[v0, v1]) rfl rfl rfl (fun w' hS => (rv_load 29 _ b5 0 _ _ [v0, v1] rfl rfl hS.2 rfl (by kernel_rfl))) ?_
  simp only [p1, p2, p3, p4]
  refine ord_pure (some 23) (.agg #[u0, u1, u2, u3]) rfl rfl rfl (fun w' hS => (rv_load 31 _ b3 0 _ _ [u0, u1, u2, u3] rfl rfl hS.1 rfl (by kernel_rfl))) ?_
  simp only [p1, p2, p3, p4]
  refine ord_eff rfl rfl (fun K31 k31 => ?_)
  have kq33 := g12.kp.trans gd30.kp
  replace hb := hb.kp kq33
  refine eff_call (some 19) rfl (by kernel_rfl) (den_i hb) ?_
  rintro e32 w32 ⟨⟨x32, y32, rfl, h32⟩, g32⟩
  refine ⟨_, rfl, ?_⟩
  replace hB := Gr.trans hB g32
  replace L3 := L3.gr g32
  replace L5 := L5.gr g32
  refine k31 _ _ ⟨L3, L5⟩ ?_
  try clear k31 K31
  simp only [p1, p2, p3, p4]
  refine ord_eff rfl rfl (fun K34 k34 => ?_)
  have kq36 := g9.kp.trans (g12.kp.trans (gd30.kp.trans g32.kp))
  replace ha := ha.kp kq36
  refine eff_call (some 20) rfl (by kernel_rfl) (mul_i ha.num h32 (by omega)) ?_
  rintro e35 w35 ⟨⟨x35, y35, rfl, h35⟩, g35⟩
  refine ⟨_, rfl, ?_⟩
  replace hB := Gr.trans hB g35
  replace L3 := L3.gr g35
  replace L5 := L5.gr g35
  refine k34 _ _ ⟨L3, L5⟩ ?_
  try clear k34 K34
  simp only [p1, p2, p3, p4]
  refine ord_eff rfl rfl (fun K37 k37 => ?_)
  replace ha := ha.kp g35.kp
  refine eff_call (some 24) rfl (by kernel_rfl) (den_i ha) ?_
  rintro e38 w38 ⟨⟨x38, y38, rfl, h38⟩, g38⟩
  refine ⟨_, rfl, ?_⟩
  replace hB := Gr.trans hB g38
  replace L3 := L3.gr g38
  replace L5 := L5.gr g38
  refine k37 _ _ ⟨L3, L5⟩ ?_
  try clear k37 K37
  simp only [p1, p2, p3, p4]
  refine ord_eff rfl rfl (fun K39 k39 => ?_)
  have kq41 := g32.kp.trans (g35.kp.trans g38.kp)
  replace hb := hb.kp kq41
  refine eff_call (some 25) rfl (by kernel_rfl) (mul_i hb.num h38 (by omega)) ?_
  rintro e40 w40 ⟨⟨x40, y40, rfl, h40⟩, g40⟩
  refine ⟨_, rfl, ?_⟩
  replace hB := Gr.trans hB g40
  replace L3 := L3.gr g40
  replace L5 := L5.gr g40
  refine k39 _ _ ⟨L3, L5⟩ ?_
  try clear k39 K39
  simp only [p1, p2, p3, p4]
  refine ord_eff rfl rfl (fun K42 k42 => ?_)
  have kq44 := g38.kp.trans g40.kp
  replace h35 := h35.kp kq44
  refine eff_call (some 26) rfl (by kernel_rfl) (compare_i h35 h40 (by omega) (by omega)) ?_
  rintro e43 w43 ⟨rfl, g43⟩
  refine ⟨_, rfl, ?_⟩
  replace hB := Gr.trans hB g43
  replace L3 := L3.gr g43
  replace L5 := L5.gr g43
  refine k42 _ _ ⟨L3, L5⟩ ?_
  try clear k42 K42
  simp only [p1, p2, p3, p4]
  refine ord_pure (some 4) (.int .i64 (sgn ((a.num * (b.den : Int)) - (b.num * (a.den : Int))))) rfl rfl rfl (fun w' hS => (rvk (by kernel_rfl))) ?_
  simp only [p1, p2, p3, p4]
  refine ord_nil ?_
  refine k14 _ _ ?_
  try clear k14 K14
  refine wp_ret ?_
  refine bodyPost_ret (v := (.int .i64 (sgn ((a.num * (b.den : Int)) - (b.num * (a.den : Int)))))) (ret_tmp rfl rfl) rfl ⟨?_, hB⟩
  exact rfl

set_option maxRecDepth 100000 in
set_option maxHeartbeats 1000000 in
theorem rcomp_f {k m : Nat} {u0 u1 u2 u3 v0 v1 v2 v3 : Value} {a b : Rat} {w : World} (ha : IsRat w k u0 u1 u2 u3 a) (hb : IsRat w m v0 v1 v2 v3 b) (_hk : k + m ≤ 100000) (wa : a.den ≠ 1) :
    Calls Tryd.prog 53 #[(.agg #[u0, u1, u2, u3]), (.agg #[v0, v1, v2, v3])] w fun e w' => e = .returned (.int .i64 (rcmp a b)) ∧ Gr w w' := by
  have hka := ha.big
  have hkb := hb.big
  go_enter Tryd.func53, Tryd.ntmps53
  have hB := Gr.refl w
  refine wp_seq_k (fun K1 k1 => ?_)
  refine wp_region ?_
  simp only [List.size_toArray, List.length_cons, List.length_nil, Nat.reduceAdd, List.range, List.range.loop]
  refine sq_eff rfl (by kernel_rfl) (fun K2 k2 => ?_)
  refine eff_box 31 _ (.agg #[u0, u1, u2, u3]) #[u0, u1, u2, u3] (some 2) rfl rfl rfl rfl (fun b3 w3 g3 L3 q3 => ?_)
  replace q3 := Nat.le_trans (Below.size hB) q3
  replace hB := Gr.trans hB g3
  refine k2 _ _ ?_
  try clear k2 K2
  simp only [p1, p2, p3, p4]
  refine sq_eff rfl (by kernel_rfl) (fun K4 k4 => ?_)
  refine eff_box 31 _ (.agg #[v0, v1, v2, v3]) #[v0, v1, v2, v3] (some 3) rfl rfl rfl rfl (fun b5 w5 g5 L5 q5 => ?_)
  have ne3_5 := L3.ne q5
  replace q5 := Nat.le_trans (Below.size hB) q5
  replace hB := Gr.trans hB g5
  refine k4 _ _ ?_
  try clear k4 K4
  simp only [p1, p2, p3, p4]
  refine sq_val (some 4) (.int .i64 0) rfl rfl (by kernel_rfl) (rvk (by kernel_rfl)) ?_
  simp only [p1, p2, p3, p4]
  refine sq_nil ?_
  refine k1 _ _ ?_
  try clear k1 K1
  refine wp_seq_k (fun K6 k6 => ?_)
  refine wp_seq_k (fun K7 k7 => ?_)
  refine wp_region ?_
  simp only [List.size_toArray, List.length_cons, List.length_nil, Nat.reduceAdd, List.range, List.range.loop]
  replace L3 := L3.gr g5
  refine sq_val (some 5) (.agg #[u0, u1, u2, u3]) rfl rfl (by kernel_rfl) (rv_load 31 _ b3 0 _ _ [u0, u1, u2, u3] rfl rfl L3 rfl (by kernel_rfl)) ?_
  simp only [p1, p2, p3, p4]
  refine sq_eff rfl (by kernel_rfl) (fun K8 k8 => ?_)
  have kq10 := g3.kp.trans g5.kp
  replace ha := ha.kp kq10
  refine eff_call (some 6) rfl (by kernel_rfl) (whole_f ha (by omega) wa) ?_
  rintro e9 w9 ⟨rfl, g9⟩
  refine ⟨_, rfl, ?_⟩
  replace hB := Gr.trans hB g9
  refine k8 _ _ ?_
  try clear k8 K8
  simp only [p1, p2, p3, p4]
  refine sq_val (some 7) (.bool false) rfl rfl (by kernel_rfl) (rvk (by kernel_rfl)) ?_
  simp only [p1, p2, p3, p4]
  refine sq_skip (some 8) rfl rfl (by kernel_rfl) ?_
  simp only [p1, p2, p3, p4]
  refine sq_skip (some 9) rfl rfl (by kernel_rfl) ?_
  simp only [p1, p2, p3, p4]
  refine sq_val (some 10) (.bool false) rfl rfl (by kernel_rfl) (rvk (by kernel_rfl)) ?_
  simp only [p1, p2, p3, p4]
  refine sq_nil ?_
  refine k7 _ _ ?_
  try clear k7 K7
  refine wp_cond_false rfl ?_
  refine wp_skip ?_
  refine k6 _ _ ?_
  try clear k6 K6
  refine wp_seq_k (fun K11 k11 => ?_)
  have gd27 := Gr.drew w9
  replace hB := Gr.trans hB gd27
  replace L3 := L3.gr (g9.trans gd27)
  replace L5 := L5.gr (g9.trans gd27)
  refine wp_region_ord (fun w' => Lc w' b3 #[u0, u1, u2, u3] 31 ∧ Lc w' b5 #[v0, v1, v2, v3] 31) [(true, 0), (true, 1), (true, 2), (true, 5), (true, 6), (true, 7), (false, 3), (false, 4), (false, 8), (false, 9), (false, 10), (true, 11)] (by kernel_rfl) (by kernel_rfl) (by kernel_rfl) (by decide) (fun _ _ _ _ _ h => h) ⟨L3, L5⟩ ?_
  refine ord_pure (some 16) (.pointer (some ⟨b3, 0, none⟩)) rfl rfl rfl (fun w' hS => (rvk (by kernel_rfl))) ?_
  simp only [p1, p2, p3, p4]
  refine ord_pure (some 17) (.agg #[u0, u1]) rfl rfl rfl (fun w' hS => (rv_load 29 _ b3 0 _ _ [u0, u1] rfl rfl hS.1 rfl (by kernel_rfl))) ?_
  simp only [p1, p2, p3, p4]
  refine ord_pure (some 18) (.agg #[v0, v1, v2, v3]) rfl rfl rfl (fun w' hS => (rv_load 31 _ b5 0 _ _ [v0, v1, v2, v3] rfl rfl hS.2 rfl (by kernel_rfl))) ?_
  simp only [p1, p2, p3, p4]
  refine ord_pure (some 21) (.pointer (some ⟨b5, 0, none⟩)) rfl rfl rfl (fun w' hS => (rvk (by kernel_rfl))) ?_
  simp only [p1, p2, p3, p4]
  refine ord_pure (some 22) (.agg #[v0, v1]) rfl rfl rfl (fun w' hS => (rv_load 29 _ b5 0 _ _ [v0, v1] rfl rfl hS.2 rfl (by kernel_rfl))) ?_
  simp only [p1, p2, p3, p4]
  refine ord_pure (some 23) (.agg #[u0, u1, u2, u3]) rfl rfl rfl (fun w' hS => (rv_load 31 _ b3 0 _ _ [u0, u1, u2, u3] rfl rfl hS.1 rfl (by kernel_rfl))) ?_
  simp only [p1, p2, p3, p4]
  refine ord_eff rfl rfl (fun K28 k28 => ?_)
  have kq30 := g3.kp.trans (g5.kp.trans (g9.kp.trans gd27.kp))
  replace hb := hb.kp kq30
  refine eff_call (some 19) rfl (by kernel_rfl) (den_i hb) ?_
  rintro e29 w29 ⟨⟨x29, y29, rfl, h29⟩, g29⟩
  refine ⟨_, rfl, ?_⟩
  replace hB := Gr.trans hB g29
  replace L3 := L3.gr g29
  replace L5 := L5.gr g29
  refine k28 _ _ ⟨L3, L5⟩ ?_
  try clear k28 K28
  simp only [p1, p2, p3, p4]
  refine ord_eff rfl rfl (fun K31 k31 => ?_)
  have kq33 := g9.kp.trans (gd27.kp.trans g29.kp)
  replace ha := ha.kp kq33
  refine eff_call (some 20) rfl (by kernel_rfl) (mul_i ha.num h29 (by omega)) ?_
  rintro e32 w32 ⟨⟨x32, y32, rfl, h32⟩, g32⟩
  refine ⟨_, rfl, ?_⟩
  replace hB := Gr.trans hB g32
  replace L3 := L3.gr g32
  replace L5 := L5.gr g32
  refine k31 _ _ ⟨L3, L5⟩ ?_
  try clear k31 K31
  simp only [p1, p2, p3, p4]
  refine ord_eff rfl rfl (fun K34 k34 => ?_)
  replace ha := ha.kp g32.kp
  refine eff_call (some 24) rfl (by kernel_rfl) (den_i ha) ?_
  rintro e35 w35 ⟨⟨x35, y35, rfl, h35⟩, g35⟩
  refine ⟨_, rfl, ?_⟩
  replace hB := Gr.trans hB g35
  replace L3 := L3.gr g35
  replace L5 := L5.gr g35
  refine k34 _ _ ⟨L3, L5⟩ ?_
  try clear k34 K34
  simp only [p1, p2, p3, p4]
  refine ord_eff rfl rfl (fun K36 k36 => ?_)
  have kq38 := g29.kp.trans (g32.kp.trans g35.kp)
  replace hb := hb.kp kq38
  refine eff_call (some 25) rfl (by kernel_rfl) (mul_i hb.num h35 (by omega)) ?_
  rintro e37 w37 ⟨⟨x37, y37, rfl, h37⟩, g37⟩
  refine ⟨_, rfl, ?_⟩
  replace hB := Gr.trans hB g37
  replace L3 := L3.gr g37
  replace L5 := L5.gr g37
  refine k36 _ _ ⟨L3, L5⟩ ?_
  try clear k36 K36
  simp only [p1, p2, p3, p4]
  refine ord_eff rfl rfl (fun K39 k39 => ?_)
  have kq41 := g35.kp.trans g37.kp
  replace h32 := h32.kp kq41
  refine eff_call (some 26) rfl (by kernel_rfl) (compare_i h32 h37 (by omega) (by omega)) ?_
  rintro e40 w40 ⟨rfl, g40⟩
  refine ⟨_, rfl, ?_⟩
  replace hB := Gr.trans hB g40
  replace L3 := L3.gr g40
  replace L5 := L5.gr g40
  refine k39 _ _ ⟨L3, L5⟩ ?_
  try clear k39 K39
  simp only [p1, p2, p3, p4]
  refine ord_pure (some 4) (.int .i64 (sgn ((a.num * (b.den : Int)) - (b.num * (a.den : Int))))) rfl rfl rfl (fun w' hS => (rvk (by kernel_rfl))) ?_
  simp only [p1, p2, p3, p4]
  refine ord_nil ?_
  refine k11 _ _ ?_
  try clear k11 K11
  refine wp_ret ?_
  refine bodyPost_ret (v := (.int .i64 (sgn ((a.num * (b.den : Int)) - (b.num * (a.den : Int)))))) (ret_tmp rfl rfl) rfl ⟨?_, hB⟩
  exact rfl

theorem compare_r {k m : Nat} {u0 u1 u2 u3 v0 v1 v2 v3 : Value} {a b : Rat} {w : World} (ha : IsRat w k u0 u1 u2 u3 a) (hb : IsRat w m v0 v1 v2 v3 b) (hk : k + m ≤ 100000) :
    Calls Tryd.prog 53 #[.agg #[u0, u1, u2, u3], .agg #[v0, v1, v2, v3]] w fun e w' => e = .returned (.int .i64 (rcmp a b)) ∧ Gr w w' := by
  by_cases wa : a.den = 1
  · by_cases wb : b.den = 1
    · exact rcomp_tt ha hb hk wa wb
    · exact rcomp_tf ha hb hk wa wb
  · exact rcomp_f ha hb hk wa

end Go.Proofs.YtgopfikljndklaaDoor
