/- Printed by a program of the prover's: the texts of rationals and vectors. -/
import Derived.Test.YtgopfikljndklaaDoorNbr
namespace Go.Proofs.YtgopfikljndklaaDoor
open Go.RowKit

set_option maxRecDepth 100000 in
set_option maxHeartbeats 1000000 in
theorem number_w {k : Nat} {u0 u1 u2 u3 : Value} {a : Rat} {w : World} (ha : IsRat w k u0 u1 u2 u3 a) (_hk : k ≤ 800000) (ht : Tab w) (hw : a.den = 1) :
    Calls Tryd.prog 38 #[(.agg #[u0, u1, u2, u3])] w fun e w' => e = .returned (.string ⟨(ratL a).toArray⟩) ∧ Gr w w' := by
  go_enter Tryd.func38, Tryd.ntmps38
  have hB := Gr.refl w
  refine wp_seq_k (fun K1 k1 => ?_)
  refine wp_region ?_
  simp only [List.size_toArray, List.length_cons, List.length_nil, Nat.reduceAdd, List.range, List.range.loop]
  refine sq_eff rfl (by kernel_rfl) (fun K2 k2 => ?_)
  refine eff_box 31 _ (.agg #[u0, u1, u2, u3]) #[u0, u1, u2, u3] (some 1) rfl rfl rfl rfl (fun b3 w3 g3 L3 q3 => ?_)
  replace q3 := Nat.le_trans (Below.size hB) q3
  replace hB := Gr.trans hB g3
  refine k2 _ _ ?_
  try clear k2 K2
  simp only [p1, p2, p3, p4]
  refine sq_val (some 2) (.string ⟨([] : List UInt8).toArray⟩) rfl rfl (by kernel_rfl) (rvk (by kernel_rfl)) ?_
  simp only [p1, p2, p3, p4]
  refine sq_nil ?_
  refine k1 _ _ ?_
  try clear k1 K1
  refine wp_seq_k (fun K4 k4 => ?_)
  refine wp_seq_k (fun K5 k5 => ?_)
  refine wp_region ?_
  simp only [List.size_toArray, List.length_cons, List.length_nil, Nat.reduceAdd, List.range, List.range.loop]
  refine sq_val (some 3) (.agg #[u0, u1, u2, u3]) rfl rfl (by kernel_rfl) (rv_load 31 _ b3 0 _ _ [u0, u1, u2, u3] rfl rfl L3 rfl (by kernel_rfl)) ?_
  simp only [p1, p2, p3, p4]
  refine sq_eff rfl (by kernel_rfl) (fun K6 k6 => ?_)
  replace ha := ha.kp g3.kp
  refine eff_call (some 4) rfl (by kernel_rfl) (whole_t ha (by omega) hw) ?_
  rintro e7 w7 ⟨rfl, g7⟩
  refine ⟨_, rfl, ?_⟩
  replace hB := Gr.trans hB g7
  refine k6 _ _ ?_
  try clear k6 K6
  simp only [p1, p2, p3, p4]
  refine sq_nil ?_
  refine k5 _ _ ?_
  try clear k5 K5
  refine wp_cond_true rfl ?_
  refine wp_seq_k (fun K8 k8 => ?_)
  refine wp_region ?_
  simp only [List.size_toArray, List.length_cons, List.length_nil, Nat.reduceAdd, List.range, List.range.loop]
  refine sq_val (some 5) (.pointer (some ⟨b3, 0, none⟩)) rfl rfl (by kernel_rfl) (rvk (by kernel_rfl)) ?_
  simp only [p1, p2, p3, p4]
  replace L3 := L3.gr g7
  refine sq_val (some 6) (.agg #[u0, u1]) rfl rfl (by kernel_rfl) (rv_load 29 _ b3 0 _ _ [u0, u1] rfl rfl L3 rfl (by kernel_rfl)) ?_
  simp only [p1, p2, p3, p4]
  refine sq_eff rfl (by kernel_rfl) (fun K9 k9 => ?_)
  replace ha := ha.kp g7.kp
  refine eff_call (some 7) rfl (by kernel_rfl) (text_i ha.num (by omega) (ht.gr hB)) ?_
  rintro e10 w10 ⟨rfl, g10⟩
  refine ⟨_, rfl, ?_⟩
  replace hB := Gr.trans hB g10
  refine k9 _ _ ?_
  try clear k9 K9
  simp only [p1, p2, p3, p4]
  refine sq_val (some 2) (.string ⟨(Lib.itoa (a.num) : List UInt8).toArray⟩) rfl rfl (by kernel_rfl) (rvk (by kernel_rfl)) ?_
  simp only [p1, p2, p3, p4]
  refine sq_nil ?_
  refine k8 _ _ ?_
  try clear k8 K8
  refine wp_ret ?_
  simp only [Exit.then]
  refine bodyPost_ret (v := (.string ⟨(Lib.itoa (a.num) : List UInt8).toArray⟩)) (ret_tmp rfl rfl) rfl ⟨?_, hB⟩
  exact (by rw [ratL_w hw])

set_option maxRecDepth 100000 in
set_option maxHeartbeats 1000000 in
theorem number_d {k : Nat} {u0 u1 u2 u3 : Value} {a : Rat} {w : World} (ha : IsRat w k u0 u1 u2 u3 a) (_hk : k ≤ 800000) (ht : Tab w) (hd : IsInt w k u2 u3 (a.den : Int)) (hw : ¬ a.den = 1) :
    Calls Tryd.prog 38 #[(.agg #[u0, u1, u2, u3])] w fun e w' => e = .returned (.string ⟨(ratL a).toArray⟩) ∧ Gr w w' := by
  have hl1 := itoa_len ha.num.sz
  have hl2 := itoa_len hd.sz
  go_enter Tryd.func38, Tryd.ntmps38
  have hB := Gr.refl w
  refine wp_seq_k (fun K1 k1 => ?_)
  refine wp_region ?_
  simp only [List.size_toArray, List.length_cons, List.length_nil, Nat.reduceAdd, List.range, List.range.loop]
  refine sq_eff rfl (by kernel_rfl) (fun K2 k2 => ?_)
  refine eff_box 31 _ (.agg #[u0, u1, u2, u3]) #[u0, u1, u2, u3] (some 1) rfl rfl rfl rfl (fun b3 w3 g3 L3 q3 => ?_)
  replace q3 := Nat.le_trans (Below.size hB) q3
  replace hB := Gr.trans hB g3
  refine k2 _ _ ?_
  try clear k2 K2
  simp only [p1, p2, p3, p4]
  refine sq_val (some 2) (.string ⟨([] : List UInt8).toArray⟩) rfl rfl (by kernel_rfl) (rvk (by kernel_rfl)) ?_
  simp only [p1, p2, p3, p4]
  refine sq_nil ?_
  refine k1 _ _ ?_
  try clear k1 K1
  refine wp_seq_k (fun K4 k4 => ?_)
  refine wp_seq_k (fun K5 k5 => ?_)
  refine wp_region ?_
  simp only [List.size_toArray, List.length_cons, List.length_nil, Nat.reduceAdd, List.range, List.range.loop]
  refine sq_val (some 3) (.agg #[u0, u1, u2, u3]) rfl rfl (by kernel_rfl) (rv_load 31 _ b3 0 _ _ [u0, u1, u2, u3] rfl rfl L3 rfl (by kernel_rfl)) ?_
  simp only [p1, p2, p3, p4]
  refine sq_eff rfl (by kernel_rfl) (fun K6 k6 => ?_)
  replace ha := ha.kp g3.kp
  refine eff_call (some 4) rfl (by kernel_rfl) (whole_f ha (by omega) hw) ?_
  rintro e7 w7 ⟨rfl, g7⟩
  refine ⟨_, rfl, ?_⟩
  replace hB := Gr.trans hB g7
  refine k6 _ _ ?_
  try clear k6 K6
  simp only [p1, p2, p3, p4]
  refine sq_nil ?_
  refine k5 _ _ ?_
  try clear k5 K5
  refine wp_cond_false rfl ?_
  refine wp_skip ?_
  refine k4 _ _ ?_
  try clear k4 K4
  refine wp_seq_k (fun K8 k8 => ?_)
  have gd16 := Gr.drew w7
  replace hB := Gr.trans hB gd16
  replace L3 := L3.gr (g7.trans gd16)
  refine wp_region_ord (fun w' => Lc w' b3 #[u0, u1, u2, u3] 31) [(true, 0), (true, 1), (true, 4), (true, 5), (false, 2), (true, 3), (false, 6), (true, 7), (true, 8)] (by kernel_rfl) (by kernel_rfl) (by kernel_rfl) (by decide) (fun _ _ _ _ _ h => h) L3 ?_
  refine ord_pure (some 8) (.pointer (some ⟨b3, 0, none⟩)) rfl rfl rfl (fun w' hS => (rvk (by kernel_rfl))) ?_
  simp only [p1, p2, p3, p4]
  refine ord_pure (some 9) (.agg #[u0, u1]) rfl rfl rfl (fun w' hS => (rv_load 29 _ b3 0 _ _ [u0, u1] rfl rfl hS rfl (by kernel_rfl))) ?_
  simp only [p1, p2, p3, p4]
  refine ord_pure (some 12) (.pointer (some ⟨b3, 2, none⟩)) rfl rfl rfl (fun w' hS => (rvk (by kernel_rfl))) ?_
  simp only [p1, p2, p3, p4]
  refine ord_pure (some 13) (.agg #[u2, u3]) rfl rfl rfl (fun w' hS => (rv_load 29 _ b3 2 _ _ [u2, u3] rfl rfl hS rfl (by kernel_rfl))) ?_
  simp only [p1, p2, p3, p4]
  refine ord_eff rfl rfl (fun K17 k17 => ?_)
  have kq19 := g7.kp.trans gd16.kp
  replace ha := ha.kp kq19
  refine eff_call (some 10) rfl (by kernel_rfl) (text_i ha.num (by omega) (ht.gr hB)) ?_
  rintro e18 w18 ⟨rfl, g18⟩
  refine ⟨_, rfl, ?_⟩
  replace hB := Gr.trans hB g18
  replace L3 := L3.gr g18
  refine k17 _ _ L3 ?_
  try clear k17 K17
  simp only [p1, p2, p3, p4]
  refine ord_pure (some 11) (.string ⟨((Lib.itoa (a.num)) ++ ([47]) : List UInt8).toArray⟩) rfl rfl rfl (fun w' hS => (rv_cat 9 9 _ _ (Lib.itoa (a.num)) ([47]) rfl rfl rfl (by simp only [List.length_cons, List.length_nil]; omega))) ?_
  simp only [p1, p2, p3, p4]
  refine ord_eff rfl rfl (fun K20 k20 => ?_)
  have kq22 := g3.kp.trans (g7.kp.trans (gd16.kp.trans g18.kp))
  replace hd := hd.kp kq22
  refine eff_call (some 14) rfl (by kernel_rfl) (text_i hd (by omega) (ht.gr hB)) ?_
  rintro e21 w21 ⟨rfl, g21⟩
  refine ⟨_, rfl, ?_⟩
  replace hB := Gr.trans hB g21
  replace L3 := L3.gr g21
  refine k20 _ _ L3 ?_
  try clear k20 K20
  simp only [p1, p2, p3, p4]
  refine ord_pure (some 15) (.string ⟨(((Lib.itoa (a.num)) ++ ([47])) ++ (Lib.itoa ((a.den : Int))) : List UInt8).toArray⟩) rfl rfl rfl (fun w' hS => (rv_cat 9 9 _ _ ((Lib.itoa (a.num)) ++ ([47])) (Lib.itoa ((a.den : Int))) rfl rfl rfl (by simp only [List.length_append, List.length_cons, List.length_nil]; omega))) ?_
  simp only [p1, p2, p3, p4]
  refine ord_pure (some 2) (.string ⟨(((Lib.itoa (a.num)) ++ ([47])) ++ (Lib.itoa ((a.den : Int))) : List UInt8).toArray⟩) rfl rfl rfl (fun w' hS => (rvk (by kernel_rfl))) ?_
  simp only [p1, p2, p3, p4]
  refine ord_nil ?_
  refine k8 _ _ ?_
  try clear k8 K8
  refine wp_ret ?_
  refine bodyPost_ret (v := (.string ⟨(((Lib.itoa (a.num)) ++ ([47])) ++ (Lib.itoa ((a.den : Int))) : List UInt8).toArray⟩)) (ret_tmp rfl rfl) rfl ⟨?_, hB⟩
  exact (by rw [ratL_f hw])

theorem number_r {k : Nat} {u0 u1 u2 u3 : Value} {a : Rat} {w : World} (ha : IsRat w k u0 u1 u2 u3 a) (hk : k ≤ 800000) (ht : Tab w) :
    Calls Tryd.prog 38 #[.agg #[u0, u1, u2, u3]] w fun e w' => e = .returned (.string ⟨(ratL a).toArray⟩) ∧ Gr w w' := by
  by_cases hw : a.den = 1
  · exact number_w ha hk ht hw
  · obtain ⟨D, h2, h3⟩ := ha.den
    rcases h3 with h3 | ⟨_, h4⟩
    · subst h3; exact number_d ha hk ht h2 hw
    · exact absurd h4 hw

set_option maxRecDepth 100000 in
set_option maxHeartbeats 1000000 in
theorem vpoint_v {k : Nat} {uaa0 uaa1 uaa2 uaa3 uab0 uab1 uab2 uab3 uac0 uac1 uac2 uac3 : Value} {a1 a2 a3 : Rat} {w : World} (hua1 : IsRat w k uaa0 uaa1 uaa2 uaa3 a1) (hua2 : IsRat w k uab0 uab1 uab2 uab3 a2) (hua3 : IsRat w k uac0 uac1 uac2 uac3 a3) (_hk : k ≤ 25000) (ht : Tab w) :
    Calls Tryd.prog 41 #[(.agg #[uaa0, uaa1, uaa2, uaa3, uab0, uab1, uab2, uab3, uac0, uac1, uac2, uac3])] w fun e w' => e = .returned (.agg #[.string ⟨(ratL (a1)).toArray⟩, .string ⟨(ratL (a2)).toArray⟩, .string ⟨(ratL (a3)).toArray⟩]) ∧ Gr w w' := by
  go_enter Tryd.func41, Tryd.ntmps41
  have hB := Gr.refl w
  refine wp_seq_k (fun K1 k1 => ?_)
  refine wp_region ?_
  simp only [List.size_toArray, List.length_cons, List.length_nil, Nat.reduceAdd, List.range, List.range.loop]
  refine sq_eff rfl (by kernel_rfl) (fun K2 k2 => ?_)
  refine eff_box 33 _ (.agg #[uaa0, uaa1, uaa2, uaa3, uab0, uab1, uab2, uab3, uac0, uac1, uac2, uac3]) #[uaa0, uaa1, uaa2, uaa3, uab0, uab1, uab2, uab3, uac0, uac1, uac2, uac3] (some 1) rfl rfl rfl rfl (fun b3 w3 g3 L3 q3 => ?_)
  replace q3 := Nat.le_trans (Below.size hB) q3
  replace hB := Gr.trans hB g3
  refine k2 _ _ ?_
  try clear k2 K2
  simp only [p1, p2, p3, p4]
  refine sq_eff rfl (by kernel_rfl) (fun K4 k4 => ?_)
  refine eff_alloc 85 (.agg #[(.string ⟨([] : List UInt8).toArray⟩), (.string ⟨([] : List UInt8).toArray⟩), (.string ⟨([] : List UInt8).toArray⟩)]) #[(.string ⟨([] : List UInt8).toArray⟩), (.string ⟨([] : List UInt8).toArray⟩), (.string ⟨([] : List UInt8).toArray⟩)] (some 2) rfl rfl (by kernel_rfl) rfl (fun b5 w5 g5 L5 q5 => ?_)
  have ne3_5 := L3.ne q5
  replace q5 := Nat.le_trans (Below.size hB) q5
  replace hB := Gr.trans hB g5
  refine k4 _ _ ?_
  try clear k4 K4
  simp only [p1, p2, p3, p4]
  refine sq_nil ?_
  refine k1 _ _ ?_
  try clear k1 K1
  refine wp_seq_k (fun K6 k6 => ?_)
  refine wp_region ?_
  simp only [List.size_toArray, List.length_cons, List.length_nil, Nat.reduceAdd, List.range, List.range.loop]
  refine sq_eff rfl (by kernel_rfl) (fun K7 k7 => ?_)
  refine eff_alloc 85 (.agg #[(.string ⟨([] : List UInt8).toArray⟩), (.string ⟨([] : List UInt8).toArray⟩), (.string ⟨([] : List UInt8).toArray⟩)]) #[(.string ⟨([] : List UInt8).toArray⟩), (.string ⟨([] : List UInt8).toArray⟩), (.string ⟨([] : List UInt8).toArray⟩)] (some 3) rfl rfl (by kernel_rfl) rfl (fun b8 w8 g8 L8 q8 => ?_)
  replace L3 := L3.gr g5
  have ne3_8 := L3.ne q8
  have ne5_8 := L5.ne q8
  replace q8 := Nat.le_trans (Below.size hB) q8
  replace hB := Gr.trans hB g8
  refine k7 _ _ ?_
  try clear k7 K7
  simp only [p1, p2, p3, p4]
  refine sq_nil ?_
  refine k6 _ _ ?_
  try clear k6 K6
  refine wp_seq_k (fun K9 k9 => ?_)
  refine wp_seq_k (fun K10 k10 => ?_)
  refine wp_region ?_
  simp only [List.size_toArray, List.length_cons, List.length_nil, Nat.reduceAdd, List.range, List.range.loop]
  replace L3 := L3.gr g8
  refine sq_val (some 6) (.agg #[uaa0, uaa1, uaa2, uaa3, uab0, uab1, uab2, uab3, uac0, uac1, uac2, uac3]) rfl rfl (by kernel_rfl) (rv_load 33 _ b3 0 _ _ [uaa0, uaa1, uaa2, uaa3, uab0, uab1, uab2, uab3, uac0, uac1, uac2, uac3] rfl rfl L3 rfl (by kernel_rfl)) ?_
  simp only [p1, p2, p3, p4]
  refine sq_val (some 7) (.int .i64 0) rfl rfl (by kernel_rfl) (rvk (by kernel_rfl)) ?_
  simp only [p1, p2, p3, p4]
  refine sq_nil ?_
  refine k10 _ _ ?_
  try clear k10 K10
  refine wp_block ?_
  refine wp_loop_rounds 4 ?_
  show Code.wp _ _ _ _ _
  refine wp_seq_k (fun K11 k11 => ?_)
  refine wp_region ?_
  simp only [List.size_toArray, List.length_cons, List.length_nil, Nat.reduceAdd, List.range, List.range.loop]
  refine sq_val (some 8) (.bool true) rfl rfl (by kernel_rfl) (rvk (by kernel_rfl)) ?_
  simp only [p1, p2, p3, p4]
  refine sq_nil ?_
  refine k11 _ _ ?_
  try clear k11 K11
  refine wp_seq_k (fun K12 k12 => ?_)
  refine wp_cond_true rfl ?_
  refine wp_skip ?_
  refine k12 _ _ ?_
  try clear k12 K12
  refine wp_seq_k (fun K13 k13 => ?_)
  refine wp_block ?_
  refine wp_seq_k (fun K14 k14 => ?_)
  refine wp_region ?_
  simp only [List.size_toArray, List.length_cons, List.length_nil, Nat.reduceAdd, List.range, List.range.loop]
  refine sq_val (some 9) (.int .i64 0) rfl rfl (by kernel_rfl) (rvk (by kernel_rfl)) ?_
  simp only [p1, p2, p3, p4]
  refine sq_val (some 10) (.agg #[uaa0, uaa1, uaa2, uaa3]) rfl rfl (by kernel_rfl) (rvk (by kernel_rfl)) ?_
  simp only [p1, p2, p3, p4]
  refine sq_eff rfl (by kernel_rfl) (fun K15 k15 => ?_)
  refine eff_alloc 31 (.agg #[(.bool false), (.slice none 0 0), (.bool false), (.slice none 0 0)]) #[(.bool false), (.slice none 0 0), (.bool false), (.slice none 0 0)] (some 5) rfl rfl (by kernel_rfl) rfl (fun b16 w16 g16 L16 q16 => ?_)
  have ne3_16 := L3.ne q16
  replace L5 := L5.gr g8
  have ne5_16 := L5.ne q16
  have ne8_16 := L8.ne q16
  replace q16 := Nat.le_trans (Below.size hB) q16
  replace hB := Gr.trans hB g16
  refine k15 _ _ ?_
  try clear k15 K15
  simp only [p1, p2, p3, p4]
  refine sq_val (some 4) (.int .i64 0) rfl rfl (by kernel_rfl) (rvk (by kernel_rfl)) ?_
  simp only [p1, p2, p3, p4]
  refine sq_eff rfl (by kernel_rfl) (fun K17 k17 => ?_)
  refine eff_store 31 _ _ b16 0 (.agg #[uaa0, uaa1, uaa2, uaa3]) [uaa0, uaa1, uaa2, uaa3] _ #[uaa0, uaa1, uaa2, uaa3] _ rfl rfl rfl rfl rfl L16 (by kernel_rfl) (Nat.le_of_ble_eq_true rfl) ⟨hua1.one0, hua1.one1, hua1.one2, hua1.one3, trivial⟩ (by kernel_rfl) (fun w18 st18 N18 => ?_)
  have kp18 := st18.kp L16 (by decide)
  replace hB := st18.gr hB q16
  replace L16 := N18
  refine k17 _ _ ?_
  try clear k17 K17
  refine sq_nil ?_
  refine k14 _ _ ?_
  try clear k14 K14
  refine wp_region ?_
  simp only [List.size_toArray, List.length_cons, List.length_nil, Nat.reduceAdd, List.range, List.range.loop]
  refine sq_val (some 11) (.int .i64 0) rfl rfl (by kernel_rfl) (rvk (by kernel_rfl)) ?_
  simp only [p1, p2, p3, p4]
  refine sq_val (some 12) (.agg #[uaa0, uaa1, uaa2, uaa3]) rfl rfl (by kernel_rfl) (rv_load 31 _ b16 0 _ _ [uaa0, uaa1, uaa2, uaa3] rfl rfl L16 rfl (by kernel_rfl)) ?_
  simp only [p1, p2, p3, p4]
  refine sq_eff rfl (by kernel_rfl) (fun K19 k19 => ?_)
  have kq21 := g3.kp.trans (g5.kp.trans (g8.kp.trans (g16.kp.trans kp18)))
  replace hua1 := hua1.kp kq21
  refine eff_call (some 13) rfl (by kernel_rfl) (number_r hua1 (by omega) (ht.gr hB)) ?_
  rintro e20 w20 ⟨rfl, g20⟩
  refine ⟨_, rfl, ?_⟩
  replace hB := Gr.trans hB g20
  refine k19 _ _ ?_
  try clear k19 K19
  simp only [p1, p2, p3, p4]
  refine sq_val (some 14) (.pointer (some ⟨b8, 0, none⟩)) rfl rfl (by kernel_rfl) (rvk (by kernel_rfl)) ?_
  simp only [p1, p2, p3, p4]
  refine sq_eff rfl (by kernel_rfl) (fun K22 k22 => ?_)
  replace L8 := (st18.lc (L8.gr g16) ne8_16).gr g20
  refine eff_store 75 _ _ b8 0 (.string ⟨(ratL (a1) : List UInt8).toArray⟩) [(.string ⟨(ratL (a1) : List UInt8).toArray⟩)] _ #[(.string ⟨(ratL (a1) : List UInt8).toArray⟩), (.string ⟨([] : List UInt8).toArray⟩), (.string ⟨([] : List UInt8).toArray⟩)] _ rfl rfl rfl rfl rfl L8 (by kernel_rfl) (Nat.le_of_ble_eq_true rfl) ⟨rfl, trivial⟩ (by kernel_rfl) (fun w23 st23 N23 => ?_)
  have kp23 := st23.kp L8 (by decide)
  replace hB := st23.gr hB q8
  replace L8 := N23
  refine k22 _ _ ?_
  try clear k22 K22
  refine sq_nil ?_
  refine k13 _ _ ?_
  try clear k13 K13
  refine wp_region ?_
  simp only [List.size_toArray, List.length_cons, List.length_nil, Nat.reduceAdd, List.range, List.range.loop]
  refine sq_val (some 15) (.int .i64 1) rfl rfl (by kernel_rfl) (rvk (by kernel_rfl)) ?_
  simp only [p1, p2, p3, p4]
  refine sq_val (some 7) (.int .i64 1) rfl rfl (by kernel_rfl) (rvk (by kernel_rfl)) ?_
  simp only [p1, p2, p3, p4]
  refine sq_nil ?_
  show Code.rounds _ _ _ _ _ _
  show Code.wp _ _ _ _ _
  refine wp_seq_k (fun K24 k24 => ?_)
  refine wp_region ?_
  simp only [List.size_toArray, List.length_cons, List.length_nil, Nat.reduceAdd, List.range, List.range.loop]
  refine sq_val (some 8) (.bool true) rfl rfl (by kernel_rfl) (rvk (by kernel_rfl)) ?_
  simp only [p1, p2, p3, p4]
  refine sq_nil ?_
  refine k24 _ _ ?_
  try clear k24 K24
  refine wp_seq_k (fun K25 k25 => ?_)
  refine wp_cond_true rfl ?_
  refine wp_skip ?_
  refine k25 _ _ ?_
  try clear k25 K25
  refine wp_seq_k (fun K26 k26 => ?_)
  refine wp_block ?_
  refine wp_seq_k (fun K27 k27 => ?_)
  refine wp_region ?_
  simp only [List.size_toArray, List.length_cons, List.length_nil, Nat.reduceAdd, List.range, List.range.loop]
  refine sq_val (some 9) (.int .i64 1) rfl rfl (by kernel_rfl) (rvk (by kernel_rfl)) ?_
  simp only [p1, p2, p3, p4]
  refine sq_val (some 10) (.agg #[uab0, uab1, uab2, uab3]) rfl rfl (by kernel_rfl) (rvk (by kernel_rfl)) ?_
  simp only [p1, p2, p3, p4]
  refine sq_eff rfl (by kernel_rfl) (fun K28 k28 => ?_)
  refine eff_alloc 31 (.agg #[(.bool false), (.slice none 0 0), (.bool false), (.slice none 0 0)]) #[(.bool false), (.slice none 0 0), (.bool false), (.slice none 0 0)] (some 5) rfl rfl (by kernel_rfl) rfl (fun b29 w29 g29 L29 q29 => ?_)
  replace L3 := st23.lc ((st18.lc (L3.gr g16) ne3_16).gr g20) ne3_8
  have ne3_29 := L3.ne q29
  replace L5 := st23.lc ((st18.lc (L5.gr g16) ne5_16).gr g20) ne5_8
  have ne5_29 := L5.ne q29
  have ne8_29 := L8.ne q29
  replace L16 := st23.lc (L16.gr g20) (Ne.symm ne8_16)
  have ne16_29 := L16.ne q29
  replace q29 := Nat.le_trans (Below.size hB) q29
  replace hB := Gr.trans hB g29
  refine k28 _ _ ?_
  try clear k28 K28
  simp only [p1, p2, p3, p4]
  refine sq_val (some 4) (.int .i64 1) rfl rfl (by kernel_rfl) (rvk (by kernel_rfl)) ?_
  simp only [p1, p2, p3, p4]
  refine sq_eff rfl (by kernel_rfl) (fun K30 k30 => ?_)
  refine eff_store 31 _ _ b29 0 (.agg #[uab0, uab1, uab2, uab3]) [uab0, uab1, uab2, uab3] _ #[uab0, uab1, uab2, uab3] _ rfl rfl rfl rfl rfl L29 (by kernel_rfl) (Nat.le_of_ble_eq_true rfl) ⟨hua2.one0, hua2.one1, hua2.one2, hua2.one3, trivial⟩ (by kernel_rfl) (fun w31 st31 N31 => ?_)
  have kp31 := st31.kp L29 (by decide)
  replace hB := st31.gr hB q29
  replace L29 := N31
  refine k30 _ _ ?_
  try clear k30 K30
  refine sq_nil ?_
  refine k27 _ _ ?_
  try clear k27 K27
  refine wp_region ?_
  simp only [List.size_toArray, List.length_cons, List.length_nil, Nat.reduceAdd, List.range, List.range.loop]
  refine sq_val (some 11) (.int .i64 1) rfl rfl (by kernel_rfl) (rvk (by kernel_rfl)) ?_
  simp only [p1, p2, p3, p4]
  refine sq_val (some 12) (.agg #[uab0, uab1, uab2, uab3]) rfl rfl (by kernel_rfl) (rv_load 31 _ b29 0 _ _ [uab0, uab1, uab2, uab3] rfl rfl L29 rfl (by kernel_rfl)) ?_
  simp only [p1, p2, p3, p4]
  refine sq_eff rfl (by kernel_rfl) (fun K32 k32 => ?_)
  have kq34 := g3.kp.trans (g5.kp.trans (g8.kp.trans (g16.kp.trans (kp18.trans (g20.kp.trans (kp23.trans (g29.kp.trans kp31)))))))
  replace hua2 := hua2.kp kq34
  refine eff_call (some 13) rfl (by kernel_rfl) (number_r hua2 (by omega) (ht.gr hB)) ?_
  rintro e33 w33 ⟨rfl, g33⟩
  refine ⟨_, rfl, ?_⟩
  replace hB := Gr.trans hB g33
  refine k32 _ _ ?_
  try clear k32 K32
  simp only [p1, p2, p3, p4]
  refine sq_val (some 14) (.pointer (some ⟨b8, 1, none⟩)) rfl rfl (by kernel_rfl) (rvk (by kernel_rfl)) ?_
  simp only [p1, p2, p3, p4]
  refine sq_eff rfl (by kernel_rfl) (fun K35 k35 => ?_)
  replace L8 := (st31.lc (L8.gr g29) ne8_29).gr g33
  refine eff_store 75 _ _ b8 1 (.string ⟨(ratL (a2) : List UInt8).toArray⟩) [(.string ⟨(ratL (a2) : List UInt8).toArray⟩)] _ #[(.string ⟨(ratL (a1) : List UInt8).toArray⟩), (.string ⟨(ratL (a2) : List UInt8).toArray⟩), (.string ⟨([] : List UInt8).toArray⟩)] _ rfl rfl rfl rfl rfl L8 (by kernel_rfl) (Nat.le_of_ble_eq_true rfl) ⟨rfl, trivial⟩ (by kernel_rfl) (fun w36 st36 N36 => ?_)
  have kp36 := st36.kp L8 (by decide)
  replace hB := st36.gr hB q8
  replace L8 := N36
  refine k35 _ _ ?_
  try clear k35 K35
  refine sq_nil ?_
  refine k26 _ _ ?_
  try clear k26 K26
  refine wp_region ?_
  simp only [List.size_toArray, List.length_cons, List.length_nil, Nat.reduceAdd, List.range, List.range.loop]
  refine sq_val (some 15) (.int .i64 2) rfl rfl (by kernel_rfl) (rvk (by kernel_rfl)) ?_
  simp only [p1, p2, p3, p4]
  refine sq_val (some 7) (.int .i64 2) rfl rfl (by kernel_rfl) (rvk (by kernel_rfl)) ?_
  simp only [p1, p2, p3, p4]
  refine sq_nil ?_
  show Code.rounds _ _ _ _ _ _
  show Code.wp _ _ _ _ _
  refine wp_seq_k (fun K37 k37 => ?_)
  refine wp_region ?_
  simp only [List.size_toArray, List.length_cons, List.length_nil, Nat.reduceAdd, List.range, List.range.loop]
  refine sq_val (some 8) (.bool true) rfl rfl (by kernel_rfl) (rvk (by kernel_rfl)) ?_
  simp only [p1, p2, p3, p4]
  refine sq_nil ?_
  refine k37 _ _ ?_
  try clear k37 K37
  refine wp_seq_k (fun K38 k38 => ?_)
  refine wp_cond_true rfl ?_
  refine wp_skip ?_
  refine k38 _ _ ?_
  try clear k38 K38
  refine wp_seq_k (fun K39 k39 => ?_)
  refine wp_block ?_
  refine wp_seq_k (fun K40 k40 => ?_)
  refine wp_region ?_
  simp only [List.size_toArray, List.length_cons, List.length_nil, Nat.reduceAdd, List.range, List.range.loop]
  refine sq_val (some 9) (.int .i64 2) rfl rfl (by kernel_rfl) (rvk (by kernel_rfl)) ?_
  simp only [p1, p2, p3, p4]
  refine sq_val (some 10) (.agg #[uac0, uac1, uac2, uac3]) rfl rfl (by kernel_rfl) (rvk (by kernel_rfl)) ?_
  simp only [p1, p2, p3, p4]
  refine sq_eff rfl (by kernel_rfl) (fun K41 k41 => ?_)
  refine eff_alloc 31 (.agg #[(.bool false), (.slice none 0 0), (.bool false), (.slice none 0 0)]) #[(.bool false), (.slice none 0 0), (.bool false), (.slice none 0 0)] (some 5) rfl rfl (by kernel_rfl) rfl (fun b42 w42 g42 L42 q42 => ?_)
  replace L3 := st36.lc ((st31.lc (L3.gr g29) ne3_29).gr g33) ne3_8
  have ne3_42 := L3.ne q42
  replace L5 := st36.lc ((st31.lc (L5.gr g29) ne5_29).gr g33) ne5_8
  have ne5_42 := L5.ne q42
  have ne8_42 := L8.ne q42
  replace L16 := st36.lc ((st31.lc (L16.gr g29) ne16_29).gr g33) (Ne.symm ne8_16)
  have ne16_42 := L16.ne q42
  replace L29 := st36.lc (L29.gr g33) (Ne.symm ne8_29)
  have ne29_42 := L29.ne q42
  replace q42 := Nat.le_trans (Below.size hB) q42
  replace hB := Gr.trans hB g42
  refine k41 _ _ ?_
  try clear k41 K41
  simp only [p1, p2, p3, p4]
  refine sq_val (some 4) (.int .i64 2) rfl rfl (by kernel_rfl) (rvk (by kernel_rfl)) ?_
  simp only [p1, p2, p3, p4]
  refine sq_eff rfl (by kernel_rfl) (fun K43 k43 => ?_)
  refine eff_store 31 _ _ b42 0 (.agg #[uac0, uac1, uac2, uac3]) [uac0, uac1, uac2, uac3] _ #[uac0, uac1, uac2, uac3] _ rfl rfl rfl rfl rfl L42 (by kernel_rfl) (Nat.le_of_ble_eq_true rfl) ⟨hua3.one0, hua3.one1, hua3.one2, hua3.one3, trivial⟩ (by kernel_rfl) (fun w44 st44 N44 => ?_)
  have kp44 := st44.kp L42 (by decide)
  replace hB := st44.gr hB q42
  replace L42 := N44
  refine k43 _ _ ?_
  try clear k43 K43
  refine sq_nil ?_
  refine k40 _ _ ?_
  try clear k40 K40
  refine wp_region ?_
  simp only [List.size_toArray, List.length_cons, List.length_nil, Nat.reduceAdd, List.range, List.range.loop]
  refine sq_val (some 11) (.int .i64 2) rfl rfl (by kernel_rfl) (rvk (by kernel_rfl)) ?_
  simp only [p1, p2, p3, p4]
  refine sq_val (some 12) (.agg #[uac0, uac1, uac2, uac3]) rfl rfl (by kernel_rfl) (rv_load 31 _ b42 0 _ _ [uac0, uac1, uac2, uac3] rfl rfl L42 rfl (by kernel_rfl)) ?_
  simp only [p1, p2, p3, p4]
  refine sq_eff rfl (by kernel_rfl) (fun K45 k45 => ?_)
  have kq47 := g3.kp.trans (g5.kp.trans (g8.kp.trans (g16.kp.trans (kp18.trans (g20.kp.trans (kp23.trans (g29.kp.trans (kp31.trans (g33.kp.trans (kp36.trans (g42.kp.trans kp44)))))))))))
  replace hua3 := hua3.kp kq47
  refine eff_call (some 13) rfl (by kernel_rfl) (number_r hua3 (by omega) (ht.gr hB)) ?_
  rintro e46 w46 ⟨rfl, g46⟩
  refine ⟨_, rfl, ?_⟩
  replace hB := Gr.trans hB g46
  refine k45 _ _ ?_
  try clear k45 K45
  simp only [p1, p2, p3, p4]
  refine sq_val (some 14) (.pointer (some ⟨b8, 2, none⟩)) rfl rfl (by kernel_rfl) (rvk (by kernel_rfl)) ?_
  simp only [p1, p2, p3, p4]
  refine sq_eff rfl (by kernel_rfl) (fun K48 k48 => ?_)
  replace L8 := (st44.lc (L8.gr g42) ne8_42).gr g46
  refine eff_store 75 _ _ b8 2 (.string ⟨(ratL (a3) : List UInt8).toArray⟩) [(.string ⟨(ratL (a3) : List UInt8).toArray⟩)] _ #[(.string ⟨(ratL (a1) : List UInt8).toArray⟩), (.string ⟨(ratL (a2) : List UInt8).toArray⟩), (.string ⟨(ratL (a3) : List UInt8).toArray⟩)] _ rfl rfl rfl rfl rfl L8 (by kernel_rfl) (Nat.le_of_ble_eq_true rfl) ⟨rfl, trivial⟩ (by kernel_rfl) (fun w49 st49 N49 => ?_)
  have kp49 := st49.kp L8 (by decide)
  replace hB := st49.gr hB q8
  replace L8 := N49
  refine k48 _ _ ?_
  try clear k48 K48
  refine sq_nil ?_
  refine k39 _ _ ?_
  try clear k39 K39
  refine wp_region ?_
  simp only [List.size_toArray, List.length_cons, List.length_nil, Nat.reduceAdd, List.range, List.range.loop]
  refine sq_val (some 15) (.int .i64 3) rfl rfl (by kernel_rfl) (rvk (by kernel_rfl)) ?_
  simp only [p1, p2, p3, p4]
  refine sq_val (some 7) (.int .i64 3) rfl rfl (by kernel_rfl) (rvk (by kernel_rfl)) ?_
  simp only [p1, p2, p3, p4]
  refine sq_nil ?_
  show Code.rounds _ _ _ _ _ _
  show Code.wp _ _ _ _ _
  refine wp_seq_k (fun K50 k50 => ?_)
  refine wp_region ?_
  simp only [List.size_toArray, List.length_cons, List.length_nil, Nat.reduceAdd, List.range, List.range.loop]
  refine sq_val (some 8) (.bool false) rfl rfl (by kernel_rfl) (rvk (by kernel_rfl)) ?_
  simp only [p1, p2, p3, p4]
  refine sq_nil ?_
  refine k50 _ _ ?_
  try clear k50 K50
  refine wp_seq_k (fun K51 k51 => ?_)
  refine wp_cond_false rfl ?_
  refine wp_exit ?_
  simp only [Exit.then, Exit.inBlock, ↓reduceIte]
  refine k9 _ _ ?_
  try clear k9 K9
  refine wp_seq_k (fun K52 k52 => ?_)
  refine wp_region ?_
  simp only [List.size_toArray, List.length_cons, List.length_nil, Nat.reduceAdd, List.range, List.range.loop]
  refine sq_val (some 16) (.agg #[(.string ⟨(ratL (a1) : List UInt8).toArray⟩), (.string ⟨(ratL (a2) : List UInt8).toArray⟩), (.string ⟨(ratL (a3) : List UInt8).toArray⟩)]) rfl rfl (by kernel_rfl) (rv_load 85 _ b8 0 _ _ [(.string ⟨(ratL (a1) : List UInt8).toArray⟩), (.string ⟨(ratL (a2) : List UInt8).toArray⟩), (.string ⟨(ratL (a3) : List UInt8).toArray⟩)] rfl rfl L8 rfl (by kernel_rfl)) ?_
  simp only [p1, p2, p3, p4]
  refine sq_eff rfl (by kernel_rfl) (fun K53 k53 => ?_)
  replace L5 := st49.lc ((st44.lc (L5.gr g42) ne5_42).gr g46) ne5_8
  refine eff_store 85 _ _ b5 0 (.agg #[(.string ⟨(ratL (a1) : List UInt8).toArray⟩), (.string ⟨(ratL (a2) : List UInt8).toArray⟩), (.string ⟨(ratL (a3) : List UInt8).toArray⟩)]) [(.string ⟨(ratL (a1) : List UInt8).toArray⟩), (.string ⟨(ratL (a2) : List UInt8).toArray⟩), (.string ⟨(ratL (a3) : List UInt8).toArray⟩)] _ #[(.string ⟨(ratL (a1) : List UInt8).toArray⟩), (.string ⟨(ratL (a2) : List UInt8).toArray⟩), (.string ⟨(ratL (a3) : List UInt8).toArray⟩)] _ rfl rfl rfl rfl rfl L5 (by kernel_rfl) (Nat.le_of_ble_eq_true rfl) ⟨rfl, rfl, rfl, trivial⟩ (by kernel_rfl) (fun w54 st54 N54 => ?_)
  have kp54 := st54.kp L5 (by decide)
  replace hB := st54.gr hB q5
  replace L5 := N54
  refine k53 _ _ ?_
  try clear k53 K53
  refine sq_nil ?_
  refine k52 _ _ ?_
  try clear k52 K52
  refine wp_ret ?_
  refine bodyPost_ret (v := (.agg #[(.string ⟨(ratL (a1) : List UInt8).toArray⟩), (.string ⟨(ratL (a2) : List UInt8).toArray⟩), (.string ⟨(ratL (a3) : List UInt8).toArray⟩)])) (ret_cell _ _ _ rfl rfl L5 (by kernel_rfl)) rfl ⟨?_, hB⟩
  exact rfl

set_option maxRecDepth 100000 in
set_option maxHeartbeats 4000000 in
theorem numbers6_r {k m ab : Nat} {uaa0 uaa1 uaa2 uaa3 uab0 uab1 uab2 uab3 uac0 uac1 uac2 uac3 : Value} {a1 a2 a3 : Rat} {vaa0 vaa1 vaa2 vaa3 vab0 vab1 vab2 vab3 vac0 vac1 vac2 vac3 : Value} {c1 c2 c3 : Rat} {w : World} (hua1 : IsRat w k uaa0 uaa1 uaa2 uaa3 a1) (hua2 : IsRat w k uab0 uab1 uab2 uab3 a2) (hua3 : IsRat w k uac0 uac1 uac2 uac3 a3) (hva1 : IsRat w m vaa0 vaa1 vaa2 vaa3 c1) (hva2 : IsRat w m vab0 vab1 vab2 vab3 c2) (hva3 : IsRat w m vac0 vac1 vac2 vac3 c3) (_hk : k + m ≤ 25000) (hL : Lc w ab #[uaa0, uaa1, uaa2, uaa3, uab0, uab1, uab2, uab3, uac0, uac1, uac2, uac3, vaa0, vaa1, vaa2, vaa3, vab0, vab1, vab2, vab3, vac0, vac1, vac2, vac3] 31) (ht : Tab w) :
    Calls Tryd.prog 61 #[(.slice (some ⟨ab, 0, none⟩) 6 6)] w fun e w' => (∃ b, e = .returned (.slice (some ⟨b, 0, none⟩) 6 6) ∧ Lc w' b #[.string ⟨(ratL (a1)).toArray⟩, .string ⟨(ratL (a2)).toArray⟩, .string ⟨(ratL (a3)).toArray⟩, .string ⟨(ratL (c1)).toArray⟩, .string ⟨(ratL (c2)).toArray⟩, .string ⟨(ratL (c3)).toArray⟩] 75 ∧ w.heap.size ≤ b) ∧ Gr w w' := by
  go_enter Tryd.func61, Tryd.ntmps61
  have hB := Gr.refl w
  refine wp_seq_k (fun K1 k1 => ?_)
  refine wp_region ?_
  simp only [List.size_toArray, List.length_cons, List.length_nil, Nat.reduceAdd, List.range, List.range.loop]
  refine sq_val (some 2) (.slice none 0 0) rfl rfl (by kernel_rfl) (rvk (by kernel_rfl)) ?_
  simp only [p1, p2, p3, p4]
  refine sq_nil ?_
  refine k1 _ _ ?_
  try clear k1 K1
  refine wp_seq_k (fun K2 k2 => ?_)
  refine wp_region ?_
  simp only [List.size_toArray, List.length_cons, List.length_nil, Nat.reduceAdd, List.range, List.range.loop]
  refine sq_val (some 6) (.slice (some ⟨ab, 0, none⟩) 6 6) rfl rfl (by kernel_rfl) (rvk (by kernel_rfl)) ?_
  simp only [p1, p2, p3, p4]
  refine sq_val (some 7) (.int .i64 6) rfl rfl (by kernel_rfl) (rvk (by kernel_rfl)) ?_
  simp only [p1, p2, p3, p4]
  refine sq_eff rfl (by kernel_rfl) (fun K3 k3 => ?_)
  refine eff_make 99 75 (.string ⟨([] : List UInt8).toArray⟩) 6 6 1 #[(.string ⟨([] : List UInt8).toArray⟩), (.string ⟨([] : List UInt8).toArray⟩), (.string ⟨([] : List UInt8).toArray⟩), (.string ⟨([] : List UInt8).toArray⟩), (.string ⟨([] : List UInt8).toArray⟩), (.string ⟨([] : List UInt8).toArray⟩)] (some 8) rfl rfl rfl rfl (by kernel_rfl) (by kernel_rfl) (by kernel_rfl) (by kernel_rfl) (fun b4 w4 g4 L4 q4 => ?_)
  have ne0_4 := hL.ne q4
  replace q4 := Nat.le_trans (Below.size hB) q4
  replace hB := Gr.trans hB g4
  refine k3 _ _ ?_
  try clear k3 K3
  simp only [p1, p2, p3, p4]
  refine sq_val (some 3) (.slice (some ⟨b4, 0, none⟩) 6 6) rfl rfl (by kernel_rfl) (rvk (by kernel_rfl)) ?_
  simp only [p1, p2, p3, p4]
  refine sq_nil ?_
  refine k2 _ _ ?_
  try clear k2 K2
  refine wp_seq_k (fun K5 k5 => ?_)
  refine wp_seq_k (fun K6 k6 => ?_)
  refine wp_region ?_
  simp only [List.size_toArray, List.length_cons, List.length_nil, Nat.reduceAdd, List.range, List.range.loop]
  refine sq_val (some 9) (.slice (some ⟨ab, 0, none⟩) 6 6) rfl rfl (by kernel_rfl) (rvk (by kernel_rfl)) ?_
  simp only [p1, p2, p3, p4]
  refine sq_val (some 10) (.int .i64 6) rfl rfl (by kernel_rfl) (rvk (by kernel_rfl)) ?_
  simp only [p1, p2, p3, p4]
  refine sq_val (some 11) (.int .i64 0) rfl rfl (by kernel_rfl) (rvk (by kernel_rfl)) ?_
  simp only [p1, p2, p3, p4]
  refine sq_nil ?_
  refine k6 _ _ ?_
  try clear k6 K6
  refine wp_block ?_
  refine wp_loop_rounds 8 ?_
  show Code.wp _ _ _ _ _
  refine wp_seq_k (fun K7 k7 => ?_)
  refine wp_region ?_
  simp only [List.size_toArray, List.length_cons, List.length_nil, Nat.reduceAdd, List.range, List.range.loop]
  refine sq_val (some 12) (.bool true) rfl rfl (by kernel_rfl) (rvk (by kernel_rfl)) ?_
  simp only [p1, p2, p3, p4]
  refine sq_nil ?_
  refine k7 _ _ ?_
  try clear k7 K7
  refine wp_seq_k (fun K8 k8 => ?_)
  refine wp_cond_true rfl ?_
  refine wp_skip ?_
  refine k8 _ _ ?_
  try clear k8 K8
  refine wp_seq_k (fun K9 k9 => ?_)
  refine wp_block ?_
  refine wp_seq_k (fun K10 k10 => ?_)
  refine wp_region ?_
  simp only [List.size_toArray, List.length_cons, List.length_nil, Nat.reduceAdd, List.range, List.range.loop]
  refine sq_val (some 13) (.int .i64 0) rfl rfl (by kernel_rfl) (rvk (by kernel_rfl)) ?_
  simp only [p1, p2, p3, p4]
  refine sq_val (some 14) (.pointer (some ⟨ab, 0, none⟩)) rfl rfl (by kernel_rfl) (rvk (by kernel_rfl)) ?_
  simp only [p1, p2, p3, p4]
  replace hL := hL.gr g4
  refine sq_val (some 15) (.agg #[uaa0, uaa1, uaa2, uaa3]) rfl rfl (by kernel_rfl) (rv_load 31 _ ab 0 _ _ [uaa0, uaa1, uaa2, uaa3] rfl rfl hL rfl (by kernel_rfl)) ?_
  simp only [p1, p2, p3, p4]
  refine sq_eff rfl (by kernel_rfl) (fun K11 k11 => ?_)
  refine eff_alloc 31 (.agg #[(.bool false), (.slice none 0 0), (.bool false), (.slice none 0 0)]) #[(.bool false), (.slice none 0 0), (.bool false), (.slice none 0 0)] (some 5) rfl rfl (by kernel_rfl) rfl (fun b12 w12 g12 L12 q12 => ?_)
  have ne0_12 := hL.ne q12
  have ne4_12 := L4.ne q12
  replace q12 := Nat.le_trans (Below.size hB) q12
  replace hB := Gr.trans hB g12
  refine k11 _ _ ?_
  try clear k11 K11
  simp only [p1, p2, p3, p4]
  refine sq_val (some 4) (.int .i64 0) rfl rfl (by kernel_rfl) (rvk (by kernel_rfl)) ?_
  simp only [p1, p2, p3, p4]
  refine sq_eff rfl (by kernel_rfl) (fun K13 k13 => ?_)
  refine eff_store 31 _ _ b12 0 (.agg #[uaa0, uaa1, uaa2, uaa3]) [uaa0, uaa1, uaa2, uaa3] _ #[uaa0, uaa1, uaa2, uaa3] _ rfl rfl rfl rfl rfl L12 (by kernel_rfl) (Nat.le_of_ble_eq_true rfl) ⟨hua1.one0, hua1.one1, hua1.one2, hua1.one3, trivial⟩ (by kernel_rfl) (fun w14 st14 N14 => ?_)
  have kp14 := st14.kp L12 (by decide)
  replace hB := st14.gr hB q12
  replace L12 := N14
  refine k13 _ _ ?_
  try clear k13 K13
  refine sq_nil ?_
  refine k10 _ _ ?_
  try clear k10 K10
  refine wp_region ?_
  simp only [List.size_toArray, List.length_cons, List.length_nil, Nat.reduceAdd, List.range, List.range.loop]
  refine sq_val (some 16) (.slice (some ⟨b4, 0, none⟩) 6 6) rfl rfl (by kernel_rfl) (rvk (by kernel_rfl)) ?_
  simp only [p1, p2, p3, p4]
  refine sq_val (some 17) (.int .i64 0) rfl rfl (by kernel_rfl) (rvk (by kernel_rfl)) ?_
  simp only [p1, p2, p3, p4]
  refine sq_val (some 18) (.agg #[uaa0, uaa1, uaa2, uaa3]) rfl rfl (by kernel_rfl) (rv_load 31 _ b12 0 _ _ [uaa0, uaa1, uaa2, uaa3] rfl rfl L12 rfl (by kernel_rfl)) ?_
  simp only [p1, p2, p3, p4]
  refine sq_eff rfl (by kernel_rfl) (fun K15 k15 => ?_)
  have kq17 := g4.kp.trans (g12.kp.trans kp14)
  replace hua1 := hua1.kp kq17
  refine eff_call (some 19) rfl (by kernel_rfl) (number_r hua1 (by omega) (ht.gr hB)) ?_
  rintro e16 w16 ⟨rfl, g16⟩
  refine ⟨_, rfl, ?_⟩
  replace hB := Gr.trans hB g16
  refine k15 _ _ ?_
  try clear k15 K15
  simp only [p1, p2, p3, p4]
  refine sq_val (some 20) (.pointer (some ⟨b4, 0, none⟩)) rfl rfl (by kernel_rfl) (rvk (by kernel_rfl)) ?_
  simp only [p1, p2, p3, p4]
  refine sq_eff rfl (by kernel_rfl) (fun K18 k18 => ?_)
  replace L4 := (st14.lc (L4.gr g12) ne4_12).gr g16
  refine eff_store 75 _ _ b4 0 (.string ⟨(ratL (a1) : List UInt8).toArray⟩) [(.string ⟨(ratL (a1) : List UInt8).toArray⟩)] _ #[(.string ⟨(ratL (a1) : List UInt8).toArray⟩), (.string ⟨([] : List UInt8).toArray⟩), (.string ⟨([] : List UInt8).toArray⟩), (.string ⟨([] : List UInt8).toArray⟩), (.string ⟨([] : List UInt8).toArray⟩), (.string ⟨([] : List UInt8).toArray⟩)] _ rfl rfl rfl rfl rfl L4 (by kernel_rfl) (Nat.le_of_ble_eq_true rfl) ⟨rfl, trivial⟩ (by kernel_rfl) (fun w19 st19 N19 => ?_)
  have kp19 := st19.kp L4 (by decide)
  replace hB := st19.gr hB q4
  replace L4 := N19
  refine k18 _ _ ?_
  try clear k18 K18
  refine sq_nil ?_
  refine k9 _ _ ?_
  try clear k9 K9
  refine wp_region ?_
  simp only [List.size_toArray, List.length_cons, List.length_nil, Nat.reduceAdd, List.range, List.range.loop]
  refine sq_val (some 21) (.int .i64 1) rfl rfl (by kernel_rfl) (rvk (by kernel_rfl)) ?_
  simp only [p1, p2, p3, p4]
  refine sq_val (some 11) (.int .i64 1) rfl rfl (by kernel_rfl) (rvk (by kernel_rfl)) ?_
  simp only [p1, p2, p3, p4]
  refine sq_nil ?_
  show Code.rounds _ _ _ _ _ _
  show Code.wp _ _ _ _ _
  refine wp_seq_k (fun K20 k20 => ?_)
  refine wp_region ?_
  simp only [List.size_toArray, List.length_cons, List.length_nil, Nat.reduceAdd, List.range, List.range.loop]
  refine sq_val (some 12) (.bool true) rfl rfl (by kernel_rfl) (rvk (by kernel_rfl)) ?_
  simp only [p1, p2, p3, p4]
  refine sq_nil ?_
  refine k20 _ _ ?_
  try clear k20 K20
  refine wp_seq_k (fun K21 k21 => ?_)
  refine wp_cond_true rfl ?_
  refine wp_skip ?_
  refine k21 _ _ ?_
  try clear k21 K21
  refine wp_seq_k (fun K22 k22 => ?_)
  refine wp_block ?_
  refine wp_seq_k (fun K23 k23 => ?_)
  refine wp_region ?_
  simp only [List.size_toArray, List.length_cons, List.length_nil, Nat.reduceAdd, List.range, List.range.loop]
  refine sq_val (some 13) (.int .i64 1) rfl rfl (by kernel_rfl) (rvk (by kernel_rfl)) ?_
  simp only [p1, p2, p3, p4]
  refine sq_val (some 14) (.pointer (some ⟨ab, 4, none⟩)) rfl rfl (by kernel_rfl) (rvk (by kernel_rfl)) ?_
  simp only [p1, p2, p3, p4]
  replace hL := st19.lc ((st14.lc (hL.gr g12) ne0_12).gr g16) ne0_4
  refine sq_val (some 15) (.agg #[uab0, uab1, uab2, uab3]) rfl rfl (by kernel_rfl) (rv_load 31 _ ab 4 _ _ [uab0, uab1, uab2, uab3] rfl rfl hL rfl (by kernel_rfl)) ?_
  simp only [p1, p2, p3, p4]
  refine sq_eff rfl (by kernel_rfl) (fun K24 k24 => ?_)
  refine eff_alloc 31 (.agg #[(.bool false), (.slice none 0 0), (.bool false), (.slice none 0 0)]) #[(.bool false), (.slice none 0 0), (.bool false), (.slice none 0 0)] (some 5) rfl rfl (by kernel_rfl) rfl (fun b25 w25 g25 L25 q25 => ?_)
  have ne0_25 := hL.ne q25
  have ne4_25 := L4.ne q25
  replace L12 := st19.lc (L12.gr g16) (Ne.symm ne4_12)
  have ne12_25 := L12.ne q25
  replace q25 := Nat.le_trans (Below.size hB) q25
  replace hB := Gr.trans hB g25
  refine k24 _ _ ?_
  try clear k24 K24
  simp only [p1, p2, p3, p4]
  refine sq_val (some 4) (.int .i64 1) rfl rfl (by kernel_rfl) (rvk (by kernel_rfl)) ?_
  simp only [p1, p2, p3, p4]
  refine sq_eff rfl (by kernel_rfl) (fun K26 k26 => ?_)
  refine eff_store 31 _ _ b25 0 (.agg #[uab0, uab1, uab2, uab3]) [uab0, uab1, uab2, uab3] _ #[uab0, uab1, uab2, uab3] _ rfl rfl rfl rfl rfl L25 (by kernel_rfl) (Nat.le_of_ble_eq_true rfl) ⟨hua2.one0, hua2.one1, hua2.one2, hua2.one3, trivial⟩ (by kernel_rfl) (fun w27 st27 N27 => ?_)
  have kp27 := st27.kp L25 (by decide)
  replace hB := st27.gr hB q25
  replace L25 := N27
  refine k26 _ _ ?_
  try clear k26 K26
  refine sq_nil ?_
  refine k23 _ _ ?_
  try clear k23 K23
  refine wp_region ?_
  simp only [List.size_toArray, List.length_cons, List.length_nil, Nat.reduceAdd, List.range, List.range.loop]
  refine sq_val (some 16) (.slice (some ⟨b4, 0, none⟩) 6 6) rfl rfl (by kernel_rfl) (rvk (by kernel_rfl)) ?_
  simp only [p1, p2, p3, p4]
  refine sq_val (some 17) (.int .i64 1) rfl rfl (by kernel_rfl) (rvk (by kernel_rfl)) ?_
  simp only [p1, p2, p3, p4]
  refine sq_val (some 18) (.agg #[uab0, uab1, uab2, uab3]) rfl rfl (by kernel_rfl) (rv_load 31 _ b25 0 _ _ [uab0, uab1, uab2, uab3] rfl rfl L25 rfl (by kernel_rfl)) ?_
  simp only [p1, p2, p3, p4]
  refine sq_eff rfl (by kernel_rfl) (fun K28 k28 => ?_)
  have kq30 := g4.kp.trans (g12.kp.trans (kp14.trans (g16.kp.trans (kp19.trans (g25.kp.trans kp27)))))
  replace hua2 := hua2.kp kq30
  refine eff_call (some 19) rfl (by kernel_rfl) (number_r hua2 (by omega) (ht.gr hB)) ?_
  rintro e29 w29 ⟨rfl, g29⟩
  refine ⟨_, rfl, ?_⟩
  replace hB := Gr.trans hB g29
  refine k28 _ _ ?_
  try clear k28 K28
  simp only [p1, p2, p3, p4]
  refine sq_val (some 20) (.pointer (some ⟨b4, 1, none⟩)) rfl rfl (by kernel_rfl) (rvk (by kernel_rfl)) ?_
  simp only [p1, p2, p3, p4]
  refine sq_eff rfl (by kernel_rfl) (fun K31 k31 => ?_)
  replace L4 := (st27.lc (L4.gr g25) ne4_25).gr g29
  refine eff_store 75 _ _ b4 1 (.string ⟨(ratL (a2) : List UInt8).toArray⟩) [(.string ⟨(ratL (a2) : List UInt8).toArray⟩)] _ #[(.string ⟨(ratL (a1) : List UInt8).toArray⟩), (.string ⟨(ratL (a2) : List UInt8).toArray⟩), (.string ⟨([] : List UInt8).toArray⟩), (.string ⟨([] : List UInt8).toArray⟩), (.string ⟨([] : List UInt8).toArray⟩), (.string ⟨([] : List UInt8).toArray⟩)] _ rfl rfl rfl rfl rfl L4 (by kernel_rfl) (Nat.le_of_ble_eq_true rfl) ⟨rfl, trivial⟩ (by kernel_rfl) (fun w32 st32 N32 => ?_)
  have kp32 := st32.kp L4 (by decide)
  replace hB := st32.gr hB q4
  replace L4 := N32
  refine k31 _ _ ?_
  try clear k31 K31
  refine sq_nil ?_
  refine k22 _ _ ?_
  try clear k22 K22
  refine wp_region ?_
  simp only [List.size_toArray, List.length_cons, List.length_nil, Nat.reduceAdd, List.range, List.range.loop]
  refine sq_val (some 21) (.int .i64 2) rfl rfl (by kernel_rfl) (rvk (by kernel_rfl)) ?_
  simp only [p1, p2, p3, p4]
  refine sq_val (some 11) (.int .i64 2) rfl rfl (by kernel_rfl) (rvk (by kernel_rfl)) ?_
  simp only [p1, p2, p3, p4]
  refine sq_nil ?_
  show Code.rounds _ _ _ _ _ _
  show Code.wp _ _ _ _ _
  refine wp_seq_k (fun K33 k33 => ?_)
  refine wp_region ?_
  simp only [List.size_toArray, List.length_cons, List.length_nil, Nat.reduceAdd, List.range, List.range.loop]
  refine sq_val (some 12) (.bool true) rfl rfl (by kernel_rfl) (rvk (by kernel_rfl)) ?_
  simp only [p1, p2, p3, p4]
  refine sq_nil ?_
  refine k33 _ _ ?_
  try clear k33 K33
  refine wp_seq_k (fun K34 k34 => ?_)
  refine wp_cond_true rfl ?_
  refine wp_skip ?_
  refine k34 _ _ ?_
  try clear k34 K34
  refine wp_seq_k (fun K35 k35 => ?_)
  refine wp_block ?_
  refine wp_seq_k (fun K36 k36 => ?_)
  refine wp_region ?_
  simp only [List.size_toArray, List.length_cons, List.length_nil, Nat.reduceAdd, List.range, List.range.loop]
  refine sq_val (some 13) (.int .i64 2) rfl rfl (by kernel_rfl) (rvk (by kernel_rfl)) ?_
  simp only [p1, p2, p3, p4]
  refine sq_val (some 14) (.pointer (some ⟨ab, 8, none⟩)) rfl rfl (by kernel_rfl) (rvk (by kernel_rfl)) ?_
  simp only [p1, p2, p3, p4]
  replace hL := st32.lc ((st27.lc (hL.gr g25) ne0_25).gr g29) ne0_4
  refine sq_val (some 15) (.agg #[uac0, uac1, uac2, uac3]) rfl rfl (by kernel_rfl) (rv_load 31 _ ab 8 _ _ [uac0, uac1, uac2, uac3] rfl rfl hL rfl (by kernel_rfl)) ?_
  simp only [p1, p2, p3, p4]
  refine sq_eff rfl (by kernel_rfl) (fun K37 k37 => ?_)
  refine eff_alloc 31 (.agg #[(.bool false), (.slice none 0 0), (.bool false), (.slice none 0 0)]) #[(.bool false), (.slice none 0 0), (.bool false), (.slice none 0 0)] (some 5) rfl rfl (by kernel_rfl) rfl (fun b38 w38 g38 L38 q38 => ?_)
  have ne0_38 := hL.ne q38
  have ne4_38 := L4.ne q38
  replace L12 := st32.lc ((st27.lc (L12.gr g25) ne12_25).gr g29) (Ne.symm ne4_12)
  have ne12_38 := L12.ne q38
  replace L25 := st32.lc (L25.gr g29) (Ne.symm ne4_25)
  have ne25_38 := L25.ne q38
  replace q38 := Nat.le_trans (Below.size hB) q38
  replace hB := Gr.trans hB g38
  refine k37 _ _ ?_
  try clear k37 K37
  simp only [p1, p2, p3, p4]
  refine sq_val (some 4) (.int .i64 2) rfl rfl (by kernel_rfl) (rvk (by kernel_rfl)) ?_
  simp only [p1, p2, p3, p4]
  refine sq_eff rfl (by kernel_rfl) (fun K39 k39 => ?_)
  refine eff_store 31 _ _ b38 0 (.agg #[uac0, uac1, uac2, uac3]) [uac0, uac1, uac2, uac3] _ #[uac0, uac1, uac2, uac3] _ rfl rfl rfl rfl rfl L38 (by kernel_rfl) (Nat.le_of_ble_eq_true rfl) ⟨hua3.one0, hua3.one1, hua3.one2, hua3.one3, trivial⟩ (by kernel_rfl) (fun w40 st40 N40 => ?_)
  have kp40 := st40.kp L38 (by decide)
  replace hB := st40.gr hB q38
  replace L38 := N40
  refine k39 _ _ ?_
  try clear k39 K39
  refine sq_nil ?_
  refine k36 _ _ ?_
  try clear k36 K36
  refine wp_region ?_
  simp only [List.size_toArray, List.length_cons, List.length_nil, Nat.reduceAdd, List.range, List.range.loop]
  refine sq_val (some 16) (.slice (some ⟨b4, 0, none⟩) 6 6) rfl rfl (by kernel_rfl) (rvk (by kernel_rfl)) ?_
  simp only [p1, p2, p3, p4]
  refine sq_val (some 17) (.int .i64 2) rfl rfl (by kernel_rfl) (rvk (by kernel_rfl)) ?_
  simp only [p1, p2, p3, p4]
  refine sq_val (some 18) (.agg #[uac0, uac1, uac2, uac3]) rfl rfl (by kernel_rfl) (rv_load 31 _ b38 0 _ _ [uac0, uac1, uac2, uac3] rfl rfl L38 rfl (by kernel_rfl)) ?_
  simp only [p1, p2, p3, p4]
  refine sq_eff rfl (by kernel_rfl) (fun K41 k41 => ?_)
  have kq43 := g4.kp.trans (g12.kp.trans (kp14.trans (g16.kp.trans (kp19.trans (g25.kp.trans (kp27.trans (g29.kp.trans (kp32.trans (g38.kp.trans kp40)))))))))
  replace hua3 := hua3.kp kq43
  refine eff_call (some 19) rfl (by kernel_rfl) (number_r hua3 (by omega) (ht.gr hB)) ?_
  rintro e42 w42 ⟨rfl, g42⟩
  refine ⟨_, rfl, ?_⟩
  replace hB := Gr.trans hB g42
  refine k41 _ _ ?_
  try clear k41 K41
  simp only [p1, p2, p3, p4]
  refine sq_val (some 20) (.pointer (some ⟨b4, 2, none⟩)) rfl rfl (by kernel_rfl) (rvk (by kernel_rfl)) ?_
  simp only [p1, p2, p3, p4]
  refine sq_eff rfl (by kernel_rfl) (fun K44 k44 => ?_)
  replace L4 := (st40.lc (L4.gr g38) ne4_38).gr g42
  refine eff_store 75 _ _ b4 2 (.string ⟨(ratL (a3) : List UInt8).toArray⟩) [(.string ⟨(ratL (a3) : List UInt8).toArray⟩)] _ #[(.string ⟨(ratL (a1) : List UInt8).toArray⟩), (.string ⟨(ratL (a2) : List UInt8).toArray⟩), (.string ⟨(ratL (a3) : List UInt8).toArray⟩), (.string ⟨([] : List UInt8).toArray⟩), (.string ⟨([] : List UInt8).toArray⟩), (.string ⟨([] : List UInt8).toArray⟩)] _ rfl rfl rfl rfl rfl L4 (by kernel_rfl) (Nat.le_of_ble_eq_true rfl) ⟨rfl, trivial⟩ (by kernel_rfl) (fun w45 st45 N45 => ?_)
  have kp45 := st45.kp L4 (by decide)
  replace hB := st45.gr hB q4
  replace L4 := N45
  refine k44 _ _ ?_
  try clear k44 K44
  refine sq_nil ?_
  refine k35 _ _ ?_
  try clear k35 K35
  refine wp_region ?_
  simp only [List.size_toArray, List.length_cons, List.length_nil, Nat.reduceAdd, List.range, List.range.loop]
  refine sq_val (some 21) (.int .i64 3) rfl rfl (by kernel_rfl) (rvk (by kernel_rfl)) ?_
  simp only [p1, p2, p3, p4]
  refine sq_val (some 11) (.int .i64 3) rfl rfl (by kernel_rfl) (rvk (by kernel_rfl)) ?_
  simp only [p1, p2, p3, p4]
  refine sq_nil ?_
  show Code.rounds _ _ _ _ _ _
  show Code.wp _ _ _ _ _
  refine wp_seq_k (fun K46 k46 => ?_)
  refine wp_region ?_
  simp only [List.size_toArray, List.length_cons, List.length_nil, Nat.reduceAdd, List.range, List.range.loop]
  refine sq_val (some 12) (.bool true) rfl rfl (by kernel_rfl) (rvk (by kernel_rfl)) ?_
  simp only [p1, p2, p3, p4]
  refine sq_nil ?_
  refine k46 _ _ ?_
  try clear k46 K46
  refine wp_seq_k (fun K47 k47 => ?_)
  refine wp_cond_true rfl ?_
  refine wp_skip ?_
  refine k47 _ _ ?_
  try clear k47 K47
  refine wp_seq_k (fun K48 k48 => ?_)
  refine wp_block ?_
  refine wp_seq_k (fun K49 k49 => ?_)
  refine wp_region ?_
  simp only [List.size_toArray, List.length_cons, List.length_nil, Nat.reduceAdd, List.range, List.range.loop]
  refine sq_val (some 13) (.int .i64 3) rfl rfl (by kernel_rfl) (rvk (by kernel_rfl)) ?_
  simp only [p1, p2, p3, p4]
  refine sq_val (some 14) (.pointer (some ⟨ab, 12, none⟩)) rfl rfl (by kernel_rfl) (rvk (by kernel_rfl)) ?_
  simp only [p1, p2, p3, p4]
  replace hL := st45.lc ((st40.lc (hL.gr g38) ne0_38).gr g42) ne0_4
  refine sq_val (some 15) (.agg #[vaa0, vaa1, vaa2, vaa3]) rfl rfl (by kernel_rfl) (rv_load 31 _ ab 12 _ _ [vaa0, vaa1, vaa2, vaa3] rfl rfl hL rfl (by kernel_rfl)) ?_
  simp only [p1, p2, p3, p4]
  refine sq_eff rfl (by kernel_rfl) (fun K50 k50 => ?_)
  refine eff_alloc 31 (.agg #[(.bool false), (.slice none 0 0), (.bool false), (.slice none 0 0)]) #[(.bool false), (.slice none 0 0), (.bool false), (.slice none 0 0)] (some 5) rfl rfl (by kernel_rfl) rfl (fun b51 w51 g51 L51 q51 => ?_)
  have ne0_51 := hL.ne q51
  have ne4_51 := L4.ne q51
  replace L12 := st45.lc ((st40.lc (L12.gr g38) ne12_38).gr g42) (Ne.symm ne4_12)
  have ne12_51 := L12.ne q51
  replace L25 := st45.lc ((st40.lc (L25.gr g38) ne25_38).gr g42) (Ne.symm ne4_25)
  have ne25_51 := L25.ne q51
  replace L38 := st45.lc (L38.gr g42) (Ne.symm ne4_38)
  have ne38_51 := L38.ne q51
  replace q51 := Nat.le_trans (Below.size hB) q51
  replace hB := Gr.trans hB g51
  refine k50 _ _ ?_
  try clear k50 K50
  simp only [p1, p2, p3, p4]
  refine sq_val (some 4) (.int .i64 3) rfl rfl (by kernel_rfl) (rvk (by kernel_rfl)) ?_
  simp only [p1, p2, p3, p4]
  refine sq_eff rfl (by kernel_rfl) (fun K52 k52 => ?_)
  refine eff_store 31 _ _ b51 0 (.agg #[vaa0, vaa1, vaa2, vaa3]) [vaa0, vaa1, vaa2, vaa3] _ #[vaa0, vaa1, vaa2, vaa3] _ rfl rfl rfl rfl rfl L51 (by kernel_rfl) (Nat.le_of_ble_eq_true rfl) ⟨hva1.one0, hva1.one1, hva1.one2, hva1.one3, trivial⟩ (by kernel_rfl) (fun w53 st53 N53 => ?_)
  have kp53 := st53.kp L51 (by decide)
  replace hB := st53.gr hB q51
  replace L51 := N53
  refine k52 _ _ ?_
  try clear k52 K52
  refine sq_nil ?_
  refine k49 _ _ ?_
  try clear k49 K49
  refine wp_region ?_
  simp only [List.size_toArray, List.length_cons, List.length_nil, Nat.reduceAdd, List.range, List.range.loop]
  refine sq_val (some 16) (.slice (some ⟨b4, 0, none⟩) 6 6) rfl rfl (by kernel_rfl) (rvk (by kernel_rfl)) ?_
  simp only [p1, p2, p3, p4]
  refine sq_val (some 17) (.int .i64 3) rfl rfl (by kernel_rfl) (rvk (by kernel_rfl)) ?_
  simp only [p1, p2, p3, p4]
  refine sq_val (some 18) (.agg #[vaa0, vaa1, vaa2, vaa3]) rfl rfl (by kernel_rfl) (rv_load 31 _ b51 0 _ _ [vaa0, vaa1, vaa2, vaa3] rfl rfl L51 rfl (by kernel_rfl)) ?_
  simp only [p1, p2, p3, p4]
  refine sq_eff rfl (by kernel_rfl) (fun K54 k54 => ?_)
  have kq56 := g4.kp.trans (g12.kp.trans (kp14.trans (g16.kp.trans (kp19.trans (g25.kp.trans (kp27.trans (g29.kp.trans (kp32.trans (g38.kp.trans (kp40.trans (g42.kp.trans (kp45.trans (g51.kp.trans kp53)))))))))))))
  replace hva1 := hva1.kp kq56
  refine eff_call (some 19) rfl (by kernel_rfl) (number_r hva1 (by omega) (ht.gr hB)) ?_
  rintro e55 w55 ⟨rfl, g55⟩
  refine ⟨_, rfl, ?_⟩
  replace hB := Gr.trans hB g55
  refine k54 _ _ ?_
  try clear k54 K54
  simp only [p1, p2, p3, p4]
  refine sq_val (some 20) (.pointer (some ⟨b4, 3, none⟩)) rfl rfl (by kernel_rfl) (rvk (by kernel_rfl)) ?_
  simp only [p1, p2, p3, p4]
  refine sq_eff rfl (by kernel_rfl) (fun K57 k57 => ?_)
  replace L4 := (st53.lc (L4.gr g51) ne4_51).gr g55
  refine eff_store 75 _ _ b4 3 (.string ⟨(ratL (c1) : List UInt8).toArray⟩) [(.string ⟨(ratL (c1) : List UInt8).toArray⟩)] _ #[(.string ⟨(ratL (a1) : List UInt8).toArray⟩), (.string ⟨(ratL (a2) : List UInt8).toArray⟩), (.string ⟨(ratL (a3) : List UInt8).toArray⟩), (.string ⟨(ratL (c1) : List UInt8).toArray⟩), (.string ⟨([] : List UInt8).toArray⟩), (.string ⟨([] : List UInt8).toArray⟩)] _ rfl rfl rfl rfl rfl L4 (by kernel_rfl) (Nat.le_of_ble_eq_true rfl) ⟨rfl, trivial⟩ (by kernel_rfl) (fun w58 st58 N58 => ?_)
  have kp58 := st58.kp L4 (by decide)
  replace hB := st58.gr hB q4
  replace L4 := N58
  refine k57 _ _ ?_
  try clear k57 K57
  refine sq_nil ?_
  refine k48 _ _ ?_
  try clear k48 K48
  refine wp_region ?_
  simp only [List.size_toArray, List.length_cons, List.length_nil, Nat.reduceAdd, List.range, List.range.loop]
  refine sq_val (some 21) (.int .i64 4) rfl rfl (by kernel_rfl) (rvk (by kernel_rfl)) ?_
  simp only [p1, p2, p3, p4]
  refine sq_val (some 11) (.int .i64 4) rfl rfl (by kernel_rfl) (rvk (by kernel_rfl)) ?_
  simp only [p1, p2, p3, p4]
  refine sq_nil ?_
  show Code.rounds _ _ _ _ _ _
  show Code.wp _ _ _ _ _
  refine wp_seq_k (fun K59 k59 => ?_)
  refine wp_region ?_
  simp only [List.size_toArray, List.length_cons, List.length_nil, Nat.reduceAdd, List.range, List.range.loop]
  refine sq_val (some 12) (.bool true) rfl rfl (by kernel_rfl) (rvk (by kernel_rfl)) ?_
  simp only [p1, p2, p3, p4]
  refine sq_nil ?_
  refine k59 _ _ ?_
  try clear k59 K59
  refine wp_seq_k (fun K60 k60 => ?_)
  refine wp_cond_true rfl ?_
  refine wp_skip ?_
  refine k60 _ _ ?_
  try clear k60 K60
  refine wp_seq_k (fun K61 k61 => ?_)
  refine wp_block ?_
  refine wp_seq_k (fun K62 k62 => ?_)
  refine wp_region ?_
  simp only [List.size_toArray, List.length_cons, List.length_nil, Nat.reduceAdd, List.range, List.range.loop]
  refine sq_val (some 13) (.int .i64 4) rfl rfl (by kernel_rfl) (rvk (by kernel_rfl)) ?_
  simp only [p1, p2, p3, p4]
  refine sq_val (some 14) (.pointer (some ⟨ab, 16, none⟩)) rfl rfl (by kernel_rfl) (rvk (by kernel_rfl)) ?_
  simp only [p1, p2, p3, p4]
  replace hL := st58.lc ((st53.lc (hL.gr g51) ne0_51).gr g55) ne0_4
  refine sq_val (some 15) (.agg #[vab0, vab1, vab2, vab3]) rfl rfl (by kernel_rfl) (rv_load 31 _ ab 16 _ _ [vab0, vab1, vab2, vab3] rfl rfl hL rfl (by kernel_rfl)) ?_
  simp only [p1, p2, p3, p4]
  refine sq_eff rfl (by kernel_rfl) (fun K63 k63 => ?_)
  refine eff_alloc 31 (.agg #[(.bool false), (.slice none 0 0), (.bool false), (.slice none 0 0)]) #[(.bool false), (.slice none 0 0), (.bool false), (.slice none 0 0)] (some 5) rfl rfl (by kernel_rfl) rfl (fun b64 w64 g64 L64 q64 => ?_)
  have ne0_64 := hL.ne q64
  have ne4_64 := L4.ne q64
  replace L12 := st58.lc ((st53.lc (L12.gr g51) ne12_51).gr g55) (Ne.symm ne4_12)
  have ne12_64 := L12.ne q64
  replace L25 := st58.lc ((st53.lc (L25.gr g51) ne25_51).gr g55) (Ne.symm ne4_25)
  have ne25_64 := L25.ne q64
  replace L38 := st58.lc ((st53.lc (L38.gr g51) ne38_51).gr g55) (Ne.symm ne4_38)
  have ne38_64 := L38.ne q64
  replace L51 := st58.lc (L51.gr g55) (Ne.symm ne4_51)
  have ne51_64 := L51.ne q64
  replace q64 := Nat.le_trans (Below.size hB) q64
  replace hB := Gr.trans hB g64
  refine k63 _ _ ?_
  try clear k63 K63
  simp only [p1, p2, p3, p4]
  refine sq_val (some 4) (.int .i64 4) rfl rfl (by kernel_rfl) (rvk (by kernel_rfl)) ?_
  simp only [p1, p2, p3, p4]
  refine sq_eff rfl (by kernel_rfl) (fun K65 k65 => ?_)
  refine eff_store 31 _ _ b64 0 (.agg #[vab0, vab1, vab2, vab3]) [vab0, vab1, vab2, vab3] _ #[vab0, vab1, vab2, vab3] _ rfl rfl rfl rfl rfl L64 (by kernel_rfl) (Nat.le_of_ble_eq_true rfl) ⟨hva2.one0, hva2.one1, hva2.one2, hva2.one3, trivial⟩ (by kernel_rfl) (fun w66 st66 N66 => ?_)
  have kp66 := st66.kp L64 (by decide)
  replace hB := st66.gr hB q64
  replace L64 := N66
  refine k65 _ _ ?_
  try clear k65 K65
  refine sq_nil ?_
  refine k62 _ _ ?_
  try clear k62 K62
  refine wp_region ?_
  simp only [List.size_toArray, List.length_cons, List.length_nil, Nat.reduceAdd, List.range, List.range.loop]
  refine sq_val (some 16) (.slice (some ⟨b4, 0, none⟩) 6 6) rfl rfl (by kernel_rfl) (rvk (by kernel_rfl)) ?_
  simp only [p1, p2, p3, p4]
  refine sq_val (some 17) (.int .i64 4) rfl rfl (by kernel_rfl) (rvk (by kernel_rfl)) ?_
  simp only [p1, p2, p3, p4]
  refine sq_val (some 18) (.agg #[vab0, vab1, vab2, vab3]) rfl rfl (by kernel_rfl) (rv_load 31 _ b64 0 _ _ [vab0, vab1, vab2, vab3] rfl rfl L64 rfl (by kernel_rfl)) ?_
  simp only [p1, p2, p3, p4]
  refine sq_eff rfl (by kernel_rfl) (fun K67 k67 => ?_)
  have kq69 := g4.kp.trans (g12.kp.trans (kp14.trans (g16.kp.trans (kp19.trans (g25.kp.trans (kp27.trans (g29.kp.trans (kp32.trans (g38.kp.trans (kp40.trans (g42.kp.trans (kp45.trans (g51.kp.trans (kp53.trans (g55.kp.trans (kp58.trans (g64.kp.trans kp66)))))))))))))))))
  replace hva2 := hva2.kp kq69
  refine eff_call (some 19) rfl (by kernel_rfl) (number_r hva2 (by omega) (ht.gr hB)) ?_
  rintro e68 w68 ⟨rfl, g68⟩
  refine ⟨_, rfl, ?_⟩
  replace hB := Gr.trans hB g68
  refine k67 _ _ ?_
  try clear k67 K67
  simp only [p1, p2, p3, p4]
  refine sq_val (some 20) (.pointer (some ⟨b4, 4, none⟩)) rfl rfl (by kernel_rfl) (rvk (by kernel_rfl)) ?_
  simp only [p1, p2, p3, p4]
  refine sq_eff rfl (by kernel_rfl) (fun K70 k70 => ?_)
  replace L4 := (st66.lc (L4.gr g64) ne4_64).gr g68
  refine eff_store 75 _ _ b4 4 (.string ⟨(ratL (c2) : List UInt8).toArray⟩) [(.string ⟨(ratL (c2) : List UInt8).toArray⟩)] _ #[(.string ⟨(ratL (a1) : List UInt8).toArray⟩), (.string ⟨(ratL (a2) : List UInt8).toArray⟩), (.string ⟨(ratL (a3) : List UInt8).toArray⟩), (.string ⟨(ratL (c1) : List UInt8).toArray⟩), (.string ⟨(ratL (c2) : List UInt8).toArray⟩), (.string ⟨([] : List UInt8).toArray⟩)] _ rfl rfl rfl rfl rfl L4 (by kernel_rfl) (Nat.le_of_ble_eq_true rfl) ⟨rfl, trivial⟩ (by kernel_rfl) (fun w71 st71 N71 => ?_)
  have kp71 := st71.kp L4 (by decide)
  replace hB := st71.gr hB q4
  replace L4 := N71
  refine k70 _ _ ?_
  try clear k70 K70
  refine sq_nil ?_
  refine k61 _ _ ?_
  try clear k61 K61
  refine wp_region ?_
  simp only [List.size_toArray, List.length_cons, List.length_nil, Nat.reduceAdd, List.range, List.range.loop]
  refine sq_val (some 21) (.int .i64 5) rfl rfl (by kernel_rfl) (rvk (by kernel_rfl)) ?_
  simp only [p1, p2, p3, p4]
  refine sq_val (some 11) (.int .i64 5) rfl rfl (by kernel_rfl) (rvk (by kernel_rfl)) ?_
  simp only [p1, p2, p3, p4]
  refine sq_nil ?_
  show Code.rounds _ _ _ _ _ _
  show Code.wp _ _ _ _ _
  refine wp_seq_k (fun K72 k72 => ?_)
  refine wp_region ?_
  simp only [List.size_toArray, List.length_cons, List.length_nil, Nat.reduceAdd, List.range, List.range.loop]
  refine sq_val (some 12) (.bool true) rfl rfl (by kernel_rfl) (rvk (by kernel_rfl)) ?_
  simp only [p1, p2, p3, p4]
  refine sq_nil ?_
  refine k72 _ _ ?_
  try clear k72 K72
  refine wp_seq_k (fun K73 k73 => ?_)
  refine wp_cond_true rfl ?_
  refine wp_skip ?_
  refine k73 _ _ ?_
  try clear k73 K73
  refine wp_seq_k (fun K74 k74 => ?_)
  refine wp_block ?_
  refine wp_seq_k (fun K75 k75 => ?_)
  refine wp_region ?_
  simp only [List.size_toArray, List.length_cons, List.length_nil, Nat.reduceAdd, List.range, List.range.loop]
  refine sq_val (some 13) (.int .i64 5) rfl rfl (by kernel_rfl) (rvk (by kernel_rfl)) ?_
  simp only [p1, p2, p3, p4]
  refine sq_val (some 14) (.pointer (some ⟨ab, 20, none⟩)) rfl rfl (by kernel_rfl) (rvk (by kernel_rfl)) ?_
  simp only [p1, p2, p3, p4]
  replace hL := st71.lc ((st66.lc (hL.gr g64) ne0_64).gr g68) ne0_4
  refine sq_val (some 15) (.agg #[vac0, vac1, vac2, vac3]) rfl rfl (by kernel_rfl) (rv_load 31 _ ab 20 _ _ [vac0, vac1, vac2, vac3] rfl rfl hL rfl (by kernel_rfl)) ?_
  simp only [p1, p2, p3, p4]
  refine sq_eff rfl (by kernel_rfl) (fun K76 k76 => ?_)
  refine eff_alloc 31 (.agg #[(.bool false), (.slice none 0 0), (.bool false), (.slice none 0 0)]) #[(.bool false), (.slice none 0 0), (.bool false), (.slice none 0 0)] (some 5) rfl rfl (by kernel_rfl) rfl (fun b77 w77 g77 L77 q77 => ?_)
  have ne0_77 := hL.ne q77
  have ne4_77 := L4.ne q77
  replace L12 := st71.lc ((st66.lc (L12.gr g64) ne12_64).gr g68) (Ne.symm ne4_12)
  have ne12_77 := L12.ne q77
  replace L25 := st71.lc ((st66.lc (L25.gr g64) ne25_64).gr g68) (Ne.symm ne4_25)
  have ne25_77 := L25.ne q77
  replace L38 := st71.lc ((st66.lc (L38.gr g64) ne38_64).gr g68) (Ne.symm ne4_38)
  have ne38_77 := L38.ne q77
  replace L51 := st71.lc ((st66.lc (L51.gr g64) ne51_64).gr g68) (Ne.symm ne4_51)
  have ne51_77 := L51.ne q77
  replace L64 := st71.lc (L64.gr g68) (Ne.symm ne4_64)
  have ne64_77 := L64.ne q77
  replace q77 := Nat.le_trans (Below.size hB) q77
  replace hB := Gr.trans hB g77
  refine k76 _ _ ?_
  try clear k76 K76
  simp only [p1, p2, p3, p4]
  refine sq_val (some 4) (.int .i64 5) rfl rfl (by kernel_rfl) (rvk (by kernel_rfl)) ?_
  simp only [p1, p2, p3, p4]
  refine sq_eff rfl (by kernel_rfl) (fun K78 k78 => ?_)
  refine eff_store 31 _ _ b77 0 (.agg #[vac0, vac1, vac2, vac3]) [vac0, vac1, vac2, vac3] _ #[vac0, vac1, vac2, vac3] _ rfl rfl rfl rfl rfl L77 (by kernel_rfl) (Nat.le_of_ble_eq_true rfl) ⟨hva3.one0, hva3.one1, hva3.one2, hva3.one3, trivial⟩ (by kernel_rfl) (fun w79 st79 N79 => ?_)
  have kp79 := st79.kp L77 (by decide)
  replace hB := st79.gr hB q77
  replace L77 := N79
  refine k78 _ _ ?_
  try clear k78 K78
  refine sq_nil ?_
  refine k75 _ _ ?_
  try clear k75 K75
  refine wp_region ?_
  simp only [List.size_toArray, List.length_cons, List.length_nil, Nat.reduceAdd, List.range, List.range.loop]
  refine sq_val (some 16) (.slice (some ⟨b4, 0, none⟩) 6 6) rfl rfl (by kernel_rfl) (rvk (by kernel_rfl)) ?_
  simp only [p1, p2, p3, p4]
  refine sq_val (some 17) (.int .i64 5) rfl rfl (by kernel_rfl) (rvk (by kernel_rfl)) ?_
  simp only [p1, p2, p3, p4]
  refine sq_val (some 18) (.agg #[vac0, vac1, vac2, vac3]) rfl rfl (by kernel_rfl) (rv_load 31 _ b77 0 _ _ [vac0, vac1, vac2, vac3] rfl rfl L77 rfl (by kernel_rfl)) ?_
  simp only [p1, p2, p3, p4]
  refine sq_eff rfl (by kernel_rfl) (fun K80 k80 => ?_)
  have kq82 := g4.kp.trans (g12.kp.trans (kp14.trans (g16.kp.trans (kp19.trans (g25.kp.trans (kp27.trans (g29.kp.trans (kp32.trans (g38.kp.trans (kp40.trans (g42.kp.trans (kp45.trans (g51.kp.trans (kp53.trans (g55.kp.trans (kp58.trans (g64.kp.trans (kp66.trans (g68.kp.trans (kp71.trans (g77.kp.trans kp79)))))))))))))))))))))
  replace hva3 := hva3.kp kq82
  refine eff_call (some 19) rfl (by kernel_rfl) (number_r hva3 (by omega) (ht.gr hB)) ?_
  rintro e81 w81 ⟨rfl, g81⟩
  refine ⟨_, rfl, ?_⟩
  replace hB := Gr.trans hB g81
  refine k80 _ _ ?_
  try clear k80 K80
  simp only [p1, p2, p3, p4]
  refine sq_val (some 20) (.pointer (some ⟨b4, 5, none⟩)) rfl rfl (by kernel_rfl) (rvk (by kernel_rfl)) ?_
  simp only [p1, p2, p3, p4]
  refine sq_eff rfl (by kernel_rfl) (fun K83 k83 => ?_)
  replace L4 := (st79.lc (L4.gr g77) ne4_77).gr g81
  refine eff_store 75 _ _ b4 5 (.string ⟨(ratL (c3) : List UInt8).toArray⟩) [(.string ⟨(ratL (c3) : List UInt8).toArray⟩)] _ #[(.string ⟨(ratL (a1) : List UInt8).toArray⟩), (.string ⟨(ratL (a2) : List UInt8).toArray⟩), (.string ⟨(ratL (a3) : List UInt8).toArray⟩), (.string ⟨(ratL (c1) : List UInt8).toArray⟩), (.string ⟨(ratL (c2) : List UInt8).toArray⟩), (.string ⟨(ratL (c3) : List UInt8).toArray⟩)] _ rfl rfl rfl rfl rfl L4 (by kernel_rfl) (Nat.le_of_ble_eq_true rfl) ⟨rfl, trivial⟩ (by kernel_rfl) (fun w84 st84 N84 => ?_)
  have kp84 := st84.kp L4 (by decide)
  replace hB := st84.gr hB q4
  replace L4 := N84
  refine k83 _ _ ?_
  try clear k83 K83
  refine sq_nil ?_
  refine k74 _ _ ?_
  try clear k74 K74
  refine wp_region ?_
  simp only [List.size_toArray, List.length_cons, List.length_nil, Nat.reduceAdd, List.range, List.range.loop]
  refine sq_val (some 21) (.int .i64 6) rfl rfl (by kernel_rfl) (rvk (by kernel_rfl)) ?_
  simp only [p1, p2, p3, p4]
  refine sq_val (some 11) (.int .i64 6) rfl rfl (by kernel_rfl) (rvk (by kernel_rfl)) ?_
  simp only [p1, p2, p3, p4]
  refine sq_nil ?_
  show Code.rounds _ _ _ _ _ _
  show Code.wp _ _ _ _ _
  refine wp_seq_k (fun K85 k85 => ?_)
  refine wp_region ?_
  simp only [List.size_toArray, List.length_cons, List.length_nil, Nat.reduceAdd, List.range, List.range.loop]
  refine sq_val (some 12) (.bool false) rfl rfl (by kernel_rfl) (rvk (by kernel_rfl)) ?_
  simp only [p1, p2, p3, p4]
  refine sq_nil ?_
  refine k85 _ _ ?_
  try clear k85 K85
  refine wp_seq_k (fun K86 k86 => ?_)
  refine wp_cond_false rfl ?_
  refine wp_exit ?_
  simp only [Exit.then, Exit.inBlock, ↓reduceIte]
  refine k5 _ _ ?_
  try clear k5 K5
  refine wp_seq_k (fun K87 k87 => ?_)
  refine wp_region ?_
  simp only [List.size_toArray, List.length_cons, List.length_nil, Nat.reduceAdd, List.range, List.range.loop]
  refine sq_val (some 22) (.slice (some ⟨b4, 0, none⟩) 6 6) rfl rfl (by kernel_rfl) (rvk (by kernel_rfl)) ?_
  simp only [p1, p2, p3, p4]
  refine sq_val (some 2) (.slice (some ⟨b4, 0, none⟩) 6 6) rfl rfl (by kernel_rfl) (rvk (by kernel_rfl)) ?_
  simp only [p1, p2, p3, p4]
  refine sq_nil ?_
  refine k87 _ _ ?_
  try clear k87 K87
  refine wp_ret ?_
  refine bodyPost_ret (v := (.slice (some ⟨b4, 0, none⟩) 6 6)) (ret_tmp rfl rfl) rfl ⟨?_, hB⟩
  exact ⟨_, rfl, L4, q4⟩

set_option maxRecDepth 100000 in
set_option maxHeartbeats 1000000 in
theorem tnumbers_v {k m : Nat} {uaa0 uaa1 uaa2 uaa3 uab0 uab1 uab2 uab3 uac0 uac1 uac2 uac3 : Value} {a1 a2 a3 : Rat} {vaa0 vaa1 vaa2 vaa3 vab0 vab1 vab2 vab3 vac0 vac1 vac2 vac3 : Value} {c1 c2 c3 : Rat} {w : World} (hua1 : IsRat w k uaa0 uaa1 uaa2 uaa3 a1) (hua2 : IsRat w k uab0 uab1 uab2 uab3 a2) (hua3 : IsRat w k uac0 uac1 uac2 uac3 a3) (hva1 : IsRat w m vaa0 vaa1 vaa2 vaa3 c1) (hva2 : IsRat w m vab0 vab1 vab2 vab3 c2) (hva3 : IsRat w m vac0 vac1 vac2 vac3 c3) (_hk : k + m ≤ 25000) (ht : Tab w) :
    Calls Tryd.prog 39 #[(.agg #[uaa0, uaa1, uaa2, uaa3, uab0, uab1, uab2, uab3, uac0, uac1, uac2, uac3, vaa0, vaa1, vaa2, vaa3, vab0, vab1, vab2, vab3, vac0, vac1, vac2, vac3])] w fun e w' => e = .returned (.agg #[.string ⟨(ratL (a1)).toArray⟩, .string ⟨(ratL (a2)).toArray⟩, .string ⟨(ratL (a3)).toArray⟩, .string ⟨(ratL (c1)).toArray⟩, .string ⟨(ratL (c2)).toArray⟩, .string ⟨(ratL (c3)).toArray⟩]) ∧ Gr w w' := by
  go_enter Tryd.func39, Tryd.ntmps39
  have hB := Gr.refl w
  refine wp_seq_k (fun K1 k1 => ?_)
  refine wp_region ?_
  simp only [List.size_toArray, List.length_cons, List.length_nil, Nat.reduceAdd, List.range, List.range.loop]
  refine sq_eff rfl (by kernel_rfl) (fun K2 k2 => ?_)
  refine eff_box 35 _ (.agg #[uaa0, uaa1, uaa2, uaa3, uab0, uab1, uab2, uab3, uac0, uac1, uac2, uac3, vaa0, vaa1, vaa2, vaa3, vab0, vab1, vab2, vab3, vac0, vac1, vac2, vac3]) #[uaa0, uaa1, uaa2, uaa3, uab0, uab1, uab2, uab3, uac0, uac1, uac2, uac3, vaa0, vaa1, vaa2, vaa3, vab0, vab1, vab2, vab3, vac0, vac1, vac2, vac3] (some 1) rfl rfl rfl rfl (fun b3 w3 g3 L3 q3 => ?_)
  replace q3 := Nat.le_trans (Below.size hB) q3
  replace hB := Gr.trans hB g3
  refine k2 _ _ ?_
  try clear k2 K2
  simp only [p1, p2, p3, p4]
  refine sq_eff rfl (by kernel_rfl) (fun K4 k4 => ?_)
  refine eff_alloc 77 (.agg #[(.string ⟨([] : List UInt8).toArray⟩), (.string ⟨([] : List UInt8).toArray⟩), (.string ⟨([] : List UInt8).toArray⟩), (.string ⟨([] : List UInt8).toArray⟩), (.string ⟨([] : List UInt8).toArray⟩), (.string ⟨([] : List UInt8).toArray⟩)]) #[(.string ⟨([] : List UInt8).toArray⟩), (.string ⟨([] : List UInt8).toArray⟩), (.string ⟨([] : List UInt8).toArray⟩), (.string ⟨([] : List UInt8).toArray⟩), (.string ⟨([] : List UInt8).toArray⟩), (.string ⟨([] : List UInt8).toArray⟩)] (some 2) rfl rfl (by kernel_rfl) rfl (fun b5 w5 g5 L5 q5 => ?_)
  have ne3_5 := L3.ne q5
  replace q5 := Nat.le_trans (Below.size hB) q5
  replace hB := Gr.trans hB g5
  refine k4 _ _ ?_
  try clear k4 K4
  simp only [p1, p2, p3, p4]
  refine sq_nil ?_
  refine k1 _ _ ?_
  try clear k1 K1
  refine wp_seq_k (fun K6 k6 => ?_)
  refine wp_region ?_
  simp only [List.size_toArray, List.length_cons, List.length_nil, Nat.reduceAdd, List.range, List.range.loop]
  refine sq_val (some 3) (.pointer (some ⟨b3, 0, none⟩)) rfl rfl (by kernel_rfl) (rvk (by kernel_rfl)) ?_
  simp only [p1, p2, p3, p4]
  replace L3 := L3.gr g5
  refine sq_val (some 4) (.agg #[uaa0, uaa1, uaa2, uaa3, uab0, uab1, uab2, uab3, uac0, uac1, uac2, uac3]) rfl rfl (by kernel_rfl) (rv_load 33 _ b3 0 _ _ [uaa0, uaa1, uaa2, uaa3, uab0, uab1, uab2, uab3, uac0, uac1, uac2, uac3] rfl rfl L3 rfl (by kernel_rfl)) ?_
  simp only [p1, p2, p3, p4]
  refine sq_val (some 5) (.pointer (some ⟨b3, 12, none⟩)) rfl rfl (by kernel_rfl) (rvk (by kernel_rfl)) ?_
  simp only [p1, p2, p3, p4]
  refine sq_val (some 6) (.agg #[vaa0, vaa1, vaa2, vaa3, vab0, vab1, vab2, vab3, vac0, vac1, vac2, vac3]) rfl rfl (by kernel_rfl) (rv_load 33 _ b3 12 _ _ [vaa0, vaa1, vaa2, vaa3, vab0, vab1, vab2, vab3, vac0, vac1, vac2, vac3] rfl rfl L3 rfl (by kernel_rfl)) ?_
  simp only [p1, p2, p3, p4]
  refine sq_eff rfl (by kernel_rfl) (fun K7 k7 => ?_)
  have kq9 := g3.kp.trans g5.kp
  replace hua1 := hua1.kp kq9
  replace hua2 := hua2.kp kq9
  replace hua3 := hua3.kp kq9
  replace hva1 := hva1.kp kq9
  replace hva2 := hva2.kp kq9
  replace hva3 := hva3.kp kq9
  refine eff_call (some 7) rfl (by kernel_rfl) (joined_v hua1 hua2 hua3 hva1 hva2 hva3 (by omega)) ?_
  rintro e8 w8 ⟨⟨b8, t8_0, t8_1, t8_2, t8_3, t8_4, t8_5, t8_6, t8_7, t8_8, t8_9, t8_10, t8_11, t8_12, t8_13, t8_14, t8_15, t8_16, t8_17, t8_18, t8_19, t8_20, t8_21, t8_22, t8_23, rfl, L8, q8, h8a, h8b, h8c, h8d, h8e, h8f⟩, g8⟩
  refine ⟨_, rfl, ?_⟩
  have ne3_8 := L3.ne q8
  have ne5_8 := L5.ne q8
  replace q8 := Nat.le_trans (Below.size hB) q8
  replace hB := Gr.trans hB g8
  refine k7 _ _ ?_
  try clear k7 K7
  simp only [p1, p2, p3, p4]
  refine sq_eff rfl (by kernel_rfl) (fun K10 k10 => ?_)
  refine eff_call (some 8) rfl (by kernel_rfl) (numbers6_r h8a h8b h8c h8d h8e h8f (by omega) L8 (ht.gr hB)) ?_
  rintro e11 w11 ⟨⟨b11, rfl, L11, q11⟩, g11⟩
  refine ⟨_, rfl, ?_⟩
  replace L3 := L3.gr g8
  have ne3_11 := L3.ne q11
  replace L5 := L5.gr g8
  have ne5_11 := L5.ne q11
  have ne8_11 := L8.ne q11
  replace q11 := Nat.le_trans (Below.size hB) q11
  replace hB := Gr.trans hB g11
  refine k10 _ _ ?_
  try clear k10 K10
  simp only [p1, p2, p3, p4]
  refine sq_val (some 9) (.pointer (some ⟨b11, 0, none⟩)) rfl rfl (by kernel_rfl) (rvk (by kernel_rfl)) ?_
  simp only [p1, p2, p3, p4]
  refine sq_val (some 10) (.agg #[(.string ⟨(ratL (a1) : List UInt8).toArray⟩), (.string ⟨(ratL (a2) : List UInt8).toArray⟩), (.string ⟨(ratL (a3) : List UInt8).toArray⟩), (.string ⟨(ratL (c1) : List UInt8).toArray⟩), (.string ⟨(ratL (c2) : List UInt8).toArray⟩), (.string ⟨(ratL (c3) : List UInt8).toArray⟩)]) rfl rfl (by kernel_rfl) (rv_load 77 _ b11 0 _ _ [(.string ⟨(ratL (a1) : List UInt8).toArray⟩), (.string ⟨(ratL (a2) : List UInt8).toArray⟩), (.string ⟨(ratL (a3) : List UInt8).toArray⟩), (.string ⟨(ratL (c1) : List UInt8).toArray⟩), (.string ⟨(ratL (c2) : List UInt8).toArray⟩), (.string ⟨(ratL (c3) : List UInt8).toArray⟩)] rfl rfl L11 rfl (by kernel_rfl)) ?_
  simp only [p1, p2, p3, p4]
  refine sq_eff rfl (by kernel_rfl) (fun K12 k12 => ?_)
  replace L5 := L5.gr g11
  refine eff_store 77 _ _ b5 0 (.agg #[(.string ⟨(ratL (a1) : List UInt8).toArray⟩), (.string ⟨(ratL (a2) : List UInt8).toArray⟩), (.string ⟨(ratL (a3) : List UInt8).toArray⟩), (.string ⟨(ratL (c1) : List UInt8).toArray⟩), (.string ⟨(ratL (c2) : List UInt8).toArray⟩), (.string ⟨(ratL (c3) : List UInt8).toArray⟩)]) [(.string ⟨(ratL (a1) : List UInt8).toArray⟩), (.string ⟨(ratL (a2) : List UInt8).toArray⟩), (.string ⟨(ratL (a3) : List UInt8).toArray⟩), (.string ⟨(ratL (c1) : List UInt8).toArray⟩), (.string ⟨(ratL (c2) : List UInt8).toArray⟩), (.string ⟨(ratL (c3) : List UInt8).toArray⟩)] _ #[(.string ⟨(ratL (a1) : List UInt8).toArray⟩), (.string ⟨(ratL (a2) : List UInt8).toArray⟩), (.string ⟨(ratL (a3) : List UInt8).toArray⟩), (.string ⟨(ratL (c1) : List UInt8).toArray⟩), (.string ⟨(ratL (c2) : List UInt8).toArray⟩), (.string ⟨(ratL (c3) : List UInt8).toArray⟩)] _ rfl rfl rfl rfl rfl L5 (by kernel_rfl) (Nat.le_of_ble_eq_true rfl) ⟨rfl, rfl, rfl, rfl, rfl, rfl, trivial⟩ (by kernel_rfl) (fun w13 st13 N13 => ?_)
  have kp13 := st13.kp L5 (by decide)
  replace hB := st13.gr hB q5
  replace L5 := N13
  refine k12 _ _ ?_
  try clear k12 K12
  refine sq_nil ?_
  refine k6 _ _ ?_
  try clear k6 K6
  refine wp_ret ?_
  refine bodyPost_ret (v := (.agg #[(.string ⟨(ratL (a1) : List UInt8).toArray⟩), (.string ⟨(ratL (a2) : List UInt8).toArray⟩), (.string ⟨(ratL (a3) : List UInt8).toArray⟩), (.string ⟨(ratL (c1) : List UInt8).toArray⟩), (.string ⟨(ratL (c2) : List UInt8).toArray⟩), (.string ⟨(ratL (c3) : List UInt8).toArray⟩)])) (ret_cell _ _ _ rfl rfl L5 (by kernel_rfl)) rfl ⟨?_, hB⟩
  exact rfl

end Go.Proofs.YtgopfikljndklaaDoor
