/- Printed by a program of the prover's: the primitive multiple of a twist. -/
import Derived.Test.YtgopfikljndklaaDoorGen20
namespace Go.Proofs.YtgopfikljndklaaDoor
open Go.RowKit

set_option maxRecDepth 100000 in
set_option maxHeartbeats 16000000 in
theorem tprim_ok {k : Nat} {uaa0 uaa1 uaa2 uaa3 uab0 uab1 uab2 uab3 uac0 uac1 uac2 uac3 : Value} {a1 a2 a3 : Rat} {uba0 uba1 uba2 uba3 ubb0 ubb1 ubb2 ubb3 ubc0 ubc1 ubc2 ubc3 : Value} {d1 d2 d3 : Rat} {w : World} (hua1 : IsRat w k uaa0 uaa1 uaa2 uaa3 a1) (hua2 : IsRat w k uab0 uab1 uab2 uab3 a2) (hua3 : IsRat w k uac0 uac1 uac2 uac3 a3) (hub1 : IsRat w k uba0 uba1 uba2 uba3 d1) (hub2 : IsRat w k ubb0 ubb1 ubb2 ubb3 d2) (hub3 : IsRat w k ubc0 ubc1 ubc2 ubc3 d3) (_hk : k ≤ 500) (hz : ¬ all6 a1 a2 a3 d1 d2 d3) (hpos : 0 < tgcd a1 a2 a3 d1 d2 d3) :
    Calls Tryd.prog 37 #[(.agg #[uaa0, uaa1, uaa2, uaa3, uab0, uab1, uab2, uab3, uac0, uac1, uac2, uac3, uba0, uba1, uba2, uba3, ubb0, ubb1, ubb2, ubb3, ubc0, ubc1, ubc2, ubc3])] w fun e w' => (∃ t0 t1 t2 t3 t4 t5 t6 t7 t8 t9 t10 t11 t12 t13 t14 t15 t16 t17 t18 t19 t20 t21 t22 t23, e = .returned (.tuple #[.agg #[t0, t1, t2, t3, t4, t5, t6, t7, t8, t9, t10, t11, t12, t13, t14, t15, t16, t17, t18, t19, t20, t21, t22, t23], .int .i64 0]) ∧ IsRat w' (300 * k + 3000) t0 t1 t2 t3 (Rat.divInt (tden a1 a2 a3 d1 d2 d3) (tgcd a1 a2 a3 d1 d2 d3) * a1) ∧ IsRat w' (300 * k + 3000) t4 t5 t6 t7 (Rat.divInt (tden a1 a2 a3 d1 d2 d3) (tgcd a1 a2 a3 d1 d2 d3) * a2) ∧ IsRat w' (300 * k + 3000) t8 t9 t10 t11 (Rat.divInt (tden a1 a2 a3 d1 d2 d3) (tgcd a1 a2 a3 d1 d2 d3) * a3) ∧ IsRat w' (300 * k + 3000) t12 t13 t14 t15 (Rat.divInt (tden a1 a2 a3 d1 d2 d3) (tgcd a1 a2 a3 d1 d2 d3) * d1) ∧ IsRat w' (300 * k + 3000) t16 t17 t18 t19 (Rat.divInt (tden a1 a2 a3 d1 d2 d3) (tgcd a1 a2 a3 d1 d2 d3) * d2) ∧ IsRat w' (300 * k + 3000) t20 t21 t22 t23 (Rat.divInt (tden a1 a2 a3 d1 d2 d3) (tgcd a1 a2 a3 d1 d2 d3) * d3)) ∧ Gr w w' := by
 have hbig := hua1.big
 go_enter Tryd.func37, Tryd.ntmps37
 have hB := Gr.refl w
 refine wp_seq_k (fun K1 k1 => ?_)
 refine rg [0, 1, 2] ?_
 refine se ?_
 refine eb 35 #[uaa0, uaa1, uaa2, uaa3, uab0, uab1, uab2, uab3, uac0, uac1, uac2, uac3, uba0, uba1, uba2, uba3, ubb0, ubb1, ubb2, ubb3, ubc0, ubc1, ubc2, ubc3] 1 hB fun b2 w2 g2 L2 o2 q2 hB => ?_
 simp only [p3, p4]
 refine se ?_
 refine ea 35 #[(.bool false), (.slice none 0 0), (.bool false), (.slice none 0 0), (.bool false), (.slice none 0 0), (.bool false), (.slice none 0 0), (.bool false), (.slice none 0 0), (.bool false), (.slice none 0 0), (.bool false), (.slice none 0 0), (.bool false), (.slice none 0 0), (.bool false), (.slice none 0 0), (.bool false), (.slice none 0 0), (.bool false), (.slice none 0 0), (.bool false), (.slice none 0 0)] 2 hB fun b3 w3 g3 L3 o3 q3 hB => ?_
 simp only [p3, p4]
 refine sv 3 (.int .i64 0) ?_
 simp only [p3, p4]
 refine sq_nil ?_
 refine k1 _ _ ?_
 try clear k1 K1
 refine wp_seq_k (fun K4 k4 => ?_)
 refine wp_seq_k (fun K5 k5 => ?_)
 refine rg [0, 1] ?_
 replace L2 := L2.gr g3
 refine sw 19 (.agg #[uaa0, uaa1, uaa2, uaa3, uab0, uab1, uab2, uab3, uac0, uac1, uac2, uac3, uba0, uba1, uba2, uba3, ubb0, ubb1, ubb2, ubb3, ubc0, ubc1, ubc2, ubc3]) rfl (rl 35 0 [uaa0, uaa1, uaa2, uaa3, uab0, uab1, uab2, uab3, uac0, uac1, uac2, uac3, uba0, uba1, uba2, uba3, ubb0, ubb1, ubb2, ubb3, ubc0, ubc1, ubc2, ubc3] L2) ?_
 simp only [p3, p4]
 refine se ?_
 have kq7 := g2.kp.trans g3.kp
 replace hua1 := hua1.kp kq7
 replace hua2 := hua2.kp kq7
 replace hua3 := hua3.kp kq7
 replace hub1 := hub1.kp kq7
 replace hub2 := hub2.kp kq7
 replace hub3 := hub3.kp kq7
 refine ec 20 (tzero_b hua1 hua2 hua3 hub1 hub2 hub3 (by omega) hz) ?_
 rintro e6 w6 ⟨rfl, g6⟩
 refine ⟨_, rfl, ?_⟩
 replace hB := hB.trans g6
 simp only [p3, p4]
 refine sq_nil ?_
 refine k5 _ _ ?_
 try clear k5 K5
 refine wp_cond_false rfl ?_
 refine wp_skip ?_
 refine k4 _ _ ?_
 try clear k4 K4
 refine wp_seq_k (fun K8 k8 => ?_)
 refine rg [0, 1, 2, 3, 4, 5] ?_
 refine sv 22 (.pointer (some ⟨b2, 0, none⟩)) ?_
 simp only [p3, p4]
 replace L2 := L2.gr g6
 refine sw 23 (.agg #[uaa0, uaa1, uaa2, uaa3, uab0, uab1, uab2, uab3, uac0, uac1, uac2, uac3]) rfl (rl 33 0 [uaa0, uaa1, uaa2, uaa3, uab0, uab1, uab2, uab3, uac0, uac1, uac2, uac3] L2) ?_
 simp only [p3, p4]
 refine sv 24 (.pointer (some ⟨b2, 12, none⟩)) ?_
 simp only [p3, p4]
 refine sw 25 (.agg #[uba0, uba1, uba2, uba3, ubb0, ubb1, ubb2, ubb3, ubc0, ubc1, ubc2, ubc3]) rfl (rl 33 12 [uba0, uba1, uba2, uba3, ubb0, ubb1, ubb2, ubb3, ubc0, ubc1, ubc2, ubc3] L2) ?_
 simp only [p3, p4]
 refine se ?_
 replace hua1 := hua1.kp g6.kp
 replace hua2 := hua2.kp g6.kp
 replace hua3 := hua3.kp g6.kp
 replace hub1 := hub1.kp g6.kp
 replace hub2 := hub2.kp g6.kp
 replace hub3 := hub3.kp g6.kp
 refine ec 26 (joined_v hua1 hua2 hua3 hub1 hub2 hub3 (by omega)) ?_
 rintro e9 w9 ⟨⟨b9, t9_0, t9_1, t9_2, t9_3, t9_4, t9_5, t9_6, t9_7, t9_8, t9_9, t9_10, t9_11, t9_12, t9_13, t9_14, t9_15, t9_16, t9_17, t9_18, t9_19, t9_20, t9_21, t9_22, t9_23, rfl, L9, q9, h9a, h9b, h9c, h9d, h9e, h9f⟩, g9⟩
 refine ⟨_, rfl, ?_⟩
 replace L3 := L3.gr g6
 replace hB := hB.trans g9
 simp only [p3, p4]
 refine sv 4 (.slice (some ⟨b9, 0, none⟩) 6 6) ?_
 simp only [p3, p4]
 refine sq_nil ?_
 refine k8 _ _ ?_
 try clear k8 K8
 refine wp_seq_k (fun K10 k10 => ?_)
 refine rg [0, 1, 2] ?_
 refine se ?_
 refine ec 27 (from_i (1) (by omega) (by omega) _) ?_
 rintro e11 w11 ⟨⟨x11, y11, rfl, h11⟩, g11⟩
 refine ⟨_, rfl, ?_⟩
 replace hB := hB.trans g11
 simp only [p3, p4]
 refine se ?_
 refine ea 29 #[(.bool false), (.slice none 0 0)] 5 hB fun b12 w12 g12 L12 o12 q12 hB => ?_
 replace L2 := L2.gr (g9.trans g11)
 have ne2_12 := L2.ne o12
 replace L3 := L3.gr (g9.trans g11)
 have ne3_12 := L3.ne o12
 replace L9 := L9.gr g11
 have ne9_12 := L9.ne o12
 simp only [p3, p4]
 refine se ?_
 refine es 29 0 (.agg #[x11, y11]) [x11, y11] #[x11, y11] L12 hB q12 ⟨h11.one0, h11.one1, trivial⟩ fun w13 st13 kp13 L12 hB => ?_
 refine sq_nil ?_
 refine k10 _ _ ?_
 try clear k10 K10
 refine wp_seq_k (fun K14 k14 => ?_)
 refine wp_seq_k (fun K15 k15 => ?_)
 refine rg [0, 1, 2] ?_
 refine sv 28 (.slice (some ⟨b9, 0, none⟩) 6 6) ?_
 simp only [p3, p4]
 refine sv 29 (.int .i64 6) ?_
 simp only [p3, p4]
 refine sv 30 (.int .i64 0) ?_
 simp only [p3, p4]
 refine sq_nil ?_
 refine k15 _ _ ?_
 try clear k15 K15
 refine wp_block ?_
 refine wp_loop_rounds 8 ?_
 show Code.wp _ _ _ _ _
 refine wp_seq_k (fun K16 k16 => ?_)
 refine rg [0] ?_
 refine sv 31 (.bool true) ?_
 simp only [p3, p4]
 refine sq_nil ?_
 refine k16 _ _ ?_
 try clear k16 K16
 refine wp_seq_k (fun K17 k17 => ?_)
 refine wp_cond_true rfl ?_
 refine wp_skip ?_
 refine k17 _ _ ?_
 try clear k17 K17
 refine wp_seq_k (fun K18 k18 => ?_)
 refine wp_block ?_
 refine wp_seq_k (fun K19 k19 => ?_)
 refine rg [0, 1, 2, 3] ?_
 refine sv 32 (.pointer (some ⟨b9, 0, none⟩)) ?_
 simp only [p3, p4]
 replace L9 := st13.lc (L9.gr g12) ne9_12
 refine sw 33 (.agg #[t9_0, t9_1, t9_2, t9_3]) rfl (rl 31 0 [t9_0, t9_1, t9_2, t9_3] L9) ?_
 simp only [p3, p4]
 refine se ?_
 refine ea 31 #[(.bool false), (.slice none 0 0), (.bool false), (.slice none 0 0)] 7 hB fun b20 w20 g20 L20 o20 q20 hB => ?_
 replace L2 := st13.lc (L2.gr g12) ne2_12
 have ne2_20 := L2.ne o20
 replace L3 := st13.lc (L3.gr g12) ne3_12
 have ne3_20 := L3.ne o20
 have ne9_20 := L9.ne o20
 have ne12_20 := L12.ne o20
 simp only [p3, p4]
 refine se ?_
 refine es 31 0 (.agg #[t9_0, t9_1, t9_2, t9_3]) [t9_0, t9_1, t9_2, t9_3] #[t9_0, t9_1, t9_2, t9_3] L20 hB q20 ⟨h9a.one0, h9a.one1, h9a.one2, h9a.one3, trivial⟩ fun w21 st21 kp21 L20 hB => ?_
 refine sq_nil ?_
 refine k19 _ _ ?_
 try clear k19 K19
 refine wp_seq_k (fun K22 k22 => ?_)
 have hz23 := Below.size hB
 replace L2 := st21.lc (L2.gr g20) ne2_20
 have lt2_23 := L2.lt
 replace L3 := st21.lc (L3.gr g20) ne3_20
 have lt3_23 := L3.lt
 replace L9 := st21.lc (L9.gr g20) ne9_20
 have lt9_23 := L9.lt
 replace L12 := st21.lc (L12.gr g20) ne12_20
 have lt12_23 := L12.lt
 have lt20_23 := L20.lt
 have gd23 := Gr.drew w21
 replace hB := hB.trans gd23
 replace L12 := L12.gr gd23
 replace L20 := L20.gr gd23
 refine wp_region_flo (fun w' => Lc w' b12 #[x11, y11] 29 ∧ Lc w' b20 #[t9_0, t9_1, t9_2, t9_3] 31) [(true, 0), (true, 2), (true, 3), (false, 1), (false, 4), (false, 5), (false, 6), (true, 7), (true, 8), (true, 9), (true, 10)] [⟨11, 8, 29, #[(.bool false), (.slice none 0 0)]⟩, ⟨12, 9, 29, #[(.bool false), (.slice none 0 0)]⟩] [(false, 13), (false, 14), (true, 15)] (by kernel_rfl) (by kernel_rfl) (by kernel_rfl) (by kernel_rfl) (by kernel_rfl) (by decide) (fun _ _ _ _ _ h => h) (fun _ _ _ _ _ h => h) (fun w' o h => ⟨Lc.gr h.1 (Gr.alloc w' o), Lc.gr h.2 (Gr.alloc w' o)⟩) ⟨L12, L20⟩ (by intro f hf; simp only [List.mem_cons, List.not_mem_nil, or_false] at hf; rcases hf with rfl | rfl <;> first | exact alloc_zero (z := (.agg #[(.bool false), (.slice none 0 0)])) (by kernel_rfl) rfl | exact alloc_zero (z := (.agg #[(.bool false), (.slice none 0 0)])) (by kernel_rfl) rfl) ?_
 refine fw 35 (.agg #[t9_0, t9_1, t9_2, t9_3]) rfl (fun w' hS => (rl 31 0 [t9_0, t9_1, t9_2, t9_3] hS.2)) ?_
 simp only [p3, p4]
 refine fw 37 (.agg #[x11, y11]) rfl (fun w' hS => (rl 29 0 [x11, y11] hS.1)) ?_
 simp only [p3, p4]
 refine fw 38 (.agg #[t9_0, t9_1, t9_2, t9_3]) rfl (fun w' hS => (rl 31 0 [t9_0, t9_1, t9_2, t9_3] hS.2)) ?_
 simp only [p3, p4]
 refine flo_eff rfl rfl (fun w24 g24 _ K24 k24 => ?_)
 replace hB := hB.trans g24
 have kq26 := g11.kp.trans (g12.kp.trans (kp13.trans (g20.kp.trans (kp21.trans (gd23.kp.trans g24.kp)))))
 replace h9a := h9a.kp kq26
 refine ec 36 (den_i h9a) ?_
 rintro e25 w25 ⟨⟨x25, y25, rfl, h25⟩, g25⟩
 refine ⟨_, rfl, ?_⟩
 replace hB := hB.trans g25
 replace L12 := L12.gr (g24.trans g25)
 replace L20 := L20.gr (g24.trans g25)
 refine k24 _ _ g25 ⟨L12, L20⟩ ?_
 try clear k24 K24
 simp only [p3, p4]
 refine flo_eff rfl rfl (fun w27 g27 _ K27 k27 => ?_)
 replace hB := hB.trans g27
 have kq29 := g25.kp.trans g27.kp
 replace h9a := h9a.kp kq29
 refine ec 39 (den_i h9a) ?_
 rintro e28 w28 ⟨⟨x28, y28, rfl, h28⟩, g28⟩
 refine ⟨_, rfl, ?_⟩
 replace hB := hB.trans g28
 replace L12 := L12.gr (g27.trans g28)
 replace L20 := L20.gr (g27.trans g28)
 refine k27 _ _ g28 ⟨L12, L20⟩ ?_
 try clear k27 K27
 simp only [p3, p4]
 refine flo_eff rfl rfl (fun w30 g30 _ K30 k30 => ?_)
 replace hB := hB.trans g30
 have kq32 := g12.kp.trans (kp13.trans (g20.kp.trans (kp21.trans (gd23.kp.trans (g24.kp.trans (g25.kp.trans (g27.kp.trans (g28.kp.trans g30.kp))))))))
 replace h11 := h11.kp kq32
 replace h28 := h28.kp g30.kp
 refine ec 40 (gcd_i h11 h28 (by omega)) ?_
 rintro e31 w31 ⟨⟨x31, y31, rfl, h31⟩, g31⟩
 refine ⟨_, rfl, ?_⟩
 replace hB := hB.trans g31
 replace L12 := L12.gr (g30.trans g31)
 replace L20 := L20.gr (g30.trans g31)
 refine k30 _ _ g31 ⟨L12, L20⟩ ?_
 try clear k30 K30
 simp only [p3, p4]
 refine flo_eff rfl rfl (fun w33 g33 _ K33 k33 => ?_)
 replace hB := hB.trans g33
 have kq35 := g27.kp.trans (g28.kp.trans (g30.kp.trans (g31.kp.trans g33.kp)))
 replace h25 := h25.kp kq35
 replace h31 := h31.kp g33.kp
 refine ec 41 (divmod_i h25 h31 (gcd_ex _ _).1 (by omega)) ?_
 rintro e34 w34 ⟨⟨x34, y34, xr34, yr34, rfl, h34, hr34⟩, g34⟩
 refine ⟨_, rfl, ?_⟩
 replace hB := hB.trans g34
 replace L12 := L12.gr (g33.trans g34)
 replace L20 := L20.gr (g33.trans g34)
 refine k33 _ _ g34 ⟨L12, L20⟩ ?_
 try clear k33 K33
 simp only [p3, p4]
 refine fv 34 (.tuple #[(.agg #[x34, y34]), (.agg #[xr34, yr34]), (.int .i64 0)]) ?_
 simp only [p3, p4]
 refine fv 42 (.agg #[x34, y34]) ?_
 simp only [p3, p4]
 refine fv 43 (.agg #[xr34, yr34]) ?_
 simp only [p3, p4]
 refine fv 44 (.int .i64 0) ?_
 simp only [p3, p4]
 refine flo_nil (fun w36 g36 _ => ?_)
 replace hB := hB.trans g36
 refine floFin2 (fun b37 b38 (L37 : Lc w36 b37 #[(.bool false), (.slice none 0 0)] 29) q37 (L38 : Lc w36 b38 #[(.bool false), (.slice none 0 0)] 29) q38 ne37_38 => ?_)
 have ne2_37 : b2 ≠ b37 := Nat.ne_of_lt (Nat.lt_of_lt_of_le lt2_23 q37)
 have ne3_37 : b3 ≠ b37 := Nat.ne_of_lt (Nat.lt_of_lt_of_le lt3_23 q37)
 have ne9_37 : b9 ≠ b37 := Nat.ne_of_lt (Nat.lt_of_lt_of_le lt9_23 q37)
 have ne12_37 : b12 ≠ b37 := Nat.ne_of_lt (Nat.lt_of_lt_of_le lt12_23 q37)
 have ne20_37 : b20 ≠ b37 := Nat.ne_of_lt (Nat.lt_of_lt_of_le lt20_23 q37)
 replace q37 := Nat.le_trans hz23 q37
 have ne2_38 : b2 ≠ b38 := Nat.ne_of_lt (Nat.lt_of_lt_of_le lt2_23 q38)
 have ne3_38 : b3 ≠ b38 := Nat.ne_of_lt (Nat.lt_of_lt_of_le lt3_23 q38)
 have ne9_38 : b9 ≠ b38 := Nat.ne_of_lt (Nat.lt_of_lt_of_le lt9_23 q38)
 have ne12_38 : b12 ≠ b38 := Nat.ne_of_lt (Nat.lt_of_lt_of_le lt12_23 q38)
 have ne20_38 : b20 ≠ b38 := Nat.ne_of_lt (Nat.lt_of_lt_of_le lt20_23 q38)
 replace q38 := Nat.le_trans hz23 q38
 simp only [putl, p3, p4]
 refine oe ?_
 refine es 29 0 (.agg #[x34, y34]) [x34, y34] #[x34, y34] L37 hB q37 ⟨h34.one0, h34.one1, trivial⟩ fun w40 st40 kp40 L37 hB => ?_
 replace L12 := st40.lc (L12.gr g36) ne12_37
 replace L20 := st40.lc (L20.gr g36) ne20_37
 refine ⟨⟨L12, L20⟩, ?_⟩
 refine oe ?_
 replace L38 := st40.lc L38 (Ne.symm ne37_38)
 refine es 29 0 (.agg #[xr34, yr34]) [xr34, yr34] #[xr34, yr34] L38 hB q38 ⟨hr34.one0, hr34.one1, trivial⟩ fun w42 st42 kp42 L38 hB => ?_
 replace L12 := st42.lc L12 ne12_38
 replace L20 := st42.lc L20 ne20_38
 refine ⟨⟨L12, L20⟩, ?_⟩
 refine ov 10 (.int .i64 0) ?_
 simp only [p3, p4]
 refine ord_nil ?_
 refine k22 _ _ ?_
 try clear k22 K22
 refine rg [0, 1, 2, 3] ?_
 refine sw 45 (.agg #[x11, y11]) rfl (rl 29 0 [x11, y11] L12) ?_
 simp only [p3, p4]
 replace L37 := st42.lc L37 ne37_38
 refine sw 46 (.agg #[x34, y34]) rfl (rl 29 0 [x34, y34] L37) ?_
 simp only [p3, p4]
 refine se ?_
 have kq44 := g31.kp.trans (g33.kp.trans (g34.kp.trans (g36.kp.trans (kp40.trans kp42))))
 replace h11 := h11.kp kq44
 have kq45 := g36.kp.trans (kp40.trans kp42)
 replace h34 := h34.kp kq45
 refine ec 47 (mul_i h11 h34 (by omega)) ?_
 rintro e43 w43 ⟨⟨x43, y43, rfl, h43⟩, g43⟩
 refine ⟨_, rfl, ?_⟩
 replace hB := hB.trans g43
 replace h43 := (show IsInt _ _ _ _ (lcmT (1) (a1.den : Int)) from h43)
 simp only [p3, p4]
 refine se ?_
 replace L12 := L12.gr g43
 refine es 29 0 (.agg #[x43, y43]) [x43, y43] #[x43, y43] L12 hB q12 ⟨h43.one0, h43.one1, trivial⟩ fun w46 st46 kp46 L12 hB => ?_
 refine sq_nil ?_
 refine k18 _ _ ?_
 try clear k18 K18
 refine rg [0, 1] ?_
 refine sv 48 (.int .i64 1) ?_
 simp only [p3, p4]
 refine sv 30 (.int .i64 1) ?_
 simp only [p3, p4]
 refine sq_nil ?_
 show Code.rounds _ _ _ _ _ _
 show Code.wp _ _ _ _ _
 refine wp_seq_k (fun K47 k47 => ?_)
 refine rg [0] ?_
 refine sv 31 (.bool true) ?_
 simp only [p3, p4]
 refine sq_nil ?_
 refine k47 _ _ ?_
 try clear k47 K47
 refine wp_seq_k (fun K48 k48 => ?_)
 refine wp_cond_true rfl ?_
 refine wp_skip ?_
 refine k48 _ _ ?_
 try clear k48 K48
 refine wp_seq_k (fun K49 k49 => ?_)
 refine wp_block ?_
 refine wp_seq_k (fun K50 k50 => ?_)
 refine rg [0, 1, 2, 3] ?_
 refine sv 32 (.pointer (some ⟨b9, 4, none⟩)) ?_
 simp only [p3, p4]
 replace L9 := st46.lc ((st42.lc (st40.lc (L9.gr (gd23.trans (g24.trans (g25.trans (g27.trans (g28.trans (g30.trans (g31.trans (g33.trans (g34.trans g36)))))))))) ne9_37) ne9_38).gr g43) ne9_12
 refine sw 33 (.agg #[t9_4, t9_5, t9_6, t9_7]) rfl (rl 31 4 [t9_4, t9_5, t9_6, t9_7] L9) ?_
 simp only [p3, p4]
 refine se ?_
 refine ea 31 #[(.bool false), (.slice none 0 0), (.bool false), (.slice none 0 0)] 7 hB fun b51 w51 g51 L51 o51 q51 hB => ?_
 replace L2 := st46.lc ((st42.lc (st40.lc (L2.gr (gd23.trans (g24.trans (g25.trans (g27.trans (g28.trans (g30.trans (g31.trans (g33.trans (g34.trans g36)))))))))) ne2_37) ne2_38).gr g43) ne2_12
 have ne2_51 := L2.ne o51
 replace L3 := st46.lc ((st42.lc (st40.lc (L3.gr (gd23.trans (g24.trans (g25.trans (g27.trans (g28.trans (g30.trans (g31.trans (g33.trans (g34.trans g36)))))))))) ne3_37) ne3_38).gr g43) ne3_12
 have ne3_51 := L3.ne o51
 have ne9_51 := L9.ne o51
 have ne12_51 := L12.ne o51
 replace L37 := st46.lc (L37.gr g43) (Ne.symm ne12_37)
 have ne37_51 := L37.ne o51
 replace L38 := st46.lc (L38.gr g43) (Ne.symm ne12_38)
 have ne38_51 := L38.ne o51
 simp only [p3, p4]
 refine se ?_
 refine es 31 0 (.agg #[t9_4, t9_5, t9_6, t9_7]) [t9_4, t9_5, t9_6, t9_7] #[t9_4, t9_5, t9_6, t9_7] L51 hB q51 ⟨h9b.one0, h9b.one1, h9b.one2, h9b.one3, trivial⟩ fun w52 st52 kp52 L51 hB => ?_
 refine sq_nil ?_
 refine k50 _ _ ?_
 try clear k50 K50
 refine wp_seq_k (fun K53 k53 => ?_)
 have hz54 := Below.size hB
 replace L2 := st52.lc (L2.gr g51) ne2_51
 have lt2_54 := L2.lt
 replace L3 := st52.lc (L3.gr g51) ne3_51
 have lt3_54 := L3.lt
 replace L9 := st52.lc (L9.gr g51) ne9_51
 have lt9_54 := L9.lt
 replace L12 := st52.lc (L12.gr g51) ne12_51
 have lt12_54 := L12.lt
 replace L37 := st52.lc (L37.gr g51) ne37_51
 have lt37_54 := L37.lt
 replace L38 := st52.lc (L38.gr g51) ne38_51
 have lt38_54 := L38.lt
 have lt51_54 := L51.lt
 have gd54 := Gr.drew w52
 replace hB := hB.trans gd54
 replace L12 := L12.gr gd54
 replace L51 := L51.gr gd54
 refine wp_region_flo (fun w' => Lc w' b12 #[x43, y43] 29 ∧ Lc w' b51 #[t9_4, t9_5, t9_6, t9_7] 31) [(true, 0), (true, 2), (true, 3), (false, 1), (false, 4), (false, 5), (false, 6), (true, 7), (true, 8), (true, 9), (true, 10)] [⟨11, 8, 29, #[(.bool false), (.slice none 0 0)]⟩, ⟨12, 9, 29, #[(.bool false), (.slice none 0 0)]⟩] [(false, 13), (false, 14), (true, 15)] (by kernel_rfl) (by kernel_rfl) (by kernel_rfl) (by kernel_rfl) (by kernel_rfl) (by decide) (fun _ _ _ _ _ h => h) (fun _ _ _ _ _ h => h) (fun w' o h => ⟨Lc.gr h.1 (Gr.alloc w' o), Lc.gr h.2 (Gr.alloc w' o)⟩) ⟨L12, L51⟩ (by intro f hf; simp only [List.mem_cons, List.not_mem_nil, or_false] at hf; rcases hf with rfl | rfl <;> first | exact alloc_zero (z := (.agg #[(.bool false), (.slice none 0 0)])) (by kernel_rfl) rfl | exact alloc_zero (z := (.agg #[(.bool false), (.slice none 0 0)])) (by kernel_rfl) rfl) ?_
 refine fw 35 (.agg #[t9_4, t9_5, t9_6, t9_7]) rfl (fun w' hS => (rl 31 0 [t9_4, t9_5, t9_6, t9_7] hS.2)) ?_
 simp only [p3, p4]
 refine fw 37 (.agg #[x43, y43]) rfl (fun w' hS => (rl 29 0 [x43, y43] hS.1)) ?_
 simp only [p3, p4]
 refine fw 38 (.agg #[t9_4, t9_5, t9_6, t9_7]) rfl (fun w' hS => (rl 31 0 [t9_4, t9_5, t9_6, t9_7] hS.2)) ?_
 simp only [p3, p4]
 refine flo_eff rfl rfl (fun w55 g55 _ K55 k55 => ?_)
 replace hB := hB.trans g55
 have kq57 := g11.kp.trans (g12.kp.trans (kp13.trans (g20.kp.trans (kp21.trans (gd23.kp.trans (g24.kp.trans (g25.kp.trans (g27.kp.trans (g28.kp.trans (g30.kp.trans (g31.kp.trans (g33.kp.trans (g34.kp.trans (g36.kp.trans (kp40.trans (kp42.trans (g43.kp.trans (kp46.trans (g51.kp.trans (kp52.trans (gd54.kp.trans g55.kp)))))))))))))))))))))
 replace h9b := h9b.kp kq57
 refine ec 36 (den_i h9b) ?_
 rintro e56 w56 ⟨⟨x56, y56, rfl, h56⟩, g56⟩
 refine ⟨_, rfl, ?_⟩
 replace hB := hB.trans g56
 replace L12 := L12.gr (g55.trans g56)
 replace L51 := L51.gr (g55.trans g56)
 refine k55 _ _ g56 ⟨L12, L51⟩ ?_
 try clear k55 K55
 simp only [p3, p4]
 refine flo_eff rfl rfl (fun w58 g58 _ K58 k58 => ?_)
 replace hB := hB.trans g58
 have kq60 := g56.kp.trans g58.kp
 replace h9b := h9b.kp kq60
 refine ec 39 (den_i h9b) ?_
 rintro e59 w59 ⟨⟨x59, y59, rfl, h59⟩, g59⟩
 refine ⟨_, rfl, ?_⟩
 replace hB := hB.trans g59
 replace L12 := L12.gr (g58.trans g59)
 replace L51 := L51.gr (g58.trans g59)
 refine k58 _ _ g59 ⟨L12, L51⟩ ?_
 try clear k58 K58
 simp only [p3, p4]
 refine flo_eff rfl rfl (fun w61 g61 _ K61 k61 => ?_)
 replace hB := hB.trans g61
 have kq63 := kp46.trans (g51.kp.trans (kp52.trans (gd54.kp.trans (g55.kp.trans (g56.kp.trans (g58.kp.trans (g59.kp.trans g61.kp)))))))
 replace h43 := h43.kp kq63
 replace h59 := h59.kp g61.kp
 refine ec 40 (gcd_i h43 h59 (by omega)) ?_
 rintro e62 w62 ⟨⟨x62, y62, rfl, h62⟩, g62⟩
 refine ⟨_, rfl, ?_⟩
 replace hB := hB.trans g62
 replace L12 := L12.gr (g61.trans g62)
 replace L51 := L51.gr (g61.trans g62)
 refine k61 _ _ g62 ⟨L12, L51⟩ ?_
 try clear k61 K61
 simp only [p3, p4]
 refine flo_eff rfl rfl (fun w64 g64 _ K64 k64 => ?_)
 replace hB := hB.trans g64
 have kq66 := g58.kp.trans (g59.kp.trans (g61.kp.trans (g62.kp.trans g64.kp)))
 replace h56 := h56.kp kq66
 replace h62 := h62.kp g64.kp
 refine ec 41 (divmod_i h56 h62 (gcd_ex _ _).1 (by omega)) ?_
 rintro e65 w65 ⟨⟨x65, y65, xr65, yr65, rfl, h65, hr65⟩, g65⟩
 refine ⟨_, rfl, ?_⟩
 replace hB := hB.trans g65
 replace L12 := L12.gr (g64.trans g65)
 replace L51 := L51.gr (g64.trans g65)
 refine k64 _ _ g65 ⟨L12, L51⟩ ?_
 try clear k64 K64
 simp only [p3, p4]
 refine fv 34 (.tuple #[(.agg #[x65, y65]), (.agg #[xr65, yr65]), (.int .i64 0)]) ?_
 simp only [p3, p4]
 refine fv 42 (.agg #[x65, y65]) ?_
 simp only [p3, p4]
 refine fv 43 (.agg #[xr65, yr65]) ?_
 simp only [p3, p4]
 refine fv 44 (.int .i64 0) ?_
 simp only [p3, p4]
 refine flo_nil (fun w67 g67 _ => ?_)
 replace hB := hB.trans g67
 refine floFin2 (fun b68 b69 (L68 : Lc w67 b68 #[(.bool false), (.slice none 0 0)] 29) q68 (L69 : Lc w67 b69 #[(.bool false), (.slice none 0 0)] 29) q69 ne68_69 => ?_)
 have ne2_68 : b2 ≠ b68 := Nat.ne_of_lt (Nat.lt_of_lt_of_le lt2_54 q68)
 have ne3_68 : b3 ≠ b68 := Nat.ne_of_lt (Nat.lt_of_lt_of_le lt3_54 q68)
 have ne9_68 : b9 ≠ b68 := Nat.ne_of_lt (Nat.lt_of_lt_of_le lt9_54 q68)
 have ne12_68 : b12 ≠ b68 := Nat.ne_of_lt (Nat.lt_of_lt_of_le lt12_54 q68)
 have ne37_68 : b37 ≠ b68 := Nat.ne_of_lt (Nat.lt_of_lt_of_le lt37_54 q68)
 have ne38_68 : b38 ≠ b68 := Nat.ne_of_lt (Nat.lt_of_lt_of_le lt38_54 q68)
 have ne51_68 : b51 ≠ b68 := Nat.ne_of_lt (Nat.lt_of_lt_of_le lt51_54 q68)
 replace q68 := Nat.le_trans hz54 q68
 have ne2_69 : b2 ≠ b69 := Nat.ne_of_lt (Nat.lt_of_lt_of_le lt2_54 q69)
 have ne3_69 : b3 ≠ b69 := Nat.ne_of_lt (Nat.lt_of_lt_of_le lt3_54 q69)
 have ne9_69 : b9 ≠ b69 := Nat.ne_of_lt (Nat.lt_of_lt_of_le lt9_54 q69)
 have ne12_69 : b12 ≠ b69 := Nat.ne_of_lt (Nat.lt_of_lt_of_le lt12_54 q69)
 have ne37_69 : b37 ≠ b69 := Nat.ne_of_lt (Nat.lt_of_lt_of_le lt37_54 q69)
 have ne38_69 : b38 ≠ b69 := Nat.ne_of_lt (Nat.lt_of_lt_of_le lt38_54 q69)
 have ne51_69 : b51 ≠ b69 := Nat.ne_of_lt (Nat.lt_of_lt_of_le lt51_54 q69)
 replace q69 := Nat.le_trans hz54 q69
 simp only [putl, p3, p4]
 refine oe ?_
 refine es 29 0 (.agg #[x65, y65]) [x65, y65] #[x65, y65] L68 hB q68 ⟨h65.one0, h65.one1, trivial⟩ fun w71 st71 kp71 L68 hB => ?_
 replace L12 := st71.lc (L12.gr g67) ne12_68
 replace L51 := st71.lc (L51.gr g67) ne51_68
 refine ⟨⟨L12, L51⟩, ?_⟩
 refine oe ?_
 replace L69 := st71.lc L69 (Ne.symm ne68_69)
 refine es 29 0 (.agg #[xr65, yr65]) [xr65, yr65] #[xr65, yr65] L69 hB q69 ⟨hr65.one0, hr65.one1, trivial⟩ fun w73 st73 kp73 L69 hB => ?_
 replace L12 := st73.lc L12 ne12_69
 replace L51 := st73.lc L51 ne51_69
 refine ⟨⟨L12, L51⟩, ?_⟩
 refine ov 10 (.int .i64 0) ?_
 simp only [p3, p4]
 refine ord_nil ?_
 refine k53 _ _ ?_
 try clear k53 K53
 refine rg [0, 1, 2, 3] ?_
 refine sw 45 (.agg #[x43, y43]) rfl (rl 29 0 [x43, y43] L12) ?_
 simp only [p3, p4]
 replace L68 := st73.lc L68 ne68_69
 refine sw 46 (.agg #[x65, y65]) rfl (rl 29 0 [x65, y65] L68) ?_
 simp only [p3, p4]
 refine se ?_
 have kq75 := g62.kp.trans (g64.kp.trans (g65.kp.trans (g67.kp.trans (kp71.trans kp73))))
 replace h43 := h43.kp kq75
 have kq76 := g67.kp.trans (kp71.trans kp73)
 replace h65 := h65.kp kq76
 refine ec 47 (mul_i h43 h65 (by omega)) ?_
 rintro e74 w74 ⟨⟨x74, y74, rfl, h74⟩, g74⟩
 refine ⟨_, rfl, ?_⟩
 replace hB := hB.trans g74
 replace h74 := (show IsInt _ _ _ _ (lcmT (lcmT (1) (a1.den : Int)) (a2.den : Int)) from h74)
 simp only [p3, p4]
 refine se ?_
 replace L12 := L12.gr g74
 refine es 29 0 (.agg #[x74, y74]) [x74, y74] #[x74, y74] L12 hB q12 ⟨h74.one0, h74.one1, trivial⟩ fun w77 st77 kp77 L12 hB => ?_
 refine sq_nil ?_
 refine k49 _ _ ?_
 try clear k49 K49
 refine rg [0, 1] ?_
 refine sv 48 (.int .i64 2) ?_
 simp only [p3, p4]
 refine sv 30 (.int .i64 2) ?_
 simp only [p3, p4]
 refine sq_nil ?_
 show Code.rounds _ _ _ _ _ _
 show Code.wp _ _ _ _ _
 refine wp_seq_k (fun K78 k78 => ?_)
 refine rg [0] ?_
 refine sv 31 (.bool true) ?_
 simp only [p3, p4]
 refine sq_nil ?_
 refine k78 _ _ ?_
 try clear k78 K78
 refine wp_seq_k (fun K79 k79 => ?_)
 refine wp_cond_true rfl ?_
 refine wp_skip ?_
 refine k79 _ _ ?_
 try clear k79 K79
 refine wp_seq_k (fun K80 k80 => ?_)
 refine wp_block ?_
 refine wp_seq_k (fun K81 k81 => ?_)
 refine rg [0, 1, 2, 3] ?_
 refine sv 32 (.pointer (some ⟨b9, 8, none⟩)) ?_
 simp only [p3, p4]
 replace L9 := st77.lc ((st73.lc (st71.lc (L9.gr (gd54.trans (g55.trans (g56.trans (g58.trans (g59.trans (g61.trans (g62.trans (g64.trans (g65.trans g67)))))))))) ne9_68) ne9_69).gr g74) ne9_12
 refine sw 33 (.agg #[t9_8, t9_9, t9_10, t9_11]) rfl (rl 31 8 [t9_8, t9_9, t9_10, t9_11] L9) ?_
 simp only [p3, p4]
 refine se ?_
 refine ea 31 #[(.bool false), (.slice none 0 0), (.bool false), (.slice none 0 0)] 7 hB fun b82 w82 g82 L82 o82 q82 hB => ?_
 replace L2 := st77.lc ((st73.lc (st71.lc (L2.gr (gd54.trans (g55.trans (g56.trans (g58.trans (g59.trans (g61.trans (g62.trans (g64.trans (g65.trans g67)))))))))) ne2_68) ne2_69).gr g74) ne2_12
 have ne2_82 := L2.ne o82
 replace L3 := st77.lc ((st73.lc (st71.lc (L3.gr (gd54.trans (g55.trans (g56.trans (g58.trans (g59.trans (g61.trans (g62.trans (g64.trans (g65.trans g67)))))))))) ne3_68) ne3_69).gr g74) ne3_12
 have ne3_82 := L3.ne o82
 have ne9_82 := L9.ne o82
 have ne12_82 := L12.ne o82
 replace L68 := st77.lc (L68.gr g74) (Ne.symm ne12_68)
 have ne68_82 := L68.ne o82
 replace L69 := st77.lc (L69.gr g74) (Ne.symm ne12_69)
 have ne69_82 := L69.ne o82
 simp only [p3, p4]
 refine se ?_
 refine es 31 0 (.agg #[t9_8, t9_9, t9_10, t9_11]) [t9_8, t9_9, t9_10, t9_11] #[t9_8, t9_9, t9_10, t9_11] L82 hB q82 ⟨h9c.one0, h9c.one1, h9c.one2, h9c.one3, trivial⟩ fun w83 st83 kp83 L82 hB => ?_
 refine sq_nil ?_
 refine k81 _ _ ?_
 try clear k81 K81
 refine wp_seq_k (fun K84 k84 => ?_)
 have hz85 := Below.size hB
 replace L2 := st83.lc (L2.gr g82) ne2_82
 have lt2_85 := L2.lt
 replace L3 := st83.lc (L3.gr g82) ne3_82
 have lt3_85 := L3.lt
 replace L9 := st83.lc (L9.gr g82) ne9_82
 have lt9_85 := L9.lt
 replace L12 := st83.lc (L12.gr g82) ne12_82
 have lt12_85 := L12.lt
 replace L68 := st83.lc (L68.gr g82) ne68_82
 have lt68_85 := L68.lt
 replace L69 := st83.lc (L69.gr g82) ne69_82
 have lt69_85 := L69.lt
 have lt82_85 := L82.lt
 have gd85 := Gr.drew w83
 replace hB := hB.trans gd85
 replace L12 := L12.gr gd85
 replace L82 := L82.gr gd85
 refine wp_region_flo (fun w' => Lc w' b12 #[x74, y74] 29 ∧ Lc w' b82 #[t9_8, t9_9, t9_10, t9_11] 31) [(true, 0), (true, 2), (true, 3), (false, 1), (false, 4), (false, 5), (false, 6), (true, 7), (true, 8), (true, 9), (true, 10)] [⟨11, 8, 29, #[(.bool false), (.slice none 0 0)]⟩, ⟨12, 9, 29, #[(.bool false), (.slice none 0 0)]⟩] [(false, 13), (false, 14), (true, 15)] (by kernel_rfl) (by kernel_rfl) (by kernel_rfl) (by kernel_rfl) (by kernel_rfl) (by decide) (fun _ _ _ _ _ h => h) (fun _ _ _ _ _ h => h) (fun w' o h => ⟨Lc.gr h.1 (Gr.alloc w' o), Lc.gr h.2 (Gr.alloc w' o)⟩) ⟨L12, L82⟩ (by intro f hf; simp only [List.mem_cons, List.not_mem_nil, or_false] at hf; rcases hf with rfl | rfl <;> first | exact alloc_zero (z := (.agg #[(.bool false), (.slice none 0 0)])) (by kernel_rfl) rfl | exact alloc_zero (z := (.agg #[(.bool false), (.slice none 0 0)])) (by kernel_rfl) rfl) ?_
 refine fw 35 (.agg #[t9_8, t9_9, t9_10, t9_11]) rfl (fun w' hS => (rl 31 0 [t9_8, t9_9, t9_10, t9_11] hS.2)) ?_
 simp only [p3, p4]
 refine fw 37 (.agg #[x74, y74]) rfl (fun w' hS => (rl 29 0 [x74, y74] hS.1)) ?_
 simp only [p3, p4]
 refine fw 38 (.agg #[t9_8, t9_9, t9_10, t9_11]) rfl (fun w' hS => (rl 31 0 [t9_8, t9_9, t9_10, t9_11] hS.2)) ?_
 simp only [p3, p4]
 refine flo_eff rfl rfl (fun w86 g86 _ K86 k86 => ?_)
 replace hB := hB.trans g86
 have kq88 := g11.kp.trans (g12.kp.trans (kp13.trans (g20.kp.trans (kp21.trans (gd23.kp.trans (g24.kp.trans (g25.kp.trans (g27.kp.trans (g28.kp.trans (g30.kp.trans (g31.kp.trans (g33.kp.trans (g34.kp.trans (g36.kp.trans (kp40.trans (kp42.trans (g43.kp.trans (kp46.trans (g51.kp.trans (kp52.trans (gd54.kp.trans (g55.kp.trans (g56.kp.trans (g58.kp.trans (g59.kp.trans (g61.kp.trans (g62.kp.trans (g64.kp.trans (g65.kp.trans (g67.kp.trans (kp71.trans (kp73.trans (g74.kp.trans (kp77.trans (g82.kp.trans (kp83.trans (gd85.kp.trans g86.kp)))))))))))))))))))))))))))))))))))))
 replace h9c := h9c.kp kq88
 refine ec 36 (den_i h9c) ?_
 rintro e87 w87 ⟨⟨x87, y87, rfl, h87⟩, g87⟩
 refine ⟨_, rfl, ?_⟩
 replace hB := hB.trans g87
 replace L12 := L12.gr (g86.trans g87)
 replace L82 := L82.gr (g86.trans g87)
 refine k86 _ _ g87 ⟨L12, L82⟩ ?_
 try clear k86 K86
 simp only [p3, p4]
 refine flo_eff rfl rfl (fun w89 g89 _ K89 k89 => ?_)
 replace hB := hB.trans g89
 have kq91 := g87.kp.trans g89.kp
 replace h9c := h9c.kp kq91
 refine ec 39 (den_i h9c) ?_
 rintro e90 w90 ⟨⟨x90, y90, rfl, h90⟩, g90⟩
 refine ⟨_, rfl, ?_⟩
 replace hB := hB.trans g90
 replace L12 := L12.gr (g89.trans g90)
 replace L82 := L82.gr (g89.trans g90)
 refine k89 _ _ g90 ⟨L12, L82⟩ ?_
 try clear k89 K89
 simp only [p3, p4]
 refine flo_eff rfl rfl (fun w92 g92 _ K92 k92 => ?_)
 replace hB := hB.trans g92
 have kq94 := kp77.trans (g82.kp.trans (kp83.trans (gd85.kp.trans (g86.kp.trans (g87.kp.trans (g89.kp.trans (g90.kp.trans g92.kp)))))))
 replace h74 := h74.kp kq94
 replace h90 := h90.kp g92.kp
 refine ec 40 (gcd_i h74 h90 (by omega)) ?_
 rintro e93 w93 ⟨⟨x93, y93, rfl, h93⟩, g93⟩
 refine ⟨_, rfl, ?_⟩
 replace hB := hB.trans g93
 replace L12 := L12.gr (g92.trans g93)
 replace L82 := L82.gr (g92.trans g93)
 refine k92 _ _ g93 ⟨L12, L82⟩ ?_
 try clear k92 K92
 simp only [p3, p4]
 refine flo_eff rfl rfl (fun w95 g95 _ K95 k95 => ?_)
 replace hB := hB.trans g95
 have kq97 := g89.kp.trans (g90.kp.trans (g92.kp.trans (g93.kp.trans g95.kp)))
 replace h87 := h87.kp kq97
 replace h93 := h93.kp g95.kp
 refine ec 41 (divmod_i h87 h93 (gcd_ex _ _).1 (by omega)) ?_
 rintro e96 w96 ⟨⟨x96, y96, xr96, yr96, rfl, h96, hr96⟩, g96⟩
 refine ⟨_, rfl, ?_⟩
 replace hB := hB.trans g96
 replace L12 := L12.gr (g95.trans g96)
 replace L82 := L82.gr (g95.trans g96)
 refine k95 _ _ g96 ⟨L12, L82⟩ ?_
 try clear k95 K95
 simp only [p3, p4]
 refine fv 34 (.tuple #[(.agg #[x96, y96]), (.agg #[xr96, yr96]), (.int .i64 0)]) ?_
 simp only [p3, p4]
 refine fv 42 (.agg #[x96, y96]) ?_
 simp only [p3, p4]
 refine fv 43 (.agg #[xr96, yr96]) ?_
 simp only [p3, p4]
 refine fv 44 (.int .i64 0) ?_
 simp only [p3, p4]
 refine flo_nil (fun w98 g98 _ => ?_)
 replace hB := hB.trans g98
 refine floFin2 (fun b99 b100 (L99 : Lc w98 b99 #[(.bool false), (.slice none 0 0)] 29) q99 (L100 : Lc w98 b100 #[(.bool false), (.slice none 0 0)] 29) q100 ne99_100 => ?_)
 have ne2_99 : b2 ≠ b99 := Nat.ne_of_lt (Nat.lt_of_lt_of_le lt2_85 q99)
 have ne3_99 : b3 ≠ b99 := Nat.ne_of_lt (Nat.lt_of_lt_of_le lt3_85 q99)
 have ne9_99 : b9 ≠ b99 := Nat.ne_of_lt (Nat.lt_of_lt_of_le lt9_85 q99)
 have ne12_99 : b12 ≠ b99 := Nat.ne_of_lt (Nat.lt_of_lt_of_le lt12_85 q99)
 have ne68_99 : b68 ≠ b99 := Nat.ne_of_lt (Nat.lt_of_lt_of_le lt68_85 q99)
 have ne69_99 : b69 ≠ b99 := Nat.ne_of_lt (Nat.lt_of_lt_of_le lt69_85 q99)
 have ne82_99 : b82 ≠ b99 := Nat.ne_of_lt (Nat.lt_of_lt_of_le lt82_85 q99)
 replace q99 := Nat.le_trans hz85 q99
 have ne2_100 : b2 ≠ b100 := Nat.ne_of_lt (Nat.lt_of_lt_of_le lt2_85 q100)
 have ne3_100 : b3 ≠ b100 := Nat.ne_of_lt (Nat.lt_of_lt_of_le lt3_85 q100)
 have ne9_100 : b9 ≠ b100 := Nat.ne_of_lt (Nat.lt_of_lt_of_le lt9_85 q100)
 have ne12_100 : b12 ≠ b100 := Nat.ne_of_lt (Nat.lt_of_lt_of_le lt12_85 q100)
 have ne68_100 : b68 ≠ b100 := Nat.ne_of_lt (Nat.lt_of_lt_of_le lt68_85 q100)
 have ne69_100 : b69 ≠ b100 := Nat.ne_of_lt (Nat.lt_of_lt_of_le lt69_85 q100)
 have ne82_100 : b82 ≠ b100 := Nat.ne_of_lt (Nat.lt_of_lt_of_le lt82_85 q100)
 replace q100 := Nat.le_trans hz85 q100
 simp only [putl, p3, p4]
 refine oe ?_
 refine es 29 0 (.agg #[x96, y96]) [x96, y96] #[x96, y96] L99 hB q99 ⟨h96.one0, h96.one1, trivial⟩ fun w102 st102 kp102 L99 hB => ?_
 replace L12 := st102.lc (L12.gr g98) ne12_99
 replace L82 := st102.lc (L82.gr g98) ne82_99
 refine ⟨⟨L12, L82⟩, ?_⟩
 refine oe ?_
 replace L100 := st102.lc L100 (Ne.symm ne99_100)
 refine es 29 0 (.agg #[xr96, yr96]) [xr96, yr96] #[xr96, yr96] L100 hB q100 ⟨hr96.one0, hr96.one1, trivial⟩ fun w104 st104 kp104 L100 hB => ?_
 replace L12 := st104.lc L12 ne12_100
 replace L82 := st104.lc L82 ne82_100
 refine ⟨⟨L12, L82⟩, ?_⟩
 refine ov 10 (.int .i64 0) ?_
 simp only [p3, p4]
 refine ord_nil ?_
 refine k84 _ _ ?_
 try clear k84 K84
 refine rg [0, 1, 2, 3] ?_
 refine sw 45 (.agg #[x74, y74]) rfl (rl 29 0 [x74, y74] L12) ?_
 simp only [p3, p4]
 replace L99 := st104.lc L99 ne99_100
 refine sw 46 (.agg #[x96, y96]) rfl (rl 29 0 [x96, y96] L99) ?_
 simp only [p3, p4]
 refine se ?_
 have kq106 := g93.kp.trans (g95.kp.trans (g96.kp.trans (g98.kp.trans (kp102.trans kp104))))
 replace h74 := h74.kp kq106
 have kq107 := g98.kp.trans (kp102.trans kp104)
 replace h96 := h96.kp kq107
 refine ec 47 (mul_i h74 h96 (by omega)) ?_
 rintro e105 w105 ⟨⟨x105, y105, rfl, h105⟩, g105⟩
 refine ⟨_, rfl, ?_⟩
 replace hB := hB.trans g105
 replace h105 := (show IsInt _ _ _ _ (lcmT (lcmT (lcmT (1) (a1.den : Int)) (a2.den : Int)) (a3.den : Int)) from h105)
 simp only [p3, p4]
 refine se ?_
 replace L12 := L12.gr g105
 refine es 29 0 (.agg #[x105, y105]) [x105, y105] #[x105, y105] L12 hB q12 ⟨h105.one0, h105.one1, trivial⟩ fun w108 st108 kp108 L12 hB => ?_
 refine sq_nil ?_
 refine k80 _ _ ?_
 try clear k80 K80
 refine rg [0, 1] ?_
 refine sv 48 (.int .i64 3) ?_
 simp only [p3, p4]
 refine sv 30 (.int .i64 3) ?_
 simp only [p3, p4]
 refine sq_nil ?_
 show Code.rounds _ _ _ _ _ _
 show Code.wp _ _ _ _ _
 refine wp_seq_k (fun K109 k109 => ?_)
 refine rg [0] ?_
 refine sv 31 (.bool true) ?_
 simp only [p3, p4]
 refine sq_nil ?_
 refine k109 _ _ ?_
 try clear k109 K109
 refine wp_seq_k (fun K110 k110 => ?_)
 refine wp_cond_true rfl ?_
 refine wp_skip ?_
 refine k110 _ _ ?_
 try clear k110 K110
 refine wp_seq_k (fun K111 k111 => ?_)
 refine wp_block ?_
 refine wp_seq_k (fun K112 k112 => ?_)
 refine rg [0, 1, 2, 3] ?_
 refine sv 32 (.pointer (some ⟨b9, 12, none⟩)) ?_
 simp only [p3, p4]
 replace L9 := st108.lc ((st104.lc (st102.lc (L9.gr (gd85.trans (g86.trans (g87.trans (g89.trans (g90.trans (g92.trans (g93.trans (g95.trans (g96.trans g98)))))))))) ne9_99) ne9_100).gr g105) ne9_12
 refine sw 33 (.agg #[t9_12, t9_13, t9_14, t9_15]) rfl (rl 31 12 [t9_12, t9_13, t9_14, t9_15] L9) ?_
 simp only [p3, p4]
 refine se ?_
 refine ea 31 #[(.bool false), (.slice none 0 0), (.bool false), (.slice none 0 0)] 7 hB fun b113 w113 g113 L113 o113 q113 hB => ?_
 replace L2 := st108.lc ((st104.lc (st102.lc (L2.gr (gd85.trans (g86.trans (g87.trans (g89.trans (g90.trans (g92.trans (g93.trans (g95.trans (g96.trans g98)))))))))) ne2_99) ne2_100).gr g105) ne2_12
 have ne2_113 := L2.ne o113
 replace L3 := st108.lc ((st104.lc (st102.lc (L3.gr (gd85.trans (g86.trans (g87.trans (g89.trans (g90.trans (g92.trans (g93.trans (g95.trans (g96.trans g98)))))))))) ne3_99) ne3_100).gr g105) ne3_12
 have ne3_113 := L3.ne o113
 have ne9_113 := L9.ne o113
 have ne12_113 := L12.ne o113
 replace L99 := st108.lc (L99.gr g105) (Ne.symm ne12_99)
 have ne99_113 := L99.ne o113
 replace L100 := st108.lc (L100.gr g105) (Ne.symm ne12_100)
 have ne100_113 := L100.ne o113
 simp only [p3, p4]
 refine se ?_
 refine es 31 0 (.agg #[t9_12, t9_13, t9_14, t9_15]) [t9_12, t9_13, t9_14, t9_15] #[t9_12, t9_13, t9_14, t9_15] L113 hB q113 ⟨h9d.one0, h9d.one1, h9d.one2, h9d.one3, trivial⟩ fun w114 st114 kp114 L113 hB => ?_
 refine sq_nil ?_
 refine k112 _ _ ?_
 try clear k112 K112
 refine wp_seq_k (fun K115 k115 => ?_)
 have hz116 := Below.size hB
 replace L2 := st114.lc (L2.gr g113) ne2_113
 have lt2_116 := L2.lt
 replace L3 := st114.lc (L3.gr g113) ne3_113
 have lt3_116 := L3.lt
 replace L9 := st114.lc (L9.gr g113) ne9_113
 have lt9_116 := L9.lt
 replace L12 := st114.lc (L12.gr g113) ne12_113
 have lt12_116 := L12.lt
 replace L99 := st114.lc (L99.gr g113) ne99_113
 have lt99_116 := L99.lt
 replace L100 := st114.lc (L100.gr g113) ne100_113
 have lt100_116 := L100.lt
 have lt113_116 := L113.lt
 have gd116 := Gr.drew w114
 replace hB := hB.trans gd116
 replace L12 := L12.gr gd116
 replace L113 := L113.gr gd116
 refine wp_region_flo (fun w' => Lc w' b12 #[x105, y105] 29 ∧ Lc w' b113 #[t9_12, t9_13, t9_14, t9_15] 31) [(true, 0), (true, 2), (true, 3), (false, 1), (false, 4), (false, 5), (false, 6), (true, 7), (true, 8), (true, 9), (true, 10)] [⟨11, 8, 29, #[(.bool false), (.slice none 0 0)]⟩, ⟨12, 9, 29, #[(.bool false), (.slice none 0 0)]⟩] [(false, 13), (false, 14), (true, 15)] (by kernel_rfl) (by kernel_rfl) (by kernel_rfl) (by kernel_rfl) (by kernel_rfl) (by decide) (fun _ _ _ _ _ h => h) (fun _ _ _ _ _ h => h) (fun w' o h => ⟨Lc.gr h.1 (Gr.alloc w' o), Lc.gr h.2 (Gr.alloc w' o)⟩) ⟨L12, L113⟩ (by intro f hf; simp only [List.mem_cons, List.not_mem_nil, or_false] at hf; rcases hf with rfl | rfl <;> first | exact alloc_zero (z := (.agg #[(.bool false), (.slice none 0 0)])) (by kernel_rfl) rfl | exact alloc_zero (z := (.agg #[(.bool false), (.slice none 0 0)])) (by kernel_rfl) rfl) ?_
 refine fw 35 (.agg #[t9_12, t9_13, t9_14, t9_15]) rfl (fun w' hS => (rl 31 0 [t9_12, t9_13, t9_14, t9_15] hS.2)) ?_
 simp only [p3, p4]
 refine fw 37 (.agg #[x105, y105]) rfl (fun w' hS => (rl 29 0 [x105, y105] hS.1)) ?_
 simp only [p3, p4]
 refine fw 38 (.agg #[t9_12, t9_13, t9_14, t9_15]) rfl (fun w' hS => (rl 31 0 [t9_12, t9_13, t9_14, t9_15] hS.2)) ?_
 simp only [p3, p4]
 refine flo_eff rfl rfl (fun w117 g117 _ K117 k117 => ?_)
 replace hB := hB.trans g117
 have kq119 := g11.kp.trans (g12.kp.trans (kp13.trans (g20.kp.trans (kp21.trans (gd23.kp.trans (g24.kp.trans (g25.kp.trans (g27.kp.trans (g28.kp.trans (g30.kp.trans (g31.kp.trans (g33.kp.trans (g34.kp.trans (g36.kp.trans (kp40.trans (kp42.trans (g43.kp.trans (kp46.trans (g51.kp.trans (kp52.trans (gd54.kp.trans (g55.kp.trans (g56.kp.trans (g58.kp.trans (g59.kp.trans (g61.kp.trans (g62.kp.trans (g64.kp.trans (g65.kp.trans (g67.kp.trans (kp71.trans (kp73.trans (g74.kp.trans (kp77.trans (g82.kp.trans (kp83.trans (gd85.kp.trans (g86.kp.trans (g87.kp.trans (g89.kp.trans (g90.kp.trans (g92.kp.trans (g93.kp.trans (g95.kp.trans (g96.kp.trans (g98.kp.trans (kp102.trans (kp104.trans (g105.kp.trans (kp108.trans (g113.kp.trans (kp114.trans (gd116.kp.trans g117.kp)))))))))))))))))))))))))))))))))))))))))))))))))))))
 replace h9d := h9d.kp kq119
 refine ec 36 (den_i h9d) ?_
 rintro e118 w118 ⟨⟨x118, y118, rfl, h118⟩, g118⟩
 refine ⟨_, rfl, ?_⟩
 replace hB := hB.trans g118
 replace L12 := L12.gr (g117.trans g118)
 replace L113 := L113.gr (g117.trans g118)
 refine k117 _ _ g118 ⟨L12, L113⟩ ?_
 try clear k117 K117
 simp only [p3, p4]
 refine flo_eff rfl rfl (fun w120 g120 _ K120 k120 => ?_)
 replace hB := hB.trans g120
 have kq122 := g118.kp.trans g120.kp
 replace h9d := h9d.kp kq122
 refine ec 39 (den_i h9d) ?_
 rintro e121 w121 ⟨⟨x121, y121, rfl, h121⟩, g121⟩
 refine ⟨_, rfl, ?_⟩
 replace hB := hB.trans g121
 replace L12 := L12.gr (g120.trans g121)
 replace L113 := L113.gr (g120.trans g121)
 refine k120 _ _ g121 ⟨L12, L113⟩ ?_
 try clear k120 K120
 simp only [p3, p4]
 refine flo_eff rfl rfl (fun w123 g123 _ K123 k123 => ?_)
 replace hB := hB.trans g123
 have kq125 := kp108.trans (g113.kp.trans (kp114.trans (gd116.kp.trans (g117.kp.trans (g118.kp.trans (g120.kp.trans (g121.kp.trans g123.kp)))))))
 replace h105 := h105.kp kq125
 replace h121 := h121.kp g123.kp
 refine ec 40 (gcd_i h105 h121 (by omega)) ?_
 rintro e124 w124 ⟨⟨x124, y124, rfl, h124⟩, g124⟩
 refine ⟨_, rfl, ?_⟩
 replace hB := hB.trans g124
 replace L12 := L12.gr (g123.trans g124)
 replace L113 := L113.gr (g123.trans g124)
 refine k123 _ _ g124 ⟨L12, L113⟩ ?_
 try clear k123 K123
 simp only [p3, p4]
 refine flo_eff rfl rfl (fun w126 g126 _ K126 k126 => ?_)
 replace hB := hB.trans g126
 have kq128 := g120.kp.trans (g121.kp.trans (g123.kp.trans (g124.kp.trans g126.kp)))
 replace h118 := h118.kp kq128
 replace h124 := h124.kp g126.kp
 refine ec 41 (divmod_i h118 h124 (gcd_ex _ _).1 (by omega)) ?_
 rintro e127 w127 ⟨⟨x127, y127, xr127, yr127, rfl, h127, hr127⟩, g127⟩
 refine ⟨_, rfl, ?_⟩
 replace hB := hB.trans g127
 replace L12 := L12.gr (g126.trans g127)
 replace L113 := L113.gr (g126.trans g127)
 refine k126 _ _ g127 ⟨L12, L113⟩ ?_
 try clear k126 K126
 simp only [p3, p4]
 refine fv 34 (.tuple #[(.agg #[x127, y127]), (.agg #[xr127, yr127]), (.int .i64 0)]) ?_
 simp only [p3, p4]
 refine fv 42 (.agg #[x127, y127]) ?_
 simp only [p3, p4]
 refine fv 43 (.agg #[xr127, yr127]) ?_
 simp only [p3, p4]
 refine fv 44 (.int .i64 0) ?_
 simp only [p3, p4]
 refine flo_nil (fun w129 g129 _ => ?_)
 replace hB := hB.trans g129
 refine floFin2 (fun b130 b131 (L130 : Lc w129 b130 #[(.bool false), (.slice none 0 0)] 29) q130 (L131 : Lc w129 b131 #[(.bool false), (.slice none 0 0)] 29) q131 ne130_131 => ?_)
 have ne2_130 : b2 ≠ b130 := Nat.ne_of_lt (Nat.lt_of_lt_of_le lt2_116 q130)
 have ne3_130 : b3 ≠ b130 := Nat.ne_of_lt (Nat.lt_of_lt_of_le lt3_116 q130)
 have ne9_130 : b9 ≠ b130 := Nat.ne_of_lt (Nat.lt_of_lt_of_le lt9_116 q130)
 have ne12_130 : b12 ≠ b130 := Nat.ne_of_lt (Nat.lt_of_lt_of_le lt12_116 q130)
 have ne99_130 : b99 ≠ b130 := Nat.ne_of_lt (Nat.lt_of_lt_of_le lt99_116 q130)
 have ne100_130 : b100 ≠ b130 := Nat.ne_of_lt (Nat.lt_of_lt_of_le lt100_116 q130)
 have ne113_130 : b113 ≠ b130 := Nat.ne_of_lt (Nat.lt_of_lt_of_le lt113_116 q130)
 replace q130 := Nat.le_trans hz116 q130
 have ne2_131 : b2 ≠ b131 := Nat.ne_of_lt (Nat.lt_of_lt_of_le lt2_116 q131)
 have ne3_131 : b3 ≠ b131 := Nat.ne_of_lt (Nat.lt_of_lt_of_le lt3_116 q131)
 have ne9_131 : b9 ≠ b131 := Nat.ne_of_lt (Nat.lt_of_lt_of_le lt9_116 q131)
 have ne12_131 : b12 ≠ b131 := Nat.ne_of_lt (Nat.lt_of_lt_of_le lt12_116 q131)
 have ne99_131 : b99 ≠ b131 := Nat.ne_of_lt (Nat.lt_of_lt_of_le lt99_116 q131)
 have ne100_131 : b100 ≠ b131 := Nat.ne_of_lt (Nat.lt_of_lt_of_le lt100_116 q131)
 have ne113_131 : b113 ≠ b131 := Nat.ne_of_lt (Nat.lt_of_lt_of_le lt113_116 q131)
 replace q131 := Nat.le_trans hz116 q131
 simp only [putl, p3, p4]
 refine oe ?_
 refine es 29 0 (.agg #[x127, y127]) [x127, y127] #[x127, y127] L130 hB q130 ⟨h127.one0, h127.one1, trivial⟩ fun w133 st133 kp133 L130 hB => ?_
 replace L12 := st133.lc (L12.gr g129) ne12_130
 replace L113 := st133.lc (L113.gr g129) ne113_130
 refine ⟨⟨L12, L113⟩, ?_⟩
 refine oe ?_
 replace L131 := st133.lc L131 (Ne.symm ne130_131)
 refine es 29 0 (.agg #[xr127, yr127]) [xr127, yr127] #[xr127, yr127] L131 hB q131 ⟨hr127.one0, hr127.one1, trivial⟩ fun w135 st135 kp135 L131 hB => ?_
 replace L12 := st135.lc L12 ne12_131
 replace L113 := st135.lc L113 ne113_131
 refine ⟨⟨L12, L113⟩, ?_⟩
 refine ov 10 (.int .i64 0) ?_
 simp only [p3, p4]
 refine ord_nil ?_
 refine k115 _ _ ?_
 try clear k115 K115
 refine rg [0, 1, 2, 3] ?_
 refine sw 45 (.agg #[x105, y105]) rfl (rl 29 0 [x105, y105] L12) ?_
 simp only [p3, p4]
 replace L130 := st135.lc L130 ne130_131
 refine sw 46 (.agg #[x127, y127]) rfl (rl 29 0 [x127, y127] L130) ?_
 simp only [p3, p4]
 refine se ?_
 have kq137 := g124.kp.trans (g126.kp.trans (g127.kp.trans (g129.kp.trans (kp133.trans kp135))))
 replace h105 := h105.kp kq137
 have kq138 := g129.kp.trans (kp133.trans kp135)
 replace h127 := h127.kp kq138
 refine ec 47 (mul_i h105 h127 (by omega)) ?_
 rintro e136 w136 ⟨⟨x136, y136, rfl, h136⟩, g136⟩
 refine ⟨_, rfl, ?_⟩
 replace hB := hB.trans g136
 replace h136 := (show IsInt _ _ _ _ (lcmT (lcmT (lcmT (lcmT (1) (a1.den : Int)) (a2.den : Int)) (a3.den : Int)) (d1.den : Int)) from h136)
 simp only [p3, p4]
 refine se ?_
 replace L12 := L12.gr g136
 refine es 29 0 (.agg #[x136, y136]) [x136, y136] #[x136, y136] L12 hB q12 ⟨h136.one0, h136.one1, trivial⟩ fun w139 st139 kp139 L12 hB => ?_
 refine sq_nil ?_
 refine k111 _ _ ?_
 try clear k111 K111
 refine rg [0, 1] ?_
 refine sv 48 (.int .i64 4) ?_
 simp only [p3, p4]
 refine sv 30 (.int .i64 4) ?_
 simp only [p3, p4]
 refine sq_nil ?_
 show Code.rounds _ _ _ _ _ _
 show Code.wp _ _ _ _ _
 refine wp_seq_k (fun K140 k140 => ?_)
 refine rg [0] ?_
 refine sv 31 (.bool true) ?_
 simp only [p3, p4]
 refine sq_nil ?_
 refine k140 _ _ ?_
 try clear k140 K140
 refine wp_seq_k (fun K141 k141 => ?_)
 refine wp_cond_true rfl ?_
 refine wp_skip ?_
 refine k141 _ _ ?_
 try clear k141 K141
 refine wp_seq_k (fun K142 k142 => ?_)
 refine wp_block ?_
 refine wp_seq_k (fun K143 k143 => ?_)
 refine rg [0, 1, 2, 3] ?_
 refine sv 32 (.pointer (some ⟨b9, 16, none⟩)) ?_
 simp only [p3, p4]
 replace L9 := st139.lc ((st135.lc (st133.lc (L9.gr (gd116.trans (g117.trans (g118.trans (g120.trans (g121.trans (g123.trans (g124.trans (g126.trans (g127.trans g129)))))))))) ne9_130) ne9_131).gr g136) ne9_12
 refine sw 33 (.agg #[t9_16, t9_17, t9_18, t9_19]) rfl (rl 31 16 [t9_16, t9_17, t9_18, t9_19] L9) ?_
 simp only [p3, p4]
 refine se ?_
 refine ea 31 #[(.bool false), (.slice none 0 0), (.bool false), (.slice none 0 0)] 7 hB fun b144 w144 g144 L144 o144 q144 hB => ?_
 replace L2 := st139.lc ((st135.lc (st133.lc (L2.gr (gd116.trans (g117.trans (g118.trans (g120.trans (g121.trans (g123.trans (g124.trans (g126.trans (g127.trans g129)))))))))) ne2_130) ne2_131).gr g136) ne2_12
 have ne2_144 := L2.ne o144
 replace L3 := st139.lc ((st135.lc (st133.lc (L3.gr (gd116.trans (g117.trans (g118.trans (g120.trans (g121.trans (g123.trans (g124.trans (g126.trans (g127.trans g129)))))))))) ne3_130) ne3_131).gr g136) ne3_12
 have ne3_144 := L3.ne o144
 have ne9_144 := L9.ne o144
 have ne12_144 := L12.ne o144
 replace L130 := st139.lc (L130.gr g136) (Ne.symm ne12_130)
 have ne130_144 := L130.ne o144
 replace L131 := st139.lc (L131.gr g136) (Ne.symm ne12_131)
 have ne131_144 := L131.ne o144
 simp only [p3, p4]
 refine se ?_
 refine es 31 0 (.agg #[t9_16, t9_17, t9_18, t9_19]) [t9_16, t9_17, t9_18, t9_19] #[t9_16, t9_17, t9_18, t9_19] L144 hB q144 ⟨h9e.one0, h9e.one1, h9e.one2, h9e.one3, trivial⟩ fun w145 st145 kp145 L144 hB => ?_
 refine sq_nil ?_
 refine k143 _ _ ?_
 try clear k143 K143
 refine wp_seq_k (fun K146 k146 => ?_)
 have hz147 := Below.size hB
 replace L2 := st145.lc (L2.gr g144) ne2_144
 have lt2_147 := L2.lt
 replace L3 := st145.lc (L3.gr g144) ne3_144
 have lt3_147 := L3.lt
 replace L9 := st145.lc (L9.gr g144) ne9_144
 have lt9_147 := L9.lt
 replace L12 := st145.lc (L12.gr g144) ne12_144
 have lt12_147 := L12.lt
 replace L130 := st145.lc (L130.gr g144) ne130_144
 have lt130_147 := L130.lt
 replace L131 := st145.lc (L131.gr g144) ne131_144
 have lt131_147 := L131.lt
 have lt144_147 := L144.lt
 have gd147 := Gr.drew w145
 replace hB := hB.trans gd147
 replace L12 := L12.gr gd147
 replace L144 := L144.gr gd147
 refine wp_region_flo (fun w' => Lc w' b12 #[x136, y136] 29 ∧ Lc w' b144 #[t9_16, t9_17, t9_18, t9_19] 31) [(true, 0), (true, 2), (true, 3), (false, 1), (false, 4), (false, 5), (false, 6), (true, 7), (true, 8), (true, 9), (true, 10)] [⟨11, 8, 29, #[(.bool false), (.slice none 0 0)]⟩, ⟨12, 9, 29, #[(.bool false), (.slice none 0 0)]⟩] [(false, 13), (false, 14), (true, 15)] (by kernel_rfl) (by kernel_rfl) (by kernel_rfl) (by kernel_rfl) (by kernel_rfl) (by decide) (fun _ _ _ _ _ h => h) (fun _ _ _ _ _ h => h) (fun w' o h => ⟨Lc.gr h.1 (Gr.alloc w' o), Lc.gr h.2 (Gr.alloc w' o)⟩) ⟨L12, L144⟩ (by intro f hf; simp only [List.mem_cons, List.not_mem_nil, or_false] at hf; rcases hf with rfl | rfl <;> first | exact alloc_zero (z := (.agg #[(.bool false), (.slice none 0 0)])) (by kernel_rfl) rfl | exact alloc_zero (z := (.agg #[(.bool false), (.slice none 0 0)])) (by kernel_rfl) rfl) ?_
 refine fw 35 (.agg #[t9_16, t9_17, t9_18, t9_19]) rfl (fun w' hS => (rl 31 0 [t9_16, t9_17, t9_18, t9_19] hS.2)) ?_
 simp only [p3, p4]
 refine fw 37 (.agg #[x136, y136]) rfl (fun w' hS => (rl 29 0 [x136, y136] hS.1)) ?_
 simp only [p3, p4]
 refine fw 38 (.agg #[t9_16, t9_17, t9_18, t9_19]) rfl (fun w' hS => (rl 31 0 [t9_16, t9_17, t9_18, t9_19] hS.2)) ?_
 simp only [p3, p4]
 refine flo_eff rfl rfl (fun w148 g148 _ K148 k148 => ?_)
 replace hB := hB.trans g148
 have kq150 := g11.kp.trans (g12.kp.trans (kp13.trans (g20.kp.trans (kp21.trans (gd23.kp.trans (g24.kp.trans (g25.kp.trans (g27.kp.trans (g28.kp.trans (g30.kp.trans (g31.kp.trans (g33.kp.trans (g34.kp.trans (g36.kp.trans (kp40.trans (kp42.trans (g43.kp.trans (kp46.trans (g51.kp.trans (kp52.trans (gd54.kp.trans (g55.kp.trans (g56.kp.trans (g58.kp.trans (g59.kp.trans (g61.kp.trans (g62.kp.trans (g64.kp.trans (g65.kp.trans (g67.kp.trans (kp71.trans (kp73.trans (g74.kp.trans (kp77.trans (g82.kp.trans (kp83.trans (gd85.kp.trans (g86.kp.trans (g87.kp.trans (g89.kp.trans (g90.kp.trans (g92.kp.trans (g93.kp.trans (g95.kp.trans (g96.kp.trans (g98.kp.trans (kp102.trans (kp104.trans (g105.kp.trans (kp108.trans (g113.kp.trans (kp114.trans (gd116.kp.trans (g117.kp.trans (g118.kp.trans (g120.kp.trans (g121.kp.trans (g123.kp.trans (g124.kp.trans (g126.kp.trans (g127.kp.trans (g129.kp.trans (kp133.trans (kp135.trans (g136.kp.trans (kp139.trans (g144.kp.trans (kp145.trans (gd147.kp.trans g148.kp)))))))))))))))))))))))))))))))))))))))))))))))))))))))))))))))))))))
 replace h9e := h9e.kp kq150
 refine ec 36 (den_i h9e) ?_
 rintro e149 w149 ⟨⟨x149, y149, rfl, h149⟩, g149⟩
 refine ⟨_, rfl, ?_⟩
 replace hB := hB.trans g149
 replace L12 := L12.gr (g148.trans g149)
 replace L144 := L144.gr (g148.trans g149)
 refine k148 _ _ g149 ⟨L12, L144⟩ ?_
 try clear k148 K148
 simp only [p3, p4]
 refine flo_eff rfl rfl (fun w151 g151 _ K151 k151 => ?_)
 replace hB := hB.trans g151
 have kq153 := g149.kp.trans g151.kp
 replace h9e := h9e.kp kq153
 refine ec 39 (den_i h9e) ?_
 rintro e152 w152 ⟨⟨x152, y152, rfl, h152⟩, g152⟩
 refine ⟨_, rfl, ?_⟩
 replace hB := hB.trans g152
 replace L12 := L12.gr (g151.trans g152)
 replace L144 := L144.gr (g151.trans g152)
 refine k151 _ _ g152 ⟨L12, L144⟩ ?_
 try clear k151 K151
 simp only [p3, p4]
 refine flo_eff rfl rfl (fun w154 g154 _ K154 k154 => ?_)
 replace hB := hB.trans g154
 have kq156 := kp139.trans (g144.kp.trans (kp145.trans (gd147.kp.trans (g148.kp.trans (g149.kp.trans (g151.kp.trans (g152.kp.trans g154.kp)))))))
 replace h136 := h136.kp kq156
 replace h152 := h152.kp g154.kp
 refine ec 40 (gcd_i h136 h152 (by omega)) ?_
 rintro e155 w155 ⟨⟨x155, y155, rfl, h155⟩, g155⟩
 refine ⟨_, rfl, ?_⟩
 replace hB := hB.trans g155
 replace L12 := L12.gr (g154.trans g155)
 replace L144 := L144.gr (g154.trans g155)
 refine k154 _ _ g155 ⟨L12, L144⟩ ?_
 try clear k154 K154
 simp only [p3, p4]
 refine flo_eff rfl rfl (fun w157 g157 _ K157 k157 => ?_)
 replace hB := hB.trans g157
 have kq159 := g151.kp.trans (g152.kp.trans (g154.kp.trans (g155.kp.trans g157.kp)))
 replace h149 := h149.kp kq159
 replace h155 := h155.kp g157.kp
 refine ec 41 (divmod_i h149 h155 (gcd_ex _ _).1 (by omega)) ?_
 rintro e158 w158 ⟨⟨x158, y158, xr158, yr158, rfl, h158, hr158⟩, g158⟩
 refine ⟨_, rfl, ?_⟩
 replace hB := hB.trans g158
 replace L12 := L12.gr (g157.trans g158)
 replace L144 := L144.gr (g157.trans g158)
 refine k157 _ _ g158 ⟨L12, L144⟩ ?_
 try clear k157 K157
 simp only [p3, p4]
 refine fv 34 (.tuple #[(.agg #[x158, y158]), (.agg #[xr158, yr158]), (.int .i64 0)]) ?_
 simp only [p3, p4]
 refine fv 42 (.agg #[x158, y158]) ?_
 simp only [p3, p4]
 refine fv 43 (.agg #[xr158, yr158]) ?_
 simp only [p3, p4]
 refine fv 44 (.int .i64 0) ?_
 simp only [p3, p4]
 refine flo_nil (fun w160 g160 _ => ?_)
 replace hB := hB.trans g160
 refine floFin2 (fun b161 b162 (L161 : Lc w160 b161 #[(.bool false), (.slice none 0 0)] 29) q161 (L162 : Lc w160 b162 #[(.bool false), (.slice none 0 0)] 29) q162 ne161_162 => ?_)
 have ne2_161 : b2 ≠ b161 := Nat.ne_of_lt (Nat.lt_of_lt_of_le lt2_147 q161)
 have ne3_161 : b3 ≠ b161 := Nat.ne_of_lt (Nat.lt_of_lt_of_le lt3_147 q161)
 have ne9_161 : b9 ≠ b161 := Nat.ne_of_lt (Nat.lt_of_lt_of_le lt9_147 q161)
 have ne12_161 : b12 ≠ b161 := Nat.ne_of_lt (Nat.lt_of_lt_of_le lt12_147 q161)
 have ne130_161 : b130 ≠ b161 := Nat.ne_of_lt (Nat.lt_of_lt_of_le lt130_147 q161)
 have ne131_161 : b131 ≠ b161 := Nat.ne_of_lt (Nat.lt_of_lt_of_le lt131_147 q161)
 have ne144_161 : b144 ≠ b161 := Nat.ne_of_lt (Nat.lt_of_lt_of_le lt144_147 q161)
 replace q161 := Nat.le_trans hz147 q161
 have ne2_162 : b2 ≠ b162 := Nat.ne_of_lt (Nat.lt_of_lt_of_le lt2_147 q162)
 have ne3_162 : b3 ≠ b162 := Nat.ne_of_lt (Nat.lt_of_lt_of_le lt3_147 q162)
 have ne9_162 : b9 ≠ b162 := Nat.ne_of_lt (Nat.lt_of_lt_of_le lt9_147 q162)
 have ne12_162 : b12 ≠ b162 := Nat.ne_of_lt (Nat.lt_of_lt_of_le lt12_147 q162)
 have ne130_162 : b130 ≠ b162 := Nat.ne_of_lt (Nat.lt_of_lt_of_le lt130_147 q162)
 have ne131_162 : b131 ≠ b162 := Nat.ne_of_lt (Nat.lt_of_lt_of_le lt131_147 q162)
 have ne144_162 : b144 ≠ b162 := Nat.ne_of_lt (Nat.lt_of_lt_of_le lt144_147 q162)
 replace q162 := Nat.le_trans hz147 q162
 simp only [putl, p3, p4]
 refine oe ?_
 refine es 29 0 (.agg #[x158, y158]) [x158, y158] #[x158, y158] L161 hB q161 ⟨h158.one0, h158.one1, trivial⟩ fun w164 st164 kp164 L161 hB => ?_
 replace L12 := st164.lc (L12.gr g160) ne12_161
 replace L144 := st164.lc (L144.gr g160) ne144_161
 refine ⟨⟨L12, L144⟩, ?_⟩
 refine oe ?_
 replace L162 := st164.lc L162 (Ne.symm ne161_162)
 refine es 29 0 (.agg #[xr158, yr158]) [xr158, yr158] #[xr158, yr158] L162 hB q162 ⟨hr158.one0, hr158.one1, trivial⟩ fun w166 st166 kp166 L162 hB => ?_
 replace L12 := st166.lc L12 ne12_162
 replace L144 := st166.lc L144 ne144_162
 refine ⟨⟨L12, L144⟩, ?_⟩
 refine ov 10 (.int .i64 0) ?_
 simp only [p3, p4]
 refine ord_nil ?_
 refine k146 _ _ ?_
 try clear k146 K146
 refine rg [0, 1, 2, 3] ?_
 refine sw 45 (.agg #[x136, y136]) rfl (rl 29 0 [x136, y136] L12) ?_
 simp only [p3, p4]
 replace L161 := st166.lc L161 ne161_162
 refine sw 46 (.agg #[x158, y158]) rfl (rl 29 0 [x158, y158] L161) ?_
 simp only [p3, p4]
 refine se ?_
 have kq168 := g155.kp.trans (g157.kp.trans (g158.kp.trans (g160.kp.trans (kp164.trans kp166))))
 replace h136 := h136.kp kq168
 have kq169 := g160.kp.trans (kp164.trans kp166)
 replace h158 := h158.kp kq169
 refine ec 47 (mul_i h136 h158 (by omega)) ?_
 rintro e167 w167 ⟨⟨x167, y167, rfl, h167⟩, g167⟩
 refine ⟨_, rfl, ?_⟩
 replace hB := hB.trans g167
 replace h167 := (show IsInt _ _ _ _ (lcmT (lcmT (lcmT (lcmT (lcmT (1) (a1.den : Int)) (a2.den : Int)) (a3.den : Int)) (d1.den : Int)) (d2.den : Int)) from h167)
 simp only [p3, p4]
 refine se ?_
 replace L12 := L12.gr g167
 refine es 29 0 (.agg #[x167, y167]) [x167, y167] #[x167, y167] L12 hB q12 ⟨h167.one0, h167.one1, trivial⟩ fun w170 st170 kp170 L12 hB => ?_
 refine sq_nil ?_
 refine k142 _ _ ?_
 try clear k142 K142
 refine rg [0, 1] ?_
 refine sv 48 (.int .i64 5) ?_
 simp only [p3, p4]
 refine sv 30 (.int .i64 5) ?_
 simp only [p3, p4]
 refine sq_nil ?_
 show Code.rounds _ _ _ _ _ _
 show Code.wp _ _ _ _ _
 refine wp_seq_k (fun K171 k171 => ?_)
 refine rg [0] ?_
 refine sv 31 (.bool true) ?_
 simp only [p3, p4]
 refine sq_nil ?_
 refine k171 _ _ ?_
 try clear k171 K171
 refine wp_seq_k (fun K172 k172 => ?_)
 refine wp_cond_true rfl ?_
 refine wp_skip ?_
 refine k172 _ _ ?_
 try clear k172 K172
 refine wp_seq_k (fun K173 k173 => ?_)
 refine wp_block ?_
 refine wp_seq_k (fun K174 k174 => ?_)
 refine rg [0, 1, 2, 3] ?_
 refine sv 32 (.pointer (some ⟨b9, 20, none⟩)) ?_
 simp only [p3, p4]
 replace L9 := st170.lc ((st166.lc (st164.lc (L9.gr (gd147.trans (g148.trans (g149.trans (g151.trans (g152.trans (g154.trans (g155.trans (g157.trans (g158.trans g160)))))))))) ne9_161) ne9_162).gr g167) ne9_12
 refine sw 33 (.agg #[t9_20, t9_21, t9_22, t9_23]) rfl (rl 31 20 [t9_20, t9_21, t9_22, t9_23] L9) ?_
 simp only [p3, p4]
 refine se ?_
 refine ea 31 #[(.bool false), (.slice none 0 0), (.bool false), (.slice none 0 0)] 7 hB fun b175 w175 g175 L175 o175 q175 hB => ?_
 replace L2 := st170.lc ((st166.lc (st164.lc (L2.gr (gd147.trans (g148.trans (g149.trans (g151.trans (g152.trans (g154.trans (g155.trans (g157.trans (g158.trans g160)))))))))) ne2_161) ne2_162).gr g167) ne2_12
 have ne2_175 := L2.ne o175
 replace L3 := st170.lc ((st166.lc (st164.lc (L3.gr (gd147.trans (g148.trans (g149.trans (g151.trans (g152.trans (g154.trans (g155.trans (g157.trans (g158.trans g160)))))))))) ne3_161) ne3_162).gr g167) ne3_12
 have ne3_175 := L3.ne o175
 have ne9_175 := L9.ne o175
 have ne12_175 := L12.ne o175
 replace L161 := st170.lc (L161.gr g167) (Ne.symm ne12_161)
 have ne161_175 := L161.ne o175
 replace L162 := st170.lc (L162.gr g167) (Ne.symm ne12_162)
 have ne162_175 := L162.ne o175
 simp only [p3, p4]
 refine se ?_
 refine es 31 0 (.agg #[t9_20, t9_21, t9_22, t9_23]) [t9_20, t9_21, t9_22, t9_23] #[t9_20, t9_21, t9_22, t9_23] L175 hB q175 ⟨h9f.one0, h9f.one1, h9f.one2, h9f.one3, trivial⟩ fun w176 st176 kp176 L175 hB => ?_
 refine sq_nil ?_
 refine k174 _ _ ?_
 try clear k174 K174
 refine wp_seq_k (fun K177 k177 => ?_)
 have hz178 := Below.size hB
 replace L2 := st176.lc (L2.gr g175) ne2_175
 have lt2_178 := L2.lt
 replace L3 := st176.lc (L3.gr g175) ne3_175
 have lt3_178 := L3.lt
 replace L9 := st176.lc (L9.gr g175) ne9_175
 have lt9_178 := L9.lt
 replace L12 := st176.lc (L12.gr g175) ne12_175
 have lt12_178 := L12.lt
 replace L161 := st176.lc (L161.gr g175) ne161_175
 have lt161_178 := L161.lt
 replace L162 := st176.lc (L162.gr g175) ne162_175
 have lt162_178 := L162.lt
 have lt175_178 := L175.lt
 have gd178 := Gr.drew w176
 replace hB := hB.trans gd178
 replace L12 := L12.gr gd178
 replace L175 := L175.gr gd178
 refine wp_region_flo (fun w' => Lc w' b12 #[x167, y167] 29 ∧ Lc w' b175 #[t9_20, t9_21, t9_22, t9_23] 31) [(true, 0), (true, 2), (true, 3), (false, 1), (false, 4), (false, 5), (false, 6), (true, 7), (true, 8), (true, 9), (true, 10)] [⟨11, 8, 29, #[(.bool false), (.slice none 0 0)]⟩, ⟨12, 9, 29, #[(.bool false), (.slice none 0 0)]⟩] [(false, 13), (false, 14), (true, 15)] (by kernel_rfl) (by kernel_rfl) (by kernel_rfl) (by kernel_rfl) (by kernel_rfl) (by decide) (fun _ _ _ _ _ h => h) (fun _ _ _ _ _ h => h) (fun w' o h => ⟨Lc.gr h.1 (Gr.alloc w' o), Lc.gr h.2 (Gr.alloc w' o)⟩) ⟨L12, L175⟩ (by intro f hf; simp only [List.mem_cons, List.not_mem_nil, or_false] at hf; rcases hf with rfl | rfl <;> first | exact alloc_zero (z := (.agg #[(.bool false), (.slice none 0 0)])) (by kernel_rfl) rfl | exact alloc_zero (z := (.agg #[(.bool false), (.slice none 0 0)])) (by kernel_rfl) rfl) ?_
 refine fw 35 (.agg #[t9_20, t9_21, t9_22, t9_23]) rfl (fun w' hS => (rl 31 0 [t9_20, t9_21, t9_22, t9_23] hS.2)) ?_
 simp only [p3, p4]
 refine fw 37 (.agg #[x167, y167]) rfl (fun w' hS => (rl 29 0 [x167, y167] hS.1)) ?_
 simp only [p3, p4]
 refine fw 38 (.agg #[t9_20, t9_21, t9_22, t9_23]) rfl (fun w' hS => (rl 31 0 [t9_20, t9_21, t9_22, t9_23] hS.2)) ?_
 simp only [p3, p4]
 refine flo_eff rfl rfl (fun w179 g179 _ K179 k179 => ?_)
 replace hB := hB.trans g179
 have kq181 := g11.kp.trans (g12.kp.trans (kp13.trans (g20.kp.trans (kp21.trans (gd23.kp.trans (g24.kp.trans (g25.kp.trans (g27.kp.trans (g28.kp.trans (g30.kp.trans (g31.kp.trans (g33.kp.trans (g34.kp.trans (g36.kp.trans (kp40.trans (kp42.trans (g43.kp.trans (kp46.trans (g51.kp.trans (kp52.trans (gd54.kp.trans (g55.kp.trans (g56.kp.trans (g58.kp.trans (g59.kp.trans (g61.kp.trans (g62.kp.trans (g64.kp.trans (g65.kp.trans (g67.kp.trans (kp71.trans (kp73.trans (g74.kp.trans (kp77.trans (g82.kp.trans (kp83.trans (gd85.kp.trans (g86.kp.trans (g87.kp.trans (g89.kp.trans (g90.kp.trans (g92.kp.trans (g93.kp.trans (g95.kp.trans (g96.kp.trans (g98.kp.trans (kp102.trans (kp104.trans (g105.kp.trans (kp108.trans (g113.kp.trans (kp114.trans (gd116.kp.trans (g117.kp.trans (g118.kp.trans (g120.kp.trans (g121.kp.trans (g123.kp.trans (g124.kp.trans (g126.kp.trans (g127.kp.trans (g129.kp.trans (kp133.trans (kp135.trans (g136.kp.trans (kp139.trans (g144.kp.trans (kp145.trans (gd147.kp.trans (g148.kp.trans (g149.kp.trans (g151.kp.trans (g152.kp.trans (g154.kp.trans (g155.kp.trans (g157.kp.trans (g158.kp.trans (g160.kp.trans (kp164.trans (kp166.trans (g167.kp.trans (kp170.trans (g175.kp.trans (kp176.trans (gd178.kp.trans g179.kp)))))))))))))))))))))))))))))))))))))))))))))))))))))))))))))))))))))))))))))))))))))
 replace h9f := h9f.kp kq181
 refine ec 36 (den_i h9f) ?_
 rintro e180 w180 ⟨⟨x180, y180, rfl, h180⟩, g180⟩
 refine ⟨_, rfl, ?_⟩
 replace hB := hB.trans g180
 replace L12 := L12.gr (g179.trans g180)
 replace L175 := L175.gr (g179.trans g180)
 refine k179 _ _ g180 ⟨L12, L175⟩ ?_
 try clear k179 K179
 simp only [p3, p4]
 refine flo_eff rfl rfl (fun w182 g182 _ K182 k182 => ?_)
 replace hB := hB.trans g182
 have kq184 := g180.kp.trans g182.kp
 replace h9f := h9f.kp kq184
 refine ec 39 (den_i h9f) ?_
 rintro e183 w183 ⟨⟨x183, y183, rfl, h183⟩, g183⟩
 refine ⟨_, rfl, ?_⟩
 replace hB := hB.trans g183
 replace L12 := L12.gr (g182.trans g183)
 replace L175 := L175.gr (g182.trans g183)
 refine k182 _ _ g183 ⟨L12, L175⟩ ?_
 try clear k182 K182
 simp only [p3, p4]
 refine flo_eff rfl rfl (fun w185 g185 _ K185 k185 => ?_)
 replace hB := hB.trans g185
 have kq187 := kp170.trans (g175.kp.trans (kp176.trans (gd178.kp.trans (g179.kp.trans (g180.kp.trans (g182.kp.trans (g183.kp.trans g185.kp)))))))
 replace h167 := h167.kp kq187
 replace h183 := h183.kp g185.kp
 refine ec 40 (gcd_i h167 h183 (by omega)) ?_
 rintro e186 w186 ⟨⟨x186, y186, rfl, h186⟩, g186⟩
 refine ⟨_, rfl, ?_⟩
 replace hB := hB.trans g186
 replace L12 := L12.gr (g185.trans g186)
 replace L175 := L175.gr (g185.trans g186)
 refine k185 _ _ g186 ⟨L12, L175⟩ ?_
 try clear k185 K185
 simp only [p3, p4]
 refine flo_eff rfl rfl (fun w188 g188 _ K188 k188 => ?_)
 replace hB := hB.trans g188
 have kq190 := g182.kp.trans (g183.kp.trans (g185.kp.trans (g186.kp.trans g188.kp)))
 replace h180 := h180.kp kq190
 replace h186 := h186.kp g188.kp
 refine ec 41 (divmod_i h180 h186 (gcd_ex _ _).1 (by omega)) ?_
 rintro e189 w189 ⟨⟨x189, y189, xr189, yr189, rfl, h189, hr189⟩, g189⟩
 refine ⟨_, rfl, ?_⟩
 replace hB := hB.trans g189
 replace L12 := L12.gr (g188.trans g189)
 replace L175 := L175.gr (g188.trans g189)
 refine k188 _ _ g189 ⟨L12, L175⟩ ?_
 try clear k188 K188
 simp only [p3, p4]
 refine fv 34 (.tuple #[(.agg #[x189, y189]), (.agg #[xr189, yr189]), (.int .i64 0)]) ?_
 simp only [p3, p4]
 refine fv 42 (.agg #[x189, y189]) ?_
 simp only [p3, p4]
 refine fv 43 (.agg #[xr189, yr189]) ?_
 simp only [p3, p4]
 refine fv 44 (.int .i64 0) ?_
 simp only [p3, p4]
 refine flo_nil (fun w191 g191 _ => ?_)
 replace hB := hB.trans g191
 refine floFin2 (fun b192 b193 (L192 : Lc w191 b192 #[(.bool false), (.slice none 0 0)] 29) q192 (L193 : Lc w191 b193 #[(.bool false), (.slice none 0 0)] 29) q193 ne192_193 => ?_)
 have ne2_192 : b2 ≠ b192 := Nat.ne_of_lt (Nat.lt_of_lt_of_le lt2_178 q192)
 have ne3_192 : b3 ≠ b192 := Nat.ne_of_lt (Nat.lt_of_lt_of_le lt3_178 q192)
 have ne9_192 : b9 ≠ b192 := Nat.ne_of_lt (Nat.lt_of_lt_of_le lt9_178 q192)
 have ne12_192 : b12 ≠ b192 := Nat.ne_of_lt (Nat.lt_of_lt_of_le lt12_178 q192)
 have ne161_192 : b161 ≠ b192 := Nat.ne_of_lt (Nat.lt_of_lt_of_le lt161_178 q192)
 have ne162_192 : b162 ≠ b192 := Nat.ne_of_lt (Nat.lt_of_lt_of_le lt162_178 q192)
 have ne175_192 : b175 ≠ b192 := Nat.ne_of_lt (Nat.lt_of_lt_of_le lt175_178 q192)
 replace q192 := Nat.le_trans hz178 q192
 have ne2_193 : b2 ≠ b193 := Nat.ne_of_lt (Nat.lt_of_lt_of_le lt2_178 q193)
 have ne3_193 : b3 ≠ b193 := Nat.ne_of_lt (Nat.lt_of_lt_of_le lt3_178 q193)
 have ne9_193 : b9 ≠ b193 := Nat.ne_of_lt (Nat.lt_of_lt_of_le lt9_178 q193)
 have ne12_193 : b12 ≠ b193 := Nat.ne_of_lt (Nat.lt_of_lt_of_le lt12_178 q193)
 have ne161_193 : b161 ≠ b193 := Nat.ne_of_lt (Nat.lt_of_lt_of_le lt161_178 q193)
 have ne162_193 : b162 ≠ b193 := Nat.ne_of_lt (Nat.lt_of_lt_of_le lt162_178 q193)
 have ne175_193 : b175 ≠ b193 := Nat.ne_of_lt (Nat.lt_of_lt_of_le lt175_178 q193)
 replace q193 := Nat.le_trans hz178 q193
 simp only [putl, p3, p4]
 refine oe ?_
 refine es 29 0 (.agg #[x189, y189]) [x189, y189] #[x189, y189] L192 hB q192 ⟨h189.one0, h189.one1, trivial⟩ fun w195 st195 kp195 L192 hB => ?_
 replace L12 := st195.lc (L12.gr g191) ne12_192
 replace L175 := st195.lc (L175.gr g191) ne175_192
 refine ⟨⟨L12, L175⟩, ?_⟩
 refine oe ?_
 replace L193 := st195.lc L193 (Ne.symm ne192_193)
 refine es 29 0 (.agg #[xr189, yr189]) [xr189, yr189] #[xr189, yr189] L193 hB q193 ⟨hr189.one0, hr189.one1, trivial⟩ fun w197 st197 kp197 L193 hB => ?_
 replace L12 := st197.lc L12 ne12_193
 replace L175 := st197.lc L175 ne175_193
 refine ⟨⟨L12, L175⟩, ?_⟩
 refine ov 10 (.int .i64 0) ?_
 simp only [p3, p4]
 refine ord_nil ?_
 refine k177 _ _ ?_
 try clear k177 K177
 refine rg [0, 1, 2, 3] ?_
 refine sw 45 (.agg #[x167, y167]) rfl (rl 29 0 [x167, y167] L12) ?_
 simp only [p3, p4]
 replace L192 := st197.lc L192 ne192_193
 refine sw 46 (.agg #[x189, y189]) rfl (rl 29 0 [x189, y189] L192) ?_
 simp only [p3, p4]
 refine se ?_
 have kq199 := g186.kp.trans (g188.kp.trans (g189.kp.trans (g191.kp.trans (kp195.trans kp197))))
 replace h167 := h167.kp kq199
 have kq200 := g191.kp.trans (kp195.trans kp197)
 replace h189 := h189.kp kq200
 refine ec 47 (mul_i h167 h189 (by omega)) ?_
 rintro e198 w198 ⟨⟨x198, y198, rfl, h198⟩, g198⟩
 refine ⟨_, rfl, ?_⟩
 replace hB := hB.trans g198
 replace h198 := (show IsInt _ _ _ _ (tden a1 a2 a3 d1 d2 d3) from h198)
 simp only [p3, p4]
 refine se ?_
 replace L12 := L12.gr g198
 refine es 29 0 (.agg #[x198, y198]) [x198, y198] #[x198, y198] L12 hB q12 ⟨h198.one0, h198.one1, trivial⟩ fun w201 st201 kp201 L12 hB => ?_
 refine sq_nil ?_
 refine k173 _ _ ?_
 try clear k173 K173
 refine rg [0, 1] ?_
 refine sv 48 (.int .i64 6) ?_
 simp only [p3, p4]
 refine sv 30 (.int .i64 6) ?_
 simp only [p3, p4]
 refine sq_nil ?_
 show Code.rounds _ _ _ _ _ _
 show Code.wp _ _ _ _ _
 refine wp_seq_k (fun K202 k202 => ?_)
 refine rg [0] ?_
 refine sv 31 (.bool false) ?_
 simp only [p3, p4]
 refine sq_nil ?_
 refine k202 _ _ ?_
 try clear k202 K202
 refine wp_seq_k (fun K203 k203 => ?_)
 refine wp_cond_false rfl ?_
 refine wp_exit ?_
 simp only [Exit.then, Exit.inBlock, ↓reduceIte]
 refine k14 _ _ ?_
 try clear k14 K14
 refine wp_seq_k (fun K204 k204 => ?_)
 refine rg [0] ?_
 refine se ?_
 refine ea 29 #[(.bool false), (.slice none 0 0)] 11 hB fun b205 w205 g205 L205 o205 q205 hB => ?_
 replace L2 := st201.lc ((st197.lc (st195.lc (L2.gr (gd178.trans (g179.trans (g180.trans (g182.trans (g183.trans (g185.trans (g186.trans (g188.trans (g189.trans g191)))))))))) ne2_192) ne2_193).gr g198) ne2_12
 have ne2_205 := L2.ne o205
 replace L3 := st201.lc ((st197.lc (st195.lc (L3.gr (gd178.trans (g179.trans (g180.trans (g182.trans (g183.trans (g185.trans (g186.trans (g188.trans (g189.trans g191)))))))))) ne3_192) ne3_193).gr g198) ne3_12
 have ne3_205 := L3.ne o205
 replace L9 := st201.lc ((st197.lc (st195.lc (L9.gr (gd178.trans (g179.trans (g180.trans (g182.trans (g183.trans (g185.trans (g186.trans (g188.trans (g189.trans g191)))))))))) ne9_192) ne9_193).gr g198) ne9_12
 have ne9_205 := L9.ne o205
 have ne12_205 := L12.ne o205
 simp only [p3, p4]
 refine sq_nil ?_
 refine k204 _ _ ?_
 try clear k204 K204
 refine wp_seq_k (fun K206 k206 => ?_)
 refine wp_seq_k (fun K207 k207 => ?_)
 refine rg [0, 1, 2] ?_
 refine sv 49 (.slice (some ⟨b9, 0, none⟩) 6 6) ?_
 simp only [p3, p4]
 refine sv 50 (.int .i64 6) ?_
 simp only [p3, p4]
 refine sv 51 (.int .i64 0) ?_
 simp only [p3, p4]
 refine sq_nil ?_
 refine k207 _ _ ?_
 try clear k207 K207
 refine wp_block ?_
 refine wp_loop_rounds 8 ?_
 show Code.wp _ _ _ _ _
 refine wp_seq_k (fun K208 k208 => ?_)
 refine rg [0] ?_
 refine sv 52 (.bool true) ?_
 simp only [p3, p4]
 refine sq_nil ?_
 refine k208 _ _ ?_
 try clear k208 K208
 refine wp_seq_k (fun K209 k209 => ?_)
 refine wp_cond_true rfl ?_
 refine wp_skip ?_
 refine k209 _ _ ?_
 try clear k209 K209
 refine wp_seq_k (fun K210 k210 => ?_)
 refine wp_block ?_
 refine wp_seq_k (fun K211 k211 => ?_)
 refine rg [0, 1, 2, 3] ?_
 refine sv 53 (.pointer (some ⟨b9, 0, none⟩)) ?_
 simp only [p3, p4]
 replace L9 := L9.gr g205
 refine sw 54 (.agg #[t9_0, t9_1, t9_2, t9_3]) rfl (rl 31 0 [t9_0, t9_1, t9_2, t9_3] L9) ?_
 simp only [p3, p4]
 refine se ?_
 refine ea 31 #[(.bool false), (.slice none 0 0), (.bool false), (.slice none 0 0)] 13 hB fun b212 w212 g212 L212 o212 q212 hB => ?_
 replace L2 := L2.gr g205
 have ne2_212 := L2.ne o212
 replace L3 := L3.gr g205
 have ne3_212 := L3.ne o212
 have ne9_212 := L9.ne o212
 replace L12 := L12.gr g205
 have ne12_212 := L12.ne o212
 have ne205_212 := L205.ne o212
 simp only [p3, p4]
 refine se ?_
 refine es 31 0 (.agg #[t9_0, t9_1, t9_2, t9_3]) [t9_0, t9_1, t9_2, t9_3] #[t9_0, t9_1, t9_2, t9_3] L212 hB q212 ⟨h9a.one0, h9a.one1, h9a.one2, h9a.one3, trivial⟩ fun w213 st213 kp213 L212 hB => ?_
 refine sq_nil ?_
 refine k211 _ _ ?_
 try clear k211 K211
 refine wp_seq_k (fun K214 k214 => ?_)
 have hz215 := Below.size hB
 replace L2 := st213.lc (L2.gr g212) ne2_212
 have lt2_215 := L2.lt
 replace L3 := st213.lc (L3.gr g212) ne3_212
 have lt3_215 := L3.lt
 replace L9 := st213.lc (L9.gr g212) ne9_212
 have lt9_215 := L9.lt
 replace L12 := st213.lc (L12.gr g212) ne12_212
 have lt12_215 := L12.lt
 replace L205 := st213.lc (L205.gr g212) ne205_212
 have lt205_215 := L205.lt
 have lt212_215 := L212.lt
 have gd215 := Gr.drew w213
 replace hB := hB.trans gd215
 replace L12 := L12.gr gd215
 replace L212 := L212.gr gd215
 refine wp_region_flo (fun w' => Lc w' b12 #[x198, y198] 29 ∧ Lc w' b212 #[t9_0, t9_1, t9_2, t9_3] 31) [(true, 0), (true, 1), (false, 2), (false, 3), (true, 4), (true, 5), (true, 6), (true, 7)] [⟨8, 14, 29, #[(.bool false), (.slice none 0 0)]⟩, ⟨9, 15, 29, #[(.bool false), (.slice none 0 0)]⟩] [(false, 10), (false, 11), (true, 12)] (by kernel_rfl) (by kernel_rfl) (by kernel_rfl) (by kernel_rfl) (by kernel_rfl) (by decide) (fun _ _ _ _ _ h => h) (fun _ _ _ _ _ h => h) (fun w' o h => ⟨Lc.gr h.1 (Gr.alloc w' o), Lc.gr h.2 (Gr.alloc w' o)⟩) ⟨L12, L212⟩ (by intro f hf; simp only [List.mem_cons, List.not_mem_nil, or_false] at hf; rcases hf with rfl | rfl <;> first | exact alloc_zero (z := (.agg #[(.bool false), (.slice none 0 0)])) (by kernel_rfl) rfl | exact alloc_zero (z := (.agg #[(.bool false), (.slice none 0 0)])) (by kernel_rfl) rfl) ?_
 refine fw 56 (.agg #[x198, y198]) rfl (fun w' hS => (rl 29 0 [x198, y198] hS.1)) ?_
 simp only [p3, p4]
 refine fw 57 (.agg #[t9_0, t9_1, t9_2, t9_3]) rfl (fun w' hS => (rl 31 0 [t9_0, t9_1, t9_2, t9_3] hS.2)) ?_
 simp only [p3, p4]
 refine flo_eff rfl rfl (fun w216 g216 _ K216 k216 => ?_)
 replace hB := hB.trans g216
 have kq218 := g28.kp.trans (g30.kp.trans (g31.kp.trans (g33.kp.trans (g34.kp.trans (g36.kp.trans (kp40.trans (kp42.trans (g43.kp.trans (kp46.trans (g51.kp.trans (kp52.trans (gd54.kp.trans (g55.kp.trans (g56.kp.trans (g58.kp.trans (g59.kp.trans (g61.kp.trans (g62.kp.trans (g64.kp.trans (g65.kp.trans (g67.kp.trans (kp71.trans (kp73.trans (g74.kp.trans (kp77.trans (g82.kp.trans (kp83.trans (gd85.kp.trans (g86.kp.trans (g87.kp.trans (g89.kp.trans (g90.kp.trans (g92.kp.trans (g93.kp.trans (g95.kp.trans (g96.kp.trans (g98.kp.trans (kp102.trans (kp104.trans (g105.kp.trans (kp108.trans (g113.kp.trans (kp114.trans (gd116.kp.trans (g117.kp.trans (g118.kp.trans (g120.kp.trans (g121.kp.trans (g123.kp.trans (g124.kp.trans (g126.kp.trans (g127.kp.trans (g129.kp.trans (kp133.trans (kp135.trans (g136.kp.trans (kp139.trans (g144.kp.trans (kp145.trans (gd147.kp.trans (g148.kp.trans (g149.kp.trans (g151.kp.trans (g152.kp.trans (g154.kp.trans (g155.kp.trans (g157.kp.trans (g158.kp.trans (g160.kp.trans (kp164.trans (kp166.trans (g167.kp.trans (kp170.trans (g175.kp.trans (kp176.trans (gd178.kp.trans (g179.kp.trans (g180.kp.trans (g182.kp.trans (g183.kp.trans (g185.kp.trans (g186.kp.trans (g188.kp.trans (g189.kp.trans (g191.kp.trans (kp195.trans (kp197.trans (g198.kp.trans (kp201.trans (g205.kp.trans (g212.kp.trans (kp213.trans (gd215.kp.trans g216.kp)))))))))))))))))))))))))))))))))))))))))))))))))))))))))))))))))))))))))))))))))))))))))))))
 replace h9a := h9a.kp kq218
 refine ec 58 (den_i h9a) ?_
 rintro e217 w217 ⟨⟨x217, y217, rfl, h217⟩, g217⟩
 refine ⟨_, rfl, ?_⟩
 replace hB := hB.trans g217
 replace L12 := L12.gr (g216.trans g217)
 replace L212 := L212.gr (g216.trans g217)
 refine k216 _ _ g217 ⟨L12, L212⟩ ?_
 try clear k216 K216
 simp only [p3, p4]
 refine flo_eff rfl rfl (fun w219 g219 _ K219 k219 => ?_)
 replace hB := hB.trans g219
 have kq221 := kp201.trans (g205.kp.trans (g212.kp.trans (kp213.trans (gd215.kp.trans (g216.kp.trans (g217.kp.trans g219.kp))))))
 replace h198 := h198.kp kq221
 replace h217 := h217.kp g219.kp
 refine ec 59 (divmod_i h198 h217 (tz_den_pos _) (by omega)) ?_
 rintro e220 w220 ⟨⟨x220, y220, xr220, yr220, rfl, h220, hr220⟩, g220⟩
 refine ⟨_, rfl, ?_⟩
 replace hB := hB.trans g220
 replace L12 := L12.gr (g219.trans g220)
 replace L212 := L212.gr (g219.trans g220)
 refine k219 _ _ g220 ⟨L12, L212⟩ ?_
 try clear k219 K219
 simp only [p3, p4]
 refine fv 55 (.tuple #[(.agg #[x220, y220]), (.agg #[xr220, yr220]), (.int .i64 0)]) ?_
 simp only [p3, p4]
 refine fv 60 (.agg #[x220, y220]) ?_
 simp only [p3, p4]
 refine fv 61 (.agg #[xr220, yr220]) ?_
 simp only [p3, p4]
 refine fv 62 (.int .i64 0) ?_
 simp only [p3, p4]
 refine flo_nil (fun w222 g222 _ => ?_)
 replace hB := hB.trans g222
 refine floFin2 (fun b223 b224 (L223 : Lc w222 b223 #[(.bool false), (.slice none 0 0)] 29) q223 (L224 : Lc w222 b224 #[(.bool false), (.slice none 0 0)] 29) q224 ne223_224 => ?_)
 have ne2_223 : b2 ≠ b223 := Nat.ne_of_lt (Nat.lt_of_lt_of_le lt2_215 q223)
 have ne3_223 : b3 ≠ b223 := Nat.ne_of_lt (Nat.lt_of_lt_of_le lt3_215 q223)
 have ne9_223 : b9 ≠ b223 := Nat.ne_of_lt (Nat.lt_of_lt_of_le lt9_215 q223)
 have ne12_223 : b12 ≠ b223 := Nat.ne_of_lt (Nat.lt_of_lt_of_le lt12_215 q223)
 have ne205_223 : b205 ≠ b223 := Nat.ne_of_lt (Nat.lt_of_lt_of_le lt205_215 q223)
 have ne212_223 : b212 ≠ b223 := Nat.ne_of_lt (Nat.lt_of_lt_of_le lt212_215 q223)
 replace q223 := Nat.le_trans hz215 q223
 have ne2_224 : b2 ≠ b224 := Nat.ne_of_lt (Nat.lt_of_lt_of_le lt2_215 q224)
 have ne3_224 : b3 ≠ b224 := Nat.ne_of_lt (Nat.lt_of_lt_of_le lt3_215 q224)
 have ne9_224 : b9 ≠ b224 := Nat.ne_of_lt (Nat.lt_of_lt_of_le lt9_215 q224)
 have ne12_224 : b12 ≠ b224 := Nat.ne_of_lt (Nat.lt_of_lt_of_le lt12_215 q224)
 have ne205_224 : b205 ≠ b224 := Nat.ne_of_lt (Nat.lt_of_lt_of_le lt205_215 q224)
 have ne212_224 : b212 ≠ b224 := Nat.ne_of_lt (Nat.lt_of_lt_of_le lt212_215 q224)
 replace q224 := Nat.le_trans hz215 q224
 simp only [putl, p3, p4]
 refine oe ?_
 refine es 29 0 (.agg #[x220, y220]) [x220, y220] #[x220, y220] L223 hB q223 ⟨h220.one0, h220.one1, trivial⟩ fun w226 st226 kp226 L223 hB => ?_
 replace L12 := st226.lc (L12.gr g222) ne12_223
 replace L212 := st226.lc (L212.gr g222) ne212_223
 refine ⟨⟨L12, L212⟩, ?_⟩
 refine oe ?_
 replace L224 := st226.lc L224 (Ne.symm ne223_224)
 refine es 29 0 (.agg #[xr220, yr220]) [xr220, yr220] #[xr220, yr220] L224 hB q224 ⟨hr220.one0, hr220.one1, trivial⟩ fun w228 st228 kp228 L224 hB => ?_
 replace L12 := st228.lc L12 ne12_224
 replace L212 := st228.lc L212 ne212_224
 refine ⟨⟨L12, L212⟩, ?_⟩
 refine ov 16 (.int .i64 0) ?_
 simp only [p3, p4]
 refine ord_nil ?_
 refine k214 _ _ ?_
 try clear k214 K214
 have gd230 := Gr.drew w228
 replace hB := hB.trans gd230
 replace L212 := L212.gr gd230
 replace L223 := (st228.lc L223 ne223_224).gr gd230
 replace L205 := (st228.lc (st226.lc (L205.gr (gd215.trans (g216.trans (g217.trans (g219.trans (g220.trans g222)))))) ne205_223) ne205_224).gr gd230
 refine wp_region_ort (fun w' => Lc w' b212 #[t9_0, t9_1, t9_2, t9_3] 31 ∧ Lc w' b223 #[x220, y220] 29) [([6], (fun w' => Lc w' b205 #[(.bool false), (.slice none 0 0)] 29))] [(true, 0), (true, 1), (true, 3), (false, 2), (false, 4), (false, 5), (false, 6)] (by kernel_rfl) (by kernel_rfl) (by kernel_rfl) (by decide) (fun _ _ _ _ _ h => h) ⟨L212, L223⟩ ⟨fun _ => L205, trivial⟩ ?_
 refine tw 63 (.agg #[(.bool false), (.slice none 0 0)]) rfl (fun w' hS => (rl 29 0 [(.bool false), (.slice none 0 0)] (hS.2.1 (by kernel_rfl)))) ?_
 simp only [p3, p4]
 refine tw 64 (.agg #[t9_0, t9_1, t9_2, t9_3]) rfl (fun w' hS => (rl 31 0 [t9_0, t9_1, t9_2, t9_3] hS.1.1)) ?_
 simp only [p3, p4]
 refine tw 66 (.agg #[x220, y220]) rfl (fun w' hS => (rl 29 0 [x220, y220] hS.1.2)) ?_
 simp only [p3, p4]
 refine te ?_
 have kq233 := g217.kp.trans (g219.kp.trans (g220.kp.trans (g222.kp.trans (kp226.trans (kp228.trans gd230.kp)))))
 replace h9a := h9a.kp kq233
 refine ec 65 (num_r h9a) ?_
 rintro e232 w232 ⟨⟨x232, y232, rfl, h232⟩, g232⟩
 refine ⟨_, rfl, ?_⟩
 replace hB := hB.trans g232
 replace L212 := L212.gr g232
 replace L223 := L223.gr g232
 replace L205 := L205.gr g232
 refine ⟨⟨L212, L223⟩, ⟨fun _ => L205, trivial⟩, ?_⟩
 simp only [p3, p4]
 refine te ?_
 have kq236 := g222.kp.trans (kp226.trans (kp228.trans (gd230.kp.trans g232.kp)))
 replace h220 := h220.kp kq236
 refine ec 67 (mul_i h232 h220 (by omega)) ?_
 rintro e235 w235 ⟨⟨x235, y235, rfl, h235⟩, g235⟩
 refine ⟨_, rfl, ?_⟩
 replace hB := hB.trans g235
 replace h235 := (show IsInt _ _ _ _ (tz (tden a1 a2 a3 d1 d2 d3) a1) from h235)
 replace L212 := L212.gr g235
 replace L223 := L223.gr g235
 replace L205 := L205.gr g235
 refine ⟨⟨L212, L223⟩, ⟨fun _ => L205, trivial⟩, ?_⟩
 simp only [p3, p4]
 refine te ?_
 refine ec 68 (gcd_i (IsInt.zero _ 64) h235 (by omega)) ?_
 rintro e238 w238 ⟨⟨x238, y238, rfl, h238⟩, g238⟩
 refine ⟨_, rfl, ?_⟩
 replace hB := hB.trans g238
 replace h238 := (show IsInt _ _ _ _ ((Int.gcd (0) (tz (tden a1 a2 a3 d1 d2 d3) a1) : Int)) from h238)
 replace L212 := L212.gr g238
 replace L223 := L223.gr g238
 replace L205 := L205.gr g238
 refine ⟨⟨L212, L223⟩, ⟨fun _ => L205, trivial⟩, ?_⟩
 simp only [p3, p4]
 refine te ?_
 refine es 29 0 (.agg #[x238, y238]) [x238, y238] #[x238, y238] L205 hB q205 ⟨h238.one0, h238.one1, trivial⟩ fun w240 st240 kp240 L205 hB => ?_
 replace L212 := st240.lc L212 (Ne.symm ne205_212)
 replace L223 := st240.lc L223 (Ne.symm ne205_223)
 refine ⟨⟨L212, L223⟩, ⟨cameT (by kernel_rfl), trivial⟩, ?_⟩
 refine ort_nil ?_
 refine k210 _ _ ?_
 try clear k210 K210
 refine rg [0, 1] ?_
 refine sv 69 (.int .i64 1) ?_
 simp only [p3, p4]
 refine sv 51 (.int .i64 1) ?_
 simp only [p3, p4]
 refine sq_nil ?_
 show Code.rounds _ _ _ _ _ _
 show Code.wp _ _ _ _ _
 refine wp_seq_k (fun K241 k241 => ?_)
 refine rg [0] ?_
 refine sv 52 (.bool true) ?_
 simp only [p3, p4]
 refine sq_nil ?_
 refine k241 _ _ ?_
 try clear k241 K241
 refine wp_seq_k (fun K242 k242 => ?_)
 refine wp_cond_true rfl ?_
 refine wp_skip ?_
 refine k242 _ _ ?_
 try clear k242 K242
 refine wp_seq_k (fun K243 k243 => ?_)
 refine wp_block ?_
 refine wp_seq_k (fun K244 k244 => ?_)
 refine rg [0, 1, 2, 3] ?_
 refine sv 53 (.pointer (some ⟨b9, 4, none⟩)) ?_
 simp only [p3, p4]
 replace L9 := st240.lc ((st228.lc (st226.lc (L9.gr (gd215.trans (g216.trans (g217.trans (g219.trans (g220.trans g222)))))) ne9_223) ne9_224).gr (gd230.trans (g232.trans (g235.trans g238)))) ne9_205
 refine sw 54 (.agg #[t9_4, t9_5, t9_6, t9_7]) rfl (rl 31 4 [t9_4, t9_5, t9_6, t9_7] L9) ?_
 simp only [p3, p4]
 refine se ?_
 refine ea 31 #[(.bool false), (.slice none 0 0), (.bool false), (.slice none 0 0)] 13 hB fun b245 w245 g245 L245 o245 q245 hB => ?_
 replace L2 := st240.lc ((st228.lc (st226.lc (L2.gr (gd215.trans (g216.trans (g217.trans (g219.trans (g220.trans g222)))))) ne2_223) ne2_224).gr (gd230.trans (g232.trans (g235.trans g238)))) ne2_205
 have ne2_245 := L2.ne o245
 replace L3 := st240.lc ((st228.lc (st226.lc (L3.gr (gd215.trans (g216.trans (g217.trans (g219.trans (g220.trans g222)))))) ne3_223) ne3_224).gr (gd230.trans (g232.trans (g235.trans g238)))) ne3_205
 have ne3_245 := L3.ne o245
 have ne9_245 := L9.ne o245
 replace L12 := st240.lc (L12.gr (gd230.trans (g232.trans (g235.trans g238)))) ne12_205
 have ne12_245 := L12.ne o245
 have ne205_245 := L205.ne o245
 have ne223_245 := L223.ne o245
 replace L224 := st240.lc (L224.gr (gd230.trans (g232.trans (g235.trans g238)))) (Ne.symm ne205_224)
 have ne224_245 := L224.ne o245
 simp only [p3, p4]
 refine se ?_
 refine es 31 0 (.agg #[t9_4, t9_5, t9_6, t9_7]) [t9_4, t9_5, t9_6, t9_7] #[t9_4, t9_5, t9_6, t9_7] L245 hB q245 ⟨h9b.one0, h9b.one1, h9b.one2, h9b.one3, trivial⟩ fun w246 st246 kp246 L245 hB => ?_
 refine sq_nil ?_
 refine k244 _ _ ?_
 try clear k244 K244
 refine wp_seq_k (fun K247 k247 => ?_)
 have hz248 := Below.size hB
 replace L2 := st246.lc (L2.gr g245) ne2_245
 have lt2_248 := L2.lt
 replace L3 := st246.lc (L3.gr g245) ne3_245
 have lt3_248 := L3.lt
 replace L9 := st246.lc (L9.gr g245) ne9_245
 have lt9_248 := L9.lt
 replace L12 := st246.lc (L12.gr g245) ne12_245
 have lt12_248 := L12.lt
 replace L205 := st246.lc (L205.gr g245) ne205_245
 have lt205_248 := L205.lt
 replace L223 := st246.lc (L223.gr g245) ne223_245
 have lt223_248 := L223.lt
 replace L224 := st246.lc (L224.gr g245) ne224_245
 have lt224_248 := L224.lt
 have lt245_248 := L245.lt
 have gd248 := Gr.drew w246
 replace hB := hB.trans gd248
 replace L12 := L12.gr gd248
 replace L245 := L245.gr gd248
 refine wp_region_flo (fun w' => Lc w' b12 #[x198, y198] 29 ∧ Lc w' b245 #[t9_4, t9_5, t9_6, t9_7] 31) [(true, 0), (true, 1), (false, 2), (false, 3), (true, 4), (true, 5), (true, 6), (true, 7)] [⟨8, 14, 29, #[(.bool false), (.slice none 0 0)]⟩, ⟨9, 15, 29, #[(.bool false), (.slice none 0 0)]⟩] [(false, 10), (false, 11), (true, 12)] (by kernel_rfl) (by kernel_rfl) (by kernel_rfl) (by kernel_rfl) (by kernel_rfl) (by decide) (fun _ _ _ _ _ h => h) (fun _ _ _ _ _ h => h) (fun w' o h => ⟨Lc.gr h.1 (Gr.alloc w' o), Lc.gr h.2 (Gr.alloc w' o)⟩) ⟨L12, L245⟩ (by intro f hf; simp only [List.mem_cons, List.not_mem_nil, or_false] at hf; rcases hf with rfl | rfl <;> first | exact alloc_zero (z := (.agg #[(.bool false), (.slice none 0 0)])) (by kernel_rfl) rfl | exact alloc_zero (z := (.agg #[(.bool false), (.slice none 0 0)])) (by kernel_rfl) rfl) ?_
 refine fw 56 (.agg #[x198, y198]) rfl (fun w' hS => (rl 29 0 [x198, y198] hS.1)) ?_
 simp only [p3, p4]
 refine fw 57 (.agg #[t9_4, t9_5, t9_6, t9_7]) rfl (fun w' hS => (rl 31 0 [t9_4, t9_5, t9_6, t9_7] hS.2)) ?_
 simp only [p3, p4]
 refine flo_eff rfl rfl (fun w249 g249 _ K249 k249 => ?_)
 replace hB := hB.trans g249
 have kq251 := g59.kp.trans (g61.kp.trans (g62.kp.trans (g64.kp.trans (g65.kp.trans (g67.kp.trans (kp71.trans (kp73.trans (g74.kp.trans (kp77.trans (g82.kp.trans (kp83.trans (gd85.kp.trans (g86.kp.trans (g87.kp.trans (g89.kp.trans (g90.kp.trans (g92.kp.trans (g93.kp.trans (g95.kp.trans (g96.kp.trans (g98.kp.trans (kp102.trans (kp104.trans (g105.kp.trans (kp108.trans (g113.kp.trans (kp114.trans (gd116.kp.trans (g117.kp.trans (g118.kp.trans (g120.kp.trans (g121.kp.trans (g123.kp.trans (g124.kp.trans (g126.kp.trans (g127.kp.trans (g129.kp.trans (kp133.trans (kp135.trans (g136.kp.trans (kp139.trans (g144.kp.trans (kp145.trans (gd147.kp.trans (g148.kp.trans (g149.kp.trans (g151.kp.trans (g152.kp.trans (g154.kp.trans (g155.kp.trans (g157.kp.trans (g158.kp.trans (g160.kp.trans (kp164.trans (kp166.trans (g167.kp.trans (kp170.trans (g175.kp.trans (kp176.trans (gd178.kp.trans (g179.kp.trans (g180.kp.trans (g182.kp.trans (g183.kp.trans (g185.kp.trans (g186.kp.trans (g188.kp.trans (g189.kp.trans (g191.kp.trans (kp195.trans (kp197.trans (g198.kp.trans (kp201.trans (g205.kp.trans (g212.kp.trans (kp213.trans (gd215.kp.trans (g216.kp.trans (g217.kp.trans (g219.kp.trans (g220.kp.trans (g222.kp.trans (kp226.trans (kp228.trans (gd230.kp.trans (g232.kp.trans (g235.kp.trans (g238.kp.trans (kp240.trans (g245.kp.trans (kp246.trans (gd248.kp.trans g249.kp))))))))))))))))))))))))))))))))))))))))))))))))))))))))))))))))))))))))))))))))))))))))))))
 replace h9b := h9b.kp kq251
 refine ec 58 (den_i h9b) ?_
 rintro e250 w250 ⟨⟨x250, y250, rfl, h250⟩, g250⟩
 refine ⟨_, rfl, ?_⟩
 replace hB := hB.trans g250
 replace L12 := L12.gr (g249.trans g250)
 replace L245 := L245.gr (g249.trans g250)
 refine k249 _ _ g250 ⟨L12, L245⟩ ?_
 try clear k249 K249
 simp only [p3, p4]
 refine flo_eff rfl rfl (fun w252 g252 _ K252 k252 => ?_)
 replace hB := hB.trans g252
 have kq254 := g220.kp.trans (g222.kp.trans (kp226.trans (kp228.trans (gd230.kp.trans (g232.kp.trans (g235.kp.trans (g238.kp.trans (kp240.trans (g245.kp.trans (kp246.trans (gd248.kp.trans (g249.kp.trans (g250.kp.trans g252.kp)))))))))))))
 replace h198 := h198.kp kq254
 replace h250 := h250.kp g252.kp
 refine ec 59 (divmod_i h198 h250 (tz_den_pos _) (by omega)) ?_
 rintro e253 w253 ⟨⟨x253, y253, xr253, yr253, rfl, h253, hr253⟩, g253⟩
 refine ⟨_, rfl, ?_⟩
 replace hB := hB.trans g253
 replace L12 := L12.gr (g252.trans g253)
 replace L245 := L245.gr (g252.trans g253)
 refine k252 _ _ g253 ⟨L12, L245⟩ ?_
 try clear k252 K252
 simp only [p3, p4]
 refine fv 55 (.tuple #[(.agg #[x253, y253]), (.agg #[xr253, yr253]), (.int .i64 0)]) ?_
 simp only [p3, p4]
 refine fv 60 (.agg #[x253, y253]) ?_
 simp only [p3, p4]
 refine fv 61 (.agg #[xr253, yr253]) ?_
 simp only [p3, p4]
 refine fv 62 (.int .i64 0) ?_
 simp only [p3, p4]
 refine flo_nil (fun w255 g255 _ => ?_)
 replace hB := hB.trans g255
 refine floFin2 (fun b256 b257 (L256 : Lc w255 b256 #[(.bool false), (.slice none 0 0)] 29) q256 (L257 : Lc w255 b257 #[(.bool false), (.slice none 0 0)] 29) q257 ne256_257 => ?_)
 have ne2_256 : b2 ≠ b256 := Nat.ne_of_lt (Nat.lt_of_lt_of_le lt2_248 q256)
 have ne3_256 : b3 ≠ b256 := Nat.ne_of_lt (Nat.lt_of_lt_of_le lt3_248 q256)
 have ne9_256 : b9 ≠ b256 := Nat.ne_of_lt (Nat.lt_of_lt_of_le lt9_248 q256)
 have ne12_256 : b12 ≠ b256 := Nat.ne_of_lt (Nat.lt_of_lt_of_le lt12_248 q256)
 have ne205_256 : b205 ≠ b256 := Nat.ne_of_lt (Nat.lt_of_lt_of_le lt205_248 q256)
 have ne223_256 : b223 ≠ b256 := Nat.ne_of_lt (Nat.lt_of_lt_of_le lt223_248 q256)
 have ne224_256 : b224 ≠ b256 := Nat.ne_of_lt (Nat.lt_of_lt_of_le lt224_248 q256)
 have ne245_256 : b245 ≠ b256 := Nat.ne_of_lt (Nat.lt_of_lt_of_le lt245_248 q256)
 replace q256 := Nat.le_trans hz248 q256
 have ne2_257 : b2 ≠ b257 := Nat.ne_of_lt (Nat.lt_of_lt_of_le lt2_248 q257)
 have ne3_257 : b3 ≠ b257 := Nat.ne_of_lt (Nat.lt_of_lt_of_le lt3_248 q257)
 have ne9_257 : b9 ≠ b257 := Nat.ne_of_lt (Nat.lt_of_lt_of_le lt9_248 q257)
 have ne12_257 : b12 ≠ b257 := Nat.ne_of_lt (Nat.lt_of_lt_of_le lt12_248 q257)
 have ne205_257 : b205 ≠ b257 := Nat.ne_of_lt (Nat.lt_of_lt_of_le lt205_248 q257)
 have ne223_257 : b223 ≠ b257 := Nat.ne_of_lt (Nat.lt_of_lt_of_le lt223_248 q257)
 have ne224_257 : b224 ≠ b257 := Nat.ne_of_lt (Nat.lt_of_lt_of_le lt224_248 q257)
 have ne245_257 : b245 ≠ b257 := Nat.ne_of_lt (Nat.lt_of_lt_of_le lt245_248 q257)
 replace q257 := Nat.le_trans hz248 q257
 simp only [putl, p3, p4]
 refine oe ?_
 refine es 29 0 (.agg #[x253, y253]) [x253, y253] #[x253, y253] L256 hB q256 ⟨h253.one0, h253.one1, trivial⟩ fun w259 st259 kp259 L256 hB => ?_
 replace L12 := st259.lc (L12.gr g255) ne12_256
 replace L245 := st259.lc (L245.gr g255) ne245_256
 refine ⟨⟨L12, L245⟩, ?_⟩
 refine oe ?_
 replace L257 := st259.lc L257 (Ne.symm ne256_257)
 refine es 29 0 (.agg #[xr253, yr253]) [xr253, yr253] #[xr253, yr253] L257 hB q257 ⟨hr253.one0, hr253.one1, trivial⟩ fun w261 st261 kp261 L257 hB => ?_
 replace L12 := st261.lc L12 ne12_257
 replace L245 := st261.lc L245 ne245_257
 refine ⟨⟨L12, L245⟩, ?_⟩
 refine ov 16 (.int .i64 0) ?_
 simp only [p3, p4]
 refine ord_nil ?_
 refine k247 _ _ ?_
 try clear k247 K247
 have gd263 := Gr.drew w261
 replace hB := hB.trans gd263
 replace L245 := L245.gr gd263
 replace L256 := (st261.lc L256 ne256_257).gr gd263
 replace L205 := (st261.lc (st259.lc (L205.gr (gd248.trans (g249.trans (g250.trans (g252.trans (g253.trans g255)))))) ne205_256) ne205_257).gr gd263
 refine wp_region_ort (fun w' => Lc w' b245 #[t9_4, t9_5, t9_6, t9_7] 31 ∧ Lc w' b256 #[x253, y253] 29) [([6], (fun w' => Lc w' b205 #[x238, y238] 29))] [(true, 0), (true, 1), (true, 3), (false, 2), (false, 4), (false, 5), (false, 6)] (by kernel_rfl) (by kernel_rfl) (by kernel_rfl) (by decide) (fun _ _ _ _ _ h => h) ⟨L245, L256⟩ ⟨fun _ => L205, trivial⟩ ?_
 refine tw 63 (.agg #[x238, y238]) rfl (fun w' hS => (rl 29 0 [x238, y238] (hS.2.1 (by kernel_rfl)))) ?_
 simp only [p3, p4]
 refine tw 64 (.agg #[t9_4, t9_5, t9_6, t9_7]) rfl (fun w' hS => (rl 31 0 [t9_4, t9_5, t9_6, t9_7] hS.1.1)) ?_
 simp only [p3, p4]
 refine tw 66 (.agg #[x253, y253]) rfl (fun w' hS => (rl 29 0 [x253, y253] hS.1.2)) ?_
 simp only [p3, p4]
 refine te ?_
 have kq266 := g250.kp.trans (g252.kp.trans (g253.kp.trans (g255.kp.trans (kp259.trans (kp261.trans gd263.kp)))))
 replace h9b := h9b.kp kq266
 refine ec 65 (num_r h9b) ?_
 rintro e265 w265 ⟨⟨x265, y265, rfl, h265⟩, g265⟩
 refine ⟨_, rfl, ?_⟩
 replace hB := hB.trans g265
 replace L245 := L245.gr g265
 replace L256 := L256.gr g265
 replace L205 := L205.gr g265
 refine ⟨⟨L245, L256⟩, ⟨fun _ => L205, trivial⟩, ?_⟩
 simp only [p3, p4]
 refine te ?_
 have kq269 := g255.kp.trans (kp259.trans (kp261.trans (gd263.kp.trans g265.kp)))
 replace h253 := h253.kp kq269
 refine ec 67 (mul_i h265 h253 (by omega)) ?_
 rintro e268 w268 ⟨⟨x268, y268, rfl, h268⟩, g268⟩
 refine ⟨_, rfl, ?_⟩
 replace hB := hB.trans g268
 replace h268 := (show IsInt _ _ _ _ (tz (tden a1 a2 a3 d1 d2 d3) a2) from h268)
 replace L245 := L245.gr g268
 replace L256 := L256.gr g268
 replace L205 := L205.gr g268
 refine ⟨⟨L245, L256⟩, ⟨fun _ => L205, trivial⟩, ?_⟩
 simp only [p3, p4]
 refine te ?_
 have kq272 := kp240.trans (g245.kp.trans (kp246.trans (gd248.kp.trans (g249.kp.trans (g250.kp.trans (g252.kp.trans (g253.kp.trans (g255.kp.trans (kp259.trans (kp261.trans (gd263.kp.trans (g265.kp.trans g268.kp))))))))))))
 replace h238 := h238.kp kq272
 refine ec 68 (gcd_i h238 h268 (by omega)) ?_
 rintro e271 w271 ⟨⟨x271, y271, rfl, h271⟩, g271⟩
 refine ⟨_, rfl, ?_⟩
 replace hB := hB.trans g271
 replace h271 := (show IsInt _ _ _ _ ((Int.gcd ((Int.gcd (0) (tz (tden a1 a2 a3 d1 d2 d3) a1) : Int)) (tz (tden a1 a2 a3 d1 d2 d3) a2) : Int)) from h271)
 replace L245 := L245.gr g271
 replace L256 := L256.gr g271
 replace L205 := L205.gr g271
 refine ⟨⟨L245, L256⟩, ⟨fun _ => L205, trivial⟩, ?_⟩
 simp only [p3, p4]
 refine te ?_
 refine es 29 0 (.agg #[x271, y271]) [x271, y271] #[x271, y271] L205 hB q205 ⟨h271.one0, h271.one1, trivial⟩ fun w274 st274 kp274 L205 hB => ?_
 replace L245 := st274.lc L245 (Ne.symm ne205_245)
 replace L256 := st274.lc L256 (Ne.symm ne205_256)
 refine ⟨⟨L245, L256⟩, ⟨cameT (by kernel_rfl), trivial⟩, ?_⟩
 refine ort_nil ?_
 refine k243 _ _ ?_
 try clear k243 K243
 refine rg [0, 1] ?_
 refine sv 69 (.int .i64 2) ?_
 simp only [p3, p4]
 refine sv 51 (.int .i64 2) ?_
 simp only [p3, p4]
 refine sq_nil ?_
 show Code.rounds _ _ _ _ _ _
 show Code.wp _ _ _ _ _
 refine wp_seq_k (fun K275 k275 => ?_)
 refine rg [0] ?_
 refine sv 52 (.bool true) ?_
 simp only [p3, p4]
 refine sq_nil ?_
 refine k275 _ _ ?_
 try clear k275 K275
 refine wp_seq_k (fun K276 k276 => ?_)
 refine wp_cond_true rfl ?_
 refine wp_skip ?_
 refine k276 _ _ ?_
 try clear k276 K276
 refine wp_seq_k (fun K277 k277 => ?_)
 refine wp_block ?_
 refine wp_seq_k (fun K278 k278 => ?_)
 refine rg [0, 1, 2, 3] ?_
 refine sv 53 (.pointer (some ⟨b9, 8, none⟩)) ?_
 simp only [p3, p4]
 replace L9 := st274.lc ((st261.lc (st259.lc (L9.gr (gd248.trans (g249.trans (g250.trans (g252.trans (g253.trans g255)))))) ne9_256) ne9_257).gr (gd263.trans (g265.trans (g268.trans g271)))) ne9_205
 refine sw 54 (.agg #[t9_8, t9_9, t9_10, t9_11]) rfl (rl 31 8 [t9_8, t9_9, t9_10, t9_11] L9) ?_
 simp only [p3, p4]
 refine se ?_
 refine ea 31 #[(.bool false), (.slice none 0 0), (.bool false), (.slice none 0 0)] 13 hB fun b279 w279 g279 L279 o279 q279 hB => ?_
 replace L2 := st274.lc ((st261.lc (st259.lc (L2.gr (gd248.trans (g249.trans (g250.trans (g252.trans (g253.trans g255)))))) ne2_256) ne2_257).gr (gd263.trans (g265.trans (g268.trans g271)))) ne2_205
 have ne2_279 := L2.ne o279
 replace L3 := st274.lc ((st261.lc (st259.lc (L3.gr (gd248.trans (g249.trans (g250.trans (g252.trans (g253.trans g255)))))) ne3_256) ne3_257).gr (gd263.trans (g265.trans (g268.trans g271)))) ne3_205
 have ne3_279 := L3.ne o279
 have ne9_279 := L9.ne o279
 replace L12 := st274.lc (L12.gr (gd263.trans (g265.trans (g268.trans g271)))) ne12_205
 have ne12_279 := L12.ne o279
 have ne205_279 := L205.ne o279
 have ne256_279 := L256.ne o279
 replace L257 := st274.lc (L257.gr (gd263.trans (g265.trans (g268.trans g271)))) (Ne.symm ne205_257)
 have ne257_279 := L257.ne o279
 simp only [p3, p4]
 refine se ?_
 refine es 31 0 (.agg #[t9_8, t9_9, t9_10, t9_11]) [t9_8, t9_9, t9_10, t9_11] #[t9_8, t9_9, t9_10, t9_11] L279 hB q279 ⟨h9c.one0, h9c.one1, h9c.one2, h9c.one3, trivial⟩ fun w280 st280 kp280 L279 hB => ?_
 refine sq_nil ?_
 refine k278 _ _ ?_
 try clear k278 K278
 refine wp_seq_k (fun K281 k281 => ?_)
 have hz282 := Below.size hB
 replace L2 := st280.lc (L2.gr g279) ne2_279
 have lt2_282 := L2.lt
 replace L3 := st280.lc (L3.gr g279) ne3_279
 have lt3_282 := L3.lt
 replace L9 := st280.lc (L9.gr g279) ne9_279
 have lt9_282 := L9.lt
 replace L12 := st280.lc (L12.gr g279) ne12_279
 have lt12_282 := L12.lt
 replace L205 := st280.lc (L205.gr g279) ne205_279
 have lt205_282 := L205.lt
 replace L256 := st280.lc (L256.gr g279) ne256_279
 have lt256_282 := L256.lt
 replace L257 := st280.lc (L257.gr g279) ne257_279
 have lt257_282 := L257.lt
 have lt279_282 := L279.lt
 have gd282 := Gr.drew w280
 replace hB := hB.trans gd282
 replace L12 := L12.gr gd282
 replace L279 := L279.gr gd282
 refine wp_region_flo (fun w' => Lc w' b12 #[x198, y198] 29 ∧ Lc w' b279 #[t9_8, t9_9, t9_10, t9_11] 31) [(true, 0), (true, 1), (false, 2), (false, 3), (true, 4), (true, 5), (true, 6), (true, 7)] [⟨8, 14, 29, #[(.bool false), (.slice none 0 0)]⟩, ⟨9, 15, 29, #[(.bool false), (.slice none 0 0)]⟩] [(false, 10), (false, 11), (true, 12)] (by kernel_rfl) (by kernel_rfl) (by kernel_rfl) (by kernel_rfl) (by kernel_rfl) (by decide) (fun _ _ _ _ _ h => h) (fun _ _ _ _ _ h => h) (fun w' o h => ⟨Lc.gr h.1 (Gr.alloc w' o), Lc.gr h.2 (Gr.alloc w' o)⟩) ⟨L12, L279⟩ (by intro f hf; simp only [List.mem_cons, List.not_mem_nil, or_false] at hf; rcases hf with rfl | rfl <;> first | exact alloc_zero (z := (.agg #[(.bool false), (.slice none 0 0)])) (by kernel_rfl) rfl | exact alloc_zero (z := (.agg #[(.bool false), (.slice none 0 0)])) (by kernel_rfl) rfl) ?_
 refine fw 56 (.agg #[x198, y198]) rfl (fun w' hS => (rl 29 0 [x198, y198] hS.1)) ?_
 simp only [p3, p4]
 refine fw 57 (.agg #[t9_8, t9_9, t9_10, t9_11]) rfl (fun w' hS => (rl 31 0 [t9_8, t9_9, t9_10, t9_11] hS.2)) ?_
 simp only [p3, p4]
 refine flo_eff rfl rfl (fun w283 g283 _ K283 k283 => ?_)
 replace hB := hB.trans g283
 have kq285 := g90.kp.trans (g92.kp.trans (g93.kp.trans (g95.kp.trans (g96.kp.trans (g98.kp.trans (kp102.trans (kp104.trans (g105.kp.trans (kp108.trans (g113.kp.trans (kp114.trans (gd116.kp.trans (g117.kp.trans (g118.kp.trans (g120.kp.trans (g121.kp.trans (g123.kp.trans (g124.kp.trans (g126.kp.trans (g127.kp.trans (g129.kp.trans (kp133.trans (kp135.trans (g136.kp.trans (kp139.trans (g144.kp.trans (kp145.trans (gd147.kp.trans (g148.kp.trans (g149.kp.trans (g151.kp.trans (g152.kp.trans (g154.kp.trans (g155.kp.trans (g157.kp.trans (g158.kp.trans (g160.kp.trans (kp164.trans (kp166.trans (g167.kp.trans (kp170.trans (g175.kp.trans (kp176.trans (gd178.kp.trans (g179.kp.trans (g180.kp.trans (g182.kp.trans (g183.kp.trans (g185.kp.trans (g186.kp.trans (g188.kp.trans (g189.kp.trans (g191.kp.trans (kp195.trans (kp197.trans (g198.kp.trans (kp201.trans (g205.kp.trans (g212.kp.trans (kp213.trans (gd215.kp.trans (g216.kp.trans (g217.kp.trans (g219.kp.trans (g220.kp.trans (g222.kp.trans (kp226.trans (kp228.trans (gd230.kp.trans (g232.kp.trans (g235.kp.trans (g238.kp.trans (kp240.trans (g245.kp.trans (kp246.trans (gd248.kp.trans (g249.kp.trans (g250.kp.trans (g252.kp.trans (g253.kp.trans (g255.kp.trans (kp259.trans (kp261.trans (gd263.kp.trans (g265.kp.trans (g268.kp.trans (g271.kp.trans (kp274.trans (g279.kp.trans (kp280.trans (gd282.kp.trans g283.kp)))))))))))))))))))))))))))))))))))))))))))))))))))))))))))))))))))))))))))))))))))))))))))
 replace h9c := h9c.kp kq285
 refine ec 58 (den_i h9c) ?_
 rintro e284 w284 ⟨⟨x284, y284, rfl, h284⟩, g284⟩
 refine ⟨_, rfl, ?_⟩
 replace hB := hB.trans g284
 replace L12 := L12.gr (g283.trans g284)
 replace L279 := L279.gr (g283.trans g284)
 refine k283 _ _ g284 ⟨L12, L279⟩ ?_
 try clear k283 K283
 simp only [p3, p4]
 refine flo_eff rfl rfl (fun w286 g286 _ K286 k286 => ?_)
 replace hB := hB.trans g286
 have kq288 := g253.kp.trans (g255.kp.trans (kp259.trans (kp261.trans (gd263.kp.trans (g265.kp.trans (g268.kp.trans (g271.kp.trans (kp274.trans (g279.kp.trans (kp280.trans (gd282.kp.trans (g283.kp.trans (g284.kp.trans g286.kp)))))))))))))
 replace h198 := h198.kp kq288
 replace h284 := h284.kp g286.kp
 refine ec 59 (divmod_i h198 h284 (tz_den_pos _) (by omega)) ?_
 rintro e287 w287 ⟨⟨x287, y287, xr287, yr287, rfl, h287, hr287⟩, g287⟩
 refine ⟨_, rfl, ?_⟩
 replace hB := hB.trans g287
 replace L12 := L12.gr (g286.trans g287)
 replace L279 := L279.gr (g286.trans g287)
 refine k286 _ _ g287 ⟨L12, L279⟩ ?_
 try clear k286 K286
 simp only [p3, p4]
 refine fv 55 (.tuple #[(.agg #[x287, y287]), (.agg #[xr287, yr287]), (.int .i64 0)]) ?_
 simp only [p3, p4]
 refine fv 60 (.agg #[x287, y287]) ?_
 simp only [p3, p4]
 refine fv 61 (.agg #[xr287, yr287]) ?_
 simp only [p3, p4]
 refine fv 62 (.int .i64 0) ?_
 simp only [p3, p4]
 refine flo_nil (fun w289 g289 _ => ?_)
 replace hB := hB.trans g289
 refine floFin2 (fun b290 b291 (L290 : Lc w289 b290 #[(.bool false), (.slice none 0 0)] 29) q290 (L291 : Lc w289 b291 #[(.bool false), (.slice none 0 0)] 29) q291 ne290_291 => ?_)
 have ne2_290 : b2 ≠ b290 := Nat.ne_of_lt (Nat.lt_of_lt_of_le lt2_282 q290)
 have ne3_290 : b3 ≠ b290 := Nat.ne_of_lt (Nat.lt_of_lt_of_le lt3_282 q290)
 have ne9_290 : b9 ≠ b290 := Nat.ne_of_lt (Nat.lt_of_lt_of_le lt9_282 q290)
 have ne12_290 : b12 ≠ b290 := Nat.ne_of_lt (Nat.lt_of_lt_of_le lt12_282 q290)
 have ne205_290 : b205 ≠ b290 := Nat.ne_of_lt (Nat.lt_of_lt_of_le lt205_282 q290)
 have ne256_290 : b256 ≠ b290 := Nat.ne_of_lt (Nat.lt_of_lt_of_le lt256_282 q290)
 have ne257_290 : b257 ≠ b290 := Nat.ne_of_lt (Nat.lt_of_lt_of_le lt257_282 q290)
 have ne279_290 : b279 ≠ b290 := Nat.ne_of_lt (Nat.lt_of_lt_of_le lt279_282 q290)
 replace q290 := Nat.le_trans hz282 q290
 have ne2_291 : b2 ≠ b291 := Nat.ne_of_lt (Nat.lt_of_lt_of_le lt2_282 q291)
 have ne3_291 : b3 ≠ b291 := Nat.ne_of_lt (Nat.lt_of_lt_of_le lt3_282 q291)
 have ne9_291 : b9 ≠ b291 := Nat.ne_of_lt (Nat.lt_of_lt_of_le lt9_282 q291)
 have ne12_291 : b12 ≠ b291 := Nat.ne_of_lt (Nat.lt_of_lt_of_le lt12_282 q291)
 have ne205_291 : b205 ≠ b291 := Nat.ne_of_lt (Nat.lt_of_lt_of_le lt205_282 q291)
 have ne256_291 : b256 ≠ b291 := Nat.ne_of_lt (Nat.lt_of_lt_of_le lt256_282 q291)
 have ne257_291 : b257 ≠ b291 := Nat.ne_of_lt (Nat.lt_of_lt_of_le lt257_282 q291)
 have ne279_291 : b279 ≠ b291 := Nat.ne_of_lt (Nat.lt_of_lt_of_le lt279_282 q291)
 replace q291 := Nat.le_trans hz282 q291
 simp only [putl, p3, p4]
 refine oe ?_
 refine es 29 0 (.agg #[x287, y287]) [x287, y287] #[x287, y287] L290 hB q290 ⟨h287.one0, h287.one1, trivial⟩ fun w293 st293 kp293 L290 hB => ?_
 replace L12 := st293.lc (L12.gr g289) ne12_290
 replace L279 := st293.lc (L279.gr g289) ne279_290
 refine ⟨⟨L12, L279⟩, ?_⟩
 refine oe ?_
 replace L291 := st293.lc L291 (Ne.symm ne290_291)
 refine es 29 0 (.agg #[xr287, yr287]) [xr287, yr287] #[xr287, yr287] L291 hB q291 ⟨hr287.one0, hr287.one1, trivial⟩ fun w295 st295 kp295 L291 hB => ?_
 replace L12 := st295.lc L12 ne12_291
 replace L279 := st295.lc L279 ne279_291
 refine ⟨⟨L12, L279⟩, ?_⟩
 refine ov 16 (.int .i64 0) ?_
 simp only [p3, p4]
 refine ord_nil ?_
 refine k281 _ _ ?_
 try clear k281 K281
 have gd297 := Gr.drew w295
 replace hB := hB.trans gd297
 replace L279 := L279.gr gd297
 replace L290 := (st295.lc L290 ne290_291).gr gd297
 replace L205 := (st295.lc (st293.lc (L205.gr (gd282.trans (g283.trans (g284.trans (g286.trans (g287.trans g289)))))) ne205_290) ne205_291).gr gd297
 refine wp_region_ort (fun w' => Lc w' b279 #[t9_8, t9_9, t9_10, t9_11] 31 ∧ Lc w' b290 #[x287, y287] 29) [([6], (fun w' => Lc w' b205 #[x271, y271] 29))] [(true, 0), (true, 1), (true, 3), (false, 2), (false, 4), (false, 5), (false, 6)] (by kernel_rfl) (by kernel_rfl) (by kernel_rfl) (by decide) (fun _ _ _ _ _ h => h) ⟨L279, L290⟩ ⟨fun _ => L205, trivial⟩ ?_
 refine tw 63 (.agg #[x271, y271]) rfl (fun w' hS => (rl 29 0 [x271, y271] (hS.2.1 (by kernel_rfl)))) ?_
 simp only [p3, p4]
 refine tw 64 (.agg #[t9_8, t9_9, t9_10, t9_11]) rfl (fun w' hS => (rl 31 0 [t9_8, t9_9, t9_10, t9_11] hS.1.1)) ?_
 simp only [p3, p4]
 refine tw 66 (.agg #[x287, y287]) rfl (fun w' hS => (rl 29 0 [x287, y287] hS.1.2)) ?_
 simp only [p3, p4]
 refine te ?_
 have kq300 := g284.kp.trans (g286.kp.trans (g287.kp.trans (g289.kp.trans (kp293.trans (kp295.trans gd297.kp)))))
 replace h9c := h9c.kp kq300
 refine ec 65 (num_r h9c) ?_
 rintro e299 w299 ⟨⟨x299, y299, rfl, h299⟩, g299⟩
 refine ⟨_, rfl, ?_⟩
 replace hB := hB.trans g299
 replace L279 := L279.gr g299
 replace L290 := L290.gr g299
 replace L205 := L205.gr g299
 refine ⟨⟨L279, L290⟩, ⟨fun _ => L205, trivial⟩, ?_⟩
 simp only [p3, p4]
 refine te ?_
 have kq303 := g289.kp.trans (kp293.trans (kp295.trans (gd297.kp.trans g299.kp)))
 replace h287 := h287.kp kq303
 refine ec 67 (mul_i h299 h287 (by omega)) ?_
 rintro e302 w302 ⟨⟨x302, y302, rfl, h302⟩, g302⟩
 refine ⟨_, rfl, ?_⟩
 replace hB := hB.trans g302
 replace h302 := (show IsInt _ _ _ _ (tz (tden a1 a2 a3 d1 d2 d3) a3) from h302)
 replace L279 := L279.gr g302
 replace L290 := L290.gr g302
 replace L205 := L205.gr g302
 refine ⟨⟨L279, L290⟩, ⟨fun _ => L205, trivial⟩, ?_⟩
 simp only [p3, p4]
 refine te ?_
 have kq306 := kp274.trans (g279.kp.trans (kp280.trans (gd282.kp.trans (g283.kp.trans (g284.kp.trans (g286.kp.trans (g287.kp.trans (g289.kp.trans (kp293.trans (kp295.trans (gd297.kp.trans (g299.kp.trans g302.kp))))))))))))
 replace h271 := h271.kp kq306
 refine ec 68 (gcd_i h271 h302 (by omega)) ?_
 rintro e305 w305 ⟨⟨x305, y305, rfl, h305⟩, g305⟩
 refine ⟨_, rfl, ?_⟩
 replace hB := hB.trans g305
 replace h305 := (show IsInt _ _ _ _ ((Int.gcd ((Int.gcd ((Int.gcd (0) (tz (tden a1 a2 a3 d1 d2 d3) a1) : Int)) (tz (tden a1 a2 a3 d1 d2 d3) a2) : Int)) (tz (tden a1 a2 a3 d1 d2 d3) a3) : Int)) from h305)
 replace L279 := L279.gr g305
 replace L290 := L290.gr g305
 replace L205 := L205.gr g305
 refine ⟨⟨L279, L290⟩, ⟨fun _ => L205, trivial⟩, ?_⟩
 simp only [p3, p4]
 refine te ?_
 refine es 29 0 (.agg #[x305, y305]) [x305, y305] #[x305, y305] L205 hB q205 ⟨h305.one0, h305.one1, trivial⟩ fun w308 st308 kp308 L205 hB => ?_
 replace L279 := st308.lc L279 (Ne.symm ne205_279)
 replace L290 := st308.lc L290 (Ne.symm ne205_290)
 refine ⟨⟨L279, L290⟩, ⟨cameT (by kernel_rfl), trivial⟩, ?_⟩
 refine ort_nil ?_
 refine k277 _ _ ?_
 try clear k277 K277
 refine rg [0, 1] ?_
 refine sv 69 (.int .i64 3) ?_
 simp only [p3, p4]
 refine sv 51 (.int .i64 3) ?_
 simp only [p3, p4]
 refine sq_nil ?_
 show Code.rounds _ _ _ _ _ _
 show Code.wp _ _ _ _ _
 refine wp_seq_k (fun K309 k309 => ?_)
 refine rg [0] ?_
 refine sv 52 (.bool true) ?_
 simp only [p3, p4]
 refine sq_nil ?_
 refine k309 _ _ ?_
 try clear k309 K309
 refine wp_seq_k (fun K310 k310 => ?_)
 refine wp_cond_true rfl ?_
 refine wp_skip ?_
 refine k310 _ _ ?_
 try clear k310 K310
 refine wp_seq_k (fun K311 k311 => ?_)
 refine wp_block ?_
 refine wp_seq_k (fun K312 k312 => ?_)
 refine rg [0, 1, 2, 3] ?_
 refine sv 53 (.pointer (some ⟨b9, 12, none⟩)) ?_
 simp only [p3, p4]
 replace L9 := st308.lc ((st295.lc (st293.lc (L9.gr (gd282.trans (g283.trans (g284.trans (g286.trans (g287.trans g289)))))) ne9_290) ne9_291).gr (gd297.trans (g299.trans (g302.trans g305)))) ne9_205
 refine sw 54 (.agg #[t9_12, t9_13, t9_14, t9_15]) rfl (rl 31 12 [t9_12, t9_13, t9_14, t9_15] L9) ?_
 simp only [p3, p4]
 refine se ?_
 refine ea 31 #[(.bool false), (.slice none 0 0), (.bool false), (.slice none 0 0)] 13 hB fun b313 w313 g313 L313 o313 q313 hB => ?_
 replace L2 := st308.lc ((st295.lc (st293.lc (L2.gr (gd282.trans (g283.trans (g284.trans (g286.trans (g287.trans g289)))))) ne2_290) ne2_291).gr (gd297.trans (g299.trans (g302.trans g305)))) ne2_205
 have ne2_313 := L2.ne o313
 replace L3 := st308.lc ((st295.lc (st293.lc (L3.gr (gd282.trans (g283.trans (g284.trans (g286.trans (g287.trans g289)))))) ne3_290) ne3_291).gr (gd297.trans (g299.trans (g302.trans g305)))) ne3_205
 have ne3_313 := L3.ne o313
 have ne9_313 := L9.ne o313
 replace L12 := st308.lc (L12.gr (gd297.trans (g299.trans (g302.trans g305)))) ne12_205
 have ne12_313 := L12.ne o313
 have ne205_313 := L205.ne o313
 have ne290_313 := L290.ne o313
 replace L291 := st308.lc (L291.gr (gd297.trans (g299.trans (g302.trans g305)))) (Ne.symm ne205_291)
 have ne291_313 := L291.ne o313
 simp only [p3, p4]
 refine se ?_
 refine es 31 0 (.agg #[t9_12, t9_13, t9_14, t9_15]) [t9_12, t9_13, t9_14, t9_15] #[t9_12, t9_13, t9_14, t9_15] L313 hB q313 ⟨h9d.one0, h9d.one1, h9d.one2, h9d.one3, trivial⟩ fun w314 st314 kp314 L313 hB => ?_
 refine sq_nil ?_
 refine k312 _ _ ?_
 try clear k312 K312
 refine wp_seq_k (fun K315 k315 => ?_)
 have hz316 := Below.size hB
 replace L2 := st314.lc (L2.gr g313) ne2_313
 have lt2_316 := L2.lt
 replace L3 := st314.lc (L3.gr g313) ne3_313
 have lt3_316 := L3.lt
 replace L9 := st314.lc (L9.gr g313) ne9_313
 have lt9_316 := L9.lt
 replace L12 := st314.lc (L12.gr g313) ne12_313
 have lt12_316 := L12.lt
 replace L205 := st314.lc (L205.gr g313) ne205_313
 have lt205_316 := L205.lt
 replace L290 := st314.lc (L290.gr g313) ne290_313
 have lt290_316 := L290.lt
 replace L291 := st314.lc (L291.gr g313) ne291_313
 have lt291_316 := L291.lt
 have lt313_316 := L313.lt
 have gd316 := Gr.drew w314
 replace hB := hB.trans gd316
 replace L12 := L12.gr gd316
 replace L313 := L313.gr gd316
 refine wp_region_flo (fun w' => Lc w' b12 #[x198, y198] 29 ∧ Lc w' b313 #[t9_12, t9_13, t9_14, t9_15] 31) [(true, 0), (true, 1), (false, 2), (false, 3), (true, 4), (true, 5), (true, 6), (true, 7)] [⟨8, 14, 29, #[(.bool false), (.slice none 0 0)]⟩, ⟨9, 15, 29, #[(.bool false), (.slice none 0 0)]⟩] [(false, 10), (false, 11), (true, 12)] (by kernel_rfl) (by kernel_rfl) (by kernel_rfl) (by kernel_rfl) (by kernel_rfl) (by decide) (fun _ _ _ _ _ h => h) (fun _ _ _ _ _ h => h) (fun w' o h => ⟨Lc.gr h.1 (Gr.alloc w' o), Lc.gr h.2 (Gr.alloc w' o)⟩) ⟨L12, L313⟩ (by intro f hf; simp only [List.mem_cons, List.not_mem_nil, or_false] at hf; rcases hf with rfl | rfl <;> first | exact alloc_zero (z := (.agg #[(.bool false), (.slice none 0 0)])) (by kernel_rfl) rfl | exact alloc_zero (z := (.agg #[(.bool false), (.slice none 0 0)])) (by kernel_rfl) rfl) ?_
 refine fw 56 (.agg #[x198, y198]) rfl (fun w' hS => (rl 29 0 [x198, y198] hS.1)) ?_
 simp only [p3, p4]
 refine fw 57 (.agg #[t9_12, t9_13, t9_14, t9_15]) rfl (fun w' hS => (rl 31 0 [t9_12, t9_13, t9_14, t9_15] hS.2)) ?_
 simp only [p3, p4]
 refine flo_eff rfl rfl (fun w317 g317 _ K317 k317 => ?_)
 replace hB := hB.trans g317
 have kq319 := g121.kp.trans (g123.kp.trans (g124.kp.trans (g126.kp.trans (g127.kp.trans (g129.kp.trans (kp133.trans (kp135.trans (g136.kp.trans (kp139.trans (g144.kp.trans (kp145.trans (gd147.kp.trans (g148.kp.trans (g149.kp.trans (g151.kp.trans (g152.kp.trans (g154.kp.trans (g155.kp.trans (g157.kp.trans (g158.kp.trans (g160.kp.trans (kp164.trans (kp166.trans (g167.kp.trans (kp170.trans (g175.kp.trans (kp176.trans (gd178.kp.trans (g179.kp.trans (g180.kp.trans (g182.kp.trans (g183.kp.trans (g185.kp.trans (g186.kp.trans (g188.kp.trans (g189.kp.trans (g191.kp.trans (kp195.trans (kp197.trans (g198.kp.trans (kp201.trans (g205.kp.trans (g212.kp.trans (kp213.trans (gd215.kp.trans (g216.kp.trans (g217.kp.trans (g219.kp.trans (g220.kp.trans (g222.kp.trans (kp226.trans (kp228.trans (gd230.kp.trans (g232.kp.trans (g235.kp.trans (g238.kp.trans (kp240.trans (g245.kp.trans (kp246.trans (gd248.kp.trans (g249.kp.trans (g250.kp.trans (g252.kp.trans (g253.kp.trans (g255.kp.trans (kp259.trans (kp261.trans (gd263.kp.trans (g265.kp.trans (g268.kp.trans (g271.kp.trans (kp274.trans (g279.kp.trans (kp280.trans (gd282.kp.trans (g283.kp.trans (g284.kp.trans (g286.kp.trans (g287.kp.trans (g289.kp.trans (kp293.trans (kp295.trans (gd297.kp.trans (g299.kp.trans (g302.kp.trans (g305.kp.trans (kp308.trans (g313.kp.trans (kp314.trans (gd316.kp.trans g317.kp))))))))))))))))))))))))))))))))))))))))))))))))))))))))))))))))))))))))))))))))))))))))))
 replace h9d := h9d.kp kq319
 refine ec 58 (den_i h9d) ?_
 rintro e318 w318 ⟨⟨x318, y318, rfl, h318⟩, g318⟩
 refine ⟨_, rfl, ?_⟩
 replace hB := hB.trans g318
 replace L12 := L12.gr (g317.trans g318)
 replace L313 := L313.gr (g317.trans g318)
 refine k317 _ _ g318 ⟨L12, L313⟩ ?_
 try clear k317 K317
 simp only [p3, p4]
 refine flo_eff rfl rfl (fun w320 g320 _ K320 k320 => ?_)
 replace hB := hB.trans g320
 have kq322 := g287.kp.trans (g289.kp.trans (kp293.trans (kp295.trans (gd297.kp.trans (g299.kp.trans (g302.kp.trans (g305.kp.trans (kp308.trans (g313.kp.trans (kp314.trans (gd316.kp.trans (g317.kp.trans (g318.kp.trans g320.kp)))))))))))))
 replace h198 := h198.kp kq322
 replace h318 := h318.kp g320.kp
 refine ec 59 (divmod_i h198 h318 (tz_den_pos _) (by omega)) ?_
 rintro e321 w321 ⟨⟨x321, y321, xr321, yr321, rfl, h321, hr321⟩, g321⟩
 refine ⟨_, rfl, ?_⟩
 replace hB := hB.trans g321
 replace L12 := L12.gr (g320.trans g321)
 replace L313 := L313.gr (g320.trans g321)
 refine k320 _ _ g321 ⟨L12, L313⟩ ?_
 try clear k320 K320
 simp only [p3, p4]
 refine fv 55 (.tuple #[(.agg #[x321, y321]), (.agg #[xr321, yr321]), (.int .i64 0)]) ?_
 simp only [p3, p4]
 refine fv 60 (.agg #[x321, y321]) ?_
 simp only [p3, p4]
 refine fv 61 (.agg #[xr321, yr321]) ?_
 simp only [p3, p4]
 refine fv 62 (.int .i64 0) ?_
 simp only [p3, p4]
 refine flo_nil (fun w323 g323 _ => ?_)
 replace hB := hB.trans g323
 refine floFin2 (fun b324 b325 (L324 : Lc w323 b324 #[(.bool false), (.slice none 0 0)] 29) q324 (L325 : Lc w323 b325 #[(.bool false), (.slice none 0 0)] 29) q325 ne324_325 => ?_)
 have ne2_324 : b2 ≠ b324 := Nat.ne_of_lt (Nat.lt_of_lt_of_le lt2_316 q324)
 have ne3_324 : b3 ≠ b324 := Nat.ne_of_lt (Nat.lt_of_lt_of_le lt3_316 q324)
 have ne9_324 : b9 ≠ b324 := Nat.ne_of_lt (Nat.lt_of_lt_of_le lt9_316 q324)
 have ne12_324 : b12 ≠ b324 := Nat.ne_of_lt (Nat.lt_of_lt_of_le lt12_316 q324)
 have ne205_324 : b205 ≠ b324 := Nat.ne_of_lt (Nat.lt_of_lt_of_le lt205_316 q324)
 have ne290_324 : b290 ≠ b324 := Nat.ne_of_lt (Nat.lt_of_lt_of_le lt290_316 q324)
 have ne291_324 : b291 ≠ b324 := Nat.ne_of_lt (Nat.lt_of_lt_of_le lt291_316 q324)
 have ne313_324 : b313 ≠ b324 := Nat.ne_of_lt (Nat.lt_of_lt_of_le lt313_316 q324)
 replace q324 := Nat.le_trans hz316 q324
 have ne2_325 : b2 ≠ b325 := Nat.ne_of_lt (Nat.lt_of_lt_of_le lt2_316 q325)
 have ne3_325 : b3 ≠ b325 := Nat.ne_of_lt (Nat.lt_of_lt_of_le lt3_316 q325)
 have ne9_325 : b9 ≠ b325 := Nat.ne_of_lt (Nat.lt_of_lt_of_le lt9_316 q325)
 have ne12_325 : b12 ≠ b325 := Nat.ne_of_lt (Nat.lt_of_lt_of_le lt12_316 q325)
 have ne205_325 : b205 ≠ b325 := Nat.ne_of_lt (Nat.lt_of_lt_of_le lt205_316 q325)
 have ne290_325 : b290 ≠ b325 := Nat.ne_of_lt (Nat.lt_of_lt_of_le lt290_316 q325)
 have ne291_325 : b291 ≠ b325 := Nat.ne_of_lt (Nat.lt_of_lt_of_le lt291_316 q325)
 have ne313_325 : b313 ≠ b325 := Nat.ne_of_lt (Nat.lt_of_lt_of_le lt313_316 q325)
 replace q325 := Nat.le_trans hz316 q325
 simp only [putl, p3, p4]
 refine oe ?_
 refine es 29 0 (.agg #[x321, y321]) [x321, y321] #[x321, y321] L324 hB q324 ⟨h321.one0, h321.one1, trivial⟩ fun w327 st327 kp327 L324 hB => ?_
 replace L12 := st327.lc (L12.gr g323) ne12_324
 replace L313 := st327.lc (L313.gr g323) ne313_324
 refine ⟨⟨L12, L313⟩, ?_⟩
 refine oe ?_
 replace L325 := st327.lc L325 (Ne.symm ne324_325)
 refine es 29 0 (.agg #[xr321, yr321]) [xr321, yr321] #[xr321, yr321] L325 hB q325 ⟨hr321.one0, hr321.one1, trivial⟩ fun w329 st329 kp329 L325 hB => ?_
 replace L12 := st329.lc L12 ne12_325
 replace L313 := st329.lc L313 ne313_325
 refine ⟨⟨L12, L313⟩, ?_⟩
 refine ov 16 (.int .i64 0) ?_
 simp only [p3, p4]
 refine ord_nil ?_
 refine k315 _ _ ?_
 try clear k315 K315
 have gd331 := Gr.drew w329
 replace hB := hB.trans gd331
 replace L313 := L313.gr gd331
 replace L324 := (st329.lc L324 ne324_325).gr gd331
 replace L205 := (st329.lc (st327.lc (L205.gr (gd316.trans (g317.trans (g318.trans (g320.trans (g321.trans g323)))))) ne205_324) ne205_325).gr gd331
 refine wp_region_ort (fun w' => Lc w' b313 #[t9_12, t9_13, t9_14, t9_15] 31 ∧ Lc w' b324 #[x321, y321] 29) [([6], (fun w' => Lc w' b205 #[x305, y305] 29))] [(true, 0), (true, 1), (true, 3), (false, 2), (false, 4), (false, 5), (false, 6)] (by kernel_rfl) (by kernel_rfl) (by kernel_rfl) (by decide) (fun _ _ _ _ _ h => h) ⟨L313, L324⟩ ⟨fun _ => L205, trivial⟩ ?_
 refine tw 63 (.agg #[x305, y305]) rfl (fun w' hS => (rl 29 0 [x305, y305] (hS.2.1 (by kernel_rfl)))) ?_
 simp only [p3, p4]
 refine tw 64 (.agg #[t9_12, t9_13, t9_14, t9_15]) rfl (fun w' hS => (rl 31 0 [t9_12, t9_13, t9_14, t9_15] hS.1.1)) ?_
 simp only [p3, p4]
 refine tw 66 (.agg #[x321, y321]) rfl (fun w' hS => (rl 29 0 [x321, y321] hS.1.2)) ?_
 simp only [p3, p4]
 refine te ?_
 have kq334 := g318.kp.trans (g320.kp.trans (g321.kp.trans (g323.kp.trans (kp327.trans (kp329.trans gd331.kp)))))
 replace h9d := h9d.kp kq334
 refine ec 65 (num_r h9d) ?_
 rintro e333 w333 ⟨⟨x333, y333, rfl, h333⟩, g333⟩
 refine ⟨_, rfl, ?_⟩
 replace hB := hB.trans g333
 replace L313 := L313.gr g333
 replace L324 := L324.gr g333
 replace L205 := L205.gr g333
 refine ⟨⟨L313, L324⟩, ⟨fun _ => L205, trivial⟩, ?_⟩
 simp only [p3, p4]
 refine te ?_
 have kq337 := g323.kp.trans (kp327.trans (kp329.trans (gd331.kp.trans g333.kp)))
 replace h321 := h321.kp kq337
 refine ec 67 (mul_i h333 h321 (by omega)) ?_
 rintro e336 w336 ⟨⟨x336, y336, rfl, h336⟩, g336⟩
 refine ⟨_, rfl, ?_⟩
 replace hB := hB.trans g336
 replace h336 := (show IsInt _ _ _ _ (tz (tden a1 a2 a3 d1 d2 d3) d1) from h336)
 replace L313 := L313.gr g336
 replace L324 := L324.gr g336
 replace L205 := L205.gr g336
 refine ⟨⟨L313, L324⟩, ⟨fun _ => L205, trivial⟩, ?_⟩
 simp only [p3, p4]
 refine te ?_
 have kq340 := kp308.trans (g313.kp.trans (kp314.trans (gd316.kp.trans (g317.kp.trans (g318.kp.trans (g320.kp.trans (g321.kp.trans (g323.kp.trans (kp327.trans (kp329.trans (gd331.kp.trans (g333.kp.trans g336.kp))))))))))))
 replace h305 := h305.kp kq340
 refine ec 68 (gcd_i h305 h336 (by omega)) ?_
 rintro e339 w339 ⟨⟨x339, y339, rfl, h339⟩, g339⟩
 refine ⟨_, rfl, ?_⟩
 replace hB := hB.trans g339
 replace h339 := (show IsInt _ _ _ _ ((Int.gcd ((Int.gcd ((Int.gcd ((Int.gcd (0) (tz (tden a1 a2 a3 d1 d2 d3) a1) : Int)) (tz (tden a1 a2 a3 d1 d2 d3) a2) : Int)) (tz (tden a1 a2 a3 d1 d2 d3) a3) : Int)) (tz (tden a1 a2 a3 d1 d2 d3) d1) : Int)) from h339)
 replace L313 := L313.gr g339
 replace L324 := L324.gr g339
 replace L205 := L205.gr g339
 refine ⟨⟨L313, L324⟩, ⟨fun _ => L205, trivial⟩, ?_⟩
 simp only [p3, p4]
 refine te ?_
 refine es 29 0 (.agg #[x339, y339]) [x339, y339] #[x339, y339] L205 hB q205 ⟨h339.one0, h339.one1, trivial⟩ fun w342 st342 kp342 L205 hB => ?_
 replace L313 := st342.lc L313 (Ne.symm ne205_313)
 replace L324 := st342.lc L324 (Ne.symm ne205_324)
 refine ⟨⟨L313, L324⟩, ⟨cameT (by kernel_rfl), trivial⟩, ?_⟩
 refine ort_nil ?_
 refine k311 _ _ ?_
 try clear k311 K311
 refine rg [0, 1] ?_
 refine sv 69 (.int .i64 4) ?_
 simp only [p3, p4]
 refine sv 51 (.int .i64 4) ?_
 simp only [p3, p4]
 refine sq_nil ?_
 show Code.rounds _ _ _ _ _ _
 show Code.wp _ _ _ _ _
 refine wp_seq_k (fun K343 k343 => ?_)
 refine rg [0] ?_
 refine sv 52 (.bool true) ?_
 simp only [p3, p4]
 refine sq_nil ?_
 refine k343 _ _ ?_
 try clear k343 K343
 refine wp_seq_k (fun K344 k344 => ?_)
 refine wp_cond_true rfl ?_
 refine wp_skip ?_
 refine k344 _ _ ?_
 try clear k344 K344
 refine wp_seq_k (fun K345 k345 => ?_)
 refine wp_block ?_
 refine wp_seq_k (fun K346 k346 => ?_)
 refine rg [0, 1, 2, 3] ?_
 refine sv 53 (.pointer (some ⟨b9, 16, none⟩)) ?_
 simp only [p3, p4]
 replace L9 := st342.lc ((st329.lc (st327.lc (L9.gr (gd316.trans (g317.trans (g318.trans (g320.trans (g321.trans g323)))))) ne9_324) ne9_325).gr (gd331.trans (g333.trans (g336.trans g339)))) ne9_205
 refine sw 54 (.agg #[t9_16, t9_17, t9_18, t9_19]) rfl (rl 31 16 [t9_16, t9_17, t9_18, t9_19] L9) ?_
 simp only [p3, p4]
 refine se ?_
 refine ea 31 #[(.bool false), (.slice none 0 0), (.bool false), (.slice none 0 0)] 13 hB fun b347 w347 g347 L347 o347 q347 hB => ?_
 replace L2 := st342.lc ((st329.lc (st327.lc (L2.gr (gd316.trans (g317.trans (g318.trans (g320.trans (g321.trans g323)))))) ne2_324) ne2_325).gr (gd331.trans (g333.trans (g336.trans g339)))) ne2_205
 have ne2_347 := L2.ne o347
 replace L3 := st342.lc ((st329.lc (st327.lc (L3.gr (gd316.trans (g317.trans (g318.trans (g320.trans (g321.trans g323)))))) ne3_324) ne3_325).gr (gd331.trans (g333.trans (g336.trans g339)))) ne3_205
 have ne3_347 := L3.ne o347
 have ne9_347 := L9.ne o347
 replace L12 := st342.lc (L12.gr (gd331.trans (g333.trans (g336.trans g339)))) ne12_205
 have ne12_347 := L12.ne o347
 have ne205_347 := L205.ne o347
 have ne324_347 := L324.ne o347
 replace L325 := st342.lc (L325.gr (gd331.trans (g333.trans (g336.trans g339)))) (Ne.symm ne205_325)
 have ne325_347 := L325.ne o347
 simp only [p3, p4]
 refine se ?_
 refine es 31 0 (.agg #[t9_16, t9_17, t9_18, t9_19]) [t9_16, t9_17, t9_18, t9_19] #[t9_16, t9_17, t9_18, t9_19] L347 hB q347 ⟨h9e.one0, h9e.one1, h9e.one2, h9e.one3, trivial⟩ fun w348 st348 kp348 L347 hB => ?_
 refine sq_nil ?_
 refine k346 _ _ ?_
 try clear k346 K346
 refine wp_seq_k (fun K349 k349 => ?_)
 have hz350 := Below.size hB
 replace L2 := st348.lc (L2.gr g347) ne2_347
 have lt2_350 := L2.lt
 replace L3 := st348.lc (L3.gr g347) ne3_347
 have lt3_350 := L3.lt
 replace L9 := st348.lc (L9.gr g347) ne9_347
 have lt9_350 := L9.lt
 replace L12 := st348.lc (L12.gr g347) ne12_347
 have lt12_350 := L12.lt
 replace L205 := st348.lc (L205.gr g347) ne205_347
 have lt205_350 := L205.lt
 replace L324 := st348.lc (L324.gr g347) ne324_347
 have lt324_350 := L324.lt
 replace L325 := st348.lc (L325.gr g347) ne325_347
 have lt325_350 := L325.lt
 have lt347_350 := L347.lt
 have gd350 := Gr.drew w348
 replace hB := hB.trans gd350
 replace L12 := L12.gr gd350
 replace L347 := L347.gr gd350
 refine wp_region_flo (fun w' => Lc w' b12 #[x198, y198] 29 ∧ Lc w' b347 #[t9_16, t9_17, t9_18, t9_19] 31) [(true, 0), (true, 1), (false, 2), (false, 3), (true, 4), (true, 5), (true, 6), (true, 7)] [⟨8, 14, 29, #[(.bool false), (.slice none 0 0)]⟩, ⟨9, 15, 29, #[(.bool false), (.slice none 0 0)]⟩] [(false, 10), (false, 11), (true, 12)] (by kernel_rfl) (by kernel_rfl) (by kernel_rfl) (by kernel_rfl) (by kernel_rfl) (by decide) (fun _ _ _ _ _ h => h) (fun _ _ _ _ _ h => h) (fun w' o h => ⟨Lc.gr h.1 (Gr.alloc w' o), Lc.gr h.2 (Gr.alloc w' o)⟩) ⟨L12, L347⟩ (by intro f hf; simp only [List.mem_cons, List.not_mem_nil, or_false] at hf; rcases hf with rfl | rfl <;> first | exact alloc_zero (z := (.agg #[(.bool false), (.slice none 0 0)])) (by kernel_rfl) rfl | exact alloc_zero (z := (.agg #[(.bool false), (.slice none 0 0)])) (by kernel_rfl) rfl) ?_
 refine fw 56 (.agg #[x198, y198]) rfl (fun w' hS => (rl 29 0 [x198, y198] hS.1)) ?_
 simp only [p3, p4]
 refine fw 57 (.agg #[t9_16, t9_17, t9_18, t9_19]) rfl (fun w' hS => (rl 31 0 [t9_16, t9_17, t9_18, t9_19] hS.2)) ?_
 simp only [p3, p4]
 refine flo_eff rfl rfl (fun w351 g351 _ K351 k351 => ?_)
 replace hB := hB.trans g351
 have kq353 := g152.kp.trans (g154.kp.trans (g155.kp.trans (g157.kp.trans (g158.kp.trans (g160.kp.trans (kp164.trans (kp166.trans (g167.kp.trans (kp170.trans (g175.kp.trans (kp176.trans (gd178.kp.trans (g179.kp.trans (g180.kp.trans (g182.kp.trans (g183.kp.trans (g185.kp.trans (g186.kp.trans (g188.kp.trans (g189.kp.trans (g191.kp.trans (kp195.trans (kp197.trans (g198.kp.trans (kp201.trans (g205.kp.trans (g212.kp.trans (kp213.trans (gd215.kp.trans (g216.kp.trans (g217.kp.trans (g219.kp.trans (g220.kp.trans (g222.kp.trans (kp226.trans (kp228.trans (gd230.kp.trans (g232.kp.trans (g235.kp.trans (g238.kp.trans (kp240.trans (g245.kp.trans (kp246.trans (gd248.kp.trans (g249.kp.trans (g250.kp.trans (g252.kp.trans (g253.kp.trans (g255.kp.trans (kp259.trans (kp261.trans (gd263.kp.trans (g265.kp.trans (g268.kp.trans (g271.kp.trans (kp274.trans (g279.kp.trans (kp280.trans (gd282.kp.trans (g283.kp.trans (g284.kp.trans (g286.kp.trans (g287.kp.trans (g289.kp.trans (kp293.trans (kp295.trans (gd297.kp.trans (g299.kp.trans (g302.kp.trans (g305.kp.trans (kp308.trans (g313.kp.trans (kp314.trans (gd316.kp.trans (g317.kp.trans (g318.kp.trans (g320.kp.trans (g321.kp.trans (g323.kp.trans (kp327.trans (kp329.trans (gd331.kp.trans (g333.kp.trans (g336.kp.trans (g339.kp.trans (kp342.trans (g347.kp.trans (kp348.trans (gd350.kp.trans g351.kp)))))))))))))))))))))))))))))))))))))))))))))))))))))))))))))))))))))))))))))))))))))))))
 replace h9e := h9e.kp kq353
 refine ec 58 (den_i h9e) ?_
 rintro e352 w352 ⟨⟨x352, y352, rfl, h352⟩, g352⟩
 refine ⟨_, rfl, ?_⟩
 replace hB := hB.trans g352
 replace L12 := L12.gr (g351.trans g352)
 replace L347 := L347.gr (g351.trans g352)
 refine k351 _ _ g352 ⟨L12, L347⟩ ?_
 try clear k351 K351
 simp only [p3, p4]
 refine flo_eff rfl rfl (fun w354 g354 _ K354 k354 => ?_)
 replace hB := hB.trans g354
 have kq356 := g321.kp.trans (g323.kp.trans (kp327.trans (kp329.trans (gd331.kp.trans (g333.kp.trans (g336.kp.trans (g339.kp.trans (kp342.trans (g347.kp.trans (kp348.trans (gd350.kp.trans (g351.kp.trans (g352.kp.trans g354.kp)))))))))))))
 replace h198 := h198.kp kq356
 replace h352 := h352.kp g354.kp
 refine ec 59 (divmod_i h198 h352 (tz_den_pos _) (by omega)) ?_
 rintro e355 w355 ⟨⟨x355, y355, xr355, yr355, rfl, h355, hr355⟩, g355⟩
 refine ⟨_, rfl, ?_⟩
 replace hB := hB.trans g355
 replace L12 := L12.gr (g354.trans g355)
 replace L347 := L347.gr (g354.trans g355)
 refine k354 _ _ g355 ⟨L12, L347⟩ ?_
 try clear k354 K354
 simp only [p3, p4]
 refine fv 55 (.tuple #[(.agg #[x355, y355]), (.agg #[xr355, yr355]), (.int .i64 0)]) ?_
 simp only [p3, p4]
 refine fv 60 (.agg #[x355, y355]) ?_
 simp only [p3, p4]
 refine fv 61 (.agg #[xr355, yr355]) ?_
 simp only [p3, p4]
 refine fv 62 (.int .i64 0) ?_
 simp only [p3, p4]
 refine flo_nil (fun w357 g357 _ => ?_)
 replace hB := hB.trans g357
 refine floFin2 (fun b358 b359 (L358 : Lc w357 b358 #[(.bool false), (.slice none 0 0)] 29) q358 (L359 : Lc w357 b359 #[(.bool false), (.slice none 0 0)] 29) q359 ne358_359 => ?_)
 have ne2_358 : b2 ≠ b358 := Nat.ne_of_lt (Nat.lt_of_lt_of_le lt2_350 q358)
 have ne3_358 : b3 ≠ b358 := Nat.ne_of_lt (Nat.lt_of_lt_of_le lt3_350 q358)
 have ne9_358 : b9 ≠ b358 := Nat.ne_of_lt (Nat.lt_of_lt_of_le lt9_350 q358)
 have ne12_358 : b12 ≠ b358 := Nat.ne_of_lt (Nat.lt_of_lt_of_le lt12_350 q358)
 have ne205_358 : b205 ≠ b358 := Nat.ne_of_lt (Nat.lt_of_lt_of_le lt205_350 q358)
 have ne324_358 : b324 ≠ b358 := Nat.ne_of_lt (Nat.lt_of_lt_of_le lt324_350 q358)
 have ne325_358 : b325 ≠ b358 := Nat.ne_of_lt (Nat.lt_of_lt_of_le lt325_350 q358)
 have ne347_358 : b347 ≠ b358 := Nat.ne_of_lt (Nat.lt_of_lt_of_le lt347_350 q358)
 replace q358 := Nat.le_trans hz350 q358
 have ne2_359 : b2 ≠ b359 := Nat.ne_of_lt (Nat.lt_of_lt_of_le lt2_350 q359)
 have ne3_359 : b3 ≠ b359 := Nat.ne_of_lt (Nat.lt_of_lt_of_le lt3_350 q359)
 have ne9_359 : b9 ≠ b359 := Nat.ne_of_lt (Nat.lt_of_lt_of_le lt9_350 q359)
 have ne12_359 : b12 ≠ b359 := Nat.ne_of_lt (Nat.lt_of_lt_of_le lt12_350 q359)
 have ne205_359 : b205 ≠ b359 := Nat.ne_of_lt (Nat.lt_of_lt_of_le lt205_350 q359)
 have ne324_359 : b324 ≠ b359 := Nat.ne_of_lt (Nat.lt_of_lt_of_le lt324_350 q359)
 have ne325_359 : b325 ≠ b359 := Nat.ne_of_lt (Nat.lt_of_lt_of_le lt325_350 q359)
 have ne347_359 : b347 ≠ b359 := Nat.ne_of_lt (Nat.lt_of_lt_of_le lt347_350 q359)
 replace q359 := Nat.le_trans hz350 q359
 simp only [putl, p3, p4]
 refine oe ?_
 refine es 29 0 (.agg #[x355, y355]) [x355, y355] #[x355, y355] L358 hB q358 ⟨h355.one0, h355.one1, trivial⟩ fun w361 st361 kp361 L358 hB => ?_
 replace L12 := st361.lc (L12.gr g357) ne12_358
 replace L347 := st361.lc (L347.gr g357) ne347_358
 refine ⟨⟨L12, L347⟩, ?_⟩
 refine oe ?_
 replace L359 := st361.lc L359 (Ne.symm ne358_359)
 refine es 29 0 (.agg #[xr355, yr355]) [xr355, yr355] #[xr355, yr355] L359 hB q359 ⟨hr355.one0, hr355.one1, trivial⟩ fun w363 st363 kp363 L359 hB => ?_
 replace L12 := st363.lc L12 ne12_359
 replace L347 := st363.lc L347 ne347_359
 refine ⟨⟨L12, L347⟩, ?_⟩
 refine ov 16 (.int .i64 0) ?_
 simp only [p3, p4]
 refine ord_nil ?_
 refine k349 _ _ ?_
 try clear k349 K349
 have gd365 := Gr.drew w363
 replace hB := hB.trans gd365
 replace L347 := L347.gr gd365
 replace L358 := (st363.lc L358 ne358_359).gr gd365
 replace L205 := (st363.lc (st361.lc (L205.gr (gd350.trans (g351.trans (g352.trans (g354.trans (g355.trans g357)))))) ne205_358) ne205_359).gr gd365
 refine wp_region_ort (fun w' => Lc w' b347 #[t9_16, t9_17, t9_18, t9_19] 31 ∧ Lc w' b358 #[x355, y355] 29) [([6], (fun w' => Lc w' b205 #[x339, y339] 29))] [(true, 0), (true, 1), (true, 3), (false, 2), (false, 4), (false, 5), (false, 6)] (by kernel_rfl) (by kernel_rfl) (by kernel_rfl) (by decide) (fun _ _ _ _ _ h => h) ⟨L347, L358⟩ ⟨fun _ => L205, trivial⟩ ?_
 refine tw 63 (.agg #[x339, y339]) rfl (fun w' hS => (rl 29 0 [x339, y339] (hS.2.1 (by kernel_rfl)))) ?_
 simp only [p3, p4]
 refine tw 64 (.agg #[t9_16, t9_17, t9_18, t9_19]) rfl (fun w' hS => (rl 31 0 [t9_16, t9_17, t9_18, t9_19] hS.1.1)) ?_
 simp only [p3, p4]
 refine tw 66 (.agg #[x355, y355]) rfl (fun w' hS => (rl 29 0 [x355, y355] hS.1.2)) ?_
 simp only [p3, p4]
 refine te ?_
 have kq368 := g352.kp.trans (g354.kp.trans (g355.kp.trans (g357.kp.trans (kp361.trans (kp363.trans gd365.kp)))))
 replace h9e := h9e.kp kq368
 refine ec 65 (num_r h9e) ?_
 rintro e367 w367 ⟨⟨x367, y367, rfl, h367⟩, g367⟩
 refine ⟨_, rfl, ?_⟩
 replace hB := hB.trans g367
 replace L347 := L347.gr g367
 replace L358 := L358.gr g367
 replace L205 := L205.gr g367
 refine ⟨⟨L347, L358⟩, ⟨fun _ => L205, trivial⟩, ?_⟩
 simp only [p3, p4]
 refine te ?_
 have kq371 := g357.kp.trans (kp361.trans (kp363.trans (gd365.kp.trans g367.kp)))
 replace h355 := h355.kp kq371
 refine ec 67 (mul_i h367 h355 (by omega)) ?_
 rintro e370 w370 ⟨⟨x370, y370, rfl, h370⟩, g370⟩
 refine ⟨_, rfl, ?_⟩
 replace hB := hB.trans g370
 replace h370 := (show IsInt _ _ _ _ (tz (tden a1 a2 a3 d1 d2 d3) d2) from h370)
 replace L347 := L347.gr g370
 replace L358 := L358.gr g370
 replace L205 := L205.gr g370
 refine ⟨⟨L347, L358⟩, ⟨fun _ => L205, trivial⟩, ?_⟩
 simp only [p3, p4]
 refine te ?_
 have kq374 := kp342.trans (g347.kp.trans (kp348.trans (gd350.kp.trans (g351.kp.trans (g352.kp.trans (g354.kp.trans (g355.kp.trans (g357.kp.trans (kp361.trans (kp363.trans (gd365.kp.trans (g367.kp.trans g370.kp))))))))))))
 replace h339 := h339.kp kq374
 refine ec 68 (gcd_i h339 h370 (by omega)) ?_
 rintro e373 w373 ⟨⟨x373, y373, rfl, h373⟩, g373⟩
 refine ⟨_, rfl, ?_⟩
 replace hB := hB.trans g373
 replace h373 := (show IsInt _ _ _ _ ((Int.gcd ((Int.gcd ((Int.gcd ((Int.gcd ((Int.gcd (0) (tz (tden a1 a2 a3 d1 d2 d3) a1) : Int)) (tz (tden a1 a2 a3 d1 d2 d3) a2) : Int)) (tz (tden a1 a2 a3 d1 d2 d3) a3) : Int)) (tz (tden a1 a2 a3 d1 d2 d3) d1) : Int)) (tz (tden a1 a2 a3 d1 d2 d3) d2) : Int)) from h373)
 replace L347 := L347.gr g373
 replace L358 := L358.gr g373
 replace L205 := L205.gr g373
 refine ⟨⟨L347, L358⟩, ⟨fun _ => L205, trivial⟩, ?_⟩
 simp only [p3, p4]
 refine te ?_
 refine es 29 0 (.agg #[x373, y373]) [x373, y373] #[x373, y373] L205 hB q205 ⟨h373.one0, h373.one1, trivial⟩ fun w376 st376 kp376 L205 hB => ?_
 replace L347 := st376.lc L347 (Ne.symm ne205_347)
 replace L358 := st376.lc L358 (Ne.symm ne205_358)
 refine ⟨⟨L347, L358⟩, ⟨cameT (by kernel_rfl), trivial⟩, ?_⟩
 refine ort_nil ?_
 refine k345 _ _ ?_
 try clear k345 K345
 refine rg [0, 1] ?_
 refine sv 69 (.int .i64 5) ?_
 simp only [p3, p4]
 refine sv 51 (.int .i64 5) ?_
 simp only [p3, p4]
 refine sq_nil ?_
 show Code.rounds _ _ _ _ _ _
 show Code.wp _ _ _ _ _
 refine wp_seq_k (fun K377 k377 => ?_)
 refine rg [0] ?_
 refine sv 52 (.bool true) ?_
 simp only [p3, p4]
 refine sq_nil ?_
 refine k377 _ _ ?_
 try clear k377 K377
 refine wp_seq_k (fun K378 k378 => ?_)
 refine wp_cond_true rfl ?_
 refine wp_skip ?_
 refine k378 _ _ ?_
 try clear k378 K378
 refine wp_seq_k (fun K379 k379 => ?_)
 refine wp_block ?_
 refine wp_seq_k (fun K380 k380 => ?_)
 refine rg [0, 1, 2, 3] ?_
 refine sv 53 (.pointer (some ⟨b9, 20, none⟩)) ?_
 simp only [p3, p4]
 replace L9 := st376.lc ((st363.lc (st361.lc (L9.gr (gd350.trans (g351.trans (g352.trans (g354.trans (g355.trans g357)))))) ne9_358) ne9_359).gr (gd365.trans (g367.trans (g370.trans g373)))) ne9_205
 refine sw 54 (.agg #[t9_20, t9_21, t9_22, t9_23]) rfl (rl 31 20 [t9_20, t9_21, t9_22, t9_23] L9) ?_
 simp only [p3, p4]
 refine se ?_
 refine ea 31 #[(.bool false), (.slice none 0 0), (.bool false), (.slice none 0 0)] 13 hB fun b381 w381 g381 L381 o381 q381 hB => ?_
 replace L2 := st376.lc ((st363.lc (st361.lc (L2.gr (gd350.trans (g351.trans (g352.trans (g354.trans (g355.trans g357)))))) ne2_358) ne2_359).gr (gd365.trans (g367.trans (g370.trans g373)))) ne2_205
 have ne2_381 := L2.ne o381
 replace L3 := st376.lc ((st363.lc (st361.lc (L3.gr (gd350.trans (g351.trans (g352.trans (g354.trans (g355.trans g357)))))) ne3_358) ne3_359).gr (gd365.trans (g367.trans (g370.trans g373)))) ne3_205
 have ne3_381 := L3.ne o381
 have ne9_381 := L9.ne o381
 replace L12 := st376.lc (L12.gr (gd365.trans (g367.trans (g370.trans g373)))) ne12_205
 have ne12_381 := L12.ne o381
 have ne205_381 := L205.ne o381
 have ne358_381 := L358.ne o381
 replace L359 := st376.lc (L359.gr (gd365.trans (g367.trans (g370.trans g373)))) (Ne.symm ne205_359)
 have ne359_381 := L359.ne o381
 simp only [p3, p4]
 refine se ?_
 refine es 31 0 (.agg #[t9_20, t9_21, t9_22, t9_23]) [t9_20, t9_21, t9_22, t9_23] #[t9_20, t9_21, t9_22, t9_23] L381 hB q381 ⟨h9f.one0, h9f.one1, h9f.one2, h9f.one3, trivial⟩ fun w382 st382 kp382 L381 hB => ?_
 refine sq_nil ?_
 refine k380 _ _ ?_
 try clear k380 K380
 refine wp_seq_k (fun K383 k383 => ?_)
 have hz384 := Below.size hB
 replace L2 := st382.lc (L2.gr g381) ne2_381
 have lt2_384 := L2.lt
 replace L3 := st382.lc (L3.gr g381) ne3_381
 have lt3_384 := L3.lt
 replace L9 := st382.lc (L9.gr g381) ne9_381
 have lt9_384 := L9.lt
 replace L12 := st382.lc (L12.gr g381) ne12_381
 have lt12_384 := L12.lt
 replace L205 := st382.lc (L205.gr g381) ne205_381
 have lt205_384 := L205.lt
 replace L358 := st382.lc (L358.gr g381) ne358_381
 have lt358_384 := L358.lt
 replace L359 := st382.lc (L359.gr g381) ne359_381
 have lt359_384 := L359.lt
 have lt381_384 := L381.lt
 have gd384 := Gr.drew w382
 replace hB := hB.trans gd384
 replace L12 := L12.gr gd384
 replace L381 := L381.gr gd384
 refine wp_region_flo (fun w' => Lc w' b12 #[x198, y198] 29 ∧ Lc w' b381 #[t9_20, t9_21, t9_22, t9_23] 31) [(true, 0), (true, 1), (false, 2), (false, 3), (true, 4), (true, 5), (true, 6), (true, 7)] [⟨8, 14, 29, #[(.bool false), (.slice none 0 0)]⟩, ⟨9, 15, 29, #[(.bool false), (.slice none 0 0)]⟩] [(false, 10), (false, 11), (true, 12)] (by kernel_rfl) (by kernel_rfl) (by kernel_rfl) (by kernel_rfl) (by kernel_rfl) (by decide) (fun _ _ _ _ _ h => h) (fun _ _ _ _ _ h => h) (fun w' o h => ⟨Lc.gr h.1 (Gr.alloc w' o), Lc.gr h.2 (Gr.alloc w' o)⟩) ⟨L12, L381⟩ (by intro f hf; simp only [List.mem_cons, List.not_mem_nil, or_false] at hf; rcases hf with rfl | rfl <;> first | exact alloc_zero (z := (.agg #[(.bool false), (.slice none 0 0)])) (by kernel_rfl) rfl | exact alloc_zero (z := (.agg #[(.bool false), (.slice none 0 0)])) (by kernel_rfl) rfl) ?_
 refine fw 56 (.agg #[x198, y198]) rfl (fun w' hS => (rl 29 0 [x198, y198] hS.1)) ?_
 simp only [p3, p4]
 refine fw 57 (.agg #[t9_20, t9_21, t9_22, t9_23]) rfl (fun w' hS => (rl 31 0 [t9_20, t9_21, t9_22, t9_23] hS.2)) ?_
 simp only [p3, p4]
 refine flo_eff rfl rfl (fun w385 g385 _ K385 k385 => ?_)
 replace hB := hB.trans g385
 have kq387 := g183.kp.trans (g185.kp.trans (g186.kp.trans (g188.kp.trans (g189.kp.trans (g191.kp.trans (kp195.trans (kp197.trans (g198.kp.trans (kp201.trans (g205.kp.trans (g212.kp.trans (kp213.trans (gd215.kp.trans (g216.kp.trans (g217.kp.trans (g219.kp.trans (g220.kp.trans (g222.kp.trans (kp226.trans (kp228.trans (gd230.kp.trans (g232.kp.trans (g235.kp.trans (g238.kp.trans (kp240.trans (g245.kp.trans (kp246.trans (gd248.kp.trans (g249.kp.trans (g250.kp.trans (g252.kp.trans (g253.kp.trans (g255.kp.trans (kp259.trans (kp261.trans (gd263.kp.trans (g265.kp.trans (g268.kp.trans (g271.kp.trans (kp274.trans (g279.kp.trans (kp280.trans (gd282.kp.trans (g283.kp.trans (g284.kp.trans (g286.kp.trans (g287.kp.trans (g289.kp.trans (kp293.trans (kp295.trans (gd297.kp.trans (g299.kp.trans (g302.kp.trans (g305.kp.trans (kp308.trans (g313.kp.trans (kp314.trans (gd316.kp.trans (g317.kp.trans (g318.kp.trans (g320.kp.trans (g321.kp.trans (g323.kp.trans (kp327.trans (kp329.trans (gd331.kp.trans (g333.kp.trans (g336.kp.trans (g339.kp.trans (kp342.trans (g347.kp.trans (kp348.trans (gd350.kp.trans (g351.kp.trans (g352.kp.trans (g354.kp.trans (g355.kp.trans (g357.kp.trans (kp361.trans (kp363.trans (gd365.kp.trans (g367.kp.trans (g370.kp.trans (g373.kp.trans (kp376.trans (g381.kp.trans (kp382.trans (gd384.kp.trans g385.kp))))))))))))))))))))))))))))))))))))))))))))))))))))))))))))))))))))))))))))))))))))))))
 replace h9f := h9f.kp kq387
 refine ec 58 (den_i h9f) ?_
 rintro e386 w386 ⟨⟨x386, y386, rfl, h386⟩, g386⟩
 refine ⟨_, rfl, ?_⟩
 replace hB := hB.trans g386
 replace L12 := L12.gr (g385.trans g386)
 replace L381 := L381.gr (g385.trans g386)
 refine k385 _ _ g386 ⟨L12, L381⟩ ?_
 try clear k385 K385
 simp only [p3, p4]
 refine flo_eff rfl rfl (fun w388 g388 _ K388 k388 => ?_)
 replace hB := hB.trans g388
 have kq390 := g355.kp.trans (g357.kp.trans (kp361.trans (kp363.trans (gd365.kp.trans (g367.kp.trans (g370.kp.trans (g373.kp.trans (kp376.trans (g381.kp.trans (kp382.trans (gd384.kp.trans (g385.kp.trans (g386.kp.trans g388.kp)))))))))))))
 replace h198 := h198.kp kq390
 replace h386 := h386.kp g388.kp
 refine ec 59 (divmod_i h198 h386 (tz_den_pos _) (by omega)) ?_
 rintro e389 w389 ⟨⟨x389, y389, xr389, yr389, rfl, h389, hr389⟩, g389⟩
 refine ⟨_, rfl, ?_⟩
 replace hB := hB.trans g389
 replace L12 := L12.gr (g388.trans g389)
 replace L381 := L381.gr (g388.trans g389)
 refine k388 _ _ g389 ⟨L12, L381⟩ ?_
 try clear k388 K388
 simp only [p3, p4]
 refine fv 55 (.tuple #[(.agg #[x389, y389]), (.agg #[xr389, yr389]), (.int .i64 0)]) ?_
 simp only [p3, p4]
 refine fv 60 (.agg #[x389, y389]) ?_
 simp only [p3, p4]
 refine fv 61 (.agg #[xr389, yr389]) ?_
 simp only [p3, p4]
 refine fv 62 (.int .i64 0) ?_
 simp only [p3, p4]
 refine flo_nil (fun w391 g391 _ => ?_)
 replace hB := hB.trans g391
 refine floFin2 (fun b392 b393 (L392 : Lc w391 b392 #[(.bool false), (.slice none 0 0)] 29) q392 (L393 : Lc w391 b393 #[(.bool false), (.slice none 0 0)] 29) q393 ne392_393 => ?_)
 have ne2_392 : b2 ≠ b392 := Nat.ne_of_lt (Nat.lt_of_lt_of_le lt2_384 q392)
 have ne3_392 : b3 ≠ b392 := Nat.ne_of_lt (Nat.lt_of_lt_of_le lt3_384 q392)
 have ne9_392 : b9 ≠ b392 := Nat.ne_of_lt (Nat.lt_of_lt_of_le lt9_384 q392)
 have ne12_392 : b12 ≠ b392 := Nat.ne_of_lt (Nat.lt_of_lt_of_le lt12_384 q392)
 have ne205_392 : b205 ≠ b392 := Nat.ne_of_lt (Nat.lt_of_lt_of_le lt205_384 q392)
 have ne358_392 : b358 ≠ b392 := Nat.ne_of_lt (Nat.lt_of_lt_of_le lt358_384 q392)
 have ne359_392 : b359 ≠ b392 := Nat.ne_of_lt (Nat.lt_of_lt_of_le lt359_384 q392)
 have ne381_392 : b381 ≠ b392 := Nat.ne_of_lt (Nat.lt_of_lt_of_le lt381_384 q392)
 replace q392 := Nat.le_trans hz384 q392
 have ne2_393 : b2 ≠ b393 := Nat.ne_of_lt (Nat.lt_of_lt_of_le lt2_384 q393)
 have ne3_393 : b3 ≠ b393 := Nat.ne_of_lt (Nat.lt_of_lt_of_le lt3_384 q393)
 have ne9_393 : b9 ≠ b393 := Nat.ne_of_lt (Nat.lt_of_lt_of_le lt9_384 q393)
 have ne12_393 : b12 ≠ b393 := Nat.ne_of_lt (Nat.lt_of_lt_of_le lt12_384 q393)
 have ne205_393 : b205 ≠ b393 := Nat.ne_of_lt (Nat.lt_of_lt_of_le lt205_384 q393)
 have ne358_393 : b358 ≠ b393 := Nat.ne_of_lt (Nat.lt_of_lt_of_le lt358_384 q393)
 have ne359_393 : b359 ≠ b393 := Nat.ne_of_lt (Nat.lt_of_lt_of_le lt359_384 q393)
 have ne381_393 : b381 ≠ b393 := Nat.ne_of_lt (Nat.lt_of_lt_of_le lt381_384 q393)
 replace q393 := Nat.le_trans hz384 q393
 simp only [putl, p3, p4]
 refine oe ?_
 refine es 29 0 (.agg #[x389, y389]) [x389, y389] #[x389, y389] L392 hB q392 ⟨h389.one0, h389.one1, trivial⟩ fun w395 st395 kp395 L392 hB => ?_
 replace L12 := st395.lc (L12.gr g391) ne12_392
 replace L381 := st395.lc (L381.gr g391) ne381_392
 refine ⟨⟨L12, L381⟩, ?_⟩
 refine oe ?_
 replace L393 := st395.lc L393 (Ne.symm ne392_393)
 refine es 29 0 (.agg #[xr389, yr389]) [xr389, yr389] #[xr389, yr389] L393 hB q393 ⟨hr389.one0, hr389.one1, trivial⟩ fun w397 st397 kp397 L393 hB => ?_
 replace L12 := st397.lc L12 ne12_393
 replace L381 := st397.lc L381 ne381_393
 refine ⟨⟨L12, L381⟩, ?_⟩
 refine ov 16 (.int .i64 0) ?_
 simp only [p3, p4]
 refine ord_nil ?_
 refine k383 _ _ ?_
 try clear k383 K383
 have gd399 := Gr.drew w397
 replace hB := hB.trans gd399
 replace L381 := L381.gr gd399
 replace L392 := (st397.lc L392 ne392_393).gr gd399
 replace L205 := (st397.lc (st395.lc (L205.gr (gd384.trans (g385.trans (g386.trans (g388.trans (g389.trans g391)))))) ne205_392) ne205_393).gr gd399
 refine wp_region_ort (fun w' => Lc w' b381 #[t9_20, t9_21, t9_22, t9_23] 31 ∧ Lc w' b392 #[x389, y389] 29) [([6], (fun w' => Lc w' b205 #[x373, y373] 29))] [(true, 0), (true, 1), (true, 3), (false, 2), (false, 4), (false, 5), (false, 6)] (by kernel_rfl) (by kernel_rfl) (by kernel_rfl) (by decide) (fun _ _ _ _ _ h => h) ⟨L381, L392⟩ ⟨fun _ => L205, trivial⟩ ?_
 refine tw 63 (.agg #[x373, y373]) rfl (fun w' hS => (rl 29 0 [x373, y373] (hS.2.1 (by kernel_rfl)))) ?_
 simp only [p3, p4]
 refine tw 64 (.agg #[t9_20, t9_21, t9_22, t9_23]) rfl (fun w' hS => (rl 31 0 [t9_20, t9_21, t9_22, t9_23] hS.1.1)) ?_
 simp only [p3, p4]
 refine tw 66 (.agg #[x389, y389]) rfl (fun w' hS => (rl 29 0 [x389, y389] hS.1.2)) ?_
 simp only [p3, p4]
 refine te ?_
 have kq402 := g386.kp.trans (g388.kp.trans (g389.kp.trans (g391.kp.trans (kp395.trans (kp397.trans gd399.kp)))))
 replace h9f := h9f.kp kq402
 refine ec 65 (num_r h9f) ?_
 rintro e401 w401 ⟨⟨x401, y401, rfl, h401⟩, g401⟩
 refine ⟨_, rfl, ?_⟩
 replace hB := hB.trans g401
 replace L381 := L381.gr g401
 replace L392 := L392.gr g401
 replace L205 := L205.gr g401
 refine ⟨⟨L381, L392⟩, ⟨fun _ => L205, trivial⟩, ?_⟩
 simp only [p3, p4]
 refine te ?_
 have kq405 := g391.kp.trans (kp395.trans (kp397.trans (gd399.kp.trans g401.kp)))
 replace h389 := h389.kp kq405
 refine ec 67 (mul_i h401 h389 (by omega)) ?_
 rintro e404 w404 ⟨⟨x404, y404, rfl, h404⟩, g404⟩
 refine ⟨_, rfl, ?_⟩
 replace hB := hB.trans g404
 replace h404 := (show IsInt _ _ _ _ (tz (tden a1 a2 a3 d1 d2 d3) d3) from h404)
 replace L381 := L381.gr g404
 replace L392 := L392.gr g404
 replace L205 := L205.gr g404
 refine ⟨⟨L381, L392⟩, ⟨fun _ => L205, trivial⟩, ?_⟩
 simp only [p3, p4]
 refine te ?_
 have kq408 := kp376.trans (g381.kp.trans (kp382.trans (gd384.kp.trans (g385.kp.trans (g386.kp.trans (g388.kp.trans (g389.kp.trans (g391.kp.trans (kp395.trans (kp397.trans (gd399.kp.trans (g401.kp.trans g404.kp))))))))))))
 replace h373 := h373.kp kq408
 refine ec 68 (gcd_i h373 h404 (by omega)) ?_
 rintro e407 w407 ⟨⟨x407, y407, rfl, h407⟩, g407⟩
 refine ⟨_, rfl, ?_⟩
 replace hB := hB.trans g407
 replace h407 := (show IsInt _ _ _ _ (tgcd a1 a2 a3 d1 d2 d3) from h407)
 replace L381 := L381.gr g407
 replace L392 := L392.gr g407
 replace L205 := L205.gr g407
 refine ⟨⟨L381, L392⟩, ⟨fun _ => L205, trivial⟩, ?_⟩
 simp only [p3, p4]
 refine te ?_
 refine es 29 0 (.agg #[x407, y407]) [x407, y407] #[x407, y407] L205 hB q205 ⟨h407.one0, h407.one1, trivial⟩ fun w410 st410 kp410 L205 hB => ?_
 replace L381 := st410.lc L381 (Ne.symm ne205_381)
 replace L392 := st410.lc L392 (Ne.symm ne205_392)
 refine ⟨⟨L381, L392⟩, ⟨cameT (by kernel_rfl), trivial⟩, ?_⟩
 refine ort_nil ?_
 refine k379 _ _ ?_
 try clear k379 K379
 refine rg [0, 1] ?_
 refine sv 69 (.int .i64 6) ?_
 simp only [p3, p4]
 refine sv 51 (.int .i64 6) ?_
 simp only [p3, p4]
 refine sq_nil ?_
 show Code.rounds _ _ _ _ _ _
 show Code.wp _ _ _ _ _
 refine wp_seq_k (fun K411 k411 => ?_)
 refine rg [0] ?_
 refine sv 52 (.bool false) ?_
 simp only [p3, p4]
 refine sq_nil ?_
 refine k411 _ _ ?_
 try clear k411 K411
 refine wp_seq_k (fun K412 k412 => ?_)
 refine wp_cond_false rfl ?_
 refine wp_exit ?_
 simp only [Exit.then, Exit.inBlock, ↓reduceIte]
 refine k206 _ _ ?_
 try clear k206 K206
 refine wp_seq_k (fun K413 k413 => ?_)
 refine rg [0, 1, 2, 3, 4, 5, 6, 7, 8] ?_
 replace L12 := st410.lc (L12.gr (gd399.trans (g401.trans (g404.trans g407)))) ne12_205
 refine sw 71 (.agg #[x198, y198]) rfl (rl 29 0 [x198, y198] L12) ?_
 simp only [p3, p4]
 refine sw 72 (.agg #[x407, y407]) rfl (rl 29 0 [x407, y407] L205) ?_
 simp only [p3, p4]
 refine se ?_
 have kq415 := g389.kp.trans (g391.kp.trans (kp395.trans (kp397.trans (gd399.kp.trans (g401.kp.trans (g404.kp.trans (g407.kp.trans kp410)))))))
 replace h198 := h198.kp kq415
 replace h407 := h407.kp kp410
 refine ec 73 (make_r ((64 + k + k + k + k + k + k) + (64 + (k + (64 + k + k + k + k + k + k)) + (k + (64 + k + k + k + k + k + k)) + (k + (64 + k + k + k + k + k + k)) + (k + (64 + k + k + k + k + k + k)) + (k + (64 + k + k + k + k + k + k)) + (k + (64 + k + k + k + k + k + k)))) h198 h407 hpos (by omega) (by omega) (by omega) (by omega)) ?_
 rintro e414 w414 ⟨⟨p414, q414, r414, s414, rfl, h414⟩, g414⟩
 refine ⟨_, rfl, ?_⟩
 replace hB := hB.trans g414
 simp only [p3, p4]
 refine sv 70 (.tuple #[(.agg #[p414, q414, r414, s414]), (.int .i64 0)]) ?_
 simp only [p3, p4]
 refine sv 74 (.agg #[p414, q414, r414, s414]) ?_
 simp only [p3, p4]
 refine sv 75 (.int .i64 0) ?_
 simp only [p3, p4]
 refine se ?_
 refine ea 31 #[(.bool false), (.slice none 0 0), (.bool false), (.slice none 0 0)] 17 hB fun b416 w416 g416 L416 o416 q416 hB => ?_
 replace L2 := (st410.lc ((st397.lc (st395.lc (L2.gr (gd384.trans (g385.trans (g386.trans (g388.trans (g389.trans g391)))))) ne2_392) ne2_393).gr (gd399.trans (g401.trans (g404.trans g407)))) ne2_205).gr g414
 have ne2_416 := L2.ne o416
 replace L3 := (st410.lc ((st397.lc (st395.lc (L3.gr (gd384.trans (g385.trans (g386.trans (g388.trans (g389.trans g391)))))) ne3_392) ne3_393).gr (gd399.trans (g401.trans (g404.trans g407)))) ne3_205).gr g414
 have ne3_416 := L3.ne o416
 simp only [p3, p4]
 refine se ?_
 refine es 31 0 (.agg #[p414, q414, r414, s414]) [p414, q414, r414, s414] #[p414, q414, r414, s414] L416 hB q416 ⟨h414.one0, h414.one1, h414.one2, h414.one3, trivial⟩ fun w417 st417 kp417 L416 hB => ?_
 refine sv 18 (.int .i64 0) ?_
 simp only [p3, p4]
 refine sq_nil ?_
 refine k413 _ _ ?_
 try clear k413 K413
 refine wp_seq_k (fun K418 k418 => ?_)
 refine rg [0, 1, 2, 3, 4, 5] ?_
 replace L2 := st417.lc (L2.gr g416) ne2_416
 refine sw 76 (.agg #[uaa0, uaa1, uaa2, uaa3, uab0, uab1, uab2, uab3, uac0, uac1, uac2, uac3, uba0, uba1, uba2, uba3, ubb0, ubb1, ubb2, ubb3, ubc0, ubc1, ubc2, ubc3]) rfl (rl 35 0 [uaa0, uaa1, uaa2, uaa3, uab0, uab1, uab2, uab3, uac0, uac1, uac2, uac3, uba0, uba1, uba2, uba3, ubb0, ubb1, ubb2, ubb3, ubc0, ubc1, ubc2, ubc3] L2) ?_
 simp only [p3, p4]
 refine sw 77 (.agg #[p414, q414, r414, s414]) rfl (rl 31 0 [p414, q414, r414, s414] L416) ?_
 simp only [p3, p4]
 refine se ?_
 have kq420 := g9.kp.trans (g11.kp.trans (g12.kp.trans (kp13.trans (g20.kp.trans (kp21.trans (gd23.kp.trans (g24.kp.trans (g25.kp.trans (g27.kp.trans (g28.kp.trans (g30.kp.trans (g31.kp.trans (g33.kp.trans (g34.kp.trans (g36.kp.trans (kp40.trans (kp42.trans (g43.kp.trans (kp46.trans (g51.kp.trans (kp52.trans (gd54.kp.trans (g55.kp.trans (g56.kp.trans (g58.kp.trans (g59.kp.trans (g61.kp.trans (g62.kp.trans (g64.kp.trans (g65.kp.trans (g67.kp.trans (kp71.trans (kp73.trans (g74.kp.trans (kp77.trans (g82.kp.trans (kp83.trans (gd85.kp.trans (g86.kp.trans (g87.kp.trans (g89.kp.trans (g90.kp.trans (g92.kp.trans (g93.kp.trans (g95.kp.trans (g96.kp.trans (g98.kp.trans (kp102.trans (kp104.trans (g105.kp.trans (kp108.trans (g113.kp.trans (kp114.trans (gd116.kp.trans (g117.kp.trans (g118.kp.trans (g120.kp.trans (g121.kp.trans (g123.kp.trans (g124.kp.trans (g126.kp.trans (g127.kp.trans (g129.kp.trans (kp133.trans (kp135.trans (g136.kp.trans (kp139.trans (g144.kp.trans (kp145.trans (gd147.kp.trans (g148.kp.trans (g149.kp.trans (g151.kp.trans (g152.kp.trans (g154.kp.trans (g155.kp.trans (g157.kp.trans (g158.kp.trans (g160.kp.trans (kp164.trans (kp166.trans (g167.kp.trans (kp170.trans (g175.kp.trans (kp176.trans (gd178.kp.trans (g179.kp.trans (g180.kp.trans (g182.kp.trans (g183.kp.trans (g185.kp.trans (g186.kp.trans (g188.kp.trans (g189.kp.trans (g191.kp.trans (kp195.trans (kp197.trans (g198.kp.trans (kp201.trans (g205.kp.trans (g212.kp.trans (kp213.trans (gd215.kp.trans (g216.kp.trans (g217.kp.trans (g219.kp.trans (g220.kp.trans (g222.kp.trans (kp226.trans (kp228.trans (gd230.kp.trans (g232.kp.trans (g235.kp.trans (g238.kp.trans (kp240.trans (g245.kp.trans (kp246.trans (gd248.kp.trans (g249.kp.trans (g250.kp.trans (g252.kp.trans (g253.kp.trans (g255.kp.trans (kp259.trans (kp261.trans (gd263.kp.trans (g265.kp.trans (g268.kp.trans (g271.kp.trans (kp274.trans (g279.kp.trans (kp280.trans (gd282.kp.trans (g283.kp.trans (g284.kp.trans (g286.kp.trans (g287.kp.trans (g289.kp.trans (kp293.trans (kp295.trans (gd297.kp.trans (g299.kp.trans (g302.kp.trans (g305.kp.trans (kp308.trans (g313.kp.trans (kp314.trans (gd316.kp.trans (g317.kp.trans (g318.kp.trans (g320.kp.trans (g321.kp.trans (g323.kp.trans (kp327.trans (kp329.trans (gd331.kp.trans (g333.kp.trans (g336.kp.trans (g339.kp.trans (kp342.trans (g347.kp.trans (kp348.trans (gd350.kp.trans (g351.kp.trans (g352.kp.trans (g354.kp.trans (g355.kp.trans (g357.kp.trans (kp361.trans (kp363.trans (gd365.kp.trans (g367.kp.trans (g370.kp.trans (g373.kp.trans (kp376.trans (g381.kp.trans (kp382.trans (gd384.kp.trans (g385.kp.trans (g386.kp.trans (g388.kp.trans (g389.kp.trans (g391.kp.trans (kp395.trans (kp397.trans (gd399.kp.trans (g401.kp.trans (g404.kp.trans (g407.kp.trans (kp410.trans (g414.kp.trans (g416.kp.trans kp417))))))))))))))))))))))))))))))))))))))))))))))))))))))))))))))))))))))))))))))))))))))))))))))))))))))))))))))))))))))))))))))))))))))))))))))))))))))))))))))))))))))))))))))))))))))))))))))))
 replace hua1 := hua1.kp kq420
 replace hua2 := hua2.kp kq420
 replace hua3 := hua3.kp kq420
 replace hub1 := hub1.kp kq420
 replace hub2 := hub2.kp kq420
 replace hub3 := hub3.kp kq420
 have kq421 := g416.kp.trans kp417
 replace h414 := h414.kp kq421
 refine ec 78 (tscale_v hua1 hua2 hua3 hub1 hub2 hub3 h414 (by omega)) ?_
 rintro e419 w419 ⟨⟨t419_0, t419_1, t419_2, t419_3, t419_4, t419_5, t419_6, t419_7, t419_8, t419_9, t419_10, t419_11, t419_12, t419_13, t419_14, t419_15, t419_16, t419_17, t419_18, t419_19, t419_20, t419_21, t419_22, t419_23, rfl, h419a, h419b, h419c, h419d, h419e, h419f⟩, g419⟩
 refine ⟨_, rfl, ?_⟩
 replace hB := hB.trans g419
 simp only [p3, p4]
 refine sv 79 (.int .i64 0) ?_
 simp only [p3, p4]
 refine se ?_
 replace L3 := (st417.lc (L3.gr g416) ne3_416).gr g419
 refine es 35 0 (.agg #[t419_0, t419_1, t419_2, t419_3, t419_4, t419_5, t419_6, t419_7, t419_8, t419_9, t419_10, t419_11, t419_12, t419_13, t419_14, t419_15, t419_16, t419_17, t419_18, t419_19, t419_20, t419_21, t419_22, t419_23]) [t419_0, t419_1, t419_2, t419_3, t419_4, t419_5, t419_6, t419_7, t419_8, t419_9, t419_10, t419_11, t419_12, t419_13, t419_14, t419_15, t419_16, t419_17, t419_18, t419_19, t419_20, t419_21, t419_22, t419_23] #[t419_0, t419_1, t419_2, t419_3, t419_4, t419_5, t419_6, t419_7, t419_8, t419_9, t419_10, t419_11, t419_12, t419_13, t419_14, t419_15, t419_16, t419_17, t419_18, t419_19, t419_20, t419_21, t419_22, t419_23] L3 hB q3 ⟨h419a.one0, h419a.one1, h419a.one2, h419a.one3, h419b.one0, h419b.one1, h419b.one2, h419b.one3, h419c.one0, h419c.one1, h419c.one2, h419c.one3, h419d.one0, h419d.one1, h419d.one2, h419d.one3, h419e.one0, h419e.one1, h419e.one2, h419e.one3, h419f.one0, h419f.one1, h419f.one2, h419f.one3, trivial⟩ fun w422 st422 kp422 L3 hB => ?_
 refine sv 3 (.int .i64 0) ?_
 simp only [p3, p4]
 refine sq_nil ?_
 refine k418 _ _ ?_
 try clear k418 K418
 refine wp_ret ?_
 refine bodyPost_ret (v := (.tuple #[(.agg #[t419_0, t419_1, t419_2, t419_3, t419_4, t419_5, t419_6, t419_7, t419_8, t419_9, t419_10, t419_11, t419_12, t419_13, t419_14, t419_15, t419_16, t419_17, t419_18, t419_19, t419_20, t419_21, t419_22, t419_23]), (.int .i64 0)])) (ret_cell_tmp' _ _ _ rfl rfl L3 (by kernel_rfl) rfl) rfl ⟨?_, hB⟩
 replace h419a := h419a.kp kp422
 replace h419b := h419b.kp kp422
 replace h419c := h419c.kp kp422
 replace h419d := h419d.kp kp422
 replace h419e := h419e.kp kp422
 replace h419f := h419f.kp kp422
 exact ⟨_, _, _, _, _, _, _, _, _, _, _, _, _, _, _, _, _, _, _, _, _, _, _, _, rfl, h419a.mono (by omega), h419b.mono (by omega), h419c.mono (by omega), h419d.mono (by omega), h419e.mono (by omega), h419f.mono (by omega)⟩

end Go.Proofs.YtgopfikljndklaaDoor
