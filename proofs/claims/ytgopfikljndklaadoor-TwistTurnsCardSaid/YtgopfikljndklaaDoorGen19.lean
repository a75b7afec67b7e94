/- Printed by a program of the prover's: TwistTurns. -/
import Derived.Test.YtgopfikljndklaaDoorGen14
import Derived.Test.YtgopfikljndklaaDoorAxw
import Derived.Test.YtgopfikljndklaaDoorArr
namespace Go.Proofs.YtgopfikljndklaaDoor
open Go.RowKit

theorem axis_w {k : Nat} {uaa0 uaa1 uaa2 uaa3 uab0 uab1 uab2 uab3 uac0 uac1 uac2 uac3 : Value} {a1 a2 a3 : Rat} {uba0 uba1 uba2 uba3 ubb0 ubb1 ubb2 ubb3 ubc0 ubc1 ubc2 ubc3 : Value} {d1 d2 d3 : Rat} {w : World} (hua1 : IsRat w k uaa0 uaa1 uaa2 uaa3 a1) (hua2 : IsRat w k uab0 uab1 uab2 uab3 a2) (hua3 : IsRat w k uac0 uac1 uac2 uac3 a3) (hub1 : IsRat w k uba0 uba1 uba2 uba3 d1) (hub2 : IsRat w k ubb0 ubb1 ubb2 ubb3 d2) (hub3 : IsRat w k ubc0 ubc1 ubc2 ubc3 d3) (hk : k ≤ 2000) :
    Calls Tryd.prog 11 #[(.agg #[uaa0, uaa1, uaa2, uaa3, uab0, uab1, uab2, uab3, uac0, uac1, uac2, uac3, uba0, uba1, uba2, uba3, ubb0, ubb1, ubb2, ubb3, ubc0, ubc1, ubc2, ubc3])] w fun e w' => (∃ t0 t1 t2 t3 t4 t5 t6 t7 t8 t9 t10 t11 t12 t13 t14 t15 t16 t17 t18 t19 t20 t21 t22 t23 t24 t25 t26 t27, e = .returned (.agg #[.int .i64 (akind a1 a2 a3 d1 d2 d3), t0, t1, t2, t3, t4, t5, t6, t7, t8, t9, t10, t11, t12, t13, t14, t15, t16, t17, t18, t19, t20, t21, t22, t23, t24, t25, t26, t27]) ∧ IsRat w' (20 * k + 1000) t0 t1 t2 t3 (adir a1 a2 a3 d1 d2 d3 a1 d1) ∧ IsRat w' (20 * k + 1000) t4 t5 t6 t7 (adir a1 a2 a3 d1 d2 d3 a2 d2) ∧ IsRat w' (20 * k + 1000) t8 t9 t10 t11 (adir a1 a2 a3 d1 d2 d3 a3 d3) ∧ IsRat w' (20 * k + 1000) t12 t13 t14 t15 (apt a1 a2 a3 (a2 * d3 - a3 * d2)) ∧ IsRat w' (20 * k + 1000) t16 t17 t18 t19 (apt a1 a2 a3 (a3 * d1 - a1 * d3)) ∧ IsRat w' (20 * k + 1000) t20 t21 t22 t23 (apt a1 a2 a3 (a1 * d2 - a2 * d1)) ∧ IsRat w' (20 * k + 1000) t24 t25 t26 t27 (apit a1 a2 a3 d1 d2 d3)) ∧ Gr w w' := by
  by_cases ha : a1 = 0 ∧ a2 = 0 ∧ a3 = 0
  · by_cases hd : d1 = 0 ∧ d2 = 0 ∧ d3 = 0
    · simp only [akind, adir, apt, apit, if_pos ha, if_pos hd]
      exact axis_n hua1 hua2 hua3 hub1 hub2 hub3 hk ha hd
    · simp only [akind, adir, apt, apit, if_pos ha, if_neg hd]
      exact axis_t hua1 hua2 hua3 hub1 hub2 hub3 hk ha hd
  · by_cases hp : (0 + a1 * d1 + a2 * d2 + a3 * d3) * (((1 : Int) : Rat) / (0 + a1 * a1 + a2 * a2 + a3 * a3)) = 0
    · simp only [akind, adir, apt, apit, dotq, if_neg ha, if_pos hp]
      exact axis_r hua1 hua2 hua3 hub1 hub2 hub3 hk ha hp
    · simp only [akind, adir, apt, apit, dotq, if_neg ha, if_neg hp]
      exact axis_s hua1 hua2 hua3 hub1 hub2 hub3 hk ha hp

theorem pt_ne {m0 m1 m2 : Int} {P0 P1 P2 : Rat} (e0 : P0 = (m0 : Rat)) (e1 : P1 = (m1 : Rat)) (e2 : P2 = (m2 : Rat)) (h : (!(m0 == 0 && m1 == 0 && m2 == 0)) = true) : ¬(P0 = 0 ∧ P1 = 0 ∧ P2 = 0) := by
  rintro ⟨h0, h1, h2⟩
  rw [e0] at h0
  rw [e1] at h1
  rw [e2] at h2
  have z : ∀ m : Int, (m : Rat) = 0 → m = 0 := fun m hm => by
    have := congrArg Rat.num hm
    simpa using this
  rw [z m0 h0, z m1 h1, z m2 h2] at h
  simp at h

theorem lawTu0 (P0 P1 P2 Q0 Q1 Q2 FF : Rat)  : (vcmp ((Q1 * P2 - Q2 * P1) + (P1 * (Q2 + (FF * P2)) - P2 * (Q1 + (FF * P1)))) ((Q2 * P0 - Q0 * P2) + (P2 * (Q0 + (FF * P0)) - P0 * (Q2 + (FF * P2)))) ((Q0 * P1 - Q1 * P0) + (P0 * (Q1 + (FF * P1)) - P1 * (Q0 + (FF * P0)))) 0 0 0 == (0 : Int)) = true := veq_t (by grind) (by grind) (by grind)
theorem lawTu1 (P0 P1 P2 : Rat)  : (vcmp P0 P1 P2 P0 P1 P2 == (0 : Int)) = true := veq_t rfl rfl rfl
theorem lawTu2 (P0 P1 P2 Q0 Q1 Q2 : Rat) (_hP : ¬(P0 = 0 ∧ P1 = 0 ∧ P2 = 0)) : (akind (P0) (P1) (P2) (Q1 * P2 - Q2 * P1) (Q2 * P0 - Q0 * P2) (Q0 * P1 - Q1 * P0) != (2 : Int)) = false := akind_rot _hP (by grind)
theorem lawTu3 (P0 P1 P2 Q0 Q1 Q2 : Rat) (_hP : ¬(P0 = 0 ∧ P1 = 0 ∧ P2 = 0)) : (vcmp (((apt (P0) (P1) (P2) ((P2) * ((Q1 * P2 - Q2 * P1)) - (P0) * ((Q0 * P1 - Q1 * P0)))) - Q1) * P2 - ((apt (P0) (P1) (P2) ((P0) * ((Q2 * P0 - Q0 * P2)) - (P1) * ((Q1 * P2 - Q2 * P1)))) - Q2) * P1) (((apt (P0) (P1) (P2) ((P0) * ((Q2 * P0 - Q0 * P2)) - (P1) * ((Q1 * P2 - Q2 * P1)))) - Q2) * P0 - ((apt (P0) (P1) (P2) ((P1) * ((Q0 * P1 - Q1 * P0)) - (P2) * ((Q2 * P0 - Q0 * P2)))) - Q0) * P2) (((apt (P0) (P1) (P2) ((P1) * ((Q0 * P1 - Q1 * P0)) - (P2) * ((Q2 * P0 - Q0 * P2)))) - Q0) * P1 - ((apt (P0) (P1) (P2) ((P2) * ((Q1 * P2 - Q2 * P1)) - (P0) * ((Q0 * P1 - Q1 * P0)))) - Q1) * P0) 0 0 0 == (0 : Int)) = true := veq_t (by have hs := dot_ne _hP; simp only [dotq] at hs; simp only [apt, adir, apit, dotq, if_neg _hP, prim_fac]; grind) (by have hs := dot_ne _hP; simp only [dotq] at hs; simp only [apt, adir, apit, dotq, if_neg _hP, prim_fac]; grind) (by have hs := dot_ne _hP; simp only [dotq] at hs; simp only [apt, adir, apit, dotq, if_neg _hP, prim_fac]; grind)
theorem lawTu4 (A0 A1 A2 A3 A4 A5 FF : Rat) (_hA : ¬(A0 = 0 ∧ A1 = 0 ∧ A2 = 0)) : (vcmp (A3 + (A1 * ((apt (A0) (A1) (A2) ((A0) * (A4) - (A1) * (A3))) + (FF * (adir (A0) (A1) (A2) (A3) (A4) (A5) (A2) (A5)))) - A2 * ((apt (A0) (A1) (A2) ((A2) * (A3) - (A0) * (A5))) + (FF * (adir (A0) (A1) (A2) (A3) (A4) (A5) (A1) (A4)))))) (A4 + (A2 * ((apt (A0) (A1) (A2) ((A1) * (A5) - (A2) * (A4))) + (FF * (adir (A0) (A1) (A2) (A3) (A4) (A5) (A0) (A3)))) - A0 * ((apt (A0) (A1) (A2) ((A0) * (A4) - (A1) * (A3))) + (FF * (adir (A0) (A1) (A2) (A3) (A4) (A5) (A2) (A5)))))) (A5 + (A0 * ((apt (A0) (A1) (A2) ((A2) * (A3) - (A0) * (A5))) + (FF * (adir (A0) (A1) (A2) (A3) (A4) (A5) (A1) (A4)))) - A1 * ((apt (A0) (A1) (A2) ((A1) * (A5) - (A2) * (A4))) + (FF * (adir (A0) (A1) (A2) (A3) (A4) (A5) (A0) (A3)))))) ((apit (A0) (A1) (A2) (A3) (A4) (A5)) * A0) ((apit (A0) (A1) (A2) (A3) (A4) (A5)) * A1) ((apit (A0) (A1) (A2) (A3) (A4) (A5)) * A2) == (0 : Int)) = true := veq_t (by have hs := dot_ne _hA; simp only [dotq] at hs; simp only [apt, adir, apit, dotq, if_neg _hA, prim_fac]; grind) (by have hs := dot_ne _hA; simp only [dotq] at hs; simp only [apt, adir, apit, dotq, if_neg _hA, prim_fac]; grind) (by have hs := dot_ne _hA; simp only [dotq] at hs; simp only [apt, adir, apit, dotq, if_neg _hA, prim_fac]; grind)
theorem lawTu5 (A0 A1 A2 A3 A4 A5 : Rat) (_hA : ¬(A0 = 0 ∧ A1 = 0 ∧ A2 = 0)) : (sgn ((0 + (apt (A0) (A1) (A2) ((A1) * (A5) - (A2) * (A4))) * (adir (A0) (A1) (A2) (A3) (A4) (A5) (A0) (A3)) + (apt (A0) (A1) (A2) ((A2) * (A3) - (A0) * (A5))) * (adir (A0) (A1) (A2) (A3) (A4) (A5) (A1) (A4)) + (apt (A0) (A1) (A2) ((A0) * (A4) - (A1) * (A3))) * (adir (A0) (A1) (A2) (A3) (A4) (A5) (A2) (A5)))).num == (0 : Int)) = true := sgne_t (by have hs := dot_ne _hA; simp only [dotq] at hs; simp only [apt, adir, apit, dotq, if_neg _hA, prim_fac]; grind)
set_option maxRecDepth 100000 in
set_option maxHeartbeats 16000000 in
theorem turns_q (n0 n1 n2 n3 n4 n5 dd : Int) (_in0 : -128 ≤ n0 ∧ n0 ≤ 127) (_in1 : -128 ≤ n1 ∧ n1 ≤ 127) (_in2 : -128 ≤ n2 ∧ n2 ≤ 127) (_in3 : -128 ≤ n3 ∧ n3 ≤ 127) (_in4 : -128 ≤ n4 ∧ n4 ≤ 127) (_in5 : -128 ≤ n5 ∧ n5 ≤ 127) (_idd : 0 ≤ dd ∧ dd ≤ 255) (m0 m1 m2 : Int) (_im0 : -128 ≤ m0 ∧ m0 ≤ 127) (_im1 : -128 ≤ m1 ∧ m1 ≤ 127) (_im2 : -128 ≤ m2 ∧ m2 ≤ 127) (l0 l1 l2 : Int) (_il0 : -128 ≤ l0 ∧ l0 ≤ 127) (_il1 : -128 ≤ l1 ∧ l1 ≤ 127) (_il2 : -128 ≤ l2 ∧ l2 ≤ 127) (ff : Int) (_iff : -128 ≤ ff ∧ ff ≤ 127) (A0 A1 A2 A3 A4 A5 : Rat) (eA0 : A0 = (((n0 : Int) : Rat) / ((1 + dd % 3 : Int) : Rat))) (eA1 : A1 = (((n1 : Int) : Rat) / ((1 + dd % 3 : Int) : Rat))) (eA2 : A2 = (((n2 : Int) : Rat) / ((1 + dd % 3 : Int) : Rat))) (eA3 : A3 = (((n3 : Int) : Rat) / ((1 + dd % 3 : Int) : Rat))) (eA4 : A4 = (((n4 : Int) : Rat) / ((1 + dd % 3 : Int) : Rat))) (eA5 : A5 = (((n5 : Int) : Rat) / ((1 + dd % 3 : Int) : Rat))) (P0 P1 P2 : Rat) (eP0 : P0 = ((m0 : Int) : Rat)) (eP1 : P1 = ((m1 : Int) : Rat)) (eP2 : P2 = ((m2 : Int) : Rat)) (Q0 Q1 Q2 : Rat) (eQ0 : Q0 = ((l0 : Int) : Rat)) (eQ1 : Q1 = ((l1 : Int) : Rat)) (eQ2 : Q2 = ((l2 : Int) : Rat)) (FF : Rat) (eFF : FF = ((ff : Int) : Rat)) (w : World) (ht : Tab w) :
    Calls Tryd.prog 5 #[(.agg #[(.int .i8 (n0)), (.int .i8 (n1)), (.int .i8 (n2)), (.int .i8 (n3)), (.int .i8 (n4)), (.int .i8 (n5)), (.int .u8 (dd))]), (.agg #[(.int .i8 (m0)), (.int .i8 (m1)), (.int .i8 (m2)), (.int .i8 (l0)), (.int .i8 (l1)), (.int .i8 (l2))]), (.int .i8 (ff))] w fun e w' => e = .returned (.bool true) ∧ Gr w w' := by
  go_enter Tryd.func5, Tryd.ntmps5
  have hB := Gr.refl w
  refine wp_seq_k (fun K1 k1 => ?_)
  refine wp_region ?_
  simp only [List.size_toArray, List.length_cons, List.length_nil, Nat.reduceAdd, List.range, List.range.loop]
  refine sq_eff rfl (by kernel_rfl) (fun K2 k2 => ?_)
  refine eff_box 25 _ (.agg #[(.int .i8 (n0)), (.int .i8 (n1)), (.int .i8 (n2)), (.int .i8 (n3)), (.int .i8 (n4)), (.int .i8 (n5)), (.int .u8 (dd))]) #[(.int .i8 (n0)), (.int .i8 (n1)), (.int .i8 (n2)), (.int .i8 (n3)), (.int .i8 (n4)), (.int .i8 (n5)), (.int .u8 (dd))] (some 3) rfl rfl rfl rfl (fun b3 w3 g3 L3 q3 => ?_)
  replace q3 := Nat.le_trans (Below.size hB) q3
  replace hB := Gr.trans hB g3
  refine k2 _ _ ?_
  try clear k2 K2
  simp only [p1, p2, p3, p4]
  refine sq_eff rfl (by kernel_rfl) (fun K4 k4 => ?_)
  refine eff_box 61 _ (.agg #[(.int .i8 (m0)), (.int .i8 (m1)), (.int .i8 (m2)), (.int .i8 (l0)), (.int .i8 (l1)), (.int .i8 (l2))]) #[(.int .i8 (m0)), (.int .i8 (m1)), (.int .i8 (m2)), (.int .i8 (l0)), (.int .i8 (l1)), (.int .i8 (l2))] (some 4) rfl rfl rfl rfl (fun b5 w5 g5 L5 q5 => ?_)
  have ne3_5 := L3.ne q5
  replace q5 := Nat.le_trans (Below.size hB) q5
  replace hB := Gr.trans hB g5
  refine k4 _ _ ?_
  try clear k4 K4
  simp only [p1, p2, p3, p4]
  refine sq_val (some 6) (.bool false) rfl rfl (by kernel_rfl) (rvk (by kernel_rfl)) ?_
  simp only [p1, p2, p3, p4]
  refine sq_nil ?_
  refine k1 _ _ ?_
  try clear k1 K1
  refine wp_seq_k (fun K6 k6 => ?_)
  refine wp_seq_k (fun K7 k7 => ?_)
  refine wp_region ?_
  simp only [List.size_toArray, List.length_cons, List.length_nil, Nat.reduceAdd, List.range, List.range.loop]
  refine sq_eff rfl (by kernel_rfl) (fun K8 k8 => ?_)
  refine eff_call (some 15) rfl (by kernel_rfl) (known_t _ (ht.gr hB)) ?_
  rintro e9 w9 ⟨rfl, g9⟩
  refine ⟨_, rfl, ?_⟩
  replace hB := Gr.trans hB g9
  refine k8 _ _ ?_
  try clear k8 K8
  simp only [p1, p2, p3, p4]
  refine sq_val (some 16) (.bool false) rfl rfl (by kernel_rfl) (rvk (by kernel_rfl)) ?_
  simp only [p1, p2, p3, p4]
  refine sq_nil ?_
  refine k7 _ _ ?_
  try clear k7 K7
  refine wp_cond_false rfl ?_
  refine wp_skip ?_
  refine k6 _ _ ?_
  try clear k6 K6
  refine wp_seq_k (fun K10 k10 => ?_)
  have hz11 := Below.size hB
  replace L3 := L3.gr (g5.trans g9)
  have lt3_11 := L3.lt
  replace L5 := L5.gr g9
  have lt5_11 := L5.lt
  have gd11 := Gr.drew w9
  replace hB := Gr.trans hB gd11
  replace L5 := L5.gr gd11
  refine wp_region_flo (fun w' => Lc w' b5 #[(.int .i8 (m0)), (.int .i8 (m1)), (.int .i8 (m2)), (.int .i8 (l0)), (.int .i8 (l1)), (.int .i8 (l2))] 61) [(true, 0), (true, 1), (true, 2), (true, 3)] [⟨4, 7, 54, #[(.int .i8 0), (.int .i8 0), (.int .i8 0)]⟩, ⟨5, 8, 54, #[(.int .i8 0), (.int .i8 0), (.int .i8 0)]⟩] [(false, 6), (false, 7)] (by kernel_rfl) (by kernel_rfl) (by kernel_rfl) (by kernel_rfl) (by kernel_rfl) (by decide) (fun _ _ _ _ _ h => h) (fun _ _ _ _ _ h => h) (fun w' o h => Lc.gr h (Gr.alloc w' o)) L5 (by intro f hf; simp only [List.mem_cons, List.not_mem_nil, or_false] at hf; rcases hf with rfl | rfl <;> first | exact alloc_zero (z := (.agg #[(.int .i8 0), (.int .i8 0), (.int .i8 0)])) (by kernel_rfl) rfl | exact alloc_zero (z := (.agg #[(.int .i8 0), (.int .i8 0), (.int .i8 0)])) (by kernel_rfl) rfl) ?_
  refine flo_pure (some 17) (.pointer (some ⟨b5, 0, none⟩)) rfl rfl rfl (fun w' hS => (rvk (by kernel_rfl))) ?_
  simp only [p1, p2, p3, p4]
  refine flo_pure (some 18) (.agg #[(.int .i8 (m0)), (.int .i8 (m1)), (.int .i8 (m2))]) rfl rfl rfl (fun w' hS => (rv_load 54 _ b5 0 _ _ [(.int .i8 (m0)), (.int .i8 (m1)), (.int .i8 (m2))] rfl rfl hS rfl (by kernel_rfl))) ?_
  simp only [p1, p2, p3, p4]
  refine flo_pure (some 19) (.pointer (some ⟨b5, 3, none⟩)) rfl rfl rfl (fun w' hS => (rvk (by kernel_rfl))) ?_
  simp only [p1, p2, p3, p4]
  refine flo_pure (some 20) (.agg #[(.int .i8 (l0)), (.int .i8 (l1)), (.int .i8 (l2))]) rfl rfl rfl (fun w' hS => (rv_load 54 _ b5 3 _ _ [(.int .i8 (l0)), (.int .i8 (l1)), (.int .i8 (l2))] rfl rfl hS rfl (by kernel_rfl))) ?_
  simp only [p1, p2, p3, p4]
  refine flo_nil (fun w12 g12 _ => ?_)
  replace hB := Gr.trans hB g12
  refine floFin2 (fun b13 b14 (L13 : Lc w12 b13 #[(.int .i8 0), (.int .i8 0), (.int .i8 0)] 54) q13 (L14 : Lc w12 b14 #[(.int .i8 0), (.int .i8 0), (.int .i8 0)] 54) q14 ne13_14 => ?_)
  have ne3_13 : b3 ≠ b13 := Nat.ne_of_lt (Nat.lt_of_lt_of_le lt3_11 q13)
  have ne5_13 : b5 ≠ b13 := Nat.ne_of_lt (Nat.lt_of_lt_of_le lt5_11 q13)
  replace q13 := Nat.le_trans hz11 q13
  have ne3_14 : b3 ≠ b14 := Nat.ne_of_lt (Nat.lt_of_lt_of_le lt3_11 q14)
  have ne5_14 : b5 ≠ b14 := Nat.ne_of_lt (Nat.lt_of_lt_of_le lt5_11 q14)
  replace q14 := Nat.le_trans hz11 q14
  simp only [p1, p2, p3, p4]
  refine ord_eff rfl rfl (fun K15 k15 => ?_)
  refine eff_store 54 _ _ b13 0 (.agg #[(.int .i8 (m0)), (.int .i8 (m1)), (.int .i8 (m2))]) [(.int .i8 (m0)), (.int .i8 (m1)), (.int .i8 (m2))] _ #[(.int .i8 (m0)), (.int .i8 (m1)), (.int .i8 (m2))] _ rfl rfl rfl rfl rfl L13 (by kernel_rfl) (Nat.le_of_ble_eq_true rfl) ⟨rfl, rfl, rfl, trivial⟩ (by kernel_rfl) (fun w16 st16 N16 => ?_)
  have kp16 := st16.kp L13 (by decide)
  replace hB := st16.gr hB q13
  replace L13 := N16
  replace L5 := st16.lc (L5.gr g12) ne5_13
  refine k15 _ _ L5 ?_
  try clear k15 K15
  refine ord_eff rfl rfl (fun K17 k17 => ?_)
  replace L14 := st16.lc L14 (Ne.symm ne13_14)
  refine eff_store 54 _ _ b14 0 (.agg #[(.int .i8 (l0)), (.int .i8 (l1)), (.int .i8 (l2))]) [(.int .i8 (l0)), (.int .i8 (l1)), (.int .i8 (l2))] _ #[(.int .i8 (l0)), (.int .i8 (l1)), (.int .i8 (l2))] _ rfl rfl rfl rfl rfl L14 (by kernel_rfl) (Nat.le_of_ble_eq_true rfl) ⟨rfl, rfl, rfl, trivial⟩ (by kernel_rfl) (fun w18 st18 N18 => ?_)
  have kp18 := st18.kp L14 (by decide)
  replace hB := st18.gr hB q14
  replace L14 := N18
  replace L5 := st18.lc L5 ne5_14
  refine k17 _ _ L5 ?_
  try clear k17 K17
  refine ord_nil ?_
  refine k10 _ _ ?_
  try clear k10 K10
  refine wp_seq_k (fun K19 k19 => ?_)
  have hz20 := Below.size hB
  replace L3 := st18.lc (st16.lc (L3.gr (gd11.trans g12)) ne3_13) ne3_14
  have lt3_20 := L3.lt
  have lt5_20 := L5.lt
  replace L13 := st18.lc L13 ne13_14
  have lt13_20 := L13.lt
  have lt14_20 := L14.lt
  have gd20 := Gr.drew w18
  replace hB := Gr.trans hB gd20
  replace L13 := L13.gr gd20
  replace L14 := L14.gr gd20
  refine wp_region_flo (fun w' => Lc w' b13 #[(.int .i8 (m0)), (.int .i8 (m1)), (.int .i8 (m2))] 54 ∧ Lc w' b14 #[(.int .i8 (l0)), (.int .i8 (l1)), (.int .i8 (l2))] 54) [(true, 0), (true, 2), (false, 1), (false, 3), (false, 4)] [⟨5, 9, 35, #[(.bool false), (.slice none 0 0), (.bool false), (.slice none 0 0), (.bool false), (.slice none 0 0), (.bool false), (.slice none 0 0), (.bool false), (.slice none 0 0), (.bool false), (.slice none 0 0), (.bool false), (.slice none 0 0), (.bool false), (.slice none 0 0), (.bool false), (.slice none 0 0), (.bool false), (.slice none 0 0), (.bool false), (.slice none 0 0), (.bool false), (.slice none 0 0)]⟩] [(false, 6)] (by kernel_rfl) (by kernel_rfl) (by kernel_rfl) (by kernel_rfl) (by kernel_rfl) (by decide) (fun _ _ _ _ _ h => h) (fun _ _ _ _ _ h => h) (fun w' o h => ⟨Lc.gr h.1 (Gr.alloc w' o), Lc.gr h.2 (Gr.alloc w' o)⟩) ⟨L13, L14⟩ (by intro f hf; simp only [List.mem_cons, List.not_mem_nil, or_false] at hf; rcases hf with rfl <;> first | exact alloc_zero (z := (.agg #[(.bool false), (.slice none 0 0), (.bool false), (.slice none 0 0), (.bool false), (.slice none 0 0), (.bool false), (.slice none 0 0), (.bool false), (.slice none 0 0), (.bool false), (.slice none 0 0), (.bool false), (.slice none 0 0), (.bool false), (.slice none 0 0), (.bool false), (.slice none 0 0), (.bool false), (.slice none 0 0), (.bool false), (.slice none 0 0), (.bool false), (.slice none 0 0)])) (by kernel_rfl) rfl) ?_
  refine flo_pure (some 21) (.agg #[(.int .i8 (m0)), (.int .i8 (m1)), (.int .i8 (m2))]) rfl rfl rfl (fun w' hS => (rv_load 54 _ b13 0 _ _ [(.int .i8 (m0)), (.int .i8 (m1)), (.int .i8 (m2))] rfl rfl hS.1 rfl (by kernel_rfl))) ?_
  simp only [p1, p2, p3, p4]
  refine flo_pure (some 23) (.agg #[(.int .i8 (l0)), (.int .i8 (l1)), (.int .i8 (l2))]) rfl rfl rfl (fun w' hS => (rv_load 54 _ b14 0 _ _ [(.int .i8 (l0)), (.int .i8 (l1)), (.int .i8 (l2))] rfl rfl hS.2 rfl (by kernel_rfl))) ?_
  simp only [p1, p2, p3, p4]
  refine flo_eff rfl rfl (fun w21 g21 _ K21 k21 => ?_)
  replace hB := Gr.trans hB g21
  refine eff_call (some 22) rfl (by kernel_rfl) (point_v (m0) (m1) (m2) (by omega) (by omega) (by omega) _) ?_
  rintro e22 w22 ⟨⟨t22_0, t22_1, t22_2, t22_3, t22_4, t22_5, t22_6, t22_7, t22_8, t22_9, t22_10, t22_11, rfl, h22a, h22b, h22c⟩, g22⟩
  refine ⟨_, rfl, ?_⟩
  replace hB := Gr.trans hB g22
  rw [← eP0] at h22a
  rw [← eP1] at h22b
  rw [← eP2] at h22c
  replace L13 := L13.gr (g21.trans g22)
  replace L14 := L14.gr (g21.trans g22)
  refine k21 _ _ g22 ⟨L13, L14⟩ ?_
  try clear k21 K21
  simp only [p1, p2, p3, p4]
  refine flo_eff rfl rfl (fun w23 g23 _ K23 k23 => ?_)
  replace hB := Gr.trans hB g23
  refine eff_call (some 24) rfl (by kernel_rfl) (point_v (l0) (l1) (l2) (by omega) (by omega) (by omega) _) ?_
  rintro e24 w24 ⟨⟨t24_0, t24_1, t24_2, t24_3, t24_4, t24_5, t24_6, t24_7, t24_8, t24_9, t24_10, t24_11, rfl, h24a, h24b, h24c⟩, g24⟩
  refine ⟨_, rfl, ?_⟩
  replace hB := Gr.trans hB g24
  rw [← eQ0] at h24a
  rw [← eQ1] at h24b
  rw [← eQ2] at h24c
  replace L13 := L13.gr (g23.trans g24)
  replace L14 := L14.gr (g23.trans g24)
  refine k23 _ _ g24 ⟨L13, L14⟩ ?_
  try clear k23 K23
  simp only [p1, p2, p3, p4]
  refine flo_eff rfl rfl (fun w25 g25 _ K25 k25 => ?_)
  replace hB := Gr.trans hB g25
  have kq27 := g23.kp.trans (g24.kp.trans g25.kp)
  replace h22a := h22a.kp kq27
  replace h22b := h22b.kp kq27
  replace h22c := h22c.kp kq27
  replace h24a := h24a.kp g25.kp
  replace h24b := h24b.kp g25.kp
  replace h24c := h24c.kp g25.kp
  refine eff_call (some 25) rfl (by kernel_rfl) (trot_v h22a h22b h22c h24a h24b h24c (by omega)) ?_
  rintro e26 w26 ⟨⟨t26_0, t26_1, t26_2, t26_3, t26_4, t26_5, t26_6, t26_7, t26_8, t26_9, t26_10, t26_11, t26_12, t26_13, t26_14, t26_15, t26_16, t26_17, t26_18, t26_19, t26_20, t26_21, t26_22, t26_23, rfl, h26a, h26b, h26c, h26d, h26e, h26f⟩, g26⟩
  refine ⟨_, rfl, ?_⟩
  replace hB := Gr.trans hB g26
  replace L13 := L13.gr (g25.trans g26)
  replace L14 := L14.gr (g25.trans g26)
  refine k25 _ _ g26 ⟨L13, L14⟩ ?_
  try clear k25 K25
  simp only [p1, p2, p3, p4]
  refine flo_nil (fun w28 g28 _ => ?_)
  replace hB := Gr.trans hB g28
  refine floFin1 (fun b29 (L29 : Lc w28 b29 #[(.bool false), (.slice none 0 0), (.bool false), (.slice none 0 0), (.bool false), (.slice none 0 0), (.bool false), (.slice none 0 0), (.bool false), (.slice none 0 0), (.bool false), (.slice none 0 0), (.bool false), (.slice none 0 0), (.bool false), (.slice none 0 0), (.bool false), (.slice none 0 0), (.bool false), (.slice none 0 0), (.bool false), (.slice none 0 0), (.bool false), (.slice none 0 0)] 35) q29  => ?_)
  have ne3_29 : b3 ≠ b29 := Nat.ne_of_lt (Nat.lt_of_lt_of_le lt3_20 q29)
  have ne5_29 : b5 ≠ b29 := Nat.ne_of_lt (Nat.lt_of_lt_of_le lt5_20 q29)
  have ne13_29 : b13 ≠ b29 := Nat.ne_of_lt (Nat.lt_of_lt_of_le lt13_20 q29)
  have ne14_29 : b14 ≠ b29 := Nat.ne_of_lt (Nat.lt_of_lt_of_le lt14_20 q29)
  replace q29 := Nat.le_trans hz20 q29
  simp only [p1, p2, p3, p4]
  refine ord_eff rfl rfl (fun K30 k30 => ?_)
  refine eff_store 35 _ _ b29 0 (.agg #[t26_0, t26_1, t26_2, t26_3, t26_4, t26_5, t26_6, t26_7, t26_8, t26_9, t26_10, t26_11, t26_12, t26_13, t26_14, t26_15, t26_16, t26_17, t26_18, t26_19, t26_20, t26_21, t26_22, t26_23]) [t26_0, t26_1, t26_2, t26_3, t26_4, t26_5, t26_6, t26_7, t26_8, t26_9, t26_10, t26_11, t26_12, t26_13, t26_14, t26_15, t26_16, t26_17, t26_18, t26_19, t26_20, t26_21, t26_22, t26_23] _ #[t26_0, t26_1, t26_2, t26_3, t26_4, t26_5, t26_6, t26_7, t26_8, t26_9, t26_10, t26_11, t26_12, t26_13, t26_14, t26_15, t26_16, t26_17, t26_18, t26_19, t26_20, t26_21, t26_22, t26_23] _ rfl rfl rfl rfl rfl L29 (by kernel_rfl) (Nat.le_of_ble_eq_true rfl) ⟨h26a.one0, h26a.one1, h26a.one2, h26a.one3, h26b.one0, h26b.one1, h26b.one2, h26b.one3, h26c.one0, h26c.one1, h26c.one2, h26c.one3, h26d.one0, h26d.one1, h26d.one2, h26d.one3, h26e.one0, h26e.one1, h26e.one2, h26e.one3, h26f.one0, h26f.one1, h26f.one2, h26f.one3, trivial⟩ (by kernel_rfl) (fun w31 st31 N31 => ?_)
  have kp31 := st31.kp L29 (by decide)
  replace hB := st31.gr hB q29
  replace L29 := N31
  replace L13 := st31.lc (L13.gr g28) ne13_29
  replace L14 := st31.lc (L14.gr g28) ne14_29
  refine k30 _ _ ⟨L13, L14⟩ ?_
  try clear k30 K30
  refine ord_nil ?_
  refine k19 _ _ ?_
  try clear k19 K19
  refine wp_seq_k (fun K32 k32 => ?_)
  have hz33 := Below.size hB
  replace L3 := st31.lc (L3.gr (gd20.trans (g21.trans (g22.trans (g23.trans (g24.trans (g25.trans (g26.trans g28)))))))) ne3_29
  have lt3_33 := L3.lt
  replace L5 := st31.lc (L5.gr (gd20.trans (g21.trans (g22.trans (g23.trans (g24.trans (g25.trans (g26.trans g28)))))))) ne5_29
  have lt5_33 := L5.lt
  have lt13_33 := L13.lt
  have lt14_33 := L14.lt
  have lt29_33 := L29.lt
  have gd33 := Gr.drew w31
  replace hB := Gr.trans hB gd33
  replace L13 := L13.gr gd33
  replace L14 := L14.gr gd33
  refine wp_region_flo (fun w' => Lc w' b13 #[(.int .i8 (m0)), (.int .i8 (m1)), (.int .i8 (m2))] 54 ∧ Lc w' b14 #[(.int .i8 (l0)), (.int .i8 (l1)), (.int .i8 (l2))] 54) [(true, 0), (true, 2), (true, 4), (true, 5), (false, 1), (false, 3), (false, 6), (false, 7), (false, 8)] [⟨9, 10, 33, #[(.bool false), (.slice none 0 0), (.bool false), (.slice none 0 0), (.bool false), (.slice none 0 0), (.bool false), (.slice none 0 0), (.bool false), (.slice none 0 0), (.bool false), (.slice none 0 0)]⟩] [(false, 10)] (by kernel_rfl) (by kernel_rfl) (by kernel_rfl) (by kernel_rfl) (by kernel_rfl) (by decide) (fun _ _ _ _ _ h => h) (fun _ _ _ _ _ h => h) (fun w' o h => ⟨Lc.gr h.1 (Gr.alloc w' o), Lc.gr h.2 (Gr.alloc w' o)⟩) ⟨L13, L14⟩ (by intro f hf; simp only [List.mem_cons, List.not_mem_nil, or_false] at hf; rcases hf with rfl <;> first | exact alloc_zero (z := (.agg #[(.bool false), (.slice none 0 0), (.bool false), (.slice none 0 0), (.bool false), (.slice none 0 0), (.bool false), (.slice none 0 0), (.bool false), (.slice none 0 0), (.bool false), (.slice none 0 0)])) (by kernel_rfl) rfl) ?_
  refine flo_pure (some 26) (.agg #[(.int .i8 (l0)), (.int .i8 (l1)), (.int .i8 (l2))]) rfl rfl rfl (fun w' hS => (rv_load 54 _ b14 0 _ _ [(.int .i8 (l0)), (.int .i8 (l1)), (.int .i8 (l2))] rfl rfl hS.2 rfl (by kernel_rfl))) ?_
  simp only [p1, p2, p3, p4]
  refine flo_pure (some 28) (.agg #[(.int .i8 (m0)), (.int .i8 (m1)), (.int .i8 (m2))]) rfl rfl rfl (fun w' hS => (rv_load 54 _ b13 0 _ _ [(.int .i8 (m0)), (.int .i8 (m1)), (.int .i8 (m2))] rfl rfl hS.1 rfl (by kernel_rfl))) ?_
  simp only [p1, p2, p3, p4]
  refine flo_pure (some 30) (.int .i8 (ff)) rfl rfl rfl (fun w' hS => (rvk (by kernel_rfl))) ?_
  simp only [p1, p2, p3, p4]
  refine flo_pure (some 31) (.int .i64 (ff)) rfl rfl rfl (fun w' hS => (RunV.int (x := IntKind.i64.wrap (ff)) (y := ff) (rvk (by kernel_rfl)) (by first | rfl | (rw [IntKind.wrap_i64]; omega)))) ?_
  simp only [p1, p2, p3, p4]
  refine flo_eff rfl rfl (fun w34 g34 _ K34 k34 => ?_)
  replace hB := Gr.trans hB g34
  refine eff_call (some 27) rfl (by kernel_rfl) (point_v (l0) (l1) (l2) (by omega) (by omega) (by omega) _) ?_
  rintro e35 w35 ⟨⟨t35_0, t35_1, t35_2, t35_3, t35_4, t35_5, t35_6, t35_7, t35_8, t35_9, t35_10, t35_11, rfl, h35a, h35b, h35c⟩, g35⟩
  refine ⟨_, rfl, ?_⟩
  replace hB := Gr.trans hB g35
  rw [← eQ0] at h35a
  rw [← eQ1] at h35b
  rw [← eQ2] at h35c
  replace L13 := L13.gr (g34.trans g35)
  replace L14 := L14.gr (g34.trans g35)
  refine k34 _ _ g35 ⟨L13, L14⟩ ?_
  try clear k34 K34
  simp only [p1, p2, p3, p4]
  refine flo_eff rfl rfl (fun w36 g36 _ K36 k36 => ?_)
  replace hB := Gr.trans hB g36
  refine eff_call (some 29) rfl (by kernel_rfl) (point_v (m0) (m1) (m2) (by omega) (by omega) (by omega) _) ?_
  rintro e37 w37 ⟨⟨t37_0, t37_1, t37_2, t37_3, t37_4, t37_5, t37_6, t37_7, t37_8, t37_9, t37_10, t37_11, rfl, h37a, h37b, h37c⟩, g37⟩
  refine ⟨_, rfl, ?_⟩
  replace hB := Gr.trans hB g37
  rw [← eP0] at h37a
  rw [← eP1] at h37b
  rw [← eP2] at h37c
  replace L13 := L13.gr (g36.trans g37)
  replace L14 := L14.gr (g36.trans g37)
  refine k36 _ _ g37 ⟨L13, L14⟩ ?_
  try clear k36 K36
  simp only [p1, p2, p3, p4]
  refine flo_eff rfl rfl (fun w38 g38 _ K38 k38 => ?_)
  replace hB := Gr.trans hB g38
  refine eff_call (some 32) rfl (by kernel_rfl) (from_r (ff) (by omega) (by omega) _) ?_
  rintro e39 w39 ⟨⟨p39, q39, r39, s39, rfl, h39⟩, g39⟩
  refine ⟨_, rfl, ?_⟩
  replace hB := Gr.trans hB g39
  rw [← eFF] at h39
  replace L13 := L13.gr (g38.trans g39)
  replace L14 := L14.gr (g38.trans g39)
  refine k38 _ _ g39 ⟨L13, L14⟩ ?_
  try clear k38 K38
  simp only [p1, p2, p3, p4]
  refine flo_eff rfl rfl (fun w40 g40 _ K40 k40 => ?_)
  replace hB := Gr.trans hB g40
  have kq42 := g38.kp.trans (g39.kp.trans g40.kp)
  replace h37a := h37a.kp kq42
  replace h37b := h37b.kp kq42
  replace h37c := h37c.kp kq42
  replace h39 := h39.kp g40.kp
  refine eff_call (some 33) rfl (by kernel_rfl) (vscale_v h37a h37b h37c h39 (by omega)) ?_
  rintro e41 w41 ⟨⟨t41_0, t41_1, t41_2, t41_3, t41_4, t41_5, t41_6, t41_7, t41_8, t41_9, t41_10, t41_11, rfl, h41a, h41b, h41c⟩, g41⟩
  refine ⟨_, rfl, ?_⟩
  replace hB := Gr.trans hB g41
  replace L13 := L13.gr (g40.trans g41)
  replace L14 := L14.gr (g40.trans g41)
  refine k40 _ _ g41 ⟨L13, L14⟩ ?_
  try clear k40 K40
  simp only [p1, p2, p3, p4]
  refine flo_eff rfl rfl (fun w43 g43 _ K43 k43 => ?_)
  replace hB := Gr.trans hB g43
  have kq45 := g36.kp.trans (g37.kp.trans (g38.kp.trans (g39.kp.trans (g40.kp.trans (g41.kp.trans g43.kp)))))
  replace h35a := h35a.kp kq45
  replace h35b := h35b.kp kq45
  replace h35c := h35c.kp kq45
  replace h41a := h41a.kp g43.kp
  replace h41b := h41b.kp g43.kp
  replace h41c := h41c.kp g43.kp
  refine eff_call (some 34) rfl (by kernel_rfl) (vadd_v h35a h35b h35c h41a h41b h41c (by omega)) ?_
  rintro e44 w44 ⟨⟨t44_0, t44_1, t44_2, t44_3, t44_4, t44_5, t44_6, t44_7, t44_8, t44_9, t44_10, t44_11, rfl, h44a, h44b, h44c⟩, g44⟩
  refine ⟨_, rfl, ?_⟩
  replace hB := Gr.trans hB g44
  replace L13 := L13.gr (g43.trans g44)
  replace L14 := L14.gr (g43.trans g44)
  refine k43 _ _ g44 ⟨L13, L14⟩ ?_
  try clear k43 K43
  simp only [p1, p2, p3, p4]
  refine flo_nil (fun w46 g46 _ => ?_)
  replace hB := Gr.trans hB g46
  refine floFin1 (fun b47 (L47 : Lc w46 b47 #[(.bool false), (.slice none 0 0), (.bool false), (.slice none 0 0), (.bool false), (.slice none 0 0), (.bool false), (.slice none 0 0), (.bool false), (.slice none 0 0), (.bool false), (.slice none 0 0)] 33) q47  => ?_)
  have ne3_47 : b3 ≠ b47 := Nat.ne_of_lt (Nat.lt_of_lt_of_le lt3_33 q47)
  have ne5_47 : b5 ≠ b47 := Nat.ne_of_lt (Nat.lt_of_lt_of_le lt5_33 q47)
  have ne13_47 : b13 ≠ b47 := Nat.ne_of_lt (Nat.lt_of_lt_of_le lt13_33 q47)
  have ne14_47 : b14 ≠ b47 := Nat.ne_of_lt (Nat.lt_of_lt_of_le lt14_33 q47)
  have ne29_47 : b29 ≠ b47 := Nat.ne_of_lt (Nat.lt_of_lt_of_le lt29_33 q47)
  replace q47 := Nat.le_trans hz33 q47
  simp only [p1, p2, p3, p4]
  refine ord_eff rfl rfl (fun K48 k48 => ?_)
  refine eff_store 33 _ _ b47 0 (.agg #[t44_0, t44_1, t44_2, t44_3, t44_4, t44_5, t44_6, t44_7, t44_8, t44_9, t44_10, t44_11]) [t44_0, t44_1, t44_2, t44_3, t44_4, t44_5, t44_6, t44_7, t44_8, t44_9, t44_10, t44_11] _ #[t44_0, t44_1, t44_2, t44_3, t44_4, t44_5, t44_6, t44_7, t44_8, t44_9, t44_10, t44_11] _ rfl rfl rfl rfl rfl L47 (by kernel_rfl) (Nat.le_of_ble_eq_true rfl) ⟨h44a.one0, h44a.one1, h44a.one2, h44a.one3, h44b.one0, h44b.one1, h44b.one2, h44b.one3, h44c.one0, h44c.one1, h44c.one2, h44c.one3, trivial⟩ (by kernel_rfl) (fun w49 st49 N49 => ?_)
  have kp49 := st49.kp L47 (by decide)
  replace hB := st49.gr hB q47
  replace L47 := N49
  replace L13 := st49.lc (L13.gr g46) ne13_47
  replace L14 := st49.lc (L14.gr g46) ne14_47
  refine k48 _ _ ⟨L13, L14⟩ ?_
  try clear k48 K48
  refine ord_nil ?_
  refine k32 _ _ ?_
  try clear k32 K32
  refine wp_seq_k (fun K50 k50 => ?_)
  refine wp_seq_k (fun K51 k51 => ?_)
  have gd66 := Gr.drew w49
  replace hB := Gr.trans hB gd66
  replace L13 := L13.gr gd66
  replace L29 := (st49.lc (L29.gr (gd33.trans (g34.trans (g35.trans (g36.trans (g37.trans (g38.trans (g39.trans (g40.trans (g41.trans (g43.trans (g44.trans g46)))))))))))) ne29_47).gr gd66
  replace L47 := L47.gr gd66
  refine wp_region_ord (fun w' => Lc w' b13 #[(.int .i8 (m0)), (.int .i8 (m1)), (.int .i8 (m2))] 54 ∧ Lc w' b29 #[t26_0, t26_1, t26_2, t26_3, t26_4, t26_5, t26_6, t26_7, t26_8, t26_9, t26_10, t26_11, t26_12, t26_13, t26_14, t26_15, t26_16, t26_17, t26_18, t26_19, t26_20, t26_21, t26_22, t26_23] 35 ∧ Lc w' b47 #[t44_0, t44_1, t44_2, t44_3, t44_4, t44_5, t44_6, t44_7, t44_8, t44_9, t44_10, t44_11] 33) [(true, 0), (true, 1), (false, 2), (false, 3), (true, 4), (true, 5), (true, 6), (true, 7), (true, 8), (false, 9), (false, 10), (true, 11), (true, 12)] (by kernel_rfl) (by kernel_rfl) (by kernel_rfl) (by decide) (fun _ _ _ _ _ h => h) ⟨L13, L29, L47⟩ ?_
  refine ord_pure (some 35) (.agg #[t26_0, t26_1, t26_2, t26_3, t26_4, t26_5, t26_6, t26_7, t26_8, t26_9, t26_10, t26_11, t26_12, t26_13, t26_14, t26_15, t26_16, t26_17, t26_18, t26_19, t26_20, t26_21, t26_22, t26_23]) rfl rfl rfl (fun w' hS => (rv_load 35 _ b29 0 _ _ [t26_0, t26_1, t26_2, t26_3, t26_4, t26_5, t26_6, t26_7, t26_8, t26_9, t26_10, t26_11, t26_12, t26_13, t26_14, t26_15, t26_16, t26_17, t26_18, t26_19, t26_20, t26_21, t26_22, t26_23] rfl rfl hS.2.1 rfl (by kernel_rfl))) ?_
  simp only [p1, p2, p3, p4]
  refine ord_pure (some 36) (.agg #[t44_0, t44_1, t44_2, t44_3, t44_4, t44_5, t44_6, t44_7, t44_8, t44_9, t44_10, t44_11]) rfl rfl rfl (fun w' hS => (rv_load 33 _ b47 0 _ _ [t44_0, t44_1, t44_2, t44_3, t44_4, t44_5, t44_6, t44_7, t44_8, t44_9, t44_10, t44_11] rfl rfl hS.2.2 rfl (by kernel_rfl))) ?_
  simp only [p1, p2, p3, p4]
  refine ord_eff rfl rfl (fun K67 k67 => ?_)
  have kq69 := g28.kp.trans (kp31.trans (gd33.kp.trans (g34.kp.trans (g35.kp.trans (g36.kp.trans (g37.kp.trans (g38.kp.trans (g39.kp.trans (g40.kp.trans (g41.kp.trans (g43.kp.trans (g44.kp.trans (g46.kp.trans (kp49.trans gd66.kp))))))))))))))
  replace h26a := h26a.kp kq69
  replace h26b := h26b.kp kq69
  replace h26c := h26c.kp kq69
  replace h26d := h26d.kp kq69
  replace h26e := h26e.kp kq69
  replace h26f := h26f.kp kq69
  have kq70 := g46.kp.trans (kp49.trans gd66.kp)
  replace h44a := h44a.kp kq70
  replace h44b := h44b.kp kq70
  replace h44c := h44c.kp kq70
  refine eff_call (some 37) rfl (by kernel_rfl) (tvel_v (h26a.mono (show _ ≤ 257 by omega)) (h26b.mono (show _ ≤ 257 by omega)) (h26c.mono (show _ ≤ 257 by omega)) h26d h26e h26f h44a h44b h44c (by omega)) ?_
  rintro e68 w68 ⟨⟨t68_0, t68_1, t68_2, t68_3, t68_4, t68_5, t68_6, t68_7, t68_8, t68_9, t68_10, t68_11, rfl, h68a, h68b, h68c⟩, g68⟩
  refine ⟨_, rfl, ?_⟩
  replace hB := Gr.trans hB g68
  replace L13 := L13.gr g68
  replace L29 := L29.gr g68
  replace L47 := L47.gr g68
  refine k67 _ _ ⟨L13, L29, L47⟩ ?_
  try clear k67 K67
  simp only [p1, p2, p3, p4]
  refine ord_eff rfl rfl (fun K71 k71 => ?_)
  refine eff_call (some 38) rfl (by kernel_rfl) (vzero_v h68a h68b h68c (by omega)) ?_
  rintro e72 w72 ⟨rfl, g72⟩
  refine ⟨_, rfl, ?_⟩
  replace hB := Gr.trans hB g72
  replace L13 := L13.gr g72
  replace L29 := L29.gr g72
  replace L47 := L47.gr g72
  refine k71 _ _ ⟨L13, L29, L47⟩ ?_
  try clear k71 K71
  simp only [p1, p2, p3, p4]
  have hb73 : (vcmp ((Q1 * P2 - Q2 * P1) + (P1 * (Q2 + (FF * P2)) - P2 * (Q1 + (FF * P1)))) ((Q2 * P0 - Q0 * P2) + (P2 * (Q0 + (FF * P0)) - P0 * (Q2 + (FF * P2)))) ((Q0 * P1 - Q1 * P0) + (P0 * (Q1 + (FF * P1)) - P1 * (Q0 + (FF * P0)))) 0 0 0 == (0 : Int)) = true := (lawTu0 P0 P1 P2 Q0 Q1 Q2 FF )
  refine ord_pure (some 39) (.bool false) rfl rfl rfl (fun w' hS => (RunV.bool (x := !(vcmp ((Q1 * P2 - Q2 * P1) + (P1 * (Q2 + (FF * P2)) - P2 * (Q1 + (FF * P1)))) ((Q2 * P0 - Q0 * P2) + (P2 * (Q0 + (FF * P0)) - P0 * (Q2 + (FF * P2)))) ((Q0 * P1 - Q1 * P0) + (P0 * (Q1 + (FF * P1)) - P1 * (Q0 + (FF * P0)))) 0 0 0 == (0 : Int))) (rvk (by kernel_rfl)) (show (!(vcmp ((Q1 * P2 - Q2 * P1) + (P1 * (Q2 + (FF * P2)) - P2 * (Q1 + (FF * P1)))) ((Q2 * P0 - Q0 * P2) + (P2 * (Q0 + (FF * P0)) - P0 * (Q2 + (FF * P2)))) ((Q0 * P1 - Q1 * P0) + (P0 * (Q1 + (FF * P1)) - P1 * (Q0 + (FF * P0)))) 0 0 0 == (0 : Int))) = false by rw [hb73]; rfl))) ?_
  simp only [p1, p2, p3, p4]
  refine ord_pure (some 40) (.bool false) rfl rfl rfl (fun w' hS => (rvk (by kernel_rfl))) ?_
  simp only [p1, p2, p3, p4]
  refine ord_pureg (some 41) (.pointer (some ⟨b29, 0, none⟩)) rfl rfl (by kernel_rfl) (fun w' hS => (rvk (by kernel_rfl))) ?_
  simp only [p1, p2, p3, p4]
  refine ord_pureg (some 42) (.agg #[t26_0, t26_1, t26_2, t26_3, t26_4, t26_5, t26_6, t26_7, t26_8, t26_9, t26_10, t26_11]) rfl rfl (by kernel_rfl) (fun w' hS => (rv_load 33 _ b29 0 _ _ [t26_0, t26_1, t26_2, t26_3, t26_4, t26_5, t26_6, t26_7, t26_8, t26_9, t26_10, t26_11] rfl rfl hS.2.1 rfl (by kernel_rfl))) ?_
  simp only [p1, p2, p3, p4]
  refine ord_pureg (some 43) (.agg #[(.int .i8 (m0)), (.int .i8 (m1)), (.int .i8 (m2))]) rfl rfl (by kernel_rfl) (fun w' hS => (rv_load 54 _ b13 0 _ _ [(.int .i8 (m0)), (.int .i8 (m1)), (.int .i8 (m2))] rfl rfl hS.1 rfl (by kernel_rfl))) ?_
  simp only [p1, p2, p3, p4]
  refine ord_effg rfl (by kernel_rfl) (fun K74 k74 => ?_)
  refine eff_call (some 44) rfl (by kernel_rfl) (point_v (m0) (m1) (m2) (by omega) (by omega) (by omega) _) ?_
  rintro e75 w75 ⟨⟨t75_0, t75_1, t75_2, t75_3, t75_4, t75_5, t75_6, t75_7, t75_8, t75_9, t75_10, t75_11, rfl, h75a, h75b, h75c⟩, g75⟩
  refine ⟨_, rfl, ?_⟩
  replace hB := Gr.trans hB g75
  rw [← eP0] at h75a
  rw [← eP1] at h75b
  rw [← eP2] at h75c
  replace L13 := L13.gr g75
  replace L29 := L29.gr g75
  replace L47 := L47.gr g75
  refine k74 _ _ ⟨L13, L29, L47⟩ ?_
  try clear k74 K74
  simp only [p1, p2, p3, p4]
  refine ord_effg rfl (by kernel_rfl) (fun K76 k76 => ?_)
  have kq78 := g68.kp.trans (g72.kp.trans g75.kp)
  replace h26a := h26a.kp kq78
  replace h26b := h26b.kp kq78
  replace h26c := h26c.kp kq78
  refine eff_call (some 45) rfl (by kernel_rfl) (vequal_v h26a h26b h26c h75a h75b h75c (by omega)) ?_
  rintro e77 w77 ⟨rfl, g77⟩
  refine ⟨_, rfl, ?_⟩
  replace hB := Gr.trans hB g77
  replace L13 := L13.gr g77
  replace L29 := L29.gr g77
  replace L47 := L47.gr g77
  refine k76 _ _ ⟨L13, L29, L47⟩ ?_
  try clear k76 K76
  simp only [p1, p2, p3, p4]
  have hb79 : (vcmp P0 P1 P2 P0 P1 P2 == (0 : Int)) = true := (lawTu1 P0 P1 P2 )
  refine ord_pureg (some 46) (.bool false) rfl rfl (by kernel_rfl) (fun w' hS => (RunV.bool (x := !(vcmp P0 P1 P2 P0 P1 P2 == (0 : Int))) (rvk (by kernel_rfl)) (show (!(vcmp P0 P1 P2 P0 P1 P2 == (0 : Int))) = false by rw [hb79]; rfl))) ?_
  simp only [p1, p2, p3, p4]
  refine ord_pure (some 47) (.bool false) rfl rfl rfl (fun w' hS => (rvk (by kernel_rfl))) ?_
  simp only [p1, p2, p3, p4]
  refine ord_nil ?_
  refine k51 _ _ ?_
  try clear k51 K51
  refine wp_cond_false rfl ?_
  refine wp_skip ?_
  refine k50 _ _ ?_
  try clear k50 K50
  refine wp_seq_k (fun K80 k80 => ?_)
  refine wp_seq_k (fun K81 k81 => ?_)
  refine wp_region ?_
  simp only [List.size_toArray, List.length_cons, List.length_nil, Nat.reduceAdd, List.range, List.range.loop]
  refine sq_val (some 48) (.agg #[t26_0, t26_1, t26_2, t26_3, t26_4, t26_5, t26_6, t26_7, t26_8, t26_9, t26_10, t26_11, t26_12, t26_13, t26_14, t26_15, t26_16, t26_17, t26_18, t26_19, t26_20, t26_21, t26_22, t26_23]) rfl rfl (by kernel_rfl) (rv_load 35 _ b29 0 _ _ [t26_0, t26_1, t26_2, t26_3, t26_4, t26_5, t26_6, t26_7, t26_8, t26_9, t26_10, t26_11, t26_12, t26_13, t26_14, t26_15, t26_16, t26_17, t26_18, t26_19, t26_20, t26_21, t26_22, t26_23] rfl rfl L29 rfl (by kernel_rfl)) ?_
  simp only [p1, p2, p3, p4]
  refine sq_eff rfl (by kernel_rfl) (fun K82 k82 => ?_)
  replace h26a := h26a.kp g77.kp
  replace h26b := h26b.kp g77.kp
  replace h26c := h26c.kp g77.kp
  have kq84 := g68.kp.trans (g72.kp.trans (g75.kp.trans g77.kp))
  replace h26d := h26d.kp kq84
  replace h26e := h26e.kp kq84
  replace h26f := h26f.kp kq84
  refine eff_call (some 49) rfl (by kernel_rfl) (axis_w (h26a.mono (show _ ≤ 257 by omega)) (h26b.mono (show _ ≤ 257 by omega)) (h26c.mono (show _ ≤ 257 by omega)) h26d h26e h26f (by omega)) ?_
  rintro e83 w83 ⟨⟨t83_0, t83_1, t83_2, t83_3, t83_4, t83_5, t83_6, t83_7, t83_8, t83_9, t83_10, t83_11, t83_12, t83_13, t83_14, t83_15, t83_16, t83_17, t83_18, t83_19, t83_20, t83_21, t83_22, t83_23, t83_24, t83_25, t83_26, t83_27, rfl, h83a, h83b, h83c, h83d, h83e, h83f, h83g⟩, g83⟩
  refine ⟨_, rfl, ?_⟩
  replace hB := Gr.trans hB g83
  refine k82 _ _ ?_
  try clear k82 K82
  simp only [p1, p2, p3, p4]
  refine sq_eff rfl (by kernel_rfl) (fun K85 k85 => ?_)
  refine eff_alloc 38 (.agg #[(.int .i64 0), (.bool false), (.slice none 0 0), (.bool false), (.slice none 0 0), (.bool false), (.slice none 0 0), (.bool false), (.slice none 0 0), (.bool false), (.slice none 0 0), (.bool false), (.slice none 0 0), (.bool false), (.slice none 0 0), (.bool false), (.slice none 0 0), (.bool false), (.slice none 0 0), (.bool false), (.slice none 0 0), (.bool false), (.slice none 0 0), (.bool false), (.slice none 0 0), (.bool false), (.slice none 0 0), (.bool false), (.slice none 0 0)]) #[(.int .i64 0), (.bool false), (.slice none 0 0), (.bool false), (.slice none 0 0), (.bool false), (.slice none 0 0), (.bool false), (.slice none 0 0), (.bool false), (.slice none 0 0), (.bool false), (.slice none 0 0), (.bool false), (.slice none 0 0), (.bool false), (.slice none 0 0), (.bool false), (.slice none 0 0), (.bool false), (.slice none 0 0), (.bool false), (.slice none 0 0), (.bool false), (.slice none 0 0), (.bool false), (.slice none 0 0), (.bool false), (.slice none 0 0)] (some 11) rfl rfl (by kernel_rfl) rfl (fun b86 w86 g86 L86 q86 => ?_)
  replace L3 := (st49.lc (L3.gr (gd33.trans (g34.trans (g35.trans (g36.trans (g37.trans (g38.trans (g39.trans (g40.trans (g41.trans (g43.trans (g44.trans g46)))))))))))) ne3_47).gr (gd66.trans (g68.trans (g72.trans (g75.trans (g77.trans g83)))))
  have ne3_86 := L3.ne q86
  replace L5 := (st49.lc (L5.gr (gd33.trans (g34.trans (g35.trans (g36.trans (g37.trans (g38.trans (g39.trans (g40.trans (g41.trans (g43.trans (g44.trans g46)))))))))))) ne5_47).gr (gd66.trans (g68.trans (g72.trans (g75.trans (g77.trans g83)))))
  have ne5_86 := L5.ne q86
  replace L13 := L13.gr g83
  have ne13_86 := L13.ne q86
  replace L14 := L14.gr (gd66.trans (g68.trans (g72.trans (g75.trans (g77.trans g83)))))
  have ne14_86 := L14.ne q86
  replace L29 := L29.gr g83
  have ne29_86 := L29.ne q86
  replace L47 := L47.gr g83
  have ne47_86 := L47.ne q86
  replace q86 := Nat.le_trans (Below.size hB) q86
  replace hB := Gr.trans hB g86
  refine k85 _ _ ?_
  try clear k85 K85
  simp only [p1, p2, p3, p4]
  refine sq_eff rfl (by kernel_rfl) (fun K87 k87 => ?_)
  refine eff_store 38 _ _ b86 0 (.agg #[(.int .i64 ((akind (P0) (P1) (P2) ((Q1 * P2 - Q2 * P1)) ((Q2 * P0 - Q0 * P2)) ((Q0 * P1 - Q1 * P0))))), t83_0, t83_1, t83_2, t83_3, t83_4, t83_5, t83_6, t83_7, t83_8, t83_9, t83_10, t83_11, t83_12, t83_13, t83_14, t83_15, t83_16, t83_17, t83_18, t83_19, t83_20, t83_21, t83_22, t83_23, t83_24, t83_25, t83_26, t83_27]) [(.int .i64 ((akind (P0) (P1) (P2) ((Q1 * P2 - Q2 * P1)) ((Q2 * P0 - Q0 * P2)) ((Q0 * P1 - Q1 * P0))))), t83_0, t83_1, t83_2, t83_3, t83_4, t83_5, t83_6, t83_7, t83_8, t83_9, t83_10, t83_11, t83_12, t83_13, t83_14, t83_15, t83_16, t83_17, t83_18, t83_19, t83_20, t83_21, t83_22, t83_23, t83_24, t83_25, t83_26, t83_27] _ #[(.int .i64 ((akind (P0) (P1) (P2) ((Q1 * P2 - Q2 * P1)) ((Q2 * P0 - Q0 * P2)) ((Q0 * P1 - Q1 * P0))))), t83_0, t83_1, t83_2, t83_3, t83_4, t83_5, t83_6, t83_7, t83_8, t83_9, t83_10, t83_11, t83_12, t83_13, t83_14, t83_15, t83_16, t83_17, t83_18, t83_19, t83_20, t83_21, t83_22, t83_23, t83_24, t83_25, t83_26, t83_27] _ rfl rfl rfl rfl rfl L86 (by kernel_rfl) (Nat.le_of_ble_eq_true rfl) ⟨rfl, h83a.one0, h83a.one1, h83a.one2, h83a.one3, h83b.one0, h83b.one1, h83b.one2, h83b.one3, h83c.one0, h83c.one1, h83c.one2, h83c.one3, h83d.one0, h83d.one1, h83d.one2, h83d.one3, h83e.one0, h83e.one1, h83e.one2, h83e.one3, h83f.one0, h83f.one1, h83f.one2, h83f.one3, h83g.one0, h83g.one1, h83g.one2, h83g.one3, trivial⟩ (by kernel_rfl) (fun w88 st88 N88 => ?_)
  have kp88 := st88.kp L86 (by decide)
  replace hB := st88.gr hB q86
  replace L86 := N88
  refine k87 _ _ ?_
  try clear k87 K87
  refine sq_nil ?_
  refine k81 _ _ ?_
  try clear k81 K81
  refine wp_seq_k (fun K89 k89 => ?_)
  have gd91 := Gr.drew w88
  replace hB := Gr.trans hB gd91
  replace L13 := (st88.lc (L13.gr g86) ne13_86).gr gd91
  replace L14 := (st88.lc (L14.gr g86) ne14_86).gr gd91
  replace L86 := L86.gr gd91
  refine wp_region_ord (fun w' => Lc w' b13 #[(.int .i8 (m0)), (.int .i8 (m1)), (.int .i8 (m2))] 54 ∧ Lc w' b14 #[(.int .i8 (l0)), (.int .i8 (l1)), (.int .i8 (l2))] 54 ∧ Lc w' b86 #[(.int .i64 ((akind (P0) (P1) (P2) ((Q1 * P2 - Q2 * P1)) ((Q2 * P0 - Q0 * P2)) ((Q0 * P1 - Q1 * P0))))), t83_0, t83_1, t83_2, t83_3, t83_4, t83_5, t83_6, t83_7, t83_8, t83_9, t83_10, t83_11, t83_12, t83_13, t83_14, t83_15, t83_16, t83_17, t83_18, t83_19, t83_20, t83_21, t83_22, t83_23, t83_24, t83_25, t83_26, t83_27] 38) [(true, 0), (true, 1), (true, 2), (true, 3), (true, 4), (true, 5), (true, 6), (true, 7), (true, 8), (true, 9), (true, 10), (true, 13), (false, 11), (false, 12), (false, 14), (false, 15), (false, 16), (true, 17), (true, 18), (true, 19)] (by kernel_rfl) (by kernel_rfl) (by kernel_rfl) (by decide) (fun _ _ _ _ _ h => h) ⟨L13, L14, L86⟩ ?_
  refine ord_pure (some 50) (.agg #[(.int .i8 (m0)), (.int .i8 (m1)), (.int .i8 (m2))]) rfl rfl rfl (fun w' hS => (rv_load 54 _ b13 0 _ _ [(.int .i8 (m0)), (.int .i8 (m1)), (.int .i8 (m2))] rfl rfl hS.1 rfl (by kernel_rfl))) ?_
  simp only [p1, p2, p3, p4]
  refine ord_pure (some 51) (.agg #[(.int .i8 0), (.int .i8 0), (.int .i8 0)]) rfl rfl rfl (fun w' hS => (rvk (by kernel_rfl))) ?_
  simp only [p1, p2, p3, p4]
  refine ord_pure (some 52) (.bool (!(m0 == 0 && m1 == 0 && m2 == 0))) rfl rfl rfl (fun w' hS => (rv_arrne 54 54 22 (k := .i8) _ _ [m0, m1, m2] [0, 0, 0] rfl rfl rfl (by kernel_rfl) (by kernel_rfl) (by kernel_rfl))) ?_
  simp only [p1, p2, p3, p4]
  rcases Bool.eq_false_or_eq_true (!(m0 == 0 && m1 == 0 && m2 == 0)) with hb92 | hb92
  · have hP := pt_ne eP0 eP1 eP2 hb92
    refine ord_pure (some 53) (.bool true) rfl rfl rfl (fun w' hS => (RunV.bool (x := !(m0 == 0 && m1 == 0 && m2 == 0)) (rvk (by kernel_rfl)) hb92)) ?_
    simp only [p1, p2, p3, p4]
    refine ord_pureg (some 54) (.pointer (some ⟨b86, 0, none⟩)) rfl rfl (by kernel_rfl) (fun w' hS => (rvk (by kernel_rfl))) ?_
    simp only [p1, p2, p3, p4]
    refine ord_pureg (some 55) (.int .i64 ((akind (P0) (P1) (P2) ((Q1 * P2 - Q2 * P1)) ((Q2 * P0 - Q0 * P2)) ((Q0 * P1 - Q1 * P0))))) rfl rfl (by kernel_rfl) (fun w' hS => (rv_load1 3 _ b86 0 _ _ (.int .i64 ((akind (P0) (P1) (P2) ((Q1 * P2 - Q2 * P1)) ((Q2 * P0 - Q0 * P2)) ((Q0 * P1 - Q1 * P0))))) rfl rfl hS.2.2 rfl (by kernel_rfl))) ?_
    simp only [p1, p2, p3, p4]
    have hb93 : (((akind (P0) (P1) (P2) ((Q1 * P2 - Q2 * P1)) ((Q2 * P0 - Q0 * P2)) ((Q0 * P1 - Q1 * P0))) != (2 : Int))) = false := (lawTu2 P0 P1 P2 Q0 Q1 Q2 hP)
    refine ord_pureg (some 56) (.bool false) rfl rfl (by kernel_rfl) (fun w' hS => (RunV.bool (x := ((akind (P0) (P1) (P2) ((Q1 * P2 - Q2 * P1)) ((Q2 * P0 - Q0 * P2)) ((Q0 * P1 - Q1 * P0))) != (2 : Int))) (rvk (by kernel_rfl)) hb93)) ?_
    simp only [p1, p2, p3, p4]
    refine ord_pureg (some 57) (.bool false) rfl rfl (by kernel_rfl) (fun w' hS => (rvk (by kernel_rfl))) ?_
    simp only [p1, p2, p3, p4]
    refine ord_pureg (some 58) (.pointer (some ⟨b86, 13, none⟩)) rfl rfl (by kernel_rfl) (fun w' hS => (rvk (by kernel_rfl))) ?_
    simp only [p1, p2, p3, p4]
    refine ord_pureg (some 59) (.agg #[t83_12, t83_13, t83_14, t83_15, t83_16, t83_17, t83_18, t83_19, t83_20, t83_21, t83_22, t83_23]) rfl rfl (by kernel_rfl) (fun w' hS => (rv_load 33 _ b86 13 _ _ [t83_12, t83_13, t83_14, t83_15, t83_16, t83_17, t83_18, t83_19, t83_20, t83_21, t83_22, t83_23] rfl rfl hS.2.2 rfl (by kernel_rfl))) ?_
    simp only [p1, p2, p3, p4]
    refine ord_pureg (some 60) (.agg #[(.int .i8 (l0)), (.int .i8 (l1)), (.int .i8 (l2))]) rfl rfl (by kernel_rfl) (fun w' hS => (rv_load 54 _ b14 0 _ _ [(.int .i8 (l0)), (.int .i8 (l1)), (.int .i8 (l2))] rfl rfl hS.2.1 rfl (by kernel_rfl))) ?_
    simp only [p1, p2, p3, p4]
    refine ord_pureg (some 63) (.agg #[(.int .i8 (m0)), (.int .i8 (m1)), (.int .i8 (m2))]) rfl rfl (by kernel_rfl) (fun w' hS => (rv_load 54 _ b13 0 _ _ [(.int .i8 (m0)), (.int .i8 (m1)), (.int .i8 (m2))] rfl rfl hS.1 rfl (by kernel_rfl))) ?_
    simp only [p1, p2, p3, p4]
    refine ord_effg rfl (by kernel_rfl) (fun K94 k94 => ?_)
    refine eff_call (some 61) rfl (by kernel_rfl) (point_v (l0) (l1) (l2) (by omega) (by omega) (by omega) _) ?_
    rintro e95 w95 ⟨⟨t95_0, t95_1, t95_2, t95_3, t95_4, t95_5, t95_6, t95_7, t95_8, t95_9, t95_10, t95_11, rfl, h95a, h95b, h95c⟩, g95⟩
    refine ⟨_, rfl, ?_⟩
    replace hB := Gr.trans hB g95
    rw [← eQ0] at h95a
    rw [← eQ1] at h95b
    rw [← eQ2] at h95c
    replace L13 := L13.gr g95
    replace L14 := L14.gr g95
    replace L86 := L86.gr g95
    refine k94 _ _ ⟨L13, L14, L86⟩ ?_
    try clear k94 K94
    simp only [p1, p2, p3, p4]
    refine ord_effg rfl (by kernel_rfl) (fun K96 k96 => ?_)
    have kq98 := g86.kp.trans (kp88.trans (gd91.kp.trans g95.kp))
    replace h83d := h83d.kp kq98
    replace h83e := h83e.kp kq98
    replace h83f := h83f.kp kq98
    refine eff_call (some 62) rfl (by kernel_rfl) (vsub_v h83d h83e h83f h95a h95b h95c (by omega)) ?_
    rintro e97 w97 ⟨⟨t97_0, t97_1, t97_2, t97_3, t97_4, t97_5, t97_6, t97_7, t97_8, t97_9, t97_10, t97_11, rfl, h97a, h97b, h97c⟩, g97⟩
    refine ⟨_, rfl, ?_⟩
    replace hB := Gr.trans hB g97
    replace L13 := L13.gr g97
    replace L14 := L14.gr g97
    replace L86 := L86.gr g97
    refine k96 _ _ ⟨L13, L14, L86⟩ ?_
    try clear k96 K96
    simp only [p1, p2, p3, p4]
    refine ord_effg rfl (by kernel_rfl) (fun K99 k99 => ?_)
    refine eff_call (some 64) rfl (by kernel_rfl) (point_v (m0) (m1) (m2) (by omega) (by omega) (by omega) _) ?_
    rintro e100 w100 ⟨⟨t100_0, t100_1, t100_2, t100_3, t100_4, t100_5, t100_6, t100_7, t100_8, t100_9, t100_10, t100_11, rfl, h100a, h100b, h100c⟩, g100⟩
    refine ⟨_, rfl, ?_⟩
    replace hB := Gr.trans hB g100
    rw [← eP0] at h100a
    rw [← eP1] at h100b
    rw [← eP2] at h100c
    replace L13 := L13.gr g100
    replace L14 := L14.gr g100
    replace L86 := L86.gr g100
    refine k99 _ _ ⟨L13, L14, L86⟩ ?_
    try clear k99 K99
    simp only [p1, p2, p3, p4]
    refine ord_effg rfl (by kernel_rfl) (fun K101 k101 => ?_)
    replace h97a := h97a.kp g100.kp
    replace h97b := h97b.kp g100.kp
    replace h97c := h97c.kp g100.kp
    refine eff_call (some 65) rfl (by kernel_rfl) (cross_v h97a h97b h97c h100a h100b h100c (by omega)) ?_
    rintro e102 w102 ⟨⟨t102_0, t102_1, t102_2, t102_3, t102_4, t102_5, t102_6, t102_7, t102_8, t102_9, t102_10, t102_11, rfl, h102a, h102b, h102c⟩, g102⟩
    refine ⟨_, rfl, ?_⟩
    replace hB := Gr.trans hB g102
    replace L13 := L13.gr g102
    replace L14 := L14.gr g102
    replace L86 := L86.gr g102
    refine k101 _ _ ⟨L13, L14, L86⟩ ?_
    try clear k101 K101
    simp only [p1, p2, p3, p4]
    refine ord_effg rfl (by kernel_rfl) (fun K103 k103 => ?_)
    refine eff_call (some 66) rfl (by kernel_rfl) (vzero_v h102a h102b h102c (by omega)) ?_
    rintro e104 w104 ⟨rfl, g104⟩
    refine ⟨_, rfl, ?_⟩
    replace hB := Gr.trans hB g104
    replace L13 := L13.gr g104
    replace L14 := L14.gr g104
    replace L86 := L86.gr g104
    refine k103 _ _ ⟨L13, L14, L86⟩ ?_
    try clear k103 K103
    simp only [p1, p2, p3, p4]
    have hb105 : (vcmp (((apt (P0) (P1) (P2) ((P2) * ((Q1 * P2 - Q2 * P1)) - (P0) * ((Q0 * P1 - Q1 * P0)))) - Q1) * P2 - ((apt (P0) (P1) (P2) ((P0) * ((Q2 * P0 - Q0 * P2)) - (P1) * ((Q1 * P2 - Q2 * P1)))) - Q2) * P1) (((apt (P0) (P1) (P2) ((P0) * ((Q2 * P0 - Q0 * P2)) - (P1) * ((Q1 * P2 - Q2 * P1)))) - Q2) * P0 - ((apt (P0) (P1) (P2) ((P1) * ((Q0 * P1 - Q1 * P0)) - (P2) * ((Q2 * P0 - Q0 * P2)))) - Q0) * P2) (((apt (P0) (P1) (P2) ((P1) * ((Q0 * P1 - Q1 * P0)) - (P2) * ((Q2 * P0 - Q0 * P2)))) - Q0) * P1 - ((apt (P0) (P1) (P2) ((P2) * ((Q1 * P2 - Q2 * P1)) - (P0) * ((Q0 * P1 - Q1 * P0)))) - Q1) * P0) 0 0 0 == (0 : Int)) = true := (lawTu3 P0 P1 P2 Q0 Q1 Q2 hP)
    refine ord_pureg (some 67) (.bool false) rfl rfl (by kernel_rfl) (fun w' hS => (RunV.bool (x := !(vcmp (((apt (P0) (P1) (P2) ((P2) * ((Q1 * P2 - Q2 * P1)) - (P0) * ((Q0 * P1 - Q1 * P0)))) - Q1) * P2 - ((apt (P0) (P1) (P2) ((P0) * ((Q2 * P0 - Q0 * P2)) - (P1) * ((Q1 * P2 - Q2 * P1)))) - Q2) * P1) (((apt (P0) (P1) (P2) ((P0) * ((Q2 * P0 - Q0 * P2)) - (P1) * ((Q1 * P2 - Q2 * P1)))) - Q2) * P0 - ((apt (P0) (P1) (P2) ((P1) * ((Q0 * P1 - Q1 * P0)) - (P2) * ((Q2 * P0 - Q0 * P2)))) - Q0) * P2) (((apt (P0) (P1) (P2) ((P1) * ((Q0 * P1 - Q1 * P0)) - (P2) * ((Q2 * P0 - Q0 * P2)))) - Q0) * P1 - ((apt (P0) (P1) (P2) ((P2) * ((Q1 * P2 - Q2 * P1)) - (P0) * ((Q0 * P1 - Q1 * P0)))) - Q1) * P0) 0 0 0 == (0 : Int))) (rvk (by kernel_rfl)) (show (!(vcmp (((apt (P0) (P1) (P2) ((P2) * ((Q1 * P2 - Q2 * P1)) - (P0) * ((Q0 * P1 - Q1 * P0)))) - Q1) * P2 - ((apt (P0) (P1) (P2) ((P0) * ((Q2 * P0 - Q0 * P2)) - (P1) * ((Q1 * P2 - Q2 * P1)))) - Q2) * P1) (((apt (P0) (P1) (P2) ((P0) * ((Q2 * P0 - Q0 * P2)) - (P1) * ((Q1 * P2 - Q2 * P1)))) - Q2) * P0 - ((apt (P0) (P1) (P2) ((P1) * ((Q0 * P1 - Q1 * P0)) - (P2) * ((Q2 * P0 - Q0 * P2)))) - Q0) * P2) (((apt (P0) (P1) (P2) ((P1) * ((Q0 * P1 - Q1 * P0)) - (P2) * ((Q2 * P0 - Q0 * P2)))) - Q0) * P1 - ((apt (P0) (P1) (P2) ((P2) * ((Q1 * P2 - Q2 * P1)) - (P0) * ((Q0 * P1 - Q1 * P0)))) - Q1) * P0) 0 0 0 == (0 : Int))) = false by rw [hb105]; rfl))) ?_
    simp only [p1, p2, p3, p4]
    refine ord_pureg (some 68) (.bool false) rfl rfl (by kernel_rfl) (fun w' hS => (rvk (by kernel_rfl))) ?_
    simp only [p1, p2, p3, p4]
    refine ord_pure (some 69) (.bool false) rfl rfl rfl (fun w' hS => (rvk (by kernel_rfl))) ?_
    simp only [p1, p2, p3, p4]
    refine ord_nil ?_
    refine k89 _ _ ?_
    try clear k89 K89
    refine wp_cond_false rfl ?_
    refine wp_skip ?_
    refine k80 _ _ ?_
    try clear k80 K80
    refine wp_seq_k (fun K106 k106 => ?_)
    refine wp_region ?_
    simp only [List.size_toArray, List.length_cons, List.length_nil, Nat.reduceAdd, List.range, List.range.loop]
    replace L3 := (st88.lc (L3.gr g86) ne3_86).gr (gd91.trans (g95.trans (g97.trans (g100.trans (g102.trans g104)))))
    refine sq_val (some 70) (.agg #[(.int .i8 (n0)), (.int .i8 (n1)), (.int .i8 (n2)), (.int .i8 (n3)), (.int .i8 (n4)), (.int .i8 (n5)), (.int .u8 (dd))]) rfl rfl (by kernel_rfl) (rv_load 25 _ b3 0 _ _ [(.int .i8 (n0)), (.int .i8 (n1)), (.int .i8 (n2)), (.int .i8 (n3)), (.int .i8 (n4)), (.int .i8 (n5)), (.int .u8 (dd))] rfl rfl L3 rfl (by kernel_rfl)) ?_
    simp only [p1, p2, p3, p4]
    refine sq_eff rfl (by kernel_rfl) (fun K107 k107 => ?_)
    refine eff_call (some 71) rfl (by kernel_rfl) (of_v (n0) (n1) (n2) (n3) (n4) (n5) (dd) (by omega) (by omega) (by omega) (by omega) (by omega) (by omega) (by omega) _) ?_
    rintro e108 w108 ⟨⟨t108_0, t108_1, t108_2, t108_3, t108_4, t108_5, t108_6, t108_7, t108_8, t108_9, t108_10, t108_11, t108_12, t108_13, t108_14, t108_15, t108_16, t108_17, t108_18, t108_19, t108_20, t108_21, t108_22, t108_23, rfl, h108a, h108b, h108c, h108d, h108e, h108f⟩, g108⟩
    refine ⟨_, rfl, ?_⟩
    replace hB := Gr.trans hB g108
    rw [← eA0] at h108a
    rw [← eA1] at h108b
    rw [← eA2] at h108c
    rw [← eA3] at h108d
    rw [← eA4] at h108e
    rw [← eA5] at h108f
    refine k107 _ _ ?_
    try clear k107 K107
    simp only [p1, p2, p3, p4]
    refine sq_eff rfl (by kernel_rfl) (fun K109 k109 => ?_)
    refine eff_alloc 35 (.agg #[(.bool false), (.slice none 0 0), (.bool false), (.slice none 0 0), (.bool false), (.slice none 0 0), (.bool false), (.slice none 0 0), (.bool false), (.slice none 0 0), (.bool false), (.slice none 0 0), (.bool false), (.slice none 0 0), (.bool false), (.slice none 0 0), (.bool false), (.slice none 0 0), (.bool false), (.slice none 0 0), (.bool false), (.slice none 0 0), (.bool false), (.slice none 0 0)]) #[(.bool false), (.slice none 0 0), (.bool false), (.slice none 0 0), (.bool false), (.slice none 0 0), (.bool false), (.slice none 0 0), (.bool false), (.slice none 0 0), (.bool false), (.slice none 0 0), (.bool false), (.slice none 0 0), (.bool false), (.slice none 0 0), (.bool false), (.slice none 0 0), (.bool false), (.slice none 0 0), (.bool false), (.slice none 0 0), (.bool false), (.slice none 0 0)] (some 12) rfl rfl (by kernel_rfl) rfl (fun b110 w110 g110 L110 q110 => ?_)
    replace L3 := L3.gr g108
    have ne3_110 := L3.ne q110
    replace L5 := (st88.lc (L5.gr g86) ne5_86).gr (gd91.trans (g95.trans (g97.trans (g100.trans (g102.trans (g104.trans g108))))))
    have ne5_110 := L5.ne q110
    replace L13 := L13.gr g108
    have ne13_110 := L13.ne q110
    replace L14 := L14.gr g108
    have ne14_110 := L14.ne q110
    replace L29 := (st88.lc (L29.gr g86) ne29_86).gr (gd91.trans (g95.trans (g97.trans (g100.trans (g102.trans (g104.trans g108))))))
    have ne29_110 := L29.ne q110
    replace L47 := (st88.lc (L47.gr g86) ne47_86).gr (gd91.trans (g95.trans (g97.trans (g100.trans (g102.trans (g104.trans g108))))))
    have ne47_110 := L47.ne q110
    replace L86 := L86.gr g108
    have ne86_110 := L86.ne q110
    replace q110 := Nat.le_trans (Below.size hB) q110
    replace hB := Gr.trans hB g110
    refine k109 _ _ ?_
    try clear k109 K109
    simp only [p1, p2, p3, p4]
    refine sq_eff rfl (by kernel_rfl) (fun K111 k111 => ?_)
    refine eff_store 35 _ _ b110 0 (.agg #[t108_0, t108_1, t108_2, t108_3, t108_4, t108_5, t108_6, t108_7, t108_8, t108_9, t108_10, t108_11, t108_12, t108_13, t108_14, t108_15, t108_16, t108_17, t108_18, t108_19, t108_20, t108_21, t108_22, t108_23]) [t108_0, t108_1, t108_2, t108_3, t108_4, t108_5, t108_6, t108_7, t108_8, t108_9, t108_10, t108_11, t108_12, t108_13, t108_14, t108_15, t108_16, t108_17, t108_18, t108_19, t108_20, t108_21, t108_22, t108_23] _ #[t108_0, t108_1, t108_2, t108_3, t108_4, t108_5, t108_6, t108_7, t108_8, t108_9, t108_10, t108_11, t108_12, t108_13, t108_14, t108_15, t108_16, t108_17, t108_18, t108_19, t108_20, t108_21, t108_22, t108_23] _ rfl rfl rfl rfl rfl L110 (by kernel_rfl) (Nat.le_of_ble_eq_true rfl) ⟨h108a.one0, h108a.one1, h108a.one2, h108a.one3, h108b.one0, h108b.one1, h108b.one2, h108b.one3, h108c.one0, h108c.one1, h108c.one2, h108c.one3, h108d.one0, h108d.one1, h108d.one2, h108d.one3, h108e.one0, h108e.one1, h108e.one2, h108e.one3, h108f.one0, h108f.one1, h108f.one2, h108f.one3, trivial⟩ (by kernel_rfl) (fun w112 st112 N112 => ?_)
    have kp112 := st112.kp L110 (by decide)
    replace hB := st112.gr hB q110
    replace L110 := N112
    refine k111 _ _ ?_
    try clear k111 K111
    refine sq_nil ?_
    refine k106 _ _ ?_
    try clear k106 K106
    refine wp_seq_k (fun K113 k113 => ?_)
    refine wp_region ?_
    simp only [List.size_toArray, List.length_cons, List.length_nil, Nat.reduceAdd, List.range, List.range.loop]
    refine sq_val (some 72) (.agg #[t108_0, t108_1, t108_2, t108_3, t108_4, t108_5, t108_6, t108_7, t108_8, t108_9, t108_10, t108_11, t108_12, t108_13, t108_14, t108_15, t108_16, t108_17, t108_18, t108_19, t108_20, t108_21, t108_22, t108_23]) rfl rfl (by kernel_rfl) (rv_load 35 _ b110 0 _ _ [t108_0, t108_1, t108_2, t108_3, t108_4, t108_5, t108_6, t108_7, t108_8, t108_9, t108_10, t108_11, t108_12, t108_13, t108_14, t108_15, t108_16, t108_17, t108_18, t108_19, t108_20, t108_21, t108_22, t108_23] rfl rfl L110 rfl (by kernel_rfl)) ?_
    simp only [p1, p2, p3, p4]
    refine sq_eff rfl (by kernel_rfl) (fun K114 k114 => ?_)
    have kq116 := g110.kp.trans kp112
    replace h108a := h108a.kp kq116
    replace h108b := h108b.kp kq116
    replace h108c := h108c.kp kq116
    replace h108d := h108d.kp kq116
    replace h108e := h108e.kp kq116
    replace h108f := h108f.kp kq116
    refine eff_call (some 73) rfl (by kernel_rfl) (axis_w h108a h108b h108c h108d h108e h108f (by omega)) ?_
    rintro e115 w115 ⟨⟨t115_0, t115_1, t115_2, t115_3, t115_4, t115_5, t115_6, t115_7, t115_8, t115_9, t115_10, t115_11, t115_12, t115_13, t115_14, t115_15, t115_16, t115_17, t115_18, t115_19, t115_20, t115_21, t115_22, t115_23, t115_24, t115_25, t115_26, t115_27, rfl, h115a, h115b, h115c, h115d, h115e, h115f, h115g⟩, g115⟩
    refine ⟨_, rfl, ?_⟩
    replace hB := Gr.trans hB g115
    refine k114 _ _ ?_
    try clear k114 K114
    simp only [p1, p2, p3, p4]
    refine sq_eff rfl (by kernel_rfl) (fun K117 k117 => ?_)
    refine eff_alloc 38 (.agg #[(.int .i64 0), (.bool false), (.slice none 0 0), (.bool false), (.slice none 0 0), (.bool false), (.slice none 0 0), (.bool false), (.slice none 0 0), (.bool false), (.slice none 0 0), (.bool false), (.slice none 0 0), (.bool false), (.slice none 0 0), (.bool false), (.slice none 0 0), (.bool false), (.slice none 0 0), (.bool false), (.slice none 0 0), (.bool false), (.slice none 0 0), (.bool false), (.slice none 0 0), (.bool false), (.slice none 0 0), (.bool false), (.slice none 0 0)]) #[(.int .i64 0), (.bool false), (.slice none 0 0), (.bool false), (.slice none 0 0), (.bool false), (.slice none 0 0), (.bool false), (.slice none 0 0), (.bool false), (.slice none 0 0), (.bool false), (.slice none 0 0), (.bool false), (.slice none 0 0), (.bool false), (.slice none 0 0), (.bool false), (.slice none 0 0), (.bool false), (.slice none 0 0), (.bool false), (.slice none 0 0), (.bool false), (.slice none 0 0), (.bool false), (.slice none 0 0), (.bool false), (.slice none 0 0)] (some 13) rfl rfl (by kernel_rfl) rfl (fun b118 w118 g118 L118 q118 => ?_)
    replace L3 := (st112.lc (L3.gr g110) ne3_110).gr g115
    have ne3_118 := L3.ne q118
    replace L5 := (st112.lc (L5.gr g110) ne5_110).gr g115
    have ne5_118 := L5.ne q118
    replace L13 := (st112.lc (L13.gr g110) ne13_110).gr g115
    have ne13_118 := L13.ne q118
    replace L14 := (st112.lc (L14.gr g110) ne14_110).gr g115
    have ne14_118 := L14.ne q118
    replace L29 := (st112.lc (L29.gr g110) ne29_110).gr g115
    have ne29_118 := L29.ne q118
    replace L47 := (st112.lc (L47.gr g110) ne47_110).gr g115
    have ne47_118 := L47.ne q118
    replace L86 := (st112.lc (L86.gr g110) ne86_110).gr g115
    have ne86_118 := L86.ne q118
    replace L110 := L110.gr g115
    have ne110_118 := L110.ne q118
    replace q118 := Nat.le_trans (Below.size hB) q118
    replace hB := Gr.trans hB g118
    refine k117 _ _ ?_
    try clear k117 K117
    simp only [p1, p2, p3, p4]
    refine sq_eff rfl (by kernel_rfl) (fun K119 k119 => ?_)
    refine eff_store 38 _ _ b118 0 (.agg #[(.int .i64 ((akind (A0) (A1) (A2) (A3) (A4) (A5)))), t115_0, t115_1, t115_2, t115_3, t115_4, t115_5, t115_6, t115_7, t115_8, t115_9, t115_10, t115_11, t115_12, t115_13, t115_14, t115_15, t115_16, t115_17, t115_18, t115_19, t115_20, t115_21, t115_22, t115_23, t115_24, t115_25, t115_26, t115_27]) [(.int .i64 ((akind (A0) (A1) (A2) (A3) (A4) (A5)))), t115_0, t115_1, t115_2, t115_3, t115_4, t115_5, t115_6, t115_7, t115_8, t115_9, t115_10, t115_11, t115_12, t115_13, t115_14, t115_15, t115_16, t115_17, t115_18, t115_19, t115_20, t115_21, t115_22, t115_23, t115_24, t115_25, t115_26, t115_27] _ #[(.int .i64 ((akind (A0) (A1) (A2) (A3) (A4) (A5)))), t115_0, t115_1, t115_2, t115_3, t115_4, t115_5, t115_6, t115_7, t115_8, t115_9, t115_10, t115_11, t115_12, t115_13, t115_14, t115_15, t115_16, t115_17, t115_18, t115_19, t115_20, t115_21, t115_22, t115_23, t115_24, t115_25, t115_26, t115_27] _ rfl rfl rfl rfl rfl L118 (by kernel_rfl) (Nat.le_of_ble_eq_true rfl) ⟨rfl, h115a.one0, h115a.one1, h115a.one2, h115a.one3, h115b.one0, h115b.one1, h115b.one2, h115b.one3, h115c.one0, h115c.one1, h115c.one2, h115c.one3, h115d.one0, h115d.one1, h115d.one2, h115d.one3, h115e.one0, h115e.one1, h115e.one2, h115e.one3, h115f.one0, h115f.one1, h115f.one2, h115f.one3, h115g.one0, h115g.one1, h115g.one2, h115g.one3, trivial⟩ (by kernel_rfl) (fun w120 st120 N120 => ?_)
    have kp120 := st120.kp L118 (by decide)
    replace hB := st120.gr hB q118
    replace L118 := N120
    refine k119 _ _ ?_
    try clear k119 K119
    refine sq_nil ?_
    refine k113 _ _ ?_
    try clear k113 K113
    refine wp_seq_k (fun K121 k121 => ?_)
    refine wp_seq_k (fun K122 k122 => ?_)
    refine wp_region ?_
    simp only [List.size_toArray, List.length_cons, List.length_nil, Nat.reduceAdd, List.range, List.range.loop]
    refine sq_val (some 74) (.pointer (some ⟨b118, 0, none⟩)) rfl rfl (by kernel_rfl) (rvk (by kernel_rfl)) ?_
    simp only [p1, p2, p3, p4]
    refine sq_val (some 75) (.int .i64 ((akind (A0) (A1) (A2) (A3) (A4) (A5)))) rfl rfl (by kernel_rfl) (rv_load1 3 _ b118 0 _ _ (.int .i64 ((akind (A0) (A1) (A2) (A3) (A4) (A5)))) rfl rfl L118 rfl (by kernel_rfl)) ?_
    simp only [p1, p2, p3, p4]
    refine sq_val (some 76) (.bool (((akind (A0) (A1) (A2) (A3) (A4) (A5)) != (2 : Int)))) rfl rfl (by kernel_rfl) (rvk (by kernel_rfl)) ?_
    simp only [p1, p2, p3, p4]
    rcases Bool.eq_false_or_eq_true (((akind (A0) (A1) (A2) (A3) (A4) (A5)) != (2 : Int))) with hb123 | hb123
    · refine sq_val (some 77) (.bool true) rfl rfl (by kernel_rfl) (RunV.bool (x := ((akind (A0) (A1) (A2) (A3) (A4) (A5)) != (2 : Int))) (rvk (by kernel_rfl)) hb123) ?_
      simp only [p1, p2, p3, p4]
      refine sq_val (some 78) (.pointer (some ⟨b118, 0, none⟩)) rfl rfl (by kernel_rfl) (rvk (by kernel_rfl)) ?_
      simp only [p1, p2, p3, p4]
      refine sq_val (some 79) (.int .i64 ((akind (A0) (A1) (A2) (A3) (A4) (A5)))) rfl rfl (by kernel_rfl) (rv_load1 3 _ b118 0 _ _ (.int .i64 ((akind (A0) (A1) (A2) (A3) (A4) (A5)))) rfl rfl L118 rfl (by kernel_rfl)) ?_
      simp only [p1, p2, p3, p4]
      refine sq_val (some 80) (.bool (((akind (A0) (A1) (A2) (A3) (A4) (A5)) != (3 : Int)))) rfl rfl (by kernel_rfl) (rvk (by kernel_rfl)) ?_
      simp only [p1, p2, p3, p4]
      refine sq_val (some 81) (.bool (((akind (A0) (A1) (A2) (A3) (A4) (A5)) != (3 : Int)))) rfl rfl (by kernel_rfl) (rvk (by kernel_rfl)) ?_
      simp only [p1, p2, p3, p4]
      refine sq_nil ?_
      refine k122 _ _ ?_
      try clear k122 K122
      refine wp_cond_split (t := ((akind (A0) (A1) (A2) (A3) (A4) (A5)) != (3 : Int))) rfl (fun hb124 => ?_) (fun hb124 => ?_)
      · refine wp_seq_k (fun K125 k125 => ?_)
        refine wp_region ?_
        simp only [List.size_toArray, List.length_cons, List.length_nil, Nat.reduceAdd, List.range, List.range.loop]
        refine sq_val (some 6) (.bool true) rfl rfl (by kernel_rfl) (rvk (by kernel_rfl)) ?_
        simp only [p1, p2, p3, p4]
        refine sq_nil ?_
        refine k125 _ _ ?_
        try clear k125 K125
        refine wp_ret ?_
        simp only [Exit.then]
        refine bodyPost_ret (v := (.bool true)) (ret_tmp rfl rfl) rfl ⟨?_, hB⟩
        exact rfl
      · have hA := akind_3 hb124
        refine wp_skip ?_
        refine k121 _ _ ?_
        try clear k121 K121
        refine wp_seq_k (fun K126 k126 => ?_)
        have hz127 := Below.size hB
        replace L3 := st120.lc (L3.gr g118) ne3_118
        have lt3_127 := L3.lt
        replace L5 := st120.lc (L5.gr g118) ne5_118
        have lt5_127 := L5.lt
        replace L13 := st120.lc (L13.gr g118) ne13_118
        have lt13_127 := L13.lt
        replace L14 := st120.lc (L14.gr g118) ne14_118
        have lt14_127 := L14.lt
        replace L29 := st120.lc (L29.gr g118) ne29_118
        have lt29_127 := L29.lt
        replace L47 := st120.lc (L47.gr g118) ne47_118
        have lt47_127 := L47.lt
        replace L86 := st120.lc (L86.gr g118) ne86_118
        have lt86_127 := L86.lt
        replace L110 := st120.lc (L110.gr g118) ne110_118
        have lt110_127 := L110.lt
        have lt118_127 := L118.lt
        have gd127 := Gr.drew w120
        replace hB := Gr.trans hB gd127
        replace L118 := L118.gr gd127
        refine wp_region_flo (fun w' => Lc w' b118 #[(.int .i64 ((akind (A0) (A1) (A2) (A3) (A4) (A5)))), t115_0, t115_1, t115_2, t115_3, t115_4, t115_5, t115_6, t115_7, t115_8, t115_9, t115_10, t115_11, t115_12, t115_13, t115_14, t115_15, t115_16, t115_17, t115_18, t115_19, t115_20, t115_21, t115_22, t115_23, t115_24, t115_25, t115_26, t115_27] 38) [(true, 0), (true, 1), (true, 2), (true, 3), (true, 4), (true, 5), (false, 6), (false, 7), (false, 8)] [⟨9, 14, 33, #[(.bool false), (.slice none 0 0), (.bool false), (.slice none 0 0), (.bool false), (.slice none 0 0), (.bool false), (.slice none 0 0), (.bool false), (.slice none 0 0), (.bool false), (.slice none 0 0)]⟩] [(false, 10)] (by kernel_rfl) (by kernel_rfl) (by kernel_rfl) (by kernel_rfl) (by kernel_rfl) (by decide) (fun _ _ _ _ _ h => h) (fun _ _ _ _ _ h => h) (fun w' o h => Lc.gr h (Gr.alloc w' o)) L118 (by intro f hf; simp only [List.mem_cons, List.not_mem_nil, or_false] at hf; rcases hf with rfl <;> first | exact alloc_zero (z := (.agg #[(.bool false), (.slice none 0 0), (.bool false), (.slice none 0 0), (.bool false), (.slice none 0 0), (.bool false), (.slice none 0 0), (.bool false), (.slice none 0 0), (.bool false), (.slice none 0 0)])) (by kernel_rfl) rfl) ?_
        refine flo_pure (some 82) (.pointer (some ⟨b118, 13, none⟩)) rfl rfl rfl (fun w' hS => (rvk (by kernel_rfl))) ?_
        simp only [p1, p2, p3, p4]
        refine flo_pure (some 83) (.agg #[t115_12, t115_13, t115_14, t115_15, t115_16, t115_17, t115_18, t115_19, t115_20, t115_21, t115_22, t115_23]) rfl rfl rfl (fun w' hS => (rv_load 33 _ b118 13 _ _ [t115_12, t115_13, t115_14, t115_15, t115_16, t115_17, t115_18, t115_19, t115_20, t115_21, t115_22, t115_23] rfl rfl hS rfl (by kernel_rfl))) ?_
        simp only [p1, p2, p3, p4]
        refine flo_pure (some 84) (.pointer (some ⟨b118, 1, none⟩)) rfl rfl rfl (fun w' hS => (rvk (by kernel_rfl))) ?_
        simp only [p1, p2, p3, p4]
        refine flo_pure (some 85) (.agg #[t115_0, t115_1, t115_2, t115_3, t115_4, t115_5, t115_6, t115_7, t115_8, t115_9, t115_10, t115_11]) rfl rfl rfl (fun w' hS => (rv_load 33 _ b118 1 _ _ [t115_0, t115_1, t115_2, t115_3, t115_4, t115_5, t115_6, t115_7, t115_8, t115_9, t115_10, t115_11] rfl rfl hS rfl (by kernel_rfl))) ?_
        simp only [p1, p2, p3, p4]
        refine flo_pure (some 86) (.int .i8 (ff)) rfl rfl rfl (fun w' hS => (rvk (by kernel_rfl))) ?_
        simp only [p1, p2, p3, p4]
        refine flo_pure (some 87) (.int .i64 (ff)) rfl rfl rfl (fun w' hS => (RunV.int (x := IntKind.i64.wrap (ff)) (y := ff) (rvk (by kernel_rfl)) (by first | rfl | (rw [IntKind.wrap_i64]; omega)))) ?_
        simp only [p1, p2, p3, p4]
        refine flo_eff rfl rfl (fun w128 g128 _ K128 k128 => ?_)
        replace hB := Gr.trans hB g128
        refine eff_call (some 88) rfl (by kernel_rfl) (from_r (ff) (by omega) (by omega) _) ?_
        rintro e129 w129 ⟨⟨p129, q129, r129, s129, rfl, h129⟩, g129⟩
        refine ⟨_, rfl, ?_⟩
        replace hB := Gr.trans hB g129
        rw [← eFF] at h129
        replace L118 := L118.gr (g128.trans g129)
        refine k128 _ _ g129 L118 ?_
        try clear k128 K128
        simp only [p1, p2, p3, p4]
        refine flo_eff rfl rfl (fun w130 g130 _ K130 k130 => ?_)
        replace hB := Gr.trans hB g130
        have kq132 := g118.kp.trans (kp120.trans (gd127.kp.trans (g128.kp.trans (g129.kp.trans g130.kp))))
        replace h115a := h115a.kp kq132
        replace h115b := h115b.kp kq132
        replace h115c := h115c.kp kq132
        replace h129 := h129.kp g130.kp
        refine eff_call (some 89) rfl (by kernel_rfl) (vscale_v h115a h115b h115c h129 (by omega)) ?_
        rintro e131 w131 ⟨⟨t131_0, t131_1, t131_2, t131_3, t131_4, t131_5, t131_6, t131_7, t131_8, t131_9, t131_10, t131_11, rfl, h131a, h131b, h131c⟩, g131⟩
        refine ⟨_, rfl, ?_⟩
        replace hB := Gr.trans hB g131
        replace L118 := L118.gr (g130.trans g131)
        refine k130 _ _ g131 L118 ?_
        try clear k130 K130
        simp only [p1, p2, p3, p4]
        refine flo_eff rfl rfl (fun w133 g133 _ K133 k133 => ?_)
        replace hB := Gr.trans hB g133
        have kq135 := g118.kp.trans (kp120.trans (gd127.kp.trans (g128.kp.trans (g129.kp.trans (g130.kp.trans (g131.kp.trans g133.kp))))))
        replace h115d := h115d.kp kq135
        replace h115e := h115e.kp kq135
        replace h115f := h115f.kp kq135
        replace h131a := h131a.kp g133.kp
        replace h131b := h131b.kp g133.kp
        replace h131c := h131c.kp g133.kp
        refine eff_call (some 90) rfl (by kernel_rfl) (vadd_v h115d h115e h115f h131a h131b h131c (by omega)) ?_
        rintro e134 w134 ⟨⟨t134_0, t134_1, t134_2, t134_3, t134_4, t134_5, t134_6, t134_7, t134_8, t134_9, t134_10, t134_11, rfl, h134a, h134b, h134c⟩, g134⟩
        refine ⟨_, rfl, ?_⟩
        replace hB := Gr.trans hB g134
        replace L118 := L118.gr (g133.trans g134)
        refine k133 _ _ g134 L118 ?_
        try clear k133 K133
        simp only [p1, p2, p3, p4]
        refine flo_nil (fun w136 g136 _ => ?_)
        replace hB := Gr.trans hB g136
        refine floFin1 (fun b137 (L137 : Lc w136 b137 #[(.bool false), (.slice none 0 0), (.bool false), (.slice none 0 0), (.bool false), (.slice none 0 0), (.bool false), (.slice none 0 0), (.bool false), (.slice none 0 0), (.bool false), (.slice none 0 0)] 33) q137  => ?_)
        have ne3_137 : b3 ≠ b137 := Nat.ne_of_lt (Nat.lt_of_lt_of_le lt3_127 q137)
        have ne5_137 : b5 ≠ b137 := Nat.ne_of_lt (Nat.lt_of_lt_of_le lt5_127 q137)
        have ne13_137 : b13 ≠ b137 := Nat.ne_of_lt (Nat.lt_of_lt_of_le lt13_127 q137)
        have ne14_137 : b14 ≠ b137 := Nat.ne_of_lt (Nat.lt_of_lt_of_le lt14_127 q137)
        have ne29_137 : b29 ≠ b137 := Nat.ne_of_lt (Nat.lt_of_lt_of_le lt29_127 q137)
        have ne47_137 : b47 ≠ b137 := Nat.ne_of_lt (Nat.lt_of_lt_of_le lt47_127 q137)
        have ne86_137 : b86 ≠ b137 := Nat.ne_of_lt (Nat.lt_of_lt_of_le lt86_127 q137)
        have ne110_137 : b110 ≠ b137 := Nat.ne_of_lt (Nat.lt_of_lt_of_le lt110_127 q137)
        have ne118_137 : b118 ≠ b137 := Nat.ne_of_lt (Nat.lt_of_lt_of_le lt118_127 q137)
        replace q137 := Nat.le_trans hz127 q137
        simp only [p1, p2, p3, p4]
        refine ord_eff rfl rfl (fun K138 k138 => ?_)
        refine eff_store 33 _ _ b137 0 (.agg #[t134_0, t134_1, t134_2, t134_3, t134_4, t134_5, t134_6, t134_7, t134_8, t134_9, t134_10, t134_11]) [t134_0, t134_1, t134_2, t134_3, t134_4, t134_5, t134_6, t134_7, t134_8, t134_9, t134_10, t134_11] _ #[t134_0, t134_1, t134_2, t134_3, t134_4, t134_5, t134_6, t134_7, t134_8, t134_9, t134_10, t134_11] _ rfl rfl rfl rfl rfl L137 (by kernel_rfl) (Nat.le_of_ble_eq_true rfl) ⟨h134a.one0, h134a.one1, h134a.one2, h134a.one3, h134b.one0, h134b.one1, h134b.one2, h134b.one3, h134c.one0, h134c.one1, h134c.one2, h134c.one3, trivial⟩ (by kernel_rfl) (fun w139 st139 N139 => ?_)
        have kp139 := st139.kp L137 (by decide)
        replace hB := st139.gr hB q137
        replace L137 := N139
        replace L118 := st139.lc (L118.gr g136) ne118_137
        refine k138 _ _ L118 ?_
        try clear k138 K138
        refine ord_nil ?_
        refine k126 _ _ ?_
        try clear k126 K126
        refine wp_seq_k (fun K140 k140 => ?_)
        have gd159 := Gr.drew w139
        replace hB := Gr.trans hB gd159
        replace L110 := (st139.lc (L110.gr (gd127.trans (g128.trans (g129.trans (g130.trans (g131.trans (g133.trans (g134.trans g136)))))))) ne110_137).gr gd159
        replace L118 := L118.gr gd159
        replace L137 := L137.gr gd159
        refine wp_region_ord (fun w' => Lc w' b110 #[t108_0, t108_1, t108_2, t108_3, t108_4, t108_5, t108_6, t108_7, t108_8, t108_9, t108_10, t108_11, t108_12, t108_13, t108_14, t108_15, t108_16, t108_17, t108_18, t108_19, t108_20, t108_21, t108_22, t108_23] 35 ∧ Lc w' b118 #[(.int .i64 ((akind (A0) (A1) (A2) (A3) (A4) (A5)))), t115_0, t115_1, t115_2, t115_3, t115_4, t115_5, t115_6, t115_7, t115_8, t115_9, t115_10, t115_11, t115_12, t115_13, t115_14, t115_15, t115_16, t115_17, t115_18, t115_19, t115_20, t115_21, t115_22, t115_23, t115_24, t115_25, t115_26, t115_27] 38 ∧ Lc w' b137 #[t134_0, t134_1, t134_2, t134_3, t134_4, t134_5, t134_6, t134_7, t134_8, t134_9, t134_10, t134_11] 33) [(true, 0), (true, 1), (true, 3), (true, 4), (true, 5), (true, 6), (false, 2), (false, 7), (false, 8), (true, 9), (true, 10), (true, 11), (true, 12), (true, 13), (false, 14), (false, 15), (true, 16), (true, 17), (true, 18)] (by kernel_rfl) (by kernel_rfl) (by kernel_rfl) (by decide) (fun _ _ _ _ _ h => h) ⟨L110, L118, L137⟩ ?_
        refine ord_pure (some 91) (.agg #[t108_0, t108_1, t108_2, t108_3, t108_4, t108_5, t108_6, t108_7, t108_8, t108_9, t108_10, t108_11, t108_12, t108_13, t108_14, t108_15, t108_16, t108_17, t108_18, t108_19, t108_20, t108_21, t108_22, t108_23]) rfl rfl rfl (fun w' hS => (rv_load 35 _ b110 0 _ _ [t108_0, t108_1, t108_2, t108_3, t108_4, t108_5, t108_6, t108_7, t108_8, t108_9, t108_10, t108_11, t108_12, t108_13, t108_14, t108_15, t108_16, t108_17, t108_18, t108_19, t108_20, t108_21, t108_22, t108_23] rfl rfl hS.1 rfl (by kernel_rfl))) ?_
        simp only [p1, p2, p3, p4]
        refine ord_pure (some 92) (.agg #[t134_0, t134_1, t134_2, t134_3, t134_4, t134_5, t134_6, t134_7, t134_8, t134_9, t134_10, t134_11]) rfl rfl rfl (fun w' hS => (rv_load 33 _ b137 0 _ _ [t134_0, t134_1, t134_2, t134_3, t134_4, t134_5, t134_6, t134_7, t134_8, t134_9, t134_10, t134_11] rfl rfl hS.2.2 rfl (by kernel_rfl))) ?_
        simp only [p1, p2, p3, p4]
        refine ord_pure (some 94) (.pointer (some ⟨b110, 0, none⟩)) rfl rfl rfl (fun w' hS => (rvk (by kernel_rfl))) ?_
        simp only [p1, p2, p3, p4]
        refine ord_pure (some 95) (.agg #[t108_0, t108_1, t108_2, t108_3, t108_4, t108_5, t108_6, t108_7, t108_8, t108_9, t108_10, t108_11]) rfl rfl rfl (fun w' hS => (rv_load 33 _ b110 0 _ _ [t108_0, t108_1, t108_2, t108_3, t108_4, t108_5, t108_6, t108_7, t108_8, t108_9, t108_10, t108_11] rfl rfl hS.1 rfl (by kernel_rfl))) ?_
        simp only [p1, p2, p3, p4]
        refine ord_pure (some 96) (.pointer (some ⟨b118, 25, none⟩)) rfl rfl rfl (fun w' hS => (rvk (by kernel_rfl))) ?_
        simp only [p1, p2, p3, p4]
        refine ord_pure (some 97) (.agg #[t115_24, t115_25, t115_26, t115_27]) rfl rfl rfl (fun w' hS => (rv_load 31 _ b118 25 _ _ [t115_24, t115_25, t115_26, t115_27] rfl rfl hS.2.1 rfl (by kernel_rfl))) ?_
        simp only [p1, p2, p3, p4]
        refine ord_eff rfl rfl (fun K160 k160 => ?_)
        have kq162 := g115.kp.trans (g118.kp.trans (kp120.trans (gd127.kp.trans (g128.kp.trans (g129.kp.trans (g130.kp.trans (g131.kp.trans (g133.kp.trans (g134.kp.trans (g136.kp.trans (kp139.trans gd159.kp)))))))))))
        replace h108a := h108a.kp kq162
        replace h108b := h108b.kp kq162
        replace h108c := h108c.kp kq162
        replace h108d := h108d.kp kq162
        replace h108e := h108e.kp kq162
        replace h108f := h108f.kp kq162
        have kq163 := g136.kp.trans (kp139.trans gd159.kp)
        replace h134a := h134a.kp kq163
        replace h134b := h134b.kp kq163
        replace h134c := h134c.kp kq163
        refine eff_call (some 93) rfl (by kernel_rfl) (tvel_v h108a h108b h108c h108d h108e h108f h134a h134b h134c (by omega)) ?_
        rintro e161 w161 ⟨⟨t161_0, t161_1, t161_2, t161_3, t161_4, t161_5, t161_6, t161_7, t161_8, t161_9, t161_10, t161_11, rfl, h161a, h161b, h161c⟩, g161⟩
        refine ⟨_, rfl, ?_⟩
        replace hB := Gr.trans hB g161
        replace L110 := L110.gr g161
        replace L118 := L118.gr g161
        replace L137 := L137.gr g161
        refine k160 _ _ ⟨L110, L118, L137⟩ ?_
        try clear k160 K160
        simp only [p1, p2, p3, p4]
        refine ord_eff rfl rfl (fun K164 k164 => ?_)
        replace h108a := h108a.kp g161.kp
        replace h108b := h108b.kp g161.kp
        replace h108c := h108c.kp g161.kp
        have kq166 := g118.kp.trans (kp120.trans (gd127.kp.trans (g128.kp.trans (g129.kp.trans (g130.kp.trans (g131.kp.trans (g133.kp.trans (g134.kp.trans (g136.kp.trans (kp139.trans (gd159.kp.trans g161.kp)))))))))))
        replace h115g := h115g.kp kq166
        refine eff_call (some 98) rfl (by kernel_rfl) (vscale_v h108a h108b h108c h115g (by omega)) ?_
        rintro e165 w165 ⟨⟨t165_0, t165_1, t165_2, t165_3, t165_4, t165_5, t165_6, t165_7, t165_8, t165_9, t165_10, t165_11, rfl, h165a, h165b, h165c⟩, g165⟩
        refine ⟨_, rfl, ?_⟩
        replace hB := Gr.trans hB g165
        replace L110 := L110.gr g165
        replace L118 := L118.gr g165
        replace L137 := L137.gr g165
        refine k164 _ _ ⟨L110, L118, L137⟩ ?_
        try clear k164 K164
        simp only [p1, p2, p3, p4]
        refine ord_eff rfl rfl (fun K167 k167 => ?_)
        replace h161a := h161a.kp g165.kp
        replace h161b := h161b.kp g165.kp
        replace h161c := h161c.kp g165.kp
        refine eff_call (some 99) rfl (by kernel_rfl) (vequal_v h161a h161b h161c h165a h165b h165c (by omega)) ?_
        rintro e168 w168 ⟨rfl, g168⟩
        refine ⟨_, rfl, ?_⟩
        replace hB := Gr.trans hB g168
        replace L110 := L110.gr g168
        replace L118 := L118.gr g168
        replace L137 := L137.gr g168
        refine k167 _ _ ⟨L110, L118, L137⟩ ?_
        try clear k167 K167
        simp only [p1, p2, p3, p4]
        have hb169 : (vcmp (A3 + (A1 * ((apt (A0) (A1) (A2) ((A0) * (A4) - (A1) * (A3))) + (FF * (adir (A0) (A1) (A2) (A3) (A4) (A5) (A2) (A5)))) - A2 * ((apt (A0) (A1) (A2) ((A2) * (A3) - (A0) * (A5))) + (FF * (adir (A0) (A1) (A2) (A3) (A4) (A5) (A1) (A4)))))) (A4 + (A2 * ((apt (A0) (A1) (A2) ((A1) * (A5) - (A2) * (A4))) + (FF * (adir (A0) (A1) (A2) (A3) (A4) (A5) (A0) (A3)))) - A0 * ((apt (A0) (A1) (A2) ((A0) * (A4) - (A1) * (A3))) + (FF * (adir (A0) (A1) (A2) (A3) (A4) (A5) (A2) (A5)))))) (A5 + (A0 * ((apt (A0) (A1) (A2) ((A2) * (A3) - (A0) * (A5))) + (FF * (adir (A0) (A1) (A2) (A3) (A4) (A5) (A1) (A4)))) - A1 * ((apt (A0) (A1) (A2) ((A1) * (A5) - (A2) * (A4))) + (FF * (adir (A0) (A1) (A2) (A3) (A4) (A5) (A0) (A3)))))) ((apit (A0) (A1) (A2) (A3) (A4) (A5)) * A0) ((apit (A0) (A1) (A2) (A3) (A4) (A5)) * A1) ((apit (A0) (A1) (A2) (A3) (A4) (A5)) * A2) == (0 : Int)) = true := (lawTu4 A0 A1 A2 A3 A4 A5 FF hA)
        refine ord_pure (some 100) (.bool true) rfl rfl rfl (fun w' hS => (RunV.bool (x := vcmp (A3 + (A1 * ((apt (A0) (A1) (A2) ((A0) * (A4) - (A1) * (A3))) + (FF * (adir (A0) (A1) (A2) (A3) (A4) (A5) (A2) (A5)))) - A2 * ((apt (A0) (A1) (A2) ((A2) * (A3) - (A0) * (A5))) + (FF * (adir (A0) (A1) (A2) (A3) (A4) (A5) (A1) (A4)))))) (A4 + (A2 * ((apt (A0) (A1) (A2) ((A1) * (A5) - (A2) * (A4))) + (FF * (adir (A0) (A1) (A2) (A3) (A4) (A5) (A0) (A3)))) - A0 * ((apt (A0) (A1) (A2) ((A0) * (A4) - (A1) * (A3))) + (FF * (adir (A0) (A1) (A2) (A3) (A4) (A5) (A2) (A5)))))) (A5 + (A0 * ((apt (A0) (A1) (A2) ((A2) * (A3) - (A0) * (A5))) + (FF * (adir (A0) (A1) (A2) (A3) (A4) (A5) (A1) (A4)))) - A1 * ((apt (A0) (A1) (A2) ((A1) * (A5) - (A2) * (A4))) + (FF * (adir (A0) (A1) (A2) (A3) (A4) (A5) (A0) (A3)))))) ((apit (A0) (A1) (A2) (A3) (A4) (A5)) * A0) ((apit (A0) (A1) (A2) (A3) (A4) (A5)) * A1) ((apit (A0) (A1) (A2) (A3) (A4) (A5)) * A2) == (0 : Int)) (rvk (by kernel_rfl)) hb169)) ?_
        simp only [p1, p2, p3, p4]
        refine ord_pureg (some 101) (.pointer (some ⟨b118, 13, none⟩)) rfl rfl (by kernel_rfl) (fun w' hS => (rvk (by kernel_rfl))) ?_
        simp only [p1, p2, p3, p4]
        refine ord_pureg (some 102) (.agg #[t115_12, t115_13, t115_14, t115_15, t115_16, t115_17, t115_18, t115_19, t115_20, t115_21, t115_22, t115_23]) rfl rfl (by kernel_rfl) (fun w' hS => (rv_load 33 _ b118 13 _ _ [t115_12, t115_13, t115_14, t115_15, t115_16, t115_17, t115_18, t115_19, t115_20, t115_21, t115_22, t115_23] rfl rfl hS.2.1 rfl (by kernel_rfl))) ?_
        simp only [p1, p2, p3, p4]
        refine ord_pureg (some 103) (.pointer (some ⟨b118, 1, none⟩)) rfl rfl (by kernel_rfl) (fun w' hS => (rvk (by kernel_rfl))) ?_
        simp only [p1, p2, p3, p4]
        refine ord_pureg (some 104) (.agg #[t115_0, t115_1, t115_2, t115_3, t115_4, t115_5, t115_6, t115_7, t115_8, t115_9, t115_10, t115_11]) rfl rfl (by kernel_rfl) (fun w' hS => (rv_load 33 _ b118 1 _ _ [t115_0, t115_1, t115_2, t115_3, t115_4, t115_5, t115_6, t115_7, t115_8, t115_9, t115_10, t115_11] rfl rfl hS.2.1 rfl (by kernel_rfl))) ?_
        simp only [p1, p2, p3, p4]
        refine ord_effg rfl (by kernel_rfl) (fun K170 k170 => ?_)
        have kq172 := g134.kp.trans (g136.kp.trans (kp139.trans (gd159.kp.trans (g161.kp.trans (g165.kp.trans g168.kp)))))
        replace h115d := h115d.kp kq172
        replace h115e := h115e.kp kq172
        replace h115f := h115f.kp kq172
        have kq173 := g131.kp.trans (g133.kp.trans (g134.kp.trans (g136.kp.trans (kp139.trans (gd159.kp.trans (g161.kp.trans (g165.kp.trans g168.kp)))))))
        replace h115a := h115a.kp kq173
        replace h115b := h115b.kp kq173
        replace h115c := h115c.kp kq173
        refine eff_call (some 105) rfl (by kernel_rfl) (dot_v h115d h115e h115f h115a h115b h115c (by omega)) ?_
        rintro e171 w171 ⟨⟨p171, q171, r171, s171, rfl, h171⟩, g171⟩
        refine ⟨_, rfl, ?_⟩
        replace hB := Gr.trans hB g171
        replace L110 := L110.gr g171
        replace L118 := L118.gr g171
        replace L137 := L137.gr g171
        refine k170 _ _ ⟨L110, L118, L137⟩ ?_
        try clear k170 K170
        simp only [p1, p2, p3, p4]
        refine ord_effg rfl (by kernel_rfl) (fun K174 k174 => ?_)
        refine eff_call (some 106) rfl (by kernel_rfl) (sign_r h171) ?_
        rintro e175 w175 ⟨rfl, g175⟩
        refine ⟨_, rfl, ?_⟩
        replace hB := Gr.trans hB g175
        replace L110 := L110.gr g175
        replace L118 := L118.gr g175
        replace L137 := L137.gr g175
        refine k174 _ _ ⟨L110, L118, L137⟩ ?_
        try clear k174 K174
        simp only [p1, p2, p3, p4]
        have hb176 : ((sgn ((0 + (apt (A0) (A1) (A2) ((A1) * (A5) - (A2) * (A4))) * (adir (A0) (A1) (A2) (A3) (A4) (A5) (A0) (A3)) + (apt (A0) (A1) (A2) ((A2) * (A3) - (A0) * (A5))) * (adir (A0) (A1) (A2) (A3) (A4) (A5) (A1) (A4)) + (apt (A0) (A1) (A2) ((A0) * (A4) - (A1) * (A3))) * (adir (A0) (A1) (A2) (A3) (A4) (A5) (A2) (A5)))).num == (0 : Int))) = true := (lawTu5 A0 A1 A2 A3 A4 A5 hA)
        refine ord_pureg (some 107) (.bool true) rfl rfl (by kernel_rfl) (fun w' hS => (RunV.bool (x := (sgn ((0 + (apt (A0) (A1) (A2) ((A1) * (A5) - (A2) * (A4))) * (adir (A0) (A1) (A2) (A3) (A4) (A5) (A0) (A3)) + (apt (A0) (A1) (A2) ((A2) * (A3) - (A0) * (A5))) * (adir (A0) (A1) (A2) (A3) (A4) (A5) (A1) (A4)) + (apt (A0) (A1) (A2) ((A0) * (A4) - (A1) * (A3))) * (adir (A0) (A1) (A2) (A3) (A4) (A5) (A2) (A5)))).num == (0 : Int))) (rvk (by kernel_rfl)) hb176)) ?_
        simp only [p1, p2, p3, p4]
        refine ord_pure (some 108) (.bool true) rfl rfl rfl (fun w' hS => (rvk (by kernel_rfl))) ?_
        simp only [p1, p2, p3, p4]
        refine ord_pure (some 6) (.bool true) rfl rfl rfl (fun w' hS => (rvk (by kernel_rfl))) ?_
        simp only [p1, p2, p3, p4]
        refine ord_nil ?_
        refine k140 _ _ ?_
        try clear k140 K140
        refine wp_ret ?_
        refine bodyPost_ret (v := (.bool true)) (ret_tmp rfl rfl) rfl ⟨?_, hB⟩
        exact rfl
    · have hA := akind_2 hb123
      refine sq_val (some 77) (.bool false) rfl rfl (by kernel_rfl) (RunV.bool (x := ((akind (A0) (A1) (A2) (A3) (A4) (A5)) != (2 : Int))) (rvk (by kernel_rfl)) hb123) ?_
      simp only [p1, p2, p3, p4]
      refine sq_skip (some 78) rfl rfl (by kernel_rfl) ?_
      simp only [p1, p2, p3, p4]
      refine sq_skip (some 79) rfl rfl (by kernel_rfl) ?_
      simp only [p1, p2, p3, p4]
      refine sq_skip (some 80) rfl rfl (by kernel_rfl) ?_
      simp only [p1, p2, p3, p4]
      refine sq_val (some 81) (.bool false) rfl rfl (by kernel_rfl) (rvk (by kernel_rfl)) ?_
      simp only [p1, p2, p3, p4]
      refine sq_nil ?_
      refine k122 _ _ ?_
      try clear k122 K122
      refine wp_cond_false rfl ?_
      refine wp_skip ?_
      refine k121 _ _ ?_
      try clear k121 K121
      refine wp_seq_k (fun K177 k177 => ?_)
      have hz178 := Below.size hB
      replace L3 := st120.lc (L3.gr g118) ne3_118
      have lt3_178 := L3.lt
      replace L5 := st120.lc (L5.gr g118) ne5_118
      have lt5_178 := L5.lt
      replace L13 := st120.lc (L13.gr g118) ne13_118
      have lt13_178 := L13.lt
      replace L14 := st120.lc (L14.gr g118) ne14_118
      have lt14_178 := L14.lt
      replace L29 := st120.lc (L29.gr g118) ne29_118
      have lt29_178 := L29.lt
      replace L47 := st120.lc (L47.gr g118) ne47_118
      have lt47_178 := L47.lt
      replace L86 := st120.lc (L86.gr g118) ne86_118
      have lt86_178 := L86.lt
      replace L110 := st120.lc (L110.gr g118) ne110_118
      have lt110_178 := L110.lt
      have lt118_178 := L118.lt
      have gd178 := Gr.drew w120
      replace hB := Gr.trans hB gd178
      replace L118 := L118.gr gd178
      refine wp_region_flo (fun w' => Lc w' b118 #[(.int .i64 ((akind (A0) (A1) (A2) (A3) (A4) (A5)))), t115_0, t115_1, t115_2, t115_3, t115_4, t115_5, t115_6, t115_7, t115_8, t115_9, t115_10, t115_11, t115_12, t115_13, t115_14, t115_15, t115_16, t115_17, t115_18, t115_19, t115_20, t115_21, t115_22, t115_23, t115_24, t115_25, t115_26, t115_27] 38) [(true, 0), (true, 1), (true, 2), (true, 3), (true, 4), (true, 5), (false, 6), (false, 7), (false, 8)] [⟨9, 14, 33, #[(.bool false), (.slice none 0 0), (.bool false), (.slice none 0 0), (.bool false), (.slice none 0 0), (.bool false), (.slice none 0 0), (.bool false), (.slice none 0 0), (.bool false), (.slice none 0 0)]⟩] [(false, 10)] (by kernel_rfl) (by kernel_rfl) (by kernel_rfl) (by kernel_rfl) (by kernel_rfl) (by decide) (fun _ _ _ _ _ h => h) (fun _ _ _ _ _ h => h) (fun w' o h => Lc.gr h (Gr.alloc w' o)) L118 (by intro f hf; simp only [List.mem_cons, List.not_mem_nil, or_false] at hf; rcases hf with rfl <;> first | exact alloc_zero (z := (.agg #[(.bool false), (.slice none 0 0), (.bool false), (.slice none 0 0), (.bool false), (.slice none 0 0), (.bool false), (.slice none 0 0), (.bool false), (.slice none 0 0), (.bool false), (.slice none 0 0)])) (by kernel_rfl) rfl) ?_
      refine flo_pure (some 82) (.pointer (some ⟨b118, 13, none⟩)) rfl rfl rfl (fun w' hS => (rvk (by kernel_rfl))) ?_
      simp only [p1, p2, p3, p4]
      refine flo_pure (some 83) (.agg #[t115_12, t115_13, t115_14, t115_15, t115_16, t115_17, t115_18, t115_19, t115_20, t115_21, t115_22, t115_23]) rfl rfl rfl (fun w' hS => (rv_load 33 _ b118 13 _ _ [t115_12, t115_13, t115_14, t115_15, t115_16, t115_17, t115_18, t115_19, t115_20, t115_21, t115_22, t115_23] rfl rfl hS rfl (by kernel_rfl))) ?_
      simp only [p1, p2, p3, p4]
      refine flo_pure (some 84) (.pointer (some ⟨b118, 1, none⟩)) rfl rfl rfl (fun w' hS => (rvk (by kernel_rfl))) ?_
      simp only [p1, p2, p3, p4]
      refine flo_pure (some 85) (.agg #[t115_0, t115_1, t115_2, t115_3, t115_4, t115_5, t115_6, t115_7, t115_8, t115_9, t115_10, t115_11]) rfl rfl rfl (fun w' hS => (rv_load 33 _ b118 1 _ _ [t115_0, t115_1, t115_2, t115_3, t115_4, t115_5, t115_6, t115_7, t115_8, t115_9, t115_10, t115_11] rfl rfl hS rfl (by kernel_rfl))) ?_
      simp only [p1, p2, p3, p4]
      refine flo_pure (some 86) (.int .i8 (ff)) rfl rfl rfl (fun w' hS => (rvk (by kernel_rfl))) ?_
      simp only [p1, p2, p3, p4]
      refine flo_pure (some 87) (.int .i64 (ff)) rfl rfl rfl (fun w' hS => (RunV.int (x := IntKind.i64.wrap (ff)) (y := ff) (rvk (by kernel_rfl)) (by first | rfl | (rw [IntKind.wrap_i64]; omega)))) ?_
      simp only [p1, p2, p3, p4]
      refine flo_eff rfl rfl (fun w179 g179 _ K179 k179 => ?_)
      replace hB := Gr.trans hB g179
      refine eff_call (some 88) rfl (by kernel_rfl) (from_r (ff) (by omega) (by omega) _) ?_
      rintro e180 w180 ⟨⟨p180, q180, r180, s180, rfl, h180⟩, g180⟩
      refine ⟨_, rfl, ?_⟩
      replace hB := Gr.trans hB g180
      rw [← eFF] at h180
      replace L118 := L118.gr (g179.trans g180)
      refine k179 _ _ g180 L118 ?_
      try clear k179 K179
      simp only [p1, p2, p3, p4]
      refine flo_eff rfl rfl (fun w181 g181 _ K181 k181 => ?_)
      replace hB := Gr.trans hB g181
      have kq183 := g118.kp.trans (kp120.trans (gd178.kp.trans (g179.kp.trans (g180.kp.trans g181.kp))))
      replace h115a := h115a.kp kq183
      replace h115b := h115b.kp kq183
      replace h115c := h115c.kp kq183
      replace h180 := h180.kp g181.kp
      refine eff_call (some 89) rfl (by kernel_rfl) (vscale_v h115a h115b h115c h180 (by omega)) ?_
      rintro e182 w182 ⟨⟨t182_0, t182_1, t182_2, t182_3, t182_4, t182_5, t182_6, t182_7, t182_8, t182_9, t182_10, t182_11, rfl, h182a, h182b, h182c⟩, g182⟩
      refine ⟨_, rfl, ?_⟩
      replace hB := Gr.trans hB g182
      replace L118 := L118.gr (g181.trans g182)
      refine k181 _ _ g182 L118 ?_
      try clear k181 K181
      simp only [p1, p2, p3, p4]
      refine flo_eff rfl rfl (fun w184 g184 _ K184 k184 => ?_)
      replace hB := Gr.trans hB g184
      have kq186 := g118.kp.trans (kp120.trans (gd178.kp.trans (g179.kp.trans (g180.kp.trans (g181.kp.trans (g182.kp.trans g184.kp))))))
      replace h115d := h115d.kp kq186
      replace h115e := h115e.kp kq186
      replace h115f := h115f.kp kq186
      replace h182a := h182a.kp g184.kp
      replace h182b := h182b.kp g184.kp
      replace h182c := h182c.kp g184.kp
      refine eff_call (some 90) rfl (by kernel_rfl) (vadd_v h115d h115e h115f h182a h182b h182c (by omega)) ?_
      rintro e185 w185 ⟨⟨t185_0, t185_1, t185_2, t185_3, t185_4, t185_5, t185_6, t185_7, t185_8, t185_9, t185_10, t185_11, rfl, h185a, h185b, h185c⟩, g185⟩
      refine ⟨_, rfl, ?_⟩
      replace hB := Gr.trans hB g185
      replace L118 := L118.gr (g184.trans g185)
      refine k184 _ _ g185 L118 ?_
      try clear k184 K184
      simp only [p1, p2, p3, p4]
      refine flo_nil (fun w187 g187 _ => ?_)
      replace hB := Gr.trans hB g187
      refine floFin1 (fun b188 (L188 : Lc w187 b188 #[(.bool false), (.slice none 0 0), (.bool false), (.slice none 0 0), (.bool false), (.slice none 0 0), (.bool false), (.slice none 0 0), (.bool false), (.slice none 0 0), (.bool false), (.slice none 0 0)] 33) q188  => ?_)
      have ne3_188 : b3 ≠ b188 := Nat.ne_of_lt (Nat.lt_of_lt_of_le lt3_178 q188)
      have ne5_188 : b5 ≠ b188 := Nat.ne_of_lt (Nat.lt_of_lt_of_le lt5_178 q188)
      have ne13_188 : b13 ≠ b188 := Nat.ne_of_lt (Nat.lt_of_lt_of_le lt13_178 q188)
      have ne14_188 : b14 ≠ b188 := Nat.ne_of_lt (Nat.lt_of_lt_of_le lt14_178 q188)
      have ne29_188 : b29 ≠ b188 := Nat.ne_of_lt (Nat.lt_of_lt_of_le lt29_178 q188)
      have ne47_188 : b47 ≠ b188 := Nat.ne_of_lt (Nat.lt_of_lt_of_le lt47_178 q188)
      have ne86_188 : b86 ≠ b188 := Nat.ne_of_lt (Nat.lt_of_lt_of_le lt86_178 q188)
      have ne110_188 : b110 ≠ b188 := Nat.ne_of_lt (Nat.lt_of_lt_of_le lt110_178 q188)
      have ne118_188 : b118 ≠ b188 := Nat.ne_of_lt (Nat.lt_of_lt_of_le lt118_178 q188)
      replace q188 := Nat.le_trans hz178 q188
      simp only [p1, p2, p3, p4]
      refine ord_eff rfl rfl (fun K189 k189 => ?_)
      refine eff_store 33 _ _ b188 0 (.agg #[t185_0, t185_1, t185_2, t185_3, t185_4, t185_5, t185_6, t185_7, t185_8, t185_9, t185_10, t185_11]) [t185_0, t185_1, t185_2, t185_3, t185_4, t185_5, t185_6, t185_7, t185_8, t185_9, t185_10, t185_11] _ #[t185_0, t185_1, t185_2, t185_3, t185_4, t185_5, t185_6, t185_7, t185_8, t185_9, t185_10, t185_11] _ rfl rfl rfl rfl rfl L188 (by kernel_rfl) (Nat.le_of_ble_eq_true rfl) ⟨h185a.one0, h185a.one1, h185a.one2, h185a.one3, h185b.one0, h185b.one1, h185b.one2, h185b.one3, h185c.one0, h185c.one1, h185c.one2, h185c.one3, trivial⟩ (by kernel_rfl) (fun w190 st190 N190 => ?_)
      have kp190 := st190.kp L188 (by decide)
      replace hB := st190.gr hB q188
      replace L188 := N190
      replace L118 := st190.lc (L118.gr g187) ne118_188
      refine k189 _ _ L118 ?_
      try clear k189 K189
      refine ord_nil ?_
      refine k177 _ _ ?_
      try clear k177 K177
      refine wp_seq_k (fun K191 k191 => ?_)
      have gd210 := Gr.drew w190
      replace hB := Gr.trans hB gd210
      replace L110 := (st190.lc (L110.gr (gd178.trans (g179.trans (g180.trans (g181.trans (g182.trans (g184.trans (g185.trans g187)))))))) ne110_188).gr gd210
      replace L118 := L118.gr gd210
      replace L188 := L188.gr gd210
      refine wp_region_ord (fun w' => Lc w' b110 #[t108_0, t108_1, t108_2, t108_3, t108_4, t108_5, t108_6, t108_7, t108_8, t108_9, t108_10, t108_11, t108_12, t108_13, t108_14, t108_15, t108_16, t108_17, t108_18, t108_19, t108_20, t108_21, t108_22, t108_23] 35 ∧ Lc w' b118 #[(.int .i64 ((akind (A0) (A1) (A2) (A3) (A4) (A5)))), t115_0, t115_1, t115_2, t115_3, t115_4, t115_5, t115_6, t115_7, t115_8, t115_9, t115_10, t115_11, t115_12, t115_13, t115_14, t115_15, t115_16, t115_17, t115_18, t115_19, t115_20, t115_21, t115_22, t115_23, t115_24, t115_25, t115_26, t115_27] 38 ∧ Lc w' b188 #[t185_0, t185_1, t185_2, t185_3, t185_4, t185_5, t185_6, t185_7, t185_8, t185_9, t185_10, t185_11] 33) [(true, 0), (true, 1), (true, 3), (true, 4), (true, 5), (true, 6), (false, 2), (false, 7), (false, 8), (true, 9), (true, 10), (true, 11), (true, 12), (true, 13), (false, 14), (false, 15), (true, 16), (true, 17), (true, 18)] (by kernel_rfl) (by kernel_rfl) (by kernel_rfl) (by decide) (fun _ _ _ _ _ h => h) ⟨L110, L118, L188⟩ ?_
      refine ord_pure (some 91) (.agg #[t108_0, t108_1, t108_2, t108_3, t108_4, t108_5, t108_6, t108_7, t108_8, t108_9, t108_10, t108_11, t108_12, t108_13, t108_14, t108_15, t108_16, t108_17, t108_18, t108_19, t108_20, t108_21, t108_22, t108_23]) rfl rfl rfl (fun w' hS => (rv_load 35 _ b110 0 _ _ [t108_0, t108_1, t108_2, t108_3, t108_4, t108_5, t108_6, t108_7, t108_8, t108_9, t108_10, t108_11, t108_12, t108_13, t108_14, t108_15, t108_16, t108_17, t108_18, t108_19, t108_20, t108_21, t108_22, t108_23] rfl rfl hS.1 rfl (by kernel_rfl))) ?_
      simp only [p1, p2, p3, p4]
      refine ord_pure (some 92) (.agg #[t185_0, t185_1, t185_2, t185_3, t185_4, t185_5, t185_6, t185_7, t185_8, t185_9, t185_10, t185_11]) rfl rfl rfl (fun w' hS => (rv_load 33 _ b188 0 _ _ [t185_0, t185_1, t185_2, t185_3, t185_4, t185_5, t185_6, t185_7, t185_8, t185_9, t185_10, t185_11] rfl rfl hS.2.2 rfl (by kernel_rfl))) ?_
      simp only [p1, p2, p3, p4]
      refine ord_pure (some 94) (.pointer (some ⟨b110, 0, none⟩)) rfl rfl rfl (fun w' hS => (rvk (by kernel_rfl))) ?_
      simp only [p1, p2, p3, p4]
      refine ord_pure (some 95) (.agg #[t108_0, t108_1, t108_2, t108_3, t108_4, t108_5, t108_6, t108_7, t108_8, t108_9, t108_10, t108_11]) rfl rfl rfl (fun w' hS => (rv_load 33 _ b110 0 _ _ [t108_0, t108_1, t108_2, t108_3, t108_4, t108_5, t108_6, t108_7, t108_8, t108_9, t108_10, t108_11] rfl rfl hS.1 rfl (by kernel_rfl))) ?_
      simp only [p1, p2, p3, p4]
      refine ord_pure (some 96) (.pointer (some ⟨b118, 25, none⟩)) rfl rfl rfl (fun w' hS => (rvk (by kernel_rfl))) ?_
      simp only [p1, p2, p3, p4]
      refine ord_pure (some 97) (.agg #[t115_24, t115_25, t115_26, t115_27]) rfl rfl rfl (fun w' hS => (rv_load 31 _ b118 25 _ _ [t115_24, t115_25, t115_26, t115_27] rfl rfl hS.2.1 rfl (by kernel_rfl))) ?_
      simp only [p1, p2, p3, p4]
      refine ord_eff rfl rfl (fun K211 k211 => ?_)
      have kq213 := g115.kp.trans (g118.kp.trans (kp120.trans (gd178.kp.trans (g179.kp.trans (g180.kp.trans (g181.kp.trans (g182.kp.trans (g184.kp.trans (g185.kp.trans (g187.kp.trans (kp190.trans gd210.kp)))))))))))
      replace h108a := h108a.kp kq213
      replace h108b := h108b.kp kq213
      replace h108c := h108c.kp kq213
      replace h108d := h108d.kp kq213
      replace h108e := h108e.kp kq213
      replace h108f := h108f.kp kq213
      have kq214 := g187.kp.trans (kp190.trans gd210.kp)
      replace h185a := h185a.kp kq214
      replace h185b := h185b.kp kq214
      replace h185c := h185c.kp kq214
      refine eff_call (some 93) rfl (by kernel_rfl) (tvel_v h108a h108b h108c h108d h108e h108f h185a h185b h185c (by omega)) ?_
      rintro e212 w212 ⟨⟨t212_0, t212_1, t212_2, t212_3, t212_4, t212_5, t212_6, t212_7, t212_8, t212_9, t212_10, t212_11, rfl, h212a, h212b, h212c⟩, g212⟩
      refine ⟨_, rfl, ?_⟩
      replace hB := Gr.trans hB g212
      replace L110 := L110.gr g212
      replace L118 := L118.gr g212
      replace L188 := L188.gr g212
      refine k211 _ _ ⟨L110, L118, L188⟩ ?_
      try clear k211 K211
      simp only [p1, p2, p3, p4]
      refine ord_eff rfl rfl (fun K215 k215 => ?_)
      replace h108a := h108a.kp g212.kp
      replace h108b := h108b.kp g212.kp
      replace h108c := h108c.kp g212.kp
      have kq217 := g118.kp.trans (kp120.trans (gd178.kp.trans (g179.kp.trans (g180.kp.trans (g181.kp.trans (g182.kp.trans (g184.kp.trans (g185.kp.trans (g187.kp.trans (kp190.trans (gd210.kp.trans g212.kp)))))))))))
      replace h115g := h115g.kp kq217
      refine eff_call (some 98) rfl (by kernel_rfl) (vscale_v h108a h108b h108c h115g (by omega)) ?_
      rintro e216 w216 ⟨⟨t216_0, t216_1, t216_2, t216_3, t216_4, t216_5, t216_6, t216_7, t216_8, t216_9, t216_10, t216_11, rfl, h216a, h216b, h216c⟩, g216⟩
      refine ⟨_, rfl, ?_⟩
      replace hB := Gr.trans hB g216
      replace L110 := L110.gr g216
      replace L118 := L118.gr g216
      replace L188 := L188.gr g216
      refine k215 _ _ ⟨L110, L118, L188⟩ ?_
      try clear k215 K215
      simp only [p1, p2, p3, p4]
      refine ord_eff rfl rfl (fun K218 k218 => ?_)
      replace h212a := h212a.kp g216.kp
      replace h212b := h212b.kp g216.kp
      replace h212c := h212c.kp g216.kp
      refine eff_call (some 99) rfl (by kernel_rfl) (vequal_v h212a h212b h212c h216a h216b h216c (by omega)) ?_
      rintro e219 w219 ⟨rfl, g219⟩
      refine ⟨_, rfl, ?_⟩
      replace hB := Gr.trans hB g219
      replace L110 := L110.gr g219
      replace L118 := L118.gr g219
      replace L188 := L188.gr g219
      refine k218 _ _ ⟨L110, L118, L188⟩ ?_
      try clear k218 K218
      simp only [p1, p2, p3, p4]
      have hb220 : (vcmp (A3 + (A1 * ((apt (A0) (A1) (A2) ((A0) * (A4) - (A1) * (A3))) + (FF * (adir (A0) (A1) (A2) (A3) (A4) (A5) (A2) (A5)))) - A2 * ((apt (A0) (A1) (A2) ((A2) * (A3) - (A0) * (A5))) + (FF * (adir (A0) (A1) (A2) (A3) (A4) (A5) (A1) (A4)))))) (A4 + (A2 * ((apt (A0) (A1) (A2) ((A1) * (A5) - (A2) * (A4))) + (FF * (adir (A0) (A1) (A2) (A3) (A4) (A5) (A0) (A3)))) - A0 * ((apt (A0) (A1) (A2) ((A0) * (A4) - (A1) * (A3))) + (FF * (adir (A0) (A1) (A2) (A3) (A4) (A5) (A2) (A5)))))) (A5 + (A0 * ((apt (A0) (A1) (A2) ((A2) * (A3) - (A0) * (A5))) + (FF * (adir (A0) (A1) (A2) (A3) (A4) (A5) (A1) (A4)))) - A1 * ((apt (A0) (A1) (A2) ((A1) * (A5) - (A2) * (A4))) + (FF * (adir (A0) (A1) (A2) (A3) (A4) (A5) (A0) (A3)))))) ((apit (A0) (A1) (A2) (A3) (A4) (A5)) * A0) ((apit (A0) (A1) (A2) (A3) (A4) (A5)) * A1) ((apit (A0) (A1) (A2) (A3) (A4) (A5)) * A2) == (0 : Int)) = true := (lawTu4 A0 A1 A2 A3 A4 A5 FF hA)
      refine ord_pure (some 100) (.bool true) rfl rfl rfl (fun w' hS => (RunV.bool (x := vcmp (A3 + (A1 * ((apt (A0) (A1) (A2) ((A0) * (A4) - (A1) * (A3))) + (FF * (adir (A0) (A1) (A2) (A3) (A4) (A5) (A2) (A5)))) - A2 * ((apt (A0) (A1) (A2) ((A2) * (A3) - (A0) * (A5))) + (FF * (adir (A0) (A1) (A2) (A3) (A4) (A5) (A1) (A4)))))) (A4 + (A2 * ((apt (A0) (A1) (A2) ((A1) * (A5) - (A2) * (A4))) + (FF * (adir (A0) (A1) (A2) (A3) (A4) (A5) (A0) (A3)))) - A0 * ((apt (A0) (A1) (A2) ((A0) * (A4) - (A1) * (A3))) + (FF * (adir (A0) (A1) (A2) (A3) (A4) (A5) (A2) (A5)))))) (A5 + (A0 * ((apt (A0) (A1) (A2) ((A2) * (A3) - (A0) * (A5))) + (FF * (adir (A0) (A1) (A2) (A3) (A4) (A5) (A1) (A4)))) - A1 * ((apt (A0) (A1) (A2) ((A1) * (A5) - (A2) * (A4))) + (FF * (adir (A0) (A1) (A2) (A3) (A4) (A5) (A0) (A3)))))) ((apit (A0) (A1) (A2) (A3) (A4) (A5)) * A0) ((apit (A0) (A1) (A2) (A3) (A4) (A5)) * A1) ((apit (A0) (A1) (A2) (A3) (A4) (A5)) * A2) == (0 : Int)) (rvk (by kernel_rfl)) hb220)) ?_
      simp only [p1, p2, p3, p4]
      refine ord_pureg (some 101) (.pointer (some ⟨b118, 13, none⟩)) rfl rfl (by kernel_rfl) (fun w' hS => (rvk (by kernel_rfl))) ?_
      simp only [p1, p2, p3, p4]
      refine ord_pureg (some 102) (.agg #[t115_12, t115_13, t115_14, t115_15, t115_16, t115_17, t115_18, t115_19, t115_20, t115_21, t115_22, t115_23]) rfl rfl (by kernel_rfl) (fun w' hS => (rv_load 33 _ b118 13 _ _ [t115_12, t115_13, t115_14, t115_15, t115_16, t115_17, t115_18, t115_19, t115_20, t115_21, t115_22, t115_23] rfl rfl hS.2.1 rfl (by kernel_rfl))) ?_
      simp only [p1, p2, p3, p4]
      refine ord_pureg (some 103) (.pointer (some ⟨b118, 1, none⟩)) rfl rfl (by kernel_rfl) (fun w' hS => (rvk (by kernel_rfl))) ?_
      simp only [p1, p2, p3, p4]
      refine ord_pureg (some 104) (.agg #[t115_0, t115_1, t115_2, t115_3, t115_4, t115_5, t115_6, t115_7, t115_8, t115_9, t115_10, t115_11]) rfl rfl (by kernel_rfl) (fun w' hS => (rv_load 33 _ b118 1 _ _ [t115_0, t115_1, t115_2, t115_3, t115_4, t115_5, t115_6, t115_7, t115_8, t115_9, t115_10, t115_11] rfl rfl hS.2.1 rfl (by kernel_rfl))) ?_
      simp only [p1, p2, p3, p4]
      refine ord_effg rfl (by kernel_rfl) (fun K221 k221 => ?_)
      have kq223 := g185.kp.trans (g187.kp.trans (kp190.trans (gd210.kp.trans (g212.kp.trans (g216.kp.trans g219.kp)))))
      replace h115d := h115d.kp kq223
      replace h115e := h115e.kp kq223
      replace h115f := h115f.kp kq223
      have kq224 := g182.kp.trans (g184.kp.trans (g185.kp.trans (g187.kp.trans (kp190.trans (gd210.kp.trans (g212.kp.trans (g216.kp.trans g219.kp)))))))
      replace h115a := h115a.kp kq224
      replace h115b := h115b.kp kq224
      replace h115c := h115c.kp kq224
      refine eff_call (some 105) rfl (by kernel_rfl) (dot_v h115d h115e h115f h115a h115b h115c (by omega)) ?_
      rintro e222 w222 ⟨⟨p222, q222, r222, s222, rfl, h222⟩, g222⟩
      refine ⟨_, rfl, ?_⟩
      replace hB := Gr.trans hB g222
      replace L110 := L110.gr g222
      replace L118 := L118.gr g222
      replace L188 := L188.gr g222
      refine k221 _ _ ⟨L110, L118, L188⟩ ?_
      try clear k221 K221
      simp only [p1, p2, p3, p4]
      refine ord_effg rfl (by kernel_rfl) (fun K225 k225 => ?_)
      refine eff_call (some 106) rfl (by kernel_rfl) (sign_r h222) ?_
      rintro e226 w226 ⟨rfl, g226⟩
      refine ⟨_, rfl, ?_⟩
      replace hB := Gr.trans hB g226
      replace L110 := L110.gr g226
      replace L118 := L118.gr g226
      replace L188 := L188.gr g226
      refine k225 _ _ ⟨L110, L118, L188⟩ ?_
      try clear k225 K225
      simp only [p1, p2, p3, p4]
      have hb227 : ((sgn ((0 + (apt (A0) (A1) (A2) ((A1) * (A5) - (A2) * (A4))) * (adir (A0) (A1) (A2) (A3) (A4) (A5) (A0) (A3)) + (apt (A0) (A1) (A2) ((A2) * (A3) - (A0) * (A5))) * (adir (A0) (A1) (A2) (A3) (A4) (A5) (A1) (A4)) + (apt (A0) (A1) (A2) ((A0) * (A4) - (A1) * (A3))) * (adir (A0) (A1) (A2) (A3) (A4) (A5) (A2) (A5)))).num == (0 : Int))) = true := (lawTu5 A0 A1 A2 A3 A4 A5 hA)
      refine ord_pureg (some 107) (.bool true) rfl rfl (by kernel_rfl) (fun w' hS => (RunV.bool (x := (sgn ((0 + (apt (A0) (A1) (A2) ((A1) * (A5) - (A2) * (A4))) * (adir (A0) (A1) (A2) (A3) (A4) (A5) (A0) (A3)) + (apt (A0) (A1) (A2) ((A2) * (A3) - (A0) * (A5))) * (adir (A0) (A1) (A2) (A3) (A4) (A5) (A1) (A4)) + (apt (A0) (A1) (A2) ((A0) * (A4) - (A1) * (A3))) * (adir (A0) (A1) (A2) (A3) (A4) (A5) (A2) (A5)))).num == (0 : Int))) (rvk (by kernel_rfl)) hb227)) ?_
      simp only [p1, p2, p3, p4]
      refine ord_pure (some 108) (.bool true) rfl rfl rfl (fun w' hS => (rvk (by kernel_rfl))) ?_
      simp only [p1, p2, p3, p4]
      refine ord_pure (some 6) (.bool true) rfl rfl rfl (fun w' hS => (rvk (by kernel_rfl))) ?_
      simp only [p1, p2, p3, p4]
      refine ord_nil ?_
      refine k191 _ _ ?_
      try clear k191 K191
      refine wp_ret ?_
      refine bodyPost_ret (v := (.bool true)) (ret_tmp rfl rfl) rfl ⟨?_, hB⟩
      exact rfl
  · refine ord_pure (some 53) (.bool false) rfl rfl rfl (fun w' hS => (RunV.bool (x := !(m0 == 0 && m1 == 0 && m2 == 0)) (rvk (by kernel_rfl)) hb92)) ?_
    simp only [p1, p2, p3, p4]
    refine ord_skip (some 54) rfl rfl (by kernel_rfl) ?_
    simp only [p1, p2, p3, p4]
    refine ord_skip (some 55) rfl rfl (by kernel_rfl) ?_
    simp only [p1, p2, p3, p4]
    refine ord_skip (some 56) rfl rfl (by kernel_rfl) ?_
    simp only [p1, p2, p3, p4]
    refine ord_skip (some 57) rfl rfl (by kernel_rfl) ?_
    simp only [p1, p2, p3, p4]
    refine ord_skip (some 58) rfl rfl (by kernel_rfl) ?_
    simp only [p1, p2, p3, p4]
    refine ord_skip (some 59) rfl rfl (by kernel_rfl) ?_
    simp only [p1, p2, p3, p4]
    refine ord_skip (some 60) rfl rfl (by kernel_rfl) ?_
    simp only [p1, p2, p3, p4]
    refine ord_skip (some 63) rfl rfl (by kernel_rfl) ?_
    simp only [p1, p2, p3, p4]
    refine ord_effskip (some 61) rfl rfl (by kernel_rfl) ⟨L13, L14, L86⟩ ?_
    simp only [p1, p2, p3, p4]
    refine ord_effskip (some 62) rfl rfl (by kernel_rfl) ⟨L13, L14, L86⟩ ?_
    simp only [p1, p2, p3, p4]
    refine ord_effskip (some 64) rfl rfl (by kernel_rfl) ⟨L13, L14, L86⟩ ?_
    simp only [p1, p2, p3, p4]
    refine ord_effskip (some 65) rfl rfl (by kernel_rfl) ⟨L13, L14, L86⟩ ?_
    simp only [p1, p2, p3, p4]
    refine ord_effskip (some 66) rfl rfl (by kernel_rfl) ⟨L13, L14, L86⟩ ?_
    simp only [p1, p2, p3, p4]
    refine ord_skip (some 67) rfl rfl (by kernel_rfl) ?_
    simp only [p1, p2, p3, p4]
    refine ord_skip (some 68) rfl rfl (by kernel_rfl) ?_
    simp only [p1, p2, p3, p4]
    refine ord_pure (some 69) (.bool false) rfl rfl rfl (fun w' hS => (rvk (by kernel_rfl))) ?_
    simp only [p1, p2, p3, p4]
    refine ord_nil ?_
    refine k89 _ _ ?_
    try clear k89 K89
    refine wp_cond_false rfl ?_
    refine wp_skip ?_
    refine k80 _ _ ?_
    try clear k80 K80
    refine wp_seq_k (fun K228 k228 => ?_)
    refine wp_region ?_
    simp only [List.size_toArray, List.length_cons, List.length_nil, Nat.reduceAdd, List.range, List.range.loop]
    replace L3 := (st88.lc (L3.gr g86) ne3_86).gr gd91
    refine sq_val (some 70) (.agg #[(.int .i8 (n0)), (.int .i8 (n1)), (.int .i8 (n2)), (.int .i8 (n3)), (.int .i8 (n4)), (.int .i8 (n5)), (.int .u8 (dd))]) rfl rfl (by kernel_rfl) (rv_load 25 _ b3 0 _ _ [(.int .i8 (n0)), (.int .i8 (n1)), (.int .i8 (n2)), (.int .i8 (n3)), (.int .i8 (n4)), (.int .i8 (n5)), (.int .u8 (dd))] rfl rfl L3 rfl (by kernel_rfl)) ?_
    simp only [p1, p2, p3, p4]
    refine sq_eff rfl (by kernel_rfl) (fun K229 k229 => ?_)
    refine eff_call (some 71) rfl (by kernel_rfl) (of_v (n0) (n1) (n2) (n3) (n4) (n5) (dd) (by omega) (by omega) (by omega) (by omega) (by omega) (by omega) (by omega) _) ?_
    rintro e230 w230 ⟨⟨t230_0, t230_1, t230_2, t230_3, t230_4, t230_5, t230_6, t230_7, t230_8, t230_9, t230_10, t230_11, t230_12, t230_13, t230_14, t230_15, t230_16, t230_17, t230_18, t230_19, t230_20, t230_21, t230_22, t230_23, rfl, h230a, h230b, h230c, h230d, h230e, h230f⟩, g230⟩
    refine ⟨_, rfl, ?_⟩
    replace hB := Gr.trans hB g230
    rw [← eA0] at h230a
    rw [← eA1] at h230b
    rw [← eA2] at h230c
    rw [← eA3] at h230d
    rw [← eA4] at h230e
    rw [← eA5] at h230f
    refine k229 _ _ ?_
    try clear k229 K229
    simp only [p1, p2, p3, p4]
    refine sq_eff rfl (by kernel_rfl) (fun K231 k231 => ?_)
    refine eff_alloc 35 (.agg #[(.bool false), (.slice none 0 0), (.bool false), (.slice none 0 0), (.bool false), (.slice none 0 0), (.bool false), (.slice none 0 0), (.bool false), (.slice none 0 0), (.bool false), (.slice none 0 0), (.bool false), (.slice none 0 0), (.bool false), (.slice none 0 0), (.bool false), (.slice none 0 0), (.bool false), (.slice none 0 0), (.bool false), (.slice none 0 0), (.bool false), (.slice none 0 0)]) #[(.bool false), (.slice none 0 0), (.bool false), (.slice none 0 0), (.bool false), (.slice none 0 0), (.bool false), (.slice none 0 0), (.bool false), (.slice none 0 0), (.bool false), (.slice none 0 0), (.bool false), (.slice none 0 0), (.bool false), (.slice none 0 0), (.bool false), (.slice none 0 0), (.bool false), (.slice none 0 0), (.bool false), (.slice none 0 0), (.bool false), (.slice none 0 0)] (some 12) rfl rfl (by kernel_rfl) rfl (fun b232 w232 g232 L232 q232 => ?_)
    replace L3 := L3.gr g230
    have ne3_232 := L3.ne q232
    replace L5 := (st88.lc (L5.gr g86) ne5_86).gr (gd91.trans g230)
    have ne5_232 := L5.ne q232
    replace L13 := L13.gr g230
    have ne13_232 := L13.ne q232
    replace L14 := L14.gr g230
    have ne14_232 := L14.ne q232
    replace L29 := (st88.lc (L29.gr g86) ne29_86).gr (gd91.trans g230)
    have ne29_232 := L29.ne q232
    replace L47 := (st88.lc (L47.gr g86) ne47_86).gr (gd91.trans g230)
    have ne47_232 := L47.ne q232
    replace L86 := L86.gr g230
    have ne86_232 := L86.ne q232
    replace q232 := Nat.le_trans (Below.size hB) q232
    replace hB := Gr.trans hB g232
    refine k231 _ _ ?_
    try clear k231 K231
    simp only [p1, p2, p3, p4]
    refine sq_eff rfl (by kernel_rfl) (fun K233 k233 => ?_)
    refine eff_store 35 _ _ b232 0 (.agg #[t230_0, t230_1, t230_2, t230_3, t230_4, t230_5, t230_6, t230_7, t230_8, t230_9, t230_10, t230_11, t230_12, t230_13, t230_14, t230_15, t230_16, t230_17, t230_18, t230_19, t230_20, t230_21, t230_22, t230_23]) [t230_0, t230_1, t230_2, t230_3, t230_4, t230_5, t230_6, t230_7, t230_8, t230_9, t230_10, t230_11, t230_12, t230_13, t230_14, t230_15, t230_16, t230_17, t230_18, t230_19, t230_20, t230_21, t230_22, t230_23] _ #[t230_0, t230_1, t230_2, t230_3, t230_4, t230_5, t230_6, t230_7, t230_8, t230_9, t230_10, t230_11, t230_12, t230_13, t230_14, t230_15, t230_16, t230_17, t230_18, t230_19, t230_20, t230_21, t230_22, t230_23] _ rfl rfl rfl rfl rfl L232 (by kernel_rfl) (Nat.le_of_ble_eq_true rfl) ⟨h230a.one0, h230a.one1, h230a.one2, h230a.one3, h230b.one0, h230b.one1, h230b.one2, h230b.one3, h230c.one0, h230c.one1, h230c.one2, h230c.one3, h230d.one0, h230d.one1, h230d.one2, h230d.one3, h230e.one0, h230e.one1, h230e.one2, h230e.one3, h230f.one0, h230f.one1, h230f.one2, h230f.one3, trivial⟩ (by kernel_rfl) (fun w234 st234 N234 => ?_)
    have kp234 := st234.kp L232 (by decide)
    replace hB := st234.gr hB q232
    replace L232 := N234
    refine k233 _ _ ?_
    try clear k233 K233
    refine sq_nil ?_
    refine k228 _ _ ?_
    try clear k228 K228
    refine wp_seq_k (fun K235 k235 => ?_)
    refine wp_region ?_
    simp only [List.size_toArray, List.length_cons, List.length_nil, Nat.reduceAdd, List.range, List.range.loop]
    refine sq_val (some 72) (.agg #[t230_0, t230_1, t230_2, t230_3, t230_4, t230_5, t230_6, t230_7, t230_8, t230_9, t230_10, t230_11, t230_12, t230_13, t230_14, t230_15, t230_16, t230_17, t230_18, t230_19, t230_20, t230_21, t230_22, t230_23]) rfl rfl (by kernel_rfl) (rv_load 35 _ b232 0 _ _ [t230_0, t230_1, t230_2, t230_3, t230_4, t230_5, t230_6, t230_7, t230_8, t230_9, t230_10, t230_11, t230_12, t230_13, t230_14, t230_15, t230_16, t230_17, t230_18, t230_19, t230_20, t230_21, t230_22, t230_23] rfl rfl L232 rfl (by kernel_rfl)) ?_
    simp only [p1, p2, p3, p4]
    refine sq_eff rfl (by kernel_rfl) (fun K236 k236 => ?_)
    have kq238 := g232.kp.trans kp234
    replace h230a := h230a.kp kq238
    replace h230b := h230b.kp kq238
    replace h230c := h230c.kp kq238
    replace h230d := h230d.kp kq238
    replace h230e := h230e.kp kq238
    replace h230f := h230f.kp kq238
    refine eff_call (some 73) rfl (by kernel_rfl) (axis_w h230a h230b h230c h230d h230e h230f (by omega)) ?_
    rintro e237 w237 ⟨⟨t237_0, t237_1, t237_2, t237_3, t237_4, t237_5, t237_6, t237_7, t237_8, t237_9, t237_10, t237_11, t237_12, t237_13, t237_14, t237_15, t237_16, t237_17, t237_18, t237_19, t237_20, t237_21, t237_22, t237_23, t237_24, t237_25, t237_26, t237_27, rfl, h237a, h237b, h237c, h237d, h237e, h237f, h237g⟩, g237⟩
    refine ⟨_, rfl, ?_⟩
    replace hB := Gr.trans hB g237
    refine k236 _ _ ?_
    try clear k236 K236
    simp only [p1, p2, p3, p4]
    refine sq_eff rfl (by kernel_rfl) (fun K239 k239 => ?_)
    refine eff_alloc 38 (.agg #[(.int .i64 0), (.bool false), (.slice none 0 0), (.bool false), (.slice none 0 0), (.bool false), (.slice none 0 0), (.bool false), (.slice none 0 0), (.bool false), (.slice none 0 0), (.bool false), (.slice none 0 0), (.bool false), (.slice none 0 0), (.bool false), (.slice none 0 0), (.bool false), (.slice none 0 0), (.bool false), (.slice none 0 0), (.bool false), (.slice none 0 0), (.bool false), (.slice none 0 0), (.bool false), (.slice none 0 0), (.bool false), (.slice none 0 0)]) #[(.int .i64 0), (.bool false), (.slice none 0 0), (.bool false), (.slice none 0 0), (.bool false), (.slice none 0 0), (.bool false), (.slice none 0 0), (.bool false), (.slice none 0 0), (.bool false), (.slice none 0 0), (.bool false), (.slice none 0 0), (.bool false), (.slice none 0 0), (.bool false), (.slice none 0 0), (.bool false), (.slice none 0 0), (.bool false), (.slice none 0 0), (.bool false), (.slice none 0 0), (.bool false), (.slice none 0 0), (.bool false), (.slice none 0 0)] (some 13) rfl rfl (by kernel_rfl) rfl (fun b240 w240 g240 L240 q240 => ?_)
    replace L3 := (st234.lc (L3.gr g232) ne3_232).gr g237
    have ne3_240 := L3.ne q240
    replace L5 := (st234.lc (L5.gr g232) ne5_232).gr g237
    have ne5_240 := L5.ne q240
    replace L13 := (st234.lc (L13.gr g232) ne13_232).gr g237
    have ne13_240 := L13.ne q240
    replace L14 := (st234.lc (L14.gr g232) ne14_232).gr g237
    have ne14_240 := L14.ne q240
    replace L29 := (st234.lc (L29.gr g232) ne29_232).gr g237
    have ne29_240 := L29.ne q240
    replace L47 := (st234.lc (L47.gr g232) ne47_232).gr g237
    have ne47_240 := L47.ne q240
    replace L86 := (st234.lc (L86.gr g232) ne86_232).gr g237
    have ne86_240 := L86.ne q240
    replace L232 := L232.gr g237
    have ne232_240 := L232.ne q240
    replace q240 := Nat.le_trans (Below.size hB) q240
    replace hB := Gr.trans hB g240
    refine k239 _ _ ?_
    try clear k239 K239
    simp only [p1, p2, p3, p4]
    refine sq_eff rfl (by kernel_rfl) (fun K241 k241 => ?_)
    refine eff_store 38 _ _ b240 0 (.agg #[(.int .i64 ((akind (A0) (A1) (A2) (A3) (A4) (A5)))), t237_0, t237_1, t237_2, t237_3, t237_4, t237_5, t237_6, t237_7, t237_8, t237_9, t237_10, t237_11, t237_12, t237_13, t237_14, t237_15, t237_16, t237_17, t237_18, t237_19, t237_20, t237_21, t237_22, t237_23, t237_24, t237_25, t237_26, t237_27]) [(.int .i64 ((akind (A0) (A1) (A2) (A3) (A4) (A5)))), t237_0, t237_1, t237_2, t237_3, t237_4, t237_5, t237_6, t237_7, t237_8, t237_9, t237_10, t237_11, t237_12, t237_13, t237_14, t237_15, t237_16, t237_17, t237_18, t237_19, t237_20, t237_21, t237_22, t237_23, t237_24, t237_25, t237_26, t237_27] _ #[(.int .i64 ((akind (A0) (A1) (A2) (A3) (A4) (A5)))), t237_0, t237_1, t237_2, t237_3, t237_4, t237_5, t237_6, t237_7, t237_8, t237_9, t237_10, t237_11, t237_12, t237_13, t237_14, t237_15, t237_16, t237_17, t237_18, t237_19, t237_20, t237_21, t237_22, t237_23, t237_24, t237_25, t237_26, t237_27] _ rfl rfl rfl rfl rfl L240 (by kernel_rfl) (Nat.le_of_ble_eq_true rfl) ⟨rfl, h237a.one0, h237a.one1, h237a.one2, h237a.one3, h237b.one0, h237b.one1, h237b.one2, h237b.one3, h237c.one0, h237c.one1, h237c.one2, h237c.one3, h237d.one0, h237d.one1, h237d.one2, h237d.one3, h237e.one0, h237e.one1, h237e.one2, h237e.one3, h237f.one0, h237f.one1, h237f.one2, h237f.one3, h237g.one0, h237g.one1, h237g.one2, h237g.one3, trivial⟩ (by kernel_rfl) (fun w242 st242 N242 => ?_)
    have kp242 := st242.kp L240 (by decide)
    replace hB := st242.gr hB q240
    replace L240 := N242
    refine k241 _ _ ?_
    try clear k241 K241
    refine sq_nil ?_
    refine k235 _ _ ?_
    try clear k235 K235
    refine wp_seq_k (fun K243 k243 => ?_)
    refine wp_seq_k (fun K244 k244 => ?_)
    refine wp_region ?_
    simp only [List.size_toArray, List.length_cons, List.length_nil, Nat.reduceAdd, List.range, List.range.loop]
    refine sq_val (some 74) (.pointer (some ⟨b240, 0, none⟩)) rfl rfl (by kernel_rfl) (rvk (by kernel_rfl)) ?_
    simp only [p1, p2, p3, p4]
    refine sq_val (some 75) (.int .i64 ((akind (A0) (A1) (A2) (A3) (A4) (A5)))) rfl rfl (by kernel_rfl) (rv_load1 3 _ b240 0 _ _ (.int .i64 ((akind (A0) (A1) (A2) (A3) (A4) (A5)))) rfl rfl L240 rfl (by kernel_rfl)) ?_
    simp only [p1, p2, p3, p4]
    refine sq_val (some 76) (.bool (((akind (A0) (A1) (A2) (A3) (A4) (A5)) != (2 : Int)))) rfl rfl (by kernel_rfl) (rvk (by kernel_rfl)) ?_
    simp only [p1, p2, p3, p4]
    rcases Bool.eq_false_or_eq_true (((akind (A0) (A1) (A2) (A3) (A4) (A5)) != (2 : Int))) with hb245 | hb245
    · refine sq_val (some 77) (.bool true) rfl rfl (by kernel_rfl) (RunV.bool (x := ((akind (A0) (A1) (A2) (A3) (A4) (A5)) != (2 : Int))) (rvk (by kernel_rfl)) hb245) ?_
      simp only [p1, p2, p3, p4]
      refine sq_val (some 78) (.pointer (some ⟨b240, 0, none⟩)) rfl rfl (by kernel_rfl) (rvk (by kernel_rfl)) ?_
      simp only [p1, p2, p3, p4]
      refine sq_val (some 79) (.int .i64 ((akind (A0) (A1) (A2) (A3) (A4) (A5)))) rfl rfl (by kernel_rfl) (rv_load1 3 _ b240 0 _ _ (.int .i64 ((akind (A0) (A1) (A2) (A3) (A4) (A5)))) rfl rfl L240 rfl (by kernel_rfl)) ?_
      simp only [p1, p2, p3, p4]
      refine sq_val (some 80) (.bool (((akind (A0) (A1) (A2) (A3) (A4) (A5)) != (3 : Int)))) rfl rfl (by kernel_rfl) (rvk (by kernel_rfl)) ?_
      simp only [p1, p2, p3, p4]
      refine sq_val (some 81) (.bool (((akind (A0) (A1) (A2) (A3) (A4) (A5)) != (3 : Int)))) rfl rfl (by kernel_rfl) (rvk (by kernel_rfl)) ?_
      simp only [p1, p2, p3, p4]
      refine sq_nil ?_
      refine k244 _ _ ?_
      try clear k244 K244
      refine wp_cond_split (t := ((akind (A0) (A1) (A2) (A3) (A4) (A5)) != (3 : Int))) rfl (fun hb246 => ?_) (fun hb246 => ?_)
      · refine wp_seq_k (fun K247 k247 => ?_)
        refine wp_region ?_
        simp only [List.size_toArray, List.length_cons, List.length_nil, Nat.reduceAdd, List.range, List.range.loop]
        refine sq_val (some 6) (.bool true) rfl rfl (by kernel_rfl) (rvk (by kernel_rfl)) ?_
        simp only [p1, p2, p3, p4]
        refine sq_nil ?_
        refine k247 _ _ ?_
        try clear k247 K247
        refine wp_ret ?_
        simp only [Exit.then]
        refine bodyPost_ret (v := (.bool true)) (ret_tmp rfl rfl) rfl ⟨?_, hB⟩
        exact rfl
      · have hA := akind_3 hb246
        refine wp_skip ?_
        refine k243 _ _ ?_
        try clear k243 K243
        refine wp_seq_k (fun K248 k248 => ?_)
        have hz249 := Below.size hB
        replace L3 := st242.lc (L3.gr g240) ne3_240
        have lt3_249 := L3.lt
        replace L5 := st242.lc (L5.gr g240) ne5_240
        have lt5_249 := L5.lt
        replace L13 := st242.lc (L13.gr g240) ne13_240
        have lt13_249 := L13.lt
        replace L14 := st242.lc (L14.gr g240) ne14_240
        have lt14_249 := L14.lt
        replace L29 := st242.lc (L29.gr g240) ne29_240
        have lt29_249 := L29.lt
        replace L47 := st242.lc (L47.gr g240) ne47_240
        have lt47_249 := L47.lt
        replace L86 := st242.lc (L86.gr g240) ne86_240
        have lt86_249 := L86.lt
        replace L232 := st242.lc (L232.gr g240) ne232_240
        have lt232_249 := L232.lt
        have lt240_249 := L240.lt
        have gd249 := Gr.drew w242
        replace hB := Gr.trans hB gd249
        replace L240 := L240.gr gd249
        refine wp_region_flo (fun w' => Lc w' b240 #[(.int .i64 ((akind (A0) (A1) (A2) (A3) (A4) (A5)))), t237_0, t237_1, t237_2, t237_3, t237_4, t237_5, t237_6, t237_7, t237_8, t237_9, t237_10, t237_11, t237_12, t237_13, t237_14, t237_15, t237_16, t237_17, t237_18, t237_19, t237_20, t237_21, t237_22, t237_23, t237_24, t237_25, t237_26, t237_27] 38) [(true, 0), (true, 1), (true, 2), (true, 3), (true, 4), (true, 5), (false, 6), (false, 7), (false, 8)] [⟨9, 14, 33, #[(.bool false), (.slice none 0 0), (.bool false), (.slice none 0 0), (.bool false), (.slice none 0 0), (.bool false), (.slice none 0 0), (.bool false), (.slice none 0 0), (.bool false), (.slice none 0 0)]⟩] [(false, 10)] (by kernel_rfl) (by kernel_rfl) (by kernel_rfl) (by kernel_rfl) (by kernel_rfl) (by decide) (fun _ _ _ _ _ h => h) (fun _ _ _ _ _ h => h) (fun w' o h => Lc.gr h (Gr.alloc w' o)) L240 (by intro f hf; simp only [List.mem_cons, List.not_mem_nil, or_false] at hf; rcases hf with rfl <;> first | exact alloc_zero (z := (.agg #[(.bool false), (.slice none 0 0), (.bool false), (.slice none 0 0), (.bool false), (.slice none 0 0), (.bool false), (.slice none 0 0), (.bool false), (.slice none 0 0), (.bool false), (.slice none 0 0)])) (by kernel_rfl) rfl) ?_
        refine flo_pure (some 82) (.pointer (some ⟨b240, 13, none⟩)) rfl rfl rfl (fun w' hS => (rvk (by kernel_rfl))) ?_
        simp only [p1, p2, p3, p4]
        refine flo_pure (some 83) (.agg #[t237_12, t237_13, t237_14, t237_15, t237_16, t237_17, t237_18, t237_19, t237_20, t237_21, t237_22, t237_23]) rfl rfl rfl (fun w' hS => (rv_load 33 _ b240 13 _ _ [t237_12, t237_13, t237_14, t237_15, t237_16, t237_17, t237_18, t237_19, t237_20, t237_21, t237_22, t237_23] rfl rfl hS rfl (by kernel_rfl))) ?_
        simp only [p1, p2, p3, p4]
        refine flo_pure (some 84) (.pointer (some ⟨b240, 1, none⟩)) rfl rfl rfl (fun w' hS => (rvk (by kernel_rfl))) ?_
        simp only [p1, p2, p3, p4]
        refine flo_pure (some 85) (.agg #[t237_0, t237_1, t237_2, t237_3, t237_4, t237_5, t237_6, t237_7, t237_8, t237_9, t237_10, t237_11]) rfl rfl rfl (fun w' hS => (rv_load 33 _ b240 1 _ _ [t237_0, t237_1, t237_2, t237_3, t237_4, t237_5, t237_6, t237_7, t237_8, t237_9, t237_10, t237_11] rfl rfl hS rfl (by kernel_rfl))) ?_
        simp only [p1, p2, p3, p4]
        refine flo_pure (some 86) (.int .i8 (ff)) rfl rfl rfl (fun w' hS => (rvk (by kernel_rfl))) ?_
        simp only [p1, p2, p3, p4]
        refine flo_pure (some 87) (.int .i64 (ff)) rfl rfl rfl (fun w' hS => (RunV.int (x := IntKind.i64.wrap (ff)) (y := ff) (rvk (by kernel_rfl)) (by first | rfl | (rw [IntKind.wrap_i64]; omega)))) ?_
        simp only [p1, p2, p3, p4]
        refine flo_eff rfl rfl (fun w250 g250 _ K250 k250 => ?_)
        replace hB := Gr.trans hB g250
        refine eff_call (some 88) rfl (by kernel_rfl) (from_r (ff) (by omega) (by omega) _) ?_
        rintro e251 w251 ⟨⟨p251, q251, r251, s251, rfl, h251⟩, g251⟩
        refine ⟨_, rfl, ?_⟩
        replace hB := Gr.trans hB g251
        rw [← eFF] at h251
        replace L240 := L240.gr (g250.trans g251)
        refine k250 _ _ g251 L240 ?_
        try clear k250 K250
        simp only [p1, p2, p3, p4]
        refine flo_eff rfl rfl (fun w252 g252 _ K252 k252 => ?_)
        replace hB := Gr.trans hB g252
        have kq254 := g240.kp.trans (kp242.trans (gd249.kp.trans (g250.kp.trans (g251.kp.trans g252.kp))))
        replace h237a := h237a.kp kq254
        replace h237b := h237b.kp kq254
        replace h237c := h237c.kp kq254
        replace h251 := h251.kp g252.kp
        refine eff_call (some 89) rfl (by kernel_rfl) (vscale_v h237a h237b h237c h251 (by omega)) ?_
        rintro e253 w253 ⟨⟨t253_0, t253_1, t253_2, t253_3, t253_4, t253_5, t253_6, t253_7, t253_8, t253_9, t253_10, t253_11, rfl, h253a, h253b, h253c⟩, g253⟩
        refine ⟨_, rfl, ?_⟩
        replace hB := Gr.trans hB g253
        replace L240 := L240.gr (g252.trans g253)
        refine k252 _ _ g253 L240 ?_
        try clear k252 K252
        simp only [p1, p2, p3, p4]
        refine flo_eff rfl rfl (fun w255 g255 _ K255 k255 => ?_)
        replace hB := Gr.trans hB g255
        have kq257 := g240.kp.trans (kp242.trans (gd249.kp.trans (g250.kp.trans (g251.kp.trans (g252.kp.trans (g253.kp.trans g255.kp))))))
        replace h237d := h237d.kp kq257
        replace h237e := h237e.kp kq257
        replace h237f := h237f.kp kq257
        replace h253a := h253a.kp g255.kp
        replace h253b := h253b.kp g255.kp
        replace h253c := h253c.kp g255.kp
        refine eff_call (some 90) rfl (by kernel_rfl) (vadd_v h237d h237e h237f h253a h253b h253c (by omega)) ?_
        rintro e256 w256 ⟨⟨t256_0, t256_1, t256_2, t256_3, t256_4, t256_5, t256_6, t256_7, t256_8, t256_9, t256_10, t256_11, rfl, h256a, h256b, h256c⟩, g256⟩
        refine ⟨_, rfl, ?_⟩
        replace hB := Gr.trans hB g256
        replace L240 := L240.gr (g255.trans g256)
        refine k255 _ _ g256 L240 ?_
        try clear k255 K255
        simp only [p1, p2, p3, p4]
        refine flo_nil (fun w258 g258 _ => ?_)
        replace hB := Gr.trans hB g258
        refine floFin1 (fun b259 (L259 : Lc w258 b259 #[(.bool false), (.slice none 0 0), (.bool false), (.slice none 0 0), (.bool false), (.slice none 0 0), (.bool false), (.slice none 0 0), (.bool false), (.slice none 0 0), (.bool false), (.slice none 0 0)] 33) q259  => ?_)
        have ne3_259 : b3 ≠ b259 := Nat.ne_of_lt (Nat.lt_of_lt_of_le lt3_249 q259)
        have ne5_259 : b5 ≠ b259 := Nat.ne_of_lt (Nat.lt_of_lt_of_le lt5_249 q259)
        have ne13_259 : b13 ≠ b259 := Nat.ne_of_lt (Nat.lt_of_lt_of_le lt13_249 q259)
        have ne14_259 : b14 ≠ b259 := Nat.ne_of_lt (Nat.lt_of_lt_of_le lt14_249 q259)
        have ne29_259 : b29 ≠ b259 := Nat.ne_of_lt (Nat.lt_of_lt_of_le lt29_249 q259)
        have ne47_259 : b47 ≠ b259 := Nat.ne_of_lt (Nat.lt_of_lt_of_le lt47_249 q259)
        have ne86_259 : b86 ≠ b259 := Nat.ne_of_lt (Nat.lt_of_lt_of_le lt86_249 q259)
        have ne232_259 : b232 ≠ b259 := Nat.ne_of_lt (Nat.lt_of_lt_of_le lt232_249 q259)
        have ne240_259 : b240 ≠ b259 := Nat.ne_of_lt (Nat.lt_of_lt_of_le lt240_249 q259)
        replace q259 := Nat.le_trans hz249 q259
        simp only [p1, p2, p3, p4]
        refine ord_eff rfl rfl (fun K260 k260 => ?_)
        refine eff_store 33 _ _ b259 0 (.agg #[t256_0, t256_1, t256_2, t256_3, t256_4, t256_5, t256_6, t256_7, t256_8, t256_9, t256_10, t256_11]) [t256_0, t256_1, t256_2, t256_3, t256_4, t256_5, t256_6, t256_7, t256_8, t256_9, t256_10, t256_11] _ #[t256_0, t256_1, t256_2, t256_3, t256_4, t256_5, t256_6, t256_7, t256_8, t256_9, t256_10, t256_11] _ rfl rfl rfl rfl rfl L259 (by kernel_rfl) (Nat.le_of_ble_eq_true rfl) ⟨h256a.one0, h256a.one1, h256a.one2, h256a.one3, h256b.one0, h256b.one1, h256b.one2, h256b.one3, h256c.one0, h256c.one1, h256c.one2, h256c.one3, trivial⟩ (by kernel_rfl) (fun w261 st261 N261 => ?_)
        have kp261 := st261.kp L259 (by decide)
        replace hB := st261.gr hB q259
        replace L259 := N261
        replace L240 := st261.lc (L240.gr g258) ne240_259
        refine k260 _ _ L240 ?_
        try clear k260 K260
        refine ord_nil ?_
        refine k248 _ _ ?_
        try clear k248 K248
        refine wp_seq_k (fun K262 k262 => ?_)
        have gd281 := Gr.drew w261
        replace hB := Gr.trans hB gd281
        replace L232 := (st261.lc (L232.gr (gd249.trans (g250.trans (g251.trans (g252.trans (g253.trans (g255.trans (g256.trans g258)))))))) ne232_259).gr gd281
        replace L240 := L240.gr gd281
        replace L259 := L259.gr gd281
        refine wp_region_ord (fun w' => Lc w' b232 #[t230_0, t230_1, t230_2, t230_3, t230_4, t230_5, t230_6, t230_7, t230_8, t230_9, t230_10, t230_11, t230_12, t230_13, t230_14, t230_15, t230_16, t230_17, t230_18, t230_19, t230_20, t230_21, t230_22, t230_23] 35 ∧ Lc w' b240 #[(.int .i64 ((akind (A0) (A1) (A2) (A3) (A4) (A5)))), t237_0, t237_1, t237_2, t237_3, t237_4, t237_5, t237_6, t237_7, t237_8, t237_9, t237_10, t237_11, t237_12, t237_13, t237_14, t237_15, t237_16, t237_17, t237_18, t237_19, t237_20, t237_21, t237_22, t237_23, t237_24, t237_25, t237_26, t237_27] 38 ∧ Lc w' b259 #[t256_0, t256_1, t256_2, t256_3, t256_4, t256_5, t256_6, t256_7, t256_8, t256_9, t256_10, t256_11] 33) [(true, 0), (true, 1), (true, 3), (true, 4), (true, 5), (true, 6), (false, 2), (false, 7), (false, 8), (true, 9), (true, 10), (true, 11), (true, 12), (true, 13), (false, 14), (false, 15), (true, 16), (true, 17), (true, 18)] (by kernel_rfl) (by kernel_rfl) (by kernel_rfl) (by decide) (fun _ _ _ _ _ h => h) ⟨L232, L240, L259⟩ ?_
        refine ord_pure (some 91) (.agg #[t230_0, t230_1, t230_2, t230_3, t230_4, t230_5, t230_6, t230_7, t230_8, t230_9, t230_10, t230_11, t230_12, t230_13, t230_14, t230_15, t230_16, t230_17, t230_18, t230_19, t230_20, t230_21, t230_22, t230_23]) rfl rfl rfl (fun w' hS => (rv_load 35 _ b232 0 _ _ [t230_0, t230_1, t230_2, t230_3, t230_4, t230_5, t230_6, t230_7, t230_8, t230_9, t230_10, t230_11, t230_12, t230_13, t230_14, t230_15, t230_16, t230_17, t230_18, t230_19, t230_20, t230_21, t230_22, t230_23] rfl rfl hS.1 rfl (by kernel_rfl))) ?_
        simp only [p1, p2, p3, p4]
        refine ord_pure (some 92) (.agg #[t256_0, t256_1, t256_2, t256_3, t256_4, t256_5, t256_6, t256_7, t256_8, t256_9, t256_10, t256_11]) rfl rfl rfl (fun w' hS => (rv_load 33 _ b259 0 _ _ [t256_0, t256_1, t256_2, t256_3, t256_4, t256_5, t256_6, t256_7, t256_8, t256_9, t256_10, t256_11] rfl rfl hS.2.2 rfl (by kernel_rfl))) ?_
        simp only [p1, p2, p3, p4]
        refine ord_pure (some 94) (.pointer (some ⟨b232, 0, none⟩)) rfl rfl rfl (fun w' hS => (rvk (by kernel_rfl))) ?_
        simp only [p1, p2, p3, p4]
        refine ord_pure (some 95) (.agg #[t230_0, t230_1, t230_2, t230_3, t230_4, t230_5, t230_6, t230_7, t230_8, t230_9, t230_10, t230_11]) rfl rfl rfl (fun w' hS => (rv_load 33 _ b232 0 _ _ [t230_0, t230_1, t230_2, t230_3, t230_4, t230_5, t230_6, t230_7, t230_8, t230_9, t230_10, t230_11] rfl rfl hS.1 rfl (by kernel_rfl))) ?_
        simp only [p1, p2, p3, p4]
        refine ord_pure (some 96) (.pointer (some ⟨b240, 25, none⟩)) rfl rfl rfl (fun w' hS => (rvk (by kernel_rfl))) ?_
        simp only [p1, p2, p3, p4]
        refine ord_pure (some 97) (.agg #[t237_24, t237_25, t237_26, t237_27]) rfl rfl rfl (fun w' hS => (rv_load 31 _ b240 25 _ _ [t237_24, t237_25, t237_26, t237_27] rfl rfl hS.2.1 rfl (by kernel_rfl))) ?_
        simp only [p1, p2, p3, p4]
        refine ord_eff rfl rfl (fun K282 k282 => ?_)
        have kq284 := g237.kp.trans (g240.kp.trans (kp242.trans (gd249.kp.trans (g250.kp.trans (g251.kp.trans (g252.kp.trans (g253.kp.trans (g255.kp.trans (g256.kp.trans (g258.kp.trans (kp261.trans gd281.kp)))))))))))
        replace h230a := h230a.kp kq284
        replace h230b := h230b.kp kq284
        replace h230c := h230c.kp kq284
        replace h230d := h230d.kp kq284
        replace h230e := h230e.kp kq284
        replace h230f := h230f.kp kq284
        have kq285 := g258.kp.trans (kp261.trans gd281.kp)
        replace h256a := h256a.kp kq285
        replace h256b := h256b.kp kq285
        replace h256c := h256c.kp kq285
        refine eff_call (some 93) rfl (by kernel_rfl) (tvel_v h230a h230b h230c h230d h230e h230f h256a h256b h256c (by omega)) ?_
        rintro e283 w283 ⟨⟨t283_0, t283_1, t283_2, t283_3, t283_4, t283_5, t283_6, t283_7, t283_8, t283_9, t283_10, t283_11, rfl, h283a, h283b, h283c⟩, g283⟩
        refine ⟨_, rfl, ?_⟩
        replace hB := Gr.trans hB g283
        replace L232 := L232.gr g283
        replace L240 := L240.gr g283
        replace L259 := L259.gr g283
        refine k282 _ _ ⟨L232, L240, L259⟩ ?_
        try clear k282 K282
        simp only [p1, p2, p3, p4]
        refine ord_eff rfl rfl (fun K286 k286 => ?_)
        replace h230a := h230a.kp g283.kp
        replace h230b := h230b.kp g283.kp
        replace h230c := h230c.kp g283.kp
        have kq288 := g240.kp.trans (kp242.trans (gd249.kp.trans (g250.kp.trans (g251.kp.trans (g252.kp.trans (g253.kp.trans (g255.kp.trans (g256.kp.trans (g258.kp.trans (kp261.trans (gd281.kp.trans g283.kp)))))))))))
        replace h237g := h237g.kp kq288
        refine eff_call (some 98) rfl (by kernel_rfl) (vscale_v h230a h230b h230c h237g (by omega)) ?_
        rintro e287 w287 ⟨⟨t287_0, t287_1, t287_2, t287_3, t287_4, t287_5, t287_6, t287_7, t287_8, t287_9, t287_10, t287_11, rfl, h287a, h287b, h287c⟩, g287⟩
        refine ⟨_, rfl, ?_⟩
        replace hB := Gr.trans hB g287
        replace L232 := L232.gr g287
        replace L240 := L240.gr g287
        replace L259 := L259.gr g287
        refine k286 _ _ ⟨L232, L240, L259⟩ ?_
        try clear k286 K286
        simp only [p1, p2, p3, p4]
        refine ord_eff rfl rfl (fun K289 k289 => ?_)
        replace h283a := h283a.kp g287.kp
        replace h283b := h283b.kp g287.kp
        replace h283c := h283c.kp g287.kp
        refine eff_call (some 99) rfl (by kernel_rfl) (vequal_v h283a h283b h283c h287a h287b h287c (by omega)) ?_
        rintro e290 w290 ⟨rfl, g290⟩
        refine ⟨_, rfl, ?_⟩
        replace hB := Gr.trans hB g290
        replace L232 := L232.gr g290
        replace L240 := L240.gr g290
        replace L259 := L259.gr g290
        refine k289 _ _ ⟨L232, L240, L259⟩ ?_
        try clear k289 K289
        simp only [p1, p2, p3, p4]
        have hb291 : (vcmp (A3 + (A1 * ((apt (A0) (A1) (A2) ((A0) * (A4) - (A1) * (A3))) + (FF * (adir (A0) (A1) (A2) (A3) (A4) (A5) (A2) (A5)))) - A2 * ((apt (A0) (A1) (A2) ((A2) * (A3) - (A0) * (A5))) + (FF * (adir (A0) (A1) (A2) (A3) (A4) (A5) (A1) (A4)))))) (A4 + (A2 * ((apt (A0) (A1) (A2) ((A1) * (A5) - (A2) * (A4))) + (FF * (adir (A0) (A1) (A2) (A3) (A4) (A5) (A0) (A3)))) - A0 * ((apt (A0) (A1) (A2) ((A0) * (A4) - (A1) * (A3))) + (FF * (adir (A0) (A1) (A2) (A3) (A4) (A5) (A2) (A5)))))) (A5 + (A0 * ((apt (A0) (A1) (A2) ((A2) * (A3) - (A0) * (A5))) + (FF * (adir (A0) (A1) (A2) (A3) (A4) (A5) (A1) (A4)))) - A1 * ((apt (A0) (A1) (A2) ((A1) * (A5) - (A2) * (A4))) + (FF * (adir (A0) (A1) (A2) (A3) (A4) (A5) (A0) (A3)))))) ((apit (A0) (A1) (A2) (A3) (A4) (A5)) * A0) ((apit (A0) (A1) (A2) (A3) (A4) (A5)) * A1) ((apit (A0) (A1) (A2) (A3) (A4) (A5)) * A2) == (0 : Int)) = true := (lawTu4 A0 A1 A2 A3 A4 A5 FF hA)
        refine ord_pure (some 100) (.bool true) rfl rfl rfl (fun w' hS => (RunV.bool (x := vcmp (A3 + (A1 * ((apt (A0) (A1) (A2) ((A0) * (A4) - (A1) * (A3))) + (FF * (adir (A0) (A1) (A2) (A3) (A4) (A5) (A2) (A5)))) - A2 * ((apt (A0) (A1) (A2) ((A2) * (A3) - (A0) * (A5))) + (FF * (adir (A0) (A1) (A2) (A3) (A4) (A5) (A1) (A4)))))) (A4 + (A2 * ((apt (A0) (A1) (A2) ((A1) * (A5) - (A2) * (A4))) + (FF * (adir (A0) (A1) (A2) (A3) (A4) (A5) (A0) (A3)))) - A0 * ((apt (A0) (A1) (A2) ((A0) * (A4) - (A1) * (A3))) + (FF * (adir (A0) (A1) (A2) (A3) (A4) (A5) (A2) (A5)))))) (A5 + (A0 * ((apt (A0) (A1) (A2) ((A2) * (A3) - (A0) * (A5))) + (FF * (adir (A0) (A1) (A2) (A3) (A4) (A5) (A1) (A4)))) - A1 * ((apt (A0) (A1) (A2) ((A1) * (A5) - (A2) * (A4))) + (FF * (adir (A0) (A1) (A2) (A3) (A4) (A5) (A0) (A3)))))) ((apit (A0) (A1) (A2) (A3) (A4) (A5)) * A0) ((apit (A0) (A1) (A2) (A3) (A4) (A5)) * A1) ((apit (A0) (A1) (A2) (A3) (A4) (A5)) * A2) == (0 : Int)) (rvk (by kernel_rfl)) hb291)) ?_
        simp only [p1, p2, p3, p4]
        refine ord_pureg (some 101) (.pointer (some ⟨b240, 13, none⟩)) rfl rfl (by kernel_rfl) (fun w' hS => (rvk (by kernel_rfl))) ?_
        simp only [p1, p2, p3, p4]
        refine ord_pureg (some 102) (.agg #[t237_12, t237_13, t237_14, t237_15, t237_16, t237_17, t237_18, t237_19, t237_20, t237_21, t237_22, t237_23]) rfl rfl (by kernel_rfl) (fun w' hS => (rv_load 33 _ b240 13 _ _ [t237_12, t237_13, t237_14, t237_15, t237_16, t237_17, t237_18, t237_19, t237_20, t237_21, t237_22, t237_23] rfl rfl hS.2.1 rfl (by kernel_rfl))) ?_
        simp only [p1, p2, p3, p4]
        refine ord_pureg (some 103) (.pointer (some ⟨b240, 1, none⟩)) rfl rfl (by kernel_rfl) (fun w' hS => (rvk (by kernel_rfl))) ?_
        simp only [p1, p2, p3, p4]
        refine ord_pureg (some 104) (.agg #[t237_0, t237_1, t237_2, t237_3, t237_4, t237_5, t237_6, t237_7, t237_8, t237_9, t237_10, t237_11]) rfl rfl (by kernel_rfl) (fun w' hS => (rv_load 33 _ b240 1 _ _ [t237_0, t237_1, t237_2, t237_3, t237_4, t237_5, t237_6, t237_7, t237_8, t237_9, t237_10, t237_11] rfl rfl hS.2.1 rfl (by kernel_rfl))) ?_
        simp only [p1, p2, p3, p4]
        refine ord_effg rfl (by kernel_rfl) (fun K292 k292 => ?_)
        have kq294 := g256.kp.trans (g258.kp.trans (kp261.trans (gd281.kp.trans (g283.kp.trans (g287.kp.trans g290.kp)))))
        replace h237d := h237d.kp kq294
        replace h237e := h237e.kp kq294
        replace h237f := h237f.kp kq294
        have kq295 := g253.kp.trans (g255.kp.trans (g256.kp.trans (g258.kp.trans (kp261.trans (gd281.kp.trans (g283.kp.trans (g287.kp.trans g290.kp)))))))
        replace h237a := h237a.kp kq295
        replace h237b := h237b.kp kq295
        replace h237c := h237c.kp kq295
        refine eff_call (some 105) rfl (by kernel_rfl) (dot_v h237d h237e h237f h237a h237b h237c (by omega)) ?_
        rintro e293 w293 ⟨⟨p293, q293, r293, s293, rfl, h293⟩, g293⟩
        refine ⟨_, rfl, ?_⟩
        replace hB := Gr.trans hB g293
        replace L232 := L232.gr g293
        replace L240 := L240.gr g293
        replace L259 := L259.gr g293
        refine k292 _ _ ⟨L232, L240, L259⟩ ?_
        try clear k292 K292
        simp only [p1, p2, p3, p4]
        refine ord_effg rfl (by kernel_rfl) (fun K296 k296 => ?_)
        refine eff_call (some 106) rfl (by kernel_rfl) (sign_r h293) ?_
        rintro e297 w297 ⟨rfl, g297⟩
        refine ⟨_, rfl, ?_⟩
        replace hB := Gr.trans hB g297
        replace L232 := L232.gr g297
        replace L240 := L240.gr g297
        replace L259 := L259.gr g297
        refine k296 _ _ ⟨L232, L240, L259⟩ ?_
        try clear k296 K296
        simp only [p1, p2, p3, p4]
        have hb298 : ((sgn ((0 + (apt (A0) (A1) (A2) ((A1) * (A5) - (A2) * (A4))) * (adir (A0) (A1) (A2) (A3) (A4) (A5) (A0) (A3)) + (apt (A0) (A1) (A2) ((A2) * (A3) - (A0) * (A5))) * (adir (A0) (A1) (A2) (A3) (A4) (A5) (A1) (A4)) + (apt (A0) (A1) (A2) ((A0) * (A4) - (A1) * (A3))) * (adir (A0) (A1) (A2) (A3) (A4) (A5) (A2) (A5)))).num == (0 : Int))) = true := (lawTu5 A0 A1 A2 A3 A4 A5 hA)
        refine ord_pureg (some 107) (.bool true) rfl rfl (by kernel_rfl) (fun w' hS => (RunV.bool (x := (sgn ((0 + (apt (A0) (A1) (A2) ((A1) * (A5) - (A2) * (A4))) * (adir (A0) (A1) (A2) (A3) (A4) (A5) (A0) (A3)) + (apt (A0) (A1) (A2) ((A2) * (A3) - (A0) * (A5))) * (adir (A0) (A1) (A2) (A3) (A4) (A5) (A1) (A4)) + (apt (A0) (A1) (A2) ((A0) * (A4) - (A1) * (A3))) * (adir (A0) (A1) (A2) (A3) (A4) (A5) (A2) (A5)))).num == (0 : Int))) (rvk (by kernel_rfl)) hb298)) ?_
        simp only [p1, p2, p3, p4]
        refine ord_pure (some 108) (.bool true) rfl rfl rfl (fun w' hS => (rvk (by kernel_rfl))) ?_
        simp only [p1, p2, p3, p4]
        refine ord_pure (some 6) (.bool true) rfl rfl rfl (fun w' hS => (rvk (by kernel_rfl))) ?_
        simp only [p1, p2, p3, p4]
        refine ord_nil ?_
        refine k262 _ _ ?_
        try clear k262 K262
        refine wp_ret ?_
        refine bodyPost_ret (v := (.bool true)) (ret_tmp rfl rfl) rfl ⟨?_, hB⟩
        exact rfl
    · have hA := akind_2 hb245
      refine sq_val (some 77) (.bool false) rfl rfl (by kernel_rfl) (RunV.bool (x := ((akind (A0) (A1) (A2) (A3) (A4) (A5)) != (2 : Int))) (rvk (by kernel_rfl)) hb245) ?_
      simp only [p1, p2, p3, p4]
      refine sq_skip (some 78) rfl rfl (by kernel_rfl) ?_
      simp only [p1, p2, p3, p4]
      refine sq_skip (some 79) rfl rfl (by kernel_rfl) ?_
      simp only [p1, p2, p3, p4]
      refine sq_skip (some 80) rfl rfl (by kernel_rfl) ?_
      simp only [p1, p2, p3, p4]
      refine sq_val (some 81) (.bool false) rfl rfl (by kernel_rfl) (rvk (by kernel_rfl)) ?_
      simp only [p1, p2, p3, p4]
      refine sq_nil ?_
      refine k244 _ _ ?_
      try clear k244 K244
      refine wp_cond_false rfl ?_
      refine wp_skip ?_
      refine k243 _ _ ?_
      try clear k243 K243
      refine wp_seq_k (fun K299 k299 => ?_)
      have hz300 := Below.size hB
      replace L3 := st242.lc (L3.gr g240) ne3_240
      have lt3_300 := L3.lt
      replace L5 := st242.lc (L5.gr g240) ne5_240
      have lt5_300 := L5.lt
      replace L13 := st242.lc (L13.gr g240) ne13_240
      have lt13_300 := L13.lt
      replace L14 := st242.lc (L14.gr g240) ne14_240
      have lt14_300 := L14.lt
      replace L29 := st242.lc (L29.gr g240) ne29_240
      have lt29_300 := L29.lt
      replace L47 := st242.lc (L47.gr g240) ne47_240
      have lt47_300 := L47.lt
      replace L86 := st242.lc (L86.gr g240) ne86_240
      have lt86_300 := L86.lt
      replace L232 := st242.lc (L232.gr g240) ne232_240
      have lt232_300 := L232.lt
      have lt240_300 := L240.lt
      have gd300 := Gr.drew w242
      replace hB := Gr.trans hB gd300
      replace L240 := L240.gr gd300
      refine wp_region_flo (fun w' => Lc w' b240 #[(.int .i64 ((akind (A0) (A1) (A2) (A3) (A4) (A5)))), t237_0, t237_1, t237_2, t237_3, t237_4, t237_5, t237_6, t237_7, t237_8, t237_9, t237_10, t237_11, t237_12, t237_13, t237_14, t237_15, t237_16, t237_17, t237_18, t237_19, t237_20, t237_21, t237_22, t237_23, t237_24, t237_25, t237_26, t237_27] 38) [(true, 0), (true, 1), (true, 2), (true, 3), (true, 4), (true, 5), (false, 6), (false, 7), (false, 8)] [⟨9, 14, 33, #[(.bool false), (.slice none 0 0), (.bool false), (.slice none 0 0), (.bool false), (.slice none 0 0), (.bool false), (.slice none 0 0), (.bool false), (.slice none 0 0), (.bool false), (.slice none 0 0)]⟩] [(false, 10)] (by kernel_rfl) (by kernel_rfl) (by kernel_rfl) (by kernel_rfl) (by kernel_rfl) (by decide) (fun _ _ _ _ _ h => h) (fun _ _ _ _ _ h => h) (fun w' o h => Lc.gr h (Gr.alloc w' o)) L240 (by intro f hf; simp only [List.mem_cons, List.not_mem_nil, or_false] at hf; rcases hf with rfl <;> first | exact alloc_zero (z := (.agg #[(.bool false), (.slice none 0 0), (.bool false), (.slice none 0 0), (.bool false), (.slice none 0 0), (.bool false), (.slice none 0 0), (.bool false), (.slice none 0 0), (.bool false), (.slice none 0 0)])) (by kernel_rfl) rfl) ?_
      refine flo_pure (some 82) (.pointer (some ⟨b240, 13, none⟩)) rfl rfl rfl (fun w' hS => (rvk (by kernel_rfl))) ?_
      simp only [p1, p2, p3, p4]
      refine flo_pure (some 83) (.agg #[t237_12, t237_13, t237_14, t237_15, t237_16, t237_17, t237_18, t237_19, t237_20, t237_21, t237_22, t237_23]) rfl rfl rfl (fun w' hS => (rv_load 33 _ b240 13 _ _ [t237_12, t237_13, t237_14, t237_15, t237_16, t237_17, t237_18, t237_19, t237_20, t237_21, t237_22, t237_23] rfl rfl hS rfl (by kernel_rfl))) ?_
      simp only [p1, p2, p3, p4]
      refine flo_pure (some 84) (.pointer (some ⟨b240, 1, none⟩)) rfl rfl rfl (fun w' hS => (rvk (by kernel_rfl))) ?_
      simp only [p1, p2, p3, p4]
      refine flo_pure (some 85) (.agg #[t237_0, t237_1, t237_2, t237_3, t237_4, t237_5, t237_6, t237_7, t237_8, t237_9, t237_10, t237_11]) rfl rfl rfl (fun w' hS => (rv_load 33 _ b240 1 _ _ [t237_0, t237_1, t237_2, t237_3, t237_4, t237_5, t237_6, t237_7, t237_8, t237_9, t237_10, t237_11] rfl rfl hS rfl (by kernel_rfl))) ?_
      simp only [p1, p2, p3, p4]
      refine flo_pure (some 86) (.int .i8 (ff)) rfl rfl rfl (fun w' hS => (rvk (by kernel_rfl))) ?_
      simp only [p1, p2, p3, p4]
      refine flo_pure (some 87) (.int .i64 (ff)) rfl rfl rfl (fun w' hS => (RunV.int (x := IntKind.i64.wrap (ff)) (y := ff) (rvk (by kernel_rfl)) (by first | rfl | (rw [IntKind.wrap_i64]; omega)))) ?_
      simp only [p1, p2, p3, p4]
      refine flo_eff rfl rfl (fun w301 g301 _ K301 k301 => ?_)
      replace hB := Gr.trans hB g301
      refine eff_call (some 88) rfl (by kernel_rfl) (from_r (ff) (by omega) (by omega) _) ?_
      rintro e302 w302 ⟨⟨p302, q302, r302, s302, rfl, h302⟩, g302⟩
      refine ⟨_, rfl, ?_⟩
      replace hB := Gr.trans hB g302
      rw [← eFF] at h302
      replace L240 := L240.gr (g301.trans g302)
      refine k301 _ _ g302 L240 ?_
      try clear k301 K301
      simp only [p1, p2, p3, p4]
      refine flo_eff rfl rfl (fun w303 g303 _ K303 k303 => ?_)
      replace hB := Gr.trans hB g303
      have kq305 := g240.kp.trans (kp242.trans (gd300.kp.trans (g301.kp.trans (g302.kp.trans g303.kp))))
      replace h237a := h237a.kp kq305
      replace h237b := h237b.kp kq305
      replace h237c := h237c.kp kq305
      replace h302 := h302.kp g303.kp
      refine eff_call (some 89) rfl (by kernel_rfl) (vscale_v h237a h237b h237c h302 (by omega)) ?_
      rintro e304 w304 ⟨⟨t304_0, t304_1, t304_2, t304_3, t304_4, t304_5, t304_6, t304_7, t304_8, t304_9, t304_10, t304_11, rfl, h304a, h304b, h304c⟩, g304⟩
      refine ⟨_, rfl, ?_⟩
      replace hB := Gr.trans hB g304
      replace L240 := L240.gr (g303.trans g304)
      refine k303 _ _ g304 L240 ?_
      try clear k303 K303
      simp only [p1, p2, p3, p4]
      refine flo_eff rfl rfl (fun w306 g306 _ K306 k306 => ?_)
      replace hB := Gr.trans hB g306
      have kq308 := g240.kp.trans (kp242.trans (gd300.kp.trans (g301.kp.trans (g302.kp.trans (g303.kp.trans (g304.kp.trans g306.kp))))))
      replace h237d := h237d.kp kq308
      replace h237e := h237e.kp kq308
      replace h237f := h237f.kp kq308
      replace h304a := h304a.kp g306.kp
      replace h304b := h304b.kp g306.kp
      replace h304c := h304c.kp g306.kp
      refine eff_call (some 90) rfl (by kernel_rfl) (vadd_v h237d h237e h237f h304a h304b h304c (by omega)) ?_
      rintro e307 w307 ⟨⟨t307_0, t307_1, t307_2, t307_3, t307_4, t307_5, t307_6, t307_7, t307_8, t307_9, t307_10, t307_11, rfl, h307a, h307b, h307c⟩, g307⟩
      refine ⟨_, rfl, ?_⟩
      replace hB := Gr.trans hB g307
      replace L240 := L240.gr (g306.trans g307)
      refine k306 _ _ g307 L240 ?_
      try clear k306 K306
      simp only [p1, p2, p3, p4]
      refine flo_nil (fun w309 g309 _ => ?_)
      replace hB := Gr.trans hB g309
      refine floFin1 (fun b310 (L310 : Lc w309 b310 #[(.bool false), (.slice none 0 0), (.bool false), (.slice none 0 0), (.bool false), (.slice none 0 0), (.bool false), (.slice none 0 0), (.bool false), (.slice none 0 0), (.bool false), (.slice none 0 0)] 33) q310  => ?_)
      have ne3_310 : b3 ≠ b310 := Nat.ne_of_lt (Nat.lt_of_lt_of_le lt3_300 q310)
      have ne5_310 : b5 ≠ b310 := Nat.ne_of_lt (Nat.lt_of_lt_of_le lt5_300 q310)
      have ne13_310 : b13 ≠ b310 := Nat.ne_of_lt (Nat.lt_of_lt_of_le lt13_300 q310)
      have ne14_310 : b14 ≠ b310 := Nat.ne_of_lt (Nat.lt_of_lt_of_le lt14_300 q310)
      have ne29_310 : b29 ≠ b310 := Nat.ne_of_lt (Nat.lt_of_lt_of_le lt29_300 q310)
      have ne47_310 : b47 ≠ b310 := Nat.ne_of_lt (Nat.lt_of_lt_of_le lt47_300 q310)
      have ne86_310 : b86 ≠ b310 := Nat.ne_of_lt (Nat.lt_of_lt_of_le lt86_300 q310)
      have ne232_310 : b232 ≠ b310 := Nat.ne_of_lt (Nat.lt_of_lt_of_le lt232_300 q310)
      have ne240_310 : b240 ≠ b310 := Nat.ne_of_lt (Nat.lt_of_lt_of_le lt240_300 q310)
      replace q310 := Nat.le_trans hz300 q310
      simp only [p1, p2, p3, p4]
      refine ord_eff rfl rfl (fun K311 k311 => ?_)
      refine eff_store 33 _ _ b310 0 (.agg #[t307_0, t307_1, t307_2, t307_3, t307_4, t307_5, t307_6, t307_7, t307_8, t307_9, t307_10, t307_11]) [t307_0, t307_1, t307_2, t307_3, t307_4, t307_5, t307_6, t307_7, t307_8, t307_9, t307_10, t307_11] _ #[t307_0, t307_1, t307_2, t307_3, t307_4, t307_5, t307_6, t307_7, t307_8, t307_9, t307_10, t307_11] _ rfl rfl rfl rfl rfl L310 (by kernel_rfl) (Nat.le_of_ble_eq_true rfl) ⟨h307a.one0, h307a.one1, h307a.one2, h307a.one3, h307b.one0, h307b.one1, h307b.one2, h307b.one3, h307c.one0, h307c.one1, h307c.one2, h307c.one3, trivial⟩ (by kernel_rfl) (fun w312 st312 N312 => ?_)
      have kp312 := st312.kp L310 (by decide)
      replace hB := st312.gr hB q310
      replace L310 := N312
      replace L240 := st312.lc (L240.gr g309) ne240_310
      refine k311 _ _ L240 ?_
      try clear k311 K311
      refine ord_nil ?_
      refine k299 _ _ ?_
      try clear k299 K299
      refine wp_seq_k (fun K313 k313 => ?_)
      have gd332 := Gr.drew w312
      replace hB := Gr.trans hB gd332
      replace L232 := (st312.lc (L232.gr (gd300.trans (g301.trans (g302.trans (g303.trans (g304.trans (g306.trans (g307.trans g309)))))))) ne232_310).gr gd332
      replace L240 := L240.gr gd332
      replace L310 := L310.gr gd332
      refine wp_region_ord (fun w' => Lc w' b232 #[t230_0, t230_1, t230_2, t230_3, t230_4, t230_5, t230_6, t230_7, t230_8, t230_9, t230_10, t230_11, t230_12, t230_13, t230_14, t230_15, t230_16, t230_17, t230_18, t230_19, t230_20, t230_21, t230_22, t230_23] 35 ∧ Lc w' b240 #[(.int .i64 ((akind (A0) (A1) (A2) (A3) (A4) (A5)))), t237_0, t237_1, t237_2, t237_3, t237_4, t237_5, t237_6, t237_7, t237_8, t237_9, t237_10, t237_11, t237_12, t237_13, t237_14, t237_15, t237_16, t237_17, t237_18, t237_19, t237_20, t237_21, t237_22, t237_23, t237_24, t237_25, t237_26, t237_27] 38 ∧ Lc w' b310 #[t307_0, t307_1, t307_2, t307_3, t307_4, t307_5, t307_6, t307_7, t307_8, t307_9, t307_10, t307_11] 33) [(true, 0), (true, 1), (true, 3), (true, 4), (true, 5), (true, 6), (false, 2), (false, 7), (false, 8), (true, 9), (true, 10), (true, 11), (true, 12), (true, 13), (false, 14), (false, 15), (true, 16), (true, 17), (true, 18)] (by kernel_rfl) (by kernel_rfl) (by kernel_rfl) (by decide) (fun _ _ _ _ _ h => h) ⟨L232, L240, L310⟩ ?_
      refine ord_pure (some 91) (.agg #[t230_0, t230_1, t230_2, t230_3, t230_4, t230_5, t230_6, t230_7, t230_8, t230_9, t230_10, t230_11, t230_12, t230_13, t230_14, t230_15, t230_16, t230_17, t230_18, t230_19, t230_20, t230_21, t230_22, t230_23]) rfl rfl rfl (fun w' hS => (rv_load 35 _ b232 0 _ _ [t230_0, t230_1, t230_2, t230_3, t230_4, t230_5, t230_6, t230_7, t230_8, t230_9, t230_10, t230_11, t230_12, t230_13, t230_14, t230_15, t230_16, t230_17, t230_18, t230_19, t230_20, t230_21, t230_22, t230_23] rfl rfl hS.1 rfl (by kernel_rfl))) ?_
      simp only [p1, p2, p3, p4]
      refine ord_pure (some 92) (.agg #[t307_0, t307_1, t307_2, t307_3, t307_4, t307_5, t307_6, t307_7, t307_8, t307_9, t307_10, t307_11]) rfl rfl rfl (fun w' hS => (rv_load 33 _ b310 0 _ _ [t307_0, t307_1, t307_2, t307_3, t307_4, t307_5, t307_6, t307_7, t307_8, t307_9, t307_10, t307_11] rfl rfl hS.2.2 rfl (by kernel_rfl))) ?_
      simp only [p1, p2, p3, p4]
      refine ord_pure (some 94) (.pointer (some ⟨b232, 0, none⟩)) rfl rfl rfl (fun w' hS => (rvk (by kernel_rfl))) ?_
      simp only [p1, p2, p3, p4]
      refine ord_pure (some 95) (.agg #[t230_0, t230_1, t230_2, t230_3, t230_4, t230_5, t230_6, t230_7, t230_8, t230_9, t230_10, t230_11]) rfl rfl rfl (fun w' hS => (rv_load 33 _ b232 0 _ _ [t230_0, t230_1, t230_2, t230_3, t230_4, t230_5, t230_6, t230_7, t230_8, t230_9, t230_10, t230_11] rfl rfl hS.1 rfl (by kernel_rfl))) ?_
      simp only [p1, p2, p3, p4]
      refine ord_pure (some 96) (.pointer (some ⟨b240, 25, none⟩)) rfl rfl rfl (fun w' hS => (rvk (by kernel_rfl))) ?_
      simp only [p1, p2, p3, p4]
      refine ord_pure (some 97) (.agg #[t237_24, t237_25, t237_26, t237_27]) rfl rfl rfl (fun w' hS => (rv_load 31 _ b240 25 _ _ [t237_24, t237_25, t237_26, t237_27] rfl rfl hS.2.1 rfl (by kernel_rfl))) ?_
      simp only [p1, p2, p3, p4]
      refine ord_eff rfl rfl (fun K333 k333 => ?_)
      have kq335 := g237.kp.trans (g240.kp.trans (kp242.trans (gd300.kp.trans (g301.kp.trans (g302.kp.trans (g303.kp.trans (g304.kp.trans (g306.kp.trans (g307.kp.trans (g309.kp.trans (kp312.trans gd332.kp)))))))))))
      replace h230a := h230a.kp kq335
      replace h230b := h230b.kp kq335
      replace h230c := h230c.kp kq335
      replace h230d := h230d.kp kq335
      replace h230e := h230e.kp kq335
      replace h230f := h230f.kp kq335
      have kq336 := g309.kp.trans (kp312.trans gd332.kp)
      replace h307a := h307a.kp kq336
      replace h307b := h307b.kp kq336
      replace h307c := h307c.kp kq336
      refine eff_call (some 93) rfl (by kernel_rfl) (tvel_v h230a h230b h230c h230d h230e h230f h307a h307b h307c (by omega)) ?_
      rintro e334 w334 ⟨⟨t334_0, t334_1, t334_2, t334_3, t334_4, t334_5, t334_6, t334_7, t334_8, t334_9, t334_10, t334_11, rfl, h334a, h334b, h334c⟩, g334⟩
      refine ⟨_, rfl, ?_⟩
      replace hB := Gr.trans hB g334
      replace L232 := L232.gr g334
      replace L240 := L240.gr g334
      replace L310 := L310.gr g334
      refine k333 _ _ ⟨L232, L240, L310⟩ ?_
      try clear k333 K333
      simp only [p1, p2, p3, p4]
      refine ord_eff rfl rfl (fun K337 k337 => ?_)
      replace h230a := h230a.kp g334.kp
      replace h230b := h230b.kp g334.kp
      replace h230c := h230c.kp g334.kp
      have kq339 := g240.kp.trans (kp242.trans (gd300.kp.trans (g301.kp.trans (g302.kp.trans (g303.kp.trans (g304.kp.trans (g306.kp.trans (g307.kp.trans (g309.kp.trans (kp312.trans (gd332.kp.trans g334.kp)))))))))))
      replace h237g := h237g.kp kq339
      refine eff_call (some 98) rfl (by kernel_rfl) (vscale_v h230a h230b h230c h237g (by omega)) ?_
      rintro e338 w338 ⟨⟨t338_0, t338_1, t338_2, t338_3, t338_4, t338_5, t338_6, t338_7, t338_8, t338_9, t338_10, t338_11, rfl, h338a, h338b, h338c⟩, g338⟩
      refine ⟨_, rfl, ?_⟩
      replace hB := Gr.trans hB g338
      replace L232 := L232.gr g338
      replace L240 := L240.gr g338
      replace L310 := L310.gr g338
      refine k337 _ _ ⟨L232, L240, L310⟩ ?_
      try clear k337 K337
      simp only [p1, p2, p3, p4]
      refine ord_eff rfl rfl (fun K340 k340 => ?_)
      replace h334a := h334a.kp g338.kp
      replace h334b := h334b.kp g338.kp
      replace h334c := h334c.kp g338.kp
      refine eff_call (some 99) rfl (by kernel_rfl) (vequal_v h334a h334b h334c h338a h338b h338c (by omega)) ?_
      rintro e341 w341 ⟨rfl, g341⟩
      refine ⟨_, rfl, ?_⟩
      replace hB := Gr.trans hB g341
      replace L232 := L232.gr g341
      replace L240 := L240.gr g341
      replace L310 := L310.gr g341
      refine k340 _ _ ⟨L232, L240, L310⟩ ?_
      try clear k340 K340
      simp only [p1, p2, p3, p4]
      have hb342 : (vcmp (A3 + (A1 * ((apt (A0) (A1) (A2) ((A0) * (A4) - (A1) * (A3))) + (FF * (adir (A0) (A1) (A2) (A3) (A4) (A5) (A2) (A5)))) - A2 * ((apt (A0) (A1) (A2) ((A2) * (A3) - (A0) * (A5))) + (FF * (adir (A0) (A1) (A2) (A3) (A4) (A5) (A1) (A4)))))) (A4 + (A2 * ((apt (A0) (A1) (A2) ((A1) * (A5) - (A2) * (A4))) + (FF * (adir (A0) (A1) (A2) (A3) (A4) (A5) (A0) (A3)))) - A0 * ((apt (A0) (A1) (A2) ((A0) * (A4) - (A1) * (A3))) + (FF * (adir (A0) (A1) (A2) (A3) (A4) (A5) (A2) (A5)))))) (A5 + (A0 * ((apt (A0) (A1) (A2) ((A2) * (A3) - (A0) * (A5))) + (FF * (adir (A0) (A1) (A2) (A3) (A4) (A5) (A1) (A4)))) - A1 * ((apt (A0) (A1) (A2) ((A1) * (A5) - (A2) * (A4))) + (FF * (adir (A0) (A1) (A2) (A3) (A4) (A5) (A0) (A3)))))) ((apit (A0) (A1) (A2) (A3) (A4) (A5)) * A0) ((apit (A0) (A1) (A2) (A3) (A4) (A5)) * A1) ((apit (A0) (A1) (A2) (A3) (A4) (A5)) * A2) == (0 : Int)) = true := (lawTu4 A0 A1 A2 A3 A4 A5 FF hA)
      refine ord_pure (some 100) (.bool true) rfl rfl rfl (fun w' hS => (RunV.bool (x := vcmp (A3 + (A1 * ((apt (A0) (A1) (A2) ((A0) * (A4) - (A1) * (A3))) + (FF * (adir (A0) (A1) (A2) (A3) (A4) (A5) (A2) (A5)))) - A2 * ((apt (A0) (A1) (A2) ((A2) * (A3) - (A0) * (A5))) + (FF * (adir (A0) (A1) (A2) (A3) (A4) (A5) (A1) (A4)))))) (A4 + (A2 * ((apt (A0) (A1) (A2) ((A1) * (A5) - (A2) * (A4))) + (FF * (adir (A0) (A1) (A2) (A3) (A4) (A5) (A0) (A3)))) - A0 * ((apt (A0) (A1) (A2) ((A0) * (A4) - (A1) * (A3))) + (FF * (adir (A0) (A1) (A2) (A3) (A4) (A5) (A2) (A5)))))) (A5 + (A0 * ((apt (A0) (A1) (A2) ((A2) * (A3) - (A0) * (A5))) + (FF * (adir (A0) (A1) (A2) (A3) (A4) (A5) (A1) (A4)))) - A1 * ((apt (A0) (A1) (A2) ((A1) * (A5) - (A2) * (A4))) + (FF * (adir (A0) (A1) (A2) (A3) (A4) (A5) (A0) (A3)))))) ((apit (A0) (A1) (A2) (A3) (A4) (A5)) * A0) ((apit (A0) (A1) (A2) (A3) (A4) (A5)) * A1) ((apit (A0) (A1) (A2) (A3) (A4) (A5)) * A2) == (0 : Int)) (rvk (by kernel_rfl)) hb342)) ?_
      simp only [p1, p2, p3, p4]
      refine ord_pureg (some 101) (.pointer (some ⟨b240, 13, none⟩)) rfl rfl (by kernel_rfl) (fun w' hS => (rvk (by kernel_rfl))) ?_
      simp only [p1, p2, p3, p4]
      refine ord_pureg (some 102) (.agg #[t237_12, t237_13, t237_14, t237_15, t237_16, t237_17, t237_18, t237_19, t237_20, t237_21, t237_22, t237_23]) rfl rfl (by kernel_rfl) (fun w' hS => (rv_load 33 _ b240 13 _ _ [t237_12, t237_13, t237_14, t237_15, t237_16, t237_17, t237_18, t237_19, t237_20, t237_21, t237_22, t237_23] rfl rfl hS.2.1 rfl (by kernel_rfl))) ?_
      simp only [p1, p2, p3, p4]
      refine ord_pureg (some 103) (.pointer (some ⟨b240, 1, none⟩)) rfl rfl (by kernel_rfl) (fun w' hS => (rvk (by kernel_rfl))) ?_
      simp only [p1, p2, p3, p4]
      refine ord_pureg (some 104) (.agg #[t237_0, t237_1, t237_2, t237_3, t237_4, t237_5, t237_6, t237_7, t237_8, t237_9, t237_10, t237_11]) rfl rfl (by kernel_rfl) (fun w' hS => (rv_load 33 _ b240 1 _ _ [t237_0, t237_1, t237_2, t237_3, t237_4, t237_5, t237_6, t237_7, t237_8, t237_9, t237_10, t237_11] rfl rfl hS.2.1 rfl (by kernel_rfl))) ?_
      simp only [p1, p2, p3, p4]
      refine ord_effg rfl (by kernel_rfl) (fun K343 k343 => ?_)
      have kq345 := g307.kp.trans (g309.kp.trans (kp312.trans (gd332.kp.trans (g334.kp.trans (g338.kp.trans g341.kp)))))
      replace h237d := h237d.kp kq345
      replace h237e := h237e.kp kq345
      replace h237f := h237f.kp kq345
      have kq346 := g304.kp.trans (g306.kp.trans (g307.kp.trans (g309.kp.trans (kp312.trans (gd332.kp.trans (g334.kp.trans (g338.kp.trans g341.kp)))))))
      replace h237a := h237a.kp kq346
      replace h237b := h237b.kp kq346
      replace h237c := h237c.kp kq346
      refine eff_call (some 105) rfl (by kernel_rfl) (dot_v h237d h237e h237f h237a h237b h237c (by omega)) ?_
      rintro e344 w344 ⟨⟨p344, q344, r344, s344, rfl, h344⟩, g344⟩
      refine ⟨_, rfl, ?_⟩
      replace hB := Gr.trans hB g344
      replace L232 := L232.gr g344
      replace L240 := L240.gr g344
      replace L310 := L310.gr g344
      refine k343 _ _ ⟨L232, L240, L310⟩ ?_
      try clear k343 K343
      simp only [p1, p2, p3, p4]
      refine ord_effg rfl (by kernel_rfl) (fun K347 k347 => ?_)
      refine eff_call (some 106) rfl (by kernel_rfl) (sign_r h344) ?_
      rintro e348 w348 ⟨rfl, g348⟩
      refine ⟨_, rfl, ?_⟩
      replace hB := Gr.trans hB g348
      replace L232 := L232.gr g348
      replace L240 := L240.gr g348
      replace L310 := L310.gr g348
      refine k347 _ _ ⟨L232, L240, L310⟩ ?_
      try clear k347 K347
      simp only [p1, p2, p3, p4]
      have hb349 : ((sgn ((0 + (apt (A0) (A1) (A2) ((A1) * (A5) - (A2) * (A4))) * (adir (A0) (A1) (A2) (A3) (A4) (A5) (A0) (A3)) + (apt (A0) (A1) (A2) ((A2) * (A3) - (A0) * (A5))) * (adir (A0) (A1) (A2) (A3) (A4) (A5) (A1) (A4)) + (apt (A0) (A1) (A2) ((A0) * (A4) - (A1) * (A3))) * (adir (A0) (A1) (A2) (A3) (A4) (A5) (A2) (A5)))).num == (0 : Int))) = true := (lawTu5 A0 A1 A2 A3 A4 A5 hA)
      refine ord_pureg (some 107) (.bool true) rfl rfl (by kernel_rfl) (fun w' hS => (RunV.bool (x := (sgn ((0 + (apt (A0) (A1) (A2) ((A1) * (A5) - (A2) * (A4))) * (adir (A0) (A1) (A2) (A3) (A4) (A5) (A0) (A3)) + (apt (A0) (A1) (A2) ((A2) * (A3) - (A0) * (A5))) * (adir (A0) (A1) (A2) (A3) (A4) (A5) (A1) (A4)) + (apt (A0) (A1) (A2) ((A0) * (A4) - (A1) * (A3))) * (adir (A0) (A1) (A2) (A3) (A4) (A5) (A2) (A5)))).num == (0 : Int))) (rvk (by kernel_rfl)) hb349)) ?_
      simp only [p1, p2, p3, p4]
      refine ord_pure (some 108) (.bool true) rfl rfl rfl (fun w' hS => (rvk (by kernel_rfl))) ?_
      simp only [p1, p2, p3, p4]
      refine ord_pure (some 6) (.bool true) rfl rfl rfl (fun w' hS => (rvk (by kernel_rfl))) ?_
      simp only [p1, p2, p3, p4]
      refine ord_nil ?_
      refine k313 _ _ ?_
      try clear k313 K313
      refine wp_ret ?_
      refine bodyPost_ret (v := (.bool true)) (ret_tmp rfl rfl) rfl ⟨?_, hB⟩
      exact rfl

theorem twist_turns (n0 n1 n2 n3 n4 n5 dd : Int) (in0 : -128 ≤ n0 ∧ n0 ≤ 127) (in1 : -128 ≤ n1 ∧ n1 ≤ 127) (in2 : -128 ≤ n2 ∧ n2 ≤ 127) (in3 : -128 ≤ n3 ∧ n3 ≤ 127) (in4 : -128 ≤ n4 ∧ n4 ≤ 127) (in5 : -128 ≤ n5 ∧ n5 ≤ 127) (idd : 0 ≤ dd ∧ dd ≤ 255) (m0 m1 m2 : Int) (im0 : -128 ≤ m0 ∧ m0 ≤ 127) (im1 : -128 ≤ m1 ∧ m1 ≤ 127) (im2 : -128 ≤ m2 ∧ m2 ≤ 127) (l0 l1 l2 : Int) (il0 : -128 ≤ l0 ∧ l0 ≤ 127) (il1 : -128 ≤ l1 ∧ l1 ≤ 127) (il2 : -128 ≤ l2 ∧ l2 ≤ 127) (ff : Int) (iff : -128 ≤ ff ∧ ff ≤ 127) (w : World) (ht : Tab w) :
    Calls Tryd.prog 5 #[(.agg #[(.int .i8 (n0)), (.int .i8 (n1)), (.int .i8 (n2)), (.int .i8 (n3)), (.int .i8 (n4)), (.int .i8 (n5)), (.int .u8 (dd))]), (.agg #[(.int .i8 (m0)), (.int .i8 (m1)), (.int .i8 (m2)), (.int .i8 (l0)), (.int .i8 (l1)), (.int .i8 (l2))]), .int .i8 ff] w fun e w' => e = .returned (.bool true) ∧ Gr w w' :=
  turns_q n0 n1 n2 n3 n4 n5 dd in0 in1 in2 in3 in4 in5 idd m0 m1 m2 im0 im1 im2 l0 l1 l2 il0 il1 il2 ff iff _ _ _ _ _ _ rfl rfl rfl rfl rfl rfl _ _ _ rfl rfl rfl _ _ _ rfl rfl rfl _ rfl w ht

end Go.Proofs.YtgopfikljndklaaDoor
