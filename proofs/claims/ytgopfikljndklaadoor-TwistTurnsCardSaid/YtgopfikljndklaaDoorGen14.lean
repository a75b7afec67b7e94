/- Printed by a program of the prover's: the examples of the chapter. -/
import Derived.Test.YtgopfikljndklaaDoorLit
namespace Go.Proofs.YtgopfikljndklaaDoor
open Go.RowKit

theorem lit1 {P : Program} {f : FuncId} {args : Array Value} {w : World} {a0 : Rat} {X0 : List UInt8} (h : Calls P f args w fun e w' => e = .returned (.string ⟨(ratL a0 : List UInt8).toArray⟩) ∧ Gr w w') (e0 : ratL a0 = X0) :
    Calls P f args w fun e w' => e = .returned (.string ⟨(X0 : List UInt8).toArray⟩) ∧ Gr w w' := by
  rw [e0] at h
  exact h

theorem lit3 {P : Program} {f : FuncId} {args : Array Value} {w : World} {a0 a1 a2 : Rat} {X0 X1 X2 : List UInt8} (h : Calls P f args w fun e w' => e = .returned (.agg #[.string ⟨(ratL a0 : List UInt8).toArray⟩, .string ⟨(ratL a1 : List UInt8).toArray⟩, .string ⟨(ratL a2 : List UInt8).toArray⟩]) ∧ Gr w w') (e0 : ratL a0 = X0) (e1 : ratL a1 = X1) (e2 : ratL a2 = X2) :
    Calls P f args w fun e w' => e = .returned (.agg #[.string ⟨(X0 : List UInt8).toArray⟩, .string ⟨(X1 : List UInt8).toArray⟩, .string ⟨(X2 : List UInt8).toArray⟩]) ∧ Gr w w' := by
  rw [e0, e1, e2] at h
  exact h

theorem lit6 {P : Program} {f : FuncId} {args : Array Value} {w : World} {a0 a1 a2 a3 a4 a5 : Rat} {X0 X1 X2 X3 X4 X5 : List UInt8} (h : Calls P f args w fun e w' => e = .returned (.agg #[.string ⟨(ratL a0 : List UInt8).toArray⟩, .string ⟨(ratL a1 : List UInt8).toArray⟩, .string ⟨(ratL a2 : List UInt8).toArray⟩, .string ⟨(ratL a3 : List UInt8).toArray⟩, .string ⟨(ratL a4 : List UInt8).toArray⟩, .string ⟨(ratL a5 : List UInt8).toArray⟩]) ∧ Gr w w') (e0 : ratL a0 = X0) (e1 : ratL a1 = X1) (e2 : ratL a2 = X2) (e3 : ratL a3 = X3) (e4 : ratL a4 = X4) (e5 : ratL a5 = X5) :
    Calls P f args w fun e w' => e = .returned (.agg #[.string ⟨(X0 : List UInt8).toArray⟩, .string ⟨(X1 : List UInt8).toArray⟩, .string ⟨(X2 : List UInt8).toArray⟩, .string ⟨(X3 : List UInt8).toArray⟩, .string ⟨(X4 : List UInt8).toArray⟩, .string ⟨(X5 : List UInt8).toArray⟩]) ∧ Gr w w' := by
  rw [e0, e1, e2, e3, e4, e5] at h
  exact h

set_option maxRecDepth 100000 in
set_option maxHeartbeats 4000000 in
theorem known_t (w : World) (ht : Tab w) :
    Calls Tryd.prog 9 #[] w fun e w' => e = .returned (.bool true) ∧ Gr w w' := by
  go_enter Tryd.func9, Tryd.ntmps9
  have hB := Gr.refl w
  refine wp_seq_k (fun K1 k1 => ?_)
  refine wp_region ?_
  simp only [List.size_toArray, List.length_cons, List.length_nil, Nat.reduceAdd, List.range, List.range.loop]
  refine sq_val (some 0) (.bool false) rfl rfl (by kernel_rfl) (rvk (by kernel_rfl)) ?_
  simp only [p1, p2, p3, p4]
  refine sq_nil ?_
  refine k1 _ _ ?_
  try clear k1 K1
  refine wp_seq_k (fun K2 k2 => ?_)
  refine wp_region ?_
  simp only [List.size_toArray, List.length_cons, List.length_nil, Nat.reduceAdd, List.range, List.range.loop]
  refine sq_val (some 3) (.agg #[(.int .i64 0), (.int .i64 0), (.int .i64 1)]) rfl rfl (by kernel_rfl) (rvk (by kernel_rfl)) ?_
  simp only [p1, p2, p3, p4]
  refine sq_eff rfl (by kernel_rfl) (fun K3 k3 => ?_)
  refine eff_call (some 4) rfl (by kernel_rfl) (vof_v (0) (0) (1) (by omega) (by omega) (by omega) _) ?_
  rintro e4 w4 ⟨⟨t4_0, t4_1, t4_2, t4_3, t4_4, t4_5, t4_6, t4_7, t4_8, t4_9, t4_10, t4_11, rfl, h4a, h4b, h4c⟩, g4⟩
  refine ⟨_, rfl, ?_⟩
  replace hB := Gr.trans hB g4
  rw [show ((((0 : Int) : Rat)) : Rat) = (0 : Rat) from by kernel_rfl] at h4a
  rw [show ((((0 : Int) : Rat)) : Rat) = (0 : Rat) from by kernel_rfl] at h4b
  rw [show ((((1 : Int) : Rat)) : Rat) = (1 : Rat) from by kernel_rfl] at h4c
  refine k3 _ _ ?_
  try clear k3 K3
  simp only [p1, p2, p3, p4]
  refine sq_val (some 5) (.agg #[(.int .i64 1), (.int .i64 0), (.int .i64 0)]) rfl rfl (by kernel_rfl) (rvk (by kernel_rfl)) ?_
  simp only [p1, p2, p3, p4]
  refine sq_eff rfl (by kernel_rfl) (fun K5 k5 => ?_)
  refine eff_call (some 6) rfl (by kernel_rfl) (vof_v (1) (0) (0) (by omega) (by omega) (by omega) _) ?_
  rintro e6 w6 ⟨⟨t6_0, t6_1, t6_2, t6_3, t6_4, t6_5, t6_6, t6_7, t6_8, t6_9, t6_10, t6_11, rfl, h6a, h6b, h6c⟩, g6⟩
  refine ⟨_, rfl, ?_⟩
  replace hB := Gr.trans hB g6
  rw [show ((((1 : Int) : Rat)) : Rat) = (1 : Rat) from by kernel_rfl] at h6a
  rw [show ((((0 : Int) : Rat)) : Rat) = (0 : Rat) from by kernel_rfl] at h6b
  rw [show ((((0 : Int) : Rat)) : Rat) = (0 : Rat) from by kernel_rfl] at h6c
  refine k5 _ _ ?_
  try clear k5 K5
  simp only [p1, p2, p3, p4]
  refine sq_eff rfl (by kernel_rfl) (fun K7 k7 => ?_)
  replace h4a := h4a.kp g6.kp
  replace h4b := h4b.kp g6.kp
  replace h4c := h4c.kp g6.kp
  refine eff_call (some 7) rfl (by kernel_rfl) (trot_v h4a h4b h4c h6a h6b h6c (by omega)) ?_
  rintro e8 w8 ⟨⟨t8_0, t8_1, t8_2, t8_3, t8_4, t8_5, t8_6, t8_7, t8_8, t8_9, t8_10, t8_11, t8_12, t8_13, t8_14, t8_15, t8_16, t8_17, t8_18, t8_19, t8_20, t8_21, t8_22, t8_23, rfl, h8a, h8b, h8c, h8d, h8e, h8f⟩, g8⟩
  refine ⟨_, rfl, ?_⟩
  replace hB := Gr.trans hB g8
  rw [show (((0 : Rat) * (1 : Rat) - (0 : Rat) * (0 : Rat)) : Rat) = (0 : Rat) from by kernel_rfl] at h8d
  rw [show (((0 : Rat) * (0 : Rat) - (1 : Rat) * (1 : Rat)) : Rat) = (-1 : Rat) from by kernel_rfl] at h8e
  rw [show (((1 : Rat) * (0 : Rat) - (0 : Rat) * (0 : Rat)) : Rat) = (0 : Rat) from by kernel_rfl] at h8f
  refine k7 _ _ ?_
  try clear k7 K7
  simp only [p1, p2, p3, p4]
  refine sq_eff rfl (by kernel_rfl) (fun K9 k9 => ?_)
  refine eff_alloc 35 (.agg #[(.bool false), (.slice none 0 0), (.bool false), (.slice none 0 0), (.bool false), (.slice none 0 0), (.bool false), (.slice none 0 0), (.bool false), (.slice none 0 0), (.bool false), (.slice none 0 0), (.bool false), (.slice none 0 0), (.bool false), (.slice none 0 0), (.bool false), (.slice none 0 0), (.bool false), (.slice none 0 0), (.bool false), (.slice none 0 0), (.bool false), (.slice none 0 0)]) #[(.bool false), (.slice none 0 0), (.bool false), (.slice none 0 0), (.bool false), (.slice none 0 0), (.bool false), (.slice none 0 0), (.bool false), (.slice none 0 0), (.bool false), (.slice none 0 0), (.bool false), (.slice none 0 0), (.bool false), (.slice none 0 0), (.bool false), (.slice none 0 0), (.bool false), (.slice none 0 0), (.bool false), (.slice none 0 0), (.bool false), (.slice none 0 0)] (some 1) rfl rfl (by kernel_rfl) rfl (fun b10 w10 g10 L10 q10 => ?_)
  replace q10 := Nat.le_trans (Below.size hB) q10
  replace hB := Gr.trans hB g10
  refine k9 _ _ ?_
  try clear k9 K9
  simp only [p1, p2, p3, p4]
  refine sq_eff rfl (by kernel_rfl) (fun K11 k11 => ?_)
  refine eff_store 35 _ _ b10 0 (.agg #[t8_0, t8_1, t8_2, t8_3, t8_4, t8_5, t8_6, t8_7, t8_8, t8_9, t8_10, t8_11, t8_12, t8_13, t8_14, t8_15, t8_16, t8_17, t8_18, t8_19, t8_20, t8_21, t8_22, t8_23]) [t8_0, t8_1, t8_2, t8_3, t8_4, t8_5, t8_6, t8_7, t8_8, t8_9, t8_10, t8_11, t8_12, t8_13, t8_14, t8_15, t8_16, t8_17, t8_18, t8_19, t8_20, t8_21, t8_22, t8_23] _ #[t8_0, t8_1, t8_2, t8_3, t8_4, t8_5, t8_6, t8_7, t8_8, t8_9, t8_10, t8_11, t8_12, t8_13, t8_14, t8_15, t8_16, t8_17, t8_18, t8_19, t8_20, t8_21, t8_22, t8_23] _ rfl rfl rfl rfl rfl L10 (by kernel_rfl) (Nat.le_of_ble_eq_true rfl) ⟨h8a.one0, h8a.one1, h8a.one2, h8a.one3, h8b.one0, h8b.one1, h8b.one2, h8b.one3, h8c.one0, h8c.one1, h8c.one2, h8c.one3, h8d.one0, h8d.one1, h8d.one2, h8d.one3, h8e.one0, h8e.one1, h8e.one2, h8e.one3, h8f.one0, h8f.one1, h8f.one2, h8f.one3, trivial⟩ (by kernel_rfl) (fun w12 st12 N12 => ?_)
  have kp12 := st12.kp L10 (by decide)
  replace hB := st12.gr hB q10
  replace L10 := N12
  refine k11 _ _ ?_
  try clear k11 K11
  refine sq_nil ?_
  refine k2 _ _ ?_
  try clear k2 K2
  refine wp_seq_k (fun K13 k13 => ?_)
  refine wp_region ?_
  simp only [List.size_toArray, List.length_cons, List.length_nil, Nat.reduceAdd, List.range, List.range.loop]
  refine sq_val (some 8) (.agg #[(.int .i64 0), (.int .i64 0), (.int .i64 2)]) rfl rfl (by kernel_rfl) (rvk (by kernel_rfl)) ?_
  simp only [p1, p2, p3, p4]
  refine sq_eff rfl (by kernel_rfl) (fun K14 k14 => ?_)
  refine eff_call (some 9) rfl (by kernel_rfl) (vof_v (0) (0) (2) (by omega) (by omega) (by omega) _) ?_
  rintro e15 w15 ⟨⟨t15_0, t15_1, t15_2, t15_3, t15_4, t15_5, t15_6, t15_7, t15_8, t15_9, t15_10, t15_11, rfl, h15a, h15b, h15c⟩, g15⟩
  refine ⟨_, rfl, ?_⟩
  replace hB := Gr.trans hB g15
  rw [show ((((0 : Int) : Rat)) : Rat) = (0 : Rat) from by kernel_rfl] at h15a
  rw [show ((((0 : Int) : Rat)) : Rat) = (0 : Rat) from by kernel_rfl] at h15b
  rw [show ((((2 : Int) : Rat)) : Rat) = (2 : Rat) from by kernel_rfl] at h15c
  refine k14 _ _ ?_
  try clear k14 K14
  simp only [p1, p2, p3, p4]
  refine sq_val (some 10) (.agg #[(.int .i64 0), (.int .i64 (-2)), (.int .i64 4)]) rfl rfl (by kernel_rfl) (rvk (by kernel_rfl)) ?_
  simp only [p1, p2, p3, p4]
  refine sq_eff rfl (by kernel_rfl) (fun K16 k16 => ?_)
  refine eff_call (some 11) rfl (by kernel_rfl) (vof_v (0) (-2) (4) (by omega) (by omega) (by omega) _) ?_
  rintro e17 w17 ⟨⟨t17_0, t17_1, t17_2, t17_3, t17_4, t17_5, t17_6, t17_7, t17_8, t17_9, t17_10, t17_11, rfl, h17a, h17b, h17c⟩, g17⟩
  refine ⟨_, rfl, ?_⟩
  replace hB := Gr.trans hB g17
  rw [show ((((0 : Int) : Rat)) : Rat) = (0 : Rat) from by kernel_rfl] at h17a
  rw [show ((((-2 : Int) : Rat)) : Rat) = (-2 : Rat) from by kernel_rfl] at h17b
  rw [show ((((4 : Int) : Rat)) : Rat) = (4 : Rat) from by kernel_rfl] at h17c
  refine k16 _ _ ?_
  try clear k16 K16
  simp only [p1, p2, p3, p4]
  refine sq_val (some 12) (.agg #[t15_0, t15_1, t15_2, t15_3, t15_4, t15_5, t15_6, t15_7, t15_8, t15_9, t15_10, t15_11, t17_0, t17_1, t17_2, t17_3, t17_4, t17_5, t17_6, t17_7, t17_8, t17_9, t17_10, t17_11]) rfl rfl (by kernel_rfl) (rvk (by kernel_rfl)) ?_
  simp only [p1, p2, p3, p4]
  refine sq_eff rfl (by kernel_rfl) (fun K18 k18 => ?_)
  replace h15a := h15a.kp g17.kp
  replace h15b := h15b.kp g17.kp
  replace h15c := h15c.kp g17.kp
  refine eff_call (some 13) rfl (by kernel_rfl) (axis_s h15a h15b h15c h17a h17b h17c (by omega) (by decide +kernel) (by decide +kernel)) ?_
  rintro e19 w19 ⟨⟨t19_0, t19_1, t19_2, t19_3, t19_4, t19_5, t19_6, t19_7, t19_8, t19_9, t19_10, t19_11, t19_12, t19_13, t19_14, t19_15, t19_16, t19_17, t19_18, t19_19, t19_20, t19_21, t19_22, t19_23, t19_24, t19_25, t19_26, t19_27, rfl, h19a, h19b, h19c, h19d, h19e, h19f, h19g⟩, g19⟩
  refine ⟨_, rfl, ?_⟩
  replace hB := Gr.trans hB g19
  rw [show ((prim ((0 : Rat)) ((0 : Rat)) ((2 : Rat)) ((0 : Rat))) : Rat) = (0 : Rat) from by kernel_rfl] at h19a
  rw [show ((prim ((0 : Rat)) ((0 : Rat)) ((2 : Rat)) ((0 : Rat))) : Rat) = (0 : Rat) from by kernel_rfl] at h19b
  rw [show ((prim ((0 : Rat)) ((0 : Rat)) ((2 : Rat)) ((2 : Rat))) : Rat) = (1 : Rat) from by kernel_rfl] at h19c
  rw [show (((((1 : Int) : Rat) / (0 + (0 : Rat) * (0 : Rat) + (0 : Rat) * (0 : Rat) + (2 : Rat) * (2 : Rat))) * ((0 : Rat) * (4 : Rat) - (2 : Rat) * (-2 : Rat))) : Rat) = (1 : Rat) from by kernel_rfl] at h19d
  rw [show (((((1 : Int) : Rat) / (0 + (0 : Rat) * (0 : Rat) + (0 : Rat) * (0 : Rat) + (2 : Rat) * (2 : Rat))) * ((2 : Rat) * (0 : Rat) - (0 : Rat) * (4 : Rat))) : Rat) = (0 : Rat) from by kernel_rfl] at h19e
  rw [show (((((1 : Int) : Rat) / (0 + (0 : Rat) * (0 : Rat) + (0 : Rat) * (0 : Rat) + (2 : Rat) * (2 : Rat))) * ((0 : Rat) * (-2 : Rat) - (0 : Rat) * (0 : Rat))) : Rat) = (0 : Rat) from by kernel_rfl] at h19f
  rw [show (((0 + (0 : Rat) * (0 : Rat) + (0 : Rat) * (-2 : Rat) + (2 : Rat) * (4 : Rat)) * (((1 : Int) : Rat) / (0 + (0 : Rat) * (0 : Rat) + (0 : Rat) * (0 : Rat) + (2 : Rat) * (2 : Rat)))) : Rat) = (2 : Rat) from by kernel_rfl] at h19g
  refine k18 _ _ ?_
  try clear k18 K18
  simp only [p1, p2, p3, p4]
  refine sq_eff rfl (by kernel_rfl) (fun K20 k20 => ?_)
  refine eff_alloc 38 (.agg #[(.int .i64 0), (.bool false), (.slice none 0 0), (.bool false), (.slice none 0 0), (.bool false), (.slice none 0 0), (.bool false), (.slice none 0 0), (.bool false), (.slice none 0 0), (.bool false), (.slice none 0 0), (.bool false), (.slice none 0 0), (.bool false), (.slice none 0 0), (.bool false), (.slice none 0 0), (.bool false), (.slice none 0 0), (.bool false), (.slice none 0 0), (.bool false), (.slice none 0 0), (.bool false), (.slice none 0 0), (.bool false), (.slice none 0 0)]) #[(.int .i64 0), (.bool false), (.slice none 0 0), (.bool false), (.slice none 0 0), (.bool false), (.slice none 0 0), (.bool false), (.slice none 0 0), (.bool false), (.slice none 0 0), (.bool false), (.slice none 0 0), (.bool false), (.slice none 0 0), (.bool false), (.slice none 0 0), (.bool false), (.slice none 0 0), (.bool false), (.slice none 0 0), (.bool false), (.slice none 0 0), (.bool false), (.slice none 0 0), (.bool false), (.slice none 0 0), (.bool false), (.slice none 0 0)] (some 2) rfl rfl (by kernel_rfl) rfl (fun b21 w21 g21 L21 q21 => ?_)
  replace L10 := L10.gr (g15.trans (g17.trans g19))
  have ne10_21 := L10.ne q21
  replace q21 := Nat.le_trans (Below.size hB) q21
  replace hB := Gr.trans hB g21
  refine k20 _ _ ?_
  try clear k20 K20
  simp only [p1, p2, p3, p4]
  refine sq_eff rfl (by kernel_rfl) (fun K22 k22 => ?_)
  refine eff_store 38 _ _ b21 0 (.agg #[(.int .i64 3), t19_0, t19_1, t19_2, t19_3, t19_4, t19_5, t19_6, t19_7, t19_8, t19_9, t19_10, t19_11, t19_12, t19_13, t19_14, t19_15, t19_16, t19_17, t19_18, t19_19, t19_20, t19_21, t19_22, t19_23, t19_24, t19_25, t19_26, t19_27]) [(.int .i64 3), t19_0, t19_1, t19_2, t19_3, t19_4, t19_5, t19_6, t19_7, t19_8, t19_9, t19_10, t19_11, t19_12, t19_13, t19_14, t19_15, t19_16, t19_17, t19_18, t19_19, t19_20, t19_21, t19_22, t19_23, t19_24, t19_25, t19_26, t19_27] _ #[(.int .i64 3), t19_0, t19_1, t19_2, t19_3, t19_4, t19_5, t19_6, t19_7, t19_8, t19_9, t19_10, t19_11, t19_12, t19_13, t19_14, t19_15, t19_16, t19_17, t19_18, t19_19, t19_20, t19_21, t19_22, t19_23, t19_24, t19_25, t19_26, t19_27] _ rfl rfl rfl rfl rfl L21 (by kernel_rfl) (Nat.le_of_ble_eq_true rfl) ⟨rfl, h19a.one0, h19a.one1, h19a.one2, h19a.one3, h19b.one0, h19b.one1, h19b.one2, h19b.one3, h19c.one0, h19c.one1, h19c.one2, h19c.one3, h19d.one0, h19d.one1, h19d.one2, h19d.one3, h19e.one0, h19e.one1, h19e.one2, h19e.one3, h19f.one0, h19f.one1, h19f.one2, h19f.one3, h19g.one0, h19g.one1, h19g.one2, h19g.one3, trivial⟩ (by kernel_rfl) (fun w23 st23 N23 => ?_)
  have kp23 := st23.kp L21 (by decide)
  replace hB := st23.gr hB q21
  replace L21 := N23
  refine k22 _ _ ?_
  try clear k22 K22
  refine sq_nil ?_
  refine k13 _ _ ?_
  try clear k13 K13
  refine wp_seq_k (fun K24 k24 => ?_)
  have gd45 := Gr.drew w23
  replace hB := Gr.trans hB gd45
  replace L10 := (st23.lc (L10.gr g21) ne10_21).gr gd45
  replace L21 := L21.gr gd45
  refine wp_region_ord (fun w' => Lc w' b10 #[t8_0, t8_1, t8_2, t8_3, t8_4, t8_5, t8_6, t8_7, t8_8, t8_9, t8_10, t8_11, t8_12, t8_13, t8_14, t8_15, t8_16, t8_17, t8_18, t8_19, t8_20, t8_21, t8_22, t8_23] 35 ∧ Lc w' b21 #[(.int .i64 3), t19_0, t19_1, t19_2, t19_3, t19_4, t19_5, t19_6, t19_7, t19_8, t19_9, t19_10, t19_11, t19_12, t19_13, t19_14, t19_15, t19_16, t19_17, t19_18, t19_19, t19_20, t19_21, t19_22, t19_23, t19_24, t19_25, t19_26, t19_27] 38) [(true, 0), (true, 2), (false, 1), (true, 3), (true, 4), (true, 5), (true, 6), (true, 10), (false, 7), (false, 8), (false, 9), (true, 11), (true, 12), (true, 13), (true, 14), (true, 15), (true, 16), (true, 17), (true, 18), (true, 19), (true, 20), (true, 22), (false, 21), (true, 23), (true, 24), (true, 25), (true, 26), (true, 27), (true, 29), (false, 28), (true, 30), (true, 31), (true, 32), (true, 33), (true, 34), (false, 35), (true, 36), (true, 37), (true, 38)] (by kernel_rfl) (by kernel_rfl) (by kernel_rfl) (by decide) (fun _ _ _ _ _ h => h) ⟨L10, L21⟩ ?_
  refine ord_pure (some 14) (.agg #[t8_0, t8_1, t8_2, t8_3, t8_4, t8_5, t8_6, t8_7, t8_8, t8_9, t8_10, t8_11, t8_12, t8_13, t8_14, t8_15, t8_16, t8_17, t8_18, t8_19, t8_20, t8_21, t8_22, t8_23]) rfl rfl rfl (fun w' hS => (rv_load 35 _ b10 0 _ _ [t8_0, t8_1, t8_2, t8_3, t8_4, t8_5, t8_6, t8_7, t8_8, t8_9, t8_10, t8_11, t8_12, t8_13, t8_14, t8_15, t8_16, t8_17, t8_18, t8_19, t8_20, t8_21, t8_22, t8_23] rfl rfl hS.1 rfl (by kernel_rfl))) ?_
  simp only [p1, p2, p3, p4]
  refine ord_pure (some 16) (.agg #[(.string ⟨([48] : List UInt8).toArray⟩), (.string ⟨([48] : List UInt8).toArray⟩), (.string ⟨([49] : List UInt8).toArray⟩), (.string ⟨([48] : List UInt8).toArray⟩), (.string ⟨([45, 49] : List UInt8).toArray⟩), (.string ⟨([48] : List UInt8).toArray⟩)]) rfl rfl rfl (fun w' hS => (rvk (by kernel_rfl))) ?_
  simp only [p1, p2, p3, p4]
  refine ord_eff rfl rfl (fun K46 k46 => ?_)
  have kq48 := g10.kp.trans (kp12.trans (g15.kp.trans (g17.kp.trans (g19.kp.trans (g21.kp.trans (kp23.trans gd45.kp))))))
  replace h8a := h8a.kp kq48
  replace h8b := h8b.kp kq48
  replace h8c := h8c.kp kq48
  replace h8d := h8d.kp kq48
  replace h8e := h8e.kp kq48
  replace h8f := h8f.kp kq48
  refine eff_call (some 15) rfl (by kernel_rfl) (lit6 (tnumbers_v h8a h8b h8c h8d h8e h8f (by omega) (ht.gr hB)) (ratL_lit 0 (by kernel_rfl) (by decide) rfl) (ratL_lit 0 (by kernel_rfl) (by decide) rfl) (ratL_lit 1 (by kernel_rfl) (by decide) rfl) (ratL_lit 0 (by kernel_rfl) (by decide) rfl) (ratL_neg 1 (by kernel_rfl) (by decide) (by decide) rfl) (ratL_lit 0 (by kernel_rfl) (by decide) rfl)) ?_
  rintro e47 w47 ⟨rfl, g47⟩
  refine ⟨_, rfl, ?_⟩
  replace hB := Gr.trans hB g47
  replace L10 := L10.gr g47
  replace L21 := L21.gr g47
  refine k46 _ _ ⟨L10, L21⟩ ?_
  try clear k46 K46
  simp only [p1, p2, p3, p4]
  refine ord_pure (some 17) (.bool true) rfl rfl rfl (fun w' hS => (rvk (by kernel_rfl))) ?_
  simp only [p1, p2, p3, p4]
  refine ord_pure (some 18) (.bool true) rfl rfl rfl (fun w' hS => (rvk (by kernel_rfl))) ?_
  simp only [p1, p2, p3, p4]
  refine ord_pureg (some 19) (.agg #[t8_0, t8_1, t8_2, t8_3, t8_4, t8_5, t8_6, t8_7, t8_8, t8_9, t8_10, t8_11, t8_12, t8_13, t8_14, t8_15, t8_16, t8_17, t8_18, t8_19, t8_20, t8_21, t8_22, t8_23]) rfl rfl (by kernel_rfl) (fun w' hS => (rv_load 35 _ b10 0 _ _ [t8_0, t8_1, t8_2, t8_3, t8_4, t8_5, t8_6, t8_7, t8_8, t8_9, t8_10, t8_11, t8_12, t8_13, t8_14, t8_15, t8_16, t8_17, t8_18, t8_19, t8_20, t8_21, t8_22, t8_23] rfl rfl hS.1 rfl (by kernel_rfl))) ?_
  simp only [p1, p2, p3, p4]
  refine ord_pureg (some 20) (.agg #[(.int .i64 2), (.int .i64 0), (.int .i64 0)]) rfl rfl (by kernel_rfl) (fun w' hS => (rvk (by kernel_rfl))) ?_
  simp only [p1, p2, p3, p4]
  refine ord_pureg (some 24) (.agg #[(.string ⟨([48] : List UInt8).toArray⟩), (.string ⟨([49] : List UInt8).toArray⟩), (.string ⟨([48] : List UInt8).toArray⟩)]) rfl rfl (by kernel_rfl) (fun w' hS => (rvk (by kernel_rfl))) ?_
  simp only [p1, p2, p3, p4]
  refine ord_effg rfl (by kernel_rfl) (fun K49 k49 => ?_)
  refine eff_call (some 21) rfl (by kernel_rfl) (vof_v (2) (0) (0) (by omega) (by omega) (by omega) _) ?_
  rintro e50 w50 ⟨⟨t50_0, t50_1, t50_2, t50_3, t50_4, t50_5, t50_6, t50_7, t50_8, t50_9, t50_10, t50_11, rfl, h50a, h50b, h50c⟩, g50⟩
  refine ⟨_, rfl, ?_⟩
  replace hB := Gr.trans hB g50
  rw [show ((((2 : Int) : Rat)) : Rat) = (2 : Rat) from by kernel_rfl] at h50a
  rw [show ((((0 : Int) : Rat)) : Rat) = (0 : Rat) from by kernel_rfl] at h50b
  rw [show ((((0 : Int) : Rat)) : Rat) = (0 : Rat) from by kernel_rfl] at h50c
  replace L10 := L10.gr g50
  replace L21 := L21.gr g50
  refine k49 _ _ ⟨L10, L21⟩ ?_
  try clear k49 K49
  simp only [p1, p2, p3, p4]
  refine ord_effg rfl (by kernel_rfl) (fun K51 k51 => ?_)
  have kq53 := g47.kp.trans g50.kp
  replace h8a := h8a.kp kq53
  replace h8b := h8b.kp kq53
  replace h8c := h8c.kp kq53
  replace h8d := h8d.kp kq53
  replace h8e := h8e.kp kq53
  replace h8f := h8f.kp kq53
  refine eff_call (some 22) rfl (by kernel_rfl) (tvel_v (h8a.mono (show _ ≤ 257 by omega)) (h8b.mono (show _ ≤ 257 by omega)) (h8c.mono (show _ ≤ 257 by omega)) h8d h8e h8f h50a h50b h50c (by omega)) ?_
  rintro e52 w52 ⟨⟨t52_0, t52_1, t52_2, t52_3, t52_4, t52_5, t52_6, t52_7, t52_8, t52_9, t52_10, t52_11, rfl, h52a, h52b, h52c⟩, g52⟩
  refine ⟨_, rfl, ?_⟩
  replace hB := Gr.trans hB g52
  rw [show (((0 : Rat) + ((0 : Rat) * (0 : Rat) - (1 : Rat) * (0 : Rat))) : Rat) = (0 : Rat) from by kernel_rfl] at h52a
  rw [show (((-1 : Rat) + ((1 : Rat) * (2 : Rat) - (0 : Rat) * (0 : Rat))) : Rat) = (1 : Rat) from by kernel_rfl] at h52b
  rw [show (((0 : Rat) + ((0 : Rat) * (0 : Rat) - (0 : Rat) * (2 : Rat))) : Rat) = (0 : Rat) from by kernel_rfl] at h52c
  replace L10 := L10.gr g52
  replace L21 := L21.gr g52
  refine k51 _ _ ⟨L10, L21⟩ ?_
  try clear k51 K51
  simp only [p1, p2, p3, p4]
  refine ord_effg rfl (by kernel_rfl) (fun K54 k54 => ?_)
  refine eff_call (some 23) rfl (by kernel_rfl) (lit3 (vpoint_v h52a h52b h52c (by omega) (ht.gr hB)) (ratL_lit 0 (by kernel_rfl) (by decide) rfl) (ratL_lit 1 (by kernel_rfl) (by decide) rfl) (ratL_lit 0 (by kernel_rfl) (by decide) rfl)) ?_
  rintro e55 w55 ⟨rfl, g55⟩
  refine ⟨_, rfl, ?_⟩
  replace hB := Gr.trans hB g55
  replace L10 := L10.gr g55
  replace L21 := L21.gr g55
  refine k54 _ _ ⟨L10, L21⟩ ?_
  try clear k54 K54
  simp only [p1, p2, p3, p4]
  refine ord_pureg (some 25) (.bool true) rfl rfl (by kernel_rfl) (fun w' hS => (rvk (by kernel_rfl))) ?_
  simp only [p1, p2, p3, p4]
  refine ord_pure (some 26) (.bool true) rfl rfl rfl (fun w' hS => (rvk (by kernel_rfl))) ?_
  simp only [p1, p2, p3, p4]
  refine ord_pure (some 27) (.bool true) rfl rfl rfl (fun w' hS => (rvk (by kernel_rfl))) ?_
  simp only [p1, p2, p3, p4]
  refine ord_pureg (some 28) (.pointer (some ⟨b21, 0, none⟩)) rfl rfl (by kernel_rfl) (fun w' hS => (rvk (by kernel_rfl))) ?_
  simp only [p1, p2, p3, p4]
  refine ord_pureg (some 29) (.int .i64 3) rfl rfl (by kernel_rfl) (fun w' hS => (rv_load1 3 _ b21 0 _ _ (.int .i64 3) rfl rfl hS.2 rfl (by kernel_rfl))) ?_
  simp only [p1, p2, p3, p4]
  refine ord_pureg (some 30) (.bool true) rfl rfl (by kernel_rfl) (fun w' hS => (rvk (by kernel_rfl))) ?_
  simp only [p1, p2, p3, p4]
  refine ord_pure (some 31) (.bool true) rfl rfl rfl (fun w' hS => (rvk (by kernel_rfl))) ?_
  simp only [p1, p2, p3, p4]
  refine ord_pure (some 32) (.bool true) rfl rfl rfl (fun w' hS => (rvk (by kernel_rfl))) ?_
  simp only [p1, p2, p3, p4]
  refine ord_pureg (some 33) (.pointer (some ⟨b21, 1, none⟩)) rfl rfl (by kernel_rfl) (fun w' hS => (rvk (by kernel_rfl))) ?_
  simp only [p1, p2, p3, p4]
  refine ord_pureg (some 34) (.agg #[t19_0, t19_1, t19_2, t19_3, t19_4, t19_5, t19_6, t19_7, t19_8, t19_9, t19_10, t19_11]) rfl rfl (by kernel_rfl) (fun w' hS => (rv_load 33 _ b21 1 _ _ [t19_0, t19_1, t19_2, t19_3, t19_4, t19_5, t19_6, t19_7, t19_8, t19_9, t19_10, t19_11] rfl rfl hS.2 rfl (by kernel_rfl))) ?_
  simp only [p1, p2, p3, p4]
  refine ord_pureg (some 36) (.agg #[(.string ⟨([48] : List UInt8).toArray⟩), (.string ⟨([48] : List UInt8).toArray⟩), (.string ⟨([49] : List UInt8).toArray⟩)]) rfl rfl (by kernel_rfl) (fun w' hS => (rvk (by kernel_rfl))) ?_
  simp only [p1, p2, p3, p4]
  refine ord_effg rfl (by kernel_rfl) (fun K56 k56 => ?_)
  have kq58 := g21.kp.trans (kp23.trans (gd45.kp.trans (g47.kp.trans (g50.kp.trans (g52.kp.trans g55.kp)))))
  replace h19a := h19a.kp kq58
  replace h19b := h19b.kp kq58
  replace h19c := h19c.kp kq58
  refine eff_call (some 35) rfl (by kernel_rfl) (lit3 (vpoint_v h19a h19b h19c (by omega) (ht.gr hB)) (ratL_lit 0 (by kernel_rfl) (by decide) rfl) (ratL_lit 0 (by kernel_rfl) (by decide) rfl) (ratL_lit 1 (by kernel_rfl) (by decide) rfl)) ?_
  rintro e57 w57 ⟨rfl, g57⟩
  refine ⟨_, rfl, ?_⟩
  replace hB := Gr.trans hB g57
  replace L10 := L10.gr g57
  replace L21 := L21.gr g57
  refine k56 _ _ ⟨L10, L21⟩ ?_
  try clear k56 K56
  simp only [p1, p2, p3, p4]
  refine ord_pureg (some 37) (.bool true) rfl rfl (by kernel_rfl) (fun w' hS => (rvk (by kernel_rfl))) ?_
  simp only [p1, p2, p3, p4]
  refine ord_pure (some 38) (.bool true) rfl rfl rfl (fun w' hS => (rvk (by kernel_rfl))) ?_
  simp only [p1, p2, p3, p4]
  refine ord_pure (some 39) (.bool true) rfl rfl rfl (fun w' hS => (rvk (by kernel_rfl))) ?_
  simp only [p1, p2, p3, p4]
  refine ord_pureg (some 40) (.pointer (some ⟨b21, 13, none⟩)) rfl rfl (by kernel_rfl) (fun w' hS => (rvk (by kernel_rfl))) ?_
  simp only [p1, p2, p3, p4]
  refine ord_pureg (some 41) (.agg #[t19_12, t19_13, t19_14, t19_15, t19_16, t19_17, t19_18, t19_19, t19_20, t19_21, t19_22, t19_23]) rfl rfl (by kernel_rfl) (fun w' hS => (rv_load 33 _ b21 13 _ _ [t19_12, t19_13, t19_14, t19_15, t19_16, t19_17, t19_18, t19_19, t19_20, t19_21, t19_22, t19_23] rfl rfl hS.2 rfl (by kernel_rfl))) ?_
  simp only [p1, p2, p3, p4]
  refine ord_pureg (some 43) (.agg #[(.string ⟨([49] : List UInt8).toArray⟩), (.string ⟨([48] : List UInt8).toArray⟩), (.string ⟨([48] : List UInt8).toArray⟩)]) rfl rfl (by kernel_rfl) (fun w' hS => (rvk (by kernel_rfl))) ?_
  simp only [p1, p2, p3, p4]
  refine ord_effg rfl (by kernel_rfl) (fun K59 k59 => ?_)
  have kq61 := g21.kp.trans (kp23.trans (gd45.kp.trans (g47.kp.trans (g50.kp.trans (g52.kp.trans (g55.kp.trans g57.kp))))))
  replace h19d := h19d.kp kq61
  replace h19e := h19e.kp kq61
  replace h19f := h19f.kp kq61
  refine eff_call (some 42) rfl (by kernel_rfl) (lit3 (vpoint_v h19d h19e h19f (by omega) (ht.gr hB)) (ratL_lit 1 (by kernel_rfl) (by decide) rfl) (ratL_lit 0 (by kernel_rfl) (by decide) rfl) (ratL_lit 0 (by kernel_rfl) (by decide) rfl)) ?_
  rintro e60 w60 ⟨rfl, g60⟩
  refine ⟨_, rfl, ?_⟩
  replace hB := Gr.trans hB g60
  replace L10 := L10.gr g60
  replace L21 := L21.gr g60
  refine k59 _ _ ⟨L10, L21⟩ ?_
  try clear k59 K59
  simp only [p1, p2, p3, p4]
  refine ord_pureg (some 44) (.bool true) rfl rfl (by kernel_rfl) (fun w' hS => (rvk (by kernel_rfl))) ?_
  simp only [p1, p2, p3, p4]
  refine ord_pure (some 45) (.bool true) rfl rfl rfl (fun w' hS => (rvk (by kernel_rfl))) ?_
  simp only [p1, p2, p3, p4]
  refine ord_pure (some 46) (.bool true) rfl rfl rfl (fun w' hS => (rvk (by kernel_rfl))) ?_
  simp only [p1, p2, p3, p4]
  refine ord_pureg (some 47) (.pointer (some ⟨b21, 25, none⟩)) rfl rfl (by kernel_rfl) (fun w' hS => (rvk (by kernel_rfl))) ?_
  simp only [p1, p2, p3, p4]
  refine ord_pureg (some 48) (.agg #[t19_24, t19_25, t19_26, t19_27]) rfl rfl (by kernel_rfl) (fun w' hS => (rv_load 31 _ b21 25 _ _ [t19_24, t19_25, t19_26, t19_27] rfl rfl hS.2 rfl (by kernel_rfl))) ?_
  simp only [p1, p2, p3, p4]
  refine ord_effg rfl (by kernel_rfl) (fun K62 k62 => ?_)
  have kq64 := g21.kp.trans (kp23.trans (gd45.kp.trans (g47.kp.trans (g50.kp.trans (g52.kp.trans (g55.kp.trans (g57.kp.trans g60.kp)))))))
  replace h19g := h19g.kp kq64
  refine eff_call (some 49) rfl (by kernel_rfl) (lit1 (number_r h19g (by omega) (ht.gr hB)) (ratL_lit 2 (by kernel_rfl) (by decide) rfl)) ?_
  rintro e63 w63 ⟨rfl, g63⟩
  refine ⟨_, rfl, ?_⟩
  replace hB := Gr.trans hB g63
  replace L10 := L10.gr g63
  replace L21 := L21.gr g63
  refine k62 _ _ ⟨L10, L21⟩ ?_
  try clear k62 K62
  simp only [p1, p2, p3, p4]
  refine ord_pureg (some 50) (.bool true) rfl rfl (by kernel_rfl) (fun w' hS => (rvk (by kernel_rfl))) ?_
  simp only [p1, p2, p3, p4]
  refine ord_pure (some 51) (.bool true) rfl rfl rfl (fun w' hS => (rvk (by kernel_rfl))) ?_
  simp only [p1, p2, p3, p4]
  refine ord_pure (some 0) (.bool true) rfl rfl rfl (fun w' hS => (rvk (by kernel_rfl))) ?_
  simp only [p1, p2, p3, p4]
  refine ord_nil ?_
  refine k24 _ _ ?_
  try clear k24 K24
  refine wp_ret ?_
  refine bodyPost_ret (v := (.bool true)) (ret_tmp rfl rfl) rfl ⟨?_, hB⟩
  exact rfl

end Go.Proofs.YtgopfikljndklaaDoor
