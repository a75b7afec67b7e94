/- Printed by a program of the prover's: the examples of the chapter. -/
import Derived.Test.YtgopfikljndklaaDoorLit
namespace Go.Proofs.YtgopfikljndklaaDoor
open Go.RowKit

theorem lit1 {P : Program} {f : FuncId} {args : Array Value} {w : World} {a0 : Rat} {X0 : List UInt8} (h : Calls P f args w fun e w' => e = .returned (.string ⟨(ratL a0 : List UInt8).toArray⟩) ∧ Gr w w') (e0 : ratL a0 = X0) :
    Calls P f args w fun e w' => e = .returned (.string ⟨(X0 : List UInt8).toArray⟩) ∧ Gr w w' := by
  rw [e0] at h
  exact h

theorem lit3 {P : Program} {f : FuncId} {args : Array Value} {w : World} {a0 a1 a2 : Rat} {X0 X1 X2 : List UInt8} (h : Calls P f args w fun e w' => e = .returned (.agg #[.string ⟨(ratL a0 : List UInt8).toArray⟩, .string ⟨(ratL a1 : List UInt8).toArray⟩, .string ⟨(ratL a2 : List UInt8).toArray⟩]) ∧ Gr w w') (e0 : ratL a0 = X0) (e1 : ratL a1 = X1) (e2 : ratL a2 = X2) :
    Calls P f args w fun e w' => e = .returned (.agg #[.string ⟨(X0 : List UInt8).toArray⟩, .string ⟨(X1 : List UInt8).toArray⟩, .string ⟨(X2 : List UInt8).toArray⟩]) ∧ Gr w w' := by
  rw [e0, e1, e2] at h
  exact h

theorem lit6 {P : Program} {f : FuncId} {args : Array Value} {w : World} {a0 a1 a2 a3 a4 a5 : Rat} {X0 X1 X2 X3 X4 X5 : List UInt8} (h : Calls P f args w fun e w' => e = .returned (.agg #[.string ⟨(ratL a0 : List UInt8).toArray⟩, .string ⟨(ratL a1 : List UInt8).toArray⟩, .string ⟨(ratL a2 : List UInt8).toArray⟩, .string ⟨(ratL a3 : List UInt8).toArray⟩, .string ⟨(ratL a4 : List UInt8).toArray⟩, .string ⟨(ratL a5 : List UInt8).toArray⟩]) ∧ Gr w w') (e0 : ratL a0 = X0) (e1 : ratL a1 = X1) (e2 : ratL a2 = X2) (e3 : ratL a3 = X3) (e4 : ratL a4 = X4) (e5 : ratL a5 = X5) :
    Calls P f args w fun e w' => e = .returned (.agg #[.string ⟨(X0 : List UInt8).toArray⟩, .string ⟨(X1 : List UInt8).toArray⟩, .string ⟨(X2 : List UInt8).toArray⟩, .string ⟨(X3 : List UInt8).toArray⟩, .string ⟨(X4 : List UInt8).toArray⟩, .string ⟨(X5 : List UInt8).toArray⟩]) ∧ Gr w w' := by
  rw [e0, e1, e2, e3, e4, e5] at h
  exact h

set_option maxRecDepth 100000 in
set_option maxHeartbeats 4000000 in
theorem known_t (w : World) (ht : Tab w) :
    Calls Tryd.prog 9 #[] w fun e w' => e = .returned (.bool true) ∧ Gr w w' := by
 go_enter Tryd.func9, Tryd.ntmps9
 have hB := Gr.refl w
 refine wp_seq_k (fun K1 k1 => ?_)
 refine rg [0] ?_
 refine sv 0 (.bool false) ?_
 simp only [p3, p4]
 refine sq_nil ?_
 refine k1 _ _ ?_
 try clear k1 K1
 refine wp_seq_k (fun K2 k2 => ?_)
 refine rg [0, 1, 2, 3, 4, 5, 6] ?_
 refine sv 3 (.agg #[(.int .i64 0), (.int .i64 0), (.int .i64 1)]) ?_
 simp only [p3, p4]
 refine se ?_
 refine ec 4 (vof_v (0) (0) (1) (by omega) (by omega) (by omega) _) ?_
 rintro e3 w3 ⟨⟨t3_0, t3_1, t3_2, t3_3, t3_4, t3_5, t3_6, t3_7, t3_8, t3_9, t3_10, t3_11, rfl, h3a, h3b, h3c⟩, g3⟩
 refine ⟨_, rfl, ?_⟩
 replace hB := hB.trans g3
 rw [show ((((0 : Int) : Rat)) : Rat) = (0 : Rat) from by kernel_rfl] at h3a
 rw [show ((((0 : Int) : Rat)) : Rat) = (0 : Rat) from by kernel_rfl] at h3b
 rw [show ((((1 : Int) : Rat)) : Rat) = (1 : Rat) from by kernel_rfl] at h3c
 simp only [p3, p4]
 refine sv 5 (.agg #[(.int .i64 1), (.int .i64 0), (.int .i64 0)]) ?_
 simp only [p3, p4]
 refine se ?_
 refine ec 6 (vof_v (1) (0) (0) (by omega) (by omega) (by omega) _) ?_
 rintro e4 w4 ⟨⟨t4_0, t4_1, t4_2, t4_3, t4_4, t4_5, t4_6, t4_7, t4_8, t4_9, t4_10, t4_11, rfl, h4a, h4b, h4c⟩, g4⟩
 refine ⟨_, rfl, ?_⟩
 replace hB := hB.trans g4
 rw [show ((((1 : Int) : Rat)) : Rat) = (1 : Rat) from by kernel_rfl] at h4a
 rw [show ((((0 : Int) : Rat)) : Rat) = (0 : Rat) from by kernel_rfl] at h4b
 rw [show ((((0 : Int) : Rat)) : Rat) = (0 : Rat) from by kernel_rfl] at h4c
 simp only [p3, p4]
 refine se ?_
 replace h3a := h3a.kp g4.kp
 replace h3b := h3b.kp g4.kp
 replace h3c := h3c.kp g4.kp
 refine ec 7 (trot_v h3a h3b h3c h4a h4b h4c (by omega)) ?_
 rintro e5 w5 ⟨⟨t5_0, t5_1, t5_2, t5_3, t5_4, t5_5, t5_6, t5_7, t5_8, t5_9, t5_10, t5_11, t5_12, t5_13, t5_14, t5_15, t5_16, t5_17, t5_18, t5_19, t5_20, t5_21, t5_22, t5_23, rfl, h5a, h5b, h5c, h5d, h5e, h5f⟩, g5⟩
 refine ⟨_, rfl, ?_⟩
 replace hB := hB.trans g5
 rw [show (((0 : Rat) * (1 : Rat) - (0 : Rat) * (0 : Rat)) : Rat) = (0 : Rat) from by kernel_rfl] at h5d
 rw [show (((0 : Rat) * (0 : Rat) - (1 : Rat) * (1 : Rat)) : Rat) = (-1 : Rat) from by kernel_rfl] at h5e
 rw [show (((1 : Rat) * (0 : Rat) - (0 : Rat) * (0 : Rat)) : Rat) = (0 : Rat) from by kernel_rfl] at h5f
 simp only [p3, p4]
 refine se ?_
 refine ea 35 #[(.bool false), (.slice none 0 0), (.bool false), (.slice none 0 0), (.bool false), (.slice none 0 0), (.bool false), (.slice none 0 0), (.bool false), (.slice none 0 0), (.bool false), (.slice none 0 0), (.bool false), (.slice none 0 0), (.bool false), (.slice none 0 0), (.bool false), (.slice none 0 0), (.bool false), (.slice none 0 0), (.bool false), (.slice none 0 0), (.bool false), (.slice none 0 0)] 1 hB fun b6 w6 g6 L6 o6 q6 hB => ?_
 simp only [p3, p4]
 refine se ?_
 refine es 35 0 (.agg #[t5_0, t5_1, t5_2, t5_3, t5_4, t5_5, t5_6, t5_7, t5_8, t5_9, t5_10, t5_11, t5_12, t5_13, t5_14, t5_15, t5_16, t5_17, t5_18, t5_19, t5_20, t5_21, t5_22, t5_23]) [t5_0, t5_1, t5_2, t5_3, t5_4, t5_5, t5_6, t5_7, t5_8, t5_9, t5_10, t5_11, t5_12, t5_13, t5_14, t5_15, t5_16, t5_17, t5_18, t5_19, t5_20, t5_21, t5_22, t5_23] #[t5_0, t5_1, t5_2, t5_3, t5_4, t5_5, t5_6, t5_7, t5_8, t5_9, t5_10, t5_11, t5_12, t5_13, t5_14, t5_15, t5_16, t5_17, t5_18, t5_19, t5_20, t5_21, t5_22, t5_23] L6 hB q6 ⟨h5a.one0, h5a.one1, h5a.one2, h5a.one3, h5b.one0, h5b.one1, h5b.one2, h5b.one3, h5c.one0, h5c.one1, h5c.one2, h5c.one3, h5d.one0, h5d.one1, h5d.one2, h5d.one3, h5e.one0, h5e.one1, h5e.one2, h5e.one3, h5f.one0, h5f.one1, h5f.one2, h5f.one3, trivial⟩ fun w7 st7 kp7 L6 hB => ?_
 refine sq_nil ?_
 refine k2 _ _ ?_
 try clear k2 K2
 refine wp_seq_k (fun K8 k8 => ?_)
 refine rg [0, 1, 2, 3, 4, 5, 6, 7] ?_
 refine sv 8 (.agg #[(.int .i64 0), (.int .i64 0), (.int .i64 2)]) ?_
 simp only [p3, p4]
 refine se ?_
 refine ec 9 (vof_v (0) (0) (2) (by omega) (by omega) (by omega) _) ?_
 rintro e9 w9 ⟨⟨t9_0, t9_1, t9_2, t9_3, t9_4, t9_5, t9_6, t9_7, t9_8, t9_9, t9_10, t9_11, rfl, h9a, h9b, h9c⟩, g9⟩
 refine ⟨_, rfl, ?_⟩
 replace hB := hB.trans g9
 rw [show ((((0 : Int) : Rat)) : Rat) = (0 : Rat) from by kernel_rfl] at h9a
 rw [show ((((0 : Int) : Rat)) : Rat) = (0 : Rat) from by kernel_rfl] at h9b
 rw [show ((((2 : Int) : Rat)) : Rat) = (2 : Rat) from by kernel_rfl] at h9c
 simp only [p3, p4]
 refine sv 10 (.agg #[(.int .i64 0), (.int .i64 (-2)), (.int .i64 4)]) ?_
 simp only [p3, p4]
 refine se ?_
 refine ec 11 (vof_v (0) (-2) (4) (by omega) (by omega) (by omega) _) ?_
 rintro e10 w10 ⟨⟨t10_0, t10_1, t10_2, t10_3, t10_4, t10_5, t10_6, t10_7, t10_8, t10_9, t10_10, t10_11, rfl, h10a, h10b, h10c⟩, g10⟩
 refine ⟨_, rfl, ?_⟩
 replace hB := hB.trans g10
 rw [show ((((0 : Int) : Rat)) : Rat) = (0 : Rat) from by kernel_rfl] at h10a
 rw [show ((((-2 : Int) : Rat)) : Rat) = (-2 : Rat) from by kernel_rfl] at h10b
 rw [show ((((4 : Int) : Rat)) : Rat) = (4 : Rat) from by kernel_rfl] at h10c
 simp only [p3, p4]
 refine sv 12 (.agg #[t9_0, t9_1, t9_2, t9_3, t9_4, t9_5, t9_6, t9_7, t9_8, t9_9, t9_10, t9_11, t10_0, t10_1, t10_2, t10_3, t10_4, t10_5, t10_6, t10_7, t10_8, t10_9, t10_10, t10_11]) ?_
 simp only [p3, p4]
 refine se ?_
 replace h9a := h9a.kp g10.kp
 replace h9b := h9b.kp g10.kp
 replace h9c := h9c.kp g10.kp
 refine ec 13 (axis_s h9a h9b h9c h10a h10b h10c (by omega) (by decide +kernel) (by decide +kernel)) ?_
 rintro e11 w11 ⟨⟨t11_0, t11_1, t11_2, t11_3, t11_4, t11_5, t11_6, t11_7, t11_8, t11_9, t11_10, t11_11, t11_12, t11_13, t11_14, t11_15, t11_16, t11_17, t11_18, t11_19, t11_20, t11_21, t11_22, t11_23, t11_24, t11_25, t11_26, t11_27, rfl, h11a, h11b, h11c, h11d, h11e, h11f, h11g⟩, g11⟩
 refine ⟨_, rfl, ?_⟩
 replace hB := hB.trans g11
 rw [show ((prim ((0 : Rat)) ((0 : Rat)) ((2 : Rat)) ((0 : Rat))) : Rat) = (0 : Rat) from by kernel_rfl] at h11a
 rw [show ((prim ((0 : Rat)) ((0 : Rat)) ((2 : Rat)) ((0 : Rat))) : Rat) = (0 : Rat) from by kernel_rfl] at h11b
 rw [show ((prim ((0 : Rat)) ((0 : Rat)) ((2 : Rat)) ((2 : Rat))) : Rat) = (1 : Rat) from by kernel_rfl] at h11c
 rw [show (((((1 : Int) : Rat) / (0 + (0 : Rat) * (0 : Rat) + (0 : Rat) * (0 : Rat) + (2 : Rat) * (2 : Rat))) * ((0 : Rat) * (4 : Rat) - (2 : Rat) * (-2 : Rat))) : Rat) = (1 : Rat) from by kernel_rfl] at h11d
 rw [show (((((1 : Int) : Rat) / (0 + (0 : Rat) * (0 : Rat) + (0 : Rat) * (0 : Rat) + (2 : Rat) * (2 : Rat))) * ((2 : Rat) * (0 : Rat) - (0 : Rat) * (4 : Rat))) : Rat) = (0 : Rat) from by kernel_rfl] at h11e
 rw [show (((((1 : Int) : Rat) / (0 + (0 : Rat) * (0 : Rat) + (0 : Rat) * (0 : Rat) + (2 : Rat) * (2 : Rat))) * ((0 : Rat) * (-2 : Rat) - (0 : Rat) * (0 : Rat))) : Rat) = (0 : Rat) from by kernel_rfl] at h11f
 rw [show (((0 + (0 : Rat) * (0 : Rat) + (0 : Rat) * (-2 : Rat) + (2 : Rat) * (4 : Rat)) * (((1 : Int) : Rat) / (0 + (0 : Rat) * (0 : Rat) + (0 : Rat) * (0 : Rat) + (2 : Rat) * (2 : Rat)))) : Rat) = (2 : Rat) from by kernel_rfl] at h11g
 simp only [p3, p4]
 refine se ?_
 refine ea 38 #[(.int .i64 0), (.bool false), (.slice none 0 0), (.bool false), (.slice none 0 0), (.bool false), (.slice none 0 0), (.bool false), (.slice none 0 0), (.bool false), (.slice none 0 0), (.bool false), (.slice none 0 0), (.bool false), (.slice none 0 0), (.bool false), (.slice none 0 0), (.bool false), (.slice none 0 0), (.bool false), (.slice none 0 0), (.bool false), (.slice none 0 0), (.bool false), (.slice none 0 0), (.bool false), (.slice none 0 0), (.bool false), (.slice none 0 0)] 2 hB fun b12 w12 g12 L12 o12 q12 hB => ?_
 replace L6 := L6.gr (g9.trans (g10.trans g11))
 have ne6_12 := L6.ne o12
 simp only [p3, p4]
 refine se ?_
 refine es 38 0 (.agg #[(.int .i64 3), t11_0, t11_1, t11_2, t11_3, t11_4, t11_5, t11_6, t11_7, t11_8, t11_9, t11_10, t11_11, t11_12, t11_13, t11_14, t11_15, t11_16, t11_17, t11_18, t11_19, t11_20, t11_21, t11_22, t11_23, t11_24, t11_25, t11_26, t11_27]) [(.int .i64 3), t11_0, t11_1, t11_2, t11_3, t11_4, t11_5, t11_6, t11_7, t11_8, t11_9, t11_10, t11_11, t11_12, t11_13, t11_14, t11_15, t11_16, t11_17, t11_18, t11_19, t11_20, t11_21, t11_22, t11_23, t11_24, t11_25, t11_26, t11_27] #[(.int .i64 3), t11_0, t11_1, t11_2, t11_3, t11_4, t11_5, t11_6, t11_7, t11_8, t11_9, t11_10, t11_11, t11_12, t11_13, t11_14, t11_15, t11_16, t11_17, t11_18, t11_19, t11_20, t11_21, t11_22, t11_23, t11_24, t11_25, t11_26, t11_27] L12 hB q12 ⟨rfl, h11a.one0, h11a.one1, h11a.one2, h11a.one3, h11b.one0, h11b.one1, h11b.one2, h11b.one3, h11c.one0, h11c.one1, h11c.one2, h11c.one3, h11d.one0, h11d.one1, h11d.one2, h11d.one3, h11e.one0, h11e.one1, h11e.one2, h11e.one3, h11f.one0, h11f.one1, h11f.one2, h11f.one3, h11g.one0, h11g.one1, h11g.one2, h11g.one3, trivial⟩ fun w13 st13 kp13 L12 hB => ?_
 refine sq_nil ?_
 refine k8 _ _ ?_
 try clear k8 K8
 refine wp_seq_k (fun K14 k14 => ?_)
 have gd35 := Gr.drew w13
 replace hB := hB.trans gd35
 replace L6 := (st13.lc (L6.gr g12) ne6_12).gr gd35
 replace L12 := L12.gr gd35
 refine wp_region_ord (fun w' => Lc w' b6 #[t5_0, t5_1, t5_2, t5_3, t5_4, t5_5, t5_6, t5_7, t5_8, t5_9, t5_10, t5_11, t5_12, t5_13, t5_14, t5_15, t5_16, t5_17, t5_18, t5_19, t5_20, t5_21, t5_22, t5_23] 35 ∧ Lc w' b12 #[(.int .i64 3), t11_0, t11_1, t11_2, t11_3, t11_4, t11_5, t11_6, t11_7, t11_8, t11_9, t11_10, t11_11, t11_12, t11_13, t11_14, t11_15, t11_16, t11_17, t11_18, t11_19, t11_20, t11_21, t11_22, t11_23, t11_24, t11_25, t11_26, t11_27] 38) [(true, 0), (true, 2), (false, 1), (true, 3), (true, 4), (true, 5), (true, 6), (true, 10), (false, 7), (false, 8), (false, 9), (true, 11), (true, 12), (true, 13), (true, 14), (true, 15), (true, 16), (true, 17), (true, 18), (true, 19), (true, 20), (true, 22), (false, 21), (true, 23), (true, 24), (true, 25), (true, 26), (true, 27), (true, 29), (false, 28), (true, 30), (true, 31), (true, 32), (true, 33), (true, 34), (false, 35), (true, 36), (true, 37), (true, 38)] (by kernel_rfl) (by kernel_rfl) (by kernel_rfl) (by decide) (fun _ _ _ _ _ h => h) ⟨L6, L12⟩ ?_
 refine ow 14 (.agg #[t5_0, t5_1, t5_2, t5_3, t5_4, t5_5, t5_6, t5_7, t5_8, t5_9, t5_10, t5_11, t5_12, t5_13, t5_14, t5_15, t5_16, t5_17, t5_18, t5_19, t5_20, t5_21, t5_22, t5_23]) rfl (fun w' hS => (rl 35 0 [t5_0, t5_1, t5_2, t5_3, t5_4, t5_5, t5_6, t5_7, t5_8, t5_9, t5_10, t5_11, t5_12, t5_13, t5_14, t5_15, t5_16, t5_17, t5_18, t5_19, t5_20, t5_21, t5_22, t5_23] hS.1)) ?_
 simp only [p3, p4]
 refine ov 16 (.agg #[(.string ⟨([48] : List UInt8).toArray⟩), (.string ⟨([48] : List UInt8).toArray⟩), (.string ⟨([49] : List UInt8).toArray⟩), (.string ⟨([48] : List UInt8).toArray⟩), (.string ⟨([45, 49] : List UInt8).toArray⟩), (.string ⟨([48] : List UInt8).toArray⟩)]) ?_
 simp only [p3, p4]
 refine oe ?_
 have kq38 := g6.kp.trans (kp7.trans (g9.kp.trans (g10.kp.trans (g11.kp.trans (g12.kp.trans (kp13.trans gd35.kp))))))
 replace h5a := h5a.kp kq38
 replace h5b := h5b.kp kq38
 replace h5c := h5c.kp kq38
 replace h5d := h5d.kp kq38
 replace h5e := h5e.kp kq38
 replace h5f := h5f.kp kq38
 refine ec 15 (lit6 (tnumbers_v h5a h5b h5c h5d h5e h5f (by omega) (ht.gr hB)) (ratL_lit 0 (by kernel_rfl) (by decide) rfl) (ratL_lit 0 (by kernel_rfl) (by decide) rfl) (ratL_lit 1 (by kernel_rfl) (by decide) rfl) (ratL_lit 0 (by kernel_rfl) (by decide) rfl) (ratL_neg 1 (by kernel_rfl) (by decide) (by decide) rfl) (ratL_lit 0 (by kernel_rfl) (by decide) rfl)) ?_
 rintro e37 w37 ⟨rfl, g37⟩
 refine ⟨_, rfl, ?_⟩
 replace hB := hB.trans g37
 replace L6 := L6.gr g37
 replace L12 := L12.gr g37
 refine ⟨⟨L6, L12⟩, ?_⟩
 simp only [p3, p4]
 refine ov 17 (.bool true) ?_
 simp only [p3, p4]
 refine ov 18 (.bool true) ?_
 simp only [p3, p4]
 refine ow 19 (.agg #[t5_0, t5_1, t5_2, t5_3, t5_4, t5_5, t5_6, t5_7, t5_8, t5_9, t5_10, t5_11, t5_12, t5_13, t5_14, t5_15, t5_16, t5_17, t5_18, t5_19, t5_20, t5_21, t5_22, t5_23]) rfl (fun w' hS => (rl 35 0 [t5_0, t5_1, t5_2, t5_3, t5_4, t5_5, t5_6, t5_7, t5_8, t5_9, t5_10, t5_11, t5_12, t5_13, t5_14, t5_15, t5_16, t5_17, t5_18, t5_19, t5_20, t5_21, t5_22, t5_23] hS.1)) ?_
 simp only [p3, p4]
 refine ov 20 (.agg #[(.int .i64 2), (.int .i64 0), (.int .i64 0)]) ?_
 simp only [p3, p4]
 refine ov 24 (.agg #[(.string ⟨([48] : List UInt8).toArray⟩), (.string ⟨([49] : List UInt8).toArray⟩), (.string ⟨([48] : List UInt8).toArray⟩)]) ?_
 simp only [p3, p4]
 refine oe ?_
 refine ec 21 (vof_v (2) (0) (0) (by omega) (by omega) (by omega) _) ?_
 rintro e40 w40 ⟨⟨t40_0, t40_1, t40_2, t40_3, t40_4, t40_5, t40_6, t40_7, t40_8, t40_9, t40_10, t40_11, rfl, h40a, h40b, h40c⟩, g40⟩
 refine ⟨_, rfl, ?_⟩
 replace hB := hB.trans g40
 rw [show ((((2 : Int) : Rat)) : Rat) = (2 : Rat) from by kernel_rfl] at h40a
 rw [show ((((0 : Int) : Rat)) : Rat) = (0 : Rat) from by kernel_rfl] at h40b
 rw [show ((((0 : Int) : Rat)) : Rat) = (0 : Rat) from by kernel_rfl] at h40c
 replace L6 := L6.gr g40
 replace L12 := L12.gr g40
 refine ⟨⟨L6, L12⟩, ?_⟩
 simp only [p3, p4]
 refine oe ?_
 have kq43 := g37.kp.trans g40.kp
 replace h5a := h5a.kp kq43
 replace h5b := h5b.kp kq43
 replace h5c := h5c.kp kq43
 replace h5d := h5d.kp kq43
 replace h5e := h5e.kp kq43
 replace h5f := h5f.kp kq43
 refine ec 22 (tvel_v (h5a.mono (show _ ≤ 257 by omega)) (h5b.mono (show _ ≤ 257 by omega)) (h5c.mono (show _ ≤ 257 by omega)) h5d h5e h5f h40a h40b h40c (by omega)) ?_
 rintro e42 w42 ⟨⟨t42_0, t42_1, t42_2, t42_3, t42_4, t42_5, t42_6, t42_7, t42_8, t42_9, t42_10, t42_11, rfl, h42a, h42b, h42c⟩, g42⟩
 refine ⟨_, rfl, ?_⟩
 replace hB := hB.trans g42
 rw [show (((0 : Rat) + ((0 : Rat) * (0 : Rat) - (1 : Rat) * (0 : Rat))) : Rat) = (0 : Rat) from by kernel_rfl] at h42a
 rw [show (((-1 : Rat) + ((1 : Rat) * (2 : Rat) - (0 : Rat) * (0 : Rat))) : Rat) = (1 : Rat) from by kernel_rfl] at h42b
 rw [show (((0 : Rat) + ((0 : Rat) * (0 : Rat) - (0 : Rat) * (2 : Rat))) : Rat) = (0 : Rat) from by kernel_rfl] at h42c
 replace L6 := L6.gr g42
 replace L12 := L12.gr g42
 refine ⟨⟨L6, L12⟩, ?_⟩
 simp only [p3, p4]
 refine oe ?_
 refine ec 23 (lit3 (vpoint_v h42a h42b h42c (by omega) (ht.gr hB)) (ratL_lit 0 (by kernel_rfl) (by decide) rfl) (ratL_lit 1 (by kernel_rfl) (by decide) rfl) (ratL_lit 0 (by kernel_rfl) (by decide) rfl)) ?_
 rintro e45 w45 ⟨rfl, g45⟩
 refine ⟨_, rfl, ?_⟩
 replace hB := hB.trans g45
 replace L6 := L6.gr g45
 replace L12 := L12.gr g45
 refine ⟨⟨L6, L12⟩, ?_⟩
 simp only [p3, p4]
 refine ov 25 (.bool true) ?_
 simp only [p3, p4]
 refine ov 26 (.bool true) ?_
 simp only [p3, p4]
 refine ov 27 (.bool true) ?_
 simp only [p3, p4]
 refine ov 28 (.pointer (some ⟨b12, 0, none⟩)) ?_
 simp only [p3, p4]
 refine ow 29 (.int .i64 3) rfl (fun w' hS => (rk 3 0 hS.2)) ?_
 simp only [p3, p4]
 refine ov 30 (.bool true) ?_
 simp only [p3, p4]
 refine ov 31 (.bool true) ?_
 simp only [p3, p4]
 refine ov 32 (.bool true) ?_
 simp only [p3, p4]
 refine ov 33 (.pointer (some ⟨b12, 1, none⟩)) ?_
 simp only [p3, p4]
 refine ow 34 (.agg #[t11_0, t11_1, t11_2, t11_3, t11_4, t11_5, t11_6, t11_7, t11_8, t11_9, t11_10, t11_11]) rfl (fun w' hS => (rl 33 1 [t11_0, t11_1, t11_2, t11_3, t11_4, t11_5, t11_6, t11_7, t11_8, t11_9, t11_10, t11_11] hS.2)) ?_
 simp only [p3, p4]
 refine ov 36 (.agg #[(.string ⟨([48] : List UInt8).toArray⟩), (.string ⟨([48] : List UInt8).toArray⟩), (.string ⟨([49] : List UInt8).toArray⟩)]) ?_
 simp only [p3, p4]
 refine oe ?_
 have kq48 := g12.kp.trans (kp13.trans (gd35.kp.trans (g37.kp.trans (g40.kp.trans (g42.kp.trans g45.kp)))))
 replace h11a := h11a.kp kq48
 replace h11b := h11b.kp kq48
 replace h11c := h11c.kp kq48
 refine ec 35 (lit3 (vpoint_v h11a h11b h11c (by omega) (ht.gr hB)) (ratL_lit 0 (by kernel_rfl) (by decide) rfl) (ratL_lit 0 (by kernel_rfl) (by decide) rfl) (ratL_lit 1 (by kernel_rfl) (by decide) rfl)) ?_
 rintro e47 w47 ⟨rfl, g47⟩
 refine ⟨_, rfl, ?_⟩
 replace hB := hB.trans g47
 replace L6 := L6.gr g47
 replace L12 := L12.gr g47
 refine ⟨⟨L6, L12⟩, ?_⟩
 simp only [p3, p4]
 refine ov 37 (.bool true) ?_
 simp only [p3, p4]
 refine ov 38 (.bool true) ?_
 simp only [p3, p4]
 refine ov 39 (.bool true) ?_
 simp only [p3, p4]
 refine ov 40 (.pointer (some ⟨b12, 13, none⟩)) ?_
 simp only [p3, p4]
 refine ow 41 (.agg #[t11_12, t11_13, t11_14, t11_15, t11_16, t11_17, t11_18, t11_19, t11_20, t11_21, t11_22, t11_23]) rfl (fun w' hS => (rl 33 13 [t11_12, t11_13, t11_14, t11_15, t11_16, t11_17, t11_18, t11_19, t11_20, t11_21, t11_22, t11_23] hS.2)) ?_
 simp only [p3, p4]
 refine ov 43 (.agg #[(.string ⟨([49] : List UInt8).toArray⟩), (.string ⟨([48] : List UInt8).toArray⟩), (.string ⟨([48] : List UInt8).toArray⟩)]) ?_
 simp only [p3, p4]
 refine oe ?_
 have kq51 := g12.kp.trans (kp13.trans (gd35.kp.trans (g37.kp.trans (g40.kp.trans (g42.kp.trans (g45.kp.trans g47.kp))))))
 replace h11d := h11d.kp kq51
 replace h11e := h11e.kp kq51
 replace h11f := h11f.kp kq51
 refine ec 42 (lit3 (vpoint_v h11d h11e h11f (by omega) (ht.gr hB)) (ratL_lit 1 (by kernel_rfl) (by decide) rfl) (ratL_lit 0 (by kernel_rfl) (by decide) rfl) (ratL_lit 0 (by kernel_rfl) (by decide) rfl)) ?_
 rintro e50 w50 ⟨rfl, g50⟩
 refine ⟨_, rfl, ?_⟩
 replace hB := hB.trans g50
 replace L6 := L6.gr g50
 replace L12 := L12.gr g50
 refine ⟨⟨L6, L12⟩, ?_⟩
 simp only [p3, p4]
 refine ov 44 (.bool true) ?_
 simp only [p3, p4]
 refine ov 45 (.bool true) ?_
 simp only [p3, p4]
 refine ov 46 (.bool true) ?_
 simp only [p3, p4]
 refine ov 47 (.pointer (some ⟨b12, 25, none⟩)) ?_
 simp only [p3, p4]
 refine ow 48 (.agg #[t11_24, t11_25, t11_26, t11_27]) rfl (fun w' hS => (rl 31 25 [t11_24, t11_25, t11_26, t11_27] hS.2)) ?_
 simp only [p3, p4]
 refine oe ?_
 have kq54 := g12.kp.trans (kp13.trans (gd35.kp.trans (g37.kp.trans (g40.kp.trans (g42.kp.trans (g45.kp.trans (g47.kp.trans g50.kp)))))))
 replace h11g := h11g.kp kq54
 refine ec 49 (lit1 (number_r h11g (by omega) (ht.gr hB)) (ratL_lit 2 (by kernel_rfl) (by decide) rfl)) ?_
 rintro e53 w53 ⟨rfl, g53⟩
 refine ⟨_, rfl, ?_⟩
 replace hB := hB.trans g53
 replace L6 := L6.gr g53
 replace L12 := L12.gr g53
 refine ⟨⟨L6, L12⟩, ?_⟩
 simp only [p3, p4]
 refine ov 50 (.bool true) ?_
 simp only [p3, p4]
 refine ov 51 (.bool true) ?_
 simp only [p3, p4]
 refine ov 0 (.bool true) ?_
 simp only [p3, p4]
 refine ord_nil ?_
 refine k14 _ _ ?_
 try clear k14 K14
 refine wp_ret ?_
 refine bodyPost_ret (v := (.bool true)) (ret_tmp rfl rfl) rfl ⟨?_, hB⟩
 exact rfl

end Go.Proofs.YtgopfikljndklaaDoor
