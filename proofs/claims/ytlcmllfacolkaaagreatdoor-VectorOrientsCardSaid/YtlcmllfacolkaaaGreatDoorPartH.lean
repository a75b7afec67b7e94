/- Joined of: Gen66, RowVectorOrients. -/
import Derived.Test.YtlcmllfacolkaaaGreatDoorPartG
import Derived.Test.YtlcmllfacolkaaaGreatDoorCards
import Derived.Test.YtlcmllfacolkaaaGreatDoorTie
import Derived.Test.YtlcmllfacolkaaaGreatDoorPartD
/- Printed by a program of the prover's: VectorOrients. -/
namespace Go.Proofs.YtlcmllfacolkaaaGreatDoor
open Go.RowKit

theorem sgn_same {x y : Rat} (h : x = y) : sgn x.num = sgn y.num := by rw [h]
theorem sgn_opp {x y : Rat} (h : x = -y) : sgn x.num = 0 - sgn y.num := by rw [h, Rat.neg_num, sgn_neg']; omega

theorem lawVr0 (a1 a2 a3 c1 c2 c3 f1 f2 f3 m1 m2 m3 : Rat)  : (sgn (0 + (c1 - a1) * ((f2 - a2) * (m3 - a3) - (f3 - a3) * (m2 - a2)) + (c2 - a2) * ((f3 - a3) * (m1 - a1) - (f1 - a1) * (m3 - a3)) + (c3 - a3) * ((f1 - a1) * (m2 - a2) - (f2 - a2) * (m1 - a1))).num != sgn ((c1 - a1) * ((f2 - a2) * (m3 - a3) - (f3 - a3) * (m2 - a2)) + (c2 - a2) * ((f3 - a3) * (m1 - a1) - (f1 - a1) * (m3 - a3)) + (c3 - a3) * ((f1 - a1) * (m2 - a2) - (f2 - a2) * (m1 - a1))).num) = false := by rw [sgn_same (x := 0 + (c1 - a1) * ((f2 - a2) * (m3 - a3) - (f3 - a3) * (m2 - a2)) + (c2 - a2) * ((f3 - a3) * (m1 - a1) - (f1 - a1) * (m3 - a3)) + (c3 - a3) * ((f1 - a1) * (m2 - a2) - (f2 - a2) * (m1 - a1))) (y := (c1 - a1) * ((f2 - a2) * (m3 - a3) - (f3 - a3) * (m2 - a2)) + (c2 - a2) * ((f3 - a3) * (m1 - a1) - (f1 - a1) * (m3 - a3)) + (c3 - a3) * ((f1 - a1) * (m2 - a2) - (f2 - a2) * (m1 - a1))) (by grind)]; simp
theorem lawVr1 (a1 a2 a3 c1 c2 c3 f1 f2 f3 m1 m2 m3 u1 u2 u3 : Rat)  : (sgn (0 + ((c1 + u1) - (a1 + u1)) * (((f2 + u2) - (a2 + u2)) * ((m3 + u3) - (a3 + u3)) - ((f3 + u3) - (a3 + u3)) * ((m2 + u2) - (a2 + u2))) + ((c2 + u2) - (a2 + u2)) * (((f3 + u3) - (a3 + u3)) * ((m1 + u1) - (a1 + u1)) - ((f1 + u1) - (a1 + u1)) * ((m3 + u3) - (a3 + u3))) + ((c3 + u3) - (a3 + u3)) * (((f1 + u1) - (a1 + u1)) * ((m2 + u2) - (a2 + u2)) - ((f2 + u2) - (a2 + u2)) * ((m1 + u1) - (a1 + u1)))).num != sgn (0 + (c1 - a1) * ((f2 - a2) * (m3 - a3) - (f3 - a3) * (m2 - a2)) + (c2 - a2) * ((f3 - a3) * (m1 - a1) - (f1 - a1) * (m3 - a3)) + (c3 - a3) * ((f1 - a1) * (m2 - a2) - (f2 - a2) * (m1 - a1))).num) = false := by rw [sgn_same (x := 0 + ((c1 + u1) - (a1 + u1)) * (((f2 + u2) - (a2 + u2)) * ((m3 + u3) - (a3 + u3)) - ((f3 + u3) - (a3 + u3)) * ((m2 + u2) - (a2 + u2))) + ((c2 + u2) - (a2 + u2)) * (((f3 + u3) - (a3 + u3)) * ((m1 + u1) - (a1 + u1)) - ((f1 + u1) - (a1 + u1)) * ((m3 + u3) - (a3 + u3))) + ((c3 + u3) - (a3 + u3)) * (((f1 + u1) - (a1 + u1)) * ((m2 + u2) - (a2 + u2)) - ((f2 + u2) - (a2 + u2)) * ((m1 + u1) - (a1 + u1)))) (y := 0 + (c1 - a1) * ((f2 - a2) * (m3 - a3) - (f3 - a3) * (m2 - a2)) + (c2 - a2) * ((f3 - a3) * (m1 - a1) - (f1 - a1) * (m3 - a3)) + (c3 - a3) * ((f1 - a1) * (m2 - a2) - (f2 - a2) * (m1 - a1))) (by grind)]; simp
theorem lawVr2 (a1 a2 a3 c1 c2 c3 f1 f2 f3 m1 m2 m3 : Rat)  : (sgn (0 + (a1 - c1) * ((f2 - c2) * (m3 - c3) - (f3 - c3) * (m2 - c2)) + (a2 - c2) * ((f3 - c3) * (m1 - c1) - (f1 - c1) * (m3 - c3)) + (a3 - c3) * ((f1 - c1) * (m2 - c2) - (f2 - c2) * (m1 - c1))).num == 0 - sgn (0 + (c1 - a1) * ((f2 - a2) * (m3 - a3) - (f3 - a3) * (m2 - a2)) + (c2 - a2) * ((f3 - a3) * (m1 - a1) - (f1 - a1) * (m3 - a3)) + (c3 - a3) * ((f1 - a1) * (m2 - a2) - (f2 - a2) * (m1 - a1))).num) = true := by rw [sgn_opp (x := 0 + (a1 - c1) * ((f2 - c2) * (m3 - c3) - (f3 - c3) * (m2 - c2)) + (a2 - c2) * ((f3 - c3) * (m1 - c1) - (f1 - c1) * (m3 - c3)) + (a3 - c3) * ((f1 - c1) * (m2 - c2) - (f2 - c2) * (m1 - c1))) (y := 0 + (c1 - a1) * ((f2 - a2) * (m3 - a3) - (f3 - a3) * (m2 - a2)) + (c2 - a2) * ((f3 - a3) * (m1 - a1) - (f1 - a1) * (m3 - a3)) + (c3 - a3) * ((f1 - a1) * (m2 - a2) - (f2 - a2) * (m1 - a1))) (by grind)]; simp
theorem lawVr3 (a1 a2 a3 c1 c2 c3 f1 f2 f3 m1 m2 m3 : Rat)  : (sgn (0 + (c1 - a1) * ((m2 - a2) * (f3 - a3) - (m3 - a3) * (f2 - a2)) + (c2 - a2) * ((m3 - a3) * (f1 - a1) - (m1 - a1) * (f3 - a3)) + (c3 - a3) * ((m1 - a1) * (f2 - a2) - (m2 - a2) * (f1 - a1))).num == 0 - sgn (0 + (c1 - a1) * ((f2 - a2) * (m3 - a3) - (f3 - a3) * (m2 - a2)) + (c2 - a2) * ((f3 - a3) * (m1 - a1) - (f1 - a1) * (m3 - a3)) + (c3 - a3) * ((f1 - a1) * (m2 - a2) - (f2 - a2) * (m1 - a1))).num) = true := by rw [sgn_opp (x := 0 + (c1 - a1) * ((m2 - a2) * (f3 - a3) - (m3 - a3) * (f2 - a2)) + (c2 - a2) * ((m3 - a3) * (f1 - a1) - (m1 - a1) * (f3 - a3)) + (c3 - a3) * ((m1 - a1) * (f2 - a2) - (m2 - a2) * (f1 - a1))) (y := 0 + (c1 - a1) * ((f2 - a2) * (m3 - a3) - (f3 - a3) * (m2 - a2)) + (c2 - a2) * ((f3 - a3) * (m1 - a1) - (f1 - a1) * (m3 - a3)) + (c3 - a3) * ((f1 - a1) * (m2 - a2) - (f2 - a2) * (m1 - a1))) (by grind)]; simp
theorem lawVr4 (a1 a2 a3 c1 c2 c3 f1 f2 f3 m1 m2 m3 : Rat)  : (sgn (0 + (c1 - m1) * ((f2 - m2) * (a3 - m3) - (f3 - m3) * (a2 - m2)) + (c2 - m2) * ((f3 - m3) * (a1 - m1) - (f1 - m1) * (a3 - m3)) + (c3 - m3) * ((f1 - m1) * (a2 - m2) - (f2 - m2) * (a1 - m1))).num == 0 - sgn (0 + (c1 - a1) * ((f2 - a2) * (m3 - a3) - (f3 - a3) * (m2 - a2)) + (c2 - a2) * ((f3 - a3) * (m1 - a1) - (f1 - a1) * (m3 - a3)) + (c3 - a3) * ((f1 - a1) * (m2 - a2) - (f2 - a2) * (m1 - a1))).num) = true := by rw [sgn_opp (x := 0 + (c1 - m1) * ((f2 - m2) * (a3 - m3) - (f3 - m3) * (a2 - m2)) + (c2 - m2) * ((f3 - m3) * (a1 - m1) - (f1 - m1) * (a3 - m3)) + (c3 - m3) * ((f1 - m1) * (a2 - m2) - (f2 - m2) * (a1 - m1))) (y := 0 + (c1 - a1) * ((f2 - a2) * (m3 - a3) - (f3 - a3) * (m2 - a2)) + (c2 - a2) * ((f3 - a3) * (m1 - a1) - (f1 - a1) * (m3 - a3)) + (c3 - a3) * ((f1 - a1) * (m2 - a2) - (f2 - a2) * (m1 - a1))) (by grind)]; simp
set_option maxRecDepth 100000 in
set_option maxHeartbeats 8000000 in
theorem vori_q (ia1 ia2 ia3 da : Int) (ja1 : -128 ≤ ia1 ∧ ia1 ≤ 127) (ja2 : -128 ≤ ia2 ∧ ia2 ≤ 127) (ja3 : -128 ≤ ia3 ∧ ia3 ≤ 127) (jda : 0 ≤ da ∧ da ≤ 255) (a1 a2 a3 : Rat) (ea1 : a1 = ((ia1 : Int) : Rat) / ((1 + da % 6 : Int) : Rat)) (ea2 : a2 = ((ia2 : Int) : Rat) / ((1 + da % 6 : Int) : Rat)) (ea3 : a3 = ((ia3 : Int) : Rat) / ((1 + da % 6 : Int) : Rat)) (ic1 ic2 ic3 dc : Int) (jc1 : -128 ≤ ic1 ∧ ic1 ≤ 127) (jc2 : -128 ≤ ic2 ∧ ic2 ≤ 127) (jc3 : -128 ≤ ic3 ∧ ic3 ≤ 127) (jdc : 0 ≤ dc ∧ dc ≤ 255) (c1 c2 c3 : Rat) (ec1 : c1 = ((ic1 : Int) : Rat) / ((1 + dc % 6 : Int) : Rat)) (ec2 : c2 = ((ic2 : Int) : Rat) / ((1 + dc % 6 : Int) : Rat)) (ec3 : c3 = ((ic3 : Int) : Rat) / ((1 + dc % 6 : Int) : Rat)) (if1 if2 if3 df : Int) (jf1 : -128 ≤ if1 ∧ if1 ≤ 127) (jf2 : -128 ≤ if2 ∧ if2 ≤ 127) (jf3 : -128 ≤ if3 ∧ if3 ≤ 127) (jdf : 0 ≤ df ∧ df ≤ 255) (f1 f2 f3 : Rat) (ef1 : f1 = ((if1 : Int) : Rat) / ((1 + df % 6 : Int) : Rat)) (ef2 : f2 = ((if2 : Int) : Rat) / ((1 + df % 6 : Int) : Rat)) (ef3 : f3 = ((if3 : Int) : Rat) / ((1 + df % 6 : Int) : Rat)) (im1 im2 im3 dm : Int) (jm1 : -128 ≤ im1 ∧ im1 ≤ 127) (jm2 : -128 ≤ im2 ∧ im2 ≤ 127) (jm3 : -128 ≤ im3 ∧ im3 ≤ 127) (jdm : 0 ≤ dm ∧ dm ≤ 255) (m1 m2 m3 : Rat) (em1 : m1 = ((im1 : Int) : Rat) / ((1 + dm % 6 : Int) : Rat)) (em2 : m2 = ((im2 : Int) : Rat) / ((1 + dm % 6 : Int) : Rat)) (em3 : m3 = ((im3 : Int) : Rat) / ((1 + dm % 6 : Int) : Rat)) (iu1 iu2 iu3 du : Int) (ju1 : -128 ≤ iu1 ∧ iu1 ≤ 127) (ju2 : -128 ≤ iu2 ∧ iu2 ≤ 127) (ju3 : -128 ≤ iu3 ∧ iu3 ≤ 127) (jdu : 0 ≤ du ∧ du ≤ 255) (u1 u2 u3 : Rat) (eu1 : u1 = ((iu1 : Int) : Rat) / ((1 + du % 6 : Int) : Rat)) (eu2 : u2 = ((iu2 : Int) : Rat) / ((1 + du % 6 : Int) : Rat)) (eu3 : u3 = ((iu3 : Int) : Rat) / ((1 + du % 6 : Int) : Rat)) (w : World) (ht : Tab w) (hm : Mx w) :
    Calls Tryz.prog 9 #[(.agg #[(.int .i8 (ia1)), (.int .i8 (ia2)), (.int .i8 (ia3)), (.int .u8 (da)), (.int .i8 (ic1)), (.int .i8 (ic2)), (.int .i8 (ic3)), (.int .u8 (dc)), (.int .i8 (if1)), (.int .i8 (if2)), (.int .i8 (if3)), (.int .u8 (df)), (.int .i8 (im1)), (.int .i8 (im2)), (.int .i8 (im3)), (.int .u8 (dm))]), (.agg #[(.int .i8 (iu1)), (.int .i8 (iu2)), (.int .i8 (iu3)), (.int .u8 (du))])] w fun e w' => e = .returned (.bool true) ∧ Gr w w' := by
 have ha1 : RS 16 a1 := small_rs ja1 jda ea1
 have ha2 : RS 16 a2 := small_rs ja2 jda ea2
 have ha3 : RS 16 a3 := small_rs ja3 jda ea3
 have hc1 : RS 16 c1 := small_rs jc1 jdc ec1
 have hc2 : RS 16 c2 := small_rs jc2 jdc ec2
 have hc3 : RS 16 c3 := small_rs jc3 jdc ec3
 have hf1 : RS 16 f1 := small_rs jf1 jdf ef1
 have hf2 : RS 16 f2 := small_rs jf2 jdf ef2
 have hf3 : RS 16 f3 := small_rs jf3 jdf ef3
 have hm1 : RS 16 m1 := small_rs jm1 jdm em1
 have hm2 : RS 16 m2 := small_rs jm2 jdm em2
 have hm3 : RS 16 m3 := small_rs jm3 jdm em3
 have hu1 : RS 16 u1 := small_rs ju1 jdu eu1
 have hu2 : RS 16 u2 := small_rs ju2 jdu eu2
 have hu3 : RS 16 u3 := small_rs ju3 jdu eu3
 go_enter Tryz.func9, Tryz.ntmps9
 have hB := Gr.refl w
 refine wp_seq_k (fun K1 k1 => ?_)
 refine rg [0, 1, 2] ?_
 refine se ?_
 refine eb 83 #[(.int .i8 (ia1)), (.int .i8 (ia2)), (.int .i8 (ia3)), (.int .u8 (da)), (.int .i8 (ic1)), (.int .i8 (ic2)), (.int .i8 (ic3)), (.int .u8 (dc)), (.int .i8 (if1)), (.int .i8 (if2)), (.int .i8 (if3)), (.int .u8 (df)), (.int .i8 (im1)), (.int .i8 (im2)), (.int .i8 (im3)), (.int .u8 (dm))] 2 hB fun b2 w2 g2 L2 o2 q2 hB => ?_
 simp only [p3, p4]
 refine se ?_
 refine eb 42 #[(.int .i8 (iu1)), (.int .i8 (iu2)), (.int .i8 (iu3)), (.int .u8 (du))] 3 hB fun b3 w3 g3 L3 o3 q3 hB => ?_
 simp only [p3, p4]
 refine sv 4 (.bool false) ?_
 simp only [p3, p4]
 refine sq_nil ?_
 refine k1 _ _ ?_
 try clear k1 K1
 refine wp_seq_k (fun K4 k4 => ?_)
 refine wp_seq_k (fun K5 k5 => ?_)
 refine rg [0, 1] ?_
 refine se ?_
 refine ec 11 (known3 _ (ht.gr hB) (hm.gr hB)) ?_
 rintro e6 w6 ⟨rfl, g6⟩
 refine ⟨_, rfl, ?_⟩
 replace hB := hB.trans g6
 simp only [p3, p4]
 refine sv 12 (.bool false) ?_
 simp only [p3, p4]
 refine sq_nil ?_
 refine k5 _ _ ?_
 try clear k5 K5
 refine wp_cond_false rfl ?_
 refine wp_skip ?_
 refine k4 _ _ ?_
 try clear k4 K4
 refine wp_seq_k (fun K7 k7 => ?_)
 have hz8 := Below.size hB
 replace L2 := L2.gr (g3.trans g6)
 have lt2_8 := L2.lt
 replace L3 := L3.gr g6
 have lt3_8 := L3.lt
 have gd8 := Gr.drew w6
 replace hB := hB.trans gd8
 replace L2 := L2.gr gd8
 replace L3 := L3.gr gd8
 refine wp_region_flo (fun w' => Lc w' b2 #[(.int .i8 (ia1)), (.int .i8 (ia2)), (.int .i8 (ia3)), (.int .u8 (da)), (.int .i8 (ic1)), (.int .i8 (ic2)), (.int .i8 (ic3)), (.int .u8 (dc)), (.int .i8 (if1)), (.int .i8 (if2)), (.int .i8 (if3)), (.int .u8 (df)), (.int .i8 (im1)), (.int .i8 (im2)), (.int .i8 (im3)), (.int .u8 (dm))] 83 ∧ Lc w' b3 #[(.int .i8 (iu1)), (.int .i8 (iu2)), (.int .i8 (iu3)), (.int .u8 (du))] 42) [(true, 0), (true, 1), (true, 3), (true, 4), (true, 6), (true, 7), (true, 9), (true, 10), (true, 12), (false, 2), (false, 5), (false, 8), (false, 11), (false, 13)] [⟨14, 5, 32, #[(.bool false), (.slice none 0 0), (.bool false), (.slice none 0 0), (.bool false), (.slice none 0 0), (.bool false), (.slice none 0 0), (.bool false), (.slice none 0 0), (.bool false), (.slice none 0 0)]⟩, ⟨15, 6, 32, #[(.bool false), (.slice none 0 0), (.bool false), (.slice none 0 0), (.bool false), (.slice none 0 0), (.bool false), (.slice none 0 0), (.bool false), (.slice none 0 0), (.bool false), (.slice none 0 0)]⟩, ⟨16, 7, 32, #[(.bool false), (.slice none 0 0), (.bool false), (.slice none 0 0), (.bool false), (.slice none 0 0), (.bool false), (.slice none 0 0), (.bool false), (.slice none 0 0), (.bool false), (.slice none 0 0)]⟩, ⟨17, 8, 32, #[(.bool false), (.slice none 0 0), (.bool false), (.slice none 0 0), (.bool false), (.slice none 0 0), (.bool false), (.slice none 0 0), (.bool false), (.slice none 0 0), (.bool false), (.slice none 0 0)]⟩, ⟨18, 9, 32, #[(.bool false), (.slice none 0 0), (.bool false), (.slice none 0 0), (.bool false), (.slice none 0 0), (.bool false), (.slice none 0 0), (.bool false), (.slice none 0 0), (.bool false), (.slice none 0 0)]⟩] [(false, 19), (false, 20), (false, 21), (false, 22), (false, 23)] (by kernel_rfl) (by kernel_rfl) (by kernel_rfl) (by kernel_rfl) (by kernel_rfl) (by decide) (fun _ _ _ _ _ h => h) (fun _ _ _ _ _ h => h) (fun w' o h => ⟨Lc.gr h.1 (Gr.alloc w' o), Lc.gr h.2 (Gr.alloc w' o)⟩) ⟨L2, L3⟩ (by intro f hf; simp only [List.mem_cons, List.not_mem_nil, or_false] at hf; rcases hf with rfl | rfl | rfl | rfl | rfl <;> first | exact alloc_zero (z := (.agg #[(.bool false), (.slice none 0 0), (.bool false), (.slice none 0 0), (.bool false), (.slice none 0 0), (.bool false), (.slice none 0 0), (.bool false), (.slice none 0 0), (.bool false), (.slice none 0 0)])) (by kernel_rfl) rfl | exact alloc_zero (z := (.agg #[(.bool false), (.slice none 0 0), (.bool false), (.slice none 0 0), (.bool false), (.slice none 0 0), (.bool false), (.slice none 0 0), (.bool false), (.slice none 0 0), (.bool false), (.slice none 0 0)])) (by kernel_rfl) rfl | exact alloc_zero (z := (.agg #[(.bool false), (.slice none 0 0), (.bool false), (.slice none 0 0), (.bool false), (.slice none 0 0), (.bool false), (.slice none 0 0), (.bool false), (.slice none 0 0), (.bool false), (.slice none 0 0)])) (by kernel_rfl) rfl | exact alloc_zero (z := (.agg #[(.bool false), (.slice none 0 0), (.bool false), (.slice none 0 0), (.bool false), (.slice none 0 0), (.bool false), (.slice none 0 0), (.bool false), (.slice none 0 0), (.bool false), (.slice none 0 0)])) (by kernel_rfl) rfl | exact alloc_zero (z := (.agg #[(.bool false), (.slice none 0 0), (.bool false), (.slice none 0 0), (.bool false), (.slice none 0 0), (.bool false), (.slice none 0 0), (.bool false), (.slice none 0 0), (.bool false), (.slice none 0 0)])) (by kernel_rfl) rfl) ?_
 refine fv 13 (.pointer (some ⟨b2, 0, none⟩)) ?_
 simp only [p3, p4]
 refine fw 14 (.agg #[(.int .i8 (ia1)), (.int .i8 (ia2)), (.int .i8 (ia3)), (.int .u8 (da))]) rfl (fun w' hS => (rl 42 0 [(.int .i8 (ia1)), (.int .i8 (ia2)), (.int .i8 (ia3)), (.int .u8 (da))] hS.1)) ?_
 simp only [p3, p4]
 refine fv 16 (.pointer (some ⟨b2, 4, none⟩)) ?_
 simp only [p3, p4]
 refine fw 17 (.agg #[(.int .i8 (ic1)), (.int .i8 (ic2)), (.int .i8 (ic3)), (.int .u8 (dc))]) rfl (fun w' hS => (rl 42 4 [(.int .i8 (ic1)), (.int .i8 (ic2)), (.int .i8 (ic3)), (.int .u8 (dc))] hS.1)) ?_
 simp only [p3, p4]
 refine fv 19 (.pointer (some ⟨b2, 8, none⟩)) ?_
 simp only [p3, p4]
 refine fw 20 (.agg #[(.int .i8 (if1)), (.int .i8 (if2)), (.int .i8 (if3)), (.int .u8 (df))]) rfl (fun w' hS => (rl 42 8 [(.int .i8 (if1)), (.int .i8 (if2)), (.int .i8 (if3)), (.int .u8 (df))] hS.1)) ?_
 simp only [p3, p4]
 refine fv 22 (.pointer (some ⟨b2, 12, none⟩)) ?_
 simp only [p3, p4]
 refine fw 23 (.agg #[(.int .i8 (im1)), (.int .i8 (im2)), (.int .i8 (im3)), (.int .u8 (dm))]) rfl (fun w' hS => (rl 42 12 [(.int .i8 (im1)), (.int .i8 (im2)), (.int .i8 (im3)), (.int .u8 (dm))] hS.1)) ?_
 simp only [p3, p4]
 refine fw 25 (.agg #[(.int .i8 (iu1)), (.int .i8 (iu2)), (.int .i8 (iu3)), (.int .u8 (du))]) rfl (fun w' hS => (rl 42 0 [(.int .i8 (iu1)), (.int .i8 (iu2)), (.int .i8 (iu3)), (.int .u8 (du))] hS.2)) ?_
 simp only [p3, p4]
 refine flo_eff rfl rfl (fun w9 g9 _ K9 k9 => ?_)
 replace hB := hB.trans g9
 refine ec 15 (made_v ia1 ia2 ia3 da ja1 ja2 ja3 jda a1 a2 a3 ea1 ea2 ea3 _ (hm.gr hB)) ?_
 rintro e10 w10 ⟨⟨t10_0, t10_1, t10_2, t10_3, t10_4, t10_5, t10_6, t10_7, t10_8, t10_9, t10_10, t10_11, rfl, h10a, h10b, h10c⟩, g10⟩
 refine ⟨_, rfl, ?_⟩
 replace hB := hB.trans g10
 replace L2 := L2.gr (g9.trans g10)
 replace L3 := L3.gr (g9.trans g10)
 refine k9 _ _ g10 ⟨L2, L3⟩ ?_
 try clear k9 K9
 simp only [p3, p4]
 refine flo_eff rfl rfl (fun w11 g11 _ K11 k11 => ?_)
 replace hB := hB.trans g11
 refine ec 18 (made_v ic1 ic2 ic3 dc jc1 jc2 jc3 jdc c1 c2 c3 ec1 ec2 ec3 _ (hm.gr hB)) ?_
 rintro e12 w12 ⟨⟨t12_0, t12_1, t12_2, t12_3, t12_4, t12_5, t12_6, t12_7, t12_8, t12_9, t12_10, t12_11, rfl, h12a, h12b, h12c⟩, g12⟩
 refine ⟨_, rfl, ?_⟩
 replace hB := hB.trans g12
 replace L2 := L2.gr (g11.trans g12)
 replace L3 := L3.gr (g11.trans g12)
 refine k11 _ _ g12 ⟨L2, L3⟩ ?_
 try clear k11 K11
 simp only [p3, p4]
 refine flo_eff rfl rfl (fun w13 g13 _ K13 k13 => ?_)
 replace hB := hB.trans g13
 refine ec 21 (made_v if1 if2 if3 df jf1 jf2 jf3 jdf f1 f2 f3 ef1 ef2 ef3 _ (hm.gr hB)) ?_
 rintro e14 w14 ⟨⟨t14_0, t14_1, t14_2, t14_3, t14_4, t14_5, t14_6, t14_7, t14_8, t14_9, t14_10, t14_11, rfl, h14a, h14b, h14c⟩, g14⟩
 refine ⟨_, rfl, ?_⟩
 replace hB := hB.trans g14
 replace L2 := L2.gr (g13.trans g14)
 replace L3 := L3.gr (g13.trans g14)
 refine k13 _ _ g14 ⟨L2, L3⟩ ?_
 try clear k13 K13
 simp only [p3, p4]
 refine flo_eff rfl rfl (fun w15 g15 _ K15 k15 => ?_)
 replace hB := hB.trans g15
 refine ec 24 (made_v im1 im2 im3 dm jm1 jm2 jm3 jdm m1 m2 m3 em1 em2 em3 _ (hm.gr hB)) ?_
 rintro e16 w16 ⟨⟨t16_0, t16_1, t16_2, t16_3, t16_4, t16_5, t16_6, t16_7, t16_8, t16_9, t16_10, t16_11, rfl, h16a, h16b, h16c⟩, g16⟩
 refine ⟨_, rfl, ?_⟩
 replace hB := hB.trans g16
 replace L2 := L2.gr (g15.trans g16)
 replace L3 := L3.gr (g15.trans g16)
 refine k15 _ _ g16 ⟨L2, L3⟩ ?_
 try clear k15 K15
 simp only [p3, p4]
 refine flo_eff rfl rfl (fun w17 g17 _ K17 k17 => ?_)
 replace hB := hB.trans g17
 refine ec 26 (made_v iu1 iu2 iu3 du ju1 ju2 ju3 jdu u1 u2 u3 eu1 eu2 eu3 _ (hm.gr hB)) ?_
 rintro e18 w18 ⟨⟨t18_0, t18_1, t18_2, t18_3, t18_4, t18_5, t18_6, t18_7, t18_8, t18_9, t18_10, t18_11, rfl, h18a, h18b, h18c⟩, g18⟩
 refine ⟨_, rfl, ?_⟩
 replace hB := hB.trans g18
 replace L2 := L2.gr (g17.trans g18)
 replace L3 := L3.gr (g17.trans g18)
 refine k17 _ _ g18 ⟨L2, L3⟩ ?_
 try clear k17 K17
 simp only [p3, p4]
 refine flo_nil (fun w19 g19 _ => ?_)
 replace hB := hB.trans g19
 refine floFin5 (fun b20 b21 b22 b23 b24 (L20 : Lc w19 b20 #[(.bool false), (.slice none 0 0), (.bool false), (.slice none 0 0), (.bool false), (.slice none 0 0), (.bool false), (.slice none 0 0), (.bool false), (.slice none 0 0), (.bool false), (.slice none 0 0)] 32) q20 (L21 : Lc w19 b21 #[(.bool false), (.slice none 0 0), (.bool false), (.slice none 0 0), (.bool false), (.slice none 0 0), (.bool false), (.slice none 0 0), (.bool false), (.slice none 0 0), (.bool false), (.slice none 0 0)] 32) q21 (L22 : Lc w19 b22 #[(.bool false), (.slice none 0 0), (.bool false), (.slice none 0 0), (.bool false), (.slice none 0 0), (.bool false), (.slice none 0 0), (.bool false), (.slice none 0 0), (.bool false), (.slice none 0 0)] 32) q22 (L23 : Lc w19 b23 #[(.bool false), (.slice none 0 0), (.bool false), (.slice none 0 0), (.bool false), (.slice none 0 0), (.bool false), (.slice none 0 0), (.bool false), (.slice none 0 0), (.bool false), (.slice none 0 0)] 32) q23 (L24 : Lc w19 b24 #[(.bool false), (.slice none 0 0), (.bool false), (.slice none 0 0), (.bool false), (.slice none 0 0), (.bool false), (.slice none 0 0), (.bool false), (.slice none 0 0), (.bool false), (.slice none 0 0)] 32) q24 ne20_21 ne20_22 ne21_22 ne20_23 ne21_23 ne22_23 ne20_24 ne21_24 ne22_24 ne23_24 => ?_)
 have ne2_20 : b2 ≠ b20 := Nat.ne_of_lt (Nat.lt_of_lt_of_le lt2_8 q20)
 have ne3_20 : b3 ≠ b20 := Nat.ne_of_lt (Nat.lt_of_lt_of_le lt3_8 q20)
 replace q20 := Nat.le_trans hz8 q20
 have ne2_21 : b2 ≠ b21 := Nat.ne_of_lt (Nat.lt_of_lt_of_le lt2_8 q21)
 have ne3_21 : b3 ≠ b21 := Nat.ne_of_lt (Nat.lt_of_lt_of_le lt3_8 q21)
 replace q21 := Nat.le_trans hz8 q21
 have ne2_22 : b2 ≠ b22 := Nat.ne_of_lt (Nat.lt_of_lt_of_le lt2_8 q22)
 have ne3_22 : b3 ≠ b22 := Nat.ne_of_lt (Nat.lt_of_lt_of_le lt3_8 q22)
 replace q22 := Nat.le_trans hz8 q22
 have ne2_23 : b2 ≠ b23 := Nat.ne_of_lt (Nat.lt_of_lt_of_le lt2_8 q23)
 have ne3_23 : b3 ≠ b23 := Nat.ne_of_lt (Nat.lt_of_lt_of_le lt3_8 q23)
 replace q23 := Nat.le_trans hz8 q23
 have ne2_24 : b2 ≠ b24 := Nat.ne_of_lt (Nat.lt_of_lt_of_le lt2_8 q24)
 have ne3_24 : b3 ≠ b24 := Nat.ne_of_lt (Nat.lt_of_lt_of_le lt3_8 q24)
 replace q24 := Nat.le_trans hz8 q24
 simp only [putl, p3, p4]
 refine oe ?_
 refine es 32 0 (.agg #[t10_0, t10_1, t10_2, t10_3, t10_4, t10_5, t10_6, t10_7, t10_8, t10_9, t10_10, t10_11]) [t10_0, t10_1, t10_2, t10_3, t10_4, t10_5, t10_6, t10_7, t10_8, t10_9, t10_10, t10_11] #[t10_0, t10_1, t10_2, t10_3, t10_4, t10_5, t10_6, t10_7, t10_8, t10_9, t10_10, t10_11] L20 hB q20 ⟨h10a.one0, h10a.one1, h10a.one2, h10a.one3, h10b.one0, h10b.one1, h10b.one2, h10b.one3, h10c.one0, h10c.one1, h10c.one2, h10c.one3, trivial⟩ fun w26 st26 kp26 L20 hB => ?_
 replace L2 := st26.lc (L2.gr g19) ne2_20
 replace L3 := st26.lc (L3.gr g19) ne3_20
 refine ⟨⟨L2, L3⟩, ?_⟩
 refine oe ?_
 replace L21 := st26.lc L21 (Ne.symm ne20_21)
 refine es 32 0 (.agg #[t12_0, t12_1, t12_2, t12_3, t12_4, t12_5, t12_6, t12_7, t12_8, t12_9, t12_10, t12_11]) [t12_0, t12_1, t12_2, t12_3, t12_4, t12_5, t12_6, t12_7, t12_8, t12_9, t12_10, t12_11] #[t12_0, t12_1, t12_2, t12_3, t12_4, t12_5, t12_6, t12_7, t12_8, t12_9, t12_10, t12_11] L21 hB q21 ⟨h12a.one0, h12a.one1, h12a.one2, h12a.one3, h12b.one0, h12b.one1, h12b.one2, h12b.one3, h12c.one0, h12c.one1, h12c.one2, h12c.one3, trivial⟩ fun w28 st28 kp28 L21 hB => ?_
 replace L2 := st28.lc L2 ne2_21
 replace L3 := st28.lc L3 ne3_21
 refine ⟨⟨L2, L3⟩, ?_⟩
 refine oe ?_
 replace L22 := st28.lc (st26.lc L22 (Ne.symm ne20_22)) (Ne.symm ne21_22)
 refine es 32 0 (.agg #[t14_0, t14_1, t14_2, t14_3, t14_4, t14_5, t14_6, t14_7, t14_8, t14_9, t14_10, t14_11]) [t14_0, t14_1, t14_2, t14_3, t14_4, t14_5, t14_6, t14_7, t14_8, t14_9, t14_10, t14_11] #[t14_0, t14_1, t14_2, t14_3, t14_4, t14_5, t14_6, t14_7, t14_8, t14_9, t14_10, t14_11] L22 hB q22 ⟨h14a.one0, h14a.one1, h14a.one2, h14a.one3, h14b.one0, h14b.one1, h14b.one2, h14b.one3, h14c.one0, h14c.one1, h14c.one2, h14c.one3, trivial⟩ fun w30 st30 kp30 L22 hB => ?_
 replace L2 := st30.lc L2 ne2_22
 replace L3 := st30.lc L3 ne3_22
 refine ⟨⟨L2, L3⟩, ?_⟩
 refine oe ?_
 replace L23 := st30.lc (st28.lc (st26.lc L23 (Ne.symm ne20_23)) (Ne.symm ne21_23)) (Ne.symm ne22_23)
 refine es 32 0 (.agg #[t16_0, t16_1, t16_2, t16_3, t16_4, t16_5, t16_6, t16_7, t16_8, t16_9, t16_10, t16_11]) [t16_0, t16_1, t16_2, t16_3, t16_4, t16_5, t16_6, t16_7, t16_8, t16_9, t16_10, t16_11] #[t16_0, t16_1, t16_2, t16_3, t16_4, t16_5, t16_6, t16_7, t16_8, t16_9, t16_10, t16_11] L23 hB q23 ⟨h16a.one0, h16a.one1, h16a.one2, h16a.one3, h16b.one0, h16b.one1, h16b.one2, h16b.one3, h16c.one0, h16c.one1, h16c.one2, h16c.one3, trivial⟩ fun w32 st32 kp32 L23 hB => ?_
 replace L2 := st32.lc L2 ne2_23
 replace L3 := st32.lc L3 ne3_23
 refine ⟨⟨L2, L3⟩, ?_⟩
 refine oe ?_
 replace L24 := st32.lc (st30.lc (st28.lc (st26.lc L24 (Ne.symm ne20_24)) (Ne.symm ne21_24)) (Ne.symm ne22_24)) (Ne.symm ne23_24)
 refine es 32 0 (.agg #[t18_0, t18_1, t18_2, t18_3, t18_4, t18_5, t18_6, t18_7, t18_8, t18_9, t18_10, t18_11]) [t18_0, t18_1, t18_2, t18_3, t18_4, t18_5, t18_6, t18_7, t18_8, t18_9, t18_10, t18_11] #[t18_0, t18_1, t18_2, t18_3, t18_4, t18_5, t18_6, t18_7, t18_8, t18_9, t18_10, t18_11] L24 hB q24 ⟨h18a.one0, h18a.one1, h18a.one2, h18a.one3, h18b.one0, h18b.one1, h18b.one2, h18b.one3, h18c.one0, h18c.one1, h18c.one2, h18c.one3, trivial⟩ fun w34 st34 kp34 L24 hB => ?_
 replace L2 := st34.lc L2 ne2_24
 replace L3 := st34.lc L3 ne3_24
 refine ⟨⟨L2, L3⟩, ?_⟩
 refine ord_nil ?_
 refine k7 _ _ ?_
 try clear k7 K7
 refine wp_seq_k (fun K35 k35 => ?_)
 refine rg [0, 1, 2, 3, 4, 5] ?_
 replace L20 := st34.lc (st32.lc (st30.lc (st28.lc L20 ne20_21) ne20_22) ne20_23) ne20_24
 refine sw 27 (.agg #[t10_0, t10_1, t10_2, t10_3, t10_4, t10_5, t10_6, t10_7, t10_8, t10_9, t10_10, t10_11]) rfl (rl 32 0 [t10_0, t10_1, t10_2, t10_3, t10_4, t10_5, t10_6, t10_7, t10_8, t10_9, t10_10, t10_11] L20) ?_
 simp only [p3, p4]
 replace L21 := st34.lc (st32.lc (st30.lc L21 ne21_22) ne21_23) ne21_24
 refine sw 28 (.agg #[t12_0, t12_1, t12_2, t12_3, t12_4, t12_5, t12_6, t12_7, t12_8, t12_9, t12_10, t12_11]) rfl (rl 32 0 [t12_0, t12_1, t12_2, t12_3, t12_4, t12_5, t12_6, t12_7, t12_8, t12_9, t12_10, t12_11] L21) ?_
 simp only [p3, p4]
 replace L22 := st34.lc (st32.lc L22 ne22_23) ne22_24
 refine sw 29 (.agg #[t14_0, t14_1, t14_2, t14_3, t14_4, t14_5, t14_6, t14_7, t14_8, t14_9, t14_10, t14_11]) rfl (rl 32 0 [t14_0, t14_1, t14_2, t14_3, t14_4, t14_5, t14_6, t14_7, t14_8, t14_9, t14_10, t14_11] L22) ?_
 simp only [p3, p4]
 replace L23 := st34.lc L23 ne23_24
 refine sw 30 (.agg #[t16_0, t16_1, t16_2, t16_3, t16_4, t16_5, t16_6, t16_7, t16_8, t16_9, t16_10, t16_11]) rfl (rl 32 0 [t16_0, t16_1, t16_2, t16_3, t16_4, t16_5, t16_6, t16_7, t16_8, t16_9, t16_10, t16_11] L23) ?_
 simp only [p3, p4]
 refine se ?_
 have kq37 := g11.kp.trans (g12.kp.trans (g13.kp.trans (g14.kp.trans (g15.kp.trans (g16.kp.trans (g17.kp.trans (g18.kp.trans (g19.kp.trans (kp26.trans (kp28.trans (kp30.trans (kp32.trans kp34))))))))))))
 replace h10a := h10a.kp kq37
 replace h10b := h10b.kp kq37
 replace h10c := h10c.kp kq37
 have kq38 := g13.kp.trans (g14.kp.trans (g15.kp.trans (g16.kp.trans (g17.kp.trans (g18.kp.trans (g19.kp.trans (kp26.trans (kp28.trans (kp30.trans (kp32.trans kp34))))))))))
 replace h12a := h12a.kp kq38
 replace h12b := h12b.kp kq38
 replace h12c := h12c.kp kq38
 have kq39 := g15.kp.trans (g16.kp.trans (g17.kp.trans (g18.kp.trans (g19.kp.trans (kp26.trans (kp28.trans (kp30.trans (kp32.trans kp34))))))))
 replace h14a := h14a.kp kq39
 replace h14b := h14b.kp kq39
 replace h14c := h14c.kp kq39
 have kq40 := g17.kp.trans (g18.kp.trans (g19.kp.trans (kp26.trans (kp28.trans (kp30.trans (kp32.trans kp34))))))
 replace h16a := h16a.kp kq40
 replace h16b := h16b.kp kq40
 replace h16c := h16c.kp kq40
 refine ec 31 (vorient_v h10a h10b h10c h12a h12b h12c h14a h14b h14c h16a h16b h16c (by omega)) ?_
 rintro e36 w36 ⟨rfl, g36⟩
 refine ⟨_, rfl, ?_⟩
 replace hB := hB.trans g36
 simp only [p3, p4]
 refine sv 10 (.int .i64 (sgn (0 + (c1 - a1) * ((f2 - a2) * (m3 - a3) - (f3 - a3) * (m2 - a2)) + (c2 - a2) * ((f3 - a3) * (m1 - a1) - (f1 - a1) * (m3 - a3)) + (c3 - a3) * ((f1 - a1) * (m2 - a2) - (f2 - a2) * (m1 - a1))).num)) ?_
 simp only [p3, p4]
 refine sq_nil ?_
 refine k35 _ _ ?_
 try clear k35 K35
 refine wp_seq_k (fun K41 k41 => ?_)
 refine wp_seq_k (fun K42 k42 => ?_)
 have gd73 := Gr.drew w36
 replace hB := hB.trans gd73
 replace L2 := L2.gr (g36.trans gd73)
 replace L20 := L20.gr (g36.trans gd73)
 replace L21 := L21.gr (g36.trans gd73)
 replace L22 := L22.gr (g36.trans gd73)
 replace L23 := L23.gr (g36.trans gd73)
 replace L24 := L24.gr (g36.trans gd73)
 refine wp_region_ord (fun w' => Lc w' b2 #[(.int .i8 (ia1)), (.int .i8 (ia2)), (.int .i8 (ia3)), (.int .u8 (da)), (.int .i8 (ic1)), (.int .i8 (ic2)), (.int .i8 (ic3)), (.int .u8 (dc)), (.int .i8 (if1)), (.int .i8 (if2)), (.int .i8 (if3)), (.int .u8 (df)), (.int .i8 (im1)), (.int .i8 (im2)), (.int .i8 (im3)), (.int .u8 (dm))] 83 ∧ Lc w' b20 #[t10_0, t10_1, t10_2, t10_3, t10_4, t10_5, t10_6, t10_7, t10_8, t10_9, t10_10, t10_11] 32 ∧ Lc w' b21 #[t12_0, t12_1, t12_2, t12_3, t12_4, t12_5, t12_6, t12_7, t12_8, t12_9, t12_10, t12_11] 32 ∧ Lc w' b22 #[t14_0, t14_1, t14_2, t14_3, t14_4, t14_5, t14_6, t14_7, t14_8, t14_9, t14_10, t14_11] 32 ∧ Lc w' b23 #[t16_0, t16_1, t16_2, t16_3, t16_4, t16_5, t16_6, t16_7, t16_8, t16_9, t16_10, t16_11] 32 ∧ Lc w' b24 #[t18_0, t18_1, t18_2, t18_3, t18_4, t18_5, t18_6, t18_7, t18_8, t18_9, t18_10, t18_11] 32) [(true, 0), (true, 1), (true, 2), (true, 4), (true, 5), (true, 7), (true, 8), (true, 10), (true, 11), (false, 3), (false, 6), (false, 9), (false, 12), (false, 13), (true, 14), (true, 15), (true, 16), (true, 17), (true, 19), (true, 20), (true, 22), (true, 23), (true, 25), (true, 26), (true, 29), (false, 18), (false, 21), (false, 24), (false, 27), (false, 28), (true, 30), (true, 31)] (by kernel_rfl) (by kernel_rfl) (by kernel_rfl) (by decide) (fun _ _ _ _ _ h => h) ⟨L2, L20, L21, L22, L23, L24⟩ ?_
 refine ov 32 (.int .i64 (sgn (0 + (c1 - a1) * ((f2 - a2) * (m3 - a3) - (f3 - a3) * (m2 - a2)) + (c2 - a2) * ((f3 - a3) * (m1 - a1) - (f1 - a1) * (m3 - a3)) + (c3 - a3) * ((f1 - a1) * (m2 - a2) - (f2 - a2) * (m1 - a1))).num)) ?_
 simp only [p3, p4]
 refine ov 33 (.pointer (some ⟨b2, 0, none⟩)) ?_
 simp only [p3, p4]
 refine ow 34 (.agg #[(.int .i8 (ia1)), (.int .i8 (ia2)), (.int .i8 (ia3)), (.int .u8 (da))]) rfl (fun w' hS => (rl 42 0 [(.int .i8 (ia1)), (.int .i8 (ia2)), (.int .i8 (ia3)), (.int .u8 (da))] hS.1)) ?_
 simp only [p3, p4]
 refine ov 36 (.pointer (some ⟨b2, 4, none⟩)) ?_
 simp only [p3, p4]
 refine ow 37 (.agg #[(.int .i8 (ic1)), (.int .i8 (ic2)), (.int .i8 (ic3)), (.int .u8 (dc))]) rfl (fun w' hS => (rl 42 4 [(.int .i8 (ic1)), (.int .i8 (ic2)), (.int .i8 (ic3)), (.int .u8 (dc))] hS.1)) ?_
 simp only [p3, p4]
 refine ov 39 (.pointer (some ⟨b2, 8, none⟩)) ?_
 simp only [p3, p4]
 refine ow 40 (.agg #[(.int .i8 (if1)), (.int .i8 (if2)), (.int .i8 (if3)), (.int .u8 (df))]) rfl (fun w' hS => (rl 42 8 [(.int .i8 (if1)), (.int .i8 (if2)), (.int .i8 (if3)), (.int .u8 (df))] hS.1)) ?_
 simp only [p3, p4]
 refine ov 42 (.pointer (some ⟨b2, 12, none⟩)) ?_
 simp only [p3, p4]
 refine ow 43 (.agg #[(.int .i8 (im1)), (.int .i8 (im2)), (.int .i8 (im3)), (.int .u8 (dm))]) rfl (fun w' hS => (rl 42 12 [(.int .i8 (im1)), (.int .i8 (im2)), (.int .i8 (im3)), (.int .u8 (dm))] hS.1)) ?_
 simp only [p3, p4]
 refine oe ?_
 refine ec 35 (texts_v ia1 ia2 ia3 da ja1 ja2 ja3 jda a1 a2 a3 ea1 ea2 ea3 _) ?_
 rintro e75 w75 ⟨rfl, g75⟩
 refine ⟨_, rfl, ?_⟩
 replace hB := hB.trans g75
 replace L2 := L2.gr g75
 replace L20 := L20.gr g75
 replace L21 := L21.gr g75
 replace L22 := L22.gr g75
 replace L23 := L23.gr g75
 replace L24 := L24.gr g75
 refine ⟨⟨L2, L20, L21, L22, L23, L24⟩, ?_⟩
 simp only [p3, p4]
 refine oe ?_
 refine ec 38 (texts_v ic1 ic2 ic3 dc jc1 jc2 jc3 jdc c1 c2 c3 ec1 ec2 ec3 _) ?_
 rintro e77 w77 ⟨rfl, g77⟩
 refine ⟨_, rfl, ?_⟩
 replace hB := hB.trans g77
 replace L2 := L2.gr g77
 replace L20 := L20.gr g77
 replace L21 := L21.gr g77
 replace L22 := L22.gr g77
 replace L23 := L23.gr g77
 replace L24 := L24.gr g77
 refine ⟨⟨L2, L20, L21, L22, L23, L24⟩, ?_⟩
 simp only [p3, p4]
 refine oe ?_
 refine ec 41 (texts_v if1 if2 if3 df jf1 jf2 jf3 jdf f1 f2 f3 ef1 ef2 ef3 _) ?_
 rintro e79 w79 ⟨rfl, g79⟩
 refine ⟨_, rfl, ?_⟩
 replace hB := hB.trans g79
 replace L2 := L2.gr g79
 replace L20 := L20.gr g79
 replace L21 := L21.gr g79
 replace L22 := L22.gr g79
 replace L23 := L23.gr g79
 replace L24 := L24.gr g79
 refine ⟨⟨L2, L20, L21, L22, L23, L24⟩, ?_⟩
 simp only [p3, p4]
 refine oe ?_
 refine ec 44 (texts_v im1 im2 im3 dm jm1 jm2 jm3 jdm m1 m2 m3 em1 em2 em3 _) ?_
 rintro e81 w81 ⟨rfl, g81⟩
 refine ⟨_, rfl, ?_⟩
 replace hB := hB.trans g81
 replace L2 := L2.gr g81
 replace L20 := L20.gr g81
 replace L21 := L21.gr g81
 replace L22 := L22.gr g81
 replace L23 := L23.gr g81
 replace L24 := L24.gr g81
 refine ⟨⟨L2, L20, L21, L22, L23, L24⟩, ?_⟩
 simp only [p3, p4]
 refine oe ?_
 refine ec 45 (r3_orient (a1) (a2) (a3) ha1 ha2 ha3 (c1) (c2) (c3) hc1 hc2 hc3 (f1) (f2) (f3) hf1 hf2 hf3 (m1) (m2) (m3) hm1 hm2 hm3 (by omega) _) ?_
 rintro e83 w83 ⟨rfl, g83⟩
 refine ⟨_, rfl, ?_⟩
 replace hB := hB.trans g83
 replace L2 := L2.gr g83
 replace L20 := L20.gr g83
 replace L21 := L21.gr g83
 replace L22 := L22.gr g83
 replace L23 := L23.gr g83
 replace L24 := L24.gr g83
 refine ⟨⟨L2, L20, L21, L22, L23, L24⟩, ?_⟩
 simp only [p3, p4]
 have hb84 : ((sgn (0 + (c1 - a1) * ((f2 - a2) * (m3 - a3) - (f3 - a3) * (m2 - a2)) + (c2 - a2) * ((f3 - a3) * (m1 - a1) - (f1 - a1) * (m3 - a3)) + (c3 - a3) * ((f1 - a1) * (m2 - a2) - (f2 - a2) * (m1 - a1))).num != sgn ((c1 - a1) * ((f2 - a2) * (m3 - a3) - (f3 - a3) * (m2 - a2)) + (c2 - a2) * ((f3 - a3) * (m1 - a1) - (f1 - a1) * (m3 - a3)) + (c3 - a3) * ((f1 - a1) * (m2 - a2) - (f2 - a2) * (m1 - a1))).num)) = false := (lawVr0 a1 a2 a3 c1 c2 c3 f1 f2 f3 m1 m2 m3 )
 refine ow 46 (.bool false) rfl (fun w' hS => (RunV.bool (x := (sgn (0 + (c1 - a1) * ((f2 - a2) * (m3 - a3) - (f3 - a3) * (m2 - a2)) + (c2 - a2) * ((f3 - a3) * (m1 - a1) - (f1 - a1) * (m3 - a3)) + (c3 - a3) * ((f1 - a1) * (m2 - a2) - (f2 - a2) * (m1 - a1))).num != sgn ((c1 - a1) * ((f2 - a2) * (m3 - a3) - (f3 - a3) * (m2 - a2)) + (c2 - a2) * ((f3 - a3) * (m1 - a1) - (f1 - a1) * (m3 - a3)) + (c3 - a3) * ((f1 - a1) * (m2 - a2) - (f2 - a2) * (m1 - a1))).num)) (rvk (by kernel_rfl)) hb84)) ?_
 simp only [p3, p4]
 refine ov 47 (.bool false) ?_
 simp only [p3, p4]
 refine ow 48 (.agg #[t10_0, t10_1, t10_2, t10_3, t10_4, t10_5, t10_6, t10_7, t10_8, t10_9, t10_10, t10_11]) rfl (fun w' hS => (rl 32 0 [t10_0, t10_1, t10_2, t10_3, t10_4, t10_5, t10_6, t10_7, t10_8, t10_9, t10_10, t10_11] hS.2.1)) ?_
 simp only [p3, p4]
 refine ow 49 (.agg #[t18_0, t18_1, t18_2, t18_3, t18_4, t18_5, t18_6, t18_7, t18_8, t18_9, t18_10, t18_11]) rfl (fun w' hS => (rl 32 0 [t18_0, t18_1, t18_2, t18_3, t18_4, t18_5, t18_6, t18_7, t18_8, t18_9, t18_10, t18_11] hS.2.2.2.2.2)) ?_
 simp only [p3, p4]
 refine ow 51 (.agg #[t12_0, t12_1, t12_2, t12_3, t12_4, t12_5, t12_6, t12_7, t12_8, t12_9, t12_10, t12_11]) rfl (fun w' hS => (rl 32 0 [t12_0, t12_1, t12_2, t12_3, t12_4, t12_5, t12_6, t12_7, t12_8, t12_9, t12_10, t12_11] hS.2.2.1)) ?_
 simp only [p3, p4]
 refine ow 52 (.agg #[t18_0, t18_1, t18_2, t18_3, t18_4, t18_5, t18_6, t18_7, t18_8, t18_9, t18_10, t18_11]) rfl (fun w' hS => (rl 32 0 [t18_0, t18_1, t18_2, t18_3, t18_4, t18_5, t18_6, t18_7, t18_8, t18_9, t18_10, t18_11] hS.2.2.2.2.2)) ?_
 simp only [p3, p4]
 refine ow 54 (.agg #[t14_0, t14_1, t14_2, t14_3, t14_4, t14_5, t14_6, t14_7, t14_8, t14_9, t14_10, t14_11]) rfl (fun w' hS => (rl 32 0 [t14_0, t14_1, t14_2, t14_3, t14_4, t14_5, t14_6, t14_7, t14_8, t14_9, t14_10, t14_11] hS.2.2.2.1)) ?_
 simp only [p3, p4]
 refine ow 55 (.agg #[t18_0, t18_1, t18_2, t18_3, t18_4, t18_5, t18_6, t18_7, t18_8, t18_9, t18_10, t18_11]) rfl (fun w' hS => (rl 32 0 [t18_0, t18_1, t18_2, t18_3, t18_4, t18_5, t18_6, t18_7, t18_8, t18_9, t18_10, t18_11] hS.2.2.2.2.2)) ?_
 simp only [p3, p4]
 refine ow 57 (.agg #[t16_0, t16_1, t16_2, t16_3, t16_4, t16_5, t16_6, t16_7, t16_8, t16_9, t16_10, t16_11]) rfl (fun w' hS => (rl 32 0 [t16_0, t16_1, t16_2, t16_3, t16_4, t16_5, t16_6, t16_7, t16_8, t16_9, t16_10, t16_11] hS.2.2.2.2.1)) ?_
 simp only [p3, p4]
 refine ow 58 (.agg #[t18_0, t18_1, t18_2, t18_3, t18_4, t18_5, t18_6, t18_7, t18_8, t18_9, t18_10, t18_11]) rfl (fun w' hS => (rl 32 0 [t18_0, t18_1, t18_2, t18_3, t18_4, t18_5, t18_6, t18_7, t18_8, t18_9, t18_10, t18_11] hS.2.2.2.2.2)) ?_
 simp only [p3, p4]
 refine ov 61 (.int .i64 (sgn (0 + (c1 - a1) * ((f2 - a2) * (m3 - a3) - (f3 - a3) * (m2 - a2)) + (c2 - a2) * ((f3 - a3) * (m1 - a1) - (f1 - a1) * (m3 - a3)) + (c3 - a3) * ((f1 - a1) * (m2 - a2) - (f2 - a2) * (m1 - a1))).num)) ?_
 simp only [p3, p4]
 refine oe ?_
 have kq87 := g36.kp.trans (gd73.kp.trans (g75.kp.trans (g77.kp.trans (g79.kp.trans (g81.kp.trans g83.kp)))))
 replace h10a := h10a.kp kq87
 replace h10b := h10b.kp kq87
 replace h10c := h10c.kp kq87
 have kq88 := g19.kp.trans (kp26.trans (kp28.trans (kp30.trans (kp32.trans (kp34.trans (g36.kp.trans (gd73.kp.trans (g75.kp.trans (g77.kp.trans (g79.kp.trans (g81.kp.trans g83.kp)))))))))))
 replace h18a := h18a.kp kq88
 replace h18b := h18b.kp kq88
 replace h18c := h18c.kp kq88
 refine ec 50 (vadd_v h10a h10b h10c h18a h18b h18c (by omega)) ?_
 rintro e86 w86 ⟨⟨t86_0, t86_1, t86_2, t86_3, t86_4, t86_5, t86_6, t86_7, t86_8, t86_9, t86_10, t86_11, rfl, h86a, h86b, h86c⟩, g86⟩
 refine ⟨_, rfl, ?_⟩
 replace hB := hB.trans g86
 replace L2 := L2.gr g86
 replace L20 := L20.gr g86
 replace L21 := L21.gr g86
 replace L22 := L22.gr g86
 replace L23 := L23.gr g86
 replace L24 := L24.gr g86
 refine ⟨⟨L2, L20, L21, L22, L23, L24⟩, ?_⟩
 simp only [p3, p4]
 refine oe ?_
 have kq91 := g36.kp.trans (gd73.kp.trans (g75.kp.trans (g77.kp.trans (g79.kp.trans (g81.kp.trans (g83.kp.trans g86.kp))))))
 replace h12a := h12a.kp kq91
 replace h12b := h12b.kp kq91
 replace h12c := h12c.kp kq91
 replace h18a := h18a.kp g86.kp
 replace h18b := h18b.kp g86.kp
 replace h18c := h18c.kp g86.kp
 refine ec 53 (vadd_v h12a h12b h12c h18a h18b h18c (by omega)) ?_
 rintro e90 w90 ⟨⟨t90_0, t90_1, t90_2, t90_3, t90_4, t90_5, t90_6, t90_7, t90_8, t90_9, t90_10, t90_11, rfl, h90a, h90b, h90c⟩, g90⟩
 refine ⟨_, rfl, ?_⟩
 replace hB := hB.trans g90
 replace L2 := L2.gr g90
 replace L20 := L20.gr g90
 replace L21 := L21.gr g90
 replace L22 := L22.gr g90
 replace L23 := L23.gr g90
 replace L24 := L24.gr g90
 refine ⟨⟨L2, L20, L21, L22, L23, L24⟩, ?_⟩
 simp only [p3, p4]
 refine oe ?_
 have kq94 := g36.kp.trans (gd73.kp.trans (g75.kp.trans (g77.kp.trans (g79.kp.trans (g81.kp.trans (g83.kp.trans (g86.kp.trans g90.kp)))))))
 replace h14a := h14a.kp kq94
 replace h14b := h14b.kp kq94
 replace h14c := h14c.kp kq94
 replace h18a := h18a.kp g90.kp
 replace h18b := h18b.kp g90.kp
 replace h18c := h18c.kp g90.kp
 refine ec 56 (vadd_v h14a h14b h14c h18a h18b h18c (by omega)) ?_
 rintro e93 w93 ⟨⟨t93_0, t93_1, t93_2, t93_3, t93_4, t93_5, t93_6, t93_7, t93_8, t93_9, t93_10, t93_11, rfl, h93a, h93b, h93c⟩, g93⟩
 refine ⟨_, rfl, ?_⟩
 replace hB := hB.trans g93
 replace L2 := L2.gr g93
 replace L20 := L20.gr g93
 replace L21 := L21.gr g93
 replace L22 := L22.gr g93
 replace L23 := L23.gr g93
 replace L24 := L24.gr g93
 refine ⟨⟨L2, L20, L21, L22, L23, L24⟩, ?_⟩
 simp only [p3, p4]
 refine oe ?_
 have kq97 := g36.kp.trans (gd73.kp.trans (g75.kp.trans (g77.kp.trans (g79.kp.trans (g81.kp.trans (g83.kp.trans (g86.kp.trans (g90.kp.trans g93.kp))))))))
 replace h16a := h16a.kp kq97
 replace h16b := h16b.kp kq97
 replace h16c := h16c.kp kq97
 replace h18a := h18a.kp g93.kp
 replace h18b := h18b.kp g93.kp
 replace h18c := h18c.kp g93.kp
 refine ec 59 (vadd_v h16a h16b h16c h18a h18b h18c (by omega)) ?_
 rintro e96 w96 ⟨⟨t96_0, t96_1, t96_2, t96_3, t96_4, t96_5, t96_6, t96_7, t96_8, t96_9, t96_10, t96_11, rfl, h96a, h96b, h96c⟩, g96⟩
 refine ⟨_, rfl, ?_⟩
 replace hB := hB.trans g96
 replace L2 := L2.gr g96
 replace L20 := L20.gr g96
 replace L21 := L21.gr g96
 replace L22 := L22.gr g96
 replace L23 := L23.gr g96
 replace L24 := L24.gr g96
 refine ⟨⟨L2, L20, L21, L22, L23, L24⟩, ?_⟩
 simp only [p3, p4]
 refine oe ?_
 have kq100 := g90.kp.trans (g93.kp.trans g96.kp)
 replace h86a := h86a.kp kq100
 replace h86b := h86b.kp kq100
 replace h86c := h86c.kp kq100
 have kq101 := g93.kp.trans g96.kp
 replace h90a := h90a.kp kq101
 replace h90b := h90b.kp kq101
 replace h90c := h90c.kp kq101
 replace h93a := h93a.kp g96.kp
 replace h93b := h93b.kp g96.kp
 replace h93c := h93c.kp g96.kp
 refine ec 60 (vorient_v h86a h86b h86c h90a h90b h90c h93a h93b h93c h96a h96b h96c (by omega)) ?_
 rintro e99 w99 ⟨rfl, g99⟩
 refine ⟨_, rfl, ?_⟩
 replace hB := hB.trans g99
 replace L2 := L2.gr g99
 replace L20 := L20.gr g99
 replace L21 := L21.gr g99
 replace L22 := L22.gr g99
 replace L23 := L23.gr g99
 replace L24 := L24.gr g99
 refine ⟨⟨L2, L20, L21, L22, L23, L24⟩, ?_⟩
 simp only [p3, p4]
 have hb102 : ((sgn (0 + ((c1 + u1) - (a1 + u1)) * (((f2 + u2) - (a2 + u2)) * ((m3 + u3) - (a3 + u3)) - ((f3 + u3) - (a3 + u3)) * ((m2 + u2) - (a2 + u2))) + ((c2 + u2) - (a2 + u2)) * (((f3 + u3) - (a3 + u3)) * ((m1 + u1) - (a1 + u1)) - ((f1 + u1) - (a1 + u1)) * ((m3 + u3) - (a3 + u3))) + ((c3 + u3) - (a3 + u3)) * (((f1 + u1) - (a1 + u1)) * ((m2 + u2) - (a2 + u2)) - ((f2 + u2) - (a2 + u2)) * ((m1 + u1) - (a1 + u1)))).num != sgn (0 + (c1 - a1) * ((f2 - a2) * (m3 - a3) - (f3 - a3) * (m2 - a2)) + (c2 - a2) * ((f3 - a3) * (m1 - a1) - (f1 - a1) * (m3 - a3)) + (c3 - a3) * ((f1 - a1) * (m2 - a2) - (f2 - a2) * (m1 - a1))).num)) = false := (lawVr1 a1 a2 a3 c1 c2 c3 f1 f2 f3 m1 m2 m3 u1 u2 u3 )
 refine ow 62 (.bool false) rfl (fun w' hS => (RunV.bool (x := (sgn (0 + ((c1 + u1) - (a1 + u1)) * (((f2 + u2) - (a2 + u2)) * ((m3 + u3) - (a3 + u3)) - ((f3 + u3) - (a3 + u3)) * ((m2 + u2) - (a2 + u2))) + ((c2 + u2) - (a2 + u2)) * (((f3 + u3) - (a3 + u3)) * ((m1 + u1) - (a1 + u1)) - ((f1 + u1) - (a1 + u1)) * ((m3 + u3) - (a3 + u3))) + ((c3 + u3) - (a3 + u3)) * (((f1 + u1) - (a1 + u1)) * ((m2 + u2) - (a2 + u2)) - ((f2 + u2) - (a2 + u2)) * ((m1 + u1) - (a1 + u1)))).num != sgn (0 + (c1 - a1) * ((f2 - a2) * (m3 - a3) - (f3 - a3) * (m2 - a2)) + (c2 - a2) * ((f3 - a3) * (m1 - a1) - (f1 - a1) * (m3 - a3)) + (c3 - a3) * ((f1 - a1) * (m2 - a2) - (f2 - a2) * (m1 - a1))).num)) (rvk (by kernel_rfl)) hb102)) ?_
 simp only [p3, p4]
 refine ov 63 (.bool false) ?_
 simp only [p3, p4]
 refine ord_nil ?_
 refine k42 _ _ ?_
 try clear k42 K42
 refine wp_cond_false rfl ?_
 refine wp_skip ?_
 refine k41 _ _ ?_
 try clear k41 K41
 refine wp_seq_k (fun K103 k103 => ?_)
 refine rg [0, 1, 2, 3, 4, 5, 6, 7, 8, 9, 10, 11, 12, 13, 14, 15, 16, 17, 18, 19, 20, 21, 22, 23, 24, 25, 26, 27, 28] ?_
 refine sw 64 (.agg #[t12_0, t12_1, t12_2, t12_3, t12_4, t12_5, t12_6, t12_7, t12_8, t12_9, t12_10, t12_11]) rfl (rl 32 0 [t12_0, t12_1, t12_2, t12_3, t12_4, t12_5, t12_6, t12_7, t12_8, t12_9, t12_10, t12_11] L21) ?_
 simp only [p3, p4]
 refine sw 65 (.agg #[t10_0, t10_1, t10_2, t10_3, t10_4, t10_5, t10_6, t10_7, t10_8, t10_9, t10_10, t10_11]) rfl (rl 32 0 [t10_0, t10_1, t10_2, t10_3, t10_4, t10_5, t10_6, t10_7, t10_8, t10_9, t10_10, t10_11] L20) ?_
 simp only [p3, p4]
 refine sw 66 (.agg #[t14_0, t14_1, t14_2, t14_3, t14_4, t14_5, t14_6, t14_7, t14_8, t14_9, t14_10, t14_11]) rfl (rl 32 0 [t14_0, t14_1, t14_2, t14_3, t14_4, t14_5, t14_6, t14_7, t14_8, t14_9, t14_10, t14_11] L22) ?_
 simp only [p3, p4]
 refine sw 67 (.agg #[t16_0, t16_1, t16_2, t16_3, t16_4, t16_5, t16_6, t16_7, t16_8, t16_9, t16_10, t16_11]) rfl (rl 32 0 [t16_0, t16_1, t16_2, t16_3, t16_4, t16_5, t16_6, t16_7, t16_8, t16_9, t16_10, t16_11] L23) ?_
 simp only [p3, p4]
 refine se ?_
 have kq105 := g90.kp.trans (g93.kp.trans (g96.kp.trans g99.kp))
 replace h12a := h12a.kp kq105
 replace h12b := h12b.kp kq105
 replace h12c := h12c.kp kq105
 have kq106 := g86.kp.trans (g90.kp.trans (g93.kp.trans (g96.kp.trans g99.kp)))
 replace h10a := h10a.kp kq106
 replace h10b := h10b.kp kq106
 replace h10c := h10c.kp kq106
 have kq107 := g93.kp.trans (g96.kp.trans g99.kp)
 replace h14a := h14a.kp kq107
 replace h14b := h14b.kp kq107
 replace h14c := h14c.kp kq107
 have kq108 := g96.kp.trans g99.kp
 replace h16a := h16a.kp kq108
 replace h16b := h16b.kp kq108
 replace h16c := h16c.kp kq108
 refine ec 68 (vorient_v h12a h12b h12c h10a h10b h10c h14a h14b h14c h16a h16b h16c (by omega)) ?_
 rintro e104 w104 ⟨rfl, g104⟩
 refine ⟨_, rfl, ?_⟩
 replace hB := hB.trans g104
 simp only [p3, p4]
 refine sv 69 (.int .i64 (sgn (0 + (c1 - a1) * ((f2 - a2) * (m3 - a3) - (f3 - a3) * (m2 - a2)) + (c2 - a2) * ((f3 - a3) * (m1 - a1) - (f1 - a1) * (m3 - a3)) + (c3 - a3) * ((f1 - a1) * (m2 - a2) - (f2 - a2) * (m1 - a1))).num)) ?_
 simp only [p3, p4]
 refine sw 70 (.int .i64 ((0 - sgn (0 + (c1 - a1) * ((f2 - a2) * (m3 - a3) - (f3 - a3) * (m2 - a2)) + (c2 - a2) * ((f3 - a3) * (m1 - a1) - (f1 - a1) * (m3 - a3)) + (c3 - a3) * ((f1 - a1) * (m2 - a2) - (f2 - a2) * (m1 - a1))).num))) rfl (RunV.int (x := IntKind.i64.wrap ((0 - sgn (0 + (c1 - a1) * ((f2 - a2) * (m3 - a3) - (f3 - a3) * (m2 - a2)) + (c2 - a2) * ((f3 - a3) * (m1 - a1) - (f1 - a1) * (m3 - a3)) + (c3 - a3) * ((f1 - a1) * (m2 - a2) - (f2 - a2) * (m1 - a1))).num))) (y := (0 - sgn (0 + (c1 - a1) * ((f2 - a2) * (m3 - a3) - (f3 - a3) * (m2 - a2)) + (c2 - a2) * ((f3 - a3) * (m1 - a1) - (f1 - a1) * (m3 - a3)) + (c3 - a3) * ((f1 - a1) * (m2 - a2) - (f2 - a2) * (m1 - a1))).num)) (rvk (by kernel_rfl)) (by first | rfl | (rw [IntKind.wrap_i64]; omega) | exact wrap_nsgn _ | exact wrap_nvcmp _ _ _ _ _ _)) ?_
 simp only [p3, p4]
 have hb109 : ((sgn (0 + (a1 - c1) * ((f2 - c2) * (m3 - c3) - (f3 - c3) * (m2 - c2)) + (a2 - c2) * ((f3 - c3) * (m1 - c1) - (f1 - c1) * (m3 - c3)) + (a3 - c3) * ((f1 - c1) * (m2 - c2) - (f2 - c2) * (m1 - c1))).num == (0 - sgn (0 + (c1 - a1) * ((f2 - a2) * (m3 - a3) - (f3 - a3) * (m2 - a2)) + (c2 - a2) * ((f3 - a3) * (m1 - a1) - (f1 - a1) * (m3 - a3)) + (c3 - a3) * ((f1 - a1) * (m2 - a2) - (f2 - a2) * (m1 - a1))).num))) = true := (lawVr2 a1 a2 a3 c1 c2 c3 f1 f2 f3 m1 m2 m3 )
 refine sw 71 (.bool true) rfl (RunV.bool (x := (sgn (0 + (a1 - c1) * ((f2 - c2) * (m3 - c3) - (f3 - c3) * (m2 - c2)) + (a2 - c2) * ((f3 - c3) * (m1 - c1) - (f1 - c1) * (m3 - c3)) + (a3 - c3) * ((f1 - c1) * (m2 - c2) - (f2 - c2) * (m1 - c1))).num == (0 - sgn (0 + (c1 - a1) * ((f2 - a2) * (m3 - a3) - (f3 - a3) * (m2 - a2)) + (c2 - a2) * ((f3 - a3) * (m1 - a1) - (f1 - a1) * (m3 - a3)) + (c3 - a3) * ((f1 - a1) * (m2 - a2) - (f2 - a2) * (m1 - a1))).num))) (rvk (by kernel_rfl)) hb109) ?_
 simp only [p3, p4]
 refine sv 72 (.bool true) ?_
 simp only [p3, p4]
 replace L20 := L20.gr g104
 refine sw 73 (.agg #[t10_0, t10_1, t10_2, t10_3, t10_4, t10_5, t10_6, t10_7, t10_8, t10_9, t10_10, t10_11]) rfl (rl 32 0 [t10_0, t10_1, t10_2, t10_3, t10_4, t10_5, t10_6, t10_7, t10_8, t10_9, t10_10, t10_11] L20) ?_
 simp only [p3, p4]
 replace L21 := L21.gr g104
 refine sw 74 (.agg #[t12_0, t12_1, t12_2, t12_3, t12_4, t12_5, t12_6, t12_7, t12_8, t12_9, t12_10, t12_11]) rfl (rl 32 0 [t12_0, t12_1, t12_2, t12_3, t12_4, t12_5, t12_6, t12_7, t12_8, t12_9, t12_10, t12_11] L21) ?_
 simp only [p3, p4]
 replace L23 := L23.gr g104
 refine sw 75 (.agg #[t16_0, t16_1, t16_2, t16_3, t16_4, t16_5, t16_6, t16_7, t16_8, t16_9, t16_10, t16_11]) rfl (rl 32 0 [t16_0, t16_1, t16_2, t16_3, t16_4, t16_5, t16_6, t16_7, t16_8, t16_9, t16_10, t16_11] L23) ?_
 simp only [p3, p4]
 replace L22 := L22.gr g104
 refine sw 76 (.agg #[t14_0, t14_1, t14_2, t14_3, t14_4, t14_5, t14_6, t14_7, t14_8, t14_9, t14_10, t14_11]) rfl (rl 32 0 [t14_0, t14_1, t14_2, t14_3, t14_4, t14_5, t14_6, t14_7, t14_8, t14_9, t14_10, t14_11] L22) ?_
 simp only [p3, p4]
 refine se ?_
 replace h10a := h10a.kp g104.kp
 replace h10b := h10b.kp g104.kp
 replace h10c := h10c.kp g104.kp
 replace h12a := h12a.kp g104.kp
 replace h12b := h12b.kp g104.kp
 replace h12c := h12c.kp g104.kp
 replace h16a := h16a.kp g104.kp
 replace h16b := h16b.kp g104.kp
 replace h16c := h16c.kp g104.kp
 replace h14a := h14a.kp g104.kp
 replace h14b := h14b.kp g104.kp
 replace h14c := h14c.kp g104.kp
 refine ec 77 (vorient_v h10a h10b h10c h12a h12b h12c h16a h16b h16c h14a h14b h14c (by omega)) ?_
 rintro e110 w110 ⟨rfl, g110⟩
 refine ⟨_, rfl, ?_⟩
 replace hB := hB.trans g110
 simp only [p3, p4]
 refine sv 78 (.int .i64 (sgn (0 + (c1 - a1) * ((f2 - a2) * (m3 - a3) - (f3 - a3) * (m2 - a2)) + (c2 - a2) * ((f3 - a3) * (m1 - a1) - (f1 - a1) * (m3 - a3)) + (c3 - a3) * ((f1 - a1) * (m2 - a2) - (f2 - a2) * (m1 - a1))).num)) ?_
 simp only [p3, p4]
 refine sw 79 (.int .i64 ((0 - sgn (0 + (c1 - a1) * ((f2 - a2) * (m3 - a3) - (f3 - a3) * (m2 - a2)) + (c2 - a2) * ((f3 - a3) * (m1 - a1) - (f1 - a1) * (m3 - a3)) + (c3 - a3) * ((f1 - a1) * (m2 - a2) - (f2 - a2) * (m1 - a1))).num))) rfl (RunV.int (x := IntKind.i64.wrap ((0 - sgn (0 + (c1 - a1) * ((f2 - a2) * (m3 - a3) - (f3 - a3) * (m2 - a2)) + (c2 - a2) * ((f3 - a3) * (m1 - a1) - (f1 - a1) * (m3 - a3)) + (c3 - a3) * ((f1 - a1) * (m2 - a2) - (f2 - a2) * (m1 - a1))).num))) (y := (0 - sgn (0 + (c1 - a1) * ((f2 - a2) * (m3 - a3) - (f3 - a3) * (m2 - a2)) + (c2 - a2) * ((f3 - a3) * (m1 - a1) - (f1 - a1) * (m3 - a3)) + (c3 - a3) * ((f1 - a1) * (m2 - a2) - (f2 - a2) * (m1 - a1))).num)) (rvk (by kernel_rfl)) (by first | rfl | (rw [IntKind.wrap_i64]; omega) | exact wrap_nsgn _ | exact wrap_nvcmp _ _ _ _ _ _)) ?_
 simp only [p3, p4]
 have hb111 : ((sgn (0 + (c1 - a1) * ((m2 - a2) * (f3 - a3) - (m3 - a3) * (f2 - a2)) + (c2 - a2) * ((m3 - a3) * (f1 - a1) - (m1 - a1) * (f3 - a3)) + (c3 - a3) * ((m1 - a1) * (f2 - a2) - (m2 - a2) * (f1 - a1))).num == (0 - sgn (0 + (c1 - a1) * ((f2 - a2) * (m3 - a3) - (f3 - a3) * (m2 - a2)) + (c2 - a2) * ((f3 - a3) * (m1 - a1) - (f1 - a1) * (m3 - a3)) + (c3 - a3) * ((f1 - a1) * (m2 - a2) - (f2 - a2) * (m1 - a1))).num))) = true := (lawVr3 a1 a2 a3 c1 c2 c3 f1 f2 f3 m1 m2 m3 )
 refine sw 80 (.bool true) rfl (RunV.bool (x := (sgn (0 + (c1 - a1) * ((m2 - a2) * (f3 - a3) - (m3 - a3) * (f2 - a2)) + (c2 - a2) * ((m3 - a3) * (f1 - a1) - (m1 - a1) * (f3 - a3)) + (c3 - a3) * ((m1 - a1) * (f2 - a2) - (m2 - a2) * (f1 - a1))).num == (0 - sgn (0 + (c1 - a1) * ((f2 - a2) * (m3 - a3) - (f3 - a3) * (m2 - a2)) + (c2 - a2) * ((f3 - a3) * (m1 - a1) - (f1 - a1) * (m3 - a3)) + (c3 - a3) * ((f1 - a1) * (m2 - a2) - (f2 - a2) * (m1 - a1))).num))) (rvk (by kernel_rfl)) hb111) ?_
 simp only [p3, p4]
 refine sv 81 (.bool true) ?_
 simp only [p3, p4]
 refine sv 82 (.bool true) ?_
 simp only [p3, p4]
 replace L23 := L23.gr g110
 refine sw 83 (.agg #[t16_0, t16_1, t16_2, t16_3, t16_4, t16_5, t16_6, t16_7, t16_8, t16_9, t16_10, t16_11]) rfl (rl 32 0 [t16_0, t16_1, t16_2, t16_3, t16_4, t16_5, t16_6, t16_7, t16_8, t16_9, t16_10, t16_11] L23) ?_
 simp only [p3, p4]
 replace L21 := L21.gr g110
 refine sw 84 (.agg #[t12_0, t12_1, t12_2, t12_3, t12_4, t12_5, t12_6, t12_7, t12_8, t12_9, t12_10, t12_11]) rfl (rl 32 0 [t12_0, t12_1, t12_2, t12_3, t12_4, t12_5, t12_6, t12_7, t12_8, t12_9, t12_10, t12_11] L21) ?_
 simp only [p3, p4]
 replace L22 := L22.gr g110
 refine sw 85 (.agg #[t14_0, t14_1, t14_2, t14_3, t14_4, t14_5, t14_6, t14_7, t14_8, t14_9, t14_10, t14_11]) rfl (rl 32 0 [t14_0, t14_1, t14_2, t14_3, t14_4, t14_5, t14_6, t14_7, t14_8, t14_9, t14_10, t14_11] L22) ?_
 simp only [p3, p4]
 replace L20 := L20.gr g110
 refine sw 86 (.agg #[t10_0, t10_1, t10_2, t10_3, t10_4, t10_5, t10_6, t10_7, t10_8, t10_9, t10_10, t10_11]) rfl (rl 32 0 [t10_0, t10_1, t10_2, t10_3, t10_4, t10_5, t10_6, t10_7, t10_8, t10_9, t10_10, t10_11] L20) ?_
 simp only [p3, p4]
 refine se ?_
 replace h16a := h16a.kp g110.kp
 replace h16b := h16b.kp g110.kp
 replace h16c := h16c.kp g110.kp
 replace h12a := h12a.kp g110.kp
 replace h12b := h12b.kp g110.kp
 replace h12c := h12c.kp g110.kp
 replace h14a := h14a.kp g110.kp
 replace h14b := h14b.kp g110.kp
 replace h14c := h14c.kp g110.kp
 replace h10a := h10a.kp g110.kp
 replace h10b := h10b.kp g110.kp
 replace h10c := h10c.kp g110.kp
 refine ec 87 (vorient_v h16a h16b h16c h12a h12b h12c h14a h14b h14c h10a h10b h10c (by omega)) ?_
 rintro e112 w112 ⟨rfl, g112⟩
 refine ⟨_, rfl, ?_⟩
 replace hB := hB.trans g112
 simp only [p3, p4]
 refine sv 88 (.int .i64 (sgn (0 + (c1 - a1) * ((f2 - a2) * (m3 - a3) - (f3 - a3) * (m2 - a2)) + (c2 - a2) * ((f3 - a3) * (m1 - a1) - (f1 - a1) * (m3 - a3)) + (c3 - a3) * ((f1 - a1) * (m2 - a2) - (f2 - a2) * (m1 - a1))).num)) ?_
 simp only [p3, p4]
 refine sw 89 (.int .i64 ((0 - sgn (0 + (c1 - a1) * ((f2 - a2) * (m3 - a3) - (f3 - a3) * (m2 - a2)) + (c2 - a2) * ((f3 - a3) * (m1 - a1) - (f1 - a1) * (m3 - a3)) + (c3 - a3) * ((f1 - a1) * (m2 - a2) - (f2 - a2) * (m1 - a1))).num))) rfl (RunV.int (x := IntKind.i64.wrap ((0 - sgn (0 + (c1 - a1) * ((f2 - a2) * (m3 - a3) - (f3 - a3) * (m2 - a2)) + (c2 - a2) * ((f3 - a3) * (m1 - a1) - (f1 - a1) * (m3 - a3)) + (c3 - a3) * ((f1 - a1) * (m2 - a2) - (f2 - a2) * (m1 - a1))).num))) (y := (0 - sgn (0 + (c1 - a1) * ((f2 - a2) * (m3 - a3) - (f3 - a3) * (m2 - a2)) + (c2 - a2) * ((f3 - a3) * (m1 - a1) - (f1 - a1) * (m3 - a3)) + (c3 - a3) * ((f1 - a1) * (m2 - a2) - (f2 - a2) * (m1 - a1))).num)) (rvk (by kernel_rfl)) (by first | rfl | (rw [IntKind.wrap_i64]; omega) | exact wrap_nsgn _ | exact wrap_nvcmp _ _ _ _ _ _)) ?_
 simp only [p3, p4]
 have hb113 : ((sgn (0 + (c1 - m1) * ((f2 - m2) * (a3 - m3) - (f3 - m3) * (a2 - m2)) + (c2 - m2) * ((f3 - m3) * (a1 - m1) - (f1 - m1) * (a3 - m3)) + (c3 - m3) * ((f1 - m1) * (a2 - m2) - (f2 - m2) * (a1 - m1))).num == (0 - sgn (0 + (c1 - a1) * ((f2 - a2) * (m3 - a3) - (f3 - a3) * (m2 - a2)) + (c2 - a2) * ((f3 - a3) * (m1 - a1) - (f1 - a1) * (m3 - a3)) + (c3 - a3) * ((f1 - a1) * (m2 - a2) - (f2 - a2) * (m1 - a1))).num))) = true := (lawVr4 a1 a2 a3 c1 c2 c3 f1 f2 f3 m1 m2 m3 )
 refine sw 90 (.bool true) rfl (RunV.bool (x := (sgn (0 + (c1 - m1) * ((f2 - m2) * (a3 - m3) - (f3 - m3) * (a2 - m2)) + (c2 - m2) * ((f3 - m3) * (a1 - m1) - (f1 - m1) * (a3 - m3)) + (c3 - m3) * ((f1 - m1) * (a2 - m2) - (f2 - m2) * (a1 - m1))).num == (0 - sgn (0 + (c1 - a1) * ((f2 - a2) * (m3 - a3) - (f3 - a3) * (m2 - a2)) + (c2 - a2) * ((f3 - a3) * (m1 - a1) - (f1 - a1) * (m3 - a3)) + (c3 - a3) * ((f1 - a1) * (m2 - a2) - (f2 - a2) * (m1 - a1))).num))) (rvk (by kernel_rfl)) hb113) ?_
 simp only [p3, p4]
 refine sv 91 (.bool true) ?_
 simp only [p3, p4]
 refine sv 4 (.bool true) ?_
 simp only [p3, p4]
 refine sq_nil ?_
 refine k103 _ _ ?_
 try clear k103 K103
 refine wp_ret ?_
 refine bodyPost_ret (v := (.bool true)) (ret_tmp rfl rfl) rfl ⟨?_, hB⟩
 exact rfl

theorem vector_orients (ia1 ia2 ia3 da : Int) (ja1 : -128 ≤ ia1 ∧ ia1 ≤ 127) (ja2 : -128 ≤ ia2 ∧ ia2 ≤ 127) (ja3 : -128 ≤ ia3 ∧ ia3 ≤ 127) (jda : 0 ≤ da ∧ da ≤ 255) (ic1 ic2 ic3 dc : Int) (jc1 : -128 ≤ ic1 ∧ ic1 ≤ 127) (jc2 : -128 ≤ ic2 ∧ ic2 ≤ 127) (jc3 : -128 ≤ ic3 ∧ ic3 ≤ 127) (jdc : 0 ≤ dc ∧ dc ≤ 255) (if1 if2 if3 df : Int) (jf1 : -128 ≤ if1 ∧ if1 ≤ 127) (jf2 : -128 ≤ if2 ∧ if2 ≤ 127) (jf3 : -128 ≤ if3 ∧ if3 ≤ 127) (jdf : 0 ≤ df ∧ df ≤ 255) (im1 im2 im3 dm : Int) (jm1 : -128 ≤ im1 ∧ im1 ≤ 127) (jm2 : -128 ≤ im2 ∧ im2 ≤ 127) (jm3 : -128 ≤ im3 ∧ im3 ≤ 127) (jdm : 0 ≤ dm ∧ dm ≤ 255) (iu1 iu2 iu3 du : Int) (ju1 : -128 ≤ iu1 ∧ iu1 ≤ 127) (ju2 : -128 ≤ iu2 ∧ iu2 ≤ 127) (ju3 : -128 ≤ iu3 ∧ iu3 ≤ 127) (jdu : 0 ≤ du ∧ du ≤ 255) (w : World) (ht : Tab w) (hm : Mx w) :
    Calls Tryz.prog 9 #[(.agg #[(.int .i8 (ia1)), (.int .i8 (ia2)), (.int .i8 (ia3)), (.int .u8 (da)), (.int .i8 (ic1)), (.int .i8 (ic2)), (.int .i8 (ic3)), (.int .u8 (dc)), (.int .i8 (if1)), (.int .i8 (if2)), (.int .i8 (if3)), (.int .u8 (df)), (.int .i8 (im1)), (.int .i8 (im2)), (.int .i8 (im3)), (.int .u8 (dm))]), (.agg #[(.int .i8 (iu1)), (.int .i8 (iu2)), (.int .i8 (iu3)), (.int .u8 (du))])] w fun e w' => e = .returned (.bool true) ∧ Gr w w' := by
  obtain ⟨a1, ea1⟩ : ∃ r : Rat, r = ((ia1 : Int) : Rat) / ((1 + da % 6 : Int) : Rat) := ⟨_, rfl⟩
  obtain ⟨a2, ea2⟩ : ∃ r : Rat, r = ((ia2 : Int) : Rat) / ((1 + da % 6 : Int) : Rat) := ⟨_, rfl⟩
  obtain ⟨a3, ea3⟩ : ∃ r : Rat, r = ((ia3 : Int) : Rat) / ((1 + da % 6 : Int) : Rat) := ⟨_, rfl⟩
  obtain ⟨c1, ec1⟩ : ∃ r : Rat, r = ((ic1 : Int) : Rat) / ((1 + dc % 6 : Int) : Rat) := ⟨_, rfl⟩
  obtain ⟨c2, ec2⟩ : ∃ r : Rat, r = ((ic2 : Int) : Rat) / ((1 + dc % 6 : Int) : Rat) := ⟨_, rfl⟩
  obtain ⟨c3, ec3⟩ : ∃ r : Rat, r = ((ic3 : Int) : Rat) / ((1 + dc % 6 : Int) : Rat) := ⟨_, rfl⟩
  obtain ⟨f1, ef1⟩ : ∃ r : Rat, r = ((if1 : Int) : Rat) / ((1 + df % 6 : Int) : Rat) := ⟨_, rfl⟩
  obtain ⟨f2, ef2⟩ : ∃ r : Rat, r = ((if2 : Int) : Rat) / ((1 + df % 6 : Int) : Rat) := ⟨_, rfl⟩
  obtain ⟨f3, ef3⟩ : ∃ r : Rat, r = ((if3 : Int) : Rat) / ((1 + df % 6 : Int) : Rat) := ⟨_, rfl⟩
  obtain ⟨m1, em1⟩ : ∃ r : Rat, r = ((im1 : Int) : Rat) / ((1 + dm % 6 : Int) : Rat) := ⟨_, rfl⟩
  obtain ⟨m2, em2⟩ : ∃ r : Rat, r = ((im2 : Int) : Rat) / ((1 + dm % 6 : Int) : Rat) := ⟨_, rfl⟩
  obtain ⟨m3, em3⟩ : ∃ r : Rat, r = ((im3 : Int) : Rat) / ((1 + dm % 6 : Int) : Rat) := ⟨_, rfl⟩
  obtain ⟨u1, eu1⟩ : ∃ r : Rat, r = ((iu1 : Int) : Rat) / ((1 + du % 6 : Int) : Rat) := ⟨_, rfl⟩
  obtain ⟨u2, eu2⟩ : ∃ r : Rat, r = ((iu2 : Int) : Rat) / ((1 + du % 6 : Int) : Rat) := ⟨_, rfl⟩
  obtain ⟨u3, eu3⟩ : ∃ r : Rat, r = ((iu3 : Int) : Rat) / ((1 + du % 6 : Int) : Rat) := ⟨_, rfl⟩
  exact vori_q ia1 ia2 ia3 da ja1 ja2 ja3 jda a1 a2 a3 ea1 ea2 ea3 ic1 ic2 ic3 dc jc1 jc2 jc3 jdc c1 c2 c3 ec1 ec2 ec3 if1 if2 if3 df jf1 jf2 jf3 jdf f1 f2 f3 ef1 ef2 ef3 im1 im2 im3 dm jm1 jm2 jm3 jdm m1 m2 m3 em1 em2 em3 iu1 iu2 iu3 du ju1 ju2 ju3 jdu u1 u2 u3 eu1 eu2 eu3 w ht hm

end Go.Proofs.YtlcmllfacolkaaaGreatDoor
/- The law VectorOrients holds of every input: its row, and its card tied to the program's text. Printed by a program of the prover's. -/
namespace Go.Proofs.YtlcmllfacolkaaaGreatDoor
open Go.ChangeShapes Go.WideShapes Go.ChangeAt Go.RowKit

theorem vectorOrients_table {W : World} (h : laidMetH Tryz.prog Rows.vectorOrientsRow.laid W) : Tab W :=
  Lib.tabIs_of_head (rest := _) (g := 1) (t := 208) (e := 132) (n := 20) (by kernel_rfl) (by kernel_rfl) (by kernel_rfl) (by kernel_rfl) (by kernel_rfl) (by kernel_rfl) ((show laidMet Tryz.prog Rows.vectorOrientsRow.laid W from (MakeChecks.laidMetH_plain _ _ _ (by kernel_rfl)) ▸ h).tail.tail)
theorem vectorOrients_maxlen {W : World} (h : W.ShapedOpen Tryz.prog) : Mx W :=
  Go.Proofs.cell_of_shapedOpen_int (zero := #[.int .i64 0]) (g := 0) (t := 3) h (of_decide_eq_true (by kernel_rfl)) (by kernel_rfl) rfl (by kernel_rfl) (by kernel_rfl) Tryz.underlying3
set_option maxRecDepth 100000 in
theorem vectorOrients_contract (H : Type) (enc : TypeId × Value → H) (W : World) (base : Nat) (args : Array Value) (ds gs : List (DataW H)) (before : List MemPlace)
    (hval : ∀ (j : Nat) t v, Tryz.f9.params[j]? = some t → args[j]? = some v → Value.okWide Tryz.prog W .any base t v)
    (hW : DataW.Whole enc Tryz.prog Tryz.f9.params.toList Rows.vectorOrientsSpec.vars false W args.toList ds gs before) (hL : laidMetH Tryz.prog Rows.vectorOrientsRow.laid W) (hsh : W.ShapedOpen Tryz.prog) :
    Calls Tryz.prog 9 args W fun e W' => ∃ v, e = .returned v ∧ Rows.vectorOrientsSpec.post enc Tryz.prog Tryz.f9 false true false false W args v W' := by
  have hW' := hW
  obtain ⟨p, q, hA0, hV, rfl, hfz, hnd⟩ := hW
  have hA : DataW.TrodAll enc Tryz.prog W 0 (fun _ => true) true Tryz.f9.params.toList args.toList ds p := hA0
  rw [Tryz.params9] at hA hval
  obtain ⟨v0, vs0, d0, ds0, p0, q0, hargs, rfl, rfl, h0, r0⟩ := trodAll_cons hA
  obtain ⟨v1, vs1, d1, ds1, p1, q1, rfl, rfl, rfl, h1, r1⟩ := trodAll_cons r0
  obtain ⟨rfl, rfl, rfl⟩ := trodAll_nil r1
  obtain rfl : args = #[v0, v1] := by cases args; simp_all
  obtain ⟨rfl, rfl⟩ := trodVars_none hV
  obtain ⟨c0, rfl, z0, o0⟩ := open_cells (ts := [39, 39, 39, 5, 39, 39, 39, 5, 39, 39, 39, 5, 39, 39, 39, 5]) [.i8, .i8, .i8, .u8, .i8, .i8, .i8, .u8, .i8, .i8, .i8, .u8, .i8, .i8, .i8, .u8] (by kernel_rfl) (by kernel_rfl) (by kernel_rfl) (by kernel_rfl) (hval 0 83 v0 rfl rfl)
  obtain ⟨n0_0, y0_0, b0_0⟩ := o0 0 .i8 rfl
  obtain ⟨n0_1, y0_1, b0_1⟩ := o0 1 .i8 rfl
  obtain ⟨n0_2, y0_2, b0_2⟩ := o0 2 .i8 rfl
  obtain ⟨n0_3, y0_3, b0_3⟩ := o0 3 .u8 rfl
  obtain ⟨n0_4, y0_4, b0_4⟩ := o0 4 .i8 rfl
  obtain ⟨n0_5, y0_5, b0_5⟩ := o0 5 .i8 rfl
  obtain ⟨n0_6, y0_6, b0_6⟩ := o0 6 .i8 rfl
  obtain ⟨n0_7, y0_7, b0_7⟩ := o0 7 .u8 rfl
  obtain ⟨n0_8, y0_8, b0_8⟩ := o0 8 .i8 rfl
  obtain ⟨n0_9, y0_9, b0_9⟩ := o0 9 .i8 rfl
  obtain ⟨n0_10, y0_10, b0_10⟩ := o0 10 .i8 rfl
  obtain ⟨n0_11, y0_11, b0_11⟩ := o0 11 .u8 rfl
  obtain ⟨n0_12, y0_12, b0_12⟩ := o0 12 .i8 rfl
  obtain ⟨n0_13, y0_13, b0_13⟩ := o0 13 .i8 rfl
  obtain ⟨n0_14, y0_14, b0_14⟩ := o0 14 .i8 rfl
  obtain ⟨n0_15, y0_15, b0_15⟩ := o0 15 .u8 rfl
  obtain rfl : c0 = #[.int .i8 n0_0, .int .i8 n0_1, .int .i8 n0_2, .int .u8 n0_3, .int .i8 n0_4, .int .i8 n0_5, .int .i8 n0_6, .int .u8 n0_7, .int .i8 n0_8, .int .i8 n0_9, .int .i8 n0_10, .int .u8 n0_11, .int .i8 n0_12, .int .i8 n0_13, .int .i8 n0_14, .int .u8 n0_15] := by
    apply Array.ext_getElem?; intro i
    rcases i with _ | _ | _ | _ | _ | _ | _ | _ | _ | _ | _ | _ | _ | _ | _ | _ | i
    · exact y0_0
    · exact y0_1
    · exact y0_2
    · exact y0_3
    · exact y0_4
    · exact y0_5
    · exact y0_6
    · exact y0_7
    · exact y0_8
    · exact y0_9
    · exact y0_10
    · exact y0_11
    · exact y0_12
    · exact y0_13
    · exact y0_14
    · exact y0_15
    · rw [Array.getElem?_eq_none (by simp at z0; omega), Array.getElem?_eq_none (by simp)]
  obtain ⟨c1, rfl, z1, o1⟩ := open_cells (ts := [39, 39, 39, 5]) [.i8, .i8, .i8, .u8] (by kernel_rfl) (by kernel_rfl) (by kernel_rfl) (by kernel_rfl) (hval 1 42 v1 rfl rfl)
  obtain ⟨n1_0, y1_0, b1_0⟩ := o1 0 .i8 rfl
  obtain ⟨n1_1, y1_1, b1_1⟩ := o1 1 .i8 rfl
  obtain ⟨n1_2, y1_2, b1_2⟩ := o1 2 .i8 rfl
  obtain ⟨n1_3, y1_3, b1_3⟩ := o1 3 .u8 rfl
  obtain rfl : c1 = #[.int .i8 n1_0, .int .i8 n1_1, .int .i8 n1_2, .int .u8 n1_3] := by
    apply Array.ext_getElem?; intro i
    rcases i with _ | _ | _ | _ | i
    · exact y1_0
    · exact y1_1
    · exact y1_2
    · exact y1_3
    · rw [Array.getElem?_eq_none (by simp at z1; omega), Array.getElem?_eq_none (by simp)]
  refine (vector_orients n0_0 n0_1 n0_2 n0_3 (has_i8 b0_0) (has_i8 b0_1) (has_i8 b0_2) (has_u8 b0_3) n0_4 n0_5 n0_6 n0_7 (has_i8 b0_4) (has_i8 b0_5) (has_i8 b0_6) (has_u8 b0_7) n0_8 n0_9 n0_10 n0_11 (has_i8 b0_8) (has_i8 b0_9) (has_i8 b0_10) (has_u8 b0_11) n0_12 n0_13 n0_14 n0_15 (has_i8 b0_12) (has_i8 b0_13) (has_i8 b0_14) (has_u8 b0_15) n1_0 n1_1 n1_2 n1_3 (has_i8 b1_0) (has_i8 b1_1) (has_i8 b1_2) (has_u8 b1_3) W (vectorOrients_table hL) (vectorOrients_maxlen hsh)).mono fun e W' ⟨he, hg⟩ => ?_
  subst he
  exact ⟨_, rfl, law_post (tb := 4) laidOut (by kernel_rfl) (by kernel_rfl) (by kernel_rfl) rfl hW' rfl hg⟩
noncomputable def vectorOrients_world (os : Os) : World := World.laidAll Tryz.prog os Rows.vectorOrientsRow.laid
theorem vectorOrients_met (os : Os) : laidMet Tryz.prog Rows.vectorOrientsRow.laid ((vectorOrients_world os).forCall (fun _ _ => 0) ⟨#[], #[.agg #[.int .i8 0, .int .i8 0, .int .i8 0, .int .u8 0, .int .i8 0, .int .i8 0, .int .i8 0, .int .u8 0, .int .i8 0, .int .i8 0, .int .i8 0, .int .u8 0, .int .i8 0, .int .i8 0, .int .i8 0, .int .u8 0], .agg #[.int .i8 0, .int .i8 0, .int .i8 0, .int .u8 0]], []⟩).memory :=
  laidMet_laidAll _ (by kernel_rfl) (by kernel_rfl)
theorem vectorOrients_reads (os : Os) {H : Type} (enc : TypeId × Value → H) : ∃ places, DataW.whole enc Tryz.prog ((vectorOrients_world os).forCall (fun _ _ => 0) ⟨#[], #[.agg #[.int .i8 0, .int .i8 0, .int .i8 0, .int .u8 0, .int .i8 0, .int .i8 0, .int .i8 0, .int .u8 0, .int .i8 0, .int .i8 0, .int .i8 0, .int .u8 0, .int .i8 0, .int .i8 0, .int .i8 0, .int .u8 0], .agg #[.int .i8 0, .int .i8 0, .int .i8 0, .int .u8 0]], []⟩).memory Tryz.f9.params.toList Rows.vectorOrientsSpec.vars false (#[.agg #[.int .i8 0, .int .i8 0, .int .i8 0, .int .u8 0, .int .i8 0, .int .i8 0, .int .i8 0, .int .u8 0, .int .i8 0, .int .i8 0, .int .i8 0, .int .u8 0, .int .i8 0, .int .i8 0, .int .i8 0, .int .u8 0], .agg #[.int .i8 0, .int .i8 0, .int .i8 0, .int .u8 0]] : Array Value).toList 8 = some ([.agg [.agg [.agg [.lit (.int .i8 0), .lit (.int .i8 0), .lit (.int .i8 0)], .lit (.int .u8 0)], .agg [.agg [.lit (.int .i8 0), .lit (.int .i8 0), .lit (.int .i8 0)], .lit (.int .u8 0)], .agg [.agg [.lit (.int .i8 0), .lit (.int .i8 0), .lit (.int .i8 0)], .lit (.int .u8 0)], .agg [.agg [.lit (.int .i8 0), .lit (.int .i8 0), .lit (.int .i8 0)], .lit (.int .u8 0)]], .agg [.agg [.lit (.int .i8 0), .lit (.int .i8 0), .lit (.int .i8 0)], .lit (.int .u8 0)]], [], places) :=
  ⟨[], by kernel_rfl⟩
set_option maxRecDepth 100000 in
theorem vectorOrients_lifted (os : Os) (started : os.Started) (H : Type) (enc : TypeId × Value → H) (F : Stop.Interp) :
    ReturnsInHanded {} Tryz.checked os 9 .any ((OpenSpec.ofChange Rows.vectorOrientsSpec).preRow enc Tryz.prog Tryz.f9 Rows.vectorOrientsRow.domain false Rows.vectorOrientsRow.laid) (((OpenSpec.ofChange Rows.vectorOrientsSpec).at F).post enc Tryz.prog Tryz.f9 false true false false) := by
  obtain ⟨places, hx⟩ := vectorOrients_reads os enc
  refine returnsInHanded_of_row (C := Tryz.checked) (s := OpenSpec.ofChange Rows.vectorOrientsSpec) own started (by kernel_rfl) Tryz.func9
    (witness_row_sh (enc := enc) (C := Tryz.checked) false (vectorOrients_world os) #[.agg #[.int .i8 0, .int .i8 0, .int .i8 0, .int .u8 0, .int .i8 0, .int .i8 0, .int .i8 0, .int .u8 0, .int .i8 0, .int .i8 0, .int .i8 0, .int .u8 0, .int .i8 0, .int .i8 0, .int .i8 0, .int .u8 0], .agg #[.int .i8 0, .int .i8 0, .int .i8 0, .int .u8 0]] (World.laidAll_os _ _ _) (World.shaped_of_ZipB (by kernel_rfl) (by kernel_rfl)) (by kernel_rfl)
      (OpenSpec.preRow_of_cond 8 hx (by kernel_rfl) (fun k hk => by cases hk) (by kernel_rfl) (by rw [MakeChecks.laidMetH_plain _ _ _ (by kernel_rfl)]; exact vectorOrients_met os))) ?_
  intro W base args ds gs before hval hW _ _ _ hL hsh _
  exact vectorOrients_contract H enc W base args ds gs before hval hW hL hsh
theorem vectorOrients_said : Rows.VectorOrientsSaid :=
  OpenClaim.holds_of_cond 9 Tryz.f9 rfl rfl rfl rfl rfl rfl rfl ⟨rfl, rfl, rfl, rfl, rfl⟩ rfl rfl rfl rfl rfl (by kernel_rfl) Tryz.func9 (by kernel_rfl)
    (of_decide_eq_true (by kernel_rfl)) (by unfold Func.isWrapper; first | (rw [if_pos (by decide +kernel)]; kernel_rfl) | (rw [if_neg (by decide +kernel)]; exact ⟨rfl, rfl⟩))
    (fun os started H enc _ F => by rw [OpenClaim.pre_eq_preRow]; exact vectorOrients_lifted os started H enc F)
theorem vectorOrients_plain (f : FuncId) (fn : Func) (hf : Tryz.pinned.checked.prog.funcNamed "dowel/dowellaw03.VectorOrients" = some f) (hfn : Tryz.pinned.checked.prog.funcs[f]? = some fn) :
    true = Tryz.pinned.checked.prog.looks [] ∧ ∀ (j : Nat) t, fn.params[j]? = some t → Tryz.pinned.checked.prog.wantsStandIn t = false := by
  obtain rfl : f = 9 := Option.some.inj ((show Tryz.prog.funcNamed "dowel/dowellaw03.VectorOrients" = some 9 by kernel_rfl).symm.trans hf) |>.symm
  obtain rfl : fn = Tryz.f9 := (Option.some.inj (Tryz.func9.symm.trans hfn)).symm
  refine ⟨by kernel_rfl, fun j t ht => ?_⟩
  rw [Tryz.params9] at ht
  have hm := Array.mem_of_getElem? ht
  have hall : (#[83, 42] : Array TypeId).toList.all (fun t => !Tryz.prog.wantsStandIn t) = true := by kernel_rfl
  have := List.all_eq_true.1 hall t (Array.mem_toList_iff.2 hm)
  have h3 : Tryz.prog.wantsStandIn t = false := by simpa using this
  exact h3
/-- the card -/
theorem vectorOrients_card : Rows.VectorOrientsCardSaid :=
  Claim7.holds_tied_plain_at .later [] _ _ _ _ vectorOrients_said (fun _ h => by cases h) (by kernel_rfl) (fun _ h => by cases h) vectorOrients_row_tie rfl ⟨rfl, rfl⟩ (by kernel_rfl) rfl vectorOrients_plain (by kernel_rfl)
end Go.Proofs.YtlcmllfacolkaaaGreatDoor
