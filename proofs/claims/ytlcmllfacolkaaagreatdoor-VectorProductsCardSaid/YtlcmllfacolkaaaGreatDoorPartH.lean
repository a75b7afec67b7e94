/- Joined of: Gen64, RowVectorProducts. -/
import Derived.Test.YtlcmllfacolkaaaGreatDoorPartG
import Derived.Test.YtlcmllfacolkaaaGreatDoorCards
import Derived.Test.YtlcmllfacolkaaaGreatDoorTie
import Derived.Test.YtlcmllfacolkaaaGreatDoorPartD
/- Printed by a program of the prover's: VectorProducts. -/
namespace Go.Proofs.YtlcmllfacolkaaaGreatDoor
open Go.RowKit

theorem lawVp0 (a1 a2 a3 c1 c2 c3 : Rat)  : (ratL (0 + a1 * c1 + a2 * c2 + a3 * c3) != ratL (a1 * c1 + a2 * c2 + a3 * c3)) = false := ratL_nq (by grind)
theorem lawVp1 (a1 a2 a3 c1 c2 c3 : Rat)  : sEq [ratL (a2 * c3 - a3 * c2), ratL (a3 * c1 - a1 * c3), ratL (a1 * c2 - a2 * c1)] [ratL (a2 * c3 - a3 * c2), ratL (a3 * c1 - a1 * c3), ratL (a1 * c2 - a2 * c1)] = true := sEq_q rfl rfl rfl
theorem lawVp2 (a1 a2 a3 c1 c2 c3 f1 f2 f3 : Rat)  : (ratL (0 + a1 * (c2 * f3 - c3 * f2) + a2 * (c3 * f1 - c1 * f3) + a3 * (c1 * f2 - c2 * f1)) != ratL (a1 * (c2 * f3 - c3 * f2) + a2 * (c3 * f1 - c1 * f3) + a3 * (c1 * f2 - c2 * f1))) = false := ratL_nq (by grind)
theorem lawVp3 (Qm1 Qm2 Qm3 Ql1 Ql2 Ql3 : Rat)  : (ratL (0 + (Qm1) * (Ql1) + (Qm2) * (Ql2) + (Qm3) * (Ql3)) != ratL ((Qm1) * (Ql1) + (Qm2) * (Ql2) + (Qm3) * (Ql3))) = false := ratL_nq (by grind)
theorem lawVp4 (Qm1 Qm2 Qm3 Ql1 Ql2 Ql3 : Rat)  : sEq [ratL ((Qm2) * (Ql3) - (Qm3) * (Ql2)), ratL ((Qm3) * (Ql1) - (Qm1) * (Ql3)), ratL ((Qm1) * (Ql2) - (Qm2) * (Ql1))] [ratL ((Qm2) * (Ql3) - (Qm3) * (Ql2)), ratL ((Qm3) * (Ql1) - (Qm1) * (Ql3)), ratL ((Qm1) * (Ql2) - (Qm2) * (Ql1))] = true := sEq_q rfl rfl rfl
theorem lawVp5 (Qm1 Qm2 Qm3 Ql1 Ql2 Ql3 Qn1 Qn2 Qn3 : Rat)  : (ratL (0 + (Qm1) * ((Ql2) * (Qn3) - (Ql3) * (Qn2)) + (Qm2) * ((Ql3) * (Qn1) - (Ql1) * (Qn3)) + (Qm3) * ((Ql1) * (Qn2) - (Ql2) * (Qn1))) != ratL ((Qm1) * ((Ql2) * (Qn3) - (Ql3) * (Qn2)) + (Qm2) * ((Ql3) * (Qn1) - (Ql1) * (Qn3)) + (Qm3) * ((Ql1) * (Qn2) - (Ql2) * (Qn1)))) = false := ratL_nq (by grind)
set_option maxRecDepth 100000 in
set_option maxHeartbeats 8000000 in
theorem vprod_q (ia1 ia2 ia3 da : Int) (ja1 : -128 ≤ ia1 ∧ ia1 ≤ 127) (ja2 : -128 ≤ ia2 ∧ ia2 ≤ 127) (ja3 : -128 ≤ ia3 ∧ ia3 ≤ 127) (jda : 0 ≤ da ∧ da ≤ 255) (a1 a2 a3 : Rat) (ea1 : a1 = ((ia1 : Int) : Rat) / ((1 + da % 6 : Int) : Rat)) (ea2 : a2 = ((ia2 : Int) : Rat) / ((1 + da % 6 : Int) : Rat)) (ea3 : a3 = ((ia3 : Int) : Rat) / ((1 + da % 6 : Int) : Rat)) (ic1 ic2 ic3 dc : Int) (jc1 : -128 ≤ ic1 ∧ ic1 ≤ 127) (jc2 : -128 ≤ ic2 ∧ ic2 ≤ 127) (jc3 : -128 ≤ ic3 ∧ ic3 ≤ 127) (jdc : 0 ≤ dc ∧ dc ≤ 255) (c1 c2 c3 : Rat) (ec1 : c1 = ((ic1 : Int) : Rat) / ((1 + dc % 6 : Int) : Rat)) (ec2 : c2 = ((ic2 : Int) : Rat) / ((1 + dc % 6 : Int) : Rat)) (ec3 : c3 = ((ic3 : Int) : Rat) / ((1 + dc % 6 : Int) : Rat)) (if1 if2 if3 df : Int) (jf1 : -128 ≤ if1 ∧ if1 ≤ 127) (jf2 : -128 ≤ if2 ∧ if2 ≤ 127) (jf3 : -128 ≤ if3 ∧ if3 ≤ 127) (jdf : 0 ≤ df ∧ df ≤ 255) (f1 f2 f3 : Rat) (ef1 : f1 = ((if1 : Int) : Rat) / ((1 + df % 6 : Int) : Rat)) (ef2 : f2 = ((if2 : Int) : Rat) / ((1 + df % 6 : Int) : Rat)) (ef3 : f3 = ((if3 : Int) : Rat) / ((1 + df % 6 : Int) : Rat)) (m1 m2 m3 l1 l2 l3 n1 n2 n3 : Int) (_jm1 : -9223372036854775808 ≤ m1 ∧ m1 ≤ 9223372036854775807) (_jm2 : -9223372036854775808 ≤ m2 ∧ m2 ≤ 9223372036854775807) (_jm3 : -9223372036854775808 ≤ m3 ∧ m3 ≤ 9223372036854775807) (_jl1 : -9223372036854775808 ≤ l1 ∧ l1 ≤ 9223372036854775807) (_jl2 : -9223372036854775808 ≤ l2 ∧ l2 ≤ 9223372036854775807) (_jl3 : -9223372036854775808 ≤ l3 ∧ l3 ≤ 9223372036854775807) (_jn1 : -9223372036854775808 ≤ n1 ∧ n1 ≤ 9223372036854775807) (_jn2 : -9223372036854775808 ≤ n2 ∧ n2 ≤ 9223372036854775807) (_jn3 : -9223372036854775808 ≤ n3 ∧ n3 ≤ 9223372036854775807) (w : World) (ht : Tab w) (hm : Mx w) :
    Calls Tryz.prog 4 #[(.agg #[(.int .i8 (ia1)), (.int .i8 (ia2)), (.int .i8 (ia3)), (.int .u8 (da)), (.int .i8 (ic1)), (.int .i8 (ic2)), (.int .i8 (ic3)), (.int .u8 (dc)), (.int .i8 (if1)), (.int .i8 (if2)), (.int .i8 (if3)), (.int .u8 (df))]), (.agg #[(.int .i64 (m1)), (.int .i64 (m2)), (.int .i64 (m3)), (.int .i64 (l1)), (.int .i64 (l2)), (.int .i64 (l3)), (.int .i64 (n1)), (.int .i64 (n2)), (.int .i64 (n3))])] w fun e w' => e = .returned (.bool true) ∧ Gr w w' := by
 have ha1 : RS 16 a1 := small_rs ja1 jda ea1
 have ha2 : RS 16 a2 := small_rs ja2 jda ea2
 have ha3 : RS 16 a3 := small_rs ja3 jda ea3
 have hc1 : RS 16 c1 := small_rs jc1 jdc ec1
 have hc2 : RS 16 c2 := small_rs jc2 jdc ec2
 have hc3 : RS 16 c3 := small_rs jc3 jdc ec3
 have hf1 : RS 16 f1 := small_rs jf1 jdf ef1
 have hf2 : RS 16 f2 := small_rs jf2 jdf ef2
 have hf3 : RS 16 f3 := small_rs jf3 jdf ef3
 go_enter Tryz.func4, Tryz.ntmps4
 have hB := Gr.refl w
 refine wp_seq_k (fun K1 k1 => ?_)
 refine rg [0, 1, 2] ?_
 refine se ?_
 refine eb 43 #[(.int .i8 (ia1)), (.int .i8 (ia2)), (.int .i8 (ia3)), (.int .u8 (da)), (.int .i8 (ic1)), (.int .i8 (ic2)), (.int .i8 (ic3)), (.int .u8 (dc)), (.int .i8 (if1)), (.int .i8 (if2)), (.int .i8 (if3)), (.int .u8 (df))] 2 hB fun b2 w2 g2 L2 o2 q2 hB => ?_
 simp only [p3, p4]
 refine se ?_
 refine eb 46 #[(.int .i64 (m1)), (.int .i64 (m2)), (.int .i64 (m3)), (.int .i64 (l1)), (.int .i64 (l2)), (.int .i64 (l3)), (.int .i64 (n1)), (.int .i64 (n2)), (.int .i64 (n3))] 3 hB fun b3 w3 g3 L3 o3 q3 hB => ?_
 simp only [p3, p4]
 refine sv 4 (.bool false) ?_
 simp only [p3, p4]
 refine sq_nil ?_
 refine k1 _ _ ?_
 try clear k1 K1
 refine wp_seq_k (fun K4 k4 => ?_)
 refine wp_seq_k (fun K5 k5 => ?_)
 refine rg [0, 1] ?_
 refine se ?_
 refine ec 12 (known3 _ (ht.gr hB) (hm.gr hB)) ?_
 rintro e6 w6 ⟨rfl, g6⟩
 refine ⟨_, rfl, ?_⟩
 replace hB := hB.trans g6
 simp only [p3, p4]
 refine sv 13 (.bool false) ?_
 simp only [p3, p4]
 refine sq_nil ?_
 refine k5 _ _ ?_
 try clear k5 K5
 refine wp_cond_false rfl ?_
 refine wp_skip ?_
 refine k4 _ _ ?_
 try clear k4 K4
 refine wp_seq_k (fun K7 k7 => ?_)
 refine wp_seq_k (fun K8 k8 => ?_)
 refine rg [0] ?_
 refine sv 5 (.int .i64 0) ?_
 simp only [p3, p4]
 refine sq_nil ?_
 refine k8 _ _ ?_
 try clear k8 K8
 refine wp_block ?_
 refine wp_loop_rounds 4 ?_
 show Code.wp _ _ _ _ _
 refine wp_seq_k (fun K9 k9 => ?_)
 refine wp_seq_k (fun K10 k10 => ?_)
 refine rg [0, 1] ?_
 refine sv 14 (.int .i64 0) ?_
 simp only [p3, p4]
 refine sv 15 (.bool true) ?_
 simp only [p3, p4]
 refine sq_nil ?_
 refine k10 _ _ ?_
 try clear k10 K10
 refine wp_cond_true rfl ?_
 refine wp_skip ?_
 refine k9 _ _ ?_
 try clear k9 K9
 refine wp_seq_k (fun K11 k11 => ?_)
 refine wp_block ?_
 refine wp_seq_k (fun K12 k12 => ?_)
 have hz13 := Below.size hB
 replace L2 := L2.gr (g3.trans g6)
 have lt2_13 := L2.lt
 replace L3 := L3.gr g6
 have lt3_13 := L3.lt
 have gd13 := Gr.drew w6
 replace hB := hB.trans gd13
 replace L2 := L2.gr gd13
 refine wp_region_flo (fun w' => Lc w' b2 #[(.int .i8 (ia1)), (.int .i8 (ia2)), (.int .i8 (ia3)), (.int .u8 (da)), (.int .i8 (ic1)), (.int .i8 (ic2)), (.int .i8 (ic3)), (.int .u8 (dc)), (.int .i8 (if1)), (.int .i8 (if2)), (.int .i8 (if3)), (.int .u8 (df))] 43) [(true, 0), (true, 1), (true, 3), (true, 4), (true, 6), (true, 7), (true, 9), (true, 10), (true, 12), (true, 13), (true, 15), (true, 16), (false, 2), (false, 5), (false, 8), (false, 11), (false, 14), (false, 17)] [⟨18, 6, 32, #[(.bool false), (.slice none 0 0), (.bool false), (.slice none 0 0), (.bool false), (.slice none 0 0), (.bool false), (.slice none 0 0), (.bool false), (.slice none 0 0), (.bool false), (.slice none 0 0)]⟩, ⟨19, 7, 32, #[(.bool false), (.slice none 0 0), (.bool false), (.slice none 0 0), (.bool false), (.slice none 0 0), (.bool false), (.slice none 0 0), (.bool false), (.slice none 0 0), (.bool false), (.slice none 0 0)]⟩, ⟨20, 8, 32, #[(.bool false), (.slice none 0 0), (.bool false), (.slice none 0 0), (.bool false), (.slice none 0 0), (.bool false), (.slice none 0 0), (.bool false), (.slice none 0 0), (.bool false), (.slice none 0 0)]⟩, ⟨21, 9, 49, #[(.string ⟨([] : List UInt8).toArray⟩), (.string ⟨([] : List UInt8).toArray⟩), (.string ⟨([] : List UInt8).toArray⟩)]⟩, ⟨22, 10, 49, #[(.string ⟨([] : List UInt8).toArray⟩), (.string ⟨([] : List UInt8).toArray⟩), (.string ⟨([] : List UInt8).toArray⟩)]⟩, ⟨23, 11, 49, #[(.string ⟨([] : List UInt8).toArray⟩), (.string ⟨([] : List UInt8).toArray⟩), (.string ⟨([] : List UInt8).toArray⟩)]⟩] [(false, 24), (false, 25), (false, 26), (false, 27), (false, 28), (false, 29)] (by kernel_rfl) (by kernel_rfl) (by kernel_rfl) (by kernel_rfl) (by kernel_rfl) (by decide) (fun _ _ _ _ _ h => h) (fun _ _ _ _ _ h => h) (fun w' o h => Lc.gr h (Gr.alloc w' o)) L2 (by intro f hf; simp only [List.mem_cons, List.not_mem_nil, or_false] at hf; rcases hf with rfl | rfl | rfl | rfl | rfl | rfl <;> first | exact alloc_zero (z := (.agg #[(.bool false), (.slice none 0 0), (.bool false), (.slice none 0 0), (.bool false), (.slice none 0 0), (.bool false), (.slice none 0 0), (.bool false), (.slice none 0 0), (.bool false), (.slice none 0 0)])) (by kernel_rfl) rfl | exact alloc_zero (z := (.agg #[(.bool false), (.slice none 0 0), (.bool false), (.slice none 0 0), (.bool false), (.slice none 0 0), (.bool false), (.slice none 0 0), (.bool false), (.slice none 0 0), (.bool false), (.slice none 0 0)])) (by kernel_rfl) rfl | exact alloc_zero (z := (.agg #[(.bool false), (.slice none 0 0), (.bool false), (.slice none 0 0), (.bool false), (.slice none 0 0), (.bool false), (.slice none 0 0), (.bool false), (.slice none 0 0), (.bool false), (.slice none 0 0)])) (by kernel_rfl) rfl | exact alloc_zero (z := (.agg #[(.string ⟨([] : List UInt8).toArray⟩), (.string ⟨([] : List UInt8).toArray⟩), (.string ⟨([] : List UInt8).toArray⟩)])) (by kernel_rfl) rfl | exact alloc_zero (z := (.agg #[(.string ⟨([] : List UInt8).toArray⟩), (.string ⟨([] : List UInt8).toArray⟩), (.string ⟨([] : List UInt8).toArray⟩)])) (by kernel_rfl) rfl | exact alloc_zero (z := (.agg #[(.string ⟨([] : List UInt8).toArray⟩), (.string ⟨([] : List UInt8).toArray⟩), (.string ⟨([] : List UInt8).toArray⟩)])) (by kernel_rfl) rfl) ?_
 refine fv 18 (.pointer (some ⟨b2, 0, none⟩)) ?_
 simp only [p3, p4]
 refine fw 19 (.agg #[(.int .i8 (ia1)), (.int .i8 (ia2)), (.int .i8 (ia3)), (.int .u8 (da))]) rfl (fun w' hS => (rl 42 0 [(.int .i8 (ia1)), (.int .i8 (ia2)), (.int .i8 (ia3)), (.int .u8 (da))] hS)) ?_
 simp only [p3, p4]
 refine fv 21 (.pointer (some ⟨b2, 4, none⟩)) ?_
 simp only [p3, p4]
 refine fw 22 (.agg #[(.int .i8 (ic1)), (.int .i8 (ic2)), (.int .i8 (ic3)), (.int .u8 (dc))]) rfl (fun w' hS => (rl 42 4 [(.int .i8 (ic1)), (.int .i8 (ic2)), (.int .i8 (ic3)), (.int .u8 (dc))] hS)) ?_
 simp only [p3, p4]
 refine fv 24 (.pointer (some ⟨b2, 8, none⟩)) ?_
 simp only [p3, p4]
 refine fw 25 (.agg #[(.int .i8 (if1)), (.int .i8 (if2)), (.int .i8 (if3)), (.int .u8 (df))]) rfl (fun w' hS => (rl 42 8 [(.int .i8 (if1)), (.int .i8 (if2)), (.int .i8 (if3)), (.int .u8 (df))] hS)) ?_
 simp only [p3, p4]
 refine fv 27 (.pointer (some ⟨b2, 0, none⟩)) ?_
 simp only [p3, p4]
 refine fw 28 (.agg #[(.int .i8 (ia1)), (.int .i8 (ia2)), (.int .i8 (ia3)), (.int .u8 (da))]) rfl (fun w' hS => (rl 42 0 [(.int .i8 (ia1)), (.int .i8 (ia2)), (.int .i8 (ia3)), (.int .u8 (da))] hS)) ?_
 simp only [p3, p4]
 refine fv 30 (.pointer (some ⟨b2, 4, none⟩)) ?_
 simp only [p3, p4]
 refine fw 31 (.agg #[(.int .i8 (ic1)), (.int .i8 (ic2)), (.int .i8 (ic3)), (.int .u8 (dc))]) rfl (fun w' hS => (rl 42 4 [(.int .i8 (ic1)), (.int .i8 (ic2)), (.int .i8 (ic3)), (.int .u8 (dc))] hS)) ?_
 simp only [p3, p4]
 refine fv 33 (.pointer (some ⟨b2, 8, none⟩)) ?_
 simp only [p3, p4]
 refine fw 34 (.agg #[(.int .i8 (if1)), (.int .i8 (if2)), (.int .i8 (if3)), (.int .u8 (df))]) rfl (fun w' hS => (rl 42 8 [(.int .i8 (if1)), (.int .i8 (if2)), (.int .i8 (if3)), (.int .u8 (df))] hS)) ?_
 simp only [p3, p4]
 refine flo_eff rfl rfl (fun w14 g14 _ K14 k14 => ?_)
 replace hB := hB.trans g14
 refine ec 20 (made_v ia1 ia2 ia3 da ja1 ja2 ja3 jda a1 a2 a3 ea1 ea2 ea3 _ (hm.gr hB)) ?_
 rintro e15 w15 ⟨⟨t15_0, t15_1, t15_2, t15_3, t15_4, t15_5, t15_6, t15_7, t15_8, t15_9, t15_10, t15_11, rfl, h15a, h15b, h15c⟩, g15⟩
 refine ⟨_, rfl, ?_⟩
 replace hB := hB.trans g15
 replace L2 := L2.gr (g14.trans g15)
 refine k14 _ _ g15 L2 ?_
 try clear k14 K14
 simp only [p3, p4]
 refine flo_eff rfl rfl (fun w16 g16 _ K16 k16 => ?_)
 replace hB := hB.trans g16
 refine ec 23 (made_v ic1 ic2 ic3 dc jc1 jc2 jc3 jdc c1 c2 c3 ec1 ec2 ec3 _ (hm.gr hB)) ?_
 rintro e17 w17 ⟨⟨t17_0, t17_1, t17_2, t17_3, t17_4, t17_5, t17_6, t17_7, t17_8, t17_9, t17_10, t17_11, rfl, h17a, h17b, h17c⟩, g17⟩
 refine ⟨_, rfl, ?_⟩
 replace hB := hB.trans g17
 replace L2 := L2.gr (g16.trans g17)
 refine k16 _ _ g17 L2 ?_
 try clear k16 K16
 simp only [p3, p4]
 refine flo_eff rfl rfl (fun w18 g18 _ K18 k18 => ?_)
 replace hB := hB.trans g18
 refine ec 26 (made_v if1 if2 if3 df jf1 jf2 jf3 jdf f1 f2 f3 ef1 ef2 ef3 _ (hm.gr hB)) ?_
 rintro e19 w19 ⟨⟨t19_0, t19_1, t19_2, t19_3, t19_4, t19_5, t19_6, t19_7, t19_8, t19_9, t19_10, t19_11, rfl, h19a, h19b, h19c⟩, g19⟩
 refine ⟨_, rfl, ?_⟩
 replace hB := hB.trans g19
 replace L2 := L2.gr (g18.trans g19)
 refine k18 _ _ g19 L2 ?_
 try clear k18 K18
 simp only [p3, p4]
 refine flo_eff rfl rfl (fun w20 g20 _ K20 k20 => ?_)
 replace hB := hB.trans g20
 refine ec 29 (texts_v ia1 ia2 ia3 da ja1 ja2 ja3 jda a1 a2 a3 ea1 ea2 ea3 _) ?_
 rintro e21 w21 ⟨rfl, g21⟩
 refine ⟨_, rfl, ?_⟩
 replace hB := hB.trans g21
 replace L2 := L2.gr (g20.trans g21)
 refine k20 _ _ g21 L2 ?_
 try clear k20 K20
 simp only [p3, p4]
 refine flo_eff rfl rfl (fun w22 g22 _ K22 k22 => ?_)
 replace hB := hB.trans g22
 refine ec 32 (texts_v ic1 ic2 ic3 dc jc1 jc2 jc3 jdc c1 c2 c3 ec1 ec2 ec3 _) ?_
 rintro e23 w23 ⟨rfl, g23⟩
 refine ⟨_, rfl, ?_⟩
 replace hB := hB.trans g23
 replace L2 := L2.gr (g22.trans g23)
 refine k22 _ _ g23 L2 ?_
 try clear k22 K22
 simp only [p3, p4]
 refine flo_eff rfl rfl (fun w24 g24 _ K24 k24 => ?_)
 replace hB := hB.trans g24
 refine ec 35 (texts_v if1 if2 if3 df jf1 jf2 jf3 jdf f1 f2 f3 ef1 ef2 ef3 _) ?_
 rintro e25 w25 ⟨rfl, g25⟩
 refine ⟨_, rfl, ?_⟩
 replace hB := hB.trans g25
 replace L2 := L2.gr (g24.trans g25)
 refine k24 _ _ g25 L2 ?_
 try clear k24 K24
 simp only [p3, p4]
 refine flo_nil (fun w26 g26 _ => ?_)
 replace hB := hB.trans g26
 refine floFin6 (fun b27 b28 b29 b30 b31 b32 (L27 : Lc w26 b27 #[(.bool false), (.slice none 0 0), (.bool false), (.slice none 0 0), (.bool false), (.slice none 0 0), (.bool false), (.slice none 0 0), (.bool false), (.slice none 0 0), (.bool false), (.slice none 0 0)] 32) q27 (L28 : Lc w26 b28 #[(.bool false), (.slice none 0 0), (.bool false), (.slice none 0 0), (.bool false), (.slice none 0 0), (.bool false), (.slice none 0 0), (.bool false), (.slice none 0 0), (.bool false), (.slice none 0 0)] 32) q28 (L29 : Lc w26 b29 #[(.bool false), (.slice none 0 0), (.bool false), (.slice none 0 0), (.bool false), (.slice none 0 0), (.bool false), (.slice none 0 0), (.bool false), (.slice none 0 0), (.bool false), (.slice none 0 0)] 32) q29 (L30 : Lc w26 b30 #[(.string ⟨([] : List UInt8).toArray⟩), (.string ⟨([] : List UInt8).toArray⟩), (.string ⟨([] : List UInt8).toArray⟩)] 49) q30 (L31 : Lc w26 b31 #[(.string ⟨([] : List UInt8).toArray⟩), (.string ⟨([] : List UInt8).toArray⟩), (.string ⟨([] : List UInt8).toArray⟩)] 49) q31 (L32 : Lc w26 b32 #[(.string ⟨([] : List UInt8).toArray⟩), (.string ⟨([] : List UInt8).toArray⟩), (.string ⟨([] : List UInt8).toArray⟩)] 49) q32 ne27_28 ne27_29 ne28_29 ne27_30 ne28_30 ne29_30 ne27_31 ne28_31 ne29_31 ne30_31 ne27_32 ne28_32 ne29_32 ne30_32 ne31_32 => ?_)
 have ne2_27 : b2 ≠ b27 := Nat.ne_of_lt (Nat.lt_of_lt_of_le lt2_13 q27)
 have ne3_27 : b3 ≠ b27 := Nat.ne_of_lt (Nat.lt_of_lt_of_le lt3_13 q27)
 replace q27 := Nat.le_trans hz13 q27
 have ne2_28 : b2 ≠ b28 := Nat.ne_of_lt (Nat.lt_of_lt_of_le lt2_13 q28)
 have ne3_28 : b3 ≠ b28 := Nat.ne_of_lt (Nat.lt_of_lt_of_le lt3_13 q28)
 replace q28 := Nat.le_trans hz13 q28
 have ne2_29 : b2 ≠ b29 := Nat.ne_of_lt (Nat.lt_of_lt_of_le lt2_13 q29)
 have ne3_29 : b3 ≠ b29 := Nat.ne_of_lt (Nat.lt_of_lt_of_le lt3_13 q29)
 replace q29 := Nat.le_trans hz13 q29
 have ne2_30 : b2 ≠ b30 := Nat.ne_of_lt (Nat.lt_of_lt_of_le lt2_13 q30)
 have ne3_30 : b3 ≠ b30 := Nat.ne_of_lt (Nat.lt_of_lt_of_le lt3_13 q30)
 replace q30 := Nat.le_trans hz13 q30
 have ne2_31 : b2 ≠ b31 := Nat.ne_of_lt (Nat.lt_of_lt_of_le lt2_13 q31)
 have ne3_31 : b3 ≠ b31 := Nat.ne_of_lt (Nat.lt_of_lt_of_le lt3_13 q31)
 replace q31 := Nat.le_trans hz13 q31
 have ne2_32 : b2 ≠ b32 := Nat.ne_of_lt (Nat.lt_of_lt_of_le lt2_13 q32)
 have ne3_32 : b3 ≠ b32 := Nat.ne_of_lt (Nat.lt_of_lt_of_le lt3_13 q32)
 replace q32 := Nat.le_trans hz13 q32
 simp only [putl, p3, p4]
 refine oe ?_
 refine es 32 0 (.agg #[t15_0, t15_1, t15_2, t15_3, t15_4, t15_5, t15_6, t15_7, t15_8, t15_9, t15_10, t15_11]) [t15_0, t15_1, t15_2, t15_3, t15_4, t15_5, t15_6, t15_7, t15_8, t15_9, t15_10, t15_11] #[t15_0, t15_1, t15_2, t15_3, t15_4, t15_5, t15_6, t15_7, t15_8, t15_9, t15_10, t15_11] L27 hB q27 ⟨h15a.one0, h15a.one1, h15a.one2, h15a.one3, h15b.one0, h15b.one1, h15b.one2, h15b.one3, h15c.one0, h15c.one1, h15c.one2, h15c.one3, trivial⟩ fun w34 st34 kp34 L27 hB => ?_
 replace L2 := st34.lc (L2.gr g26) ne2_27
 refine ⟨L2, ?_⟩
 refine oe ?_
 replace L28 := st34.lc L28 (Ne.symm ne27_28)
 refine es 32 0 (.agg #[t17_0, t17_1, t17_2, t17_3, t17_4, t17_5, t17_6, t17_7, t17_8, t17_9, t17_10, t17_11]) [t17_0, t17_1, t17_2, t17_3, t17_4, t17_5, t17_6, t17_7, t17_8, t17_9, t17_10, t17_11] #[t17_0, t17_1, t17_2, t17_3, t17_4, t17_5, t17_6, t17_7, t17_8, t17_9, t17_10, t17_11] L28 hB q28 ⟨h17a.one0, h17a.one1, h17a.one2, h17a.one3, h17b.one0, h17b.one1, h17b.one2, h17b.one3, h17c.one0, h17c.one1, h17c.one2, h17c.one3, trivial⟩ fun w36 st36 kp36 L28 hB => ?_
 replace L2 := st36.lc L2 ne2_28
 refine ⟨L2, ?_⟩
 refine oe ?_
 replace L29 := st36.lc (st34.lc L29 (Ne.symm ne27_29)) (Ne.symm ne28_29)
 refine es 32 0 (.agg #[t19_0, t19_1, t19_2, t19_3, t19_4, t19_5, t19_6, t19_7, t19_8, t19_9, t19_10, t19_11]) [t19_0, t19_1, t19_2, t19_3, t19_4, t19_5, t19_6, t19_7, t19_8, t19_9, t19_10, t19_11] #[t19_0, t19_1, t19_2, t19_3, t19_4, t19_5, t19_6, t19_7, t19_8, t19_9, t19_10, t19_11] L29 hB q29 ⟨h19a.one0, h19a.one1, h19a.one2, h19a.one3, h19b.one0, h19b.one1, h19b.one2, h19b.one3, h19c.one0, h19c.one1, h19c.one2, h19c.one3, trivial⟩ fun w38 st38 kp38 L29 hB => ?_
 replace L2 := st38.lc L2 ne2_29
 refine ⟨L2, ?_⟩
 refine oe ?_
 replace L30 := st38.lc (st36.lc (st34.lc L30 (Ne.symm ne27_30)) (Ne.symm ne28_30)) (Ne.symm ne29_30)
 refine es 49 0 (.agg #[(.string ⟨(ratL (a1) : List UInt8).toArray⟩), (.string ⟨(ratL (a2) : List UInt8).toArray⟩), (.string ⟨(ratL (a3) : List UInt8).toArray⟩)]) [(.string ⟨(ratL (a1) : List UInt8).toArray⟩), (.string ⟨(ratL (a2) : List UInt8).toArray⟩), (.string ⟨(ratL (a3) : List UInt8).toArray⟩)] #[(.string ⟨(ratL (a1) : List UInt8).toArray⟩), (.string ⟨(ratL (a2) : List UInt8).toArray⟩), (.string ⟨(ratL (a3) : List UInt8).toArray⟩)] L30 hB q30 ⟨rfl, rfl, rfl, trivial⟩ fun w40 st40 kp40 L30 hB => ?_
 replace L2 := st40.lc L2 ne2_30
 refine ⟨L2, ?_⟩
 refine oe ?_
 replace L31 := st40.lc (st38.lc (st36.lc (st34.lc L31 (Ne.symm ne27_31)) (Ne.symm ne28_31)) (Ne.symm ne29_31)) (Ne.symm ne30_31)
 refine es 49 0 (.agg #[(.string ⟨(ratL (c1) : List UInt8).toArray⟩), (.string ⟨(ratL (c2) : List UInt8).toArray⟩), (.string ⟨(ratL (c3) : List UInt8).toArray⟩)]) [(.string ⟨(ratL (c1) : List UInt8).toArray⟩), (.string ⟨(ratL (c2) : List UInt8).toArray⟩), (.string ⟨(ratL (c3) : List UInt8).toArray⟩)] #[(.string ⟨(ratL (c1) : List UInt8).toArray⟩), (.string ⟨(ratL (c2) : List UInt8).toArray⟩), (.string ⟨(ratL (c3) : List UInt8).toArray⟩)] L31 hB q31 ⟨rfl, rfl, rfl, trivial⟩ fun w42 st42 kp42 L31 hB => ?_
 replace L2 := st42.lc L2 ne2_31
 refine ⟨L2, ?_⟩
 refine oe ?_
 replace L32 := st42.lc (st40.lc (st38.lc (st36.lc (st34.lc L32 (Ne.symm ne27_32)) (Ne.symm ne28_32)) (Ne.symm ne29_32)) (Ne.symm ne30_32)) (Ne.symm ne31_32)
 refine es 49 0 (.agg #[(.string ⟨(ratL (f1) : List UInt8).toArray⟩), (.string ⟨(ratL (f2) : List UInt8).toArray⟩), (.string ⟨(ratL (f3) : List UInt8).toArray⟩)]) [(.string ⟨(ratL (f1) : List UInt8).toArray⟩), (.string ⟨(ratL (f2) : List UInt8).toArray⟩), (.string ⟨(ratL (f3) : List UInt8).toArray⟩)] #[(.string ⟨(ratL (f1) : List UInt8).toArray⟩), (.string ⟨(ratL (f2) : List UInt8).toArray⟩), (.string ⟨(ratL (f3) : List UInt8).toArray⟩)] L32 hB q32 ⟨rfl, rfl, rfl, trivial⟩ fun w44 st44 kp44 L32 hB => ?_
 replace L2 := st44.lc L2 ne2_32
 refine ⟨L2, ?_⟩
 refine ord_nil ?_
 refine k12 _ _ ?_
 try clear k12 K12
 refine wp_seq_k (fun K45 k45 => ?_)
 refine wp_seq_k (fun K46 k46 => ?_)
 refine rg [0, 1] ?_
 refine sv 36 (.int .i64 0) ?_
 simp only [p3, p4]
 refine sv 37 (.bool false) ?_
 simp only [p3, p4]
 refine sq_nil ?_
 refine k46 _ _ ?_
 try clear k46 K46
 refine wp_cond_false rfl ?_
 refine wp_skip ?_
 refine k45 _ _ ?_
 try clear k45 K45
 refine wp_seq_k (fun K47 k47 => ?_)
 have gd75 := Gr.drew w44
 replace hB := hB.trans gd75
 replace L27 := (st44.lc (st42.lc (st40.lc (st38.lc (st36.lc L27 ne27_28) ne27_29) ne27_30) ne27_31) ne27_32).gr gd75
 replace L28 := (st44.lc (st42.lc (st40.lc (st38.lc L28 ne28_29) ne28_30) ne28_31) ne28_32).gr gd75
 replace L29 := (st44.lc (st42.lc (st40.lc L29 ne29_30) ne29_31) ne29_32).gr gd75
 replace L30 := (st44.lc (st42.lc L30 ne30_31) ne30_32).gr gd75
 replace L31 := (st44.lc L31 ne31_32).gr gd75
 replace L32 := L32.gr gd75
 refine wp_region_ord (fun w' => Lc w' b27 #[t15_0, t15_1, t15_2, t15_3, t15_4, t15_5, t15_6, t15_7, t15_8, t15_9, t15_10, t15_11] 32 ∧ Lc w' b28 #[t17_0, t17_1, t17_2, t17_3, t17_4, t17_5, t17_6, t17_7, t17_8, t17_9, t17_10, t17_11] 32 ∧ Lc w' b29 #[t19_0, t19_1, t19_2, t19_3, t19_4, t19_5, t19_6, t19_7, t19_8, t19_9, t19_10, t19_11] 32 ∧ Lc w' b30 #[(.string ⟨(ratL (a1) : List UInt8).toArray⟩), (.string ⟨(ratL (a2) : List UInt8).toArray⟩), (.string ⟨(ratL (a3) : List UInt8).toArray⟩)] 49 ∧ Lc w' b31 #[(.string ⟨(ratL (c1) : List UInt8).toArray⟩), (.string ⟨(ratL (c2) : List UInt8).toArray⟩), (.string ⟨(ratL (c3) : List UInt8).toArray⟩)] 49 ∧ Lc w' b32 #[(.string ⟨(ratL (f1) : List UInt8).toArray⟩), (.string ⟨(ratL (f2) : List UInt8).toArray⟩), (.string ⟨(ratL (f3) : List UInt8).toArray⟩)] 49) [(true, 0), (true, 1), (true, 4), (true, 5), (false, 2), (false, 3), (false, 6), (true, 7), (true, 8), (true, 9), (true, 10), (true, 12), (true, 13), (false, 11), (false, 14), (false, 15), (true, 16), (true, 17), (true, 18), (true, 19), (true, 20), (true, 21), (true, 24), (true, 25), (true, 26), (false, 22), (false, 23), (false, 27), (true, 28), (true, 29)] (by kernel_rfl) (by kernel_rfl) (by kernel_rfl) (by decide) (fun _ _ _ _ _ h => h) ⟨L27, L28, L29, L30, L31, L32⟩ ?_
 refine ow 56 (.agg #[t15_0, t15_1, t15_2, t15_3, t15_4, t15_5, t15_6, t15_7, t15_8, t15_9, t15_10, t15_11]) rfl (fun w' hS => (rl 32 0 [t15_0, t15_1, t15_2, t15_3, t15_4, t15_5, t15_6, t15_7, t15_8, t15_9, t15_10, t15_11] hS.1)) ?_
 simp only [p3, p4]
 refine ow 57 (.agg #[t17_0, t17_1, t17_2, t17_3, t17_4, t17_5, t17_6, t17_7, t17_8, t17_9, t17_10, t17_11]) rfl (fun w' hS => (rl 32 0 [t17_0, t17_1, t17_2, t17_3, t17_4, t17_5, t17_6, t17_7, t17_8, t17_9, t17_10, t17_11] hS.2.1)) ?_
 simp only [p3, p4]
 refine ow 60 (.agg #[(.string ⟨(ratL (a1) : List UInt8).toArray⟩), (.string ⟨(ratL (a2) : List UInt8).toArray⟩), (.string ⟨(ratL (a3) : List UInt8).toArray⟩)]) rfl (fun w' hS => (rl 49 0 [(.string ⟨(ratL (a1) : List UInt8).toArray⟩), (.string ⟨(ratL (a2) : List UInt8).toArray⟩), (.string ⟨(ratL (a3) : List UInt8).toArray⟩)] hS.2.2.2.1)) ?_
 simp only [p3, p4]
 refine ow 61 (.agg #[(.string ⟨(ratL (c1) : List UInt8).toArray⟩), (.string ⟨(ratL (c2) : List UInt8).toArray⟩), (.string ⟨(ratL (c3) : List UInt8).toArray⟩)]) rfl (fun w' hS => (rl 49 0 [(.string ⟨(ratL (c1) : List UInt8).toArray⟩), (.string ⟨(ratL (c2) : List UInt8).toArray⟩), (.string ⟨(ratL (c3) : List UInt8).toArray⟩)] hS.2.2.2.2.1)) ?_
 simp only [p3, p4]
 refine oe ?_
 have kq78 := g16.kp.trans (g17.kp.trans (g18.kp.trans (g19.kp.trans (g20.kp.trans (g21.kp.trans (g22.kp.trans (g23.kp.trans (g24.kp.trans (g25.kp.trans (g26.kp.trans (kp34.trans (kp36.trans (kp38.trans (kp40.trans (kp42.trans (kp44.trans gd75.kp))))))))))))))))
 replace h15a := h15a.kp kq78
 replace h15b := h15b.kp kq78
 replace h15c := h15c.kp kq78
 have kq79 := g18.kp.trans (g19.kp.trans (g20.kp.trans (g21.kp.trans (g22.kp.trans (g23.kp.trans (g24.kp.trans (g25.kp.trans (g26.kp.trans (kp34.trans (kp36.trans (kp38.trans (kp40.trans (kp42.trans (kp44.trans gd75.kp))))))))))))))
 replace h17a := h17a.kp kq79
 replace h17b := h17b.kp kq79
 replace h17c := h17c.kp kq79
 refine ec 58 (dot_v h15a h15b h15c h17a h17b h17c (by omega)) ?_
 rintro e77 w77 ⟨⟨p77, q77, r77, s77, rfl, h77⟩, g77⟩
 refine ⟨_, rfl, ?_⟩
 replace hB := hB.trans g77
 replace L27 := L27.gr g77
 replace L28 := L28.gr g77
 replace L29 := L29.gr g77
 replace L30 := L30.gr g77
 replace L31 := L31.gr g77
 replace L32 := L32.gr g77
 refine ⟨⟨L27, L28, L29, L30, L31, L32⟩, ?_⟩
 simp only [p3, p4]
 refine oe ?_
 refine ec 59 (number_r h77 (by omega) (ht.gr hB)) ?_
 rintro e81 w81 ⟨rfl, g81⟩
 refine ⟨_, rfl, ?_⟩
 replace hB := hB.trans g81
 replace L27 := L27.gr g81
 replace L28 := L28.gr g81
 replace L29 := L29.gr g81
 replace L30 := L30.gr g81
 replace L31 := L31.gr g81
 replace L32 := L32.gr g81
 refine ⟨⟨L27, L28, L29, L30, L31, L32⟩, ?_⟩
 simp only [p3, p4]
 refine oe ?_
 refine ec 62 (r3_dot (a1) (a2) (a3) ha1 ha2 ha3 (c1) (c2) (c3) hc1 hc2 hc3 (by omega) _) ?_
 rintro e83 w83 ⟨rfl, g83⟩
 refine ⟨_, rfl, ?_⟩
 replace hB := hB.trans g83
 replace L27 := L27.gr g83
 replace L28 := L28.gr g83
 replace L29 := L29.gr g83
 replace L30 := L30.gr g83
 replace L31 := L31.gr g83
 replace L32 := L32.gr g83
 refine ⟨⟨L27, L28, L29, L30, L31, L32⟩, ?_⟩
 simp only [p3, p4]
 have hb84 : (((ratL ((0 + a1 * c1 + a2 * c2 + a3 * c3))) != (ratL (a1 * c1 + a2 * c2 + a3 * c3)))) = false := (lawVp0 a1 a2 a3 c1 c2 c3 )
 refine ow 63 (.bool false) rfl (fun w' hS => (RunV.bool (x := ((ratL ((0 + a1 * c1 + a2 * c2 + a3 * c3))) != (ratL (a1 * c1 + a2 * c2 + a3 * c3)))) (rv_sne 9 9 _ _ (ratL ((0 + a1 * c1 + a2 * c2 + a3 * c3))) (ratL (a1 * c1 + a2 * c2 + a3 * c3)) rfl rfl rfl) hb84)) ?_
 simp only [p3, p4]
 refine ov 64 (.bool false) ?_
 simp only [p3, p4]
 refine ow 65 (.agg #[t15_0, t15_1, t15_2, t15_3, t15_4, t15_5, t15_6, t15_7, t15_8, t15_9, t15_10, t15_11]) rfl (fun w' hS => (rl 32 0 [t15_0, t15_1, t15_2, t15_3, t15_4, t15_5, t15_6, t15_7, t15_8, t15_9, t15_10, t15_11] hS.1)) ?_
 simp only [p3, p4]
 refine ow 66 (.agg #[t17_0, t17_1, t17_2, t17_3, t17_4, t17_5, t17_6, t17_7, t17_8, t17_9, t17_10, t17_11]) rfl (fun w' hS => (rl 32 0 [t17_0, t17_1, t17_2, t17_3, t17_4, t17_5, t17_6, t17_7, t17_8, t17_9, t17_10, t17_11] hS.2.1)) ?_
 simp only [p3, p4]
 refine ow 68 (.agg #[(.string ⟨(ratL (a1) : List UInt8).toArray⟩), (.string ⟨(ratL (a2) : List UInt8).toArray⟩), (.string ⟨(ratL (a3) : List UInt8).toArray⟩)]) rfl (fun w' hS => (rl 49 0 [(.string ⟨(ratL (a1) : List UInt8).toArray⟩), (.string ⟨(ratL (a2) : List UInt8).toArray⟩), (.string ⟨(ratL (a3) : List UInt8).toArray⟩)] hS.2.2.2.1)) ?_
 simp only [p3, p4]
 refine ow 69 (.agg #[(.string ⟨(ratL (c1) : List UInt8).toArray⟩), (.string ⟨(ratL (c2) : List UInt8).toArray⟩), (.string ⟨(ratL (c3) : List UInt8).toArray⟩)]) rfl (fun w' hS => (rl 49 0 [(.string ⟨(ratL (c1) : List UInt8).toArray⟩), (.string ⟨(ratL (c2) : List UInt8).toArray⟩), (.string ⟨(ratL (c3) : List UInt8).toArray⟩)] hS.2.2.2.2.1)) ?_
 simp only [p3, p4]
 refine oe ?_
 have kq87 := g77.kp.trans (g81.kp.trans g83.kp)
 replace h15a := h15a.kp kq87
 replace h15b := h15b.kp kq87
 replace h15c := h15c.kp kq87
 replace h17a := h17a.kp kq87
 replace h17b := h17b.kp kq87
 replace h17c := h17c.kp kq87
 refine ec 67 (cross_v h15a h15b h15c h17a h17b h17c (by omega)) ?_
 rintro e86 w86 ⟨⟨t86_0, t86_1, t86_2, t86_3, t86_4, t86_5, t86_6, t86_7, t86_8, t86_9, t86_10, t86_11, rfl, h86a, h86b, h86c⟩, g86⟩
 refine ⟨_, rfl, ?_⟩
 replace hB := hB.trans g86
 replace L27 := L27.gr g86
 replace L28 := L28.gr g86
 replace L29 := L29.gr g86
 replace L30 := L30.gr g86
 replace L31 := L31.gr g86
 replace L32 := L32.gr g86
 refine ⟨⟨L27, L28, L29, L30, L31, L32⟩, ?_⟩
 simp only [p3, p4]
 refine oe ?_
 refine ec 70 (r3_cross (a1) (a2) (a3) ha1 ha2 ha3 (c1) (c2) (c3) hc1 hc2 hc3 (by omega) _) ?_
 rintro e89 w89 ⟨rfl, g89⟩
 refine ⟨_, rfl, ?_⟩
 replace hB := hB.trans g89
 replace L27 := L27.gr g89
 replace L28 := L28.gr g89
 replace L29 := L29.gr g89
 replace L30 := L30.gr g89
 replace L31 := L31.gr g89
 replace L32 := L32.gr g89
 refine ⟨⟨L27, L28, L29, L30, L31, L32⟩, ?_⟩
 simp only [p3, p4]
 refine oe ?_
 replace h86a := h86a.kp g89.kp
 replace h86b := h86b.kp g89.kp
 replace h86c := h86c.kp g89.kp
 refine ec 71 (is_v (ratL (a2 * c3 - a3 * c2)) (ratL (a3 * c1 - a1 * c3)) (ratL (a1 * c2 - a2 * c1)) h86a h86b h86c (by omega) (ht.gr hB)) ?_
 rintro e91 w91 ⟨rfl, g91⟩
 refine ⟨_, rfl, ?_⟩
 replace hB := hB.trans g91
 replace L27 := L27.gr g91
 replace L28 := L28.gr g91
 replace L29 := L29.gr g91
 replace L30 := L30.gr g91
 replace L31 := L31.gr g91
 replace L32 := L32.gr g91
 refine ⟨⟨L27, L28, L29, L30, L31, L32⟩, ?_⟩
 simp only [p3, p4]
 have hb92 : (sEq [ratL ((a2 * c3 - a3 * c2)), ratL ((a3 * c1 - a1 * c3)), ratL ((a1 * c2 - a2 * c1))] [ratL (a2 * c3 - a3 * c2), ratL (a3 * c1 - a1 * c3), ratL (a1 * c2 - a2 * c1)]) = true := (lawVp1 a1 a2 a3 c1 c2 c3 )
 refine ow 72 (.bool false) rfl (fun w' hS => (RunV.bool (x := !(sEq [ratL ((a2 * c3 - a3 * c2)), ratL ((a3 * c1 - a1 * c3)), ratL ((a1 * c2 - a2 * c1))] [ratL (a2 * c3 - a3 * c2), ratL (a3 * c1 - a1 * c3), ratL (a1 * c2 - a2 * c1)])) (rvk (by kernel_rfl)) (show (!(sEq [ratL ((a2 * c3 - a3 * c2)), ratL ((a3 * c1 - a1 * c3)), ratL ((a1 * c2 - a2 * c1))] [ratL (a2 * c3 - a3 * c2), ratL (a3 * c1 - a1 * c3), ratL (a1 * c2 - a2 * c1)])) = false by rw [hb92]; rfl))) ?_
 simp only [p3, p4]
 refine ov 73 (.bool false) ?_
 simp only [p3, p4]
 refine ov 74 (.bool false) ?_
 simp only [p3, p4]
 refine ow 75 (.agg #[t15_0, t15_1, t15_2, t15_3, t15_4, t15_5, t15_6, t15_7, t15_8, t15_9, t15_10, t15_11]) rfl (fun w' hS => (rl 32 0 [t15_0, t15_1, t15_2, t15_3, t15_4, t15_5, t15_6, t15_7, t15_8, t15_9, t15_10, t15_11] hS.1)) ?_
 simp only [p3, p4]
 refine ow 76 (.agg #[t17_0, t17_1, t17_2, t17_3, t17_4, t17_5, t17_6, t17_7, t17_8, t17_9, t17_10, t17_11]) rfl (fun w' hS => (rl 32 0 [t17_0, t17_1, t17_2, t17_3, t17_4, t17_5, t17_6, t17_7, t17_8, t17_9, t17_10, t17_11] hS.2.1)) ?_
 simp only [p3, p4]
 refine ow 77 (.agg #[t19_0, t19_1, t19_2, t19_3, t19_4, t19_5, t19_6, t19_7, t19_8, t19_9, t19_10, t19_11]) rfl (fun w' hS => (rl 32 0 [t19_0, t19_1, t19_2, t19_3, t19_4, t19_5, t19_6, t19_7, t19_8, t19_9, t19_10, t19_11] hS.2.2.1)) ?_
 simp only [p3, p4]
 refine ow 80 (.agg #[(.string ⟨(ratL (a1) : List UInt8).toArray⟩), (.string ⟨(ratL (a2) : List UInt8).toArray⟩), (.string ⟨(ratL (a3) : List UInt8).toArray⟩)]) rfl (fun w' hS => (rl 49 0 [(.string ⟨(ratL (a1) : List UInt8).toArray⟩), (.string ⟨(ratL (a2) : List UInt8).toArray⟩), (.string ⟨(ratL (a3) : List UInt8).toArray⟩)] hS.2.2.2.1)) ?_
 simp only [p3, p4]
 refine ow 81 (.agg #[(.string ⟨(ratL (c1) : List UInt8).toArray⟩), (.string ⟨(ratL (c2) : List UInt8).toArray⟩), (.string ⟨(ratL (c3) : List UInt8).toArray⟩)]) rfl (fun w' hS => (rl 49 0 [(.string ⟨(ratL (c1) : List UInt8).toArray⟩), (.string ⟨(ratL (c2) : List UInt8).toArray⟩), (.string ⟨(ratL (c3) : List UInt8).toArray⟩)] hS.2.2.2.2.1)) ?_
 simp only [p3, p4]
 refine ow 82 (.agg #[(.string ⟨(ratL (f1) : List UInt8).toArray⟩), (.string ⟨(ratL (f2) : List UInt8).toArray⟩), (.string ⟨(ratL (f3) : List UInt8).toArray⟩)]) rfl (fun w' hS => (rl 49 0 [(.string ⟨(ratL (f1) : List UInt8).toArray⟩), (.string ⟨(ratL (f2) : List UInt8).toArray⟩), (.string ⟨(ratL (f3) : List UInt8).toArray⟩)] hS.2.2.2.2.2)) ?_
 simp only [p3, p4]
 refine oe ?_
 have kq95 := g86.kp.trans (g89.kp.trans g91.kp)
 replace h15a := h15a.kp kq95
 replace h15b := h15b.kp kq95
 replace h15c := h15c.kp kq95
 replace h17a := h17a.kp kq95
 replace h17b := h17b.kp kq95
 replace h17c := h17c.kp kq95
 have kq96 := g20.kp.trans (g21.kp.trans (g22.kp.trans (g23.kp.trans (g24.kp.trans (g25.kp.trans (g26.kp.trans (kp34.trans (kp36.trans (kp38.trans (kp40.trans (kp42.trans (kp44.trans (gd75.kp.trans (g77.kp.trans (g81.kp.trans (g83.kp.trans (g86.kp.trans (g89.kp.trans g91.kp))))))))))))))))))
 replace h19a := h19a.kp kq96
 replace h19b := h19b.kp kq96
 replace h19c := h19c.kp kq96
 refine ec 78 (vdet_v h15a h15b h15c h17a h17b h17c h19a h19b h19c (by omega)) ?_
 rintro e94 w94 ⟨⟨p94, q94, r94, s94, rfl, h94⟩, g94⟩
 refine ⟨_, rfl, ?_⟩
 replace hB := hB.trans g94
 replace L27 := L27.gr g94
 replace L28 := L28.gr g94
 replace L29 := L29.gr g94
 replace L30 := L30.gr g94
 replace L31 := L31.gr g94
 replace L32 := L32.gr g94
 refine ⟨⟨L27, L28, L29, L30, L31, L32⟩, ?_⟩
 simp only [p3, p4]
 refine oe ?_
 refine ec 79 (number_r h94 (by omega) (ht.gr hB)) ?_
 rintro e98 w98 ⟨rfl, g98⟩
 refine ⟨_, rfl, ?_⟩
 replace hB := hB.trans g98
 replace L27 := L27.gr g98
 replace L28 := L28.gr g98
 replace L29 := L29.gr g98
 replace L30 := L30.gr g98
 replace L31 := L31.gr g98
 replace L32 := L32.gr g98
 refine ⟨⟨L27, L28, L29, L30, L31, L32⟩, ?_⟩
 simp only [p3, p4]
 refine oe ?_
 refine ec 83 (r3_det (a1) (a2) (a3) ha1 ha2 ha3 (c1) (c2) (c3) hc1 hc2 hc3 (f1) (f2) (f3) hf1 hf2 hf3 (by omega) _) ?_
 rintro e100 w100 ⟨rfl, g100⟩
 refine ⟨_, rfl, ?_⟩
 replace hB := hB.trans g100
 replace L27 := L27.gr g100
 replace L28 := L28.gr g100
 replace L29 := L29.gr g100
 replace L30 := L30.gr g100
 replace L31 := L31.gr g100
 replace L32 := L32.gr g100
 refine ⟨⟨L27, L28, L29, L30, L31, L32⟩, ?_⟩
 simp only [p3, p4]
 have hb101 : (((ratL ((0 + a1 * (c2 * f3 - c3 * f2) + a2 * (c3 * f1 - c1 * f3) + a3 * (c1 * f2 - c2 * f1)))) != (ratL (a1 * (c2 * f3 - c3 * f2) + a2 * (c3 * f1 - c1 * f3) + a3 * (c1 * f2 - c2 * f1))))) = false := (lawVp2 a1 a2 a3 c1 c2 c3 f1 f2 f3 )
 refine ow 84 (.bool false) rfl (fun w' hS => (RunV.bool (x := ((ratL ((0 + a1 * (c2 * f3 - c3 * f2) + a2 * (c3 * f1 - c1 * f3) + a3 * (c1 * f2 - c2 * f1)))) != (ratL (a1 * (c2 * f3 - c3 * f2) + a2 * (c3 * f1 - c1 * f3) + a3 * (c1 * f2 - c2 * f1))))) (rv_sne 9 9 _ _ (ratL ((0 + a1 * (c2 * f3 - c3 * f2) + a2 * (c3 * f1 - c1 * f3) + a3 * (c1 * f2 - c2 * f1)))) (ratL (a1 * (c2 * f3 - c3 * f2) + a2 * (c3 * f1 - c1 * f3) + a3 * (c1 * f2 - c2 * f1))) rfl rfl rfl) hb101)) ?_
 simp only [p3, p4]
 refine ov 85 (.bool false) ?_
 simp only [p3, p4]
 refine ord_nil ?_
 refine k47 _ _ ?_
 try clear k47 K47
 refine wp_cond_false rfl ?_
 refine wp_skip ?_
 refine k11 _ _ ?_
 try clear k11 K11
 refine rg [0, 1, 2] ?_
 refine sv 16 (.int .i64 0) ?_
 simp only [p3, p4]
 refine sv 17 (.int .i64 1) ?_
 simp only [p3, p4]
 refine sv 5 (.int .i64 1) ?_
 simp only [p3, p4]
 refine sq_nil ?_
 show Code.rounds _ _ _ _ _ _
 show Code.wp _ _ _ _ _
 refine wp_seq_k (fun K102 k102 => ?_)
 refine wp_seq_k (fun K103 k103 => ?_)
 refine rg [0, 1] ?_
 refine sv 14 (.int .i64 1) ?_
 simp only [p3, p4]
 refine sv 15 (.bool true) ?_
 simp only [p3, p4]
 refine sq_nil ?_
 refine k103 _ _ ?_
 try clear k103 K103
 refine wp_cond_true rfl ?_
 refine wp_skip ?_
 refine k102 _ _ ?_
 try clear k102 K102
 refine wp_seq_k (fun K104 k104 => ?_)
 refine wp_block ?_
 refine wp_seq_k (fun K105 k105 => ?_)
 have hz106 := Below.size hB
 replace L2 := L2.gr (gd75.trans (g77.trans (g81.trans (g83.trans (g86.trans (g89.trans (g91.trans (g94.trans (g98.trans g100)))))))))
 have lt2_106 := L2.lt
 replace L3 := (st44.lc (st42.lc (st40.lc (st38.lc (st36.lc (st34.lc (L3.gr (gd13.trans (g14.trans (g15.trans (g16.trans (g17.trans (g18.trans (g19.trans (g20.trans (g21.trans (g22.trans (g23.trans (g24.trans (g25.trans g26)))))))))))))) ne3_27) ne3_28) ne3_29) ne3_30) ne3_31) ne3_32).gr (gd75.trans (g77.trans (g81.trans (g83.trans (g86.trans (g89.trans (g91.trans (g94.trans (g98.trans g100)))))))))
 have lt3_106 := L3.lt
 have lt27_106 := L27.lt
 have lt28_106 := L28.lt
 have lt29_106 := L29.lt
 have lt30_106 := L30.lt
 have lt31_106 := L31.lt
 have lt32_106 := L32.lt
 have gd106 := Gr.drew w100
 replace hB := hB.trans gd106
 replace L2 := L2.gr gd106
 refine wp_region_flo (fun w' => Lc w' b2 #[(.int .i8 (ia1)), (.int .i8 (ia2)), (.int .i8 (ia3)), (.int .u8 (da)), (.int .i8 (ic1)), (.int .i8 (ic2)), (.int .i8 (ic3)), (.int .u8 (dc)), (.int .i8 (if1)), (.int .i8 (if2)), (.int .i8 (if3)), (.int .u8 (df))] 43) [(true, 0), (true, 1), (true, 3), (true, 4), (true, 6), (true, 7), (true, 9), (true, 10), (true, 12), (true, 13), (true, 15), (true, 16), (false, 2), (false, 5), (false, 8), (false, 11), (false, 14), (false, 17)] [⟨18, 6, 32, #[(.bool false), (.slice none 0 0), (.bool false), (.slice none 0 0), (.bool false), (.slice none 0 0), (.bool false), (.slice none 0 0), (.bool false), (.slice none 0 0), (.bool false), (.slice none 0 0)]⟩, ⟨19, 7, 32, #[(.bool false), (.slice none 0 0), (.bool false), (.slice none 0 0), (.bool false), (.slice none 0 0), (.bool false), (.slice none 0 0), (.bool false), (.slice none 0 0), (.bool false), (.slice none 0 0)]⟩, ⟨20, 8, 32, #[(.bool false), (.slice none 0 0), (.bool false), (.slice none 0 0), (.bool false), (.slice none 0 0), (.bool false), (.slice none 0 0), (.bool false), (.slice none 0 0), (.bool false), (.slice none 0 0)]⟩, ⟨21, 9, 49, #[(.string ⟨([] : List UInt8).toArray⟩), (.string ⟨([] : List UInt8).toArray⟩), (.string ⟨([] : List UInt8).toArray⟩)]⟩, ⟨22, 10, 49, #[(.string ⟨([] : List UInt8).toArray⟩), (.string ⟨([] : List UInt8).toArray⟩), (.string ⟨([] : List UInt8).toArray⟩)]⟩, ⟨23, 11, 49, #[(.string ⟨([] : List UInt8).toArray⟩), (.string ⟨([] : List UInt8).toArray⟩), (.string ⟨([] : List UInt8).toArray⟩)]⟩] [(false, 24), (false, 25), (false, 26), (false, 27), (false, 28), (false, 29)] (by kernel_rfl) (by kernel_rfl) (by kernel_rfl) (by kernel_rfl) (by kernel_rfl) (by decide) (fun _ _ _ _ _ h => h) (fun _ _ _ _ _ h => h) (fun w' o h => Lc.gr h (Gr.alloc w' o)) L2 (by intro f hf; simp only [List.mem_cons, List.not_mem_nil, or_false] at hf; rcases hf with rfl | rfl | rfl | rfl | rfl | rfl <;> first | exact alloc_zero (z := (.agg #[(.bool false), (.slice none 0 0), (.bool false), (.slice none 0 0), (.bool false), (.slice none 0 0), (.bool false), (.slice none 0 0), (.bool false), (.slice none 0 0), (.bool false), (.slice none 0 0)])) (by kernel_rfl) rfl | exact alloc_zero (z := (.agg #[(.bool false), (.slice none 0 0), (.bool false), (.slice none 0 0), (.bool false), (.slice none 0 0), (.bool false), (.slice none 0 0), (.bool false), (.slice none 0 0), (.bool false), (.slice none 0 0)])) (by kernel_rfl) rfl | exact alloc_zero (z := (.agg #[(.bool false), (.slice none 0 0), (.bool false), (.slice none 0 0), (.bool false), (.slice none 0 0), (.bool false), (.slice none 0 0), (.bool false), (.slice none 0 0), (.bool false), (.slice none 0 0)])) (by kernel_rfl) rfl | exact alloc_zero (z := (.agg #[(.string ⟨([] : List UInt8).toArray⟩), (.string ⟨([] : List UInt8).toArray⟩), (.string ⟨([] : List UInt8).toArray⟩)])) (by kernel_rfl) rfl | exact alloc_zero (z := (.agg #[(.string ⟨([] : List UInt8).toArray⟩), (.string ⟨([] : List UInt8).toArray⟩), (.string ⟨([] : List UInt8).toArray⟩)])) (by kernel_rfl) rfl | exact alloc_zero (z := (.agg #[(.string ⟨([] : List UInt8).toArray⟩), (.string ⟨([] : List UInt8).toArray⟩), (.string ⟨([] : List UInt8).toArray⟩)])) (by kernel_rfl) rfl) ?_
 refine fv 18 (.pointer (some ⟨b2, 0, none⟩)) ?_
 simp only [p3, p4]
 refine fw 19 (.agg #[(.int .i8 (ia1)), (.int .i8 (ia2)), (.int .i8 (ia3)), (.int .u8 (da))]) rfl (fun w' hS => (rl 42 0 [(.int .i8 (ia1)), (.int .i8 (ia2)), (.int .i8 (ia3)), (.int .u8 (da))] hS)) ?_
 simp only [p3, p4]
 refine fv 21 (.pointer (some ⟨b2, 4, none⟩)) ?_
 simp only [p3, p4]
 refine fw 22 (.agg #[(.int .i8 (ic1)), (.int .i8 (ic2)), (.int .i8 (ic3)), (.int .u8 (dc))]) rfl (fun w' hS => (rl 42 4 [(.int .i8 (ic1)), (.int .i8 (ic2)), (.int .i8 (ic3)), (.int .u8 (dc))] hS)) ?_
 simp only [p3, p4]
 refine fv 24 (.pointer (some ⟨b2, 8, none⟩)) ?_
 simp only [p3, p4]
 refine fw 25 (.agg #[(.int .i8 (if1)), (.int .i8 (if2)), (.int .i8 (if3)), (.int .u8 (df))]) rfl (fun w' hS => (rl 42 8 [(.int .i8 (if1)), (.int .i8 (if2)), (.int .i8 (if3)), (.int .u8 (df))] hS)) ?_
 simp only [p3, p4]
 refine fv 27 (.pointer (some ⟨b2, 0, none⟩)) ?_
 simp only [p3, p4]
 refine fw 28 (.agg #[(.int .i8 (ia1)), (.int .i8 (ia2)), (.int .i8 (ia3)), (.int .u8 (da))]) rfl (fun w' hS => (rl 42 0 [(.int .i8 (ia1)), (.int .i8 (ia2)), (.int .i8 (ia3)), (.int .u8 (da))] hS)) ?_
 simp only [p3, p4]
 refine fv 30 (.pointer (some ⟨b2, 4, none⟩)) ?_
 simp only [p3, p4]
 refine fw 31 (.agg #[(.int .i8 (ic1)), (.int .i8 (ic2)), (.int .i8 (ic3)), (.int .u8 (dc))]) rfl (fun w' hS => (rl 42 4 [(.int .i8 (ic1)), (.int .i8 (ic2)), (.int .i8 (ic3)), (.int .u8 (dc))] hS)) ?_
 simp only [p3, p4]
 refine fv 33 (.pointer (some ⟨b2, 8, none⟩)) ?_
 simp only [p3, p4]
 refine fw 34 (.agg #[(.int .i8 (if1)), (.int .i8 (if2)), (.int .i8 (if3)), (.int .u8 (df))]) rfl (fun w' hS => (rl 42 8 [(.int .i8 (if1)), (.int .i8 (if2)), (.int .i8 (if3)), (.int .u8 (df))] hS)) ?_
 simp only [p3, p4]
 refine flo_eff rfl rfl (fun w107 g107 _ K107 k107 => ?_)
 replace hB := hB.trans g107
 refine ec 20 (made_v ia1 ia2 ia3 da ja1 ja2 ja3 jda a1 a2 a3 ea1 ea2 ea3 _ (hm.gr hB)) ?_
 rintro e108 w108 ⟨⟨t108_0, t108_1, t108_2, t108_3, t108_4, t108_5, t108_6, t108_7, t108_8, t108_9, t108_10, t108_11, rfl, h108a, h108b, h108c⟩, g108⟩
 refine ⟨_, rfl, ?_⟩
 replace hB := hB.trans g108
 replace L2 := L2.gr (g107.trans g108)
 refine k107 _ _ g108 L2 ?_
 try clear k107 K107
 simp only [p3, p4]
 refine flo_eff rfl rfl (fun w109 g109 _ K109 k109 => ?_)
 replace hB := hB.trans g109
 refine ec 23 (made_v ic1 ic2 ic3 dc jc1 jc2 jc3 jdc c1 c2 c3 ec1 ec2 ec3 _ (hm.gr hB)) ?_
 rintro e110 w110 ⟨⟨t110_0, t110_1, t110_2, t110_3, t110_4, t110_5, t110_6, t110_7, t110_8, t110_9, t110_10, t110_11, rfl, h110a, h110b, h110c⟩, g110⟩
 refine ⟨_, rfl, ?_⟩
 replace hB := hB.trans g110
 replace L2 := L2.gr (g109.trans g110)
 refine k109 _ _ g110 L2 ?_
 try clear k109 K109
 simp only [p3, p4]
 refine flo_eff rfl rfl (fun w111 g111 _ K111 k111 => ?_)
 replace hB := hB.trans g111
 refine ec 26 (made_v if1 if2 if3 df jf1 jf2 jf3 jdf f1 f2 f3 ef1 ef2 ef3 _ (hm.gr hB)) ?_
 rintro e112 w112 ⟨⟨t112_0, t112_1, t112_2, t112_3, t112_4, t112_5, t112_6, t112_7, t112_8, t112_9, t112_10, t112_11, rfl, h112a, h112b, h112c⟩, g112⟩
 refine ⟨_, rfl, ?_⟩
 replace hB := hB.trans g112
 replace L2 := L2.gr (g111.trans g112)
 refine k111 _ _ g112 L2 ?_
 try clear k111 K111
 simp only [p3, p4]
 refine flo_eff rfl rfl (fun w113 g113 _ K113 k113 => ?_)
 replace hB := hB.trans g113
 refine ec 29 (texts_v ia1 ia2 ia3 da ja1 ja2 ja3 jda a1 a2 a3 ea1 ea2 ea3 _) ?_
 rintro e114 w114 ⟨rfl, g114⟩
 refine ⟨_, rfl, ?_⟩
 replace hB := hB.trans g114
 replace L2 := L2.gr (g113.trans g114)
 refine k113 _ _ g114 L2 ?_
 try clear k113 K113
 simp only [p3, p4]
 refine flo_eff rfl rfl (fun w115 g115 _ K115 k115 => ?_)
 replace hB := hB.trans g115
 refine ec 32 (texts_v ic1 ic2 ic3 dc jc1 jc2 jc3 jdc c1 c2 c3 ec1 ec2 ec3 _) ?_
 rintro e116 w116 ⟨rfl, g116⟩
 refine ⟨_, rfl, ?_⟩
 replace hB := hB.trans g116
 replace L2 := L2.gr (g115.trans g116)
 refine k115 _ _ g116 L2 ?_
 try clear k115 K115
 simp only [p3, p4]
 refine flo_eff rfl rfl (fun w117 g117 _ K117 k117 => ?_)
 replace hB := hB.trans g117
 refine ec 35 (texts_v if1 if2 if3 df jf1 jf2 jf3 jdf f1 f2 f3 ef1 ef2 ef3 _) ?_
 rintro e118 w118 ⟨rfl, g118⟩
 refine ⟨_, rfl, ?_⟩
 replace hB := hB.trans g118
 replace L2 := L2.gr (g117.trans g118)
 refine k117 _ _ g118 L2 ?_
 try clear k117 K117
 simp only [p3, p4]
 refine flo_nil (fun w119 g119 _ => ?_)
 replace hB := hB.trans g119
 refine floFin6 (fun b120 b121 b122 b123 b124 b125 (L120 : Lc w119 b120 #[(.bool false), (.slice none 0 0), (.bool false), (.slice none 0 0), (.bool false), (.slice none 0 0), (.bool false), (.slice none 0 0), (.bool false), (.slice none 0 0), (.bool false), (.slice none 0 0)] 32) q120 (L121 : Lc w119 b121 #[(.bool false), (.slice none 0 0), (.bool false), (.slice none 0 0), (.bool false), (.slice none 0 0), (.bool false), (.slice none 0 0), (.bool false), (.slice none 0 0), (.bool false), (.slice none 0 0)] 32) q121 (L122 : Lc w119 b122 #[(.bool false), (.slice none 0 0), (.bool false), (.slice none 0 0), (.bool false), (.slice none 0 0), (.bool false), (.slice none 0 0), (.bool false), (.slice none 0 0), (.bool false), (.slice none 0 0)] 32) q122 (L123 : Lc w119 b123 #[(.string ⟨([] : List UInt8).toArray⟩), (.string ⟨([] : List UInt8).toArray⟩), (.string ⟨([] : List UInt8).toArray⟩)] 49) q123 (L124 : Lc w119 b124 #[(.string ⟨([] : List UInt8).toArray⟩), (.string ⟨([] : List UInt8).toArray⟩), (.string ⟨([] : List UInt8).toArray⟩)] 49) q124 (L125 : Lc w119 b125 #[(.string ⟨([] : List UInt8).toArray⟩), (.string ⟨([] : List UInt8).toArray⟩), (.string ⟨([] : List UInt8).toArray⟩)] 49) q125 ne120_121 ne120_122 ne121_122 ne120_123 ne121_123 ne122_123 ne120_124 ne121_124 ne122_124 ne123_124 ne120_125 ne121_125 ne122_125 ne123_125 ne124_125 => ?_)
 have ne2_120 : b2 ≠ b120 := Nat.ne_of_lt (Nat.lt_of_lt_of_le lt2_106 q120)
 have ne3_120 : b3 ≠ b120 := Nat.ne_of_lt (Nat.lt_of_lt_of_le lt3_106 q120)
 have ne27_120 : b27 ≠ b120 := Nat.ne_of_lt (Nat.lt_of_lt_of_le lt27_106 q120)
 have ne28_120 : b28 ≠ b120 := Nat.ne_of_lt (Nat.lt_of_lt_of_le lt28_106 q120)
 have ne29_120 : b29 ≠ b120 := Nat.ne_of_lt (Nat.lt_of_lt_of_le lt29_106 q120)
 have ne30_120 : b30 ≠ b120 := Nat.ne_of_lt (Nat.lt_of_lt_of_le lt30_106 q120)
 have ne31_120 : b31 ≠ b120 := Nat.ne_of_lt (Nat.lt_of_lt_of_le lt31_106 q120)
 have ne32_120 : b32 ≠ b120 := Nat.ne_of_lt (Nat.lt_of_lt_of_le lt32_106 q120)
 replace q120 := Nat.le_trans hz106 q120
 have ne2_121 : b2 ≠ b121 := Nat.ne_of_lt (Nat.lt_of_lt_of_le lt2_106 q121)
 have ne3_121 : b3 ≠ b121 := Nat.ne_of_lt (Nat.lt_of_lt_of_le lt3_106 q121)
 have ne27_121 : b27 ≠ b121 := Nat.ne_of_lt (Nat.lt_of_lt_of_le lt27_106 q121)
 have ne28_121 : b28 ≠ b121 := Nat.ne_of_lt (Nat.lt_of_lt_of_le lt28_106 q121)
 have ne29_121 : b29 ≠ b121 := Nat.ne_of_lt (Nat.lt_of_lt_of_le lt29_106 q121)
 have ne30_121 : b30 ≠ b121 := Nat.ne_of_lt (Nat.lt_of_lt_of_le lt30_106 q121)
 have ne31_121 : b31 ≠ b121 := Nat.ne_of_lt (Nat.lt_of_lt_of_le lt31_106 q121)
 have ne32_121 : b32 ≠ b121 := Nat.ne_of_lt (Nat.lt_of_lt_of_le lt32_106 q121)
 replace q121 := Nat.le_trans hz106 q121
 have ne2_122 : b2 ≠ b122 := Nat.ne_of_lt (Nat.lt_of_lt_of_le lt2_106 q122)
 have ne3_122 : b3 ≠ b122 := Nat.ne_of_lt (Nat.lt_of_lt_of_le lt3_106 q122)
 have ne27_122 : b27 ≠ b122 := Nat.ne_of_lt (Nat.lt_of_lt_of_le lt27_106 q122)
 have ne28_122 : b28 ≠ b122 := Nat.ne_of_lt (Nat.lt_of_lt_of_le lt28_106 q122)
 have ne29_122 : b29 ≠ b122 := Nat.ne_of_lt (Nat.lt_of_lt_of_le lt29_106 q122)
 have ne30_122 : b30 ≠ b122 := Nat.ne_of_lt (Nat.lt_of_lt_of_le lt30_106 q122)
 have ne31_122 : b31 ≠ b122 := Nat.ne_of_lt (Nat.lt_of_lt_of_le lt31_106 q122)
 have ne32_122 : b32 ≠ b122 := Nat.ne_of_lt (Nat.lt_of_lt_of_le lt32_106 q122)
 replace q122 := Nat.le_trans hz106 q122
 have ne2_123 : b2 ≠ b123 := Nat.ne_of_lt (Nat.lt_of_lt_of_le lt2_106 q123)
 have ne3_123 : b3 ≠ b123 := Nat.ne_of_lt (Nat.lt_of_lt_of_le lt3_106 q123)
 have ne27_123 : b27 ≠ b123 := Nat.ne_of_lt (Nat.lt_of_lt_of_le lt27_106 q123)
 have ne28_123 : b28 ≠ b123 := Nat.ne_of_lt (Nat.lt_of_lt_of_le lt28_106 q123)
 have ne29_123 : b29 ≠ b123 := Nat.ne_of_lt (Nat.lt_of_lt_of_le lt29_106 q123)
 have ne30_123 : b30 ≠ b123 := Nat.ne_of_lt (Nat.lt_of_lt_of_le lt30_106 q123)
 have ne31_123 : b31 ≠ b123 := Nat.ne_of_lt (Nat.lt_of_lt_of_le lt31_106 q123)
 have ne32_123 : b32 ≠ b123 := Nat.ne_of_lt (Nat.lt_of_lt_of_le lt32_106 q123)
 replace q123 := Nat.le_trans hz106 q123
 have ne2_124 : b2 ≠ b124 := Nat.ne_of_lt (Nat.lt_of_lt_of_le lt2_106 q124)
 have ne3_124 : b3 ≠ b124 := Nat.ne_of_lt (Nat.lt_of_lt_of_le lt3_106 q124)
 have ne27_124 : b27 ≠ b124 := Nat.ne_of_lt (Nat.lt_of_lt_of_le lt27_106 q124)
 have ne28_124 : b28 ≠ b124 := Nat.ne_of_lt (Nat.lt_of_lt_of_le lt28_106 q124)
 have ne29_124 : b29 ≠ b124 := Nat.ne_of_lt (Nat.lt_of_lt_of_le lt29_106 q124)
 have ne30_124 : b30 ≠ b124 := Nat.ne_of_lt (Nat.lt_of_lt_of_le lt30_106 q124)
 have ne31_124 : b31 ≠ b124 := Nat.ne_of_lt (Nat.lt_of_lt_of_le lt31_106 q124)
 have ne32_124 : b32 ≠ b124 := Nat.ne_of_lt (Nat.lt_of_lt_of_le lt32_106 q124)
 replace q124 := Nat.le_trans hz106 q124
 have ne2_125 : b2 ≠ b125 := Nat.ne_of_lt (Nat.lt_of_lt_of_le lt2_106 q125)
 have ne3_125 : b3 ≠ b125 := Nat.ne_of_lt (Nat.lt_of_lt_of_le lt3_106 q125)
 have ne27_125 : b27 ≠ b125 := Nat.ne_of_lt (Nat.lt_of_lt_of_le lt27_106 q125)
 have ne28_125 : b28 ≠ b125 := Nat.ne_of_lt (Nat.lt_of_lt_of_le lt28_106 q125)
 have ne29_125 : b29 ≠ b125 := Nat.ne_of_lt (Nat.lt_of_lt_of_le lt29_106 q125)
 have ne30_125 : b30 ≠ b125 := Nat.ne_of_lt (Nat.lt_of_lt_of_le lt30_106 q125)
 have ne31_125 : b31 ≠ b125 := Nat.ne_of_lt (Nat.lt_of_lt_of_le lt31_106 q125)
 have ne32_125 : b32 ≠ b125 := Nat.ne_of_lt (Nat.lt_of_lt_of_le lt32_106 q125)
 replace q125 := Nat.le_trans hz106 q125
 simp only [putl, p3, p4]
 refine oe ?_
 refine es 32 0 (.agg #[t108_0, t108_1, t108_2, t108_3, t108_4, t108_5, t108_6, t108_7, t108_8, t108_9, t108_10, t108_11]) [t108_0, t108_1, t108_2, t108_3, t108_4, t108_5, t108_6, t108_7, t108_8, t108_9, t108_10, t108_11] #[t108_0, t108_1, t108_2, t108_3, t108_4, t108_5, t108_6, t108_7, t108_8, t108_9, t108_10, t108_11] L120 hB q120 ⟨h108a.one0, h108a.one1, h108a.one2, h108a.one3, h108b.one0, h108b.one1, h108b.one2, h108b.one3, h108c.one0, h108c.one1, h108c.one2, h108c.one3, trivial⟩ fun w127 st127 kp127 L120 hB => ?_
 replace L2 := st127.lc (L2.gr g119) ne2_120
 refine ⟨L2, ?_⟩
 refine oe ?_
 replace L121 := st127.lc L121 (Ne.symm ne120_121)
 refine es 32 0 (.agg #[t110_0, t110_1, t110_2, t110_3, t110_4, t110_5, t110_6, t110_7, t110_8, t110_9, t110_10, t110_11]) [t110_0, t110_1, t110_2, t110_3, t110_4, t110_5, t110_6, t110_7, t110_8, t110_9, t110_10, t110_11] #[t110_0, t110_1, t110_2, t110_3, t110_4, t110_5, t110_6, t110_7, t110_8, t110_9, t110_10, t110_11] L121 hB q121 ⟨h110a.one0, h110a.one1, h110a.one2, h110a.one3, h110b.one0, h110b.one1, h110b.one2, h110b.one3, h110c.one0, h110c.one1, h110c.one2, h110c.one3, trivial⟩ fun w129 st129 kp129 L121 hB => ?_
 replace L2 := st129.lc L2 ne2_121
 refine ⟨L2, ?_⟩
 refine oe ?_
 replace L122 := st129.lc (st127.lc L122 (Ne.symm ne120_122)) (Ne.symm ne121_122)
 refine es 32 0 (.agg #[t112_0, t112_1, t112_2, t112_3, t112_4, t112_5, t112_6, t112_7, t112_8, t112_9, t112_10, t112_11]) [t112_0, t112_1, t112_2, t112_3, t112_4, t112_5, t112_6, t112_7, t112_8, t112_9, t112_10, t112_11] #[t112_0, t112_1, t112_2, t112_3, t112_4, t112_5, t112_6, t112_7, t112_8, t112_9, t112_10, t112_11] L122 hB q122 ⟨h112a.one0, h112a.one1, h112a.one2, h112a.one3, h112b.one0, h112b.one1, h112b.one2, h112b.one3, h112c.one0, h112c.one1, h112c.one2, h112c.one3, trivial⟩ fun w131 st131 kp131 L122 hB => ?_
 replace L2 := st131.lc L2 ne2_122
 refine ⟨L2, ?_⟩
 refine oe ?_
 replace L123 := st131.lc (st129.lc (st127.lc L123 (Ne.symm ne120_123)) (Ne.symm ne121_123)) (Ne.symm ne122_123)
 refine es 49 0 (.agg #[(.string ⟨(ratL (a1) : List UInt8).toArray⟩), (.string ⟨(ratL (a2) : List UInt8).toArray⟩), (.string ⟨(ratL (a3) : List UInt8).toArray⟩)]) [(.string ⟨(ratL (a1) : List UInt8).toArray⟩), (.string ⟨(ratL (a2) : List UInt8).toArray⟩), (.string ⟨(ratL (a3) : List UInt8).toArray⟩)] #[(.string ⟨(ratL (a1) : List UInt8).toArray⟩), (.string ⟨(ratL (a2) : List UInt8).toArray⟩), (.string ⟨(ratL (a3) : List UInt8).toArray⟩)] L123 hB q123 ⟨rfl, rfl, rfl, trivial⟩ fun w133 st133 kp133 L123 hB => ?_
 replace L2 := st133.lc L2 ne2_123
 refine ⟨L2, ?_⟩
 refine oe ?_
 replace L124 := st133.lc (st131.lc (st129.lc (st127.lc L124 (Ne.symm ne120_124)) (Ne.symm ne121_124)) (Ne.symm ne122_124)) (Ne.symm ne123_124)
 refine es 49 0 (.agg #[(.string ⟨(ratL (c1) : List UInt8).toArray⟩), (.string ⟨(ratL (c2) : List UInt8).toArray⟩), (.string ⟨(ratL (c3) : List UInt8).toArray⟩)]) [(.string ⟨(ratL (c1) : List UInt8).toArray⟩), (.string ⟨(ratL (c2) : List UInt8).toArray⟩), (.string ⟨(ratL (c3) : List UInt8).toArray⟩)] #[(.string ⟨(ratL (c1) : List UInt8).toArray⟩), (.string ⟨(ratL (c2) : List UInt8).toArray⟩), (.string ⟨(ratL (c3) : List UInt8).toArray⟩)] L124 hB q124 ⟨rfl, rfl, rfl, trivial⟩ fun w135 st135 kp135 L124 hB => ?_
 replace L2 := st135.lc L2 ne2_124
 refine ⟨L2, ?_⟩
 refine oe ?_
 replace L125 := st135.lc (st133.lc (st131.lc (st129.lc (st127.lc L125 (Ne.symm ne120_125)) (Ne.symm ne121_125)) (Ne.symm ne122_125)) (Ne.symm ne123_125)) (Ne.symm ne124_125)
 refine es 49 0 (.agg #[(.string ⟨(ratL (f1) : List UInt8).toArray⟩), (.string ⟨(ratL (f2) : List UInt8).toArray⟩), (.string ⟨(ratL (f3) : List UInt8).toArray⟩)]) [(.string ⟨(ratL (f1) : List UInt8).toArray⟩), (.string ⟨(ratL (f2) : List UInt8).toArray⟩), (.string ⟨(ratL (f3) : List UInt8).toArray⟩)] #[(.string ⟨(ratL (f1) : List UInt8).toArray⟩), (.string ⟨(ratL (f2) : List UInt8).toArray⟩), (.string ⟨(ratL (f3) : List UInt8).toArray⟩)] L125 hB q125 ⟨rfl, rfl, rfl, trivial⟩ fun w137 st137 kp137 L125 hB => ?_
 replace L2 := st137.lc L2 ne2_125
 refine ⟨L2, ?_⟩
 refine ord_nil ?_
 refine k105 _ _ ?_
 try clear k105 K105
 refine wp_seq_k (fun K138 k138 => ?_)
 refine wp_seq_k (fun K139 k139 => ?_)
 refine rg [0, 1] ?_
 refine sv 36 (.int .i64 1) ?_
 simp only [p3, p4]
 refine sv 37 (.bool true) ?_
 simp only [p3, p4]
 refine sq_nil ?_
 refine k139 _ _ ?_
 try clear k139 K139
 refine wp_cond_true rfl ?_
 have gd165 := Gr.drew w137
 replace hB := hB.trans gd165
 replace L3 := (st137.lc (st135.lc (st133.lc (st131.lc (st129.lc (st127.lc (L3.gr (gd106.trans (g107.trans (g108.trans (g109.trans (g110.trans (g111.trans (g112.trans (g113.trans (g114.trans (g115.trans (g116.trans (g117.trans (g118.trans g119)))))))))))))) ne3_120) ne3_121) ne3_122) ne3_123) ne3_124) ne3_125).gr gd165
 refine wp_region_ord (fun w' => Lc w' b3 #[(.int .i64 (m1)), (.int .i64 (m2)), (.int .i64 (m3)), (.int .i64 (l1)), (.int .i64 (l2)), (.int .i64 (l3)), (.int .i64 (n1)), (.int .i64 (n2)), (.int .i64 (n3))] 46) [(true, 0), (true, 1), (true, 3), (true, 4), (true, 6), (true, 7), (true, 9), (true, 10), (true, 12), (true, 13), (true, 15), (true, 16), (false, 2), (false, 5), (false, 8), (false, 11), (false, 14), (false, 17), (false, 18), (false, 19), (false, 20), (false, 21), (false, 22), (false, 23)] (by kernel_rfl) (by kernel_rfl) (by kernel_rfl) (by decide) (fun _ _ _ _ _ h => h) L3 ?_
 refine ov 38 (.pointer (some ⟨b3, 0, none⟩)) ?_
 simp only [p3, p4]
 refine ow 39 (.agg #[(.int .i64 (m1)), (.int .i64 (m2)), (.int .i64 (m3))]) rfl (fun w' hS => (rl 45 0 [(.int .i64 (m1)), (.int .i64 (m2)), (.int .i64 (m3))] hS)) ?_
 simp only [p3, p4]
 refine ov 41 (.pointer (some ⟨b3, 3, none⟩)) ?_
 simp only [p3, p4]
 refine ow 42 (.agg #[(.int .i64 (l1)), (.int .i64 (l2)), (.int .i64 (l3))]) rfl (fun w' hS => (rl 45 3 [(.int .i64 (l1)), (.int .i64 (l2)), (.int .i64 (l3))] hS)) ?_
 simp only [p3, p4]
 refine ov 44 (.pointer (some ⟨b3, 6, none⟩)) ?_
 simp only [p3, p4]
 refine ow 45 (.agg #[(.int .i64 (n1)), (.int .i64 (n2)), (.int .i64 (n3))]) rfl (fun w' hS => (rl 45 6 [(.int .i64 (n1)), (.int .i64 (n2)), (.int .i64 (n3))] hS)) ?_
 simp only [p3, p4]
 refine ov 47 (.pointer (some ⟨b3, 0, none⟩)) ?_
 simp only [p3, p4]
 refine ow 48 (.agg #[(.int .i64 (m1)), (.int .i64 (m2)), (.int .i64 (m3))]) rfl (fun w' hS => (rl 45 0 [(.int .i64 (m1)), (.int .i64 (m2)), (.int .i64 (m3))] hS)) ?_
 simp only [p3, p4]
 refine ov 50 (.pointer (some ⟨b3, 3, none⟩)) ?_
 simp only [p3, p4]
 refine ow 51 (.agg #[(.int .i64 (l1)), (.int .i64 (l2)), (.int .i64 (l3))]) rfl (fun w' hS => (rl 45 3 [(.int .i64 (l1)), (.int .i64 (l2)), (.int .i64 (l3))] hS)) ?_
 simp only [p3, p4]
 refine ov 53 (.pointer (some ⟨b3, 6, none⟩)) ?_
 simp only [p3, p4]
 refine ow 54 (.agg #[(.int .i64 (n1)), (.int .i64 (n2)), (.int .i64 (n3))]) rfl (fun w' hS => (rl 45 6 [(.int .i64 (n1)), (.int .i64 (n2)), (.int .i64 (n3))] hS)) ?_
 simp only [p3, p4]
 refine oe ?_
 refine ec 40 (vof_v (m1) (m2) (m3) (by omega) (by omega) (by omega) _) ?_
 rintro e167 w167 ⟨⟨t167_0, t167_1, t167_2, t167_3, t167_4, t167_5, t167_6, t167_7, t167_8, t167_9, t167_10, t167_11, rfl, h167a, h167b, h167c⟩, g167⟩
 refine ⟨_, rfl, ?_⟩
 replace hB := hB.trans g167
 replace L3 := L3.gr g167
 refine ⟨L3, ?_⟩
 simp only [p3, p4]
 refine oe ?_
 refine ec 43 (vof_v (l1) (l2) (l3) (by omega) (by omega) (by omega) _) ?_
 rintro e169 w169 ⟨⟨t169_0, t169_1, t169_2, t169_3, t169_4, t169_5, t169_6, t169_7, t169_8, t169_9, t169_10, t169_11, rfl, h169a, h169b, h169c⟩, g169⟩
 refine ⟨_, rfl, ?_⟩
 replace hB := hB.trans g169
 replace L3 := L3.gr g169
 refine ⟨L3, ?_⟩
 simp only [p3, p4]
 refine oe ?_
 refine ec 46 (vof_v (n1) (n2) (n3) (by omega) (by omega) (by omega) _) ?_
 rintro e171 w171 ⟨⟨t171_0, t171_1, t171_2, t171_3, t171_4, t171_5, t171_6, t171_7, t171_8, t171_9, t171_10, t171_11, rfl, h171a, h171b, h171c⟩, g171⟩
 refine ⟨_, rfl, ?_⟩
 replace hB := hB.trans g171
 replace L3 := L3.gr g171
 refine ⟨L3, ?_⟩
 simp only [p3, p4]
 refine oe ?_
 refine ec 49 (r3_of (m1) (m2) (m3) (by omega) (by omega) (by omega) _) ?_
 rintro e173 w173 ⟨rfl, g173⟩
 refine ⟨_, rfl, ?_⟩
 replace hB := hB.trans g173
 replace L3 := L3.gr g173
 refine ⟨L3, ?_⟩
 simp only [p3, p4]
 refine oe ?_
 refine ec 52 (r3_of (l1) (l2) (l3) (by omega) (by omega) (by omega) _) ?_
 rintro e175 w175 ⟨rfl, g175⟩
 refine ⟨_, rfl, ?_⟩
 replace hB := hB.trans g175
 replace L3 := L3.gr g175
 refine ⟨L3, ?_⟩
 simp only [p3, p4]
 refine oe ?_
 refine ec 55 (r3_of (n1) (n2) (n3) (by omega) (by omega) (by omega) _) ?_
 rintro e177 w177 ⟨rfl, g177⟩
 refine ⟨_, rfl, ?_⟩
 replace hB := hB.trans g177
 replace L3 := L3.gr g177
 refine ⟨L3, ?_⟩
 simp only [p3, p4]
 refine oe ?_
 replace L120 := (st137.lc (st135.lc (st133.lc (st131.lc (st129.lc L120 ne120_121) ne120_122) ne120_123) ne120_124) ne120_125).gr (gd165.trans (g167.trans (g169.trans (g171.trans (g173.trans (g175.trans g177))))))
 refine es 32 0 (.agg #[t167_0, t167_1, t167_2, t167_3, t167_4, t167_5, t167_6, t167_7, t167_8, t167_9, t167_10, t167_11]) [t167_0, t167_1, t167_2, t167_3, t167_4, t167_5, t167_6, t167_7, t167_8, t167_9, t167_10, t167_11] #[t167_0, t167_1, t167_2, t167_3, t167_4, t167_5, t167_6, t167_7, t167_8, t167_9, t167_10, t167_11] L120 hB q120 ⟨h167a.one0, h167a.one1, h167a.one2, h167a.one3, h167b.one0, h167b.one1, h167b.one2, h167b.one3, h167c.one0, h167c.one1, h167c.one2, h167c.one3, trivial⟩ fun w179 st179 kp179 L120 hB => ?_
 replace L3 := st179.lc L3 ne3_120
 refine ⟨L3, ?_⟩
 refine oe ?_
 replace L121 := st179.lc ((st137.lc (st135.lc (st133.lc (st131.lc L121 ne121_122) ne121_123) ne121_124) ne121_125).gr (gd165.trans (g167.trans (g169.trans (g171.trans (g173.trans (g175.trans g177))))))) (Ne.symm ne120_121)
 refine es 32 0 (.agg #[t169_0, t169_1, t169_2, t169_3, t169_4, t169_5, t169_6, t169_7, t169_8, t169_9, t169_10, t169_11]) [t169_0, t169_1, t169_2, t169_3, t169_4, t169_5, t169_6, t169_7, t169_8, t169_9, t169_10, t169_11] #[t169_0, t169_1, t169_2, t169_3, t169_4, t169_5, t169_6, t169_7, t169_8, t169_9, t169_10, t169_11] L121 hB q121 ⟨h169a.one0, h169a.one1, h169a.one2, h169a.one3, h169b.one0, h169b.one1, h169b.one2, h169b.one3, h169c.one0, h169c.one1, h169c.one2, h169c.one3, trivial⟩ fun w181 st181 kp181 L121 hB => ?_
 replace L3 := st181.lc L3 ne3_121
 refine ⟨L3, ?_⟩
 refine oe ?_
 replace L122 := st181.lc (st179.lc ((st137.lc (st135.lc (st133.lc L122 ne122_123) ne122_124) ne122_125).gr (gd165.trans (g167.trans (g169.trans (g171.trans (g173.trans (g175.trans g177))))))) (Ne.symm ne120_122)) (Ne.symm ne121_122)
 refine es 32 0 (.agg #[t171_0, t171_1, t171_2, t171_3, t171_4, t171_5, t171_6, t171_7, t171_8, t171_9, t171_10, t171_11]) [t171_0, t171_1, t171_2, t171_3, t171_4, t171_5, t171_6, t171_7, t171_8, t171_9, t171_10, t171_11] #[t171_0, t171_1, t171_2, t171_3, t171_4, t171_5, t171_6, t171_7, t171_8, t171_9, t171_10, t171_11] L122 hB q122 ⟨h171a.one0, h171a.one1, h171a.one2, h171a.one3, h171b.one0, h171b.one1, h171b.one2, h171b.one3, h171c.one0, h171c.one1, h171c.one2, h171c.one3, trivial⟩ fun w183 st183 kp183 L122 hB => ?_
 replace L3 := st183.lc L3 ne3_122
 refine ⟨L3, ?_⟩
 refine oe ?_
 replace L123 := st183.lc (st181.lc (st179.lc ((st137.lc (st135.lc L123 ne123_124) ne123_125).gr (gd165.trans (g167.trans (g169.trans (g171.trans (g173.trans (g175.trans g177))))))) (Ne.symm ne120_123)) (Ne.symm ne121_123)) (Ne.symm ne122_123)
 refine es 49 0 (.agg #[(.string ⟨(ratL (((m1 : Int) : Rat)) : List UInt8).toArray⟩), (.string ⟨(ratL (((m2 : Int) : Rat)) : List UInt8).toArray⟩), (.string ⟨(ratL (((m3 : Int) : Rat)) : List UInt8).toArray⟩)]) [(.string ⟨(ratL (((m1 : Int) : Rat)) : List UInt8).toArray⟩), (.string ⟨(ratL (((m2 : Int) : Rat)) : List UInt8).toArray⟩), (.string ⟨(ratL (((m3 : Int) : Rat)) : List UInt8).toArray⟩)] #[(.string ⟨(ratL (((m1 : Int) : Rat)) : List UInt8).toArray⟩), (.string ⟨(ratL (((m2 : Int) : Rat)) : List UInt8).toArray⟩), (.string ⟨(ratL (((m3 : Int) : Rat)) : List UInt8).toArray⟩)] L123 hB q123 ⟨rfl, rfl, rfl, trivial⟩ fun w185 st185 kp185 L123 hB => ?_
 replace L3 := st185.lc L3 ne3_123
 refine ⟨L3, ?_⟩
 refine oe ?_
 replace L124 := st185.lc (st183.lc (st181.lc (st179.lc ((st137.lc L124 ne124_125).gr (gd165.trans (g167.trans (g169.trans (g171.trans (g173.trans (g175.trans g177))))))) (Ne.symm ne120_124)) (Ne.symm ne121_124)) (Ne.symm ne122_124)) (Ne.symm ne123_124)
 refine es 49 0 (.agg #[(.string ⟨(ratL (((l1 : Int) : Rat)) : List UInt8).toArray⟩), (.string ⟨(ratL (((l2 : Int) : Rat)) : List UInt8).toArray⟩), (.string ⟨(ratL (((l3 : Int) : Rat)) : List UInt8).toArray⟩)]) [(.string ⟨(ratL (((l1 : Int) : Rat)) : List UInt8).toArray⟩), (.string ⟨(ratL (((l2 : Int) : Rat)) : List UInt8).toArray⟩), (.string ⟨(ratL (((l3 : Int) : Rat)) : List UInt8).toArray⟩)] #[(.string ⟨(ratL (((l1 : Int) : Rat)) : List UInt8).toArray⟩), (.string ⟨(ratL (((l2 : Int) : Rat)) : List UInt8).toArray⟩), (.string ⟨(ratL (((l3 : Int) : Rat)) : List UInt8).toArray⟩)] L124 hB q124 ⟨rfl, rfl, rfl, trivial⟩ fun w187 st187 kp187 L124 hB => ?_
 replace L3 := st187.lc L3 ne3_124
 refine ⟨L3, ?_⟩
 refine oe ?_
 replace L125 := st187.lc (st185.lc (st183.lc (st181.lc (st179.lc (L125.gr (gd165.trans (g167.trans (g169.trans (g171.trans (g173.trans (g175.trans g177))))))) (Ne.symm ne120_125)) (Ne.symm ne121_125)) (Ne.symm ne122_125)) (Ne.symm ne123_125)) (Ne.symm ne124_125)
 refine es 49 0 (.agg #[(.string ⟨(ratL (((n1 : Int) : Rat)) : List UInt8).toArray⟩), (.string ⟨(ratL (((n2 : Int) : Rat)) : List UInt8).toArray⟩), (.string ⟨(ratL (((n3 : Int) : Rat)) : List UInt8).toArray⟩)]) [(.string ⟨(ratL (((n1 : Int) : Rat)) : List UInt8).toArray⟩), (.string ⟨(ratL (((n2 : Int) : Rat)) : List UInt8).toArray⟩), (.string ⟨(ratL (((n3 : Int) : Rat)) : List UInt8).toArray⟩)] #[(.string ⟨(ratL (((n1 : Int) : Rat)) : List UInt8).toArray⟩), (.string ⟨(ratL (((n2 : Int) : Rat)) : List UInt8).toArray⟩), (.string ⟨(ratL (((n3 : Int) : Rat)) : List UInt8).toArray⟩)] L125 hB q125 ⟨rfl, rfl, rfl, trivial⟩ fun w189 st189 kp189 L125 hB => ?_
 replace L3 := st189.lc L3 ne3_125
 refine ⟨L3, ?_⟩
 refine ord_nil ?_
 refine k138 _ _ ?_
 try clear k138 K138
 refine wp_seq_k (fun K190 k190 => ?_)
 have gd218 := Gr.drew w189
 replace hB := hB.trans gd218
 replace L120 := (st189.lc (st187.lc (st185.lc (st183.lc (st181.lc L120 ne120_121) ne120_122) ne120_123) ne120_124) ne120_125).gr gd218
 replace L121 := (st189.lc (st187.lc (st185.lc (st183.lc L121 ne121_122) ne121_123) ne121_124) ne121_125).gr gd218
 replace L122 := (st189.lc (st187.lc (st185.lc L122 ne122_123) ne122_124) ne122_125).gr gd218
 replace L123 := (st189.lc (st187.lc L123 ne123_124) ne123_125).gr gd218
 replace L124 := (st189.lc L124 ne124_125).gr gd218
 replace L125 := L125.gr gd218
 refine wp_region_ord (fun w' => Lc w' b120 #[t167_0, t167_1, t167_2, t167_3, t167_4, t167_5, t167_6, t167_7, t167_8, t167_9, t167_10, t167_11] 32 ∧ Lc w' b121 #[t169_0, t169_1, t169_2, t169_3, t169_4, t169_5, t169_6, t169_7, t169_8, t169_9, t169_10, t169_11] 32 ∧ Lc w' b122 #[t171_0, t171_1, t171_2, t171_3, t171_4, t171_5, t171_6, t171_7, t171_8, t171_9, t171_10, t171_11] 32 ∧ Lc w' b123 #[(.string ⟨(ratL (((m1 : Int) : Rat)) : List UInt8).toArray⟩), (.string ⟨(ratL (((m2 : Int) : Rat)) : List UInt8).toArray⟩), (.string ⟨(ratL (((m3 : Int) : Rat)) : List UInt8).toArray⟩)] 49 ∧ Lc w' b124 #[(.string ⟨(ratL (((l1 : Int) : Rat)) : List UInt8).toArray⟩), (.string ⟨(ratL (((l2 : Int) : Rat)) : List UInt8).toArray⟩), (.string ⟨(ratL (((l3 : Int) : Rat)) : List UInt8).toArray⟩)] 49 ∧ Lc w' b125 #[(.string ⟨(ratL (((n1 : Int) : Rat)) : List UInt8).toArray⟩), (.string ⟨(ratL (((n2 : Int) : Rat)) : List UInt8).toArray⟩), (.string ⟨(ratL (((n3 : Int) : Rat)) : List UInt8).toArray⟩)] 49) [(true, 0), (true, 1), (true, 4), (true, 5), (false, 2), (false, 3), (false, 6), (true, 7), (true, 8), (true, 9), (true, 10), (true, 12), (true, 13), (false, 11), (false, 14), (false, 15), (true, 16), (true, 17), (true, 18), (true, 19), (true, 20), (true, 21), (true, 24), (true, 25), (true, 26), (false, 22), (false, 23), (false, 27), (true, 28), (true, 29)] (by kernel_rfl) (by kernel_rfl) (by kernel_rfl) (by decide) (fun _ _ _ _ _ h => h) ⟨L120, L121, L122, L123, L124, L125⟩ ?_
 refine ow 56 (.agg #[t167_0, t167_1, t167_2, t167_3, t167_4, t167_5, t167_6, t167_7, t167_8, t167_9, t167_10, t167_11]) rfl (fun w' hS => (rl 32 0 [t167_0, t167_1, t167_2, t167_3, t167_4, t167_5, t167_6, t167_7, t167_8, t167_9, t167_10, t167_11] hS.1)) ?_
 simp only [p3, p4]
 refine ow 57 (.agg #[t169_0, t169_1, t169_2, t169_3, t169_4, t169_5, t169_6, t169_7, t169_8, t169_9, t169_10, t169_11]) rfl (fun w' hS => (rl 32 0 [t169_0, t169_1, t169_2, t169_3, t169_4, t169_5, t169_6, t169_7, t169_8, t169_9, t169_10, t169_11] hS.2.1)) ?_
 simp only [p3, p4]
 refine ow 60 (.agg #[(.string ⟨(ratL (((m1 : Int) : Rat)) : List UInt8).toArray⟩), (.string ⟨(ratL (((m2 : Int) : Rat)) : List UInt8).toArray⟩), (.string ⟨(ratL (((m3 : Int) : Rat)) : List UInt8).toArray⟩)]) rfl (fun w' hS => (rl 49 0 [(.string ⟨(ratL (((m1 : Int) : Rat)) : List UInt8).toArray⟩), (.string ⟨(ratL (((m2 : Int) : Rat)) : List UInt8).toArray⟩), (.string ⟨(ratL (((m3 : Int) : Rat)) : List UInt8).toArray⟩)] hS.2.2.2.1)) ?_
 simp only [p3, p4]
 refine ow 61 (.agg #[(.string ⟨(ratL (((l1 : Int) : Rat)) : List UInt8).toArray⟩), (.string ⟨(ratL (((l2 : Int) : Rat)) : List UInt8).toArray⟩), (.string ⟨(ratL (((l3 : Int) : Rat)) : List UInt8).toArray⟩)]) rfl (fun w' hS => (rl 49 0 [(.string ⟨(ratL (((l1 : Int) : Rat)) : List UInt8).toArray⟩), (.string ⟨(ratL (((l2 : Int) : Rat)) : List UInt8).toArray⟩), (.string ⟨(ratL (((l3 : Int) : Rat)) : List UInt8).toArray⟩)] hS.2.2.2.2.1)) ?_
 simp only [p3, p4]
 refine oe ?_
 have kq221 := g169.kp.trans (g171.kp.trans (g173.kp.trans (g175.kp.trans (g177.kp.trans (kp179.trans (kp181.trans (kp183.trans (kp185.trans (kp187.trans (kp189.trans gd218.kp))))))))))
 replace h167a := h167a.kp kq221
 replace h167b := h167b.kp kq221
 replace h167c := h167c.kp kq221
 have kq222 := g171.kp.trans (g173.kp.trans (g175.kp.trans (g177.kp.trans (kp179.trans (kp181.trans (kp183.trans (kp185.trans (kp187.trans (kp189.trans gd218.kp)))))))))
 replace h169a := h169a.kp kq222
 replace h169b := h169b.kp kq222
 replace h169c := h169c.kp kq222
 refine ec 58 (dot_v h167a h167b h167c h169a h169b h169c (by omega)) ?_
 rintro e220 w220 ⟨⟨p220, q220, r220, s220, rfl, h220⟩, g220⟩
 refine ⟨_, rfl, ?_⟩
 replace hB := hB.trans g220
 replace L120 := L120.gr g220
 replace L121 := L121.gr g220
 replace L122 := L122.gr g220
 replace L123 := L123.gr g220
 replace L124 := L124.gr g220
 replace L125 := L125.gr g220
 refine ⟨⟨L120, L121, L122, L123, L124, L125⟩, ?_⟩
 simp only [p3, p4]
 refine oe ?_
 refine ec 59 (number_r h220 (by omega) (ht.gr hB)) ?_
 rintro e224 w224 ⟨rfl, g224⟩
 refine ⟨_, rfl, ?_⟩
 replace hB := hB.trans g224
 replace L120 := L120.gr g224
 replace L121 := L121.gr g224
 replace L122 := L122.gr g224
 replace L123 := L123.gr g224
 replace L124 := L124.gr g224
 replace L125 := L125.gr g224
 refine ⟨⟨L120, L121, L122, L123, L124, L125⟩, ?_⟩
 simp only [p3, p4]
 refine oe ?_
 refine ec 62 (r3_dot (((m1 : Int) : Rat)) (((m2 : Int) : Rat)) (((m3 : Int) : Rat)) (rs_i64 (n := m1) (by omega)) (rs_i64 (n := m2) (by omega)) (rs_i64 (n := m3) (by omega)) (((l1 : Int) : Rat)) (((l2 : Int) : Rat)) (((l3 : Int) : Rat)) (rs_i64 (n := l1) (by omega)) (rs_i64 (n := l2) (by omega)) (rs_i64 (n := l3) (by omega)) (by omega) _) ?_
 rintro e226 w226 ⟨rfl, g226⟩
 refine ⟨_, rfl, ?_⟩
 replace hB := hB.trans g226
 replace L120 := L120.gr g226
 replace L121 := L121.gr g226
 replace L122 := L122.gr g226
 replace L123 := L123.gr g226
 replace L124 := L124.gr g226
 replace L125 := L125.gr g226
 refine ⟨⟨L120, L121, L122, L123, L124, L125⟩, ?_⟩
 simp only [p3, p4]
 have hb227 : (((ratL ((0 + (((m1 : Int) : Rat)) * (((l1 : Int) : Rat)) + (((m2 : Int) : Rat)) * (((l2 : Int) : Rat)) + (((m3 : Int) : Rat)) * (((l3 : Int) : Rat))))) != (ratL ((((m1 : Int) : Rat)) * (((l1 : Int) : Rat)) + (((m2 : Int) : Rat)) * (((l2 : Int) : Rat)) + (((m3 : Int) : Rat)) * (((l3 : Int) : Rat)))))) = false := (lawVp3 ((m1 : Int) : Rat) ((m2 : Int) : Rat) ((m3 : Int) : Rat) ((l1 : Int) : Rat) ((l2 : Int) : Rat) ((l3 : Int) : Rat) )
 refine ow 63 (.bool false) rfl (fun w' hS => (RunV.bool (x := ((ratL ((0 + (((m1 : Int) : Rat)) * (((l1 : Int) : Rat)) + (((m2 : Int) : Rat)) * (((l2 : Int) : Rat)) + (((m3 : Int) : Rat)) * (((l3 : Int) : Rat))))) != (ratL ((((m1 : Int) : Rat)) * (((l1 : Int) : Rat)) + (((m2 : Int) : Rat)) * (((l2 : Int) : Rat)) + (((m3 : Int) : Rat)) * (((l3 : Int) : Rat)))))) (rv_sne 9 9 _ _ (ratL ((0 + (((m1 : Int) : Rat)) * (((l1 : Int) : Rat)) + (((m2 : Int) : Rat)) * (((l2 : Int) : Rat)) + (((m3 : Int) : Rat)) * (((l3 : Int) : Rat))))) (ratL ((((m1 : Int) : Rat)) * (((l1 : Int) : Rat)) + (((m2 : Int) : Rat)) * (((l2 : Int) : Rat)) + (((m3 : Int) : Rat)) * (((l3 : Int) : Rat)))) rfl rfl rfl) hb227)) ?_
 simp only [p3, p4]
 refine ov 64 (.bool false) ?_
 simp only [p3, p4]
 refine ow 65 (.agg #[t167_0, t167_1, t167_2, t167_3, t167_4, t167_5, t167_6, t167_7, t167_8, t167_9, t167_10, t167_11]) rfl (fun w' hS => (rl 32 0 [t167_0, t167_1, t167_2, t167_3, t167_4, t167_5, t167_6, t167_7, t167_8, t167_9, t167_10, t167_11] hS.1)) ?_
 simp only [p3, p4]
 refine ow 66 (.agg #[t169_0, t169_1, t169_2, t169_3, t169_4, t169_5, t169_6, t169_7, t169_8, t169_9, t169_10, t169_11]) rfl (fun w' hS => (rl 32 0 [t169_0, t169_1, t169_2, t169_3, t169_4, t169_5, t169_6, t169_7, t169_8, t169_9, t169_10, t169_11] hS.2.1)) ?_
 simp only [p3, p4]
 refine ow 68 (.agg #[(.string ⟨(ratL (((m1 : Int) : Rat)) : List UInt8).toArray⟩), (.string ⟨(ratL (((m2 : Int) : Rat)) : List UInt8).toArray⟩), (.string ⟨(ratL (((m3 : Int) : Rat)) : List UInt8).toArray⟩)]) rfl (fun w' hS => (rl 49 0 [(.string ⟨(ratL (((m1 : Int) : Rat)) : List UInt8).toArray⟩), (.string ⟨(ratL (((m2 : Int) : Rat)) : List UInt8).toArray⟩), (.string ⟨(ratL (((m3 : Int) : Rat)) : List UInt8).toArray⟩)] hS.2.2.2.1)) ?_
 simp only [p3, p4]
 refine ow 69 (.agg #[(.string ⟨(ratL (((l1 : Int) : Rat)) : List UInt8).toArray⟩), (.string ⟨(ratL (((l2 : Int) : Rat)) : List UInt8).toArray⟩), (.string ⟨(ratL (((l3 : Int) : Rat)) : List UInt8).toArray⟩)]) rfl (fun w' hS => (rl 49 0 [(.string ⟨(ratL (((l1 : Int) : Rat)) : List UInt8).toArray⟩), (.string ⟨(ratL (((l2 : Int) : Rat)) : List UInt8).toArray⟩), (.string ⟨(ratL (((l3 : Int) : Rat)) : List UInt8).toArray⟩)] hS.2.2.2.2.1)) ?_
 simp only [p3, p4]
 refine oe ?_
 have kq230 := g220.kp.trans (g224.kp.trans g226.kp)
 replace h167a := h167a.kp kq230
 replace h167b := h167b.kp kq230
 replace h167c := h167c.kp kq230
 replace h169a := h169a.kp kq230
 replace h169b := h169b.kp kq230
 replace h169c := h169c.kp kq230
 refine ec 67 (cross_v h167a h167b h167c h169a h169b h169c (by omega)) ?_
 rintro e229 w229 ⟨⟨t229_0, t229_1, t229_2, t229_3, t229_4, t229_5, t229_6, t229_7, t229_8, t229_9, t229_10, t229_11, rfl, h229a, h229b, h229c⟩, g229⟩
 refine ⟨_, rfl, ?_⟩
 replace hB := hB.trans g229
 replace L120 := L120.gr g229
 replace L121 := L121.gr g229
 replace L122 := L122.gr g229
 replace L123 := L123.gr g229
 replace L124 := L124.gr g229
 replace L125 := L125.gr g229
 refine ⟨⟨L120, L121, L122, L123, L124, L125⟩, ?_⟩
 simp only [p3, p4]
 refine oe ?_
 refine ec 70 (r3_cross (((m1 : Int) : Rat)) (((m2 : Int) : Rat)) (((m3 : Int) : Rat)) (rs_i64 (n := m1) (by omega)) (rs_i64 (n := m2) (by omega)) (rs_i64 (n := m3) (by omega)) (((l1 : Int) : Rat)) (((l2 : Int) : Rat)) (((l3 : Int) : Rat)) (rs_i64 (n := l1) (by omega)) (rs_i64 (n := l2) (by omega)) (rs_i64 (n := l3) (by omega)) (by omega) _) ?_
 rintro e232 w232 ⟨rfl, g232⟩
 refine ⟨_, rfl, ?_⟩
 replace hB := hB.trans g232
 replace L120 := L120.gr g232
 replace L121 := L121.gr g232
 replace L122 := L122.gr g232
 replace L123 := L123.gr g232
 replace L124 := L124.gr g232
 replace L125 := L125.gr g232
 refine ⟨⟨L120, L121, L122, L123, L124, L125⟩, ?_⟩
 simp only [p3, p4]
 refine oe ?_
 replace h229a := h229a.kp g232.kp
 replace h229b := h229b.kp g232.kp
 replace h229c := h229c.kp g232.kp
 refine ec 71 (is_v (ratL ((((m2 : Int) : Rat)) * (((l3 : Int) : Rat)) - (((m3 : Int) : Rat)) * (((l2 : Int) : Rat)))) (ratL ((((m3 : Int) : Rat)) * (((l1 : Int) : Rat)) - (((m1 : Int) : Rat)) * (((l3 : Int) : Rat)))) (ratL ((((m1 : Int) : Rat)) * (((l2 : Int) : Rat)) - (((m2 : Int) : Rat)) * (((l1 : Int) : Rat)))) h229a h229b h229c (by omega) (ht.gr hB)) ?_
 rintro e234 w234 ⟨rfl, g234⟩
 refine ⟨_, rfl, ?_⟩
 replace hB := hB.trans g234
 replace L120 := L120.gr g234
 replace L121 := L121.gr g234
 replace L122 := L122.gr g234
 replace L123 := L123.gr g234
 replace L124 := L124.gr g234
 replace L125 := L125.gr g234
 refine ⟨⟨L120, L121, L122, L123, L124, L125⟩, ?_⟩
 simp only [p3, p4]
 have hb235 : (sEq [ratL (((((m2 : Int) : Rat)) * (((l3 : Int) : Rat)) - (((m3 : Int) : Rat)) * (((l2 : Int) : Rat)))), ratL (((((m3 : Int) : Rat)) * (((l1 : Int) : Rat)) - (((m1 : Int) : Rat)) * (((l3 : Int) : Rat)))), ratL (((((m1 : Int) : Rat)) * (((l2 : Int) : Rat)) - (((m2 : Int) : Rat)) * (((l1 : Int) : Rat))))] [ratL ((((m2 : Int) : Rat)) * (((l3 : Int) : Rat)) - (((m3 : Int) : Rat)) * (((l2 : Int) : Rat))), ratL ((((m3 : Int) : Rat)) * (((l1 : Int) : Rat)) - (((m1 : Int) : Rat)) * (((l3 : Int) : Rat))), ratL ((((m1 : Int) : Rat)) * (((l2 : Int) : Rat)) - (((m2 : Int) : Rat)) * (((l1 : Int) : Rat)))]) = true := (lawVp4 ((m1 : Int) : Rat) ((m2 : Int) : Rat) ((m3 : Int) : Rat) ((l1 : Int) : Rat) ((l2 : Int) : Rat) ((l3 : Int) : Rat) )
 refine ow 72 (.bool false) rfl (fun w' hS => (RunV.bool (x := !(sEq [ratL (((((m2 : Int) : Rat)) * (((l3 : Int) : Rat)) - (((m3 : Int) : Rat)) * (((l2 : Int) : Rat)))), ratL (((((m3 : Int) : Rat)) * (((l1 : Int) : Rat)) - (((m1 : Int) : Rat)) * (((l3 : Int) : Rat)))), ratL (((((m1 : Int) : Rat)) * (((l2 : Int) : Rat)) - (((m2 : Int) : Rat)) * (((l1 : Int) : Rat))))] [ratL ((((m2 : Int) : Rat)) * (((l3 : Int) : Rat)) - (((m3 : Int) : Rat)) * (((l2 : Int) : Rat))), ratL ((((m3 : Int) : Rat)) * (((l1 : Int) : Rat)) - (((m1 : Int) : Rat)) * (((l3 : Int) : Rat))), ratL ((((m1 : Int) : Rat)) * (((l2 : Int) : Rat)) - (((m2 : Int) : Rat)) * (((l1 : Int) : Rat)))])) (rvk (by kernel_rfl)) (show (!(sEq [ratL (((((m2 : Int) : Rat)) * (((l3 : Int) : Rat)) - (((m3 : Int) : Rat)) * (((l2 : Int) : Rat)))), ratL (((((m3 : Int) : Rat)) * (((l1 : Int) : Rat)) - (((m1 : Int) : Rat)) * (((l3 : Int) : Rat)))), ratL (((((m1 : Int) : Rat)) * (((l2 : Int) : Rat)) - (((m2 : Int) : Rat)) * (((l1 : Int) : Rat))))] [ratL ((((m2 : Int) : Rat)) * (((l3 : Int) : Rat)) - (((m3 : Int) : Rat)) * (((l2 : Int) : Rat))), ratL ((((m3 : Int) : Rat)) * (((l1 : Int) : Rat)) - (((m1 : Int) : Rat)) * (((l3 : Int) : Rat))), ratL ((((m1 : Int) : Rat)) * (((l2 : Int) : Rat)) - (((m2 : Int) : Rat)) * (((l1 : Int) : Rat)))])) = false by rw [hb235]; rfl))) ?_
 simp only [p3, p4]
 refine ov 73 (.bool false) ?_
 simp only [p3, p4]
 refine ov 74 (.bool false) ?_
 simp only [p3, p4]
 refine ow 75 (.agg #[t167_0, t167_1, t167_2, t167_3, t167_4, t167_5, t167_6, t167_7, t167_8, t167_9, t167_10, t167_11]) rfl (fun w' hS => (rl 32 0 [t167_0, t167_1, t167_2, t167_3, t167_4, t167_5, t167_6, t167_7, t167_8, t167_9, t167_10, t167_11] hS.1)) ?_
 simp only [p3, p4]
 refine ow 76 (.agg #[t169_0, t169_1, t169_2, t169_3, t169_4, t169_5, t169_6, t169_7, t169_8, t169_9, t169_10, t169_11]) rfl (fun w' hS => (rl 32 0 [t169_0, t169_1, t169_2, t169_3, t169_4, t169_5, t169_6, t169_7, t169_8, t169_9, t169_10, t169_11] hS.2.1)) ?_
 simp only [p3, p4]
 refine ow 77 (.agg #[t171_0, t171_1, t171_2, t171_3, t171_4, t171_5, t171_6, t171_7, t171_8, t171_9, t171_10, t171_11]) rfl (fun w' hS => (rl 32 0 [t171_0, t171_1, t171_2, t171_3, t171_4, t171_5, t171_6, t171_7, t171_8, t171_9, t171_10, t171_11] hS.2.2.1)) ?_
 simp only [p3, p4]
 refine ow 80 (.agg #[(.string ⟨(ratL (((m1 : Int) : Rat)) : List UInt8).toArray⟩), (.string ⟨(ratL (((m2 : Int) : Rat)) : List UInt8).toArray⟩), (.string ⟨(ratL (((m3 : Int) : Rat)) : List UInt8).toArray⟩)]) rfl (fun w' hS => (rl 49 0 [(.string ⟨(ratL (((m1 : Int) : Rat)) : List UInt8).toArray⟩), (.string ⟨(ratL (((m2 : Int) : Rat)) : List UInt8).toArray⟩), (.string ⟨(ratL (((m3 : Int) : Rat)) : List UInt8).toArray⟩)] hS.2.2.2.1)) ?_
 simp only [p3, p4]
 refine ow 81 (.agg #[(.string ⟨(ratL (((l1 : Int) : Rat)) : List UInt8).toArray⟩), (.string ⟨(ratL (((l2 : Int) : Rat)) : List UInt8).toArray⟩), (.string ⟨(ratL (((l3 : Int) : Rat)) : List UInt8).toArray⟩)]) rfl (fun w' hS => (rl 49 0 [(.string ⟨(ratL (((l1 : Int) : Rat)) : List UInt8).toArray⟩), (.string ⟨(ratL (((l2 : Int) : Rat)) : List UInt8).toArray⟩), (.string ⟨(ratL (((l3 : Int) : Rat)) : List UInt8).toArray⟩)] hS.2.2.2.2.1)) ?_
 simp only [p3, p4]
 refine ow 82 (.agg #[(.string ⟨(ratL (((n1 : Int) : Rat)) : List UInt8).toArray⟩), (.string ⟨(ratL (((n2 : Int) : Rat)) : List UInt8).toArray⟩), (.string ⟨(ratL (((n3 : Int) : Rat)) : List UInt8).toArray⟩)]) rfl (fun w' hS => (rl 49 0 [(.string ⟨(ratL (((n1 : Int) : Rat)) : List UInt8).toArray⟩), (.string ⟨(ratL (((n2 : Int) : Rat)) : List UInt8).toArray⟩), (.string ⟨(ratL (((n3 : Int) : Rat)) : List UInt8).toArray⟩)] hS.2.2.2.2.2)) ?_
 simp only [p3, p4]
 refine oe ?_
 have kq238 := g229.kp.trans (g232.kp.trans g234.kp)
 replace h167a := h167a.kp kq238
 replace h167b := h167b.kp kq238
 replace h167c := h167c.kp kq238
 replace h169a := h169a.kp kq238
 replace h169b := h169b.kp kq238
 replace h169c := h169c.kp kq238
 have kq239 := g173.kp.trans (g175.kp.trans (g177.kp.trans (kp179.trans (kp181.trans (kp183.trans (kp185.trans (kp187.trans (kp189.trans (gd218.kp.trans (g220.kp.trans (g224.kp.trans (g226.kp.trans (g229.kp.trans (g232.kp.trans g234.kp))))))))))))))
 replace h171a := h171a.kp kq239
 replace h171b := h171b.kp kq239
 replace h171c := h171c.kp kq239
 refine ec 78 (vdet_v h167a h167b h167c h169a h169b h169c h171a h171b h171c (by omega)) ?_
 rintro e237 w237 ⟨⟨p237, q237, r237, s237, rfl, h237⟩, g237⟩
 refine ⟨_, rfl, ?_⟩
 replace hB := hB.trans g237
 replace L120 := L120.gr g237
 replace L121 := L121.gr g237
 replace L122 := L122.gr g237
 replace L123 := L123.gr g237
 replace L124 := L124.gr g237
 replace L125 := L125.gr g237
 refine ⟨⟨L120, L121, L122, L123, L124, L125⟩, ?_⟩
 simp only [p3, p4]
 refine oe ?_
 refine ec 79 (number_r h237 (by omega) (ht.gr hB)) ?_
 rintro e241 w241 ⟨rfl, g241⟩
 refine ⟨_, rfl, ?_⟩
 replace hB := hB.trans g241
 replace L120 := L120.gr g241
 replace L121 := L121.gr g241
 replace L122 := L122.gr g241
 replace L123 := L123.gr g241
 replace L124 := L124.gr g241
 replace L125 := L125.gr g241
 refine ⟨⟨L120, L121, L122, L123, L124, L125⟩, ?_⟩
 simp only [p3, p4]
 refine oe ?_
 refine ec 83 (r3_det (((m1 : Int) : Rat)) (((m2 : Int) : Rat)) (((m3 : Int) : Rat)) (rs_i64 (n := m1) (by omega)) (rs_i64 (n := m2) (by omega)) (rs_i64 (n := m3) (by omega)) (((l1 : Int) : Rat)) (((l2 : Int) : Rat)) (((l3 : Int) : Rat)) (rs_i64 (n := l1) (by omega)) (rs_i64 (n := l2) (by omega)) (rs_i64 (n := l3) (by omega)) (((n1 : Int) : Rat)) (((n2 : Int) : Rat)) (((n3 : Int) : Rat)) (rs_i64 (n := n1) (by omega)) (rs_i64 (n := n2) (by omega)) (rs_i64 (n := n3) (by omega)) (by omega) _) ?_
 rintro e243 w243 ⟨rfl, g243⟩
 refine ⟨_, rfl, ?_⟩
 replace hB := hB.trans g243
 replace L120 := L120.gr g243
 replace L121 := L121.gr g243
 replace L122 := L122.gr g243
 replace L123 := L123.gr g243
 replace L124 := L124.gr g243
 replace L125 := L125.gr g243
 refine ⟨⟨L120, L121, L122, L123, L124, L125⟩, ?_⟩
 simp only [p3, p4]
 have hb244 : (((ratL ((0 + (((m1 : Int) : Rat)) * ((((l2 : Int) : Rat)) * (((n3 : Int) : Rat)) - (((l3 : Int) : Rat)) * (((n2 : Int) : Rat))) + (((m2 : Int) : Rat)) * ((((l3 : Int) : Rat)) * (((n1 : Int) : Rat)) - (((l1 : Int) : Rat)) * (((n3 : Int) : Rat))) + (((m3 : Int) : Rat)) * ((((l1 : Int) : Rat)) * (((n2 : Int) : Rat)) - (((l2 : Int) : Rat)) * (((n1 : Int) : Rat)))))) != (ratL ((((m1 : Int) : Rat)) * ((((l2 : Int) : Rat)) * (((n3 : Int) : Rat)) - (((l3 : Int) : Rat)) * (((n2 : Int) : Rat))) + (((m2 : Int) : Rat)) * ((((l3 : Int) : Rat)) * (((n1 : Int) : Rat)) - (((l1 : Int) : Rat)) * (((n3 : Int) : Rat))) + (((m3 : Int) : Rat)) * ((((l1 : Int) : Rat)) * (((n2 : Int) : Rat)) - (((l2 : Int) : Rat)) * (((n1 : Int) : Rat))))))) = false := (lawVp5 ((m1 : Int) : Rat) ((m2 : Int) : Rat) ((m3 : Int) : Rat) ((l1 : Int) : Rat) ((l2 : Int) : Rat) ((l3 : Int) : Rat) ((n1 : Int) : Rat) ((n2 : Int) : Rat) ((n3 : Int) : Rat) )
 refine ow 84 (.bool false) rfl (fun w' hS => (RunV.bool (x := ((ratL ((0 + (((m1 : Int) : Rat)) * ((((l2 : Int) : Rat)) * (((n3 : Int) : Rat)) - (((l3 : Int) : Rat)) * (((n2 : Int) : Rat))) + (((m2 : Int) : Rat)) * ((((l3 : Int) : Rat)) * (((n1 : Int) : Rat)) - (((l1 : Int) : Rat)) * (((n3 : Int) : Rat))) + (((m3 : Int) : Rat)) * ((((l1 : Int) : Rat)) * (((n2 : Int) : Rat)) - (((l2 : Int) : Rat)) * (((n1 : Int) : Rat)))))) != (ratL ((((m1 : Int) : Rat)) * ((((l2 : Int) : Rat)) * (((n3 : Int) : Rat)) - (((l3 : Int) : Rat)) * (((n2 : Int) : Rat))) + (((m2 : Int) : Rat)) * ((((l3 : Int) : Rat)) * (((n1 : Int) : Rat)) - (((l1 : Int) : Rat)) * (((n3 : Int) : Rat))) + (((m3 : Int) : Rat)) * ((((l1 : Int) : Rat)) * (((n2 : Int) : Rat)) - (((l2 : Int) : Rat)) * (((n1 : Int) : Rat))))))) (rv_sne 9 9 _ _ (ratL ((0 + (((m1 : Int) : Rat)) * ((((l2 : Int) : Rat)) * (((n3 : Int) : Rat)) - (((l3 : Int) : Rat)) * (((n2 : Int) : Rat))) + (((m2 : Int) : Rat)) * ((((l3 : Int) : Rat)) * (((n1 : Int) : Rat)) - (((l1 : Int) : Rat)) * (((n3 : Int) : Rat))) + (((m3 : Int) : Rat)) * ((((l1 : Int) : Rat)) * (((n2 : Int) : Rat)) - (((l2 : Int) : Rat)) * (((n1 : Int) : Rat)))))) (ratL ((((m1 : Int) : Rat)) * ((((l2 : Int) : Rat)) * (((n3 : Int) : Rat)) - (((l3 : Int) : Rat)) * (((n2 : Int) : Rat))) + (((m2 : Int) : Rat)) * ((((l3 : Int) : Rat)) * (((n1 : Int) : Rat)) - (((l1 : Int) : Rat)) * (((n3 : Int) : Rat))) + (((m3 : Int) : Rat)) * ((((l1 : Int) : Rat)) * (((n2 : Int) : Rat)) - (((l2 : Int) : Rat)) * (((n1 : Int) : Rat))))) rfl rfl rfl) hb244)) ?_
 simp only [p3, p4]
 refine ov 85 (.bool false) ?_
 simp only [p3, p4]
 refine ord_nil ?_
 refine k190 _ _ ?_
 try clear k190 K190
 refine wp_cond_false rfl ?_
 refine wp_skip ?_
 refine k104 _ _ ?_
 try clear k104 K104
 refine rg [0, 1, 2] ?_
 refine sv 16 (.int .i64 1) ?_
 simp only [p3, p4]
 refine sv 17 (.int .i64 2) ?_
 simp only [p3, p4]
 refine sv 5 (.int .i64 2) ?_
 simp only [p3, p4]
 refine sq_nil ?_
 show Code.rounds _ _ _ _ _ _
 show Code.wp _ _ _ _ _
 refine wp_seq_k (fun K245 k245 => ?_)
 refine wp_seq_k (fun K246 k246 => ?_)
 refine rg [0, 1] ?_
 refine sv 14 (.int .i64 2) ?_
 simp only [p3, p4]
 refine sv 15 (.bool false) ?_
 simp only [p3, p4]
 refine sq_nil ?_
 refine k246 _ _ ?_
 try clear k246 K246
 refine wp_cond_false rfl ?_
 refine wp_exit ?_
 simp only [Exit.then, Exit.inBlock, ↓reduceIte]
 refine k7 _ _ ?_
 try clear k7 K7
 refine wp_seq_k (fun K247 k247 => ?_)
 refine rg [0] ?_
 refine sv 4 (.bool true) ?_
 simp only [p3, p4]
 refine sq_nil ?_
 refine k247 _ _ ?_
 try clear k247 K247
 refine wp_ret ?_
 refine bodyPost_ret (v := (.bool true)) (ret_tmp rfl rfl) rfl ⟨?_, hB⟩
 exact rfl

theorem vector_products (ia1 ia2 ia3 da : Int) (ja1 : -128 ≤ ia1 ∧ ia1 ≤ 127) (ja2 : -128 ≤ ia2 ∧ ia2 ≤ 127) (ja3 : -128 ≤ ia3 ∧ ia3 ≤ 127) (jda : 0 ≤ da ∧ da ≤ 255) (ic1 ic2 ic3 dc : Int) (jc1 : -128 ≤ ic1 ∧ ic1 ≤ 127) (jc2 : -128 ≤ ic2 ∧ ic2 ≤ 127) (jc3 : -128 ≤ ic3 ∧ ic3 ≤ 127) (jdc : 0 ≤ dc ∧ dc ≤ 255) (if1 if2 if3 df : Int) (jf1 : -128 ≤ if1 ∧ if1 ≤ 127) (jf2 : -128 ≤ if2 ∧ if2 ≤ 127) (jf3 : -128 ≤ if3 ∧ if3 ≤ 127) (jdf : 0 ≤ df ∧ df ≤ 255) (m1 m2 m3 l1 l2 l3 n1 n2 n3 : Int) (jm1 : -9223372036854775808 ≤ m1 ∧ m1 ≤ 9223372036854775807) (jm2 : -9223372036854775808 ≤ m2 ∧ m2 ≤ 9223372036854775807) (jm3 : -9223372036854775808 ≤ m3 ∧ m3 ≤ 9223372036854775807) (jl1 : -9223372036854775808 ≤ l1 ∧ l1 ≤ 9223372036854775807) (jl2 : -9223372036854775808 ≤ l2 ∧ l2 ≤ 9223372036854775807) (jl3 : -9223372036854775808 ≤ l3 ∧ l3 ≤ 9223372036854775807) (jn1 : -9223372036854775808 ≤ n1 ∧ n1 ≤ 9223372036854775807) (jn2 : -9223372036854775808 ≤ n2 ∧ n2 ≤ 9223372036854775807) (jn3 : -9223372036854775808 ≤ n3 ∧ n3 ≤ 9223372036854775807) (w : World) (ht : Tab w) (hm : Mx w) :
    Calls Tryz.prog 4 #[(.agg #[(.int .i8 (ia1)), (.int .i8 (ia2)), (.int .i8 (ia3)), (.int .u8 (da)), (.int .i8 (ic1)), (.int .i8 (ic2)), (.int .i8 (ic3)), (.int .u8 (dc)), (.int .i8 (if1)), (.int .i8 (if2)), (.int .i8 (if3)), (.int .u8 (df))]), (.agg #[(.int .i64 (m1)), (.int .i64 (m2)), (.int .i64 (m3)), (.int .i64 (l1)), (.int .i64 (l2)), (.int .i64 (l3)), (.int .i64 (n1)), (.int .i64 (n2)), (.int .i64 (n3))])] w fun e w' => e = .returned (.bool true) ∧ Gr w w' := by
  obtain ⟨a1, ea1⟩ : ∃ r : Rat, r = ((ia1 : Int) : Rat) / ((1 + da % 6 : Int) : Rat) := ⟨_, rfl⟩
  obtain ⟨a2, ea2⟩ : ∃ r : Rat, r = ((ia2 : Int) : Rat) / ((1 + da % 6 : Int) : Rat) := ⟨_, rfl⟩
  obtain ⟨a3, ea3⟩ : ∃ r : Rat, r = ((ia3 : Int) : Rat) / ((1 + da % 6 : Int) : Rat) := ⟨_, rfl⟩
  obtain ⟨c1, ec1⟩ : ∃ r : Rat, r = ((ic1 : Int) : Rat) / ((1 + dc % 6 : Int) : Rat) := ⟨_, rfl⟩
  obtain ⟨c2, ec2⟩ : ∃ r : Rat, r = ((ic2 : Int) : Rat) / ((1 + dc % 6 : Int) : Rat) := ⟨_, rfl⟩
  obtain ⟨c3, ec3⟩ : ∃ r : Rat, r = ((ic3 : Int) : Rat) / ((1 + dc % 6 : Int) : Rat) := ⟨_, rfl⟩
  obtain ⟨f1, ef1⟩ : ∃ r : Rat, r = ((if1 : Int) : Rat) / ((1 + df % 6 : Int) : Rat) := ⟨_, rfl⟩
  obtain ⟨f2, ef2⟩ : ∃ r : Rat, r = ((if2 : Int) : Rat) / ((1 + df % 6 : Int) : Rat) := ⟨_, rfl⟩
  obtain ⟨f3, ef3⟩ : ∃ r : Rat, r = ((if3 : Int) : Rat) / ((1 + df % 6 : Int) : Rat) := ⟨_, rfl⟩
  exact vprod_q ia1 ia2 ia3 da ja1 ja2 ja3 jda a1 a2 a3 ea1 ea2 ea3 ic1 ic2 ic3 dc jc1 jc2 jc3 jdc c1 c2 c3 ec1 ec2 ec3 if1 if2 if3 df jf1 jf2 jf3 jdf f1 f2 f3 ef1 ef2 ef3 m1 m2 m3 l1 l2 l3 n1 n2 n3 jm1 jm2 jm3 jl1 jl2 jl3 jn1 jn2 jn3 w ht hm

end Go.Proofs.YtlcmllfacolkaaaGreatDoor
/- The law VectorProducts holds of every input: its row, and its card tied to the program's text. Printed by a program of the prover's. -/
namespace Go.Proofs.YtlcmllfacolkaaaGreatDoor
open Go.ChangeShapes Go.WideShapes Go.ChangeAt Go.RowKit

theorem vectorProducts_table {W : World} (h : laidMetH Tryz.prog Rows.vectorProductsRow.laid W) : Tab W :=
  Lib.tabIs_of_head (rest := _) (g := 1) (t := 208) (e := 132) (n := 20) (by kernel_rfl) (by kernel_rfl) (by kernel_rfl) (by kernel_rfl) (by kernel_rfl) (by kernel_rfl) ((show laidMet Tryz.prog Rows.vectorProductsRow.laid W from (MakeChecks.laidMetH_plain _ _ _ (by kernel_rfl)) ▸ h).tail.tail)
theorem vectorProducts_maxlen {W : World} (h : W.ShapedOpen Tryz.prog) : Mx W :=
  Go.Proofs.cell_of_shapedOpen_int (zero := #[.int .i64 0]) (g := 0) (t := 3) h (of_decide_eq_true (by kernel_rfl)) (by kernel_rfl) rfl (by kernel_rfl) (by kernel_rfl) Tryz.underlying3
set_option maxRecDepth 100000 in
theorem vectorProducts_contract (H : Type) (enc : TypeId × Value → H) (W : World) (base : Nat) (args : Array Value) (ds gs : List (DataW H)) (before : List MemPlace)
    (hval : ∀ (j : Nat) t v, Tryz.f4.params[j]? = some t → args[j]? = some v → Value.okWide Tryz.prog W .any base t v)
    (hW : DataW.Whole enc Tryz.prog Tryz.f4.params.toList Rows.vectorProductsSpec.vars false W args.toList ds gs before) (hL : laidMetH Tryz.prog Rows.vectorProductsRow.laid W) (hsh : W.ShapedOpen Tryz.prog) :
    Calls Tryz.prog 4 args W fun e W' => ∃ v, e = .returned v ∧ Rows.vectorProductsSpec.post enc Tryz.prog Tryz.f4 false true false false W args v W' := by
  have hW' := hW
  obtain ⟨p, q, hA0, hV, rfl, hfz, hnd⟩ := hW
  have hA : DataW.TrodAll enc Tryz.prog W 0 (fun _ => true) true Tryz.f4.params.toList args.toList ds p := hA0
  rw [Tryz.params4] at hA hval
  obtain ⟨v0, vs0, d0, ds0, p0, q0, hargs, rfl, rfl, h0, r0⟩ := trodAll_cons hA
  obtain ⟨v1, vs1, d1, ds1, p1, q1, rfl, rfl, rfl, h1, r1⟩ := trodAll_cons r0
  obtain ⟨rfl, rfl, rfl⟩ := trodAll_nil r1
  obtain rfl : args = #[v0, v1] := by cases args; simp_all
  obtain ⟨rfl, rfl⟩ := trodVars_none hV
  obtain ⟨c0, rfl, z0, o0⟩ := open_cells (ts := [39, 39, 39, 5, 39, 39, 39, 5, 39, 39, 39, 5]) [.i8, .i8, .i8, .u8, .i8, .i8, .i8, .u8, .i8, .i8, .i8, .u8] (by kernel_rfl) (by kernel_rfl) (by kernel_rfl) (by kernel_rfl) (hval 0 43 v0 rfl rfl)
  obtain ⟨n0_0, y0_0, b0_0⟩ := o0 0 .i8 rfl
  obtain ⟨n0_1, y0_1, b0_1⟩ := o0 1 .i8 rfl
  obtain ⟨n0_2, y0_2, b0_2⟩ := o0 2 .i8 rfl
  obtain ⟨n0_3, y0_3, b0_3⟩ := o0 3 .u8 rfl
  obtain ⟨n0_4, y0_4, b0_4⟩ := o0 4 .i8 rfl
  obtain ⟨n0_5, y0_5, b0_5⟩ := o0 5 .i8 rfl
  obtain ⟨n0_6, y0_6, b0_6⟩ := o0 6 .i8 rfl
  obtain ⟨n0_7, y0_7, b0_7⟩ := o0 7 .u8 rfl
  obtain ⟨n0_8, y0_8, b0_8⟩ := o0 8 .i8 rfl
  obtain ⟨n0_9, y0_9, b0_9⟩ := o0 9 .i8 rfl
  obtain ⟨n0_10, y0_10, b0_10⟩ := o0 10 .i8 rfl
  obtain ⟨n0_11, y0_11, b0_11⟩ := o0 11 .u8 rfl
  obtain rfl : c0 = #[.int .i8 n0_0, .int .i8 n0_1, .int .i8 n0_2, .int .u8 n0_3, .int .i8 n0_4, .int .i8 n0_5, .int .i8 n0_6, .int .u8 n0_7, .int .i8 n0_8, .int .i8 n0_9, .int .i8 n0_10, .int .u8 n0_11] := by
    apply Array.ext_getElem?; intro i
    rcases i with _ | _ | _ | _ | _ | _ | _ | _ | _ | _ | _ | _ | i
    · exact y0_0
    · exact y0_1
    · exact y0_2
    · exact y0_3
    · exact y0_4
    · exact y0_5
    · exact y0_6
    · exact y0_7
    · exact y0_8
    · exact y0_9
    · exact y0_10
    · exact y0_11
    · rw [Array.getElem?_eq_none (by simp at z0; omega), Array.getElem?_eq_none (by simp)]
  obtain ⟨c1, rfl, z1, o1⟩ := open_cells (ts := [3, 3, 3, 3, 3, 3, 3, 3, 3]) [.i64, .i64, .i64, .i64, .i64, .i64, .i64, .i64, .i64] (by kernel_rfl) (by kernel_rfl) (by kernel_rfl) (by kernel_rfl) (hval 1 46 v1 rfl rfl)
  obtain ⟨n1_0, y1_0, b1_0⟩ := o1 0 .i64 rfl
  obtain ⟨n1_1, y1_1, b1_1⟩ := o1 1 .i64 rfl
  obtain ⟨n1_2, y1_2, b1_2⟩ := o1 2 .i64 rfl
  obtain ⟨n1_3, y1_3, b1_3⟩ := o1 3 .i64 rfl
  obtain ⟨n1_4, y1_4, b1_4⟩ := o1 4 .i64 rfl
  obtain ⟨n1_5, y1_5, b1_5⟩ := o1 5 .i64 rfl
  obtain ⟨n1_6, y1_6, b1_6⟩ := o1 6 .i64 rfl
  obtain ⟨n1_7, y1_7, b1_7⟩ := o1 7 .i64 rfl
  obtain ⟨n1_8, y1_8, b1_8⟩ := o1 8 .i64 rfl
  obtain rfl : c1 = #[.int .i64 n1_0, .int .i64 n1_1, .int .i64 n1_2, .int .i64 n1_3, .int .i64 n1_4, .int .i64 n1_5, .int .i64 n1_6, .int .i64 n1_7, .int .i64 n1_8] := by
    apply Array.ext_getElem?; intro i
    rcases i with _ | _ | _ | _ | _ | _ | _ | _ | _ | i
    · exact y1_0
    · exact y1_1
    · exact y1_2
    · exact y1_3
    · exact y1_4
    · exact y1_5
    · exact y1_6
    · exact y1_7
    · exact y1_8
    · rw [Array.getElem?_eq_none (by simp at z1; omega), Array.getElem?_eq_none (by simp)]
  refine (vector_products n0_0 n0_1 n0_2 n0_3 (has_i8 b0_0) (has_i8 b0_1) (has_i8 b0_2) (has_u8 b0_3) n0_4 n0_5 n0_6 n0_7 (has_i8 b0_4) (has_i8 b0_5) (has_i8 b0_6) (has_u8 b0_7) n0_8 n0_9 n0_10 n0_11 (has_i8 b0_8) (has_i8 b0_9) (has_i8 b0_10) (has_u8 b0_11) n1_0 n1_1 n1_2 n1_3 n1_4 n1_5 n1_6 n1_7 n1_8 (has_i64 b1_0) (has_i64 b1_1) (has_i64 b1_2) (has_i64 b1_3) (has_i64 b1_4) (has_i64 b1_5) (has_i64 b1_6) (has_i64 b1_7) (has_i64 b1_8)  W (vectorProducts_table hL) (vectorProducts_maxlen hsh)).mono fun e W' ⟨he, hg⟩ => ?_
  subst he
  exact ⟨_, rfl, law_post (tb := 4) laidOut (by kernel_rfl) (by kernel_rfl) (by kernel_rfl) rfl hW' rfl hg⟩
noncomputable def vectorProducts_world (os : Os) : World := World.laidAll Tryz.prog os Rows.vectorProductsRow.laid
theorem vectorProducts_met (os : Os) : laidMet Tryz.prog Rows.vectorProductsRow.laid ((vectorProducts_world os).forCall (fun _ _ => 0) ⟨#[], #[.agg #[.int .i8 0, .int .i8 0, .int .i8 0, .int .u8 0, .int .i8 0, .int .i8 0, .int .i8 0, .int .u8 0, .int .i8 0, .int .i8 0, .int .i8 0, .int .u8 0], .agg #[.int .i64 0, .int .i64 0, .int .i64 0, .int .i64 0, .int .i64 0, .int .i64 0, .int .i64 0, .int .i64 0, .int .i64 0]], []⟩).memory :=
  laidMet_laidAll _ (by kernel_rfl) (by kernel_rfl)
theorem vectorProducts_reads (os : Os) {H : Type} (enc : TypeId × Value → H) : ∃ places, DataW.whole enc Tryz.prog ((vectorProducts_world os).forCall (fun _ _ => 0) ⟨#[], #[.agg #[.int .i8 0, .int .i8 0, .int .i8 0, .int .u8 0, .int .i8 0, .int .i8 0, .int .i8 0, .int .u8 0, .int .i8 0, .int .i8 0, .int .i8 0, .int .u8 0], .agg #[.int .i64 0, .int .i64 0, .int .i64 0, .int .i64 0, .int .i64 0, .int .i64 0, .int .i64 0, .int .i64 0, .int .i64 0]], []⟩).memory Tryz.f4.params.toList Rows.vectorProductsSpec.vars false (#[.agg #[.int .i8 0, .int .i8 0, .int .i8 0, .int .u8 0, .int .i8 0, .int .i8 0, .int .i8 0, .int .u8 0, .int .i8 0, .int .i8 0, .int .i8 0, .int .u8 0], .agg #[.int .i64 0, .int .i64 0, .int .i64 0, .int .i64 0, .int .i64 0, .int .i64 0, .int .i64 0, .int .i64 0, .int .i64 0]] : Array Value).toList 8 = some ([.agg [.agg [.agg [.lit (.int .i8 0), .lit (.int .i8 0), .lit (.int .i8 0)], .lit (.int .u8 0)], .agg [.agg [.lit (.int .i8 0), .lit (.int .i8 0), .lit (.int .i8 0)], .lit (.int .u8 0)], .agg [.agg [.lit (.int .i8 0), .lit (.int .i8 0), .lit (.int .i8 0)], .lit (.int .u8 0)]], .agg [.agg [.lit (.int .i64 0), .lit (.int .i64 0), .lit (.int .i64 0)], .agg [.lit (.int .i64 0), .lit (.int .i64 0), .lit (.int .i64 0)], .agg [.lit (.int .i64 0), .lit (.int .i64 0), .lit (.int .i64 0)]]], [], places) :=
  ⟨[], by kernel_rfl⟩
set_option maxRecDepth 100000 in
theorem vectorProducts_lifted (os : Os) (started : os.Started) (H : Type) (enc : TypeId × Value → H) (F : Stop.Interp) :
    ReturnsInHanded {} Tryz.checked os 4 .any ((OpenSpec.ofChange Rows.vectorProductsSpec).preRow enc Tryz.prog Tryz.f4 Rows.vectorProductsRow.domain false Rows.vectorProductsRow.laid) (((OpenSpec.ofChange Rows.vectorProductsSpec).at F).post enc Tryz.prog Tryz.f4 false true false false) := by
  obtain ⟨places, hx⟩ := vectorProducts_reads os enc
  refine returnsInHanded_of_row (C := Tryz.checked) (s := OpenSpec.ofChange Rows.vectorProductsSpec) own started (by kernel_rfl) Tryz.func4
    (witness_row_sh (enc := enc) (C := Tryz.checked) false (vectorProducts_world os) #[.agg #[.int .i8 0, .int .i8 0, .int .i8 0, .int .u8 0, .int .i8 0, .int .i8 0, .int .i8 0, .int .u8 0, .int .i8 0, .int .i8 0, .int .i8 0, .int .u8 0], .agg #[.int .i64 0, .int .i64 0, .int .i64 0, .int .i64 0, .int .i64 0, .int .i64 0, .int .i64 0, .int .i64 0, .int .i64 0]] (World.laidAll_os _ _ _) (World.shaped_of_ZipB (by kernel_rfl) (by kernel_rfl)) (by kernel_rfl)
      (OpenSpec.preRow_of_cond 8 hx (by kernel_rfl) (fun k hk => by cases hk) (by kernel_rfl) (by rw [MakeChecks.laidMetH_plain _ _ _ (by kernel_rfl)]; exact vectorProducts_met os))) ?_
  intro W base args ds gs before hval hW _ _ _ hL hsh _
  exact vectorProducts_contract H enc W base args ds gs before hval hW hL hsh
theorem vectorProducts_said : Rows.VectorProductsSaid :=
  OpenClaim.holds_of_cond 4 Tryz.f4 rfl rfl rfl rfl rfl rfl rfl ⟨rfl, rfl, rfl, rfl, rfl⟩ rfl rfl rfl rfl rfl (by kernel_rfl) Tryz.func4 (by kernel_rfl)
    (of_decide_eq_true (by kernel_rfl)) (by unfold Func.isWrapper; first | (rw [if_pos (by decide +kernel)]; kernel_rfl) | (rw [if_neg (by decide +kernel)]; exact ⟨rfl, rfl⟩))
    (fun os started H enc _ F => by rw [OpenClaim.pre_eq_preRow]; exact vectorProducts_lifted os started H enc F)
theorem vectorProducts_plain (f : FuncId) (fn : Func) (hf : Tryz.pinned.checked.prog.funcNamed "dowel/dowellaw03.VectorProducts" = some f) (hfn : Tryz.pinned.checked.prog.funcs[f]? = some fn) :
    true = Tryz.pinned.checked.prog.looks [] ∧ ∀ (j : Nat) t, fn.params[j]? = some t → Tryz.pinned.checked.prog.wantsStandIn t = false := by
  obtain rfl : f = 4 := Option.some.inj ((show Tryz.prog.funcNamed "dowel/dowellaw03.VectorProducts" = some 4 by kernel_rfl).symm.trans hf) |>.symm
  obtain rfl : fn = Tryz.f4 := (Option.some.inj (Tryz.func4.symm.trans hfn)).symm
  refine ⟨by kernel_rfl, fun j t ht => ?_⟩
  rw [Tryz.params4] at ht
  have hm := Array.mem_of_getElem? ht
  have hall : (#[43, 46] : Array TypeId).toList.all (fun t => !Tryz.prog.wantsStandIn t) = true := by kernel_rfl
  have := List.all_eq_true.1 hall t (Array.mem_toList_iff.2 hm)
  have h3 : Tryz.prog.wantsStandIn t = false := by simpa using this
  exact h3
/-- the card -/
theorem vectorProducts_card : Rows.VectorProductsCardSaid :=
  Claim7.holds_tied_plain_at .later [] _ _ _ _ vectorProducts_said (fun _ h => by cases h) (by kernel_rfl) (fun _ h => by cases h) vectorProducts_row_tie rfl ⟨rfl, rfl⟩ (by kernel_rfl) rfl vectorProducts_plain (by kernel_rfl)
end Go.Proofs.YtlcmllfacolkaaaGreatDoor
