/- Joined of: Gen63, RowVectorSums. -/
import Derived.Test.YtlcmllfacolkaaaGreatDoorPartG
import Derived.Test.YtlcmllfacolkaaaGreatDoorCards
import Derived.Test.YtlcmllfacolkaaaGreatDoorTie
import Derived.Test.YtlcmllfacolkaaaGreatDoorPartD
/- Printed by a program of the prover's: VectorSums. -/
namespace Go.Proofs.YtlcmllfacolkaaaGreatDoor
open Go.RowKit

set_option maxRecDepth 100000 in
set_option maxHeartbeats 1000000 in
theorem vsums_0 (ia1 ia2 ia3 da : Int) (_ja1 : -128 ≤ ia1 ∧ ia1 ≤ 127) (_ja2 : -128 ≤ ia2 ∧ ia2 ≤ 127) (_ja3 : -128 ≤ ia3 ∧ ia3 ≤ 127) (_jda : 0 ≤ da ∧ da ≤ 255) (a1 a2 a3 : Rat) (_ea1 : a1 = ((ia1 : Int) : Rat) / ((1 + da % 6 : Int) : Rat)) (_ea2 : a2 = ((ia2 : Int) : Rat) / ((1 + da % 6 : Int) : Rat)) (_ea3 : a3 = ((ia3 : Int) : Rat) / ((1 + da % 6 : Int) : Rat)) (ic1 ic2 ic3 dc : Int) (_jc1 : -128 ≤ ic1 ∧ ic1 ≤ 127) (_jc2 : -128 ≤ ic2 ∧ ic2 ≤ 127) (_jc3 : -128 ≤ ic3 ∧ ic3 ≤ 127) (_jdc : 0 ≤ dc ∧ dc ≤ 255) (c1 c2 c3 : Rat) (_ec1 : c1 = ((ic1 : Int) : Rat) / ((1 + dc % 6 : Int) : Rat)) (_ec2 : c2 = ((ic2 : Int) : Rat) / ((1 + dc % 6 : Int) : Rat)) (_ec3 : c3 = ((ic3 : Int) : Rat) / ((1 + dc % 6 : Int) : Rat)) (ka kb : Int) (_jka : -9223372036854775808 ≤ ka ∧ ka ≤ 9223372036854775807) (hk0 : kb = 0) (_jkb : -9223372036854775808 ≤ kb ∧ kb ≤ 9223372036854775807) (w : World) (ht : Tab w) (hm : Mx w) :
    Calls Tryz.prog 10 #[(.agg #[(.int .i8 (ia1)), (.int .i8 (ia2)), (.int .i8 (ia3)), (.int .u8 (da))]), (.agg #[(.int .i8 (ic1)), (.int .i8 (ic2)), (.int .i8 (ic3)), (.int .u8 (dc))]), (.agg #[(.int .i64 (ka)), (.int .i64 (kb))])] w fun e w' => e = .returned (.bool true) ∧ Gr w w' := by
 have hz : (kb == (0 : Int)) = true := by simpa using hk0
 go_enter Tryz.func10, Tryz.ntmps10
 have hB := Gr.refl w
 refine wp_seq_k (fun K1 k1 => ?_)
 refine rg [0, 1, 2, 3] ?_
 refine se ?_
 refine eb 42 #[(.int .i8 (ia1)), (.int .i8 (ia2)), (.int .i8 (ia3)), (.int .u8 (da))] 3 hB fun b2 w2 g2 L2 o2 q2 hB => ?_
 simp only [p3, p4]
 refine se ?_
 refine eb 42 #[(.int .i8 (ic1)), (.int .i8 (ic2)), (.int .i8 (ic3)), (.int .u8 (dc))] 4 hB fun b3 w3 g3 L3 o3 q3 hB => ?_
 simp only [p3, p4]
 refine se ?_
 refine eb 87 #[(.int .i64 (ka)), (.int .i64 (kb))] 5 hB fun b4 w4 g4 L4 o4 q4 hB => ?_
 simp only [p3, p4]
 refine sv 6 (.bool false) ?_
 simp only [p3, p4]
 refine sq_nil ?_
 refine k1 _ _ ?_
 try clear k1 K1
 refine wp_seq_k (fun K5 k5 => ?_)
 refine wp_seq_k (fun K6 k6 => ?_)
 refine rg [0, 1, 2, 3, 4, 5, 6] ?_
 refine se ?_
 refine ec 13 (known3 _ (ht.gr hB) (hm.gr hB)) ?_
 rintro e7 w7 ⟨rfl, g7⟩
 refine ⟨_, rfl, ?_⟩
 replace hB := hB.trans g7
 simp only [p3, p4]
 refine sv 14 (.bool false) ?_
 simp only [p3, p4]
 refine sv 15 (.bool false) ?_
 simp only [p3, p4]
 refine sv 16 (.pointer (some ⟨b4, 1, none⟩)) ?_
 simp only [p3, p4]
 replace L4 := L4.gr g7
 refine sw 17 (.int .i64 (kb)) rfl (rk 3 1 L4) ?_
 simp only [p3, p4]
 refine sw 18 (.bool true) rfl (RunV.bool (x := (kb == (0 : Int))) (rvk (by kernel_rfl)) hz) ?_
 simp only [p3, p4]
 refine sv 19 (.bool true) ?_
 simp only [p3, p4]
 refine sq_nil ?_
 refine k6 _ _ ?_
 try clear k6 K6
 refine wp_cond_true rfl ?_
 refine wp_seq_k (fun K8 k8 => ?_)
 refine rg [0, 1] ?_
 refine se ?_
 refine ec 20 (known3 _ (ht.gr hB) (hm.gr hB)) ?_
 rintro e9 w9 ⟨rfl, g9⟩
 refine ⟨_, rfl, ?_⟩
 replace hB := hB.trans g9
 simp only [p3, p4]
 refine sv 6 (.bool true) ?_
 simp only [p3, p4]
 refine sq_nil ?_
 refine k8 _ _ ?_
 try clear k8 K8
 refine wp_ret ?_
 simp only [Exit.then]
 refine bodyPost_ret (v := (.bool true)) (ret_tmp rfl rfl) rfl ⟨?_, hB⟩
 exact rfl

theorem lawSu0 (a1 a2 a3 c1 c2 c3 : Rat)  : sEq [ratL (a1 + c1), ratL (a2 + c2), ratL (a3 + c3)] [ratL (a1 + c1), ratL (a2 + c2), ratL (a3 + c3)] = true := sEq_q rfl rfl rfl
theorem lawSu1 (a1 a2 a3 c1 c2 c3 : Rat)  : sEq [ratL (a1 - c1), ratL (a2 - c2), ratL (a3 - c3)] [ratL (a1 - c1), ratL (a2 - c2), ratL (a3 - c3)] = true := sEq_q rfl rfl rfl
theorem lawSu2 (a1 a2 a3 : Rat)  : sEq [ratL (0 - a1), ratL (0 - a2), ratL (0 - a3)] [ratL (-a1), ratL (-a2), ratL (-a3)] = true := sEq_q (by grind) (by grind) (by grind)
theorem lawSu3 (a1 a2 a3 Qka Qkb : Rat)  : sEq [ratL (((Qka) / (Qkb)) * a1), ratL (((Qka) / (Qkb)) * a2), ratL (((Qka) / (Qkb)) * a3)] [ratL (a1 * (Qka / Qkb)), ratL (a2 * (Qka / Qkb)), ratL (a3 * (Qka / Qkb))] = true := sEq_q (by grind) (by grind) (by grind)
theorem lawSu4 (a1 a2 a3 : Rat)  : sEq [ratL (a1), ratL (a2), ratL (a3)] [ratL (a1), ratL (a2), ratL (a3)] = true := sEq_q rfl rfl rfl
theorem lawSu5 (c1 c2 c3 : Rat)  : sEq [ratL (c1), ratL (c2), ratL (c3)] [ratL (c1), ratL (c2), ratL (c3)] = true := sEq_q rfl rfl rfl
set_option maxRecDepth 100000 in
set_option maxHeartbeats 8000000 in
theorem vsums_q (ia1 ia2 ia3 da : Int) (ja1 : -128 ≤ ia1 ∧ ia1 ≤ 127) (ja2 : -128 ≤ ia2 ∧ ia2 ≤ 127) (ja3 : -128 ≤ ia3 ∧ ia3 ≤ 127) (jda : 0 ≤ da ∧ da ≤ 255) (a1 a2 a3 : Rat) (ea1 : a1 = ((ia1 : Int) : Rat) / ((1 + da % 6 : Int) : Rat)) (ea2 : a2 = ((ia2 : Int) : Rat) / ((1 + da % 6 : Int) : Rat)) (ea3 : a3 = ((ia3 : Int) : Rat) / ((1 + da % 6 : Int) : Rat)) (ic1 ic2 ic3 dc : Int) (jc1 : -128 ≤ ic1 ∧ ic1 ≤ 127) (jc2 : -128 ≤ ic2 ∧ ic2 ≤ 127) (jc3 : -128 ≤ ic3 ∧ ic3 ≤ 127) (jdc : 0 ≤ dc ∧ dc ≤ 255) (c1 c2 c3 : Rat) (ec1 : c1 = ((ic1 : Int) : Rat) / ((1 + dc % 6 : Int) : Rat)) (ec2 : c2 = ((ic2 : Int) : Rat) / ((1 + dc % 6 : Int) : Rat)) (ec3 : c3 = ((ic3 : Int) : Rat) / ((1 + dc % 6 : Int) : Rat)) (ka kb : Int) (_jka : -9223372036854775808 ≤ ka ∧ ka ≤ 9223372036854775807) (hk1 : kb ≠ 0) (_jkb : -9223372036854775808 ≤ kb ∧ kb ≤ 9223372036854775807) (w : World) (ht : Tab w) (hm : Mx w) :
    Calls Tryz.prog 10 #[(.agg #[(.int .i8 (ia1)), (.int .i8 (ia2)), (.int .i8 (ia3)), (.int .u8 (da))]), (.agg #[(.int .i8 (ic1)), (.int .i8 (ic2)), (.int .i8 (ic3)), (.int .u8 (dc))]), (.agg #[(.int .i64 (ka)), (.int .i64 (kb))])] w fun e w' => e = .returned (.bool true) ∧ Gr w w' := by
 have hz : (kb == (0 : Int)) = false := by simpa using hk1
 have hk1n : ((kb : Int) : Rat).num ≠ 0 := by rw [Rat.num_intCast]; exact hk1
 have ha1 : RS 16 a1 := small_rs ja1 jda ea1
 have ha2 : RS 16 a2 := small_rs ja2 jda ea2
 have ha3 : RS 16 a3 := small_rs ja3 jda ea3
 have hc1 : RS 16 c1 := small_rs jc1 jdc ec1
 have hc2 : RS 16 c2 := small_rs jc2 jdc ec2
 have hc3 : RS 16 c3 := small_rs jc3 jdc ec3
 go_enter Tryz.func10, Tryz.ntmps10
 have hB := Gr.refl w
 refine wp_seq_k (fun K1 k1 => ?_)
 refine rg [0, 1, 2, 3] ?_
 refine se ?_
 refine eb 42 #[(.int .i8 (ia1)), (.int .i8 (ia2)), (.int .i8 (ia3)), (.int .u8 (da))] 3 hB fun b2 w2 g2 L2 o2 q2 hB => ?_
 simp only [p3, p4]
 refine se ?_
 refine eb 42 #[(.int .i8 (ic1)), (.int .i8 (ic2)), (.int .i8 (ic3)), (.int .u8 (dc))] 4 hB fun b3 w3 g3 L3 o3 q3 hB => ?_
 simp only [p3, p4]
 refine se ?_
 refine eb 87 #[(.int .i64 (ka)), (.int .i64 (kb))] 5 hB fun b4 w4 g4 L4 o4 q4 hB => ?_
 replace L2 := L2.gr g3
 simp only [p3, p4]
 refine sv 6 (.bool false) ?_
 simp only [p3, p4]
 refine sq_nil ?_
 refine k1 _ _ ?_
 try clear k1 K1
 refine wp_seq_k (fun K5 k5 => ?_)
 refine wp_seq_k (fun K6 k6 => ?_)
 refine rg [0, 1, 2, 3, 4, 5, 6] ?_
 refine se ?_
 refine ec 13 (known3 _ (ht.gr hB) (hm.gr hB)) ?_
 rintro e7 w7 ⟨rfl, g7⟩
 refine ⟨_, rfl, ?_⟩
 replace hB := hB.trans g7
 simp only [p3, p4]
 refine sv 14 (.bool false) ?_
 simp only [p3, p4]
 refine sv 15 (.bool false) ?_
 simp only [p3, p4]
 refine sv 16 (.pointer (some ⟨b4, 1, none⟩)) ?_
 simp only [p3, p4]
 replace L4 := L4.gr g7
 refine sw 17 (.int .i64 (kb)) rfl (rk 3 1 L4) ?_
 simp only [p3, p4]
 refine sw 18 (.bool false) rfl (RunV.bool (x := (kb == (0 : Int))) (rvk (by kernel_rfl)) hz) ?_
 simp only [p3, p4]
 refine sv 19 (.bool false) ?_
 simp only [p3, p4]
 refine sq_nil ?_
 refine k6 _ _ ?_
 try clear k6 K6
 refine wp_cond_false rfl ?_
 refine wp_skip ?_
 refine k5 _ _ ?_
 try clear k5 K5
 refine wp_seq_k (fun K8 k8 => ?_)
 have hz9 := Below.size hB
 replace L2 := L2.gr (g4.trans g7)
 have lt2_9 := L2.lt
 replace L3 := L3.gr (g4.trans g7)
 have lt3_9 := L3.lt
 have lt4_9 := L4.lt
 have gd9 := Gr.drew w7
 replace hB := hB.trans gd9
 replace L2 := L2.gr gd9
 replace L3 := L3.gr gd9
 refine wp_region_flo (fun w' => Lc w' b2 #[(.int .i8 (ia1)), (.int .i8 (ia2)), (.int .i8 (ia3)), (.int .u8 (da))] 42 ∧ Lc w' b3 #[(.int .i8 (ic1)), (.int .i8 (ic2)), (.int .i8 (ic3)), (.int .u8 (dc))] 42) [(true, 0), (true, 2), (true, 4), (true, 6), (false, 1), (false, 3), (false, 5), (false, 7)] [⟨8, 7, 32, #[(.bool false), (.slice none 0 0), (.bool false), (.slice none 0 0), (.bool false), (.slice none 0 0), (.bool false), (.slice none 0 0), (.bool false), (.slice none 0 0), (.bool false), (.slice none 0 0)]⟩, ⟨9, 8, 32, #[(.bool false), (.slice none 0 0), (.bool false), (.slice none 0 0), (.bool false), (.slice none 0 0), (.bool false), (.slice none 0 0), (.bool false), (.slice none 0 0), (.bool false), (.slice none 0 0)]⟩, ⟨10, 9, 49, #[(.string ⟨([] : List UInt8).toArray⟩), (.string ⟨([] : List UInt8).toArray⟩), (.string ⟨([] : List UInt8).toArray⟩)]⟩, ⟨11, 10, 49, #[(.string ⟨([] : List UInt8).toArray⟩), (.string ⟨([] : List UInt8).toArray⟩), (.string ⟨([] : List UInt8).toArray⟩)]⟩] [(false, 12), (false, 13), (false, 14), (false, 15)] (by kernel_rfl) (by kernel_rfl) (by kernel_rfl) (by kernel_rfl) (by kernel_rfl) (by decide) (fun _ _ _ _ _ h => h) (fun _ _ _ _ _ h => h) (fun w' o h => ⟨Lc.gr h.1 (Gr.alloc w' o), Lc.gr h.2 (Gr.alloc w' o)⟩) ⟨L2, L3⟩ (by intro f hf; simp only [List.mem_cons, List.not_mem_nil, or_false] at hf; rcases hf with rfl | rfl | rfl | rfl <;> first | exact alloc_zero (z := (.agg #[(.bool false), (.slice none 0 0), (.bool false), (.slice none 0 0), (.bool false), (.slice none 0 0), (.bool false), (.slice none 0 0), (.bool false), (.slice none 0 0), (.bool false), (.slice none 0 0)])) (by kernel_rfl) rfl | exact alloc_zero (z := (.agg #[(.bool false), (.slice none 0 0), (.bool false), (.slice none 0 0), (.bool false), (.slice none 0 0), (.bool false), (.slice none 0 0), (.bool false), (.slice none 0 0), (.bool false), (.slice none 0 0)])) (by kernel_rfl) rfl | exact alloc_zero (z := (.agg #[(.string ⟨([] : List UInt8).toArray⟩), (.string ⟨([] : List UInt8).toArray⟩), (.string ⟨([] : List UInt8).toArray⟩)])) (by kernel_rfl) rfl | exact alloc_zero (z := (.agg #[(.string ⟨([] : List UInt8).toArray⟩), (.string ⟨([] : List UInt8).toArray⟩), (.string ⟨([] : List UInt8).toArray⟩)])) (by kernel_rfl) rfl) ?_
 refine fw 21 (.agg #[(.int .i8 (ia1)), (.int .i8 (ia2)), (.int .i8 (ia3)), (.int .u8 (da))]) rfl (fun w' hS => (rl 42 0 [(.int .i8 (ia1)), (.int .i8 (ia2)), (.int .i8 (ia3)), (.int .u8 (da))] hS.1)) ?_
 simp only [p3, p4]
 refine fw 23 (.agg #[(.int .i8 (ic1)), (.int .i8 (ic2)), (.int .i8 (ic3)), (.int .u8 (dc))]) rfl (fun w' hS => (rl 42 0 [(.int .i8 (ic1)), (.int .i8 (ic2)), (.int .i8 (ic3)), (.int .u8 (dc))] hS.2)) ?_
 simp only [p3, p4]
 refine fw 25 (.agg #[(.int .i8 (ia1)), (.int .i8 (ia2)), (.int .i8 (ia3)), (.int .u8 (da))]) rfl (fun w' hS => (rl 42 0 [(.int .i8 (ia1)), (.int .i8 (ia2)), (.int .i8 (ia3)), (.int .u8 (da))] hS.1)) ?_
 simp only [p3, p4]
 refine fw 27 (.agg #[(.int .i8 (ic1)), (.int .i8 (ic2)), (.int .i8 (ic3)), (.int .u8 (dc))]) rfl (fun w' hS => (rl 42 0 [(.int .i8 (ic1)), (.int .i8 (ic2)), (.int .i8 (ic3)), (.int .u8 (dc))] hS.2)) ?_
 simp only [p3, p4]
 refine flo_eff rfl rfl (fun w10 g10 _ K10 k10 => ?_)
 replace hB := hB.trans g10
 refine ec 22 (made_v ia1 ia2 ia3 da ja1 ja2 ja3 jda a1 a2 a3 ea1 ea2 ea3 _ (hm.gr hB)) ?_
 rintro e11 w11 ⟨⟨t11_0, t11_1, t11_2, t11_3, t11_4, t11_5, t11_6, t11_7, t11_8, t11_9, t11_10, t11_11, rfl, h11a, h11b, h11c⟩, g11⟩
 refine ⟨_, rfl, ?_⟩
 replace hB := hB.trans g11
 replace L2 := L2.gr (g10.trans g11)
 replace L3 := L3.gr (g10.trans g11)
 refine k10 _ _ g11 ⟨L2, L3⟩ ?_
 try clear k10 K10
 simp only [p3, p4]
 refine flo_eff rfl rfl (fun w12 g12 _ K12 k12 => ?_)
 replace hB := hB.trans g12
 refine ec 24 (made_v ic1 ic2 ic3 dc jc1 jc2 jc3 jdc c1 c2 c3 ec1 ec2 ec3 _ (hm.gr hB)) ?_
 rintro e13 w13 ⟨⟨t13_0, t13_1, t13_2, t13_3, t13_4, t13_5, t13_6, t13_7, t13_8, t13_9, t13_10, t13_11, rfl, h13a, h13b, h13c⟩, g13⟩
 refine ⟨_, rfl, ?_⟩
 replace hB := hB.trans g13
 replace L2 := L2.gr (g12.trans g13)
 replace L3 := L3.gr (g12.trans g13)
 refine k12 _ _ g13 ⟨L2, L3⟩ ?_
 try clear k12 K12
 simp only [p3, p4]
 refine flo_eff rfl rfl (fun w14 g14 _ K14 k14 => ?_)
 replace hB := hB.trans g14
 refine ec 26 (texts_v ia1 ia2 ia3 da ja1 ja2 ja3 jda a1 a2 a3 ea1 ea2 ea3 _) ?_
 rintro e15 w15 ⟨rfl, g15⟩
 refine ⟨_, rfl, ?_⟩
 replace hB := hB.trans g15
 replace L2 := L2.gr (g14.trans g15)
 replace L3 := L3.gr (g14.trans g15)
 refine k14 _ _ g15 ⟨L2, L3⟩ ?_
 try clear k14 K14
 simp only [p3, p4]
 refine flo_eff rfl rfl (fun w16 g16 _ K16 k16 => ?_)
 replace hB := hB.trans g16
 refine ec 28 (texts_v ic1 ic2 ic3 dc jc1 jc2 jc3 jdc c1 c2 c3 ec1 ec2 ec3 _) ?_
 rintro e17 w17 ⟨rfl, g17⟩
 refine ⟨_, rfl, ?_⟩
 replace hB := hB.trans g17
 replace L2 := L2.gr (g16.trans g17)
 replace L3 := L3.gr (g16.trans g17)
 refine k16 _ _ g17 ⟨L2, L3⟩ ?_
 try clear k16 K16
 simp only [p3, p4]
 refine flo_nil (fun w18 g18 _ => ?_)
 replace hB := hB.trans g18
 refine floFin4 (fun b19 b20 b21 b22 (L19 : Lc w18 b19 #[(.bool false), (.slice none 0 0), (.bool false), (.slice none 0 0), (.bool false), (.slice none 0 0), (.bool false), (.slice none 0 0), (.bool false), (.slice none 0 0), (.bool false), (.slice none 0 0)] 32) q19 (L20 : Lc w18 b20 #[(.bool false), (.slice none 0 0), (.bool false), (.slice none 0 0), (.bool false), (.slice none 0 0), (.bool false), (.slice none 0 0), (.bool false), (.slice none 0 0), (.bool false), (.slice none 0 0)] 32) q20 (L21 : Lc w18 b21 #[(.string ⟨([] : List UInt8).toArray⟩), (.string ⟨([] : List UInt8).toArray⟩), (.string ⟨([] : List UInt8).toArray⟩)] 49) q21 (L22 : Lc w18 b22 #[(.string ⟨([] : List UInt8).toArray⟩), (.string ⟨([] : List UInt8).toArray⟩), (.string ⟨([] : List UInt8).toArray⟩)] 49) q22 ne19_20 ne19_21 ne20_21 ne19_22 ne20_22 ne21_22 => ?_)
 have ne2_19 : b2 ≠ b19 := Nat.ne_of_lt (Nat.lt_of_lt_of_le lt2_9 q19)
 have ne3_19 : b3 ≠ b19 := Nat.ne_of_lt (Nat.lt_of_lt_of_le lt3_9 q19)
 have ne4_19 : b4 ≠ b19 := Nat.ne_of_lt (Nat.lt_of_lt_of_le lt4_9 q19)
 replace q19 := Nat.le_trans hz9 q19
 have ne2_20 : b2 ≠ b20 := Nat.ne_of_lt (Nat.lt_of_lt_of_le lt2_9 q20)
 have ne3_20 : b3 ≠ b20 := Nat.ne_of_lt (Nat.lt_of_lt_of_le lt3_9 q20)
 have ne4_20 : b4 ≠ b20 := Nat.ne_of_lt (Nat.lt_of_lt_of_le lt4_9 q20)
 replace q20 := Nat.le_trans hz9 q20
 have ne2_21 : b2 ≠ b21 := Nat.ne_of_lt (Nat.lt_of_lt_of_le lt2_9 q21)
 have ne3_21 : b3 ≠ b21 := Nat.ne_of_lt (Nat.lt_of_lt_of_le lt3_9 q21)
 have ne4_21 : b4 ≠ b21 := Nat.ne_of_lt (Nat.lt_of_lt_of_le lt4_9 q21)
 replace q21 := Nat.le_trans hz9 q21
 have ne2_22 : b2 ≠ b22 := Nat.ne_of_lt (Nat.lt_of_lt_of_le lt2_9 q22)
 have ne3_22 : b3 ≠ b22 := Nat.ne_of_lt (Nat.lt_of_lt_of_le lt3_9 q22)
 have ne4_22 : b4 ≠ b22 := Nat.ne_of_lt (Nat.lt_of_lt_of_le lt4_9 q22)
 replace q22 := Nat.le_trans hz9 q22
 simp only [putl, p3, p4]
 refine oe ?_
 refine es 32 0 (.agg #[t11_0, t11_1, t11_2, t11_3, t11_4, t11_5, t11_6, t11_7, t11_8, t11_9, t11_10, t11_11]) [t11_0, t11_1, t11_2, t11_3, t11_4, t11_5, t11_6, t11_7, t11_8, t11_9, t11_10, t11_11] #[t11_0, t11_1, t11_2, t11_3, t11_4, t11_5, t11_6, t11_7, t11_8, t11_9, t11_10, t11_11] L19 hB q19 ⟨h11a.one0, h11a.one1, h11a.one2, h11a.one3, h11b.one0, h11b.one1, h11b.one2, h11b.one3, h11c.one0, h11c.one1, h11c.one2, h11c.one3, trivial⟩ fun w24 st24 kp24 L19 hB => ?_
 replace L2 := st24.lc (L2.gr g18) ne2_19
 replace L3 := st24.lc (L3.gr g18) ne3_19
 refine ⟨⟨L2, L3⟩, ?_⟩
 refine oe ?_
 replace L20 := st24.lc L20 (Ne.symm ne19_20)
 refine es 32 0 (.agg #[t13_0, t13_1, t13_2, t13_3, t13_4, t13_5, t13_6, t13_7, t13_8, t13_9, t13_10, t13_11]) [t13_0, t13_1, t13_2, t13_3, t13_4, t13_5, t13_6, t13_7, t13_8, t13_9, t13_10, t13_11] #[t13_0, t13_1, t13_2, t13_3, t13_4, t13_5, t13_6, t13_7, t13_8, t13_9, t13_10, t13_11] L20 hB q20 ⟨h13a.one0, h13a.one1, h13a.one2, h13a.one3, h13b.one0, h13b.one1, h13b.one2, h13b.one3, h13c.one0, h13c.one1, h13c.one2, h13c.one3, trivial⟩ fun w26 st26 kp26 L20 hB => ?_
 replace L2 := st26.lc L2 ne2_20
 replace L3 := st26.lc L3 ne3_20
 refine ⟨⟨L2, L3⟩, ?_⟩
 refine oe ?_
 replace L21 := st26.lc (st24.lc L21 (Ne.symm ne19_21)) (Ne.symm ne20_21)
 refine es 49 0 (.agg #[(.string ⟨(ratL (a1) : List UInt8).toArray⟩), (.string ⟨(ratL (a2) : List UInt8).toArray⟩), (.string ⟨(ratL (a3) : List UInt8).toArray⟩)]) [(.string ⟨(ratL (a1) : List UInt8).toArray⟩), (.string ⟨(ratL (a2) : List UInt8).toArray⟩), (.string ⟨(ratL (a3) : List UInt8).toArray⟩)] #[(.string ⟨(ratL (a1) : List UInt8).toArray⟩), (.string ⟨(ratL (a2) : List UInt8).toArray⟩), (.string ⟨(ratL (a3) : List UInt8).toArray⟩)] L21 hB q21 ⟨rfl, rfl, rfl, trivial⟩ fun w28 st28 kp28 L21 hB => ?_
 replace L2 := st28.lc L2 ne2_21
 replace L3 := st28.lc L3 ne3_21
 refine ⟨⟨L2, L3⟩, ?_⟩
 refine oe ?_
 replace L22 := st28.lc (st26.lc (st24.lc L22 (Ne.symm ne19_22)) (Ne.symm ne20_22)) (Ne.symm ne21_22)
 refine es 49 0 (.agg #[(.string ⟨(ratL (c1) : List UInt8).toArray⟩), (.string ⟨(ratL (c2) : List UInt8).toArray⟩), (.string ⟨(ratL (c3) : List UInt8).toArray⟩)]) [(.string ⟨(ratL (c1) : List UInt8).toArray⟩), (.string ⟨(ratL (c2) : List UInt8).toArray⟩), (.string ⟨(ratL (c3) : List UInt8).toArray⟩)] #[(.string ⟨(ratL (c1) : List UInt8).toArray⟩), (.string ⟨(ratL (c2) : List UInt8).toArray⟩), (.string ⟨(ratL (c3) : List UInt8).toArray⟩)] L22 hB q22 ⟨rfl, rfl, rfl, trivial⟩ fun w30 st30 kp30 L22 hB => ?_
 replace L2 := st30.lc L2 ne2_22
 replace L3 := st30.lc L3 ne3_22
 refine ⟨⟨L2, L3⟩, ?_⟩
 refine ord_nil ?_
 refine k8 _ _ ?_
 try clear k8 K8
 refine wp_seq_k (fun K31 k31 => ?_)
 have hz32 := Below.size hB
 replace L4 := st30.lc (st28.lc (st26.lc (st24.lc (L4.gr (gd9.trans (g10.trans (g11.trans (g12.trans (g13.trans (g14.trans (g15.trans (g16.trans (g17.trans g18)))))))))) ne4_19) ne4_20) ne4_21) ne4_22
 have lt4_32 := L4.lt
 replace L19 := st30.lc (st28.lc (st26.lc L19 ne19_20) ne19_21) ne19_22
 have lt19_32 := L19.lt
 replace L20 := st30.lc (st28.lc L20 ne20_21) ne20_22
 have lt20_32 := L20.lt
 replace L21 := st30.lc L21 ne21_22
 have lt21_32 := L21.lt
 have lt22_32 := L22.lt
 have gd32 := Gr.drew w30
 replace hB := hB.trans gd32
 replace L4 := L4.gr gd32
 refine wp_region_flo (fun w' => Lc w' b4 #[(.int .i64 (ka)), (.int .i64 (kb))] 87) [(true, 0), (true, 1), (true, 3), (true, 4), (false, 2), (false, 5), (false, 6), (true, 7), (true, 8), (true, 9)] [⟨10, 11, 30, #[(.bool false), (.slice none 0 0), (.bool false), (.slice none 0 0)]⟩] [(false, 11), (true, 12)] (by kernel_rfl) (by kernel_rfl) (by kernel_rfl) (by kernel_rfl) (by kernel_rfl) (by decide) (fun _ _ _ _ _ h => h) (fun _ _ _ _ _ h => h) (fun w' o h => Lc.gr h (Gr.alloc w' o)) L4 (by intro f hf; simp only [List.mem_cons, List.not_mem_nil, or_false] at hf; rcases hf with rfl <;> first | exact alloc_zero (z := (.agg #[(.bool false), (.slice none 0 0), (.bool false), (.slice none 0 0)])) (by kernel_rfl) rfl) ?_
 refine fv 30 (.pointer (some ⟨b4, 0, none⟩)) ?_
 simp only [p3, p4]
 refine fw 31 (.int .i64 (ka)) rfl (fun w' hS => (rk 3 0 hS)) ?_
 simp only [p3, p4]
 refine fv 33 (.pointer (some ⟨b4, 1, none⟩)) ?_
 simp only [p3, p4]
 refine fw 34 (.int .i64 (kb)) rfl (fun w' hS => (rk 3 1 hS)) ?_
 simp only [p3, p4]
 refine flo_eff rfl rfl (fun w33 g33 _ K33 k33 => ?_)
 replace hB := hB.trans g33
 refine ec 32 (from_r (ka) (by omega) (by omega) _) ?_
 rintro e34 w34 ⟨⟨p34, q34, r34, s34, rfl, h34⟩, g34⟩
 refine ⟨_, rfl, ?_⟩
 replace hB := hB.trans g34
 replace L4 := L4.gr (g33.trans g34)
 refine k33 _ _ g34 L4 ?_
 try clear k33 K33
 simp only [p3, p4]
 refine flo_eff rfl rfl (fun w35 g35 _ K35 k35 => ?_)
 replace hB := hB.trans g35
 refine ec 35 (from_r (kb) (by omega) (by omega) _) ?_
 rintro e36 w36 ⟨⟨p36, q36, r36, s36, rfl, h36⟩, g36⟩
 refine ⟨_, rfl, ?_⟩
 replace hB := hB.trans g36
 replace L4 := L4.gr (g35.trans g36)
 refine k35 _ _ g36 L4 ?_
 try clear k35 K35
 simp only [p3, p4]
 refine flo_eff rfl rfl (fun w37 g37 _ K37 k37 => ?_)
 replace hB := hB.trans g37
 have kq39 := g35.kp.trans (g36.kp.trans g37.kp)
 replace h34 := h34.kp kq39
 replace h36 := h36.kp g37.kp
 refine ec 36 (div_a h34 h36 (by omega) hk1n) ?_
 rintro e38 w38 ⟨⟨p38, q38, r38, s38, rfl, h38⟩, g38⟩
 refine ⟨_, rfl, ?_⟩
 replace hB := hB.trans g38
 replace L4 := L4.gr (g37.trans g38)
 refine k37 _ _ g38 L4 ?_
 try clear k37 K37
 simp only [p3, p4]
 refine fv 29 (.tuple #[(.agg #[p38, q38, r38, s38]), (.int .i64 0)]) ?_
 simp only [p3, p4]
 refine fv 37 (.agg #[p38, q38, r38, s38]) ?_
 simp only [p3, p4]
 refine fv 38 (.int .i64 0) ?_
 simp only [p3, p4]
 refine flo_nil (fun w40 g40 _ => ?_)
 replace hB := hB.trans g40
 refine floFin1 (fun b41 (L41 : Lc w40 b41 #[(.bool false), (.slice none 0 0), (.bool false), (.slice none 0 0)] 30) q41  => ?_)
 have ne4_41 : b4 ≠ b41 := Nat.ne_of_lt (Nat.lt_of_lt_of_le lt4_32 q41)
 have ne19_41 : b19 ≠ b41 := Nat.ne_of_lt (Nat.lt_of_lt_of_le lt19_32 q41)
 have ne20_41 : b20 ≠ b41 := Nat.ne_of_lt (Nat.lt_of_lt_of_le lt20_32 q41)
 have ne21_41 : b21 ≠ b41 := Nat.ne_of_lt (Nat.lt_of_lt_of_le lt21_32 q41)
 have ne22_41 : b22 ≠ b41 := Nat.ne_of_lt (Nat.lt_of_lt_of_le lt22_32 q41)
 replace q41 := Nat.le_trans hz32 q41
 simp only [putl, p3, p4]
 refine oe ?_
 refine es 30 0 (.agg #[p38, q38, r38, s38]) [p38, q38, r38, s38] #[p38, q38, r38, s38] L41 hB q41 ⟨h38.one0, h38.one1, h38.one2, h38.one3, trivial⟩ fun w43 st43 kp43 L41 hB => ?_
 replace L4 := st43.lc (L4.gr g40) ne4_41
 refine ⟨L4, ?_⟩
 refine ov 12 (.int .i64 0) ?_
 simp only [p3, p4]
 refine ord_nil ?_
 refine k31 _ _ ?_
 try clear k31 K31
 refine wp_seq_k (fun K44 k44 => ?_)
 have gd95 := Gr.drew w43
 replace hB := hB.trans gd95
 replace L4 := L4.gr gd95
 replace L19 := (st43.lc (L19.gr (gd32.trans (g33.trans (g34.trans (g35.trans (g36.trans (g37.trans (g38.trans g40)))))))) ne19_41).gr gd95
 replace L20 := (st43.lc (L20.gr (gd32.trans (g33.trans (g34.trans (g35.trans (g36.trans (g37.trans (g38.trans g40)))))))) ne20_41).gr gd95
 replace L21 := (st43.lc (L21.gr (gd32.trans (g33.trans (g34.trans (g35.trans (g36.trans (g37.trans (g38.trans g40)))))))) ne21_41).gr gd95
 replace L22 := (st43.lc (L22.gr (gd32.trans (g33.trans (g34.trans (g35.trans (g36.trans (g37.trans (g38.trans g40)))))))) ne22_41).gr gd95
 replace L41 := L41.gr gd95
 refine wp_region_ord (fun w' => Lc w' b4 #[(.int .i64 (ka)), (.int .i64 (kb))] 87 ∧ Lc w' b19 #[t11_0, t11_1, t11_2, t11_3, t11_4, t11_5, t11_6, t11_7, t11_8, t11_9, t11_10, t11_11] 32 ∧ Lc w' b20 #[t13_0, t13_1, t13_2, t13_3, t13_4, t13_5, t13_6, t13_7, t13_8, t13_9, t13_10, t13_11] 32 ∧ Lc w' b21 #[(.string ⟨(ratL (a1) : List UInt8).toArray⟩), (.string ⟨(ratL (a2) : List UInt8).toArray⟩), (.string ⟨(ratL (a3) : List UInt8).toArray⟩)] 49 ∧ Lc w' b22 #[(.string ⟨(ratL (c1) : List UInt8).toArray⟩), (.string ⟨(ratL (c2) : List UInt8).toArray⟩), (.string ⟨(ratL (c3) : List UInt8).toArray⟩)] 49 ∧ Lc w' b41 #[p38, q38, r38, s38] 30) [(true, 0), (true, 1), (true, 3), (true, 4), (false, 2), (false, 5), (false, 6), (true, 7), (true, 8), (true, 9), (true, 11), (true, 12), (false, 10), (false, 13), (false, 14), (true, 15), (true, 16), (true, 17), (true, 19), (false, 18), (false, 20), (false, 21), (true, 22), (true, 23), (true, 24), (true, 25), (true, 27), (true, 28), (true, 29), (true, 31), (true, 32), (false, 26), (false, 30), (false, 33), (false, 34), (false, 35), (false, 36), (true, 37), (true, 38), (true, 39), (true, 40), (false, 41), (true, 42), (true, 43), (true, 44), (true, 45), (false, 46), (true, 47), (true, 48)] (by kernel_rfl) (by kernel_rfl) (by kernel_rfl) (by decide) (fun _ _ _ _ _ h => h) ⟨L4, L19, L20, L21, L22, L41⟩ ?_
 refine ow 39 (.agg #[t11_0, t11_1, t11_2, t11_3, t11_4, t11_5, t11_6, t11_7, t11_8, t11_9, t11_10, t11_11]) rfl (fun w' hS => (rl 32 0 [t11_0, t11_1, t11_2, t11_3, t11_4, t11_5, t11_6, t11_7, t11_8, t11_9, t11_10, t11_11] hS.2.1)) ?_
 simp only [p3, p4]
 refine ow 40 (.agg #[t13_0, t13_1, t13_2, t13_3, t13_4, t13_5, t13_6, t13_7, t13_8, t13_9, t13_10, t13_11]) rfl (fun w' hS => (rl 32 0 [t13_0, t13_1, t13_2, t13_3, t13_4, t13_5, t13_6, t13_7, t13_8, t13_9, t13_10, t13_11] hS.2.2.1)) ?_
 simp only [p3, p4]
 refine ow 42 (.agg #[(.string ⟨(ratL (a1) : List UInt8).toArray⟩), (.string ⟨(ratL (a2) : List UInt8).toArray⟩), (.string ⟨(ratL (a3) : List UInt8).toArray⟩)]) rfl (fun w' hS => (rl 49 0 [(.string ⟨(ratL (a1) : List UInt8).toArray⟩), (.string ⟨(ratL (a2) : List UInt8).toArray⟩), (.string ⟨(ratL (a3) : List UInt8).toArray⟩)] hS.2.2.2.1)) ?_
 simp only [p3, p4]
 refine ow 43 (.agg #[(.string ⟨(ratL (c1) : List UInt8).toArray⟩), (.string ⟨(ratL (c2) : List UInt8).toArray⟩), (.string ⟨(ratL (c3) : List UInt8).toArray⟩)]) rfl (fun w' hS => (rl 49 0 [(.string ⟨(ratL (c1) : List UInt8).toArray⟩), (.string ⟨(ratL (c2) : List UInt8).toArray⟩), (.string ⟨(ratL (c3) : List UInt8).toArray⟩)] hS.2.2.2.2.1)) ?_
 simp only [p3, p4]
 refine oe ?_
 have kq98 := g12.kp.trans (g13.kp.trans (g14.kp.trans (g15.kp.trans (g16.kp.trans (g17.kp.trans (g18.kp.trans (kp24.trans (kp26.trans (kp28.trans (kp30.trans (gd32.kp.trans (g33.kp.trans (g34.kp.trans (g35.kp.trans (g36.kp.trans (g37.kp.trans (g38.kp.trans (g40.kp.trans (kp43.trans gd95.kp)))))))))))))))))))
 replace h11a := h11a.kp kq98
 replace h11b := h11b.kp kq98
 replace h11c := h11c.kp kq98
 have kq99 := g14.kp.trans (g15.kp.trans (g16.kp.trans (g17.kp.trans (g18.kp.trans (kp24.trans (kp26.trans (kp28.trans (kp30.trans (gd32.kp.trans (g33.kp.trans (g34.kp.trans (g35.kp.trans (g36.kp.trans (g37.kp.trans (g38.kp.trans (g40.kp.trans (kp43.trans gd95.kp)))))))))))))))))
 replace h13a := h13a.kp kq99
 replace h13b := h13b.kp kq99
 replace h13c := h13c.kp kq99
 refine ec 41 (vadd_v h11a h11b h11c h13a h13b h13c (by omega)) ?_
 rintro e97 w97 ⟨⟨t97_0, t97_1, t97_2, t97_3, t97_4, t97_5, t97_6, t97_7, t97_8, t97_9, t97_10, t97_11, rfl, h97a, h97b, h97c⟩, g97⟩
 refine ⟨_, rfl, ?_⟩
 replace hB := hB.trans g97
 replace L4 := L4.gr g97
 replace L19 := L19.gr g97
 replace L20 := L20.gr g97
 replace L21 := L21.gr g97
 replace L22 := L22.gr g97
 replace L41 := L41.gr g97
 refine ⟨⟨L4, L19, L20, L21, L22, L41⟩, ?_⟩
 simp only [p3, p4]
 refine oe ?_
 refine ec 44 (r3_add (a1) (a2) (a3) ha1 ha2 ha3 (c1) (c2) (c3) hc1 hc2 hc3 (by omega) _) ?_
 rintro e101 w101 ⟨rfl, g101⟩
 refine ⟨_, rfl, ?_⟩
 replace hB := hB.trans g101
 replace L4 := L4.gr g101
 replace L19 := L19.gr g101
 replace L20 := L20.gr g101
 replace L21 := L21.gr g101
 replace L22 := L22.gr g101
 replace L41 := L41.gr g101
 refine ⟨⟨L4, L19, L20, L21, L22, L41⟩, ?_⟩
 simp only [p3, p4]
 refine oe ?_
 replace h97a := h97a.kp g101.kp
 replace h97b := h97b.kp g101.kp
 replace h97c := h97c.kp g101.kp
 refine ec 45 (is_v (ratL (a1 + c1)) (ratL (a2 + c2)) (ratL (a3 + c3)) h97a h97b h97c (by omega) (ht.gr hB)) ?_
 rintro e103 w103 ⟨rfl, g103⟩
 refine ⟨_, rfl, ?_⟩
 replace hB := hB.trans g103
 replace L4 := L4.gr g103
 replace L19 := L19.gr g103
 replace L20 := L20.gr g103
 replace L21 := L21.gr g103
 replace L22 := L22.gr g103
 replace L41 := L41.gr g103
 refine ⟨⟨L4, L19, L20, L21, L22, L41⟩, ?_⟩
 simp only [p3, p4]
 have hb104 : (sEq [ratL ((a1 + c1)), ratL ((a2 + c2)), ratL ((a3 + c3))] [ratL (a1 + c1), ratL (a2 + c2), ratL (a3 + c3)]) = true := (lawSu0 a1 a2 a3 c1 c2 c3 )
 refine ow 46 (.bool true) rfl (fun w' hS => (RunV.bool (x := sEq [ratL ((a1 + c1)), ratL ((a2 + c2)), ratL ((a3 + c3))] [ratL (a1 + c1), ratL (a2 + c2), ratL (a3 + c3)]) (rvk (by kernel_rfl)) hb104)) ?_
 simp only [p3, p4]
 refine ow 47 (.agg #[t11_0, t11_1, t11_2, t11_3, t11_4, t11_5, t11_6, t11_7, t11_8, t11_9, t11_10, t11_11]) rfl (fun w' hS => (rl 32 0 [t11_0, t11_1, t11_2, t11_3, t11_4, t11_5, t11_6, t11_7, t11_8, t11_9, t11_10, t11_11] hS.2.1)) ?_
 simp only [p3, p4]
 refine ow 48 (.agg #[t13_0, t13_1, t13_2, t13_3, t13_4, t13_5, t13_6, t13_7, t13_8, t13_9, t13_10, t13_11]) rfl (fun w' hS => (rl 32 0 [t13_0, t13_1, t13_2, t13_3, t13_4, t13_5, t13_6, t13_7, t13_8, t13_9, t13_10, t13_11] hS.2.2.1)) ?_
 simp only [p3, p4]
 refine ow 50 (.agg #[(.string ⟨(ratL (a1) : List UInt8).toArray⟩), (.string ⟨(ratL (a2) : List UInt8).toArray⟩), (.string ⟨(ratL (a3) : List UInt8).toArray⟩)]) rfl (fun w' hS => (rl 49 0 [(.string ⟨(ratL (a1) : List UInt8).toArray⟩), (.string ⟨(ratL (a2) : List UInt8).toArray⟩), (.string ⟨(ratL (a3) : List UInt8).toArray⟩)] hS.2.2.2.1)) ?_
 simp only [p3, p4]
 refine ow 51 (.agg #[(.string ⟨(ratL (c1) : List UInt8).toArray⟩), (.string ⟨(ratL (c2) : List UInt8).toArray⟩), (.string ⟨(ratL (c3) : List UInt8).toArray⟩)]) rfl (fun w' hS => (rl 49 0 [(.string ⟨(ratL (c1) : List UInt8).toArray⟩), (.string ⟨(ratL (c2) : List UInt8).toArray⟩), (.string ⟨(ratL (c3) : List UInt8).toArray⟩)] hS.2.2.2.2.1)) ?_
 simp only [p3, p4]
 refine oe ?_
 have kq107 := g97.kp.trans (g101.kp.trans g103.kp)
 replace h11a := h11a.kp kq107
 replace h11b := h11b.kp kq107
 replace h11c := h11c.kp kq107
 replace h13a := h13a.kp kq107
 replace h13b := h13b.kp kq107
 replace h13c := h13c.kp kq107
 refine ec 49 (vsub_v h11a h11b h11c h13a h13b h13c (by omega)) ?_
 rintro e106 w106 ⟨⟨t106_0, t106_1, t106_2, t106_3, t106_4, t106_5, t106_6, t106_7, t106_8, t106_9, t106_10, t106_11, rfl, h106a, h106b, h106c⟩, g106⟩
 refine ⟨_, rfl, ?_⟩
 replace hB := hB.trans g106
 replace L4 := L4.gr g106
 replace L19 := L19.gr g106
 replace L20 := L20.gr g106
 replace L21 := L21.gr g106
 replace L22 := L22.gr g106
 replace L41 := L41.gr g106
 refine ⟨⟨L4, L19, L20, L21, L22, L41⟩, ?_⟩
 simp only [p3, p4]
 refine oe ?_
 refine ec 52 (r3_sub (a1) (a2) (a3) ha1 ha2 ha3 (c1) (c2) (c3) hc1 hc2 hc3 (by omega) _) ?_
 rintro e109 w109 ⟨rfl, g109⟩
 refine ⟨_, rfl, ?_⟩
 replace hB := hB.trans g109
 replace L4 := L4.gr g109
 replace L19 := L19.gr g109
 replace L20 := L20.gr g109
 replace L21 := L21.gr g109
 replace L22 := L22.gr g109
 replace L41 := L41.gr g109
 refine ⟨⟨L4, L19, L20, L21, L22, L41⟩, ?_⟩
 simp only [p3, p4]
 refine oe ?_
 replace h106a := h106a.kp g109.kp
 replace h106b := h106b.kp g109.kp
 replace h106c := h106c.kp g109.kp
 refine ec 53 (is_v (ratL (a1 - c1)) (ratL (a2 - c2)) (ratL (a3 - c3)) h106a h106b h106c (by omega) (ht.gr hB)) ?_
 rintro e111 w111 ⟨rfl, g111⟩
 refine ⟨_, rfl, ?_⟩
 replace hB := hB.trans g111
 replace L4 := L4.gr g111
 replace L19 := L19.gr g111
 replace L20 := L20.gr g111
 replace L21 := L21.gr g111
 replace L22 := L22.gr g111
 replace L41 := L41.gr g111
 refine ⟨⟨L4, L19, L20, L21, L22, L41⟩, ?_⟩
 simp only [p3, p4]
 have hb112 : (sEq [ratL ((a1 - c1)), ratL ((a2 - c2)), ratL ((a3 - c3))] [ratL (a1 - c1), ratL (a2 - c2), ratL (a3 - c3)]) = true := (lawSu1 a1 a2 a3 c1 c2 c3 )
 refine ow 54 (.bool true) rfl (fun w' hS => (RunV.bool (x := sEq [ratL ((a1 - c1)), ratL ((a2 - c2)), ratL ((a3 - c3))] [ratL (a1 - c1), ratL (a2 - c2), ratL (a3 - c3)]) (rvk (by kernel_rfl)) hb112)) ?_
 simp only [p3, p4]
 refine ov 55 (.bool true) ?_
 simp only [p3, p4]
 refine ow 56 (.agg #[t11_0, t11_1, t11_2, t11_3, t11_4, t11_5, t11_6, t11_7, t11_8, t11_9, t11_10, t11_11]) rfl (fun w' hS => (rl 32 0 [t11_0, t11_1, t11_2, t11_3, t11_4, t11_5, t11_6, t11_7, t11_8, t11_9, t11_10, t11_11] hS.2.1)) ?_
 simp only [p3, p4]
 refine ow 58 (.agg #[(.string ⟨(ratL (a1) : List UInt8).toArray⟩), (.string ⟨(ratL (a2) : List UInt8).toArray⟩), (.string ⟨(ratL (a3) : List UInt8).toArray⟩)]) rfl (fun w' hS => (rl 49 0 [(.string ⟨(ratL (a1) : List UInt8).toArray⟩), (.string ⟨(ratL (a2) : List UInt8).toArray⟩), (.string ⟨(ratL (a3) : List UInt8).toArray⟩)] hS.2.2.2.1)) ?_
 simp only [p3, p4]
 refine oe ?_
 have kq115 := g106.kp.trans (g109.kp.trans g111.kp)
 replace h11a := h11a.kp kq115
 replace h11b := h11b.kp kq115
 replace h11c := h11c.kp kq115
 refine ec 57 (vneg_v h11a h11b h11c (by omega)) ?_
 rintro e114 w114 ⟨⟨t114_0, t114_1, t114_2, t114_3, t114_4, t114_5, t114_6, t114_7, t114_8, t114_9, t114_10, t114_11, rfl, h114a, h114b, h114c⟩, g114⟩
 refine ⟨_, rfl, ?_⟩
 replace hB := hB.trans g114
 replace L4 := L4.gr g114
 replace L19 := L19.gr g114
 replace L20 := L20.gr g114
 replace L21 := L21.gr g114
 replace L22 := L22.gr g114
 replace L41 := L41.gr g114
 refine ⟨⟨L4, L19, L20, L21, L22, L41⟩, ?_⟩
 simp only [p3, p4]
 refine oe ?_
 refine ec 59 (r3_neg (a1) (a2) (a3) ha1 ha2 ha3 (by omega) _) ?_
 rintro e117 w117 ⟨rfl, g117⟩
 refine ⟨_, rfl, ?_⟩
 replace hB := hB.trans g117
 replace L4 := L4.gr g117
 replace L19 := L19.gr g117
 replace L20 := L20.gr g117
 replace L21 := L21.gr g117
 replace L22 := L22.gr g117
 replace L41 := L41.gr g117
 refine ⟨⟨L4, L19, L20, L21, L22, L41⟩, ?_⟩
 simp only [p3, p4]
 refine oe ?_
 replace h114a := h114a.kp g117.kp
 replace h114b := h114b.kp g117.kp
 replace h114c := h114c.kp g117.kp
 refine ec 60 (is_v (ratL (-a1)) (ratL (-a2)) (ratL (-a3)) h114a h114b h114c (by omega) (ht.gr hB)) ?_
 rintro e119 w119 ⟨rfl, g119⟩
 refine ⟨_, rfl, ?_⟩
 replace hB := hB.trans g119
 replace L4 := L4.gr g119
 replace L19 := L19.gr g119
 replace L20 := L20.gr g119
 replace L21 := L21.gr g119
 replace L22 := L22.gr g119
 replace L41 := L41.gr g119
 refine ⟨⟨L4, L19, L20, L21, L22, L41⟩, ?_⟩
 simp only [p3, p4]
 have hb120 : (sEq [ratL ((0 - a1)), ratL ((0 - a2)), ratL ((0 - a3))] [ratL (-a1), ratL (-a2), ratL (-a3)]) = true := (lawSu2 a1 a2 a3 )
 refine ow 61 (.bool true) rfl (fun w' hS => (RunV.bool (x := sEq [ratL ((0 - a1)), ratL ((0 - a2)), ratL ((0 - a3))] [ratL (-a1), ratL (-a2), ratL (-a3)]) (rvk (by kernel_rfl)) hb120)) ?_
 simp only [p3, p4]
 refine ov 62 (.bool true) ?_
 simp only [p3, p4]
 refine ow 63 (.agg #[t11_0, t11_1, t11_2, t11_3, t11_4, t11_5, t11_6, t11_7, t11_8, t11_9, t11_10, t11_11]) rfl (fun w' hS => (rl 32 0 [t11_0, t11_1, t11_2, t11_3, t11_4, t11_5, t11_6, t11_7, t11_8, t11_9, t11_10, t11_11] hS.2.1)) ?_
 simp only [p3, p4]
 refine ow 64 (.agg #[p38, q38, r38, s38]) rfl (fun w' hS => (rl 30 0 [p38, q38, r38, s38] hS.2.2.2.2.2)) ?_
 simp only [p3, p4]
 refine ow 66 (.agg #[(.string ⟨(ratL (a1) : List UInt8).toArray⟩), (.string ⟨(ratL (a2) : List UInt8).toArray⟩), (.string ⟨(ratL (a3) : List UInt8).toArray⟩)]) rfl (fun w' hS => (rl 49 0 [(.string ⟨(ratL (a1) : List UInt8).toArray⟩), (.string ⟨(ratL (a2) : List UInt8).toArray⟩), (.string ⟨(ratL (a3) : List UInt8).toArray⟩)] hS.2.2.2.1)) ?_
 simp only [p3, p4]
 refine ov 67 (.pointer (some ⟨b4, 0, none⟩)) ?_
 simp only [p3, p4]
 refine ow 68 (.int .i64 (ka)) rfl (fun w' hS => (rk 3 0 hS.1)) ?_
 simp only [p3, p4]
 refine ov 70 (.pointer (some ⟨b4, 1, none⟩)) ?_
 simp only [p3, p4]
 refine ow 71 (.int .i64 (kb)) rfl (fun w' hS => (rk 3 1 hS.1)) ?_
 simp only [p3, p4]
 refine oe ?_
 have kq123 := g114.kp.trans (g117.kp.trans g119.kp)
 replace h11a := h11a.kp kq123
 replace h11b := h11b.kp kq123
 replace h11c := h11c.kp kq123
 have kq124 := g40.kp.trans (kp43.trans (gd95.kp.trans (g97.kp.trans (g101.kp.trans (g103.kp.trans (g106.kp.trans (g109.kp.trans (g111.kp.trans (g114.kp.trans (g117.kp.trans g119.kp))))))))))
 replace h38 := h38.kp kq124
 refine ec 65 (vscale_v h11a h11b h11c h38 (by omega)) ?_
 rintro e122 w122 ⟨⟨t122_0, t122_1, t122_2, t122_3, t122_4, t122_5, t122_6, t122_7, t122_8, t122_9, t122_10, t122_11, rfl, h122a, h122b, h122c⟩, g122⟩
 refine ⟨_, rfl, ?_⟩
 replace hB := hB.trans g122
 replace L4 := L4.gr g122
 replace L19 := L19.gr g122
 replace L20 := L20.gr g122
 replace L21 := L21.gr g122
 replace L22 := L22.gr g122
 replace L41 := L41.gr g122
 refine ⟨⟨L4, L19, L20, L21, L22, L41⟩, ?_⟩
 simp only [p3, p4]
 refine oe ?_
 refine ec 69 (r2_from (ka) (by omega) (by omega) _) ?_
 rintro e126 w126 ⟨rfl, g126⟩
 refine ⟨_, rfl, ?_⟩
 replace hB := hB.trans g126
 replace L4 := L4.gr g126
 replace L19 := L19.gr g126
 replace L20 := L20.gr g126
 replace L21 := L21.gr g126
 replace L22 := L22.gr g126
 replace L41 := L41.gr g126
 refine ⟨⟨L4, L19, L20, L21, L22, L41⟩, ?_⟩
 simp only [p3, p4]
 refine oe ?_
 refine ec 72 (r2_from (kb) (by omega) (by omega) _) ?_
 rintro e128 w128 ⟨rfl, g128⟩
 refine ⟨_, rfl, ?_⟩
 replace hB := hB.trans g128
 replace L4 := L4.gr g128
 replace L19 := L19.gr g128
 replace L20 := L20.gr g128
 replace L21 := L21.gr g128
 replace L22 := L22.gr g128
 replace L41 := L41.gr g128
 refine ⟨⟨L4, L19, L20, L21, L22, L41⟩, ?_⟩
 simp only [p3, p4]
 refine oe ?_
 refine ec 73 (r2_div (((ka : Int) : Rat)) (((kb : Int) : Rat)) (rs_i64 (n := ka) (by omega)) (rs_i64 (n := kb) (by omega)) hk1n (by omega) _) ?_
 rintro e130 w130 ⟨rfl, g130⟩
 refine ⟨_, rfl, ?_⟩
 replace hB := hB.trans g130
 replace L4 := L4.gr g130
 replace L19 := L19.gr g130
 replace L20 := L20.gr g130
 replace L21 := L21.gr g130
 replace L22 := L22.gr g130
 replace L41 := L41.gr g130
 refine ⟨⟨L4, L19, L20, L21, L22, L41⟩, ?_⟩
 simp only [p3, p4]
 refine oe ?_
 refine ec 74 (r3_scale (a1) (a2) (a3) ha1 ha2 ha3 (((ka : Int) : Rat) / ((kb : Int) : Rat)) ((rs_i64 (n := ka) (by omega)).div (rs_i64 (n := kb) (by omega)) hk1n) (by omega) _) ?_
 rintro e132 w132 ⟨rfl, g132⟩
 refine ⟨_, rfl, ?_⟩
 replace hB := hB.trans g132
 replace L4 := L4.gr g132
 replace L19 := L19.gr g132
 replace L20 := L20.gr g132
 replace L21 := L21.gr g132
 replace L22 := L22.gr g132
 replace L41 := L41.gr g132
 refine ⟨⟨L4, L19, L20, L21, L22, L41⟩, ?_⟩
 simp only [p3, p4]
 refine oe ?_
 have kq135 := g126.kp.trans (g128.kp.trans (g130.kp.trans g132.kp))
 replace h122a := h122a.kp kq135
 replace h122b := h122b.kp kq135
 replace h122c := h122c.kp kq135
 refine ec 75 (is_v (ratL (a1 * (((ka : Int) : Rat) / ((kb : Int) : Rat)))) (ratL (a2 * (((ka : Int) : Rat) / ((kb : Int) : Rat)))) (ratL (a3 * (((ka : Int) : Rat) / ((kb : Int) : Rat)))) h122a h122b h122c (by omega) (ht.gr hB)) ?_
 rintro e134 w134 ⟨rfl, g134⟩
 refine ⟨_, rfl, ?_⟩
 replace hB := hB.trans g134
 replace L4 := L4.gr g134
 replace L19 := L19.gr g134
 replace L20 := L20.gr g134
 replace L21 := L21.gr g134
 replace L22 := L22.gr g134
 replace L41 := L41.gr g134
 refine ⟨⟨L4, L19, L20, L21, L22, L41⟩, ?_⟩
 simp only [p3, p4]
 have hb136 : (sEq [ratL ((((((ka : Int) : Rat)) / (((kb : Int) : Rat))) * a1)), ratL ((((((ka : Int) : Rat)) / (((kb : Int) : Rat))) * a2)), ratL ((((((ka : Int) : Rat)) / (((kb : Int) : Rat))) * a3))] [ratL (a1 * (((ka : Int) : Rat) / ((kb : Int) : Rat))), ratL (a2 * (((ka : Int) : Rat) / ((kb : Int) : Rat))), ratL (a3 * (((ka : Int) : Rat) / ((kb : Int) : Rat)))]) = true := (lawSu3 a1 a2 a3 ((ka : Int) : Rat) ((kb : Int) : Rat) )
 refine ow 76 (.bool true) rfl (fun w' hS => (RunV.bool (x := sEq [ratL ((((((ka : Int) : Rat)) / (((kb : Int) : Rat))) * a1)), ratL ((((((ka : Int) : Rat)) / (((kb : Int) : Rat))) * a2)), ratL ((((((ka : Int) : Rat)) / (((kb : Int) : Rat))) * a3))] [ratL (a1 * (((ka : Int) : Rat) / ((kb : Int) : Rat))), ratL (a2 * (((ka : Int) : Rat) / ((kb : Int) : Rat))), ratL (a3 * (((ka : Int) : Rat) / ((kb : Int) : Rat)))]) (rvk (by kernel_rfl)) hb136)) ?_
 simp only [p3, p4]
 refine ov 77 (.bool true) ?_
 simp only [p3, p4]
 refine ow 78 (.agg #[t11_0, t11_1, t11_2, t11_3, t11_4, t11_5, t11_6, t11_7, t11_8, t11_9, t11_10, t11_11]) rfl (fun w' hS => (rl 32 0 [t11_0, t11_1, t11_2, t11_3, t11_4, t11_5, t11_6, t11_7, t11_8, t11_9, t11_10, t11_11] hS.2.1)) ?_
 simp only [p3, p4]
 refine ow 79 (.agg #[(.string ⟨(ratL (a1) : List UInt8).toArray⟩), (.string ⟨(ratL (a2) : List UInt8).toArray⟩), (.string ⟨(ratL (a3) : List UInt8).toArray⟩)]) rfl (fun w' hS => (rl 49 0 [(.string ⟨(ratL (a1) : List UInt8).toArray⟩), (.string ⟨(ratL (a2) : List UInt8).toArray⟩), (.string ⟨(ratL (a3) : List UInt8).toArray⟩)] hS.2.2.2.1)) ?_
 simp only [p3, p4]
 refine oe ?_
 have kq139 := g122.kp.trans (g126.kp.trans (g128.kp.trans (g130.kp.trans (g132.kp.trans g134.kp))))
 replace h11a := h11a.kp kq139
 replace h11b := h11b.kp kq139
 replace h11c := h11c.kp kq139
 refine ec 80 (is_v (ratL (a1)) (ratL (a2)) (ratL (a3)) h11a h11b h11c (by omega) (ht.gr hB)) ?_
 rintro e138 w138 ⟨rfl, g138⟩
 refine ⟨_, rfl, ?_⟩
 replace hB := hB.trans g138
 replace L4 := L4.gr g138
 replace L19 := L19.gr g138
 replace L20 := L20.gr g138
 replace L21 := L21.gr g138
 replace L22 := L22.gr g138
 replace L41 := L41.gr g138
 refine ⟨⟨L4, L19, L20, L21, L22, L41⟩, ?_⟩
 simp only [p3, p4]
 have hb140 : (sEq [ratL (a1), ratL (a2), ratL (a3)] [ratL (a1), ratL (a2), ratL (a3)]) = true := (lawSu4 a1 a2 a3 )
 refine ow 81 (.bool true) rfl (fun w' hS => (RunV.bool (x := sEq [ratL (a1), ratL (a2), ratL (a3)] [ratL (a1), ratL (a2), ratL (a3)]) (rvk (by kernel_rfl)) hb140)) ?_
 simp only [p3, p4]
 refine ov 82 (.bool true) ?_
 simp only [p3, p4]
 refine ow 83 (.agg #[t13_0, t13_1, t13_2, t13_3, t13_4, t13_5, t13_6, t13_7, t13_8, t13_9, t13_10, t13_11]) rfl (fun w' hS => (rl 32 0 [t13_0, t13_1, t13_2, t13_3, t13_4, t13_5, t13_6, t13_7, t13_8, t13_9, t13_10, t13_11] hS.2.2.1)) ?_
 simp only [p3, p4]
 refine ow 84 (.agg #[(.string ⟨(ratL (c1) : List UInt8).toArray⟩), (.string ⟨(ratL (c2) : List UInt8).toArray⟩), (.string ⟨(ratL (c3) : List UInt8).toArray⟩)]) rfl (fun w' hS => (rl 49 0 [(.string ⟨(ratL (c1) : List UInt8).toArray⟩), (.string ⟨(ratL (c2) : List UInt8).toArray⟩), (.string ⟨(ratL (c3) : List UInt8).toArray⟩)] hS.2.2.2.2.1)) ?_
 simp only [p3, p4]
 refine oe ?_
 have kq143 := g106.kp.trans (g109.kp.trans (g111.kp.trans (g114.kp.trans (g117.kp.trans (g119.kp.trans (g122.kp.trans (g126.kp.trans (g128.kp.trans (g130.kp.trans (g132.kp.trans (g134.kp.trans g138.kp)))))))))))
 replace h13a := h13a.kp kq143
 replace h13b := h13b.kp kq143
 replace h13c := h13c.kp kq143
 refine ec 85 (is_v (ratL (c1)) (ratL (c2)) (ratL (c3)) h13a h13b h13c (by omega) (ht.gr hB)) ?_
 rintro e142 w142 ⟨rfl, g142⟩
 refine ⟨_, rfl, ?_⟩
 replace hB := hB.trans g142
 replace L4 := L4.gr g142
 replace L19 := L19.gr g142
 replace L20 := L20.gr g142
 replace L21 := L21.gr g142
 replace L22 := L22.gr g142
 replace L41 := L41.gr g142
 refine ⟨⟨L4, L19, L20, L21, L22, L41⟩, ?_⟩
 simp only [p3, p4]
 have hb144 : (sEq [ratL (c1), ratL (c2), ratL (c3)] [ratL (c1), ratL (c2), ratL (c3)]) = true := (lawSu5 c1 c2 c3 )
 refine ow 86 (.bool true) rfl (fun w' hS => (RunV.bool (x := sEq [ratL (c1), ratL (c2), ratL (c3)] [ratL (c1), ratL (c2), ratL (c3)]) (rvk (by kernel_rfl)) hb144)) ?_
 simp only [p3, p4]
 refine ov 6 (.bool true) ?_
 simp only [p3, p4]
 refine ord_nil ?_
 refine k44 _ _ ?_
 try clear k44 K44
 refine wp_ret ?_
 refine bodyPost_ret (v := (.bool true)) (ret_tmp rfl rfl) rfl ⟨?_, hB⟩
 exact rfl

theorem vector_sums (ia1 ia2 ia3 da : Int) (ja1 : -128 ≤ ia1 ∧ ia1 ≤ 127) (ja2 : -128 ≤ ia2 ∧ ia2 ≤ 127) (ja3 : -128 ≤ ia3 ∧ ia3 ≤ 127) (jda : 0 ≤ da ∧ da ≤ 255) (ic1 ic2 ic3 dc : Int) (jc1 : -128 ≤ ic1 ∧ ic1 ≤ 127) (jc2 : -128 ≤ ic2 ∧ ic2 ≤ 127) (jc3 : -128 ≤ ic3 ∧ ic3 ≤ 127) (jdc : 0 ≤ dc ∧ dc ≤ 255) (ka kb : Int) (jka : -9223372036854775808 ≤ ka ∧ ka ≤ 9223372036854775807) (jkb : -9223372036854775808 ≤ kb ∧ kb ≤ 9223372036854775807) (w : World) (ht : Tab w) (hm : Mx w) :
    Calls Tryz.prog 10 #[(.agg #[(.int .i8 (ia1)), (.int .i8 (ia2)), (.int .i8 (ia3)), (.int .u8 (da))]), (.agg #[(.int .i8 (ic1)), (.int .i8 (ic2)), (.int .i8 (ic3)), (.int .u8 (dc))]), (.agg #[(.int .i64 (ka)), (.int .i64 (kb))])] w fun e w' => e = .returned (.bool true) ∧ Gr w w' := by
  obtain ⟨a1, ea1⟩ : ∃ r : Rat, r = ((ia1 : Int) : Rat) / ((1 + da % 6 : Int) : Rat) := ⟨_, rfl⟩
  obtain ⟨a2, ea2⟩ : ∃ r : Rat, r = ((ia2 : Int) : Rat) / ((1 + da % 6 : Int) : Rat) := ⟨_, rfl⟩
  obtain ⟨a3, ea3⟩ : ∃ r : Rat, r = ((ia3 : Int) : Rat) / ((1 + da % 6 : Int) : Rat) := ⟨_, rfl⟩
  obtain ⟨c1, ec1⟩ : ∃ r : Rat, r = ((ic1 : Int) : Rat) / ((1 + dc % 6 : Int) : Rat) := ⟨_, rfl⟩
  obtain ⟨c2, ec2⟩ : ∃ r : Rat, r = ((ic2 : Int) : Rat) / ((1 + dc % 6 : Int) : Rat) := ⟨_, rfl⟩
  obtain ⟨c3, ec3⟩ : ∃ r : Rat, r = ((ic3 : Int) : Rat) / ((1 + dc % 6 : Int) : Rat) := ⟨_, rfl⟩
  by_cases hk1 : kb = 0
  · exact vsums_0 ia1 ia2 ia3 da ja1 ja2 ja3 jda a1 a2 a3 ea1 ea2 ea3 ic1 ic2 ic3 dc jc1 jc2 jc3 jdc c1 c2 c3 ec1 ec2 ec3 ka kb jka hk1 jkb w ht hm
  · exact vsums_q ia1 ia2 ia3 da ja1 ja2 ja3 jda a1 a2 a3 ea1 ea2 ea3 ic1 ic2 ic3 dc jc1 jc2 jc3 jdc c1 c2 c3 ec1 ec2 ec3 ka kb jka hk1 jkb w ht hm

end Go.Proofs.YtlcmllfacolkaaaGreatDoor
/- The law VectorSums holds of every input: its row, and its card tied to the program's text. Printed by a program of the prover's. -/
namespace Go.Proofs.YtlcmllfacolkaaaGreatDoor
open Go.ChangeShapes Go.WideShapes Go.ChangeAt Go.RowKit

theorem vectorSums_table {W : World} (h : laidMetH Tryz.prog Rows.vectorSumsRow.laid W) : Tab W :=
  Lib.tabIs_of_head (rest := _) (g := 1) (t := 208) (e := 132) (n := 20) (by kernel_rfl) (by kernel_rfl) (by kernel_rfl) (by kernel_rfl) (by kernel_rfl) (by kernel_rfl) ((show laidMet Tryz.prog Rows.vectorSumsRow.laid W from (MakeChecks.laidMetH_plain _ _ _ (by kernel_rfl)) ▸ h).tail.tail)
theorem vectorSums_maxlen {W : World} (h : W.ShapedOpen Tryz.prog) : Mx W :=
  Go.Proofs.cell_of_shapedOpen_int (zero := #[.int .i64 0]) (g := 0) (t := 3) h (of_decide_eq_true (by kernel_rfl)) (by kernel_rfl) rfl (by kernel_rfl) (by kernel_rfl) Tryz.underlying3
set_option maxRecDepth 100000 in
theorem vectorSums_contract (H : Type) (enc : TypeId × Value → H) (W : World) (base : Nat) (args : Array Value) (ds gs : List (DataW H)) (before : List MemPlace)
    (hval : ∀ (j : Nat) t v, Tryz.f10.params[j]? = some t → args[j]? = some v → Value.okWide Tryz.prog W .any base t v)
    (hW : DataW.Whole enc Tryz.prog Tryz.f10.params.toList Rows.vectorSumsSpec.vars false W args.toList ds gs before) (hL : laidMetH Tryz.prog Rows.vectorSumsRow.laid W) (hsh : W.ShapedOpen Tryz.prog) :
    Calls Tryz.prog 10 args W fun e W' => ∃ v, e = .returned v ∧ Rows.vectorSumsSpec.post enc Tryz.prog Tryz.f10 false true false false W args v W' := by
  have hW' := hW
  obtain ⟨p, q, hA0, hV, rfl, hfz, hnd⟩ := hW
  have hA : DataW.TrodAll enc Tryz.prog W 0 (fun _ => true) true Tryz.f10.params.toList args.toList ds p := hA0
  rw [Tryz.params10] at hA hval
  obtain ⟨v0, vs0, d0, ds0, p0, q0, hargs, rfl, rfl, h0, r0⟩ := trodAll_cons hA
  obtain ⟨v1, vs1, d1, ds1, p1, q1, rfl, rfl, rfl, h1, r1⟩ := trodAll_cons r0
  obtain ⟨v2, vs2, d2, ds2, p2, q2, rfl, rfl, rfl, h2, r2⟩ := trodAll_cons r1
  obtain ⟨rfl, rfl, rfl⟩ := trodAll_nil r2
  obtain rfl : args = #[v0, v1, v2] := by cases args; simp_all
  obtain ⟨rfl, rfl⟩ := trodVars_none hV
  obtain ⟨c0, rfl, z0, o0⟩ := open_cells (ts := [39, 39, 39, 5]) [.i8, .i8, .i8, .u8] (by kernel_rfl) (by kernel_rfl) (by kernel_rfl) (by kernel_rfl) (hval 0 42 v0 rfl rfl)
  obtain ⟨n0_0, y0_0, b0_0⟩ := o0 0 .i8 rfl
  obtain ⟨n0_1, y0_1, b0_1⟩ := o0 1 .i8 rfl
  obtain ⟨n0_2, y0_2, b0_2⟩ := o0 2 .i8 rfl
  obtain ⟨n0_3, y0_3, b0_3⟩ := o0 3 .u8 rfl
  obtain rfl : c0 = #[.int .i8 n0_0, .int .i8 n0_1, .int .i8 n0_2, .int .u8 n0_3] := by
    apply Array.ext_getElem?; intro i
    rcases i with _ | _ | _ | _ | i
    · exact y0_0
    · exact y0_1
    · exact y0_2
    · exact y0_3
    · rw [Array.getElem?_eq_none (by simp at z0; omega), Array.getElem?_eq_none (by simp)]
  obtain ⟨c1, rfl, z1, o1⟩ := open_cells (ts := [39, 39, 39, 5]) [.i8, .i8, .i8, .u8] (by kernel_rfl) (by kernel_rfl) (by kernel_rfl) (by kernel_rfl) (hval 1 42 v1 rfl rfl)
  obtain ⟨n1_0, y1_0, b1_0⟩ := o1 0 .i8 rfl
  obtain ⟨n1_1, y1_1, b1_1⟩ := o1 1 .i8 rfl
  obtain ⟨n1_2, y1_2, b1_2⟩ := o1 2 .i8 rfl
  obtain ⟨n1_3, y1_3, b1_3⟩ := o1 3 .u8 rfl
  obtain rfl : c1 = #[.int .i8 n1_0, .int .i8 n1_1, .int .i8 n1_2, .int .u8 n1_3] := by
    apply Array.ext_getElem?; intro i
    rcases i with _ | _ | _ | _ | i
    · exact y1_0
    · exact y1_1
    · exact y1_2
    · exact y1_3
    · rw [Array.getElem?_eq_none (by simp at z1; omega), Array.getElem?_eq_none (by simp)]
  obtain ⟨c2, rfl, z2, o2⟩ := open_cells (ts := [3, 3]) [.i64, .i64] (by kernel_rfl) (by kernel_rfl) (by kernel_rfl) (by kernel_rfl) (hval 2 87 v2 rfl rfl)
  obtain ⟨n2_0, y2_0, b2_0⟩ := o2 0 .i64 rfl
  obtain ⟨n2_1, y2_1, b2_1⟩ := o2 1 .i64 rfl
  obtain rfl : c2 = #[.int .i64 n2_0, .int .i64 n2_1] := by
    apply Array.ext_getElem?; intro i
    rcases i with _ | _ | i
    · exact y2_0
    · exact y2_1
    · rw [Array.getElem?_eq_none (by simp at z2; omega), Array.getElem?_eq_none (by simp)]
  refine (vector_sums n0_0 n0_1 n0_2 n0_3 (has_i8 b0_0) (has_i8 b0_1) (has_i8 b0_2) (has_u8 b0_3) n1_0 n1_1 n1_2 n1_3 (has_i8 b1_0) (has_i8 b1_1) (has_i8 b1_2) (has_u8 b1_3) n2_0 n2_1 (has_i64 b2_0) (has_i64 b2_1)  W (vectorSums_table hL) (vectorSums_maxlen hsh)).mono fun e W' ⟨he, hg⟩ => ?_
  subst he
  exact ⟨_, rfl, law_post (tb := 4) laidOut (by kernel_rfl) (by kernel_rfl) (by kernel_rfl) rfl hW' rfl hg⟩
noncomputable def vectorSums_world (os : Os) : World := World.laidAll Tryz.prog os Rows.vectorSumsRow.laid
theorem vectorSums_met (os : Os) : laidMet Tryz.prog Rows.vectorSumsRow.laid ((vectorSums_world os).forCall (fun _ _ => 0) ⟨#[], #[.agg #[.int .i8 0, .int .i8 0, .int .i8 0, .int .u8 0], .agg #[.int .i8 0, .int .i8 0, .int .i8 0, .int .u8 0], .agg #[.int .i64 0, .int .i64 0]], []⟩).memory :=
  laidMet_laidAll _ (by kernel_rfl) (by kernel_rfl)
theorem vectorSums_reads (os : Os) {H : Type} (enc : TypeId × Value → H) : ∃ places, DataW.whole enc Tryz.prog ((vectorSums_world os).forCall (fun _ _ => 0) ⟨#[], #[.agg #[.int .i8 0, .int .i8 0, .int .i8 0, .int .u8 0], .agg #[.int .i8 0, .int .i8 0, .int .i8 0, .int .u8 0], .agg #[.int .i64 0, .int .i64 0]], []⟩).memory Tryz.f10.params.toList Rows.vectorSumsSpec.vars false (#[.agg #[.int .i8 0, .int .i8 0, .int .i8 0, .int .u8 0], .agg #[.int .i8 0, .int .i8 0, .int .i8 0, .int .u8 0], .agg #[.int .i64 0, .int .i64 0]] : Array Value).toList 8 = some ([.agg [.agg [.lit (.int .i8 0), .lit (.int .i8 0), .lit (.int .i8 0)], .lit (.int .u8 0)], .agg [.agg [.lit (.int .i8 0), .lit (.int .i8 0), .lit (.int .i8 0)], .lit (.int .u8 0)], .agg [.lit (.int .i64 0), .lit (.int .i64 0)]], [], places) :=
  ⟨[], by kernel_rfl⟩
set_option maxRecDepth 100000 in
theorem vectorSums_lifted (os : Os) (started : os.Started) (H : Type) (enc : TypeId × Value → H) (F : Stop.Interp) :
    ReturnsInHanded {} Tryz.checked os 10 .any ((OpenSpec.ofChange Rows.vectorSumsSpec).preRow enc Tryz.prog Tryz.f10 Rows.vectorSumsRow.domain false Rows.vectorSumsRow.laid) (((OpenSpec.ofChange Rows.vectorSumsSpec).at F).post enc Tryz.prog Tryz.f10 false true false false) := by
  obtain ⟨places, hx⟩ := vectorSums_reads os enc
  refine returnsInHanded_of_row (C := Tryz.checked) (s := OpenSpec.ofChange Rows.vectorSumsSpec) own started (by kernel_rfl) Tryz.func10
    (witness_row_sh (enc := enc) (C := Tryz.checked) false (vectorSums_world os) #[.agg #[.int .i8 0, .int .i8 0, .int .i8 0, .int .u8 0], .agg #[.int .i8 0, .int .i8 0, .int .i8 0, .int .u8 0], .agg #[.int .i64 0, .int .i64 0]] (World.laidAll_os _ _ _) (World.shaped_of_ZipB (by kernel_rfl) (by kernel_rfl)) (by kernel_rfl)
      (OpenSpec.preRow_of_cond 8 hx (by kernel_rfl) (fun k hk => by cases hk) (by kernel_rfl) (by rw [MakeChecks.laidMetH_plain _ _ _ (by kernel_rfl)]; exact vectorSums_met os))) ?_
  intro W base args ds gs before hval hW _ _ _ hL hsh _
  exact vectorSums_contract H enc W base args ds gs before hval hW hL hsh
theorem vectorSums_said : Rows.VectorSumsSaid :=
  OpenClaim.holds_of_cond 10 Tryz.f10 rfl rfl rfl rfl rfl rfl rfl ⟨rfl, rfl, rfl, rfl, rfl⟩ rfl rfl rfl rfl rfl (by kernel_rfl) Tryz.func10 (by kernel_rfl)
    (of_decide_eq_true (by kernel_rfl)) (by unfold Func.isWrapper; first | (rw [if_pos (by decide +kernel)]; kernel_rfl) | (rw [if_neg (by decide +kernel)]; exact ⟨rfl, rfl⟩))
    (fun os started H enc _ F => by rw [OpenClaim.pre_eq_preRow]; exact vectorSums_lifted os started H enc F)
theorem vectorSums_plain (f : FuncId) (fn : Func) (hf : Tryz.pinned.checked.prog.funcNamed "dowel/dowellaw03.VectorSums" = some f) (hfn : Tryz.pinned.checked.prog.funcs[f]? = some fn) :
    true = Tryz.pinned.checked.prog.looks [] ∧ ∀ (j : Nat) t, fn.params[j]? = some t → Tryz.pinned.checked.prog.wantsStandIn t = false := by
  obtain rfl : f = 10 := Option.some.inj ((show Tryz.prog.funcNamed "dowel/dowellaw03.VectorSums" = some 10 by kernel_rfl).symm.trans hf) |>.symm
  obtain rfl : fn = Tryz.f10 := (Option.some.inj (Tryz.func10.symm.trans hfn)).symm
  refine ⟨by kernel_rfl, fun j t ht => ?_⟩
  rw [Tryz.params10] at ht
  have hm := Array.mem_of_getElem? ht
  have hall : (#[42, 42, 87] : Array TypeId).toList.all (fun t => !Tryz.prog.wantsStandIn t) = true := by kernel_rfl
  have := List.all_eq_true.1 hall t (Array.mem_toList_iff.2 hm)
  have h3 : Tryz.prog.wantsStandIn t = false := by simpa using this
  exact h3
/-- the card -/
theorem vectorSums_card : Rows.VectorSumsCardSaid :=
  Claim7.holds_tied_plain_at .later [] _ _ _ _ vectorSums_said (fun _ h => by cases h) (by kernel_rfl) (fun _ h => by cases h) vectorSums_row_tie rfl ⟨rfl, rfl⟩ (by kernel_rfl) rfl vectorSums_plain (by kernel_rfl)
end Go.Proofs.YtlcmllfacolkaaaGreatDoor
