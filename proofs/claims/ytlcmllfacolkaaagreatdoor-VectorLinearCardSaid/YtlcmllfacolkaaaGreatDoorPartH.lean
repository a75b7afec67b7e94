/- Joined of: Gen67, RowVectorLinear. -/
import Derived.Test.YtlcmllfacolkaaaGreatDoorPartG
import Derived.Test.YtlcmllfacolkaaaGreatDoorCards
import Derived.Test.YtlcmllfacolkaaaGreatDoorTie
import Derived.Test.YtlcmllfacolkaaaGreatDoorPartD
/- Printed by a program of the prover's: VectorLinear. -/
namespace Go.Proofs.YtlcmllfacolkaaaGreatDoor
open Go.RowKit

theorem lawVl0 (a1 a2 a3 c1 c2 c3 f1 f2 f3 sk : Rat)  : (rcmp (0 + (a1 + (sk * c1)) * f1 + (a2 + (sk * c2)) * f2 + (a3 + (sk * c3)) * f3) ((0 + a1 * f1 + a2 * f2 + a3 * f3) + (sk * (0 + c1 * f1 + c2 * f2 + c3 * f3))) == (0 : Int)) = true := req_t (by grind)
theorem lawVl1 (a1 a2 a3 c1 c2 c3 f1 f2 f3 sk : Rat)  : (vcmp ((a2 + (sk * c2)) * f3 - (a3 + (sk * c3)) * f2) ((a3 + (sk * c3)) * f1 - (a1 + (sk * c1)) * f3) ((a1 + (sk * c1)) * f2 - (a2 + (sk * c2)) * f1) ((a2 * f3 - a3 * f2) + (sk * (c2 * f3 - c3 * f2))) ((a3 * f1 - a1 * f3) + (sk * (c3 * f1 - c1 * f3))) ((a1 * f2 - a2 * f1) + (sk * (c1 * f2 - c2 * f1))) == (0 : Int)) = true := veq_t (by grind) (by grind) (by grind)
theorem lawVl2 (a1 a2 a3 c1 c2 c3 f1 f2 f3 : Rat)  : (rcmp (0 + a1 * (c2 * f3 - c3 * f2) + a2 * (c3 * f1 - c1 * f3) + a3 * (c1 * f2 - c2 * f1)) (0 + c1 * (f2 * a3 - f3 * a2) + c2 * (f3 * a1 - f1 * a3) + c3 * (f1 * a2 - f2 * a1)) == (0 : Int)) = true := req_t (by grind)
theorem lawVl3 (a1 a2 a3 c1 c2 c3 f1 f2 f3 : Rat)  : (rcmp (0 + a1 * (c2 * f3 - c3 * f2) + a2 * (c3 * f1 - c1 * f3) + a3 * (c1 * f2 - c2 * f1)) (-(0 + c1 * (a2 * f3 - a3 * f2) + c2 * (a3 * f1 - a1 * f3) + c3 * (a1 * f2 - a2 * f1))) == (0 : Int)) = true := req_t (by grind)
set_option maxRecDepth 100000 in
set_option maxHeartbeats 8000000 in
theorem vlin_q (ia1 ia2 ia3 da : Int) (ja1 : -128 ≤ ia1 ∧ ia1 ≤ 127) (ja2 : -128 ≤ ia2 ∧ ia2 ≤ 127) (ja3 : -128 ≤ ia3 ∧ ia3 ≤ 127) (jda : 0 ≤ da ∧ da ≤ 255) (a1 a2 a3 : Rat) (ea1 : a1 = ((ia1 : Int) : Rat) / ((1 + da % 6 : Int) : Rat)) (ea2 : a2 = ((ia2 : Int) : Rat) / ((1 + da % 6 : Int) : Rat)) (ea3 : a3 = ((ia3 : Int) : Rat) / ((1 + da % 6 : Int) : Rat)) (ic1 ic2 ic3 dc : Int) (jc1 : -128 ≤ ic1 ∧ ic1 ≤ 127) (jc2 : -128 ≤ ic2 ∧ ic2 ≤ 127) (jc3 : -128 ≤ ic3 ∧ ic3 ≤ 127) (jdc : 0 ≤ dc ∧ dc ≤ 255) (c1 c2 c3 : Rat) (ec1 : c1 = ((ic1 : Int) : Rat) / ((1 + dc % 6 : Int) : Rat)) (ec2 : c2 = ((ic2 : Int) : Rat) / ((1 + dc % 6 : Int) : Rat)) (ec3 : c3 = ((ic3 : Int) : Rat) / ((1 + dc % 6 : Int) : Rat)) (if1 if2 if3 df : Int) (jf1 : -128 ≤ if1 ∧ if1 ≤ 127) (jf2 : -128 ≤ if2 ∧ if2 ≤ 127) (jf3 : -128 ≤ if3 ∧ if3 ≤ 127) (jdf : 0 ≤ df ∧ df ≤ 255) (f1 f2 f3 : Rat) (ef1 : f1 = ((if1 : Int) : Rat) / ((1 + df % 6 : Int) : Rat)) (ef2 : f2 = ((if2 : Int) : Rat) / ((1 + df % 6 : Int) : Rat)) (ef3 : f3 = ((if3 : Int) : Rat) / ((1 + df % 6 : Int) : Rat)) (kk : Int) (_jkk : -128 ≤ kk ∧ kk ≤ 127) (w : World) (ht : Tab w) (hm : Mx w) :
    Calls Tryz.prog 7 #[(.agg #[(.int .i8 (ia1)), (.int .i8 (ia2)), (.int .i8 (ia3)), (.int .u8 (da)), (.int .i8 (ic1)), (.int .i8 (ic2)), (.int .i8 (ic3)), (.int .u8 (dc)), (.int .i8 (if1)), (.int .i8 (if2)), (.int .i8 (if3)), (.int .u8 (df))]), (.int .i8 (kk))] w fun e w' => e = .returned (.bool true) ∧ Gr w w' := by
 have ha1 : RS 16 a1 := small_rs ja1 jda ea1
 have ha2 : RS 16 a2 := small_rs ja2 jda ea2
 have ha3 : RS 16 a3 := small_rs ja3 jda ea3
 have hc1 : RS 16 c1 := small_rs jc1 jdc ec1
 have hc2 : RS 16 c2 := small_rs jc2 jdc ec2
 have hc3 : RS 16 c3 := small_rs jc3 jdc ec3
 have hf1 : RS 16 f1 := small_rs jf1 jdf ef1
 have hf2 : RS 16 f2 := small_rs jf2 jdf ef2
 have hf3 : RS 16 f3 := small_rs jf3 jdf ef3
 obtain ⟨sk, esk⟩ : ∃ r : Rat, r = ((kk : Int) : Rat) := ⟨_, rfl⟩
 go_enter Tryz.func7, Tryz.ntmps7
 have hB := Gr.refl w
 refine wp_seq_k (fun K1 k1 => ?_)
 refine rg [0, 1] ?_
 refine se ?_
 refine eb 43 #[(.int .i8 (ia1)), (.int .i8 (ia2)), (.int .i8 (ia3)), (.int .u8 (da)), (.int .i8 (ic1)), (.int .i8 (ic2)), (.int .i8 (ic3)), (.int .u8 (dc)), (.int .i8 (if1)), (.int .i8 (if2)), (.int .i8 (if3)), (.int .u8 (df))] 2 hB fun b2 w2 g2 L2 o2 q2 hB => ?_
 simp only [p3, p4]
 refine sv 4 (.bool false) ?_
 simp only [p3, p4]
 refine sq_nil ?_
 refine k1 _ _ ?_
 try clear k1 K1
 refine wp_seq_k (fun K3 k3 => ?_)
 refine wp_seq_k (fun K4 k4 => ?_)
 refine rg [0, 1] ?_
 refine se ?_
 refine ec 12 (known3 _ (ht.gr hB) (hm.gr hB)) ?_
 rintro e5 w5 ⟨rfl, g5⟩
 refine ⟨_, rfl, ?_⟩
 replace hB := hB.trans g5
 simp only [p3, p4]
 refine sv 13 (.bool false) ?_
 simp only [p3, p4]
 refine sq_nil ?_
 refine k4 _ _ ?_
 try clear k4 K4
 refine wp_cond_false rfl ?_
 refine wp_skip ?_
 refine k3 _ _ ?_
 try clear k3 K3
 refine wp_seq_k (fun K6 k6 => ?_)
 have hz7 := Below.size hB
 replace L2 := L2.gr g5
 have lt2_7 := L2.lt
 have gd7 := Gr.drew w5
 replace hB := hB.trans gd7
 replace L2 := L2.gr gd7
 refine wp_region_flo (fun w' => Lc w' b2 #[(.int .i8 (ia1)), (.int .i8 (ia2)), (.int .i8 (ia3)), (.int .u8 (da)), (.int .i8 (ic1)), (.int .i8 (ic2)), (.int .i8 (ic3)), (.int .u8 (dc)), (.int .i8 (if1)), (.int .i8 (if2)), (.int .i8 (if3)), (.int .u8 (df))] 43) [(true, 0), (true, 1), (true, 3), (true, 4), (true, 6), (true, 7), (true, 9), (true, 10), (false, 2), (false, 5), (false, 8), (false, 11)] [⟨12, 5, 32, #[(.bool false), (.slice none 0 0), (.bool false), (.slice none 0 0), (.bool false), (.slice none 0 0), (.bool false), (.slice none 0 0), (.bool false), (.slice none 0 0), (.bool false), (.slice none 0 0)]⟩, ⟨13, 6, 32, #[(.bool false), (.slice none 0 0), (.bool false), (.slice none 0 0), (.bool false), (.slice none 0 0), (.bool false), (.slice none 0 0), (.bool false), (.slice none 0 0), (.bool false), (.slice none 0 0)]⟩, ⟨14, 7, 32, #[(.bool false), (.slice none 0 0), (.bool false), (.slice none 0 0), (.bool false), (.slice none 0 0), (.bool false), (.slice none 0 0), (.bool false), (.slice none 0 0), (.bool false), (.slice none 0 0)]⟩, ⟨15, 8, 30, #[(.bool false), (.slice none 0 0), (.bool false), (.slice none 0 0)]⟩] [(false, 16), (false, 17), (false, 18), (false, 19)] (by kernel_rfl) (by kernel_rfl) (by kernel_rfl) (by kernel_rfl) (by kernel_rfl) (by decide) (fun _ _ _ _ _ h => h) (fun _ _ _ _ _ h => h) (fun w' o h => Lc.gr h (Gr.alloc w' o)) L2 (by intro f hf; simp only [List.mem_cons, List.not_mem_nil, or_false] at hf; rcases hf with rfl | rfl | rfl | rfl <;> first | exact alloc_zero (z := (.agg #[(.bool false), (.slice none 0 0), (.bool false), (.slice none 0 0), (.bool false), (.slice none 0 0), (.bool false), (.slice none 0 0), (.bool false), (.slice none 0 0), (.bool false), (.slice none 0 0)])) (by kernel_rfl) rfl | exact alloc_zero (z := (.agg #[(.bool false), (.slice none 0 0), (.bool false), (.slice none 0 0), (.bool false), (.slice none 0 0), (.bool false), (.slice none 0 0), (.bool false), (.slice none 0 0), (.bool false), (.slice none 0 0)])) (by kernel_rfl) rfl | exact alloc_zero (z := (.agg #[(.bool false), (.slice none 0 0), (.bool false), (.slice none 0 0), (.bool false), (.slice none 0 0), (.bool false), (.slice none 0 0), (.bool false), (.slice none 0 0), (.bool false), (.slice none 0 0)])) (by kernel_rfl) rfl | exact alloc_zero (z := (.agg #[(.bool false), (.slice none 0 0), (.bool false), (.slice none 0 0)])) (by kernel_rfl) rfl) ?_
 refine fv 14 (.pointer (some ⟨b2, 0, none⟩)) ?_
 simp only [p3, p4]
 refine fw 15 (.agg #[(.int .i8 (ia1)), (.int .i8 (ia2)), (.int .i8 (ia3)), (.int .u8 (da))]) rfl (fun w' hS => (rl 42 0 [(.int .i8 (ia1)), (.int .i8 (ia2)), (.int .i8 (ia3)), (.int .u8 (da))] hS)) ?_
 simp only [p3, p4]
 refine fv 17 (.pointer (some ⟨b2, 4, none⟩)) ?_
 simp only [p3, p4]
 refine fw 18 (.agg #[(.int .i8 (ic1)), (.int .i8 (ic2)), (.int .i8 (ic3)), (.int .u8 (dc))]) rfl (fun w' hS => (rl 42 4 [(.int .i8 (ic1)), (.int .i8 (ic2)), (.int .i8 (ic3)), (.int .u8 (dc))] hS)) ?_
 simp only [p3, p4]
 refine fv 20 (.pointer (some ⟨b2, 8, none⟩)) ?_
 simp only [p3, p4]
 refine fw 21 (.agg #[(.int .i8 (if1)), (.int .i8 (if2)), (.int .i8 (if3)), (.int .u8 (df))]) rfl (fun w' hS => (rl 42 8 [(.int .i8 (if1)), (.int .i8 (if2)), (.int .i8 (if3)), (.int .u8 (df))] hS)) ?_
 simp only [p3, p4]
 refine fv 23 (.int .i8 (kk)) ?_
 simp only [p3, p4]
 refine fw 24 (.int .i64 (kk)) rfl (fun w' hS => (RunV.int (x := IntKind.i64.wrap (kk)) (y := kk) (rvk (by kernel_rfl)) (by first | rfl | (rw [IntKind.wrap_i64]; omega)))) ?_
 simp only [p3, p4]
 refine flo_eff rfl rfl (fun w8 g8 _ K8 k8 => ?_)
 replace hB := hB.trans g8
 refine ec 16 (made_v ia1 ia2 ia3 da ja1 ja2 ja3 jda a1 a2 a3 ea1 ea2 ea3 _ (hm.gr hB)) ?_
 rintro e9 w9 ⟨⟨t9_0, t9_1, t9_2, t9_3, t9_4, t9_5, t9_6, t9_7, t9_8, t9_9, t9_10, t9_11, rfl, h9a, h9b, h9c⟩, g9⟩
 refine ⟨_, rfl, ?_⟩
 replace hB := hB.trans g9
 replace L2 := L2.gr (g8.trans g9)
 refine k8 _ _ g9 L2 ?_
 try clear k8 K8
 simp only [p3, p4]
 refine flo_eff rfl rfl (fun w10 g10 _ K10 k10 => ?_)
 replace hB := hB.trans g10
 refine ec 19 (made_v ic1 ic2 ic3 dc jc1 jc2 jc3 jdc c1 c2 c3 ec1 ec2 ec3 _ (hm.gr hB)) ?_
 rintro e11 w11 ⟨⟨t11_0, t11_1, t11_2, t11_3, t11_4, t11_5, t11_6, t11_7, t11_8, t11_9, t11_10, t11_11, rfl, h11a, h11b, h11c⟩, g11⟩
 refine ⟨_, rfl, ?_⟩
 replace hB := hB.trans g11
 replace L2 := L2.gr (g10.trans g11)
 refine k10 _ _ g11 L2 ?_
 try clear k10 K10
 simp only [p3, p4]
 refine flo_eff rfl rfl (fun w12 g12 _ K12 k12 => ?_)
 replace hB := hB.trans g12
 refine ec 22 (made_v if1 if2 if3 df jf1 jf2 jf3 jdf f1 f2 f3 ef1 ef2 ef3 _ (hm.gr hB)) ?_
 rintro e13 w13 ⟨⟨t13_0, t13_1, t13_2, t13_3, t13_4, t13_5, t13_6, t13_7, t13_8, t13_9, t13_10, t13_11, rfl, h13a, h13b, h13c⟩, g13⟩
 refine ⟨_, rfl, ?_⟩
 replace hB := hB.trans g13
 replace L2 := L2.gr (g12.trans g13)
 refine k12 _ _ g13 L2 ?_
 try clear k12 K12
 simp only [p3, p4]
 refine flo_eff rfl rfl (fun w14 g14 _ K14 k14 => ?_)
 replace hB := hB.trans g14
 refine ec 25 (from_r (kk) (by omega) (by omega) _) ?_
 rintro e15 w15 ⟨⟨p15, q15, r15, s15, rfl, h15⟩, g15⟩
 refine ⟨_, rfl, ?_⟩
 replace hB := hB.trans g15
 rw [← esk] at h15
 replace L2 := L2.gr (g14.trans g15)
 refine k14 _ _ g15 L2 ?_
 try clear k14 K14
 simp only [p3, p4]
 refine flo_nil (fun w16 g16 _ => ?_)
 replace hB := hB.trans g16
 refine floFin4 (fun b17 b18 b19 b20 (L17 : Lc w16 b17 #[(.bool false), (.slice none 0 0), (.bool false), (.slice none 0 0), (.bool false), (.slice none 0 0), (.bool false), (.slice none 0 0), (.bool false), (.slice none 0 0), (.bool false), (.slice none 0 0)] 32) q17 (L18 : Lc w16 b18 #[(.bool false), (.slice none 0 0), (.bool false), (.slice none 0 0), (.bool false), (.slice none 0 0), (.bool false), (.slice none 0 0), (.bool false), (.slice none 0 0), (.bool false), (.slice none 0 0)] 32) q18 (L19 : Lc w16 b19 #[(.bool false), (.slice none 0 0), (.bool false), (.slice none 0 0), (.bool false), (.slice none 0 0), (.bool false), (.slice none 0 0), (.bool false), (.slice none 0 0), (.bool false), (.slice none 0 0)] 32) q19 (L20 : Lc w16 b20 #[(.bool false), (.slice none 0 0), (.bool false), (.slice none 0 0)] 30) q20 ne17_18 ne17_19 ne18_19 ne17_20 ne18_20 ne19_20 => ?_)
 have ne2_17 : b2 ≠ b17 := Nat.ne_of_lt (Nat.lt_of_lt_of_le lt2_7 q17)
 replace q17 := Nat.le_trans hz7 q17
 have ne2_18 : b2 ≠ b18 := Nat.ne_of_lt (Nat.lt_of_lt_of_le lt2_7 q18)
 replace q18 := Nat.le_trans hz7 q18
 have ne2_19 : b2 ≠ b19 := Nat.ne_of_lt (Nat.lt_of_lt_of_le lt2_7 q19)
 replace q19 := Nat.le_trans hz7 q19
 have ne2_20 : b2 ≠ b20 := Nat.ne_of_lt (Nat.lt_of_lt_of_le lt2_7 q20)
 replace q20 := Nat.le_trans hz7 q20
 simp only [putl, p3, p4]
 refine oe ?_
 refine es 32 0 (.agg #[t9_0, t9_1, t9_2, t9_3, t9_4, t9_5, t9_6, t9_7, t9_8, t9_9, t9_10, t9_11]) [t9_0, t9_1, t9_2, t9_3, t9_4, t9_5, t9_6, t9_7, t9_8, t9_9, t9_10, t9_11] #[t9_0, t9_1, t9_2, t9_3, t9_4, t9_5, t9_6, t9_7, t9_8, t9_9, t9_10, t9_11] L17 hB q17 ⟨h9a.one0, h9a.one1, h9a.one2, h9a.one3, h9b.one0, h9b.one1, h9b.one2, h9b.one3, h9c.one0, h9c.one1, h9c.one2, h9c.one3, trivial⟩ fun w22 st22 kp22 L17 hB => ?_
 replace L2 := st22.lc (L2.gr g16) ne2_17
 refine ⟨L2, ?_⟩
 refine oe ?_
 replace L18 := st22.lc L18 (Ne.symm ne17_18)
 refine es 32 0 (.agg #[t11_0, t11_1, t11_2, t11_3, t11_4, t11_5, t11_6, t11_7, t11_8, t11_9, t11_10, t11_11]) [t11_0, t11_1, t11_2, t11_3, t11_4, t11_5, t11_6, t11_7, t11_8, t11_9, t11_10, t11_11] #[t11_0, t11_1, t11_2, t11_3, t11_4, t11_5, t11_6, t11_7, t11_8, t11_9, t11_10, t11_11] L18 hB q18 ⟨h11a.one0, h11a.one1, h11a.one2, h11a.one3, h11b.one0, h11b.one1, h11b.one2, h11b.one3, h11c.one0, h11c.one1, h11c.one2, h11c.one3, trivial⟩ fun w24 st24 kp24 L18 hB => ?_
 replace L2 := st24.lc L2 ne2_18
 refine ⟨L2, ?_⟩
 refine oe ?_
 replace L19 := st24.lc (st22.lc L19 (Ne.symm ne17_19)) (Ne.symm ne18_19)
 refine es 32 0 (.agg #[t13_0, t13_1, t13_2, t13_3, t13_4, t13_5, t13_6, t13_7, t13_8, t13_9, t13_10, t13_11]) [t13_0, t13_1, t13_2, t13_3, t13_4, t13_5, t13_6, t13_7, t13_8, t13_9, t13_10, t13_11] #[t13_0, t13_1, t13_2, t13_3, t13_4, t13_5, t13_6, t13_7, t13_8, t13_9, t13_10, t13_11] L19 hB q19 ⟨h13a.one0, h13a.one1, h13a.one2, h13a.one3, h13b.one0, h13b.one1, h13b.one2, h13b.one3, h13c.one0, h13c.one1, h13c.one2, h13c.one3, trivial⟩ fun w26 st26 kp26 L19 hB => ?_
 replace L2 := st26.lc L2 ne2_19
 refine ⟨L2, ?_⟩
 refine oe ?_
 replace L20 := st26.lc (st24.lc (st22.lc L20 (Ne.symm ne17_20)) (Ne.symm ne18_20)) (Ne.symm ne19_20)
 refine es 30 0 (.agg #[p15, q15, r15, s15]) [p15, q15, r15, s15] #[p15, q15, r15, s15] L20 hB q20 ⟨h15.one0, h15.one1, h15.one2, h15.one3, trivial⟩ fun w28 st28 kp28 L20 hB => ?_
 replace L2 := st28.lc L2 ne2_20
 refine ⟨L2, ?_⟩
 refine ord_nil ?_
 refine k6 _ _ ?_
 try clear k6 K6
 refine wp_seq_k (fun K29 k29 => ?_)
 have hz30 := Below.size hB
 replace L17 := st28.lc (st26.lc (st24.lc L17 ne17_18) ne17_19) ne17_20
 have lt17_30 := L17.lt
 replace L18 := st28.lc (st26.lc L18 ne18_19) ne18_20
 have lt18_30 := L18.lt
 replace L19 := st28.lc L19 ne19_20
 have lt19_30 := L19.lt
 have lt20_30 := L20.lt
 have gd30 := Gr.drew w28
 replace hB := hB.trans gd30
 replace L17 := L17.gr gd30
 replace L18 := L18.gr gd30
 replace L20 := L20.gr gd30
 refine wp_region_flo (fun w' => Lc w' b17 #[t9_0, t9_1, t9_2, t9_3, t9_4, t9_5, t9_6, t9_7, t9_8, t9_9, t9_10, t9_11] 32 ∧ Lc w' b18 #[t11_0, t11_1, t11_2, t11_3, t11_4, t11_5, t11_6, t11_7, t11_8, t11_9, t11_10, t11_11] 32 ∧ Lc w' b20 #[p15, q15, r15, s15] 30) [(true, 0), (true, 1), (true, 2), (false, 3), (false, 4)] [⟨5, 9, 32, #[(.bool false), (.slice none 0 0), (.bool false), (.slice none 0 0), (.bool false), (.slice none 0 0), (.bool false), (.slice none 0 0), (.bool false), (.slice none 0 0), (.bool false), (.slice none 0 0)]⟩] [(false, 6)] (by kernel_rfl) (by kernel_rfl) (by kernel_rfl) (by kernel_rfl) (by kernel_rfl) (by decide) (fun _ _ _ _ _ h => h) (fun _ _ _ _ _ h => h) (fun w' o h => ⟨Lc.gr h.1 (Gr.alloc w' o), Lc.gr h.2.1 (Gr.alloc w' o), Lc.gr h.2.2 (Gr.alloc w' o)⟩) ⟨L17, L18, L20⟩ (by intro f hf; simp only [List.mem_cons, List.not_mem_nil, or_false] at hf; rcases hf with rfl <;> first | exact alloc_zero (z := (.agg #[(.bool false), (.slice none 0 0), (.bool false), (.slice none 0 0), (.bool false), (.slice none 0 0), (.bool false), (.slice none 0 0), (.bool false), (.slice none 0 0), (.bool false), (.slice none 0 0)])) (by kernel_rfl) rfl) ?_
 refine fw 26 (.agg #[t9_0, t9_1, t9_2, t9_3, t9_4, t9_5, t9_6, t9_7, t9_8, t9_9, t9_10, t9_11]) rfl (fun w' hS => (rl 32 0 [t9_0, t9_1, t9_2, t9_3, t9_4, t9_5, t9_6, t9_7, t9_8, t9_9, t9_10, t9_11] hS.1)) ?_
 simp only [p3, p4]
 refine fw 27 (.agg #[t11_0, t11_1, t11_2, t11_3, t11_4, t11_5, t11_6, t11_7, t11_8, t11_9, t11_10, t11_11]) rfl (fun w' hS => (rl 32 0 [t11_0, t11_1, t11_2, t11_3, t11_4, t11_5, t11_6, t11_7, t11_8, t11_9, t11_10, t11_11] hS.2.1)) ?_
 simp only [p3, p4]
 refine fw 28 (.agg #[p15, q15, r15, s15]) rfl (fun w' hS => (rl 30 0 [p15, q15, r15, s15] hS.2.2)) ?_
 simp only [p3, p4]
 refine flo_eff rfl rfl (fun w31 g31 _ K31 k31 => ?_)
 replace hB := hB.trans g31
 have kq33 := g12.kp.trans (g13.kp.trans (g14.kp.trans (g15.kp.trans (g16.kp.trans (kp22.trans (kp24.trans (kp26.trans (kp28.trans (gd30.kp.trans g31.kp)))))))))
 replace h11a := h11a.kp kq33
 replace h11b := h11b.kp kq33
 replace h11c := h11c.kp kq33
 have kq34 := g16.kp.trans (kp22.trans (kp24.trans (kp26.trans (kp28.trans (gd30.kp.trans g31.kp)))))
 replace h15 := h15.kp kq34
 refine ec 29 (vscale_v h11a h11b h11c h15 (by omega)) ?_
 rintro e32 w32 ⟨⟨t32_0, t32_1, t32_2, t32_3, t32_4, t32_5, t32_6, t32_7, t32_8, t32_9, t32_10, t32_11, rfl, h32a, h32b, h32c⟩, g32⟩
 refine ⟨_, rfl, ?_⟩
 replace hB := hB.trans g32
 replace L17 := L17.gr (g31.trans g32)
 replace L18 := L18.gr (g31.trans g32)
 replace L20 := L20.gr (g31.trans g32)
 refine k31 _ _ g32 ⟨L17, L18, L20⟩ ?_
 try clear k31 K31
 simp only [p3, p4]
 refine flo_eff rfl rfl (fun w35 g35 _ K35 k35 => ?_)
 replace hB := hB.trans g35
 have kq37 := g10.kp.trans (g11.kp.trans (g12.kp.trans (g13.kp.trans (g14.kp.trans (g15.kp.trans (g16.kp.trans (kp22.trans (kp24.trans (kp26.trans (kp28.trans (gd30.kp.trans (g31.kp.trans (g32.kp.trans g35.kp)))))))))))))
 replace h9a := h9a.kp kq37
 replace h9b := h9b.kp kq37
 replace h9c := h9c.kp kq37
 replace h32a := h32a.kp g35.kp
 replace h32b := h32b.kp g35.kp
 replace h32c := h32c.kp g35.kp
 refine ec 30 (vadd_v h9a h9b h9c h32a h32b h32c (by omega)) ?_
 rintro e36 w36 ⟨⟨t36_0, t36_1, t36_2, t36_3, t36_4, t36_5, t36_6, t36_7, t36_8, t36_9, t36_10, t36_11, rfl, h36a, h36b, h36c⟩, g36⟩
 refine ⟨_, rfl, ?_⟩
 replace hB := hB.trans g36
 replace L17 := L17.gr (g35.trans g36)
 replace L18 := L18.gr (g35.trans g36)
 replace L20 := L20.gr (g35.trans g36)
 refine k35 _ _ g36 ⟨L17, L18, L20⟩ ?_
 try clear k35 K35
 simp only [p3, p4]
 refine flo_nil (fun w38 g38 _ => ?_)
 replace hB := hB.trans g38
 refine floFin1 (fun b39 (L39 : Lc w38 b39 #[(.bool false), (.slice none 0 0), (.bool false), (.slice none 0 0), (.bool false), (.slice none 0 0), (.bool false), (.slice none 0 0), (.bool false), (.slice none 0 0), (.bool false), (.slice none 0 0)] 32) q39  => ?_)
 have ne17_39 : b17 ≠ b39 := Nat.ne_of_lt (Nat.lt_of_lt_of_le lt17_30 q39)
 have ne18_39 : b18 ≠ b39 := Nat.ne_of_lt (Nat.lt_of_lt_of_le lt18_30 q39)
 have ne19_39 : b19 ≠ b39 := Nat.ne_of_lt (Nat.lt_of_lt_of_le lt19_30 q39)
 have ne20_39 : b20 ≠ b39 := Nat.ne_of_lt (Nat.lt_of_lt_of_le lt20_30 q39)
 replace q39 := Nat.le_trans hz30 q39
 simp only [putl, p3, p4]
 refine oe ?_
 refine es 32 0 (.agg #[t36_0, t36_1, t36_2, t36_3, t36_4, t36_5, t36_6, t36_7, t36_8, t36_9, t36_10, t36_11]) [t36_0, t36_1, t36_2, t36_3, t36_4, t36_5, t36_6, t36_7, t36_8, t36_9, t36_10, t36_11] #[t36_0, t36_1, t36_2, t36_3, t36_4, t36_5, t36_6, t36_7, t36_8, t36_9, t36_10, t36_11] L39 hB q39 ⟨h36a.one0, h36a.one1, h36a.one2, h36a.one3, h36b.one0, h36b.one1, h36b.one2, h36b.one3, h36c.one0, h36c.one1, h36c.one2, h36c.one3, trivial⟩ fun w41 st41 kp41 L39 hB => ?_
 replace L17 := st41.lc (L17.gr g38) ne17_39
 replace L18 := st41.lc (L18.gr g38) ne18_39
 replace L20 := st41.lc (L20.gr g38) ne20_39
 refine ⟨⟨L17, L18, L20⟩, ?_⟩
 refine ord_nil ?_
 refine k29 _ _ ?_
 try clear k29 K29
 refine wp_seq_k (fun K42 k42 => ?_)
 have hz43 := Below.size hB
 have lt17_43 := L17.lt
 have lt18_43 := L18.lt
 replace L19 := st41.lc (L19.gr (gd30.trans (g31.trans (g32.trans (g35.trans (g36.trans g38)))))) ne19_39
 have lt19_43 := L19.lt
 have lt20_43 := L20.lt
 have lt39_43 := L39.lt
 have gd43 := Gr.drew w41
 replace hB := hB.trans gd43
 replace L17 := L17.gr gd43
 replace L18 := L18.gr gd43
 replace L19 := L19.gr gd43
 replace L20 := L20.gr gd43
 refine wp_region_flo (fun w' => Lc w' b17 #[t9_0, t9_1, t9_2, t9_3, t9_4, t9_5, t9_6, t9_7, t9_8, t9_9, t9_10, t9_11] 32 ∧ Lc w' b18 #[t11_0, t11_1, t11_2, t11_3, t11_4, t11_5, t11_6, t11_7, t11_8, t11_9, t11_10, t11_11] 32 ∧ Lc w' b19 #[t13_0, t13_1, t13_2, t13_3, t13_4, t13_5, t13_6, t13_7, t13_8, t13_9, t13_10, t13_11] 32 ∧ Lc w' b20 #[p15, q15, r15, s15] 30) [(true, 0), (true, 1), (true, 3), (true, 4), (true, 5), (false, 2), (false, 6), (false, 7), (false, 8)] [⟨9, 10, 30, #[(.bool false), (.slice none 0 0), (.bool false), (.slice none 0 0)]⟩] [(false, 10)] (by kernel_rfl) (by kernel_rfl) (by kernel_rfl) (by kernel_rfl) (by kernel_rfl) (by decide) (fun _ _ _ _ _ h => h) (fun _ _ _ _ _ h => h) (fun w' o h => ⟨Lc.gr h.1 (Gr.alloc w' o), Lc.gr h.2.1 (Gr.alloc w' o), Lc.gr h.2.2.1 (Gr.alloc w' o), Lc.gr h.2.2.2 (Gr.alloc w' o)⟩) ⟨L17, L18, L19, L20⟩ (by intro f hf; simp only [List.mem_cons, List.not_mem_nil, or_false] at hf; rcases hf with rfl <;> first | exact alloc_zero (z := (.agg #[(.bool false), (.slice none 0 0), (.bool false), (.slice none 0 0)])) (by kernel_rfl) rfl) ?_
 refine fw 31 (.agg #[t9_0, t9_1, t9_2, t9_3, t9_4, t9_5, t9_6, t9_7, t9_8, t9_9, t9_10, t9_11]) rfl (fun w' hS => (rl 32 0 [t9_0, t9_1, t9_2, t9_3, t9_4, t9_5, t9_6, t9_7, t9_8, t9_9, t9_10, t9_11] hS.1)) ?_
 simp only [p3, p4]
 refine fw 32 (.agg #[t13_0, t13_1, t13_2, t13_3, t13_4, t13_5, t13_6, t13_7, t13_8, t13_9, t13_10, t13_11]) rfl (fun w' hS => (rl 32 0 [t13_0, t13_1, t13_2, t13_3, t13_4, t13_5, t13_6, t13_7, t13_8, t13_9, t13_10, t13_11] hS.2.2.1)) ?_
 simp only [p3, p4]
 refine fw 34 (.agg #[p15, q15, r15, s15]) rfl (fun w' hS => (rl 30 0 [p15, q15, r15, s15] hS.2.2.2)) ?_
 simp only [p3, p4]
 refine fw 35 (.agg #[t11_0, t11_1, t11_2, t11_3, t11_4, t11_5, t11_6, t11_7, t11_8, t11_9, t11_10, t11_11]) rfl (fun w' hS => (rl 32 0 [t11_0, t11_1, t11_2, t11_3, t11_4, t11_5, t11_6, t11_7, t11_8, t11_9, t11_10, t11_11] hS.2.1)) ?_
 simp only [p3, p4]
 refine fw 36 (.agg #[t13_0, t13_1, t13_2, t13_3, t13_4, t13_5, t13_6, t13_7, t13_8, t13_9, t13_10, t13_11]) rfl (fun w' hS => (rl 32 0 [t13_0, t13_1, t13_2, t13_3, t13_4, t13_5, t13_6, t13_7, t13_8, t13_9, t13_10, t13_11] hS.2.2.1)) ?_
 simp only [p3, p4]
 refine flo_eff rfl rfl (fun w44 g44 _ K44 k44 => ?_)
 replace hB := hB.trans g44
 have kq46 := g36.kp.trans (g38.kp.trans (kp41.trans (gd43.kp.trans g44.kp)))
 replace h9a := h9a.kp kq46
 replace h9b := h9b.kp kq46
 replace h9c := h9c.kp kq46
 have kq47 := g14.kp.trans (g15.kp.trans (g16.kp.trans (kp22.trans (kp24.trans (kp26.trans (kp28.trans (gd30.kp.trans (g31.kp.trans (g32.kp.trans (g35.kp.trans (g36.kp.trans (g38.kp.trans (kp41.trans (gd43.kp.trans g44.kp))))))))))))))
 replace h13a := h13a.kp kq47
 replace h13b := h13b.kp kq47
 replace h13c := h13c.kp kq47
 refine ec 33 (dot_v h9a h9b h9c h13a h13b h13c (by omega)) ?_
 rintro e45 w45 ⟨⟨p45, q45, r45, s45, rfl, h45⟩, g45⟩
 refine ⟨_, rfl, ?_⟩
 replace hB := hB.trans g45
 replace L17 := L17.gr (g44.trans g45)
 replace L18 := L18.gr (g44.trans g45)
 replace L19 := L19.gr (g44.trans g45)
 replace L20 := L20.gr (g44.trans g45)
 refine k44 _ _ g45 ⟨L17, L18, L19, L20⟩ ?_
 try clear k44 K44
 simp only [p3, p4]
 refine flo_eff rfl rfl (fun w48 g48 _ K48 k48 => ?_)
 replace hB := hB.trans g48
 have kq50 := g32.kp.trans (g35.kp.trans (g36.kp.trans (g38.kp.trans (kp41.trans (gd43.kp.trans (g44.kp.trans (g45.kp.trans g48.kp)))))))
 replace h11a := h11a.kp kq50
 replace h11b := h11b.kp kq50
 replace h11c := h11c.kp kq50
 have kq51 := g45.kp.trans g48.kp
 replace h13a := h13a.kp kq51
 replace h13b := h13b.kp kq51
 replace h13c := h13c.kp kq51
 refine ec 37 (dot_v h11a h11b h11c h13a h13b h13c (by omega)) ?_
 rintro e49 w49 ⟨⟨p49, q49, r49, s49, rfl, h49⟩, g49⟩
 refine ⟨_, rfl, ?_⟩
 replace hB := hB.trans g49
 replace L17 := L17.gr (g48.trans g49)
 replace L18 := L18.gr (g48.trans g49)
 replace L19 := L19.gr (g48.trans g49)
 replace L20 := L20.gr (g48.trans g49)
 refine k48 _ _ g49 ⟨L17, L18, L19, L20⟩ ?_
 try clear k48 K48
 simp only [p3, p4]
 refine flo_eff rfl rfl (fun w52 g52 _ K52 k52 => ?_)
 replace hB := hB.trans g52
 have kq54 := g32.kp.trans (g35.kp.trans (g36.kp.trans (g38.kp.trans (kp41.trans (gd43.kp.trans (g44.kp.trans (g45.kp.trans (g48.kp.trans (g49.kp.trans g52.kp)))))))))
 replace h15 := h15.kp kq54
 replace h49 := h49.kp g52.kp
 refine ec 38 (mul_r h15 h49 (by omega)) ?_
 rintro e53 w53 ⟨⟨p53, q53, r53, s53, rfl, h53⟩, g53⟩
 refine ⟨_, rfl, ?_⟩
 replace hB := hB.trans g53
 replace L17 := L17.gr (g52.trans g53)
 replace L18 := L18.gr (g52.trans g53)
 replace L19 := L19.gr (g52.trans g53)
 replace L20 := L20.gr (g52.trans g53)
 refine k52 _ _ g53 ⟨L17, L18, L19, L20⟩ ?_
 try clear k52 K52
 simp only [p3, p4]
 refine flo_eff rfl rfl (fun w55 g55 _ K55 k55 => ?_)
 replace hB := hB.trans g55
 have kq57 := g48.kp.trans (g49.kp.trans (g52.kp.trans (g53.kp.trans g55.kp)))
 replace h45 := h45.kp kq57
 replace h53 := h53.kp g55.kp
 refine ec 39 (add_r h45 h53 (by omega)) ?_
 rintro e56 w56 ⟨⟨p56, q56, r56, s56, rfl, h56⟩, g56⟩
 refine ⟨_, rfl, ?_⟩
 replace hB := hB.trans g56
 replace L17 := L17.gr (g55.trans g56)
 replace L18 := L18.gr (g55.trans g56)
 replace L19 := L19.gr (g55.trans g56)
 replace L20 := L20.gr (g55.trans g56)
 refine k55 _ _ g56 ⟨L17, L18, L19, L20⟩ ?_
 try clear k55 K55
 simp only [p3, p4]
 refine flo_nil (fun w58 g58 _ => ?_)
 replace hB := hB.trans g58
 refine floFin1 (fun b59 (L59 : Lc w58 b59 #[(.bool false), (.slice none 0 0), (.bool false), (.slice none 0 0)] 30) q59  => ?_)
 have ne17_59 : b17 ≠ b59 := Nat.ne_of_lt (Nat.lt_of_lt_of_le lt17_43 q59)
 have ne18_59 : b18 ≠ b59 := Nat.ne_of_lt (Nat.lt_of_lt_of_le lt18_43 q59)
 have ne19_59 : b19 ≠ b59 := Nat.ne_of_lt (Nat.lt_of_lt_of_le lt19_43 q59)
 have ne20_59 : b20 ≠ b59 := Nat.ne_of_lt (Nat.lt_of_lt_of_le lt20_43 q59)
 have ne39_59 : b39 ≠ b59 := Nat.ne_of_lt (Nat.lt_of_lt_of_le lt39_43 q59)
 replace q59 := Nat.le_trans hz43 q59
 simp only [putl, p3, p4]
 refine oe ?_
 refine es 30 0 (.agg #[p56, q56, r56, s56]) [p56, q56, r56, s56] #[p56, q56, r56, s56] L59 hB q59 ⟨h56.one0, h56.one1, h56.one2, h56.one3, trivial⟩ fun w61 st61 kp61 L59 hB => ?_
 replace L17 := st61.lc (L17.gr g58) ne17_59
 replace L18 := st61.lc (L18.gr g58) ne18_59
 replace L19 := st61.lc (L19.gr g58) ne19_59
 replace L20 := st61.lc (L20.gr g58) ne20_59
 refine ⟨⟨L17, L18, L19, L20⟩, ?_⟩
 refine ord_nil ?_
 refine k42 _ _ ?_
 try clear k42 K42
 refine wp_seq_k (fun K62 k62 => ?_)
 have hz63 := Below.size hB
 have lt17_63 := L17.lt
 have lt18_63 := L18.lt
 have lt19_63 := L19.lt
 have lt20_63 := L20.lt
 replace L39 := st61.lc (L39.gr (gd43.trans (g44.trans (g45.trans (g48.trans (g49.trans (g52.trans (g53.trans (g55.trans (g56.trans g58)))))))))) ne39_59
 have lt39_63 := L39.lt
 have lt59_63 := L59.lt
 have gd63 := Gr.drew w61
 replace hB := hB.trans gd63
 replace L17 := L17.gr gd63
 replace L18 := L18.gr gd63
 replace L19 := L19.gr gd63
 replace L20 := L20.gr gd63
 refine wp_region_flo (fun w' => Lc w' b17 #[t9_0, t9_1, t9_2, t9_3, t9_4, t9_5, t9_6, t9_7, t9_8, t9_9, t9_10, t9_11] 32 ∧ Lc w' b18 #[t11_0, t11_1, t11_2, t11_3, t11_4, t11_5, t11_6, t11_7, t11_8, t11_9, t11_10, t11_11] 32 ∧ Lc w' b19 #[t13_0, t13_1, t13_2, t13_3, t13_4, t13_5, t13_6, t13_7, t13_8, t13_9, t13_10, t13_11] 32 ∧ Lc w' b20 #[p15, q15, r15, s15] 30) [(true, 0), (true, 1), (true, 3), (true, 4), (true, 6), (false, 2), (false, 5), (false, 7), (false, 8)] [⟨9, 11, 32, #[(.bool false), (.slice none 0 0), (.bool false), (.slice none 0 0), (.bool false), (.slice none 0 0), (.bool false), (.slice none 0 0), (.bool false), (.slice none 0 0), (.bool false), (.slice none 0 0)]⟩] [(false, 10)] (by kernel_rfl) (by kernel_rfl) (by kernel_rfl) (by kernel_rfl) (by kernel_rfl) (by decide) (fun _ _ _ _ _ h => h) (fun _ _ _ _ _ h => h) (fun w' o h => ⟨Lc.gr h.1 (Gr.alloc w' o), Lc.gr h.2.1 (Gr.alloc w' o), Lc.gr h.2.2.1 (Gr.alloc w' o), Lc.gr h.2.2.2 (Gr.alloc w' o)⟩) ⟨L17, L18, L19, L20⟩ (by intro f hf; simp only [List.mem_cons, List.not_mem_nil, or_false] at hf; rcases hf with rfl <;> first | exact alloc_zero (z := (.agg #[(.bool false), (.slice none 0 0), (.bool false), (.slice none 0 0), (.bool false), (.slice none 0 0), (.bool false), (.slice none 0 0), (.bool false), (.slice none 0 0), (.bool false), (.slice none 0 0)])) (by kernel_rfl) rfl) ?_
 refine fw 40 (.agg #[t9_0, t9_1, t9_2, t9_3, t9_4, t9_5, t9_6, t9_7, t9_8, t9_9, t9_10, t9_11]) rfl (fun w' hS => (rl 32 0 [t9_0, t9_1, t9_2, t9_3, t9_4, t9_5, t9_6, t9_7, t9_8, t9_9, t9_10, t9_11] hS.1)) ?_
 simp only [p3, p4]
 refine fw 41 (.agg #[t13_0, t13_1, t13_2, t13_3, t13_4, t13_5, t13_6, t13_7, t13_8, t13_9, t13_10, t13_11]) rfl (fun w' hS => (rl 32 0 [t13_0, t13_1, t13_2, t13_3, t13_4, t13_5, t13_6, t13_7, t13_8, t13_9, t13_10, t13_11] hS.2.2.1)) ?_
 simp only [p3, p4]
 refine fw 43 (.agg #[t11_0, t11_1, t11_2, t11_3, t11_4, t11_5, t11_6, t11_7, t11_8, t11_9, t11_10, t11_11]) rfl (fun w' hS => (rl 32 0 [t11_0, t11_1, t11_2, t11_3, t11_4, t11_5, t11_6, t11_7, t11_8, t11_9, t11_10, t11_11] hS.2.1)) ?_
 simp only [p3, p4]
 refine fw 44 (.agg #[t13_0, t13_1, t13_2, t13_3, t13_4, t13_5, t13_6, t13_7, t13_8, t13_9, t13_10, t13_11]) rfl (fun w' hS => (rl 32 0 [t13_0, t13_1, t13_2, t13_3, t13_4, t13_5, t13_6, t13_7, t13_8, t13_9, t13_10, t13_11] hS.2.2.1)) ?_
 simp only [p3, p4]
 refine fw 46 (.agg #[p15, q15, r15, s15]) rfl (fun w' hS => (rl 30 0 [p15, q15, r15, s15] hS.2.2.2)) ?_
 simp only [p3, p4]
 refine flo_eff rfl rfl (fun w64 g64 _ K64 k64 => ?_)
 replace hB := hB.trans g64
 have kq66 := g45.kp.trans (g48.kp.trans (g49.kp.trans (g52.kp.trans (g53.kp.trans (g55.kp.trans (g56.kp.trans (g58.kp.trans (kp61.trans (gd63.kp.trans g64.kp)))))))))
 replace h9a := h9a.kp kq66
 replace h9b := h9b.kp kq66
 replace h9c := h9c.kp kq66
 have kq67 := g49.kp.trans (g52.kp.trans (g53.kp.trans (g55.kp.trans (g56.kp.trans (g58.kp.trans (kp61.trans (gd63.kp.trans g64.kp)))))))
 replace h13a := h13a.kp kq67
 replace h13b := h13b.kp kq67
 replace h13c := h13c.kp kq67
 refine ec 42 (cross_v h9a h9b h9c h13a h13b h13c (by omega)) ?_
 rintro e65 w65 ⟨⟨t65_0, t65_1, t65_2, t65_3, t65_4, t65_5, t65_6, t65_7, t65_8, t65_9, t65_10, t65_11, rfl, h65a, h65b, h65c⟩, g65⟩
 refine ⟨_, rfl, ?_⟩
 replace hB := hB.trans g65
 replace L17 := L17.gr (g64.trans g65)
 replace L18 := L18.gr (g64.trans g65)
 replace L19 := L19.gr (g64.trans g65)
 replace L20 := L20.gr (g64.trans g65)
 refine k64 _ _ g65 ⟨L17, L18, L19, L20⟩ ?_
 try clear k64 K64
 simp only [p3, p4]
 refine flo_eff rfl rfl (fun w68 g68 _ K68 k68 => ?_)
 replace hB := hB.trans g68
 have kq70 := g49.kp.trans (g52.kp.trans (g53.kp.trans (g55.kp.trans (g56.kp.trans (g58.kp.trans (kp61.trans (gd63.kp.trans (g64.kp.trans (g65.kp.trans g68.kp)))))))))
 replace h11a := h11a.kp kq70
 replace h11b := h11b.kp kq70
 replace h11c := h11c.kp kq70
 have kq71 := g65.kp.trans g68.kp
 replace h13a := h13a.kp kq71
 replace h13b := h13b.kp kq71
 replace h13c := h13c.kp kq71
 refine ec 45 (cross_v h11a h11b h11c h13a h13b h13c (by omega)) ?_
 rintro e69 w69 ⟨⟨t69_0, t69_1, t69_2, t69_3, t69_4, t69_5, t69_6, t69_7, t69_8, t69_9, t69_10, t69_11, rfl, h69a, h69b, h69c⟩, g69⟩
 refine ⟨_, rfl, ?_⟩
 replace hB := hB.trans g69
 replace L17 := L17.gr (g68.trans g69)
 replace L18 := L18.gr (g68.trans g69)
 replace L19 := L19.gr (g68.trans g69)
 replace L20 := L20.gr (g68.trans g69)
 refine k68 _ _ g69 ⟨L17, L18, L19, L20⟩ ?_
 try clear k68 K68
 simp only [p3, p4]
 refine flo_eff rfl rfl (fun w72 g72 _ K72 k72 => ?_)
 replace hB := hB.trans g72
 replace h69a := h69a.kp g72.kp
 replace h69b := h69b.kp g72.kp
 replace h69c := h69c.kp g72.kp
 have kq74 := g53.kp.trans (g55.kp.trans (g56.kp.trans (g58.kp.trans (kp61.trans (gd63.kp.trans (g64.kp.trans (g65.kp.trans (g68.kp.trans (g69.kp.trans g72.kp)))))))))
 replace h15 := h15.kp kq74
 refine ec 47 (vscale_v h69a h69b h69c h15 (by omega)) ?_
 rintro e73 w73 ⟨⟨t73_0, t73_1, t73_2, t73_3, t73_4, t73_5, t73_6, t73_7, t73_8, t73_9, t73_10, t73_11, rfl, h73a, h73b, h73c⟩, g73⟩
 refine ⟨_, rfl, ?_⟩
 replace hB := hB.trans g73
 replace L17 := L17.gr (g72.trans g73)
 replace L18 := L18.gr (g72.trans g73)
 replace L19 := L19.gr (g72.trans g73)
 replace L20 := L20.gr (g72.trans g73)
 refine k72 _ _ g73 ⟨L17, L18, L19, L20⟩ ?_
 try clear k72 K72
 simp only [p3, p4]
 refine flo_eff rfl rfl (fun w75 g75 _ K75 k75 => ?_)
 replace hB := hB.trans g75
 have kq77 := g68.kp.trans (g69.kp.trans (g72.kp.trans (g73.kp.trans g75.kp)))
 replace h65a := h65a.kp kq77
 replace h65b := h65b.kp kq77
 replace h65c := h65c.kp kq77
 replace h73a := h73a.kp g75.kp
 replace h73b := h73b.kp g75.kp
 replace h73c := h73c.kp g75.kp
 refine ec 48 (vadd_v h65a h65b h65c h73a h73b h73c (by omega)) ?_
 rintro e76 w76 ⟨⟨t76_0, t76_1, t76_2, t76_3, t76_4, t76_5, t76_6, t76_7, t76_8, t76_9, t76_10, t76_11, rfl, h76a, h76b, h76c⟩, g76⟩
 refine ⟨_, rfl, ?_⟩
 replace hB := hB.trans g76
 replace L17 := L17.gr (g75.trans g76)
 replace L18 := L18.gr (g75.trans g76)
 replace L19 := L19.gr (g75.trans g76)
 replace L20 := L20.gr (g75.trans g76)
 refine k75 _ _ g76 ⟨L17, L18, L19, L20⟩ ?_
 try clear k75 K75
 simp only [p3, p4]
 refine flo_nil (fun w78 g78 _ => ?_)
 replace hB := hB.trans g78
 refine floFin1 (fun b79 (L79 : Lc w78 b79 #[(.bool false), (.slice none 0 0), (.bool false), (.slice none 0 0), (.bool false), (.slice none 0 0), (.bool false), (.slice none 0 0), (.bool false), (.slice none 0 0), (.bool false), (.slice none 0 0)] 32) q79  => ?_)
 have ne17_79 : b17 ≠ b79 := Nat.ne_of_lt (Nat.lt_of_lt_of_le lt17_63 q79)
 have ne18_79 : b18 ≠ b79 := Nat.ne_of_lt (Nat.lt_of_lt_of_le lt18_63 q79)
 have ne19_79 : b19 ≠ b79 := Nat.ne_of_lt (Nat.lt_of_lt_of_le lt19_63 q79)
 have ne20_79 : b20 ≠ b79 := Nat.ne_of_lt (Nat.lt_of_lt_of_le lt20_63 q79)
 have ne39_79 : b39 ≠ b79 := Nat.ne_of_lt (Nat.lt_of_lt_of_le lt39_63 q79)
 have ne59_79 : b59 ≠ b79 := Nat.ne_of_lt (Nat.lt_of_lt_of_le lt59_63 q79)
 replace q79 := Nat.le_trans hz63 q79
 simp only [putl, p3, p4]
 refine oe ?_
 refine es 32 0 (.agg #[t76_0, t76_1, t76_2, t76_3, t76_4, t76_5, t76_6, t76_7, t76_8, t76_9, t76_10, t76_11]) [t76_0, t76_1, t76_2, t76_3, t76_4, t76_5, t76_6, t76_7, t76_8, t76_9, t76_10, t76_11] #[t76_0, t76_1, t76_2, t76_3, t76_4, t76_5, t76_6, t76_7, t76_8, t76_9, t76_10, t76_11] L79 hB q79 ⟨h76a.one0, h76a.one1, h76a.one2, h76a.one3, h76b.one0, h76b.one1, h76b.one2, h76b.one3, h76c.one0, h76c.one1, h76c.one2, h76c.one3, trivial⟩ fun w81 st81 kp81 L79 hB => ?_
 replace L17 := st81.lc (L17.gr g78) ne17_79
 replace L18 := st81.lc (L18.gr g78) ne18_79
 replace L19 := st81.lc (L19.gr g78) ne19_79
 replace L20 := st81.lc (L20.gr g78) ne20_79
 refine ⟨⟨L17, L18, L19, L20⟩, ?_⟩
 refine ord_nil ?_
 refine k62 _ _ ?_
 try clear k62 K62
 refine wp_seq_k (fun K82 k82 => ?_)
 have gd120 := Gr.drew w81
 replace hB := hB.trans gd120
 replace L17 := L17.gr gd120
 replace L18 := L18.gr gd120
 replace L19 := L19.gr gd120
 replace L39 := (st81.lc (L39.gr (gd63.trans (g64.trans (g65.trans (g68.trans (g69.trans (g72.trans (g73.trans (g75.trans (g76.trans g78)))))))))) ne39_79).gr gd120
 replace L59 := (st81.lc (L59.gr (gd63.trans (g64.trans (g65.trans (g68.trans (g69.trans (g72.trans (g73.trans (g75.trans (g76.trans g78)))))))))) ne59_79).gr gd120
 replace L79 := L79.gr gd120
 refine wp_region_ord (fun w' => Lc w' b17 #[t9_0, t9_1, t9_2, t9_3, t9_4, t9_5, t9_6, t9_7, t9_8, t9_9, t9_10, t9_11] 32 ∧ Lc w' b18 #[t11_0, t11_1, t11_2, t11_3, t11_4, t11_5, t11_6, t11_7, t11_8, t11_9, t11_10, t11_11] 32 ∧ Lc w' b19 #[t13_0, t13_1, t13_2, t13_3, t13_4, t13_5, t13_6, t13_7, t13_8, t13_9, t13_10, t13_11] 32 ∧ Lc w' b39 #[t36_0, t36_1, t36_2, t36_3, t36_4, t36_5, t36_6, t36_7, t36_8, t36_9, t36_10, t36_11] 32 ∧ Lc w' b59 #[p56, q56, r56, s56] 30 ∧ Lc w' b79 #[t76_0, t76_1, t76_2, t76_3, t76_4, t76_5, t76_6, t76_7, t76_8, t76_9, t76_10, t76_11] 32) [(true, 0), (true, 1), (true, 3), (false, 2), (false, 4), (true, 5), (true, 6), (true, 7), (true, 8), (true, 10), (false, 9), (false, 11), (true, 12), (true, 13), (true, 14), (true, 15), (true, 16), (true, 18), (true, 19), (true, 20), (false, 17), (false, 21), (false, 22), (true, 23), (true, 24), (true, 25), (true, 26), (true, 27), (true, 28), (true, 30), (true, 31), (true, 32), (false, 29), (false, 33), (false, 34), (false, 35), (true, 36), (true, 37), (true, 38)] (by kernel_rfl) (by kernel_rfl) (by kernel_rfl) (by decide) (fun _ _ _ _ _ h => h) ⟨L17, L18, L19, L39, L59, L79⟩ ?_
 refine ow 49 (.agg #[t36_0, t36_1, t36_2, t36_3, t36_4, t36_5, t36_6, t36_7, t36_8, t36_9, t36_10, t36_11]) rfl (fun w' hS => (rl 32 0 [t36_0, t36_1, t36_2, t36_3, t36_4, t36_5, t36_6, t36_7, t36_8, t36_9, t36_10, t36_11] hS.2.2.2.1)) ?_
 simp only [p3, p4]
 refine ow 50 (.agg #[t13_0, t13_1, t13_2, t13_3, t13_4, t13_5, t13_6, t13_7, t13_8, t13_9, t13_10, t13_11]) rfl (fun w' hS => (rl 32 0 [t13_0, t13_1, t13_2, t13_3, t13_4, t13_5, t13_6, t13_7, t13_8, t13_9, t13_10, t13_11] hS.2.2.1)) ?_
 simp only [p3, p4]
 refine ow 52 (.agg #[p56, q56, r56, s56]) rfl (fun w' hS => (rl 30 0 [p56, q56, r56, s56] hS.2.2.2.2.1)) ?_
 simp only [p3, p4]
 refine oe ?_
 have kq123 := g38.kp.trans (kp41.trans (gd43.kp.trans (g44.kp.trans (g45.kp.trans (g48.kp.trans (g49.kp.trans (g52.kp.trans (g53.kp.trans (g55.kp.trans (g56.kp.trans (g58.kp.trans (kp61.trans (gd63.kp.trans (g64.kp.trans (g65.kp.trans (g68.kp.trans (g69.kp.trans (g72.kp.trans (g73.kp.trans (g75.kp.trans (g76.kp.trans (g78.kp.trans (kp81.trans gd120.kp)))))))))))))))))))))))
 replace h36a := h36a.kp kq123
 replace h36b := h36b.kp kq123
 replace h36c := h36c.kp kq123
 have kq124 := g69.kp.trans (g72.kp.trans (g73.kp.trans (g75.kp.trans (g76.kp.trans (g78.kp.trans (kp81.trans gd120.kp))))))
 replace h13a := h13a.kp kq124
 replace h13b := h13b.kp kq124
 replace h13c := h13c.kp kq124
 refine ec 51 (dot_v h36a h36b h36c h13a h13b h13c (by omega)) ?_
 rintro e122 w122 ⟨⟨p122, q122, r122, s122, rfl, h122⟩, g122⟩
 refine ⟨_, rfl, ?_⟩
 replace hB := hB.trans g122
 replace L17 := L17.gr g122
 replace L18 := L18.gr g122
 replace L19 := L19.gr g122
 replace L39 := L39.gr g122
 replace L59 := L59.gr g122
 replace L79 := L79.gr g122
 refine ⟨⟨L17, L18, L19, L39, L59, L79⟩, ?_⟩
 simp only [p3, p4]
 refine oe ?_
 have kq127 := g58.kp.trans (kp61.trans (gd63.kp.trans (g64.kp.trans (g65.kp.trans (g68.kp.trans (g69.kp.trans (g72.kp.trans (g73.kp.trans (g75.kp.trans (g76.kp.trans (g78.kp.trans (kp81.trans (gd120.kp.trans g122.kp)))))))))))))
 replace h56 := h56.kp kq127
 refine ec 53 (compare_r h122 h56 (by omega)) ?_
 rintro e126 w126 ⟨rfl, g126⟩
 refine ⟨_, rfl, ?_⟩
 replace hB := hB.trans g126
 replace L17 := L17.gr g126
 replace L18 := L18.gr g126
 replace L19 := L19.gr g126
 replace L39 := L39.gr g126
 replace L59 := L59.gr g126
 replace L79 := L79.gr g126
 refine ⟨⟨L17, L18, L19, L39, L59, L79⟩, ?_⟩
 simp only [p3, p4]
 have hb128 : ((rcmp (0 + (a1 + (sk * c1)) * f1 + (a2 + (sk * c2)) * f2 + (a3 + (sk * c3)) * f3) ((0 + a1 * f1 + a2 * f2 + a3 * f3) + (sk * (0 + c1 * f1 + c2 * f2 + c3 * f3))) == (0 : Int))) = true := (lawVl0 a1 a2 a3 c1 c2 c3 f1 f2 f3 sk )
 refine ow 54 (.bool true) rfl (fun w' hS => (RunV.bool (x := (rcmp (0 + (a1 + (sk * c1)) * f1 + (a2 + (sk * c2)) * f2 + (a3 + (sk * c3)) * f3) ((0 + a1 * f1 + a2 * f2 + a3 * f3) + (sk * (0 + c1 * f1 + c2 * f2 + c3 * f3))) == (0 : Int))) (rvk (by kernel_rfl)) hb128)) ?_
 simp only [p3, p4]
 refine ov 55 (.bool true) ?_
 simp only [p3, p4]
 refine ow 56 (.agg #[t36_0, t36_1, t36_2, t36_3, t36_4, t36_5, t36_6, t36_7, t36_8, t36_9, t36_10, t36_11]) rfl (fun w' hS => (rl 32 0 [t36_0, t36_1, t36_2, t36_3, t36_4, t36_5, t36_6, t36_7, t36_8, t36_9, t36_10, t36_11] hS.2.2.2.1)) ?_
 simp only [p3, p4]
 refine ow 57 (.agg #[t13_0, t13_1, t13_2, t13_3, t13_4, t13_5, t13_6, t13_7, t13_8, t13_9, t13_10, t13_11]) rfl (fun w' hS => (rl 32 0 [t13_0, t13_1, t13_2, t13_3, t13_4, t13_5, t13_6, t13_7, t13_8, t13_9, t13_10, t13_11] hS.2.2.1)) ?_
 simp only [p3, p4]
 refine ow 59 (.agg #[t76_0, t76_1, t76_2, t76_3, t76_4, t76_5, t76_6, t76_7, t76_8, t76_9, t76_10, t76_11]) rfl (fun w' hS => (rl 32 0 [t76_0, t76_1, t76_2, t76_3, t76_4, t76_5, t76_6, t76_7, t76_8, t76_9, t76_10, t76_11] hS.2.2.2.2.2)) ?_
 simp only [p3, p4]
 refine oe ?_
 have kq131 := g122.kp.trans g126.kp
 replace h36a := h36a.kp kq131
 replace h36b := h36b.kp kq131
 replace h36c := h36c.kp kq131
 replace h13a := h13a.kp kq131
 replace h13b := h13b.kp kq131
 replace h13c := h13c.kp kq131
 refine ec 58 (cross_v h36a h36b h36c h13a h13b h13c (by omega)) ?_
 rintro e130 w130 ⟨⟨t130_0, t130_1, t130_2, t130_3, t130_4, t130_5, t130_6, t130_7, t130_8, t130_9, t130_10, t130_11, rfl, h130a, h130b, h130c⟩, g130⟩
 refine ⟨_, rfl, ?_⟩
 replace hB := hB.trans g130
 replace L17 := L17.gr g130
 replace L18 := L18.gr g130
 replace L19 := L19.gr g130
 replace L39 := L39.gr g130
 replace L59 := L59.gr g130
 replace L79 := L79.gr g130
 refine ⟨⟨L17, L18, L19, L39, L59, L79⟩, ?_⟩
 simp only [p3, p4]
 refine oe ?_
 have kq134 := g78.kp.trans (kp81.trans (gd120.kp.trans (g122.kp.trans (g126.kp.trans g130.kp))))
 replace h76a := h76a.kp kq134
 replace h76b := h76b.kp kq134
 replace h76c := h76c.kp kq134
 refine ec 60 (vequal_v h130a h130b h130c h76a h76b h76c (by omega)) ?_
 rintro e133 w133 ⟨rfl, g133⟩
 refine ⟨_, rfl, ?_⟩
 replace hB := hB.trans g133
 replace L17 := L17.gr g133
 replace L18 := L18.gr g133
 replace L19 := L19.gr g133
 replace L39 := L39.gr g133
 replace L59 := L59.gr g133
 replace L79 := L79.gr g133
 refine ⟨⟨L17, L18, L19, L39, L59, L79⟩, ?_⟩
 simp only [p3, p4]
 have hb135 : (vcmp ((a2 + (sk * c2)) * f3 - (a3 + (sk * c3)) * f2) ((a3 + (sk * c3)) * f1 - (a1 + (sk * c1)) * f3) ((a1 + (sk * c1)) * f2 - (a2 + (sk * c2)) * f1) ((a2 * f3 - a3 * f2) + (sk * (c2 * f3 - c3 * f2))) ((a3 * f1 - a1 * f3) + (sk * (c3 * f1 - c1 * f3))) ((a1 * f2 - a2 * f1) + (sk * (c1 * f2 - c2 * f1))) == (0 : Int)) = true := (lawVl1 a1 a2 a3 c1 c2 c3 f1 f2 f3 sk )
 refine ow 61 (.bool true) rfl (fun w' hS => (RunV.bool (x := vcmp ((a2 + (sk * c2)) * f3 - (a3 + (sk * c3)) * f2) ((a3 + (sk * c3)) * f1 - (a1 + (sk * c1)) * f3) ((a1 + (sk * c1)) * f2 - (a2 + (sk * c2)) * f1) ((a2 * f3 - a3 * f2) + (sk * (c2 * f3 - c3 * f2))) ((a3 * f1 - a1 * f3) + (sk * (c3 * f1 - c1 * f3))) ((a1 * f2 - a2 * f1) + (sk * (c1 * f2 - c2 * f1))) == (0 : Int)) (rvk (by kernel_rfl)) hb135)) ?_
 simp only [p3, p4]
 refine ov 62 (.bool true) ?_
 simp only [p3, p4]
 refine ow 63 (.agg #[t9_0, t9_1, t9_2, t9_3, t9_4, t9_5, t9_6, t9_7, t9_8, t9_9, t9_10, t9_11]) rfl (fun w' hS => (rl 32 0 [t9_0, t9_1, t9_2, t9_3, t9_4, t9_5, t9_6, t9_7, t9_8, t9_9, t9_10, t9_11] hS.1)) ?_
 simp only [p3, p4]
 refine ow 64 (.agg #[t11_0, t11_1, t11_2, t11_3, t11_4, t11_5, t11_6, t11_7, t11_8, t11_9, t11_10, t11_11]) rfl (fun w' hS => (rl 32 0 [t11_0, t11_1, t11_2, t11_3, t11_4, t11_5, t11_6, t11_7, t11_8, t11_9, t11_10, t11_11] hS.2.1)) ?_
 simp only [p3, p4]
 refine ow 65 (.agg #[t13_0, t13_1, t13_2, t13_3, t13_4, t13_5, t13_6, t13_7, t13_8, t13_9, t13_10, t13_11]) rfl (fun w' hS => (rl 32 0 [t13_0, t13_1, t13_2, t13_3, t13_4, t13_5, t13_6, t13_7, t13_8, t13_9, t13_10, t13_11] hS.2.2.1)) ?_
 simp only [p3, p4]
 refine ow 67 (.agg #[t11_0, t11_1, t11_2, t11_3, t11_4, t11_5, t11_6, t11_7, t11_8, t11_9, t11_10, t11_11]) rfl (fun w' hS => (rl 32 0 [t11_0, t11_1, t11_2, t11_3, t11_4, t11_5, t11_6, t11_7, t11_8, t11_9, t11_10, t11_11] hS.2.1)) ?_
 simp only [p3, p4]
 refine ow 68 (.agg #[t13_0, t13_1, t13_2, t13_3, t13_4, t13_5, t13_6, t13_7, t13_8, t13_9, t13_10, t13_11]) rfl (fun w' hS => (rl 32 0 [t13_0, t13_1, t13_2, t13_3, t13_4, t13_5, t13_6, t13_7, t13_8, t13_9, t13_10, t13_11] hS.2.2.1)) ?_
 simp only [p3, p4]
 refine ow 69 (.agg #[t9_0, t9_1, t9_2, t9_3, t9_4, t9_5, t9_6, t9_7, t9_8, t9_9, t9_10, t9_11]) rfl (fun w' hS => (rl 32 0 [t9_0, t9_1, t9_2, t9_3, t9_4, t9_5, t9_6, t9_7, t9_8, t9_9, t9_10, t9_11] hS.1)) ?_
 simp only [p3, p4]
 refine oe ?_
 have kq138 := g65.kp.trans (g68.kp.trans (g69.kp.trans (g72.kp.trans (g73.kp.trans (g75.kp.trans (g76.kp.trans (g78.kp.trans (kp81.trans (gd120.kp.trans (g122.kp.trans (g126.kp.trans (g130.kp.trans g133.kp))))))))))))
 replace h9a := h9a.kp kq138
 replace h9b := h9b.kp kq138
 replace h9c := h9c.kp kq138
 have kq139 := g69.kp.trans (g72.kp.trans (g73.kp.trans (g75.kp.trans (g76.kp.trans (g78.kp.trans (kp81.trans (gd120.kp.trans (g122.kp.trans (g126.kp.trans (g130.kp.trans g133.kp))))))))))
 replace h11a := h11a.kp kq139
 replace h11b := h11b.kp kq139
 replace h11c := h11c.kp kq139
 have kq140 := g130.kp.trans g133.kp
 replace h13a := h13a.kp kq140
 replace h13b := h13b.kp kq140
 replace h13c := h13c.kp kq140
 refine ec 66 (vdet_v h9a h9b h9c h11a h11b h11c h13a h13b h13c (by omega)) ?_
 rintro e137 w137 ⟨⟨p137, q137, r137, s137, rfl, h137⟩, g137⟩
 refine ⟨_, rfl, ?_⟩
 replace hB := hB.trans g137
 replace L17 := L17.gr g137
 replace L18 := L18.gr g137
 replace L19 := L19.gr g137
 replace L39 := L39.gr g137
 replace L59 := L59.gr g137
 replace L79 := L79.gr g137
 refine ⟨⟨L17, L18, L19, L39, L59, L79⟩, ?_⟩
 simp only [p3, p4]
 refine oe ?_
 replace h11a := h11a.kp g137.kp
 replace h11b := h11b.kp g137.kp
 replace h11c := h11c.kp g137.kp
 replace h13a := h13a.kp g137.kp
 replace h13b := h13b.kp g137.kp
 replace h13c := h13c.kp g137.kp
 replace h9a := h9a.kp g137.kp
 replace h9b := h9b.kp g137.kp
 replace h9c := h9c.kp g137.kp
 refine ec 70 (vdet_v h11a h11b h11c h13a h13b h13c h9a h9b h9c (by omega)) ?_
 rintro e142 w142 ⟨⟨p142, q142, r142, s142, rfl, h142⟩, g142⟩
 refine ⟨_, rfl, ?_⟩
 replace hB := hB.trans g142
 replace L17 := L17.gr g142
 replace L18 := L18.gr g142
 replace L19 := L19.gr g142
 replace L39 := L39.gr g142
 replace L59 := L59.gr g142
 replace L79 := L79.gr g142
 refine ⟨⟨L17, L18, L19, L39, L59, L79⟩, ?_⟩
 simp only [p3, p4]
 refine oe ?_
 replace h137 := h137.kp g142.kp
 refine ec 71 (compare_r h137 h142 (by omega)) ?_
 rintro e144 w144 ⟨rfl, g144⟩
 refine ⟨_, rfl, ?_⟩
 replace hB := hB.trans g144
 replace L17 := L17.gr g144
 replace L18 := L18.gr g144
 replace L19 := L19.gr g144
 replace L39 := L39.gr g144
 replace L59 := L59.gr g144
 replace L79 := L79.gr g144
 refine ⟨⟨L17, L18, L19, L39, L59, L79⟩, ?_⟩
 simp only [p3, p4]
 have hb145 : ((rcmp (0 + a1 * (c2 * f3 - c3 * f2) + a2 * (c3 * f1 - c1 * f3) + a3 * (c1 * f2 - c2 * f1)) (0 + c1 * (f2 * a3 - f3 * a2) + c2 * (f3 * a1 - f1 * a3) + c3 * (f1 * a2 - f2 * a1)) == (0 : Int))) = true := (lawVl2 a1 a2 a3 c1 c2 c3 f1 f2 f3 )
 refine ow 72 (.bool true) rfl (fun w' hS => (RunV.bool (x := (rcmp (0 + a1 * (c2 * f3 - c3 * f2) + a2 * (c3 * f1 - c1 * f3) + a3 * (c1 * f2 - c2 * f1)) (0 + c1 * (f2 * a3 - f3 * a2) + c2 * (f3 * a1 - f1 * a3) + c3 * (f1 * a2 - f2 * a1)) == (0 : Int))) (rvk (by kernel_rfl)) hb145)) ?_
 simp only [p3, p4]
 refine ov 73 (.bool true) ?_
 simp only [p3, p4]
 refine ov 74 (.bool true) ?_
 simp only [p3, p4]
 refine ow 75 (.agg #[t9_0, t9_1, t9_2, t9_3, t9_4, t9_5, t9_6, t9_7, t9_8, t9_9, t9_10, t9_11]) rfl (fun w' hS => (rl 32 0 [t9_0, t9_1, t9_2, t9_3, t9_4, t9_5, t9_6, t9_7, t9_8, t9_9, t9_10, t9_11] hS.1)) ?_
 simp only [p3, p4]
 refine ow 76 (.agg #[t11_0, t11_1, t11_2, t11_3, t11_4, t11_5, t11_6, t11_7, t11_8, t11_9, t11_10, t11_11]) rfl (fun w' hS => (rl 32 0 [t11_0, t11_1, t11_2, t11_3, t11_4, t11_5, t11_6, t11_7, t11_8, t11_9, t11_10, t11_11] hS.2.1)) ?_
 simp only [p3, p4]
 refine ow 77 (.agg #[t13_0, t13_1, t13_2, t13_3, t13_4, t13_5, t13_6, t13_7, t13_8, t13_9, t13_10, t13_11]) rfl (fun w' hS => (rl 32 0 [t13_0, t13_1, t13_2, t13_3, t13_4, t13_5, t13_6, t13_7, t13_8, t13_9, t13_10, t13_11] hS.2.2.1)) ?_
 simp only [p3, p4]
 refine ow 79 (.agg #[t11_0, t11_1, t11_2, t11_3, t11_4, t11_5, t11_6, t11_7, t11_8, t11_9, t11_10, t11_11]) rfl (fun w' hS => (rl 32 0 [t11_0, t11_1, t11_2, t11_3, t11_4, t11_5, t11_6, t11_7, t11_8, t11_9, t11_10, t11_11] hS.2.1)) ?_
 simp only [p3, p4]
 refine ow 80 (.agg #[t9_0, t9_1, t9_2, t9_3, t9_4, t9_5, t9_6, t9_7, t9_8, t9_9, t9_10, t9_11]) rfl (fun w' hS => (rl 32 0 [t9_0, t9_1, t9_2, t9_3, t9_4, t9_5, t9_6, t9_7, t9_8, t9_9, t9_10, t9_11] hS.1)) ?_
 simp only [p3, p4]
 refine ow 81 (.agg #[t13_0, t13_1, t13_2, t13_3, t13_4, t13_5, t13_6, t13_7, t13_8, t13_9, t13_10, t13_11]) rfl (fun w' hS => (rl 32 0 [t13_0, t13_1, t13_2, t13_3, t13_4, t13_5, t13_6, t13_7, t13_8, t13_9, t13_10, t13_11] hS.2.2.1)) ?_
 simp only [p3, p4]
 refine oe ?_
 have kq148 := g142.kp.trans g144.kp
 replace h9a := h9a.kp kq148
 replace h9b := h9b.kp kq148
 replace h9c := h9c.kp kq148
 replace h11a := h11a.kp kq148
 replace h11b := h11b.kp kq148
 replace h11c := h11c.kp kq148
 replace h13a := h13a.kp kq148
 replace h13b := h13b.kp kq148
 replace h13c := h13c.kp kq148
 refine ec 78 (vdet_v h9a h9b h9c h11a h11b h11c h13a h13b h13c (by omega)) ?_
 rintro e147 w147 ⟨⟨p147, q147, r147, s147, rfl, h147⟩, g147⟩
 refine ⟨_, rfl, ?_⟩
 replace hB := hB.trans g147
 replace L17 := L17.gr g147
 replace L18 := L18.gr g147
 replace L19 := L19.gr g147
 replace L39 := L39.gr g147
 replace L59 := L59.gr g147
 replace L79 := L79.gr g147
 refine ⟨⟨L17, L18, L19, L39, L59, L79⟩, ?_⟩
 simp only [p3, p4]
 refine oe ?_
 replace h11a := h11a.kp g147.kp
 replace h11b := h11b.kp g147.kp
 replace h11c := h11c.kp g147.kp
 replace h9a := h9a.kp g147.kp
 replace h9b := h9b.kp g147.kp
 replace h9c := h9c.kp g147.kp
 replace h13a := h13a.kp g147.kp
 replace h13b := h13b.kp g147.kp
 replace h13c := h13c.kp g147.kp
 refine ec 82 (vdet_v h11a h11b h11c h9a h9b h9c h13a h13b h13c (by omega)) ?_
 rintro e150 w150 ⟨⟨p150, q150, r150, s150, rfl, h150⟩, g150⟩
 refine ⟨_, rfl, ?_⟩
 replace hB := hB.trans g150
 replace L17 := L17.gr g150
 replace L18 := L18.gr g150
 replace L19 := L19.gr g150
 replace L39 := L39.gr g150
 replace L59 := L59.gr g150
 replace L79 := L79.gr g150
 refine ⟨⟨L17, L18, L19, L39, L59, L79⟩, ?_⟩
 simp only [p3, p4]
 refine oe ?_
 refine ec 83 (neg_r h150 ) ?_
 rintro e152 w152 ⟨⟨p152, q152, r152, s152, rfl, h152⟩, g152⟩
 refine ⟨_, rfl, ?_⟩
 replace hB := hB.trans g152
 replace L17 := L17.gr g152
 replace L18 := L18.gr g152
 replace L19 := L19.gr g152
 replace L39 := L39.gr g152
 replace L59 := L59.gr g152
 replace L79 := L79.gr g152
 refine ⟨⟨L17, L18, L19, L39, L59, L79⟩, ?_⟩
 simp only [p3, p4]
 refine oe ?_
 have kq155 := g150.kp.trans g152.kp
 replace h147 := h147.kp kq155
 refine ec 84 (compare_r h147 h152 (by omega)) ?_
 rintro e154 w154 ⟨rfl, g154⟩
 refine ⟨_, rfl, ?_⟩
 replace hB := hB.trans g154
 replace L17 := L17.gr g154
 replace L18 := L18.gr g154
 replace L19 := L19.gr g154
 replace L39 := L39.gr g154
 replace L59 := L59.gr g154
 replace L79 := L79.gr g154
 refine ⟨⟨L17, L18, L19, L39, L59, L79⟩, ?_⟩
 simp only [p3, p4]
 have hb156 : ((rcmp (0 + a1 * (c2 * f3 - c3 * f2) + a2 * (c3 * f1 - c1 * f3) + a3 * (c1 * f2 - c2 * f1)) (-(0 + c1 * (a2 * f3 - a3 * f2) + c2 * (a3 * f1 - a1 * f3) + c3 * (a1 * f2 - a2 * f1))) == (0 : Int))) = true := (lawVl3 a1 a2 a3 c1 c2 c3 f1 f2 f3 )
 refine ow 85 (.bool true) rfl (fun w' hS => (RunV.bool (x := (rcmp (0 + a1 * (c2 * f3 - c3 * f2) + a2 * (c3 * f1 - c1 * f3) + a3 * (c1 * f2 - c2 * f1)) (-(0 + c1 * (a2 * f3 - a3 * f2) + c2 * (a3 * f1 - a1 * f3) + c3 * (a1 * f2 - a2 * f1))) == (0 : Int))) (rvk (by kernel_rfl)) hb156)) ?_
 simp only [p3, p4]
 refine ov 86 (.bool true) ?_
 simp only [p3, p4]
 refine ov 4 (.bool true) ?_
 simp only [p3, p4]
 refine ord_nil ?_
 refine k82 _ _ ?_
 try clear k82 K82
 refine wp_ret ?_
 refine bodyPost_ret (v := (.bool true)) (ret_tmp rfl rfl) rfl ⟨?_, hB⟩
 exact rfl

theorem vector_linear (ia1 ia2 ia3 da : Int) (ja1 : -128 ≤ ia1 ∧ ia1 ≤ 127) (ja2 : -128 ≤ ia2 ∧ ia2 ≤ 127) (ja3 : -128 ≤ ia3 ∧ ia3 ≤ 127) (jda : 0 ≤ da ∧ da ≤ 255) (ic1 ic2 ic3 dc : Int) (jc1 : -128 ≤ ic1 ∧ ic1 ≤ 127) (jc2 : -128 ≤ ic2 ∧ ic2 ≤ 127) (jc3 : -128 ≤ ic3 ∧ ic3 ≤ 127) (jdc : 0 ≤ dc ∧ dc ≤ 255) (if1 if2 if3 df : Int) (jf1 : -128 ≤ if1 ∧ if1 ≤ 127) (jf2 : -128 ≤ if2 ∧ if2 ≤ 127) (jf3 : -128 ≤ if3 ∧ if3 ≤ 127) (jdf : 0 ≤ df ∧ df ≤ 255) (kk : Int) (jkk : -128 ≤ kk ∧ kk ≤ 127) (w : World) (ht : Tab w) (hm : Mx w) :
    Calls Tryz.prog 7 #[(.agg #[(.int .i8 (ia1)), (.int .i8 (ia2)), (.int .i8 (ia3)), (.int .u8 (da)), (.int .i8 (ic1)), (.int .i8 (ic2)), (.int .i8 (ic3)), (.int .u8 (dc)), (.int .i8 (if1)), (.int .i8 (if2)), (.int .i8 (if3)), (.int .u8 (df))]), (.int .i8 (kk))] w fun e w' => e = .returned (.bool true) ∧ Gr w w' := by
  obtain ⟨a1, ea1⟩ : ∃ r : Rat, r = ((ia1 : Int) : Rat) / ((1 + da % 6 : Int) : Rat) := ⟨_, rfl⟩
  obtain ⟨a2, ea2⟩ : ∃ r : Rat, r = ((ia2 : Int) : Rat) / ((1 + da % 6 : Int) : Rat) := ⟨_, rfl⟩
  obtain ⟨a3, ea3⟩ : ∃ r : Rat, r = ((ia3 : Int) : Rat) / ((1 + da % 6 : Int) : Rat) := ⟨_, rfl⟩
  obtain ⟨c1, ec1⟩ : ∃ r : Rat, r = ((ic1 : Int) : Rat) / ((1 + dc % 6 : Int) : Rat) := ⟨_, rfl⟩
  obtain ⟨c2, ec2⟩ : ∃ r : Rat, r = ((ic2 : Int) : Rat) / ((1 + dc % 6 : Int) : Rat) := ⟨_, rfl⟩
  obtain ⟨c3, ec3⟩ : ∃ r : Rat, r = ((ic3 : Int) : Rat) / ((1 + dc % 6 : Int) : Rat) := ⟨_, rfl⟩
  obtain ⟨f1, ef1⟩ : ∃ r : Rat, r = ((if1 : Int) : Rat) / ((1 + df % 6 : Int) : Rat) := ⟨_, rfl⟩
  obtain ⟨f2, ef2⟩ : ∃ r : Rat, r = ((if2 : Int) : Rat) / ((1 + df % 6 : Int) : Rat) := ⟨_, rfl⟩
  obtain ⟨f3, ef3⟩ : ∃ r : Rat, r = ((if3 : Int) : Rat) / ((1 + df % 6 : Int) : Rat) := ⟨_, rfl⟩
  exact vlin_q ia1 ia2 ia3 da ja1 ja2 ja3 jda a1 a2 a3 ea1 ea2 ea3 ic1 ic2 ic3 dc jc1 jc2 jc3 jdc c1 c2 c3 ec1 ec2 ec3 if1 if2 if3 df jf1 jf2 jf3 jdf f1 f2 f3 ef1 ef2 ef3 kk jkk w ht hm

end Go.Proofs.YtlcmllfacolkaaaGreatDoor
/- The law VectorLinear holds of every input: its row, and its card tied to the program's text. Printed by a program of the prover's. -/
namespace Go.Proofs.YtlcmllfacolkaaaGreatDoor
open Go.ChangeShapes Go.WideShapes Go.ChangeAt Go.RowKit

theorem vectorLinear_table {W : World} (h : laidMetH Tryz.prog Rows.vectorLinearRow.laid W) : Tab W :=
  Lib.tabIs_of_head (rest := _) (g := 1) (t := 208) (e := 132) (n := 20) (by kernel_rfl) (by kernel_rfl) (by kernel_rfl) (by kernel_rfl) (by kernel_rfl) (by kernel_rfl) ((show laidMet Tryz.prog Rows.vectorLinearRow.laid W from (MakeChecks.laidMetH_plain _ _ _ (by kernel_rfl)) ▸ h).tail.tail)
theorem vectorLinear_maxlen {W : World} (h : W.ShapedOpen Tryz.prog) : Mx W :=
  Go.Proofs.cell_of_shapedOpen_int (zero := #[.int .i64 0]) (g := 0) (t := 3) h (of_decide_eq_true (by kernel_rfl)) (by kernel_rfl) rfl (by kernel_rfl) (by kernel_rfl) Tryz.underlying3
set_option maxRecDepth 100000 in
theorem vectorLinear_contract (H : Type) (enc : TypeId × Value → H) (W : World) (base : Nat) (args : Array Value) (ds gs : List (DataW H)) (before : List MemPlace)
    (hval : ∀ (j : Nat) t v, Tryz.f7.params[j]? = some t → args[j]? = some v → Value.okWide Tryz.prog W .any base t v)
    (hW : DataW.Whole enc Tryz.prog Tryz.f7.params.toList Rows.vectorLinearSpec.vars false W args.toList ds gs before) (hL : laidMetH Tryz.prog Rows.vectorLinearRow.laid W) (hsh : W.ShapedOpen Tryz.prog) :
    Calls Tryz.prog 7 args W fun e W' => ∃ v, e = .returned v ∧ Rows.vectorLinearSpec.post enc Tryz.prog Tryz.f7 false true false false W args v W' := by
  have hW' := hW
  obtain ⟨p, q, hA0, hV, rfl, hfz, hnd⟩ := hW
  have hA : DataW.TrodAll enc Tryz.prog W 0 (fun _ => true) true Tryz.f7.params.toList args.toList ds p := hA0
  rw [Tryz.params7] at hA hval
  obtain ⟨v0, vs0, d0, ds0, p0, q0, hargs, rfl, rfl, h0, r0⟩ := trodAll_cons hA
  obtain ⟨v1, vs1, d1, ds1, p1, q1, rfl, rfl, rfl, h1, r1⟩ := trodAll_cons r0
  obtain ⟨rfl, rfl, rfl⟩ := trodAll_nil r1
  obtain rfl : args = #[v0, v1] := by cases args; simp_all
  obtain ⟨rfl, rfl⟩ := trodVars_none hV
  obtain ⟨c0, rfl, z0, o0⟩ := open_cells (ts := [39, 39, 39, 5, 39, 39, 39, 5, 39, 39, 39, 5]) [.i8, .i8, .i8, .u8, .i8, .i8, .i8, .u8, .i8, .i8, .i8, .u8] (by kernel_rfl) (by kernel_rfl) (by kernel_rfl) (by kernel_rfl) (hval 0 43 v0 rfl rfl)
  obtain ⟨n0_0, y0_0, b0_0⟩ := o0 0 .i8 rfl
  obtain ⟨n0_1, y0_1, b0_1⟩ := o0 1 .i8 rfl
  obtain ⟨n0_2, y0_2, b0_2⟩ := o0 2 .i8 rfl
  obtain ⟨n0_3, y0_3, b0_3⟩ := o0 3 .u8 rfl
  obtain ⟨n0_4, y0_4, b0_4⟩ := o0 4 .i8 rfl
  obtain ⟨n0_5, y0_5, b0_5⟩ := o0 5 .i8 rfl
  obtain ⟨n0_6, y0_6, b0_6⟩ := o0 6 .i8 rfl
  obtain ⟨n0_7, y0_7, b0_7⟩ := o0 7 .u8 rfl
  obtain ⟨n0_8, y0_8, b0_8⟩ := o0 8 .i8 rfl
  obtain ⟨n0_9, y0_9, b0_9⟩ := o0 9 .i8 rfl
  obtain ⟨n0_10, y0_10, b0_10⟩ := o0 10 .i8 rfl
  obtain ⟨n0_11, y0_11, b0_11⟩ := o0 11 .u8 rfl
  obtain rfl : c0 = #[.int .i8 n0_0, .int .i8 n0_1, .int .i8 n0_2, .int .u8 n0_3, .int .i8 n0_4, .int .i8 n0_5, .int .i8 n0_6, .int .u8 n0_7, .int .i8 n0_8, .int .i8 n0_9, .int .i8 n0_10, .int .u8 n0_11] := by
    apply Array.ext_getElem?; intro i
    rcases i with _ | _ | _ | _ | _ | _ | _ | _ | _ | _ | _ | _ | i
    · exact y0_0
    · exact y0_1
    · exact y0_2
    · exact y0_3
    · exact y0_4
    · exact y0_5
    · exact y0_6
    · exact y0_7
    · exact y0_8
    · exact y0_9
    · exact y0_10
    · exact y0_11
    · rw [Array.getElem?_eq_none (by simp at z0; omega), Array.getElem?_eq_none (by simp)]
  obtain ⟨n1_0, rfl, b1_0⟩ := open_cell (k := .i8) (by kernel_rfl) (hval 1 39 v1 rfl rfl)
  refine (vector_linear n0_0 n0_1 n0_2 n0_3 (has_i8 b0_0) (has_i8 b0_1) (has_i8 b0_2) (has_u8 b0_3) n0_4 n0_5 n0_6 n0_7 (has_i8 b0_4) (has_i8 b0_5) (has_i8 b0_6) (has_u8 b0_7) n0_8 n0_9 n0_10 n0_11 (has_i8 b0_8) (has_i8 b0_9) (has_i8 b0_10) (has_u8 b0_11) n1_0 (has_i8 b1_0)  W (vectorLinear_table hL) (vectorLinear_maxlen hsh)).mono fun e W' ⟨he, hg⟩ => ?_
  subst he
  exact ⟨_, rfl, law_post (tb := 4) laidOut (by kernel_rfl) (by kernel_rfl) (by kernel_rfl) rfl hW' rfl hg⟩
noncomputable def vectorLinear_world (os : Os) : World := World.laidAll Tryz.prog os Rows.vectorLinearRow.laid
theorem vectorLinear_met (os : Os) : laidMet Tryz.prog Rows.vectorLinearRow.laid ((vectorLinear_world os).forCall (fun _ _ => 0) ⟨#[], #[.agg #[.int .i8 0, .int .i8 0, .int .i8 0, .int .u8 0, .int .i8 0, .int .i8 0, .int .i8 0, .int .u8 0, .int .i8 0, .int .i8 0, .int .i8 0, .int .u8 0], .int .i8 0], []⟩).memory :=
  laidMet_laidAll _ (by kernel_rfl) (by kernel_rfl)
theorem vectorLinear_reads (os : Os) {H : Type} (enc : TypeId × Value → H) : ∃ places, DataW.whole enc Tryz.prog ((vectorLinear_world os).forCall (fun _ _ => 0) ⟨#[], #[.agg #[.int .i8 0, .int .i8 0, .int .i8 0, .int .u8 0, .int .i8 0, .int .i8 0, .int .i8 0, .int .u8 0, .int .i8 0, .int .i8 0, .int .i8 0, .int .u8 0], .int .i8 0], []⟩).memory Tryz.f7.params.toList Rows.vectorLinearSpec.vars false (#[.agg #[.int .i8 0, .int .i8 0, .int .i8 0, .int .u8 0, .int .i8 0, .int .i8 0, .int .i8 0, .int .u8 0, .int .i8 0, .int .i8 0, .int .i8 0, .int .u8 0], .int .i8 0] : Array Value).toList 8 = some ([.agg [.agg [.agg [.lit (.int .i8 0), .lit (.int .i8 0), .lit (.int .i8 0)], .lit (.int .u8 0)], .agg [.agg [.lit (.int .i8 0), .lit (.int .i8 0), .lit (.int .i8 0)], .lit (.int .u8 0)], .agg [.agg [.lit (.int .i8 0), .lit (.int .i8 0), .lit (.int .i8 0)], .lit (.int .u8 0)]], .lit (.int .i8 0)], [], places) :=
  ⟨[], by kernel_rfl⟩
set_option maxRecDepth 100000 in
theorem vectorLinear_lifted (os : Os) (started : os.Started) (H : Type) (enc : TypeId × Value → H) (F : Stop.Interp) :
    ReturnsInHanded {} Tryz.checked os 7 .any ((OpenSpec.ofChange Rows.vectorLinearSpec).preRow enc Tryz.prog Tryz.f7 Rows.vectorLinearRow.domain false Rows.vectorLinearRow.laid) (((OpenSpec.ofChange Rows.vectorLinearSpec).at F).post enc Tryz.prog Tryz.f7 false true false false) := by
  obtain ⟨places, hx⟩ := vectorLinear_reads os enc
  refine returnsInHanded_of_row (C := Tryz.checked) (s := OpenSpec.ofChange Rows.vectorLinearSpec) own started (by kernel_rfl) Tryz.func7
    (witness_row_sh (enc := enc) (C := Tryz.checked) false (vectorLinear_world os) #[.agg #[.int .i8 0, .int .i8 0, .int .i8 0, .int .u8 0, .int .i8 0, .int .i8 0, .int .i8 0, .int .u8 0, .int .i8 0, .int .i8 0, .int .i8 0, .int .u8 0], .int .i8 0] (World.laidAll_os _ _ _) (World.shaped_of_ZipB (by kernel_rfl) (by kernel_rfl)) (by kernel_rfl)
      (OpenSpec.preRow_of_cond 8 hx (by kernel_rfl) (fun k hk => by cases hk) (by kernel_rfl) (by rw [MakeChecks.laidMetH_plain _ _ _ (by kernel_rfl)]; exact vectorLinear_met os))) ?_
  intro W base args ds gs before hval hW _ _ _ hL hsh _
  exact vectorLinear_contract H enc W base args ds gs before hval hW hL hsh
theorem vectorLinear_said : Rows.VectorLinearSaid :=
  OpenClaim.holds_of_cond 7 Tryz.f7 rfl rfl rfl rfl rfl rfl rfl ⟨rfl, rfl, rfl, rfl, rfl⟩ rfl rfl rfl rfl rfl (by kernel_rfl) Tryz.func7 (by kernel_rfl)
    (of_decide_eq_true (by kernel_rfl)) (by unfold Func.isWrapper; first | (rw [if_pos (by decide +kernel)]; kernel_rfl) | (rw [if_neg (by decide +kernel)]; exact ⟨rfl, rfl⟩))
    (fun os started H enc _ F => by rw [OpenClaim.pre_eq_preRow]; exact vectorLinear_lifted os started H enc F)
theorem vectorLinear_plain (f : FuncId) (fn : Func) (hf : Tryz.pinned.checked.prog.funcNamed "dowel/dowellaw03.VectorLinear" = some f) (hfn : Tryz.pinned.checked.prog.funcs[f]? = some fn) :
    true = Tryz.pinned.checked.prog.looks [] ∧ ∀ (j : Nat) t, fn.params[j]? = some t → Tryz.pinned.checked.prog.wantsStandIn t = false := by
  obtain rfl : f = 7 := Option.some.inj ((show Tryz.prog.funcNamed "dowel/dowellaw03.VectorLinear" = some 7 by kernel_rfl).symm.trans hf) |>.symm
  obtain rfl : fn = Tryz.f7 := (Option.some.inj (Tryz.func7.symm.trans hfn)).symm
  refine ⟨by kernel_rfl, fun j t ht => ?_⟩
  rw [Tryz.params7] at ht
  have hm := Array.mem_of_getElem? ht
  have hall : (#[43, 39] : Array TypeId).toList.all (fun t => !Tryz.prog.wantsStandIn t) = true := by kernel_rfl
  have := List.all_eq_true.1 hall t (Array.mem_toList_iff.2 hm)
  have h3 : Tryz.prog.wantsStandIn t = false := by simpa using this
  exact h3
/-- the card -/
theorem vectorLinear_card : Rows.VectorLinearCardSaid :=
  Claim7.holds_tied_plain_at .later [] _ _ _ _ vectorLinear_said (fun _ h => by cases h) (by kernel_rfl) (fun _ h => by cases h) vectorLinear_row_tie rfl ⟨rfl, rfl⟩ (by kernel_rfl) rfl vectorLinear_plain (by kernel_rfl)
end Go.Proofs.YtlcmllfacolkaaaGreatDoor
