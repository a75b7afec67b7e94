/- Joined of: Gen65, RowVectorOrder. -/
import Derived.Test.YtlcmllfacolkaaaGreatDoorPartG
import Derived.Test.YtlcmllfacolkaaaGreatDoorCards
import Derived.Test.YtlcmllfacolkaaaGreatDoorTie
import Derived.Test.YtlcmllfacolkaaaGreatDoorPartD
/- Printed by a program of the prover's: VectorOrder. -/
namespace Go.Proofs.YtlcmllfacolkaaaGreatDoor
open Go.RowKit

set_option maxRecDepth 100000 in
set_option maxHeartbeats 8000000 in
theorem vorder_q (ia1 ia2 ia3 da : Int) (ja1 : -128 ≤ ia1 ∧ ia1 ≤ 127) (ja2 : -128 ≤ ia2 ∧ ia2 ≤ 127) (ja3 : -128 ≤ ia3 ∧ ia3 ≤ 127) (jda : 0 ≤ da ∧ da ≤ 255) (a1 a2 a3 : Rat) (ea1 : a1 = ((ia1 : Int) : Rat) / ((1 + da % 6 : Int) : Rat)) (ea2 : a2 = ((ia2 : Int) : Rat) / ((1 + da % 6 : Int) : Rat)) (ea3 : a3 = ((ia3 : Int) : Rat) / ((1 + da % 6 : Int) : Rat)) (ic1 ic2 ic3 dc : Int) (jc1 : -128 ≤ ic1 ∧ ic1 ≤ 127) (jc2 : -128 ≤ ic2 ∧ ic2 ≤ 127) (jc3 : -128 ≤ ic3 ∧ ic3 ≤ 127) (jdc : 0 ≤ dc ∧ dc ≤ 255) (c1 c2 c3 : Rat) (ec1 : c1 = ((ic1 : Int) : Rat) / ((1 + dc % 6 : Int) : Rat)) (ec2 : c2 = ((ic2 : Int) : Rat) / ((1 + dc % 6 : Int) : Rat)) (ec3 : c3 = ((ic3 : Int) : Rat) / ((1 + dc % 6 : Int) : Rat)) (if1 if2 if3 df : Int) (jf1 : -128 ≤ if1 ∧ if1 ≤ 127) (jf2 : -128 ≤ if2 ∧ if2 ≤ 127) (jf3 : -128 ≤ if3 ∧ if3 ≤ 127) (jdf : 0 ≤ df ∧ df ≤ 255) (f1 f2 f3 : Rat) (ef1 : f1 = ((if1 : Int) : Rat) / ((1 + df % 6 : Int) : Rat)) (ef2 : f2 = ((if2 : Int) : Rat) / ((1 + df % 6 : Int) : Rat)) (ef3 : f3 = ((if3 : Int) : Rat) / ((1 + df % 6 : Int) : Rat)) (w : World) (ht : Tab w) (hm : Mx w) :
    Calls Tryz.prog 5 #[(.agg #[(.int .i8 (ia1)), (.int .i8 (ia2)), (.int .i8 (ia3)), (.int .u8 (da)), (.int .i8 (ic1)), (.int .i8 (ic2)), (.int .i8 (ic3)), (.int .u8 (dc)), (.int .i8 (if1)), (.int .i8 (if2)), (.int .i8 (if3)), (.int .u8 (df))])] w fun e w' => e = .returned (.bool true) ∧ Gr w w' := by
 have ha1 : RS 16 a1 := small_rs ja1 jda ea1
 have ha2 : RS 16 a2 := small_rs ja2 jda ea2
 have ha3 : RS 16 a3 := small_rs ja3 jda ea3
 have hc1 : RS 16 c1 := small_rs jc1 jdc ec1
 have hc2 : RS 16 c2 := small_rs jc2 jdc ec2
 have hc3 : RS 16 c3 := small_rs jc3 jdc ec3
 have hf1 : RS 16 f1 := small_rs jf1 jdf ef1
 have hf2 : RS 16 f2 := small_rs jf2 jdf ef2
 have hf3 : RS 16 f3 := small_rs jf3 jdf ef3
 go_enter Tryz.func5, Tryz.ntmps5
 have hB := Gr.refl w
 refine wp_seq_k (fun K1 k1 => ?_)
 refine rg [0, 1] ?_
 refine se ?_
 refine eb 43 #[(.int .i8 (ia1)), (.int .i8 (ia2)), (.int .i8 (ia3)), (.int .u8 (da)), (.int .i8 (ic1)), (.int .i8 (ic2)), (.int .i8 (ic3)), (.int .u8 (dc)), (.int .i8 (if1)), (.int .i8 (if2)), (.int .i8 (if3)), (.int .u8 (df))] 1 hB fun b2 w2 g2 L2 o2 q2 hB => ?_
 simp only [p3, p4]
 refine sv 2 (.bool false) ?_
 simp only [p3, p4]
 refine sq_nil ?_
 refine k1 _ _ ?_
 try clear k1 K1
 refine wp_seq_k (fun K3 k3 => ?_)
 refine wp_seq_k (fun K4 k4 => ?_)
 refine rg [0, 1] ?_
 refine se ?_
 refine ec 8 (known3 _ (ht.gr hB) (hm.gr hB)) ?_
 rintro e5 w5 ⟨rfl, g5⟩
 refine ⟨_, rfl, ?_⟩
 replace hB := hB.trans g5
 simp only [p3, p4]
 refine sv 9 (.bool false) ?_
 simp only [p3, p4]
 refine sq_nil ?_
 refine k4 _ _ ?_
 try clear k4 K4
 refine wp_cond_false rfl ?_
 refine wp_skip ?_
 refine k3 _ _ ?_
 try clear k3 K3
 refine wp_seq_k (fun K6 k6 => ?_)
 have hz7 := Below.size hB
 replace L2 := L2.gr g5
 have lt2_7 := L2.lt
 have gd7 := Gr.drew w5
 replace hB := hB.trans gd7
 replace L2 := L2.gr gd7
 refine wp_region_flo (fun w' => Lc w' b2 #[(.int .i8 (ia1)), (.int .i8 (ia2)), (.int .i8 (ia3)), (.int .u8 (da)), (.int .i8 (ic1)), (.int .i8 (ic2)), (.int .i8 (ic3)), (.int .u8 (dc)), (.int .i8 (if1)), (.int .i8 (if2)), (.int .i8 (if3)), (.int .u8 (df))] 43) [(true, 0), (true, 1), (true, 3), (true, 4), (true, 6), (true, 7), (true, 9), (true, 10), (true, 12), (true, 13), (false, 2), (false, 5), (false, 8), (false, 11), (false, 14)] [⟨15, 3, 32, #[(.bool false), (.slice none 0 0), (.bool false), (.slice none 0 0), (.bool false), (.slice none 0 0), (.bool false), (.slice none 0 0), (.bool false), (.slice none 0 0), (.bool false), (.slice none 0 0)]⟩, ⟨16, 4, 32, #[(.bool false), (.slice none 0 0), (.bool false), (.slice none 0 0), (.bool false), (.slice none 0 0), (.bool false), (.slice none 0 0), (.bool false), (.slice none 0 0), (.bool false), (.slice none 0 0)]⟩, ⟨17, 5, 32, #[(.bool false), (.slice none 0 0), (.bool false), (.slice none 0 0), (.bool false), (.slice none 0 0), (.bool false), (.slice none 0 0), (.bool false), (.slice none 0 0), (.bool false), (.slice none 0 0)]⟩, ⟨18, 6, 49, #[(.string ⟨([] : List UInt8).toArray⟩), (.string ⟨([] : List UInt8).toArray⟩), (.string ⟨([] : List UInt8).toArray⟩)]⟩, ⟨19, 7, 49, #[(.string ⟨([] : List UInt8).toArray⟩), (.string ⟨([] : List UInt8).toArray⟩), (.string ⟨([] : List UInt8).toArray⟩)]⟩] [(false, 20), (false, 21), (false, 22), (false, 23), (false, 24)] (by kernel_rfl) (by kernel_rfl) (by kernel_rfl) (by kernel_rfl) (by kernel_rfl) (by decide) (fun _ _ _ _ _ h => h) (fun _ _ _ _ _ h => h) (fun w' o h => Lc.gr h (Gr.alloc w' o)) L2 (by intro f hf; simp only [List.mem_cons, List.not_mem_nil, or_false] at hf; rcases hf with rfl | rfl | rfl | rfl | rfl <;> first | exact alloc_zero (z := (.agg #[(.bool false), (.slice none 0 0), (.bool false), (.slice none 0 0), (.bool false), (.slice none 0 0), (.bool false), (.slice none 0 0), (.bool false), (.slice none 0 0), (.bool false), (.slice none 0 0)])) (by kernel_rfl) rfl | exact alloc_zero (z := (.agg #[(.bool false), (.slice none 0 0), (.bool false), (.slice none 0 0), (.bool false), (.slice none 0 0), (.bool false), (.slice none 0 0), (.bool false), (.slice none 0 0), (.bool false), (.slice none 0 0)])) (by kernel_rfl) rfl | exact alloc_zero (z := (.agg #[(.bool false), (.slice none 0 0), (.bool false), (.slice none 0 0), (.bool false), (.slice none 0 0), (.bool false), (.slice none 0 0), (.bool false), (.slice none 0 0), (.bool false), (.slice none 0 0)])) (by kernel_rfl) rfl | exact alloc_zero (z := (.agg #[(.string ⟨([] : List UInt8).toArray⟩), (.string ⟨([] : List UInt8).toArray⟩), (.string ⟨([] : List UInt8).toArray⟩)])) (by kernel_rfl) rfl | exact alloc_zero (z := (.agg #[(.string ⟨([] : List UInt8).toArray⟩), (.string ⟨([] : List UInt8).toArray⟩), (.string ⟨([] : List UInt8).toArray⟩)])) (by kernel_rfl) rfl) ?_
 refine fv 10 (.pointer (some ⟨b2, 0, none⟩)) ?_
 simp only [p3, p4]
 refine fw 11 (.agg #[(.int .i8 (ia1)), (.int .i8 (ia2)), (.int .i8 (ia3)), (.int .u8 (da))]) rfl (fun w' hS => (rl 42 0 [(.int .i8 (ia1)), (.int .i8 (ia2)), (.int .i8 (ia3)), (.int .u8 (da))] hS)) ?_
 simp only [p3, p4]
 refine fv 13 (.pointer (some ⟨b2, 4, none⟩)) ?_
 simp only [p3, p4]
 refine fw 14 (.agg #[(.int .i8 (ic1)), (.int .i8 (ic2)), (.int .i8 (ic3)), (.int .u8 (dc))]) rfl (fun w' hS => (rl 42 4 [(.int .i8 (ic1)), (.int .i8 (ic2)), (.int .i8 (ic3)), (.int .u8 (dc))] hS)) ?_
 simp only [p3, p4]
 refine fv 16 (.pointer (some ⟨b2, 8, none⟩)) ?_
 simp only [p3, p4]
 refine fw 17 (.agg #[(.int .i8 (if1)), (.int .i8 (if2)), (.int .i8 (if3)), (.int .u8 (df))]) rfl (fun w' hS => (rl 42 8 [(.int .i8 (if1)), (.int .i8 (if2)), (.int .i8 (if3)), (.int .u8 (df))] hS)) ?_
 simp only [p3, p4]
 refine fv 19 (.pointer (some ⟨b2, 0, none⟩)) ?_
 simp only [p3, p4]
 refine fw 20 (.agg #[(.int .i8 (ia1)), (.int .i8 (ia2)), (.int .i8 (ia3)), (.int .u8 (da))]) rfl (fun w' hS => (rl 42 0 [(.int .i8 (ia1)), (.int .i8 (ia2)), (.int .i8 (ia3)), (.int .u8 (da))] hS)) ?_
 simp only [p3, p4]
 refine fv 22 (.pointer (some ⟨b2, 4, none⟩)) ?_
 simp only [p3, p4]
 refine fw 23 (.agg #[(.int .i8 (ic1)), (.int .i8 (ic2)), (.int .i8 (ic3)), (.int .u8 (dc))]) rfl (fun w' hS => (rl 42 4 [(.int .i8 (ic1)), (.int .i8 (ic2)), (.int .i8 (ic3)), (.int .u8 (dc))] hS)) ?_
 simp only [p3, p4]
 refine flo_eff rfl rfl (fun w8 g8 _ K8 k8 => ?_)
 replace hB := hB.trans g8
 refine ec 12 (made_v ia1 ia2 ia3 da ja1 ja2 ja3 jda a1 a2 a3 ea1 ea2 ea3 _ (hm.gr hB)) ?_
 rintro e9 w9 ⟨⟨t9_0, t9_1, t9_2, t9_3, t9_4, t9_5, t9_6, t9_7, t9_8, t9_9, t9_10, t9_11, rfl, h9a, h9b, h9c⟩, g9⟩
 refine ⟨_, rfl, ?_⟩
 replace hB := hB.trans g9
 replace L2 := L2.gr (g8.trans g9)
 refine k8 _ _ g9 L2 ?_
 try clear k8 K8
 simp only [p3, p4]
 refine flo_eff rfl rfl (fun w10 g10 _ K10 k10 => ?_)
 replace hB := hB.trans g10
 refine ec 15 (made_v ic1 ic2 ic3 dc jc1 jc2 jc3 jdc c1 c2 c3 ec1 ec2 ec3 _ (hm.gr hB)) ?_
 rintro e11 w11 ⟨⟨t11_0, t11_1, t11_2, t11_3, t11_4, t11_5, t11_6, t11_7, t11_8, t11_9, t11_10, t11_11, rfl, h11a, h11b, h11c⟩, g11⟩
 refine ⟨_, rfl, ?_⟩
 replace hB := hB.trans g11
 replace L2 := L2.gr (g10.trans g11)
 refine k10 _ _ g11 L2 ?_
 try clear k10 K10
 simp only [p3, p4]
 refine flo_eff rfl rfl (fun w12 g12 _ K12 k12 => ?_)
 replace hB := hB.trans g12
 refine ec 18 (made_v if1 if2 if3 df jf1 jf2 jf3 jdf f1 f2 f3 ef1 ef2 ef3 _ (hm.gr hB)) ?_
 rintro e13 w13 ⟨⟨t13_0, t13_1, t13_2, t13_3, t13_4, t13_5, t13_6, t13_7, t13_8, t13_9, t13_10, t13_11, rfl, h13a, h13b, h13c⟩, g13⟩
 refine ⟨_, rfl, ?_⟩
 replace hB := hB.trans g13
 replace L2 := L2.gr (g12.trans g13)
 refine k12 _ _ g13 L2 ?_
 try clear k12 K12
 simp only [p3, p4]
 refine flo_eff rfl rfl (fun w14 g14 _ K14 k14 => ?_)
 replace hB := hB.trans g14
 refine ec 21 (texts_v ia1 ia2 ia3 da ja1 ja2 ja3 jda a1 a2 a3 ea1 ea2 ea3 _) ?_
 rintro e15 w15 ⟨rfl, g15⟩
 refine ⟨_, rfl, ?_⟩
 replace hB := hB.trans g15
 replace L2 := L2.gr (g14.trans g15)
 refine k14 _ _ g15 L2 ?_
 try clear k14 K14
 simp only [p3, p4]
 refine flo_eff rfl rfl (fun w16 g16 _ K16 k16 => ?_)
 replace hB := hB.trans g16
 refine ec 24 (texts_v ic1 ic2 ic3 dc jc1 jc2 jc3 jdc c1 c2 c3 ec1 ec2 ec3 _) ?_
 rintro e17 w17 ⟨rfl, g17⟩
 refine ⟨_, rfl, ?_⟩
 replace hB := hB.trans g17
 replace L2 := L2.gr (g16.trans g17)
 refine k16 _ _ g17 L2 ?_
 try clear k16 K16
 simp only [p3, p4]
 refine flo_nil (fun w18 g18 _ => ?_)
 replace hB := hB.trans g18
 refine floFin5 (fun b19 b20 b21 b22 b23 (L19 : Lc w18 b19 #[(.bool false), (.slice none 0 0), (.bool false), (.slice none 0 0), (.bool false), (.slice none 0 0), (.bool false), (.slice none 0 0), (.bool false), (.slice none 0 0), (.bool false), (.slice none 0 0)] 32) q19 (L20 : Lc w18 b20 #[(.bool false), (.slice none 0 0), (.bool false), (.slice none 0 0), (.bool false), (.slice none 0 0), (.bool false), (.slice none 0 0), (.bool false), (.slice none 0 0), (.bool false), (.slice none 0 0)] 32) q20 (L21 : Lc w18 b21 #[(.bool false), (.slice none 0 0), (.bool false), (.slice none 0 0), (.bool false), (.slice none 0 0), (.bool false), (.slice none 0 0), (.bool false), (.slice none 0 0), (.bool false), (.slice none 0 0)] 32) q21 (L22 : Lc w18 b22 #[(.string ⟨([] : List UInt8).toArray⟩), (.string ⟨([] : List UInt8).toArray⟩), (.string ⟨([] : List UInt8).toArray⟩)] 49) q22 (L23 : Lc w18 b23 #[(.string ⟨([] : List UInt8).toArray⟩), (.string ⟨([] : List UInt8).toArray⟩), (.string ⟨([] : List UInt8).toArray⟩)] 49) q23 ne19_20 ne19_21 ne20_21 ne19_22 ne20_22 ne21_22 ne19_23 ne20_23 ne21_23 ne22_23 => ?_)
 have ne2_19 : b2 ≠ b19 := Nat.ne_of_lt (Nat.lt_of_lt_of_le lt2_7 q19)
 replace q19 := Nat.le_trans hz7 q19
 have ne2_20 : b2 ≠ b20 := Nat.ne_of_lt (Nat.lt_of_lt_of_le lt2_7 q20)
 replace q20 := Nat.le_trans hz7 q20
 have ne2_21 : b2 ≠ b21 := Nat.ne_of_lt (Nat.lt_of_lt_of_le lt2_7 q21)
 replace q21 := Nat.le_trans hz7 q21
 have ne2_22 : b2 ≠ b22 := Nat.ne_of_lt (Nat.lt_of_lt_of_le lt2_7 q22)
 replace q22 := Nat.le_trans hz7 q22
 have ne2_23 : b2 ≠ b23 := Nat.ne_of_lt (Nat.lt_of_lt_of_le lt2_7 q23)
 replace q23 := Nat.le_trans hz7 q23
 simp only [putl, p3, p4]
 refine oe ?_
 refine es 32 0 (.agg #[t9_0, t9_1, t9_2, t9_3, t9_4, t9_5, t9_6, t9_7, t9_8, t9_9, t9_10, t9_11]) [t9_0, t9_1, t9_2, t9_3, t9_4, t9_5, t9_6, t9_7, t9_8, t9_9, t9_10, t9_11] #[t9_0, t9_1, t9_2, t9_3, t9_4, t9_5, t9_6, t9_7, t9_8, t9_9, t9_10, t9_11] L19 hB q19 ⟨h9a.one0, h9a.one1, h9a.one2, h9a.one3, h9b.one0, h9b.one1, h9b.one2, h9b.one3, h9c.one0, h9c.one1, h9c.one2, h9c.one3, trivial⟩ fun w25 st25 kp25 L19 hB => ?_
 replace L2 := st25.lc (L2.gr g18) ne2_19
 refine ⟨L2, ?_⟩
 refine oe ?_
 replace L20 := st25.lc L20 (Ne.symm ne19_20)
 refine es 32 0 (.agg #[t11_0, t11_1, t11_2, t11_3, t11_4, t11_5, t11_6, t11_7, t11_8, t11_9, t11_10, t11_11]) [t11_0, t11_1, t11_2, t11_3, t11_4, t11_5, t11_6, t11_7, t11_8, t11_9, t11_10, t11_11] #[t11_0, t11_1, t11_2, t11_3, t11_4, t11_5, t11_6, t11_7, t11_8, t11_9, t11_10, t11_11] L20 hB q20 ⟨h11a.one0, h11a.one1, h11a.one2, h11a.one3, h11b.one0, h11b.one1, h11b.one2, h11b.one3, h11c.one0, h11c.one1, h11c.one2, h11c.one3, trivial⟩ fun w27 st27 kp27 L20 hB => ?_
 replace L2 := st27.lc L2 ne2_20
 refine ⟨L2, ?_⟩
 refine oe ?_
 replace L21 := st27.lc (st25.lc L21 (Ne.symm ne19_21)) (Ne.symm ne20_21)
 refine es 32 0 (.agg #[t13_0, t13_1, t13_2, t13_3, t13_4, t13_5, t13_6, t13_7, t13_8, t13_9, t13_10, t13_11]) [t13_0, t13_1, t13_2, t13_3, t13_4, t13_5, t13_6, t13_7, t13_8, t13_9, t13_10, t13_11] #[t13_0, t13_1, t13_2, t13_3, t13_4, t13_5, t13_6, t13_7, t13_8, t13_9, t13_10, t13_11] L21 hB q21 ⟨h13a.one0, h13a.one1, h13a.one2, h13a.one3, h13b.one0, h13b.one1, h13b.one2, h13b.one3, h13c.one0, h13c.one1, h13c.one2, h13c.one3, trivial⟩ fun w29 st29 kp29 L21 hB => ?_
 replace L2 := st29.lc L2 ne2_21
 refine ⟨L2, ?_⟩
 refine oe ?_
 replace L22 := st29.lc (st27.lc (st25.lc L22 (Ne.symm ne19_22)) (Ne.symm ne20_22)) (Ne.symm ne21_22)
 refine es 49 0 (.agg #[(.string ⟨(ratL (a1) : List UInt8).toArray⟩), (.string ⟨(ratL (a2) : List UInt8).toArray⟩), (.string ⟨(ratL (a3) : List UInt8).toArray⟩)]) [(.string ⟨(ratL (a1) : List UInt8).toArray⟩), (.string ⟨(ratL (a2) : List UInt8).toArray⟩), (.string ⟨(ratL (a3) : List UInt8).toArray⟩)] #[(.string ⟨(ratL (a1) : List UInt8).toArray⟩), (.string ⟨(ratL (a2) : List UInt8).toArray⟩), (.string ⟨(ratL (a3) : List UInt8).toArray⟩)] L22 hB q22 ⟨rfl, rfl, rfl, trivial⟩ fun w31 st31 kp31 L22 hB => ?_
 replace L2 := st31.lc L2 ne2_22
 refine ⟨L2, ?_⟩
 refine oe ?_
 replace L23 := st31.lc (st29.lc (st27.lc (st25.lc L23 (Ne.symm ne19_23)) (Ne.symm ne20_23)) (Ne.symm ne21_23)) (Ne.symm ne22_23)
 refine es 49 0 (.agg #[(.string ⟨(ratL (c1) : List UInt8).toArray⟩), (.string ⟨(ratL (c2) : List UInt8).toArray⟩), (.string ⟨(ratL (c3) : List UInt8).toArray⟩)]) [(.string ⟨(ratL (c1) : List UInt8).toArray⟩), (.string ⟨(ratL (c2) : List UInt8).toArray⟩), (.string ⟨(ratL (c3) : List UInt8).toArray⟩)] #[(.string ⟨(ratL (c1) : List UInt8).toArray⟩), (.string ⟨(ratL (c2) : List UInt8).toArray⟩), (.string ⟨(ratL (c3) : List UInt8).toArray⟩)] L23 hB q23 ⟨rfl, rfl, rfl, trivial⟩ fun w33 st33 kp33 L23 hB => ?_
 replace L2 := st33.lc L2 ne2_23
 refine ⟨L2, ?_⟩
 refine ord_nil ?_
 refine k6 _ _ ?_
 try clear k6 K6
 refine wp_seq_k (fun K34 k34 => ?_)
 refine wp_seq_k (fun K35 k35 => ?_)
 have gd59 := Gr.drew w33
 replace hB := hB.trans gd59
 replace L19 := (st33.lc (st31.lc (st29.lc (st27.lc L19 ne19_20) ne19_21) ne19_22) ne19_23).gr gd59
 replace L20 := (st33.lc (st31.lc (st29.lc L20 ne20_21) ne20_22) ne20_23).gr gd59
 replace L22 := (st33.lc L22 ne22_23).gr gd59
 replace L23 := L23.gr gd59
 refine wp_region_ord (fun w' => Lc w' b19 #[t9_0, t9_1, t9_2, t9_3, t9_4, t9_5, t9_6, t9_7, t9_8, t9_9, t9_10, t9_11] 32 ∧ Lc w' b20 #[t11_0, t11_1, t11_2, t11_3, t11_4, t11_5, t11_6, t11_7, t11_8, t11_9, t11_10, t11_11] 32 ∧ Lc w' b22 #[(.string ⟨(ratL (a1) : List UInt8).toArray⟩), (.string ⟨(ratL (a2) : List UInt8).toArray⟩), (.string ⟨(ratL (a3) : List UInt8).toArray⟩)] 49 ∧ Lc w' b23 #[(.string ⟨(ratL (c1) : List UInt8).toArray⟩), (.string ⟨(ratL (c2) : List UInt8).toArray⟩), (.string ⟨(ratL (c3) : List UInt8).toArray⟩)] 49) [(true, 0), (true, 2), (false, 1), (false, 3), (true, 4), (true, 5), (true, 6), (true, 7), (true, 9), (true, 10), (true, 11), (false, 8), (true, 12), (true, 13), (true, 14), (true, 15), (true, 16), (true, 18), (true, 19), (false, 17), (false, 20), (true, 21), (true, 22), (true, 23), (true, 24), (true, 25), (true, 27), (true, 28), (false, 26), (false, 29), (true, 30), (true, 31), (true, 32)] (by kernel_rfl) (by kernel_rfl) (by kernel_rfl) (by decide) (fun _ _ _ _ _ h => h) ⟨L19, L20, L22, L23⟩ ?_
 refine ow 25 (.agg #[t9_0, t9_1, t9_2, t9_3, t9_4, t9_5, t9_6, t9_7, t9_8, t9_9, t9_10, t9_11]) rfl (fun w' hS => (rl 32 0 [t9_0, t9_1, t9_2, t9_3, t9_4, t9_5, t9_6, t9_7, t9_8, t9_9, t9_10, t9_11] hS.1)) ?_
 simp only [p3, p4]
 refine ow 27 (.agg #[(.string ⟨(ratL (a1) : List UInt8).toArray⟩), (.string ⟨(ratL (a2) : List UInt8).toArray⟩), (.string ⟨(ratL (a3) : List UInt8).toArray⟩)]) rfl (fun w' hS => (rl 49 0 [(.string ⟨(ratL (a1) : List UInt8).toArray⟩), (.string ⟨(ratL (a2) : List UInt8).toArray⟩), (.string ⟨(ratL (a3) : List UInt8).toArray⟩)] hS.2.2.1)) ?_
 simp only [p3, p4]
 refine oe ?_
 have kq62 := g10.kp.trans (g11.kp.trans (g12.kp.trans (g13.kp.trans (g14.kp.trans (g15.kp.trans (g16.kp.trans (g17.kp.trans (g18.kp.trans (kp25.trans (kp27.trans (kp29.trans (kp31.trans (kp33.trans gd59.kp)))))))))))))
 replace h9a := h9a.kp kq62
 replace h9b := h9b.kp kq62
 replace h9c := h9c.kp kq62
 refine ec 26 (vzero_v h9a h9b h9c (by omega)) ?_
 rintro e61 w61 ⟨rfl, g61⟩
 refine ⟨_, rfl, ?_⟩
 replace hB := hB.trans g61
 replace L19 := L19.gr g61
 replace L20 := L20.gr g61
 replace L22 := L22.gr g61
 replace L23 := L23.gr g61
 refine ⟨⟨L19, L20, L22, L23⟩, ?_⟩
 simp only [p3, p4]
 refine oe ?_
 refine ec 28 (r3_zero (a1) (a2) (a3) _) ?_
 rintro e64 w64 ⟨rfl, g64⟩
 refine ⟨_, rfl, ?_⟩
 replace hB := hB.trans g64
 replace L19 := L19.gr g64
 replace L20 := L20.gr g64
 replace L22 := L22.gr g64
 replace L23 := L23.gr g64
 refine ⟨⟨L19, L20, L22, L23⟩, ?_⟩
 simp only [p3, p4]
 have hb65 : (((vcmp a1 a2 a3 0 0 0 == (0 : Int)) != (vcmp (a1) (a2) (a3) 0 0 0 == (0 : Int)))) = false := (by simp)
 refine ow 29 (.bool false) rfl (fun w' hS => (RunV.bool (x := ((vcmp a1 a2 a3 0 0 0 == (0 : Int)) != (vcmp (a1) (a2) (a3) 0 0 0 == (0 : Int)))) (rvk (by kernel_rfl)) hb65)) ?_
 simp only [p3, p4]
 refine ov 30 (.bool false) ?_
 simp only [p3, p4]
 refine ow 31 (.agg #[t9_0, t9_1, t9_2, t9_3, t9_4, t9_5, t9_6, t9_7, t9_8, t9_9, t9_10, t9_11]) rfl (fun w' hS => (rl 32 0 [t9_0, t9_1, t9_2, t9_3, t9_4, t9_5, t9_6, t9_7, t9_8, t9_9, t9_10, t9_11] hS.1)) ?_
 simp only [p3, p4]
 refine ow 32 (.agg #[t11_0, t11_1, t11_2, t11_3, t11_4, t11_5, t11_6, t11_7, t11_8, t11_9, t11_10, t11_11]) rfl (fun w' hS => (rl 32 0 [t11_0, t11_1, t11_2, t11_3, t11_4, t11_5, t11_6, t11_7, t11_8, t11_9, t11_10, t11_11] hS.2.1)) ?_
 simp only [p3, p4]
 refine ow 34 (.agg #[(.string ⟨(ratL (a1) : List UInt8).toArray⟩), (.string ⟨(ratL (a2) : List UInt8).toArray⟩), (.string ⟨(ratL (a3) : List UInt8).toArray⟩)]) rfl (fun w' hS => (rl 49 0 [(.string ⟨(ratL (a1) : List UInt8).toArray⟩), (.string ⟨(ratL (a2) : List UInt8).toArray⟩), (.string ⟨(ratL (a3) : List UInt8).toArray⟩)] hS.2.2.1)) ?_
 simp only [p3, p4]
 refine ow 35 (.agg #[(.string ⟨(ratL (c1) : List UInt8).toArray⟩), (.string ⟨(ratL (c2) : List UInt8).toArray⟩), (.string ⟨(ratL (c3) : List UInt8).toArray⟩)]) rfl (fun w' hS => (rl 49 0 [(.string ⟨(ratL (c1) : List UInt8).toArray⟩), (.string ⟨(ratL (c2) : List UInt8).toArray⟩), (.string ⟨(ratL (c3) : List UInt8).toArray⟩)] hS.2.2.2)) ?_
 simp only [p3, p4]
 refine ow 36 (.bool (sEq [(ratL (a1)), (ratL (a2)), (ratL (a3))] [(ratL (c1)), (ratL (c2)), (ratL (c3))])) rfl (fun w' hS => (rv_ssq 49 49 9 _ _ [(ratL (a1)), (ratL (a2)), (ratL (a3))] [(ratL (c1)), (ratL (c2)), (ratL (c3))] rfl rfl rfl (by kernel_rfl) (by kernel_rfl) (by kernel_rfl))) ?_
 simp only [p3, p4]
 refine oe ?_
 have kq68 := g61.kp.trans g64.kp
 replace h9a := h9a.kp kq68
 replace h9b := h9b.kp kq68
 replace h9c := h9c.kp kq68
 have kq69 := g12.kp.trans (g13.kp.trans (g14.kp.trans (g15.kp.trans (g16.kp.trans (g17.kp.trans (g18.kp.trans (kp25.trans (kp27.trans (kp29.trans (kp31.trans (kp33.trans (gd59.kp.trans (g61.kp.trans g64.kp)))))))))))))
 replace h11a := h11a.kp kq69
 replace h11b := h11b.kp kq69
 replace h11c := h11c.kp kq69
 refine ec 33 (vequal_v h9a h9b h9c h11a h11b h11c (by omega)) ?_
 rintro e67 w67 ⟨rfl, g67⟩
 refine ⟨_, rfl, ?_⟩
 replace hB := hB.trans g67
 replace L19 := L19.gr g67
 replace L20 := L20.gr g67
 replace L22 := L22.gr g67
 replace L23 := L23.gr g67
 refine ⟨⟨L19, L20, L22, L23⟩, ?_⟩
 simp only [p3, p4]
 have hb70 : (((vcmp a1 a2 a3 c1 c2 c3 == (0 : Int)) != (sEq [(ratL (a1)), (ratL (a2)), (ratL (a3))] [(ratL (c1)), (ratL (c2)), (ratL (c3))]))) = false := (by rw [sEq_vcmp]; simp)
 refine ow 37 (.bool false) rfl (fun w' hS => (RunV.bool (x := ((vcmp a1 a2 a3 c1 c2 c3 == (0 : Int)) != (sEq [(ratL (a1)), (ratL (a2)), (ratL (a3))] [(ratL (c1)), (ratL (c2)), (ratL (c3))]))) (rvk (by kernel_rfl)) hb70)) ?_
 simp only [p3, p4]
 refine ov 38 (.bool false) ?_
 simp only [p3, p4]
 refine ov 39 (.bool false) ?_
 simp only [p3, p4]
 refine ow 40 (.agg #[t9_0, t9_1, t9_2, t9_3, t9_4, t9_5, t9_6, t9_7, t9_8, t9_9, t9_10, t9_11]) rfl (fun w' hS => (rl 32 0 [t9_0, t9_1, t9_2, t9_3, t9_4, t9_5, t9_6, t9_7, t9_8, t9_9, t9_10, t9_11] hS.1)) ?_
 simp only [p3, p4]
 refine ow 41 (.agg #[t11_0, t11_1, t11_2, t11_3, t11_4, t11_5, t11_6, t11_7, t11_8, t11_9, t11_10, t11_11]) rfl (fun w' hS => (rl 32 0 [t11_0, t11_1, t11_2, t11_3, t11_4, t11_5, t11_6, t11_7, t11_8, t11_9, t11_10, t11_11] hS.2.1)) ?_
 simp only [p3, p4]
 refine ow 43 (.agg #[(.string ⟨(ratL (a1) : List UInt8).toArray⟩), (.string ⟨(ratL (a2) : List UInt8).toArray⟩), (.string ⟨(ratL (a3) : List UInt8).toArray⟩)]) rfl (fun w' hS => (rl 49 0 [(.string ⟨(ratL (a1) : List UInt8).toArray⟩), (.string ⟨(ratL (a2) : List UInt8).toArray⟩), (.string ⟨(ratL (a3) : List UInt8).toArray⟩)] hS.2.2.1)) ?_
 simp only [p3, p4]
 refine ow 44 (.agg #[(.string ⟨(ratL (c1) : List UInt8).toArray⟩), (.string ⟨(ratL (c2) : List UInt8).toArray⟩), (.string ⟨(ratL (c3) : List UInt8).toArray⟩)]) rfl (fun w' hS => (rl 49 0 [(.string ⟨(ratL (c1) : List UInt8).toArray⟩), (.string ⟨(ratL (c2) : List UInt8).toArray⟩), (.string ⟨(ratL (c3) : List UInt8).toArray⟩)] hS.2.2.2)) ?_
 simp only [p3, p4]
 refine oe ?_
 replace h9a := h9a.kp g67.kp
 replace h9b := h9b.kp g67.kp
 replace h9c := h9c.kp g67.kp
 replace h11a := h11a.kp g67.kp
 replace h11b := h11b.kp g67.kp
 replace h11c := h11c.kp g67.kp
 refine ec 42 (vcomp_v h9a h9b h9c h11a h11b h11c (by omega)) ?_
 rintro e72 w72 ⟨rfl, g72⟩
 refine ⟨_, rfl, ?_⟩
 replace hB := hB.trans g72
 replace L19 := L19.gr g72
 replace L20 := L20.gr g72
 replace L22 := L22.gr g72
 replace L23 := L23.gr g72
 refine ⟨⟨L19, L20, L22, L23⟩, ?_⟩
 simp only [p3, p4]
 refine oe ?_
 refine ec 45 (r3_compare (a1) (a2) (a3) ha1 ha2 ha3 (c1) (c2) (c3) hc1 hc2 hc3 (by omega) _) ?_
 rintro e74 w74 ⟨rfl, g74⟩
 refine ⟨_, rfl, ?_⟩
 replace hB := hB.trans g74
 replace L19 := L19.gr g74
 replace L20 := L20.gr g74
 replace L22 := L22.gr g74
 replace L23 := L23.gr g74
 refine ⟨⟨L19, L20, L22, L23⟩, ?_⟩
 simp only [p3, p4]
 have hb75 : ((vcmp a1 a2 a3 c1 c2 c3 != vcmp (a1) (a2) (a3) (c1) (c2) (c3))) = false := (by simp)
 refine ow 46 (.bool false) rfl (fun w' hS => (RunV.bool (x := (vcmp a1 a2 a3 c1 c2 c3 != vcmp (a1) (a2) (a3) (c1) (c2) (c3))) (rvk (by kernel_rfl)) hb75)) ?_
 simp only [p3, p4]
 refine ov 47 (.bool false) ?_
 simp only [p3, p4]
 refine ov 48 (.bool false) ?_
 simp only [p3, p4]
 refine ow 49 (.agg #[t11_0, t11_1, t11_2, t11_3, t11_4, t11_5, t11_6, t11_7, t11_8, t11_9, t11_10, t11_11]) rfl (fun w' hS => (rl 32 0 [t11_0, t11_1, t11_2, t11_3, t11_4, t11_5, t11_6, t11_7, t11_8, t11_9, t11_10, t11_11] hS.2.1)) ?_
 simp only [p3, p4]
 refine ow 50 (.agg #[t9_0, t9_1, t9_2, t9_3, t9_4, t9_5, t9_6, t9_7, t9_8, t9_9, t9_10, t9_11]) rfl (fun w' hS => (rl 32 0 [t9_0, t9_1, t9_2, t9_3, t9_4, t9_5, t9_6, t9_7, t9_8, t9_9, t9_10, t9_11] hS.1)) ?_
 simp only [p3, p4]
 refine ow 52 (.agg #[t9_0, t9_1, t9_2, t9_3, t9_4, t9_5, t9_6, t9_7, t9_8, t9_9, t9_10, t9_11]) rfl (fun w' hS => (rl 32 0 [t9_0, t9_1, t9_2, t9_3, t9_4, t9_5, t9_6, t9_7, t9_8, t9_9, t9_10, t9_11] hS.1)) ?_
 simp only [p3, p4]
 refine ow 53 (.agg #[t11_0, t11_1, t11_2, t11_3, t11_4, t11_5, t11_6, t11_7, t11_8, t11_9, t11_10, t11_11]) rfl (fun w' hS => (rl 32 0 [t11_0, t11_1, t11_2, t11_3, t11_4, t11_5, t11_6, t11_7, t11_8, t11_9, t11_10, t11_11] hS.2.1)) ?_
 simp only [p3, p4]
 refine oe ?_
 have kq78 := g72.kp.trans g74.kp
 replace h11a := h11a.kp kq78
 replace h11b := h11b.kp kq78
 replace h11c := h11c.kp kq78
 replace h9a := h9a.kp kq78
 replace h9b := h9b.kp kq78
 replace h9c := h9c.kp kq78
 refine ec 51 (vcomp_v h11a h11b h11c h9a h9b h9c (by omega)) ?_
 rintro e77 w77 ⟨rfl, g77⟩
 refine ⟨_, rfl, ?_⟩
 replace hB := hB.trans g77
 replace L19 := L19.gr g77
 replace L20 := L20.gr g77
 replace L22 := L22.gr g77
 replace L23 := L23.gr g77
 refine ⟨⟨L19, L20, L22, L23⟩, ?_⟩
 simp only [p3, p4]
 refine oe ?_
 replace h9a := h9a.kp g77.kp
 replace h9b := h9b.kp g77.kp
 replace h9c := h9c.kp g77.kp
 replace h11a := h11a.kp g77.kp
 replace h11b := h11b.kp g77.kp
 replace h11c := h11c.kp g77.kp
 refine ec 54 (vcomp_v h9a h9b h9c h11a h11b h11c (by omega)) ?_
 rintro e80 w80 ⟨rfl, g80⟩
 refine ⟨_, rfl, ?_⟩
 replace hB := hB.trans g80
 replace L19 := L19.gr g80
 replace L20 := L20.gr g80
 replace L22 := L22.gr g80
 replace L23 := L23.gr g80
 refine ⟨⟨L19, L20, L22, L23⟩, ?_⟩
 simp only [p3, p4]
 refine ow 55 (.int .i64 ((0 - vcmp a1 a2 a3 c1 c2 c3))) rfl (fun w' hS => (RunV.int (x := IntKind.i64.wrap ((0 - vcmp a1 a2 a3 c1 c2 c3))) (y := (0 - vcmp a1 a2 a3 c1 c2 c3)) (rvk (by kernel_rfl)) (by first | rfl | (rw [IntKind.wrap_i64]; omega) | exact wrap_nsgn _ | exact wrap_nvcmp _ _ _ _ _ _))) ?_
 simp only [p3, p4]
 have hb81 : ((vcmp c1 c2 c3 a1 a2 a3 != (0 - vcmp a1 a2 a3 c1 c2 c3))) = false := (by rw [vcmp_swap a1 a2 a3 c1 c2 c3]; simp)
 refine ow 56 (.bool false) rfl (fun w' hS => (RunV.bool (x := (vcmp c1 c2 c3 a1 a2 a3 != (0 - vcmp a1 a2 a3 c1 c2 c3))) (rvk (by kernel_rfl)) hb81)) ?_
 simp only [p3, p4]
 refine ov 57 (.bool false) ?_
 simp only [p3, p4]
 refine ord_nil ?_
 refine k35 _ _ ?_
 try clear k35 K35
 refine wp_cond_false rfl ?_
 refine wp_skip ?_
 refine k34 _ _ ?_
 try clear k34 K34
 refine wp_seq_k (fun K82 k82 => ?_)
 refine rg [0, 1, 2, 3, 4, 5, 6, 7, 8, 9, 10, 11, 12, 13, 14, 15, 16, 17] ?_
 refine sw 58 (.agg #[t9_0, t9_1, t9_2, t9_3, t9_4, t9_5, t9_6, t9_7, t9_8, t9_9, t9_10, t9_11]) rfl (rl 32 0 [t9_0, t9_1, t9_2, t9_3, t9_4, t9_5, t9_6, t9_7, t9_8, t9_9, t9_10, t9_11] L19) ?_
 simp only [p3, p4]
 refine sw 59 (.agg #[t11_0, t11_1, t11_2, t11_3, t11_4, t11_5, t11_6, t11_7, t11_8, t11_9, t11_10, t11_11]) rfl (rl 32 0 [t11_0, t11_1, t11_2, t11_3, t11_4, t11_5, t11_6, t11_7, t11_8, t11_9, t11_10, t11_11] L20) ?_
 simp only [p3, p4]
 refine se ?_
 replace h9a := h9a.kp g80.kp
 replace h9b := h9b.kp g80.kp
 replace h9c := h9c.kp g80.kp
 replace h11a := h11a.kp g80.kp
 replace h11b := h11b.kp g80.kp
 replace h11c := h11c.kp g80.kp
 refine ec 60 (vcomp_v h9a h9b h9c h11a h11b h11c (by omega)) ?_
 rintro e83 w83 ⟨rfl, g83⟩
 refine ⟨_, rfl, ?_⟩
 replace hB := hB.trans g83
 simp only [p3, p4]
 refine sv 61 (.bool (decide (vcmp a1 a2 a3 c1 c2 c3 ≤ (0 : Int)))) ?_
 simp only [p3, p4]
 rcases Bool.eq_false_or_eq_true (decide (vcmp a1 a2 a3 c1 c2 c3 ≤ (0 : Int))) with hb84 | hb84
 ·refine sw 62 (.bool true) rfl (RunV.bool (x := decide (vcmp a1 a2 a3 c1 c2 c3 ≤ (0 : Int))) (rvk (by kernel_rfl)) hb84) ?_
  simp only [p3, p4]
  replace L20 := L20.gr g83
  refine sw 63 (.agg #[t11_0, t11_1, t11_2, t11_3, t11_4, t11_5, t11_6, t11_7, t11_8, t11_9, t11_10, t11_11]) rfl (rl 32 0 [t11_0, t11_1, t11_2, t11_3, t11_4, t11_5, t11_6, t11_7, t11_8, t11_9, t11_10, t11_11] L20) ?_
  simp only [p3, p4]
  replace L21 := (st33.lc (st31.lc L21 ne21_22) ne21_23).gr (gd59.trans (g61.trans (g64.trans (g67.trans (g72.trans (g74.trans (g77.trans (g80.trans g83))))))))
  refine sw 64 (.agg #[t13_0, t13_1, t13_2, t13_3, t13_4, t13_5, t13_6, t13_7, t13_8, t13_9, t13_10, t13_11]) rfl (rl 32 0 [t13_0, t13_1, t13_2, t13_3, t13_4, t13_5, t13_6, t13_7, t13_8, t13_9, t13_10, t13_11] L21) ?_
  simp only [p3, p4]
  refine se ?_
  replace h11a := h11a.kp g83.kp
  replace h11b := h11b.kp g83.kp
  replace h11c := h11c.kp g83.kp
  have kq86 := g14.kp.trans (g15.kp.trans (g16.kp.trans (g17.kp.trans (g18.kp.trans (kp25.trans (kp27.trans (kp29.trans (kp31.trans (kp33.trans (gd59.kp.trans (g61.kp.trans (g64.kp.trans (g67.kp.trans (g72.kp.trans (g74.kp.trans (g77.kp.trans (g80.kp.trans g83.kp)))))))))))))))))
  replace h13a := h13a.kp kq86
  replace h13b := h13b.kp kq86
  replace h13c := h13c.kp kq86
  refine ec 65 (vcomp_v h11a h11b h11c h13a h13b h13c (by omega)) ?_
  rintro e85 w85 ⟨rfl, g85⟩
  refine ⟨_, rfl, ?_⟩
  replace hB := hB.trans g85
  simp only [p3, p4]
  refine sv 66 (.bool (decide (vcmp c1 c2 c3 f1 f2 f3 ≤ (0 : Int)))) ?_
  simp only [p3, p4]
  refine sv 67 (.bool (decide (vcmp c1 c2 c3 f1 f2 f3 ≤ (0 : Int)))) ?_
  simp only [p3, p4]
  refine sv 68 (.bool (!(decide (vcmp c1 c2 c3 f1 f2 f3 ≤ (0 : Int))))) ?_
  simp only [p3, p4]
  rcases Bool.eq_false_or_eq_true (!(decide (vcmp c1 c2 c3 f1 f2 f3 ≤ (0 : Int)))) with hb87 | hb87
  ·refine sw 69 (.bool true) rfl (RunV.bool (x := !(decide (vcmp c1 c2 c3 f1 f2 f3 ≤ (0 : Int)))) (rvk (by kernel_rfl)) hb87) ?_
   simp only [p3, p4]
   refine ss 70 ?_
   simp only [p3, p4]
   refine ss 71 ?_
   simp only [p3, p4]
   refine ss 72 ?_
   simp only [p3, p4]
   refine ss 73 ?_
   simp only [p3, p4]
   refine sv 74 (.bool true) ?_
   simp only [p3, p4]
   refine sv 2 (.bool true) ?_
   simp only [p3, p4]
   refine sq_nil ?_
   refine k82 _ _ ?_
   try clear k82 K82
   refine wp_ret ?_
   refine bodyPost_ret (v := (.bool true)) (ret_tmp rfl rfl) rfl ⟨?_, hB⟩
   exact rfl
  ·refine sw 69 (.bool false) rfl (RunV.bool (x := !(decide (vcmp c1 c2 c3 f1 f2 f3 ≤ (0 : Int)))) (rvk (by kernel_rfl)) hb87) ?_
   simp only [p3, p4]
   replace L19 := L19.gr (g83.trans g85)
   refine sw 70 (.agg #[t9_0, t9_1, t9_2, t9_3, t9_4, t9_5, t9_6, t9_7, t9_8, t9_9, t9_10, t9_11]) rfl (rl 32 0 [t9_0, t9_1, t9_2, t9_3, t9_4, t9_5, t9_6, t9_7, t9_8, t9_9, t9_10, t9_11] L19) ?_
   simp only [p3, p4]
   replace L21 := L21.gr g85
   refine sw 71 (.agg #[t13_0, t13_1, t13_2, t13_3, t13_4, t13_5, t13_6, t13_7, t13_8, t13_9, t13_10, t13_11]) rfl (rl 32 0 [t13_0, t13_1, t13_2, t13_3, t13_4, t13_5, t13_6, t13_7, t13_8, t13_9, t13_10, t13_11] L21) ?_
   simp only [p3, p4]
   refine se ?_
   have kq89 := g83.kp.trans g85.kp
   replace h9a := h9a.kp kq89
   replace h9b := h9b.kp kq89
   replace h9c := h9c.kp kq89
   replace h13a := h13a.kp g85.kp
   replace h13b := h13b.kp g85.kp
   replace h13c := h13c.kp g85.kp
   refine ec 72 (vcomp_v h9a h9b h9c h13a h13b h13c (by omega)) ?_
   rintro e88 w88 ⟨rfl, g88⟩
   refine ⟨_, rfl, ?_⟩
   replace hB := hB.trans g88
   simp only [p3, p4]
   have hb90 : (decide (vcmp a1 a2 a3 f1 f2 f3 ≤ (0 : Int))) = true := (vcmp_trans hb84 (by simpa using hb87))
   refine sw 73 (.bool true) rfl (RunV.bool (x := decide (vcmp a1 a2 a3 f1 f2 f3 ≤ (0 : Int))) (rvk (by kernel_rfl)) hb90) ?_
   simp only [p3, p4]
   refine sv 74 (.bool true) ?_
   simp only [p3, p4]
   refine sv 2 (.bool true) ?_
   simp only [p3, p4]
   refine sq_nil ?_
   refine k82 _ _ ?_
   try clear k82 K82
   refine wp_ret ?_
   refine bodyPost_ret (v := (.bool true)) (ret_tmp rfl rfl) rfl ⟨?_, hB⟩
   exact rfl
 ·refine sw 62 (.bool false) rfl (RunV.bool (x := decide (vcmp a1 a2 a3 c1 c2 c3 ≤ (0 : Int))) (rvk (by kernel_rfl)) hb84) ?_
  simp only [p3, p4]
  refine ss 63 ?_
  simp only [p3, p4]
  refine ss 64 ?_
  simp only [p3, p4]
  refine ss 65 ?_
  simp only [p3, p4]
  refine ss 66 ?_
  simp only [p3, p4]
  refine sv 67 (.bool false) ?_
  simp only [p3, p4]
  refine sv 68 (.bool true) ?_
  simp only [p3, p4]
  refine sv 69 (.bool true) ?_
  simp only [p3, p4]
  refine ss 70 ?_
  simp only [p3, p4]
  refine ss 71 ?_
  simp only [p3, p4]
  refine ss 72 ?_
  simp only [p3, p4]
  refine ss 73 ?_
  simp only [p3, p4]
  refine sv 74 (.bool true) ?_
  simp only [p3, p4]
  refine sv 2 (.bool true) ?_
  simp only [p3, p4]
  refine sq_nil ?_
  refine k82 _ _ ?_
  try clear k82 K82
  refine wp_ret ?_
  refine bodyPost_ret (v := (.bool true)) (ret_tmp rfl rfl) rfl ⟨?_, hB⟩
  exact rfl

theorem vector_order (ia1 ia2 ia3 da : Int) (ja1 : -128 ≤ ia1 ∧ ia1 ≤ 127) (ja2 : -128 ≤ ia2 ∧ ia2 ≤ 127) (ja3 : -128 ≤ ia3 ∧ ia3 ≤ 127) (jda : 0 ≤ da ∧ da ≤ 255) (ic1 ic2 ic3 dc : Int) (jc1 : -128 ≤ ic1 ∧ ic1 ≤ 127) (jc2 : -128 ≤ ic2 ∧ ic2 ≤ 127) (jc3 : -128 ≤ ic3 ∧ ic3 ≤ 127) (jdc : 0 ≤ dc ∧ dc ≤ 255) (if1 if2 if3 df : Int) (jf1 : -128 ≤ if1 ∧ if1 ≤ 127) (jf2 : -128 ≤ if2 ∧ if2 ≤ 127) (jf3 : -128 ≤ if3 ∧ if3 ≤ 127) (jdf : 0 ≤ df ∧ df ≤ 255) (w : World) (ht : Tab w) (hm : Mx w) :
    Calls Tryz.prog 5 #[(.agg #[(.int .i8 (ia1)), (.int .i8 (ia2)), (.int .i8 (ia3)), (.int .u8 (da)), (.int .i8 (ic1)), (.int .i8 (ic2)), (.int .i8 (ic3)), (.int .u8 (dc)), (.int .i8 (if1)), (.int .i8 (if2)), (.int .i8 (if3)), (.int .u8 (df))])] w fun e w' => e = .returned (.bool true) ∧ Gr w w' := by
  obtain ⟨a1, ea1⟩ : ∃ r : Rat, r = ((ia1 : Int) : Rat) / ((1 + da % 6 : Int) : Rat) := ⟨_, rfl⟩
  obtain ⟨a2, ea2⟩ : ∃ r : Rat, r = ((ia2 : Int) : Rat) / ((1 + da % 6 : Int) : Rat) := ⟨_, rfl⟩
  obtain ⟨a3, ea3⟩ : ∃ r : Rat, r = ((ia3 : Int) : Rat) / ((1 + da % 6 : Int) : Rat) := ⟨_, rfl⟩
  obtain ⟨c1, ec1⟩ : ∃ r : Rat, r = ((ic1 : Int) : Rat) / ((1 + dc % 6 : Int) : Rat) := ⟨_, rfl⟩
  obtain ⟨c2, ec2⟩ : ∃ r : Rat, r = ((ic2 : Int) : Rat) / ((1 + dc % 6 : Int) : Rat) := ⟨_, rfl⟩
  obtain ⟨c3, ec3⟩ : ∃ r : Rat, r = ((ic3 : Int) : Rat) / ((1 + dc % 6 : Int) : Rat) := ⟨_, rfl⟩
  obtain ⟨f1, ef1⟩ : ∃ r : Rat, r = ((if1 : Int) : Rat) / ((1 + df % 6 : Int) : Rat) := ⟨_, rfl⟩
  obtain ⟨f2, ef2⟩ : ∃ r : Rat, r = ((if2 : Int) : Rat) / ((1 + df % 6 : Int) : Rat) := ⟨_, rfl⟩
  obtain ⟨f3, ef3⟩ : ∃ r : Rat, r = ((if3 : Int) : Rat) / ((1 + df % 6 : Int) : Rat) := ⟨_, rfl⟩
  exact vorder_q ia1 ia2 ia3 da ja1 ja2 ja3 jda a1 a2 a3 ea1 ea2 ea3 ic1 ic2 ic3 dc jc1 jc2 jc3 jdc c1 c2 c3 ec1 ec2 ec3 if1 if2 if3 df jf1 jf2 jf3 jdf f1 f2 f3 ef1 ef2 ef3 w ht hm

end Go.Proofs.YtlcmllfacolkaaaGreatDoor
/- The law VectorOrder holds of every input: its row, and its card tied to the program's text. Printed by a program of the prover's. -/
namespace Go.Proofs.YtlcmllfacolkaaaGreatDoor
open Go.ChangeShapes Go.WideShapes Go.ChangeAt Go.RowKit

theorem vectorOrder_table {W : World} (h : laidMetH Tryz.prog Rows.vectorOrderRow.laid W) : Tab W :=
  Lib.tabIs_of_head (rest := _) (g := 1) (t := 208) (e := 132) (n := 20) (by kernel_rfl) (by kernel_rfl) (by kernel_rfl) (by kernel_rfl) (by kernel_rfl) (by kernel_rfl) ((show laidMet Tryz.prog Rows.vectorOrderRow.laid W from (MakeChecks.laidMetH_plain _ _ _ (by kernel_rfl)) ▸ h).tail.tail)
theorem vectorOrder_maxlen {W : World} (h : W.ShapedOpen Tryz.prog) : Mx W :=
  Go.Proofs.cell_of_shapedOpen_int (zero := #[.int .i64 0]) (g := 0) (t := 3) h (of_decide_eq_true (by kernel_rfl)) (by kernel_rfl) rfl (by kernel_rfl) (by kernel_rfl) Tryz.underlying3
set_option maxRecDepth 100000 in
theorem vectorOrder_contract (H : Type) (enc : TypeId × Value → H) (W : World) (base : Nat) (args : Array Value) (ds gs : List (DataW H)) (before : List MemPlace)
    (hval : ∀ (j : Nat) t v, Tryz.f5.params[j]? = some t → args[j]? = some v → Value.okWide Tryz.prog W .any base t v)
    (hW : DataW.Whole enc Tryz.prog Tryz.f5.params.toList Rows.vectorOrderSpec.vars false W args.toList ds gs before) (hL : laidMetH Tryz.prog Rows.vectorOrderRow.laid W) (hsh : W.ShapedOpen Tryz.prog) :
    Calls Tryz.prog 5 args W fun e W' => ∃ v, e = .returned v ∧ Rows.vectorOrderSpec.post enc Tryz.prog Tryz.f5 false true false false W args v W' := by
  have hW' := hW
  obtain ⟨p, q, hA0, hV, rfl, hfz, hnd⟩ := hW
  have hA : DataW.TrodAll enc Tryz.prog W 0 (fun _ => true) true Tryz.f5.params.toList args.toList ds p := hA0
  rw [Tryz.params5] at hA hval
  obtain ⟨v0, vs0, d0, ds0, p0, q0, hargs, rfl, rfl, h0, r0⟩ := trodAll_cons hA
  obtain ⟨rfl, rfl, rfl⟩ := trodAll_nil r0
  obtain rfl : args = #[v0] := by cases args; simp_all
  obtain ⟨rfl, rfl⟩ := trodVars_none hV
  obtain ⟨c0, rfl, z0, o0⟩ := open_cells (ts := [39, 39, 39, 5, 39, 39, 39, 5, 39, 39, 39, 5]) [.i8, .i8, .i8, .u8, .i8, .i8, .i8, .u8, .i8, .i8, .i8, .u8] (by kernel_rfl) (by kernel_rfl) (by kernel_rfl) (by kernel_rfl) (hval 0 43 v0 rfl rfl)
  obtain ⟨n0_0, y0_0, b0_0⟩ := o0 0 .i8 rfl
  obtain ⟨n0_1, y0_1, b0_1⟩ := o0 1 .i8 rfl
  obtain ⟨n0_2, y0_2, b0_2⟩ := o0 2 .i8 rfl
  obtain ⟨n0_3, y0_3, b0_3⟩ := o0 3 .u8 rfl
  obtain ⟨n0_4, y0_4, b0_4⟩ := o0 4 .i8 rfl
  obtain ⟨n0_5, y0_5, b0_5⟩ := o0 5 .i8 rfl
  obtain ⟨n0_6, y0_6, b0_6⟩ := o0 6 .i8 rfl
  obtain ⟨n0_7, y0_7, b0_7⟩ := o0 7 .u8 rfl
  obtain ⟨n0_8, y0_8, b0_8⟩ := o0 8 .i8 rfl
  obtain ⟨n0_9, y0_9, b0_9⟩ := o0 9 .i8 rfl
  obtain ⟨n0_10, y0_10, b0_10⟩ := o0 10 .i8 rfl
  obtain ⟨n0_11, y0_11, b0_11⟩ := o0 11 .u8 rfl
  obtain rfl : c0 = #[.int .i8 n0_0, .int .i8 n0_1, .int .i8 n0_2, .int .u8 n0_3, .int .i8 n0_4, .int .i8 n0_5, .int .i8 n0_6, .int .u8 n0_7, .int .i8 n0_8, .int .i8 n0_9, .int .i8 n0_10, .int .u8 n0_11] := by
    apply Array.ext_getElem?; intro i
    rcases i with _ | _ | _ | _ | _ | _ | _ | _ | _ | _ | _ | _ | i
    · exact y0_0
    · exact y0_1
    · exact y0_2
    · exact y0_3
    · exact y0_4
    · exact y0_5
    · exact y0_6
    · exact y0_7
    · exact y0_8
    · exact y0_9
    · exact y0_10
    · exact y0_11
    · rw [Array.getElem?_eq_none (by simp at z0; omega), Array.getElem?_eq_none (by simp)]
  refine (vector_order n0_0 n0_1 n0_2 n0_3 (has_i8 b0_0) (has_i8 b0_1) (has_i8 b0_2) (has_u8 b0_3) n0_4 n0_5 n0_6 n0_7 (has_i8 b0_4) (has_i8 b0_5) (has_i8 b0_6) (has_u8 b0_7) n0_8 n0_9 n0_10 n0_11 (has_i8 b0_8) (has_i8 b0_9) (has_i8 b0_10) (has_u8 b0_11) W (vectorOrder_table hL) (vectorOrder_maxlen hsh)).mono fun e W' ⟨he, hg⟩ => ?_
  subst he
  exact ⟨_, rfl, law_post (tb := 4) laidOut (by kernel_rfl) (by kernel_rfl) (by kernel_rfl) rfl hW' rfl hg⟩
noncomputable def vectorOrder_world (os : Os) : World := World.laidAll Tryz.prog os Rows.vectorOrderRow.laid
theorem vectorOrder_met (os : Os) : laidMet Tryz.prog Rows.vectorOrderRow.laid ((vectorOrder_world os).forCall (fun _ _ => 0) ⟨#[], #[.agg #[.int .i8 0, .int .i8 0, .int .i8 0, .int .u8 0, .int .i8 0, .int .i8 0, .int .i8 0, .int .u8 0, .int .i8 0, .int .i8 0, .int .i8 0, .int .u8 0]], []⟩).memory :=
  laidMet_laidAll _ (by kernel_rfl) (by kernel_rfl)
theorem vectorOrder_reads (os : Os) {H : Type} (enc : TypeId × Value → H) : ∃ places, DataW.whole enc Tryz.prog ((vectorOrder_world os).forCall (fun _ _ => 0) ⟨#[], #[.agg #[.int .i8 0, .int .i8 0, .int .i8 0, .int .u8 0, .int .i8 0, .int .i8 0, .int .i8 0, .int .u8 0, .int .i8 0, .int .i8 0, .int .i8 0, .int .u8 0]], []⟩).memory Tryz.f5.params.toList Rows.vectorOrderSpec.vars false (#[.agg #[.int .i8 0, .int .i8 0, .int .i8 0, .int .u8 0, .int .i8 0, .int .i8 0, .int .i8 0, .int .u8 0, .int .i8 0, .int .i8 0, .int .i8 0, .int .u8 0]] : Array Value).toList 8 = some ([.agg [.agg [.agg [.lit (.int .i8 0), .lit (.int .i8 0), .lit (.int .i8 0)], .lit (.int .u8 0)], .agg [.agg [.lit (.int .i8 0), .lit (.int .i8 0), .lit (.int .i8 0)], .lit (.int .u8 0)], .agg [.agg [.lit (.int .i8 0), .lit (.int .i8 0), .lit (.int .i8 0)], .lit (.int .u8 0)]]], [], places) :=
  ⟨[], by kernel_rfl⟩
set_option maxRecDepth 100000 in
theorem vectorOrder_lifted (os : Os) (started : os.Started) (H : Type) (enc : TypeId × Value → H) (F : Stop.Interp) :
    ReturnsInHanded {} Tryz.checked os 5 .any ((OpenSpec.ofChange Rows.vectorOrderSpec).preRow enc Tryz.prog Tryz.f5 Rows.vectorOrderRow.domain false Rows.vectorOrderRow.laid) (((OpenSpec.ofChange Rows.vectorOrderSpec).at F).post enc Tryz.prog Tryz.f5 false true false false) := by
  obtain ⟨places, hx⟩ := vectorOrder_reads os enc
  refine returnsInHanded_of_row (C := Tryz.checked) (s := OpenSpec.ofChange Rows.vectorOrderSpec) own started (by kernel_rfl) Tryz.func5
    (witness_row_sh (enc := enc) (C := Tryz.checked) false (vectorOrder_world os) #[.agg #[.int .i8 0, .int .i8 0, .int .i8 0, .int .u8 0, .int .i8 0, .int .i8 0, .int .i8 0, .int .u8 0, .int .i8 0, .int .i8 0, .int .i8 0, .int .u8 0]] (World.laidAll_os _ _ _) (World.shaped_of_ZipB (by kernel_rfl) (by kernel_rfl)) (by kernel_rfl)
      (OpenSpec.preRow_of_cond 8 hx (by kernel_rfl) (fun k hk => by cases hk) (by kernel_rfl) (by rw [MakeChecks.laidMetH_plain _ _ _ (by kernel_rfl)]; exact vectorOrder_met os))) ?_
  intro W base args ds gs before hval hW _ _ _ hL hsh _
  exact vectorOrder_contract H enc W base args ds gs before hval hW hL hsh
theorem vectorOrder_said : Rows.VectorOrderSaid :=
  OpenClaim.holds_of_cond 5 Tryz.f5 rfl rfl rfl rfl rfl rfl rfl ⟨rfl, rfl, rfl, rfl, rfl⟩ rfl rfl rfl rfl rfl (by kernel_rfl) Tryz.func5 (by kernel_rfl)
    (of_decide_eq_true (by kernel_rfl)) (by unfold Func.isWrapper; first | (rw [if_pos (by decide +kernel)]; kernel_rfl) | (rw [if_neg (by decide +kernel)]; exact ⟨rfl, rfl⟩))
    (fun os started H enc _ F => by rw [OpenClaim.pre_eq_preRow]; exact vectorOrder_lifted os started H enc F)
theorem vectorOrder_plain (f : FuncId) (fn : Func) (hf : Tryz.pinned.checked.prog.funcNamed "dowel/dowellaw03.VectorOrder" = some f) (hfn : Tryz.pinned.checked.prog.funcs[f]? = some fn) :
    true = Tryz.pinned.checked.prog.looks [] ∧ ∀ (j : Nat) t, fn.params[j]? = some t → Tryz.pinned.checked.prog.wantsStandIn t = false := by
  obtain rfl : f = 5 := Option.some.inj ((show Tryz.prog.funcNamed "dowel/dowellaw03.VectorOrder" = some 5 by kernel_rfl).symm.trans hf) |>.symm
  obtain rfl : fn = Tryz.f5 := (Option.some.inj (Tryz.func5.symm.trans hfn)).symm
  refine ⟨by kernel_rfl, fun j t ht => ?_⟩
  rw [Tryz.params5] at ht
  have hm := Array.mem_of_getElem? ht
  have hall : (#[43] : Array TypeId).toList.all (fun t => !Tryz.prog.wantsStandIn t) = true := by kernel_rfl
  have := List.all_eq_true.1 hall t (Array.mem_toList_iff.2 hm)
  have h3 : Tryz.prog.wantsStandIn t = false := by simpa using this
  exact h3
/-- the card -/
theorem vectorOrder_card : Rows.VectorOrderCardSaid :=
  Claim7.holds_tied_plain_at .later [] _ _ _ _ vectorOrder_said (fun _ h => by cases h) (by kernel_rfl) (fun _ h => by cases h) vectorOrder_row_tie rfl ⟨rfl, rfl⟩ (by kernel_rfl) rfl vectorOrder_plain (by kernel_rfl)
end Go.Proofs.YtlcmllfacolkaaaGreatDoor
