/- Joined of: Gen43, RowRationalRounds. -/
import Derived.Test.YtloocadjbpgldaaGreatDoorPartF
import Derived.Test.YtloocadjbpgldaaGreatDoorCards
import Derived.Test.YtloocadjbpgldaaGreatDoorTie
/- Printed by a program of the prover's: RationalRounds. -/
namespace Go.Proofs.YtloocadjbpgldaaGreatDoor
open Go.RowKit

theorem lawRo0 (a : Rat)  : (decide (rcmp ((Rat.divInt (a.num / (a.den : Int)) (1))) (a) ≤ (0 : Int))) = true := by rw [decide_eq_true_eq, rcmp_le, divInt_one, low_floor]; exact Rat.floor_le a
theorem lawRo1 (a : Rat)  : (decide (rcmp (a) (((Rat.divInt (a.num / (a.den : Int)) (1)) + (((1 : Int) : Rat)))) < (0 : Int))) = true := by rw [decide_eq_true_eq, rcmp_lt, divInt_one, low_floor]; have := Rat.lt_floor_add_one a; rw [Rat.intCast_add] at this; exact this
theorem lawRo2 (a : Rat)  : (decide (rcmp (a) ((Rat.divInt (-((-a).num / ((-a).den : Int))) (1))) ≤ (0 : Int))) = true := by rw [decide_eq_true_eq, rcmp_le, divInt_one, high_ceil]; exact Rat.le_ceil
theorem lawRo3 (a : Rat)  : (decide (rcmp (((Rat.divInt (-((-a).num / ((-a).den : Int))) (1)) - (((1 : Int) : Rat)))) (a) < (0 : Int))) = true := by rw [decide_eq_true_eq, rcmp_lt, divInt_one, high_ceil]; have := Rat.ceil_lt (x := a); grind
theorem lawRo4 (a : Rat)  : ((((sgn (a.num / (a.den : Int) - -((-a).num / ((-a).den : Int))) == (0 : Int))) == (((Lib.itoa ((a.den : Int))) == ([49] : List UInt8))))) = true := by
  have k := floor_eq_ceil a
  have e2 : (Lib.itoa ((a.den : Int)) == ([49] : List UInt8)) = decide (a.den = 1) := by
    rw [Bool.eq_iff_iff]; simp only [beq_iff_eq, decide_eq_true_eq]
    rw [← itoa_one]; exact ⟨fun h => by have := itoa_inj h; omega, fun h => by rw [h]; rfl⟩
  rw [beq_iff_eq, e2, Bool.eq_iff_iff, beq_iff_eq, sgn_eq_zero, decide_eq_true_eq, ← k]
  omega
set_option maxRecDepth 100000 in
set_option maxHeartbeats 4000000 in
theorem rounds_q (a : Rat) (ha : Sz 160 a.num ∧ Sz 160 (a.den : Int)) (la : okT (ratL (a)) = true) (w : World) (ht : Tab w) (hm : Mx w) :
    Calls Tryz.prog 7 #[(.string ⟨(ratL (a) : List UInt8).toArray⟩)] w fun e w' => e = .returned (.bool true) ∧ Gr w w' := by
 have lok : (okT (ratL (a))) = true := la
 go_enter Tryz.func7, Tryz.ntmps7
 have hB := Gr.refl w
 refine wp_seq_k (fun K1 k1 => ?_)
 refine rg [0] ?_
 refine sv 2 (.bool false) ?_
 simp only [p3, p4]
 refine sq_nil ?_
 refine k1 _ _ ?_
 try clear k1 K1
 refine wp_seq_k (fun K2 k2 => ?_)
 refine wp_seq_k (fun K3 k3 => ?_)
 refine rg [0, 1, 2, 3, 4, 5, 6, 7] ?_
 refine se ?_
 refine ec 13 (known2 _ (ht.gr hB)) ?_
 rintro e4 w4 ⟨rfl, g4⟩
 refine ⟨_, rfl, ?_⟩
 replace hB := hB.trans g4
 simp only [p3, p4]
 refine sv 14 (.bool false) ?_
 simp only [p3, p4]
 refine sv 15 (.bool false) ?_
 simp only [p3, p4]
 refine sv 16 (.string ⟨(ratL (a) : List UInt8).toArray⟩) ?_
 simp only [p3, p4]
 refine se ?_
 refine eff_bs 9 1 #[(.string ⟨(ratL (a) : List UInt8).toArray⟩)] (some 17) rfl (fun _ => by kernel_rfl) (fun b5 w5 g5 L5 q5 => ?_)
 replace hB := hB.trans g5
 simp only [putl, p3, p4]
 refine se ?_
 refine ec 18 (right1 (ratL (a)) L5) ?_
 rintro e6 w6 ⟨rfl, g6⟩
 refine ⟨_, rfl, ?_⟩
 replace hB := hB.trans g6
 simp only [p3, p4]
 refine sw 19 (.bool false) rfl (RunV.bool (x := !((okT (ratL (a))))) (rvk (by kernel_rfl)) (show (!((okT (ratL (a))))) = false by rw [lok]; rfl)) ?_
 simp only [p3, p4]
 refine sv 20 (.bool false) ?_
 simp only [p3, p4]
 refine sq_nil ?_
 refine k3 _ _ ?_
 try clear k3 K3
 refine wp_cond_false rfl ?_
 refine wp_skip ?_
 refine k2 _ _ ?_
 try clear k2 K2
 refine wp_seq_k (fun K7 k7 => ?_)
 refine rg [0, 1, 2, 3] ?_
 refine sv 22 (.string ⟨(ratL (a) : List UInt8).toArray⟩) ?_
 simp only [p3, p4]
 refine se ?_
 refine ec 23 (lread_q a ha la _ (hm.gr hB)) ?_
 rintro e8 w8 ⟨⟨p8, q8, r8, s8, rfl, h8⟩, g8⟩
 refine ⟨_, rfl, ?_⟩
 replace hB := hB.trans g8
 simp only [p3, p4]
 refine se ?_
 refine ea 31 #[(.bool false), (.slice none 0 0), (.bool false), (.slice none 0 0)] 3 hB fun b9 w9 g9 L9 o9 q9 hB => ?_
 simp only [p3, p4]
 refine se ?_
 refine es 31 0 (.agg #[p8, q8, r8, s8]) [p8, q8, r8, s8] #[p8, q8, r8, s8] L9 hB q9 ⟨h8.one0, h8.one1, h8.one2, h8.one3, trivial⟩ fun w10 st10 kp10 L9 hB => ?_
 refine sq_nil ?_
 refine k7 _ _ ?_
 try clear k7 K7
 refine wp_seq_k (fun K11 k11 => ?_)
 have hz12 := Below.size hB
 have lt9_12 := L9.lt
 have gd12 := Gr.drew w10
 replace hB := hB.trans gd12
 replace L9 := L9.gr gd12
 refine wp_region_flo (fun w' => Lc w' b9 #[p8, q8, r8, s8] 31) [(true, 0), (true, 2), (false, 1), (false, 3)] [⟨4, 4, 27, #[(.bool false), (.slice none 0 0)]⟩, ⟨5, 5, 27, #[(.bool false), (.slice none 0 0)]⟩] [(false, 6), (false, 7)] (by kernel_rfl) (by kernel_rfl) (by kernel_rfl) (by kernel_rfl) (by kernel_rfl) (by decide) (fun _ _ _ _ _ h => h) (fun _ _ _ _ _ h => h) (fun w' o h => Lc.gr h (Gr.alloc w' o)) L9 (by intro f hf; simp only [List.mem_cons, List.not_mem_nil, or_false] at hf; rcases hf with rfl | rfl <;> first | exact alloc_zero (z := (.agg #[(.bool false), (.slice none 0 0)])) (by kernel_rfl) rfl | exact alloc_zero (z := (.agg #[(.bool false), (.slice none 0 0)])) (by kernel_rfl) rfl) ?_
 refine fw 24 (.agg #[p8, q8, r8, s8]) rfl (fun w' hS => (rl 31 0 [p8, q8, r8, s8] hS)) ?_
 simp only [p3, p4]
 refine fw 26 (.agg #[p8, q8, r8, s8]) rfl (fun w' hS => (rl 31 0 [p8, q8, r8, s8] hS)) ?_
 simp only [p3, p4]
 refine flo_eff rfl rfl (fun w13 g13 _ K13 k13 => ?_)
 replace hB := hB.trans g13
 have kq15 := g9.kp.trans (kp10.trans (gd12.kp.trans g13.kp))
 replace h8 := h8.kp kq15
 refine ec 25 (floor_r h8 (by omega)) ?_
 rintro e14 w14 ⟨⟨x14, y14, rfl, h14⟩, g14⟩
 refine ⟨_, rfl, ?_⟩
 replace hB := hB.trans g14
 replace L9 := L9.gr (g13.trans g14)
 refine k13 _ _ g14 L9 ?_
 try clear k13 K13
 simp only [p3, p4]
 refine flo_eff rfl rfl (fun w16 g16 _ K16 k16 => ?_)
 replace hB := hB.trans g16
 have kq18 := g14.kp.trans g16.kp
 replace h8 := h8.kp kq18
 refine ec 27 (ceil_r h8 (by omega)) ?_
 rintro e17 w17 ⟨⟨x17, y17, rfl, h17⟩, g17⟩
 refine ⟨_, rfl, ?_⟩
 replace hB := hB.trans g17
 replace L9 := L9.gr (g16.trans g17)
 refine k16 _ _ g17 L9 ?_
 try clear k16 K16
 simp only [p3, p4]
 refine flo_nil (fun w19 g19 _ => ?_)
 replace hB := hB.trans g19
 refine floFin2 (fun b20 b21 (L20 : Lc w19 b20 #[(.bool false), (.slice none 0 0)] 27) q20 (L21 : Lc w19 b21 #[(.bool false), (.slice none 0 0)] 27) q21 ne20_21 => ?_)
 have ne9_20 : b9 ≠ b20 := Nat.ne_of_lt (Nat.lt_of_lt_of_le lt9_12 q20)
 replace q20 := Nat.le_trans hz12 q20
 have ne9_21 : b9 ≠ b21 := Nat.ne_of_lt (Nat.lt_of_lt_of_le lt9_12 q21)
 replace q21 := Nat.le_trans hz12 q21
 simp only [putl, p3, p4]
 refine oe ?_
 refine es 27 0 (.agg #[x14, y14]) [x14, y14] #[x14, y14] L20 hB q20 ⟨h14.one0, h14.one1, trivial⟩ fun w23 st23 kp23 L20 hB => ?_
 replace L9 := st23.lc (L9.gr g19) ne9_20
 refine ⟨L9, ?_⟩
 refine oe ?_
 replace L21 := st23.lc L21 (Ne.symm ne20_21)
 refine es 27 0 (.agg #[x17, y17]) [x17, y17] #[x17, y17] L21 hB q21 ⟨h17.one0, h17.one1, trivial⟩ fun w25 st25 kp25 L21 hB => ?_
 replace L9 := st25.lc L9 ne9_21
 refine ⟨L9, ?_⟩
 refine ord_nil ?_
 refine k11 _ _ ?_
 try clear k11 K11
 refine wp_seq_k (fun K26 k26 => ?_)
 have hz27 := Below.size hB
 have lt9_27 := L9.lt
 replace L20 := st25.lc L20 ne20_21
 have lt20_27 := L20.lt
 have lt21_27 := L21.lt
 have gd27 := Gr.drew w25
 replace hB := hB.trans gd27
 replace L20 := L20.gr gd27
 refine wp_region_flo (fun w' => Lc w' b20 #[x14, y14] 27) [(true, 0), (false, 1), (false, 2), (true, 3), (true, 4), (true, 5)] [⟨6, 6, 31, #[(.bool false), (.slice none 0 0), (.bool false), (.slice none 0 0)]⟩] [(false, 7), (true, 8)] (by kernel_rfl) (by kernel_rfl) (by kernel_rfl) (by kernel_rfl) (by kernel_rfl) (by decide) (fun _ _ _ _ _ h => h) (fun _ _ _ _ _ h => h) (fun w' o h => Lc.gr h (Gr.alloc w' o)) L20 (by intro f hf; simp only [List.mem_cons, List.not_mem_nil, or_false] at hf; rcases hf with rfl <;> first | exact alloc_zero (z := (.agg #[(.bool false), (.slice none 0 0), (.bool false), (.slice none 0 0)])) (by kernel_rfl) rfl) ?_
 refine fw 29 (.agg #[x14, y14]) rfl (fun w' hS => (rl 27 0 [x14, y14] hS)) ?_
 simp only [p3, p4]
 refine flo_eff rfl rfl (fun w28 g28 _ K28 k28 => ?_)
 replace hB := hB.trans g28
 refine ec 30 (from_i (1) (by omega) (by omega) _) ?_
 rintro e29 w29 ⟨⟨x29, y29, rfl, h29⟩, g29⟩
 refine ⟨_, rfl, ?_⟩
 replace hB := hB.trans g29
 replace L20 := L20.gr (g28.trans g29)
 refine k28 _ _ g29 L20 ?_
 try clear k28 K28
 simp only [p3, p4]
 refine flo_eff rfl rfl (fun w30 g30 _ K30 k30 => ?_)
 replace hB := hB.trans g30
 have kq32 := g16.kp.trans (g17.kp.trans (g19.kp.trans (kp23.trans (kp25.trans (gd27.kp.trans (g28.kp.trans (g29.kp.trans g30.kp)))))))
 replace h14 := h14.kp kq32
 replace h29 := h29.kp g30.kp
 refine ec 31 (make_a 160 h14 h29 (by decide) (by omega) (by omega) (by omega) (by omega)) ?_
 rintro e31 w31 ⟨⟨p31, q31, r31, s31, rfl, h31⟩, g31⟩
 refine ⟨_, rfl, ?_⟩
 replace hB := hB.trans g31
 replace L20 := L20.gr (g30.trans g31)
 refine k30 _ _ g31 L20 ?_
 try clear k30 K30
 simp only [p3, p4]
 refine fv 28 (.tuple #[(.agg #[p31, q31, r31, s31]), (.int .i64 0)]) ?_
 simp only [p3, p4]
 refine fv 32 (.agg #[p31, q31, r31, s31]) ?_
 simp only [p3, p4]
 refine fv 33 (.int .i64 0) ?_
 simp only [p3, p4]
 refine flo_nil (fun w33 g33 _ => ?_)
 replace hB := hB.trans g33
 refine floFin1 (fun b34 (L34 : Lc w33 b34 #[(.bool false), (.slice none 0 0), (.bool false), (.slice none 0 0)] 31) q34  => ?_)
 have ne9_34 : b9 ≠ b34 := Nat.ne_of_lt (Nat.lt_of_lt_of_le lt9_27 q34)
 have ne20_34 : b20 ≠ b34 := Nat.ne_of_lt (Nat.lt_of_lt_of_le lt20_27 q34)
 have ne21_34 : b21 ≠ b34 := Nat.ne_of_lt (Nat.lt_of_lt_of_le lt21_27 q34)
 replace q34 := Nat.le_trans hz27 q34
 simp only [putl, p3, p4]
 refine oe ?_
 refine es 31 0 (.agg #[p31, q31, r31, s31]) [p31, q31, r31, s31] #[p31, q31, r31, s31] L34 hB q34 ⟨h31.one0, h31.one1, h31.one2, h31.one3, trivial⟩ fun w36 st36 kp36 L34 hB => ?_
 replace L20 := st36.lc (L20.gr g33) ne20_34
 refine ⟨L20, ?_⟩
 refine ov 7 (.int .i64 0) ?_
 simp only [p3, p4]
 refine ord_nil ?_
 refine k26 _ _ ?_
 try clear k26 K26
 refine wp_seq_k (fun K37 k37 => ?_)
 have hz38 := Below.size hB
 replace L9 := st36.lc (L9.gr (gd27.trans (g28.trans (g29.trans (g30.trans (g31.trans g33)))))) ne9_34
 have lt9_38 := L9.lt
 have lt20_38 := L20.lt
 replace L21 := st36.lc (L21.gr (gd27.trans (g28.trans (g29.trans (g30.trans (g31.trans g33)))))) ne21_34
 have lt21_38 := L21.lt
 have lt34_38 := L34.lt
 have gd38 := Gr.drew w36
 replace hB := hB.trans gd38
 replace L21 := L21.gr gd38
 refine wp_region_flo (fun w' => Lc w' b21 #[x17, y17] 27) [(true, 0), (false, 1), (false, 2), (true, 3), (true, 4), (true, 5)] [⟨6, 8, 31, #[(.bool false), (.slice none 0 0), (.bool false), (.slice none 0 0)]⟩] [(false, 7), (true, 8)] (by kernel_rfl) (by kernel_rfl) (by kernel_rfl) (by kernel_rfl) (by kernel_rfl) (by decide) (fun _ _ _ _ _ h => h) (fun _ _ _ _ _ h => h) (fun w' o h => Lc.gr h (Gr.alloc w' o)) L21 (by intro f hf; simp only [List.mem_cons, List.not_mem_nil, or_false] at hf; rcases hf with rfl <;> first | exact alloc_zero (z := (.agg #[(.bool false), (.slice none 0 0), (.bool false), (.slice none 0 0)])) (by kernel_rfl) rfl) ?_
 refine fw 35 (.agg #[x17, y17]) rfl (fun w' hS => (rl 27 0 [x17, y17] hS)) ?_
 simp only [p3, p4]
 refine flo_eff rfl rfl (fun w39 g39 _ K39 k39 => ?_)
 replace hB := hB.trans g39
 refine ec 36 (from_i (1) (by omega) (by omega) _) ?_
 rintro e40 w40 ⟨⟨x40, y40, rfl, h40⟩, g40⟩
 refine ⟨_, rfl, ?_⟩
 replace hB := hB.trans g40
 replace L21 := L21.gr (g39.trans g40)
 refine k39 _ _ g40 L21 ?_
 try clear k39 K39
 simp only [p3, p4]
 refine flo_eff rfl rfl (fun w41 g41 _ K41 k41 => ?_)
 replace hB := hB.trans g41
 have kq43 := g19.kp.trans (kp23.trans (kp25.trans (gd27.kp.trans (g28.kp.trans (g29.kp.trans (g30.kp.trans (g31.kp.trans (g33.kp.trans (kp36.trans (gd38.kp.trans (g39.kp.trans (g40.kp.trans g41.kp))))))))))))
 replace h17 := h17.kp kq43
 replace h40 := h40.kp g41.kp
 refine ec 37 (make_a 160 h17 h40 (by decide) (by omega) (by omega) (by omega) (by omega)) ?_
 rintro e42 w42 ⟨⟨p42, q42, r42, s42, rfl, h42⟩, g42⟩
 refine ⟨_, rfl, ?_⟩
 replace hB := hB.trans g42
 replace L21 := L21.gr (g41.trans g42)
 refine k41 _ _ g42 L21 ?_
 try clear k41 K41
 simp only [p3, p4]
 refine fv 34 (.tuple #[(.agg #[p42, q42, r42, s42]), (.int .i64 0)]) ?_
 simp only [p3, p4]
 refine fv 38 (.agg #[p42, q42, r42, s42]) ?_
 simp only [p3, p4]
 refine fv 39 (.int .i64 0) ?_
 simp only [p3, p4]
 refine flo_nil (fun w44 g44 _ => ?_)
 replace hB := hB.trans g44
 refine floFin1 (fun b45 (L45 : Lc w44 b45 #[(.bool false), (.slice none 0 0), (.bool false), (.slice none 0 0)] 31) q45  => ?_)
 have ne9_45 : b9 ≠ b45 := Nat.ne_of_lt (Nat.lt_of_lt_of_le lt9_38 q45)
 have ne20_45 : b20 ≠ b45 := Nat.ne_of_lt (Nat.lt_of_lt_of_le lt20_38 q45)
 have ne21_45 : b21 ≠ b45 := Nat.ne_of_lt (Nat.lt_of_lt_of_le lt21_38 q45)
 have ne34_45 : b34 ≠ b45 := Nat.ne_of_lt (Nat.lt_of_lt_of_le lt34_38 q45)
 replace q45 := Nat.le_trans hz38 q45
 simp only [putl, p3, p4]
 refine oe ?_
 refine es 31 0 (.agg #[p42, q42, r42, s42]) [p42, q42, r42, s42] #[p42, q42, r42, s42] L45 hB q45 ⟨h42.one0, h42.one1, h42.one2, h42.one3, trivial⟩ fun w47 st47 kp47 L45 hB => ?_
 replace L21 := st47.lc (L21.gr g44) ne21_45
 refine ⟨L21, ?_⟩
 refine ov 9 (.int .i64 0) ?_
 simp only [p3, p4]
 refine ord_nil ?_
 refine k37 _ _ ?_
 try clear k37 K37
 refine wp_seq_k (fun K48 k48 => ?_)
 refine rg [0, 1, 2, 3, 4, 5, 6] ?_
 refine sv 41 (.string ⟨(ratL (a) : List UInt8).toArray⟩) ?_
 simp only [p3, p4]
 refine se ?_
 refine ec 42 (r2_parts_q a ha.1 ha.2 (by omega) _) ?_
 rintro e49 w49 ⟨rfl, g49⟩
 refine ⟨_, rfl, ?_⟩
 replace hB := hB.trans g49
 simp only [p3, p4]
 refine sv 40 (.tuple #[(.string ⟨(Lib.itoa (a.num) : List UInt8).toArray⟩), (.string ⟨(Lib.itoa ((a.den : Int)) : List UInt8).toArray⟩)]) ?_
 simp only [p3, p4]
 refine sv 43 (.string ⟨(Lib.itoa (a.num) : List UInt8).toArray⟩) ?_
 simp only [p3, p4]
 refine sv 44 (.string ⟨(Lib.itoa ((a.den : Int)) : List UInt8).toArray⟩) ?_
 simp only [p3, p4]
 refine sv 10 (.string ⟨(Lib.itoa (a.num) : List UInt8).toArray⟩) ?_
 simp only [p3, p4]
 refine sv 11 (.string ⟨(Lib.itoa ((a.den : Int)) : List UInt8).toArray⟩) ?_
 simp only [p3, p4]
 refine sq_nil ?_
 refine k48 _ _ ?_
 try clear k48 K48
 refine wp_seq_k (fun K50 k50 => ?_)
 refine rg [0, 1, 2] ?_
 refine se ?_
 refine ec 45 (from_r (1) (by omega) (by omega) _) ?_
 rintro e51 w51 ⟨⟨p51, q51, r51, s51, rfl, h51⟩, g51⟩
 refine ⟨_, rfl, ?_⟩
 replace hB := hB.trans g51
 simp only [p3, p4]
 refine se ?_
 refine ea 31 #[(.bool false), (.slice none 0 0), (.bool false), (.slice none 0 0)] 12 hB fun b52 w52 g52 L52 o52 q52 hB => ?_
 replace L9 := (st47.lc (L9.gr (gd38.trans (g39.trans (g40.trans (g41.trans (g42.trans g44)))))) ne9_45).gr (g49.trans g51)
 have ne9_52 := L9.ne o52
 replace L20 := (st47.lc (L20.gr (gd38.trans (g39.trans (g40.trans (g41.trans (g42.trans g44)))))) ne20_45).gr (g49.trans g51)
 have ne20_52 := L20.ne o52
 replace L21 := L21.gr (g49.trans g51)
 have ne21_52 := L21.ne o52
 replace L34 := (st47.lc (L34.gr (gd38.trans (g39.trans (g40.trans (g41.trans (g42.trans g44)))))) ne34_45).gr (g49.trans g51)
 have ne34_52 := L34.ne o52
 replace L45 := L45.gr (g49.trans g51)
 have ne45_52 := L45.ne o52
 simp only [p3, p4]
 refine se ?_
 refine es 31 0 (.agg #[p51, q51, r51, s51]) [p51, q51, r51, s51] #[p51, q51, r51, s51] L52 hB q52 ⟨h51.one0, h51.one1, h51.one2, h51.one3, trivial⟩ fun w53 st53 kp53 L52 hB => ?_
 refine sq_nil ?_
 refine k50 _ _ ?_
 try clear k50 K50
 refine wp_seq_k (fun K54 k54 => ?_)
 have gd96 := Gr.drew w53
 replace hB := hB.trans gd96
 replace L9 := (st53.lc (L9.gr g52) ne9_52).gr gd96
 replace L20 := (st53.lc (L20.gr g52) ne20_52).gr gd96
 replace L21 := (st53.lc (L21.gr g52) ne21_52).gr gd96
 replace L34 := (st53.lc (L34.gr g52) ne34_52).gr gd96
 replace L45 := (st53.lc (L45.gr g52) ne45_52).gr gd96
 replace L52 := L52.gr gd96
 refine wp_region_ord (fun w' => Lc w' b9 #[p8, q8, r8, s8] 31 ∧ Lc w' b20 #[x14, y14] 27 ∧ Lc w' b21 #[x17, y17] 27 ∧ Lc w' b34 #[p31, q31, r31, s31] 31 ∧ Lc w' b45 #[p42, q42, r42, s42] 31 ∧ Lc w' b52 #[p51, q51, r51, s51] 31) [(true, 0), (true, 2), (false, 1), (false, 3), (true, 4), (true, 5), (true, 6), (true, 8), (false, 7), (false, 9), (true, 10), (true, 11), (true, 12), (true, 13), (true, 14), (true, 15), (true, 16), (true, 17), (true, 18), (true, 19), (true, 20), (true, 21), (true, 22), (false, 23), (true, 24), (true, 25), (true, 26), (true, 27), (true, 28), (true, 29), (false, 30), (false, 31), (true, 32), (true, 33), (true, 34), (true, 35), (true, 36), (false, 37), (true, 38), (true, 39), (true, 40), (true, 41), (true, 42), (true, 44), (false, 43), (false, 45), (true, 46), (true, 47), (true, 48), (true, 49), (true, 50), (true, 53), (true, 54), (false, 51), (true, 52), (true, 55), (true, 56), (true, 57)] (by kernel_rfl) (by kernel_rfl) (by kernel_rfl) (by decide) (fun _ _ _ _ _ h => h) ⟨L9, L20, L21, L34, L45, L52⟩ ?_
 refine ow 46 (.agg #[x14, y14]) rfl (fun w' hS => (rl 27 0 [x14, y14] hS.2.1)) ?_
 simp only [p3, p4]
 refine ov 48 (.string ⟨(ratL (a) : List UInt8).toArray⟩) ?_
 simp only [p3, p4]
 refine oe ?_
 have kq99 := g31.kp.trans (g33.kp.trans (kp36.trans (gd38.kp.trans (g39.kp.trans (g40.kp.trans (g41.kp.trans (g42.kp.trans (g44.kp.trans (kp47.trans (g49.kp.trans (g51.kp.trans (g52.kp.trans (kp53.trans gd96.kp)))))))))))))
 replace h14 := h14.kp kq99
 refine ec 47 (text_i h14 (by omega) (ht.gr hB)) ?_
 rintro e98 w98 ⟨rfl, g98⟩
 refine ⟨_, rfl, ?_⟩
 replace hB := hB.trans g98
 replace L9 := L9.gr g98
 replace L20 := L20.gr g98
 replace L21 := L21.gr g98
 replace L34 := L34.gr g98
 replace L45 := L45.gr g98
 replace L52 := L52.gr g98
 refine ⟨⟨L9, L20, L21, L34, L45, L52⟩, ?_⟩
 simp only [p3, p4]
 refine oe ?_
 refine ec 49 (r2_floor (a) ha (by omega) _) ?_
 rintro e101 w101 ⟨rfl, g101⟩
 refine ⟨_, rfl, ?_⟩
 replace hB := hB.trans g101
 replace L9 := L9.gr g101
 replace L20 := L20.gr g101
 replace L21 := L21.gr g101
 replace L34 := L34.gr g101
 replace L45 := L45.gr g101
 replace L52 := L52.gr g101
 refine ⟨⟨L9, L20, L21, L34, L45, L52⟩, ?_⟩
 simp only [p3, p4]
 have hb102 : (((Lib.itoa (a.num / (a.den : Int))) == (Lib.itoa (a.num / (a.den : Int))))) = true := (text_lit rfl)
 refine ow 50 (.bool true) rfl (fun w' hS => (RunV.bool (x := ((Lib.itoa (a.num / (a.den : Int))) == (Lib.itoa (a.num / (a.den : Int))))) (rv_seq 9 9 _ _ (Lib.itoa (a.num / (a.den : Int))) (Lib.itoa (a.num / (a.den : Int))) rfl rfl rfl) hb102)) ?_
 simp only [p3, p4]
 refine ov 51 (.bool true) ?_
 simp only [p3, p4]
 refine ow 52 (.agg #[x17, y17]) rfl (fun w' hS => (rl 27 0 [x17, y17] hS.2.2.1)) ?_
 simp only [p3, p4]
 refine ov 54 (.string ⟨(ratL (a) : List UInt8).toArray⟩) ?_
 simp only [p3, p4]
 refine oe ?_
 have kq105 := g42.kp.trans (g44.kp.trans (kp47.trans (g49.kp.trans (g51.kp.trans (g52.kp.trans (kp53.trans (gd96.kp.trans (g98.kp.trans g101.kp))))))))
 replace h17 := h17.kp kq105
 refine ec 53 (text_i h17 (by omega) (ht.gr hB)) ?_
 rintro e104 w104 ⟨rfl, g104⟩
 refine ⟨_, rfl, ?_⟩
 replace hB := hB.trans g104
 replace L9 := L9.gr g104
 replace L20 := L20.gr g104
 replace L21 := L21.gr g104
 replace L34 := L34.gr g104
 replace L45 := L45.gr g104
 replace L52 := L52.gr g104
 refine ⟨⟨L9, L20, L21, L34, L45, L52⟩, ?_⟩
 simp only [p3, p4]
 refine oe ?_
 refine ec 55 (r2_ceil (a) ha (by omega) _) ?_
 rintro e107 w107 ⟨rfl, g107⟩
 refine ⟨_, rfl, ?_⟩
 replace hB := hB.trans g107
 replace L9 := L9.gr g107
 replace L20 := L20.gr g107
 replace L21 := L21.gr g107
 replace L34 := L34.gr g107
 replace L45 := L45.gr g107
 replace L52 := L52.gr g107
 refine ⟨⟨L9, L20, L21, L34, L45, L52⟩, ?_⟩
 simp only [p3, p4]
 have hb108 : (((Lib.itoa (-((-a).num / ((-a).den : Int)))) == (Lib.itoa (-((-a).num / ((-a).den : Int)))))) = true := (text_lit rfl)
 refine ow 56 (.bool true) rfl (fun w' hS => (RunV.bool (x := ((Lib.itoa (-((-a).num / ((-a).den : Int)))) == (Lib.itoa (-((-a).num / ((-a).den : Int)))))) (rv_seq 9 9 _ _ (Lib.itoa (-((-a).num / ((-a).den : Int)))) (Lib.itoa (-((-a).num / ((-a).den : Int)))) rfl rfl rfl) hb108)) ?_
 simp only [p3, p4]
 refine ov 57 (.bool true) ?_
 simp only [p3, p4]
 refine ov 58 (.bool true) ?_
 simp only [p3, p4]
 refine ov 59 (.int .i64 0) ?_
 simp only [p3, p4]
 refine ov 60 (.bool true) ?_
 simp only [p3, p4]
 refine ov 61 (.bool true) ?_
 simp only [p3, p4]
 refine ov 62 (.bool true) ?_
 simp only [p3, p4]
 refine ov 63 (.int .i64 0) ?_
 simp only [p3, p4]
 refine ov 64 (.bool true) ?_
 simp only [p3, p4]
 refine ov 65 (.bool true) ?_
 simp only [p3, p4]
 refine ov 66 (.bool true) ?_
 simp only [p3, p4]
 refine ow 67 (.agg #[p31, q31, r31, s31]) rfl (fun w' hS => (rl 31 0 [p31, q31, r31, s31] hS.2.2.2.1)) ?_
 simp only [p3, p4]
 refine ow 68 (.agg #[p8, q8, r8, s8]) rfl (fun w' hS => (rl 31 0 [p8, q8, r8, s8] hS.1)) ?_
 simp only [p3, p4]
 refine oe ?_
 have kq111 := g33.kp.trans (kp36.trans (gd38.kp.trans (g39.kp.trans (g40.kp.trans (g41.kp.trans (g42.kp.trans (g44.kp.trans (kp47.trans (g49.kp.trans (g51.kp.trans (g52.kp.trans (kp53.trans (gd96.kp.trans (g98.kp.trans (g101.kp.trans (g104.kp.trans g107.kp))))))))))))))))
 replace h31 := h31.kp kq111
 have kq112 := g17.kp.trans (g19.kp.trans (kp23.trans (kp25.trans (gd27.kp.trans (g28.kp.trans (g29.kp.trans (g30.kp.trans (g31.kp.trans (g33.kp.trans (kp36.trans (gd38.kp.trans (g39.kp.trans (g40.kp.trans (g41.kp.trans (g42.kp.trans (g44.kp.trans (kp47.trans (g49.kp.trans (g51.kp.trans (g52.kp.trans (kp53.trans (gd96.kp.trans (g98.kp.trans (g101.kp.trans (g104.kp.trans g107.kp)))))))))))))))))))))))))
 replace h8 := h8.kp kq112
 refine ec 69 (compare_r h31 h8 (by omega)) ?_
 rintro e110 w110 ⟨rfl, g110⟩
 refine ⟨_, rfl, ?_⟩
 replace hB := hB.trans g110
 replace L9 := L9.gr g110
 replace L20 := L20.gr g110
 replace L21 := L21.gr g110
 replace L34 := L34.gr g110
 replace L45 := L45.gr g110
 replace L52 := L52.gr g110
 refine ⟨⟨L9, L20, L21, L34, L45, L52⟩, ?_⟩
 simp only [p3, p4]
 have hb113 : (decide (rcmp ((Rat.divInt (a.num / (a.den : Int)) (1))) (a) ≤ (0 : Int))) = true := (lawRo0 a )
 refine ow 70 (.bool true) rfl (fun w' hS => (RunV.bool (x := decide (rcmp ((Rat.divInt (a.num / (a.den : Int)) (1))) (a) ≤ (0 : Int))) (rvk (by kernel_rfl)) hb113)) ?_
 simp only [p3, p4]
 refine ov 71 (.bool true) ?_
 simp only [p3, p4]
 refine ov 72 (.bool true) ?_
 simp only [p3, p4]
 refine ow 73 (.agg #[p8, q8, r8, s8]) rfl (fun w' hS => (rl 31 0 [p8, q8, r8, s8] hS.1)) ?_
 simp only [p3, p4]
 refine ow 74 (.agg #[p31, q31, r31, s31]) rfl (fun w' hS => (rl 31 0 [p31, q31, r31, s31] hS.2.2.2.1)) ?_
 simp only [p3, p4]
 refine ow 75 (.agg #[p51, q51, r51, s51]) rfl (fun w' hS => (rl 31 0 [p51, q51, r51, s51] hS.2.2.2.2.2)) ?_
 simp only [p3, p4]
 refine oe ?_
 replace h31 := h31.kp g110.kp
 have kq116 := g52.kp.trans (kp53.trans (gd96.kp.trans (g98.kp.trans (g101.kp.trans (g104.kp.trans (g107.kp.trans g110.kp))))))
 replace h51 := h51.kp kq116
 refine ec 76 (add_r h31 h51 (by omega)) ?_
 rintro e115 w115 ⟨⟨p115, q115, r115, s115, rfl, h115⟩, g115⟩
 refine ⟨_, rfl, ?_⟩
 replace hB := hB.trans g115
 replace L9 := L9.gr g115
 replace L20 := L20.gr g115
 replace L21 := L21.gr g115
 replace L34 := L34.gr g115
 replace L45 := L45.gr g115
 replace L52 := L52.gr g115
 refine ⟨⟨L9, L20, L21, L34, L45, L52⟩, ?_⟩
 simp only [p3, p4]
 refine oe ?_
 have kq119 := g110.kp.trans g115.kp
 replace h8 := h8.kp kq119
 refine ec 77 (compare_r h8 h115 (by omega)) ?_
 rintro e118 w118 ⟨rfl, g118⟩
 refine ⟨_, rfl, ?_⟩
 replace hB := hB.trans g118
 replace L9 := L9.gr g118
 replace L20 := L20.gr g118
 replace L21 := L21.gr g118
 replace L34 := L34.gr g118
 replace L45 := L45.gr g118
 replace L52 := L52.gr g118
 refine ⟨⟨L9, L20, L21, L34, L45, L52⟩, ?_⟩
 simp only [p3, p4]
 have hb120 : (decide (rcmp (a) (((Rat.divInt (a.num / (a.den : Int)) (1)) + (((1 : Int) : Rat)))) < (0 : Int))) = true := (lawRo1 a )
 refine ow 78 (.bool true) rfl (fun w' hS => (RunV.bool (x := decide (rcmp (a) (((Rat.divInt (a.num / (a.den : Int)) (1)) + (((1 : Int) : Rat)))) < (0 : Int))) (rvk (by kernel_rfl)) hb120)) ?_
 simp only [p3, p4]
 refine ov 79 (.bool true) ?_
 simp only [p3, p4]
 refine ov 80 (.bool true) ?_
 simp only [p3, p4]
 refine ow 81 (.agg #[p8, q8, r8, s8]) rfl (fun w' hS => (rl 31 0 [p8, q8, r8, s8] hS.1)) ?_
 simp only [p3, p4]
 refine ow 82 (.agg #[p42, q42, r42, s42]) rfl (fun w' hS => (rl 31 0 [p42, q42, r42, s42] hS.2.2.2.2.1)) ?_
 simp only [p3, p4]
 refine oe ?_
 replace h8 := h8.kp g118.kp
 have kq123 := g44.kp.trans (kp47.trans (g49.kp.trans (g51.kp.trans (g52.kp.trans (kp53.trans (gd96.kp.trans (g98.kp.trans (g101.kp.trans (g104.kp.trans (g107.kp.trans (g110.kp.trans (g115.kp.trans g118.kp))))))))))))
 replace h42 := h42.kp kq123
 refine ec 83 (compare_r h8 h42 (by omega)) ?_
 rintro e122 w122 ⟨rfl, g122⟩
 refine ⟨_, rfl, ?_⟩
 replace hB := hB.trans g122
 replace L9 := L9.gr g122
 replace L20 := L20.gr g122
 replace L21 := L21.gr g122
 replace L34 := L34.gr g122
 replace L45 := L45.gr g122
 replace L52 := L52.gr g122
 refine ⟨⟨L9, L20, L21, L34, L45, L52⟩, ?_⟩
 simp only [p3, p4]
 have hb124 : (decide (rcmp (a) ((Rat.divInt (-((-a).num / ((-a).den : Int))) (1))) ≤ (0 : Int))) = true := (lawRo2 a )
 refine ow 84 (.bool true) rfl (fun w' hS => (RunV.bool (x := decide (rcmp (a) ((Rat.divInt (-((-a).num / ((-a).den : Int))) (1))) ≤ (0 : Int))) (rvk (by kernel_rfl)) hb124)) ?_
 simp only [p3, p4]
 refine ov 85 (.bool true) ?_
 simp only [p3, p4]
 refine ov 86 (.bool true) ?_
 simp only [p3, p4]
 refine ow 87 (.agg #[p42, q42, r42, s42]) rfl (fun w' hS => (rl 31 0 [p42, q42, r42, s42] hS.2.2.2.2.1)) ?_
 simp only [p3, p4]
 refine ow 88 (.agg #[p51, q51, r51, s51]) rfl (fun w' hS => (rl 31 0 [p51, q51, r51, s51] hS.2.2.2.2.2)) ?_
 simp only [p3, p4]
 refine ow 90 (.agg #[p8, q8, r8, s8]) rfl (fun w' hS => (rl 31 0 [p8, q8, r8, s8] hS.1)) ?_
 simp only [p3, p4]
 refine oe ?_
 replace h42 := h42.kp g122.kp
 have kq127 := g115.kp.trans (g118.kp.trans g122.kp)
 replace h51 := h51.kp kq127
 refine ec 89 (sub_r h42 h51 (by omega)) ?_
 rintro e126 w126 ⟨⟨p126, q126, r126, s126, rfl, h126⟩, g126⟩
 refine ⟨_, rfl, ?_⟩
 replace hB := hB.trans g126
 replace L9 := L9.gr g126
 replace L20 := L20.gr g126
 replace L21 := L21.gr g126
 replace L34 := L34.gr g126
 replace L45 := L45.gr g126
 replace L52 := L52.gr g126
 refine ⟨⟨L9, L20, L21, L34, L45, L52⟩, ?_⟩
 simp only [p3, p4]
 refine oe ?_
 have kq130 := g122.kp.trans g126.kp
 replace h8 := h8.kp kq130
 refine ec 91 (compare_r h126 h8 (by omega)) ?_
 rintro e129 w129 ⟨rfl, g129⟩
 refine ⟨_, rfl, ?_⟩
 replace hB := hB.trans g129
 replace L9 := L9.gr g129
 replace L20 := L20.gr g129
 replace L21 := L21.gr g129
 replace L34 := L34.gr g129
 replace L45 := L45.gr g129
 replace L52 := L52.gr g129
 refine ⟨⟨L9, L20, L21, L34, L45, L52⟩, ?_⟩
 simp only [p3, p4]
 have hb131 : (decide (rcmp (((Rat.divInt (-((-a).num / ((-a).den : Int))) (1)) - (((1 : Int) : Rat)))) (a) < (0 : Int))) = true := (lawRo3 a )
 refine ow 92 (.bool true) rfl (fun w' hS => (RunV.bool (x := decide (rcmp (((Rat.divInt (-((-a).num / ((-a).den : Int))) (1)) - (((1 : Int) : Rat)))) (a) < (0 : Int))) (rvk (by kernel_rfl)) hb131)) ?_
 simp only [p3, p4]
 refine ov 93 (.bool true) ?_
 simp only [p3, p4]
 refine ov 94 (.bool true) ?_
 simp only [p3, p4]
 refine ow 95 (.agg #[x14, y14]) rfl (fun w' hS => (rl 27 0 [x14, y14] hS.2.1)) ?_
 simp only [p3, p4]
 refine ow 96 (.agg #[x17, y17]) rfl (fun w' hS => (rl 27 0 [x17, y17] hS.2.2.1)) ?_
 simp only [p3, p4]
 refine ov 99 (.string ⟨(Lib.itoa ((a.den : Int)) : List UInt8).toArray⟩) ?_
 simp only [p3, p4]
 refine ow 100 (.bool (((Lib.itoa ((a.den : Int))) == ([49] : List UInt8)))) rfl (fun w' hS => (rv_seq 9 9 _ _ (Lib.itoa ((a.den : Int))) ([49]) rfl rfl rfl)) ?_
 simp only [p3, p4]
 refine oe ?_
 have kq134 := g98.kp.trans (g101.kp.trans (g104.kp.trans (g107.kp.trans (g110.kp.trans (g115.kp.trans (g118.kp.trans (g122.kp.trans (g126.kp.trans g129.kp))))))))
 replace h14 := h14.kp kq134
 have kq135 := g104.kp.trans (g107.kp.trans (g110.kp.trans (g115.kp.trans (g118.kp.trans (g122.kp.trans (g126.kp.trans g129.kp))))))
 replace h17 := h17.kp kq135
 refine ec 97 (compare_i h14 h17 (by omega) (by omega)) ?_
 rintro e133 w133 ⟨rfl, g133⟩
 refine ⟨_, rfl, ?_⟩
 replace hB := hB.trans g133
 replace L9 := L9.gr g133
 replace L20 := L20.gr g133
 replace L21 := L21.gr g133
 replace L34 := L34.gr g133
 replace L45 := L45.gr g133
 replace L52 := L52.gr g133
 refine ⟨⟨L9, L20, L21, L34, L45, L52⟩, ?_⟩
 simp only [p3, p4]
 refine ov 98 (.bool ((sgn (a.num / (a.den : Int) - -((-a).num / ((-a).den : Int))) == (0 : Int)))) ?_
 simp only [p3, p4]
 have hb136 : ((((sgn (a.num / (a.den : Int) - -((-a).num / ((-a).den : Int))) == (0 : Int))) == (((Lib.itoa ((a.den : Int))) == ([49] : List UInt8))))) = true := (lawRo4 a )
 refine ow 101 (.bool true) rfl (fun w' hS => (RunV.bool (x := (((sgn (a.num / (a.den : Int) - -((-a).num / ((-a).den : Int))) == (0 : Int))) == (((Lib.itoa ((a.den : Int))) == ([49] : List UInt8))))) (rvk (by kernel_rfl)) hb136)) ?_
 simp only [p3, p4]
 refine ov 102 (.bool true) ?_
 simp only [p3, p4]
 refine ov 2 (.bool true) ?_
 simp only [p3, p4]
 refine ord_nil ?_
 refine k54 _ _ ?_
 try clear k54 K54
 refine wp_ret ?_
 refine bodyPost_ret (v := (.bool true)) (ret_tmp rfl rfl) rfl ⟨?_, hB⟩
 exact rfl

set_option maxRecDepth 100000 in
set_option maxHeartbeats 1000000 in
theorem rounds_b (X : List UInt8) (hok : (okT (X)) = false) (w : World) (ht : Tab w) (_hm : Mx w) :
    Calls Tryz.prog 7 #[(.string ⟨(X : List UInt8).toArray⟩)] w fun e w' => e = .returned (.bool true) ∧ Gr w w' := by
 go_enter Tryz.func7, Tryz.ntmps7
 have hB := Gr.refl w
 refine wp_seq_k (fun K1 k1 => ?_)
 refine rg [0] ?_
 refine sv 2 (.bool false) ?_
 simp only [p3, p4]
 refine sq_nil ?_
 refine k1 _ _ ?_
 try clear k1 K1
 refine wp_seq_k (fun K2 k2 => ?_)
 refine wp_seq_k (fun K3 k3 => ?_)
 refine rg [0, 1, 2, 3, 4, 5, 6, 7] ?_
 refine se ?_
 refine ec 13 (known2 _ (ht.gr hB)) ?_
 rintro e4 w4 ⟨rfl, g4⟩
 refine ⟨_, rfl, ?_⟩
 replace hB := hB.trans g4
 simp only [p3, p4]
 refine sv 14 (.bool false) ?_
 simp only [p3, p4]
 refine sv 15 (.bool false) ?_
 simp only [p3, p4]
 refine sv 16 (.string ⟨(X : List UInt8).toArray⟩) ?_
 simp only [p3, p4]
 refine se ?_
 refine eff_bs 9 1 #[(.string ⟨(X : List UInt8).toArray⟩)] (some 17) rfl (fun _ => by kernel_rfl) (fun b5 w5 g5 L5 q5 => ?_)
 replace hB := hB.trans g5
 simp only [putl, p3, p4]
 refine se ?_
 refine ec 18 (right1 (X) L5) ?_
 rintro e6 w6 ⟨rfl, g6⟩
 refine ⟨_, rfl, ?_⟩
 replace hB := hB.trans g6
 simp only [p3, p4]
 refine sw 19 (.bool true) rfl (RunV.bool (x := !((okT (X)))) (rvk (by kernel_rfl)) (show (!((okT (X)))) = true by rw [hok]; rfl)) ?_
 simp only [p3, p4]
 refine sv 20 (.bool true) ?_
 simp only [p3, p4]
 refine sq_nil ?_
 refine k3 _ _ ?_
 try clear k3 K3
 refine wp_cond_true rfl ?_
 refine wp_seq_k (fun K7 k7 => ?_)
 refine rg [0, 1] ?_
 refine se ?_
 refine ec 21 (known2 _ (ht.gr hB)) ?_
 rintro e8 w8 ⟨rfl, g8⟩
 refine ⟨_, rfl, ?_⟩
 replace hB := hB.trans g8
 simp only [p3, p4]
 refine sv 2 (.bool true) ?_
 simp only [p3, p4]
 refine sq_nil ?_
 refine k7 _ _ ?_
 try clear k7 K7
 refine wp_ret ?_
 simp only [Exit.then]
 refine bodyPost_ret (v := (.bool true)) (ret_tmp rfl rfl) rfl ⟨?_, hB⟩
 exact rfl

theorem rational_rounds (X : List UInt8) (w : World) (ht : Tab w) (hm : Mx w) :
    Calls Tryz.prog 7 #[(.string ⟨(X : List UInt8).toArray⟩)] w fun e w' => e = .returned (.bool true) ∧ Gr w w' := by
  rcases Bool.eq_false_or_eq_true (okT (X)) with hok | hok
  · obtain ⟨a, rfl, ha, la⟩ := okT_rat (hok)
    exact rounds_q a ha la w ht hm
  · exact rounds_b X hok w ht hm

end Go.Proofs.YtloocadjbpgldaaGreatDoor
/- The law RationalRounds holds of every input: its row, and its card tied to the program's text. Printed by a program of the prover's. -/
namespace Go.Proofs.YtloocadjbpgldaaGreatDoor
open Go.ChangeShapes Go.WideShapes Go.ChangeAt Go.RowKit

theorem rationalRounds_table {W : World} (h : laidMetH Tryz.prog Rows.rationalRoundsRow.laid W) : Tab W :=
  Lib.tabIs_of_head (rest := _) (g := 2) (t := 171) (e := 84) (n := 20) (by kernel_rfl) (by kernel_rfl) (by kernel_rfl) (by kernel_rfl) (by kernel_rfl) (by kernel_rfl) ((show laidMet Tryz.prog Rows.rationalRoundsRow.laid W from (MakeChecks.laidMetH_plain _ _ _ (by kernel_rfl)) ▸ h).tail.tail)
theorem rationalRounds_maxlen {W : World} (h : W.ShapedOpen Tryz.prog) : Mx W :=
  Go.Proofs.cell_of_shapedOpen_int (zero := #[.int .i64 0]) (g := 3) (t := 3) h (of_decide_eq_true (by kernel_rfl)) (by kernel_rfl) rfl (by kernel_rfl) (by kernel_rfl) Tryz.underlying3
set_option maxRecDepth 100000 in
theorem rationalRounds_contract (H : Type) (enc : TypeId × Value → H) (W : World) (base : Nat) (args : Array Value) (ds gs : List (DataW H)) (before : List MemPlace)
    (hval : ∀ (j : Nat) t v, Tryz.f7.params[j]? = some t → args[j]? = some v → Value.okWide Tryz.prog W .any base t v)
    (hW : DataW.Whole enc Tryz.prog Tryz.f7.params.toList Rows.rationalRoundsSpec.vars false W args.toList ds gs before) (hL : laidMetH Tryz.prog Rows.rationalRoundsRow.laid W) (hsh : W.ShapedOpen Tryz.prog) :
    Calls Tryz.prog 7 args W fun e W' => ∃ v, e = .returned v ∧ Rows.rationalRoundsSpec.post enc Tryz.prog Tryz.f7 false true false false W args v W' := by
  have hW' := hW
  obtain ⟨p, q, hA0, hV, rfl, hfz, hnd⟩ := hW
  have hA : DataW.TrodAll enc Tryz.prog W 0 (fun _ => true) true Tryz.f7.params.toList args.toList ds p := hA0
  rw [Tryz.params7] at hA hval
  obtain ⟨v0, vs0, d0, ds0, p0, q0, hargs, rfl, rfl, h0, r0⟩ := trodAll_cons hA
  obtain ⟨rfl, rfl, rfl⟩ := trodAll_nil r0
  obtain rfl : args = #[v0] := by cases args; simp_all
  obtain ⟨rfl, rfl⟩ := trodVars_none hV
  obtain ⟨n0_0, rfl⟩ := open_text (by kernel_rfl) (hval 0 9 v0 rfl rfl)
  refine (rational_rounds n0_0 W (rationalRounds_table hL) (rationalRounds_maxlen hsh)).mono fun e W' ⟨he, hg⟩ => ?_
  subst he
  exact ⟨_, rfl, law_post (tb := 4) laidOut (by kernel_rfl) (by kernel_rfl) (by kernel_rfl) rfl hW' rfl hg⟩
noncomputable def rationalRounds_world (os : Os) : World := World.laidAll Tryz.prog os Rows.rationalRoundsRow.laid
theorem rationalRounds_met (os : Os) : laidMet Tryz.prog Rows.rationalRoundsRow.laid ((rationalRounds_world os).forCall (fun _ _ => 0) ⟨#[], #[.string ⟨#[]⟩], []⟩).memory :=
  laidMet_laidAll _ (by kernel_rfl) (by kernel_rfl)
theorem rationalRounds_reads (os : Os) {H : Type} (enc : TypeId × Value → H) : ∃ places, DataW.whole enc Tryz.prog ((rationalRounds_world os).forCall (fun _ _ => 0) ⟨#[], #[.string ⟨#[]⟩], []⟩).memory Tryz.f7.params.toList Rows.rationalRoundsSpec.vars false (#[.string ⟨#[]⟩] : Array Value).toList 8 = some ([.lit (.string [])], [], places) :=
  ⟨[], by kernel_rfl⟩
set_option maxRecDepth 100000 in
theorem rationalRounds_lifted (os : Os) (started : os.Started) (H : Type) (enc : TypeId × Value → H) (F : Stop.Interp) :
    ReturnsInHanded {} Tryz.checked os 7 .any ((OpenSpec.ofChange Rows.rationalRoundsSpec).preRow enc Tryz.prog Tryz.f7 Rows.rationalRoundsRow.domain false Rows.rationalRoundsRow.laid) (((OpenSpec.ofChange Rows.rationalRoundsSpec).at F).post enc Tryz.prog Tryz.f7 false true false false) := by
  obtain ⟨places, hx⟩ := rationalRounds_reads os enc
  refine returnsInHanded_of_row (C := Tryz.checked) (s := OpenSpec.ofChange Rows.rationalRoundsSpec) own started (by kernel_rfl) Tryz.func7
    (witness_row_sh (enc := enc) (C := Tryz.checked) false (rationalRounds_world os) #[.string ⟨#[]⟩] (World.laidAll_os _ _ _) (World.shaped_of_ZipB (by kernel_rfl) (by kernel_rfl)) (by kernel_rfl)
      (OpenSpec.preRow_of_cond 8 hx (by kernel_rfl) (fun k hk => by cases hk) (by kernel_rfl) (by rw [MakeChecks.laidMetH_plain _ _ _ (by kernel_rfl)]; exact rationalRounds_met os))) ?_
  intro W base args ds gs before hval hW _ _ _ hL hsh _
  exact rationalRounds_contract H enc W base args ds gs before hval hW hL hsh
theorem rationalRounds_said : Rows.RationalRoundsSaid :=
  OpenClaim.holds_of_cond 7 Tryz.f7 rfl rfl rfl rfl rfl rfl rfl ⟨rfl, rfl, rfl, rfl, rfl⟩ rfl rfl rfl rfl rfl (by kernel_rfl) Tryz.func7 (by kernel_rfl)
    (of_decide_eq_true (by kernel_rfl)) (by unfold Func.isWrapper; first | (rw [if_pos (by decide +kernel)]; kernel_rfl) | (rw [if_neg (by decide +kernel)]; exact ⟨rfl, rfl⟩))
    (fun os started H enc _ F => by rw [OpenClaim.pre_eq_preRow]; exact rationalRounds_lifted os started H enc F)
theorem rationalRounds_plain (f : FuncId) (fn : Func) (hf : Tryz.pinned.checked.prog.funcNamed "dowel/dowellaw02.RationalRounds" = some f) (hfn : Tryz.pinned.checked.prog.funcs[f]? = some fn) :
    true = Tryz.pinned.checked.prog.looks [] ∧ ∀ (j : Nat) t, fn.params[j]? = some t → Tryz.pinned.checked.prog.wantsStandIn t = false := by
  obtain rfl : f = 7 := Option.some.inj ((show Tryz.prog.funcNamed "dowel/dowellaw02.RationalRounds" = some 7 by kernel_rfl).symm.trans hf) |>.symm
  obtain rfl : fn = Tryz.f7 := (Option.some.inj (Tryz.func7.symm.trans hfn)).symm
  refine ⟨by kernel_rfl, fun j t ht => ?_⟩
  rw [Tryz.params7] at ht
  have hm := Array.mem_of_getElem? ht
  have hall : (#[9] : Array TypeId).toList.all (fun t => !Tryz.prog.wantsStandIn t) = true := by kernel_rfl
  have := List.all_eq_true.1 hall t (Array.mem_toList_iff.2 hm)
  have h3 : Tryz.prog.wantsStandIn t = false := by simpa using this
  exact h3
/-- the card -/
theorem rationalRounds_card : Rows.RationalRoundsCardSaid :=
  Claim7.holds_tied_plain_at .later [] _ _ _ _ rationalRounds_said (fun _ h => by cases h) (by kernel_rfl) (fun _ h => by cases h) rationalRounds_row_tie rfl ⟨rfl, rfl⟩ (by kernel_rfl) rfl rationalRounds_plain (by kernel_rfl)
end Go.Proofs.YtloocadjbpgldaaGreatDoor
