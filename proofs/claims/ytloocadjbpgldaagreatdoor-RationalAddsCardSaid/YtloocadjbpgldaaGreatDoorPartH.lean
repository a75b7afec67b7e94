/- Joined of: Gen40, RowRationalAdds. -/
import Derived.Test.YtloocadjbpgldaaGreatDoorPartG
import Derived.Test.YtloocadjbpgldaaGreatDoorCards
import Derived.Test.YtloocadjbpgldaaGreatDoorTie
/- Printed by a program of the prover's: RationalAdds. -/
namespace Go.Proofs.YtloocadjbpgldaaGreatDoor
open Go.RowKit

theorem rabs_text (a : Rat) : ((ratL ((rabs a))) == ((if decide (sgn (a).num < (0 : Int)) then ratL (-a) else ratL a))) = true := by
  rw [sgn_lt, rabs]
  by_cases h : a.num < 0
  · rw [if_pos h, if_pos (by simpa using h)]; exact text_lit rfl
  · rw [if_neg h, if_neg (by simpa using h)]; exact text_lit rfl

set_option maxRecDepth 100000 in
set_option maxHeartbeats 4000000 in
theorem adds_q (a : Rat) (ha : Sz 160 a.num ∧ Sz 160 (a.den : Int)) (la : okT (ratL (a)) = true) (b : Rat) (hb : Sz 160 b.num ∧ Sz 160 (b.den : Int)) (lb : okT (ratL (b)) = true) (w : World) (ht : Tab w) (hm : Mx w) :
    Calls Tryz.prog 6 #[(.string ⟨(ratL (a) : List UInt8).toArray⟩), (.string ⟨(ratL (b) : List UInt8).toArray⟩)] w fun e w' => e = .returned (.bool true) ∧ Gr w w' := by
 have lok : (okT (ratL (a)) && okT (ratL (b))) = true := okT_2 la lb
 go_enter Tryz.func6, Tryz.ntmps6
 have hB := Gr.refl w
 refine wp_seq_k (fun K1 k1 => ?_)
 refine rg [0] ?_
 refine sv 4 (.bool false) ?_
 simp only [p3, p4]
 refine sq_nil ?_
 refine k1 _ _ ?_
 try clear k1 K1
 refine wp_seq_k (fun K2 k2 => ?_)
 refine wp_seq_k (fun K3 k3 => ?_)
 refine rg [0, 1, 2, 3, 4, 5, 6, 7, 8] ?_
 refine se ?_
 refine ec 7 (known2 _ (ht.gr hB)) ?_
 rintro e4 w4 ⟨rfl, g4⟩
 refine ⟨_, rfl, ?_⟩
 replace hB := hB.trans g4
 simp only [p3, p4]
 refine sv 8 (.bool false) ?_
 simp only [p3, p4]
 refine sv 9 (.bool false) ?_
 simp only [p3, p4]
 refine sv 10 (.string ⟨(ratL (a) : List UInt8).toArray⟩) ?_
 simp only [p3, p4]
 refine sv 11 (.string ⟨(ratL (b) : List UInt8).toArray⟩) ?_
 simp only [p3, p4]
 refine se ?_
 refine eff_bs 9 2 #[(.string ⟨(ratL (a) : List UInt8).toArray⟩), (.string ⟨(ratL (b) : List UInt8).toArray⟩)] (some 12) rfl (fun _ => by kernel_rfl) (fun b5 w5 g5 L5 q5 => ?_)
 replace hB := hB.trans g5
 simp only [putl, p3, p4]
 refine se ?_
 refine ec 13 (right2 (ratL (a)) (ratL (b)) L5) ?_
 rintro e6 w6 ⟨rfl, g6⟩
 refine ⟨_, rfl, ?_⟩
 replace hB := hB.trans g6
 simp only [p3, p4]
 refine sw 14 (.bool false) rfl (RunV.bool (x := !((okT (ratL (a)) && okT (ratL (b))))) (rvk (by kernel_rfl)) (show (!((okT (ratL (a)) && okT (ratL (b))))) = false by rw [lok]; rfl)) ?_
 simp only [p3, p4]
 refine sv 15 (.bool false) ?_
 simp only [p3, p4]
 refine sq_nil ?_
 refine k3 _ _ ?_
 try clear k3 K3
 refine wp_cond_false rfl ?_
 refine wp_skip ?_
 refine k2 _ _ ?_
 try clear k2 K2
 refine wp_seq_k (fun K7 k7 => ?_)
 refine rg [0, 1, 2, 3, 4, 5, 6, 7] ?_
 refine sv 17 (.string ⟨(ratL (a) : List UInt8).toArray⟩) ?_
 simp only [p3, p4]
 refine se ?_
 refine ec 18 (lread_q a ha la _ (hm.gr hB)) ?_
 rintro e8 w8 ⟨⟨p8, q8, r8, s8, rfl, h8⟩, g8⟩
 refine ⟨_, rfl, ?_⟩
 replace hB := hB.trans g8
 simp only [p3, p4]
 refine sv 19 (.string ⟨(ratL (b) : List UInt8).toArray⟩) ?_
 simp only [p3, p4]
 refine se ?_
 refine ec 20 (lread_q b hb lb _ (hm.gr hB)) ?_
 rintro e9 w9 ⟨⟨p9, q9, r9, s9, rfl, h9⟩, g9⟩
 refine ⟨_, rfl, ?_⟩
 replace hB := hB.trans g9
 simp only [p3, p4]
 refine se ?_
 refine ea 31 #[(.bool false), (.slice none 0 0), (.bool false), (.slice none 0 0)] 5 hB fun b10 w10 g10 L10 o10 q10 hB => ?_
 simp only [p3, p4]
 refine se ?_
 refine ea 31 #[(.bool false), (.slice none 0 0), (.bool false), (.slice none 0 0)] 6 hB fun b11 w11 g11 L11 o11 q11 hB => ?_
 have ne10_11 := L10.ne o11
 simp only [p3, p4]
 refine se ?_
 replace L10 := L10.gr g11
 refine es 31 0 (.agg #[p8, q8, r8, s8]) [p8, q8, r8, s8] #[p8, q8, r8, s8] L10 hB q10 ⟨h8.one0, h8.one1, h8.one2, h8.one3, trivial⟩ fun w12 st12 kp12 L10 hB => ?_
 refine se ?_
 replace L11 := st12.lc L11 (Ne.symm ne10_11)
 refine es 31 0 (.agg #[p9, q9, r9, s9]) [p9, q9, r9, s9] #[p9, q9, r9, s9] L11 hB q11 ⟨h9.one0, h9.one1, h9.one2, h9.one3, trivial⟩ fun w13 st13 kp13 L11 hB => ?_
 refine sq_nil ?_
 refine k7 _ _ ?_
 try clear k7 K7
 refine wp_seq_k (fun K14 k14 => ?_)
 refine rg [0, 1, 2, 3, 4, 5, 6, 7, 8, 9, 10, 11, 12, 13, 14, 15, 16, 17, 18, 19, 20, 21, 22, 23, 24, 25, 26, 27, 28, 29, 30, 31, 32, 33, 34, 35, 36, 37, 38, 39, 40] ?_
 replace L10 := st13.lc L10 ne10_11
 refine sw 21 (.agg #[p8, q8, r8, s8]) rfl (rl 31 0 [p8, q8, r8, s8] L10) ?_
 simp only [p3, p4]
 refine sw 22 (.agg #[p9, q9, r9, s9]) rfl (rl 31 0 [p9, q9, r9, s9] L11) ?_
 simp only [p3, p4]
 refine se ?_
 have kq16 := g9.kp.trans (g10.kp.trans (g11.kp.trans (kp12.trans kp13)))
 replace h8 := h8.kp kq16
 have kq17 := g10.kp.trans (g11.kp.trans (kp12.trans kp13))
 replace h9 := h9.kp kq17
 refine ec 23 (add_r h8 h9 (by omega)) ?_
 rintro e15 w15 ⟨⟨p15, q15, r15, s15, rfl, h15⟩, g15⟩
 refine ⟨_, rfl, ?_⟩
 replace hB := hB.trans g15
 simp only [p3, p4]
 refine sv 24 (.string ⟨(ratL (a) : List UInt8).toArray⟩) ?_
 simp only [p3, p4]
 refine sv 25 (.string ⟨(ratL (b) : List UInt8).toArray⟩) ?_
 simp only [p3, p4]
 refine se ?_
 refine ec 26 (r2_add (a) (b) ha hb (by omega) _) ?_
 rintro e18 w18 ⟨rfl, g18⟩
 refine ⟨_, rfl, ?_⟩
 replace hB := hB.trans g18
 simp only [p3, p4]
 refine se ?_
 replace h15 := h15.kp g18.kp
 refine ec 27 (is_q (ratL (a + b)) h15 (by omega) (ht.gr hB)) ?_
 rintro e19 w19 ⟨rfl, g19⟩
 refine ⟨_, rfl, ?_⟩
 replace hB := hB.trans g19
 simp only [p3, p4]
 have hb20 : ((ratL ((a + b))) == (ratL (a + b))) = true := (text_lit rfl)
 refine sw 28 (.bool true) rfl (RunV.bool (x := (ratL ((a + b))) == (ratL (a + b))) (rvk (by kernel_rfl)) hb20) ?_
 simp only [p3, p4]
 replace L10 := L10.gr (g15.trans (g18.trans g19))
 refine sw 29 (.agg #[p8, q8, r8, s8]) rfl (rl 31 0 [p8, q8, r8, s8] L10) ?_
 simp only [p3, p4]
 replace L11 := L11.gr (g15.trans (g18.trans g19))
 refine sw 30 (.agg #[p9, q9, r9, s9]) rfl (rl 31 0 [p9, q9, r9, s9] L11) ?_
 simp only [p3, p4]
 refine se ?_
 have kq22 := g15.kp.trans (g18.kp.trans g19.kp)
 replace h8 := h8.kp kq22
 replace h9 := h9.kp kq22
 refine ec 31 (sub_r h8 h9 (by omega)) ?_
 rintro e21 w21 ⟨⟨p21, q21, r21, s21, rfl, h21⟩, g21⟩
 refine ⟨_, rfl, ?_⟩
 replace hB := hB.trans g21
 simp only [p3, p4]
 refine sv 32 (.string ⟨(ratL (a) : List UInt8).toArray⟩) ?_
 simp only [p3, p4]
 refine sv 33 (.string ⟨(ratL (b) : List UInt8).toArray⟩) ?_
 simp only [p3, p4]
 refine se ?_
 refine ec 34 (r2_sub (a) (b) ha hb (by omega) _) ?_
 rintro e23 w23 ⟨rfl, g23⟩
 refine ⟨_, rfl, ?_⟩
 replace hB := hB.trans g23
 simp only [p3, p4]
 refine se ?_
 replace h21 := h21.kp g23.kp
 refine ec 35 (is_q (ratL (a - b)) h21 (by omega) (ht.gr hB)) ?_
 rintro e24 w24 ⟨rfl, g24⟩
 refine ⟨_, rfl, ?_⟩
 replace hB := hB.trans g24
 simp only [p3, p4]
 have hb25 : ((ratL ((a - b))) == (ratL (a - b))) = true := (text_lit rfl)
 refine sw 36 (.bool true) rfl (RunV.bool (x := (ratL ((a - b))) == (ratL (a - b))) (rvk (by kernel_rfl)) hb25) ?_
 simp only [p3, p4]
 refine sv 37 (.bool true) ?_
 simp only [p3, p4]
 replace L10 := L10.gr (g21.trans (g23.trans g24))
 refine sw 38 (.agg #[p8, q8, r8, s8]) rfl (rl 31 0 [p8, q8, r8, s8] L10) ?_
 simp only [p3, p4]
 refine se ?_
 have kq27 := g21.kp.trans (g23.kp.trans g24.kp)
 replace h8 := h8.kp kq27
 refine ec 39 (neg_r h8 ) ?_
 rintro e26 w26 ⟨⟨p26, q26, r26, s26, rfl, h26⟩, g26⟩
 refine ⟨_, rfl, ?_⟩
 replace hB := hB.trans g26
 simp only [p3, p4]
 refine sv 40 (.string ⟨(ratL (a) : List UInt8).toArray⟩) ?_
 simp only [p3, p4]
 refine se ?_
 refine ec 41 (r2_neg (a) ha (by omega) _) ?_
 rintro e28 w28 ⟨rfl, g28⟩
 refine ⟨_, rfl, ?_⟩
 replace hB := hB.trans g28
 simp only [p3, p4]
 refine se ?_
 replace h26 := h26.kp g28.kp
 refine ec 42 (is_q (ratL (-a)) h26 (by omega) (ht.gr hB)) ?_
 rintro e29 w29 ⟨rfl, g29⟩
 refine ⟨_, rfl, ?_⟩
 replace hB := hB.trans g29
 simp only [p3, p4]
 have hb30 : ((ratL ((-a))) == (ratL (-a))) = true := (text_lit rfl)
 refine sw 43 (.bool true) rfl (RunV.bool (x := (ratL ((-a))) == (ratL (-a))) (rvk (by kernel_rfl)) hb30) ?_
 simp only [p3, p4]
 refine sv 44 (.bool true) ?_
 simp only [p3, p4]
 replace L10 := L10.gr (g26.trans (g28.trans g29))
 refine sw 45 (.agg #[p8, q8, r8, s8]) rfl (rl 31 0 [p8, q8, r8, s8] L10) ?_
 simp only [p3, p4]
 refine se ?_
 have kq32 := g26.kp.trans (g28.kp.trans g29.kp)
 replace h8 := h8.kp kq32
 refine ec 46 (abs_r h8 (by omega)) ?_
 rintro e31 w31 ⟨⟨p31, q31, r31, s31, rfl, h31⟩, g31⟩
 refine ⟨_, rfl, ?_⟩
 replace hB := hB.trans g31
 simp only [p3, p4]
 refine sv 47 (.string ⟨(ratL (a) : List UInt8).toArray⟩) ?_
 simp only [p3, p4]
 refine se ?_
 refine ec 48 (r2_abs (a) ha (by omega) _) ?_
 rintro e33 w33 ⟨rfl, g33⟩
 refine ⟨_, rfl, ?_⟩
 replace hB := hB.trans g33
 simp only [p3, p4]
 refine se ?_
 replace h31 := h31.kp g33.kp
 refine ec 49 (is_q ((if decide (sgn (a).num < (0 : Int)) then ratL (-a) else ratL a)) h31 (by omega) (ht.gr hB)) ?_
 rintro e34 w34 ⟨rfl, g34⟩
 refine ⟨_, rfl, ?_⟩
 replace hB := hB.trans g34
 simp only [p3, p4]
 have hb35 : ((ratL ((rabs a))) == ((if decide (sgn (a).num < (0 : Int)) then ratL (-a) else ratL a))) = true := (rabs_text a)
 refine sw 50 (.bool true) rfl (RunV.bool (x := (ratL ((rabs a))) == ((if decide (sgn (a).num < (0 : Int)) then ratL (-a) else ratL a))) (rvk (by kernel_rfl)) hb35) ?_
 simp only [p3, p4]
 refine sv 51 (.bool true) ?_
 simp only [p3, p4]
 replace L10 := L10.gr (g31.trans (g33.trans g34))
 refine sw 52 (.agg #[p8, q8, r8, s8]) rfl (rl 31 0 [p8, q8, r8, s8] L10) ?_
 simp only [p3, p4]
 refine sv 53 (.string ⟨(ratL (a) : List UInt8).toArray⟩) ?_
 simp only [p3, p4]
 refine se ?_
 have kq37 := g31.kp.trans (g33.kp.trans g34.kp)
 replace h8 := h8.kp kq37
 refine ec 54 (is_q (ratL (a)) h8 (by omega) (ht.gr hB)) ?_
 rintro e36 w36 ⟨rfl, g36⟩
 refine ⟨_, rfl, ?_⟩
 replace hB := hB.trans g36
 simp only [p3, p4]
 have hb38 : ((ratL (a)) == (ratL (a))) = true := (text_lit rfl)
 refine sw 55 (.bool true) rfl (RunV.bool (x := (ratL (a)) == (ratL (a))) (rvk (by kernel_rfl)) hb38) ?_
 simp only [p3, p4]
 refine sv 56 (.bool true) ?_
 simp only [p3, p4]
 replace L11 := L11.gr (g21.trans (g23.trans (g24.trans (g26.trans (g28.trans (g29.trans (g31.trans (g33.trans (g34.trans g36)))))))))
 refine sw 57 (.agg #[p9, q9, r9, s9]) rfl (rl 31 0 [p9, q9, r9, s9] L11) ?_
 simp only [p3, p4]
 refine sv 58 (.string ⟨(ratL (b) : List UInt8).toArray⟩) ?_
 simp only [p3, p4]
 refine se ?_
 have kq40 := g21.kp.trans (g23.kp.trans (g24.kp.trans (g26.kp.trans (g28.kp.trans (g29.kp.trans (g31.kp.trans (g33.kp.trans (g34.kp.trans g36.kp))))))))
 replace h9 := h9.kp kq40
 refine ec 59 (is_q (ratL (b)) h9 (by omega) (ht.gr hB)) ?_
 rintro e39 w39 ⟨rfl, g39⟩
 refine ⟨_, rfl, ?_⟩
 replace hB := hB.trans g39
 simp only [p3, p4]
 have hb41 : ((ratL (b)) == (ratL (b))) = true := (text_lit rfl)
 refine sw 60 (.bool true) rfl (RunV.bool (x := (ratL (b)) == (ratL (b))) (rvk (by kernel_rfl)) hb41) ?_
 simp only [p3, p4]
 refine sv 4 (.bool true) ?_
 simp only [p3, p4]
 refine sq_nil ?_
 refine k14 _ _ ?_
 try clear k14 K14
 refine wp_ret ?_
 refine bodyPost_ret (v := (.bool true)) (ret_tmp rfl rfl) rfl ⟨?_, hB⟩
 exact rfl

set_option maxRecDepth 100000 in
set_option maxHeartbeats 1000000 in
theorem adds_b (X Y : List UInt8) (hok : (okT (X) && okT (Y)) = false) (w : World) (ht : Tab w) (_hm : Mx w) :
    Calls Tryz.prog 6 #[(.string ⟨(X : List UInt8).toArray⟩), (.string ⟨(Y : List UInt8).toArray⟩)] w fun e w' => e = .returned (.bool true) ∧ Gr w w' := by
 go_enter Tryz.func6, Tryz.ntmps6
 have hB := Gr.refl w
 refine wp_seq_k (fun K1 k1 => ?_)
 refine rg [0] ?_
 refine sv 4 (.bool false) ?_
 simp only [p3, p4]
 refine sq_nil ?_
 refine k1 _ _ ?_
 try clear k1 K1
 refine wp_seq_k (fun K2 k2 => ?_)
 refine wp_seq_k (fun K3 k3 => ?_)
 refine rg [0, 1, 2, 3, 4, 5, 6, 7, 8] ?_
 refine se ?_
 refine ec 7 (known2 _ (ht.gr hB)) ?_
 rintro e4 w4 ⟨rfl, g4⟩
 refine ⟨_, rfl, ?_⟩
 replace hB := hB.trans g4
 simp only [p3, p4]
 refine sv 8 (.bool false) ?_
 simp only [p3, p4]
 refine sv 9 (.bool false) ?_
 simp only [p3, p4]
 refine sv 10 (.string ⟨(X : List UInt8).toArray⟩) ?_
 simp only [p3, p4]
 refine sv 11 (.string ⟨(Y : List UInt8).toArray⟩) ?_
 simp only [p3, p4]
 refine se ?_
 refine eff_bs 9 2 #[(.string ⟨(X : List UInt8).toArray⟩), (.string ⟨(Y : List UInt8).toArray⟩)] (some 12) rfl (fun _ => by kernel_rfl) (fun b5 w5 g5 L5 q5 => ?_)
 replace hB := hB.trans g5
 simp only [putl, p3, p4]
 refine se ?_
 refine ec 13 (right2 (X) (Y) L5) ?_
 rintro e6 w6 ⟨rfl, g6⟩
 refine ⟨_, rfl, ?_⟩
 replace hB := hB.trans g6
 simp only [p3, p4]
 refine sw 14 (.bool true) rfl (RunV.bool (x := !((okT (X) && okT (Y)))) (rvk (by kernel_rfl)) (show (!((okT (X) && okT (Y)))) = true by rw [hok]; rfl)) ?_
 simp only [p3, p4]
 refine sv 15 (.bool true) ?_
 simp only [p3, p4]
 refine sq_nil ?_
 refine k3 _ _ ?_
 try clear k3 K3
 refine wp_cond_true rfl ?_
 refine wp_seq_k (fun K7 k7 => ?_)
 refine rg [0, 1] ?_
 refine se ?_
 refine ec 16 (known2 _ (ht.gr hB)) ?_
 rintro e8 w8 ⟨rfl, g8⟩
 refine ⟨_, rfl, ?_⟩
 replace hB := hB.trans g8
 simp only [p3, p4]
 refine sv 4 (.bool true) ?_
 simp only [p3, p4]
 refine sq_nil ?_
 refine k7 _ _ ?_
 try clear k7 K7
 refine wp_ret ?_
 simp only [Exit.then]
 refine bodyPost_ret (v := (.bool true)) (ret_tmp rfl rfl) rfl ⟨?_, hB⟩
 exact rfl

theorem rational_adds (X Y : List UInt8) (w : World) (ht : Tab w) (hm : Mx w) :
    Calls Tryz.prog 6 #[(.string ⟨(X : List UInt8).toArray⟩), (.string ⟨(Y : List UInt8).toArray⟩)] w fun e w' => e = .returned (.bool true) ∧ Gr w w' := by
  rcases Bool.eq_false_or_eq_true (okT (X) && okT (Y)) with hok | hok
  · obtain ⟨a, rfl, ha, la⟩ := okT_rat (ok2_0 hok)
    obtain ⟨b, rfl, hb, lb⟩ := okT_rat (ok2_1 hok)
    exact adds_q a ha la b hb lb w ht hm
  · exact adds_b X Y hok w ht hm

end Go.Proofs.YtloocadjbpgldaaGreatDoor
/- The law RationalAdds holds of every input: its row, and its card tied to the program's text. Printed by a program of the prover's. -/
namespace Go.Proofs.YtloocadjbpgldaaGreatDoor
open Go.ChangeShapes Go.WideShapes Go.ChangeAt Go.RowKit

theorem rationalAdds_table {W : World} (h : laidMetH Tryz.prog Rows.rationalAddsRow.laid W) : Tab W :=
  Lib.tabIs_of_head (rest := _) (g := 2) (t := 171) (e := 84) (n := 20) (by kernel_rfl) (by kernel_rfl) (by kernel_rfl) (by kernel_rfl) (by kernel_rfl) (by kernel_rfl) ((show laidMet Tryz.prog Rows.rationalAddsRow.laid W from (MakeChecks.laidMetH_plain _ _ _ (by kernel_rfl)) ▸ h).tail.tail)
theorem rationalAdds_maxlen {W : World} (h : W.ShapedOpen Tryz.prog) : Mx W :=
  Go.Proofs.cell_of_shapedOpen_int (zero := #[.int .i64 0]) (g := 3) (t := 3) h (of_decide_eq_true (by kernel_rfl)) (by kernel_rfl) rfl (by kernel_rfl) (by kernel_rfl) Tryz.underlying3
set_option maxRecDepth 100000 in
theorem rationalAdds_contract (H : Type) (enc : TypeId × Value → H) (W : World) (base : Nat) (args : Array Value) (ds gs : List (DataW H)) (before : List MemPlace)
    (hval : ∀ (j : Nat) t v, Tryz.f6.params[j]? = some t → args[j]? = some v → Value.okWide Tryz.prog W .any base t v)
    (hW : DataW.Whole enc Tryz.prog Tryz.f6.params.toList Rows.rationalAddsSpec.vars false W args.toList ds gs before) (hL : laidMetH Tryz.prog Rows.rationalAddsRow.laid W) (hsh : W.ShapedOpen Tryz.prog) :
    Calls Tryz.prog 6 args W fun e W' => ∃ v, e = .returned v ∧ Rows.rationalAddsSpec.post enc Tryz.prog Tryz.f6 false true false false W args v W' := by
  have hW' := hW
  obtain ⟨p, q, hA0, hV, rfl, hfz, hnd⟩ := hW
  have hA : DataW.TrodAll enc Tryz.prog W 0 (fun _ => true) true Tryz.f6.params.toList args.toList ds p := hA0
  rw [Tryz.params6] at hA hval
  obtain ⟨v0, vs0, d0, ds0, p0, q0, hargs, rfl, rfl, h0, r0⟩ := trodAll_cons hA
  obtain ⟨v1, vs1, d1, ds1, p1, q1, rfl, rfl, rfl, h1, r1⟩ := trodAll_cons r0
  obtain ⟨rfl, rfl, rfl⟩ := trodAll_nil r1
  obtain rfl : args = #[v0, v1] := by cases args; simp_all
  obtain ⟨rfl, rfl⟩ := trodVars_none hV
  obtain ⟨n0_0, rfl⟩ := open_text (by kernel_rfl) (hval 0 9 v0 rfl rfl)
  obtain ⟨n1_0, rfl⟩ := open_text (by kernel_rfl) (hval 1 9 v1 rfl rfl)
  refine (rational_adds n0_0 n1_0 W (rationalAdds_table hL) (rationalAdds_maxlen hsh)).mono fun e W' ⟨he, hg⟩ => ?_
  subst he
  exact ⟨_, rfl, law_post (tb := 4) laidOut (by kernel_rfl) (by kernel_rfl) (by kernel_rfl) rfl hW' rfl hg⟩
noncomputable def rationalAdds_world (os : Os) : World := World.laidAll Tryz.prog os Rows.rationalAddsRow.laid
theorem rationalAdds_met (os : Os) : laidMet Tryz.prog Rows.rationalAddsRow.laid ((rationalAdds_world os).forCall (fun _ _ => 0) ⟨#[], #[.string ⟨#[]⟩, .string ⟨#[]⟩], []⟩).memory :=
  laidMet_laidAll _ (by kernel_rfl) (by kernel_rfl)
theorem rationalAdds_reads (os : Os) {H : Type} (enc : TypeId × Value → H) : ∃ places, DataW.whole enc Tryz.prog ((rationalAdds_world os).forCall (fun _ _ => 0) ⟨#[], #[.string ⟨#[]⟩, .string ⟨#[]⟩], []⟩).memory Tryz.f6.params.toList Rows.rationalAddsSpec.vars false (#[.string ⟨#[]⟩, .string ⟨#[]⟩] : Array Value).toList 8 = some ([.lit (.string []), .lit (.string [])], [], places) :=
  ⟨[], by kernel_rfl⟩
set_option maxRecDepth 100000 in
theorem rationalAdds_lifted (os : Os) (started : os.Started) (H : Type) (enc : TypeId × Value → H) (F : Stop.Interp) :
    ReturnsInHanded {} Tryz.checked os 6 .any ((OpenSpec.ofChange Rows.rationalAddsSpec).preRow enc Tryz.prog Tryz.f6 Rows.rationalAddsRow.domain false Rows.rationalAddsRow.laid) (((OpenSpec.ofChange Rows.rationalAddsSpec).at F).post enc Tryz.prog Tryz.f6 false true false false) := by
  obtain ⟨places, hx⟩ := rationalAdds_reads os enc
  refine returnsInHanded_of_row (C := Tryz.checked) (s := OpenSpec.ofChange Rows.rationalAddsSpec) own started (by kernel_rfl) Tryz.func6
    (witness_row_sh (enc := enc) (C := Tryz.checked) false (rationalAdds_world os) #[.string ⟨#[]⟩, .string ⟨#[]⟩] (World.laidAll_os _ _ _) (World.shaped_of_ZipB (by kernel_rfl) (by kernel_rfl)) (by kernel_rfl)
      (OpenSpec.preRow_of_cond 8 hx (by kernel_rfl) (fun k hk => by cases hk) (by kernel_rfl) (by rw [MakeChecks.laidMetH_plain _ _ _ (by kernel_rfl)]; exact rationalAdds_met os))) ?_
  intro W base args ds gs before hval hW _ _ _ hL hsh _
  exact rationalAdds_contract H enc W base args ds gs before hval hW hL hsh
theorem rationalAdds_said : Rows.RationalAddsSaid :=
  OpenClaim.holds_of_cond 6 Tryz.f6 rfl rfl rfl rfl rfl rfl rfl ⟨rfl, rfl, rfl, rfl, rfl⟩ rfl rfl rfl rfl rfl (by kernel_rfl) Tryz.func6 (by kernel_rfl)
    (of_decide_eq_true (by kernel_rfl)) (by unfold Func.isWrapper; first | (rw [if_pos (by decide +kernel)]; kernel_rfl) | (rw [if_neg (by decide +kernel)]; exact ⟨rfl, rfl⟩))
    (fun os started H enc _ F => by rw [OpenClaim.pre_eq_preRow]; exact rationalAdds_lifted os started H enc F)
theorem rationalAdds_plain (f : FuncId) (fn : Func) (hf : Tryz.pinned.checked.prog.funcNamed "dowel/dowellaw02.RationalAdds" = some f) (hfn : Tryz.pinned.checked.prog.funcs[f]? = some fn) :
    true = Tryz.pinned.checked.prog.looks [] ∧ ∀ (j : Nat) t, fn.params[j]? = some t → Tryz.pinned.checked.prog.wantsStandIn t = false := by
  obtain rfl : f = 6 := Option.some.inj ((show Tryz.prog.funcNamed "dowel/dowellaw02.RationalAdds" = some 6 by kernel_rfl).symm.trans hf) |>.symm
  obtain rfl : fn = Tryz.f6 := (Option.some.inj (Tryz.func6.symm.trans hfn)).symm
  refine ⟨by kernel_rfl, fun j t ht => ?_⟩
  rw [Tryz.params6] at ht
  have hm := Array.mem_of_getElem? ht
  have hall : (#[9, 9] : Array TypeId).toList.all (fun t => !Tryz.prog.wantsStandIn t) = true := by kernel_rfl
  have := List.all_eq_true.1 hall t (Array.mem_toList_iff.2 hm)
  have h3 : Tryz.prog.wantsStandIn t = false := by simpa using this
  exact h3
/-- the card -/
theorem rationalAdds_card : Rows.RationalAddsCardSaid :=
  Claim7.holds_tied_plain_at .later [] _ _ _ _ rationalAdds_said (fun _ h => by cases h) (by kernel_rfl) (fun _ h => by cases h) rationalAdds_row_tie rfl ⟨rfl, rfl⟩ (by kernel_rfl) rfl rationalAdds_plain (by kernel_rfl)
end Go.Proofs.YtloocadjbpgldaaGreatDoor
