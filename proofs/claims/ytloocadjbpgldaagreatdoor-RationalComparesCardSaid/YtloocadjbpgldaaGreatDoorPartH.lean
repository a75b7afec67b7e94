/- Joined of: Gen42, RowRationalCompares. -/
import Derived.Test.YtloocadjbpgldaaGreatDoorPartG
import Derived.Test.YtloocadjbpgldaaGreatDoorCards
import Derived.Test.YtloocadjbpgldaaGreatDoorTie
/- Printed by a program of the prover's: RationalCompares. -/
namespace Go.Proofs.YtloocadjbpgldaaGreatDoor
open Go.RowKit

set_option maxRecDepth 100000 in
set_option maxHeartbeats 4000000 in
theorem compares_q (a : Rat) (ha : Sz 160 a.num ∧ Sz 160 (a.den : Int)) (la : okT (ratL (a)) = true) (b : Rat) (hb : Sz 160 b.num ∧ Sz 160 (b.den : Int)) (lb : okT (ratL (b)) = true) (w : World) (ht : Tab w) (hm : Mx w) :
    Calls Tryz.prog 9 #[(.string ⟨(ratL (a) : List UInt8).toArray⟩), (.string ⟨(ratL (b) : List UInt8).toArray⟩)] w fun e w' => e = .returned (.bool true) ∧ Gr w w' := by
 have lok : (okT (ratL (a)) && okT (ratL (b))) = true := okT_2 la lb
 go_enter Tryz.func9, Tryz.ntmps9
 have hB := Gr.refl w
 refine wp_seq_k (fun K1 k1 => ?_)
 refine rg [0] ?_
 refine sv 4 (.bool false) ?_
 simp only [p3, p4]
 refine sq_nil ?_
 refine k1 _ _ ?_
 try clear k1 K1
 refine wp_seq_k (fun K2 k2 => ?_)
 refine wp_seq_k (fun K3 k3 => ?_)
 refine rg [0, 1, 2, 3, 4, 5, 6, 7, 8] ?_
 refine se ?_
 refine ec 7 (known2 _ (ht.gr hB)) ?_
 rintro e4 w4 ⟨rfl, g4⟩
 refine ⟨_, rfl, ?_⟩
 replace hB := hB.trans g4
 simp only [p3, p4]
 refine sv 8 (.bool false) ?_
 simp only [p3, p4]
 refine sv 9 (.bool false) ?_
 simp only [p3, p4]
 refine sv 10 (.string ⟨(ratL (a) : List UInt8).toArray⟩) ?_
 simp only [p3, p4]
 refine sv 11 (.string ⟨(ratL (b) : List UInt8).toArray⟩) ?_
 simp only [p3, p4]
 refine se ?_
 refine eff_bs 9 2 #[(.string ⟨(ratL (a) : List UInt8).toArray⟩), (.string ⟨(ratL (b) : List UInt8).toArray⟩)] (some 12) rfl (fun _ => by kernel_rfl) (fun b5 w5 g5 L5 q5 => ?_)
 replace hB := hB.trans g5
 simp only [putl, p3, p4]
 refine se ?_
 refine ec 13 (right2 (ratL (a)) (ratL (b)) L5) ?_
 rintro e6 w6 ⟨rfl, g6⟩
 refine ⟨_, rfl, ?_⟩
 replace hB := hB.trans g6
 simp only [p3, p4]
 refine sw 14 (.bool false) rfl (RunV.bool (x := !((okT (ratL (a)) && okT (ratL (b))))) (rvk (by kernel_rfl)) (show (!((okT (ratL (a)) && okT (ratL (b))))) = false by rw [lok]; rfl)) ?_
 simp only [p3, p4]
 refine sv 15 (.bool false) ?_
 simp only [p3, p4]
 refine sq_nil ?_
 refine k3 _ _ ?_
 try clear k3 K3
 refine wp_cond_false rfl ?_
 refine wp_skip ?_
 refine k2 _ _ ?_
 try clear k2 K2
 refine wp_seq_k (fun K7 k7 => ?_)
 refine rg [0, 1, 2, 3, 4, 5, 6, 7] ?_
 refine sv 17 (.string ⟨(ratL (a) : List UInt8).toArray⟩) ?_
 simp only [p3, p4]
 refine se ?_
 refine ec 18 (lread_q a ha la _ (hm.gr hB)) ?_
 rintro e8 w8 ⟨⟨p8, q8, r8, s8, rfl, h8⟩, g8⟩
 refine ⟨_, rfl, ?_⟩
 replace hB := hB.trans g8
 simp only [p3, p4]
 refine sv 19 (.string ⟨(ratL (b) : List UInt8).toArray⟩) ?_
 simp only [p3, p4]
 refine se ?_
 refine ec 20 (lread_q b hb lb _ (hm.gr hB)) ?_
 rintro e9 w9 ⟨⟨p9, q9, r9, s9, rfl, h9⟩, g9⟩
 refine ⟨_, rfl, ?_⟩
 replace hB := hB.trans g9
 simp only [p3, p4]
 refine se ?_
 refine ea 31 #[(.bool false), (.slice none 0 0), (.bool false), (.slice none 0 0)] 5 hB fun b10 w10 g10 L10 o10 q10 hB => ?_
 simp only [p3, p4]
 refine se ?_
 refine ea 31 #[(.bool false), (.slice none 0 0), (.bool false), (.slice none 0 0)] 6 hB fun b11 w11 g11 L11 o11 q11 hB => ?_
 have ne10_11 := L10.ne o11
 simp only [p3, p4]
 refine se ?_
 replace L10 := L10.gr g11
 refine es 31 0 (.agg #[p8, q8, r8, s8]) [p8, q8, r8, s8] #[p8, q8, r8, s8] L10 hB q10 ⟨h8.one0, h8.one1, h8.one2, h8.one3, trivial⟩ fun w12 st12 kp12 L10 hB => ?_
 refine se ?_
 replace L11 := st12.lc L11 (Ne.symm ne10_11)
 refine es 31 0 (.agg #[p9, q9, r9, s9]) [p9, q9, r9, s9] #[p9, q9, r9, s9] L11 hB q11 ⟨h9.one0, h9.one1, h9.one2, h9.one3, trivial⟩ fun w13 st13 kp13 L11 hB => ?_
 refine sq_nil ?_
 refine k7 _ _ ?_
 try clear k7 K7
 refine wp_seq_k (fun K14 k14 => ?_)
 refine rg [0, 1, 2, 3, 4, 5, 6, 7, 8, 9, 10, 11, 12, 13, 14, 15, 16, 17, 18, 19, 20, 21, 22, 23, 24, 25, 26, 27, 28, 29, 30, 31, 32, 33, 34, 35, 36, 37, 38, 39, 40] ?_
 replace L10 := st13.lc L10 ne10_11
 refine sw 21 (.agg #[p8, q8, r8, s8]) rfl (rl 31 0 [p8, q8, r8, s8] L10) ?_
 simp only [p3, p4]
 refine sw 22 (.agg #[p9, q9, r9, s9]) rfl (rl 31 0 [p9, q9, r9, s9] L11) ?_
 simp only [p3, p4]
 refine se ?_
 have kq16 := g9.kp.trans (g10.kp.trans (g11.kp.trans (kp12.trans kp13)))
 replace h8 := h8.kp kq16
 have kq17 := g10.kp.trans (g11.kp.trans (kp12.trans kp13))
 replace h9 := h9.kp kq17
 refine ec 23 (compare_r h8 h9 (by omega)) ?_
 rintro e15 w15 ⟨rfl, g15⟩
 refine ⟨_, rfl, ?_⟩
 replace hB := hB.trans g15
 simp only [p3, p4]
 refine sv 24 (.string ⟨(ratL (a) : List UInt8).toArray⟩) ?_
 simp only [p3, p4]
 refine sv 25 (.string ⟨(ratL (b) : List UInt8).toArray⟩) ?_
 simp only [p3, p4]
 refine se ?_
 refine ec 26 (r2_compare (a) (b) ha hb (by omega) _) ?_
 rintro e18 w18 ⟨rfl, g18⟩
 refine ⟨_, rfl, ?_⟩
 replace hB := hB.trans g18
 simp only [p3, p4]
 have hb19 : ((rcmp (a) (b) == rcmp (a) (b))) = true := (beq_self_eq_true (rcmp (a) (b)))
 refine sw 27 (.bool true) rfl (RunV.bool (x := (rcmp (a) (b) == rcmp (a) (b))) (rvk (by kernel_rfl)) hb19) ?_
 simp only [p3, p4]
 refine sv 28 (.bool true) ?_
 simp only [p3, p4]
 replace L11 := L11.gr (g15.trans g18)
 refine sw 29 (.agg #[p9, q9, r9, s9]) rfl (rl 31 0 [p9, q9, r9, s9] L11) ?_
 simp only [p3, p4]
 replace L10 := L10.gr (g15.trans g18)
 refine sw 30 (.agg #[p8, q8, r8, s8]) rfl (rl 31 0 [p8, q8, r8, s8] L10) ?_
 simp only [p3, p4]
 refine se ?_
 have kq21 := g15.kp.trans g18.kp
 replace h9 := h9.kp kq21
 replace h8 := h8.kp kq21
 refine ec 31 (compare_r h9 h8 (by omega)) ?_
 rintro e20 w20 ⟨rfl, g20⟩
 refine ⟨_, rfl, ?_⟩
 replace hB := hB.trans g20
 simp only [p3, p4]
 refine sv 32 (.string ⟨(ratL (b) : List UInt8).toArray⟩) ?_
 simp only [p3, p4]
 refine sv 33 (.string ⟨(ratL (a) : List UInt8).toArray⟩) ?_
 simp only [p3, p4]
 refine se ?_
 refine ec 34 (r2_compare (b) (a) hb ha (by omega) _) ?_
 rintro e22 w22 ⟨rfl, g22⟩
 refine ⟨_, rfl, ?_⟩
 replace hB := hB.trans g22
 simp only [p3, p4]
 have hb23 : ((rcmp (b) (a) == rcmp (b) (a))) = true := (beq_self_eq_true (rcmp (b) (a)))
 refine sw 35 (.bool true) rfl (RunV.bool (x := (rcmp (b) (a) == rcmp (b) (a))) (rvk (by kernel_rfl)) hb23) ?_
 simp only [p3, p4]
 refine sv 36 (.bool true) ?_
 simp only [p3, p4]
 refine sv 37 (.bool true) ?_
 simp only [p3, p4]
 replace L10 := L10.gr (g20.trans g22)
 refine sw 38 (.agg #[p8, q8, r8, s8]) rfl (rl 31 0 [p8, q8, r8, s8] L10) ?_
 simp only [p3, p4]
 refine sw 39 (.agg #[p8, q8, r8, s8]) rfl (rl 31 0 [p8, q8, r8, s8] L10) ?_
 simp only [p3, p4]
 refine se ?_
 have kq25 := g20.kp.trans g22.kp
 replace h8 := h8.kp kq25
 refine ec 40 (compare_r h8 h8 (by omega)) ?_
 rintro e24 w24 ⟨rfl, g24⟩
 refine ⟨_, rfl, ?_⟩
 replace hB := hB.trans g24
 simp only [p3, p4]
 have hb26 : ((rcmp (a) (a) == (0 : Int))) = true := (beq_iff_eq.2 (rcmp_zero.2 (rfl : a = a)))
 refine sw 41 (.bool true) rfl (RunV.bool (x := (rcmp (a) (a) == (0 : Int))) (rvk (by kernel_rfl)) hb26) ?_
 simp only [p3, p4]
 refine sv 42 (.bool true) ?_
 simp only [p3, p4]
 refine sv 43 (.bool true) ?_
 simp only [p3, p4]
 replace L10 := L10.gr g24
 refine sw 44 (.agg #[p8, q8, r8, s8]) rfl (rl 31 0 [p8, q8, r8, s8] L10) ?_
 simp only [p3, p4]
 replace L11 := L11.gr (g20.trans (g22.trans g24))
 refine sw 45 (.agg #[p9, q9, r9, s9]) rfl (rl 31 0 [p9, q9, r9, s9] L11) ?_
 simp only [p3, p4]
 refine se ?_
 replace h8 := h8.kp g24.kp
 have kq28 := g20.kp.trans (g22.kp.trans g24.kp)
 replace h9 := h9.kp kq28
 refine ec 46 (min_r h8 h9 (by omega)) ?_
 rintro e27 w27 ⟨⟨p27, q27, r27, s27, rfl, h27⟩, g27⟩
 refine ⟨_, rfl, ?_⟩
 replace hB := hB.trans g27
 simp only [p3, p4]
 refine sv 47 (.string ⟨(ratL (a) : List UInt8).toArray⟩) ?_
 simp only [p3, p4]
 refine sv 48 (.string ⟨(ratL (b) : List UInt8).toArray⟩) ?_
 simp only [p3, p4]
 refine se ?_
 refine ec 49 (r2_least (a) (b) ha hb (by omega) _) ?_
 rintro e29 w29 ⟨rfl, g29⟩
 refine ⟨_, rfl, ?_⟩
 replace hB := hB.trans g29
 simp only [p3, p4]
 refine se ?_
 replace h27 := h27.kp g29.kp
 refine ec 50 (is_q ((if decide (rcmp (a) (b) ≤ (0 : Int)) then ratL a else ratL b)) h27 (by omega) (ht.gr hB)) ?_
 rintro e30 w30 ⟨rfl, g30⟩
 refine ⟨_, rfl, ?_⟩
 replace hB := hB.trans g30
 simp only [p3, p4]
 have hb31 : ((ratL ((if decide (rcmp b a < (0 : Int)) = true then b else a))) == ((if decide (rcmp (a) (b) ≤ (0 : Int)) then ratL a else ratL b))) = true := (least_text a b)
 refine sw 51 (.bool true) rfl (RunV.bool (x := (ratL ((if decide (rcmp b a < (0 : Int)) = true then b else a))) == ((if decide (rcmp (a) (b) ≤ (0 : Int)) then ratL a else ratL b))) (rvk (by kernel_rfl)) hb31) ?_
 simp only [p3, p4]
 refine sv 52 (.bool true) ?_
 simp only [p3, p4]
 replace L10 := L10.gr (g27.trans (g29.trans g30))
 refine sw 53 (.agg #[p8, q8, r8, s8]) rfl (rl 31 0 [p8, q8, r8, s8] L10) ?_
 simp only [p3, p4]
 replace L11 := L11.gr (g27.trans (g29.trans g30))
 refine sw 54 (.agg #[p9, q9, r9, s9]) rfl (rl 31 0 [p9, q9, r9, s9] L11) ?_
 simp only [p3, p4]
 refine se ?_
 have kq33 := g27.kp.trans (g29.kp.trans g30.kp)
 replace h8 := h8.kp kq33
 replace h9 := h9.kp kq33
 refine ec 55 (max_r h8 h9 (by omega)) ?_
 rintro e32 w32 ⟨⟨p32, q32, r32, s32, rfl, h32⟩, g32⟩
 refine ⟨_, rfl, ?_⟩
 replace hB := hB.trans g32
 simp only [p3, p4]
 refine sv 56 (.string ⟨(ratL (a) : List UInt8).toArray⟩) ?_
 simp only [p3, p4]
 refine sv 57 (.string ⟨(ratL (b) : List UInt8).toArray⟩) ?_
 simp only [p3, p4]
 refine se ?_
 refine ec 58 (r2_most (a) (b) ha hb (by omega) _) ?_
 rintro e34 w34 ⟨rfl, g34⟩
 refine ⟨_, rfl, ?_⟩
 replace hB := hB.trans g34
 simp only [p3, p4]
 refine se ?_
 replace h32 := h32.kp g34.kp
 refine ec 59 (is_q ((if decide ((0 : Int) ≤ rcmp (a) (b)) then ratL a else ratL b)) h32 (by omega) (ht.gr hB)) ?_
 rintro e35 w35 ⟨rfl, g35⟩
 refine ⟨_, rfl, ?_⟩
 replace hB := hB.trans g35
 simp only [p3, p4]
 have hb36 : ((ratL ((if decide ((0 : Int) < rcmp b a) = true then b else a))) == ((if decide ((0 : Int) ≤ rcmp (a) (b)) then ratL a else ratL b))) = true := (most_text a b)
 refine sw 60 (.bool true) rfl (RunV.bool (x := (ratL ((if decide ((0 : Int) < rcmp b a) = true then b else a))) == ((if decide ((0 : Int) ≤ rcmp (a) (b)) then ratL a else ratL b))) (rvk (by kernel_rfl)) hb36) ?_
 simp only [p3, p4]
 refine sv 4 (.bool true) ?_
 simp only [p3, p4]
 refine sq_nil ?_
 refine k14 _ _ ?_
 try clear k14 K14
 refine wp_ret ?_
 refine bodyPost_ret (v := (.bool true)) (ret_tmp rfl rfl) rfl ⟨?_, hB⟩
 exact rfl

set_option maxRecDepth 100000 in
set_option maxHeartbeats 1000000 in
theorem compares_b (X Y : List UInt8) (hok : (okT (X) && okT (Y)) = false) (w : World) (ht : Tab w) (_hm : Mx w) :
    Calls Tryz.prog 9 #[(.string ⟨(X : List UInt8).toArray⟩), (.string ⟨(Y : List UInt8).toArray⟩)] w fun e w' => e = .returned (.bool true) ∧ Gr w w' := by
 go_enter Tryz.func9, Tryz.ntmps9
 have hB := Gr.refl w
 refine wp_seq_k (fun K1 k1 => ?_)
 refine rg [0] ?_
 refine sv 4 (.bool false) ?_
 simp only [p3, p4]
 refine sq_nil ?_
 refine k1 _ _ ?_
 try clear k1 K1
 refine wp_seq_k (fun K2 k2 => ?_)
 refine wp_seq_k (fun K3 k3 => ?_)
 refine rg [0, 1, 2, 3, 4, 5, 6, 7, 8] ?_
 refine se ?_
 refine ec 7 (known2 _ (ht.gr hB)) ?_
 rintro e4 w4 ⟨rfl, g4⟩
 refine ⟨_, rfl, ?_⟩
 replace hB := hB.trans g4
 simp only [p3, p4]
 refine sv 8 (.bool false) ?_
 simp only [p3, p4]
 refine sv 9 (.bool false) ?_
 simp only [p3, p4]
 refine sv 10 (.string ⟨(X : List UInt8).toArray⟩) ?_
 simp only [p3, p4]
 refine sv 11 (.string ⟨(Y : List UInt8).toArray⟩) ?_
 simp only [p3, p4]
 refine se ?_
 refine eff_bs 9 2 #[(.string ⟨(X : List UInt8).toArray⟩), (.string ⟨(Y : List UInt8).toArray⟩)] (some 12) rfl (fun _ => by kernel_rfl) (fun b5 w5 g5 L5 q5 => ?_)
 replace hB := hB.trans g5
 simp only [putl, p3, p4]
 refine se ?_
 refine ec 13 (right2 (X) (Y) L5) ?_
 rintro e6 w6 ⟨rfl, g6⟩
 refine ⟨_, rfl, ?_⟩
 replace hB := hB.trans g6
 simp only [p3, p4]
 refine sw 14 (.bool true) rfl (RunV.bool (x := !((okT (X) && okT (Y)))) (rvk (by kernel_rfl)) (show (!((okT (X) && okT (Y)))) = true by rw [hok]; rfl)) ?_
 simp only [p3, p4]
 refine sv 15 (.bool true) ?_
 simp only [p3, p4]
 refine sq_nil ?_
 refine k3 _ _ ?_
 try clear k3 K3
 refine wp_cond_true rfl ?_
 refine wp_seq_k (fun K7 k7 => ?_)
 refine rg [0, 1] ?_
 refine se ?_
 refine ec 16 (known2 _ (ht.gr hB)) ?_
 rintro e8 w8 ⟨rfl, g8⟩
 refine ⟨_, rfl, ?_⟩
 replace hB := hB.trans g8
 simp only [p3, p4]
 refine sv 4 (.bool true) ?_
 simp only [p3, p4]
 refine sq_nil ?_
 refine k7 _ _ ?_
 try clear k7 K7
 refine wp_ret ?_
 simp only [Exit.then]
 refine bodyPost_ret (v := (.bool true)) (ret_tmp rfl rfl) rfl ⟨?_, hB⟩
 exact rfl

theorem rational_compares (X Y : List UInt8) (w : World) (ht : Tab w) (hm : Mx w) :
    Calls Tryz.prog 9 #[(.string ⟨(X : List UInt8).toArray⟩), (.string ⟨(Y : List UInt8).toArray⟩)] w fun e w' => e = .returned (.bool true) ∧ Gr w w' := by
  rcases Bool.eq_false_or_eq_true (okT (X) && okT (Y)) with hok | hok
  · obtain ⟨a, rfl, ha, la⟩ := okT_rat (ok2_0 hok)
    obtain ⟨b, rfl, hb, lb⟩ := okT_rat (ok2_1 hok)
    exact compares_q a ha la b hb lb w ht hm
  · exact compares_b X Y hok w ht hm

end Go.Proofs.YtloocadjbpgldaaGreatDoor
/- The law RationalCompares holds of every input: its row, and its card tied to the program's text. Printed by a program of the prover's. -/
namespace Go.Proofs.YtloocadjbpgldaaGreatDoor
open Go.ChangeShapes Go.WideShapes Go.ChangeAt Go.RowKit

theorem rationalCompares_table {W : World} (h : laidMetH Tryz.prog Rows.rationalComparesRow.laid W) : Tab W :=
  Lib.tabIs_of_head (rest := _) (g := 2) (t := 171) (e := 84) (n := 20) (by kernel_rfl) (by kernel_rfl) (by kernel_rfl) (by kernel_rfl) (by kernel_rfl) (by kernel_rfl) ((show laidMet Tryz.prog Rows.rationalComparesRow.laid W from (MakeChecks.laidMetH_plain _ _ _ (by kernel_rfl)) ▸ h).tail.tail)
theorem rationalCompares_maxlen {W : World} (h : W.ShapedOpen Tryz.prog) : Mx W :=
  Go.Proofs.cell_of_shapedOpen_int (zero := #[.int .i64 0]) (g := 3) (t := 3) h (of_decide_eq_true (by kernel_rfl)) (by kernel_rfl) rfl (by kernel_rfl) (by kernel_rfl) Tryz.underlying3
set_option maxRecDepth 100000 in
theorem rationalCompares_contract (H : Type) (enc : TypeId × Value → H) (W : World) (base : Nat) (args : Array Value) (ds gs : List (DataW H)) (before : List MemPlace)
    (hval : ∀ (j : Nat) t v, Tryz.f9.params[j]? = some t → args[j]? = some v → Value.okWide Tryz.prog W .any base t v)
    (hW : DataW.Whole enc Tryz.prog Tryz.f9.params.toList Rows.rationalComparesSpec.vars false W args.toList ds gs before) (hL : laidMetH Tryz.prog Rows.rationalComparesRow.laid W) (hsh : W.ShapedOpen Tryz.prog) :
    Calls Tryz.prog 9 args W fun e W' => ∃ v, e = .returned v ∧ Rows.rationalComparesSpec.post enc Tryz.prog Tryz.f9 false true false false W args v W' := by
  have hW' := hW
  obtain ⟨p, q, hA0, hV, rfl, hfz, hnd⟩ := hW
  have hA : DataW.TrodAll enc Tryz.prog W 0 (fun _ => true) true Tryz.f9.params.toList args.toList ds p := hA0
  rw [Tryz.params9] at hA hval
  obtain ⟨v0, vs0, d0, ds0, p0, q0, hargs, rfl, rfl, h0, r0⟩ := trodAll_cons hA
  obtain ⟨v1, vs1, d1, ds1, p1, q1, rfl, rfl, rfl, h1, r1⟩ := trodAll_cons r0
  obtain ⟨rfl, rfl, rfl⟩ := trodAll_nil r1
  obtain rfl : args = #[v0, v1] := by cases args; simp_all
  obtain ⟨rfl, rfl⟩ := trodVars_none hV
  obtain ⟨n0_0, rfl⟩ := open_text (by kernel_rfl) (hval 0 9 v0 rfl rfl)
  obtain ⟨n1_0, rfl⟩ := open_text (by kernel_rfl) (hval 1 9 v1 rfl rfl)
  refine (rational_compares n0_0 n1_0 W (rationalCompares_table hL) (rationalCompares_maxlen hsh)).mono fun e W' ⟨he, hg⟩ => ?_
  subst he
  exact ⟨_, rfl, law_post (tb := 4) laidOut (by kernel_rfl) (by kernel_rfl) (by kernel_rfl) rfl hW' rfl hg⟩
noncomputable def rationalCompares_world (os : Os) : World := World.laidAll Tryz.prog os Rows.rationalComparesRow.laid
theorem rationalCompares_met (os : Os) : laidMet Tryz.prog Rows.rationalComparesRow.laid ((rationalCompares_world os).forCall (fun _ _ => 0) ⟨#[], #[.string ⟨#[]⟩, .string ⟨#[]⟩], []⟩).memory :=
  laidMet_laidAll _ (by kernel_rfl) (by kernel_rfl)
theorem rationalCompares_reads (os : Os) {H : Type} (enc : TypeId × Value → H) : ∃ places, DataW.whole enc Tryz.prog ((rationalCompares_world os).forCall (fun _ _ => 0) ⟨#[], #[.string ⟨#[]⟩, .string ⟨#[]⟩], []⟩).memory Tryz.f9.params.toList Rows.rationalComparesSpec.vars false (#[.string ⟨#[]⟩, .string ⟨#[]⟩] : Array Value).toList 8 = some ([.lit (.string []), .lit (.string [])], [], places) :=
  ⟨[], by kernel_rfl⟩
set_option maxRecDepth 100000 in
theorem rationalCompares_lifted (os : Os) (started : os.Started) (H : Type) (enc : TypeId × Value → H) (F : Stop.Interp) :
    ReturnsInHanded {} Tryz.checked os 9 .any ((OpenSpec.ofChange Rows.rationalComparesSpec).preRow enc Tryz.prog Tryz.f9 Rows.rationalComparesRow.domain false Rows.rationalComparesRow.laid) (((OpenSpec.ofChange Rows.rationalComparesSpec).at F).post enc Tryz.prog Tryz.f9 false true false false) := by
  obtain ⟨places, hx⟩ := rationalCompares_reads os enc
  refine returnsInHanded_of_row (C := Tryz.checked) (s := OpenSpec.ofChange Rows.rationalComparesSpec) own started (by kernel_rfl) Tryz.func9
    (witness_row_sh (enc := enc) (C := Tryz.checked) false (rationalCompares_world os) #[.string ⟨#[]⟩, .string ⟨#[]⟩] (World.laidAll_os _ _ _) (World.shaped_of_ZipB (by kernel_rfl) (by kernel_rfl)) (by kernel_rfl)
      (OpenSpec.preRow_of_cond 8 hx (by kernel_rfl) (fun k hk => by cases hk) (by kernel_rfl) (by rw [MakeChecks.laidMetH_plain _ _ _ (by kernel_rfl)]; exact rationalCompares_met os))) ?_
  intro W base args ds gs before hval hW _ _ _ hL hsh _
  exact rationalCompares_contract H enc W base args ds gs before hval hW hL hsh
theorem rationalCompares_said : Rows.RationalComparesSaid :=
  OpenClaim.holds_of_cond 9 Tryz.f9 rfl rfl rfl rfl rfl rfl rfl ⟨rfl, rfl, rfl, rfl, rfl⟩ rfl rfl rfl rfl rfl (by kernel_rfl) Tryz.func9 (by kernel_rfl)
    (of_decide_eq_true (by kernel_rfl)) (by unfold Func.isWrapper; first | (rw [if_pos (by decide +kernel)]; kernel_rfl) | (rw [if_neg (by decide +kernel)]; exact ⟨rfl, rfl⟩))
    (fun os started H enc _ F => by rw [OpenClaim.pre_eq_preRow]; exact rationalCompares_lifted os started H enc F)
theorem rationalCompares_plain (f : FuncId) (fn : Func) (hf : Tryz.pinned.checked.prog.funcNamed "dowel/dowellaw02.RationalCompares" = some f) (hfn : Tryz.pinned.checked.prog.funcs[f]? = some fn) :
    true = Tryz.pinned.checked.prog.looks [] ∧ ∀ (j : Nat) t, fn.params[j]? = some t → Tryz.pinned.checked.prog.wantsStandIn t = false := by
  obtain rfl : f = 9 := Option.some.inj ((show Tryz.prog.funcNamed "dowel/dowellaw02.RationalCompares" = some 9 by kernel_rfl).symm.trans hf) |>.symm
  obtain rfl : fn = Tryz.f9 := (Option.some.inj (Tryz.func9.symm.trans hfn)).symm
  refine ⟨by kernel_rfl, fun j t ht => ?_⟩
  rw [Tryz.params9] at ht
  have hm := Array.mem_of_getElem? ht
  have hall : (#[9, 9] : Array TypeId).toList.all (fun t => !Tryz.prog.wantsStandIn t) = true := by kernel_rfl
  have := List.all_eq_true.1 hall t (Array.mem_toList_iff.2 hm)
  have h3 : Tryz.prog.wantsStandIn t = false := by simpa using this
  exact h3
/-- the card -/
theorem rationalCompares_card : Rows.RationalComparesCardSaid :=
  Claim7.holds_tied_plain_at .later [] _ _ _ _ rationalCompares_said (fun _ h => by cases h) (by kernel_rfl) (fun _ h => by cases h) rationalCompares_row_tie rfl ⟨rfl, rfl⟩ (by kernel_rfl) rfl rationalCompares_plain (by kernel_rfl)
end Go.Proofs.YtloocadjbpgldaaGreatDoor
