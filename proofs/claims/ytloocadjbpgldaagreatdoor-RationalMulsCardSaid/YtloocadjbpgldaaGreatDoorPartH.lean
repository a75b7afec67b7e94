/- Joined of: Gen41, RowRationalMuls. -/
import Derived.Test.YtloocadjbpgldaaGreatDoorPartG
import Derived.Test.YtloocadjbpgldaaGreatDoorCards
import Derived.Test.YtloocadjbpgldaaGreatDoorTie
/- Printed by a program of the prover's: RationalMuls. -/
namespace Go.Proofs.YtloocadjbpgldaaGreatDoor
open Go.RowKit

theorem ratL_zero {b : Rat} : (ratL b == ([48] : List UInt8)) = true ↔ b.num = 0 := by
  constructor
  · intro h
    have h := eq_of_beq h
    by_cases hw : b.den = 1
    · rw [ratL_w hw, ← itoa_zero] at h; exact itoa_inj h
    · rw [ratL_f hw] at h
      have := congrArg List.length h
      have h1 := itoa_pos b.num
      simp only [List.length_append, List.length_cons, List.length_nil] at this
      omega
  · intro h
    have : b = 0 := Rat.num_eq_zero.1 h
    subst this
    exact ratL_litw (by kernel_rfl) (itoa_litp 0 (by kernel_rfl) (by decide))

theorem lawMu0  : (ratL (0) == ([48] : List UInt8)) = true := ratL_litw (by kernel_rfl) (itoa_litp 0 (by kernel_rfl) (by decide))
set_option maxRecDepth 100000 in
set_option maxHeartbeats 4000000 in
theorem muls_0 (a : Rat) (ha : Sz 160 a.num ∧ Sz 160 (a.den : Int)) (la : okT (ratL (a)) = true) (b : Rat) (hb : Sz 160 b.num ∧ Sz 160 (b.den : Int)) (lb : okT (ratL (b)) = true) (h0 : b.num = 0) (w : World) (ht : Tab w) (hm : Mx w) :
    Calls Tryz.prog 8 #[(.string ⟨(ratL (a) : List UInt8).toArray⟩), (.string ⟨(ratL (b) : List UInt8).toArray⟩)] w fun e w' => e = .returned (.bool true) ∧ Gr w w' := by
 have lok : (okT (ratL (a)) && okT (ratL (b))) = true := okT_2 la lb
 have hz : ((ratL (b)) == ([48] : List UInt8)) = true := ratL_zero.2 h0
 go_enter Tryz.func8, Tryz.ntmps8
 have hB := Gr.refl w
 refine wp_seq_k (fun K1 k1 => ?_)
 refine rg [0] ?_
 refine sv 4 (.bool false) ?_
 simp only [p3, p4]
 refine sq_nil ?_
 refine k1 _ _ ?_
 try clear k1 K1
 refine wp_seq_k (fun K2 k2 => ?_)
 refine wp_seq_k (fun K3 k3 => ?_)
 refine rg [0, 1, 2, 3, 4, 5, 6, 7, 8] ?_
 refine se ?_
 refine ec 9 (known2 _ (ht.gr hB)) ?_
 rintro e4 w4 ⟨rfl, g4⟩
 refine ⟨_, rfl, ?_⟩
 replace hB := hB.trans g4
 simp only [p3, p4]
 refine sv 10 (.bool false) ?_
 simp only [p3, p4]
 refine sv 11 (.bool false) ?_
 simp only [p3, p4]
 refine sv 12 (.string ⟨(ratL (a) : List UInt8).toArray⟩) ?_
 simp only [p3, p4]
 refine sv 13 (.string ⟨(ratL (b) : List UInt8).toArray⟩) ?_
 simp only [p3, p4]
 refine se ?_
 refine eff_bs 9 2 #[(.string ⟨(ratL (a) : List UInt8).toArray⟩), (.string ⟨(ratL (b) : List UInt8).toArray⟩)] (some 14) rfl (fun _ => by kernel_rfl) (fun b5 w5 g5 L5 q5 => ?_)
 replace hB := hB.trans g5
 simp only [putl, p3, p4]
 refine se ?_
 refine ec 15 (right2 (ratL (a)) (ratL (b)) L5) ?_
 rintro e6 w6 ⟨rfl, g6⟩
 refine ⟨_, rfl, ?_⟩
 replace hB := hB.trans g6
 simp only [p3, p4]
 refine sw 16 (.bool false) rfl (RunV.bool (x := !((okT (ratL (a)) && okT (ratL (b))))) (rvk (by kernel_rfl)) (show (!((okT (ratL (a)) && okT (ratL (b))))) = false by rw [lok]; rfl)) ?_
 simp only [p3, p4]
 refine sv 17 (.bool false) ?_
 simp only [p3, p4]
 refine sq_nil ?_
 refine k3 _ _ ?_
 try clear k3 K3
 refine wp_cond_false rfl ?_
 refine wp_skip ?_
 refine k2 _ _ ?_
 try clear k2 K2
 refine wp_seq_k (fun K7 k7 => ?_)
 refine rg [0, 1, 2, 3, 4, 5, 6, 7] ?_
 refine sv 19 (.string ⟨(ratL (a) : List UInt8).toArray⟩) ?_
 simp only [p3, p4]
 refine se ?_
 refine ec 20 (lread_q a ha la _ (hm.gr hB)) ?_
 rintro e8 w8 ⟨⟨p8, q8, r8, s8, rfl, h8⟩, g8⟩
 refine ⟨_, rfl, ?_⟩
 replace hB := hB.trans g8
 simp only [p3, p4]
 refine sv 21 (.string ⟨(ratL (b) : List UInt8).toArray⟩) ?_
 simp only [p3, p4]
 refine se ?_
 refine ec 22 (lread_q b hb lb _ (hm.gr hB)) ?_
 rintro e9 w9 ⟨⟨p9, q9, r9, s9, rfl, h9⟩, g9⟩
 refine ⟨_, rfl, ?_⟩
 replace hB := hB.trans g9
 simp only [p3, p4]
 refine se ?_
 refine ea 31 #[(.bool false), (.slice none 0 0), (.bool false), (.slice none 0 0)] 5 hB fun b10 w10 g10 L10 o10 q10 hB => ?_
 simp only [p3, p4]
 refine se ?_
 refine ea 31 #[(.bool false), (.slice none 0 0), (.bool false), (.slice none 0 0)] 6 hB fun b11 w11 g11 L11 o11 q11 hB => ?_
 have ne10_11 := L10.ne o11
 simp only [p3, p4]
 refine se ?_
 replace L10 := L10.gr g11
 refine es 31 0 (.agg #[p8, q8, r8, s8]) [p8, q8, r8, s8] #[p8, q8, r8, s8] L10 hB q10 ⟨h8.one0, h8.one1, h8.one2, h8.one3, trivial⟩ fun w12 st12 kp12 L10 hB => ?_
 refine se ?_
 replace L11 := st12.lc L11 (Ne.symm ne10_11)
 refine es 31 0 (.agg #[p9, q9, r9, s9]) [p9, q9, r9, s9] #[p9, q9, r9, s9] L11 hB q11 ⟨h9.one0, h9.one1, h9.one2, h9.one3, trivial⟩ fun w13 st13 kp13 L11 hB => ?_
 refine sq_nil ?_
 refine k7 _ _ ?_
 try clear k7 K7
 refine wp_seq_k (fun K14 k14 => ?_)
 refine rg [0, 1, 2, 3, 4, 5, 6, 7, 8] ?_
 replace L10 := st13.lc L10 ne10_11
 refine sw 24 (.agg #[p8, q8, r8, s8]) rfl (rl 31 0 [p8, q8, r8, s8] L10) ?_
 simp only [p3, p4]
 refine sw 25 (.agg #[p9, q9, r9, s9]) rfl (rl 31 0 [p9, q9, r9, s9] L11) ?_
 simp only [p3, p4]
 refine se ?_
 have kq16 := g9.kp.trans (g10.kp.trans (g11.kp.trans (kp12.trans kp13)))
 replace h8 := h8.kp kq16
 have kq17 := g10.kp.trans (g11.kp.trans (kp12.trans kp13))
 replace h9 := h9.kp kq17
 refine ec 26 (div_0 h8 h9 h0) ?_
 rintro e15 w15 ⟨rfl, g15⟩
 refine ⟨_, rfl, ?_⟩
 replace hB := hB.trans g15
 simp only [p3, p4]
 refine sv 23 (.tuple #[(.agg #[(.bool false), (.slice none 0 0), (.bool false), (.slice none 0 0)]), (.int .i64 19)]) ?_
 simp only [p3, p4]
 refine sv 27 (.agg #[(.bool false), (.slice none 0 0), (.bool false), (.slice none 0 0)]) ?_
 simp only [p3, p4]
 refine sv 28 (.int .i64 19) ?_
 simp only [p3, p4]
 refine se ?_
 refine ea 31 #[(.bool false), (.slice none 0 0), (.bool false), (.slice none 0 0)] 7 hB fun b18 w18 g18 L18 o18 q18 hB => ?_
 replace L10 := L10.gr g15
 have ne10_18 := L10.ne o18
 replace L11 := L11.gr g15
 have ne11_18 := L11.ne o18
 simp only [p3, p4]
 refine se ?_
 refine es 31 0 (.agg #[(.bool false), (.slice none 0 0), (.bool false), (.slice none 0 0)]) [(.bool false), (.slice none 0 0), (.bool false), (.slice none 0 0)] #[(.bool false), (.slice none 0 0), (.bool false), (.slice none 0 0)] L18 hB q18 ⟨rfl, rfl, rfl, rfl, trivial⟩ fun w19 st19 kp19 L18 hB => ?_
 refine sv 8 (.int .i64 19) ?_
 simp only [p3, p4]
 refine sq_nil ?_
 refine k14 _ _ ?_
 try clear k14 K14
 refine wp_seq_k (fun K20 k20 => ?_)
 refine wp_seq_k (fun K21 k21 => ?_)
 refine rg [0, 1, 2, 3, 4, 5, 6, 7] ?_
 replace L10 := st19.lc (L10.gr g18) ne10_18
 refine sw 29 (.agg #[p8, q8, r8, s8]) rfl (rl 31 0 [p8, q8, r8, s8] L10) ?_
 simp only [p3, p4]
 replace L11 := st19.lc (L11.gr g18) ne11_18
 refine sw 30 (.agg #[p9, q9, r9, s9]) rfl (rl 31 0 [p9, q9, r9, s9] L11) ?_
 simp only [p3, p4]
 refine se ?_
 have kq23 := g15.kp.trans (g18.kp.trans kp19)
 replace h8 := h8.kp kq23
 replace h9 := h9.kp kq23
 refine ec 31 (mul_r h8 h9 (by omega)) ?_
 rintro e22 w22 ⟨⟨p22, q22, r22, s22, rfl, h22⟩, g22⟩
 refine ⟨_, rfl, ?_⟩
 replace hB := hB.trans g22
 simp only [p3, p4]
 refine sv 32 (.string ⟨(ratL (a) : List UInt8).toArray⟩) ?_
 simp only [p3, p4]
 refine sv 33 (.string ⟨(ratL (b) : List UInt8).toArray⟩) ?_
 simp only [p3, p4]
 refine se ?_
 refine ec 34 (r2_mul (a) (b) ha hb (by omega) _) ?_
 rintro e24 w24 ⟨rfl, g24⟩
 refine ⟨_, rfl, ?_⟩
 replace hB := hB.trans g24
 simp only [p3, p4]
 refine se ?_
 replace h22 := h22.kp g24.kp
 refine ec 35 (is_q (ratL (a * b)) h22 (by omega) (ht.gr hB)) ?_
 rintro e25 w25 ⟨rfl, g25⟩
 refine ⟨_, rfl, ?_⟩
 replace hB := hB.trans g25
 simp only [p3, p4]
 have hb26 : ((ratL ((a * b))) == (ratL (a * b))) = true := (text_lit rfl)
 refine sw 36 (.bool false) rfl (RunV.bool (x := !((ratL ((a * b))) == (ratL (a * b)))) (rvk (by kernel_rfl)) (show (!((ratL ((a * b))) == (ratL (a * b)))) = false by rw [hb26]; rfl)) ?_
 simp only [p3, p4]
 refine sq_nil ?_
 refine k21 _ _ ?_
 try clear k21 K21
 refine wp_cond_false rfl ?_
 refine wp_skip ?_
 refine k20 _ _ ?_
 try clear k20 K20
 refine wp_seq_k (fun K27 k27 => ?_)
 refine wp_seq_k (fun K28 k28 => ?_)
 refine rg [0, 1] ?_
 refine sv 37 (.string ⟨(ratL (b) : List UInt8).toArray⟩) ?_
 simp only [p3, p4]
 refine sw 38 (.bool true) rfl (RunV.bool (x := ((ratL (b)) == ([48] : List UInt8))) (rv_seq 9 9 _ _ (ratL (b)) ([48]) rfl rfl rfl) hz) ?_
 simp only [p3, p4]
 refine sq_nil ?_
 refine k28 _ _ ?_
 try clear k28 K28
 refine wp_cond_true rfl ?_
 refine wp_seq_k (fun K29 k29 => ?_)
 refine rg [0, 1, 2, 3, 4, 5, 6] ?_
 refine sv 39 (.int .i64 19) ?_
 simp only [p3, p4]
 refine sv 40 (.bool true) ?_
 simp only [p3, p4]
 refine sv 41 (.bool true) ?_
 simp only [p3, p4]
 replace L18 := L18.gr (g22.trans (g24.trans g25))
 refine sw 42 (.agg #[(.bool false), (.slice none 0 0), (.bool false), (.slice none 0 0)]) rfl (rl 31 0 [(.bool false), (.slice none 0 0), (.bool false), (.slice none 0 0)] L18) ?_
 simp only [p3, p4]
 refine se ?_
 refine ec 43 (is_q ([48]) (IsRat.zero _ (k := 64) (Nat.le_refl _)) (by omega) (ht.gr hB)) ?_
 rintro e30 w30 ⟨rfl, g30⟩
 refine ⟨_, rfl, ?_⟩
 replace hB := hB.trans g30
 simp only [p3, p4]
 have hb31 : ((ratL (0)) == (([48] : List UInt8))) = true := (lawMu0  )
 refine sw 44 (.bool true) rfl (RunV.bool (x := (ratL (0)) == (([48] : List UInt8))) (rvk (by kernel_rfl)) hb31) ?_
 simp only [p3, p4]
 refine sv 4 (.bool true) ?_
 simp only [p3, p4]
 refine sq_nil ?_
 refine k29 _ _ ?_
 try clear k29 K29
 refine wp_ret ?_
 simp only [Exit.then]
 refine bodyPost_ret (v := (.bool true)) (ret_tmp rfl rfl) rfl ⟨?_, hB⟩
 exact rfl

set_option maxRecDepth 100000 in
set_option maxHeartbeats 4000000 in
theorem muls_q (a : Rat) (ha : Sz 160 a.num ∧ Sz 160 (a.den : Int)) (la : okT (ratL (a)) = true) (b : Rat) (hb : Sz 160 b.num ∧ Sz 160 (b.den : Int)) (lb : okT (ratL (b)) = true) (h0 : b.num ≠ 0) (w : World) (ht : Tab w) (hm : Mx w) :
    Calls Tryz.prog 8 #[(.string ⟨(ratL (a) : List UInt8).toArray⟩), (.string ⟨(ratL (b) : List UInt8).toArray⟩)] w fun e w' => e = .returned (.bool true) ∧ Gr w w' := by
 have lok : (okT (ratL (a)) && okT (ratL (b))) = true := okT_2 la lb
 have hz : ((ratL (b)) == ([48] : List UInt8)) = false := (by rw [← Bool.not_eq_true]; exact fun h => h0 (ratL_zero.1 h))
 go_enter Tryz.func8, Tryz.ntmps8
 have hB := Gr.refl w
 refine wp_seq_k (fun K1 k1 => ?_)
 refine rg [0] ?_
 refine sv 4 (.bool false) ?_
 simp only [p3, p4]
 refine sq_nil ?_
 refine k1 _ _ ?_
 try clear k1 K1
 refine wp_seq_k (fun K2 k2 => ?_)
 refine wp_seq_k (fun K3 k3 => ?_)
 refine rg [0, 1, 2, 3, 4, 5, 6, 7, 8] ?_
 refine se ?_
 refine ec 9 (known2 _ (ht.gr hB)) ?_
 rintro e4 w4 ⟨rfl, g4⟩
 refine ⟨_, rfl, ?_⟩
 replace hB := hB.trans g4
 simp only [p3, p4]
 refine sv 10 (.bool false) ?_
 simp only [p3, p4]
 refine sv 11 (.bool false) ?_
 simp only [p3, p4]
 refine sv 12 (.string ⟨(ratL (a) : List UInt8).toArray⟩) ?_
 simp only [p3, p4]
 refine sv 13 (.string ⟨(ratL (b) : List UInt8).toArray⟩) ?_
 simp only [p3, p4]
 refine se ?_
 refine eff_bs 9 2 #[(.string ⟨(ratL (a) : List UInt8).toArray⟩), (.string ⟨(ratL (b) : List UInt8).toArray⟩)] (some 14) rfl (fun _ => by kernel_rfl) (fun b5 w5 g5 L5 q5 => ?_)
 replace hB := hB.trans g5
 simp only [putl, p3, p4]
 refine se ?_
 refine ec 15 (right2 (ratL (a)) (ratL (b)) L5) ?_
 rintro e6 w6 ⟨rfl, g6⟩
 refine ⟨_, rfl, ?_⟩
 replace hB := hB.trans g6
 simp only [p3, p4]
 refine sw 16 (.bool false) rfl (RunV.bool (x := !((okT (ratL (a)) && okT (ratL (b))))) (rvk (by kernel_rfl)) (show (!((okT (ratL (a)) && okT (ratL (b))))) = false by rw [lok]; rfl)) ?_
 simp only [p3, p4]
 refine sv 17 (.bool false) ?_
 simp only [p3, p4]
 refine sq_nil ?_
 refine k3 _ _ ?_
 try clear k3 K3
 refine wp_cond_false rfl ?_
 refine wp_skip ?_
 refine k2 _ _ ?_
 try clear k2 K2
 refine wp_seq_k (fun K7 k7 => ?_)
 refine rg [0, 1, 2, 3, 4, 5, 6, 7] ?_
 refine sv 19 (.string ⟨(ratL (a) : List UInt8).toArray⟩) ?_
 simp only [p3, p4]
 refine se ?_
 refine ec 20 (lread_q a ha la _ (hm.gr hB)) ?_
 rintro e8 w8 ⟨⟨p8, q8, r8, s8, rfl, h8⟩, g8⟩
 refine ⟨_, rfl, ?_⟩
 replace hB := hB.trans g8
 simp only [p3, p4]
 refine sv 21 (.string ⟨(ratL (b) : List UInt8).toArray⟩) ?_
 simp only [p3, p4]
 refine se ?_
 refine ec 22 (lread_q b hb lb _ (hm.gr hB)) ?_
 rintro e9 w9 ⟨⟨p9, q9, r9, s9, rfl, h9⟩, g9⟩
 refine ⟨_, rfl, ?_⟩
 replace hB := hB.trans g9
 simp only [p3, p4]
 refine se ?_
 refine ea 31 #[(.bool false), (.slice none 0 0), (.bool false), (.slice none 0 0)] 5 hB fun b10 w10 g10 L10 o10 q10 hB => ?_
 simp only [p3, p4]
 refine se ?_
 refine ea 31 #[(.bool false), (.slice none 0 0), (.bool false), (.slice none 0 0)] 6 hB fun b11 w11 g11 L11 o11 q11 hB => ?_
 have ne10_11 := L10.ne o11
 simp only [p3, p4]
 refine se ?_
 replace L10 := L10.gr g11
 refine es 31 0 (.agg #[p8, q8, r8, s8]) [p8, q8, r8, s8] #[p8, q8, r8, s8] L10 hB q10 ⟨h8.one0, h8.one1, h8.one2, h8.one3, trivial⟩ fun w12 st12 kp12 L10 hB => ?_
 refine se ?_
 replace L11 := st12.lc L11 (Ne.symm ne10_11)
 refine es 31 0 (.agg #[p9, q9, r9, s9]) [p9, q9, r9, s9] #[p9, q9, r9, s9] L11 hB q11 ⟨h9.one0, h9.one1, h9.one2, h9.one3, trivial⟩ fun w13 st13 kp13 L11 hB => ?_
 refine sq_nil ?_
 refine k7 _ _ ?_
 try clear k7 K7
 refine wp_seq_k (fun K14 k14 => ?_)
 refine rg [0, 1, 2, 3, 4, 5, 6, 7, 8] ?_
 replace L10 := st13.lc L10 ne10_11
 refine sw 24 (.agg #[p8, q8, r8, s8]) rfl (rl 31 0 [p8, q8, r8, s8] L10) ?_
 simp only [p3, p4]
 refine sw 25 (.agg #[p9, q9, r9, s9]) rfl (rl 31 0 [p9, q9, r9, s9] L11) ?_
 simp only [p3, p4]
 refine se ?_
 have kq16 := g9.kp.trans (g10.kp.trans (g11.kp.trans (kp12.trans kp13)))
 replace h8 := h8.kp kq16
 have kq17 := g10.kp.trans (g11.kp.trans (kp12.trans kp13))
 replace h9 := h9.kp kq17
 refine ec 26 (div_a h8 h9 (by omega) h0) ?_
 rintro e15 w15 ⟨⟨p15, q15, r15, s15, rfl, h15⟩, g15⟩
 refine ⟨_, rfl, ?_⟩
 replace hB := hB.trans g15
 simp only [p3, p4]
 refine sv 23 (.tuple #[(.agg #[p15, q15, r15, s15]), (.int .i64 0)]) ?_
 simp only [p3, p4]
 refine sv 27 (.agg #[p15, q15, r15, s15]) ?_
 simp only [p3, p4]
 refine sv 28 (.int .i64 0) ?_
 simp only [p3, p4]
 refine se ?_
 refine ea 31 #[(.bool false), (.slice none 0 0), (.bool false), (.slice none 0 0)] 7 hB fun b18 w18 g18 L18 o18 q18 hB => ?_
 replace L10 := L10.gr g15
 have ne10_18 := L10.ne o18
 replace L11 := L11.gr g15
 have ne11_18 := L11.ne o18
 simp only [p3, p4]
 refine se ?_
 refine es 31 0 (.agg #[p15, q15, r15, s15]) [p15, q15, r15, s15] #[p15, q15, r15, s15] L18 hB q18 ⟨h15.one0, h15.one1, h15.one2, h15.one3, trivial⟩ fun w19 st19 kp19 L18 hB => ?_
 refine sv 8 (.int .i64 0) ?_
 simp only [p3, p4]
 refine sq_nil ?_
 refine k14 _ _ ?_
 try clear k14 K14
 refine wp_seq_k (fun K20 k20 => ?_)
 refine wp_seq_k (fun K21 k21 => ?_)
 refine rg [0, 1, 2, 3, 4, 5, 6, 7] ?_
 replace L10 := st19.lc (L10.gr g18) ne10_18
 refine sw 29 (.agg #[p8, q8, r8, s8]) rfl (rl 31 0 [p8, q8, r8, s8] L10) ?_
 simp only [p3, p4]
 replace L11 := st19.lc (L11.gr g18) ne11_18
 refine sw 30 (.agg #[p9, q9, r9, s9]) rfl (rl 31 0 [p9, q9, r9, s9] L11) ?_
 simp only [p3, p4]
 refine se ?_
 have kq23 := g15.kp.trans (g18.kp.trans kp19)
 replace h8 := h8.kp kq23
 replace h9 := h9.kp kq23
 refine ec 31 (mul_r h8 h9 (by omega)) ?_
 rintro e22 w22 ⟨⟨p22, q22, r22, s22, rfl, h22⟩, g22⟩
 refine ⟨_, rfl, ?_⟩
 replace hB := hB.trans g22
 simp only [p3, p4]
 refine sv 32 (.string ⟨(ratL (a) : List UInt8).toArray⟩) ?_
 simp only [p3, p4]
 refine sv 33 (.string ⟨(ratL (b) : List UInt8).toArray⟩) ?_
 simp only [p3, p4]
 refine se ?_
 refine ec 34 (r2_mul (a) (b) ha hb (by omega) _) ?_
 rintro e24 w24 ⟨rfl, g24⟩
 refine ⟨_, rfl, ?_⟩
 replace hB := hB.trans g24
 simp only [p3, p4]
 refine se ?_
 replace h22 := h22.kp g24.kp
 refine ec 35 (is_q (ratL (a * b)) h22 (by omega) (ht.gr hB)) ?_
 rintro e25 w25 ⟨rfl, g25⟩
 refine ⟨_, rfl, ?_⟩
 replace hB := hB.trans g25
 simp only [p3, p4]
 have hb26 : ((ratL ((a * b))) == (ratL (a * b))) = true := (text_lit rfl)
 refine sw 36 (.bool false) rfl (RunV.bool (x := !((ratL ((a * b))) == (ratL (a * b)))) (rvk (by kernel_rfl)) (show (!((ratL ((a * b))) == (ratL (a * b)))) = false by rw [hb26]; rfl)) ?_
 simp only [p3, p4]
 refine sq_nil ?_
 refine k21 _ _ ?_
 try clear k21 K21
 refine wp_cond_false rfl ?_
 refine wp_skip ?_
 refine k20 _ _ ?_
 try clear k20 K20
 refine wp_seq_k (fun K27 k27 => ?_)
 refine wp_seq_k (fun K28 k28 => ?_)
 refine rg [0, 1] ?_
 refine sv 37 (.string ⟨(ratL (b) : List UInt8).toArray⟩) ?_
 simp only [p3, p4]
 refine sw 38 (.bool false) rfl (RunV.bool (x := ((ratL (b)) == ([48] : List UInt8))) (rv_seq 9 9 _ _ (ratL (b)) ([48]) rfl rfl rfl) hz) ?_
 simp only [p3, p4]
 refine sq_nil ?_
 refine k28 _ _ ?_
 try clear k28 K28
 refine wp_cond_false rfl ?_
 refine wp_skip ?_
 refine k27 _ _ ?_
 try clear k27 K27
 refine wp_seq_k (fun K29 k29 => ?_)
 have gd37 := Gr.drew w25
 replace hB := hB.trans gd37
 replace L18 := L18.gr (g22.trans (g24.trans (g25.trans gd37)))
 refine wp_region_ord (fun w' => Lc w' b18 #[p15, q15, r15, s15] 31) [(true, 0), (true, 1), (true, 2), (true, 3), (true, 4), (true, 5), (false, 6), (false, 7), (true, 8), (true, 9)] (by kernel_rfl) (by kernel_rfl) (by kernel_rfl) (by decide) (fun _ _ _ _ _ h => h) L18 ?_
 refine ov 45 (.int .i64 0) ?_
 simp only [p3, p4]
 refine ov 46 (.bool true) ?_
 simp only [p3, p4]
 refine ov 47 (.bool true) ?_
 simp only [p3, p4]
 refine ow 48 (.agg #[p15, q15, r15, s15]) rfl (fun w' hS => (rl 31 0 [p15, q15, r15, s15] hS)) ?_
 simp only [p3, p4]
 refine ov 49 (.string ⟨(ratL (a) : List UInt8).toArray⟩) ?_
 simp only [p3, p4]
 refine ov 50 (.string ⟨(ratL (b) : List UInt8).toArray⟩) ?_
 simp only [p3, p4]
 refine oe ?_
 refine ec 51 (r2_div (a) (b) ha hb h0 (by omega) _) ?_
 rintro e39 w39 ⟨rfl, g39⟩
 refine ⟨_, rfl, ?_⟩
 replace hB := hB.trans g39
 replace L18 := L18.gr g39
 refine ⟨L18, ?_⟩
 simp only [p3, p4]
 refine oe ?_
 have kq42 := g18.kp.trans (kp19.trans (g22.kp.trans (g24.kp.trans (g25.kp.trans (gd37.kp.trans g39.kp)))))
 replace h15 := h15.kp kq42
 refine ec 52 (is_q (ratL (a / b)) h15 (by omega) (ht.gr hB)) ?_
 rintro e41 w41 ⟨rfl, g41⟩
 refine ⟨_, rfl, ?_⟩
 replace hB := hB.trans g41
 replace L18 := L18.gr g41
 refine ⟨L18, ?_⟩
 simp only [p3, p4]
 have hb43 : ((ratL ((a / b))) == (ratL (a / b))) = true := (text_lit rfl)
 refine ow 53 (.bool true) rfl (fun w' hS => (RunV.bool (x := (ratL ((a / b))) == (ratL (a / b))) (rvk (by kernel_rfl)) hb43)) ?_
 simp only [p3, p4]
 refine ov 4 (.bool true) ?_
 simp only [p3, p4]
 refine ord_nil ?_
 refine k29 _ _ ?_
 try clear k29 K29
 refine wp_ret ?_
 refine bodyPost_ret (v := (.bool true)) (ret_tmp rfl rfl) rfl ⟨?_, hB⟩
 exact rfl

set_option maxRecDepth 100000 in
set_option maxHeartbeats 1000000 in
theorem muls_b (X Y : List UInt8) (hok : (okT (X) && okT (Y)) = false) (w : World) (ht : Tab w) (_hm : Mx w) :
    Calls Tryz.prog 8 #[(.string ⟨(X : List UInt8).toArray⟩), (.string ⟨(Y : List UInt8).toArray⟩)] w fun e w' => e = .returned (.bool true) ∧ Gr w w' := by
 go_enter Tryz.func8, Tryz.ntmps8
 have hB := Gr.refl w
 refine wp_seq_k (fun K1 k1 => ?_)
 refine rg [0] ?_
 refine sv 4 (.bool false) ?_
 simp only [p3, p4]
 refine sq_nil ?_
 refine k1 _ _ ?_
 try clear k1 K1
 refine wp_seq_k (fun K2 k2 => ?_)
 refine wp_seq_k (fun K3 k3 => ?_)
 refine rg [0, 1, 2, 3, 4, 5, 6, 7, 8] ?_
 refine se ?_
 refine ec 9 (known2 _ (ht.gr hB)) ?_
 rintro e4 w4 ⟨rfl, g4⟩
 refine ⟨_, rfl, ?_⟩
 replace hB := hB.trans g4
 simp only [p3, p4]
 refine sv 10 (.bool false) ?_
 simp only [p3, p4]
 refine sv 11 (.bool false) ?_
 simp only [p3, p4]
 refine sv 12 (.string ⟨(X : List UInt8).toArray⟩) ?_
 simp only [p3, p4]
 refine sv 13 (.string ⟨(Y : List UInt8).toArray⟩) ?_
 simp only [p3, p4]
 refine se ?_
 refine eff_bs 9 2 #[(.string ⟨(X : List UInt8).toArray⟩), (.string ⟨(Y : List UInt8).toArray⟩)] (some 14) rfl (fun _ => by kernel_rfl) (fun b5 w5 g5 L5 q5 => ?_)
 replace hB := hB.trans g5
 simp only [putl, p3, p4]
 refine se ?_
 refine ec 15 (right2 (X) (Y) L5) ?_
 rintro e6 w6 ⟨rfl, g6⟩
 refine ⟨_, rfl, ?_⟩
 replace hB := hB.trans g6
 simp only [p3, p4]
 refine sw 16 (.bool true) rfl (RunV.bool (x := !((okT (X) && okT (Y)))) (rvk (by kernel_rfl)) (show (!((okT (X) && okT (Y)))) = true by rw [hok]; rfl)) ?_
 simp only [p3, p4]
 refine sv 17 (.bool true) ?_
 simp only [p3, p4]
 refine sq_nil ?_
 refine k3 _ _ ?_
 try clear k3 K3
 refine wp_cond_true rfl ?_
 refine wp_seq_k (fun K7 k7 => ?_)
 refine rg [0, 1] ?_
 refine se ?_
 refine ec 18 (known2 _ (ht.gr hB)) ?_
 rintro e8 w8 ⟨rfl, g8⟩
 refine ⟨_, rfl, ?_⟩
 replace hB := hB.trans g8
 simp only [p3, p4]
 refine sv 4 (.bool true) ?_
 simp only [p3, p4]
 refine sq_nil ?_
 refine k7 _ _ ?_
 try clear k7 K7
 refine wp_ret ?_
 simp only [Exit.then]
 refine bodyPost_ret (v := (.bool true)) (ret_tmp rfl rfl) rfl ⟨?_, hB⟩
 exact rfl

theorem rational_muls (X Y : List UInt8) (w : World) (ht : Tab w) (hm : Mx w) :
    Calls Tryz.prog 8 #[(.string ⟨(X : List UInt8).toArray⟩), (.string ⟨(Y : List UInt8).toArray⟩)] w fun e w' => e = .returned (.bool true) ∧ Gr w w' := by
  rcases Bool.eq_false_or_eq_true (okT (X) && okT (Y)) with hok | hok
  · obtain ⟨a, rfl, ha, la⟩ := okT_rat (ok2_0 hok)
    obtain ⟨b, rfl, hb, lb⟩ := okT_rat (ok2_1 hok)
    by_cases h0 : b.num = 0
    · exact muls_0 a ha la b hb lb h0 w ht hm
    · exact muls_q a ha la b hb lb h0 w ht hm
  · exact muls_b X Y hok w ht hm

end Go.Proofs.YtloocadjbpgldaaGreatDoor
/- The law RationalMuls holds of every input: its row, and its card tied to the program's text. Printed by a program of the prover's. -/
namespace Go.Proofs.YtloocadjbpgldaaGreatDoor
open Go.ChangeShapes Go.WideShapes Go.ChangeAt Go.RowKit

theorem rationalMuls_table {W : World} (h : laidMetH Tryz.prog Rows.rationalMulsRow.laid W) : Tab W :=
  Lib.tabIs_of_head (rest := _) (g := 2) (t := 171) (e := 84) (n := 20) (by kernel_rfl) (by kernel_rfl) (by kernel_rfl) (by kernel_rfl) (by kernel_rfl) (by kernel_rfl) ((show laidMet Tryz.prog Rows.rationalMulsRow.laid W from (MakeChecks.laidMetH_plain _ _ _ (by kernel_rfl)) ▸ h).tail.tail)
theorem rationalMuls_maxlen {W : World} (h : W.ShapedOpen Tryz.prog) : Mx W :=
  Go.Proofs.cell_of_shapedOpen_int (zero := #[.int .i64 0]) (g := 3) (t := 3) h (of_decide_eq_true (by kernel_rfl)) (by kernel_rfl) rfl (by kernel_rfl) (by kernel_rfl) Tryz.underlying3
set_option maxRecDepth 100000 in
theorem rationalMuls_contract (H : Type) (enc : TypeId × Value → H) (W : World) (base : Nat) (args : Array Value) (ds gs : List (DataW H)) (before : List MemPlace)
    (hval : ∀ (j : Nat) t v, Tryz.f8.params[j]? = some t → args[j]? = some v → Value.okWide Tryz.prog W .any base t v)
    (hW : DataW.Whole enc Tryz.prog Tryz.f8.params.toList Rows.rationalMulsSpec.vars false W args.toList ds gs before) (hL : laidMetH Tryz.prog Rows.rationalMulsRow.laid W) (hsh : W.ShapedOpen Tryz.prog) :
    Calls Tryz.prog 8 args W fun e W' => ∃ v, e = .returned v ∧ Rows.rationalMulsSpec.post enc Tryz.prog Tryz.f8 false true false false W args v W' := by
  have hW' := hW
  obtain ⟨p, q, hA0, hV, rfl, hfz, hnd⟩ := hW
  have hA : DataW.TrodAll enc Tryz.prog W 0 (fun _ => true) true Tryz.f8.params.toList args.toList ds p := hA0
  rw [Tryz.params8] at hA hval
  obtain ⟨v0, vs0, d0, ds0, p0, q0, hargs, rfl, rfl, h0, r0⟩ := trodAll_cons hA
  obtain ⟨v1, vs1, d1, ds1, p1, q1, rfl, rfl, rfl, h1, r1⟩ := trodAll_cons r0
  obtain ⟨rfl, rfl, rfl⟩ := trodAll_nil r1
  obtain rfl : args = #[v0, v1] := by cases args; simp_all
  obtain ⟨rfl, rfl⟩ := trodVars_none hV
  obtain ⟨n0_0, rfl⟩ := open_text (by kernel_rfl) (hval 0 9 v0 rfl rfl)
  obtain ⟨n1_0, rfl⟩ := open_text (by kernel_rfl) (hval 1 9 v1 rfl rfl)
  refine (rational_muls n0_0 n1_0 W (rationalMuls_table hL) (rationalMuls_maxlen hsh)).mono fun e W' ⟨he, hg⟩ => ?_
  subst he
  exact ⟨_, rfl, law_post (tb := 4) laidOut (by kernel_rfl) (by kernel_rfl) (by kernel_rfl) rfl hW' rfl hg⟩
noncomputable def rationalMuls_world (os : Os) : World := World.laidAll Tryz.prog os Rows.rationalMulsRow.laid
theorem rationalMuls_met (os : Os) : laidMet Tryz.prog Rows.rationalMulsRow.laid ((rationalMuls_world os).forCall (fun _ _ => 0) ⟨#[], #[.string ⟨#[]⟩, .string ⟨#[]⟩], []⟩).memory :=
  laidMet_laidAll _ (by kernel_rfl) (by kernel_rfl)
theorem rationalMuls_reads (os : Os) {H : Type} (enc : TypeId × Value → H) : ∃ places, DataW.whole enc Tryz.prog ((rationalMuls_world os).forCall (fun _ _ => 0) ⟨#[], #[.string ⟨#[]⟩, .string ⟨#[]⟩], []⟩).memory Tryz.f8.params.toList Rows.rationalMulsSpec.vars false (#[.string ⟨#[]⟩, .string ⟨#[]⟩] : Array Value).toList 8 = some ([.lit (.string []), .lit (.string [])], [], places) :=
  ⟨[], by kernel_rfl⟩
set_option maxRecDepth 100000 in
theorem rationalMuls_lifted (os : Os) (started : os.Started) (H : Type) (enc : TypeId × Value → H) (F : Stop.Interp) :
    ReturnsInHanded {} Tryz.checked os 8 .any ((OpenSpec.ofChange Rows.rationalMulsSpec).preRow enc Tryz.prog Tryz.f8 Rows.rationalMulsRow.domain false Rows.rationalMulsRow.laid) (((OpenSpec.ofChange Rows.rationalMulsSpec).at F).post enc Tryz.prog Tryz.f8 false true false false) := by
  obtain ⟨places, hx⟩ := rationalMuls_reads os enc
  refine returnsInHanded_of_row (C := Tryz.checked) (s := OpenSpec.ofChange Rows.rationalMulsSpec) own started (by kernel_rfl) Tryz.func8
    (witness_row_sh (enc := enc) (C := Tryz.checked) false (rationalMuls_world os) #[.string ⟨#[]⟩, .string ⟨#[]⟩] (World.laidAll_os _ _ _) (World.shaped_of_ZipB (by kernel_rfl) (by kernel_rfl)) (by kernel_rfl)
      (OpenSpec.preRow_of_cond 8 hx (by kernel_rfl) (fun k hk => by cases hk) (by kernel_rfl) (by rw [MakeChecks.laidMetH_plain _ _ _ (by kernel_rfl)]; exact rationalMuls_met os))) ?_
  intro W base args ds gs before hval hW _ _ _ hL hsh _
  exact rationalMuls_contract H enc W base args ds gs before hval hW hL hsh
theorem rationalMuls_said : Rows.RationalMulsSaid :=
  OpenClaim.holds_of_cond 8 Tryz.f8 rfl rfl rfl rfl rfl rfl rfl ⟨rfl, rfl, rfl, rfl, rfl⟩ rfl rfl rfl rfl rfl (by kernel_rfl) Tryz.func8 (by kernel_rfl)
    (of_decide_eq_true (by kernel_rfl)) (by unfold Func.isWrapper; first | (rw [if_pos (by decide +kernel)]; kernel_rfl) | (rw [if_neg (by decide +kernel)]; exact ⟨rfl, rfl⟩))
    (fun os started H enc _ F => by rw [OpenClaim.pre_eq_preRow]; exact rationalMuls_lifted os started H enc F)
theorem rationalMuls_plain (f : FuncId) (fn : Func) (hf : Tryz.pinned.checked.prog.funcNamed "dowel/dowellaw02.RationalMuls" = some f) (hfn : Tryz.pinned.checked.prog.funcs[f]? = some fn) :
    true = Tryz.pinned.checked.prog.looks [] ∧ ∀ (j : Nat) t, fn.params[j]? = some t → Tryz.pinned.checked.prog.wantsStandIn t = false := by
  obtain rfl : f = 8 := Option.some.inj ((show Tryz.prog.funcNamed "dowel/dowellaw02.RationalMuls" = some 8 by kernel_rfl).symm.trans hf) |>.symm
  obtain rfl : fn = Tryz.f8 := (Option.some.inj (Tryz.func8.symm.trans hfn)).symm
  refine ⟨by kernel_rfl, fun j t ht => ?_⟩
  rw [Tryz.params8] at ht
  have hm := Array.mem_of_getElem? ht
  have hall : (#[9, 9] : Array TypeId).toList.all (fun t => !Tryz.prog.wantsStandIn t) = true := by kernel_rfl
  have := List.all_eq_true.1 hall t (Array.mem_toList_iff.2 hm)
  have h3 : Tryz.prog.wantsStandIn t = false := by simpa using this
  exact h3
/-- the card -/
theorem rationalMuls_card : Rows.RationalMulsCardSaid :=
  Claim7.holds_tied_plain_at .later [] _ _ _ _ rationalMuls_said (fun _ h => by cases h) (by kernel_rfl) (fun _ h => by cases h) rationalMuls_row_tie rfl ⟨rfl, rfl⟩ (by kernel_rfl) rfl rationalMuls_plain (by kernel_rfl)
end Go.Proofs.YtloocadjbpgldaaGreatDoor
