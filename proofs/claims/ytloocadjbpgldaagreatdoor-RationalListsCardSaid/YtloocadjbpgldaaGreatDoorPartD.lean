/- Joined of: Rat2, Gen33, Gen34, Ten, TenM, TenT, Ck, Ck2, R1a, R1b, R1c, R1d, R1e, Gen30, R1f, R1g, R1h, R1i, R1j, R2a, Gen31. -/
import Derived.Test.YtloocadjbpgldaaGreatDoorPartC
import Derived.Test.YtloocadjbpgldaaGreatDoorPartB
import Init.Data.Rat.Lemmas
import Derived.Test.YtloocadjbpgldaaGreatDoorPartA
import Derived.Laws.IdiomStrings
/- reduced for every denominator but 0. -/
namespace Go.Proofs.YtloocadjbpgldaaGreatDoor
open Go.RowKit

theorem reduced_a {k m : Nat} (K : Nat) {n0 n1 d0 d1 : Value} {N D : Int} {w : World} (hn : IsInt w k n0 n1 N) (hd : IsInt w m d0 d1 D) (h0 : D ≠ 0) (h1 : k ≤ K) (h2 : m ≤ K) (h3 : 64 ≤ K) (h4 : 8 * K ≤ 1000000) :
    Calls Tryz.prog 80 #[.agg #[n0, n1], .agg #[d0, d1]] w fun e w' => (∃ c0 c1 c2 c3, e = .returned (.agg #[c0, c1, c2, c3]) ∧ IsRat w' K c0 c1 c2 c3 (Rat.divInt N D)) ∧ Gr w w' := by
  rcases Int.lt_or_gt_of_ne h0 with hneg | hpos
  · have hN := hn.mono h1
    have hD := hd.mono h2
    have hp : 0 < -D := by omega
    have e0 : Rat.divInt N D = Rat.divInt (-N) (-D) := (Rat.neg_divInt_neg N D).symm
    have en : (Rat.divInt N D).num = (-N) / (Int.gcd (-N) (-D) : Int) := by
      rw [e0, Rat.num_divInt, Int.sign_eq_one_of_pos hp, Int.one_mul, Int.gcd_comm]
    have ed : ((Rat.divInt N D).den : Int) = (-D) / (Int.gcd (-N) (-D) : Int) := by
      rw [e0, Rat.den_divInt, if_neg (by omega), Int.gcd_comm, Int.natCast_ediv]
      congr 1
      omega
    have hg0 : 0 < (Int.gcd (-N) (-D) : Int) := by
      have : Int.gcd (-N) (-D) ≠ 0 := by rw [Ne, Int.gcd_eq_zero_iff]; omega
      omega
    by_cases hg : (Int.gcd (-N) (-D) : Int) = 1
    · refine (reduced_n1 hN hD (by omega) hneg (by rw [hg]; rfl)).mono ?_
      rintro e w1 ⟨⟨x, y, x2, y2, he, hi, hi2⟩, g⟩
      rw [hg, Int.ediv_one] at en ed
      exact ⟨⟨x, y, x2, y2, he, by rw [en]; exact hi, ⟨_, hi2, .inl ed.symm⟩, h3⟩, g⟩
    · have hb : (sgn ((Int.gcd (-N) (-D) : Int) - 1) != 0) = true := by
        have : sgn ((Int.gcd (-N) (-D) : Int) - 1) ≠ 0 := fun h => hg (by have := sgn_eq_zero.1 h; omega)
        simpa using this
      refine (reduced_ng hN hD (by omega) hneg hb ⟨hg0, Int.gcd_dvd_left ..⟩ ⟨hg0, Int.gcd_dvd_right ..⟩).mono ?_
      rintro e w1 ⟨⟨x, y, x2, y2, he, hi, hi2⟩, g⟩
      exact ⟨⟨x, y, x2, y2, he, by rw [en]; exact hi, ⟨_, hi2, .inl ed.symm⟩, h3⟩, g⟩
  · exact reduced_i K hn hd hpos h1 h2 h3 h4
theorem IsInt.abs {w : World} {k : Nat} {x y : Value} {z : Int} (h : IsInt w k x y z) : IsInt w k (.bool false) y (z.natAbs : Int) := by
  obtain ⟨ao, len, cap, h1, h2, h3, h4⟩ := h
  refine ⟨ao, len, cap, ?_, h2, ?_, h4.nat⟩
  · have : decide ((z.natAbs : Int) < 0) = false := by simp
    rw [this]
  · rw [Int.natAbs_natCast]; exact h3
end Go.Proofs.YtloocadjbpgldaaGreatDoor
/- Printed by a program of the prover's: the texts of rationals; Make. -/
namespace Go.Proofs.YtloocadjbpgldaaGreatDoor
open Go.RowKit

set_option maxRecDepth 100000 in
set_option maxHeartbeats 1000000 in
theorem number_w {k : Nat} {u0 u1 u2 u3 : Value} {a : Rat} {w : World} (ha : IsRat w k u0 u1 u2 u3 a) (_hk : k ≤ 800000) (ht : Tab w) (hw : a.den = 1) :
    Calls Tryz.prog 64 #[(.agg #[u0, u1, u2, u3])] w fun e w' => e = .returned (.string ⟨(ratL a).toArray⟩) ∧ Gr w w' := by
 go_enter Tryz.func64, Tryz.ntmps64
 have hB := Gr.refl w
 refine wp_seq_k (fun K1 k1 => ?_)
 refine rg [0, 1] ?_
 refine se ?_
 refine eb 31 #[u0, u1, u2, u3] 1 hB fun b2 w2 g2 L2 o2 q2 hB => ?_
 simp only [p3, p4]
 refine sv 2 (.string ⟨([] : List UInt8).toArray⟩) ?_
 simp only [p3, p4]
 refine sq_nil ?_
 refine k1 _ _ ?_
 try clear k1 K1
 refine wp_seq_k (fun K3 k3 => ?_)
 refine wp_seq_k (fun K4 k4 => ?_)
 refine rg [0, 1] ?_
 refine sw 3 (.agg #[u0, u1, u2, u3]) rfl (rl 31 0 [u0, u1, u2, u3] L2) ?_
 simp only [p3, p4]
 refine se ?_
 replace ha := ha.kp g2.kp
 refine ec 4 (whole_t ha (by omega) hw) ?_
 rintro e5 w5 ⟨rfl, g5⟩
 refine ⟨_, rfl, ?_⟩
 replace hB := hB.trans g5
 simp only [p3, p4]
 refine sq_nil ?_
 refine k4 _ _ ?_
 try clear k4 K4
 refine wp_cond_true rfl ?_
 refine wp_seq_k (fun K6 k6 => ?_)
 refine rg [0, 1, 2, 3] ?_
 refine sv 5 (.pointer (some ⟨b2, 0, none⟩)) ?_
 simp only [p3, p4]
 replace L2 := L2.gr g5
 refine sw 6 (.agg #[u0, u1]) rfl (rl 27 0 [u0, u1] L2) ?_
 simp only [p3, p4]
 refine se ?_
 replace ha := ha.kp g5.kp
 refine ec 7 (text_i ha.num (by omega) (ht.gr hB)) ?_
 rintro e7 w7 ⟨rfl, g7⟩
 refine ⟨_, rfl, ?_⟩
 replace hB := hB.trans g7
 simp only [p3, p4]
 refine sv 2 (.string ⟨(Lib.itoa (a.num) : List UInt8).toArray⟩) ?_
 simp only [p3, p4]
 refine sq_nil ?_
 refine k6 _ _ ?_
 try clear k6 K6
 refine wp_ret ?_
 simp only [Exit.then]
 refine bodyPost_ret (v := (.string ⟨(Lib.itoa (a.num) : List UInt8).toArray⟩)) (ret_tmp rfl rfl) rfl ⟨?_, hB⟩
 exact (by rw [ratL_w hw])

set_option maxRecDepth 100000 in
set_option maxHeartbeats 1000000 in
theorem number_d {k : Nat} {u0 u1 u2 u3 : Value} {a : Rat} {w : World} (ha : IsRat w k u0 u1 u2 u3 a) (_hk : k ≤ 800000) (ht : Tab w) (hd : IsInt w k u2 u3 (a.den : Int)) (hw : ¬ a.den = 1) :
    Calls Tryz.prog 64 #[(.agg #[u0, u1, u2, u3])] w fun e w' => e = .returned (.string ⟨(ratL a).toArray⟩) ∧ Gr w w' := by
 have hl1 := itoa_len ha.num.sz
 have hl2 := itoa_len hd.sz
 go_enter Tryz.func64, Tryz.ntmps64
 have hB := Gr.refl w
 refine wp_seq_k (fun K1 k1 => ?_)
 refine rg [0, 1] ?_
 refine se ?_
 refine eb 31 #[u0, u1, u2, u3] 1 hB fun b2 w2 g2 L2 o2 q2 hB => ?_
 simp only [p3, p4]
 refine sv 2 (.string ⟨([] : List UInt8).toArray⟩) ?_
 simp only [p3, p4]
 refine sq_nil ?_
 refine k1 _ _ ?_
 try clear k1 K1
 refine wp_seq_k (fun K3 k3 => ?_)
 refine wp_seq_k (fun K4 k4 => ?_)
 refine rg [0, 1] ?_
 refine sw 3 (.agg #[u0, u1, u2, u3]) rfl (rl 31 0 [u0, u1, u2, u3] L2) ?_
 simp only [p3, p4]
 refine se ?_
 replace ha := ha.kp g2.kp
 refine ec 4 (whole_f ha (by omega) hw) ?_
 rintro e5 w5 ⟨rfl, g5⟩
 refine ⟨_, rfl, ?_⟩
 replace hB := hB.trans g5
 simp only [p3, p4]
 refine sq_nil ?_
 refine k4 _ _ ?_
 try clear k4 K4
 refine wp_cond_false rfl ?_
 refine wp_skip ?_
 refine k3 _ _ ?_
 try clear k3 K3
 refine wp_seq_k (fun K6 k6 => ?_)
 have gd14 := Gr.drew w5
 replace hB := hB.trans gd14
 replace L2 := L2.gr (g5.trans gd14)
 refine wp_region_ord (fun w' => Lc w' b2 #[u0, u1, u2, u3] 31) [(true, 0), (true, 1), (true, 4), (true, 5), (false, 2), (true, 3), (false, 6), (true, 7), (true, 8)] (by kernel_rfl) (by kernel_rfl) (by kernel_rfl) (by decide) (fun _ _ _ _ _ h => h) L2 ?_
 refine ov 8 (.pointer (some ⟨b2, 0, none⟩)) ?_
 simp only [p3, p4]
 refine ow 9 (.agg #[u0, u1]) rfl (fun w' hS => (rl 27 0 [u0, u1] hS)) ?_
 simp only [p3, p4]
 refine ov 12 (.pointer (some ⟨b2, 2, none⟩)) ?_
 simp only [p3, p4]
 refine ow 13 (.agg #[u2, u3]) rfl (fun w' hS => (rl 27 2 [u2, u3] hS)) ?_
 simp only [p3, p4]
 refine oe ?_
 have kq17 := g5.kp.trans gd14.kp
 replace ha := ha.kp kq17
 refine ec 10 (text_i ha.num (by omega) (ht.gr hB)) ?_
 rintro e16 w16 ⟨rfl, g16⟩
 refine ⟨_, rfl, ?_⟩
 replace hB := hB.trans g16
 replace L2 := L2.gr g16
 refine ⟨L2, ?_⟩
 simp only [p3, p4]
 refine ow 11 (.string ⟨((Lib.itoa (a.num)) ++ ([47]) : List UInt8).toArray⟩) rfl (fun w' hS => (rv_cat 9 9 _ _ (Lib.itoa (a.num)) ([47]) rfl rfl rfl (by simp only [List.length_cons, List.length_nil]; omega))) ?_
 simp only [p3, p4]
 refine oe ?_
 have kq20 := g2.kp.trans (g5.kp.trans (gd14.kp.trans g16.kp))
 replace hd := hd.kp kq20
 refine ec 14 (text_i hd (by omega) (ht.gr hB)) ?_
 rintro e19 w19 ⟨rfl, g19⟩
 refine ⟨_, rfl, ?_⟩
 replace hB := hB.trans g19
 replace L2 := L2.gr g19
 refine ⟨L2, ?_⟩
 simp only [p3, p4]
 refine ow 15 (.string ⟨(((Lib.itoa (a.num)) ++ ([47])) ++ (Lib.itoa ((a.den : Int))) : List UInt8).toArray⟩) rfl (fun w' hS => (rv_cat 9 9 _ _ ((Lib.itoa (a.num)) ++ ([47])) (Lib.itoa ((a.den : Int))) rfl rfl rfl (by simp only [List.length_append, List.length_cons, List.length_nil]; omega))) ?_
 simp only [p3, p4]
 refine ov 2 (.string ⟨(((Lib.itoa (a.num)) ++ ([47])) ++ (Lib.itoa ((a.den : Int))) : List UInt8).toArray⟩) ?_
 simp only [p3, p4]
 refine ord_nil ?_
 refine k6 _ _ ?_
 try clear k6 K6
 refine wp_ret ?_
 refine bodyPost_ret (v := (.string ⟨(((Lib.itoa (a.num)) ++ ([47])) ++ (Lib.itoa ((a.den : Int))) : List UInt8).toArray⟩)) (ret_tmp rfl rfl) rfl ⟨?_, hB⟩
 exact (by rw [ratL_f hw])

theorem number_r {k : Nat} {u0 u1 u2 u3 : Value} {a : Rat} {w : World} (ha : IsRat w k u0 u1 u2 u3 a) (hk : k ≤ 800000) (ht : Tab w) :
    Calls Tryz.prog 64 #[.agg #[u0, u1, u2, u3]] w fun e w' => e = .returned (.string ⟨(ratL a).toArray⟩) ∧ Gr w w' := by
  by_cases hw : a.den = 1
  · exact number_w ha hk ht hw
  · obtain ⟨D, h2, h3⟩ := ha.den
    rcases h3 with h3 | ⟨_, h4⟩
    · subst h3; exact number_d ha hk ht h2 hw
    · exact absurd h4 hw

end Go.Proofs.YtloocadjbpgldaaGreatDoor
/- Printed by a program of the prover's: Make, Floor, Ceil, Abs. -/
namespace Go.Proofs.YtloocadjbpgldaaGreatDoor
open Go.RowKit

set_option maxRecDepth 100000 in
set_option maxHeartbeats 1000000 in
theorem make_a {k m : Nat} (K : Nat) {n0 n1 d0 d1 : Value} {N D : Int} {w : World} (hn : IsInt w k n0 n1 N) (hd : IsInt w m d0 d1 D) (hD : D ≠ 0) (_h1 : k ≤ K) (_h2 : m ≤ K) (_h3 : 64 ≤ K) (_h4 : 8 * K ≤ 1000000) :
    Calls Tryz.prog 18 #[(.agg #[n0, n1]), (.agg #[d0, d1])] w fun e w' => (∃ c0 c1 c2 c3, e = .returned (.tuple #[.agg #[c0, c1, c2, c3], .int .i64 0]) ∧ IsRat w' K c0 c1 c2 c3 (Rat.divInt N D)) ∧ Gr w w' := by
 have he : (sgn D == (0 : Int)) = false := by rw [beq_eq_false_iff_ne]; exact fun e => hD (sgn_eq_zero.1 e)
 go_enter Tryz.func18, Tryz.ntmps18
 have hB := Gr.refl w
 refine wp_seq_k (fun K1 k1 => ?_)
 refine rg [0, 1, 2, 3] ?_
 refine se ?_
 refine eb 27 #[n0, n1] 2 hB fun b2 w2 g2 L2 o2 q2 hB => ?_
 simp only [p3, p4]
 refine se ?_
 refine eb 27 #[d0, d1] 3 hB fun b3 w3 g3 L3 o3 q3 hB => ?_
 simp only [p3, p4]
 refine se ?_
 refine ea 31 #[(.bool false), (.slice none 0 0), (.bool false), (.slice none 0 0)] 4 hB fun b4 w4 g4 L4 o4 q4 hB => ?_
 replace L2 := L2.gr g3
 simp only [p3, p4]
 refine sv 5 (.int .i64 0) ?_
 simp only [p3, p4]
 refine sq_nil ?_
 refine k1 _ _ ?_
 try clear k1 K1
 refine wp_seq_k (fun K5 k5 => ?_)
 refine wp_seq_k (fun K6 k6 => ?_)
 refine rg [0, 1, 2] ?_
 replace L3 := L3.gr g4
 refine sw 6 (.agg #[d0, d1]) rfl (rl 27 0 [d0, d1] L3) ?_
 simp only [p3, p4]
 refine se ?_
 have kq8 := g2.kp.trans (g3.kp.trans g4.kp)
 replace hd := hd.kp kq8
 refine ec 7 (sign_i hd) ?_
 rintro e7 w7 ⟨rfl, g7⟩
 refine ⟨_, rfl, ?_⟩
 replace hB := hB.trans g7
 simp only [p3, p4]
 refine sw 8 (.bool false) rfl (RunV.bool (x := (sgn (D) == (0 : Int))) (rvk (by kernel_rfl)) he) ?_
 simp only [p3, p4]
 refine sq_nil ?_
 refine k6 _ _ ?_
 try clear k6 K6
 refine wp_cond_false rfl ?_
 refine wp_skip ?_
 refine k5 _ _ ?_
 try clear k5 K5
 refine wp_seq_k (fun K9 k9 => ?_)
 refine rg [0, 1, 2, 3, 4] ?_
 replace L2 := L2.gr (g4.trans g7)
 refine sw 10 (.agg #[n0, n1]) rfl (rl 27 0 [n0, n1] L2) ?_
 simp only [p3, p4]
 replace L3 := L3.gr g7
 refine sw 11 (.agg #[d0, d1]) rfl (rl 27 0 [d0, d1] L3) ?_
 simp only [p3, p4]
 refine se ?_
 have kq11 := g2.kp.trans (g3.kp.trans (g4.kp.trans g7.kp))
 replace hn := hn.kp kq11
 replace hd := hd.kp g7.kp
 refine ec 12 (reduced_a (K) hn hd hD (by omega) (by omega) (by omega) (by omega)) ?_
 rintro e10 w10 ⟨⟨p10, q10, r10, s10, rfl, h10⟩, g10⟩
 refine ⟨_, rfl, ?_⟩
 replace hB := hB.trans g10
 simp only [p3, p4]
 refine se ?_
 replace L4 := L4.gr (g7.trans g10)
 refine es 31 0 (.agg #[p10, q10, r10, s10]) [p10, q10, r10, s10] #[p10, q10, r10, s10] L4 hB q4 ⟨h10.one0, h10.one1, h10.one2, h10.one3, trivial⟩ fun w12 st12 kp12 L4 hB => ?_
 refine sv 5 (.int .i64 0) ?_
 simp only [p3, p4]
 refine sq_nil ?_
 refine k9 _ _ ?_
 try clear k9 K9
 refine wp_ret ?_
 refine bodyPost_ret (v := (.tuple #[(.agg #[p10, q10, r10, s10]), (.int .i64 0)])) (ret_cell_tmp' _ _ _ rfl rfl L4 (by kernel_rfl) rfl) rfl ⟨?_, hB⟩
 replace h10 := h10.kp kp12
 exact ⟨_, _, _, _, rfl, h10⟩

set_option maxRecDepth 100000 in
set_option maxHeartbeats 1000000 in
theorem make_0 {k m : Nat} {n0 n1 d0 d1 : Value} {N : Int} {w : World} (_hn : IsInt w k n0 n1 N) (hd : IsInt w m d0 d1 0) :
    Calls Tryz.prog 18 #[(.agg #[n0, n1]), (.agg #[d0, d1])] w fun e w' => e = .returned (.tuple #[.agg #[.bool false, .slice none 0 0, .bool false, .slice none 0 0], .int .i64 19]) ∧ Gr w w' := by
 go_enter Tryz.func18, Tryz.ntmps18
 have hB := Gr.refl w
 refine wp_seq_k (fun K1 k1 => ?_)
 refine rg [0, 1, 2, 3] ?_
 refine se ?_
 refine eb 27 #[n0, n1] 2 hB fun b2 w2 g2 L2 o2 q2 hB => ?_
 simp only [p3, p4]
 refine se ?_
 refine eb 27 #[d0, d1] 3 hB fun b3 w3 g3 L3 o3 q3 hB => ?_
 simp only [p3, p4]
 refine se ?_
 refine ea 31 #[(.bool false), (.slice none 0 0), (.bool false), (.slice none 0 0)] 4 hB fun b4 w4 g4 L4 o4 q4 hB => ?_
 simp only [p3, p4]
 refine sv 5 (.int .i64 0) ?_
 simp only [p3, p4]
 refine sq_nil ?_
 refine k1 _ _ ?_
 try clear k1 K1
 refine wp_seq_k (fun K5 k5 => ?_)
 refine wp_seq_k (fun K6 k6 => ?_)
 refine rg [0, 1, 2] ?_
 replace L3 := L3.gr g4
 refine sw 6 (.agg #[d0, d1]) rfl (rl 27 0 [d0, d1] L3) ?_
 simp only [p3, p4]
 refine se ?_
 have kq8 := g2.kp.trans (g3.kp.trans g4.kp)
 replace hd := hd.kp kq8
 refine ec 7 (sign_zero hd) ?_
 rintro e7 w7 ⟨rfl, g7⟩
 refine ⟨_, rfl, ?_⟩
 replace hB := hB.trans g7
 simp only [p3, p4]
 refine sv 8 (.bool true) ?_
 simp only [p3, p4]
 refine sq_nil ?_
 refine k6 _ _ ?_
 try clear k6 K6
 refine wp_cond_true rfl ?_
 refine wp_seq_k (fun K9 k9 => ?_)
 refine rg [0, 1, 2] ?_
 refine sv 9 (.agg #[(.bool false), (.slice none 0 0), (.bool false), (.slice none 0 0)]) ?_
 simp only [p3, p4]
 refine se ?_
 replace L4 := L4.gr g7
 refine es 31 0 (.agg #[(.bool false), (.slice none 0 0), (.bool false), (.slice none 0 0)]) [(.bool false), (.slice none 0 0), (.bool false), (.slice none 0 0)] #[(.bool false), (.slice none 0 0), (.bool false), (.slice none 0 0)] L4 hB q4 ⟨rfl, rfl, rfl, rfl, trivial⟩ fun w10 st10 kp10 L4 hB => ?_
 refine sv 5 (.int .i64 19) ?_
 simp only [p3, p4]
 refine sq_nil ?_
 refine k9 _ _ ?_
 try clear k9 K9
 refine wp_ret ?_
 simp only [Exit.then]
 refine bodyPost_ret (v := (.tuple #[(.agg #[(.bool false), (.slice none 0 0), (.bool false), (.slice none 0 0)]), (.int .i64 19)])) (ret_cell_tmp' _ _ _ rfl rfl L4 (by kernel_rfl) rfl) rfl ⟨?_, hB⟩
 exact rfl

set_option maxRecDepth 100000 in
set_option maxHeartbeats 1000000 in
theorem floor_r {k : Nat} {u0 u1 u2 u3 : Value} {a : Rat} {w : World} (ha : IsRat w k u0 u1 u2 u3 a) (_hk : k ≤ 100000) :
    Calls Tryz.prog 38 #[(.agg #[u0, u1, u2, u3])] w fun e w' => (∃ x' y', e = .returned (.agg #[x', y']) ∧ IsInt w' k x' y' (a.num / (a.den : Int))) ∧ Gr w w' := by
 go_enter Tryz.func38, Tryz.ntmps38
 have hB := Gr.refl w
 refine wp_seq_k (fun K1 k1 => ?_)
 refine rg [0, 1] ?_
 refine se ?_
 refine eb 31 #[u0, u1, u2, u3] 1 hB fun b2 w2 g2 L2 o2 q2 hB => ?_
 simp only [p3, p4]
 refine se ?_
 refine ea 27 #[(.bool false), (.slice none 0 0)] 2 hB fun b3 w3 g3 L3 o3 q3 hB => ?_
 simp only [p3, p4]
 refine sq_nil ?_
 refine k1 _ _ ?_
 try clear k1 K1
 refine wp_seq_k (fun K4 k4 => ?_)
 have hz5 := Below.size hB
 replace L2 := L2.gr g3
 have lt2_5 := L2.lt
 have lt3_5 := L3.lt
 have gd5 := Gr.drew w3
 replace hB := hB.trans gd5
 replace L2 := L2.gr gd5
 refine wp_region_flo (fun w' => Lc w' b2 #[u0, u1, u2, u3] 31) [(true, 0), (true, 1), (true, 2), (false, 3), (false, 4), (true, 5), (true, 6), (true, 7), (true, 8)] [⟨9, 3, 27, #[(.bool false), (.slice none 0 0)]⟩, ⟨10, 4, 27, #[(.bool false), (.slice none 0 0)]⟩] [(false, 11), (false, 12), (true, 13)] (by kernel_rfl) (by kernel_rfl) (by kernel_rfl) (by kernel_rfl) (by kernel_rfl) (by decide) (fun _ _ _ _ _ h => h) (fun _ _ _ _ _ h => h) (fun w' o h => Lc.gr h (Gr.alloc w' o)) L2 (by intro f hf; simp only [List.mem_cons, List.not_mem_nil, or_false] at hf; rcases hf with rfl | rfl <;> first | exact alloc_zero (z := (.agg #[(.bool false), (.slice none 0 0)])) (by kernel_rfl) rfl | exact alloc_zero (z := (.agg #[(.bool false), (.slice none 0 0)])) (by kernel_rfl) rfl) ?_
 refine fv 7 (.pointer (some ⟨b2, 0, none⟩)) ?_
 simp only [p3, p4]
 refine fw 8 (.agg #[u0, u1]) rfl (fun w' hS => (rl 27 0 [u0, u1] hS)) ?_
 simp only [p3, p4]
 refine fw 9 (.agg #[u0, u1, u2, u3]) rfl (fun w' hS => (rl 31 0 [u0, u1, u2, u3] hS)) ?_
 simp only [p3, p4]
 refine flo_eff rfl rfl (fun w6 g6 _ K6 k6 => ?_)
 replace hB := hB.trans g6
 have kq8 := g2.kp.trans (g3.kp.trans (gd5.kp.trans g6.kp))
 replace ha := ha.kp kq8
 refine ec 10 (den_i ha) ?_
 rintro e7 w7 ⟨⟨x7, y7, rfl, h7⟩, g7⟩
 refine ⟨_, rfl, ?_⟩
 replace hB := hB.trans g7
 replace L2 := L2.gr (g6.trans g7)
 refine k6 _ _ g7 L2 ?_
 try clear k6 K6
 simp only [p3, p4]
 refine flo_eff rfl rfl (fun w9 g9 _ K9 k9 => ?_)
 replace hB := hB.trans g9
 have kq11 := g7.kp.trans g9.kp
 replace ha := ha.kp kq11
 replace h7 := h7.kp g9.kp
 refine ec 11 (divmod_i ha.num h7 (Int.natCast_pos.2 (Rat.den_pos _)) (by omega)) ?_
 rintro e10 w10 ⟨⟨x10, y10, xr10, yr10, rfl, h10, hr10⟩, g10⟩
 refine ⟨_, rfl, ?_⟩
 replace hB := hB.trans g10
 replace L2 := L2.gr (g9.trans g10)
 refine k9 _ _ g10 L2 ?_
 try clear k9 K9
 simp only [p3, p4]
 refine fv 6 (.tuple #[(.agg #[x10, y10]), (.agg #[xr10, yr10]), (.int .i64 0)]) ?_
 simp only [p3, p4]
 refine fv 12 (.agg #[x10, y10]) ?_
 simp only [p3, p4]
 refine fv 13 (.agg #[xr10, yr10]) ?_
 simp only [p3, p4]
 refine fv 14 (.int .i64 0) ?_
 simp only [p3, p4]
 refine flo_nil (fun w12 g12 _ => ?_)
 replace hB := hB.trans g12
 refine floFin2 (fun b13 b14 (L13 : Lc w12 b13 #[(.bool false), (.slice none 0 0)] 27) q13 (L14 : Lc w12 b14 #[(.bool false), (.slice none 0 0)] 27) q14 ne13_14 => ?_)
 have ne2_13 : b2 ≠ b13 := Nat.ne_of_lt (Nat.lt_of_lt_of_le lt2_5 q13)
 have ne3_13 : b3 ≠ b13 := Nat.ne_of_lt (Nat.lt_of_lt_of_le lt3_5 q13)
 replace q13 := Nat.le_trans hz5 q13
 have ne2_14 : b2 ≠ b14 := Nat.ne_of_lt (Nat.lt_of_lt_of_le lt2_5 q14)
 have ne3_14 : b3 ≠ b14 := Nat.ne_of_lt (Nat.lt_of_lt_of_le lt3_5 q14)
 replace q14 := Nat.le_trans hz5 q14
 simp only [putl, p3, p4]
 refine oe ?_
 refine es 27 0 (.agg #[x10, y10]) [x10, y10] #[x10, y10] L13 hB q13 ⟨h10.one0, h10.one1, trivial⟩ fun w16 st16 kp16 L13 hB => ?_
 replace L2 := st16.lc (L2.gr g12) ne2_13
 refine ⟨L2, ?_⟩
 refine oe ?_
 replace L14 := st16.lc L14 (Ne.symm ne13_14)
 refine es 27 0 (.agg #[xr10, yr10]) [xr10, yr10] #[xr10, yr10] L14 hB q14 ⟨hr10.one0, hr10.one1, trivial⟩ fun w18 st18 kp18 L14 hB => ?_
 replace L2 := st18.lc L2 ne2_14
 refine ⟨L2, ?_⟩
 refine ov 5 (.int .i64 0) ?_
 simp only [p3, p4]
 refine ord_nil ?_
 refine k4 _ _ ?_
 try clear k4 K4
 refine wp_seq_k (fun K19 k19 => ?_)
 refine rg [0, 1] ?_
 replace L13 := st18.lc L13 ne13_14
 refine sw 15 (.agg #[x10, y10]) rfl (rl 27 0 [x10, y10] L13) ?_
 simp only [p3, p4]
 refine se ?_
 replace L3 := st18.lc (st16.lc (L3.gr (gd5.trans (g6.trans (g7.trans (g9.trans (g10.trans g12)))))) ne3_13) ne3_14
 refine es 27 0 (.agg #[x10, y10]) [x10, y10] #[x10, y10] L3 hB q3 ⟨h10.one0, h10.one1, trivial⟩ fun w20 st20 kp20 L3 hB => ?_
 refine sq_nil ?_
 refine k19 _ _ ?_
 try clear k19 K19
 refine wp_ret ?_
 refine bodyPost_ret (v := (.agg #[x10, y10])) (ret_cell _ _ _ rfl rfl L3 (by kernel_rfl)) rfl ⟨?_, hB⟩
 have kq21 := g12.kp.trans (kp16.trans (kp18.trans kp20))
 replace h10 := h10.kp kq21
 exact ⟨_, _, rfl, h10⟩

set_option maxRecDepth 100000 in
set_option maxHeartbeats 1000000 in
theorem ceil_r {k : Nat} {u0 u1 u2 u3 : Value} {a : Rat} {w : World} (ha : IsRat w k u0 u1 u2 u3 a) (_hk : k ≤ 100000) :
    Calls Tryz.prog 39 #[(.agg #[u0, u1, u2, u3])] w fun e w' => (∃ x' y', e = .returned (.agg #[x', y']) ∧ IsInt w' k x' y' (-((-a).num / ((-a).den : Int)))) ∧ Gr w w' := by
 go_enter Tryz.func39, Tryz.ntmps39
 have hB := Gr.refl w
 refine wp_seq_k (fun K1 k1 => ?_)
 refine rg [0, 1] ?_
 refine se ?_
 refine eb 31 #[u0, u1, u2, u3] 1 hB fun b2 w2 g2 L2 o2 q2 hB => ?_
 simp only [p3, p4]
 refine se ?_
 refine ea 27 #[(.bool false), (.slice none 0 0)] 2 hB fun b3 w3 g3 L3 o3 q3 hB => ?_
 simp only [p3, p4]
 refine sq_nil ?_
 refine k1 _ _ ?_
 try clear k1 K1
 refine wp_seq_k (fun K4 k4 => ?_)
 refine rg [0, 1, 2, 3, 4] ?_
 replace L2 := L2.gr g3
 refine sw 3 (.agg #[u0, u1, u2, u3]) rfl (rl 31 0 [u0, u1, u2, u3] L2) ?_
 simp only [p3, p4]
 refine se ?_
 have kq6 := g2.kp.trans g3.kp
 replace ha := ha.kp kq6
 refine ec 4 (neg_r ha ) ?_
 rintro e5 w5 ⟨⟨p5, q5, r5, s5, rfl, h5⟩, g5⟩
 refine ⟨_, rfl, ?_⟩
 replace hB := hB.trans g5
 simp only [p3, p4]
 refine se ?_
 refine ec 5 (floor_r h5 (by omega)) ?_
 rintro e7 w7 ⟨⟨x7, y7, rfl, h7⟩, g7⟩
 refine ⟨_, rfl, ?_⟩
 replace hB := hB.trans g7
 simp only [p3, p4]
 refine se ?_
 refine ec 6 (neg_i h7 ) ?_
 rintro e8 w8 ⟨⟨x8, y8, rfl, h8⟩, g8⟩
 refine ⟨_, rfl, ?_⟩
 replace hB := hB.trans g8
 simp only [p3, p4]
 refine se ?_
 replace L3 := L3.gr (g5.trans (g7.trans g8))
 refine es 27 0 (.agg #[x8, y8]) [x8, y8] #[x8, y8] L3 hB q3 ⟨h8.one0, h8.one1, trivial⟩ fun w9 st9 kp9 L3 hB => ?_
 refine sq_nil ?_
 refine k4 _ _ ?_
 try clear k4 K4
 refine wp_ret ?_
 refine bodyPost_ret (v := (.agg #[x8, y8])) (ret_cell _ _ _ rfl rfl L3 (by kernel_rfl)) rfl ⟨?_, hB⟩
 replace h8 := h8.kp kp9
 exact ⟨_, _, rfl, h8⟩

set_option maxRecDepth 100000 in
set_option maxHeartbeats 1000000 in
theorem abs_m (s : Bool) (ao : Option Addr) (la ca : Nat) (w : World) :
    Calls Tryz.prog 101 #[(.agg #[(.bool (s)), (.slice ao la ca)])] w fun e w' => e = .returned (.agg #[.bool false, .slice ao la ca]) ∧ Gr w w' := by
 go_enter Tryz.func101, Tryz.ntmps101
 have hB := Gr.refl w
 refine wp_seq_k (fun K1 k1 => ?_)
 refine rg [0, 1] ?_
 refine se ?_
 refine eb 27 #[(.bool (s)), (.slice ao la ca)] 1 hB fun b2 w2 g2 L2 o2 q2 hB => ?_
 simp only [p3, p4]
 refine se ?_
 refine ea 27 #[(.bool false), (.slice none 0 0)] 2 hB fun b3 w3 g3 L3 o3 q3 hB => ?_
 simp only [p3, p4]
 refine sq_nil ?_
 refine k1 _ _ ?_
 try clear k1 K1
 refine wp_seq_k (fun K4 k4 => ?_)
 refine rg [0, 1, 2, 3] ?_
 refine sv 3 (.pointer (some ⟨b2, 1, none⟩)) ?_
 simp only [p3, p4]
 replace L2 := L2.gr g3
 refine sw 4 (.slice ao la ca) rfl (rk 25 1 L2) ?_
 simp only [p3, p4]
 refine sv 5 (.agg #[(.bool false), (.slice ao la ca)]) ?_
 simp only [p3, p4]
 refine se ?_
 refine es 27 0 (.agg #[(.bool false), (.slice ao la ca)]) [(.bool false), (.slice ao la ca)] #[(.bool false), (.slice ao la ca)] L3 hB q3 ⟨rfl, rfl, trivial⟩ fun w5 st5 kp5 L3 hB => ?_
 refine sq_nil ?_
 refine k4 _ _ ?_
 try clear k4 K4
 refine wp_ret ?_
 refine bodyPost_ret (v := (.agg #[(.bool false), (.slice ao la ca)])) (ret_cell _ _ _ rfl rfl L3 (by kernel_rfl)) rfl ⟨?_, hB⟩
 exact rfl

theorem abs_i {k : Nat} {x y : Value} {z : Int} {w : World} (hz : IsInt w k x y z) :
    Calls Tryz.prog 101 #[.agg #[x, y]] w fun e w' => (e = .returned (.agg #[.bool false, y]) ∧ IsInt w' k (.bool false) y (z.natAbs : Int)) ∧ Gr w w' := by
  have h := hz.abs
  obtain ⟨ao, len, cap, rfl, rfl, _, _⟩ := hz
  refine (abs_m _ ao len cap w).mono ?_
  rintro e w1 ⟨he, g⟩
  exact ⟨⟨he, h.gr g⟩, g⟩

end Go.Proofs.YtloocadjbpgldaaGreatDoor
/- Plain arithmetic of decimal digits, without the program. -/
namespace Go.Proofs.YtloocadjbpgldaaGreatDoor

/-- What is left of n behind its lowest i digits. -/
def tn (n : Int) : Nat → Int
  | 0 => n
  | i + 1 => tn n i / 10
/-- Digit number i of n. -/
def td (n : Int) (i : Nat) : Int := tn n i % 10
theorem tn_zero (n : Int) : tn n 0 = n := rfl
theorem tn_succ (n : Int) (i : Nat) : tn n (i + 1) = tn n i / 10 := rfl
theorem td_nonneg (n : Int) (i : Nat) : 0 ≤ td n i := by unfold td; omega
theorem td_lt (n : Int) (i : Nat) : td n i < 10 := by unfold td; omega
theorem tn_split (n : Int) (i : Nat) : tn n i = 10 * tn n (i + 1) + td n i := by unfold td; rw [tn_succ]; omega
theorem tn_nonneg {n : Int} (h : 0 ≤ n) : ∀ i, 0 ≤ tn n i
  | 0 => h
  | i + 1 => by have := tn_nonneg h i; rw [tn_succ]; omega
theorem tn_mono {a b : Int} (h : a ≤ b) : ∀ i, tn a i ≤ tn b i
  | 0 => h
  | i + 1 => by have := tn_mono h i; rw [tn_succ, tn_succ]; omega
theorem tn_add (n : Int) (i : Nat) : ∀ k, tn n (i + k) = tn (tn n i) k
  | 0 => rfl
  | k + 1 => by rw [← Nat.add_assoc, tn_succ, tn_add n i k, tn_succ]
theorem tn_zero_n : ∀ i, tn 0 i = 0
  | 0 => rfl
  | i + 1 => by rw [tn_succ, tn_zero_n i]; rfl
theorem tn_ge {n : Int} {i k : Nat} (h : tn n i = 0) (hk : i ≤ k) : tn n k = 0 := by
  obtain ⟨j, rfl⟩ := Nat.le.dest hk
  rw [tn_add, h, tn_zero_n]
theorem td_zero_of {n : Int} {i k : Nat} (h : tn n i = 0) (hk : i ≤ k) : td n k = 0 := by unfold td; rw [tn_ge h hk]; rfl
theorem tn_le {n : Int} (h : 0 ≤ n) (i : Nat) : tn n (i + 1) ≤ tn n i := by have := tn_nonneg h i; rw [tn_succ]; omega
theorem tn_le_of {n : Int} (h : 0 ≤ n) {i k : Nat} (hk : i ≤ k) : tn n k ≤ tn n i := by
  obtain ⟨j, rfl⟩ := Nat.le.dest hk
  induction j with
  | zero => exact Int.le_refl _
  | succ j ih => have := tn_le h (i + j); have := ih (by omega); rw [← Nat.add_assoc]; omega
/-- n has len digits, and no zeros at the end. -/
structure NX (n : Int) (len : Nat) : Prop where
  nonneg : 0 ≤ n
  top : tn n len = 0
  full : 0 < len → tn n (len - 1) ≠ 0
theorem NX.zero : NX 0 0 := ⟨Int.le_refl _, rfl, by omega⟩
theorem NX.len_zero {n : Int} {len : Nat} (h : NX n len) : len = 0 ↔ n = 0 := by
  constructor
  · rintro rfl; exact h.top
  · rintro rfl
    have := h.full
    rw [tn_zero_n] at this
    omega
theorem NX.topdig {n : Int} {len : Nat} (h : NX n len) (hl : 0 < len) : td n (len - 1) = tn n (len - 1) ∧ 0 < td n (len - 1) := by
  have h1 := h.top
  have h2 := tn_split n (len - 1)
  rw [show len - 1 + 1 = len by omega, h1] at h2
  have h3 := h.full hl
  have h4 := tn_nonneg h.nonneg (len - 1)
  omega
/-- From digits whose highest one is not 0. -/
theorem NX.mk' {n : Int} {len : Nat} (h0 : 0 ≤ n) (h1 : tn n len = 0) (h2 : 0 < len → td n (len - 1) ≠ 0) : NX n len := by
  refine ⟨h0, h1, fun hl h3 => h2 hl ?_⟩
  unfold td; rw [h3]; rfl
/-- Fewer digits, if those behind are 0. -/
theorem tn_trim {n : Int} {len : Nat} (h1 : tn n len = 0) (k : Nat) (hk : k ≤ len) (hz : ∀ j, k ≤ j → j < len → td n j = 0) : tn n k = 0 := by
  obtain ⟨j, rfl⟩ := Nat.le.dest hk
  clear hk
  induction j with
  | zero => exact h1
  | succ j ih =>
    refine ih ?_ (fun i h2 h3 => hz i h2 (by omega))
    have h2 := tn_split n (k + j)
    have h3 := hz (k + j) (by omega) (by omega)
    have h4 : tn n (k + j + 1) = 0 := h1
    omega
/-- Two numbers with the same digits are equal. -/
theorem eq_of_td {a b : Int} : ∀ (len : Nat), tn a len = 0 → tn b len = 0 → (∀ i, i < len → td a i = td b i) → a = b := by
  intro len
  have key : ∀ k, k ≤ len → tn a len = 0 → tn b len = 0 → (∀ i, i < len → td a i = td b i) → tn a (len - k) = tn b (len - k) := by
    intro k
    induction k with
    | zero => intro _ h1 h2 _; simp [h1, h2]
    | succ k ih =>
      intro hk h1 h2 h3
      have h4 := ih (by omega) h1 h2 h3
      have h5 := tn_split a (len - (k + 1))
      have h6 := tn_split b (len - (k + 1))
      rw [show len - (k + 1) + 1 = len - k by omega] at h5 h6
      have h7 := h3 (len - (k + 1)) (by omega)
      omega
  intro h1 h2 h3
  have := key len (Nat.le_refl _) h1 h2 h3
  simpa [tn_zero] using this
/-- The number of digits orders. -/
theorem NX.lt_of_len {a b : Int} {la lb : Nat} (ha : NX a la) (hb : NX b lb) (h : la < lb) : a < b := by
  refine Int.lt_of_not_ge fun hge => ?_
  have h1 := tn_mono hge (lb - 1)
  have h2 := tn_ge ha.top (show la ≤ lb - 1 by omega)
  have h3 := hb.full (by omega)
  have h4 := tn_nonneg hb.nonneg (lb - 1)
  omega
theorem NX.len_unique {a : Int} {la lb : Nat} (ha : NX a la) (hb : NX a lb) : la = lb := by
  rcases Nat.lt_trichotomy la lb with h | h | h
  · have := ha.lt_of_len hb h; omega
  · exact h
  · have := hb.lt_of_len ha h; omega
theorem NX.len_le {a b : Int} {la lb : Nat} (ha : NX a la) (hb : NX b lb) (h : a ≤ b) : la ≤ lb := by
  rcases Nat.lt_or_ge lb la with h1 | h1
  · have := hb.lt_of_len ha h1; omega
  · exact h1
theorem plus_stepx {a b c : Int} {i : Nat} (h : tn (a + b) i = tn a i + tn b i + c) (h0 : 0 ≤ c) (h1 : c ≤ 1) :
    td (a + b) i = (c + td a i + td b i) % 10 ∧ tn (a + b) (i + 1) = tn a (i + 1) + tn b (i + 1) + (c + td a i + td b i) / 10 ∧
      0 ≤ (c + td a i + td b i) / 10 ∧ (c + td a i + td b i) / 10 ≤ 1 := by
  unfold td; simp only [tn_succ]; omega
/-- a digit behind the end of b counts as 0 -/
theorem plus_step0x {a b c : Int} {i : Nat} (h : tn (a + b) i = tn a i + tn b i + c) (h0 : 0 ≤ c) (h1 : c ≤ 1) (hb : tn b i = 0) :
    td (a + b) i = (c + td a i) % 10 ∧ tn (a + b) (i + 1) = tn a (i + 1) + tn b (i + 1) + (c + td a i) / 10 ∧
      0 ≤ (c + td a i) / 10 ∧ (c + td a i) / 10 ≤ 1 := by
  unfold td; simp only [tn_succ]; omega
theorem minus_stepx {a b c : Int} {i : Nat} (h : tn (a - b) i = tn a i - tn b i - c) (h0 : 0 ≤ c) (h1 : c ≤ 1) :
    td (a - b) i = (td a i - c - td b i) % 10 ∧ tn (a - b) (i + 1) = tn a (i + 1) - tn b (i + 1) - (if td a i - c - td b i < 0 then 1 else 0) := by
  unfold td; simp only [tn_succ]; split <;> omega
theorem minus_step0x {a b c : Int} {i : Nat} (h : tn (a - b) i = tn a i - tn b i - c) (h0 : 0 ≤ c) (h1 : c ≤ 1) (hb : tn b i = 0) :
    td (a - b) i = (td a i - c) % 10 ∧ tn (a - b) (i + 1) = tn a (i + 1) - tn b (i + 1) - (if td a i - c < 0 then 1 else 0) := by
  unfold td; simp only [tn_succ]; split <;> omega
theorem tn_div (n x : Int) (hx : 0 < x) : ∀ i, tn (n / x) i = tn n i / x
  | 0 => rfl
  | i + 1 => by
    rw [tn_succ, tn_succ, tn_div n x hx i, Int.ediv_ediv_of_nonneg (by omega), Int.ediv_ediv_of_nonneg (by omega), Int.mul_comm]
theorem short_stepx (n x : Int) (i : Nat) (hx : 0 < x) :
    td (n / x) i = (tn n (i + 1) % x * 10 + td n i) / x ∧ tn n i % x = (tn n (i + 1) % x * 10 + td n i) % x ∧
      (tn n (i + 1) % x * 10 + td n i) / x < 10 ∧ 0 ≤ (tn n (i + 1) % x * 10 + td n i) / x := by
  have hs := tn_split n i
  have hd0 := td_nonneg n i
  have hd := td_lt n i
  have h1 := Int.emod_add_mul_ediv (tn n (i + 1)) x
  have h2 := Int.emod_nonneg (tn n (i + 1)) (show x ≠ 0 by omega)
  have h3 := Int.emod_lt_of_pos (tn n (i + 1)) hx
  have e : tn n i = (tn n (i + 1) % x * 10 + td n i) + x * (10 * (tn n (i + 1) / x)) := by rw [hs]; grind
  have e1 : tn (n / x) i = (tn n (i + 1) % x * 10 + td n i) / x + 10 * (tn n (i + 1) / x) := by
    rw [tn_div n x hx, e, Int.add_mul_ediv_left _ _ (show x ≠ 0 by omega)]
  have h4 : (tn n (i + 1) % x * 10 + td n i) / x < 10 := by
    apply Int.ediv_lt_of_lt_mul hx
    omega
  have h5 : 0 ≤ (tn n (i + 1) % x * 10 + td n i) / x := Int.ediv_nonneg (by omega) (by omega)
  refine ⟨?_, ?_, h4, h5⟩
  · have hdd : td (n / x) i = tn (n / x) i % 10 := rfl
    rw [hdd, e1]
    omega
  · rw [e, Int.add_mul_emod_self_left]
theorem tn_addmul (r m : Int) : ∀ i, tn (r + m * 10 ^ i) i = tn r i + m
  | 0 => by simp [tn_zero]
  | i + 1 => by
    have e : r + m * 10 ^ (i + 1) = r + (m * 10) * 10 ^ i := by rw [Int.pow_succ]; grind
    rw [e, tn_succ, tn_addmul r (m * 10) i, tn_succ]
    omega
theorem td_addmul (r m : Int) {i j : Nat} (hj : j < i) : td (r + m * 10 ^ i) j = td r j := by
  obtain ⟨k, rfl⟩ := Nat.le.dest hj
  have e : r + m * 10 ^ (j + 1 + k) = r + (m * 10 ^ k * 10) * 10 ^ j := by
    rw [Int.pow_add, Int.pow_add]; grind
  unfold td
  rw [e, tn_addmul]
  omega
/-- what the lowest i digits of a make, times b -/
def tlow (a : Int) (i : Nat) : Int := a - tn a i * 10 ^ i
theorem tlow_zero (a : Int) : tlow a 0 = 0 := by simp [tlow, tn_zero]
theorem tlow_succ (a : Int) (i : Nat) : tlow a (i + 1) = tlow a i + td a i * 10 ^ i := by
  have := tn_split a i
  unfold tlow
  rw [Int.pow_succ]
  grind
theorem tlow_nonneg {a : Int} : ∀ i, 0 ≤ tlow a i
  | 0 => by rw [tlow_zero]; exact Int.le_refl _
  | i + 1 => by
    rw [tlow_succ]
    have h1 := tlow_nonneg (a := a) i
    have h2 : 0 ≤ td a i * 10 ^ i := Int.mul_nonneg (td_nonneg a i) (Int.le_of_lt (Int.pow_pos (by omega)))
    omega
theorem tlow_top {a : Int} {len : Nat} (h : tn a len = 0) : tlow a len = a := by simp [tlow, h]
/-- The inner round of the product: r is the product till now, x the digit, b the other number. -/
theorem mul_stepx {r x b c : Int} {i k : Nat} (h : tn (r + x * b * 10 ^ i) (i + k) = tn r (i + k) + x * tn b k + c) (h0 : 0 ≤ c) (h1 : c < 10)
    (hx0 : 0 ≤ x) (hx : x < 10) :
    td (r + x * b * 10 ^ i) (i + k) = (c + (x * td b k + td r (i + k))) % 10 ∧
      tn (r + x * b * 10 ^ i) (i + (k + 1)) = tn r (i + (k + 1)) + x * tn b (k + 1) + (c + (x * td b k + td r (i + k))) / 10 ∧
      0 ≤ (c + (x * td b k + td r (i + k))) / 10 ∧ (c + (x * td b k + td r (i + k))) / 10 < 10 ∧ 0 ≤ x * td b k ∧ x * td b k ≤ 81 := by
  have hs := tn_split b k
  have hd0 := td_nonneg b k
  have hd := td_lt b k
  have hr := tn_split r (i + k)
  have hr0 := td_nonneg r (i + k)
  have hr1 := td_lt r (i + k)
  have e : x * tn b k = 10 * (x * tn b (k + 1)) + x * td b k := by rw [hs]; grind
  have hp0 : 0 ≤ x * td b k := Int.mul_nonneg hx0 hd0
  have hp : x * td b k ≤ 9 * 9 := Int.mul_le_mul (by omega) (by omega) hd0 (by omega)
  have hdd : td (r + x * b * 10 ^ i) (i + k) = tn (r + x * b * 10 ^ i) (i + k) % 10 := rfl
  rw [hdd, ← Nat.add_assoc, tn_succ, h, e]
  generalize x * td b k = u at *
  generalize x * tn b (k + 1) = v at *
  omega
end Go.Proofs.YtloocadjbpgldaaGreatDoor
/- Decimal digits in memory: slices of ints, slices that a call appends to. -/
namespace Go.Proofs.YtloocadjbpgldaaGreatDoor
open Go.RowKit

/-- the cells of a slice of ints -/
structure DRow (w : World) (ao : Option Addr) (len : Nat) (d : Nat → Int) : Prop where
  raw : 0 < len → ∃ (b off : Nat) (cs : Array Value) (fr : Nat × Nat), ao = some ⟨b, off, none⟩ ∧ w.heap[b]? = some (.cells cs 3 fr) ∧ ∀ i, i < len → cs[off + i]? = some (.int .i64 (d i))
theorem DRow.at_ {w : World} {ao : Option Addr} {len : Nat} {d : Nat → Int} (h : DRow w ao len d) (hp : 0 < len) :
    ∃ b off, ao = some ⟨b, off, none⟩ ∧ ∀ i, i < len → w.cell? ⟨b, off + i, none⟩ = some (.int .i64 (d i)) := by
  obtain ⟨b, off, cs, fr, e, hb, hc⟩ := h.raw hp
  exact ⟨b, off, e, fun i hi => by simp only [World.cell?, hb, Option.isSome_none]; exact hc i hi⟩
theorem DRow.nil (w : World) (ao : Option Addr) (d : Nat → Int) : DRow w ao 0 d := ⟨fun h => by omega⟩
theorem DRow.shorter {w : World} {ao : Option Addr} {len k : Nat} {d : Nat → Int} (h : DRow w ao len d) (hk : k ≤ len) : DRow w ao k d :=
  ⟨fun hp => by
    obtain ⟨b, off, cs, fr, e, hb, hc⟩ := h.raw (by omega)
    exact ⟨b, off, cs, fr, e, hb, fun i hi => hc i (by omega)⟩⟩
theorem DRow.congr {w : World} {ao : Option Addr} {len : Nat} {d d' : Nat → Int} (h : DRow w ao len d) (e : ∀ i, i < len → d i = d' i) : DRow w ao len d' :=
  ⟨fun hp => by
    obtain ⟨b, off, cs, fr, e', hb, hc⟩ := h.raw hp
    exact ⟨b, off, cs, fr, e', hb, fun i hi => by rw [hc i hi, e i hi]⟩⟩
theorem DRow.gr {w w' : World} {ao : Option Addr} {len : Nat} {d : Nat → Int} (h : DRow w ao len d) (hk : Gr w w') : DRow w' ao len d :=
  ⟨fun hp => by
    obtain ⟨b, off, cs, fr, e, hb, hc⟩ := h.raw hp
    exact ⟨b, off, cs, fr, e, hk.heap hb, hc⟩⟩
theorem DRow.below {w w' : World} {ao : Option Addr} {len : Nat} {d : Nat → Int} (h : DRow w ao len d) (hb : Below w.heap.size w w') : DRow w' ao len d := h.gr hb

/-- a slice of the decimal digits of n, none of them 0 at the end -/
def TenS (w : World) (v : Value) (n : Int) : Prop := ∃ ao len cap, v = .slice ao len cap ∧ len ≤ cap ∧ NX n len ∧ DRow w ao len (td n)
/-- a slice of decimal digits of n, with zeros perhaps -/
def TenZ (w : World) (v : Value) (n : Int) : Prop := ∃ ao len cap, v = .slice ao len cap ∧ len ≤ cap ∧ len ≤ 900001 ∧ tn n len = 0 ∧ DRow w ao len (td n)
theorem TenS.gr {w w' : World} {v : Value} {n : Int} (h : TenS w v n) (g : Gr w w') : TenS w' v n := by
  obtain ⟨ao, len, cap, h1, h2, h3, h4⟩ := h
  exact ⟨ao, len, cap, h1, h2, h3, h4.gr g⟩
theorem TenZ.gr {w w' : World} {v : Value} {n : Int} (h : TenZ w v n) (g : Gr w w') : TenZ w' v n := by
  obtain ⟨ao, len, cap, h1, h2, h3, h4, h5⟩ := h
  exact ⟨ao, len, cap, h1, h2, h3, h4, h5.gr g⟩
/-- n integers, as values -/
def dvals (k : IntKind) (n : Nat) (d : Nat → Int) : List Value := (List.range n).map fun i => .int k (d i)
theorem dvals_length (k : IntKind) (n : Nat) (d : Nat → Int) : (dvals k n d).length = n := by simp [dvals]
theorem dvals_succ (k : IntKind) (n : Nat) (d : Nat → Int) : dvals k (n + 1) d = dvals k n d ++ [.int k (d n)] := by simp [dvals, List.range_succ]
theorem dvals_get (k : IntKind) (d : Nat → Int) {n i : Nat} (h : i < n) : (dvals k n d)[i]? = some (.int k (d i)) := by simp [dvals, h]

/-- append of one value, in a plain region of a walk by the kit's tactics -/
theorem wpList_app1 {P : Program} {ops : Array Oper} {rest : List Oper} {o : Oper} {a : Act} {w : World} {Q : Exit → Act → World → Prop} (hgd : o.guard = none) (s x : Operand) (t : TypeId)
    (ho : o.op = .call { callee := .builtin .append, args := #[s, x], argTypes := #[t, t] }) (T B : Nat) (z v : Value) (ys : List Value) (hs : a.eval s = v) (hown : OwnS w T B v ys)
    (b c : Nat) (u : Value) (hx : a.eval x = .slice (some ⟨b, 0, none⟩) 1 c) (hb : w.heap[b]? = some (.cells #[u] T)) (hu : u.oneCell' = true) (w0 : World) (hB : Below B w0 w) (hn : ys.length ≤ 1000000) (bytes : Nat) (hbytes : bytes ≤ 1000)
    (ht : P.underlying t = some (.slice T)) (hi : (P.info? T).map (fun i => (i.zero, i.size, i.bytes)) = some (some z, 1, bytes)) (hzs : z.cells.size = 1) (hBw : B ≤ w.heap.size)
    (h : ∀ v' w', OwnS w' T B v' (ys ++ [u]) → Below B w0 w' → (∀ k, k < w.heap.size → v.ownBlock ≠ some k → w'.heap[k]? = w.heap[k]?) → w.heap.size ≤ w'.heap.size → wpList P ops Q rest (a.put o.dst v') w') : wpList P ops Q (o :: rest) a w := by
  obtain ⟨i, hi, hz, hsize, hby⟩ := info_parts hi
  have hb1 : (ys.length + 1) * bytes ≤ 1000001 * 1000 := Nat.mul_le_mul (by omega) hbytes
  refine wpList_append_own w hgd s x t ho B T i z 1 bytes ht hi hz hsize hby hzs (by omega) v ys.length ys hs hown ⟨b, 0, none⟩ 1 c [u] hx rfl (fun j y hj => ?_) (fun y hy => ?_) (by unfold maxLen; omega) (by omega) hBw ?_
  · have hj0 : j = 0 := by
      have := (List.getElem?_eq_some_iff.1 hj).1
      simp at this; omega
    subst hj0
    simp only [List.getElem?_cons_zero, Option.some.injEq] at hj
    subst hj
    exact cells_of hb 0
  · simp only [List.mem_singleton] at hy
    subst hy; exact hu
  · intro v' w' h2 hg _
    have hnew : ∀ k, v.ownBlock = some k → B ≤ k := by
      intro k hk
      rcases hown.2 with ⟨rfl, _⟩ | ⟨g, cap, cur, rfl, hb, hgg, _⟩
      · simp [Value.ownBlock] at hk
      · simp [Value.ownBlock] at hk
        subst hk; exact hb
    refine h v' w' ?_ ?_ (fun k hk hne => hg.block k hk (fun e => hne e.symm)) hg.size
    · unfold OwnS; simpa using h2
    · refine Below.trans hB ⟨hg.os, hg.tape, hg.output, hg.size, fun k hk => hg.block k (by omega) (fun e => ?_)⟩
      have := hnew k e.symm
      omega

theorem OwnS.cells {w : World} {T B : Nat} {v : Value} {ys : List Value} (h : OwnS w T B v ys) (hp : 0 < ys.length) :
    ∃ g cap cur, v = .slice (some ⟨g, 0, none⟩) ys.length cap ∧ B ≤ g ∧ w.heap[g]? = some (.cells cur T (0, 0)) ∧ ys.length ≤ cap ∧ cap ≤ maxLen ∧ ∀ i, i < ys.length → cur[i]? = ys[i]? := by
  obtain ⟨g, cap, cur, e, hb, hg, h1, h2, h3, h4⟩ := h.block hp
  refine ⟨g, cap, cur, e, hb, hg, h1, h2, fun i hi => ?_⟩
  rw [← h4, List.getElem?_take_of_lt hi]; simp
theorem OwnS.drow {w : World} {B : Nat} {v : Value} {n : Nat} {d : Nat → Int} (h : OwnS w 3 B v (dvals .i64 n d)) : ∃ ao cap, v = .slice ao n cap ∧ n ≤ cap ∧ cap ≤ maxLen ∧ DRow w ao n d := by
  rcases Nat.eq_zero_or_pos n with e | hp
  · subst e
    rcases h.2 with ⟨rfl, _⟩ | ⟨g, cap, cur, rfl, hb, hg, h1, h2, h3⟩
    · exact ⟨none, 0, rfl, by omega, by unfold maxLen; omega, DRow.nil _ _ _⟩
    · exact ⟨_, cap, rfl, by omega, h2, DRow.nil _ _ _⟩
  · obtain ⟨g, cap, cur, e, hb, hg, h1, h2, hc⟩ := h.cells (by rw [dvals_length]; exact hp)
    rw [dvals_length] at e h1 hc
    refine ⟨_, cap, e, h1, h2, ⟨fun _ => ⟨g, 0, cur, (0, 0), rfl, hg, fun i hi => ?_⟩⟩⟩
    rw [Nat.zero_add, hc i hi, dvals_get _ _ hi]
/-- the same, in a block of its own at least as new as B -/
def TenF (w : World) (B : Nat) (v : Value) (n : Int) : Prop := ∃ ao len cap, v = .slice ao len cap ∧ len ≤ cap ∧ NX n len ∧ DRow w ao len (td n) ∧ ∀ ad, ao = some ad → B ≤ ad.block
theorem TenF.s {w : World} {B : Nat} {v : Value} {n : Int} (h : TenF w B v n) : TenS w v n := by
  obtain ⟨ao, len, cap, h1, h2, h3, h4, _⟩ := h
  exact ⟨ao, len, cap, h1, h2, h3, h4⟩
theorem TenF.gr {w w' : World} {B : Nat} {v : Value} {n : Int} (h : TenF w B v n) (g : Gr w w') : TenF w' B v n := by
  obtain ⟨ao, len, cap, h1, h2, h3, h4, h5⟩ := h
  exact ⟨ao, len, cap, h1, h2, h3, h4.gr g, h5⟩
theorem TenF.mono {w : World} {B C : Nat} {v : Value} {n : Int} (h : TenF w B v n) (hC : C ≤ B) : TenF w C v n := by
  obtain ⟨ao, len, cap, h1, h2, h3, h4, h5⟩ := h
  exact ⟨ao, len, cap, h1, h2, h3, h4, fun ad e => Nat.le_trans hC (h5 ad e)⟩
theorem TenF.set {w : World} {B g : Nat} {v : Value} {n : Int} (h : TenF w B v n) (hg : g < B) (i : Nat) (u : Value) : TenF (w.setCell ⟨g, i, none⟩ u) B v n := by
  obtain ⟨ao, len, cap, h1, h2, h3, h4, h5⟩ := h
  refine ⟨ao, len, cap, h1, h2, h3, ⟨fun hp => ?_⟩, h5⟩
  obtain ⟨b, off, cs, fr, e, hb, hc⟩ := h4.raw hp
  have := h5 _ e
  exact ⟨b, off, cs, fr, e, (Below.heap_setCell _ _ _ _ (by show b ≠ g; simp at this; omega)).trans hb, hc⟩
theorem OwnS.drowF {w : World} {B : Nat} {v : Value} {n : Nat} {d : Nat → Int} (h : OwnS w 3 B v (dvals .i64 n d)) : ∃ ao cap, v = .slice ao n cap ∧ n ≤ cap ∧ cap ≤ maxLen ∧ DRow w ao n d ∧ ∀ ad, ao = some ad → B ≤ ad.block := by
  obtain ⟨ao, cap, e, h1, h2, h3⟩ := h.drow
  refine ⟨ao, cap, e, h1, h2, h3, fun ad ea => ?_⟩
  subst e ea
  rcases h.2 with ⟨h0, _⟩ | ⟨g, c1, c2, h0, hb, _⟩
  · cases h0
  · simp only [Value.slice.injEq, Option.some.injEq] at h0
    rw [h0.1]; exact hb
theorem dvals_congr (k : IntKind) {n : Nat} {d d' : Nat → Int} (h : ∀ i, i < n → d i = d' i) : dvals k n d = dvals k n d' := by
  unfold dvals
  exact List.map_congr_left fun i hi => by rw [h i (by simpa using hi)]
theorem int_info : (Tryz.prog.info? 3).map (fun i => (i.zero, i.size, i.bytes)) = some (some (.int .i64 0), 1, 8) := by kernel_rfl
/-- block b is a row of n digits that may be written -/
structure DOwn (w : World) (b n : Nat) (d : Nat → Int) : Prop where
  raw : ∃ cs, w.heap[b]? = some (.cells cs 3) ∧ ∀ i, i < n → cs[i]? = some (.int .i64 (d i))
theorem DOwn.lt {w : World} {b n : Nat} {d : Nat → Int} (h : DOwn w b n d) : b < w.heap.size := by
  obtain ⟨cs, hb, hc⟩ := h.raw; exact heap_lt hb
theorem DOwn.cell {w : World} {b n : Nat} {d : Nat → Int} (h : DOwn w b n d) : ∀ i, i < n → w.cell? ⟨b, i, none⟩ = some (.int .i64 (d i)) := by
  obtain ⟨cs, hb, hc⟩ := h.raw
  exact fun i hi => by simp only [World.cell?, hb, Option.isSome_none]; exact hc i hi
theorem DOwn.free {w : World} {b n : Nat} {d : Nat → Int} (h : DOwn w b n d) : ∀ i, w.frozen? ⟨b, i, none⟩ = false := by
  obtain ⟨cs, hb, hc⟩ := h.raw
  exact fun i => by simp [World.frozen?, hb]
theorem DOwn.set {w : World} {b n : Nat} {d : Nat → Int} (h : DOwn w b n d) {i : Nat} (_hi : i < n) (v : Int) : DOwn (w.setCell ⟨b, i, none⟩ (.int .i64 v)) b n (upd d i v) := by
  obtain ⟨cs, hb, hc⟩ := h.raw
  refine ⟨_, heap_setCell_at _ hb, fun j hj => ?_⟩
  by_cases e : i = j
  · subst e
    have := (Array.getElem?_eq_some_iff.1 (hc i hj)).1
    rw [upd_same]; simp [this]
  · rw [upd_other d v (Ne.symm e), Array.getElem?_setIfInBounds_ne e]; exact hc j hj
theorem DOwn.gr {w w' : World} {b n : Nat} {d : Nat → Int} (h : DOwn w b n d) (hb : Gr w w') : DOwn w' b n d := by
  obtain ⟨cs, hb', hc⟩ := h.raw
  exact ⟨cs, hb.heap hb', hc⟩
theorem DOwn.below {w w' : World} {b n : Nat} {d : Nat → Int} (h : DOwn w b n d) (hb : Below w.heap.size w w') : DOwn w' b n d := h.gr hb
theorem DOwn.congr {w : World} {b n : Nat} {d d' : Nat → Int} (h : DOwn w b n d) (e : ∀ i, i < n → d i = d' i) : DOwn w b n d' := by
  obtain ⟨cs, hb', hc⟩ := h.raw
  exact ⟨cs, hb', fun i hi => by rw [hc i hi, e i hi]⟩
theorem DOwn.row {w : World} {b n : Nat} {d : Nat → Int} (h : DOwn w b n d) : DRow w (some ⟨b, 0, none⟩) n d := by
  obtain ⟨cs, hb', hc⟩ := h.raw
  exact ⟨fun _ => ⟨b, 0, cs, (0, 0), rfl, hb', fun i hi => by rw [Nat.zero_add]; exact hc i hi⟩⟩
theorem DOwn.shorter {w : World} {b n k : Nat} {d : Nat → Int} (h : DOwn w b n d) (hk : k ≤ n) : DOwn w b k d := by
  obtain ⟨cs, hb', hc⟩ := h.raw
  exact ⟨cs, hb', fun i hi => hc i (by omega)⟩
/-- 'make([]uint32, n)' -/
theorem wpList_makeI (w : World) {ops : Array Oper} {rest : List Oper} {o : Oper} {a : Act} {Q : Exit → Act → World → Prop}
    (hg : o.guard = none) (l c : Operand) (hop : o.op = Op.makeSlice 106 l c) (L C : Int) (n : Nat) (hl : a.eval l = .int .i64 L) (hc : a.eval c = .int .i64 C) (hL : L = (n : Int)) (hC : C = (n : Int)) (hn : n ≤ 8000000)
    (hK : ∀ w', DOwn w' w.heap.size n (fun _ => 0) → Below w.heap.size w w' → w'.heap.size = w.heap.size + 1 → wpList Tryz.prog ops Q rest (a.put o.dst (.slice (some ⟨w.heap.size, 0, none⟩) n n)) w') :
    wpList Tryz.prog ops Q (o :: rest) a w := by
  refine wpList_plain hg fun K hK' => ?_
  obtain ⟨i, hi, hz, hs, hb⟩ := info_parts int_info
  have hrun := run_make (P := Tryz.prog) w 106 3 i _ Tryz.underlying106 hi hz .i64 .i64 (n : Int) (n : Int) (by omega) (Int.le_refl _) (by rw [hb]; omega) (by omega)
  simp only [Int.toNat_natCast] at hrun
  rw [hs, Nat.mul_one] at hrun
  subst hL hC
  unfold Oper.wp
  simp [execOp, hop, hl, hc, hrun, Result.andThen]
  refine hK' _ _ (hK _ ⟨_, heap_alloc_new w _, fun j hj => ?_⟩ ((Below.refl _ _).alloc (Nat.le_refl _) _) (by simp))
  simp [madeCells, Value.cells, hj, Nat.mod_one]
end Go.Proofs.YtloocadjbpgldaaGreatDoor
/- Decimal texts and their digits, without the program. -/
namespace Go.Proofs.YtloocadjbpgldaaGreatDoor
open Go

theorem tn_tenth (n : Int) (i : Nat) : tn (n / 10) i = tn n (i + 1) := by
  rw [Nat.add_comm i 1, tn_add]; rfl
theorem td_tenth (n : Int) (i : Nat) : td (n / 10) i = td n (i + 1) := by unfold td; rw [tn_tenth]
theorem NX.small {n : Int} (h0 : 0 < n) (h1 : n < 10) : NX n 1 := ⟨by omega, by rw [tn_succ, tn_zero]; omega, fun _ => by show tn n 0 ≠ 0; rw [tn_zero]; omega⟩
theorem NX.div {n : Int} {len : Nat} (h : NX n (len + 1)) : NX (n / 10) len := by
  refine ⟨by have := h.nonneg; omega, by rw [tn_tenth]; exact h.top, fun hl => ?_⟩
  rw [tn_tenth]
  have := h.full (by omega)
  rwa [show len + 1 - 1 = len - 1 + 1 by omega] at this
theorem NX.exists (n : Nat) : ∃ len, NX (n : Int) len := by
  induction n using Nat.strongRecOn with
  | _ n ih =>
    rcases Nat.eq_zero_or_pos n with e | hp
    · exact ⟨0, by subst e; exact NX.zero⟩
    · obtain ⟨k, hk⟩ := ih (n / 10) (by omega)
      refine ⟨k + 1, by omega, by rw [← tn_tenth]; exact_mod_cast hk.top, fun _ => ?_⟩
      rw [Nat.add_sub_cancel]
      rcases Nat.eq_zero_or_pos k with e | hk0
      · subst e; rw [tn_zero]; omega
      · have := hk.full hk0
        rw [Int.natCast_ediv, show ((10 : Nat) : Int) = 10 from rfl, tn_tenth] at this
        rwa [show k - 1 + 1 = k by omega] at this
/-- the digits of a text -/
theorem dec_td : ∀ (len n : Nat), NX (n : Int) len → 0 < n → (Lib.decDigits n).length = len ∧ ∀ i, i < len → (Lib.decDigits n)[len - 1 - i]? = some (UInt8.ofNat (48 + (td (n : Int) i).toNat))
  | 0, n, h, hp => by have := h.len_zero.1 rfl; omega
  | len + 1, n, h, hp => by
    by_cases h1 : n < 10
    · have e : len + 1 = 1 := h.len_unique (NX.small (by omega) (by omega))
      have e0 : len = 0 := by omega
      subst e0
      rw [dec_small h1]
      refine ⟨rfl, fun i hi => ?_⟩
      have e2 : i = 0 := by omega
      subst e2
      have : (td (n : Int) 0).toNat = n := by unfold td; rw [tn_zero]; omega
      rw [this]; rfl
    · have hd : NX ((n / 10 : Nat) : Int) len := by
        have := h.div
        rwa [show ((n : Int) / 10) = ((n / 10 : Nat) : Int) by omega] at this
      obtain ⟨l1, l2⟩ := dec_td len (n / 10) hd (by omega)
      rw [dec_step (by omega)]
      refine ⟨by simp [l1], fun i hi => ?_⟩
      cases i with
      | zero =>
        rw [Nat.sub_zero, Nat.add_sub_cancel, ← l1, List.getElem?_append_right (Nat.le_refl _), Nat.sub_self]
        have : (td (n : Int) 0).toNat = n % 10 := by unfold td; rw [tn_zero]; omega
        rw [this]; rfl
      | succ i =>
        have hi' : i < len := by omega
        have e : len + 1 - 1 - (i + 1) = len - 1 - i := by omega
        rw [e, List.getElem?_append_left (by omega), l2 i hi', ← td_tenth]
        rw [show ((n / 10 : Nat) : Int) = (n : Int) / 10 by omega]
theorem dec_get {n len : Nat} (h : NX (n : Int) len) (hp : 0 < n) {k : Nat} (hk : k < len) : (Lib.decDigits n)[k]? = some (UInt8.ofNat (48 + (td (n : Int) (len - 1 - k)).toNat)) := by
  have := (dec_td len n h hp).2 (len - 1 - k) (by omega)
  rwa [show len - 1 - (len - 1 - k) = k by omega] at this
theorem dec_take {n len : Nat} (h : NX (n : Int) len) (hp : 0 < n) {k : Nat} (hk : k < len) : (Lib.decDigits n).take (k + 1) = (Lib.decDigits n).take k ++ [UInt8.ofNat (48 + (td (n : Int) (len - 1 - k)).toNat)] := by
  rw [List.take_add_one, dec_get h hp hk]; rfl
/-- the digits of a text, that of 0 too -/
theorem dec_any (n : Nat) : ∃ m, 0 < m ∧ m ≤ (Lib.decDigits n).length ∧ tn (n : Int) m = 0 ∧ (Lib.decDigits n).length = m ∧ ∀ i, i < m → (Lib.decDigits n)[m - 1 - i]? = some (UInt8.ofNat (48 + (td (n : Int) i).toNat)) := by
  rcases Nat.eq_zero_or_pos n with e | hp
  · subst e
    rw [dec_small (by omega)]
    refine ⟨1, by omega, by simp, rfl, rfl, fun i hi => ?_⟩
    obtain rfl : i = 0 := by omega
    rfl
  · obtain ⟨len, h⟩ := NX.exists n
    have hl : 0 < len := by
      rcases Nat.eq_zero_or_pos len with e | e
      · have := h.len_zero.1 e; omega
      · exact e
    obtain ⟨h1, h2⟩ := dec_td len n h hp
    exact ⟨len, hl, by omega, h.top, h1, h2⟩
theorem td_char (n : Int) (i : Nat) : ((UInt8.ofNat (48 + (td n i).toNat)).toNat : Int) = 48 + td n i := by
  have h0 := td_nonneg n i
  have h1 := td_lt n i
  rw [UInt8.toNat_ofNat']
  omega
theorem itoa_nonneg {z : Int} (h : 0 ≤ z) : Lib.itoa z = Lib.decDigits z.natAbs := by
  unfold Lib.itoa
  rw [if_neg (by omega)]
  congr 1
  omega
theorem itoa_neg {z : Int} (h : z < 0) : Lib.itoa z = 45 :: Lib.decDigits z.natAbs := by unfold Lib.itoa; rw [if_pos h]
theorem itoa_one : Lib.itoa 1 = [49] := by rw [itoa_nonneg (by omega)]; exact dec_small (by decide)
theorem dec_head {n : Nat} (hp : 0 < n) : ∃ c, (Lib.decDigits n)[0]? = some c ∧ 49 ≤ c.toNat ∧ c.toNat ≤ 57 := by
  obtain ⟨len, h⟩ := NX.exists n
  have hl : 0 < len := by
    rcases Nat.eq_zero_or_pos len with e | e
    · have := h.len_zero.1 e; omega
    · exact e
  refine ⟨_, dec_get h hp hl, ?_⟩
  have h1 := h.topdig hl
  have h2 := td_char (n : Int) (len - 1)
  have h3 := td_lt (n : Int) (len - 1)
  rw [Nat.sub_zero]
  omega
theorem dec_zero : Lib.decDigits 0 = [48] := dec_small (by omega)
/-- every byte of the digits is a digit -/
theorem dec_all (n : Nat) : ∀ c ∈ Lib.decDigits n, 48 ≤ c.toNat ∧ c.toNat ≤ 57 := by
  induction n using Nat.strongRecOn with
  | _ n ih =>
    by_cases h1 : n < 10
    · rw [dec_small h1]
      intro c hc
      simp only [List.mem_singleton] at hc
      subst hc
      rw [UInt8.toNat_ofNat']; omega
    · rw [dec_step (by omega)]
      intro c hc
      rcases List.mem_append.1 hc with hc | hc
      · exact ih _ (by omega) c hc
      · simp only [List.mem_singleton] at hc
        subst hc
        rw [UInt8.toNat_ofNat']; omega
/-- the value of digits -/
def valL (l : List UInt8) : Nat := l.foldl (fun a c => a * 10 + (c.toNat - 48)) 0
theorem valL_snoc (l : List UInt8) (c : UInt8) : valL (l ++ [c]) = valL l * 10 + (c.toNat - 48) := by simp [valL, List.foldl_append]
theorem valL_dec (n : Nat) : valL (Lib.decDigits n) = n := by
  induction n using Nat.strongRecOn with
  | _ n ih =>
    by_cases h1 : n < 10
    · rw [dec_small h1]
      show 0 * 10 + ((UInt8.ofNat (48 + n)).toNat - 48) = n
      rw [UInt8.toNat_ofNat']; omega
    · rw [dec_step (by omega), valL_snoc, ih _ (by omega), UInt8.toNat_ofNat']; omega
/-- digits without a zero in front are the text of their value -/
theorem dec_valL' : ∀ (n : Nat) (l : List UInt8), l.length = n → (∀ c ∈ l, 48 ≤ c.toNat ∧ c.toNat ≤ 57) → l ≠ [] → (∀ c, l[0]? = some c → c.toNat ≠ 48) → Lib.decDigits (valL l) = l ∧ 0 < valL l
  | 0, l, hl, _, hne, _ => absurd (List.length_eq_zero_iff.1 hl) hne
  | n + 1, l, hl, hd, hne, h0 => by
    rcases List.eq_nil_or_concat l with e | ⟨l', c, e⟩
    · exact absurd e hne
    · rw [List.concat_eq_append] at e
      subst e
      have hc := hd c (by simp)
      rw [valL_snoc]
      rcases List.eq_nil_or_concat l' with e | ⟨l2, c', e⟩
      · subst e
        have := h0 c rfl
        have e1 : valL [] * 10 + (c.toNat - 48) = c.toNat - 48 := by simp [valL]
        rw [e1]
        refine ⟨?_, by omega⟩
        rw [dec_small (by omega), show 48 + (c.toNat - 48) = c.toNat by omega]
        simp
      · have hne' : l' ≠ [] := by rw [e]; simp
        obtain ⟨h1, h2⟩ := dec_valL' n l' (by simpa using hl) (fun x hx => hd x (by simp [hx])) hne' (fun x hx => h0 x (by
          rw [List.getElem?_append_left (List.length_pos_iff.2 hne')]; exact hx))
        refine ⟨?_, by omega⟩
        rw [dec_step (by omega), show (valL l' * 10 + (c.toNat - 48)) / 10 = valL l' by omega, h1, show 48 + (valL l' * 10 + (c.toNat - 48)) % 10 = c.toNat by omega]
        simp
theorem dec_valL (l : List UInt8) (h1 : ∀ c ∈ l, 48 ≤ c.toNat ∧ c.toNat ≤ 57) (h2 : l ≠ []) (h3 : ∀ c, l[0]? = some c → c.toNat ≠ 48) : Lib.decDigits (valL l) = l ∧ 0 < valL l := dec_valL' _ l rfl h1 h2 h3
theorem decDigits_inj {a b : Nat} (h : Lib.decDigits a = Lib.decDigits b) : a = b := by rw [← valL_dec a, ← valL_dec b, h]
theorem itoa_inj {a b : Int} (h : Lib.itoa a = Lib.itoa b) : a = b := by
  have key : ∀ n : Nat, ∀ l, 45 :: l ≠ Lib.decDigits n := fun n l e => by
    have := dec_all n 45 (by rw [← e]; simp)
    simp at this
  by_cases h1 : a < 0 <;> by_cases h2 : b < 0
  · rw [itoa_neg h1, itoa_neg h2] at h
    have := decDigits_inj (List.cons.inj h).2
    omega
  · rw [itoa_neg h1, itoa_nonneg (by omega)] at h
    exact absurd h (key _ _)
  · rw [itoa_nonneg (by omega), itoa_neg h2] at h
    exact absurd h.symm (key _ _)
  · rw [itoa_nonneg (by omega), itoa_nonneg (by omega)] at h
    have := decDigits_inj h
    omega
end Go.Proofs.YtloocadjbpgldaaGreatDoor
/- What the references' checks of texts say, without the program. -/
namespace Go.Proofs.YtloocadjbpgldaaGreatDoor
open Go

def isD (c : UInt8) : Bool := decide (48 ≤ c.toNat) && decide (c.toNat ≤ 57)
theorem isD_iff {c : UInt8} : isD c = true ↔ 48 ≤ c.toNat ∧ c.toNat ≤ 57 := by simp [isD]
/-- a text without its sign -/
def strip : List UInt8 → List UInt8
  | [] => []
  | c :: l => if c = 45 then l else c :: l
theorem strip_cons (c : UInt8) (l : List UInt8) : strip (c :: l) = if c = 45 then l else c :: l := rfl
/-- some bytes, all of them digits -/
def allD (l : List UInt8) : Bool := decide (0 < l.length) && l.all isD
/-- digits without a zero in front of others, or behind a sign -/
def badZ (s : List UInt8) : Bool := (strip s)[0]? == some 48 && (decide (1 < (strip s).length) || decide (1 < s.length))
/-- the error of the text of an integer -/
def ck1 (s : List UInt8) : Int := if 65536 < s.length then 5 else if allD (strip s) = false then 14 else if badZ s = true then 3 else 0
theorem strip_cases (s : List UInt8) : (s = 45 :: strip s) ∨ (s = strip s ∧ s.head? ≠ some 45) := by
  cases s with
  | nil => exact .inr ⟨rfl, by simp⟩
  | cons c l =>
    rw [strip_cons]
    by_cases h : c = 45
    · rw [if_pos h, h]; exact .inl rfl
    · rw [if_neg h]; exact .inr ⟨rfl, by simpa using h⟩
theorem allD_all {l : List UInt8} (h : allD l = true) : l ≠ [] ∧ ∀ c ∈ l, 48 ≤ c.toNat ∧ c.toNat ≤ 57 := by
  simp only [allD, Bool.and_eq_true, decide_eq_true_eq, List.all_eq_true] at h
  exact ⟨List.length_pos_iff.1 h.1, fun c hc => isD_iff.1 (h.2 c hc)⟩
/-- an integer's text, out of its form -/
theorem form_itoa {s : List UInt8} (h1 : allD (strip s) = true) (h2 : badZ s = false) : ∃ z : Int, s = Lib.itoa z := by
  obtain ⟨hne, hall⟩ := allD_all h1
  rcases strip_cases s with h | ⟨h, _⟩
  · -- a sign
    have h0 : ∀ c, (strip s)[0]? = some c → c.toNat ≠ 48 := fun c hc e => by
      have hc48 : c = 48 := by rw [← UInt8.toNat_inj]; exact e
      unfold badZ at h2
      rw [hc, hc48] at h2
      have : 1 < s.length := by rw [h]; simp [List.length_pos_iff.2 hne]
      simp [this] at h2
    obtain ⟨e1, e2⟩ := dec_valL _ hall hne h0
    refine ⟨-(valL (strip s) : Int), ?_⟩
    rw [itoa_neg (by omega), show (-(valL (strip s) : Int)).natAbs = valL (strip s) by omega, e1]
    exact h
  · by_cases h0 : (strip s)[0]? = some 48
    · unfold badZ at h2
      rw [h0, ← h] at h2
      have hl : s.length = 1 := by
        have : 0 < s.length := by rw [h]; exact List.length_pos_iff.2 hne
        simp at h2; omega
      refine ⟨0, ?_⟩
      rw [itoa_nonneg (by omega), show (0 : Int).natAbs = 0 from rfl, dec_zero]
      rw [← h] at h0
      match s, hl, h0 with
      | [c], _, h0 => simp at h0; rw [h0]
    · obtain ⟨e1, e2⟩ := dec_valL _ hall hne (fun c hc e => h0 (by rw [hc]; congr 1; rw [← UInt8.toNat_inj]; exact e))
      refine ⟨(valL (strip s) : Int), ?_⟩
      rw [itoa_nonneg (by omega), Int.natAbs_natCast, e1]
      exact h
theorem ck1_itoa {s : List UInt8} (h : ck1 s = 0) : ∃ z : Int, s = Lib.itoa z := by
  unfold ck1 at h
  split at h
  · exact absurd h (by decide)
  · split at h
    · exact absurd h (by decide)
    · split at h
      · exact absurd h (by decide)
      · exact form_itoa (by rename_i a _; simpa using a) (by rename_i b; simpa using b)
theorem dec_ne (n : Nat) : Lib.decDigits n ≠ [] := fun e => by have := dec_pos n; rw [e] at this; simp at this
theorem strip_itoa (z : Int) : strip (Lib.itoa z) = Lib.decDigits z.natAbs := by
  by_cases h : z < 0
  · rw [itoa_neg h]; simp [strip]
  · rw [itoa_nonneg (by omega)]
    rcases hd : Lib.decDigits z.natAbs with _ | ⟨c, l⟩
    · exact absurd hd (dec_ne _)
    · have := dec_all z.natAbs c (by rw [hd]; simp)
      rw [strip_cons, if_neg (fun e => by rw [e] at this; simp at this)]
theorem allD_dec (n : Nat) : allD (Lib.decDigits n) = true := by
  simp only [allD, Bool.and_eq_true, decide_eq_true_eq, List.all_eq_true]
  exact ⟨dec_pos n, fun c hc => isD_iff.2 (dec_all n c hc)⟩
/-- the text's value has fewer digits than the text bytes -/
theorem itoa_bits (z : Int) {m : Nat} (h : (Lib.itoa z).length ≤ m) : z.natAbs < 10 ^ m := by
  have key : ∀ n : Nat, n < 10 ^ (Lib.decDigits n).length := by
    intro n
    induction n using Nat.strongRecOn with
    | _ n ih =>
      by_cases h1 : n < 10
      · rw [dec_small h1]; simpa using h1
      · rw [dec_step (by omega), List.length_append, List.length_singleton, Nat.pow_succ]
        have := ih (n / 10) (by omega)
        omega
  have h1 := key z.natAbs
  have h2 : (Lib.decDigits z.natAbs).length ≤ m := by
    by_cases hz : z < 0
    · rw [itoa_neg hz] at h; simp at h; omega
    · rw [itoa_nonneg (by omega)] at h; exact h
  exact Nat.lt_of_lt_of_le h1 (Nat.pow_le_pow_right (by omega) h2)
theorem itoa_sz (z : Int) {m : Nat} (h : (Lib.itoa z).length ≤ m) : z.natAbs < 2 ^ (4 * m) := by
  have := itoa_bits z h
  rw [Nat.pow_mul]
  exact Nat.lt_of_lt_of_le this (Nat.pow_le_pow_left (by decide) m)
end Go.Proofs.YtloocadjbpgldaaGreatDoor
/- What the references' checks of the texts of rationals say, without the program. -/
namespace Go.Proofs.YtloocadjbpgldaaGreatDoor
open Go

/-- what lies before the first slash, and behind it -/
def cutL : List UInt8 → List UInt8 × Option (List UInt8)
  | [] => ([], none)
  | c :: l => if c = 47 then ([], some l) else (c :: (cutL l).1, (cutL l).2)
def numL (s : List UInt8) : List UInt8 := (cutL s).1
def denL (s : List UInt8) : List UInt8 := (cutL s).2.getD [49]
theorem cutL_eq : ∀ s, s = (match (cutL s).2 with | none => (cutL s).1 | some d => (cutL s).1 ++ 47 :: d)
  | [] => rfl
  | c :: l => by
    have ih := cutL_eq l
    unfold cutL
    by_cases h : c = 47
    · rw [if_pos h, h]; rfl
    · rw [if_neg h]
      dsimp only
      cases hd : (cutL l).2 with
      | none => rw [hd] at ih; dsimp only at ih ⊢; rw [← ih]
      | some d => rw [hd] at ih; dsimp only at ih ⊢; rw [List.cons_append, ← ih]
theorem cutL_none : ∀ {s : List UInt8}, (∀ c ∈ s, c ≠ 47) → cutL s = (s, none)
  | [], _ => rfl
  | c :: l, h => by
    unfold cutL
    rw [if_neg (h c (by simp)), cutL_none (fun x hx => h x (by simp [hx]))]
theorem cutL_some : ∀ {a b : List UInt8}, (∀ c ∈ a, c ≠ 47) → cutL (a ++ 47 :: b) = (a, some b)
  | [], b, _ => by simp [cutL]
  | c :: l, b, h => by
    rw [List.cons_append]
    unfold cutL
    rw [if_neg (h c (by simp)), cutL_some (fun x hx => h x (by simp [hx]))]
def zerosL (l : List UInt8) : Bool := l.all (· == 48)
/-- the integer with a text -/
def valZ (s : List UInt8) : Int := if s.head? = some 45 then -(valL (strip s) : Int) else (valL (strip s) : Int)
theorem valZ_itoa (z : Int) : valZ (Lib.itoa z) = z := by
  unfold valZ
  rw [strip_itoa, valL_dec]
  by_cases h : z < 0
  · rw [itoa_neg h, List.head?_cons, if_pos rfl]; omega
  · rw [itoa_nonneg (by omega), if_neg]
    · omega
    · intro e
      have := dec_all z.natAbs 45 (List.mem_of_head? e)
      simp at this
/-- the error of the text of a rational -/
def ck2 (s : List UInt8) (most : Nat) : Int :=
  if most < s.length then 5 else
  if (allD (strip (numL s)) && allD (denL s)) = false then 14 else
  if zerosL (denL s) = true then 19 else
  if (badZ (numL s) || ((denL s)[0]? == some 48)) = true then 3 else
  if (decide ((numL s).length < s.length) && ((denL s == [49]) || (Int.gcd (valZ (numL s)) (valZ (denL s)) != 1))) = true then 3 else 0
theorem numL_len (s : List UInt8) : (numL s).length < s.length ↔ (cutL s).2 ≠ none := by
  have h := cutL_eq s
  unfold numL
  cases hd : (cutL s).2 with
  | none => rw [hd] at h; dsimp only at h; rw [← h]; simp
  | some d =>
    rw [hd] at h; dsimp only at h
    have : s.length = (cutL s).1.length + (d.length + 1) := by
      conv => lhs; rw [h]
      simp
    simp; omega
theorem den_text {d : List UInt8} (h1 : allD d = true) (h2 : (d[0]? == some 48) = false) : Lib.decDigits (valL d) = d ∧ 0 < valL d := by
  obtain ⟨a, b⟩ := allD_all h1
  exact dec_valL d b a (fun c hc e => by
    have : c = 48 := by rw [← UInt8.toNat_inj]; exact e
    rw [hc, this] at h2
    simp at h2)
theorem ck2_ratL {s : List UInt8} {most : Nat} (h : ck2 s most = 0) : (∃ q : Rat, s = ratL q) ∧ s.length ≤ most := by
  unfold ck2 at h
  split at h
  · exact absurd h (by decide)
  rename_i hlen
  split at h
  · exact absurd h (by decide)
  rename_i hd
  split at h
  · exact absurd h (by decide)
  split at h
  · exact absurd h (by decide)
  rename_i hb
  split at h
  · exact absurd h (by decide)
  rename_i hg
  refine ⟨?_, by omega⟩
  have hb' : badZ (numL s) = false ∧ ((denL s)[0]? == some 48) = false := by
    cases h1 : badZ (numL s) <;> cases h2 : ((denL s)[0]? == some 48) <;> simp [h1, h2] at hb ⊢
  have hd1 : allD (strip (numL s)) = true ∧ allD (denL s) = true := by
    cases h1 : allD (strip (numL s)) <;> cases h2 : allD (denL s) <;> simp [h1, h2] at hd ⊢
  obtain ⟨z, hz⟩ := form_itoa hd1.1 hb'.1
  obtain ⟨hD, hD0⟩ := den_text hd1.2 hb'.2
  have hs := cutL_eq s
  cases hc : (cutL s).2 with
  | none =>
    rw [hc] at hs; dsimp only at hs
    refine ⟨(z : Rat), ?_⟩
    rw [ratL_w (Rat.den_intCast _), Rat.num_intCast, ← hz]
    exact hs
  | some d =>
    have hdd : denL s = d := by unfold denL; rw [hc]; rfl
    have hlt := (numL_len s).2 (by rw [hc]; simp)
    rw [hdd] at hD hD0
    have hvd : valZ d = (valL d : Int) := by
      have := valZ_itoa ((valL d : Nat) : Int)
      rw [itoa_nonneg (by omega), Int.natAbs_natCast, hD] at this
      exact this
    have e1 : valZ (numL s) = z := by rw [hz, valZ_itoa]
    rw [hdd, e1, hvd, decide_eq_true hlt, Bool.true_and] at hg
    have hg' : ¬ (d == [49]) = true ∧ Int.gcd z (valL d : Int) = 1 := by
      simp only [Bool.or_eq_true, bne_iff_ne, ne_eq, not_or, Classical.not_not] at hg
      exact hg
    have h1 : valL d ≠ 1 := fun e => hg'.1 (by
      rw [← hD, e, dec_small (by omega)]; rfl)
    have hcop : Nat.Coprime z.natAbs (valL d) := hg'.2
    refine ⟨⟨z, valL d, by omega, hcop⟩, ?_⟩
    have e2 : Lib.itoa ((valL d : Nat) : Int) = d := by rw [itoa_nonneg (by omega), Int.natAbs_natCast, hD]
    rw [ratL_f (by exact h1)]
    rw [hc] at hs; dsimp only at hs
    show s = Lib.itoa z ++ [47] ++ Lib.itoa ((valL d : Nat) : Int)
    rw [e2, ← hz, List.append_assoc]
    exact hs
theorem itoa_noslash (z : Int) : ∀ c ∈ Lib.itoa z, c ≠ 47 := by
  intro c hc e
  subst e
  by_cases h : z < 0
  · rw [itoa_neg h] at hc
    rcases List.mem_cons.1 hc with h1 | h1
    · exact absurd h1 (by decide)
    · have := dec_all _ _ h1; simp at this
  · rw [itoa_nonneg (by omega)] at hc
    have := dec_all _ _ hc; simp at this
theorem cutL_ratL (q : Rat) : cutL (ratL q) = (Lib.itoa q.num, if q.den = 1 then none else some (Lib.itoa (q.den : Int))) := by
  unfold ratL
  by_cases h : q.den = 1
  · rw [if_pos h, if_pos h, cutL_none (itoa_noslash _)]
  · rw [if_neg h, if_neg h, List.append_assoc]
    exact cutL_some (itoa_noslash _)
theorem numL_ratL (q : Rat) : numL (ratL q) = Lib.itoa q.num := by unfold numL; rw [cutL_ratL]
theorem denL_ratL (q : Rat) : denL (ratL q) = Lib.itoa (q.den : Int) := by
  unfold denL; rw [cutL_ratL]
  by_cases h : q.den = 1
  · rw [if_pos h, h]; exact itoa_one.symm
  · rw [if_neg h]; rfl
end Go.Proofs.YtloocadjbpgldaaGreatDoor
/- The reference of layer 1: trim, order, Sign. -/
namespace Go.Proofs.YtloocadjbpgldaaGreatDoor
open Go.RowKit

set_option maxHeartbeats 400000 in
theorem r1_trim (ao : Option Addr) (len cap : Nat) (n : Int) (w : World) (hl : len ≤ 2000000) (hcap : len ≤ cap) (h0 : 0 ≤ n) (h1 : tn n len = 0) (hr : DRow w ao len (td n)) :
    Calls Tryz.prog 117 #[.slice ao len cap] w fun e w' => (∃ k, e = .returned (.slice ao k cap) ∧ k ≤ len ∧ NX n k) ∧ w = w' := by
  go_enter Tryz.func117, Tryz.ntmps117
  go_wp2
  go_loop [3] (fun v => ∃ k : Nat, k ≤ len ∧ v = .int .i64 k ∧ Hid (tn n k = 0)) (fun v => (intOf v).toNat)
  case atStart => exact ⟨len, Nat.le_refl _, rfl, h1⟩
  case round =>
    obtain ⟨k, hk, rfl, hz⟩ := hrel
    by_cases hp : 0 < k
    · obtain ⟨b, off, rfl, hcs⟩ := hr.at_ (by omega)
      have hcell := hcs (k-1) (by omega)
      have e1 : ((k:Int) - 1) = ((k-1 : Nat) : Int) := by omega
      clear hcs
      go_wp2
      · have h2 : (td n (k - 1) == 0) = true := by assumption
        go_round
        case rel => exact ⟨k - 1, by omega, by go_num, tn_trim hz.out (k - 1) (by omega) (fun j h3 h4 => by
          obtain rfl : j = k - 1 := by omega
          simpa using h2)⟩
        case measure => simp [intOf]; omega
      · have h2 : (td n (k - 1) == 0) = false := by assumption
        go_ret
        exact ⟨⟨k, rfl, hk, NX.mk' h0 hz.out (fun _ => by simpa using h2)⟩, rfl⟩
    · go_wp2
      go_ret
      obtain rfl : k = 0 := by omega
      exact ⟨⟨0, rfl, by omega, NX.mk' h0 hz.out (by omega)⟩, rfl⟩

theorem lt_of_td {a b : Int} {k : Nat} (h : tn a (k + 1) = tn b (k + 1)) (hd : td a k < td b k) : a < b := by
  refine Int.lt_of_not_ge fun hge => ?_
  have h1 := tn_mono hge k
  have h2 := tn_split a k
  have h3 := tn_split b k
  omega
set_option maxHeartbeats 400000 in
theorem r1_order (ao bo : Option Addr) (la lb ca cb : Nat) (a b : Int) (w : World) (hla : la ≤ 2000000) (hlb : lb ≤ 2000000)
   (na : NX a la) (ha : DRow w ao la (td a)) (nb : NX b lb) (hb : DRow w bo lb (td b)) :
    Calls Tryz.prog 105 #[.slice ao la ca, .slice bo lb cb] w fun e w' => e = .returned (.int .i64 (sgn (a - b))) ∧ Below w.heap.size w w' := by
  by_cases hl : la = lb
  · subst hl
    have hne : ((la : Int) != la) = false := by simp
    go_enter Tryz.func105, Tryz.ntmps105
    go_wp2
    go_loopw [5] (fun i wr => ∃ k : Nat, k ≤ la ∧ i = .int .i64 ((k : Int) - 1) ∧ Hid (tn a k = tn b k) ∧ Below w.heap.size w wr) (fun i _ => (intOf i + 1).toNat)
    case atStart => exact ⟨la, Nat.le_refl _, rfl, by rw [Hid, na.top, nb.top], Below.refl _ _⟩
    case round =>
      obtain ⟨k, hk, rfl, hz, hB⟩ := hrel
      by_cases hp : 0 < k
      · obtain ⟨b1, off1, rfl, hc1⟩ := (ha.below hB).at_ (by omega)
        obtain ⟨b2, off2, rfl, hc2⟩ := (hb.below hB).at_ (by omega)
        have hcell1 := hc1 (k-1) (by omega)
        have hcell2 := hc2 (k-1) (by omega)
        obtain ⟨j, rfl⟩ : ∃ j, k = j + 1 := ⟨k - 1, by omega⟩
        have e1 : (((j + 1 : Nat) : Int) - 1) = (j : Int) := by omega
        have e2 : j + 1 - 1 = j := by omega
        rw [e2] at hcell1 hcell2
        simp only [e1]
        clear hc1 hc2 e1 e2
        have i0 : (0 : Int) ≤ (j : Int) := by omega
        have i1 : (j : Int) < (la : Int) := by omega
        go_wp2
        go_quiet (fail)
        go_wp2
        · have h2 : td a j < td b j := by assumption
          go_ret
          exact ⟨ret_int (sgn_neg (by have := lt_of_td hz.out h2; omega)).symm, hB.drewN _⟩
        · have h2 : td b j ≤ td a j := by assumption
          go_quiet (fail)
          go_wp2
          · have h3 : td b j < td a j := by assumption
            go_ret
            exact ⟨ret_int (sgn_pos (by have := lt_of_td hz.out.symm h3; omega)).symm, (hB.drewN _).drewN _⟩
          · have h3 : td a j ≤ td b j := by assumption
            go_roundw
            case rel =>
              refine ⟨j, by omega, rfl, ?_, hB.drewN _⟩
              have h1 := tn_split a j
              have h4 := tn_split b j
              have h5 := hz.out
              show tn a j = tn b j
              omega
            case measure => simp [intOf]
      · obtain rfl : k = 0 := by omega
        go_wp2
        go_ret
        have h3 : a = b := hz.out
        exact ⟨ret_int (by rw [h3, Int.sub_self]; rfl), hB⟩
  · have hne : ((la : Int) != lb) = true := by simp; omega
    by_cases hlt : la < lb
    · go_enter Tryz.func105, Tryz.ntmps105
      go_wp2
      go_ret
      exact ⟨ret_int (sgn_neg (by have := na.lt_of_len nb hlt; omega)).symm, Below.refl _ _⟩
    · go_enter Tryz.func105, Tryz.ntmps105
      go_wp2
      go_ret
      exact ⟨ret_int (sgn_pos (by have := nb.lt_of_len na (by omega); omega)).symm, Below.refl _ _⟩

/-! ### Sign -/
set_option maxHeartbeats 400000 in
theorem r1_sign_z (w : World) : Calls Tryz.prog 81 #[.string ⟨#[48]⟩] w fun e w' => e = .returned (.int .i64 0) ∧ w = w' := by
  go_enter Tryz.func81, Tryz.ntmps81
  go_wp2
  go_ret
  exact ⟨rfl, rfl⟩
set_option maxHeartbeats 400000 in
theorem r1_sign_n (s : ByteArray) (w : World) (h : (s.toList == [48]) = false) (h0 : 0 < s.size) (h1 : ((s[0].toNat : Int) == 45) = true) :
    Calls Tryz.prog 81 #[.string s] w fun e w' => e = .returned (.int .i64 (-1)) ∧ w = w' := by
  go_enter Tryz.func81, Tryz.ntmps81
  go_wp2
  go_ret
  exact ⟨rfl, rfl⟩
set_option maxHeartbeats 400000 in
theorem r1_sign_p (s : ByteArray) (w : World) (h : (s.toList == [48]) = false) (h0 : 0 < s.size) (h1 : ((s[0].toNat : Int) == 45) = false) :
    Calls Tryz.prog 81 #[.string s] w fun e w' => e = .returned (.int .i64 1) ∧ w = w' := by
  go_enter Tryz.func81, Tryz.ntmps81
  go_wp2
  go_ret
  exact ⟨rfl, rfl⟩
end Go.Proofs.YtloocadjbpgldaaGreatDoor
/- The reference of layer 1: the digits of a text. -/
namespace Go.Proofs.YtloocadjbpgldaaGreatDoor
open Go.RowKit

theorem getElem_toList {s : ByteArray} {l : List UInt8} (h : s.data.toList = l) {q : Nat} (hq : q < s.size) {c : UInt8} (hc : l[q]? = some c) : s[q] = c := by
  have h1 : s.data.toList[q]? = some c := by rw [h]; exact hc
  rw [Array.getElem?_toList] at h1
  obtain ⟨h2, h3⟩ := Array.getElem?_eq_some_iff.1 h1
  exact h3
set_option maxRecDepth 10000 in
set_option maxHeartbeats 1000000 in
theorem r1_digits (neg : Bool) (n : Nat) (s : ByteArray) (w : World) (hs : s.data.toList = (if neg then [45] else []) ++ Lib.decDigits n) (hlen : (Lib.decDigits n).length ≤ 900000) :
    Calls Tryz.prog 106 #[.string s] w fun e w' => (∃ v, e = .returned v ∧ TenS w' v n) ∧ Below w.heap.size w w' := by
  obtain ⟨m, hm0, _, htop, hml, hchar⟩ := dec_any n
  obtain ⟨sg, hsg, hsgl⟩ : ∃ sg : Nat, sg ≤ 1 ∧ (if neg then [45] else [] : List UInt8).length = sg := by
    cases neg
    · exact ⟨0, by omega, rfl⟩
    · exact ⟨1, by omega, rfl⟩
  have hsz : s.size = sg + m := by
    have := congrArg List.length hs
    rw [List.length_append, hsgl, hml] at this
    simpa using this
  have HS := Lib.hid hs
  have HZ := Lib.hid hsz
  have HC := Lib.hid hchar
  have HM := Lib.hid hml
  have HT := Lib.hid htop
  have HG := Lib.hid hsgl
  have hszle : s.size ≤ 1000000 := by omega
  clear hs hsz hchar hml htop hsgl
  go_enter Tryz.func106, Tryz.ntmps106
  go_wp2
  go_loopw [3, 4] (fun o i wr => ∃ (j k : Nat) (v : Value), o = v ∧ i = .int .i64 ((j : Int) - 1) ∧ Hid ((k + j = s.size ∧ k ≤ m ∨ j = 0 ∧ k = m) ∧ OwnS wr 3 w.heap.size v (dvals .i64 k (td n))) ∧ Below w.heap.size w wr) (fun _ i _ => (intOf i + 1).toNat)
  case atStart => exact ⟨s.size, 0, _, rfl, rfl, ⟨.inl ⟨by omega, by omega⟩, OwnS.nil _ _ _⟩, Below.refl _ _⟩
  case round =>
    obtain ⟨j, k, v, rfl, rfl, hz, hB⟩ := hrel
    by_cases hp : 0 < j
    · obtain ⟨q, rfl⟩ : ∃ q, j = q + 1 := ⟨j - 1, by omega⟩
      have e1 : (((q + 1 : Nat) : Int) - 1) = (q : Int) := by omega
      simp only [e1]
      clear e1
      have hkj : k + (q + 1) = s.size ∧ k ≤ m := by
        rcases hz.out.1 with h | h
        · exact h
        · omega
      have hq : q < s.size := by omega
      by_cases hd : sg ≤ q
      · have hk : k < m := by have := HZ.out; omega
        have hch : s[q] = UInt8.ofNat (48 + (td (n : Int) k).toNat) := by
          refine getElem_toList HS.out hq ?_
          rw [List.getElem?_append_right (by rw [HG.out]; exact hd), HG.out, show q - sg = m - 1 - k by have := HZ.out; omega]
          exact HC.out k hk
        have hval := td_char (n : Int) k
        rw [← hch] at hval
        have d0 := td_nonneg (n : Int) k
        have d1 := td_lt (n : Int) k
        have hne : ((s[q].toNat : Int) != 45) = true := by simp; omega
        have b0 : (48 : Int) ≤ (s[q].toNat : Int) := by omega
        have b1 : (s[q].toNat : Int) ≤ 57 := by omega
        have HV := Lib.hid hval
        clear hval hch
        have HK := Lib.hid hkj
        clear hkj
        go_wp2_with (at_builtin; refine wpList_app1 rfl (.tmp 16) (.tmp 22) _ (by rfl) 3 w.heap.size _ _ _ (by rfl) (hz.out.2.gr (Gr.alloc _ _)) _ _ _ (by rfl) (heap_alloc_new _ _) rfl w (hB.alloc hB.size _) (by rw [dvals_length]; omega) 8 (by decide) Tryz.underlying106 int_info rfl (by have := hB.size; simp; omega) ?_)
        intro v' w' hown hB' _ _
        go_wp2
        go_roundw
        case rel =>
          refine ⟨q, k + 1, _, rfl, rfl, ⟨.inl ⟨by have := HK.out; omega, by omega⟩, ?_⟩, hB'⟩
          rw [dvals_succ]
          rw [show ((s[q].toNat : Int) - 48) = td (n : Int) k by have := HV.out; omega] at hown
          exact hown
        case measure => simp [intOf]
      · -- the sign
        have hq0 : q = 0 := by omega
        subst hq0
        have hkm : k = m := by have := HZ.out; omega
        have hch : s[0] = 45 := by
          refine getElem_toList HS.out hq ?_
          cases neg
          · have := HG.out; simp at this; omega
          · rfl
        have hne : ((s[0].toNat : Int) != 45) = false := by rw [hch]; rfl
        have HH := Lib.hid hkm
        clear hch hkm hkj
        go_wp2
        go_roundw
        case rel => exact ⟨0, k, _, rfl, rfl, ⟨.inr ⟨rfl, HH.out⟩, hz.out.2⟩, hB⟩
        case measure => simp [intOf]
    · obtain rfl : j = 0 := by omega
      have hkm : k = m := by
        rcases hz.out.1 with h | h
        · have := HZ.out; omega
        · exact h.2
      subst hkm
      obtain ⟨ao, cap, rfl, hcap, _, hrow⟩ := hz.out.2.drow
      go_wp2_with fail
      refine (r1_trim ao k cap n _ (by omega) hcap (by omega) HT.out hrow).mono ?_
      rintro e w1 ⟨⟨k', rfl, hk', hnx⟩, rfl⟩
      go_wp2
      go_ret
      exact ⟨⟨_, rfl, ao, k', cap, rfl, by omega, hnx, hrow.shorter hk'⟩, hB⟩
end Go.Proofs.YtloocadjbpgldaaGreatDoor
/- The reference of layer 1: sums and differences of digits. -/
namespace Go.Proofs.YtloocadjbpgldaaGreatDoor
open Go.RowKit

theorem plus_stepx2 {a b c : Int} {i : Nat} (h : tn (a + b) i = tn a i + tn b i + c) (h0 : 0 ≤ c) (h1 : c ≤ 1) (ha : tn a i = 0) :
    td (a + b) i = (c + td b i) % 10 ∧ tn (a + b) (i + 1) = tn a (i + 1) + tn b (i + 1) + (c + td b i) / 10 ∧ 0 ≤ (c + td b i) / 10 ∧ (c + td b i) / 10 ≤ 1 := by
  unfold td; simp only [tn_succ]; omega
theorem plus_stepx3 {a b c : Int} {i : Nat} (h : tn (a + b) i = tn a i + tn b i + c) (h0 : 0 ≤ c) (h1 : c ≤ 1) (ha : tn a i = 0) (hb : tn b i = 0) :
    td (a + b) i = c % 10 ∧ tn (a + b) (i + 1) = tn a (i + 1) + tn b (i + 1) + c / 10 ∧ c / 10 = 0 := by
  unfold td; simp only [tn_succ]; omega
set_option maxRecDepth 10000 in
set_option maxHeartbeats 4000000 in
theorem r1_plus (ao bo : Option Addr) (la lb ca cb : Nat) (a b : Int) (w : World) (hla : la ≤ 900000) (hlb : lb ≤ 900000)
   (na : NX a la) (ha : DRow w ao la (td a)) (nb : NX b lb) (hb : DRow w bo lb (td b)) :
    Calls Tryz.prog 133 #[.slice ao la ca, .slice bo lb cb] w fun e w' => (∃ v, e = .returned v ∧ TenZ w' v (a + b)) ∧ Below w.heap.size w w' := by
  obtain ⟨M, hMa, hMb, hMM⟩ : ∃ M : Nat, la ≤ M ∧ lb ≤ M ∧ M ≤ 900000 := ⟨max la lb, by omega, by omega, by omega⟩
  go_enter Tryz.func133, Tryz.ntmps133
  go_wp2
  go_loopw [5, 6, 7] (fun o c i wr => ∃ (k : Nat) (cr : Int) (v : Value), o = v ∧ c = .int .i64 cr ∧ i = .int .i64 k ∧ 0 ≤ cr ∧ cr ≤ 1 ∧ k ≤ M + 1 ∧
      Hid ((k = M + 1 → cr = 0) ∧ tn (a + b) k = tn a k + tn b k + cr ∧ OwnS wr 3 w.heap.size v (dvals .i64 k (td (a + b)))) ∧ Below w.heap.size w wr) (fun _ _ i _ => M + 1 - (intOf i).toNat)
  case atStart => exact ⟨0, 0, _, rfl, rfl, rfl, by omega, by omega, by omega, ⟨by omega, by simp [tn_zero], OwnS.nil _ _ _⟩, Below.refl _ _⟩
  case round =>
    obtain ⟨k, cr, v, rfl, rfl, rfl, hc0, hc1, hkM, hz, hB⟩ := hrel
    have a0 := td_nonneg a k
    have a1 := td_lt a k
    have b0 := td_nonneg b k
    have b1 := td_lt b k
    by_cases hl1 : k < la
    · by_cases hl2 : k < lb
      · obtain ⟨b1, off1, rfl, hcs1⟩ := (ha.below hB).at_ (by omega)
        have hcell1 := hcs1 k hl1
        clear hcs1
        obtain ⟨b2, off2, rfl, hcs2⟩ := (hb.below hB).at_ (by omega)
        have hcell2 := hcs2 k hl2
        clear hcs2
        go_wp2_with (at_builtin; refine wpList_app1 rfl (.tmp 46) (.tmp 49) _ (by rfl) 3 w.heap.size _ _ _ (by rfl) (hz.out.2.2.gr (Gr.alloc _ _)) _ _ _ (by rfl) (heap_alloc_new _ _) rfl w (hB.alloc hB.size _) (by rw [dvals_length]; omega) 8 (by decide) Tryz.underlying106 int_info rfl (by have := hB.size; simp; omega) ?_)
        intro v1 w1 hown hB1 _ _
        have hs := plus_stepx hz.out.2.1 hc0 hc1
        have HS := Lib.hid hs
        clear hs
        go_wp2
        go_roundw
        case rel =>
          have hs := HS.out
          refine ⟨k + 1, _, _, rfl, rfl, by go_num, hs.2.2.1, hs.2.2.2, by omega, ⟨fun h => by omega, hs.2.1, ?_⟩, hB1⟩
          rw [dvals_succ, hs.1]; exact hown
        case measure => simp [intOf]; omega
      · have e0 : tn b k = 0 := tn_ge nb.top (by omega)
        have HE := Lib.hid e0
        clear e0
        obtain ⟨b1, off1, rfl, hcs1⟩ := (ha.below hB).at_ (by omega)
        have hcell1 := hcs1 k hl1
        clear hcs1
        go_wp2_with (at_builtin; refine wpList_app1 rfl (.tmp 46) (.tmp 49) _ (by rfl) 3 w.heap.size _ _ _ (by rfl) (hz.out.2.2.gr (Gr.alloc _ _)) _ _ _ (by rfl) (heap_alloc_new _ _) rfl w (hB.alloc hB.size _) (by rw [dvals_length]; omega) 8 (by decide) Tryz.underlying106 int_info rfl (by have := hB.size; simp; omega) ?_)
        intro v1 w1 hown hB1 _ _
        have hs := plus_step0x hz.out.2.1 hc0 hc1 HE.out
        have HS := Lib.hid hs
        clear hs
        go_wp2
        go_roundw
        case rel =>
          have hs := HS.out
          refine ⟨k + 1, _, _, rfl, rfl, by go_num, hs.2.2.1, hs.2.2.2, by omega, ⟨fun h => by omega, hs.2.1, ?_⟩, hB1⟩
          rw [dvals_succ, hs.1]; exact hown
        case measure => simp [intOf]; omega
    · have e0 : tn a k = 0 := tn_ge na.top (by omega)
      have HE := Lib.hid e0
      clear e0
      by_cases hl2 : k < lb
      · obtain ⟨b2, off2, rfl, hcs2⟩ := (hb.below hB).at_ (by omega)
        have hcell2 := hcs2 k hl2
        clear hcs2
        go_wp2_with (at_builtin; refine wpList_app1 rfl (.tmp 46) (.tmp 49) _ (by rfl) 3 w.heap.size _ _ _ (by rfl) (hz.out.2.2.gr (Gr.alloc _ _)) _ _ _ (by rfl) (heap_alloc_new _ _) rfl w (hB.alloc hB.size _) (by rw [dvals_length]; omega) 8 (by decide) Tryz.underlying106 int_info rfl (by have := hB.size; simp; omega) ?_)
        intro v1 w1 hown hB1 _ _
        have hs := plus_stepx2 hz.out.2.1 hc0 hc1 HE.out
        have HS := Lib.hid hs
        clear hs
        go_wp2
        go_roundw
        case rel =>
          have hs := HS.out
          refine ⟨k + 1, _, _, rfl, rfl, by go_num, hs.2.2.1, hs.2.2.2, by omega, ⟨fun h => by omega, hs.2.1, ?_⟩, hB1⟩
          rw [dvals_succ, hs.1]; exact hown
        case measure => simp [intOf]; omega
      · have e1 : tn b k = 0 := tn_ge nb.top (by omega)
        have HF := Lib.hid e1
        clear e1
        by_cases hcr : 0 < cr
        · have hk1 : k ≤ M := by
            rcases Nat.lt_or_ge M k with h | h
            · have := hz.out.1 (by omega); omega
            · exact h
          go_wp2_with (at_builtin; refine wpList_app1 rfl (.tmp 46) (.tmp 49) _ (by rfl) 3 w.heap.size _ _ _ (by rfl) (hz.out.2.2.gr (Gr.alloc _ _)) _ _ _ (by rfl) (heap_alloc_new _ _) rfl w (hB.alloc hB.size _) (by rw [dvals_length]; omega) 8 (by decide) Tryz.underlying106 int_info rfl (by have := hB.size; simp; omega) ?_)
          intro v1 w1 hown hB1 _ _
          have hs := plus_stepx3 hz.out.2.1 hc0 hc1 HE.out HF.out
          have HS := Lib.hid hs
          clear hs
          go_wp2
          go_roundw
          case rel =>
            have hs := HS.out
            refine ⟨k + 1, _, _, rfl, rfl, by go_num, by omega, by omega, by omega, ⟨fun _ => hs.2.2, hs.2.1, ?_⟩, hB1⟩
            rw [dvals_succ, hs.1]; exact hown
          case measure => simp [intOf]; omega
        · have hcr0 : cr = 0 := by omega
          obtain ⟨ao1, cap1, rfl, hcap1, _, hrow1⟩ := hz.out.2.2.drow
          have HR := Lib.hid hcr0
          clear hcr0
          go_wp2
          go_ret
          refine ⟨⟨_, rfl, ao1, k, cap1, rfl, hcap1, by omega, ?_, hrow1⟩, hB⟩
          have h1 := hz.out.2.1
          have h2 := HE.out
          have h3 := HF.out
          have h4 := HR.out
          omega
set_option maxRecDepth 10000 in
set_option maxHeartbeats 4000000 in
theorem r1_minus (ao bo : Option Addr) (la lb ca cb : Nat) (a b : Int) (w : World) (hla : la ≤ 900000) (hba : b ≤ a)
   (na : NX a la) (ha : DRow w ao la (td a)) (nb : NX b lb) (hb : DRow w bo lb (td b)) :
    Calls Tryz.prog 118 #[.slice ao la ca, .slice bo lb cb] w fun e w' => (∃ v, e = .returned v ∧ TenF w' w.heap.size v (a - b)) ∧ Below w.heap.size w w' := by
  have hlb : lb ≤ la := nb.len_le na hba
  go_enter Tryz.func118, Tryz.ntmps118
  go_wp2
  go_loopw [5, 6, 7] (fun o c i wr => ∃ (k : Nat) (br : Int) (v : Value), o = v ∧ c = .int .i64 br ∧ i = .int .i64 k ∧ 0 ≤ br ∧ br ≤ 1 ∧ k ≤ la ∧
      Hid (tn (a - b) k = tn a k - tn b k - br ∧ OwnS wr 3 w.heap.size v (dvals .i64 k (td (a - b)))) ∧ Below w.heap.size w wr) (fun _ _ i _ => la - (intOf i).toNat)
  case atStart => exact ⟨0, 0, _, rfl, rfl, rfl, by omega, by omega, by omega, ⟨by simp [tn_zero], OwnS.nil _ _ _⟩, Below.refl _ _⟩
  case round =>
    obtain ⟨k, br, v, rfl, rfl, rfl, hc0, hc1, hk, hz, hB⟩ := hrel
    have a0 := td_nonneg a k
    have a1 := td_lt a k
    have b0 := td_nonneg b k
    have b1 := td_lt b k
    by_cases hl1 : k < la
    · obtain ⟨b1, off1, rfl, hcs1⟩ := (ha.below hB).at_ (by omega)
      have hcell1 := hcs1 k hl1
      clear hcs1
      by_cases hl2 : k < lb
      · obtain ⟨b2, off2, rfl, hcs2⟩ := (hb.below hB).at_ (by omega)
        have hcell2 := hcs2 k hl2
        clear hcs2
        by_cases hn : td a k - br - td b k < 0
        · have hn1 : ¬ 0 ≤ td a k - br - td b k := by omega
          go_wp2_with (at_builtin; refine wpList_app1 rfl (.tmp 35) (.tmp 37) _ (by rfl) 3 w.heap.size _ _ _ (by rfl) (hz.out.2.gr (Gr.alloc _ _)) _ _ _ (by rfl) (heap_alloc_new _ _) rfl w (hB.alloc hB.size _) (by rw [dvals_length]; omega) 8 (by decide) Tryz.underlying106 int_info rfl (by have := hB.size; simp; omega) ?_)
          intro v1 w1 hown hB1 _ _
          have hs := minus_stepx hz.out.1 hc0 hc1
          rw [if_pos (by omega)] at hs
          have hd : td (a - b) k = td a k - br - td b k + 10 := by rw [hs.1]; omega
          have HS := Lib.hid hs
          have HD := Lib.hid hd
          clear hs hd
          go_wp2
          go_roundw
          case rel =>
            refine ⟨k + 1, _, _, rfl, rfl, by go_num, by omega, by omega, by omega, ⟨HS.out.2, ?_⟩, hB1⟩
            rw [dvals_succ, HD.out]; exact hown
          case measure => simp [intOf]; omega
        · have hn1 : 0 ≤ td a k - br - td b k := by omega
          go_wp2_with (at_builtin; refine wpList_app1 rfl (.tmp 35) (.tmp 37) _ (by rfl) 3 w.heap.size _ _ _ (by rfl) (hz.out.2.gr (Gr.alloc _ _)) _ _ _ (by rfl) (heap_alloc_new _ _) rfl w (hB.alloc hB.size _) (by rw [dvals_length]; omega) 8 (by decide) Tryz.underlying106 int_info rfl (by have := hB.size; simp; omega) ?_)
          intro v1 w1 hown hB1 _ _
          have hs := minus_stepx hz.out.1 hc0 hc1
          rw [if_neg (by omega)] at hs
          have hd : td (a - b) k = td a k - br - td b k := by rw [hs.1]; omega
          have HS := Lib.hid hs
          have HD := Lib.hid hd
          clear hs hd
          go_wp2
          go_roundw
          case rel =>
            refine ⟨k + 1, _, _, rfl, rfl, by go_num, by omega, by omega, by omega, ⟨HS.out.2, ?_⟩, hB1⟩
            rw [dvals_succ, HD.out]; exact hown
          case measure => simp [intOf]; omega
      · have e0 : tn b k = 0 := tn_ge nb.top (by omega)
        have HE := Lib.hid e0
        clear e0
        by_cases hn : td a k - br < 0
        · have hn1 : ¬ 0 ≤ td a k - br := by omega
          go_wp2_with (at_builtin; refine wpList_app1 rfl (.tmp 35) (.tmp 37) _ (by rfl) 3 w.heap.size _ _ _ (by rfl) (hz.out.2.gr (Gr.alloc _ _)) _ _ _ (by rfl) (heap_alloc_new _ _) rfl w (hB.alloc hB.size _) (by rw [dvals_length]; omega) 8 (by decide) Tryz.underlying106 int_info rfl (by have := hB.size; simp; omega) ?_)
          intro v1 w1 hown hB1 _ _
          have hs := minus_step0x hz.out.1 hc0 hc1 HE.out
          rw [if_pos (by omega)] at hs
          have hd : td (a - b) k = td a k - br + 10 := by rw [hs.1]; omega
          have HS := Lib.hid hs
          have HD := Lib.hid hd
          clear hs hd
          go_wp2
          go_roundw
          case rel =>
            refine ⟨k + 1, _, _, rfl, rfl, by go_num, by omega, by omega, by omega, ⟨HS.out.2, ?_⟩, hB1⟩
            rw [dvals_succ, HD.out]; exact hown
          case measure => simp [intOf]; omega
        · have hn1 : 0 ≤ td a k - br := by omega
          go_wp2_with (at_builtin; refine wpList_app1 rfl (.tmp 35) (.tmp 37) _ (by rfl) 3 w.heap.size _ _ _ (by rfl) (hz.out.2.gr (Gr.alloc _ _)) _ _ _ (by rfl) (heap_alloc_new _ _) rfl w (hB.alloc hB.size _) (by rw [dvals_length]; omega) 8 (by decide) Tryz.underlying106 int_info rfl (by have := hB.size; simp; omega) ?_)
          intro v1 w1 hown hB1 _ _
          have hs := minus_step0x hz.out.1 hc0 hc1 HE.out
          rw [if_neg (by omega)] at hs
          have hd : td (a - b) k = td a k - br := by rw [hs.1]; omega
          have HS := Lib.hid hs
          have HD := Lib.hid hd
          clear hs hd
          go_wp2
          go_roundw
          case rel =>
            refine ⟨k + 1, _, _, rfl, rfl, by go_num, by omega, by omega, by omega, ⟨HS.out.2, ?_⟩, hB1⟩
            rw [dvals_succ, HD.out]; exact hown
          case measure => simp [intOf]; omega
    · obtain rfl : k = la := by omega
      have htop : tn (a - b) k = 0 := by
        have h1 := hz.out.1
        have h2 := na.top
        have h3 := tn_ge nb.top hlb
        have h4 := tn_nonneg (show 0 ≤ a - b by omega) k
        omega
      have HT := Lib.hid htop
      clear htop
      obtain ⟨ao1, cap1, rfl, hcap1, _, hrow1, hfr⟩ := hz.out.2.drowF
      go_wp2_with fail
      refine (r1_trim ao1 k cap1 (a - b) _ (by omega) hcap1 (by omega) HT.out hrow1).mono ?_
      rintro e w1 ⟨⟨k', rfl, hk', hnx⟩, rfl⟩
      go_wp2
      go_ret
      exact ⟨⟨_, rfl, ao1, k', cap1, rfl, by omega, hnx, hrow1.shorter hk', hfr⟩, hB⟩
end Go.Proofs.YtloocadjbpgldaaGreatDoor
/- The reference of layer 1: the text of digits. -/
namespace Go.Proofs.YtloocadjbpgldaaGreatDoor
open Go.RowKit

def bvals (l : List UInt8) : List Value := l.map fun c => .int .u8 (c.toNat : Int)
theorem bvals_length (l : List UInt8) : (bvals l).length = l.length := by simp [bvals]
theorem bvals_snoc (l : List UInt8) (c : UInt8) : bvals (l ++ [c]) = bvals l ++ [.int .u8 (c.toNat : Int)] := by simp [bvals]
theorem u8_info : (Tryz.prog.info? 5).map (fun i => (i.zero, i.size, i.bytes)) = some (some (.int .u8 0), 1, 1) := by kernel_rfl
theorem OwnS.conv {w : World} {B : Nat} {v : Value} {l : List UInt8} (h : OwnS w 5 B v (bvals l)) (hp : l ≠ []) :
    ∃ g cap, v = .slice (some ⟨g, 0, none⟩) l.length cap ∧ (convert 43 9 (.slice (some ⟨g, 0, none⟩) l.length cap)).run Tryz.prog w = .ok (.string ⟨l.toArray⟩) w := by
  obtain ⟨g, cap, cur, e, hb, hg, h1, h2, hc⟩ := h.cells (by rw [bvals_length]; exact List.length_pos_iff.2 hp)
  rw [bvals_length] at e h1 hc
  refine ⟨g, cap, e, run_convert_bytes_back w _ _ 5 ⟨g, 0, none⟩ cap l (by kernel_rfl) (by kernel_rfl) (by kernel_rfl) (fun j hj => ?_)⟩
  have e0 : (⟨g, 0, none⟩ : Addr).add j = ⟨g, j, none⟩ := by
    unfold Addr.add
    by_cases h0 : j = 0 <;> simp [h0]
  rw [e0, cells_of hg, hc j hj]
  simp [bvals, hj]
theorem dec_ne' (n : Nat) : Lib.decDigits n ≠ [] := fun e => by have := dec_pos n; rw [e] at this; simp at this
/-- the text of a sign and a magnitude -/
def textL (neg : Bool) (n : Nat) : List UInt8 := if n = 0 then [48] else (if neg then [45] else []) ++ Lib.decDigits n
theorem textL_itoa (neg : Bool) (n : Nat) : textL neg n = Lib.itoa (if neg then -(n : Int) else n) := by
  unfold textL
  by_cases h : n = 0
  · subst h
    rw [if_pos rfl]
    cases neg <;> exact (dec_small (u := 0) (by omega)).symm
  · rw [if_neg h]
    cases neg
    · rw [if_neg (by decide), if_neg (by decide), itoa_nonneg (by omega), Int.natAbs_natCast]; rfl
    · rw [if_pos rfl, if_pos rfl, itoa_neg (by omega)]
      simp
set_option maxRecDepth 10000 in
set_option maxHeartbeats 4000000 in
theorem r1_text (neg : Bool) (ao : Option Addr) (len cap n : Nat) (w : World) (hl : len ≤ 900001) (hcap : len ≤ cap) (h1 : tn (n : Int) len = 0) (hr : DRow w ao len (td (n : Int))) :
    Calls Tryz.prog 107 #[.bool neg, .slice ao len cap] w fun e w' => e = .returned (.string ⟨(textL neg n).toArray⟩) ∧ Below w.heap.size w w' := by
  have H1 := Lib.hid h1
  clear h1
  go_enter Tryz.func107, Tryz.ntmps107
  go_wp2_with fail
  refine (r1_trim ao len cap n _ (by omega) hcap (by omega) H1.out hr).mono ?_
  rintro e w1 ⟨⟨k, rfl, hk, hnx⟩, rfl⟩
  by_cases hk0 : k = 0
  · subst hk0
    have hn : n = 0 := by have := hnx.len_zero.1 rfl; omega
    have HN := Lib.hid hn
    clear hn
    go_wp2
    go_ret
    refine ⟨?_, Below.refl _ _⟩
    rw [textL, if_pos HN.out]
    rfl
  · have hn : 0 < n := by
      rcases Nat.eq_zero_or_pos n with e | e
      · exact absurd (hnx.len_zero.2 (by omega)) hk0
      · exact e
    have hk1 : ((k : Int) == 0) = false := by simp; omega
    have hrow := hr.shorter hk
    cases neg
    · go_wp2
      go_loopw [5, 6] (fun o i wr => ∃ (j : Nat) (v : Value), o = v ∧ i = .int .i64 ((j : Int) - 1) ∧ j ≤ k ∧ Hid (OwnS wr 5 w.heap.size v (bvals (([] : List UInt8) ++ (Lib.decDigits n).take (k - j)))) ∧ Below w.heap.size w wr) (fun _ i _ => (intOf i + 1).toNat)
      case atStart => exact ⟨k, _, rfl, rfl, Nat.le_refl _, (show OwnS _ _ _ _ (bvals ([] ++ (Lib.decDigits n).take (k - k))) by rw [Nat.sub_self]; exact OwnS.nil _ _ _), Below.refl _ _⟩
      case round =>
        obtain ⟨j, v, rfl, rfl, hj, hz, hB⟩ := hrel
        by_cases hp : 0 < j
        · obtain ⟨q, rfl⟩ : ∃ q, j = q + 1 := ⟨j - 1, by omega⟩
          have e1 : (((q + 1 : Nat) : Int) - 1) = (q : Int) := by omega
          simp only [e1]
          clear e1
          obtain ⟨b1, off1, rfl, hcs1⟩ := (hrow.below hB).at_ (by omega)
          have hcell1 := hcs1 q (by omega)
          clear hcs1
          have d0 := td_nonneg (n : Int) q
          have d1 := td_lt (n : Int) q
          have hlen : (bvals (([] : List UInt8) ++ (Lib.decDigits n).take (k - (q + 1)))).length ≤ 1000000 := by
            rw [bvals_length, List.length_append]
            have h1 := List.length_take_le (k - (q + 1)) (Lib.decDigits n)
            have h2 : (([] : List UInt8) : List UInt8).length ≤ 1 := by decide
            omega
          go_wp2_with (at_builtin; refine wpList_app1 rfl (.tmp 23) (.tmp 30) _ (by rfl) 5 w.heap.size _ _ _ (by rfl) (hz.out.gr (Gr.alloc _ _)) _ _ _ (by rfl) (heap_alloc_new _ _) rfl w (hB.alloc hB.size _) hlen 1 (by decide) Tryz.underlying43 u8_info rfl (by have := hB.size; simp; omega) ?_)
          intro v1 w1 hown hB1 _ _
          go_wp2
          go_roundw
          case rel =>
            refine ⟨q, _, rfl, rfl, by omega, ?_, hB1⟩
            have h1 := dec_take hnx hn (show k - (q + 1) < k by omega)
            rw [show k - (q + 1) + 1 = k - q by omega, show k - 1 - (k - (q + 1)) = q by omega] at h1
            rw [h1, ← List.append_assoc, bvals_snoc, td_char]
            exact hown
          case measure => simp [intOf]
        · obtain rfl : j = 0 := by omega
          have hl2 : (Lib.decDigits n).take (k - 0) = Lib.decDigits n := by
            rw [Nat.sub_zero, List.take_of_length_le (by rw [(dec_td k n hnx hn).1]; exact Nat.le_refl _)]
          have hz1 := hz.out
          rw [hl2] at hz1
          obtain ⟨l, hl⟩ : ∃ l, l = ([] : List UInt8) ++ Lib.decDigits n := ⟨_, rfl⟩
          rw [← hl] at hz1
          obtain ⟨g, cap1, rfl, hconv⟩ := hz1.conv (by rw [hl]; simp [dec_ne'])
          have HL := Lib.hid hl
          clear hl hz1 hl2
          go_wp2
          go_ret
          refine ⟨?_, hB⟩
          rw [textL, if_neg (by omega)]
          have hl := HL.out
          subst hl
          rfl
    · go_wp2_with (at_builtin; refine wpList_app1 rfl (.tmp 13) (.tmp 14) _ (by rfl) 5 w.heap.size _ _ _ (by rfl) (OwnS.nil _ _ _) _ _ _ (by rfl) (heap_alloc_new _ _) rfl w ((Below.refl _ _).alloc (Nat.le_refl _) _) (by simp) 1 (by decide) Tryz.underlying43 u8_info rfl (by simp) ?_)
      intro v0 w0 hown0 hB0 _ _
      go_wp2
      go_loopw [5, 6] (fun o i wr => ∃ (j : Nat) (v : Value), o = v ∧ i = .int .i64 ((j : Int) - 1) ∧ j ≤ k ∧ Hid (OwnS wr 5 w.heap.size v (bvals (([45] : List UInt8) ++ (Lib.decDigits n).take (k - j)))) ∧ Below w.heap.size w wr) (fun _ i _ => (intOf i + 1).toNat)
      case atStart => exact ⟨k, _, rfl, rfl, Nat.le_refl _, (show OwnS _ _ _ _ (bvals ([45] ++ (Lib.decDigits n).take (k - k))) by rw [Nat.sub_self]; exact hown0), hB0⟩
      case round =>
        obtain ⟨j, v, rfl, rfl, hj, hz, hB⟩ := hrel
        by_cases hp : 0 < j
        · obtain ⟨q, rfl⟩ : ∃ q, j = q + 1 := ⟨j - 1, by omega⟩
          have e1 : (((q + 1 : Nat) : Int) - 1) = (q : Int) := by omega
          simp only [e1]
          clear e1
          obtain ⟨b1, off1, rfl, hcs1⟩ := (hrow.below hB).at_ (by omega)
          have hcell1 := hcs1 q (by omega)
          clear hcs1
          have d0 := td_nonneg (n : Int) q
          have d1 := td_lt (n : Int) q
          have hlen : (bvals (([45] : List UInt8) ++ (Lib.decDigits n).take (k - (q + 1)))).length ≤ 1000000 := by
            rw [bvals_length, List.length_append]
            have h1 := List.length_take_le (k - (q + 1)) (Lib.decDigits n)
            have h2 : (([45] : List UInt8) : List UInt8).length ≤ 1 := by decide
            omega
          go_wp2_with (at_builtin; refine wpList_app1 rfl (.tmp 23) (.tmp 30) _ (by rfl) 5 w.heap.size _ _ _ (by rfl) (hz.out.gr (Gr.alloc _ _)) _ _ _ (by rfl) (heap_alloc_new _ _) rfl w (hB.alloc hB.size _) hlen 1 (by decide) Tryz.underlying43 u8_info rfl (by have := hB.size; simp; omega) ?_)
          intro v1 w1 hown hB1 _ _
          go_wp2
          go_roundw
          case rel =>
            refine ⟨q, _, rfl, rfl, by omega, ?_, hB1⟩
            have h1 := dec_take hnx hn (show k - (q + 1) < k by omega)
            rw [show k - (q + 1) + 1 = k - q by omega, show k - 1 - (k - (q + 1)) = q by omega] at h1
            rw [h1, ← List.append_assoc, bvals_snoc, td_char]
            exact hown
          case measure => simp [intOf]
        · obtain rfl : j = 0 := by omega
          have hl2 : (Lib.decDigits n).take (k - 0) = Lib.decDigits n := by
            rw [Nat.sub_zero, List.take_of_length_le (by rw [(dec_td k n hnx hn).1]; exact Nat.le_refl _)]
          have hz1 := hz.out
          rw [hl2] at hz1
          obtain ⟨l, hl⟩ : ∃ l, l = ([45] : List UInt8) ++ Lib.decDigits n := ⟨_, rfl⟩
          rw [← hl] at hz1
          obtain ⟨g, cap1, rfl, hconv⟩ := hz1.conv (by rw [hl]; simp)
          have HL := Lib.hid hl
          clear hl hz1 hl2
          go_wp2
          go_ret
          refine ⟨?_, hB⟩
          rw [textL, if_neg (by omega)]
          have hl := HL.out
          subst hl
          rfl
end Go.Proofs.YtloocadjbpgldaaGreatDoor
/- The reference of layer 1: the contracts that the printed walks use. -/
namespace Go.Proofs.YtloocadjbpgldaaGreatDoor
open Go.RowKit

theorem dec_len_sz {k : Nat} {z : Int} (h : Sz k z) : (Lib.decDigits z.natAbs).length ≤ k + 1 := dec_len_bits k _ h
theorem NX.len_bits {n len k : Nat} (h : NX (n : Int) len) (hn : n < 2 ^ k) : len ≤ k + 1 := by
  rcases Nat.eq_zero_or_pos n with e | hp
  · have := h.len_zero.2 (by omega); omega
  · have h1 := (dec_td len n h hp).1
    have h2 := dec_len_bits k n hn
    omega
theorem itoa_hd {z : Int} : (Lib.itoa z)[0]? = some 45 ↔ z < 0 := by
  constructor
  · intro h
    refine Int.lt_of_not_ge fun hz => ?_
    rw [itoa_nonneg hz] at h
    have := dec_all _ 45 (List.mem_of_getElem? h)
    simp at this
  · intro h; rw [itoa_neg h]; rfl
theorem itoa_zero : Lib.itoa 0 = [48] := dec_small (u := 0) (by omega)
theorem itoa_ne_zero {z : Int} (h : z ≠ 0) : Lib.itoa z ≠ [48] := fun e => h (itoa_inj (by rw [e, itoa_zero]))
theorem itoa_pos (z : Int) : 0 < (Lib.itoa z).length := by
  by_cases h : z < 0
  · rw [itoa_neg h]; simp
  · rw [itoa_nonneg (by omega)]; exact dec_pos _
theorem r1_sign_i (z : Int) (w : World) :
    Calls Tryz.prog 81 #[.string ⟨(Lib.itoa z).toArray⟩] w fun e w' => e = .returned (.int .i64 (sgn z)) ∧ Gr w w' := by
  by_cases h0 : z = 0
  · subst h0
    rw [itoa_zero]
    refine (r1_sign_z w).mono ?_
    rintro e w1 ⟨he, rfl⟩
    exact ⟨he, Gr.refl _⟩
  · have hb : ((⟨(Lib.itoa z).toArray⟩ : ByteArray).toList == [48]) = false := by
      rw [beq_eq_false_iff_ne, ByteArray.toList_eq]
      exact itoa_ne_zero h0
    have hp : 0 < (⟨(Lib.itoa z).toArray⟩ : ByteArray).size := by
      show 0 < (Lib.itoa z).toArray.size
      simpa using itoa_pos z
    obtain ⟨c, hc⟩ : ∃ c, (Lib.itoa z)[0]? = some c := ⟨_, List.getElem?_eq_getElem (itoa_pos z)⟩
    have hs0 : (⟨(Lib.itoa z).toArray⟩ : ByteArray)[0] = c := getElem_toList (by simp) hp hc
    by_cases hz : z < 0
    · have h1 := itoa_hd.2 hz
      rw [hc] at h1
      obtain rfl := Option.some.inj h1
      refine (r1_sign_n _ w hb hp (by rw [hs0]; rfl)).mono ?_
      rintro e w1 ⟨he, rfl⟩
      exact ⟨by rw [he, sgn_neg hz], Gr.refl _⟩
    · have h1 : c ≠ 45 := fun e => hz (itoa_hd.1 (by rw [hc, e]))
      refine (r1_sign_p _ w hb hp (by
        rw [hs0, beq_eq_false_iff_ne]
        intro e
        exact h1 (by rw [← UInt8.toNat_inj]; have : (45 : UInt8).toNat = 45 := rfl; omega))).mono ?_
      rintro e w1 ⟨he, rfl⟩
      exact ⟨by rw [he, sgn_pos (by omega)], Gr.refl _⟩
theorem r1_digits_i {k : Nat} (z : Int) (hz : Sz k z) (hk : k ≤ 800000) (w : World) :
    Calls Tryz.prog 106 #[.string ⟨(Lib.itoa z).toArray⟩] w fun e w' => (∃ v, e = .returned v ∧ TenS w' v (z.natAbs : Int)) ∧ Gr w w' :=
  r1_digits (decide (z < 0)) z.natAbs _ w (by
    by_cases h : z < 0
    · simp [h, itoa_neg h]
    · simp [h, itoa_nonneg (show 0 ≤ z by omega)]) (by have := dec_len_sz hz; omega)
theorem TenS.len {w : World} {v : Value} {n k : Nat} (h : TenS w v (n : Int)) (hn : n < 2 ^ k) : ∃ ao len cap, v = .slice ao len cap ∧ len ≤ cap ∧ NX (n : Int) len ∧ DRow w ao len (td (n : Int)) ∧ len ≤ k + 1 := by
  obtain ⟨ao, len, cap, h1, h2, h3, h4⟩ := h
  exact ⟨ao, len, cap, h1, h2, h3, h4, h3.len_bits hn⟩
theorem r1_order_i {k m a b : Nat} {x y : Value} {w : World} (ha : TenS w x (a : Int)) (hb : TenS w y (b : Int)) (h1 : a < 2 ^ k) (h2 : b < 2 ^ m) (hk : k + m ≤ 800000) :
    Calls Tryz.prog 105 #[x, y] w fun e w' => e = .returned (.int .i64 (sgn ((a : Int) - (b : Int)))) ∧ Gr w w' := by
  obtain ⟨ao, la, ca, rfl, c1, n1, r1, l1⟩ := ha.len h1
  obtain ⟨bo, lb, cb, rfl, c2, n2, r2, l2⟩ := hb.len h2
  exact r1_order ao bo la lb ca cb a b w (by omega) (by omega) n1 r1 n2 r2
theorem r1_minus_i {k a b : Nat} {x y : Value} {w : World} (ha : TenS w x (a : Int)) (hb : TenS w y (b : Int)) (h1 : a < 2 ^ k) (hba : b ≤ a) (hk : k ≤ 800000) :
    Calls Tryz.prog 118 #[x, y] w fun e w' => (∃ v, e = .returned v ∧ TenS w' v ((a - b : Nat) : Int)) ∧ Gr w w' := by
  obtain ⟨ao, la, ca, rfl, c1, n1, r1, l1⟩ := ha.len h1
  obtain ⟨bo, lb, cb, rfl, c2, n2, r2, l2⟩ := hb.len (Nat.lt_of_le_of_lt hba h1)
  rw [Int.ofNat_sub hba]
  refine (r1_minus ao bo la lb ca cb a b w (by omega) (by omega) n1 r1 n2 r2).mono ?_
  rintro e w1 ⟨⟨v, he, hv⟩, g⟩
  exact ⟨⟨v, he, hv.s⟩, g⟩
theorem r1_minus_f {k a b : Nat} {x y : Value} {w : World} (ha : TenS w x (a : Int)) (hb : TenS w y (b : Int)) (h1 : a < 2 ^ k) (hba : b ≤ a) (hk : k ≤ 800000) :
    Calls Tryz.prog 118 #[x, y] w fun e w' => (∃ v, e = .returned v ∧ TenF w' w.heap.size v ((a - b : Nat) : Int)) ∧ Gr w w' := by
  obtain ⟨ao, la, ca, rfl, c1, n1, r1, l1⟩ := ha.len h1
  obtain ⟨bo, lb, cb, rfl, c2, n2, r2, l2⟩ := hb.len (Nat.lt_of_le_of_lt hba h1)
  rw [Int.ofNat_sub hba]
  exact r1_minus ao bo la lb ca cb a b w (by omega) (by omega) n1 r1 n2 r2
theorem r1_plus_i {k m a b : Nat} {x y : Value} {w : World} (ha : TenS w x (a : Int)) (hb : TenS w y (b : Int)) (h1 : a < 2 ^ k) (h2 : b < 2 ^ m) (hk : k + m ≤ 800000) :
    Calls Tryz.prog 133 #[x, y] w fun e w' => (∃ v, e = .returned v ∧ TenZ w' v ((a + b : Nat) : Int)) ∧ Gr w w' := by
  obtain ⟨ao, la, ca, rfl, c1, n1, r1, l1⟩ := ha.len h1
  obtain ⟨bo, lb, cb, rfl, c2, n2, r2, l2⟩ := hb.len h2
  rw [Int.natCast_add]
  exact r1_plus ao bo la lb ca cb a b w (by omega) (by omega) n1 r1 n2 r2
theorem r1_text_z (neg : Bool) {n : Nat} {v : Value} {w : World} (h : TenZ w v (n : Int)) :
    Calls Tryz.prog 107 #[.bool neg, v] w fun e w' => e = .returned (.string ⟨(textL neg n).toArray⟩) ∧ Gr w w' := by
  obtain ⟨ao, len, cap, rfl, h1, h2, h3, h4⟩ := h
  exact r1_text neg ao len cap n w h2 h1 h3 h4
theorem r1_text_s {k : Nat} (neg : Bool) {n : Nat} {v : Value} {w : World} (h : TenS w v (n : Int)) (hn : n < 2 ^ k) (hk : k ≤ 800000) :
    Calls Tryz.prog 107 #[.bool neg, v] w fun e w' => e = .returned (.string ⟨(textL neg n).toArray⟩) ∧ Gr w w' := by
  obtain ⟨ao, len, cap, rfl, h1, h2, h3, h4⟩ := h.len hn
  exact r1_text neg ao len cap n w (by omega) h1 h2.top h3
theorem text_abs {n : Nat} {z : Int} {neg : Bool} (h : neg = true ∧ z = -(n : Int) ∨ neg = false ∧ z = n) : textL neg n = Lib.itoa z := by
  rw [textL_itoa]
  rcases h with ⟨rfl, rfl⟩ | ⟨rfl, rfl⟩
  · rfl
  · rfl
theorem rv_seq {P : Program} {a : Act} {o : Oper} {w : World} (t t2 : TypeId) (x y : Operand) (A B : List UInt8) (hop : o.op = .binOp .eql t x y t2) (hx : a.eval x = .string ⟨A.toArray⟩) (hy : a.eval y = .string ⟨B.toArray⟩) : RunV P a o w (.bool (A == B)) := by
  unfold RunV execOp
  simp only [hop, hx, hy]
  simp [go_sem, eqGuard, ByteArray.toList_eq]
theorem rv_sne {P : Program} {a : Act} {o : Oper} {w : World} (t t2 : TypeId) (x y : Operand) (A B : List UInt8) (hop : o.op = .binOp .neq t x y t2) (hx : a.eval x = .string ⟨A.toArray⟩) (hy : a.eval y = .string ⟨B.toArray⟩) : RunV P a o w (.bool (A != B)) := by
  unfold RunV execOp
  simp only [hop, hx, hy]
  simp [go_sem, eqGuard, ByteArray.toList_eq, bne]
theorem text_neg (z : Int) : textL (decide (0 < sgn z)) z.natAbs = Lib.itoa (-z) := by
  apply text_abs
  unfold sgn
  by_cases h : z < 0
  · right; simp [h]; omega
  · by_cases h0 : z = 0
    · right; simp [h0]
    · left; simp [h, h0]; omega
theorem sgn_lt {z : Int} : decide (sgn z < 0) = decide (z < 0) := by
  unfold sgn
  by_cases h : z < 0
  · simp [h]
  · by_cases h0 : z = 0 <;> simp [h, h0]
theorem sgn_ge {z : Int} : decide (0 ≤ sgn z) = decide (0 ≤ z) := by
  unfold sgn
  by_cases h : z < 0
  · simp [h]
  · by_cases h0 : z = 0 <;> simp [h, h0] <;> omega
theorem text_dec {z u : Int} {N : Nat} (h : (u < 0 → z = -(N : Int)) ∧ (¬ u < 0 → z = N)) : textL (decide (sgn u < 0)) N = Lib.itoa z := by
  rw [sgn_lt]
  apply text_abs
  by_cases hu : u < 0
  · exact .inl ⟨by simpa using hu, h.1 hu⟩
  · exact .inr ⟨by simpa using hu, h.2 hu⟩
theorem sgn_cases (z : Int) : z < 0 ∧ sgn z = -1 ∨ z = 0 ∧ sgn z = 0 ∨ 0 < z ∧ sgn z = 1 := by
  unfold sgn
  by_cases h : z < 0
  · left; simp [h]
  · by_cases h0 : z = 0
    · right; left; simp [h0]
    · right; right; simp [h, h0]; omega
theorem cmp_lt3 {x y : Int} (h : decide (sgn x < sgn y) = true) : -1 = sgn (x - y) := by
  have := of_decide_eq_true h
  have h1 := sgn_cases x; have h2 := sgn_cases y; have h3 := sgn_cases (x - y); omega
theorem cmp_gt3 {x y : Int} (h : decide (sgn y < sgn x) = true) : 1 = sgn (x - y) := by
  have := of_decide_eq_true h
  have h1 := sgn_cases x; have h2 := sgn_cases y; have h3 := sgn_cases (x - y); omega
theorem cmp_nn3 {x y : Int} (h : decide (sgn x < sgn y) = false) (h' : decide (sgn y < sgn x) = false) (hn : decide (sgn x < (0 : Int)) = true) : sgn ((y.natAbs : Int) - (x.natAbs : Int)) = sgn (x - y) := by
  have := of_decide_eq_false h; have := of_decide_eq_false h'; have := of_decide_eq_true hn
  have h1 := sgn_cases x; have h2 := sgn_cases y
  rw [show (y.natAbs : Int) - (x.natAbs : Int) = x - y by omega]
theorem cmp_pp3 {x y : Int} (h : decide (sgn x < sgn y) = false) (h' : decide (sgn y < sgn x) = false) (hn : decide (sgn x < (0 : Int)) = false) : sgn ((x.natAbs : Int) - (y.natAbs : Int)) = sgn (x - y) := by
  have := of_decide_eq_false h; have := of_decide_eq_false h'; have := of_decide_eq_false hn
  have h1 := sgn_cases x; have h2 := sgn_cases y
  rw [show (x.natAbs : Int) - (y.natAbs : Int) = x - y by omega]
end Go.Proofs.YtloocadjbpgldaaGreatDoor
/- Printed by a program of the prover's: the reference of layer 1: sums, comparisons. -/
namespace Go.Proofs.YtloocadjbpgldaaGreatDoor
open Go.RowKit

set_option maxRecDepth 100000 in
set_option maxHeartbeats 1000000 in
theorem r1_neg {k : Nat} (x : Int) (hx : Sz k x) (_hk : k ≤ 700000) (w : World) :
    Calls Tryz.prog 82 #[(.string ⟨(Lib.itoa (x) : List UInt8).toArray⟩)] w fun e w' => e = .returned (.string ⟨(Lib.itoa (-x)).toArray⟩) ∧ Gr w w' := by
 go_enter Tryz.func82, Tryz.ntmps82
 have hB := Gr.refl w
 refine wp_seq_k (fun K1 k1 => ?_)
 refine rg [0] ?_
 refine sv 2 (.string ⟨([] : List UInt8).toArray⟩) ?_
 simp only [p3, p4]
 refine sq_nil ?_
 refine k1 _ _ ?_
 try clear k1 K1
 refine wp_seq_k (fun K2 k2 => ?_)
 refine rg [0, 1, 2, 3, 4, 5, 6] ?_
 refine sv 3 (.string ⟨(Lib.itoa (x) : List UInt8).toArray⟩) ?_
 simp only [p3, p4]
 refine se ?_
 refine ec 4 (r1_sign_i (x) _) ?_
 rintro e3 w3 ⟨rfl, g3⟩
 refine ⟨_, rfl, ?_⟩
 replace hB := hB.trans g3
 simp only [p3, p4]
 refine sv 5 (.bool (decide ((0 : Int) < sgn (x)))) ?_
 simp only [p3, p4]
 refine sv 6 (.string ⟨(Lib.itoa (x) : List UInt8).toArray⟩) ?_
 simp only [p3, p4]
 refine se ?_
 refine ec 7 (r1_digits_i (x) hx (by omega) _) ?_
 rintro e4 w4 ⟨⟨v4, rfl, h4⟩, g4⟩
 refine ⟨_, rfl, ?_⟩
 replace hB := hB.trans g4
 simp only [p3, p4]
 refine se ?_
 refine ec 8 (r1_text_s (decide ((0 : Int) < sgn (x))) h4 hx (by omega)) ?_
 rintro e5 w5 ⟨rfl, g5⟩
 refine ⟨_, rfl, ?_⟩
 replace hB := hB.trans g5
 simp only [p3, p4]
 refine sv 2 (.string ⟨(textL (decide ((0 : Int) < sgn (x))) ((x).natAbs) : List UInt8).toArray⟩) ?_
 simp only [p3, p4]
 refine sq_nil ?_
 refine k2 _ _ ?_
 try clear k2 K2
 refine wp_ret ?_
 refine bodyPost_ret (v := (.string ⟨(textL (decide ((0 : Int) < sgn (x))) ((x).natAbs) : List UInt8).toArray⟩)) (ret_tmp rfl rfl) rfl ⟨?_, hB⟩
 exact (by rw [text_neg])

set_option maxRecDepth 100000 in
set_option maxHeartbeats 4000000 in
theorem r1_add {k m : Nat} (x y : Int) (hx : Sz k x) (hy : Sz m y) (_hk : k + m ≤ 700000) (w : World) :
    Calls Tryz.prog 98 #[(.string ⟨(Lib.itoa (x) : List UInt8).toArray⟩), (.string ⟨(Lib.itoa (y) : List UInt8).toArray⟩)] w fun e w' => e = .returned (.string ⟨(Lib.itoa (x + y)).toArray⟩) ∧ Gr w w' := by
 go_enter Tryz.func98, Tryz.ntmps98
 have hB := Gr.refl w
 refine wp_seq_k (fun K1 k1 => ?_)
 refine rg [0] ?_
 refine sv 4 (.string ⟨([] : List UInt8).toArray⟩) ?_
 simp only [p3, p4]
 refine sq_nil ?_
 refine k1 _ _ ?_
 try clear k1 K1
 refine wp_seq_k (fun K2 k2 => ?_)
 refine rg [0, 1, 2, 3, 4, 5] ?_
 refine sv 7 (.string ⟨(Lib.itoa (x) : List UInt8).toArray⟩) ?_
 simp only [p3, p4]
 refine se ?_
 refine ec 8 (r1_digits_i (x) hx (by omega) _) ?_
 rintro e3 w3 ⟨⟨v3, rfl, h3⟩, g3⟩
 refine ⟨_, rfl, ?_⟩
 replace hB := hB.trans g3
 simp only [p3, p4]
 refine sv 9 (.string ⟨(Lib.itoa (y) : List UInt8).toArray⟩) ?_
 simp only [p3, p4]
 refine se ?_
 refine ec 10 (r1_digits_i (y) hy (by omega) _) ?_
 rintro e4 w4 ⟨⟨v4, rfl, h4⟩, g4⟩
 refine ⟨_, rfl, ?_⟩
 replace hB := hB.trans g4
 simp only [p3, p4]
 refine sv 5 v3 ?_
 simp only [p3, p4]
 refine sv 6 v4 ?_
 simp only [p3, p4]
 refine sq_nil ?_
 refine k2 _ _ ?_
 try clear k2 K2
 refine wp_seq_k (fun K5 k5 => ?_)
 refine wp_seq_k (fun K6 k6 => ?_)
 refine rg [0, 1, 2, 3, 4, 5, 6] ?_
 refine sv 11 (.string ⟨(Lib.itoa (x) : List UInt8).toArray⟩) ?_
 simp only [p3, p4]
 refine se ?_
 refine ec 12 (r1_sign_i (x) _) ?_
 rintro e7 w7 ⟨rfl, g7⟩
 refine ⟨_, rfl, ?_⟩
 replace hB := hB.trans g7
 simp only [p3, p4]
 refine sv 13 (.bool (decide (sgn (x) < (0 : Int)))) ?_
 simp only [p3, p4]
 refine sv 14 (.string ⟨(Lib.itoa (y) : List UInt8).toArray⟩) ?_
 simp only [p3, p4]
 refine se ?_
 refine ec 15 (r1_sign_i (y) _) ?_
 rintro e8 w8 ⟨rfl, g8⟩
 refine ⟨_, rfl, ?_⟩
 replace hB := hB.trans g8
 simp only [p3, p4]
 refine sv 16 (.bool (decide (sgn (y) < (0 : Int)))) ?_
 simp only [p3, p4]
 refine sv 17 (.bool (((decide (sgn (x) < (0 : Int))) == (decide (sgn (y) < (0 : Int)))))) ?_
 simp only [p3, p4]
 refine sq_nil ?_
 refine k6 _ _ ?_
 try clear k6 K6
 refine wp_cond_split (t := ((decide (sgn (x) < (0 : Int))) == (decide (sgn (y) < (0 : Int))))) rfl (fun hb9 => ?_) (fun hb9 => ?_)
 ·have hq9 : (x < 0 ↔ y < 0) := by rw [sgn_lt, sgn_lt] at hb9; simpa using hb9
  refine wp_seq_k (fun K10 k10 => ?_)
  refine rg [0, 1, 2, 3, 4, 5, 6, 7] ?_
  refine sv 18 (.string ⟨(Lib.itoa (x) : List UInt8).toArray⟩) ?_
  simp only [p3, p4]
  refine se ?_
  refine ec 19 (r1_sign_i (x) _) ?_
  rintro e11 w11 ⟨rfl, g11⟩
  refine ⟨_, rfl, ?_⟩
  replace hB := hB.trans g11
  simp only [p3, p4]
  refine sv 20 (.bool (decide (sgn (x) < (0 : Int)))) ?_
  simp only [p3, p4]
  refine sv 21 v3 ?_
  simp only [p3, p4]
  refine sv 22 v4 ?_
  simp only [p3, p4]
  refine se ?_
  replace h3 := h3.gr (g4.trans (g7.trans (g8.trans g11)))
  replace h4 := h4.gr (g7.trans (g8.trans g11))
  refine ec 23 (r1_plus_i h3 h4 hx hy (by omega)) ?_
  rintro e12 w12 ⟨⟨v12, rfl, h12⟩, g12⟩
  refine ⟨_, rfl, ?_⟩
  replace hB := hB.trans g12
  simp only [p3, p4]
  refine se ?_
  refine ec 24 (r1_text_z (decide (sgn (x) < (0 : Int))) h12) ?_
  rintro e13 w13 ⟨rfl, g13⟩
  refine ⟨_, rfl, ?_⟩
  replace hB := hB.trans g13
  simp only [p3, p4]
  refine sv 4 (.string ⟨(textL (decide (sgn (x) < (0 : Int))) (((x).natAbs + (y).natAbs)) : List UInt8).toArray⟩) ?_
  simp only [p3, p4]
  refine sq_nil ?_
  refine k10 _ _ ?_
  try clear k10 K10
  refine wp_ret ?_
  simp only [Exit.then]
  refine bodyPost_ret (v := (.string ⟨(textL (decide (sgn (x) < (0 : Int))) (((x).natAbs + (y).natAbs)) : List UInt8).toArray⟩)) (ret_tmp rfl rfl) rfl ⟨?_, hB⟩
  exact (by rw [text_dec (z := x + y) (by omega)])
 ·have hq9 : ¬ (x < 0 ↔ y < 0) := by rw [sgn_lt, sgn_lt] at hb9; simpa using hb9
  refine wp_skip ?_
  refine k5 _ _ ?_
  try clear k5 K5
  refine wp_seq_k (fun K14 k14 => ?_)
  refine wp_seq_k (fun K15 k15 => ?_)
  refine rg [0, 1, 2, 3] ?_
  refine sv 25 v3 ?_
  simp only [p3, p4]
  refine sv 26 v4 ?_
  simp only [p3, p4]
  refine se ?_
  replace h3 := h3.gr (g4.trans (g7.trans g8))
  replace h4 := h4.gr (g7.trans g8)
  refine ec 27 (r1_order_i h3 h4 hx hy (by omega)) ?_
  rintro e16 w16 ⟨rfl, g16⟩
  refine ⟨_, rfl, ?_⟩
  replace hB := hB.trans g16
  simp only [p3, p4]
  refine sv 28 (.bool (decide ((0 : Int) ≤ sgn (((x).natAbs : Int) - ((y).natAbs : Int))))) ?_
  simp only [p3, p4]
  refine sq_nil ?_
  refine k15 _ _ ?_
  try clear k15 K15
  refine wp_cond_split (t := decide ((0 : Int) ≤ sgn (((x).natAbs : Int) - ((y).natAbs : Int)))) rfl (fun hb17 => ?_) (fun hb17 => ?_)
  ·have hq17 : y.natAbs ≤ x.natAbs := by rw [sgn_ge] at hb17; have := of_decide_eq_true hb17; omega
   refine wp_seq_k (fun K18 k18 => ?_)
   refine rg [0, 1, 2, 3, 4, 5, 6, 7] ?_
   refine sv 29 (.string ⟨(Lib.itoa (x) : List UInt8).toArray⟩) ?_
   simp only [p3, p4]
   refine se ?_
   refine ec 30 (r1_sign_i (x) _) ?_
   rintro e19 w19 ⟨rfl, g19⟩
   refine ⟨_, rfl, ?_⟩
   replace hB := hB.trans g19
   simp only [p3, p4]
   refine sv 31 (.bool (decide (sgn (x) < (0 : Int)))) ?_
   simp only [p3, p4]
   refine sv 32 v3 ?_
   simp only [p3, p4]
   refine sv 33 v4 ?_
   simp only [p3, p4]
   refine se ?_
   replace h3 := h3.gr (g16.trans g19)
   replace h4 := h4.gr (g16.trans g19)
   refine ec 34 (r1_minus_i h3 h4 hx (by omega) (by omega)) ?_
   rintro e20 w20 ⟨⟨v20, rfl, h20⟩, g20⟩
   refine ⟨_, rfl, ?_⟩
   replace hB := hB.trans g20
   simp only [p3, p4]
   refine se ?_
   refine ec 35 (r1_text_s (decide (sgn (x) < (0 : Int))) h20 (Nat.lt_of_le_of_lt (Nat.sub_le _ _) hx) (by omega)) ?_
   rintro e21 w21 ⟨rfl, g21⟩
   refine ⟨_, rfl, ?_⟩
   replace hB := hB.trans g21
   simp only [p3, p4]
   refine sv 4 (.string ⟨(textL (decide (sgn (x) < (0 : Int))) (((x).natAbs - (y).natAbs)) : List UInt8).toArray⟩) ?_
   simp only [p3, p4]
   refine sq_nil ?_
   refine k18 _ _ ?_
   try clear k18 K18
   refine wp_ret ?_
   simp only [Exit.then]
   refine bodyPost_ret (v := (.string ⟨(textL (decide (sgn (x) < (0 : Int))) (((x).natAbs - (y).natAbs)) : List UInt8).toArray⟩)) (ret_tmp rfl rfl) rfl ⟨?_, hB⟩
   exact (by rw [text_dec (z := x + y) (by omega)])
  ·have hq17 : x.natAbs ≤ y.natAbs := by rw [sgn_ge] at hb17; have := of_decide_eq_false hb17; omega
   refine wp_skip ?_
   refine k14 _ _ ?_
   try clear k14 K14
   refine wp_seq_k (fun K22 k22 => ?_)
   refine rg [0, 1, 2, 3, 4, 5, 6, 7] ?_
   refine sv 36 (.string ⟨(Lib.itoa (y) : List UInt8).toArray⟩) ?_
   simp only [p3, p4]
   refine se ?_
   refine ec 37 (r1_sign_i (y) _) ?_
   rintro e23 w23 ⟨rfl, g23⟩
   refine ⟨_, rfl, ?_⟩
   replace hB := hB.trans g23
   simp only [p3, p4]
   refine sv 38 (.bool (decide (sgn (y) < (0 : Int)))) ?_
   simp only [p3, p4]
   refine sv 39 v4 ?_
   simp only [p3, p4]
   refine sv 40 v3 ?_
   simp only [p3, p4]
   refine se ?_
   replace h4 := h4.gr (g16.trans g23)
   replace h3 := h3.gr (g16.trans g23)
   refine ec 41 (r1_minus_i h4 h3 hy (by omega) (by omega)) ?_
   rintro e24 w24 ⟨⟨v24, rfl, h24⟩, g24⟩
   refine ⟨_, rfl, ?_⟩
   replace hB := hB.trans g24
   simp only [p3, p4]
   refine se ?_
   refine ec 42 (r1_text_s (decide (sgn (y) < (0 : Int))) h24 (Nat.lt_of_le_of_lt (Nat.sub_le _ _) hy) (by omega)) ?_
   rintro e25 w25 ⟨rfl, g25⟩
   refine ⟨_, rfl, ?_⟩
   replace hB := hB.trans g25
   simp only [p3, p4]
   refine sv 4 (.string ⟨(textL (decide (sgn (y) < (0 : Int))) (((y).natAbs - (x).natAbs)) : List UInt8).toArray⟩) ?_
   simp only [p3, p4]
   refine sq_nil ?_
   refine k22 _ _ ?_
   try clear k22 K22
   refine wp_ret ?_
   refine bodyPost_ret (v := (.string ⟨(textL (decide (sgn (y) < (0 : Int))) (((y).natAbs - (x).natAbs)) : List UInt8).toArray⟩)) (ret_tmp rfl rfl) rfl ⟨?_, hB⟩
   exact (by rw [text_dec (z := x + y) (by omega)])

set_option maxRecDepth 100000 in
set_option maxHeartbeats 1000000 in
theorem r1_sub {k m : Nat} (x y : Int) (hx : Sz k x) (hy : Sz m y) (_hk : k + m ≤ 700000) (w : World) :
    Calls Tryz.prog 119 #[(.string ⟨(Lib.itoa (x) : List UInt8).toArray⟩), (.string ⟨(Lib.itoa (y) : List UInt8).toArray⟩)] w fun e w' => e = .returned (.string ⟨(Lib.itoa (x - y)).toArray⟩) ∧ Gr w w' := by
 go_enter Tryz.func119, Tryz.ntmps119
 have hB := Gr.refl w
 refine wp_seq_k (fun K1 k1 => ?_)
 refine rg [0] ?_
 refine sv 4 (.string ⟨([] : List UInt8).toArray⟩) ?_
 simp only [p3, p4]
 refine sq_nil ?_
 refine k1 _ _ ?_
 try clear k1 K1
 refine wp_seq_k (fun K2 k2 => ?_)
 refine rg [0, 1, 2, 3, 4] ?_
 refine sv 5 (.string ⟨(Lib.itoa (x) : List UInt8).toArray⟩) ?_
 simp only [p3, p4]
 refine sv 6 (.string ⟨(Lib.itoa (y) : List UInt8).toArray⟩) ?_
 simp only [p3, p4]
 refine se ?_
 refine ec 7 (r1_neg (y) hy (by omega) _) ?_
 rintro e3 w3 ⟨rfl, g3⟩
 refine ⟨_, rfl, ?_⟩
 replace hB := hB.trans g3
 simp only [p3, p4]
 refine se ?_
 refine ec 8 (r1_add (x) ((-y)) hx hy.neg (by omega) _) ?_
 rintro e4 w4 ⟨rfl, g4⟩
 refine ⟨_, rfl, ?_⟩
 replace hB := hB.trans g4
 simp only [p3, p4]
 refine sv 4 (.string ⟨(Lib.itoa ((x + (-y))) : List UInt8).toArray⟩) ?_
 simp only [p3, p4]
 refine sq_nil ?_
 refine k2 _ _ ?_
 try clear k2 K2
 refine wp_ret ?_
 refine bodyPost_ret (v := (.string ⟨(Lib.itoa ((x + (-y))) : List UInt8).toArray⟩)) (ret_tmp rfl rfl) rfl ⟨?_, hB⟩
 exact (by rw [Int.sub_eq_add_neg])

set_option maxRecDepth 100000 in
set_option maxHeartbeats 4000000 in
theorem r1_compare {k m : Nat} (x y : Int) (hx : Sz k x) (hy : Sz m y) (_hk : k + m ≤ 700000) (w : World) :
    Calls Tryz.prog 59 #[(.string ⟨(Lib.itoa (x) : List UInt8).toArray⟩), (.string ⟨(Lib.itoa (y) : List UInt8).toArray⟩)] w fun e w' => e = .returned (.int .i64 (sgn (x - y))) ∧ Gr w w' := by
 go_enter Tryz.func59, Tryz.ntmps59
 have hB := Gr.refl w
 refine wp_seq_k (fun K1 k1 => ?_)
 refine rg [0] ?_
 refine sv 4 (.int .i64 0) ?_
 simp only [p3, p4]
 refine sq_nil ?_
 refine k1 _ _ ?_
 try clear k1 K1
 refine wp_seq_k (fun K2 k2 => ?_)
 refine rg [0, 1, 2, 3, 4, 5] ?_
 refine sv 7 (.string ⟨(Lib.itoa (x) : List UInt8).toArray⟩) ?_
 simp only [p3, p4]
 refine se ?_
 refine ec 8 (r1_sign_i (x) _) ?_
 rintro e3 w3 ⟨rfl, g3⟩
 refine ⟨_, rfl, ?_⟩
 replace hB := hB.trans g3
 simp only [p3, p4]
 refine sv 9 (.string ⟨(Lib.itoa (y) : List UInt8).toArray⟩) ?_
 simp only [p3, p4]
 refine se ?_
 refine ec 10 (r1_sign_i (y) _) ?_
 rintro e4 w4 ⟨rfl, g4⟩
 refine ⟨_, rfl, ?_⟩
 replace hB := hB.trans g4
 simp only [p3, p4]
 refine sv 5 (.int .i64 (sgn (x))) ?_
 simp only [p3, p4]
 refine sv 6 (.int .i64 (sgn (y))) ?_
 simp only [p3, p4]
 refine sq_nil ?_
 refine k2 _ _ ?_
 try clear k2 K2
 refine wp_seq_k (fun K5 k5 => ?_)
 refine wp_block ?_
 refine wp_seq_k (fun K6 k6 => ?_)
 refine rg [0, 1, 2, 3] ?_
 refine sv 12 (.int .i64 (sgn (x))) ?_
 simp only [p3, p4]
 refine sv 13 (.int .i64 (sgn (y))) ?_
 simp only [p3, p4]
 refine sv 14 (.bool (decide (sgn (x) < sgn (y)))) ?_
 simp only [p3, p4]
 refine sv 11 (.bool (decide (sgn (x) < sgn (y)))) ?_
 simp only [p3, p4]
 refine sq_nil ?_
 refine k6 _ _ ?_
 try clear k6 K6
 refine wp_cond_split (t := decide (sgn (x) < sgn (y))) rfl (fun hb7 => ?_) (fun hb7 => ?_)
 ·refine wp_seq_k (fun K8 k8 => ?_)
  refine rg [0] ?_
  refine sv 4 (.int .i64 (-1)) ?_
  simp only [p3, p4]
  refine sq_nil ?_
  refine k8 _ _ ?_
  try clear k8 K8
  refine wp_ret ?_
  simp only [Exit.then, Exit.inBlock]
  refine bodyPost_ret (v := (.int .i64 (-1))) (ret_tmp rfl rfl) rfl ⟨?_, hB⟩
  exact (ret_int (cmp_lt3 hb7))
 ·refine wp_seq_k (fun K9 k9 => ?_)
  refine rg [0, 1, 2, 3] ?_
  refine sv 16 (.int .i64 (sgn (x))) ?_
  simp only [p3, p4]
  refine sv 17 (.int .i64 (sgn (y))) ?_
  simp only [p3, p4]
  refine sv 18 (.bool (decide (sgn (y) < sgn (x)))) ?_
  simp only [p3, p4]
  refine sv 15 (.bool (decide (sgn (y) < sgn (x)))) ?_
  simp only [p3, p4]
  refine sq_nil ?_
  refine k9 _ _ ?_
  try clear k9 K9
  refine wp_cond_split (t := decide (sgn (y) < sgn (x))) rfl (fun hb10 => ?_) (fun hb10 => ?_)
  ·refine wp_seq_k (fun K11 k11 => ?_)
   refine rg [0] ?_
   refine sv 4 (.int .i64 1) ?_
   simp only [p3, p4]
   refine sq_nil ?_
   refine k11 _ _ ?_
   try clear k11 K11
   refine wp_ret ?_
   simp only [Exit.then, Exit.inBlock]
   refine bodyPost_ret (v := (.int .i64 1)) (ret_tmp rfl rfl) rfl ⟨?_, hB⟩
   exact (ret_int (cmp_gt3 hb10))
  ·refine wp_seq_k (fun K12 k12 => ?_)
   refine rg [0, 1, 2] ?_
   refine sv 20 (.int .i64 (sgn (x))) ?_
   simp only [p3, p4]
   refine sv 21 (.bool (decide (sgn (x) < (0 : Int)))) ?_
   simp only [p3, p4]
   refine sv 19 (.bool (decide (sgn (x) < (0 : Int)))) ?_
   simp only [p3, p4]
   refine sq_nil ?_
   refine k12 _ _ ?_
   try clear k12 K12
   refine wp_cond_split (t := decide (sgn (x) < (0 : Int))) rfl (fun hb13 => ?_) (fun hb13 => ?_)
   ·refine wp_seq_k (fun K14 k14 => ?_)
    refine rg [0, 1, 2, 3, 4, 5] ?_
    refine sv 22 (.string ⟨(Lib.itoa (y) : List UInt8).toArray⟩) ?_
    simp only [p3, p4]
    refine se ?_
    refine ec 23 (r1_digits_i (y) hy (by omega) _) ?_
    rintro e15 w15 ⟨⟨v15, rfl, h15⟩, g15⟩
    refine ⟨_, rfl, ?_⟩
    replace hB := hB.trans g15
    simp only [p3, p4]
    refine sv 24 (.string ⟨(Lib.itoa (x) : List UInt8).toArray⟩) ?_
    simp only [p3, p4]
    refine se ?_
    refine ec 25 (r1_digits_i (x) hx (by omega) _) ?_
    rintro e16 w16 ⟨⟨v16, rfl, h16⟩, g16⟩
    refine ⟨_, rfl, ?_⟩
    replace hB := hB.trans g16
    simp only [p3, p4]
    refine se ?_
    replace h15 := h15.gr g16
    refine ec 26 (r1_order_i h15 h16 hy hx (by omega)) ?_
    rintro e17 w17 ⟨rfl, g17⟩
    refine ⟨_, rfl, ?_⟩
    replace hB := hB.trans g17
    simp only [p3, p4]
    refine sv 4 (.int .i64 (sgn (((y).natAbs : Int) - ((x).natAbs : Int)))) ?_
    simp only [p3, p4]
    refine sq_nil ?_
    refine k14 _ _ ?_
    try clear k14 K14
    refine wp_ret ?_
    simp only [Exit.then, Exit.inBlock]
    refine bodyPost_ret (v := (.int .i64 (sgn (((y).natAbs : Int) - ((x).natAbs : Int))))) (ret_tmp rfl rfl) rfl ⟨?_, hB⟩
    exact (ret_int (cmp_nn3 hb7 hb10 hb13))
   ·refine wp_skip ?_
    refine k5 _ _ ?_
    try clear k5 K5
    refine wp_seq_k (fun K18 k18 => ?_)
    refine rg [0, 1, 2, 3, 4, 5] ?_
    refine sv 27 (.string ⟨(Lib.itoa (x) : List UInt8).toArray⟩) ?_
    simp only [p3, p4]
    refine se ?_
    refine ec 28 (r1_digits_i (x) hx (by omega) _) ?_
    rintro e19 w19 ⟨⟨v19, rfl, h19⟩, g19⟩
    refine ⟨_, rfl, ?_⟩
    replace hB := hB.trans g19
    simp only [p3, p4]
    refine sv 29 (.string ⟨(Lib.itoa (y) : List UInt8).toArray⟩) ?_
    simp only [p3, p4]
    refine se ?_
    refine ec 30 (r1_digits_i (y) hy (by omega) _) ?_
    rintro e20 w20 ⟨⟨v20, rfl, h20⟩, g20⟩
    refine ⟨_, rfl, ?_⟩
    replace hB := hB.trans g20
    simp only [p3, p4]
    refine se ?_
    replace h19 := h19.gr g20
    refine ec 31 (r1_order_i h19 h20 hx hy (by omega)) ?_
    rintro e21 w21 ⟨rfl, g21⟩
    refine ⟨_, rfl, ?_⟩
    replace hB := hB.trans g21
    simp only [p3, p4]
    refine sv 4 (.int .i64 (sgn (((x).natAbs : Int) - ((y).natAbs : Int)))) ?_
    simp only [p3, p4]
    refine sq_nil ?_
    refine k18 _ _ ?_
    try clear k18 K18
    refine wp_ret ?_
    refine bodyPost_ret (v := (.int .i64 (sgn (((x).natAbs : Int) - ((y).natAbs : Int))))) (ret_tmp rfl rfl) rfl ⟨?_, hB⟩
    exact (ret_int (cmp_pp3 hb7 hb10 hb13))

end Go.Proofs.YtloocadjbpgldaaGreatDoor
/- The reference of layer 1: the product. -/
namespace Go.Proofs.YtloocadjbpgldaaGreatDoor
open Go.RowKit

theorem mul_nextx (a b : Int) (i : Nat) : tlow a i * b + td a i * b * 10 ^ i = tlow a (i + 1) * b := by rw [tlow_succ]; grind
theorem sgn_mul (x y : Int) : decide (sgn x * sgn y < 0) = decide (x < 0 ∧ 0 < y ∨ 0 < x ∧ y < 0) := by
  rcases sgn_cases x with ⟨h1, e1⟩ | ⟨h1, e1⟩ | ⟨h1, e1⟩ <;> rcases sgn_cases y with ⟨h2, e2⟩ | ⟨h2, e2⟩ | ⟨h2, e2⟩ <;> rw [e1, e2] <;> rw [Bool.eq_iff_iff] <;> simp <;> omega
theorem sgn_mul_le (x y : Int) : -1 ≤ sgn x * sgn y ∧ sgn x * sgn y ≤ 1 := by
  rcases sgn_cases x with ⟨h1, e1⟩ | ⟨h1, e1⟩ | ⟨h1, e1⟩ <;> rcases sgn_cases y with ⟨h2, e2⟩ | ⟨h2, e2⟩ | ⟨h2, e2⟩ <;> rw [e1, e2] <;> decide
theorem text_mul (x y : Int) : textL (decide (sgn x * sgn y < 0)) (x.natAbs * y.natAbs) = Lib.itoa (x * y) := by
  apply text_abs
  rw [sgn_mul]
  rcases Int.natAbs_eq x with hx | hx <;> rcases Int.natAbs_eq y with hy | hy
  · right
    refine ⟨by simp; omega, ?_⟩
    rw [Int.natCast_mul]
    conv => lhs; rw [hx, hy]
  · by_cases h0 : 0 < x ∧ y < 0
    · left
      refine ⟨by simp; omega, ?_⟩
      rw [Int.natCast_mul]
      conv => lhs; rw [hx, hy]
      rw [Int.mul_neg]
    · right
      refine ⟨by simp; omega, ?_⟩
      rcases (show x = 0 ∨ y = 0 by omega) with h | h <;> subst h <;> simp
  · by_cases h0 : x < 0 ∧ 0 < y
    · left
      refine ⟨by simp; omega, ?_⟩
      rw [Int.natCast_mul]
      conv => lhs; rw [hx, hy]
      rw [Int.neg_mul]
    · right
      refine ⟨by simp; omega, ?_⟩
      rcases (show x = 0 ∨ y = 0 by omega) with h | h <;> subst h <;> simp
  · right
    refine ⟨by simp; omega, ?_⟩
    rw [Int.natCast_mul]
    conv => lhs; rw [hx, hy]
    rw [Int.neg_mul_neg]
set_option maxRecDepth 100000 in
set_option maxHeartbeats 4000000 in
theorem r1_mul {k m : Nat} (x y : Int) (hx : Sz k x) (hy : Sz m y) (hk : k + m ≤ 700000) (w : World) :
    Calls Tryz.prog 99 #[.string ⟨(Lib.itoa x).toArray⟩, .string ⟨(Lib.itoa y).toArray⟩] w fun e w' => e = .returned (.string ⟨(Lib.itoa (x * y)).toArray⟩) ∧ Gr w w' := by
  have hfin := text_mul x y
  have HFin := Lib.hid hfin
  clear hfin
  go_enter Tryz.func99, Tryz.ntmps99
  go_wp2_with fail
  refine (r1_digits_i x hx (by omega) _).mono ?_
  rintro e w1 ⟨⟨v1, rfl, hv1⟩, g1⟩
  obtain ⟨ao, la, ca, rfl, c1, n1, r1, l1⟩ := hv1.len hx
  go_wp2_with fail
  refine (r1_digits_i y hy (by omega) _).mono ?_
  rintro e w2 ⟨⟨v2, rfl, hv2⟩, g2⟩
  obtain ⟨bo, lb, cb, rfl, c2, n2, r2, l2⟩ := hv2.len hy
  have r1 := r1.gr g2
  have g12 := g1.trans g2
  clear hv1 hv2
  obtain ⟨a, ha⟩ : ∃ a : Int, a = (x.natAbs : Int) := ⟨_, rfl⟩
  obtain ⟨b, hb⟩ : ∃ b : Int, b = (y.natAbs : Int) := ⟨_, rfl⟩
  rw [← ha] at n1 r1
  rw [← hb] at n2 r2
  have HA := Lib.hid ha
  have HB := Lib.hid hb
  clear ha hb
  go_wp2_with (at_make; refine wpList_makeI _ rfl _ _ rfl _ _ (la + lb + 1) rfl rfl (by omega) (by omega) (by omega) ?_)
  intro w3 hO hB0 hsz
  have hO1 := hO
  clear hO hsz
  go_wp2
  go_loopw [8] (fun i wr => ∃ (k : Nat) (d : Nat → Int), k ≤ la ∧ i = .int .i64 k ∧ DOwn wr w2.heap.size (la + lb + 1) d ∧ Below w2.heap.size w2 wr ∧ Hid (∀ j, j < la + lb + 1 → d j = td (tlow a k * b) j) ∧ Hid (tn (tlow a k * b) (k + lb) = 0)) (fun i _ => la - (intOf i).toNat)
  case atStart => exact ⟨0, _, Nat.zero_le _, rfl, hO1, hB0, fun j _ => by rw [tlow_zero, Int.zero_mul]; unfold td; rw [tn_zero_n]; rfl, by rw [Hid, tlow_zero, Int.zero_mul, tn_zero_n]⟩
  case round =>
    obtain ⟨k, d, hk, rfl, hO, hB, hd, htop⟩ := hrel
    by_cases hlt : k < la
    · have x0 := td_nonneg a k
      have x1 := td_lt a k
      go_wp2
      obtain ⟨wo, hwo⟩ : ∃ wo : World, wo = wr := ⟨_, rfl⟩
      subst hwo
      go_loopw [9, 10] (fun c i wr => ∃ (j : Nat) (cr : Int) (e : Nat → Int), j ≤ lb + 1 ∧ i = .int .i64 j ∧ c = .int .i64 cr ∧ 0 ≤ cr ∧ cr < 10 ∧ DOwn wr w2.heap.size (la + lb + 1) e ∧ Below w2.heap.size w2 wr ∧
        Hid ((j = lb + 1 → cr = 0) ∧ tn (tlow a k * b + td a k * b * 10 ^ k) (k + j) = tn (tlow a k * b) (k + j) + td a k * tn b j + cr) ∧
        Hid (∀ i, i < la + lb + 1 → e i = if i < k + j then td (tlow a k * b + td a k * b * 10 ^ k) i else td (tlow a k * b) i)) (fun _ i _ => lb + 1 - (intOf i).toNat)
      case atStart =>
        refine ⟨0, 0, d, Nat.zero_le _, rfl, rfl, by omega, by omega, hO, hB, ⟨by omega, ?_⟩, fun i hi => ?_⟩
        · rw [Nat.add_zero, tn_addmul, tn_zero]; omega
        · rw [hd.out i hi, Nat.add_zero]
          split
          · rw [td_addmul _ _ (by assumption)]
          · rfl
      case round =>
        obtain ⟨j, cr, e, hj, rfl, rfl, hc0, hc1, hO2, hB2, hz, he⟩ := hrel
        have hs := mul_stepx hz.out.2 hc0 hc1 x0 x1
        have HS := Lib.hid hs
        have hj2 : j = lb + 1 → cr = 0 := hz.out.1
        by_cases hlt2 : j < lb
        · obtain ⟨b1, off1, rfl, hcs1⟩ := (r1.below hB2).at_ (by omega)
          have hcell1 := hcs1 k hlt
          obtain ⟨b2, off2, rfl, hcs2⟩ := (r2.below hB2).at_ (by omega)
          have hcell2 := hcs2 j hlt2
          have y0 := td_nonneg b j
          have y1 := td_lt b j
          have z0 := hs.2.2.2.2.1
          have z1 := hs.2.2.2.2.2
          clear hcs1 hcs2 hs
          have hcell3 := hO2.cell (k + j) (by omega)
          have hfree := hO2.free (k + j)
          have e1 := he.out (k + j) (by omega)
          rw [if_neg (by omega)] at e1
          rw [e1] at hcell3
          have t0 := td_nonneg (tlow a k * b) (k + j)
          have t1 := td_lt (tlow a k * b) (k + j)
          clear e1 hj2
          have i0 : (0 : Int) ≤ (k : Int) := by omega
          have i1 : (k : Int) < (la : Int) := by omega
          have i2 : (0 : Int) ≤ (j : Int) := by omega
          have i3 : (j : Int) < (lb : Int) := by omega
          go_wp2
          go_quiet (fail)
          go_wp2
          have hs := HS.out
          have e2 : td (tlow a k * b) (k + j) + cr + td a k * td b j = cr + (td a k * td b j + td (tlow a k * b) (k + j)) := by omega
          go_roundw
          case rel =>
            refine ⟨j + 1, (cr + (td a k * td b j + td (tlow a k * b) (k + j))) / 10, _, by omega, by go_num, by rw [e2], hs.2.2.1, hs.2.2.2.1, (hO2.gr ((Below.refl _ _).drewN _)).set (by omega) _, (hB2.drewN _).setCell (Nat.le_refl _) _, ⟨fun h => by omega, hs.2.1⟩, fun i hi => ?_⟩
            by_cases e1 : i = k + j
            · subst e1; rw [upd_same, if_pos (by omega), hs.1, e2]
            · rw [upd_other _ _ e1, he.out i hi]
              by_cases e2 : i < k + j
              · rw [if_pos e2, if_pos (by omega)]
              · rw [if_neg e2, if_neg (by omega)]
          case measure => simp [intOf]; omega
        · have tb0 : tn b j = 0 := tn_ge n2.top (by omega)
          have TB := Lib.hid tb0
          by_cases hcr : 0 < cr
          · have hjl : j = lb := by
              rcases Nat.lt_or_ge j (lb + 1) with h | h
              · omega
              · have := hj2 (by omega); omega
            have tr0 : td (tlow a k * b) (k + j) = 0 := td_zero_of htop.out (by omega)
            have tb1 : td b j = 0 := td_zero_of n2.top (by omega)
            rw [tb1, tr0, Int.mul_zero, Int.add_zero, Int.add_zero] at hs
            have HS := Lib.hid hs
            have hcell3 := hO2.cell (k + j) (by omega)
            have hfree := hO2.free (k + j)
            have e1 := he.out (k + j) (by omega)
            rw [if_neg (by omega), tr0] at e1
            rw [e1] at hcell3
            have HJ := Lib.hid hjl
            have hkj : k + j < la + lb + 1 := by omega
            have hjb : j + 1 ≤ lb + 1 := by omega
            clear e1 hj2 tb0 tr0 tb1 hs hjl
            go_wp2
            have hs := HS.out
            go_roundw
            case rel =>
              refine ⟨j + 1, cr / 10, _, hjb, by go_num, by simp, hs.2.2.1, hs.2.2.2.1, hO2.set hkj _, hB2.setCell (Nat.le_refl _) _, ⟨fun h => by omega, hs.2.1⟩, fun i hi => ?_⟩
              by_cases e1 : i = k + j
              · subst e1; rw [upd_same, if_pos (by omega), hs.1]
              · rw [upd_other _ _ e1, he.out i hi]
                by_cases e2 : i < k + j
                · rw [if_pos e2, if_pos (by omega)]
                · rw [if_neg e2, if_neg (by omega)]
            case measure => simp [intOf]; omega
          · have hc0' : cr = 0 := by omega
            have HC := Lib.hid hc0'
            have hjl : lb ≤ j := by omega
            clear hj2 tb0 hs hc0'
            go_wp2
            have hR : tn (tlow a (k + 1) * b) (k + j) = 0 := by
              have h1 := hz.out.2
              have h2 := tn_ge htop.out (show k + lb ≤ k + j by omega)
              rw [TB.out, HC.out, h2, Int.mul_zero, mul_nextx] at h1
              omega
            go_roundw
            case rel =>
              refine ⟨k + 1, _, by omega, by go_num, hO2, hB2, fun i hi => ?_, tn_ge hR (by omega)⟩
              rw [he.out i hi]
              by_cases e2 : i < k + j
              · rw [if_pos e2, mul_nextx]
              · rw [if_neg e2, td_zero_of htop.out (by omega), td_zero_of hR (by omega)]
            case measure => simp [intOf]; omega
    · obtain rfl : k = la := by omega
      have hlow := tlow_top n1.top
      have hO' := hO.congr hd.out
      have htop' := htop.out
      rw [hlow] at hO' htop'
      have hab : a * b = ((x.natAbs * y.natAbs : Nat) : Int) := by rw [HA.out, HB.out, Int.natCast_mul]
      rw [hab] at hO' htop'
      have g23 : Gr w2 wr := hB
      have hZ : TenZ wr (.slice (some ⟨w2.heap.size, 0, none⟩) (k + lb + 1) (k + lb + 1)) ((x.natAbs * y.natAbs : Nat) : Int) := ⟨_, _, _, rfl, Nat.le_refl _, by omega, tn_ge htop' (by omega), hO'.row⟩
      clear hab hlow htop' hO' hd htop hO hO1
      obtain ⟨hp0, hp1⟩ := sgn_mul_le x y
      go_wp2_with fail
      refine (r1_sign_i x _).mono ?_
      rintro e w4 ⟨rfl, g4⟩
      go_wp2_with fail
      refine (r1_sign_i y _).mono ?_
      rintro e w5 ⟨rfl, g5⟩
      go_wp2_with fail
      (with_reducible refine (r1_text_z (decide (sgn x * sgn y < 0)) ((hZ.gr g4).gr g5)).mono ?_)
      rintro e w6 ⟨rfl, g6⟩
      go_wp2
      go_ret
      refine ⟨?_, (((g12.trans g23).trans g4).trans g5).trans g6⟩
      rw [HFin.out]; rfl
end Go.Proofs.YtloocadjbpgldaaGreatDoor
/- The reference of layer 1: the quotient and the rest. -/
namespace Go.Proofs.YtloocadjbpgldaaGreatDoor
open Go.RowKit

/-- append of a slice that reads as integers -/
theorem wpList_appR {P : Program} {ops : Array Oper} {rest : List Oper} {o : Oper} {a : Act} {w : World} {Q : Exit → Act → World → Prop} (hgd : o.guard = none) (s x : Operand) (t : TypeId)
    (ho : o.op = .call { callee := .builtin .append, args := #[s, x], argTypes := #[t, t] }) (B : Nat) (v : Value) (ys : List Value) (hs : a.eval s = v) (hown : OwnS w 3 B v ys)
    (ao : Option Addr) (len cap : Nat) (d : Nat → Int) (hx : a.eval x = .slice ao len cap) (hr : DRow w ao len d) (hn : ys.length + len ≤ 1000000)
    (ht : P.underlying t = some (.slice 3)) (hi : (P.info? 3).map (fun i => (i.zero, i.size, i.bytes)) = some (some (.int .i64 0), 1, 8)) (hBw : B ≤ w.heap.size)
    (h : ∀ v' w', OwnS w' 3 B v' (ys ++ dvals .i64 len d) → Below B w w' → wpList P ops Q rest (a.put o.dst v') w') : wpList P ops Q (o :: rest) a w := by
  obtain ⟨i, hi, hz, hsize, hby⟩ := info_parts hi
  have hfin : ∀ v' w', w'.ownsRow B 3 1 v' (ys.length + len) (ys ++ dvals .i64 len d) → w.grownBy w' v.ownBlock → wpList P ops Q rest (a.put o.dst v') w' := by
    intro v' w' h2 hg
    have hnew : ∀ k, v.ownBlock = some k → B ≤ k := by
      intro k hk
      rcases hown.2 with ⟨rfl, _⟩ | ⟨g, cap, cur, rfl, hb, hgg, _⟩
      · simp [Value.ownBlock] at hk
      · simp [Value.ownBlock] at hk
        subst hk; exact hb
    refine h v' w' ?_ ⟨hg.os, hg.tape, hg.output, hg.size, fun k hk => hg.block k (by omega) (fun e => ?_)⟩
    · unfold OwnS; simpa [dvals_length] using h2
    · have := hnew k e.symm; omega
  have hone : ∀ u ∈ dvals .i64 len d, u.oneCell' = true := fun u hu => by
    simp only [dvals, List.mem_map] at hu
    obtain ⟨_, _, rfl⟩ := hu; rfl
  cases ao with
  | none =>
    have h0 : len = 0 := by
      rcases Nat.eq_zero_or_pos len with e | e
      · exact e
      · obtain ⟨b, off, e', _⟩ := hr.at_ e; cases e'
    subst h0
    refine wpList_plain hgd fun K hK => ?_
    have hrun : ∀ ty, (Builtin.append_ #[t, t] ty #[v, .slice none 0 cap]).run P w = .ok v w := fun ty => by
      have hn0 := hown.2
      rcases hn0 with ⟨rfl, h1⟩ | ⟨g, c1, c2, rfl, _, _, h1, _⟩
      · simp [Builtin.append_, Builtin.firstCells, Builtin.lenOf, run_underlying ht, sizeOf, typeInfo, hi]
      · simp [Builtin.append_, Builtin.firstCells, Builtin.lenOf, run_underlying ht, sizeOf, typeInfo, hi, storeCells, h1]
    unfold Oper.wp
    simp [execOp, ho, resolve, invoke, builtin, hs, hx, hrun, Result.andThen]
    exact hK _ _ (hfin v w (show w.ownsRow B 3 1 v (ys.length + 0) (ys ++ []) by rw [Nat.add_zero, List.append_nil]; exact hown) (World.grownBy.refl w _))
  | some ad =>
    refine wpList_append_own w hgd s x t ho B 3 i _ 1 8 ht hi hz hsize hby rfl (by omega) v ys.length ys hs hown ad len cap (dvals .i64 len d) hx (by simp [dvals_length]) (fun j u hj => ?_) hone (by unfold maxLen; omega) (by omega) hBw (fun v' w' h2 hg _ => hfin v' w' h2 hg)
    have hj' : j < len := by have := (List.getElem?_eq_some_iff.1 hj).1; simpa [dvals_length] using this
    obtain ⟨b, off, e, hc⟩ := hr.at_ (by omega)
    obtain rfl := Option.some.inj e
    rw [dvals_get _ _ hj'] at hj
    obtain rfl := Option.some.inj hj
    have e0 : (⟨b, off, none⟩ : Addr).add j = ⟨b, off + j, none⟩ := by
      unfold Addr.add
      by_cases h0 : j = 0 <;> simp [h0]
    rw [e0]; exact hc j hj'
theorem own_lit (w : World) (T : TypeId) (u : Value) : OwnS (w.alloc (.cells #[u] T)) T w.heap.size (.slice (some ⟨w.heap.size, 0, none⟩) 1 1) [u] :=
  ⟨rfl, .inr ⟨w.heap.size, 1, #[u], rfl, Nat.le_refl _, heap_alloc_new _ _, Nat.le_refl _, by unfold maxLen; omega, rfl, rfl⟩⟩
theorem dvals_cons (N d : Int) (h0 : 0 ≤ d) (h1 : d < 10) (len : Nat) : Value.int .i64 d :: dvals .i64 len (td N) = dvals .i64 (len + 1) (td (N * 10 + d)) := by
  have e : ∀ i, td (N * 10 + d) (i + 1) = td N i := fun i => by
    rw [← td_tenth]; congr 1; omega
  unfold dvals
  rw [List.range_succ_eq_map, List.map_cons, List.map_map]
  show _ = Value.int .i64 (td (N * 10 + d) 0) :: _
  have e0 : td (N * 10 + d) 0 = d := by unfold td; rw [tn_zero]; omega
  rw [e0]
  congr 1
  exact List.map_congr_left fun i _ => by simp only [Function.comp_apply, e]
theorem tn_cons (N d : Int) (h0 : 0 ≤ d) (h1 : d < 10) (len : Nat) : tn (N * 10 + d) (len + 1) = tn N len := by
  rw [← tn_tenth]; congr 1; omega
theorem r1_sign_v {v : Int} (z : Int) (h : sgn z = v) (w : World) :
    Calls Tryz.prog 81 #[.string ⟨(Lib.itoa z).toArray⟩] w fun e w' => e = .returned (.int .i64 v) ∧ Gr w w' := h ▸ r1_sign_i z w
theorem r1_sub_one {k : Nat} (z : Int) (hz : Sz k z) (hk : k ≤ 600000) (w : World) :
    Calls Tryz.prog 119 #[.string ⟨(Lib.itoa z).toArray⟩, .string ⟨#[49]⟩] w fun e w' => e = .returned (.string ⟨(Lib.itoa (z - 1)).toArray⟩) ∧ Gr w w' := by
  have := r1_sub (m := 1) z 1 hz (by unfold Sz; decide) (by omega) w
  rw [itoa_one] at this
  exact this
theorem text_at {neg : Bool} {n : Nat} {v : Value} {w : World} {L : List UInt8} (h : TenZ w v (n : Int)) (hL : textL neg n = L) :
    Calls Tryz.prog 107 #[.bool neg, v] w fun e w' => e = .returned (.string ⟨L.toArray⟩) ∧ Gr w w' := hL ▸ r1_text_z neg h
theorem TenS.toZ {k : Nat} {w : World} {v : Value} {n : Nat} (h : TenS w v (n : Int)) (hn : n < 2 ^ k) (hk : k ≤ 800000) : TenZ w v (n : Int) := by
  obtain ⟨ao, len, cap, h1, h2, h3, h4, h5⟩ := h.len hn
  exact ⟨ao, len, cap, h1, h2, by omega, h3.top, h4⟩
theorem ne_zero_text {z : Int} (h : z ≠ 0) : ((⟨(Lib.itoa z).toArray⟩ : ByteArray).toList == [48]) = false := by
  rw [beq_eq_false_iff_ne, ByteArray.toList_eq]
  exact itoa_ne_zero h
theorem ne_zero_beq {z : Int} (h : z ≠ 0) : (Lib.itoa z == [48]) = false := by
  rw [beq_eq_false_iff_ne]
  exact itoa_ne_zero h
set_option maxRecDepth 100000 in
set_option maxHeartbeats 4000000 in
theorem r1_divmod {k m : Nat} (x y : Int) (hx : Sz k x) (hy : Sz m y) (hy0 : 0 < y) (hk : k + m ≤ 300000) (w : World) :
    Calls Tryz.prog 84 #[.string ⟨(Lib.itoa x).toArray⟩, .string ⟨(Lib.itoa y).toArray⟩] w fun e w' => e = .returned (.tuple #[.string ⟨(Lib.itoa (x / y)).toArray⟩, .string ⟨(Lib.itoa (x % y)).toArray⟩]) ∧ Gr w w' := by
  go_enter Tryz.func84, Tryz.ntmps84
  go_wp2_with fail
  refine (r1_digits_i x hx (by omega) _).mono ?_
  rintro e w1 ⟨⟨v1, rfl, hv1⟩, g1⟩
  obtain ⟨ao, la, ca, rfl, c1, n1, r1, l1⟩ := hv1.len hx
  go_wp2_with fail
  refine (r1_digits_i y hy (by omega) _).mono ?_
  rintro e w2 ⟨⟨v2, rfl, hv2⟩, g2⟩
  have r1 := r1.gr g2
  have g12 := g1.trans g2
  have hb2 := hv2
  obtain ⟨bo, lb, cb, rfl, c2, n2, r2, l2⟩ := hv2.len hy
  clear hv1 r2 n2 l2 c2
  obtain ⟨a, ha⟩ : ∃ a : Nat, a = x.natAbs := ⟨_, rfl⟩
  obtain ⟨b, hb⟩ : ∃ b : Nat, b = y.natAbs := ⟨_, rfl⟩
  have hax : a < 2 ^ k := by rw [ha]; exact hx
  have hbx : b < 2 ^ m := by rw [hb]; exact hy
  have hb0 : 0 < b := by omega
  rw [← ha] at n1 r1
  rw [← hb] at hb2
  have HA := Lib.hid ha
  have HB := Lib.hid hb
  have HX := Lib.hid (show a < 2 ^ k ∧ b < 2 ^ m from ⟨hax, hbx⟩)
  clear ha hb hax hbx
  go_wp2_with (at_make; refine wpList_makeI _ rfl _ _ rfl _ _ la rfl rfl (by omega) (by omega) (by omega) ?_)
  intro w3 hO hB0 hsz
  have hO1 := hO
  clear hO hsz
  go_wp2
  go_loopw [8, 10] (fun r i wr => ∃ (j : Nat) (v : Value) (d : Nat → Int), r = v ∧ i = .int .i64 ((j : Int) - 1) ∧ j ≤ la ∧ Hid (TenS wr v (tn (a : Int) j % (b : Int)) ∧ ∀ i, i < la → d i = if j ≤ i then td ((a : Int) / (b : Int)) i else 0) ∧ DOwn wr w2.heap.size la d ∧ Below w2.heap.size w2 wr) (fun _ i _ => (intOf i + 1).toNat)
  case atStart =>
    refine ⟨la, _, _, rfl, rfl, Nat.le_refl _, ⟨?_, fun i hi => by rw [if_neg (by omega)]⟩, hO1, hB0⟩
    rw [n1.top]
    exact ⟨none, 0, 0, rfl, Nat.le_refl _, NX.zero, DRow.nil _ _ _⟩
  case round =>
    obtain ⟨j, v, d, rfl, rfl, hj, hz, hO, hB⟩ := hrel
    by_cases hp : 0 < j
    · obtain ⟨q, rfl⟩ : ∃ q, j = q + 1 := ⟨j - 1, by omega⟩
      have e1 : (((q + 1 : Nat) : Int) - 1) = (q : Int) := by omega
      simp only [e1]
      clear e1
      obtain ⟨N, hN⟩ : ∃ N : Int, N = tn (a : Int) (q + 1) % (b : Int) := ⟨_, rfl⟩
      have hN0 : 0 ≤ N := by rw [hN]; exact Int.emod_nonneg _ (by omega)
      have hNb : N < (b : Int) := by rw [hN]; exact Int.emod_lt_of_pos _ (by omega)
      obtain ⟨hz1, hz2⟩ := hz.out
      rw [← hN] at hz1
      obtain ⟨ro, lr, cr, rfl, hcr, nr, rr⟩ := hz1
      have lr1 : lr ≤ m + 1 := by
        obtain ⟨n0, hn0⟩ : ∃ n0 : Nat, N = (n0 : Int) := ⟨N.toNat, by omega⟩
        rw [hn0] at nr hNb
        exact nr.len_bits (Nat.lt_trans (by omega) HX.out.2)
      have HZ2 := Lib.hid hz2
      have HN := Lib.hid hN
      clear hz hz2 hN
      obtain ⟨b1, off1, rfl, hcs1⟩ := (r1.below hB).at_ (by omega)
      have hcell1 := hcs1 q (by omega)
      clear hcs1
      have d0 := td_nonneg (a : Int) q
      have d1 := td_lt (a : Int) q
      go_wp2_with (at_builtin; refine wpList_appR rfl (.tmp 29) (.tmp 30) _ (by rfl) wr.heap.size _ [.int .i64 (td (a : Int) q)] (by rfl) (own_lit _ _ _) ro lr cr (td N) (by rfl) (rr.gr (Gr.alloc _ _)) (by simp; omega) Tryz.underlying106 int_info (by simp) ?_)
      intro v4 w4 hown hB4
      rw [dvals_cons N _ d0 d1] at hown
      have gB4 : Gr wr w4 := Below.trans ((Below.refl _ _).alloc (Nat.le_refl _) _) hB4
      obtain ⟨N1, hN1⟩ : ∃ N1 : Int, N1 = N * 10 + td (a : Int) q := ⟨_, rfl⟩
      have ht1 : tn N1 (lr + 1) = 0 := by rw [hN1, tn_cons _ _ d0 d1, nr.top]
      have hN10 : 0 ≤ N1 := by omega
      have hN1b : N1 < 10 * (b : Int) := by omega
      rw [← hN1] at hown
      have HT1 := Lib.hid ht1
      have HN1 := Lib.hid hN1
      clear ht1 hN1
      obtain ⟨ao5, cap5, rfl, hcap5, _, hrow5, hfr5⟩ := hown.drowF
      go_wp2_with fail
      refine (r1_trim ao5 (lr + 1) cap5 N1 _ (by omega) hcap5 hN10 HT1.out hrow5).mono ?_
      rintro e w5 ⟨⟨k5, rfl, hk5, hn5⟩, rfl⟩
      have hT5 : TenF w4 (w2.heap.size + 1) (.slice ao5 k5 cap5) N1 := ⟨_, _, _, rfl, by omega, hn5, hrow5.shorter hk5, fun ad e => Nat.le_trans (by have := hO.lt; omega) (hfr5 ad e)⟩
      have hO4 := hO.gr gB4
      have hB4' : Below w2.heap.size w2 w4 := Below.trans hB (Below.mono gB4 hB.size)
      clear hrow5 hown hB4 hO rr
      go_wp2
      obtain ⟨wo, hwo⟩ : ∃ wo : World, wo = w4 := ⟨_, rfl⟩
      subst hwo
      go_loopg [8] 10 (fun gk r wr => ∃ (c : Nat) (v : Value) (e : Nat → Int), r = v ∧ c + gk = 10 ∧ Hid ((c : Int) * b ≤ N1 ∧ TenF wr (w2.heap.size + 1) v (N1 - (c : Int) * b) ∧ ∀ i, i < la → e i = if q < i then td ((a : Int) / (b : Int)) i else if i = q then (c : Int) else 0) ∧ DOwn wr w2.heap.size la e ∧ Below w2.heap.size w2 wr)
      case atStart =>
        refine ⟨0, _, d, rfl, rfl, ⟨by simp; omega, by simpa using hT5, fun i hi => ?_⟩, hO4, hB4'⟩
        rw [HZ2.out i hi]
        by_cases h1 : q < i
        · rw [if_pos h1, if_pos (by omega)]
        · rw [if_neg h1, if_neg (by omega)]; split <;> rfl
      case round =>
        obtain ⟨c, v, e, rfl, hc, hz, hO6, hB6⟩ := hrel
        obtain ⟨hz1, hz2, hz3⟩ := hz.out
        obtain ⟨r0, hr0⟩ : ∃ r0 : Nat, N1 - (c : Int) * b = (r0 : Int) := ⟨(N1 - (c : Int) * b).toNat, by omega⟩
        rw [hr0] at hz2
        have hr0b : r0 < 2 ^ (m + 4) := by
          have h1 := HX.out.2
          have h2 : (0 : Int) ≤ (c : Int) * b := Int.mul_nonneg (by omega) (by omega)
          rw [Nat.pow_add]
          omega
        have hbb := hb2.gr hB6
        have HR0 := Lib.hid hr0
        have HZ1 := Lib.hid hz1
        have HZ3 := Lib.hid hz3
        clear hr0 hz1 hz3 hz
        go_wp2_with fail
        refine (r1_order_i hz2.s hbb hr0b HX.out.2 (by omega)).mono ?_
        rintro e7 w7 ⟨rfl, g7⟩
        by_cases hge : b ≤ r0
        · have hs1 : (0 : Int) ≤ sgn ((r0 : Int) - (b : Int)) := by have := sgn_cases ((r0 : Int) - (b : Int)); omega
          have hc9 : c < 9 := by
            rcases Nat.lt_or_ge c 9 with h | h
            · exact h
            · have h1 := HR0.out
              have h2 : (9 : Int) * b ≤ (c : Int) * b := Int.mul_le_mul_of_nonneg_right (by omega) (by omega)
              omega
          go_wp2_with fail
          refine (r1_minus_f (hz2.s.gr g7) (hbb.gr g7) hr0b hge (by omega)).mono ?_
          rintro e8 w8 ⟨⟨v8, rfl, h8⟩, g8⟩
          have hO8 := (hO6.gr g7).gr g8
          have hcell := hO8.cell q (by omega)
          have hfree := hO8.free q
          have e9 := HZ3.out q (by omega)
          rw [if_neg (by omega), if_pos rfl] at e9
          rw [e9] at hcell
          clear e9
          go_wp2
          go_roundg (gk - 1)
          case measure => omega
          case rel =>
            have hmul : ((c + 1 : Nat) : Int) * (b : Int) = (c : Int) * b + b := by rw [Int.natCast_add, Int.add_mul]; simp
            refine ⟨c + 1, _, _, rfl, by omega, ⟨by rw [hmul]; have := HR0.out; omega, ?_, fun i hi => ?_⟩, hO8.set (by omega) ((c : Int) + 1), ?_⟩
            · rw [hmul, show N1 - ((c : Int) * b + b) = ((r0 - b : Nat) : Int) by have := HR0.out; omega]
              exact (h8.mono (by have := (hO6.gr g7).lt; omega)).set (by omega) _ _
            · by_cases e1 : i = q
              · subst e1; rw [upd_same, if_neg (by omega), if_pos rfl]; simp
              · rw [upd_other _ _ e1, HZ3.out i hi]
                by_cases e2 : q < i
                · rw [if_pos e2, if_pos e2]
                · rw [if_neg e2, if_neg e2, if_neg e1, if_neg e1]
            · exact (Below.trans hB6 (Below.mono (g7.trans g8) hB6.size)).setCell (Nat.le_refl _) _
        · have hs1 : sgn ((r0 : Int) - (b : Int)) < 0 := by have := sgn_cases ((r0 : Int) - (b : Int)); omega
          have hst := short_stepx (a : Int) (b : Int) q (by omega) 
          have hc0 : (0 : Int) ≤ (c : Int) := by omega
          have hdiv : N1 / (b : Int) = (c : Int) ∧ N1 % (b : Int) = (r0 : Int) := by
            rw [Int.ediv_emod_unique (by omega)]
            have h1 := HR0.out
            rw [Int.mul_comm (b : Int) (c : Int)]
            omega
          rw [← HN.out, ← HN1.out, hdiv.1, hdiv.2] at hst
          have HST := Lib.hid hst
          clear hst hdiv
          go_wp2
          go_roundw
          case rel =>
            refine ⟨q, _, e, rfl, rfl, by omega, ⟨?_, fun i hi => ?_⟩, hO6.gr g7, Below.trans hB6 (Below.mono g7 hB6.size)⟩
            · rw [HST.out.2.1]; exact hz2.s.gr g7
            · rw [HZ3.out i hi]
              by_cases e2 : q < i
              · rw [if_pos e2, if_pos (by omega)]
              · rw [if_neg e2]
                by_cases e3 : i = q
                · rw [if_pos e3, if_pos (by omega), e3, HST.out.1]
                · rw [if_neg e3, if_neg (by omega)]
          case measure => simp [intOf]
    · obtain rfl : j = 0 := by omega
      obtain ⟨hz1, hz2⟩ := hz.out
      obtain ⟨qn, hqn⟩ : ∃ qn : Nat, qn = a / b := ⟨_, rfl⟩
      obtain ⟨rn, hrn⟩ : ∃ rn : Nat, rn = a % b := ⟨_, rfl⟩
      have hdm : (a : Int) = (b : Int) * qn + rn := by
        have := Nat.div_add_mod a b
        rw [hqn, hrn, ← Int.natCast_mul, ← Int.natCast_add, this]
      have hrb : rn < b := by rw [hrn]; exact Nat.mod_lt _ hb0
      have g3 : Gr w2 wr := hB
      have hQ : TenZ wr (.slice (some ⟨w2.heap.size, 0, none⟩) la la) (qn : Int) := by
        refine ⟨_, _, _, rfl, Nat.le_refl _, by omega, ?_, (hO.congr fun i hi => ?_).row⟩
        · rw [hqn, Int.natCast_ediv, tn_div _ _ (by omega), n1.top, Int.zero_ediv]
        · rw [hz2 i hi, if_pos (by omega), hqn, Int.natCast_ediv]
      rw [tn_zero, ← Int.natCast_emod, ← hrn] at hz1
      have hR := hz1.toZ (Nat.lt_trans hrb HX.out.2) (by omega)
      have hQs : Sz k (-(qn : Int)) := by
        have h1 := HX.out.1
        have h2 := Nat.div_le_self a b
        unfold Sz; omega
      have hax : x < 0 → x = -(a : Int) := fun h => by have := HA.out; omega
      have hax2 : ¬ x < 0 → x = (a : Int) := fun h => by have := HA.out; omega
      have hby : y = (b : Int) := by have := HB.out; omega
      have hRs : Sz m (-(rn : Int)) := by
        have h1 := HX.out.2
        unfold Sz; omega
      have HDM := Lib.hid hdm
      have HBY := Lib.hid hby
      clear hdm hby hz hz1 hz2 hO hqn hrn
      by_cases hneg : x < 0
      · have hx1 := Lib.hid (hax hneg)
        clear hax hax2
        by_cases hr0 : rn = 0
        · subst hr0
          have HF : Hid (x / y = -(qn : Int) ∧ x % y = 0) := by
            have h1 := hx1.out
            have h2 := HDM.out
            have h3 := HBY.out
            show x / y = _ ∧ _
            rw [h3, Int.ediv_emod_unique (by omega), Int.mul_neg]
            omega
          go_wp2_with fail
          (with_reducible refine (r1_sign_v x (sgn_neg hneg) _).mono ?_)
          rintro e4 w4 ⟨rfl, g4⟩
          go_wp2_with fail
          (with_reducible refine (r1_sign_v y (sgn_pos hy0) _).mono ?_)
          rintro e5 w5 ⟨rfl, g5⟩
          go_wp2_with fail
          (with_reducible refine (text_at (neg := true) ((hQ.gr g4).gr g5) (text_abs (z := -(qn : Int)) (.inl ⟨rfl, rfl⟩))).mono ?_)
          rintro e6 w6 ⟨rfl, g6⟩
          go_wp2_with fail
          (with_reducible refine (r1_sign_v x (sgn_neg hneg) _).mono ?_)
          rintro e7 w7 ⟨rfl, g7⟩
          go_wp2_with fail
          (with_reducible refine (text_at (neg := true) ((((hR.gr g4).gr g5).gr g6).gr g7) (show textL true 0 = [48] from rfl)).mono ?_)
          rintro e8 w8 ⟨rfl, g8⟩
          go_wp2
          go_ret2
          refine ⟨?_, (((((g12.trans g3).trans g4).trans g5).trans g6).trans g7).trans g8⟩
          rw [HF.out.1, HF.out.2, itoa_zero]
          rfl
        · have HF : Hid (x / y = -(qn : Int) - 1 ∧ x % y = -(rn : Int) + y) := by
            have h1 := hx1.out
            have h2 := HDM.out
            have h3 := HBY.out
            show x / y = _ ∧ _
            rw [h3, Int.ediv_emod_unique (by omega), Int.mul_sub, Int.mul_neg]
            omega
          have hne := ne_zero_text (show -(rn : Int) ≠ 0 by omega)
          have hne2 := ne_zero_beq (show -(rn : Int) ≠ 0 by omega)
          go_wp2_with fail
          (with_reducible refine (r1_sign_v x (sgn_neg hneg) _).mono ?_)
          rintro e4 w4 ⟨rfl, g4⟩
          go_wp2_with fail
          (with_reducible refine (r1_sign_v y (sgn_pos hy0) _).mono ?_)
          rintro e5 w5 ⟨rfl, g5⟩
          go_wp2_with fail
          (with_reducible refine (text_at (neg := true) ((hQ.gr g4).gr g5) (text_abs (z := -(qn : Int)) (.inl ⟨rfl, rfl⟩))).mono ?_)
          rintro e6 w6 ⟨rfl, g6⟩
          go_wp2_with fail
          (with_reducible refine (r1_sign_v x (sgn_neg hneg) _).mono ?_)
          rintro e7 w7 ⟨rfl, g7⟩
          go_wp2_with fail
          (with_reducible refine (text_at (neg := true) ((((hR.gr g4).gr g5).gr g6).gr g7) (text_abs (z := -(rn : Int)) (.inl ⟨rfl, rfl⟩))).mono ?_)
          rintro e8 w8 ⟨rfl, g8⟩
          go_wp2_with fail
          (with_reducible refine (r1_sign_v (-(rn : Int)) (sgn_neg (by omega)) _).mono ?_)
          rintro e9 w9 ⟨rfl, g9⟩
          go_wp2_with fail
          (with_reducible refine (r1_sign_v y (sgn_pos hy0) _).mono ?_)
          rintro e10 wa ⟨rfl, ga⟩
          go_wp2_with fail
          (with_reducible refine (r1_sub_one (-(qn : Int)) hQs (by omega) _).mono ?_)
          rintro e11 wb ⟨rfl, gb⟩
          go_wp2_with fail
          (with_reducible refine (r1_add (-(rn : Int)) y hRs hy (by omega) _).mono ?_)
          rintro e12 wc ⟨rfl, gc⟩
          go_wp2
          go_ret2
          refine ⟨?_, (((((((((g12.trans g3).trans g4).trans g5).trans g6).trans g7).trans g8).trans g9).trans ga).trans gb).trans gc⟩
          rw [HF.out.1, HF.out.2]
          rfl
      · have hx1 := Lib.hid (hax2 hneg)
        clear hax hax2
        have HF : Hid (x / y = (qn : Int) ∧ x % y = (rn : Int)) := by
          have h1 := hx1.out
          have h2 := HDM.out
          have h3 := HBY.out
          show x / y = _ ∧ _
          rw [h3, Int.ediv_emod_unique (by omega)]
          omega
        by_cases hx0 : x = 0
        · have hr0 : rn = 0 := by
            have h1 := HF.out.2
            rw [hx0, Int.zero_emod] at h1; omega
          have hsx : sgn x = 0 := by rw [hx0]; rfl
          subst hr0
          have HS := Lib.hid hsx
          clear hsx hx0
          go_wp2_with fail
          (with_reducible refine (r1_sign_v x HS.out _).mono ?_)
          rintro e4 w4 ⟨rfl, g4⟩
          go_wp2_with fail
          (with_reducible refine (r1_sign_v y (sgn_pos hy0) _).mono ?_)
          rintro e5 w5 ⟨rfl, g5⟩
          go_wp2_with fail
          (with_reducible refine (text_at (neg := false) ((hQ.gr g4).gr g5) (text_abs (z := (qn : Int)) (.inr ⟨rfl, rfl⟩))).mono ?_)
          rintro e6 w6 ⟨rfl, g6⟩
          go_wp2_with fail
          (with_reducible refine (r1_sign_v x HS.out _).mono ?_)
          rintro e7 w7 ⟨rfl, g7⟩
          go_wp2_with fail
          (with_reducible refine (text_at (neg := false) ((((hR.gr g4).gr g5).gr g6).gr g7) (show textL false 0 = [48] from rfl)).mono ?_)
          rintro e8 w8 ⟨rfl, g8⟩
          go_wp2
          go_ret2
          refine ⟨?_, (((((g12.trans g3).trans g4).trans g5).trans g6).trans g7).trans g8⟩
          rw [HF.out.1, HF.out.2]
          show _ = Ending.returned (Value.tuple #[_, .string ⟨(Lib.itoa 0).toArray⟩])
          rw [itoa_zero]
          rfl
        · by_cases hr0 : rn = 0
          · subst hr0
            go_wp2_with fail
            (with_reducible refine (r1_sign_v x (sgn_pos (by omega)) _).mono ?_)
            rintro e4 w4 ⟨rfl, g4⟩
            go_wp2_with fail
            (with_reducible refine (r1_sign_v y (sgn_pos hy0) _).mono ?_)
            rintro e5 w5 ⟨rfl, g5⟩
            go_wp2_with fail
            (with_reducible refine (text_at (neg := false) ((hQ.gr g4).gr g5) (text_abs (z := (qn : Int)) (.inr ⟨rfl, rfl⟩))).mono ?_)
            rintro e6 w6 ⟨rfl, g6⟩
            go_wp2_with fail
            (with_reducible refine (r1_sign_v x (sgn_pos (by omega)) _).mono ?_)
            rintro e7 w7 ⟨rfl, g7⟩
            go_wp2_with fail
            (with_reducible refine (text_at (neg := false) ((((hR.gr g4).gr g5).gr g6).gr g7) (show textL false 0 = [48] from rfl)).mono ?_)
            rintro e8 w8 ⟨rfl, g8⟩
            go_wp2
            go_ret2
            refine ⟨?_, (((((g12.trans g3).trans g4).trans g5).trans g6).trans g7).trans g8⟩
            rw [HF.out.1, HF.out.2]
            show _ = Ending.returned (Value.tuple #[_, .string ⟨(Lib.itoa 0).toArray⟩])
            rw [itoa_zero]
            rfl
          · have hne := ne_zero_text (show (rn : Int) ≠ 0 by omega)
            have hne2 := ne_zero_beq (show (rn : Int) ≠ 0 by omega)
            go_wp2_with fail
            (with_reducible refine (r1_sign_v x (sgn_pos (by omega)) _).mono ?_)
            rintro e4 w4 ⟨rfl, g4⟩
            go_wp2_with fail
            (with_reducible refine (r1_sign_v y (sgn_pos hy0) _).mono ?_)
            rintro e5 w5 ⟨rfl, g5⟩
            go_wp2_with fail
            (with_reducible refine (text_at (neg := false) ((hQ.gr g4).gr g5) (text_abs (z := (qn : Int)) (.inr ⟨rfl, rfl⟩))).mono ?_)
            rintro e6 w6 ⟨rfl, g6⟩
            go_wp2_with fail
            (with_reducible refine (r1_sign_v x (sgn_pos (by omega)) _).mono ?_)
            rintro e7 w7 ⟨rfl, g7⟩
            go_wp2_with fail
            (with_reducible refine (text_at (neg := false) ((((hR.gr g4).gr g5).gr g6).gr g7) (text_abs (z := (rn : Int)) (.inr ⟨rfl, rfl⟩))).mono ?_)
            rintro e8 w8 ⟨rfl, g8⟩
            go_wp2_with fail
            (with_reducible refine (r1_sign_v (rn : Int) (sgn_pos (by omega)) _).mono ?_)
            rintro e9 w9 ⟨rfl, g9⟩
            go_wp2_with fail
            (with_reducible refine (r1_sign_v y (sgn_pos hy0) _).mono ?_)
            rintro e10 wa ⟨rfl, ga⟩
            go_wp2
            go_ret2
            refine ⟨?_, (((((((g12.trans g3).trans g4).trans g5).trans g6).trans g7).trans g8).trans g9).trans ga⟩
            rw [HF.out.1, HF.out.2]
            rfl
end Go.Proofs.YtloocadjbpgldaaGreatDoor
/- The reference of layer 1: the greatest common divisor, the text of an int. -/
namespace Go.Proofs.YtloocadjbpgldaaGreatDoor
open Go.RowKit

theorem text_false {n : Nat} : textL false n = Lib.itoa (n : Int) := text_abs (.inr ⟨rfl, rfl⟩)
set_option maxRecDepth 100000 in
set_option maxHeartbeats 4000000 in
theorem r1_gcd {k m : Nat} (x y : Int) (hx : Sz k x) (hy : Sz m y) (hk : k + m ≤ 140000) (w : World) :
    Calls Tryz.prog 83 #[.string ⟨(Lib.itoa x).toArray⟩, .string ⟨(Lib.itoa y).toArray⟩] w fun e w' => e = .returned (.string ⟨(Lib.itoa (Int.gcd x y : Int)).toArray⟩) ∧ Gr w w' := by
  go_enter Tryz.func83, Tryz.ntmps83
  go_wp2_with fail
  refine (r1_digits_i x hx (by omega) _).mono ?_
  rintro e w1 ⟨⟨v1, rfl, hv1⟩, g1⟩
  go_wp2_with fail
  (with_reducible refine (text_at (neg := false) (hv1.toZ hx (by omega)) text_false).mono ?_)
  rintro e w2 ⟨rfl, g2⟩
  go_wp2_with fail
  refine (r1_digits_i y hy (by omega) _).mono ?_
  rintro e w3 ⟨⟨v3, rfl, hv3⟩, g3⟩
  go_wp2_with fail
  (with_reducible refine (text_at (neg := false) (hv3.toZ hy (by omega)) text_false).mono ?_)
  rintro e w4 ⟨rfl, g4⟩
  have hx2 : x.natAbs < 2 ^ (k + m) := Nat.lt_of_lt_of_le hx (Nat.pow_le_pow_right (by omega) (by omega))
  have hy2 : y.natAbs < 2 ^ (k + m) := Nat.lt_of_lt_of_le hy (Nat.pow_le_pow_right (by omega) (by omega))
  go_wp2
  go_loopg [5, 6] (y.natAbs) (fun gk s5 s6 wr => ∃ A : Nat, s5 = .string ⟨(Lib.itoa (A : Int)).toArray⟩ ∧ s6 = .string ⟨(Lib.itoa (gk : Int)).toArray⟩ ∧ Hid (Nat.gcd A gk = Int.gcd x y ∧ A < 2 ^ (k + m) ∧ gk < 2 ^ (k + m)) ∧ Gr w wr)
  case atStart => exact ⟨x.natAbs, rfl, rfl, ⟨rfl, hx2, hy2⟩, ((g1.trans g2).trans g3).trans g4⟩
  case round =>
    obtain ⟨A, rfl, rfl, hz, hB⟩ := hrel
    by_cases hg : gk = 0
    · subst hg
      have HZ : Hid (A = Int.gcd x y) := by
        have := hz.out.1
        rw [Nat.gcd_zero_right] at this
        exact this
      have e0 : Lib.itoa 0 = [48] := itoa_zero
      simp only [Int.natCast_zero, e0]
      go_wp2
      go_ret
      refine ⟨?_, hB⟩
      rw [HZ.out]; rfl
    · have hne := ne_zero_text (show (gk : Int) ≠ 0 by omega)
      have hne2 := ne_zero_beq (show (gk : Int) ≠ 0 by omega)
      have hdm := r1_divmod (k := k + m) (m := k + m) (A : Int) (gk : Int) (by unfold Sz; simpa using hz.out.2.1) (by unfold Sz; simpa using hz.out.2.2) (by omega) (by omega) wr
      rw [← Int.natCast_emod] at hdm
      go_wp2_with fail
      (with_reducible refine hdm.mono ?_)
      rintro e w5 ⟨rfl, g5⟩
      clear hdm
      go_wp2
      go_roundg (A % gk)
      case measure => exact Nat.mod_lt _ (by omega)
      case rel =>
        refine ⟨gk, rfl, rfl, ⟨?_, hz.out.2.2, Nat.lt_trans (Nat.mod_lt _ (by omega)) hz.out.2.2⟩, hB.trans g5⟩
        rw [← hz.out.1, Nat.gcd_comm gk, ← Nat.gcd_rec, Nat.gcd_comm]
end Go.Proofs.YtloocadjbpgldaaGreatDoor
/- The reference of layer 1: the check of a text. -/
namespace Go.Proofs.YtloocadjbpgldaaGreatDoor
open Go.RowKit

theorem ck1_syn {l : List UInt8} (h : l.length ≤ 65536) (h1 : allD (strip l) = false) : ck1 l = 14 := by unfold ck1; rw [if_neg (by omega), if_pos h1]
theorem ck1_bad {l : List UInt8} (h : l.length ≤ 65536) (h1 : allD (strip l) = true) (h2 : badZ l = true) : ck1 l = 3 := by unfold ck1; rw [if_neg (by omega), if_neg (by simp [h1]), if_pos h2]
theorem ck1_fine {l : List UInt8} (h : l.length ≤ 65536) (h1 : allD (strip l) = true) (h2 : badZ l = false) : ck1 l = 0 := by unfold ck1; rw [if_neg (by omega), if_neg (by simp [h1]), if_neg (by simp [h2])]
theorem toList_get {D : ByteArray} {k : Nat} (h : k < D.size) : D.data.toList[k]? = some D[k] := by
  rw [Array.getElem?_toList, Array.getElem?_eq_getElem h]; rfl
theorem all_step {D : ByteArray} {k : Nat} (h : k < D.size) (ha : (D.data.toList.take k).all isD = true) (h0 : 48 ≤ (D[k].toNat : Int)) (h1 : (D[k].toNat : Int) ≤ 57) : (D.data.toList.take (k + 1)).all isD = true := by
  rw [List.take_add_one, toList_get h, List.all_append, ha]
  simp only [Option.toList_some, List.all_cons, List.all_nil, Bool.and_true, Bool.true_and]
  exact isD_iff.2 (by omega)
theorem allD_no {D : ByteArray} {k : Nat} (h : k < D.size) (h0 : (D[k].toNat : Int) < 48 ∨ 57 < (D[k].toNat : Int)) : allD D.data.toList = false := by
  rw [Bool.eq_false_iff]
  intro hh
  have := (allD_all hh).2 D[k] (List.mem_of_getElem? (toList_get h))
  omega
theorem allD_yes {D : ByteArray} (h : 0 < D.size) (ha : (D.data.toList.take D.size).all isD = true) : allD D.data.toList = true := by
  have hl : D.data.toList.length = D.size := by simp
  rw [← hl, List.take_length] at ha
  simp only [allD, ha, Bool.and_true, decide_eq_true_eq]
  omega
theorem allD_nil {D : ByteArray} (h : D.size = 0) : allD D.data.toList = false := by
  have hl : D.data.toList.length = D.size := by simp
  simp only [allD, Bool.and_eq_false_imp, decide_eq_true_eq]
  omega
theorem bad_at {s D : ByteArray} (hD : D.data.toList = strip s.data.toList) (h : 0 < D.size) : badZ s.data.toList = (((D[0].toNat : Int) == 48) && (decide (1 < D.size) || decide (1 < s.size))) := by
  unfold badZ
  rw [← hD, toList_get h]
  have h1 : ((some D[0] : Option UInt8) == some 48) = ((D[0].toNat : Int) == 48) := by
    rw [Bool.eq_iff_iff]
    simp only [beq_iff_eq, Option.some.injEq]
    rw [← UInt8.toNat_inj]
    have : (48 : UInt8).toNat = 48 := rfl
    omega
  have h2 : D.data.toList.length = D.size := by simp
  have h3 : s.data.toList.length = s.size := by simp
  rw [h1, h2, h3]
theorem strip_no {s : ByteArray} (h : s.size = 0 ∨ ∃ h : 0 < s.size, (s[0].toNat : Int) ≠ 45) : s.data.toList = strip s.data.toList := by
  rcases hl : s.data.toList with _ | ⟨c, l⟩
  · rfl
  · rw [strip_cons, if_neg]
    intro e
    have hsz : s.data.toList.length = s.size := by simp
    rcases h with h | ⟨h, h2⟩
    · rw [hl] at hsz; simp at hsz; omega
    · have := toList_get h
      rw [hl] at this
      simp only [List.getElem?_cons_zero, Option.some.injEq] at this
      rw [← this, e] at h2
      exact h2 rfl
theorem strip_yes {s : ByteArray} (h : 0 < s.size) (h2 : (s[0].toNat : Int) = 45) : (s.extract 1 s.size).data.toList = strip s.data.toList := by
  have hsz : s.data.toList.length = s.size := by simp
  rw [Lib.extract_data]
  rcases hl : s.data.toList with _ | ⟨c, l⟩
  · rw [hl] at hsz; simp at hsz; omega
  · have := toList_get h
    rw [hl] at this
    simp only [List.getElem?_cons_zero, Option.some.injEq] at this
    rw [strip_cons, if_pos (by rw [this, ← UInt8.toNat_inj]; have : (45 : UInt8).toNat = 45 := rfl; omega)]
    rw [List.drop_one, List.tail_cons, List.take_of_length_le]
    rw [hl] at hsz; simp at hsz; omega
set_option maxRecDepth 10000 in
set_option maxHeartbeats 2000000 in
theorem r1_check (s : ByteArray) (w : World) (hs : s.size ≤ 60000) :
    Calls Tryz.prog 16 #[.string s] w fun e w' => e = .returned (.int .i64 (ck1 s.data.toList)) ∧ w = w' := by
  have hsl : s.data.toList.length ≤ 65536 := by simp; omega
  by_cases hsign : ∃ h : 0 < s.size, (s[0].toNat : Int) = 45
  · obtain ⟨h0, h45⟩ := hsign
    have h45' : ((s[0].toNat : Int) == 45) = true := by simpa using h45
    obtain ⟨D, hDe⟩ : ∃ D, s.extract 1 s.size = D := ⟨_, rfl⟩
    have hD := strip_yes h0 h45
    rw [hDe] at hD
    have hDle : D.size ≤ 60000 := by rw [← hDe]; simp; omega
    clear h45
    go_enter Tryz.func16, Tryz.ntmps16
    have HD := Lib.hid hD
    clear hD
    by_cases hd0 : D.size = 0
    · go_wp2
      go_ret
      exact ⟨ret_int (ck1_syn hsl (by rw [← HD.out]; exact allD_nil hd0)).symm, rfl⟩
    · have hd1 : 0 < D.size := by omega
      have hbad := bad_at HD.out hd1
      have HBad := Lib.hid hbad
      clear hbad hd0
      go_wp2
      go_loop [4] (fun i => ∃ k : Nat, k ≤ D.size ∧ i = .int .i64 k ∧ Hid ((D.data.toList.take k).all isD = true)) (fun i => D.size - (intOf i).toNat)
      case atStart => exact ⟨0, Nat.zero_le _, rfl, rfl⟩
      case round =>
        obtain ⟨k, hk, rfl, hz⟩ := hrel
        by_cases hlt : k < D.size
        · by_cases h1 : (D[k].toNat : Int) < 48
          · go_wp2
            go_ret
            exact ⟨ret_int (ck1_syn hsl (by rw [← HD.out]; exact allD_no hlt (.inl h1))).symm, rfl⟩
          · have h1' : 48 ≤ (D[k].toNat : Int) := by omega
            by_cases h2 : 57 < (D[k].toNat : Int)
            · go_wp2
              go_ret
              exact ⟨ret_int (ck1_syn hsl (by rw [← HD.out]; exact allD_no hlt (.inr h2))).symm, rfl⟩
            · have h2' : (D[k].toNat : Int) ≤ 57 := by omega
              go_wp2
              go_round
              case rel => exact ⟨k + 1, by omega, by go_num, all_step hlt hz.out h1' h2'⟩
              case measure => simp [intOf]; omega
        · obtain rfl : k = D.size := by omega
          have hall : allD (strip s.data.toList) = true := by rw [← HD.out]; exact allD_yes hd1 hz.out
          have HAll := Lib.hid hall
          clear hall
          by_cases b1 : (D[0].toNat : Int) = 48
          · have b1' : ((D[0].toNat : Int) == 48) = true := by simpa using b1
            have B1 := Lib.hid b1'
            clear b1
            by_cases b2 : 1 < D.size
            · go_wp2
              go_ret
              exact ⟨ret_int (ck1_bad hsl HAll.out (by rw [HBad.out, B1.out, decide_eq_true b2]; rfl)).symm, rfl⟩
            · by_cases b3 : 1 < s.size
              · go_wp2
                go_ret
                exact ⟨ret_int (ck1_bad hsl HAll.out (by rw [HBad.out, B1.out, decide_eq_true b3, Bool.or_true]; rfl)).symm, rfl⟩
              · go_wp2
                go_ret
                exact ⟨ret_int (ck1_fine hsl HAll.out (by rw [HBad.out, B1.out, decide_eq_false b2, decide_eq_false b3]; rfl)).symm, rfl⟩
          · have b1' : ((D[0].toNat : Int) == 48) = false := by simpa using b1
            have B1 := Lib.hid b1'
            clear b1
            go_wp2
            go_ret
            exact ⟨ret_int (ck1_fine hsl HAll.out (by rw [HBad.out, B1.out]; rfl)).symm, rfl⟩
  · have hD := strip_no (s := s) (by
      rcases Nat.eq_zero_or_pos s.size with h | h
      · exact .inl h
      · exact .inr ⟨h, fun e => hsign ⟨h, e⟩⟩)
    go_enter Tryz.func16, Tryz.ntmps16
    have HD := Lib.hid hD
    clear hD
    by_cases hd0 : s.size = 0
    · go_wp2
      go_ret
      exact ⟨ret_int (ck1_syn hsl (by rw [← HD.out]; exact allD_nil hd0)).symm, rfl⟩
    · have hd1 : 0 < s.size := by omega
      have h45' : ((s[0].toNat : Int) == 45) = false := by
        rw [beq_eq_false_iff_ne]; exact fun e => hsign ⟨hd1, e⟩
      clear hsign
      have hbad := bad_at HD.out hd1
      have HBad := Lib.hid hbad
      clear hbad hd0
      go_wp2
      go_loop [4] (fun i => ∃ k : Nat, k ≤ s.size ∧ i = .int .i64 k ∧ Hid ((s.data.toList.take k).all isD = true)) (fun i => s.size - (intOf i).toNat)
      case atStart => exact ⟨0, Nat.zero_le _, rfl, rfl⟩
      case round =>
        obtain ⟨k, hk, rfl, hz⟩ := hrel
        by_cases hlt : k < s.size
        · by_cases h1 : (s[k].toNat : Int) < 48
          · go_wp2
            go_ret
            exact ⟨ret_int (ck1_syn hsl (by rw [← HD.out]; exact allD_no hlt (.inl h1))).symm, rfl⟩
          · have h1' : 48 ≤ (s[k].toNat : Int) := by omega
            by_cases h2 : 57 < (s[k].toNat : Int)
            · go_wp2
              go_ret
              exact ⟨ret_int (ck1_syn hsl (by rw [← HD.out]; exact allD_no hlt (.inr h2))).symm, rfl⟩
            · have h2' : (s[k].toNat : Int) ≤ 57 := by omega
              go_wp2
              go_round
              case rel => exact ⟨k + 1, by omega, by go_num, all_step hlt hz.out h1' h2'⟩
              case measure => simp [intOf]; omega
        · obtain rfl : k = s.size := by omega
          have hall : allD (strip s.data.toList) = true := by rw [← HD.out]; exact allD_yes hd1 hz.out
          have HAll := Lib.hid hall
          clear hall
          by_cases b1 : (s[0].toNat : Int) = 48
          · have b1' : ((s[0].toNat : Int) == 48) = true := by simpa using b1
            have B1 := Lib.hid b1'
            clear b1
            by_cases b2 : 1 < s.size
            · go_wp2
              go_ret
              exact ⟨ret_int (ck1_bad hsl HAll.out (by rw [HBad.out, B1.out, decide_eq_true b2]; rfl)).symm, rfl⟩
            · go_wp2
              go_ret
              exact ⟨ret_int (ck1_fine hsl HAll.out (by rw [HBad.out, B1.out]; simp; omega)).symm, rfl⟩
          · have b1' : ((s[0].toNat : Int) == 48) = false := by simpa using b1
            have B1 := Lib.hid b1'
            clear b1
            go_wp2
            go_ret
            exact ⟨ret_int (ck1_fine hsl HAll.out (by rw [HBad.out, B1.out]; rfl)).symm, rfl⟩
end Go.Proofs.YtloocadjbpgldaaGreatDoor
/- The reference of layer 1: the text of an int. -/
namespace Go.Proofs.YtloocadjbpgldaaGreatDoor
open Go.RowKit

set_option maxRecDepth 10000 in
set_option maxHeartbeats 4000000 in
theorem r1_from_p (n : Int) (h0 : 0 ≤ n) (h1 : n ≤ 9223372036854775807) (w : World) :
    Calls Tryz.prog 60 #[.int .i64 n] w fun e w' => e = .returned (.string ⟨(Lib.itoa n).toArray⟩) ∧ Gr w w' := by
  obtain ⟨len, hnx⟩ := NX.exists n.toNat
  have hl : len ≤ 64 := hnx.len_bits (k := 63) (by omega)
  rw [show ((n.toNat : Nat) : Int) = n by omega] at hnx
  go_enter Tryz.func60, Tryz.ntmps60
  go_wp2
  go_loopw [3, 4] (fun d m wr => ∃ (k : Nat) (v : Value) (M : Int), d = v ∧ m = .int .i64 M ∧ 0 ≤ M ∧ M ≤ 9223372036854775807 ∧ k ≤ len ∧ Hid (M = tn n k ∧ OwnS wr 3 w.heap.size v (dvals .i64 k (td n))) ∧ Below w.heap.size w wr) (fun _ m _ => (intOf m).toNat)
  case atStart => exact ⟨0, _, n, rfl, rfl, h0, h1, Nat.zero_le _, ⟨rfl, OwnS.nil _ _ _⟩, Below.refl _ _⟩
  case round =>
    obtain ⟨k, v, M, rfl, rfl, m0, m1, hk, hz, hB⟩ := hrel
    by_cases hp : 0 < M
    · have hne : (M != 0) = true := by simp; omega
      have hkl : k < len := by
        rcases Nat.lt_or_ge k len with h | h
        · exact h
        · have := tn_ge hnx.top h
          have := hz.out.1
          omega
      have d0 : 0 ≤ M % 10 := by omega
      go_wp2_with (at_builtin; refine wpList_app1 rfl (.tmp 17) (.tmp 19) _ (by rfl) 3 w.heap.size _ _ _ (by rfl) (hz.out.2.gr (Gr.alloc _ _)) _ _ _ (by rfl) (heap_alloc_new _ _) rfl w (hB.alloc hB.size _) (by rw [dvals_length]; omega) 8 (by decide) Tryz.underlying106 int_info rfl (by have := hB.size; simp; omega) ?_)
      intro v1 w1 hown hB1 _ _
      go_wp2
      go_roundw
      case rel =>
        refine ⟨k + 1, _, M / 10, rfl, rfl, by omega, by omega, hkl, ⟨by rw [tn_succ, hz.out.1], ?_⟩, hB1⟩
        rw [dvals_succ, show td n k = M % 10 by unfold td; rw [hz.out.1]]
        exact hown
      case measure => simp [intOf]; omega
    · have hM : M = 0 := by omega
      subst hM
      obtain ⟨ao, cap, rfl, hcap, _, hrow⟩ := hz.out.2.drow
      have hx : tn ((n.toNat : Nat) : Int) k = 0 := by rw [show ((n.toNat : Nat) : Int) = n by omega]; exact hz.out.1.symm
      have hrow' : DRow wr ao k (td ((n.toNat : Nat) : Int)) := by rw [show ((n.toNat : Nat) : Int) = n by omega]; exact hrow
      have hn0 : ¬ n < 0 := by omega
      have htx := r1_text false ao k cap n.toNat wr (by omega) hcap hx hrow'
      rw [text_abs (z := n) (.inr ⟨rfl, by omega⟩)] at htx
      clear hx hrow hrow'
      go_wp2_with fail
      (with_reducible refine htx.mono ?_)
      rintro e w2 ⟨rfl, g2⟩
      clear htx
      go_wp2
      go_ret
      exact ⟨rfl, Below.trans hB (Below.mono g2 hB.size)⟩
set_option maxRecDepth 10000 in
set_option maxHeartbeats 4000000 in
theorem r1_from_n (n : Int) (h0 : n < 0) (h1 : -9223372036854775808 ≤ n) (w : World) :
    Calls Tryz.prog 60 #[.int .i64 n] w fun e w' => e = .returned (.string ⟨(Lib.itoa n).toArray⟩) ∧ Gr w w' := by
  obtain ⟨len, hnx⟩ := NX.exists n.natAbs
  have hl : len ≤ 65 := hnx.len_bits (k := 64) (by omega)
  go_enter Tryz.func60, Tryz.ntmps60
  go_wp2
  go_loopw [3, 4] (fun d m wr => ∃ (k : Nat) (v : Value) (M : Int), d = v ∧ m = .int .i64 M ∧ M ≤ 0 ∧ -9223372036854775808 ≤ M ∧ k ≤ len ∧ Hid (-M = tn (n.natAbs : Int) k ∧ OwnS wr 3 w.heap.size v (dvals .i64 k (td (n.natAbs : Int)))) ∧ Below w.heap.size w wr) (fun _ m _ => (-intOf m).toNat)
  case atStart => exact ⟨0, _, n, rfl, rfl, by omega, h1, Nat.zero_le _, ⟨by rw [tn_zero]; omega, OwnS.nil _ _ _⟩, Below.refl _ _⟩
  case round =>
    obtain ⟨k, v, M, rfl, rfl, m0, m1, hk, hz, hB⟩ := hrel
    by_cases hp : M < 0
    · have hne : (M != 0) = true := by simp; omega
      have hkl : k < len := by
        rcases Nat.lt_or_ge k len with h | h
        · exact h
        · have := tn_ge hnx.top h
          have := hz.out.1
          omega
      obtain ⟨A, hA⟩ : ∃ A : Int, A = -M := ⟨_, rfl⟩
      have htm : M.tmod 10 = -(A % 10) := by
        rw [hA, show M = -(-M) by omega, Int.neg_tmod, Int.tmod_eq_emod_of_nonneg (by omega), Int.neg_neg]
      have htd : M.tdiv 10 = -(A / 10) := by
        rw [hA, show M = -(-M) by omega, Int.neg_tdiv, Int.tdiv_eq_ediv_of_nonneg (by omega), Int.neg_neg]
      have d0 : 0 ≤ A % 10 := by omega
      have d1 : A % 10 < 10 := by omega
      have d2 : 0 ≤ A / 10 := by omega
      have d3 : A / 10 ≤ 9223372036854775807 := by omega
      have HA := Lib.hid hA
      clear hA
      by_cases hx : A % 10 = 0
      · have hxx : ¬ -(A % 10) < 0 := by omega
        go_wp2_with (at_builtin; refine wpList_app1 rfl (.tmp 17) (.tmp 19) _ (by rfl) 3 w.heap.size _ _ _ (by rfl) (hz.out.2.gr (Gr.alloc _ _)) _ _ _ (by rfl) (heap_alloc_new _ _) rfl w (hB.alloc hB.size _) (by rw [dvals_length]; omega) 8 (by decide) Tryz.underlying106 int_info rfl (by have := hB.size; simp; omega) ?_)
        intro v1 w1 hown hB1 _ _
        go_wp2
        go_roundw
        case rel =>
          refine ⟨k + 1, _, -(A / 10), rfl, rfl, by omega, by omega, hkl, ⟨by rw [tn_succ, ← hz.out.1, HA.out]; omega, ?_⟩, hB1⟩
          rw [dvals_succ, show td (n.natAbs : Int) k = 0 by unfold td; rw [← hz.out.1, ← HA.out]; exact hx]
          exact hown
        case measure => simp [intOf]; have := HA.out; omega
      · have hxx : -(A % 10) < 0 := by omega
        go_wp2_with (at_builtin; refine wpList_app1 rfl (.tmp 17) (.tmp 19) _ (by rfl) 3 w.heap.size _ _ _ (by rfl) (hz.out.2.gr (Gr.alloc _ _)) _ _ _ (by rfl) (heap_alloc_new _ _) rfl w (hB.alloc hB.size _) (by rw [dvals_length]; omega) 8 (by decide) Tryz.underlying106 int_info rfl (by have := hB.size; simp; omega) ?_)
        intro v1 w1 hown hB1 _ _
        go_wp2
        go_roundw
        case rel =>
          refine ⟨k + 1, _, -(A / 10), rfl, rfl, by omega, by omega, hkl, ⟨by rw [tn_succ, ← hz.out.1, HA.out]; omega, ?_⟩, hB1⟩
          rw [dvals_succ, show td (n.natAbs : Int) k = A % 10 by unfold td; rw [← hz.out.1, ← HA.out]]
          exact hown
        case measure => simp [intOf]; have := HA.out; omega
    · have hM : M = 0 := by omega
      subst hM
      obtain ⟨ao, cap, rfl, hcap, _, hrow⟩ := hz.out.2.drow
      have hx : tn (n.natAbs : Int) k = 0 := by have := hz.out.1; omega
      have htx := r1_text true ao k cap n.natAbs wr (by omega) hcap hx hrow
      rw [text_abs (z := n) (.inl ⟨rfl, by omega⟩)] at htx
      clear hx hrow
      go_wp2_with fail
      (with_reducible refine htx.mono ?_)
      rintro e w2 ⟨rfl, g2⟩
      clear htx
      go_wp2
      go_ret
      exact ⟨rfl, Below.trans hB (Below.mono g2 hB.size)⟩
theorem r1_from (n : Int) (h0 : -9223372036854775808 ≤ n) (h1 : n ≤ 9223372036854775807) (w : World) :
    Calls Tryz.prog 60 #[.int .i64 n] w fun e w' => e = .returned (.string ⟨(Lib.itoa n).toArray⟩) ∧ Gr w w' := by
  rcases Int.lt_or_le n 0 with h | h
  · exact r1_from_n n h h0 w
  · exact r1_from_p n h h1 w
end Go.Proofs.YtloocadjbpgldaaGreatDoor
/- The reference of layer 2: what its texts are. -/
namespace Go.Proofs.YtloocadjbpgldaaGreatDoor
open Go.RowKit

theorem divInt_parts {N D : Int} (h0 : 0 < D) : (Rat.divInt N D).num = N / (Int.gcd N D : Int) ∧ ((Rat.divInt N D).den : Int) = D / (Int.gcd N D : Int) ∧ 0 < (Int.gcd N D : Int) := by
  refine ⟨by rw [Rat.num_divInt, Int.sign_eq_one_of_pos h0, Int.one_mul, Int.gcd_comm], ?_, ?_⟩
  · rw [Rat.den_divInt, if_neg (by omega), Int.gcd_comm, Int.natCast_ediv]
    congr 1
    omega
  · have : Int.gcd N D ≠ 0 := by rw [Ne, Int.gcd_eq_zero_iff]; omega
    omega
theorem text_w {N D : Int} (h0 : 0 < D) (hb : (Lib.itoa (D / (Int.gcd N D : Int)) == [49]) = true) : Lib.itoa (N / (Int.gcd N D : Int)) = ratL (Rat.divInt N D) := by
  obtain ⟨h1, h2, _⟩ := divInt_parts (N := N) h0
  have h3 : D / (Int.gcd N D : Int) = 1 := itoa_inj (by rw [itoa_one]; exact eq_of_beq hb)
  rw [ratL_w (by omega), h1]
theorem text_f {N D : Int} (h0 : 0 < D) (hb : (Lib.itoa (D / (Int.gcd N D : Int)) == [49]) = false) : Lib.itoa (N / (Int.gcd N D : Int)) ++ [47] ++ Lib.itoa (D / (Int.gcd N D : Int)) = ratL (Rat.divInt N D) := by
  obtain ⟨h1, h2, _⟩ := divInt_parts (N := N) h0
  have h3 : ¬ (Rat.divInt N D).den = 1 := fun e => by
    rw [e] at h2
    rw [← h2] at hb
    rw [show ((1 : Nat) : Int) = 1 from rfl, itoa_one] at hb
    exact absurd hb (by decide)
  rw [ratL_f h3, h1, h2]
theorem sz_gcd2 {k m : Nat} {N D : Int} (hN : Sz k N) (hD : Sz m D) : Sz (k + m) (Int.gcd N D : Int) := sz_gcd hN hD
theorem sz_div {k : Nat} {N g : Int} (hN : Sz k N) (hg : 0 < g) : Sz k (N / g) := by
  refine hN.of_le ?_
  rcases Int.lt_or_le N 0 with h | h
  · have h1 : N ≤ N / g := by
      rw [Int.le_ediv_iff_mul_le hg]
      have : N * g ≤ N * 1 := Int.mul_le_mul_of_nonpos_left (by omega) (by omega)
      omega
    have h2 : N / g < 0 := Int.ediv_neg_of_neg_of_pos h hg
    omega
  · have h1 : N / g ≤ N := Int.ediv_le_self _ h
    have h2 : 0 ≤ N / g := Int.ediv_nonneg h (by omega)
    omega
theorem divInt_neg2 (N D : Int) : Rat.divInt (-N) (-D) = Rat.divInt N D := by
  exact Rat.neg_divInt_neg N D
end Go.Proofs.YtloocadjbpgldaaGreatDoor
/- Printed by a program of the prover's: the reference of layer 2: the text of a quotient. -/
namespace Go.Proofs.YtloocadjbpgldaaGreatDoor
open Go.RowKit

set_option maxRecDepth 100000 in
set_option maxHeartbeats 4000000 in
theorem r2_text_p {k m : Nat} (x y : Int) (hx : Sz k x) (hy : Sz m y) (_hy0 : 0 < y) (_hk : k + m ≤ 60000) (w : World) :
    Calls Tryz.prog 20 #[(.string ⟨(Lib.itoa (x) : List UInt8).toArray⟩), (.string ⟨(Lib.itoa (y) : List UInt8).toArray⟩)] w fun e w' => e = .returned (.string ⟨(ratL (Rat.divInt x y)).toArray⟩) ∧ Gr w w' := by
 have hs : decide (sgn y < 0) = false := by rw [sgn_lt]; simp; omega
 have h0 : (0 : Int) < y := by omega
 have hgp := (divInt_parts (N := x) h0).2.2
 have hl1 := itoa_len (sz_div (N := x) hx hgp)
 have hl2 := itoa_len (sz_div (N := y) hy hgp)
 go_enter Tryz.func20, Tryz.ntmps20
 have hB := Gr.refl w
 refine wp_seq_k (fun K1 k1 => ?_)
 refine rg [0] ?_
 refine sv 4 (.string ⟨([] : List UInt8).toArray⟩) ?_
 simp only [p3, p4]
 refine sq_nil ?_
 refine k1 _ _ ?_
 try clear k1 K1
 refine wp_seq_k (fun K2 k2 => ?_)
 refine wp_seq_k (fun K3 k3 => ?_)
 refine rg [0, 1, 2] ?_
 refine sv 6 (.string ⟨(Lib.itoa (y) : List UInt8).toArray⟩) ?_
 simp only [p3, p4]
 refine se ?_
 refine ec 7 (r1_sign_i (y) _) ?_
 rintro e4 w4 ⟨rfl, g4⟩
 refine ⟨_, rfl, ?_⟩
 replace hB := hB.trans g4
 simp only [p3, p4]
 refine sw 8 (.bool false) rfl (RunV.bool (x := decide (sgn (y) < (0 : Int))) (rvk (by kernel_rfl)) hs) ?_
 simp only [p3, p4]
 refine sq_nil ?_
 refine k3 _ _ ?_
 try clear k3 K3
 refine wp_cond_false rfl ?_
 refine wp_skip ?_
 refine k2 _ _ ?_
 try clear k2 K2
 refine wp_seq_k (fun K5 k5 => ?_)
 refine rg [0, 1, 2, 3] ?_
 refine sv 13 (.string ⟨(Lib.itoa (x) : List UInt8).toArray⟩) ?_
 simp only [p3, p4]
 refine sv 14 (.string ⟨(Lib.itoa (y) : List UInt8).toArray⟩) ?_
 simp only [p3, p4]
 refine se ?_
 refine ec 15 (r1_gcd (x) (y) hx hy (by omega) _) ?_
 rintro e6 w6 ⟨rfl, g6⟩
 refine ⟨_, rfl, ?_⟩
 replace hB := hB.trans g6
 simp only [p3, p4]
 refine sv 5 (.string ⟨(Lib.itoa ((Int.gcd (x) (y) : Int)) : List UInt8).toArray⟩) ?_
 simp only [p3, p4]
 refine sq_nil ?_
 refine k5 _ _ ?_
 try clear k5 K5
 refine wp_seq_k (fun K7 k7 => ?_)
 refine rg [0, 1, 2, 3, 4, 5, 6] ?_
 refine sv 17 (.string ⟨(Lib.itoa (x) : List UInt8).toArray⟩) ?_
 simp only [p3, p4]
 refine sv 18 (.string ⟨(Lib.itoa ((Int.gcd (x) (y) : Int)) : List UInt8).toArray⟩) ?_
 simp only [p3, p4]
 refine se ?_
 refine ec 19 (r1_divmod (x) ((Int.gcd (x) (y) : Int)) hx (sz_gcd2 hx hy) hgp (by omega) _) ?_
 rintro e8 w8 ⟨rfl, g8⟩
 refine ⟨_, rfl, ?_⟩
 replace hB := hB.trans g8
 simp only [p3, p4]
 refine sv 16 (.tuple #[(.string ⟨(Lib.itoa (x / (Int.gcd (x) (y) : Int)) : List UInt8).toArray⟩), (.string ⟨(Lib.itoa (x % (Int.gcd (x) (y) : Int)) : List UInt8).toArray⟩)]) ?_
 simp only [p3, p4]
 refine sv 20 (.string ⟨(Lib.itoa (x / (Int.gcd (x) (y) : Int)) : List UInt8).toArray⟩) ?_
 simp only [p3, p4]
 refine sv 21 (.string ⟨(Lib.itoa (x % (Int.gcd (x) (y) : Int)) : List UInt8).toArray⟩) ?_
 simp only [p3, p4]
 refine sv 0 (.string ⟨(Lib.itoa (x / (Int.gcd (x) (y) : Int)) : List UInt8).toArray⟩) ?_
 simp only [p3]
 refine sq_nil ?_
 refine k7 _ _ ?_
 try clear k7 K7
 refine wp_seq_k (fun K9 k9 => ?_)
 refine rg [0, 1, 2, 3, 4, 5, 6] ?_
 refine sv 23 (.string ⟨(Lib.itoa (y) : List UInt8).toArray⟩) ?_
 simp only [p3, p4]
 refine sv 24 (.string ⟨(Lib.itoa ((Int.gcd (x) (y) : Int)) : List UInt8).toArray⟩) ?_
 simp only [p3, p4]
 refine se ?_
 refine ec 25 (r1_divmod (y) ((Int.gcd (x) (y) : Int)) hy (sz_gcd2 hx hy) hgp (by omega) _) ?_
 rintro e10 w10 ⟨rfl, g10⟩
 refine ⟨_, rfl, ?_⟩
 replace hB := hB.trans g10
 simp only [p3, p4]
 refine sv 22 (.tuple #[(.string ⟨(Lib.itoa (y / (Int.gcd (x) (y) : Int)) : List UInt8).toArray⟩), (.string ⟨(Lib.itoa (y % (Int.gcd (x) (y) : Int)) : List UInt8).toArray⟩)]) ?_
 simp only [p3, p4]
 refine sv 26 (.string ⟨(Lib.itoa (y / (Int.gcd (x) (y) : Int)) : List UInt8).toArray⟩) ?_
 simp only [p3, p4]
 refine sv 27 (.string ⟨(Lib.itoa (y % (Int.gcd (x) (y) : Int)) : List UInt8).toArray⟩) ?_
 simp only [p3, p4]
 refine sv 1 (.string ⟨(Lib.itoa (y / (Int.gcd (x) (y) : Int)) : List UInt8).toArray⟩) ?_
 simp only [p3, p4]
 refine sq_nil ?_
 refine k9 _ _ ?_
 try clear k9 K9
 refine wp_seq_k (fun K11 k11 => ?_)
 refine wp_seq_k (fun K12 k12 => ?_)
 refine rg [0, 1] ?_
 refine sv 28 (.string ⟨(Lib.itoa (y / (Int.gcd (x) (y) : Int)) : List UInt8).toArray⟩) ?_
 simp only [p3, p4]
 refine sw 29 (.bool (((Lib.itoa (y / (Int.gcd (x) (y) : Int))) == ([49] : List UInt8)))) rfl (rv_seq 9 9 _ _ (Lib.itoa (y / (Int.gcd (x) (y) : Int))) ([49]) rfl rfl rfl) ?_
 simp only [p3, p4]
 refine sq_nil ?_
 refine k12 _ _ ?_
 try clear k12 K12
 refine wp_cond_split (t := ((Lib.itoa (y / (Int.gcd (x) (y) : Int))) == ([49] : List UInt8))) rfl (fun hb13 => ?_) (fun hb13 => ?_)
 ·refine wp_seq_k (fun K14 k14 => ?_)
  refine rg [0, 1] ?_
  refine sv 30 (.string ⟨(Lib.itoa (x / (Int.gcd (x) (y) : Int)) : List UInt8).toArray⟩) ?_
  simp only [p3, p4]
  refine sv 4 (.string ⟨(Lib.itoa (x / (Int.gcd (x) (y) : Int)) : List UInt8).toArray⟩) ?_
  simp only [p3, p4]
  refine sq_nil ?_
  refine k14 _ _ ?_
  try clear k14 K14
  refine wp_ret ?_
  simp only [Exit.then]
  refine bodyPost_ret (v := (.string ⟨(Lib.itoa (x / (Int.gcd (x) (y) : Int)) : List UInt8).toArray⟩)) (ret_tmp rfl rfl) rfl ⟨?_, hB⟩
  exact (by rw [text_w h0 hb13])
 ·refine wp_skip ?_
  refine k11 _ _ ?_
  try clear k11 K11
  refine wp_seq_k (fun K15 k15 => ?_)
  refine rg [0, 1, 2, 3, 4] ?_
  refine sv 31 (.string ⟨(Lib.itoa (x / (Int.gcd (x) (y) : Int)) : List UInt8).toArray⟩) ?_
  simp only [p3, p4]
  refine sw 32 (.string ⟨((Lib.itoa (x / (Int.gcd (x) (y) : Int))) ++ ([47]) : List UInt8).toArray⟩) rfl (rv_cat 9 9 _ _ (Lib.itoa (x / (Int.gcd (x) (y) : Int))) ([47]) rfl rfl rfl (by simp only [List.length_cons, List.length_nil]; omega)) ?_
  simp only [p3, p4]
  refine sv 33 (.string ⟨(Lib.itoa (y / (Int.gcd (x) (y) : Int)) : List UInt8).toArray⟩) ?_
  simp only [p3, p4]
  refine sw 34 (.string ⟨(((Lib.itoa (x / (Int.gcd (x) (y) : Int))) ++ ([47])) ++ (Lib.itoa (y / (Int.gcd (x) (y) : Int))) : List UInt8).toArray⟩) rfl (rv_cat 9 9 _ _ ((Lib.itoa (x / (Int.gcd (x) (y) : Int))) ++ ([47])) (Lib.itoa (y / (Int.gcd (x) (y) : Int))) rfl rfl rfl (by simp only [List.length_append, List.length_cons, List.length_nil]; omega)) ?_
  simp only [p3, p4]
  refine sv 4 (.string ⟨(((Lib.itoa (x / (Int.gcd (x) (y) : Int))) ++ ([47])) ++ (Lib.itoa (y / (Int.gcd (x) (y) : Int))) : List UInt8).toArray⟩) ?_
  simp only [p3, p4]
  refine sq_nil ?_
  refine k15 _ _ ?_
  try clear k15 K15
  refine wp_ret ?_
  refine bodyPost_ret (v := (.string ⟨(((Lib.itoa (x / (Int.gcd (x) (y) : Int))) ++ ([47])) ++ (Lib.itoa (y / (Int.gcd (x) (y) : Int))) : List UInt8).toArray⟩)) (ret_tmp rfl rfl) rfl ⟨?_, hB⟩
  exact (by rw [text_f h0 hb13])

set_option maxRecDepth 100000 in
set_option maxHeartbeats 4000000 in
theorem r2_text_n {k m : Nat} (x y : Int) (hx : Sz k x) (hy : Sz m y) (_hy0 : y < 0) (_hk : k + m ≤ 60000) (w : World) :
    Calls Tryz.prog 20 #[(.string ⟨(Lib.itoa (x) : List UInt8).toArray⟩), (.string ⟨(Lib.itoa (y) : List UInt8).toArray⟩)] w fun e w' => e = .returned (.string ⟨(ratL (Rat.divInt x y)).toArray⟩) ∧ Gr w w' := by
 have hs : decide (sgn y < 0) = true := by rw [sgn_lt]; simp; omega
 have h0 : (0 : Int) < -y := by omega
 have hgp := (divInt_parts (N := -x) h0).2.2
 have hl1 := itoa_len (sz_div (N := -x) hx.neg hgp)
 have hl2 := itoa_len (sz_div (N := -y) hy.neg hgp)
 go_enter Tryz.func20, Tryz.ntmps20
 have hB := Gr.refl w
 refine wp_seq_k (fun K1 k1 => ?_)
 refine rg [0] ?_
 refine sv 4 (.string ⟨([] : List UInt8).toArray⟩) ?_
 simp only [p3, p4]
 refine sq_nil ?_
 refine k1 _ _ ?_
 try clear k1 K1
 refine wp_seq_k (fun K2 k2 => ?_)
 refine wp_seq_k (fun K3 k3 => ?_)
 refine rg [0, 1, 2] ?_
 refine sv 6 (.string ⟨(Lib.itoa (y) : List UInt8).toArray⟩) ?_
 simp only [p3, p4]
 refine se ?_
 refine ec 7 (r1_sign_i (y) _) ?_
 rintro e4 w4 ⟨rfl, g4⟩
 refine ⟨_, rfl, ?_⟩
 replace hB := hB.trans g4
 simp only [p3, p4]
 refine sw 8 (.bool true) rfl (RunV.bool (x := decide (sgn (y) < (0 : Int))) (rvk (by kernel_rfl)) hs) ?_
 simp only [p3, p4]
 refine sq_nil ?_
 refine k3 _ _ ?_
 try clear k3 K3
 refine wp_cond_true rfl ?_
 refine rg [0, 1, 2, 3, 4, 5] ?_
 refine sv 9 (.string ⟨(Lib.itoa (x) : List UInt8).toArray⟩) ?_
 simp only [p3, p4]
 refine se ?_
 refine ec 10 (r1_neg (x) hx (by omega) _) ?_
 rintro e5 w5 ⟨rfl, g5⟩
 refine ⟨_, rfl, ?_⟩
 replace hB := hB.trans g5
 simp only [p3, p4]
 refine sv 11 (.string ⟨(Lib.itoa (y) : List UInt8).toArray⟩) ?_
 simp only [p3, p4]
 refine se ?_
 refine ec 12 (r1_neg (y) hy (by omega) _) ?_
 rintro e6 w6 ⟨rfl, g6⟩
 refine ⟨_, rfl, ?_⟩
 replace hB := hB.trans g6
 simp only [p3, p4]
 refine sv 0 (.string ⟨(Lib.itoa (-x) : List UInt8).toArray⟩) ?_
 simp only [p3]
 refine sv 1 (.string ⟨(Lib.itoa (-y) : List UInt8).toArray⟩) ?_
 simp only [p3, p4]
 refine sq_nil ?_
 refine k2 _ _ ?_
 try clear k2 K2
 refine wp_seq_k (fun K7 k7 => ?_)
 refine rg [0, 1, 2, 3] ?_
 refine sv 13 (.string ⟨(Lib.itoa (-x) : List UInt8).toArray⟩) ?_
 simp only [p3, p4]
 refine sv 14 (.string ⟨(Lib.itoa (-y) : List UInt8).toArray⟩) ?_
 simp only [p3, p4]
 refine se ?_
 refine ec 15 (r1_gcd (-x) (-y) hx.neg hy.neg (by omega) _) ?_
 rintro e8 w8 ⟨rfl, g8⟩
 refine ⟨_, rfl, ?_⟩
 replace hB := hB.trans g8
 simp only [p3, p4]
 refine sv 5 (.string ⟨(Lib.itoa ((Int.gcd (-x) (-y) : Int)) : List UInt8).toArray⟩) ?_
 simp only [p3, p4]
 refine sq_nil ?_
 refine k7 _ _ ?_
 try clear k7 K7
 refine wp_seq_k (fun K9 k9 => ?_)
 refine rg [0, 1, 2, 3, 4, 5, 6] ?_
 refine sv 17 (.string ⟨(Lib.itoa (-x) : List UInt8).toArray⟩) ?_
 simp only [p3, p4]
 refine sv 18 (.string ⟨(Lib.itoa ((Int.gcd (-x) (-y) : Int)) : List UInt8).toArray⟩) ?_
 simp only [p3, p4]
 refine se ?_
 refine ec 19 (r1_divmod (-x) ((Int.gcd (-x) (-y) : Int)) hx.neg (sz_gcd2 hx.neg hy.neg) hgp (by omega) _) ?_
 rintro e10 w10 ⟨rfl, g10⟩
 refine ⟨_, rfl, ?_⟩
 replace hB := hB.trans g10
 simp only [p3, p4]
 refine sv 16 (.tuple #[(.string ⟨(Lib.itoa ((-x) / (Int.gcd (-x) (-y) : Int)) : List UInt8).toArray⟩), (.string ⟨(Lib.itoa ((-x) % (Int.gcd (-x) (-y) : Int)) : List UInt8).toArray⟩)]) ?_
 simp only [p3, p4]
 refine sv 20 (.string ⟨(Lib.itoa ((-x) / (Int.gcd (-x) (-y) : Int)) : List UInt8).toArray⟩) ?_
 simp only [p3, p4]
 refine sv 21 (.string ⟨(Lib.itoa ((-x) % (Int.gcd (-x) (-y) : Int)) : List UInt8).toArray⟩) ?_
 simp only [p3, p4]
 refine sv 0 (.string ⟨(Lib.itoa ((-x) / (Int.gcd (-x) (-y) : Int)) : List UInt8).toArray⟩) ?_
 simp only [p3]
 refine sq_nil ?_
 refine k9 _ _ ?_
 try clear k9 K9
 refine wp_seq_k (fun K11 k11 => ?_)
 refine rg [0, 1, 2, 3, 4, 5, 6] ?_
 refine sv 23 (.string ⟨(Lib.itoa (-y) : List UInt8).toArray⟩) ?_
 simp only [p3, p4]
 refine sv 24 (.string ⟨(Lib.itoa ((Int.gcd (-x) (-y) : Int)) : List UInt8).toArray⟩) ?_
 simp only [p3, p4]
 refine se ?_
 refine ec 25 (r1_divmod (-y) ((Int.gcd (-x) (-y) : Int)) hy.neg (sz_gcd2 hx.neg hy.neg) hgp (by omega) _) ?_
 rintro e12 w12 ⟨rfl, g12⟩
 refine ⟨_, rfl, ?_⟩
 replace hB := hB.trans g12
 simp only [p3, p4]
 refine sv 22 (.tuple #[(.string ⟨(Lib.itoa ((-y) / (Int.gcd (-x) (-y) : Int)) : List UInt8).toArray⟩), (.string ⟨(Lib.itoa ((-y) % (Int.gcd (-x) (-y) : Int)) : List UInt8).toArray⟩)]) ?_
 simp only [p3, p4]
 refine sv 26 (.string ⟨(Lib.itoa ((-y) / (Int.gcd (-x) (-y) : Int)) : List UInt8).toArray⟩) ?_
 simp only [p3, p4]
 refine sv 27 (.string ⟨(Lib.itoa ((-y) % (Int.gcd (-x) (-y) : Int)) : List UInt8).toArray⟩) ?_
 simp only [p3, p4]
 refine sv 1 (.string ⟨(Lib.itoa ((-y) / (Int.gcd (-x) (-y) : Int)) : List UInt8).toArray⟩) ?_
 simp only [p3, p4]
 refine sq_nil ?_
 refine k11 _ _ ?_
 try clear k11 K11
 refine wp_seq_k (fun K13 k13 => ?_)
 refine wp_seq_k (fun K14 k14 => ?_)
 refine rg [0, 1] ?_
 refine sv 28 (.string ⟨(Lib.itoa ((-y) / (Int.gcd (-x) (-y) : Int)) : List UInt8).toArray⟩) ?_
 simp only [p3, p4]
 refine sw 29 (.bool (((Lib.itoa ((-y) / (Int.gcd (-x) (-y) : Int))) == ([49] : List UInt8)))) rfl (rv_seq 9 9 _ _ (Lib.itoa ((-y) / (Int.gcd (-x) (-y) : Int))) ([49]) rfl rfl rfl) ?_
 simp only [p3, p4]
 refine sq_nil ?_
 refine k14 _ _ ?_
 try clear k14 K14
 refine wp_cond_split (t := ((Lib.itoa ((-y) / (Int.gcd (-x) (-y) : Int))) == ([49] : List UInt8))) rfl (fun hb15 => ?_) (fun hb15 => ?_)
 ·refine wp_seq_k (fun K16 k16 => ?_)
  refine rg [0, 1] ?_
  refine sv 30 (.string ⟨(Lib.itoa ((-x) / (Int.gcd (-x) (-y) : Int)) : List UInt8).toArray⟩) ?_
  simp only [p3, p4]
  refine sv 4 (.string ⟨(Lib.itoa ((-x) / (Int.gcd (-x) (-y) : Int)) : List UInt8).toArray⟩) ?_
  simp only [p3, p4]
  refine sq_nil ?_
  refine k16 _ _ ?_
  try clear k16 K16
  refine wp_ret ?_
  simp only [Exit.then]
  refine bodyPost_ret (v := (.string ⟨(Lib.itoa ((-x) / (Int.gcd (-x) (-y) : Int)) : List UInt8).toArray⟩)) (ret_tmp rfl rfl) rfl ⟨?_, hB⟩
  exact (by rw [text_w h0 hb15]; rw [divInt_neg2])
 ·refine wp_skip ?_
  refine k13 _ _ ?_
  try clear k13 K13
  refine wp_seq_k (fun K17 k17 => ?_)
  refine rg [0, 1, 2, 3, 4] ?_
  refine sv 31 (.string ⟨(Lib.itoa ((-x) / (Int.gcd (-x) (-y) : Int)) : List UInt8).toArray⟩) ?_
  simp only [p3, p4]
  refine sw 32 (.string ⟨((Lib.itoa ((-x) / (Int.gcd (-x) (-y) : Int))) ++ ([47]) : List UInt8).toArray⟩) rfl (rv_cat 9 9 _ _ (Lib.itoa ((-x) / (Int.gcd (-x) (-y) : Int))) ([47]) rfl rfl rfl (by simp only [List.length_cons, List.length_nil]; omega)) ?_
  simp only [p3, p4]
  refine sv 33 (.string ⟨(Lib.itoa ((-y) / (Int.gcd (-x) (-y) : Int)) : List UInt8).toArray⟩) ?_
  simp only [p3, p4]
  refine sw 34 (.string ⟨(((Lib.itoa ((-x) / (Int.gcd (-x) (-y) : Int))) ++ ([47])) ++ (Lib.itoa ((-y) / (Int.gcd (-x) (-y) : Int))) : List UInt8).toArray⟩) rfl (rv_cat 9 9 _ _ ((Lib.itoa ((-x) / (Int.gcd (-x) (-y) : Int))) ++ ([47])) (Lib.itoa ((-y) / (Int.gcd (-x) (-y) : Int))) rfl rfl rfl (by simp only [List.length_append, List.length_cons, List.length_nil]; omega)) ?_
  simp only [p3, p4]
  refine sv 4 (.string ⟨(((Lib.itoa ((-x) / (Int.gcd (-x) (-y) : Int))) ++ ([47])) ++ (Lib.itoa ((-y) / (Int.gcd (-x) (-y) : Int))) : List UInt8).toArray⟩) ?_
  simp only [p3, p4]
  refine sq_nil ?_
  refine k17 _ _ ?_
  try clear k17 K17
  refine wp_ret ?_
  refine bodyPost_ret (v := (.string ⟨(((Lib.itoa ((-x) / (Int.gcd (-x) (-y) : Int))) ++ ([47])) ++ (Lib.itoa ((-y) / (Int.gcd (-x) (-y) : Int))) : List UInt8).toArray⟩)) (ret_tmp rfl rfl) rfl ⟨?_, hB⟩
  exact (by rw [text_f h0 hb15]; rw [divInt_neg2])

end Go.Proofs.YtloocadjbpgldaaGreatDoor
