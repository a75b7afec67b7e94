/- Printed by a program of the prover's: the walks through sums of integers. -/
import Derived.Test.YtgopfikljndklaaDoorInt5
namespace Go.Proofs.YtgopfikljndklaaDoor
open Go.RowKit

set_option maxRecDepth 100000 in
set_option maxHeartbeats 1000000 in
theorem add_same {w : World} {s : Bool} {a b : Int} {ao bo : Option Addr} {la lb ca cb : Nat} (ha : Mag w ao la ca a) (hb : Mag w bo lb cb b) (hla : la ≤ 1000000) (hlb : lb ≤ 1000000) :
    Calls Tryd.prog 65 #[(.agg #[(.bool (s)), (.slice ao la ca)]), (.agg #[(.bool (s)), (.slice bo lb cb)])] w fun e w' => (∃ go n cap, e = .returned (.agg #[.bool (s && decide (0 < n)), .slice go n cap]) ∧ Mag w' go n cap (a + b)) ∧ Gr w w' := by
 have hss : (s == s) = true := by simp
 go_enter Tryd.func65, Tryd.ntmps65
 have hB := Gr.refl w
 refine wp_seq_k (fun K1 k1 => ?_)
 refine rg [0, 1, 2] ?_
 refine se ?_
 refine eb 29 #[(.bool (s)), (.slice ao la ca)] 2 hB fun b2 w2 g2 L2 o2 q2 hB => ?_
 simp only [p3, p4]
 refine se ?_
 refine eb 29 #[(.bool (s)), (.slice bo lb cb)] 3 hB fun b3 w3 g3 L3 o3 q3 hB => ?_
 have ne2_3 := L2.ne o3
 simp only [p3, p4]
 refine se ?_
 refine ea 29 #[(.bool false), (.slice none 0 0)] 4 hB fun b4 w4 g4 L4 o4 q4 hB => ?_
 replace L2 := L2.gr g3
 have ne2_4 := L2.ne o4
 have ne3_4 := L3.ne o4
 simp only [p3, p4]
 refine sq_nil ?_
 refine k1 _ _ ?_
 try clear k1 K1
 refine wp_seq_k (fun K5 k5 => ?_)
 refine wp_block ?_
 refine wp_seq_k (fun K6 k6 => ?_)
 refine rg [0, 1, 2, 3, 4, 5] ?_
 refine sv 6 (.pointer (some ⟨b2, 0, none⟩)) ?_
 simp only [p3, p4]
 replace L2 := L2.gr g4
 refine sw 7 (.bool (s)) rfl (rk 4 0 L2) ?_
 simp only [p3, p4]
 refine sv 8 (.pointer (some ⟨b3, 0, none⟩)) ?_
 simp only [p3, p4]
 replace L3 := L3.gr g4
 refine sw 9 (.bool (s)) rfl (rk 4 0 L3) ?_
 simp only [p3, p4]
 refine sw 10 (.bool true) rfl (RunV.bool (x := (s == s)) (rvk (by kernel_rfl)) hss) ?_
 simp only [p3, p4]
 refine sv 5 (.bool true) ?_
 simp only [p3, p4]
 refine sq_nil ?_
 refine k6 _ _ ?_
 try clear k6 K6
 refine wp_cond_true rfl ?_
 refine wp_seq_k (fun K7 k7 => ?_)
 have gd16 := Gr.drew w4
 replace hB := hB.trans gd16
 replace L2 := L2.gr gd16
 replace L3 := L3.gr gd16
 refine wp_region_ord (fun w' => Lc w' b2 #[(.bool (s)), (.slice ao la ca)] 29 ∧ Lc w' b3 #[(.bool (s)), (.slice bo lb cb)] 29) [(true, 0), (true, 1), (true, 2), (true, 3), (true, 4), (true, 5), (false, 6), (false, 7), (false, 8)] (by kernel_rfl) (by kernel_rfl) (by kernel_rfl) (by decide) (fun _ _ _ _ _ h => h) ⟨L2, L3⟩ ?_
 refine ov 11 (.pointer (some ⟨b2, 0, none⟩)) ?_
 simp only [p3, p4]
 refine ow 12 (.bool (s)) rfl (fun w' hS => (rk 4 0 hS.1)) ?_
 simp only [p3, p4]
 refine ov 13 (.pointer (some ⟨b2, 1, none⟩)) ?_
 simp only [p3, p4]
 refine ow 14 (.slice ao la ca) rfl (fun w' hS => (rk 27 1 hS.1)) ?_
 simp only [p3, p4]
 refine ov 15 (.pointer (some ⟨b3, 1, none⟩)) ?_
 simp only [p3, p4]
 refine ow 16 (.slice bo lb cb) rfl (fun w' hS => (rk 27 1 hS.2)) ?_
 simp only [p3, p4]
 refine oe ?_
 have kq19 := g2.kp.trans (g3.kp.trans (g4.kp.trans gd16.kp))
 replace ha := ha.kp kq19
 replace hb := hb.kp kq19
 refine ec 17 (plus_m ha hb (by omega) (by omega)) ?_
 rintro e18 w18 ⟨⟨go18, n18, rfl, h18⟩, g18⟩
 refine ⟨_, rfl, ?_⟩
 replace hB := hB.trans g18
 replace L2 := L2.gr g18
 replace L3 := L3.gr g18
 refine ⟨⟨L2, L3⟩, ?_⟩
 simp only [p3, p4]
 refine oe ?_
 refine ec 18 (signed_m (neg := s) h18) ?_
 rintro e21 w21 ⟨⟨k21, rfl, h21⟩, g21⟩
 refine ⟨_, rfl, ?_⟩
 replace hB := hB.trans g21
 replace L2 := L2.gr g21
 replace L3 := L3.gr g21
 refine ⟨⟨L2, L3⟩, ?_⟩
 simp only [p3, p4]
 refine oe ?_
 replace L4 := L4.gr (gd16.trans (g18.trans g21))
 refine es 29 0 (.agg #[(.bool (s && decide (0 < k21))), (.slice go18 k21 n18)]) [(.bool (s && decide (0 < k21))), (.slice go18 k21 n18)] #[(.bool (s && decide (0 < k21))), (.slice go18 k21 n18)] L4 hB q4 ⟨rfl, rfl, trivial⟩ fun w23 st23 kp23 L4 hB => ?_
 replace L2 := st23.lc L2 ne2_4
 replace L3 := st23.lc L3 ne3_4
 refine ⟨⟨L2, L3⟩, ?_⟩
 refine ord_nil ?_
 refine k7 _ _ ?_
 try clear k7 K7
 refine wp_ret ?_
 simp only [Exit.then, Exit.inBlock]
 refine bodyPost_ret (v := (.agg #[(.bool (s && decide (0 < k21))), (.slice go18 k21 n18)])) (ret_cell _ _ _ rfl rfl L4 (by kernel_rfl)) rfl ⟨?_, hB⟩
 replace h21 := h21.kp kp23
 exact ⟨_, _, _, rfl, h21⟩

set_option maxRecDepth 100000 in
set_option maxHeartbeats 1000000 in
theorem add_diff_ge {w : World} {s : Bool} {a b : Int} {ao bo : Option Addr} {la lb ca cb : Nat} (ha : Mag w ao la ca a) (hb : Mag w bo lb cb b) (hla : la ≤ 1000000) (hlb : lb ≤ 1000000) (hle : b ≤ a) :
    Calls Tryd.prog 65 #[(.agg #[(.bool (s)), (.slice ao la ca)]), (.agg #[(.bool (!s)), (.slice bo lb cb)])] w fun e w' => (∃ go n cap, e = .returned (.agg #[.bool (s && decide (0 < n)), .slice go n cap]) ∧ Mag w' go n cap (a - b)) ∧ Gr w w' := by
 have hss : (s == !s) = false := by simp
 have hor : decide ((0 : Int) ≤ sgn (a - b)) = true := by simp only [decide_eq_true_eq]; exact sgn_nonneg (by omega)
 go_enter Tryd.func65, Tryd.ntmps65
 have hB := Gr.refl w
 refine wp_seq_k (fun K1 k1 => ?_)
 refine rg [0, 1, 2] ?_
 refine se ?_
 refine eb 29 #[(.bool (s)), (.slice ao la ca)] 2 hB fun b2 w2 g2 L2 o2 q2 hB => ?_
 simp only [p3, p4]
 refine se ?_
 refine eb 29 #[(.bool (!s)), (.slice bo lb cb)] 3 hB fun b3 w3 g3 L3 o3 q3 hB => ?_
 have ne2_3 := L2.ne o3
 simp only [p3, p4]
 refine se ?_
 refine ea 29 #[(.bool false), (.slice none 0 0)] 4 hB fun b4 w4 g4 L4 o4 q4 hB => ?_
 replace L2 := L2.gr g3
 have ne2_4 := L2.ne o4
 have ne3_4 := L3.ne o4
 simp only [p3, p4]
 refine sq_nil ?_
 refine k1 _ _ ?_
 try clear k1 K1
 refine wp_seq_k (fun K5 k5 => ?_)
 refine wp_block ?_
 refine wp_seq_k (fun K6 k6 => ?_)
 refine rg [0, 1, 2, 3, 4, 5] ?_
 refine sv 6 (.pointer (some ⟨b2, 0, none⟩)) ?_
 simp only [p3, p4]
 replace L2 := L2.gr g4
 refine sw 7 (.bool (s)) rfl (rk 4 0 L2) ?_
 simp only [p3, p4]
 refine sv 8 (.pointer (some ⟨b3, 0, none⟩)) ?_
 simp only [p3, p4]
 replace L3 := L3.gr g4
 refine sw 9 (.bool (!s)) rfl (rk 4 0 L3) ?_
 simp only [p3, p4]
 refine sw 10 (.bool false) rfl (RunV.bool (x := (s == !s)) (rvk (by kernel_rfl)) hss) ?_
 simp only [p3, p4]
 refine sv 5 (.bool false) ?_
 simp only [p3, p4]
 refine sq_nil ?_
 refine k6 _ _ ?_
 try clear k6 K6
 refine wp_cond_false rfl ?_
 refine wp_seq_k (fun K7 k7 => ?_)
 refine rg [0, 1, 2, 3, 4, 5, 6] ?_
 refine sv 20 (.pointer (some ⟨b2, 1, none⟩)) ?_
 simp only [p3, p4]
 refine sw 21 (.slice ao la ca) rfl (rk 27 1 L2) ?_
 simp only [p3, p4]
 refine sv 22 (.pointer (some ⟨b3, 1, none⟩)) ?_
 simp only [p3, p4]
 refine sw 23 (.slice bo lb cb) rfl (rk 27 1 L3) ?_
 simp only [p3, p4]
 refine se ?_
 have kq9 := g2.kp.trans (g3.kp.trans g4.kp)
 replace ha := ha.kp kq9
 replace hb := hb.kp kq9
 refine ec 24 (order_m ha hb (by omega) (by omega)) ?_
 rintro e8 w8 ⟨rfl, g8⟩
 refine ⟨_, rfl, ?_⟩
 replace hB := hB.trans g8
 simp only [p3, p4]
 refine sw 25 (.bool true) rfl (RunV.bool (x := decide ((0 : Int) ≤ sgn (a - b))) (rvk (by kernel_rfl)) hor) ?_
 simp only [p3, p4]
 refine sv 19 (.bool true) ?_
 simp only [p3, p4]
 refine sq_nil ?_
 refine k7 _ _ ?_
 try clear k7 K7
 refine wp_cond_true rfl ?_
 refine wp_seq_k (fun K10 k10 => ?_)
 have gd19 := Gr.drew w8
 replace hB := hB.trans gd19
 replace L2 := L2.gr (g8.trans gd19)
 replace L3 := L3.gr (g8.trans gd19)
 refine wp_region_ord (fun w' => Lc w' b2 #[(.bool (s)), (.slice ao la ca)] 29 ∧ Lc w' b3 #[(.bool (!s)), (.slice bo lb cb)] 29) [(true, 0), (true, 1), (true, 2), (true, 3), (true, 4), (true, 5), (false, 6), (false, 7), (false, 8)] (by kernel_rfl) (by kernel_rfl) (by kernel_rfl) (by decide) (fun _ _ _ _ _ h => h) ⟨L2, L3⟩ ?_
 refine ov 26 (.pointer (some ⟨b2, 0, none⟩)) ?_
 simp only [p3, p4]
 refine ow 27 (.bool (s)) rfl (fun w' hS => (rk 4 0 hS.1)) ?_
 simp only [p3, p4]
 refine ov 28 (.pointer (some ⟨b2, 1, none⟩)) ?_
 simp only [p3, p4]
 refine ow 29 (.slice ao la ca) rfl (fun w' hS => (rk 27 1 hS.1)) ?_
 simp only [p3, p4]
 refine ov 30 (.pointer (some ⟨b3, 1, none⟩)) ?_
 simp only [p3, p4]
 refine ow 31 (.slice bo lb cb) rfl (fun w' hS => (rk 27 1 hS.2)) ?_
 simp only [p3, p4]
 refine oe ?_
 have kq22 := g8.kp.trans gd19.kp
 replace ha := ha.kp kq22
 replace hb := hb.kp kq22
 refine ec 32 (minus_m ha hb (by omega) (by omega) (by omega)) ?_
 rintro e21 w21 ⟨⟨go21, n21, rfl, h21⟩, g21⟩
 refine ⟨_, rfl, ?_⟩
 replace hB := hB.trans g21
 replace L2 := L2.gr g21
 replace L3 := L3.gr g21
 refine ⟨⟨L2, L3⟩, ?_⟩
 simp only [p3, p4]
 refine oe ?_
 refine ec 33 (signed_m (neg := s) h21) ?_
 rintro e24 w24 ⟨⟨k24, rfl, h24⟩, g24⟩
 refine ⟨_, rfl, ?_⟩
 replace hB := hB.trans g24
 replace L2 := L2.gr g24
 replace L3 := L3.gr g24
 refine ⟨⟨L2, L3⟩, ?_⟩
 simp only [p3, p4]
 refine oe ?_
 replace L4 := L4.gr (g8.trans (gd19.trans (g21.trans g24)))
 refine es 29 0 (.agg #[(.bool (s && decide (0 < k24))), (.slice go21 k24 n21)]) [(.bool (s && decide (0 < k24))), (.slice go21 k24 n21)] #[(.bool (s && decide (0 < k24))), (.slice go21 k24 n21)] L4 hB q4 ⟨rfl, rfl, trivial⟩ fun w26 st26 kp26 L4 hB => ?_
 replace L2 := st26.lc L2 ne2_4
 replace L3 := st26.lc L3 ne3_4
 refine ⟨⟨L2, L3⟩, ?_⟩
 refine ord_nil ?_
 refine k10 _ _ ?_
 try clear k10 K10
 refine wp_ret ?_
 simp only [Exit.then, Exit.inBlock]
 refine bodyPost_ret (v := (.agg #[(.bool (s && decide (0 < k24))), (.slice go21 k24 n21)])) (ret_cell _ _ _ rfl rfl L4 (by kernel_rfl)) rfl ⟨?_, hB⟩
 replace h24 := h24.kp kp26
 exact ⟨_, _, _, rfl, h24⟩

set_option maxRecDepth 100000 in
set_option maxHeartbeats 1000000 in
theorem add_diff_lt {w : World} {s : Bool} {a b : Int} {ao bo : Option Addr} {la lb ca cb : Nat} (ha : Mag w ao la ca a) (hb : Mag w bo lb cb b) (hla : la ≤ 1000000) (hlb : lb ≤ 1000000) (hle : a < b) :
    Calls Tryd.prog 65 #[(.agg #[(.bool (s)), (.slice ao la ca)]), (.agg #[(.bool (!s)), (.slice bo lb cb)])] w fun e w' => (∃ go n cap, e = .returned (.agg #[.bool (!s && decide (0 < n)), .slice go n cap]) ∧ Mag w' go n cap (b - a)) ∧ Gr w w' := by
 have hss : (s == !s) = false := by simp
 have hor : decide ((0 : Int) ≤ sgn (a - b)) = false := by rw [sgn_neg (by omega)]; rfl
 go_enter Tryd.func65, Tryd.ntmps65
 have hB := Gr.refl w
 refine wp_seq_k (fun K1 k1 => ?_)
 refine rg [0, 1, 2] ?_
 refine se ?_
 refine eb 29 #[(.bool (s)), (.slice ao la ca)] 2 hB fun b2 w2 g2 L2 o2 q2 hB => ?_
 simp only [p3, p4]
 refine se ?_
 refine eb 29 #[(.bool (!s)), (.slice bo lb cb)] 3 hB fun b3 w3 g3 L3 o3 q3 hB => ?_
 have ne2_3 := L2.ne o3
 simp only [p3, p4]
 refine se ?_
 refine ea 29 #[(.bool false), (.slice none 0 0)] 4 hB fun b4 w4 g4 L4 o4 q4 hB => ?_
 replace L2 := L2.gr g3
 have ne2_4 := L2.ne o4
 have ne3_4 := L3.ne o4
 simp only [p3, p4]
 refine sq_nil ?_
 refine k1 _ _ ?_
 try clear k1 K1
 refine wp_seq_k (fun K5 k5 => ?_)
 refine wp_block ?_
 refine wp_seq_k (fun K6 k6 => ?_)
 refine rg [0, 1, 2, 3, 4, 5] ?_
 refine sv 6 (.pointer (some ⟨b2, 0, none⟩)) ?_
 simp only [p3, p4]
 replace L2 := L2.gr g4
 refine sw 7 (.bool (s)) rfl (rk 4 0 L2) ?_
 simp only [p3, p4]
 refine sv 8 (.pointer (some ⟨b3, 0, none⟩)) ?_
 simp only [p3, p4]
 replace L3 := L3.gr g4
 refine sw 9 (.bool (!s)) rfl (rk 4 0 L3) ?_
 simp only [p3, p4]
 refine sw 10 (.bool false) rfl (RunV.bool (x := (s == !s)) (rvk (by kernel_rfl)) hss) ?_
 simp only [p3, p4]
 refine sv 5 (.bool false) ?_
 simp only [p3, p4]
 refine sq_nil ?_
 refine k6 _ _ ?_
 try clear k6 K6
 refine wp_cond_false rfl ?_
 refine wp_seq_k (fun K7 k7 => ?_)
 refine rg [0, 1, 2, 3, 4, 5, 6] ?_
 refine sv 20 (.pointer (some ⟨b2, 1, none⟩)) ?_
 simp only [p3, p4]
 refine sw 21 (.slice ao la ca) rfl (rk 27 1 L2) ?_
 simp only [p3, p4]
 refine sv 22 (.pointer (some ⟨b3, 1, none⟩)) ?_
 simp only [p3, p4]
 refine sw 23 (.slice bo lb cb) rfl (rk 27 1 L3) ?_
 simp only [p3, p4]
 refine se ?_
 have kq9 := g2.kp.trans (g3.kp.trans g4.kp)
 replace ha := ha.kp kq9
 replace hb := hb.kp kq9
 refine ec 24 (order_m ha hb (by omega) (by omega)) ?_
 rintro e8 w8 ⟨rfl, g8⟩
 refine ⟨_, rfl, ?_⟩
 replace hB := hB.trans g8
 simp only [p3, p4]
 refine sw 25 (.bool false) rfl (RunV.bool (x := decide ((0 : Int) ≤ sgn (a - b))) (rvk (by kernel_rfl)) hor) ?_
 simp only [p3, p4]
 refine sv 19 (.bool false) ?_
 simp only [p3, p4]
 refine sq_nil ?_
 refine k7 _ _ ?_
 try clear k7 K7
 refine wp_cond_false rfl ?_
 refine wp_skip ?_
 refine k5 _ _ ?_
 try clear k5 K5
 refine wp_seq_k (fun K10 k10 => ?_)
 have gd19 := Gr.drew w8
 replace hB := hB.trans gd19
 replace L2 := L2.gr (g8.trans gd19)
 replace L3 := L3.gr (g8.trans gd19)
 refine wp_region_ord (fun w' => Lc w' b2 #[(.bool (s)), (.slice ao la ca)] 29 ∧ Lc w' b3 #[(.bool (!s)), (.slice bo lb cb)] 29) [(true, 0), (true, 1), (true, 2), (true, 3), (true, 4), (true, 5), (false, 6), (false, 7), (false, 8)] (by kernel_rfl) (by kernel_rfl) (by kernel_rfl) (by decide) (fun _ _ _ _ _ h => h) ⟨L2, L3⟩ ?_
 refine ov 34 (.pointer (some ⟨b3, 0, none⟩)) ?_
 simp only [p3, p4]
 refine ow 35 (.bool (!s)) rfl (fun w' hS => (rk 4 0 hS.2)) ?_
 simp only [p3, p4]
 refine ov 36 (.pointer (some ⟨b3, 1, none⟩)) ?_
 simp only [p3, p4]
 refine ow 37 (.slice bo lb cb) rfl (fun w' hS => (rk 27 1 hS.2)) ?_
 simp only [p3, p4]
 refine ov 38 (.pointer (some ⟨b2, 1, none⟩)) ?_
 simp only [p3, p4]
 refine ow 39 (.slice ao la ca) rfl (fun w' hS => (rk 27 1 hS.1)) ?_
 simp only [p3, p4]
 refine oe ?_
 have kq22 := g8.kp.trans gd19.kp
 replace hb := hb.kp kq22
 replace ha := ha.kp kq22
 refine ec 40 (minus_m hb ha (by omega) (by omega) (by omega)) ?_
 rintro e21 w21 ⟨⟨go21, n21, rfl, h21⟩, g21⟩
 refine ⟨_, rfl, ?_⟩
 replace hB := hB.trans g21
 replace L2 := L2.gr g21
 replace L3 := L3.gr g21
 refine ⟨⟨L2, L3⟩, ?_⟩
 simp only [p3, p4]
 refine oe ?_
 refine ec 41 (signed_m (neg := !s) h21) ?_
 rintro e24 w24 ⟨⟨k24, rfl, h24⟩, g24⟩
 refine ⟨_, rfl, ?_⟩
 replace hB := hB.trans g24
 replace L2 := L2.gr g24
 replace L3 := L3.gr g24
 refine ⟨⟨L2, L3⟩, ?_⟩
 simp only [p3, p4]
 refine oe ?_
 replace L4 := L4.gr (g8.trans (gd19.trans (g21.trans g24)))
 refine es 29 0 (.agg #[(.bool (!s && decide (0 < k24))), (.slice go21 k24 n21)]) [(.bool (!s && decide (0 < k24))), (.slice go21 k24 n21)] #[(.bool (!s && decide (0 < k24))), (.slice go21 k24 n21)] L4 hB q4 ⟨rfl, rfl, trivial⟩ fun w26 st26 kp26 L4 hB => ?_
 replace L2 := st26.lc L2 ne2_4
 replace L3 := st26.lc L3 ne3_4
 refine ⟨⟨L2, L3⟩, ?_⟩
 refine ord_nil ?_
 refine k10 _ _ ?_
 try clear k10 K10
 refine wp_ret ?_
 refine bodyPost_ret (v := (.agg #[(.bool (!s && decide (0 < k24))), (.slice go21 k24 n21)])) (ret_cell _ _ _ rfl rfl L4 (by kernel_rfl)) rfl ⟨?_, hB⟩
 replace h24 := h24.kp kp26
 exact ⟨_, _, _, rfl, h24⟩

end Go.Proofs.YtgopfikljndklaaDoor
