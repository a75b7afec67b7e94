/- Printed by a program of the prover's: the texts of rationals and vectors. -/
import Derived.Test.YtgopfikljndklaaDoorNbr
namespace Go.Proofs.YtgopfikljndklaaDoor
open Go.RowKit

set_option maxRecDepth 100000 in
set_option maxHeartbeats 1000000 in
theorem number_w {k : Nat} {u0 u1 u2 u3 : Value} {a : Rat} {w : World} (ha : IsRat w k u0 u1 u2 u3 a) (_hk : k ≤ 800000) (ht : Tab w) (hw : a.den = 1) :
    Calls Tryd.prog 38 #[(.agg #[u0, u1, u2, u3])] w fun e w' => e = .returned (.string ⟨(ratL a).toArray⟩) ∧ Gr w w' := by
 go_enter Tryd.func38, Tryd.ntmps38
 have hB := Gr.refl w
 refine wp_seq_k (fun K1 k1 => ?_)
 refine rg [0, 1] ?_
 refine se ?_
 refine eb 31 #[u0, u1, u2, u3] 1 hB fun b2 w2 g2 L2 o2 q2 hB => ?_
 simp only [p3, p4]
 refine sv 2 (.string ⟨([] : List UInt8).toArray⟩) ?_
 simp only [p3, p4]
 refine sq_nil ?_
 refine k1 _ _ ?_
 try clear k1 K1
 refine wp_seq_k (fun K3 k3 => ?_)
 refine wp_seq_k (fun K4 k4 => ?_)
 refine rg [0, 1] ?_
 refine sw 3 (.agg #[u0, u1, u2, u3]) rfl (rl 31 0 [u0, u1, u2, u3] L2) ?_
 simp only [p3, p4]
 refine se ?_
 replace ha := ha.kp g2.kp
 refine ec 4 (whole_t ha (by omega) hw) ?_
 rintro e5 w5 ⟨rfl, g5⟩
 refine ⟨_, rfl, ?_⟩
 replace hB := hB.trans g5
 simp only [p3, p4]
 refine sq_nil ?_
 refine k4 _ _ ?_
 try clear k4 K4
 refine wp_cond_true rfl ?_
 refine wp_seq_k (fun K6 k6 => ?_)
 refine rg [0, 1, 2, 3] ?_
 refine sv 5 (.pointer (some ⟨b2, 0, none⟩)) ?_
 simp only [p3, p4]
 replace L2 := L2.gr g5
 refine sw 6 (.agg #[u0, u1]) rfl (rl 29 0 [u0, u1] L2) ?_
 simp only [p3, p4]
 refine se ?_
 replace ha := ha.kp g5.kp
 refine ec 7 (text_i ha.num (by omega) (ht.gr hB)) ?_
 rintro e7 w7 ⟨rfl, g7⟩
 refine ⟨_, rfl, ?_⟩
 replace hB := hB.trans g7
 simp only [p3, p4]
 refine sv 2 (.string ⟨(Lib.itoa (a.num) : List UInt8).toArray⟩) ?_
 simp only [p3, p4]
 refine sq_nil ?_
 refine k6 _ _ ?_
 try clear k6 K6
 refine wp_ret ?_
 simp only [Exit.then]
 refine bodyPost_ret (v := (.string ⟨(Lib.itoa (a.num) : List UInt8).toArray⟩)) (ret_tmp rfl rfl) rfl ⟨?_, hB⟩
 exact (by rw [ratL_w hw])

set_option maxRecDepth 100000 in
set_option maxHeartbeats 1000000 in
theorem number_d {k : Nat} {u0 u1 u2 u3 : Value} {a : Rat} {w : World} (ha : IsRat w k u0 u1 u2 u3 a) (_hk : k ≤ 800000) (ht : Tab w) (hd : IsInt w k u2 u3 (a.den : Int)) (hw : ¬ a.den = 1) :
    Calls Tryd.prog 38 #[(.agg #[u0, u1, u2, u3])] w fun e w' => e = .returned (.string ⟨(ratL a).toArray⟩) ∧ Gr w w' := by
 have hl1 := itoa_len ha.num.sz
 have hl2 := itoa_len hd.sz
 go_enter Tryd.func38, Tryd.ntmps38
 have hB := Gr.refl w
 refine wp_seq_k (fun K1 k1 => ?_)
 refine rg [0, 1] ?_
 refine se ?_
 refine eb 31 #[u0, u1, u2, u3] 1 hB fun b2 w2 g2 L2 o2 q2 hB => ?_
 simp only [p3, p4]
 refine sv 2 (.string ⟨([] : List UInt8).toArray⟩) ?_
 simp only [p3, p4]
 refine sq_nil ?_
 refine k1 _ _ ?_
 try clear k1 K1
 refine wp_seq_k (fun K3 k3 => ?_)
 refine wp_seq_k (fun K4 k4 => ?_)
 refine rg [0, 1] ?_
 refine sw 3 (.agg #[u0, u1, u2, u3]) rfl (rl 31 0 [u0, u1, u2, u3] L2) ?_
 simp only [p3, p4]
 refine se ?_
 replace ha := ha.kp g2.kp
 refine ec 4 (whole_f ha (by omega) hw) ?_
 rintro e5 w5 ⟨rfl, g5⟩
 refine ⟨_, rfl, ?_⟩
 replace hB := hB.trans g5
 simp only [p3, p4]
 refine sq_nil ?_
 refine k4 _ _ ?_
 try clear k4 K4
 refine wp_cond_false rfl ?_
 refine wp_skip ?_
 refine k3 _ _ ?_
 try clear k3 K3
 refine wp_seq_k (fun K6 k6 => ?_)
 have gd14 := Gr.drew w5
 replace hB := hB.trans gd14
 replace L2 := L2.gr (g5.trans gd14)
 refine wp_region_ord (fun w' => Lc w' b2 #[u0, u1, u2, u3] 31) [(true, 0), (true, 1), (true, 4), (true, 5), (false, 2), (true, 3), (false, 6), (true, 7), (true, 8)] (by kernel_rfl) (by kernel_rfl) (by kernel_rfl) (by decide) (fun _ _ _ _ _ h => h) L2 ?_
 refine ov 8 (.pointer (some ⟨b2, 0, none⟩)) ?_
 simp only [p3, p4]
 refine ow 9 (.agg #[u0, u1]) rfl (fun w' hS => (rl 29 0 [u0, u1] hS)) ?_
 simp only [p3, p4]
 refine ov 12 (.pointer (some ⟨b2, 2, none⟩)) ?_
 simp only [p3, p4]
 refine ow 13 (.agg #[u2, u3]) rfl (fun w' hS => (rl 29 2 [u2, u3] hS)) ?_
 simp only [p3, p4]
 refine oe ?_
 have kq17 := g5.kp.trans gd14.kp
 replace ha := ha.kp kq17
 refine ec 10 (text_i ha.num (by omega) (ht.gr hB)) ?_
 rintro e16 w16 ⟨rfl, g16⟩
 refine ⟨_, rfl, ?_⟩
 replace hB := hB.trans g16
 replace L2 := L2.gr g16
 refine ⟨L2, ?_⟩
 simp only [p3, p4]
 refine ow 11 (.string ⟨((Lib.itoa (a.num)) ++ ([47]) : List UInt8).toArray⟩) rfl (fun w' hS => (rv_cat 9 9 _ _ (Lib.itoa (a.num)) ([47]) rfl rfl rfl (by simp only [List.length_cons, List.length_nil]; omega))) ?_
 simp only [p3, p4]
 refine oe ?_
 have kq20 := g2.kp.trans (g5.kp.trans (gd14.kp.trans g16.kp))
 replace hd := hd.kp kq20
 refine ec 14 (text_i hd (by omega) (ht.gr hB)) ?_
 rintro e19 w19 ⟨rfl, g19⟩
 refine ⟨_, rfl, ?_⟩
 replace hB := hB.trans g19
 replace L2 := L2.gr g19
 refine ⟨L2, ?_⟩
 simp only [p3, p4]
 refine ow 15 (.string ⟨(((Lib.itoa (a.num)) ++ ([47])) ++ (Lib.itoa ((a.den : Int))) : List UInt8).toArray⟩) rfl (fun w' hS => (rv_cat 9 9 _ _ ((Lib.itoa (a.num)) ++ ([47])) (Lib.itoa ((a.den : Int))) rfl rfl rfl (by simp only [List.length_append, List.length_cons, List.length_nil]; omega))) ?_
 simp only [p3, p4]
 refine ov 2 (.string ⟨(((Lib.itoa (a.num)) ++ ([47])) ++ (Lib.itoa ((a.den : Int))) : List UInt8).toArray⟩) ?_
 simp only [p3, p4]
 refine ord_nil ?_
 refine k6 _ _ ?_
 try clear k6 K6
 refine wp_ret ?_
 refine bodyPost_ret (v := (.string ⟨(((Lib.itoa (a.num)) ++ ([47])) ++ (Lib.itoa ((a.den : Int))) : List UInt8).toArray⟩)) (ret_tmp rfl rfl) rfl ⟨?_, hB⟩
 exact (by rw [ratL_f hw])

theorem number_r {k : Nat} {u0 u1 u2 u3 : Value} {a : Rat} {w : World} (ha : IsRat w k u0 u1 u2 u3 a) (hk : k ≤ 800000) (ht : Tab w) :
    Calls Tryd.prog 38 #[.agg #[u0, u1, u2, u3]] w fun e w' => e = .returned (.string ⟨(ratL a).toArray⟩) ∧ Gr w w' := by
  by_cases hw : a.den = 1
  · exact number_w ha hk ht hw
  · obtain ⟨D, h2, h3⟩ := ha.den
    rcases h3 with h3 | ⟨_, h4⟩
    · subst h3; exact number_d ha hk ht h2 hw
    · exact absurd h4 hw

set_option maxRecDepth 100000 in
set_option maxHeartbeats 1000000 in
theorem vpoint_v {k : Nat} {uaa0 uaa1 uaa2 uaa3 uab0 uab1 uab2 uab3 uac0 uac1 uac2 uac3 : Value} {a1 a2 a3 : Rat} {w : World} (hua1 : IsRat w k uaa0 uaa1 uaa2 uaa3 a1) (hua2 : IsRat w k uab0 uab1 uab2 uab3 a2) (hua3 : IsRat w k uac0 uac1 uac2 uac3 a3) (_hk : k ≤ 25000) (ht : Tab w) :
    Calls Tryd.prog 41 #[(.agg #[uaa0, uaa1, uaa2, uaa3, uab0, uab1, uab2, uab3, uac0, uac1, uac2, uac3])] w fun e w' => e = .returned (.agg #[.string ⟨(ratL (a1)).toArray⟩, .string ⟨(ratL (a2)).toArray⟩, .string ⟨(ratL (a3)).toArray⟩]) ∧ Gr w w' := by
 go_enter Tryd.func41, Tryd.ntmps41
 have hB := Gr.refl w
 refine wp_seq_k (fun K1 k1 => ?_)
 refine rg [0, 1] ?_
 refine se ?_
 refine eb 33 #[uaa0, uaa1, uaa2, uaa3, uab0, uab1, uab2, uab3, uac0, uac1, uac2, uac3] 1 hB fun b2 w2 g2 L2 o2 q2 hB => ?_
 simp only [p3, p4]
 refine se ?_
 refine ea 85 #[(.string ⟨([] : List UInt8).toArray⟩), (.string ⟨([] : List UInt8).toArray⟩), (.string ⟨([] : List UInt8).toArray⟩)] 2 hB fun b3 w3 g3 L3 o3 q3 hB => ?_
 simp only [p3, p4]
 refine sq_nil ?_
 refine k1 _ _ ?_
 try clear k1 K1
 refine wp_seq_k (fun K4 k4 => ?_)
 refine rg [0] ?_
 refine se ?_
 refine ea 85 #[(.string ⟨([] : List UInt8).toArray⟩), (.string ⟨([] : List UInt8).toArray⟩), (.string ⟨([] : List UInt8).toArray⟩)] 3 hB fun b5 w5 g5 L5 o5 q5 hB => ?_
 replace L2 := L2.gr g3
 have ne3_5 := L3.ne o5
 simp only [p3, p4]
 refine sq_nil ?_
 refine k4 _ _ ?_
 try clear k4 K4
 refine wp_seq_k (fun K6 k6 => ?_)
 refine wp_seq_k (fun K7 k7 => ?_)
 refine rg [0, 1] ?_
 replace L2 := L2.gr g5
 refine sw 6 (.agg #[uaa0, uaa1, uaa2, uaa3, uab0, uab1, uab2, uab3, uac0, uac1, uac2, uac3]) rfl (rl 33 0 [uaa0, uaa1, uaa2, uaa3, uab0, uab1, uab2, uab3, uac0, uac1, uac2, uac3] L2) ?_
 simp only [p3, p4]
 refine sv 7 (.int .i64 0) ?_
 simp only [p3, p4]
 refine sq_nil ?_
 refine k7 _ _ ?_
 try clear k7 K7
 refine wp_block ?_
 refine wp_loop_rounds 4 ?_
 show Code.wp _ _ _ _ _
 refine wp_seq_k (fun K8 k8 => ?_)
 refine rg [0] ?_
 refine sv 8 (.bool true) ?_
 simp only [p3, p4]
 refine sq_nil ?_
 refine k8 _ _ ?_
 try clear k8 K8
 refine wp_seq_k (fun K9 k9 => ?_)
 refine wp_cond_true rfl ?_
 refine wp_skip ?_
 refine k9 _ _ ?_
 try clear k9 K9
 refine wp_seq_k (fun K10 k10 => ?_)
 refine wp_block ?_
 refine wp_seq_k (fun K11 k11 => ?_)
 refine rg [0, 1, 2, 3, 4] ?_
 refine sv 9 (.int .i64 0) ?_
 simp only [p3, p4]
 refine sv 10 (.agg #[uaa0, uaa1, uaa2, uaa3]) ?_
 simp only [p3, p4]
 refine se ?_
 refine ea 31 #[(.bool false), (.slice none 0 0), (.bool false), (.slice none 0 0)] 5 hB fun b12 w12 g12 L12 o12 q12 hB => ?_
 replace L3 := L3.gr g5
 have ne3_12 := L3.ne o12
 have ne5_12 := L5.ne o12
 simp only [p3, p4]
 refine sv 4 (.int .i64 0) ?_
 simp only [p3, p4]
 refine se ?_
 refine es 31 0 (.agg #[uaa0, uaa1, uaa2, uaa3]) [uaa0, uaa1, uaa2, uaa3] #[uaa0, uaa1, uaa2, uaa3] L12 hB q12 ⟨hua1.one0, hua1.one1, hua1.one2, hua1.one3, trivial⟩ fun w13 st13 kp13 L12 hB => ?_
 refine sq_nil ?_
 refine k11 _ _ ?_
 try clear k11 K11
 refine rg [0, 1, 2, 3, 4] ?_
 refine sv 11 (.int .i64 0) ?_
 simp only [p3, p4]
 refine sw 12 (.agg #[uaa0, uaa1, uaa2, uaa3]) rfl (rl 31 0 [uaa0, uaa1, uaa2, uaa3] L12) ?_
 simp only [p3, p4]
 refine se ?_
 have kq15 := g2.kp.trans (g3.kp.trans (g5.kp.trans (g12.kp.trans kp13)))
 replace hua1 := hua1.kp kq15
 refine ec 13 (number_r hua1 (by omega) (ht.gr hB)) ?_
 rintro e14 w14 ⟨rfl, g14⟩
 refine ⟨_, rfl, ?_⟩
 replace hB := hB.trans g14
 simp only [p3, p4]
 refine sv 14 (.pointer (some ⟨b5, 0, none⟩)) ?_
 simp only [p3, p4]
 refine se ?_
 replace L5 := (st13.lc (L5.gr g12) ne5_12).gr g14
 refine es 75 0 (.string ⟨(ratL (a1) : List UInt8).toArray⟩) [(.string ⟨(ratL (a1) : List UInt8).toArray⟩)] #[(.string ⟨(ratL (a1) : List UInt8).toArray⟩), (.string ⟨([] : List UInt8).toArray⟩), (.string ⟨([] : List UInt8).toArray⟩)] L5 hB q5 ⟨rfl, trivial⟩ fun w16 st16 kp16 L5 hB => ?_
 refine sq_nil ?_
 refine k10 _ _ ?_
 try clear k10 K10
 refine rg [0, 1] ?_
 refine sv 15 (.int .i64 1) ?_
 simp only [p3, p4]
 refine sv 7 (.int .i64 1) ?_
 simp only [p3, p4]
 refine sq_nil ?_
 show Code.rounds _ _ _ _ _ _
 show Code.wp _ _ _ _ _
 refine wp_seq_k (fun K17 k17 => ?_)
 refine rg [0] ?_
 refine sv 8 (.bool true) ?_
 simp only [p3, p4]
 refine sq_nil ?_
 refine k17 _ _ ?_
 try clear k17 K17
 refine wp_seq_k (fun K18 k18 => ?_)
 refine wp_cond_true rfl ?_
 refine wp_skip ?_
 refine k18 _ _ ?_
 try clear k18 K18
 refine wp_seq_k (fun K19 k19 => ?_)
 refine wp_block ?_
 refine wp_seq_k (fun K20 k20 => ?_)
 refine rg [0, 1, 2, 3, 4] ?_
 refine sv 9 (.int .i64 1) ?_
 simp only [p3, p4]
 refine sv 10 (.agg #[uab0, uab1, uab2, uab3]) ?_
 simp only [p3, p4]
 refine se ?_
 refine ea 31 #[(.bool false), (.slice none 0 0), (.bool false), (.slice none 0 0)] 5 hB fun b21 w21 g21 L21 o21 q21 hB => ?_
 replace L3 := st16.lc ((st13.lc (L3.gr g12) ne3_12).gr g14) ne3_5
 have ne3_21 := L3.ne o21
 have ne5_21 := L5.ne o21
 simp only [p3, p4]
 refine sv 4 (.int .i64 1) ?_
 simp only [p3, p4]
 refine se ?_
 refine es 31 0 (.agg #[uab0, uab1, uab2, uab3]) [uab0, uab1, uab2, uab3] #[uab0, uab1, uab2, uab3] L21 hB q21 ⟨hua2.one0, hua2.one1, hua2.one2, hua2.one3, trivial⟩ fun w22 st22 kp22 L21 hB => ?_
 refine sq_nil ?_
 refine k20 _ _ ?_
 try clear k20 K20
 refine rg [0, 1, 2, 3, 4] ?_
 refine sv 11 (.int .i64 1) ?_
 simp only [p3, p4]
 refine sw 12 (.agg #[uab0, uab1, uab2, uab3]) rfl (rl 31 0 [uab0, uab1, uab2, uab3] L21) ?_
 simp only [p3, p4]
 refine se ?_
 have kq24 := g2.kp.trans (g3.kp.trans (g5.kp.trans (g12.kp.trans (kp13.trans (g14.kp.trans (kp16.trans (g21.kp.trans kp22)))))))
 replace hua2 := hua2.kp kq24
 refine ec 13 (number_r hua2 (by omega) (ht.gr hB)) ?_
 rintro e23 w23 ⟨rfl, g23⟩
 refine ⟨_, rfl, ?_⟩
 replace hB := hB.trans g23
 simp only [p3, p4]
 refine sv 14 (.pointer (some ⟨b5, 1, none⟩)) ?_
 simp only [p3, p4]
 refine se ?_
 replace L5 := (st22.lc (L5.gr g21) ne5_21).gr g23
 refine es 75 1 (.string ⟨(ratL (a2) : List UInt8).toArray⟩) [(.string ⟨(ratL (a2) : List UInt8).toArray⟩)] #[(.string ⟨(ratL (a1) : List UInt8).toArray⟩), (.string ⟨(ratL (a2) : List UInt8).toArray⟩), (.string ⟨([] : List UInt8).toArray⟩)] L5 hB q5 ⟨rfl, trivial⟩ fun w25 st25 kp25 L5 hB => ?_
 refine sq_nil ?_
 refine k19 _ _ ?_
 try clear k19 K19
 refine rg [0, 1] ?_
 refine sv 15 (.int .i64 2) ?_
 simp only [p3, p4]
 refine sv 7 (.int .i64 2) ?_
 simp only [p3, p4]
 refine sq_nil ?_
 show Code.rounds _ _ _ _ _ _
 show Code.wp _ _ _ _ _
 refine wp_seq_k (fun K26 k26 => ?_)
 refine rg [0] ?_
 refine sv 8 (.bool true) ?_
 simp only [p3, p4]
 refine sq_nil ?_
 refine k26 _ _ ?_
 try clear k26 K26
 refine wp_seq_k (fun K27 k27 => ?_)
 refine wp_cond_true rfl ?_
 refine wp_skip ?_
 refine k27 _ _ ?_
 try clear k27 K27
 refine wp_seq_k (fun K28 k28 => ?_)
 refine wp_block ?_
 refine wp_seq_k (fun K29 k29 => ?_)
 refine rg [0, 1, 2, 3, 4] ?_
 refine sv 9 (.int .i64 2) ?_
 simp only [p3, p4]
 refine sv 10 (.agg #[uac0, uac1, uac2, uac3]) ?_
 simp only [p3, p4]
 refine se ?_
 refine ea 31 #[(.bool false), (.slice none 0 0), (.bool false), (.slice none 0 0)] 5 hB fun b30 w30 g30 L30 o30 q30 hB => ?_
 replace L3 := st25.lc ((st22.lc (L3.gr g21) ne3_21).gr g23) ne3_5
 have ne3_30 := L3.ne o30
 have ne5_30 := L5.ne o30
 simp only [p3, p4]
 refine sv 4 (.int .i64 2) ?_
 simp only [p3, p4]
 refine se ?_
 refine es 31 0 (.agg #[uac0, uac1, uac2, uac3]) [uac0, uac1, uac2, uac3] #[uac0, uac1, uac2, uac3] L30 hB q30 ⟨hua3.one0, hua3.one1, hua3.one2, hua3.one3, trivial⟩ fun w31 st31 kp31 L30 hB => ?_
 refine sq_nil ?_
 refine k29 _ _ ?_
 try clear k29 K29
 refine rg [0, 1, 2, 3, 4] ?_
 refine sv 11 (.int .i64 2) ?_
 simp only [p3, p4]
 refine sw 12 (.agg #[uac0, uac1, uac2, uac3]) rfl (rl 31 0 [uac0, uac1, uac2, uac3] L30) ?_
 simp only [p3, p4]
 refine se ?_
 have kq33 := g2.kp.trans (g3.kp.trans (g5.kp.trans (g12.kp.trans (kp13.trans (g14.kp.trans (kp16.trans (g21.kp.trans (kp22.trans (g23.kp.trans (kp25.trans (g30.kp.trans kp31)))))))))))
 replace hua3 := hua3.kp kq33
 refine ec 13 (number_r hua3 (by omega) (ht.gr hB)) ?_
 rintro e32 w32 ⟨rfl, g32⟩
 refine ⟨_, rfl, ?_⟩
 replace hB := hB.trans g32
 simp only [p3, p4]
 refine sv 14 (.pointer (some ⟨b5, 2, none⟩)) ?_
 simp only [p3, p4]
 refine se ?_
 replace L5 := (st31.lc (L5.gr g30) ne5_30).gr g32
 refine es 75 2 (.string ⟨(ratL (a3) : List UInt8).toArray⟩) [(.string ⟨(ratL (a3) : List UInt8).toArray⟩)] #[(.string ⟨(ratL (a1) : List UInt8).toArray⟩), (.string ⟨(ratL (a2) : List UInt8).toArray⟩), (.string ⟨(ratL (a3) : List UInt8).toArray⟩)] L5 hB q5 ⟨rfl, trivial⟩ fun w34 st34 kp34 L5 hB => ?_
 refine sq_nil ?_
 refine k28 _ _ ?_
 try clear k28 K28
 refine rg [0, 1] ?_
 refine sv 15 (.int .i64 3) ?_
 simp only [p3, p4]
 refine sv 7 (.int .i64 3) ?_
 simp only [p3, p4]
 refine sq_nil ?_
 show Code.rounds _ _ _ _ _ _
 show Code.wp _ _ _ _ _
 refine wp_seq_k (fun K35 k35 => ?_)
 refine rg [0] ?_
 refine sv 8 (.bool false) ?_
 simp only [p3, p4]
 refine sq_nil ?_
 refine k35 _ _ ?_
 try clear k35 K35
 refine wp_seq_k (fun K36 k36 => ?_)
 refine wp_cond_false rfl ?_
 refine wp_exit ?_
 simp only [Exit.then, Exit.inBlock, ↓reduceIte]
 refine k6 _ _ ?_
 try clear k6 K6
 refine wp_seq_k (fun K37 k37 => ?_)
 refine rg [0, 1] ?_
 refine sw 16 (.agg #[(.string ⟨(ratL (a1) : List UInt8).toArray⟩), (.string ⟨(ratL (a2) : List UInt8).toArray⟩), (.string ⟨(ratL (a3) : List UInt8).toArray⟩)]) rfl (rl 85 0 [(.string ⟨(ratL (a1) : List UInt8).toArray⟩), (.string ⟨(ratL (a2) : List UInt8).toArray⟩), (.string ⟨(ratL (a3) : List UInt8).toArray⟩)] L5) ?_
 simp only [p3, p4]
 refine se ?_
 replace L3 := st34.lc ((st31.lc (L3.gr g30) ne3_30).gr g32) ne3_5
 refine es 85 0 (.agg #[(.string ⟨(ratL (a1) : List UInt8).toArray⟩), (.string ⟨(ratL (a2) : List UInt8).toArray⟩), (.string ⟨(ratL (a3) : List UInt8).toArray⟩)]) [(.string ⟨(ratL (a1) : List UInt8).toArray⟩), (.string ⟨(ratL (a2) : List UInt8).toArray⟩), (.string ⟨(ratL (a3) : List UInt8).toArray⟩)] #[(.string ⟨(ratL (a1) : List UInt8).toArray⟩), (.string ⟨(ratL (a2) : List UInt8).toArray⟩), (.string ⟨(ratL (a3) : List UInt8).toArray⟩)] L3 hB q3 ⟨rfl, rfl, rfl, trivial⟩ fun w38 st38 kp38 L3 hB => ?_
 refine sq_nil ?_
 refine k37 _ _ ?_
 try clear k37 K37
 refine wp_ret ?_
 refine bodyPost_ret (v := (.agg #[(.string ⟨(ratL (a1) : List UInt8).toArray⟩), (.string ⟨(ratL (a2) : List UInt8).toArray⟩), (.string ⟨(ratL (a3) : List UInt8).toArray⟩)])) (ret_cell _ _ _ rfl rfl L3 (by kernel_rfl)) rfl ⟨?_, hB⟩
 exact rfl

set_option maxRecDepth 100000 in
set_option maxHeartbeats 4000000 in
theorem numbers6_r {k m ab : Nat} {uaa0 uaa1 uaa2 uaa3 uab0 uab1 uab2 uab3 uac0 uac1 uac2 uac3 : Value} {a1 a2 a3 : Rat} {vaa0 vaa1 vaa2 vaa3 vab0 vab1 vab2 vab3 vac0 vac1 vac2 vac3 : Value} {c1 c2 c3 : Rat} {w : World} (hua1 : IsRat w k uaa0 uaa1 uaa2 uaa3 a1) (hua2 : IsRat w k uab0 uab1 uab2 uab3 a2) (hua3 : IsRat w k uac0 uac1 uac2 uac3 a3) (hva1 : IsRat w m vaa0 vaa1 vaa2 vaa3 c1) (hva2 : IsRat w m vab0 vab1 vab2 vab3 c2) (hva3 : IsRat w m vac0 vac1 vac2 vac3 c3) (_hk : k + m ≤ 25000) (hL : Lc w ab #[uaa0, uaa1, uaa2, uaa3, uab0, uab1, uab2, uab3, uac0, uac1, uac2, uac3, vaa0, vaa1, vaa2, vaa3, vab0, vab1, vab2, vab3, vac0, vac1, vac2, vac3] 31) (ht : Tab w) :
    Calls Tryd.prog 61 #[(.slice (some ⟨ab, 0, none⟩) 6 6)] w fun e w' => (∃ b, e = .returned (.slice (some ⟨b, 0, none⟩) 6 6) ∧ Lc w' b #[.string ⟨(ratL (a1)).toArray⟩, .string ⟨(ratL (a2)).toArray⟩, .string ⟨(ratL (a3)).toArray⟩, .string ⟨(ratL (c1)).toArray⟩, .string ⟨(ratL (c2)).toArray⟩, .string ⟨(ratL (c3)).toArray⟩] 75 ∧ w.heap.size ≤ b) ∧ Gr w w' := by
 go_enter Tryd.func61, Tryd.ntmps61
 have hB := Gr.refl w
 refine wp_seq_k (fun K1 k1 => ?_)
 refine rg [0] ?_
 refine sv 2 (.slice none 0 0) ?_
 simp only [p3, p4]
 refine sq_nil ?_
 refine k1 _ _ ?_
 try clear k1 K1
 refine wp_seq_k (fun K2 k2 => ?_)
 refine rg [0, 1, 2, 3] ?_
 refine sv 6 (.slice (some ⟨ab, 0, none⟩) 6 6) ?_
 simp only [p3, p4]
 refine sv 7 (.int .i64 6) ?_
 simp only [p3, p4]
 refine se ?_
 refine eff_make 99 75 (.string ⟨([] : List UInt8).toArray⟩) 6 6 1 #[(.string ⟨([] : List UInt8).toArray⟩), (.string ⟨([] : List UInt8).toArray⟩), (.string ⟨([] : List UInt8).toArray⟩), (.string ⟨([] : List UInt8).toArray⟩), (.string ⟨([] : List UInt8).toArray⟩), (.string ⟨([] : List UInt8).toArray⟩)] (some 8) rfl rfl rfl rfl (by kernel_rfl) (by kernel_rfl) (by kernel_rfl) (by kernel_rfl) (fun b3 w3 g3 L3 q3 => ?_)
 have ne0_3 := hL.ne q3
 replace q3 := Nat.le_trans (Below.size hB) q3
 replace hB := hB.trans g3
 simp only [putl, p3, p4]
 refine sv 3 (.slice (some ⟨b3, 0, none⟩) 6 6) ?_
 simp only [p3, p4]
 refine sq_nil ?_
 refine k2 _ _ ?_
 try clear k2 K2
 refine wp_seq_k (fun K4 k4 => ?_)
 refine wp_seq_k (fun K5 k5 => ?_)
 refine rg [0, 1, 2] ?_
 refine sv 9 (.slice (some ⟨ab, 0, none⟩) 6 6) ?_
 simp only [p3, p4]
 refine sv 10 (.int .i64 6) ?_
 simp only [p3, p4]
 refine sv 11 (.int .i64 0) ?_
 simp only [p3, p4]
 refine sq_nil ?_
 refine k5 _ _ ?_
 try clear k5 K5
 refine wp_block ?_
 refine wp_loop_rounds 8 ?_
 show Code.wp _ _ _ _ _
 refine wp_seq_k (fun K6 k6 => ?_)
 refine rg [0] ?_
 refine sv 12 (.bool true) ?_
 simp only [p3, p4]
 refine sq_nil ?_
 refine k6 _ _ ?_
 try clear k6 K6
 refine wp_seq_k (fun K7 k7 => ?_)
 refine wp_cond_true rfl ?_
 refine wp_skip ?_
 refine k7 _ _ ?_
 try clear k7 K7
 refine wp_seq_k (fun K8 k8 => ?_)
 refine wp_block ?_
 refine wp_seq_k (fun K9 k9 => ?_)
 refine rg [0, 1, 2, 3, 4, 5] ?_
 refine sv 13 (.int .i64 0) ?_
 simp only [p3, p4]
 refine sv 14 (.pointer (some ⟨ab, 0, none⟩)) ?_
 simp only [p3, p4]
 replace hL := hL.gr g3
 refine sw 15 (.agg #[uaa0, uaa1, uaa2, uaa3]) rfl (rl 31 0 [uaa0, uaa1, uaa2, uaa3] hL) ?_
 simp only [p3, p4]
 refine se ?_
 refine ea 31 #[(.bool false), (.slice none 0 0), (.bool false), (.slice none 0 0)] 5 hB fun b10 w10 g10 L10 o10 q10 hB => ?_
 have ne0_10 := hL.ne o10
 have ne3_10 := L3.ne o10
 simp only [p3, p4]
 refine sv 4 (.int .i64 0) ?_
 simp only [p3, p4]
 refine se ?_
 refine es 31 0 (.agg #[uaa0, uaa1, uaa2, uaa3]) [uaa0, uaa1, uaa2, uaa3] #[uaa0, uaa1, uaa2, uaa3] L10 hB q10 ⟨hua1.one0, hua1.one1, hua1.one2, hua1.one3, trivial⟩ fun w11 st11 kp11 L10 hB => ?_
 refine sq_nil ?_
 refine k9 _ _ ?_
 try clear k9 K9
 refine rg [0, 1, 2, 3, 4, 5] ?_
 refine sv 16 (.slice (some ⟨b3, 0, none⟩) 6 6) ?_
 simp only [p3, p4]
 refine sv 17 (.int .i64 0) ?_
 simp only [p3, p4]
 refine sw 18 (.agg #[uaa0, uaa1, uaa2, uaa3]) rfl (rl 31 0 [uaa0, uaa1, uaa2, uaa3] L10) ?_
 simp only [p3, p4]
 refine se ?_
 have kq13 := g3.kp.trans (g10.kp.trans kp11)
 replace hua1 := hua1.kp kq13
 refine ec 19 (number_r hua1 (by omega) (ht.gr hB)) ?_
 rintro e12 w12 ⟨rfl, g12⟩
 refine ⟨_, rfl, ?_⟩
 replace hB := hB.trans g12
 simp only [p3, p4]
 refine sv 20 (.pointer (some ⟨b3, 0, none⟩)) ?_
 simp only [p3, p4]
 refine se ?_
 replace L3 := (st11.lc (L3.gr g10) ne3_10).gr g12
 refine es 75 0 (.string ⟨(ratL (a1) : List UInt8).toArray⟩) [(.string ⟨(ratL (a1) : List UInt8).toArray⟩)] #[(.string ⟨(ratL (a1) : List UInt8).toArray⟩), (.string ⟨([] : List UInt8).toArray⟩), (.string ⟨([] : List UInt8).toArray⟩), (.string ⟨([] : List UInt8).toArray⟩), (.string ⟨([] : List UInt8).toArray⟩), (.string ⟨([] : List UInt8).toArray⟩)] L3 hB q3 ⟨rfl, trivial⟩ fun w14 st14 kp14 L3 hB => ?_
 refine sq_nil ?_
 refine k8 _ _ ?_
 try clear k8 K8
 refine rg [0, 1] ?_
 refine sv 21 (.int .i64 1) ?_
 simp only [p3, p4]
 refine sv 11 (.int .i64 1) ?_
 simp only [p3, p4]
 refine sq_nil ?_
 show Code.rounds _ _ _ _ _ _
 show Code.wp _ _ _ _ _
 refine wp_seq_k (fun K15 k15 => ?_)
 refine rg [0] ?_
 refine sv 12 (.bool true) ?_
 simp only [p3, p4]
 refine sq_nil ?_
 refine k15 _ _ ?_
 try clear k15 K15
 refine wp_seq_k (fun K16 k16 => ?_)
 refine wp_cond_true rfl ?_
 refine wp_skip ?_
 refine k16 _ _ ?_
 try clear k16 K16
 refine wp_seq_k (fun K17 k17 => ?_)
 refine wp_block ?_
 refine wp_seq_k (fun K18 k18 => ?_)
 refine rg [0, 1, 2, 3, 4, 5] ?_
 refine sv 13 (.int .i64 1) ?_
 simp only [p3, p4]
 refine sv 14 (.pointer (some ⟨ab, 4, none⟩)) ?_
 simp only [p3, p4]
 replace hL := st14.lc ((st11.lc (hL.gr g10) ne0_10).gr g12) ne0_3
 refine sw 15 (.agg #[uab0, uab1, uab2, uab3]) rfl (rl 31 4 [uab0, uab1, uab2, uab3] hL) ?_
 simp only [p3, p4]
 refine se ?_
 refine ea 31 #[(.bool false), (.slice none 0 0), (.bool false), (.slice none 0 0)] 5 hB fun b19 w19 g19 L19 o19 q19 hB => ?_
 have ne0_19 := hL.ne o19
 have ne3_19 := L3.ne o19
 simp only [p3, p4]
 refine sv 4 (.int .i64 1) ?_
 simp only [p3, p4]
 refine se ?_
 refine es 31 0 (.agg #[uab0, uab1, uab2, uab3]) [uab0, uab1, uab2, uab3] #[uab0, uab1, uab2, uab3] L19 hB q19 ⟨hua2.one0, hua2.one1, hua2.one2, hua2.one3, trivial⟩ fun w20 st20 kp20 L19 hB => ?_
 refine sq_nil ?_
 refine k18 _ _ ?_
 try clear k18 K18
 refine rg [0, 1, 2, 3, 4, 5] ?_
 refine sv 16 (.slice (some ⟨b3, 0, none⟩) 6 6) ?_
 simp only [p3, p4]
 refine sv 17 (.int .i64 1) ?_
 simp only [p3, p4]
 refine sw 18 (.agg #[uab0, uab1, uab2, uab3]) rfl (rl 31 0 [uab0, uab1, uab2, uab3] L19) ?_
 simp only [p3, p4]
 refine se ?_
 have kq22 := g3.kp.trans (g10.kp.trans (kp11.trans (g12.kp.trans (kp14.trans (g19.kp.trans kp20)))))
 replace hua2 := hua2.kp kq22
 refine ec 19 (number_r hua2 (by omega) (ht.gr hB)) ?_
 rintro e21 w21 ⟨rfl, g21⟩
 refine ⟨_, rfl, ?_⟩
 replace hB := hB.trans g21
 simp only [p3, p4]
 refine sv 20 (.pointer (some ⟨b3, 1, none⟩)) ?_
 simp only [p3, p4]
 refine se ?_
 replace L3 := (st20.lc (L3.gr g19) ne3_19).gr g21
 refine es 75 1 (.string ⟨(ratL (a2) : List UInt8).toArray⟩) [(.string ⟨(ratL (a2) : List UInt8).toArray⟩)] #[(.string ⟨(ratL (a1) : List UInt8).toArray⟩), (.string ⟨(ratL (a2) : List UInt8).toArray⟩), (.string ⟨([] : List UInt8).toArray⟩), (.string ⟨([] : List UInt8).toArray⟩), (.string ⟨([] : List UInt8).toArray⟩), (.string ⟨([] : List UInt8).toArray⟩)] L3 hB q3 ⟨rfl, trivial⟩ fun w23 st23 kp23 L3 hB => ?_
 refine sq_nil ?_
 refine k17 _ _ ?_
 try clear k17 K17
 refine rg [0, 1] ?_
 refine sv 21 (.int .i64 2) ?_
 simp only [p3, p4]
 refine sv 11 (.int .i64 2) ?_
 simp only [p3, p4]
 refine sq_nil ?_
 show Code.rounds _ _ _ _ _ _
 show Code.wp _ _ _ _ _
 refine wp_seq_k (fun K24 k24 => ?_)
 refine rg [0] ?_
 refine sv 12 (.bool true) ?_
 simp only [p3, p4]
 refine sq_nil ?_
 refine k24 _ _ ?_
 try clear k24 K24
 refine wp_seq_k (fun K25 k25 => ?_)
 refine wp_cond_true rfl ?_
 refine wp_skip ?_
 refine k25 _ _ ?_
 try clear k25 K25
 refine wp_seq_k (fun K26 k26 => ?_)
 refine wp_block ?_
 refine wp_seq_k (fun K27 k27 => ?_)
 refine rg [0, 1, 2, 3, 4, 5] ?_
 refine sv 13 (.int .i64 2) ?_
 simp only [p3, p4]
 refine sv 14 (.pointer (some ⟨ab, 8, none⟩)) ?_
 simp only [p3, p4]
 replace hL := st23.lc ((st20.lc (hL.gr g19) ne0_19).gr g21) ne0_3
 refine sw 15 (.agg #[uac0, uac1, uac2, uac3]) rfl (rl 31 8 [uac0, uac1, uac2, uac3] hL) ?_
 simp only [p3, p4]
 refine se ?_
 refine ea 31 #[(.bool false), (.slice none 0 0), (.bool false), (.slice none 0 0)] 5 hB fun b28 w28 g28 L28 o28 q28 hB => ?_
 have ne0_28 := hL.ne o28
 have ne3_28 := L3.ne o28
 simp only [p3, p4]
 refine sv 4 (.int .i64 2) ?_
 simp only [p3, p4]
 refine se ?_
 refine es 31 0 (.agg #[uac0, uac1, uac2, uac3]) [uac0, uac1, uac2, uac3] #[uac0, uac1, uac2, uac3] L28 hB q28 ⟨hua3.one0, hua3.one1, hua3.one2, hua3.one3, trivial⟩ fun w29 st29 kp29 L28 hB => ?_
 refine sq_nil ?_
 refine k27 _ _ ?_
 try clear k27 K27
 refine rg [0, 1, 2, 3, 4, 5] ?_
 refine sv 16 (.slice (some ⟨b3, 0, none⟩) 6 6) ?_
 simp only [p3, p4]
 refine sv 17 (.int .i64 2) ?_
 simp only [p3, p4]
 refine sw 18 (.agg #[uac0, uac1, uac2, uac3]) rfl (rl 31 0 [uac0, uac1, uac2, uac3] L28) ?_
 simp only [p3, p4]
 refine se ?_
 have kq31 := g3.kp.trans (g10.kp.trans (kp11.trans (g12.kp.trans (kp14.trans (g19.kp.trans (kp20.trans (g21.kp.trans (kp23.trans (g28.kp.trans kp29)))))))))
 replace hua3 := hua3.kp kq31
 refine ec 19 (number_r hua3 (by omega) (ht.gr hB)) ?_
 rintro e30 w30 ⟨rfl, g30⟩
 refine ⟨_, rfl, ?_⟩
 replace hB := hB.trans g30
 simp only [p3, p4]
 refine sv 20 (.pointer (some ⟨b3, 2, none⟩)) ?_
 simp only [p3, p4]
 refine se ?_
 replace L3 := (st29.lc (L3.gr g28) ne3_28).gr g30
 refine es 75 2 (.string ⟨(ratL (a3) : List UInt8).toArray⟩) [(.string ⟨(ratL (a3) : List UInt8).toArray⟩)] #[(.string ⟨(ratL (a1) : List UInt8).toArray⟩), (.string ⟨(ratL (a2) : List UInt8).toArray⟩), (.string ⟨(ratL (a3) : List UInt8).toArray⟩), (.string ⟨([] : List UInt8).toArray⟩), (.string ⟨([] : List UInt8).toArray⟩), (.string ⟨([] : List UInt8).toArray⟩)] L3 hB q3 ⟨rfl, trivial⟩ fun w32 st32 kp32 L3 hB => ?_
 refine sq_nil ?_
 refine k26 _ _ ?_
 try clear k26 K26
 refine rg [0, 1] ?_
 refine sv 21 (.int .i64 3) ?_
 simp only [p3, p4]
 refine sv 11 (.int .i64 3) ?_
 simp only [p3, p4]
 refine sq_nil ?_
 show Code.rounds _ _ _ _ _ _
 show Code.wp _ _ _ _ _
 refine wp_seq_k (fun K33 k33 => ?_)
 refine rg [0] ?_
 refine sv 12 (.bool true) ?_
 simp only [p3, p4]
 refine sq_nil ?_
 refine k33 _ _ ?_
 try clear k33 K33
 refine wp_seq_k (fun K34 k34 => ?_)
 refine wp_cond_true rfl ?_
 refine wp_skip ?_
 refine k34 _ _ ?_
 try clear k34 K34
 refine wp_seq_k (fun K35 k35 => ?_)
 refine wp_block ?_
 refine wp_seq_k (fun K36 k36 => ?_)
 refine rg [0, 1, 2, 3, 4, 5] ?_
 refine sv 13 (.int .i64 3) ?_
 simp only [p3, p4]
 refine sv 14 (.pointer (some ⟨ab, 12, none⟩)) ?_
 simp only [p3, p4]
 replace hL := st32.lc ((st29.lc (hL.gr g28) ne0_28).gr g30) ne0_3
 refine sw 15 (.agg #[vaa0, vaa1, vaa2, vaa3]) rfl (rl 31 12 [vaa0, vaa1, vaa2, vaa3] hL) ?_
 simp only [p3, p4]
 refine se ?_
 refine ea 31 #[(.bool false), (.slice none 0 0), (.bool false), (.slice none 0 0)] 5 hB fun b37 w37 g37 L37 o37 q37 hB => ?_
 have ne0_37 := hL.ne o37
 have ne3_37 := L3.ne o37
 simp only [p3, p4]
 refine sv 4 (.int .i64 3) ?_
 simp only [p3, p4]
 refine se ?_
 refine es 31 0 (.agg #[vaa0, vaa1, vaa2, vaa3]) [vaa0, vaa1, vaa2, vaa3] #[vaa0, vaa1, vaa2, vaa3] L37 hB q37 ⟨hva1.one0, hva1.one1, hva1.one2, hva1.one3, trivial⟩ fun w38 st38 kp38 L37 hB => ?_
 refine sq_nil ?_
 refine k36 _ _ ?_
 try clear k36 K36
 refine rg [0, 1, 2, 3, 4, 5] ?_
 refine sv 16 (.slice (some ⟨b3, 0, none⟩) 6 6) ?_
 simp only [p3, p4]
 refine sv 17 (.int .i64 3) ?_
 simp only [p3, p4]
 refine sw 18 (.agg #[vaa0, vaa1, vaa2, vaa3]) rfl (rl 31 0 [vaa0, vaa1, vaa2, vaa3] L37) ?_
 simp only [p3, p4]
 refine se ?_
 have kq40 := g3.kp.trans (g10.kp.trans (kp11.trans (g12.kp.trans (kp14.trans (g19.kp.trans (kp20.trans (g21.kp.trans (kp23.trans (g28.kp.trans (kp29.trans (g30.kp.trans (kp32.trans (g37.kp.trans kp38)))))))))))))
 replace hva1 := hva1.kp kq40
 refine ec 19 (number_r hva1 (by omega) (ht.gr hB)) ?_
 rintro e39 w39 ⟨rfl, g39⟩
 refine ⟨_, rfl, ?_⟩
 replace hB := hB.trans g39
 simp only [p3, p4]
 refine sv 20 (.pointer (some ⟨b3, 3, none⟩)) ?_
 simp only [p3, p4]
 refine se ?_
 replace L3 := (st38.lc (L3.gr g37) ne3_37).gr g39
 refine es 75 3 (.string ⟨(ratL (c1) : List UInt8).toArray⟩) [(.string ⟨(ratL (c1) : List UInt8).toArray⟩)] #[(.string ⟨(ratL (a1) : List UInt8).toArray⟩), (.string ⟨(ratL (a2) : List UInt8).toArray⟩), (.string ⟨(ratL (a3) : List UInt8).toArray⟩), (.string ⟨(ratL (c1) : List UInt8).toArray⟩), (.string ⟨([] : List UInt8).toArray⟩), (.string ⟨([] : List UInt8).toArray⟩)] L3 hB q3 ⟨rfl, trivial⟩ fun w41 st41 kp41 L3 hB => ?_
 refine sq_nil ?_
 refine k35 _ _ ?_
 try clear k35 K35
 refine rg [0, 1] ?_
 refine sv 21 (.int .i64 4) ?_
 simp only [p3, p4]
 refine sv 11 (.int .i64 4) ?_
 simp only [p3, p4]
 refine sq_nil ?_
 show Code.rounds _ _ _ _ _ _
 show Code.wp _ _ _ _ _
 refine wp_seq_k (fun K42 k42 => ?_)
 refine rg [0] ?_
 refine sv 12 (.bool true) ?_
 simp only [p3, p4]
 refine sq_nil ?_
 refine k42 _ _ ?_
 try clear k42 K42
 refine wp_seq_k (fun K43 k43 => ?_)
 refine wp_cond_true rfl ?_
 refine wp_skip ?_
 refine k43 _ _ ?_
 try clear k43 K43
 refine wp_seq_k (fun K44 k44 => ?_)
 refine wp_block ?_
 refine wp_seq_k (fun K45 k45 => ?_)
 refine rg [0, 1, 2, 3, 4, 5] ?_
 refine sv 13 (.int .i64 4) ?_
 simp only [p3, p4]
 refine sv 14 (.pointer (some ⟨ab, 16, none⟩)) ?_
 simp only [p3, p4]
 replace hL := st41.lc ((st38.lc (hL.gr g37) ne0_37).gr g39) ne0_3
 refine sw 15 (.agg #[vab0, vab1, vab2, vab3]) rfl (rl 31 16 [vab0, vab1, vab2, vab3] hL) ?_
 simp only [p3, p4]
 refine se ?_
 refine ea 31 #[(.bool false), (.slice none 0 0), (.bool false), (.slice none 0 0)] 5 hB fun b46 w46 g46 L46 o46 q46 hB => ?_
 have ne0_46 := hL.ne o46
 have ne3_46 := L3.ne o46
 simp only [p3, p4]
 refine sv 4 (.int .i64 4) ?_
 simp only [p3, p4]
 refine se ?_
 refine es 31 0 (.agg #[vab0, vab1, vab2, vab3]) [vab0, vab1, vab2, vab3] #[vab0, vab1, vab2, vab3] L46 hB q46 ⟨hva2.one0, hva2.one1, hva2.one2, hva2.one3, trivial⟩ fun w47 st47 kp47 L46 hB => ?_
 refine sq_nil ?_
 refine k45 _ _ ?_
 try clear k45 K45
 refine rg [0, 1, 2, 3, 4, 5] ?_
 refine sv 16 (.slice (some ⟨b3, 0, none⟩) 6 6) ?_
 simp only [p3, p4]
 refine sv 17 (.int .i64 4) ?_
 simp only [p3, p4]
 refine sw 18 (.agg #[vab0, vab1, vab2, vab3]) rfl (rl 31 0 [vab0, vab1, vab2, vab3] L46) ?_
 simp only [p3, p4]
 refine se ?_
 have kq49 := g3.kp.trans (g10.kp.trans (kp11.trans (g12.kp.trans (kp14.trans (g19.kp.trans (kp20.trans (g21.kp.trans (kp23.trans (g28.kp.trans (kp29.trans (g30.kp.trans (kp32.trans (g37.kp.trans (kp38.trans (g39.kp.trans (kp41.trans (g46.kp.trans kp47)))))))))))))))))
 replace hva2 := hva2.kp kq49
 refine ec 19 (number_r hva2 (by omega) (ht.gr hB)) ?_
 rintro e48 w48 ⟨rfl, g48⟩
 refine ⟨_, rfl, ?_⟩
 replace hB := hB.trans g48
 simp only [p3, p4]
 refine sv 20 (.pointer (some ⟨b3, 4, none⟩)) ?_
 simp only [p3, p4]
 refine se ?_
 replace L3 := (st47.lc (L3.gr g46) ne3_46).gr g48
 refine es 75 4 (.string ⟨(ratL (c2) : List UInt8).toArray⟩) [(.string ⟨(ratL (c2) : List UInt8).toArray⟩)] #[(.string ⟨(ratL (a1) : List UInt8).toArray⟩), (.string ⟨(ratL (a2) : List UInt8).toArray⟩), (.string ⟨(ratL (a3) : List UInt8).toArray⟩), (.string ⟨(ratL (c1) : List UInt8).toArray⟩), (.string ⟨(ratL (c2) : List UInt8).toArray⟩), (.string ⟨([] : List UInt8).toArray⟩)] L3 hB q3 ⟨rfl, trivial⟩ fun w50 st50 kp50 L3 hB => ?_
 refine sq_nil ?_
 refine k44 _ _ ?_
 try clear k44 K44
 refine rg [0, 1] ?_
 refine sv 21 (.int .i64 5) ?_
 simp only [p3, p4]
 refine sv 11 (.int .i64 5) ?_
 simp only [p3, p4]
 refine sq_nil ?_
 show Code.rounds _ _ _ _ _ _
 show Code.wp _ _ _ _ _
 refine wp_seq_k (fun K51 k51 => ?_)
 refine rg [0] ?_
 refine sv 12 (.bool true) ?_
 simp only [p3, p4]
 refine sq_nil ?_
 refine k51 _ _ ?_
 try clear k51 K51
 refine wp_seq_k (fun K52 k52 => ?_)
 refine wp_cond_true rfl ?_
 refine wp_skip ?_
 refine k52 _ _ ?_
 try clear k52 K52
 refine wp_seq_k (fun K53 k53 => ?_)
 refine wp_block ?_
 refine wp_seq_k (fun K54 k54 => ?_)
 refine rg [0, 1, 2, 3, 4, 5] ?_
 refine sv 13 (.int .i64 5) ?_
 simp only [p3, p4]
 refine sv 14 (.pointer (some ⟨ab, 20, none⟩)) ?_
 simp only [p3, p4]
 replace hL := st50.lc ((st47.lc (hL.gr g46) ne0_46).gr g48) ne0_3
 refine sw 15 (.agg #[vac0, vac1, vac2, vac3]) rfl (rl 31 20 [vac0, vac1, vac2, vac3] hL) ?_
 simp only [p3, p4]
 refine se ?_
 refine ea 31 #[(.bool false), (.slice none 0 0), (.bool false), (.slice none 0 0)] 5 hB fun b55 w55 g55 L55 o55 q55 hB => ?_
 have ne3_55 := L3.ne o55
 simp only [p3, p4]
 refine sv 4 (.int .i64 5) ?_
 simp only [p3, p4]
 refine se ?_
 refine es 31 0 (.agg #[vac0, vac1, vac2, vac3]) [vac0, vac1, vac2, vac3] #[vac0, vac1, vac2, vac3] L55 hB q55 ⟨hva3.one0, hva3.one1, hva3.one2, hva3.one3, trivial⟩ fun w56 st56 kp56 L55 hB => ?_
 refine sq_nil ?_
 refine k54 _ _ ?_
 try clear k54 K54
 refine rg [0, 1, 2, 3, 4, 5] ?_
 refine sv 16 (.slice (some ⟨b3, 0, none⟩) 6 6) ?_
 simp only [p3, p4]
 refine sv 17 (.int .i64 5) ?_
 simp only [p3, p4]
 refine sw 18 (.agg #[vac0, vac1, vac2, vac3]) rfl (rl 31 0 [vac0, vac1, vac2, vac3] L55) ?_
 simp only [p3, p4]
 refine se ?_
 have kq58 := g3.kp.trans (g10.kp.trans (kp11.trans (g12.kp.trans (kp14.trans (g19.kp.trans (kp20.trans (g21.kp.trans (kp23.trans (g28.kp.trans (kp29.trans (g30.kp.trans (kp32.trans (g37.kp.trans (kp38.trans (g39.kp.trans (kp41.trans (g46.kp.trans (kp47.trans (g48.kp.trans (kp50.trans (g55.kp.trans kp56)))))))))))))))))))))
 replace hva3 := hva3.kp kq58
 refine ec 19 (number_r hva3 (by omega) (ht.gr hB)) ?_
 rintro e57 w57 ⟨rfl, g57⟩
 refine ⟨_, rfl, ?_⟩
 replace hB := hB.trans g57
 simp only [p3, p4]
 refine sv 20 (.pointer (some ⟨b3, 5, none⟩)) ?_
 simp only [p3, p4]
 refine se ?_
 replace L3 := (st56.lc (L3.gr g55) ne3_55).gr g57
 refine es 75 5 (.string ⟨(ratL (c3) : List UInt8).toArray⟩) [(.string ⟨(ratL (c3) : List UInt8).toArray⟩)] #[(.string ⟨(ratL (a1) : List UInt8).toArray⟩), (.string ⟨(ratL (a2) : List UInt8).toArray⟩), (.string ⟨(ratL (a3) : List UInt8).toArray⟩), (.string ⟨(ratL (c1) : List UInt8).toArray⟩), (.string ⟨(ratL (c2) : List UInt8).toArray⟩), (.string ⟨(ratL (c3) : List UInt8).toArray⟩)] L3 hB q3 ⟨rfl, trivial⟩ fun w59 st59 kp59 L3 hB => ?_
 refine sq_nil ?_
 refine k53 _ _ ?_
 try clear k53 K53
 refine rg [0, 1] ?_
 refine sv 21 (.int .i64 6) ?_
 simp only [p3, p4]
 refine sv 11 (.int .i64 6) ?_
 simp only [p3, p4]
 refine sq_nil ?_
 show Code.rounds _ _ _ _ _ _
 show Code.wp _ _ _ _ _
 refine wp_seq_k (fun K60 k60 => ?_)
 refine rg [0] ?_
 refine sv 12 (.bool false) ?_
 simp only [p3, p4]
 refine sq_nil ?_
 refine k60 _ _ ?_
 try clear k60 K60
 refine wp_seq_k (fun K61 k61 => ?_)
 refine wp_cond_false rfl ?_
 refine wp_exit ?_
 simp only [Exit.then, Exit.inBlock, ↓reduceIte]
 refine k4 _ _ ?_
 try clear k4 K4
 refine wp_seq_k (fun K62 k62 => ?_)
 refine rg [0, 1] ?_
 refine sv 22 (.slice (some ⟨b3, 0, none⟩) 6 6) ?_
 simp only [p3, p4]
 refine sv 2 (.slice (some ⟨b3, 0, none⟩) 6 6) ?_
 simp only [p3, p4]
 refine sq_nil ?_
 refine k62 _ _ ?_
 try clear k62 K62
 refine wp_ret ?_
 refine bodyPost_ret (v := (.slice (some ⟨b3, 0, none⟩) 6 6)) (ret_tmp rfl rfl) rfl ⟨?_, hB⟩
 exact ⟨_, rfl, L3, q3⟩

set_option maxRecDepth 100000 in
set_option maxHeartbeats 1000000 in
theorem tnumbers_v {k m : Nat} {uaa0 uaa1 uaa2 uaa3 uab0 uab1 uab2 uab3 uac0 uac1 uac2 uac3 : Value} {a1 a2 a3 : Rat} {vaa0 vaa1 vaa2 vaa3 vab0 vab1 vab2 vab3 vac0 vac1 vac2 vac3 : Value} {c1 c2 c3 : Rat} {w : World} (hua1 : IsRat w k uaa0 uaa1 uaa2 uaa3 a1) (hua2 : IsRat w k uab0 uab1 uab2 uab3 a2) (hua3 : IsRat w k uac0 uac1 uac2 uac3 a3) (hva1 : IsRat w m vaa0 vaa1 vaa2 vaa3 c1) (hva2 : IsRat w m vab0 vab1 vab2 vab3 c2) (hva3 : IsRat w m vac0 vac1 vac2 vac3 c3) (_hk : k + m ≤ 25000) (ht : Tab w) :
    Calls Tryd.prog 39 #[(.agg #[uaa0, uaa1, uaa2, uaa3, uab0, uab1, uab2, uab3, uac0, uac1, uac2, uac3, vaa0, vaa1, vaa2, vaa3, vab0, vab1, vab2, vab3, vac0, vac1, vac2, vac3])] w fun e w' => e = .returned (.agg #[.string ⟨(ratL (a1)).toArray⟩, .string ⟨(ratL (a2)).toArray⟩, .string ⟨(ratL (a3)).toArray⟩, .string ⟨(ratL (c1)).toArray⟩, .string ⟨(ratL (c2)).toArray⟩, .string ⟨(ratL (c3)).toArray⟩]) ∧ Gr w w' := by
 go_enter Tryd.func39, Tryd.ntmps39
 have hB := Gr.refl w
 refine wp_seq_k (fun K1 k1 => ?_)
 refine rg [0, 1] ?_
 refine se ?_
 refine eb 35 #[uaa0, uaa1, uaa2, uaa3, uab0, uab1, uab2, uab3, uac0, uac1, uac2, uac3, vaa0, vaa1, vaa2, vaa3, vab0, vab1, vab2, vab3, vac0, vac1, vac2, vac3] 1 hB fun b2 w2 g2 L2 o2 q2 hB => ?_
 simp only [p3, p4]
 refine se ?_
 refine ea 77 #[(.string ⟨([] : List UInt8).toArray⟩), (.string ⟨([] : List UInt8).toArray⟩), (.string ⟨([] : List UInt8).toArray⟩), (.string ⟨([] : List UInt8).toArray⟩), (.string ⟨([] : List UInt8).toArray⟩), (.string ⟨([] : List UInt8).toArray⟩)] 2 hB fun b3 w3 g3 L3 o3 q3 hB => ?_
 simp only [p3, p4]
 refine sq_nil ?_
 refine k1 _ _ ?_
 try clear k1 K1
 refine wp_seq_k (fun K4 k4 => ?_)
 refine rg [0, 1, 2, 3, 4, 5, 6, 7, 8] ?_
 refine sv 3 (.pointer (some ⟨b2, 0, none⟩)) ?_
 simp only [p3, p4]
 replace L2 := L2.gr g3
 refine sw 4 (.agg #[uaa0, uaa1, uaa2, uaa3, uab0, uab1, uab2, uab3, uac0, uac1, uac2, uac3]) rfl (rl 33 0 [uaa0, uaa1, uaa2, uaa3, uab0, uab1, uab2, uab3, uac0, uac1, uac2, uac3] L2) ?_
 simp only [p3, p4]
 refine sv 5 (.pointer (some ⟨b2, 12, none⟩)) ?_
 simp only [p3, p4]
 refine sw 6 (.agg #[vaa0, vaa1, vaa2, vaa3, vab0, vab1, vab2, vab3, vac0, vac1, vac2, vac3]) rfl (rl 33 12 [vaa0, vaa1, vaa2, vaa3, vab0, vab1, vab2, vab3, vac0, vac1, vac2, vac3] L2) ?_
 simp only [p3, p4]
 refine se ?_
 have kq6 := g2.kp.trans g3.kp
 replace hua1 := hua1.kp kq6
 replace hua2 := hua2.kp kq6
 replace hua3 := hua3.kp kq6
 replace hva1 := hva1.kp kq6
 replace hva2 := hva2.kp kq6
 replace hva3 := hva3.kp kq6
 refine ec 7 (joined_v hua1 hua2 hua3 hva1 hva2 hva3 (by omega)) ?_
 rintro e5 w5 ⟨⟨b5, t5_0, t5_1, t5_2, t5_3, t5_4, t5_5, t5_6, t5_7, t5_8, t5_9, t5_10, t5_11, t5_12, t5_13, t5_14, t5_15, t5_16, t5_17, t5_18, t5_19, t5_20, t5_21, t5_22, t5_23, rfl, L5, q5, h5a, h5b, h5c, h5d, h5e, h5f⟩, g5⟩
 refine ⟨_, rfl, ?_⟩
 replace hB := hB.trans g5
 simp only [p3, p4]
 refine se ?_
 refine ec 8 (numbers6_r h5a h5b h5c h5d h5e h5f (by omega) L5 (ht.gr hB)) ?_
 rintro e7 w7 ⟨⟨b7, rfl, L7, q7⟩, g7⟩
 refine ⟨_, rfl, ?_⟩
 replace L3 := L3.gr g5
 replace hB := hB.trans g7
 simp only [p3, p4]
 refine sv 9 (.pointer (some ⟨b7, 0, none⟩)) ?_
 simp only [p3, p4]
 refine sw 10 (.agg #[(.string ⟨(ratL (a1) : List UInt8).toArray⟩), (.string ⟨(ratL (a2) : List UInt8).toArray⟩), (.string ⟨(ratL (a3) : List UInt8).toArray⟩), (.string ⟨(ratL (c1) : List UInt8).toArray⟩), (.string ⟨(ratL (c2) : List UInt8).toArray⟩), (.string ⟨(ratL (c3) : List UInt8).toArray⟩)]) rfl (rl 77 0 [(.string ⟨(ratL (a1) : List UInt8).toArray⟩), (.string ⟨(ratL (a2) : List UInt8).toArray⟩), (.string ⟨(ratL (a3) : List UInt8).toArray⟩), (.string ⟨(ratL (c1) : List UInt8).toArray⟩), (.string ⟨(ratL (c2) : List UInt8).toArray⟩), (.string ⟨(ratL (c3) : List UInt8).toArray⟩)] L7) ?_
 simp only [p3, p4]
 refine se ?_
 replace L3 := L3.gr g7
 refine es 77 0 (.agg #[(.string ⟨(ratL (a1) : List UInt8).toArray⟩), (.string ⟨(ratL (a2) : List UInt8).toArray⟩), (.string ⟨(ratL (a3) : List UInt8).toArray⟩), (.string ⟨(ratL (c1) : List UInt8).toArray⟩), (.string ⟨(ratL (c2) : List UInt8).toArray⟩), (.string ⟨(ratL (c3) : List UInt8).toArray⟩)]) [(.string ⟨(ratL (a1) : List UInt8).toArray⟩), (.string ⟨(ratL (a2) : List UInt8).toArray⟩), (.string ⟨(ratL (a3) : List UInt8).toArray⟩), (.string ⟨(ratL (c1) : List UInt8).toArray⟩), (.string ⟨(ratL (c2) : List UInt8).toArray⟩), (.string ⟨(ratL (c3) : List UInt8).toArray⟩)] #[(.string ⟨(ratL (a1) : List UInt8).toArray⟩), (.string ⟨(ratL (a2) : List UInt8).toArray⟩), (.string ⟨(ratL (a3) : List UInt8).toArray⟩), (.string ⟨(ratL (c1) : List UInt8).toArray⟩), (.string ⟨(ratL (c2) : List UInt8).toArray⟩), (.string ⟨(ratL (c3) : List UInt8).toArray⟩)] L3 hB q3 ⟨rfl, rfl, rfl, rfl, rfl, rfl, trivial⟩ fun w8 st8 kp8 L3 hB => ?_
 refine sq_nil ?_
 refine k4 _ _ ?_
 try clear k4 K4
 refine wp_ret ?_
 refine bodyPost_ret (v := (.agg #[(.string ⟨(ratL (a1) : List UInt8).toArray⟩), (.string ⟨(ratL (a2) : List UInt8).toArray⟩), (.string ⟨(ratL (a3) : List UInt8).toArray⟩), (.string ⟨(ratL (c1) : List UInt8).toArray⟩), (.string ⟨(ratL (c2) : List UInt8).toArray⟩), (.string ⟨(ratL (c3) : List UInt8).toArray⟩)])) (ret_cell _ _ _ rfl rfl L3 (by kernel_rfl)) rfl ⟨?_, hB⟩
 exact rfl

end Go.Proofs.YtgopfikljndklaaDoor
