/- Printed by a program of the prover's: the operations on rationals. -/
import Derived.Test.YtgopfikljndklaaDoorRat1
namespace Go.Proofs.YtgopfikljndklaaDoor
open Go.RowKit

set_option maxRecDepth 100000 in
set_option maxHeartbeats 1000000 in
theorem add_tt {k m : Nat} {u0 u1 u2 u3 v0 v1 v2 v3 : Value} {a b : Rat} {w : World} (ha : IsRat w k u0 u1 u2 u3 a) (hb : IsRat w m v0 v1 v2 v3 b) (_hk : k + m ≤ 100000) (wa : a.den = 1) (wb : b.den = 1) :
    Calls Tryd.prog 56 #[(.agg #[u0, u1, u2, u3]), (.agg #[v0, v1, v2, v3])] w fun e w' => (∃ c0 c1 c2 c3, e = .returned (.agg #[c0, c1, c2, c3]) ∧ IsRat w' (k + m + 1) c0 c1 c2 c3 (a + b)) ∧ Gr w w' := by
 have hka := ha.big
 have hkb := hb.big
 go_enter Tryd.func56, Tryd.ntmps56
 have hB := Gr.refl w
 refine wp_seq_k (fun K1 k1 => ?_)
 refine rg [0, 1, 2] ?_
 refine se ?_
 refine eb 31 #[u0, u1, u2, u3] 2 hB fun b2 w2 g2 L2 o2 q2 hB => ?_
 simp only [p3, p4]
 refine se ?_
 refine eb 31 #[v0, v1, v2, v3] 3 hB fun b3 w3 g3 L3 o3 q3 hB => ?_
 simp only [p3, p4]
 refine se ?_
 refine ea 31 #[(.bool false), (.slice none 0 0), (.bool false), (.slice none 0 0)] 4 hB fun b4 w4 g4 L4 o4 q4 hB => ?_
 replace L2 := L2.gr g3
 simp only [p3, p4]
 refine sq_nil ?_
 refine k1 _ _ ?_
 try clear k1 K1
 refine wp_seq_k (fun K5 k5 => ?_)
 refine wp_seq_k (fun K6 k6 => ?_)
 refine rg [0, 1, 2, 3, 4, 5] ?_
 replace L2 := L2.gr g4
 refine sw 5 (.agg #[u0, u1, u2, u3]) rfl (rl 31 0 [u0, u1, u2, u3] L2) ?_
 simp only [p3, p4]
 refine se ?_
 have kq8 := g2.kp.trans (g3.kp.trans g4.kp)
 replace ha := ha.kp kq8
 refine ec 6 (whole_t ha (by omega) wa) ?_
 rintro e7 w7 ⟨rfl, g7⟩
 refine ⟨_, rfl, ?_⟩
 replace hB := hB.trans g7
 simp only [p3, p4]
 refine sv 7 (.bool true) ?_
 simp only [p3, p4]
 replace L3 := L3.gr (g4.trans g7)
 refine sw 8 (.agg #[v0, v1, v2, v3]) rfl (rl 31 0 [v0, v1, v2, v3] L3) ?_
 simp only [p3, p4]
 refine se ?_
 have kq10 := g2.kp.trans (g3.kp.trans (g4.kp.trans g7.kp))
 replace hb := hb.kp kq10
 refine ec 9 (whole_t hb (by omega) wb) ?_
 rintro e9 w9 ⟨rfl, g9⟩
 refine ⟨_, rfl, ?_⟩
 replace hB := hB.trans g9
 simp only [p3, p4]
 refine sv 10 (.bool true) ?_
 simp only [p3, p4]
 refine sq_nil ?_
 refine k6 _ _ ?_
 try clear k6 K6
 refine wp_cond_true rfl ?_
 refine wp_seq_k (fun K11 k11 => ?_)
 refine rg [0, 1, 2, 3, 4, 5, 6] ?_
 refine sv 11 (.pointer (some ⟨b2, 0, none⟩)) ?_
 simp only [p3, p4]
 replace L2 := L2.gr (g7.trans g9)
 refine sw 12 (.agg #[u0, u1]) rfl (rl 29 0 [u0, u1] L2) ?_
 simp only [p3, p4]
 refine sv 13 (.pointer (some ⟨b3, 0, none⟩)) ?_
 simp only [p3, p4]
 replace L3 := L3.gr g9
 refine sw 14 (.agg #[v0, v1]) rfl (rl 29 0 [v0, v1] L3) ?_
 simp only [p3, p4]
 refine se ?_
 have kq13 := g7.kp.trans g9.kp
 replace ha := ha.kp kq13
 replace hb := hb.kp g9.kp
 refine ec 15 (add_e (k + m) ha.num hb.num (by omega) (by omega) (by omega)) ?_
 rintro e12 w12 ⟨⟨x12, y12, rfl, h12⟩, g12⟩
 refine ⟨_, rfl, ?_⟩
 replace hB := hB.trans g12
 simp only [p3, p4]
 refine sv 16 (.agg #[x12, y12, (.bool false), (.slice none 0 0)]) ?_
 simp only [p3, p4]
 refine se ?_
 replace L4 := L4.gr (g7.trans (g9.trans g12))
 refine es 31 0 (.agg #[x12, y12, (.bool false), (.slice none 0 0)]) [x12, y12, (.bool false), (.slice none 0 0)] #[x12, y12, (.bool false), (.slice none 0 0)] L4 hB q4 ⟨h12.one0, h12.one1, rfl, rfl, trivial⟩ fun w14 st14 kp14 L4 hB => ?_
 refine sq_nil ?_
 refine k11 _ _ ?_
 try clear k11 K11
 refine wp_ret ?_
 simp only [Exit.then]
 refine bodyPost_ret (v := (.agg #[x12, y12, (.bool false), (.slice none 0 0)])) (ret_cell _ _ _ rfl rfl L4 (by kernel_rfl)) rfl ⟨?_, hB⟩
 replace h12 := h12.kp kp14
 exact ⟨_, _, _, _, rfl, by rw [← rat_int wa, ← rat_int wb, ← Rat.intCast_add]; exact IsRat.int h12 (by omega)⟩

set_option maxRecDepth 100000 in
set_option maxHeartbeats 1000000 in
theorem add_tf {k m : Nat} {u0 u1 u2 u3 v0 v1 v2 v3 : Value} {a b : Rat} {w : World} (ha : IsRat w k u0 u1 u2 u3 a) (hb : IsRat w m v0 v1 v2 v3 b) (_hk : k + m ≤ 100000) (wa : a.den = 1) (wb : b.den ≠ 1) :
    Calls Tryd.prog 56 #[(.agg #[u0, u1, u2, u3]), (.agg #[v0, v1, v2, v3])] w fun e w' => (∃ c0 c1 c2 c3, e = .returned (.agg #[c0, c1, c2, c3]) ∧ IsRat w' (k + m + 1) c0 c1 c2 c3 (a + b)) ∧ Gr w w' := by
 have hka := ha.big
 have hkb := hb.big
 go_enter Tryd.func56, Tryd.ntmps56
 have hB := Gr.refl w
 refine wp_seq_k (fun K1 k1 => ?_)
 refine rg [0, 1, 2] ?_
 refine se ?_
 refine eb 31 #[u0, u1, u2, u3] 2 hB fun b2 w2 g2 L2 o2 q2 hB => ?_
 simp only [p3, p4]
 refine se ?_
 refine eb 31 #[v0, v1, v2, v3] 3 hB fun b3 w3 g3 L3 o3 q3 hB => ?_
 simp only [p3, p4]
 refine se ?_
 refine ea 31 #[(.bool false), (.slice none 0 0), (.bool false), (.slice none 0 0)] 4 hB fun b4 w4 g4 L4 o4 q4 hB => ?_
 replace L2 := L2.gr g3
 have ne2_4 := L2.ne o4
 have ne3_4 := L3.ne o4
 simp only [p3, p4]
 refine sq_nil ?_
 refine k1 _ _ ?_
 try clear k1 K1
 refine wp_seq_k (fun K5 k5 => ?_)
 refine wp_seq_k (fun K6 k6 => ?_)
 refine rg [0, 1, 2, 3, 4, 5] ?_
 replace L2 := L2.gr g4
 refine sw 5 (.agg #[u0, u1, u2, u3]) rfl (rl 31 0 [u0, u1, u2, u3] L2) ?_
 simp only [p3, p4]
 refine se ?_
 have kq8 := g2.kp.trans (g3.kp.trans g4.kp)
 replace ha := ha.kp kq8
 refine ec 6 (whole_t ha (by omega) wa) ?_
 rintro e7 w7 ⟨rfl, g7⟩
 refine ⟨_, rfl, ?_⟩
 replace hB := hB.trans g7
 simp only [p3, p4]
 refine sv 7 (.bool true) ?_
 simp only [p3, p4]
 replace L3 := L3.gr (g4.trans g7)
 refine sw 8 (.agg #[v0, v1, v2, v3]) rfl (rl 31 0 [v0, v1, v2, v3] L3) ?_
 simp only [p3, p4]
 refine se ?_
 have kq10 := g2.kp.trans (g3.kp.trans (g4.kp.trans g7.kp))
 replace hb := hb.kp kq10
 refine ec 9 (whole_f hb (by omega) wb) ?_
 rintro e9 w9 ⟨rfl, g9⟩
 refine ⟨_, rfl, ?_⟩
 replace hB := hB.trans g9
 simp only [p3, p4]
 refine sv 10 (.bool false) ?_
 simp only [p3, p4]
 refine sq_nil ?_
 refine k6 _ _ ?_
 try clear k6 K6
 refine wp_cond_false rfl ?_
 refine wp_skip ?_
 refine k5 _ _ ?_
 try clear k5 K5
 refine wp_seq_k (fun K11 k11 => ?_)
 have gd40 := Gr.drew w9
 replace hB := hB.trans gd40
 replace L2 := L2.gr (g7.trans (g9.trans gd40))
 replace L3 := L3.gr (g9.trans gd40)
 refine wp_region_ord (fun w' => Lc w' b2 #[u0, u1, u2, u3] 31 ∧ Lc w' b3 #[v0, v1, v2, v3] 31) [(true, 0), (true, 1), (true, 2), (true, 5), (true, 6), (true, 7), (true, 11), (true, 13), (false, 3), (false, 4), (false, 8), (false, 9), (false, 10), (false, 12), (false, 14), (false, 15), (false, 16), (false, 17)] (by kernel_rfl) (by kernel_rfl) (by kernel_rfl) (by decide) (fun _ _ _ _ _ h => h) ⟨L2, L3⟩ ?_
 refine ov 17 (.pointer (some ⟨b2, 0, none⟩)) ?_
 simp only [p3, p4]
 refine ow 18 (.agg #[u0, u1]) rfl (fun w' hS => (rl 29 0 [u0, u1] hS.1)) ?_
 simp only [p3, p4]
 refine ow 19 (.agg #[v0, v1, v2, v3]) rfl (fun w' hS => (rl 31 0 [v0, v1, v2, v3] hS.2)) ?_
 simp only [p3, p4]
 refine ov 22 (.pointer (some ⟨b3, 0, none⟩)) ?_
 simp only [p3, p4]
 refine ow 23 (.agg #[v0, v1]) rfl (fun w' hS => (rl 29 0 [v0, v1] hS.2)) ?_
 simp only [p3, p4]
 refine ow 24 (.agg #[u0, u1, u2, u3]) rfl (fun w' hS => (rl 31 0 [u0, u1, u2, u3] hS.1)) ?_
 simp only [p3, p4]
 refine ow 28 (.agg #[u0, u1, u2, u3]) rfl (fun w' hS => (rl 31 0 [u0, u1, u2, u3] hS.1)) ?_
 simp only [p3, p4]
 refine ow 30 (.agg #[v0, v1, v2, v3]) rfl (fun w' hS => (rl 31 0 [v0, v1, v2, v3] hS.2)) ?_
 simp only [p3, p4]
 refine oe ?_
 have kq43 := g9.kp.trans gd40.kp
 replace hb := hb.kp kq43
 refine ec 20 (den_i hb) ?_
 rintro e42 w42 ⟨⟨x42, y42, rfl, h42⟩, g42⟩
 refine ⟨_, rfl, ?_⟩
 replace hB := hB.trans g42
 replace L2 := L2.gr g42
 replace L3 := L3.gr g42
 refine ⟨⟨L2, L3⟩, ?_⟩
 simp only [p3, p4]
 refine oe ?_
 have kq46 := g7.kp.trans (g9.kp.trans (gd40.kp.trans g42.kp))
 replace ha := ha.kp kq46
 refine ec 21 (mul_i ha.num h42 (by omega)) ?_
 rintro e45 w45 ⟨⟨x45, y45, rfl, h45⟩, g45⟩
 refine ⟨_, rfl, ?_⟩
 replace hB := hB.trans g45
 replace L2 := L2.gr g45
 replace L3 := L3.gr g45
 refine ⟨⟨L2, L3⟩, ?_⟩
 simp only [p3, p4]
 refine oe ?_
 replace ha := ha.kp g45.kp
 refine ec 25 (den_i ha) ?_
 rintro e48 w48 ⟨⟨x48, y48, rfl, h48⟩, g48⟩
 refine ⟨_, rfl, ?_⟩
 replace hB := hB.trans g48
 replace L2 := L2.gr g48
 replace L3 := L3.gr g48
 refine ⟨⟨L2, L3⟩, ?_⟩
 simp only [p3, p4]
 refine oe ?_
 have kq51 := g42.kp.trans (g45.kp.trans g48.kp)
 replace hb := hb.kp kq51
 refine ec 26 (mul_i hb.num h48 (by omega)) ?_
 rintro e50 w50 ⟨⟨x50, y50, rfl, h50⟩, g50⟩
 refine ⟨_, rfl, ?_⟩
 replace hB := hB.trans g50
 replace L2 := L2.gr g50
 replace L3 := L3.gr g50
 refine ⟨⟨L2, L3⟩, ?_⟩
 simp only [p3, p4]
 refine oe ?_
 have kq54 := g48.kp.trans g50.kp
 replace h45 := h45.kp kq54
 refine ec 27 (add_e (k + m) h45 h50 (by omega) (by omega) (by omega)) ?_
 rintro e53 w53 ⟨⟨x53, y53, rfl, h53⟩, g53⟩
 refine ⟨_, rfl, ?_⟩
 replace hB := hB.trans g53
 replace L2 := L2.gr g53
 replace L3 := L3.gr g53
 refine ⟨⟨L2, L3⟩, ?_⟩
 simp only [p3, p4]
 refine oe ?_
 have kq57 := g48.kp.trans (g50.kp.trans g53.kp)
 replace ha := ha.kp kq57
 refine ec 29 (den_i ha) ?_
 rintro e56 w56 ⟨⟨x56, y56, rfl, h56⟩, g56⟩
 refine ⟨_, rfl, ?_⟩
 replace hB := hB.trans g56
 replace L2 := L2.gr g56
 replace L3 := L3.gr g56
 refine ⟨⟨L2, L3⟩, ?_⟩
 simp only [p3, p4]
 refine oe ?_
 have kq60 := g50.kp.trans (g53.kp.trans g56.kp)
 replace hb := hb.kp kq60
 refine ec 31 (den_i hb) ?_
 rintro e59 w59 ⟨⟨x59, y59, rfl, h59⟩, g59⟩
 refine ⟨_, rfl, ?_⟩
 replace hB := hB.trans g59
 replace L2 := L2.gr g59
 replace L3 := L3.gr g59
 refine ⟨⟨L2, L3⟩, ?_⟩
 simp only [p3, p4]
 refine oe ?_
 replace h56 := h56.kp g59.kp
 refine ec 32 (mul_i h56 h59 (by omega)) ?_
 rintro e62 w62 ⟨⟨x62, y62, rfl, h62⟩, g62⟩
 refine ⟨_, rfl, ?_⟩
 replace hB := hB.trans g62
 replace L2 := L2.gr g62
 replace L3 := L3.gr g62
 refine ⟨⟨L2, L3⟩, ?_⟩
 simp only [p3, p4]
 refine oe ?_
 have kq65 := g56.kp.trans (g59.kp.trans g62.kp)
 replace h53 := h53.kp kq65
 refine ec 33 (reduced_i ((k + m + 1)) h53 h62 (Int.mul_pos (Int.natCast_pos.2 a.den_pos) (Int.natCast_pos.2 b.den_pos)) (by omega) (by omega) (by omega) (by omega)) ?_
 rintro e64 w64 ⟨⟨p64, q64, r64, s64, rfl, h64⟩, g64⟩
 refine ⟨_, rfl, ?_⟩
 replace hB := hB.trans g64
 replace L2 := L2.gr g64
 replace L3 := L3.gr g64
 refine ⟨⟨L2, L3⟩, ?_⟩
 simp only [p3, p4]
 refine oe ?_
 replace L4 := L4.gr (g7.trans (g9.trans (gd40.trans (g42.trans (g45.trans (g48.trans (g50.trans (g53.trans (g56.trans (g59.trans (g62.trans g64)))))))))))
 refine es 31 0 (.agg #[p64, q64, r64, s64]) [p64, q64, r64, s64] #[p64, q64, r64, s64] L4 hB q4 ⟨h64.one0, h64.one1, h64.one2, h64.one3, trivial⟩ fun w67 st67 kp67 L4 hB => ?_
 replace L2 := st67.lc L2 ne2_4
 replace L3 := st67.lc L3 ne3_4
 refine ⟨⟨L2, L3⟩, ?_⟩
 refine ord_nil ?_
 refine k11 _ _ ?_
 try clear k11 K11
 refine wp_ret ?_
 refine bodyPost_ret (v := (.agg #[p64, q64, r64, s64])) (ret_cell _ _ _ rfl rfl L4 (by kernel_rfl)) rfl ⟨?_, hB⟩
 replace h64 := h64.kp kp67
 exact ⟨_, _, _, _, rfl, by rw [← rat_add]; exact h64⟩

set_option maxRecDepth 100000 in
set_option maxHeartbeats 1000000 in
theorem add_f {k m : Nat} {u0 u1 u2 u3 v0 v1 v2 v3 : Value} {a b : Rat} {w : World} (ha : IsRat w k u0 u1 u2 u3 a) (hb : IsRat w m v0 v1 v2 v3 b) (_hk : k + m ≤ 100000) (wa : a.den ≠ 1) :
    Calls Tryd.prog 56 #[(.agg #[u0, u1, u2, u3]), (.agg #[v0, v1, v2, v3])] w fun e w' => (∃ c0 c1 c2 c3, e = .returned (.agg #[c0, c1, c2, c3]) ∧ IsRat w' (k + m + 1) c0 c1 c2 c3 (a + b)) ∧ Gr w w' := by
 have hka := ha.big
 have hkb := hb.big
 go_enter Tryd.func56, Tryd.ntmps56
 have hB := Gr.refl w
 refine wp_seq_k (fun K1 k1 => ?_)
 refine rg [0, 1, 2] ?_
 refine se ?_
 refine eb 31 #[u0, u1, u2, u3] 2 hB fun b2 w2 g2 L2 o2 q2 hB => ?_
 simp only [p3, p4]
 refine se ?_
 refine eb 31 #[v0, v1, v2, v3] 3 hB fun b3 w3 g3 L3 o3 q3 hB => ?_
 simp only [p3, p4]
 refine se ?_
 refine ea 31 #[(.bool false), (.slice none 0 0), (.bool false), (.slice none 0 0)] 4 hB fun b4 w4 g4 L4 o4 q4 hB => ?_
 replace L2 := L2.gr g3
 have ne2_4 := L2.ne o4
 have ne3_4 := L3.ne o4
 simp only [p3, p4]
 refine sq_nil ?_
 refine k1 _ _ ?_
 try clear k1 K1
 refine wp_seq_k (fun K5 k5 => ?_)
 refine wp_seq_k (fun K6 k6 => ?_)
 refine rg [0, 1, 2, 3, 4, 5] ?_
 replace L2 := L2.gr g4
 refine sw 5 (.agg #[u0, u1, u2, u3]) rfl (rl 31 0 [u0, u1, u2, u3] L2) ?_
 simp only [p3, p4]
 refine se ?_
 have kq8 := g2.kp.trans (g3.kp.trans g4.kp)
 replace ha := ha.kp kq8
 refine ec 6 (whole_f ha (by omega) wa) ?_
 rintro e7 w7 ⟨rfl, g7⟩
 refine ⟨_, rfl, ?_⟩
 replace hB := hB.trans g7
 simp only [p3, p4]
 refine sv 7 (.bool false) ?_
 simp only [p3, p4]
 refine ss 8 ?_
 simp only [p3, p4]
 refine ss 9 ?_
 simp only [p3, p4]
 refine sv 10 (.bool false) ?_
 simp only [p3, p4]
 refine sq_nil ?_
 refine k6 _ _ ?_
 try clear k6 K6
 refine wp_cond_false rfl ?_
 refine wp_skip ?_
 refine k5 _ _ ?_
 try clear k5 K5
 refine wp_seq_k (fun K9 k9 => ?_)
 have gd38 := Gr.drew w7
 replace hB := hB.trans gd38
 replace L2 := L2.gr (g7.trans gd38)
 replace L3 := L3.gr (g4.trans (g7.trans gd38))
 refine wp_region_ord (fun w' => Lc w' b2 #[u0, u1, u2, u3] 31 ∧ Lc w' b3 #[v0, v1, v2, v3] 31) [(true, 0), (true, 1), (true, 2), (true, 5), (true, 6), (true, 7), (true, 11), (true, 13), (false, 3), (false, 4), (false, 8), (false, 9), (false, 10), (false, 12), (false, 14), (false, 15), (false, 16), (false, 17)] (by kernel_rfl) (by kernel_rfl) (by kernel_rfl) (by decide) (fun _ _ _ _ _ h => h) ⟨L2, L3⟩ ?_
 refine ov 17 (.pointer (some ⟨b2, 0, none⟩)) ?_
 simp only [p3, p4]
 refine ow 18 (.agg #[u0, u1]) rfl (fun w' hS => (rl 29 0 [u0, u1] hS.1)) ?_
 simp only [p3, p4]
 refine ow 19 (.agg #[v0, v1, v2, v3]) rfl (fun w' hS => (rl 31 0 [v0, v1, v2, v3] hS.2)) ?_
 simp only [p3, p4]
 refine ov 22 (.pointer (some ⟨b3, 0, none⟩)) ?_
 simp only [p3, p4]
 refine ow 23 (.agg #[v0, v1]) rfl (fun w' hS => (rl 29 0 [v0, v1] hS.2)) ?_
 simp only [p3, p4]
 refine ow 24 (.agg #[u0, u1, u2, u3]) rfl (fun w' hS => (rl 31 0 [u0, u1, u2, u3] hS.1)) ?_
 simp only [p3, p4]
 refine ow 28 (.agg #[u0, u1, u2, u3]) rfl (fun w' hS => (rl 31 0 [u0, u1, u2, u3] hS.1)) ?_
 simp only [p3, p4]
 refine ow 30 (.agg #[v0, v1, v2, v3]) rfl (fun w' hS => (rl 31 0 [v0, v1, v2, v3] hS.2)) ?_
 simp only [p3, p4]
 refine oe ?_
 have kq41 := g2.kp.trans (g3.kp.trans (g4.kp.trans (g7.kp.trans gd38.kp)))
 replace hb := hb.kp kq41
 refine ec 20 (den_i hb) ?_
 rintro e40 w40 ⟨⟨x40, y40, rfl, h40⟩, g40⟩
 refine ⟨_, rfl, ?_⟩
 replace hB := hB.trans g40
 replace L2 := L2.gr g40
 replace L3 := L3.gr g40
 refine ⟨⟨L2, L3⟩, ?_⟩
 simp only [p3, p4]
 refine oe ?_
 have kq44 := g7.kp.trans (gd38.kp.trans g40.kp)
 replace ha := ha.kp kq44
 refine ec 21 (mul_i ha.num h40 (by omega)) ?_
 rintro e43 w43 ⟨⟨x43, y43, rfl, h43⟩, g43⟩
 refine ⟨_, rfl, ?_⟩
 replace hB := hB.trans g43
 replace L2 := L2.gr g43
 replace L3 := L3.gr g43
 refine ⟨⟨L2, L3⟩, ?_⟩
 simp only [p3, p4]
 refine oe ?_
 replace ha := ha.kp g43.kp
 refine ec 25 (den_i ha) ?_
 rintro e46 w46 ⟨⟨x46, y46, rfl, h46⟩, g46⟩
 refine ⟨_, rfl, ?_⟩
 replace hB := hB.trans g46
 replace L2 := L2.gr g46
 replace L3 := L3.gr g46
 refine ⟨⟨L2, L3⟩, ?_⟩
 simp only [p3, p4]
 refine oe ?_
 have kq49 := g40.kp.trans (g43.kp.trans g46.kp)
 replace hb := hb.kp kq49
 refine ec 26 (mul_i hb.num h46 (by omega)) ?_
 rintro e48 w48 ⟨⟨x48, y48, rfl, h48⟩, g48⟩
 refine ⟨_, rfl, ?_⟩
 replace hB := hB.trans g48
 replace L2 := L2.gr g48
 replace L3 := L3.gr g48
 refine ⟨⟨L2, L3⟩, ?_⟩
 simp only [p3, p4]
 refine oe ?_
 have kq52 := g46.kp.trans g48.kp
 replace h43 := h43.kp kq52
 refine ec 27 (add_e (k + m) h43 h48 (by omega) (by omega) (by omega)) ?_
 rintro e51 w51 ⟨⟨x51, y51, rfl, h51⟩, g51⟩
 refine ⟨_, rfl, ?_⟩
 replace hB := hB.trans g51
 replace L2 := L2.gr g51
 replace L3 := L3.gr g51
 refine ⟨⟨L2, L3⟩, ?_⟩
 simp only [p3, p4]
 refine oe ?_
 have kq55 := g46.kp.trans (g48.kp.trans g51.kp)
 replace ha := ha.kp kq55
 refine ec 29 (den_i ha) ?_
 rintro e54 w54 ⟨⟨x54, y54, rfl, h54⟩, g54⟩
 refine ⟨_, rfl, ?_⟩
 replace hB := hB.trans g54
 replace L2 := L2.gr g54
 replace L3 := L3.gr g54
 refine ⟨⟨L2, L3⟩, ?_⟩
 simp only [p3, p4]
 refine oe ?_
 have kq58 := g48.kp.trans (g51.kp.trans g54.kp)
 replace hb := hb.kp kq58
 refine ec 31 (den_i hb) ?_
 rintro e57 w57 ⟨⟨x57, y57, rfl, h57⟩, g57⟩
 refine ⟨_, rfl, ?_⟩
 replace hB := hB.trans g57
 replace L2 := L2.gr g57
 replace L3 := L3.gr g57
 refine ⟨⟨L2, L3⟩, ?_⟩
 simp only [p3, p4]
 refine oe ?_
 replace h54 := h54.kp g57.kp
 refine ec 32 (mul_i h54 h57 (by omega)) ?_
 rintro e60 w60 ⟨⟨x60, y60, rfl, h60⟩, g60⟩
 refine ⟨_, rfl, ?_⟩
 replace hB := hB.trans g60
 replace L2 := L2.gr g60
 replace L3 := L3.gr g60
 refine ⟨⟨L2, L3⟩, ?_⟩
 simp only [p3, p4]
 refine oe ?_
 have kq63 := g54.kp.trans (g57.kp.trans g60.kp)
 replace h51 := h51.kp kq63
 refine ec 33 (reduced_i ((k + m + 1)) h51 h60 (Int.mul_pos (Int.natCast_pos.2 a.den_pos) (Int.natCast_pos.2 b.den_pos)) (by omega) (by omega) (by omega) (by omega)) ?_
 rintro e62 w62 ⟨⟨p62, q62, r62, s62, rfl, h62⟩, g62⟩
 refine ⟨_, rfl, ?_⟩
 replace hB := hB.trans g62
 replace L2 := L2.gr g62
 replace L3 := L3.gr g62
 refine ⟨⟨L2, L3⟩, ?_⟩
 simp only [p3, p4]
 refine oe ?_
 replace L4 := L4.gr (g7.trans (gd38.trans (g40.trans (g43.trans (g46.trans (g48.trans (g51.trans (g54.trans (g57.trans (g60.trans g62))))))))))
 refine es 31 0 (.agg #[p62, q62, r62, s62]) [p62, q62, r62, s62] #[p62, q62, r62, s62] L4 hB q4 ⟨h62.one0, h62.one1, h62.one2, h62.one3, trivial⟩ fun w65 st65 kp65 L4 hB => ?_
 replace L2 := st65.lc L2 ne2_4
 replace L3 := st65.lc L3 ne3_4
 refine ⟨⟨L2, L3⟩, ?_⟩
 refine ord_nil ?_
 refine k9 _ _ ?_
 try clear k9 K9
 refine wp_ret ?_
 refine bodyPost_ret (v := (.agg #[p62, q62, r62, s62])) (ret_cell _ _ _ rfl rfl L4 (by kernel_rfl)) rfl ⟨?_, hB⟩
 replace h62 := h62.kp kp65
 exact ⟨_, _, _, _, rfl, by rw [← rat_add]; exact h62⟩

theorem add_r {k m : Nat} {u0 u1 u2 u3 v0 v1 v2 v3 : Value} {a b : Rat} {w : World} (ha : IsRat w k u0 u1 u2 u3 a) (hb : IsRat w m v0 v1 v2 v3 b) (hk : k + m ≤ 100000) :
    Calls Tryd.prog 56 #[.agg #[u0, u1, u2, u3], .agg #[v0, v1, v2, v3]] w fun e w' => (∃ c0 c1 c2 c3, e = .returned (.agg #[c0, c1, c2, c3]) ∧ IsRat w' (k + m + 1) c0 c1 c2 c3 (a + b)) ∧ Gr w w' := by
  by_cases wa : a.den = 1
  · by_cases wb : b.den = 1
    · exact add_tt ha hb hk wa wb
    · exact add_tf ha hb hk wa wb
  · exact add_f ha hb hk wa

set_option maxRecDepth 100000 in
set_option maxHeartbeats 1000000 in
theorem mul_tt {k m : Nat} {u0 u1 u2 u3 v0 v1 v2 v3 : Value} {a b : Rat} {w : World} (ha : IsRat w k u0 u1 u2 u3 a) (hb : IsRat w m v0 v1 v2 v3 b) (_hk : k + m ≤ 100000) (wa : a.den = 1) (wb : b.den = 1) :
    Calls Tryd.prog 33 #[(.agg #[u0, u1, u2, u3]), (.agg #[v0, v1, v2, v3])] w fun e w' => (∃ c0 c1 c2 c3, e = .returned (.agg #[c0, c1, c2, c3]) ∧ IsRat w' (k + m) c0 c1 c2 c3 (a * b)) ∧ Gr w w' := by
 have hka := ha.big
 have hkb := hb.big
 go_enter Tryd.func33, Tryd.ntmps33
 have hB := Gr.refl w
 refine wp_seq_k (fun K1 k1 => ?_)
 refine rg [0, 1, 2] ?_
 refine se ?_
 refine eb 31 #[u0, u1, u2, u3] 2 hB fun b2 w2 g2 L2 o2 q2 hB => ?_
 simp only [p3, p4]
 refine se ?_
 refine eb 31 #[v0, v1, v2, v3] 3 hB fun b3 w3 g3 L3 o3 q3 hB => ?_
 simp only [p3, p4]
 refine se ?_
 refine ea 31 #[(.bool false), (.slice none 0 0), (.bool false), (.slice none 0 0)] 4 hB fun b4 w4 g4 L4 o4 q4 hB => ?_
 replace L2 := L2.gr g3
 simp only [p3, p4]
 refine sq_nil ?_
 refine k1 _ _ ?_
 try clear k1 K1
 refine wp_seq_k (fun K5 k5 => ?_)
 refine wp_seq_k (fun K6 k6 => ?_)
 refine rg [0, 1, 2, 3, 4, 5] ?_
 replace L2 := L2.gr g4
 refine sw 5 (.agg #[u0, u1, u2, u3]) rfl (rl 31 0 [u0, u1, u2, u3] L2) ?_
 simp only [p3, p4]
 refine se ?_
 have kq8 := g2.kp.trans (g3.kp.trans g4.kp)
 replace ha := ha.kp kq8
 refine ec 6 (whole_t ha (by omega) wa) ?_
 rintro e7 w7 ⟨rfl, g7⟩
 refine ⟨_, rfl, ?_⟩
 replace hB := hB.trans g7
 simp only [p3, p4]
 refine sv 7 (.bool true) ?_
 simp only [p3, p4]
 replace L3 := L3.gr (g4.trans g7)
 refine sw 8 (.agg #[v0, v1, v2, v3]) rfl (rl 31 0 [v0, v1, v2, v3] L3) ?_
 simp only [p3, p4]
 refine se ?_
 have kq10 := g2.kp.trans (g3.kp.trans (g4.kp.trans g7.kp))
 replace hb := hb.kp kq10
 refine ec 9 (whole_t hb (by omega) wb) ?_
 rintro e9 w9 ⟨rfl, g9⟩
 refine ⟨_, rfl, ?_⟩
 replace hB := hB.trans g9
 simp only [p3, p4]
 refine sv 10 (.bool true) ?_
 simp only [p3, p4]
 refine sq_nil ?_
 refine k6 _ _ ?_
 try clear k6 K6
 refine wp_cond_true rfl ?_
 refine wp_seq_k (fun K11 k11 => ?_)
 refine rg [0, 1, 2, 3, 4, 5, 6] ?_
 refine sv 11 (.pointer (some ⟨b2, 0, none⟩)) ?_
 simp only [p3, p4]
 replace L2 := L2.gr (g7.trans g9)
 refine sw 12 (.agg #[u0, u1]) rfl (rl 29 0 [u0, u1] L2) ?_
 simp only [p3, p4]
 refine sv 13 (.pointer (some ⟨b3, 0, none⟩)) ?_
 simp only [p3, p4]
 replace L3 := L3.gr g9
 refine sw 14 (.agg #[v0, v1]) rfl (rl 29 0 [v0, v1] L3) ?_
 simp only [p3, p4]
 refine se ?_
 have kq13 := g7.kp.trans g9.kp
 replace ha := ha.kp kq13
 replace hb := hb.kp g9.kp
 refine ec 15 (mul_i ha.num hb.num (by omega)) ?_
 rintro e12 w12 ⟨⟨x12, y12, rfl, h12⟩, g12⟩
 refine ⟨_, rfl, ?_⟩
 replace hB := hB.trans g12
 simp only [p3, p4]
 refine sv 16 (.agg #[x12, y12, (.bool false), (.slice none 0 0)]) ?_
 simp only [p3, p4]
 refine se ?_
 replace L4 := L4.gr (g7.trans (g9.trans g12))
 refine es 31 0 (.agg #[x12, y12, (.bool false), (.slice none 0 0)]) [x12, y12, (.bool false), (.slice none 0 0)] #[x12, y12, (.bool false), (.slice none 0 0)] L4 hB q4 ⟨h12.one0, h12.one1, rfl, rfl, trivial⟩ fun w14 st14 kp14 L4 hB => ?_
 refine sq_nil ?_
 refine k11 _ _ ?_
 try clear k11 K11
 refine wp_ret ?_
 simp only [Exit.then]
 refine bodyPost_ret (v := (.agg #[x12, y12, (.bool false), (.slice none 0 0)])) (ret_cell _ _ _ rfl rfl L4 (by kernel_rfl)) rfl ⟨?_, hB⟩
 replace h12 := h12.kp kp14
 exact ⟨_, _, _, _, rfl, by rw [← rat_int wa, ← rat_int wb, ← Rat.intCast_mul]; exact IsRat.int h12 (by omega)⟩

set_option maxRecDepth 100000 in
set_option maxHeartbeats 1000000 in
theorem mul_tf {k m : Nat} {u0 u1 u2 u3 v0 v1 v2 v3 : Value} {a b : Rat} {w : World} (ha : IsRat w k u0 u1 u2 u3 a) (hb : IsRat w m v0 v1 v2 v3 b) (_hk : k + m ≤ 100000) (wa : a.den = 1) (wb : b.den ≠ 1) :
    Calls Tryd.prog 33 #[(.agg #[u0, u1, u2, u3]), (.agg #[v0, v1, v2, v3])] w fun e w' => (∃ c0 c1 c2 c3, e = .returned (.agg #[c0, c1, c2, c3]) ∧ IsRat w' (k + m) c0 c1 c2 c3 (a * b)) ∧ Gr w w' := by
 have hka := ha.big
 have hkb := hb.big
 go_enter Tryd.func33, Tryd.ntmps33
 have hB := Gr.refl w
 refine wp_seq_k (fun K1 k1 => ?_)
 refine rg [0, 1, 2] ?_
 refine se ?_
 refine eb 31 #[u0, u1, u2, u3] 2 hB fun b2 w2 g2 L2 o2 q2 hB => ?_
 simp only [p3, p4]
 refine se ?_
 refine eb 31 #[v0, v1, v2, v3] 3 hB fun b3 w3 g3 L3 o3 q3 hB => ?_
 simp only [p3, p4]
 refine se ?_
 refine ea 31 #[(.bool false), (.slice none 0 0), (.bool false), (.slice none 0 0)] 4 hB fun b4 w4 g4 L4 o4 q4 hB => ?_
 replace L2 := L2.gr g3
 have ne2_4 := L2.ne o4
 have ne3_4 := L3.ne o4
 simp only [p3, p4]
 refine sq_nil ?_
 refine k1 _ _ ?_
 try clear k1 K1
 refine wp_seq_k (fun K5 k5 => ?_)
 refine wp_seq_k (fun K6 k6 => ?_)
 refine rg [0, 1, 2, 3, 4, 5] ?_
 replace L2 := L2.gr g4
 refine sw 5 (.agg #[u0, u1, u2, u3]) rfl (rl 31 0 [u0, u1, u2, u3] L2) ?_
 simp only [p3, p4]
 refine se ?_
 have kq8 := g2.kp.trans (g3.kp.trans g4.kp)
 replace ha := ha.kp kq8
 refine ec 6 (whole_t ha (by omega) wa) ?_
 rintro e7 w7 ⟨rfl, g7⟩
 refine ⟨_, rfl, ?_⟩
 replace hB := hB.trans g7
 simp only [p3, p4]
 refine sv 7 (.bool true) ?_
 simp only [p3, p4]
 replace L3 := L3.gr (g4.trans g7)
 refine sw 8 (.agg #[v0, v1, v2, v3]) rfl (rl 31 0 [v0, v1, v2, v3] L3) ?_
 simp only [p3, p4]
 refine se ?_
 have kq10 := g2.kp.trans (g3.kp.trans (g4.kp.trans g7.kp))
 replace hb := hb.kp kq10
 refine ec 9 (whole_f hb (by omega) wb) ?_
 rintro e9 w9 ⟨rfl, g9⟩
 refine ⟨_, rfl, ?_⟩
 replace hB := hB.trans g9
 simp only [p3, p4]
 refine sv 10 (.bool false) ?_
 simp only [p3, p4]
 refine sq_nil ?_
 refine k6 _ _ ?_
 try clear k6 K6
 refine wp_cond_false rfl ?_
 refine wp_skip ?_
 refine k5 _ _ ?_
 try clear k5 K5
 refine wp_seq_k (fun K11 k11 => ?_)
 have gd29 := Gr.drew w9
 replace hB := hB.trans gd29
 replace L2 := L2.gr (g7.trans (g9.trans gd29))
 replace L3 := L3.gr (g9.trans gd29)
 refine wp_region_ord (fun w' => Lc w' b2 #[u0, u1, u2, u3] 31 ∧ Lc w' b3 #[v0, v1, v2, v3] 31) [(true, 0), (true, 1), (true, 2), (true, 3), (true, 5), (true, 7), (false, 4), (false, 6), (false, 8), (false, 9), (false, 10), (false, 11)] (by kernel_rfl) (by kernel_rfl) (by kernel_rfl) (by decide) (fun _ _ _ _ _ h => h) ⟨L2, L3⟩ ?_
 refine ov 17 (.pointer (some ⟨b2, 0, none⟩)) ?_
 simp only [p3, p4]
 refine ow 18 (.agg #[u0, u1]) rfl (fun w' hS => (rl 29 0 [u0, u1] hS.1)) ?_
 simp only [p3, p4]
 refine ov 19 (.pointer (some ⟨b3, 0, none⟩)) ?_
 simp only [p3, p4]
 refine ow 20 (.agg #[v0, v1]) rfl (fun w' hS => (rl 29 0 [v0, v1] hS.2)) ?_
 simp only [p3, p4]
 refine ow 22 (.agg #[u0, u1, u2, u3]) rfl (fun w' hS => (rl 31 0 [u0, u1, u2, u3] hS.1)) ?_
 simp only [p3, p4]
 refine ow 24 (.agg #[v0, v1, v2, v3]) rfl (fun w' hS => (rl 31 0 [v0, v1, v2, v3] hS.2)) ?_
 simp only [p3, p4]
 refine oe ?_
 have kq32 := g7.kp.trans (g9.kp.trans gd29.kp)
 replace ha := ha.kp kq32
 have kq33 := g9.kp.trans gd29.kp
 replace hb := hb.kp kq33
 refine ec 21 (mul_i ha.num hb.num (by omega)) ?_
 rintro e31 w31 ⟨⟨x31, y31, rfl, h31⟩, g31⟩
 refine ⟨_, rfl, ?_⟩
 replace hB := hB.trans g31
 replace L2 := L2.gr g31
 replace L3 := L3.gr g31
 refine ⟨⟨L2, L3⟩, ?_⟩
 simp only [p3, p4]
 refine oe ?_
 replace ha := ha.kp g31.kp
 refine ec 23 (den_i ha) ?_
 rintro e35 w35 ⟨⟨x35, y35, rfl, h35⟩, g35⟩
 refine ⟨_, rfl, ?_⟩
 replace hB := hB.trans g35
 replace L2 := L2.gr g35
 replace L3 := L3.gr g35
 refine ⟨⟨L2, L3⟩, ?_⟩
 simp only [p3, p4]
 refine oe ?_
 have kq38 := g31.kp.trans g35.kp
 replace hb := hb.kp kq38
 refine ec 25 (den_i hb) ?_
 rintro e37 w37 ⟨⟨x37, y37, rfl, h37⟩, g37⟩
 refine ⟨_, rfl, ?_⟩
 replace hB := hB.trans g37
 replace L2 := L2.gr g37
 replace L3 := L3.gr g37
 refine ⟨⟨L2, L3⟩, ?_⟩
 simp only [p3, p4]
 refine oe ?_
 replace h35 := h35.kp g37.kp
 refine ec 26 (mul_i h35 h37 (by omega)) ?_
 rintro e40 w40 ⟨⟨x40, y40, rfl, h40⟩, g40⟩
 refine ⟨_, rfl, ?_⟩
 replace hB := hB.trans g40
 replace L2 := L2.gr g40
 replace L3 := L3.gr g40
 refine ⟨⟨L2, L3⟩, ?_⟩
 simp only [p3, p4]
 refine oe ?_
 have kq43 := g35.kp.trans (g37.kp.trans g40.kp)
 replace h31 := h31.kp kq43
 refine ec 27 (reduced_i ((k + m)) h31 h40 (Int.mul_pos (Int.natCast_pos.2 a.den_pos) (Int.natCast_pos.2 b.den_pos)) (by omega) (by omega) (by omega) (by omega)) ?_
 rintro e42 w42 ⟨⟨p42, q42, r42, s42, rfl, h42⟩, g42⟩
 refine ⟨_, rfl, ?_⟩
 replace hB := hB.trans g42
 replace L2 := L2.gr g42
 replace L3 := L3.gr g42
 refine ⟨⟨L2, L3⟩, ?_⟩
 simp only [p3, p4]
 refine oe ?_
 replace L4 := L4.gr (g7.trans (g9.trans (gd29.trans (g31.trans (g35.trans (g37.trans (g40.trans g42)))))))
 refine es 31 0 (.agg #[p42, q42, r42, s42]) [p42, q42, r42, s42] #[p42, q42, r42, s42] L4 hB q4 ⟨h42.one0, h42.one1, h42.one2, h42.one3, trivial⟩ fun w45 st45 kp45 L4 hB => ?_
 replace L2 := st45.lc L2 ne2_4
 replace L3 := st45.lc L3 ne3_4
 refine ⟨⟨L2, L3⟩, ?_⟩
 refine ord_nil ?_
 refine k11 _ _ ?_
 try clear k11 K11
 refine wp_ret ?_
 refine bodyPost_ret (v := (.agg #[p42, q42, r42, s42])) (ret_cell _ _ _ rfl rfl L4 (by kernel_rfl)) rfl ⟨?_, hB⟩
 replace h42 := h42.kp kp45
 exact ⟨_, _, _, _, rfl, by rw [← rat_mul]; exact h42⟩

set_option maxRecDepth 100000 in
set_option maxHeartbeats 1000000 in
theorem mul_f {k m : Nat} {u0 u1 u2 u3 v0 v1 v2 v3 : Value} {a b : Rat} {w : World} (ha : IsRat w k u0 u1 u2 u3 a) (hb : IsRat w m v0 v1 v2 v3 b) (_hk : k + m ≤ 100000) (wa : a.den ≠ 1) :
    Calls Tryd.prog 33 #[(.agg #[u0, u1, u2, u3]), (.agg #[v0, v1, v2, v3])] w fun e w' => (∃ c0 c1 c2 c3, e = .returned (.agg #[c0, c1, c2, c3]) ∧ IsRat w' (k + m) c0 c1 c2 c3 (a * b)) ∧ Gr w w' := by
 have hka := ha.big
 have hkb := hb.big
 go_enter Tryd.func33, Tryd.ntmps33
 have hB := Gr.refl w
 refine wp_seq_k (fun K1 k1 => ?_)
 refine rg [0, 1, 2] ?_
 refine se ?_
 refine eb 31 #[u0, u1, u2, u3] 2 hB fun b2 w2 g2 L2 o2 q2 hB => ?_
 simp only [p3, p4]
 refine se ?_
 refine eb 31 #[v0, v1, v2, v3] 3 hB fun b3 w3 g3 L3 o3 q3 hB => ?_
 simp only [p3, p4]
 refine se ?_
 refine ea 31 #[(.bool false), (.slice none 0 0), (.bool false), (.slice none 0 0)] 4 hB fun b4 w4 g4 L4 o4 q4 hB => ?_
 replace L2 := L2.gr g3
 have ne2_4 := L2.ne o4
 have ne3_4 := L3.ne o4
 simp only [p3, p4]
 refine sq_nil ?_
 refine k1 _ _ ?_
 try clear k1 K1
 refine wp_seq_k (fun K5 k5 => ?_)
 refine wp_seq_k (fun K6 k6 => ?_)
 refine rg [0, 1, 2, 3, 4, 5] ?_
 replace L2 := L2.gr g4
 refine sw 5 (.agg #[u0, u1, u2, u3]) rfl (rl 31 0 [u0, u1, u2, u3] L2) ?_
 simp only [p3, p4]
 refine se ?_
 have kq8 := g2.kp.trans (g3.kp.trans g4.kp)
 replace ha := ha.kp kq8
 refine ec 6 (whole_f ha (by omega) wa) ?_
 rintro e7 w7 ⟨rfl, g7⟩
 refine ⟨_, rfl, ?_⟩
 replace hB := hB.trans g7
 simp only [p3, p4]
 refine sv 7 (.bool false) ?_
 simp only [p3, p4]
 refine ss 8 ?_
 simp only [p3, p4]
 refine ss 9 ?_
 simp only [p3, p4]
 refine sv 10 (.bool false) ?_
 simp only [p3, p4]
 refine sq_nil ?_
 refine k6 _ _ ?_
 try clear k6 K6
 refine wp_cond_false rfl ?_
 refine wp_skip ?_
 refine k5 _ _ ?_
 try clear k5 K5
 refine wp_seq_k (fun K9 k9 => ?_)
 have gd27 := Gr.drew w7
 replace hB := hB.trans gd27
 replace L2 := L2.gr (g7.trans gd27)
 replace L3 := L3.gr (g4.trans (g7.trans gd27))
 refine wp_region_ord (fun w' => Lc w' b2 #[u0, u1, u2, u3] 31 ∧ Lc w' b3 #[v0, v1, v2, v3] 31) [(true, 0), (true, 1), (true, 2), (true, 3), (true, 5), (true, 7), (false, 4), (false, 6), (false, 8), (false, 9), (false, 10), (false, 11)] (by kernel_rfl) (by kernel_rfl) (by kernel_rfl) (by decide) (fun _ _ _ _ _ h => h) ⟨L2, L3⟩ ?_
 refine ov 17 (.pointer (some ⟨b2, 0, none⟩)) ?_
 simp only [p3, p4]
 refine ow 18 (.agg #[u0, u1]) rfl (fun w' hS => (rl 29 0 [u0, u1] hS.1)) ?_
 simp only [p3, p4]
 refine ov 19 (.pointer (some ⟨b3, 0, none⟩)) ?_
 simp only [p3, p4]
 refine ow 20 (.agg #[v0, v1]) rfl (fun w' hS => (rl 29 0 [v0, v1] hS.2)) ?_
 simp only [p3, p4]
 refine ow 22 (.agg #[u0, u1, u2, u3]) rfl (fun w' hS => (rl 31 0 [u0, u1, u2, u3] hS.1)) ?_
 simp only [p3, p4]
 refine ow 24 (.agg #[v0, v1, v2, v3]) rfl (fun w' hS => (rl 31 0 [v0, v1, v2, v3] hS.2)) ?_
 simp only [p3, p4]
 refine oe ?_
 have kq30 := g7.kp.trans gd27.kp
 replace ha := ha.kp kq30
 have kq31 := g2.kp.trans (g3.kp.trans (g4.kp.trans (g7.kp.trans gd27.kp)))
 replace hb := hb.kp kq31
 refine ec 21 (mul_i ha.num hb.num (by omega)) ?_
 rintro e29 w29 ⟨⟨x29, y29, rfl, h29⟩, g29⟩
 refine ⟨_, rfl, ?_⟩
 replace hB := hB.trans g29
 replace L2 := L2.gr g29
 replace L3 := L3.gr g29
 refine ⟨⟨L2, L3⟩, ?_⟩
 simp only [p3, p4]
 refine oe ?_
 replace ha := ha.kp g29.kp
 refine ec 23 (den_i ha) ?_
 rintro e33 w33 ⟨⟨x33, y33, rfl, h33⟩, g33⟩
 refine ⟨_, rfl, ?_⟩
 replace hB := hB.trans g33
 replace L2 := L2.gr g33
 replace L3 := L3.gr g33
 refine ⟨⟨L2, L3⟩, ?_⟩
 simp only [p3, p4]
 refine oe ?_
 have kq36 := g29.kp.trans g33.kp
 replace hb := hb.kp kq36
 refine ec 25 (den_i hb) ?_
 rintro e35 w35 ⟨⟨x35, y35, rfl, h35⟩, g35⟩
 refine ⟨_, rfl, ?_⟩
 replace hB := hB.trans g35
 replace L2 := L2.gr g35
 replace L3 := L3.gr g35
 refine ⟨⟨L2, L3⟩, ?_⟩
 simp only [p3, p4]
 refine oe ?_
 replace h33 := h33.kp g35.kp
 refine ec 26 (mul_i h33 h35 (by omega)) ?_
 rintro e38 w38 ⟨⟨x38, y38, rfl, h38⟩, g38⟩
 refine ⟨_, rfl, ?_⟩
 replace hB := hB.trans g38
 replace L2 := L2.gr g38
 replace L3 := L3.gr g38
 refine ⟨⟨L2, L3⟩, ?_⟩
 simp only [p3, p4]
 refine oe ?_
 have kq41 := g33.kp.trans (g35.kp.trans g38.kp)
 replace h29 := h29.kp kq41
 refine ec 27 (reduced_i ((k + m)) h29 h38 (Int.mul_pos (Int.natCast_pos.2 a.den_pos) (Int.natCast_pos.2 b.den_pos)) (by omega) (by omega) (by omega) (by omega)) ?_
 rintro e40 w40 ⟨⟨p40, q40, r40, s40, rfl, h40⟩, g40⟩
 refine ⟨_, rfl, ?_⟩
 replace hB := hB.trans g40
 replace L2 := L2.gr g40
 replace L3 := L3.gr g40
 refine ⟨⟨L2, L3⟩, ?_⟩
 simp only [p3, p4]
 refine oe ?_
 replace L4 := L4.gr (g7.trans (gd27.trans (g29.trans (g33.trans (g35.trans (g38.trans g40))))))
 refine es 31 0 (.agg #[p40, q40, r40, s40]) [p40, q40, r40, s40] #[p40, q40, r40, s40] L4 hB q4 ⟨h40.one0, h40.one1, h40.one2, h40.one3, trivial⟩ fun w43 st43 kp43 L4 hB => ?_
 replace L2 := st43.lc L2 ne2_4
 replace L3 := st43.lc L3 ne3_4
 refine ⟨⟨L2, L3⟩, ?_⟩
 refine ord_nil ?_
 refine k9 _ _ ?_
 try clear k9 K9
 refine wp_ret ?_
 refine bodyPost_ret (v := (.agg #[p40, q40, r40, s40])) (ret_cell _ _ _ rfl rfl L4 (by kernel_rfl)) rfl ⟨?_, hB⟩
 replace h40 := h40.kp kp43
 exact ⟨_, _, _, _, rfl, by rw [← rat_mul]; exact h40⟩

theorem mul_r {k m : Nat} {u0 u1 u2 u3 v0 v1 v2 v3 : Value} {a b : Rat} {w : World} (ha : IsRat w k u0 u1 u2 u3 a) (hb : IsRat w m v0 v1 v2 v3 b) (hk : k + m ≤ 100000) :
    Calls Tryd.prog 33 #[.agg #[u0, u1, u2, u3], .agg #[v0, v1, v2, v3]] w fun e w' => (∃ c0 c1 c2 c3, e = .returned (.agg #[c0, c1, c2, c3]) ∧ IsRat w' (k + m) c0 c1 c2 c3 (a * b)) ∧ Gr w w' := by
  by_cases wa : a.den = 1
  · by_cases wb : b.den = 1
    · exact mul_tt ha hb hk wa wb
    · exact mul_tf ha hb hk wa wb
  · exact mul_f ha hb hk wa

set_option maxRecDepth 100000 in
set_option maxHeartbeats 1000000 in
theorem neg_r {k : Nat} {u0 u1 u2 u3 : Value} {a : Rat} {w : World} (ha : IsRat w k u0 u1 u2 u3 a)  :
    Calls Tryd.prog 69 #[(.agg #[u0, u1, u2, u3])] w fun e w' => (∃ c0 c1 c2 c3, e = .returned (.agg #[c0, c1, c2, c3]) ∧ IsRat w' k c0 c1 c2 c3 (-a)) ∧ Gr w w' := by
 go_enter Tryd.func69, Tryd.ntmps69
 have hB := Gr.refl w
 refine wp_seq_k (fun K1 k1 => ?_)
 refine rg [0, 1] ?_
 refine se ?_
 refine eb 31 #[u0, u1, u2, u3] 1 hB fun b2 w2 g2 L2 o2 q2 hB => ?_
 simp only [p3, p4]
 refine se ?_
 refine ea 31 #[(.bool false), (.slice none 0 0), (.bool false), (.slice none 0 0)] 2 hB fun b3 w3 g3 L3 o3 q3 hB => ?_
 have ne2_3 := L2.ne o3
 simp only [p3, p4]
 refine sq_nil ?_
 refine k1 _ _ ?_
 try clear k1 K1
 refine wp_seq_k (fun K4 k4 => ?_)
 have gd11 := Gr.drew w3
 replace hB := hB.trans gd11
 replace L2 := L2.gr (g3.trans gd11)
 refine wp_region_ord (fun w' => Lc w' b2 #[u0, u1, u2, u3] 31) [(true, 0), (true, 1), (true, 3), (true, 4), (false, 2), (true, 5), (false, 6)] (by kernel_rfl) (by kernel_rfl) (by kernel_rfl) (by decide) (fun _ _ _ _ _ h => h) L2 ?_
 refine ov 3 (.pointer (some ⟨b2, 0, none⟩)) ?_
 simp only [p3, p4]
 refine ow 4 (.agg #[u0, u1]) rfl (fun w' hS => (rl 29 0 [u0, u1] hS)) ?_
 simp only [p3, p4]
 refine ov 6 (.pointer (some ⟨b2, 2, none⟩)) ?_
 simp only [p3, p4]
 refine ow 7 (.agg #[u2, u3]) rfl (fun w' hS => (rl 29 2 [u2, u3] hS)) ?_
 simp only [p3, p4]
 refine oe ?_
 have kq14 := g2.kp.trans (g3.kp.trans gd11.kp)
 replace ha := ha.kp kq14
 refine ec 5 (neg_i ha.num ) ?_
 rintro e13 w13 ⟨⟨x13, y13, rfl, h13⟩, g13⟩
 refine ⟨_, rfl, ?_⟩
 replace hB := hB.trans g13
 replace L2 := L2.gr g13
 refine ⟨L2, ?_⟩
 simp only [p3, p4]
 refine ov 8 (.agg #[x13, y13, u2, u3]) ?_
 simp only [p3, p4]
 refine oe ?_
 replace L3 := L3.gr (gd11.trans g13)
 refine es 31 0 (.agg #[x13, y13, u2, u3]) [x13, y13, u2, u3] #[x13, y13, u2, u3] L3 hB q3 ⟨h13.one0, h13.one1, ha.one2, ha.one3, trivial⟩ fun w16 st16 kp16 L3 hB => ?_
 replace L2 := st16.lc L2 ne2_3
 refine ⟨L2, ?_⟩
 refine ord_nil ?_
 refine k4 _ _ ?_
 try clear k4 K4
 refine wp_ret ?_
 refine bodyPost_ret (v := (.agg #[x13, y13, u2, u3])) (ret_cell _ _ _ rfl rfl L3 (by kernel_rfl)) rfl ⟨?_, hB⟩
 have kq17 := g13.kp.trans kp16
 replace ha := ha.kp kq17
 replace h13 := h13.kp kp16
 exact ⟨_, _, _, _, rfl, IsRat.neg ha h13⟩

set_option maxRecDepth 100000 in
set_option maxHeartbeats 1000000 in
theorem sub_r {k m : Nat} {u0 u1 u2 u3 v0 v1 v2 v3 : Value} {a b : Rat} {w : World} (ha : IsRat w k u0 u1 u2 u3 a) (hb : IsRat w m v0 v1 v2 v3 b) (_hk : k + m ≤ 100000)  :
    Calls Tryd.prog 55 #[(.agg #[u0, u1, u2, u3]), (.agg #[v0, v1, v2, v3])] w fun e w' => (∃ c0 c1 c2 c3, e = .returned (.agg #[c0, c1, c2, c3]) ∧ IsRat w' (k + m + 1) c0 c1 c2 c3 (a - b)) ∧ Gr w w' := by
 go_enter Tryd.func55, Tryd.ntmps55
 have hB := Gr.refl w
 refine wp_seq_k (fun K1 k1 => ?_)
 refine rg [0, 1, 2] ?_
 refine se ?_
 refine eb 31 #[u0, u1, u2, u3] 2 hB fun b2 w2 g2 L2 o2 q2 hB => ?_
 simp only [p3, p4]
 refine se ?_
 refine eb 31 #[v0, v1, v2, v3] 3 hB fun b3 w3 g3 L3 o3 q3 hB => ?_
 simp only [p3, p4]
 refine se ?_
 refine ea 31 #[(.bool false), (.slice none 0 0), (.bool false), (.slice none 0 0)] 4 hB fun b4 w4 g4 L4 o4 q4 hB => ?_
 replace L2 := L2.gr g3
 have ne2_4 := L2.ne o4
 have ne3_4 := L3.ne o4
 simp only [p3, p4]
 refine sq_nil ?_
 refine k1 _ _ ?_
 try clear k1 K1
 refine wp_seq_k (fun K5 k5 => ?_)
 have gd15 := Gr.drew w4
 replace hB := hB.trans gd15
 replace L2 := L2.gr (g4.trans gd15)
 replace L3 := L3.gr (g4.trans gd15)
 refine wp_region_ord (fun w' => Lc w' b2 #[u0, u1, u2, u3] 31 ∧ Lc w' b3 #[v0, v1, v2, v3] 31) [(true, 0), (true, 1), (false, 2), (false, 3), (false, 4)] (by kernel_rfl) (by kernel_rfl) (by kernel_rfl) (by decide) (fun _ _ _ _ _ h => h) ⟨L2, L3⟩ ?_
 refine ow 5 (.agg #[u0, u1, u2, u3]) rfl (fun w' hS => (rl 31 0 [u0, u1, u2, u3] hS.1)) ?_
 simp only [p3, p4]
 refine ow 6 (.agg #[v0, v1, v2, v3]) rfl (fun w' hS => (rl 31 0 [v0, v1, v2, v3] hS.2)) ?_
 simp only [p3, p4]
 refine oe ?_
 have kq18 := g2.kp.trans (g3.kp.trans (g4.kp.trans gd15.kp))
 replace hb := hb.kp kq18
 refine ec 7 (neg_r hb ) ?_
 rintro e17 w17 ⟨⟨p17, q17, r17, s17, rfl, h17⟩, g17⟩
 refine ⟨_, rfl, ?_⟩
 replace hB := hB.trans g17
 replace L2 := L2.gr g17
 replace L3 := L3.gr g17
 refine ⟨⟨L2, L3⟩, ?_⟩
 simp only [p3, p4]
 refine oe ?_
 have kq21 := g2.kp.trans (g3.kp.trans (g4.kp.trans (gd15.kp.trans g17.kp)))
 replace ha := ha.kp kq21
 refine ec 8 (add_r ha h17 (by omega)) ?_
 rintro e20 w20 ⟨⟨p20, q20, r20, s20, rfl, h20⟩, g20⟩
 refine ⟨_, rfl, ?_⟩
 replace hB := hB.trans g20
 replace L2 := L2.gr g20
 replace L3 := L3.gr g20
 refine ⟨⟨L2, L3⟩, ?_⟩
 simp only [p3, p4]
 refine oe ?_
 replace L4 := L4.gr (gd15.trans (g17.trans g20))
 refine es 31 0 (.agg #[p20, q20, r20, s20]) [p20, q20, r20, s20] #[p20, q20, r20, s20] L4 hB q4 ⟨h20.one0, h20.one1, h20.one2, h20.one3, trivial⟩ fun w23 st23 kp23 L4 hB => ?_
 replace L2 := st23.lc L2 ne2_4
 replace L3 := st23.lc L3 ne3_4
 refine ⟨⟨L2, L3⟩, ?_⟩
 refine ord_nil ?_
 refine k5 _ _ ?_
 try clear k5 K5
 refine wp_ret ?_
 refine bodyPost_ret (v := (.agg #[p20, q20, r20, s20])) (ret_cell _ _ _ rfl rfl L4 (by kernel_rfl)) rfl ⟨?_, hB⟩
 replace h20 := h20.kp kp23
 exact ⟨_, _, _, _, rfl, by rw [Rat.sub_eq_add_neg]; exact h20⟩

set_option maxRecDepth 100000 in
set_option maxHeartbeats 1000000 in
theorem num_r {k : Nat} {u0 u1 u2 u3 : Value} {a : Rat} {w : World} (ha : IsRat w k u0 u1 u2 u3 a)  :
    Calls Tryd.prog 50 #[(.agg #[u0, u1, u2, u3])] w fun e w' => (∃ x' y', e = .returned (.agg #[x', y']) ∧ IsInt w' k x' y' (a.num)) ∧ Gr w w' := by
 go_enter Tryd.func50, Tryd.ntmps50
 have hB := Gr.refl w
 refine wp_seq_k (fun K1 k1 => ?_)
 refine rg [0, 1] ?_
 refine se ?_
 refine eb 31 #[u0, u1, u2, u3] 1 hB fun b2 w2 g2 L2 o2 q2 hB => ?_
 simp only [p3, p4]
 refine se ?_
 refine ea 29 #[(.bool false), (.slice none 0 0)] 2 hB fun b3 w3 g3 L3 o3 q3 hB => ?_
 simp only [p3, p4]
 refine sq_nil ?_
 refine k1 _ _ ?_
 try clear k1 K1
 refine wp_seq_k (fun K4 k4 => ?_)
 refine rg [0, 1, 2] ?_
 refine sv 3 (.pointer (some ⟨b2, 0, none⟩)) ?_
 simp only [p3, p4]
 replace L2 := L2.gr g3
 refine sw 4 (.agg #[u0, u1]) rfl (rl 29 0 [u0, u1] L2) ?_
 simp only [p3, p4]
 refine se ?_
 refine es 29 0 (.agg #[u0, u1]) [u0, u1] #[u0, u1] L3 hB q3 ⟨ha.one0, ha.one1, trivial⟩ fun w5 st5 kp5 L3 hB => ?_
 refine sq_nil ?_
 refine k4 _ _ ?_
 try clear k4 K4
 refine wp_ret ?_
 refine bodyPost_ret (v := (.agg #[u0, u1])) (ret_cell _ _ _ rfl rfl L3 (by kernel_rfl)) rfl ⟨?_, hB⟩
 have kq6 := g2.kp.trans (g3.kp.trans kp5)
 replace ha := ha.kp kq6
 exact ⟨_, _, rfl, ha.num⟩

set_option maxRecDepth 100000 in
set_option maxHeartbeats 1000000 in
theorem sign_r {k : Nat} {u0 u1 u2 u3 : Value} {a : Rat} {w : World} (ha : IsRat w k u0 u1 u2 u3 a)  :
    Calls Tryd.prog 13 #[(.agg #[u0, u1, u2, u3])] w fun e w' => e = .returned (.int .i64 (sgn a.num)) ∧ Gr w w' := by
 go_enter Tryd.func13, Tryd.ntmps13
 have hB := Gr.refl w
 refine wp_seq_k (fun K1 k1 => ?_)
 refine rg [0, 1] ?_
 refine se ?_
 refine eb 31 #[u0, u1, u2, u3] 1 hB fun b2 w2 g2 L2 o2 q2 hB => ?_
 simp only [p3, p4]
 refine sv 2 (.int .i64 0) ?_
 simp only [p3, p4]
 refine sq_nil ?_
 refine k1 _ _ ?_
 try clear k1 K1
 refine wp_seq_k (fun K3 k3 => ?_)
 refine rg [0, 1, 2, 3] ?_
 refine sv 3 (.pointer (some ⟨b2, 0, none⟩)) ?_
 simp only [p3, p4]
 refine sw 4 (.agg #[u0, u1]) rfl (rl 29 0 [u0, u1] L2) ?_
 simp only [p3, p4]
 refine se ?_
 replace ha := ha.kp g2.kp
 refine ec 5 (sign_i ha.num) ?_
 rintro e4 w4 ⟨rfl, g4⟩
 refine ⟨_, rfl, ?_⟩
 replace hB := hB.trans g4
 simp only [p3, p4]
 refine sv 2 (.int .i64 (sgn (a.num))) ?_
 simp only [p3, p4]
 refine sq_nil ?_
 refine k3 _ _ ?_
 try clear k3 K3
 refine wp_ret ?_
 refine bodyPost_ret (v := (.int .i64 (sgn (a.num)))) (ret_tmp rfl rfl) rfl ⟨?_, hB⟩
 exact rfl

set_option maxRecDepth 100000 in
set_option maxHeartbeats 1000000 in
theorem from_r (z : Int) (_h0 : -9223372036854775808 ≤ z) (_h1 : z ≤ 9223372036854775807) (w : World) :
    Calls Tryd.prog 18 #[(.int .i64 (z))] w fun e w' => (∃ c0 c1 c2 c3, e = .returned (.agg #[c0, c1, c2, c3]) ∧ IsRat w' 64 c0 c1 c2 c3 ((z : Rat))) ∧ Gr w w' := by
 go_enter Tryd.func18, Tryd.ntmps18
 have hB := Gr.refl w
 refine wp_seq_k (fun K1 k1 => ?_)
 refine rg [0] ?_
 refine se ?_
 refine ea 31 #[(.bool false), (.slice none 0 0), (.bool false), (.slice none 0 0)] 2 hB fun b2 w2 g2 L2 o2 q2 hB => ?_
 simp only [p3, p4]
 refine sq_nil ?_
 refine k1 _ _ ?_
 try clear k1 K1
 refine wp_seq_k (fun K3 k3 => ?_)
 refine rg [0, 1, 2, 3] ?_
 refine sv 3 (.int .i64 (z)) ?_
 simp only [p3, p4]
 refine se ?_
 refine ec 4 (from_i (z) (by omega) (by omega) _) ?_
 rintro e4 w4 ⟨⟨x4, y4, rfl, h4⟩, g4⟩
 refine ⟨_, rfl, ?_⟩
 replace hB := hB.trans g4
 simp only [p3, p4]
 refine sv 5 (.agg #[x4, y4, (.bool false), (.slice none 0 0)]) ?_
 simp only [p3, p4]
 refine se ?_
 replace L2 := L2.gr g4
 refine es 31 0 (.agg #[x4, y4, (.bool false), (.slice none 0 0)]) [x4, y4, (.bool false), (.slice none 0 0)] #[x4, y4, (.bool false), (.slice none 0 0)] L2 hB q2 ⟨h4.one0, h4.one1, rfl, rfl, trivial⟩ fun w5 st5 kp5 L2 hB => ?_
 refine sq_nil ?_
 refine k3 _ _ ?_
 try clear k3 K3
 refine wp_ret ?_
 refine bodyPost_ret (v := (.agg #[x4, y4, (.bool false), (.slice none 0 0)])) (ret_cell _ _ _ rfl rfl L2 (by kernel_rfl)) rfl ⟨?_, hB⟩
 replace h4 := h4.kp kp5
 exact ⟨_, _, _, _, rfl, IsRat.int h4 (by omega)⟩

set_option maxRecDepth 100000 in
set_option maxHeartbeats 1000000 in
theorem make_r {k m : Nat} (K : Nat) {n0 n1 d0 d1 : Value} {N D : Int} {w : World} (hn : IsInt w k n0 n1 N) (hd : IsInt w m d0 d1 D) (h0 : 0 < D) (_h1 : k ≤ K) (_h2 : m ≤ K) (_h3 : 64 ≤ K) (_h4 : 8 * K ≤ 1000000) :
    Calls Tryd.prog 49 #[(.agg #[n0, n1]), (.agg #[d0, d1])] w fun e w' => (∃ c0 c1 c2 c3, e = .returned (.tuple #[.agg #[c0, c1, c2, c3], .int .i64 0]) ∧ IsRat w' K c0 c1 c2 c3 (Rat.divInt N D)) ∧ Gr w w' := by
 go_enter Tryd.func49, Tryd.ntmps49
 have hB := Gr.refl w
 refine wp_seq_k (fun K1 k1 => ?_)
 refine rg [0, 1, 2, 3] ?_
 refine se ?_
 refine eb 29 #[n0, n1] 2 hB fun b2 w2 g2 L2 o2 q2 hB => ?_
 simp only [p3, p4]
 refine se ?_
 refine eb 29 #[d0, d1] 3 hB fun b3 w3 g3 L3 o3 q3 hB => ?_
 simp only [p3, p4]
 refine se ?_
 refine ea 31 #[(.bool false), (.slice none 0 0), (.bool false), (.slice none 0 0)] 4 hB fun b4 w4 g4 L4 o4 q4 hB => ?_
 replace L2 := L2.gr g3
 simp only [p3, p4]
 refine sv 5 (.int .i64 0) ?_
 simp only [p3, p4]
 refine sq_nil ?_
 refine k1 _ _ ?_
 try clear k1 K1
 refine wp_seq_k (fun K5 k5 => ?_)
 refine wp_seq_k (fun K6 k6 => ?_)
 refine rg [0, 1, 2] ?_
 replace L3 := L3.gr g4
 refine sw 6 (.agg #[d0, d1]) rfl (rl 29 0 [d0, d1] L3) ?_
 simp only [p3, p4]
 refine se ?_
 have kq8 := g2.kp.trans (g3.kp.trans g4.kp)
 replace hd := hd.kp kq8
 refine ec 7 (sign_pos hd (by omega)) ?_
 rintro e7 w7 ⟨rfl, g7⟩
 refine ⟨_, rfl, ?_⟩
 replace hB := hB.trans g7
 simp only [p3, p4]
 refine sv 8 (.bool false) ?_
 simp only [p3, p4]
 refine sq_nil ?_
 refine k6 _ _ ?_
 try clear k6 K6
 refine wp_cond_false rfl ?_
 refine wp_skip ?_
 refine k5 _ _ ?_
 try clear k5 K5
 refine wp_seq_k (fun K9 k9 => ?_)
 refine rg [0, 1, 2, 3, 4] ?_
 replace L2 := L2.gr (g4.trans g7)
 refine sw 10 (.agg #[n0, n1]) rfl (rl 29 0 [n0, n1] L2) ?_
 simp only [p3, p4]
 replace L3 := L3.gr g7
 refine sw 11 (.agg #[d0, d1]) rfl (rl 29 0 [d0, d1] L3) ?_
 simp only [p3, p4]
 refine se ?_
 have kq11 := g2.kp.trans (g3.kp.trans (g4.kp.trans g7.kp))
 replace hn := hn.kp kq11
 replace hd := hd.kp g7.kp
 refine ec 12 (reduced_i (K) hn hd h0 (by omega) (by omega) (by omega) (by omega)) ?_
 rintro e10 w10 ⟨⟨p10, q10, r10, s10, rfl, h10⟩, g10⟩
 refine ⟨_, rfl, ?_⟩
 replace hB := hB.trans g10
 simp only [p3, p4]
 refine se ?_
 replace L4 := L4.gr (g7.trans g10)
 refine es 31 0 (.agg #[p10, q10, r10, s10]) [p10, q10, r10, s10] #[p10, q10, r10, s10] L4 hB q4 ⟨h10.one0, h10.one1, h10.one2, h10.one3, trivial⟩ fun w12 st12 kp12 L4 hB => ?_
 refine sv 5 (.int .i64 0) ?_
 simp only [p3, p4]
 refine sq_nil ?_
 refine k9 _ _ ?_
 try clear k9 K9
 refine wp_ret ?_
 refine bodyPost_ret (v := (.tuple #[(.agg #[p10, q10, r10, s10]), (.int .i64 0)])) (ret_cell_tmp' _ _ _ rfl rfl L4 (by kernel_rfl) rfl) rfl ⟨?_, hB⟩
 replace h10 := h10.kp kp12
 exact ⟨_, _, _, _, rfl, h10⟩

theorem sign_rp {k : Nat} {u0 u1 u2 u3 : Value} {a : Rat} {w : World} (ha : IsRat w k u0 u1 u2 u3 a) (h : 0 < a.num) :
    Calls Tryd.prog 13 #[.agg #[u0, u1, u2, u3]] w fun e w' => e = .returned (.int .i64 1) ∧ Gr w w' := by
  have := sign_r ha
  rw [sgn_pos h] at this
  exact this

set_option maxRecDepth 100000 in
set_option maxHeartbeats 1000000 in
theorem div_r {k m : Nat} {u0 u1 u2 u3 v0 v1 v2 v3 : Value} {a b : Rat} {w : World} (ha : IsRat w k u0 u1 u2 u3 a) (hb : IsRat w m v0 v1 v2 v3 b) (_hk : k + m ≤ 100000) (h0 : 0 < b.num) :
    Calls Tryd.prog 17 #[(.agg #[u0, u1, u2, u3]), (.agg #[v0, v1, v2, v3])] w fun e w' => (∃ c0 c1 c2 c3, e = .returned (.tuple #[.agg #[c0, c1, c2, c3], .int .i64 0]) ∧ IsRat w' (k + m) c0 c1 c2 c3 (a / b)) ∧ Gr w w' := by
 have hka := ha.big
 have hkb := hb.big
 go_enter Tryd.func17, Tryd.ntmps17
 have hB := Gr.refl w
 refine wp_seq_k (fun K1 k1 => ?_)
 refine rg [0, 1, 2, 3] ?_
 refine se ?_
 refine eb 31 #[u0, u1, u2, u3] 2 hB fun b2 w2 g2 L2 o2 q2 hB => ?_
 simp only [p3, p4]
 refine se ?_
 refine eb 31 #[v0, v1, v2, v3] 3 hB fun b3 w3 g3 L3 o3 q3 hB => ?_
 simp only [p3, p4]
 refine se ?_
 refine ea 31 #[(.bool false), (.slice none 0 0), (.bool false), (.slice none 0 0)] 4 hB fun b4 w4 g4 L4 o4 q4 hB => ?_
 replace L2 := L2.gr g3
 have ne2_4 := L2.ne o4
 have ne3_4 := L3.ne o4
 simp only [p3, p4]
 refine sv 5 (.int .i64 0) ?_
 simp only [p3, p4]
 refine sq_nil ?_
 refine k1 _ _ ?_
 try clear k1 K1
 refine wp_seq_k (fun K5 k5 => ?_)
 refine wp_seq_k (fun K6 k6 => ?_)
 refine rg [0, 1, 2] ?_
 replace L3 := L3.gr g4
 refine sw 6 (.agg #[v0, v1, v2, v3]) rfl (rl 31 0 [v0, v1, v2, v3] L3) ?_
 simp only [p3, p4]
 refine se ?_
 have kq8 := g2.kp.trans (g3.kp.trans g4.kp)
 replace hb := hb.kp kq8
 refine ec 7 (sign_rp hb h0) ?_
 rintro e7 w7 ⟨rfl, g7⟩
 refine ⟨_, rfl, ?_⟩
 replace hB := hB.trans g7
 simp only [p3, p4]
 refine sv 8 (.bool false) ?_
 simp only [p3, p4]
 refine sq_nil ?_
 refine k6 _ _ ?_
 try clear k6 K6
 refine wp_cond_false rfl ?_
 refine wp_skip ?_
 refine k5 _ _ ?_
 try clear k5 K5
 refine wp_seq_k (fun K9 k9 => ?_)
 have gd27 := Gr.drew w7
 replace hB := hB.trans gd27
 replace L2 := L2.gr (g4.trans (g7.trans gd27))
 replace L3 := L3.gr (g7.trans gd27)
 refine wp_region_ord (fun w' => Lc w' b2 #[u0, u1, u2, u3] 31 ∧ Lc w' b3 #[v0, v1, v2, v3] 31) [(true, 0), (true, 1), (true, 2), (true, 5), (true, 7), (true, 8), (false, 3), (false, 4), (false, 6), (false, 9), (false, 10), (false, 11), (true, 12)] (by kernel_rfl) (by kernel_rfl) (by kernel_rfl) (by decide) (fun _ _ _ _ _ h => h) ⟨L2, L3⟩ ?_
 refine ov 10 (.pointer (some ⟨b2, 0, none⟩)) ?_
 simp only [p3, p4]
 refine ow 11 (.agg #[u0, u1]) rfl (fun w' hS => (rl 29 0 [u0, u1] hS.1)) ?_
 simp only [p3, p4]
 refine ow 12 (.agg #[v0, v1, v2, v3]) rfl (fun w' hS => (rl 31 0 [v0, v1, v2, v3] hS.2)) ?_
 simp only [p3, p4]
 refine ow 15 (.agg #[u0, u1, u2, u3]) rfl (fun w' hS => (rl 31 0 [u0, u1, u2, u3] hS.1)) ?_
 simp only [p3, p4]
 refine ov 17 (.pointer (some ⟨b3, 0, none⟩)) ?_
 simp only [p3, p4]
 refine ow 18 (.agg #[v0, v1]) rfl (fun w' hS => (rl 29 0 [v0, v1] hS.2)) ?_
 simp only [p3, p4]
 refine oe ?_
 have kq30 := g7.kp.trans gd27.kp
 replace hb := hb.kp kq30
 refine ec 13 (den_i hb) ?_
 rintro e29 w29 ⟨⟨x29, y29, rfl, h29⟩, g29⟩
 refine ⟨_, rfl, ?_⟩
 replace hB := hB.trans g29
 replace L2 := L2.gr g29
 replace L3 := L3.gr g29
 refine ⟨⟨L2, L3⟩, ?_⟩
 simp only [p3, p4]
 refine oe ?_
 have kq33 := g2.kp.trans (g3.kp.trans (g4.kp.trans (g7.kp.trans (gd27.kp.trans g29.kp))))
 replace ha := ha.kp kq33
 refine ec 14 (mul_i ha.num h29 (by omega)) ?_
 rintro e32 w32 ⟨⟨x32, y32, rfl, h32⟩, g32⟩
 refine ⟨_, rfl, ?_⟩
 replace hB := hB.trans g32
 replace L2 := L2.gr g32
 replace L3 := L3.gr g32
 refine ⟨⟨L2, L3⟩, ?_⟩
 simp only [p3, p4]
 refine oe ?_
 replace ha := ha.kp g32.kp
 refine ec 16 (den_i ha) ?_
 rintro e35 w35 ⟨⟨x35, y35, rfl, h35⟩, g35⟩
 refine ⟨_, rfl, ?_⟩
 replace hB := hB.trans g35
 replace L2 := L2.gr g35
 replace L3 := L3.gr g35
 refine ⟨⟨L2, L3⟩, ?_⟩
 simp only [p3, p4]
 refine oe ?_
 have kq38 := g29.kp.trans (g32.kp.trans g35.kp)
 replace hb := hb.kp kq38
 refine ec 19 (mul_i h35 hb.num (by omega)) ?_
 rintro e37 w37 ⟨⟨x37, y37, rfl, h37⟩, g37⟩
 refine ⟨_, rfl, ?_⟩
 replace hB := hB.trans g37
 replace L2 := L2.gr g37
 replace L3 := L3.gr g37
 refine ⟨⟨L2, L3⟩, ?_⟩
 simp only [p3, p4]
 refine oe ?_
 have kq41 := g35.kp.trans g37.kp
 replace h32 := h32.kp kq41
 refine ec 20 (reduced_i ((k + m)) h32 h37 (Int.mul_pos (Int.natCast_pos.2 a.den_pos) h0) (by omega) (by omega) (by omega) (by omega)) ?_
 rintro e40 w40 ⟨⟨p40, q40, r40, s40, rfl, h40⟩, g40⟩
 refine ⟨_, rfl, ?_⟩
 replace hB := hB.trans g40
 replace L2 := L2.gr g40
 replace L3 := L3.gr g40
 refine ⟨⟨L2, L3⟩, ?_⟩
 simp only [p3, p4]
 refine oe ?_
 replace L4 := L4.gr (g7.trans (gd27.trans (g29.trans (g32.trans (g35.trans (g37.trans g40))))))
 refine es 31 0 (.agg #[p40, q40, r40, s40]) [p40, q40, r40, s40] #[p40, q40, r40, s40] L4 hB q4 ⟨h40.one0, h40.one1, h40.one2, h40.one3, trivial⟩ fun w43 st43 kp43 L4 hB => ?_
 replace L2 := st43.lc L2 ne2_4
 replace L3 := st43.lc L3 ne3_4
 refine ⟨⟨L2, L3⟩, ?_⟩
 refine ov 5 (.int .i64 0) ?_
 simp only [p3, p4]
 refine ord_nil ?_
 refine k9 _ _ ?_
 try clear k9 K9
 refine wp_ret ?_
 refine bodyPost_ret (v := (.tuple #[(.agg #[p40, q40, r40, s40]), (.int .i64 0)])) (ret_cell_tmp' _ _ _ rfl rfl L4 (by kernel_rfl) rfl) rfl ⟨?_, hB⟩
 replace h40 := h40.kp kp43
 exact ⟨_, _, _, _, rfl, by rw [← rat_div]; exact h40⟩

set_option maxRecDepth 100000 in
set_option maxHeartbeats 1000000 in
theorem rcomp_tt {k m : Nat} {u0 u1 u2 u3 v0 v1 v2 v3 : Value} {a b : Rat} {w : World} (ha : IsRat w k u0 u1 u2 u3 a) (hb : IsRat w m v0 v1 v2 v3 b) (_hk : k + m ≤ 100000) (wa : a.den = 1) (wb : b.den = 1) :
    Calls Tryd.prog 53 #[(.agg #[u0, u1, u2, u3]), (.agg #[v0, v1, v2, v3])] w fun e w' => e = .returned (.int .i64 (rcmp a b)) ∧ Gr w w' := by
 have hka := ha.big
 have hkb := hb.big
 go_enter Tryd.func53, Tryd.ntmps53
 have hB := Gr.refl w
 refine wp_seq_k (fun K1 k1 => ?_)
 refine rg [0, 1, 2] ?_
 refine se ?_
 refine eb 31 #[u0, u1, u2, u3] 2 hB fun b2 w2 g2 L2 o2 q2 hB => ?_
 simp only [p3, p4]
 refine se ?_
 refine eb 31 #[v0, v1, v2, v3] 3 hB fun b3 w3 g3 L3 o3 q3 hB => ?_
 simp only [p3, p4]
 refine sv 4 (.int .i64 0) ?_
 simp only [p3, p4]
 refine sq_nil ?_
 refine k1 _ _ ?_
 try clear k1 K1
 refine wp_seq_k (fun K4 k4 => ?_)
 refine wp_seq_k (fun K5 k5 => ?_)
 refine rg [0, 1, 2, 3, 4, 5] ?_
 replace L2 := L2.gr g3
 refine sw 5 (.agg #[u0, u1, u2, u3]) rfl (rl 31 0 [u0, u1, u2, u3] L2) ?_
 simp only [p3, p4]
 refine se ?_
 have kq7 := g2.kp.trans g3.kp
 replace ha := ha.kp kq7
 refine ec 6 (whole_t ha (by omega) wa) ?_
 rintro e6 w6 ⟨rfl, g6⟩
 refine ⟨_, rfl, ?_⟩
 replace hB := hB.trans g6
 simp only [p3, p4]
 refine sv 7 (.bool true) ?_
 simp only [p3, p4]
 replace L3 := L3.gr g6
 refine sw 8 (.agg #[v0, v1, v2, v3]) rfl (rl 31 0 [v0, v1, v2, v3] L3) ?_
 simp only [p3, p4]
 refine se ?_
 have kq9 := g2.kp.trans (g3.kp.trans g6.kp)
 replace hb := hb.kp kq9
 refine ec 9 (whole_t hb (by omega) wb) ?_
 rintro e8 w8 ⟨rfl, g8⟩
 refine ⟨_, rfl, ?_⟩
 replace hB := hB.trans g8
 simp only [p3, p4]
 refine sv 10 (.bool true) ?_
 simp only [p3, p4]
 refine sq_nil ?_
 refine k5 _ _ ?_
 try clear k5 K5
 refine wp_cond_true rfl ?_
 refine wp_seq_k (fun K10 k10 => ?_)
 refine rg [0, 1, 2, 3, 4, 5] ?_
 refine sv 11 (.pointer (some ⟨b2, 0, none⟩)) ?_
 simp only [p3, p4]
 replace L2 := L2.gr (g6.trans g8)
 refine sw 12 (.agg #[u0, u1]) rfl (rl 29 0 [u0, u1] L2) ?_
 simp only [p3, p4]
 refine sv 13 (.pointer (some ⟨b3, 0, none⟩)) ?_
 simp only [p3, p4]
 replace L3 := L3.gr g8
 refine sw 14 (.agg #[v0, v1]) rfl (rl 29 0 [v0, v1] L3) ?_
 simp only [p3, p4]
 refine se ?_
 have kq12 := g6.kp.trans g8.kp
 replace ha := ha.kp kq12
 replace hb := hb.kp g8.kp
 refine ec 15 (compare_i ha.num hb.num (by omega) (by omega)) ?_
 rintro e11 w11 ⟨rfl, g11⟩
 refine ⟨_, rfl, ?_⟩
 replace hB := hB.trans g11
 simp only [p3, p4]
 refine sv 4 (.int .i64 (sgn (a.num - b.num))) ?_
 simp only [p3, p4]
 refine sq_nil ?_
 refine k10 _ _ ?_
 try clear k10 K10
 refine wp_ret ?_
 simp only [Exit.then]
 refine bodyPost_ret (v := (.int .i64 (sgn (a.num - b.num)))) (ret_tmp rfl rfl) rfl ⟨?_, hB⟩
 exact by rw [rcmp_int wa wb]

set_option maxRecDepth 100000 in
set_option maxHeartbeats 1000000 in
theorem rcomp_tf {k m : Nat} {u0 u1 u2 u3 v0 v1 v2 v3 : Value} {a b : Rat} {w : World} (ha : IsRat w k u0 u1 u2 u3 a) (hb : IsRat w m v0 v1 v2 v3 b) (_hk : k + m ≤ 100000) (wa : a.den = 1) (wb : b.den ≠ 1) :
    Calls Tryd.prog 53 #[(.agg #[u0, u1, u2, u3]), (.agg #[v0, v1, v2, v3])] w fun e w' => e = .returned (.int .i64 (rcmp a b)) ∧ Gr w w' := by
 have hka := ha.big
 have hkb := hb.big
 go_enter Tryd.func53, Tryd.ntmps53
 have hB := Gr.refl w
 refine wp_seq_k (fun K1 k1 => ?_)
 refine rg [0, 1, 2] ?_
 refine se ?_
 refine eb 31 #[u0, u1, u2, u3] 2 hB fun b2 w2 g2 L2 o2 q2 hB => ?_
 simp only [p3, p4]
 refine se ?_
 refine eb 31 #[v0, v1, v2, v3] 3 hB fun b3 w3 g3 L3 o3 q3 hB => ?_
 simp only [p3, p4]
 refine sv 4 (.int .i64 0) ?_
 simp only [p3, p4]
 refine sq_nil ?_
 refine k1 _ _ ?_
 try clear k1 K1
 refine wp_seq_k (fun K4 k4 => ?_)
 refine wp_seq_k (fun K5 k5 => ?_)
 refine rg [0, 1, 2, 3, 4, 5] ?_
 replace L2 := L2.gr g3
 refine sw 5 (.agg #[u0, u1, u2, u3]) rfl (rl 31 0 [u0, u1, u2, u3] L2) ?_
 simp only [p3, p4]
 refine se ?_
 have kq7 := g2.kp.trans g3.kp
 replace ha := ha.kp kq7
 refine ec 6 (whole_t ha (by omega) wa) ?_
 rintro e6 w6 ⟨rfl, g6⟩
 refine ⟨_, rfl, ?_⟩
 replace hB := hB.trans g6
 simp only [p3, p4]
 refine sv 7 (.bool true) ?_
 simp only [p3, p4]
 replace L3 := L3.gr g6
 refine sw 8 (.agg #[v0, v1, v2, v3]) rfl (rl 31 0 [v0, v1, v2, v3] L3) ?_
 simp only [p3, p4]
 refine se ?_
 have kq9 := g2.kp.trans (g3.kp.trans g6.kp)
 replace hb := hb.kp kq9
 refine ec 9 (whole_f hb (by omega) wb) ?_
 rintro e8 w8 ⟨rfl, g8⟩
 refine ⟨_, rfl, ?_⟩
 replace hB := hB.trans g8
 simp only [p3, p4]
 refine sv 10 (.bool false) ?_
 simp only [p3, p4]
 refine sq_nil ?_
 refine k5 _ _ ?_
 try clear k5 K5
 refine wp_cond_false rfl ?_
 refine wp_skip ?_
 refine k4 _ _ ?_
 try clear k4 K4
 refine wp_seq_k (fun K10 k10 => ?_)
 have gd26 := Gr.drew w8
 replace hB := hB.trans gd26
 replace L2 := L2.gr (g6.trans (g8.trans gd26))
 replace L3 := L3.gr (g8.trans gd26)
 refine wp_region_ord (fun w' => Lc w' b2 #[u0, u1, u2, u3] 31 ∧ Lc w' b3 #[v0, v1, v2, v3] 31) [(true, 0), (true, 1), (true, 2), (true, 5), (true, 6), (true, 7), (false, 3), (false, 4), (false, 8), (false, 9), (false, 10), (true, 11)] (by kernel_rfl) (by kernel_rfl) (by kernel_rfl) (by decide) (fun _ _ _ _ _ h => h) ⟨L2, L3⟩ ?_
 refine ov 16 (.pointer (some ⟨b2, 0, none⟩)) ?_
 simp only [p3, p4]
 refine ow 17 (.agg #[u0, u1]) rfl (fun w' hS => (rl 29 0 [u0, u1] hS.1)) ?_
 simp only [p3, p4]
 refine ow 18 (.agg #[v0, v1, v2, v3]) rfl (fun w' hS => (rl 31 0 [v0, v1, v2, v3] hS.2)) ?_
 simp only [p3, p4]
 refine ov 21 (.pointer (some ⟨b3, 0, none⟩)) ?_
 simp only [p3, p4]
 refine ow 22 (.agg #[v0, v1]) rfl (fun w' hS => (rl 29 0 [v0, v1] hS.2)) ?_
 simp only [p3, p4]
 refine ow 23 (.agg #[u0, u1, u2, u3]) rfl (fun w' hS => (rl 31 0 [u0, u1, u2, u3] hS.1)) ?_
 simp only [p3, p4]
 refine oe ?_
 have kq29 := g8.kp.trans gd26.kp
 replace hb := hb.kp kq29
 refine ec 19 (den_i hb) ?_
 rintro e28 w28 ⟨⟨x28, y28, rfl, h28⟩, g28⟩
 refine ⟨_, rfl, ?_⟩
 replace hB := hB.trans g28
 replace L2 := L2.gr g28
 replace L3 := L3.gr g28
 refine ⟨⟨L2, L3⟩, ?_⟩
 simp only [p3, p4]
 refine oe ?_
 have kq32 := g6.kp.trans (g8.kp.trans (gd26.kp.trans g28.kp))
 replace ha := ha.kp kq32
 refine ec 20 (mul_i ha.num h28 (by omega)) ?_
 rintro e31 w31 ⟨⟨x31, y31, rfl, h31⟩, g31⟩
 refine ⟨_, rfl, ?_⟩
 replace hB := hB.trans g31
 replace L2 := L2.gr g31
 replace L3 := L3.gr g31
 refine ⟨⟨L2, L3⟩, ?_⟩
 simp only [p3, p4]
 refine oe ?_
 replace ha := ha.kp g31.kp
 refine ec 24 (den_i ha) ?_
 rintro e34 w34 ⟨⟨x34, y34, rfl, h34⟩, g34⟩
 refine ⟨_, rfl, ?_⟩
 replace hB := hB.trans g34
 replace L2 := L2.gr g34
 replace L3 := L3.gr g34
 refine ⟨⟨L2, L3⟩, ?_⟩
 simp only [p3, p4]
 refine oe ?_
 have kq37 := g28.kp.trans (g31.kp.trans g34.kp)
 replace hb := hb.kp kq37
 refine ec 25 (mul_i hb.num h34 (by omega)) ?_
 rintro e36 w36 ⟨⟨x36, y36, rfl, h36⟩, g36⟩
 refine ⟨_, rfl, ?_⟩
 replace hB := hB.trans g36
 replace L2 := L2.gr g36
 replace L3 := L3.gr g36
 refine ⟨⟨L2, L3⟩, ?_⟩
 simp only [p3, p4]
 refine oe ?_
 have kq40 := g34.kp.trans g36.kp
 replace h31 := h31.kp kq40
 refine ec 26 (compare_i h31 h36 (by omega) (by omega)) ?_
 rintro e39 w39 ⟨rfl, g39⟩
 refine ⟨_, rfl, ?_⟩
 replace hB := hB.trans g39
 replace L2 := L2.gr g39
 replace L3 := L3.gr g39
 refine ⟨⟨L2, L3⟩, ?_⟩
 simp only [p3, p4]
 refine ov 4 (.int .i64 (sgn ((a.num * (b.den : Int)) - (b.num * (a.den : Int))))) ?_
 simp only [p3, p4]
 refine ord_nil ?_
 refine k10 _ _ ?_
 try clear k10 K10
 refine wp_ret ?_
 refine bodyPost_ret (v := (.int .i64 (sgn ((a.num * (b.den : Int)) - (b.num * (a.den : Int)))))) (ret_tmp rfl rfl) rfl ⟨?_, hB⟩
 exact rfl

set_option maxRecDepth 100000 in
set_option maxHeartbeats 1000000 in
theorem rcomp_f {k m : Nat} {u0 u1 u2 u3 v0 v1 v2 v3 : Value} {a b : Rat} {w : World} (ha : IsRat w k u0 u1 u2 u3 a) (hb : IsRat w m v0 v1 v2 v3 b) (_hk : k + m ≤ 100000) (wa : a.den ≠ 1) :
    Calls Tryd.prog 53 #[(.agg #[u0, u1, u2, u3]), (.agg #[v0, v1, v2, v3])] w fun e w' => e = .returned (.int .i64 (rcmp a b)) ∧ Gr w w' := by
 have hka := ha.big
 have hkb := hb.big
 go_enter Tryd.func53, Tryd.ntmps53
 have hB := Gr.refl w
 refine wp_seq_k (fun K1 k1 => ?_)
 refine rg [0, 1, 2] ?_
 refine se ?_
 refine eb 31 #[u0, u1, u2, u3] 2 hB fun b2 w2 g2 L2 o2 q2 hB => ?_
 simp only [p3, p4]
 refine se ?_
 refine eb 31 #[v0, v1, v2, v3] 3 hB fun b3 w3 g3 L3 o3 q3 hB => ?_
 simp only [p3, p4]
 refine sv 4 (.int .i64 0) ?_
 simp only [p3, p4]
 refine sq_nil ?_
 refine k1 _ _ ?_
 try clear k1 K1
 refine wp_seq_k (fun K4 k4 => ?_)
 refine wp_seq_k (fun K5 k5 => ?_)
 refine rg [0, 1, 2, 3, 4, 5] ?_
 replace L2 := L2.gr g3
 refine sw 5 (.agg #[u0, u1, u2, u3]) rfl (rl 31 0 [u0, u1, u2, u3] L2) ?_
 simp only [p3, p4]
 refine se ?_
 have kq7 := g2.kp.trans g3.kp
 replace ha := ha.kp kq7
 refine ec 6 (whole_f ha (by omega) wa) ?_
 rintro e6 w6 ⟨rfl, g6⟩
 refine ⟨_, rfl, ?_⟩
 replace hB := hB.trans g6
 simp only [p3, p4]
 refine sv 7 (.bool false) ?_
 simp only [p3, p4]
 refine ss 8 ?_
 simp only [p3, p4]
 refine ss 9 ?_
 simp only [p3, p4]
 refine sv 10 (.bool false) ?_
 simp only [p3, p4]
 refine sq_nil ?_
 refine k5 _ _ ?_
 try clear k5 K5
 refine wp_cond_false rfl ?_
 refine wp_skip ?_
 refine k4 _ _ ?_
 try clear k4 K4
 refine wp_seq_k (fun K8 k8 => ?_)
 have gd24 := Gr.drew w6
 replace hB := hB.trans gd24
 replace L2 := L2.gr (g6.trans gd24)
 replace L3 := L3.gr (g6.trans gd24)
 refine wp_region_ord (fun w' => Lc w' b2 #[u0, u1, u2, u3] 31 ∧ Lc w' b3 #[v0, v1, v2, v3] 31) [(true, 0), (true, 1), (true, 2), (true, 5), (true, 6), (true, 7), (false, 3), (false, 4), (false, 8), (false, 9), (false, 10), (true, 11)] (by kernel_rfl) (by kernel_rfl) (by kernel_rfl) (by decide) (fun _ _ _ _ _ h => h) ⟨L2, L3⟩ ?_
 refine ov 16 (.pointer (some ⟨b2, 0, none⟩)) ?_
 simp only [p3, p4]
 refine ow 17 (.agg #[u0, u1]) rfl (fun w' hS => (rl 29 0 [u0, u1] hS.1)) ?_
 simp only [p3, p4]
 refine ow 18 (.agg #[v0, v1, v2, v3]) rfl (fun w' hS => (rl 31 0 [v0, v1, v2, v3] hS.2)) ?_
 simp only [p3, p4]
 refine ov 21 (.pointer (some ⟨b3, 0, none⟩)) ?_
 simp only [p3, p4]
 refine ow 22 (.agg #[v0, v1]) rfl (fun w' hS => (rl 29 0 [v0, v1] hS.2)) ?_
 simp only [p3, p4]
 refine ow 23 (.agg #[u0, u1, u2, u3]) rfl (fun w' hS => (rl 31 0 [u0, u1, u2, u3] hS.1)) ?_
 simp only [p3, p4]
 refine oe ?_
 have kq27 := g2.kp.trans (g3.kp.trans (g6.kp.trans gd24.kp))
 replace hb := hb.kp kq27
 refine ec 19 (den_i hb) ?_
 rintro e26 w26 ⟨⟨x26, y26, rfl, h26⟩, g26⟩
 refine ⟨_, rfl, ?_⟩
 replace hB := hB.trans g26
 replace L2 := L2.gr g26
 replace L3 := L3.gr g26
 refine ⟨⟨L2, L3⟩, ?_⟩
 simp only [p3, p4]
 refine oe ?_
 have kq30 := g6.kp.trans (gd24.kp.trans g26.kp)
 replace ha := ha.kp kq30
 refine ec 20 (mul_i ha.num h26 (by omega)) ?_
 rintro e29 w29 ⟨⟨x29, y29, rfl, h29⟩, g29⟩
 refine ⟨_, rfl, ?_⟩
 replace hB := hB.trans g29
 replace L2 := L2.gr g29
 replace L3 := L3.gr g29
 refine ⟨⟨L2, L3⟩, ?_⟩
 simp only [p3, p4]
 refine oe ?_
 replace ha := ha.kp g29.kp
 refine ec 24 (den_i ha) ?_
 rintro e32 w32 ⟨⟨x32, y32, rfl, h32⟩, g32⟩
 refine ⟨_, rfl, ?_⟩
 replace hB := hB.trans g32
 replace L2 := L2.gr g32
 replace L3 := L3.gr g32
 refine ⟨⟨L2, L3⟩, ?_⟩
 simp only [p3, p4]
 refine oe ?_
 have kq35 := g26.kp.trans (g29.kp.trans g32.kp)
 replace hb := hb.kp kq35
 refine ec 25 (mul_i hb.num h32 (by omega)) ?_
 rintro e34 w34 ⟨⟨x34, y34, rfl, h34⟩, g34⟩
 refine ⟨_, rfl, ?_⟩
 replace hB := hB.trans g34
 replace L2 := L2.gr g34
 replace L3 := L3.gr g34
 refine ⟨⟨L2, L3⟩, ?_⟩
 simp only [p3, p4]
 refine oe ?_
 have kq38 := g32.kp.trans g34.kp
 replace h29 := h29.kp kq38
 refine ec 26 (compare_i h29 h34 (by omega) (by omega)) ?_
 rintro e37 w37 ⟨rfl, g37⟩
 refine ⟨_, rfl, ?_⟩
 replace hB := hB.trans g37
 replace L2 := L2.gr g37
 replace L3 := L3.gr g37
 refine ⟨⟨L2, L3⟩, ?_⟩
 simp only [p3, p4]
 refine ov 4 (.int .i64 (sgn ((a.num * (b.den : Int)) - (b.num * (a.den : Int))))) ?_
 simp only [p3, p4]
 refine ord_nil ?_
 refine k8 _ _ ?_
 try clear k8 K8
 refine wp_ret ?_
 refine bodyPost_ret (v := (.int .i64 (sgn ((a.num * (b.den : Int)) - (b.num * (a.den : Int)))))) (ret_tmp rfl rfl) rfl ⟨?_, hB⟩
 exact rfl

theorem compare_r {k m : Nat} {u0 u1 u2 u3 v0 v1 v2 v3 : Value} {a b : Rat} {w : World} (ha : IsRat w k u0 u1 u2 u3 a) (hb : IsRat w m v0 v1 v2 v3 b) (hk : k + m ≤ 100000) :
    Calls Tryd.prog 53 #[.agg #[u0, u1, u2, u3], .agg #[v0, v1, v2, v3]] w fun e w' => e = .returned (.int .i64 (rcmp a b)) ∧ Gr w w' := by
  by_cases wa : a.den = 1
  · by_cases wb : b.den = 1
    · exact rcomp_tt ha hb hk wa wb
    · exact rcomp_tf ha hb hk wa wb
  · exact rcomp_f ha hb hk wa

end Go.Proofs.YtgopfikljndklaaDoor
