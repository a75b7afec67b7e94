/- Joined of: Gen4, Nbr, Scale, Gen32, Rat2, Gen33, Gen34, Ten, TenM, TenT, Ck, Ck2, R1a, R1b, R1c, R1d, R1e, Gen30, R1f, R1g. -/
import Derived.Test.YtlcmllfacolkaaaGreatDoorPartB
import Derived.Test.YtlcmllfacolkaaaGreatDoorPartA
import Init.Data.Rat.Lemmas
import Derived.Laws.IdiomStrings
/- Printed by a program of the prover's: the operations on rationals. -/
namespace Go.Proofs.YtlcmllfacolkaaaGreatDoor
open Go.RowKit

set_option maxRecDepth 100000 in
set_option maxHeartbeats 1000000 in
theorem add_tt {k m : Nat} {u0 u1 u2 u3 v0 v1 v2 v3 : Value} {a b : Rat} {w : World} (ha : IsRat w k u0 u1 u2 u3 a) (hb : IsRat w m v0 v1 v2 v3 b) (_hk : k + m ≤ 100000) (wa : a.den = 1) (wb : b.den = 1) :
    Calls Tryz.prog 41 #[(.agg #[u0, u1, u2, u3]), (.agg #[v0, v1, v2, v3])] w fun e w' => (∃ c0 c1 c2 c3, e = .returned (.agg #[c0, c1, c2, c3]) ∧ IsRat w' (k + m + 1) c0 c1 c2 c3 (a + b)) ∧ Gr w w' := by
 have hka := ha.big
 have hkb := hb.big
 go_enter Tryz.func41, Tryz.ntmps41
 have hB := Gr.refl w
 refine wp_seq_k (fun K1 k1 => ?_)
 refine rg [0, 1, 2] ?_
 refine se ?_
 refine eb 30 #[u0, u1, u2, u3] 2 hB fun b2 w2 g2 L2 o2 q2 hB => ?_
 simp only [p3, p4]
 refine se ?_
 refine eb 30 #[v0, v1, v2, v3] 3 hB fun b3 w3 g3 L3 o3 q3 hB => ?_
 simp only [p3, p4]
 refine se ?_
 refine ea 30 #[(.bool false), (.slice none 0 0), (.bool false), (.slice none 0 0)] 4 hB fun b4 w4 g4 L4 o4 q4 hB => ?_
 replace L2 := L2.gr g3
 simp only [p3, p4]
 refine sq_nil ?_
 refine k1 _ _ ?_
 try clear k1 K1
 refine wp_seq_k (fun K5 k5 => ?_)
 refine wp_seq_k (fun K6 k6 => ?_)
 refine rg [0, 1, 2, 3, 4, 5] ?_
 replace L2 := L2.gr g4
 refine sw 5 (.agg #[u0, u1, u2, u3]) rfl (rl 30 0 [u0, u1, u2, u3] L2) ?_
 simp only [p3, p4]
 refine se ?_
 have kq8 := g2.kp.trans (g3.kp.trans g4.kp)
 replace ha := ha.kp kq8
 refine ec 6 (whole_t ha (by omega) wa) ?_
 rintro e7 w7 ⟨rfl, g7⟩
 refine ⟨_, rfl, ?_⟩
 replace hB := hB.trans g7
 simp only [p3, p4]
 refine sv 7 (.bool true) ?_
 simp only [p3, p4]
 replace L3 := L3.gr (g4.trans g7)
 refine sw 8 (.agg #[v0, v1, v2, v3]) rfl (rl 30 0 [v0, v1, v2, v3] L3) ?_
 simp only [p3, p4]
 refine se ?_
 have kq10 := g2.kp.trans (g3.kp.trans (g4.kp.trans g7.kp))
 replace hb := hb.kp kq10
 refine ec 9 (whole_t hb (by omega) wb) ?_
 rintro e9 w9 ⟨rfl, g9⟩
 refine ⟨_, rfl, ?_⟩
 replace hB := hB.trans g9
 simp only [p3, p4]
 refine sv 10 (.bool true) ?_
 simp only [p3, p4]
 refine sq_nil ?_
 refine k6 _ _ ?_
 try clear k6 K6
 refine wp_cond_true rfl ?_
 refine wp_seq_k (fun K11 k11 => ?_)
 refine rg [0, 1, 2, 3, 4, 5, 6] ?_
 refine sv 11 (.pointer (some ⟨b2, 0, none⟩)) ?_
 simp only [p3, p4]
 replace L2 := L2.gr (g7.trans g9)
 refine sw 12 (.agg #[u0, u1]) rfl (rl 28 0 [u0, u1] L2) ?_
 simp only [p3, p4]
 refine sv 13 (.pointer (some ⟨b3, 0, none⟩)) ?_
 simp only [p3, p4]
 replace L3 := L3.gr g9
 refine sw 14 (.agg #[v0, v1]) rfl (rl 28 0 [v0, v1] L3) ?_
 simp only [p3, p4]
 refine se ?_
 have kq13 := g7.kp.trans g9.kp
 replace ha := ha.kp kq13
 replace hb := hb.kp g9.kp
 refine ec 15 (add_e (k + m) ha.num hb.num (by omega) (by omega) (by omega)) ?_
 rintro e12 w12 ⟨⟨x12, y12, rfl, h12⟩, g12⟩
 refine ⟨_, rfl, ?_⟩
 replace hB := hB.trans g12
 simp only [p3, p4]
 refine sv 16 (.agg #[x12, y12, (.bool false), (.slice none 0 0)]) ?_
 simp only [p3, p4]
 refine se ?_
 replace L4 := L4.gr (g7.trans (g9.trans g12))
 refine es 30 0 (.agg #[x12, y12, (.bool false), (.slice none 0 0)]) [x12, y12, (.bool false), (.slice none 0 0)] #[x12, y12, (.bool false), (.slice none 0 0)] L4 hB q4 ⟨h12.one0, h12.one1, rfl, rfl, trivial⟩ fun w14 st14 kp14 L4 hB => ?_
 refine sq_nil ?_
 refine k11 _ _ ?_
 try clear k11 K11
 refine wp_ret ?_
 simp only [Exit.then]
 refine bodyPost_ret (v := (.agg #[x12, y12, (.bool false), (.slice none 0 0)])) (ret_cell _ _ _ rfl rfl L4 (by kernel_rfl)) rfl ⟨?_, hB⟩
 replace h12 := h12.kp kp14
 exact ⟨_, _, _, _, rfl, by rw [← rat_int wa, ← rat_int wb, ← Rat.intCast_add]; exact IsRat.int h12 (by omega)⟩

set_option maxRecDepth 100000 in
set_option maxHeartbeats 1000000 in
theorem add_tf {k m : Nat} {u0 u1 u2 u3 v0 v1 v2 v3 : Value} {a b : Rat} {w : World} (ha : IsRat w k u0 u1 u2 u3 a) (hb : IsRat w m v0 v1 v2 v3 b) (_hk : k + m ≤ 100000) (wa : a.den = 1) (wb : b.den ≠ 1) :
    Calls Tryz.prog 41 #[(.agg #[u0, u1, u2, u3]), (.agg #[v0, v1, v2, v3])] w fun e w' => (∃ c0 c1 c2 c3, e = .returned (.agg #[c0, c1, c2, c3]) ∧ IsRat w' (k + m + 1) c0 c1 c2 c3 (a + b)) ∧ Gr w w' := by
 have hka := ha.big
 have hkb := hb.big
 go_enter Tryz.func41, Tryz.ntmps41
 have hB := Gr.refl w
 refine wp_seq_k (fun K1 k1 => ?_)
 refine rg [0, 1, 2] ?_
 refine se ?_
 refine eb 30 #[u0, u1, u2, u3] 2 hB fun b2 w2 g2 L2 o2 q2 hB => ?_
 simp only [p3, p4]
 refine se ?_
 refine eb 30 #[v0, v1, v2, v3] 3 hB fun b3 w3 g3 L3 o3 q3 hB => ?_
 simp only [p3, p4]
 refine se ?_
 refine ea 30 #[(.bool false), (.slice none 0 0), (.bool false), (.slice none 0 0)] 4 hB fun b4 w4 g4 L4 o4 q4 hB => ?_
 replace L2 := L2.gr g3
 have ne2_4 := L2.ne o4
 have ne3_4 := L3.ne o4
 simp only [p3, p4]
 refine sq_nil ?_
 refine k1 _ _ ?_
 try clear k1 K1
 refine wp_seq_k (fun K5 k5 => ?_)
 refine wp_seq_k (fun K6 k6 => ?_)
 refine rg [0, 1, 2, 3, 4, 5] ?_
 replace L2 := L2.gr g4
 refine sw 5 (.agg #[u0, u1, u2, u3]) rfl (rl 30 0 [u0, u1, u2, u3] L2) ?_
 simp only [p3, p4]
 refine se ?_
 have kq8 := g2.kp.trans (g3.kp.trans g4.kp)
 replace ha := ha.kp kq8
 refine ec 6 (whole_t ha (by omega) wa) ?_
 rintro e7 w7 ⟨rfl, g7⟩
 refine ⟨_, rfl, ?_⟩
 replace hB := hB.trans g7
 simp only [p3, p4]
 refine sv 7 (.bool true) ?_
 simp only [p3, p4]
 replace L3 := L3.gr (g4.trans g7)
 refine sw 8 (.agg #[v0, v1, v2, v3]) rfl (rl 30 0 [v0, v1, v2, v3] L3) ?_
 simp only [p3, p4]
 refine se ?_
 have kq10 := g2.kp.trans (g3.kp.trans (g4.kp.trans g7.kp))
 replace hb := hb.kp kq10
 refine ec 9 (whole_f hb (by omega) wb) ?_
 rintro e9 w9 ⟨rfl, g9⟩
 refine ⟨_, rfl, ?_⟩
 replace hB := hB.trans g9
 simp only [p3, p4]
 refine sv 10 (.bool false) ?_
 simp only [p3, p4]
 refine sq_nil ?_
 refine k6 _ _ ?_
 try clear k6 K6
 refine wp_cond_false rfl ?_
 refine wp_skip ?_
 refine k5 _ _ ?_
 try clear k5 K5
 refine wp_seq_k (fun K11 k11 => ?_)
 have gd40 := Gr.drew w9
 replace hB := hB.trans gd40
 replace L2 := L2.gr (g7.trans (g9.trans gd40))
 replace L3 := L3.gr (g9.trans gd40)
 refine wp_region_ord (fun w' => Lc w' b2 #[u0, u1, u2, u3] 30 ∧ Lc w' b3 #[v0, v1, v2, v3] 30) [(true, 0), (true, 1), (true, 2), (true, 5), (true, 6), (true, 7), (true, 11), (true, 13), (false, 3), (false, 4), (false, 8), (false, 9), (false, 10), (false, 12), (false, 14), (false, 15), (false, 16), (false, 17)] (by kernel_rfl) (by kernel_rfl) (by kernel_rfl) (by decide) (fun _ _ _ _ _ h => h) ⟨L2, L3⟩ ?_
 refine ov 17 (.pointer (some ⟨b2, 0, none⟩)) ?_
 simp only [p3, p4]
 refine ow 18 (.agg #[u0, u1]) rfl (fun w' hS => (rl 28 0 [u0, u1] hS.1)) ?_
 simp only [p3, p4]
 refine ow 19 (.agg #[v0, v1, v2, v3]) rfl (fun w' hS => (rl 30 0 [v0, v1, v2, v3] hS.2)) ?_
 simp only [p3, p4]
 refine ov 22 (.pointer (some ⟨b3, 0, none⟩)) ?_
 simp only [p3, p4]
 refine ow 23 (.agg #[v0, v1]) rfl (fun w' hS => (rl 28 0 [v0, v1] hS.2)) ?_
 simp only [p3, p4]
 refine ow 24 (.agg #[u0, u1, u2, u3]) rfl (fun w' hS => (rl 30 0 [u0, u1, u2, u3] hS.1)) ?_
 simp only [p3, p4]
 refine ow 28 (.agg #[u0, u1, u2, u3]) rfl (fun w' hS => (rl 30 0 [u0, u1, u2, u3] hS.1)) ?_
 simp only [p3, p4]
 refine ow 30 (.agg #[v0, v1, v2, v3]) rfl (fun w' hS => (rl 30 0 [v0, v1, v2, v3] hS.2)) ?_
 simp only [p3, p4]
 refine oe ?_
 have kq43 := g9.kp.trans gd40.kp
 replace hb := hb.kp kq43
 refine ec 20 (den_i hb) ?_
 rintro e42 w42 ⟨⟨x42, y42, rfl, h42⟩, g42⟩
 refine ⟨_, rfl, ?_⟩
 replace hB := hB.trans g42
 replace L2 := L2.gr g42
 replace L3 := L3.gr g42
 refine ⟨⟨L2, L3⟩, ?_⟩
 simp only [p3, p4]
 refine oe ?_
 have kq46 := g7.kp.trans (g9.kp.trans (gd40.kp.trans g42.kp))
 replace ha := ha.kp kq46
 refine ec 21 (mul_i ha.num h42 (by omega)) ?_
 rintro e45 w45 ⟨⟨x45, y45, rfl, h45⟩, g45⟩
 refine ⟨_, rfl, ?_⟩
 replace hB := hB.trans g45
 replace L2 := L2.gr g45
 replace L3 := L3.gr g45
 refine ⟨⟨L2, L3⟩, ?_⟩
 simp only [p3, p4]
 refine oe ?_
 replace ha := ha.kp g45.kp
 refine ec 25 (den_i ha) ?_
 rintro e48 w48 ⟨⟨x48, y48, rfl, h48⟩, g48⟩
 refine ⟨_, rfl, ?_⟩
 replace hB := hB.trans g48
 replace L2 := L2.gr g48
 replace L3 := L3.gr g48
 refine ⟨⟨L2, L3⟩, ?_⟩
 simp only [p3, p4]
 refine oe ?_
 have kq51 := g42.kp.trans (g45.kp.trans g48.kp)
 replace hb := hb.kp kq51
 refine ec 26 (mul_i hb.num h48 (by omega)) ?_
 rintro e50 w50 ⟨⟨x50, y50, rfl, h50⟩, g50⟩
 refine ⟨_, rfl, ?_⟩
 replace hB := hB.trans g50
 replace L2 := L2.gr g50
 replace L3 := L3.gr g50
 refine ⟨⟨L2, L3⟩, ?_⟩
 simp only [p3, p4]
 refine oe ?_
 have kq54 := g48.kp.trans g50.kp
 replace h45 := h45.kp kq54
 refine ec 27 (add_e (k + m) h45 h50 (by omega) (by omega) (by omega)) ?_
 rintro e53 w53 ⟨⟨x53, y53, rfl, h53⟩, g53⟩
 refine ⟨_, rfl, ?_⟩
 replace hB := hB.trans g53
 replace L2 := L2.gr g53
 replace L3 := L3.gr g53
 refine ⟨⟨L2, L3⟩, ?_⟩
 simp only [p3, p4]
 refine oe ?_
 have kq57 := g48.kp.trans (g50.kp.trans g53.kp)
 replace ha := ha.kp kq57
 refine ec 29 (den_i ha) ?_
 rintro e56 w56 ⟨⟨x56, y56, rfl, h56⟩, g56⟩
 refine ⟨_, rfl, ?_⟩
 replace hB := hB.trans g56
 replace L2 := L2.gr g56
 replace L3 := L3.gr g56
 refine ⟨⟨L2, L3⟩, ?_⟩
 simp only [p3, p4]
 refine oe ?_
 have kq60 := g50.kp.trans (g53.kp.trans g56.kp)
 replace hb := hb.kp kq60
 refine ec 31 (den_i hb) ?_
 rintro e59 w59 ⟨⟨x59, y59, rfl, h59⟩, g59⟩
 refine ⟨_, rfl, ?_⟩
 replace hB := hB.trans g59
 replace L2 := L2.gr g59
 replace L3 := L3.gr g59
 refine ⟨⟨L2, L3⟩, ?_⟩
 simp only [p3, p4]
 refine oe ?_
 replace h56 := h56.kp g59.kp
 refine ec 32 (mul_i h56 h59 (by omega)) ?_
 rintro e62 w62 ⟨⟨x62, y62, rfl, h62⟩, g62⟩
 refine ⟨_, rfl, ?_⟩
 replace hB := hB.trans g62
 replace L2 := L2.gr g62
 replace L3 := L3.gr g62
 refine ⟨⟨L2, L3⟩, ?_⟩
 simp only [p3, p4]
 refine oe ?_
 have kq65 := g56.kp.trans (g59.kp.trans g62.kp)
 replace h53 := h53.kp kq65
 refine ec 33 (reduced_i ((k + m + 1)) h53 h62 (Int.mul_pos (Int.natCast_pos.2 a.den_pos) (Int.natCast_pos.2 b.den_pos)) (by omega) (by omega) (by omega) (by omega)) ?_
 rintro e64 w64 ⟨⟨p64, q64, r64, s64, rfl, h64⟩, g64⟩
 refine ⟨_, rfl, ?_⟩
 replace hB := hB.trans g64
 replace L2 := L2.gr g64
 replace L3 := L3.gr g64
 refine ⟨⟨L2, L3⟩, ?_⟩
 simp only [p3, p4]
 refine oe ?_
 replace L4 := L4.gr (g7.trans (g9.trans (gd40.trans (g42.trans (g45.trans (g48.trans (g50.trans (g53.trans (g56.trans (g59.trans (g62.trans g64)))))))))))
 refine es 30 0 (.agg #[p64, q64, r64, s64]) [p64, q64, r64, s64] #[p64, q64, r64, s64] L4 hB q4 ⟨h64.one0, h64.one1, h64.one2, h64.one3, trivial⟩ fun w67 st67 kp67 L4 hB => ?_
 replace L2 := st67.lc L2 ne2_4
 replace L3 := st67.lc L3 ne3_4
 refine ⟨⟨L2, L3⟩, ?_⟩
 refine ord_nil ?_
 refine k11 _ _ ?_
 try clear k11 K11
 refine wp_ret ?_
 refine bodyPost_ret (v := (.agg #[p64, q64, r64, s64])) (ret_cell _ _ _ rfl rfl L4 (by kernel_rfl)) rfl ⟨?_, hB⟩
 replace h64 := h64.kp kp67
 exact ⟨_, _, _, _, rfl, by rw [← rat_add]; exact h64⟩

set_option maxRecDepth 100000 in
set_option maxHeartbeats 1000000 in
theorem add_f {k m : Nat} {u0 u1 u2 u3 v0 v1 v2 v3 : Value} {a b : Rat} {w : World} (ha : IsRat w k u0 u1 u2 u3 a) (hb : IsRat w m v0 v1 v2 v3 b) (_hk : k + m ≤ 100000) (wa : a.den ≠ 1) :
    Calls Tryz.prog 41 #[(.agg #[u0, u1, u2, u3]), (.agg #[v0, v1, v2, v3])] w fun e w' => (∃ c0 c1 c2 c3, e = .returned (.agg #[c0, c1, c2, c3]) ∧ IsRat w' (k + m + 1) c0 c1 c2 c3 (a + b)) ∧ Gr w w' := by
 have hka := ha.big
 have hkb := hb.big
 go_enter Tryz.func41, Tryz.ntmps41
 have hB := Gr.refl w
 refine wp_seq_k (fun K1 k1 => ?_)
 refine rg [0, 1, 2] ?_
 refine se ?_
 refine eb 30 #[u0, u1, u2, u3] 2 hB fun b2 w2 g2 L2 o2 q2 hB => ?_
 simp only [p3, p4]
 refine se ?_
 refine eb 30 #[v0, v1, v2, v3] 3 hB fun b3 w3 g3 L3 o3 q3 hB => ?_
 simp only [p3, p4]
 refine se ?_
 refine ea 30 #[(.bool false), (.slice none 0 0), (.bool false), (.slice none 0 0)] 4 hB fun b4 w4 g4 L4 o4 q4 hB => ?_
 replace L2 := L2.gr g3
 have ne2_4 := L2.ne o4
 have ne3_4 := L3.ne o4
 simp only [p3, p4]
 refine sq_nil ?_
 refine k1 _ _ ?_
 try clear k1 K1
 refine wp_seq_k (fun K5 k5 => ?_)
 refine wp_seq_k (fun K6 k6 => ?_)
 refine rg [0, 1, 2, 3, 4, 5] ?_
 replace L2 := L2.gr g4
 refine sw 5 (.agg #[u0, u1, u2, u3]) rfl (rl 30 0 [u0, u1, u2, u3] L2) ?_
 simp only [p3, p4]
 refine se ?_
 have kq8 := g2.kp.trans (g3.kp.trans g4.kp)
 replace ha := ha.kp kq8
 refine ec 6 (whole_f ha (by omega) wa) ?_
 rintro e7 w7 ⟨rfl, g7⟩
 refine ⟨_, rfl, ?_⟩
 replace hB := hB.trans g7
 simp only [p3, p4]
 refine sv 7 (.bool false) ?_
 simp only [p3, p4]
 refine ss 8 ?_
 simp only [p3, p4]
 refine ss 9 ?_
 simp only [p3, p4]
 refine sv 10 (.bool false) ?_
 simp only [p3, p4]
 refine sq_nil ?_
 refine k6 _ _ ?_
 try clear k6 K6
 refine wp_cond_false rfl ?_
 refine wp_skip ?_
 refine k5 _ _ ?_
 try clear k5 K5
 refine wp_seq_k (fun K9 k9 => ?_)
 have gd38 := Gr.drew w7
 replace hB := hB.trans gd38
 replace L2 := L2.gr (g7.trans gd38)
 replace L3 := L3.gr (g4.trans (g7.trans gd38))
 refine wp_region_ord (fun w' => Lc w' b2 #[u0, u1, u2, u3] 30 ∧ Lc w' b3 #[v0, v1, v2, v3] 30) [(true, 0), (true, 1), (true, 2), (true, 5), (true, 6), (true, 7), (true, 11), (true, 13), (false, 3), (false, 4), (false, 8), (false, 9), (false, 10), (false, 12), (false, 14), (false, 15), (false, 16), (false, 17)] (by kernel_rfl) (by kernel_rfl) (by kernel_rfl) (by decide) (fun _ _ _ _ _ h => h) ⟨L2, L3⟩ ?_
 refine ov 17 (.pointer (some ⟨b2, 0, none⟩)) ?_
 simp only [p3, p4]
 refine ow 18 (.agg #[u0, u1]) rfl (fun w' hS => (rl 28 0 [u0, u1] hS.1)) ?_
 simp only [p3, p4]
 refine ow 19 (.agg #[v0, v1, v2, v3]) rfl (fun w' hS => (rl 30 0 [v0, v1, v2, v3] hS.2)) ?_
 simp only [p3, p4]
 refine ov 22 (.pointer (some ⟨b3, 0, none⟩)) ?_
 simp only [p3, p4]
 refine ow 23 (.agg #[v0, v1]) rfl (fun w' hS => (rl 28 0 [v0, v1] hS.2)) ?_
 simp only [p3, p4]
 refine ow 24 (.agg #[u0, u1, u2, u3]) rfl (fun w' hS => (rl 30 0 [u0, u1, u2, u3] hS.1)) ?_
 simp only [p3, p4]
 refine ow 28 (.agg #[u0, u1, u2, u3]) rfl (fun w' hS => (rl 30 0 [u0, u1, u2, u3] hS.1)) ?_
 simp only [p3, p4]
 refine ow 30 (.agg #[v0, v1, v2, v3]) rfl (fun w' hS => (rl 30 0 [v0, v1, v2, v3] hS.2)) ?_
 simp only [p3, p4]
 refine oe ?_
 have kq41 := g2.kp.trans (g3.kp.trans (g4.kp.trans (g7.kp.trans gd38.kp)))
 replace hb := hb.kp kq41
 refine ec 20 (den_i hb) ?_
 rintro e40 w40 ⟨⟨x40, y40, rfl, h40⟩, g40⟩
 refine ⟨_, rfl, ?_⟩
 replace hB := hB.trans g40
 replace L2 := L2.gr g40
 replace L3 := L3.gr g40
 refine ⟨⟨L2, L3⟩, ?_⟩
 simp only [p3, p4]
 refine oe ?_
 have kq44 := g7.kp.trans (gd38.kp.trans g40.kp)
 replace ha := ha.kp kq44
 refine ec 21 (mul_i ha.num h40 (by omega)) ?_
 rintro e43 w43 ⟨⟨x43, y43, rfl, h43⟩, g43⟩
 refine ⟨_, rfl, ?_⟩
 replace hB := hB.trans g43
 replace L2 := L2.gr g43
 replace L3 := L3.gr g43
 refine ⟨⟨L2, L3⟩, ?_⟩
 simp only [p3, p4]
 refine oe ?_
 replace ha := ha.kp g43.kp
 refine ec 25 (den_i ha) ?_
 rintro e46 w46 ⟨⟨x46, y46, rfl, h46⟩, g46⟩
 refine ⟨_, rfl, ?_⟩
 replace hB := hB.trans g46
 replace L2 := L2.gr g46
 replace L3 := L3.gr g46
 refine ⟨⟨L2, L3⟩, ?_⟩
 simp only [p3, p4]
 refine oe ?_
 have kq49 := g40.kp.trans (g43.kp.trans g46.kp)
 replace hb := hb.kp kq49
 refine ec 26 (mul_i hb.num h46 (by omega)) ?_
 rintro e48 w48 ⟨⟨x48, y48, rfl, h48⟩, g48⟩
 refine ⟨_, rfl, ?_⟩
 replace hB := hB.trans g48
 replace L2 := L2.gr g48
 replace L3 := L3.gr g48
 refine ⟨⟨L2, L3⟩, ?_⟩
 simp only [p3, p4]
 refine oe ?_
 have kq52 := g46.kp.trans g48.kp
 replace h43 := h43.kp kq52
 refine ec 27 (add_e (k + m) h43 h48 (by omega) (by omega) (by omega)) ?_
 rintro e51 w51 ⟨⟨x51, y51, rfl, h51⟩, g51⟩
 refine ⟨_, rfl, ?_⟩
 replace hB := hB.trans g51
 replace L2 := L2.gr g51
 replace L3 := L3.gr g51
 refine ⟨⟨L2, L3⟩, ?_⟩
 simp only [p3, p4]
 refine oe ?_
 have kq55 := g46.kp.trans (g48.kp.trans g51.kp)
 replace ha := ha.kp kq55
 refine ec 29 (den_i ha) ?_
 rintro e54 w54 ⟨⟨x54, y54, rfl, h54⟩, g54⟩
 refine ⟨_, rfl, ?_⟩
 replace hB := hB.trans g54
 replace L2 := L2.gr g54
 replace L3 := L3.gr g54
 refine ⟨⟨L2, L3⟩, ?_⟩
 simp only [p3, p4]
 refine oe ?_
 have kq58 := g48.kp.trans (g51.kp.trans g54.kp)
 replace hb := hb.kp kq58
 refine ec 31 (den_i hb) ?_
 rintro e57 w57 ⟨⟨x57, y57, rfl, h57⟩, g57⟩
 refine ⟨_, rfl, ?_⟩
 replace hB := hB.trans g57
 replace L2 := L2.gr g57
 replace L3 := L3.gr g57
 refine ⟨⟨L2, L3⟩, ?_⟩
 simp only [p3, p4]
 refine oe ?_
 replace h54 := h54.kp g57.kp
 refine ec 32 (mul_i h54 h57 (by omega)) ?_
 rintro e60 w60 ⟨⟨x60, y60, rfl, h60⟩, g60⟩
 refine ⟨_, rfl, ?_⟩
 replace hB := hB.trans g60
 replace L2 := L2.gr g60
 replace L3 := L3.gr g60
 refine ⟨⟨L2, L3⟩, ?_⟩
 simp only [p3, p4]
 refine oe ?_
 have kq63 := g54.kp.trans (g57.kp.trans g60.kp)
 replace h51 := h51.kp kq63
 refine ec 33 (reduced_i ((k + m + 1)) h51 h60 (Int.mul_pos (Int.natCast_pos.2 a.den_pos) (Int.natCast_pos.2 b.den_pos)) (by omega) (by omega) (by omega) (by omega)) ?_
 rintro e62 w62 ⟨⟨p62, q62, r62, s62, rfl, h62⟩, g62⟩
 refine ⟨_, rfl, ?_⟩
 replace hB := hB.trans g62
 replace L2 := L2.gr g62
 replace L3 := L3.gr g62
 refine ⟨⟨L2, L3⟩, ?_⟩
 simp only [p3, p4]
 refine oe ?_
 replace L4 := L4.gr (g7.trans (gd38.trans (g40.trans (g43.trans (g46.trans (g48.trans (g51.trans (g54.trans (g57.trans (g60.trans g62))))))))))
 refine es 30 0 (.agg #[p62, q62, r62, s62]) [p62, q62, r62, s62] #[p62, q62, r62, s62] L4 hB q4 ⟨h62.one0, h62.one1, h62.one2, h62.one3, trivial⟩ fun w65 st65 kp65 L4 hB => ?_
 replace L2 := st65.lc L2 ne2_4
 replace L3 := st65.lc L3 ne3_4
 refine ⟨⟨L2, L3⟩, ?_⟩
 refine ord_nil ?_
 refine k9 _ _ ?_
 try clear k9 K9
 refine wp_ret ?_
 refine bodyPost_ret (v := (.agg #[p62, q62, r62, s62])) (ret_cell _ _ _ rfl rfl L4 (by kernel_rfl)) rfl ⟨?_, hB⟩
 replace h62 := h62.kp kp65
 exact ⟨_, _, _, _, rfl, by rw [← rat_add]; exact h62⟩

theorem add_r {k m : Nat} {u0 u1 u2 u3 v0 v1 v2 v3 : Value} {a b : Rat} {w : World} (ha : IsRat w k u0 u1 u2 u3 a) (hb : IsRat w m v0 v1 v2 v3 b) (hk : k + m ≤ 100000) :
    Calls Tryz.prog 41 #[.agg #[u0, u1, u2, u3], .agg #[v0, v1, v2, v3]] w fun e w' => (∃ c0 c1 c2 c3, e = .returned (.agg #[c0, c1, c2, c3]) ∧ IsRat w' (k + m + 1) c0 c1 c2 c3 (a + b)) ∧ Gr w w' := by
  by_cases wa : a.den = 1
  · by_cases wb : b.den = 1
    · exact add_tt ha hb hk wa wb
    · exact add_tf ha hb hk wa wb
  · exact add_f ha hb hk wa

set_option maxRecDepth 100000 in
set_option maxHeartbeats 1000000 in
theorem mul_tt {k m : Nat} {u0 u1 u2 u3 v0 v1 v2 v3 : Value} {a b : Rat} {w : World} (ha : IsRat w k u0 u1 u2 u3 a) (hb : IsRat w m v0 v1 v2 v3 b) (_hk : k + m ≤ 100000) (wa : a.den = 1) (wb : b.den = 1) :
    Calls Tryz.prog 42 #[(.agg #[u0, u1, u2, u3]), (.agg #[v0, v1, v2, v3])] w fun e w' => (∃ c0 c1 c2 c3, e = .returned (.agg #[c0, c1, c2, c3]) ∧ IsRat w' (k + m) c0 c1 c2 c3 (a * b)) ∧ Gr w w' := by
 have hka := ha.big
 have hkb := hb.big
 go_enter Tryz.func42, Tryz.ntmps42
 have hB := Gr.refl w
 refine wp_seq_k (fun K1 k1 => ?_)
 refine rg [0, 1, 2] ?_
 refine se ?_
 refine eb 30 #[u0, u1, u2, u3] 2 hB fun b2 w2 g2 L2 o2 q2 hB => ?_
 simp only [p3, p4]
 refine se ?_
 refine eb 30 #[v0, v1, v2, v3] 3 hB fun b3 w3 g3 L3 o3 q3 hB => ?_
 simp only [p3, p4]
 refine se ?_
 refine ea 30 #[(.bool false), (.slice none 0 0), (.bool false), (.slice none 0 0)] 4 hB fun b4 w4 g4 L4 o4 q4 hB => ?_
 replace L2 := L2.gr g3
 simp only [p3, p4]
 refine sq_nil ?_
 refine k1 _ _ ?_
 try clear k1 K1
 refine wp_seq_k (fun K5 k5 => ?_)
 refine wp_seq_k (fun K6 k6 => ?_)
 refine rg [0, 1, 2, 3, 4, 5] ?_
 replace L2 := L2.gr g4
 refine sw 5 (.agg #[u0, u1, u2, u3]) rfl (rl 30 0 [u0, u1, u2, u3] L2) ?_
 simp only [p3, p4]
 refine se ?_
 have kq8 := g2.kp.trans (g3.kp.trans g4.kp)
 replace ha := ha.kp kq8
 refine ec 6 (whole_t ha (by omega) wa) ?_
 rintro e7 w7 ⟨rfl, g7⟩
 refine ⟨_, rfl, ?_⟩
 replace hB := hB.trans g7
 simp only [p3, p4]
 refine sv 7 (.bool true) ?_
 simp only [p3, p4]
 replace L3 := L3.gr (g4.trans g7)
 refine sw 8 (.agg #[v0, v1, v2, v3]) rfl (rl 30 0 [v0, v1, v2, v3] L3) ?_
 simp only [p3, p4]
 refine se ?_
 have kq10 := g2.kp.trans (g3.kp.trans (g4.kp.trans g7.kp))
 replace hb := hb.kp kq10
 refine ec 9 (whole_t hb (by omega) wb) ?_
 rintro e9 w9 ⟨rfl, g9⟩
 refine ⟨_, rfl, ?_⟩
 replace hB := hB.trans g9
 simp only [p3, p4]
 refine sv 10 (.bool true) ?_
 simp only [p3, p4]
 refine sq_nil ?_
 refine k6 _ _ ?_
 try clear k6 K6
 refine wp_cond_true rfl ?_
 refine wp_seq_k (fun K11 k11 => ?_)
 refine rg [0, 1, 2, 3, 4, 5, 6] ?_
 refine sv 11 (.pointer (some ⟨b2, 0, none⟩)) ?_
 simp only [p3, p4]
 replace L2 := L2.gr (g7.trans g9)
 refine sw 12 (.agg #[u0, u1]) rfl (rl 28 0 [u0, u1] L2) ?_
 simp only [p3, p4]
 refine sv 13 (.pointer (some ⟨b3, 0, none⟩)) ?_
 simp only [p3, p4]
 replace L3 := L3.gr g9
 refine sw 14 (.agg #[v0, v1]) rfl (rl 28 0 [v0, v1] L3) ?_
 simp only [p3, p4]
 refine se ?_
 have kq13 := g7.kp.trans g9.kp
 replace ha := ha.kp kq13
 replace hb := hb.kp g9.kp
 refine ec 15 (mul_i ha.num hb.num (by omega)) ?_
 rintro e12 w12 ⟨⟨x12, y12, rfl, h12⟩, g12⟩
 refine ⟨_, rfl, ?_⟩
 replace hB := hB.trans g12
 simp only [p3, p4]
 refine sv 16 (.agg #[x12, y12, (.bool false), (.slice none 0 0)]) ?_
 simp only [p3, p4]
 refine se ?_
 replace L4 := L4.gr (g7.trans (g9.trans g12))
 refine es 30 0 (.agg #[x12, y12, (.bool false), (.slice none 0 0)]) [x12, y12, (.bool false), (.slice none 0 0)] #[x12, y12, (.bool false), (.slice none 0 0)] L4 hB q4 ⟨h12.one0, h12.one1, rfl, rfl, trivial⟩ fun w14 st14 kp14 L4 hB => ?_
 refine sq_nil ?_
 refine k11 _ _ ?_
 try clear k11 K11
 refine wp_ret ?_
 simp only [Exit.then]
 refine bodyPost_ret (v := (.agg #[x12, y12, (.bool false), (.slice none 0 0)])) (ret_cell _ _ _ rfl rfl L4 (by kernel_rfl)) rfl ⟨?_, hB⟩
 replace h12 := h12.kp kp14
 exact ⟨_, _, _, _, rfl, by rw [← rat_int wa, ← rat_int wb, ← Rat.intCast_mul]; exact IsRat.int h12 (by omega)⟩

set_option maxRecDepth 100000 in
set_option maxHeartbeats 1000000 in
theorem mul_tf {k m : Nat} {u0 u1 u2 u3 v0 v1 v2 v3 : Value} {a b : Rat} {w : World} (ha : IsRat w k u0 u1 u2 u3 a) (hb : IsRat w m v0 v1 v2 v3 b) (_hk : k + m ≤ 100000) (wa : a.den = 1) (wb : b.den ≠ 1) :
    Calls Tryz.prog 42 #[(.agg #[u0, u1, u2, u3]), (.agg #[v0, v1, v2, v3])] w fun e w' => (∃ c0 c1 c2 c3, e = .returned (.agg #[c0, c1, c2, c3]) ∧ IsRat w' (k + m) c0 c1 c2 c3 (a * b)) ∧ Gr w w' := by
 have hka := ha.big
 have hkb := hb.big
 go_enter Tryz.func42, Tryz.ntmps42
 have hB := Gr.refl w
 refine wp_seq_k (fun K1 k1 => ?_)
 refine rg [0, 1, 2] ?_
 refine se ?_
 refine eb 30 #[u0, u1, u2, u3] 2 hB fun b2 w2 g2 L2 o2 q2 hB => ?_
 simp only [p3, p4]
 refine se ?_
 refine eb 30 #[v0, v1, v2, v3] 3 hB fun b3 w3 g3 L3 o3 q3 hB => ?_
 simp only [p3, p4]
 refine se ?_
 refine ea 30 #[(.bool false), (.slice none 0 0), (.bool false), (.slice none 0 0)] 4 hB fun b4 w4 g4 L4 o4 q4 hB => ?_
 replace L2 := L2.gr g3
 have ne2_4 := L2.ne o4
 have ne3_4 := L3.ne o4
 simp only [p3, p4]
 refine sq_nil ?_
 refine k1 _ _ ?_
 try clear k1 K1
 refine wp_seq_k (fun K5 k5 => ?_)
 refine wp_seq_k (fun K6 k6 => ?_)
 refine rg [0, 1, 2, 3, 4, 5] ?_
 replace L2 := L2.gr g4
 refine sw 5 (.agg #[u0, u1, u2, u3]) rfl (rl 30 0 [u0, u1, u2, u3] L2) ?_
 simp only [p3, p4]
 refine se ?_
 have kq8 := g2.kp.trans (g3.kp.trans g4.kp)
 replace ha := ha.kp kq8
 refine ec 6 (whole_t ha (by omega) wa) ?_
 rintro e7 w7 ⟨rfl, g7⟩
 refine ⟨_, rfl, ?_⟩
 replace hB := hB.trans g7
 simp only [p3, p4]
 refine sv 7 (.bool true) ?_
 simp only [p3, p4]
 replace L3 := L3.gr (g4.trans g7)
 refine sw 8 (.agg #[v0, v1, v2, v3]) rfl (rl 30 0 [v0, v1, v2, v3] L3) ?_
 simp only [p3, p4]
 refine se ?_
 have kq10 := g2.kp.trans (g3.kp.trans (g4.kp.trans g7.kp))
 replace hb := hb.kp kq10
 refine ec 9 (whole_f hb (by omega) wb) ?_
 rintro e9 w9 ⟨rfl, g9⟩
 refine ⟨_, rfl, ?_⟩
 replace hB := hB.trans g9
 simp only [p3, p4]
 refine sv 10 (.bool false) ?_
 simp only [p3, p4]
 refine sq_nil ?_
 refine k6 _ _ ?_
 try clear k6 K6
 refine wp_cond_false rfl ?_
 refine wp_skip ?_
 refine k5 _ _ ?_
 try clear k5 K5
 refine wp_seq_k (fun K11 k11 => ?_)
 have gd29 := Gr.drew w9
 replace hB := hB.trans gd29
 replace L2 := L2.gr (g7.trans (g9.trans gd29))
 replace L3 := L3.gr (g9.trans gd29)
 refine wp_region_ord (fun w' => Lc w' b2 #[u0, u1, u2, u3] 30 ∧ Lc w' b3 #[v0, v1, v2, v3] 30) [(true, 0), (true, 1), (true, 2), (true, 3), (true, 5), (true, 7), (false, 4), (false, 6), (false, 8), (false, 9), (false, 10), (false, 11)] (by kernel_rfl) (by kernel_rfl) (by kernel_rfl) (by decide) (fun _ _ _ _ _ h => h) ⟨L2, L3⟩ ?_
 refine ov 17 (.pointer (some ⟨b2, 0, none⟩)) ?_
 simp only [p3, p4]
 refine ow 18 (.agg #[u0, u1]) rfl (fun w' hS => (rl 28 0 [u0, u1] hS.1)) ?_
 simp only [p3, p4]
 refine ov 19 (.pointer (some ⟨b3, 0, none⟩)) ?_
 simp only [p3, p4]
 refine ow 20 (.agg #[v0, v1]) rfl (fun w' hS => (rl 28 0 [v0, v1] hS.2)) ?_
 simp only [p3, p4]
 refine ow 22 (.agg #[u0, u1, u2, u3]) rfl (fun w' hS => (rl 30 0 [u0, u1, u2, u3] hS.1)) ?_
 simp only [p3, p4]
 refine ow 24 (.agg #[v0, v1, v2, v3]) rfl (fun w' hS => (rl 30 0 [v0, v1, v2, v3] hS.2)) ?_
 simp only [p3, p4]
 refine oe ?_
 have kq32 := g7.kp.trans (g9.kp.trans gd29.kp)
 replace ha := ha.kp kq32
 have kq33 := g9.kp.trans gd29.kp
 replace hb := hb.kp kq33
 refine ec 21 (mul_i ha.num hb.num (by omega)) ?_
 rintro e31 w31 ⟨⟨x31, y31, rfl, h31⟩, g31⟩
 refine ⟨_, rfl, ?_⟩
 replace hB := hB.trans g31
 replace L2 := L2.gr g31
 replace L3 := L3.gr g31
 refine ⟨⟨L2, L3⟩, ?_⟩
 simp only [p3, p4]
 refine oe ?_
 replace ha := ha.kp g31.kp
 refine ec 23 (den_i ha) ?_
 rintro e35 w35 ⟨⟨x35, y35, rfl, h35⟩, g35⟩
 refine ⟨_, rfl, ?_⟩
 replace hB := hB.trans g35
 replace L2 := L2.gr g35
 replace L3 := L3.gr g35
 refine ⟨⟨L2, L3⟩, ?_⟩
 simp only [p3, p4]
 refine oe ?_
 have kq38 := g31.kp.trans g35.kp
 replace hb := hb.kp kq38
 refine ec 25 (den_i hb) ?_
 rintro e37 w37 ⟨⟨x37, y37, rfl, h37⟩, g37⟩
 refine ⟨_, rfl, ?_⟩
 replace hB := hB.trans g37
 replace L2 := L2.gr g37
 replace L3 := L3.gr g37
 refine ⟨⟨L2, L3⟩, ?_⟩
 simp only [p3, p4]
 refine oe ?_
 replace h35 := h35.kp g37.kp
 refine ec 26 (mul_i h35 h37 (by omega)) ?_
 rintro e40 w40 ⟨⟨x40, y40, rfl, h40⟩, g40⟩
 refine ⟨_, rfl, ?_⟩
 replace hB := hB.trans g40
 replace L2 := L2.gr g40
 replace L3 := L3.gr g40
 refine ⟨⟨L2, L3⟩, ?_⟩
 simp only [p3, p4]
 refine oe ?_
 have kq43 := g35.kp.trans (g37.kp.trans g40.kp)
 replace h31 := h31.kp kq43
 refine ec 27 (reduced_i ((k + m)) h31 h40 (Int.mul_pos (Int.natCast_pos.2 a.den_pos) (Int.natCast_pos.2 b.den_pos)) (by omega) (by omega) (by omega) (by omega)) ?_
 rintro e42 w42 ⟨⟨p42, q42, r42, s42, rfl, h42⟩, g42⟩
 refine ⟨_, rfl, ?_⟩
 replace hB := hB.trans g42
 replace L2 := L2.gr g42
 replace L3 := L3.gr g42
 refine ⟨⟨L2, L3⟩, ?_⟩
 simp only [p3, p4]
 refine oe ?_
 replace L4 := L4.gr (g7.trans (g9.trans (gd29.trans (g31.trans (g35.trans (g37.trans (g40.trans g42)))))))
 refine es 30 0 (.agg #[p42, q42, r42, s42]) [p42, q42, r42, s42] #[p42, q42, r42, s42] L4 hB q4 ⟨h42.one0, h42.one1, h42.one2, h42.one3, trivial⟩ fun w45 st45 kp45 L4 hB => ?_
 replace L2 := st45.lc L2 ne2_4
 replace L3 := st45.lc L3 ne3_4
 refine ⟨⟨L2, L3⟩, ?_⟩
 refine ord_nil ?_
 refine k11 _ _ ?_
 try clear k11 K11
 refine wp_ret ?_
 refine bodyPost_ret (v := (.agg #[p42, q42, r42, s42])) (ret_cell _ _ _ rfl rfl L4 (by kernel_rfl)) rfl ⟨?_, hB⟩
 replace h42 := h42.kp kp45
 exact ⟨_, _, _, _, rfl, by rw [← rat_mul]; exact h42⟩

set_option maxRecDepth 100000 in
set_option maxHeartbeats 1000000 in
theorem mul_f {k m : Nat} {u0 u1 u2 u3 v0 v1 v2 v3 : Value} {a b : Rat} {w : World} (ha : IsRat w k u0 u1 u2 u3 a) (hb : IsRat w m v0 v1 v2 v3 b) (_hk : k + m ≤ 100000) (wa : a.den ≠ 1) :
    Calls Tryz.prog 42 #[(.agg #[u0, u1, u2, u3]), (.agg #[v0, v1, v2, v3])] w fun e w' => (∃ c0 c1 c2 c3, e = .returned (.agg #[c0, c1, c2, c3]) ∧ IsRat w' (k + m) c0 c1 c2 c3 (a * b)) ∧ Gr w w' := by
 have hka := ha.big
 have hkb := hb.big
 go_enter Tryz.func42, Tryz.ntmps42
 have hB := Gr.refl w
 refine wp_seq_k (fun K1 k1 => ?_)
 refine rg [0, 1, 2] ?_
 refine se ?_
 refine eb 30 #[u0, u1, u2, u3] 2 hB fun b2 w2 g2 L2 o2 q2 hB => ?_
 simp only [p3, p4]
 refine se ?_
 refine eb 30 #[v0, v1, v2, v3] 3 hB fun b3 w3 g3 L3 o3 q3 hB => ?_
 simp only [p3, p4]
 refine se ?_
 refine ea 30 #[(.bool false), (.slice none 0 0), (.bool false), (.slice none 0 0)] 4 hB fun b4 w4 g4 L4 o4 q4 hB => ?_
 replace L2 := L2.gr g3
 have ne2_4 := L2.ne o4
 have ne3_4 := L3.ne o4
 simp only [p3, p4]
 refine sq_nil ?_
 refine k1 _ _ ?_
 try clear k1 K1
 refine wp_seq_k (fun K5 k5 => ?_)
 refine wp_seq_k (fun K6 k6 => ?_)
 refine rg [0, 1, 2, 3, 4, 5] ?_
 replace L2 := L2.gr g4
 refine sw 5 (.agg #[u0, u1, u2, u3]) rfl (rl 30 0 [u0, u1, u2, u3] L2) ?_
 simp only [p3, p4]
 refine se ?_
 have kq8 := g2.kp.trans (g3.kp.trans g4.kp)
 replace ha := ha.kp kq8
 refine ec 6 (whole_f ha (by omega) wa) ?_
 rintro e7 w7 ⟨rfl, g7⟩
 refine ⟨_, rfl, ?_⟩
 replace hB := hB.trans g7
 simp only [p3, p4]
 refine sv 7 (.bool false) ?_
 simp only [p3, p4]
 refine ss 8 ?_
 simp only [p3, p4]
 refine ss 9 ?_
 simp only [p3, p4]
 refine sv 10 (.bool false) ?_
 simp only [p3, p4]
 refine sq_nil ?_
 refine k6 _ _ ?_
 try clear k6 K6
 refine wp_cond_false rfl ?_
 refine wp_skip ?_
 refine k5 _ _ ?_
 try clear k5 K5
 refine wp_seq_k (fun K9 k9 => ?_)
 have gd27 := Gr.drew w7
 replace hB := hB.trans gd27
 replace L2 := L2.gr (g7.trans gd27)
 replace L3 := L3.gr (g4.trans (g7.trans gd27))
 refine wp_region_ord (fun w' => Lc w' b2 #[u0, u1, u2, u3] 30 ∧ Lc w' b3 #[v0, v1, v2, v3] 30) [(true, 0), (true, 1), (true, 2), (true, 3), (true, 5), (true, 7), (false, 4), (false, 6), (false, 8), (false, 9), (false, 10), (false, 11)] (by kernel_rfl) (by kernel_rfl) (by kernel_rfl) (by decide) (fun _ _ _ _ _ h => h) ⟨L2, L3⟩ ?_
 refine ov 17 (.pointer (some ⟨b2, 0, none⟩)) ?_
 simp only [p3, p4]
 refine ow 18 (.agg #[u0, u1]) rfl (fun w' hS => (rl 28 0 [u0, u1] hS.1)) ?_
 simp only [p3, p4]
 refine ov 19 (.pointer (some ⟨b3, 0, none⟩)) ?_
 simp only [p3, p4]
 refine ow 20 (.agg #[v0, v1]) rfl (fun w' hS => (rl 28 0 [v0, v1] hS.2)) ?_
 simp only [p3, p4]
 refine ow 22 (.agg #[u0, u1, u2, u3]) rfl (fun w' hS => (rl 30 0 [u0, u1, u2, u3] hS.1)) ?_
 simp only [p3, p4]
 refine ow 24 (.agg #[v0, v1, v2, v3]) rfl (fun w' hS => (rl 30 0 [v0, v1, v2, v3] hS.2)) ?_
 simp only [p3, p4]
 refine oe ?_
 have kq30 := g7.kp.trans gd27.kp
 replace ha := ha.kp kq30
 have kq31 := g2.kp.trans (g3.kp.trans (g4.kp.trans (g7.kp.trans gd27.kp)))
 replace hb := hb.kp kq31
 refine ec 21 (mul_i ha.num hb.num (by omega)) ?_
 rintro e29 w29 ⟨⟨x29, y29, rfl, h29⟩, g29⟩
 refine ⟨_, rfl, ?_⟩
 replace hB := hB.trans g29
 replace L2 := L2.gr g29
 replace L3 := L3.gr g29
 refine ⟨⟨L2, L3⟩, ?_⟩
 simp only [p3, p4]
 refine oe ?_
 replace ha := ha.kp g29.kp
 refine ec 23 (den_i ha) ?_
 rintro e33 w33 ⟨⟨x33, y33, rfl, h33⟩, g33⟩
 refine ⟨_, rfl, ?_⟩
 replace hB := hB.trans g33
 replace L2 := L2.gr g33
 replace L3 := L3.gr g33
 refine ⟨⟨L2, L3⟩, ?_⟩
 simp only [p3, p4]
 refine oe ?_
 have kq36 := g29.kp.trans g33.kp
 replace hb := hb.kp kq36
 refine ec 25 (den_i hb) ?_
 rintro e35 w35 ⟨⟨x35, y35, rfl, h35⟩, g35⟩
 refine ⟨_, rfl, ?_⟩
 replace hB := hB.trans g35
 replace L2 := L2.gr g35
 replace L3 := L3.gr g35
 refine ⟨⟨L2, L3⟩, ?_⟩
 simp only [p3, p4]
 refine oe ?_
 replace h33 := h33.kp g35.kp
 refine ec 26 (mul_i h33 h35 (by omega)) ?_
 rintro e38 w38 ⟨⟨x38, y38, rfl, h38⟩, g38⟩
 refine ⟨_, rfl, ?_⟩
 replace hB := hB.trans g38
 replace L2 := L2.gr g38
 replace L3 := L3.gr g38
 refine ⟨⟨L2, L3⟩, ?_⟩
 simp only [p3, p4]
 refine oe ?_
 have kq41 := g33.kp.trans (g35.kp.trans g38.kp)
 replace h29 := h29.kp kq41
 refine ec 27 (reduced_i ((k + m)) h29 h38 (Int.mul_pos (Int.natCast_pos.2 a.den_pos) (Int.natCast_pos.2 b.den_pos)) (by omega) (by omega) (by omega) (by omega)) ?_
 rintro e40 w40 ⟨⟨p40, q40, r40, s40, rfl, h40⟩, g40⟩
 refine ⟨_, rfl, ?_⟩
 replace hB := hB.trans g40
 replace L2 := L2.gr g40
 replace L3 := L3.gr g40
 refine ⟨⟨L2, L3⟩, ?_⟩
 simp only [p3, p4]
 refine oe ?_
 replace L4 := L4.gr (g7.trans (gd27.trans (g29.trans (g33.trans (g35.trans (g38.trans g40))))))
 refine es 30 0 (.agg #[p40, q40, r40, s40]) [p40, q40, r40, s40] #[p40, q40, r40, s40] L4 hB q4 ⟨h40.one0, h40.one1, h40.one2, h40.one3, trivial⟩ fun w43 st43 kp43 L4 hB => ?_
 replace L2 := st43.lc L2 ne2_4
 replace L3 := st43.lc L3 ne3_4
 refine ⟨⟨L2, L3⟩, ?_⟩
 refine ord_nil ?_
 refine k9 _ _ ?_
 try clear k9 K9
 refine wp_ret ?_
 refine bodyPost_ret (v := (.agg #[p40, q40, r40, s40])) (ret_cell _ _ _ rfl rfl L4 (by kernel_rfl)) rfl ⟨?_, hB⟩
 replace h40 := h40.kp kp43
 exact ⟨_, _, _, _, rfl, by rw [← rat_mul]; exact h40⟩

theorem mul_r {k m : Nat} {u0 u1 u2 u3 v0 v1 v2 v3 : Value} {a b : Rat} {w : World} (ha : IsRat w k u0 u1 u2 u3 a) (hb : IsRat w m v0 v1 v2 v3 b) (hk : k + m ≤ 100000) :
    Calls Tryz.prog 42 #[.agg #[u0, u1, u2, u3], .agg #[v0, v1, v2, v3]] w fun e w' => (∃ c0 c1 c2 c3, e = .returned (.agg #[c0, c1, c2, c3]) ∧ IsRat w' (k + m) c0 c1 c2 c3 (a * b)) ∧ Gr w w' := by
  by_cases wa : a.den = 1
  · by_cases wb : b.den = 1
    · exact mul_tt ha hb hk wa wb
    · exact mul_tf ha hb hk wa wb
  · exact mul_f ha hb hk wa

set_option maxRecDepth 100000 in
set_option maxHeartbeats 1000000 in
theorem neg_r {k : Nat} {u0 u1 u2 u3 : Value} {a : Rat} {w : World} (ha : IsRat w k u0 u1 u2 u3 a)  :
    Calls Tryz.prog 44 #[(.agg #[u0, u1, u2, u3])] w fun e w' => (∃ c0 c1 c2 c3, e = .returned (.agg #[c0, c1, c2, c3]) ∧ IsRat w' k c0 c1 c2 c3 (-a)) ∧ Gr w w' := by
 go_enter Tryz.func44, Tryz.ntmps44
 have hB := Gr.refl w
 refine wp_seq_k (fun K1 k1 => ?_)
 refine rg [0, 1] ?_
 refine se ?_
 refine eb 30 #[u0, u1, u2, u3] 1 hB fun b2 w2 g2 L2 o2 q2 hB => ?_
 simp only [p3, p4]
 refine se ?_
 refine ea 30 #[(.bool false), (.slice none 0 0), (.bool false), (.slice none 0 0)] 2 hB fun b3 w3 g3 L3 o3 q3 hB => ?_
 have ne2_3 := L2.ne o3
 simp only [p3, p4]
 refine sq_nil ?_
 refine k1 _ _ ?_
 try clear k1 K1
 refine wp_seq_k (fun K4 k4 => ?_)
 have gd11 := Gr.drew w3
 replace hB := hB.trans gd11
 replace L2 := L2.gr (g3.trans gd11)
 refine wp_region_ord (fun w' => Lc w' b2 #[u0, u1, u2, u3] 30) [(true, 0), (true, 1), (true, 3), (true, 4), (false, 2), (true, 5), (false, 6)] (by kernel_rfl) (by kernel_rfl) (by kernel_rfl) (by decide) (fun _ _ _ _ _ h => h) L2 ?_
 refine ov 3 (.pointer (some ⟨b2, 0, none⟩)) ?_
 simp only [p3, p4]
 refine ow 4 (.agg #[u0, u1]) rfl (fun w' hS => (rl 28 0 [u0, u1] hS)) ?_
 simp only [p3, p4]
 refine ov 6 (.pointer (some ⟨b2, 2, none⟩)) ?_
 simp only [p3, p4]
 refine ow 7 (.agg #[u2, u3]) rfl (fun w' hS => (rl 28 2 [u2, u3] hS)) ?_
 simp only [p3, p4]
 refine oe ?_
 have kq14 := g2.kp.trans (g3.kp.trans gd11.kp)
 replace ha := ha.kp kq14
 refine ec 5 (neg_i ha.num ) ?_
 rintro e13 w13 ⟨⟨x13, y13, rfl, h13⟩, g13⟩
 refine ⟨_, rfl, ?_⟩
 replace hB := hB.trans g13
 replace L2 := L2.gr g13
 refine ⟨L2, ?_⟩
 simp only [p3, p4]
 refine ov 8 (.agg #[x13, y13, u2, u3]) ?_
 simp only [p3, p4]
 refine oe ?_
 replace L3 := L3.gr (gd11.trans g13)
 refine es 30 0 (.agg #[x13, y13, u2, u3]) [x13, y13, u2, u3] #[x13, y13, u2, u3] L3 hB q3 ⟨h13.one0, h13.one1, ha.one2, ha.one3, trivial⟩ fun w16 st16 kp16 L3 hB => ?_
 replace L2 := st16.lc L2 ne2_3
 refine ⟨L2, ?_⟩
 refine ord_nil ?_
 refine k4 _ _ ?_
 try clear k4 K4
 refine wp_ret ?_
 refine bodyPost_ret (v := (.agg #[x13, y13, u2, u3])) (ret_cell _ _ _ rfl rfl L3 (by kernel_rfl)) rfl ⟨?_, hB⟩
 have kq17 := g13.kp.trans kp16
 replace ha := ha.kp kq17
 replace h13 := h13.kp kp16
 exact ⟨_, _, _, _, rfl, IsRat.neg ha h13⟩

set_option maxRecDepth 100000 in
set_option maxHeartbeats 1000000 in
theorem sub_r {k m : Nat} {u0 u1 u2 u3 v0 v1 v2 v3 : Value} {a b : Rat} {w : World} (ha : IsRat w k u0 u1 u2 u3 a) (hb : IsRat w m v0 v1 v2 v3 b) (_hk : k + m ≤ 100000)  :
    Calls Tryz.prog 71 #[(.agg #[u0, u1, u2, u3]), (.agg #[v0, v1, v2, v3])] w fun e w' => (∃ c0 c1 c2 c3, e = .returned (.agg #[c0, c1, c2, c3]) ∧ IsRat w' (k + m + 1) c0 c1 c2 c3 (a - b)) ∧ Gr w w' := by
 go_enter Tryz.func71, Tryz.ntmps71
 have hB := Gr.refl w
 refine wp_seq_k (fun K1 k1 => ?_)
 refine rg [0, 1, 2] ?_
 refine se ?_
 refine eb 30 #[u0, u1, u2, u3] 2 hB fun b2 w2 g2 L2 o2 q2 hB => ?_
 simp only [p3, p4]
 refine se ?_
 refine eb 30 #[v0, v1, v2, v3] 3 hB fun b3 w3 g3 L3 o3 q3 hB => ?_
 simp only [p3, p4]
 refine se ?_
 refine ea 30 #[(.bool false), (.slice none 0 0), (.bool false), (.slice none 0 0)] 4 hB fun b4 w4 g4 L4 o4 q4 hB => ?_
 replace L2 := L2.gr g3
 have ne2_4 := L2.ne o4
 have ne3_4 := L3.ne o4
 simp only [p3, p4]
 refine sq_nil ?_
 refine k1 _ _ ?_
 try clear k1 K1
 refine wp_seq_k (fun K5 k5 => ?_)
 have gd15 := Gr.drew w4
 replace hB := hB.trans gd15
 replace L2 := L2.gr (g4.trans gd15)
 replace L3 := L3.gr (g4.trans gd15)
 refine wp_region_ord (fun w' => Lc w' b2 #[u0, u1, u2, u3] 30 ∧ Lc w' b3 #[v0, v1, v2, v3] 30) [(true, 0), (true, 1), (false, 2), (false, 3), (false, 4)] (by kernel_rfl) (by kernel_rfl) (by kernel_rfl) (by decide) (fun _ _ _ _ _ h => h) ⟨L2, L3⟩ ?_
 refine ow 5 (.agg #[u0, u1, u2, u3]) rfl (fun w' hS => (rl 30 0 [u0, u1, u2, u3] hS.1)) ?_
 simp only [p3, p4]
 refine ow 6 (.agg #[v0, v1, v2, v3]) rfl (fun w' hS => (rl 30 0 [v0, v1, v2, v3] hS.2)) ?_
 simp only [p3, p4]
 refine oe ?_
 have kq18 := g2.kp.trans (g3.kp.trans (g4.kp.trans gd15.kp))
 replace hb := hb.kp kq18
 refine ec 7 (neg_r hb ) ?_
 rintro e17 w17 ⟨⟨p17, q17, r17, s17, rfl, h17⟩, g17⟩
 refine ⟨_, rfl, ?_⟩
 replace hB := hB.trans g17
 replace L2 := L2.gr g17
 replace L3 := L3.gr g17
 refine ⟨⟨L2, L3⟩, ?_⟩
 simp only [p3, p4]
 refine oe ?_
 have kq21 := g2.kp.trans (g3.kp.trans (g4.kp.trans (gd15.kp.trans g17.kp)))
 replace ha := ha.kp kq21
 refine ec 8 (add_r ha h17 (by omega)) ?_
 rintro e20 w20 ⟨⟨p20, q20, r20, s20, rfl, h20⟩, g20⟩
 refine ⟨_, rfl, ?_⟩
 replace hB := hB.trans g20
 replace L2 := L2.gr g20
 replace L3 := L3.gr g20
 refine ⟨⟨L2, L3⟩, ?_⟩
 simp only [p3, p4]
 refine oe ?_
 replace L4 := L4.gr (gd15.trans (g17.trans g20))
 refine es 30 0 (.agg #[p20, q20, r20, s20]) [p20, q20, r20, s20] #[p20, q20, r20, s20] L4 hB q4 ⟨h20.one0, h20.one1, h20.one2, h20.one3, trivial⟩ fun w23 st23 kp23 L4 hB => ?_
 replace L2 := st23.lc L2 ne2_4
 replace L3 := st23.lc L3 ne3_4
 refine ⟨⟨L2, L3⟩, ?_⟩
 refine ord_nil ?_
 refine k5 _ _ ?_
 try clear k5 K5
 refine wp_ret ?_
 refine bodyPost_ret (v := (.agg #[p20, q20, r20, s20])) (ret_cell _ _ _ rfl rfl L4 (by kernel_rfl)) rfl ⟨?_, hB⟩
 replace h20 := h20.kp kp23
 exact ⟨_, _, _, _, rfl, by rw [Rat.sub_eq_add_neg]; exact h20⟩

set_option maxRecDepth 100000 in
set_option maxHeartbeats 1000000 in
theorem num_r {k : Nat} {u0 u1 u2 u3 : Value} {a : Rat} {w : World} (ha : IsRat w k u0 u1 u2 u3 a)  :
    Calls Tryz.prog 80 #[(.agg #[u0, u1, u2, u3])] w fun e w' => (∃ x' y', e = .returned (.agg #[x', y']) ∧ IsInt w' k x' y' (a.num)) ∧ Gr w w' := by
 go_enter Tryz.func80, Tryz.ntmps80
 have hB := Gr.refl w
 refine wp_seq_k (fun K1 k1 => ?_)
 refine rg [0, 1] ?_
 refine se ?_
 refine eb 30 #[u0, u1, u2, u3] 1 hB fun b2 w2 g2 L2 o2 q2 hB => ?_
 simp only [p3, p4]
 refine se ?_
 refine ea 28 #[(.bool false), (.slice none 0 0)] 2 hB fun b3 w3 g3 L3 o3 q3 hB => ?_
 simp only [p3, p4]
 refine sq_nil ?_
 refine k1 _ _ ?_
 try clear k1 K1
 refine wp_seq_k (fun K4 k4 => ?_)
 refine rg [0, 1, 2] ?_
 refine sv 3 (.pointer (some ⟨b2, 0, none⟩)) ?_
 simp only [p3, p4]
 replace L2 := L2.gr g3
 refine sw 4 (.agg #[u0, u1]) rfl (rl 28 0 [u0, u1] L2) ?_
 simp only [p3, p4]
 refine se ?_
 refine es 28 0 (.agg #[u0, u1]) [u0, u1] #[u0, u1] L3 hB q3 ⟨ha.one0, ha.one1, trivial⟩ fun w5 st5 kp5 L3 hB => ?_
 refine sq_nil ?_
 refine k4 _ _ ?_
 try clear k4 K4
 refine wp_ret ?_
 refine bodyPost_ret (v := (.agg #[u0, u1])) (ret_cell _ _ _ rfl rfl L3 (by kernel_rfl)) rfl ⟨?_, hB⟩
 have kq6 := g2.kp.trans (g3.kp.trans kp5)
 replace ha := ha.kp kq6
 exact ⟨_, _, rfl, ha.num⟩

set_option maxRecDepth 100000 in
set_option maxHeartbeats 1000000 in
theorem sign_r {k : Nat} {u0 u1 u2 u3 : Value} {a : Rat} {w : World} (ha : IsRat w k u0 u1 u2 u3 a)  :
    Calls Tryz.prog 45 #[(.agg #[u0, u1, u2, u3])] w fun e w' => e = .returned (.int .i64 (sgn a.num)) ∧ Gr w w' := by
 go_enter Tryz.func45, Tryz.ntmps45
 have hB := Gr.refl w
 refine wp_seq_k (fun K1 k1 => ?_)
 refine rg [0, 1] ?_
 refine se ?_
 refine eb 30 #[u0, u1, u2, u3] 1 hB fun b2 w2 g2 L2 o2 q2 hB => ?_
 simp only [p3, p4]
 refine sv 2 (.int .i64 0) ?_
 simp only [p3, p4]
 refine sq_nil ?_
 refine k1 _ _ ?_
 try clear k1 K1
 refine wp_seq_k (fun K3 k3 => ?_)
 refine rg [0, 1, 2, 3] ?_
 refine sv 3 (.pointer (some ⟨b2, 0, none⟩)) ?_
 simp only [p3, p4]
 refine sw 4 (.agg #[u0, u1]) rfl (rl 28 0 [u0, u1] L2) ?_
 simp only [p3, p4]
 refine se ?_
 replace ha := ha.kp g2.kp
 refine ec 5 (sign_i ha.num) ?_
 rintro e4 w4 ⟨rfl, g4⟩
 refine ⟨_, rfl, ?_⟩
 replace hB := hB.trans g4
 simp only [p3, p4]
 refine sv 2 (.int .i64 (sgn (a.num))) ?_
 simp only [p3, p4]
 refine sq_nil ?_
 refine k3 _ _ ?_
 try clear k3 K3
 refine wp_ret ?_
 refine bodyPost_ret (v := (.int .i64 (sgn (a.num)))) (ret_tmp rfl rfl) rfl ⟨?_, hB⟩
 exact rfl

set_option maxRecDepth 100000 in
set_option maxHeartbeats 1000000 in
theorem from_r (z : Int) (_h0 : -9223372036854775808 ≤ z) (_h1 : z ≤ 9223372036854775807) (w : World) :
    Calls Tryz.prog 38 #[(.int .i64 (z))] w fun e w' => (∃ c0 c1 c2 c3, e = .returned (.agg #[c0, c1, c2, c3]) ∧ IsRat w' 64 c0 c1 c2 c3 ((z : Rat))) ∧ Gr w w' := by
 go_enter Tryz.func38, Tryz.ntmps38
 have hB := Gr.refl w
 refine wp_seq_k (fun K1 k1 => ?_)
 refine rg [0] ?_
 refine se ?_
 refine ea 30 #[(.bool false), (.slice none 0 0), (.bool false), (.slice none 0 0)] 2 hB fun b2 w2 g2 L2 o2 q2 hB => ?_
 simp only [p3, p4]
 refine sq_nil ?_
 refine k1 _ _ ?_
 try clear k1 K1
 refine wp_seq_k (fun K3 k3 => ?_)
 refine rg [0, 1, 2, 3] ?_
 refine sv 3 (.int .i64 (z)) ?_
 simp only [p3, p4]
 refine se ?_
 refine ec 4 (from_i (z) (by omega) (by omega) _) ?_
 rintro e4 w4 ⟨⟨x4, y4, rfl, h4⟩, g4⟩
 refine ⟨_, rfl, ?_⟩
 replace hB := hB.trans g4
 simp only [p3, p4]
 refine sv 5 (.agg #[x4, y4, (.bool false), (.slice none 0 0)]) ?_
 simp only [p3, p4]
 refine se ?_
 replace L2 := L2.gr g4
 refine es 30 0 (.agg #[x4, y4, (.bool false), (.slice none 0 0)]) [x4, y4, (.bool false), (.slice none 0 0)] #[x4, y4, (.bool false), (.slice none 0 0)] L2 hB q2 ⟨h4.one0, h4.one1, rfl, rfl, trivial⟩ fun w5 st5 kp5 L2 hB => ?_
 refine sq_nil ?_
 refine k3 _ _ ?_
 try clear k3 K3
 refine wp_ret ?_
 refine bodyPost_ret (v := (.agg #[x4, y4, (.bool false), (.slice none 0 0)])) (ret_cell _ _ _ rfl rfl L2 (by kernel_rfl)) rfl ⟨?_, hB⟩
 replace h4 := h4.kp kp5
 exact ⟨_, _, _, _, rfl, IsRat.int h4 (by omega)⟩

set_option maxRecDepth 100000 in
set_option maxHeartbeats 1000000 in
theorem make_r {k m : Nat} (K : Nat) {n0 n1 d0 d1 : Value} {N D : Int} {w : World} (hn : IsInt w k n0 n1 N) (hd : IsInt w m d0 d1 D) (h0 : 0 < D) (_h1 : k ≤ K) (_h2 : m ≤ K) (_h3 : 64 ≤ K) (_h4 : 8 * K ≤ 1000000) :
    Calls Tryz.prog 79 #[(.agg #[n0, n1]), (.agg #[d0, d1])] w fun e w' => (∃ c0 c1 c2 c3, e = .returned (.tuple #[.agg #[c0, c1, c2, c3], .int .i64 0]) ∧ IsRat w' K c0 c1 c2 c3 (Rat.divInt N D)) ∧ Gr w w' := by
 go_enter Tryz.func79, Tryz.ntmps79
 have hB := Gr.refl w
 refine wp_seq_k (fun K1 k1 => ?_)
 refine rg [0, 1, 2, 3] ?_
 refine se ?_
 refine eb 28 #[n0, n1] 2 hB fun b2 w2 g2 L2 o2 q2 hB => ?_
 simp only [p3, p4]
 refine se ?_
 refine eb 28 #[d0, d1] 3 hB fun b3 w3 g3 L3 o3 q3 hB => ?_
 simp only [p3, p4]
 refine se ?_
 refine ea 30 #[(.bool false), (.slice none 0 0), (.bool false), (.slice none 0 0)] 4 hB fun b4 w4 g4 L4 o4 q4 hB => ?_
 replace L2 := L2.gr g3
 simp only [p3, p4]
 refine sv 5 (.int .i64 0) ?_
 simp only [p3, p4]
 refine sq_nil ?_
 refine k1 _ _ ?_
 try clear k1 K1
 refine wp_seq_k (fun K5 k5 => ?_)
 refine wp_seq_k (fun K6 k6 => ?_)
 refine rg [0, 1, 2] ?_
 replace L3 := L3.gr g4
 refine sw 6 (.agg #[d0, d1]) rfl (rl 28 0 [d0, d1] L3) ?_
 simp only [p3, p4]
 refine se ?_
 have kq8 := g2.kp.trans (g3.kp.trans g4.kp)
 replace hd := hd.kp kq8
 refine ec 7 (sign_pos hd (by omega)) ?_
 rintro e7 w7 ⟨rfl, g7⟩
 refine ⟨_, rfl, ?_⟩
 replace hB := hB.trans g7
 simp only [p3, p4]
 refine sv 8 (.bool false) ?_
 simp only [p3, p4]
 refine sq_nil ?_
 refine k6 _ _ ?_
 try clear k6 K6
 refine wp_cond_false rfl ?_
 refine wp_skip ?_
 refine k5 _ _ ?_
 try clear k5 K5
 refine wp_seq_k (fun K9 k9 => ?_)
 refine rg [0, 1, 2, 3, 4] ?_
 replace L2 := L2.gr (g4.trans g7)
 refine sw 10 (.agg #[n0, n1]) rfl (rl 28 0 [n0, n1] L2) ?_
 simp only [p3, p4]
 replace L3 := L3.gr g7
 refine sw 11 (.agg #[d0, d1]) rfl (rl 28 0 [d0, d1] L3) ?_
 simp only [p3, p4]
 refine se ?_
 have kq11 := g2.kp.trans (g3.kp.trans (g4.kp.trans g7.kp))
 replace hn := hn.kp kq11
 replace hd := hd.kp g7.kp
 refine ec 12 (reduced_i (K) hn hd h0 (by omega) (by omega) (by omega) (by omega)) ?_
 rintro e10 w10 ⟨⟨p10, q10, r10, s10, rfl, h10⟩, g10⟩
 refine ⟨_, rfl, ?_⟩
 replace hB := hB.trans g10
 simp only [p3, p4]
 refine se ?_
 replace L4 := L4.gr (g7.trans g10)
 refine es 30 0 (.agg #[p10, q10, r10, s10]) [p10, q10, r10, s10] #[p10, q10, r10, s10] L4 hB q4 ⟨h10.one0, h10.one1, h10.one2, h10.one3, trivial⟩ fun w12 st12 kp12 L4 hB => ?_
 refine sv 5 (.int .i64 0) ?_
 simp only [p3, p4]
 refine sq_nil ?_
 refine k9 _ _ ?_
 try clear k9 K9
 refine wp_ret ?_
 refine bodyPost_ret (v := (.tuple #[(.agg #[p10, q10, r10, s10]), (.int .i64 0)])) (ret_cell_tmp' _ _ _ rfl rfl L4 (by kernel_rfl) rfl) rfl ⟨?_, hB⟩
 replace h10 := h10.kp kp12
 exact ⟨_, _, _, _, rfl, h10⟩

set_option maxRecDepth 100000 in
set_option maxHeartbeats 1000000 in
theorem rcomp_tt {k m : Nat} {u0 u1 u2 u3 v0 v1 v2 v3 : Value} {a b : Rat} {w : World} (ha : IsRat w k u0 u1 u2 u3 a) (hb : IsRat w m v0 v1 v2 v3 b) (_hk : k + m ≤ 100000) (wa : a.den = 1) (wb : b.den = 1) :
    Calls Tryz.prog 43 #[(.agg #[u0, u1, u2, u3]), (.agg #[v0, v1, v2, v3])] w fun e w' => e = .returned (.int .i64 (rcmp a b)) ∧ Gr w w' := by
 have hka := ha.big
 have hkb := hb.big
 go_enter Tryz.func43, Tryz.ntmps43
 have hB := Gr.refl w
 refine wp_seq_k (fun K1 k1 => ?_)
 refine rg [0, 1, 2] ?_
 refine se ?_
 refine eb 30 #[u0, u1, u2, u3] 2 hB fun b2 w2 g2 L2 o2 q2 hB => ?_
 simp only [p3, p4]
 refine se ?_
 refine eb 30 #[v0, v1, v2, v3] 3 hB fun b3 w3 g3 L3 o3 q3 hB => ?_
 simp only [p3, p4]
 refine sv 4 (.int .i64 0) ?_
 simp only [p3, p4]
 refine sq_nil ?_
 refine k1 _ _ ?_
 try clear k1 K1
 refine wp_seq_k (fun K4 k4 => ?_)
 refine wp_seq_k (fun K5 k5 => ?_)
 refine rg [0, 1, 2, 3, 4, 5] ?_
 replace L2 := L2.gr g3
 refine sw 5 (.agg #[u0, u1, u2, u3]) rfl (rl 30 0 [u0, u1, u2, u3] L2) ?_
 simp only [p3, p4]
 refine se ?_
 have kq7 := g2.kp.trans g3.kp
 replace ha := ha.kp kq7
 refine ec 6 (whole_t ha (by omega) wa) ?_
 rintro e6 w6 ⟨rfl, g6⟩
 refine ⟨_, rfl, ?_⟩
 replace hB := hB.trans g6
 simp only [p3, p4]
 refine sv 7 (.bool true) ?_
 simp only [p3, p4]
 replace L3 := L3.gr g6
 refine sw 8 (.agg #[v0, v1, v2, v3]) rfl (rl 30 0 [v0, v1, v2, v3] L3) ?_
 simp only [p3, p4]
 refine se ?_
 have kq9 := g2.kp.trans (g3.kp.trans g6.kp)
 replace hb := hb.kp kq9
 refine ec 9 (whole_t hb (by omega) wb) ?_
 rintro e8 w8 ⟨rfl, g8⟩
 refine ⟨_, rfl, ?_⟩
 replace hB := hB.trans g8
 simp only [p3, p4]
 refine sv 10 (.bool true) ?_
 simp only [p3, p4]
 refine sq_nil ?_
 refine k5 _ _ ?_
 try clear k5 K5
 refine wp_cond_true rfl ?_
 refine wp_seq_k (fun K10 k10 => ?_)
 refine rg [0, 1, 2, 3, 4, 5] ?_
 refine sv 11 (.pointer (some ⟨b2, 0, none⟩)) ?_
 simp only [p3, p4]
 replace L2 := L2.gr (g6.trans g8)
 refine sw 12 (.agg #[u0, u1]) rfl (rl 28 0 [u0, u1] L2) ?_
 simp only [p3, p4]
 refine sv 13 (.pointer (some ⟨b3, 0, none⟩)) ?_
 simp only [p3, p4]
 replace L3 := L3.gr g8
 refine sw 14 (.agg #[v0, v1]) rfl (rl 28 0 [v0, v1] L3) ?_
 simp only [p3, p4]
 refine se ?_
 have kq12 := g6.kp.trans g8.kp
 replace ha := ha.kp kq12
 replace hb := hb.kp g8.kp
 refine ec 15 (compare_i ha.num hb.num (by omega) (by omega)) ?_
 rintro e11 w11 ⟨rfl, g11⟩
 refine ⟨_, rfl, ?_⟩
 replace hB := hB.trans g11
 simp only [p3, p4]
 refine sv 4 (.int .i64 (sgn (a.num - b.num))) ?_
 simp only [p3, p4]
 refine sq_nil ?_
 refine k10 _ _ ?_
 try clear k10 K10
 refine wp_ret ?_
 simp only [Exit.then]
 refine bodyPost_ret (v := (.int .i64 (sgn (a.num - b.num)))) (ret_tmp rfl rfl) rfl ⟨?_, hB⟩
 exact by rw [rcmp_int wa wb]

set_option maxRecDepth 100000 in
set_option maxHeartbeats 1000000 in
theorem rcomp_tf {k m : Nat} {u0 u1 u2 u3 v0 v1 v2 v3 : Value} {a b : Rat} {w : World} (ha : IsRat w k u0 u1 u2 u3 a) (hb : IsRat w m v0 v1 v2 v3 b) (_hk : k + m ≤ 100000) (wa : a.den = 1) (wb : b.den ≠ 1) :
    Calls Tryz.prog 43 #[(.agg #[u0, u1, u2, u3]), (.agg #[v0, v1, v2, v3])] w fun e w' => e = .returned (.int .i64 (rcmp a b)) ∧ Gr w w' := by
 have hka := ha.big
 have hkb := hb.big
 go_enter Tryz.func43, Tryz.ntmps43
 have hB := Gr.refl w
 refine wp_seq_k (fun K1 k1 => ?_)
 refine rg [0, 1, 2] ?_
 refine se ?_
 refine eb 30 #[u0, u1, u2, u3] 2 hB fun b2 w2 g2 L2 o2 q2 hB => ?_
 simp only [p3, p4]
 refine se ?_
 refine eb 30 #[v0, v1, v2, v3] 3 hB fun b3 w3 g3 L3 o3 q3 hB => ?_
 simp only [p3, p4]
 refine sv 4 (.int .i64 0) ?_
 simp only [p3, p4]
 refine sq_nil ?_
 refine k1 _ _ ?_
 try clear k1 K1
 refine wp_seq_k (fun K4 k4 => ?_)
 refine wp_seq_k (fun K5 k5 => ?_)
 refine rg [0, 1, 2, 3, 4, 5] ?_
 replace L2 := L2.gr g3
 refine sw 5 (.agg #[u0, u1, u2, u3]) rfl (rl 30 0 [u0, u1, u2, u3] L2) ?_
 simp only [p3, p4]
 refine se ?_
 have kq7 := g2.kp.trans g3.kp
 replace ha := ha.kp kq7
 refine ec 6 (whole_t ha (by omega) wa) ?_
 rintro e6 w6 ⟨rfl, g6⟩
 refine ⟨_, rfl, ?_⟩
 replace hB := hB.trans g6
 simp only [p3, p4]
 refine sv 7 (.bool true) ?_
 simp only [p3, p4]
 replace L3 := L3.gr g6
 refine sw 8 (.agg #[v0, v1, v2, v3]) rfl (rl 30 0 [v0, v1, v2, v3] L3) ?_
 simp only [p3, p4]
 refine se ?_
 have kq9 := g2.kp.trans (g3.kp.trans g6.kp)
 replace hb := hb.kp kq9
 refine ec 9 (whole_f hb (by omega) wb) ?_
 rintro e8 w8 ⟨rfl, g8⟩
 refine ⟨_, rfl, ?_⟩
 replace hB := hB.trans g8
 simp only [p3, p4]
 refine sv 10 (.bool false) ?_
 simp only [p3, p4]
 refine sq_nil ?_
 refine k5 _ _ ?_
 try clear k5 K5
 refine wp_cond_false rfl ?_
 refine wp_skip ?_
 refine k4 _ _ ?_
 try clear k4 K4
 refine wp_seq_k (fun K10 k10 => ?_)
 have gd26 := Gr.drew w8
 replace hB := hB.trans gd26
 replace L2 := L2.gr (g6.trans (g8.trans gd26))
 replace L3 := L3.gr (g8.trans gd26)
 refine wp_region_ord (fun w' => Lc w' b2 #[u0, u1, u2, u3] 30 ∧ Lc w' b3 #[v0, v1, v2, v3] 30) [(true, 0), (true, 1), (true, 2), (true, 5), (true, 6), (true, 7), (false, 3), (false, 4), (false, 8), (false, 9), (false, 10), (true, 11)] (by kernel_rfl) (by kernel_rfl) (by kernel_rfl) (by decide) (fun _ _ _ _ _ h => h) ⟨L2, L3⟩ ?_
 refine ov 16 (.pointer (some ⟨b2, 0, none⟩)) ?_
 simp only [p3, p4]
 refine ow 17 (.agg #[u0, u1]) rfl (fun w' hS => (rl 28 0 [u0, u1] hS.1)) ?_
 simp only [p3, p4]
 refine ow 18 (.agg #[v0, v1, v2, v3]) rfl (fun w' hS => (rl 30 0 [v0, v1, v2, v3] hS.2)) ?_
 simp only [p3, p4]
 refine ov 21 (.pointer (some ⟨b3, 0, none⟩)) ?_
 simp only [p3, p4]
 refine ow 22 (.agg #[v0, v1]) rfl (fun w' hS => (rl 28 0 [v0, v1] hS.2)) ?_
 simp only [p3, p4]
 refine ow 23 (.agg #[u0, u1, u2, u3]) rfl (fun w' hS => (rl 30 0 [u0, u1, u2, u3] hS.1)) ?_
 simp only [p3, p4]
 refine oe ?_
 have kq29 := g8.kp.trans gd26.kp
 replace hb := hb.kp kq29
 refine ec 19 (den_i hb) ?_
 rintro e28 w28 ⟨⟨x28, y28, rfl, h28⟩, g28⟩
 refine ⟨_, rfl, ?_⟩
 replace hB := hB.trans g28
 replace L2 := L2.gr g28
 replace L3 := L3.gr g28
 refine ⟨⟨L2, L3⟩, ?_⟩
 simp only [p3, p4]
 refine oe ?_
 have kq32 := g6.kp.trans (g8.kp.trans (gd26.kp.trans g28.kp))
 replace ha := ha.kp kq32
 refine ec 20 (mul_i ha.num h28 (by omega)) ?_
 rintro e31 w31 ⟨⟨x31, y31, rfl, h31⟩, g31⟩
 refine ⟨_, rfl, ?_⟩
 replace hB := hB.trans g31
 replace L2 := L2.gr g31
 replace L3 := L3.gr g31
 refine ⟨⟨L2, L3⟩, ?_⟩
 simp only [p3, p4]
 refine oe ?_
 replace ha := ha.kp g31.kp
 refine ec 24 (den_i ha) ?_
 rintro e34 w34 ⟨⟨x34, y34, rfl, h34⟩, g34⟩
 refine ⟨_, rfl, ?_⟩
 replace hB := hB.trans g34
 replace L2 := L2.gr g34
 replace L3 := L3.gr g34
 refine ⟨⟨L2, L3⟩, ?_⟩
 simp only [p3, p4]
 refine oe ?_
 have kq37 := g28.kp.trans (g31.kp.trans g34.kp)
 replace hb := hb.kp kq37
 refine ec 25 (mul_i hb.num h34 (by omega)) ?_
 rintro e36 w36 ⟨⟨x36, y36, rfl, h36⟩, g36⟩
 refine ⟨_, rfl, ?_⟩
 replace hB := hB.trans g36
 replace L2 := L2.gr g36
 replace L3 := L3.gr g36
 refine ⟨⟨L2, L3⟩, ?_⟩
 simp only [p3, p4]
 refine oe ?_
 have kq40 := g34.kp.trans g36.kp
 replace h31 := h31.kp kq40
 refine ec 26 (compare_i h31 h36 (by omega) (by omega)) ?_
 rintro e39 w39 ⟨rfl, g39⟩
 refine ⟨_, rfl, ?_⟩
 replace hB := hB.trans g39
 replace L2 := L2.gr g39
 replace L3 := L3.gr g39
 refine ⟨⟨L2, L3⟩, ?_⟩
 simp only [p3, p4]
 refine ov 4 (.int .i64 (sgn ((a.num * (b.den : Int)) - (b.num * (a.den : Int))))) ?_
 simp only [p3, p4]
 refine ord_nil ?_
 refine k10 _ _ ?_
 try clear k10 K10
 refine wp_ret ?_
 refine bodyPost_ret (v := (.int .i64 (sgn ((a.num * (b.den : Int)) - (b.num * (a.den : Int)))))) (ret_tmp rfl rfl) rfl ⟨?_, hB⟩
 exact rfl

set_option maxRecDepth 100000 in
set_option maxHeartbeats 1000000 in
theorem rcomp_f {k m : Nat} {u0 u1 u2 u3 v0 v1 v2 v3 : Value} {a b : Rat} {w : World} (ha : IsRat w k u0 u1 u2 u3 a) (hb : IsRat w m v0 v1 v2 v3 b) (_hk : k + m ≤ 100000) (wa : a.den ≠ 1) :
    Calls Tryz.prog 43 #[(.agg #[u0, u1, u2, u3]), (.agg #[v0, v1, v2, v3])] w fun e w' => e = .returned (.int .i64 (rcmp a b)) ∧ Gr w w' := by
 have hka := ha.big
 have hkb := hb.big
 go_enter Tryz.func43, Tryz.ntmps43
 have hB := Gr.refl w
 refine wp_seq_k (fun K1 k1 => ?_)
 refine rg [0, 1, 2] ?_
 refine se ?_
 refine eb 30 #[u0, u1, u2, u3] 2 hB fun b2 w2 g2 L2 o2 q2 hB => ?_
 simp only [p3, p4]
 refine se ?_
 refine eb 30 #[v0, v1, v2, v3] 3 hB fun b3 w3 g3 L3 o3 q3 hB => ?_
 simp only [p3, p4]
 refine sv 4 (.int .i64 0) ?_
 simp only [p3, p4]
 refine sq_nil ?_
 refine k1 _ _ ?_
 try clear k1 K1
 refine wp_seq_k (fun K4 k4 => ?_)
 refine wp_seq_k (fun K5 k5 => ?_)
 refine rg [0, 1, 2, 3, 4, 5] ?_
 replace L2 := L2.gr g3
 refine sw 5 (.agg #[u0, u1, u2, u3]) rfl (rl 30 0 [u0, u1, u2, u3] L2) ?_
 simp only [p3, p4]
 refine se ?_
 have kq7 := g2.kp.trans g3.kp
 replace ha := ha.kp kq7
 refine ec 6 (whole_f ha (by omega) wa) ?_
 rintro e6 w6 ⟨rfl, g6⟩
 refine ⟨_, rfl, ?_⟩
 replace hB := hB.trans g6
 simp only [p3, p4]
 refine sv 7 (.bool false) ?_
 simp only [p3, p4]
 refine ss 8 ?_
 simp only [p3, p4]
 refine ss 9 ?_
 simp only [p3, p4]
 refine sv 10 (.bool false) ?_
 simp only [p3, p4]
 refine sq_nil ?_
 refine k5 _ _ ?_
 try clear k5 K5
 refine wp_cond_false rfl ?_
 refine wp_skip ?_
 refine k4 _ _ ?_
 try clear k4 K4
 refine wp_seq_k (fun K8 k8 => ?_)
 have gd24 := Gr.drew w6
 replace hB := hB.trans gd24
 replace L2 := L2.gr (g6.trans gd24)
 replace L3 := L3.gr (g6.trans gd24)
 refine wp_region_ord (fun w' => Lc w' b2 #[u0, u1, u2, u3] 30 ∧ Lc w' b3 #[v0, v1, v2, v3] 30) [(true, 0), (true, 1), (true, 2), (true, 5), (true, 6), (true, 7), (false, 3), (false, 4), (false, 8), (false, 9), (false, 10), (true, 11)] (by kernel_rfl) (by kernel_rfl) (by kernel_rfl) (by decide) (fun _ _ _ _ _ h => h) ⟨L2, L3⟩ ?_
 refine ov 16 (.pointer (some ⟨b2, 0, none⟩)) ?_
 simp only [p3, p4]
 refine ow 17 (.agg #[u0, u1]) rfl (fun w' hS => (rl 28 0 [u0, u1] hS.1)) ?_
 simp only [p3, p4]
 refine ow 18 (.agg #[v0, v1, v2, v3]) rfl (fun w' hS => (rl 30 0 [v0, v1, v2, v3] hS.2)) ?_
 simp only [p3, p4]
 refine ov 21 (.pointer (some ⟨b3, 0, none⟩)) ?_
 simp only [p3, p4]
 refine ow 22 (.agg #[v0, v1]) rfl (fun w' hS => (rl 28 0 [v0, v1] hS.2)) ?_
 simp only [p3, p4]
 refine ow 23 (.agg #[u0, u1, u2, u3]) rfl (fun w' hS => (rl 30 0 [u0, u1, u2, u3] hS.1)) ?_
 simp only [p3, p4]
 refine oe ?_
 have kq27 := g2.kp.trans (g3.kp.trans (g6.kp.trans gd24.kp))
 replace hb := hb.kp kq27
 refine ec 19 (den_i hb) ?_
 rintro e26 w26 ⟨⟨x26, y26, rfl, h26⟩, g26⟩
 refine ⟨_, rfl, ?_⟩
 replace hB := hB.trans g26
 replace L2 := L2.gr g26
 replace L3 := L3.gr g26
 refine ⟨⟨L2, L3⟩, ?_⟩
 simp only [p3, p4]
 refine oe ?_
 have kq30 := g6.kp.trans (gd24.kp.trans g26.kp)
 replace ha := ha.kp kq30
 refine ec 20 (mul_i ha.num h26 (by omega)) ?_
 rintro e29 w29 ⟨⟨x29, y29, rfl, h29⟩, g29⟩
 refine ⟨_, rfl, ?_⟩
 replace hB := hB.trans g29
 replace L2 := L2.gr g29
 replace L3 := L3.gr g29
 refine ⟨⟨L2, L3⟩, ?_⟩
 simp only [p3, p4]
 refine oe ?_
 replace ha := ha.kp g29.kp
 refine ec 24 (den_i ha) ?_
 rintro e32 w32 ⟨⟨x32, y32, rfl, h32⟩, g32⟩
 refine ⟨_, rfl, ?_⟩
 replace hB := hB.trans g32
 replace L2 := L2.gr g32
 replace L3 := L3.gr g32
 refine ⟨⟨L2, L3⟩, ?_⟩
 simp only [p3, p4]
 refine oe ?_
 have kq35 := g26.kp.trans (g29.kp.trans g32.kp)
 replace hb := hb.kp kq35
 refine ec 25 (mul_i hb.num h32 (by omega)) ?_
 rintro e34 w34 ⟨⟨x34, y34, rfl, h34⟩, g34⟩
 refine ⟨_, rfl, ?_⟩
 replace hB := hB.trans g34
 replace L2 := L2.gr g34
 replace L3 := L3.gr g34
 refine ⟨⟨L2, L3⟩, ?_⟩
 simp only [p3, p4]
 refine oe ?_
 have kq38 := g32.kp.trans g34.kp
 replace h29 := h29.kp kq38
 refine ec 26 (compare_i h29 h34 (by omega) (by omega)) ?_
 rintro e37 w37 ⟨rfl, g37⟩
 refine ⟨_, rfl, ?_⟩
 replace hB := hB.trans g37
 replace L2 := L2.gr g37
 replace L3 := L3.gr g37
 refine ⟨⟨L2, L3⟩, ?_⟩
 simp only [p3, p4]
 refine ov 4 (.int .i64 (sgn ((a.num * (b.den : Int)) - (b.num * (a.den : Int))))) ?_
 simp only [p3, p4]
 refine ord_nil ?_
 refine k8 _ _ ?_
 try clear k8 K8
 refine wp_ret ?_
 refine bodyPost_ret (v := (.int .i64 (sgn ((a.num * (b.den : Int)) - (b.num * (a.den : Int)))))) (ret_tmp rfl rfl) rfl ⟨?_, hB⟩
 exact rfl

theorem compare_r {k m : Nat} {u0 u1 u2 u3 v0 v1 v2 v3 : Value} {a b : Rat} {w : World} (ha : IsRat w k u0 u1 u2 u3 a) (hb : IsRat w m v0 v1 v2 v3 b) (hk : k + m ≤ 100000) :
    Calls Tryz.prog 43 #[.agg #[u0, u1, u2, u3], .agg #[v0, v1, v2, v3]] w fun e w' => e = .returned (.int .i64 (rcmp a b)) ∧ Gr w w' := by
  by_cases wa : a.den = 1
  · by_cases wb : b.den = 1
    · exact rcomp_tt ha hb hk wa wb
    · exact rcomp_tf ha hb hk wa wb
  · exact rcomp_f ha hb hk wa

end Go.Proofs.YtlcmllfacolkaaaGreatDoor
/- The text of a rational. -/
namespace Go.Proofs.YtlcmllfacolkaaaGreatDoor
open Go.RowKit

theorem itoa_len {k : Nat} {z : Int} (h : Sz k z) : (Lib.itoa z).length ≤ k + 2 := by
  unfold Lib.itoa
  have h1 := dec_len_bits k z.natAbs h
  split
  · simp; omega
  · have : z.toNat = z.natAbs := by omega
    rw [this]; omega
end Go.Proofs.YtlcmllfacolkaaaGreatDoor
/- The walk through scale: a magnitude times a digit, plus a digit. -/
namespace Go.Proofs.YtlcmllfacolkaaaGreatDoor
open Go.RowKit

set_option maxRecDepth 100000 in
set_option maxHeartbeats 2000000 in
theorem scale_c (ao : Option Addr) (la ca : Nat) (m x p : Int) (w : World) (hla : la ≤ 900000) (ha : Mag w ao la ca m) (hx0 : 0 ≤ x) (hx1 : x < 4294967296) (hp0 : 0 ≤ p) (hp1 : p < 4294967296) :
    Calls Tryz.prog 152 #[.slice ao la ca, .int .u32 x, .int .u32 p] w fun e w' => (∃ go k cap, e = .returned (.slice go k cap) ∧ Mag w' go k cap (m * x + p) ∧ k ≤ la + 1) ∧ Gr w w' := by
  go_enter Tryz.func152, Tryz.ntmps152
  go_wp2_with (at_make; refine wpList_make32 _ rfl _ _ rfl _ _ (la + 1) rfl rfl (by omega) (by omega) (by omega) ?_)
  intro w1 hO hB hsz
  go_wp2
  go_loopw [8, 19] (fun c i wr => ∃ (k : Nat) (cr : Int) (d : Nat → Int), k ≤ la ∧ i = .int .i64 k ∧ c = .int .u64 cr ∧ 0 ≤ cr ∧ cr < 4294967296 ∧ Hid (hi (m * x + p) k = hi m k * x + cr) ∧ Below w.heap.size w wr ∧
      Own wr w.heap.size (la + 1) d ∧ Hid (∀ j, j < k → d j = dg (m * x + p) j)) (fun _ i _ => la - (intOf i).toNat)
  case atStart => exact ⟨0, p, _, Nat.zero_le _, rfl, rfl, hp0, hp1, by simp [Hid, hi_zero], hB, hO, fun j hj => by omega⟩
  case round =>
    obtain ⟨k, cr, d, hk, rfl, rfl, hc0, hc1, hz, hB, hO, hd⟩ := hrel
    by_cases hlt : k < la
    · obtain ⟨b1, off1, rfl, hcs1⟩ := (ha.row.below hB).at_ (by omega)
      have hcell1 := hcs1 k hlt
      clear hcs1
      have d0 := dg_nonneg m k
      have d1 := dg_lt m k
      have hcell3 := hO.cell k (by omega)
      have hfree := hO.free k
      have hs := scale_step hz.out hc0 hc1 hx0 hx1
      have z0 := hs.2.2.2.2.1
      have z1 := hs.2.2.2.2.2
      have z2 : dg m k * x ≤ 18446744065119617025 := by
        have := Int.mul_le_mul (show dg m k ≤ 4294967295 by omega) (show x ≤ 4294967295 by omega) hx0 (by omega)
        omega
      have HS := Lib.hid hs
      clear hs
      go_wp2
      have hs := HS.out
      go_roundw
      case rel =>
        refine ⟨k + 1, _, _, by omega, by go_num, rfl, hs.2.2.1, hs.2.2.2.1, hs.2.1, hB.setCell (Nat.le_refl _) _, hO.set (by omega) _, fun j hj => ?_⟩
        by_cases e : j = k
        · subst e; rw [upd_same, hs.1]
        · rw [upd_other _ _ e]; exact hd.out j (by omega)
      case measure => simp [intOf]; omega
    · obtain rfl : k = la := by omega
      have hcell3 := hO.cell k (by omega)
      have hfree := hO.free k
      have hm0 : 0 ≤ m * x + p := by have := Int.mul_nonneg ha.nl.nonneg hx0; omega
      have htop : hi (m * x + p) (k + 1) = 0 := by
        have h1 := hz.out
        rw [ha.nl.top, Int.zero_mul] at h1
        rw [hi_succ]; omega
      have hdk : dg (m * x + p) k = cr := by
        have h1 := hz.out
        rw [ha.nl.top, Int.zero_mul] at h1
        unfold dg; omega
      have HT := Lib.hid htop
      have HD := Lib.hid hdk
      clear htop hdk
      go_wp2_with fail
      have hO2 := (hO.set (Nat.lt_succ_self k) cr).congr (d' := dg (m * x + p)) (fun j hj => by
        by_cases e : j = k
        · subst e; rw [upd_same, HD.out]
        · rw [upd_other _ _ e]; exact hd.out j (by omega))
      refine (trim_c _ _ _ (m * x + p) _ (by omega) (Nat.le_refl _) hm0 HT.out hO2.row).mono ?_
      rintro e w3 ⟨⟨n, rfl, hm, hn⟩, rfl⟩
      go_wp2
      go_ret
      exact ⟨⟨_, _, _, rfl, hm, hn⟩, hB.setCell (Nat.le_refl _) _⟩
end Go.Proofs.YtlcmllfacolkaaaGreatDoor
/- Printed by a program of the prover's: reduced, with a negative denominator. -/
namespace Go.Proofs.YtlcmllfacolkaaaGreatDoor
open Go.RowKit

end Go.Proofs.YtlcmllfacolkaaaGreatDoor
/- reduced for every denominator but 0. -/
namespace Go.Proofs.YtlcmllfacolkaaaGreatDoor
open Go.RowKit

end Go.Proofs.YtlcmllfacolkaaaGreatDoor
/- Printed by a program of the prover's: the texts of rationals; Make. -/
namespace Go.Proofs.YtlcmllfacolkaaaGreatDoor
open Go.RowKit

set_option maxRecDepth 100000 in
set_option maxHeartbeats 1000000 in
theorem number_w {k : Nat} {u0 u1 u2 u3 : Value} {a : Rat} {w : World} (ha : IsRat w k u0 u1 u2 u3 a) (_hk : k ≤ 800000) (ht : Tab w) (hw : a.den = 1) :
    Calls Tryz.prog 22 #[(.agg #[u0, u1, u2, u3])] w fun e w' => e = .returned (.string ⟨(ratL a).toArray⟩) ∧ Gr w w' := by
 go_enter Tryz.func22, Tryz.ntmps22
 have hB := Gr.refl w
 refine wp_seq_k (fun K1 k1 => ?_)
 refine rg [0, 1] ?_
 refine se ?_
 refine eb 30 #[u0, u1, u2, u3] 1 hB fun b2 w2 g2 L2 o2 q2 hB => ?_
 simp only [p3, p4]
 refine sv 2 (.string ⟨([] : List UInt8).toArray⟩) ?_
 simp only [p3, p4]
 refine sq_nil ?_
 refine k1 _ _ ?_
 try clear k1 K1
 refine wp_seq_k (fun K3 k3 => ?_)
 refine wp_seq_k (fun K4 k4 => ?_)
 refine rg [0, 1] ?_
 refine sw 3 (.agg #[u0, u1, u2, u3]) rfl (rl 30 0 [u0, u1, u2, u3] L2) ?_
 simp only [p3, p4]
 refine se ?_
 replace ha := ha.kp g2.kp
 refine ec 4 (whole_t ha (by omega) hw) ?_
 rintro e5 w5 ⟨rfl, g5⟩
 refine ⟨_, rfl, ?_⟩
 replace hB := hB.trans g5
 simp only [p3, p4]
 refine sq_nil ?_
 refine k4 _ _ ?_
 try clear k4 K4
 refine wp_cond_true rfl ?_
 refine wp_seq_k (fun K6 k6 => ?_)
 refine rg [0, 1, 2, 3] ?_
 refine sv 5 (.pointer (some ⟨b2, 0, none⟩)) ?_
 simp only [p3, p4]
 replace L2 := L2.gr g5
 refine sw 6 (.agg #[u0, u1]) rfl (rl 28 0 [u0, u1] L2) ?_
 simp only [p3, p4]
 refine se ?_
 replace ha := ha.kp g5.kp
 refine ec 7 (text_i ha.num (by omega) (ht.gr hB)) ?_
 rintro e7 w7 ⟨rfl, g7⟩
 refine ⟨_, rfl, ?_⟩
 replace hB := hB.trans g7
 simp only [p3, p4]
 refine sv 2 (.string ⟨(Lib.itoa (a.num) : List UInt8).toArray⟩) ?_
 simp only [p3, p4]
 refine sq_nil ?_
 refine k6 _ _ ?_
 try clear k6 K6
 refine wp_ret ?_
 simp only [Exit.then]
 refine bodyPost_ret (v := (.string ⟨(Lib.itoa (a.num) : List UInt8).toArray⟩)) (ret_tmp rfl rfl) rfl ⟨?_, hB⟩
 exact (by rw [ratL_w hw])

set_option maxRecDepth 100000 in
set_option maxHeartbeats 1000000 in
theorem number_d {k : Nat} {u0 u1 u2 u3 : Value} {a : Rat} {w : World} (ha : IsRat w k u0 u1 u2 u3 a) (_hk : k ≤ 800000) (ht : Tab w) (hd : IsInt w k u2 u3 (a.den : Int)) (hw : ¬ a.den = 1) :
    Calls Tryz.prog 22 #[(.agg #[u0, u1, u2, u3])] w fun e w' => e = .returned (.string ⟨(ratL a).toArray⟩) ∧ Gr w w' := by
 have hl1 := itoa_len ha.num.sz
 have hl2 := itoa_len hd.sz
 go_enter Tryz.func22, Tryz.ntmps22
 have hB := Gr.refl w
 refine wp_seq_k (fun K1 k1 => ?_)
 refine rg [0, 1] ?_
 refine se ?_
 refine eb 30 #[u0, u1, u2, u3] 1 hB fun b2 w2 g2 L2 o2 q2 hB => ?_
 simp only [p3, p4]
 refine sv 2 (.string ⟨([] : List UInt8).toArray⟩) ?_
 simp only [p3, p4]
 refine sq_nil ?_
 refine k1 _ _ ?_
 try clear k1 K1
 refine wp_seq_k (fun K3 k3 => ?_)
 refine wp_seq_k (fun K4 k4 => ?_)
 refine rg [0, 1] ?_
 refine sw 3 (.agg #[u0, u1, u2, u3]) rfl (rl 30 0 [u0, u1, u2, u3] L2) ?_
 simp only [p3, p4]
 refine se ?_
 replace ha := ha.kp g2.kp
 refine ec 4 (whole_f ha (by omega) hw) ?_
 rintro e5 w5 ⟨rfl, g5⟩
 refine ⟨_, rfl, ?_⟩
 replace hB := hB.trans g5
 simp only [p3, p4]
 refine sq_nil ?_
 refine k4 _ _ ?_
 try clear k4 K4
 refine wp_cond_false rfl ?_
 refine wp_skip ?_
 refine k3 _ _ ?_
 try clear k3 K3
 refine wp_seq_k (fun K6 k6 => ?_)
 have gd14 := Gr.drew w5
 replace hB := hB.trans gd14
 replace L2 := L2.gr (g5.trans gd14)
 refine wp_region_ord (fun w' => Lc w' b2 #[u0, u1, u2, u3] 30) [(true, 0), (true, 1), (true, 4), (true, 5), (false, 2), (true, 3), (false, 6), (true, 7), (true, 8)] (by kernel_rfl) (by kernel_rfl) (by kernel_rfl) (by decide) (fun _ _ _ _ _ h => h) L2 ?_
 refine ov 8 (.pointer (some ⟨b2, 0, none⟩)) ?_
 simp only [p3, p4]
 refine ow 9 (.agg #[u0, u1]) rfl (fun w' hS => (rl 28 0 [u0, u1] hS)) ?_
 simp only [p3, p4]
 refine ov 12 (.pointer (some ⟨b2, 2, none⟩)) ?_
 simp only [p3, p4]
 refine ow 13 (.agg #[u2, u3]) rfl (fun w' hS => (rl 28 2 [u2, u3] hS)) ?_
 simp only [p3, p4]
 refine oe ?_
 have kq17 := g5.kp.trans gd14.kp
 replace ha := ha.kp kq17
 refine ec 10 (text_i ha.num (by omega) (ht.gr hB)) ?_
 rintro e16 w16 ⟨rfl, g16⟩
 refine ⟨_, rfl, ?_⟩
 replace hB := hB.trans g16
 replace L2 := L2.gr g16
 refine ⟨L2, ?_⟩
 simp only [p3, p4]
 refine ow 11 (.string ⟨((Lib.itoa (a.num)) ++ ([47]) : List UInt8).toArray⟩) rfl (fun w' hS => (rv_cat 9 9 _ _ (Lib.itoa (a.num)) ([47]) rfl rfl rfl (by simp only [List.length_cons, List.length_nil]; omega))) ?_
 simp only [p3, p4]
 refine oe ?_
 have kq20 := g2.kp.trans (g5.kp.trans (gd14.kp.trans g16.kp))
 replace hd := hd.kp kq20
 refine ec 14 (text_i hd (by omega) (ht.gr hB)) ?_
 rintro e19 w19 ⟨rfl, g19⟩
 refine ⟨_, rfl, ?_⟩
 replace hB := hB.trans g19
 replace L2 := L2.gr g19
 refine ⟨L2, ?_⟩
 simp only [p3, p4]
 refine ow 15 (.string ⟨(((Lib.itoa (a.num)) ++ ([47])) ++ (Lib.itoa ((a.den : Int))) : List UInt8).toArray⟩) rfl (fun w' hS => (rv_cat 9 9 _ _ ((Lib.itoa (a.num)) ++ ([47])) (Lib.itoa ((a.den : Int))) rfl rfl rfl (by simp only [List.length_append, List.length_cons, List.length_nil]; omega))) ?_
 simp only [p3, p4]
 refine ov 2 (.string ⟨(((Lib.itoa (a.num)) ++ ([47])) ++ (Lib.itoa ((a.den : Int))) : List UInt8).toArray⟩) ?_
 simp only [p3, p4]
 refine ord_nil ?_
 refine k6 _ _ ?_
 try clear k6 K6
 refine wp_ret ?_
 refine bodyPost_ret (v := (.string ⟨(((Lib.itoa (a.num)) ++ ([47])) ++ (Lib.itoa ((a.den : Int))) : List UInt8).toArray⟩)) (ret_tmp rfl rfl) rfl ⟨?_, hB⟩
 exact (by rw [ratL_f hw])

theorem number_r {k : Nat} {u0 u1 u2 u3 : Value} {a : Rat} {w : World} (ha : IsRat w k u0 u1 u2 u3 a) (hk : k ≤ 800000) (ht : Tab w) :
    Calls Tryz.prog 22 #[.agg #[u0, u1, u2, u3]] w fun e w' => e = .returned (.string ⟨(ratL a).toArray⟩) ∧ Gr w w' := by
  by_cases hw : a.den = 1
  · exact number_w ha hk ht hw
  · obtain ⟨D, h2, h3⟩ := ha.den
    rcases h3 with h3 | ⟨_, h4⟩
    · subst h3; exact number_d ha hk ht h2 hw
    · exact absurd h4 hw

end Go.Proofs.YtlcmllfacolkaaaGreatDoor
/- Printed by a program of the prover's: Make, Floor, Ceil, Abs. -/
namespace Go.Proofs.YtlcmllfacolkaaaGreatDoor
open Go.RowKit

end Go.Proofs.YtlcmllfacolkaaaGreatDoor
/- Plain arithmetic of decimal digits, without the program. -/
namespace Go.Proofs.YtlcmllfacolkaaaGreatDoor

/-- What is left of n behind its lowest i digits. -/
def tn (n : Int) : Nat → Int
  | 0 => n
  | i + 1 => tn n i / 10
/-- Digit number i of n. -/
def td (n : Int) (i : Nat) : Int := tn n i % 10
theorem tn_zero (n : Int) : tn n 0 = n := rfl
theorem tn_succ (n : Int) (i : Nat) : tn n (i + 1) = tn n i / 10 := rfl
theorem td_nonneg (n : Int) (i : Nat) : 0 ≤ td n i := by unfold td; omega
theorem td_lt (n : Int) (i : Nat) : td n i < 10 := by unfold td; omega
theorem tn_split (n : Int) (i : Nat) : tn n i = 10 * tn n (i + 1) + td n i := by unfold td; rw [tn_succ]; omega
theorem tn_nonneg {n : Int} (h : 0 ≤ n) : ∀ i, 0 ≤ tn n i
  | 0 => h
  | i + 1 => by have := tn_nonneg h i; rw [tn_succ]; omega
theorem tn_mono {a b : Int} (h : a ≤ b) : ∀ i, tn a i ≤ tn b i
  | 0 => h
  | i + 1 => by have := tn_mono h i; rw [tn_succ, tn_succ]; omega
theorem tn_add (n : Int) (i : Nat) : ∀ k, tn n (i + k) = tn (tn n i) k
  | 0 => rfl
  | k + 1 => by rw [← Nat.add_assoc, tn_succ, tn_add n i k, tn_succ]
theorem tn_zero_n : ∀ i, tn 0 i = 0
  | 0 => rfl
  | i + 1 => by rw [tn_succ, tn_zero_n i]; rfl
theorem tn_ge {n : Int} {i k : Nat} (h : tn n i = 0) (hk : i ≤ k) : tn n k = 0 := by
  obtain ⟨j, rfl⟩ := Nat.le.dest hk
  rw [tn_add, h, tn_zero_n]
theorem td_zero_of {n : Int} {i k : Nat} (h : tn n i = 0) (hk : i ≤ k) : td n k = 0 := by unfold td; rw [tn_ge h hk]; rfl
/-- n has len digits, and no zeros at the end. -/
structure NX (n : Int) (len : Nat) : Prop where
  nonneg : 0 ≤ n
  top : tn n len = 0
  full : 0 < len → tn n (len - 1) ≠ 0
theorem NX.zero : NX 0 0 := ⟨Int.le_refl _, rfl, by omega⟩
theorem NX.len_zero {n : Int} {len : Nat} (h : NX n len) : len = 0 ↔ n = 0 := by
  constructor
  · rintro rfl; exact h.top
  · rintro rfl
    have := h.full
    rw [tn_zero_n] at this
    omega
theorem NX.topdig {n : Int} {len : Nat} (h : NX n len) (hl : 0 < len) : td n (len - 1) = tn n (len - 1) ∧ 0 < td n (len - 1) := by
  have h1 := h.top
  have h2 := tn_split n (len - 1)
  rw [show len - 1 + 1 = len by omega, h1] at h2
  have h3 := h.full hl
  have h4 := tn_nonneg h.nonneg (len - 1)
  omega
/-- From digits whose highest one is not 0. -/
theorem NX.mk' {n : Int} {len : Nat} (h0 : 0 ≤ n) (h1 : tn n len = 0) (h2 : 0 < len → td n (len - 1) ≠ 0) : NX n len := by
  refine ⟨h0, h1, fun hl h3 => h2 hl ?_⟩
  unfold td; rw [h3]; rfl
/-- Fewer digits, if those behind are 0. -/
theorem tn_trim {n : Int} {len : Nat} (h1 : tn n len = 0) (k : Nat) (hk : k ≤ len) (hz : ∀ j, k ≤ j → j < len → td n j = 0) : tn n k = 0 := by
  obtain ⟨j, rfl⟩ := Nat.le.dest hk
  clear hk
  induction j with
  | zero => exact h1
  | succ j ih =>
    refine ih ?_ (fun i h2 h3 => hz i h2 (by omega))
    have h2 := tn_split n (k + j)
    have h3 := hz (k + j) (by omega) (by omega)
    have h4 : tn n (k + j + 1) = 0 := h1
    omega
/-- The number of digits orders. -/
theorem NX.lt_of_len {a b : Int} {la lb : Nat} (ha : NX a la) (hb : NX b lb) (h : la < lb) : a < b := by
  refine Int.lt_of_not_ge fun hge => ?_
  have h1 := tn_mono hge (lb - 1)
  have h2 := tn_ge ha.top (show la ≤ lb - 1 by omega)
  have h3 := hb.full (by omega)
  have h4 := tn_nonneg hb.nonneg (lb - 1)
  omega
theorem NX.len_unique {a : Int} {la lb : Nat} (ha : NX a la) (hb : NX a lb) : la = lb := by
  rcases Nat.lt_trichotomy la lb with h | h | h
  · have := ha.lt_of_len hb h; omega
  · exact h
  · have := hb.lt_of_len ha h; omega
theorem NX.len_le {a b : Int} {la lb : Nat} (ha : NX a la) (hb : NX b lb) (h : a ≤ b) : la ≤ lb := by
  rcases Nat.lt_or_ge lb la with h1 | h1
  · have := hb.lt_of_len ha h1; omega
  · exact h1
theorem plus_stepx {a b c : Int} {i : Nat} (h : tn (a + b) i = tn a i + tn b i + c) (h0 : 0 ≤ c) (h1 : c ≤ 1) :
    td (a + b) i = (c + td a i + td b i) % 10 ∧ tn (a + b) (i + 1) = tn a (i + 1) + tn b (i + 1) + (c + td a i + td b i) / 10 ∧
      0 ≤ (c + td a i + td b i) / 10 ∧ (c + td a i + td b i) / 10 ≤ 1 := by
  unfold td; simp only [tn_succ]; omega
/-- a digit behind the end of b counts as 0 -/
theorem plus_step0x {a b c : Int} {i : Nat} (h : tn (a + b) i = tn a i + tn b i + c) (h0 : 0 ≤ c) (h1 : c ≤ 1) (hb : tn b i = 0) :
    td (a + b) i = (c + td a i) % 10 ∧ tn (a + b) (i + 1) = tn a (i + 1) + tn b (i + 1) + (c + td a i) / 10 ∧
      0 ≤ (c + td a i) / 10 ∧ (c + td a i) / 10 ≤ 1 := by
  unfold td; simp only [tn_succ]; omega
theorem minus_stepx {a b c : Int} {i : Nat} (h : tn (a - b) i = tn a i - tn b i - c) (h0 : 0 ≤ c) (h1 : c ≤ 1) :
    td (a - b) i = (td a i - c - td b i) % 10 ∧ tn (a - b) (i + 1) = tn a (i + 1) - tn b (i + 1) - (if td a i - c - td b i < 0 then 1 else 0) := by
  unfold td; simp only [tn_succ]; split <;> omega
theorem minus_step0x {a b c : Int} {i : Nat} (h : tn (a - b) i = tn a i - tn b i - c) (h0 : 0 ≤ c) (h1 : c ≤ 1) (hb : tn b i = 0) :
    td (a - b) i = (td a i - c) % 10 ∧ tn (a - b) (i + 1) = tn a (i + 1) - tn b (i + 1) - (if td a i - c < 0 then 1 else 0) := by
  unfold td; simp only [tn_succ]; split <;> omega
theorem tn_div (n x : Int) (hx : 0 < x) : ∀ i, tn (n / x) i = tn n i / x
  | 0 => rfl
  | i + 1 => by
    rw [tn_succ, tn_succ, tn_div n x hx i, Int.ediv_ediv_of_nonneg (by omega), Int.ediv_ediv_of_nonneg (by omega), Int.mul_comm]
theorem short_stepx (n x : Int) (i : Nat) (hx : 0 < x) :
    td (n / x) i = (tn n (i + 1) % x * 10 + td n i) / x ∧ tn n i % x = (tn n (i + 1) % x * 10 + td n i) % x ∧
      (tn n (i + 1) % x * 10 + td n i) / x < 10 ∧ 0 ≤ (tn n (i + 1) % x * 10 + td n i) / x := by
  have hs := tn_split n i
  have hd0 := td_nonneg n i
  have hd := td_lt n i
  have h1 := Int.emod_add_mul_ediv (tn n (i + 1)) x
  have h2 := Int.emod_nonneg (tn n (i + 1)) (show x ≠ 0 by omega)
  have h3 := Int.emod_lt_of_pos (tn n (i + 1)) hx
  have e : tn n i = (tn n (i + 1) % x * 10 + td n i) + x * (10 * (tn n (i + 1) / x)) := by rw [hs]; grind
  have e1 : tn (n / x) i = (tn n (i + 1) % x * 10 + td n i) / x + 10 * (tn n (i + 1) / x) := by
    rw [tn_div n x hx, e, Int.add_mul_ediv_left _ _ (show x ≠ 0 by omega)]
  have h4 : (tn n (i + 1) % x * 10 + td n i) / x < 10 := by
    apply Int.ediv_lt_of_lt_mul hx
    omega
  have h5 : 0 ≤ (tn n (i + 1) % x * 10 + td n i) / x := Int.ediv_nonneg (by omega) (by omega)
  refine ⟨?_, ?_, h4, h5⟩
  · have hdd : td (n / x) i = tn (n / x) i % 10 := rfl
    rw [hdd, e1]
    omega
  · rw [e, Int.add_mul_emod_self_left]
theorem tn_addmul (r m : Int) : ∀ i, tn (r + m * 10 ^ i) i = tn r i + m
  | 0 => by simp [tn_zero]
  | i + 1 => by
    have e : r + m * 10 ^ (i + 1) = r + (m * 10) * 10 ^ i := by rw [Int.pow_succ]; grind
    rw [e, tn_succ, tn_addmul r (m * 10) i, tn_succ]
    omega
theorem td_addmul (r m : Int) {i j : Nat} (hj : j < i) : td (r + m * 10 ^ i) j = td r j := by
  obtain ⟨k, rfl⟩ := Nat.le.dest hj
  have e : r + m * 10 ^ (j + 1 + k) = r + (m * 10 ^ k * 10) * 10 ^ j := by
    rw [Int.pow_add, Int.pow_add]; grind
  unfold td
  rw [e, tn_addmul]
  omega
/-- what the lowest i digits of a make, times b -/
def tlow (a : Int) (i : Nat) : Int := a - tn a i * 10 ^ i
theorem tlow_zero (a : Int) : tlow a 0 = 0 := by simp [tlow, tn_zero]
theorem tlow_succ (a : Int) (i : Nat) : tlow a (i + 1) = tlow a i + td a i * 10 ^ i := by
  have := tn_split a i
  unfold tlow
  rw [Int.pow_succ]
  grind
theorem tlow_top {a : Int} {len : Nat} (h : tn a len = 0) : tlow a len = a := by simp [tlow, h]
/-- The inner round of the product: r is the product till now, x the digit, b the other number. -/
theorem mul_stepx {r x b c : Int} {i k : Nat} (h : tn (r + x * b * 10 ^ i) (i + k) = tn r (i + k) + x * tn b k + c) (h0 : 0 ≤ c) (h1 : c < 10)
    (hx0 : 0 ≤ x) (hx : x < 10) :
    td (r + x * b * 10 ^ i) (i + k) = (c + (x * td b k + td r (i + k))) % 10 ∧
      tn (r + x * b * 10 ^ i) (i + (k + 1)) = tn r (i + (k + 1)) + x * tn b (k + 1) + (c + (x * td b k + td r (i + k))) / 10 ∧
      0 ≤ (c + (x * td b k + td r (i + k))) / 10 ∧ (c + (x * td b k + td r (i + k))) / 10 < 10 ∧ 0 ≤ x * td b k ∧ x * td b k ≤ 81 := by
  have hs := tn_split b k
  have hd0 := td_nonneg b k
  have hd := td_lt b k
  have hr := tn_split r (i + k)
  have hr0 := td_nonneg r (i + k)
  have hr1 := td_lt r (i + k)
  have e : x * tn b k = 10 * (x * tn b (k + 1)) + x * td b k := by rw [hs]; grind
  have hp0 : 0 ≤ x * td b k := Int.mul_nonneg hx0 hd0
  have hp : x * td b k ≤ 9 * 9 := Int.mul_le_mul (by omega) (by omega) hd0 (by omega)
  have hdd : td (r + x * b * 10 ^ i) (i + k) = tn (r + x * b * 10 ^ i) (i + k) % 10 := rfl
  rw [hdd, ← Nat.add_assoc, tn_succ, h, e]
  generalize x * td b k = u at *
  generalize x * tn b (k + 1) = v at *
  omega
end Go.Proofs.YtlcmllfacolkaaaGreatDoor
/- Decimal digits in memory: slices of ints, slices that a call appends to. -/
namespace Go.Proofs.YtlcmllfacolkaaaGreatDoor
open Go.RowKit

/-- the cells of a slice of ints -/
structure DRow (w : World) (ao : Option Addr) (len : Nat) (d : Nat → Int) : Prop where
  raw : 0 < len → ∃ (b off : Nat) (cs : Array Value) (fr : Nat × Nat), ao = some ⟨b, off, none⟩ ∧ w.heap[b]? = some (.cells cs 3 fr) ∧ ∀ i, i < len → cs[off + i]? = some (.int .i64 (d i))
theorem DRow.at_ {w : World} {ao : Option Addr} {len : Nat} {d : Nat → Int} (h : DRow w ao len d) (hp : 0 < len) :
    ∃ b off, ao = some ⟨b, off, none⟩ ∧ ∀ i, i < len → w.cell? ⟨b, off + i, none⟩ = some (.int .i64 (d i)) := by
  obtain ⟨b, off, cs, fr, e, hb, hc⟩ := h.raw hp
  exact ⟨b, off, e, fun i hi => by simp only [World.cell?, hb, Option.isSome_none]; exact hc i hi⟩
theorem DRow.nil (w : World) (ao : Option Addr) (d : Nat → Int) : DRow w ao 0 d := ⟨fun h => by omega⟩
theorem DRow.shorter {w : World} {ao : Option Addr} {len k : Nat} {d : Nat → Int} (h : DRow w ao len d) (hk : k ≤ len) : DRow w ao k d :=
  ⟨fun hp => by
    obtain ⟨b, off, cs, fr, e, hb, hc⟩ := h.raw (by omega)
    exact ⟨b, off, cs, fr, e, hb, fun i hi => hc i (by omega)⟩⟩
theorem DRow.congr {w : World} {ao : Option Addr} {len : Nat} {d d' : Nat → Int} (h : DRow w ao len d) (e : ∀ i, i < len → d i = d' i) : DRow w ao len d' :=
  ⟨fun hp => by
    obtain ⟨b, off, cs, fr, e', hb, hc⟩ := h.raw hp
    exact ⟨b, off, cs, fr, e', hb, fun i hi => by rw [hc i hi, e i hi]⟩⟩
theorem DRow.gr {w w' : World} {ao : Option Addr} {len : Nat} {d : Nat → Int} (h : DRow w ao len d) (hk : Gr w w') : DRow w' ao len d :=
  ⟨fun hp => by
    obtain ⟨b, off, cs, fr, e, hb, hc⟩ := h.raw hp
    exact ⟨b, off, cs, fr, e, hk.heap hb, hc⟩⟩
theorem DRow.below {w w' : World} {ao : Option Addr} {len : Nat} {d : Nat → Int} (h : DRow w ao len d) (hb : Below w.heap.size w w') : DRow w' ao len d := h.gr hb

/-- a slice of the decimal digits of n, none of them 0 at the end -/
def TenS (w : World) (v : Value) (n : Int) : Prop := ∃ ao len cap, v = .slice ao len cap ∧ len ≤ cap ∧ NX n len ∧ DRow w ao len (td n)
/-- a slice of decimal digits of n, with zeros perhaps -/
def TenZ (w : World) (v : Value) (n : Int) : Prop := ∃ ao len cap, v = .slice ao len cap ∧ len ≤ cap ∧ len ≤ 900001 ∧ tn n len = 0 ∧ DRow w ao len (td n)
theorem TenS.gr {w w' : World} {v : Value} {n : Int} (h : TenS w v n) (g : Gr w w') : TenS w' v n := by
  obtain ⟨ao, len, cap, h1, h2, h3, h4⟩ := h
  exact ⟨ao, len, cap, h1, h2, h3, h4.gr g⟩
theorem TenZ.gr {w w' : World} {v : Value} {n : Int} (h : TenZ w v n) (g : Gr w w') : TenZ w' v n := by
  obtain ⟨ao, len, cap, h1, h2, h3, h4, h5⟩ := h
  exact ⟨ao, len, cap, h1, h2, h3, h4, h5.gr g⟩
/-- n integers, as values -/
def dvals (k : IntKind) (n : Nat) (d : Nat → Int) : List Value := (List.range n).map fun i => .int k (d i)
theorem dvals_length (k : IntKind) (n : Nat) (d : Nat → Int) : (dvals k n d).length = n := by simp [dvals]
theorem dvals_succ (k : IntKind) (n : Nat) (d : Nat → Int) : dvals k (n + 1) d = dvals k n d ++ [.int k (d n)] := by simp [dvals, List.range_succ]
theorem dvals_get (k : IntKind) (d : Nat → Int) {n i : Nat} (h : i < n) : (dvals k n d)[i]? = some (.int k (d i)) := by simp [dvals, h]

/-- append of one value, in a plain region of a walk by the kit's tactics -/
theorem wpList_app1 {P : Program} {ops : Array Oper} {rest : List Oper} {o : Oper} {a : Act} {w : World} {Q : Exit → Act → World → Prop} (hgd : o.guard = none) (s x : Operand) (t : TypeId)
    (ho : o.op = .call { callee := .builtin .append, args := #[s, x], argTypes := #[t, t] }) (T B : Nat) (z v : Value) (ys : List Value) (hs : a.eval s = v) (hown : OwnS w T B v ys)
    (b c : Nat) (u : Value) (hx : a.eval x = .slice (some ⟨b, 0, none⟩) 1 c) (hb : w.heap[b]? = some (.cells #[u] T)) (hu : u.oneCell' = true) (w0 : World) (hB : Below B w0 w) (hn : ys.length ≤ 1000000) (bytes : Nat) (hbytes : bytes ≤ 1000)
    (ht : P.underlying t = some (.slice T)) (hi : (P.info? T).map (fun i => (i.zero, i.size, i.bytes)) = some (some z, 1, bytes)) (hzs : z.cells.size = 1) (hBw : B ≤ w.heap.size)
    (h : ∀ v' w', OwnS w' T B v' (ys ++ [u]) → Below B w0 w' → (∀ k, k < w.heap.size → v.ownBlock ≠ some k → w'.heap[k]? = w.heap[k]?) → w.heap.size ≤ w'.heap.size → wpList P ops Q rest (a.put o.dst v') w') : wpList P ops Q (o :: rest) a w := by
  obtain ⟨i, hi, hz, hsize, hby⟩ := info_parts hi
  have hb1 : (ys.length + 1) * bytes ≤ 1000001 * 1000 := Nat.mul_le_mul (by omega) hbytes
  refine wpList_append_own w hgd s x t ho B T i z 1 bytes ht hi hz hsize hby hzs (by omega) v ys.length ys hs hown ⟨b, 0, none⟩ 1 c [u] hx rfl (fun j y hj => ?_) (fun y hy => ?_) (by unfold maxLen; omega) (by omega) hBw ?_
  · have hj0 : j = 0 := by
      have := (List.getElem?_eq_some_iff.1 hj).1
      simp at this; omega
    subst hj0
    simp only [List.getElem?_cons_zero, Option.some.injEq] at hj
    subst hj
    exact cells_of hb 0
  · simp only [List.mem_singleton] at hy
    subst hy; exact hu
  · intro v' w' h2 hg _
    have hnew : ∀ k, v.ownBlock = some k → B ≤ k := by
      intro k hk
      rcases hown.2 with ⟨rfl, _⟩ | ⟨g, cap, cur, rfl, hb, hgg, _⟩
      · simp [Value.ownBlock] at hk
      · simp [Value.ownBlock] at hk
        subst hk; exact hb
    refine h v' w' ?_ ?_ (fun k hk hne => hg.block k hk (fun e => hne e.symm)) hg.size
    · unfold OwnS; simpa using h2
    · refine Below.trans hB ⟨hg.os, hg.tape, hg.output, hg.size, fun k hk => hg.block k (by omega) (fun e => ?_)⟩
      have := hnew k e.symm
      omega

theorem OwnS.cells {w : World} {T B : Nat} {v : Value} {ys : List Value} (h : OwnS w T B v ys) (hp : 0 < ys.length) :
    ∃ g cap cur, v = .slice (some ⟨g, 0, none⟩) ys.length cap ∧ B ≤ g ∧ w.heap[g]? = some (.cells cur T (0, 0)) ∧ ys.length ≤ cap ∧ cap ≤ maxLen ∧ ∀ i, i < ys.length → cur[i]? = ys[i]? := by
  obtain ⟨g, cap, cur, e, hb, hg, h1, h2, h3, h4⟩ := h.block hp
  refine ⟨g, cap, cur, e, hb, hg, h1, h2, fun i hi => ?_⟩
  rw [← h4, List.getElem?_take_of_lt hi]; simp
theorem OwnS.drow {w : World} {B : Nat} {v : Value} {n : Nat} {d : Nat → Int} (h : OwnS w 3 B v (dvals .i64 n d)) : ∃ ao cap, v = .slice ao n cap ∧ n ≤ cap ∧ cap ≤ maxLen ∧ DRow w ao n d := by
  rcases Nat.eq_zero_or_pos n with e | hp
  · subst e
    rcases h.2 with ⟨rfl, _⟩ | ⟨g, cap, cur, rfl, hb, hg, h1, h2, h3⟩
    · exact ⟨none, 0, rfl, by omega, by unfold maxLen; omega, DRow.nil _ _ _⟩
    · exact ⟨_, cap, rfl, by omega, h2, DRow.nil _ _ _⟩
  · obtain ⟨g, cap, cur, e, hb, hg, h1, h2, hc⟩ := h.cells (by rw [dvals_length]; exact hp)
    rw [dvals_length] at e h1 hc
    refine ⟨_, cap, e, h1, h2, ⟨fun _ => ⟨g, 0, cur, (0, 0), rfl, hg, fun i hi => ?_⟩⟩⟩
    rw [Nat.zero_add, hc i hi, dvals_get _ _ hi]
/-- the same, in a block of its own at least as new as B -/
def TenF (w : World) (B : Nat) (v : Value) (n : Int) : Prop := ∃ ao len cap, v = .slice ao len cap ∧ len ≤ cap ∧ NX n len ∧ DRow w ao len (td n) ∧ ∀ ad, ao = some ad → B ≤ ad.block
theorem TenF.s {w : World} {B : Nat} {v : Value} {n : Int} (h : TenF w B v n) : TenS w v n := by
  obtain ⟨ao, len, cap, h1, h2, h3, h4, _⟩ := h
  exact ⟨ao, len, cap, h1, h2, h3, h4⟩
theorem TenF.gr {w w' : World} {B : Nat} {v : Value} {n : Int} (h : TenF w B v n) (g : Gr w w') : TenF w' B v n := by
  obtain ⟨ao, len, cap, h1, h2, h3, h4, h5⟩ := h
  exact ⟨ao, len, cap, h1, h2, h3, h4.gr g, h5⟩
theorem TenF.mono {w : World} {B C : Nat} {v : Value} {n : Int} (h : TenF w B v n) (hC : C ≤ B) : TenF w C v n := by
  obtain ⟨ao, len, cap, h1, h2, h3, h4, h5⟩ := h
  exact ⟨ao, len, cap, h1, h2, h3, h4, fun ad e => Nat.le_trans hC (h5 ad e)⟩
theorem TenF.set {w : World} {B g : Nat} {v : Value} {n : Int} (h : TenF w B v n) (hg : g < B) (i : Nat) (u : Value) : TenF (w.setCell ⟨g, i, none⟩ u) B v n := by
  obtain ⟨ao, len, cap, h1, h2, h3, h4, h5⟩ := h
  refine ⟨ao, len, cap, h1, h2, h3, ⟨fun hp => ?_⟩, h5⟩
  obtain ⟨b, off, cs, fr, e, hb, hc⟩ := h4.raw hp
  have := h5 _ e
  exact ⟨b, off, cs, fr, e, (Below.heap_setCell _ _ _ _ (by show b ≠ g; simp at this; omega)).trans hb, hc⟩
theorem OwnS.drowF {w : World} {B : Nat} {v : Value} {n : Nat} {d : Nat → Int} (h : OwnS w 3 B v (dvals .i64 n d)) : ∃ ao cap, v = .slice ao n cap ∧ n ≤ cap ∧ cap ≤ maxLen ∧ DRow w ao n d ∧ ∀ ad, ao = some ad → B ≤ ad.block := by
  obtain ⟨ao, cap, e, h1, h2, h3⟩ := h.drow
  refine ⟨ao, cap, e, h1, h2, h3, fun ad ea => ?_⟩
  subst e ea
  rcases h.2 with ⟨h0, _⟩ | ⟨g, c1, c2, h0, hb, _⟩
  · cases h0
  · simp only [Value.slice.injEq, Option.some.injEq] at h0
    rw [h0.1]; exact hb
theorem int_info : (Tryz.prog.info? 3).map (fun i => (i.zero, i.size, i.bytes)) = some (some (.int .i64 0), 1, 8) := by kernel_rfl
/-- block b is a row of n digits that may be written -/
structure DOwn (w : World) (b n : Nat) (d : Nat → Int) : Prop where
  raw : ∃ cs, w.heap[b]? = some (.cells cs 3) ∧ ∀ i, i < n → cs[i]? = some (.int .i64 (d i))
theorem DOwn.lt {w : World} {b n : Nat} {d : Nat → Int} (h : DOwn w b n d) : b < w.heap.size := by
  obtain ⟨cs, hb, hc⟩ := h.raw; exact heap_lt hb
theorem DOwn.cell {w : World} {b n : Nat} {d : Nat → Int} (h : DOwn w b n d) : ∀ i, i < n → w.cell? ⟨b, i, none⟩ = some (.int .i64 (d i)) := by
  obtain ⟨cs, hb, hc⟩ := h.raw
  exact fun i hi => by simp only [World.cell?, hb, Option.isSome_none]; exact hc i hi
theorem DOwn.free {w : World} {b n : Nat} {d : Nat → Int} (h : DOwn w b n d) : ∀ i, w.frozen? ⟨b, i, none⟩ = false := by
  obtain ⟨cs, hb, hc⟩ := h.raw
  exact fun i => by simp [World.frozen?, hb]
theorem DOwn.set {w : World} {b n : Nat} {d : Nat → Int} (h : DOwn w b n d) {i : Nat} (_hi : i < n) (v : Int) : DOwn (w.setCell ⟨b, i, none⟩ (.int .i64 v)) b n (upd d i v) := by
  obtain ⟨cs, hb, hc⟩ := h.raw
  refine ⟨_, heap_setCell_at _ hb, fun j hj => ?_⟩
  by_cases e : i = j
  · subst e
    have := (Array.getElem?_eq_some_iff.1 (hc i hj)).1
    rw [upd_same]; simp [this]
  · rw [upd_other d v (Ne.symm e), Array.getElem?_setIfInBounds_ne e]; exact hc j hj
theorem DOwn.gr {w w' : World} {b n : Nat} {d : Nat → Int} (h : DOwn w b n d) (hb : Gr w w') : DOwn w' b n d := by
  obtain ⟨cs, hb', hc⟩ := h.raw
  exact ⟨cs, hb.heap hb', hc⟩
theorem DOwn.below {w w' : World} {b n : Nat} {d : Nat → Int} (h : DOwn w b n d) (hb : Below w.heap.size w w') : DOwn w' b n d := h.gr hb
theorem DOwn.congr {w : World} {b n : Nat} {d d' : Nat → Int} (h : DOwn w b n d) (e : ∀ i, i < n → d i = d' i) : DOwn w b n d' := by
  obtain ⟨cs, hb', hc⟩ := h.raw
  exact ⟨cs, hb', fun i hi => by rw [hc i hi, e i hi]⟩
theorem DOwn.row {w : World} {b n : Nat} {d : Nat → Int} (h : DOwn w b n d) : DRow w (some ⟨b, 0, none⟩) n d := by
  obtain ⟨cs, hb', hc⟩ := h.raw
  exact ⟨fun _ => ⟨b, 0, cs, (0, 0), rfl, hb', fun i hi => by rw [Nat.zero_add]; exact hc i hi⟩⟩
theorem DOwn.shorter {w : World} {b n k : Nat} {d : Nat → Int} (h : DOwn w b n d) (hk : k ≤ n) : DOwn w b k d := by
  obtain ⟨cs, hb', hc⟩ := h.raw
  exact ⟨cs, hb', fun i hi => hc i (by omega)⟩
/-- 'make([]uint32, n)' -/
theorem wpList_makeI (w : World) {ops : Array Oper} {rest : List Oper} {o : Oper} {a : Act} {Q : Exit → Act → World → Prop}
    (hg : o.guard = none) (l c : Operand) (hop : o.op = Op.makeSlice 123 l c) (L C : Int) (n : Nat) (hl : a.eval l = .int .i64 L) (hc : a.eval c = .int .i64 C) (hL : L = (n : Int)) (hC : C = (n : Int)) (hn : n ≤ 8000000)
    (hK : ∀ w', DOwn w' w.heap.size n (fun _ => 0) → Below w.heap.size w w' → w'.heap.size = w.heap.size + 1 → wpList Tryz.prog ops Q rest (a.put o.dst (.slice (some ⟨w.heap.size, 0, none⟩) n n)) w') :
    wpList Tryz.prog ops Q (o :: rest) a w := by
  refine wpList_plain hg fun K hK' => ?_
  obtain ⟨i, hi, hz, hs, hb⟩ := info_parts int_info
  have hrun := run_make (P := Tryz.prog) w 123 3 i _ Tryz.underlying123 hi hz .i64 .i64 (n : Int) (n : Int) (by omega) (Int.le_refl _) (by rw [hb]; omega) (by omega)
  simp only [Int.toNat_natCast] at hrun
  rw [hs, Nat.mul_one] at hrun
  subst hL hC
  unfold Oper.wp
  simp [execOp, hop, hl, hc, hrun, Result.andThen]
  refine hK' _ _ (hK _ ⟨_, heap_alloc_new w _, fun j hj => ?_⟩ ((Below.refl _ _).alloc (Nat.le_refl _) _) (by simp))
  simp [madeCells, Value.cells, hj, Nat.mod_one]
end Go.Proofs.YtlcmllfacolkaaaGreatDoor
/- Decimal texts and their digits, without the program. -/
namespace Go.Proofs.YtlcmllfacolkaaaGreatDoor
open Go

theorem tn_tenth (n : Int) (i : Nat) : tn (n / 10) i = tn n (i + 1) := by
  rw [Nat.add_comm i 1, tn_add]; rfl
theorem td_tenth (n : Int) (i : Nat) : td (n / 10) i = td n (i + 1) := by unfold td; rw [tn_tenth]
theorem NX.small {n : Int} (h0 : 0 < n) (h1 : n < 10) : NX n 1 := ⟨by omega, by rw [tn_succ, tn_zero]; omega, fun _ => by show tn n 0 ≠ 0; rw [tn_zero]; omega⟩
theorem NX.div {n : Int} {len : Nat} (h : NX n (len + 1)) : NX (n / 10) len := by
  refine ⟨by have := h.nonneg; omega, by rw [tn_tenth]; exact h.top, fun hl => ?_⟩
  rw [tn_tenth]
  have := h.full (by omega)
  rwa [show len + 1 - 1 = len - 1 + 1 by omega] at this
theorem NX.exists (n : Nat) : ∃ len, NX (n : Int) len := by
  induction n using Nat.strongRecOn with
  | _ n ih =>
    rcases Nat.eq_zero_or_pos n with e | hp
    · exact ⟨0, by subst e; exact NX.zero⟩
    · obtain ⟨k, hk⟩ := ih (n / 10) (by omega)
      refine ⟨k + 1, by omega, by rw [← tn_tenth]; exact_mod_cast hk.top, fun _ => ?_⟩
      rw [Nat.add_sub_cancel]
      rcases Nat.eq_zero_or_pos k with e | hk0
      · subst e; rw [tn_zero]; omega
      · have := hk.full hk0
        rw [Int.natCast_ediv, show ((10 : Nat) : Int) = 10 from rfl, tn_tenth] at this
        rwa [show k - 1 + 1 = k by omega] at this
/-- the digits of a text -/
theorem dec_td : ∀ (len n : Nat), NX (n : Int) len → 0 < n → (Lib.decDigits n).length = len ∧ ∀ i, i < len → (Lib.decDigits n)[len - 1 - i]? = some (UInt8.ofNat (48 + (td (n : Int) i).toNat))
  | 0, n, h, hp => by have := h.len_zero.1 rfl; omega
  | len + 1, n, h, hp => by
    by_cases h1 : n < 10
    · have e : len + 1 = 1 := h.len_unique (NX.small (by omega) (by omega))
      have e0 : len = 0 := by omega
      subst e0
      rw [dec_small h1]
      refine ⟨rfl, fun i hi => ?_⟩
      have e2 : i = 0 := by omega
      subst e2
      have : (td (n : Int) 0).toNat = n := by unfold td; rw [tn_zero]; omega
      rw [this]; rfl
    · have hd : NX ((n / 10 : Nat) : Int) len := by
        have := h.div
        rwa [show ((n : Int) / 10) = ((n / 10 : Nat) : Int) by omega] at this
      obtain ⟨l1, l2⟩ := dec_td len (n / 10) hd (by omega)
      rw [dec_step (by omega)]
      refine ⟨by simp [l1], fun i hi => ?_⟩
      cases i with
      | zero =>
        rw [Nat.sub_zero, Nat.add_sub_cancel, ← l1, List.getElem?_append_right (Nat.le_refl _), Nat.sub_self]
        have : (td (n : Int) 0).toNat = n % 10 := by unfold td; rw [tn_zero]; omega
        rw [this]; rfl
      | succ i =>
        have hi' : i < len := by omega
        have e : len + 1 - 1 - (i + 1) = len - 1 - i := by omega
        rw [e, List.getElem?_append_left (by omega), l2 i hi', ← td_tenth]
        rw [show ((n / 10 : Nat) : Int) = (n : Int) / 10 by omega]
theorem dec_get {n len : Nat} (h : NX (n : Int) len) (hp : 0 < n) {k : Nat} (hk : k < len) : (Lib.decDigits n)[k]? = some (UInt8.ofNat (48 + (td (n : Int) (len - 1 - k)).toNat)) := by
  have := (dec_td len n h hp).2 (len - 1 - k) (by omega)
  rwa [show len - 1 - (len - 1 - k) = k by omega] at this
theorem dec_take {n len : Nat} (h : NX (n : Int) len) (hp : 0 < n) {k : Nat} (hk : k < len) : (Lib.decDigits n).take (k + 1) = (Lib.decDigits n).take k ++ [UInt8.ofNat (48 + (td (n : Int) (len - 1 - k)).toNat)] := by
  rw [List.take_add_one, dec_get h hp hk]; rfl
/-- the digits of a text, that of 0 too -/
theorem dec_any (n : Nat) : ∃ m, 0 < m ∧ m ≤ (Lib.decDigits n).length ∧ tn (n : Int) m = 0 ∧ (Lib.decDigits n).length = m ∧ ∀ i, i < m → (Lib.decDigits n)[m - 1 - i]? = some (UInt8.ofNat (48 + (td (n : Int) i).toNat)) := by
  rcases Nat.eq_zero_or_pos n with e | hp
  · subst e
    rw [dec_small (by omega)]
    refine ⟨1, by omega, by simp, rfl, rfl, fun i hi => ?_⟩
    obtain rfl : i = 0 := by omega
    rfl
  · obtain ⟨len, h⟩ := NX.exists n
    have hl : 0 < len := by
      rcases Nat.eq_zero_or_pos len with e | e
      · have := h.len_zero.1 e; omega
      · exact e
    obtain ⟨h1, h2⟩ := dec_td len n h hp
    exact ⟨len, hl, by omega, h.top, h1, h2⟩
theorem td_char (n : Int) (i : Nat) : ((UInt8.ofNat (48 + (td n i).toNat)).toNat : Int) = 48 + td n i := by
  have h0 := td_nonneg n i
  have h1 := td_lt n i
  rw [UInt8.toNat_ofNat']
  omega
theorem itoa_nonneg {z : Int} (h : 0 ≤ z) : Lib.itoa z = Lib.decDigits z.natAbs := by
  unfold Lib.itoa
  rw [if_neg (by omega)]
  congr 1
  omega
theorem itoa_neg {z : Int} (h : z < 0) : Lib.itoa z = 45 :: Lib.decDigits z.natAbs := by unfold Lib.itoa; rw [if_pos h]
theorem itoa_one : Lib.itoa 1 = [49] := by rw [itoa_nonneg (by omega)]; exact dec_small (by decide)
theorem dec_head {n : Nat} (hp : 0 < n) : ∃ c, (Lib.decDigits n)[0]? = some c ∧ 49 ≤ c.toNat ∧ c.toNat ≤ 57 := by
  obtain ⟨len, h⟩ := NX.exists n
  have hl : 0 < len := by
    rcases Nat.eq_zero_or_pos len with e | e
    · have := h.len_zero.1 e; omega
    · exact e
  refine ⟨_, dec_get h hp hl, ?_⟩
  have h1 := h.topdig hl
  have h2 := td_char (n : Int) (len - 1)
  have h3 := td_lt (n : Int) (len - 1)
  rw [Nat.sub_zero]
  omega
theorem dec_zero : Lib.decDigits 0 = [48] := dec_small (by omega)
/-- every byte of the digits is a digit -/
theorem dec_all (n : Nat) : ∀ c ∈ Lib.decDigits n, 48 ≤ c.toNat ∧ c.toNat ≤ 57 := by
  induction n using Nat.strongRecOn with
  | _ n ih =>
    by_cases h1 : n < 10
    · rw [dec_small h1]
      intro c hc
      simp only [List.mem_singleton] at hc
      subst hc
      rw [UInt8.toNat_ofNat']; omega
    · rw [dec_step (by omega)]
      intro c hc
      rcases List.mem_append.1 hc with hc | hc
      · exact ih _ (by omega) c hc
      · simp only [List.mem_singleton] at hc
        subst hc
        rw [UInt8.toNat_ofNat']; omega
/-- the value of digits -/
def valL (l : List UInt8) : Nat := l.foldl (fun a c => a * 10 + (c.toNat - 48)) 0
theorem valL_snoc (l : List UInt8) (c : UInt8) : valL (l ++ [c]) = valL l * 10 + (c.toNat - 48) := by simp [valL, List.foldl_append]
theorem valL_dec (n : Nat) : valL (Lib.decDigits n) = n := by
  induction n using Nat.strongRecOn with
  | _ n ih =>
    by_cases h1 : n < 10
    · rw [dec_small h1]
      show 0 * 10 + ((UInt8.ofNat (48 + n)).toNat - 48) = n
      rw [UInt8.toNat_ofNat']; omega
    · rw [dec_step (by omega), valL_snoc, ih _ (by omega), UInt8.toNat_ofNat']; omega
/-- digits without a zero in front are the text of their value -/
theorem dec_valL' : ∀ (n : Nat) (l : List UInt8), l.length = n → (∀ c ∈ l, 48 ≤ c.toNat ∧ c.toNat ≤ 57) → l ≠ [] → (∀ c, l[0]? = some c → c.toNat ≠ 48) → Lib.decDigits (valL l) = l ∧ 0 < valL l
  | 0, l, hl, _, hne, _ => absurd (List.length_eq_zero_iff.1 hl) hne
  | n + 1, l, hl, hd, hne, h0 => by
    rcases List.eq_nil_or_concat l with e | ⟨l', c, e⟩
    · exact absurd e hne
    · rw [List.concat_eq_append] at e
      subst e
      have hc := hd c (by simp)
      rw [valL_snoc]
      rcases List.eq_nil_or_concat l' with e | ⟨l2, c', e⟩
      · subst e
        have := h0 c rfl
        have e1 : valL [] * 10 + (c.toNat - 48) = c.toNat - 48 := by simp [valL]
        rw [e1]
        refine ⟨?_, by omega⟩
        rw [dec_small (by omega), show 48 + (c.toNat - 48) = c.toNat by omega]
        simp
      · have hne' : l' ≠ [] := by rw [e]; simp
        obtain ⟨h1, h2⟩ := dec_valL' n l' (by simpa using hl) (fun x hx => hd x (by simp [hx])) hne' (fun x hx => h0 x (by
          rw [List.getElem?_append_left (List.length_pos_iff.2 hne')]; exact hx))
        refine ⟨?_, by omega⟩
        rw [dec_step (by omega), show (valL l' * 10 + (c.toNat - 48)) / 10 = valL l' by omega, h1, show 48 + (valL l' * 10 + (c.toNat - 48)) % 10 = c.toNat by omega]
        simp
theorem dec_valL (l : List UInt8) (h1 : ∀ c ∈ l, 48 ≤ c.toNat ∧ c.toNat ≤ 57) (h2 : l ≠ []) (h3 : ∀ c, l[0]? = some c → c.toNat ≠ 48) : Lib.decDigits (valL l) = l ∧ 0 < valL l := dec_valL' _ l rfl h1 h2 h3
theorem decDigits_inj {a b : Nat} (h : Lib.decDigits a = Lib.decDigits b) : a = b := by rw [← valL_dec a, ← valL_dec b, h]
theorem itoa_inj {a b : Int} (h : Lib.itoa a = Lib.itoa b) : a = b := by
  have key : ∀ n : Nat, ∀ l, 45 :: l ≠ Lib.decDigits n := fun n l e => by
    have := dec_all n 45 (by rw [← e]; simp)
    simp at this
  by_cases h1 : a < 0 <;> by_cases h2 : b < 0
  · rw [itoa_neg h1, itoa_neg h2] at h
    have := decDigits_inj (List.cons.inj h).2
    omega
  · rw [itoa_neg h1, itoa_nonneg (by omega)] at h
    exact absurd h (key _ _)
  · rw [itoa_nonneg (by omega), itoa_neg h2] at h
    exact absurd h.symm (key _ _)
  · rw [itoa_nonneg (by omega), itoa_nonneg (by omega)] at h
    have := decDigits_inj h
    omega
end Go.Proofs.YtlcmllfacolkaaaGreatDoor
/- What the references' checks of texts say, without the program. -/
namespace Go.Proofs.YtlcmllfacolkaaaGreatDoor
open Go

def isD (c : UInt8) : Bool := decide (48 ≤ c.toNat) && decide (c.toNat ≤ 57)
theorem isD_iff {c : UInt8} : isD c = true ↔ 48 ≤ c.toNat ∧ c.toNat ≤ 57 := by simp [isD]
/-- a text without its sign -/
def strip : List UInt8 → List UInt8
  | [] => []
  | c :: l => if c = 45 then l else c :: l
theorem strip_cons (c : UInt8) (l : List UInt8) : strip (c :: l) = if c = 45 then l else c :: l := rfl
/-- some bytes, all of them digits -/
def allD (l : List UInt8) : Bool := decide (0 < l.length) && l.all isD
/-- digits without a zero in front of others, or behind a sign -/
def badZ (s : List UInt8) : Bool := (strip s)[0]? == some 48 && (decide (1 < (strip s).length) || decide (1 < s.length))
theorem strip_cases (s : List UInt8) : (s = 45 :: strip s) ∨ (s = strip s ∧ s.head? ≠ some 45) := by
  cases s with
  | nil => exact .inr ⟨rfl, by simp⟩
  | cons c l =>
    rw [strip_cons]
    by_cases h : c = 45
    · rw [if_pos h, h]; exact .inl rfl
    · rw [if_neg h]; exact .inr ⟨rfl, by simpa using h⟩
theorem allD_all {l : List UInt8} (h : allD l = true) : l ≠ [] ∧ ∀ c ∈ l, 48 ≤ c.toNat ∧ c.toNat ≤ 57 := by
  simp only [allD, Bool.and_eq_true, decide_eq_true_eq, List.all_eq_true] at h
  exact ⟨List.length_pos_iff.1 h.1, fun c hc => isD_iff.1 (h.2 c hc)⟩
/-- an integer's text, out of its form -/
theorem form_itoa {s : List UInt8} (h1 : allD (strip s) = true) (h2 : badZ s = false) : ∃ z : Int, s = Lib.itoa z := by
  obtain ⟨hne, hall⟩ := allD_all h1
  rcases strip_cases s with h | ⟨h, _⟩
  · -- a sign
    have h0 : ∀ c, (strip s)[0]? = some c → c.toNat ≠ 48 := fun c hc e => by
      have hc48 : c = 48 := by rw [← UInt8.toNat_inj]; exact e
      unfold badZ at h2
      rw [hc, hc48] at h2
      have : 1 < s.length := by rw [h]; simp [List.length_pos_iff.2 hne]
      simp [this] at h2
    obtain ⟨e1, e2⟩ := dec_valL _ hall hne h0
    refine ⟨-(valL (strip s) : Int), ?_⟩
    rw [itoa_neg (by omega), show (-(valL (strip s) : Int)).natAbs = valL (strip s) by omega, e1]
    exact h
  · by_cases h0 : (strip s)[0]? = some 48
    · unfold badZ at h2
      rw [h0, ← h] at h2
      have hl : s.length = 1 := by
        have : 0 < s.length := by rw [h]; exact List.length_pos_iff.2 hne
        simp at h2; omega
      refine ⟨0, ?_⟩
      rw [itoa_nonneg (by omega), show (0 : Int).natAbs = 0 from rfl, dec_zero]
      rw [← h] at h0
      match s, hl, h0 with
      | [c], _, h0 => simp at h0; rw [h0]
    · obtain ⟨e1, e2⟩ := dec_valL _ hall hne (fun c hc e => h0 (by rw [hc]; congr 1; rw [← UInt8.toNat_inj]; exact e))
      refine ⟨(valL (strip s) : Int), ?_⟩
      rw [itoa_nonneg (by omega), Int.natAbs_natCast, e1]
      exact h
theorem dec_ne (n : Nat) : Lib.decDigits n ≠ [] := fun e => by have := dec_pos n; rw [e] at this; simp at this
theorem strip_itoa (z : Int) : strip (Lib.itoa z) = Lib.decDigits z.natAbs := by
  by_cases h : z < 0
  · rw [itoa_neg h]; simp [strip]
  · rw [itoa_nonneg (by omega)]
    rcases hd : Lib.decDigits z.natAbs with _ | ⟨c, l⟩
    · exact absurd hd (dec_ne _)
    · have := dec_all z.natAbs c (by rw [hd]; simp)
      rw [strip_cons, if_neg (fun e => by rw [e] at this; simp at this)]
theorem allD_dec (n : Nat) : allD (Lib.decDigits n) = true := by
  simp only [allD, Bool.and_eq_true, decide_eq_true_eq, List.all_eq_true]
  exact ⟨dec_pos n, fun c hc => isD_iff.2 (dec_all n c hc)⟩
/-- the text's value has fewer digits than the text bytes -/
theorem itoa_bits (z : Int) {m : Nat} (h : (Lib.itoa z).length ≤ m) : z.natAbs < 10 ^ m := by
  have key : ∀ n : Nat, n < 10 ^ (Lib.decDigits n).length := by
    intro n
    induction n using Nat.strongRecOn with
    | _ n ih =>
      by_cases h1 : n < 10
      · rw [dec_small h1]; simpa using h1
      · rw [dec_step (by omega), List.length_append, List.length_singleton, Nat.pow_succ]
        have := ih (n / 10) (by omega)
        omega
  have h1 := key z.natAbs
  have h2 : (Lib.decDigits z.natAbs).length ≤ m := by
    by_cases hz : z < 0
    · rw [itoa_neg hz] at h; simp at h; omega
    · rw [itoa_nonneg (by omega)] at h; exact h
  exact Nat.lt_of_lt_of_le h1 (Nat.pow_le_pow_right (by omega) h2)
theorem itoa_sz (z : Int) {m : Nat} (h : (Lib.itoa z).length ≤ m) : z.natAbs < 2 ^ (4 * m) := by
  have := itoa_bits z h
  rw [Nat.pow_mul]
  exact Nat.lt_of_lt_of_le this (Nat.pow_le_pow_left (by decide) m)
end Go.Proofs.YtlcmllfacolkaaaGreatDoor
/- What the references' checks of the texts of rationals say, without the program. -/
namespace Go.Proofs.YtlcmllfacolkaaaGreatDoor
open Go

/-- what lies before the first slash, and behind it -/
def cutL : List UInt8 → List UInt8 × Option (List UInt8)
  | [] => ([], none)
  | c :: l => if c = 47 then ([], some l) else (c :: (cutL l).1, (cutL l).2)
def numL (s : List UInt8) : List UInt8 := (cutL s).1
def denL (s : List UInt8) : List UInt8 := (cutL s).2.getD [49]
theorem cutL_eq : ∀ s, s = (match (cutL s).2 with | none => (cutL s).1 | some d => (cutL s).1 ++ 47 :: d)
  | [] => rfl
  | c :: l => by
    have ih := cutL_eq l
    unfold cutL
    by_cases h : c = 47
    · rw [if_pos h, h]; rfl
    · rw [if_neg h]
      dsimp only
      cases hd : (cutL l).2 with
      | none => rw [hd] at ih; dsimp only at ih ⊢; rw [← ih]
      | some d => rw [hd] at ih; dsimp only at ih ⊢; rw [List.cons_append, ← ih]
theorem cutL_none : ∀ {s : List UInt8}, (∀ c ∈ s, c ≠ 47) → cutL s = (s, none)
  | [], _ => rfl
  | c :: l, h => by
    unfold cutL
    rw [if_neg (h c (by simp)), cutL_none (fun x hx => h x (by simp [hx]))]
theorem cutL_some : ∀ {a b : List UInt8}, (∀ c ∈ a, c ≠ 47) → cutL (a ++ 47 :: b) = (a, some b)
  | [], b, _ => by simp [cutL]
  | c :: l, b, h => by
    rw [List.cons_append]
    unfold cutL
    rw [if_neg (h c (by simp)), cutL_some (fun x hx => h x (by simp [hx]))]
def zerosL (l : List UInt8) : Bool := l.all (· == 48)
/-- the integer with a text -/
def valZ (s : List UInt8) : Int := if s.head? = some 45 then -(valL (strip s) : Int) else (valL (strip s) : Int)
theorem valZ_itoa (z : Int) : valZ (Lib.itoa z) = z := by
  unfold valZ
  rw [strip_itoa, valL_dec]
  by_cases h : z < 0
  · rw [itoa_neg h, List.head?_cons, if_pos rfl]; omega
  · rw [itoa_nonneg (by omega), if_neg]
    · omega
    · intro e
      have := dec_all z.natAbs 45 (List.mem_of_head? e)
      simp at this
/-- the error of the text of a rational -/
def ck2 (s : List UInt8) (most : Nat) : Int :=
  if most < s.length then 5 else
  if (allD (strip (numL s)) && allD (denL s)) = false then 14 else
  if zerosL (denL s) = true then 19 else
  if (badZ (numL s) || ((denL s)[0]? == some 48)) = true then 3 else
  if (decide ((numL s).length < s.length) && ((denL s == [49]) || (Int.gcd (valZ (numL s)) (valZ (denL s)) != 1))) = true then 3 else 0
theorem numL_len (s : List UInt8) : (numL s).length < s.length ↔ (cutL s).2 ≠ none := by
  have h := cutL_eq s
  unfold numL
  cases hd : (cutL s).2 with
  | none => rw [hd] at h; dsimp only at h; rw [← h]; simp
  | some d =>
    rw [hd] at h; dsimp only at h
    have : s.length = (cutL s).1.length + (d.length + 1) := by
      conv => lhs; rw [h]
      simp
    simp; omega
theorem den_text {d : List UInt8} (h1 : allD d = true) (h2 : (d[0]? == some 48) = false) : Lib.decDigits (valL d) = d ∧ 0 < valL d := by
  obtain ⟨a, b⟩ := allD_all h1
  exact dec_valL d b a (fun c hc e => by
    have : c = 48 := by rw [← UInt8.toNat_inj]; exact e
    rw [hc, this] at h2
    simp at h2)
theorem ck2_ratL {s : List UInt8} {most : Nat} (h : ck2 s most = 0) : (∃ q : Rat, s = ratL q) ∧ s.length ≤ most := by
  unfold ck2 at h
  split at h
  · exact absurd h (by decide)
  rename_i hlen
  split at h
  · exact absurd h (by decide)
  rename_i hd
  split at h
  · exact absurd h (by decide)
  split at h
  · exact absurd h (by decide)
  rename_i hb
  split at h
  · exact absurd h (by decide)
  rename_i hg
  refine ⟨?_, by omega⟩
  have hb' : badZ (numL s) = false ∧ ((denL s)[0]? == some 48) = false := by
    cases h1 : badZ (numL s) <;> cases h2 : ((denL s)[0]? == some 48) <;> simp [h1, h2] at hb ⊢
  have hd1 : allD (strip (numL s)) = true ∧ allD (denL s) = true := by
    cases h1 : allD (strip (numL s)) <;> cases h2 : allD (denL s) <;> simp [h1, h2] at hd ⊢
  obtain ⟨z, hz⟩ := form_itoa hd1.1 hb'.1
  obtain ⟨hD, hD0⟩ := den_text hd1.2 hb'.2
  have hs := cutL_eq s
  cases hc : (cutL s).2 with
  | none =>
    rw [hc] at hs; dsimp only at hs
    refine ⟨(z : Rat), ?_⟩
    rw [ratL_w (Rat.den_intCast _), Rat.num_intCast, ← hz]
    exact hs
  | some d =>
    have hdd : denL s = d := by unfold denL; rw [hc]; rfl
    have hlt := (numL_len s).2 (by rw [hc]; simp)
    rw [hdd] at hD hD0
    have hvd : valZ d = (valL d : Int) := by
      have := valZ_itoa ((valL d : Nat) : Int)
      rw [itoa_nonneg (by omega), Int.natAbs_natCast, hD] at this
      exact this
    have e1 : valZ (numL s) = z := by rw [hz, valZ_itoa]
    rw [hdd, e1, hvd, decide_eq_true hlt, Bool.true_and] at hg
    have hg' : ¬ (d == [49]) = true ∧ Int.gcd z (valL d : Int) = 1 := by
      simp only [Bool.or_eq_true, bne_iff_ne, ne_eq, not_or, Classical.not_not] at hg
      exact hg
    have h1 : valL d ≠ 1 := fun e => hg'.1 (by
      rw [← hD, e, dec_small (by omega)]; rfl)
    have hcop : Nat.Coprime z.natAbs (valL d) := hg'.2
    refine ⟨⟨z, valL d, by omega, hcop⟩, ?_⟩
    have e2 : Lib.itoa ((valL d : Nat) : Int) = d := by rw [itoa_nonneg (by omega), Int.natAbs_natCast, hD]
    rw [ratL_f (by exact h1)]
    rw [hc] at hs; dsimp only at hs
    show s = Lib.itoa z ++ [47] ++ Lib.itoa ((valL d : Nat) : Int)
    rw [e2, ← hz, List.append_assoc]
    exact hs
theorem itoa_noslash (z : Int) : ∀ c ∈ Lib.itoa z, c ≠ 47 := by
  intro c hc e
  subst e
  by_cases h : z < 0
  · rw [itoa_neg h] at hc
    rcases List.mem_cons.1 hc with h1 | h1
    · exact absurd h1 (by decide)
    · have := dec_all _ _ h1; simp at this
  · rw [itoa_nonneg (by omega)] at hc
    have := dec_all _ _ hc; simp at this
theorem cutL_ratL (q : Rat) : cutL (ratL q) = (Lib.itoa q.num, if q.den = 1 then none else some (Lib.itoa (q.den : Int))) := by
  unfold ratL
  by_cases h : q.den = 1
  · rw [if_pos h, if_pos h, cutL_none (itoa_noslash _)]
  · rw [if_neg h, if_neg h, List.append_assoc]
    exact cutL_some (itoa_noslash _)
theorem numL_ratL (q : Rat) : numL (ratL q) = Lib.itoa q.num := by unfold numL; rw [cutL_ratL]
theorem denL_ratL (q : Rat) : denL (ratL q) = Lib.itoa (q.den : Int) := by
  unfold denL; rw [cutL_ratL]
  by_cases h : q.den = 1
  · rw [if_pos h, h]; exact itoa_one.symm
  · rw [if_neg h]; rfl
end Go.Proofs.YtlcmllfacolkaaaGreatDoor
/- The reference of layer 1: trim, order, Sign. -/
namespace Go.Proofs.YtlcmllfacolkaaaGreatDoor
open Go.RowKit

set_option maxHeartbeats 400000 in
theorem r1_trim (ao : Option Addr) (len cap : Nat) (n : Int) (w : World) (hl : len ≤ 2000000) (hcap : len ≤ cap) (h0 : 0 ≤ n) (h1 : tn n len = 0) (hr : DRow w ao len (td n)) :
    Calls Tryz.prog 122 #[.slice ao len cap] w fun e w' => (∃ k, e = .returned (.slice ao k cap) ∧ k ≤ len ∧ NX n k) ∧ w = w' := by
  go_enter Tryz.func122, Tryz.ntmps122
  go_wp2
  go_loop [3] (fun v => ∃ k : Nat, k ≤ len ∧ v = .int .i64 k ∧ Hid (tn n k = 0)) (fun v => (intOf v).toNat)
  case atStart => exact ⟨len, Nat.le_refl _, rfl, h1⟩
  case round =>
    obtain ⟨k, hk, rfl, hz⟩ := hrel
    by_cases hp : 0 < k
    · obtain ⟨b, off, rfl, hcs⟩ := hr.at_ (by omega)
      have hcell := hcs (k-1) (by omega)
      have e1 : ((k:Int) - 1) = ((k-1 : Nat) : Int) := by omega
      clear hcs
      go_wp2
      · have h2 : (td n (k - 1) == 0) = true := by assumption
        go_round
        case rel => exact ⟨k - 1, by omega, by go_num, tn_trim hz.out (k - 1) (by omega) (fun j h3 h4 => by
          obtain rfl : j = k - 1 := by omega
          simpa using h2)⟩
        case measure => simp [intOf]; omega
      · have h2 : (td n (k - 1) == 0) = false := by assumption
        go_ret
        exact ⟨⟨k, rfl, hk, NX.mk' h0 hz.out (fun _ => by simpa using h2)⟩, rfl⟩
    · go_wp2
      go_ret
      obtain rfl : k = 0 := by omega
      exact ⟨⟨0, rfl, by omega, NX.mk' h0 hz.out (by omega)⟩, rfl⟩

theorem lt_of_td {a b : Int} {k : Nat} (h : tn a (k + 1) = tn b (k + 1)) (hd : td a k < td b k) : a < b := by
  refine Int.lt_of_not_ge fun hge => ?_
  have h1 := tn_mono hge k
  have h2 := tn_split a k
  have h3 := tn_split b k
  omega
set_option maxHeartbeats 400000 in
theorem r1_order (ao bo : Option Addr) (la lb ca cb : Nat) (a b : Int) (w : World) (hla : la ≤ 2000000) (hlb : lb ≤ 2000000)
   (na : NX a la) (ha : DRow w ao la (td a)) (nb : NX b lb) (hb : DRow w bo lb (td b)) :
    Calls Tryz.prog 132 #[.slice ao la ca, .slice bo lb cb] w fun e w' => e = .returned (.int .i64 (sgn (a - b))) ∧ Below w.heap.size w w' := by
  by_cases hl : la = lb
  · subst hl
    have hne : ((la : Int) != la) = false := by simp
    go_enter Tryz.func132, Tryz.ntmps132
    go_wp2
    go_loopw [5] (fun i wr => ∃ k : Nat, k ≤ la ∧ i = .int .i64 ((k : Int) - 1) ∧ Hid (tn a k = tn b k) ∧ Below w.heap.size w wr) (fun i _ => (intOf i + 1).toNat)
    case atStart => exact ⟨la, Nat.le_refl _, rfl, by rw [Hid, na.top, nb.top], Below.refl _ _⟩
    case round =>
      obtain ⟨k, hk, rfl, hz, hB⟩ := hrel
      by_cases hp : 0 < k
      · obtain ⟨b1, off1, rfl, hc1⟩ := (ha.below hB).at_ (by omega)
        obtain ⟨b2, off2, rfl, hc2⟩ := (hb.below hB).at_ (by omega)
        have hcell1 := hc1 (k-1) (by omega)
        have hcell2 := hc2 (k-1) (by omega)
        obtain ⟨j, rfl⟩ : ∃ j, k = j + 1 := ⟨k - 1, by omega⟩
        have e1 : (((j + 1 : Nat) : Int) - 1) = (j : Int) := by omega
        have e2 : j + 1 - 1 = j := by omega
        rw [e2] at hcell1 hcell2
        simp only [e1]
        clear hc1 hc2 e1 e2
        have i0 : (0 : Int) ≤ (j : Int) := by omega
        have i1 : (j : Int) < (la : Int) := by omega
        go_wp2
        go_quiet (fail)
        go_wp2
        · have h2 : td a j < td b j := by assumption
          go_ret
          exact ⟨ret_int (sgn_neg (by have := lt_of_td hz.out h2; omega)).symm, hB.drewN _⟩
        · have h2 : td b j ≤ td a j := by assumption
          go_quiet (fail)
          go_wp2
          · have h3 : td b j < td a j := by assumption
            go_ret
            exact ⟨ret_int (sgn_pos (by have := lt_of_td hz.out.symm h3; omega)).symm, (hB.drewN _).drewN _⟩
          · have h3 : td a j ≤ td b j := by assumption
            go_roundw
            case rel =>
              refine ⟨j, by omega, rfl, ?_, hB.drewN _⟩
              have h1 := tn_split a j
              have h4 := tn_split b j
              have h5 := hz.out
              show tn a j = tn b j
              omega
            case measure => simp [intOf]
      · obtain rfl : k = 0 := by omega
        go_wp2
        go_ret
        have h3 : a = b := hz.out
        exact ⟨ret_int (by rw [h3, Int.sub_self]; rfl), hB⟩
  · have hne : ((la : Int) != lb) = true := by simp; omega
    by_cases hlt : la < lb
    · go_enter Tryz.func132, Tryz.ntmps132
      go_wp2
      go_ret
      exact ⟨ret_int (sgn_neg (by have := na.lt_of_len nb hlt; omega)).symm, Below.refl _ _⟩
    · go_enter Tryz.func132, Tryz.ntmps132
      go_wp2
      go_ret
      exact ⟨ret_int (sgn_pos (by have := nb.lt_of_len na (by omega); omega)).symm, Below.refl _ _⟩

/-! ### Sign -/
set_option maxHeartbeats 400000 in
theorem r1_sign_z (w : World) : Calls Tryz.prog 111 #[.string ⟨#[48]⟩] w fun e w' => e = .returned (.int .i64 0) ∧ w = w' := by
  go_enter Tryz.func111, Tryz.ntmps111
  go_wp2
  go_ret
  exact ⟨rfl, rfl⟩
set_option maxHeartbeats 400000 in
theorem r1_sign_n (s : ByteArray) (w : World) (h : (s.toList == [48]) = false) (h0 : 0 < s.size) (h1 : ((s[0].toNat : Int) == 45) = true) :
    Calls Tryz.prog 111 #[.string s] w fun e w' => e = .returned (.int .i64 (-1)) ∧ w = w' := by
  go_enter Tryz.func111, Tryz.ntmps111
  go_wp2
  go_ret
  exact ⟨rfl, rfl⟩
set_option maxHeartbeats 400000 in
theorem r1_sign_p (s : ByteArray) (w : World) (h : (s.toList == [48]) = false) (h0 : 0 < s.size) (h1 : ((s[0].toNat : Int) == 45) = false) :
    Calls Tryz.prog 111 #[.string s] w fun e w' => e = .returned (.int .i64 1) ∧ w = w' := by
  go_enter Tryz.func111, Tryz.ntmps111
  go_wp2
  go_ret
  exact ⟨rfl, rfl⟩
end Go.Proofs.YtlcmllfacolkaaaGreatDoor
/- The reference of layer 1: the digits of a text. -/
namespace Go.Proofs.YtlcmllfacolkaaaGreatDoor
open Go.RowKit

theorem getElem_toList {s : ByteArray} {l : List UInt8} (h : s.data.toList = l) {q : Nat} (hq : q < s.size) {c : UInt8} (hc : l[q]? = some c) : s[q] = c := by
  have h1 : s.data.toList[q]? = some c := by rw [h]; exact hc
  rw [Array.getElem?_toList] at h1
  obtain ⟨h2, h3⟩ := Array.getElem?_eq_some_iff.1 h1
  exact h3
set_option maxRecDepth 10000 in
set_option maxHeartbeats 1000000 in
theorem r1_digits (neg : Bool) (n : Nat) (s : ByteArray) (w : World) (hs : s.data.toList = (if neg then [45] else []) ++ Lib.decDigits n) (hlen : (Lib.decDigits n).length ≤ 900000) :
    Calls Tryz.prog 110 #[.string s] w fun e w' => (∃ v, e = .returned v ∧ TenS w' v n) ∧ Below w.heap.size w w' := by
  obtain ⟨m, hm0, _, htop, hml, hchar⟩ := dec_any n
  obtain ⟨sg, hsg, hsgl⟩ : ∃ sg : Nat, sg ≤ 1 ∧ (if neg then [45] else [] : List UInt8).length = sg := by
    cases neg
    · exact ⟨0, by omega, rfl⟩
    · exact ⟨1, by omega, rfl⟩
  have hsz : s.size = sg + m := by
    have := congrArg List.length hs
    rw [List.length_append, hsgl, hml] at this
    simpa using this
  have HS := Lib.hid hs
  have HZ := Lib.hid hsz
  have HC := Lib.hid hchar
  have HM := Lib.hid hml
  have HT := Lib.hid htop
  have HG := Lib.hid hsgl
  have hszle : s.size ≤ 1000000 := by omega
  clear hs hsz hchar hml htop hsgl
  go_enter Tryz.func110, Tryz.ntmps110
  go_wp2
  go_loopw [3, 4] (fun o i wr => ∃ (j k : Nat) (v : Value), o = v ∧ i = .int .i64 ((j : Int) - 1) ∧ Hid ((k + j = s.size ∧ k ≤ m ∨ j = 0 ∧ k = m) ∧ OwnS wr 3 w.heap.size v (dvals .i64 k (td n))) ∧ Below w.heap.size w wr) (fun _ i _ => (intOf i + 1).toNat)
  case atStart => exact ⟨s.size, 0, _, rfl, rfl, ⟨.inl ⟨by omega, by omega⟩, OwnS.nil _ _ _⟩, Below.refl _ _⟩
  case round =>
    obtain ⟨j, k, v, rfl, rfl, hz, hB⟩ := hrel
    by_cases hp : 0 < j
    · obtain ⟨q, rfl⟩ : ∃ q, j = q + 1 := ⟨j - 1, by omega⟩
      have e1 : (((q + 1 : Nat) : Int) - 1) = (q : Int) := by omega
      simp only [e1]
      clear e1
      have hkj : k + (q + 1) = s.size ∧ k ≤ m := by
        rcases hz.out.1 with h | h
        · exact h
        · omega
      have hq : q < s.size := by omega
      by_cases hd : sg ≤ q
      · have hk : k < m := by have := HZ.out; omega
        have hch : s[q] = UInt8.ofNat (48 + (td (n : Int) k).toNat) := by
          refine getElem_toList HS.out hq ?_
          rw [List.getElem?_append_right (by rw [HG.out]; exact hd), HG.out, show q - sg = m - 1 - k by have := HZ.out; omega]
          exact HC.out k hk
        have hval := td_char (n : Int) k
        rw [← hch] at hval
        have d0 := td_nonneg (n : Int) k
        have d1 := td_lt (n : Int) k
        have hne : ((s[q].toNat : Int) != 45) = true := by simp; omega
        have b0 : (48 : Int) ≤ (s[q].toNat : Int) := by omega
        have b1 : (s[q].toNat : Int) ≤ 57 := by omega
        have HV := Lib.hid hval
        clear hval hch
        have HK := Lib.hid hkj
        clear hkj
        go_wp2_with (at_builtin; refine wpList_app1 rfl (.tmp 16) (.tmp 22) _ (by rfl) 3 w.heap.size _ _ _ (by rfl) (hz.out.2.gr (Gr.alloc _ _)) _ _ _ (by rfl) (heap_alloc_new _ _) rfl w (hB.alloc hB.size _) (by rw [dvals_length]; omega) 8 (by decide) Tryz.underlying123 int_info rfl (by have := hB.size; simp; omega) ?_)
        intro v' w' hown hB' _ _
        go_wp2
        go_roundw
        case rel =>
          refine ⟨q, k + 1, _, rfl, rfl, ⟨.inl ⟨by have := HK.out; omega, by omega⟩, ?_⟩, hB'⟩
          rw [dvals_succ]
          rw [show ((s[q].toNat : Int) - 48) = td (n : Int) k by have := HV.out; omega] at hown
          exact hown
        case measure => simp [intOf]
      · -- the sign
        have hq0 : q = 0 := by omega
        subst hq0
        have hkm : k = m := by have := HZ.out; omega
        have hch : s[0] = 45 := by
          refine getElem_toList HS.out hq ?_
          cases neg
          · have := HG.out; simp at this; omega
          · rfl
        have hne : ((s[0].toNat : Int) != 45) = false := by rw [hch]; rfl
        have HH := Lib.hid hkm
        clear hch hkm hkj
        go_wp2
        go_roundw
        case rel => exact ⟨0, k, _, rfl, rfl, ⟨.inr ⟨rfl, HH.out⟩, hz.out.2⟩, hB⟩
        case measure => simp [intOf]
    · obtain rfl : j = 0 := by omega
      have hkm : k = m := by
        rcases hz.out.1 with h | h
        · have := HZ.out; omega
        · exact h.2
      subst hkm
      obtain ⟨ao, cap, rfl, hcap, _, hrow⟩ := hz.out.2.drow
      go_wp2_with fail
      refine (r1_trim ao k cap n _ (by omega) hcap (by omega) HT.out hrow).mono ?_
      rintro e w1 ⟨⟨k', rfl, hk', hnx⟩, rfl⟩
      go_wp2
      go_ret
      exact ⟨⟨_, rfl, ao, k', cap, rfl, by omega, hnx, hrow.shorter hk'⟩, hB⟩
end Go.Proofs.YtlcmllfacolkaaaGreatDoor
/- The reference of layer 1: sums and differences of digits. -/
namespace Go.Proofs.YtlcmllfacolkaaaGreatDoor
open Go.RowKit

theorem plus_stepx2 {a b c : Int} {i : Nat} (h : tn (a + b) i = tn a i + tn b i + c) (h0 : 0 ≤ c) (h1 : c ≤ 1) (ha : tn a i = 0) :
    td (a + b) i = (c + td b i) % 10 ∧ tn (a + b) (i + 1) = tn a (i + 1) + tn b (i + 1) + (c + td b i) / 10 ∧ 0 ≤ (c + td b i) / 10 ∧ (c + td b i) / 10 ≤ 1 := by
  unfold td; simp only [tn_succ]; omega
theorem plus_stepx3 {a b c : Int} {i : Nat} (h : tn (a + b) i = tn a i + tn b i + c) (h0 : 0 ≤ c) (h1 : c ≤ 1) (ha : tn a i = 0) (hb : tn b i = 0) :
    td (a + b) i = c % 10 ∧ tn (a + b) (i + 1) = tn a (i + 1) + tn b (i + 1) + c / 10 ∧ c / 10 = 0 := by
  unfold td; simp only [tn_succ]; omega
set_option maxRecDepth 10000 in
set_option maxHeartbeats 4000000 in
theorem r1_plus (ao bo : Option Addr) (la lb ca cb : Nat) (a b : Int) (w : World) (hla : la ≤ 900000) (hlb : lb ≤ 900000)
   (na : NX a la) (ha : DRow w ao la (td a)) (nb : NX b lb) (hb : DRow w bo lb (td b)) :
    Calls Tryz.prog 131 #[.slice ao la ca, .slice bo lb cb] w fun e w' => (∃ v, e = .returned v ∧ TenZ w' v (a + b)) ∧ Below w.heap.size w w' := by
  obtain ⟨M, hMa, hMb, hMM⟩ : ∃ M : Nat, la ≤ M ∧ lb ≤ M ∧ M ≤ 900000 := ⟨max la lb, by omega, by omega, by omega⟩
  go_enter Tryz.func131, Tryz.ntmps131
  go_wp2
  go_loopw [5, 6, 7] (fun o c i wr => ∃ (k : Nat) (cr : Int) (v : Value), o = v ∧ c = .int .i64 cr ∧ i = .int .i64 k ∧ 0 ≤ cr ∧ cr ≤ 1 ∧ k ≤ M + 1 ∧
      Hid ((k = M + 1 → cr = 0) ∧ tn (a + b) k = tn a k + tn b k + cr ∧ OwnS wr 3 w.heap.size v (dvals .i64 k (td (a + b)))) ∧ Below w.heap.size w wr) (fun _ _ i _ => M + 1 - (intOf i).toNat)
  case atStart => exact ⟨0, 0, _, rfl, rfl, rfl, by omega, by omega, by omega, ⟨by omega, by simp [tn_zero], OwnS.nil _ _ _⟩, Below.refl _ _⟩
  case round =>
    obtain ⟨k, cr, v, rfl, rfl, rfl, hc0, hc1, hkM, hz, hB⟩ := hrel
    have a0 := td_nonneg a k
    have a1 := td_lt a k
    have b0 := td_nonneg b k
    have b1 := td_lt b k
    by_cases hl1 : k < la
    · by_cases hl2 : k < lb
      · obtain ⟨b1, off1, rfl, hcs1⟩ := (ha.below hB).at_ (by omega)
        have hcell1 := hcs1 k hl1
        clear hcs1
        obtain ⟨b2, off2, rfl, hcs2⟩ := (hb.below hB).at_ (by omega)
        have hcell2 := hcs2 k hl2
        clear hcs2
        go_wp2_with (at_builtin; refine wpList_app1 rfl (.tmp 46) (.tmp 49) _ (by rfl) 3 w.heap.size _ _ _ (by rfl) (hz.out.2.2.gr (Gr.alloc _ _)) _ _ _ (by rfl) (heap_alloc_new _ _) rfl w (hB.alloc hB.size _) (by rw [dvals_length]; omega) 8 (by decide) Tryz.underlying123 int_info rfl (by have := hB.size; simp; omega) ?_)
        intro v1 w1 hown hB1 _ _
        have hs := plus_stepx hz.out.2.1 hc0 hc1
        have HS := Lib.hid hs
        clear hs
        go_wp2
        go_roundw
        case rel =>
          have hs := HS.out
          refine ⟨k + 1, _, _, rfl, rfl, by go_num, hs.2.2.1, hs.2.2.2, by omega, ⟨fun h => by omega, hs.2.1, ?_⟩, hB1⟩
          rw [dvals_succ, hs.1]; exact hown
        case measure => simp [intOf]; omega
      · have e0 : tn b k = 0 := tn_ge nb.top (by omega)
        have HE := Lib.hid e0
        clear e0
        obtain ⟨b1, off1, rfl, hcs1⟩ := (ha.below hB).at_ (by omega)
        have hcell1 := hcs1 k hl1
        clear hcs1
        go_wp2_with (at_builtin; refine wpList_app1 rfl (.tmp 46) (.tmp 49) _ (by rfl) 3 w.heap.size _ _ _ (by rfl) (hz.out.2.2.gr (Gr.alloc _ _)) _ _ _ (by rfl) (heap_alloc_new _ _) rfl w (hB.alloc hB.size _) (by rw [dvals_length]; omega) 8 (by decide) Tryz.underlying123 int_info rfl (by have := hB.size; simp; omega) ?_)
        intro v1 w1 hown hB1 _ _
        have hs := plus_step0x hz.out.2.1 hc0 hc1 HE.out
        have HS := Lib.hid hs
        clear hs
        go_wp2
        go_roundw
        case rel =>
          have hs := HS.out
          refine ⟨k + 1, _, _, rfl, rfl, by go_num, hs.2.2.1, hs.2.2.2, by omega, ⟨fun h => by omega, hs.2.1, ?_⟩, hB1⟩
          rw [dvals_succ, hs.1]; exact hown
        case measure => simp [intOf]; omega
    · have e0 : tn a k = 0 := tn_ge na.top (by omega)
      have HE := Lib.hid e0
      clear e0
      by_cases hl2 : k < lb
      · obtain ⟨b2, off2, rfl, hcs2⟩ := (hb.below hB).at_ (by omega)
        have hcell2 := hcs2 k hl2
        clear hcs2
        go_wp2_with (at_builtin; refine wpList_app1 rfl (.tmp 46) (.tmp 49) _ (by rfl) 3 w.heap.size _ _ _ (by rfl) (hz.out.2.2.gr (Gr.alloc _ _)) _ _ _ (by rfl) (heap_alloc_new _ _) rfl w (hB.alloc hB.size _) (by rw [dvals_length]; omega) 8 (by decide) Tryz.underlying123 int_info rfl (by have := hB.size; simp; omega) ?_)
        intro v1 w1 hown hB1 _ _
        have hs := plus_stepx2 hz.out.2.1 hc0 hc1 HE.out
        have HS := Lib.hid hs
        clear hs
        go_wp2
        go_roundw
        case rel =>
          have hs := HS.out
          refine ⟨k + 1, _, _, rfl, rfl, by go_num, hs.2.2.1, hs.2.2.2, by omega, ⟨fun h => by omega, hs.2.1, ?_⟩, hB1⟩
          rw [dvals_succ, hs.1]; exact hown
        case measure => simp [intOf]; omega
      · have e1 : tn b k = 0 := tn_ge nb.top (by omega)
        have HF := Lib.hid e1
        clear e1
        by_cases hcr : 0 < cr
        · have hk1 : k ≤ M := by
            rcases Nat.lt_or_ge M k with h | h
            · have := hz.out.1 (by omega); omega
            · exact h
          go_wp2_with (at_builtin; refine wpList_app1 rfl (.tmp 46) (.tmp 49) _ (by rfl) 3 w.heap.size _ _ _ (by rfl) (hz.out.2.2.gr (Gr.alloc _ _)) _ _ _ (by rfl) (heap_alloc_new _ _) rfl w (hB.alloc hB.size _) (by rw [dvals_length]; omega) 8 (by decide) Tryz.underlying123 int_info rfl (by have := hB.size; simp; omega) ?_)
          intro v1 w1 hown hB1 _ _
          have hs := plus_stepx3 hz.out.2.1 hc0 hc1 HE.out HF.out
          have HS := Lib.hid hs
          clear hs
          go_wp2
          go_roundw
          case rel =>
            have hs := HS.out
            refine ⟨k + 1, _, _, rfl, rfl, by go_num, by omega, by omega, by omega, ⟨fun _ => hs.2.2, hs.2.1, ?_⟩, hB1⟩
            rw [dvals_succ, hs.1]; exact hown
          case measure => simp [intOf]; omega
        · have hcr0 : cr = 0 := by omega
          obtain ⟨ao1, cap1, rfl, hcap1, _, hrow1⟩ := hz.out.2.2.drow
          have HR := Lib.hid hcr0
          clear hcr0
          go_wp2
          go_ret
          refine ⟨⟨_, rfl, ao1, k, cap1, rfl, hcap1, by omega, ?_, hrow1⟩, hB⟩
          have h1 := hz.out.2.1
          have h2 := HE.out
          have h3 := HF.out
          have h4 := HR.out
          omega
set_option maxRecDepth 10000 in
set_option maxHeartbeats 4000000 in
theorem r1_minus (ao bo : Option Addr) (la lb ca cb : Nat) (a b : Int) (w : World) (hla : la ≤ 900000) (hba : b ≤ a)
   (na : NX a la) (ha : DRow w ao la (td a)) (nb : NX b lb) (hb : DRow w bo lb (td b)) :
    Calls Tryz.prog 133 #[.slice ao la ca, .slice bo lb cb] w fun e w' => (∃ v, e = .returned v ∧ TenF w' w.heap.size v (a - b)) ∧ Below w.heap.size w w' := by
  have hlb : lb ≤ la := nb.len_le na hba
  go_enter Tryz.func133, Tryz.ntmps133
  go_wp2
  go_loopw [5, 6, 7] (fun o c i wr => ∃ (k : Nat) (br : Int) (v : Value), o = v ∧ c = .int .i64 br ∧ i = .int .i64 k ∧ 0 ≤ br ∧ br ≤ 1 ∧ k ≤ la ∧
      Hid (tn (a - b) k = tn a k - tn b k - br ∧ OwnS wr 3 w.heap.size v (dvals .i64 k (td (a - b)))) ∧ Below w.heap.size w wr) (fun _ _ i _ => la - (intOf i).toNat)
  case atStart => exact ⟨0, 0, _, rfl, rfl, rfl, by omega, by omega, by omega, ⟨by simp [tn_zero], OwnS.nil _ _ _⟩, Below.refl _ _⟩
  case round =>
    obtain ⟨k, br, v, rfl, rfl, rfl, hc0, hc1, hk, hz, hB⟩ := hrel
    have a0 := td_nonneg a k
    have a1 := td_lt a k
    have b0 := td_nonneg b k
    have b1 := td_lt b k
    by_cases hl1 : k < la
    · obtain ⟨b1, off1, rfl, hcs1⟩ := (ha.below hB).at_ (by omega)
      have hcell1 := hcs1 k hl1
      clear hcs1
      by_cases hl2 : k < lb
      · obtain ⟨b2, off2, rfl, hcs2⟩ := (hb.below hB).at_ (by omega)
        have hcell2 := hcs2 k hl2
        clear hcs2
        by_cases hn : td a k - br - td b k < 0
        · have hn1 : ¬ 0 ≤ td a k - br - td b k := by omega
          go_wp2_with (at_builtin; refine wpList_app1 rfl (.tmp 35) (.tmp 37) _ (by rfl) 3 w.heap.size _ _ _ (by rfl) (hz.out.2.gr (Gr.alloc _ _)) _ _ _ (by rfl) (heap_alloc_new _ _) rfl w (hB.alloc hB.size _) (by rw [dvals_length]; omega) 8 (by decide) Tryz.underlying123 int_info rfl (by have := hB.size; simp; omega) ?_)
          intro v1 w1 hown hB1 _ _
          have hs := minus_stepx hz.out.1 hc0 hc1
          rw [if_pos (by omega)] at hs
          have hd : td (a - b) k = td a k - br - td b k + 10 := by rw [hs.1]; omega
          have HS := Lib.hid hs
          have HD := Lib.hid hd
          clear hs hd
          go_wp2
          go_roundw
          case rel =>
            refine ⟨k + 1, _, _, rfl, rfl, by go_num, by omega, by omega, by omega, ⟨HS.out.2, ?_⟩, hB1⟩
            rw [dvals_succ, HD.out]; exact hown
          case measure => simp [intOf]; omega
        · have hn1 : 0 ≤ td a k - br - td b k := by omega
          go_wp2_with (at_builtin; refine wpList_app1 rfl (.tmp 35) (.tmp 37) _ (by rfl) 3 w.heap.size _ _ _ (by rfl) (hz.out.2.gr (Gr.alloc _ _)) _ _ _ (by rfl) (heap_alloc_new _ _) rfl w (hB.alloc hB.size _) (by rw [dvals_length]; omega) 8 (by decide) Tryz.underlying123 int_info rfl (by have := hB.size; simp; omega) ?_)
          intro v1 w1 hown hB1 _ _
          have hs := minus_stepx hz.out.1 hc0 hc1
          rw [if_neg (by omega)] at hs
          have hd : td (a - b) k = td a k - br - td b k := by rw [hs.1]; omega
          have HS := Lib.hid hs
          have HD := Lib.hid hd
          clear hs hd
          go_wp2
          go_roundw
          case rel =>
            refine ⟨k + 1, _, _, rfl, rfl, by go_num, by omega, by omega, by omega, ⟨HS.out.2, ?_⟩, hB1⟩
            rw [dvals_succ, HD.out]; exact hown
          case measure => simp [intOf]; omega
      · have e0 : tn b k = 0 := tn_ge nb.top (by omega)
        have HE := Lib.hid e0
        clear e0
        by_cases hn : td a k - br < 0
        · have hn1 : ¬ 0 ≤ td a k - br := by omega
          go_wp2_with (at_builtin; refine wpList_app1 rfl (.tmp 35) (.tmp 37) _ (by rfl) 3 w.heap.size _ _ _ (by rfl) (hz.out.2.gr (Gr.alloc _ _)) _ _ _ (by rfl) (heap_alloc_new _ _) rfl w (hB.alloc hB.size _) (by rw [dvals_length]; omega) 8 (by decide) Tryz.underlying123 int_info rfl (by have := hB.size; simp; omega) ?_)
          intro v1 w1 hown hB1 _ _
          have hs := minus_step0x hz.out.1 hc0 hc1 HE.out
          rw [if_pos (by omega)] at hs
          have hd : td (a - b) k = td a k - br + 10 := by rw [hs.1]; omega
          have HS := Lib.hid hs
          have HD := Lib.hid hd
          clear hs hd
          go_wp2
          go_roundw
          case rel =>
            refine ⟨k + 1, _, _, rfl, rfl, by go_num, by omega, by omega, by omega, ⟨HS.out.2, ?_⟩, hB1⟩
            rw [dvals_succ, HD.out]; exact hown
          case measure => simp [intOf]; omega
        · have hn1 : 0 ≤ td a k - br := by omega
          go_wp2_with (at_builtin; refine wpList_app1 rfl (.tmp 35) (.tmp 37) _ (by rfl) 3 w.heap.size _ _ _ (by rfl) (hz.out.2.gr (Gr.alloc _ _)) _ _ _ (by rfl) (heap_alloc_new _ _) rfl w (hB.alloc hB.size _) (by rw [dvals_length]; omega) 8 (by decide) Tryz.underlying123 int_info rfl (by have := hB.size; simp; omega) ?_)
          intro v1 w1 hown hB1 _ _
          have hs := minus_step0x hz.out.1 hc0 hc1 HE.out
          rw [if_neg (by omega)] at hs
          have hd : td (a - b) k = td a k - br := by rw [hs.1]; omega
          have HS := Lib.hid hs
          have HD := Lib.hid hd
          clear hs hd
          go_wp2
          go_roundw
          case rel =>
            refine ⟨k + 1, _, _, rfl, rfl, by go_num, by omega, by omega, by omega, ⟨HS.out.2, ?_⟩, hB1⟩
            rw [dvals_succ, HD.out]; exact hown
          case measure => simp [intOf]; omega
    · obtain rfl : k = la := by omega
      have htop : tn (a - b) k = 0 := by
        have h1 := hz.out.1
        have h2 := na.top
        have h3 := tn_ge nb.top hlb
        have h4 := tn_nonneg (show 0 ≤ a - b by omega) k
        omega
      have HT := Lib.hid htop
      clear htop
      obtain ⟨ao1, cap1, rfl, hcap1, _, hrow1, hfr⟩ := hz.out.2.drowF
      go_wp2_with fail
      refine (r1_trim ao1 k cap1 (a - b) _ (by omega) hcap1 (by omega) HT.out hrow1).mono ?_
      rintro e w1 ⟨⟨k', rfl, hk', hnx⟩, rfl⟩
      go_wp2
      go_ret
      exact ⟨⟨_, rfl, ao1, k', cap1, rfl, by omega, hnx, hrow1.shorter hk', hfr⟩, hB⟩
end Go.Proofs.YtlcmllfacolkaaaGreatDoor
/- The reference of layer 1: the text of digits. -/
namespace Go.Proofs.YtlcmllfacolkaaaGreatDoor
open Go.RowKit

def bvals (l : List UInt8) : List Value := l.map fun c => .int .u8 (c.toNat : Int)
theorem bvals_length (l : List UInt8) : (bvals l).length = l.length := by simp [bvals]
theorem bvals_snoc (l : List UInt8) (c : UInt8) : bvals (l ++ [c]) = bvals l ++ [.int .u8 (c.toNat : Int)] := by simp [bvals]
theorem u8_info : (Tryz.prog.info? 5).map (fun i => (i.zero, i.size, i.bytes)) = some (some (.int .u8 0), 1, 1) := by kernel_rfl
theorem OwnS.conv {w : World} {B : Nat} {v : Value} {l : List UInt8} (h : OwnS w 5 B v (bvals l)) (hp : l ≠ []) :
    ∃ g cap, v = .slice (some ⟨g, 0, none⟩) l.length cap ∧ (convert 146 9 (.slice (some ⟨g, 0, none⟩) l.length cap)).run Tryz.prog w = .ok (.string ⟨l.toArray⟩) w := by
  obtain ⟨g, cap, cur, e, hb, hg, h1, h2, hc⟩ := h.cells (by rw [bvals_length]; exact List.length_pos_iff.2 hp)
  rw [bvals_length] at e h1 hc
  refine ⟨g, cap, e, run_convert_bytes_back w _ _ 5 ⟨g, 0, none⟩ cap l (by kernel_rfl) (by kernel_rfl) (by kernel_rfl) (fun j hj => ?_)⟩
  have e0 : (⟨g, 0, none⟩ : Addr).add j = ⟨g, j, none⟩ := by
    unfold Addr.add
    by_cases h0 : j = 0 <;> simp [h0]
  rw [e0, cells_of hg, hc j hj]
  simp [bvals, hj]
theorem dec_ne' (n : Nat) : Lib.decDigits n ≠ [] := fun e => by have := dec_pos n; rw [e] at this; simp at this
/-- the text of a sign and a magnitude -/
def textL (neg : Bool) (n : Nat) : List UInt8 := if n = 0 then [48] else (if neg then [45] else []) ++ Lib.decDigits n
theorem textL_itoa (neg : Bool) (n : Nat) : textL neg n = Lib.itoa (if neg then -(n : Int) else n) := by
  unfold textL
  by_cases h : n = 0
  · subst h
    rw [if_pos rfl]
    cases neg <;> exact (dec_small (u := 0) (by omega)).symm
  · rw [if_neg h]
    cases neg
    · rw [if_neg (by decide), if_neg (by decide), itoa_nonneg (by omega), Int.natAbs_natCast]; rfl
    · rw [if_pos rfl, if_pos rfl, itoa_neg (by omega)]
      simp
set_option maxRecDepth 10000 in
set_option maxHeartbeats 4000000 in
theorem r1_text (neg : Bool) (ao : Option Addr) (len cap n : Nat) (w : World) (hl : len ≤ 900001) (hcap : len ≤ cap) (h1 : tn (n : Int) len = 0) (hr : DRow w ao len (td (n : Int))) :
    Calls Tryz.prog 98 #[.bool neg, .slice ao len cap] w fun e w' => e = .returned (.string ⟨(textL neg n).toArray⟩) ∧ Below w.heap.size w w' := by
  have H1 := Lib.hid h1
  clear h1
  go_enter Tryz.func98, Tryz.ntmps98
  go_wp2_with fail
  refine (r1_trim ao len cap n _ (by omega) hcap (by omega) H1.out hr).mono ?_
  rintro e w1 ⟨⟨k, rfl, hk, hnx⟩, rfl⟩
  by_cases hk0 : k = 0
  · subst hk0
    have hn : n = 0 := by have := hnx.len_zero.1 rfl; omega
    have HN := Lib.hid hn
    clear hn
    go_wp2
    go_ret
    refine ⟨?_, Below.refl _ _⟩
    rw [textL, if_pos HN.out]
    rfl
  · have hn : 0 < n := by
      rcases Nat.eq_zero_or_pos n with e | e
      · exact absurd (hnx.len_zero.2 (by omega)) hk0
      · exact e
    have hk1 : ((k : Int) == 0) = false := by simp; omega
    have hrow := hr.shorter hk
    cases neg
    · go_wp2
      go_loopw [5, 6] (fun o i wr => ∃ (j : Nat) (v : Value), o = v ∧ i = .int .i64 ((j : Int) - 1) ∧ j ≤ k ∧ Hid (OwnS wr 5 w.heap.size v (bvals (([] : List UInt8) ++ (Lib.decDigits n).take (k - j)))) ∧ Below w.heap.size w wr) (fun _ i _ => (intOf i + 1).toNat)
      case atStart => exact ⟨k, _, rfl, rfl, Nat.le_refl _, (show OwnS _ _ _ _ (bvals ([] ++ (Lib.decDigits n).take (k - k))) by rw [Nat.sub_self]; exact OwnS.nil _ _ _), Below.refl _ _⟩
      case round =>
        obtain ⟨j, v, rfl, rfl, hj, hz, hB⟩ := hrel
        by_cases hp : 0 < j
        · obtain ⟨q, rfl⟩ : ∃ q, j = q + 1 := ⟨j - 1, by omega⟩
          have e1 : (((q + 1 : Nat) : Int) - 1) = (q : Int) := by omega
          simp only [e1]
          clear e1
          obtain ⟨b1, off1, rfl, hcs1⟩ := (hrow.below hB).at_ (by omega)
          have hcell1 := hcs1 q (by omega)
          clear hcs1
          have d0 := td_nonneg (n : Int) q
          have d1 := td_lt (n : Int) q
          have hlen : (bvals (([] : List UInt8) ++ (Lib.decDigits n).take (k - (q + 1)))).length ≤ 1000000 := by
            rw [bvals_length, List.length_append]
            have h1 := List.length_take_le (k - (q + 1)) (Lib.decDigits n)
            have h2 : (([] : List UInt8) : List UInt8).length ≤ 1 := by decide
            omega
          go_wp2_with (at_builtin; refine wpList_app1 rfl (.tmp 23) (.tmp 30) _ (by rfl) 5 w.heap.size _ _ _ (by rfl) (hz.out.gr (Gr.alloc _ _)) _ _ _ (by rfl) (heap_alloc_new _ _) rfl w (hB.alloc hB.size _) hlen 1 (by decide) Tryz.underlying146 u8_info rfl (by have := hB.size; simp; omega) ?_)
          intro v1 w1 hown hB1 _ _
          go_wp2
          go_roundw
          case rel =>
            refine ⟨q, _, rfl, rfl, by omega, ?_, hB1⟩
            have h1 := dec_take hnx hn (show k - (q + 1) < k by omega)
            rw [show k - (q + 1) + 1 = k - q by omega, show k - 1 - (k - (q + 1)) = q by omega] at h1
            rw [h1, ← List.append_assoc, bvals_snoc, td_char]
            exact hown
          case measure => simp [intOf]
        · obtain rfl : j = 0 := by omega
          have hl2 : (Lib.decDigits n).take (k - 0) = Lib.decDigits n := by
            rw [Nat.sub_zero, List.take_of_length_le (by rw [(dec_td k n hnx hn).1]; exact Nat.le_refl _)]
          have hz1 := hz.out
          rw [hl2] at hz1
          obtain ⟨l, hl⟩ : ∃ l, l = ([] : List UInt8) ++ Lib.decDigits n := ⟨_, rfl⟩
          rw [← hl] at hz1
          obtain ⟨g, cap1, rfl, hconv⟩ := hz1.conv (by rw [hl]; simp [dec_ne'])
          have HL := Lib.hid hl
          clear hl hz1 hl2
          go_wp2
          go_ret
          refine ⟨?_, hB⟩
          rw [textL, if_neg (by omega)]
          have hl := HL.out
          subst hl
          rfl
    · go_wp2_with (at_builtin; refine wpList_app1 rfl (.tmp 13) (.tmp 14) _ (by rfl) 5 w.heap.size _ _ _ (by rfl) (OwnS.nil _ _ _) _ _ _ (by rfl) (heap_alloc_new _ _) rfl w ((Below.refl _ _).alloc (Nat.le_refl _) _) (by simp) 1 (by decide) Tryz.underlying146 u8_info rfl (by simp) ?_)
      intro v0 w0 hown0 hB0 _ _
      go_wp2
      go_loopw [5, 6] (fun o i wr => ∃ (j : Nat) (v : Value), o = v ∧ i = .int .i64 ((j : Int) - 1) ∧ j ≤ k ∧ Hid (OwnS wr 5 w.heap.size v (bvals (([45] : List UInt8) ++ (Lib.decDigits n).take (k - j)))) ∧ Below w.heap.size w wr) (fun _ i _ => (intOf i + 1).toNat)
      case atStart => exact ⟨k, _, rfl, rfl, Nat.le_refl _, (show OwnS _ _ _ _ (bvals ([45] ++ (Lib.decDigits n).take (k - k))) by rw [Nat.sub_self]; exact hown0), hB0⟩
      case round =>
        obtain ⟨j, v, rfl, rfl, hj, hz, hB⟩ := hrel
        by_cases hp : 0 < j
        · obtain ⟨q, rfl⟩ : ∃ q, j = q + 1 := ⟨j - 1, by omega⟩
          have e1 : (((q + 1 : Nat) : Int) - 1) = (q : Int) := by omega
          simp only [e1]
          clear e1
          obtain ⟨b1, off1, rfl, hcs1⟩ := (hrow.below hB).at_ (by omega)
          have hcell1 := hcs1 q (by omega)
          clear hcs1
          have d0 := td_nonneg (n : Int) q
          have d1 := td_lt (n : Int) q
          have hlen : (bvals (([45] : List UInt8) ++ (Lib.decDigits n).take (k - (q + 1)))).length ≤ 1000000 := by
            rw [bvals_length, List.length_append]
            have h1 := List.length_take_le (k - (q + 1)) (Lib.decDigits n)
            have h2 : (([45] : List UInt8) : List UInt8).length ≤ 1 := by decide
            omega
          go_wp2_with (at_builtin; refine wpList_app1 rfl (.tmp 23) (.tmp 30) _ (by rfl) 5 w.heap.size _ _ _ (by rfl) (hz.out.gr (Gr.alloc _ _)) _ _ _ (by rfl) (heap_alloc_new _ _) rfl w (hB.alloc hB.size _) hlen 1 (by decide) Tryz.underlying146 u8_info rfl (by have := hB.size; simp; omega) ?_)
          intro v1 w1 hown hB1 _ _
          go_wp2
          go_roundw
          case rel =>
            refine ⟨q, _, rfl, rfl, by omega, ?_, hB1⟩
            have h1 := dec_take hnx hn (show k - (q + 1) < k by omega)
            rw [show k - (q + 1) + 1 = k - q by omega, show k - 1 - (k - (q + 1)) = q by omega] at h1
            rw [h1, ← List.append_assoc, bvals_snoc, td_char]
            exact hown
          case measure => simp [intOf]
        · obtain rfl : j = 0 := by omega
          have hl2 : (Lib.decDigits n).take (k - 0) = Lib.decDigits n := by
            rw [Nat.sub_zero, List.take_of_length_le (by rw [(dec_td k n hnx hn).1]; exact Nat.le_refl _)]
          have hz1 := hz.out
          rw [hl2] at hz1
          obtain ⟨l, hl⟩ : ∃ l, l = ([45] : List UInt8) ++ Lib.decDigits n := ⟨_, rfl⟩
          rw [← hl] at hz1
          obtain ⟨g, cap1, rfl, hconv⟩ := hz1.conv (by rw [hl]; simp)
          have HL := Lib.hid hl
          clear hl hz1 hl2
          go_wp2
          go_ret
          refine ⟨?_, hB⟩
          rw [textL, if_neg (by omega)]
          have hl := HL.out
          subst hl
          rfl
end Go.Proofs.YtlcmllfacolkaaaGreatDoor
/- The reference of layer 1: the contracts that the printed walks use. -/
namespace Go.Proofs.YtlcmllfacolkaaaGreatDoor
open Go.RowKit

theorem dec_len_sz {k : Nat} {z : Int} (h : Sz k z) : (Lib.decDigits z.natAbs).length ≤ k + 1 := dec_len_bits k _ h
theorem NX.len_bits {n len k : Nat} (h : NX (n : Int) len) (hn : n < 2 ^ k) : len ≤ k + 1 := by
  rcases Nat.eq_zero_or_pos n with e | hp
  · have := h.len_zero.2 (by omega); omega
  · have h1 := (dec_td len n h hp).1
    have h2 := dec_len_bits k n hn
    omega
theorem itoa_hd {z : Int} : (Lib.itoa z)[0]? = some 45 ↔ z < 0 := by
  constructor
  · intro h
    refine Int.lt_of_not_ge fun hz => ?_
    rw [itoa_nonneg hz] at h
    have := dec_all _ 45 (List.mem_of_getElem? h)
    simp at this
  · intro h; rw [itoa_neg h]; rfl
theorem itoa_zero : Lib.itoa 0 = [48] := dec_small (u := 0) (by omega)
theorem itoa_ne_zero {z : Int} (h : z ≠ 0) : Lib.itoa z ≠ [48] := fun e => h (itoa_inj (by rw [e, itoa_zero]))
theorem itoa_pos (z : Int) : 0 < (Lib.itoa z).length := by
  by_cases h : z < 0
  · rw [itoa_neg h]; simp
  · rw [itoa_nonneg (by omega)]; exact dec_pos _
theorem r1_sign_i (z : Int) (w : World) :
    Calls Tryz.prog 111 #[.string ⟨(Lib.itoa z).toArray⟩] w fun e w' => e = .returned (.int .i64 (sgn z)) ∧ Gr w w' := by
  by_cases h0 : z = 0
  · subst h0
    rw [itoa_zero]
    refine (r1_sign_z w).mono ?_
    rintro e w1 ⟨he, rfl⟩
    exact ⟨he, Gr.refl _⟩
  · have hb : ((⟨(Lib.itoa z).toArray⟩ : ByteArray).toList == [48]) = false := by
      rw [beq_eq_false_iff_ne, ByteArray.toList_eq]
      exact itoa_ne_zero h0
    have hp : 0 < (⟨(Lib.itoa z).toArray⟩ : ByteArray).size := by
      show 0 < (Lib.itoa z).toArray.size
      simpa using itoa_pos z
    obtain ⟨c, hc⟩ : ∃ c, (Lib.itoa z)[0]? = some c := ⟨_, List.getElem?_eq_getElem (itoa_pos z)⟩
    have hs0 : (⟨(Lib.itoa z).toArray⟩ : ByteArray)[0] = c := getElem_toList (by simp) hp hc
    by_cases hz : z < 0
    · have h1 := itoa_hd.2 hz
      rw [hc] at h1
      obtain rfl := Option.some.inj h1
      refine (r1_sign_n _ w hb hp (by rw [hs0]; rfl)).mono ?_
      rintro e w1 ⟨he, rfl⟩
      exact ⟨by rw [he, sgn_neg hz], Gr.refl _⟩
    · have h1 : c ≠ 45 := fun e => hz (itoa_hd.1 (by rw [hc, e]))
      refine (r1_sign_p _ w hb hp (by
        rw [hs0, beq_eq_false_iff_ne]
        intro e
        exact h1 (by rw [← UInt8.toNat_inj]; have : (45 : UInt8).toNat = 45 := rfl; omega))).mono ?_
      rintro e w1 ⟨he, rfl⟩
      exact ⟨by rw [he, sgn_pos (by omega)], Gr.refl _⟩
theorem r1_digits_i {k : Nat} (z : Int) (hz : Sz k z) (hk : k ≤ 800000) (w : World) :
    Calls Tryz.prog 110 #[.string ⟨(Lib.itoa z).toArray⟩] w fun e w' => (∃ v, e = .returned v ∧ TenS w' v (z.natAbs : Int)) ∧ Gr w w' :=
  r1_digits (decide (z < 0)) z.natAbs _ w (by
    by_cases h : z < 0
    · simp [h, itoa_neg h]
    · simp [h, itoa_nonneg (show 0 ≤ z by omega)]) (by have := dec_len_sz hz; omega)
theorem TenS.len {w : World} {v : Value} {n k : Nat} (h : TenS w v (n : Int)) (hn : n < 2 ^ k) : ∃ ao len cap, v = .slice ao len cap ∧ len ≤ cap ∧ NX (n : Int) len ∧ DRow w ao len (td (n : Int)) ∧ len ≤ k + 1 := by
  obtain ⟨ao, len, cap, h1, h2, h3, h4⟩ := h
  exact ⟨ao, len, cap, h1, h2, h3, h4, h3.len_bits hn⟩
theorem r1_order_i {k m a b : Nat} {x y : Value} {w : World} (ha : TenS w x (a : Int)) (hb : TenS w y (b : Int)) (h1 : a < 2 ^ k) (h2 : b < 2 ^ m) (hk : k + m ≤ 800000) :
    Calls Tryz.prog 132 #[x, y] w fun e w' => e = .returned (.int .i64 (sgn ((a : Int) - (b : Int)))) ∧ Gr w w' := by
  obtain ⟨ao, la, ca, rfl, c1, n1, r1, l1⟩ := ha.len h1
  obtain ⟨bo, lb, cb, rfl, c2, n2, r2, l2⟩ := hb.len h2
  exact r1_order ao bo la lb ca cb a b w (by omega) (by omega) n1 r1 n2 r2
theorem r1_minus_i {k a b : Nat} {x y : Value} {w : World} (ha : TenS w x (a : Int)) (hb : TenS w y (b : Int)) (h1 : a < 2 ^ k) (hba : b ≤ a) (hk : k ≤ 800000) :
    Calls Tryz.prog 133 #[x, y] w fun e w' => (∃ v, e = .returned v ∧ TenS w' v ((a - b : Nat) : Int)) ∧ Gr w w' := by
  obtain ⟨ao, la, ca, rfl, c1, n1, r1, l1⟩ := ha.len h1
  obtain ⟨bo, lb, cb, rfl, c2, n2, r2, l2⟩ := hb.len (Nat.lt_of_le_of_lt hba h1)
  rw [Int.ofNat_sub hba]
  refine (r1_minus ao bo la lb ca cb a b w (by omega) (by omega) n1 r1 n2 r2).mono ?_
  rintro e w1 ⟨⟨v, he, hv⟩, g⟩
  exact ⟨⟨v, he, hv.s⟩, g⟩
theorem r1_minus_f {k a b : Nat} {x y : Value} {w : World} (ha : TenS w x (a : Int)) (hb : TenS w y (b : Int)) (h1 : a < 2 ^ k) (hba : b ≤ a) (hk : k ≤ 800000) :
    Calls Tryz.prog 133 #[x, y] w fun e w' => (∃ v, e = .returned v ∧ TenF w' w.heap.size v ((a - b : Nat) : Int)) ∧ Gr w w' := by
  obtain ⟨ao, la, ca, rfl, c1, n1, r1, l1⟩ := ha.len h1
  obtain ⟨bo, lb, cb, rfl, c2, n2, r2, l2⟩ := hb.len (Nat.lt_of_le_of_lt hba h1)
  rw [Int.ofNat_sub hba]
  exact r1_minus ao bo la lb ca cb a b w (by omega) (by omega) n1 r1 n2 r2
theorem r1_plus_i {k m a b : Nat} {x y : Value} {w : World} (ha : TenS w x (a : Int)) (hb : TenS w y (b : Int)) (h1 : a < 2 ^ k) (h2 : b < 2 ^ m) (hk : k + m ≤ 800000) :
    Calls Tryz.prog 131 #[x, y] w fun e w' => (∃ v, e = .returned v ∧ TenZ w' v ((a + b : Nat) : Int)) ∧ Gr w w' := by
  obtain ⟨ao, la, ca, rfl, c1, n1, r1, l1⟩ := ha.len h1
  obtain ⟨bo, lb, cb, rfl, c2, n2, r2, l2⟩ := hb.len h2
  rw [Int.natCast_add]
  exact r1_plus ao bo la lb ca cb a b w (by omega) (by omega) n1 r1 n2 r2
theorem r1_text_z (neg : Bool) {n : Nat} {v : Value} {w : World} (h : TenZ w v (n : Int)) :
    Calls Tryz.prog 98 #[.bool neg, v] w fun e w' => e = .returned (.string ⟨(textL neg n).toArray⟩) ∧ Gr w w' := by
  obtain ⟨ao, len, cap, rfl, h1, h2, h3, h4⟩ := h
  exact r1_text neg ao len cap n w h2 h1 h3 h4
theorem r1_text_s {k : Nat} (neg : Bool) {n : Nat} {v : Value} {w : World} (h : TenS w v (n : Int)) (hn : n < 2 ^ k) (hk : k ≤ 800000) :
    Calls Tryz.prog 98 #[.bool neg, v] w fun e w' => e = .returned (.string ⟨(textL neg n).toArray⟩) ∧ Gr w w' := by
  obtain ⟨ao, len, cap, rfl, h1, h2, h3, h4⟩ := h.len hn
  exact r1_text neg ao len cap n w (by omega) h1 h2.top h3
theorem text_abs {n : Nat} {z : Int} {neg : Bool} (h : neg = true ∧ z = -(n : Int) ∨ neg = false ∧ z = n) : textL neg n = Lib.itoa z := by
  rw [textL_itoa]
  rcases h with ⟨rfl, rfl⟩ | ⟨rfl, rfl⟩
  · rfl
  · rfl
theorem rv_seq {P : Program} {a : Act} {o : Oper} {w : World} (t t2 : TypeId) (x y : Operand) (A B : List UInt8) (hop : o.op = .binOp .eql t x y t2) (hx : a.eval x = .string ⟨A.toArray⟩) (hy : a.eval y = .string ⟨B.toArray⟩) : RunV P a o w (.bool (A == B)) := by
  unfold RunV execOp
  simp only [hop, hx, hy]
  simp [go_sem, eqGuard, ByteArray.toList_eq]
theorem rv_sne {P : Program} {a : Act} {o : Oper} {w : World} (t t2 : TypeId) (x y : Operand) (A B : List UInt8) (hop : o.op = .binOp .neq t x y t2) (hx : a.eval x = .string ⟨A.toArray⟩) (hy : a.eval y = .string ⟨B.toArray⟩) : RunV P a o w (.bool (A != B)) := by
  unfold RunV execOp
  simp only [hop, hx, hy]
  simp [go_sem, eqGuard, ByteArray.toList_eq, bne]
theorem text_neg (z : Int) : textL (decide (0 < sgn z)) z.natAbs = Lib.itoa (-z) := by
  apply text_abs
  unfold sgn
  by_cases h : z < 0
  · right; simp [h]; omega
  · by_cases h0 : z = 0
    · right; simp [h0]
    · left; simp [h, h0]; omega
theorem sgn_lt {z : Int} : decide (sgn z < 0) = decide (z < 0) := by
  unfold sgn
  by_cases h : z < 0
  · simp [h]
  · by_cases h0 : z = 0 <;> simp [h, h0]
theorem sgn_ge {z : Int} : decide (0 ≤ sgn z) = decide (0 ≤ z) := by
  unfold sgn
  by_cases h : z < 0
  · simp [h]
  · by_cases h0 : z = 0 <;> simp [h, h0] <;> omega
theorem text_dec {z u : Int} {N : Nat} (h : (u < 0 → z = -(N : Int)) ∧ (¬ u < 0 → z = N)) : textL (decide (sgn u < 0)) N = Lib.itoa z := by
  rw [sgn_lt]
  apply text_abs
  by_cases hu : u < 0
  · exact .inl ⟨by simpa using hu, h.1 hu⟩
  · exact .inr ⟨by simpa using hu, h.2 hu⟩
theorem sgn_cases (z : Int) : z < 0 ∧ sgn z = -1 ∨ z = 0 ∧ sgn z = 0 ∨ 0 < z ∧ sgn z = 1 := by
  unfold sgn
  by_cases h : z < 0
  · left; simp [h]
  · by_cases h0 : z = 0
    · right; left; simp [h0]
    · right; right; simp [h, h0]; omega
end Go.Proofs.YtlcmllfacolkaaaGreatDoor
/- Printed by a program of the prover's: the reference of layer 1: sums, comparisons. -/
namespace Go.Proofs.YtlcmllfacolkaaaGreatDoor
open Go.RowKit

set_option maxRecDepth 100000 in
set_option maxHeartbeats 1000000 in
theorem r1_neg {k : Nat} (x : Int) (hx : Sz k x) (_hk : k ≤ 700000) (w : World) :
    Calls Tryz.prog 116 #[(.string ⟨(Lib.itoa (x) : List UInt8).toArray⟩)] w fun e w' => e = .returned (.string ⟨(Lib.itoa (-x)).toArray⟩) ∧ Gr w w' := by
 go_enter Tryz.func116, Tryz.ntmps116
 have hB := Gr.refl w
 refine wp_seq_k (fun K1 k1 => ?_)
 refine rg [0] ?_
 refine sv 2 (.string ⟨([] : List UInt8).toArray⟩) ?_
 simp only [p3, p4]
 refine sq_nil ?_
 refine k1 _ _ ?_
 try clear k1 K1
 refine wp_seq_k (fun K2 k2 => ?_)
 refine rg [0, 1, 2, 3, 4, 5, 6] ?_
 refine sv 3 (.string ⟨(Lib.itoa (x) : List UInt8).toArray⟩) ?_
 simp only [p3, p4]
 refine se ?_
 refine ec 4 (r1_sign_i (x) _) ?_
 rintro e3 w3 ⟨rfl, g3⟩
 refine ⟨_, rfl, ?_⟩
 replace hB := hB.trans g3
 simp only [p3, p4]
 refine sv 5 (.bool (decide ((0 : Int) < sgn (x)))) ?_
 simp only [p3, p4]
 refine sv 6 (.string ⟨(Lib.itoa (x) : List UInt8).toArray⟩) ?_
 simp only [p3, p4]
 refine se ?_
 refine ec 7 (r1_digits_i (x) hx (by omega) _) ?_
 rintro e4 w4 ⟨⟨v4, rfl, h4⟩, g4⟩
 refine ⟨_, rfl, ?_⟩
 replace hB := hB.trans g4
 simp only [p3, p4]
 refine se ?_
 refine ec 8 (r1_text_s (decide ((0 : Int) < sgn (x))) h4 hx (by omega)) ?_
 rintro e5 w5 ⟨rfl, g5⟩
 refine ⟨_, rfl, ?_⟩
 replace hB := hB.trans g5
 simp only [p3, p4]
 refine sv 2 (.string ⟨(textL (decide ((0 : Int) < sgn (x))) ((x).natAbs) : List UInt8).toArray⟩) ?_
 simp only [p3, p4]
 refine sq_nil ?_
 refine k2 _ _ ?_
 try clear k2 K2
 refine wp_ret ?_
 refine bodyPost_ret (v := (.string ⟨(textL (decide ((0 : Int) < sgn (x))) ((x).natAbs) : List UInt8).toArray⟩)) (ret_tmp rfl rfl) rfl ⟨?_, hB⟩
 exact (by rw [text_neg])

set_option maxRecDepth 100000 in
set_option maxHeartbeats 4000000 in
theorem r1_add {k m : Nat} (x y : Int) (hx : Sz k x) (hy : Sz m y) (_hk : k + m ≤ 700000) (w : World) :
    Calls Tryz.prog 105 #[(.string ⟨(Lib.itoa (x) : List UInt8).toArray⟩), (.string ⟨(Lib.itoa (y) : List UInt8).toArray⟩)] w fun e w' => e = .returned (.string ⟨(Lib.itoa (x + y)).toArray⟩) ∧ Gr w w' := by
 go_enter Tryz.func105, Tryz.ntmps105
 have hB := Gr.refl w
 refine wp_seq_k (fun K1 k1 => ?_)
 refine rg [0] ?_
 refine sv 4 (.string ⟨([] : List UInt8).toArray⟩) ?_
 simp only [p3, p4]
 refine sq_nil ?_
 refine k1 _ _ ?_
 try clear k1 K1
 refine wp_seq_k (fun K2 k2 => ?_)
 refine rg [0, 1, 2, 3, 4, 5] ?_
 refine sv 7 (.string ⟨(Lib.itoa (x) : List UInt8).toArray⟩) ?_
 simp only [p3, p4]
 refine se ?_
 refine ec 8 (r1_digits_i (x) hx (by omega) _) ?_
 rintro e3 w3 ⟨⟨v3, rfl, h3⟩, g3⟩
 refine ⟨_, rfl, ?_⟩
 replace hB := hB.trans g3
 simp only [p3, p4]
 refine sv 9 (.string ⟨(Lib.itoa (y) : List UInt8).toArray⟩) ?_
 simp only [p3, p4]
 refine se ?_
 refine ec 10 (r1_digits_i (y) hy (by omega) _) ?_
 rintro e4 w4 ⟨⟨v4, rfl, h4⟩, g4⟩
 refine ⟨_, rfl, ?_⟩
 replace hB := hB.trans g4
 simp only [p3, p4]
 refine sv 5 v3 ?_
 simp only [p3, p4]
 refine sv 6 v4 ?_
 simp only [p3, p4]
 refine sq_nil ?_
 refine k2 _ _ ?_
 try clear k2 K2
 refine wp_seq_k (fun K5 k5 => ?_)
 refine wp_seq_k (fun K6 k6 => ?_)
 refine rg [0, 1, 2, 3, 4, 5, 6] ?_
 refine sv 11 (.string ⟨(Lib.itoa (x) : List UInt8).toArray⟩) ?_
 simp only [p3, p4]
 refine se ?_
 refine ec 12 (r1_sign_i (x) _) ?_
 rintro e7 w7 ⟨rfl, g7⟩
 refine ⟨_, rfl, ?_⟩
 replace hB := hB.trans g7
 simp only [p3, p4]
 refine sv 13 (.bool (decide (sgn (x) < (0 : Int)))) ?_
 simp only [p3, p4]
 refine sv 14 (.string ⟨(Lib.itoa (y) : List UInt8).toArray⟩) ?_
 simp only [p3, p4]
 refine se ?_
 refine ec 15 (r1_sign_i (y) _) ?_
 rintro e8 w8 ⟨rfl, g8⟩
 refine ⟨_, rfl, ?_⟩
 replace hB := hB.trans g8
 simp only [p3, p4]
 refine sv 16 (.bool (decide (sgn (y) < (0 : Int)))) ?_
 simp only [p3, p4]
 refine sv 17 (.bool (((decide (sgn (x) < (0 : Int))) == (decide (sgn (y) < (0 : Int)))))) ?_
 simp only [p3, p4]
 refine sq_nil ?_
 refine k6 _ _ ?_
 try clear k6 K6
 refine wp_cond_split (t := ((decide (sgn (x) < (0 : Int))) == (decide (sgn (y) < (0 : Int))))) rfl (fun hb9 => ?_) (fun hb9 => ?_)
 ·have hq9 : (x < 0 ↔ y < 0) := by rw [sgn_lt, sgn_lt] at hb9; simpa using hb9
  refine wp_seq_k (fun K10 k10 => ?_)
  refine rg [0, 1, 2, 3, 4, 5, 6, 7] ?_
  refine sv 18 (.string ⟨(Lib.itoa (x) : List UInt8).toArray⟩) ?_
  simp only [p3, p4]
  refine se ?_
  refine ec 19 (r1_sign_i (x) _) ?_
  rintro e11 w11 ⟨rfl, g11⟩
  refine ⟨_, rfl, ?_⟩
  replace hB := hB.trans g11
  simp only [p3, p4]
  refine sv 20 (.bool (decide (sgn (x) < (0 : Int)))) ?_
  simp only [p3, p4]
  refine sv 21 v3 ?_
  simp only [p3, p4]
  refine sv 22 v4 ?_
  simp only [p3, p4]
  refine se ?_
  replace h3 := h3.gr (g4.trans (g7.trans (g8.trans g11)))
  replace h4 := h4.gr (g7.trans (g8.trans g11))
  refine ec 23 (r1_plus_i h3 h4 hx hy (by omega)) ?_
  rintro e12 w12 ⟨⟨v12, rfl, h12⟩, g12⟩
  refine ⟨_, rfl, ?_⟩
  replace hB := hB.trans g12
  simp only [p3, p4]
  refine se ?_
  refine ec 24 (r1_text_z (decide (sgn (x) < (0 : Int))) h12) ?_
  rintro e13 w13 ⟨rfl, g13⟩
  refine ⟨_, rfl, ?_⟩
  replace hB := hB.trans g13
  simp only [p3, p4]
  refine sv 4 (.string ⟨(textL (decide (sgn (x) < (0 : Int))) (((x).natAbs + (y).natAbs)) : List UInt8).toArray⟩) ?_
  simp only [p3, p4]
  refine sq_nil ?_
  refine k10 _ _ ?_
  try clear k10 K10
  refine wp_ret ?_
  simp only [Exit.then]
  refine bodyPost_ret (v := (.string ⟨(textL (decide (sgn (x) < (0 : Int))) (((x).natAbs + (y).natAbs)) : List UInt8).toArray⟩)) (ret_tmp rfl rfl) rfl ⟨?_, hB⟩
  exact (by rw [text_dec (z := x + y) (by omega)])
 ·have hq9 : ¬ (x < 0 ↔ y < 0) := by rw [sgn_lt, sgn_lt] at hb9; simpa using hb9
  refine wp_skip ?_
  refine k5 _ _ ?_
  try clear k5 K5
  refine wp_seq_k (fun K14 k14 => ?_)
  refine wp_seq_k (fun K15 k15 => ?_)
  refine rg [0, 1, 2, 3] ?_
  refine sv 25 v3 ?_
  simp only [p3, p4]
  refine sv 26 v4 ?_
  simp only [p3, p4]
  refine se ?_
  replace h3 := h3.gr (g4.trans (g7.trans g8))
  replace h4 := h4.gr (g7.trans g8)
  refine ec 27 (r1_order_i h3 h4 hx hy (by omega)) ?_
  rintro e16 w16 ⟨rfl, g16⟩
  refine ⟨_, rfl, ?_⟩
  replace hB := hB.trans g16
  simp only [p3, p4]
  refine sv 28 (.bool (decide ((0 : Int) ≤ sgn (((x).natAbs : Int) - ((y).natAbs : Int))))) ?_
  simp only [p3, p4]
  refine sq_nil ?_
  refine k15 _ _ ?_
  try clear k15 K15
  refine wp_cond_split (t := decide ((0 : Int) ≤ sgn (((x).natAbs : Int) - ((y).natAbs : Int)))) rfl (fun hb17 => ?_) (fun hb17 => ?_)
  ·have hq17 : y.natAbs ≤ x.natAbs := by rw [sgn_ge] at hb17; have := of_decide_eq_true hb17; omega
   refine wp_seq_k (fun K18 k18 => ?_)
   refine rg [0, 1, 2, 3, 4, 5, 6, 7] ?_
   refine sv 29 (.string ⟨(Lib.itoa (x) : List UInt8).toArray⟩) ?_
   simp only [p3, p4]
   refine se ?_
   refine ec 30 (r1_sign_i (x) _) ?_
   rintro e19 w19 ⟨rfl, g19⟩
   refine ⟨_, rfl, ?_⟩
   replace hB := hB.trans g19
   simp only [p3, p4]
   refine sv 31 (.bool (decide (sgn (x) < (0 : Int)))) ?_
   simp only [p3, p4]
   refine sv 32 v3 ?_
   simp only [p3, p4]
   refine sv 33 v4 ?_
   simp only [p3, p4]
   refine se ?_
   replace h3 := h3.gr (g16.trans g19)
   replace h4 := h4.gr (g16.trans g19)
   refine ec 34 (r1_minus_i h3 h4 hx (by omega) (by omega)) ?_
   rintro e20 w20 ⟨⟨v20, rfl, h20⟩, g20⟩
   refine ⟨_, rfl, ?_⟩
   replace hB := hB.trans g20
   simp only [p3, p4]
   refine se ?_
   refine ec 35 (r1_text_s (decide (sgn (x) < (0 : Int))) h20 (Nat.lt_of_le_of_lt (Nat.sub_le _ _) hx) (by omega)) ?_
   rintro e21 w21 ⟨rfl, g21⟩
   refine ⟨_, rfl, ?_⟩
   replace hB := hB.trans g21
   simp only [p3, p4]
   refine sv 4 (.string ⟨(textL (decide (sgn (x) < (0 : Int))) (((x).natAbs - (y).natAbs)) : List UInt8).toArray⟩) ?_
   simp only [p3, p4]
   refine sq_nil ?_
   refine k18 _ _ ?_
   try clear k18 K18
   refine wp_ret ?_
   simp only [Exit.then]
   refine bodyPost_ret (v := (.string ⟨(textL (decide (sgn (x) < (0 : Int))) (((x).natAbs - (y).natAbs)) : List UInt8).toArray⟩)) (ret_tmp rfl rfl) rfl ⟨?_, hB⟩
   exact (by rw [text_dec (z := x + y) (by omega)])
  ·have hq17 : x.natAbs ≤ y.natAbs := by rw [sgn_ge] at hb17; have := of_decide_eq_false hb17; omega
   refine wp_skip ?_
   refine k14 _ _ ?_
   try clear k14 K14
   refine wp_seq_k (fun K22 k22 => ?_)
   refine rg [0, 1, 2, 3, 4, 5, 6, 7] ?_
   refine sv 36 (.string ⟨(Lib.itoa (y) : List UInt8).toArray⟩) ?_
   simp only [p3, p4]
   refine se ?_
   refine ec 37 (r1_sign_i (y) _) ?_
   rintro e23 w23 ⟨rfl, g23⟩
   refine ⟨_, rfl, ?_⟩
   replace hB := hB.trans g23
   simp only [p3, p4]
   refine sv 38 (.bool (decide (sgn (y) < (0 : Int)))) ?_
   simp only [p3, p4]
   refine sv 39 v4 ?_
   simp only [p3, p4]
   refine sv 40 v3 ?_
   simp only [p3, p4]
   refine se ?_
   replace h4 := h4.gr (g16.trans g23)
   replace h3 := h3.gr (g16.trans g23)
   refine ec 41 (r1_minus_i h4 h3 hy (by omega) (by omega)) ?_
   rintro e24 w24 ⟨⟨v24, rfl, h24⟩, g24⟩
   refine ⟨_, rfl, ?_⟩
   replace hB := hB.trans g24
   simp only [p3, p4]
   refine se ?_
   refine ec 42 (r1_text_s (decide (sgn (y) < (0 : Int))) h24 (Nat.lt_of_le_of_lt (Nat.sub_le _ _) hy) (by omega)) ?_
   rintro e25 w25 ⟨rfl, g25⟩
   refine ⟨_, rfl, ?_⟩
   replace hB := hB.trans g25
   simp only [p3, p4]
   refine sv 4 (.string ⟨(textL (decide (sgn (y) < (0 : Int))) (((y).natAbs - (x).natAbs)) : List UInt8).toArray⟩) ?_
   simp only [p3, p4]
   refine sq_nil ?_
   refine k22 _ _ ?_
   try clear k22 K22
   refine wp_ret ?_
   refine bodyPost_ret (v := (.string ⟨(textL (decide (sgn (y) < (0 : Int))) (((y).natAbs - (x).natAbs)) : List UInt8).toArray⟩)) (ret_tmp rfl rfl) rfl ⟨?_, hB⟩
   exact (by rw [text_dec (z := x + y) (by omega)])

set_option maxRecDepth 100000 in
set_option maxHeartbeats 1000000 in
theorem r1_sub {k m : Nat} (x y : Int) (hx : Sz k x) (hy : Sz m y) (_hk : k + m ≤ 700000) (w : World) :
    Calls Tryz.prog 138 #[(.string ⟨(Lib.itoa (x) : List UInt8).toArray⟩), (.string ⟨(Lib.itoa (y) : List UInt8).toArray⟩)] w fun e w' => e = .returned (.string ⟨(Lib.itoa (x - y)).toArray⟩) ∧ Gr w w' := by
 go_enter Tryz.func138, Tryz.ntmps138
 have hB := Gr.refl w
 refine wp_seq_k (fun K1 k1 => ?_)
 refine rg [0] ?_
 refine sv 4 (.string ⟨([] : List UInt8).toArray⟩) ?_
 simp only [p3, p4]
 refine sq_nil ?_
 refine k1 _ _ ?_
 try clear k1 K1
 refine wp_seq_k (fun K2 k2 => ?_)
 refine rg [0, 1, 2, 3, 4] ?_
 refine sv 5 (.string ⟨(Lib.itoa (x) : List UInt8).toArray⟩) ?_
 simp only [p3, p4]
 refine sv 6 (.string ⟨(Lib.itoa (y) : List UInt8).toArray⟩) ?_
 simp only [p3, p4]
 refine se ?_
 refine ec 7 (r1_neg (y) hy (by omega) _) ?_
 rintro e3 w3 ⟨rfl, g3⟩
 refine ⟨_, rfl, ?_⟩
 replace hB := hB.trans g3
 simp only [p3, p4]
 refine se ?_
 refine ec 8 (r1_add (x) ((-y)) hx hy.neg (by omega) _) ?_
 rintro e4 w4 ⟨rfl, g4⟩
 refine ⟨_, rfl, ?_⟩
 replace hB := hB.trans g4
 simp only [p3, p4]
 refine sv 4 (.string ⟨(Lib.itoa ((x + (-y))) : List UInt8).toArray⟩) ?_
 simp only [p3, p4]
 refine sq_nil ?_
 refine k2 _ _ ?_
 try clear k2 K2
 refine wp_ret ?_
 refine bodyPost_ret (v := (.string ⟨(Lib.itoa ((x + (-y))) : List UInt8).toArray⟩)) (ret_tmp rfl rfl) rfl ⟨?_, hB⟩
 exact (by rw [Int.sub_eq_add_neg])

end Go.Proofs.YtlcmllfacolkaaaGreatDoor
/- The reference of layer 1: the product. -/
namespace Go.Proofs.YtlcmllfacolkaaaGreatDoor
open Go.RowKit

theorem mul_nextx (a b : Int) (i : Nat) : tlow a i * b + td a i * b * 10 ^ i = tlow a (i + 1) * b := by rw [tlow_succ]; grind
theorem sgn_mul (x y : Int) : decide (sgn x * sgn y < 0) = decide (x < 0 ∧ 0 < y ∨ 0 < x ∧ y < 0) := by
  rcases sgn_cases x with ⟨h1, e1⟩ | ⟨h1, e1⟩ | ⟨h1, e1⟩ <;> rcases sgn_cases y with ⟨h2, e2⟩ | ⟨h2, e2⟩ | ⟨h2, e2⟩ <;> rw [e1, e2] <;> rw [Bool.eq_iff_iff] <;> simp <;> omega
theorem sgn_mul_le (x y : Int) : -1 ≤ sgn x * sgn y ∧ sgn x * sgn y ≤ 1 := by
  rcases sgn_cases x with ⟨h1, e1⟩ | ⟨h1, e1⟩ | ⟨h1, e1⟩ <;> rcases sgn_cases y with ⟨h2, e2⟩ | ⟨h2, e2⟩ | ⟨h2, e2⟩ <;> rw [e1, e2] <;> decide
theorem text_mul (x y : Int) : textL (decide (sgn x * sgn y < 0)) (x.natAbs * y.natAbs) = Lib.itoa (x * y) := by
  apply text_abs
  rw [sgn_mul]
  rcases Int.natAbs_eq x with hx | hx <;> rcases Int.natAbs_eq y with hy | hy
  · right
    refine ⟨by simp; omega, ?_⟩
    rw [Int.natCast_mul]
    conv => lhs; rw [hx, hy]
  · by_cases h0 : 0 < x ∧ y < 0
    · left
      refine ⟨by simp; omega, ?_⟩
      rw [Int.natCast_mul]
      conv => lhs; rw [hx, hy]
      rw [Int.mul_neg]
    · right
      refine ⟨by simp; omega, ?_⟩
      rcases (show x = 0 ∨ y = 0 by omega) with h | h <;> subst h <;> simp
  · by_cases h0 : x < 0 ∧ 0 < y
    · left
      refine ⟨by simp; omega, ?_⟩
      rw [Int.natCast_mul]
      conv => lhs; rw [hx, hy]
      rw [Int.neg_mul]
    · right
      refine ⟨by simp; omega, ?_⟩
      rcases (show x = 0 ∨ y = 0 by omega) with h | h <;> subst h <;> simp
  · right
    refine ⟨by simp; omega, ?_⟩
    rw [Int.natCast_mul]
    conv => lhs; rw [hx, hy]
    rw [Int.neg_mul_neg]
set_option maxRecDepth 100000 in
set_option maxHeartbeats 4000000 in
theorem r1_mul {k m : Nat} (x y : Int) (hx : Sz k x) (hy : Sz m y) (hk : k + m ≤ 700000) (w : World) :
    Calls Tryz.prog 82 #[.string ⟨(Lib.itoa x).toArray⟩, .string ⟨(Lib.itoa y).toArray⟩] w fun e w' => e = .returned (.string ⟨(Lib.itoa (x * y)).toArray⟩) ∧ Gr w w' := by
  have hfin := text_mul x y
  have HFin := Lib.hid hfin
  clear hfin
  go_enter Tryz.func82, Tryz.ntmps82
  go_wp2_with fail
  refine (r1_digits_i x hx (by omega) _).mono ?_
  rintro e w1 ⟨⟨v1, rfl, hv1⟩, g1⟩
  obtain ⟨ao, la, ca, rfl, c1, n1, r1, l1⟩ := hv1.len hx
  go_wp2_with fail
  refine (r1_digits_i y hy (by omega) _).mono ?_
  rintro e w2 ⟨⟨v2, rfl, hv2⟩, g2⟩
  obtain ⟨bo, lb, cb, rfl, c2, n2, r2, l2⟩ := hv2.len hy
  have r1 := r1.gr g2
  have g12 := g1.trans g2
  clear hv1 hv2
  obtain ⟨a, ha⟩ : ∃ a : Int, a = (x.natAbs : Int) := ⟨_, rfl⟩
  obtain ⟨b, hb⟩ : ∃ b : Int, b = (y.natAbs : Int) := ⟨_, rfl⟩
  rw [← ha] at n1 r1
  rw [← hb] at n2 r2
  have HA := Lib.hid ha
  have HB := Lib.hid hb
  clear ha hb
  go_wp2_with (at_make; refine wpList_makeI _ rfl _ _ rfl _ _ (la + lb + 1) rfl rfl (by omega) (by omega) (by omega) ?_)
  intro w3 hO hB0 hsz
  have hO1 := hO
  clear hO hsz
  go_wp2
  go_loopw [8] (fun i wr => ∃ (k : Nat) (d : Nat → Int), k ≤ la ∧ i = .int .i64 k ∧ DOwn wr w2.heap.size (la + lb + 1) d ∧ Below w2.heap.size w2 wr ∧ Hid (∀ j, j < la + lb + 1 → d j = td (tlow a k * b) j) ∧ Hid (tn (tlow a k * b) (k + lb) = 0)) (fun i _ => la - (intOf i).toNat)
  case atStart => exact ⟨0, _, Nat.zero_le _, rfl, hO1, hB0, fun j _ => by rw [tlow_zero, Int.zero_mul]; unfold td; rw [tn_zero_n]; rfl, by rw [Hid, tlow_zero, Int.zero_mul, tn_zero_n]⟩
  case round =>
    obtain ⟨k, d, hk, rfl, hO, hB, hd, htop⟩ := hrel
    by_cases hlt : k < la
    · have x0 := td_nonneg a k
      have x1 := td_lt a k
      go_wp2
      obtain ⟨wo, hwo⟩ : ∃ wo : World, wo = wr := ⟨_, rfl⟩
      subst hwo
      go_loopw [9, 10] (fun c i wr => ∃ (j : Nat) (cr : Int) (e : Nat → Int), j ≤ lb + 1 ∧ i = .int .i64 j ∧ c = .int .i64 cr ∧ 0 ≤ cr ∧ cr < 10 ∧ DOwn wr w2.heap.size (la + lb + 1) e ∧ Below w2.heap.size w2 wr ∧
        Hid ((j = lb + 1 → cr = 0) ∧ tn (tlow a k * b + td a k * b * 10 ^ k) (k + j) = tn (tlow a k * b) (k + j) + td a k * tn b j + cr) ∧
        Hid (∀ i, i < la + lb + 1 → e i = if i < k + j then td (tlow a k * b + td a k * b * 10 ^ k) i else td (tlow a k * b) i)) (fun _ i _ => lb + 1 - (intOf i).toNat)
      case atStart =>
        refine ⟨0, 0, d, Nat.zero_le _, rfl, rfl, by omega, by omega, hO, hB, ⟨by omega, ?_⟩, fun i hi => ?_⟩
        · rw [Nat.add_zero, tn_addmul, tn_zero]; omega
        · rw [hd.out i hi, Nat.add_zero]
          split
          · rw [td_addmul _ _ (by assumption)]
          · rfl
      case round =>
        obtain ⟨j, cr, e, hj, rfl, rfl, hc0, hc1, hO2, hB2, hz, he⟩ := hrel
        have hs := mul_stepx hz.out.2 hc0 hc1 x0 x1
        have HS := Lib.hid hs
        have hj2 : j = lb + 1 → cr = 0 := hz.out.1
        by_cases hlt2 : j < lb
        · obtain ⟨b1, off1, rfl, hcs1⟩ := (r1.below hB2).at_ (by omega)
          have hcell1 := hcs1 k hlt
          obtain ⟨b2, off2, rfl, hcs2⟩ := (r2.below hB2).at_ (by omega)
          have hcell2 := hcs2 j hlt2
          have y0 := td_nonneg b j
          have y1 := td_lt b j
          have z0 := hs.2.2.2.2.1
          have z1 := hs.2.2.2.2.2
          clear hcs1 hcs2 hs
          have hcell3 := hO2.cell (k + j) (by omega)
          have hfree := hO2.free (k + j)
          have e1 := he.out (k + j) (by omega)
          rw [if_neg (by omega)] at e1
          rw [e1] at hcell3
          have t0 := td_nonneg (tlow a k * b) (k + j)
          have t1 := td_lt (tlow a k * b) (k + j)
          clear e1 hj2
          have i0 : (0 : Int) ≤ (k : Int) := by omega
          have i1 : (k : Int) < (la : Int) := by omega
          have i2 : (0 : Int) ≤ (j : Int) := by omega
          have i3 : (j : Int) < (lb : Int) := by omega
          go_wp2
          go_quiet (fail)
          go_wp2
          have hs := HS.out
          have e2 : td (tlow a k * b) (k + j) + cr + td a k * td b j = cr + (td a k * td b j + td (tlow a k * b) (k + j)) := by omega
          go_roundw
          case rel =>
            refine ⟨j + 1, (cr + (td a k * td b j + td (tlow a k * b) (k + j))) / 10, _, by omega, by go_num, by rw [e2], hs.2.2.1, hs.2.2.2.1, (hO2.gr ((Below.refl _ _).drewN _)).set (by omega) _, (hB2.drewN _).setCell (Nat.le_refl _) _, ⟨fun h => by omega, hs.2.1⟩, fun i hi => ?_⟩
            by_cases e1 : i = k + j
            · subst e1; rw [upd_same, if_pos (by omega), hs.1, e2]
            · rw [upd_other _ _ e1, he.out i hi]
              by_cases e2 : i < k + j
              · rw [if_pos e2, if_pos (by omega)]
              · rw [if_neg e2, if_neg (by omega)]
          case measure => simp [intOf]; omega
        · have tb0 : tn b j = 0 := tn_ge n2.top (by omega)
          have TB := Lib.hid tb0
          by_cases hcr : 0 < cr
          · have hjl : j = lb := by
              rcases Nat.lt_or_ge j (lb + 1) with h | h
              · omega
              · have := hj2 (by omega); omega
            have tr0 : td (tlow a k * b) (k + j) = 0 := td_zero_of htop.out (by omega)
            have tb1 : td b j = 0 := td_zero_of n2.top (by omega)
            rw [tb1, tr0, Int.mul_zero, Int.add_zero, Int.add_zero] at hs
            have HS := Lib.hid hs
            have hcell3 := hO2.cell (k + j) (by omega)
            have hfree := hO2.free (k + j)
            have e1 := he.out (k + j) (by omega)
            rw [if_neg (by omega), tr0] at e1
            rw [e1] at hcell3
            have HJ := Lib.hid hjl
            have hkj : k + j < la + lb + 1 := by omega
            have hjb : j + 1 ≤ lb + 1 := by omega
            clear e1 hj2 tb0 tr0 tb1 hs hjl
            go_wp2
            have hs := HS.out
            go_roundw
            case rel =>
              refine ⟨j + 1, cr / 10, _, hjb, by go_num, by simp, hs.2.2.1, hs.2.2.2.1, hO2.set hkj _, hB2.setCell (Nat.le_refl _) _, ⟨fun h => by omega, hs.2.1⟩, fun i hi => ?_⟩
              by_cases e1 : i = k + j
              · subst e1; rw [upd_same, if_pos (by omega), hs.1]
              · rw [upd_other _ _ e1, he.out i hi]
                by_cases e2 : i < k + j
                · rw [if_pos e2, if_pos (by omega)]
                · rw [if_neg e2, if_neg (by omega)]
            case measure => simp [intOf]; omega
          · have hc0' : cr = 0 := by omega
            have HC := Lib.hid hc0'
            have hjl : lb ≤ j := by omega
            clear hj2 tb0 hs hc0'
            go_wp2
            have hR : tn (tlow a (k + 1) * b) (k + j) = 0 := by
              have h1 := hz.out.2
              have h2 := tn_ge htop.out (show k + lb ≤ k + j by omega)
              rw [TB.out, HC.out, h2, Int.mul_zero, mul_nextx] at h1
              omega
            go_roundw
            case rel =>
              refine ⟨k + 1, _, by omega, by go_num, hO2, hB2, fun i hi => ?_, tn_ge hR (by omega)⟩
              rw [he.out i hi]
              by_cases e2 : i < k + j
              · rw [if_pos e2, mul_nextx]
              · rw [if_neg e2, td_zero_of htop.out (by omega), td_zero_of hR (by omega)]
            case measure => simp [intOf]; omega
    · obtain rfl : k = la := by omega
      have hlow := tlow_top n1.top
      have hO' := hO.congr hd.out
      have htop' := htop.out
      rw [hlow] at hO' htop'
      have hab : a * b = ((x.natAbs * y.natAbs : Nat) : Int) := by rw [HA.out, HB.out, Int.natCast_mul]
      rw [hab] at hO' htop'
      have g23 : Gr w2 wr := hB
      have hZ : TenZ wr (.slice (some ⟨w2.heap.size, 0, none⟩) (k + lb + 1) (k + lb + 1)) ((x.natAbs * y.natAbs : Nat) : Int) := ⟨_, _, _, rfl, Nat.le_refl _, by omega, tn_ge htop' (by omega), hO'.row⟩
      clear hab hlow htop' hO' hd htop hO hO1
      obtain ⟨hp0, hp1⟩ := sgn_mul_le x y
      go_wp2_with fail
      refine (r1_sign_i x _).mono ?_
      rintro e w4 ⟨rfl, g4⟩
      go_wp2_with fail
      refine (r1_sign_i y _).mono ?_
      rintro e w5 ⟨rfl, g5⟩
      go_wp2_with fail
      (with_reducible refine (r1_text_z (decide (sgn x * sgn y < 0)) ((hZ.gr g4).gr g5)).mono ?_)
      rintro e w6 ⟨rfl, g6⟩
      go_wp2
      go_ret
      refine ⟨?_, (((g12.trans g23).trans g4).trans g5).trans g6⟩
      rw [HFin.out]; rfl
end Go.Proofs.YtlcmllfacolkaaaGreatDoor
/- The reference of layer 1: the quotient and the rest. -/
namespace Go.Proofs.YtlcmllfacolkaaaGreatDoor
open Go.RowKit

/-- append of a slice that reads as integers -/
theorem wpList_appR {P : Program} {ops : Array Oper} {rest : List Oper} {o : Oper} {a : Act} {w : World} {Q : Exit → Act → World → Prop} (hgd : o.guard = none) (s x : Operand) (t : TypeId)
    (ho : o.op = .call { callee := .builtin .append, args := #[s, x], argTypes := #[t, t] }) (B : Nat) (v : Value) (ys : List Value) (hs : a.eval s = v) (hown : OwnS w 3 B v ys)
    (ao : Option Addr) (len cap : Nat) (d : Nat → Int) (hx : a.eval x = .slice ao len cap) (hr : DRow w ao len d) (hn : ys.length + len ≤ 1000000)
    (ht : P.underlying t = some (.slice 3)) (hi : (P.info? 3).map (fun i => (i.zero, i.size, i.bytes)) = some (some (.int .i64 0), 1, 8)) (hBw : B ≤ w.heap.size)
    (h : ∀ v' w', OwnS w' 3 B v' (ys ++ dvals .i64 len d) → Below B w w' → wpList P ops Q rest (a.put o.dst v') w') : wpList P ops Q (o :: rest) a w := by
  obtain ⟨i, hi, hz, hsize, hby⟩ := info_parts hi
  have hfin : ∀ v' w', w'.ownsRow B 3 1 v' (ys.length + len) (ys ++ dvals .i64 len d) → w.grownBy w' v.ownBlock → wpList P ops Q rest (a.put o.dst v') w' := by
    intro v' w' h2 hg
    have hnew : ∀ k, v.ownBlock = some k → B ≤ k := by
      intro k hk
      rcases hown.2 with ⟨rfl, _⟩ | ⟨g, cap, cur, rfl, hb, hgg, _⟩
      · simp [Value.ownBlock] at hk
      · simp [Value.ownBlock] at hk
        subst hk; exact hb
    refine h v' w' ?_ ⟨hg.os, hg.tape, hg.output, hg.size, fun k hk => hg.block k (by omega) (fun e => ?_)⟩
    · unfold OwnS; simpa [dvals_length] using h2
    · have := hnew k e.symm; omega
  have hone : ∀ u ∈ dvals .i64 len d, u.oneCell' = true := fun u hu => by
    simp only [dvals, List.mem_map] at hu
    obtain ⟨_, _, rfl⟩ := hu; rfl
  cases ao with
  | none =>
    have h0 : len = 0 := by
      rcases Nat.eq_zero_or_pos len with e | e
      · exact e
      · obtain ⟨b, off, e', _⟩ := hr.at_ e; cases e'
    subst h0
    refine wpList_plain hgd fun K hK => ?_
    have hrun : ∀ ty, (Builtin.append_ #[t, t] ty #[v, .slice none 0 cap]).run P w = .ok v w := fun ty => by
      have hn0 := hown.2
      rcases hn0 with ⟨rfl, h1⟩ | ⟨g, c1, c2, rfl, _, _, h1, _⟩
      · simp [Builtin.append_, Builtin.firstCells, Builtin.lenOf, run_underlying ht, sizeOf, typeInfo, hi]
      · simp [Builtin.append_, Builtin.firstCells, Builtin.lenOf, run_underlying ht, sizeOf, typeInfo, hi, storeCells, h1]
    unfold Oper.wp
    simp [execOp, ho, resolve, invoke, builtin, hs, hx, hrun, Result.andThen]
    exact hK _ _ (hfin v w (show w.ownsRow B 3 1 v (ys.length + 0) (ys ++ []) by rw [Nat.add_zero, List.append_nil]; exact hown) (World.grownBy.refl w _))
  | some ad =>
    refine wpList_append_own w hgd s x t ho B 3 i _ 1 8 ht hi hz hsize hby rfl (by omega) v ys.length ys hs hown ad len cap (dvals .i64 len d) hx (by simp [dvals_length]) (fun j u hj => ?_) hone (by unfold maxLen; omega) (by omega) hBw (fun v' w' h2 hg _ => hfin v' w' h2 hg)
    have hj' : j < len := by have := (List.getElem?_eq_some_iff.1 hj).1; simpa [dvals_length] using this
    obtain ⟨b, off, e, hc⟩ := hr.at_ (by omega)
    obtain rfl := Option.some.inj e
    rw [dvals_get _ _ hj'] at hj
    obtain rfl := Option.some.inj hj
    have e0 : (⟨b, off, none⟩ : Addr).add j = ⟨b, off + j, none⟩ := by
      unfold Addr.add
      by_cases h0 : j = 0 <;> simp [h0]
    rw [e0]; exact hc j hj'
theorem own_lit (w : World) (T : TypeId) (u : Value) : OwnS (w.alloc (.cells #[u] T)) T w.heap.size (.slice (some ⟨w.heap.size, 0, none⟩) 1 1) [u] :=
  ⟨rfl, .inr ⟨w.heap.size, 1, #[u], rfl, Nat.le_refl _, heap_alloc_new _ _, Nat.le_refl _, by unfold maxLen; omega, rfl, rfl⟩⟩
theorem dvals_cons (N d : Int) (h0 : 0 ≤ d) (h1 : d < 10) (len : Nat) : Value.int .i64 d :: dvals .i64 len (td N) = dvals .i64 (len + 1) (td (N * 10 + d)) := by
  have e : ∀ i, td (N * 10 + d) (i + 1) = td N i := fun i => by
    rw [← td_tenth]; congr 1; omega
  unfold dvals
  rw [List.range_succ_eq_map, List.map_cons, List.map_map]
  show _ = Value.int .i64 (td (N * 10 + d) 0) :: _
  have e0 : td (N * 10 + d) 0 = d := by unfold td; rw [tn_zero]; omega
  rw [e0]
  congr 1
  exact List.map_congr_left fun i _ => by simp only [Function.comp_apply, e]
theorem tn_cons (N d : Int) (h0 : 0 ≤ d) (h1 : d < 10) (len : Nat) : tn (N * 10 + d) (len + 1) = tn N len := by
  rw [← tn_tenth]; congr 1; omega
theorem r1_sign_v {v : Int} (z : Int) (h : sgn z = v) (w : World) :
    Calls Tryz.prog 111 #[.string ⟨(Lib.itoa z).toArray⟩] w fun e w' => e = .returned (.int .i64 v) ∧ Gr w w' := h ▸ r1_sign_i z w
theorem r1_sub_one {k : Nat} (z : Int) (hz : Sz k z) (hk : k ≤ 600000) (w : World) :
    Calls Tryz.prog 138 #[.string ⟨(Lib.itoa z).toArray⟩, .string ⟨#[49]⟩] w fun e w' => e = .returned (.string ⟨(Lib.itoa (z - 1)).toArray⟩) ∧ Gr w w' := by
  have := r1_sub (m := 1) z 1 hz (by unfold Sz; decide) (by omega) w
  rw [itoa_one] at this
  exact this
theorem text_at {neg : Bool} {n : Nat} {v : Value} {w : World} {L : List UInt8} (h : TenZ w v (n : Int)) (hL : textL neg n = L) :
    Calls Tryz.prog 98 #[.bool neg, v] w fun e w' => e = .returned (.string ⟨L.toArray⟩) ∧ Gr w w' := hL ▸ r1_text_z neg h
theorem TenS.toZ {k : Nat} {w : World} {v : Value} {n : Nat} (h : TenS w v (n : Int)) (hn : n < 2 ^ k) (hk : k ≤ 800000) : TenZ w v (n : Int) := by
  obtain ⟨ao, len, cap, h1, h2, h3, h4, h5⟩ := h.len hn
  exact ⟨ao, len, cap, h1, h2, by omega, h3.top, h4⟩
theorem ne_zero_text {z : Int} (h : z ≠ 0) : ((⟨(Lib.itoa z).toArray⟩ : ByteArray).toList == [48]) = false := by
  rw [beq_eq_false_iff_ne, ByteArray.toList_eq]
  exact itoa_ne_zero h
theorem ne_zero_beq {z : Int} (h : z ≠ 0) : (Lib.itoa z == [48]) = false := by
  rw [beq_eq_false_iff_ne]
  exact itoa_ne_zero h
set_option maxRecDepth 100000 in
set_option maxHeartbeats 4000000 in
theorem r1_divmod {k m : Nat} (x y : Int) (hx : Sz k x) (hy : Sz m y) (hy0 : 0 < y) (hk : k + m ≤ 300000) (w : World) :
    Calls Tryz.prog 112 #[.string ⟨(Lib.itoa x).toArray⟩, .string ⟨(Lib.itoa y).toArray⟩] w fun e w' => e = .returned (.tuple #[.string ⟨(Lib.itoa (x / y)).toArray⟩, .string ⟨(Lib.itoa (x % y)).toArray⟩]) ∧ Gr w w' := by
  go_enter Tryz.func112, Tryz.ntmps112
  go_wp2_with fail
  refine (r1_digits_i x hx (by omega) _).mono ?_
  rintro e w1 ⟨⟨v1, rfl, hv1⟩, g1⟩
  obtain ⟨ao, la, ca, rfl, c1, n1, r1, l1⟩ := hv1.len hx
  go_wp2_with fail
  refine (r1_digits_i y hy (by omega) _).mono ?_
  rintro e w2 ⟨⟨v2, rfl, hv2⟩, g2⟩
  have r1 := r1.gr g2
  have g12 := g1.trans g2
  have hb2 := hv2
  obtain ⟨bo, lb, cb, rfl, c2, n2, r2, l2⟩ := hv2.len hy
  clear hv1 r2 n2 l2 c2
  obtain ⟨a, ha⟩ : ∃ a : Nat, a = x.natAbs := ⟨_, rfl⟩
  obtain ⟨b, hb⟩ : ∃ b : Nat, b = y.natAbs := ⟨_, rfl⟩
  have hax : a < 2 ^ k := by rw [ha]; exact hx
  have hbx : b < 2 ^ m := by rw [hb]; exact hy
  have hb0 : 0 < b := by omega
  rw [← ha] at n1 r1
  rw [← hb] at hb2
  have HA := Lib.hid ha
  have HB := Lib.hid hb
  have HX := Lib.hid (show a < 2 ^ k ∧ b < 2 ^ m from ⟨hax, hbx⟩)
  clear ha hb hax hbx
  go_wp2_with (at_make; refine wpList_makeI _ rfl _ _ rfl _ _ la rfl rfl (by omega) (by omega) (by omega) ?_)
  intro w3 hO hB0 hsz
  have hO1 := hO
  clear hO hsz
  go_wp2
  go_loopw [8, 10] (fun r i wr => ∃ (j : Nat) (v : Value) (d : Nat → Int), r = v ∧ i = .int .i64 ((j : Int) - 1) ∧ j ≤ la ∧ Hid (TenS wr v (tn (a : Int) j % (b : Int)) ∧ ∀ i, i < la → d i = if j ≤ i then td ((a : Int) / (b : Int)) i else 0) ∧ DOwn wr w2.heap.size la d ∧ Below w2.heap.size w2 wr) (fun _ i _ => (intOf i + 1).toNat)
  case atStart =>
    refine ⟨la, _, _, rfl, rfl, Nat.le_refl _, ⟨?_, fun i hi => by rw [if_neg (by omega)]⟩, hO1, hB0⟩
    rw [n1.top]
    exact ⟨none, 0, 0, rfl, Nat.le_refl _, NX.zero, DRow.nil _ _ _⟩
  case round =>
    obtain ⟨j, v, d, rfl, rfl, hj, hz, hO, hB⟩ := hrel
    by_cases hp : 0 < j
    · obtain ⟨q, rfl⟩ : ∃ q, j = q + 1 := ⟨j - 1, by omega⟩
      have e1 : (((q + 1 : Nat) : Int) - 1) = (q : Int) := by omega
      simp only [e1]
      clear e1
      obtain ⟨N, hN⟩ : ∃ N : Int, N = tn (a : Int) (q + 1) % (b : Int) := ⟨_, rfl⟩
      have hN0 : 0 ≤ N := by rw [hN]; exact Int.emod_nonneg _ (by omega)
      have hNb : N < (b : Int) := by rw [hN]; exact Int.emod_lt_of_pos _ (by omega)
      obtain ⟨hz1, hz2⟩ := hz.out
      rw [← hN] at hz1
      obtain ⟨ro, lr, cr, rfl, hcr, nr, rr⟩ := hz1
      have lr1 : lr ≤ m + 1 := by
        obtain ⟨n0, hn0⟩ : ∃ n0 : Nat, N = (n0 : Int) := ⟨N.toNat, by omega⟩
        rw [hn0] at nr hNb
        exact nr.len_bits (Nat.lt_trans (by omega) HX.out.2)
      have HZ2 := Lib.hid hz2
      have HN := Lib.hid hN
      clear hz hz2 hN
      obtain ⟨b1, off1, rfl, hcs1⟩ := (r1.below hB).at_ (by omega)
      have hcell1 := hcs1 q (by omega)
      clear hcs1
      have d0 := td_nonneg (a : Int) q
      have d1 := td_lt (a : Int) q
      go_wp2_with (at_builtin; refine wpList_appR rfl (.tmp 29) (.tmp 30) _ (by rfl) wr.heap.size _ [.int .i64 (td (a : Int) q)] (by rfl) (own_lit _ _ _) ro lr cr (td N) (by rfl) (rr.gr (Gr.alloc _ _)) (by simp; omega) Tryz.underlying123 int_info (by simp) ?_)
      intro v4 w4 hown hB4
      rw [dvals_cons N _ d0 d1] at hown
      have gB4 : Gr wr w4 := Below.trans ((Below.refl _ _).alloc (Nat.le_refl _) _) hB4
      obtain ⟨N1, hN1⟩ : ∃ N1 : Int, N1 = N * 10 + td (a : Int) q := ⟨_, rfl⟩
      have ht1 : tn N1 (lr + 1) = 0 := by rw [hN1, tn_cons _ _ d0 d1, nr.top]
      have hN10 : 0 ≤ N1 := by omega
      have hN1b : N1 < 10 * (b : Int) := by omega
      rw [← hN1] at hown
      have HT1 := Lib.hid ht1
      have HN1 := Lib.hid hN1
      clear ht1 hN1
      obtain ⟨ao5, cap5, rfl, hcap5, _, hrow5, hfr5⟩ := hown.drowF
      go_wp2_with fail
      refine (r1_trim ao5 (lr + 1) cap5 N1 _ (by omega) hcap5 hN10 HT1.out hrow5).mono ?_
      rintro e w5 ⟨⟨k5, rfl, hk5, hn5⟩, rfl⟩
      have hT5 : TenF w4 (w2.heap.size + 1) (.slice ao5 k5 cap5) N1 := ⟨_, _, _, rfl, by omega, hn5, hrow5.shorter hk5, fun ad e => Nat.le_trans (by have := hO.lt; omega) (hfr5 ad e)⟩
      have hO4 := hO.gr gB4
      have hB4' : Below w2.heap.size w2 w4 := Below.trans hB (Below.mono gB4 hB.size)
      clear hrow5 hown hB4 hO rr
      go_wp2
      obtain ⟨wo, hwo⟩ : ∃ wo : World, wo = w4 := ⟨_, rfl⟩
      subst hwo
      go_loopg [8] 10 (fun gk r wr => ∃ (c : Nat) (v : Value) (e : Nat → Int), r = v ∧ c + gk = 10 ∧ Hid ((c : Int) * b ≤ N1 ∧ TenF wr (w2.heap.size + 1) v (N1 - (c : Int) * b) ∧ ∀ i, i < la → e i = if q < i then td ((a : Int) / (b : Int)) i else if i = q then (c : Int) else 0) ∧ DOwn wr w2.heap.size la e ∧ Below w2.heap.size w2 wr)
      case atStart =>
        refine ⟨0, _, d, rfl, rfl, ⟨by simp; omega, by simpa using hT5, fun i hi => ?_⟩, hO4, hB4'⟩
        rw [HZ2.out i hi]
        by_cases h1 : q < i
        · rw [if_pos h1, if_pos (by omega)]
        · rw [if_neg h1, if_neg (by omega)]; split <;> rfl
      case round =>
        obtain ⟨c, v, e, rfl, hc, hz, hO6, hB6⟩ := hrel
        obtain ⟨hz1, hz2, hz3⟩ := hz.out
        obtain ⟨r0, hr0⟩ : ∃ r0 : Nat, N1 - (c : Int) * b = (r0 : Int) := ⟨(N1 - (c : Int) * b).toNat, by omega⟩
        rw [hr0] at hz2
        have hr0b : r0 < 2 ^ (m + 4) := by
          have h1 := HX.out.2
          have h2 : (0 : Int) ≤ (c : Int) * b := Int.mul_nonneg (by omega) (by omega)
          rw [Nat.pow_add]
          omega
        have hbb := hb2.gr hB6
        have HR0 := Lib.hid hr0
        have HZ1 := Lib.hid hz1
        have HZ3 := Lib.hid hz3
        clear hr0 hz1 hz3 hz
        go_wp2_with fail
        refine (r1_order_i hz2.s hbb hr0b HX.out.2 (by omega)).mono ?_
        rintro e7 w7 ⟨rfl, g7⟩
        by_cases hge : b ≤ r0
        · have hs1 : (0 : Int) ≤ sgn ((r0 : Int) - (b : Int)) := by have := sgn_cases ((r0 : Int) - (b : Int)); omega
          have hc9 : c < 9 := by
            rcases Nat.lt_or_ge c 9 with h | h
            · exact h
            · have h1 := HR0.out
              have h2 : (9 : Int) * b ≤ (c : Int) * b := Int.mul_le_mul_of_nonneg_right (by omega) (by omega)
              omega
          go_wp2_with fail
          refine (r1_minus_f (hz2.s.gr g7) (hbb.gr g7) hr0b hge (by omega)).mono ?_
          rintro e8 w8 ⟨⟨v8, rfl, h8⟩, g8⟩
          have hO8 := (hO6.gr g7).gr g8
          have hcell := hO8.cell q (by omega)
          have hfree := hO8.free q
          have e9 := HZ3.out q (by omega)
          rw [if_neg (by omega), if_pos rfl] at e9
          rw [e9] at hcell
          clear e9
          go_wp2
          go_roundg (gk - 1)
          case measure => omega
          case rel =>
            have hmul : ((c + 1 : Nat) : Int) * (b : Int) = (c : Int) * b + b := by rw [Int.natCast_add, Int.add_mul]; simp
            refine ⟨c + 1, _, _, rfl, by omega, ⟨by rw [hmul]; have := HR0.out; omega, ?_, fun i hi => ?_⟩, hO8.set (by omega) ((c : Int) + 1), ?_⟩
            · rw [hmul, show N1 - ((c : Int) * b + b) = ((r0 - b : Nat) : Int) by have := HR0.out; omega]
              exact (h8.mono (by have := (hO6.gr g7).lt; omega)).set (by omega) _ _
            · by_cases e1 : i = q
              · subst e1; rw [upd_same, if_neg (by omega), if_pos rfl]; simp
              · rw [upd_other _ _ e1, HZ3.out i hi]
                by_cases e2 : q < i
                · rw [if_pos e2, if_pos e2]
                · rw [if_neg e2, if_neg e2, if_neg e1, if_neg e1]
            · exact (Below.trans hB6 (Below.mono (g7.trans g8) hB6.size)).setCell (Nat.le_refl _) _
        · have hs1 : sgn ((r0 : Int) - (b : Int)) < 0 := by have := sgn_cases ((r0 : Int) - (b : Int)); omega
          have hst := short_stepx (a : Int) (b : Int) q (by omega) 
          have hc0 : (0 : Int) ≤ (c : Int) := by omega
          have hdiv : N1 / (b : Int) = (c : Int) ∧ N1 % (b : Int) = (r0 : Int) := by
            rw [Int.ediv_emod_unique (by omega)]
            have h1 := HR0.out
            rw [Int.mul_comm (b : Int) (c : Int)]
            omega
          rw [← HN.out, ← HN1.out, hdiv.1, hdiv.2] at hst
          have HST := Lib.hid hst
          clear hst hdiv
          go_wp2
          go_roundw
          case rel =>
            refine ⟨q, _, e, rfl, rfl, by omega, ⟨?_, fun i hi => ?_⟩, hO6.gr g7, Below.trans hB6 (Below.mono g7 hB6.size)⟩
            · rw [HST.out.2.1]; exact hz2.s.gr g7
            · rw [HZ3.out i hi]
              by_cases e2 : q < i
              · rw [if_pos e2, if_pos (by omega)]
              · rw [if_neg e2]
                by_cases e3 : i = q
                · rw [if_pos e3, if_pos (by omega), e3, HST.out.1]
                · rw [if_neg e3, if_neg (by omega)]
          case measure => simp [intOf]
    · obtain rfl : j = 0 := by omega
      obtain ⟨hz1, hz2⟩ := hz.out
      obtain ⟨qn, hqn⟩ : ∃ qn : Nat, qn = a / b := ⟨_, rfl⟩
      obtain ⟨rn, hrn⟩ : ∃ rn : Nat, rn = a % b := ⟨_, rfl⟩
      have hdm : (a : Int) = (b : Int) * qn + rn := by
        have := Nat.div_add_mod a b
        rw [hqn, hrn, ← Int.natCast_mul, ← Int.natCast_add, this]
      have hrb : rn < b := by rw [hrn]; exact Nat.mod_lt _ hb0
      have g3 : Gr w2 wr := hB
      have hQ : TenZ wr (.slice (some ⟨w2.heap.size, 0, none⟩) la la) (qn : Int) := by
        refine ⟨_, _, _, rfl, Nat.le_refl _, by omega, ?_, (hO.congr fun i hi => ?_).row⟩
        · rw [hqn, Int.natCast_ediv, tn_div _ _ (by omega), n1.top, Int.zero_ediv]
        · rw [hz2 i hi, if_pos (by omega), hqn, Int.natCast_ediv]
      rw [tn_zero, ← Int.natCast_emod, ← hrn] at hz1
      have hR := hz1.toZ (Nat.lt_trans hrb HX.out.2) (by omega)
      have hQs : Sz k (-(qn : Int)) := by
        have h1 := HX.out.1
        have h2 := Nat.div_le_self a b
        unfold Sz; omega
      have hax : x < 0 → x = -(a : Int) := fun h => by have := HA.out; omega
      have hax2 : ¬ x < 0 → x = (a : Int) := fun h => by have := HA.out; omega
      have hby : y = (b : Int) := by have := HB.out; omega
      have hRs : Sz m (-(rn : Int)) := by
        have h1 := HX.out.2
        unfold Sz; omega
      have HDM := Lib.hid hdm
      have HBY := Lib.hid hby
      clear hdm hby hz hz1 hz2 hO hqn hrn
      by_cases hneg : x < 0
      · have hx1 := Lib.hid (hax hneg)
        clear hax hax2
        by_cases hr0 : rn = 0
        · subst hr0
          have HF : Hid (x / y = -(qn : Int) ∧ x % y = 0) := by
            have h1 := hx1.out
            have h2 := HDM.out
            have h3 := HBY.out
            show x / y = _ ∧ _
            rw [h3, Int.ediv_emod_unique (by omega), Int.mul_neg]
            omega
          go_wp2_with fail
          (with_reducible refine (r1_sign_v x (sgn_neg hneg) _).mono ?_)
          rintro e4 w4 ⟨rfl, g4⟩
          go_wp2_with fail
          (with_reducible refine (r1_sign_v y (sgn_pos hy0) _).mono ?_)
          rintro e5 w5 ⟨rfl, g5⟩
          go_wp2_with fail
          (with_reducible refine (text_at (neg := true) ((hQ.gr g4).gr g5) (text_abs (z := -(qn : Int)) (.inl ⟨rfl, rfl⟩))).mono ?_)
          rintro e6 w6 ⟨rfl, g6⟩
          go_wp2_with fail
          (with_reducible refine (r1_sign_v x (sgn_neg hneg) _).mono ?_)
          rintro e7 w7 ⟨rfl, g7⟩
          go_wp2_with fail
          (with_reducible refine (text_at (neg := true) ((((hR.gr g4).gr g5).gr g6).gr g7) (show textL true 0 = [48] from rfl)).mono ?_)
          rintro e8 w8 ⟨rfl, g8⟩
          go_wp2
          go_ret2
          refine ⟨?_, (((((g12.trans g3).trans g4).trans g5).trans g6).trans g7).trans g8⟩
          rw [HF.out.1, HF.out.2, itoa_zero]
          rfl
        · have HF : Hid (x / y = -(qn : Int) - 1 ∧ x % y = -(rn : Int) + y) := by
            have h1 := hx1.out
            have h2 := HDM.out
            have h3 := HBY.out
            show x / y = _ ∧ _
            rw [h3, Int.ediv_emod_unique (by omega), Int.mul_sub, Int.mul_neg]
            omega
          have hne := ne_zero_text (show -(rn : Int) ≠ 0 by omega)
          have hne2 := ne_zero_beq (show -(rn : Int) ≠ 0 by omega)
          go_wp2_with fail
          (with_reducible refine (r1_sign_v x (sgn_neg hneg) _).mono ?_)
          rintro e4 w4 ⟨rfl, g4⟩
          go_wp2_with fail
          (with_reducible refine (r1_sign_v y (sgn_pos hy0) _).mono ?_)
          rintro e5 w5 ⟨rfl, g5⟩
          go_wp2_with fail
          (with_reducible refine (text_at (neg := true) ((hQ.gr g4).gr g5) (text_abs (z := -(qn : Int)) (.inl ⟨rfl, rfl⟩))).mono ?_)
          rintro e6 w6 ⟨rfl, g6⟩
          go_wp2_with fail
          (with_reducible refine (r1_sign_v x (sgn_neg hneg) _).mono ?_)
          rintro e7 w7 ⟨rfl, g7⟩
          go_wp2_with fail
          (with_reducible refine (text_at (neg := true) ((((hR.gr g4).gr g5).gr g6).gr g7) (text_abs (z := -(rn : Int)) (.inl ⟨rfl, rfl⟩))).mono ?_)
          rintro e8 w8 ⟨rfl, g8⟩
          go_wp2_with fail
          (with_reducible refine (r1_sign_v (-(rn : Int)) (sgn_neg (by omega)) _).mono ?_)
          rintro e9 w9 ⟨rfl, g9⟩
          go_wp2_with fail
          (with_reducible refine (r1_sign_v y (sgn_pos hy0) _).mono ?_)
          rintro e10 wa ⟨rfl, ga⟩
          go_wp2_with fail
          (with_reducible refine (r1_sub_one (-(qn : Int)) hQs (by omega) _).mono ?_)
          rintro e11 wb ⟨rfl, gb⟩
          go_wp2_with fail
          (with_reducible refine (r1_add (-(rn : Int)) y hRs hy (by omega) _).mono ?_)
          rintro e12 wc ⟨rfl, gc⟩
          go_wp2
          go_ret2
          refine ⟨?_, (((((((((g12.trans g3).trans g4).trans g5).trans g6).trans g7).trans g8).trans g9).trans ga).trans gb).trans gc⟩
          rw [HF.out.1, HF.out.2]
          rfl
      · have hx1 := Lib.hid (hax2 hneg)
        clear hax hax2
        have HF : Hid (x / y = (qn : Int) ∧ x % y = (rn : Int)) := by
          have h1 := hx1.out
          have h2 := HDM.out
          have h3 := HBY.out
          show x / y = _ ∧ _
          rw [h3, Int.ediv_emod_unique (by omega)]
          omega
        by_cases hx0 : x = 0
        · have hr0 : rn = 0 := by
            have h1 := HF.out.2
            rw [hx0, Int.zero_emod] at h1; omega
          have hsx : sgn x = 0 := by rw [hx0]; rfl
          subst hr0
          have HS := Lib.hid hsx
          clear hsx hx0
          go_wp2_with fail
          (with_reducible refine (r1_sign_v x HS.out _).mono ?_)
          rintro e4 w4 ⟨rfl, g4⟩
          go_wp2_with fail
          (with_reducible refine (r1_sign_v y (sgn_pos hy0) _).mono ?_)
          rintro e5 w5 ⟨rfl, g5⟩
          go_wp2_with fail
          (with_reducible refine (text_at (neg := false) ((hQ.gr g4).gr g5) (text_abs (z := (qn : Int)) (.inr ⟨rfl, rfl⟩))).mono ?_)
          rintro e6 w6 ⟨rfl, g6⟩
          go_wp2_with fail
          (with_reducible refine (r1_sign_v x HS.out _).mono ?_)
          rintro e7 w7 ⟨rfl, g7⟩
          go_wp2_with fail
          (with_reducible refine (text_at (neg := false) ((((hR.gr g4).gr g5).gr g6).gr g7) (show textL false 0 = [48] from rfl)).mono ?_)
          rintro e8 w8 ⟨rfl, g8⟩
          go_wp2
          go_ret2
          refine ⟨?_, (((((g12.trans g3).trans g4).trans g5).trans g6).trans g7).trans g8⟩
          rw [HF.out.1, HF.out.2]
          show _ = Ending.returned (Value.tuple #[_, .string ⟨(Lib.itoa 0).toArray⟩])
          rw [itoa_zero]
          rfl
        · by_cases hr0 : rn = 0
          · subst hr0
            go_wp2_with fail
            (with_reducible refine (r1_sign_v x (sgn_pos (by omega)) _).mono ?_)
            rintro e4 w4 ⟨rfl, g4⟩
            go_wp2_with fail
            (with_reducible refine (r1_sign_v y (sgn_pos hy0) _).mono ?_)
            rintro e5 w5 ⟨rfl, g5⟩
            go_wp2_with fail
            (with_reducible refine (text_at (neg := false) ((hQ.gr g4).gr g5) (text_abs (z := (qn : Int)) (.inr ⟨rfl, rfl⟩))).mono ?_)
            rintro e6 w6 ⟨rfl, g6⟩
            go_wp2_with fail
            (with_reducible refine (r1_sign_v x (sgn_pos (by omega)) _).mono ?_)
            rintro e7 w7 ⟨rfl, g7⟩
            go_wp2_with fail
            (with_reducible refine (text_at (neg := false) ((((hR.gr g4).gr g5).gr g6).gr g7) (show textL false 0 = [48] from rfl)).mono ?_)
            rintro e8 w8 ⟨rfl, g8⟩
            go_wp2
            go_ret2
            refine ⟨?_, (((((g12.trans g3).trans g4).trans g5).trans g6).trans g7).trans g8⟩
            rw [HF.out.1, HF.out.2]
            show _ = Ending.returned (Value.tuple #[_, .string ⟨(Lib.itoa 0).toArray⟩])
            rw [itoa_zero]
            rfl
          · have hne := ne_zero_text (show (rn : Int) ≠ 0 by omega)
            have hne2 := ne_zero_beq (show (rn : Int) ≠ 0 by omega)
            go_wp2_with fail
            (with_reducible refine (r1_sign_v x (sgn_pos (by omega)) _).mono ?_)
            rintro e4 w4 ⟨rfl, g4⟩
            go_wp2_with fail
            (with_reducible refine (r1_sign_v y (sgn_pos hy0) _).mono ?_)
            rintro e5 w5 ⟨rfl, g5⟩
            go_wp2_with fail
            (with_reducible refine (text_at (neg := false) ((hQ.gr g4).gr g5) (text_abs (z := (qn : Int)) (.inr ⟨rfl, rfl⟩))).mono ?_)
            rintro e6 w6 ⟨rfl, g6⟩
            go_wp2_with fail
            (with_reducible refine (r1_sign_v x (sgn_pos (by omega)) _).mono ?_)
            rintro e7 w7 ⟨rfl, g7⟩
            go_wp2_with fail
            (with_reducible refine (text_at (neg := false) ((((hR.gr g4).gr g5).gr g6).gr g7) (text_abs (z := (rn : Int)) (.inr ⟨rfl, rfl⟩))).mono ?_)
            rintro e8 w8 ⟨rfl, g8⟩
            go_wp2_with fail
            (with_reducible refine (r1_sign_v (rn : Int) (sgn_pos (by omega)) _).mono ?_)
            rintro e9 w9 ⟨rfl, g9⟩
            go_wp2_with fail
            (with_reducible refine (r1_sign_v y (sgn_pos hy0) _).mono ?_)
            rintro e10 wa ⟨rfl, ga⟩
            go_wp2
            go_ret2
            refine ⟨?_, (((((((g12.trans g3).trans g4).trans g5).trans g6).trans g7).trans g8).trans g9).trans ga⟩
            rw [HF.out.1, HF.out.2]
            rfl
end Go.Proofs.YtlcmllfacolkaaaGreatDoor
