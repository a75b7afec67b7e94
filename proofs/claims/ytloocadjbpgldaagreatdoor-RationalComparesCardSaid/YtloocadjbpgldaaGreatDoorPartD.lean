/- Joined of: Gen12, Gen3, Rat1, Gen4, Nbr, Scale, Gen32, Rat2, Gen33, Gen34. -/
import Derived.Test.YtloocadjbpgldaaGreatDoorPartC
/- Printed by a program of the prover's: the text of an integer. -/
namespace Go.Proofs.YtloocadjbpgldaaGreatDoor
open Go.RowKit


set_option maxRecDepth 100000 in
set_option maxHeartbeats 4000000 in
theorem text_pos {k N : Nat} {s : Bool} {ao : Option Addr} {la ca : Nat} {w : World} (ha : Mag w ao la ca (N : Int)) (hN : 0 < N) (hNk : N < 2 ^ k) (_hk : k ≤ 900000) (ht : Tab w) :
    Calls Tryz.prog 23 #[(.agg #[(.bool (s)), (.slice ao la ca)])] w fun e w' => e = .returned (.string ⟨((if s then [45] else []) ++ Lib.decDigits N).toArray⟩) ∧ Gr w w' := by
 have hla : 0 < la := by
    rcases Nat.eq_zero_or_pos la with e | e
    · have := ha.nl.len_zero.1 e; omega
    · exact e
 have e0 : ((la : Int) == (0 : Int)) = false := by simp; omega
 go_enter Tryz.func23, Tryz.ntmps23
 have hB := Gr.refl w
 refine wp_seq_k (fun K1 k1 => ?_)
 refine rg [0, 1] ?_
 refine se ?_
 refine eb 27 #[(.bool (s)), (.slice ao la ca)] 1 hB fun b2 w2 g2 L2 o2 q2 hB => ?_
 simp only [p3, p4]
 refine sv 2 (.string ⟨([] : List UInt8).toArray⟩) ?_
 simp only [p3, p4]
 refine sq_nil ?_
 refine k1 _ _ ?_
 try clear k1 K1
 refine wp_seq_k (fun K3 k3 => ?_)
 refine wp_seq_k (fun K4 k4 => ?_)
 refine rg [0, 1, 2, 3] ?_
 refine sv 9 (.pointer (some ⟨b2, 1, none⟩)) ?_
 simp only [p3, p4]
 refine sw 10 (.slice ao la ca) rfl (rk 25 1 L2) ?_
 simp only [p3, p4]
 refine sv 11 (.int .i64 ((la : Int))) ?_
 simp only [p3, p4]
 refine sw 12 (.bool false) rfl (RunV.bool (x := ((la : Int) == (0 : Int))) (rvk (by kernel_rfl)) e0) ?_
 simp only [p3, p4]
 refine sq_nil ?_
 refine k4 _ _ ?_
 try clear k4 K4
 refine wp_cond_false rfl ?_
 refine wp_skip ?_
 refine k3 _ _ ?_
 try clear k3 K3
 refine wp_seq_k (fun K5 k5 => ?_)
 refine rg [0] ?_
 refine sv 3 (.slice none 0 0) ?_
 simp only [p3, p4]
 refine sq_nil ?_
 refine k5 _ _ ?_
 try clear k5 K5
 refine wp_seq_k (fun K6 k6 => ?_)
 refine wp_seq_k (fun K7 k7 => ?_)
 refine rg [0, 1, 2] ?_
 refine sv 13 (.pointer (some ⟨b2, 1, none⟩)) ?_
 simp only [p3, p4]
 refine sw 14 (.slice ao la ca) rfl (rk 25 1 L2) ?_
 simp only [p3, p4]
 refine sv 4 (.slice ao la ca) ?_
 simp only [p3, p4]
 refine sq_nil ?_
 refine k7 _ _ ?_
 try clear k7 K7
 refine wp_block ?_
 replace ha := ha.kp g2.kp
 refine wp_loop_inv (a := ⟨List.toArray ?l8, []⟩) (fun n a w' => ∃ (u : Nat) (L : List (List UInt8)) (v : Value) (mo : Option Addr) (ml : Nat) (mc : Nat) (u8 : Nat → Value), u = n ∧ a = ⟨[(u8 0), (.pointer (some ⟨b2, 0, none⟩)), (.string ⟨([] : List UInt8).toArray⟩), v, (.slice mo ml mc), (u8 5), (u8 6), (u8 7), undef, (u8 9), (u8 10), (u8 11), (.bool false), (u8 13), (u8 14), (u8 15), (u8 16), (u8 17), (u8 18), (u8 19), (u8 20), (u8 21), (u8 22), (u8 23), (u8 24), (u8 25), (u8 26), (u8 27), (u8 28), (u8 29), (u8 30), (u8 31), (u8 32), (u8 33), (u8 34), (u8 35), (u8 36), (u8 37), (u8 38), (u8 39), undef, undef, undef, undef, undef, undef, undef, undef, undef].toArray, []⟩ ∧ L ++ grps u = grps N ∧ u < 2 ^ k ∧ Mag w' mo ml mc (u : Int) ∧ OwnS w' 9 w.heap.size v (L.map strV) ∧ Lc w' b2 #[(.bool (s)), (.slice ao la ca)] 27 ∧ Gr w w') (N) ?_ ?_
 ·exact ⟨N, [], .slice none 0 0, ao, la, ca, (fun i => List.getD ?l8 i undef), rfl, rfl, (by simp), hNk, ha, (OwnS.nil _ _ _), L2, hB⟩
 rintro n8 a8 w8 ⟨u, L, v, mo, ml, mc, u8, rfl, rfl, hX, hu, hm, hown, L2, hB⟩ K8 k8
 have hln : L.length ≤ 1000000 := by have h1 := grps_len k N hNk; rw [← hX, List.length_append] at h1; omega
 have h9 := dec9 u
 have h9r : (Lib.repeatL [48] (9 - (Lib.decDigits (u % 1000000000)).length)).length ≤ 9 := by rw [Lib.repeatL_length]; simp
 refine wp_seq_k (fun K9 k9 => ?_)
 refine wp_seq_k (fun K10 k10 => ?_)
 refine rg [0, 1, 2] ?_
 refine sv 15 (.slice mo ml mc) ?_
 simp only [p3, p4]
 refine sv 16 (.int .i64 ((ml : Int))) ?_
 simp only [p3, p4]
 refine sv 17 (.bool (decide ((0 : Int) < (ml : Int)))) ?_
 simp only [p3, p4]
 refine sq_nil ?_
 refine k10 _ _ ?_
 try clear k10 K10
 refine wp_cond_split (t := decide ((0 : Int) < (ml : Int))) rfl (fun hb11 => ?_) (fun hb11 => ?_)
 ·have hu0 := hb11
  refine wp_skip ?_
  refine k9 _ _ ?_
  try clear k9 K9
  refine wp_block ?_
  refine wp_seq_k (fun K12 k12 => ?_)
  refine rg [0, 1, 2, 3, 4, 5, 6] ?_
  refine sv 19 (.slice mo ml mc) ?_
  simp only [p3, p4]
  refine se ?_
  refine ec 20 (short9 hm (hm.len9 hu (by omega))) ?_
  rintro e13 w13 ⟨⟨go13, k13, cap13, rfl, h13⟩, g13⟩
  refine ⟨_, rfl, ?_⟩
  replace hB := hB.trans g13
  simp only [p3, p4]
  refine sv 18 (.tuple #[(.slice go13 k13 cap13), (.int .u32 (((u % 1000000000 : Nat) : Int)))]) ?_
  simp only [p3, p4]
  refine sv 21 (.slice go13 k13 cap13) ?_
  simp only [p3, p4]
  refine sv 22 (.int .u32 (((u % 1000000000 : Nat) : Int))) ?_
  simp only [p3, p4]
  refine sv 5 (.slice go13 k13 cap13) ?_
  simp only [p3, p4]
  refine sv 6 (.int .u32 (((u % 1000000000 : Nat) : Int))) ?_
  simp only [p3, p4]
  refine sq_nil ?_
  refine k12 _ _ ?_
  try clear k12 K12
  refine wp_seq_k (fun K14 k14 => ?_)
  refine rg [0, 1, 2, 3] ?_
  refine sv 23 (.int .u32 (((u % 1000000000 : Nat) : Int))) ?_
  simp only [p3, p4]
  refine sw 24 (.int .i64 (((u % 1000000000 : Nat) : Int))) rfl (RunV.int (x := IntKind.i64.wrap (((u % 1000000000 : Nat) : Int))) (y := ((u % 1000000000 : Nat) : Int)) (rvk (by kernel_rfl)) (by first | rfl | (rw [IntKind.wrap_i64]; omega))) ?_
  simp only [p3, p4]
  refine se ?_
  refine ec 25 (itoa_n (u % 1000000000) (by omega) (ht.gr hB)) ?_
  rintro e15 w15 ⟨rfl, g15⟩
  refine ⟨_, rfl, ?_⟩
  replace hB := hB.trans g15
  simp only [p3, p4]
  refine sv 7 (.string ⟨(Lib.decDigits (u % 1000000000) : List UInt8).toArray⟩) ?_
  simp only [p3, p4]
  refine sq_nil ?_
  refine k14 _ _ ?_
  try clear k14 K14
  refine wp_seq_k (fun K16 k16 => ?_)
  refine wp_seq_k (fun K17 k17 => ?_)
  refine rg [0, 1, 2] ?_
  refine sv 26 (.slice go13 k13 cap13) ?_
  simp only [p3, p4]
  refine sv 27 (.int .i64 ((k13 : Int))) ?_
  simp only [p3, p4]
  refine sv 28 (.bool (decide ((0 : Int) < (k13 : Int)))) ?_
  simp only [p3, p4]
  refine sq_nil ?_
  refine k17 _ _ ?_
  try clear k17 K17
  refine wp_cond_split (t := decide ((0 : Int) < (k13 : Int))) rfl (fun hb18 => ?_) (fun hb18 => ?_)
  ·refine rg [0, 1, 2, 3, 4, 5, 6] ?_
   refine sv 29 (.string ⟨(Lib.decDigits (u % 1000000000) : List UInt8).toArray⟩) ?_
   simp only [p3, p4]
   refine sv 30 (.int .i64 (((Lib.decDigits (u % 1000000000)).length : Int))) ?_
   simp only [p3, p4]
   refine sw 31 (.int .i64 ((9 - ((Lib.decDigits (u % 1000000000)).length : Int)))) rfl (RunV.int (x := IntKind.i64.wrap ((9 - ((Lib.decDigits (u % 1000000000)).length : Int)))) (y := (9 - ((Lib.decDigits (u % 1000000000)).length : Int))) (rvk (by kernel_rfl)) (by first | rfl | (rw [IntKind.wrap_i64]; omega))) ?_
   simp only [p3, p4]
   refine se ?_
   refine ec 32 (repeat9 (Lib.decDigits (u % 1000000000)).length (dec9 u) _) ?_
   rintro e19 w19 ⟨rfl, g19⟩
   refine ⟨_, rfl, ?_⟩
   replace hB := hB.trans g19
   simp only [p3, p4]
   refine sv 33 (.string ⟨(Lib.decDigits (u % 1000000000) : List UInt8).toArray⟩) ?_
   simp only [p3, p4]
   refine sw 34 (.string ⟨((Lib.repeatL [48] (9 - (Lib.decDigits (u % 1000000000)).length)) ++ (Lib.decDigits (u % 1000000000)) : List UInt8).toArray⟩) rfl (rv_cat 9 9 _ _ (Lib.repeatL [48] (9 - (Lib.decDigits (u % 1000000000)).length)) (Lib.decDigits (u % 1000000000)) rfl rfl rfl (by omega)) ?_
   simp only [p3, p4]
   refine sv 7 (.string ⟨((Lib.repeatL [48] (9 - (Lib.decDigits (u % 1000000000)).length)) ++ (Lib.decDigits (u % 1000000000)) : List UInt8).toArray⟩) ?_
   simp only [p3, p4]
   refine sq_nil ?_
   refine k16 _ _ ?_
   try clear k16 K16
   refine wp_seq_k (fun K20 k20 => ?_)
   refine rg [0, 1, 2, 3, 4] ?_
   refine sv 35 v ?_
   simp only [p3, p4]
   refine sv 36 (.string ⟨((Lib.repeatL [48] (9 - (Lib.decDigits (u % 1000000000)).length)) ++ (Lib.decDigits (u % 1000000000)) : List UInt8).toArray⟩) ?_
   simp only [p3, p4]
   refine se ?_
   refine eff_bs 9 1 #[(.string ⟨((Lib.repeatL [48] (9 - (Lib.decDigits (u % 1000000000)).length)) ++ (Lib.decDigits (u % 1000000000)) : List UInt8).toArray⟩)] (some 37) rfl (fun _ => by kernel_rfl) (fun b21 w21 g21 L21 q21 => ?_)
   replace L2 := L2.gr (g13.trans (g15.trans g19))
   replace hB := hB.trans g21
   simp only [putl, p3, p4]
   refine se ?_
   replace hown := hown.gr (g13.trans (g15.trans (g19.trans g21)))
   refine eff_append1 _ _ 69 9 w.heap.size (.string ⟨([] : List UInt8).toArray⟩) v _ b21 (.string ⟨((Lib.repeatL [48] (9 - (Lib.decDigits (u % 1000000000)).length)) ++ (Lib.decDigits (u % 1000000000)) : List UInt8).toArray⟩) 1 (some 38) 16 rfl rfl rfl rfl hown L21 rfl w hB (Nat.le_refl _) (Below.size hB) (by rw [List.length_map]; exact hln) (by decide) (by kernel_rfl) (by kernel_rfl) rfl (fun v22 w22 own22 wt22 hb22 => ?_)
   replace hB := hb22
   replace own22 := OwnS.snoc (f := strV) own22
   simp only [putl, p3, p4]
   refine sv 3 v22 ?_
   simp only [p3, p4]
   refine sq_nil ?_
   refine k20 _ _ ?_
   try clear k20 K20
   refine rg [0, 1] ?_
   refine sv 39 (.slice go13 k13 cap13) ?_
   simp only [p3, p4]
   refine sv 4 (.slice go13 k13 cap13) ?_
   simp only [p3, p4]
   refine sq_nil ?_
   have kq23 := g15.kp.trans (g19.kp.trans (g21.kp.trans (wt22.kp (by decide))))
   replace h13 := h13.kp kq23
   replace L2 := wt22.lc (L2.gr g21) (by decide)
   refine k8 (u / 1000000000) ⟨List.toArray ?l24, []⟩ _ (Nat.div_lt_self (Mag.pos0 hm hu0) (by omega)) ?_
   exact ⟨u / 1000000000, _, v22, go13, k13, cap13, (fun i => List.getD ?l24 i undef), rfl, rfl, (grps_step hX (Mag.pos0 hm hu0) (grp_hi (Mag.pos0 h13 hb18))), (Nat.lt_of_le_of_lt (Nat.div_le_self _ _) hu), h13, own22, L2, hB⟩
  ·refine wp_skip ?_
   refine k16 _ _ ?_
   try clear k16 K16
   refine wp_seq_k (fun K25 k25 => ?_)
   refine rg [0, 1, 2, 3, 4] ?_
   refine sv 35 v ?_
   simp only [p3, p4]
   refine sv 36 (.string ⟨(Lib.decDigits (u % 1000000000) : List UInt8).toArray⟩) ?_
   simp only [p3, p4]
   refine se ?_
   refine eff_bs 9 1 #[(.string ⟨(Lib.decDigits (u % 1000000000) : List UInt8).toArray⟩)] (some 37) rfl (fun _ => by kernel_rfl) (fun b26 w26 g26 L26 q26 => ?_)
   replace L2 := L2.gr (g13.trans g15)
   replace hB := hB.trans g26
   simp only [putl, p3, p4]
   refine se ?_
   replace hown := hown.gr (g13.trans (g15.trans g26))
   refine eff_append1 _ _ 69 9 w.heap.size (.string ⟨([] : List UInt8).toArray⟩) v _ b26 (.string ⟨(Lib.decDigits (u % 1000000000) : List UInt8).toArray⟩) 1 (some 38) 16 rfl rfl rfl rfl hown L26 rfl w hB (Nat.le_refl _) (Below.size hB) (by rw [List.length_map]; exact hln) (by decide) (by kernel_rfl) (by kernel_rfl) rfl (fun v27 w27 own27 wt27 hb27 => ?_)
   replace hB := hb27
   replace own27 := OwnS.snoc (f := strV) own27
   simp only [putl, p3, p4]
   refine sv 3 v27 ?_
   simp only [p3, p4]
   refine sq_nil ?_
   refine k25 _ _ ?_
   try clear k25 K25
   refine rg [0, 1] ?_
   refine sv 39 (.slice go13 k13 cap13) ?_
   simp only [p3, p4]
   refine sv 4 (.slice go13 k13 cap13) ?_
   simp only [p3, p4]
   refine sq_nil ?_
   have kq28 := g15.kp.trans (g26.kp.trans (wt27.kp (by decide)))
   replace h13 := h13.kp kq28
   replace L2 := wt27.lc (L2.gr g26) (by decide)
   refine k8 (u / 1000000000) ⟨List.toArray ?l29, []⟩ _ (Nat.div_lt_self (Mag.pos0 hm hu0) (by omega)) ?_
   exact ⟨u / 1000000000, _, v27, go13, k13, cap13, (fun i => List.getD ?l29 i undef), rfl, rfl, (grps_step hX (Mag.pos0 hm hu0) (grp_lo (by rw [Mag.zero0 h13 hb18]; omega))), (Nat.lt_of_le_of_lt (Nat.div_le_self _ _) hu), h13, own27, L2, hB⟩
 ·have hz := Mag.zero0 hm hb11
  subst hz
  rw [grps_zero, List.append_nil] at hX
  have hL0 : 0 < L.length := by rw [hX]; exact grps_len0 hN
  have htx : L.reverse.flatten = Lib.decDigits N := by rw [hX]; exact grps_text N N (Nat.le_refl _) hN
  have hfl : L.reverse.flatten.length ≤ 140737488355328 := by rw [htx]; have := dec_len_bits k N hNk; omega
  refine wp_exit ?_
  simp only [Exit.then, Exit.inBlock, ↓reduceIte]
  refine k6 _ _ ?_
  try clear k6 K6
  refine wp_seq_k (fun K30 k30 => ?_)
  refine rg [0, 1] ?_
  refine sv 40 v ?_
  simp only [p3, p4]
  refine se ?_
  refine eff_call (some 41) rfl (by kernel_rfl) (reverse_own hown hL0) ?_
  rintro e31 w31 ⟨rfl, own31, wt31, hg31⟩
  refine ⟨_, rfl, ?_⟩
  replace hB := hg31 _ hB (Nat.le_refl _)
  simp only [putl, p3, p4]
  refine sq_nil ?_
  refine k30 _ _ ?_
  try clear k30 K30
  refine wp_seq_k (fun K32 k32 => ?_)
  refine rg [0, 1, 2] ?_
  refine sv 42 v ?_
  simp only [p3, p4]
  refine se ?_
  refine ec 43 (join_own own31 (by rw [List.length_reverse]; exact hL0) hfl (by rw [List.length_reverse]; exact hln)) ?_
  rintro e33 w33 ⟨rfl, g33⟩
  refine ⟨_, rfl, ?_⟩
  replace hB := hB.trans g33
  simp only [p3, p4]
  refine sv 8 (.string ⟨(((L).reverse).flatten : List UInt8).toArray⟩) ?_
  simp only [p3, p4]
  refine sq_nil ?_
  refine k32 _ _ ?_
  try clear k32 K32
  refine wp_seq_k (fun K34 k34 => ?_)
  refine wp_seq_k (fun K35 k35 => ?_)
  refine rg [0, 1] ?_
  refine sv 44 (.pointer (some ⟨b2, 0, none⟩)) ?_
  simp only [p3, p4]
  replace L2 := (wt31.lc L2 (by decide)).gr g33
  refine sw 45 (.bool (s)) rfl (rk 4 0 L2) ?_
  simp only [p3, p4]
  refine sq_nil ?_
  refine k35 _ _ ?_
  try clear k35 K35
  refine wp_cond_split (t := s) rfl (fun hb36 => ?_) (fun hb36 => ?_)
  ·refine wp_seq_k (fun K37 k37 => ?_)
   refine rg [0, 1, 2] ?_
   refine sv 46 (.string ⟨(((L).reverse).flatten : List UInt8).toArray⟩) ?_
   simp only [p3, p4]
   refine sw 47 (.string ⟨(([45]) ++ (((L).reverse).flatten) : List UInt8).toArray⟩) rfl (rv_cat 9 9 _ _ ([45]) (((L).reverse).flatten) rfl rfl rfl (by simp only [List.length_cons, List.length_nil]; omega)) ?_
   simp only [p3, p4]
   refine sv 2 (.string ⟨(([45]) ++ (((L).reverse).flatten) : List UInt8).toArray⟩) ?_
   simp only [p3, p4]
   refine sq_nil ?_
   refine k37 _ _ ?_
   try clear k37 K37
   refine wp_ret ?_
   simp only [Exit.then]
   refine bodyPost_ret (v := (.string ⟨(([45]) ++ (((L).reverse).flatten) : List UInt8).toArray⟩)) (ret_tmp rfl rfl) rfl ⟨?_, hB⟩
   exact (by rw [hb36]; show Ending.returned _ = _; rw [htx]; rfl)
  ·refine wp_skip ?_
   refine k34 _ _ ?_
   try clear k34 K34
   refine wp_seq_k (fun K38 k38 => ?_)
   refine rg [0, 1] ?_
   refine sv 48 (.string ⟨(((L).reverse).flatten : List UInt8).toArray⟩) ?_
   simp only [p3, p4]
   refine sv 2 (.string ⟨(((L).reverse).flatten : List UInt8).toArray⟩) ?_
   simp only [p3, p4]
   refine sq_nil ?_
   refine k38 _ _ ?_
   try clear k38 K38
   refine wp_ret ?_
   refine bodyPost_ret (v := (.string ⟨(((L).reverse).flatten : List UInt8).toArray⟩)) (ret_tmp rfl rfl) rfl ⟨?_, hB⟩
   exact (by rw [hb36]; show Ending.returned _ = _; rw [htx]; rfl)

set_option maxRecDepth 100000 in
set_option maxHeartbeats 1000000 in
theorem text_zero {ao : Option Addr} {ca : Nat} (w : World) :
    Calls Tryz.prog 23 #[(.agg #[(.bool false), (.slice ao 0 ca)])] w fun e w' => e = .returned (.string ⟨#[48]⟩) ∧ Gr w w' := by
 go_enter Tryz.func23, Tryz.ntmps23
 have hB := Gr.refl w
 refine wp_seq_k (fun K1 k1 => ?_)
 refine rg [0, 1] ?_
 refine se ?_
 refine eb 27 #[(.bool false), (.slice ao 0 ca)] 1 hB fun b2 w2 g2 L2 o2 q2 hB => ?_
 simp only [p3, p4]
 refine sv 2 (.string ⟨([] : List UInt8).toArray⟩) ?_
 simp only [p3, p4]
 refine sq_nil ?_
 refine k1 _ _ ?_
 try clear k1 K1
 refine wp_seq_k (fun K3 k3 => ?_)
 refine wp_seq_k (fun K4 k4 => ?_)
 refine rg [0, 1, 2, 3] ?_
 refine sv 9 (.pointer (some ⟨b2, 1, none⟩)) ?_
 simp only [p3, p4]
 refine sw 10 (.slice ao 0 ca) rfl (rk 25 1 L2) ?_
 simp only [p3, p4]
 refine sv 11 (.int .i64 0) ?_
 simp only [p3, p4]
 refine sv 12 (.bool true) ?_
 simp only [p3, p4]
 refine sq_nil ?_
 refine k4 _ _ ?_
 try clear k4 K4
 refine wp_cond_true rfl ?_
 refine wp_seq_k (fun K5 k5 => ?_)
 refine rg [0] ?_
 refine sv 2 (.string ⟨([48] : List UInt8).toArray⟩) ?_
 simp only [p3, p4]
 refine sq_nil ?_
 refine k5 _ _ ?_
 try clear k5 K5
 refine wp_ret ?_
 simp only [Exit.then]
 refine bodyPost_ret (v := (.string ⟨([48] : List UInt8).toArray⟩)) (ret_tmp rfl rfl) rfl ⟨?_, hB⟩
 exact rfl

theorem text_i {k : Nat} {x y : Value} {z : Int} {w : World} (hz : IsInt w k x y z) (hk : k ≤ 900000) (ht : Tab w) :
    Calls Tryz.prog 23 #[.agg #[x, y]] w fun e w' => e = .returned (.string ⟨(Lib.itoa z).toArray⟩) ∧ Gr w w' := by
  obtain ⟨ao, la, ca, rfl, rfl, ha, hs⟩ := hz
  by_cases h0 : z = 0
  · subst h0
    have : la = 0 := ha.nl.len_zero.2 rfl
    subst this
    have e1 : decide ((0 : Int) < 0) = false := by decide
    have e2 : Lib.itoa 0 = [48] := by unfold Lib.itoa; rw [if_neg (by omega)]; exact dec_small (by decide)
    rw [e1, e2]
    exact text_zero w
  · have := text_pos (s := decide (z < 0)) ha (by omega) (by unfold Sz at hs; exact hs) hk ht
    refine this.mono ?_
    rintro e w1 ⟨he, g⟩
    refine ⟨?_, g⟩
    rw [he]
    unfold Lib.itoa
    by_cases hz : z < 0
    · simp [hz]
    · have : z.toNat = z.natAbs := by omega
      simp [hz, this]

end Go.Proofs.YtloocadjbpgldaaGreatDoor
/- Printed by a program of the prover's: whole, Den, reduced. -/
namespace Go.Proofs.YtloocadjbpgldaaGreatDoor
open Go.RowKit

set_option maxRecDepth 100000 in
set_option maxHeartbeats 1000000 in
theorem whole_z {k : Nat} {c0 c1 c2 c3 : Value} {w : World} (hd : IsInt w k c2 c3 0) :
    Calls Tryz.prog 95 #[(.agg #[c0, c1, c2, c3])] w fun e w' => e = .returned (.bool true) ∧ Gr w w' := by
 go_enter Tryz.func95, Tryz.ntmps95
 have hB := Gr.refl w
 refine wp_seq_k (fun K1 k1 => ?_)
 refine rg [0, 1] ?_
 refine se ?_
 refine eb 31 #[c0, c1, c2, c3] 1 hB fun b2 w2 g2 L2 o2 q2 hB => ?_
 simp only [p3, p4]
 refine sv 2 (.bool false) ?_
 simp only [p3, p4]
 refine sq_nil ?_
 refine k1 _ _ ?_
 try clear k1 K1
 refine wp_seq_k (fun K3 k3 => ?_)
 have gd8 := Gr.drew w2
 replace hB := hB.trans gd8
 replace L2 := L2.gr gd8
 refine wp_region_ord (fun w' => Lc w' b2 #[c0, c1, c2, c3] 31) [(true, 0), (true, 1), (false, 2), (true, 3), (true, 4), (true, 5), (true, 6), (false, 7), (false, 8), (true, 9), (true, 10), (true, 11)] (by kernel_rfl) (by kernel_rfl) (by kernel_rfl) (by decide) (fun _ _ _ _ _ h => h) L2 ?_
 refine ov 3 (.pointer (some ⟨b2, 2, none⟩)) ?_
 simp only [p3, p4]
 refine ow 4 (.agg #[c2, c3]) rfl (fun w' hS => (rl 27 2 [c2, c3] hS)) ?_
 simp only [p3, p4]
 refine oe ?_
 have kq11 := g2.kp.trans gd8.kp
 replace hd := hd.kp kq11
 refine ec 5 (sign_zero hd) ?_
 rintro e10 w10 ⟨rfl, g10⟩
 refine ⟨_, rfl, ?_⟩
 replace hB := hB.trans g10
 replace L2 := L2.gr g10
 refine ⟨L2, ?_⟩
 simp only [p3, p4]
 refine ov 6 (.bool true) ?_
 simp only [p3, p4]
 refine ov 7 (.bool true) ?_
 simp only [p3, p4]
 refine os 8 ?_
 simp only [p3, p4]
 refine os 9 ?_
 simp only [p3, p4]
 refine oz 10 L2 ?_
 simp only [p3, p4]
 refine oz 11 L2 ?_
 simp only [p3, p4]
 refine os 12 ?_
 simp only [p3, p4]
 refine ov 13 (.bool true) ?_
 simp only [p3, p4]
 refine ov 2 (.bool true) ?_
 simp only [p3, p4]
 refine ord_nil ?_
 refine k3 _ _ ?_
 try clear k3 K3
 refine wp_ret ?_
 refine bodyPost_ret (v := (.bool true)) (ret_tmp rfl rfl) rfl ⟨?_, hB⟩
 exact rfl

set_option maxRecDepth 100000 in
set_option maxHeartbeats 1000000 in
theorem whole_p {k : Nat} {c0 c1 c2 c3 : Value} {D : Int} {w : World} (hd : IsInt w k c2 c3 D) (_h0 : 0 < D) (_hk : k ≤ 1000000) :
    Calls Tryz.prog 95 #[(.agg #[c0, c1, c2, c3])] w fun e w' => e = .returned (.bool (sgn (D - 1) == 0)) ∧ Gr w w' := by
 go_enter Tryz.func95, Tryz.ntmps95
 have hB := Gr.refl w
 refine wp_seq_k (fun K1 k1 => ?_)
 refine rg [0, 1] ?_
 refine se ?_
 refine eb 31 #[c0, c1, c2, c3] 1 hB fun b2 w2 g2 L2 o2 q2 hB => ?_
 simp only [p3, p4]
 refine sv 2 (.bool false) ?_
 simp only [p3, p4]
 refine sq_nil ?_
 refine k1 _ _ ?_
 try clear k1 K1
 refine wp_seq_k (fun K3 k3 => ?_)
 have gd13 := Gr.drew w2
 replace hB := hB.trans gd13
 replace L2 := L2.gr gd13
 refine wp_region_ord (fun w' => Lc w' b2 #[c0, c1, c2, c3] 31) [(true, 0), (true, 1), (false, 2), (true, 3), (true, 4), (true, 5), (true, 6), (false, 7), (false, 8), (true, 9), (true, 10), (true, 11)] (by kernel_rfl) (by kernel_rfl) (by kernel_rfl) (by decide) (fun _ _ _ _ _ h => h) L2 ?_
 refine ov 3 (.pointer (some ⟨b2, 2, none⟩)) ?_
 simp only [p3, p4]
 refine ow 4 (.agg #[c2, c3]) rfl (fun w' hS => (rl 27 2 [c2, c3] hS)) ?_
 simp only [p3, p4]
 refine oe ?_
 have kq16 := g2.kp.trans gd13.kp
 replace hd := hd.kp kq16
 refine ec 5 (sign_pos hd (by omega)) ?_
 rintro e15 w15 ⟨rfl, g15⟩
 refine ⟨_, rfl, ?_⟩
 replace hB := hB.trans g15
 replace L2 := L2.gr g15
 refine ⟨L2, ?_⟩
 simp only [p3, p4]
 refine ov 6 (.bool false) ?_
 simp only [p3, p4]
 refine ov 7 (.bool false) ?_
 simp only [p3, p4]
 refine ov 8 (.pointer (some ⟨b2, 2, none⟩)) ?_
 simp only [p3, p4]
 refine ow 9 (.agg #[c2, c3]) rfl (fun w' hS => (rl 27 2 [c2, c3] hS)) ?_
 simp only [p3, p4]
 refine oe ?_
 refine ec 10 (one_i _) ?_
 rintro e18 w18 ⟨⟨x18, y18, rfl, h18⟩, g18⟩
 refine ⟨_, rfl, ?_⟩
 replace hB := hB.trans g18
 replace L2 := L2.gr g18
 refine ⟨L2, ?_⟩
 simp only [p3, p4]
 refine oe ?_
 have kq21 := g15.kp.trans g18.kp
 replace hd := hd.kp kq21
 refine ec 11 (compare_i hd h18 (by omega) (by omega)) ?_
 rintro e20 w20 ⟨rfl, g20⟩
 refine ⟨_, rfl, ?_⟩
 replace hB := hB.trans g20
 replace L2 := L2.gr g20
 refine ⟨L2, ?_⟩
 simp only [p3, p4]
 refine ov 12 (.bool ((sgn (D - 1) == (0 : Int)))) ?_
 simp only [p3, p4]
 refine ov 13 (.bool ((sgn (D - 1) == (0 : Int)))) ?_
 simp only [p3, p4]
 refine ov 2 (.bool ((sgn (D - 1) == (0 : Int)))) ?_
 simp only [p3, p4]
 refine ord_nil ?_
 refine k3 _ _ ?_
 try clear k3 K3
 refine wp_ret ?_
 refine bodyPost_ret (v := (.bool ((sgn (D - 1) == (0 : Int))))) (ret_tmp rfl rfl) rfl ⟨?_, hB⟩
 exact rfl

set_option maxRecDepth 100000 in
set_option maxHeartbeats 1000000 in
theorem den_z {k : Nat} {c0 c1 c2 c3 : Value} {w : World} (hd : IsInt w k c2 c3 0) :
    Calls Tryz.prog 24 #[(.agg #[c0, c1, c2, c3])] w fun e w' => (∃ x' y', e = .returned (.agg #[x', y']) ∧ IsInt w' 64 x' y' (1)) ∧ Gr w w' := by
 go_enter Tryz.func24, Tryz.ntmps24
 have hB := Gr.refl w
 refine wp_seq_k (fun K1 k1 => ?_)
 refine rg [0, 1] ?_
 refine se ?_
 refine eb 31 #[c0, c1, c2, c3] 1 hB fun b2 w2 g2 L2 o2 q2 hB => ?_
 simp only [p3, p4]
 refine se ?_
 refine ea 27 #[(.bool false), (.slice none 0 0)] 2 hB fun b3 w3 g3 L3 o3 q3 hB => ?_
 simp only [p3, p4]
 refine sq_nil ?_
 refine k1 _ _ ?_
 try clear k1 K1
 refine wp_seq_k (fun K4 k4 => ?_)
 refine wp_seq_k (fun K5 k5 => ?_)
 refine rg [0, 1, 2, 3] ?_
 refine sv 3 (.pointer (some ⟨b2, 2, none⟩)) ?_
 simp only [p3, p4]
 replace L2 := L2.gr g3
 refine sw 4 (.agg #[c2, c3]) rfl (rl 27 2 [c2, c3] L2) ?_
 simp only [p3, p4]
 refine se ?_
 have kq7 := g2.kp.trans g3.kp
 replace hd := hd.kp kq7
 refine ec 5 (sign_zero hd) ?_
 rintro e6 w6 ⟨rfl, g6⟩
 refine ⟨_, rfl, ?_⟩
 replace hB := hB.trans g6
 simp only [p3, p4]
 refine sv 6 (.bool true) ?_
 simp only [p3, p4]
 refine sq_nil ?_
 refine k5 _ _ ?_
 try clear k5 K5
 refine wp_cond_true rfl ?_
 refine wp_seq_k (fun K8 k8 => ?_)
 refine rg [0, 1] ?_
 refine se ?_
 refine ec 7 (one_i _) ?_
 rintro e9 w9 ⟨⟨x9, y9, rfl, h9⟩, g9⟩
 refine ⟨_, rfl, ?_⟩
 replace hB := hB.trans g9
 simp only [p3, p4]
 refine se ?_
 replace L3 := L3.gr (g6.trans g9)
 refine es 27 0 (.agg #[x9, y9]) [x9, y9] #[x9, y9] L3 hB q3 ⟨h9.one0, h9.one1, trivial⟩ fun w10 st10 kp10 L3 hB => ?_
 refine sq_nil ?_
 refine k8 _ _ ?_
 try clear k8 K8
 refine wp_ret ?_
 simp only [Exit.then]
 refine bodyPost_ret (v := (.agg #[x9, y9])) (ret_cell _ _ _ rfl rfl L3 (by kernel_rfl)) rfl ⟨?_, hB⟩
 replace h9 := h9.kp kp10
 exact ⟨_, _, rfl, h9⟩

set_option maxRecDepth 100000 in
set_option maxHeartbeats 1000000 in
theorem den_p {k : Nat} {c0 c1 c2 c3 : Value} {D : Int} {w : World} (hd : IsInt w k c2 c3 D) (_h0 : 0 < D) :
    Calls Tryz.prog 24 #[(.agg #[c0, c1, c2, c3])] w fun e w' => (∃ x' y', e = .returned (.agg #[x', y']) ∧ IsInt w' k x' y' (D)) ∧ Gr w w' := by
 go_enter Tryz.func24, Tryz.ntmps24
 have hB := Gr.refl w
 refine wp_seq_k (fun K1 k1 => ?_)
 refine rg [0, 1] ?_
 refine se ?_
 refine eb 31 #[c0, c1, c2, c3] 1 hB fun b2 w2 g2 L2 o2 q2 hB => ?_
 simp only [p3, p4]
 refine se ?_
 refine ea 27 #[(.bool false), (.slice none 0 0)] 2 hB fun b3 w3 g3 L3 o3 q3 hB => ?_
 simp only [p3, p4]
 refine sq_nil ?_
 refine k1 _ _ ?_
 try clear k1 K1
 refine wp_seq_k (fun K4 k4 => ?_)
 refine wp_seq_k (fun K5 k5 => ?_)
 refine rg [0, 1, 2, 3] ?_
 refine sv 3 (.pointer (some ⟨b2, 2, none⟩)) ?_
 simp only [p3, p4]
 replace L2 := L2.gr g3
 refine sw 4 (.agg #[c2, c3]) rfl (rl 27 2 [c2, c3] L2) ?_
 simp only [p3, p4]
 refine se ?_
 have kq7 := g2.kp.trans g3.kp
 replace hd := hd.kp kq7
 refine ec 5 (sign_pos hd (by omega)) ?_
 rintro e6 w6 ⟨rfl, g6⟩
 refine ⟨_, rfl, ?_⟩
 replace hB := hB.trans g6
 simp only [p3, p4]
 refine sv 6 (.bool false) ?_
 simp only [p3, p4]
 refine sq_nil ?_
 refine k5 _ _ ?_
 try clear k5 K5
 refine wp_cond_false rfl ?_
 refine wp_skip ?_
 refine k4 _ _ ?_
 try clear k4 K4
 refine wp_seq_k (fun K8 k8 => ?_)
 refine rg [0, 1, 2] ?_
 refine sv 8 (.pointer (some ⟨b2, 2, none⟩)) ?_
 simp only [p3, p4]
 replace L2 := L2.gr g6
 refine sw 9 (.agg #[c2, c3]) rfl (rl 27 2 [c2, c3] L2) ?_
 simp only [p3, p4]
 refine se ?_
 replace L3 := L3.gr g6
 refine es 27 0 (.agg #[c2, c3]) [c2, c3] #[c2, c3] L3 hB q3 ⟨hd.one0, hd.one1, trivial⟩ fun w9 st9 kp9 L3 hB => ?_
 refine sq_nil ?_
 refine k8 _ _ ?_
 try clear k8 K8
 refine wp_ret ?_
 refine bodyPost_ret (v := (.agg #[c2, c3])) (ret_cell _ _ _ rfl rfl L3 (by kernel_rfl)) rfl ⟨?_, hB⟩
 have kq10 := g6.kp.trans kp9
 replace hd := hd.kp kq10
 exact ⟨_, _, rfl, hd⟩

set_option maxRecDepth 100000 in
set_option maxHeartbeats 1000000 in
theorem reduced_p1 {k : Nat} {n0 n1 d0 d1 : Value} {N D : Int} {w : World} (hn : IsInt w k n0 n1 N) (hd : IsInt w k d0 d1 D) (_hk : k + k + k + k + k + k + 66 ≤ 1000000) (_h0 : 0 < D) (hg : (sgn ((Int.gcd (N) (D) : Int) - 1) != 0) = false) :
    Calls Tryz.prog 80 #[(.agg #[n0, n1]), (.agg #[d0, d1])] w fun e w' => (∃ x y x2 y2, e = .returned (.agg #[x, y, x2, y2]) ∧ IsInt w' k x y (N) ∧ IsInt w' k x2 y2 (D)) ∧ Gr w w' := by
 go_enter Tryz.func80, Tryz.ntmps80
 have hB := Gr.refl w
 refine wp_seq_k (fun K1 k1 => ?_)
 refine rg [0, 1, 2] ?_
 refine se ?_
 refine eb 27 #[n0, n1] 2 hB fun b2 w2 g2 L2 o2 q2 hB => ?_
 simp only [p3, p4]
 refine se ?_
 refine eb 27 #[d0, d1] 3 hB fun b3 w3 g3 L3 o3 q3 hB => ?_
 simp only [p3, p4]
 refine se ?_
 refine ea 31 #[(.bool false), (.slice none 0 0), (.bool false), (.slice none 0 0)] 4 hB fun b4 w4 g4 L4 o4 q4 hB => ?_
 replace L2 := L2.gr g3
 simp only [p3, p4]
 refine sq_nil ?_
 refine k1 _ _ ?_
 try clear k1 K1
 refine wp_seq_k (fun K5 k5 => ?_)
 refine wp_seq_k (fun K6 k6 => ?_)
 refine rg [0, 1, 2] ?_
 replace L3 := L3.gr g4
 refine sw 6 (.agg #[d0, d1]) rfl (rl 27 0 [d0, d1] L3) ?_
 simp only [p3, p4]
 refine se ?_
 have kq8 := g2.kp.trans (g3.kp.trans g4.kp)
 replace hd := hd.kp kq8
 refine ec 7 (sign_pos hd (by omega)) ?_
 rintro e7 w7 ⟨rfl, g7⟩
 refine ⟨_, rfl, ?_⟩
 replace hB := hB.trans g7
 simp only [p3, p4]
 refine sv 8 (.bool false) ?_
 simp only [p3, p4]
 refine sq_nil ?_
 refine k6 _ _ ?_
 try clear k6 K6
 refine wp_cond_false rfl ?_
 refine wp_skip ?_
 refine k5 _ _ ?_
 try clear k5 K5
 refine wp_seq_k (fun K9 k9 => ?_)
 refine rg [0, 1, 2, 3, 4] ?_
 replace L2 := L2.gr (g4.trans g7)
 refine sw 13 (.agg #[n0, n1]) rfl (rl 27 0 [n0, n1] L2) ?_
 simp only [p3, p4]
 replace L3 := L3.gr g7
 refine sw 14 (.agg #[d0, d1]) rfl (rl 27 0 [d0, d1] L3) ?_
 simp only [p3, p4]
 refine se ?_
 have kq11 := g2.kp.trans (g3.kp.trans (g4.kp.trans g7.kp))
 replace hn := hn.kp kq11
 replace hd := hd.kp g7.kp
 refine ec 15 (gcd_i hn hd (by omega)) ?_
 rintro e10 w10 ⟨⟨x10, y10, rfl, h10⟩, g10⟩
 refine ⟨_, rfl, ?_⟩
 replace hB := hB.trans g10
 simp only [p3, p4]
 refine se ?_
 refine ea 27 #[(.bool false), (.slice none 0 0)] 5 hB fun b12 w12 g12 L12 o12 q12 hB => ?_
 replace L2 := L2.gr g10
 have ne2_12 := L2.ne o12
 replace L3 := L3.gr g10
 have ne3_12 := L3.ne o12
 replace L4 := L4.gr (g7.trans g10)
 have ne4_12 := L4.ne o12
 simp only [p3, p4]
 refine se ?_
 refine es 27 0 (.agg #[x10, y10]) [x10, y10] #[x10, y10] L12 hB q12 ⟨h10.one0, h10.one1, trivial⟩ fun w13 st13 kp13 L12 hB => ?_
 refine sq_nil ?_
 refine k9 _ _ ?_
 try clear k9 K9
 refine wp_seq_k (fun K14 k14 => ?_)
 refine wp_seq_k (fun K15 k15 => ?_)
 have gd22 := Gr.drew w13
 replace hB := hB.trans gd22
 replace L12 := L12.gr gd22
 refine wp_region_ord (fun w' => Lc w' b12 #[x10, y10] 27) [(true, 0), (false, 1), (false, 2), (true, 3)] (by kernel_rfl) (by kernel_rfl) (by kernel_rfl) (by decide) (fun _ _ _ _ _ h => h) L12 ?_
 refine ow 16 (.agg #[x10, y10]) rfl (fun w' hS => (rl 27 0 [x10, y10] hS)) ?_
 simp only [p3, p4]
 refine oe ?_
 refine ec 17 (one_i _) ?_
 rintro e24 w24 ⟨⟨x24, y24, rfl, h24⟩, g24⟩
 refine ⟨_, rfl, ?_⟩
 replace hB := hB.trans g24
 replace L12 := L12.gr g24
 refine ⟨L12, ?_⟩
 simp only [p3, p4]
 refine oe ?_
 have kq27 := g12.kp.trans (kp13.trans (gd22.kp.trans g24.kp))
 replace h10 := h10.kp kq27
 refine ec 18 (compare_i h10 h24 (by omega) (by omega)) ?_
 rintro e26 w26 ⟨rfl, g26⟩
 refine ⟨_, rfl, ?_⟩
 replace hB := hB.trans g26
 replace L12 := L12.gr g26
 refine ⟨L12, ?_⟩
 simp only [p3, p4]
 refine ow 19 (.bool false) rfl (fun w' hS => (RunV.bool (x := (sgn ((Int.gcd (N) (D) : Int) - 1) != (0 : Int))) (rvk (by kernel_rfl)) hg)) ?_
 simp only [p3, p4]
 refine ord_nil ?_
 refine k15 _ _ ?_
 try clear k15 K15
 refine wp_cond_false rfl ?_
 refine wp_skip ?_
 refine k14 _ _ ?_
 try clear k14 K14
 refine wp_seq_k (fun K28 k28 => ?_)
 refine rg [0, 1, 2, 3] ?_
 replace L2 := (st13.lc (L2.gr g12) ne2_12).gr (gd22.trans (g24.trans g26))
 refine sw 34 (.agg #[n0, n1]) rfl (rl 27 0 [n0, n1] L2) ?_
 simp only [p3, p4]
 replace L3 := (st13.lc (L3.gr g12) ne3_12).gr (gd22.trans (g24.trans g26))
 refine sw 35 (.agg #[d0, d1]) rfl (rl 27 0 [d0, d1] L3) ?_
 simp only [p3, p4]
 refine sv 36 (.agg #[n0, n1, d0, d1]) ?_
 simp only [p3, p4]
 refine se ?_
 replace L4 := (st13.lc (L4.gr g12) ne4_12).gr (gd22.trans (g24.trans g26))
 refine es 31 0 (.agg #[n0, n1, d0, d1]) [n0, n1, d0, d1] #[n0, n1, d0, d1] L4 hB q4 ⟨hn.one0, hn.one1, hd.one0, hd.one1, trivial⟩ fun w29 st29 kp29 L4 hB => ?_
 refine sq_nil ?_
 refine k28 _ _ ?_
 try clear k28 K28
 refine wp_ret ?_
 refine bodyPost_ret (v := (.agg #[n0, n1, d0, d1])) (ret_cell _ _ _ rfl rfl L4 (by kernel_rfl)) rfl ⟨?_, hB⟩
 have kq30 := g10.kp.trans (g12.kp.trans (kp13.trans (gd22.kp.trans (g24.kp.trans (g26.kp.trans kp29)))))
 replace hn := hn.kp kq30
 replace hd := hd.kp kq30
 exact ⟨_, _, _, _, rfl, hn, hd⟩

set_option maxRecDepth 100000 in
set_option maxHeartbeats 1000000 in
theorem reduced_pg {k : Nat} {n0 n1 d0 d1 : Value} {N D : Int} {w : World} (hn : IsInt w k n0 n1 N) (hd : IsInt w k d0 d1 D) (_hk : k + k + k + k + k + k + 66 ≤ 1000000) (_h0 : 0 < D) (hg : (sgn ((Int.gcd (N) (D) : Int) - 1) != 0) = true) (hxn : 0 < (Int.gcd (N) (D) : Int) ∧ (Int.gcd (N) (D) : Int) ∣ N) (_hxd : 0 < (Int.gcd (N) (D) : Int) ∧ (Int.gcd (N) (D) : Int) ∣ D) :
    Calls Tryz.prog 80 #[(.agg #[n0, n1]), (.agg #[d0, d1])] w fun e w' => (∃ x y x2 y2, e = .returned (.agg #[x, y, x2, y2]) ∧ IsInt w' k x y (N / (Int.gcd (N) (D) : Int)) ∧ IsInt w' k x2 y2 (D / (Int.gcd (N) (D) : Int))) ∧ Gr w w' := by
 go_enter Tryz.func80, Tryz.ntmps80
 have hB := Gr.refl w
 refine wp_seq_k (fun K1 k1 => ?_)
 refine rg [0, 1, 2] ?_
 refine se ?_
 refine eb 27 #[n0, n1] 2 hB fun b2 w2 g2 L2 o2 q2 hB => ?_
 simp only [p3, p4]
 refine se ?_
 refine eb 27 #[d0, d1] 3 hB fun b3 w3 g3 L3 o3 q3 hB => ?_
 have ne2_3 := L2.ne o3
 simp only [p3, p4]
 refine se ?_
 refine ea 31 #[(.bool false), (.slice none 0 0), (.bool false), (.slice none 0 0)] 4 hB fun b4 w4 g4 L4 o4 q4 hB => ?_
 replace L2 := L2.gr g3
 have ne2_4 := L2.ne o4
 have ne3_4 := L3.ne o4
 simp only [p3, p4]
 refine sq_nil ?_
 refine k1 _ _ ?_
 try clear k1 K1
 refine wp_seq_k (fun K5 k5 => ?_)
 refine wp_seq_k (fun K6 k6 => ?_)
 refine rg [0, 1, 2] ?_
 replace L3 := L3.gr g4
 refine sw 6 (.agg #[d0, d1]) rfl (rl 27 0 [d0, d1] L3) ?_
 simp only [p3, p4]
 refine se ?_
 have kq8 := g2.kp.trans (g3.kp.trans g4.kp)
 replace hd := hd.kp kq8
 refine ec 7 (sign_pos hd (by omega)) ?_
 rintro e7 w7 ⟨rfl, g7⟩
 refine ⟨_, rfl, ?_⟩
 replace hB := hB.trans g7
 simp only [p3, p4]
 refine sv 8 (.bool false) ?_
 simp only [p3, p4]
 refine sq_nil ?_
 refine k6 _ _ ?_
 try clear k6 K6
 refine wp_cond_false rfl ?_
 refine wp_skip ?_
 refine k5 _ _ ?_
 try clear k5 K5
 refine wp_seq_k (fun K9 k9 => ?_)
 refine rg [0, 1, 2, 3, 4] ?_
 replace L2 := L2.gr (g4.trans g7)
 refine sw 13 (.agg #[n0, n1]) rfl (rl 27 0 [n0, n1] L2) ?_
 simp only [p3, p4]
 replace L3 := L3.gr g7
 refine sw 14 (.agg #[d0, d1]) rfl (rl 27 0 [d0, d1] L3) ?_
 simp only [p3, p4]
 refine se ?_
 have kq11 := g2.kp.trans (g3.kp.trans (g4.kp.trans g7.kp))
 replace hn := hn.kp kq11
 replace hd := hd.kp g7.kp
 refine ec 15 (gcd_i hn hd (by omega)) ?_
 rintro e10 w10 ⟨⟨x10, y10, rfl, h10⟩, g10⟩
 refine ⟨_, rfl, ?_⟩
 replace hB := hB.trans g10
 simp only [p3, p4]
 refine se ?_
 refine ea 27 #[(.bool false), (.slice none 0 0)] 5 hB fun b12 w12 g12 L12 o12 q12 hB => ?_
 replace L2 := L2.gr g10
 have ne2_12 := L2.ne o12
 replace L3 := L3.gr g10
 have ne3_12 := L3.ne o12
 replace L4 := L4.gr (g7.trans g10)
 have ne4_12 := L4.ne o12
 simp only [p3, p4]
 refine se ?_
 refine es 27 0 (.agg #[x10, y10]) [x10, y10] #[x10, y10] L12 hB q12 ⟨h10.one0, h10.one1, trivial⟩ fun w13 st13 kp13 L12 hB => ?_
 refine sq_nil ?_
 refine k9 _ _ ?_
 try clear k9 K9
 refine wp_seq_k (fun K14 k14 => ?_)
 refine wp_seq_k (fun K15 k15 => ?_)
 have gd22 := Gr.drew w13
 replace hB := hB.trans gd22
 replace L12 := L12.gr gd22
 refine wp_region_ord (fun w' => Lc w' b12 #[x10, y10] 27) [(true, 0), (false, 1), (false, 2), (true, 3)] (by kernel_rfl) (by kernel_rfl) (by kernel_rfl) (by decide) (fun _ _ _ _ _ h => h) L12 ?_
 refine ow 16 (.agg #[x10, y10]) rfl (fun w' hS => (rl 27 0 [x10, y10] hS)) ?_
 simp only [p3, p4]
 refine oe ?_
 refine ec 17 (one_i _) ?_
 rintro e24 w24 ⟨⟨x24, y24, rfl, h24⟩, g24⟩
 refine ⟨_, rfl, ?_⟩
 replace hB := hB.trans g24
 replace L12 := L12.gr g24
 refine ⟨L12, ?_⟩
 simp only [p3, p4]
 refine oe ?_
 have kq27 := g12.kp.trans (kp13.trans (gd22.kp.trans g24.kp))
 replace h10 := h10.kp kq27
 refine ec 18 (compare_i h10 h24 (by omega) (by omega)) ?_
 rintro e26 w26 ⟨rfl, g26⟩
 refine ⟨_, rfl, ?_⟩
 replace hB := hB.trans g26
 replace L12 := L12.gr g26
 refine ⟨L12, ?_⟩
 simp only [p3, p4]
 refine ow 19 (.bool true) rfl (fun w' hS => (RunV.bool (x := (sgn ((Int.gcd (N) (D) : Int) - 1) != (0 : Int))) (rvk (by kernel_rfl)) hg)) ?_
 simp only [p3, p4]
 refine ord_nil ?_
 refine k15 _ _ ?_
 try clear k15 K15
 refine wp_cond_true rfl ?_
 refine wp_seq_k (fun K28 k28 => ?_)
 refine rg [0, 1, 2, 3, 4, 5, 6, 7] ?_
 replace L2 := (st13.lc (L2.gr g12) ne2_12).gr (gd22.trans (g24.trans g26))
 refine sw 21 (.agg #[n0, n1]) rfl (rl 27 0 [n0, n1] L2) ?_
 simp only [p3, p4]
 refine sw 22 (.agg #[x10, y10]) rfl (rl 27 0 [x10, y10] L12) ?_
 simp only [p3, p4]
 refine se ?_
 have kq30 := g10.kp.trans (g12.kp.trans (kp13.trans (gd22.kp.trans (g24.kp.trans g26.kp))))
 replace hn := hn.kp kq30
 replace h10 := h10.kp g26.kp
 refine ec 23 (divmod_i hn h10 hxn.1 (by omega)) ?_
 rintro e29 w29 ⟨⟨x29, y29, xr29, yr29, rfl, h29, hr29⟩, g29⟩
 refine ⟨_, rfl, ?_⟩
 replace hB := hB.trans g29
 simp only [p3, p4]
 refine sv 20 (.tuple #[(.agg #[x29, y29]), (.agg #[xr29, yr29]), (.int .i64 0)]) ?_
 simp only [p3, p4]
 refine sv 24 (.agg #[x29, y29]) ?_
 simp only [p3, p4]
 refine sv 25 (.agg #[xr29, yr29]) ?_
 simp only [p3, p4]
 refine sv 26 (.int .i64 0) ?_
 simp only [p3, p4]
 refine se ?_
 replace L2 := L2.gr g29
 refine es 27 0 (.agg #[x29, y29]) [x29, y29] #[x29, y29] L2 hB q2 ⟨h29.one0, h29.one1, trivial⟩ fun w31 st31 kp31 L2 hB => ?_
 refine sq_nil ?_
 refine k28 _ _ ?_
 try clear k28 K28
 refine rg [0, 1, 2, 3, 4, 5, 6, 7] ?_
 replace L3 := st31.lc ((st13.lc (L3.gr g12) ne3_12).gr (gd22.trans (g24.trans (g26.trans g29)))) (Ne.symm ne2_3)
 refine sw 28 (.agg #[d0, d1]) rfl (rl 27 0 [d0, d1] L3) ?_
 simp only [p3, p4]
 replace L12 := st31.lc (L12.gr g29) (Ne.symm ne2_12)
 refine sw 29 (.agg #[x10, y10]) rfl (rl 27 0 [x10, y10] L12) ?_
 simp only [p3, p4]
 refine se ?_
 have kq33 := g10.kp.trans (g12.kp.trans (kp13.trans (gd22.kp.trans (g24.kp.trans (g26.kp.trans (g29.kp.trans kp31))))))
 replace hd := hd.kp kq33
 have kq34 := g29.kp.trans kp31
 replace h10 := h10.kp kq34
 refine ec 30 (divmod_i hd h10 hxn.1 (by omega)) ?_
 rintro e32 w32 ⟨⟨x32, y32, xr32, yr32, rfl, h32, hr32⟩, g32⟩
 refine ⟨_, rfl, ?_⟩
 replace hB := hB.trans g32
 simp only [p3, p4]
 refine sv 27 (.tuple #[(.agg #[x32, y32]), (.agg #[xr32, yr32]), (.int .i64 0)]) ?_
 simp only [p3, p4]
 refine sv 31 (.agg #[x32, y32]) ?_
 simp only [p3, p4]
 refine sv 32 (.agg #[xr32, yr32]) ?_
 simp only [p3, p4]
 refine sv 33 (.int .i64 0) ?_
 simp only [p3, p4]
 refine se ?_
 replace L3 := L3.gr g32
 refine es 27 0 (.agg #[x32, y32]) [x32, y32] #[x32, y32] L3 hB q3 ⟨h32.one0, h32.one1, trivial⟩ fun w35 st35 kp35 L3 hB => ?_
 refine sq_nil ?_
 refine k14 _ _ ?_
 try clear k14 K14
 refine wp_seq_k (fun K36 k36 => ?_)
 refine rg [0, 1, 2, 3] ?_
 replace L2 := st35.lc (L2.gr g32) ne2_3
 refine sw 34 (.agg #[x29, y29]) rfl (rl 27 0 [x29, y29] L2) ?_
 simp only [p3, p4]
 refine sw 35 (.agg #[x32, y32]) rfl (rl 27 0 [x32, y32] L3) ?_
 simp only [p3, p4]
 refine sv 36 (.agg #[x29, y29, x32, y32]) ?_
 simp only [p3, p4]
 refine se ?_
 replace L4 := st35.lc ((st31.lc ((st13.lc (L4.gr g12) ne4_12).gr (gd22.trans (g24.trans (g26.trans g29)))) (Ne.symm ne2_4)).gr g32) (Ne.symm ne3_4)
 refine es 31 0 (.agg #[x29, y29, x32, y32]) [x29, y29, x32, y32] #[x29, y29, x32, y32] L4 hB q4 ⟨h29.one0, h29.one1, h32.one0, h32.one1, trivial⟩ fun w37 st37 kp37 L4 hB => ?_
 refine sq_nil ?_
 refine k36 _ _ ?_
 try clear k36 K36
 refine wp_ret ?_
 refine bodyPost_ret (v := (.agg #[x29, y29, x32, y32])) (ret_cell _ _ _ rfl rfl L4 (by kernel_rfl)) rfl ⟨?_, hB⟩
 have kq38 := kp31.trans (g32.kp.trans (kp35.trans kp37))
 replace h29 := h29.kp kq38
 have kq39 := kp35.trans kp37
 replace h32 := h32.kp kq39
 exact ⟨_, _, _, _, rfl, h29, h32⟩

end Go.Proofs.YtloocadjbpgldaaGreatDoor
/- The contracts on rationals that the printed walks use. -/
namespace Go.Proofs.YtloocadjbpgldaaGreatDoor
open Go.RowKit

theorem sgn_eq_zero {z : Int} : sgn z = 0 ↔ z = 0 := by
  unfold sgn
  by_cases h : z < 0
  · rw [if_pos h]; omega
  · rw [if_neg h]
    by_cases h2 : z = 0
    · simp [h2]
    · rw [if_neg h2]; omega
theorem whole_i {k : Nat} {c0 c1 c2 c3 : Value} {q : Rat} {w : World} (h : IsRat w k c0 c1 c2 c3 q) (hk : k ≤ 1000000) :
    Calls Tryz.prog 95 #[.agg #[c0, c1, c2, c3]] w fun e w' => e = .returned (.bool (decide (q.den = 1))) ∧ Gr w w' := by
  obtain ⟨D, h2, h3⟩ := h.den
  have hp := q.den_pos
  rcases h3 with h3 | ⟨h3, h4⟩
  · have e : (sgn (D - 1) == 0) = decide (q.den = 1) := by
      rw [Bool.eq_iff_iff, beq_iff_eq, sgn_eq_zero, decide_eq_true_iff]; omega
    have := whole_p (c0 := c0) (c1 := c1) h2 (by omega) hk
    rw [e] at this
    exact this
  · subst h3
    have e : decide (q.den = 1) = true := by simpa using h4
    rw [e]
    exact whole_z h2
theorem whole_t {k : Nat} {c0 c1 c2 c3 : Value} {q : Rat} {w : World} (h : IsRat w k c0 c1 c2 c3 q) (hk : k ≤ 1000000) (hq : q.den = 1) :
    Calls Tryz.prog 95 #[.agg #[c0, c1, c2, c3]] w fun e w' => e = .returned (.bool true) ∧ Gr w w' := by
  have := whole_i h hk
  rw [decide_eq_true hq] at this
  exact this
theorem whole_f {k : Nat} {c0 c1 c2 c3 : Value} {q : Rat} {w : World} (h : IsRat w k c0 c1 c2 c3 q) (hk : k ≤ 1000000) (hq : q.den ≠ 1) :
    Calls Tryz.prog 95 #[.agg #[c0, c1, c2, c3]] w fun e w' => e = .returned (.bool false) ∧ Gr w w' := by
  have := whole_i h hk
  rw [decide_eq_false hq] at this
  exact this
theorem den_i {k : Nat} {c0 c1 c2 c3 : Value} {q : Rat} {w : World} (h : IsRat w k c0 c1 c2 c3 q) :
    Calls Tryz.prog 24 #[.agg #[c0, c1, c2, c3]] w fun e w' => (∃ x' y', e = .returned (.agg #[x', y']) ∧ IsInt w' k x' y' (q.den : Int)) ∧ Gr w w' := by
  obtain ⟨D, h2, h3⟩ := h.den
  have hp := q.den_pos
  rcases h3 with h3 | ⟨h3, h4⟩
  · subst h3
    exact den_p h2 (by omega)
  · subst h3
    refine (den_z (c0 := c0) (c1 := c1) h2).mono ?_
    rintro e w1 ⟨⟨x, y, he, hi⟩, g⟩
    rw [h4]
    exact ⟨⟨x, y, he, hi.mono h.big⟩, g⟩
theorem add_e {k m : Nat} (n : Nat) {x y x2 y2 : Value} {z u : Int} {w : World} (hz : IsInt w k x y z) (hu : IsInt w m x2 y2 u) (h1 : k ≤ n) (h2 : m ≤ n) (hk : 2 * n + 1 ≤ 1000000) :
    Calls Tryz.prog 96 #[.agg #[x, y], .agg #[x2, y2]] w fun e w' => (∃ x' y', e = .returned (.agg #[x', y']) ∧ IsInt w' (n + 1) x' y' (z + u)) ∧ Gr w w' := by
  refine (add_i (hz.mono h1) (hu.mono h2) (by omega)).mono ?_
  rintro e w1 ⟨⟨x, y, he, hi⟩, g⟩
  exact ⟨⟨x, y, he, hi.resz ((hz.sz.mono h1).add' (hu.sz.mono h2))⟩, g⟩

theorem reduced_i {k m : Nat} (K : Nat) {n0 n1 d0 d1 : Value} {N D : Int} {w : World} (hn : IsInt w k n0 n1 N) (hd : IsInt w m d0 d1 D) (h0 : 0 < D) (h1 : k ≤ K) (h2 : m ≤ K) (h3 : 64 ≤ K) (h4 : 8 * K ≤ 1000000) :
    Calls Tryz.prog 80 #[.agg #[n0, n1], .agg #[d0, d1]] w fun e w' => (∃ c0 c1 c2 c3, e = .returned (.agg #[c0, c1, c2, c3]) ∧ IsRat w' K c0 c1 c2 c3 (Rat.divInt N D)) ∧ Gr w w' := by
  have hN := hn.mono h1
  have hD := hd.mono h2
  have en : (Rat.divInt N D).num = N / (Int.gcd N D : Int) := by
    rw [Rat.num_divInt, Int.sign_eq_one_of_pos h0, Int.one_mul, Int.gcd_comm]
  have ed : ((Rat.divInt N D).den : Int) = D / (Int.gcd N D : Int) := by
    rw [Rat.den_divInt, if_neg (by omega), Int.gcd_comm, Int.natCast_ediv]
    congr 1
    omega
  have hg0 : 0 < (Int.gcd N D : Int) := by
    have : Int.gcd N D ≠ 0 := by rw [Ne, Int.gcd_eq_zero_iff]; omega
    omega
  by_cases hg : (Int.gcd N D : Int) = 1
  · refine (reduced_p1 hN hD (by omega) h0 (by rw [hg]; rfl)).mono ?_
    rintro e w1 ⟨⟨x, y, x2, y2, he, hi, hi2⟩, g⟩
    rw [hg, Int.ediv_one] at en ed
    exact ⟨⟨x, y, x2, y2, he, by rw [en]; exact hi, ⟨D, hi2, .inl ed.symm⟩, h3⟩, g⟩
  · have hb : (sgn ((Int.gcd N D : Int) - 1) != 0) = true := by
      have : sgn ((Int.gcd N D : Int) - 1) ≠ 0 := fun h => hg (by have := sgn_eq_zero.1 h; omega)
      simpa using this
    refine (reduced_pg hN hD (by omega) h0 hb ⟨hg0, Int.gcd_dvd_left ..⟩ ⟨hg0, Int.gcd_dvd_right ..⟩).mono ?_
    rintro e w1 ⟨⟨x, y, x2, y2, he, hi, hi2⟩, g⟩
    exact ⟨⟨x, y, x2, y2, he, by rw [en]; exact hi, ⟨_, hi2, .inl ed.symm⟩, h3⟩, g⟩

theorem rat_add (a b : Rat) : Rat.divInt (a.num * b.den + b.num * a.den) (a.den * b.den) = a + b := by
  have := Rat.divInt_add_divInt a.num b.num (d₁ := a.den) (d₂ := b.den) (by have := a.den_pos; omega) (by have := b.den_pos; omega)
  rw [Rat.num_divInt_den, Rat.num_divInt_den] at this
  exact this.symm
theorem rat_mul (a b : Rat) : Rat.divInt (a.num * b.num) (a.den * b.den) = a * b := by
  have := Rat.divInt_mul_divInt a.num b.num (d₁ := a.den) (d₂ := b.den)
  rw [Rat.num_divInt_den, Rat.num_divInt_den] at this
  exact this.symm
theorem rat_int {q : Rat} (h : q.den = 1) : ((q.num : Int) : Rat) = q := by
  apply Rat.ext
  · exact Rat.num_intCast _
  · rw [h]; exact Rat.den_intCast _
theorem rat_div (a b : Rat) : Rat.divInt (a.num * b.den) (a.den * b.num) = a / b := by
  rw [Rat.div_def, Rat.inv_def]
  have := Rat.divInt_mul_divInt a.num b.den (d₁ := a.den) (d₂ := b.num)
  rw [Rat.num_divInt_den] at this
  exact this.symm
theorem IsRat.neg {w : World} {k : Nat} {c0 c1 c2 c3 x y : Value} {q : Rat} (h : IsRat w k c0 c1 c2 c3 q) (hi : IsInt w k x y (-q.num)) : IsRat w k x y c2 c3 (-q) := by
  obtain ⟨D, h2, h3⟩ := h.den
  exact ⟨hi, ⟨D, h2, h3⟩, h.big⟩
/-- the order of two rationals -/
def rcmp (a b : Rat) : Int := sgn (a.num * b.den - b.num * a.den)
theorem rcmp_int {a b : Rat} (ha : a.den = 1) (hb : b.den = 1) : rcmp a b = sgn (a.num - b.num) := by
  unfold rcmp; rw [ha, hb]; simp
theorem rcmp_zero {a b : Rat} : rcmp a b = 0 ↔ a = b := by
  unfold rcmp
  rw [sgn_eq_zero]
  constructor
  · intro h
    rw [← Rat.num_divInt_den a, ← Rat.num_divInt_den b]
    rw [Rat.divInt_eq_divInt_iff (by have := a.den_pos; omega) (by have := b.den_pos; omega)]
    omega
  · rintro rfl; omega
end Go.Proofs.YtloocadjbpgldaaGreatDoor
/- Printed by a program of the prover's: the operations on rationals. -/
namespace Go.Proofs.YtloocadjbpgldaaGreatDoor
open Go.RowKit

set_option maxRecDepth 100000 in
set_option maxHeartbeats 1000000 in
theorem add_tt {k m : Nat} {u0 u1 u2 u3 v0 v1 v2 v3 : Value} {a b : Rat} {w : World} (ha : IsRat w k u0 u1 u2 u3 a) (hb : IsRat w m v0 v1 v2 v3 b) (_hk : k + m ≤ 100000) (wa : a.den = 1) (wb : b.den = 1) :
    Calls Tryz.prog 30 #[(.agg #[u0, u1, u2, u3]), (.agg #[v0, v1, v2, v3])] w fun e w' => (∃ c0 c1 c2 c3, e = .returned (.agg #[c0, c1, c2, c3]) ∧ IsRat w' (k + m + 1) c0 c1 c2 c3 (a + b)) ∧ Gr w w' := by
 have hka := ha.big
 have hkb := hb.big
 go_enter Tryz.func30, Tryz.ntmps30
 have hB := Gr.refl w
 refine wp_seq_k (fun K1 k1 => ?_)
 refine rg [0, 1, 2] ?_
 refine se ?_
 refine eb 31 #[u0, u1, u2, u3] 2 hB fun b2 w2 g2 L2 o2 q2 hB => ?_
 simp only [p3, p4]
 refine se ?_
 refine eb 31 #[v0, v1, v2, v3] 3 hB fun b3 w3 g3 L3 o3 q3 hB => ?_
 simp only [p3, p4]
 refine se ?_
 refine ea 31 #[(.bool false), (.slice none 0 0), (.bool false), (.slice none 0 0)] 4 hB fun b4 w4 g4 L4 o4 q4 hB => ?_
 replace L2 := L2.gr g3
 simp only [p3, p4]
 refine sq_nil ?_
 refine k1 _ _ ?_
 try clear k1 K1
 refine wp_seq_k (fun K5 k5 => ?_)
 refine wp_seq_k (fun K6 k6 => ?_)
 refine rg [0, 1, 2, 3, 4, 5] ?_
 replace L2 := L2.gr g4
 refine sw 5 (.agg #[u0, u1, u2, u3]) rfl (rl 31 0 [u0, u1, u2, u3] L2) ?_
 simp only [p3, p4]
 refine se ?_
 have kq8 := g2.kp.trans (g3.kp.trans g4.kp)
 replace ha := ha.kp kq8
 refine ec 6 (whole_t ha (by omega) wa) ?_
 rintro e7 w7 ⟨rfl, g7⟩
 refine ⟨_, rfl, ?_⟩
 replace hB := hB.trans g7
 simp only [p3, p4]
 refine sv 7 (.bool true) ?_
 simp only [p3, p4]
 replace L3 := L3.gr (g4.trans g7)
 refine sw 8 (.agg #[v0, v1, v2, v3]) rfl (rl 31 0 [v0, v1, v2, v3] L3) ?_
 simp only [p3, p4]
 refine se ?_
 have kq10 := g2.kp.trans (g3.kp.trans (g4.kp.trans g7.kp))
 replace hb := hb.kp kq10
 refine ec 9 (whole_t hb (by omega) wb) ?_
 rintro e9 w9 ⟨rfl, g9⟩
 refine ⟨_, rfl, ?_⟩
 replace hB := hB.trans g9
 simp only [p3, p4]
 refine sv 10 (.bool true) ?_
 simp only [p3, p4]
 refine sq_nil ?_
 refine k6 _ _ ?_
 try clear k6 K6
 refine wp_cond_true rfl ?_
 refine wp_seq_k (fun K11 k11 => ?_)
 refine rg [0, 1, 2, 3, 4, 5, 6] ?_
 refine sv 11 (.pointer (some ⟨b2, 0, none⟩)) ?_
 simp only [p3, p4]
 replace L2 := L2.gr (g7.trans g9)
 refine sw 12 (.agg #[u0, u1]) rfl (rl 27 0 [u0, u1] L2) ?_
 simp only [p3, p4]
 refine sv 13 (.pointer (some ⟨b3, 0, none⟩)) ?_
 simp only [p3, p4]
 replace L3 := L3.gr g9
 refine sw 14 (.agg #[v0, v1]) rfl (rl 27 0 [v0, v1] L3) ?_
 simp only [p3, p4]
 refine se ?_
 have kq13 := g7.kp.trans g9.kp
 replace ha := ha.kp kq13
 replace hb := hb.kp g9.kp
 refine ec 15 (add_e (k + m) ha.num hb.num (by omega) (by omega) (by omega)) ?_
 rintro e12 w12 ⟨⟨x12, y12, rfl, h12⟩, g12⟩
 refine ⟨_, rfl, ?_⟩
 replace hB := hB.trans g12
 simp only [p3, p4]
 refine sv 16 (.agg #[x12, y12, (.bool false), (.slice none 0 0)]) ?_
 simp only [p3, p4]
 refine se ?_
 replace L4 := L4.gr (g7.trans (g9.trans g12))
 refine es 31 0 (.agg #[x12, y12, (.bool false), (.slice none 0 0)]) [x12, y12, (.bool false), (.slice none 0 0)] #[x12, y12, (.bool false), (.slice none 0 0)] L4 hB q4 ⟨h12.one0, h12.one1, rfl, rfl, trivial⟩ fun w14 st14 kp14 L4 hB => ?_
 refine sq_nil ?_
 refine k11 _ _ ?_
 try clear k11 K11
 refine wp_ret ?_
 simp only [Exit.then]
 refine bodyPost_ret (v := (.agg #[x12, y12, (.bool false), (.slice none 0 0)])) (ret_cell _ _ _ rfl rfl L4 (by kernel_rfl)) rfl ⟨?_, hB⟩
 replace h12 := h12.kp kp14
 exact ⟨_, _, _, _, rfl, by rw [← rat_int wa, ← rat_int wb, ← Rat.intCast_add]; exact IsRat.int h12 (by omega)⟩

set_option maxRecDepth 100000 in
set_option maxHeartbeats 1000000 in
theorem add_tf {k m : Nat} {u0 u1 u2 u3 v0 v1 v2 v3 : Value} {a b : Rat} {w : World} (ha : IsRat w k u0 u1 u2 u3 a) (hb : IsRat w m v0 v1 v2 v3 b) (_hk : k + m ≤ 100000) (wa : a.den = 1) (wb : b.den ≠ 1) :
    Calls Tryz.prog 30 #[(.agg #[u0, u1, u2, u3]), (.agg #[v0, v1, v2, v3])] w fun e w' => (∃ c0 c1 c2 c3, e = .returned (.agg #[c0, c1, c2, c3]) ∧ IsRat w' (k + m + 1) c0 c1 c2 c3 (a + b)) ∧ Gr w w' := by
 have hka := ha.big
 have hkb := hb.big
 go_enter Tryz.func30, Tryz.ntmps30
 have hB := Gr.refl w
 refine wp_seq_k (fun K1 k1 => ?_)
 refine rg [0, 1, 2] ?_
 refine se ?_
 refine eb 31 #[u0, u1, u2, u3] 2 hB fun b2 w2 g2 L2 o2 q2 hB => ?_
 simp only [p3, p4]
 refine se ?_
 refine eb 31 #[v0, v1, v2, v3] 3 hB fun b3 w3 g3 L3 o3 q3 hB => ?_
 simp only [p3, p4]
 refine se ?_
 refine ea 31 #[(.bool false), (.slice none 0 0), (.bool false), (.slice none 0 0)] 4 hB fun b4 w4 g4 L4 o4 q4 hB => ?_
 replace L2 := L2.gr g3
 have ne2_4 := L2.ne o4
 have ne3_4 := L3.ne o4
 simp only [p3, p4]
 refine sq_nil ?_
 refine k1 _ _ ?_
 try clear k1 K1
 refine wp_seq_k (fun K5 k5 => ?_)
 refine wp_seq_k (fun K6 k6 => ?_)
 refine rg [0, 1, 2, 3, 4, 5] ?_
 replace L2 := L2.gr g4
 refine sw 5 (.agg #[u0, u1, u2, u3]) rfl (rl 31 0 [u0, u1, u2, u3] L2) ?_
 simp only [p3, p4]
 refine se ?_
 have kq8 := g2.kp.trans (g3.kp.trans g4.kp)
 replace ha := ha.kp kq8
 refine ec 6 (whole_t ha (by omega) wa) ?_
 rintro e7 w7 ⟨rfl, g7⟩
 refine ⟨_, rfl, ?_⟩
 replace hB := hB.trans g7
 simp only [p3, p4]
 refine sv 7 (.bool true) ?_
 simp only [p3, p4]
 replace L3 := L3.gr (g4.trans g7)
 refine sw 8 (.agg #[v0, v1, v2, v3]) rfl (rl 31 0 [v0, v1, v2, v3] L3) ?_
 simp only [p3, p4]
 refine se ?_
 have kq10 := g2.kp.trans (g3.kp.trans (g4.kp.trans g7.kp))
 replace hb := hb.kp kq10
 refine ec 9 (whole_f hb (by omega) wb) ?_
 rintro e9 w9 ⟨rfl, g9⟩
 refine ⟨_, rfl, ?_⟩
 replace hB := hB.trans g9
 simp only [p3, p4]
 refine sv 10 (.bool false) ?_
 simp only [p3, p4]
 refine sq_nil ?_
 refine k6 _ _ ?_
 try clear k6 K6
 refine wp_cond_false rfl ?_
 refine wp_skip ?_
 refine k5 _ _ ?_
 try clear k5 K5
 refine wp_seq_k (fun K11 k11 => ?_)
 have gd40 := Gr.drew w9
 replace hB := hB.trans gd40
 replace L2 := L2.gr (g7.trans (g9.trans gd40))
 replace L3 := L3.gr (g9.trans gd40)
 refine wp_region_ord (fun w' => Lc w' b2 #[u0, u1, u2, u3] 31 ∧ Lc w' b3 #[v0, v1, v2, v3] 31) [(true, 0), (true, 1), (true, 2), (true, 5), (true, 6), (true, 7), (true, 11), (true, 13), (false, 3), (false, 4), (false, 8), (false, 9), (false, 10), (false, 12), (false, 14), (false, 15), (false, 16), (false, 17)] (by kernel_rfl) (by kernel_rfl) (by kernel_rfl) (by decide) (fun _ _ _ _ _ h => h) ⟨L2, L3⟩ ?_
 refine ov 17 (.pointer (some ⟨b2, 0, none⟩)) ?_
 simp only [p3, p4]
 refine ow 18 (.agg #[u0, u1]) rfl (fun w' hS => (rl 27 0 [u0, u1] hS.1)) ?_
 simp only [p3, p4]
 refine ow 19 (.agg #[v0, v1, v2, v3]) rfl (fun w' hS => (rl 31 0 [v0, v1, v2, v3] hS.2)) ?_
 simp only [p3, p4]
 refine ov 22 (.pointer (some ⟨b3, 0, none⟩)) ?_
 simp only [p3, p4]
 refine ow 23 (.agg #[v0, v1]) rfl (fun w' hS => (rl 27 0 [v0, v1] hS.2)) ?_
 simp only [p3, p4]
 refine ow 24 (.agg #[u0, u1, u2, u3]) rfl (fun w' hS => (rl 31 0 [u0, u1, u2, u3] hS.1)) ?_
 simp only [p3, p4]
 refine ow 28 (.agg #[u0, u1, u2, u3]) rfl (fun w' hS => (rl 31 0 [u0, u1, u2, u3] hS.1)) ?_
 simp only [p3, p4]
 refine ow 30 (.agg #[v0, v1, v2, v3]) rfl (fun w' hS => (rl 31 0 [v0, v1, v2, v3] hS.2)) ?_
 simp only [p3, p4]
 refine oe ?_
 have kq43 := g9.kp.trans gd40.kp
 replace hb := hb.kp kq43
 refine ec 20 (den_i hb) ?_
 rintro e42 w42 ⟨⟨x42, y42, rfl, h42⟩, g42⟩
 refine ⟨_, rfl, ?_⟩
 replace hB := hB.trans g42
 replace L2 := L2.gr g42
 replace L3 := L3.gr g42
 refine ⟨⟨L2, L3⟩, ?_⟩
 simp only [p3, p4]
 refine oe ?_
 have kq46 := g7.kp.trans (g9.kp.trans (gd40.kp.trans g42.kp))
 replace ha := ha.kp kq46
 refine ec 21 (mul_i ha.num h42 (by omega)) ?_
 rintro e45 w45 ⟨⟨x45, y45, rfl, h45⟩, g45⟩
 refine ⟨_, rfl, ?_⟩
 replace hB := hB.trans g45
 replace L2 := L2.gr g45
 replace L3 := L3.gr g45
 refine ⟨⟨L2, L3⟩, ?_⟩
 simp only [p3, p4]
 refine oe ?_
 replace ha := ha.kp g45.kp
 refine ec 25 (den_i ha) ?_
 rintro e48 w48 ⟨⟨x48, y48, rfl, h48⟩, g48⟩
 refine ⟨_, rfl, ?_⟩
 replace hB := hB.trans g48
 replace L2 := L2.gr g48
 replace L3 := L3.gr g48
 refine ⟨⟨L2, L3⟩, ?_⟩
 simp only [p3, p4]
 refine oe ?_
 have kq51 := g42.kp.trans (g45.kp.trans g48.kp)
 replace hb := hb.kp kq51
 refine ec 26 (mul_i hb.num h48 (by omega)) ?_
 rintro e50 w50 ⟨⟨x50, y50, rfl, h50⟩, g50⟩
 refine ⟨_, rfl, ?_⟩
 replace hB := hB.trans g50
 replace L2 := L2.gr g50
 replace L3 := L3.gr g50
 refine ⟨⟨L2, L3⟩, ?_⟩
 simp only [p3, p4]
 refine oe ?_
 have kq54 := g48.kp.trans g50.kp
 replace h45 := h45.kp kq54
 refine ec 27 (add_e (k + m) h45 h50 (by omega) (by omega) (by omega)) ?_
 rintro e53 w53 ⟨⟨x53, y53, rfl, h53⟩, g53⟩
 refine ⟨_, rfl, ?_⟩
 replace hB := hB.trans g53
 replace L2 := L2.gr g53
 replace L3 := L3.gr g53
 refine ⟨⟨L2, L3⟩, ?_⟩
 simp only [p3, p4]
 refine oe ?_
 have kq57 := g48.kp.trans (g50.kp.trans g53.kp)
 replace ha := ha.kp kq57
 refine ec 29 (den_i ha) ?_
 rintro e56 w56 ⟨⟨x56, y56, rfl, h56⟩, g56⟩
 refine ⟨_, rfl, ?_⟩
 replace hB := hB.trans g56
 replace L2 := L2.gr g56
 replace L3 := L3.gr g56
 refine ⟨⟨L2, L3⟩, ?_⟩
 simp only [p3, p4]
 refine oe ?_
 have kq60 := g50.kp.trans (g53.kp.trans g56.kp)
 replace hb := hb.kp kq60
 refine ec 31 (den_i hb) ?_
 rintro e59 w59 ⟨⟨x59, y59, rfl, h59⟩, g59⟩
 refine ⟨_, rfl, ?_⟩
 replace hB := hB.trans g59
 replace L2 := L2.gr g59
 replace L3 := L3.gr g59
 refine ⟨⟨L2, L3⟩, ?_⟩
 simp only [p3, p4]
 refine oe ?_
 replace h56 := h56.kp g59.kp
 refine ec 32 (mul_i h56 h59 (by omega)) ?_
 rintro e62 w62 ⟨⟨x62, y62, rfl, h62⟩, g62⟩
 refine ⟨_, rfl, ?_⟩
 replace hB := hB.trans g62
 replace L2 := L2.gr g62
 replace L3 := L3.gr g62
 refine ⟨⟨L2, L3⟩, ?_⟩
 simp only [p3, p4]
 refine oe ?_
 have kq65 := g56.kp.trans (g59.kp.trans g62.kp)
 replace h53 := h53.kp kq65
 refine ec 33 (reduced_i ((k + m + 1)) h53 h62 (Int.mul_pos (Int.natCast_pos.2 a.den_pos) (Int.natCast_pos.2 b.den_pos)) (by omega) (by omega) (by omega) (by omega)) ?_
 rintro e64 w64 ⟨⟨p64, q64, r64, s64, rfl, h64⟩, g64⟩
 refine ⟨_, rfl, ?_⟩
 replace hB := hB.trans g64
 replace L2 := L2.gr g64
 replace L3 := L3.gr g64
 refine ⟨⟨L2, L3⟩, ?_⟩
 simp only [p3, p4]
 refine oe ?_
 replace L4 := L4.gr (g7.trans (g9.trans (gd40.trans (g42.trans (g45.trans (g48.trans (g50.trans (g53.trans (g56.trans (g59.trans (g62.trans g64)))))))))))
 refine es 31 0 (.agg #[p64, q64, r64, s64]) [p64, q64, r64, s64] #[p64, q64, r64, s64] L4 hB q4 ⟨h64.one0, h64.one1, h64.one2, h64.one3, trivial⟩ fun w67 st67 kp67 L4 hB => ?_
 replace L2 := st67.lc L2 ne2_4
 replace L3 := st67.lc L3 ne3_4
 refine ⟨⟨L2, L3⟩, ?_⟩
 refine ord_nil ?_
 refine k11 _ _ ?_
 try clear k11 K11
 refine wp_ret ?_
 refine bodyPost_ret (v := (.agg #[p64, q64, r64, s64])) (ret_cell _ _ _ rfl rfl L4 (by kernel_rfl)) rfl ⟨?_, hB⟩
 replace h64 := h64.kp kp67
 exact ⟨_, _, _, _, rfl, by rw [← rat_add]; exact h64⟩

set_option maxRecDepth 100000 in
set_option maxHeartbeats 1000000 in
theorem add_f {k m : Nat} {u0 u1 u2 u3 v0 v1 v2 v3 : Value} {a b : Rat} {w : World} (ha : IsRat w k u0 u1 u2 u3 a) (hb : IsRat w m v0 v1 v2 v3 b) (_hk : k + m ≤ 100000) (wa : a.den ≠ 1) :
    Calls Tryz.prog 30 #[(.agg #[u0, u1, u2, u3]), (.agg #[v0, v1, v2, v3])] w fun e w' => (∃ c0 c1 c2 c3, e = .returned (.agg #[c0, c1, c2, c3]) ∧ IsRat w' (k + m + 1) c0 c1 c2 c3 (a + b)) ∧ Gr w w' := by
 have hka := ha.big
 have hkb := hb.big
 go_enter Tryz.func30, Tryz.ntmps30
 have hB := Gr.refl w
 refine wp_seq_k (fun K1 k1 => ?_)
 refine rg [0, 1, 2] ?_
 refine se ?_
 refine eb 31 #[u0, u1, u2, u3] 2 hB fun b2 w2 g2 L2 o2 q2 hB => ?_
 simp only [p3, p4]
 refine se ?_
 refine eb 31 #[v0, v1, v2, v3] 3 hB fun b3 w3 g3 L3 o3 q3 hB => ?_
 simp only [p3, p4]
 refine se ?_
 refine ea 31 #[(.bool false), (.slice none 0 0), (.bool false), (.slice none 0 0)] 4 hB fun b4 w4 g4 L4 o4 q4 hB => ?_
 replace L2 := L2.gr g3
 have ne2_4 := L2.ne o4
 have ne3_4 := L3.ne o4
 simp only [p3, p4]
 refine sq_nil ?_
 refine k1 _ _ ?_
 try clear k1 K1
 refine wp_seq_k (fun K5 k5 => ?_)
 refine wp_seq_k (fun K6 k6 => ?_)
 refine rg [0, 1, 2, 3, 4, 5] ?_
 replace L2 := L2.gr g4
 refine sw 5 (.agg #[u0, u1, u2, u3]) rfl (rl 31 0 [u0, u1, u2, u3] L2) ?_
 simp only [p3, p4]
 refine se ?_
 have kq8 := g2.kp.trans (g3.kp.trans g4.kp)
 replace ha := ha.kp kq8
 refine ec 6 (whole_f ha (by omega) wa) ?_
 rintro e7 w7 ⟨rfl, g7⟩
 refine ⟨_, rfl, ?_⟩
 replace hB := hB.trans g7
 simp only [p3, p4]
 refine sv 7 (.bool false) ?_
 simp only [p3, p4]
 refine ss 8 ?_
 simp only [p3, p4]
 refine ss 9 ?_
 simp only [p3, p4]
 refine sv 10 (.bool false) ?_
 simp only [p3, p4]
 refine sq_nil ?_
 refine k6 _ _ ?_
 try clear k6 K6
 refine wp_cond_false rfl ?_
 refine wp_skip ?_
 refine k5 _ _ ?_
 try clear k5 K5
 refine wp_seq_k (fun K9 k9 => ?_)
 have gd38 := Gr.drew w7
 replace hB := hB.trans gd38
 replace L2 := L2.gr (g7.trans gd38)
 replace L3 := L3.gr (g4.trans (g7.trans gd38))
 refine wp_region_ord (fun w' => Lc w' b2 #[u0, u1, u2, u3] 31 ∧ Lc w' b3 #[v0, v1, v2, v3] 31) [(true, 0), (true, 1), (true, 2), (true, 5), (true, 6), (true, 7), (true, 11), (true, 13), (false, 3), (false, 4), (false, 8), (false, 9), (false, 10), (false, 12), (false, 14), (false, 15), (false, 16), (false, 17)] (by kernel_rfl) (by kernel_rfl) (by kernel_rfl) (by decide) (fun _ _ _ _ _ h => h) ⟨L2, L3⟩ ?_
 refine ov 17 (.pointer (some ⟨b2, 0, none⟩)) ?_
 simp only [p3, p4]
 refine ow 18 (.agg #[u0, u1]) rfl (fun w' hS => (rl 27 0 [u0, u1] hS.1)) ?_
 simp only [p3, p4]
 refine ow 19 (.agg #[v0, v1, v2, v3]) rfl (fun w' hS => (rl 31 0 [v0, v1, v2, v3] hS.2)) ?_
 simp only [p3, p4]
 refine ov 22 (.pointer (some ⟨b3, 0, none⟩)) ?_
 simp only [p3, p4]
 refine ow 23 (.agg #[v0, v1]) rfl (fun w' hS => (rl 27 0 [v0, v1] hS.2)) ?_
 simp only [p3, p4]
 refine ow 24 (.agg #[u0, u1, u2, u3]) rfl (fun w' hS => (rl 31 0 [u0, u1, u2, u3] hS.1)) ?_
 simp only [p3, p4]
 refine ow 28 (.agg #[u0, u1, u2, u3]) rfl (fun w' hS => (rl 31 0 [u0, u1, u2, u3] hS.1)) ?_
 simp only [p3, p4]
 refine ow 30 (.agg #[v0, v1, v2, v3]) rfl (fun w' hS => (rl 31 0 [v0, v1, v2, v3] hS.2)) ?_
 simp only [p3, p4]
 refine oe ?_
 have kq41 := g2.kp.trans (g3.kp.trans (g4.kp.trans (g7.kp.trans gd38.kp)))
 replace hb := hb.kp kq41
 refine ec 20 (den_i hb) ?_
 rintro e40 w40 ⟨⟨x40, y40, rfl, h40⟩, g40⟩
 refine ⟨_, rfl, ?_⟩
 replace hB := hB.trans g40
 replace L2 := L2.gr g40
 replace L3 := L3.gr g40
 refine ⟨⟨L2, L3⟩, ?_⟩
 simp only [p3, p4]
 refine oe ?_
 have kq44 := g7.kp.trans (gd38.kp.trans g40.kp)
 replace ha := ha.kp kq44
 refine ec 21 (mul_i ha.num h40 (by omega)) ?_
 rintro e43 w43 ⟨⟨x43, y43, rfl, h43⟩, g43⟩
 refine ⟨_, rfl, ?_⟩
 replace hB := hB.trans g43
 replace L2 := L2.gr g43
 replace L3 := L3.gr g43
 refine ⟨⟨L2, L3⟩, ?_⟩
 simp only [p3, p4]
 refine oe ?_
 replace ha := ha.kp g43.kp
 refine ec 25 (den_i ha) ?_
 rintro e46 w46 ⟨⟨x46, y46, rfl, h46⟩, g46⟩
 refine ⟨_, rfl, ?_⟩
 replace hB := hB.trans g46
 replace L2 := L2.gr g46
 replace L3 := L3.gr g46
 refine ⟨⟨L2, L3⟩, ?_⟩
 simp only [p3, p4]
 refine oe ?_
 have kq49 := g40.kp.trans (g43.kp.trans g46.kp)
 replace hb := hb.kp kq49
 refine ec 26 (mul_i hb.num h46 (by omega)) ?_
 rintro e48 w48 ⟨⟨x48, y48, rfl, h48⟩, g48⟩
 refine ⟨_, rfl, ?_⟩
 replace hB := hB.trans g48
 replace L2 := L2.gr g48
 replace L3 := L3.gr g48
 refine ⟨⟨L2, L3⟩, ?_⟩
 simp only [p3, p4]
 refine oe ?_
 have kq52 := g46.kp.trans g48.kp
 replace h43 := h43.kp kq52
 refine ec 27 (add_e (k + m) h43 h48 (by omega) (by omega) (by omega)) ?_
 rintro e51 w51 ⟨⟨x51, y51, rfl, h51⟩, g51⟩
 refine ⟨_, rfl, ?_⟩
 replace hB := hB.trans g51
 replace L2 := L2.gr g51
 replace L3 := L3.gr g51
 refine ⟨⟨L2, L3⟩, ?_⟩
 simp only [p3, p4]
 refine oe ?_
 have kq55 := g46.kp.trans (g48.kp.trans g51.kp)
 replace ha := ha.kp kq55
 refine ec 29 (den_i ha) ?_
 rintro e54 w54 ⟨⟨x54, y54, rfl, h54⟩, g54⟩
 refine ⟨_, rfl, ?_⟩
 replace hB := hB.trans g54
 replace L2 := L2.gr g54
 replace L3 := L3.gr g54
 refine ⟨⟨L2, L3⟩, ?_⟩
 simp only [p3, p4]
 refine oe ?_
 have kq58 := g48.kp.trans (g51.kp.trans g54.kp)
 replace hb := hb.kp kq58
 refine ec 31 (den_i hb) ?_
 rintro e57 w57 ⟨⟨x57, y57, rfl, h57⟩, g57⟩
 refine ⟨_, rfl, ?_⟩
 replace hB := hB.trans g57
 replace L2 := L2.gr g57
 replace L3 := L3.gr g57
 refine ⟨⟨L2, L3⟩, ?_⟩
 simp only [p3, p4]
 refine oe ?_
 replace h54 := h54.kp g57.kp
 refine ec 32 (mul_i h54 h57 (by omega)) ?_
 rintro e60 w60 ⟨⟨x60, y60, rfl, h60⟩, g60⟩
 refine ⟨_, rfl, ?_⟩
 replace hB := hB.trans g60
 replace L2 := L2.gr g60
 replace L3 := L3.gr g60
 refine ⟨⟨L2, L3⟩, ?_⟩
 simp only [p3, p4]
 refine oe ?_
 have kq63 := g54.kp.trans (g57.kp.trans g60.kp)
 replace h51 := h51.kp kq63
 refine ec 33 (reduced_i ((k + m + 1)) h51 h60 (Int.mul_pos (Int.natCast_pos.2 a.den_pos) (Int.natCast_pos.2 b.den_pos)) (by omega) (by omega) (by omega) (by omega)) ?_
 rintro e62 w62 ⟨⟨p62, q62, r62, s62, rfl, h62⟩, g62⟩
 refine ⟨_, rfl, ?_⟩
 replace hB := hB.trans g62
 replace L2 := L2.gr g62
 replace L3 := L3.gr g62
 refine ⟨⟨L2, L3⟩, ?_⟩
 simp only [p3, p4]
 refine oe ?_
 replace L4 := L4.gr (g7.trans (gd38.trans (g40.trans (g43.trans (g46.trans (g48.trans (g51.trans (g54.trans (g57.trans (g60.trans g62))))))))))
 refine es 31 0 (.agg #[p62, q62, r62, s62]) [p62, q62, r62, s62] #[p62, q62, r62, s62] L4 hB q4 ⟨h62.one0, h62.one1, h62.one2, h62.one3, trivial⟩ fun w65 st65 kp65 L4 hB => ?_
 replace L2 := st65.lc L2 ne2_4
 replace L3 := st65.lc L3 ne3_4
 refine ⟨⟨L2, L3⟩, ?_⟩
 refine ord_nil ?_
 refine k9 _ _ ?_
 try clear k9 K9
 refine wp_ret ?_
 refine bodyPost_ret (v := (.agg #[p62, q62, r62, s62])) (ret_cell _ _ _ rfl rfl L4 (by kernel_rfl)) rfl ⟨?_, hB⟩
 replace h62 := h62.kp kp65
 exact ⟨_, _, _, _, rfl, by rw [← rat_add]; exact h62⟩

theorem add_r {k m : Nat} {u0 u1 u2 u3 v0 v1 v2 v3 : Value} {a b : Rat} {w : World} (ha : IsRat w k u0 u1 u2 u3 a) (hb : IsRat w m v0 v1 v2 v3 b) (hk : k + m ≤ 100000) :
    Calls Tryz.prog 30 #[.agg #[u0, u1, u2, u3], .agg #[v0, v1, v2, v3]] w fun e w' => (∃ c0 c1 c2 c3, e = .returned (.agg #[c0, c1, c2, c3]) ∧ IsRat w' (k + m + 1) c0 c1 c2 c3 (a + b)) ∧ Gr w w' := by
  by_cases wa : a.den = 1
  · by_cases wb : b.den = 1
    · exact add_tt ha hb hk wa wb
    · exact add_tf ha hb hk wa wb
  · exact add_f ha hb hk wa

set_option maxRecDepth 100000 in
set_option maxHeartbeats 1000000 in
theorem mul_tt {k m : Nat} {u0 u1 u2 u3 v0 v1 v2 v3 : Value} {a b : Rat} {w : World} (ha : IsRat w k u0 u1 u2 u3 a) (hb : IsRat w m v0 v1 v2 v3 b) (_hk : k + m ≤ 100000) (wa : a.den = 1) (wb : b.den = 1) :
    Calls Tryz.prog 47 #[(.agg #[u0, u1, u2, u3]), (.agg #[v0, v1, v2, v3])] w fun e w' => (∃ c0 c1 c2 c3, e = .returned (.agg #[c0, c1, c2, c3]) ∧ IsRat w' (k + m) c0 c1 c2 c3 (a * b)) ∧ Gr w w' := by
 have hka := ha.big
 have hkb := hb.big
 go_enter Tryz.func47, Tryz.ntmps47
 have hB := Gr.refl w
 refine wp_seq_k (fun K1 k1 => ?_)
 refine rg [0, 1, 2] ?_
 refine se ?_
 refine eb 31 #[u0, u1, u2, u3] 2 hB fun b2 w2 g2 L2 o2 q2 hB => ?_
 simp only [p3, p4]
 refine se ?_
 refine eb 31 #[v0, v1, v2, v3] 3 hB fun b3 w3 g3 L3 o3 q3 hB => ?_
 simp only [p3, p4]
 refine se ?_
 refine ea 31 #[(.bool false), (.slice none 0 0), (.bool false), (.slice none 0 0)] 4 hB fun b4 w4 g4 L4 o4 q4 hB => ?_
 replace L2 := L2.gr g3
 simp only [p3, p4]
 refine sq_nil ?_
 refine k1 _ _ ?_
 try clear k1 K1
 refine wp_seq_k (fun K5 k5 => ?_)
 refine wp_seq_k (fun K6 k6 => ?_)
 refine rg [0, 1, 2, 3, 4, 5] ?_
 replace L2 := L2.gr g4
 refine sw 5 (.agg #[u0, u1, u2, u3]) rfl (rl 31 0 [u0, u1, u2, u3] L2) ?_
 simp only [p3, p4]
 refine se ?_
 have kq8 := g2.kp.trans (g3.kp.trans g4.kp)
 replace ha := ha.kp kq8
 refine ec 6 (whole_t ha (by omega) wa) ?_
 rintro e7 w7 ⟨rfl, g7⟩
 refine ⟨_, rfl, ?_⟩
 replace hB := hB.trans g7
 simp only [p3, p4]
 refine sv 7 (.bool true) ?_
 simp only [p3, p4]
 replace L3 := L3.gr (g4.trans g7)
 refine sw 8 (.agg #[v0, v1, v2, v3]) rfl (rl 31 0 [v0, v1, v2, v3] L3) ?_
 simp only [p3, p4]
 refine se ?_
 have kq10 := g2.kp.trans (g3.kp.trans (g4.kp.trans g7.kp))
 replace hb := hb.kp kq10
 refine ec 9 (whole_t hb (by omega) wb) ?_
 rintro e9 w9 ⟨rfl, g9⟩
 refine ⟨_, rfl, ?_⟩
 replace hB := hB.trans g9
 simp only [p3, p4]
 refine sv 10 (.bool true) ?_
 simp only [p3, p4]
 refine sq_nil ?_
 refine k6 _ _ ?_
 try clear k6 K6
 refine wp_cond_true rfl ?_
 refine wp_seq_k (fun K11 k11 => ?_)
 refine rg [0, 1, 2, 3, 4, 5, 6] ?_
 refine sv 11 (.pointer (some ⟨b2, 0, none⟩)) ?_
 simp only [p3, p4]
 replace L2 := L2.gr (g7.trans g9)
 refine sw 12 (.agg #[u0, u1]) rfl (rl 27 0 [u0, u1] L2) ?_
 simp only [p3, p4]
 refine sv 13 (.pointer (some ⟨b3, 0, none⟩)) ?_
 simp only [p3, p4]
 replace L3 := L3.gr g9
 refine sw 14 (.agg #[v0, v1]) rfl (rl 27 0 [v0, v1] L3) ?_
 simp only [p3, p4]
 refine se ?_
 have kq13 := g7.kp.trans g9.kp
 replace ha := ha.kp kq13
 replace hb := hb.kp g9.kp
 refine ec 15 (mul_i ha.num hb.num (by omega)) ?_
 rintro e12 w12 ⟨⟨x12, y12, rfl, h12⟩, g12⟩
 refine ⟨_, rfl, ?_⟩
 replace hB := hB.trans g12
 simp only [p3, p4]
 refine sv 16 (.agg #[x12, y12, (.bool false), (.slice none 0 0)]) ?_
 simp only [p3, p4]
 refine se ?_
 replace L4 := L4.gr (g7.trans (g9.trans g12))
 refine es 31 0 (.agg #[x12, y12, (.bool false), (.slice none 0 0)]) [x12, y12, (.bool false), (.slice none 0 0)] #[x12, y12, (.bool false), (.slice none 0 0)] L4 hB q4 ⟨h12.one0, h12.one1, rfl, rfl, trivial⟩ fun w14 st14 kp14 L4 hB => ?_
 refine sq_nil ?_
 refine k11 _ _ ?_
 try clear k11 K11
 refine wp_ret ?_
 simp only [Exit.then]
 refine bodyPost_ret (v := (.agg #[x12, y12, (.bool false), (.slice none 0 0)])) (ret_cell _ _ _ rfl rfl L4 (by kernel_rfl)) rfl ⟨?_, hB⟩
 replace h12 := h12.kp kp14
 exact ⟨_, _, _, _, rfl, by rw [← rat_int wa, ← rat_int wb, ← Rat.intCast_mul]; exact IsRat.int h12 (by omega)⟩

set_option maxRecDepth 100000 in
set_option maxHeartbeats 1000000 in
theorem mul_tf {k m : Nat} {u0 u1 u2 u3 v0 v1 v2 v3 : Value} {a b : Rat} {w : World} (ha : IsRat w k u0 u1 u2 u3 a) (hb : IsRat w m v0 v1 v2 v3 b) (_hk : k + m ≤ 100000) (wa : a.den = 1) (wb : b.den ≠ 1) :
    Calls Tryz.prog 47 #[(.agg #[u0, u1, u2, u3]), (.agg #[v0, v1, v2, v3])] w fun e w' => (∃ c0 c1 c2 c3, e = .returned (.agg #[c0, c1, c2, c3]) ∧ IsRat w' (k + m) c0 c1 c2 c3 (a * b)) ∧ Gr w w' := by
 have hka := ha.big
 have hkb := hb.big
 go_enter Tryz.func47, Tryz.ntmps47
 have hB := Gr.refl w
 refine wp_seq_k (fun K1 k1 => ?_)
 refine rg [0, 1, 2] ?_
 refine se ?_
 refine eb 31 #[u0, u1, u2, u3] 2 hB fun b2 w2 g2 L2 o2 q2 hB => ?_
 simp only [p3, p4]
 refine se ?_
 refine eb 31 #[v0, v1, v2, v3] 3 hB fun b3 w3 g3 L3 o3 q3 hB => ?_
 simp only [p3, p4]
 refine se ?_
 refine ea 31 #[(.bool false), (.slice none 0 0), (.bool false), (.slice none 0 0)] 4 hB fun b4 w4 g4 L4 o4 q4 hB => ?_
 replace L2 := L2.gr g3
 have ne2_4 := L2.ne o4
 have ne3_4 := L3.ne o4
 simp only [p3, p4]
 refine sq_nil ?_
 refine k1 _ _ ?_
 try clear k1 K1
 refine wp_seq_k (fun K5 k5 => ?_)
 refine wp_seq_k (fun K6 k6 => ?_)
 refine rg [0, 1, 2, 3, 4, 5] ?_
 replace L2 := L2.gr g4
 refine sw 5 (.agg #[u0, u1, u2, u3]) rfl (rl 31 0 [u0, u1, u2, u3] L2) ?_
 simp only [p3, p4]
 refine se ?_
 have kq8 := g2.kp.trans (g3.kp.trans g4.kp)
 replace ha := ha.kp kq8
 refine ec 6 (whole_t ha (by omega) wa) ?_
 rintro e7 w7 ⟨rfl, g7⟩
 refine ⟨_, rfl, ?_⟩
 replace hB := hB.trans g7
 simp only [p3, p4]
 refine sv 7 (.bool true) ?_
 simp only [p3, p4]
 replace L3 := L3.gr (g4.trans g7)
 refine sw 8 (.agg #[v0, v1, v2, v3]) rfl (rl 31 0 [v0, v1, v2, v3] L3) ?_
 simp only [p3, p4]
 refine se ?_
 have kq10 := g2.kp.trans (g3.kp.trans (g4.kp.trans g7.kp))
 replace hb := hb.kp kq10
 refine ec 9 (whole_f hb (by omega) wb) ?_
 rintro e9 w9 ⟨rfl, g9⟩
 refine ⟨_, rfl, ?_⟩
 replace hB := hB.trans g9
 simp only [p3, p4]
 refine sv 10 (.bool false) ?_
 simp only [p3, p4]
 refine sq_nil ?_
 refine k6 _ _ ?_
 try clear k6 K6
 refine wp_cond_false rfl ?_
 refine wp_skip ?_
 refine k5 _ _ ?_
 try clear k5 K5
 refine wp_seq_k (fun K11 k11 => ?_)
 have gd29 := Gr.drew w9
 replace hB := hB.trans gd29
 replace L2 := L2.gr (g7.trans (g9.trans gd29))
 replace L3 := L3.gr (g9.trans gd29)
 refine wp_region_ord (fun w' => Lc w' b2 #[u0, u1, u2, u3] 31 ∧ Lc w' b3 #[v0, v1, v2, v3] 31) [(true, 0), (true, 1), (true, 2), (true, 3), (true, 5), (true, 7), (false, 4), (false, 6), (false, 8), (false, 9), (false, 10), (false, 11)] (by kernel_rfl) (by kernel_rfl) (by kernel_rfl) (by decide) (fun _ _ _ _ _ h => h) ⟨L2, L3⟩ ?_
 refine ov 17 (.pointer (some ⟨b2, 0, none⟩)) ?_
 simp only [p3, p4]
 refine ow 18 (.agg #[u0, u1]) rfl (fun w' hS => (rl 27 0 [u0, u1] hS.1)) ?_
 simp only [p3, p4]
 refine ov 19 (.pointer (some ⟨b3, 0, none⟩)) ?_
 simp only [p3, p4]
 refine ow 20 (.agg #[v0, v1]) rfl (fun w' hS => (rl 27 0 [v0, v1] hS.2)) ?_
 simp only [p3, p4]
 refine ow 22 (.agg #[u0, u1, u2, u3]) rfl (fun w' hS => (rl 31 0 [u0, u1, u2, u3] hS.1)) ?_
 simp only [p3, p4]
 refine ow 24 (.agg #[v0, v1, v2, v3]) rfl (fun w' hS => (rl 31 0 [v0, v1, v2, v3] hS.2)) ?_
 simp only [p3, p4]
 refine oe ?_
 have kq32 := g7.kp.trans (g9.kp.trans gd29.kp)
 replace ha := ha.kp kq32
 have kq33 := g9.kp.trans gd29.kp
 replace hb := hb.kp kq33
 refine ec 21 (mul_i ha.num hb.num (by omega)) ?_
 rintro e31 w31 ⟨⟨x31, y31, rfl, h31⟩, g31⟩
 refine ⟨_, rfl, ?_⟩
 replace hB := hB.trans g31
 replace L2 := L2.gr g31
 replace L3 := L3.gr g31
 refine ⟨⟨L2, L3⟩, ?_⟩
 simp only [p3, p4]
 refine oe ?_
 replace ha := ha.kp g31.kp
 refine ec 23 (den_i ha) ?_
 rintro e35 w35 ⟨⟨x35, y35, rfl, h35⟩, g35⟩
 refine ⟨_, rfl, ?_⟩
 replace hB := hB.trans g35
 replace L2 := L2.gr g35
 replace L3 := L3.gr g35
 refine ⟨⟨L2, L3⟩, ?_⟩
 simp only [p3, p4]
 refine oe ?_
 have kq38 := g31.kp.trans g35.kp
 replace hb := hb.kp kq38
 refine ec 25 (den_i hb) ?_
 rintro e37 w37 ⟨⟨x37, y37, rfl, h37⟩, g37⟩
 refine ⟨_, rfl, ?_⟩
 replace hB := hB.trans g37
 replace L2 := L2.gr g37
 replace L3 := L3.gr g37
 refine ⟨⟨L2, L3⟩, ?_⟩
 simp only [p3, p4]
 refine oe ?_
 replace h35 := h35.kp g37.kp
 refine ec 26 (mul_i h35 h37 (by omega)) ?_
 rintro e40 w40 ⟨⟨x40, y40, rfl, h40⟩, g40⟩
 refine ⟨_, rfl, ?_⟩
 replace hB := hB.trans g40
 replace L2 := L2.gr g40
 replace L3 := L3.gr g40
 refine ⟨⟨L2, L3⟩, ?_⟩
 simp only [p3, p4]
 refine oe ?_
 have kq43 := g35.kp.trans (g37.kp.trans g40.kp)
 replace h31 := h31.kp kq43
 refine ec 27 (reduced_i ((k + m)) h31 h40 (Int.mul_pos (Int.natCast_pos.2 a.den_pos) (Int.natCast_pos.2 b.den_pos)) (by omega) (by omega) (by omega) (by omega)) ?_
 rintro e42 w42 ⟨⟨p42, q42, r42, s42, rfl, h42⟩, g42⟩
 refine ⟨_, rfl, ?_⟩
 replace hB := hB.trans g42
 replace L2 := L2.gr g42
 replace L3 := L3.gr g42
 refine ⟨⟨L2, L3⟩, ?_⟩
 simp only [p3, p4]
 refine oe ?_
 replace L4 := L4.gr (g7.trans (g9.trans (gd29.trans (g31.trans (g35.trans (g37.trans (g40.trans g42)))))))
 refine es 31 0 (.agg #[p42, q42, r42, s42]) [p42, q42, r42, s42] #[p42, q42, r42, s42] L4 hB q4 ⟨h42.one0, h42.one1, h42.one2, h42.one3, trivial⟩ fun w45 st45 kp45 L4 hB => ?_
 replace L2 := st45.lc L2 ne2_4
 replace L3 := st45.lc L3 ne3_4
 refine ⟨⟨L2, L3⟩, ?_⟩
 refine ord_nil ?_
 refine k11 _ _ ?_
 try clear k11 K11
 refine wp_ret ?_
 refine bodyPost_ret (v := (.agg #[p42, q42, r42, s42])) (ret_cell _ _ _ rfl rfl L4 (by kernel_rfl)) rfl ⟨?_, hB⟩
 replace h42 := h42.kp kp45
 exact ⟨_, _, _, _, rfl, by rw [← rat_mul]; exact h42⟩

set_option maxRecDepth 100000 in
set_option maxHeartbeats 1000000 in
theorem mul_f {k m : Nat} {u0 u1 u2 u3 v0 v1 v2 v3 : Value} {a b : Rat} {w : World} (ha : IsRat w k u0 u1 u2 u3 a) (hb : IsRat w m v0 v1 v2 v3 b) (_hk : k + m ≤ 100000) (wa : a.den ≠ 1) :
    Calls Tryz.prog 47 #[(.agg #[u0, u1, u2, u3]), (.agg #[v0, v1, v2, v3])] w fun e w' => (∃ c0 c1 c2 c3, e = .returned (.agg #[c0, c1, c2, c3]) ∧ IsRat w' (k + m) c0 c1 c2 c3 (a * b)) ∧ Gr w w' := by
 have hka := ha.big
 have hkb := hb.big
 go_enter Tryz.func47, Tryz.ntmps47
 have hB := Gr.refl w
 refine wp_seq_k (fun K1 k1 => ?_)
 refine rg [0, 1, 2] ?_
 refine se ?_
 refine eb 31 #[u0, u1, u2, u3] 2 hB fun b2 w2 g2 L2 o2 q2 hB => ?_
 simp only [p3, p4]
 refine se ?_
 refine eb 31 #[v0, v1, v2, v3] 3 hB fun b3 w3 g3 L3 o3 q3 hB => ?_
 simp only [p3, p4]
 refine se ?_
 refine ea 31 #[(.bool false), (.slice none 0 0), (.bool false), (.slice none 0 0)] 4 hB fun b4 w4 g4 L4 o4 q4 hB => ?_
 replace L2 := L2.gr g3
 have ne2_4 := L2.ne o4
 have ne3_4 := L3.ne o4
 simp only [p3, p4]
 refine sq_nil ?_
 refine k1 _ _ ?_
 try clear k1 K1
 refine wp_seq_k (fun K5 k5 => ?_)
 refine wp_seq_k (fun K6 k6 => ?_)
 refine rg [0, 1, 2, 3, 4, 5] ?_
 replace L2 := L2.gr g4
 refine sw 5 (.agg #[u0, u1, u2, u3]) rfl (rl 31 0 [u0, u1, u2, u3] L2) ?_
 simp only [p3, p4]
 refine se ?_
 have kq8 := g2.kp.trans (g3.kp.trans g4.kp)
 replace ha := ha.kp kq8
 refine ec 6 (whole_f ha (by omega) wa) ?_
 rintro e7 w7 ⟨rfl, g7⟩
 refine ⟨_, rfl, ?_⟩
 replace hB := hB.trans g7
 simp only [p3, p4]
 refine sv 7 (.bool false) ?_
 simp only [p3, p4]
 refine ss 8 ?_
 simp only [p3, p4]
 refine ss 9 ?_
 simp only [p3, p4]
 refine sv 10 (.bool false) ?_
 simp only [p3, p4]
 refine sq_nil ?_
 refine k6 _ _ ?_
 try clear k6 K6
 refine wp_cond_false rfl ?_
 refine wp_skip ?_
 refine k5 _ _ ?_
 try clear k5 K5
 refine wp_seq_k (fun K9 k9 => ?_)
 have gd27 := Gr.drew w7
 replace hB := hB.trans gd27
 replace L2 := L2.gr (g7.trans gd27)
 replace L3 := L3.gr (g4.trans (g7.trans gd27))
 refine wp_region_ord (fun w' => Lc w' b2 #[u0, u1, u2, u3] 31 ∧ Lc w' b3 #[v0, v1, v2, v3] 31) [(true, 0), (true, 1), (true, 2), (true, 3), (true, 5), (true, 7), (false, 4), (false, 6), (false, 8), (false, 9), (false, 10), (false, 11)] (by kernel_rfl) (by kernel_rfl) (by kernel_rfl) (by decide) (fun _ _ _ _ _ h => h) ⟨L2, L3⟩ ?_
 refine ov 17 (.pointer (some ⟨b2, 0, none⟩)) ?_
 simp only [p3, p4]
 refine ow 18 (.agg #[u0, u1]) rfl (fun w' hS => (rl 27 0 [u0, u1] hS.1)) ?_
 simp only [p3, p4]
 refine ov 19 (.pointer (some ⟨b3, 0, none⟩)) ?_
 simp only [p3, p4]
 refine ow 20 (.agg #[v0, v1]) rfl (fun w' hS => (rl 27 0 [v0, v1] hS.2)) ?_
 simp only [p3, p4]
 refine ow 22 (.agg #[u0, u1, u2, u3]) rfl (fun w' hS => (rl 31 0 [u0, u1, u2, u3] hS.1)) ?_
 simp only [p3, p4]
 refine ow 24 (.agg #[v0, v1, v2, v3]) rfl (fun w' hS => (rl 31 0 [v0, v1, v2, v3] hS.2)) ?_
 simp only [p3, p4]
 refine oe ?_
 have kq30 := g7.kp.trans gd27.kp
 replace ha := ha.kp kq30
 have kq31 := g2.kp.trans (g3.kp.trans (g4.kp.trans (g7.kp.trans gd27.kp)))
 replace hb := hb.kp kq31
 refine ec 21 (mul_i ha.num hb.num (by omega)) ?_
 rintro e29 w29 ⟨⟨x29, y29, rfl, h29⟩, g29⟩
 refine ⟨_, rfl, ?_⟩
 replace hB := hB.trans g29
 replace L2 := L2.gr g29
 replace L3 := L3.gr g29
 refine ⟨⟨L2, L3⟩, ?_⟩
 simp only [p3, p4]
 refine oe ?_
 replace ha := ha.kp g29.kp
 refine ec 23 (den_i ha) ?_
 rintro e33 w33 ⟨⟨x33, y33, rfl, h33⟩, g33⟩
 refine ⟨_, rfl, ?_⟩
 replace hB := hB.trans g33
 replace L2 := L2.gr g33
 replace L3 := L3.gr g33
 refine ⟨⟨L2, L3⟩, ?_⟩
 simp only [p3, p4]
 refine oe ?_
 have kq36 := g29.kp.trans g33.kp
 replace hb := hb.kp kq36
 refine ec 25 (den_i hb) ?_
 rintro e35 w35 ⟨⟨x35, y35, rfl, h35⟩, g35⟩
 refine ⟨_, rfl, ?_⟩
 replace hB := hB.trans g35
 replace L2 := L2.gr g35
 replace L3 := L3.gr g35
 refine ⟨⟨L2, L3⟩, ?_⟩
 simp only [p3, p4]
 refine oe ?_
 replace h33 := h33.kp g35.kp
 refine ec 26 (mul_i h33 h35 (by omega)) ?_
 rintro e38 w38 ⟨⟨x38, y38, rfl, h38⟩, g38⟩
 refine ⟨_, rfl, ?_⟩
 replace hB := hB.trans g38
 replace L2 := L2.gr g38
 replace L3 := L3.gr g38
 refine ⟨⟨L2, L3⟩, ?_⟩
 simp only [p3, p4]
 refine oe ?_
 have kq41 := g33.kp.trans (g35.kp.trans g38.kp)
 replace h29 := h29.kp kq41
 refine ec 27 (reduced_i ((k + m)) h29 h38 (Int.mul_pos (Int.natCast_pos.2 a.den_pos) (Int.natCast_pos.2 b.den_pos)) (by omega) (by omega) (by omega) (by omega)) ?_
 rintro e40 w40 ⟨⟨p40, q40, r40, s40, rfl, h40⟩, g40⟩
 refine ⟨_, rfl, ?_⟩
 replace hB := hB.trans g40
 replace L2 := L2.gr g40
 replace L3 := L3.gr g40
 refine ⟨⟨L2, L3⟩, ?_⟩
 simp only [p3, p4]
 refine oe ?_
 replace L4 := L4.gr (g7.trans (gd27.trans (g29.trans (g33.trans (g35.trans (g38.trans g40))))))
 refine es 31 0 (.agg #[p40, q40, r40, s40]) [p40, q40, r40, s40] #[p40, q40, r40, s40] L4 hB q4 ⟨h40.one0, h40.one1, h40.one2, h40.one3, trivial⟩ fun w43 st43 kp43 L4 hB => ?_
 replace L2 := st43.lc L2 ne2_4
 replace L3 := st43.lc L3 ne3_4
 refine ⟨⟨L2, L3⟩, ?_⟩
 refine ord_nil ?_
 refine k9 _ _ ?_
 try clear k9 K9
 refine wp_ret ?_
 refine bodyPost_ret (v := (.agg #[p40, q40, r40, s40])) (ret_cell _ _ _ rfl rfl L4 (by kernel_rfl)) rfl ⟨?_, hB⟩
 replace h40 := h40.kp kp43
 exact ⟨_, _, _, _, rfl, by rw [← rat_mul]; exact h40⟩

theorem mul_r {k m : Nat} {u0 u1 u2 u3 v0 v1 v2 v3 : Value} {a b : Rat} {w : World} (ha : IsRat w k u0 u1 u2 u3 a) (hb : IsRat w m v0 v1 v2 v3 b) (hk : k + m ≤ 100000) :
    Calls Tryz.prog 47 #[.agg #[u0, u1, u2, u3], .agg #[v0, v1, v2, v3]] w fun e w' => (∃ c0 c1 c2 c3, e = .returned (.agg #[c0, c1, c2, c3]) ∧ IsRat w' (k + m) c0 c1 c2 c3 (a * b)) ∧ Gr w w' := by
  by_cases wa : a.den = 1
  · by_cases wb : b.den = 1
    · exact mul_tt ha hb hk wa wb
    · exact mul_tf ha hb hk wa wb
  · exact mul_f ha hb hk wa

set_option maxRecDepth 100000 in
set_option maxHeartbeats 1000000 in
theorem neg_r {k : Nat} {u0 u1 u2 u3 : Value} {a : Rat} {w : World} (ha : IsRat w k u0 u1 u2 u3 a)  :
    Calls Tryz.prog 34 #[(.agg #[u0, u1, u2, u3])] w fun e w' => (∃ c0 c1 c2 c3, e = .returned (.agg #[c0, c1, c2, c3]) ∧ IsRat w' k c0 c1 c2 c3 (-a)) ∧ Gr w w' := by
 go_enter Tryz.func34, Tryz.ntmps34
 have hB := Gr.refl w
 refine wp_seq_k (fun K1 k1 => ?_)
 refine rg [0, 1] ?_
 refine se ?_
 refine eb 31 #[u0, u1, u2, u3] 1 hB fun b2 w2 g2 L2 o2 q2 hB => ?_
 simp only [p3, p4]
 refine se ?_
 refine ea 31 #[(.bool false), (.slice none 0 0), (.bool false), (.slice none 0 0)] 2 hB fun b3 w3 g3 L3 o3 q3 hB => ?_
 have ne2_3 := L2.ne o3
 simp only [p3, p4]
 refine sq_nil ?_
 refine k1 _ _ ?_
 try clear k1 K1
 refine wp_seq_k (fun K4 k4 => ?_)
 have gd11 := Gr.drew w3
 replace hB := hB.trans gd11
 replace L2 := L2.gr (g3.trans gd11)
 refine wp_region_ord (fun w' => Lc w' b2 #[u0, u1, u2, u3] 31) [(true, 0), (true, 1), (true, 3), (true, 4), (false, 2), (true, 5), (false, 6)] (by kernel_rfl) (by kernel_rfl) (by kernel_rfl) (by decide) (fun _ _ _ _ _ h => h) L2 ?_
 refine ov 3 (.pointer (some ⟨b2, 0, none⟩)) ?_
 simp only [p3, p4]
 refine ow 4 (.agg #[u0, u1]) rfl (fun w' hS => (rl 27 0 [u0, u1] hS)) ?_
 simp only [p3, p4]
 refine ov 6 (.pointer (some ⟨b2, 2, none⟩)) ?_
 simp only [p3, p4]
 refine ow 7 (.agg #[u2, u3]) rfl (fun w' hS => (rl 27 2 [u2, u3] hS)) ?_
 simp only [p3, p4]
 refine oe ?_
 have kq14 := g2.kp.trans (g3.kp.trans gd11.kp)
 replace ha := ha.kp kq14
 refine ec 5 (neg_i ha.num ) ?_
 rintro e13 w13 ⟨⟨x13, y13, rfl, h13⟩, g13⟩
 refine ⟨_, rfl, ?_⟩
 replace hB := hB.trans g13
 replace L2 := L2.gr g13
 refine ⟨L2, ?_⟩
 simp only [p3, p4]
 refine ov 8 (.agg #[x13, y13, u2, u3]) ?_
 simp only [p3, p4]
 refine oe ?_
 replace L3 := L3.gr (gd11.trans g13)
 refine es 31 0 (.agg #[x13, y13, u2, u3]) [x13, y13, u2, u3] #[x13, y13, u2, u3] L3 hB q3 ⟨h13.one0, h13.one1, ha.one2, ha.one3, trivial⟩ fun w16 st16 kp16 L3 hB => ?_
 replace L2 := st16.lc L2 ne2_3
 refine ⟨L2, ?_⟩
 refine ord_nil ?_
 refine k4 _ _ ?_
 try clear k4 K4
 refine wp_ret ?_
 refine bodyPost_ret (v := (.agg #[x13, y13, u2, u3])) (ret_cell _ _ _ rfl rfl L3 (by kernel_rfl)) rfl ⟨?_, hB⟩
 have kq17 := g13.kp.trans kp16
 replace ha := ha.kp kq17
 replace h13 := h13.kp kp16
 exact ⟨_, _, _, _, rfl, IsRat.neg ha h13⟩

set_option maxRecDepth 100000 in
set_option maxHeartbeats 1000000 in
theorem sub_r {k m : Nat} {u0 u1 u2 u3 v0 v1 v2 v3 : Value} {a b : Rat} {w : World} (ha : IsRat w k u0 u1 u2 u3 a) (hb : IsRat w m v0 v1 v2 v3 b) (_hk : k + m ≤ 100000)  :
    Calls Tryz.prog 32 #[(.agg #[u0, u1, u2, u3]), (.agg #[v0, v1, v2, v3])] w fun e w' => (∃ c0 c1 c2 c3, e = .returned (.agg #[c0, c1, c2, c3]) ∧ IsRat w' (k + m + 1) c0 c1 c2 c3 (a - b)) ∧ Gr w w' := by
 go_enter Tryz.func32, Tryz.ntmps32
 have hB := Gr.refl w
 refine wp_seq_k (fun K1 k1 => ?_)
 refine rg [0, 1, 2] ?_
 refine se ?_
 refine eb 31 #[u0, u1, u2, u3] 2 hB fun b2 w2 g2 L2 o2 q2 hB => ?_
 simp only [p3, p4]
 refine se ?_
 refine eb 31 #[v0, v1, v2, v3] 3 hB fun b3 w3 g3 L3 o3 q3 hB => ?_
 simp only [p3, p4]
 refine se ?_
 refine ea 31 #[(.bool false), (.slice none 0 0), (.bool false), (.slice none 0 0)] 4 hB fun b4 w4 g4 L4 o4 q4 hB => ?_
 replace L2 := L2.gr g3
 have ne2_4 := L2.ne o4
 have ne3_4 := L3.ne o4
 simp only [p3, p4]
 refine sq_nil ?_
 refine k1 _ _ ?_
 try clear k1 K1
 refine wp_seq_k (fun K5 k5 => ?_)
 have gd15 := Gr.drew w4
 replace hB := hB.trans gd15
 replace L2 := L2.gr (g4.trans gd15)
 replace L3 := L3.gr (g4.trans gd15)
 refine wp_region_ord (fun w' => Lc w' b2 #[u0, u1, u2, u3] 31 ∧ Lc w' b3 #[v0, v1, v2, v3] 31) [(true, 0), (true, 1), (false, 2), (false, 3), (false, 4)] (by kernel_rfl) (by kernel_rfl) (by kernel_rfl) (by decide) (fun _ _ _ _ _ h => h) ⟨L2, L3⟩ ?_
 refine ow 5 (.agg #[u0, u1, u2, u3]) rfl (fun w' hS => (rl 31 0 [u0, u1, u2, u3] hS.1)) ?_
 simp only [p3, p4]
 refine ow 6 (.agg #[v0, v1, v2, v3]) rfl (fun w' hS => (rl 31 0 [v0, v1, v2, v3] hS.2)) ?_
 simp only [p3, p4]
 refine oe ?_
 have kq18 := g2.kp.trans (g3.kp.trans (g4.kp.trans gd15.kp))
 replace hb := hb.kp kq18
 refine ec 7 (neg_r hb ) ?_
 rintro e17 w17 ⟨⟨p17, q17, r17, s17, rfl, h17⟩, g17⟩
 refine ⟨_, rfl, ?_⟩
 replace hB := hB.trans g17
 replace L2 := L2.gr g17
 replace L3 := L3.gr g17
 refine ⟨⟨L2, L3⟩, ?_⟩
 simp only [p3, p4]
 refine oe ?_
 have kq21 := g2.kp.trans (g3.kp.trans (g4.kp.trans (gd15.kp.trans g17.kp)))
 replace ha := ha.kp kq21
 refine ec 8 (add_r ha h17 (by omega)) ?_
 rintro e20 w20 ⟨⟨p20, q20, r20, s20, rfl, h20⟩, g20⟩
 refine ⟨_, rfl, ?_⟩
 replace hB := hB.trans g20
 replace L2 := L2.gr g20
 replace L3 := L3.gr g20
 refine ⟨⟨L2, L3⟩, ?_⟩
 simp only [p3, p4]
 refine oe ?_
 replace L4 := L4.gr (gd15.trans (g17.trans g20))
 refine es 31 0 (.agg #[p20, q20, r20, s20]) [p20, q20, r20, s20] #[p20, q20, r20, s20] L4 hB q4 ⟨h20.one0, h20.one1, h20.one2, h20.one3, trivial⟩ fun w23 st23 kp23 L4 hB => ?_
 replace L2 := st23.lc L2 ne2_4
 replace L3 := st23.lc L3 ne3_4
 refine ⟨⟨L2, L3⟩, ?_⟩
 refine ord_nil ?_
 refine k5 _ _ ?_
 try clear k5 K5
 refine wp_ret ?_
 refine bodyPost_ret (v := (.agg #[p20, q20, r20, s20])) (ret_cell _ _ _ rfl rfl L4 (by kernel_rfl)) rfl ⟨?_, hB⟩
 replace h20 := h20.kp kp23
 exact ⟨_, _, _, _, rfl, by rw [Rat.sub_eq_add_neg]; exact h20⟩

set_option maxRecDepth 100000 in
set_option maxHeartbeats 1000000 in
theorem num_r {k : Nat} {u0 u1 u2 u3 : Value} {a : Rat} {w : World} (ha : IsRat w k u0 u1 u2 u3 a)  :
    Calls Tryz.prog 22 #[(.agg #[u0, u1, u2, u3])] w fun e w' => (∃ x' y', e = .returned (.agg #[x', y']) ∧ IsInt w' k x' y' (a.num)) ∧ Gr w w' := by
 go_enter Tryz.func22, Tryz.ntmps22
 have hB := Gr.refl w
 refine wp_seq_k (fun K1 k1 => ?_)
 refine rg [0, 1] ?_
 refine se ?_
 refine eb 31 #[u0, u1, u2, u3] 1 hB fun b2 w2 g2 L2 o2 q2 hB => ?_
 simp only [p3, p4]
 refine se ?_
 refine ea 27 #[(.bool false), (.slice none 0 0)] 2 hB fun b3 w3 g3 L3 o3 q3 hB => ?_
 simp only [p3, p4]
 refine sq_nil ?_
 refine k1 _ _ ?_
 try clear k1 K1
 refine wp_seq_k (fun K4 k4 => ?_)
 refine rg [0, 1, 2] ?_
 refine sv 3 (.pointer (some ⟨b2, 0, none⟩)) ?_
 simp only [p3, p4]
 replace L2 := L2.gr g3
 refine sw 4 (.agg #[u0, u1]) rfl (rl 27 0 [u0, u1] L2) ?_
 simp only [p3, p4]
 refine se ?_
 refine es 27 0 (.agg #[u0, u1]) [u0, u1] #[u0, u1] L3 hB q3 ⟨ha.one0, ha.one1, trivial⟩ fun w5 st5 kp5 L3 hB => ?_
 refine sq_nil ?_
 refine k4 _ _ ?_
 try clear k4 K4
 refine wp_ret ?_
 refine bodyPost_ret (v := (.agg #[u0, u1])) (ret_cell _ _ _ rfl rfl L3 (by kernel_rfl)) rfl ⟨?_, hB⟩
 have kq6 := g2.kp.trans (g3.kp.trans kp5)
 replace ha := ha.kp kq6
 exact ⟨_, _, rfl, ha.num⟩

set_option maxRecDepth 100000 in
set_option maxHeartbeats 1000000 in
theorem sign_r {k : Nat} {u0 u1 u2 u3 : Value} {a : Rat} {w : World} (ha : IsRat w k u0 u1 u2 u3 a)  :
    Calls Tryz.prog 57 #[(.agg #[u0, u1, u2, u3])] w fun e w' => e = .returned (.int .i64 (sgn a.num)) ∧ Gr w w' := by
 go_enter Tryz.func57, Tryz.ntmps57
 have hB := Gr.refl w
 refine wp_seq_k (fun K1 k1 => ?_)
 refine rg [0, 1] ?_
 refine se ?_
 refine eb 31 #[u0, u1, u2, u3] 1 hB fun b2 w2 g2 L2 o2 q2 hB => ?_
 simp only [p3, p4]
 refine sv 2 (.int .i64 0) ?_
 simp only [p3, p4]
 refine sq_nil ?_
 refine k1 _ _ ?_
 try clear k1 K1
 refine wp_seq_k (fun K3 k3 => ?_)
 refine rg [0, 1, 2, 3] ?_
 refine sv 3 (.pointer (some ⟨b2, 0, none⟩)) ?_
 simp only [p3, p4]
 refine sw 4 (.agg #[u0, u1]) rfl (rl 27 0 [u0, u1] L2) ?_
 simp only [p3, p4]
 refine se ?_
 replace ha := ha.kp g2.kp
 refine ec 5 (sign_i ha.num) ?_
 rintro e4 w4 ⟨rfl, g4⟩
 refine ⟨_, rfl, ?_⟩
 replace hB := hB.trans g4
 simp only [p3, p4]
 refine sv 2 (.int .i64 (sgn (a.num))) ?_
 simp only [p3, p4]
 refine sq_nil ?_
 refine k3 _ _ ?_
 try clear k3 K3
 refine wp_ret ?_
 refine bodyPost_ret (v := (.int .i64 (sgn (a.num)))) (ret_tmp rfl rfl) rfl ⟨?_, hB⟩
 exact rfl

set_option maxRecDepth 100000 in
set_option maxHeartbeats 1000000 in
theorem from_r (z : Int) (_h0 : -9223372036854775808 ≤ z) (_h1 : z ≤ 9223372036854775807) (w : World) :
    Calls Tryz.prog 41 #[(.int .i64 (z))] w fun e w' => (∃ c0 c1 c2 c3, e = .returned (.agg #[c0, c1, c2, c3]) ∧ IsRat w' 64 c0 c1 c2 c3 ((z : Rat))) ∧ Gr w w' := by
 go_enter Tryz.func41, Tryz.ntmps41
 have hB := Gr.refl w
 refine wp_seq_k (fun K1 k1 => ?_)
 refine rg [0] ?_
 refine se ?_
 refine ea 31 #[(.bool false), (.slice none 0 0), (.bool false), (.slice none 0 0)] 2 hB fun b2 w2 g2 L2 o2 q2 hB => ?_
 simp only [p3, p4]
 refine sq_nil ?_
 refine k1 _ _ ?_
 try clear k1 K1
 refine wp_seq_k (fun K3 k3 => ?_)
 refine rg [0, 1, 2, 3] ?_
 refine sv 3 (.int .i64 (z)) ?_
 simp only [p3, p4]
 refine se ?_
 refine ec 4 (from_i (z) (by omega) (by omega) _) ?_
 rintro e4 w4 ⟨⟨x4, y4, rfl, h4⟩, g4⟩
 refine ⟨_, rfl, ?_⟩
 replace hB := hB.trans g4
 simp only [p3, p4]
 refine sv 5 (.agg #[x4, y4, (.bool false), (.slice none 0 0)]) ?_
 simp only [p3, p4]
 refine se ?_
 replace L2 := L2.gr g4
 refine es 31 0 (.agg #[x4, y4, (.bool false), (.slice none 0 0)]) [x4, y4, (.bool false), (.slice none 0 0)] #[x4, y4, (.bool false), (.slice none 0 0)] L2 hB q2 ⟨h4.one0, h4.one1, rfl, rfl, trivial⟩ fun w5 st5 kp5 L2 hB => ?_
 refine sq_nil ?_
 refine k3 _ _ ?_
 try clear k3 K3
 refine wp_ret ?_
 refine bodyPost_ret (v := (.agg #[x4, y4, (.bool false), (.slice none 0 0)])) (ret_cell _ _ _ rfl rfl L2 (by kernel_rfl)) rfl ⟨?_, hB⟩
 replace h4 := h4.kp kp5
 exact ⟨_, _, _, _, rfl, IsRat.int h4 (by omega)⟩

set_option maxRecDepth 100000 in
set_option maxHeartbeats 1000000 in
theorem make_r {k m : Nat} (K : Nat) {n0 n1 d0 d1 : Value} {N D : Int} {w : World} (hn : IsInt w k n0 n1 N) (hd : IsInt w m d0 d1 D) (h0 : 0 < D) (_h1 : k ≤ K) (_h2 : m ≤ K) (_h3 : 64 ≤ K) (_h4 : 8 * K ≤ 1000000) :
    Calls Tryz.prog 18 #[(.agg #[n0, n1]), (.agg #[d0, d1])] w fun e w' => (∃ c0 c1 c2 c3, e = .returned (.tuple #[.agg #[c0, c1, c2, c3], .int .i64 0]) ∧ IsRat w' K c0 c1 c2 c3 (Rat.divInt N D)) ∧ Gr w w' := by
 go_enter Tryz.func18, Tryz.ntmps18
 have hB := Gr.refl w
 refine wp_seq_k (fun K1 k1 => ?_)
 refine rg [0, 1, 2, 3] ?_
 refine se ?_
 refine eb 27 #[n0, n1] 2 hB fun b2 w2 g2 L2 o2 q2 hB => ?_
 simp only [p3, p4]
 refine se ?_
 refine eb 27 #[d0, d1] 3 hB fun b3 w3 g3 L3 o3 q3 hB => ?_
 simp only [p3, p4]
 refine se ?_
 refine ea 31 #[(.bool false), (.slice none 0 0), (.bool false), (.slice none 0 0)] 4 hB fun b4 w4 g4 L4 o4 q4 hB => ?_
 replace L2 := L2.gr g3
 simp only [p3, p4]
 refine sv 5 (.int .i64 0) ?_
 simp only [p3, p4]
 refine sq_nil ?_
 refine k1 _ _ ?_
 try clear k1 K1
 refine wp_seq_k (fun K5 k5 => ?_)
 refine wp_seq_k (fun K6 k6 => ?_)
 refine rg [0, 1, 2] ?_
 replace L3 := L3.gr g4
 refine sw 6 (.agg #[d0, d1]) rfl (rl 27 0 [d0, d1] L3) ?_
 simp only [p3, p4]
 refine se ?_
 have kq8 := g2.kp.trans (g3.kp.trans g4.kp)
 replace hd := hd.kp kq8
 refine ec 7 (sign_pos hd (by omega)) ?_
 rintro e7 w7 ⟨rfl, g7⟩
 refine ⟨_, rfl, ?_⟩
 replace hB := hB.trans g7
 simp only [p3, p4]
 refine sv 8 (.bool false) ?_
 simp only [p3, p4]
 refine sq_nil ?_
 refine k6 _ _ ?_
 try clear k6 K6
 refine wp_cond_false rfl ?_
 refine wp_skip ?_
 refine k5 _ _ ?_
 try clear k5 K5
 refine wp_seq_k (fun K9 k9 => ?_)
 refine rg [0, 1, 2, 3, 4] ?_
 replace L2 := L2.gr (g4.trans g7)
 refine sw 10 (.agg #[n0, n1]) rfl (rl 27 0 [n0, n1] L2) ?_
 simp only [p3, p4]
 replace L3 := L3.gr g7
 refine sw 11 (.agg #[d0, d1]) rfl (rl 27 0 [d0, d1] L3) ?_
 simp only [p3, p4]
 refine se ?_
 have kq11 := g2.kp.trans (g3.kp.trans (g4.kp.trans g7.kp))
 replace hn := hn.kp kq11
 replace hd := hd.kp g7.kp
 refine ec 12 (reduced_i (K) hn hd h0 (by omega) (by omega) (by omega) (by omega)) ?_
 rintro e10 w10 ⟨⟨p10, q10, r10, s10, rfl, h10⟩, g10⟩
 refine ⟨_, rfl, ?_⟩
 replace hB := hB.trans g10
 simp only [p3, p4]
 refine se ?_
 replace L4 := L4.gr (g7.trans g10)
 refine es 31 0 (.agg #[p10, q10, r10, s10]) [p10, q10, r10, s10] #[p10, q10, r10, s10] L4 hB q4 ⟨h10.one0, h10.one1, h10.one2, h10.one3, trivial⟩ fun w12 st12 kp12 L4 hB => ?_
 refine sv 5 (.int .i64 0) ?_
 simp only [p3, p4]
 refine sq_nil ?_
 refine k9 _ _ ?_
 try clear k9 K9
 refine wp_ret ?_
 refine bodyPost_ret (v := (.tuple #[(.agg #[p10, q10, r10, s10]), (.int .i64 0)])) (ret_cell_tmp' _ _ _ rfl rfl L4 (by kernel_rfl) rfl) rfl ⟨?_, hB⟩
 replace h10 := h10.kp kp12
 exact ⟨_, _, _, _, rfl, h10⟩

theorem sign_rp {k : Nat} {u0 u1 u2 u3 : Value} {a : Rat} {w : World} (ha : IsRat w k u0 u1 u2 u3 a) (h : 0 < a.num) :
    Calls Tryz.prog 57 #[.agg #[u0, u1, u2, u3]] w fun e w' => e = .returned (.int .i64 1) ∧ Gr w w' := by
  have := sign_r ha
  rw [sgn_pos h] at this
  exact this

set_option maxRecDepth 100000 in
set_option maxHeartbeats 1000000 in
theorem div_r {k m : Nat} {u0 u1 u2 u3 v0 v1 v2 v3 : Value} {a b : Rat} {w : World} (ha : IsRat w k u0 u1 u2 u3 a) (hb : IsRat w m v0 v1 v2 v3 b) (_hk : k + m ≤ 100000) (h0 : 0 < b.num) :
    Calls Tryz.prog 46 #[(.agg #[u0, u1, u2, u3]), (.agg #[v0, v1, v2, v3])] w fun e w' => (∃ c0 c1 c2 c3, e = .returned (.tuple #[.agg #[c0, c1, c2, c3], .int .i64 0]) ∧ IsRat w' (k + m) c0 c1 c2 c3 (a / b)) ∧ Gr w w' := by
 have hka := ha.big
 have hkb := hb.big
 go_enter Tryz.func46, Tryz.ntmps46
 have hB := Gr.refl w
 refine wp_seq_k (fun K1 k1 => ?_)
 refine rg [0, 1, 2, 3] ?_
 refine se ?_
 refine eb 31 #[u0, u1, u2, u3] 2 hB fun b2 w2 g2 L2 o2 q2 hB => ?_
 simp only [p3, p4]
 refine se ?_
 refine eb 31 #[v0, v1, v2, v3] 3 hB fun b3 w3 g3 L3 o3 q3 hB => ?_
 simp only [p3, p4]
 refine se ?_
 refine ea 31 #[(.bool false), (.slice none 0 0), (.bool false), (.slice none 0 0)] 4 hB fun b4 w4 g4 L4 o4 q4 hB => ?_
 replace L2 := L2.gr g3
 have ne2_4 := L2.ne o4
 have ne3_4 := L3.ne o4
 simp only [p3, p4]
 refine sv 5 (.int .i64 0) ?_
 simp only [p3, p4]
 refine sq_nil ?_
 refine k1 _ _ ?_
 try clear k1 K1
 refine wp_seq_k (fun K5 k5 => ?_)
 refine wp_seq_k (fun K6 k6 => ?_)
 refine rg [0, 1, 2] ?_
 replace L3 := L3.gr g4
 refine sw 6 (.agg #[v0, v1, v2, v3]) rfl (rl 31 0 [v0, v1, v2, v3] L3) ?_
 simp only [p3, p4]
 refine se ?_
 have kq8 := g2.kp.trans (g3.kp.trans g4.kp)
 replace hb := hb.kp kq8
 refine ec 7 (sign_rp hb h0) ?_
 rintro e7 w7 ⟨rfl, g7⟩
 refine ⟨_, rfl, ?_⟩
 replace hB := hB.trans g7
 simp only [p3, p4]
 refine sv 8 (.bool false) ?_
 simp only [p3, p4]
 refine sq_nil ?_
 refine k6 _ _ ?_
 try clear k6 K6
 refine wp_cond_false rfl ?_
 refine wp_skip ?_
 refine k5 _ _ ?_
 try clear k5 K5
 refine wp_seq_k (fun K9 k9 => ?_)
 have gd27 := Gr.drew w7
 replace hB := hB.trans gd27
 replace L2 := L2.gr (g4.trans (g7.trans gd27))
 replace L3 := L3.gr (g7.trans gd27)
 refine wp_region_ord (fun w' => Lc w' b2 #[u0, u1, u2, u3] 31 ∧ Lc w' b3 #[v0, v1, v2, v3] 31) [(true, 0), (true, 1), (true, 2), (true, 5), (true, 7), (true, 8), (false, 3), (false, 4), (false, 6), (false, 9), (false, 10), (false, 11), (true, 12)] (by kernel_rfl) (by kernel_rfl) (by kernel_rfl) (by decide) (fun _ _ _ _ _ h => h) ⟨L2, L3⟩ ?_
 refine ov 10 (.pointer (some ⟨b2, 0, none⟩)) ?_
 simp only [p3, p4]
 refine ow 11 (.agg #[u0, u1]) rfl (fun w' hS => (rl 27 0 [u0, u1] hS.1)) ?_
 simp only [p3, p4]
 refine ow 12 (.agg #[v0, v1, v2, v3]) rfl (fun w' hS => (rl 31 0 [v0, v1, v2, v3] hS.2)) ?_
 simp only [p3, p4]
 refine ow 15 (.agg #[u0, u1, u2, u3]) rfl (fun w' hS => (rl 31 0 [u0, u1, u2, u3] hS.1)) ?_
 simp only [p3, p4]
 refine ov 17 (.pointer (some ⟨b3, 0, none⟩)) ?_
 simp only [p3, p4]
 refine ow 18 (.agg #[v0, v1]) rfl (fun w' hS => (rl 27 0 [v0, v1] hS.2)) ?_
 simp only [p3, p4]
 refine oe ?_
 have kq30 := g7.kp.trans gd27.kp
 replace hb := hb.kp kq30
 refine ec 13 (den_i hb) ?_
 rintro e29 w29 ⟨⟨x29, y29, rfl, h29⟩, g29⟩
 refine ⟨_, rfl, ?_⟩
 replace hB := hB.trans g29
 replace L2 := L2.gr g29
 replace L3 := L3.gr g29
 refine ⟨⟨L2, L3⟩, ?_⟩
 simp only [p3, p4]
 refine oe ?_
 have kq33 := g2.kp.trans (g3.kp.trans (g4.kp.trans (g7.kp.trans (gd27.kp.trans g29.kp))))
 replace ha := ha.kp kq33
 refine ec 14 (mul_i ha.num h29 (by omega)) ?_
 rintro e32 w32 ⟨⟨x32, y32, rfl, h32⟩, g32⟩
 refine ⟨_, rfl, ?_⟩
 replace hB := hB.trans g32
 replace L2 := L2.gr g32
 replace L3 := L3.gr g32
 refine ⟨⟨L2, L3⟩, ?_⟩
 simp only [p3, p4]
 refine oe ?_
 replace ha := ha.kp g32.kp
 refine ec 16 (den_i ha) ?_
 rintro e35 w35 ⟨⟨x35, y35, rfl, h35⟩, g35⟩
 refine ⟨_, rfl, ?_⟩
 replace hB := hB.trans g35
 replace L2 := L2.gr g35
 replace L3 := L3.gr g35
 refine ⟨⟨L2, L3⟩, ?_⟩
 simp only [p3, p4]
 refine oe ?_
 have kq38 := g29.kp.trans (g32.kp.trans g35.kp)
 replace hb := hb.kp kq38
 refine ec 19 (mul_i h35 hb.num (by omega)) ?_
 rintro e37 w37 ⟨⟨x37, y37, rfl, h37⟩, g37⟩
 refine ⟨_, rfl, ?_⟩
 replace hB := hB.trans g37
 replace L2 := L2.gr g37
 replace L3 := L3.gr g37
 refine ⟨⟨L2, L3⟩, ?_⟩
 simp only [p3, p4]
 refine oe ?_
 have kq41 := g35.kp.trans g37.kp
 replace h32 := h32.kp kq41
 refine ec 20 (reduced_i ((k + m)) h32 h37 (Int.mul_pos (Int.natCast_pos.2 a.den_pos) h0) (by omega) (by omega) (by omega) (by omega)) ?_
 rintro e40 w40 ⟨⟨p40, q40, r40, s40, rfl, h40⟩, g40⟩
 refine ⟨_, rfl, ?_⟩
 replace hB := hB.trans g40
 replace L2 := L2.gr g40
 replace L3 := L3.gr g40
 refine ⟨⟨L2, L3⟩, ?_⟩
 simp only [p3, p4]
 refine oe ?_
 replace L4 := L4.gr (g7.trans (gd27.trans (g29.trans (g32.trans (g35.trans (g37.trans g40))))))
 refine es 31 0 (.agg #[p40, q40, r40, s40]) [p40, q40, r40, s40] #[p40, q40, r40, s40] L4 hB q4 ⟨h40.one0, h40.one1, h40.one2, h40.one3, trivial⟩ fun w43 st43 kp43 L4 hB => ?_
 replace L2 := st43.lc L2 ne2_4
 replace L3 := st43.lc L3 ne3_4
 refine ⟨⟨L2, L3⟩, ?_⟩
 refine ov 5 (.int .i64 0) ?_
 simp only [p3, p4]
 refine ord_nil ?_
 refine k9 _ _ ?_
 try clear k9 K9
 refine wp_ret ?_
 refine bodyPost_ret (v := (.tuple #[(.agg #[p40, q40, r40, s40]), (.int .i64 0)])) (ret_cell_tmp' _ _ _ rfl rfl L4 (by kernel_rfl) rfl) rfl ⟨?_, hB⟩
 replace h40 := h40.kp kp43
 exact ⟨_, _, _, _, rfl, by rw [← rat_div]; exact h40⟩

set_option maxRecDepth 100000 in
set_option maxHeartbeats 1000000 in
theorem rcomp_tt {k m : Nat} {u0 u1 u2 u3 v0 v1 v2 v3 : Value} {a b : Rat} {w : World} (ha : IsRat w k u0 u1 u2 u3 a) (hb : IsRat w m v0 v1 v2 v3 b) (_hk : k + m ≤ 100000) (wa : a.den = 1) (wb : b.den = 1) :
    Calls Tryz.prog 44 #[(.agg #[u0, u1, u2, u3]), (.agg #[v0, v1, v2, v3])] w fun e w' => e = .returned (.int .i64 (rcmp a b)) ∧ Gr w w' := by
 have hka := ha.big
 have hkb := hb.big
 go_enter Tryz.func44, Tryz.ntmps44
 have hB := Gr.refl w
 refine wp_seq_k (fun K1 k1 => ?_)
 refine rg [0, 1, 2] ?_
 refine se ?_
 refine eb 31 #[u0, u1, u2, u3] 2 hB fun b2 w2 g2 L2 o2 q2 hB => ?_
 simp only [p3, p4]
 refine se ?_
 refine eb 31 #[v0, v1, v2, v3] 3 hB fun b3 w3 g3 L3 o3 q3 hB => ?_
 simp only [p3, p4]
 refine sv 4 (.int .i64 0) ?_
 simp only [p3, p4]
 refine sq_nil ?_
 refine k1 _ _ ?_
 try clear k1 K1
 refine wp_seq_k (fun K4 k4 => ?_)
 refine wp_seq_k (fun K5 k5 => ?_)
 refine rg [0, 1, 2, 3, 4, 5] ?_
 replace L2 := L2.gr g3
 refine sw 5 (.agg #[u0, u1, u2, u3]) rfl (rl 31 0 [u0, u1, u2, u3] L2) ?_
 simp only [p3, p4]
 refine se ?_
 have kq7 := g2.kp.trans g3.kp
 replace ha := ha.kp kq7
 refine ec 6 (whole_t ha (by omega) wa) ?_
 rintro e6 w6 ⟨rfl, g6⟩
 refine ⟨_, rfl, ?_⟩
 replace hB := hB.trans g6
 simp only [p3, p4]
 refine sv 7 (.bool true) ?_
 simp only [p3, p4]
 replace L3 := L3.gr g6
 refine sw 8 (.agg #[v0, v1, v2, v3]) rfl (rl 31 0 [v0, v1, v2, v3] L3) ?_
 simp only [p3, p4]
 refine se ?_
 have kq9 := g2.kp.trans (g3.kp.trans g6.kp)
 replace hb := hb.kp kq9
 refine ec 9 (whole_t hb (by omega) wb) ?_
 rintro e8 w8 ⟨rfl, g8⟩
 refine ⟨_, rfl, ?_⟩
 replace hB := hB.trans g8
 simp only [p3, p4]
 refine sv 10 (.bool true) ?_
 simp only [p3, p4]
 refine sq_nil ?_
 refine k5 _ _ ?_
 try clear k5 K5
 refine wp_cond_true rfl ?_
 refine wp_seq_k (fun K10 k10 => ?_)
 refine rg [0, 1, 2, 3, 4, 5] ?_
 refine sv 11 (.pointer (some ⟨b2, 0, none⟩)) ?_
 simp only [p3, p4]
 replace L2 := L2.gr (g6.trans g8)
 refine sw 12 (.agg #[u0, u1]) rfl (rl 27 0 [u0, u1] L2) ?_
 simp only [p3, p4]
 refine sv 13 (.pointer (some ⟨b3, 0, none⟩)) ?_
 simp only [p3, p4]
 replace L3 := L3.gr g8
 refine sw 14 (.agg #[v0, v1]) rfl (rl 27 0 [v0, v1] L3) ?_
 simp only [p3, p4]
 refine se ?_
 have kq12 := g6.kp.trans g8.kp
 replace ha := ha.kp kq12
 replace hb := hb.kp g8.kp
 refine ec 15 (compare_i ha.num hb.num (by omega) (by omega)) ?_
 rintro e11 w11 ⟨rfl, g11⟩
 refine ⟨_, rfl, ?_⟩
 replace hB := hB.trans g11
 simp only [p3, p4]
 refine sv 4 (.int .i64 (sgn (a.num - b.num))) ?_
 simp only [p3, p4]
 refine sq_nil ?_
 refine k10 _ _ ?_
 try clear k10 K10
 refine wp_ret ?_
 simp only [Exit.then]
 refine bodyPost_ret (v := (.int .i64 (sgn (a.num - b.num)))) (ret_tmp rfl rfl) rfl ⟨?_, hB⟩
 exact by rw [rcmp_int wa wb]

set_option maxRecDepth 100000 in
set_option maxHeartbeats 1000000 in
theorem rcomp_tf {k m : Nat} {u0 u1 u2 u3 v0 v1 v2 v3 : Value} {a b : Rat} {w : World} (ha : IsRat w k u0 u1 u2 u3 a) (hb : IsRat w m v0 v1 v2 v3 b) (_hk : k + m ≤ 100000) (wa : a.den = 1) (wb : b.den ≠ 1) :
    Calls Tryz.prog 44 #[(.agg #[u0, u1, u2, u3]), (.agg #[v0, v1, v2, v3])] w fun e w' => e = .returned (.int .i64 (rcmp a b)) ∧ Gr w w' := by
 have hka := ha.big
 have hkb := hb.big
 go_enter Tryz.func44, Tryz.ntmps44
 have hB := Gr.refl w
 refine wp_seq_k (fun K1 k1 => ?_)
 refine rg [0, 1, 2] ?_
 refine se ?_
 refine eb 31 #[u0, u1, u2, u3] 2 hB fun b2 w2 g2 L2 o2 q2 hB => ?_
 simp only [p3, p4]
 refine se ?_
 refine eb 31 #[v0, v1, v2, v3] 3 hB fun b3 w3 g3 L3 o3 q3 hB => ?_
 simp only [p3, p4]
 refine sv 4 (.int .i64 0) ?_
 simp only [p3, p4]
 refine sq_nil ?_
 refine k1 _ _ ?_
 try clear k1 K1
 refine wp_seq_k (fun K4 k4 => ?_)
 refine wp_seq_k (fun K5 k5 => ?_)
 refine rg [0, 1, 2, 3, 4, 5] ?_
 replace L2 := L2.gr g3
 refine sw 5 (.agg #[u0, u1, u2, u3]) rfl (rl 31 0 [u0, u1, u2, u3] L2) ?_
 simp only [p3, p4]
 refine se ?_
 have kq7 := g2.kp.trans g3.kp
 replace ha := ha.kp kq7
 refine ec 6 (whole_t ha (by omega) wa) ?_
 rintro e6 w6 ⟨rfl, g6⟩
 refine ⟨_, rfl, ?_⟩
 replace hB := hB.trans g6
 simp only [p3, p4]
 refine sv 7 (.bool true) ?_
 simp only [p3, p4]
 replace L3 := L3.gr g6
 refine sw 8 (.agg #[v0, v1, v2, v3]) rfl (rl 31 0 [v0, v1, v2, v3] L3) ?_
 simp only [p3, p4]
 refine se ?_
 have kq9 := g2.kp.trans (g3.kp.trans g6.kp)
 replace hb := hb.kp kq9
 refine ec 9 (whole_f hb (by omega) wb) ?_
 rintro e8 w8 ⟨rfl, g8⟩
 refine ⟨_, rfl, ?_⟩
 replace hB := hB.trans g8
 simp only [p3, p4]
 refine sv 10 (.bool false) ?_
 simp only [p3, p4]
 refine sq_nil ?_
 refine k5 _ _ ?_
 try clear k5 K5
 refine wp_cond_false rfl ?_
 refine wp_skip ?_
 refine k4 _ _ ?_
 try clear k4 K4
 refine wp_seq_k (fun K10 k10 => ?_)
 have gd26 := Gr.drew w8
 replace hB := hB.trans gd26
 replace L2 := L2.gr (g6.trans (g8.trans gd26))
 replace L3 := L3.gr (g8.trans gd26)
 refine wp_region_ord (fun w' => Lc w' b2 #[u0, u1, u2, u3] 31 ∧ Lc w' b3 #[v0, v1, v2, v3] 31) [(true, 0), (true, 1), (true, 2), (true, 5), (true, 6), (true, 7), (false, 3), (false, 4), (false, 8), (false, 9), (false, 10), (true, 11)] (by kernel_rfl) (by kernel_rfl) (by kernel_rfl) (by decide) (fun _ _ _ _ _ h => h) ⟨L2, L3⟩ ?_
 refine ov 16 (.pointer (some ⟨b2, 0, none⟩)) ?_
 simp only [p3, p4]
 refine ow 17 (.agg #[u0, u1]) rfl (fun w' hS => (rl 27 0 [u0, u1] hS.1)) ?_
 simp only [p3, p4]
 refine ow 18 (.agg #[v0, v1, v2, v3]) rfl (fun w' hS => (rl 31 0 [v0, v1, v2, v3] hS.2)) ?_
 simp only [p3, p4]
 refine ov 21 (.pointer (some ⟨b3, 0, none⟩)) ?_
 simp only [p3, p4]
 refine ow 22 (.agg #[v0, v1]) rfl (fun w' hS => (rl 27 0 [v0, v1] hS.2)) ?_
 simp only [p3, p4]
 refine ow 23 (.agg #[u0, u1, u2, u3]) rfl (fun w' hS => (rl 31 0 [u0, u1, u2, u3] hS.1)) ?_
 simp only [p3, p4]
 refine oe ?_
 have kq29 := g8.kp.trans gd26.kp
 replace hb := hb.kp kq29
 refine ec 19 (den_i hb) ?_
 rintro e28 w28 ⟨⟨x28, y28, rfl, h28⟩, g28⟩
 refine ⟨_, rfl, ?_⟩
 replace hB := hB.trans g28
 replace L2 := L2.gr g28
 replace L3 := L3.gr g28
 refine ⟨⟨L2, L3⟩, ?_⟩
 simp only [p3, p4]
 refine oe ?_
 have kq32 := g6.kp.trans (g8.kp.trans (gd26.kp.trans g28.kp))
 replace ha := ha.kp kq32
 refine ec 20 (mul_i ha.num h28 (by omega)) ?_
 rintro e31 w31 ⟨⟨x31, y31, rfl, h31⟩, g31⟩
 refine ⟨_, rfl, ?_⟩
 replace hB := hB.trans g31
 replace L2 := L2.gr g31
 replace L3 := L3.gr g31
 refine ⟨⟨L2, L3⟩, ?_⟩
 simp only [p3, p4]
 refine oe ?_
 replace ha := ha.kp g31.kp
 refine ec 24 (den_i ha) ?_
 rintro e34 w34 ⟨⟨x34, y34, rfl, h34⟩, g34⟩
 refine ⟨_, rfl, ?_⟩
 replace hB := hB.trans g34
 replace L2 := L2.gr g34
 replace L3 := L3.gr g34
 refine ⟨⟨L2, L3⟩, ?_⟩
 simp only [p3, p4]
 refine oe ?_
 have kq37 := g28.kp.trans (g31.kp.trans g34.kp)
 replace hb := hb.kp kq37
 refine ec 25 (mul_i hb.num h34 (by omega)) ?_
 rintro e36 w36 ⟨⟨x36, y36, rfl, h36⟩, g36⟩
 refine ⟨_, rfl, ?_⟩
 replace hB := hB.trans g36
 replace L2 := L2.gr g36
 replace L3 := L3.gr g36
 refine ⟨⟨L2, L3⟩, ?_⟩
 simp only [p3, p4]
 refine oe ?_
 have kq40 := g34.kp.trans g36.kp
 replace h31 := h31.kp kq40
 refine ec 26 (compare_i h31 h36 (by omega) (by omega)) ?_
 rintro e39 w39 ⟨rfl, g39⟩
 refine ⟨_, rfl, ?_⟩
 replace hB := hB.trans g39
 replace L2 := L2.gr g39
 replace L3 := L3.gr g39
 refine ⟨⟨L2, L3⟩, ?_⟩
 simp only [p3, p4]
 refine ov 4 (.int .i64 (sgn ((a.num * (b.den : Int)) - (b.num * (a.den : Int))))) ?_
 simp only [p3, p4]
 refine ord_nil ?_
 refine k10 _ _ ?_
 try clear k10 K10
 refine wp_ret ?_
 refine bodyPost_ret (v := (.int .i64 (sgn ((a.num * (b.den : Int)) - (b.num * (a.den : Int)))))) (ret_tmp rfl rfl) rfl ⟨?_, hB⟩
 exact rfl

set_option maxRecDepth 100000 in
set_option maxHeartbeats 1000000 in
theorem rcomp_f {k m : Nat} {u0 u1 u2 u3 v0 v1 v2 v3 : Value} {a b : Rat} {w : World} (ha : IsRat w k u0 u1 u2 u3 a) (hb : IsRat w m v0 v1 v2 v3 b) (_hk : k + m ≤ 100000) (wa : a.den ≠ 1) :
    Calls Tryz.prog 44 #[(.agg #[u0, u1, u2, u3]), (.agg #[v0, v1, v2, v3])] w fun e w' => e = .returned (.int .i64 (rcmp a b)) ∧ Gr w w' := by
 have hka := ha.big
 have hkb := hb.big
 go_enter Tryz.func44, Tryz.ntmps44
 have hB := Gr.refl w
 refine wp_seq_k (fun K1 k1 => ?_)
 refine rg [0, 1, 2] ?_
 refine se ?_
 refine eb 31 #[u0, u1, u2, u3] 2 hB fun b2 w2 g2 L2 o2 q2 hB => ?_
 simp only [p3, p4]
 refine se ?_
 refine eb 31 #[v0, v1, v2, v3] 3 hB fun b3 w3 g3 L3 o3 q3 hB => ?_
 simp only [p3, p4]
 refine sv 4 (.int .i64 0) ?_
 simp only [p3, p4]
 refine sq_nil ?_
 refine k1 _ _ ?_
 try clear k1 K1
 refine wp_seq_k (fun K4 k4 => ?_)
 refine wp_seq_k (fun K5 k5 => ?_)
 refine rg [0, 1, 2, 3, 4, 5] ?_
 replace L2 := L2.gr g3
 refine sw 5 (.agg #[u0, u1, u2, u3]) rfl (rl 31 0 [u0, u1, u2, u3] L2) ?_
 simp only [p3, p4]
 refine se ?_
 have kq7 := g2.kp.trans g3.kp
 replace ha := ha.kp kq7
 refine ec 6 (whole_f ha (by omega) wa) ?_
 rintro e6 w6 ⟨rfl, g6⟩
 refine ⟨_, rfl, ?_⟩
 replace hB := hB.trans g6
 simp only [p3, p4]
 refine sv 7 (.bool false) ?_
 simp only [p3, p4]
 refine ss 8 ?_
 simp only [p3, p4]
 refine ss 9 ?_
 simp only [p3, p4]
 refine sv 10 (.bool false) ?_
 simp only [p3, p4]
 refine sq_nil ?_
 refine k5 _ _ ?_
 try clear k5 K5
 refine wp_cond_false rfl ?_
 refine wp_skip ?_
 refine k4 _ _ ?_
 try clear k4 K4
 refine wp_seq_k (fun K8 k8 => ?_)
 have gd24 := Gr.drew w6
 replace hB := hB.trans gd24
 replace L2 := L2.gr (g6.trans gd24)
 replace L3 := L3.gr (g6.trans gd24)
 refine wp_region_ord (fun w' => Lc w' b2 #[u0, u1, u2, u3] 31 ∧ Lc w' b3 #[v0, v1, v2, v3] 31) [(true, 0), (true, 1), (true, 2), (true, 5), (true, 6), (true, 7), (false, 3), (false, 4), (false, 8), (false, 9), (false, 10), (true, 11)] (by kernel_rfl) (by kernel_rfl) (by kernel_rfl) (by decide) (fun _ _ _ _ _ h => h) ⟨L2, L3⟩ ?_
 refine ov 16 (.pointer (some ⟨b2, 0, none⟩)) ?_
 simp only [p3, p4]
 refine ow 17 (.agg #[u0, u1]) rfl (fun w' hS => (rl 27 0 [u0, u1] hS.1)) ?_
 simp only [p3, p4]
 refine ow 18 (.agg #[v0, v1, v2, v3]) rfl (fun w' hS => (rl 31 0 [v0, v1, v2, v3] hS.2)) ?_
 simp only [p3, p4]
 refine ov 21 (.pointer (some ⟨b3, 0, none⟩)) ?_
 simp only [p3, p4]
 refine ow 22 (.agg #[v0, v1]) rfl (fun w' hS => (rl 27 0 [v0, v1] hS.2)) ?_
 simp only [p3, p4]
 refine ow 23 (.agg #[u0, u1, u2, u3]) rfl (fun w' hS => (rl 31 0 [u0, u1, u2, u3] hS.1)) ?_
 simp only [p3, p4]
 refine oe ?_
 have kq27 := g2.kp.trans (g3.kp.trans (g6.kp.trans gd24.kp))
 replace hb := hb.kp kq27
 refine ec 19 (den_i hb) ?_
 rintro e26 w26 ⟨⟨x26, y26, rfl, h26⟩, g26⟩
 refine ⟨_, rfl, ?_⟩
 replace hB := hB.trans g26
 replace L2 := L2.gr g26
 replace L3 := L3.gr g26
 refine ⟨⟨L2, L3⟩, ?_⟩
 simp only [p3, p4]
 refine oe ?_
 have kq30 := g6.kp.trans (gd24.kp.trans g26.kp)
 replace ha := ha.kp kq30
 refine ec 20 (mul_i ha.num h26 (by omega)) ?_
 rintro e29 w29 ⟨⟨x29, y29, rfl, h29⟩, g29⟩
 refine ⟨_, rfl, ?_⟩
 replace hB := hB.trans g29
 replace L2 := L2.gr g29
 replace L3 := L3.gr g29
 refine ⟨⟨L2, L3⟩, ?_⟩
 simp only [p3, p4]
 refine oe ?_
 replace ha := ha.kp g29.kp
 refine ec 24 (den_i ha) ?_
 rintro e32 w32 ⟨⟨x32, y32, rfl, h32⟩, g32⟩
 refine ⟨_, rfl, ?_⟩
 replace hB := hB.trans g32
 replace L2 := L2.gr g32
 replace L3 := L3.gr g32
 refine ⟨⟨L2, L3⟩, ?_⟩
 simp only [p3, p4]
 refine oe ?_
 have kq35 := g26.kp.trans (g29.kp.trans g32.kp)
 replace hb := hb.kp kq35
 refine ec 25 (mul_i hb.num h32 (by omega)) ?_
 rintro e34 w34 ⟨⟨x34, y34, rfl, h34⟩, g34⟩
 refine ⟨_, rfl, ?_⟩
 replace hB := hB.trans g34
 replace L2 := L2.gr g34
 replace L3 := L3.gr g34
 refine ⟨⟨L2, L3⟩, ?_⟩
 simp only [p3, p4]
 refine oe ?_
 have kq38 := g32.kp.trans g34.kp
 replace h29 := h29.kp kq38
 refine ec 26 (compare_i h29 h34 (by omega) (by omega)) ?_
 rintro e37 w37 ⟨rfl, g37⟩
 refine ⟨_, rfl, ?_⟩
 replace hB := hB.trans g37
 replace L2 := L2.gr g37
 replace L3 := L3.gr g37
 refine ⟨⟨L2, L3⟩, ?_⟩
 simp only [p3, p4]
 refine ov 4 (.int .i64 (sgn ((a.num * (b.den : Int)) - (b.num * (a.den : Int))))) ?_
 simp only [p3, p4]
 refine ord_nil ?_
 refine k8 _ _ ?_
 try clear k8 K8
 refine wp_ret ?_
 refine bodyPost_ret (v := (.int .i64 (sgn ((a.num * (b.den : Int)) - (b.num * (a.den : Int)))))) (ret_tmp rfl rfl) rfl ⟨?_, hB⟩
 exact rfl

theorem compare_r {k m : Nat} {u0 u1 u2 u3 v0 v1 v2 v3 : Value} {a b : Rat} {w : World} (ha : IsRat w k u0 u1 u2 u3 a) (hb : IsRat w m v0 v1 v2 v3 b) (hk : k + m ≤ 100000) :
    Calls Tryz.prog 44 #[.agg #[u0, u1, u2, u3], .agg #[v0, v1, v2, v3]] w fun e w' => e = .returned (.int .i64 (rcmp a b)) ∧ Gr w w' := by
  by_cases wa : a.den = 1
  · by_cases wb : b.den = 1
    · exact rcomp_tt ha hb hk wa wb
    · exact rcomp_tf ha hb hk wa wb
  · exact rcomp_f ha hb hk wa

end Go.Proofs.YtloocadjbpgldaaGreatDoor
/- The text of a rational. -/
namespace Go.Proofs.YtloocadjbpgldaaGreatDoor
open Go.RowKit

theorem itoa_len {k : Nat} {z : Int} (h : Sz k z) : (Lib.itoa z).length ≤ k + 2 := by
  unfold Lib.itoa
  have h1 := dec_len_bits k z.natAbs h
  split
  · simp; omega
  · have : z.toNat = z.natAbs := by omega
    rw [this]; omega
end Go.Proofs.YtloocadjbpgldaaGreatDoor
/- The walk through scale: a magnitude times a digit, plus a digit. -/
namespace Go.Proofs.YtloocadjbpgldaaGreatDoor
open Go.RowKit

set_option maxRecDepth 100000 in
set_option maxHeartbeats 2000000 in
theorem scale_c (ao : Option Addr) (la ca : Nat) (m x p : Int) (w : World) (hla : la ≤ 900000) (ha : Mag w ao la ca m) (hx0 : 0 ≤ x) (hx1 : x < 4294967296) (hp0 : 0 ≤ p) (hp1 : p < 4294967296) :
    Calls Tryz.prog 77 #[.slice ao la ca, .int .u32 x, .int .u32 p] w fun e w' => (∃ go k cap, e = .returned (.slice go k cap) ∧ Mag w' go k cap (m * x + p) ∧ k ≤ la + 1) ∧ Gr w w' := by
  go_enter Tryz.func77, Tryz.ntmps77
  go_wp2_with (at_make; refine wpList_make32 _ rfl _ _ rfl _ _ (la + 1) rfl rfl (by omega) (by omega) (by omega) ?_)
  intro w1 hO hB hsz
  go_wp2
  go_loopw [8, 19] (fun c i wr => ∃ (k : Nat) (cr : Int) (d : Nat → Int), k ≤ la ∧ i = .int .i64 k ∧ c = .int .u64 cr ∧ 0 ≤ cr ∧ cr < 4294967296 ∧ Hid (hi (m * x + p) k = hi m k * x + cr) ∧ Below w.heap.size w wr ∧
      Own wr w.heap.size (la + 1) d ∧ Hid (∀ j, j < k → d j = dg (m * x + p) j)) (fun _ i _ => la - (intOf i).toNat)
  case atStart => exact ⟨0, p, _, Nat.zero_le _, rfl, rfl, hp0, hp1, by simp [Hid, hi_zero], hB, hO, fun j hj => by omega⟩
  case round =>
    obtain ⟨k, cr, d, hk, rfl, rfl, hc0, hc1, hz, hB, hO, hd⟩ := hrel
    by_cases hlt : k < la
    · obtain ⟨b1, off1, rfl, hcs1⟩ := (ha.row.below hB).at_ (by omega)
      have hcell1 := hcs1 k hlt
      clear hcs1
      have d0 := dg_nonneg m k
      have d1 := dg_lt m k
      have hcell3 := hO.cell k (by omega)
      have hfree := hO.free k
      have hs := scale_step hz.out hc0 hc1 hx0 hx1
      have z0 := hs.2.2.2.2.1
      have z1 := hs.2.2.2.2.2
      have z2 : dg m k * x ≤ 18446744065119617025 := by
        have := Int.mul_le_mul (show dg m k ≤ 4294967295 by omega) (show x ≤ 4294967295 by omega) hx0 (by omega)
        omega
      have HS := Lib.hid hs
      clear hs
      go_wp2
      have hs := HS.out
      go_roundw
      case rel =>
        refine ⟨k + 1, _, _, by omega, by go_num, rfl, hs.2.2.1, hs.2.2.2.1, hs.2.1, hB.setCell (Nat.le_refl _) _, hO.set (by omega) _, fun j hj => ?_⟩
        by_cases e : j = k
        · subst e; rw [upd_same, hs.1]
        · rw [upd_other _ _ e]; exact hd.out j (by omega)
      case measure => simp [intOf]; omega
    · obtain rfl : k = la := by omega
      have hcell3 := hO.cell k (by omega)
      have hfree := hO.free k
      have hm0 : 0 ≤ m * x + p := by have := Int.mul_nonneg ha.nl.nonneg hx0; omega
      have htop : hi (m * x + p) (k + 1) = 0 := by
        have h1 := hz.out
        rw [ha.nl.top, Int.zero_mul] at h1
        rw [hi_succ]; omega
      have hdk : dg (m * x + p) k = cr := by
        have h1 := hz.out
        rw [ha.nl.top, Int.zero_mul] at h1
        unfold dg; omega
      have HT := Lib.hid htop
      have HD := Lib.hid hdk
      clear htop hdk
      go_wp2_with fail
      have hO2 := (hO.set (Nat.lt_succ_self k) cr).congr (d' := dg (m * x + p)) (fun j hj => by
        by_cases e : j = k
        · subst e; rw [upd_same, HD.out]
        · rw [upd_other _ _ e]; exact hd.out j (by omega))
      refine (trim_c _ _ _ (m * x + p) _ (by omega) (Nat.le_refl _) hm0 HT.out hO2.row).mono ?_
      rintro e w3 ⟨⟨n, rfl, hm, hn⟩, rfl⟩
      go_wp2
      go_ret
      exact ⟨⟨_, _, _, rfl, hm, hn⟩, hB.setCell (Nat.le_refl _) _⟩
end Go.Proofs.YtloocadjbpgldaaGreatDoor
/- Printed by a program of the prover's: reduced, with a negative denominator. -/
namespace Go.Proofs.YtloocadjbpgldaaGreatDoor
open Go.RowKit

set_option maxRecDepth 100000 in
set_option maxHeartbeats 1000000 in
theorem reduced_n1 {k : Nat} {n0 n1 d0 d1 : Value} {N D : Int} {w : World} (hn : IsInt w k n0 n1 N) (hd : IsInt w k d0 d1 D) (_hk : k + k + k + k + k + k + 66 ≤ 1000000) (_h0 : D < 0) (hg : (sgn ((Int.gcd ((-N)) ((-D)) : Int) - 1) != 0) = false) :
    Calls Tryz.prog 80 #[(.agg #[n0, n1]), (.agg #[d0, d1])] w fun e w' => (∃ x y x2 y2, e = .returned (.agg #[x, y, x2, y2]) ∧ IsInt w' k x y ((-N)) ∧ IsInt w' k x2 y2 ((-D))) ∧ Gr w w' := by
 go_enter Tryz.func80, Tryz.ntmps80
 have hB := Gr.refl w
 refine wp_seq_k (fun K1 k1 => ?_)
 refine rg [0, 1, 2] ?_
 refine se ?_
 refine eb 27 #[n0, n1] 2 hB fun b2 w2 g2 L2 o2 q2 hB => ?_
 simp only [p3, p4]
 refine se ?_
 refine eb 27 #[d0, d1] 3 hB fun b3 w3 g3 L3 o3 q3 hB => ?_
 have ne2_3 := L2.ne o3
 simp only [p3, p4]
 refine se ?_
 refine ea 31 #[(.bool false), (.slice none 0 0), (.bool false), (.slice none 0 0)] 4 hB fun b4 w4 g4 L4 o4 q4 hB => ?_
 replace L2 := L2.gr g3
 have ne2_4 := L2.ne o4
 have ne3_4 := L3.ne o4
 simp only [p3, p4]
 refine sq_nil ?_
 refine k1 _ _ ?_
 try clear k1 K1
 refine wp_seq_k (fun K5 k5 => ?_)
 refine wp_seq_k (fun K6 k6 => ?_)
 refine rg [0, 1, 2] ?_
 replace L3 := L3.gr g4
 refine sw 6 (.agg #[d0, d1]) rfl (rl 27 0 [d0, d1] L3) ?_
 simp only [p3, p4]
 refine se ?_
 have kq8 := g2.kp.trans (g3.kp.trans g4.kp)
 replace hd := hd.kp kq8
 refine ec 7 (sign_neg hd (by omega)) ?_
 rintro e7 w7 ⟨rfl, g7⟩
 refine ⟨_, rfl, ?_⟩
 replace hB := hB.trans g7
 simp only [p3, p4]
 refine sv 8 (.bool true) ?_
 simp only [p3, p4]
 refine sq_nil ?_
 refine k6 _ _ ?_
 try clear k6 K6
 refine wp_cond_true rfl ?_
 have gd10 := Gr.drew w7
 replace hB := hB.trans gd10
 replace L2 := L2.gr (g4.trans (g7.trans gd10))
 replace L3 := L3.gr (g7.trans gd10)
 refine wp_region_ort (fun _ => True) [([4], (fun w' => Lc w' b2 #[n0, n1] 27)), ([5], (fun w' => Lc w' b3 #[d0, d1] 27))] [(true, 0), (true, 2), (false, 1), (false, 3), (false, 4), (false, 5)] (by kernel_rfl) (by kernel_rfl) (by kernel_rfl) (by decide) (fun _ _ _ _ _ h => h) trivial ⟨fun _ => L2, fun _ => L3, trivial⟩ ?_
 refine tw 9 (.agg #[n0, n1]) rfl (fun w' hS => (rl 27 0 [n0, n1] (hS.2.1 (by kernel_rfl)))) ?_
 simp only [p3, p4]
 refine tw 11 (.agg #[d0, d1]) rfl (fun w' hS => (rl 27 0 [d0, d1] (hS.2.2.1 (by kernel_rfl)))) ?_
 simp only [p3, p4]
 refine te ?_
 have kq13 := g2.kp.trans (g3.kp.trans (g4.kp.trans (g7.kp.trans gd10.kp)))
 replace hn := hn.kp kq13
 refine ec 10 (neg_i hn ) ?_
 rintro e12 w12 ⟨⟨x12, y12, rfl, h12⟩, g12⟩
 refine ⟨_, rfl, ?_⟩
 replace hB := hB.trans g12
 replace L2 := L2.gr g12
 replace L3 := L3.gr g12
 refine ⟨trivial, ⟨fun _ => L2, fun _ => L3, trivial⟩, ?_⟩
 simp only [p3, p4]
 refine te ?_
 have kq16 := g7.kp.trans (gd10.kp.trans g12.kp)
 replace hd := hd.kp kq16
 refine ec 12 (neg_i hd ) ?_
 rintro e15 w15 ⟨⟨x15, y15, rfl, h15⟩, g15⟩
 refine ⟨_, rfl, ?_⟩
 replace hB := hB.trans g15
 replace L2 := L2.gr g15
 replace L3 := L3.gr g15
 refine ⟨trivial, ⟨fun _ => L2, fun _ => L3, trivial⟩, ?_⟩
 simp only [p3, p4]
 refine te ?_
 refine es 27 0 (.agg #[x12, y12]) [x12, y12] #[x12, y12] L2 hB q2 ⟨h12.one0, h12.one1, trivial⟩ fun w18 st18 kp18 L2 hB => ?_
 replace L3 := st18.lc L3 (Ne.symm ne2_3)
 refine ⟨trivial, ⟨cameT (by kernel_rfl), fun _ => L3, trivial⟩, ?_⟩
 refine te ?_
 refine es 27 0 (.agg #[x15, y15]) [x15, y15] #[x15, y15] L3 hB q3 ⟨h15.one0, h15.one1, trivial⟩ fun w20 st20 kp20 L3 hB => ?_
 refine ⟨trivial, ⟨cameT (by kernel_rfl), cameT (by kernel_rfl), trivial⟩, ?_⟩
 refine ort_nil ?_
 refine k5 _ _ ?_
 try clear k5 K5
 refine wp_seq_k (fun K21 k21 => ?_)
 refine rg [0, 1, 2, 3, 4] ?_
 replace L2 := st20.lc L2 ne2_3
 refine sw 13 (.agg #[x12, y12]) rfl (rl 27 0 [x12, y12] L2) ?_
 simp only [p3, p4]
 refine sw 14 (.agg #[x15, y15]) rfl (rl 27 0 [x15, y15] L3) ?_
 simp only [p3, p4]
 refine se ?_
 have kq23 := g15.kp.trans (kp18.trans kp20)
 replace h12 := h12.kp kq23
 have kq24 := kp18.trans kp20
 replace h15 := h15.kp kq24
 refine ec 15 (gcd_i h12 h15 (by omega)) ?_
 rintro e22 w22 ⟨⟨x22, y22, rfl, h22⟩, g22⟩
 refine ⟨_, rfl, ?_⟩
 replace hB := hB.trans g22
 simp only [p3, p4]
 refine se ?_
 refine ea 27 #[(.bool false), (.slice none 0 0)] 5 hB fun b25 w25 g25 L25 o25 q25 hB => ?_
 replace L2 := L2.gr g22
 have ne2_25 := L2.ne o25
 replace L3 := L3.gr g22
 have ne3_25 := L3.ne o25
 replace L4 := (st20.lc (st18.lc (L4.gr (g7.trans (gd10.trans (g12.trans g15)))) (Ne.symm ne2_4)) (Ne.symm ne3_4)).gr g22
 have ne4_25 := L4.ne o25
 simp only [p3, p4]
 refine se ?_
 refine es 27 0 (.agg #[x22, y22]) [x22, y22] #[x22, y22] L25 hB q25 ⟨h22.one0, h22.one1, trivial⟩ fun w26 st26 kp26 L25 hB => ?_
 refine sq_nil ?_
 refine k21 _ _ ?_
 try clear k21 K21
 refine wp_seq_k (fun K27 k27 => ?_)
 refine wp_seq_k (fun K28 k28 => ?_)
 have gd35 := Gr.drew w26
 replace hB := hB.trans gd35
 replace L25 := L25.gr gd35
 refine wp_region_ord (fun w' => Lc w' b25 #[x22, y22] 27) [(true, 0), (false, 1), (false, 2), (true, 3)] (by kernel_rfl) (by kernel_rfl) (by kernel_rfl) (by decide) (fun _ _ _ _ _ h => h) L25 ?_
 refine ow 16 (.agg #[x22, y22]) rfl (fun w' hS => (rl 27 0 [x22, y22] hS)) ?_
 simp only [p3, p4]
 refine oe ?_
 refine ec 17 (one_i _) ?_
 rintro e37 w37 ⟨⟨x37, y37, rfl, h37⟩, g37⟩
 refine ⟨_, rfl, ?_⟩
 replace hB := hB.trans g37
 replace L25 := L25.gr g37
 refine ⟨L25, ?_⟩
 simp only [p3, p4]
 refine oe ?_
 have kq40 := g25.kp.trans (kp26.trans (gd35.kp.trans g37.kp))
 replace h22 := h22.kp kq40
 refine ec 18 (compare_i h22 h37 (by omega) (by omega)) ?_
 rintro e39 w39 ⟨rfl, g39⟩
 refine ⟨_, rfl, ?_⟩
 replace hB := hB.trans g39
 replace L25 := L25.gr g39
 refine ⟨L25, ?_⟩
 simp only [p3, p4]
 refine ow 19 (.bool false) rfl (fun w' hS => (RunV.bool (x := (sgn ((Int.gcd ((-N)) ((-D)) : Int) - 1) != (0 : Int))) (rvk (by kernel_rfl)) hg)) ?_
 simp only [p3, p4]
 refine ord_nil ?_
 refine k28 _ _ ?_
 try clear k28 K28
 refine wp_cond_false rfl ?_
 refine wp_skip ?_
 refine k27 _ _ ?_
 try clear k27 K27
 refine wp_seq_k (fun K41 k41 => ?_)
 refine rg [0, 1, 2, 3] ?_
 replace L2 := (st26.lc (L2.gr g25) ne2_25).gr (gd35.trans (g37.trans g39))
 refine sw 34 (.agg #[x12, y12]) rfl (rl 27 0 [x12, y12] L2) ?_
 simp only [p3, p4]
 replace L3 := (st26.lc (L3.gr g25) ne3_25).gr (gd35.trans (g37.trans g39))
 refine sw 35 (.agg #[x15, y15]) rfl (rl 27 0 [x15, y15] L3) ?_
 simp only [p3, p4]
 refine sv 36 (.agg #[x12, y12, x15, y15]) ?_
 simp only [p3, p4]
 refine se ?_
 replace L4 := (st26.lc (L4.gr g25) ne4_25).gr (gd35.trans (g37.trans g39))
 refine es 31 0 (.agg #[x12, y12, x15, y15]) [x12, y12, x15, y15] #[x12, y12, x15, y15] L4 hB q4 ⟨h12.one0, h12.one1, h15.one0, h15.one1, trivial⟩ fun w42 st42 kp42 L4 hB => ?_
 refine sq_nil ?_
 refine k41 _ _ ?_
 try clear k41 K41
 refine wp_ret ?_
 refine bodyPost_ret (v := (.agg #[x12, y12, x15, y15])) (ret_cell _ _ _ rfl rfl L4 (by kernel_rfl)) rfl ⟨?_, hB⟩
 have kq43 := g22.kp.trans (g25.kp.trans (kp26.trans (gd35.kp.trans (g37.kp.trans (g39.kp.trans kp42)))))
 replace h12 := h12.kp kq43
 replace h15 := h15.kp kq43
 exact ⟨_, _, _, _, rfl, h12, h15⟩

set_option maxRecDepth 100000 in
set_option maxHeartbeats 1000000 in
theorem reduced_ng {k : Nat} {n0 n1 d0 d1 : Value} {N D : Int} {w : World} (hn : IsInt w k n0 n1 N) (hd : IsInt w k d0 d1 D) (_hk : k + k + k + k + k + k + 66 ≤ 1000000) (_h0 : D < 0) (hg : (sgn ((Int.gcd ((-N)) ((-D)) : Int) - 1) != 0) = true) (hxn : 0 < (Int.gcd ((-N)) ((-D)) : Int) ∧ (Int.gcd ((-N)) ((-D)) : Int) ∣ (-N)) (_hxd : 0 < (Int.gcd ((-N)) ((-D)) : Int) ∧ (Int.gcd ((-N)) ((-D)) : Int) ∣ (-D)) :
    Calls Tryz.prog 80 #[(.agg #[n0, n1]), (.agg #[d0, d1])] w fun e w' => (∃ x y x2 y2, e = .returned (.agg #[x, y, x2, y2]) ∧ IsInt w' k x y ((-N) / (Int.gcd ((-N)) ((-D)) : Int)) ∧ IsInt w' k x2 y2 ((-D) / (Int.gcd ((-N)) ((-D)) : Int))) ∧ Gr w w' := by
 go_enter Tryz.func80, Tryz.ntmps80
 have hB := Gr.refl w
 refine wp_seq_k (fun K1 k1 => ?_)
 refine rg [0, 1, 2] ?_
 refine se ?_
 refine eb 27 #[n0, n1] 2 hB fun b2 w2 g2 L2 o2 q2 hB => ?_
 simp only [p3, p4]
 refine se ?_
 refine eb 27 #[d0, d1] 3 hB fun b3 w3 g3 L3 o3 q3 hB => ?_
 have ne2_3 := L2.ne o3
 simp only [p3, p4]
 refine se ?_
 refine ea 31 #[(.bool false), (.slice none 0 0), (.bool false), (.slice none 0 0)] 4 hB fun b4 w4 g4 L4 o4 q4 hB => ?_
 replace L2 := L2.gr g3
 have ne2_4 := L2.ne o4
 have ne3_4 := L3.ne o4
 simp only [p3, p4]
 refine sq_nil ?_
 refine k1 _ _ ?_
 try clear k1 K1
 refine wp_seq_k (fun K5 k5 => ?_)
 refine wp_seq_k (fun K6 k6 => ?_)
 refine rg [0, 1, 2] ?_
 replace L3 := L3.gr g4
 refine sw 6 (.agg #[d0, d1]) rfl (rl 27 0 [d0, d1] L3) ?_
 simp only [p3, p4]
 refine se ?_
 have kq8 := g2.kp.trans (g3.kp.trans g4.kp)
 replace hd := hd.kp kq8
 refine ec 7 (sign_neg hd (by omega)) ?_
 rintro e7 w7 ⟨rfl, g7⟩
 refine ⟨_, rfl, ?_⟩
 replace hB := hB.trans g7
 simp only [p3, p4]
 refine sv 8 (.bool true) ?_
 simp only [p3, p4]
 refine sq_nil ?_
 refine k6 _ _ ?_
 try clear k6 K6
 refine wp_cond_true rfl ?_
 have gd10 := Gr.drew w7
 replace hB := hB.trans gd10
 replace L2 := L2.gr (g4.trans (g7.trans gd10))
 replace L3 := L3.gr (g7.trans gd10)
 refine wp_region_ort (fun _ => True) [([4], (fun w' => Lc w' b2 #[n0, n1] 27)), ([5], (fun w' => Lc w' b3 #[d0, d1] 27))] [(true, 0), (true, 2), (false, 1), (false, 3), (false, 4), (false, 5)] (by kernel_rfl) (by kernel_rfl) (by kernel_rfl) (by decide) (fun _ _ _ _ _ h => h) trivial ⟨fun _ => L2, fun _ => L3, trivial⟩ ?_
 refine tw 9 (.agg #[n0, n1]) rfl (fun w' hS => (rl 27 0 [n0, n1] (hS.2.1 (by kernel_rfl)))) ?_
 simp only [p3, p4]
 refine tw 11 (.agg #[d0, d1]) rfl (fun w' hS => (rl 27 0 [d0, d1] (hS.2.2.1 (by kernel_rfl)))) ?_
 simp only [p3, p4]
 refine te ?_
 have kq13 := g2.kp.trans (g3.kp.trans (g4.kp.trans (g7.kp.trans gd10.kp)))
 replace hn := hn.kp kq13
 refine ec 10 (neg_i hn ) ?_
 rintro e12 w12 ⟨⟨x12, y12, rfl, h12⟩, g12⟩
 refine ⟨_, rfl, ?_⟩
 replace hB := hB.trans g12
 replace L2 := L2.gr g12
 replace L3 := L3.gr g12
 refine ⟨trivial, ⟨fun _ => L2, fun _ => L3, trivial⟩, ?_⟩
 simp only [p3, p4]
 refine te ?_
 have kq16 := g7.kp.trans (gd10.kp.trans g12.kp)
 replace hd := hd.kp kq16
 refine ec 12 (neg_i hd ) ?_
 rintro e15 w15 ⟨⟨x15, y15, rfl, h15⟩, g15⟩
 refine ⟨_, rfl, ?_⟩
 replace hB := hB.trans g15
 replace L2 := L2.gr g15
 replace L3 := L3.gr g15
 refine ⟨trivial, ⟨fun _ => L2, fun _ => L3, trivial⟩, ?_⟩
 simp only [p3, p4]
 refine te ?_
 refine es 27 0 (.agg #[x12, y12]) [x12, y12] #[x12, y12] L2 hB q2 ⟨h12.one0, h12.one1, trivial⟩ fun w18 st18 kp18 L2 hB => ?_
 replace L3 := st18.lc L3 (Ne.symm ne2_3)
 refine ⟨trivial, ⟨cameT (by kernel_rfl), fun _ => L3, trivial⟩, ?_⟩
 refine te ?_
 refine es 27 0 (.agg #[x15, y15]) [x15, y15] #[x15, y15] L3 hB q3 ⟨h15.one0, h15.one1, trivial⟩ fun w20 st20 kp20 L3 hB => ?_
 refine ⟨trivial, ⟨cameT (by kernel_rfl), cameT (by kernel_rfl), trivial⟩, ?_⟩
 refine ort_nil ?_
 refine k5 _ _ ?_
 try clear k5 K5
 refine wp_seq_k (fun K21 k21 => ?_)
 refine rg [0, 1, 2, 3, 4] ?_
 replace L2 := st20.lc L2 ne2_3
 refine sw 13 (.agg #[x12, y12]) rfl (rl 27 0 [x12, y12] L2) ?_
 simp only [p3, p4]
 refine sw 14 (.agg #[x15, y15]) rfl (rl 27 0 [x15, y15] L3) ?_
 simp only [p3, p4]
 refine se ?_
 have kq23 := g15.kp.trans (kp18.trans kp20)
 replace h12 := h12.kp kq23
 have kq24 := kp18.trans kp20
 replace h15 := h15.kp kq24
 refine ec 15 (gcd_i h12 h15 (by omega)) ?_
 rintro e22 w22 ⟨⟨x22, y22, rfl, h22⟩, g22⟩
 refine ⟨_, rfl, ?_⟩
 replace hB := hB.trans g22
 simp only [p3, p4]
 refine se ?_
 refine ea 27 #[(.bool false), (.slice none 0 0)] 5 hB fun b25 w25 g25 L25 o25 q25 hB => ?_
 replace L2 := L2.gr g22
 have ne2_25 := L2.ne o25
 replace L3 := L3.gr g22
 have ne3_25 := L3.ne o25
 replace L4 := (st20.lc (st18.lc (L4.gr (g7.trans (gd10.trans (g12.trans g15)))) (Ne.symm ne2_4)) (Ne.symm ne3_4)).gr g22
 have ne4_25 := L4.ne o25
 simp only [p3, p4]
 refine se ?_
 refine es 27 0 (.agg #[x22, y22]) [x22, y22] #[x22, y22] L25 hB q25 ⟨h22.one0, h22.one1, trivial⟩ fun w26 st26 kp26 L25 hB => ?_
 refine sq_nil ?_
 refine k21 _ _ ?_
 try clear k21 K21
 refine wp_seq_k (fun K27 k27 => ?_)
 refine wp_seq_k (fun K28 k28 => ?_)
 have gd35 := Gr.drew w26
 replace hB := hB.trans gd35
 replace L25 := L25.gr gd35
 refine wp_region_ord (fun w' => Lc w' b25 #[x22, y22] 27) [(true, 0), (false, 1), (false, 2), (true, 3)] (by kernel_rfl) (by kernel_rfl) (by kernel_rfl) (by decide) (fun _ _ _ _ _ h => h) L25 ?_
 refine ow 16 (.agg #[x22, y22]) rfl (fun w' hS => (rl 27 0 [x22, y22] hS)) ?_
 simp only [p3, p4]
 refine oe ?_
 refine ec 17 (one_i _) ?_
 rintro e37 w37 ⟨⟨x37, y37, rfl, h37⟩, g37⟩
 refine ⟨_, rfl, ?_⟩
 replace hB := hB.trans g37
 replace L25 := L25.gr g37
 refine ⟨L25, ?_⟩
 simp only [p3, p4]
 refine oe ?_
 have kq40 := g25.kp.trans (kp26.trans (gd35.kp.trans g37.kp))
 replace h22 := h22.kp kq40
 refine ec 18 (compare_i h22 h37 (by omega) (by omega)) ?_
 rintro e39 w39 ⟨rfl, g39⟩
 refine ⟨_, rfl, ?_⟩
 replace hB := hB.trans g39
 replace L25 := L25.gr g39
 refine ⟨L25, ?_⟩
 simp only [p3, p4]
 refine ow 19 (.bool true) rfl (fun w' hS => (RunV.bool (x := (sgn ((Int.gcd ((-N)) ((-D)) : Int) - 1) != (0 : Int))) (rvk (by kernel_rfl)) hg)) ?_
 simp only [p3, p4]
 refine ord_nil ?_
 refine k28 _ _ ?_
 try clear k28 K28
 refine wp_cond_true rfl ?_
 refine wp_seq_k (fun K41 k41 => ?_)
 refine rg [0, 1, 2, 3, 4, 5, 6, 7] ?_
 replace L2 := (st26.lc (L2.gr g25) ne2_25).gr (gd35.trans (g37.trans g39))
 refine sw 21 (.agg #[x12, y12]) rfl (rl 27 0 [x12, y12] L2) ?_
 simp only [p3, p4]
 refine sw 22 (.agg #[x22, y22]) rfl (rl 27 0 [x22, y22] L25) ?_
 simp only [p3, p4]
 refine se ?_
 have kq43 := g22.kp.trans (g25.kp.trans (kp26.trans (gd35.kp.trans (g37.kp.trans g39.kp))))
 replace h12 := h12.kp kq43
 replace h22 := h22.kp g39.kp
 refine ec 23 (divmod_i h12 h22 hxn.1 (by omega)) ?_
 rintro e42 w42 ⟨⟨x42, y42, xr42, yr42, rfl, h42, hr42⟩, g42⟩
 refine ⟨_, rfl, ?_⟩
 replace hB := hB.trans g42
 simp only [p3, p4]
 refine sv 20 (.tuple #[(.agg #[x42, y42]), (.agg #[xr42, yr42]), (.int .i64 0)]) ?_
 simp only [p3, p4]
 refine sv 24 (.agg #[x42, y42]) ?_
 simp only [p3, p4]
 refine sv 25 (.agg #[xr42, yr42]) ?_
 simp only [p3, p4]
 refine sv 26 (.int .i64 0) ?_
 simp only [p3, p4]
 refine se ?_
 replace L2 := L2.gr g42
 refine es 27 0 (.agg #[x42, y42]) [x42, y42] #[x42, y42] L2 hB q2 ⟨h42.one0, h42.one1, trivial⟩ fun w44 st44 kp44 L2 hB => ?_
 refine sq_nil ?_
 refine k41 _ _ ?_
 try clear k41 K41
 refine rg [0, 1, 2, 3, 4, 5, 6, 7] ?_
 replace L3 := st44.lc ((st26.lc (L3.gr g25) ne3_25).gr (gd35.trans (g37.trans (g39.trans g42)))) (Ne.symm ne2_3)
 refine sw 28 (.agg #[x15, y15]) rfl (rl 27 0 [x15, y15] L3) ?_
 simp only [p3, p4]
 replace L25 := st44.lc (L25.gr g42) (Ne.symm ne2_25)
 refine sw 29 (.agg #[x22, y22]) rfl (rl 27 0 [x22, y22] L25) ?_
 simp only [p3, p4]
 refine se ?_
 have kq46 := g22.kp.trans (g25.kp.trans (kp26.trans (gd35.kp.trans (g37.kp.trans (g39.kp.trans (g42.kp.trans kp44))))))
 replace h15 := h15.kp kq46
 have kq47 := g42.kp.trans kp44
 replace h22 := h22.kp kq47
 refine ec 30 (divmod_i h15 h22 hxn.1 (by omega)) ?_
 rintro e45 w45 ⟨⟨x45, y45, xr45, yr45, rfl, h45, hr45⟩, g45⟩
 refine ⟨_, rfl, ?_⟩
 replace hB := hB.trans g45
 simp only [p3, p4]
 refine sv 27 (.tuple #[(.agg #[x45, y45]), (.agg #[xr45, yr45]), (.int .i64 0)]) ?_
 simp only [p3, p4]
 refine sv 31 (.agg #[x45, y45]) ?_
 simp only [p3, p4]
 refine sv 32 (.agg #[xr45, yr45]) ?_
 simp only [p3, p4]
 refine sv 33 (.int .i64 0) ?_
 simp only [p3, p4]
 refine se ?_
 replace L3 := L3.gr g45
 refine es 27 0 (.agg #[x45, y45]) [x45, y45] #[x45, y45] L3 hB q3 ⟨h45.one0, h45.one1, trivial⟩ fun w48 st48 kp48 L3 hB => ?_
 refine sq_nil ?_
 refine k27 _ _ ?_
 try clear k27 K27
 refine wp_seq_k (fun K49 k49 => ?_)
 refine rg [0, 1, 2, 3] ?_
 replace L2 := st48.lc (L2.gr g45) ne2_3
 refine sw 34 (.agg #[x42, y42]) rfl (rl 27 0 [x42, y42] L2) ?_
 simp only [p3, p4]
 refine sw 35 (.agg #[x45, y45]) rfl (rl 27 0 [x45, y45] L3) ?_
 simp only [p3, p4]
 refine sv 36 (.agg #[x42, y42, x45, y45]) ?_
 simp only [p3, p4]
 refine se ?_
 replace L4 := st48.lc ((st44.lc ((st26.lc (L4.gr g25) ne4_25).gr (gd35.trans (g37.trans (g39.trans g42)))) (Ne.symm ne2_4)).gr g45) (Ne.symm ne3_4)
 refine es 31 0 (.agg #[x42, y42, x45, y45]) [x42, y42, x45, y45] #[x42, y42, x45, y45] L4 hB q4 ⟨h42.one0, h42.one1, h45.one0, h45.one1, trivial⟩ fun w50 st50 kp50 L4 hB => ?_
 refine sq_nil ?_
 refine k49 _ _ ?_
 try clear k49 K49
 refine wp_ret ?_
 refine bodyPost_ret (v := (.agg #[x42, y42, x45, y45])) (ret_cell _ _ _ rfl rfl L4 (by kernel_rfl)) rfl ⟨?_, hB⟩
 have kq51 := kp44.trans (g45.kp.trans (kp48.trans kp50))
 replace h42 := h42.kp kq51
 have kq52 := kp48.trans kp50
 replace h45 := h45.kp kq52
 exact ⟨_, _, _, _, rfl, h42, h45⟩

end Go.Proofs.YtloocadjbpgldaaGreatDoor
/- reduced for every denominator but 0. -/
namespace Go.Proofs.YtloocadjbpgldaaGreatDoor
open Go.RowKit

theorem reduced_a {k m : Nat} (K : Nat) {n0 n1 d0 d1 : Value} {N D : Int} {w : World} (hn : IsInt w k n0 n1 N) (hd : IsInt w m d0 d1 D) (h0 : D ≠ 0) (h1 : k ≤ K) (h2 : m ≤ K) (h3 : 64 ≤ K) (h4 : 8 * K ≤ 1000000) :
    Calls Tryz.prog 80 #[.agg #[n0, n1], .agg #[d0, d1]] w fun e w' => (∃ c0 c1 c2 c3, e = .returned (.agg #[c0, c1, c2, c3]) ∧ IsRat w' K c0 c1 c2 c3 (Rat.divInt N D)) ∧ Gr w w' := by
  rcases Int.lt_or_gt_of_ne h0 with hneg | hpos
  · have hN := hn.mono h1
    have hD := hd.mono h2
    have hp : 0 < -D := by omega
    have e0 : Rat.divInt N D = Rat.divInt (-N) (-D) := (Rat.neg_divInt_neg N D).symm
    have en : (Rat.divInt N D).num = (-N) / (Int.gcd (-N) (-D) : Int) := by
      rw [e0, Rat.num_divInt, Int.sign_eq_one_of_pos hp, Int.one_mul, Int.gcd_comm]
    have ed : ((Rat.divInt N D).den : Int) = (-D) / (Int.gcd (-N) (-D) : Int) := by
      rw [e0, Rat.den_divInt, if_neg (by omega), Int.gcd_comm, Int.natCast_ediv]
      congr 1
      omega
    have hg0 : 0 < (Int.gcd (-N) (-D) : Int) := by
      have : Int.gcd (-N) (-D) ≠ 0 := by rw [Ne, Int.gcd_eq_zero_iff]; omega
      omega
    by_cases hg : (Int.gcd (-N) (-D) : Int) = 1
    · refine (reduced_n1 hN hD (by omega) hneg (by rw [hg]; rfl)).mono ?_
      rintro e w1 ⟨⟨x, y, x2, y2, he, hi, hi2⟩, g⟩
      rw [hg, Int.ediv_one] at en ed
      exact ⟨⟨x, y, x2, y2, he, by rw [en]; exact hi, ⟨_, hi2, .inl ed.symm⟩, h3⟩, g⟩
    · have hb : (sgn ((Int.gcd (-N) (-D) : Int) - 1) != 0) = true := by
        have : sgn ((Int.gcd (-N) (-D) : Int) - 1) ≠ 0 := fun h => hg (by have := sgn_eq_zero.1 h; omega)
        simpa using this
      refine (reduced_ng hN hD (by omega) hneg hb ⟨hg0, Int.gcd_dvd_left ..⟩ ⟨hg0, Int.gcd_dvd_right ..⟩).mono ?_
      rintro e w1 ⟨⟨x, y, x2, y2, he, hi, hi2⟩, g⟩
      exact ⟨⟨x, y, x2, y2, he, by rw [en]; exact hi, ⟨_, hi2, .inl ed.symm⟩, h3⟩, g⟩
  · exact reduced_i K hn hd hpos h1 h2 h3 h4
theorem IsInt.abs {w : World} {k : Nat} {x y : Value} {z : Int} (h : IsInt w k x y z) : IsInt w k (.bool false) y (z.natAbs : Int) := by
  obtain ⟨ao, len, cap, h1, h2, h3, h4⟩ := h
  refine ⟨ao, len, cap, ?_, h2, ?_, h4.nat⟩
  · have : decide ((z.natAbs : Int) < 0) = false := by simp
    rw [this]
  · rw [Int.natAbs_natCast]; exact h3
end Go.Proofs.YtloocadjbpgldaaGreatDoor
/- Printed by a program of the prover's: the texts of rationals; Make. -/
namespace Go.Proofs.YtloocadjbpgldaaGreatDoor
open Go.RowKit

set_option maxRecDepth 100000 in
set_option maxHeartbeats 1000000 in
theorem number_w {k : Nat} {u0 u1 u2 u3 : Value} {a : Rat} {w : World} (ha : IsRat w k u0 u1 u2 u3 a) (_hk : k ≤ 800000) (ht : Tab w) (hw : a.den = 1) :
    Calls Tryz.prog 64 #[(.agg #[u0, u1, u2, u3])] w fun e w' => e = .returned (.string ⟨(ratL a).toArray⟩) ∧ Gr w w' := by
 go_enter Tryz.func64, Tryz.ntmps64
 have hB := Gr.refl w
 refine wp_seq_k (fun K1 k1 => ?_)
 refine rg [0, 1] ?_
 refine se ?_
 refine eb 31 #[u0, u1, u2, u3] 1 hB fun b2 w2 g2 L2 o2 q2 hB => ?_
 simp only [p3, p4]
 refine sv 2 (.string ⟨([] : List UInt8).toArray⟩) ?_
 simp only [p3, p4]
 refine sq_nil ?_
 refine k1 _ _ ?_
 try clear k1 K1
 refine wp_seq_k (fun K3 k3 => ?_)
 refine wp_seq_k (fun K4 k4 => ?_)
 refine rg [0, 1] ?_
 refine sw 3 (.agg #[u0, u1, u2, u3]) rfl (rl 31 0 [u0, u1, u2, u3] L2) ?_
 simp only [p3, p4]
 refine se ?_
 replace ha := ha.kp g2.kp
 refine ec 4 (whole_t ha (by omega) hw) ?_
 rintro e5 w5 ⟨rfl, g5⟩
 refine ⟨_, rfl, ?_⟩
 replace hB := hB.trans g5
 simp only [p3, p4]
 refine sq_nil ?_
 refine k4 _ _ ?_
 try clear k4 K4
 refine wp_cond_true rfl ?_
 refine wp_seq_k (fun K6 k6 => ?_)
 refine rg [0, 1, 2, 3] ?_
 refine sv 5 (.pointer (some ⟨b2, 0, none⟩)) ?_
 simp only [p3, p4]
 replace L2 := L2.gr g5
 refine sw 6 (.agg #[u0, u1]) rfl (rl 27 0 [u0, u1] L2) ?_
 simp only [p3, p4]
 refine se ?_
 replace ha := ha.kp g5.kp
 refine ec 7 (text_i ha.num (by omega) (ht.gr hB)) ?_
 rintro e7 w7 ⟨rfl, g7⟩
 refine ⟨_, rfl, ?_⟩
 replace hB := hB.trans g7
 simp only [p3, p4]
 refine sv 2 (.string ⟨(Lib.itoa (a.num) : List UInt8).toArray⟩) ?_
 simp only [p3, p4]
 refine sq_nil ?_
 refine k6 _ _ ?_
 try clear k6 K6
 refine wp_ret ?_
 simp only [Exit.then]
 refine bodyPost_ret (v := (.string ⟨(Lib.itoa (a.num) : List UInt8).toArray⟩)) (ret_tmp rfl rfl) rfl ⟨?_, hB⟩
 exact (by rw [ratL_w hw])

set_option maxRecDepth 100000 in
set_option maxHeartbeats 1000000 in
theorem number_d {k : Nat} {u0 u1 u2 u3 : Value} {a : Rat} {w : World} (ha : IsRat w k u0 u1 u2 u3 a) (_hk : k ≤ 800000) (ht : Tab w) (hd : IsInt w k u2 u3 (a.den : Int)) (hw : ¬ a.den = 1) :
    Calls Tryz.prog 64 #[(.agg #[u0, u1, u2, u3])] w fun e w' => e = .returned (.string ⟨(ratL a).toArray⟩) ∧ Gr w w' := by
 have hl1 := itoa_len ha.num.sz
 have hl2 := itoa_len hd.sz
 go_enter Tryz.func64, Tryz.ntmps64
 have hB := Gr.refl w
 refine wp_seq_k (fun K1 k1 => ?_)
 refine rg [0, 1] ?_
 refine se ?_
 refine eb 31 #[u0, u1, u2, u3] 1 hB fun b2 w2 g2 L2 o2 q2 hB => ?_
 simp only [p3, p4]
 refine sv 2 (.string ⟨([] : List UInt8).toArray⟩) ?_
 simp only [p3, p4]
 refine sq_nil ?_
 refine k1 _ _ ?_
 try clear k1 K1
 refine wp_seq_k (fun K3 k3 => ?_)
 refine wp_seq_k (fun K4 k4 => ?_)
 refine rg [0, 1] ?_
 refine sw 3 (.agg #[u0, u1, u2, u3]) rfl (rl 31 0 [u0, u1, u2, u3] L2) ?_
 simp only [p3, p4]
 refine se ?_
 replace ha := ha.kp g2.kp
 refine ec 4 (whole_f ha (by omega) hw) ?_
 rintro e5 w5 ⟨rfl, g5⟩
 refine ⟨_, rfl, ?_⟩
 replace hB := hB.trans g5
 simp only [p3, p4]
 refine sq_nil ?_
 refine k4 _ _ ?_
 try clear k4 K4
 refine wp_cond_false rfl ?_
 refine wp_skip ?_
 refine k3 _ _ ?_
 try clear k3 K3
 refine wp_seq_k (fun K6 k6 => ?_)
 have gd14 := Gr.drew w5
 replace hB := hB.trans gd14
 replace L2 := L2.gr (g5.trans gd14)
 refine wp_region_ord (fun w' => Lc w' b2 #[u0, u1, u2, u3] 31) [(true, 0), (true, 1), (true, 4), (true, 5), (false, 2), (true, 3), (false, 6), (true, 7), (true, 8)] (by kernel_rfl) (by kernel_rfl) (by kernel_rfl) (by decide) (fun _ _ _ _ _ h => h) L2 ?_
 refine ov 8 (.pointer (some ⟨b2, 0, none⟩)) ?_
 simp only [p3, p4]
 refine ow 9 (.agg #[u0, u1]) rfl (fun w' hS => (rl 27 0 [u0, u1] hS)) ?_
 simp only [p3, p4]
 refine ov 12 (.pointer (some ⟨b2, 2, none⟩)) ?_
 simp only [p3, p4]
 refine ow 13 (.agg #[u2, u3]) rfl (fun w' hS => (rl 27 2 [u2, u3] hS)) ?_
 simp only [p3, p4]
 refine oe ?_
 have kq17 := g5.kp.trans gd14.kp
 replace ha := ha.kp kq17
 refine ec 10 (text_i ha.num (by omega) (ht.gr hB)) ?_
 rintro e16 w16 ⟨rfl, g16⟩
 refine ⟨_, rfl, ?_⟩
 replace hB := hB.trans g16
 replace L2 := L2.gr g16
 refine ⟨L2, ?_⟩
 simp only [p3, p4]
 refine ow 11 (.string ⟨((Lib.itoa (a.num)) ++ ([47]) : List UInt8).toArray⟩) rfl (fun w' hS => (rv_cat 9 9 _ _ (Lib.itoa (a.num)) ([47]) rfl rfl rfl (by simp only [List.length_cons, List.length_nil]; omega))) ?_
 simp only [p3, p4]
 refine oe ?_
 have kq20 := g2.kp.trans (g5.kp.trans (gd14.kp.trans g16.kp))
 replace hd := hd.kp kq20
 refine ec 14 (text_i hd (by omega) (ht.gr hB)) ?_
 rintro e19 w19 ⟨rfl, g19⟩
 refine ⟨_, rfl, ?_⟩
 replace hB := hB.trans g19
 replace L2 := L2.gr g19
 refine ⟨L2, ?_⟩
 simp only [p3, p4]
 refine ow 15 (.string ⟨(((Lib.itoa (a.num)) ++ ([47])) ++ (Lib.itoa ((a.den : Int))) : List UInt8).toArray⟩) rfl (fun w' hS => (rv_cat 9 9 _ _ ((Lib.itoa (a.num)) ++ ([47])) (Lib.itoa ((a.den : Int))) rfl rfl rfl (by simp only [List.length_append, List.length_cons, List.length_nil]; omega))) ?_
 simp only [p3, p4]
 refine ov 2 (.string ⟨(((Lib.itoa (a.num)) ++ ([47])) ++ (Lib.itoa ((a.den : Int))) : List UInt8).toArray⟩) ?_
 simp only [p3, p4]
 refine ord_nil ?_
 refine k6 _ _ ?_
 try clear k6 K6
 refine wp_ret ?_
 refine bodyPost_ret (v := (.string ⟨(((Lib.itoa (a.num)) ++ ([47])) ++ (Lib.itoa ((a.den : Int))) : List UInt8).toArray⟩)) (ret_tmp rfl rfl) rfl ⟨?_, hB⟩
 exact (by rw [ratL_f hw])

theorem number_r {k : Nat} {u0 u1 u2 u3 : Value} {a : Rat} {w : World} (ha : IsRat w k u0 u1 u2 u3 a) (hk : k ≤ 800000) (ht : Tab w) :
    Calls Tryz.prog 64 #[.agg #[u0, u1, u2, u3]] w fun e w' => e = .returned (.string ⟨(ratL a).toArray⟩) ∧ Gr w w' := by
  by_cases hw : a.den = 1
  · exact number_w ha hk ht hw
  · obtain ⟨D, h2, h3⟩ := ha.den
    rcases h3 with h3 | ⟨_, h4⟩
    · subst h3; exact number_d ha hk ht h2 hw
    · exact absurd h4 hw

end Go.Proofs.YtloocadjbpgldaaGreatDoor
/- Printed by a program of the prover's: Make, Floor, Ceil, Abs. -/
namespace Go.Proofs.YtloocadjbpgldaaGreatDoor
open Go.RowKit

set_option maxRecDepth 100000 in
set_option maxHeartbeats 1000000 in
theorem make_a {k m : Nat} (K : Nat) {n0 n1 d0 d1 : Value} {N D : Int} {w : World} (hn : IsInt w k n0 n1 N) (hd : IsInt w m d0 d1 D) (hD : D ≠ 0) (_h1 : k ≤ K) (_h2 : m ≤ K) (_h3 : 64 ≤ K) (_h4 : 8 * K ≤ 1000000) :
    Calls Tryz.prog 18 #[(.agg #[n0, n1]), (.agg #[d0, d1])] w fun e w' => (∃ c0 c1 c2 c3, e = .returned (.tuple #[.agg #[c0, c1, c2, c3], .int .i64 0]) ∧ IsRat w' K c0 c1 c2 c3 (Rat.divInt N D)) ∧ Gr w w' := by
 have he : (sgn D == (0 : Int)) = false := by rw [beq_eq_false_iff_ne]; exact fun e => hD (sgn_eq_zero.1 e)
 go_enter Tryz.func18, Tryz.ntmps18
 have hB := Gr.refl w
 refine wp_seq_k (fun K1 k1 => ?_)
 refine rg [0, 1, 2, 3] ?_
 refine se ?_
 refine eb 27 #[n0, n1] 2 hB fun b2 w2 g2 L2 o2 q2 hB => ?_
 simp only [p3, p4]
 refine se ?_
 refine eb 27 #[d0, d1] 3 hB fun b3 w3 g3 L3 o3 q3 hB => ?_
 simp only [p3, p4]
 refine se ?_
 refine ea 31 #[(.bool false), (.slice none 0 0), (.bool false), (.slice none 0 0)] 4 hB fun b4 w4 g4 L4 o4 q4 hB => ?_
 replace L2 := L2.gr g3
 simp only [p3, p4]
 refine sv 5 (.int .i64 0) ?_
 simp only [p3, p4]
 refine sq_nil ?_
 refine k1 _ _ ?_
 try clear k1 K1
 refine wp_seq_k (fun K5 k5 => ?_)
 refine wp_seq_k (fun K6 k6 => ?_)
 refine rg [0, 1, 2] ?_
 replace L3 := L3.gr g4
 refine sw 6 (.agg #[d0, d1]) rfl (rl 27 0 [d0, d1] L3) ?_
 simp only [p3, p4]
 refine se ?_
 have kq8 := g2.kp.trans (g3.kp.trans g4.kp)
 replace hd := hd.kp kq8
 refine ec 7 (sign_i hd) ?_
 rintro e7 w7 ⟨rfl, g7⟩
 refine ⟨_, rfl, ?_⟩
 replace hB := hB.trans g7
 simp only [p3, p4]
 refine sw 8 (.bool false) rfl (RunV.bool (x := (sgn (D) == (0 : Int))) (rvk (by kernel_rfl)) he) ?_
 simp only [p3, p4]
 refine sq_nil ?_
 refine k6 _ _ ?_
 try clear k6 K6
 refine wp_cond_false rfl ?_
 refine wp_skip ?_
 refine k5 _ _ ?_
 try clear k5 K5
 refine wp_seq_k (fun K9 k9 => ?_)
 refine rg [0, 1, 2, 3, 4] ?_
 replace L2 := L2.gr (g4.trans g7)
 refine sw 10 (.agg #[n0, n1]) rfl (rl 27 0 [n0, n1] L2) ?_
 simp only [p3, p4]
 replace L3 := L3.gr g7
 refine sw 11 (.agg #[d0, d1]) rfl (rl 27 0 [d0, d1] L3) ?_
 simp only [p3, p4]
 refine se ?_
 have kq11 := g2.kp.trans (g3.kp.trans (g4.kp.trans g7.kp))
 replace hn := hn.kp kq11
 replace hd := hd.kp g7.kp
 refine ec 12 (reduced_a (K) hn hd hD (by omega) (by omega) (by omega) (by omega)) ?_
 rintro e10 w10 ⟨⟨p10, q10, r10, s10, rfl, h10⟩, g10⟩
 refine ⟨_, rfl, ?_⟩
 replace hB := hB.trans g10
 simp only [p3, p4]
 refine se ?_
 replace L4 := L4.gr (g7.trans g10)
 refine es 31 0 (.agg #[p10, q10, r10, s10]) [p10, q10, r10, s10] #[p10, q10, r10, s10] L4 hB q4 ⟨h10.one0, h10.one1, h10.one2, h10.one3, trivial⟩ fun w12 st12 kp12 L4 hB => ?_
 refine sv 5 (.int .i64 0) ?_
 simp only [p3, p4]
 refine sq_nil ?_
 refine k9 _ _ ?_
 try clear k9 K9
 refine wp_ret ?_
 refine bodyPost_ret (v := (.tuple #[(.agg #[p10, q10, r10, s10]), (.int .i64 0)])) (ret_cell_tmp' _ _ _ rfl rfl L4 (by kernel_rfl) rfl) rfl ⟨?_, hB⟩
 replace h10 := h10.kp kp12
 exact ⟨_, _, _, _, rfl, h10⟩

set_option maxRecDepth 100000 in
set_option maxHeartbeats 1000000 in
theorem make_0 {k m : Nat} {n0 n1 d0 d1 : Value} {N : Int} {w : World} (_hn : IsInt w k n0 n1 N) (hd : IsInt w m d0 d1 0) :
    Calls Tryz.prog 18 #[(.agg #[n0, n1]), (.agg #[d0, d1])] w fun e w' => e = .returned (.tuple #[.agg #[.bool false, .slice none 0 0, .bool false, .slice none 0 0], .int .i64 19]) ∧ Gr w w' := by
 go_enter Tryz.func18, Tryz.ntmps18
 have hB := Gr.refl w
 refine wp_seq_k (fun K1 k1 => ?_)
 refine rg [0, 1, 2, 3] ?_
 refine se ?_
 refine eb 27 #[n0, n1] 2 hB fun b2 w2 g2 L2 o2 q2 hB => ?_
 simp only [p3, p4]
 refine se ?_
 refine eb 27 #[d0, d1] 3 hB fun b3 w3 g3 L3 o3 q3 hB => ?_
 simp only [p3, p4]
 refine se ?_
 refine ea 31 #[(.bool false), (.slice none 0 0), (.bool false), (.slice none 0 0)] 4 hB fun b4 w4 g4 L4 o4 q4 hB => ?_
 simp only [p3, p4]
 refine sv 5 (.int .i64 0) ?_
 simp only [p3, p4]
 refine sq_nil ?_
 refine k1 _ _ ?_
 try clear k1 K1
 refine wp_seq_k (fun K5 k5 => ?_)
 refine wp_seq_k (fun K6 k6 => ?_)
 refine rg [0, 1, 2] ?_
 replace L3 := L3.gr g4
 refine sw 6 (.agg #[d0, d1]) rfl (rl 27 0 [d0, d1] L3) ?_
 simp only [p3, p4]
 refine se ?_
 have kq8 := g2.kp.trans (g3.kp.trans g4.kp)
 replace hd := hd.kp kq8
 refine ec 7 (sign_zero hd) ?_
 rintro e7 w7 ⟨rfl, g7⟩
 refine ⟨_, rfl, ?_⟩
 replace hB := hB.trans g7
 simp only [p3, p4]
 refine sv 8 (.bool true) ?_
 simp only [p3, p4]
 refine sq_nil ?_
 refine k6 _ _ ?_
 try clear k6 K6
 refine wp_cond_true rfl ?_
 refine wp_seq_k (fun K9 k9 => ?_)
 refine rg [0, 1, 2] ?_
 refine sv 9 (.agg #[(.bool false), (.slice none 0 0), (.bool false), (.slice none 0 0)]) ?_
 simp only [p3, p4]
 refine se ?_
 replace L4 := L4.gr g7
 refine es 31 0 (.agg #[(.bool false), (.slice none 0 0), (.bool false), (.slice none 0 0)]) [(.bool false), (.slice none 0 0), (.bool false), (.slice none 0 0)] #[(.bool false), (.slice none 0 0), (.bool false), (.slice none 0 0)] L4 hB q4 ⟨rfl, rfl, rfl, rfl, trivial⟩ fun w10 st10 kp10 L4 hB => ?_
 refine sv 5 (.int .i64 19) ?_
 simp only [p3, p4]
 refine sq_nil ?_
 refine k9 _ _ ?_
 try clear k9 K9
 refine wp_ret ?_
 simp only [Exit.then]
 refine bodyPost_ret (v := (.tuple #[(.agg #[(.bool false), (.slice none 0 0), (.bool false), (.slice none 0 0)]), (.int .i64 19)])) (ret_cell_tmp' _ _ _ rfl rfl L4 (by kernel_rfl) rfl) rfl ⟨?_, hB⟩
 exact rfl

set_option maxRecDepth 100000 in
set_option maxHeartbeats 1000000 in
theorem floor_r {k : Nat} {u0 u1 u2 u3 : Value} {a : Rat} {w : World} (ha : IsRat w k u0 u1 u2 u3 a) (_hk : k ≤ 100000) :
    Calls Tryz.prog 38 #[(.agg #[u0, u1, u2, u3])] w fun e w' => (∃ x' y', e = .returned (.agg #[x', y']) ∧ IsInt w' k x' y' (a.num / (a.den : Int))) ∧ Gr w w' := by
 go_enter Tryz.func38, Tryz.ntmps38
 have hB := Gr.refl w
 refine wp_seq_k (fun K1 k1 => ?_)
 refine rg [0, 1] ?_
 refine se ?_
 refine eb 31 #[u0, u1, u2, u3] 1 hB fun b2 w2 g2 L2 o2 q2 hB => ?_
 simp only [p3, p4]
 refine se ?_
 refine ea 27 #[(.bool false), (.slice none 0 0)] 2 hB fun b3 w3 g3 L3 o3 q3 hB => ?_
 simp only [p3, p4]
 refine sq_nil ?_
 refine k1 _ _ ?_
 try clear k1 K1
 refine wp_seq_k (fun K4 k4 => ?_)
 have hz5 := Below.size hB
 replace L2 := L2.gr g3
 have lt2_5 := L2.lt
 have lt3_5 := L3.lt
 have gd5 := Gr.drew w3
 replace hB := hB.trans gd5
 replace L2 := L2.gr gd5
 refine wp_region_flo (fun w' => Lc w' b2 #[u0, u1, u2, u3] 31) [(true, 0), (true, 1), (true, 2), (false, 3), (false, 4), (true, 5), (true, 6), (true, 7), (true, 8)] [⟨9, 3, 27, #[(.bool false), (.slice none 0 0)]⟩, ⟨10, 4, 27, #[(.bool false), (.slice none 0 0)]⟩] [(false, 11), (false, 12), (true, 13)] (by kernel_rfl) (by kernel_rfl) (by kernel_rfl) (by kernel_rfl) (by kernel_rfl) (by decide) (fun _ _ _ _ _ h => h) (fun _ _ _ _ _ h => h) (fun w' o h => Lc.gr h (Gr.alloc w' o)) L2 (by intro f hf; simp only [List.mem_cons, List.not_mem_nil, or_false] at hf; rcases hf with rfl | rfl <;> first | exact alloc_zero (z := (.agg #[(.bool false), (.slice none 0 0)])) (by kernel_rfl) rfl | exact alloc_zero (z := (.agg #[(.bool false), (.slice none 0 0)])) (by kernel_rfl) rfl) ?_
 refine fv 7 (.pointer (some ⟨b2, 0, none⟩)) ?_
 simp only [p3, p4]
 refine fw 8 (.agg #[u0, u1]) rfl (fun w' hS => (rl 27 0 [u0, u1] hS)) ?_
 simp only [p3, p4]
 refine fw 9 (.agg #[u0, u1, u2, u3]) rfl (fun w' hS => (rl 31 0 [u0, u1, u2, u3] hS)) ?_
 simp only [p3, p4]
 refine flo_eff rfl rfl (fun w6 g6 _ K6 k6 => ?_)
 replace hB := hB.trans g6
 have kq8 := g2.kp.trans (g3.kp.trans (gd5.kp.trans g6.kp))
 replace ha := ha.kp kq8
 refine ec 10 (den_i ha) ?_
 rintro e7 w7 ⟨⟨x7, y7, rfl, h7⟩, g7⟩
 refine ⟨_, rfl, ?_⟩
 replace hB := hB.trans g7
 replace L2 := L2.gr (g6.trans g7)
 refine k6 _ _ g7 L2 ?_
 try clear k6 K6
 simp only [p3, p4]
 refine flo_eff rfl rfl (fun w9 g9 _ K9 k9 => ?_)
 replace hB := hB.trans g9
 have kq11 := g7.kp.trans g9.kp
 replace ha := ha.kp kq11
 replace h7 := h7.kp g9.kp
 refine ec 11 (divmod_i ha.num h7 (Int.natCast_pos.2 (Rat.den_pos _)) (by omega)) ?_
 rintro e10 w10 ⟨⟨x10, y10, xr10, yr10, rfl, h10, hr10⟩, g10⟩
 refine ⟨_, rfl, ?_⟩
 replace hB := hB.trans g10
 replace L2 := L2.gr (g9.trans g10)
 refine k9 _ _ g10 L2 ?_
 try clear k9 K9
 simp only [p3, p4]
 refine fv 6 (.tuple #[(.agg #[x10, y10]), (.agg #[xr10, yr10]), (.int .i64 0)]) ?_
 simp only [p3, p4]
 refine fv 12 (.agg #[x10, y10]) ?_
 simp only [p3, p4]
 refine fv 13 (.agg #[xr10, yr10]) ?_
 simp only [p3, p4]
 refine fv 14 (.int .i64 0) ?_
 simp only [p3, p4]
 refine flo_nil (fun w12 g12 _ => ?_)
 replace hB := hB.trans g12
 refine floFin2 (fun b13 b14 (L13 : Lc w12 b13 #[(.bool false), (.slice none 0 0)] 27) q13 (L14 : Lc w12 b14 #[(.bool false), (.slice none 0 0)] 27) q14 ne13_14 => ?_)
 have ne2_13 : b2 ≠ b13 := Nat.ne_of_lt (Nat.lt_of_lt_of_le lt2_5 q13)
 have ne3_13 : b3 ≠ b13 := Nat.ne_of_lt (Nat.lt_of_lt_of_le lt3_5 q13)
 replace q13 := Nat.le_trans hz5 q13
 have ne2_14 : b2 ≠ b14 := Nat.ne_of_lt (Nat.lt_of_lt_of_le lt2_5 q14)
 have ne3_14 : b3 ≠ b14 := Nat.ne_of_lt (Nat.lt_of_lt_of_le lt3_5 q14)
 replace q14 := Nat.le_trans hz5 q14
 simp only [putl, p3, p4]
 refine oe ?_
 refine es 27 0 (.agg #[x10, y10]) [x10, y10] #[x10, y10] L13 hB q13 ⟨h10.one0, h10.one1, trivial⟩ fun w16 st16 kp16 L13 hB => ?_
 replace L2 := st16.lc (L2.gr g12) ne2_13
 refine ⟨L2, ?_⟩
 refine oe ?_
 replace L14 := st16.lc L14 (Ne.symm ne13_14)
 refine es 27 0 (.agg #[xr10, yr10]) [xr10, yr10] #[xr10, yr10] L14 hB q14 ⟨hr10.one0, hr10.one1, trivial⟩ fun w18 st18 kp18 L14 hB => ?_
 replace L2 := st18.lc L2 ne2_14
 refine ⟨L2, ?_⟩
 refine ov 5 (.int .i64 0) ?_
 simp only [p3, p4]
 refine ord_nil ?_
 refine k4 _ _ ?_
 try clear k4 K4
 refine wp_seq_k (fun K19 k19 => ?_)
 refine rg [0, 1] ?_
 replace L13 := st18.lc L13 ne13_14
 refine sw 15 (.agg #[x10, y10]) rfl (rl 27 0 [x10, y10] L13) ?_
 simp only [p3, p4]
 refine se ?_
 replace L3 := st18.lc (st16.lc (L3.gr (gd5.trans (g6.trans (g7.trans (g9.trans (g10.trans g12)))))) ne3_13) ne3_14
 refine es 27 0 (.agg #[x10, y10]) [x10, y10] #[x10, y10] L3 hB q3 ⟨h10.one0, h10.one1, trivial⟩ fun w20 st20 kp20 L3 hB => ?_
 refine sq_nil ?_
 refine k19 _ _ ?_
 try clear k19 K19
 refine wp_ret ?_
 refine bodyPost_ret (v := (.agg #[x10, y10])) (ret_cell _ _ _ rfl rfl L3 (by kernel_rfl)) rfl ⟨?_, hB⟩
 have kq21 := g12.kp.trans (kp16.trans (kp18.trans kp20))
 replace h10 := h10.kp kq21
 exact ⟨_, _, rfl, h10⟩

set_option maxRecDepth 100000 in
set_option maxHeartbeats 1000000 in
theorem ceil_r {k : Nat} {u0 u1 u2 u3 : Value} {a : Rat} {w : World} (ha : IsRat w k u0 u1 u2 u3 a) (_hk : k ≤ 100000) :
    Calls Tryz.prog 39 #[(.agg #[u0, u1, u2, u3])] w fun e w' => (∃ x' y', e = .returned (.agg #[x', y']) ∧ IsInt w' k x' y' (-((-a).num / ((-a).den : Int)))) ∧ Gr w w' := by
 go_enter Tryz.func39, Tryz.ntmps39
 have hB := Gr.refl w
 refine wp_seq_k (fun K1 k1 => ?_)
 refine rg [0, 1] ?_
 refine se ?_
 refine eb 31 #[u0, u1, u2, u3] 1 hB fun b2 w2 g2 L2 o2 q2 hB => ?_
 simp only [p3, p4]
 refine se ?_
 refine ea 27 #[(.bool false), (.slice none 0 0)] 2 hB fun b3 w3 g3 L3 o3 q3 hB => ?_
 simp only [p3, p4]
 refine sq_nil ?_
 refine k1 _ _ ?_
 try clear k1 K1
 refine wp_seq_k (fun K4 k4 => ?_)
 refine rg [0, 1, 2, 3, 4] ?_
 replace L2 := L2.gr g3
 refine sw 3 (.agg #[u0, u1, u2, u3]) rfl (rl 31 0 [u0, u1, u2, u3] L2) ?_
 simp only [p3, p4]
 refine se ?_
 have kq6 := g2.kp.trans g3.kp
 replace ha := ha.kp kq6
 refine ec 4 (neg_r ha ) ?_
 rintro e5 w5 ⟨⟨p5, q5, r5, s5, rfl, h5⟩, g5⟩
 refine ⟨_, rfl, ?_⟩
 replace hB := hB.trans g5
 simp only [p3, p4]
 refine se ?_
 refine ec 5 (floor_r h5 (by omega)) ?_
 rintro e7 w7 ⟨⟨x7, y7, rfl, h7⟩, g7⟩
 refine ⟨_, rfl, ?_⟩
 replace hB := hB.trans g7
 simp only [p3, p4]
 refine se ?_
 refine ec 6 (neg_i h7 ) ?_
 rintro e8 w8 ⟨⟨x8, y8, rfl, h8⟩, g8⟩
 refine ⟨_, rfl, ?_⟩
 replace hB := hB.trans g8
 simp only [p3, p4]
 refine se ?_
 replace L3 := L3.gr (g5.trans (g7.trans g8))
 refine es 27 0 (.agg #[x8, y8]) [x8, y8] #[x8, y8] L3 hB q3 ⟨h8.one0, h8.one1, trivial⟩ fun w9 st9 kp9 L3 hB => ?_
 refine sq_nil ?_
 refine k4 _ _ ?_
 try clear k4 K4
 refine wp_ret ?_
 refine bodyPost_ret (v := (.agg #[x8, y8])) (ret_cell _ _ _ rfl rfl L3 (by kernel_rfl)) rfl ⟨?_, hB⟩
 replace h8 := h8.kp kp9
 exact ⟨_, _, rfl, h8⟩

set_option maxRecDepth 100000 in
set_option maxHeartbeats 1000000 in
theorem abs_m (s : Bool) (ao : Option Addr) (la ca : Nat) (w : World) :
    Calls Tryz.prog 101 #[(.agg #[(.bool (s)), (.slice ao la ca)])] w fun e w' => e = .returned (.agg #[.bool false, .slice ao la ca]) ∧ Gr w w' := by
 go_enter Tryz.func101, Tryz.ntmps101
 have hB := Gr.refl w
 refine wp_seq_k (fun K1 k1 => ?_)
 refine rg [0, 1] ?_
 refine se ?_
 refine eb 27 #[(.bool (s)), (.slice ao la ca)] 1 hB fun b2 w2 g2 L2 o2 q2 hB => ?_
 simp only [p3, p4]
 refine se ?_
 refine ea 27 #[(.bool false), (.slice none 0 0)] 2 hB fun b3 w3 g3 L3 o3 q3 hB => ?_
 simp only [p3, p4]
 refine sq_nil ?_
 refine k1 _ _ ?_
 try clear k1 K1
 refine wp_seq_k (fun K4 k4 => ?_)
 refine rg [0, 1, 2, 3] ?_
 refine sv 3 (.pointer (some ⟨b2, 1, none⟩)) ?_
 simp only [p3, p4]
 replace L2 := L2.gr g3
 refine sw 4 (.slice ao la ca) rfl (rk 25 1 L2) ?_
 simp only [p3, p4]
 refine sv 5 (.agg #[(.bool false), (.slice ao la ca)]) ?_
 simp only [p3, p4]
 refine se ?_
 refine es 27 0 (.agg #[(.bool false), (.slice ao la ca)]) [(.bool false), (.slice ao la ca)] #[(.bool false), (.slice ao la ca)] L3 hB q3 ⟨rfl, rfl, trivial⟩ fun w5 st5 kp5 L3 hB => ?_
 refine sq_nil ?_
 refine k4 _ _ ?_
 try clear k4 K4
 refine wp_ret ?_
 refine bodyPost_ret (v := (.agg #[(.bool false), (.slice ao la ca)])) (ret_cell _ _ _ rfl rfl L3 (by kernel_rfl)) rfl ⟨?_, hB⟩
 exact rfl

theorem abs_i {k : Nat} {x y : Value} {z : Int} {w : World} (hz : IsInt w k x y z) :
    Calls Tryz.prog 101 #[.agg #[x, y]] w fun e w' => (e = .returned (.agg #[.bool false, y]) ∧ IsInt w' k (.bool false) y (z.natAbs : Int)) ∧ Gr w w' := by
  have h := hz.abs
  obtain ⟨ao, len, cap, rfl, rfl, _, _⟩ := hz
  refine (abs_m _ ao len cap w).mono ?_
  rintro e w1 ⟨he, g⟩
  exact ⟨⟨he, h.gr g⟩, g⟩

end Go.Proofs.YtloocadjbpgldaaGreatDoor
