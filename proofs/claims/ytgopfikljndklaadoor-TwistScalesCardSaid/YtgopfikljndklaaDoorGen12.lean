/- Printed by a program of the prover's: the text of an integer. -/
import Derived.Test.YtgopfikljndklaaDoorTxt
namespace Go.Proofs.YtgopfikljndklaaDoor
open Go.RowKit


set_option maxRecDepth 100000 in
set_option maxHeartbeats 4000000 in
theorem text_pos {k N : Nat} {s : Bool} {ao : Option Addr} {la ca : Nat} {w : World} (ha : Mag w ao la ca (N : Int)) (hN : 0 < N) (hNk : N < 2 ^ k) (_hk : k ≤ 900000) (ht : Tab w) :
    Calls Tryd.prog 60 #[(.agg #[(.bool (s)), (.slice ao la ca)])] w fun e w' => e = .returned (.string ⟨((if s then [45] else []) ++ Lib.decDigits N).toArray⟩) ∧ Gr w w' := by
 have hla : 0 < la := by
    rcases Nat.eq_zero_or_pos la with e | e
    · have := ha.nl.len_zero.1 e; omega
    · exact e
 have e0 : ((la : Int) == (0 : Int)) = false := by simp; omega
 go_enter Tryd.func60, Tryd.ntmps60
 have hB := Gr.refl w
 refine wp_seq_k (fun K1 k1 => ?_)
 refine rg [0, 1] ?_
 refine se ?_
 refine eb 29 #[(.bool (s)), (.slice ao la ca)] 1 hB fun b2 w2 g2 L2 o2 q2 hB => ?_
 simp only [p3, p4]
 refine sv 2 (.string ⟨([] : List UInt8).toArray⟩) ?_
 simp only [p3, p4]
 refine sq_nil ?_
 refine k1 _ _ ?_
 try clear k1 K1
 refine wp_seq_k (fun K3 k3 => ?_)
 refine wp_seq_k (fun K4 k4 => ?_)
 refine rg [0, 1, 2, 3] ?_
 refine sv 9 (.pointer (some ⟨b2, 1, none⟩)) ?_
 simp only [p3, p4]
 refine sw 10 (.slice ao la ca) rfl (rk 27 1 L2) ?_
 simp only [p3, p4]
 refine sv 11 (.int .i64 ((la : Int))) ?_
 simp only [p3, p4]
 refine sw 12 (.bool false) rfl (RunV.bool (x := ((la : Int) == (0 : Int))) (rvk (by kernel_rfl)) e0) ?_
 simp only [p3, p4]
 refine sq_nil ?_
 refine k4 _ _ ?_
 try clear k4 K4
 refine wp_cond_false rfl ?_
 refine wp_skip ?_
 refine k3 _ _ ?_
 try clear k3 K3
 refine wp_seq_k (fun K5 k5 => ?_)
 refine rg [0] ?_
 refine sv 3 (.slice none 0 0) ?_
 simp only [p3, p4]
 refine sq_nil ?_
 refine k5 _ _ ?_
 try clear k5 K5
 refine wp_seq_k (fun K6 k6 => ?_)
 refine wp_seq_k (fun K7 k7 => ?_)
 refine rg [0, 1, 2] ?_
 refine sv 13 (.pointer (some ⟨b2, 1, none⟩)) ?_
 simp only [p3, p4]
 refine sw 14 (.slice ao la ca) rfl (rk 27 1 L2) ?_
 simp only [p3, p4]
 refine sv 4 (.slice ao la ca) ?_
 simp only [p3, p4]
 refine sq_nil ?_
 refine k7 _ _ ?_
 try clear k7 K7
 refine wp_block ?_
 replace ha := ha.kp g2.kp
 refine wp_loop_inv (a := ⟨List.toArray ?l8, []⟩) (fun n a w' => ∃ (u : Nat) (L : List (List UInt8)) (v : Value) (mo : Option Addr) (ml : Nat) (mc : Nat) (u8 : Nat → Value), u = n ∧ a = ⟨[(u8 0), (.pointer (some ⟨b2, 0, none⟩)), (.string ⟨([] : List UInt8).toArray⟩), v, (.slice mo ml mc), (u8 5), (u8 6), (u8 7), undef, (u8 9), (u8 10), (u8 11), (.bool false), (u8 13), (u8 14), (u8 15), (u8 16), (u8 17), (u8 18), (u8 19), (u8 20), (u8 21), (u8 22), (u8 23), (u8 24), (u8 25), (u8 26), (u8 27), (u8 28), (u8 29), (u8 30), (u8 31), (u8 32), (u8 33), (u8 34), (u8 35), (u8 36), (u8 37), (u8 38), (u8 39), undef, undef, undef, undef, undef, undef, undef, undef, undef].toArray, []⟩ ∧ L ++ grps u = grps N ∧ u < 2 ^ k ∧ Mag w' mo ml mc (u : Int) ∧ OwnS w' 9 w.heap.size v (L.map strV) ∧ Lc w' b2 #[(.bool (s)), (.slice ao la ca)] 29 ∧ Gr w w') (N) ?_ ?_
 ·exact ⟨N, [], .slice none 0 0, ao, la, ca, (fun i => List.getD ?l8 i undef), rfl, rfl, (by simp), hNk, ha, (OwnS.nil _ _ _), L2, hB⟩
 rintro n8 a8 w8 ⟨u, L, v, mo, ml, mc, u8, rfl, rfl, hX, hu, hm, hown, L2, hB⟩ K8 k8
 have hln : L.length ≤ 1000000 := by have h1 := grps_len k N hNk; rw [← hX, List.length_append] at h1; omega
 have h9 := dec9 u
 have h9r : (Lib.repeatL [48] (9 - (Lib.decDigits (u % 1000000000)).length)).length ≤ 9 := by rw [Lib.repeatL_length]; simp
 refine wp_seq_k (fun K9 k9 => ?_)
 refine wp_seq_k (fun K10 k10 => ?_)
 refine rg [0, 1, 2] ?_
 refine sv 15 (.slice mo ml mc) ?_
 simp only [p3, p4]
 refine sv 16 (.int .i64 ((ml : Int))) ?_
 simp only [p3, p4]
 refine sv 17 (.bool (decide ((0 : Int) < (ml : Int)))) ?_
 simp only [p3, p4]
 refine sq_nil ?_
 refine k10 _ _ ?_
 try clear k10 K10
 refine wp_cond_split (t := decide ((0 : Int) < (ml : Int))) rfl (fun hb11 => ?_) (fun hb11 => ?_)
 ·have hu0 := hb11
  refine wp_skip ?_
  refine k9 _ _ ?_
  try clear k9 K9
  refine wp_block ?_
  refine wp_seq_k (fun K12 k12 => ?_)
  refine rg [0, 1, 2, 3, 4, 5, 6] ?_
  refine sv 19 (.slice mo ml mc) ?_
  simp only [p3, p4]
  refine se ?_
  refine ec 20 (short9 hm (hm.len9 hu (by omega))) ?_
  rintro e13 w13 ⟨⟨go13, k13, cap13, rfl, h13⟩, g13⟩
  refine ⟨_, rfl, ?_⟩
  replace hB := hB.trans g13
  simp only [p3, p4]
  refine sv 18 (.tuple #[(.slice go13 k13 cap13), (.int .u32 (((u % 1000000000 : Nat) : Int)))]) ?_
  simp only [p3, p4]
  refine sv 21 (.slice go13 k13 cap13) ?_
  simp only [p3, p4]
  refine sv 22 (.int .u32 (((u % 1000000000 : Nat) : Int))) ?_
  simp only [p3, p4]
  refine sv 5 (.slice go13 k13 cap13) ?_
  simp only [p3, p4]
  refine sv 6 (.int .u32 (((u % 1000000000 : Nat) : Int))) ?_
  simp only [p3, p4]
  refine sq_nil ?_
  refine k12 _ _ ?_
  try clear k12 K12
  refine wp_seq_k (fun K14 k14 => ?_)
  refine rg [0, 1, 2, 3] ?_
  refine sv 23 (.int .u32 (((u % 1000000000 : Nat) : Int))) ?_
  simp only [p3, p4]
  refine sw 24 (.int .i64 (((u % 1000000000 : Nat) : Int))) rfl (RunV.int (x := IntKind.i64.wrap (((u % 1000000000 : Nat) : Int))) (y := ((u % 1000000000 : Nat) : Int)) (rvk (by kernel_rfl)) (by first | rfl | (rw [IntKind.wrap_i64]; omega))) ?_
  simp only [p3, p4]
  refine se ?_
  refine ec 25 (itoa_n (u % 1000000000) (by omega) (ht.gr hB)) ?_
  rintro e15 w15 ⟨rfl, g15⟩
  refine ⟨_, rfl, ?_⟩
  replace hB := hB.trans g15
  simp only [p3, p4]
  refine sv 7 (.string ⟨(Lib.decDigits (u % 1000000000) : List UInt8).toArray⟩) ?_
  simp only [p3, p4]
  refine sq_nil ?_
  refine k14 _ _ ?_
  try clear k14 K14
  refine wp_seq_k (fun K16 k16 => ?_)
  refine wp_seq_k (fun K17 k17 => ?_)
  refine rg [0, 1, 2] ?_
  refine sv 26 (.slice go13 k13 cap13) ?_
  simp only [p3, p4]
  refine sv 27 (.int .i64 ((k13 : Int))) ?_
  simp only [p3, p4]
  refine sv 28 (.bool (decide ((0 : Int) < (k13 : Int)))) ?_
  simp only [p3, p4]
  refine sq_nil ?_
  refine k17 _ _ ?_
  try clear k17 K17
  refine wp_cond_split (t := decide ((0 : Int) < (k13 : Int))) rfl (fun hb18 => ?_) (fun hb18 => ?_)
  ·refine rg [0, 1, 2, 3, 4, 5, 6] ?_
   refine sv 29 (.string ⟨(Lib.decDigits (u % 1000000000) : List UInt8).toArray⟩) ?_
   simp only [p3, p4]
   refine sv 30 (.int .i64 (((Lib.decDigits (u % 1000000000)).length : Int))) ?_
   simp only [p3, p4]
   refine sw 31 (.int .i64 ((9 - ((Lib.decDigits (u % 1000000000)).length : Int)))) rfl (RunV.int (x := IntKind.i64.wrap ((9 - ((Lib.decDigits (u % 1000000000)).length : Int)))) (y := (9 - ((Lib.decDigits (u % 1000000000)).length : Int))) (rvk (by kernel_rfl)) (by first | rfl | (rw [IntKind.wrap_i64]; omega))) ?_
   simp only [p3, p4]
   refine se ?_
   refine ec 32 (repeat9 (Lib.decDigits (u % 1000000000)).length (dec9 u) _) ?_
   rintro e19 w19 ⟨rfl, g19⟩
   refine ⟨_, rfl, ?_⟩
   replace hB := hB.trans g19
   simp only [p3, p4]
   refine sv 33 (.string ⟨(Lib.decDigits (u % 1000000000) : List UInt8).toArray⟩) ?_
   simp only [p3, p4]
   refine sw 34 (.string ⟨((Lib.repeatL [48] (9 - (Lib.decDigits (u % 1000000000)).length)) ++ (Lib.decDigits (u % 1000000000)) : List UInt8).toArray⟩) rfl (rv_cat 9 9 _ _ (Lib.repeatL [48] (9 - (Lib.decDigits (u % 1000000000)).length)) (Lib.decDigits (u % 1000000000)) rfl rfl rfl (by omega)) ?_
   simp only [p3, p4]
   refine sv 7 (.string ⟨((Lib.repeatL [48] (9 - (Lib.decDigits (u % 1000000000)).length)) ++ (Lib.decDigits (u % 1000000000)) : List UInt8).toArray⟩) ?_
   simp only [p3, p4]
   refine sq_nil ?_
   refine k16 _ _ ?_
   try clear k16 K16
   refine wp_seq_k (fun K20 k20 => ?_)
   refine rg [0, 1, 2, 3, 4] ?_
   refine sv 35 v ?_
   simp only [p3, p4]
   refine sv 36 (.string ⟨((Lib.repeatL [48] (9 - (Lib.decDigits (u % 1000000000)).length)) ++ (Lib.decDigits (u % 1000000000)) : List UInt8).toArray⟩) ?_
   simp only [p3, p4]
   refine se ?_
   refine eff_bs 9 1 #[(.string ⟨((Lib.repeatL [48] (9 - (Lib.decDigits (u % 1000000000)).length)) ++ (Lib.decDigits (u % 1000000000)) : List UInt8).toArray⟩)] (some 37) rfl (fun _ => by kernel_rfl) (fun b21 w21 g21 L21 q21 => ?_)
   replace L2 := L2.gr (g13.trans (g15.trans g19))
   replace hB := hB.trans g21
   simp only [putl, p3, p4]
   refine se ?_
   replace hown := hown.gr (g13.trans (g15.trans (g19.trans g21)))
   refine eff_append1 _ _ 110 9 w.heap.size (.string ⟨([] : List UInt8).toArray⟩) v _ b21 (.string ⟨((Lib.repeatL [48] (9 - (Lib.decDigits (u % 1000000000)).length)) ++ (Lib.decDigits (u % 1000000000)) : List UInt8).toArray⟩) 1 (some 38) 16 rfl rfl rfl rfl hown L21 rfl w hB (Nat.le_refl _) (Below.size hB) (by rw [List.length_map]; exact hln) (by decide) (by kernel_rfl) (by kernel_rfl) rfl (fun v22 w22 own22 wt22 hb22 => ?_)
   replace hB := hb22
   replace own22 := OwnS.snoc (f := strV) own22
   simp only [putl, p3, p4]
   refine sv 3 v22 ?_
   simp only [p3, p4]
   refine sq_nil ?_
   refine k20 _ _ ?_
   try clear k20 K20
   refine rg [0, 1] ?_
   refine sv 39 (.slice go13 k13 cap13) ?_
   simp only [p3, p4]
   refine sv 4 (.slice go13 k13 cap13) ?_
   simp only [p3, p4]
   refine sq_nil ?_
   have kq23 := g15.kp.trans (g19.kp.trans (g21.kp.trans (wt22.kp (by decide))))
   replace h13 := h13.kp kq23
   replace L2 := wt22.lc (L2.gr g21) (by decide)
   refine k8 (u / 1000000000) ⟨List.toArray ?l24, []⟩ _ (Nat.div_lt_self (Mag.pos0 hm hu0) (by omega)) ?_
   exact ⟨u / 1000000000, _, v22, go13, k13, cap13, (fun i => List.getD ?l24 i undef), rfl, rfl, (grps_step hX (Mag.pos0 hm hu0) (grp_hi (Mag.pos0 h13 hb18))), (Nat.lt_of_le_of_lt (Nat.div_le_self _ _) hu), h13, own22, L2, hB⟩
  ·refine wp_skip ?_
   refine k16 _ _ ?_
   try clear k16 K16
   refine wp_seq_k (fun K25 k25 => ?_)
   refine rg [0, 1, 2, 3, 4] ?_
   refine sv 35 v ?_
   simp only [p3, p4]
   refine sv 36 (.string ⟨(Lib.decDigits (u % 1000000000) : List UInt8).toArray⟩) ?_
   simp only [p3, p4]
   refine se ?_
   refine eff_bs 9 1 #[(.string ⟨(Lib.decDigits (u % 1000000000) : List UInt8).toArray⟩)] (some 37) rfl (fun _ => by kernel_rfl) (fun b26 w26 g26 L26 q26 => ?_)
   replace L2 := L2.gr (g13.trans g15)
   replace hB := hB.trans g26
   simp only [putl, p3, p4]
   refine se ?_
   replace hown := hown.gr (g13.trans (g15.trans g26))
   refine eff_append1 _ _ 110 9 w.heap.size (.string ⟨([] : List UInt8).toArray⟩) v _ b26 (.string ⟨(Lib.decDigits (u % 1000000000) : List UInt8).toArray⟩) 1 (some 38) 16 rfl rfl rfl rfl hown L26 rfl w hB (Nat.le_refl _) (Below.size hB) (by rw [List.length_map]; exact hln) (by decide) (by kernel_rfl) (by kernel_rfl) rfl (fun v27 w27 own27 wt27 hb27 => ?_)
   replace hB := hb27
   replace own27 := OwnS.snoc (f := strV) own27
   simp only [putl, p3, p4]
   refine sv 3 v27 ?_
   simp only [p3, p4]
   refine sq_nil ?_
   refine k25 _ _ ?_
   try clear k25 K25
   refine rg [0, 1] ?_
   refine sv 39 (.slice go13 k13 cap13) ?_
   simp only [p3, p4]
   refine sv 4 (.slice go13 k13 cap13) ?_
   simp only [p3, p4]
   refine sq_nil ?_
   have kq28 := g15.kp.trans (g26.kp.trans (wt27.kp (by decide)))
   replace h13 := h13.kp kq28
   replace L2 := wt27.lc (L2.gr g26) (by decide)
   refine k8 (u / 1000000000) ⟨List.toArray ?l29, []⟩ _ (Nat.div_lt_self (Mag.pos0 hm hu0) (by omega)) ?_
   exact ⟨u / 1000000000, _, v27, go13, k13, cap13, (fun i => List.getD ?l29 i undef), rfl, rfl, (grps_step hX (Mag.pos0 hm hu0) (grp_lo (by rw [Mag.zero0 h13 hb18]; omega))), (Nat.lt_of_le_of_lt (Nat.div_le_self _ _) hu), h13, own27, L2, hB⟩
 ·have hz := Mag.zero0 hm hb11
  subst hz
  rw [grps_zero, List.append_nil] at hX
  have hL0 : 0 < L.length := by rw [hX]; exact grps_len0 hN
  have htx : L.reverse.flatten = Lib.decDigits N := by rw [hX]; exact grps_text N N (Nat.le_refl _) hN
  have hfl : L.reverse.flatten.length ≤ 140737488355328 := by rw [htx]; have := dec_len_bits k N hNk; omega
  refine wp_exit ?_
  simp only [Exit.then, Exit.inBlock, ↓reduceIte]
  refine k6 _ _ ?_
  try clear k6 K6
  refine wp_seq_k (fun K30 k30 => ?_)
  refine rg [0, 1] ?_
  refine sv 40 v ?_
  simp only [p3, p4]
  refine se ?_
  refine eff_call (some 41) rfl (by kernel_rfl) (reverse_own hown hL0) ?_
  rintro e31 w31 ⟨rfl, own31, wt31, hg31⟩
  refine ⟨_, rfl, ?_⟩
  replace hB := hg31 _ hB (Nat.le_refl _)
  simp only [putl, p3, p4]
  refine sq_nil ?_
  refine k30 _ _ ?_
  try clear k30 K30
  refine wp_seq_k (fun K32 k32 => ?_)
  refine rg [0, 1, 2] ?_
  refine sv 42 v ?_
  simp only [p3, p4]
  refine se ?_
  refine ec 43 (join_own own31 (by rw [List.length_reverse]; exact hL0) hfl (by rw [List.length_reverse]; exact hln)) ?_
  rintro e33 w33 ⟨rfl, g33⟩
  refine ⟨_, rfl, ?_⟩
  replace hB := hB.trans g33
  simp only [p3, p4]
  refine sv 8 (.string ⟨(((L).reverse).flatten : List UInt8).toArray⟩) ?_
  simp only [p3, p4]
  refine sq_nil ?_
  refine k32 _ _ ?_
  try clear k32 K32
  refine wp_seq_k (fun K34 k34 => ?_)
  refine wp_seq_k (fun K35 k35 => ?_)
  refine rg [0, 1] ?_
  refine sv 44 (.pointer (some ⟨b2, 0, none⟩)) ?_
  simp only [p3, p4]
  replace L2 := (wt31.lc L2 (by decide)).gr g33
  refine sw 45 (.bool (s)) rfl (rk 4 0 L2) ?_
  simp only [p3, p4]
  refine sq_nil ?_
  refine k35 _ _ ?_
  try clear k35 K35
  refine wp_cond_split (t := s) rfl (fun hb36 => ?_) (fun hb36 => ?_)
  ·refine wp_seq_k (fun K37 k37 => ?_)
   refine rg [0, 1, 2] ?_
   refine sv 46 (.string ⟨(((L).reverse).flatten : List UInt8).toArray⟩) ?_
   simp only [p3, p4]
   refine sw 47 (.string ⟨(([45]) ++ (((L).reverse).flatten) : List UInt8).toArray⟩) rfl (rv_cat 9 9 _ _ ([45]) (((L).reverse).flatten) rfl rfl rfl (by simp only [List.length_cons, List.length_nil]; omega)) ?_
   simp only [p3, p4]
   refine sv 2 (.string ⟨(([45]) ++ (((L).reverse).flatten) : List UInt8).toArray⟩) ?_
   simp only [p3, p4]
   refine sq_nil ?_
   refine k37 _ _ ?_
   try clear k37 K37
   refine wp_ret ?_
   simp only [Exit.then]
   refine bodyPost_ret (v := (.string ⟨(([45]) ++ (((L).reverse).flatten) : List UInt8).toArray⟩)) (ret_tmp rfl rfl) rfl ⟨?_, hB⟩
   exact (by rw [hb36]; show Ending.returned _ = _; rw [htx]; rfl)
  ·refine wp_skip ?_
   refine k34 _ _ ?_
   try clear k34 K34
   refine wp_seq_k (fun K38 k38 => ?_)
   refine rg [0, 1] ?_
   refine sv 48 (.string ⟨(((L).reverse).flatten : List UInt8).toArray⟩) ?_
   simp only [p3, p4]
   refine sv 2 (.string ⟨(((L).reverse).flatten : List UInt8).toArray⟩) ?_
   simp only [p3, p4]
   refine sq_nil ?_
   refine k38 _ _ ?_
   try clear k38 K38
   refine wp_ret ?_
   refine bodyPost_ret (v := (.string ⟨(((L).reverse).flatten : List UInt8).toArray⟩)) (ret_tmp rfl rfl) rfl ⟨?_, hB⟩
   exact (by rw [hb36]; show Ending.returned _ = _; rw [htx]; rfl)

set_option maxRecDepth 100000 in
set_option maxHeartbeats 1000000 in
theorem text_zero {ao : Option Addr} {ca : Nat} (w : World) :
    Calls Tryd.prog 60 #[(.agg #[(.bool false), (.slice ao 0 ca)])] w fun e w' => e = .returned (.string ⟨#[48]⟩) ∧ Gr w w' := by
 go_enter Tryd.func60, Tryd.ntmps60
 have hB := Gr.refl w
 refine wp_seq_k (fun K1 k1 => ?_)
 refine rg [0, 1] ?_
 refine se ?_
 refine eb 29 #[(.bool false), (.slice ao 0 ca)] 1 hB fun b2 w2 g2 L2 o2 q2 hB => ?_
 simp only [p3, p4]
 refine sv 2 (.string ⟨([] : List UInt8).toArray⟩) ?_
 simp only [p3, p4]
 refine sq_nil ?_
 refine k1 _ _ ?_
 try clear k1 K1
 refine wp_seq_k (fun K3 k3 => ?_)
 refine wp_seq_k (fun K4 k4 => ?_)
 refine rg [0, 1, 2, 3] ?_
 refine sv 9 (.pointer (some ⟨b2, 1, none⟩)) ?_
 simp only [p3, p4]
 refine sw 10 (.slice ao 0 ca) rfl (rk 27 1 L2) ?_
 simp only [p3, p4]
 refine sv 11 (.int .i64 0) ?_
 simp only [p3, p4]
 refine sv 12 (.bool true) ?_
 simp only [p3, p4]
 refine sq_nil ?_
 refine k4 _ _ ?_
 try clear k4 K4
 refine wp_cond_true rfl ?_
 refine wp_seq_k (fun K5 k5 => ?_)
 refine rg [0] ?_
 refine sv 2 (.string ⟨([48] : List UInt8).toArray⟩) ?_
 simp only [p3, p4]
 refine sq_nil ?_
 refine k5 _ _ ?_
 try clear k5 K5
 refine wp_ret ?_
 simp only [Exit.then]
 refine bodyPost_ret (v := (.string ⟨([48] : List UInt8).toArray⟩)) (ret_tmp rfl rfl) rfl ⟨?_, hB⟩
 exact rfl

theorem text_i {k : Nat} {x y : Value} {z : Int} {w : World} (hz : IsInt w k x y z) (hk : k ≤ 900000) (ht : Tab w) :
    Calls Tryd.prog 60 #[.agg #[x, y]] w fun e w' => e = .returned (.string ⟨(Lib.itoa z).toArray⟩) ∧ Gr w w' := by
  obtain ⟨ao, la, ca, rfl, rfl, ha, hs⟩ := hz
  by_cases h0 : z = 0
  · subst h0
    have : la = 0 := ha.nl.len_zero.2 rfl
    subst this
    have e1 : decide ((0 : Int) < 0) = false := by decide
    have e2 : Lib.itoa 0 = [48] := by unfold Lib.itoa; rw [if_neg (by omega)]; exact dec_small (by decide)
    rw [e1, e2]
    exact text_zero w
  · have := text_pos (s := decide (z < 0)) ha (by omega) (by unfold Sz at hs; exact hs) hk ht
    refine this.mono ?_
    rintro e w1 ⟨he, g⟩
    refine ⟨?_, g⟩
    rw [he]
    unfold Lib.itoa
    by_cases hz : z < 0
    · simp [hz]
    · have : z.toNat = z.natAbs := by omega
      simp [hz, this]

end Go.Proofs.YtgopfikljndklaaDoor
