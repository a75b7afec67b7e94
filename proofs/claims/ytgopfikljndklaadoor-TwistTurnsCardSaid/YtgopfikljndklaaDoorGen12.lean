/- Printed by a program of the prover's: the text of an integer. -/
import Derived.Test.YtgopfikljndklaaDoorTxt
namespace Go.Proofs.YtgopfikljndklaaDoor
open Go.RowKit


set_option maxRecDepth 100000 in
set_option maxHeartbeats 4000000 in
theorem text_pos {k N : Nat} {s : Bool} {ao : Option Addr} {la ca : Nat} {w : World} (ha : Mag w ao la ca (N : Int)) (hN : 0 < N) (hNk : N < 2 ^ k) (_hk : k ≤ 900000) (ht : Tab w) :
    Calls Tryd.prog 60 #[(.agg #[(.bool (s)), (.slice ao la ca)])] w fun e w' => e = .returned (.string ⟨((if s then [45] else []) ++ Lib.decDigits N).toArray⟩) ∧ Gr w w' := by
  have hla : 0 < la := by
    rcases Nat.eq_zero_or_pos la with e | e
    · have := ha.nl.len_zero.1 e; omega
    · exact e
  have e0 : ((la : Int) == (0 : Int)) = false := by simp; omega
  go_enter Tryd.func60, Tryd.ntmps60
  have hB := Gr.refl w
  refine wp_seq_k (fun K1 k1 => ?_)
  refine wp_region ?_
  simp only [List.size_toArray, List.length_cons, List.length_nil, Nat.reduceAdd, List.range, List.range.loop]
  refine sq_eff rfl (by kernel_rfl) (fun K2 k2 => ?_)
  refine eff_box 29 _ (.agg #[(.bool (s)), (.slice ao la ca)]) #[(.bool (s)), (.slice ao la ca)] (some 1) rfl rfl rfl rfl (fun b3 w3 g3 L3 q3 => ?_)
  replace q3 := Nat.le_trans (Below.size hB) q3
  replace hB := Gr.trans hB g3
  refine k2 _ _ ?_
  try clear k2 K2
  simp only [p1, p2, p3, p4]
  refine sq_val (some 2) (.string ⟨([] : List UInt8).toArray⟩) rfl rfl (by kernel_rfl) (rvk (by kernel_rfl)) ?_
  simp only [p1, p2, p3, p4]
  refine sq_nil ?_
  refine k1 _ _ ?_
  try clear k1 K1
  refine wp_seq_k (fun K4 k4 => ?_)
  refine wp_seq_k (fun K5 k5 => ?_)
  refine wp_region ?_
  simp only [List.size_toArray, List.length_cons, List.length_nil, Nat.reduceAdd, List.range, List.range.loop]
  refine sq_val (some 9) (.pointer (some ⟨b3, 1, none⟩)) rfl rfl (by kernel_rfl) (rvk (by kernel_rfl)) ?_
  simp only [p1, p2, p3, p4]
  refine sq_val (some 10) (.slice ao la ca) rfl rfl (by kernel_rfl) (rv_load1 27 _ b3 1 _ _ (.slice ao la ca) rfl rfl L3 rfl (by kernel_rfl)) ?_
  simp only [p1, p2, p3, p4]
  refine sq_val (some 11) (.int .i64 ((la : Int))) rfl rfl (by kernel_rfl) (rvk (by kernel_rfl)) ?_
  simp only [p1, p2, p3, p4]
  refine sq_val (some 12) (.bool false) rfl rfl (by kernel_rfl) (RunV.bool (x := ((la : Int) == (0 : Int))) (rvk (by kernel_rfl)) e0) ?_
  simp only [p1, p2, p3, p4]
  refine sq_nil ?_
  refine k5 _ _ ?_
  try clear k5 K5
  refine wp_cond_false rfl ?_
  refine wp_skip ?_
  refine k4 _ _ ?_
  try clear k4 K4
  refine wp_seq_k (fun K6 k6 => ?_)
  refine wp_region ?_
  simp only [List.size_toArray, List.length_cons, List.length_nil, Nat.reduceAdd, List.range, List.range.loop]
  refine sq_val (some 3) (.slice none 0 0) rfl rfl (by kernel_rfl) (rvk (by kernel_rfl)) ?_
  simp only [p1, p2, p3, p4]
  refine sq_nil ?_
  refine k6 _ _ ?_
  try clear k6 K6
  refine wp_seq_k (fun K7 k7 => ?_)
  refine wp_seq_k (fun K8 k8 => ?_)
  refine wp_region ?_
  simp only [List.size_toArray, List.length_cons, List.length_nil, Nat.reduceAdd, List.range, List.range.loop]
  refine sq_val (some 13) (.pointer (some ⟨b3, 1, none⟩)) rfl rfl (by kernel_rfl) (rvk (by kernel_rfl)) ?_
  simp only [p1, p2, p3, p4]
  refine sq_val (some 14) (.slice ao la ca) rfl rfl (by kernel_rfl) (rv_load1 27 _ b3 1 _ _ (.slice ao la ca) rfl rfl L3 rfl (by kernel_rfl)) ?_
  simp only [p1, p2, p3, p4]
  refine sq_val (some 4) (.slice ao la ca) rfl rfl (by kernel_rfl) (rvk (by kernel_rfl)) ?_
  simp only [p1, p2, p3, p4]
  refine sq_nil ?_
  refine k8 _ _ ?_
  try clear k8 K8
  refine wp_block ?_
  replace ha := ha.kp g3.kp
  refine wp_loop_inv (fun n a w' => ∃ (u : Nat) (L : List (List UInt8)) (v : Value) (mo : Option Addr) (ml : Nat) (mc : Nat) (u5 : Value) (u6 : Value) (u7 : Value) (u15 : Value) (u16 : Value) (u17 : Value) (u18 : Value) (u19 : Value) (u20 : Value) (u21 : Value) (u22 : Value) (u23 : Value) (u24 : Value) (u25 : Value) (u26 : Value) (u27 : Value) (u28 : Value) (u29 : Value) (u30 : Value) (u31 : Value) (u32 : Value) (u33 : Value) (u34 : Value) (u35 : Value) (u36 : Value) (u37 : Value) (u38 : Value) (u39 : Value), u = n ∧ a = ⟨[(.agg #[(.bool (s)), (.slice ao la ca)]), (.pointer (some ⟨b3, 0, none⟩)), (.string ⟨([] : List UInt8).toArray⟩), v, (.slice mo ml mc), u5, u6, u7, undef, (.pointer (some ⟨b3, 1, none⟩)), (.slice ao la ca), (.int .i64 ((la : Int))), (.bool false), (.pointer (some ⟨b3, 1, none⟩)), (.slice ao la ca), u15, u16, u17, u18, u19, u20, u21, u22, u23, u24, u25, u26, u27, u28, u29, u30, u31, u32, u33, u34, u35, u36, u37, u38, u39, undef, undef, undef, undef, undef, undef, undef, undef, undef].toArray, []⟩ ∧ L ++ grps u = grps N ∧ u < 2 ^ k ∧ Mag w' mo ml mc (u : Int) ∧ OwnS w' 9 w.heap.size v (L.map strV) ∧ Lc w' b3 #[(.bool (s)), (.slice ao la ca)] 29 ∧ Gr w w') (N) ⟨N, [], .slice none 0 0, ao, la, ca, _, _, _, _, _, _, _, _, _, _, _, _, _, _, _, _, _, _, _, _, _, _, _, _, _, _, _, _, rfl, rfl, (by simp), hNk, ha, (OwnS.nil _ _ _), L3, hB⟩ ?_
  rintro n9 a9 w9 ⟨u, L, v, mo, ml, mc, u5, u6, u7, u15, u16, u17, u18, u19, u20, u21, u22, u23, u24, u25, u26, u27, u28, u29, u30, u31, u32, u33, u34, u35, u36, u37, u38, u39, rfl, rfl, hX, hu, hm, hown, L3, hB⟩ K9 k9
  have hln : L.length ≤ 1000000 := by have h1 := grps_len k N hNk; rw [← hX, List.length_append] at h1; omega
  have h9 := dec9 u
  have h9r : (Lib.repeatL [48] (9 - (Lib.decDigits (u % 1000000000)).length)).length ≤ 9 := by rw [Lib.repeatL_length]; simp
  refine wp_seq_k (fun K10 k10 => ?_)
  refine wp_seq_k (fun K11 k11 => ?_)
  refine wp_region ?_
  simp only [List.size_toArray, List.length_cons, List.length_nil, Nat.reduceAdd, List.range, List.range.loop]
  refine sq_val (some 15) (.slice mo ml mc) rfl rfl (by kernel_rfl) (rvk (by kernel_rfl)) ?_
  simp only [p1, p2, p3, p4]
  refine sq_val (some 16) (.int .i64 ((ml : Int))) rfl rfl (by kernel_rfl) (rvk (by kernel_rfl)) ?_
  simp only [p1, p2, p3, p4]
  refine sq_val (some 17) (.bool (decide ((0 : Int) < (ml : Int)))) rfl rfl (by kernel_rfl) (rvk (by kernel_rfl)) ?_
  simp only [p1, p2, p3, p4]
  refine sq_nil ?_
  refine k11 _ _ ?_
  try clear k11 K11
  refine wp_cond_split (t := decide ((0 : Int) < (ml : Int))) rfl (fun hb12 => ?_) (fun hb12 => ?_)
  · have hu0 := hb12
    refine wp_skip ?_
    refine k10 _ _ ?_
    try clear k10 K10
    refine wp_block ?_
    refine wp_seq_k (fun K13 k13 => ?_)
    refine wp_region ?_
    simp only [List.size_toArray, List.length_cons, List.length_nil, Nat.reduceAdd, List.range, List.range.loop]
    refine sq_val (some 19) (.slice mo ml mc) rfl rfl (by kernel_rfl) (rvk (by kernel_rfl)) ?_
    simp only [p1, p2, p3, p4]
    refine sq_eff rfl (by kernel_rfl) (fun K14 k14 => ?_)
    refine eff_call (some 20) rfl (by kernel_rfl) (short9 hm (hm.len9 hu (by omega))) ?_
    rintro e15 w15 ⟨⟨go15, k15, cap15, rfl, h15⟩, g15⟩
    refine ⟨_, rfl, ?_⟩
    replace hB := Gr.trans hB g15
    refine k14 _ _ ?_
    try clear k14 K14
    simp only [p1, p2, p3, p4]
    refine sq_val (some 18) (.tuple #[(.slice go15 k15 cap15), (.int .u32 (((u % 1000000000 : Nat) : Int)))]) rfl rfl (by kernel_rfl) (rvk (by kernel_rfl)) ?_
    simp only [p1, p2, p3, p4]
    refine sq_val (some 21) (.slice go15 k15 cap15) rfl rfl (by kernel_rfl) (rvk (by kernel_rfl)) ?_
    simp only [p1, p2, p3, p4]
    refine sq_val (some 22) (.int .u32 (((u % 1000000000 : Nat) : Int))) rfl rfl (by kernel_rfl) (rvk (by kernel_rfl)) ?_
    simp only [p1, p2, p3, p4]
    refine sq_val (some 5) (.slice go15 k15 cap15) rfl rfl (by kernel_rfl) (rvk (by kernel_rfl)) ?_
    simp only [p1, p2, p3, p4]
    refine sq_val (some 6) (.int .u32 (((u % 1000000000 : Nat) : Int))) rfl rfl (by kernel_rfl) (rvk (by kernel_rfl)) ?_
    simp only [p1, p2, p3, p4]
    refine sq_nil ?_
    refine k13 _ _ ?_
    try clear k13 K13
    refine wp_seq_k (fun K16 k16 => ?_)
    refine wp_region ?_
    simp only [List.size_toArray, List.length_cons, List.length_nil, Nat.reduceAdd, List.range, List.range.loop]
    refine sq_val (some 23) (.int .u32 (((u % 1000000000 : Nat) : Int))) rfl rfl (by kernel_rfl) (rvk (by kernel_rfl)) ?_
    simp only [p1, p2, p3, p4]
    refine sq_val (some 24) (.int .i64 (((u % 1000000000 : Nat) : Int))) rfl rfl (by kernel_rfl) (RunV.int (x := IntKind.i64.wrap (((u % 1000000000 : Nat) : Int))) (y := ((u % 1000000000 : Nat) : Int)) (rvk (by kernel_rfl)) (by first | rfl | (rw [IntKind.wrap_i64]; omega))) ?_
    simp only [p1, p2, p3, p4]
    refine sq_eff rfl (by kernel_rfl) (fun K17 k17 => ?_)
    refine eff_call (some 25) rfl (by kernel_rfl) (itoa_n (u % 1000000000) (by omega) (ht.gr hB)) ?_
    rintro e18 w18 ⟨rfl, g18⟩
    refine ⟨_, rfl, ?_⟩
    replace hB := Gr.trans hB g18
    refine k17 _ _ ?_
    try clear k17 K17
    simp only [p1, p2, p3, p4]
    refine sq_val (some 7) (.string ⟨(Lib.decDigits (u % 1000000000) : List UInt8).toArray⟩) rfl rfl (by kernel_rfl) (rvk (by kernel_rfl)) ?_
    simp only [p1, p2, p3, p4]
    refine sq_nil ?_
    refine k16 _ _ ?_
    try clear k16 K16
    refine wp_seq_k (fun K19 k19 => ?_)
    refine wp_seq_k (fun K20 k20 => ?_)
    refine wp_region ?_
    simp only [List.size_toArray, List.length_cons, List.length_nil, Nat.reduceAdd, List.range, List.range.loop]
    refine sq_val (some 26) (.slice go15 k15 cap15) rfl rfl (by kernel_rfl) (rvk (by kernel_rfl)) ?_
    simp only [p1, p2, p3, p4]
    refine sq_val (some 27) (.int .i64 ((k15 : Int))) rfl rfl (by kernel_rfl) (rvk (by kernel_rfl)) ?_
    simp only [p1, p2, p3, p4]
    refine sq_val (some 28) (.bool (decide ((0 : Int) < (k15 : Int)))) rfl rfl (by kernel_rfl) (rvk (by kernel_rfl)) ?_
    simp only [p1, p2, p3, p4]
    refine sq_nil ?_
    refine k20 _ _ ?_
    try clear k20 K20
    refine wp_cond_split (t := decide ((0 : Int) < (k15 : Int))) rfl (fun hb21 => ?_) (fun hb21 => ?_)
    · refine wp_region ?_
      simp only [List.size_toArray, List.length_cons, List.length_nil, Nat.reduceAdd, List.range, List.range.loop]
      refine sq_val (some 29) (.string ⟨(Lib.decDigits (u % 1000000000) : List UInt8).toArray⟩) rfl rfl (by kernel_rfl) (rvk (by kernel_rfl)) ?_
      simp only [p1, p2, p3, p4]
      refine sq_val (some 30) (.int .i64 (((Lib.decDigits (u % 1000000000)).length : Int))) rfl rfl (by kernel_rfl) (rvk (by kernel_rfl)) ?_
      simp only [p1, p2, p3, p4]
      refine sq_val (some 31) (.int .i64 ((9 - ((Lib.decDigits (u % 1000000000)).length : Int)))) rfl rfl (by kernel_rfl) (RunV.int (x := IntKind.i64.wrap ((9 - ((Lib.decDigits (u % 1000000000)).length : Int)))) (y := (9 - ((Lib.decDigits (u % 1000000000)).length : Int))) (rvk (by kernel_rfl)) (by first | rfl | (rw [IntKind.wrap_i64]; omega))) ?_
      simp only [p1, p2, p3, p4]
      refine sq_eff rfl (by kernel_rfl) (fun K22 k22 => ?_)
      refine eff_call (some 32) rfl (by kernel_rfl) (repeat9 (Lib.decDigits (u % 1000000000)).length (dec9 u) _) ?_
      rintro e23 w23 ⟨rfl, g23⟩
      refine ⟨_, rfl, ?_⟩
      replace hB := Gr.trans hB g23
      refine k22 _ _ ?_
      try clear k22 K22
      simp only [p1, p2, p3, p4]
      refine sq_val (some 33) (.string ⟨(Lib.decDigits (u % 1000000000) : List UInt8).toArray⟩) rfl rfl (by kernel_rfl) (rvk (by kernel_rfl)) ?_
      simp only [p1, p2, p3, p4]
      refine sq_val (some 34) (.string ⟨((Lib.repeatL [48] (9 - (Lib.decDigits (u % 1000000000)).length)) ++ (Lib.decDigits (u % 1000000000)) : List UInt8).toArray⟩) rfl rfl (by kernel_rfl) (rv_cat 9 9 _ _ (Lib.repeatL [48] (9 - (Lib.decDigits (u % 1000000000)).length)) (Lib.decDigits (u % 1000000000)) rfl rfl rfl (by omega)) ?_
      simp only [p1, p2, p3, p4]
      refine sq_val (some 7) (.string ⟨((Lib.repeatL [48] (9 - (Lib.decDigits (u % 1000000000)).length)) ++ (Lib.decDigits (u % 1000000000)) : List UInt8).toArray⟩) rfl rfl (by kernel_rfl) (rvk (by kernel_rfl)) ?_
      simp only [p1, p2, p3, p4]
      refine sq_nil ?_
      refine k19 _ _ ?_
      try clear k19 K19
      refine wp_seq_k (fun K24 k24 => ?_)
      refine wp_region ?_
      simp only [List.size_toArray, List.length_cons, List.length_nil, Nat.reduceAdd, List.range, List.range.loop]
      refine sq_val (some 35) v rfl rfl (by kernel_rfl) (rvk (by kernel_rfl)) ?_
      simp only [p1, p2, p3, p4]
      refine sq_val (some 36) (.string ⟨((Lib.repeatL [48] (9 - (Lib.decDigits (u % 1000000000)).length)) ++ (Lib.decDigits (u % 1000000000)) : List UInt8).toArray⟩) rfl rfl (by kernel_rfl) (rvk (by kernel_rfl)) ?_
      simp only [p1, p2, p3, p4]
      refine sq_eff rfl (by kernel_rfl) (fun K25 k25 => ?_)
      refine eff_bs 9 1 #[(.string ⟨((Lib.repeatL [48] (9 - (Lib.decDigits (u % 1000000000)).length)) ++ (Lib.decDigits (u % 1000000000)) : List UInt8).toArray⟩)] (some 37) rfl (fun _ => by kernel_rfl) (fun b26 w26 g26 L26 q26 => ?_)
      replace L3 := L3.gr (g15.trans (g18.trans g23))
      have ne3_26 := L3.ne q26
      replace q26 := Nat.le_trans (Below.size hB) q26
      replace hB := Gr.trans hB g26
      refine k25 _ _ ?_
      try clear k25 K25
      simp only [p1, p2, p3, p4]
      refine sq_eff rfl (by kernel_rfl) (fun K27 k27 => ?_)
      replace hown := hown.gr (g15.trans (g18.trans (g23.trans g26)))
      refine eff_append1 _ _ 110 9 w.heap.size (.string ⟨([] : List UInt8).toArray⟩) v _ b26 (.string ⟨((Lib.repeatL [48] (9 - (Lib.decDigits (u % 1000000000)).length)) ++ (Lib.decDigits (u % 1000000000)) : List UInt8).toArray⟩) 1 (some 38) 16 rfl rfl rfl rfl hown L26 rfl w hB (Nat.le_refl _) (Below.size hB) (by rw [List.length_map]; exact hln) (by decide) (by kernel_rfl) (by kernel_rfl) rfl (fun v28 w28 own28 wt28 hb28 => ?_)
      replace hB := hb28
      replace own28 := OwnS.snoc (f := strV) own28
      refine k27 _ _ ?_
      try clear k27 K27
      simp only [p1, p2, p3, p4]
      refine sq_val (some 3) v28 rfl rfl (by kernel_rfl) (rvk (by kernel_rfl)) ?_
      simp only [p1, p2, p3, p4]
      refine sq_nil ?_
      refine k24 _ _ ?_
      try clear k24 K24
      refine wp_region ?_
      simp only [List.size_toArray, List.length_cons, List.length_nil, Nat.reduceAdd, List.range, List.range.loop]
      refine sq_val (some 39) (.slice go15 k15 cap15) rfl rfl (by kernel_rfl) (rvk (by kernel_rfl)) ?_
      simp only [p1, p2, p3, p4]
      refine sq_val (some 4) (.slice go15 k15 cap15) rfl rfl (by kernel_rfl) (rvk (by kernel_rfl)) ?_
      simp only [p1, p2, p3, p4]
      refine sq_nil ?_
      have kq29 := g18.kp.trans (g23.kp.trans (g26.kp.trans (wt28.kp (by decide))))
      replace h15 := h15.kp kq29
      replace L3 := wt28.lc (L3.gr g26) (by decide)
      exact k9 (u / 1000000000) _ _ (Nat.div_lt_self (Mag.pos0 hm hu0) (by omega)) ⟨u / 1000000000, _, v28, go15, k15, cap15, _, _, _, _, _, _, _, _, _, _, _, _, _, _, _, _, _, _, _, _, _, _, _, _, _, _, _, _, rfl, rfl, (grps_step hX (Mag.pos0 hm hu0) (grp_hi (Mag.pos0 h15 hb21))), (Nat.lt_of_le_of_lt (Nat.div_le_self _ _) hu), h15, own28, L3, hB⟩
    · refine wp_skip ?_
      refine k19 _ _ ?_
      try clear k19 K19
      refine wp_seq_k (fun K30 k30 => ?_)
      refine wp_region ?_
      simp only [List.size_toArray, List.length_cons, List.length_nil, Nat.reduceAdd, List.range, List.range.loop]
      refine sq_val (some 35) v rfl rfl (by kernel_rfl) (rvk (by kernel_rfl)) ?_
      simp only [p1, p2, p3, p4]
      refine sq_val (some 36) (.string ⟨(Lib.decDigits (u % 1000000000) : List UInt8).toArray⟩) rfl rfl (by kernel_rfl) (rvk (by kernel_rfl)) ?_
      simp only [p1, p2, p3, p4]
      refine sq_eff rfl (by kernel_rfl) (fun K31 k31 => ?_)
      refine eff_bs 9 1 #[(.string ⟨(Lib.decDigits (u % 1000000000) : List UInt8).toArray⟩)] (some 37) rfl (fun _ => by kernel_rfl) (fun b32 w32 g32 L32 q32 => ?_)
      replace L3 := L3.gr (g15.trans g18)
      have ne3_32 := L3.ne q32
      replace q32 := Nat.le_trans (Below.size hB) q32
      replace hB := Gr.trans hB g32
      refine k31 _ _ ?_
      try clear k31 K31
      simp only [p1, p2, p3, p4]
      refine sq_eff rfl (by kernel_rfl) (fun K33 k33 => ?_)
      replace hown := hown.gr (g15.trans (g18.trans g32))
      refine eff_append1 _ _ 110 9 w.heap.size (.string ⟨([] : List UInt8).toArray⟩) v _ b32 (.string ⟨(Lib.decDigits (u % 1000000000) : List UInt8).toArray⟩) 1 (some 38) 16 rfl rfl rfl rfl hown L32 rfl w hB (Nat.le_refl _) (Below.size hB) (by rw [List.length_map]; exact hln) (by decide) (by kernel_rfl) (by kernel_rfl) rfl (fun v34 w34 own34 wt34 hb34 => ?_)
      replace hB := hb34
      replace own34 := OwnS.snoc (f := strV) own34
      refine k33 _ _ ?_
      try clear k33 K33
      simp only [p1, p2, p3, p4]
      refine sq_val (some 3) v34 rfl rfl (by kernel_rfl) (rvk (by kernel_rfl)) ?_
      simp only [p1, p2, p3, p4]
      refine sq_nil ?_
      refine k30 _ _ ?_
      try clear k30 K30
      refine wp_region ?_
      simp only [List.size_toArray, List.length_cons, List.length_nil, Nat.reduceAdd, List.range, List.range.loop]
      refine sq_val (some 39) (.slice go15 k15 cap15) rfl rfl (by kernel_rfl) (rvk (by kernel_rfl)) ?_
      simp only [p1, p2, p3, p4]
      refine sq_val (some 4) (.slice go15 k15 cap15) rfl rfl (by kernel_rfl) (rvk (by kernel_rfl)) ?_
      simp only [p1, p2, p3, p4]
      refine sq_nil ?_
      have kq35 := g18.kp.trans (g32.kp.trans (wt34.kp (by decide)))
      replace h15 := h15.kp kq35
      replace L3 := wt34.lc (L3.gr g32) (by decide)
      exact k9 (u / 1000000000) _ _ (Nat.div_lt_self (Mag.pos0 hm hu0) (by omega)) ⟨u / 1000000000, _, v34, go15, k15, cap15, _, _, _, _, _, _, _, _, _, _, _, _, _, _, _, _, _, _, _, _, _, _, _, _, _, _, _, _, rfl, rfl, (grps_step hX (Mag.pos0 hm hu0) (grp_lo (by rw [Mag.zero0 h15 hb21]; omega))), (Nat.lt_of_le_of_lt (Nat.div_le_self _ _) hu), h15, own34, L3, hB⟩
  · have hz := Mag.zero0 hm hb12
    subst hz
    rw [grps_zero, List.append_nil] at hX
    have hL0 : 0 < L.length := by rw [hX]; exact grps_len0 hN
    have htx : L.reverse.flatten = Lib.decDigits N := by rw [hX]; exact grps_text N N (Nat.le_refl _) hN
    have hfl : L.reverse.flatten.length ≤ 140737488355328 := by rw [htx]; have := dec_len_bits k N hNk; omega
    refine wp_exit ?_
    simp only [Exit.then, Exit.inBlock, ↓reduceIte]
    refine k7 _ _ ?_
    try clear k7 K7
    refine wp_seq_k (fun K36 k36 => ?_)
    refine wp_region ?_
    simp only [List.size_toArray, List.length_cons, List.length_nil, Nat.reduceAdd, List.range, List.range.loop]
    refine sq_val (some 40) v rfl rfl (by kernel_rfl) (rvk (by kernel_rfl)) ?_
    simp only [p1, p2, p3, p4]
    refine sq_eff rfl (by kernel_rfl) (fun K37 k37 => ?_)
    refine eff_call (some 41) rfl (by kernel_rfl) (reverse_own hown hL0) ?_
    rintro e38 w38 ⟨rfl, own38, wt38, hg38⟩
    refine ⟨_, rfl, ?_⟩
    replace hB := hg38 _ hB (Nat.le_refl _)
    refine k37 _ _ ?_
    try clear k37 K37
    simp only [p1, p2, p3, p4]
    refine sq_nil ?_
    refine k36 _ _ ?_
    try clear k36 K36
    refine wp_seq_k (fun K39 k39 => ?_)
    refine wp_region ?_
    simp only [List.size_toArray, List.length_cons, List.length_nil, Nat.reduceAdd, List.range, List.range.loop]
    refine sq_val (some 42) v rfl rfl (by kernel_rfl) (rvk (by kernel_rfl)) ?_
    simp only [p1, p2, p3, p4]
    refine sq_eff rfl (by kernel_rfl) (fun K40 k40 => ?_)
    refine eff_call (some 43) rfl (by kernel_rfl) (join_own own38 (by rw [List.length_reverse]; exact hL0) hfl (by rw [List.length_reverse]; exact hln)) ?_
    rintro e41 w41 ⟨rfl, g41⟩
    refine ⟨_, rfl, ?_⟩
    replace hB := Gr.trans hB g41
    refine k40 _ _ ?_
    try clear k40 K40
    simp only [p1, p2, p3, p4]
    refine sq_val (some 8) (.string ⟨(((L).reverse).flatten : List UInt8).toArray⟩) rfl rfl (by kernel_rfl) (rvk (by kernel_rfl)) ?_
    simp only [p1, p2, p3, p4]
    refine sq_nil ?_
    refine k39 _ _ ?_
    try clear k39 K39
    refine wp_seq_k (fun K42 k42 => ?_)
    refine wp_seq_k (fun K43 k43 => ?_)
    refine wp_region ?_
    simp only [List.size_toArray, List.length_cons, List.length_nil, Nat.reduceAdd, List.range, List.range.loop]
    refine sq_val (some 44) (.pointer (some ⟨b3, 0, none⟩)) rfl rfl (by kernel_rfl) (rvk (by kernel_rfl)) ?_
    simp only [p1, p2, p3, p4]
    replace L3 := (wt38.lc L3 (by decide)).gr g41
    refine sq_val (some 45) (.bool (s)) rfl rfl (by kernel_rfl) (rv_load1 4 _ b3 0 _ _ (.bool (s)) rfl rfl L3 rfl (by kernel_rfl)) ?_
    simp only [p1, p2, p3, p4]
    refine sq_nil ?_
    refine k43 _ _ ?_
    try clear k43 K43
    refine wp_cond_split (t := s) rfl (fun hb44 => ?_) (fun hb44 => ?_)
    · refine wp_seq_k (fun K45 k45 => ?_)
      refine wp_region ?_
      simp only [List.size_toArray, List.length_cons, List.length_nil, Nat.reduceAdd, List.range, List.range.loop]
      refine sq_val (some 46) (.string ⟨(((L).reverse).flatten : List UInt8).toArray⟩) rfl rfl (by kernel_rfl) (rvk (by kernel_rfl)) ?_
      simp only [p1, p2, p3, p4]
      refine sq_val (some 47) (.string ⟨(([45]) ++ (((L).reverse).flatten) : List UInt8).toArray⟩) rfl rfl (by kernel_rfl) (rv_cat 9 9 _ _ ([45]) (((L).reverse).flatten) rfl rfl rfl (by simp only [List.length_cons, List.length_nil]; omega)) ?_
      simp only [p1, p2, p3, p4]
      refine sq_val (some 2) (.string ⟨(([45]) ++ (((L).reverse).flatten) : List UInt8).toArray⟩) rfl rfl (by kernel_rfl) (rvk (by kernel_rfl)) ?_
      simp only [p1, p2, p3, p4]
      refine sq_nil ?_
      refine k45 _ _ ?_
      try clear k45 K45
      refine wp_ret ?_
      simp only [Exit.then]
      refine bodyPost_ret (v := (.string ⟨(([45]) ++ (((L).reverse).flatten) : List UInt8).toArray⟩)) (ret_tmp rfl rfl) rfl ⟨?_, hB⟩
      exact (by rw [hb44]; show Ending.returned _ = _; rw [htx]; rfl)
    · refine wp_skip ?_
      refine k42 _ _ ?_
      try clear k42 K42
      refine wp_seq_k (fun K46 k46 => ?_)
      refine wp_region ?_
      simp only [List.size_toArray, List.length_cons, List.length_nil, Nat.reduceAdd, List.range, List.range.loop]
      refine sq_val (some 48) (.string ⟨(((L).reverse).flatten : List UInt8).toArray⟩) rfl rfl (by kernel_rfl) (rvk (by kernel_rfl)) ?_
      simp only [p1, p2, p3, p4]
      refine sq_val (some 2) (.string ⟨(((L).reverse).flatten : List UInt8).toArray⟩) rfl rfl (by kernel_rfl) (rvk (by kernel_rfl)) ?_
      simp only [p1, p2, p3, p4]
      refine sq_nil ?_
      refine k46 _ _ ?_
      try clear k46 K46
      refine wp_ret ?_
      refine bodyPost_ret (v := (.string ⟨(((L).reverse).flatten : List UInt8).toArray⟩)) (ret_tmp rfl rfl) rfl ⟨?_, hB⟩
      exact (by rw [hb44]; show Ending.returned _ = _; rw [htx]; rfl)

set_option maxRecDepth 100000 in
set_option maxHeartbeats 1000000 in
theorem text_zero {ao : Option Addr} {ca : Nat} (w : World) :
    Calls Tryd.prog 60 #[(.agg #[(.bool false), (.slice ao 0 ca)])] w fun e w' => e = .returned (.string ⟨#[48]⟩) ∧ Gr w w' := by
  go_enter Tryd.func60, Tryd.ntmps60
  have hB := Gr.refl w
  refine wp_seq_k (fun K1 k1 => ?_)
  refine wp_region ?_
  simp only [List.size_toArray, List.length_cons, List.length_nil, Nat.reduceAdd, List.range, List.range.loop]
  refine sq_eff rfl (by kernel_rfl) (fun K2 k2 => ?_)
  refine eff_box 29 _ (.agg #[(.bool false), (.slice ao 0 ca)]) #[(.bool false), (.slice ao 0 ca)] (some 1) rfl rfl rfl rfl (fun b3 w3 g3 L3 q3 => ?_)
  replace q3 := Nat.le_trans (Below.size hB) q3
  replace hB := Gr.trans hB g3
  refine k2 _ _ ?_
  try clear k2 K2
  simp only [p1, p2, p3, p4]
  refine sq_val (some 2) (.string ⟨([] : List UInt8).toArray⟩) rfl rfl (by kernel_rfl) (rvk (by kernel_rfl)) ?_
  simp only [p1, p2, p3, p4]
  refine sq_nil ?_
  refine k1 _ _ ?_
  try clear k1 K1
  refine wp_seq_k (fun K4 k4 => ?_)
  refine wp_seq_k (fun K5 k5 => ?_)
  refine wp_region ?_
  simp only [List.size_toArray, List.length_cons, List.length_nil, Nat.reduceAdd, List.range, List.range.loop]
  refine sq_val (some 9) (.pointer (some ⟨b3, 1, none⟩)) rfl rfl (by kernel_rfl) (rvk (by kernel_rfl)) ?_
  simp only [p1, p2, p3, p4]
  refine sq_val (some 10) (.slice ao 0 ca) rfl rfl (by kernel_rfl) (rv_load1 27 _ b3 1 _ _ (.slice ao 0 ca) rfl rfl L3 rfl (by kernel_rfl)) ?_
  simp only [p1, p2, p3, p4]
  refine sq_val (some 11) (.int .i64 0) rfl rfl (by kernel_rfl) (rvk (by kernel_rfl)) ?_
  simp only [p1, p2, p3, p4]
  refine sq_val (some 12) (.bool true) rfl rfl (by kernel_rfl) (rvk (by kernel_rfl)) ?_
  simp only [p1, p2, p3, p4]
  refine sq_nil ?_
  refine k5 _ _ ?_
  try clear k5 K5
  refine wp_cond_true rfl ?_
  refine wp_seq_k (fun K6 k6 => ?_)
  refine wp_region ?_
  simp only [List.size_toArray, List.length_cons, List.length_nil, Nat.reduceAdd, List.range, List.range.loop]
  refine sq_val (some 2) (.string ⟨([48] : List UInt8).toArray⟩) rfl rfl (by kernel_rfl) (rvk (by kernel_rfl)) ?_
  simp only [p1, p2, p3, p4]
  refine sq_nil ?_
  refine k6 _ _ ?_
  try clear k6 K6
  refine wp_ret ?_
  simp only [Exit.then]
  refine bodyPost_ret (v := (.string ⟨([48] : List UInt8).toArray⟩)) (ret_tmp rfl rfl) rfl ⟨?_, hB⟩
  exact rfl

theorem text_i {k : Nat} {x y : Value} {z : Int} {w : World} (hz : IsInt w k x y z) (hk : k ≤ 900000) (ht : Tab w) :
    Calls Tryd.prog 60 #[.agg #[x, y]] w fun e w' => e = .returned (.string ⟨(Lib.itoa z).toArray⟩) ∧ Gr w w' := by
  obtain ⟨ao, la, ca, rfl, rfl, ha, hs⟩ := hz
  by_cases h0 : z = 0
  · subst h0
    have : la = 0 := ha.nl.len_zero.2 rfl
    subst this
    have e1 : decide ((0 : Int) < 0) = false := by decide
    have e2 : Lib.itoa 0 = [48] := by unfold Lib.itoa; rw [if_neg (by omega)]; exact dec_small (by decide)
    rw [e1, e2]
    exact text_zero w
  · have := text_pos (s := decide (z < 0)) ha (by omega) (by unfold Sz at hs; exact hs) hk ht
    refine this.mono ?_
    rintro e w1 ⟨he, g⟩
    refine ⟨?_, g⟩
    rw [he]
    unfold Lib.itoa
    by_cases hz : z < 0
    · simp [hz]
    · have : z.toNat = z.natAbs := by omega
      simp [hz, this]

end Go.Proofs.YtgopfikljndklaaDoor
