/- Joined of: Gen80, RowRationalLists. -/
import Derived.Test.YtloocadjbpgldaaGreatDoorPartG
import Derived.Test.YtloocadjbpgldaaGreatDoorPartF
import Derived.Test.YtloocadjbpgldaaGreatDoorPartE
import Derived.Test.YtloocadjbpgldaaGreatDoorPartD
import Derived.Test.YtloocadjbpgldaaGreatDoorCards
import Derived.Test.YtloocadjbpgldaaGreatDoorTie
/- Printed by a program of the prover's: RationalLists. -/
namespace Go.Proofs.YtloocadjbpgldaaGreatDoor
open Go.RowKit

set_option maxRecDepth 100000 in
set_option maxHeartbeats 1000000 in
theorem c_big (X : List UInt8) (w : World) :
    Calls Tryz.prog 67 #[(.string ⟨(X : List UInt8).toArray⟩)] w fun e w' => e = .returned (.bool (bigT X)) ∧ Gr w w' := by
 go_enter Tryz.func67, Tryz.ntmps67
 have hB := Gr.refl w
 refine wp_seq_k (fun K1 k1 => ?_)
 refine rg [0] ?_
 refine sv 2 (.bool false) ?_
 simp only [p3, p4]
 refine sq_nil ?_
 refine k1 _ _ ?_
 try clear k1 K1
 refine wp_seq_k (fun K2 k2 => ?_)
 refine rg [0, 1, 2, 3] ?_
 refine sv 3 (.string ⟨(X : List UInt8).toArray⟩) ?_
 simp only [p3, p4]
 refine sv 4 (.int .i64 (((X).length : Int))) ?_
 simp only [p3, p4]
 refine sv 5 (.bool (decide ((40 : Int) < ((X).length : Int)))) ?_
 simp only [p3, p4]
 refine sv 2 (.bool (decide ((40 : Int) < ((X).length : Int)))) ?_
 simp only [p3, p4]
 refine sq_nil ?_
 refine k2 _ _ ?_
 try clear k2 K2
 refine wp_ret ?_
 refine bodyPost_ret (v := (.bool (decide ((40 : Int) < ((X).length : Int))))) (ret_tmp rfl rfl) rfl ⟨?_, hB⟩
 exact rfl

set_option maxRecDepth 100000 in
set_option maxHeartbeats 1000000 in
theorem idx_big {TT : Nat} (v : Value) (Xs : List (List UInt8)) (_hn : Xs.length ≤ 8) {w : World} (hs : Sl ETxt TT 1 w v Xs) :
    Calls Tryz.prog 109 #[v, (.func (.func 67) #[] #[])] w fun e w' => (∃ r : Int, e = .returned (.int .i64 r) ∧ decide ((0 : Int) ≤ r) = Xs.any bigT) ∧ Gr w w' := by
 go_enter Tryz.func109, Tryz.ntmps109
 have hB := Gr.refl w
 refine wp_seq_k (fun K1 k1 => ?_)
 refine rg [0] ?_
 refine sv 4 (.int .i64 0) ?_
 simp only [p3, p4]
 refine sq_nil ?_
 refine k1 _ _ ?_
 try clear k1 K1
 refine wp_seq_k (fun K2 k2 => ?_)
 refine wp_seq_k (fun K3 k3 => ?_)
 refine rg [0, 1, 2] ?_
 refine sv 6 v ?_
 simp only [p3, p4]
 refine sw 7 (.int .i64 (((Xs).length : Int))) rfl (rv_len (e := 9) hs _ _ rfl rfl (by kernel_rfl)) ?_
 simp only [p3, p4]
 refine sv 8 (.int .i64 0) ?_
 simp only [p3, p4]
 refine sq_nil ?_
 refine k3 _ _ ?_
 try clear k3 K3
 refine wp_block ?_
 refine wp_loop_inv (a := ⟨List.toArray ?l4, []⟩) (fun n a w' => ∃ (k : Nat) (u4 : Nat → Value), (Xs).length - k = n ∧ a = ⟨[v, (.func (.func 67) #[] #[]), undef, undef, (u4 4), (u4 5), (u4 6), (.int .i64 (((Xs).length : Int))), (.int .i64 ((k : Int))), (u4 9), (u4 10), (u4 11), (u4 12), (u4 13), (u4 14), (u4 15), (u4 16), (u4 17), (u4 18)].toArray, []⟩ ∧ k ≤ (Xs).length ∧ (∀ j, j < k → bigT ((Xs).getD j []) = false) ∧ Gr w w') ((Xs).length - 0) ?_ ?_
 ·exact ⟨0, (fun i => List.getD ?l4 i undef), rfl, rfl, (Nat.zero_le _), (fun j h => absurd h (Nat.not_lt_zero j)), hB⟩
 rintro n4 a4 w4 ⟨k, u4, rfl, rfl, hk, hall, hB⟩ K4 k4
 refine wp_seq_k (fun K5 k5 => ?_)
 refine rg [0] ?_
 refine sv 9 (.bool (decide ((k : Int) < ((Xs).length : Int)))) ?_
 simp only [p3, p4]
 refine sq_nil ?_
 refine k5 _ _ ?_
 try clear k5 K5
 refine wp_seq_k (fun K6 k6 => ?_)
 refine wp_cond_split (t := decide ((k : Int) < ((Xs).length : Int))) rfl (fun hb7 => ?_) (fun hb7 => ?_)
 ·have hlt := of_decide_eq_true hb7
  refine wp_skip ?_
  refine k6 _ _ ?_
  try clear k6 K6
  refine wp_seq_k (fun K8 k8 => ?_)
  refine wp_block ?_
  refine wp_seq_k (fun K9 k9 => ?_)
  refine rg [0, 1] ?_
  refine sv 10 (.int .i64 ((k : Int))) ?_
  simp only [p3, p4]
  refine sv 5 (.int .i64 ((k : Int))) ?_
  simp only [p3, p4]
  refine sq_nil ?_
  refine k9 _ _ ?_
  try clear k9 K9
  refine wp_seq_k (fun K10 k10 => ?_)
  refine rg [0, 1, 2, 3, 4, 5] ?_
  refine sv 11 (.func (.func 67) #[] #[]) ?_
  simp only [p3, p4]
  refine sv 12 v ?_
  simp only [p3, p4]
  refine sv 13 (.int .i64 ((k : Int))) ?_
  simp only [p3, p4]
  refine sw 14 (adr v (k * 1)) rfl (rv_idx (e := 9) hs (by decide) k (by omega) _ _ _ rfl rfl rfl (by kernel_rfl) (by kernel_rfl)) ?_
  simp only [p3, p4]
  obtain ⟨_, _, rfl, at11⟩ := (hs.gr stab_txt hB).get (by decide) (getD_some (d := ([] : List UInt8)) (i := k) (xs := Xs) (by omega))
  refine sw 15 (.string ⟨((Xs).getD k [] : List UInt8).toArray⟩) rfl (rv_ld1 (.string ⟨((Xs).getD k [] : List UInt8).toArray⟩) at11 _ _ rfl rfl (by kernel_rfl)) ?_
  simp only [p3, p4]
  refine se ?_
  refine ec 16 (c_big ((Xs).getD k []) _) ?_
  rintro e12 w12 ⟨rfl, g12⟩
  refine ⟨_, rfl, ?_⟩
  replace hB := hB.trans g12
  simp only [p3, p4]
  refine sq_nil ?_
  refine k10 _ _ ?_
  try clear k10 K10
  refine wp_cond_split (t := bigT ((Xs).getD k [])) rfl (fun hb13 => ?_) (fun hb13 => ?_)
  ·refine wp_seq_k (fun K14 k14 => ?_)
   refine rg [0, 1] ?_
   refine sv 17 (.int .i64 ((k : Int))) ?_
   simp only [p3, p4]
   refine sv 4 (.int .i64 ((k : Int))) ?_
   simp only [p3, p4]
   refine sq_nil ?_
   refine k14 _ _ ?_
   try clear k14 K14
   refine wp_ret ?_
   simp only [Exit.then, Exit.inBlock]
   refine bodyPost_ret (v := (.int .i64 ((k : Int)))) (ret_tmp rfl rfl) rfl ⟨?_, hB⟩
   exact ⟨_, rfl, any_found (by omega) hb13⟩
  ·refine wp_skip ?_
   refine k8 _ _ ?_
   try clear k8 K8
   refine rg [0, 1] ?_
   refine sw 18 (.int .i64 (((k : Int) + 1))) rfl (RunV.int (x := IntKind.i64.wrap (((k : Int) + 1))) (y := ((k : Int) + 1)) (rvk (by kernel_rfl)) (by first | rfl | (rw [IntKind.wrap_i64]; omega))) ?_
   simp only [p3, p4]
   refine sv 8 (.int .i64 (((k : Int) + 1))) ?_
   simp only [p3, p4]
   refine sq_nil ?_
   refine k4 ((Xs).length - (k + 1)) ⟨List.toArray ?l15, []⟩ _ (by omega) ?_
   exact ⟨k + 1, (fun i => List.getD ?l15 i undef), rfl, rfl, (by omega), (all_succ hall hb13), hB⟩
 ·have hge := of_decide_eq_false hb7
  have hkk : k = (Xs).length := by omega
  refine wp_exit ?_
  simp only [Exit.then, Exit.inBlock, ↓reduceIte]
  refine k2 _ _ ?_
  try clear k2 K2
  refine wp_seq_k (fun K16 k16 => ?_)
  refine rg [0] ?_
  refine sv 4 (.int .i64 (-1)) ?_
  simp only [p3, p4]
  refine sq_nil ?_
  refine k16 _ _ ?_
  try clear k16 K16
  refine wp_ret ?_
  refine bodyPost_ret (v := (.int .i64 (-1))) (ret_tmp rfl rfl) rfl ⟨?_, hB⟩
  exact ⟨_, rfl, any_none (by subst hkk; exact hall)⟩

set_option maxRecDepth 100000 in
set_option maxHeartbeats 1000000 in
theorem has_big {TT : Nat} (v : Value) (Xs : List (List UInt8)) (hn : Xs.length ≤ 8) {w : World} (hs : Sl ETxt TT 1 w v Xs) :
    Calls Tryz.prog 66 #[v, (.func (.func 67) #[] #[])] w fun e w' => e = .returned (.bool (Xs.any bigT)) ∧ Gr w w' := by
 go_enter Tryz.func66, Tryz.ntmps66
 have hB := Gr.refl w
 refine wp_seq_k (fun K1 k1 => ?_)
 refine rg [0] ?_
 refine sv 4 (.bool false) ?_
 simp only [p3, p4]
 refine sq_nil ?_
 refine k1 _ _ ?_
 try clear k1 K1
 refine wp_seq_k (fun K2 k2 => ?_)
 refine rg [0, 1, 2, 3, 4] ?_
 refine sv 5 v ?_
 simp only [p3, p4]
 refine sv 6 (.func (.func 67) #[] #[]) ?_
 simp only [p3, p4]
 refine se ?_
 refine ec 7 (idx_big v Xs hn (hs.gr stab_txt hB)) ?_
 rintro e3 w3 ⟨⟨r3, rfl, hr3⟩, g3⟩
 refine ⟨_, rfl, ?_⟩
 replace hB := hB.trans g3
 simp only [p3, p4]
 refine sv 8 (.bool (decide ((0 : Int) ≤ r3))) ?_
 simp only [p3, p4]
 refine sv 4 (.bool (decide ((0 : Int) ≤ r3))) ?_
 simp only [p3, p4]
 refine sq_nil ?_
 refine k2 _ _ ?_
 try clear k2 K2
 refine wp_ret ?_
 refine bodyPost_ret (v := (.bool (decide ((0 : Int) ≤ r3)))) (ret_tmp rfl rfl) rfl ⟨?_, hB⟩
 exact (by rw [hr3])

theorem ck_succ {Xs : List (List UInt8)} {k : Nat} (h : ∀ j, j < k → ck2 (Xs.getD j []) 40 = 0) (hk : ck2 (Xs.getD k []) 40 = 0) : ∀ j, j < k + 1 → ck2 (Xs.getD j []) 40 = 0 := fun j hj => by
  rcases Nat.lt_or_eq_of_le (Nat.le_of_lt_succ hj) with h1 | rfl
  · exact h j h1
  · exact hk

set_option maxRecDepth 100000 in
set_option maxHeartbeats 1000000 in
theorem all_pz (v : Value) (Xs : List (List UInt8)) (_hn : Xs.length ≤ 8) (hl : ∀ j, (Xs.getD j []).length ≤ 40) {w : World} (hs : Sl ETxt 42 1 w v Xs) (hm : Mx w) :
    Calls Tryz.prog 110 #[v, (.func (.func 25) #[] #[])] w fun e w' => (∃ u, e = .returned (.tuple #[u, .int .i64 (ferr Xs)]) ∧ (ferr Xs = 0 → Sl (ERat 160) 31 4 w' u (Xs.map valT)) ∧ (ferr Xs ≠ 0 → u = .slice none 0 0)) ∧ Gr w w' := by
 go_enter Tryz.func110, Tryz.ntmps110
 have hB := Gr.refl w
 refine wp_seq_k (fun K1 k1 => ?_)
 refine rg [0, 1] ?_
 refine sv 4 (.slice none 0 0) ?_
 simp only [p3, p4]
 refine sv 5 (.int .i64 0) ?_
 simp only [p3, p4]
 refine sq_nil ?_
 refine k1 _ _ ?_
 try clear k1 K1
 refine wp_seq_k (fun K2 k2 => ?_)
 refine rg [0, 1, 2, 3] ?_
 refine sv 10 v ?_
 simp only [p3, p4]
 refine sw 11 (.int .i64 (((Xs).length : Int))) rfl (rv_len (e := 42) hs _ _ rfl rfl (by kernel_rfl)) ?_
 simp only [p3, p4]
 refine se ?_
 refine eff_mk (E := (ERat 160)) (0 : Rat) 73 31 (.agg #[(.bool false), (.slice none 0 0), (.bool false), (.slice none 0 0)]) (Xs).length 4 64 (some 12) rfl rfl rfl rfl (by kernel_rfl) (by kernel_rfl) (by decide) (by omega) (by decide) (fun w2 => erat_zero 160 (by omega) w2) (fun b3 w3 g3 mk3 q3 => ?_)
 replace q3 := Nat.le_trans (Below.size hB) q3
 replace hB := hB.trans g3
 simp only [putl, p3, p4]
 refine sv 6 (.slice (some ⟨b3, 0, none⟩) (Xs).length (Xs).length) ?_
 simp only [p3, p4]
 refine sq_nil ?_
 refine k2 _ _ ?_
 try clear k2 K2
 refine wp_seq_k (fun K4 k4 => ?_)
 refine wp_seq_k (fun K5 k5 => ?_)
 refine rg [0, 1, 2] ?_
 refine sv 13 v ?_
 simp only [p3, p4]
 refine sw 14 (.int .i64 (((Xs).length : Int))) rfl (rv_len (e := 42) hs _ _ rfl rfl (by kernel_rfl)) ?_
 simp only [p3, p4]
 refine sv 15 (.int .i64 0) ?_
 simp only [p3, p4]
 refine sq_nil ?_
 refine k5 _ _ ?_
 try clear k5 K5
 refine wp_block ?_
 refine wp_loop_inv (a := ⟨List.toArray ?l6, []⟩) (fun n a w' => ∃ (k : Nat) (u6 : Nat → Value), (Xs).length - k = n ∧ a = ⟨[v, (.func (.func 25) #[] #[]), undef, undef, (u6 4), (u6 5), (.slice (some ⟨b3, 0, none⟩) (Xs).length (Xs).length), (u6 7), (u6 8), (u6 9), (u6 10), (u6 11), (u6 12), v, (.int .i64 (((Xs).length : Int))), (.int .i64 ((k : Int))), (u6 16), (u6 17), (u6 18), (u6 19), (u6 20), (u6 21), (u6 22), (u6 23), (u6 24), (u6 25), (u6 26), (u6 27), (u6 28), (u6 29), (u6 30), (u6 31), (u6 32), undef].toArray, []⟩ ∧ k ≤ (Xs).length ∧ (∀ j, j < k → ck2 ((Xs).getD j []) 40 = 0) ∧ Mk (ERat 160) 31 4 w' b3 (filled valT 0 Xs k) ∧ Gr w w') ((Xs).length - 0) ?_ ?_
 ·exact ⟨0, (fun i => List.getD ?l6 i undef), rfl, rfl, (Nat.zero_le _), (fun j h => absurd h (Nat.not_lt_zero j)), (by rw [filled_zero]; exact mk3), hB⟩
 rintro n6 a6 w6 ⟨k, u6, rfl, rfl, hk, hall, hmk, hB⟩ K6 k6
 refine wp_seq_k (fun K7 k7 => ?_)
 refine rg [0] ?_
 refine sv 16 (.bool (decide ((k : Int) < ((Xs).length : Int)))) ?_
 simp only [p3, p4]
 refine sq_nil ?_
 refine k7 _ _ ?_
 try clear k7 K7
 refine wp_seq_k (fun K8 k8 => ?_)
 refine wp_cond_split (t := decide ((k : Int) < ((Xs).length : Int))) rfl (fun hb9 => ?_) (fun hb9 => ?_)
 ·have hlt := of_decide_eq_true hb9
  refine wp_skip ?_
  refine k8 _ _ ?_
  try clear k8 K8
  refine wp_seq_k (fun K10 k10 => ?_)
  refine wp_block ?_
  refine wp_seq_k (fun K11 k11 => ?_)
  refine rg [0, 1, 2, 3, 4] ?_
  refine sv 17 (.int .i64 ((k : Int))) ?_
  simp only [p3, p4]
  refine sw 18 (adr v (k * 1)) rfl (rv_idx (e := 42) hs (by decide) k (by omega) _ _ _ rfl rfl rfl (by kernel_rfl) (by kernel_rfl)) ?_
  simp only [p3, p4]
  obtain ⟨_, _, rfl, at12⟩ := (hs.gr stab_txt hB).get (by decide) (getD_some (d := ([] : List UInt8)) (i := k) (xs := Xs) (by omega))
  refine sw 19 (.string ⟨((Xs).getD k [] : List UInt8).toArray⟩) rfl (rv_ld1 (.string ⟨((Xs).getD k [] : List UInt8).toArray⟩) at12 _ _ rfl rfl (by kernel_rfl)) ?_
  simp only [p3, p4]
  refine sv 7 (.int .i64 ((k : Int))) ?_
  simp only [p3, p4]
  refine sv 8 (.string ⟨((Xs).getD k [] : List UInt8).toArray⟩) ?_
  simp only [p3, p4]
  refine sq_nil ?_
  refine k11 _ _ ?_
  try clear k11 K11
  refine wp_seq_k (fun K13 k13 => ?_)
  refine rg [0] ?_
  refine sv 9 (.int .i64 0) ?_
  simp only [p3, p4]
  refine sq_nil ?_
  refine k13 _ _ ?_
  try clear k13 K13
  refine wp_seq_k (fun K14 k14 => ?_)
  refine rg [0, 1, 2, 3, 4, 5, 6, 7, 8, 9, 10] ?_
  refine sv 21 (.slice (some ⟨b3, 0, none⟩) (Xs).length (Xs).length) ?_
  simp only [p3, p4]
  refine sv 22 (.int .i64 ((k : Int))) ?_
  simp only [p3, p4]
  refine sv 23 (.func (.func 25) #[] #[]) ?_
  simp only [p3, p4]
  refine sv 24 (.string ⟨((Xs).getD k [] : List UInt8).toArray⟩) ?_
  simp only [p3, p4]
  refine se ?_
  rcases Bool.eq_false_or_eq_true ((ck2 ((Xs).getD k []) 40 == (0 : Int))) with hb15 | hb15
  ·have hc0 := eq_of_beq hb15
   refine ec 25 (pz_ok ((Xs).getD k []) hc0 _ (hm.gr hB)) ?_
   rintro e16 w16 ⟨⟨p16, q16, r16, s16, rfl, h16⟩, g16⟩
   refine ⟨_, rfl, ?_⟩
   replace hB := hB.trans g16
   simp only [p3, p4]
   refine sv 20 (.tuple #[(.agg #[p16, q16, r16, s16]), (.int .i64 0)]) ?_
   simp only [p3, p4]
   refine sv 26 (.agg #[p16, q16, r16, s16]) ?_
   simp only [p3, p4]
   refine sv 27 (.int .i64 0) ?_
   simp only [p3, p4]
   refine sw 28 (adr (.slice (some ⟨b3, 0, none⟩) (Xs).length (Xs).length) (k * 4)) rfl (rv_idx (e := 31) (hmk.sl_n (filled_len valT 0 Xs hk) (Nat.le_refl _)) (by decide) k (by rw [filled_len valT 0 Xs hk]; omega) _ _ _ rfl rfl rfl (by kernel_rfl) (by kernel_rfl)) ?_
   simp only [p3, p4]
   refine se ?_
   replace hmk := hmk.gr (stab_rat 160) g16
   refine eff_stm (stab_rat 160) hmk k (by rw [filled_len valT 0 Xs hk]; omega) ((valT ((Xs).getD k []))) (.agg #[p16, q16, r16, s16]) [p16, q16, r16, s16] ((Xs).length) ((Xs).length) 31 _ _ rfl rfl rfl rfl rfl (by kernel_rfl) rfl ⟨h16.one0, h16.one1, h16.one2, h16.one3, trivial⟩ ⟨_, _, _, _, rfl, h16.mono (by omega)⟩ (by decide) (fun w17 st17 kt17 mk17 => ?_)
   replace hB := st17.gr hB q3
   refine sv 9 (.int .i64 0) ?_
   simp only [p3, p4]
   refine sq_nil ?_
   refine k14 _ _ ?_
   try clear k14 K14
   refine wp_seq_k (fun K18 k18 => ?_)
   refine rg [0, 1] ?_
   refine sv 29 (.int .i64 0) ?_
   simp only [p3, p4]
   refine sv 30 (.bool false) ?_
   simp only [p3, p4]
   refine sq_nil ?_
   refine k18 _ _ ?_
   try clear k18 K18
   refine wp_cond_false rfl ?_
   refine wp_skip ?_
   refine k10 _ _ ?_
   try clear k10 K10
   refine rg [0, 1] ?_
   refine sw 32 (.int .i64 (((k : Int) + 1))) rfl (RunV.int (x := IntKind.i64.wrap (((k : Int) + 1))) (y := ((k : Int) + 1)) (rvk (by kernel_rfl)) (by first | rfl | (rw [IntKind.wrap_i64]; omega))) ?_
   simp only [p3, p4]
   refine sv 15 (.int .i64 (((k : Int) + 1))) ?_
   simp only [p3, p4]
   refine sq_nil ?_
   refine k6 ((Xs).length - (k + 1)) ⟨List.toArray ?l19, []⟩ _ (by omega) ?_
   exact ⟨k + 1, (fun i => List.getD ?l19 i undef), rfl, rfl, (by omega), (ck_succ hall hc0), (by rw [← filled_set valT 0 [] (by omega) rfl]; exact mk17), hB⟩
  ·have hc1 : ck2 ((Xs).getD k []) 40 ≠ 0 := ne_of_beq_false hb15
   refine ec 25 (pz_bad ((Xs).getD k []) (hl k) hc1 _ (hm.gr hB)) ?_
   rintro e20 w20 ⟨rfl, g20⟩
   refine ⟨_, rfl, ?_⟩
   replace hB := hB.trans g20
   simp only [p3, p4]
   refine sv 20 (.tuple #[(.agg #[(.bool false), (.slice none 0 0), (.bool false), (.slice none 0 0)]), (.int .i64 (ck2 ((Xs).getD k []) 40))]) ?_
   simp only [p3, p4]
   refine sv 26 (.agg #[(.bool false), (.slice none 0 0), (.bool false), (.slice none 0 0)]) ?_
   simp only [p3, p4]
   refine sv 27 (.int .i64 (ck2 ((Xs).getD k []) 40)) ?_
   simp only [p3, p4]
   refine sw 28 (adr (.slice (some ⟨b3, 0, none⟩) (Xs).length (Xs).length) (k * 4)) rfl (rv_idx (e := 31) (hmk.sl_n (filled_len valT 0 Xs hk) (Nat.le_refl _)) (by decide) k (by rw [filled_len valT 0 Xs hk]; omega) _ _ _ rfl rfl rfl (by kernel_rfl) (by kernel_rfl)) ?_
   simp only [p3, p4]
   refine se ?_
   replace hmk := hmk.gr (stab_rat 160) g20
   refine eff_stm (stab_rat 160) hmk k (by rw [filled_len valT 0 Xs hk]; omega) (0) (.agg #[(.bool false), (.slice none 0 0), (.bool false), (.slice none 0 0)]) [(.bool false), (.slice none 0 0), (.bool false), (.slice none 0 0)] ((Xs).length) ((Xs).length) 31 _ _ rfl rfl rfl rfl rfl (by kernel_rfl) rfl ⟨rfl, rfl, rfl, rfl, trivial⟩ ⟨_, _, _, _, rfl, (IsRat.zero _ (k := 64) (Nat.le_refl _)).mono (by omega)⟩ (by decide) (fun w21 st21 kt21 mk21 => ?_)
   replace hB := st21.gr hB q3
   refine sv 9 (.int .i64 (ck2 ((Xs).getD k []) 40)) ?_
   simp only [p3, p4]
   refine sq_nil ?_
   refine k14 _ _ ?_
   try clear k14 K14
   refine wp_seq_k (fun K22 k22 => ?_)
   refine rg [0, 1] ?_
   refine sv 29 (.int .i64 (ck2 ((Xs).getD k []) 40)) ?_
   simp only [p3, p4]
   have hb23 : ((ck2 ((Xs).getD k []) 40 != (0 : Int))) = true := (by simpa using hc1)
   refine sw 30 (.bool true) rfl (RunV.bool (x := (ck2 ((Xs).getD k []) 40 != (0 : Int))) (rvk (by kernel_rfl)) hb23) ?_
   simp only [p3, p4]
   refine sq_nil ?_
   refine k22 _ _ ?_
   try clear k22 K22
   refine wp_cond_true rfl ?_
   refine wp_seq_k (fun K24 k24 => ?_)
   refine rg [0, 1, 2] ?_
   refine sv 31 (.int .i64 (ck2 ((Xs).getD k []) 40)) ?_
   simp only [p3, p4]
   refine sv 4 (.slice none 0 0) ?_
   simp only [p3, p4]
   refine sv 5 (.int .i64 (ck2 ((Xs).getD k []) 40)) ?_
   simp only [p3, p4]
   refine sq_nil ?_
   refine k24 _ _ ?_
   try clear k24 K24
   refine wp_ret ?_
   simp only [Exit.then, Exit.inBlock]
   refine bodyPost_ret (v := (.tuple #[(.slice none 0 0), (.int .i64 (ck2 ((Xs).getD k []) 40))])) (ret_tmp2 rfl rfl rfl) rfl ⟨?_, hB⟩
   have hz := ferr_mid (by omega) hall hc1
   exact ⟨_, by rw [hz], fun h => absurd (hz.symm.trans h) hc1, fun _ => rfl⟩
 ·have hge := of_decide_eq_false hb9
  have hkk : k = (Xs).length := by omega
  refine wp_exit ?_
  simp only [Exit.then, Exit.inBlock, ↓reduceIte]
  refine k4 _ _ ?_
  try clear k4 K4
  refine wp_seq_k (fun K25 k25 => ?_)
  refine rg [0, 1, 2] ?_
  refine sv 33 (.slice (some ⟨b3, 0, none⟩) (Xs).length (Xs).length) ?_
  simp only [p3, p4]
  refine sv 4 (.slice (some ⟨b3, 0, none⟩) (Xs).length (Xs).length) ?_
  simp only [p3, p4]
  refine sv 5 (.int .i64 0) ?_
  simp only [p3, p4]
  refine sq_nil ?_
  refine k25 _ _ ?_
  try clear k25 K25
  refine wp_ret ?_
  refine bodyPost_ret (v := (.tuple #[(.slice (some ⟨b3, 0, none⟩) (Xs).length (Xs).length), (.int .i64 0)])) (ret_tmp2 rfl rfl rfl) rfl ⟨?_, hB⟩
  have hS := (hmk.sl_n (filled_len valT 0 Xs hk) (Nat.le_refl _))
  subst hkk
  have hz := ferr_none hall
  rw [filled_all] at hS
  exact ⟨_, by rw [hz], fun _ => hS, fun h => absurd hz h⟩

set_option maxRecDepth 100000 in
set_option maxHeartbeats 1000000 in
theorem parses_l (v : Value) (Xs : List (List UInt8)) (hn : Xs.length ≤ 8) (hl : ∀ j, (Xs.getD j []).length ≤ 40) {w : World} (hs : Sl ETxt 42 1 w v Xs) (hm : Mx w) :
    Calls Tryz.prog 69 #[v] w fun e w' => (∃ u, e = .returned (.tuple #[u, .int .i64 (ferr Xs)]) ∧ (ferr Xs = 0 → Sl (ERat 160) 31 4 w' u (Xs.map valT)) ∧ (ferr Xs ≠ 0 → u = .slice none 0 0)) ∧ Gr w w' := by
 go_enter Tryz.func69, Tryz.ntmps69
 have hB := Gr.refl w
 refine wp_seq_k (fun K1 k1 => ?_)
 refine rg [0, 1] ?_
 refine sv 2 (.slice none 0 0) ?_
 simp only [p3, p4]
 refine sv 3 (.int .i64 0) ?_
 simp only [p3, p4]
 refine sq_nil ?_
 refine k1 _ _ ?_
 try clear k1 K1
 refine wp_seq_k (fun K2 k2 => ?_)
 refine rg [0, 1, 2, 3, 4, 5] ?_
 refine sv 4 v ?_
 simp only [p3, p4]
 refine se ?_
 refine ec 5 (all_pz v Xs hn hl (hs.gr stab_txt hB) (hm.gr hB)) ?_
 rintro e3 w3 ⟨⟨u3, rfl, hy3, hz3⟩, g3⟩
 refine ⟨_, rfl, ?_⟩
 replace hB := hB.trans g3
 simp only [p3, p4]
 refine sv 6 u3 ?_
 simp only [p3, p4]
 refine sv 7 (.int .i64 (ferr Xs)) ?_
 simp only [p3, p4]
 refine sv 2 u3 ?_
 simp only [p3, p4]
 refine sv 3 (.int .i64 (ferr Xs)) ?_
 simp only [p3, p4]
 refine sq_nil ?_
 refine k2 _ _ ?_
 try clear k2 K2
 refine wp_ret ?_
 refine bodyPost_ret (v := (.tuple #[u3, (.int .i64 (ferr Xs))])) (ret_tmp2 rfl rfl rfl) rfl ⟨?_, hB⟩
 exact ⟨_, rfl, fun h => by have := hy3 h; exact this, hz3⟩

set_option maxRecDepth 100000 in
set_option maxHeartbeats 1000000 in
theorem all_rz (v : Value) (Xs : List (List UInt8)) (_hn : Xs.length ≤ 8) (hl : ∀ j, (Xs.getD j []).length ≤ 40) {w : World} (hs : Sl ETxt 42 1 w v Xs) (hm : Mx w) :
    Calls Tryz.prog 110 #[v, (.func (.func 26) #[] #[])] w fun e w' => (∃ u, e = .returned (.tuple #[u, .int .i64 (ferr Xs)]) ∧ (ferr Xs = 0 → Sl (ERat 160) 31 4 w' u (Xs.map valT)) ∧ (ferr Xs ≠ 0 → u = .slice none 0 0)) ∧ Gr w w' := by
 go_enter Tryz.func110, Tryz.ntmps110
 have hB := Gr.refl w
 refine wp_seq_k (fun K1 k1 => ?_)
 refine rg [0, 1] ?_
 refine sv 4 (.slice none 0 0) ?_
 simp only [p3, p4]
 refine sv 5 (.int .i64 0) ?_
 simp only [p3, p4]
 refine sq_nil ?_
 refine k1 _ _ ?_
 try clear k1 K1
 refine wp_seq_k (fun K2 k2 => ?_)
 refine rg [0, 1, 2, 3] ?_
 refine sv 10 v ?_
 simp only [p3, p4]
 refine sw 11 (.int .i64 (((Xs).length : Int))) rfl (rv_len (e := 42) hs _ _ rfl rfl (by kernel_rfl)) ?_
 simp only [p3, p4]
 refine se ?_
 refine eff_mk (E := (ERat 160)) (0 : Rat) 73 31 (.agg #[(.bool false), (.slice none 0 0), (.bool false), (.slice none 0 0)]) (Xs).length 4 64 (some 12) rfl rfl rfl rfl (by kernel_rfl) (by kernel_rfl) (by decide) (by omega) (by decide) (fun w2 => erat_zero 160 (by omega) w2) (fun b3 w3 g3 mk3 q3 => ?_)
 replace q3 := Nat.le_trans (Below.size hB) q3
 replace hB := hB.trans g3
 simp only [putl, p3, p4]
 refine sv 6 (.slice (some ⟨b3, 0, none⟩) (Xs).length (Xs).length) ?_
 simp only [p3, p4]
 refine sq_nil ?_
 refine k2 _ _ ?_
 try clear k2 K2
 refine wp_seq_k (fun K4 k4 => ?_)
 refine wp_seq_k (fun K5 k5 => ?_)
 refine rg [0, 1, 2] ?_
 refine sv 13 v ?_
 simp only [p3, p4]
 refine sw 14 (.int .i64 (((Xs).length : Int))) rfl (rv_len (e := 42) hs _ _ rfl rfl (by kernel_rfl)) ?_
 simp only [p3, p4]
 refine sv 15 (.int .i64 0) ?_
 simp only [p3, p4]
 refine sq_nil ?_
 refine k5 _ _ ?_
 try clear k5 K5
 refine wp_block ?_
 refine wp_loop_inv (a := ⟨List.toArray ?l6, []⟩) (fun n a w' => ∃ (k : Nat) (u6 : Nat → Value), (Xs).length - k = n ∧ a = ⟨[v, (.func (.func 26) #[] #[]), undef, undef, (u6 4), (u6 5), (.slice (some ⟨b3, 0, none⟩) (Xs).length (Xs).length), (u6 7), (u6 8), (u6 9), (u6 10), (u6 11), (u6 12), v, (.int .i64 (((Xs).length : Int))), (.int .i64 ((k : Int))), (u6 16), (u6 17), (u6 18), (u6 19), (u6 20), (u6 21), (u6 22), (u6 23), (u6 24), (u6 25), (u6 26), (u6 27), (u6 28), (u6 29), (u6 30), (u6 31), (u6 32), undef].toArray, []⟩ ∧ k ≤ (Xs).length ∧ (∀ j, j < k → ck2 ((Xs).getD j []) 40 = 0) ∧ Mk (ERat 160) 31 4 w' b3 (filled valT 0 Xs k) ∧ Gr w w') ((Xs).length - 0) ?_ ?_
 ·exact ⟨0, (fun i => List.getD ?l6 i undef), rfl, rfl, (Nat.zero_le _), (fun j h => absurd h (Nat.not_lt_zero j)), (by rw [filled_zero]; exact mk3), hB⟩
 rintro n6 a6 w6 ⟨k, u6, rfl, rfl, hk, hall, hmk, hB⟩ K6 k6
 refine wp_seq_k (fun K7 k7 => ?_)
 refine rg [0] ?_
 refine sv 16 (.bool (decide ((k : Int) < ((Xs).length : Int)))) ?_
 simp only [p3, p4]
 refine sq_nil ?_
 refine k7 _ _ ?_
 try clear k7 K7
 refine wp_seq_k (fun K8 k8 => ?_)
 refine wp_cond_split (t := decide ((k : Int) < ((Xs).length : Int))) rfl (fun hb9 => ?_) (fun hb9 => ?_)
 ·have hlt := of_decide_eq_true hb9
  refine wp_skip ?_
  refine k8 _ _ ?_
  try clear k8 K8
  refine wp_seq_k (fun K10 k10 => ?_)
  refine wp_block ?_
  refine wp_seq_k (fun K11 k11 => ?_)
  refine rg [0, 1, 2, 3, 4] ?_
  refine sv 17 (.int .i64 ((k : Int))) ?_
  simp only [p3, p4]
  refine sw 18 (adr v (k * 1)) rfl (rv_idx (e := 42) hs (by decide) k (by omega) _ _ _ rfl rfl rfl (by kernel_rfl) (by kernel_rfl)) ?_
  simp only [p3, p4]
  obtain ⟨_, _, rfl, at12⟩ := (hs.gr stab_txt hB).get (by decide) (getD_some (d := ([] : List UInt8)) (i := k) (xs := Xs) (by omega))
  refine sw 19 (.string ⟨((Xs).getD k [] : List UInt8).toArray⟩) rfl (rv_ld1 (.string ⟨((Xs).getD k [] : List UInt8).toArray⟩) at12 _ _ rfl rfl (by kernel_rfl)) ?_
  simp only [p3, p4]
  refine sv 7 (.int .i64 ((k : Int))) ?_
  simp only [p3, p4]
  refine sv 8 (.string ⟨((Xs).getD k [] : List UInt8).toArray⟩) ?_
  simp only [p3, p4]
  refine sq_nil ?_
  refine k11 _ _ ?_
  try clear k11 K11
  refine wp_seq_k (fun K13 k13 => ?_)
  refine rg [0] ?_
  refine sv 9 (.int .i64 0) ?_
  simp only [p3, p4]
  refine sq_nil ?_
  refine k13 _ _ ?_
  try clear k13 K13
  refine wp_seq_k (fun K14 k14 => ?_)
  refine rg [0, 1, 2, 3, 4, 5, 6, 7, 8, 9, 10] ?_
  refine sv 21 (.slice (some ⟨b3, 0, none⟩) (Xs).length (Xs).length) ?_
  simp only [p3, p4]
  refine sv 22 (.int .i64 ((k : Int))) ?_
  simp only [p3, p4]
  refine sv 23 (.func (.func 26) #[] #[]) ?_
  simp only [p3, p4]
  refine sv 24 (.string ⟨((Xs).getD k [] : List UInt8).toArray⟩) ?_
  simp only [p3, p4]
  refine se ?_
  rcases Bool.eq_false_or_eq_true ((ck2 ((Xs).getD k []) 40 == (0 : Int))) with hb15 | hb15
  ·have hc0 := eq_of_beq hb15
   refine ec 25 (rz_ok ((Xs).getD k []) hc0 _ (hm.gr hB)) ?_
   rintro e16 w16 ⟨⟨p16, q16, r16, s16, rfl, h16⟩, g16⟩
   refine ⟨_, rfl, ?_⟩
   replace hB := hB.trans g16
   simp only [p3, p4]
   refine sv 20 (.tuple #[(.agg #[p16, q16, r16, s16]), (.int .i64 0)]) ?_
   simp only [p3, p4]
   refine sv 26 (.agg #[p16, q16, r16, s16]) ?_
   simp only [p3, p4]
   refine sv 27 (.int .i64 0) ?_
   simp only [p3, p4]
   refine sw 28 (adr (.slice (some ⟨b3, 0, none⟩) (Xs).length (Xs).length) (k * 4)) rfl (rv_idx (e := 31) (hmk.sl_n (filled_len valT 0 Xs hk) (Nat.le_refl _)) (by decide) k (by rw [filled_len valT 0 Xs hk]; omega) _ _ _ rfl rfl rfl (by kernel_rfl) (by kernel_rfl)) ?_
   simp only [p3, p4]
   refine se ?_
   replace hmk := hmk.gr (stab_rat 160) g16
   refine eff_stm (stab_rat 160) hmk k (by rw [filled_len valT 0 Xs hk]; omega) ((valT ((Xs).getD k []))) (.agg #[p16, q16, r16, s16]) [p16, q16, r16, s16] ((Xs).length) ((Xs).length) 31 _ _ rfl rfl rfl rfl rfl (by kernel_rfl) rfl ⟨h16.one0, h16.one1, h16.one2, h16.one3, trivial⟩ ⟨_, _, _, _, rfl, h16.mono (by omega)⟩ (by decide) (fun w17 st17 kt17 mk17 => ?_)
   replace hB := st17.gr hB q3
   refine sv 9 (.int .i64 0) ?_
   simp only [p3, p4]
   refine sq_nil ?_
   refine k14 _ _ ?_
   try clear k14 K14
   refine wp_seq_k (fun K18 k18 => ?_)
   refine rg [0, 1] ?_
   refine sv 29 (.int .i64 0) ?_
   simp only [p3, p4]
   refine sv 30 (.bool false) ?_
   simp only [p3, p4]
   refine sq_nil ?_
   refine k18 _ _ ?_
   try clear k18 K18
   refine wp_cond_false rfl ?_
   refine wp_skip ?_
   refine k10 _ _ ?_
   try clear k10 K10
   refine rg [0, 1] ?_
   refine sw 32 (.int .i64 (((k : Int) + 1))) rfl (RunV.int (x := IntKind.i64.wrap (((k : Int) + 1))) (y := ((k : Int) + 1)) (rvk (by kernel_rfl)) (by first | rfl | (rw [IntKind.wrap_i64]; omega))) ?_
   simp only [p3, p4]
   refine sv 15 (.int .i64 (((k : Int) + 1))) ?_
   simp only [p3, p4]
   refine sq_nil ?_
   refine k6 ((Xs).length - (k + 1)) ⟨List.toArray ?l19, []⟩ _ (by omega) ?_
   exact ⟨k + 1, (fun i => List.getD ?l19 i undef), rfl, rfl, (by omega), (ck_succ hall hc0), (by rw [← filled_set valT 0 [] (by omega) rfl]; exact mk17), hB⟩
  ·have hc1 : ck2 ((Xs).getD k []) 40 ≠ 0 := ne_of_beq_false hb15
   refine ec 25 (rz_bad ((Xs).getD k []) (hl k) hc1 _ (hm.gr hB)) ?_
   rintro e20 w20 ⟨rfl, g20⟩
   refine ⟨_, rfl, ?_⟩
   replace hB := hB.trans g20
   simp only [p3, p4]
   refine sv 20 (.tuple #[(.agg #[(.bool false), (.slice none 0 0), (.bool false), (.slice none 0 0)]), (.int .i64 (ck2 ((Xs).getD k []) 40))]) ?_
   simp only [p3, p4]
   refine sv 26 (.agg #[(.bool false), (.slice none 0 0), (.bool false), (.slice none 0 0)]) ?_
   simp only [p3, p4]
   refine sv 27 (.int .i64 (ck2 ((Xs).getD k []) 40)) ?_
   simp only [p3, p4]
   refine sw 28 (adr (.slice (some ⟨b3, 0, none⟩) (Xs).length (Xs).length) (k * 4)) rfl (rv_idx (e := 31) (hmk.sl_n (filled_len valT 0 Xs hk) (Nat.le_refl _)) (by decide) k (by rw [filled_len valT 0 Xs hk]; omega) _ _ _ rfl rfl rfl (by kernel_rfl) (by kernel_rfl)) ?_
   simp only [p3, p4]
   refine se ?_
   replace hmk := hmk.gr (stab_rat 160) g20
   refine eff_stm (stab_rat 160) hmk k (by rw [filled_len valT 0 Xs hk]; omega) (0) (.agg #[(.bool false), (.slice none 0 0), (.bool false), (.slice none 0 0)]) [(.bool false), (.slice none 0 0), (.bool false), (.slice none 0 0)] ((Xs).length) ((Xs).length) 31 _ _ rfl rfl rfl rfl rfl (by kernel_rfl) rfl ⟨rfl, rfl, rfl, rfl, trivial⟩ ⟨_, _, _, _, rfl, (IsRat.zero _ (k := 64) (Nat.le_refl _)).mono (by omega)⟩ (by decide) (fun w21 st21 kt21 mk21 => ?_)
   replace hB := st21.gr hB q3
   refine sv 9 (.int .i64 (ck2 ((Xs).getD k []) 40)) ?_
   simp only [p3, p4]
   refine sq_nil ?_
   refine k14 _ _ ?_
   try clear k14 K14
   refine wp_seq_k (fun K22 k22 => ?_)
   refine rg [0, 1] ?_
   refine sv 29 (.int .i64 (ck2 ((Xs).getD k []) 40)) ?_
   simp only [p3, p4]
   have hb23 : ((ck2 ((Xs).getD k []) 40 != (0 : Int))) = true := (by simpa using hc1)
   refine sw 30 (.bool true) rfl (RunV.bool (x := (ck2 ((Xs).getD k []) 40 != (0 : Int))) (rvk (by kernel_rfl)) hb23) ?_
   simp only [p3, p4]
   refine sq_nil ?_
   refine k22 _ _ ?_
   try clear k22 K22
   refine wp_cond_true rfl ?_
   refine wp_seq_k (fun K24 k24 => ?_)
   refine rg [0, 1, 2] ?_
   refine sv 31 (.int .i64 (ck2 ((Xs).getD k []) 40)) ?_
   simp only [p3, p4]
   refine sv 4 (.slice none 0 0) ?_
   simp only [p3, p4]
   refine sv 5 (.int .i64 (ck2 ((Xs).getD k []) 40)) ?_
   simp only [p3, p4]
   refine sq_nil ?_
   refine k24 _ _ ?_
   try clear k24 K24
   refine wp_ret ?_
   simp only [Exit.then, Exit.inBlock]
   refine bodyPost_ret (v := (.tuple #[(.slice none 0 0), (.int .i64 (ck2 ((Xs).getD k []) 40))])) (ret_tmp2 rfl rfl rfl) rfl ⟨?_, hB⟩
   have hz := ferr_mid (by omega) hall hc1
   exact ⟨_, by rw [hz], fun h => absurd (hz.symm.trans h) hc1, fun _ => rfl⟩
 ·have hge := of_decide_eq_false hb9
  have hkk : k = (Xs).length := by omega
  refine wp_exit ?_
  simp only [Exit.then, Exit.inBlock, ↓reduceIte]
  refine k4 _ _ ?_
  try clear k4 K4
  refine wp_seq_k (fun K25 k25 => ?_)
  refine rg [0, 1, 2] ?_
  refine sv 33 (.slice (some ⟨b3, 0, none⟩) (Xs).length (Xs).length) ?_
  simp only [p3, p4]
  refine sv 4 (.slice (some ⟨b3, 0, none⟩) (Xs).length (Xs).length) ?_
  simp only [p3, p4]
  refine sv 5 (.int .i64 0) ?_
  simp only [p3, p4]
  refine sq_nil ?_
  refine k25 _ _ ?_
  try clear k25 K25
  refine wp_ret ?_
  refine bodyPost_ret (v := (.tuple #[(.slice (some ⟨b3, 0, none⟩) (Xs).length (Xs).length), (.int .i64 0)])) (ret_tmp2 rfl rfl rfl) rfl ⟨?_, hB⟩
  have hS := (hmk.sl_n (filled_len valT 0 Xs hk) (Nat.le_refl _))
  subst hkk
  have hz := ferr_none hall
  rw [filled_all] at hS
  exact ⟨_, by rw [hz], fun _ => hS, fun h => absurd hz h⟩

set_option maxRecDepth 100000 in
set_option maxHeartbeats 1000000 in
theorem reads_l (v : Value) (Xs : List (List UInt8)) (hn : Xs.length ≤ 8) (hl : ∀ j, (Xs.getD j []).length ≤ 40) {w : World} (hs : Sl ETxt 42 1 w v Xs) (hm : Mx w) :
    Calls Tryz.prog 70 #[v] w fun e w' => (∃ u, e = .returned (.tuple #[u, .int .i64 (ferr Xs)]) ∧ (ferr Xs = 0 → Sl (ERat 160) 31 4 w' u (Xs.map valT)) ∧ (ferr Xs ≠ 0 → u = .slice none 0 0)) ∧ Gr w w' := by
 go_enter Tryz.func70, Tryz.ntmps70
 have hB := Gr.refl w
 refine wp_seq_k (fun K1 k1 => ?_)
 refine rg [0, 1] ?_
 refine sv 2 (.slice none 0 0) ?_
 simp only [p3, p4]
 refine sv 3 (.int .i64 0) ?_
 simp only [p3, p4]
 refine sq_nil ?_
 refine k1 _ _ ?_
 try clear k1 K1
 refine wp_seq_k (fun K2 k2 => ?_)
 refine rg [0, 1, 2, 3, 4, 5] ?_
 refine sv 4 v ?_
 simp only [p3, p4]
 refine se ?_
 refine ec 5 (all_rz v Xs hn hl (hs.gr stab_txt hB) (hm.gr hB)) ?_
 rintro e3 w3 ⟨⟨u3, rfl, hy3, hz3⟩, g3⟩
 refine ⟨_, rfl, ?_⟩
 replace hB := hB.trans g3
 simp only [p3, p4]
 refine sv 6 u3 ?_
 simp only [p3, p4]
 refine sv 7 (.int .i64 (ferr Xs)) ?_
 simp only [p3, p4]
 refine sv 2 u3 ?_
 simp only [p3, p4]
 refine sv 3 (.int .i64 (ferr Xs)) ?_
 simp only [p3, p4]
 refine sq_nil ?_
 refine k2 _ _ ?_
 try clear k2 K2
 refine wp_ret ?_
 refine bodyPost_ret (v := (.tuple #[u3, (.int .i64 (ferr Xs))])) (ret_tmp2 rfl rfl rfl) rfl ⟨?_, hB⟩
 exact ⟨_, rfl, fun h => by have := hy3 h; exact this, hz3⟩

set_option maxRecDepth 100000 in
set_option maxHeartbeats 1000000 in
theorem equal_txt (v u : Value) (Xs : List (List UInt8)) (_hn : Xs.length ≤ 1000) {w : World} (hs : Sl ETxt 42 1 w v Xs) (hu : Sl ETxt 42 1 w u Xs) :
    Calls Tryz.prog 71 #[v, u] w fun e w' => e = .returned (.bool true) ∧ Gr w w' := by
 go_enter Tryz.func71, Tryz.ntmps71
 have hB := Gr.refl w
 refine wp_seq_k (fun K1 k1 => ?_)
 refine rg [0] ?_
 refine sv 4 (.bool false) ?_
 simp only [p3, p4]
 refine sq_nil ?_
 refine k1 _ _ ?_
 try clear k1 K1
 refine wp_seq_k (fun K2 k2 => ?_)
 refine wp_seq_k (fun K3 k3 => ?_)
 refine rg [0, 1, 2, 3, 4] ?_
 refine sv 6 v ?_
 simp only [p3, p4]
 refine sw 7 (.int .i64 (((Xs).length : Int))) rfl (rv_len (e := 42) hs _ _ rfl rfl (by kernel_rfl)) ?_
 simp only [p3, p4]
 refine sv 8 u ?_
 simp only [p3, p4]
 refine sw 9 (.int .i64 (((Xs).length : Int))) rfl (rv_len (e := 42) hu _ _ rfl rfl (by kernel_rfl)) ?_
 simp only [p3, p4]
 have hb4 : ((((Xs).length : Int) != ((Xs).length : Int))) = false := (by simp)
 refine sw 10 (.bool false) rfl (RunV.bool (x := (((Xs).length : Int) != ((Xs).length : Int))) (rvk (by kernel_rfl)) hb4) ?_
 simp only [p3, p4]
 refine sq_nil ?_
 refine k3 _ _ ?_
 try clear k3 K3
 refine wp_cond_false rfl ?_
 refine wp_skip ?_
 refine k2 _ _ ?_
 try clear k2 K2
 refine wp_seq_k (fun K5 k5 => ?_)
 refine wp_seq_k (fun K6 k6 => ?_)
 refine rg [0, 1, 2] ?_
 refine sv 11 v ?_
 simp only [p3, p4]
 refine sw 12 (.int .i64 (((Xs).length : Int))) rfl (rv_len (e := 42) hs _ _ rfl rfl (by kernel_rfl)) ?_
 simp only [p3, p4]
 refine sv 13 (.int .i64 0) ?_
 simp only [p3, p4]
 refine sq_nil ?_
 refine k6 _ _ ?_
 try clear k6 K6
 refine wp_block ?_
 refine wp_loop_inv (a := ⟨List.toArray ?l7, []⟩) (fun n a w' => ∃ (k : Nat) (u7 : Nat → Value), (Xs).length - k = n ∧ a = ⟨[v, u, undef, undef, (u7 4), (u7 5), (u7 6), (u7 7), (u7 8), (u7 9), (.bool false), (u7 11), (.int .i64 (((Xs).length : Int))), (.int .i64 ((k : Int))), (u7 14), (u7 15), (u7 16), (u7 17), (u7 18), (u7 19), (u7 20), (u7 21), (u7 22), (u7 23), (u7 24), (u7 25)].toArray, []⟩ ∧ k ≤ (Xs).length ∧ Gr w w') ((Xs).length - 0) ?_ ?_
 ·exact ⟨0, (fun i => List.getD ?l7 i undef), rfl, rfl, (Nat.zero_le _), hB⟩
 rintro n7 a7 w7 ⟨k, u7, rfl, rfl, hk, hB⟩ K7 k7
 refine wp_seq_k (fun K8 k8 => ?_)
 refine rg [0] ?_
 refine sv 14 (.bool (decide ((k : Int) < ((Xs).length : Int)))) ?_
 simp only [p3, p4]
 refine sq_nil ?_
 refine k8 _ _ ?_
 try clear k8 K8
 refine wp_seq_k (fun K9 k9 => ?_)
 refine wp_cond_split (t := decide ((k : Int) < ((Xs).length : Int))) rfl (fun hb10 => ?_) (fun hb10 => ?_)
 ·have hlt := of_decide_eq_true hb10
  refine wp_skip ?_
  refine k9 _ _ ?_
  try clear k9 K9
  refine wp_seq_k (fun K11 k11 => ?_)
  refine wp_block ?_
  refine wp_seq_k (fun K12 k12 => ?_)
  refine rg [0, 1] ?_
  refine sv 15 (.int .i64 ((k : Int))) ?_
  simp only [p3, p4]
  refine sv 5 (.int .i64 ((k : Int))) ?_
  simp only [p3, p4]
  refine sq_nil ?_
  refine k12 _ _ ?_
  try clear k12 K12
  refine wp_seq_k (fun K13 k13 => ?_)
  obtain ⟨_, _, rfl, at16⟩ := (hs.gr stab_txt hB).get (by decide) (getD_some (d := ([] : List UInt8)) (i := k) (xs := Xs) (by omega))
  obtain ⟨_, _, rfl, at17⟩ := (hu.gr stab_txt hB).get (by decide) (getD_some (d := ([] : List UInt8)) (i := k) (xs := Xs) (by omega))
  have gd18 := Gr.drew w7
  replace hB := hB.trans gd18
  replace at16 := at16.gr gd18
  replace at17 := at17.gr gd18
  refine wp_region_ord (fun w' => AtV w' v (k * 1) [(.string ⟨((Xs).getD k [] : List UInt8).toArray⟩)] ∧ AtV w' u (k * 1) [(.string ⟨((Xs).getD k [] : List UInt8).toArray⟩)]) [(true, 0), (true, 1), (true, 2), (true, 3), (true, 4), (true, 5), (true, 6), (true, 7), (true, 8)] (by kernel_rfl) (by kernel_rfl) (by kernel_rfl) (by decide) (fun _ _ _ _ _ h => h) ⟨at16, at17⟩ ?_
  refine ov 16 v ?_
  simp only [p3, p4]
  refine ov 17 (.int .i64 ((k : Int))) ?_
  simp only [p3, p4]
  refine ow 18 (adr v (k * 1)) rfl (fun w' hS => (rv_idx (e := 42) hs (by decide) k (by omega) _ _ _ rfl rfl rfl (by kernel_rfl) (by kernel_rfl))) ?_
  simp only [p3, p4]
  refine ow 19 (.string ⟨((Xs).getD k [] : List UInt8).toArray⟩) rfl (fun w' hS => (rv_ld1 (.string ⟨((Xs).getD k [] : List UInt8).toArray⟩) hS.1 _ _ rfl rfl (by kernel_rfl))) ?_
  simp only [p3, p4]
  refine ov 20 u ?_
  simp only [p3, p4]
  refine ov 21 (.int .i64 ((k : Int))) ?_
  simp only [p3, p4]
  refine ow 22 (adr u (k * 1)) rfl (fun w' hS => (rv_idx (e := 42) hu (by decide) k (by omega) _ _ _ rfl rfl rfl (by kernel_rfl) (by kernel_rfl))) ?_
  simp only [p3, p4]
  refine ow 23 (.string ⟨((Xs).getD k [] : List UInt8).toArray⟩) rfl (fun w' hS => (rv_ld1 (.string ⟨((Xs).getD k [] : List UInt8).toArray⟩) hS.2 _ _ rfl rfl (by kernel_rfl))) ?_
  simp only [p3, p4]
  have hb19 : ((((Xs).getD k []) != ((Xs).getD k []))) = false := (by simp)
  refine ow 24 (.bool false) rfl (fun w' hS => (RunV.bool (x := (((Xs).getD k []) != ((Xs).getD k []))) (rv_sne 42 42 _ _ ((Xs).getD k []) ((Xs).getD k []) rfl rfl rfl) hb19)) ?_
  simp only [p3, p4]
  refine ord_nil ?_
  refine k13 _ _ ?_
  try clear k13 K13
  refine wp_cond_false rfl ?_
  refine wp_skip ?_
  refine k11 _ _ ?_
  try clear k11 K11
  refine rg [0, 1] ?_
  refine sw 25 (.int .i64 (((k : Int) + 1))) rfl (RunV.int (x := IntKind.i64.wrap (((k : Int) + 1))) (y := ((k : Int) + 1)) (rvk (by kernel_rfl)) (by first | rfl | (rw [IntKind.wrap_i64]; omega))) ?_
  simp only [p3, p4]
  refine sv 13 (.int .i64 (((k : Int) + 1))) ?_
  simp only [p3, p4]
  refine sq_nil ?_
  refine k7 ((Xs).length - (k + 1)) ⟨List.toArray ?l20, []⟩ _ (by omega) ?_
  exact ⟨k + 1, (fun i => List.getD ?l20 i undef), rfl, rfl, (by omega), hB⟩
 ·have hge := of_decide_eq_false hb10
  have hkk : k = (Xs).length := by omega
  refine wp_exit ?_
  simp only [Exit.then, Exit.inBlock, ↓reduceIte]
  refine k5 _ _ ?_
  try clear k5 K5
  refine wp_seq_k (fun K21 k21 => ?_)
  refine rg [0] ?_
  refine sv 4 (.bool true) ?_
  simp only [p3, p4]
  refine sq_nil ?_
  refine k21 _ _ ?_
  try clear k21 K21
  refine wp_ret ?_
  refine bodyPost_ret (v := (.bool true)) (ret_tmp rfl rfl) rfl ⟨?_, hB⟩
  exact rfl

set_option maxRecDepth 100000 in
set_option maxHeartbeats 1000000 in
theorem numbers_l (v : Value) (Xs : List Rat) (_hn : Xs.length ≤ 8) {w : World} (hs : Sl (ERat 160) 31 4 w v Xs) (ht : Tab w) :
    Calls Tryz.prog 72 #[v] w fun e w' => (∃ u, e = .returned u ∧ Sl ETxt 42 1 w' u (Xs.map ratL)) ∧ Gr w w' := by
 go_enter Tryz.func72, Tryz.ntmps72
 have hB := Gr.refl w
 refine wp_seq_k (fun K1 k1 => ?_)
 refine rg [0] ?_
 refine sv 2 (.slice none 0 0) ?_
 simp only [p3, p4]
 refine sq_nil ?_
 refine k1 _ _ ?_
 try clear k1 K1
 refine wp_seq_k (fun K2 k2 => ?_)
 refine rg [0, 1, 2, 3] ?_
 refine sv 6 v ?_
 simp only [p3, p4]
 refine sw 7 (.int .i64 (((Xs).length : Int))) rfl (rv_len (e := 31) hs _ _ rfl rfl (by kernel_rfl)) ?_
 simp only [p3, p4]
 refine se ?_
 refine eff_mk (E := ETxt) ([] : List UInt8) 71 42 (.string ⟨([] : List UInt8).toArray⟩) (Xs).length 1 16 (some 8) rfl rfl rfl rfl (by kernel_rfl) (by kernel_rfl) (by decide) (by omega) (by decide) (fun _ => rfl) (fun b3 w3 g3 mk3 q3 => ?_)
 replace q3 := Nat.le_trans (Below.size hB) q3
 replace hB := hB.trans g3
 simp only [putl, p3, p4]
 refine sv 3 (.slice (some ⟨b3, 0, none⟩) (Xs).length (Xs).length) ?_
 simp only [p3, p4]
 refine sq_nil ?_
 refine k2 _ _ ?_
 try clear k2 K2
 refine wp_seq_k (fun K4 k4 => ?_)
 refine wp_seq_k (fun K5 k5 => ?_)
 refine rg [0, 1, 2] ?_
 refine sv 9 v ?_
 simp only [p3, p4]
 refine sw 10 (.int .i64 (((Xs).length : Int))) rfl (rv_len (e := 31) hs _ _ rfl rfl (by kernel_rfl)) ?_
 simp only [p3, p4]
 refine sv 11 (.int .i64 0) ?_
 simp only [p3, p4]
 refine sq_nil ?_
 refine k5 _ _ ?_
 try clear k5 K5
 refine wp_block ?_
 refine wp_loop_inv (a := ⟨List.toArray ?l6, []⟩) (fun n a w' => ∃ (k : Nat) (u6 : Nat → Value), (Xs).length - k = n ∧ a = ⟨[v, undef, (.slice none 0 0), (.slice (some ⟨b3, 0, none⟩) (Xs).length (Xs).length), (u6 4), (u6 5), (u6 6), (u6 7), (u6 8), v, (.int .i64 (((Xs).length : Int))), (.int .i64 ((k : Int))), (u6 12), (u6 13), (u6 14), (u6 15), (u6 16), (u6 17), (u6 18), (u6 19), (u6 20), (u6 21), undef].toArray, []⟩ ∧ k ≤ (Xs).length ∧ Mk ETxt 42 1 w' b3 (filled ratL [] Xs k) ∧ Gr w w') ((Xs).length - 0) ?_ ?_
 ·exact ⟨0, (fun i => List.getD ?l6 i undef), rfl, rfl, (Nat.zero_le _), (by rw [filled_zero]; exact mk3), hB⟩
 rintro n6 a6 w6 ⟨k, u6, rfl, rfl, hk, hmk, hB⟩ K6 k6
 refine wp_seq_k (fun K7 k7 => ?_)
 refine rg [0] ?_
 refine sv 12 (.bool (decide ((k : Int) < ((Xs).length : Int)))) ?_
 simp only [p3, p4]
 refine sq_nil ?_
 refine k7 _ _ ?_
 try clear k7 K7
 refine wp_seq_k (fun K8 k8 => ?_)
 refine wp_cond_split (t := decide ((k : Int) < ((Xs).length : Int))) rfl (fun hb9 => ?_) (fun hb9 => ?_)
 ·have hlt := of_decide_eq_true hb9
  refine wp_skip ?_
  refine k8 _ _ ?_
  try clear k8 K8
  refine wp_seq_k (fun K10 k10 => ?_)
  refine wp_block ?_
  refine wp_seq_k (fun K11 k11 => ?_)
  refine rg [0, 1, 2, 3, 4, 5] ?_
  refine sv 13 (.int .i64 ((k : Int))) ?_
  simp only [p3, p4]
  refine sw 14 (adr v (k * 4)) rfl (rv_idx (e := 31) hs (by decide) k (by omega) _ _ _ rfl rfl rfl (by kernel_rfl) (by kernel_rfl)) ?_
  simp only [p3, p4]
  obtain ⟨_, _, ⟨cA12, cB12, cC12, cD12, rfl, h12⟩, at12⟩ := (hs.gr (stab_rat 160) hB).get (by decide) (getD_some (d := (0 : Rat)) (i := k) (xs := Xs) (by omega))
  refine sw 15 (.agg #[cA12, cB12, cC12, cD12]) rfl (rv_ldn [cA12, cB12, cC12, cD12] at12 _ _ rfl rfl (by kernel_rfl)) ?_
  simp only [p3, p4]
  refine se ?_
  refine ea 31 #[(.bool false), (.slice none 0 0), (.bool false), (.slice none 0 0)] 5 hB fun b13 w13 g13 L13 o13 q13 hB => ?_
  simp only [p3, p4]
  refine sv 4 (.int .i64 ((k : Int))) ?_
  simp only [p3, p4]
  refine se ?_
  have lo14 := L13
  refine es 31 0 (.agg #[cA12, cB12, cC12, cD12]) [cA12, cB12, cC12, cD12] #[cA12, cB12, cC12, cD12] L13 hB q13 ⟨h12.one0, h12.one1, h12.one2, h12.one3, trivial⟩ fun w14 st14 kp14 L13 hB => ?_
  refine sq_nil ?_
  refine k11 _ _ ?_
  try clear k11 K11
  refine rg [0, 1, 2, 3, 4, 5] ?_
  refine sv 16 (.slice (some ⟨b3, 0, none⟩) (Xs).length (Xs).length) ?_
  simp only [p3, p4]
  refine sv 17 (.int .i64 ((k : Int))) ?_
  simp only [p3, p4]
  refine sw 18 (.agg #[cA12, cB12, cC12, cD12]) rfl (rl 31 0 [cA12, cB12, cC12, cD12] L13) ?_
  simp only [p3, p4]
  refine se ?_
  have kq16 := g13.kp.trans kp14
  replace h12 := h12.kp kq16
  refine ec 19 (number_r h12 (by omega) (ht.gr hB)) ?_
  rintro e15 w15 ⟨rfl, g15⟩
  refine ⟨_, rfl, ?_⟩
  replace hB := hB.trans g15
  simp only [p3, p4]
  refine sw 20 (adr (.slice (some ⟨b3, 0, none⟩) (Xs).length (Xs).length) (k * 1)) rfl (rv_idx (e := 42) (hmk.sl_n (filled_len ratL [] Xs hk) (Nat.le_refl _)) (by decide) k (by rw [filled_len ratL [] Xs hk]; omega) _ _ _ rfl rfl rfl (by kernel_rfl) (by kernel_rfl)) ?_
  simp only [p3, p4]
  refine se ?_
  replace hmk := ((hmk.gr stab_txt g13).kts stab_txt (st14.kts lo14 (by decide))).gr stab_txt g15
  refine eff_stm stab_txt hmk k (by rw [filled_len ratL [] Xs hk]; omega) (ratL (((Xs).getD k 0)) : List UInt8) (.string ⟨(ratL (((Xs).getD k 0)) : List UInt8).toArray⟩) [(.string ⟨(ratL (((Xs).getD k 0)) : List UInt8).toArray⟩)] ((Xs).length) ((Xs).length) 42 _ _ rfl rfl rfl rfl rfl (by kernel_rfl) rfl ⟨rfl, trivial⟩ rfl (by decide) (fun w17 st17 kt17 mk17 => ?_)
  replace hB := st17.gr hB q3
  refine sq_nil ?_
  refine k10 _ _ ?_
  try clear k10 K10
  refine rg [0, 1] ?_
  refine sw 21 (.int .i64 (((k : Int) + 1))) rfl (RunV.int (x := IntKind.i64.wrap (((k : Int) + 1))) (y := ((k : Int) + 1)) (rvk (by kernel_rfl)) (by first | rfl | (rw [IntKind.wrap_i64]; omega))) ?_
  simp only [p3, p4]
  refine sv 11 (.int .i64 (((k : Int) + 1))) ?_
  simp only [p3, p4]
  refine sq_nil ?_
  refine k6 ((Xs).length - (k + 1)) ⟨List.toArray ?l18, []⟩ _ (by omega) ?_
  exact ⟨k + 1, (fun i => List.getD ?l18 i undef), rfl, rfl, (by omega), (by rw [← filled_set ratL [] 0 (by omega) rfl]; exact mk17), hB⟩
 ·have hge := of_decide_eq_false hb9
  have hkk : k = (Xs).length := by omega
  refine wp_exit ?_
  simp only [Exit.then, Exit.inBlock, ↓reduceIte]
  refine k4 _ _ ?_
  try clear k4 K4
  refine wp_seq_k (fun K19 k19 => ?_)
  refine rg [0, 1] ?_
  refine sv 22 (.slice (some ⟨b3, 0, none⟩) (Xs).length (Xs).length) ?_
  simp only [p3, p4]
  refine sv 2 (.slice (some ⟨b3, 0, none⟩) (Xs).length (Xs).length) ?_
  simp only [p3, p4]
  refine sq_nil ?_
  refine k19 _ _ ?_
  try clear k19 K19
  refine wp_ret ?_
  refine bodyPost_ret (v := (.slice (some ⟨b3, 0, none⟩) (Xs).length (Xs).length)) (ret_tmp rfl rfl) rfl ⟨?_, hB⟩
  have hS := (hmk.sl_n (filled_len ratL [] Xs hk) (Nat.le_refl _))
  subst hkk
  rw [filled_all] at hS
  exact ⟨_, rfl, hS⟩

set_option maxRecDepth 100000 in
set_option maxHeartbeats 1000000 in
theorem clone_nil (w : World) :
    Calls Tryz.prog 68 #[(.slice none 0 0)] w fun e w' => e = .returned (.slice none 0 0) ∧ Gr w w' := by
 go_enter Tryz.func68, Tryz.ntmps68
 have hB := Gr.refl w
 refine wp_seq_k (fun K1 k1 => ?_)
 refine rg [0] ?_
 refine sv 2 (.slice none 0 0) ?_
 simp only [p3, p4]
 refine sq_nil ?_
 refine k1 _ _ ?_
 try clear k1 K1
 refine wp_seq_k (fun K2 k2 => ?_)
 refine wp_seq_k (fun K3 k3 => ?_)
 refine rg [0, 1] ?_
 refine sv 3 (.slice none 0 0) ?_
 simp only [p3, p4]
 refine sv 4 (.bool true) ?_
 simp only [p3, p4]
 refine sq_nil ?_
 refine k3 _ _ ?_
 try clear k3 K3
 refine wp_cond_true rfl ?_
 refine wp_seq_k (fun K4 k4 => ?_)
 refine rg [0] ?_
 refine sv 2 (.slice none 0 0) ?_
 simp only [p3, p4]
 refine sq_nil ?_
 refine k4 _ _ ?_
 try clear k4 K4
 refine wp_ret ?_
 simp only [Exit.then]
 refine bodyPost_ret (v := (.slice none 0 0)) (ret_tmp rfl rfl) rfl ⟨?_, hB⟩
 exact rfl

set_option maxRecDepth 100000 in
set_option maxHeartbeats 1000000 in
theorem clone_some (bx ox cx : Nat) (Xs : List (List UInt8)) (_hn : Xs.length ≤ 1000) {w : World} (hs : Sl ETxt 42 1 w (.slice (some ⟨bx, ox, none⟩) (Xs).length cx) Xs) :
    Calls Tryz.prog 68 #[(.slice (some ⟨bx, ox, none⟩) (Xs).length cx)] w fun e w' => (∃ u, e = .returned u ∧ Sl ETxt 42 1 w' u Xs) ∧ Gr w w' := by
 go_enter Tryz.func68, Tryz.ntmps68
 have hB := Gr.refl w
 refine wp_seq_k (fun K1 k1 => ?_)
 refine rg [0] ?_
 refine sv 2 (.slice none 0 0) ?_
 simp only [p3, p4]
 refine sq_nil ?_
 refine k1 _ _ ?_
 try clear k1 K1
 refine wp_seq_k (fun K2 k2 => ?_)
 refine wp_seq_k (fun K3 k3 => ?_)
 refine rg [0, 1] ?_
 refine sv 3 (.slice (some ⟨bx, ox, none⟩) (Xs).length cx) ?_
 simp only [p3, p4]
 refine sv 4 (.bool false) ?_
 simp only [p3, p4]
 refine sq_nil ?_
 refine k3 _ _ ?_
 try clear k3 K3
 refine wp_cond_false rfl ?_
 refine wp_skip ?_
 refine k2 _ _ ?_
 try clear k2 K2
 refine wp_seq_k (fun K4 k4 => ?_)
 refine rg [0, 1, 2, 3] ?_
 refine se ?_
 refine eff_bs 42 0 #[] (some 5) rfl (fun _ => by kernel_rfl) (fun b5 w5 g5 L5 q5 => ?_)
 replace q5 := Nat.le_trans (Below.size hB) q5
 replace hB := hB.trans g5
 simp only [putl, p3, p4]
 refine sv 6 (.slice (some ⟨bx, ox, none⟩) (Xs).length cx) ?_
 simp only [p3, p4]
 refine se ?_
 refine eff_appn stab_txt _ _ 71 42 w.heap.size (.string ⟨([] : List UInt8).toArray⟩) (.slice (some ⟨b5, 0, none⟩) 0 0) [] (.slice (some ⟨bx, ox, none⟩) (Xs).length cx) Xs 1 (some 7) 16 rfl rfl rfl rfl (ow_empty L5 q5) (hs.gr stab_txt hB) bx ox cx rfl (one_txt _) w hB (Nat.le_refl _) (Below.size hB) (by simp; omega) (by decide) (by kernel_rfl) (by kernel_rfl) (by decide) (by decide) (fun v6 w6 ow6 wt6 hb6 => ?_)
 replace hB := hb6
 simp only [putl, p3, p4]
 refine sv 2 v6 ?_
 simp only [p3, p4]
 refine sq_nil ?_
 refine k4 _ _ ?_
 try clear k4 K4
 refine wp_ret ?_
 refine bodyPost_ret (v := v6) (ret_tmp rfl rfl) rfl ⟨?_, hB⟩
 exact ⟨_, rfl, ow6.sl⟩

theorem clone_txt {B : Nat} {v : Value} {Xs : List (List UInt8)} {w : World} (h : Ow ETxt 42 1 w B v Xs) (hn : Xs.length ≤ 1000) :
    Calls Tryz.prog 68 #[v] w fun e w' => (∃ u, e = .returned u ∧ Sl ETxt 42 1 w' u Xs) ∧ Gr w w' := by
  have hs := h.sl
  obtain ⟨ys, h1, _⟩ := h
  rcases h1.2 with ⟨rfl, h0⟩ | ⟨g, cap, cur, rfl, _⟩
  · obtain rfl := List.length_eq_zero_iff.1 h0
    refine (clone_nil w).mono ?_
    rintro e w1 ⟨he, g⟩
    exact ⟨⟨_, he, Sl.nil ..⟩, g⟩
  · exact clone_some g 0 cap Xs hn hs

set_option maxRecDepth 100000 in
set_option maxHeartbeats 1000000 in
theorem lists_l {TT : Nat} (v : Value) (Xs : List (List UInt8)) (w : World) (ht : Tab w) (_hm : Mx w) (hs : Sl ETxt TT 1 w v Xs) (hb8 : decide ((8 : Int) < ((Xs).length : Int)) = true) :
    Calls Tryz.prog 13 #[v] w fun e w' => e = .returned (.bool true) ∧ Gr w w' := by
 go_enter Tryz.func13, Tryz.ntmps13
 have hB := Gr.refl w
 refine wp_seq_k (fun K1 k1 => ?_)
 refine rg [0] ?_
 refine sv 2 (.bool false) ?_
 simp only [p3, p4]
 refine sq_nil ?_
 refine k1 _ _ ?_
 try clear k1 K1
 refine wp_seq_k (fun K2 k2 => ?_)
 refine wp_seq_k (fun K3 k3 => ?_)
 refine rg [0, 1, 2, 3, 4, 5, 6, 7, 8, 9, 10] ?_
 refine se ?_
 refine ec 12 (known2 _ (ht.gr hB)) ?_
 rintro e4 w4 ⟨rfl, g4⟩
 refine ⟨_, rfl, ?_⟩
 replace hB := hB.trans g4
 simp only [p3, p4]
 refine sv 13 (.bool false) ?_
 simp only [p3, p4]
 refine sv 14 (.bool false) ?_
 simp only [p3, p4]
 refine sv 15 v ?_
 simp only [p3, p4]
 refine sw 16 (.int .i64 (((Xs).length : Int))) rfl (rv_len (e := 9) hs _ _ rfl rfl (by kernel_rfl)) ?_
 simp only [p3, p4]
 refine sw 17 (.bool true) rfl (RunV.bool (x := decide ((8 : Int) < ((Xs).length : Int))) (rvk (by kernel_rfl)) hb8) ?_
 simp only [p3, p4]
 refine sv 18 (.bool true) ?_
 simp only [p3, p4]
 refine sv 19 (.bool true) ?_
 simp only [p3, p4]
 refine ss 20 ?_
 simp only [p3, p4]
 refine ss 21 ?_
 simp only [p3, p4]
 refine sv 22 (.bool true) ?_
 simp only [p3, p4]
 refine sq_nil ?_
 refine k3 _ _ ?_
 try clear k3 K3
 refine wp_cond_true rfl ?_
 refine wp_seq_k (fun K5 k5 => ?_)
 refine rg [0, 1] ?_
 refine se ?_
 refine ec 23 (known2 _ (ht.gr hB)) ?_
 rintro e6 w6 ⟨rfl, g6⟩
 refine ⟨_, rfl, ?_⟩
 replace hB := hB.trans g6
 simp only [p3, p4]
 refine sv 2 (.bool true) ?_
 simp only [p3, p4]
 refine sq_nil ?_
 refine k5 _ _ ?_
 try clear k5 K5
 refine wp_ret ?_
 simp only [Exit.then]
 refine bodyPost_ret (v := (.bool true)) (ret_tmp rfl rfl) rfl ⟨?_, hB⟩
 exact rfl

set_option maxRecDepth 100000 in
set_option maxHeartbeats 1000000 in
theorem lists_b {TT : Nat} (v : Value) (Xs : List (List UInt8)) (w : World) (ht : Tab w) (_hm : Mx w) (hs : Sl ETxt TT 1 w v Xs) (h8 : Xs.length ≤ 8) (hany : (Xs).any bigT = true) :
    Calls Tryz.prog 13 #[v] w fun e w' => e = .returned (.bool true) ∧ Gr w w' := by
 have hb8 : decide ((8 : Int) < ((Xs).length : Int)) = false := by rw [decide_eq_false_iff_not]; omega
 go_enter Tryz.func13, Tryz.ntmps13
 have hB := Gr.refl w
 refine wp_seq_k (fun K1 k1 => ?_)
 refine rg [0] ?_
 refine sv 2 (.bool false) ?_
 simp only [p3, p4]
 refine sq_nil ?_
 refine k1 _ _ ?_
 try clear k1 K1
 refine wp_seq_k (fun K2 k2 => ?_)
 refine wp_seq_k (fun K3 k3 => ?_)
 refine rg [0, 1, 2, 3, 4, 5, 6, 7, 8, 9, 10] ?_
 refine se ?_
 refine ec 12 (known2 _ (ht.gr hB)) ?_
 rintro e4 w4 ⟨rfl, g4⟩
 refine ⟨_, rfl, ?_⟩
 replace hB := hB.trans g4
 simp only [p3, p4]
 refine sv 13 (.bool false) ?_
 simp only [p3, p4]
 refine sv 14 (.bool false) ?_
 simp only [p3, p4]
 refine sv 15 v ?_
 simp only [p3, p4]
 refine sw 16 (.int .i64 (((Xs).length : Int))) rfl (rv_len (e := 9) hs _ _ rfl rfl (by kernel_rfl)) ?_
 simp only [p3, p4]
 refine sw 17 (.bool false) rfl (RunV.bool (x := decide ((8 : Int) < ((Xs).length : Int))) (rvk (by kernel_rfl)) hb8) ?_
 simp only [p3, p4]
 refine sv 18 (.bool false) ?_
 simp only [p3, p4]
 refine sv 19 (.bool false) ?_
 simp only [p3, p4]
 refine sv 20 v ?_
 simp only [p3, p4]
 refine se ?_
 refine ec 21 (has_big v Xs h8 (hs.gr stab_txt hB)) ?_
 rintro e5 w5 ⟨rfl, g5⟩
 refine ⟨_, rfl, ?_⟩
 replace hB := hB.trans g5
 simp only [p3, p4]
 refine sw 22 (.bool true) rfl (RunV.bool (x := (Xs).any bigT) (rvk (by kernel_rfl)) hany) ?_
 simp only [p3, p4]
 refine sq_nil ?_
 refine k3 _ _ ?_
 try clear k3 K3
 refine wp_cond_true rfl ?_
 refine wp_seq_k (fun K6 k6 => ?_)
 refine rg [0, 1] ?_
 refine se ?_
 refine ec 23 (known2 _ (ht.gr hB)) ?_
 rintro e7 w7 ⟨rfl, g7⟩
 refine ⟨_, rfl, ?_⟩
 replace hB := hB.trans g7
 simp only [p3, p4]
 refine sv 2 (.bool true) ?_
 simp only [p3, p4]
 refine sq_nil ?_
 refine k6 _ _ ?_
 try clear k6 K6
 refine wp_ret ?_
 simp only [Exit.then]
 refine bodyPost_ret (v := (.bool true)) (ret_tmp rfl rfl) rfl ⟨?_, hB⟩
 exact rfl

set_option maxRecDepth 100000 in
set_option maxHeartbeats 1000000 in
theorem lists_z {TT : Nat} (v : Value) (Xs : List (List UInt8)) (w : World) (ht : Tab w) (hm : Mx w) (hs : Sl ETxt TT 1 w v Xs) (h8 : Xs.length ≤ 8) (hany : (Xs).any bigT = false) (hz : ferr Xs = 0) :
    Calls Tryz.prog 13 #[v] w fun e w' => e = .returned (.bool true) ∧ Gr w w' := by
 have hb8 : decide ((8 : Int) < ((Xs).length : Int)) = false := by rw [decide_eq_false_iff_not]; omega
 have hl := any_no hany
 go_enter Tryz.func13, Tryz.ntmps13
 have hB := Gr.refl w
 refine wp_seq_k (fun K1 k1 => ?_)
 refine rg [0] ?_
 refine sv 2 (.bool false) ?_
 simp only [p3, p4]
 refine sq_nil ?_
 refine k1 _ _ ?_
 try clear k1 K1
 refine wp_seq_k (fun K2 k2 => ?_)
 refine wp_seq_k (fun K3 k3 => ?_)
 refine rg [0, 1, 2, 3, 4, 5, 6, 7, 8, 9, 10] ?_
 refine se ?_
 refine ec 12 (known2 _ (ht.gr hB)) ?_
 rintro e4 w4 ⟨rfl, g4⟩
 refine ⟨_, rfl, ?_⟩
 replace hB := hB.trans g4
 simp only [p3, p4]
 refine sv 13 (.bool false) ?_
 simp only [p3, p4]
 refine sv 14 (.bool false) ?_
 simp only [p3, p4]
 refine sv 15 v ?_
 simp only [p3, p4]
 refine sw 16 (.int .i64 (((Xs).length : Int))) rfl (rv_len (e := 9) hs _ _ rfl rfl (by kernel_rfl)) ?_
 simp only [p3, p4]
 refine sw 17 (.bool false) rfl (RunV.bool (x := decide ((8 : Int) < ((Xs).length : Int))) (rvk (by kernel_rfl)) hb8) ?_
 simp only [p3, p4]
 refine sv 18 (.bool false) ?_
 simp only [p3, p4]
 refine sv 19 (.bool false) ?_
 simp only [p3, p4]
 refine sv 20 v ?_
 simp only [p3, p4]
 refine se ?_
 refine ec 21 (has_big v Xs h8 (hs.gr stab_txt hB)) ?_
 rintro e5 w5 ⟨rfl, g5⟩
 refine ⟨_, rfl, ?_⟩
 replace hB := hB.trans g5
 simp only [p3, p4]
 refine sw 22 (.bool false) rfl (RunV.bool (x := (Xs).any bigT) (rvk (by kernel_rfl)) hany) ?_
 simp only [p3, p4]
 refine sq_nil ?_
 refine k3 _ _ ?_
 try clear k3 K3
 refine wp_cond_false rfl ?_
 refine wp_skip ?_
 refine k2 _ _ ?_
 try clear k2 K2
 refine wp_seq_k (fun K6 k6 => ?_)
 refine rg [0] ?_
 refine sv 3 (.slice none 0 0) ?_
 simp only [p3, p4]
 refine sq_nil ?_
 refine k6 _ _ ?_
 try clear k6 K6
 refine wp_seq_k (fun K7 k7 => ?_)
 refine rg [0] ?_
 refine sv 4 (.int .i64 0) ?_
 simp only [p3, p4]
 refine sq_nil ?_
 refine k7 _ _ ?_
 try clear k7 K7
 refine wp_seq_k (fun K8 k8 => ?_)
 refine wp_seq_k (fun K9 k9 => ?_)
 refine rg [0, 1, 2] ?_
 refine sv 24 v ?_
 simp only [p3, p4]
 refine sw 25 (.int .i64 (((Xs).length : Int))) rfl (rv_len (e := 9) hs _ _ rfl rfl (by kernel_rfl)) ?_
 simp only [p3, p4]
 refine sv 26 (.int .i64 0) ?_
 simp only [p3, p4]
 refine sq_nil ?_
 refine k9 _ _ ?_
 try clear k9 K9
 refine wp_block ?_
 refine wp_loop_inv (a := ⟨List.toArray ?l10, []⟩) (fun n a w' => ∃ (k : Nat) (vi : Value) (wt : Int) (u10 : Nat → Value), (Xs).length - k = n ∧ a = ⟨[v, undef, (.bool false), vi, (.int .i64 (wt)), undef, (u10 6), undef, undef, undef, undef, undef, (u10 12), (u10 13), (u10 14), (u10 15), (u10 16), (u10 17), (u10 18), (u10 19), (u10 20), (u10 21), (.bool false), undef, v, (.int .i64 (((Xs).length : Int))), (.int .i64 ((k : Int))), (u10 27), (u10 28), (u10 29), (u10 30), (u10 31), (u10 32), (u10 33), (u10 34), (u10 35), (u10 36), (u10 37), (u10 38), undef, undef, undef, undef, undef, undef, undef, undef, undef, undef, undef, undef, undef, undef, undef, undef, undef, undef, undef, undef, undef, undef, undef, undef, undef, undef, undef, undef, undef, undef, undef, undef, undef, undef, undef, undef, undef, undef, undef, undef, undef, undef, undef, undef, undef, undef, undef, undef, undef, undef, undef, undef, undef, undef, undef, undef, undef, undef].toArray, []⟩ ∧ k ≤ (Xs).length ∧ wt = ferr ((Xs).take k) ∧ Ow ETxt 42 1 w' w.heap.size vi ((Xs).take k) ∧ Gr w w') ((Xs).length - 0) ?_ ?_
 ·exact ⟨0, (.slice none 0 0), 0, (fun i => List.getD ?l10 i undef), rfl, rfl, (Nat.zero_le _), (by rw [List.take_zero]; rfl), (by rw [List.take_zero]; exact Ow.nil ..), hB⟩
 rintro n10 a10 w10 ⟨k, vi, wt, u10, rfl, rfl, hk, hwt, how, hB⟩ K10 k10
 refine wp_seq_k (fun K11 k11 => ?_)
 refine rg [0] ?_
 refine sv 27 (.bool (decide ((k : Int) < ((Xs).length : Int)))) ?_
 simp only [p3, p4]
 refine sq_nil ?_
 refine k11 _ _ ?_
 try clear k11 K11
 refine wp_seq_k (fun K12 k12 => ?_)
 refine wp_cond_split (t := decide ((k : Int) < ((Xs).length : Int))) rfl (fun hb13 => ?_) (fun hb13 => ?_)
 ·have hlt := of_decide_eq_true hb13
  refine wp_skip ?_
  refine k12 _ _ ?_
  try clear k12 K12
  refine wp_seq_k (fun K14 k14 => ?_)
  refine wp_block ?_
  refine wp_seq_k (fun K15 k15 => ?_)
  refine rg [0, 1, 2] ?_
  refine sw 28 (adr v (k * 1)) rfl (rv_idx (e := 9) hs (by decide) k (by omega) _ _ _ rfl rfl rfl (by kernel_rfl) (by kernel_rfl)) ?_
  simp only [p3, p4]
  obtain ⟨_, _, rfl, at16⟩ := (hs.gr stab_txt hB).get (by decide) (getD_some (d := ([] : List UInt8)) (i := k) (xs := Xs) (by omega))
  refine sw 29 (.string ⟨((Xs).getD k [] : List UInt8).toArray⟩) rfl (rv_ld1 (.string ⟨((Xs).getD k [] : List UInt8).toArray⟩) at16 _ _ rfl rfl (by kernel_rfl)) ?_
  simp only [p3, p4]
  refine sv 6 (.string ⟨((Xs).getD k [] : List UInt8).toArray⟩) ?_
  simp only [p3, p4]
  refine sq_nil ?_
  refine k15 _ _ ?_
  try clear k15 K15
  refine wp_seq_k (fun K17 k17 => ?_)
  refine rg [0, 1, 2, 3, 4] ?_
  refine sv 30 vi ?_
  simp only [p3, p4]
  refine sv 31 (.string ⟨((Xs).getD k [] : List UInt8).toArray⟩) ?_
  simp only [p3, p4]
  refine se ?_
  refine eff_bs 42 1 #[(.string ⟨((Xs).getD k [] : List UInt8).toArray⟩)] (some 32) rfl (fun _ => by kernel_rfl) (fun b18 w18 g18 L18 q18 => ?_)
  replace hB := hB.trans g18
  simp only [putl, p3, p4]
  refine se ?_
  replace how := how.gr stab_txt g18
  refine eff_app stab_txt _ _ 71 42 w.heap.size (.string ⟨([] : List UInt8).toArray⟩) vi ((Xs).take k) b18 [(.string ⟨((Xs).getD k [] : List UInt8).toArray⟩)] ((Xs).getD k [] : List UInt8) 1 1 (some 33) 16 rfl rfl rfl rfl how L18 ⟨rfl, trivial⟩ rfl rfl w hB (Nat.le_refl _) (Below.size hB) (by have := List.length_take_le k Xs; omega) (by decide) (by kernel_rfl) (by kernel_rfl) (by decide) (by decide) (fun v19 w19 ow19 wt19 hb19 => ?_)
  replace hB := hb19
  simp only [putl, p3, p4]
  refine sv 3 v19 ?_
  simp only [p3, p4]
  refine sq_nil ?_
  refine k17 _ _ ?_
  try clear k17 K17
  refine wp_seq_k (fun K20 k20 => ?_)
  refine rg [0, 1] ?_
  refine sv 34 (.int .i64 (wt)) ?_
  simp only [p3, p4]
  refine sv 35 (.bool ((wt == (0 : Int)))) ?_
  simp only [p3, p4]
  refine sq_nil ?_
  refine k20 _ _ ?_
  try clear k20 K20
  refine wp_cond_split (t := (wt == (0 : Int))) rfl (fun hb21 => ?_) (fun hb21 => ?_)
  ·refine rg [0, 1, 2] ?_
   refine sv 36 (.string ⟨((Xs).getD k [] : List UInt8).toArray⟩) ?_
   simp only [p3, p4]
   refine se ?_
   refine ec 37 (r2_check_l ((Xs).getD k []) 40 (by have := hl k; omega) (by omega) _) ?_
   rintro e22 w22 ⟨rfl, g22⟩
   refine ⟨_, rfl, ?_⟩
   replace hB := hB.trans g22
   simp only [p3, p4]
   refine sv 4 (.int .i64 (ck2 ((Xs).getD k []) 40)) ?_
   simp only [p3, p4]
   refine sq_nil ?_
   refine k14 _ _ ?_
   try clear k14 K14
   refine rg [0, 1] ?_
   refine sw 38 (.int .i64 (((k : Int) + 1))) rfl (RunV.int (x := IntKind.i64.wrap (((k : Int) + 1))) (y := ((k : Int) + 1)) (rvk (by kernel_rfl)) (by first | rfl | (rw [IntKind.wrap_i64]; omega))) ?_
   simp only [p3, p4]
   refine sv 26 (.int .i64 (((k : Int) + 1))) ?_
   simp only [p3, p4]
   refine sq_nil ?_
   replace ow19 := ow19.gr stab_txt g22
   refine k10 ((Xs).length - (k + 1)) ⟨List.toArray ?l23, []⟩ _ (by omega) ?_
   exact ⟨k + 1, v19, ck2 ((Xs).getD k []) 40, (fun i => List.getD ?l23 i undef), rfl, rfl, (by omega), (by rw [ferr_take (by omega), if_pos (by rw [← hwt]; exact eq_of_beq hb21)]), (by rw [take_succ_getD (d := []) (by omega)]; exact ow19), hB⟩
  ·refine wp_skip ?_
   refine k14 _ _ ?_
   try clear k14 K14
   refine rg [0, 1] ?_
   refine sw 38 (.int .i64 (((k : Int) + 1))) rfl (RunV.int (x := IntKind.i64.wrap (((k : Int) + 1))) (y := ((k : Int) + 1)) (rvk (by kernel_rfl)) (by first | rfl | (rw [IntKind.wrap_i64]; omega))) ?_
   simp only [p3, p4]
   refine sv 26 (.int .i64 (((k : Int) + 1))) ?_
   simp only [p3, p4]
   refine sq_nil ?_
   refine k10 ((Xs).length - (k + 1)) ⟨List.toArray ?l24, []⟩ _ (by omega) ?_
   exact ⟨k + 1, v19, wt, (fun i => List.getD ?l24 i undef), rfl, rfl, (by omega), (by rw [ferr_take (by omega), if_neg (by rw [← hwt]; exact ne_of_beq_false hb21)]; exact hwt), (by rw [take_succ_getD (d := []) (by omega)]; exact ow19), hB⟩
 ·have hge := of_decide_eq_false hb13
  have hkk : k = (Xs).length := by omega
  refine wp_exit ?_
  simp only [Exit.then, Exit.inBlock, ↓reduceIte]
  refine k8 _ _ ?_
  try clear k8 K8
  refine wp_seq_k (fun K25 k25 => ?_)
  refine rg [0, 1, 2] ?_
  refine sv 39 vi ?_
  simp only [p3, p4]
  refine se ?_
  refine ec 40 (clone_txt (Xs := Xs) (by have h := how; rw [hkk, List.take_length] at h; exact h) (by omega)) ?_
  rintro e26 w26 ⟨⟨u26, rfl, hs26⟩, g26⟩
  refine ⟨_, rfl, ?_⟩
  replace hB := hB.trans g26
  simp only [p3, p4]
  refine sv 7 u26 ?_
  simp only [p3, p4]
  refine sq_nil ?_
  refine k25 _ _ ?_
  try clear k25 K25
  refine wp_seq_k (fun K27 k27 => ?_)
  refine rg [0, 1, 2, 3, 4, 5, 6] ?_
  refine sv 42 u26 ?_
  simp only [p3, p4]
  refine se ?_
  refine ec 43 (parses_l u26 Xs h8 hl hs26 (hm.gr hB)) ?_
  rintro e28 w28 ⟨⟨u28, rfl, hy28, hz28⟩, g28⟩
  refine ⟨_, rfl, ?_⟩
  replace hB := hB.trans g28
  have hs28 := hy28 hz
  simp only [p3, p4]
  refine sv 41 (.tuple #[u28, (.int .i64 (ferr Xs))]) ?_
  simp only [p3, p4]
  refine sv 44 u28 ?_
  simp only [p3, p4]
  refine sv 45 (.int .i64 (ferr Xs)) ?_
  simp only [p3, p4]
  refine sv 8 u28 ?_
  simp only [p3, p4]
  refine sv 9 (.int .i64 (ferr Xs)) ?_
  simp only [p3, p4]
  refine sq_nil ?_
  refine k27 _ _ ?_
  try clear k27 K27
  refine wp_seq_k (fun K29 k29 => ?_)
  refine rg [0, 1, 2, 3, 4, 5, 6] ?_
  refine sv 47 u26 ?_
  simp only [p3, p4]
  refine se ?_
  replace hs26 := hs26.gr stab_txt g28
  refine ec 48 (reads_l u26 Xs h8 hl hs26 (hm.gr hB)) ?_
  rintro e30 w30 ⟨⟨u30, rfl, hy30, hz30⟩, g30⟩
  refine ⟨_, rfl, ?_⟩
  replace hB := hB.trans g30
  have hs30 := hy30 hz
  simp only [p3, p4]
  refine sv 46 (.tuple #[u30, (.int .i64 (ferr Xs))]) ?_
  simp only [p3, p4]
  refine sv 49 u30 ?_
  simp only [p3, p4]
  refine sv 50 (.int .i64 (ferr Xs)) ?_
  simp only [p3, p4]
  refine sv 10 u30 ?_
  simp only [p3, p4]
  refine sv 11 (.int .i64 (ferr Xs)) ?_
  simp only [p3, p4]
  refine sq_nil ?_
  refine k29 _ _ ?_
  try clear k29 K29
  refine wp_seq_k (fun K31 k31 => ?_)
  refine wp_seq_k (fun K32 k32 => ?_)
  refine rg [0, 1, 2, 3, 4, 5, 6, 7, 8, 9, 10, 11, 12, 13] ?_
  refine sv 51 (.int .i64 (ferr Xs)) ?_
  simp only [p3, p4]
  refine sv 52 (.int .i64 (wt)) ?_
  simp only [p3, p4]
  have hb33 : ((ferr Xs != wt)) = false := (by rw [hwt, hkk, List.take_length]; simp)
  refine sw 53 (.bool false) rfl (RunV.bool (x := (ferr Xs != wt)) (rvk (by kernel_rfl)) hb33) ?_
  simp only [p3, p4]
  refine sv 54 (.bool false) ?_
  simp only [p3, p4]
  refine sv 55 (.int .i64 (ferr Xs)) ?_
  simp only [p3, p4]
  refine sv 56 (.int .i64 (wt)) ?_
  simp only [p3, p4]
  refine sw 57 (.bool false) rfl (RunV.bool (x := (ferr Xs != wt)) (rvk (by kernel_rfl)) hb33) ?_
  simp only [p3, p4]
  refine sv 58 (.bool false) ?_
  simp only [p3, p4]
  refine sv 59 (.bool false) ?_
  simp only [p3, p4]
  refine sv 60 u26 ?_
  simp only [p3, p4]
  refine sv 61 vi ?_
  simp only [p3, p4]
  refine se ?_
  replace hs26 := hs26.gr stab_txt g30
  replace how := how.gr stab_txt (g26.trans (g28.trans g30))
  refine ec 62 (equal_txt u26 vi Xs (by omega) hs26 (Ow.sl (by have h := how; rw [hkk, List.take_length] at h; exact h))) ?_
  rintro e34 w34 ⟨rfl, g34⟩
  refine ⟨_, rfl, ?_⟩
  replace hB := hB.trans g34
  simp only [p3, p4]
  refine sv 63 (.bool false) ?_
  simp only [p3, p4]
  refine sv 64 (.bool false) ?_
  simp only [p3, p4]
  refine sq_nil ?_
  refine k32 _ _ ?_
  try clear k32 K32
  refine wp_cond_false rfl ?_
  refine wp_skip ?_
  refine k31 _ _ ?_
  try clear k31 K31
  refine wp_seq_k (fun K35 k35 => ?_)
  refine wp_seq_k (fun K36 k36 => ?_)
  refine rg [0, 1] ?_
  refine sv 65 (.int .i64 (wt)) ?_
  simp only [p3, p4]
  have hb37 : ((wt != (0 : Int))) = false := (by rw [hwt, hkk, List.take_length, hz]; rfl)
  refine sw 66 (.bool false) rfl (RunV.bool (x := (wt != (0 : Int))) (rvk (by kernel_rfl)) hb37) ?_
  simp only [p3, p4]
  refine sq_nil ?_
  refine k36 _ _ ?_
  try clear k36 K36
  refine wp_cond_false rfl ?_
  refine wp_skip ?_
  refine k35 _ _ ?_
  try clear k35 K35
  refine wp_seq_k (fun K38 k38 => ?_)
  refine rg [0, 1, 2, 3, 4, 5, 6, 7, 8, 9, 10, 11, 12, 13, 14, 15, 16, 17, 18, 19, 20, 21, 22, 23, 24] ?_
  refine sv 73 u28 ?_
  simp only [p3, p4]
  refine sw 74 (.int .i64 (((((Xs).map valT)).length : Int))) rfl (rv_len (e := 31) hs28 _ _ rfl rfl (by kernel_rfl)) ?_
  simp only [p3, p4]
  refine sv 75 v ?_
  simp only [p3, p4]
  refine sw 76 (.int .i64 (((Xs).length : Int))) rfl (rv_len (e := 9) hs _ _ rfl rfl (by kernel_rfl)) ?_
  simp only [p3, p4]
  have hb39 : ((((((Xs).map valT)).length : Int) == ((Xs).length : Int))) = true := (by simp)
  refine sw 77 (.bool true) rfl (RunV.bool (x := (((((Xs).map valT)).length : Int) == ((Xs).length : Int))) (rvk (by kernel_rfl)) hb39) ?_
  simp only [p3, p4]
  refine sv 78 (.bool true) ?_
  simp only [p3, p4]
  refine sv 79 u30 ?_
  simp only [p3, p4]
  refine sw 80 (.int .i64 (((((Xs).map valT)).length : Int))) rfl (rv_len (e := 31) hs30 _ _ rfl rfl (by kernel_rfl)) ?_
  simp only [p3, p4]
  refine sv 81 v ?_
  simp only [p3, p4]
  refine sw 82 (.int .i64 (((Xs).length : Int))) rfl (rv_len (e := 9) hs _ _ rfl rfl (by kernel_rfl)) ?_
  simp only [p3, p4]
  refine sw 83 (.bool true) rfl (RunV.bool (x := (((((Xs).map valT)).length : Int) == ((Xs).length : Int))) (rvk (by kernel_rfl)) hb39) ?_
  simp only [p3, p4]
  refine sv 84 (.bool true) ?_
  simp only [p3, p4]
  refine sv 85 (.bool true) ?_
  simp only [p3, p4]
  refine sv 86 u28 ?_
  simp only [p3, p4]
  refine se ?_
  replace hs28 := hs28.gr (stab_rat 160) (g30.trans g34)
  refine ec 87 (numbers_l u28 ((Xs).map valT) (by rw [List.length_map]; omega) hs28 (ht.gr hB)) ?_
  rintro e40 w40 ⟨⟨u40, rfl, hs40⟩, g40⟩
  refine ⟨_, rfl, ?_⟩
  replace hB := hB.trans g40
  rw [map_valT hz] at hs40
  simp only [p3, p4]
  refine sv 88 vi ?_
  simp only [p3, p4]
  refine se ?_
  replace how := how.gr stab_txt (g34.trans g40)
  refine ec 89 (equal_txt u40 vi Xs (by omega) hs40 (Ow.sl (by have h := how; rw [hkk, List.take_length] at h; exact h))) ?_
  rintro e41 w41 ⟨rfl, g41⟩
  refine ⟨_, rfl, ?_⟩
  replace hB := hB.trans g41
  simp only [p3, p4]
  refine sv 90 (.bool true) ?_
  simp only [p3, p4]
  refine sv 91 (.bool true) ?_
  simp only [p3, p4]
  refine sv 92 u30 ?_
  simp only [p3, p4]
  refine se ?_
  replace hs30 := hs30.gr (stab_rat 160) (g34.trans (g40.trans g41))
  refine ec 93 (numbers_l u30 ((Xs).map valT) (by rw [List.length_map]; omega) hs30 (ht.gr hB)) ?_
  rintro e42 w42 ⟨⟨u42, rfl, hs42⟩, g42⟩
  refine ⟨_, rfl, ?_⟩
  replace hB := hB.trans g42
  rw [map_valT hz] at hs42
  simp only [p3, p4]
  refine sv 94 vi ?_
  simp only [p3, p4]
  refine se ?_
  replace how := how.gr stab_txt (g41.trans g42)
  refine ec 95 (equal_txt u42 vi Xs (by omega) hs42 (Ow.sl (by have h := how; rw [hkk, List.take_length] at h; exact h))) ?_
  rintro e43 w43 ⟨rfl, g43⟩
  refine ⟨_, rfl, ?_⟩
  replace hB := hB.trans g43
  simp only [p3, p4]
  refine sv 96 (.bool true) ?_
  simp only [p3, p4]
  refine sv 2 (.bool true) ?_
  simp only [p3, p4]
  refine sq_nil ?_
  refine k38 _ _ ?_
  try clear k38 K38
  refine wp_ret ?_
  refine bodyPost_ret (v := (.bool true)) (ret_tmp rfl rfl) rfl ⟨?_, hB⟩
  exact rfl

set_option maxRecDepth 100000 in
set_option maxHeartbeats 1000000 in
theorem lists_n {TT : Nat} (v : Value) (Xs : List (List UInt8)) (w : World) (ht : Tab w) (hm : Mx w) (hs : Sl ETxt TT 1 w v Xs) (h8 : Xs.length ≤ 8) (hany : (Xs).any bigT = false) (hz : ferr Xs ≠ 0) :
    Calls Tryz.prog 13 #[v] w fun e w' => e = .returned (.bool true) ∧ Gr w w' := by
 have hb8 : decide ((8 : Int) < ((Xs).length : Int)) = false := by rw [decide_eq_false_iff_not]; omega
 have hl := any_no hany
 go_enter Tryz.func13, Tryz.ntmps13
 have hB := Gr.refl w
 refine wp_seq_k (fun K1 k1 => ?_)
 refine rg [0] ?_
 refine sv 2 (.bool false) ?_
 simp only [p3, p4]
 refine sq_nil ?_
 refine k1 _ _ ?_
 try clear k1 K1
 refine wp_seq_k (fun K2 k2 => ?_)
 refine wp_seq_k (fun K3 k3 => ?_)
 refine rg [0, 1, 2, 3, 4, 5, 6, 7, 8, 9, 10] ?_
 refine se ?_
 refine ec 12 (known2 _ (ht.gr hB)) ?_
 rintro e4 w4 ⟨rfl, g4⟩
 refine ⟨_, rfl, ?_⟩
 replace hB := hB.trans g4
 simp only [p3, p4]
 refine sv 13 (.bool false) ?_
 simp only [p3, p4]
 refine sv 14 (.bool false) ?_
 simp only [p3, p4]
 refine sv 15 v ?_
 simp only [p3, p4]
 refine sw 16 (.int .i64 (((Xs).length : Int))) rfl (rv_len (e := 9) hs _ _ rfl rfl (by kernel_rfl)) ?_
 simp only [p3, p4]
 refine sw 17 (.bool false) rfl (RunV.bool (x := decide ((8 : Int) < ((Xs).length : Int))) (rvk (by kernel_rfl)) hb8) ?_
 simp only [p3, p4]
 refine sv 18 (.bool false) ?_
 simp only [p3, p4]
 refine sv 19 (.bool false) ?_
 simp only [p3, p4]
 refine sv 20 v ?_
 simp only [p3, p4]
 refine se ?_
 refine ec 21 (has_big v Xs h8 (hs.gr stab_txt hB)) ?_
 rintro e5 w5 ⟨rfl, g5⟩
 refine ⟨_, rfl, ?_⟩
 replace hB := hB.trans g5
 simp only [p3, p4]
 refine sw 22 (.bool false) rfl (RunV.bool (x := (Xs).any bigT) (rvk (by kernel_rfl)) hany) ?_
 simp only [p3, p4]
 refine sq_nil ?_
 refine k3 _ _ ?_
 try clear k3 K3
 refine wp_cond_false rfl ?_
 refine wp_skip ?_
 refine k2 _ _ ?_
 try clear k2 K2
 refine wp_seq_k (fun K6 k6 => ?_)
 refine rg [0] ?_
 refine sv 3 (.slice none 0 0) ?_
 simp only [p3, p4]
 refine sq_nil ?_
 refine k6 _ _ ?_
 try clear k6 K6
 refine wp_seq_k (fun K7 k7 => ?_)
 refine rg [0] ?_
 refine sv 4 (.int .i64 0) ?_
 simp only [p3, p4]
 refine sq_nil ?_
 refine k7 _ _ ?_
 try clear k7 K7
 refine wp_seq_k (fun K8 k8 => ?_)
 refine wp_seq_k (fun K9 k9 => ?_)
 refine rg [0, 1, 2] ?_
 refine sv 24 v ?_
 simp only [p3, p4]
 refine sw 25 (.int .i64 (((Xs).length : Int))) rfl (rv_len (e := 9) hs _ _ rfl rfl (by kernel_rfl)) ?_
 simp only [p3, p4]
 refine sv 26 (.int .i64 0) ?_
 simp only [p3, p4]
 refine sq_nil ?_
 refine k9 _ _ ?_
 try clear k9 K9
 refine wp_block ?_
 refine wp_loop_inv (a := ⟨List.toArray ?l10, []⟩) (fun n a w' => ∃ (k : Nat) (vi : Value) (wt : Int) (u10 : Nat → Value), (Xs).length - k = n ∧ a = ⟨[v, undef, (.bool false), vi, (.int .i64 (wt)), undef, (u10 6), undef, undef, undef, undef, undef, (u10 12), (u10 13), (u10 14), (u10 15), (u10 16), (u10 17), (u10 18), (u10 19), (u10 20), (u10 21), (.bool false), undef, v, (.int .i64 (((Xs).length : Int))), (.int .i64 ((k : Int))), (u10 27), (u10 28), (u10 29), (u10 30), (u10 31), (u10 32), (u10 33), (u10 34), (u10 35), (u10 36), (u10 37), (u10 38), undef, undef, undef, undef, undef, undef, undef, undef, undef, undef, undef, undef, undef, undef, undef, undef, undef, undef, undef, undef, undef, undef, undef, undef, undef, undef, undef, undef, undef, undef, undef, undef, undef, undef, undef, undef, undef, undef, undef, undef, undef, undef, undef, undef, undef, undef, undef, undef, undef, undef, undef, undef, undef, undef, undef, undef, undef, undef].toArray, []⟩ ∧ k ≤ (Xs).length ∧ wt = ferr ((Xs).take k) ∧ Ow ETxt 42 1 w' w.heap.size vi ((Xs).take k) ∧ Gr w w') ((Xs).length - 0) ?_ ?_
 ·exact ⟨0, (.slice none 0 0), 0, (fun i => List.getD ?l10 i undef), rfl, rfl, (Nat.zero_le _), (by rw [List.take_zero]; rfl), (by rw [List.take_zero]; exact Ow.nil ..), hB⟩
 rintro n10 a10 w10 ⟨k, vi, wt, u10, rfl, rfl, hk, hwt, how, hB⟩ K10 k10
 refine wp_seq_k (fun K11 k11 => ?_)
 refine rg [0] ?_
 refine sv 27 (.bool (decide ((k : Int) < ((Xs).length : Int)))) ?_
 simp only [p3, p4]
 refine sq_nil ?_
 refine k11 _ _ ?_
 try clear k11 K11
 refine wp_seq_k (fun K12 k12 => ?_)
 refine wp_cond_split (t := decide ((k : Int) < ((Xs).length : Int))) rfl (fun hb13 => ?_) (fun hb13 => ?_)
 ·have hlt := of_decide_eq_true hb13
  refine wp_skip ?_
  refine k12 _ _ ?_
  try clear k12 K12
  refine wp_seq_k (fun K14 k14 => ?_)
  refine wp_block ?_
  refine wp_seq_k (fun K15 k15 => ?_)
  refine rg [0, 1, 2] ?_
  refine sw 28 (adr v (k * 1)) rfl (rv_idx (e := 9) hs (by decide) k (by omega) _ _ _ rfl rfl rfl (by kernel_rfl) (by kernel_rfl)) ?_
  simp only [p3, p4]
  obtain ⟨_, _, rfl, at16⟩ := (hs.gr stab_txt hB).get (by decide) (getD_some (d := ([] : List UInt8)) (i := k) (xs := Xs) (by omega))
  refine sw 29 (.string ⟨((Xs).getD k [] : List UInt8).toArray⟩) rfl (rv_ld1 (.string ⟨((Xs).getD k [] : List UInt8).toArray⟩) at16 _ _ rfl rfl (by kernel_rfl)) ?_
  simp only [p3, p4]
  refine sv 6 (.string ⟨((Xs).getD k [] : List UInt8).toArray⟩) ?_
  simp only [p3, p4]
  refine sq_nil ?_
  refine k15 _ _ ?_
  try clear k15 K15
  refine wp_seq_k (fun K17 k17 => ?_)
  refine rg [0, 1, 2, 3, 4] ?_
  refine sv 30 vi ?_
  simp only [p3, p4]
  refine sv 31 (.string ⟨((Xs).getD k [] : List UInt8).toArray⟩) ?_
  simp only [p3, p4]
  refine se ?_
  refine eff_bs 42 1 #[(.string ⟨((Xs).getD k [] : List UInt8).toArray⟩)] (some 32) rfl (fun _ => by kernel_rfl) (fun b18 w18 g18 L18 q18 => ?_)
  replace hB := hB.trans g18
  simp only [putl, p3, p4]
  refine se ?_
  replace how := how.gr stab_txt g18
  refine eff_app stab_txt _ _ 71 42 w.heap.size (.string ⟨([] : List UInt8).toArray⟩) vi ((Xs).take k) b18 [(.string ⟨((Xs).getD k [] : List UInt8).toArray⟩)] ((Xs).getD k [] : List UInt8) 1 1 (some 33) 16 rfl rfl rfl rfl how L18 ⟨rfl, trivial⟩ rfl rfl w hB (Nat.le_refl _) (Below.size hB) (by have := List.length_take_le k Xs; omega) (by decide) (by kernel_rfl) (by kernel_rfl) (by decide) (by decide) (fun v19 w19 ow19 wt19 hb19 => ?_)
  replace hB := hb19
  simp only [putl, p3, p4]
  refine sv 3 v19 ?_
  simp only [p3, p4]
  refine sq_nil ?_
  refine k17 _ _ ?_
  try clear k17 K17
  refine wp_seq_k (fun K20 k20 => ?_)
  refine rg [0, 1] ?_
  refine sv 34 (.int .i64 (wt)) ?_
  simp only [p3, p4]
  refine sv 35 (.bool ((wt == (0 : Int)))) ?_
  simp only [p3, p4]
  refine sq_nil ?_
  refine k20 _ _ ?_
  try clear k20 K20
  refine wp_cond_split (t := (wt == (0 : Int))) rfl (fun hb21 => ?_) (fun hb21 => ?_)
  ·refine rg [0, 1, 2] ?_
   refine sv 36 (.string ⟨((Xs).getD k [] : List UInt8).toArray⟩) ?_
   simp only [p3, p4]
   refine se ?_
   refine ec 37 (r2_check_l ((Xs).getD k []) 40 (by have := hl k; omega) (by omega) _) ?_
   rintro e22 w22 ⟨rfl, g22⟩
   refine ⟨_, rfl, ?_⟩
   replace hB := hB.trans g22
   simp only [p3, p4]
   refine sv 4 (.int .i64 (ck2 ((Xs).getD k []) 40)) ?_
   simp only [p3, p4]
   refine sq_nil ?_
   refine k14 _ _ ?_
   try clear k14 K14
   refine rg [0, 1] ?_
   refine sw 38 (.int .i64 (((k : Int) + 1))) rfl (RunV.int (x := IntKind.i64.wrap (((k : Int) + 1))) (y := ((k : Int) + 1)) (rvk (by kernel_rfl)) (by first | rfl | (rw [IntKind.wrap_i64]; omega))) ?_
   simp only [p3, p4]
   refine sv 26 (.int .i64 (((k : Int) + 1))) ?_
   simp only [p3, p4]
   refine sq_nil ?_
   replace ow19 := ow19.gr stab_txt g22
   refine k10 ((Xs).length - (k + 1)) ⟨List.toArray ?l23, []⟩ _ (by omega) ?_
   exact ⟨k + 1, v19, ck2 ((Xs).getD k []) 40, (fun i => List.getD ?l23 i undef), rfl, rfl, (by omega), (by rw [ferr_take (by omega), if_pos (by rw [← hwt]; exact eq_of_beq hb21)]), (by rw [take_succ_getD (d := []) (by omega)]; exact ow19), hB⟩
  ·refine wp_skip ?_
   refine k14 _ _ ?_
   try clear k14 K14
   refine rg [0, 1] ?_
   refine sw 38 (.int .i64 (((k : Int) + 1))) rfl (RunV.int (x := IntKind.i64.wrap (((k : Int) + 1))) (y := ((k : Int) + 1)) (rvk (by kernel_rfl)) (by first | rfl | (rw [IntKind.wrap_i64]; omega))) ?_
   simp only [p3, p4]
   refine sv 26 (.int .i64 (((k : Int) + 1))) ?_
   simp only [p3, p4]
   refine sq_nil ?_
   refine k10 ((Xs).length - (k + 1)) ⟨List.toArray ?l24, []⟩ _ (by omega) ?_
   exact ⟨k + 1, v19, wt, (fun i => List.getD ?l24 i undef), rfl, rfl, (by omega), (by rw [ferr_take (by omega), if_neg (by rw [← hwt]; exact ne_of_beq_false hb21)]; exact hwt), (by rw [take_succ_getD (d := []) (by omega)]; exact ow19), hB⟩
 ·have hge := of_decide_eq_false hb13
  have hkk : k = (Xs).length := by omega
  refine wp_exit ?_
  simp only [Exit.then, Exit.inBlock, ↓reduceIte]
  refine k8 _ _ ?_
  try clear k8 K8
  refine wp_seq_k (fun K25 k25 => ?_)
  refine rg [0, 1, 2] ?_
  refine sv 39 vi ?_
  simp only [p3, p4]
  refine se ?_
  refine ec 40 (clone_txt (Xs := Xs) (by have h := how; rw [hkk, List.take_length] at h; exact h) (by omega)) ?_
  rintro e26 w26 ⟨⟨u26, rfl, hs26⟩, g26⟩
  refine ⟨_, rfl, ?_⟩
  replace hB := hB.trans g26
  simp only [p3, p4]
  refine sv 7 u26 ?_
  simp only [p3, p4]
  refine sq_nil ?_
  refine k25 _ _ ?_
  try clear k25 K25
  refine wp_seq_k (fun K27 k27 => ?_)
  refine rg [0, 1, 2, 3, 4, 5, 6] ?_
  refine sv 42 u26 ?_
  simp only [p3, p4]
  refine se ?_
  refine ec 43 (parses_l u26 Xs h8 hl hs26 (hm.gr hB)) ?_
  rintro e28 w28 ⟨⟨u28, rfl, hy28, hz28⟩, g28⟩
  refine ⟨_, rfl, ?_⟩
  replace hB := hB.trans g28
  obtain rfl := hz28 hz
  simp only [p3, p4]
  refine sv 41 (.tuple #[(.slice none 0 0), (.int .i64 (ferr Xs))]) ?_
  simp only [p3, p4]
  refine sv 44 (.slice none 0 0) ?_
  simp only [p3, p4]
  refine sv 45 (.int .i64 (ferr Xs)) ?_
  simp only [p3, p4]
  refine sv 8 (.slice none 0 0) ?_
  simp only [p3, p4]
  refine sv 9 (.int .i64 (ferr Xs)) ?_
  simp only [p3, p4]
  refine sq_nil ?_
  refine k27 _ _ ?_
  try clear k27 K27
  refine wp_seq_k (fun K29 k29 => ?_)
  refine rg [0, 1, 2, 3, 4, 5, 6] ?_
  refine sv 47 u26 ?_
  simp only [p3, p4]
  refine se ?_
  replace hs26 := hs26.gr stab_txt g28
  refine ec 48 (reads_l u26 Xs h8 hl hs26 (hm.gr hB)) ?_
  rintro e30 w30 ⟨⟨u30, rfl, hy30, hz30⟩, g30⟩
  refine ⟨_, rfl, ?_⟩
  replace hB := hB.trans g30
  obtain rfl := hz30 hz
  simp only [p3, p4]
  refine sv 46 (.tuple #[(.slice none 0 0), (.int .i64 (ferr Xs))]) ?_
  simp only [p3, p4]
  refine sv 49 (.slice none 0 0) ?_
  simp only [p3, p4]
  refine sv 50 (.int .i64 (ferr Xs)) ?_
  simp only [p3, p4]
  refine sv 10 (.slice none 0 0) ?_
  simp only [p3, p4]
  refine sv 11 (.int .i64 (ferr Xs)) ?_
  simp only [p3, p4]
  refine sq_nil ?_
  refine k29 _ _ ?_
  try clear k29 K29
  refine wp_seq_k (fun K31 k31 => ?_)
  refine wp_seq_k (fun K32 k32 => ?_)
  refine rg [0, 1, 2, 3, 4, 5, 6, 7, 8, 9, 10, 11, 12, 13] ?_
  refine sv 51 (.int .i64 (ferr Xs)) ?_
  simp only [p3, p4]
  refine sv 52 (.int .i64 (wt)) ?_
  simp only [p3, p4]
  have hb33 : ((ferr Xs != wt)) = false := (by rw [hwt, hkk, List.take_length]; simp)
  refine sw 53 (.bool false) rfl (RunV.bool (x := (ferr Xs != wt)) (rvk (by kernel_rfl)) hb33) ?_
  simp only [p3, p4]
  refine sv 54 (.bool false) ?_
  simp only [p3, p4]
  refine sv 55 (.int .i64 (ferr Xs)) ?_
  simp only [p3, p4]
  refine sv 56 (.int .i64 (wt)) ?_
  simp only [p3, p4]
  refine sw 57 (.bool false) rfl (RunV.bool (x := (ferr Xs != wt)) (rvk (by kernel_rfl)) hb33) ?_
  simp only [p3, p4]
  refine sv 58 (.bool false) ?_
  simp only [p3, p4]
  refine sv 59 (.bool false) ?_
  simp only [p3, p4]
  refine sv 60 u26 ?_
  simp only [p3, p4]
  refine sv 61 vi ?_
  simp only [p3, p4]
  refine se ?_
  replace hs26 := hs26.gr stab_txt g30
  replace how := how.gr stab_txt (g26.trans (g28.trans g30))
  refine ec 62 (equal_txt u26 vi Xs (by omega) hs26 (Ow.sl (by have h := how; rw [hkk, List.take_length] at h; exact h))) ?_
  rintro e34 w34 ⟨rfl, g34⟩
  refine ⟨_, rfl, ?_⟩
  replace hB := hB.trans g34
  simp only [p3, p4]
  refine sv 63 (.bool false) ?_
  simp only [p3, p4]
  refine sv 64 (.bool false) ?_
  simp only [p3, p4]
  refine sq_nil ?_
  refine k32 _ _ ?_
  try clear k32 K32
  refine wp_cond_false rfl ?_
  refine wp_skip ?_
  refine k31 _ _ ?_
  try clear k31 K31
  refine wp_seq_k (fun K35 k35 => ?_)
  refine wp_seq_k (fun K36 k36 => ?_)
  refine rg [0, 1] ?_
  refine sv 65 (.int .i64 (wt)) ?_
  simp only [p3, p4]
  have hb37 : ((wt != (0 : Int))) = true := (by rw [hwt, hkk, List.take_length]; simpa using hz)
  refine sw 66 (.bool true) rfl (RunV.bool (x := (wt != (0 : Int))) (rvk (by kernel_rfl)) hb37) ?_
  simp only [p3, p4]
  refine sq_nil ?_
  refine k36 _ _ ?_
  try clear k36 K36
  refine wp_cond_true rfl ?_
  refine wp_seq_k (fun K38 k38 => ?_)
  refine rg [0, 1, 2, 3, 4, 5, 6] ?_
  refine sv 67 (.slice none 0 0) ?_
  simp only [p3, p4]
  refine sv 68 (.int .i64 0) ?_
  simp only [p3, p4]
  refine sv 69 (.slice none 0 0) ?_
  simp only [p3, p4]
  refine sv 70 (.int .i64 0) ?_
  simp only [p3, p4]
  refine sv 71 (.int .i64 0) ?_
  simp only [p3, p4]
  refine sv 72 (.bool true) ?_
  simp only [p3, p4]
  refine sv 2 (.bool true) ?_
  simp only [p3, p4]
  refine sq_nil ?_
  refine k38 _ _ ?_
  try clear k38 K38
  refine wp_ret ?_
  simp only [Exit.then]
  refine bodyPost_ret (v := (.bool true)) (ret_tmp rfl rfl) rfl ⟨?_, hB⟩
  exact rfl

theorem rational_lists {TT : Nat} (v : Value) (Xs : List (List UInt8)) (w : World) (ht : Tab w) (hm : Mx w) (hs : Sl ETxt TT 1 w v Xs) :
    Calls Tryz.prog 13 #[v] w fun e w' => e = .returned (.bool true) ∧ Gr w w' := by
  by_cases h8 : Xs.length ≤ 8
  · rcases Bool.eq_false_or_eq_true ((Xs).any bigT) with hany | hany
    · exact lists_b v Xs w ht hm hs h8 hany
    · by_cases hz : ferr Xs = 0
      · exact lists_z v Xs w ht hm hs h8 hany hz
      · exact lists_n v Xs w ht hm hs h8 hany hz
  · exact lists_l v Xs w ht hm hs (by rw [decide_eq_true_eq]; omega)

end Go.Proofs.YtloocadjbpgldaaGreatDoor
/- The law RationalLists holds of every input: its row, and its card tied to the program's text. Printed by a program of the prover's. -/
namespace Go.Proofs.YtloocadjbpgldaaGreatDoor
open Go.ChangeShapes Go.WideShapes Go.ChangeAt Go.RowKit

theorem rationalLists_table {W : World} (h : laidMetH Tryz.prog Rows.rationalListsRow.laid W) : Tab W :=
  Lib.tabIs_of_head (rest := _) (g := 2) (t := 171) (e := 84) (n := 20) (by kernel_rfl) (by kernel_rfl) (by kernel_rfl) (by kernel_rfl) (by kernel_rfl) (by kernel_rfl) ((show laidMet Tryz.prog Rows.rationalListsRow.laid W from (MakeChecks.laidMetH_plain _ _ _ (by kernel_rfl)) ▸ h).tail.tail)
theorem rationalLists_maxlen {W : World} (h : W.ShapedOpen Tryz.prog) : Mx W :=
  Go.Proofs.cell_of_shapedOpen_int (zero := #[.int .i64 0]) (g := 3) (t := 3) h (of_decide_eq_true (by kernel_rfl)) (by kernel_rfl) rfl (by kernel_rfl) (by kernel_rfl) Tryz.underlying3
set_option maxRecDepth 100000 in
theorem rationalLists_contract (H : Type) (enc : TypeId × Value → H) (W : World) (base : Nat) (args : Array Value) (ds gs : List (DataW H)) (before : List MemPlace)
    (hval : ∀ (j : Nat) t v, Tryz.f13.params[j]? = some t → args[j]? = some v → Value.okWide Tryz.prog W .any base t v)
    (hW : DataW.Whole enc Tryz.prog Tryz.f13.params.toList Rows.rationalListsSpec.vars false W args.toList ds gs before) (hL : laidMetH Tryz.prog Rows.rationalListsRow.laid W) (hsh : W.ShapedOpen Tryz.prog) :
    Calls Tryz.prog 13 args W fun e W' => ∃ v, e = .returned v ∧ Rows.rationalListsSpec.post enc Tryz.prog Tryz.f13 false true false false W args v W' := by
  have hW' := hW
  obtain ⟨p, q, hA0, hV, rfl, hfz, hnd⟩ := hW
  have hA : DataW.TrodAll enc Tryz.prog W 0 (fun _ => true) true Tryz.f13.params.toList args.toList ds p := hA0
  rw [Tryz.params13] at hA hval
  obtain ⟨v0, vs0, d0, ds0, p0, q0, hargs, rfl, rfl, h0, r0⟩ := trodAll_cons hA
  obtain ⟨rfl, rfl, rfl⟩ := trodAll_nil r0
  obtain rfl : args = #[v0] := by cases args; simp_all
  obtain ⟨rfl, rfl⟩ := trodVars_none hV
  obtain ⟨T0, Xs0, o0⟩ := open_txts (e := 9) (by kernel_rfl) (by kernel_rfl) (by kernel_rfl) (hval 0 69 v0 rfl rfl) h0
  refine (rational_lists v0 Xs0 W (rationalLists_table hL) (rationalLists_maxlen hsh) o0).mono fun e W' ⟨he, hg⟩ => ?_
  subst he
  exact ⟨_, rfl, law_post (tb := 4) laidOut (by kernel_rfl) (by kernel_rfl) (by kernel_rfl) rfl hW' rfl hg⟩
noncomputable def rationalLists_world (os : Os) : World := World.laidAll Tryz.prog os Rows.rationalListsRow.laid
theorem rationalLists_met (os : Os) : laidMet Tryz.prog Rows.rationalListsRow.laid ((rationalLists_world os).forCall (fun _ _ => 0) ⟨#[], #[.slice none 0 0], []⟩).memory :=
  laidMet_laidAll _ (by kernel_rfl) (by kernel_rfl)
theorem rationalLists_reads (os : Os) {H : Type} (enc : TypeId × Value → H) : ∃ places, DataW.whole enc Tryz.prog ((rationalLists_world os).forCall (fun _ _ => 0) ⟨#[], #[.slice none 0 0], []⟩).memory Tryz.f13.params.toList Rows.rationalListsSpec.vars false (#[.slice none 0 0] : Array Value).toList 8 = some ([.nil], [], places) :=
  ⟨[], by kernel_rfl⟩
set_option maxRecDepth 100000 in
theorem rationalLists_lifted (os : Os) (started : os.Started) (H : Type) (enc : TypeId × Value → H) (F : Stop.Interp) :
    ReturnsInHanded {} Tryz.checked os 13 .any ((OpenSpec.ofChange Rows.rationalListsSpec).preRow enc Tryz.prog Tryz.f13 Rows.rationalListsRow.domain false Rows.rationalListsRow.laid) (((OpenSpec.ofChange Rows.rationalListsSpec).at F).post enc Tryz.prog Tryz.f13 false true false false) := by
  obtain ⟨places, hx⟩ := rationalLists_reads os enc
  refine returnsInHanded_of_row (C := Tryz.checked) (s := OpenSpec.ofChange Rows.rationalListsSpec) own started (by kernel_rfl) Tryz.func13
    (witness_row_sh (enc := enc) (C := Tryz.checked) false (rationalLists_world os) #[.slice none 0 0] (World.laidAll_os _ _ _) (World.shaped_of_ZipB (by kernel_rfl) (by kernel_rfl)) (by kernel_rfl)
      (OpenSpec.preRow_of_cond 8 hx (by kernel_rfl) (fun k hk => by cases hk) (by kernel_rfl) (by rw [MakeChecks.laidMetH_plain _ _ _ (by kernel_rfl)]; exact rationalLists_met os))) ?_
  intro W base args ds gs before hval hW _ _ _ hL hsh _
  exact rationalLists_contract H enc W base args ds gs before hval hW hL hsh
theorem rationalLists_said : Rows.RationalListsSaid :=
  OpenClaim.holds_of_cond 13 Tryz.f13 rfl rfl rfl rfl rfl rfl rfl ⟨rfl, rfl, rfl, rfl, rfl⟩ rfl rfl rfl rfl rfl (by kernel_rfl) Tryz.func13 (by kernel_rfl)
    (of_decide_eq_true (by kernel_rfl)) (by unfold Func.isWrapper; first | (rw [if_pos (by decide +kernel)]; kernel_rfl) | (rw [if_neg (by decide +kernel)]; exact ⟨rfl, rfl⟩))
    (fun os started H enc _ F => by rw [OpenClaim.pre_eq_preRow]; exact rationalLists_lifted os started H enc F)
theorem rationalLists_plain (f : FuncId) (fn : Func) (hf : Tryz.pinned.checked.prog.funcNamed "dowel/dowellaw02.RationalLists" = some f) (hfn : Tryz.pinned.checked.prog.funcs[f]? = some fn) :
    true = Tryz.pinned.checked.prog.looks [] ∧ ∀ (j : Nat) t, fn.params[j]? = some t → Tryz.pinned.checked.prog.wantsStandIn t = false := by
  obtain rfl : f = 13 := Option.some.inj ((show Tryz.prog.funcNamed "dowel/dowellaw02.RationalLists" = some 13 by kernel_rfl).symm.trans hf) |>.symm
  obtain rfl : fn = Tryz.f13 := (Option.some.inj (Tryz.func13.symm.trans hfn)).symm
  refine ⟨by kernel_rfl, fun j t ht => ?_⟩
  rw [Tryz.params13] at ht
  have hm := Array.mem_of_getElem? ht
  have hall : (#[69] : Array TypeId).toList.all (fun t => !Tryz.prog.wantsStandIn t) = true := by kernel_rfl
  have := List.all_eq_true.1 hall t (Array.mem_toList_iff.2 hm)
  have h3 : Tryz.prog.wantsStandIn t = false := by simpa using this
  exact h3
/-- the card -/
theorem rationalLists_card : Rows.RationalListsCardSaid :=
  Claim7.holds_tied_plain_at .later [] _ _ _ _ rationalLists_said (fun _ h => by cases h) (by kernel_rfl) (fun _ h => by cases h) rationalLists_row_tie rfl ⟨rfl, rfl⟩ (by kernel_rfl) rfl rationalLists_plain (by kernel_rfl)
end Go.Proofs.YtloocadjbpgldaaGreatDoor
