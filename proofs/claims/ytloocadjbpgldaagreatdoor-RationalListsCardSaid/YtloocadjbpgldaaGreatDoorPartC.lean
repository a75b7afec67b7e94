/- Joined of: Int7, Gen2, Int8, Txt, Gen12, Gen3, Rat1, Gen4, Nbr, Scale, Gen32. -/
import Derived.Test.YtloocadjbpgldaaGreatDoorPartB
/- Contracts for DivMod, Compare, Sub, From, Gcd: what the printed walks use. -/
namespace Go.Proofs.YtloocadjbpgldaaGreatDoor
open Go.RowKit

theorem divide_m {w : World} {ao bo : Option Addr} {la lb ca cb : Nat} {a b : Int} (ha : Mag w ao la ca a) (hb : Mag w bo lb cb b) (hla : la ≤ 1000000) (hlb : lb ≤ 1000000) (hb0 : 0 < b) :
    Calls Tryz.prog 134 #[.slice ao la ca, .slice bo lb cb] w fun e w' =>
      (∃ qo qk qc ro rk rc, e = .returned (.tuple #[.slice qo qk qc, .slice ro rk rc]) ∧ Mag w' qo qk qc (a / b) ∧ Mag w' ro rk rc (a % b)) ∧ Gr w w' := divide_c ao bo la lb ca cb a b w hla hlb ha hb hb0
theorem signed_z {neg : Bool} {ao : Option Addr} {len cap : Nat} {n Z : Int} {K : Nat} {w : World} (h : Mag w ao len cap n) (hn : n = (Z.natAbs : Int)) (hs : 0 < n → neg = decide (Z < 0)) (hz : Sz K Z) (hK : K ≤ 1000000) :
    Calls Tryz.prog 78 #[.bool neg, .slice ao len cap] w fun e w' => (∃ x y, e = .returned (.agg #[x, y]) ∧ IsInt w' K x y Z) ∧ Gr w w' := by
  have hl : len ≤ K := h.nl.len_sz (by rw [hn]; exact hz.nat)
  refine (signed_c neg ao len cap n w (by omega) h.cap h.nl.nonneg h.nl.top h.row).mono ?_
  rintro e w1 ⟨⟨k, he, hm, _⟩, hB⟩
  exact ⟨⟨_, _, he, IsInt.mk' (hm.below hB) hn hs hz⟩, hB⟩
theorem signed_pf {ao : Option Addr} {len cap : Nat} {n : Int} {K : Nat} {w : World} (h : Mag w ao len cap n) (hn : 0 < n) (hz : Sz K n) (hK : K ≤ 1000000) :
    Calls Tryz.prog 78 #[.bool false, .slice ao len cap] w fun e w' => (∃ k, e = .returned (.agg #[.bool false, .slice ao k cap]) ∧ IsInt w' K (.bool false) (.slice ao k cap) n) ∧ Gr w w' := by
  have hl : len ≤ K := h.nl.len_sz hz
  refine (signed_c false ao len cap n w (by omega) h.cap h.nl.nonneg h.nl.top h.row).mono ?_
  rintro e w1 ⟨⟨k, he, hm, _⟩, hB⟩
  refine ⟨⟨k, he, ?_⟩, hB⟩
  exact IsInt.mk' (s := false) (hm.below hB) (by omega) (fun _ => by simp; omega) hz
theorem signed_pt {ao : Option Addr} {len cap : Nat} {n : Int} {K : Nat} {w : World} (h : Mag w ao len cap n) (hn : 0 < n) (hz : Sz K n) (hK : K ≤ 1000000) :
    Calls Tryz.prog 78 #[.bool true, .slice ao len cap] w fun e w' => (∃ k, e = .returned (.agg #[.bool true, .slice ao k cap]) ∧ IsInt w' K (.bool true) (.slice ao k cap) (-n)) ∧ Gr w w' := by
  have hl : len ≤ K := h.nl.len_sz hz
  refine (signed_c true ao len cap n w (by omega) h.cap h.nl.nonneg h.nl.top h.row).mono ?_
  rintro e w1 ⟨⟨k, he, hm, _⟩, hB⟩
  have hm' := hm.below hB
  have hk : decide (0 < k) = true := by
    rw [decide_eq_true_eq]
    rcases Nat.eq_zero_or_pos k with h0 | h0
    · have := hm.nl.len_zero.1 h0; omega
    · exact h0
  rw [hk] at he
  have := IsInt.mk' (s := true) hm' (z := -n) (by omega) (fun _ => by simp; omega) hz.neg
  rw [hk] at this
  exact ⟨⟨k, he, this⟩, hB⟩
theorem sign_zero {k : Nat} {x y : Value} {w : World} (hz : IsInt w k x y 0) :
    Calls Tryz.prog 79 #[.agg #[x, y]] w fun e w' => e = .returned (.int .i64 0) ∧ Gr w w' := sign_i hz
theorem sign_pos {k : Nat} {x y : Value} {z : Int} {w : World} (hz : IsInt w k x y z) (h : 0 < z) :
    Calls Tryz.prog 79 #[.agg #[x, y]] w fun e w' => e = .returned (.int .i64 1) ∧ Gr w w' := by
  have := sign_i hz
  rw [sgn_pos h] at this
  exact this
theorem sign_neg {k : Nat} {x y : Value} {z : Int} {w : World} (hz : IsInt w k x y z) (h : z < 0) :
    Calls Tryz.prog 79 #[.agg #[x, y]] w fun e w' => e = .returned (.int .i64 (-1)) ∧ Gr w w' := by
  have := sign_i hz
  rw [sgn_neg h] at this
  exact this
theorem IsInt.resz {w : World} {k m : Nat} {x y : Value} {z : Int} (h : IsInt w k x y z) (hz : Sz m z) : IsInt w m x y z := by
  obtain ⟨ao, len, cap, h1, h2, h3, h4⟩ := h
  exact ⟨ao, len, cap, h1, h2, h3, hz⟩
theorem IsInt.len {w : World} {k : Nat} {x : Value} {ao : Option Addr} {len cap : Nat} {z : Int} (h : IsInt w k x (.slice ao len cap) z) : len ≤ k := by
  obtain ⟨ao', len', cap', h1, h2, h3, h4⟩ := h
  simp only [Value.slice.injEq] at h2
  obtain ⟨rfl, rfl, rfl⟩ := h2
  exact h3.nl.len_sz h4.nat

theorem Sz.i64 {z : Int} (h0 : -9223372036854775808 ≤ z) (h1 : z ≤ 9223372036854775807) : Sz 64 z := by unfold Sz; omega

set_option maxRecDepth 100000 in
set_option maxHeartbeats 1000000 in
theorem from_i (z : Int) (h0 : -9223372036854775808 ≤ z) (h1 : z ≤ 9223372036854775807) (w : World) :
    Calls Tryz.prog 40 #[.int .i64 z] w fun e w' => (∃ x y, e = .returned (.agg #[x, y]) ∧ IsInt w' 64 x y z) ∧ Gr w w' := by
  have key : ∀ (w1 : World) (c0 c1 : Int), c0 = (z.natAbs : Int) % 4294967296 → c1 = (z.natAbs : Int) / 4294967296 → Row (w1.alloc (.cells #[.int .u32 c0, .int .u32 c1] 83)) (some ⟨w1.heap.size, 0, none⟩) 2 (dg (z.natAbs : Int)) := by
    rintro w1 _ _ rfl rfl
    refine ⟨fun _ => ⟨_, 0, _, _, rfl, (alloc1_facts _ _).2.1, fun i hi0 => ?_⟩⟩
    have e0 : dg (z.natAbs : Int) 0 = (z.natAbs : Int) % 4294967296 := rfl
    have e1 : dg (z.natAbs : Int) 1 = (z.natAbs : Int) / 4294967296 := by
      have : dg (z.natAbs : Int) 1 = (z.natAbs : Int) / 4294967296 % 4294967296 := rfl
      rw [this]; omega
    rcases i with _ | _ | i
    · rw [e0]; rfl
    · rw [e1]; rfl
    · omega
  have ht : hi (z.natAbs : Int) 2 = 0 := by rw [hi_succ, hi_succ, hi_zero]; omega
  have ew : z < 0 → IntKind.u64.wrap (-IntKind.u64.wrap z) = (z.natAbs : Int) := by
    intro h
    rw [IntKind.wrap_u64, IntKind.wrap_u64]; omega
  by_cases hn : z < 0
  · have hd : decide (z < 0) = true := by simpa using hn
    have ew' := Lib.hid (ew hn)
    clear ew
    go_enter Tryz.func40, Tryz.ntmps40
    go_wp2_with fail
    refine (signed_c true _ 2 2 (z.natAbs : Int) _ (by omega) (by omega) (by omega) ht ?g1).mono ?_
    case g1 =>
      refine cast ?_ (key (w.alloc (.cells #[.bool false, .slice none 0 0] 27)) _ _ rfl rfl)
      rw [ew'.out]
      have : (z.natAbs : Int) / 4294967296 % 4294967296 = (z.natAbs : Int) / 4294967296 := by omega
      rw [this]
      simp
    rintro e w1 ⟨⟨k, rfl, hm, hk⟩, hB⟩
    obtain ⟨g0, f0, f1, fs⟩ := alloc2_facts w (.cells #[.bool false, .slice none 0 0] 27) (.cells #[.int .u32 (IntKind.u64.wrap (-IntKind.u64.wrap z) % 4294967296), .int .u32 (IntKind.u64.wrap (-IntKind.u64.wrap z) / 4294967296 % 4294967296)] 83)
    have p3 := Gr.heap hB f0
    have d0 := cells_of p3 0
    have d1 := cells_of p3 1
    have d2 := free_of p3
    have hw3 : Gr w w1 := Gr.trans g0 hB
    have hMM := hm.kp (Gr.kp hB)
    clear f0 f1 fs hB g0
    go_wp2
    have p4 := heap_setCell_at (i := 1) (.slice (some ⟨w.heap.size + 1, 0, none⟩) k 2) (heap_setCell_at (i := 0) (.bool (true && decide (0 < k))) p3)
    have hst := (St.setCell w1 w.heap.size 0 (.bool (true && decide (0 < k)))).trans (St.setCell _ w.heap.size 1 (.slice (some ⟨w.heap.size + 1, 0, none⟩) k 2))
    exact bodyPost_ret (v := .agg #[.bool (true && decide (0 < k)), .slice (some ⟨w.heap.size + 1, 0, none⟩) k 2]) (ret_cell _ _ _ rfl rfl p4 (by kernel_rfl)) rfl ⟨⟨_, _, rfl, IsInt.mk' (s := true) (hMM.kp (hst.kp p3 (by decide))) rfl (fun _ => by simp; omega) (Sz.i64 h0 h1)⟩, hst.gr hw3 (Nat.le_refl _)⟩
  · have hd : decide (z < 0) = false := by simpa using hn
    clear ew
    go_enter Tryz.func40, Tryz.ntmps40
    go_wp2_with fail
    refine (signed_c false _ 2 2 (z.natAbs : Int) _ (by omega) (by omega) (by omega) ht ?g1).mono ?_
    case g1 =>
      refine cast ?_ (key (w.alloc (.cells #[.bool false, .slice none 0 0] 27)) _ _ rfl rfl)
      have : (z.natAbs : Int) = z := by omega
      rw [this]
      simp
    rintro e w1 ⟨⟨k, rfl, hm, hk⟩, hB⟩
    obtain ⟨g0, f0, f1, fs⟩ := alloc2_facts w (.cells #[.bool false, .slice none 0 0] 27) (.cells #[.int .u32 (z % 4294967296), .int .u32 (z / 4294967296)] 83)
    have p3 := Gr.heap hB f0
    have d0 := cells_of p3 0
    have d1 := cells_of p3 1
    have d2 := free_of p3
    have hw3 : Gr w w1 := Gr.trans g0 hB
    have hMM := hm.kp (Gr.kp hB)
    clear f0 f1 fs hB g0
    go_wp2
    have p4 := heap_setCell_at (i := 1) (.slice (some ⟨w.heap.size + 1, 0, none⟩) k 2) (heap_setCell_at (i := 0) (.bool (false && decide (0 < k))) p3)
    have hst := (St.setCell w1 w.heap.size 0 (.bool (false && decide (0 < k)))).trans (St.setCell _ w.heap.size 1 (.slice (some ⟨w.heap.size + 1, 0, none⟩) k 2))
    exact bodyPost_ret (v := .agg #[.bool (false && decide (0 < k)), .slice (some ⟨w.heap.size + 1, 0, none⟩) k 2]) (ret_cell _ _ _ rfl rfl p4 (by kernel_rfl)) rfl ⟨⟨_, _, rfl, IsInt.mk' (s := false) (hMM.kp (hst.kp p3 (by decide))) rfl (fun _ => by simp; omega) (Sz.i64 h0 h1)⟩, hst.gr hw3 (Nat.le_refl _)⟩

theorem Mag.uniq {w : World} {p : Option Addr} {l c : Nat} {a b : Int} (h : Mag w p l c a) (g : Mag w p l c b) : a = b := by
  refine eq_of_dg l h.nl.top g.nl.top fun i hi => ?_
  obtain ⟨b1, o1, e1, h1⟩ := h.row.at_ (by omega)
  obtain ⟨b2, o2, e2, h2⟩ := g.row.at_ (by omega)
  rw [e1] at e2
  simp only [Option.some.injEq, Addr.mk.injEq] at e2
  obtain ⟨rfl, rfl, _⟩ := e2
  have := (h1 i hi).symm.trans (h2 i hi)
  simpa using this
open Classical in
/-- the number that a slice of digits holds -/
noncomputable def magOf (v : Value) (w : World) : Nat :=
  match v with
  | .slice p l c => if h : ∃ n : Nat, Mag w p l c (n : Int) then Classical.choose h else 0
  | _ => 0
theorem magOf_eq {w : World} {p : Option Addr} {l c n : Nat} (h : Mag w p l c (n : Int)) : magOf (.slice p l c) w = n := by
  have hex : ∃ n : Nat, Mag w p l c (n : Int) := ⟨n, h⟩
  simp only [magOf]
  rw [dif_pos hex]
  have := (Classical.choose_spec hex).uniq h
  omega

theorem sz_gcd {k m : Nat} {z u : Int} (hz : Sz k z) (hu : Sz m u) : Sz (k + m) (Int.gcd z u : Int) := by
  by_cases h : z = 0
  · subst h
    rw [Int.gcd_zero_left]
    exact hu.nat.mono (by omega)
  · have h1 : Int.gcd z u ≤ z.natAbs := Nat.gcd_le_left _ (by omega)
    exact Sz.of_le (hz.nat.mono (show k ≤ k + m by omega)) (by simp only [Int.natAbs_natCast]; exact h1)

set_option maxRecDepth 100000 in
set_option maxHeartbeats 1000000 in
theorem gcd_i {k m : Nat} {x y x2 y2 : Value} {z u : Int} {w : World} (hz : IsInt w k x y z) (hu : IsInt w m x2 y2 u) (hk : k + m ≤ 1000000) :
    Calls Tryz.prog 116 #[.agg #[x, y], .agg #[x2, y2]] w fun e w' => (∃ x' y', e = .returned (.agg #[x', y']) ∧ IsInt w' (k + m) x' y' (Int.gcd z u)) ∧ Gr w w' := by
  obtain ⟨ao, la, ca, rfl, rfl, ha, hs⟩ := hz
  obtain ⟨bo, lb, cb, rfl, rfl, hb, ht⟩ := hu
  have hla := ha.nl.len_sz hs.nat
  have hlb := hb.nl.len_sz ht.nat
  have hsz := Lib.hid (sz_gcd hs ht)
  generalize decide (z < 0) = s1
  generalize decide (u < 0) = s2
  go_enter Tryz.func116, Tryz.ntmps116
  go_wp2
  go_quiet (fail)
  obtain ⟨g0, f0, f1, f2, fs⟩ := alloc3_facts w (.cells #[.bool s1, .slice ao la ca] 27) (.cells #[.bool s2, .slice bo lb cb] 27) (.cells #[.bool false, .slice none 0 0] 27)
  generalize hw0 : ((w.alloc (.cells #[.bool s1, .slice ao la ca] 27)).alloc (.cells #[.bool s2, .slice bo lb cb] 27)).alloc (.cells #[.bool false, .slice none 0 0] 27) = w0 at *
  have hA := ha.gr g0
  have hB := hb.gr g0
  clear f0 f1 fs hw0
  go_wp2
  go_loopw [5, 6] (fun s5 s6 wr => ∃ (p5 : Option Addr) (l5 c5 : Nat) (p6 : Option Addr) (l6 c6 : Nat) (A B : Nat), s5 = .slice p5 l5 c5 ∧ s6 = .slice p6 l6 c6 ∧ Mag wr p5 l5 c5 (A : Int) ∧ Mag wr p6 l6 c6 (B : Int) ∧ l5 ≤ 1000000 ∧ l6 ≤ 1000000 ∧ Gr w0 wr ∧ Hid (Nat.gcd A B = Int.gcd z u)) (fun _ s6 wr => magOf s6 wr)
  case atStart => exact ⟨_, _, _, _, _, _, _, _, rfl, rfl, hA.gr (((Below.refl _ _).drewN _)), hB.gr (((Below.refl _ _).drewN _)), by omega, by omega, ((Below.refl _ _).drewN _), rfl⟩
  case round =>
    obtain ⟨p5, l5, c5, p6, l6, c6, A, B, rfl, rfl, h5, h6, hl5, hl6, hG, hh⟩ := hrel
    by_cases hp : 0 < l6
    · have hB0 : B ≠ 0 := fun e => by subst e; have := h6.nl.len_zero.2 rfl; omega
      go_wp2_with fail
      refine (divide_m h5 h6 hl5 hl6 (by omega)).mono ?_
      rintro e w3 ⟨⟨qo, qk, qc, ro, rk, rc, rfl, h7, h8⟩, hG3⟩
      go_wp2
      have e8 : (A : Int) % (B : Int) = ((A % B : Nat) : Int) := (Int.natCast_emod A B).symm
      rw [e8] at h8
      have hlt : A % B < B := Nat.mod_lt _ (by omega)
      go_roundw
      case rel =>
        refine ⟨_, _, _, _, _, _, B, A % B, rfl, rfl, h6.gr hG3, h8, hl6, Nat.le_trans (h8.nl.len_le h6.nl (by omega)) hl6, Gr.trans hG hG3, ?_⟩
        show Nat.gcd B (A % B) = _
        rw [← hh.out, Nat.gcd_comm B, ← Nat.gcd_rec, Nat.gcd_comm]
      case measure =>
        rw [magOf_eq h8, magOf_eq h6]; exact hlt
    · obtain rfl : l6 = 0 := by omega
      have hB0 : B = 0 := by have := h6.nl.len_zero.1 rfl; omega
      subst hB0
      have p3 := Gr.heap hG f2
      have d0 := cells_of p3 0
      have d1 := cells_of p3 1
      have d2 := free_of p3
      have hw3 : Gr w wr := Gr.trans g0 hG
      have hg : A = Int.gcd z u := by rw [← hh.out, Nat.gcd_zero_right]
      subst hg
      clear hh hG hA hB f2
      go_wp2
      have p4 := heap_setCell_at (i := 1) (.slice p5 l5 c5) (heap_setCell_at (i := 0) (.bool false) p3)
      have hst := (St.setCell wr (w.heap.size + 1 + 1) 0 (.bool false)).trans (St.setCell _ (w.heap.size + 1 + 1) 1 (.slice p5 l5 c5))
      exact bodyPost_ret (v := .agg #[.bool false, .slice p5 l5 c5]) (ret_cell _ _ _ rfl rfl p4 (by kernel_rfl)) rfl ⟨⟨_, _, rfl, p5, l5, c5, by simp, rfl, h5.kp (hst.kp p3 (by decide)), hsz.out⟩, hst.gr hw3 (by omega)⟩
theorem ret_tmp {P : Program} {w : World} {fn : Func} {tmps : Array Value} {t : Tmp} {v : Value} (h : fn.results = #[.tmp t]) (hv : tmps.getD t undef = v) : (results fn tmps).run P w = .ok v w := by
  subst hv; exact results_tmp h _ _ _
theorem ret_tmp2 {P : Program} {w : World} {fn : Func} {tmps : Array Value} {t u : Tmp} {v x : Value} (h : fn.results = #[.tmp t, .tmp u]) (hv : tmps.getD t undef = v) (hx : tmps.getD u undef = x) : (results fn tmps).run P w = .ok (.tuple #[v, x]) w := by
  subst hv hx; simp [results, h]
theorem ret_cell_tmp' {P : Program} {w : World} {fn : Func} {tmps : Array Value} {p u : Tmp} {t : TypeId} {v : Value} (b : Nat) (cs : Array Value) (tt : TypeId) (h : fn.results = #[.cell p t, .tmp u]) (hp : tmps.getD p undef = .pointer (some ⟨b, 0, none⟩)) (hL : Lc w b cs tt) (hs : aggSize P t = some cs.size) (hv : tmps.getD u undef = v) :
    (results fn tmps).run P w = .ok (.tuple #[.agg cs, v]) w := by
  subst hv; exact ret_cell_tmp b cs tt h hp hL hs
theorem ret_cell2_tmp' {P : Program} {w : World} {fn : Func} {tmps : Array Value} {p q u : Tmp} {t t2 : TypeId} {v : Value} (b c : Nat) (cs ds : Array Value) (tt tt2 : TypeId) (h : fn.results = #[.cell p t, .cell q t2, .tmp u]) (hp : tmps.getD p undef = .pointer (some ⟨b, 0, none⟩)) (hq : tmps.getD q undef = .pointer (some ⟨c, 0, none⟩))
    (hL : Lc w b cs tt) (hs : aggSize P t = some cs.size) (hL2 : Lc w c ds tt2) (hs2 : aggSize P t2 = some ds.size) (hv : tmps.getD u undef = v) :
    (results fn tmps).run P w = .ok (.tuple #[.agg cs, .agg ds, v]) w := by
  subst hv; exact ret_cell2_tmp b c cs ds tt tt2 h hp hq hL hs hL2 hs2
end Go.Proofs.YtloocadjbpgldaaGreatDoor
/- Printed by a program of the prover's: DivMod, Compare, Sub. -/
namespace Go.Proofs.YtloocadjbpgldaaGreatDoor
open Go.RowKit

set_option maxRecDepth 100000 in
set_option maxHeartbeats 1000000 in
theorem sub_i {k m : Nat} {x y x2 y2 : Value} {z u : Int} {w : World} (hz : IsInt w k x y z) (hu : IsInt w m x2 y2 u) (_hk : k + m + 1 ≤ 1000000) :
    Calls Tryz.prog 135 #[(.agg #[x, y]), (.agg #[x2, y2])] w fun e w' => (∃ x' y', e = .returned (.agg #[x', y']) ∧ IsInt w' (k + m + 1) x' y' (z - u)) ∧ Gr w w' := by
 go_enter Tryz.func135, Tryz.ntmps135
 have hB := Gr.refl w
 refine wp_seq_k (fun K1 k1 => ?_)
 refine rg [0, 1, 2] ?_
 refine se ?_
 refine eb 27 #[x, y] 2 hB fun b2 w2 g2 L2 o2 q2 hB => ?_
 simp only [p3, p4]
 refine se ?_
 refine eb 27 #[x2, y2] 3 hB fun b3 w3 g3 L3 o3 q3 hB => ?_
 simp only [p3, p4]
 refine se ?_
 refine ea 27 #[(.bool false), (.slice none 0 0)] 4 hB fun b4 w4 g4 L4 o4 q4 hB => ?_
 replace L2 := L2.gr g3
 have ne2_4 := L2.ne o4
 have ne3_4 := L3.ne o4
 simp only [p3, p4]
 refine sq_nil ?_
 refine k1 _ _ ?_
 try clear k1 K1
 refine wp_seq_k (fun K5 k5 => ?_)
 have gd15 := Gr.drew w4
 replace hB := hB.trans gd15
 replace L2 := L2.gr (g4.trans gd15)
 replace L3 := L3.gr (g4.trans gd15)
 refine wp_region_ord (fun w' => Lc w' b2 #[x, y] 27 ∧ Lc w' b3 #[x2, y2] 27) [(true, 0), (true, 1), (false, 2), (false, 3), (false, 4)] (by kernel_rfl) (by kernel_rfl) (by kernel_rfl) (by decide) (fun _ _ _ _ _ h => h) ⟨L2, L3⟩ ?_
 refine ow 5 (.agg #[x, y]) rfl (fun w' hS => (rl 27 0 [x, y] hS.1)) ?_
 simp only [p3, p4]
 refine ow 6 (.agg #[x2, y2]) rfl (fun w' hS => (rl 27 0 [x2, y2] hS.2)) ?_
 simp only [p3, p4]
 refine oe ?_
 have kq18 := g2.kp.trans (g3.kp.trans (g4.kp.trans gd15.kp))
 replace hu := hu.kp kq18
 refine ec 7 (neg_i hu ) ?_
 rintro e17 w17 ⟨⟨x17, y17, rfl, h17⟩, g17⟩
 refine ⟨_, rfl, ?_⟩
 replace hB := hB.trans g17
 replace L2 := L2.gr g17
 replace L3 := L3.gr g17
 refine ⟨⟨L2, L3⟩, ?_⟩
 simp only [p3, p4]
 refine oe ?_
 have kq21 := g2.kp.trans (g3.kp.trans (g4.kp.trans (gd15.kp.trans g17.kp)))
 replace hz := hz.kp kq21
 refine ec 8 (add_i hz h17 (by omega)) ?_
 rintro e20 w20 ⟨⟨x20, y20, rfl, h20⟩, g20⟩
 refine ⟨_, rfl, ?_⟩
 replace hB := hB.trans g20
 replace L2 := L2.gr g20
 replace L3 := L3.gr g20
 refine ⟨⟨L2, L3⟩, ?_⟩
 simp only [p3, p4]
 refine oe ?_
 replace L4 := L4.gr (gd15.trans (g17.trans g20))
 refine es 27 0 (.agg #[x20, y20]) [x20, y20] #[x20, y20] L4 hB q4 ⟨h20.one0, h20.one1, trivial⟩ fun w23 st23 kp23 L4 hB => ?_
 replace L2 := st23.lc L2 ne2_4
 replace L3 := st23.lc L3 ne3_4
 refine ⟨⟨L2, L3⟩, ?_⟩
 refine ord_nil ?_
 refine k5 _ _ ?_
 try clear k5 K5
 refine wp_ret ?_
 refine bodyPost_ret (v := (.agg #[x20, y20])) (ret_cell _ _ _ rfl rfl L4 (by kernel_rfl)) rfl ⟨?_, hB⟩
 replace h20 := h20.kp kp23
 exact ⟨_, _, rfl, by rw [Int.sub_eq_add_neg]; exact h20⟩

set_option maxRecDepth 100000 in
set_option maxHeartbeats 1000000 in
theorem cmp_tt {w : World} {a b : Int} {ao bo : Option Addr} {la lb ca cb : Nat} (ha : Mag w ao la ca a) (hb : Mag w bo lb cb b) (_hla : la ≤ 1000000) (_hlb : lb ≤ 1000000) :
    Calls Tryz.prog 45 #[(.agg #[(.bool true), (.slice ao la ca)]), (.agg #[(.bool true), (.slice bo lb cb)])] w fun e w' => (e = .returned (.int .i64 (sgn (b - a)))) ∧ Gr w w' := by
 go_enter Tryz.func45, Tryz.ntmps45
 have hB := Gr.refl w
 refine wp_seq_k (fun K1 k1 => ?_)
 refine rg [0, 1, 2] ?_
 refine se ?_
 refine eb 27 #[(.bool true), (.slice ao la ca)] 2 hB fun b2 w2 g2 L2 o2 q2 hB => ?_
 simp only [p3, p4]
 refine se ?_
 refine eb 27 #[(.bool true), (.slice bo lb cb)] 3 hB fun b3 w3 g3 L3 o3 q3 hB => ?_
 simp only [p3, p4]
 refine sv 4 (.int .i64 0) ?_
 simp only [p3, p4]
 refine sq_nil ?_
 refine k1 _ _ ?_
 try clear k1 K1
 refine wp_seq_k (fun K4 k4 => ?_)
 refine wp_block ?_
 refine wp_seq_k (fun K5 k5 => ?_)
 refine rg [0, 1, 2, 3, 4, 5] ?_
 refine sv 6 (.pointer (some ⟨b2, 0, none⟩)) ?_
 simp only [p3, p4]
 replace L2 := L2.gr g3
 refine sw 7 (.bool true) rfl (rk 4 0 L2) ?_
 simp only [p3, p4]
 refine sv 8 (.pointer (some ⟨b3, 0, none⟩)) ?_
 simp only [p3, p4]
 refine sw 9 (.bool true) rfl (rk 4 0 L3) ?_
 simp only [p3, p4]
 refine sv 10 (.bool false) ?_
 simp only [p3, p4]
 refine sv 5 (.bool false) ?_
 simp only [p3, p4]
 refine sq_nil ?_
 refine k5 _ _ ?_
 try clear k5 K5
 refine wp_cond_false rfl ?_
 refine wp_seq_k (fun K6 k6 => ?_)
 refine rg [0, 1, 2] ?_
 refine sv 14 (.pointer (some ⟨b2, 0, none⟩)) ?_
 simp only [p3, p4]
 refine sw 15 (.bool true) rfl (rk 4 0 L2) ?_
 simp only [p3, p4]
 refine sv 13 (.bool true) ?_
 simp only [p3, p4]
 refine sq_nil ?_
 refine k6 _ _ ?_
 try clear k6 K6
 refine wp_cond_true rfl ?_
 refine wp_seq_k (fun K7 k7 => ?_)
 refine rg [0, 1, 2, 3, 4, 5] ?_
 refine sv 16 (.pointer (some ⟨b3, 1, none⟩)) ?_
 simp only [p3, p4]
 refine sw 17 (.slice bo lb cb) rfl (rk 25 1 L3) ?_
 simp only [p3, p4]
 refine sv 18 (.pointer (some ⟨b2, 1, none⟩)) ?_
 simp only [p3, p4]
 refine sw 19 (.slice ao la ca) rfl (rk 25 1 L2) ?_
 simp only [p3, p4]
 refine se ?_
 have kq9 := g2.kp.trans g3.kp
 replace hb := hb.kp kq9
 replace ha := ha.kp kq9
 refine ec 20 (order_m hb ha (by omega) (by omega)) ?_
 rintro e8 w8 ⟨rfl, g8⟩
 refine ⟨_, rfl, ?_⟩
 replace hB := hB.trans g8
 simp only [p3, p4]
 refine sv 4 (.int .i64 (sgn (b - a))) ?_
 simp only [p3, p4]
 refine sq_nil ?_
 refine k7 _ _ ?_
 try clear k7 K7
 refine wp_ret ?_
 simp only [Exit.then, Exit.inBlock]
 refine bodyPost_ret (v := (.int .i64 (sgn (b - a)))) (ret_tmp rfl rfl) rfl ⟨?_, hB⟩
 exact rfl

set_option maxRecDepth 100000 in
set_option maxHeartbeats 1000000 in
theorem cmp_tf {w : World} {a b : Int} {ao bo : Option Addr} {la lb ca cb : Nat} (_ha : Mag w ao la ca a) (_hb : Mag w bo lb cb b) (_hla : la ≤ 1000000) (_hlb : lb ≤ 1000000) :
    Calls Tryz.prog 45 #[(.agg #[(.bool true), (.slice ao la ca)]), (.agg #[(.bool false), (.slice bo lb cb)])] w fun e w' => (e = .returned (.int .i64 (-1))) ∧ Gr w w' := by
 go_enter Tryz.func45, Tryz.ntmps45
 have hB := Gr.refl w
 refine wp_seq_k (fun K1 k1 => ?_)
 refine rg [0, 1, 2] ?_
 refine se ?_
 refine eb 27 #[(.bool true), (.slice ao la ca)] 2 hB fun b2 w2 g2 L2 o2 q2 hB => ?_
 simp only [p3, p4]
 refine se ?_
 refine eb 27 #[(.bool false), (.slice bo lb cb)] 3 hB fun b3 w3 g3 L3 o3 q3 hB => ?_
 simp only [p3, p4]
 refine sv 4 (.int .i64 0) ?_
 simp only [p3, p4]
 refine sq_nil ?_
 refine k1 _ _ ?_
 try clear k1 K1
 refine wp_seq_k (fun K4 k4 => ?_)
 refine wp_block ?_
 refine wp_seq_k (fun K5 k5 => ?_)
 refine rg [0, 1, 2, 3, 4, 5] ?_
 refine sv 6 (.pointer (some ⟨b2, 0, none⟩)) ?_
 simp only [p3, p4]
 replace L2 := L2.gr g3
 refine sw 7 (.bool true) rfl (rk 4 0 L2) ?_
 simp only [p3, p4]
 refine sv 8 (.pointer (some ⟨b3, 0, none⟩)) ?_
 simp only [p3, p4]
 refine sw 9 (.bool false) rfl (rk 4 0 L3) ?_
 simp only [p3, p4]
 refine sv 10 (.bool true) ?_
 simp only [p3, p4]
 refine sv 5 (.bool true) ?_
 simp only [p3, p4]
 refine sq_nil ?_
 refine k5 _ _ ?_
 try clear k5 K5
 refine wp_cond_true rfl ?_
 refine wp_seq_k (fun K6 k6 => ?_)
 refine wp_seq_k (fun K7 k7 => ?_)
 refine rg [0, 1] ?_
 refine sv 11 (.pointer (some ⟨b2, 0, none⟩)) ?_
 simp only [p3, p4]
 refine sw 12 (.bool true) rfl (rk 4 0 L2) ?_
 simp only [p3, p4]
 refine sq_nil ?_
 refine k7 _ _ ?_
 try clear k7 K7
 refine wp_cond_true rfl ?_
 refine wp_seq_k (fun K8 k8 => ?_)
 refine rg [0] ?_
 refine sv 4 (.int .i64 (-1)) ?_
 simp only [p3, p4]
 refine sq_nil ?_
 refine k8 _ _ ?_
 try clear k8 K8
 refine wp_ret ?_
 simp only [Exit.then, Exit.inBlock]
 refine bodyPost_ret (v := (.int .i64 (-1))) (ret_tmp rfl rfl) rfl ⟨?_, hB⟩
 exact rfl

set_option maxRecDepth 100000 in
set_option maxHeartbeats 1000000 in
theorem cmp_ft {w : World} {a b : Int} {ao bo : Option Addr} {la lb ca cb : Nat} (_ha : Mag w ao la ca a) (_hb : Mag w bo lb cb b) (_hla : la ≤ 1000000) (_hlb : lb ≤ 1000000) :
    Calls Tryz.prog 45 #[(.agg #[(.bool false), (.slice ao la ca)]), (.agg #[(.bool true), (.slice bo lb cb)])] w fun e w' => (e = .returned (.int .i64 (1))) ∧ Gr w w' := by
 go_enter Tryz.func45, Tryz.ntmps45
 have hB := Gr.refl w
 refine wp_seq_k (fun K1 k1 => ?_)
 refine rg [0, 1, 2] ?_
 refine se ?_
 refine eb 27 #[(.bool false), (.slice ao la ca)] 2 hB fun b2 w2 g2 L2 o2 q2 hB => ?_
 simp only [p3, p4]
 refine se ?_
 refine eb 27 #[(.bool true), (.slice bo lb cb)] 3 hB fun b3 w3 g3 L3 o3 q3 hB => ?_
 simp only [p3, p4]
 refine sv 4 (.int .i64 0) ?_
 simp only [p3, p4]
 refine sq_nil ?_
 refine k1 _ _ ?_
 try clear k1 K1
 refine wp_seq_k (fun K4 k4 => ?_)
 refine wp_block ?_
 refine wp_seq_k (fun K5 k5 => ?_)
 refine rg [0, 1, 2, 3, 4, 5] ?_
 refine sv 6 (.pointer (some ⟨b2, 0, none⟩)) ?_
 simp only [p3, p4]
 replace L2 := L2.gr g3
 refine sw 7 (.bool false) rfl (rk 4 0 L2) ?_
 simp only [p3, p4]
 refine sv 8 (.pointer (some ⟨b3, 0, none⟩)) ?_
 simp only [p3, p4]
 refine sw 9 (.bool true) rfl (rk 4 0 L3) ?_
 simp only [p3, p4]
 refine sv 10 (.bool true) ?_
 simp only [p3, p4]
 refine sv 5 (.bool true) ?_
 simp only [p3, p4]
 refine sq_nil ?_
 refine k5 _ _ ?_
 try clear k5 K5
 refine wp_cond_true rfl ?_
 refine wp_seq_k (fun K6 k6 => ?_)
 refine wp_seq_k (fun K7 k7 => ?_)
 refine rg [0, 1] ?_
 refine sv 11 (.pointer (some ⟨b2, 0, none⟩)) ?_
 simp only [p3, p4]
 refine sw 12 (.bool false) rfl (rk 4 0 L2) ?_
 simp only [p3, p4]
 refine sq_nil ?_
 refine k7 _ _ ?_
 try clear k7 K7
 refine wp_cond_false rfl ?_
 refine wp_skip ?_
 refine k6 _ _ ?_
 try clear k6 K6
 refine wp_seq_k (fun K8 k8 => ?_)
 refine rg [0] ?_
 refine sv 4 (.int .i64 1) ?_
 simp only [p3, p4]
 refine sq_nil ?_
 refine k8 _ _ ?_
 try clear k8 K8
 refine wp_ret ?_
 simp only [Exit.then, Exit.inBlock]
 refine bodyPost_ret (v := (.int .i64 1)) (ret_tmp rfl rfl) rfl ⟨?_, hB⟩
 exact rfl

set_option maxRecDepth 100000 in
set_option maxHeartbeats 1000000 in
theorem cmp_ff {w : World} {a b : Int} {ao bo : Option Addr} {la lb ca cb : Nat} (ha : Mag w ao la ca a) (hb : Mag w bo lb cb b) (_hla : la ≤ 1000000) (_hlb : lb ≤ 1000000) :
    Calls Tryz.prog 45 #[(.agg #[(.bool false), (.slice ao la ca)]), (.agg #[(.bool false), (.slice bo lb cb)])] w fun e w' => (e = .returned (.int .i64 (sgn (a - b)))) ∧ Gr w w' := by
 go_enter Tryz.func45, Tryz.ntmps45
 have hB := Gr.refl w
 refine wp_seq_k (fun K1 k1 => ?_)
 refine rg [0, 1, 2] ?_
 refine se ?_
 refine eb 27 #[(.bool false), (.slice ao la ca)] 2 hB fun b2 w2 g2 L2 o2 q2 hB => ?_
 simp only [p3, p4]
 refine se ?_
 refine eb 27 #[(.bool false), (.slice bo lb cb)] 3 hB fun b3 w3 g3 L3 o3 q3 hB => ?_
 simp only [p3, p4]
 refine sv 4 (.int .i64 0) ?_
 simp only [p3, p4]
 refine sq_nil ?_
 refine k1 _ _ ?_
 try clear k1 K1
 refine wp_seq_k (fun K4 k4 => ?_)
 refine wp_block ?_
 refine wp_seq_k (fun K5 k5 => ?_)
 refine rg [0, 1, 2, 3, 4, 5] ?_
 refine sv 6 (.pointer (some ⟨b2, 0, none⟩)) ?_
 simp only [p3, p4]
 replace L2 := L2.gr g3
 refine sw 7 (.bool false) rfl (rk 4 0 L2) ?_
 simp only [p3, p4]
 refine sv 8 (.pointer (some ⟨b3, 0, none⟩)) ?_
 simp only [p3, p4]
 refine sw 9 (.bool false) rfl (rk 4 0 L3) ?_
 simp only [p3, p4]
 refine sv 10 (.bool false) ?_
 simp only [p3, p4]
 refine sv 5 (.bool false) ?_
 simp only [p3, p4]
 refine sq_nil ?_
 refine k5 _ _ ?_
 try clear k5 K5
 refine wp_cond_false rfl ?_
 refine wp_seq_k (fun K6 k6 => ?_)
 refine rg [0, 1, 2] ?_
 refine sv 14 (.pointer (some ⟨b2, 0, none⟩)) ?_
 simp only [p3, p4]
 refine sw 15 (.bool false) rfl (rk 4 0 L2) ?_
 simp only [p3, p4]
 refine sv 13 (.bool false) ?_
 simp only [p3, p4]
 refine sq_nil ?_
 refine k6 _ _ ?_
 try clear k6 K6
 refine wp_cond_false rfl ?_
 refine wp_skip ?_
 refine k4 _ _ ?_
 try clear k4 K4
 refine wp_seq_k (fun K7 k7 => ?_)
 refine rg [0, 1, 2, 3, 4, 5] ?_
 refine sv 21 (.pointer (some ⟨b2, 1, none⟩)) ?_
 simp only [p3, p4]
 refine sw 22 (.slice ao la ca) rfl (rk 25 1 L2) ?_
 simp only [p3, p4]
 refine sv 23 (.pointer (some ⟨b3, 1, none⟩)) ?_
 simp only [p3, p4]
 refine sw 24 (.slice bo lb cb) rfl (rk 25 1 L3) ?_
 simp only [p3, p4]
 refine se ?_
 have kq9 := g2.kp.trans g3.kp
 replace ha := ha.kp kq9
 replace hb := hb.kp kq9
 refine ec 25 (order_m ha hb (by omega) (by omega)) ?_
 rintro e8 w8 ⟨rfl, g8⟩
 refine ⟨_, rfl, ?_⟩
 replace hB := hB.trans g8
 simp only [p3, p4]
 refine sv 4 (.int .i64 (sgn (a - b))) ?_
 simp only [p3, p4]
 refine sq_nil ?_
 refine k7 _ _ ?_
 try clear k7 K7
 refine wp_ret ?_
 refine bodyPost_ret (v := (.int .i64 (sgn (a - b)))) (ret_tmp rfl rfl) rfl ⟨?_, hB⟩
 exact rfl

set_option maxRecDepth 100000 in
set_option maxHeartbeats 1000000 in
theorem divmod_0 {w : World} {s : Bool} {K m : Nat} {a b Z : Int} {ao bo : Option Addr} {la lb ca cb : Nat} (ha : Mag w ao la ca a) (hb : Mag w bo lb cb b) (hu : IsInt w m (.bool false) (.slice bo lb cb) b) (_hla : la ≤ 1000000) (_hlb : lb ≤ 1000000) (_hb0 : 0 < b) (hd : a % b = 0) (hQ : a / b = (Z.natAbs : Int)) (hS : 0 < a / b → (s != false) = decide (Z < 0)) (hZ : Sz K Z) (hK : K ≤ 1000000) (hm : m ≤ 1000000) :
    Calls Tryz.prog 102 #[(.agg #[(.bool (s)), (.slice ao la ca)]), (.agg #[(.bool false), (.slice bo lb cb)])] w fun e w' => (∃ x' y' x3 y3, e = .returned (.tuple #[.agg #[x', y'], .agg #[x3, y3], .int .i64 0]) ∧ IsInt w' K x' y' (Z) ∧ IsInt w' m x3 y3 (0)) ∧ Gr w w' := by
 have hR : a % b = ((0 : Int).natAbs : Int) := hd
 go_enter Tryz.func102, Tryz.ntmps102
 have hB := Gr.refl w
 refine wp_seq_k (fun K1 k1 => ?_)
 refine rg [0, 1, 2, 3, 4] ?_
 refine se ?_
 refine eb 27 #[(.bool (s)), (.slice ao la ca)] 2 hB fun b2 w2 g2 L2 o2 q2 hB => ?_
 simp only [p3, p4]
 refine se ?_
 refine eb 27 #[(.bool false), (.slice bo lb cb)] 3 hB fun b3 w3 g3 L3 o3 q3 hB => ?_
 simp only [p3, p4]
 refine se ?_
 refine ea 27 #[(.bool false), (.slice none 0 0)] 4 hB fun b4 w4 g4 L4 o4 q4 hB => ?_
 replace L2 := L2.gr g3
 have ne2_4 := L2.ne o4
 have ne3_4 := L3.ne o4
 simp only [p3, p4]
 refine se ?_
 refine ea 27 #[(.bool false), (.slice none 0 0)] 5 hB fun b5 w5 g5 L5 o5 q5 hB => ?_
 replace L2 := L2.gr g4
 have ne2_5 := L2.ne o5
 replace L3 := L3.gr g4
 have ne3_5 := L3.ne o5
 have ne4_5 := L4.ne o5
 simp only [p3, p4]
 refine sv 6 (.int .i64 0) ?_
 simp only [p3, p4]
 refine sq_nil ?_
 refine k1 _ _ ?_
 try clear k1 K1
 refine wp_seq_k (fun K6 k6 => ?_)
 refine wp_seq_k (fun K7 k7 => ?_)
 refine rg [0, 1, 2] ?_
 replace L3 := L3.gr g5
 refine sw 9 (.agg #[(.bool false), (.slice bo lb cb)]) rfl (rl 27 0 [(.bool false), (.slice bo lb cb)] L3) ?_
 simp only [p3, p4]
 refine se ?_
 have kq9 := g2.kp.trans (g3.kp.trans (g4.kp.trans g5.kp))
 replace hu := hu.kp kq9
 refine ec 10 (sign_pos hu (by omega)) ?_
 rintro e8 w8 ⟨rfl, g8⟩
 refine ⟨_, rfl, ?_⟩
 replace hB := hB.trans g8
 simp only [p3, p4]
 refine sv 11 (.bool false) ?_
 simp only [p3, p4]
 refine sq_nil ?_
 refine k7 _ _ ?_
 try clear k7 K7
 refine wp_cond_false rfl ?_
 refine wp_skip ?_
 refine k6 _ _ ?_
 try clear k6 K6
 refine wp_seq_k (fun K10 k10 => ?_)
 refine rg [0, 1, 2, 3, 4, 5, 6, 7, 8, 9] ?_
 refine sv 15 (.pointer (some ⟨b2, 1, none⟩)) ?_
 simp only [p3, p4]
 replace L2 := L2.gr (g5.trans g8)
 refine sw 16 (.slice ao la ca) rfl (rk 25 1 L2) ?_
 simp only [p3, p4]
 refine sv 17 (.pointer (some ⟨b3, 1, none⟩)) ?_
 simp only [p3, p4]
 replace L3 := L3.gr g8
 refine sw 18 (.slice bo lb cb) rfl (rk 25 1 L3) ?_
 simp only [p3, p4]
 refine se ?_
 have kq12 := g2.kp.trans (g3.kp.trans (g4.kp.trans (g5.kp.trans g8.kp)))
 replace ha := ha.kp kq12
 replace hb := hb.kp kq12
 refine ec 19 (divide_m ha hb (by omega) (by omega) (by omega)) ?_
 rintro e11 w11 ⟨⟨qo11, qk11, qc11, ro11, rk11, rc11, rfl, hq11, hr11⟩, g11⟩
 refine ⟨_, rfl, ?_⟩
 replace hB := hB.trans g11
 simp only [p3, p4]
 refine sv 14 (.tuple #[(.slice qo11 qk11 qc11), (.slice ro11 rk11 rc11)]) ?_
 simp only [p3, p4]
 refine sv 20 (.slice qo11 qk11 qc11) ?_
 simp only [p3, p4]
 refine sv 21 (.slice ro11 rk11 rc11) ?_
 simp only [p3, p4]
 refine sv 7 (.slice qo11 qk11 qc11) ?_
 simp only [p3, p4]
 refine sv 8 (.slice ro11 rk11 rc11) ?_
 simp only [p3, p4]
 refine sq_nil ?_
 refine k10 _ _ ?_
 try clear k10 K10
 refine wp_seq_k (fun K13 k13 => ?_)
 have gd24 := Gr.drew w11
 replace hB := hB.trans gd24
 replace L2 := L2.gr (g11.trans gd24)
 replace L3 := L3.gr (g11.trans gd24)
 refine wp_region_ord (fun w' => Lc w' b2 #[(.bool (s)), (.slice ao la ca)] 27 ∧ Lc w' b3 #[(.bool false), (.slice bo lb cb)] 27) [(true, 0), (true, 1), (true, 2), (true, 3), (true, 4), (true, 5), (true, 7), (true, 8), (true, 9), (false, 6), (false, 10), (false, 11), (false, 12)] (by kernel_rfl) (by kernel_rfl) (by kernel_rfl) (by decide) (fun _ _ _ _ _ h => h) ⟨L2, L3⟩ ?_
 refine ov 22 (.pointer (some ⟨b2, 0, none⟩)) ?_
 simp only [p3, p4]
 refine ow 23 (.bool (s)) rfl (fun w' hS => (rk 4 0 hS.1)) ?_
 simp only [p3, p4]
 refine ov 24 (.pointer (some ⟨b3, 0, none⟩)) ?_
 simp only [p3, p4]
 refine ow 25 (.bool false) rfl (fun w' hS => (rk 4 0 hS.2)) ?_
 simp only [p3, p4]
 refine ov 26 (.bool ((s != false))) ?_
 simp only [p3, p4]
 refine ov 27 (.slice qo11 qk11 qc11) ?_
 simp only [p3, p4]
 refine ov 29 (.pointer (some ⟨b2, 0, none⟩)) ?_
 simp only [p3, p4]
 refine ow 30 (.bool (s)) rfl (fun w' hS => (rk 4 0 hS.1)) ?_
 simp only [p3, p4]
 refine ov 31 (.slice ro11 rk11 rc11) ?_
 simp only [p3, p4]
 refine oe ?_
 replace hq11 := hq11.kp gd24.kp
 refine ec 28 (signed_z (neg := (s != false)) (Z := Z) hq11 hQ hS hZ hK) ?_
 rintro e26 w26 ⟨⟨x26, y26, rfl, h26⟩, g26⟩
 refine ⟨_, rfl, ?_⟩
 replace hB := hB.trans g26
 replace L2 := L2.gr g26
 replace L3 := L3.gr g26
 refine ⟨⟨L2, L3⟩, ?_⟩
 simp only [p3, p4]
 refine oe ?_
 have kq29 := gd24.kp.trans g26.kp
 replace hr11 := hr11.kp kq29
 refine ec 32 (signed_z (neg := s) (Z := 0) hr11 hR (fun h => by omega) (Sz.zero m) hm) ?_
 rintro e28 w28 ⟨⟨x28, y28, rfl, h28⟩, g28⟩
 refine ⟨_, rfl, ?_⟩
 replace hB := hB.trans g28
 replace L2 := L2.gr g28
 replace L3 := L3.gr g28
 refine ⟨⟨L2, L3⟩, ?_⟩
 simp only [p3, p4]
 refine oe ?_
 replace L4 := L4.gr (g5.trans (g8.trans (g11.trans (gd24.trans (g26.trans g28)))))
 refine es 27 0 (.agg #[x26, y26]) [x26, y26] #[x26, y26] L4 hB q4 ⟨h26.one0, h26.one1, trivial⟩ fun w31 st31 kp31 L4 hB => ?_
 replace L2 := st31.lc L2 ne2_4
 replace L3 := st31.lc L3 ne3_4
 refine ⟨⟨L2, L3⟩, ?_⟩
 refine oe ?_
 replace L5 := st31.lc (L5.gr (g8.trans (g11.trans (gd24.trans (g26.trans g28))))) (Ne.symm ne4_5)
 refine es 27 0 (.agg #[x28, y28]) [x28, y28] #[x28, y28] L5 hB q5 ⟨h28.one0, h28.one1, trivial⟩ fun w33 st33 kp33 L5 hB => ?_
 replace L2 := st33.lc L2 ne2_5
 replace L3 := st33.lc L3 ne3_5
 refine ⟨⟨L2, L3⟩, ?_⟩
 refine ord_nil ?_
 refine k13 _ _ ?_
 try clear k13 K13
 refine wp_seq_k (fun K34 k34 => ?_)
 refine wp_seq_k (fun K35 k35 => ?_)
 refine rg [0, 1, 2, 3, 4, 5, 6, 7, 8, 9] ?_
 refine sw 33 (.agg #[x28, y28]) rfl (rl 27 0 [x28, y28] L5) ?_
 simp only [p3, p4]
 refine se ?_
 have kq37 := kp31.trans kp33
 replace h28 := h28.kp kq37
 refine ec 34 (sign_zero h28) ?_
 rintro e36 w36 ⟨rfl, g36⟩
 refine ⟨_, rfl, ?_⟩
 replace hB := hB.trans g36
 simp only [p3, p4]
 refine sv 35 (.bool false) ?_
 simp only [p3, p4]
 refine sv 36 (.bool false) ?_
 simp only [p3, p4]
 refine ss 37 ?_
 simp only [p3, p4]
 refine ss 38 ?_
 simp only [p3, p4]
 refine ss 39 ?_
 simp only [p3, p4]
 refine ss 40 ?_
 simp only [p3, p4]
 refine ss 41 ?_
 simp only [p3, p4]
 refine sv 42 (.bool false) ?_
 simp only [p3, p4]
 refine sq_nil ?_
 refine k35 _ _ ?_
 try clear k35 K35
 refine wp_cond_false rfl ?_
 refine wp_skip ?_
 refine k34 _ _ ?_
 try clear k34 K34
 refine wp_seq_k (fun K38 k38 => ?_)
 have gd40 := Gr.drew w36
 replace hB := hB.trans gd40
 replace L4 := (st33.lc L4 ne4_5).gr (g36.trans gd40)
 replace L5 := L5.gr (g36.trans gd40)
 refine wp_region_ort (fun _ => True) [([2], (fun w' => Lc w' b4 #[x26, y26] 27)), ([3], (fun w' => Lc w' b5 #[x28, y28] 27))] [(true, 0), (true, 1), (false, 2), (false, 3), (true, 4)] (by kernel_rfl) (by kernel_rfl) (by kernel_rfl) (by decide) (fun _ _ _ _ _ h => h) trivial ⟨fun _ => L4, fun _ => L5, trivial⟩ ?_
 refine tw 49 (.agg #[x26, y26]) rfl (fun w' hS => (rl 27 0 [x26, y26] (hS.2.1 (by kernel_rfl)))) ?_
 simp only [p3, p4]
 refine tw 50 (.agg #[x28, y28]) rfl (fun w' hS => (rl 27 0 [x28, y28] (hS.2.2.1 (by kernel_rfl)))) ?_
 simp only [p3, p4]
 refine te ?_
 refine es 27 0 (.agg #[x26, y26]) [x26, y26] #[x26, y26] L4 hB q4 ⟨h26.one0, h26.one1, trivial⟩ fun w42 st42 kp42 L4 hB => ?_
 replace L5 := st42.lc L5 (Ne.symm ne4_5)
 refine ⟨trivial, ⟨cameT (by kernel_rfl), fun _ => L5, trivial⟩, ?_⟩
 refine te ?_
 refine es 27 0 (.agg #[x28, y28]) [x28, y28] #[x28, y28] L5 hB q5 ⟨h28.one0, h28.one1, trivial⟩ fun w44 st44 kp44 L5 hB => ?_
 refine ⟨trivial, ⟨cameT (by kernel_rfl), cameT (by kernel_rfl), trivial⟩, ?_⟩
 refine tv 6 (.int .i64 0) ?_
 simp only [p3, p4]
 refine ort_nil ?_
 refine k38 _ _ ?_
 try clear k38 K38
 refine wp_ret ?_
 replace L4 := st44.lc L4 ne4_5
 refine bodyPost_ret (v := (.tuple #[(.agg #[x26, y26]), (.agg #[x28, y28]), (.int .i64 0)])) (ret_cell2_tmp' _ _ _ _ _ _ rfl rfl rfl L4 (by kernel_rfl) L5 (by kernel_rfl) rfl) rfl ⟨?_, hB⟩
 have kq45 := g28.kp.trans (kp31.trans (kp33.trans (g36.kp.trans (gd40.kp.trans (kp42.trans kp44)))))
 replace h26 := h26.kp kq45
 have kq46 := g36.kp.trans (gd40.kp.trans (kp42.trans kp44))
 replace h28 := h28.kp kq46
 exact ⟨_, _, _, _, rfl, h26, h28⟩

set_option maxRecDepth 100000 in
set_option maxHeartbeats 1000000 in
theorem divmod_f {w : World} {K m : Nat} {a b : Int} {ao bo : Option Addr} {la lb ca cb : Nat} (ha : Mag w ao la ca a) (hb : Mag w bo lb cb b) (hu : IsInt w m (.bool false) (.slice bo lb cb) b) (_hla : la ≤ 1000000) (_hlb : lb ≤ 1000000) (_hb0 : 0 < b) (hR : 0 < a % b) (_hL : a % b < b) (_hQ : 0 ≤ a / b) (hZ : Sz K (a / b)) (hK : K ≤ 1000000) (hm : m ≤ 1000000) :
    Calls Tryz.prog 102 #[(.agg #[(.bool false), (.slice ao la ca)]), (.agg #[(.bool false), (.slice bo lb cb)])] w fun e w' => (∃ x' y' x3 y3, e = .returned (.tuple #[.agg #[x', y'], .agg #[x3, y3], .int .i64 0]) ∧ IsInt w' K x' y' (a / b) ∧ IsInt w' m x3 y3 (a % b)) ∧ Gr w w' := by
 go_enter Tryz.func102, Tryz.ntmps102
 have hB := Gr.refl w
 refine wp_seq_k (fun K1 k1 => ?_)
 refine rg [0, 1, 2, 3, 4] ?_
 refine se ?_
 refine eb 27 #[(.bool false), (.slice ao la ca)] 2 hB fun b2 w2 g2 L2 o2 q2 hB => ?_
 simp only [p3, p4]
 refine se ?_
 refine eb 27 #[(.bool false), (.slice bo lb cb)] 3 hB fun b3 w3 g3 L3 o3 q3 hB => ?_
 simp only [p3, p4]
 refine se ?_
 refine ea 27 #[(.bool false), (.slice none 0 0)] 4 hB fun b4 w4 g4 L4 o4 q4 hB => ?_
 replace L2 := L2.gr g3
 have ne2_4 := L2.ne o4
 have ne3_4 := L3.ne o4
 simp only [p3, p4]
 refine se ?_
 refine ea 27 #[(.bool false), (.slice none 0 0)] 5 hB fun b5 w5 g5 L5 o5 q5 hB => ?_
 replace L2 := L2.gr g4
 have ne2_5 := L2.ne o5
 replace L3 := L3.gr g4
 have ne3_5 := L3.ne o5
 have ne4_5 := L4.ne o5
 simp only [p3, p4]
 refine sv 6 (.int .i64 0) ?_
 simp only [p3, p4]
 refine sq_nil ?_
 refine k1 _ _ ?_
 try clear k1 K1
 refine wp_seq_k (fun K6 k6 => ?_)
 refine wp_seq_k (fun K7 k7 => ?_)
 refine rg [0, 1, 2] ?_
 replace L3 := L3.gr g5
 refine sw 9 (.agg #[(.bool false), (.slice bo lb cb)]) rfl (rl 27 0 [(.bool false), (.slice bo lb cb)] L3) ?_
 simp only [p3, p4]
 refine se ?_
 have kq9 := g2.kp.trans (g3.kp.trans (g4.kp.trans g5.kp))
 replace hu := hu.kp kq9
 refine ec 10 (sign_pos hu (by omega)) ?_
 rintro e8 w8 ⟨rfl, g8⟩
 refine ⟨_, rfl, ?_⟩
 replace hB := hB.trans g8
 simp only [p3, p4]
 refine sv 11 (.bool false) ?_
 simp only [p3, p4]
 refine sq_nil ?_
 refine k7 _ _ ?_
 try clear k7 K7
 refine wp_cond_false rfl ?_
 refine wp_skip ?_
 refine k6 _ _ ?_
 try clear k6 K6
 refine wp_seq_k (fun K10 k10 => ?_)
 refine rg [0, 1, 2, 3, 4, 5, 6, 7, 8, 9] ?_
 refine sv 15 (.pointer (some ⟨b2, 1, none⟩)) ?_
 simp only [p3, p4]
 replace L2 := L2.gr (g5.trans g8)
 refine sw 16 (.slice ao la ca) rfl (rk 25 1 L2) ?_
 simp only [p3, p4]
 refine sv 17 (.pointer (some ⟨b3, 1, none⟩)) ?_
 simp only [p3, p4]
 replace L3 := L3.gr g8
 refine sw 18 (.slice bo lb cb) rfl (rk 25 1 L3) ?_
 simp only [p3, p4]
 refine se ?_
 have kq12 := g2.kp.trans (g3.kp.trans (g4.kp.trans (g5.kp.trans g8.kp)))
 replace ha := ha.kp kq12
 replace hb := hb.kp kq12
 refine ec 19 (divide_m ha hb (by omega) (by omega) (by omega)) ?_
 rintro e11 w11 ⟨⟨qo11, qk11, qc11, ro11, rk11, rc11, rfl, hq11, hr11⟩, g11⟩
 refine ⟨_, rfl, ?_⟩
 replace hB := hB.trans g11
 simp only [p3, p4]
 refine sv 14 (.tuple #[(.slice qo11 qk11 qc11), (.slice ro11 rk11 rc11)]) ?_
 simp only [p3, p4]
 refine sv 20 (.slice qo11 qk11 qc11) ?_
 simp only [p3, p4]
 refine sv 21 (.slice ro11 rk11 rc11) ?_
 simp only [p3, p4]
 refine sv 7 (.slice qo11 qk11 qc11) ?_
 simp only [p3, p4]
 refine sv 8 (.slice ro11 rk11 rc11) ?_
 simp only [p3, p4]
 refine sq_nil ?_
 refine k10 _ _ ?_
 try clear k10 K10
 refine wp_seq_k (fun K13 k13 => ?_)
 have gd24 := Gr.drew w11
 replace hB := hB.trans gd24
 replace L2 := L2.gr (g11.trans gd24)
 replace L3 := L3.gr (g11.trans gd24)
 refine wp_region_ord (fun w' => Lc w' b2 #[(.bool false), (.slice ao la ca)] 27 ∧ Lc w' b3 #[(.bool false), (.slice bo lb cb)] 27) [(true, 0), (true, 1), (true, 2), (true, 3), (true, 4), (true, 5), (true, 7), (true, 8), (true, 9), (false, 6), (false, 10), (false, 11), (false, 12)] (by kernel_rfl) (by kernel_rfl) (by kernel_rfl) (by decide) (fun _ _ _ _ _ h => h) ⟨L2, L3⟩ ?_
 refine ov 22 (.pointer (some ⟨b2, 0, none⟩)) ?_
 simp only [p3, p4]
 refine ow 23 (.bool false) rfl (fun w' hS => (rk 4 0 hS.1)) ?_
 simp only [p3, p4]
 refine ov 24 (.pointer (some ⟨b3, 0, none⟩)) ?_
 simp only [p3, p4]
 refine ow 25 (.bool false) rfl (fun w' hS => (rk 4 0 hS.2)) ?_
 simp only [p3, p4]
 refine ov 26 (.bool false) ?_
 simp only [p3, p4]
 refine ov 27 (.slice qo11 qk11 qc11) ?_
 simp only [p3, p4]
 refine ov 29 (.pointer (some ⟨b2, 0, none⟩)) ?_
 simp only [p3, p4]
 refine ow 30 (.bool false) rfl (fun w' hS => (rk 4 0 hS.1)) ?_
 simp only [p3, p4]
 refine ov 31 (.slice ro11 rk11 rc11) ?_
 simp only [p3, p4]
 refine oe ?_
 replace hq11 := hq11.kp gd24.kp
 refine ec 28 (signed_z (neg := false) (Z := (a / b)) hq11 (by omega) (fun _ => by simp; omega) hZ hK) ?_
 rintro e26 w26 ⟨⟨x26, y26, rfl, h26⟩, g26⟩
 refine ⟨_, rfl, ?_⟩
 replace hB := hB.trans g26
 replace L2 := L2.gr g26
 replace L3 := L3.gr g26
 refine ⟨⟨L2, L3⟩, ?_⟩
 simp only [p3, p4]
 refine oe ?_
 have kq29 := gd24.kp.trans g26.kp
 replace hr11 := hr11.kp kq29
 refine ec 32 (signed_pf hr11 hR (Sz.of_le hu.sz (by omega)) hm) ?_
 rintro e28 w28 ⟨⟨k28, rfl, h28⟩, g28⟩
 refine ⟨_, rfl, ?_⟩
 replace hB := hB.trans g28
 replace L2 := L2.gr g28
 replace L3 := L3.gr g28
 refine ⟨⟨L2, L3⟩, ?_⟩
 simp only [p3, p4]
 refine oe ?_
 replace L4 := L4.gr (g5.trans (g8.trans (g11.trans (gd24.trans (g26.trans g28)))))
 refine es 27 0 (.agg #[x26, y26]) [x26, y26] #[x26, y26] L4 hB q4 ⟨h26.one0, h26.one1, trivial⟩ fun w31 st31 kp31 L4 hB => ?_
 replace L2 := st31.lc L2 ne2_4
 replace L3 := st31.lc L3 ne3_4
 refine ⟨⟨L2, L3⟩, ?_⟩
 refine oe ?_
 replace L5 := st31.lc (L5.gr (g8.trans (g11.trans (gd24.trans (g26.trans g28))))) (Ne.symm ne4_5)
 refine es 27 0 (.agg #[(.bool false), (.slice ro11 k28 rc11)]) [(.bool false), (.slice ro11 k28 rc11)] #[(.bool false), (.slice ro11 k28 rc11)] L5 hB q5 ⟨rfl, rfl, trivial⟩ fun w33 st33 kp33 L5 hB => ?_
 replace L2 := st33.lc L2 ne2_5
 replace L3 := st33.lc L3 ne3_5
 refine ⟨⟨L2, L3⟩, ?_⟩
 refine ord_nil ?_
 refine k13 _ _ ?_
 try clear k13 K13
 refine wp_seq_k (fun K34 k34 => ?_)
 refine wp_seq_k (fun K35 k35 => ?_)
 refine rg [0, 1, 2, 3, 4, 5, 6, 7, 8, 9] ?_
 refine sw 33 (.agg #[(.bool false), (.slice ro11 k28 rc11)]) rfl (rl 27 0 [(.bool false), (.slice ro11 k28 rc11)] L5) ?_
 simp only [p3, p4]
 refine se ?_
 have kq37 := kp31.trans kp33
 replace h28 := h28.kp kq37
 refine ec 34 (sign_pos h28 (by omega)) ?_
 rintro e36 w36 ⟨rfl, g36⟩
 refine ⟨_, rfl, ?_⟩
 replace hB := hB.trans g36
 simp only [p3, p4]
 refine sv 35 (.bool true) ?_
 simp only [p3, p4]
 refine sv 36 (.bool true) ?_
 simp only [p3, p4]
 refine sv 37 (.pointer (some ⟨b5, 0, none⟩)) ?_
 simp only [p3, p4]
 replace L5 := L5.gr g36
 refine sw 38 (.bool false) rfl (rk 4 0 L5) ?_
 simp only [p3, p4]
 refine sv 39 (.pointer (some ⟨b3, 0, none⟩)) ?_
 simp only [p3, p4]
 replace L3 := L3.gr g36
 refine sw 40 (.bool false) rfl (rk 4 0 L3) ?_
 simp only [p3, p4]
 refine sv 41 (.bool false) ?_
 simp only [p3, p4]
 refine sv 42 (.bool false) ?_
 simp only [p3, p4]
 refine sq_nil ?_
 refine k35 _ _ ?_
 try clear k35 K35
 refine wp_cond_false rfl ?_
 refine wp_skip ?_
 refine k34 _ _ ?_
 try clear k34 K34
 refine wp_seq_k (fun K38 k38 => ?_)
 have gd40 := Gr.drew w36
 replace hB := hB.trans gd40
 replace L4 := (st33.lc L4 ne4_5).gr (g36.trans gd40)
 replace L5 := L5.gr gd40
 refine wp_region_ort (fun _ => True) [([2], (fun w' => Lc w' b4 #[x26, y26] 27)), ([3], (fun w' => Lc w' b5 #[(.bool false), (.slice ro11 k28 rc11)] 27))] [(true, 0), (true, 1), (false, 2), (false, 3), (true, 4)] (by kernel_rfl) (by kernel_rfl) (by kernel_rfl) (by decide) (fun _ _ _ _ _ h => h) trivial ⟨fun _ => L4, fun _ => L5, trivial⟩ ?_
 refine tw 49 (.agg #[x26, y26]) rfl (fun w' hS => (rl 27 0 [x26, y26] (hS.2.1 (by kernel_rfl)))) ?_
 simp only [p3, p4]
 refine tw 50 (.agg #[(.bool false), (.slice ro11 k28 rc11)]) rfl (fun w' hS => (rl 27 0 [(.bool false), (.slice ro11 k28 rc11)] (hS.2.2.1 (by kernel_rfl)))) ?_
 simp only [p3, p4]
 refine te ?_
 refine es 27 0 (.agg #[x26, y26]) [x26, y26] #[x26, y26] L4 hB q4 ⟨h26.one0, h26.one1, trivial⟩ fun w42 st42 kp42 L4 hB => ?_
 replace L5 := st42.lc L5 (Ne.symm ne4_5)
 refine ⟨trivial, ⟨cameT (by kernel_rfl), fun _ => L5, trivial⟩, ?_⟩
 refine te ?_
 refine es 27 0 (.agg #[(.bool false), (.slice ro11 k28 rc11)]) [(.bool false), (.slice ro11 k28 rc11)] #[(.bool false), (.slice ro11 k28 rc11)] L5 hB q5 ⟨rfl, rfl, trivial⟩ fun w44 st44 kp44 L5 hB => ?_
 refine ⟨trivial, ⟨cameT (by kernel_rfl), cameT (by kernel_rfl), trivial⟩, ?_⟩
 refine tv 6 (.int .i64 0) ?_
 simp only [p3, p4]
 refine ort_nil ?_
 refine k38 _ _ ?_
 try clear k38 K38
 refine wp_ret ?_
 replace L4 := st44.lc L4 ne4_5
 refine bodyPost_ret (v := (.tuple #[(.agg #[x26, y26]), (.agg #[(.bool false), (.slice ro11 k28 rc11)]), (.int .i64 0)])) (ret_cell2_tmp' _ _ _ _ _ _ rfl rfl rfl L4 (by kernel_rfl) L5 (by kernel_rfl) rfl) rfl ⟨?_, hB⟩
 have kq45 := g28.kp.trans (kp31.trans (kp33.trans (g36.kp.trans (gd40.kp.trans (kp42.trans kp44)))))
 replace h26 := h26.kp kq45
 have kq46 := g36.kp.trans (gd40.kp.trans (kp42.trans kp44))
 replace h28 := h28.kp kq46
 exact ⟨_, _, _, _, rfl, h26, h28⟩

set_option maxRecDepth 100000 in
set_option maxHeartbeats 1000000 in
theorem divmod_t {w : World} {K m : Nat} {a b : Int} {ao bo : Option Addr} {la lb ca cb : Nat} (ha : Mag w ao la ca a) (hb : Mag w bo lb cb b) (hu : IsInt w m (.bool false) (.slice bo lb cb) b) (_hla : la ≤ 1000000) (_hlb : lb ≤ 1000000) (_hb0 : 0 < b) (hR : 0 < a % b) (_hL : a % b < b) (_hQ : 0 ≤ a / b) (hZ : Sz K (-(a / b))) (_hK : K + 64 + 1 ≤ 1000000) (_hm : m + m + 1 ≤ 1000000) :
    Calls Tryz.prog 102 #[(.agg #[(.bool true), (.slice ao la ca)]), (.agg #[(.bool false), (.slice bo lb cb)])] w fun e w' => (∃ x' y' x3 y3, e = .returned (.tuple #[.agg #[x', y'], .agg #[x3, y3], .int .i64 0]) ∧ IsInt w' (K + 64 + 1) x' y' (-(a / b) - 1) ∧ IsInt w' (m + m + 1) x3 y3 (-(a % b) + b)) ∧ Gr w w' := by
 go_enter Tryz.func102, Tryz.ntmps102
 have hB := Gr.refl w
 refine wp_seq_k (fun K1 k1 => ?_)
 refine rg [0, 1, 2, 3, 4] ?_
 refine se ?_
 refine eb 27 #[(.bool true), (.slice ao la ca)] 2 hB fun b2 w2 g2 L2 o2 q2 hB => ?_
 simp only [p3, p4]
 refine se ?_
 refine eb 27 #[(.bool false), (.slice bo lb cb)] 3 hB fun b3 w3 g3 L3 o3 q3 hB => ?_
 simp only [p3, p4]
 refine se ?_
 refine ea 27 #[(.bool false), (.slice none 0 0)] 4 hB fun b4 w4 g4 L4 o4 q4 hB => ?_
 replace L2 := L2.gr g3
 have ne2_4 := L2.ne o4
 have ne3_4 := L3.ne o4
 simp only [p3, p4]
 refine se ?_
 refine ea 27 #[(.bool false), (.slice none 0 0)] 5 hB fun b5 w5 g5 L5 o5 q5 hB => ?_
 replace L2 := L2.gr g4
 have ne2_5 := L2.ne o5
 replace L3 := L3.gr g4
 have ne3_5 := L3.ne o5
 have ne4_5 := L4.ne o5
 simp only [p3, p4]
 refine sv 6 (.int .i64 0) ?_
 simp only [p3, p4]
 refine sq_nil ?_
 refine k1 _ _ ?_
 try clear k1 K1
 refine wp_seq_k (fun K6 k6 => ?_)
 refine wp_seq_k (fun K7 k7 => ?_)
 refine rg [0, 1, 2] ?_
 replace L3 := L3.gr g5
 refine sw 9 (.agg #[(.bool false), (.slice bo lb cb)]) rfl (rl 27 0 [(.bool false), (.slice bo lb cb)] L3) ?_
 simp only [p3, p4]
 refine se ?_
 have kq9 := g2.kp.trans (g3.kp.trans (g4.kp.trans g5.kp))
 replace hu := hu.kp kq9
 refine ec 10 (sign_pos hu (by omega)) ?_
 rintro e8 w8 ⟨rfl, g8⟩
 refine ⟨_, rfl, ?_⟩
 replace hB := hB.trans g8
 simp only [p3, p4]
 refine sv 11 (.bool false) ?_
 simp only [p3, p4]
 refine sq_nil ?_
 refine k7 _ _ ?_
 try clear k7 K7
 refine wp_cond_false rfl ?_
 refine wp_skip ?_
 refine k6 _ _ ?_
 try clear k6 K6
 refine wp_seq_k (fun K10 k10 => ?_)
 refine rg [0, 1, 2, 3, 4, 5, 6, 7, 8, 9] ?_
 refine sv 15 (.pointer (some ⟨b2, 1, none⟩)) ?_
 simp only [p3, p4]
 replace L2 := L2.gr (g5.trans g8)
 refine sw 16 (.slice ao la ca) rfl (rk 25 1 L2) ?_
 simp only [p3, p4]
 refine sv 17 (.pointer (some ⟨b3, 1, none⟩)) ?_
 simp only [p3, p4]
 replace L3 := L3.gr g8
 refine sw 18 (.slice bo lb cb) rfl (rk 25 1 L3) ?_
 simp only [p3, p4]
 refine se ?_
 have kq12 := g2.kp.trans (g3.kp.trans (g4.kp.trans (g5.kp.trans g8.kp)))
 replace ha := ha.kp kq12
 replace hb := hb.kp kq12
 refine ec 19 (divide_m ha hb (by omega) (by omega) (by omega)) ?_
 rintro e11 w11 ⟨⟨qo11, qk11, qc11, ro11, rk11, rc11, rfl, hq11, hr11⟩, g11⟩
 refine ⟨_, rfl, ?_⟩
 replace hB := hB.trans g11
 simp only [p3, p4]
 refine sv 14 (.tuple #[(.slice qo11 qk11 qc11), (.slice ro11 rk11 rc11)]) ?_
 simp only [p3, p4]
 refine sv 20 (.slice qo11 qk11 qc11) ?_
 simp only [p3, p4]
 refine sv 21 (.slice ro11 rk11 rc11) ?_
 simp only [p3, p4]
 refine sv 7 (.slice qo11 qk11 qc11) ?_
 simp only [p3, p4]
 refine sv 8 (.slice ro11 rk11 rc11) ?_
 simp only [p3, p4]
 refine sq_nil ?_
 refine k10 _ _ ?_
 try clear k10 K10
 refine wp_seq_k (fun K13 k13 => ?_)
 have gd24 := Gr.drew w11
 replace hB := hB.trans gd24
 replace L2 := L2.gr (g11.trans gd24)
 replace L3 := L3.gr (g11.trans gd24)
 refine wp_region_ord (fun w' => Lc w' b2 #[(.bool true), (.slice ao la ca)] 27 ∧ Lc w' b3 #[(.bool false), (.slice bo lb cb)] 27) [(true, 0), (true, 1), (true, 2), (true, 3), (true, 4), (true, 5), (true, 7), (true, 8), (true, 9), (false, 6), (false, 10), (false, 11), (false, 12)] (by kernel_rfl) (by kernel_rfl) (by kernel_rfl) (by decide) (fun _ _ _ _ _ h => h) ⟨L2, L3⟩ ?_
 refine ov 22 (.pointer (some ⟨b2, 0, none⟩)) ?_
 simp only [p3, p4]
 refine ow 23 (.bool true) rfl (fun w' hS => (rk 4 0 hS.1)) ?_
 simp only [p3, p4]
 refine ov 24 (.pointer (some ⟨b3, 0, none⟩)) ?_
 simp only [p3, p4]
 refine ow 25 (.bool false) rfl (fun w' hS => (rk 4 0 hS.2)) ?_
 simp only [p3, p4]
 refine ov 26 (.bool true) ?_
 simp only [p3, p4]
 refine ov 27 (.slice qo11 qk11 qc11) ?_
 simp only [p3, p4]
 refine ov 29 (.pointer (some ⟨b2, 0, none⟩)) ?_
 simp only [p3, p4]
 refine ow 30 (.bool true) rfl (fun w' hS => (rk 4 0 hS.1)) ?_
 simp only [p3, p4]
 refine ov 31 (.slice ro11 rk11 rc11) ?_
 simp only [p3, p4]
 refine oe ?_
 replace hq11 := hq11.kp gd24.kp
 refine ec 28 (signed_z (neg := true) (Z := (-(a / b))) hq11 (by omega) (fun _ => by simp; omega) hZ (by omega)) ?_
 rintro e26 w26 ⟨⟨x26, y26, rfl, h26⟩, g26⟩
 refine ⟨_, rfl, ?_⟩
 replace hB := hB.trans g26
 replace L2 := L2.gr g26
 replace L3 := L3.gr g26
 refine ⟨⟨L2, L3⟩, ?_⟩
 simp only [p3, p4]
 refine oe ?_
 have kq29 := gd24.kp.trans g26.kp
 replace hr11 := hr11.kp kq29
 refine ec 32 (signed_pt hr11 hR (Sz.of_le hu.sz (by omega)) (by omega)) ?_
 rintro e28 w28 ⟨⟨k28, rfl, h28⟩, g28⟩
 refine ⟨_, rfl, ?_⟩
 replace hB := hB.trans g28
 replace L2 := L2.gr g28
 replace L3 := L3.gr g28
 refine ⟨⟨L2, L3⟩, ?_⟩
 simp only [p3, p4]
 refine oe ?_
 replace L4 := L4.gr (g5.trans (g8.trans (g11.trans (gd24.trans (g26.trans g28)))))
 refine es 27 0 (.agg #[x26, y26]) [x26, y26] #[x26, y26] L4 hB q4 ⟨h26.one0, h26.one1, trivial⟩ fun w31 st31 kp31 L4 hB => ?_
 replace L2 := st31.lc L2 ne2_4
 replace L3 := st31.lc L3 ne3_4
 refine ⟨⟨L2, L3⟩, ?_⟩
 refine oe ?_
 replace L5 := st31.lc (L5.gr (g8.trans (g11.trans (gd24.trans (g26.trans g28))))) (Ne.symm ne4_5)
 refine es 27 0 (.agg #[(.bool true), (.slice ro11 k28 rc11)]) [(.bool true), (.slice ro11 k28 rc11)] #[(.bool true), (.slice ro11 k28 rc11)] L5 hB q5 ⟨rfl, rfl, trivial⟩ fun w33 st33 kp33 L5 hB => ?_
 replace L2 := st33.lc L2 ne2_5
 replace L3 := st33.lc L3 ne3_5
 refine ⟨⟨L2, L3⟩, ?_⟩
 refine ord_nil ?_
 refine k13 _ _ ?_
 try clear k13 K13
 refine wp_seq_k (fun K34 k34 => ?_)
 refine wp_seq_k (fun K35 k35 => ?_)
 refine rg [0, 1, 2, 3, 4, 5, 6, 7, 8, 9] ?_
 refine sw 33 (.agg #[(.bool true), (.slice ro11 k28 rc11)]) rfl (rl 27 0 [(.bool true), (.slice ro11 k28 rc11)] L5) ?_
 simp only [p3, p4]
 refine se ?_
 have kq37 := kp31.trans kp33
 replace h28 := h28.kp kq37
 refine ec 34 (sign_neg h28 (by omega)) ?_
 rintro e36 w36 ⟨rfl, g36⟩
 refine ⟨_, rfl, ?_⟩
 replace hB := hB.trans g36
 simp only [p3, p4]
 refine sv 35 (.bool true) ?_
 simp only [p3, p4]
 refine sv 36 (.bool true) ?_
 simp only [p3, p4]
 refine sv 37 (.pointer (some ⟨b5, 0, none⟩)) ?_
 simp only [p3, p4]
 replace L5 := L5.gr g36
 refine sw 38 (.bool true) rfl (rk 4 0 L5) ?_
 simp only [p3, p4]
 refine sv 39 (.pointer (some ⟨b3, 0, none⟩)) ?_
 simp only [p3, p4]
 replace L3 := L3.gr g36
 refine sw 40 (.bool false) rfl (rk 4 0 L3) ?_
 simp only [p3, p4]
 refine sv 41 (.bool true) ?_
 simp only [p3, p4]
 refine sv 42 (.bool true) ?_
 simp only [p3, p4]
 refine sq_nil ?_
 refine k35 _ _ ?_
 try clear k35 K35
 refine wp_cond_true rfl ?_
 have gd39 := Gr.drew w36
 replace hB := hB.trans gd39
 replace L3 := L3.gr gd39
 replace L4 := (st33.lc L4 ne4_5).gr (g36.trans gd39)
 replace L5 := L5.gr gd39
 refine wp_region_ort (fun w' => Lc w' b3 #[(.bool false), (.slice bo lb cb)] 27) [([6], (fun w' => Lc w' b4 #[x26, y26] 27)), ([7], (fun w' => Lc w' b5 #[(.bool true), (.slice ro11 k28 rc11)] 27))] [(true, 0), (true, 3), (true, 4), (false, 1), (false, 2), (false, 5), (false, 6), (false, 7)] (by kernel_rfl) (by kernel_rfl) (by kernel_rfl) (by decide) (fun _ _ _ _ _ h => h) L3 ⟨fun _ => L4, fun _ => L5, trivial⟩ ?_
 refine tw 43 (.agg #[x26, y26]) rfl (fun w' hS => (rl 27 0 [x26, y26] (hS.2.1 (by kernel_rfl)))) ?_
 simp only [p3, p4]
 refine tw 46 (.agg #[(.bool true), (.slice ro11 k28 rc11)]) rfl (fun w' hS => (rl 27 0 [(.bool true), (.slice ro11 k28 rc11)] (hS.2.2.1 (by kernel_rfl)))) ?_
 simp only [p3, p4]
 refine tw 47 (.agg #[(.bool false), (.slice bo lb cb)]) rfl (fun w' hS => (rl 27 0 [(.bool false), (.slice bo lb cb)] hS.1)) ?_
 simp only [p3, p4]
 refine te ?_
 refine ec 44 (from_i (1) (by omega) (by omega) _) ?_
 rintro e41 w41 ⟨⟨x41, y41, rfl, h41⟩, g41⟩
 refine ⟨_, rfl, ?_⟩
 replace hB := hB.trans g41
 replace L3 := L3.gr g41
 replace L4 := L4.gr g41
 replace L5 := L5.gr g41
 refine ⟨L3, ⟨fun _ => L4, fun _ => L5, trivial⟩, ?_⟩
 simp only [p3, p4]
 refine te ?_
 have kq44 := g28.kp.trans (kp31.trans (kp33.trans (g36.kp.trans (gd39.kp.trans g41.kp))))
 replace h26 := h26.kp kq44
 refine ec 45 (sub_i h26 h41 (by omega)) ?_
 rintro e43 w43 ⟨⟨x43, y43, rfl, h43⟩, g43⟩
 refine ⟨_, rfl, ?_⟩
 replace hB := hB.trans g43
 replace L3 := L3.gr g43
 replace L4 := L4.gr g43
 replace L5 := L5.gr g43
 refine ⟨L3, ⟨fun _ => L4, fun _ => L5, trivial⟩, ?_⟩
 simp only [p3, p4]
 refine te ?_
 have kq47 := g36.kp.trans (gd39.kp.trans (g41.kp.trans g43.kp))
 replace h28 := h28.kp kq47
 have kq48 := g8.kp.trans (g11.kp.trans (gd24.kp.trans (g26.kp.trans (g28.kp.trans (kp31.trans (kp33.trans (g36.kp.trans (gd39.kp.trans (g41.kp.trans g43.kp)))))))))
 replace hu := hu.kp kq48
 refine ec 48 (add_i h28 hu (by omega)) ?_
 rintro e46 w46 ⟨⟨x46, y46, rfl, h46⟩, g46⟩
 refine ⟨_, rfl, ?_⟩
 replace hB := hB.trans g46
 replace L3 := L3.gr g46
 replace L4 := L4.gr g46
 replace L5 := L5.gr g46
 refine ⟨L3, ⟨fun _ => L4, fun _ => L5, trivial⟩, ?_⟩
 simp only [p3, p4]
 refine te ?_
 refine es 27 0 (.agg #[x43, y43]) [x43, y43] #[x43, y43] L4 hB q4 ⟨h43.one0, h43.one1, trivial⟩ fun w50 st50 kp50 L4 hB => ?_
 replace L3 := st50.lc L3 ne3_4
 replace L5 := st50.lc L5 (Ne.symm ne4_5)
 refine ⟨L3, ⟨cameT (by kernel_rfl), fun _ => L5, trivial⟩, ?_⟩
 refine te ?_
 refine es 27 0 (.agg #[x46, y46]) [x46, y46] #[x46, y46] L5 hB q5 ⟨h46.one0, h46.one1, trivial⟩ fun w52 st52 kp52 L5 hB => ?_
 replace L3 := st52.lc L3 ne3_5
 refine ⟨L3, ⟨cameT (by kernel_rfl), cameT (by kernel_rfl), trivial⟩, ?_⟩
 refine ort_nil ?_
 refine k34 _ _ ?_
 try clear k34 K34
 refine wp_seq_k (fun K53 k53 => ?_)
 have gd55 := Gr.drew w52
 replace hB := hB.trans gd55
 replace L4 := (st52.lc L4 ne4_5).gr gd55
 replace L5 := L5.gr gd55
 refine wp_region_ort (fun _ => True) [([2], (fun w' => Lc w' b4 #[x43, y43] 27)), ([3], (fun w' => Lc w' b5 #[x46, y46] 27))] [(true, 0), (true, 1), (false, 2), (false, 3), (true, 4)] (by kernel_rfl) (by kernel_rfl) (by kernel_rfl) (by decide) (fun _ _ _ _ _ h => h) trivial ⟨fun _ => L4, fun _ => L5, trivial⟩ ?_
 refine tw 49 (.agg #[x43, y43]) rfl (fun w' hS => (rl 27 0 [x43, y43] (hS.2.1 (by kernel_rfl)))) ?_
 simp only [p3, p4]
 refine tw 50 (.agg #[x46, y46]) rfl (fun w' hS => (rl 27 0 [x46, y46] (hS.2.2.1 (by kernel_rfl)))) ?_
 simp only [p3, p4]
 refine te ?_
 refine es 27 0 (.agg #[x43, y43]) [x43, y43] #[x43, y43] L4 hB q4 ⟨h43.one0, h43.one1, trivial⟩ fun w57 st57 kp57 L4 hB => ?_
 replace L5 := st57.lc L5 (Ne.symm ne4_5)
 refine ⟨trivial, ⟨cameT (by kernel_rfl), fun _ => L5, trivial⟩, ?_⟩
 refine te ?_
 refine es 27 0 (.agg #[x46, y46]) [x46, y46] #[x46, y46] L5 hB q5 ⟨h46.one0, h46.one1, trivial⟩ fun w59 st59 kp59 L5 hB => ?_
 refine ⟨trivial, ⟨cameT (by kernel_rfl), cameT (by kernel_rfl), trivial⟩, ?_⟩
 refine tv 6 (.int .i64 0) ?_
 simp only [p3, p4]
 refine ort_nil ?_
 refine k53 _ _ ?_
 try clear k53 K53
 refine wp_ret ?_
 replace L4 := st59.lc L4 ne4_5
 refine bodyPost_ret (v := (.tuple #[(.agg #[x43, y43]), (.agg #[x46, y46]), (.int .i64 0)])) (ret_cell2_tmp' _ _ _ _ _ _ rfl rfl rfl L4 (by kernel_rfl) L5 (by kernel_rfl) rfl) rfl ⟨?_, hB⟩
 have kq60 := g46.kp.trans (kp50.trans (kp52.trans (gd55.kp.trans (kp57.trans kp59))))
 replace h43 := h43.kp kq60
 have kq61 := kp50.trans (kp52.trans (gd55.kp.trans (kp57.trans kp59)))
 replace h46 := h46.kp kq61
 exact ⟨_, _, _, _, rfl, h43, h46⟩

set_option maxRecDepth 100000 in
set_option maxHeartbeats 1000000 in
theorem one_i (w : World) :
    Calls Tryz.prog 91 #[] w fun e w' => (∃ x' y', e = .returned (.agg #[x', y']) ∧ IsInt w' 64 x' y' (1)) ∧ Gr w w' := by
 go_enter Tryz.func91, Tryz.ntmps91
 have hB := Gr.refl w
 refine wp_seq_k (fun K1 k1 => ?_)
 refine rg [0] ?_
 refine se ?_
 refine ea 27 #[(.bool false), (.slice none 0 0)] 0 hB fun b2 w2 g2 L2 o2 q2 hB => ?_
 simp only [p3]
 refine sq_nil ?_
 refine k1 _ _ ?_
 try clear k1 K1
 refine wp_seq_k (fun K3 k3 => ?_)
 refine rg [0, 1] ?_
 refine se ?_
 refine ec 1 (from_i (1) (by omega) (by omega) _) ?_
 rintro e4 w4 ⟨⟨x4, y4, rfl, h4⟩, g4⟩
 refine ⟨_, rfl, ?_⟩
 replace hB := hB.trans g4
 simp only [p3, p4]
 refine se ?_
 replace L2 := L2.gr g4
 refine es 27 0 (.agg #[x4, y4]) [x4, y4] #[x4, y4] L2 hB q2 ⟨h4.one0, h4.one1, trivial⟩ fun w5 st5 kp5 L2 hB => ?_
 refine sq_nil ?_
 refine k3 _ _ ?_
 try clear k3 K3
 refine wp_ret ?_
 refine bodyPost_ret (v := (.agg #[x4, y4])) (ret_cell _ _ _ rfl rfl L2 (by kernel_rfl)) rfl ⟨?_, hB⟩
 replace h4 := h4.kp kp5
 exact ⟨_, _, rfl, h4⟩

end Go.Proofs.YtloocadjbpgldaaGreatDoor
/- The contracts of DivMod and Compare. -/
namespace Go.Proofs.YtloocadjbpgldaaGreatDoor
open Go.RowKit

theorem divmod_i {k m : Nat} {x y x2 y2 : Value} {z u : Int} {w : World} (hz : IsInt w k x y z) (hu : IsInt w m x2 y2 u) (hu0 : 0 < u) (hkm : k + k + m + m + 66 ≤ 1000000) :
    Calls Tryz.prog 102 #[.agg #[x, y], .agg #[x2, y2]] w fun e w' => (∃ x' y' x3 y3, e = .returned (.tuple #[.agg #[x', y'], .agg #[x3, y3], .int .i64 0]) ∧ IsInt w' k x' y' (z / u) ∧ IsInt w' m x3 y3 (z % u)) ∧ Gr w w' := by
  have hu' := hu
  obtain ⟨ao, la, ca, rfl, rfl, ha, hs⟩ := hz
  obtain ⟨bo, lb, cb, rfl, rfl, hb, ht⟩ := hu
  have hla := ha.nl.len_sz hs.nat
  have hlb := hb.nl.len_sz ht.nat
  have e0 : ((u.natAbs : Nat) : Int) = u := by omega
  have e1 : decide (u < 0) = false := by simp; omega
  rw [e1] at hu' ⊢
  rw [e0] at hb
  have hM := Int.emod_nonneg (z.natAbs : Int) (b := u) (by omega)
  have hL := Int.emod_lt_of_pos (z.natAbs : Int) hu0
  have hQ : 0 ≤ (z.natAbs : Int) / u := Int.ediv_nonneg (by omega) (by omega)
  have hD := Int.mul_ediv_add_emod (z.natAbs : Int) u
  have hqle : (z.natAbs : Int) / u ≤ (z.natAbs : Int) := Int.ediv_le_self _ (by omega)
  have hkk : Sz k (z / u) := by
    refine hs.of_le ?_
    rcases Int.lt_or_le z 0 with h | h
    · have h1 : z ≤ z / u := by
        rw [Int.le_ediv_iff_mul_le hu0]
        have : z * u ≤ z * 1 := Int.mul_le_mul_of_nonpos_left (by omega) (by omega)
        omega
      have h2 : z / u < 0 := Int.ediv_neg_of_neg_of_pos h hu0
      omega
    · have h1 : z / u ≤ z := Int.ediv_le_self _ h
      have h2 : 0 ≤ z / u := Int.ediv_nonneg h (by omega)
      omega
  have hmm : Sz m (z % u) := by
    refine ht.of_le ?_
    have := Int.emod_nonneg z (b := u) (by omega)
    have := Int.emod_lt_of_pos z hu0
    omega
  -- z in terms of its magnitude
  have key : ∀ q r : Int, z = u * q + r → 0 ≤ r → r < u → z / u = q ∧ z % u = r := fun q r h h0 h1 => by
    rw [Int.ediv_emod_unique hu0]
    exact ⟨by omega, h0, h1⟩
  by_cases h0 : (z.natAbs : Int) % u = 0
  · have hk := key (if z < 0 then -((z.natAbs : Int) / u) else (z.natAbs : Int) / u) 0 (by
      split
      · rw [Int.mul_neg]; omega
      · omega) (by omega) hu0
    refine (divmod_0 (Z := z / u) (K := k) ha hb hu' (by omega) (by omega) hu0 h0 ?_ (fun hp => ?_) hkk (by omega) (by omega)).mono ?_
    · rw [hk.1]; split <;> omega
    · rw [hk.1]
      by_cases hz0 : z < 0
      · simp [hz0]; omega
      · simp [hz0]; omega
    · rintro e w1 ⟨⟨x', y', x3, y3, he, h1, h2⟩, g⟩
      exact ⟨⟨x', y', x3, y3, he, h1, by rw [hk.2]; exact h2⟩, g⟩
  · by_cases hz0 : z < 0
    · have e2 : decide (z < 0) = true := by simpa using hz0
      rw [e2]
      have hk := key (-((z.natAbs : Int) / u) - 1) (-((z.natAbs : Int) % u) + u) (by
        rw [Int.mul_sub, Int.mul_neg]; omega) (by omega) (by omega)
      refine (divmod_t (K := k) ha hb hu' (by omega) (by omega) hu0 (by omega) hL hQ (hs.of_le (by omega)) (by omega) (by omega)).mono ?_
      rintro e w1 ⟨⟨x', y', x3, y3, he, h1, h2⟩, g⟩
      rw [← hk.1] at h1
      rw [← hk.2] at h2
      exact ⟨⟨x', y', x3, y3, he, h1.resz hkk, h2.resz hmm⟩, g⟩
    · have e2 : decide (z < 0) = false := by simpa using hz0
      rw [e2]
      have ez : (z.natAbs : Int) = z := by omega
      refine (divmod_f (K := k) ha hb hu' (by omega) (by omega) hu0 (by omega) hL hQ (by rw [ez]; exact hkk) (by omega) (by omega)).mono ?_
      rintro e w1 ⟨⟨x', y', x3, y3, he, h1, h2⟩, g⟩
      rw [ez] at h1 h2
      exact ⟨⟨x', y', x3, y3, he, h1, h2⟩, g⟩

theorem compare_i {k m : Nat} {x y x2 y2 : Value} {z u : Int} {w : World} (hz : IsInt w k x y z) (hu : IsInt w m x2 y2 u) (hk : k ≤ 1000000) (hm : m ≤ 1000000) :
    Calls Tryz.prog 45 #[.agg #[x, y], .agg #[x2, y2]] w fun e w' => e = .returned (.int .i64 (sgn (z - u))) ∧ Gr w w' := by
  obtain ⟨ao, la, ca, rfl, rfl, ha, hs⟩ := hz
  obtain ⟨bo, lb, cb, rfl, rfl, hb, ht⟩ := hu
  have hla := ha.nl.len_sz hs.nat
  have hlb := hb.nl.len_sz ht.nat
  by_cases h1 : z < 0 <;> by_cases h2 : u < 0
  · have d1 : decide (z < 0) = true := by simpa using h1
    have d2 : decide (u < 0) = true := by simpa using h2
    rw [d1, d2]
    have e : z - u = (u.natAbs : Int) - (z.natAbs : Int) := by omega
    rw [e]; exact cmp_tt ha hb (by omega) (by omega)
  · have d1 : decide (z < 0) = true := by simpa using h1
    have d2 : decide (u < 0) = false := by simpa using h2
    rw [d1, d2, sgn_neg (by omega)]; exact cmp_tf ha hb (by omega) (by omega)
  · have d1 : decide (z < 0) = false := by simpa using h1
    have d2 : decide (u < 0) = true := by simpa using h2
    rw [d1, d2, sgn_pos (by omega)]; exact cmp_ft ha hb (by omega) (by omega)
  · have d1 : decide (z < 0) = false := by simpa using h1
    have d2 : decide (u < 0) = false := by simpa using h2
    rw [d1, d2]
    have e : z - u = (z.natAbs : Int) - (u.natAbs : Int) := by omega
    rw [e]; exact cmp_ff ha hb (by omega) (by omega)

/-! ### rationals -/
/-- the four cells of a rational -/
structure IsRat (w : World) (k : Nat) (c0 c1 c2 c3 : Value) (q : Rat) : Prop where
  num : IsInt w k c0 c1 q.num
  den : ∃ D, IsInt w k c2 c3 D ∧ (D = (q.den : Int) ∨ D = 0 ∧ q.den = 1)
  big : 64 ≤ k
theorem IsRat.kp {w w' : World} {k : Nat} {c0 c1 c2 c3 : Value} {q : Rat} (h : IsRat w k c0 c1 c2 c3 q) (hb : Kp w w') : IsRat w' k c0 c1 c2 c3 q := by
  obtain ⟨h1, ⟨D, h2, h3⟩, h4⟩ := h
  exact ⟨h1.kp hb, ⟨D, h2.kp hb, h3⟩, h4⟩
theorem IsRat.gr {w w' : World} {k : Nat} {c0 c1 c2 c3 : Value} {q : Rat} (h : IsRat w k c0 c1 c2 c3 q) (hb : Gr w w') : IsRat w' k c0 c1 c2 c3 q := h.kp hb.kp
theorem IsRat.one0 {w : World} {k : Nat} {c0 c1 c2 c3 : Value} {q : Rat} (h : IsRat w k c0 c1 c2 c3 q) : c0.oneCell' = true := h.num.one0
theorem IsRat.one1 {w : World} {k : Nat} {c0 c1 c2 c3 : Value} {q : Rat} (h : IsRat w k c0 c1 c2 c3 q) : c1.oneCell' = true := h.num.one1
theorem IsRat.one2 {w : World} {k : Nat} {c0 c1 c2 c3 : Value} {q : Rat} (h : IsRat w k c0 c1 c2 c3 q) : c2.oneCell' = true := by
  obtain ⟨D, h2, _⟩ := h.den; exact h2.one0
theorem IsRat.one3 {w : World} {k : Nat} {c0 c1 c2 c3 : Value} {q : Rat} (h : IsRat w k c0 c1 c2 c3 q) : c3.oneCell' = true := by
  obtain ⟨D, h2, _⟩ := h.den; exact h2.one1
theorem IsRat.mono {w : World} {k m : Nat} {c0 c1 c2 c3 : Value} {q : Rat} (h : IsRat w k c0 c1 c2 c3 q) (hk : k ≤ m) : IsRat w m c0 c1 c2 c3 q := by
  obtain ⟨h1, ⟨D, h2, h3⟩, h4⟩ := h
  exact ⟨h1.mono hk, ⟨D, h2.mono hk, h3⟩, Nat.le_trans h4 hk⟩
theorem IsRat.zero (w : World) {k : Nat} (hk : 64 ≤ k) : IsRat w k (.bool false) (.slice none 0 0) (.bool false) (.slice none 0 0) 0 :=
  ⟨IsInt.zero w k, ⟨0, IsInt.zero w k, .inr ⟨rfl, rfl⟩⟩, hk⟩
theorem IsRat.int {w : World} {k : Nat} {c0 c1 : Value} {z : Int} (h : IsInt w k c0 c1 z) (hk : 64 ≤ k) : IsRat w k c0 c1 (.bool false) (.slice none 0 0) (z : Rat) :=
  ⟨h, ⟨0, IsInt.zero w k, .inr ⟨rfl, rfl⟩⟩, hk⟩
end Go.Proofs.YtloocadjbpgldaaGreatDoor
/- What the text of an integer asks. -/
namespace Go.Proofs.YtloocadjbpgldaaGreatDoor
open Go.RowKit

theorem itoa_n (n : Nat) (h1 : n < 1000000000) {w : World} (ht : Tab w) :
    Calls Tryz.prog 87 #[.int .i64 (n : Int)] w fun e w' => e = .returned (.string ⟨(Lib.decDigits n).toArray⟩) ∧ Gr w w' := itoa_t n (by omega) (by omega) ht
theorem short9 {ao : Option Addr} {la ca u : Nat} {w : World} (h : Mag w ao la ca (u : Int)) (hl : la ≤ 1000000) :
    Calls Tryz.prog 86 #[.slice ao la ca, .int .u32 1000000000] w fun e w' =>
      (∃ go k cap, e = .returned (.tuple #[.slice go k cap, .int .u32 ((u % 1000000000 : Nat) : Int)]) ∧ Mag w' go k cap ((u / 1000000000 : Nat) : Int)) ∧ Gr w w' :=
  short_c ao la ca u 1000000000 w (by omega) h (by omega) (by omega)
theorem Mag.pos0 {w : World} {ao : Option Addr} {la ca u : Nat} (h : Mag w ao la ca (u : Int)) (hb : decide ((0 : Int) < (la : Int)) = true) : 0 < u := by
  have h0 : (0 : Int) < la := by simpa using hb
  rcases Nat.eq_zero_or_pos u with e | e
  · have := h.nl.len_zero.2 (by omega); omega
  · exact e
theorem Mag.zero0 {w : World} {ao : Option Addr} {la ca u : Nat} (h : Mag w ao la ca (u : Int)) (hb : decide ((0 : Int) < (la : Int)) = false) : u = 0 := by
  have h0 : ¬ (0 : Int) < la := by simpa using hb
  have := h.nl.len_zero.1 (by omega)
  omega
theorem Mag.len9 {w : World} {ao : Option Addr} {la ca u k : Nat} (h : Mag w ao la ca (u : Int)) (hu : u < 2 ^ k) (hk : k ≤ 1000000) : la ≤ 1000000 := by
  have := h.nl.len_sz (show Sz k (u : Int) by unfold Sz; simpa using hu)
  omega
end Go.Proofs.YtloocadjbpgldaaGreatDoor
/- Printed by a program of the prover's: the text of an integer. -/
namespace Go.Proofs.YtloocadjbpgldaaGreatDoor
open Go.RowKit


set_option maxRecDepth 100000 in
set_option maxHeartbeats 4000000 in
theorem text_pos {k N : Nat} {s : Bool} {ao : Option Addr} {la ca : Nat} {w : World} (ha : Mag w ao la ca (N : Int)) (hN : 0 < N) (hNk : N < 2 ^ k) (_hk : k ≤ 900000) (ht : Tab w) :
    Calls Tryz.prog 23 #[(.agg #[(.bool (s)), (.slice ao la ca)])] w fun e w' => e = .returned (.string ⟨((if s then [45] else []) ++ Lib.decDigits N).toArray⟩) ∧ Gr w w' := by
 have hla : 0 < la := by
    rcases Nat.eq_zero_or_pos la with e | e
    · have := ha.nl.len_zero.1 e; omega
    · exact e
 have e0 : ((la : Int) == (0 : Int)) = false := by simp; omega
 go_enter Tryz.func23, Tryz.ntmps23
 have hB := Gr.refl w
 refine wp_seq_k (fun K1 k1 => ?_)
 refine rg [0, 1] ?_
 refine se ?_
 refine eb 27 #[(.bool (s)), (.slice ao la ca)] 1 hB fun b2 w2 g2 L2 o2 q2 hB => ?_
 simp only [p3, p4]
 refine sv 2 (.string ⟨([] : List UInt8).toArray⟩) ?_
 simp only [p3, p4]
 refine sq_nil ?_
 refine k1 _ _ ?_
 try clear k1 K1
 refine wp_seq_k (fun K3 k3 => ?_)
 refine wp_seq_k (fun K4 k4 => ?_)
 refine rg [0, 1, 2, 3] ?_
 refine sv 9 (.pointer (some ⟨b2, 1, none⟩)) ?_
 simp only [p3, p4]
 refine sw 10 (.slice ao la ca) rfl (rk 25 1 L2) ?_
 simp only [p3, p4]
 refine sv 11 (.int .i64 ((la : Int))) ?_
 simp only [p3, p4]
 refine sw 12 (.bool false) rfl (RunV.bool (x := ((la : Int) == (0 : Int))) (rvk (by kernel_rfl)) e0) ?_
 simp only [p3, p4]
 refine sq_nil ?_
 refine k4 _ _ ?_
 try clear k4 K4
 refine wp_cond_false rfl ?_
 refine wp_skip ?_
 refine k3 _ _ ?_
 try clear k3 K3
 refine wp_seq_k (fun K5 k5 => ?_)
 refine rg [0] ?_
 refine sv 3 (.slice none 0 0) ?_
 simp only [p3, p4]
 refine sq_nil ?_
 refine k5 _ _ ?_
 try clear k5 K5
 refine wp_seq_k (fun K6 k6 => ?_)
 refine wp_seq_k (fun K7 k7 => ?_)
 refine rg [0, 1, 2] ?_
 refine sv 13 (.pointer (some ⟨b2, 1, none⟩)) ?_
 simp only [p3, p4]
 refine sw 14 (.slice ao la ca) rfl (rk 25 1 L2) ?_
 simp only [p3, p4]
 refine sv 4 (.slice ao la ca) ?_
 simp only [p3, p4]
 refine sq_nil ?_
 refine k7 _ _ ?_
 try clear k7 K7
 refine wp_block ?_
 replace ha := ha.kp g2.kp
 refine wp_loop_inv (a := ⟨List.toArray ?l8, []⟩) (fun n a w' => ∃ (u : Nat) (L : List (List UInt8)) (v : Value) (mo : Option Addr) (ml : Nat) (mc : Nat) (u8 : Nat → Value), u = n ∧ a = ⟨[(u8 0), (.pointer (some ⟨b2, 0, none⟩)), (.string ⟨([] : List UInt8).toArray⟩), v, (.slice mo ml mc), (u8 5), (u8 6), (u8 7), undef, (u8 9), (u8 10), (u8 11), (.bool false), (u8 13), (u8 14), (u8 15), (u8 16), (u8 17), (u8 18), (u8 19), (u8 20), (u8 21), (u8 22), (u8 23), (u8 24), (u8 25), (u8 26), (u8 27), (u8 28), (u8 29), (u8 30), (u8 31), (u8 32), (u8 33), (u8 34), (u8 35), (u8 36), (u8 37), (u8 38), (u8 39), undef, undef, undef, undef, undef, undef, undef, undef, undef].toArray, []⟩ ∧ L ++ grps u = grps N ∧ u < 2 ^ k ∧ Mag w' mo ml mc (u : Int) ∧ OwnS w' 9 w.heap.size v (L.map strV) ∧ Lc w' b2 #[(.bool (s)), (.slice ao la ca)] 27 ∧ Gr w w') (N) ?_ ?_
 ·exact ⟨N, [], .slice none 0 0, ao, la, ca, (fun i => List.getD ?l8 i undef), rfl, rfl, (by simp), hNk, ha, (OwnS.nil _ _ _), L2, hB⟩
 rintro n8 a8 w8 ⟨u, L, v, mo, ml, mc, u8, rfl, rfl, hX, hu, hm, hown, L2, hB⟩ K8 k8
 have hln : L.length ≤ 1000000 := by have h1 := grps_len k N hNk; rw [← hX, List.length_append] at h1; omega
 have h9 := dec9 u
 have h9r : (Lib.repeatL [48] (9 - (Lib.decDigits (u % 1000000000)).length)).length ≤ 9 := by rw [Lib.repeatL_length]; simp
 refine wp_seq_k (fun K9 k9 => ?_)
 refine wp_seq_k (fun K10 k10 => ?_)
 refine rg [0, 1, 2] ?_
 refine sv 15 (.slice mo ml mc) ?_
 simp only [p3, p4]
 refine sv 16 (.int .i64 ((ml : Int))) ?_
 simp only [p3, p4]
 refine sv 17 (.bool (decide ((0 : Int) < (ml : Int)))) ?_
 simp only [p3, p4]
 refine sq_nil ?_
 refine k10 _ _ ?_
 try clear k10 K10
 refine wp_cond_split (t := decide ((0 : Int) < (ml : Int))) rfl (fun hb11 => ?_) (fun hb11 => ?_)
 ·have hu0 := hb11
  refine wp_skip ?_
  refine k9 _ _ ?_
  try clear k9 K9
  refine wp_block ?_
  refine wp_seq_k (fun K12 k12 => ?_)
  refine rg [0, 1, 2, 3, 4, 5, 6] ?_
  refine sv 19 (.slice mo ml mc) ?_
  simp only [p3, p4]
  refine se ?_
  refine ec 20 (short9 hm (hm.len9 hu (by omega))) ?_
  rintro e13 w13 ⟨⟨go13, k13, cap13, rfl, h13⟩, g13⟩
  refine ⟨_, rfl, ?_⟩
  replace hB := hB.trans g13
  simp only [p3, p4]
  refine sv 18 (.tuple #[(.slice go13 k13 cap13), (.int .u32 (((u % 1000000000 : Nat) : Int)))]) ?_
  simp only [p3, p4]
  refine sv 21 (.slice go13 k13 cap13) ?_
  simp only [p3, p4]
  refine sv 22 (.int .u32 (((u % 1000000000 : Nat) : Int))) ?_
  simp only [p3, p4]
  refine sv 5 (.slice go13 k13 cap13) ?_
  simp only [p3, p4]
  refine sv 6 (.int .u32 (((u % 1000000000 : Nat) : Int))) ?_
  simp only [p3, p4]
  refine sq_nil ?_
  refine k12 _ _ ?_
  try clear k12 K12
  refine wp_seq_k (fun K14 k14 => ?_)
  refine rg [0, 1, 2, 3] ?_
  refine sv 23 (.int .u32 (((u % 1000000000 : Nat) : Int))) ?_
  simp only [p3, p4]
  refine sw 24 (.int .i64 (((u % 1000000000 : Nat) : Int))) rfl (RunV.int (x := IntKind.i64.wrap (((u % 1000000000 : Nat) : Int))) (y := ((u % 1000000000 : Nat) : Int)) (rvk (by kernel_rfl)) (by first | rfl | (rw [IntKind.wrap_i64]; omega))) ?_
  simp only [p3, p4]
  refine se ?_
  refine ec 25 (itoa_n (u % 1000000000) (by omega) (ht.gr hB)) ?_
  rintro e15 w15 ⟨rfl, g15⟩
  refine ⟨_, rfl, ?_⟩
  replace hB := hB.trans g15
  simp only [p3, p4]
  refine sv 7 (.string ⟨(Lib.decDigits (u % 1000000000) : List UInt8).toArray⟩) ?_
  simp only [p3, p4]
  refine sq_nil ?_
  refine k14 _ _ ?_
  try clear k14 K14
  refine wp_seq_k (fun K16 k16 => ?_)
  refine wp_seq_k (fun K17 k17 => ?_)
  refine rg [0, 1, 2] ?_
  refine sv 26 (.slice go13 k13 cap13) ?_
  simp only [p3, p4]
  refine sv 27 (.int .i64 ((k13 : Int))) ?_
  simp only [p3, p4]
  refine sv 28 (.bool (decide ((0 : Int) < (k13 : Int)))) ?_
  simp only [p3, p4]
  refine sq_nil ?_
  refine k17 _ _ ?_
  try clear k17 K17
  refine wp_cond_split (t := decide ((0 : Int) < (k13 : Int))) rfl (fun hb18 => ?_) (fun hb18 => ?_)
  ·refine rg [0, 1, 2, 3, 4, 5, 6] ?_
   refine sv 29 (.string ⟨(Lib.decDigits (u % 1000000000) : List UInt8).toArray⟩) ?_
   simp only [p3, p4]
   refine sv 30 (.int .i64 (((Lib.decDigits (u % 1000000000)).length : Int))) ?_
   simp only [p3, p4]
   refine sw 31 (.int .i64 ((9 - ((Lib.decDigits (u % 1000000000)).length : Int)))) rfl (RunV.int (x := IntKind.i64.wrap ((9 - ((Lib.decDigits (u % 1000000000)).length : Int)))) (y := (9 - ((Lib.decDigits (u % 1000000000)).length : Int))) (rvk (by kernel_rfl)) (by first | rfl | (rw [IntKind.wrap_i64]; omega))) ?_
   simp only [p3, p4]
   refine se ?_
   refine ec 32 (repeat9 (Lib.decDigits (u % 1000000000)).length (dec9 u) _) ?_
   rintro e19 w19 ⟨rfl, g19⟩
   refine ⟨_, rfl, ?_⟩
   replace hB := hB.trans g19
   simp only [p3, p4]
   refine sv 33 (.string ⟨(Lib.decDigits (u % 1000000000) : List UInt8).toArray⟩) ?_
   simp only [p3, p4]
   refine sw 34 (.string ⟨((Lib.repeatL [48] (9 - (Lib.decDigits (u % 1000000000)).length)) ++ (Lib.decDigits (u % 1000000000)) : List UInt8).toArray⟩) rfl (rv_cat 9 9 _ _ (Lib.repeatL [48] (9 - (Lib.decDigits (u % 1000000000)).length)) (Lib.decDigits (u % 1000000000)) rfl rfl rfl (by omega)) ?_
   simp only [p3, p4]
   refine sv 7 (.string ⟨((Lib.repeatL [48] (9 - (Lib.decDigits (u % 1000000000)).length)) ++ (Lib.decDigits (u % 1000000000)) : List UInt8).toArray⟩) ?_
   simp only [p3, p4]
   refine sq_nil ?_
   refine k16 _ _ ?_
   try clear k16 K16
   refine wp_seq_k (fun K20 k20 => ?_)
   refine rg [0, 1, 2, 3, 4] ?_
   refine sv 35 v ?_
   simp only [p3, p4]
   refine sv 36 (.string ⟨((Lib.repeatL [48] (9 - (Lib.decDigits (u % 1000000000)).length)) ++ (Lib.decDigits (u % 1000000000)) : List UInt8).toArray⟩) ?_
   simp only [p3, p4]
   refine se ?_
   refine eff_bs 9 1 #[(.string ⟨((Lib.repeatL [48] (9 - (Lib.decDigits (u % 1000000000)).length)) ++ (Lib.decDigits (u % 1000000000)) : List UInt8).toArray⟩)] (some 37) rfl (fun _ => by kernel_rfl) (fun b21 w21 g21 L21 q21 => ?_)
   replace L2 := L2.gr (g13.trans (g15.trans g19))
   replace hB := hB.trans g21
   simp only [putl, p3, p4]
   refine se ?_
   replace hown := hown.gr (g13.trans (g15.trans (g19.trans g21)))
   refine eff_append1 _ _ 69 9 w.heap.size (.string ⟨([] : List UInt8).toArray⟩) v _ b21 (.string ⟨((Lib.repeatL [48] (9 - (Lib.decDigits (u % 1000000000)).length)) ++ (Lib.decDigits (u % 1000000000)) : List UInt8).toArray⟩) 1 (some 38) 16 rfl rfl rfl rfl hown L21 rfl w hB (Nat.le_refl _) (Below.size hB) (by rw [List.length_map]; exact hln) (by decide) (by kernel_rfl) (by kernel_rfl) rfl (fun v22 w22 own22 wt22 hb22 => ?_)
   replace hB := hb22
   replace own22 := OwnS.snoc (f := strV) own22
   simp only [putl, p3, p4]
   refine sv 3 v22 ?_
   simp only [p3, p4]
   refine sq_nil ?_
   refine k20 _ _ ?_
   try clear k20 K20
   refine rg [0, 1] ?_
   refine sv 39 (.slice go13 k13 cap13) ?_
   simp only [p3, p4]
   refine sv 4 (.slice go13 k13 cap13) ?_
   simp only [p3, p4]
   refine sq_nil ?_
   have kq23 := g15.kp.trans (g19.kp.trans (g21.kp.trans (wt22.kp (by decide))))
   replace h13 := h13.kp kq23
   replace L2 := wt22.lc (L2.gr g21) (by decide)
   refine k8 (u / 1000000000) ⟨List.toArray ?l24, []⟩ _ (Nat.div_lt_self (Mag.pos0 hm hu0) (by omega)) ?_
   exact ⟨u / 1000000000, _, v22, go13, k13, cap13, (fun i => List.getD ?l24 i undef), rfl, rfl, (grps_step hX (Mag.pos0 hm hu0) (grp_hi (Mag.pos0 h13 hb18))), (Nat.lt_of_le_of_lt (Nat.div_le_self _ _) hu), h13, own22, L2, hB⟩
  ·refine wp_skip ?_
   refine k16 _ _ ?_
   try clear k16 K16
   refine wp_seq_k (fun K25 k25 => ?_)
   refine rg [0, 1, 2, 3, 4] ?_
   refine sv 35 v ?_
   simp only [p3, p4]
   refine sv 36 (.string ⟨(Lib.decDigits (u % 1000000000) : List UInt8).toArray⟩) ?_
   simp only [p3, p4]
   refine se ?_
   refine eff_bs 9 1 #[(.string ⟨(Lib.decDigits (u % 1000000000) : List UInt8).toArray⟩)] (some 37) rfl (fun _ => by kernel_rfl) (fun b26 w26 g26 L26 q26 => ?_)
   replace L2 := L2.gr (g13.trans g15)
   replace hB := hB.trans g26
   simp only [putl, p3, p4]
   refine se ?_
   replace hown := hown.gr (g13.trans (g15.trans g26))
   refine eff_append1 _ _ 69 9 w.heap.size (.string ⟨([] : List UInt8).toArray⟩) v _ b26 (.string ⟨(Lib.decDigits (u % 1000000000) : List UInt8).toArray⟩) 1 (some 38) 16 rfl rfl rfl rfl hown L26 rfl w hB (Nat.le_refl _) (Below.size hB) (by rw [List.length_map]; exact hln) (by decide) (by kernel_rfl) (by kernel_rfl) rfl (fun v27 w27 own27 wt27 hb27 => ?_)
   replace hB := hb27
   replace own27 := OwnS.snoc (f := strV) own27
   simp only [putl, p3, p4]
   refine sv 3 v27 ?_
   simp only [p3, p4]
   refine sq_nil ?_
   refine k25 _ _ ?_
   try clear k25 K25
   refine rg [0, 1] ?_
   refine sv 39 (.slice go13 k13 cap13) ?_
   simp only [p3, p4]
   refine sv 4 (.slice go13 k13 cap13) ?_
   simp only [p3, p4]
   refine sq_nil ?_
   have kq28 := g15.kp.trans (g26.kp.trans (wt27.kp (by decide)))
   replace h13 := h13.kp kq28
   replace L2 := wt27.lc (L2.gr g26) (by decide)
   refine k8 (u / 1000000000) ⟨List.toArray ?l29, []⟩ _ (Nat.div_lt_self (Mag.pos0 hm hu0) (by omega)) ?_
   exact ⟨u / 1000000000, _, v27, go13, k13, cap13, (fun i => List.getD ?l29 i undef), rfl, rfl, (grps_step hX (Mag.pos0 hm hu0) (grp_lo (by rw [Mag.zero0 h13 hb18]; omega))), (Nat.lt_of_le_of_lt (Nat.div_le_self _ _) hu), h13, own27, L2, hB⟩
 ·have hz := Mag.zero0 hm hb11
  subst hz
  rw [grps_zero, List.append_nil] at hX
  have hL0 : 0 < L.length := by rw [hX]; exact grps_len0 hN
  have htx : L.reverse.flatten = Lib.decDigits N := by rw [hX]; exact grps_text N N (Nat.le_refl _) hN
  have hfl : L.reverse.flatten.length ≤ 140737488355328 := by rw [htx]; have := dec_len_bits k N hNk; omega
  refine wp_exit ?_
  simp only [Exit.then, Exit.inBlock, ↓reduceIte]
  refine k6 _ _ ?_
  try clear k6 K6
  refine wp_seq_k (fun K30 k30 => ?_)
  refine rg [0, 1] ?_
  refine sv 40 v ?_
  simp only [p3, p4]
  refine se ?_
  refine eff_call (some 41) rfl (by kernel_rfl) (reverse_own hown hL0) ?_
  rintro e31 w31 ⟨rfl, own31, wt31, hg31⟩
  refine ⟨_, rfl, ?_⟩
  replace hB := hg31 _ hB (Nat.le_refl _)
  simp only [putl, p3, p4]
  refine sq_nil ?_
  refine k30 _ _ ?_
  try clear k30 K30
  refine wp_seq_k (fun K32 k32 => ?_)
  refine rg [0, 1, 2] ?_
  refine sv 42 v ?_
  simp only [p3, p4]
  refine se ?_
  refine ec 43 (join_own own31 (by rw [List.length_reverse]; exact hL0) hfl (by rw [List.length_reverse]; exact hln)) ?_
  rintro e33 w33 ⟨rfl, g33⟩
  refine ⟨_, rfl, ?_⟩
  replace hB := hB.trans g33
  simp only [p3, p4]
  refine sv 8 (.string ⟨(((L).reverse).flatten : List UInt8).toArray⟩) ?_
  simp only [p3, p4]
  refine sq_nil ?_
  refine k32 _ _ ?_
  try clear k32 K32
  refine wp_seq_k (fun K34 k34 => ?_)
  refine wp_seq_k (fun K35 k35 => ?_)
  refine rg [0, 1] ?_
  refine sv 44 (.pointer (some ⟨b2, 0, none⟩)) ?_
  simp only [p3, p4]
  replace L2 := (wt31.lc L2 (by decide)).gr g33
  refine sw 45 (.bool (s)) rfl (rk 4 0 L2) ?_
  simp only [p3, p4]
  refine sq_nil ?_
  refine k35 _ _ ?_
  try clear k35 K35
  refine wp_cond_split (t := s) rfl (fun hb36 => ?_) (fun hb36 => ?_)
  ·refine wp_seq_k (fun K37 k37 => ?_)
   refine rg [0, 1, 2] ?_
   refine sv 46 (.string ⟨(((L).reverse).flatten : List UInt8).toArray⟩) ?_
   simp only [p3, p4]
   refine sw 47 (.string ⟨(([45]) ++ (((L).reverse).flatten) : List UInt8).toArray⟩) rfl (rv_cat 9 9 _ _ ([45]) (((L).reverse).flatten) rfl rfl rfl (by simp only [List.length_cons, List.length_nil]; omega)) ?_
   simp only [p3, p4]
   refine sv 2 (.string ⟨(([45]) ++ (((L).reverse).flatten) : List UInt8).toArray⟩) ?_
   simp only [p3, p4]
   refine sq_nil ?_
   refine k37 _ _ ?_
   try clear k37 K37
   refine wp_ret ?_
   simp only [Exit.then]
   refine bodyPost_ret (v := (.string ⟨(([45]) ++ (((L).reverse).flatten) : List UInt8).toArray⟩)) (ret_tmp rfl rfl) rfl ⟨?_, hB⟩
   exact (by rw [hb36]; show Ending.returned _ = _; rw [htx]; rfl)
  ·refine wp_skip ?_
   refine k34 _ _ ?_
   try clear k34 K34
   refine wp_seq_k (fun K38 k38 => ?_)
   refine rg [0, 1] ?_
   refine sv 48 (.string ⟨(((L).reverse).flatten : List UInt8).toArray⟩) ?_
   simp only [p3, p4]
   refine sv 2 (.string ⟨(((L).reverse).flatten : List UInt8).toArray⟩) ?_
   simp only [p3, p4]
   refine sq_nil ?_
   refine k38 _ _ ?_
   try clear k38 K38
   refine wp_ret ?_
   refine bodyPost_ret (v := (.string ⟨(((L).reverse).flatten : List UInt8).toArray⟩)) (ret_tmp rfl rfl) rfl ⟨?_, hB⟩
   exact (by rw [hb36]; show Ending.returned _ = _; rw [htx]; rfl)

set_option maxRecDepth 100000 in
set_option maxHeartbeats 1000000 in
theorem text_zero {ao : Option Addr} {ca : Nat} (w : World) :
    Calls Tryz.prog 23 #[(.agg #[(.bool false), (.slice ao 0 ca)])] w fun e w' => e = .returned (.string ⟨#[48]⟩) ∧ Gr w w' := by
 go_enter Tryz.func23, Tryz.ntmps23
 have hB := Gr.refl w
 refine wp_seq_k (fun K1 k1 => ?_)
 refine rg [0, 1] ?_
 refine se ?_
 refine eb 27 #[(.bool false), (.slice ao 0 ca)] 1 hB fun b2 w2 g2 L2 o2 q2 hB => ?_
 simp only [p3, p4]
 refine sv 2 (.string ⟨([] : List UInt8).toArray⟩) ?_
 simp only [p3, p4]
 refine sq_nil ?_
 refine k1 _ _ ?_
 try clear k1 K1
 refine wp_seq_k (fun K3 k3 => ?_)
 refine wp_seq_k (fun K4 k4 => ?_)
 refine rg [0, 1, 2, 3] ?_
 refine sv 9 (.pointer (some ⟨b2, 1, none⟩)) ?_
 simp only [p3, p4]
 refine sw 10 (.slice ao 0 ca) rfl (rk 25 1 L2) ?_
 simp only [p3, p4]
 refine sv 11 (.int .i64 0) ?_
 simp only [p3, p4]
 refine sv 12 (.bool true) ?_
 simp only [p3, p4]
 refine sq_nil ?_
 refine k4 _ _ ?_
 try clear k4 K4
 refine wp_cond_true rfl ?_
 refine wp_seq_k (fun K5 k5 => ?_)
 refine rg [0] ?_
 refine sv 2 (.string ⟨([48] : List UInt8).toArray⟩) ?_
 simp only [p3, p4]
 refine sq_nil ?_
 refine k5 _ _ ?_
 try clear k5 K5
 refine wp_ret ?_
 simp only [Exit.then]
 refine bodyPost_ret (v := (.string ⟨([48] : List UInt8).toArray⟩)) (ret_tmp rfl rfl) rfl ⟨?_, hB⟩
 exact rfl

theorem text_i {k : Nat} {x y : Value} {z : Int} {w : World} (hz : IsInt w k x y z) (hk : k ≤ 900000) (ht : Tab w) :
    Calls Tryz.prog 23 #[.agg #[x, y]] w fun e w' => e = .returned (.string ⟨(Lib.itoa z).toArray⟩) ∧ Gr w w' := by
  obtain ⟨ao, la, ca, rfl, rfl, ha, hs⟩ := hz
  by_cases h0 : z = 0
  · subst h0
    have : la = 0 := ha.nl.len_zero.2 rfl
    subst this
    have e1 : decide ((0 : Int) < 0) = false := by decide
    have e2 : Lib.itoa 0 = [48] := by unfold Lib.itoa; rw [if_neg (by omega)]; exact dec_small (by decide)
    rw [e1, e2]
    exact text_zero w
  · have := text_pos (s := decide (z < 0)) ha (by omega) (by unfold Sz at hs; exact hs) hk ht
    refine this.mono ?_
    rintro e w1 ⟨he, g⟩
    refine ⟨?_, g⟩
    rw [he]
    unfold Lib.itoa
    by_cases hz : z < 0
    · simp [hz]
    · have : z.toNat = z.natAbs := by omega
      simp [hz, this]

end Go.Proofs.YtloocadjbpgldaaGreatDoor
/- Printed by a program of the prover's: whole, Den, reduced. -/
namespace Go.Proofs.YtloocadjbpgldaaGreatDoor
open Go.RowKit

set_option maxRecDepth 100000 in
set_option maxHeartbeats 1000000 in
theorem whole_z {k : Nat} {c0 c1 c2 c3 : Value} {w : World} (hd : IsInt w k c2 c3 0) :
    Calls Tryz.prog 95 #[(.agg #[c0, c1, c2, c3])] w fun e w' => e = .returned (.bool true) ∧ Gr w w' := by
 go_enter Tryz.func95, Tryz.ntmps95
 have hB := Gr.refl w
 refine wp_seq_k (fun K1 k1 => ?_)
 refine rg [0, 1] ?_
 refine se ?_
 refine eb 31 #[c0, c1, c2, c3] 1 hB fun b2 w2 g2 L2 o2 q2 hB => ?_
 simp only [p3, p4]
 refine sv 2 (.bool false) ?_
 simp only [p3, p4]
 refine sq_nil ?_
 refine k1 _ _ ?_
 try clear k1 K1
 refine wp_seq_k (fun K3 k3 => ?_)
 have gd8 := Gr.drew w2
 replace hB := hB.trans gd8
 replace L2 := L2.gr gd8
 refine wp_region_ord (fun w' => Lc w' b2 #[c0, c1, c2, c3] 31) [(true, 0), (true, 1), (false, 2), (true, 3), (true, 4), (true, 5), (true, 6), (false, 7), (false, 8), (true, 9), (true, 10), (true, 11)] (by kernel_rfl) (by kernel_rfl) (by kernel_rfl) (by decide) (fun _ _ _ _ _ h => h) L2 ?_
 refine ov 3 (.pointer (some ⟨b2, 2, none⟩)) ?_
 simp only [p3, p4]
 refine ow 4 (.agg #[c2, c3]) rfl (fun w' hS => (rl 27 2 [c2, c3] hS)) ?_
 simp only [p3, p4]
 refine oe ?_
 have kq11 := g2.kp.trans gd8.kp
 replace hd := hd.kp kq11
 refine ec 5 (sign_zero hd) ?_
 rintro e10 w10 ⟨rfl, g10⟩
 refine ⟨_, rfl, ?_⟩
 replace hB := hB.trans g10
 replace L2 := L2.gr g10
 refine ⟨L2, ?_⟩
 simp only [p3, p4]
 refine ov 6 (.bool true) ?_
 simp only [p3, p4]
 refine ov 7 (.bool true) ?_
 simp only [p3, p4]
 refine os 8 ?_
 simp only [p3, p4]
 refine os 9 ?_
 simp only [p3, p4]
 refine oz 10 L2 ?_
 simp only [p3, p4]
 refine oz 11 L2 ?_
 simp only [p3, p4]
 refine os 12 ?_
 simp only [p3, p4]
 refine ov 13 (.bool true) ?_
 simp only [p3, p4]
 refine ov 2 (.bool true) ?_
 simp only [p3, p4]
 refine ord_nil ?_
 refine k3 _ _ ?_
 try clear k3 K3
 refine wp_ret ?_
 refine bodyPost_ret (v := (.bool true)) (ret_tmp rfl rfl) rfl ⟨?_, hB⟩
 exact rfl

set_option maxRecDepth 100000 in
set_option maxHeartbeats 1000000 in
theorem whole_p {k : Nat} {c0 c1 c2 c3 : Value} {D : Int} {w : World} (hd : IsInt w k c2 c3 D) (_h0 : 0 < D) (_hk : k ≤ 1000000) :
    Calls Tryz.prog 95 #[(.agg #[c0, c1, c2, c3])] w fun e w' => e = .returned (.bool (sgn (D - 1) == 0)) ∧ Gr w w' := by
 go_enter Tryz.func95, Tryz.ntmps95
 have hB := Gr.refl w
 refine wp_seq_k (fun K1 k1 => ?_)
 refine rg [0, 1] ?_
 refine se ?_
 refine eb 31 #[c0, c1, c2, c3] 1 hB fun b2 w2 g2 L2 o2 q2 hB => ?_
 simp only [p3, p4]
 refine sv 2 (.bool false) ?_
 simp only [p3, p4]
 refine sq_nil ?_
 refine k1 _ _ ?_
 try clear k1 K1
 refine wp_seq_k (fun K3 k3 => ?_)
 have gd13 := Gr.drew w2
 replace hB := hB.trans gd13
 replace L2 := L2.gr gd13
 refine wp_region_ord (fun w' => Lc w' b2 #[c0, c1, c2, c3] 31) [(true, 0), (true, 1), (false, 2), (true, 3), (true, 4), (true, 5), (true, 6), (false, 7), (false, 8), (true, 9), (true, 10), (true, 11)] (by kernel_rfl) (by kernel_rfl) (by kernel_rfl) (by decide) (fun _ _ _ _ _ h => h) L2 ?_
 refine ov 3 (.pointer (some ⟨b2, 2, none⟩)) ?_
 simp only [p3, p4]
 refine ow 4 (.agg #[c2, c3]) rfl (fun w' hS => (rl 27 2 [c2, c3] hS)) ?_
 simp only [p3, p4]
 refine oe ?_
 have kq16 := g2.kp.trans gd13.kp
 replace hd := hd.kp kq16
 refine ec 5 (sign_pos hd (by omega)) ?_
 rintro e15 w15 ⟨rfl, g15⟩
 refine ⟨_, rfl, ?_⟩
 replace hB := hB.trans g15
 replace L2 := L2.gr g15
 refine ⟨L2, ?_⟩
 simp only [p3, p4]
 refine ov 6 (.bool false) ?_
 simp only [p3, p4]
 refine ov 7 (.bool false) ?_
 simp only [p3, p4]
 refine ov 8 (.pointer (some ⟨b2, 2, none⟩)) ?_
 simp only [p3, p4]
 refine ow 9 (.agg #[c2, c3]) rfl (fun w' hS => (rl 27 2 [c2, c3] hS)) ?_
 simp only [p3, p4]
 refine oe ?_
 refine ec 10 (one_i _) ?_
 rintro e18 w18 ⟨⟨x18, y18, rfl, h18⟩, g18⟩
 refine ⟨_, rfl, ?_⟩
 replace hB := hB.trans g18
 replace L2 := L2.gr g18
 refine ⟨L2, ?_⟩
 simp only [p3, p4]
 refine oe ?_
 have kq21 := g15.kp.trans g18.kp
 replace hd := hd.kp kq21
 refine ec 11 (compare_i hd h18 (by omega) (by omega)) ?_
 rintro e20 w20 ⟨rfl, g20⟩
 refine ⟨_, rfl, ?_⟩
 replace hB := hB.trans g20
 replace L2 := L2.gr g20
 refine ⟨L2, ?_⟩
 simp only [p3, p4]
 refine ov 12 (.bool ((sgn (D - 1) == (0 : Int)))) ?_
 simp only [p3, p4]
 refine ov 13 (.bool ((sgn (D - 1) == (0 : Int)))) ?_
 simp only [p3, p4]
 refine ov 2 (.bool ((sgn (D - 1) == (0 : Int)))) ?_
 simp only [p3, p4]
 refine ord_nil ?_
 refine k3 _ _ ?_
 try clear k3 K3
 refine wp_ret ?_
 refine bodyPost_ret (v := (.bool ((sgn (D - 1) == (0 : Int))))) (ret_tmp rfl rfl) rfl ⟨?_, hB⟩
 exact rfl

set_option maxRecDepth 100000 in
set_option maxHeartbeats 1000000 in
theorem den_z {k : Nat} {c0 c1 c2 c3 : Value} {w : World} (hd : IsInt w k c2 c3 0) :
    Calls Tryz.prog 24 #[(.agg #[c0, c1, c2, c3])] w fun e w' => (∃ x' y', e = .returned (.agg #[x', y']) ∧ IsInt w' 64 x' y' (1)) ∧ Gr w w' := by
 go_enter Tryz.func24, Tryz.ntmps24
 have hB := Gr.refl w
 refine wp_seq_k (fun K1 k1 => ?_)
 refine rg [0, 1] ?_
 refine se ?_
 refine eb 31 #[c0, c1, c2, c3] 1 hB fun b2 w2 g2 L2 o2 q2 hB => ?_
 simp only [p3, p4]
 refine se ?_
 refine ea 27 #[(.bool false), (.slice none 0 0)] 2 hB fun b3 w3 g3 L3 o3 q3 hB => ?_
 simp only [p3, p4]
 refine sq_nil ?_
 refine k1 _ _ ?_
 try clear k1 K1
 refine wp_seq_k (fun K4 k4 => ?_)
 refine wp_seq_k (fun K5 k5 => ?_)
 refine rg [0, 1, 2, 3] ?_
 refine sv 3 (.pointer (some ⟨b2, 2, none⟩)) ?_
 simp only [p3, p4]
 replace L2 := L2.gr g3
 refine sw 4 (.agg #[c2, c3]) rfl (rl 27 2 [c2, c3] L2) ?_
 simp only [p3, p4]
 refine se ?_
 have kq7 := g2.kp.trans g3.kp
 replace hd := hd.kp kq7
 refine ec 5 (sign_zero hd) ?_
 rintro e6 w6 ⟨rfl, g6⟩
 refine ⟨_, rfl, ?_⟩
 replace hB := hB.trans g6
 simp only [p3, p4]
 refine sv 6 (.bool true) ?_
 simp only [p3, p4]
 refine sq_nil ?_
 refine k5 _ _ ?_
 try clear k5 K5
 refine wp_cond_true rfl ?_
 refine wp_seq_k (fun K8 k8 => ?_)
 refine rg [0, 1] ?_
 refine se ?_
 refine ec 7 (one_i _) ?_
 rintro e9 w9 ⟨⟨x9, y9, rfl, h9⟩, g9⟩
 refine ⟨_, rfl, ?_⟩
 replace hB := hB.trans g9
 simp only [p3, p4]
 refine se ?_
 replace L3 := L3.gr (g6.trans g9)
 refine es 27 0 (.agg #[x9, y9]) [x9, y9] #[x9, y9] L3 hB q3 ⟨h9.one0, h9.one1, trivial⟩ fun w10 st10 kp10 L3 hB => ?_
 refine sq_nil ?_
 refine k8 _ _ ?_
 try clear k8 K8
 refine wp_ret ?_
 simp only [Exit.then]
 refine bodyPost_ret (v := (.agg #[x9, y9])) (ret_cell _ _ _ rfl rfl L3 (by kernel_rfl)) rfl ⟨?_, hB⟩
 replace h9 := h9.kp kp10
 exact ⟨_, _, rfl, h9⟩

set_option maxRecDepth 100000 in
set_option maxHeartbeats 1000000 in
theorem den_p {k : Nat} {c0 c1 c2 c3 : Value} {D : Int} {w : World} (hd : IsInt w k c2 c3 D) (_h0 : 0 < D) :
    Calls Tryz.prog 24 #[(.agg #[c0, c1, c2, c3])] w fun e w' => (∃ x' y', e = .returned (.agg #[x', y']) ∧ IsInt w' k x' y' (D)) ∧ Gr w w' := by
 go_enter Tryz.func24, Tryz.ntmps24
 have hB := Gr.refl w
 refine wp_seq_k (fun K1 k1 => ?_)
 refine rg [0, 1] ?_
 refine se ?_
 refine eb 31 #[c0, c1, c2, c3] 1 hB fun b2 w2 g2 L2 o2 q2 hB => ?_
 simp only [p3, p4]
 refine se ?_
 refine ea 27 #[(.bool false), (.slice none 0 0)] 2 hB fun b3 w3 g3 L3 o3 q3 hB => ?_
 simp only [p3, p4]
 refine sq_nil ?_
 refine k1 _ _ ?_
 try clear k1 K1
 refine wp_seq_k (fun K4 k4 => ?_)
 refine wp_seq_k (fun K5 k5 => ?_)
 refine rg [0, 1, 2, 3] ?_
 refine sv 3 (.pointer (some ⟨b2, 2, none⟩)) ?_
 simp only [p3, p4]
 replace L2 := L2.gr g3
 refine sw 4 (.agg #[c2, c3]) rfl (rl 27 2 [c2, c3] L2) ?_
 simp only [p3, p4]
 refine se ?_
 have kq7 := g2.kp.trans g3.kp
 replace hd := hd.kp kq7
 refine ec 5 (sign_pos hd (by omega)) ?_
 rintro e6 w6 ⟨rfl, g6⟩
 refine ⟨_, rfl, ?_⟩
 replace hB := hB.trans g6
 simp only [p3, p4]
 refine sv 6 (.bool false) ?_
 simp only [p3, p4]
 refine sq_nil ?_
 refine k5 _ _ ?_
 try clear k5 K5
 refine wp_cond_false rfl ?_
 refine wp_skip ?_
 refine k4 _ _ ?_
 try clear k4 K4
 refine wp_seq_k (fun K8 k8 => ?_)
 refine rg [0, 1, 2] ?_
 refine sv 8 (.pointer (some ⟨b2, 2, none⟩)) ?_
 simp only [p3, p4]
 replace L2 := L2.gr g6
 refine sw 9 (.agg #[c2, c3]) rfl (rl 27 2 [c2, c3] L2) ?_
 simp only [p3, p4]
 refine se ?_
 replace L3 := L3.gr g6
 refine es 27 0 (.agg #[c2, c3]) [c2, c3] #[c2, c3] L3 hB q3 ⟨hd.one0, hd.one1, trivial⟩ fun w9 st9 kp9 L3 hB => ?_
 refine sq_nil ?_
 refine k8 _ _ ?_
 try clear k8 K8
 refine wp_ret ?_
 refine bodyPost_ret (v := (.agg #[c2, c3])) (ret_cell _ _ _ rfl rfl L3 (by kernel_rfl)) rfl ⟨?_, hB⟩
 have kq10 := g6.kp.trans kp9
 replace hd := hd.kp kq10
 exact ⟨_, _, rfl, hd⟩

set_option maxRecDepth 100000 in
set_option maxHeartbeats 1000000 in
theorem reduced_p1 {k : Nat} {n0 n1 d0 d1 : Value} {N D : Int} {w : World} (hn : IsInt w k n0 n1 N) (hd : IsInt w k d0 d1 D) (_hk : k + k + k + k + k + k + 66 ≤ 1000000) (_h0 : 0 < D) (hg : (sgn ((Int.gcd (N) (D) : Int) - 1) != 0) = false) :
    Calls Tryz.prog 80 #[(.agg #[n0, n1]), (.agg #[d0, d1])] w fun e w' => (∃ x y x2 y2, e = .returned (.agg #[x, y, x2, y2]) ∧ IsInt w' k x y (N) ∧ IsInt w' k x2 y2 (D)) ∧ Gr w w' := by
 go_enter Tryz.func80, Tryz.ntmps80
 have hB := Gr.refl w
 refine wp_seq_k (fun K1 k1 => ?_)
 refine rg [0, 1, 2] ?_
 refine se ?_
 refine eb 27 #[n0, n1] 2 hB fun b2 w2 g2 L2 o2 q2 hB => ?_
 simp only [p3, p4]
 refine se ?_
 refine eb 27 #[d0, d1] 3 hB fun b3 w3 g3 L3 o3 q3 hB => ?_
 simp only [p3, p4]
 refine se ?_
 refine ea 31 #[(.bool false), (.slice none 0 0), (.bool false), (.slice none 0 0)] 4 hB fun b4 w4 g4 L4 o4 q4 hB => ?_
 replace L2 := L2.gr g3
 simp only [p3, p4]
 refine sq_nil ?_
 refine k1 _ _ ?_
 try clear k1 K1
 refine wp_seq_k (fun K5 k5 => ?_)
 refine wp_seq_k (fun K6 k6 => ?_)
 refine rg [0, 1, 2] ?_
 replace L3 := L3.gr g4
 refine sw 6 (.agg #[d0, d1]) rfl (rl 27 0 [d0, d1] L3) ?_
 simp only [p3, p4]
 refine se ?_
 have kq8 := g2.kp.trans (g3.kp.trans g4.kp)
 replace hd := hd.kp kq8
 refine ec 7 (sign_pos hd (by omega)) ?_
 rintro e7 w7 ⟨rfl, g7⟩
 refine ⟨_, rfl, ?_⟩
 replace hB := hB.trans g7
 simp only [p3, p4]
 refine sv 8 (.bool false) ?_
 simp only [p3, p4]
 refine sq_nil ?_
 refine k6 _ _ ?_
 try clear k6 K6
 refine wp_cond_false rfl ?_
 refine wp_skip ?_
 refine k5 _ _ ?_
 try clear k5 K5
 refine wp_seq_k (fun K9 k9 => ?_)
 refine rg [0, 1, 2, 3, 4] ?_
 replace L2 := L2.gr (g4.trans g7)
 refine sw 13 (.agg #[n0, n1]) rfl (rl 27 0 [n0, n1] L2) ?_
 simp only [p3, p4]
 replace L3 := L3.gr g7
 refine sw 14 (.agg #[d0, d1]) rfl (rl 27 0 [d0, d1] L3) ?_
 simp only [p3, p4]
 refine se ?_
 have kq11 := g2.kp.trans (g3.kp.trans (g4.kp.trans g7.kp))
 replace hn := hn.kp kq11
 replace hd := hd.kp g7.kp
 refine ec 15 (gcd_i hn hd (by omega)) ?_
 rintro e10 w10 ⟨⟨x10, y10, rfl, h10⟩, g10⟩
 refine ⟨_, rfl, ?_⟩
 replace hB := hB.trans g10
 simp only [p3, p4]
 refine se ?_
 refine ea 27 #[(.bool false), (.slice none 0 0)] 5 hB fun b12 w12 g12 L12 o12 q12 hB => ?_
 replace L2 := L2.gr g10
 have ne2_12 := L2.ne o12
 replace L3 := L3.gr g10
 have ne3_12 := L3.ne o12
 replace L4 := L4.gr (g7.trans g10)
 have ne4_12 := L4.ne o12
 simp only [p3, p4]
 refine se ?_
 refine es 27 0 (.agg #[x10, y10]) [x10, y10] #[x10, y10] L12 hB q12 ⟨h10.one0, h10.one1, trivial⟩ fun w13 st13 kp13 L12 hB => ?_
 refine sq_nil ?_
 refine k9 _ _ ?_
 try clear k9 K9
 refine wp_seq_k (fun K14 k14 => ?_)
 refine wp_seq_k (fun K15 k15 => ?_)
 have gd22 := Gr.drew w13
 replace hB := hB.trans gd22
 replace L12 := L12.gr gd22
 refine wp_region_ord (fun w' => Lc w' b12 #[x10, y10] 27) [(true, 0), (false, 1), (false, 2), (true, 3)] (by kernel_rfl) (by kernel_rfl) (by kernel_rfl) (by decide) (fun _ _ _ _ _ h => h) L12 ?_
 refine ow 16 (.agg #[x10, y10]) rfl (fun w' hS => (rl 27 0 [x10, y10] hS)) ?_
 simp only [p3, p4]
 refine oe ?_
 refine ec 17 (one_i _) ?_
 rintro e24 w24 ⟨⟨x24, y24, rfl, h24⟩, g24⟩
 refine ⟨_, rfl, ?_⟩
 replace hB := hB.trans g24
 replace L12 := L12.gr g24
 refine ⟨L12, ?_⟩
 simp only [p3, p4]
 refine oe ?_
 have kq27 := g12.kp.trans (kp13.trans (gd22.kp.trans g24.kp))
 replace h10 := h10.kp kq27
 refine ec 18 (compare_i h10 h24 (by omega) (by omega)) ?_
 rintro e26 w26 ⟨rfl, g26⟩
 refine ⟨_, rfl, ?_⟩
 replace hB := hB.trans g26
 replace L12 := L12.gr g26
 refine ⟨L12, ?_⟩
 simp only [p3, p4]
 refine ow 19 (.bool false) rfl (fun w' hS => (RunV.bool (x := (sgn ((Int.gcd (N) (D) : Int) - 1) != (0 : Int))) (rvk (by kernel_rfl)) hg)) ?_
 simp only [p3, p4]
 refine ord_nil ?_
 refine k15 _ _ ?_
 try clear k15 K15
 refine wp_cond_false rfl ?_
 refine wp_skip ?_
 refine k14 _ _ ?_
 try clear k14 K14
 refine wp_seq_k (fun K28 k28 => ?_)
 refine rg [0, 1, 2, 3] ?_
 replace L2 := (st13.lc (L2.gr g12) ne2_12).gr (gd22.trans (g24.trans g26))
 refine sw 34 (.agg #[n0, n1]) rfl (rl 27 0 [n0, n1] L2) ?_
 simp only [p3, p4]
 replace L3 := (st13.lc (L3.gr g12) ne3_12).gr (gd22.trans (g24.trans g26))
 refine sw 35 (.agg #[d0, d1]) rfl (rl 27 0 [d0, d1] L3) ?_
 simp only [p3, p4]
 refine sv 36 (.agg #[n0, n1, d0, d1]) ?_
 simp only [p3, p4]
 refine se ?_
 replace L4 := (st13.lc (L4.gr g12) ne4_12).gr (gd22.trans (g24.trans g26))
 refine es 31 0 (.agg #[n0, n1, d0, d1]) [n0, n1, d0, d1] #[n0, n1, d0, d1] L4 hB q4 ⟨hn.one0, hn.one1, hd.one0, hd.one1, trivial⟩ fun w29 st29 kp29 L4 hB => ?_
 refine sq_nil ?_
 refine k28 _ _ ?_
 try clear k28 K28
 refine wp_ret ?_
 refine bodyPost_ret (v := (.agg #[n0, n1, d0, d1])) (ret_cell _ _ _ rfl rfl L4 (by kernel_rfl)) rfl ⟨?_, hB⟩
 have kq30 := g10.kp.trans (g12.kp.trans (kp13.trans (gd22.kp.trans (g24.kp.trans (g26.kp.trans kp29)))))
 replace hn := hn.kp kq30
 replace hd := hd.kp kq30
 exact ⟨_, _, _, _, rfl, hn, hd⟩

set_option maxRecDepth 100000 in
set_option maxHeartbeats 1000000 in
theorem reduced_pg {k : Nat} {n0 n1 d0 d1 : Value} {N D : Int} {w : World} (hn : IsInt w k n0 n1 N) (hd : IsInt w k d0 d1 D) (_hk : k + k + k + k + k + k + 66 ≤ 1000000) (_h0 : 0 < D) (hg : (sgn ((Int.gcd (N) (D) : Int) - 1) != 0) = true) (hxn : 0 < (Int.gcd (N) (D) : Int) ∧ (Int.gcd (N) (D) : Int) ∣ N) (_hxd : 0 < (Int.gcd (N) (D) : Int) ∧ (Int.gcd (N) (D) : Int) ∣ D) :
    Calls Tryz.prog 80 #[(.agg #[n0, n1]), (.agg #[d0, d1])] w fun e w' => (∃ x y x2 y2, e = .returned (.agg #[x, y, x2, y2]) ∧ IsInt w' k x y (N / (Int.gcd (N) (D) : Int)) ∧ IsInt w' k x2 y2 (D / (Int.gcd (N) (D) : Int))) ∧ Gr w w' := by
 go_enter Tryz.func80, Tryz.ntmps80
 have hB := Gr.refl w
 refine wp_seq_k (fun K1 k1 => ?_)
 refine rg [0, 1, 2] ?_
 refine se ?_
 refine eb 27 #[n0, n1] 2 hB fun b2 w2 g2 L2 o2 q2 hB => ?_
 simp only [p3, p4]
 refine se ?_
 refine eb 27 #[d0, d1] 3 hB fun b3 w3 g3 L3 o3 q3 hB => ?_
 have ne2_3 := L2.ne o3
 simp only [p3, p4]
 refine se ?_
 refine ea 31 #[(.bool false), (.slice none 0 0), (.bool false), (.slice none 0 0)] 4 hB fun b4 w4 g4 L4 o4 q4 hB => ?_
 replace L2 := L2.gr g3
 have ne2_4 := L2.ne o4
 have ne3_4 := L3.ne o4
 simp only [p3, p4]
 refine sq_nil ?_
 refine k1 _ _ ?_
 try clear k1 K1
 refine wp_seq_k (fun K5 k5 => ?_)
 refine wp_seq_k (fun K6 k6 => ?_)
 refine rg [0, 1, 2] ?_
 replace L3 := L3.gr g4
 refine sw 6 (.agg #[d0, d1]) rfl (rl 27 0 [d0, d1] L3) ?_
 simp only [p3, p4]
 refine se ?_
 have kq8 := g2.kp.trans (g3.kp.trans g4.kp)
 replace hd := hd.kp kq8
 refine ec 7 (sign_pos hd (by omega)) ?_
 rintro e7 w7 ⟨rfl, g7⟩
 refine ⟨_, rfl, ?_⟩
 replace hB := hB.trans g7
 simp only [p3, p4]
 refine sv 8 (.bool false) ?_
 simp only [p3, p4]
 refine sq_nil ?_
 refine k6 _ _ ?_
 try clear k6 K6
 refine wp_cond_false rfl ?_
 refine wp_skip ?_
 refine k5 _ _ ?_
 try clear k5 K5
 refine wp_seq_k (fun K9 k9 => ?_)
 refine rg [0, 1, 2, 3, 4] ?_
 replace L2 := L2.gr (g4.trans g7)
 refine sw 13 (.agg #[n0, n1]) rfl (rl 27 0 [n0, n1] L2) ?_
 simp only [p3, p4]
 replace L3 := L3.gr g7
 refine sw 14 (.agg #[d0, d1]) rfl (rl 27 0 [d0, d1] L3) ?_
 simp only [p3, p4]
 refine se ?_
 have kq11 := g2.kp.trans (g3.kp.trans (g4.kp.trans g7.kp))
 replace hn := hn.kp kq11
 replace hd := hd.kp g7.kp
 refine ec 15 (gcd_i hn hd (by omega)) ?_
 rintro e10 w10 ⟨⟨x10, y10, rfl, h10⟩, g10⟩
 refine ⟨_, rfl, ?_⟩
 replace hB := hB.trans g10
 simp only [p3, p4]
 refine se ?_
 refine ea 27 #[(.bool false), (.slice none 0 0)] 5 hB fun b12 w12 g12 L12 o12 q12 hB => ?_
 replace L2 := L2.gr g10
 have ne2_12 := L2.ne o12
 replace L3 := L3.gr g10
 have ne3_12 := L3.ne o12
 replace L4 := L4.gr (g7.trans g10)
 have ne4_12 := L4.ne o12
 simp only [p3, p4]
 refine se ?_
 refine es 27 0 (.agg #[x10, y10]) [x10, y10] #[x10, y10] L12 hB q12 ⟨h10.one0, h10.one1, trivial⟩ fun w13 st13 kp13 L12 hB => ?_
 refine sq_nil ?_
 refine k9 _ _ ?_
 try clear k9 K9
 refine wp_seq_k (fun K14 k14 => ?_)
 refine wp_seq_k (fun K15 k15 => ?_)
 have gd22 := Gr.drew w13
 replace hB := hB.trans gd22
 replace L12 := L12.gr gd22
 refine wp_region_ord (fun w' => Lc w' b12 #[x10, y10] 27) [(true, 0), (false, 1), (false, 2), (true, 3)] (by kernel_rfl) (by kernel_rfl) (by kernel_rfl) (by decide) (fun _ _ _ _ _ h => h) L12 ?_
 refine ow 16 (.agg #[x10, y10]) rfl (fun w' hS => (rl 27 0 [x10, y10] hS)) ?_
 simp only [p3, p4]
 refine oe ?_
 refine ec 17 (one_i _) ?_
 rintro e24 w24 ⟨⟨x24, y24, rfl, h24⟩, g24⟩
 refine ⟨_, rfl, ?_⟩
 replace hB := hB.trans g24
 replace L12 := L12.gr g24
 refine ⟨L12, ?_⟩
 simp only [p3, p4]
 refine oe ?_
 have kq27 := g12.kp.trans (kp13.trans (gd22.kp.trans g24.kp))
 replace h10 := h10.kp kq27
 refine ec 18 (compare_i h10 h24 (by omega) (by omega)) ?_
 rintro e26 w26 ⟨rfl, g26⟩
 refine ⟨_, rfl, ?_⟩
 replace hB := hB.trans g26
 replace L12 := L12.gr g26
 refine ⟨L12, ?_⟩
 simp only [p3, p4]
 refine ow 19 (.bool true) rfl (fun w' hS => (RunV.bool (x := (sgn ((Int.gcd (N) (D) : Int) - 1) != (0 : Int))) (rvk (by kernel_rfl)) hg)) ?_
 simp only [p3, p4]
 refine ord_nil ?_
 refine k15 _ _ ?_
 try clear k15 K15
 refine wp_cond_true rfl ?_
 refine wp_seq_k (fun K28 k28 => ?_)
 refine rg [0, 1, 2, 3, 4, 5, 6, 7] ?_
 replace L2 := (st13.lc (L2.gr g12) ne2_12).gr (gd22.trans (g24.trans g26))
 refine sw 21 (.agg #[n0, n1]) rfl (rl 27 0 [n0, n1] L2) ?_
 simp only [p3, p4]
 refine sw 22 (.agg #[x10, y10]) rfl (rl 27 0 [x10, y10] L12) ?_
 simp only [p3, p4]
 refine se ?_
 have kq30 := g10.kp.trans (g12.kp.trans (kp13.trans (gd22.kp.trans (g24.kp.trans g26.kp))))
 replace hn := hn.kp kq30
 replace h10 := h10.kp g26.kp
 refine ec 23 (divmod_i hn h10 hxn.1 (by omega)) ?_
 rintro e29 w29 ⟨⟨x29, y29, xr29, yr29, rfl, h29, hr29⟩, g29⟩
 refine ⟨_, rfl, ?_⟩
 replace hB := hB.trans g29
 simp only [p3, p4]
 refine sv 20 (.tuple #[(.agg #[x29, y29]), (.agg #[xr29, yr29]), (.int .i64 0)]) ?_
 simp only [p3, p4]
 refine sv 24 (.agg #[x29, y29]) ?_
 simp only [p3, p4]
 refine sv 25 (.agg #[xr29, yr29]) ?_
 simp only [p3, p4]
 refine sv 26 (.int .i64 0) ?_
 simp only [p3, p4]
 refine se ?_
 replace L2 := L2.gr g29
 refine es 27 0 (.agg #[x29, y29]) [x29, y29] #[x29, y29] L2 hB q2 ⟨h29.one0, h29.one1, trivial⟩ fun w31 st31 kp31 L2 hB => ?_
 refine sq_nil ?_
 refine k28 _ _ ?_
 try clear k28 K28
 refine rg [0, 1, 2, 3, 4, 5, 6, 7] ?_
 replace L3 := st31.lc ((st13.lc (L3.gr g12) ne3_12).gr (gd22.trans (g24.trans (g26.trans g29)))) (Ne.symm ne2_3)
 refine sw 28 (.agg #[d0, d1]) rfl (rl 27 0 [d0, d1] L3) ?_
 simp only [p3, p4]
 replace L12 := st31.lc (L12.gr g29) (Ne.symm ne2_12)
 refine sw 29 (.agg #[x10, y10]) rfl (rl 27 0 [x10, y10] L12) ?_
 simp only [p3, p4]
 refine se ?_
 have kq33 := g10.kp.trans (g12.kp.trans (kp13.trans (gd22.kp.trans (g24.kp.trans (g26.kp.trans (g29.kp.trans kp31))))))
 replace hd := hd.kp kq33
 have kq34 := g29.kp.trans kp31
 replace h10 := h10.kp kq34
 refine ec 30 (divmod_i hd h10 hxn.1 (by omega)) ?_
 rintro e32 w32 ⟨⟨x32, y32, xr32, yr32, rfl, h32, hr32⟩, g32⟩
 refine ⟨_, rfl, ?_⟩
 replace hB := hB.trans g32
 simp only [p3, p4]
 refine sv 27 (.tuple #[(.agg #[x32, y32]), (.agg #[xr32, yr32]), (.int .i64 0)]) ?_
 simp only [p3, p4]
 refine sv 31 (.agg #[x32, y32]) ?_
 simp only [p3, p4]
 refine sv 32 (.agg #[xr32, yr32]) ?_
 simp only [p3, p4]
 refine sv 33 (.int .i64 0) ?_
 simp only [p3, p4]
 refine se ?_
 replace L3 := L3.gr g32
 refine es 27 0 (.agg #[x32, y32]) [x32, y32] #[x32, y32] L3 hB q3 ⟨h32.one0, h32.one1, trivial⟩ fun w35 st35 kp35 L3 hB => ?_
 refine sq_nil ?_
 refine k14 _ _ ?_
 try clear k14 K14
 refine wp_seq_k (fun K36 k36 => ?_)
 refine rg [0, 1, 2, 3] ?_
 replace L2 := st35.lc (L2.gr g32) ne2_3
 refine sw 34 (.agg #[x29, y29]) rfl (rl 27 0 [x29, y29] L2) ?_
 simp only [p3, p4]
 refine sw 35 (.agg #[x32, y32]) rfl (rl 27 0 [x32, y32] L3) ?_
 simp only [p3, p4]
 refine sv 36 (.agg #[x29, y29, x32, y32]) ?_
 simp only [p3, p4]
 refine se ?_
 replace L4 := st35.lc ((st31.lc ((st13.lc (L4.gr g12) ne4_12).gr (gd22.trans (g24.trans (g26.trans g29)))) (Ne.symm ne2_4)).gr g32) (Ne.symm ne3_4)
 refine es 31 0 (.agg #[x29, y29, x32, y32]) [x29, y29, x32, y32] #[x29, y29, x32, y32] L4 hB q4 ⟨h29.one0, h29.one1, h32.one0, h32.one1, trivial⟩ fun w37 st37 kp37 L4 hB => ?_
 refine sq_nil ?_
 refine k36 _ _ ?_
 try clear k36 K36
 refine wp_ret ?_
 refine bodyPost_ret (v := (.agg #[x29, y29, x32, y32])) (ret_cell _ _ _ rfl rfl L4 (by kernel_rfl)) rfl ⟨?_, hB⟩
 have kq38 := kp31.trans (g32.kp.trans (kp35.trans kp37))
 replace h29 := h29.kp kq38
 have kq39 := kp35.trans kp37
 replace h32 := h32.kp kq39
 exact ⟨_, _, _, _, rfl, h29, h32⟩

end Go.Proofs.YtloocadjbpgldaaGreatDoor
/- The contracts on rationals that the printed walks use. -/
namespace Go.Proofs.YtloocadjbpgldaaGreatDoor
open Go.RowKit

theorem sgn_eq_zero {z : Int} : sgn z = 0 ↔ z = 0 := by
  unfold sgn
  by_cases h : z < 0
  · rw [if_pos h]; omega
  · rw [if_neg h]
    by_cases h2 : z = 0
    · simp [h2]
    · rw [if_neg h2]; omega
theorem whole_i {k : Nat} {c0 c1 c2 c3 : Value} {q : Rat} {w : World} (h : IsRat w k c0 c1 c2 c3 q) (hk : k ≤ 1000000) :
    Calls Tryz.prog 95 #[.agg #[c0, c1, c2, c3]] w fun e w' => e = .returned (.bool (decide (q.den = 1))) ∧ Gr w w' := by
  obtain ⟨D, h2, h3⟩ := h.den
  have hp := q.den_pos
  rcases h3 with h3 | ⟨h3, h4⟩
  · have e : (sgn (D - 1) == 0) = decide (q.den = 1) := by
      rw [Bool.eq_iff_iff, beq_iff_eq, sgn_eq_zero, decide_eq_true_iff]; omega
    have := whole_p (c0 := c0) (c1 := c1) h2 (by omega) hk
    rw [e] at this
    exact this
  · subst h3
    have e : decide (q.den = 1) = true := by simpa using h4
    rw [e]
    exact whole_z h2
theorem whole_t {k : Nat} {c0 c1 c2 c3 : Value} {q : Rat} {w : World} (h : IsRat w k c0 c1 c2 c3 q) (hk : k ≤ 1000000) (hq : q.den = 1) :
    Calls Tryz.prog 95 #[.agg #[c0, c1, c2, c3]] w fun e w' => e = .returned (.bool true) ∧ Gr w w' := by
  have := whole_i h hk
  rw [decide_eq_true hq] at this
  exact this
theorem whole_f {k : Nat} {c0 c1 c2 c3 : Value} {q : Rat} {w : World} (h : IsRat w k c0 c1 c2 c3 q) (hk : k ≤ 1000000) (hq : q.den ≠ 1) :
    Calls Tryz.prog 95 #[.agg #[c0, c1, c2, c3]] w fun e w' => e = .returned (.bool false) ∧ Gr w w' := by
  have := whole_i h hk
  rw [decide_eq_false hq] at this
  exact this
theorem den_i {k : Nat} {c0 c1 c2 c3 : Value} {q : Rat} {w : World} (h : IsRat w k c0 c1 c2 c3 q) :
    Calls Tryz.prog 24 #[.agg #[c0, c1, c2, c3]] w fun e w' => (∃ x' y', e = .returned (.agg #[x', y']) ∧ IsInt w' k x' y' (q.den : Int)) ∧ Gr w w' := by
  obtain ⟨D, h2, h3⟩ := h.den
  have hp := q.den_pos
  rcases h3 with h3 | ⟨h3, h4⟩
  · subst h3
    exact den_p h2 (by omega)
  · subst h3
    refine (den_z (c0 := c0) (c1 := c1) h2).mono ?_
    rintro e w1 ⟨⟨x, y, he, hi⟩, g⟩
    rw [h4]
    exact ⟨⟨x, y, he, hi.mono h.big⟩, g⟩
theorem add_e {k m : Nat} (n : Nat) {x y x2 y2 : Value} {z u : Int} {w : World} (hz : IsInt w k x y z) (hu : IsInt w m x2 y2 u) (h1 : k ≤ n) (h2 : m ≤ n) (hk : 2 * n + 1 ≤ 1000000) :
    Calls Tryz.prog 96 #[.agg #[x, y], .agg #[x2, y2]] w fun e w' => (∃ x' y', e = .returned (.agg #[x', y']) ∧ IsInt w' (n + 1) x' y' (z + u)) ∧ Gr w w' := by
  refine (add_i (hz.mono h1) (hu.mono h2) (by omega)).mono ?_
  rintro e w1 ⟨⟨x, y, he, hi⟩, g⟩
  exact ⟨⟨x, y, he, hi.resz ((hz.sz.mono h1).add' (hu.sz.mono h2))⟩, g⟩

theorem reduced_i {k m : Nat} (K : Nat) {n0 n1 d0 d1 : Value} {N D : Int} {w : World} (hn : IsInt w k n0 n1 N) (hd : IsInt w m d0 d1 D) (h0 : 0 < D) (h1 : k ≤ K) (h2 : m ≤ K) (h3 : 64 ≤ K) (h4 : 8 * K ≤ 1000000) :
    Calls Tryz.prog 80 #[.agg #[n0, n1], .agg #[d0, d1]] w fun e w' => (∃ c0 c1 c2 c3, e = .returned (.agg #[c0, c1, c2, c3]) ∧ IsRat w' K c0 c1 c2 c3 (Rat.divInt N D)) ∧ Gr w w' := by
  have hN := hn.mono h1
  have hD := hd.mono h2
  have en : (Rat.divInt N D).num = N / (Int.gcd N D : Int) := by
    rw [Rat.num_divInt, Int.sign_eq_one_of_pos h0, Int.one_mul, Int.gcd_comm]
  have ed : ((Rat.divInt N D).den : Int) = D / (Int.gcd N D : Int) := by
    rw [Rat.den_divInt, if_neg (by omega), Int.gcd_comm, Int.natCast_ediv]
    congr 1
    omega
  have hg0 : 0 < (Int.gcd N D : Int) := by
    have : Int.gcd N D ≠ 0 := by rw [Ne, Int.gcd_eq_zero_iff]; omega
    omega
  by_cases hg : (Int.gcd N D : Int) = 1
  · refine (reduced_p1 hN hD (by omega) h0 (by rw [hg]; rfl)).mono ?_
    rintro e w1 ⟨⟨x, y, x2, y2, he, hi, hi2⟩, g⟩
    rw [hg, Int.ediv_one] at en ed
    exact ⟨⟨x, y, x2, y2, he, by rw [en]; exact hi, ⟨D, hi2, .inl ed.symm⟩, h3⟩, g⟩
  · have hb : (sgn ((Int.gcd N D : Int) - 1) != 0) = true := by
      have : sgn ((Int.gcd N D : Int) - 1) ≠ 0 := fun h => hg (by have := sgn_eq_zero.1 h; omega)
      simpa using this
    refine (reduced_pg hN hD (by omega) h0 hb ⟨hg0, Int.gcd_dvd_left ..⟩ ⟨hg0, Int.gcd_dvd_right ..⟩).mono ?_
    rintro e w1 ⟨⟨x, y, x2, y2, he, hi, hi2⟩, g⟩
    exact ⟨⟨x, y, x2, y2, he, by rw [en]; exact hi, ⟨_, hi2, .inl ed.symm⟩, h3⟩, g⟩

theorem rat_add (a b : Rat) : Rat.divInt (a.num * b.den + b.num * a.den) (a.den * b.den) = a + b := by
  have := Rat.divInt_add_divInt a.num b.num (d₁ := a.den) (d₂ := b.den) (by have := a.den_pos; omega) (by have := b.den_pos; omega)
  rw [Rat.num_divInt_den, Rat.num_divInt_den] at this
  exact this.symm
theorem rat_mul (a b : Rat) : Rat.divInt (a.num * b.num) (a.den * b.den) = a * b := by
  have := Rat.divInt_mul_divInt a.num b.num (d₁ := a.den) (d₂ := b.den)
  rw [Rat.num_divInt_den, Rat.num_divInt_den] at this
  exact this.symm
theorem rat_int {q : Rat} (h : q.den = 1) : ((q.num : Int) : Rat) = q := by
  apply Rat.ext
  · exact Rat.num_intCast _
  · rw [h]; exact Rat.den_intCast _
theorem rat_div (a b : Rat) : Rat.divInt (a.num * b.den) (a.den * b.num) = a / b := by
  rw [Rat.div_def, Rat.inv_def]
  have := Rat.divInt_mul_divInt a.num b.den (d₁ := a.den) (d₂ := b.num)
  rw [Rat.num_divInt_den] at this
  exact this.symm
theorem IsRat.neg {w : World} {k : Nat} {c0 c1 c2 c3 x y : Value} {q : Rat} (h : IsRat w k c0 c1 c2 c3 q) (hi : IsInt w k x y (-q.num)) : IsRat w k x y c2 c3 (-q) := by
  obtain ⟨D, h2, h3⟩ := h.den
  exact ⟨hi, ⟨D, h2, h3⟩, h.big⟩
/-- the order of two rationals -/
def rcmp (a b : Rat) : Int := sgn (a.num * b.den - b.num * a.den)
theorem rcmp_int {a b : Rat} (ha : a.den = 1) (hb : b.den = 1) : rcmp a b = sgn (a.num - b.num) := by
  unfold rcmp; rw [ha, hb]; simp
theorem rcmp_zero {a b : Rat} : rcmp a b = 0 ↔ a = b := by
  unfold rcmp
  rw [sgn_eq_zero]
  constructor
  · intro h
    rw [← Rat.num_divInt_den a, ← Rat.num_divInt_den b]
    rw [Rat.divInt_eq_divInt_iff (by have := a.den_pos; omega) (by have := b.den_pos; omega)]
    omega
  · rintro rfl; omega
end Go.Proofs.YtloocadjbpgldaaGreatDoor
/- Printed by a program of the prover's: the operations on rationals. -/
namespace Go.Proofs.YtloocadjbpgldaaGreatDoor
open Go.RowKit

set_option maxRecDepth 100000 in
set_option maxHeartbeats 1000000 in
theorem add_tt {k m : Nat} {u0 u1 u2 u3 v0 v1 v2 v3 : Value} {a b : Rat} {w : World} (ha : IsRat w k u0 u1 u2 u3 a) (hb : IsRat w m v0 v1 v2 v3 b) (_hk : k + m ≤ 100000) (wa : a.den = 1) (wb : b.den = 1) :
    Calls Tryz.prog 30 #[(.agg #[u0, u1, u2, u3]), (.agg #[v0, v1, v2, v3])] w fun e w' => (∃ c0 c1 c2 c3, e = .returned (.agg #[c0, c1, c2, c3]) ∧ IsRat w' (k + m + 1) c0 c1 c2 c3 (a + b)) ∧ Gr w w' := by
 have hka := ha.big
 have hkb := hb.big
 go_enter Tryz.func30, Tryz.ntmps30
 have hB := Gr.refl w
 refine wp_seq_k (fun K1 k1 => ?_)
 refine rg [0, 1, 2] ?_
 refine se ?_
 refine eb 31 #[u0, u1, u2, u3] 2 hB fun b2 w2 g2 L2 o2 q2 hB => ?_
 simp only [p3, p4]
 refine se ?_
 refine eb 31 #[v0, v1, v2, v3] 3 hB fun b3 w3 g3 L3 o3 q3 hB => ?_
 simp only [p3, p4]
 refine se ?_
 refine ea 31 #[(.bool false), (.slice none 0 0), (.bool false), (.slice none 0 0)] 4 hB fun b4 w4 g4 L4 o4 q4 hB => ?_
 replace L2 := L2.gr g3
 simp only [p3, p4]
 refine sq_nil ?_
 refine k1 _ _ ?_
 try clear k1 K1
 refine wp_seq_k (fun K5 k5 => ?_)
 refine wp_seq_k (fun K6 k6 => ?_)
 refine rg [0, 1, 2, 3, 4, 5] ?_
 replace L2 := L2.gr g4
 refine sw 5 (.agg #[u0, u1, u2, u3]) rfl (rl 31 0 [u0, u1, u2, u3] L2) ?_
 simp only [p3, p4]
 refine se ?_
 have kq8 := g2.kp.trans (g3.kp.trans g4.kp)
 replace ha := ha.kp kq8
 refine ec 6 (whole_t ha (by omega) wa) ?_
 rintro e7 w7 ⟨rfl, g7⟩
 refine ⟨_, rfl, ?_⟩
 replace hB := hB.trans g7
 simp only [p3, p4]
 refine sv 7 (.bool true) ?_
 simp only [p3, p4]
 replace L3 := L3.gr (g4.trans g7)
 refine sw 8 (.agg #[v0, v1, v2, v3]) rfl (rl 31 0 [v0, v1, v2, v3] L3) ?_
 simp only [p3, p4]
 refine se ?_
 have kq10 := g2.kp.trans (g3.kp.trans (g4.kp.trans g7.kp))
 replace hb := hb.kp kq10
 refine ec 9 (whole_t hb (by omega) wb) ?_
 rintro e9 w9 ⟨rfl, g9⟩
 refine ⟨_, rfl, ?_⟩
 replace hB := hB.trans g9
 simp only [p3, p4]
 refine sv 10 (.bool true) ?_
 simp only [p3, p4]
 refine sq_nil ?_
 refine k6 _ _ ?_
 try clear k6 K6
 refine wp_cond_true rfl ?_
 refine wp_seq_k (fun K11 k11 => ?_)
 refine rg [0, 1, 2, 3, 4, 5, 6] ?_
 refine sv 11 (.pointer (some ⟨b2, 0, none⟩)) ?_
 simp only [p3, p4]
 replace L2 := L2.gr (g7.trans g9)
 refine sw 12 (.agg #[u0, u1]) rfl (rl 27 0 [u0, u1] L2) ?_
 simp only [p3, p4]
 refine sv 13 (.pointer (some ⟨b3, 0, none⟩)) ?_
 simp only [p3, p4]
 replace L3 := L3.gr g9
 refine sw 14 (.agg #[v0, v1]) rfl (rl 27 0 [v0, v1] L3) ?_
 simp only [p3, p4]
 refine se ?_
 have kq13 := g7.kp.trans g9.kp
 replace ha := ha.kp kq13
 replace hb := hb.kp g9.kp
 refine ec 15 (add_e (k + m) ha.num hb.num (by omega) (by omega) (by omega)) ?_
 rintro e12 w12 ⟨⟨x12, y12, rfl, h12⟩, g12⟩
 refine ⟨_, rfl, ?_⟩
 replace hB := hB.trans g12
 simp only [p3, p4]
 refine sv 16 (.agg #[x12, y12, (.bool false), (.slice none 0 0)]) ?_
 simp only [p3, p4]
 refine se ?_
 replace L4 := L4.gr (g7.trans (g9.trans g12))
 refine es 31 0 (.agg #[x12, y12, (.bool false), (.slice none 0 0)]) [x12, y12, (.bool false), (.slice none 0 0)] #[x12, y12, (.bool false), (.slice none 0 0)] L4 hB q4 ⟨h12.one0, h12.one1, rfl, rfl, trivial⟩ fun w14 st14 kp14 L4 hB => ?_
 refine sq_nil ?_
 refine k11 _ _ ?_
 try clear k11 K11
 refine wp_ret ?_
 simp only [Exit.then]
 refine bodyPost_ret (v := (.agg #[x12, y12, (.bool false), (.slice none 0 0)])) (ret_cell _ _ _ rfl rfl L4 (by kernel_rfl)) rfl ⟨?_, hB⟩
 replace h12 := h12.kp kp14
 exact ⟨_, _, _, _, rfl, by rw [← rat_int wa, ← rat_int wb, ← Rat.intCast_add]; exact IsRat.int h12 (by omega)⟩

set_option maxRecDepth 100000 in
set_option maxHeartbeats 1000000 in
theorem add_tf {k m : Nat} {u0 u1 u2 u3 v0 v1 v2 v3 : Value} {a b : Rat} {w : World} (ha : IsRat w k u0 u1 u2 u3 a) (hb : IsRat w m v0 v1 v2 v3 b) (_hk : k + m ≤ 100000) (wa : a.den = 1) (wb : b.den ≠ 1) :
    Calls Tryz.prog 30 #[(.agg #[u0, u1, u2, u3]), (.agg #[v0, v1, v2, v3])] w fun e w' => (∃ c0 c1 c2 c3, e = .returned (.agg #[c0, c1, c2, c3]) ∧ IsRat w' (k + m + 1) c0 c1 c2 c3 (a + b)) ∧ Gr w w' := by
 have hka := ha.big
 have hkb := hb.big
 go_enter Tryz.func30, Tryz.ntmps30
 have hB := Gr.refl w
 refine wp_seq_k (fun K1 k1 => ?_)
 refine rg [0, 1, 2] ?_
 refine se ?_
 refine eb 31 #[u0, u1, u2, u3] 2 hB fun b2 w2 g2 L2 o2 q2 hB => ?_
 simp only [p3, p4]
 refine se ?_
 refine eb 31 #[v0, v1, v2, v3] 3 hB fun b3 w3 g3 L3 o3 q3 hB => ?_
 simp only [p3, p4]
 refine se ?_
 refine ea 31 #[(.bool false), (.slice none 0 0), (.bool false), (.slice none 0 0)] 4 hB fun b4 w4 g4 L4 o4 q4 hB => ?_
 replace L2 := L2.gr g3
 have ne2_4 := L2.ne o4
 have ne3_4 := L3.ne o4
 simp only [p3, p4]
 refine sq_nil ?_
 refine k1 _ _ ?_
 try clear k1 K1
 refine wp_seq_k (fun K5 k5 => ?_)
 refine wp_seq_k (fun K6 k6 => ?_)
 refine rg [0, 1, 2, 3, 4, 5] ?_
 replace L2 := L2.gr g4
 refine sw 5 (.agg #[u0, u1, u2, u3]) rfl (rl 31 0 [u0, u1, u2, u3] L2) ?_
 simp only [p3, p4]
 refine se ?_
 have kq8 := g2.kp.trans (g3.kp.trans g4.kp)
 replace ha := ha.kp kq8
 refine ec 6 (whole_t ha (by omega) wa) ?_
 rintro e7 w7 ⟨rfl, g7⟩
 refine ⟨_, rfl, ?_⟩
 replace hB := hB.trans g7
 simp only [p3, p4]
 refine sv 7 (.bool true) ?_
 simp only [p3, p4]
 replace L3 := L3.gr (g4.trans g7)
 refine sw 8 (.agg #[v0, v1, v2, v3]) rfl (rl 31 0 [v0, v1, v2, v3] L3) ?_
 simp only [p3, p4]
 refine se ?_
 have kq10 := g2.kp.trans (g3.kp.trans (g4.kp.trans g7.kp))
 replace hb := hb.kp kq10
 refine ec 9 (whole_f hb (by omega) wb) ?_
 rintro e9 w9 ⟨rfl, g9⟩
 refine ⟨_, rfl, ?_⟩
 replace hB := hB.trans g9
 simp only [p3, p4]
 refine sv 10 (.bool false) ?_
 simp only [p3, p4]
 refine sq_nil ?_
 refine k6 _ _ ?_
 try clear k6 K6
 refine wp_cond_false rfl ?_
 refine wp_skip ?_
 refine k5 _ _ ?_
 try clear k5 K5
 refine wp_seq_k (fun K11 k11 => ?_)
 have gd40 := Gr.drew w9
 replace hB := hB.trans gd40
 replace L2 := L2.gr (g7.trans (g9.trans gd40))
 replace L3 := L3.gr (g9.trans gd40)
 refine wp_region_ord (fun w' => Lc w' b2 #[u0, u1, u2, u3] 31 ∧ Lc w' b3 #[v0, v1, v2, v3] 31) [(true, 0), (true, 1), (true, 2), (true, 5), (true, 6), (true, 7), (true, 11), (true, 13), (false, 3), (false, 4), (false, 8), (false, 9), (false, 10), (false, 12), (false, 14), (false, 15), (false, 16), (false, 17)] (by kernel_rfl) (by kernel_rfl) (by kernel_rfl) (by decide) (fun _ _ _ _ _ h => h) ⟨L2, L3⟩ ?_
 refine ov 17 (.pointer (some ⟨b2, 0, none⟩)) ?_
 simp only [p3, p4]
 refine ow 18 (.agg #[u0, u1]) rfl (fun w' hS => (rl 27 0 [u0, u1] hS.1)) ?_
 simp only [p3, p4]
 refine ow 19 (.agg #[v0, v1, v2, v3]) rfl (fun w' hS => (rl 31 0 [v0, v1, v2, v3] hS.2)) ?_
 simp only [p3, p4]
 refine ov 22 (.pointer (some ⟨b3, 0, none⟩)) ?_
 simp only [p3, p4]
 refine ow 23 (.agg #[v0, v1]) rfl (fun w' hS => (rl 27 0 [v0, v1] hS.2)) ?_
 simp only [p3, p4]
 refine ow 24 (.agg #[u0, u1, u2, u3]) rfl (fun w' hS => (rl 31 0 [u0, u1, u2, u3] hS.1)) ?_
 simp only [p3, p4]
 refine ow 28 (.agg #[u0, u1, u2, u3]) rfl (fun w' hS => (rl 31 0 [u0, u1, u2, u3] hS.1)) ?_
 simp only [p3, p4]
 refine ow 30 (.agg #[v0, v1, v2, v3]) rfl (fun w' hS => (rl 31 0 [v0, v1, v2, v3] hS.2)) ?_
 simp only [p3, p4]
 refine oe ?_
 have kq43 := g9.kp.trans gd40.kp
 replace hb := hb.kp kq43
 refine ec 20 (den_i hb) ?_
 rintro e42 w42 ⟨⟨x42, y42, rfl, h42⟩, g42⟩
 refine ⟨_, rfl, ?_⟩
 replace hB := hB.trans g42
 replace L2 := L2.gr g42
 replace L3 := L3.gr g42
 refine ⟨⟨L2, L3⟩, ?_⟩
 simp only [p3, p4]
 refine oe ?_
 have kq46 := g7.kp.trans (g9.kp.trans (gd40.kp.trans g42.kp))
 replace ha := ha.kp kq46
 refine ec 21 (mul_i ha.num h42 (by omega)) ?_
 rintro e45 w45 ⟨⟨x45, y45, rfl, h45⟩, g45⟩
 refine ⟨_, rfl, ?_⟩
 replace hB := hB.trans g45
 replace L2 := L2.gr g45
 replace L3 := L3.gr g45
 refine ⟨⟨L2, L3⟩, ?_⟩
 simp only [p3, p4]
 refine oe ?_
 replace ha := ha.kp g45.kp
 refine ec 25 (den_i ha) ?_
 rintro e48 w48 ⟨⟨x48, y48, rfl, h48⟩, g48⟩
 refine ⟨_, rfl, ?_⟩
 replace hB := hB.trans g48
 replace L2 := L2.gr g48
 replace L3 := L3.gr g48
 refine ⟨⟨L2, L3⟩, ?_⟩
 simp only [p3, p4]
 refine oe ?_
 have kq51 := g42.kp.trans (g45.kp.trans g48.kp)
 replace hb := hb.kp kq51
 refine ec 26 (mul_i hb.num h48 (by omega)) ?_
 rintro e50 w50 ⟨⟨x50, y50, rfl, h50⟩, g50⟩
 refine ⟨_, rfl, ?_⟩
 replace hB := hB.trans g50
 replace L2 := L2.gr g50
 replace L3 := L3.gr g50
 refine ⟨⟨L2, L3⟩, ?_⟩
 simp only [p3, p4]
 refine oe ?_
 have kq54 := g48.kp.trans g50.kp
 replace h45 := h45.kp kq54
 refine ec 27 (add_e (k + m) h45 h50 (by omega) (by omega) (by omega)) ?_
 rintro e53 w53 ⟨⟨x53, y53, rfl, h53⟩, g53⟩
 refine ⟨_, rfl, ?_⟩
 replace hB := hB.trans g53
 replace L2 := L2.gr g53
 replace L3 := L3.gr g53
 refine ⟨⟨L2, L3⟩, ?_⟩
 simp only [p3, p4]
 refine oe ?_
 have kq57 := g48.kp.trans (g50.kp.trans g53.kp)
 replace ha := ha.kp kq57
 refine ec 29 (den_i ha) ?_
 rintro e56 w56 ⟨⟨x56, y56, rfl, h56⟩, g56⟩
 refine ⟨_, rfl, ?_⟩
 replace hB := hB.trans g56
 replace L2 := L2.gr g56
 replace L3 := L3.gr g56
 refine ⟨⟨L2, L3⟩, ?_⟩
 simp only [p3, p4]
 refine oe ?_
 have kq60 := g50.kp.trans (g53.kp.trans g56.kp)
 replace hb := hb.kp kq60
 refine ec 31 (den_i hb) ?_
 rintro e59 w59 ⟨⟨x59, y59, rfl, h59⟩, g59⟩
 refine ⟨_, rfl, ?_⟩
 replace hB := hB.trans g59
 replace L2 := L2.gr g59
 replace L3 := L3.gr g59
 refine ⟨⟨L2, L3⟩, ?_⟩
 simp only [p3, p4]
 refine oe ?_
 replace h56 := h56.kp g59.kp
 refine ec 32 (mul_i h56 h59 (by omega)) ?_
 rintro e62 w62 ⟨⟨x62, y62, rfl, h62⟩, g62⟩
 refine ⟨_, rfl, ?_⟩
 replace hB := hB.trans g62
 replace L2 := L2.gr g62
 replace L3 := L3.gr g62
 refine ⟨⟨L2, L3⟩, ?_⟩
 simp only [p3, p4]
 refine oe ?_
 have kq65 := g56.kp.trans (g59.kp.trans g62.kp)
 replace h53 := h53.kp kq65
 refine ec 33 (reduced_i ((k + m + 1)) h53 h62 (Int.mul_pos (Int.natCast_pos.2 a.den_pos) (Int.natCast_pos.2 b.den_pos)) (by omega) (by omega) (by omega) (by omega)) ?_
 rintro e64 w64 ⟨⟨p64, q64, r64, s64, rfl, h64⟩, g64⟩
 refine ⟨_, rfl, ?_⟩
 replace hB := hB.trans g64
 replace L2 := L2.gr g64
 replace L3 := L3.gr g64
 refine ⟨⟨L2, L3⟩, ?_⟩
 simp only [p3, p4]
 refine oe ?_
 replace L4 := L4.gr (g7.trans (g9.trans (gd40.trans (g42.trans (g45.trans (g48.trans (g50.trans (g53.trans (g56.trans (g59.trans (g62.trans g64)))))))))))
 refine es 31 0 (.agg #[p64, q64, r64, s64]) [p64, q64, r64, s64] #[p64, q64, r64, s64] L4 hB q4 ⟨h64.one0, h64.one1, h64.one2, h64.one3, trivial⟩ fun w67 st67 kp67 L4 hB => ?_
 replace L2 := st67.lc L2 ne2_4
 replace L3 := st67.lc L3 ne3_4
 refine ⟨⟨L2, L3⟩, ?_⟩
 refine ord_nil ?_
 refine k11 _ _ ?_
 try clear k11 K11
 refine wp_ret ?_
 refine bodyPost_ret (v := (.agg #[p64, q64, r64, s64])) (ret_cell _ _ _ rfl rfl L4 (by kernel_rfl)) rfl ⟨?_, hB⟩
 replace h64 := h64.kp kp67
 exact ⟨_, _, _, _, rfl, by rw [← rat_add]; exact h64⟩

set_option maxRecDepth 100000 in
set_option maxHeartbeats 1000000 in
theorem add_f {k m : Nat} {u0 u1 u2 u3 v0 v1 v2 v3 : Value} {a b : Rat} {w : World} (ha : IsRat w k u0 u1 u2 u3 a) (hb : IsRat w m v0 v1 v2 v3 b) (_hk : k + m ≤ 100000) (wa : a.den ≠ 1) :
    Calls Tryz.prog 30 #[(.agg #[u0, u1, u2, u3]), (.agg #[v0, v1, v2, v3])] w fun e w' => (∃ c0 c1 c2 c3, e = .returned (.agg #[c0, c1, c2, c3]) ∧ IsRat w' (k + m + 1) c0 c1 c2 c3 (a + b)) ∧ Gr w w' := by
 have hka := ha.big
 have hkb := hb.big
 go_enter Tryz.func30, Tryz.ntmps30
 have hB := Gr.refl w
 refine wp_seq_k (fun K1 k1 => ?_)
 refine rg [0, 1, 2] ?_
 refine se ?_
 refine eb 31 #[u0, u1, u2, u3] 2 hB fun b2 w2 g2 L2 o2 q2 hB => ?_
 simp only [p3, p4]
 refine se ?_
 refine eb 31 #[v0, v1, v2, v3] 3 hB fun b3 w3 g3 L3 o3 q3 hB => ?_
 simp only [p3, p4]
 refine se ?_
 refine ea 31 #[(.bool false), (.slice none 0 0), (.bool false), (.slice none 0 0)] 4 hB fun b4 w4 g4 L4 o4 q4 hB => ?_
 replace L2 := L2.gr g3
 have ne2_4 := L2.ne o4
 have ne3_4 := L3.ne o4
 simp only [p3, p4]
 refine sq_nil ?_
 refine k1 _ _ ?_
 try clear k1 K1
 refine wp_seq_k (fun K5 k5 => ?_)
 refine wp_seq_k (fun K6 k6 => ?_)
 refine rg [0, 1, 2, 3, 4, 5] ?_
 replace L2 := L2.gr g4
 refine sw 5 (.agg #[u0, u1, u2, u3]) rfl (rl 31 0 [u0, u1, u2, u3] L2) ?_
 simp only [p3, p4]
 refine se ?_
 have kq8 := g2.kp.trans (g3.kp.trans g4.kp)
 replace ha := ha.kp kq8
 refine ec 6 (whole_f ha (by omega) wa) ?_
 rintro e7 w7 ⟨rfl, g7⟩
 refine ⟨_, rfl, ?_⟩
 replace hB := hB.trans g7
 simp only [p3, p4]
 refine sv 7 (.bool false) ?_
 simp only [p3, p4]
 refine ss 8 ?_
 simp only [p3, p4]
 refine ss 9 ?_
 simp only [p3, p4]
 refine sv 10 (.bool false) ?_
 simp only [p3, p4]
 refine sq_nil ?_
 refine k6 _ _ ?_
 try clear k6 K6
 refine wp_cond_false rfl ?_
 refine wp_skip ?_
 refine k5 _ _ ?_
 try clear k5 K5
 refine wp_seq_k (fun K9 k9 => ?_)
 have gd38 := Gr.drew w7
 replace hB := hB.trans gd38
 replace L2 := L2.gr (g7.trans gd38)
 replace L3 := L3.gr (g4.trans (g7.trans gd38))
 refine wp_region_ord (fun w' => Lc w' b2 #[u0, u1, u2, u3] 31 ∧ Lc w' b3 #[v0, v1, v2, v3] 31) [(true, 0), (true, 1), (true, 2), (true, 5), (true, 6), (true, 7), (true, 11), (true, 13), (false, 3), (false, 4), (false, 8), (false, 9), (false, 10), (false, 12), (false, 14), (false, 15), (false, 16), (false, 17)] (by kernel_rfl) (by kernel_rfl) (by kernel_rfl) (by decide) (fun _ _ _ _ _ h => h) ⟨L2, L3⟩ ?_
 refine ov 17 (.pointer (some ⟨b2, 0, none⟩)) ?_
 simp only [p3, p4]
 refine ow 18 (.agg #[u0, u1]) rfl (fun w' hS => (rl 27 0 [u0, u1] hS.1)) ?_
 simp only [p3, p4]
 refine ow 19 (.agg #[v0, v1, v2, v3]) rfl (fun w' hS => (rl 31 0 [v0, v1, v2, v3] hS.2)) ?_
 simp only [p3, p4]
 refine ov 22 (.pointer (some ⟨b3, 0, none⟩)) ?_
 simp only [p3, p4]
 refine ow 23 (.agg #[v0, v1]) rfl (fun w' hS => (rl 27 0 [v0, v1] hS.2)) ?_
 simp only [p3, p4]
 refine ow 24 (.agg #[u0, u1, u2, u3]) rfl (fun w' hS => (rl 31 0 [u0, u1, u2, u3] hS.1)) ?_
 simp only [p3, p4]
 refine ow 28 (.agg #[u0, u1, u2, u3]) rfl (fun w' hS => (rl 31 0 [u0, u1, u2, u3] hS.1)) ?_
 simp only [p3, p4]
 refine ow 30 (.agg #[v0, v1, v2, v3]) rfl (fun w' hS => (rl 31 0 [v0, v1, v2, v3] hS.2)) ?_
 simp only [p3, p4]
 refine oe ?_
 have kq41 := g2.kp.trans (g3.kp.trans (g4.kp.trans (g7.kp.trans gd38.kp)))
 replace hb := hb.kp kq41
 refine ec 20 (den_i hb) ?_
 rintro e40 w40 ⟨⟨x40, y40, rfl, h40⟩, g40⟩
 refine ⟨_, rfl, ?_⟩
 replace hB := hB.trans g40
 replace L2 := L2.gr g40
 replace L3 := L3.gr g40
 refine ⟨⟨L2, L3⟩, ?_⟩
 simp only [p3, p4]
 refine oe ?_
 have kq44 := g7.kp.trans (gd38.kp.trans g40.kp)
 replace ha := ha.kp kq44
 refine ec 21 (mul_i ha.num h40 (by omega)) ?_
 rintro e43 w43 ⟨⟨x43, y43, rfl, h43⟩, g43⟩
 refine ⟨_, rfl, ?_⟩
 replace hB := hB.trans g43
 replace L2 := L2.gr g43
 replace L3 := L3.gr g43
 refine ⟨⟨L2, L3⟩, ?_⟩
 simp only [p3, p4]
 refine oe ?_
 replace ha := ha.kp g43.kp
 refine ec 25 (den_i ha) ?_
 rintro e46 w46 ⟨⟨x46, y46, rfl, h46⟩, g46⟩
 refine ⟨_, rfl, ?_⟩
 replace hB := hB.trans g46
 replace L2 := L2.gr g46
 replace L3 := L3.gr g46
 refine ⟨⟨L2, L3⟩, ?_⟩
 simp only [p3, p4]
 refine oe ?_
 have kq49 := g40.kp.trans (g43.kp.trans g46.kp)
 replace hb := hb.kp kq49
 refine ec 26 (mul_i hb.num h46 (by omega)) ?_
 rintro e48 w48 ⟨⟨x48, y48, rfl, h48⟩, g48⟩
 refine ⟨_, rfl, ?_⟩
 replace hB := hB.trans g48
 replace L2 := L2.gr g48
 replace L3 := L3.gr g48
 refine ⟨⟨L2, L3⟩, ?_⟩
 simp only [p3, p4]
 refine oe ?_
 have kq52 := g46.kp.trans g48.kp
 replace h43 := h43.kp kq52
 refine ec 27 (add_e (k + m) h43 h48 (by omega) (by omega) (by omega)) ?_
 rintro e51 w51 ⟨⟨x51, y51, rfl, h51⟩, g51⟩
 refine ⟨_, rfl, ?_⟩
 replace hB := hB.trans g51
 replace L2 := L2.gr g51
 replace L3 := L3.gr g51
 refine ⟨⟨L2, L3⟩, ?_⟩
 simp only [p3, p4]
 refine oe ?_
 have kq55 := g46.kp.trans (g48.kp.trans g51.kp)
 replace ha := ha.kp kq55
 refine ec 29 (den_i ha) ?_
 rintro e54 w54 ⟨⟨x54, y54, rfl, h54⟩, g54⟩
 refine ⟨_, rfl, ?_⟩
 replace hB := hB.trans g54
 replace L2 := L2.gr g54
 replace L3 := L3.gr g54
 refine ⟨⟨L2, L3⟩, ?_⟩
 simp only [p3, p4]
 refine oe ?_
 have kq58 := g48.kp.trans (g51.kp.trans g54.kp)
 replace hb := hb.kp kq58
 refine ec 31 (den_i hb) ?_
 rintro e57 w57 ⟨⟨x57, y57, rfl, h57⟩, g57⟩
 refine ⟨_, rfl, ?_⟩
 replace hB := hB.trans g57
 replace L2 := L2.gr g57
 replace L3 := L3.gr g57
 refine ⟨⟨L2, L3⟩, ?_⟩
 simp only [p3, p4]
 refine oe ?_
 replace h54 := h54.kp g57.kp
 refine ec 32 (mul_i h54 h57 (by omega)) ?_
 rintro e60 w60 ⟨⟨x60, y60, rfl, h60⟩, g60⟩
 refine ⟨_, rfl, ?_⟩
 replace hB := hB.trans g60
 replace L2 := L2.gr g60
 replace L3 := L3.gr g60
 refine ⟨⟨L2, L3⟩, ?_⟩
 simp only [p3, p4]
 refine oe ?_
 have kq63 := g54.kp.trans (g57.kp.trans g60.kp)
 replace h51 := h51.kp kq63
 refine ec 33 (reduced_i ((k + m + 1)) h51 h60 (Int.mul_pos (Int.natCast_pos.2 a.den_pos) (Int.natCast_pos.2 b.den_pos)) (by omega) (by omega) (by omega) (by omega)) ?_
 rintro e62 w62 ⟨⟨p62, q62, r62, s62, rfl, h62⟩, g62⟩
 refine ⟨_, rfl, ?_⟩
 replace hB := hB.trans g62
 replace L2 := L2.gr g62
 replace L3 := L3.gr g62
 refine ⟨⟨L2, L3⟩, ?_⟩
 simp only [p3, p4]
 refine oe ?_
 replace L4 := L4.gr (g7.trans (gd38.trans (g40.trans (g43.trans (g46.trans (g48.trans (g51.trans (g54.trans (g57.trans (g60.trans g62))))))))))
 refine es 31 0 (.agg #[p62, q62, r62, s62]) [p62, q62, r62, s62] #[p62, q62, r62, s62] L4 hB q4 ⟨h62.one0, h62.one1, h62.one2, h62.one3, trivial⟩ fun w65 st65 kp65 L4 hB => ?_
 replace L2 := st65.lc L2 ne2_4
 replace L3 := st65.lc L3 ne3_4
 refine ⟨⟨L2, L3⟩, ?_⟩
 refine ord_nil ?_
 refine k9 _ _ ?_
 try clear k9 K9
 refine wp_ret ?_
 refine bodyPost_ret (v := (.agg #[p62, q62, r62, s62])) (ret_cell _ _ _ rfl rfl L4 (by kernel_rfl)) rfl ⟨?_, hB⟩
 replace h62 := h62.kp kp65
 exact ⟨_, _, _, _, rfl, by rw [← rat_add]; exact h62⟩

theorem add_r {k m : Nat} {u0 u1 u2 u3 v0 v1 v2 v3 : Value} {a b : Rat} {w : World} (ha : IsRat w k u0 u1 u2 u3 a) (hb : IsRat w m v0 v1 v2 v3 b) (hk : k + m ≤ 100000) :
    Calls Tryz.prog 30 #[.agg #[u0, u1, u2, u3], .agg #[v0, v1, v2, v3]] w fun e w' => (∃ c0 c1 c2 c3, e = .returned (.agg #[c0, c1, c2, c3]) ∧ IsRat w' (k + m + 1) c0 c1 c2 c3 (a + b)) ∧ Gr w w' := by
  by_cases wa : a.den = 1
  · by_cases wb : b.den = 1
    · exact add_tt ha hb hk wa wb
    · exact add_tf ha hb hk wa wb
  · exact add_f ha hb hk wa

set_option maxRecDepth 100000 in
set_option maxHeartbeats 1000000 in
theorem mul_tt {k m : Nat} {u0 u1 u2 u3 v0 v1 v2 v3 : Value} {a b : Rat} {w : World} (ha : IsRat w k u0 u1 u2 u3 a) (hb : IsRat w m v0 v1 v2 v3 b) (_hk : k + m ≤ 100000) (wa : a.den = 1) (wb : b.den = 1) :
    Calls Tryz.prog 47 #[(.agg #[u0, u1, u2, u3]), (.agg #[v0, v1, v2, v3])] w fun e w' => (∃ c0 c1 c2 c3, e = .returned (.agg #[c0, c1, c2, c3]) ∧ IsRat w' (k + m) c0 c1 c2 c3 (a * b)) ∧ Gr w w' := by
 have hka := ha.big
 have hkb := hb.big
 go_enter Tryz.func47, Tryz.ntmps47
 have hB := Gr.refl w
 refine wp_seq_k (fun K1 k1 => ?_)
 refine rg [0, 1, 2] ?_
 refine se ?_
 refine eb 31 #[u0, u1, u2, u3] 2 hB fun b2 w2 g2 L2 o2 q2 hB => ?_
 simp only [p3, p4]
 refine se ?_
 refine eb 31 #[v0, v1, v2, v3] 3 hB fun b3 w3 g3 L3 o3 q3 hB => ?_
 simp only [p3, p4]
 refine se ?_
 refine ea 31 #[(.bool false), (.slice none 0 0), (.bool false), (.slice none 0 0)] 4 hB fun b4 w4 g4 L4 o4 q4 hB => ?_
 replace L2 := L2.gr g3
 simp only [p3, p4]
 refine sq_nil ?_
 refine k1 _ _ ?_
 try clear k1 K1
 refine wp_seq_k (fun K5 k5 => ?_)
 refine wp_seq_k (fun K6 k6 => ?_)
 refine rg [0, 1, 2, 3, 4, 5] ?_
 replace L2 := L2.gr g4
 refine sw 5 (.agg #[u0, u1, u2, u3]) rfl (rl 31 0 [u0, u1, u2, u3] L2) ?_
 simp only [p3, p4]
 refine se ?_
 have kq8 := g2.kp.trans (g3.kp.trans g4.kp)
 replace ha := ha.kp kq8
 refine ec 6 (whole_t ha (by omega) wa) ?_
 rintro e7 w7 ⟨rfl, g7⟩
 refine ⟨_, rfl, ?_⟩
 replace hB := hB.trans g7
 simp only [p3, p4]
 refine sv 7 (.bool true) ?_
 simp only [p3, p4]
 replace L3 := L3.gr (g4.trans g7)
 refine sw 8 (.agg #[v0, v1, v2, v3]) rfl (rl 31 0 [v0, v1, v2, v3] L3) ?_
 simp only [p3, p4]
 refine se ?_
 have kq10 := g2.kp.trans (g3.kp.trans (g4.kp.trans g7.kp))
 replace hb := hb.kp kq10
 refine ec 9 (whole_t hb (by omega) wb) ?_
 rintro e9 w9 ⟨rfl, g9⟩
 refine ⟨_, rfl, ?_⟩
 replace hB := hB.trans g9
 simp only [p3, p4]
 refine sv 10 (.bool true) ?_
 simp only [p3, p4]
 refine sq_nil ?_
 refine k6 _ _ ?_
 try clear k6 K6
 refine wp_cond_true rfl ?_
 refine wp_seq_k (fun K11 k11 => ?_)
 refine rg [0, 1, 2, 3, 4, 5, 6] ?_
 refine sv 11 (.pointer (some ⟨b2, 0, none⟩)) ?_
 simp only [p3, p4]
 replace L2 := L2.gr (g7.trans g9)
 refine sw 12 (.agg #[u0, u1]) rfl (rl 27 0 [u0, u1] L2) ?_
 simp only [p3, p4]
 refine sv 13 (.pointer (some ⟨b3, 0, none⟩)) ?_
 simp only [p3, p4]
 replace L3 := L3.gr g9
 refine sw 14 (.agg #[v0, v1]) rfl (rl 27 0 [v0, v1] L3) ?_
 simp only [p3, p4]
 refine se ?_
 have kq13 := g7.kp.trans g9.kp
 replace ha := ha.kp kq13
 replace hb := hb.kp g9.kp
 refine ec 15 (mul_i ha.num hb.num (by omega)) ?_
 rintro e12 w12 ⟨⟨x12, y12, rfl, h12⟩, g12⟩
 refine ⟨_, rfl, ?_⟩
 replace hB := hB.trans g12
 simp only [p3, p4]
 refine sv 16 (.agg #[x12, y12, (.bool false), (.slice none 0 0)]) ?_
 simp only [p3, p4]
 refine se ?_
 replace L4 := L4.gr (g7.trans (g9.trans g12))
 refine es 31 0 (.agg #[x12, y12, (.bool false), (.slice none 0 0)]) [x12, y12, (.bool false), (.slice none 0 0)] #[x12, y12, (.bool false), (.slice none 0 0)] L4 hB q4 ⟨h12.one0, h12.one1, rfl, rfl, trivial⟩ fun w14 st14 kp14 L4 hB => ?_
 refine sq_nil ?_
 refine k11 _ _ ?_
 try clear k11 K11
 refine wp_ret ?_
 simp only [Exit.then]
 refine bodyPost_ret (v := (.agg #[x12, y12, (.bool false), (.slice none 0 0)])) (ret_cell _ _ _ rfl rfl L4 (by kernel_rfl)) rfl ⟨?_, hB⟩
 replace h12 := h12.kp kp14
 exact ⟨_, _, _, _, rfl, by rw [← rat_int wa, ← rat_int wb, ← Rat.intCast_mul]; exact IsRat.int h12 (by omega)⟩

set_option maxRecDepth 100000 in
set_option maxHeartbeats 1000000 in
theorem mul_tf {k m : Nat} {u0 u1 u2 u3 v0 v1 v2 v3 : Value} {a b : Rat} {w : World} (ha : IsRat w k u0 u1 u2 u3 a) (hb : IsRat w m v0 v1 v2 v3 b) (_hk : k + m ≤ 100000) (wa : a.den = 1) (wb : b.den ≠ 1) :
    Calls Tryz.prog 47 #[(.agg #[u0, u1, u2, u3]), (.agg #[v0, v1, v2, v3])] w fun e w' => (∃ c0 c1 c2 c3, e = .returned (.agg #[c0, c1, c2, c3]) ∧ IsRat w' (k + m) c0 c1 c2 c3 (a * b)) ∧ Gr w w' := by
 have hka := ha.big
 have hkb := hb.big
 go_enter Tryz.func47, Tryz.ntmps47
 have hB := Gr.refl w
 refine wp_seq_k (fun K1 k1 => ?_)
 refine rg [0, 1, 2] ?_
 refine se ?_
 refine eb 31 #[u0, u1, u2, u3] 2 hB fun b2 w2 g2 L2 o2 q2 hB => ?_
 simp only [p3, p4]
 refine se ?_
 refine eb 31 #[v0, v1, v2, v3] 3 hB fun b3 w3 g3 L3 o3 q3 hB => ?_
 simp only [p3, p4]
 refine se ?_
 refine ea 31 #[(.bool false), (.slice none 0 0), (.bool false), (.slice none 0 0)] 4 hB fun b4 w4 g4 L4 o4 q4 hB => ?_
 replace L2 := L2.gr g3
 have ne2_4 := L2.ne o4
 have ne3_4 := L3.ne o4
 simp only [p3, p4]
 refine sq_nil ?_
 refine k1 _ _ ?_
 try clear k1 K1
 refine wp_seq_k (fun K5 k5 => ?_)
 refine wp_seq_k (fun K6 k6 => ?_)
 refine rg [0, 1, 2, 3, 4, 5] ?_
 replace L2 := L2.gr g4
 refine sw 5 (.agg #[u0, u1, u2, u3]) rfl (rl 31 0 [u0, u1, u2, u3] L2) ?_
 simp only [p3, p4]
 refine se ?_
 have kq8 := g2.kp.trans (g3.kp.trans g4.kp)
 replace ha := ha.kp kq8
 refine ec 6 (whole_t ha (by omega) wa) ?_
 rintro e7 w7 ⟨rfl, g7⟩
 refine ⟨_, rfl, ?_⟩
 replace hB := hB.trans g7
 simp only [p3, p4]
 refine sv 7 (.bool true) ?_
 simp only [p3, p4]
 replace L3 := L3.gr (g4.trans g7)
 refine sw 8 (.agg #[v0, v1, v2, v3]) rfl (rl 31 0 [v0, v1, v2, v3] L3) ?_
 simp only [p3, p4]
 refine se ?_
 have kq10 := g2.kp.trans (g3.kp.trans (g4.kp.trans g7.kp))
 replace hb := hb.kp kq10
 refine ec 9 (whole_f hb (by omega) wb) ?_
 rintro e9 w9 ⟨rfl, g9⟩
 refine ⟨_, rfl, ?_⟩
 replace hB := hB.trans g9
 simp only [p3, p4]
 refine sv 10 (.bool false) ?_
 simp only [p3, p4]
 refine sq_nil ?_
 refine k6 _ _ ?_
 try clear k6 K6
 refine wp_cond_false rfl ?_
 refine wp_skip ?_
 refine k5 _ _ ?_
 try clear k5 K5
 refine wp_seq_k (fun K11 k11 => ?_)
 have gd29 := Gr.drew w9
 replace hB := hB.trans gd29
 replace L2 := L2.gr (g7.trans (g9.trans gd29))
 replace L3 := L3.gr (g9.trans gd29)
 refine wp_region_ord (fun w' => Lc w' b2 #[u0, u1, u2, u3] 31 ∧ Lc w' b3 #[v0, v1, v2, v3] 31) [(true, 0), (true, 1), (true, 2), (true, 3), (true, 5), (true, 7), (false, 4), (false, 6), (false, 8), (false, 9), (false, 10), (false, 11)] (by kernel_rfl) (by kernel_rfl) (by kernel_rfl) (by decide) (fun _ _ _ _ _ h => h) ⟨L2, L3⟩ ?_
 refine ov 17 (.pointer (some ⟨b2, 0, none⟩)) ?_
 simp only [p3, p4]
 refine ow 18 (.agg #[u0, u1]) rfl (fun w' hS => (rl 27 0 [u0, u1] hS.1)) ?_
 simp only [p3, p4]
 refine ov 19 (.pointer (some ⟨b3, 0, none⟩)) ?_
 simp only [p3, p4]
 refine ow 20 (.agg #[v0, v1]) rfl (fun w' hS => (rl 27 0 [v0, v1] hS.2)) ?_
 simp only [p3, p4]
 refine ow 22 (.agg #[u0, u1, u2, u3]) rfl (fun w' hS => (rl 31 0 [u0, u1, u2, u3] hS.1)) ?_
 simp only [p3, p4]
 refine ow 24 (.agg #[v0, v1, v2, v3]) rfl (fun w' hS => (rl 31 0 [v0, v1, v2, v3] hS.2)) ?_
 simp only [p3, p4]
 refine oe ?_
 have kq32 := g7.kp.trans (g9.kp.trans gd29.kp)
 replace ha := ha.kp kq32
 have kq33 := g9.kp.trans gd29.kp
 replace hb := hb.kp kq33
 refine ec 21 (mul_i ha.num hb.num (by omega)) ?_
 rintro e31 w31 ⟨⟨x31, y31, rfl, h31⟩, g31⟩
 refine ⟨_, rfl, ?_⟩
 replace hB := hB.trans g31
 replace L2 := L2.gr g31
 replace L3 := L3.gr g31
 refine ⟨⟨L2, L3⟩, ?_⟩
 simp only [p3, p4]
 refine oe ?_
 replace ha := ha.kp g31.kp
 refine ec 23 (den_i ha) ?_
 rintro e35 w35 ⟨⟨x35, y35, rfl, h35⟩, g35⟩
 refine ⟨_, rfl, ?_⟩
 replace hB := hB.trans g35
 replace L2 := L2.gr g35
 replace L3 := L3.gr g35
 refine ⟨⟨L2, L3⟩, ?_⟩
 simp only [p3, p4]
 refine oe ?_
 have kq38 := g31.kp.trans g35.kp
 replace hb := hb.kp kq38
 refine ec 25 (den_i hb) ?_
 rintro e37 w37 ⟨⟨x37, y37, rfl, h37⟩, g37⟩
 refine ⟨_, rfl, ?_⟩
 replace hB := hB.trans g37
 replace L2 := L2.gr g37
 replace L3 := L3.gr g37
 refine ⟨⟨L2, L3⟩, ?_⟩
 simp only [p3, p4]
 refine oe ?_
 replace h35 := h35.kp g37.kp
 refine ec 26 (mul_i h35 h37 (by omega)) ?_
 rintro e40 w40 ⟨⟨x40, y40, rfl, h40⟩, g40⟩
 refine ⟨_, rfl, ?_⟩
 replace hB := hB.trans g40
 replace L2 := L2.gr g40
 replace L3 := L3.gr g40
 refine ⟨⟨L2, L3⟩, ?_⟩
 simp only [p3, p4]
 refine oe ?_
 have kq43 := g35.kp.trans (g37.kp.trans g40.kp)
 replace h31 := h31.kp kq43
 refine ec 27 (reduced_i ((k + m)) h31 h40 (Int.mul_pos (Int.natCast_pos.2 a.den_pos) (Int.natCast_pos.2 b.den_pos)) (by omega) (by omega) (by omega) (by omega)) ?_
 rintro e42 w42 ⟨⟨p42, q42, r42, s42, rfl, h42⟩, g42⟩
 refine ⟨_, rfl, ?_⟩
 replace hB := hB.trans g42
 replace L2 := L2.gr g42
 replace L3 := L3.gr g42
 refine ⟨⟨L2, L3⟩, ?_⟩
 simp only [p3, p4]
 refine oe ?_
 replace L4 := L4.gr (g7.trans (g9.trans (gd29.trans (g31.trans (g35.trans (g37.trans (g40.trans g42)))))))
 refine es 31 0 (.agg #[p42, q42, r42, s42]) [p42, q42, r42, s42] #[p42, q42, r42, s42] L4 hB q4 ⟨h42.one0, h42.one1, h42.one2, h42.one3, trivial⟩ fun w45 st45 kp45 L4 hB => ?_
 replace L2 := st45.lc L2 ne2_4
 replace L3 := st45.lc L3 ne3_4
 refine ⟨⟨L2, L3⟩, ?_⟩
 refine ord_nil ?_
 refine k11 _ _ ?_
 try clear k11 K11
 refine wp_ret ?_
 refine bodyPost_ret (v := (.agg #[p42, q42, r42, s42])) (ret_cell _ _ _ rfl rfl L4 (by kernel_rfl)) rfl ⟨?_, hB⟩
 replace h42 := h42.kp kp45
 exact ⟨_, _, _, _, rfl, by rw [← rat_mul]; exact h42⟩

set_option maxRecDepth 100000 in
set_option maxHeartbeats 1000000 in
theorem mul_f {k m : Nat} {u0 u1 u2 u3 v0 v1 v2 v3 : Value} {a b : Rat} {w : World} (ha : IsRat w k u0 u1 u2 u3 a) (hb : IsRat w m v0 v1 v2 v3 b) (_hk : k + m ≤ 100000) (wa : a.den ≠ 1) :
    Calls Tryz.prog 47 #[(.agg #[u0, u1, u2, u3]), (.agg #[v0, v1, v2, v3])] w fun e w' => (∃ c0 c1 c2 c3, e = .returned (.agg #[c0, c1, c2, c3]) ∧ IsRat w' (k + m) c0 c1 c2 c3 (a * b)) ∧ Gr w w' := by
 have hka := ha.big
 have hkb := hb.big
 go_enter Tryz.func47, Tryz.ntmps47
 have hB := Gr.refl w
 refine wp_seq_k (fun K1 k1 => ?_)
 refine rg [0, 1, 2] ?_
 refine se ?_
 refine eb 31 #[u0, u1, u2, u3] 2 hB fun b2 w2 g2 L2 o2 q2 hB => ?_
 simp only [p3, p4]
 refine se ?_
 refine eb 31 #[v0, v1, v2, v3] 3 hB fun b3 w3 g3 L3 o3 q3 hB => ?_
 simp only [p3, p4]
 refine se ?_
 refine ea 31 #[(.bool false), (.slice none 0 0), (.bool false), (.slice none 0 0)] 4 hB fun b4 w4 g4 L4 o4 q4 hB => ?_
 replace L2 := L2.gr g3
 have ne2_4 := L2.ne o4
 have ne3_4 := L3.ne o4
 simp only [p3, p4]
 refine sq_nil ?_
 refine k1 _ _ ?_
 try clear k1 K1
 refine wp_seq_k (fun K5 k5 => ?_)
 refine wp_seq_k (fun K6 k6 => ?_)
 refine rg [0, 1, 2, 3, 4, 5] ?_
 replace L2 := L2.gr g4
 refine sw 5 (.agg #[u0, u1, u2, u3]) rfl (rl 31 0 [u0, u1, u2, u3] L2) ?_
 simp only [p3, p4]
 refine se ?_
 have kq8 := g2.kp.trans (g3.kp.trans g4.kp)
 replace ha := ha.kp kq8
 refine ec 6 (whole_f ha (by omega) wa) ?_
 rintro e7 w7 ⟨rfl, g7⟩
 refine ⟨_, rfl, ?_⟩
 replace hB := hB.trans g7
 simp only [p3, p4]
 refine sv 7 (.bool false) ?_
 simp only [p3, p4]
 refine ss 8 ?_
 simp only [p3, p4]
 refine ss 9 ?_
 simp only [p3, p4]
 refine sv 10 (.bool false) ?_
 simp only [p3, p4]
 refine sq_nil ?_
 refine k6 _ _ ?_
 try clear k6 K6
 refine wp_cond_false rfl ?_
 refine wp_skip ?_
 refine k5 _ _ ?_
 try clear k5 K5
 refine wp_seq_k (fun K9 k9 => ?_)
 have gd27 := Gr.drew w7
 replace hB := hB.trans gd27
 replace L2 := L2.gr (g7.trans gd27)
 replace L3 := L3.gr (g4.trans (g7.trans gd27))
 refine wp_region_ord (fun w' => Lc w' b2 #[u0, u1, u2, u3] 31 ∧ Lc w' b3 #[v0, v1, v2, v3] 31) [(true, 0), (true, 1), (true, 2), (true, 3), (true, 5), (true, 7), (false, 4), (false, 6), (false, 8), (false, 9), (false, 10), (false, 11)] (by kernel_rfl) (by kernel_rfl) (by kernel_rfl) (by decide) (fun _ _ _ _ _ h => h) ⟨L2, L3⟩ ?_
 refine ov 17 (.pointer (some ⟨b2, 0, none⟩)) ?_
 simp only [p3, p4]
 refine ow 18 (.agg #[u0, u1]) rfl (fun w' hS => (rl 27 0 [u0, u1] hS.1)) ?_
 simp only [p3, p4]
 refine ov 19 (.pointer (some ⟨b3, 0, none⟩)) ?_
 simp only [p3, p4]
 refine ow 20 (.agg #[v0, v1]) rfl (fun w' hS => (rl 27 0 [v0, v1] hS.2)) ?_
 simp only [p3, p4]
 refine ow 22 (.agg #[u0, u1, u2, u3]) rfl (fun w' hS => (rl 31 0 [u0, u1, u2, u3] hS.1)) ?_
 simp only [p3, p4]
 refine ow 24 (.agg #[v0, v1, v2, v3]) rfl (fun w' hS => (rl 31 0 [v0, v1, v2, v3] hS.2)) ?_
 simp only [p3, p4]
 refine oe ?_
 have kq30 := g7.kp.trans gd27.kp
 replace ha := ha.kp kq30
 have kq31 := g2.kp.trans (g3.kp.trans (g4.kp.trans (g7.kp.trans gd27.kp)))
 replace hb := hb.kp kq31
 refine ec 21 (mul_i ha.num hb.num (by omega)) ?_
 rintro e29 w29 ⟨⟨x29, y29, rfl, h29⟩, g29⟩
 refine ⟨_, rfl, ?_⟩
 replace hB := hB.trans g29
 replace L2 := L2.gr g29
 replace L3 := L3.gr g29
 refine ⟨⟨L2, L3⟩, ?_⟩
 simp only [p3, p4]
 refine oe ?_
 replace ha := ha.kp g29.kp
 refine ec 23 (den_i ha) ?_
 rintro e33 w33 ⟨⟨x33, y33, rfl, h33⟩, g33⟩
 refine ⟨_, rfl, ?_⟩
 replace hB := hB.trans g33
 replace L2 := L2.gr g33
 replace L3 := L3.gr g33
 refine ⟨⟨L2, L3⟩, ?_⟩
 simp only [p3, p4]
 refine oe ?_
 have kq36 := g29.kp.trans g33.kp
 replace hb := hb.kp kq36
 refine ec 25 (den_i hb) ?_
 rintro e35 w35 ⟨⟨x35, y35, rfl, h35⟩, g35⟩
 refine ⟨_, rfl, ?_⟩
 replace hB := hB.trans g35
 replace L2 := L2.gr g35
 replace L3 := L3.gr g35
 refine ⟨⟨L2, L3⟩, ?_⟩
 simp only [p3, p4]
 refine oe ?_
 replace h33 := h33.kp g35.kp
 refine ec 26 (mul_i h33 h35 (by omega)) ?_
 rintro e38 w38 ⟨⟨x38, y38, rfl, h38⟩, g38⟩
 refine ⟨_, rfl, ?_⟩
 replace hB := hB.trans g38
 replace L2 := L2.gr g38
 replace L3 := L3.gr g38
 refine ⟨⟨L2, L3⟩, ?_⟩
 simp only [p3, p4]
 refine oe ?_
 have kq41 := g33.kp.trans (g35.kp.trans g38.kp)
 replace h29 := h29.kp kq41
 refine ec 27 (reduced_i ((k + m)) h29 h38 (Int.mul_pos (Int.natCast_pos.2 a.den_pos) (Int.natCast_pos.2 b.den_pos)) (by omega) (by omega) (by omega) (by omega)) ?_
 rintro e40 w40 ⟨⟨p40, q40, r40, s40, rfl, h40⟩, g40⟩
 refine ⟨_, rfl, ?_⟩
 replace hB := hB.trans g40
 replace L2 := L2.gr g40
 replace L3 := L3.gr g40
 refine ⟨⟨L2, L3⟩, ?_⟩
 simp only [p3, p4]
 refine oe ?_
 replace L4 := L4.gr (g7.trans (gd27.trans (g29.trans (g33.trans (g35.trans (g38.trans g40))))))
 refine es 31 0 (.agg #[p40, q40, r40, s40]) [p40, q40, r40, s40] #[p40, q40, r40, s40] L4 hB q4 ⟨h40.one0, h40.one1, h40.one2, h40.one3, trivial⟩ fun w43 st43 kp43 L4 hB => ?_
 replace L2 := st43.lc L2 ne2_4
 replace L3 := st43.lc L3 ne3_4
 refine ⟨⟨L2, L3⟩, ?_⟩
 refine ord_nil ?_
 refine k9 _ _ ?_
 try clear k9 K9
 refine wp_ret ?_
 refine bodyPost_ret (v := (.agg #[p40, q40, r40, s40])) (ret_cell _ _ _ rfl rfl L4 (by kernel_rfl)) rfl ⟨?_, hB⟩
 replace h40 := h40.kp kp43
 exact ⟨_, _, _, _, rfl, by rw [← rat_mul]; exact h40⟩

theorem mul_r {k m : Nat} {u0 u1 u2 u3 v0 v1 v2 v3 : Value} {a b : Rat} {w : World} (ha : IsRat w k u0 u1 u2 u3 a) (hb : IsRat w m v0 v1 v2 v3 b) (hk : k + m ≤ 100000) :
    Calls Tryz.prog 47 #[.agg #[u0, u1, u2, u3], .agg #[v0, v1, v2, v3]] w fun e w' => (∃ c0 c1 c2 c3, e = .returned (.agg #[c0, c1, c2, c3]) ∧ IsRat w' (k + m) c0 c1 c2 c3 (a * b)) ∧ Gr w w' := by
  by_cases wa : a.den = 1
  · by_cases wb : b.den = 1
    · exact mul_tt ha hb hk wa wb
    · exact mul_tf ha hb hk wa wb
  · exact mul_f ha hb hk wa

set_option maxRecDepth 100000 in
set_option maxHeartbeats 1000000 in
theorem neg_r {k : Nat} {u0 u1 u2 u3 : Value} {a : Rat} {w : World} (ha : IsRat w k u0 u1 u2 u3 a)  :
    Calls Tryz.prog 34 #[(.agg #[u0, u1, u2, u3])] w fun e w' => (∃ c0 c1 c2 c3, e = .returned (.agg #[c0, c1, c2, c3]) ∧ IsRat w' k c0 c1 c2 c3 (-a)) ∧ Gr w w' := by
 go_enter Tryz.func34, Tryz.ntmps34
 have hB := Gr.refl w
 refine wp_seq_k (fun K1 k1 => ?_)
 refine rg [0, 1] ?_
 refine se ?_
 refine eb 31 #[u0, u1, u2, u3] 1 hB fun b2 w2 g2 L2 o2 q2 hB => ?_
 simp only [p3, p4]
 refine se ?_
 refine ea 31 #[(.bool false), (.slice none 0 0), (.bool false), (.slice none 0 0)] 2 hB fun b3 w3 g3 L3 o3 q3 hB => ?_
 have ne2_3 := L2.ne o3
 simp only [p3, p4]
 refine sq_nil ?_
 refine k1 _ _ ?_
 try clear k1 K1
 refine wp_seq_k (fun K4 k4 => ?_)
 have gd11 := Gr.drew w3
 replace hB := hB.trans gd11
 replace L2 := L2.gr (g3.trans gd11)
 refine wp_region_ord (fun w' => Lc w' b2 #[u0, u1, u2, u3] 31) [(true, 0), (true, 1), (true, 3), (true, 4), (false, 2), (true, 5), (false, 6)] (by kernel_rfl) (by kernel_rfl) (by kernel_rfl) (by decide) (fun _ _ _ _ _ h => h) L2 ?_
 refine ov 3 (.pointer (some ⟨b2, 0, none⟩)) ?_
 simp only [p3, p4]
 refine ow 4 (.agg #[u0, u1]) rfl (fun w' hS => (rl 27 0 [u0, u1] hS)) ?_
 simp only [p3, p4]
 refine ov 6 (.pointer (some ⟨b2, 2, none⟩)) ?_
 simp only [p3, p4]
 refine ow 7 (.agg #[u2, u3]) rfl (fun w' hS => (rl 27 2 [u2, u3] hS)) ?_
 simp only [p3, p4]
 refine oe ?_
 have kq14 := g2.kp.trans (g3.kp.trans gd11.kp)
 replace ha := ha.kp kq14
 refine ec 5 (neg_i ha.num ) ?_
 rintro e13 w13 ⟨⟨x13, y13, rfl, h13⟩, g13⟩
 refine ⟨_, rfl, ?_⟩
 replace hB := hB.trans g13
 replace L2 := L2.gr g13
 refine ⟨L2, ?_⟩
 simp only [p3, p4]
 refine ov 8 (.agg #[x13, y13, u2, u3]) ?_
 simp only [p3, p4]
 refine oe ?_
 replace L3 := L3.gr (gd11.trans g13)
 refine es 31 0 (.agg #[x13, y13, u2, u3]) [x13, y13, u2, u3] #[x13, y13, u2, u3] L3 hB q3 ⟨h13.one0, h13.one1, ha.one2, ha.one3, trivial⟩ fun w16 st16 kp16 L3 hB => ?_
 replace L2 := st16.lc L2 ne2_3
 refine ⟨L2, ?_⟩
 refine ord_nil ?_
 refine k4 _ _ ?_
 try clear k4 K4
 refine wp_ret ?_
 refine bodyPost_ret (v := (.agg #[x13, y13, u2, u3])) (ret_cell _ _ _ rfl rfl L3 (by kernel_rfl)) rfl ⟨?_, hB⟩
 have kq17 := g13.kp.trans kp16
 replace ha := ha.kp kq17
 replace h13 := h13.kp kp16
 exact ⟨_, _, _, _, rfl, IsRat.neg ha h13⟩

set_option maxRecDepth 100000 in
set_option maxHeartbeats 1000000 in
theorem sub_r {k m : Nat} {u0 u1 u2 u3 v0 v1 v2 v3 : Value} {a b : Rat} {w : World} (ha : IsRat w k u0 u1 u2 u3 a) (hb : IsRat w m v0 v1 v2 v3 b) (_hk : k + m ≤ 100000)  :
    Calls Tryz.prog 32 #[(.agg #[u0, u1, u2, u3]), (.agg #[v0, v1, v2, v3])] w fun e w' => (∃ c0 c1 c2 c3, e = .returned (.agg #[c0, c1, c2, c3]) ∧ IsRat w' (k + m + 1) c0 c1 c2 c3 (a - b)) ∧ Gr w w' := by
 go_enter Tryz.func32, Tryz.ntmps32
 have hB := Gr.refl w
 refine wp_seq_k (fun K1 k1 => ?_)
 refine rg [0, 1, 2] ?_
 refine se ?_
 refine eb 31 #[u0, u1, u2, u3] 2 hB fun b2 w2 g2 L2 o2 q2 hB => ?_
 simp only [p3, p4]
 refine se ?_
 refine eb 31 #[v0, v1, v2, v3] 3 hB fun b3 w3 g3 L3 o3 q3 hB => ?_
 simp only [p3, p4]
 refine se ?_
 refine ea 31 #[(.bool false), (.slice none 0 0), (.bool false), (.slice none 0 0)] 4 hB fun b4 w4 g4 L4 o4 q4 hB => ?_
 replace L2 := L2.gr g3
 have ne2_4 := L2.ne o4
 have ne3_4 := L3.ne o4
 simp only [p3, p4]
 refine sq_nil ?_
 refine k1 _ _ ?_
 try clear k1 K1
 refine wp_seq_k (fun K5 k5 => ?_)
 have gd15 := Gr.drew w4
 replace hB := hB.trans gd15
 replace L2 := L2.gr (g4.trans gd15)
 replace L3 := L3.gr (g4.trans gd15)
 refine wp_region_ord (fun w' => Lc w' b2 #[u0, u1, u2, u3] 31 ∧ Lc w' b3 #[v0, v1, v2, v3] 31) [(true, 0), (true, 1), (false, 2), (false, 3), (false, 4)] (by kernel_rfl) (by kernel_rfl) (by kernel_rfl) (by decide) (fun _ _ _ _ _ h => h) ⟨L2, L3⟩ ?_
 refine ow 5 (.agg #[u0, u1, u2, u3]) rfl (fun w' hS => (rl 31 0 [u0, u1, u2, u3] hS.1)) ?_
 simp only [p3, p4]
 refine ow 6 (.agg #[v0, v1, v2, v3]) rfl (fun w' hS => (rl 31 0 [v0, v1, v2, v3] hS.2)) ?_
 simp only [p3, p4]
 refine oe ?_
 have kq18 := g2.kp.trans (g3.kp.trans (g4.kp.trans gd15.kp))
 replace hb := hb.kp kq18
 refine ec 7 (neg_r hb ) ?_
 rintro e17 w17 ⟨⟨p17, q17, r17, s17, rfl, h17⟩, g17⟩
 refine ⟨_, rfl, ?_⟩
 replace hB := hB.trans g17
 replace L2 := L2.gr g17
 replace L3 := L3.gr g17
 refine ⟨⟨L2, L3⟩, ?_⟩
 simp only [p3, p4]
 refine oe ?_
 have kq21 := g2.kp.trans (g3.kp.trans (g4.kp.trans (gd15.kp.trans g17.kp)))
 replace ha := ha.kp kq21
 refine ec 8 (add_r ha h17 (by omega)) ?_
 rintro e20 w20 ⟨⟨p20, q20, r20, s20, rfl, h20⟩, g20⟩
 refine ⟨_, rfl, ?_⟩
 replace hB := hB.trans g20
 replace L2 := L2.gr g20
 replace L3 := L3.gr g20
 refine ⟨⟨L2, L3⟩, ?_⟩
 simp only [p3, p4]
 refine oe ?_
 replace L4 := L4.gr (gd15.trans (g17.trans g20))
 refine es 31 0 (.agg #[p20, q20, r20, s20]) [p20, q20, r20, s20] #[p20, q20, r20, s20] L4 hB q4 ⟨h20.one0, h20.one1, h20.one2, h20.one3, trivial⟩ fun w23 st23 kp23 L4 hB => ?_
 replace L2 := st23.lc L2 ne2_4
 replace L3 := st23.lc L3 ne3_4
 refine ⟨⟨L2, L3⟩, ?_⟩
 refine ord_nil ?_
 refine k5 _ _ ?_
 try clear k5 K5
 refine wp_ret ?_
 refine bodyPost_ret (v := (.agg #[p20, q20, r20, s20])) (ret_cell _ _ _ rfl rfl L4 (by kernel_rfl)) rfl ⟨?_, hB⟩
 replace h20 := h20.kp kp23
 exact ⟨_, _, _, _, rfl, by rw [Rat.sub_eq_add_neg]; exact h20⟩

set_option maxRecDepth 100000 in
set_option maxHeartbeats 1000000 in
theorem num_r {k : Nat} {u0 u1 u2 u3 : Value} {a : Rat} {w : World} (ha : IsRat w k u0 u1 u2 u3 a)  :
    Calls Tryz.prog 22 #[(.agg #[u0, u1, u2, u3])] w fun e w' => (∃ x' y', e = .returned (.agg #[x', y']) ∧ IsInt w' k x' y' (a.num)) ∧ Gr w w' := by
 go_enter Tryz.func22, Tryz.ntmps22
 have hB := Gr.refl w
 refine wp_seq_k (fun K1 k1 => ?_)
 refine rg [0, 1] ?_
 refine se ?_
 refine eb 31 #[u0, u1, u2, u3] 1 hB fun b2 w2 g2 L2 o2 q2 hB => ?_
 simp only [p3, p4]
 refine se ?_
 refine ea 27 #[(.bool false), (.slice none 0 0)] 2 hB fun b3 w3 g3 L3 o3 q3 hB => ?_
 simp only [p3, p4]
 refine sq_nil ?_
 refine k1 _ _ ?_
 try clear k1 K1
 refine wp_seq_k (fun K4 k4 => ?_)
 refine rg [0, 1, 2] ?_
 refine sv 3 (.pointer (some ⟨b2, 0, none⟩)) ?_
 simp only [p3, p4]
 replace L2 := L2.gr g3
 refine sw 4 (.agg #[u0, u1]) rfl (rl 27 0 [u0, u1] L2) ?_
 simp only [p3, p4]
 refine se ?_
 refine es 27 0 (.agg #[u0, u1]) [u0, u1] #[u0, u1] L3 hB q3 ⟨ha.one0, ha.one1, trivial⟩ fun w5 st5 kp5 L3 hB => ?_
 refine sq_nil ?_
 refine k4 _ _ ?_
 try clear k4 K4
 refine wp_ret ?_
 refine bodyPost_ret (v := (.agg #[u0, u1])) (ret_cell _ _ _ rfl rfl L3 (by kernel_rfl)) rfl ⟨?_, hB⟩
 have kq6 := g2.kp.trans (g3.kp.trans kp5)
 replace ha := ha.kp kq6
 exact ⟨_, _, rfl, ha.num⟩

set_option maxRecDepth 100000 in
set_option maxHeartbeats 1000000 in
theorem sign_r {k : Nat} {u0 u1 u2 u3 : Value} {a : Rat} {w : World} (ha : IsRat w k u0 u1 u2 u3 a)  :
    Calls Tryz.prog 57 #[(.agg #[u0, u1, u2, u3])] w fun e w' => e = .returned (.int .i64 (sgn a.num)) ∧ Gr w w' := by
 go_enter Tryz.func57, Tryz.ntmps57
 have hB := Gr.refl w
 refine wp_seq_k (fun K1 k1 => ?_)
 refine rg [0, 1] ?_
 refine se ?_
 refine eb 31 #[u0, u1, u2, u3] 1 hB fun b2 w2 g2 L2 o2 q2 hB => ?_
 simp only [p3, p4]
 refine sv 2 (.int .i64 0) ?_
 simp only [p3, p4]
 refine sq_nil ?_
 refine k1 _ _ ?_
 try clear k1 K1
 refine wp_seq_k (fun K3 k3 => ?_)
 refine rg [0, 1, 2, 3] ?_
 refine sv 3 (.pointer (some ⟨b2, 0, none⟩)) ?_
 simp only [p3, p4]
 refine sw 4 (.agg #[u0, u1]) rfl (rl 27 0 [u0, u1] L2) ?_
 simp only [p3, p4]
 refine se ?_
 replace ha := ha.kp g2.kp
 refine ec 5 (sign_i ha.num) ?_
 rintro e4 w4 ⟨rfl, g4⟩
 refine ⟨_, rfl, ?_⟩
 replace hB := hB.trans g4
 simp only [p3, p4]
 refine sv 2 (.int .i64 (sgn (a.num))) ?_
 simp only [p3, p4]
 refine sq_nil ?_
 refine k3 _ _ ?_
 try clear k3 K3
 refine wp_ret ?_
 refine bodyPost_ret (v := (.int .i64 (sgn (a.num)))) (ret_tmp rfl rfl) rfl ⟨?_, hB⟩
 exact rfl

set_option maxRecDepth 100000 in
set_option maxHeartbeats 1000000 in
theorem from_r (z : Int) (_h0 : -9223372036854775808 ≤ z) (_h1 : z ≤ 9223372036854775807) (w : World) :
    Calls Tryz.prog 41 #[(.int .i64 (z))] w fun e w' => (∃ c0 c1 c2 c3, e = .returned (.agg #[c0, c1, c2, c3]) ∧ IsRat w' 64 c0 c1 c2 c3 ((z : Rat))) ∧ Gr w w' := by
 go_enter Tryz.func41, Tryz.ntmps41
 have hB := Gr.refl w
 refine wp_seq_k (fun K1 k1 => ?_)
 refine rg [0] ?_
 refine se ?_
 refine ea 31 #[(.bool false), (.slice none 0 0), (.bool false), (.slice none 0 0)] 2 hB fun b2 w2 g2 L2 o2 q2 hB => ?_
 simp only [p3, p4]
 refine sq_nil ?_
 refine k1 _ _ ?_
 try clear k1 K1
 refine wp_seq_k (fun K3 k3 => ?_)
 refine rg [0, 1, 2, 3] ?_
 refine sv 3 (.int .i64 (z)) ?_
 simp only [p3, p4]
 refine se ?_
 refine ec 4 (from_i (z) (by omega) (by omega) _) ?_
 rintro e4 w4 ⟨⟨x4, y4, rfl, h4⟩, g4⟩
 refine ⟨_, rfl, ?_⟩
 replace hB := hB.trans g4
 simp only [p3, p4]
 refine sv 5 (.agg #[x4, y4, (.bool false), (.slice none 0 0)]) ?_
 simp only [p3, p4]
 refine se ?_
 replace L2 := L2.gr g4
 refine es 31 0 (.agg #[x4, y4, (.bool false), (.slice none 0 0)]) [x4, y4, (.bool false), (.slice none 0 0)] #[x4, y4, (.bool false), (.slice none 0 0)] L2 hB q2 ⟨h4.one0, h4.one1, rfl, rfl, trivial⟩ fun w5 st5 kp5 L2 hB => ?_
 refine sq_nil ?_
 refine k3 _ _ ?_
 try clear k3 K3
 refine wp_ret ?_
 refine bodyPost_ret (v := (.agg #[x4, y4, (.bool false), (.slice none 0 0)])) (ret_cell _ _ _ rfl rfl L2 (by kernel_rfl)) rfl ⟨?_, hB⟩
 replace h4 := h4.kp kp5
 exact ⟨_, _, _, _, rfl, IsRat.int h4 (by omega)⟩

set_option maxRecDepth 100000 in
set_option maxHeartbeats 1000000 in
theorem make_r {k m : Nat} (K : Nat) {n0 n1 d0 d1 : Value} {N D : Int} {w : World} (hn : IsInt w k n0 n1 N) (hd : IsInt w m d0 d1 D) (h0 : 0 < D) (_h1 : k ≤ K) (_h2 : m ≤ K) (_h3 : 64 ≤ K) (_h4 : 8 * K ≤ 1000000) :
    Calls Tryz.prog 18 #[(.agg #[n0, n1]), (.agg #[d0, d1])] w fun e w' => (∃ c0 c1 c2 c3, e = .returned (.tuple #[.agg #[c0, c1, c2, c3], .int .i64 0]) ∧ IsRat w' K c0 c1 c2 c3 (Rat.divInt N D)) ∧ Gr w w' := by
 go_enter Tryz.func18, Tryz.ntmps18
 have hB := Gr.refl w
 refine wp_seq_k (fun K1 k1 => ?_)
 refine rg [0, 1, 2, 3] ?_
 refine se ?_
 refine eb 27 #[n0, n1] 2 hB fun b2 w2 g2 L2 o2 q2 hB => ?_
 simp only [p3, p4]
 refine se ?_
 refine eb 27 #[d0, d1] 3 hB fun b3 w3 g3 L3 o3 q3 hB => ?_
 simp only [p3, p4]
 refine se ?_
 refine ea 31 #[(.bool false), (.slice none 0 0), (.bool false), (.slice none 0 0)] 4 hB fun b4 w4 g4 L4 o4 q4 hB => ?_
 replace L2 := L2.gr g3
 simp only [p3, p4]
 refine sv 5 (.int .i64 0) ?_
 simp only [p3, p4]
 refine sq_nil ?_
 refine k1 _ _ ?_
 try clear k1 K1
 refine wp_seq_k (fun K5 k5 => ?_)
 refine wp_seq_k (fun K6 k6 => ?_)
 refine rg [0, 1, 2] ?_
 replace L3 := L3.gr g4
 refine sw 6 (.agg #[d0, d1]) rfl (rl 27 0 [d0, d1] L3) ?_
 simp only [p3, p4]
 refine se ?_
 have kq8 := g2.kp.trans (g3.kp.trans g4.kp)
 replace hd := hd.kp kq8
 refine ec 7 (sign_pos hd (by omega)) ?_
 rintro e7 w7 ⟨rfl, g7⟩
 refine ⟨_, rfl, ?_⟩
 replace hB := hB.trans g7
 simp only [p3, p4]
 refine sv 8 (.bool false) ?_
 simp only [p3, p4]
 refine sq_nil ?_
 refine k6 _ _ ?_
 try clear k6 K6
 refine wp_cond_false rfl ?_
 refine wp_skip ?_
 refine k5 _ _ ?_
 try clear k5 K5
 refine wp_seq_k (fun K9 k9 => ?_)
 refine rg [0, 1, 2, 3, 4] ?_
 replace L2 := L2.gr (g4.trans g7)
 refine sw 10 (.agg #[n0, n1]) rfl (rl 27 0 [n0, n1] L2) ?_
 simp only [p3, p4]
 replace L3 := L3.gr g7
 refine sw 11 (.agg #[d0, d1]) rfl (rl 27 0 [d0, d1] L3) ?_
 simp only [p3, p4]
 refine se ?_
 have kq11 := g2.kp.trans (g3.kp.trans (g4.kp.trans g7.kp))
 replace hn := hn.kp kq11
 replace hd := hd.kp g7.kp
 refine ec 12 (reduced_i (K) hn hd h0 (by omega) (by omega) (by omega) (by omega)) ?_
 rintro e10 w10 ⟨⟨p10, q10, r10, s10, rfl, h10⟩, g10⟩
 refine ⟨_, rfl, ?_⟩
 replace hB := hB.trans g10
 simp only [p3, p4]
 refine se ?_
 replace L4 := L4.gr (g7.trans g10)
 refine es 31 0 (.agg #[p10, q10, r10, s10]) [p10, q10, r10, s10] #[p10, q10, r10, s10] L4 hB q4 ⟨h10.one0, h10.one1, h10.one2, h10.one3, trivial⟩ fun w12 st12 kp12 L4 hB => ?_
 refine sv 5 (.int .i64 0) ?_
 simp only [p3, p4]
 refine sq_nil ?_
 refine k9 _ _ ?_
 try clear k9 K9
 refine wp_ret ?_
 refine bodyPost_ret (v := (.tuple #[(.agg #[p10, q10, r10, s10]), (.int .i64 0)])) (ret_cell_tmp' _ _ _ rfl rfl L4 (by kernel_rfl) rfl) rfl ⟨?_, hB⟩
 replace h10 := h10.kp kp12
 exact ⟨_, _, _, _, rfl, h10⟩

theorem sign_rp {k : Nat} {u0 u1 u2 u3 : Value} {a : Rat} {w : World} (ha : IsRat w k u0 u1 u2 u3 a) (h : 0 < a.num) :
    Calls Tryz.prog 57 #[.agg #[u0, u1, u2, u3]] w fun e w' => e = .returned (.int .i64 1) ∧ Gr w w' := by
  have := sign_r ha
  rw [sgn_pos h] at this
  exact this

set_option maxRecDepth 100000 in
set_option maxHeartbeats 1000000 in
theorem div_r {k m : Nat} {u0 u1 u2 u3 v0 v1 v2 v3 : Value} {a b : Rat} {w : World} (ha : IsRat w k u0 u1 u2 u3 a) (hb : IsRat w m v0 v1 v2 v3 b) (_hk : k + m ≤ 100000) (h0 : 0 < b.num) :
    Calls Tryz.prog 46 #[(.agg #[u0, u1, u2, u3]), (.agg #[v0, v1, v2, v3])] w fun e w' => (∃ c0 c1 c2 c3, e = .returned (.tuple #[.agg #[c0, c1, c2, c3], .int .i64 0]) ∧ IsRat w' (k + m) c0 c1 c2 c3 (a / b)) ∧ Gr w w' := by
 have hka := ha.big
 have hkb := hb.big
 go_enter Tryz.func46, Tryz.ntmps46
 have hB := Gr.refl w
 refine wp_seq_k (fun K1 k1 => ?_)
 refine rg [0, 1, 2, 3] ?_
 refine se ?_
 refine eb 31 #[u0, u1, u2, u3] 2 hB fun b2 w2 g2 L2 o2 q2 hB => ?_
 simp only [p3, p4]
 refine se ?_
 refine eb 31 #[v0, v1, v2, v3] 3 hB fun b3 w3 g3 L3 o3 q3 hB => ?_
 simp only [p3, p4]
 refine se ?_
 refine ea 31 #[(.bool false), (.slice none 0 0), (.bool false), (.slice none 0 0)] 4 hB fun b4 w4 g4 L4 o4 q4 hB => ?_
 replace L2 := L2.gr g3
 have ne2_4 := L2.ne o4
 have ne3_4 := L3.ne o4
 simp only [p3, p4]
 refine sv 5 (.int .i64 0) ?_
 simp only [p3, p4]
 refine sq_nil ?_
 refine k1 _ _ ?_
 try clear k1 K1
 refine wp_seq_k (fun K5 k5 => ?_)
 refine wp_seq_k (fun K6 k6 => ?_)
 refine rg [0, 1, 2] ?_
 replace L3 := L3.gr g4
 refine sw 6 (.agg #[v0, v1, v2, v3]) rfl (rl 31 0 [v0, v1, v2, v3] L3) ?_
 simp only [p3, p4]
 refine se ?_
 have kq8 := g2.kp.trans (g3.kp.trans g4.kp)
 replace hb := hb.kp kq8
 refine ec 7 (sign_rp hb h0) ?_
 rintro e7 w7 ⟨rfl, g7⟩
 refine ⟨_, rfl, ?_⟩
 replace hB := hB.trans g7
 simp only [p3, p4]
 refine sv 8 (.bool false) ?_
 simp only [p3, p4]
 refine sq_nil ?_
 refine k6 _ _ ?_
 try clear k6 K6
 refine wp_cond_false rfl ?_
 refine wp_skip ?_
 refine k5 _ _ ?_
 try clear k5 K5
 refine wp_seq_k (fun K9 k9 => ?_)
 have gd27 := Gr.drew w7
 replace hB := hB.trans gd27
 replace L2 := L2.gr (g4.trans (g7.trans gd27))
 replace L3 := L3.gr (g7.trans gd27)
 refine wp_region_ord (fun w' => Lc w' b2 #[u0, u1, u2, u3] 31 ∧ Lc w' b3 #[v0, v1, v2, v3] 31) [(true, 0), (true, 1), (true, 2), (true, 5), (true, 7), (true, 8), (false, 3), (false, 4), (false, 6), (false, 9), (false, 10), (false, 11), (true, 12)] (by kernel_rfl) (by kernel_rfl) (by kernel_rfl) (by decide) (fun _ _ _ _ _ h => h) ⟨L2, L3⟩ ?_
 refine ov 10 (.pointer (some ⟨b2, 0, none⟩)) ?_
 simp only [p3, p4]
 refine ow 11 (.agg #[u0, u1]) rfl (fun w' hS => (rl 27 0 [u0, u1] hS.1)) ?_
 simp only [p3, p4]
 refine ow 12 (.agg #[v0, v1, v2, v3]) rfl (fun w' hS => (rl 31 0 [v0, v1, v2, v3] hS.2)) ?_
 simp only [p3, p4]
 refine ow 15 (.agg #[u0, u1, u2, u3]) rfl (fun w' hS => (rl 31 0 [u0, u1, u2, u3] hS.1)) ?_
 simp only [p3, p4]
 refine ov 17 (.pointer (some ⟨b3, 0, none⟩)) ?_
 simp only [p3, p4]
 refine ow 18 (.agg #[v0, v1]) rfl (fun w' hS => (rl 27 0 [v0, v1] hS.2)) ?_
 simp only [p3, p4]
 refine oe ?_
 have kq30 := g7.kp.trans gd27.kp
 replace hb := hb.kp kq30
 refine ec 13 (den_i hb) ?_
 rintro e29 w29 ⟨⟨x29, y29, rfl, h29⟩, g29⟩
 refine ⟨_, rfl, ?_⟩
 replace hB := hB.trans g29
 replace L2 := L2.gr g29
 replace L3 := L3.gr g29
 refine ⟨⟨L2, L3⟩, ?_⟩
 simp only [p3, p4]
 refine oe ?_
 have kq33 := g2.kp.trans (g3.kp.trans (g4.kp.trans (g7.kp.trans (gd27.kp.trans g29.kp))))
 replace ha := ha.kp kq33
 refine ec 14 (mul_i ha.num h29 (by omega)) ?_
 rintro e32 w32 ⟨⟨x32, y32, rfl, h32⟩, g32⟩
 refine ⟨_, rfl, ?_⟩
 replace hB := hB.trans g32
 replace L2 := L2.gr g32
 replace L3 := L3.gr g32
 refine ⟨⟨L2, L3⟩, ?_⟩
 simp only [p3, p4]
 refine oe ?_
 replace ha := ha.kp g32.kp
 refine ec 16 (den_i ha) ?_
 rintro e35 w35 ⟨⟨x35, y35, rfl, h35⟩, g35⟩
 refine ⟨_, rfl, ?_⟩
 replace hB := hB.trans g35
 replace L2 := L2.gr g35
 replace L3 := L3.gr g35
 refine ⟨⟨L2, L3⟩, ?_⟩
 simp only [p3, p4]
 refine oe ?_
 have kq38 := g29.kp.trans (g32.kp.trans g35.kp)
 replace hb := hb.kp kq38
 refine ec 19 (mul_i h35 hb.num (by omega)) ?_
 rintro e37 w37 ⟨⟨x37, y37, rfl, h37⟩, g37⟩
 refine ⟨_, rfl, ?_⟩
 replace hB := hB.trans g37
 replace L2 := L2.gr g37
 replace L3 := L3.gr g37
 refine ⟨⟨L2, L3⟩, ?_⟩
 simp only [p3, p4]
 refine oe ?_
 have kq41 := g35.kp.trans g37.kp
 replace h32 := h32.kp kq41
 refine ec 20 (reduced_i ((k + m)) h32 h37 (Int.mul_pos (Int.natCast_pos.2 a.den_pos) h0) (by omega) (by omega) (by omega) (by omega)) ?_
 rintro e40 w40 ⟨⟨p40, q40, r40, s40, rfl, h40⟩, g40⟩
 refine ⟨_, rfl, ?_⟩
 replace hB := hB.trans g40
 replace L2 := L2.gr g40
 replace L3 := L3.gr g40
 refine ⟨⟨L2, L3⟩, ?_⟩
 simp only [p3, p4]
 refine oe ?_
 replace L4 := L4.gr (g7.trans (gd27.trans (g29.trans (g32.trans (g35.trans (g37.trans g40))))))
 refine es 31 0 (.agg #[p40, q40, r40, s40]) [p40, q40, r40, s40] #[p40, q40, r40, s40] L4 hB q4 ⟨h40.one0, h40.one1, h40.one2, h40.one3, trivial⟩ fun w43 st43 kp43 L4 hB => ?_
 replace L2 := st43.lc L2 ne2_4
 replace L3 := st43.lc L3 ne3_4
 refine ⟨⟨L2, L3⟩, ?_⟩
 refine ov 5 (.int .i64 0) ?_
 simp only [p3, p4]
 refine ord_nil ?_
 refine k9 _ _ ?_
 try clear k9 K9
 refine wp_ret ?_
 refine bodyPost_ret (v := (.tuple #[(.agg #[p40, q40, r40, s40]), (.int .i64 0)])) (ret_cell_tmp' _ _ _ rfl rfl L4 (by kernel_rfl) rfl) rfl ⟨?_, hB⟩
 replace h40 := h40.kp kp43
 exact ⟨_, _, _, _, rfl, by rw [← rat_div]; exact h40⟩

set_option maxRecDepth 100000 in
set_option maxHeartbeats 1000000 in
theorem rcomp_tt {k m : Nat} {u0 u1 u2 u3 v0 v1 v2 v3 : Value} {a b : Rat} {w : World} (ha : IsRat w k u0 u1 u2 u3 a) (hb : IsRat w m v0 v1 v2 v3 b) (_hk : k + m ≤ 100000) (wa : a.den = 1) (wb : b.den = 1) :
    Calls Tryz.prog 44 #[(.agg #[u0, u1, u2, u3]), (.agg #[v0, v1, v2, v3])] w fun e w' => e = .returned (.int .i64 (rcmp a b)) ∧ Gr w w' := by
 have hka := ha.big
 have hkb := hb.big
 go_enter Tryz.func44, Tryz.ntmps44
 have hB := Gr.refl w
 refine wp_seq_k (fun K1 k1 => ?_)
 refine rg [0, 1, 2] ?_
 refine se ?_
 refine eb 31 #[u0, u1, u2, u3] 2 hB fun b2 w2 g2 L2 o2 q2 hB => ?_
 simp only [p3, p4]
 refine se ?_
 refine eb 31 #[v0, v1, v2, v3] 3 hB fun b3 w3 g3 L3 o3 q3 hB => ?_
 simp only [p3, p4]
 refine sv 4 (.int .i64 0) ?_
 simp only [p3, p4]
 refine sq_nil ?_
 refine k1 _ _ ?_
 try clear k1 K1
 refine wp_seq_k (fun K4 k4 => ?_)
 refine wp_seq_k (fun K5 k5 => ?_)
 refine rg [0, 1, 2, 3, 4, 5] ?_
 replace L2 := L2.gr g3
 refine sw 5 (.agg #[u0, u1, u2, u3]) rfl (rl 31 0 [u0, u1, u2, u3] L2) ?_
 simp only [p3, p4]
 refine se ?_
 have kq7 := g2.kp.trans g3.kp
 replace ha := ha.kp kq7
 refine ec 6 (whole_t ha (by omega) wa) ?_
 rintro e6 w6 ⟨rfl, g6⟩
 refine ⟨_, rfl, ?_⟩
 replace hB := hB.trans g6
 simp only [p3, p4]
 refine sv 7 (.bool true) ?_
 simp only [p3, p4]
 replace L3 := L3.gr g6
 refine sw 8 (.agg #[v0, v1, v2, v3]) rfl (rl 31 0 [v0, v1, v2, v3] L3) ?_
 simp only [p3, p4]
 refine se ?_
 have kq9 := g2.kp.trans (g3.kp.trans g6.kp)
 replace hb := hb.kp kq9
 refine ec 9 (whole_t hb (by omega) wb) ?_
 rintro e8 w8 ⟨rfl, g8⟩
 refine ⟨_, rfl, ?_⟩
 replace hB := hB.trans g8
 simp only [p3, p4]
 refine sv 10 (.bool true) ?_
 simp only [p3, p4]
 refine sq_nil ?_
 refine k5 _ _ ?_
 try clear k5 K5
 refine wp_cond_true rfl ?_
 refine wp_seq_k (fun K10 k10 => ?_)
 refine rg [0, 1, 2, 3, 4, 5] ?_
 refine sv 11 (.pointer (some ⟨b2, 0, none⟩)) ?_
 simp only [p3, p4]
 replace L2 := L2.gr (g6.trans g8)
 refine sw 12 (.agg #[u0, u1]) rfl (rl 27 0 [u0, u1] L2) ?_
 simp only [p3, p4]
 refine sv 13 (.pointer (some ⟨b3, 0, none⟩)) ?_
 simp only [p3, p4]
 replace L3 := L3.gr g8
 refine sw 14 (.agg #[v0, v1]) rfl (rl 27 0 [v0, v1] L3) ?_
 simp only [p3, p4]
 refine se ?_
 have kq12 := g6.kp.trans g8.kp
 replace ha := ha.kp kq12
 replace hb := hb.kp g8.kp
 refine ec 15 (compare_i ha.num hb.num (by omega) (by omega)) ?_
 rintro e11 w11 ⟨rfl, g11⟩
 refine ⟨_, rfl, ?_⟩
 replace hB := hB.trans g11
 simp only [p3, p4]
 refine sv 4 (.int .i64 (sgn (a.num - b.num))) ?_
 simp only [p3, p4]
 refine sq_nil ?_
 refine k10 _ _ ?_
 try clear k10 K10
 refine wp_ret ?_
 simp only [Exit.then]
 refine bodyPost_ret (v := (.int .i64 (sgn (a.num - b.num)))) (ret_tmp rfl rfl) rfl ⟨?_, hB⟩
 exact by rw [rcmp_int wa wb]

set_option maxRecDepth 100000 in
set_option maxHeartbeats 1000000 in
theorem rcomp_tf {k m : Nat} {u0 u1 u2 u3 v0 v1 v2 v3 : Value} {a b : Rat} {w : World} (ha : IsRat w k u0 u1 u2 u3 a) (hb : IsRat w m v0 v1 v2 v3 b) (_hk : k + m ≤ 100000) (wa : a.den = 1) (wb : b.den ≠ 1) :
    Calls Tryz.prog 44 #[(.agg #[u0, u1, u2, u3]), (.agg #[v0, v1, v2, v3])] w fun e w' => e = .returned (.int .i64 (rcmp a b)) ∧ Gr w w' := by
 have hka := ha.big
 have hkb := hb.big
 go_enter Tryz.func44, Tryz.ntmps44
 have hB := Gr.refl w
 refine wp_seq_k (fun K1 k1 => ?_)
 refine rg [0, 1, 2] ?_
 refine se ?_
 refine eb 31 #[u0, u1, u2, u3] 2 hB fun b2 w2 g2 L2 o2 q2 hB => ?_
 simp only [p3, p4]
 refine se ?_
 refine eb 31 #[v0, v1, v2, v3] 3 hB fun b3 w3 g3 L3 o3 q3 hB => ?_
 simp only [p3, p4]
 refine sv 4 (.int .i64 0) ?_
 simp only [p3, p4]
 refine sq_nil ?_
 refine k1 _ _ ?_
 try clear k1 K1
 refine wp_seq_k (fun K4 k4 => ?_)
 refine wp_seq_k (fun K5 k5 => ?_)
 refine rg [0, 1, 2, 3, 4, 5] ?_
 replace L2 := L2.gr g3
 refine sw 5 (.agg #[u0, u1, u2, u3]) rfl (rl 31 0 [u0, u1, u2, u3] L2) ?_
 simp only [p3, p4]
 refine se ?_
 have kq7 := g2.kp.trans g3.kp
 replace ha := ha.kp kq7
 refine ec 6 (whole_t ha (by omega) wa) ?_
 rintro e6 w6 ⟨rfl, g6⟩
 refine ⟨_, rfl, ?_⟩
 replace hB := hB.trans g6
 simp only [p3, p4]
 refine sv 7 (.bool true) ?_
 simp only [p3, p4]
 replace L3 := L3.gr g6
 refine sw 8 (.agg #[v0, v1, v2, v3]) rfl (rl 31 0 [v0, v1, v2, v3] L3) ?_
 simp only [p3, p4]
 refine se ?_
 have kq9 := g2.kp.trans (g3.kp.trans g6.kp)
 replace hb := hb.kp kq9
 refine ec 9 (whole_f hb (by omega) wb) ?_
 rintro e8 w8 ⟨rfl, g8⟩
 refine ⟨_, rfl, ?_⟩
 replace hB := hB.trans g8
 simp only [p3, p4]
 refine sv 10 (.bool false) ?_
 simp only [p3, p4]
 refine sq_nil ?_
 refine k5 _ _ ?_
 try clear k5 K5
 refine wp_cond_false rfl ?_
 refine wp_skip ?_
 refine k4 _ _ ?_
 try clear k4 K4
 refine wp_seq_k (fun K10 k10 => ?_)
 have gd26 := Gr.drew w8
 replace hB := hB.trans gd26
 replace L2 := L2.gr (g6.trans (g8.trans gd26))
 replace L3 := L3.gr (g8.trans gd26)
 refine wp_region_ord (fun w' => Lc w' b2 #[u0, u1, u2, u3] 31 ∧ Lc w' b3 #[v0, v1, v2, v3] 31) [(true, 0), (true, 1), (true, 2), (true, 5), (true, 6), (true, 7), (false, 3), (false, 4), (false, 8), (false, 9), (false, 10), (true, 11)] (by kernel_rfl) (by kernel_rfl) (by kernel_rfl) (by decide) (fun _ _ _ _ _ h => h) ⟨L2, L3⟩ ?_
 refine ov 16 (.pointer (some ⟨b2, 0, none⟩)) ?_
 simp only [p3, p4]
 refine ow 17 (.agg #[u0, u1]) rfl (fun w' hS => (rl 27 0 [u0, u1] hS.1)) ?_
 simp only [p3, p4]
 refine ow 18 (.agg #[v0, v1, v2, v3]) rfl (fun w' hS => (rl 31 0 [v0, v1, v2, v3] hS.2)) ?_
 simp only [p3, p4]
 refine ov 21 (.pointer (some ⟨b3, 0, none⟩)) ?_
 simp only [p3, p4]
 refine ow 22 (.agg #[v0, v1]) rfl (fun w' hS => (rl 27 0 [v0, v1] hS.2)) ?_
 simp only [p3, p4]
 refine ow 23 (.agg #[u0, u1, u2, u3]) rfl (fun w' hS => (rl 31 0 [u0, u1, u2, u3] hS.1)) ?_
 simp only [p3, p4]
 refine oe ?_
 have kq29 := g8.kp.trans gd26.kp
 replace hb := hb.kp kq29
 refine ec 19 (den_i hb) ?_
 rintro e28 w28 ⟨⟨x28, y28, rfl, h28⟩, g28⟩
 refine ⟨_, rfl, ?_⟩
 replace hB := hB.trans g28
 replace L2 := L2.gr g28
 replace L3 := L3.gr g28
 refine ⟨⟨L2, L3⟩, ?_⟩
 simp only [p3, p4]
 refine oe ?_
 have kq32 := g6.kp.trans (g8.kp.trans (gd26.kp.trans g28.kp))
 replace ha := ha.kp kq32
 refine ec 20 (mul_i ha.num h28 (by omega)) ?_
 rintro e31 w31 ⟨⟨x31, y31, rfl, h31⟩, g31⟩
 refine ⟨_, rfl, ?_⟩
 replace hB := hB.trans g31
 replace L2 := L2.gr g31
 replace L3 := L3.gr g31
 refine ⟨⟨L2, L3⟩, ?_⟩
 simp only [p3, p4]
 refine oe ?_
 replace ha := ha.kp g31.kp
 refine ec 24 (den_i ha) ?_
 rintro e34 w34 ⟨⟨x34, y34, rfl, h34⟩, g34⟩
 refine ⟨_, rfl, ?_⟩
 replace hB := hB.trans g34
 replace L2 := L2.gr g34
 replace L3 := L3.gr g34
 refine ⟨⟨L2, L3⟩, ?_⟩
 simp only [p3, p4]
 refine oe ?_
 have kq37 := g28.kp.trans (g31.kp.trans g34.kp)
 replace hb := hb.kp kq37
 refine ec 25 (mul_i hb.num h34 (by omega)) ?_
 rintro e36 w36 ⟨⟨x36, y36, rfl, h36⟩, g36⟩
 refine ⟨_, rfl, ?_⟩
 replace hB := hB.trans g36
 replace L2 := L2.gr g36
 replace L3 := L3.gr g36
 refine ⟨⟨L2, L3⟩, ?_⟩
 simp only [p3, p4]
 refine oe ?_
 have kq40 := g34.kp.trans g36.kp
 replace h31 := h31.kp kq40
 refine ec 26 (compare_i h31 h36 (by omega) (by omega)) ?_
 rintro e39 w39 ⟨rfl, g39⟩
 refine ⟨_, rfl, ?_⟩
 replace hB := hB.trans g39
 replace L2 := L2.gr g39
 replace L3 := L3.gr g39
 refine ⟨⟨L2, L3⟩, ?_⟩
 simp only [p3, p4]
 refine ov 4 (.int .i64 (sgn ((a.num * (b.den : Int)) - (b.num * (a.den : Int))))) ?_
 simp only [p3, p4]
 refine ord_nil ?_
 refine k10 _ _ ?_
 try clear k10 K10
 refine wp_ret ?_
 refine bodyPost_ret (v := (.int .i64 (sgn ((a.num * (b.den : Int)) - (b.num * (a.den : Int)))))) (ret_tmp rfl rfl) rfl ⟨?_, hB⟩
 exact rfl

set_option maxRecDepth 100000 in
set_option maxHeartbeats 1000000 in
theorem rcomp_f {k m : Nat} {u0 u1 u2 u3 v0 v1 v2 v3 : Value} {a b : Rat} {w : World} (ha : IsRat w k u0 u1 u2 u3 a) (hb : IsRat w m v0 v1 v2 v3 b) (_hk : k + m ≤ 100000) (wa : a.den ≠ 1) :
    Calls Tryz.prog 44 #[(.agg #[u0, u1, u2, u3]), (.agg #[v0, v1, v2, v3])] w fun e w' => e = .returned (.int .i64 (rcmp a b)) ∧ Gr w w' := by
 have hka := ha.big
 have hkb := hb.big
 go_enter Tryz.func44, Tryz.ntmps44
 have hB := Gr.refl w
 refine wp_seq_k (fun K1 k1 => ?_)
 refine rg [0, 1, 2] ?_
 refine se ?_
 refine eb 31 #[u0, u1, u2, u3] 2 hB fun b2 w2 g2 L2 o2 q2 hB => ?_
 simp only [p3, p4]
 refine se ?_
 refine eb 31 #[v0, v1, v2, v3] 3 hB fun b3 w3 g3 L3 o3 q3 hB => ?_
 simp only [p3, p4]
 refine sv 4 (.int .i64 0) ?_
 simp only [p3, p4]
 refine sq_nil ?_
 refine k1 _ _ ?_
 try clear k1 K1
 refine wp_seq_k (fun K4 k4 => ?_)
 refine wp_seq_k (fun K5 k5 => ?_)
 refine rg [0, 1, 2, 3, 4, 5] ?_
 replace L2 := L2.gr g3
 refine sw 5 (.agg #[u0, u1, u2, u3]) rfl (rl 31 0 [u0, u1, u2, u3] L2) ?_
 simp only [p3, p4]
 refine se ?_
 have kq7 := g2.kp.trans g3.kp
 replace ha := ha.kp kq7
 refine ec 6 (whole_f ha (by omega) wa) ?_
 rintro e6 w6 ⟨rfl, g6⟩
 refine ⟨_, rfl, ?_⟩
 replace hB := hB.trans g6
 simp only [p3, p4]
 refine sv 7 (.bool false) ?_
 simp only [p3, p4]
 refine ss 8 ?_
 simp only [p3, p4]
 refine ss 9 ?_
 simp only [p3, p4]
 refine sv 10 (.bool false) ?_
 simp only [p3, p4]
 refine sq_nil ?_
 refine k5 _ _ ?_
 try clear k5 K5
 refine wp_cond_false rfl ?_
 refine wp_skip ?_
 refine k4 _ _ ?_
 try clear k4 K4
 refine wp_seq_k (fun K8 k8 => ?_)
 have gd24 := Gr.drew w6
 replace hB := hB.trans gd24
 replace L2 := L2.gr (g6.trans gd24)
 replace L3 := L3.gr (g6.trans gd24)
 refine wp_region_ord (fun w' => Lc w' b2 #[u0, u1, u2, u3] 31 ∧ Lc w' b3 #[v0, v1, v2, v3] 31) [(true, 0), (true, 1), (true, 2), (true, 5), (true, 6), (true, 7), (false, 3), (false, 4), (false, 8), (false, 9), (false, 10), (true, 11)] (by kernel_rfl) (by kernel_rfl) (by kernel_rfl) (by decide) (fun _ _ _ _ _ h => h) ⟨L2, L3⟩ ?_
 refine ov 16 (.pointer (some ⟨b2, 0, none⟩)) ?_
 simp only [p3, p4]
 refine ow 17 (.agg #[u0, u1]) rfl (fun w' hS => (rl 27 0 [u0, u1] hS.1)) ?_
 simp only [p3, p4]
 refine ow 18 (.agg #[v0, v1, v2, v3]) rfl (fun w' hS => (rl 31 0 [v0, v1, v2, v3] hS.2)) ?_
 simp only [p3, p4]
 refine ov 21 (.pointer (some ⟨b3, 0, none⟩)) ?_
 simp only [p3, p4]
 refine ow 22 (.agg #[v0, v1]) rfl (fun w' hS => (rl 27 0 [v0, v1] hS.2)) ?_
 simp only [p3, p4]
 refine ow 23 (.agg #[u0, u1, u2, u3]) rfl (fun w' hS => (rl 31 0 [u0, u1, u2, u3] hS.1)) ?_
 simp only [p3, p4]
 refine oe ?_
 have kq27 := g2.kp.trans (g3.kp.trans (g6.kp.trans gd24.kp))
 replace hb := hb.kp kq27
 refine ec 19 (den_i hb) ?_
 rintro e26 w26 ⟨⟨x26, y26, rfl, h26⟩, g26⟩
 refine ⟨_, rfl, ?_⟩
 replace hB := hB.trans g26
 replace L2 := L2.gr g26
 replace L3 := L3.gr g26
 refine ⟨⟨L2, L3⟩, ?_⟩
 simp only [p3, p4]
 refine oe ?_
 have kq30 := g6.kp.trans (gd24.kp.trans g26.kp)
 replace ha := ha.kp kq30
 refine ec 20 (mul_i ha.num h26 (by omega)) ?_
 rintro e29 w29 ⟨⟨x29, y29, rfl, h29⟩, g29⟩
 refine ⟨_, rfl, ?_⟩
 replace hB := hB.trans g29
 replace L2 := L2.gr g29
 replace L3 := L3.gr g29
 refine ⟨⟨L2, L3⟩, ?_⟩
 simp only [p3, p4]
 refine oe ?_
 replace ha := ha.kp g29.kp
 refine ec 24 (den_i ha) ?_
 rintro e32 w32 ⟨⟨x32, y32, rfl, h32⟩, g32⟩
 refine ⟨_, rfl, ?_⟩
 replace hB := hB.trans g32
 replace L2 := L2.gr g32
 replace L3 := L3.gr g32
 refine ⟨⟨L2, L3⟩, ?_⟩
 simp only [p3, p4]
 refine oe ?_
 have kq35 := g26.kp.trans (g29.kp.trans g32.kp)
 replace hb := hb.kp kq35
 refine ec 25 (mul_i hb.num h32 (by omega)) ?_
 rintro e34 w34 ⟨⟨x34, y34, rfl, h34⟩, g34⟩
 refine ⟨_, rfl, ?_⟩
 replace hB := hB.trans g34
 replace L2 := L2.gr g34
 replace L3 := L3.gr g34
 refine ⟨⟨L2, L3⟩, ?_⟩
 simp only [p3, p4]
 refine oe ?_
 have kq38 := g32.kp.trans g34.kp
 replace h29 := h29.kp kq38
 refine ec 26 (compare_i h29 h34 (by omega) (by omega)) ?_
 rintro e37 w37 ⟨rfl, g37⟩
 refine ⟨_, rfl, ?_⟩
 replace hB := hB.trans g37
 replace L2 := L2.gr g37
 replace L3 := L3.gr g37
 refine ⟨⟨L2, L3⟩, ?_⟩
 simp only [p3, p4]
 refine ov 4 (.int .i64 (sgn ((a.num * (b.den : Int)) - (b.num * (a.den : Int))))) ?_
 simp only [p3, p4]
 refine ord_nil ?_
 refine k8 _ _ ?_
 try clear k8 K8
 refine wp_ret ?_
 refine bodyPost_ret (v := (.int .i64 (sgn ((a.num * (b.den : Int)) - (b.num * (a.den : Int)))))) (ret_tmp rfl rfl) rfl ⟨?_, hB⟩
 exact rfl

theorem compare_r {k m : Nat} {u0 u1 u2 u3 v0 v1 v2 v3 : Value} {a b : Rat} {w : World} (ha : IsRat w k u0 u1 u2 u3 a) (hb : IsRat w m v0 v1 v2 v3 b) (hk : k + m ≤ 100000) :
    Calls Tryz.prog 44 #[.agg #[u0, u1, u2, u3], .agg #[v0, v1, v2, v3]] w fun e w' => e = .returned (.int .i64 (rcmp a b)) ∧ Gr w w' := by
  by_cases wa : a.den = 1
  · by_cases wb : b.den = 1
    · exact rcomp_tt ha hb hk wa wb
    · exact rcomp_tf ha hb hk wa wb
  · exact rcomp_f ha hb hk wa

end Go.Proofs.YtloocadjbpgldaaGreatDoor
/- The text of a rational. -/
namespace Go.Proofs.YtloocadjbpgldaaGreatDoor
open Go.RowKit

theorem itoa_len {k : Nat} {z : Int} (h : Sz k z) : (Lib.itoa z).length ≤ k + 2 := by
  unfold Lib.itoa
  have h1 := dec_len_bits k z.natAbs h
  split
  · simp; omega
  · have : z.toNat = z.natAbs := by omega
    rw [this]; omega
end Go.Proofs.YtloocadjbpgldaaGreatDoor
/- The walk through scale: a magnitude times a digit, plus a digit. -/
namespace Go.Proofs.YtloocadjbpgldaaGreatDoor
open Go.RowKit

set_option maxRecDepth 100000 in
set_option maxHeartbeats 2000000 in
theorem scale_c (ao : Option Addr) (la ca : Nat) (m x p : Int) (w : World) (hla : la ≤ 900000) (ha : Mag w ao la ca m) (hx0 : 0 ≤ x) (hx1 : x < 4294967296) (hp0 : 0 ≤ p) (hp1 : p < 4294967296) :
    Calls Tryz.prog 77 #[.slice ao la ca, .int .u32 x, .int .u32 p] w fun e w' => (∃ go k cap, e = .returned (.slice go k cap) ∧ Mag w' go k cap (m * x + p) ∧ k ≤ la + 1) ∧ Gr w w' := by
  go_enter Tryz.func77, Tryz.ntmps77
  go_wp2_with (at_make; refine wpList_make32 _ rfl _ _ rfl _ _ (la + 1) rfl rfl (by omega) (by omega) (by omega) ?_)
  intro w1 hO hB hsz
  go_wp2
  go_loopw [8, 19] (fun c i wr => ∃ (k : Nat) (cr : Int) (d : Nat → Int), k ≤ la ∧ i = .int .i64 k ∧ c = .int .u64 cr ∧ 0 ≤ cr ∧ cr < 4294967296 ∧ Hid (hi (m * x + p) k = hi m k * x + cr) ∧ Below w.heap.size w wr ∧
      Own wr w.heap.size (la + 1) d ∧ Hid (∀ j, j < k → d j = dg (m * x + p) j)) (fun _ i _ => la - (intOf i).toNat)
  case atStart => exact ⟨0, p, _, Nat.zero_le _, rfl, rfl, hp0, hp1, by simp [Hid, hi_zero], hB, hO, fun j hj => by omega⟩
  case round =>
    obtain ⟨k, cr, d, hk, rfl, rfl, hc0, hc1, hz, hB, hO, hd⟩ := hrel
    by_cases hlt : k < la
    · obtain ⟨b1, off1, rfl, hcs1⟩ := (ha.row.below hB).at_ (by omega)
      have hcell1 := hcs1 k hlt
      clear hcs1
      have d0 := dg_nonneg m k
      have d1 := dg_lt m k
      have hcell3 := hO.cell k (by omega)
      have hfree := hO.free k
      have hs := scale_step hz.out hc0 hc1 hx0 hx1
      have z0 := hs.2.2.2.2.1
      have z1 := hs.2.2.2.2.2
      have z2 : dg m k * x ≤ 18446744065119617025 := by
        have := Int.mul_le_mul (show dg m k ≤ 4294967295 by omega) (show x ≤ 4294967295 by omega) hx0 (by omega)
        omega
      have HS := Lib.hid hs
      clear hs
      go_wp2
      have hs := HS.out
      go_roundw
      case rel =>
        refine ⟨k + 1, _, _, by omega, by go_num, rfl, hs.2.2.1, hs.2.2.2.1, hs.2.1, hB.setCell (Nat.le_refl _) _, hO.set (by omega) _, fun j hj => ?_⟩
        by_cases e : j = k
        · subst e; rw [upd_same, hs.1]
        · rw [upd_other _ _ e]; exact hd.out j (by omega)
      case measure => simp [intOf]; omega
    · obtain rfl : k = la := by omega
      have hcell3 := hO.cell k (by omega)
      have hfree := hO.free k
      have hm0 : 0 ≤ m * x + p := by have := Int.mul_nonneg ha.nl.nonneg hx0; omega
      have htop : hi (m * x + p) (k + 1) = 0 := by
        have h1 := hz.out
        rw [ha.nl.top, Int.zero_mul] at h1
        rw [hi_succ]; omega
      have hdk : dg (m * x + p) k = cr := by
        have h1 := hz.out
        rw [ha.nl.top, Int.zero_mul] at h1
        unfold dg; omega
      have HT := Lib.hid htop
      have HD := Lib.hid hdk
      clear htop hdk
      go_wp2_with fail
      have hO2 := (hO.set (Nat.lt_succ_self k) cr).congr (d' := dg (m * x + p)) (fun j hj => by
        by_cases e : j = k
        · subst e; rw [upd_same, HD.out]
        · rw [upd_other _ _ e]; exact hd.out j (by omega))
      refine (trim_c _ _ _ (m * x + p) _ (by omega) (Nat.le_refl _) hm0 HT.out hO2.row).mono ?_
      rintro e w3 ⟨⟨n, rfl, hm, hn⟩, rfl⟩
      go_wp2
      go_ret
      exact ⟨⟨_, _, _, rfl, hm, hn⟩, hB.setCell (Nat.le_refl _) _⟩
end Go.Proofs.YtloocadjbpgldaaGreatDoor
/- Printed by a program of the prover's: reduced, with a negative denominator. -/
namespace Go.Proofs.YtloocadjbpgldaaGreatDoor
open Go.RowKit

set_option maxRecDepth 100000 in
set_option maxHeartbeats 1000000 in
theorem reduced_n1 {k : Nat} {n0 n1 d0 d1 : Value} {N D : Int} {w : World} (hn : IsInt w k n0 n1 N) (hd : IsInt w k d0 d1 D) (_hk : k + k + k + k + k + k + 66 ≤ 1000000) (_h0 : D < 0) (hg : (sgn ((Int.gcd ((-N)) ((-D)) : Int) - 1) != 0) = false) :
    Calls Tryz.prog 80 #[(.agg #[n0, n1]), (.agg #[d0, d1])] w fun e w' => (∃ x y x2 y2, e = .returned (.agg #[x, y, x2, y2]) ∧ IsInt w' k x y ((-N)) ∧ IsInt w' k x2 y2 ((-D))) ∧ Gr w w' := by
 go_enter Tryz.func80, Tryz.ntmps80
 have hB := Gr.refl w
 refine wp_seq_k (fun K1 k1 => ?_)
 refine rg [0, 1, 2] ?_
 refine se ?_
 refine eb 27 #[n0, n1] 2 hB fun b2 w2 g2 L2 o2 q2 hB => ?_
 simp only [p3, p4]
 refine se ?_
 refine eb 27 #[d0, d1] 3 hB fun b3 w3 g3 L3 o3 q3 hB => ?_
 have ne2_3 := L2.ne o3
 simp only [p3, p4]
 refine se ?_
 refine ea 31 #[(.bool false), (.slice none 0 0), (.bool false), (.slice none 0 0)] 4 hB fun b4 w4 g4 L4 o4 q4 hB => ?_
 replace L2 := L2.gr g3
 have ne2_4 := L2.ne o4
 have ne3_4 := L3.ne o4
 simp only [p3, p4]
 refine sq_nil ?_
 refine k1 _ _ ?_
 try clear k1 K1
 refine wp_seq_k (fun K5 k5 => ?_)
 refine wp_seq_k (fun K6 k6 => ?_)
 refine rg [0, 1, 2] ?_
 replace L3 := L3.gr g4
 refine sw 6 (.agg #[d0, d1]) rfl (rl 27 0 [d0, d1] L3) ?_
 simp only [p3, p4]
 refine se ?_
 have kq8 := g2.kp.trans (g3.kp.trans g4.kp)
 replace hd := hd.kp kq8
 refine ec 7 (sign_neg hd (by omega)) ?_
 rintro e7 w7 ⟨rfl, g7⟩
 refine ⟨_, rfl, ?_⟩
 replace hB := hB.trans g7
 simp only [p3, p4]
 refine sv 8 (.bool true) ?_
 simp only [p3, p4]
 refine sq_nil ?_
 refine k6 _ _ ?_
 try clear k6 K6
 refine wp_cond_true rfl ?_
 have gd10 := Gr.drew w7
 replace hB := hB.trans gd10
 replace L2 := L2.gr (g4.trans (g7.trans gd10))
 replace L3 := L3.gr (g7.trans gd10)
 refine wp_region_ort (fun _ => True) [([4], (fun w' => Lc w' b2 #[n0, n1] 27)), ([5], (fun w' => Lc w' b3 #[d0, d1] 27))] [(true, 0), (true, 2), (false, 1), (false, 3), (false, 4), (false, 5)] (by kernel_rfl) (by kernel_rfl) (by kernel_rfl) (by decide) (fun _ _ _ _ _ h => h) trivial ⟨fun _ => L2, fun _ => L3, trivial⟩ ?_
 refine tw 9 (.agg #[n0, n1]) rfl (fun w' hS => (rl 27 0 [n0, n1] (hS.2.1 (by kernel_rfl)))) ?_
 simp only [p3, p4]
 refine tw 11 (.agg #[d0, d1]) rfl (fun w' hS => (rl 27 0 [d0, d1] (hS.2.2.1 (by kernel_rfl)))) ?_
 simp only [p3, p4]
 refine te ?_
 have kq13 := g2.kp.trans (g3.kp.trans (g4.kp.trans (g7.kp.trans gd10.kp)))
 replace hn := hn.kp kq13
 refine ec 10 (neg_i hn ) ?_
 rintro e12 w12 ⟨⟨x12, y12, rfl, h12⟩, g12⟩
 refine ⟨_, rfl, ?_⟩
 replace hB := hB.trans g12
 replace L2 := L2.gr g12
 replace L3 := L3.gr g12
 refine ⟨trivial, ⟨fun _ => L2, fun _ => L3, trivial⟩, ?_⟩
 simp only [p3, p4]
 refine te ?_
 have kq16 := g7.kp.trans (gd10.kp.trans g12.kp)
 replace hd := hd.kp kq16
 refine ec 12 (neg_i hd ) ?_
 rintro e15 w15 ⟨⟨x15, y15, rfl, h15⟩, g15⟩
 refine ⟨_, rfl, ?_⟩
 replace hB := hB.trans g15
 replace L2 := L2.gr g15
 replace L3 := L3.gr g15
 refine ⟨trivial, ⟨fun _ => L2, fun _ => L3, trivial⟩, ?_⟩
 simp only [p3, p4]
 refine te ?_
 refine es 27 0 (.agg #[x12, y12]) [x12, y12] #[x12, y12] L2 hB q2 ⟨h12.one0, h12.one1, trivial⟩ fun w18 st18 kp18 L2 hB => ?_
 replace L3 := st18.lc L3 (Ne.symm ne2_3)
 refine ⟨trivial, ⟨cameT (by kernel_rfl), fun _ => L3, trivial⟩, ?_⟩
 refine te ?_
 refine es 27 0 (.agg #[x15, y15]) [x15, y15] #[x15, y15] L3 hB q3 ⟨h15.one0, h15.one1, trivial⟩ fun w20 st20 kp20 L3 hB => ?_
 refine ⟨trivial, ⟨cameT (by kernel_rfl), cameT (by kernel_rfl), trivial⟩, ?_⟩
 refine ort_nil ?_
 refine k5 _ _ ?_
 try clear k5 K5
 refine wp_seq_k (fun K21 k21 => ?_)
 refine rg [0, 1, 2, 3, 4] ?_
 replace L2 := st20.lc L2 ne2_3
 refine sw 13 (.agg #[x12, y12]) rfl (rl 27 0 [x12, y12] L2) ?_
 simp only [p3, p4]
 refine sw 14 (.agg #[x15, y15]) rfl (rl 27 0 [x15, y15] L3) ?_
 simp only [p3, p4]
 refine se ?_
 have kq23 := g15.kp.trans (kp18.trans kp20)
 replace h12 := h12.kp kq23
 have kq24 := kp18.trans kp20
 replace h15 := h15.kp kq24
 refine ec 15 (gcd_i h12 h15 (by omega)) ?_
 rintro e22 w22 ⟨⟨x22, y22, rfl, h22⟩, g22⟩
 refine ⟨_, rfl, ?_⟩
 replace hB := hB.trans g22
 simp only [p3, p4]
 refine se ?_
 refine ea 27 #[(.bool false), (.slice none 0 0)] 5 hB fun b25 w25 g25 L25 o25 q25 hB => ?_
 replace L2 := L2.gr g22
 have ne2_25 := L2.ne o25
 replace L3 := L3.gr g22
 have ne3_25 := L3.ne o25
 replace L4 := (st20.lc (st18.lc (L4.gr (g7.trans (gd10.trans (g12.trans g15)))) (Ne.symm ne2_4)) (Ne.symm ne3_4)).gr g22
 have ne4_25 := L4.ne o25
 simp only [p3, p4]
 refine se ?_
 refine es 27 0 (.agg #[x22, y22]) [x22, y22] #[x22, y22] L25 hB q25 ⟨h22.one0, h22.one1, trivial⟩ fun w26 st26 kp26 L25 hB => ?_
 refine sq_nil ?_
 refine k21 _ _ ?_
 try clear k21 K21
 refine wp_seq_k (fun K27 k27 => ?_)
 refine wp_seq_k (fun K28 k28 => ?_)
 have gd35 := Gr.drew w26
 replace hB := hB.trans gd35
 replace L25 := L25.gr gd35
 refine wp_region_ord (fun w' => Lc w' b25 #[x22, y22] 27) [(true, 0), (false, 1), (false, 2), (true, 3)] (by kernel_rfl) (by kernel_rfl) (by kernel_rfl) (by decide) (fun _ _ _ _ _ h => h) L25 ?_
 refine ow 16 (.agg #[x22, y22]) rfl (fun w' hS => (rl 27 0 [x22, y22] hS)) ?_
 simp only [p3, p4]
 refine oe ?_
 refine ec 17 (one_i _) ?_
 rintro e37 w37 ⟨⟨x37, y37, rfl, h37⟩, g37⟩
 refine ⟨_, rfl, ?_⟩
 replace hB := hB.trans g37
 replace L25 := L25.gr g37
 refine ⟨L25, ?_⟩
 simp only [p3, p4]
 refine oe ?_
 have kq40 := g25.kp.trans (kp26.trans (gd35.kp.trans g37.kp))
 replace h22 := h22.kp kq40
 refine ec 18 (compare_i h22 h37 (by omega) (by omega)) ?_
 rintro e39 w39 ⟨rfl, g39⟩
 refine ⟨_, rfl, ?_⟩
 replace hB := hB.trans g39
 replace L25 := L25.gr g39
 refine ⟨L25, ?_⟩
 simp only [p3, p4]
 refine ow 19 (.bool false) rfl (fun w' hS => (RunV.bool (x := (sgn ((Int.gcd ((-N)) ((-D)) : Int) - 1) != (0 : Int))) (rvk (by kernel_rfl)) hg)) ?_
 simp only [p3, p4]
 refine ord_nil ?_
 refine k28 _ _ ?_
 try clear k28 K28
 refine wp_cond_false rfl ?_
 refine wp_skip ?_
 refine k27 _ _ ?_
 try clear k27 K27
 refine wp_seq_k (fun K41 k41 => ?_)
 refine rg [0, 1, 2, 3] ?_
 replace L2 := (st26.lc (L2.gr g25) ne2_25).gr (gd35.trans (g37.trans g39))
 refine sw 34 (.agg #[x12, y12]) rfl (rl 27 0 [x12, y12] L2) ?_
 simp only [p3, p4]
 replace L3 := (st26.lc (L3.gr g25) ne3_25).gr (gd35.trans (g37.trans g39))
 refine sw 35 (.agg #[x15, y15]) rfl (rl 27 0 [x15, y15] L3) ?_
 simp only [p3, p4]
 refine sv 36 (.agg #[x12, y12, x15, y15]) ?_
 simp only [p3, p4]
 refine se ?_
 replace L4 := (st26.lc (L4.gr g25) ne4_25).gr (gd35.trans (g37.trans g39))
 refine es 31 0 (.agg #[x12, y12, x15, y15]) [x12, y12, x15, y15] #[x12, y12, x15, y15] L4 hB q4 ⟨h12.one0, h12.one1, h15.one0, h15.one1, trivial⟩ fun w42 st42 kp42 L4 hB => ?_
 refine sq_nil ?_
 refine k41 _ _ ?_
 try clear k41 K41
 refine wp_ret ?_
 refine bodyPost_ret (v := (.agg #[x12, y12, x15, y15])) (ret_cell _ _ _ rfl rfl L4 (by kernel_rfl)) rfl ⟨?_, hB⟩
 have kq43 := g22.kp.trans (g25.kp.trans (kp26.trans (gd35.kp.trans (g37.kp.trans (g39.kp.trans kp42)))))
 replace h12 := h12.kp kq43
 replace h15 := h15.kp kq43
 exact ⟨_, _, _, _, rfl, h12, h15⟩

set_option maxRecDepth 100000 in
set_option maxHeartbeats 1000000 in
theorem reduced_ng {k : Nat} {n0 n1 d0 d1 : Value} {N D : Int} {w : World} (hn : IsInt w k n0 n1 N) (hd : IsInt w k d0 d1 D) (_hk : k + k + k + k + k + k + 66 ≤ 1000000) (_h0 : D < 0) (hg : (sgn ((Int.gcd ((-N)) ((-D)) : Int) - 1) != 0) = true) (hxn : 0 < (Int.gcd ((-N)) ((-D)) : Int) ∧ (Int.gcd ((-N)) ((-D)) : Int) ∣ (-N)) (_hxd : 0 < (Int.gcd ((-N)) ((-D)) : Int) ∧ (Int.gcd ((-N)) ((-D)) : Int) ∣ (-D)) :
    Calls Tryz.prog 80 #[(.agg #[n0, n1]), (.agg #[d0, d1])] w fun e w' => (∃ x y x2 y2, e = .returned (.agg #[x, y, x2, y2]) ∧ IsInt w' k x y ((-N) / (Int.gcd ((-N)) ((-D)) : Int)) ∧ IsInt w' k x2 y2 ((-D) / (Int.gcd ((-N)) ((-D)) : Int))) ∧ Gr w w' := by
 go_enter Tryz.func80, Tryz.ntmps80
 have hB := Gr.refl w
 refine wp_seq_k (fun K1 k1 => ?_)
 refine rg [0, 1, 2] ?_
 refine se ?_
 refine eb 27 #[n0, n1] 2 hB fun b2 w2 g2 L2 o2 q2 hB => ?_
 simp only [p3, p4]
 refine se ?_
 refine eb 27 #[d0, d1] 3 hB fun b3 w3 g3 L3 o3 q3 hB => ?_
 have ne2_3 := L2.ne o3
 simp only [p3, p4]
 refine se ?_
 refine ea 31 #[(.bool false), (.slice none 0 0), (.bool false), (.slice none 0 0)] 4 hB fun b4 w4 g4 L4 o4 q4 hB => ?_
 replace L2 := L2.gr g3
 have ne2_4 := L2.ne o4
 have ne3_4 := L3.ne o4
 simp only [p3, p4]
 refine sq_nil ?_
 refine k1 _ _ ?_
 try clear k1 K1
 refine wp_seq_k (fun K5 k5 => ?_)
 refine wp_seq_k (fun K6 k6 => ?_)
 refine rg [0, 1, 2] ?_
 replace L3 := L3.gr g4
 refine sw 6 (.agg #[d0, d1]) rfl (rl 27 0 [d0, d1] L3) ?_
 simp only [p3, p4]
 refine se ?_
 have kq8 := g2.kp.trans (g3.kp.trans g4.kp)
 replace hd := hd.kp kq8
 refine ec 7 (sign_neg hd (by omega)) ?_
 rintro e7 w7 ⟨rfl, g7⟩
 refine ⟨_, rfl, ?_⟩
 replace hB := hB.trans g7
 simp only [p3, p4]
 refine sv 8 (.bool true) ?_
 simp only [p3, p4]
 refine sq_nil ?_
 refine k6 _ _ ?_
 try clear k6 K6
 refine wp_cond_true rfl ?_
 have gd10 := Gr.drew w7
 replace hB := hB.trans gd10
 replace L2 := L2.gr (g4.trans (g7.trans gd10))
 replace L3 := L3.gr (g7.trans gd10)
 refine wp_region_ort (fun _ => True) [([4], (fun w' => Lc w' b2 #[n0, n1] 27)), ([5], (fun w' => Lc w' b3 #[d0, d1] 27))] [(true, 0), (true, 2), (false, 1), (false, 3), (false, 4), (false, 5)] (by kernel_rfl) (by kernel_rfl) (by kernel_rfl) (by decide) (fun _ _ _ _ _ h => h) trivial ⟨fun _ => L2, fun _ => L3, trivial⟩ ?_
 refine tw 9 (.agg #[n0, n1]) rfl (fun w' hS => (rl 27 0 [n0, n1] (hS.2.1 (by kernel_rfl)))) ?_
 simp only [p3, p4]
 refine tw 11 (.agg #[d0, d1]) rfl (fun w' hS => (rl 27 0 [d0, d1] (hS.2.2.1 (by kernel_rfl)))) ?_
 simp only [p3, p4]
 refine te ?_
 have kq13 := g2.kp.trans (g3.kp.trans (g4.kp.trans (g7.kp.trans gd10.kp)))
 replace hn := hn.kp kq13
 refine ec 10 (neg_i hn ) ?_
 rintro e12 w12 ⟨⟨x12, y12, rfl, h12⟩, g12⟩
 refine ⟨_, rfl, ?_⟩
 replace hB := hB.trans g12
 replace L2 := L2.gr g12
 replace L3 := L3.gr g12
 refine ⟨trivial, ⟨fun _ => L2, fun _ => L3, trivial⟩, ?_⟩
 simp only [p3, p4]
 refine te ?_
 have kq16 := g7.kp.trans (gd10.kp.trans g12.kp)
 replace hd := hd.kp kq16
 refine ec 12 (neg_i hd ) ?_
 rintro e15 w15 ⟨⟨x15, y15, rfl, h15⟩, g15⟩
 refine ⟨_, rfl, ?_⟩
 replace hB := hB.trans g15
 replace L2 := L2.gr g15
 replace L3 := L3.gr g15
 refine ⟨trivial, ⟨fun _ => L2, fun _ => L3, trivial⟩, ?_⟩
 simp only [p3, p4]
 refine te ?_
 refine es 27 0 (.agg #[x12, y12]) [x12, y12] #[x12, y12] L2 hB q2 ⟨h12.one0, h12.one1, trivial⟩ fun w18 st18 kp18 L2 hB => ?_
 replace L3 := st18.lc L3 (Ne.symm ne2_3)
 refine ⟨trivial, ⟨cameT (by kernel_rfl), fun _ => L3, trivial⟩, ?_⟩
 refine te ?_
 refine es 27 0 (.agg #[x15, y15]) [x15, y15] #[x15, y15] L3 hB q3 ⟨h15.one0, h15.one1, trivial⟩ fun w20 st20 kp20 L3 hB => ?_
 refine ⟨trivial, ⟨cameT (by kernel_rfl), cameT (by kernel_rfl), trivial⟩, ?_⟩
 refine ort_nil ?_
 refine k5 _ _ ?_
 try clear k5 K5
 refine wp_seq_k (fun K21 k21 => ?_)
 refine rg [0, 1, 2, 3, 4] ?_
 replace L2 := st20.lc L2 ne2_3
 refine sw 13 (.agg #[x12, y12]) rfl (rl 27 0 [x12, y12] L2) ?_
 simp only [p3, p4]
 refine sw 14 (.agg #[x15, y15]) rfl (rl 27 0 [x15, y15] L3) ?_
 simp only [p3, p4]
 refine se ?_
 have kq23 := g15.kp.trans (kp18.trans kp20)
 replace h12 := h12.kp kq23
 have kq24 := kp18.trans kp20
 replace h15 := h15.kp kq24
 refine ec 15 (gcd_i h12 h15 (by omega)) ?_
 rintro e22 w22 ⟨⟨x22, y22, rfl, h22⟩, g22⟩
 refine ⟨_, rfl, ?_⟩
 replace hB := hB.trans g22
 simp only [p3, p4]
 refine se ?_
 refine ea 27 #[(.bool false), (.slice none 0 0)] 5 hB fun b25 w25 g25 L25 o25 q25 hB => ?_
 replace L2 := L2.gr g22
 have ne2_25 := L2.ne o25
 replace L3 := L3.gr g22
 have ne3_25 := L3.ne o25
 replace L4 := (st20.lc (st18.lc (L4.gr (g7.trans (gd10.trans (g12.trans g15)))) (Ne.symm ne2_4)) (Ne.symm ne3_4)).gr g22
 have ne4_25 := L4.ne o25
 simp only [p3, p4]
 refine se ?_
 refine es 27 0 (.agg #[x22, y22]) [x22, y22] #[x22, y22] L25 hB q25 ⟨h22.one0, h22.one1, trivial⟩ fun w26 st26 kp26 L25 hB => ?_
 refine sq_nil ?_
 refine k21 _ _ ?_
 try clear k21 K21
 refine wp_seq_k (fun K27 k27 => ?_)
 refine wp_seq_k (fun K28 k28 => ?_)
 have gd35 := Gr.drew w26
 replace hB := hB.trans gd35
 replace L25 := L25.gr gd35
 refine wp_region_ord (fun w' => Lc w' b25 #[x22, y22] 27) [(true, 0), (false, 1), (false, 2), (true, 3)] (by kernel_rfl) (by kernel_rfl) (by kernel_rfl) (by decide) (fun _ _ _ _ _ h => h) L25 ?_
 refine ow 16 (.agg #[x22, y22]) rfl (fun w' hS => (rl 27 0 [x22, y22] hS)) ?_
 simp only [p3, p4]
 refine oe ?_
 refine ec 17 (one_i _) ?_
 rintro e37 w37 ⟨⟨x37, y37, rfl, h37⟩, g37⟩
 refine ⟨_, rfl, ?_⟩
 replace hB := hB.trans g37
 replace L25 := L25.gr g37
 refine ⟨L25, ?_⟩
 simp only [p3, p4]
 refine oe ?_
 have kq40 := g25.kp.trans (kp26.trans (gd35.kp.trans g37.kp))
 replace h22 := h22.kp kq40
 refine ec 18 (compare_i h22 h37 (by omega) (by omega)) ?_
 rintro e39 w39 ⟨rfl, g39⟩
 refine ⟨_, rfl, ?_⟩
 replace hB := hB.trans g39
 replace L25 := L25.gr g39
 refine ⟨L25, ?_⟩
 simp only [p3, p4]
 refine ow 19 (.bool true) rfl (fun w' hS => (RunV.bool (x := (sgn ((Int.gcd ((-N)) ((-D)) : Int) - 1) != (0 : Int))) (rvk (by kernel_rfl)) hg)) ?_
 simp only [p3, p4]
 refine ord_nil ?_
 refine k28 _ _ ?_
 try clear k28 K28
 refine wp_cond_true rfl ?_
 refine wp_seq_k (fun K41 k41 => ?_)
 refine rg [0, 1, 2, 3, 4, 5, 6, 7] ?_
 replace L2 := (st26.lc (L2.gr g25) ne2_25).gr (gd35.trans (g37.trans g39))
 refine sw 21 (.agg #[x12, y12]) rfl (rl 27 0 [x12, y12] L2) ?_
 simp only [p3, p4]
 refine sw 22 (.agg #[x22, y22]) rfl (rl 27 0 [x22, y22] L25) ?_
 simp only [p3, p4]
 refine se ?_
 have kq43 := g22.kp.trans (g25.kp.trans (kp26.trans (gd35.kp.trans (g37.kp.trans g39.kp))))
 replace h12 := h12.kp kq43
 replace h22 := h22.kp g39.kp
 refine ec 23 (divmod_i h12 h22 hxn.1 (by omega)) ?_
 rintro e42 w42 ⟨⟨x42, y42, xr42, yr42, rfl, h42, hr42⟩, g42⟩
 refine ⟨_, rfl, ?_⟩
 replace hB := hB.trans g42
 simp only [p3, p4]
 refine sv 20 (.tuple #[(.agg #[x42, y42]), (.agg #[xr42, yr42]), (.int .i64 0)]) ?_
 simp only [p3, p4]
 refine sv 24 (.agg #[x42, y42]) ?_
 simp only [p3, p4]
 refine sv 25 (.agg #[xr42, yr42]) ?_
 simp only [p3, p4]
 refine sv 26 (.int .i64 0) ?_
 simp only [p3, p4]
 refine se ?_
 replace L2 := L2.gr g42
 refine es 27 0 (.agg #[x42, y42]) [x42, y42] #[x42, y42] L2 hB q2 ⟨h42.one0, h42.one1, trivial⟩ fun w44 st44 kp44 L2 hB => ?_
 refine sq_nil ?_
 refine k41 _ _ ?_
 try clear k41 K41
 refine rg [0, 1, 2, 3, 4, 5, 6, 7] ?_
 replace L3 := st44.lc ((st26.lc (L3.gr g25) ne3_25).gr (gd35.trans (g37.trans (g39.trans g42)))) (Ne.symm ne2_3)
 refine sw 28 (.agg #[x15, y15]) rfl (rl 27 0 [x15, y15] L3) ?_
 simp only [p3, p4]
 replace L25 := st44.lc (L25.gr g42) (Ne.symm ne2_25)
 refine sw 29 (.agg #[x22, y22]) rfl (rl 27 0 [x22, y22] L25) ?_
 simp only [p3, p4]
 refine se ?_
 have kq46 := g22.kp.trans (g25.kp.trans (kp26.trans (gd35.kp.trans (g37.kp.trans (g39.kp.trans (g42.kp.trans kp44))))))
 replace h15 := h15.kp kq46
 have kq47 := g42.kp.trans kp44
 replace h22 := h22.kp kq47
 refine ec 30 (divmod_i h15 h22 hxn.1 (by omega)) ?_
 rintro e45 w45 ⟨⟨x45, y45, xr45, yr45, rfl, h45, hr45⟩, g45⟩
 refine ⟨_, rfl, ?_⟩
 replace hB := hB.trans g45
 simp only [p3, p4]
 refine sv 27 (.tuple #[(.agg #[x45, y45]), (.agg #[xr45, yr45]), (.int .i64 0)]) ?_
 simp only [p3, p4]
 refine sv 31 (.agg #[x45, y45]) ?_
 simp only [p3, p4]
 refine sv 32 (.agg #[xr45, yr45]) ?_
 simp only [p3, p4]
 refine sv 33 (.int .i64 0) ?_
 simp only [p3, p4]
 refine se ?_
 replace L3 := L3.gr g45
 refine es 27 0 (.agg #[x45, y45]) [x45, y45] #[x45, y45] L3 hB q3 ⟨h45.one0, h45.one1, trivial⟩ fun w48 st48 kp48 L3 hB => ?_
 refine sq_nil ?_
 refine k27 _ _ ?_
 try clear k27 K27
 refine wp_seq_k (fun K49 k49 => ?_)
 refine rg [0, 1, 2, 3] ?_
 replace L2 := st48.lc (L2.gr g45) ne2_3
 refine sw 34 (.agg #[x42, y42]) rfl (rl 27 0 [x42, y42] L2) ?_
 simp only [p3, p4]
 refine sw 35 (.agg #[x45, y45]) rfl (rl 27 0 [x45, y45] L3) ?_
 simp only [p3, p4]
 refine sv 36 (.agg #[x42, y42, x45, y45]) ?_
 simp only [p3, p4]
 refine se ?_
 replace L4 := st48.lc ((st44.lc ((st26.lc (L4.gr g25) ne4_25).gr (gd35.trans (g37.trans (g39.trans g42)))) (Ne.symm ne2_4)).gr g45) (Ne.symm ne3_4)
 refine es 31 0 (.agg #[x42, y42, x45, y45]) [x42, y42, x45, y45] #[x42, y42, x45, y45] L4 hB q4 ⟨h42.one0, h42.one1, h45.one0, h45.one1, trivial⟩ fun w50 st50 kp50 L4 hB => ?_
 refine sq_nil ?_
 refine k49 _ _ ?_
 try clear k49 K49
 refine wp_ret ?_
 refine bodyPost_ret (v := (.agg #[x42, y42, x45, y45])) (ret_cell _ _ _ rfl rfl L4 (by kernel_rfl)) rfl ⟨?_, hB⟩
 have kq51 := kp44.trans (g45.kp.trans (kp48.trans kp50))
 replace h42 := h42.kp kq51
 have kq52 := kp48.trans kp50
 replace h45 := h45.kp kq52
 exact ⟨_, _, _, _, rfl, h42, h45⟩

end Go.Proofs.YtloocadjbpgldaaGreatDoor
