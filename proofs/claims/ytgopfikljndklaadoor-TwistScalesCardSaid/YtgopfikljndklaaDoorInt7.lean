/- Contracts for DivMod, Compare, Sub, From, Gcd: what the printed walks use. -/
import Derived.Test.YtgopfikljndklaaDoorInt6
import Derived.Test.YtgopfikljndklaaDoorDiv5
namespace Go.Proofs.YtgopfikljndklaaDoor
open Go.RowKit

theorem divide_m {w : World} {ao bo : Option Addr} {la lb ca cb : Nat} {a b : Int} (ha : Mag w ao la ca a) (hb : Mag w bo lb cb b) (hla : la ≤ 1000000) (hlb : lb ≤ 1000000) (hb0 : 0 < b) :
    Calls Tryd.prog 63 #[.slice ao la ca, .slice bo lb cb] w fun e w' =>
      (∃ qo qk qc ro rk rc, e = .returned (.tuple #[.slice qo qk qc, .slice ro rk rc]) ∧ Mag w' qo qk qc (a / b) ∧ Mag w' ro rk rc (a % b)) ∧ Gr w w' := divide_c ao bo la lb ca cb a b w hla hlb ha hb hb0
theorem signed_z {neg : Bool} {ao : Option Addr} {len cap : Nat} {n Z : Int} {K : Nat} {w : World} (h : Mag w ao len cap n) (hn : n = (Z.natAbs : Int)) (hs : 0 < n → neg = decide (Z < 0)) (hz : Sz K Z) (hK : K ≤ 1000000) :
    Calls Tryd.prog 62 #[.bool neg, .slice ao len cap] w fun e w' => (∃ x y, e = .returned (.agg #[x, y]) ∧ IsInt w' K x y Z) ∧ Gr w w' := by
  have hl : len ≤ K := h.nl.len_sz (by rw [hn]; exact hz.nat)
  refine (signed_c neg ao len cap n w (by omega) h.cap h.nl.nonneg h.nl.top h.row).mono ?_
  rintro e w1 ⟨⟨k, he, hm, _⟩, hB⟩
  exact ⟨⟨_, _, he, IsInt.mk' (hm.below hB) hn hs hz⟩, hB⟩
theorem signed_pf {ao : Option Addr} {len cap : Nat} {n : Int} {K : Nat} {w : World} (h : Mag w ao len cap n) (hn : 0 < n) (hz : Sz K n) (hK : K ≤ 1000000) :
    Calls Tryd.prog 62 #[.bool false, .slice ao len cap] w fun e w' => (∃ k, e = .returned (.agg #[.bool false, .slice ao k cap]) ∧ IsInt w' K (.bool false) (.slice ao k cap) n) ∧ Gr w w' := by
  have hl : len ≤ K := h.nl.len_sz hz
  refine (signed_c false ao len cap n w (by omega) h.cap h.nl.nonneg h.nl.top h.row).mono ?_
  rintro e w1 ⟨⟨k, he, hm, _⟩, hB⟩
  refine ⟨⟨k, he, ?_⟩, hB⟩
  exact IsInt.mk' (s := false) (hm.below hB) (by omega) (fun _ => by simp; omega) hz
theorem signed_pt {ao : Option Addr} {len cap : Nat} {n : Int} {K : Nat} {w : World} (h : Mag w ao len cap n) (hn : 0 < n) (hz : Sz K n) (hK : K ≤ 1000000) :
    Calls Tryd.prog 62 #[.bool true, .slice ao len cap] w fun e w' => (∃ k, e = .returned (.agg #[.bool true, .slice ao k cap]) ∧ IsInt w' K (.bool true) (.slice ao k cap) (-n)) ∧ Gr w w' := by
  have hl : len ≤ K := h.nl.len_sz hz
  refine (signed_c true ao len cap n w (by omega) h.cap h.nl.nonneg h.nl.top h.row).mono ?_
  rintro e w1 ⟨⟨k, he, hm, _⟩, hB⟩
  have hm' := hm.below hB
  have hk : decide (0 < k) = true := by
    rw [decide_eq_true_eq]
    rcases Nat.eq_zero_or_pos k with h0 | h0
    · have := hm.nl.len_zero.1 h0; omega
    · exact h0
  rw [hk] at he
  have := IsInt.mk' (s := true) hm' (z := -n) (by omega) (fun _ => by simp; omega) hz.neg
  rw [hk] at this
  exact ⟨⟨k, he, this⟩, hB⟩
theorem sign_zero {k : Nat} {x y : Value} {w : World} (hz : IsInt w k x y 0) :
    Calls Tryd.prog 43 #[.agg #[x, y]] w fun e w' => e = .returned (.int .i64 0) ∧ Gr w w' := sign_i hz
theorem sign_pos {k : Nat} {x y : Value} {z : Int} {w : World} (hz : IsInt w k x y z) (h : 0 < z) :
    Calls Tryd.prog 43 #[.agg #[x, y]] w fun e w' => e = .returned (.int .i64 1) ∧ Gr w w' := by
  have := sign_i hz
  rw [sgn_pos h] at this
  exact this
theorem sign_neg {k : Nat} {x y : Value} {z : Int} {w : World} (hz : IsInt w k x y z) (h : z < 0) :
    Calls Tryd.prog 43 #[.agg #[x, y]] w fun e w' => e = .returned (.int .i64 (-1)) ∧ Gr w w' := by
  have := sign_i hz
  rw [sgn_neg h] at this
  exact this
theorem IsInt.resz {w : World} {k m : Nat} {x y : Value} {z : Int} (h : IsInt w k x y z) (hz : Sz m z) : IsInt w m x y z := by
  obtain ⟨ao, len, cap, h1, h2, h3, h4⟩ := h
  exact ⟨ao, len, cap, h1, h2, h3, hz⟩
theorem IsInt.len {w : World} {k : Nat} {x : Value} {ao : Option Addr} {len cap : Nat} {z : Int} (h : IsInt w k x (.slice ao len cap) z) : len ≤ k := by
  obtain ⟨ao', len', cap', h1, h2, h3, h4⟩ := h
  simp only [Value.slice.injEq] at h2
  obtain ⟨rfl, rfl, rfl⟩ := h2
  exact h3.nl.len_sz h4.nat

theorem Sz.i64 {z : Int} (h0 : -9223372036854775808 ≤ z) (h1 : z ≤ 9223372036854775807) : Sz 64 z := by unfold Sz; omega

set_option maxRecDepth 100000 in
set_option maxHeartbeats 1000000 in
theorem from_i (z : Int) (h0 : -9223372036854775808 ≤ z) (h1 : z ≤ 9223372036854775807) (w : World) :
    Calls Tryd.prog 44 #[.int .i64 z] w fun e w' => (∃ x y, e = .returned (.agg #[x, y]) ∧ IsInt w' 64 x y z) ∧ Gr w w' := by
  have key : ∀ (w1 : World) (c0 c1 : Int), c0 = (z.natAbs : Int) % 4294967296 → c1 = (z.natAbs : Int) / 4294967296 → Row (w1.alloc (.cells #[.int .u32 c0, .int .u32 c1] 103)) (some ⟨w1.heap.size, 0, none⟩) 2 (dg (z.natAbs : Int)) := by
    rintro w1 _ _ rfl rfl
    refine ⟨fun _ => ⟨_, 0, _, _, rfl, (alloc1_facts _ _).2.1, fun i hi0 => ?_⟩⟩
    have e0 : dg (z.natAbs : Int) 0 = (z.natAbs : Int) % 4294967296 := rfl
    have e1 : dg (z.natAbs : Int) 1 = (z.natAbs : Int) / 4294967296 := by
      have : dg (z.natAbs : Int) 1 = (z.natAbs : Int) / 4294967296 % 4294967296 := rfl
      rw [this]; omega
    rcases i with _ | _ | i
    · rw [e0]; rfl
    · rw [e1]; rfl
    · omega
  have ht : hi (z.natAbs : Int) 2 = 0 := by rw [hi_succ, hi_succ, hi_zero]; omega
  have ew : z < 0 → IntKind.u64.wrap (-IntKind.u64.wrap z) = (z.natAbs : Int) := by
    intro h
    rw [IntKind.wrap_u64, IntKind.wrap_u64]; omega
  by_cases hn : z < 0
  · have hd : decide (z < 0) = true := by simpa using hn
    have ew' := Lib.hid (ew hn)
    clear ew
    go_enter Tryd.func44, Tryd.ntmps44
    go_wp2_with fail
    refine (signed_c true _ 2 2 (z.natAbs : Int) _ (by omega) (by omega) (by omega) ht ?g1).mono ?_
    case g1 =>
      refine cast ?_ (key (w.alloc (.cells #[.bool false, .slice none 0 0] 29)) _ _ rfl rfl)
      rw [ew'.out]
      have : (z.natAbs : Int) / 4294967296 % 4294967296 = (z.natAbs : Int) / 4294967296 := by omega
      rw [this]
      simp
    rintro e w1 ⟨⟨k, rfl, hm, hk⟩, hB⟩
    obtain ⟨g0, f0, f1, fs⟩ := alloc2_facts w (.cells #[.bool false, .slice none 0 0] 29) (.cells #[.int .u32 (IntKind.u64.wrap (-IntKind.u64.wrap z) % 4294967296), .int .u32 (IntKind.u64.wrap (-IntKind.u64.wrap z) / 4294967296 % 4294967296)] 103)
    have p3 := Gr.heap hB f0
    have d0 := cells_of p3 0
    have d1 := cells_of p3 1
    have d2 := free_of p3
    have hw3 : Gr w w1 := Gr.trans g0 hB
    have hMM := hm.kp (Gr.kp hB)
    clear f0 f1 fs hB g0
    go_wp2
    have p4 := heap_setCell_at (i := 1) (.slice (some ⟨w.heap.size + 1, 0, none⟩) k 2) (heap_setCell_at (i := 0) (.bool (true && decide (0 < k))) p3)
    have hst := (St.setCell w1 w.heap.size 0 (.bool (true && decide (0 < k)))).trans (St.setCell _ w.heap.size 1 (.slice (some ⟨w.heap.size + 1, 0, none⟩) k 2))
    exact bodyPost_ret (v := .agg #[.bool (true && decide (0 < k)), .slice (some ⟨w.heap.size + 1, 0, none⟩) k 2]) (ret_cell _ _ _ rfl rfl p4 (by kernel_rfl)) rfl ⟨⟨_, _, rfl, IsInt.mk' (s := true) (hMM.kp (hst.kp p3 (by decide))) rfl (fun _ => by simp; omega) (Sz.i64 h0 h1)⟩, hst.gr hw3 (Nat.le_refl _)⟩
  · have hd : decide (z < 0) = false := by simpa using hn
    clear ew
    go_enter Tryd.func44, Tryd.ntmps44
    go_wp2_with fail
    refine (signed_c false _ 2 2 (z.natAbs : Int) _ (by omega) (by omega) (by omega) ht ?g1).mono ?_
    case g1 =>
      refine cast ?_ (key (w.alloc (.cells #[.bool false, .slice none 0 0] 29)) _ _ rfl rfl)
      have : (z.natAbs : Int) = z := by omega
      rw [this]
      simp
    rintro e w1 ⟨⟨k, rfl, hm, hk⟩, hB⟩
    obtain ⟨g0, f0, f1, fs⟩ := alloc2_facts w (.cells #[.bool false, .slice none 0 0] 29) (.cells #[.int .u32 (z % 4294967296), .int .u32 (z / 4294967296)] 103)
    have p3 := Gr.heap hB f0
    have d0 := cells_of p3 0
    have d1 := cells_of p3 1
    have d2 := free_of p3
    have hw3 : Gr w w1 := Gr.trans g0 hB
    have hMM := hm.kp (Gr.kp hB)
    clear f0 f1 fs hB g0
    go_wp2
    have p4 := heap_setCell_at (i := 1) (.slice (some ⟨w.heap.size + 1, 0, none⟩) k 2) (heap_setCell_at (i := 0) (.bool (false && decide (0 < k))) p3)
    have hst := (St.setCell w1 w.heap.size 0 (.bool (false && decide (0 < k)))).trans (St.setCell _ w.heap.size 1 (.slice (some ⟨w.heap.size + 1, 0, none⟩) k 2))
    exact bodyPost_ret (v := .agg #[.bool (false && decide (0 < k)), .slice (some ⟨w.heap.size + 1, 0, none⟩) k 2]) (ret_cell _ _ _ rfl rfl p4 (by kernel_rfl)) rfl ⟨⟨_, _, rfl, IsInt.mk' (s := false) (hMM.kp (hst.kp p3 (by decide))) rfl (fun _ => by simp; omega) (Sz.i64 h0 h1)⟩, hst.gr hw3 (Nat.le_refl _)⟩

theorem Mag.uniq {w : World} {p : Option Addr} {l c : Nat} {a b : Int} (h : Mag w p l c a) (g : Mag w p l c b) : a = b := by
  refine eq_of_dg l h.nl.top g.nl.top fun i hi => ?_
  obtain ⟨b1, o1, e1, h1⟩ := h.row.at_ (by omega)
  obtain ⟨b2, o2, e2, h2⟩ := g.row.at_ (by omega)
  rw [e1] at e2
  simp only [Option.some.injEq, Addr.mk.injEq] at e2
  obtain ⟨rfl, rfl, _⟩ := e2
  have := (h1 i hi).symm.trans (h2 i hi)
  simpa using this
open Classical in
/-- the number that a slice of digits holds -/
noncomputable def magOf (v : Value) (w : World) : Nat :=
  match v with
  | .slice p l c => if h : ∃ n : Nat, Mag w p l c (n : Int) then Classical.choose h else 0
  | _ => 0
theorem magOf_eq {w : World} {p : Option Addr} {l c n : Nat} (h : Mag w p l c (n : Int)) : magOf (.slice p l c) w = n := by
  have hex : ∃ n : Nat, Mag w p l c (n : Int) := ⟨n, h⟩
  simp only [magOf]
  rw [dif_pos hex]
  have := (Classical.choose_spec hex).uniq h
  omega

theorem sz_gcd {k m : Nat} {z u : Int} (hz : Sz k z) (hu : Sz m u) : Sz (k + m) (Int.gcd z u : Int) := by
  by_cases h : z = 0
  · subst h
    rw [Int.gcd_zero_left]
    exact hu.nat.mono (by omega)
  · have h1 : Int.gcd z u ≤ z.natAbs := Nat.gcd_le_left _ (by omega)
    exact Sz.of_le (hz.nat.mono (show k ≤ k + m by omega)) (by simp only [Int.natAbs_natCast]; exact h1)

set_option maxRecDepth 100000 in
set_option maxHeartbeats 1000000 in
theorem gcd_i {k m : Nat} {x y x2 y2 : Value} {z u : Int} {w : World} (hz : IsInt w k x y z) (hu : IsInt w m x2 y2 u) (hk : k + m ≤ 1000000) :
    Calls Tryd.prog 46 #[.agg #[x, y], .agg #[x2, y2]] w fun e w' => (∃ x' y', e = .returned (.agg #[x', y']) ∧ IsInt w' (k + m) x' y' (Int.gcd z u)) ∧ Gr w w' := by
  obtain ⟨ao, la, ca, rfl, rfl, ha, hs⟩ := hz
  obtain ⟨bo, lb, cb, rfl, rfl, hb, ht⟩ := hu
  have hla := ha.nl.len_sz hs.nat
  have hlb := hb.nl.len_sz ht.nat
  have hsz := Lib.hid (sz_gcd hs ht)
  generalize decide (z < 0) = s1
  generalize decide (u < 0) = s2
  go_enter Tryd.func46, Tryd.ntmps46
  go_wp2
  go_quiet (fail)
  obtain ⟨g0, f0, f1, f2, fs⟩ := alloc3_facts w (.cells #[.bool s1, .slice ao la ca] 29) (.cells #[.bool s2, .slice bo lb cb] 29) (.cells #[.bool false, .slice none 0 0] 29)
  generalize hw0 : ((w.alloc (.cells #[.bool s1, .slice ao la ca] 29)).alloc (.cells #[.bool s2, .slice bo lb cb] 29)).alloc (.cells #[.bool false, .slice none 0 0] 29) = w0 at *
  have hA := ha.gr g0
  have hB := hb.gr g0
  clear f0 f1 fs hw0
  go_wp2
  go_loopw [5, 6] (fun s5 s6 wr => ∃ (p5 : Option Addr) (l5 c5 : Nat) (p6 : Option Addr) (l6 c6 : Nat) (A B : Nat), s5 = .slice p5 l5 c5 ∧ s6 = .slice p6 l6 c6 ∧ Mag wr p5 l5 c5 (A : Int) ∧ Mag wr p6 l6 c6 (B : Int) ∧ l5 ≤ 1000000 ∧ l6 ≤ 1000000 ∧ Gr w0 wr ∧ Hid (Nat.gcd A B = Int.gcd z u)) (fun _ s6 wr => magOf s6 wr)
  case atStart => exact ⟨_, _, _, _, _, _, _, _, rfl, rfl, hA.gr (((Below.refl _ _).drewN _)), hB.gr (((Below.refl _ _).drewN _)), by omega, by omega, ((Below.refl _ _).drewN _), rfl⟩
  case round =>
    obtain ⟨p5, l5, c5, p6, l6, c6, A, B, rfl, rfl, h5, h6, hl5, hl6, hG, hh⟩ := hrel
    by_cases hp : 0 < l6
    · have hB0 : B ≠ 0 := fun e => by subst e; have := h6.nl.len_zero.2 rfl; omega
      go_wp2_with fail
      refine (divide_m h5 h6 hl5 hl6 (by omega)).mono ?_
      rintro e w3 ⟨⟨qo, qk, qc, ro, rk, rc, rfl, h7, h8⟩, hG3⟩
      go_wp2
      have e8 : (A : Int) % (B : Int) = ((A % B : Nat) : Int) := (Int.natCast_emod A B).symm
      rw [e8] at h8
      have hlt : A % B < B := Nat.mod_lt _ (by omega)
      go_roundw
      case rel =>
        refine ⟨_, _, _, _, _, _, B, A % B, rfl, rfl, h6.gr hG3, h8, hl6, Nat.le_trans (h8.nl.len_le h6.nl (by omega)) hl6, Gr.trans hG hG3, ?_⟩
        show Nat.gcd B (A % B) = _
        rw [← hh.out, Nat.gcd_comm B, ← Nat.gcd_rec, Nat.gcd_comm]
      case measure =>
        rw [magOf_eq h8, magOf_eq h6]; exact hlt
    · obtain rfl : l6 = 0 := by omega
      have hB0 : B = 0 := by have := h6.nl.len_zero.1 rfl; omega
      subst hB0
      have p3 := Gr.heap hG f2
      have d0 := cells_of p3 0
      have d1 := cells_of p3 1
      have d2 := free_of p3
      have hw3 : Gr w wr := Gr.trans g0 hG
      have hg : A = Int.gcd z u := by rw [← hh.out, Nat.gcd_zero_right]
      subst hg
      clear hh hG hA hB f2
      go_wp2
      have p4 := heap_setCell_at (i := 1) (.slice p5 l5 c5) (heap_setCell_at (i := 0) (.bool false) p3)
      have hst := (St.setCell wr (w.heap.size + 1 + 1) 0 (.bool false)).trans (St.setCell _ (w.heap.size + 1 + 1) 1 (.slice p5 l5 c5))
      exact bodyPost_ret (v := .agg #[.bool false, .slice p5 l5 c5]) (ret_cell _ _ _ rfl rfl p4 (by kernel_rfl)) rfl ⟨⟨_, _, rfl, p5, l5, c5, by simp, rfl, h5.kp (hst.kp p3 (by decide)), hsz.out⟩, hst.gr hw3 (by omega)⟩
theorem ret_tmp {P : Program} {w : World} {fn : Func} {tmps : Array Value} {t : Tmp} {v : Value} (h : fn.results = #[.tmp t]) (hv : tmps.getD t undef = v) : (results fn tmps).run P w = .ok v w := by
  subst hv; exact results_tmp h _ _ _
theorem ret_tmp2 {P : Program} {w : World} {fn : Func} {tmps : Array Value} {t u : Tmp} {v x : Value} (h : fn.results = #[.tmp t, .tmp u]) (hv : tmps.getD t undef = v) (hx : tmps.getD u undef = x) : (results fn tmps).run P w = .ok (.tuple #[v, x]) w := by
  subst hv hx; simp [results, h]
theorem ret_cell_tmp' {P : Program} {w : World} {fn : Func} {tmps : Array Value} {p u : Tmp} {t : TypeId} {v : Value} (b : Nat) (cs : Array Value) (tt : TypeId) (h : fn.results = #[.cell p t, .tmp u]) (hp : tmps.getD p undef = .pointer (some ⟨b, 0, none⟩)) (hL : Lc w b cs tt) (hs : aggSize P t = some cs.size) (hv : tmps.getD u undef = v) :
    (results fn tmps).run P w = .ok (.tuple #[.agg cs, v]) w := by
  subst hv; exact ret_cell_tmp b cs tt h hp hL hs
theorem ret_cell2_tmp' {P : Program} {w : World} {fn : Func} {tmps : Array Value} {p q u : Tmp} {t t2 : TypeId} {v : Value} (b c : Nat) (cs ds : Array Value) (tt tt2 : TypeId) (h : fn.results = #[.cell p t, .cell q t2, .tmp u]) (hp : tmps.getD p undef = .pointer (some ⟨b, 0, none⟩)) (hq : tmps.getD q undef = .pointer (some ⟨c, 0, none⟩))
    (hL : Lc w b cs tt) (hs : aggSize P t = some cs.size) (hL2 : Lc w c ds tt2) (hs2 : aggSize P t2 = some ds.size) (hv : tmps.getD u undef = v) :
    (results fn tmps).run P w = .ok (.tuple #[.agg cs, .agg ds, v]) w := by
  subst hv; exact ret_cell2_tmp b c cs ds tt tt2 h hp hq hL hs hL2 hs2
end Go.Proofs.YtgopfikljndklaaDoor
