/- The walks through division: slices.Clone, lowered. -/
import Derived.Test.YtgopfikljndklaaDoorDiv1
import Derived.Lib.SliceRun
namespace Go.Proofs.YtgopfikljndklaaDoor
open Go.RowKit

theorem own_of {w : World} {base n : Nat} {v : Value} {d : Nat → Int} (h : w.ownsRow base 103 1 v n ((List.range n).map fun i => Value.int .u32 (d i))) :
    (n = 0 ∧ v = .slice none 0 0) ∨ ∃ g cap, v = .slice (some ⟨g, 0, none⟩) n cap ∧ n ≤ cap ∧ base ≤ g ∧ Own w g n d := by
  rcases h.2 with ⟨h1, h2⟩ | ⟨g, cap, cur, h1, h2, h3, h4, _, _, h5⟩
  · exact .inl ⟨h2, h1⟩
  · refine .inr ⟨g, cap, h1, h4, h2, cur, h3, fun i hi => ?_⟩
    rw [Nat.mul_one] at h5
    have h6 : (cur.toList.take n)[i]? = ((List.range n).map fun i => Value.int .u32 (d i))[i]? := by rw [h5]
    rw [List.getElem?_take_of_lt hi] at h6
    simp [hi] at h6
    simpa using h6

def CloneQ (la : Nat) (d : Nat → Int) (w : World) (e : Ending) (w' : World) : Prop :=
  (∃ go cap, e = .returned (.slice go la cap) ∧ la ≤ cap ∧ (0 < la → ∃ g, go = some ⟨g, 0, none⟩ ∧ w.heap.size ≤ g ∧ Own w' g la d)) ∧ Gr w w'
set_option maxRecDepth 100000 in
set_option maxHeartbeats 1000000 in
theorem clone_c (ao : Option Addr) (la ca : Nat) (d : Nat → Int) (w : World) (hla : la ≤ 2000000) (ha : Row w ao la d) :
    Calls Tryd.prog 91 #[.slice ao la ca] w (CloneQ la d w) := by
  cases ao with
  | none =>
    have h0 : la = 0 := by
      rcases Nat.eq_zero_or_pos la with h | h
      · exact h
      · obtain ⟨b, off, e, _⟩ := ha.at_ h; cases e
    subst h0
    have he : (binOp .eql 27 (.slice none 0 ca) (.slice none 0 0)).run Tryd.prog w = .ok (.bool true) w := Lib.run_eql_slice_nil (P := Tryd.prog) w 27 103 none 0 ca 0 0 Tryd.underlying27
    go_enter Tryd.func91, Tryd.ntmps91
    go_wp2
    go_ret
    exact ⟨⟨none, 0, rfl, by omega, by omega⟩, Gr.refl w⟩
  | some ad =>
    have he : (binOp .eql 27 (.slice (some ad) la ca) (.slice none 0 0)).run Tryd.prog w = .ok (.bool false) w := Lib.run_eql_slice_nil (P := Tryd.prog) w 27 103 (some ad) la ca 0 0 Tryd.underlying27
    have hbs : ∀ w, (Instr.buildSlice 27 0 #[]).run Tryd.prog w = .ok (.slice (some ⟨w.heap.size, 0, none⟩) 0 0) (w.alloc (.cells #[] 103)) := fun _ => by kernel_rfl
    have hd : ∀ j u, ((List.range la).map fun i => Value.int .u32 (d i))[j]? = some u → w.cell? (ad.add j) = some u := by
      intro j u hj
      have hlt : j < la := by simpa using (List.getElem?_eq_some_iff.1 hj).1
      obtain ⟨b, off, e, hc⟩ := ha.at_ (by omega)
      obtain rfl := Option.some.inj e
      have := hc j hlt
      simp [hlt] at hj
      rw [Addr.add_lit, this, ← hj]
    have HD := Lib.hid hd
    clear hd ha
    obtain ⟨i, hi, hz, hs, hb⟩ := info_parts u32_info
    go_enter Tryd.func91, Tryd.ntmps91
    go_wp2_with (at_builtin; refine wpList_append_own _ rfl _ _ 27 rfl w.heap.size 103 i _ 1 4 Tryd.underlying27 hi hz hs hb rfl (by omega) _ 0 [] rfl (World.ownsRow_made w #[] 0 (Nat.le_refl _) (by simp) rfl) ad la ca ((List.range la).map fun i => Value.int .u32 (d i)) rfl (by simp) ?h1 ?h2 (by unfold maxLen; omega) (by omega) (by simp) ?_)
    case h1 => exact fun j u hj => (World.cell?_alloc_lt w _ _ (World.block_lt_of_cell? w _ (HD.out j u hj))).trans (HD.out j u hj)
    case h2 =>
      intro u hu
      obtain ⟨_, _, rfl⟩ := List.mem_map.1 hu
      rfl
    intro v' w1 hown hgrow hnil
    have hG : Gr w w1 := ((Below.refl w.heap.size w).alloc (Nat.le_refl _) _).grown hgrow (by simp) (fun k hk => by simp [Value.ownBlock] at hk; omega)
    rcases own_of hown with ⟨rfl, rfl⟩ | ⟨g, cap, rfl, hcap, hg, hO⟩
    · exact absurd rfl hnil
    · clear he hbs hnil hgrow hown HD
      go_wp2
      go_ret
      exact ⟨⟨_, cap, rfl, hcap, fun _ => ⟨g, rfl, hg, hO⟩⟩, hG⟩

set_option maxRecDepth 100000 in
set_option maxHeartbeats 2000000 in
theorem lowered_c (ao : Option Addr) (la ca : Nat) (a : Int) (s : Nat) (w : World) (hla : la ≤ 1000001) (ha : Mag w ao la ca a) (hs : s < 32) :
    Calls Tryd.prog 80 #[.slice ao la ca, .int .i64 s] w fun e w' => (∃ go k cap, e = .returned (.slice go k cap) ∧ Mag w' go k cap (a / 2 ^ s)) ∧ Gr w w' := by
  go_enter Tryd.func80, Tryd.ntmps80
  go_wp2_with fail
  refine (clone_c ao la ca (dg a) _ (by omega) ha.row).mono ?_
  rintro e w1 ⟨⟨go, cap, rfl, hcap, hg⟩, hG⟩
  obtain ⟨hp1, hp2, hp3⟩ := pow_split hs
  by_cases hz : la = 0
  · subst hz
    have h0 : a = 0 := ha.nl.len_zero.1 rfl
    go_wp2
    go_loopw [11] (fun i wr => i = .int .i64 0 ∧ wr = w1) (fun _ _ => 0)
    case atStart => exact ⟨rfl, rfl⟩
    case round =>
      obtain ⟨rfl, rfl⟩ := hrel
      go_wp2_with fail
      refine (trim_c _ _ _ (a / 2 ^ s) _ (by omega) hcap (Int.ediv_nonneg ha.nl.nonneg (by omega)) (by rw [h0, Int.zero_ediv]; rfl) (Row.nil _ _ _)).mono ?_
      rintro e w3 ⟨⟨m, rfl, hm, hm2⟩, rfl⟩
      go_wp2
      go_ret
      exact ⟨⟨_, _, _, rfl, hm⟩, hG⟩
  · obtain ⟨g, rfl, hge, hO⟩ := hg (by omega)
    have s0 : (0 : Int) ≤ (s : Int) := by omega
    have s1 : (s : Int) < 32 := by omega
    go_wp2
    go_loopw [11] (fun i wr => ∃ (k : Nat) (d : Nat → Int), k ≤ la ∧ i = .int .i64 k ∧ Hid (∀ j, j < la → d j = if j < k then dg (a / 2 ^ s) j else dg a j) ∧ Own wr g la d ∧ Below g w1 wr) (fun i _ => la - (intOf i).toNat)
    case atStart => exact ⟨0, dg a, Nat.zero_le _, rfl, fun j hj => by simp, hO, Below.refl _ _⟩
    case round =>
      obtain ⟨k, d, hk, rfl, hd, hO, hB⟩ := hrel
      have hw : Below w.heap.size w wr := Below.trans hG (hB.mono hge)
      by_cases hlt : k < la
      · have hdk := hd.out k hlt
        rw [if_neg (by omega)] at hdk
        have hcell3 := hO.cell k hlt
        rw [hdk] at hcell3
        have hfree := hO.free k
        have d0 := dg_nonneg a k
        have d1 := dg_lt a k
        have HK := Lib.hid hdk
        clear hdk
        have i0 : (0 : Int) ≤ (k : Int) := by omega
        have i1 : (k : Int) < (la : Int) := by omega
        by_cases hlt2 : k + 1 < la
        · obtain ⟨b1, off1, rfl, hcs⟩ := (ha.row.below hw).at_ (by omega)
          have hcell := hcs (k + 1) (by omega)
          have e0 := dg_nonneg a (k + 1)
          have e1 := dg_lt a (k + 1)
          have j0 : (0 : Int) ≤ (k : Int) + 1 := by omega
          have j1 : (k : Int) + 1 < (la : Int) := by omega
          clear hcs
          go_wp2
          go_region
          go_wp2
          have hst := lower_step (n := a) (i := k) hp1 hp2 hp3
          have eo : bits BinOp.or IntKind.u32 (dg a k / 2 ^ s) (dg a (k + 1) * 4294967296 / 2 ^ s % 4294967296) = dg (a / 2 ^ s) k := by
            rw [hst.2.2.1, hst.2.1, hst.1, hst.2.1]
            refine or32_low (by omega) hst.2.2.2.1 hst.2.2.2.2 (Int.emod_nonneg _ (by omega)) ?_
            rw [← hst.2.1]; omega
          rw [eo]
          go_roundw
          case rel =>
            refine ⟨k + 1, _, by omega, by go_num, fun j hj => ?_, ((hO.set (by omega) _).set (by omega) _).gr (Gr.drew _), ((hB.setCell (Nat.le_refl _) _).setCell (Nat.le_refl _) _).drew⟩
            by_cases e : j = k
            · subst e; rw [upd_same, if_pos (by omega)]
            · rw [upd_other _ _ e, upd_other _ _ e, hd.out j hj]
              by_cases e2 : j < k
              · rw [if_pos e2, if_pos (by omega)]
              · rw [if_neg e2, if_neg (by omega)]
          case measure => simp [intOf]; omega
        · have hl := lower_last (n := a) (i := k) hp2 (hi_ge ha.nl.top (by omega))
          have HL := Lib.hid hl
          clear hl
          go_wp2
          go_roundw
          case rel =>
            refine ⟨k + 1, _, by omega, by go_num, fun j hj => ?_, hO.set (by omega) _, hB.setCell (Nat.le_refl _) _⟩
            by_cases e : j = k
            · subst e; rw [upd_same, if_pos (by omega), HL.out]
            · rw [upd_other _ _ e, hd.out j hj]
              by_cases e2 : j < k
              · rw [if_pos e2, if_pos (by omega)]
              · rw [if_neg e2, if_neg (by omega)]
          case measure => simp [intOf]; omega
      · obtain rfl : k = la := by omega
        go_wp2_with fail
        have ht : hi (a / 2 ^ s) k = 0 := by rw [hi_div a _ hp2, ha.nl.top, Int.zero_ediv]
        refine (trim_c _ _ _ (a / 2 ^ s) _ (by omega) hcap (Int.ediv_nonneg ha.nl.nonneg (by omega)) ht (hO.congr (fun j hj => by rw [hd.out j hj, if_pos hj])).row).mono ?_
        rintro e w3 ⟨⟨m, rfl, hm, hm2⟩, rfl⟩
        go_wp2
        go_ret
        exact ⟨⟨_, _, _, rfl, hm⟩, hw⟩
end Go.Proofs.YtgopfikljndklaaDoor
