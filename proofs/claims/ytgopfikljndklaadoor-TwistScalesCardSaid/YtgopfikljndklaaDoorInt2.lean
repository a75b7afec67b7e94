/- The walks through integers: plus, minus. -/
import Derived.Test.YtgopfikljndklaaDoorOwn
import Derived.Test.YtgopfikljndklaaDoorInt1
namespace Go.Proofs.YtgopfikljndklaaDoor
open Go.RowKit

set_option maxHeartbeats 1000000 in
/-- plus of two magnitudes, the first one not shorter -/
theorem plus_ge (ao bo : Option Addr) (la lb ca cb : Nat) (a b : Int) (w : World) (hla : la ≤ 1000000) (hlb : lb ≤ la)
   (ha : Mag w ao la ca a) (hb : Mag w bo lb cb b) :
    Calls Tryd.prog 81 #[.slice ao la ca, .slice bo lb cb] w fun e w' => (∃ g, e = .returned (.slice (some ⟨g, 0, none⟩) (la + 1) (la + 1)) ∧ Own w' g (la + 1) (dg (a + b)) ∧ hi (a + b) (la + 1) = 0) ∧ Below w.heap.size w w' := by
  go_enter Tryd.func81, Tryd.ntmps81
  go_wp2_with (at_make; refine wpList_make32 _ rfl _ _ rfl _ _ (la + 1) rfl rfl (by omega) (by omega) (by omega) ?_)
  intro w1 hO hB hsz
  have hneg : ¬ ((la : Int) < lb) := by omega
  go_wp2
  go_loopw [6, 22] (fun c i wr => ∃ (k : Nat) (cr : Int) (d : Nat → Int), k ≤ la ∧ i = .int .i64 k ∧ c = .int .u64 cr ∧ 0 ≤ cr ∧ cr ≤ 1 ∧ Hid (hi (a + b) k = hi a k + hi b k + cr) ∧ Below w.heap.size w wr ∧
      Own wr w.heap.size (la + 1) d ∧ Hid (∀ j, j < k → d j = dg (a + b) j)) (fun _ i _ => la - (intOf i).toNat)
  case atStart => exact ⟨0, 0, _, Nat.zero_le _, rfl, rfl, by omega, by omega, by simp [Hid, hi_zero], hB, hO, fun j hj => by omega⟩
  case round =>
    obtain ⟨k, cr, d, hk, rfl, rfl, hc0, hc1, hz, hB, hO, hd⟩ := hrel
    by_cases hlt : k < la
    · obtain ⟨b1, off1, rfl, hcs1⟩ := (ha.row.below hB).at_ (by omega)
      have hcell1 := hcs1 k hlt
      clear hcs1
      have d0 := dg_nonneg a k
      have d1 := dg_lt a k
      by_cases hltb : k < lb
      · obtain ⟨b2, off2, rfl, hcs2⟩ := (hb.row.below hB).at_ (by omega)
        have hcell2 := hcs2 k hltb
        clear hcs2
        have e0 := dg_nonneg b k
        have e1 := dg_lt b k
        have hcell3 := hO.cell k (by omega)
        have hfree := hO.free k
        go_wp2
        have hs := plus_step hz.out hc0 hc1
        go_roundw
        case rel =>
          refine ⟨k + 1, _, _, by omega, by go_num, rfl, hs.2.2.1, hs.2.2.2, hs.2.1, hB.setCell (Nat.le_refl _) _, hO.set (by omega) _, fun j hj => ?_⟩
          by_cases e : j = k
          · subst e; rw [upd_same, hs.1]
          · rw [upd_other _ _ e]; exact hd.out j (by omega)
        case measure => simp [intOf]; omega
      · have e0 : hi b k = 0 := hi_ge hb.nl.top (by omega)
        have HE := Lib.hid e0
        clear e0
        have hcell3 := hO.cell k (by omega)
        have hfree := hO.free k
        go_wp2
        have hs := plus_step0 hz.out hc0 hc1 HE.out
        go_roundw
        case rel =>
          refine ⟨k + 1, _, _, by omega, by go_num, rfl, hs.2.2.1, hs.2.2.2, hs.2.1, hB.setCell (Nat.le_refl _) _, hO.set (by omega) _, fun j hj => ?_⟩
          by_cases e : j = k
          · subst e; rw [upd_same, hs.1]
          · rw [upd_other _ _ e]; exact hd.out j (by omega)
        case measure => simp [intOf]; omega
    · obtain rfl : k = la := by omega
      have hcell3 := hO.cell k (by omega)
      have hfree := hO.free k
      go_wp2
      go_ret
      have h1 := hz.out
      rw [ha.nl.top, hi_ge hb.nl.top hlb] at h1
      have h2 := hi_split (a + b) k
      refine ⟨⟨_, rfl, (hO.set (Nat.lt_succ_self k) _).congr (fun j hj => ?_), ?_⟩, hB.setCell (Nat.le_refl _) _⟩
      · by_cases e : j = k
        · subst e; rw [upd_same]; unfold dg; omega
        · rw [upd_other _ _ e]; exact hd.out j (by omega)
      · rw [hi_succ]; omega
set_option maxHeartbeats 1000000 in
/-- plus of two magnitudes, the first one shorter -/
theorem plus_lt (ao bo : Option Addr) (la lb ca cb : Nat) (a b : Int) (w : World) (hla : la ≤ 1000000) (hlb' : lb < la)
   (ha : Mag w ao la ca a) (hb : Mag w bo lb cb b) :
    Calls Tryd.prog 81 #[.slice bo lb cb, .slice ao la ca] w fun e w' => (∃ g, e = .returned (.slice (some ⟨g, 0, none⟩) (la + 1) (la + 1)) ∧ Own w' g (la + 1) (dg (a + b)) ∧ hi (a + b) (la + 1) = 0) ∧ Below w.heap.size w w' := by
  go_enter Tryd.func81, Tryd.ntmps81
  have hneg : ((lb : Int) < la) := by omega
  go_wp2_with (at_make; refine wpList_make32 _ rfl _ _ rfl _ _ (la + 1) rfl rfl (by omega) (by omega) (by omega) ?_)
  intro w1 hO hB hsz
  have hlb : lb ≤ la := by omega
  go_wp2
  go_loopw [6, 22] (fun c i wr => ∃ (k : Nat) (cr : Int) (d : Nat → Int), k ≤ la ∧ i = .int .i64 k ∧ c = .int .u64 cr ∧ 0 ≤ cr ∧ cr ≤ 1 ∧ Hid (hi (a + b) k = hi a k + hi b k + cr) ∧ Below w.heap.size w wr ∧
      Own wr w.heap.size (la + 1) d ∧ Hid (∀ j, j < k → d j = dg (a + b) j)) (fun _ i _ => la - (intOf i).toNat)
  case atStart => exact ⟨0, 0, _, Nat.zero_le _, rfl, rfl, by omega, by omega, by simp [Hid, hi_zero], hB, hO, fun j hj => by omega⟩
  case round =>
    obtain ⟨k, cr, d, hk, rfl, rfl, hc0, hc1, hz, hB, hO, hd⟩ := hrel
    by_cases hlt : k < la
    · obtain ⟨b1, off1, rfl, hcs1⟩ := (ha.row.below hB).at_ (by omega)
      have hcell1 := hcs1 k hlt
      clear hcs1
      have d0 := dg_nonneg a k
      have d1 := dg_lt a k
      by_cases hltb : k < lb
      · obtain ⟨b2, off2, rfl, hcs2⟩ := (hb.row.below hB).at_ (by omega)
        have hcell2 := hcs2 k hltb
        clear hcs2
        have e0 := dg_nonneg b k
        have e1 := dg_lt b k
        have hcell3 := hO.cell k (by omega)
        have hfree := hO.free k
        go_wp2
        have hs := plus_step hz.out hc0 hc1
        go_roundw
        case rel =>
          refine ⟨k + 1, _, _, by omega, by go_num, rfl, hs.2.2.1, hs.2.2.2, hs.2.1, hB.setCell (Nat.le_refl _) _, hO.set (by omega) _, fun j hj => ?_⟩
          by_cases e : j = k
          · subst e; rw [upd_same, hs.1]
          · rw [upd_other _ _ e]; exact hd.out j (by omega)
        case measure => simp [intOf]; omega
      · have e0 : hi b k = 0 := hi_ge hb.nl.top (by omega)
        have HE := Lib.hid e0
        clear e0
        have hcell3 := hO.cell k (by omega)
        have hfree := hO.free k
        go_wp2
        have hs := plus_step0 hz.out hc0 hc1 HE.out
        go_roundw
        case rel =>
          refine ⟨k + 1, _, _, by omega, by go_num, rfl, hs.2.2.1, hs.2.2.2, hs.2.1, hB.setCell (Nat.le_refl _) _, hO.set (by omega) _, fun j hj => ?_⟩
          by_cases e : j = k
          · subst e; rw [upd_same, hs.1]
          · rw [upd_other _ _ e]; exact hd.out j (by omega)
        case measure => simp [intOf]; omega
    · obtain rfl : k = la := by omega
      have hcell3 := hO.cell k (by omega)
      have hfree := hO.free k
      go_wp2
      go_ret
      have h1 := hz.out
      rw [ha.nl.top, hi_ge hb.nl.top hlb] at h1
      have h2 := hi_split (a + b) k
      refine ⟨⟨_, rfl, (hO.set (Nat.lt_succ_self k) _).congr (fun j hj => ?_), ?_⟩, hB.setCell (Nat.le_refl _) _⟩
      · by_cases e : j = k
        · subst e; rw [upd_same]; unfold dg; omega
        · rw [upd_other _ _ e]; exact hd.out j (by omega)
      · rw [hi_succ]; omega
theorem plus_c (ao bo : Option Addr) (la lb ca cb : Nat) (a b : Int) (w : World) (hla : la ≤ 1000000) (hlb : lb ≤ 1000000)
   (ha : Mag w ao la ca a) (hb : Mag w bo lb cb b) :
    Calls Tryd.prog 81 #[.slice ao la ca, .slice bo lb cb] w fun e w' => (∃ g n, e = .returned (.slice (some ⟨g, 0, none⟩) n n) ∧ n ≤ 1000001 ∧ Own w' g n (dg (a + b)) ∧ hi (a + b) n = 0) ∧ Below w.heap.size w w' := by
  rcases Nat.lt_or_ge la lb with h | h
  · refine (plus_lt bo ao lb la cb ca b a w hlb h hb ha).mono ?_
    rintro e w1 ⟨⟨g, he, h1, h2⟩, h3⟩
    rw [Int.add_comm] at h1 h2
    exact ⟨⟨g, _, he, by omega, h1, h2⟩, h3⟩
  · refine (plus_ge ao bo la lb ca cb a b w hla h ha hb).mono ?_
    rintro e w1 ⟨⟨g, he, h1, h2⟩, h3⟩
    exact ⟨⟨g, _, he, by omega, h1, h2⟩, h3⟩

set_option maxHeartbeats 1000000 in
theorem minus_c (ao bo : Option Addr) (la lb ca cb : Nat) (a b : Int) (w : World) (hla : la ≤ 1000000) (hlb : lb ≤ 1000000) (hle : b ≤ a)
   (ha : Mag w ao la ca a) (hb : Mag w bo lb cb b) :
    Calls Tryd.prog 82 #[.slice ao la ca, .slice bo lb cb] w fun e w' => (∃ g, e = .returned (.slice (some ⟨g, 0, none⟩) la la) ∧ Own w' g la (dg (a - b)) ∧ hi (a - b) la = 0) ∧ Below w.heap.size w w' := by
  have hll := hb.nl.len_le ha.nl hle
  go_enter Tryd.func82, Tryd.ntmps82
  go_wp2_with (at_make; refine wpList_make32 _ rfl _ _ rfl _ _ la rfl rfl (by omega) (by omega) (by omega) ?_)
  intro w1 hO hB hsz
  go_wp2
  go_loopw [6, 15] (fun c i wr => ∃ (k : Nat) (cr : Int) (d : Nat → Int), k ≤ la ∧ i = .int .i64 k ∧ c = .int .i64 cr ∧ 0 ≤ cr ∧ cr ≤ 1 ∧ Hid (hi (a - b) k = hi a k - hi b k - cr) ∧ Below w.heap.size w wr ∧
      Own wr w.heap.size la d ∧ Hid (∀ j, j < k → d j = dg (a - b) j)) (fun _ i _ => la - (intOf i).toNat)
  case atStart => exact ⟨0, 0, _, Nat.zero_le _, rfl, rfl, by omega, by omega, by simp [Hid, hi_zero], hB, hO, fun j hj => by omega⟩
  case round =>
    obtain ⟨k, cr, d, hk, rfl, rfl, hc0, hc1, hz, hB, hO, hd⟩ := hrel
    by_cases hlt : k < la
    · obtain ⟨b1, off1, rfl, hcs1⟩ := (ha.row.below hB).at_ (by omega)
      have hcell1 := hcs1 k hlt
      clear hcs1
      have d0 := dg_nonneg a k
      have d1 := dg_lt a k
      have hcell3 := hO.cell k (by omega)
      have hfree := hO.free k
      by_cases hltb : k < lb
      · obtain ⟨b2, off2, rfl, hcs2⟩ := (hb.row.below hB).at_ (by omega)
        have hcell2 := hcs2 k hltb
        clear hcs2
        have e0 := dg_nonneg b k
        have e1 := dg_lt b k
        go_wp2
        all_goals
          have hs := minus_step hz.out hc0 hc1
          go_roundw
          case rel =>
            refine ⟨k + 1, _, _, by omega, by go_num, rfl, by omega, by omega, ?_, hB.setCell (Nat.le_refl _) _, hO.set (by omega) _, fun j hj => ?_⟩
            · show hi (a - b) (k + 1) = _
              have h2 := hs.2
              first | rw [if_pos (by assumption)] at h2 | rw [if_neg (by omega)] at h2
              exact h2
            by_cases e : j = k
            · subst e; rw [upd_same, hs.1]; try omega
            · rw [upd_other _ _ e]; exact hd.out j (by omega)
          case measure => simp [intOf]; omega
      · have e0 : hi b k = 0 := hi_ge hb.nl.top (by omega)
        have HE := Lib.hid e0
        clear e0
        go_wp2
        all_goals
          have hs := minus_step0 hz.out hc0 hc1 HE.out
          go_roundw
          case rel =>
            refine ⟨k + 1, _, _, by omega, by go_num, rfl, by omega, by omega, ?_, hB.setCell (Nat.le_refl _) _, hO.set (by omega) _, fun j hj => ?_⟩
            · show hi (a - b) (k + 1) = _
              have h2 := hs.2
              first | rw [if_pos (by assumption)] at h2 | rw [if_neg (by omega)] at h2
              exact h2
            by_cases e : j = k
            · subst e; rw [upd_same, hs.1]; try omega
            · rw [upd_other _ _ e]; exact hd.out j (by omega)
          case measure => simp [intOf]; omega
    · obtain rfl : k = la := by omega
      go_wp2
      go_ret
      have h1 := hz.out
      rw [ha.nl.top, hi_ge hb.nl.top hll] at h1
      have h2 := hi_nonneg (show 0 ≤ a - b by omega) k
      exact ⟨⟨_, rfl, hO.congr hd.out, by omega⟩, hB⟩
end Go.Proofs.YtgopfikljndklaaDoor
