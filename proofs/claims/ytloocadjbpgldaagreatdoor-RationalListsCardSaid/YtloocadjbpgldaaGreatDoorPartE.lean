/- Joined of: R2b, R2c, R2d, R2e, Gen35, Pa1, Pa2, Rd1, Rd2, Rd3, Gen36, Lit2, Gen37, Mk, Ok2, Rord. -/
import Derived.Test.YtloocadjbpgldaaGreatDoorPartD
import Derived.Test.YtloocadjbpgldaaGreatDoorPartC
import Derived.Test.YtloocadjbpgldaaGreatDoorPartA
import Derived.Lib.SmallJoins
import Derived.Laws.RangeString
import Derived.Shelf.Strings.SlTrimAscii
/- The reference of layer 2: the parts of a text. -/
namespace Go.Proofs.YtloocadjbpgldaaGreatDoor
open Go.RowKit

theorem slash_at {l : List UInt8} {k : Nat} (h : l[k]? = some 47) (hn : (l.take k).all (· != 47) = true) : (numL l).length = k ∧ numL l = l.take k ∧ denL l = l.drop (k + 1) ∧ k < l.length := by
  have hk : k < l.length := (List.getElem?_eq_some_iff.1 h).1
  have e : l = l.take k ++ 47 :: l.drop (k + 1) := by
    have h1 : l[k] = 47 := (List.getElem?_eq_some_iff.1 h).2
    rw [← h1, List.getElem_cons_drop, List.take_append_drop]
  have hc : cutL l = (l.take k, some (l.drop (k + 1))) := by
    conv => lhs; rw [e]
    exact cutL_some (fun c hc => by simpa using List.all_eq_true.1 hn c hc)
  unfold numL denL
  rw [hc]
  exact ⟨by simp; omega, rfl, rfl, hk⟩
theorem slash_no {l : List UInt8} (hn : l.all (· != 47) = true) : numL l = l ∧ denL l = [49] := by
  have hc : cutL l = (l, none) := cutL_none (fun c hc => by simpa using List.all_eq_true.1 hn c hc)
  unfold numL denL
  rw [hc]
  exact ⟨rfl, rfl⟩
theorem noslash_step {s : ByteArray} {k : Nat} (h : k < s.size) (ha : (s.data.toList.take k).all (· != 47) = true) (h0 : ((s[k].toNat : Int) == 47) = false) : (s.data.toList.take (k + 1)).all (· != 47) = true := by
  rw [List.take_add_one, toList_get h, List.all_append, ha]
  simp only [Option.toList_some, List.all_cons, List.all_nil, Bool.and_true, Bool.true_and, bne_iff_ne, ne_eq]
  intro e
  rw [e] at h0
  exact absurd h0 (by decide)
theorem slash_get {s : ByteArray} {k : Nat} (h : k < s.size) (h0 : ((s[k].toNat : Int) == 47) = true) : s.data.toList[k]? = some 47 := by
  rw [toList_get h]
  congr 1
  rw [← UInt8.toNat_inj]
  have := eq_of_beq h0
  have : (47 : UInt8).toNat = 47 := rfl
  omega
set_option maxHeartbeats 1000000 in
theorem r2_slash (s : ByteArray) (w : World) (hs : s.size ≤ 1000000) :
    Calls Tryz.prog 85 #[.string s] w fun e w' => e = .returned (.int .i64 ((numL s.data.toList).length : Int)) ∧ w = w' := by
  go_enter Tryz.func85, Tryz.ntmps85
  go_wp2
  go_loop [3] (fun i => ∃ k : Nat, k ≤ s.size ∧ i = .int .i64 k ∧ Hid ((s.data.toList.take k).all (· != 47) = true)) (fun i => s.size - (intOf i).toNat)
  case atStart => exact ⟨0, Nat.zero_le _, rfl, rfl⟩
  case round =>
    obtain ⟨k, hk, rfl, hz⟩ := hrel
    by_cases hlt : k < s.size
    · cases h0 : ((s[k].toNat : Int) == 47)
      · go_wp2
        go_round
        case rel => exact ⟨k + 1, by omega, by go_num, noslash_step hlt hz.out h0⟩
        case measure => simp [intOf]; omega
      · have HS := Lib.hid (slash_at (slash_get hlt h0) hz.out)
        go_wp2
        go_ret
        exact ⟨ret_int (by rw [HS.out.1]), rfl⟩
    · obtain rfl : k = s.size := by omega
      have HS : Hid (numL s.data.toList = s.data.toList) := by
        have h1 := hz.out
        rw [List.take_of_length_le (by simp)] at h1
        exact (slash_no h1).1
      go_wp2
      go_ret
      exact ⟨ret_int (by rw [HS.out]; simp), rfl⟩
theorem bytes_eq {s : ByteArray} {l : List UInt8} (h : s.data.toList = l) : s = ⟨l.toArray⟩ := by
  apply ByteArray.ext
  rw [← h]
theorem cut_parts (l : List UInt8) : (numL l).length ≤ l.length ∧ ((numL l).length = l.length → numL l = l ∧ denL l = [49]) ∧ ((numL l).length < l.length → numL l = l.take (numL l).length ∧ denL l = l.drop ((numL l).length + 1)) := by
  have h := cutL_eq l
  unfold numL denL
  cases hd : (cutL l).2 with
  | none =>
    rw [hd] at h; dsimp only at h
    rw [← h]
    exact ⟨Nat.le_refl _, fun _ => ⟨rfl, rfl⟩, fun hh => absurd hh (Nat.lt_irrefl _)⟩
  | some d =>
    rw [hd] at h; dsimp only at h
    clear hd
    generalize (cutL l).1 = a at *
    subst h
    refine ⟨by simp, fun hh => by simp at hh, fun _ => ⟨by simp, ?_⟩⟩
    rw [List.drop_append]
    simp
set_option maxHeartbeats 1000000 in
theorem r2_parts (s : ByteArray) (w : World) (hs : s.size ≤ 1000000) :
    Calls Tryz.prog 21 #[.string s] w fun e w' => e = .returned (.tuple #[.string ⟨(numL s.data.toList).toArray⟩, .string ⟨(denL s.data.toList).toArray⟩]) ∧ Gr w w' := by
  obtain ⟨h1, h2, h3⟩ := cut_parts s.data.toList
  have hsl : s.data.toList.length = s.size := by simp
  rw [hsl] at h1 h2 h3
  obtain ⟨k, hk⟩ : ∃ k, k = (numL s.data.toList).length := ⟨_, rfl⟩
  have hc := r2_slash s w hs
  rw [← hk] at h1 h2 h3 hc
  have HK := Lib.hid hk
  have H2 := Lib.hid h2
  have H3 := Lib.hid h3
  clear hk h2 h3 hsl
  go_enter Tryz.func21, Tryz.ntmps21
  go_wp2_with fail
  refine hc.mono ?_
  rintro e w1 ⟨rfl, rfl⟩
  clear hc
  by_cases hks : k = s.size
  · have h2 := H2.out hks
    have HKS := Lib.hid hks
    have HH := Lib.hid h2
    have ht : ((k : Int) == (s.size : Int)) = true := by rw [beq_iff_eq]; omega
    clear h2 hks
    go_wp2
    go_ret2
    refine ⟨?_, Gr.refl _⟩
    rw [HH.out.1, HH.out.2, ← bytes_eq (s := s) rfl]
    rfl
  · have h3 := H3.out (by omega)
    have HH := Lib.hid h3
    have hlt : k < s.size := by omega
    have ht : ((k : Int) == (s.size : Int)) = false := by rw [beq_eq_false_iff_ne]; omega
    have i0 : (0 : Int) ≤ (k : Int) := by omega
    have i1 : (k : Int) ≤ (s.size : Int) := by omega
    have i2 : (k : Int) + 1 ≤ (s.size : Int) := by omega
    clear h3 hks
    go_wp2
    go_quiet (fail)
    go_wp2
    go_ret2
    refine ⟨?_, (Below.refl _ _).drewN _⟩
    rw [HH.out.1, HH.out.2]
    have e1 : s.extract 0 k = ⟨(s.data.toList.take k).toArray⟩ := bytes_eq (by rw [Lib.extract_data]; simp)
    have e2 : s.extract (k + 1) s.size = ⟨(s.data.toList.drop (k + 1)).toArray⟩ := bytes_eq (by
      rw [Lib.extract_data, List.take_of_length_le]
      simp)
    rw [← e1, ← e2]
    rfl
end Go.Proofs.YtloocadjbpgldaaGreatDoor
/- The reference of layer 2: digits, zeros. -/
namespace Go.Proofs.YtloocadjbpgldaaGreatDoor
open Go.RowKit

theorem ret_bool {a b : Bool} (h : a = b) : Ending.returned (.bool a) = .returned (.bool b) := by rw [h]
set_option maxHeartbeats 1000000 in
theorem r2_digits (s : ByteArray) (w : World) (hs : s.size ≤ 1000000) :
    Calls Tryz.prog 93 #[.string s] w fun e w' => e = .returned (.bool (allD s.data.toList)) ∧ w = w' := by
  go_enter Tryz.func93, Tryz.ntmps93
  go_wp2
  go_loop [3] (fun i => ∃ k : Nat, k ≤ s.size ∧ i = .int .i64 k ∧ Hid ((s.data.toList.take k).all isD = true)) (fun i => s.size - (intOf i).toNat)
  case atStart => exact ⟨0, Nat.zero_le _, rfl, rfl⟩
  case round =>
    obtain ⟨k, hk, rfl, hz⟩ := hrel
    by_cases hlt : k < s.size
    · by_cases h1 : (s[k].toNat : Int) < 48
      · go_wp2
        go_ret
        exact ⟨ret_bool (allD_no hlt (.inl h1)).symm, rfl⟩
      · have h1' : 48 ≤ (s[k].toNat : Int) := by omega
        by_cases h2 : 57 < (s[k].toNat : Int)
        · go_wp2
          go_ret
          exact ⟨ret_bool (allD_no hlt (.inr h2)).symm, rfl⟩
        · have h2' : (s[k].toNat : Int) ≤ 57 := by omega
          go_wp2
          go_round
          case rel => exact ⟨k + 1, by omega, by go_num, all_step hlt hz.out h1' h2'⟩
          case measure => simp [intOf]; omega
    · obtain rfl : k = s.size := by omega
      by_cases h0 : 0 < s.size
      · have h0' : (0 : Int) < (s.size : Int) := by omega
        go_wp2
        go_ret
        exact ⟨ret_bool (allD_yes h0 hz.out).symm, rfl⟩
      · have h0' : s.size = 0 := by omega
        have h0'' : ¬ (0 : Int) < (s.size : Int) := by omega
        have HE := Lib.hid (allD_nil h0')
        clear h0'
        go_wp2
        go_ret
        exact ⟨ret_bool HE.out.symm, rfl⟩
theorem zeros_no {s : ByteArray} {k : Nat} (h : k < s.size) (h0 : ((s[k].toNat : Int) != 48) = true) : zerosL s.data.toList = false := by
  unfold zerosL
  rw [List.all_eq_false]
  refine ⟨s[k], List.mem_of_getElem? (toList_get h), ?_⟩
  intro e
  have e1 := eq_of_beq e
  rw [e1] at h0
  exact absurd h0 (by decide)
theorem zeros_step {s : ByteArray} {k : Nat} (h : k < s.size) (ha : (s.data.toList.take k).all (· == 48) = true) (h0 : ((s[k].toNat : Int) != 48) = false) : (s.data.toList.take (k + 1)).all (· == 48) = true := by
  rw [List.take_add_one, toList_get h, List.all_append, ha]
  simp only [Option.toList_some, List.all_cons, List.all_nil, Bool.and_true, Bool.true_and, beq_iff_eq]
  rw [← UInt8.toNat_inj]
  have : (48 : UInt8).toNat = 48 := rfl
  have h1 : ((s[k].toNat : Int) = 48) := by simpa using h0
  omega
set_option maxHeartbeats 1000000 in
theorem r2_zeros (s : ByteArray) (w : World) (hs : s.size ≤ 1000000) :
    Calls Tryz.prog 94 #[.string s] w fun e w' => e = .returned (.bool (zerosL s.data.toList)) ∧ w = w' := by
  go_enter Tryz.func94, Tryz.ntmps94
  go_wp2
  go_loop [3] (fun i => ∃ k : Nat, k ≤ s.size ∧ i = .int .i64 k ∧ Hid ((s.data.toList.take k).all (· == 48) = true)) (fun i => s.size - (intOf i).toNat)
  case atStart => exact ⟨0, Nat.zero_le _, rfl, rfl⟩
  case round =>
    obtain ⟨k, hk, rfl, hz⟩ := hrel
    by_cases hlt : k < s.size
    · cases h0 : ((s[k].toNat : Int) != 48)
      · have HS := Lib.hid (zeros_step hlt hz.out h0)
        go_wp2
        go_round
        case rel => exact ⟨k + 1, by omega, by go_num, HS.out⟩
        case measure => simp [intOf]; omega
      · have HS := Lib.hid (zeros_no hlt h0)
        go_wp2
        go_ret
        exact ⟨ret_bool HS.out.symm, rfl⟩
    · obtain rfl : k = s.size := by omega
      have HS : Hid (zerosL s.data.toList = true) := by
        have h1 := hz.out
        rw [List.take_of_length_le (by simp)] at h1
        exact h1
      go_wp2
      go_ret
      exact ⟨ret_bool HS.out.symm, rfl⟩
end Go.Proofs.YtloocadjbpgldaaGreatDoor
/- The reference of layer 2: the check of a text. -/
namespace Go.Proofs.YtloocadjbpgldaaGreatDoor
open Go.RowKit

section
variable {l : List UInt8} {most : Nat}
theorem ck2_14 (h : ¬ most < l.length) (h1 : (allD (strip (numL l)) && allD (denL l)) = false) : ck2 l most = 14 := by unfold ck2; rw [if_neg h, if_pos h1]
theorem ck2_19 (h : ¬ most < l.length) (h1 : allD (strip (numL l)) = true) (h2 : allD (denL l) = true) (h3 : zerosL (denL l) = true) : ck2 l most = 19 := by unfold ck2; rw [if_neg h, if_neg (by simp [h1, h2]), if_pos h3]
theorem ck2_3a (h : ¬ most < l.length) (h1 : allD (strip (numL l)) = true) (h2 : allD (denL l) = true) (h3 : zerosL (denL l) = false) (h4 : (badZ (numL l) || ((denL l)[0]? == some 48)) = true) : ck2 l most = 3 := by
  unfold ck2; rw [if_neg h, if_neg (by simp [h1, h2]), if_neg (by simp [h3]), if_pos h4]
theorem ck2_end (h : ¬ most < l.length) (h1 : allD (strip (numL l)) = true) (h2 : allD (denL l) = true) (h3 : zerosL (denL l) = false) (h4 : (badZ (numL l) || ((denL l)[0]? == some 48)) = false) :
    ck2 l most = if (decide ((numL l).length < l.length) && ((denL l == [49]) || (Int.gcd (valZ (numL l)) (valZ (denL l)) != 1))) = true then 3 else 0 := by
  unfold ck2; rw [if_neg h, if_neg (by simp [h1, h2]), if_neg (by simp [h3]), if_neg (by simp [h4])]
end
theorem head48 {D : ByteArray} (h : 0 < D.size) : (D.data.toList[0]? == some 48) = ((D[0].toNat : Int) == 48) := by
  rw [toList_get h, Bool.eq_iff_iff]
  simp only [beq_iff_eq, Option.some.injEq]
  rw [← UInt8.toNat_inj]
  have : (48 : UInt8).toNat = 48 := rfl
  omega
theorem allD_size {D : ByteArray} (h : allD D.data.toList = true) : 0 < D.size := by
  have := (allD_all h).1
  have h2 : D.data.toList.length = D.size := by simp
  have := List.length_pos_iff.2 this
  omega
/-- the walk's own question whether a numerator is out of its form -/
theorem bad_alt {N P : ByteArray} (hP : P.data.toList = strip N.data.toList) (_ha : allD P.data.toList = true) (h0 : 0 < P.size) :
    badZ N.data.toList = ((decide (1 < P.size) && ((P[0].toNat : Int) == 48)) || (N.toList == [45, 48])) := by
  have hPs : P.data.toList.length = P.size := by simp
  have hNs : N.data.toList.length = N.size := by simp
  rw [bad_at hP h0, ByteArray.toList_eq]
  rcases strip_cases N.data.toList with h | ⟨h, h'⟩
  · have hl := congrArg List.length h
    rw [← hP, List.length_cons, hPs, hNs] at hl
    rw [decide_eq_true (show 1 < N.size by omega), Bool.or_true, Bool.and_true]
    cases hb : ((P[0].toNat : Int) == 48)
    · rw [Bool.and_false, Bool.false_or]
      symm
      rw [beq_eq_false_iff_ne]
      intro e
      have h2 : P.data.toList = [48] := by rw [hP, e]; rfl
      have h3 := toList_get h0
      rw [h2] at h3
      simp only [List.getElem?_cons_zero, Option.some.injEq] at h3
      rw [← h3] at hb
      exact absurd hb (by decide)
    · rw [Bool.and_true]
      by_cases h1 : 1 < P.size
      · rw [decide_eq_true h1]; rfl
      · rw [decide_eq_false h1, Bool.false_or]
        symm
        rw [beq_iff_eq, h, ← hP]
        have h3 := toList_get h0
        have h4 := eq_of_beq hb
        have h5 : P[0] = 48 := by
          rw [← UInt8.toNat_inj]
          have : (48 : UInt8).toNat = 48 := rfl
          omega
        rw [h5] at h3
        match hq : P.data.toList, hPs, h3 with
        | [], hPs, _ => simp at hPs; omega
        | [c], _, h3 => simp at h3; rw [h3]
        | _ :: _ :: _, hPs, _ => simp at hPs; omega
  · have hNP : N.size = P.size := by
      have := congrArg List.length h
      rw [← hP, hNs, hPs] at this; exact this
    have hne : (N.data.toList == [45, 48]) = false := by
      rw [beq_eq_false_iff_ne]
      intro e
      rw [e] at h'
      exact h' rfl
    rw [hne, Bool.or_false, hNP, Bool.or_self, Bool.and_comm]
theorem len_parts (l : List UInt8) : (numL l).length ≤ l.length ∧ (denL l).length ≤ l.length + 1 := by
  obtain ⟨h1, h2, h3⟩ := cut_parts l
  refine ⟨h1, ?_⟩
  rcases Nat.lt_or_ge (numL l).length l.length with h | h
  · rw [(h3 h).2, List.length_drop]; omega
  · rw [(h2 (by omega)).2]; simp
set_option maxRecDepth 100000 in
set_option maxHeartbeats 4000000 in
theorem r2_check (s : ByteArray) (most : Nat) (w : World) (hs : s.size ≤ 10000) (_hm : most ≤ 1000000) :
    Calls Tryz.prog 27 #[.string s, .int .i64 most] w fun e w' => e = .returned (.int .i64 (ck2 s.data.toList most)) ∧ Gr w w' := by
  have hsl : s.data.toList.length = s.size := by simp
  by_cases hlong : most < s.size
  · have HL : Hid (ck2 s.data.toList most = 5) := by unfold Hid ck2; rw [if_pos (by omega)]
    clear hsl
    go_enter Tryz.func27, Tryz.ntmps27
    go_wp2
    go_ret
    exact ⟨ret_int HL.out.symm, Gr.refl _⟩
  have HL : Hid (¬ most < s.data.toList.length) := by rw [Hid, hsl]; exact hlong
  have hc := r2_parts s w (by omega)
  obtain ⟨N, hN⟩ : ∃ N : ByteArray, N = ⟨(numL s.data.toList).toArray⟩ := ⟨_, rfl⟩
  obtain ⟨D, hD⟩ : ∃ D : ByteArray, D = ⟨(denL s.data.toList).toArray⟩ := ⟨_, rfl⟩
  rw [← hN, ← hD] at hc
  have HN : Hid (N.data.toList = numL s.data.toList) := by rw [Hid, hN]
  have HD : Hid (D.data.toList = denL s.data.toList) := by rw [Hid, hD]
  have HNe := Lib.hid hN
  have HDe := Lib.hid hD
  have hlens := len_parts s.data.toList
  have hNs : N.size ≤ 10000 := by rw [hN]; show (numL s.data.toList).toArray.size ≤ _; simp; omega
  have HDs : Hid (D.size ≤ 1000000) := by rw [Hid, hD]; show (denL s.data.toList).toArray.size ≤ _; simp; omega
  have HSl := Lib.hid hsl
  clear hN hD hlens hsl
  by_cases hsign : ∃ h : 0 < N.size, (N[0].toNat : Int) = 45
  · obtain ⟨h0, h45⟩ := hsign
    have h45' : ((N[0].toNat : Int) == 45) = true := by simpa using h45
    obtain ⟨P, hPe⟩ : ∃ P, N.extract 1 N.size = P := ⟨_, rfl⟩
    have hP := strip_yes h0 h45
    rw [hPe] at hP
    have hPs : P.size ≤ 1000000 := by rw [← hPe]; simp; omega
    clear h45
    go_enter Tryz.func27, Tryz.ntmps27
    go_wp2_with fail
    (with_reducible refine hc.mono ?_)
    rintro e w1 ⟨rfl, g1⟩
    clear hc
    have HP := Lib.hid hP
    have HPs := Lib.hid hPs
    clear hP hPs
    go_wp2_with fail
    (with_reducible refine (r2_digits P _ HPs.out).mono ?_)
    rintro e w2 ⟨rfl, rfl⟩
    cases hb1 : allD P.data.toList
    · have HB1 := Lib.hid hb1
      go_wp2
      go_ret
      refine ⟨ret_int (ck2_14 HL.out ?_).symm, g1⟩
      rw [← HN.out, ← HP.out, HB1.out]; rfl
    have HB1 := Lib.hid hb1
    go_wp2_with fail
    (with_reducible refine (r2_digits D _ HDs.out).mono ?_)
    rintro e w3 ⟨rfl, rfl⟩
    cases hb2 : allD D.data.toList
    · have HB2 := Lib.hid hb2
      go_wp2
      go_ret
      refine ⟨ret_int (ck2_14 HL.out ?_).symm, g1⟩
      rw [← HD.out, HB2.out, Bool.and_false]
    have HB2 := Lib.hid hb2
    go_wp2_with fail
    (with_reducible refine (r2_zeros D _ HDs.out).mono ?_)
    rintro e w4 ⟨rfl, rfl⟩
    have p0 := allD_size hb1
    have q0 := allD_size hb2
    have A1 : Hid (allD (strip (numL s.data.toList)) = true) := by rw [Hid, ← HN.out, ← HP.out]; exact hb1
    have A2 : Hid (allD (denL s.data.toList) = true) := by rw [Hid, ← HD.out]; exact hb2
    cases hb3 : zerosL D.data.toList
    case true =>
      have HB3 := Lib.hid hb3
      go_wp2
      go_ret
      exact ⟨ret_int (ck2_19 HL.out A1.out A2.out (by rw [← HD.out]; exact HB3.out)).symm, g1⟩
    have A3 : Hid (zerosL (denL s.data.toList) = false) := by rw [Hid, ← HD.out]; exact hb3
    have hbad := bad_alt HP.out hb1 p0
    have hden := head48 q0
    rw [HN.out] at hbad
    rw [HD.out] at hden
    have HBad := Lib.hid hbad
    have HDen := Lib.hid hden
    clear hbad hden hb1 hb2 HB1 HB2
    by_cases hc1 : 1 < P.size
    · have hc1' : (1 : Int) < (P.size : Int) := by omega
      cases hc2 : ((P[0].toNat : Int) == 48)
      case true =>
        have HC2 := Lib.hid hc2
        have HC1 : Hid (decide (1 < P.size) = true) := decide_eq_true hc1
        go_wp2
        go_ret
        exact ⟨ret_int (ck2_3a HL.out A1.out A2.out A3.out (by rw [HBad.out, HC1.out, HC2.out, Bool.and_true, Bool.true_or, Bool.true_or])).symm, g1⟩
      have HA : Hid ((decide (1 < P.size) && ((P[0].toNat : Int) == 48)) = false) := by rw [Hid, hc2, Bool.and_false]
      cases hc3 : (N.toList == [45, 48])
      case true =>
        have HC3 := Lib.hid hc3
        go_wp2
        go_ret
        exact ⟨ret_int (ck2_3a HL.out A1.out A2.out A3.out (by rw [HBad.out, HC3.out, Bool.or_true, Bool.true_or])).symm, g1⟩
      have HC3 := Lib.hid hc3
      cases hc4 : ((D[0].toNat : Int) == 48)
      case true =>
        have HC4 := Lib.hid hc4
        go_wp2
        go_ret
        exact ⟨ret_int (ck2_3a HL.out A1.out A2.out A3.out (by rw [HDen.out, HC4.out, Bool.or_true])).symm, g1⟩
      have HBz : Hid (badZ (numL s.data.toList) = false) := by rw [Hid, HBad.out, HA.out, HC3.out]; rfl
      have HDz : Hid (((denL s.data.toList)[0]? == some 48) = false) := by rw [Hid, HDen.out]; exact hc4
      have hz1 := form_itoa A1.out HBz.out
      obtain ⟨z, hz⟩ := hz1
      obtain ⟨hdd, hd0⟩ := den_text A2.out HDz.out
      obtain ⟨dd, hdv⟩ : ∃ dd : Nat, dd = valL (denL s.data.toList) := ⟨_, rfl⟩
      rw [← hdv] at hdd hd0
      have hden2 : denL s.data.toList = Lib.itoa (dd : Int) := by rw [itoa_nonneg (by omega), Int.natAbs_natCast, hdd]
      have E := ck2_end HL.out A1.out A2.out A3.out (by rw [HBz.out, HDz.out]; rfl)
      rw [hz, hden2, valZ_itoa, valZ_itoa, ← hz, ← hden2] at E
      have hzl := itoa_sz z (m := s.size) (by rw [← hz]; have := (len_parts s.data.toList).1; have := HSl.out; omega)
      have hdl := itoa_sz (dd : Int) (m := s.size + 1) (by rw [← hden2]; have := (len_parts s.data.toList).2; have := HSl.out; omega)
      have hg := fun w => r1_gcd (k := 4 * s.size) (m := 4 * (s.size + 1)) z (dd : Int) hzl hdl (by omega) w
      rw [← hz, ← hden2, ← HNe.out, ← HDe.out] at hg
      have hT : (D.toList == [49]) = (denL s.data.toList == [49]) := by rw [ByteArray.toList_eq, HD.out]
      rw [← hT, HSl.out] at E
      have HE := Lib.hid E
      clear E hT hz hdd hden2 hzl hdl hdv
      have hsla := r2_slash s w1 (by omega)
      obtain ⟨sl, hsl⟩ : ∃ sl, sl = (numL s.data.toList).length := ⟨_, rfl⟩
      rw [← hsl] at hsla
      have HSL := Lib.hid hsl
      clear hsl
      go_wp2_with fail
      (with_reducible refine hsla.mono ?_)
      rintro e w5 ⟨rfl, rfl⟩
      clear hsla
      by_cases hlt : sl < s.size
      · have L1 : Hid (decide ((numL s.data.toList).length < s.size) = true) := by rw [Hid, ← HSL.out]; exact decide_eq_true hlt
        have hlt' : (sl : Int) < (s.size : Int) := by omega
        cases h1 : (D.toList == [49])
        · have H1 := Lib.hid h1
          by_cases hg1 : Int.gcd z (dd : Int) = 1
          · have hg2 := hg w1
            rw [hg1, show ((1 : Nat) : Int) = 1 from rfl, itoa_one] at hg2
            have HG := Lib.hid hg1
            clear hg hg1
            go_wp2_with fail
            (with_reducible refine hg2.mono ?_)
            rintro e w6 ⟨rfl, g6⟩
            clear hg2
            go_wp2
            go_ret
            exact ⟨ret_int (by rw [HE.out, L1.out, H1.out, HG.out]; rfl), g1.trans g6⟩
          · have hne : (Lib.itoa (Int.gcd z (dd : Int) : Int) == [49]) = false := by
              rw [beq_eq_false_iff_ne, ← itoa_one]
              intro e
              have := itoa_inj e
              omega
            have hne2 : ((⟨(Lib.itoa (Int.gcd z (dd : Int) : Int)).toArray⟩ : ByteArray).toList == [49]) = false := by rw [ByteArray.toList_eq]; exact hne
            have HG : Hid ((Int.gcd z (dd : Int) != 1) = true) := by rw [Hid, bne_iff_ne]; exact hg1
            have hg2 := hg w1
            clear hg hg1
            go_wp2_with fail
            (with_reducible refine hg2.mono ?_)
            rintro e w6 ⟨rfl, g6⟩
            clear hg2
            go_wp2
            go_ret
            exact ⟨ret_int (by rw [HE.out, L1.out, H1.out, HG.out]; rfl), g1.trans g6⟩
        · have H1 := Lib.hid h1
          clear hg
          go_wp2
          go_ret
          exact ⟨ret_int (by rw [HE.out, L1.out, H1.out]; rfl), g1⟩
      · have L1 : Hid (decide ((numL s.data.toList).length < s.size) = false) := by rw [Hid, ← HSL.out]; exact decide_eq_false hlt
        have hlt' : ¬ (sl : Int) < (s.size : Int) := by omega
        clear hg
        go_wp2
        go_ret
        exact ⟨ret_int (by rw [HE.out, L1.out]; rfl), g1⟩
    · have hc1' : ¬ (1 : Int) < (P.size : Int) := by omega
      have HA : Hid ((decide (1 < P.size) && ((P[0].toNat : Int) == 48)) = false) := by rw [Hid, decide_eq_false hc1, Bool.false_and]
      cases hc3 : (N.toList == [45, 48])
      case true =>
        have HC3 := Lib.hid hc3
        go_wp2
        go_ret
        exact ⟨ret_int (ck2_3a HL.out A1.out A2.out A3.out (by rw [HBad.out, HC3.out, Bool.or_true, Bool.true_or])).symm, g1⟩
      have HC3 := Lib.hid hc3
      cases hc4 : ((D[0].toNat : Int) == 48)
      case true =>
        have HC4 := Lib.hid hc4
        go_wp2
        go_ret
        exact ⟨ret_int (ck2_3a HL.out A1.out A2.out A3.out (by rw [HDen.out, HC4.out, Bool.or_true])).symm, g1⟩
      have HBz : Hid (badZ (numL s.data.toList) = false) := by rw [Hid, HBad.out, HA.out, HC3.out]; rfl
      have HDz : Hid (((denL s.data.toList)[0]? == some 48) = false) := by rw [Hid, HDen.out]; exact hc4
      have hz1 := form_itoa A1.out HBz.out
      obtain ⟨z, hz⟩ := hz1
      obtain ⟨hdd, hd0⟩ := den_text A2.out HDz.out
      obtain ⟨dd, hdv⟩ : ∃ dd : Nat, dd = valL (denL s.data.toList) := ⟨_, rfl⟩
      rw [← hdv] at hdd hd0
      have hden2 : denL s.data.toList = Lib.itoa (dd : Int) := by rw [itoa_nonneg (by omega), Int.natAbs_natCast, hdd]
      have E := ck2_end HL.out A1.out A2.out A3.out (by rw [HBz.out, HDz.out]; rfl)
      rw [hz, hden2, valZ_itoa, valZ_itoa, ← hz, ← hden2] at E
      have hzl := itoa_sz z (m := s.size) (by rw [← hz]; have := (len_parts s.data.toList).1; have := HSl.out; omega)
      have hdl := itoa_sz (dd : Int) (m := s.size + 1) (by rw [← hden2]; have := (len_parts s.data.toList).2; have := HSl.out; omega)
      have hg := fun w => r1_gcd (k := 4 * s.size) (m := 4 * (s.size + 1)) z (dd : Int) hzl hdl (by omega) w
      rw [← hz, ← hden2, ← HNe.out, ← HDe.out] at hg
      have hT : (D.toList == [49]) = (denL s.data.toList == [49]) := by rw [ByteArray.toList_eq, HD.out]
      rw [← hT, HSl.out] at E
      have HE := Lib.hid E
      clear E hT hz hdd hden2 hzl hdl hdv
      have hsla := r2_slash s w1 (by omega)
      obtain ⟨sl, hsl⟩ : ∃ sl, sl = (numL s.data.toList).length := ⟨_, rfl⟩
      rw [← hsl] at hsla
      have HSL := Lib.hid hsl
      clear hsl
      go_wp2_with fail
      (with_reducible refine hsla.mono ?_)
      rintro e w5 ⟨rfl, rfl⟩
      clear hsla
      by_cases hlt : sl < s.size
      · have L1 : Hid (decide ((numL s.data.toList).length < s.size) = true) := by rw [Hid, ← HSL.out]; exact decide_eq_true hlt
        have hlt' : (sl : Int) < (s.size : Int) := by omega
        cases h1 : (D.toList == [49])
        · have H1 := Lib.hid h1
          by_cases hg1 : Int.gcd z (dd : Int) = 1
          · have hg2 := hg w1
            rw [hg1, show ((1 : Nat) : Int) = 1 from rfl, itoa_one] at hg2
            have HG := Lib.hid hg1
            clear hg hg1
            go_wp2_with fail
            (with_reducible refine hg2.mono ?_)
            rintro e w6 ⟨rfl, g6⟩
            clear hg2
            go_wp2
            go_ret
            exact ⟨ret_int (by rw [HE.out, L1.out, H1.out, HG.out]; rfl), g1.trans g6⟩
          · have hne : (Lib.itoa (Int.gcd z (dd : Int) : Int) == [49]) = false := by
              rw [beq_eq_false_iff_ne, ← itoa_one]
              intro e
              have := itoa_inj e
              omega
            have hne2 : ((⟨(Lib.itoa (Int.gcd z (dd : Int) : Int)).toArray⟩ : ByteArray).toList == [49]) = false := by rw [ByteArray.toList_eq]; exact hne
            have HG : Hid ((Int.gcd z (dd : Int) != 1) = true) := by rw [Hid, bne_iff_ne]; exact hg1
            have hg2 := hg w1
            clear hg hg1
            go_wp2_with fail
            (with_reducible refine hg2.mono ?_)
            rintro e w6 ⟨rfl, g6⟩
            clear hg2
            go_wp2
            go_ret
            exact ⟨ret_int (by rw [HE.out, L1.out, H1.out, HG.out]; rfl), g1.trans g6⟩
        · have H1 := Lib.hid h1
          clear hg
          go_wp2
          go_ret
          exact ⟨ret_int (by rw [HE.out, L1.out, H1.out]; rfl), g1⟩
      · have L1 : Hid (decide ((numL s.data.toList).length < s.size) = false) := by rw [Hid, ← HSL.out]; exact decide_eq_false hlt
        have hlt' : ¬ (sl : Int) < (s.size : Int) := by omega
        clear hg
        go_wp2
        go_ret
        exact ⟨ret_int (by rw [HE.out, L1.out]; rfl), g1⟩
  · have hP := strip_no (s := N) (by
      rcases Nat.eq_zero_or_pos N.size with h | h
      · exact .inl h
      · exact .inr ⟨h, fun e => hsign ⟨h, e⟩⟩)
    by_cases hn0 : N.size = 0
    · have H14 : Hid (ck2 s.data.toList most = 14) := by
        refine ck2_14 HL.out ?_
        rw [← HN.out, ← hP, allD_nil hn0]; rfl
      have HX := allD_nil hn0
      clear hP
      go_enter Tryz.func27, Tryz.ntmps27
      go_wp2_with fail
      (with_reducible refine hc.mono ?_)
      rintro e w1 ⟨rfl, g1⟩
      clear hc
      have hdg := r2_digits N w1 (by omega)
      rw [HX] at hdg
      clear HX
      go_wp2_with fail
      (with_reducible refine hdg.mono ?_)
      rintro e w2 ⟨rfl, rfl⟩
      go_wp2
      go_ret
      exact ⟨ret_int H14.out.symm, g1⟩
    have hn1 : 0 < N.size := by omega
    have h45' : ((N[0].toNat : Int) == 45) = false := by
      rw [beq_eq_false_iff_ne]; exact fun e => hsign ⟨hn1, e⟩
    clear hsign hn0
    go_enter Tryz.func27, Tryz.ntmps27
    go_wp2_with fail
    (with_reducible refine hc.mono ?_)
    rintro e w1 ⟨rfl, g1⟩
    clear hc
    have HP := Lib.hid hP
    clear hP
    go_wp2_with fail
    (with_reducible refine (r2_digits N _ (by omega)).mono ?_)
    rintro e w2 ⟨rfl, rfl⟩
    cases hb1 : allD N.data.toList
    · have HB1 := Lib.hid hb1
      go_wp2
      go_ret
      refine ⟨ret_int (ck2_14 HL.out ?_).symm, g1⟩
      rw [← HN.out, ← HP.out, HB1.out]; rfl
    have HB1 := Lib.hid hb1
    go_wp2_with fail
    (with_reducible refine (r2_digits D _ HDs.out).mono ?_)
    rintro e w3 ⟨rfl, rfl⟩
    cases hb2 : allD D.data.toList
    · have HB2 := Lib.hid hb2
      go_wp2
      go_ret
      refine ⟨ret_int (ck2_14 HL.out ?_).symm, g1⟩
      rw [← HD.out, HB2.out, Bool.and_false]
    have HB2 := Lib.hid hb2
    go_wp2_with fail
    (with_reducible refine (r2_zeros D _ HDs.out).mono ?_)
    rintro e w4 ⟨rfl, rfl⟩
    have p0 := allD_size hb1
    have q0 := allD_size hb2
    have A1 : Hid (allD (strip (numL s.data.toList)) = true) := by rw [Hid, ← HN.out, ← HP.out]; exact hb1
    have A2 : Hid (allD (denL s.data.toList) = true) := by rw [Hid, ← HD.out]; exact hb2
    cases hb3 : zerosL D.data.toList
    case true =>
      have HB3 := Lib.hid hb3
      go_wp2
      go_ret
      exact ⟨ret_int (ck2_19 HL.out A1.out A2.out (by rw [← HD.out]; exact HB3.out)).symm, g1⟩
    have A3 : Hid (zerosL (denL s.data.toList) = false) := by rw [Hid, ← HD.out]; exact hb3
    have hbad := bad_alt HP.out hb1 p0
    have hden := head48 q0
    rw [HN.out] at hbad
    rw [HD.out] at hden
    have HBad := Lib.hid hbad
    have HDen := Lib.hid hden
    clear hbad hden hb1 hb2 HB1 HB2
    by_cases hc1 : 1 < N.size
    · have hc1' : (1 : Int) < (N.size : Int) := by omega
      cases hc2 : ((N[0].toNat : Int) == 48)
      case true =>
        have HC2 := Lib.hid hc2
        have HC1 : Hid (decide (1 < N.size) = true) := decide_eq_true hc1
        go_wp2
        go_ret
        exact ⟨ret_int (ck2_3a HL.out A1.out A2.out A3.out (by rw [HBad.out, HC1.out, HC2.out, Bool.and_true, Bool.true_or, Bool.true_or])).symm, g1⟩
      have HA : Hid ((decide (1 < N.size) && ((N[0].toNat : Int) == 48)) = false) := by rw [Hid, hc2, Bool.and_false]
      cases hc3 : (N.toList == [45, 48])
      case true =>
        have HC3 := Lib.hid hc3
        go_wp2
        go_ret
        exact ⟨ret_int (ck2_3a HL.out A1.out A2.out A3.out (by rw [HBad.out, HC3.out, Bool.or_true, Bool.true_or])).symm, g1⟩
      have HC3 := Lib.hid hc3
      cases hc4 : ((D[0].toNat : Int) == 48)
      case true =>
        have HC4 := Lib.hid hc4
        go_wp2
        go_ret
        exact ⟨ret_int (ck2_3a HL.out A1.out A2.out A3.out (by rw [HDen.out, HC4.out, Bool.or_true])).symm, g1⟩
      have HBz : Hid (badZ (numL s.data.toList) = false) := by rw [Hid, HBad.out, HA.out, HC3.out]; rfl
      have HDz : Hid (((denL s.data.toList)[0]? == some 48) = false) := by rw [Hid, HDen.out]; exact hc4
      have hz1 := form_itoa A1.out HBz.out
      obtain ⟨z, hz⟩ := hz1
      obtain ⟨hdd, hd0⟩ := den_text A2.out HDz.out
      obtain ⟨dd, hdv⟩ : ∃ dd : Nat, dd = valL (denL s.data.toList) := ⟨_, rfl⟩
      rw [← hdv] at hdd hd0
      have hden2 : denL s.data.toList = Lib.itoa (dd : Int) := by rw [itoa_nonneg (by omega), Int.natAbs_natCast, hdd]
      have E := ck2_end HL.out A1.out A2.out A3.out (by rw [HBz.out, HDz.out]; rfl)
      rw [hz, hden2, valZ_itoa, valZ_itoa, ← hz, ← hden2] at E
      have hzl := itoa_sz z (m := s.size) (by rw [← hz]; have := (len_parts s.data.toList).1; have := HSl.out; omega)
      have hdl := itoa_sz (dd : Int) (m := s.size + 1) (by rw [← hden2]; have := (len_parts s.data.toList).2; have := HSl.out; omega)
      have hg := fun w => r1_gcd (k := 4 * s.size) (m := 4 * (s.size + 1)) z (dd : Int) hzl hdl (by omega) w
      rw [← hz, ← hden2, ← HNe.out, ← HDe.out] at hg
      have hT : (D.toList == [49]) = (denL s.data.toList == [49]) := by rw [ByteArray.toList_eq, HD.out]
      rw [← hT, HSl.out] at E
      have HE := Lib.hid E
      clear E hT hz hdd hden2 hzl hdl hdv
      have hsla := r2_slash s w1 (by omega)
      obtain ⟨sl, hsl⟩ : ∃ sl, sl = (numL s.data.toList).length := ⟨_, rfl⟩
      rw [← hsl] at hsla
      have HSL := Lib.hid hsl
      clear hsl
      go_wp2_with fail
      (with_reducible refine hsla.mono ?_)
      rintro e w5 ⟨rfl, rfl⟩
      clear hsla
      by_cases hlt : sl < s.size
      · have L1 : Hid (decide ((numL s.data.toList).length < s.size) = true) := by rw [Hid, ← HSL.out]; exact decide_eq_true hlt
        have hlt' : (sl : Int) < (s.size : Int) := by omega
        cases h1 : (D.toList == [49])
        · have H1 := Lib.hid h1
          by_cases hg1 : Int.gcd z (dd : Int) = 1
          · have hg2 := hg w1
            rw [hg1, show ((1 : Nat) : Int) = 1 from rfl, itoa_one] at hg2
            have HG := Lib.hid hg1
            clear hg hg1
            go_wp2_with fail
            (with_reducible refine hg2.mono ?_)
            rintro e w6 ⟨rfl, g6⟩
            clear hg2
            go_wp2
            go_ret
            exact ⟨ret_int (by rw [HE.out, L1.out, H1.out, HG.out]; rfl), g1.trans g6⟩
          · have hne : (Lib.itoa (Int.gcd z (dd : Int) : Int) == [49]) = false := by
              rw [beq_eq_false_iff_ne, ← itoa_one]
              intro e
              have := itoa_inj e
              omega
            have hne2 : ((⟨(Lib.itoa (Int.gcd z (dd : Int) : Int)).toArray⟩ : ByteArray).toList == [49]) = false := by rw [ByteArray.toList_eq]; exact hne
            have HG : Hid ((Int.gcd z (dd : Int) != 1) = true) := by rw [Hid, bne_iff_ne]; exact hg1
            have hg2 := hg w1
            clear hg hg1
            go_wp2_with fail
            (with_reducible refine hg2.mono ?_)
            rintro e w6 ⟨rfl, g6⟩
            clear hg2
            go_wp2
            go_ret
            exact ⟨ret_int (by rw [HE.out, L1.out, H1.out, HG.out]; rfl), g1.trans g6⟩
        · have H1 := Lib.hid h1
          clear hg
          go_wp2
          go_ret
          exact ⟨ret_int (by rw [HE.out, L1.out, H1.out]; rfl), g1⟩
      · have L1 : Hid (decide ((numL s.data.toList).length < s.size) = false) := by rw [Hid, ← HSL.out]; exact decide_eq_false hlt
        have hlt' : ¬ (sl : Int) < (s.size : Int) := by omega
        clear hg
        go_wp2
        go_ret
        exact ⟨ret_int (by rw [HE.out, L1.out]; rfl), g1⟩
    · have hc1' : ¬ (1 : Int) < (N.size : Int) := by omega
      have HA : Hid ((decide (1 < N.size) && ((N[0].toNat : Int) == 48)) = false) := by rw [Hid, decide_eq_false hc1, Bool.false_and]
      cases hc3 : (N.toList == [45, 48])
      case true =>
        have HC3 := Lib.hid hc3
        go_wp2
        go_ret
        exact ⟨ret_int (ck2_3a HL.out A1.out A2.out A3.out (by rw [HBad.out, HC3.out, Bool.or_true, Bool.true_or])).symm, g1⟩
      have HC3 := Lib.hid hc3
      cases hc4 : ((D[0].toNat : Int) == 48)
      case true =>
        have HC4 := Lib.hid hc4
        go_wp2
        go_ret
        exact ⟨ret_int (ck2_3a HL.out A1.out A2.out A3.out (by rw [HDen.out, HC4.out, Bool.or_true])).symm, g1⟩
      have HBz : Hid (badZ (numL s.data.toList) = false) := by rw [Hid, HBad.out, HA.out, HC3.out]; rfl
      have HDz : Hid (((denL s.data.toList)[0]? == some 48) = false) := by rw [Hid, HDen.out]; exact hc4
      have hz1 := form_itoa A1.out HBz.out
      obtain ⟨z, hz⟩ := hz1
      obtain ⟨hdd, hd0⟩ := den_text A2.out HDz.out
      obtain ⟨dd, hdv⟩ : ∃ dd : Nat, dd = valL (denL s.data.toList) := ⟨_, rfl⟩
      rw [← hdv] at hdd hd0
      have hden2 : denL s.data.toList = Lib.itoa (dd : Int) := by rw [itoa_nonneg (by omega), Int.natAbs_natCast, hdd]
      have E := ck2_end HL.out A1.out A2.out A3.out (by rw [HBz.out, HDz.out]; rfl)
      rw [hz, hden2, valZ_itoa, valZ_itoa, ← hz, ← hden2] at E
      have hzl := itoa_sz z (m := s.size) (by rw [← hz]; have := (len_parts s.data.toList).1; have := HSl.out; omega)
      have hdl := itoa_sz (dd : Int) (m := s.size + 1) (by rw [← hden2]; have := (len_parts s.data.toList).2; have := HSl.out; omega)
      have hg := fun w => r1_gcd (k := 4 * s.size) (m := 4 * (s.size + 1)) z (dd : Int) hzl hdl (by omega) w
      rw [← hz, ← hden2, ← HNe.out, ← HDe.out] at hg
      have hT : (D.toList == [49]) = (denL s.data.toList == [49]) := by rw [ByteArray.toList_eq, HD.out]
      rw [← hT, HSl.out] at E
      have HE := Lib.hid E
      clear E hT hz hdd hden2 hzl hdl hdv
      have hsla := r2_slash s w1 (by omega)
      obtain ⟨sl, hsl⟩ : ∃ sl, sl = (numL s.data.toList).length := ⟨_, rfl⟩
      rw [← hsl] at hsla
      have HSL := Lib.hid hsl
      clear hsl
      go_wp2_with fail
      (with_reducible refine hsla.mono ?_)
      rintro e w5 ⟨rfl, rfl⟩
      clear hsla
      by_cases hlt : sl < s.size
      · have L1 : Hid (decide ((numL s.data.toList).length < s.size) = true) := by rw [Hid, ← HSL.out]; exact decide_eq_true hlt
        have hlt' : (sl : Int) < (s.size : Int) := by omega
        cases h1 : (D.toList == [49])
        · have H1 := Lib.hid h1
          by_cases hg1 : Int.gcd z (dd : Int) = 1
          · have hg2 := hg w1
            rw [hg1, show ((1 : Nat) : Int) = 1 from rfl, itoa_one] at hg2
            have HG := Lib.hid hg1
            clear hg hg1
            go_wp2_with fail
            (with_reducible refine hg2.mono ?_)
            rintro e w6 ⟨rfl, g6⟩
            clear hg2
            go_wp2
            go_ret
            exact ⟨ret_int (by rw [HE.out, L1.out, H1.out, HG.out]; rfl), g1.trans g6⟩
          · have hne : (Lib.itoa (Int.gcd z (dd : Int) : Int) == [49]) = false := by
              rw [beq_eq_false_iff_ne, ← itoa_one]
              intro e
              have := itoa_inj e
              omega
            have hne2 : ((⟨(Lib.itoa (Int.gcd z (dd : Int) : Int)).toArray⟩ : ByteArray).toList == [49]) = false := by rw [ByteArray.toList_eq]; exact hne
            have HG : Hid ((Int.gcd z (dd : Int) != 1) = true) := by rw [Hid, bne_iff_ne]; exact hg1
            have hg2 := hg w1
            clear hg hg1
            go_wp2_with fail
            (with_reducible refine hg2.mono ?_)
            rintro e w6 ⟨rfl, g6⟩
            clear hg2
            go_wp2
            go_ret
            exact ⟨ret_int (by rw [HE.out, L1.out, H1.out, HG.out]; rfl), g1.trans g6⟩
        · have H1 := Lib.hid h1
          clear hg
          go_wp2
          go_ret
          exact ⟨ret_int (by rw [HE.out, L1.out, H1.out]; rfl), g1⟩
      · have L1 : Hid (decide ((numL s.data.toList).length < s.size) = false) := by rw [Hid, ← HSL.out]; exact decide_eq_false hlt
        have hlt' : ¬ (sl : Int) < (s.size : Int) := by omega
        clear hg
        go_wp2
        go_ret
        exact ⟨ret_int (by rw [HE.out, L1.out]; rfl), g1⟩
end Go.Proofs.YtloocadjbpgldaaGreatDoor
/- The reference of layer 2: contracts on the texts of rationals. -/
namespace Go.Proofs.YtloocadjbpgldaaGreatDoor
open Go.RowKit

theorem ratL_len {k : Nat} {q : Rat} (h1 : Sz k q.num) (h2 : Sz k (q.den : Int)) : (ratL q).length ≤ 2 * k + 5 := by
  have a := itoa_len h1
  have b := itoa_len h2
  unfold ratL
  split
  · omega
  · simp only [List.length_append, List.length_singleton]; omega
theorem r2_parts_q {k : Nat} (q : Rat) (h1 : Sz k q.num) (h2 : Sz k (q.den : Int)) (hk : k ≤ 400000) (w : World) :
    Calls Tryz.prog 21 #[.string ⟨(ratL q).toArray⟩] w fun e w' => e = .returned (.tuple #[.string ⟨(Lib.itoa q.num).toArray⟩, .string ⟨(Lib.itoa (q.den : Int)).toArray⟩]) ∧ Gr w w' := by
  have hl := ratL_len h1 h2
  have := r2_parts ⟨(ratL q).toArray⟩ w (by show (ratL q).toArray.size ≤ _; simp; omega)
  have e : (⟨(ratL q).toArray⟩ : ByteArray).data.toList = ratL q := by simp
  rw [e, numL_ratL, denL_ratL] at this
  exact this
theorem den_pos_i (q : Rat) : 0 < (q.den : Int) := Int.natCast_pos.2 q.den_pos
theorem den2_pos (a b : Rat) : 0 < (a.den : Int) * (b.den : Int) := Int.mul_pos (den_pos_i a) (den_pos_i b)
theorem rat_neg (a : Rat) : Rat.divInt (-a.num) (a.den : Int) = -a := by
  rw [← Rat.neg_divInt, Rat.num_divInt_den]
theorem rsz_neg {k : Nat} {a : Rat} (h : Sz k a.num ∧ Sz k (a.den : Int)) : Sz k (-a).num ∧ Sz k ((-a).den : Int) := by
  rw [Rat.neg_num, Rat.neg_den]
  exact ⟨h.1.neg, h.2⟩
end Go.Proofs.YtloocadjbpgldaaGreatDoor
/- Printed by a program of the prover's: the reference of layer 2: sums, products, orders. -/
namespace Go.Proofs.YtloocadjbpgldaaGreatDoor
open Go.RowKit

set_option maxRecDepth 100000 in
set_option maxHeartbeats 1000000 in
theorem r2_sign {k : Nat} (a : Rat) (ha : Sz k a.num ∧ Sz k (a.den : Int)) (_hk : k ≤ 6000) (w : World) :
    Calls Tryz.prog 58 #[(.string ⟨(ratL (a) : List UInt8).toArray⟩)] w fun e w' => e = .returned (.int .i64 (sgn a.num)) ∧ Gr w w' := by
 go_enter Tryz.func58, Tryz.ntmps58
 have hB := Gr.refl w
 refine wp_seq_k (fun K1 k1 => ?_)
 refine rg [0] ?_
 refine sv 2 (.int .i64 0) ?_
 simp only [p3, p4]
 refine sq_nil ?_
 refine k1 _ _ ?_
 try clear k1 K1
 refine wp_seq_k (fun K2 k2 => ?_)
 refine rg [0, 1, 2, 3, 4, 5, 6] ?_
 refine sv 6 (.string ⟨(ratL (a) : List UInt8).toArray⟩) ?_
 simp only [p3, p4]
 refine se ?_
 refine ec 7 (r2_parts_q (a) ha.1 ha.2 (by omega) _) ?_
 rintro e3 w3 ⟨rfl, g3⟩
 refine ⟨_, rfl, ?_⟩
 replace hB := hB.trans g3
 simp only [p3, p4]
 refine sv 5 (.tuple #[(.string ⟨(Lib.itoa (a.num) : List UInt8).toArray⟩), (.string ⟨(Lib.itoa ((a.den : Int)) : List UInt8).toArray⟩)]) ?_
 simp only [p3, p4]
 refine sv 8 (.string ⟨(Lib.itoa (a.num) : List UInt8).toArray⟩) ?_
 simp only [p3, p4]
 refine sv 9 (.string ⟨(Lib.itoa ((a.den : Int)) : List UInt8).toArray⟩) ?_
 simp only [p3, p4]
 refine sv 3 (.string ⟨(Lib.itoa (a.num) : List UInt8).toArray⟩) ?_
 simp only [p3, p4]
 refine sv 4 (.string ⟨(Lib.itoa ((a.den : Int)) : List UInt8).toArray⟩) ?_
 simp only [p3, p4]
 refine sq_nil ?_
 refine k2 _ _ ?_
 try clear k2 K2
 refine wp_seq_k (fun K4 k4 => ?_)
 refine rg [0, 1, 2] ?_
 refine sv 10 (.string ⟨(Lib.itoa (a.num) : List UInt8).toArray⟩) ?_
 simp only [p3, p4]
 refine se ?_
 refine ec 11 (r1_sign_i (a.num) _) ?_
 rintro e5 w5 ⟨rfl, g5⟩
 refine ⟨_, rfl, ?_⟩
 replace hB := hB.trans g5
 simp only [p3, p4]
 refine sv 2 (.int .i64 (sgn (a.num))) ?_
 simp only [p3, p4]
 refine sq_nil ?_
 refine k4 _ _ ?_
 try clear k4 K4
 refine wp_ret ?_
 refine bodyPost_ret (v := (.int .i64 (sgn (a.num)))) (ret_tmp rfl rfl) rfl ⟨?_, hB⟩
 exact rfl

set_option maxRecDepth 100000 in
set_option maxHeartbeats 1000000 in
theorem r2_neg {k : Nat} (a : Rat) (ha : Sz k a.num ∧ Sz k (a.den : Int)) (_hk : k ≤ 6000) (w : World) :
    Calls Tryz.prog 35 #[(.string ⟨(ratL (a) : List UInt8).toArray⟩)] w fun e w' => e = .returned (.string ⟨(ratL (-a)).toArray⟩) ∧ Gr w w' := by
 go_enter Tryz.func35, Tryz.ntmps35
 have hB := Gr.refl w
 refine wp_seq_k (fun K1 k1 => ?_)
 refine rg [0] ?_
 refine sv 2 (.string ⟨([] : List UInt8).toArray⟩) ?_
 simp only [p3, p4]
 refine sq_nil ?_
 refine k1 _ _ ?_
 try clear k1 K1
 refine wp_seq_k (fun K2 k2 => ?_)
 refine rg [0, 1, 2, 3, 4, 5, 6] ?_
 refine sv 6 (.string ⟨(ratL (a) : List UInt8).toArray⟩) ?_
 simp only [p3, p4]
 refine se ?_
 refine ec 7 (r2_parts_q (a) ha.1 ha.2 (by omega) _) ?_
 rintro e3 w3 ⟨rfl, g3⟩
 refine ⟨_, rfl, ?_⟩
 replace hB := hB.trans g3
 simp only [p3, p4]
 refine sv 5 (.tuple #[(.string ⟨(Lib.itoa (a.num) : List UInt8).toArray⟩), (.string ⟨(Lib.itoa ((a.den : Int)) : List UInt8).toArray⟩)]) ?_
 simp only [p3, p4]
 refine sv 8 (.string ⟨(Lib.itoa (a.num) : List UInt8).toArray⟩) ?_
 simp only [p3, p4]
 refine sv 9 (.string ⟨(Lib.itoa ((a.den : Int)) : List UInt8).toArray⟩) ?_
 simp only [p3, p4]
 refine sv 3 (.string ⟨(Lib.itoa (a.num) : List UInt8).toArray⟩) ?_
 simp only [p3, p4]
 refine sv 4 (.string ⟨(Lib.itoa ((a.den : Int)) : List UInt8).toArray⟩) ?_
 simp only [p3, p4]
 refine sq_nil ?_
 refine k2 _ _ ?_
 try clear k2 K2
 refine wp_seq_k (fun K4 k4 => ?_)
 refine rg [0, 1, 2, 3, 4] ?_
 refine sv 10 (.string ⟨(Lib.itoa (a.num) : List UInt8).toArray⟩) ?_
 simp only [p3, p4]
 refine se ?_
 refine ec 11 (r1_neg (a.num) ha.1 (by omega) _) ?_
 rintro e5 w5 ⟨rfl, g5⟩
 refine ⟨_, rfl, ?_⟩
 replace hB := hB.trans g5
 simp only [p3, p4]
 refine sv 12 (.string ⟨(Lib.itoa ((a.den : Int)) : List UInt8).toArray⟩) ?_
 simp only [p3, p4]
 refine se ?_
 refine ec 13 (r2_text_p (-a.num) ((a.den : Int)) ha.1.neg ha.2 (den_pos_i a) (by omega) _) ?_
 rintro e6 w6 ⟨rfl, g6⟩
 refine ⟨_, rfl, ?_⟩
 replace hB := hB.trans g6
 simp only [p3, p4]
 refine sv 2 (.string ⟨(ratL (Rat.divInt (-a.num) ((a.den : Int))) : List UInt8).toArray⟩) ?_
 simp only [p3, p4]
 refine sq_nil ?_
 refine k4 _ _ ?_
 try clear k4 K4
 refine wp_ret ?_
 refine bodyPost_ret (v := (.string ⟨(ratL (Rat.divInt (-a.num) ((a.den : Int))) : List UInt8).toArray⟩)) (ret_tmp rfl rfl) rfl ⟨?_, hB⟩
 exact (by rw [rat_neg])

set_option maxRecDepth 100000 in
set_option maxHeartbeats 1000000 in
theorem r2_add {k m : Nat} (a b : Rat) (ha : Sz k a.num ∧ Sz k (a.den : Int)) (hb : Sz m b.num ∧ Sz m (b.den : Int)) (_hk : k + m ≤ 6000) (w : World) :
    Calls Tryz.prog 31 #[(.string ⟨(ratL (a) : List UInt8).toArray⟩), (.string ⟨(ratL (b) : List UInt8).toArray⟩)] w fun e w' => e = .returned (.string ⟨(ratL (a + b)).toArray⟩) ∧ Gr w w' := by
 go_enter Tryz.func31, Tryz.ntmps31
 have hB := Gr.refl w
 refine wp_seq_k (fun K1 k1 => ?_)
 refine rg [0] ?_
 refine sv 4 (.string ⟨([] : List UInt8).toArray⟩) ?_
 simp only [p3, p4]
 refine sq_nil ?_
 refine k1 _ _ ?_
 try clear k1 K1
 refine wp_seq_k (fun K2 k2 => ?_)
 refine rg [0, 1, 2, 3, 4, 5, 6] ?_
 refine sv 10 (.string ⟨(ratL (a) : List UInt8).toArray⟩) ?_
 simp only [p3, p4]
 refine se ?_
 refine ec 11 (r2_parts_q (a) ha.1 ha.2 (by omega) _) ?_
 rintro e3 w3 ⟨rfl, g3⟩
 refine ⟨_, rfl, ?_⟩
 replace hB := hB.trans g3
 simp only [p3, p4]
 refine sv 9 (.tuple #[(.string ⟨(Lib.itoa (a.num) : List UInt8).toArray⟩), (.string ⟨(Lib.itoa ((a.den : Int)) : List UInt8).toArray⟩)]) ?_
 simp only [p3, p4]
 refine sv 12 (.string ⟨(Lib.itoa (a.num) : List UInt8).toArray⟩) ?_
 simp only [p3, p4]
 refine sv 13 (.string ⟨(Lib.itoa ((a.den : Int)) : List UInt8).toArray⟩) ?_
 simp only [p3, p4]
 refine sv 5 (.string ⟨(Lib.itoa (a.num) : List UInt8).toArray⟩) ?_
 simp only [p3, p4]
 refine sv 6 (.string ⟨(Lib.itoa ((a.den : Int)) : List UInt8).toArray⟩) ?_
 simp only [p3, p4]
 refine sq_nil ?_
 refine k2 _ _ ?_
 try clear k2 K2
 refine wp_seq_k (fun K4 k4 => ?_)
 refine rg [0, 1, 2, 3, 4, 5, 6] ?_
 refine sv 15 (.string ⟨(ratL (b) : List UInt8).toArray⟩) ?_
 simp only [p3, p4]
 refine se ?_
 refine ec 16 (r2_parts_q (b) hb.1 hb.2 (by omega) _) ?_
 rintro e5 w5 ⟨rfl, g5⟩
 refine ⟨_, rfl, ?_⟩
 replace hB := hB.trans g5
 simp only [p3, p4]
 refine sv 14 (.tuple #[(.string ⟨(Lib.itoa (b.num) : List UInt8).toArray⟩), (.string ⟨(Lib.itoa ((b.den : Int)) : List UInt8).toArray⟩)]) ?_
 simp only [p3, p4]
 refine sv 17 (.string ⟨(Lib.itoa (b.num) : List UInt8).toArray⟩) ?_
 simp only [p3, p4]
 refine sv 18 (.string ⟨(Lib.itoa ((b.den : Int)) : List UInt8).toArray⟩) ?_
 simp only [p3, p4]
 refine sv 7 (.string ⟨(Lib.itoa (b.num) : List UInt8).toArray⟩) ?_
 simp only [p3, p4]
 refine sv 8 (.string ⟨(Lib.itoa ((b.den : Int)) : List UInt8).toArray⟩) ?_
 simp only [p3, p4]
 refine sq_nil ?_
 refine k4 _ _ ?_
 try clear k4 K4
 refine wp_seq_k (fun K6 k6 => ?_)
 refine rg [0, 1, 2, 3, 4, 5, 6, 7, 8, 9, 10, 11] ?_
 refine sv 19 (.string ⟨(Lib.itoa (a.num) : List UInt8).toArray⟩) ?_
 simp only [p3, p4]
 refine sv 20 (.string ⟨(Lib.itoa ((b.den : Int)) : List UInt8).toArray⟩) ?_
 simp only [p3, p4]
 refine se ?_
 refine ec 21 (r1_mul (a.num) ((b.den : Int)) ha.1 hb.2 (by omega) _) ?_
 rintro e7 w7 ⟨rfl, g7⟩
 refine ⟨_, rfl, ?_⟩
 replace hB := hB.trans g7
 simp only [p3, p4]
 refine sv 22 (.string ⟨(Lib.itoa (b.num) : List UInt8).toArray⟩) ?_
 simp only [p3, p4]
 refine sv 23 (.string ⟨(Lib.itoa ((a.den : Int)) : List UInt8).toArray⟩) ?_
 simp only [p3, p4]
 refine se ?_
 refine ec 24 (r1_mul (b.num) ((a.den : Int)) hb.1 ha.2 (by omega) _) ?_
 rintro e8 w8 ⟨rfl, g8⟩
 refine ⟨_, rfl, ?_⟩
 replace hB := hB.trans g8
 simp only [p3, p4]
 refine se ?_
 refine ec 25 (r1_add (a.num * (b.den : Int)) (b.num * (a.den : Int)) (ha.1.mul hb.2) (hb.1.mul ha.2) (by omega) _) ?_
 rintro e9 w9 ⟨rfl, g9⟩
 refine ⟨_, rfl, ?_⟩
 replace hB := hB.trans g9
 simp only [p3, p4]
 refine sv 26 (.string ⟨(Lib.itoa ((a.den : Int)) : List UInt8).toArray⟩) ?_
 simp only [p3, p4]
 refine sv 27 (.string ⟨(Lib.itoa ((b.den : Int)) : List UInt8).toArray⟩) ?_
 simp only [p3, p4]
 refine se ?_
 refine ec 28 (r1_mul ((a.den : Int)) ((b.den : Int)) ha.2 hb.2 (by omega) _) ?_
 rintro e10 w10 ⟨rfl, g10⟩
 refine ⟨_, rfl, ?_⟩
 replace hB := hB.trans g10
 simp only [p3, p4]
 refine se ?_
 refine ec 29 (r2_text_p (a.num * (b.den : Int) + b.num * (a.den : Int)) ((a.den : Int) * (b.den : Int)) ((ha.1.mul hb.2).add (hb.1.mul ha.2)) (ha.2.mul hb.2) (den2_pos a b) (by omega) _) ?_
 rintro e11 w11 ⟨rfl, g11⟩
 refine ⟨_, rfl, ?_⟩
 replace hB := hB.trans g11
 simp only [p3, p4]
 refine sv 4 (.string ⟨(ratL (Rat.divInt (a.num * (b.den : Int) + b.num * (a.den : Int)) ((a.den : Int) * (b.den : Int))) : List UInt8).toArray⟩) ?_
 simp only [p3, p4]
 refine sq_nil ?_
 refine k6 _ _ ?_
 try clear k6 K6
 refine wp_ret ?_
 refine bodyPost_ret (v := (.string ⟨(ratL (Rat.divInt (a.num * (b.den : Int) + b.num * (a.den : Int)) ((a.den : Int) * (b.den : Int))) : List UInt8).toArray⟩)) (ret_tmp rfl rfl) rfl ⟨?_, hB⟩
 exact (by rw [rat_add])

set_option maxRecDepth 100000 in
set_option maxHeartbeats 1000000 in
theorem r2_mul {k m : Nat} (a b : Rat) (ha : Sz k a.num ∧ Sz k (a.den : Int)) (hb : Sz m b.num ∧ Sz m (b.den : Int)) (_hk : k + m ≤ 6000) (w : World) :
    Calls Tryz.prog 48 #[(.string ⟨(ratL (a) : List UInt8).toArray⟩), (.string ⟨(ratL (b) : List UInt8).toArray⟩)] w fun e w' => e = .returned (.string ⟨(ratL (a * b)).toArray⟩) ∧ Gr w w' := by
 go_enter Tryz.func48, Tryz.ntmps48
 have hB := Gr.refl w
 refine wp_seq_k (fun K1 k1 => ?_)
 refine rg [0] ?_
 refine sv 4 (.string ⟨([] : List UInt8).toArray⟩) ?_
 simp only [p3, p4]
 refine sq_nil ?_
 refine k1 _ _ ?_
 try clear k1 K1
 refine wp_seq_k (fun K2 k2 => ?_)
 refine rg [0, 1, 2, 3, 4, 5, 6] ?_
 refine sv 10 (.string ⟨(ratL (a) : List UInt8).toArray⟩) ?_
 simp only [p3, p4]
 refine se ?_
 refine ec 11 (r2_parts_q (a) ha.1 ha.2 (by omega) _) ?_
 rintro e3 w3 ⟨rfl, g3⟩
 refine ⟨_, rfl, ?_⟩
 replace hB := hB.trans g3
 simp only [p3, p4]
 refine sv 9 (.tuple #[(.string ⟨(Lib.itoa (a.num) : List UInt8).toArray⟩), (.string ⟨(Lib.itoa ((a.den : Int)) : List UInt8).toArray⟩)]) ?_
 simp only [p3, p4]
 refine sv 12 (.string ⟨(Lib.itoa (a.num) : List UInt8).toArray⟩) ?_
 simp only [p3, p4]
 refine sv 13 (.string ⟨(Lib.itoa ((a.den : Int)) : List UInt8).toArray⟩) ?_
 simp only [p3, p4]
 refine sv 5 (.string ⟨(Lib.itoa (a.num) : List UInt8).toArray⟩) ?_
 simp only [p3, p4]
 refine sv 6 (.string ⟨(Lib.itoa ((a.den : Int)) : List UInt8).toArray⟩) ?_
 simp only [p3, p4]
 refine sq_nil ?_
 refine k2 _ _ ?_
 try clear k2 K2
 refine wp_seq_k (fun K4 k4 => ?_)
 refine rg [0, 1, 2, 3, 4, 5, 6] ?_
 refine sv 15 (.string ⟨(ratL (b) : List UInt8).toArray⟩) ?_
 simp only [p3, p4]
 refine se ?_
 refine ec 16 (r2_parts_q (b) hb.1 hb.2 (by omega) _) ?_
 rintro e5 w5 ⟨rfl, g5⟩
 refine ⟨_, rfl, ?_⟩
 replace hB := hB.trans g5
 simp only [p3, p4]
 refine sv 14 (.tuple #[(.string ⟨(Lib.itoa (b.num) : List UInt8).toArray⟩), (.string ⟨(Lib.itoa ((b.den : Int)) : List UInt8).toArray⟩)]) ?_
 simp only [p3, p4]
 refine sv 17 (.string ⟨(Lib.itoa (b.num) : List UInt8).toArray⟩) ?_
 simp only [p3, p4]
 refine sv 18 (.string ⟨(Lib.itoa ((b.den : Int)) : List UInt8).toArray⟩) ?_
 simp only [p3, p4]
 refine sv 7 (.string ⟨(Lib.itoa (b.num) : List UInt8).toArray⟩) ?_
 simp only [p3, p4]
 refine sv 8 (.string ⟨(Lib.itoa ((b.den : Int)) : List UInt8).toArray⟩) ?_
 simp only [p3, p4]
 refine sq_nil ?_
 refine k4 _ _ ?_
 try clear k4 K4
 refine wp_seq_k (fun K6 k6 => ?_)
 refine rg [0, 1, 2, 3, 4, 5, 6, 7] ?_
 refine sv 19 (.string ⟨(Lib.itoa (a.num) : List UInt8).toArray⟩) ?_
 simp only [p3, p4]
 refine sv 20 (.string ⟨(Lib.itoa (b.num) : List UInt8).toArray⟩) ?_
 simp only [p3, p4]
 refine se ?_
 refine ec 21 (r1_mul (a.num) (b.num) ha.1 hb.1 (by omega) _) ?_
 rintro e7 w7 ⟨rfl, g7⟩
 refine ⟨_, rfl, ?_⟩
 replace hB := hB.trans g7
 simp only [p3, p4]
 refine sv 22 (.string ⟨(Lib.itoa ((a.den : Int)) : List UInt8).toArray⟩) ?_
 simp only [p3, p4]
 refine sv 23 (.string ⟨(Lib.itoa ((b.den : Int)) : List UInt8).toArray⟩) ?_
 simp only [p3, p4]
 refine se ?_
 refine ec 24 (r1_mul ((a.den : Int)) ((b.den : Int)) ha.2 hb.2 (by omega) _) ?_
 rintro e8 w8 ⟨rfl, g8⟩
 refine ⟨_, rfl, ?_⟩
 replace hB := hB.trans g8
 simp only [p3, p4]
 refine se ?_
 refine ec 25 (r2_text_p (a.num * b.num) ((a.den : Int) * (b.den : Int)) (ha.1.mul hb.1) (ha.2.mul hb.2) (den2_pos a b) (by omega) _) ?_
 rintro e9 w9 ⟨rfl, g9⟩
 refine ⟨_, rfl, ?_⟩
 replace hB := hB.trans g9
 simp only [p3, p4]
 refine sv 4 (.string ⟨(ratL (Rat.divInt (a.num * b.num) ((a.den : Int) * (b.den : Int))) : List UInt8).toArray⟩) ?_
 simp only [p3, p4]
 refine sq_nil ?_
 refine k6 _ _ ?_
 try clear k6 K6
 refine wp_ret ?_
 refine bodyPost_ret (v := (.string ⟨(ratL (Rat.divInt (a.num * b.num) ((a.den : Int) * (b.den : Int))) : List UInt8).toArray⟩)) (ret_tmp rfl rfl) rfl ⟨?_, hB⟩
 exact (by rw [rat_mul])

set_option maxRecDepth 100000 in
set_option maxHeartbeats 1000000 in
theorem r2_compare {k m : Nat} (a b : Rat) (ha : Sz k a.num ∧ Sz k (a.den : Int)) (hb : Sz m b.num ∧ Sz m (b.den : Int)) (_hk : k + m ≤ 6000) (w : World) :
    Calls Tryz.prog 50 #[(.string ⟨(ratL (a) : List UInt8).toArray⟩), (.string ⟨(ratL (b) : List UInt8).toArray⟩)] w fun e w' => e = .returned (.int .i64 (rcmp a b)) ∧ Gr w w' := by
 go_enter Tryz.func50, Tryz.ntmps50
 have hB := Gr.refl w
 refine wp_seq_k (fun K1 k1 => ?_)
 refine rg [0] ?_
 refine sv 4 (.int .i64 0) ?_
 simp only [p3, p4]
 refine sq_nil ?_
 refine k1 _ _ ?_
 try clear k1 K1
 refine wp_seq_k (fun K2 k2 => ?_)
 refine rg [0, 1, 2, 3, 4, 5, 6] ?_
 refine sv 10 (.string ⟨(ratL (a) : List UInt8).toArray⟩) ?_
 simp only [p3, p4]
 refine se ?_
 refine ec 11 (r2_parts_q (a) ha.1 ha.2 (by omega) _) ?_
 rintro e3 w3 ⟨rfl, g3⟩
 refine ⟨_, rfl, ?_⟩
 replace hB := hB.trans g3
 simp only [p3, p4]
 refine sv 9 (.tuple #[(.string ⟨(Lib.itoa (a.num) : List UInt8).toArray⟩), (.string ⟨(Lib.itoa ((a.den : Int)) : List UInt8).toArray⟩)]) ?_
 simp only [p3, p4]
 refine sv 12 (.string ⟨(Lib.itoa (a.num) : List UInt8).toArray⟩) ?_
 simp only [p3, p4]
 refine sv 13 (.string ⟨(Lib.itoa ((a.den : Int)) : List UInt8).toArray⟩) ?_
 simp only [p3, p4]
 refine sv 5 (.string ⟨(Lib.itoa (a.num) : List UInt8).toArray⟩) ?_
 simp only [p3, p4]
 refine sv 6 (.string ⟨(Lib.itoa ((a.den : Int)) : List UInt8).toArray⟩) ?_
 simp only [p3, p4]
 refine sq_nil ?_
 refine k2 _ _ ?_
 try clear k2 K2
 refine wp_seq_k (fun K4 k4 => ?_)
 refine rg [0, 1, 2, 3, 4, 5, 6] ?_
 refine sv 15 (.string ⟨(ratL (b) : List UInt8).toArray⟩) ?_
 simp only [p3, p4]
 refine se ?_
 refine ec 16 (r2_parts_q (b) hb.1 hb.2 (by omega) _) ?_
 rintro e5 w5 ⟨rfl, g5⟩
 refine ⟨_, rfl, ?_⟩
 replace hB := hB.trans g5
 simp only [p3, p4]
 refine sv 14 (.tuple #[(.string ⟨(Lib.itoa (b.num) : List UInt8).toArray⟩), (.string ⟨(Lib.itoa ((b.den : Int)) : List UInt8).toArray⟩)]) ?_
 simp only [p3, p4]
 refine sv 17 (.string ⟨(Lib.itoa (b.num) : List UInt8).toArray⟩) ?_
 simp only [p3, p4]
 refine sv 18 (.string ⟨(Lib.itoa ((b.den : Int)) : List UInt8).toArray⟩) ?_
 simp only [p3, p4]
 refine sv 7 (.string ⟨(Lib.itoa (b.num) : List UInt8).toArray⟩) ?_
 simp only [p3, p4]
 refine sv 8 (.string ⟨(Lib.itoa ((b.den : Int)) : List UInt8).toArray⟩) ?_
 simp only [p3, p4]
 refine sq_nil ?_
 refine k4 _ _ ?_
 try clear k4 K4
 refine wp_seq_k (fun K6 k6 => ?_)
 refine rg [0, 1, 2, 3, 4, 5, 6, 7] ?_
 refine sv 19 (.string ⟨(Lib.itoa (a.num) : List UInt8).toArray⟩) ?_
 simp only [p3, p4]
 refine sv 20 (.string ⟨(Lib.itoa ((b.den : Int)) : List UInt8).toArray⟩) ?_
 simp only [p3, p4]
 refine se ?_
 refine ec 21 (r1_mul (a.num) ((b.den : Int)) ha.1 hb.2 (by omega) _) ?_
 rintro e7 w7 ⟨rfl, g7⟩
 refine ⟨_, rfl, ?_⟩
 replace hB := hB.trans g7
 simp only [p3, p4]
 refine sv 22 (.string ⟨(Lib.itoa (b.num) : List UInt8).toArray⟩) ?_
 simp only [p3, p4]
 refine sv 23 (.string ⟨(Lib.itoa ((a.den : Int)) : List UInt8).toArray⟩) ?_
 simp only [p3, p4]
 refine se ?_
 refine ec 24 (r1_mul (b.num) ((a.den : Int)) hb.1 ha.2 (by omega) _) ?_
 rintro e8 w8 ⟨rfl, g8⟩
 refine ⟨_, rfl, ?_⟩
 replace hB := hB.trans g8
 simp only [p3, p4]
 refine se ?_
 refine ec 25 (r1_compare (a.num * (b.den : Int)) (b.num * (a.den : Int)) (ha.1.mul hb.2) (hb.1.mul ha.2) (by omega) _) ?_
 rintro e9 w9 ⟨rfl, g9⟩
 refine ⟨_, rfl, ?_⟩
 replace hB := hB.trans g9
 simp only [p3, p4]
 refine sv 4 (.int .i64 (sgn (a.num * (b.den : Int) - b.num * (a.den : Int)))) ?_
 simp only [p3, p4]
 refine sq_nil ?_
 refine k6 _ _ ?_
 try clear k6 K6
 refine wp_ret ?_
 refine bodyPost_ret (v := (.int .i64 (sgn (a.num * (b.den : Int) - b.num * (a.den : Int))))) (ret_tmp rfl rfl) rfl ⟨?_, hB⟩
 exact rfl

set_option maxRecDepth 100000 in
set_option maxHeartbeats 1000000 in
theorem r2_sub {k m : Nat} (a b : Rat) (ha : Sz k a.num ∧ Sz k (a.den : Int)) (hb : Sz m b.num ∧ Sz m (b.den : Int)) (_hk : k + m ≤ 6000) (w : World) :
    Calls Tryz.prog 33 #[(.string ⟨(ratL (a) : List UInt8).toArray⟩), (.string ⟨(ratL (b) : List UInt8).toArray⟩)] w fun e w' => e = .returned (.string ⟨(ratL (a - b)).toArray⟩) ∧ Gr w w' := by
 go_enter Tryz.func33, Tryz.ntmps33
 have hB := Gr.refl w
 refine wp_seq_k (fun K1 k1 => ?_)
 refine rg [0] ?_
 refine sv 4 (.string ⟨([] : List UInt8).toArray⟩) ?_
 simp only [p3, p4]
 refine sq_nil ?_
 refine k1 _ _ ?_
 try clear k1 K1
 refine wp_seq_k (fun K2 k2 => ?_)
 refine rg [0, 1, 2, 3, 4] ?_
 refine sv 5 (.string ⟨(ratL (a) : List UInt8).toArray⟩) ?_
 simp only [p3, p4]
 refine sv 6 (.string ⟨(ratL (b) : List UInt8).toArray⟩) ?_
 simp only [p3, p4]
 refine se ?_
 refine ec 7 (r2_neg (b) hb (by omega) _) ?_
 rintro e3 w3 ⟨rfl, g3⟩
 refine ⟨_, rfl, ?_⟩
 replace hB := hB.trans g3
 simp only [p3, p4]
 refine se ?_
 refine ec 8 (r2_add (a) (-b) ha (rsz_neg hb) (by omega) _) ?_
 rintro e4 w4 ⟨rfl, g4⟩
 refine ⟨_, rfl, ?_⟩
 replace hB := hB.trans g4
 simp only [p3, p4]
 refine sv 4 (.string ⟨(ratL (a + -b) : List UInt8).toArray⟩) ?_
 simp only [p3, p4]
 refine sq_nil ?_
 refine k2 _ _ ?_
 try clear k2 K2
 refine wp_ret ?_
 refine bodyPost_ret (v := (.string ⟨(ratL (a + -b) : List UInt8).toArray⟩)) (ret_tmp rfl rfl) rfl ⟨?_, hB⟩
 exact (by rw [Rat.sub_eq_add_neg])

set_option maxRecDepth 100000 in
set_option maxHeartbeats 1000000 in
theorem r2_least {k m : Nat} (a b : Rat) (ha : Sz k a.num ∧ Sz k (a.den : Int)) (hb : Sz m b.num ∧ Sz m (b.den : Int)) (_hk : k + m ≤ 6000) (w : World) :
    Calls Tryz.prog 52 #[(.string ⟨(ratL (a) : List UInt8).toArray⟩), (.string ⟨(ratL (b) : List UInt8).toArray⟩)] w fun e w' => e = .returned (.string ⟨((if decide (rcmp (a) (b) ≤ (0 : Int)) then ratL a else ratL b)).toArray⟩) ∧ Gr w w' := by
 go_enter Tryz.func52, Tryz.ntmps52
 have hB := Gr.refl w
 refine wp_seq_k (fun K1 k1 => ?_)
 refine rg [0] ?_
 refine sv 4 (.string ⟨([] : List UInt8).toArray⟩) ?_
 simp only [p3, p4]
 refine sq_nil ?_
 refine k1 _ _ ?_
 try clear k1 K1
 refine wp_seq_k (fun K2 k2 => ?_)
 refine wp_seq_k (fun K3 k3 => ?_)
 refine rg [0, 1, 2, 3] ?_
 refine sv 5 (.string ⟨(ratL (a) : List UInt8).toArray⟩) ?_
 simp only [p3, p4]
 refine sv 6 (.string ⟨(ratL (b) : List UInt8).toArray⟩) ?_
 simp only [p3, p4]
 refine se ?_
 refine ec 7 (r2_compare (a) (b) ha hb (by omega) _) ?_
 rintro e4 w4 ⟨rfl, g4⟩
 refine ⟨_, rfl, ?_⟩
 replace hB := hB.trans g4
 simp only [p3, p4]
 refine sv 8 (.bool (decide (rcmp (a) (b) ≤ (0 : Int)))) ?_
 simp only [p3, p4]
 refine sq_nil ?_
 refine k3 _ _ ?_
 try clear k3 K3
 refine wp_cond_split (t := decide (rcmp (a) (b) ≤ (0 : Int))) rfl (fun hb5 => ?_) (fun hb5 => ?_)
 ·refine wp_seq_k (fun K6 k6 => ?_)
  refine rg [0, 1] ?_
  refine sv 9 (.string ⟨(ratL (a) : List UInt8).toArray⟩) ?_
  simp only [p3, p4]
  refine sv 4 (.string ⟨(ratL (a) : List UInt8).toArray⟩) ?_
  simp only [p3, p4]
  refine sq_nil ?_
  refine k6 _ _ ?_
  try clear k6 K6
  refine wp_ret ?_
  simp only [Exit.then]
  refine bodyPost_ret (v := (.string ⟨(ratL (a) : List UInt8).toArray⟩)) (ret_tmp rfl rfl) rfl ⟨?_, hB⟩
  exact (by rw [hb5]; rfl)
 ·refine wp_skip ?_
  refine k2 _ _ ?_
  try clear k2 K2
  refine wp_seq_k (fun K7 k7 => ?_)
  refine rg [0, 1] ?_
  refine sv 10 (.string ⟨(ratL (b) : List UInt8).toArray⟩) ?_
  simp only [p3, p4]
  refine sv 4 (.string ⟨(ratL (b) : List UInt8).toArray⟩) ?_
  simp only [p3, p4]
  refine sq_nil ?_
  refine k7 _ _ ?_
  try clear k7 K7
  refine wp_ret ?_
  refine bodyPost_ret (v := (.string ⟨(ratL (b) : List UInt8).toArray⟩)) (ret_tmp rfl rfl) rfl ⟨?_, hB⟩
  exact (by rw [hb5]; rfl)

set_option maxRecDepth 100000 in
set_option maxHeartbeats 1000000 in
theorem r2_most {k m : Nat} (a b : Rat) (ha : Sz k a.num ∧ Sz k (a.den : Int)) (hb : Sz m b.num ∧ Sz m (b.den : Int)) (_hk : k + m ≤ 6000) (w : World) :
    Calls Tryz.prog 54 #[(.string ⟨(ratL (a) : List UInt8).toArray⟩), (.string ⟨(ratL (b) : List UInt8).toArray⟩)] w fun e w' => e = .returned (.string ⟨((if decide ((0 : Int) ≤ rcmp (a) (b)) then ratL a else ratL b)).toArray⟩) ∧ Gr w w' := by
 go_enter Tryz.func54, Tryz.ntmps54
 have hB := Gr.refl w
 refine wp_seq_k (fun K1 k1 => ?_)
 refine rg [0] ?_
 refine sv 4 (.string ⟨([] : List UInt8).toArray⟩) ?_
 simp only [p3, p4]
 refine sq_nil ?_
 refine k1 _ _ ?_
 try clear k1 K1
 refine wp_seq_k (fun K2 k2 => ?_)
 refine wp_seq_k (fun K3 k3 => ?_)
 refine rg [0, 1, 2, 3] ?_
 refine sv 5 (.string ⟨(ratL (a) : List UInt8).toArray⟩) ?_
 simp only [p3, p4]
 refine sv 6 (.string ⟨(ratL (b) : List UInt8).toArray⟩) ?_
 simp only [p3, p4]
 refine se ?_
 refine ec 7 (r2_compare (a) (b) ha hb (by omega) _) ?_
 rintro e4 w4 ⟨rfl, g4⟩
 refine ⟨_, rfl, ?_⟩
 replace hB := hB.trans g4
 simp only [p3, p4]
 refine sv 8 (.bool (decide ((0 : Int) ≤ rcmp (a) (b)))) ?_
 simp only [p3, p4]
 refine sq_nil ?_
 refine k3 _ _ ?_
 try clear k3 K3
 refine wp_cond_split (t := decide ((0 : Int) ≤ rcmp (a) (b))) rfl (fun hb5 => ?_) (fun hb5 => ?_)
 ·refine wp_seq_k (fun K6 k6 => ?_)
  refine rg [0, 1] ?_
  refine sv 9 (.string ⟨(ratL (a) : List UInt8).toArray⟩) ?_
  simp only [p3, p4]
  refine sv 4 (.string ⟨(ratL (a) : List UInt8).toArray⟩) ?_
  simp only [p3, p4]
  refine sq_nil ?_
  refine k6 _ _ ?_
  try clear k6 K6
  refine wp_ret ?_
  simp only [Exit.then]
  refine bodyPost_ret (v := (.string ⟨(ratL (a) : List UInt8).toArray⟩)) (ret_tmp rfl rfl) rfl ⟨?_, hB⟩
  exact (by rw [hb5]; rfl)
 ·refine wp_skip ?_
  refine k2 _ _ ?_
  try clear k2 K2
  refine wp_seq_k (fun K7 k7 => ?_)
  refine rg [0, 1] ?_
  refine sv 10 (.string ⟨(ratL (b) : List UInt8).toArray⟩) ?_
  simp only [p3, p4]
  refine sv 4 (.string ⟨(ratL (b) : List UInt8).toArray⟩) ?_
  simp only [p3, p4]
  refine sq_nil ?_
  refine k7 _ _ ?_
  try clear k7 K7
  refine wp_ret ?_
  refine bodyPost_ret (v := (.string ⟨(ratL (b) : List UInt8).toArray⟩)) (ret_tmp rfl rfl) rfl ⟨?_, hB⟩
  exact (by rw [hb5]; rfl)

set_option maxRecDepth 100000 in
set_option maxHeartbeats 1000000 in
theorem r2_abs {k : Nat} (a : Rat) (ha : Sz k a.num ∧ Sz k (a.den : Int)) (_hk : k ≤ 6000) (w : World) :
    Calls Tryz.prog 37 #[(.string ⟨(ratL (a) : List UInt8).toArray⟩)] w fun e w' => e = .returned (.string ⟨((if decide (sgn (a).num < (0 : Int)) then ratL (-a) else ratL a)).toArray⟩) ∧ Gr w w' := by
 go_enter Tryz.func37, Tryz.ntmps37
 have hB := Gr.refl w
 refine wp_seq_k (fun K1 k1 => ?_)
 refine rg [0] ?_
 refine sv 2 (.string ⟨([] : List UInt8).toArray⟩) ?_
 simp only [p3, p4]
 refine sq_nil ?_
 refine k1 _ _ ?_
 try clear k1 K1
 refine wp_seq_k (fun K2 k2 => ?_)
 refine wp_seq_k (fun K3 k3 => ?_)
 refine rg [0, 1, 2] ?_
 refine sv 3 (.string ⟨(ratL (a) : List UInt8).toArray⟩) ?_
 simp only [p3, p4]
 refine se ?_
 refine ec 4 (r2_sign (a) ha (by omega) _) ?_
 rintro e4 w4 ⟨rfl, g4⟩
 refine ⟨_, rfl, ?_⟩
 replace hB := hB.trans g4
 simp only [p3, p4]
 refine sv 5 (.bool (decide (sgn (a).num < (0 : Int)))) ?_
 simp only [p3, p4]
 refine sq_nil ?_
 refine k3 _ _ ?_
 try clear k3 K3
 refine wp_cond_split (t := decide (sgn (a).num < (0 : Int))) rfl (fun hb5 => ?_) (fun hb5 => ?_)
 ·refine wp_seq_k (fun K6 k6 => ?_)
  refine rg [0, 1, 2] ?_
  refine sv 6 (.string ⟨(ratL (a) : List UInt8).toArray⟩) ?_
  simp only [p3, p4]
  refine se ?_
  refine ec 7 (r2_neg (a) ha (by omega) _) ?_
  rintro e7 w7 ⟨rfl, g7⟩
  refine ⟨_, rfl, ?_⟩
  replace hB := hB.trans g7
  simp only [p3, p4]
  refine sv 2 (.string ⟨(ratL (-a) : List UInt8).toArray⟩) ?_
  simp only [p3, p4]
  refine sq_nil ?_
  refine k6 _ _ ?_
  try clear k6 K6
  refine wp_ret ?_
  simp only [Exit.then]
  refine bodyPost_ret (v := (.string ⟨(ratL (-a) : List UInt8).toArray⟩)) (ret_tmp rfl rfl) rfl ⟨?_, hB⟩
  exact (by rw [hb5]; rfl)
 ·refine wp_skip ?_
  refine k2 _ _ ?_
  try clear k2 K2
  refine wp_seq_k (fun K8 k8 => ?_)
  refine rg [0, 1] ?_
  refine sv 8 (.string ⟨(ratL (a) : List UInt8).toArray⟩) ?_
  simp only [p3, p4]
  refine sv 2 (.string ⟨(ratL (a) : List UInt8).toArray⟩) ?_
  simp only [p3, p4]
  refine sq_nil ?_
  refine k8 _ _ ?_
  try clear k8 K8
  refine wp_ret ?_
  refine bodyPost_ret (v := (.string ⟨(ratL (a) : List UInt8).toArray⟩)) (ret_tmp rfl rfl) rfl ⟨?_, hB⟩
  exact (by rw [hb5]; rfl)

set_option maxRecDepth 100000 in
set_option maxHeartbeats 1000000 in
theorem r2_floor {k : Nat} (a : Rat) (ha : Sz k a.num ∧ Sz k (a.den : Int)) (_hk : k ≤ 6000) (w : World) :
    Calls Tryz.prog 42 #[(.string ⟨(ratL (a) : List UInt8).toArray⟩)] w fun e w' => e = .returned (.string ⟨(Lib.itoa (a.num / (a.den : Int))).toArray⟩) ∧ Gr w w' := by
 go_enter Tryz.func42, Tryz.ntmps42
 have hB := Gr.refl w
 refine wp_seq_k (fun K1 k1 => ?_)
 refine rg [0] ?_
 refine sv 2 (.string ⟨([] : List UInt8).toArray⟩) ?_
 simp only [p3, p4]
 refine sq_nil ?_
 refine k1 _ _ ?_
 try clear k1 K1
 refine wp_seq_k (fun K2 k2 => ?_)
 refine rg [0, 1, 2, 3, 4, 5, 6] ?_
 refine sv 8 (.string ⟨(ratL (a) : List UInt8).toArray⟩) ?_
 simp only [p3, p4]
 refine se ?_
 refine ec 9 (r2_parts_q (a) ha.1 ha.2 (by omega) _) ?_
 rintro e3 w3 ⟨rfl, g3⟩
 refine ⟨_, rfl, ?_⟩
 replace hB := hB.trans g3
 simp only [p3, p4]
 refine sv 7 (.tuple #[(.string ⟨(Lib.itoa (a.num) : List UInt8).toArray⟩), (.string ⟨(Lib.itoa ((a.den : Int)) : List UInt8).toArray⟩)]) ?_
 simp only [p3, p4]
 refine sv 10 (.string ⟨(Lib.itoa (a.num) : List UInt8).toArray⟩) ?_
 simp only [p3, p4]
 refine sv 11 (.string ⟨(Lib.itoa ((a.den : Int)) : List UInt8).toArray⟩) ?_
 simp only [p3, p4]
 refine sv 3 (.string ⟨(Lib.itoa (a.num) : List UInt8).toArray⟩) ?_
 simp only [p3, p4]
 refine sv 4 (.string ⟨(Lib.itoa ((a.den : Int)) : List UInt8).toArray⟩) ?_
 simp only [p3, p4]
 refine sq_nil ?_
 refine k2 _ _ ?_
 try clear k2 K2
 refine wp_seq_k (fun K4 k4 => ?_)
 refine rg [0, 1, 2, 3, 4, 5, 6, 7] ?_
 refine sv 13 (.string ⟨(Lib.itoa (a.num) : List UInt8).toArray⟩) ?_
 simp only [p3, p4]
 refine sv 14 (.string ⟨(Lib.itoa ((a.den : Int)) : List UInt8).toArray⟩) ?_
 simp only [p3, p4]
 refine se ?_
 refine ec 15 (r1_divmod (a.num) ((a.den : Int)) ha.1 ha.2 (den_pos_i _) (by omega) _) ?_
 rintro e5 w5 ⟨rfl, g5⟩
 refine ⟨_, rfl, ?_⟩
 replace hB := hB.trans g5
 simp only [p3, p4]
 refine sv 12 (.tuple #[(.string ⟨(Lib.itoa (a.num / (a.den : Int)) : List UInt8).toArray⟩), (.string ⟨(Lib.itoa (a.num % (a.den : Int)) : List UInt8).toArray⟩)]) ?_
 simp only [p3, p4]
 refine sv 16 (.string ⟨(Lib.itoa (a.num / (a.den : Int)) : List UInt8).toArray⟩) ?_
 simp only [p3, p4]
 refine sv 17 (.string ⟨(Lib.itoa (a.num % (a.den : Int)) : List UInt8).toArray⟩) ?_
 simp only [p3, p4]
 refine sv 5 (.string ⟨(Lib.itoa (a.num / (a.den : Int)) : List UInt8).toArray⟩) ?_
 simp only [p3, p4]
 refine sv 6 (.string ⟨(Lib.itoa (a.num % (a.den : Int)) : List UInt8).toArray⟩) ?_
 simp only [p3, p4]
 refine sq_nil ?_
 refine k4 _ _ ?_
 try clear k4 K4
 refine wp_seq_k (fun K6 k6 => ?_)
 refine rg [0, 1] ?_
 refine sv 18 (.string ⟨(Lib.itoa (a.num / (a.den : Int)) : List UInt8).toArray⟩) ?_
 simp only [p3, p4]
 refine sv 2 (.string ⟨(Lib.itoa (a.num / (a.den : Int)) : List UInt8).toArray⟩) ?_
 simp only [p3, p4]
 refine sq_nil ?_
 refine k6 _ _ ?_
 try clear k6 K6
 refine wp_ret ?_
 refine bodyPost_ret (v := (.string ⟨(Lib.itoa (a.num / (a.den : Int)) : List UInt8).toArray⟩)) (ret_tmp rfl rfl) rfl ⟨?_, hB⟩
 exact rfl

end Go.Proofs.YtloocadjbpgldaaGreatDoor
/- What the walk through integer.Parse meets: the library's functions, texts of digits. -/
namespace Go.Proofs.YtloocadjbpgldaaGreatDoor
open Go.RowKit

theorem valL_from (l : List UInt8) : ∀ acc : Nat, l.foldl (fun a c => a * 10 + (c.toNat - 48)) acc = acc * 10 ^ l.length + valL l := by
  induction l with
  | nil => intro acc; simp [valL]
  | cons c l ih =>
    intro acc
    have hv : valL (c :: l) = (c.toNat - 48) * 10 ^ l.length + valL l := by
      show l.foldl _ (0 * 10 + (c.toNat - 48)) = _
      rw [ih]; simp
    rw [List.foldl_cons, ih, hv, List.length_cons, Nat.pow_succ, Nat.add_mul]
    have : acc * 10 * 10 ^ l.length = acc * (10 ^ l.length * 10) := by grind
    omega
theorem valL_append (a b : List UInt8) : valL (a ++ b) = valL a * 10 ^ b.length + valL b := by
  show (a ++ b).foldl _ 0 = _
  rw [List.foldl_append, valL_from]; rfl
theorem valL_lt (l : List UInt8) (h : ∀ c ∈ l, 48 ≤ c.toNat ∧ c.toNat ≤ 57) : valL l < 10 ^ l.length := by
  induction l with
  | nil => simp [valL]
  | cons c l ih =>
    have h1 := valL_append [c] l
    have h2 := ih (fun x hx => h x (by simp [hx]))
    have h3 := h c (by simp)
    have h4 : valL [c] ≤ 9 := by simp [valL]; omega
    rw [List.singleton_append] at h1
    rw [h1, List.length_cons, Nat.pow_succ]
    have := Nat.mul_le_mul_right (10 ^ l.length) h4
    omega
theorem parseM : ∀ (l : List UInt8) (acc : Nat), (∀ c ∈ l, 48 ≤ c.toNat ∧ c.toNat ≤ 57) → acc * 10 ^ l.length + 10 ^ l.length ≤ 1000000000 → Lib.parseUintM (2 ^ 32 - 1) acc l = .ok (acc * 10 ^ l.length + valL l)
  | [], acc, _, _ => by simp [Lib.parseUintM, valL]
  | c :: l, acc, h, hb => by
    have hc := h c (by simp)
    have hp : 0 < 10 ^ l.length := Nat.pow_pos (by omega)
    rw [List.length_cons, Nat.pow_succ] at hb
    have h1 : (acc + 1) * (10 ^ l.length * 10) ≤ 1000000000 := by rw [Nat.add_mul]; omega
    have h2 : (acc + 1) * 10 ≤ 1000000000 := by
      have : (acc + 1) * 10 ≤ (acc + 1) * (10 ^ l.length * 10) := Nat.mul_le_mul_left _ (by omega)
      omega
    have e : acc * (10 ^ l.length * 10) = acc * 10 * 10 ^ l.length := by grind
    have h3 : (c.toNat - 48) * 10 ^ l.length ≤ 9 * 10 ^ l.length := Nat.mul_le_mul_right _ (by omega)
    have ih := parseM l (acc * 10 + (c.toNat - 48)) (fun x hx => h x (by simp [hx])) (by rw [Nat.add_mul]; omega)
    unfold Lib.parseUintM
    rw [if_pos hc, if_neg (by omega), if_neg (by omega), ih]
    have h5 := valL_append [c] l
    rw [List.singleton_append] at h5
    have h6 : valL [c] = c.toNat - 48 := by simp [valL]
    rw [h5, h6, List.length_cons, Nat.pow_succ, Nat.add_mul, e]
    congr 1
    omega
theorem parse32 {l : List UInt8} (h : ∀ c ∈ l, 48 ≤ c.toNat ∧ c.toNat ≤ 57) (h0 : l ≠ []) (h9 : l.length ≤ 9) : Lib.parseUintB 32 l = .ok (valL l) := by
  unfold Lib.parseUintB
  rw [if_neg h0, parseM l 0 h (by
    have : 10 ^ l.length ≤ 10 ^ 9 := Nat.pow_le_pow_right (by omega) h9
    omega)]
  simp
theorem parse_uint (R : ByteArray) (h : ∀ c ∈ R.data.toList, 48 ≤ c.toNat ∧ c.toNat ≤ 57) (h0 : 0 < R.size) (h9 : R.size ≤ 9) (w : World) :
    Calls Tryz.prog 76 #[.string R, .int .i64 10, .int .i64 32] w fun e w' => e = .returned (.tuple #[.int .u64 (valL R.data.toList : Int), .nilIface]) ∧ Gr w w' := by
  have hl : R.data.toList.length = R.size := by simp
  refine (Tryz.strconv_ParseUint_10_at32_ok R (by omega) (valL R.data.toList) (parse32 h (fun e => by rw [e] at hl; simp at hl; omega) (by omega)) w).mono ?_
  rintro e w1 ⟨he, hw⟩
  refine ⟨he, ?_⟩
  rcases hw with rfl | rfl
  · exact Gr.refl _
  · exact Go.Joins.below_bytesWorld _ _ _ _ (Nat.le_refl _)
/-- the closure: is it no digit? -/
theorem nodigit (x : Nat) (w : World) : Calls Tryz.prog 75 #[.int .i32 (x : Int)] w fun e w' => e = .returned (.bool (decide (x < 48) || decide (57 < x))) ∧ ∃ q, w' = w.drewN q := by
  by_cases h1 : (x : Int) < 48
  · have e1 : decide (x < 48) = true := by simp; omega
    have E := Lib.hid e1
    clear e1
    go_enter Tryz.func75, Tryz.ntmps75
    go_wp2
    go_ret
    exact ⟨by rw [E.out]; rfl, 0, rfl⟩
  · have e1 : decide (x < 48) = false := by simp; omega
    by_cases h2 : 57 < (x : Int)
    · have e2 : (decide (x < 48) || decide (57 < x)) = true := by simp; omega
      have E := Lib.hid e2
      clear e1 e2
      go_enter Tryz.func75, Tryz.ntmps75
      go_wp2
      go_ret
      exact ⟨by rw [E.out]; rfl, 0, rfl⟩
    · have e2 : (decide (x < 48) || decide (57 < x)) = false := by simp; omega
      have E := Lib.hid e2
      clear e1 e2
      go_enter Tryz.func75, Tryz.ntmps75
      go_wp2
      go_ret
      exact ⟨by rw [E.out]; rfl, 0, rfl⟩
theorem idx_none {D : ByteArray} (h : ∀ c ∈ D.data.toList, 48 ≤ c.toNat ∧ c.toNat ≤ 57) : ∀ (f pos : Nat), Lib.idxFuncFrom (fun x => decide (x < 48) || decide (57 < x)) true D f pos = -1
  | 0, _ => rfl
  | f + 1, pos => by
    unfold Lib.idxFuncFrom
    by_cases hp : pos < D.size
    · have hc := h D[pos] (List.mem_of_getElem? (toList_get hp))
      rw [if_pos hp, decode_ascii D pos hp (by omega), if_neg (by simp; omega)]
      exact idx_none h f _
    · rw [if_neg hp]
theorem contains_no (D : ByteArray) (h : ∀ c ∈ D.data.toList, 48 ≤ c.toNat ∧ c.toNat ≤ 57) (w : World) :
    Calls Tryz.prog 74 #[.string D, .func (.func 75) #[] #[]] w fun e w' => e = .returned (.bool false) ∧ Gr w w' := by
  refine (Tryz.strings_ContainsFunc 75 #[] (enters_of Tryz.func75 (by kernel_rfl) rfl) (fun x => decide (x < 48) || decide (57 < x)) D w (fun W x _ => nodigit x W)).mono ?_
  rintro e w1 ⟨he, hb⟩
  refine ⟨?_, hb⟩
  rw [he]
  unfold Lib.idxFunc
  rw [idx_none h]
  rfl
end Go.Proofs.YtloocadjbpgldaaGreatDoor
/- The walk through integer.Parse. -/
namespace Go.Proofs.YtloocadjbpgldaaGreatDoor
open Go.RowKit

theorem cut_minus (z : Int) (w : World) : Calls Tryz.prog 73 #[.string ⟨(Lib.itoa z).toArray⟩, .string ⟨#[45]⟩] w fun e w' =>
    e = .returned (.tuple #[.string ⟨(Lib.decDigits z.natAbs).toArray⟩, .bool (decide (z < 0))]) ∧ w = w' := by
  refine (Tryz.strings_CutPrefix _ _ _).mono ?_
  rintro e w1 ⟨he, rfl⟩
  refine ⟨?_, rfl⟩
  rw [he]
  show Ending.returned (.tuple #[.string ⟨(Lib.trimPrefix (Lib.itoa z) [45]).toArray⟩, .bool (Lib.hasPrefix (Lib.itoa z) [45])]) = _
  by_cases h : z < 0
  · have h1 : Lib.hasPrefix (Lib.itoa z) [45] = true := by rw [itoa_neg h]; simp [Lib.hasPrefix]
    rw [Lib.trimPrefix, h1, if_pos rfl, itoa_neg h, decide_eq_true h]; rfl
  · have h1 : Lib.hasPrefix (Lib.itoa z) [45] = false := by
      rw [itoa_nonneg (by omega)]
      rcases hd : Lib.decDigits z.natAbs with _ | ⟨c, l⟩
      · rfl
      · have hc := dec_all z.natAbs c (by rw [hd]; simp)
        have hne : ¬ (45 : UInt8) = c := fun e => by rw [← e] at hc; simp at hc
        simp [Lib.hasPrefix, List.isPrefixOf, hne]
    rw [Lib.trimPrefix, h1, if_neg (by decide), itoa_nonneg (by omega), decide_eq_false h]
def strSize (v : Value) : Nat := match v with | .string s => s.size | _ => 0
theorem extract_take (R : ByteArray) (q : Nat) : (R.extract 0 q).data.toList = R.data.toList.take q := by rw [Lib.extract_data]; simp
theorem extract_drop (R : ByteArray) (q : Nat) : (R.extract q R.size).data.toList = R.data.toList.drop q := by
  rw [Lib.extract_data, List.take_of_length_le]; simp
set_option maxRecDepth 100000 in
set_option maxHeartbeats 4000000 in
theorem parse_i {k : Nat} (z : Int) (hz : Sz k z) (hk : k ≤ 60000) (w : World) :
    Calls Tryz.prog 17 #[.string ⟨(Lib.itoa z).toArray⟩] w fun e w' => (∃ x y, e = .returned (.tuple #[.agg #[x, y], .int .i64 0]) ∧ IsInt w' k x y z) ∧ Gr w w' := by
  obtain ⟨n, hn⟩ : ∃ n, n = z.natAbs := ⟨_, rfl⟩
  have hnk : n < 2 ^ k := by rw [hn]; exact hz
  have hlen := dec_len_bits k n hnk
  have hit : (Lib.itoa z).length ≤ k + 2 := by
    by_cases h : z < 0
    · rw [itoa_neg h, ← hn]; simp; omega
    · rw [itoa_nonneg (by omega), ← hn]; omega
  obtain ⟨s, hs⟩ : ∃ s : ByteArray, s = ⟨(Lib.itoa z).toArray⟩ := ⟨_, rfl⟩
  have hss : s.size ≤ 65536 := by rw [hs]; show (Lib.itoa z).toArray.size ≤ _; simp; omega
  obtain ⟨D, hD⟩ : ∃ D : ByteArray, D = ⟨(Lib.decDigits n).toArray⟩ := ⟨_, rfl⟩
  have HD : Hid (D.data.toList = Lib.decDigits n) := by rw [Hid, hD]
  have hDs : D.size = (Lib.decDigits n).length := by rw [hD]; show (Lib.decDigits n).toArray.size = _; simp
  have hD0 : 0 < D.size := by rw [hDs]; exact dec_pos n
  have hD1 : D.size ≤ 60001 := by omega
  have hc := cut_minus z (w.alloc (.cells #[.bool false, .slice none 0 0] 27))
  rw [← hn, ← hD, ← hs] at hc
  have hda : ∀ c ∈ D.data.toList, 48 ≤ c.toNat ∧ c.toNat ≤ 57 := by rw [HD.out]; exact dec_all n
  have hcn := contains_no D hda
  have hne : (D.toList == []) = false := by
    rw [beq_eq_false_iff_ne, ByteArray.toList_eq, HD.out]; exact dec_ne' n
  have hz0 : (D[0].toNat : Int) = 48 → D.size = 1 ∧ n = 0 := by
    intro h
    rcases Nat.eq_zero_or_pos n with e | e
    · rw [hDs, e]; exact ⟨by rw [dec_zero]; rfl, rfl⟩
    · obtain ⟨c, hc1, hc2, _⟩ := dec_head e
      have := getElem_toList HD.out hD0 hc1
      rw [this] at h
      omega
  have HN := Lib.hid hn
  have HZ0 := Lib.hid hz0
  have HDa := Lib.hid hda
  have HDs := Lib.hid hDs
  have HS := Lib.hid hs
  rw [← hs]
  clear hn hz0 hda hDs hD hit hs
  go_enter Tryz.func17, Tryz.ntmps17
  go_wp2_with fail
  (with_reducible refine hc.mono ?_)
  rintro e w1 ⟨rfl, rfl⟩
  clear hc
  go_wp2_with fail
  (with_reducible refine (hcn _).mono ?_)
  rintro e w2 ⟨rfl, g2⟩
  clear hcn
  by_cases h48 : (D[0].toNat : Int) = 48
  · have hzz := HZ0.out h48
    have hz1 : ¬ (1 : Int) < (D.size : Int) := by omega
    have hz2 : ¬ z < 0 := by have := HN.out; omega
    have h48' : ((D[0].toNat : Int) == 48) = true := by simpa using h48
    clear h48 hzz
    go_wp2
    go_loopw [4, 6] (fun r m wr => ∃ (R : ByteArray) (V : Nat) (mo : Option Addr) (ml mc : Nat), r = .string R ∧ m = .slice mo ml mc ∧ ml ≤ k ∧ R.size ≤ 60001 ∧ Hid (Mag wr mo ml mc (V : Int) ∧ (∀ c ∈ R.data.toList, 48 ≤ c.toNat ∧ c.toNat ≤ 57) ∧ V * 10 ^ R.size + valL R.data.toList = n) ∧ Gr (w.alloc (.cells #[.bool false, .slice none 0 0] 27)) wr) (fun r _ _ => strSize r)
    case atStart => exact ⟨D, 0, none, 0, 0, rfl, rfl, by omega, hD1, ⟨⟨Nat.le_refl _, NL.zero, Row.nil _ _ _⟩, HDa.out, by rw [HD.out, valL_dec]; simp⟩, g2⟩
    case round =>
      obtain ⟨R, V, mo, ml, mc, rfl, rfl, hml, hR1, hh, hG⟩ := hrel
      by_cases hp : 0 < R.size
      · obtain ⟨q, hq⟩ : ∃ q : Nat, q = (R.size - 1) % 9 + 1 := ⟨_, rfl⟩
        have hq9 : q ≤ 9 := by omega
        have hq0 : 0 < q := by omega
        have hqR : q ≤ R.size := by omega
        have hqe : ((R.size : Int) - 1) % 9 + 1 = (q : Int) := by omega
        have HQ := Lib.hid hq
        clear hq
        go_wp2
        obtain ⟨wo, hwo⟩ : ∃ wo : World, wo = wr := ⟨_, rfl⟩
        subst hwo
        go_loopw [8, 48] (fun b i wq => ∃ (j : Nat) (x : Int), b = .int .u32 x ∧ i = .int .i64 j ∧ j ≤ q ∧ 1 ≤ x ∧ x ≤ 1000000000 ∧ Hid (x = 10 ^ j) ∧ wq = wo) (fun _ i _ => q - (intOf i).toNat)
        case atStart => exact ⟨0, 1, rfl, rfl, by omega, by omega, by omega, rfl, rfl⟩
        case round =>
          obtain ⟨j, x, rfl, rfl, hj, hx0, hx1, hx, rfl⟩ := hrel
          by_cases hlt : j < q
          · have hx8 : x ≤ 100000000 := by
              rw [hx.out]
              have h8 : (10 : Nat) ^ j ≤ 100000000 := Nat.le_trans (Nat.pow_le_pow_right (by omega) (show j ≤ 8 by omega)) (by decide)
              have h9 := Int.ofNat_le.2 h8
              rw [Int.natCast_pow] at h9
              exact h9
            go_wp2
            go_roundw
            case rel => exact ⟨j + 1, x * 10, rfl, by go_num, by omega, by omega, by omega, by rw [Hid, hx.out, Int.pow_succ], by first | rfl | trivial⟩
            case measure => simp [intOf]; omega
          · obtain rfl : j = q := by omega
            obtain ⟨T, hT⟩ : ∃ T, R.extract 0 j = T := ⟨_, rfl⟩
            obtain ⟨U, hU⟩ : ∃ U, R.extract j R.size = U := ⟨_, rfl⟩
            have hTl : T.data.toList = R.data.toList.take j := by rw [← hT, extract_take]
            have hUl : U.data.toList = R.data.toList.drop j := by rw [← hU, extract_drop]
            have hRl : R.data.toList.length = R.size := by simp
            have hTs : T.size = j := by
              have h1 := congrArg List.length hTl
              rw [List.length_take, hRl] at h1
              have h2 : T.data.toList.length = T.size := by simp
              omega
            have hUs : U.size = R.size - j := by
              have h1 := congrArg List.length hUl
              rw [List.length_drop, hRl] at h1
              have h2 : U.data.toList.length = U.size := by simp
              omega
            obtain ⟨hm, hda, hval⟩ := hh.out
            have hTd : ∀ c ∈ T.data.toList, 48 ≤ c.toNat ∧ c.toNat ≤ 57 := fun c hc => hda c (by rw [hTl] at hc; exact List.mem_of_mem_take hc)
            have hUd : ∀ c ∈ U.data.toList, 48 ≤ c.toNat ∧ c.toNat ≤ 57 := fun c hc => hda c (by rw [hUl] at hc; exact List.mem_of_mem_drop hc)
            obtain ⟨u, hu⟩ : ∃ u, u = valL T.data.toList := ⟨_, rfl⟩
            have hu1 : u < 1000000000 := by
              have h1 := valL_lt _ hTd
              have h2 : T.data.toList.length = T.size := by simp
              rw [h2, hTs] at h1
              have : (10 : Nat) ^ j ≤ 10 ^ 9 := Nat.pow_le_pow_right (by omega) hq9
              omega
            have hval2 : (V * 10 ^ j + u) * 10 ^ U.size + valL U.data.toList = n := by
              have h1 := valL_append (R.data.toList.take j) (R.data.toList.drop j)
              rw [List.take_append_drop, ← hTl, ← hUl] at h1
              have h2 : U.data.toList.length = U.size := by simp
              rw [h1, h2, ← hu, show R.size = j + U.size by omega, Nat.pow_add] at hval
              rw [← hval]; grind
            have hVk : V * 10 ^ j + u < 2 ^ k := by
              have h1 : V * 10 ^ j + u ≤ (V * 10 ^ j + u) * 10 ^ U.size := Nat.le_mul_of_pos_right _ (Nat.pow_pos (by omega))
              omega
            have hpu := parse_uint T hTd (by omega) (by omega)
            rw [← hu] at hpu
            have HV2 := Lib.hid hval2
            have HVk := Lib.hid hVk
            have HUd := Lib.hid hUd
            have HX := hx
            have hTs1 : T.size ≤ 9 := by omega
            have hUs1 : U.size < R.size := by omega
            have hUs2 : U.size ≤ 60001 := by omega
            clear hTl hUl hRl hTd hUd hda hval hval2 hVk hu hTs hUs hqe
            have hu2 : (u : Int) < 1000000000 := by omega
            go_wp2_with fail
            (with_reducible refine (hpu _).mono ?_)
            rintro e w5 ⟨rfl, g5⟩
            clear hpu
            go_wp2_with fail
            (with_reducible refine (scale_c mo ml mc (V : Int) x (u : Int) _ (by omega) (hm.kp g5.kp) (by omega) (by omega) (by omega) (by omega)).mono ?_)
            rintro e w6 ⟨⟨go, k6, c6, rfl, hm6, hk6⟩, g6⟩
            have hm7 : Mag w6 go k6 c6 ((V * 10 ^ j + u : Nat) : Int) := by
              rw [HX.out] at hm6
              have e : ((V * 10 ^ j + u : Nat) : Int) = (V : Int) * 10 ^ j + (u : Int) := by push_cast; rfl
              rw [e]; exact hm6
            have hk7 : k6 ≤ k := hm7.nl.len_sz (show Sz k _ by unfold Sz; rw [Int.natAbs_natCast]; exact HVk.out)
            clear hm6
            go_wp2
            go_roundw
            case rel => exact ⟨U, V * 10 ^ j + u, go, k6, c6, rfl, rfl, hk7, hUs2, ⟨hm7, HUd.out, HV2.out⟩, (hG.trans g5).trans g6⟩
            case measure => simp [strSize]; omega
      · have hR0 : R.size = 0 := by omega
        obtain ⟨hm, hda, hval⟩ := hh.out
        have hVn : V = n := by
          have h2 : R.data.toList.length = R.size := by simp
          have h1 : R.data.toList = [] := List.length_eq_zero_iff.1 (by rw [h2]; exact hR0)
          rw [h1, hR0] at hval
          simpa [valL] using hval
        rw [hVn] at hm
        have HR0 := Lib.hid hR0
        clear hR0 hda hval hh hVn
        have p2 := Gr.heap hG (heap_alloc_new w (.cells #[.bool false, .slice none 0 0] 27))
        go_wp2_with fail
        (with_reducible refine (signed_c (decide (z < 0)) mo ml mc (n : Int) _ (by omega) hm.cap hm.nl.nonneg hm.nl.top hm.row).mono ?_)
        rintro e w5 ⟨⟨k5, rfl, hm5, hk5⟩, g5⟩
        have p3 := Gr.heap g5 p2
        have d0 := cells_of p3 0
        have d1 := cells_of p3 1
        have d2 := free_of p3
        have gw3 : Gr w w5 := (Gr.alloc w _).trans (hG.trans g5)
        have hint := IsInt.mk' (z := z) (s := decide (z < 0)) (k := k) (hm5.gr g5) (by rw [HN.out]) (fun _ => rfl) hz
        obtain ⟨bb, hbb⟩ : ∃ bb, bb = (decide (z < 0) && decide (0 < k5)) := ⟨_, rfl⟩
        rw [← hbb] at hint ⊢
        clear hbb hm hm5 p2
        go_wp2
        have p4 := heap_setCell_at (i := 1) (.slice mo k5 mc) (heap_setCell_at (i := 0) (.bool bb) p3)
        have hst := (St.setCell w5 w.heap.size 0 (.bool bb)).trans (St.setCell _ w.heap.size 1 (.slice mo k5 mc))
        exact bodyPost_ret (v := .tuple #[.agg #[.bool bb, .slice mo k5 mc], .int .i64 0]) (ret_cell_tmp' _ _ _ rfl rfl p4 (by kernel_rfl) rfl) rfl ⟨⟨_, _, rfl, hint.kp (hst.kp p3 (by decide))⟩, hst.gr gw3 (Nat.le_refl _)⟩
  · have h48' : ((D[0].toNat : Int) == 48) = false := by simpa using h48
    clear h48
    go_wp2
    go_loopw [4, 6] (fun r m wr => ∃ (R : ByteArray) (V : Nat) (mo : Option Addr) (ml mc : Nat), r = .string R ∧ m = .slice mo ml mc ∧ ml ≤ k ∧ R.size ≤ 60001 ∧ Hid (Mag wr mo ml mc (V : Int) ∧ (∀ c ∈ R.data.toList, 48 ≤ c.toNat ∧ c.toNat ≤ 57) ∧ V * 10 ^ R.size + valL R.data.toList = n) ∧ Gr (w.alloc (.cells #[.bool false, .slice none 0 0] 27)) wr) (fun r _ _ => strSize r)
    case atStart => exact ⟨D, 0, none, 0, 0, rfl, rfl, by omega, hD1, ⟨⟨Nat.le_refl _, NL.zero, Row.nil _ _ _⟩, HDa.out, by rw [HD.out, valL_dec]; simp⟩, g2⟩
    case round =>
      obtain ⟨R, V, mo, ml, mc, rfl, rfl, hml, hR1, hh, hG⟩ := hrel
      by_cases hp : 0 < R.size
      · obtain ⟨q, hq⟩ : ∃ q : Nat, q = (R.size - 1) % 9 + 1 := ⟨_, rfl⟩
        have hq9 : q ≤ 9 := by omega
        have hq0 : 0 < q := by omega
        have hqR : q ≤ R.size := by omega
        have hqe : ((R.size : Int) - 1) % 9 + 1 = (q : Int) := by omega
        have HQ := Lib.hid hq
        clear hq
        go_wp2
        obtain ⟨wo, hwo⟩ : ∃ wo : World, wo = wr := ⟨_, rfl⟩
        subst hwo
        go_loopw [8, 48] (fun b i wq => ∃ (j : Nat) (x : Int), b = .int .u32 x ∧ i = .int .i64 j ∧ j ≤ q ∧ 1 ≤ x ∧ x ≤ 1000000000 ∧ Hid (x = 10 ^ j) ∧ wq = wo) (fun _ i _ => q - (intOf i).toNat)
        case atStart => exact ⟨0, 1, rfl, rfl, by omega, by omega, by omega, rfl, rfl⟩
        case round =>
          obtain ⟨j, x, rfl, rfl, hj, hx0, hx1, hx, rfl⟩ := hrel
          by_cases hlt : j < q
          · have hx8 : x ≤ 100000000 := by
              rw [hx.out]
              have h8 : (10 : Nat) ^ j ≤ 100000000 := Nat.le_trans (Nat.pow_le_pow_right (by omega) (show j ≤ 8 by omega)) (by decide)
              have h9 := Int.ofNat_le.2 h8
              rw [Int.natCast_pow] at h9
              exact h9
            go_wp2
            go_roundw
            case rel => exact ⟨j + 1, x * 10, rfl, by go_num, by omega, by omega, by omega, by rw [Hid, hx.out, Int.pow_succ], by first | rfl | trivial⟩
            case measure => simp [intOf]; omega
          · obtain rfl : j = q := by omega
            obtain ⟨T, hT⟩ : ∃ T, R.extract 0 j = T := ⟨_, rfl⟩
            obtain ⟨U, hU⟩ : ∃ U, R.extract j R.size = U := ⟨_, rfl⟩
            have hTl : T.data.toList = R.data.toList.take j := by rw [← hT, extract_take]
            have hUl : U.data.toList = R.data.toList.drop j := by rw [← hU, extract_drop]
            have hRl : R.data.toList.length = R.size := by simp
            have hTs : T.size = j := by
              have h1 := congrArg List.length hTl
              rw [List.length_take, hRl] at h1
              have h2 : T.data.toList.length = T.size := by simp
              omega
            have hUs : U.size = R.size - j := by
              have h1 := congrArg List.length hUl
              rw [List.length_drop, hRl] at h1
              have h2 : U.data.toList.length = U.size := by simp
              omega
            obtain ⟨hm, hda, hval⟩ := hh.out
            have hTd : ∀ c ∈ T.data.toList, 48 ≤ c.toNat ∧ c.toNat ≤ 57 := fun c hc => hda c (by rw [hTl] at hc; exact List.mem_of_mem_take hc)
            have hUd : ∀ c ∈ U.data.toList, 48 ≤ c.toNat ∧ c.toNat ≤ 57 := fun c hc => hda c (by rw [hUl] at hc; exact List.mem_of_mem_drop hc)
            obtain ⟨u, hu⟩ : ∃ u, u = valL T.data.toList := ⟨_, rfl⟩
            have hu1 : u < 1000000000 := by
              have h1 := valL_lt _ hTd
              have h2 : T.data.toList.length = T.size := by simp
              rw [h2, hTs] at h1
              have : (10 : Nat) ^ j ≤ 10 ^ 9 := Nat.pow_le_pow_right (by omega) hq9
              omega
            have hval2 : (V * 10 ^ j + u) * 10 ^ U.size + valL U.data.toList = n := by
              have h1 := valL_append (R.data.toList.take j) (R.data.toList.drop j)
              rw [List.take_append_drop, ← hTl, ← hUl] at h1
              have h2 : U.data.toList.length = U.size := by simp
              rw [h1, h2, ← hu, show R.size = j + U.size by omega, Nat.pow_add] at hval
              rw [← hval]; grind
            have hVk : V * 10 ^ j + u < 2 ^ k := by
              have h1 : V * 10 ^ j + u ≤ (V * 10 ^ j + u) * 10 ^ U.size := Nat.le_mul_of_pos_right _ (Nat.pow_pos (by omega))
              omega
            have hpu := parse_uint T hTd (by omega) (by omega)
            rw [← hu] at hpu
            have HV2 := Lib.hid hval2
            have HVk := Lib.hid hVk
            have HUd := Lib.hid hUd
            have HX := hx
            have hTs1 : T.size ≤ 9 := by omega
            have hUs1 : U.size < R.size := by omega
            have hUs2 : U.size ≤ 60001 := by omega
            clear hTl hUl hRl hTd hUd hda hval hval2 hVk hu hTs hUs hqe
            have hu2 : (u : Int) < 1000000000 := by omega
            go_wp2_with fail
            (with_reducible refine (hpu _).mono ?_)
            rintro e w5 ⟨rfl, g5⟩
            clear hpu
            go_wp2_with fail
            (with_reducible refine (scale_c mo ml mc (V : Int) x (u : Int) _ (by omega) (hm.kp g5.kp) (by omega) (by omega) (by omega) (by omega)).mono ?_)
            rintro e w6 ⟨⟨go, k6, c6, rfl, hm6, hk6⟩, g6⟩
            have hm7 : Mag w6 go k6 c6 ((V * 10 ^ j + u : Nat) : Int) := by
              rw [HX.out] at hm6
              have e : ((V * 10 ^ j + u : Nat) : Int) = (V : Int) * 10 ^ j + (u : Int) := by push_cast; rfl
              rw [e]; exact hm6
            have hk7 : k6 ≤ k := hm7.nl.len_sz (show Sz k _ by unfold Sz; rw [Int.natAbs_natCast]; exact HVk.out)
            clear hm6
            go_wp2
            go_roundw
            case rel => exact ⟨U, V * 10 ^ j + u, go, k6, c6, rfl, rfl, hk7, hUs2, ⟨hm7, HUd.out, HV2.out⟩, (hG.trans g5).trans g6⟩
            case measure => simp [strSize]; omega
      · have hR0 : R.size = 0 := by omega
        obtain ⟨hm, hda, hval⟩ := hh.out
        have hVn : V = n := by
          have h2 : R.data.toList.length = R.size := by simp
          have h1 : R.data.toList = [] := List.length_eq_zero_iff.1 (by rw [h2]; exact hR0)
          rw [h1, hR0] at hval
          simpa [valL] using hval
        rw [hVn] at hm
        have HR0 := Lib.hid hR0
        clear hR0 hda hval hh hVn
        have p2 := Gr.heap hG (heap_alloc_new w (.cells #[.bool false, .slice none 0 0] 27))
        go_wp2_with fail
        (with_reducible refine (signed_c (decide (z < 0)) mo ml mc (n : Int) _ (by omega) hm.cap hm.nl.nonneg hm.nl.top hm.row).mono ?_)
        rintro e w5 ⟨⟨k5, rfl, hm5, hk5⟩, g5⟩
        have p3 := Gr.heap g5 p2
        have d0 := cells_of p3 0
        have d1 := cells_of p3 1
        have d2 := free_of p3
        have gw3 : Gr w w5 := (Gr.alloc w _).trans (hG.trans g5)
        have hint := IsInt.mk' (z := z) (s := decide (z < 0)) (k := k) (hm5.gr g5) (by rw [HN.out]) (fun _ => rfl) hz
        obtain ⟨bb, hbb⟩ : ∃ bb, bb = (decide (z < 0) && decide (0 < k5)) := ⟨_, rfl⟩
        rw [← hbb] at hint ⊢
        clear hbb hm hm5 p2
        go_wp2
        have p4 := heap_setCell_at (i := 1) (.slice mo k5 mc) (heap_setCell_at (i := 0) (.bool bb) p3)
        have hst := (St.setCell w5 w.heap.size 0 (.bool bb)).trans (St.setCell _ w.heap.size 1 (.slice mo k5 mc))
        exact bodyPost_ret (v := .tuple #[.agg #[.bool bb, .slice mo k5 mc], .int .i64 0]) (ret_cell_tmp' _ _ _ rfl rfl p4 (by kernel_rfl) rfl) rfl ⟨⟨_, _, rfl, hint.kp (hst.kp p3 (by decide))⟩, hst.gr gw3 (Nat.le_refl _)⟩
end Go.Proofs.YtloocadjbpgldaaGreatDoor
/- What the walk through rational.read meets. -/
namespace Go.Proofs.YtloocadjbpgldaaGreatDoor
open Go.RowKit

theorem idx_slash : ∀ (l : List UInt8), Lib.index l [47] = (match (cutL l).2 with | none => -1 | some _ => ((cutL l).1.length : Int))
  | [] => rfl
  | c :: l => by
    have ih := idx_slash l
    unfold Lib.index
    by_cases h : c = 47
    · subst h
      have e : cutL (47 :: l) = ([], some l) := by simp [cutL]
      rw [e]
      simp [List.isPrefixOf]
    · have e : cutL (c :: l) = (c :: (cutL l).1, (cutL l).2) := by
        conv => lhs; unfold cutL
        rw [if_neg h]
      have h2 : ¬ (47 : UInt8) = c := fun x => h x.symm
      have h3 : [47].isPrefixOf (c :: l) = false := by simp [List.isPrefixOf, h2]
      rw [e, h3, ih]
      cases hd : (cutL l).2 with
      | none => simp
      | some d =>
        have : ¬ (((cutL l).1.length : Int) == -1) = true := by simp
        simp [this]
theorem cut_slash (l : List UInt8) : Lib.cut l [47] = (numL l, ((cutL l).2.getD [], (cutL l).2.isSome)) := by
  have h1 := idx_slash l
  have h2 := cutL_eq l
  unfold Lib.cut numL
  cases hd : (cutL l).2 with
  | none =>
    rw [hd] at h1 h2; dsimp only at h1 h2
    rw [h1, if_neg (by omega)]
    simp [← h2]
  | some d =>
    rw [hd] at h1 h2; dsimp only at h1 h2
    rw [h1, if_pos (Int.natCast_nonneg _)]
    generalize (cutL l).1 = a at *
    subst h2
    simp
/-- the variable of the library's that says how long a short search is holds some int -/
def Mx (w : World) : Prop := ∃ m : Int, w.cell? ⟨3, 0, none⟩ = some (.int .i64 m)
theorem Mx.gr {w w' : World} (h : Mx w) (g : Gr w w') : Mx w' := by
  obtain ⟨m, hm⟩ := h
  exact ⟨m, (Below.cell g (World.block_lt_of_cell? w _ hm)).trans hm⟩
theorem cut_q (q : Rat) {k : Nat} (h1 : Sz k q.num) (h2 : Sz k (q.den : Int)) (hk : k ≤ 400000) {w : World} (hm : Mx w) :
    Calls Tryz.prog 127 #[.string ⟨(ratL q).toArray⟩, .string ⟨#[47]⟩] w fun e w' => e = .returned (.tuple #[.string ⟨(Lib.itoa q.num).toArray⟩, .string ⟨(if q.den = 1 then [] else Lib.itoa (q.den : Int)).toArray⟩, .bool (decide (q.den ≠ 1))]) ∧ Gr w w' := by
  obtain ⟨m, hm⟩ := hm
  have hl := ratL_len h1 h2
  refine (Tryz.strings_Cut ⟨(ratL q).toArray⟩ ⟨#[47]⟩ m w (by show (ratL q).toArray.size < _; simp; omega) hm).mono ?_
  rintro e w1 ⟨he, n, rfl⟩
  refine ⟨?_, (Below.refl _ _).drewN _⟩
  rw [he]
  have e1 : (⟨(ratL q).toArray⟩ : ByteArray).data.toList = ratL q := by simp
  rw [e1, show (⟨#[47]⟩ : ByteArray).data.toList = [47] from rfl, cut_slash, numL_ratL, cutL_ratL]
  by_cases h : q.den = 1 <;> simp [h]
theorem trimprefix_minus (z : Int) (w : World) : Calls Tryz.prog 129 #[.string ⟨(Lib.itoa z).toArray⟩, .string ⟨#[45]⟩] w fun e w' => e = .returned (.string ⟨(Lib.decDigits z.natAbs).toArray⟩) ∧ Gr w w' := by
  refine (Tryz.strings_TrimPrefix _ _ _).mono ?_
  rintro e w1 ⟨he, rfl⟩
  refine ⟨?_, Gr.refl _⟩
  rw [he]
  show Ending.returned (.string ⟨(Lib.trimPrefix (Lib.itoa z) [45]).toArray⟩) = _
  by_cases h : z < 0
  · have h1 : Lib.hasPrefix (Lib.itoa z) [45] = true := by rw [itoa_neg h]; simp [Lib.hasPrefix]
    rw [Lib.trimPrefix, h1, if_pos rfl, itoa_neg h]; rfl
  · have h1 : Lib.hasPrefix (Lib.itoa z) [45] = false := by
      rw [itoa_nonneg (by omega)]
      rcases hd : Lib.decDigits z.natAbs with _ | ⟨c, l⟩
      · rfl
      · have hc := dec_all z.natAbs c (by rw [hd]; simp)
        have hne : ¬ (45 : UInt8) = c := fun e => by rw [← e] at hc; simp at hc
        simp [Lib.hasPrefix, List.isPrefixOf, hne]
    rw [Lib.trimPrefix, h1, if_neg (by decide), itoa_nonneg (by omega)]
end Go.Proofs.YtloocadjbpgldaaGreatDoor
/- rational.digits at digits; Trim at zeros. -/
namespace Go.Proofs.YtloocadjbpgldaaGreatDoor
open Go.RowKit

theorem trimS_all {l cs : List UInt8} (h : ∀ c ∈ l, cs.contains c = true) : Lib.trimS l cs = [] := by
  have key : ∀ {l : List UInt8}, (∀ c ∈ l, cs.contains c = true) → l.dropWhile (cs.contains ·) = [] := by
    intro l
    induction l with
    | nil => intro _; rfl
    | cons c l ih => intro h; rw [List.dropWhile_cons, if_pos (h c (by simp))]; exact ih (fun x hx => h x (by simp [hx]))
  unfold Lib.trimS Lib.trimRightS Lib.trimLeftS
  rw [key (l := l.reverse) (fun c hc => h c (by simpa using hc))]
  rfl
theorem digit_in {c : UInt8} (h : 48 ≤ c.toNat ∧ c.toNat ≤ 57) : [48, 49, 50, 51, 52, 53, 54, 55, 56, 57].contains c = true := by
  have : c = 48 ∨ c = 49 ∨ c = 50 ∨ c = 51 ∨ c = 52 ∨ c = 53 ∨ c = 54 ∨ c = 55 ∨ c = 56 ∨ c = 57 := by
    simp only [← UInt8.toNat_inj]
    simp
    omega
  rcases this with rfl | rfl | rfl | rfl | rfl | rfl | rfl | rfl | rfl | rfl <;> decide
theorem trim_digits (n : Nat) (hn : (Lib.decDigits n).length ≤ 1000000) (w : World) :
    Calls Tryz.prog 130 #[.string ⟨(Lib.decDigits n).toArray⟩, .string ⟨#[48, 49, 50, 51, 52, 53, 54, 55, 56, 57]⟩] w fun e w' => e = .returned (.string ⟨#[]⟩) ∧ Gr w w' := by
  refine (Any.strings_Trim_laid Tryz.lays160 (by kernel_rfl) ⟨(Lib.decDigits n).toArray⟩ ⟨#[48, 49, 50, 51, 52, 53, 54, 55, 56, 57]⟩ w (by show (Lib.decDigits n).toArray.size ≤ _; simp; omega) (by decide) (ascii_of_all (by decide))).mono ?_
  rintro e w1 ⟨he, g⟩
  refine ⟨?_, g⟩
  rw [he, trimS_all (l := (⟨(Lib.decDigits n).toArray⟩ : ByteArray).data.toList) (fun c hc => digit_in (dec_all n c (by simpa using hc)))]
set_option maxHeartbeats 1000000 in
theorem rdigits_t (n : Nat) (hn : (Lib.decDigits n).length ≤ 1000000) (w : World) :
    Calls Tryz.prog 128 #[.string ⟨(Lib.decDigits n).toArray⟩] w fun e w' => e = .returned (.bool true) ∧ Gr w w' := by
  obtain ⟨D, hD⟩ : ∃ D : ByteArray, D = ⟨(Lib.decDigits n).toArray⟩ := ⟨_, rfl⟩
  have hc := trim_digits n hn
  have hne : (D.toList == []) = false := by
    rw [beq_eq_false_iff_ne, ByteArray.toList_eq, hD]
    simpa using dec_ne' n
  rw [← hD] at hc ⊢
  clear hD
  go_enter Tryz.func128, Tryz.ntmps128
  go_wp2_with fail
  (with_reducible refine (hc _).mono ?_)
  rintro e w1 ⟨rfl, g1⟩
  clear hc
  go_wp2
  go_ret
  exact ⟨rfl, g1⟩
theorem drop_mem {p : UInt8 → Bool} : ∀ {l : List UInt8} {c : UInt8}, c ∈ l → p c = false → c ∈ l.dropWhile p
  | [], _, h, _ => by cases h
  | x :: l, c, h, hc => by
    rw [List.dropWhile_cons]
    by_cases hx : p x = true
    · rw [if_pos hx]
      rcases List.mem_cons.1 h with e | h
      · rw [e, hx] at hc; cases hc
      · exact drop_mem h hc
    · rw [if_neg hx]; exact h
theorem trimS_some {l cs : List UInt8} {c : UInt8} (h : c ∈ l) (hc : cs.contains c = false) : Lib.trimS l cs ≠ [] := by
  have h1 : c ∈ Lib.trimRightS l cs := by
    unfold Lib.trimRightS
    rw [List.mem_reverse]
    exact drop_mem (by simpa using h) hc
  exact fun e => by have := drop_mem (p := (cs.contains ·)) h1 hc; unfold Lib.trimS Lib.trimLeftS at e; rw [e] at this; cases this
theorem trim_zero (d : Nat) (hd : 0 < d) (hn : (Lib.decDigits d).length ≤ 1000000) (w : World) :
    Calls Tryz.prog 130 #[.string ⟨(Lib.decDigits d).toArray⟩, .string ⟨#[48]⟩] w fun e w' => (∃ L : List UInt8, e = .returned (.string ⟨L.toArray⟩) ∧ L ≠ []) ∧ Gr w w' := by
  refine (Any.strings_Trim_laid Tryz.lays160 (by kernel_rfl) ⟨(Lib.decDigits d).toArray⟩ ⟨#[48]⟩ w (by show (Lib.decDigits d).toArray.size ≤ _; simp; omega) (by decide) (ascii_of_all (by decide))).mono ?_
  rintro e w1 ⟨he, g⟩
  obtain ⟨c, hc, h1, _⟩ := dec_head hd
  refine ⟨⟨_, he, trimS_some (c := c) (by simpa using List.mem_of_getElem? hc) ?_⟩, g⟩
  have : ¬ c = 48 := fun e => by rw [e] at h1; simp at h1
  simp [this]
end Go.Proofs.YtloocadjbpgldaaGreatDoor
/- The contracts of rational.read's walk, in two cases. -/
namespace Go.Proofs.YtloocadjbpgldaaGreatDoor
open Go.RowKit

theorem cut_w (q : Rat) {k : Nat} (h1 : Sz k q.num) (h2 : Sz k (q.den : Int)) (hk : k ≤ 400000) (hw : q.den = 1) {w : World} (hm : Mx w) :
    Calls Tryz.prog 127 #[.string ⟨(ratL q).toArray⟩, .string ⟨#[47]⟩] w fun e w' => e = .returned (.tuple #[.string ⟨(Lib.itoa q.num).toArray⟩, .string ⟨([] : List UInt8).toArray⟩, .bool false]) ∧ Gr w w' := by
  have := cut_q q h1 h2 hk hm
  rw [if_pos hw, show decide (q.den ≠ 1) = false by simp [hw]] at this
  exact this
theorem cut_f (q : Rat) {k : Nat} (h1 : Sz k q.num) (h2 : Sz k (q.den : Int)) (hk : k ≤ 400000) (hw : ¬ q.den = 1) {w : World} (hm : Mx w) :
    Calls Tryz.prog 127 #[.string ⟨(ratL q).toArray⟩, .string ⟨#[47]⟩] w fun e w' => e = .returned (.tuple #[.string ⟨(Lib.itoa q.num).toArray⟩, .string ⟨(Lib.itoa (q.den : Int)).toArray⟩, .bool true]) ∧ Gr w w' := by
  have := cut_q q h1 h2 hk hm
  rw [if_neg hw, show decide (q.den ≠ 1) = true by simp [hw]] at this
  exact this
theorem rdigits_n {k : Nat} (z : Int) (h : Sz k z) (hk : k ≤ 400000) (w : World) :
    Calls Tryz.prog 128 #[.string ⟨(Lib.decDigits z.natAbs).toArray⟩] w fun e w' => e = .returned (.bool true) ∧ Gr w w' :=
  rdigits_t _ (by have := dec_len_sz h; omega) w
theorem rdigits_d {k : Nat} (d : Nat) (h : Sz k (d : Int)) (hk : k ≤ 400000) (w : World) :
    Calls Tryz.prog 128 #[.string ⟨(Lib.itoa (d : Int)).toArray⟩] w fun e w' => e = .returned (.bool true) ∧ Gr w w' := by
  have := rdigits_n (d : Int) h hk w
  rw [← itoa_nonneg (by omega)] at this
  exact this
theorem trim_zero_d {k : Nat} (d : Nat) (h : Sz k (d : Int)) (hd : 0 < d) (hk : k ≤ 400000) (w : World) :
    Calls Tryz.prog 130 #[.string ⟨(Lib.itoa (d : Int)).toArray⟩, .string ⟨#[48]⟩] w fun e w' => (∃ L : List UInt8, e = .returned (.string ⟨L.toArray⟩) ∧ (L == []) = false) ∧ Gr w w' := by
  have := trim_zero d hd (by have := dec_len_sz h; rw [Int.natAbs_natCast] at this; omega) w
  rw [itoa_nonneg (by omega), Int.natAbs_natCast]
  refine this.mono ?_
  rintro e w1 ⟨⟨L, he, hL⟩, g⟩
  exact ⟨⟨L, he, beq_eq_false_iff_ne.2 hL⟩, g⟩
theorem isRat_parts {w : World} {k : Nat} {x y x2 y2 : Value} {q : Rat} (h1 : IsInt w k x y q.num) (h2 : IsInt w k x2 y2 (q.den : Int)) (h3 : 64 ≤ k) : IsRat w k x y x2 y2 q := ⟨h1, ⟨_, h2, .inl rfl⟩, h3⟩
theorem rat_coprime (q : Rat) : (Int.gcd q.num (q.den : Int) : Int) = 1 := by
  have := q.reduced
  show ((Nat.gcd q.num.natAbs (q.den : Int).natAbs : Nat) : Int) = 1
  rw [Int.natAbs_natCast]
  have h : Nat.gcd q.num.natAbs q.den = 1 := this
  rw [h]; rfl
end Go.Proofs.YtloocadjbpgldaaGreatDoor
/- Printed by a program of the prover's: rational.read at the texts of rationals. -/
namespace Go.Proofs.YtloocadjbpgldaaGreatDoor
open Go.RowKit

set_option maxRecDepth 100000 in
set_option maxHeartbeats 1000000 in
theorem read_w {k : Nat} (q : Rat) (hq : Sz k q.num ∧ Sz k (q.den : Int)) (_hk : k ≤ 20000) (h64 : 64 ≤ k) (most : Int) (_hlong : ((ratL q).length : Int) ≤ most) (w : World) (hm : Mx w) (hw : q.den = 1) :
    Calls Tryz.prog 92 #[(.string ⟨(ratL (q) : List UInt8).toArray⟩), (.int .i64 (most))] w fun e w' => (∃ c0 c1 c2 c3, e = .returned (.tuple #[.agg #[c0, c1, c2, c3], .int .i64 0]) ∧ IsRat w' k c0 c1 c2 c3 q) ∧ Gr w w' := by
 have hl : decide (most < ((ratL q).length : Int)) = false := by simp; omega
 go_enter Tryz.func92, Tryz.ntmps92
 have hB := Gr.refl w
 refine wp_seq_k (fun K1 k1 => ?_)
 refine rg [0, 1] ?_
 refine se ?_
 refine ea 31 #[(.bool false), (.slice none 0 0), (.bool false), (.slice none 0 0)] 4 hB fun b2 w2 g2 L2 o2 q2 hB => ?_
 simp only [p3, p4]
 refine sv 5 (.int .i64 0) ?_
 simp only [p3, p4]
 refine sq_nil ?_
 refine k1 _ _ ?_
 try clear k1 K1
 refine wp_seq_k (fun K3 k3 => ?_)
 refine rg [0, 1] ?_
 refine sv 13 (.string ⟨(ratL (q) : List UInt8).toArray⟩) ?_
 simp only [p3, p4]
 refine sv 6 (.string ⟨(ratL (q) : List UInt8).toArray⟩) ?_
 simp only [p3, p4]
 refine sq_nil ?_
 refine k3 _ _ ?_
 try clear k3 K3
 refine wp_seq_k (fun K4 k4 => ?_)
 refine rg [0, 1, 2, 3, 4, 5, 6, 7, 8] ?_
 refine sv 15 (.string ⟨(ratL (q) : List UInt8).toArray⟩) ?_
 simp only [p3, p4]
 refine se ?_
 refine ec 16 (cut_w q hq.1 hq.2 (by omega) hw (hm.gr hB)) ?_
 rintro e5 w5 ⟨rfl, g5⟩
 refine ⟨_, rfl, ?_⟩
 replace hB := hB.trans g5
 simp only [p3, p4]
 refine sv 14 (.tuple #[(.string ⟨(Lib.itoa (q.num) : List UInt8).toArray⟩), (.string ⟨([] : List UInt8).toArray⟩), (.bool false)]) ?_
 simp only [p3, p4]
 refine sv 17 (.string ⟨(Lib.itoa (q.num) : List UInt8).toArray⟩) ?_
 simp only [p3, p4]
 refine sv 18 (.string ⟨([] : List UInt8).toArray⟩) ?_
 simp only [p3, p4]
 refine sv 19 (.bool false) ?_
 simp only [p3, p4]
 refine sv 7 (.string ⟨(Lib.itoa (q.num) : List UInt8).toArray⟩) ?_
 simp only [p3, p4]
 refine sv 8 (.string ⟨([] : List UInt8).toArray⟩) ?_
 simp only [p3, p4]
 refine sv 9 (.bool false) ?_
 simp only [p3, p4]
 refine sq_nil ?_
 refine k4 _ _ ?_
 try clear k4 K4
 refine wp_seq_k (fun K6 k6 => ?_)
 refine wp_block ?_
 refine wp_seq_k (fun K7 k7 => ?_)
 refine rg [0, 1, 2, 3, 4] ?_
 refine sv 21 (.string ⟨(ratL (q) : List UInt8).toArray⟩) ?_
 simp only [p3, p4]
 refine sv 22 (.int .i64 (((ratL (q)).length : Int))) ?_
 simp only [p3, p4]
 refine sv 23 (.int .i64 (most)) ?_
 simp only [p3, p4]
 refine sw 24 (.bool false) rfl (RunV.bool (x := decide (most < ((ratL (q)).length : Int))) (rvk (by kernel_rfl)) hl) ?_
 simp only [p3, p4]
 refine sv 20 (.bool false) ?_
 simp only [p3, p4]
 refine sq_nil ?_
 refine k7 _ _ ?_
 try clear k7 K7
 refine wp_cond_false rfl ?_
 refine wp_seq_k (fun K8 k8 => ?_)
 refine rg [0, 1, 2, 3, 4, 5, 6, 7, 8, 9, 10, 11, 12] ?_
 refine sv 27 (.string ⟨(Lib.itoa (q.num) : List UInt8).toArray⟩) ?_
 simp only [p3, p4]
 refine se ?_
 refine ec 28 (trimprefix_minus (q.num) _) ?_
 rintro e9 w9 ⟨rfl, g9⟩
 refine ⟨_, rfl, ?_⟩
 replace hB := hB.trans g9
 simp only [p3, p4]
 refine se ?_
 refine ec 29 (rdigits_n q.num hq.1 (by omega) _) ?_
 rintro e10 w10 ⟨rfl, g10⟩
 refine ⟨_, rfl, ?_⟩
 replace hB := hB.trans g10
 simp only [p3, p4]
 refine sv 30 (.bool false) ?_
 simp only [p3, p4]
 refine sv 31 (.bool false) ?_
 simp only [p3, p4]
 refine sv 32 (.bool false) ?_
 simp only [p3, p4]
 refine sv 33 (.bool false) ?_
 simp only [p3, p4]
 refine ss 34 ?_
 simp only [p3, p4]
 refine ss 35 ?_
 simp only [p3, p4]
 refine ss 36 ?_
 simp only [p3, p4]
 refine sv 37 (.bool false) ?_
 simp only [p3, p4]
 refine sv 38 (.bool false) ?_
 simp only [p3, p4]
 refine sv 26 (.bool false) ?_
 simp only [p3, p4]
 refine sq_nil ?_
 refine k8 _ _ ?_
 try clear k8 K8
 refine wp_cond_false rfl ?_
 refine wp_seq_k (fun K11 k11 => ?_)
 refine rg [0, 1, 2, 3, 4, 5, 6] ?_
 refine sv 41 (.bool false) ?_
 simp only [p3, p4]
 refine sv 42 (.bool false) ?_
 simp only [p3, p4]
 refine ss 43 ?_
 simp only [p3, p4]
 refine ss 44 ?_
 simp only [p3, p4]
 refine ss 45 ?_
 simp only [p3, p4]
 refine sv 46 (.bool false) ?_
 simp only [p3, p4]
 refine sv 40 (.bool false) ?_
 simp only [p3, p4]
 refine sq_nil ?_
 refine k11 _ _ ?_
 try clear k11 K11
 refine wp_cond_false rfl ?_
 refine wp_skip ?_
 refine k6 _ _ ?_
 try clear k6 K6
 refine wp_seq_k (fun K12 k12 => ?_)
 refine rg [0, 1, 2, 3, 4, 5, 6, 7] ?_
 refine sv 49 (.string ⟨(Lib.itoa (q.num) : List UInt8).toArray⟩) ?_
 simp only [p3, p4]
 refine se ?_
 refine ec 50 (parse_i (q.num) hq.1 (by omega) _) ?_
 rintro e13 w13 ⟨⟨x13, y13, rfl, h13⟩, g13⟩
 refine ⟨_, rfl, ?_⟩
 replace hB := hB.trans g13
 simp only [p3, p4]
 refine sv 48 (.tuple #[(.agg #[x13, y13]), (.int .i64 0)]) ?_
 simp only [p3, p4]
 refine sv 51 (.agg #[x13, y13]) ?_
 simp only [p3, p4]
 refine sv 52 (.int .i64 0) ?_
 simp only [p3, p4]
 refine se ?_
 refine ea 27 #[(.bool false), (.slice none 0 0)] 10 hB fun b14 w14 g14 L14 o14 q14 hB => ?_
 replace L2 := L2.gr (g5.trans (g9.trans (g10.trans g13)))
 have ne2_14 := L2.ne o14
 simp only [p3, p4]
 refine se ?_
 refine es 27 0 (.agg #[x13, y13]) [x13, y13] #[x13, y13] L14 hB q14 ⟨h13.one0, h13.one1, trivial⟩ fun w15 st15 kp15 L14 hB => ?_
 refine sv 11 (.int .i64 0) ?_
 simp only [p3, p4]
 refine sq_nil ?_
 refine k12 _ _ ?_
 try clear k12 K12
 refine wp_seq_k (fun K16 k16 => ?_)
 refine wp_seq_k (fun K17 k17 => ?_)
 refine rg [0, 1] ?_
 refine sv 53 (.int .i64 0) ?_
 simp only [p3, p4]
 refine sv 54 (.bool false) ?_
 simp only [p3, p4]
 refine sq_nil ?_
 refine k17 _ _ ?_
 try clear k17 K17
 refine wp_cond_false rfl ?_
 refine wp_skip ?_
 refine k16 _ _ ?_
 try clear k16 K16
 refine wp_seq_k (fun K18 k18 => ?_)
 refine wp_seq_k (fun K19 k19 => ?_)
 refine rg [0, 1] ?_
 refine sv 56 (.bool false) ?_
 simp only [p3, p4]
 refine sv 57 (.bool true) ?_
 simp only [p3, p4]
 refine sq_nil ?_
 refine k19 _ _ ?_
 try clear k19 K19
 refine wp_cond_true rfl ?_
 refine wp_seq_k (fun K20 k20 => ?_)
 refine rg [0, 1, 2, 3] ?_
 refine sw 58 (.agg #[x13, y13]) rfl (rl 27 0 [x13, y13] L14) ?_
 simp only [p3, p4]
 refine sv 59 (.agg #[x13, y13, (.bool false), (.slice none 0 0)]) ?_
 simp only [p3, p4]
 refine se ?_
 replace L2 := st15.lc (L2.gr g14) ne2_14
 refine es 31 0 (.agg #[x13, y13, (.bool false), (.slice none 0 0)]) [x13, y13, (.bool false), (.slice none 0 0)] #[x13, y13, (.bool false), (.slice none 0 0)] L2 hB q2 ⟨h13.one0, h13.one1, rfl, rfl, trivial⟩ fun w21 st21 kp21 L2 hB => ?_
 refine sv 5 (.int .i64 0) ?_
 simp only [p3, p4]
 refine sq_nil ?_
 refine k20 _ _ ?_
 try clear k20 K20
 refine wp_ret ?_
 simp only [Exit.then]
 refine bodyPost_ret (v := (.tuple #[(.agg #[x13, y13, (.bool false), (.slice none 0 0)]), (.int .i64 0)])) (ret_cell_tmp' _ _ _ rfl rfl L2 (by kernel_rfl) rfl) rfl ⟨?_, hB⟩
 have kq22 := g14.kp.trans (kp15.trans kp21)
 replace h13 := h13.kp kq22
 exact ⟨_, _, _, _, rfl, by have := IsRat.int h13 h64; rw [rat_int hw] at this; exact this⟩

set_option maxRecDepth 100000 in
set_option maxHeartbeats 1000000 in
theorem read_f {k : Nat} (q : Rat) (hq : Sz k q.num ∧ Sz k (q.den : Int)) (_hk : k ≤ 20000) (h64 : 64 ≤ k) (most : Int) (_hlong : ((ratL q).length : Int) ≤ most) (w : World) (hm : Mx w) (hw : ¬ q.den = 1) :
    Calls Tryz.prog 92 #[(.string ⟨(ratL (q) : List UInt8).toArray⟩), (.int .i64 (most))] w fun e w' => (∃ c0 c1 c2 c3, e = .returned (.tuple #[.agg #[c0, c1, c2, c3], .int .i64 0]) ∧ IsRat w' k c0 c1 c2 c3 q) ∧ Gr w w' := by
 have hl : decide (most < ((ratL q).length : Int)) = false := by simp; omega
 have h1 : (sgn ((q.den : Int) - 1) == (0 : Int)) = false := by rw [beq_eq_false_iff_ne]; exact fun e => hw (by have := sgn_eq_zero.1 e; omega)
 have h2 : (sgn ((Int.gcd (q.num) ((q.den : Int)) : Int) - 1) != (0 : Int)) = false := by rw [rat_coprime]; rfl
 go_enter Tryz.func92, Tryz.ntmps92
 have hB := Gr.refl w
 refine wp_seq_k (fun K1 k1 => ?_)
 refine rg [0, 1] ?_
 refine se ?_
 refine ea 31 #[(.bool false), (.slice none 0 0), (.bool false), (.slice none 0 0)] 4 hB fun b2 w2 g2 L2 o2 q2 hB => ?_
 simp only [p3, p4]
 refine sv 5 (.int .i64 0) ?_
 simp only [p3, p4]
 refine sq_nil ?_
 refine k1 _ _ ?_
 try clear k1 K1
 refine wp_seq_k (fun K3 k3 => ?_)
 refine rg [0, 1] ?_
 refine sv 13 (.string ⟨(ratL (q) : List UInt8).toArray⟩) ?_
 simp only [p3, p4]
 refine sv 6 (.string ⟨(ratL (q) : List UInt8).toArray⟩) ?_
 simp only [p3, p4]
 refine sq_nil ?_
 refine k3 _ _ ?_
 try clear k3 K3
 refine wp_seq_k (fun K4 k4 => ?_)
 refine rg [0, 1, 2, 3, 4, 5, 6, 7, 8] ?_
 refine sv 15 (.string ⟨(ratL (q) : List UInt8).toArray⟩) ?_
 simp only [p3, p4]
 refine se ?_
 refine ec 16 (cut_f q hq.1 hq.2 (by omega) hw (hm.gr hB)) ?_
 rintro e5 w5 ⟨rfl, g5⟩
 refine ⟨_, rfl, ?_⟩
 replace hB := hB.trans g5
 simp only [p3, p4]
 refine sv 14 (.tuple #[(.string ⟨(Lib.itoa (q.num) : List UInt8).toArray⟩), (.string ⟨(Lib.itoa ((q.den : Int)) : List UInt8).toArray⟩), (.bool true)]) ?_
 simp only [p3, p4]
 refine sv 17 (.string ⟨(Lib.itoa (q.num) : List UInt8).toArray⟩) ?_
 simp only [p3, p4]
 refine sv 18 (.string ⟨(Lib.itoa ((q.den : Int)) : List UInt8).toArray⟩) ?_
 simp only [p3, p4]
 refine sv 19 (.bool true) ?_
 simp only [p3, p4]
 refine sv 7 (.string ⟨(Lib.itoa (q.num) : List UInt8).toArray⟩) ?_
 simp only [p3, p4]
 refine sv 8 (.string ⟨(Lib.itoa ((q.den : Int)) : List UInt8).toArray⟩) ?_
 simp only [p3, p4]
 refine sv 9 (.bool true) ?_
 simp only [p3, p4]
 refine sq_nil ?_
 refine k4 _ _ ?_
 try clear k4 K4
 refine wp_seq_k (fun K6 k6 => ?_)
 refine wp_block ?_
 refine wp_seq_k (fun K7 k7 => ?_)
 refine rg [0, 1, 2, 3, 4] ?_
 refine sv 21 (.string ⟨(ratL (q) : List UInt8).toArray⟩) ?_
 simp only [p3, p4]
 refine sv 22 (.int .i64 (((ratL (q)).length : Int))) ?_
 simp only [p3, p4]
 refine sv 23 (.int .i64 (most)) ?_
 simp only [p3, p4]
 refine sw 24 (.bool false) rfl (RunV.bool (x := decide (most < ((ratL (q)).length : Int))) (rvk (by kernel_rfl)) hl) ?_
 simp only [p3, p4]
 refine sv 20 (.bool false) ?_
 simp only [p3, p4]
 refine sq_nil ?_
 refine k7 _ _ ?_
 try clear k7 K7
 refine wp_cond_false rfl ?_
 refine wp_seq_k (fun K8 k8 => ?_)
 refine rg [0, 1, 2, 3, 4, 5, 6, 7, 8, 9, 10, 11, 12] ?_
 refine sv 27 (.string ⟨(Lib.itoa (q.num) : List UInt8).toArray⟩) ?_
 simp only [p3, p4]
 refine se ?_
 refine ec 28 (trimprefix_minus (q.num) _) ?_
 rintro e9 w9 ⟨rfl, g9⟩
 refine ⟨_, rfl, ?_⟩
 replace hB := hB.trans g9
 simp only [p3, p4]
 refine se ?_
 refine ec 29 (rdigits_n q.num hq.1 (by omega) _) ?_
 rintro e10 w10 ⟨rfl, g10⟩
 refine ⟨_, rfl, ?_⟩
 replace hB := hB.trans g10
 simp only [p3, p4]
 refine sv 30 (.bool false) ?_
 simp only [p3, p4]
 refine sv 31 (.bool false) ?_
 simp only [p3, p4]
 refine sv 32 (.bool true) ?_
 simp only [p3, p4]
 refine sv 33 (.bool true) ?_
 simp only [p3, p4]
 refine sv 34 (.string ⟨(Lib.itoa ((q.den : Int)) : List UInt8).toArray⟩) ?_
 simp only [p3, p4]
 refine se ?_
 refine ec 35 (rdigits_d q.den hq.2 (by omega) _) ?_
 rintro e11 w11 ⟨rfl, g11⟩
 refine ⟨_, rfl, ?_⟩
 replace hB := hB.trans g11
 simp only [p3, p4]
 refine sv 36 (.bool false) ?_
 simp only [p3, p4]
 refine sv 37 (.bool false) ?_
 simp only [p3, p4]
 refine sv 38 (.bool false) ?_
 simp only [p3, p4]
 refine sv 26 (.bool false) ?_
 simp only [p3, p4]
 refine sq_nil ?_
 refine k8 _ _ ?_
 try clear k8 K8
 refine wp_cond_false rfl ?_
 refine wp_seq_k (fun K12 k12 => ?_)
 refine rg [0, 1, 2, 3, 4, 5, 6] ?_
 refine sv 41 (.bool true) ?_
 simp only [p3, p4]
 refine sv 42 (.bool true) ?_
 simp only [p3, p4]
 refine sv 43 (.string ⟨(Lib.itoa ((q.den : Int)) : List UInt8).toArray⟩) ?_
 simp only [p3, p4]
 refine se ?_
 refine ec 44 (trim_zero_d q.den hq.2 q.den_pos (by omega) _) ?_
 rintro e13 w13 ⟨⟨L13, rfl, hL13⟩, g13⟩
 refine ⟨_, rfl, ?_⟩
 replace hB := hB.trans g13
 simp only [p3, p4]
 refine sw 45 (.bool false) rfl (RunV.bool (x := ((L13) == ([] : List UInt8))) (rv_seq 9 9 _ _ (L13) ([]) rfl rfl rfl) hL13) ?_
 simp only [p3, p4]
 refine sv 46 (.bool false) ?_
 simp only [p3, p4]
 refine sv 40 (.bool false) ?_
 simp only [p3, p4]
 refine sq_nil ?_
 refine k12 _ _ ?_
 try clear k12 K12
 refine wp_cond_false rfl ?_
 refine wp_skip ?_
 refine k6 _ _ ?_
 try clear k6 K6
 refine wp_seq_k (fun K14 k14 => ?_)
 refine rg [0, 1, 2, 3, 4, 5, 6, 7] ?_
 refine sv 49 (.string ⟨(Lib.itoa (q.num) : List UInt8).toArray⟩) ?_
 simp only [p3, p4]
 refine se ?_
 refine ec 50 (parse_i (q.num) hq.1 (by omega) _) ?_
 rintro e15 w15 ⟨⟨x15, y15, rfl, h15⟩, g15⟩
 refine ⟨_, rfl, ?_⟩
 replace hB := hB.trans g15
 simp only [p3, p4]
 refine sv 48 (.tuple #[(.agg #[x15, y15]), (.int .i64 0)]) ?_
 simp only [p3, p4]
 refine sv 51 (.agg #[x15, y15]) ?_
 simp only [p3, p4]
 refine sv 52 (.int .i64 0) ?_
 simp only [p3, p4]
 refine se ?_
 refine ea 27 #[(.bool false), (.slice none 0 0)] 10 hB fun b16 w16 g16 L16 o16 q16 hB => ?_
 replace L2 := L2.gr (g5.trans (g9.trans (g10.trans (g11.trans (g13.trans g15)))))
 have ne2_16 := L2.ne o16
 simp only [p3, p4]
 refine se ?_
 refine es 27 0 (.agg #[x15, y15]) [x15, y15] #[x15, y15] L16 hB q16 ⟨h15.one0, h15.one1, trivial⟩ fun w17 st17 kp17 L16 hB => ?_
 refine sv 11 (.int .i64 0) ?_
 simp only [p3, p4]
 refine sq_nil ?_
 refine k14 _ _ ?_
 try clear k14 K14
 refine wp_seq_k (fun K18 k18 => ?_)
 refine wp_seq_k (fun K19 k19 => ?_)
 refine rg [0, 1] ?_
 refine sv 53 (.int .i64 0) ?_
 simp only [p3, p4]
 refine sv 54 (.bool false) ?_
 simp only [p3, p4]
 refine sq_nil ?_
 refine k19 _ _ ?_
 try clear k19 K19
 refine wp_cond_false rfl ?_
 refine wp_skip ?_
 refine k18 _ _ ?_
 try clear k18 K18
 refine wp_seq_k (fun K20 k20 => ?_)
 refine wp_seq_k (fun K21 k21 => ?_)
 refine rg [0, 1] ?_
 refine sv 56 (.bool true) ?_
 simp only [p3, p4]
 refine sv 57 (.bool false) ?_
 simp only [p3, p4]
 refine sq_nil ?_
 refine k21 _ _ ?_
 try clear k21 K21
 refine wp_cond_false rfl ?_
 refine wp_skip ?_
 refine k20 _ _ ?_
 try clear k20 K20
 refine wp_seq_k (fun K22 k22 => ?_)
 refine rg [0, 1, 2, 3, 4, 5, 6, 7] ?_
 refine sv 61 (.string ⟨(Lib.itoa ((q.den : Int)) : List UInt8).toArray⟩) ?_
 simp only [p3, p4]
 refine se ?_
 refine ec 62 (parse_i ((q.den : Int)) hq.2 (by omega) _) ?_
 rintro e23 w23 ⟨⟨x23, y23, rfl, h23⟩, g23⟩
 refine ⟨_, rfl, ?_⟩
 replace hB := hB.trans g23
 simp only [p3, p4]
 refine sv 60 (.tuple #[(.agg #[x23, y23]), (.int .i64 0)]) ?_
 simp only [p3, p4]
 refine sv 63 (.agg #[x23, y23]) ?_
 simp only [p3, p4]
 refine sv 64 (.int .i64 0) ?_
 simp only [p3, p4]
 refine se ?_
 refine ea 27 #[(.bool false), (.slice none 0 0)] 12 hB fun b24 w24 g24 L24 o24 q24 hB => ?_
 replace L2 := (st17.lc (L2.gr g16) ne2_16).gr g23
 have ne2_24 := L2.ne o24
 replace L16 := L16.gr g23
 have ne16_24 := L16.ne o24
 simp only [p3, p4]
 refine se ?_
 refine es 27 0 (.agg #[x23, y23]) [x23, y23] #[x23, y23] L24 hB q24 ⟨h23.one0, h23.one1, trivial⟩ fun w25 st25 kp25 L24 hB => ?_
 refine sv 11 (.int .i64 0) ?_
 simp only [p3, p4]
 refine sq_nil ?_
 refine k22 _ _ ?_
 try clear k22 K22
 refine wp_seq_k (fun K26 k26 => ?_)
 refine wp_seq_k (fun K27 k27 => ?_)
 have gd41 := Gr.drew w25
 replace hB := hB.trans gd41
 replace L16 := (st25.lc (L16.gr g24) ne16_24).gr gd41
 replace L24 := L24.gr gd41
 refine wp_region_ord (fun w' => Lc w' b16 #[x15, y15] 27 ∧ Lc w' b24 #[x23, y23] 27) [(true, 0), (true, 1), (true, 2), (true, 3), (false, 4), (false, 5), (true, 6), (true, 7), (true, 8), (true, 9), (true, 10), (false, 11), (false, 12), (false, 13), (true, 14), (true, 15)] (by kernel_rfl) (by kernel_rfl) (by kernel_rfl) (by decide) (fun _ _ _ _ _ h => h) ⟨L16, L24⟩ ?_
 refine ov 65 (.int .i64 0) ?_
 simp only [p3, p4]
 refine ov 66 (.bool false) ?_
 simp only [p3, p4]
 refine ov 67 (.bool false) ?_
 simp only [p3, p4]
 refine ow 68 (.agg #[x23, y23]) rfl (fun w' hS => (rl 27 0 [x23, y23] hS.2)) ?_
 simp only [p3, p4]
 refine oe ?_
 refine ec 69 (one_i _) ?_
 rintro e43 w43 ⟨⟨x43, y43, rfl, h43⟩, g43⟩
 refine ⟨_, rfl, ?_⟩
 replace hB := hB.trans g43
 replace L16 := L16.gr g43
 replace L24 := L24.gr g43
 refine ⟨⟨L16, L24⟩, ?_⟩
 simp only [p3, p4]
 refine oe ?_
 have kq46 := g24.kp.trans (kp25.trans (gd41.kp.trans g43.kp))
 replace h23 := h23.kp kq46
 refine ec 70 (compare_i h23 h43 (by omega) (by omega)) ?_
 rintro e45 w45 ⟨rfl, g45⟩
 refine ⟨_, rfl, ?_⟩
 replace hB := hB.trans g45
 replace L16 := L16.gr g45
 replace L24 := L24.gr g45
 refine ⟨⟨L16, L24⟩, ?_⟩
 simp only [p3, p4]
 refine ow 71 (.bool false) rfl (fun w' hS => (RunV.bool (x := (sgn ((q.den : Int) - 1) == (0 : Int))) (rvk (by kernel_rfl)) h1)) ?_
 simp only [p3, p4]
 refine ov 72 (.bool false) ?_
 simp only [p3, p4]
 refine ov 73 (.bool false) ?_
 simp only [p3, p4]
 refine ow 74 (.agg #[x15, y15]) rfl (fun w' hS => (rl 27 0 [x15, y15] hS.1)) ?_
 simp only [p3, p4]
 refine ow 75 (.agg #[x23, y23]) rfl (fun w' hS => (rl 27 0 [x23, y23] hS.2)) ?_
 simp only [p3, p4]
 refine oe ?_
 have kq49 := g16.kp.trans (kp17.trans (g23.kp.trans (g24.kp.trans (kp25.trans (gd41.kp.trans (g43.kp.trans g45.kp))))))
 replace h15 := h15.kp kq49
 replace h23 := h23.kp g45.kp
 refine ec 76 (gcd_i h15 h23 (by omega)) ?_
 rintro e48 w48 ⟨⟨x48, y48, rfl, h48⟩, g48⟩
 refine ⟨_, rfl, ?_⟩
 replace hB := hB.trans g48
 replace L16 := L16.gr g48
 replace L24 := L24.gr g48
 refine ⟨⟨L16, L24⟩, ?_⟩
 simp only [p3, p4]
 refine oe ?_
 refine ec 77 (one_i _) ?_
 rintro e51 w51 ⟨⟨x51, y51, rfl, h51⟩, g51⟩
 refine ⟨_, rfl, ?_⟩
 replace hB := hB.trans g51
 replace L16 := L16.gr g51
 replace L24 := L24.gr g51
 refine ⟨⟨L16, L24⟩, ?_⟩
 simp only [p3, p4]
 refine oe ?_
 replace h48 := h48.kp g51.kp
 refine ec 78 (compare_i h48 h51 (by omega) (by omega)) ?_
 rintro e53 w53 ⟨rfl, g53⟩
 refine ⟨_, rfl, ?_⟩
 replace hB := hB.trans g53
 replace L16 := L16.gr g53
 replace L24 := L24.gr g53
 refine ⟨⟨L16, L24⟩, ?_⟩
 simp only [p3, p4]
 refine ow 79 (.bool false) rfl (fun w' hS => (RunV.bool (x := (sgn ((Int.gcd (q.num) ((q.den : Int)) : Int) - 1) != (0 : Int))) (rvk (by kernel_rfl)) h2)) ?_
 simp only [p3, p4]
 refine ov 80 (.bool false) ?_
 simp only [p3, p4]
 refine ord_nil ?_
 refine k27 _ _ ?_
 try clear k27 K27
 refine wp_cond_false rfl ?_
 refine wp_skip ?_
 refine k26 _ _ ?_
 try clear k26 K26
 refine wp_seq_k (fun K54 k54 => ?_)
 refine rg [0, 1, 2, 3, 4] ?_
 refine sw 82 (.agg #[x15, y15]) rfl (rl 27 0 [x15, y15] L16) ?_
 simp only [p3, p4]
 refine sw 83 (.agg #[x23, y23]) rfl (rl 27 0 [x23, y23] L24) ?_
 simp only [p3, p4]
 refine sv 84 (.agg #[x15, y15, x23, y23]) ?_
 simp only [p3, p4]
 refine se ?_
 replace L2 := (st25.lc (L2.gr g24) ne2_24).gr (gd41.trans (g43.trans (g45.trans (g48.trans (g51.trans g53)))))
 refine es 31 0 (.agg #[x15, y15, x23, y23]) [x15, y15, x23, y23] #[x15, y15, x23, y23] L2 hB q2 ⟨h15.one0, h15.one1, h23.one0, h23.one1, trivial⟩ fun w55 st55 kp55 L2 hB => ?_
 refine sv 5 (.int .i64 0) ?_
 simp only [p3, p4]
 refine sq_nil ?_
 refine k54 _ _ ?_
 try clear k54 K54
 refine wp_ret ?_
 refine bodyPost_ret (v := (.tuple #[(.agg #[x15, y15, x23, y23]), (.int .i64 0)])) (ret_cell_tmp' _ _ _ rfl rfl L2 (by kernel_rfl) rfl) rfl ⟨?_, hB⟩
 have kq56 := g48.kp.trans (g51.kp.trans (g53.kp.trans kp55))
 replace h15 := h15.kp kq56
 replace h23 := h23.kp kq56
 exact ⟨_, _, _, _, rfl, isRat_parts h15 h23 h64⟩

theorem read_q {k : Nat} (q : Rat) (hq : Sz k q.num ∧ Sz k (q.den : Int)) (hk : k ≤ 20000) (h64 : 64 ≤ k) (most : Int) (hlong : ((ratL q).length : Int) ≤ most) (w : World) (hm : Mx w) :
    Calls Tryz.prog 92 #[(.string ⟨(ratL (q) : List UInt8).toArray⟩), (.int .i64 (most))] w fun e w' => (∃ c0 c1 c2 c3, e = .returned (.tuple #[.agg #[c0, c1, c2, c3], .int .i64 0]) ∧ IsRat w' k c0 c1 c2 c3 q) ∧ Gr w w' := by
  by_cases hw : q.den = 1
  · exact read_w q hq hk h64 most hlong w hm hw
  · exact read_f q hq hk h64 most hlong w hm hw

set_option maxRecDepth 100000 in
set_option maxHeartbeats 1000000 in
theorem parse_q {k : Nat} (q : Rat) (hq : Sz k q.num ∧ Sz k (q.den : Int)) (hk : k ≤ 20000) (h64 : 64 ≤ k) (_hlong : ((ratL q).length : Int) ≤ 400) (w : World) (hm : Mx w) :
    Calls Tryz.prog 25 #[(.string ⟨(ratL (q) : List UInt8).toArray⟩)] w fun e w' => (∃ c0 c1 c2 c3, e = .returned (.tuple #[.agg #[c0, c1, c2, c3], .int .i64 0]) ∧ IsRat w' k c0 c1 c2 c3 q) ∧ Gr w w' := by
 go_enter Tryz.func25, Tryz.ntmps25
 have hB := Gr.refl w
 refine wp_seq_k (fun K1 k1 => ?_)
 refine rg [0, 1] ?_
 refine se ?_
 refine ea 31 #[(.bool false), (.slice none 0 0), (.bool false), (.slice none 0 0)] 2 hB fun b2 w2 g2 L2 o2 q2 hB => ?_
 simp only [p3, p4]
 refine sv 3 (.int .i64 0) ?_
 simp only [p3, p4]
 refine sq_nil ?_
 refine k1 _ _ ?_
 try clear k1 K1
 refine wp_seq_k (fun K3 k3 => ?_)
 refine rg [0, 1, 2, 3, 4, 5] ?_
 refine sv 4 (.string ⟨(ratL (q) : List UInt8).toArray⟩) ?_
 simp only [p3, p4]
 refine se ?_
 refine ec 5 (read_q q hq hk h64 400 (by omega) _ (hm.gr hB)) ?_
 rintro e4 w4 ⟨⟨cc4_0, cc4_1, cc4_2, cc4_3, rfl, h4⟩, g4⟩
 refine ⟨_, rfl, ?_⟩
 replace hB := hB.trans g4
 simp only [p3, p4]
 refine sv 6 (.agg #[cc4_0, cc4_1, cc4_2, cc4_3]) ?_
 simp only [p3, p4]
 refine sv 7 (.int .i64 0) ?_
 simp only [p3, p4]
 refine se ?_
 replace L2 := L2.gr g4
 refine es 31 0 (.agg #[cc4_0, cc4_1, cc4_2, cc4_3]) [cc4_0, cc4_1, cc4_2, cc4_3] #[cc4_0, cc4_1, cc4_2, cc4_3] L2 hB q2 ⟨h4.one0, h4.one1, h4.one2, h4.one3, trivial⟩ fun w5 st5 kp5 L2 hB => ?_
 refine sv 3 (.int .i64 0) ?_
 simp only [p3, p4]
 refine sq_nil ?_
 refine k3 _ _ ?_
 try clear k3 K3
 refine wp_ret ?_
 refine bodyPost_ret (v := (.tuple #[(.agg #[cc4_0, cc4_1, cc4_2, cc4_3]), (.int .i64 0)])) (ret_cell_tmp' _ _ _ rfl rfl L2 (by kernel_rfl) rfl) rfl ⟨?_, hB⟩
 replace h4 := h4.kp kp5
 exact ⟨_, _, _, _, rfl, h4⟩

set_option maxRecDepth 100000 in
set_option maxHeartbeats 1000000 in
theorem readr_q {k : Nat} (q : Rat) (hq : Sz k q.num ∧ Sz k (q.den : Int)) (hk : k ≤ 20000) (h64 : 64 ≤ k) (_hlong : ((ratL q).length : Int) ≤ 65536) (w : World) (hm : Mx w) :
    Calls Tryz.prog 26 #[(.string ⟨(ratL (q) : List UInt8).toArray⟩)] w fun e w' => (∃ c0 c1 c2 c3, e = .returned (.tuple #[.agg #[c0, c1, c2, c3], .int .i64 0]) ∧ IsRat w' k c0 c1 c2 c3 q) ∧ Gr w w' := by
 go_enter Tryz.func26, Tryz.ntmps26
 have hB := Gr.refl w
 refine wp_seq_k (fun K1 k1 => ?_)
 refine rg [0, 1] ?_
 refine se ?_
 refine ea 31 #[(.bool false), (.slice none 0 0), (.bool false), (.slice none 0 0)] 2 hB fun b2 w2 g2 L2 o2 q2 hB => ?_
 simp only [p3, p4]
 refine sv 3 (.int .i64 0) ?_
 simp only [p3, p4]
 refine sq_nil ?_
 refine k1 _ _ ?_
 try clear k1 K1
 refine wp_seq_k (fun K3 k3 => ?_)
 refine rg [0, 1, 2, 3, 4, 5] ?_
 refine sv 4 (.string ⟨(ratL (q) : List UInt8).toArray⟩) ?_
 simp only [p3, p4]
 refine se ?_
 refine ec 5 (read_q q hq hk h64 65536 (by omega) _ (hm.gr hB)) ?_
 rintro e4 w4 ⟨⟨cc4_0, cc4_1, cc4_2, cc4_3, rfl, h4⟩, g4⟩
 refine ⟨_, rfl, ?_⟩
 replace hB := hB.trans g4
 simp only [p3, p4]
 refine sv 6 (.agg #[cc4_0, cc4_1, cc4_2, cc4_3]) ?_
 simp only [p3, p4]
 refine sv 7 (.int .i64 0) ?_
 simp only [p3, p4]
 refine se ?_
 replace L2 := L2.gr g4
 refine es 31 0 (.agg #[cc4_0, cc4_1, cc4_2, cc4_3]) [cc4_0, cc4_1, cc4_2, cc4_3] #[cc4_0, cc4_1, cc4_2, cc4_3] L2 hB q2 ⟨h4.one0, h4.one1, h4.one2, h4.one3, trivial⟩ fun w5 st5 kp5 L2 hB => ?_
 refine sv 3 (.int .i64 0) ?_
 simp only [p3, p4]
 refine sq_nil ?_
 refine k3 _ _ ?_
 try clear k3 K3
 refine wp_ret ?_
 refine bodyPost_ret (v := (.tuple #[(.agg #[cc4_0, cc4_1, cc4_2, cc4_3]), (.int .i64 0)])) (ret_cell_tmp' _ _ _ rfl rfl L2 (by kernel_rfl) rfl) rfl ⟨?_, hB⟩
 replace h4 := h4.kp kp5
 exact ⟨_, _, _, _, rfl, h4⟩

end Go.Proofs.YtloocadjbpgldaaGreatDoor
/- Texts of small integers and of small fractions. -/
namespace Go.Proofs.YtloocadjbpgldaaGreatDoor
open Go.RowKit

theorem itoa_litp {x : Int} (z : Nat) (e : x = (z : Int)) (h1 : z < 10) : Lib.itoa x = [UInt8.ofNat (48 + z)] := by
  unfold Lib.itoa
  rw [e, if_neg (by omega), Int.toNat_natCast, dec_small h1]
theorem itoa_litn {x : Int} (z : Nat) (e : x = -(z : Int)) (h0 : 0 < z) (h1 : z < 10) : Lib.itoa x = [45, UInt8.ofNat (48 + z)] := by
  unfold Lib.itoa
  rw [e, if_pos (by omega)]
  have : (-(z : Int)).natAbs = z := by omega
  rw [this, dec_small h1]
theorem text_lit {X Y : List UInt8} (h : X = Y) : (X == Y) = true := by rw [h]; exact beq_self_eq_true _
theorem ratL_litw {q : Rat} {Y : List UInt8} (h : (q.den == 1) = true) (e : Lib.itoa q.num = Y) : (ratL q == Y) = true := by
  rw [ratL_w (by simpa using h)]; exact text_lit e
theorem ratL_litf {q : Rat} {X Z Y : List UInt8} (h : (q.den == 1) = false) (e : Lib.itoa q.num = X) (f : Lib.itoa (q.den : Int) = Z) (g : X ++ [47] ++ Z = Y) : (ratL q == Y) = true := by
  rw [ratL_f (by simpa using h), e, f]; exact text_lit g
end Go.Proofs.YtloocadjbpgldaaGreatDoor
/- Printed by a program of the prover's: the examples of chapter 02. -/
namespace Go.Proofs.YtloocadjbpgldaaGreatDoor
open Go.RowKit

theorem lawK20  : ((ratL ((-3 / 2 : Rat))) == ([45, 51, 47, 50] : List UInt8)) = true := ratL_litf (by kernel_rfl) (itoa_litn 3 (by kernel_rfl) (by decide) (by decide)) (itoa_litp 2 (by kernel_rfl) (by decide)) rfl
theorem lawK21  : ((Lib.itoa (-2)) == ([45, 50] : List UInt8)) = true := text_lit (itoa_litn 2 (by kernel_rfl) (by decide) (by decide))
theorem lawK22  : ((Lib.itoa (-1)) == ([45, 49] : List UInt8)) = true := text_lit (itoa_litn 1 (by kernel_rfl) (by decide) (by decide))
theorem lawK23  : ((ratL ((5 / 6 : Rat))) == ([53, 47, 54] : List UInt8)) = true := ratL_litf (by kernel_rfl) (itoa_litp 5 (by kernel_rfl) (by decide)) (itoa_litp 6 (by kernel_rfl) (by decide)) rfl
set_option maxRecDepth 100000 in
set_option maxHeartbeats 1000000 in
theorem known2 (w : World) (ht : Tab w) :
    Calls Tryz.prog 15 #[] w fun e w' => e = .returned (.bool true) ∧ Gr w w' := by
 go_enter Tryz.func15, Tryz.ntmps15
 have hB := Gr.refl w
 refine wp_seq_k (fun K1 k1 => ?_)
 refine rg [0] ?_
 refine sv 0 (.bool false) ?_
 simp only [p3]
 refine sq_nil ?_
 refine k1 _ _ ?_
 try clear k1 K1
 refine wp_seq_k (fun K2 k2 => ?_)
 refine rg [0, 1, 2, 3, 4, 5, 6, 7, 8] ?_
 refine se ?_
 refine ec 8 (from_i (6) (by omega) (by omega) _) ?_
 rintro e3 w3 ⟨⟨x3, y3, rfl, h3⟩, g3⟩
 refine ⟨_, rfl, ?_⟩
 replace hB := hB.trans g3
 simp only [p3, p4]
 refine se ?_
 refine ec 9 (from_i (-4) (by omega) (by omega) _) ?_
 rintro e4 w4 ⟨⟨x4, y4, rfl, h4⟩, g4⟩
 refine ⟨_, rfl, ?_⟩
 replace hB := hB.trans g4
 simp only [p3, p4]
 refine se ?_
 replace h3 := h3.kp g4.kp
 refine ec 10 (make_a 64 h3 h4 (by decide) (by omega) (by omega) (by omega) (by omega)) ?_
 rintro e5 w5 ⟨⟨p5, q5, r5, s5, rfl, h5⟩, g5⟩
 refine ⟨_, rfl, ?_⟩
 replace hB := hB.trans g5
 rw [show (Rat.divInt (6) (-4) : Rat) = (-3 / 2 : Rat) from by kernel_rfl] at h5
 simp only [p3, p4]
 refine sv 7 (.tuple #[(.agg #[p5, q5, r5, s5]), (.int .i64 0)]) ?_
 simp only [p3, p4]
 refine sv 11 (.agg #[p5, q5, r5, s5]) ?_
 simp only [p3, p4]
 refine sv 12 (.int .i64 0) ?_
 simp only [p3, p4]
 refine se ?_
 refine ea 31 #[(.bool false), (.slice none 0 0), (.bool false), (.slice none 0 0)] 1 hB fun b6 w6 g6 L6 o6 q6 hB => ?_
 simp only [p3, p4]
 refine se ?_
 refine es 31 0 (.agg #[p5, q5, r5, s5]) [p5, q5, r5, s5] #[p5, q5, r5, s5] L6 hB q6 ⟨h5.one0, h5.one1, h5.one2, h5.one3, trivial⟩ fun w7 st7 kp7 L6 hB => ?_
 refine sv 2 (.int .i64 0) ?_
 simp only [p3, p4]
 refine sq_nil ?_
 refine k2 _ _ ?_
 try clear k2 K2
 refine wp_seq_k (fun K8 k8 => ?_)
 refine rg [0, 1, 2, 3, 4, 5, 6, 7, 8] ?_
 refine se ?_
 refine ec 14 (from_i (1) (by omega) (by omega) _) ?_
 rintro e9 w9 ⟨⟨x9, y9, rfl, h9⟩, g9⟩
 refine ⟨_, rfl, ?_⟩
 replace hB := hB.trans g9
 simp only [p3, p4]
 refine se ?_
 refine ec 15 (from_i (2) (by omega) (by omega) _) ?_
 rintro e10 w10 ⟨⟨x10, y10, rfl, h10⟩, g10⟩
 refine ⟨_, rfl, ?_⟩
 replace hB := hB.trans g10
 simp only [p3, p4]
 refine se ?_
 replace h9 := h9.kp g10.kp
 refine ec 16 (make_a 64 h9 h10 (by decide) (by omega) (by omega) (by omega) (by omega)) ?_
 rintro e11 w11 ⟨⟨p11, q11, r11, s11, rfl, h11⟩, g11⟩
 refine ⟨_, rfl, ?_⟩
 replace hB := hB.trans g11
 rw [show (Rat.divInt (1) (2) : Rat) = (1 / 2 : Rat) from by kernel_rfl] at h11
 simp only [p3, p4]
 refine sv 13 (.tuple #[(.agg #[p11, q11, r11, s11]), (.int .i64 0)]) ?_
 simp only [p3, p4]
 refine sv 17 (.agg #[p11, q11, r11, s11]) ?_
 simp only [p3, p4]
 refine sv 18 (.int .i64 0) ?_
 simp only [p3, p4]
 refine se ?_
 refine ea 31 #[(.bool false), (.slice none 0 0), (.bool false), (.slice none 0 0)] 3 hB fun b12 w12 g12 L12 o12 q12 hB => ?_
 replace L6 := L6.gr (g9.trans (g10.trans g11))
 have ne6_12 := L6.ne o12
 simp only [p3, p4]
 refine se ?_
 refine es 31 0 (.agg #[p11, q11, r11, s11]) [p11, q11, r11, s11] #[p11, q11, r11, s11] L12 hB q12 ⟨h11.one0, h11.one1, h11.one2, h11.one3, trivial⟩ fun w13 st13 kp13 L12 hB => ?_
 refine sv 4 (.int .i64 0) ?_
 simp only [p3, p4]
 refine sq_nil ?_
 refine k8 _ _ ?_
 try clear k8 K8
 refine wp_seq_k (fun K14 k14 => ?_)
 refine rg [0, 1, 2, 3, 4, 5, 6, 7, 8] ?_
 refine se ?_
 refine ec 20 (from_i (1) (by omega) (by omega) _) ?_
 rintro e15 w15 ⟨⟨x15, y15, rfl, h15⟩, g15⟩
 refine ⟨_, rfl, ?_⟩
 replace hB := hB.trans g15
 simp only [p3, p4]
 refine se ?_
 refine ec 21 (from_i (3) (by omega) (by omega) _) ?_
 rintro e16 w16 ⟨⟨x16, y16, rfl, h16⟩, g16⟩
 refine ⟨_, rfl, ?_⟩
 replace hB := hB.trans g16
 simp only [p3, p4]
 refine se ?_
 replace h15 := h15.kp g16.kp
 refine ec 22 (make_a 64 h15 h16 (by decide) (by omega) (by omega) (by omega) (by omega)) ?_
 rintro e17 w17 ⟨⟨p17, q17, r17, s17, rfl, h17⟩, g17⟩
 refine ⟨_, rfl, ?_⟩
 replace hB := hB.trans g17
 rw [show (Rat.divInt (1) (3) : Rat) = (1 / 3 : Rat) from by kernel_rfl] at h17
 simp only [p3, p4]
 refine sv 19 (.tuple #[(.agg #[p17, q17, r17, s17]), (.int .i64 0)]) ?_
 simp only [p3, p4]
 refine sv 23 (.agg #[p17, q17, r17, s17]) ?_
 simp only [p3, p4]
 refine sv 24 (.int .i64 0) ?_
 simp only [p3, p4]
 refine se ?_
 refine ea 31 #[(.bool false), (.slice none 0 0), (.bool false), (.slice none 0 0)] 5 hB fun b18 w18 g18 L18 o18 q18 hB => ?_
 replace L6 := (st13.lc (L6.gr g12) ne6_12).gr (g15.trans (g16.trans g17))
 have ne6_18 := L6.ne o18
 replace L12 := L12.gr (g15.trans (g16.trans g17))
 have ne12_18 := L12.ne o18
 simp only [p3, p4]
 refine se ?_
 refine es 31 0 (.agg #[p17, q17, r17, s17]) [p17, q17, r17, s17] #[p17, q17, r17, s17] L18 hB q18 ⟨h17.one0, h17.one1, h17.one2, h17.one3, trivial⟩ fun w19 st19 kp19 L18 hB => ?_
 refine sv 6 (.int .i64 0) ?_
 simp only [p3, p4]
 refine sq_nil ?_
 refine k14 _ _ ?_
 try clear k14 K14
 refine wp_seq_k (fun K20 k20 => ?_)
 refine rg [0, 1, 2, 3, 4, 5, 6, 7, 8, 9, 10, 11, 12, 13, 14, 15, 16, 17, 18, 19, 20, 21, 22, 23, 24, 25, 26, 27, 28, 29, 30, 31, 32, 33, 34] ?_
 refine sv 25 (.int .i64 0) ?_
 simp only [p3, p4]
 refine sv 26 (.bool true) ?_
 simp only [p3, p4]
 refine sv 27 (.bool true) ?_
 simp only [p3, p4]
 refine sv 28 (.int .i64 0) ?_
 simp only [p3, p4]
 refine sv 29 (.bool true) ?_
 simp only [p3, p4]
 refine sv 30 (.bool true) ?_
 simp only [p3, p4]
 refine sv 31 (.bool true) ?_
 simp only [p3, p4]
 refine sv 32 (.int .i64 0) ?_
 simp only [p3, p4]
 refine sv 33 (.bool true) ?_
 simp only [p3, p4]
 refine sv 34 (.bool true) ?_
 simp only [p3, p4]
 refine sv 35 (.bool true) ?_
 simp only [p3, p4]
 replace L6 := st19.lc (L6.gr g18) ne6_18
 refine sw 36 (.agg #[p5, q5, r5, s5]) rfl (rl 31 0 [p5, q5, r5, s5] L6) ?_
 simp only [p3, p4]
 refine se ?_
 have kq22 := g6.kp.trans (kp7.trans (g9.kp.trans (g10.kp.trans (g11.kp.trans (g12.kp.trans (kp13.trans (g15.kp.trans (g16.kp.trans (g17.kp.trans (g18.kp.trans kp19))))))))))
 replace h5 := h5.kp kq22
 refine ec 37 (number_r h5 (by omega) (ht.gr hB)) ?_
 rintro e21 w21 ⟨rfl, g21⟩
 refine ⟨_, rfl, ?_⟩
 replace hB := hB.trans g21
 simp only [p3, p4]
 have hb23 : (((ratL ((-3 / 2 : Rat))) == ([45, 51, 47, 50] : List UInt8))) = true := (lawK20  )
 refine sw 38 (.bool true) rfl (RunV.bool (x := ((ratL ((-3 / 2 : Rat))) == ([45, 51, 47, 50] : List UInt8))) (rv_seq 42 42 _ _ (ratL ((-3 / 2 : Rat))) ([45, 51, 47, 50]) rfl rfl rfl) hb23) ?_
 simp only [p3, p4]
 refine sv 39 (.bool true) ?_
 simp only [p3, p4]
 refine sv 40 (.bool true) ?_
 simp only [p3, p4]
 replace L6 := L6.gr g21
 refine sw 41 (.agg #[p5, q5, r5, s5]) rfl (rl 31 0 [p5, q5, r5, s5] L6) ?_
 simp only [p3, p4]
 refine se ?_
 replace h5 := h5.kp g21.kp
 refine ec 42 (floor_r h5 (by omega)) ?_
 rintro e24 w24 ⟨⟨x24, y24, rfl, h24⟩, g24⟩
 refine ⟨_, rfl, ?_⟩
 replace hB := hB.trans g24
 rw [show ((-3 / 2 : Rat).num / ((-3 / 2 : Rat).den : Int)) = (-2 : Int) from by kernel_rfl] at h24
 simp only [p3, p4]
 refine se ?_
 refine ec 43 (text_i h24 (by omega) (ht.gr hB)) ?_
 rintro e25 w25 ⟨rfl, g25⟩
 refine ⟨_, rfl, ?_⟩
 replace hB := hB.trans g25
 simp only [p3, p4]
 have hb26 : (((Lib.itoa (-2)) == ([45, 50] : List UInt8))) = true := (lawK21  )
 refine sw 44 (.bool true) rfl (RunV.bool (x := ((Lib.itoa (-2)) == ([45, 50] : List UInt8))) (rv_seq 9 9 _ _ (Lib.itoa (-2)) ([45, 50]) rfl rfl rfl) hb26) ?_
 simp only [p3, p4]
 refine sv 45 (.bool true) ?_
 simp only [p3, p4]
 refine sv 46 (.bool true) ?_
 simp only [p3, p4]
 replace L6 := L6.gr (g24.trans g25)
 refine sw 47 (.agg #[p5, q5, r5, s5]) rfl (rl 31 0 [p5, q5, r5, s5] L6) ?_
 simp only [p3, p4]
 refine se ?_
 have kq28 := g24.kp.trans g25.kp
 replace h5 := h5.kp kq28
 refine ec 48 (ceil_r h5 (by omega)) ?_
 rintro e27 w27 ⟨⟨x27, y27, rfl, h27⟩, g27⟩
 refine ⟨_, rfl, ?_⟩
 replace hB := hB.trans g27
 rw [show (-((-(-3 / 2 : Rat)).num / ((-(-3 / 2 : Rat)).den : Int))) = (-1 : Int) from by kernel_rfl] at h27
 simp only [p3, p4]
 refine se ?_
 refine ec 49 (text_i h27 (by omega) (ht.gr hB)) ?_
 rintro e29 w29 ⟨rfl, g29⟩
 refine ⟨_, rfl, ?_⟩
 replace hB := hB.trans g29
 simp only [p3, p4]
 have hb30 : (((Lib.itoa (-1)) == ([45, 49] : List UInt8))) = true := (lawK22  )
 refine sw 50 (.bool true) rfl (RunV.bool (x := ((Lib.itoa (-1)) == ([45, 49] : List UInt8))) (rv_seq 9 9 _ _ (Lib.itoa (-1)) ([45, 49]) rfl rfl rfl) hb30) ?_
 simp only [p3, p4]
 refine sv 51 (.bool true) ?_
 simp only [p3, p4]
 refine sv 52 (.bool true) ?_
 simp only [p3, p4]
 replace L12 := (st19.lc (L12.gr g18) ne12_18).gr (g21.trans (g24.trans (g25.trans (g27.trans g29))))
 refine sw 53 (.agg #[p11, q11, r11, s11]) rfl (rl 31 0 [p11, q11, r11, s11] L12) ?_
 simp only [p3, p4]
 replace L18 := L18.gr (g21.trans (g24.trans (g25.trans (g27.trans g29))))
 refine sw 54 (.agg #[p17, q17, r17, s17]) rfl (rl 31 0 [p17, q17, r17, s17] L18) ?_
 simp only [p3, p4]
 refine se ?_
 have kq32 := g12.kp.trans (kp13.trans (g15.kp.trans (g16.kp.trans (g17.kp.trans (g18.kp.trans (kp19.trans (g21.kp.trans (g24.kp.trans (g25.kp.trans (g27.kp.trans g29.kp))))))))))
 replace h11 := h11.kp kq32
 have kq33 := g18.kp.trans (kp19.trans (g21.kp.trans (g24.kp.trans (g25.kp.trans (g27.kp.trans g29.kp)))))
 replace h17 := h17.kp kq33
 refine ec 55 (add_r h11 h17 (by omega)) ?_
 rintro e31 w31 ⟨⟨p31, q31, r31, s31, rfl, h31⟩, g31⟩
 refine ⟨_, rfl, ?_⟩
 replace hB := hB.trans g31
 rw [show (((1 / 2 : Rat) + (1 / 3 : Rat)) : Rat) = (5 / 6 : Rat) from by kernel_rfl] at h31
 simp only [p3, p4]
 refine se ?_
 refine ec 56 (number_r h31 (by omega) (ht.gr hB)) ?_
 rintro e34 w34 ⟨rfl, g34⟩
 refine ⟨_, rfl, ?_⟩
 replace hB := hB.trans g34
 simp only [p3, p4]
 have hb35 : (((ratL ((5 / 6 : Rat))) == ([53, 47, 54] : List UInt8))) = true := (lawK23  )
 refine sw 57 (.bool true) rfl (RunV.bool (x := ((ratL ((5 / 6 : Rat))) == ([53, 47, 54] : List UInt8))) (rv_seq 42 42 _ _ (ratL ((5 / 6 : Rat))) ([53, 47, 54]) rfl rfl rfl) hb35) ?_
 simp only [p3, p4]
 refine sv 58 (.bool true) ?_
 simp only [p3, p4]
 refine sv 0 (.bool true) ?_
 simp only [p3]
 refine sq_nil ?_
 refine k20 _ _ ?_
 try clear k20 K20
 refine wp_ret ?_
 refine bodyPost_ret (v := (.bool true)) (ret_tmp rfl rfl) rfl ⟨?_, hB⟩
 exact rfl

end Go.Proofs.YtloocadjbpgldaaGreatDoor
/- Contracts in the form that the laws of chapter 02 want. -/
namespace Go.Proofs.YtloocadjbpgldaaGreatDoor
open Go.RowKit

theorem r1_check_l (X : List UInt8) (hs : X.length ≤ 60000) (w : World) :
    Calls Tryz.prog 16 #[.string ⟨X.toArray⟩] w fun e w' => e = .returned (.int .i64 (ck1 X)) ∧ Gr w w' := by
  refine (r1_check ⟨X.toArray⟩ w (by show X.toArray.size ≤ _; simpa using hs)).mono ?_
  rintro e w1 ⟨he, rfl⟩
  exact ⟨he, Gr.refl _⟩
theorem sz_divInt {k : Nat} {x y : Int} (hx : Sz k x) (hy : Sz k y) (h0 : y ≠ 0) : Sz k (Rat.divInt x y).num ∧ Sz k ((Rat.divInt x y).den : Int) := by
  have key : ∀ {x y : Int}, Sz k x → Sz k y → 0 < y → Sz k (Rat.divInt x y).num ∧ Sz k ((Rat.divInt x y).den : Int) := by
    intro x y hx hy h0
    obtain ⟨h1, h2, h3⟩ := divInt_parts (N := x) h0
    rw [h1, h2]
    exact ⟨sz_div hx h3, sz_div hy h3⟩
  rcases Int.lt_or_gt_of_ne h0 with h | h
  · have := key hx.neg hy.neg (by omega)
    rwa [Rat.neg_divInt_neg] at this
  · exact key hx hy h
theorem r2_text_q {k : Nat} (x y : Int) (q : Rat) (e : q = Rat.divInt x y) (hx : Sz k x) (hy : Sz k y) (h0 : y ≠ 0) (hk : k ≤ 30000) (w : World) :
    Calls Tryz.prog 20 #[.string ⟨(Lib.itoa x).toArray⟩, .string ⟨(Lib.itoa y).toArray⟩] w fun e w' => e = .returned (.string ⟨(ratL q).toArray⟩) ∧ Gr w w' := by
  subst e
  rcases Int.lt_or_gt_of_ne h0 with h | h
  · exact r2_text_n x y hx hy h (by omega) w
  · exact r2_text_p x y hx hy h (by omega) w
end Go.Proofs.YtloocadjbpgldaaGreatDoor
/- Texts of rationals of at most 40 bytes; magnitudes. -/
namespace Go.Proofs.YtloocadjbpgldaaGreatDoor
open Go.RowKit

theorem ratL_iz (z : Int) : ratL ((z : Int) : Rat) = Lib.itoa z := ratL_w rfl
/-- both numbers of a short text are small -/
theorem ratL_sz (q : Rat) {m : Nat} (h : (ratL q).length ≤ m) : Sz (4 * m) q.num ∧ Sz (4 * m) (q.den : Int) := by
  have h1 : (Lib.itoa q.num).length ≤ m ∧ (q.den = 1 ∨ (Lib.itoa (q.den : Int)).length ≤ m) := by
    by_cases hw : q.den = 1
    · rw [ratL_w hw] at h; exact ⟨h, .inl hw⟩
    · rw [ratL_f hw] at h
      simp only [List.length_append, List.length_cons, List.length_nil] at h
      exact ⟨by omega, .inr (by omega)⟩
  refine ⟨itoa_sz _ h1.1, ?_⟩
  rcases h1.2 with e | e
  · rw [e]
    have := itoa_pos q.num
    have : 0 < 4 * m := by omega
    show (1 : Nat) < 2 ^ (4 * m)
    exact Nat.one_lt_two_pow (by omega)
  · exact itoa_sz _ e
/-- the text of a rational, of at most 40 bytes -/
def okT (X : List UInt8) : Bool := !decide ((40 : Int) < ((X).length : Int)) && !(ck2 (X) 40 != (0 : Int))
theorem okT_len {X : List UInt8} (h : okT X = true) : X.length ≤ 40 := by
  unfold okT at h
  simp only [Bool.and_eq_true, Bool.not_eq_true', decide_eq_false_iff_not] at h
  omega
theorem okT_rat {X : List UInt8} (h : okT X = true) : ∃ a : Rat, X = ratL a ∧ (Sz 160 a.num ∧ Sz 160 (a.den : Int)) ∧ okT (ratL a) = true := by
  have h2 := h
  unfold okT at h2
  simp only [Bool.and_eq_true, Bool.not_eq_true', bne_eq_false_iff_eq] at h2
  obtain ⟨⟨q, rfl⟩, hl⟩ := ck2_ratL h2.2
  exact ⟨q, rfl, ratL_sz q hl, h⟩
theorem ok2_0 {X Y : List UInt8} (h : (okT X && okT Y) = true) : okT X = true := (Bool.and_eq_true_iff.1 h).1
theorem ok2_1 {X Y : List UInt8} (h : (okT X && okT Y) = true) : okT Y = true := (Bool.and_eq_true_iff.1 h).2
theorem ok3_0 {X Y Z : List UInt8} (h : ((okT X && okT Y) && okT Z) = true) : okT X = true := ok2_0 (Bool.and_eq_true_iff.1 h).1
theorem ok3_1 {X Y Z : List UInt8} (h : ((okT X && okT Y) && okT Z) = true) : okT Y = true := ok2_1 (Bool.and_eq_true_iff.1 h).1
theorem ok3_2 {X Y Z : List UInt8} (h : ((okT X && okT Y) && okT Z) = true) : okT Z = true := (Bool.and_eq_true_iff.1 h).2
theorem okT_2 {X Y : List UInt8} (h : okT X = true) (k : okT Y = true) : (okT X && okT Y) = true := by rw [h, k]; rfl
theorem okT_3 {X Y Z : List UInt8} (h : okT X = true) (k : okT Y = true) (l : okT Z = true) : ((okT X && okT Y) && okT Z) = true := by rw [h, k, l]; rfl
theorem r2_check_l (X : List UInt8) (most : Nat) (hs : X.length ≤ 10000) (hm : most ≤ 1000000) (w : World) :
    Calls Tryz.prog 27 #[.string ⟨X.toArray⟩, .int .i64 (most : Int)] w fun e w' => e = .returned (.int .i64 (ck2 X most)) ∧ Gr w w' := by
  refine (r2_check ⟨X.toArray⟩ most w (by show X.toArray.size ≤ _; simpa using hs) hm).mono ?_
  rintro e w1 ⟨he, g⟩
  exact ⟨he, g⟩
/-- the magnitude of a rational -/
def rabs (a : Rat) : Rat := if a.num < 0 then -a else a
theorem IsRat.abs {w : World} {k : Nat} {c0 c1 c2 c3 x y : Value} {q : Rat} (h : IsRat w k c0 c1 c2 c3 q) (hi : IsInt w k x y (q.num.natAbs : Int)) : IsRat w k x y c2 c3 (rabs q) := by
  obtain ⟨D, h2, h3⟩ := h.den
  unfold rabs
  split
  · refine ⟨?_, ⟨D, h2, h3⟩, h.big⟩
    have e : (-q).num = (q.num.natAbs : Int) := by rw [Rat.neg_num]; omega
    rw [e]; exact hi
  · refine ⟨?_, ⟨D, h2, h3⟩, h.big⟩
    have e : q.num = (q.num.natAbs : Int) := by omega
    rw [e]; exact hi
end Go.Proofs.YtloocadjbpgldaaGreatDoor
/- The order of rationals: what Compare, Min, Max, Floor and Ceil say of it. -/
namespace Go.Proofs.YtloocadjbpgldaaGreatDoor
open Go.RowKit

theorem sgn_neg' (z : Int) : sgn (-z) = -sgn z := by
  unfold sgn
  split <;> split <;> (try split) <;> omega
theorem sgn_lt0 {z : Int} : sgn z < 0 ↔ z < 0 := by unfold sgn; split <;> (try split) <;> omega
theorem sgn_pos0 {z : Int} : 0 < sgn z ↔ 0 < z := by unfold sgn; split <;> (try split) <;> omega
theorem rcmp_swap (a b : Rat) : rcmp b a = -rcmp a b := by
  unfold rcmp; rw [← sgn_neg']; congr 1; omega
theorem rcmp_lt {a b : Rat} : rcmp a b < 0 ↔ a < b := by
  unfold rcmp; rw [sgn_lt0, Rat.lt_iff]; omega
theorem rcmp_gt {a b : Rat} : 0 < rcmp a b ↔ b < a := by
  unfold rcmp; rw [sgn_pos0, Rat.lt_iff]; omega
theorem rcmp_le {a b : Rat} : rcmp a b ≤ 0 ↔ a ≤ b := by
  have h := rcmp_gt (a := a) (b := b)
  rw [← Rat.not_lt, ← h]; omega
theorem rcmp_ge {a b : Rat} : 0 ≤ rcmp a b ↔ b ≤ a := by
  have h := rcmp_lt (a := a) (b := b)
  rw [← Rat.not_lt, ← h]; omega
/-- two orders are the same -/
theorem rcmp_eq {a b c d : Rat} (h1 : a < b ↔ c < d) (h2 : a = b ↔ c = d) : rcmp a b = rcmp c d := by
  rw [← rcmp_lt (a := a), ← rcmp_lt (a := c)] at h1
  rw [← rcmp_zero (a := a), ← rcmp_zero (a := c)] at h2
  have k1 : rcmp a b = -1 ∨ rcmp a b = 0 ∨ rcmp a b = 1 := by unfold rcmp sgn; split <;> (try split) <;> simp
  have k2 : rcmp c d = -1 ∨ rcmp c d = 0 ∨ rcmp c d = 1 := by unfold rcmp sgn; split <;> (try split) <;> simp
  omega
theorem rcmp_three (a b : Rat) : rcmp a b = -1 ∨ rcmp a b = 0 ∨ rcmp a b = 1 := by unfold rcmp sgn; split <;> (try split) <;> simp
theorem num_sgn {a : Rat} : sgn a.num = rcmp a 0 := by
  unfold rcmp; congr 1; simp
theorem least_text (a b : Rat) : ((ratL ((if decide (rcmp b a < (0 : Int)) = true then b else a))) == ((if decide (rcmp (a) (b) ≤ (0 : Int)) then ratL a else ratL b))) = true := by
  have h := rcmp_swap a b
  by_cases hc : rcmp a b ≤ 0
  · rw [if_neg (by simp; omega), if_pos (by simpa using hc)]; exact beq_self_eq_true _
  · rw [if_pos (by simp; omega), if_neg (by simpa using hc)]; exact beq_self_eq_true _
theorem most_text (a b : Rat) : ((ratL ((if decide ((0 : Int) < rcmp b a) = true then b else a))) == ((if decide ((0 : Int) ≤ rcmp (a) (b)) then ratL a else ratL b))) = true := by
  have h := rcmp_swap a b
  by_cases hc : 0 ≤ rcmp a b
  · rw [if_neg (by simp; omega), if_pos (by simpa using hc)]; exact beq_self_eq_true _
  · rw [if_pos (by simp; omega), if_neg (by simpa using hc)]; exact beq_self_eq_true _
theorem divInt_one (z : Int) : Rat.divInt z 1 = (z : Rat) := by rw [Rat.divInt_eq_div]; simp only [Rat.intCast_one]; grind
theorem low_floor (a : Rat) : ((a.num / (a.den : Int) : Int) : Rat) = (a.floor : Rat) := by rw [Rat.floor_def]
theorem high_ceil (a : Rat) : ((-((-a).num / ((-a).den : Int)) : Int) : Rat) = (a.ceil : Rat) := by rw [Rat.ceil_eq_neg_floor_neg, Rat.floor_def]
theorem floor_eq_ceil (a : Rat) : a.num / (a.den : Int) = -((-a).num / ((-a).den : Int)) ↔ a.den = 1 := by
  rw [Rat.neg_num, Rat.neg_den]
  have hp := a.den_pos
  constructor
  · intro h
    have hd : (a.den : Int) ∣ a.num := by
      have e1 := Int.emod_add_mul_ediv a.num a.den
      have e2 := Int.emod_add_mul_ediv (-a.num) a.den
      have b1 := Int.emod_nonneg a.num (show (a.den : Int) ≠ 0 by omega)
      have b2 := Int.emod_nonneg (-a.num) (show (a.den : Int) ≠ 0 by omega)
      have e3 : (a.den : Int) * (-a.num / a.den) = -((a.den : Int) * (a.num / a.den)) := by
        have : -a.num / (a.den : Int) = -(a.num / (a.den : Int)) := by omega
        rw [this, Int.mul_neg]
      exact Int.dvd_of_emod_eq_zero (by omega)
    have := a.reduced
    have h2 : a.den ∣ a.num.natAbs := Int.ofNat_dvd_left.1 hd
    have h3 := Nat.Coprime.eq_one_of_dvd this.symm h2
    exact h3
  · intro h
    rw [h]; simp
end Go.Proofs.YtloocadjbpgldaaGreatDoor
