/- Joined of: Rda, Gen47, Zs, Reads, Gen54, RowRationalReads. -/
import Derived.Test.YtloocadjbpgldaaGreatDoorPartE
import Derived.Lib.SlBytesRow
import Derived.Laws.OwnMore
import Derived.Test.YtloocadjbpgldaaGreatDoorPartD
import Derived.Test.YtloocadjbpgldaaGreatDoorPartF
import Derived.Test.YtloocadjbpgldaaGreatDoorCards
import Derived.Test.YtloocadjbpgldaaGreatDoorTie
/- What rational.read meets at any text: the library's functions, integer.Parse at texts out of their form. -/
namespace Go.Proofs.YtloocadjbpgldaaGreatDoor
open Go.RowKit

theorem trimS_nil {l cs : List UInt8} : Lib.trimS l cs = [] ↔ ∀ c ∈ l, cs.contains c = true := by
  constructor
  · intro h c hc
    rcases Bool.eq_false_or_eq_true (cs.contains c) with e | e
    · exact e
    · exact absurd h (trimS_some hc e)
  · exact trimS_all
theorem digit_iff {c : UInt8} : [48, 49, 50, 51, 52, 53, 54, 55, 56, 57].contains c = true ↔ 48 ≤ c.toNat ∧ c.toNat ≤ 57 := by
  constructor
  · intro h
    simp only [List.contains_cons, List.contains_nil, Bool.or_eq_true, beq_iff_eq, Bool.or_false] at h
    rcases h with rfl | rfl | rfl | rfl | rfl | rfl | rfl | rfl | rfl | rfl <;> decide
  · exact digit_in
/-- some bytes, all of them digits -/
theorem allD_trim (l : List UInt8) : allD l = ((l != ([] : List UInt8)) && (Lib.trimS l [48, 49, 50, 51, 52, 53, 54, 55, 56, 57] == ([] : List UInt8))) := by
  rw [Bool.eq_iff_iff]
  simp only [allD, Bool.and_eq_true, decide_eq_true_eq, List.all_eq_true, bne_iff_ne, beq_iff_eq, trimS_nil, digit_iff, isD_iff]
  rw [← List.length_pos_iff]
theorem zeros_trim (l : List UInt8) : zerosL l = (Lib.trimS l [48] == ([] : List UInt8)) := by
  rw [Bool.eq_iff_iff]
  simp [zerosL, trimS_nil]
theorem trim_any (l : List UInt8) (hl : l.length ≤ 1000000) (w : World) :
    Calls Tryz.prog 130 #[.string ⟨l.toArray⟩, .string ⟨#[48, 49, 50, 51, 52, 53, 54, 55, 56, 57]⟩] w fun e w' => e = .returned (.string ⟨(Lib.trimS l [48, 49, 50, 51, 52, 53, 54, 55, 56, 57]).toArray⟩) ∧ Gr w w' := by
  refine (Any.strings_Trim_laid Tryz.lays160 (by kernel_rfl) ⟨l.toArray⟩ ⟨#[48, 49, 50, 51, 52, 53, 54, 55, 56, 57]⟩ w (by show l.toArray.size ≤ _; simp; omega) (by decide) (ascii_of_all (by decide))).mono ?_
  rintro e w1 ⟨he, g⟩
  exact ⟨he, g⟩
theorem trim_any0 (l : List UInt8) (hl : l.length ≤ 1000000) (w : World) :
    Calls Tryz.prog 130 #[.string ⟨l.toArray⟩, .string ⟨#[48]⟩] w fun e w' => e = .returned (.string ⟨(Lib.trimS l [48]).toArray⟩) ∧ Gr w w' := by
  refine (Any.strings_Trim_laid Tryz.lays160 (by kernel_rfl) ⟨l.toArray⟩ ⟨#[48]⟩ w (by show l.toArray.size ≤ _; simp; omega) (by decide) (ascii_of_all (by decide))).mono ?_
  rintro e w1 ⟨he, g⟩
  exact ⟨he, g⟩
theorem trimprefix_any (l : List UInt8) (w : World) : Calls Tryz.prog 129 #[.string ⟨l.toArray⟩, .string ⟨#[45]⟩] w fun e w' => e = .returned (.string ⟨(strip l).toArray⟩) ∧ Gr w w' := by
  refine (Tryz.strings_TrimPrefix _ _ _).mono ?_
  rintro e w1 ⟨he, rfl⟩
  refine ⟨?_, Gr.refl _⟩
  rw [he]
  show Ending.returned (.string ⟨(Lib.trimPrefix l [45]).toArray⟩) = _
  have : Lib.trimPrefix l [45] = strip l := by
    cases l with
    | nil => rfl
    | cons c l =>
      rw [strip_cons]
      by_cases hc : c = 45
      · subst hc; simp [Lib.trimPrefix, Lib.hasPrefix]
      · have : ¬ (45 : UInt8) = c := fun e => hc e.symm
        simp [Lib.trimPrefix, Lib.hasPrefix, List.isPrefixOf, hc, this]
  rw [this]
theorem cut_any (l : List UInt8) (hl : l.length ≤ 1000000) {w : World} (hm : Mx w) :
    Calls Tryz.prog 127 #[.string ⟨l.toArray⟩, .string ⟨#[47]⟩] w fun e w' => e = .returned (.tuple #[.string ⟨(numL l).toArray⟩, .string ⟨((cutL l).2.getD []).toArray⟩, .bool (cutL l).2.isSome]) ∧ Gr w w' := by
  obtain ⟨m, hm⟩ := hm
  refine (Tryz.strings_Cut ⟨l.toArray⟩ ⟨#[47]⟩ m w (by show l.toArray.size < _; simp; omega) hm).mono ?_
  rintro e w1 ⟨he, n, rfl⟩
  refine ⟨?_, (Below.refl _ _).drewN _⟩
  rw [he]
  have e1 : (⟨l.toArray⟩ : ByteArray).data.toList = l := by simp
  rw [e1, show (⟨#[47]⟩ : ByteArray).data.toList = [47] from rfl, cut_slash]
theorem cut_no (l : List UInt8) (hl : l.length ≤ 1000000) (hc : cutL l = (l, none)) {w : World} (hm : Mx w) :
    Calls Tryz.prog 127 #[.string ⟨l.toArray⟩, .string ⟨#[47]⟩] w fun e w' => e = .returned (.tuple #[.string ⟨l.toArray⟩, .string ⟨([] : List UInt8).toArray⟩, .bool false]) ∧ Gr w w' := by
  refine (cut_any l hl hm).mono ?_
  rintro e w1 ⟨he, g⟩
  exact ⟨by rw [he, numL, hc]; rfl, g⟩
theorem cut_yes (X A D : List UInt8) (hl : X.length ≤ 1000000) (hc : cutL X = (A, some D)) {w : World} (hm : Mx w) :
    Calls Tryz.prog 127 #[.string ⟨X.toArray⟩, .string ⟨#[47]⟩] w fun e w' => e = .returned (.tuple #[.string ⟨A.toArray⟩, .string ⟨D.toArray⟩, .bool true]) ∧ Gr w w' := by
  refine (cut_any X hl hm).mono ?_
  rintro e w1 ⟨he, g⟩
  exact ⟨by rw [he, numL, hc]; rfl, g⟩
theorem strip_len (l : List UInt8) : (strip l).length ≤ l.length := by
  rcases strip_cases l with e | ⟨e, _⟩
  · have := congrArg List.length e; simp at this; omega
  · have := congrArg List.length e; omega
theorem strip_dig {l : List UInt8} (h : allD l = true) : allD (strip l) = true := by
  cases l with
  | nil => exact h
  | cons c l =>
    rw [strip_cons]
    by_cases hc : c = 45
    · have := (allD_all h).2 c (by simp)
      subst hc
      simp at this
    · rw [if_neg hc]; exact h
theorem badZ_head {l : List UInt8} (h : allD l = true) (h2 : zerosL l = false) (h3 : (l[0]? == some 48) = true) : badZ l = true := by
  cases l with
  | nil => cases h3
  | cons c l =>
    have hc : c = 48 := by simpa using h3
    subst hc
    cases l with
    | nil => simp [zerosL] at h2
    | cons d l => simp [badZ, strip_cons]
set_option maxHeartbeats 1000000 in
theorem parse_bad (l : List UInt8) (hl : l.length ≤ 60000) (h1 : allD (strip l) = true) (h2 : badZ l = true) (w : World) :
    Calls Tryz.prog 17 #[.string ⟨l.toArray⟩] w fun e w' => e = .returned (.tuple #[.agg #[.bool false, .slice none 0 0], .int .i64 3]) ∧ Gr w w' := by
  have hs1 := allD_all h1
  obtain ⟨s, hs⟩ : ∃ s : ByteArray, s = ⟨l.toArray⟩ := ⟨_, rfl⟩
  have hss : s.size = l.length := by rw [hs]; show l.toArray.size = _; simp
  obtain ⟨D, hD⟩ : ∃ D : ByteArray, D = ⟨(strip l).toArray⟩ := ⟨_, rfl⟩
  have hDl : D.data.toList = strip l := by rw [hD]
  have hDs : D.size = (strip l).length := by rw [hD]; show (strip l).toArray.size = _; simp
  have hD0 : 0 < D.size := by rw [hDs]; exact List.length_pos_iff.2 hs1.1
  have hslen := strip_len l
  have hc : ∀ w, Calls Tryz.prog 73 #[.string s, .string ⟨#[45]⟩] w fun e w' => e = .returned (.tuple #[.string D, .bool (decide ((strip l).length < l.length))]) ∧ w = w' := by
    intro w
    rw [hs, hD]
    refine (Tryz.strings_CutPrefix _ _ _).mono ?_
    rintro e w1 ⟨he, rfl⟩
    refine ⟨?_, rfl⟩
    rw [he]
    show Ending.returned (.tuple #[.string ⟨(Lib.trimPrefix l [45]).toArray⟩, .bool (Lib.hasPrefix l [45])]) = _
    cases l with
    | nil => rfl
    | cons c l =>
      rw [strip_cons]
      by_cases hc : c = 45
      · subst hc; simp [Lib.trimPrefix, Lib.hasPrefix]
      · have : ¬ (45 : UInt8) = c := fun e => hc e.symm
        simp [Lib.trimPrefix, Lib.hasPrefix, List.isPrefixOf, hc, this]
  have hcn := contains_no D (by rw [hDl]; exact hs1.2)
  have hne : (D.toList == []) = false := by
    rw [beq_eq_false_iff_ne, ByteArray.toList_eq, hDl]; exact hs1.1
  have hz0 : (D[0].toNat : Int) = 48 ∧ (1 < D.size ∨ (strip l).length < l.length) := by
    unfold badZ at h2
    simp only [Bool.and_eq_true, Bool.or_eq_true, decide_eq_true_eq] at h2
    have hh := head48 hD0
    rw [hDl, h2.1] at hh
    have hh := (beq_iff_eq.1 hh.symm)
    refine ⟨hh, ?_⟩
    rw [hDs]
    omega
  have h48' : ((D[0].toNat : Int) == 48) = true := by rw [hz0.1]; rfl
  have hor := hz0.2
  have hD1 : D.size ≤ 60000 := by omega
  have hss2 : s.size ≤ 60000 := by omega
  rw [← hs]
  have HD := Lib.hid hDl
  clear hz0 hDl hDs hD hs hss h2 hs1 h1 hslen
  go_enter Tryz.func17, Tryz.ntmps17
  go_wp2_with fail
  (with_reducible refine (hc _).mono ?_)
  rintro e w1 ⟨rfl, rfl⟩
  clear hc
  go_wp2_with fail
  (with_reducible refine (hcn _).mono ?_)
  rintro e w2 ⟨rfl, g2⟩
  clear hcn
  have p3 := Gr.heap g2 (heap_alloc_new w (.cells #[.bool false, .slice none 0 0] 27))
  have d0 := cells_of p3 0
  have d1 := cells_of p3 1
  have d2 := free_of p3
  have gw : Gr w w2 := (Gr.alloc w _).trans g2
  by_cases hD2 : (1 : Int) < (D.size : Int)
  · go_wp2
    have p4 := heap_setCell_at (i := 1) (.slice none 0 0) (heap_setCell_at (i := 0) (.bool false) p3)
    have hst := (St.setCell w2 w.heap.size 0 (.bool false)).trans (St.setCell _ w.heap.size 1 (.slice none 0 0))
    exact bodyPost_ret (v := .tuple #[.agg #[.bool false, .slice none 0 0], .int .i64 3]) (ret_cell_tmp' _ _ _ rfl rfl p4 (by kernel_rfl) rfl) rfl ⟨rfl, hst.gr gw (Nat.le_refl _)⟩
  · have hlt : (strip l).length < l.length := by
      rcases hor with h | h
      · omega
      · exact h
    go_wp2
    have p4 := heap_setCell_at (i := 1) (.slice none 0 0) (heap_setCell_at (i := 0) (.bool false) p3)
    have hst := (St.setCell w2 w.heap.size 0 (.bool false)).trans (St.setCell _ w.heap.size 1 (.slice none 0 0))
    exact bodyPost_ret (v := .tuple #[.agg #[.bool false, .slice none 0 0], .int .i64 3]) (ret_cell_tmp' _ _ _ rfl rfl p4 (by kernel_rfl) rfl) rfl ⟨rfl, hst.gr gw (Nat.le_refl _)⟩
end Go.Proofs.YtloocadjbpgldaaGreatDoor
/- Printed by a program of the prover's: rational.read at any text. -/
namespace Go.Proofs.YtloocadjbpgldaaGreatDoor
open Go.RowKit

set_option maxRecDepth 100000 in
set_option maxHeartbeats 1000000 in
theorem rdigits_a (l : List UInt8) (_hl : l.length ≤ 1000000) (w : World) :
    Calls Tryz.prog 128 #[(.string ⟨(l : List UInt8).toArray⟩)] w fun e w' => e = .returned (.bool (allD l)) ∧ Gr w w' := by
 go_enter Tryz.func128, Tryz.ntmps128
 have hB := Gr.refl w
 refine wp_seq_k (fun K1 k1 => ?_)
 refine rg [0] ?_
 refine sv 2 (.bool false) ?_
 simp only [p3, p4]
 refine sq_nil ?_
 refine k1 _ _ ?_
 try clear k1 K1
 refine wp_seq_k (fun K2 k2 => ?_)
 refine rg [0, 1, 2, 3, 4, 5, 6, 7] ?_
 refine sv 3 (.string ⟨(l : List UInt8).toArray⟩) ?_
 simp only [p3, p4]
 refine sw 4 (.bool (((l) != ([] : List UInt8)))) rfl (rv_sne 9 9 _ _ (l) ([]) rfl rfl rfl) ?_
 simp only [p3, p4]
 rcases Bool.eq_false_or_eq_true (((l) != ([] : List UInt8))) with hb3 | hb3
 ·refine sw 5 (.bool true) rfl (RunV.bool (x := ((l) != ([] : List UInt8))) (rvk (by kernel_rfl)) hb3) ?_
  simp only [p3, p4]
  refine sv 6 (.string ⟨(l : List UInt8).toArray⟩) ?_
  simp only [p3, p4]
  refine se ?_
  refine ec 7 (trim_any (l) (by omega) _) ?_
  rintro e4 w4 ⟨rfl, g4⟩
  refine ⟨_, rfl, ?_⟩
  replace hB := hB.trans g4
  simp only [p3, p4]
  refine sw 8 (.bool (((Lib.trimS (l) [48, 49, 50, 51, 52, 53, 54, 55, 56, 57]) == ([] : List UInt8)))) rfl (rv_seq 9 9 _ _ (Lib.trimS (l) [48, 49, 50, 51, 52, 53, 54, 55, 56, 57]) ([]) rfl rfl rfl) ?_
  simp only [p3, p4]
  refine sv 9 (.bool (((Lib.trimS (l) [48, 49, 50, 51, 52, 53, 54, 55, 56, 57]) == ([] : List UInt8)))) ?_
  simp only [p3, p4]
  refine sv 2 (.bool (((Lib.trimS (l) [48, 49, 50, 51, 52, 53, 54, 55, 56, 57]) == ([] : List UInt8)))) ?_
  simp only [p3, p4]
  refine sq_nil ?_
  refine k2 _ _ ?_
  try clear k2 K2
  refine wp_ret ?_
  refine bodyPost_ret (v := (.bool (((Lib.trimS (l) [48, 49, 50, 51, 52, 53, 54, 55, 56, 57]) == ([] : List UInt8))))) (ret_tmp rfl rfl) rfl ⟨?_, hB⟩
  exact (by rw [allD_trim, hb3]; rfl)
 ·refine sw 5 (.bool false) rfl (RunV.bool (x := ((l) != ([] : List UInt8))) (rvk (by kernel_rfl)) hb3) ?_
  simp only [p3, p4]
  refine ss 6 ?_
  simp only [p3, p4]
  refine ss 7 ?_
  simp only [p3, p4]
  refine ss 8 ?_
  simp only [p3, p4]
  refine sv 9 (.bool false) ?_
  simp only [p3, p4]
  refine sv 2 (.bool false) ?_
  simp only [p3, p4]
  refine sq_nil ?_
  refine k2 _ _ ?_
  try clear k2 K2
  refine wp_ret ?_
  refine bodyPost_ret (v := (.bool false)) (ret_tmp rfl rfl) rfl ⟨?_, hB⟩
  exact (by rw [allD_trim, hb3]; rfl)

set_option maxRecDepth 100000 in
set_option maxHeartbeats 1000000 in
theorem read_long (X : List UInt8) (most : Int) (_hx : X.length ≤ 1000000) (_hlong : most < (X.length : Int)) (w : World) (hm : Mx w) :
    Calls Tryz.prog 92 #[(.string ⟨(X : List UInt8).toArray⟩), (.int .i64 (most))] w fun e w' => e = .returned (.tuple #[.agg #[.bool false, .slice none 0 0, .bool false, .slice none 0 0], .int .i64 5]) ∧ Gr w w' := by
 have hl : decide (most < ((X).length : Int)) = true := by simp; omega
 go_enter Tryz.func92, Tryz.ntmps92
 have hB := Gr.refl w
 refine wp_seq_k (fun K1 k1 => ?_)
 refine rg [0, 1] ?_
 refine se ?_
 refine ea 31 #[(.bool false), (.slice none 0 0), (.bool false), (.slice none 0 0)] 4 hB fun b2 w2 g2 L2 o2 q2 hB => ?_
 simp only [p3, p4]
 refine sv 5 (.int .i64 0) ?_
 simp only [p3, p4]
 refine sq_nil ?_
 refine k1 _ _ ?_
 try clear k1 K1
 refine wp_seq_k (fun K3 k3 => ?_)
 refine rg [0, 1] ?_
 refine sv 13 (.string ⟨(X : List UInt8).toArray⟩) ?_
 simp only [p3, p4]
 refine sv 6 (.string ⟨(X : List UInt8).toArray⟩) ?_
 simp only [p3, p4]
 refine sq_nil ?_
 refine k3 _ _ ?_
 try clear k3 K3
 refine wp_seq_k (fun K4 k4 => ?_)
 refine rg [0, 1, 2, 3, 4, 5, 6, 7, 8] ?_
 refine sv 15 (.string ⟨(X : List UInt8).toArray⟩) ?_
 simp only [p3, p4]
 refine se ?_
 refine ec 16 (cut_any (X) (by omega) (hm.gr hB)) ?_
 rintro e5 w5 ⟨rfl, g5⟩
 refine ⟨_, rfl, ?_⟩
 replace hB := hB.trans g5
 simp only [p3, p4]
 refine sv 14 (.tuple #[(.string ⟨(numL (X) : List UInt8).toArray⟩), (.string ⟨((cutL (X)).2.getD [] : List UInt8).toArray⟩), (.bool ((cutL (X)).2.isSome))]) ?_
 simp only [p3, p4]
 refine sv 17 (.string ⟨(numL (X) : List UInt8).toArray⟩) ?_
 simp only [p3, p4]
 refine sv 18 (.string ⟨((cutL (X)).2.getD [] : List UInt8).toArray⟩) ?_
 simp only [p3, p4]
 refine sv 19 (.bool ((cutL (X)).2.isSome)) ?_
 simp only [p3, p4]
 refine sv 7 (.string ⟨(numL (X) : List UInt8).toArray⟩) ?_
 simp only [p3, p4]
 refine sv 8 (.string ⟨((cutL (X)).2.getD [] : List UInt8).toArray⟩) ?_
 simp only [p3, p4]
 refine sv 9 (.bool ((cutL (X)).2.isSome)) ?_
 simp only [p3, p4]
 refine sq_nil ?_
 refine k4 _ _ ?_
 try clear k4 K4
 refine wp_seq_k (fun K6 k6 => ?_)
 refine wp_block ?_
 refine wp_seq_k (fun K7 k7 => ?_)
 refine rg [0, 1, 2, 3, 4] ?_
 refine sv 21 (.string ⟨(X : List UInt8).toArray⟩) ?_
 simp only [p3, p4]
 refine sv 22 (.int .i64 (((X).length : Int))) ?_
 simp only [p3, p4]
 refine sv 23 (.int .i64 (most)) ?_
 simp only [p3, p4]
 refine sw 24 (.bool true) rfl (RunV.bool (x := decide (most < ((X).length : Int))) (rvk (by kernel_rfl)) hl) ?_
 simp only [p3, p4]
 refine sv 20 (.bool true) ?_
 simp only [p3, p4]
 refine sq_nil ?_
 refine k7 _ _ ?_
 try clear k7 K7
 refine wp_cond_true rfl ?_
 refine wp_seq_k (fun K8 k8 => ?_)
 refine rg [0, 1, 2] ?_
 refine sv 25 (.agg #[(.bool false), (.slice none 0 0), (.bool false), (.slice none 0 0)]) ?_
 simp only [p3, p4]
 refine se ?_
 replace L2 := L2.gr g5
 refine es 31 0 (.agg #[(.bool false), (.slice none 0 0), (.bool false), (.slice none 0 0)]) [(.bool false), (.slice none 0 0), (.bool false), (.slice none 0 0)] #[(.bool false), (.slice none 0 0), (.bool false), (.slice none 0 0)] L2 hB q2 ⟨rfl, rfl, rfl, rfl, trivial⟩ fun w9 st9 kp9 L2 hB => ?_
 refine sv 5 (.int .i64 5) ?_
 simp only [p3, p4]
 refine sq_nil ?_
 refine k8 _ _ ?_
 try clear k8 K8
 refine wp_ret ?_
 simp only [Exit.then, Exit.inBlock]
 refine bodyPost_ret (v := (.tuple #[(.agg #[(.bool false), (.slice none 0 0), (.bool false), (.slice none 0 0)]), (.int .i64 5)])) (ret_cell_tmp' _ _ _ rfl rfl L2 (by kernel_rfl) rfl) rfl ⟨?_, hB⟩
 exact rfl

set_option maxRecDepth 100000 in
set_option maxHeartbeats 1000000 in
theorem read_ns (X : List UInt8) (most : Int) (_hx : X.length ≤ 14000) (_hlong : (X.length : Int) ≤ most) (hc : cutL X = (X, none)) (h1 : allD (strip X) = false) (w : World) (hm : Mx w) :
    Calls Tryz.prog 92 #[(.string ⟨(X : List UInt8).toArray⟩), (.int .i64 (most))] w fun e w' => e = .returned (.tuple #[.agg #[.bool false, .slice none 0 0, .bool false, .slice none 0 0], .int .i64 14]) ∧ Gr w w' := by
 have hl : decide (most < ((X).length : Int)) = false := by simp; omega
 have hsX : (strip (X)).length ≤ (X).length := strip_len _
 go_enter Tryz.func92, Tryz.ntmps92
 have hB := Gr.refl w
 refine wp_seq_k (fun K1 k1 => ?_)
 refine rg [0, 1] ?_
 refine se ?_
 refine ea 31 #[(.bool false), (.slice none 0 0), (.bool false), (.slice none 0 0)] 4 hB fun b2 w2 g2 L2 o2 q2 hB => ?_
 simp only [p3, p4]
 refine sv 5 (.int .i64 0) ?_
 simp only [p3, p4]
 refine sq_nil ?_
 refine k1 _ _ ?_
 try clear k1 K1
 refine wp_seq_k (fun K3 k3 => ?_)
 refine rg [0, 1] ?_
 refine sv 13 (.string ⟨(X : List UInt8).toArray⟩) ?_
 simp only [p3, p4]
 refine sv 6 (.string ⟨(X : List UInt8).toArray⟩) ?_
 simp only [p3, p4]
 refine sq_nil ?_
 refine k3 _ _ ?_
 try clear k3 K3
 refine wp_seq_k (fun K4 k4 => ?_)
 refine rg [0, 1, 2, 3, 4, 5, 6, 7, 8] ?_
 refine sv 15 (.string ⟨(X : List UInt8).toArray⟩) ?_
 simp only [p3, p4]
 refine se ?_
 refine ec 16 (cut_no (X) (by omega) hc (hm.gr hB)) ?_
 rintro e5 w5 ⟨rfl, g5⟩
 refine ⟨_, rfl, ?_⟩
 replace hB := hB.trans g5
 simp only [p3, p4]
 refine sv 14 (.tuple #[(.string ⟨(X : List UInt8).toArray⟩), (.string ⟨([] : List UInt8).toArray⟩), (.bool false)]) ?_
 simp only [p3, p4]
 refine sv 17 (.string ⟨(X : List UInt8).toArray⟩) ?_
 simp only [p3, p4]
 refine sv 18 (.string ⟨([] : List UInt8).toArray⟩) ?_
 simp only [p3, p4]
 refine sv 19 (.bool false) ?_
 simp only [p3, p4]
 refine sv 7 (.string ⟨(X : List UInt8).toArray⟩) ?_
 simp only [p3, p4]
 refine sv 8 (.string ⟨([] : List UInt8).toArray⟩) ?_
 simp only [p3, p4]
 refine sv 9 (.bool false) ?_
 simp only [p3, p4]
 refine sq_nil ?_
 refine k4 _ _ ?_
 try clear k4 K4
 refine wp_seq_k (fun K6 k6 => ?_)
 refine wp_block ?_
 refine wp_seq_k (fun K7 k7 => ?_)
 refine rg [0, 1, 2, 3, 4] ?_
 refine sv 21 (.string ⟨(X : List UInt8).toArray⟩) ?_
 simp only [p3, p4]
 refine sv 22 (.int .i64 (((X).length : Int))) ?_
 simp only [p3, p4]
 refine sv 23 (.int .i64 (most)) ?_
 simp only [p3, p4]
 refine sw 24 (.bool false) rfl (RunV.bool (x := decide (most < ((X).length : Int))) (rvk (by kernel_rfl)) hl) ?_
 simp only [p3, p4]
 refine sv 20 (.bool false) ?_
 simp only [p3, p4]
 refine sq_nil ?_
 refine k7 _ _ ?_
 try clear k7 K7
 refine wp_cond_false rfl ?_
 refine wp_seq_k (fun K8 k8 => ?_)
 refine rg [0, 1, 2, 3, 4, 5, 6, 7, 8, 9, 10, 11, 12] ?_
 refine sv 27 (.string ⟨(X : List UInt8).toArray⟩) ?_
 simp only [p3, p4]
 refine se ?_
 refine ec 28 (trimprefix_any (X) _) ?_
 rintro e9 w9 ⟨rfl, g9⟩
 refine ⟨_, rfl, ?_⟩
 replace hB := hB.trans g9
 simp only [p3, p4]
 refine se ?_
 refine ec 29 (rdigits_a (strip (X)) (by omega) _) ?_
 rintro e10 w10 ⟨rfl, g10⟩
 refine ⟨_, rfl, ?_⟩
 replace hB := hB.trans g10
 simp only [p3, p4]
 refine sw 30 (.bool true) rfl (RunV.bool (x := !(allD (strip (X)))) (rvk (by kernel_rfl)) (show (!(allD (strip (X)))) = true by rw [h1]; rfl)) ?_
 simp only [p3, p4]
 refine sv 31 (.bool true) ?_
 simp only [p3, p4]
 refine ss 32 ?_
 simp only [p3, p4]
 refine ss 33 ?_
 simp only [p3, p4]
 refine ss 34 ?_
 simp only [p3, p4]
 refine ss 35 ?_
 simp only [p3, p4]
 refine ss 36 ?_
 simp only [p3, p4]
 refine ss 37 ?_
 simp only [p3, p4]
 refine sv 38 (.bool true) ?_
 simp only [p3, p4]
 refine sv 26 (.bool true) ?_
 simp only [p3, p4]
 refine sq_nil ?_
 refine k8 _ _ ?_
 try clear k8 K8
 refine wp_cond_true rfl ?_
 refine wp_seq_k (fun K11 k11 => ?_)
 refine rg [0, 1, 2] ?_
 refine sv 39 (.agg #[(.bool false), (.slice none 0 0), (.bool false), (.slice none 0 0)]) ?_
 simp only [p3, p4]
 refine se ?_
 replace L2 := L2.gr (g5.trans (g9.trans g10))
 refine es 31 0 (.agg #[(.bool false), (.slice none 0 0), (.bool false), (.slice none 0 0)]) [(.bool false), (.slice none 0 0), (.bool false), (.slice none 0 0)] #[(.bool false), (.slice none 0 0), (.bool false), (.slice none 0 0)] L2 hB q2 ⟨rfl, rfl, rfl, rfl, trivial⟩ fun w12 st12 kp12 L2 hB => ?_
 refine sv 5 (.int .i64 14) ?_
 simp only [p3, p4]
 refine sq_nil ?_
 refine k11 _ _ ?_
 try clear k11 K11
 refine wp_ret ?_
 simp only [Exit.then, Exit.inBlock]
 refine bodyPost_ret (v := (.tuple #[(.agg #[(.bool false), (.slice none 0 0), (.bool false), (.slice none 0 0)]), (.int .i64 14)])) (ret_cell_tmp' _ _ _ rfl rfl L2 (by kernel_rfl) rfl) rfl ⟨?_, hB⟩
 exact rfl

set_option maxRecDepth 100000 in
set_option maxHeartbeats 1000000 in
theorem read_nf (X : List UInt8) (most : Int) (_hx : X.length ≤ 14000) (_hlong : (X.length : Int) ≤ most) (hc : cutL X = (X, none)) (h1 : allD (strip X) = true) (h2 : badZ X = true) (w : World) (hm : Mx w) :
    Calls Tryz.prog 92 #[(.string ⟨(X : List UInt8).toArray⟩), (.int .i64 (most))] w fun e w' => e = .returned (.tuple #[.agg #[.bool false, .slice none 0 0, .bool false, .slice none 0 0], .int .i64 3]) ∧ Gr w w' := by
 have hl : decide (most < ((X).length : Int)) = false := by simp; omega
 have hsX : (strip (X)).length ≤ (X).length := strip_len _
 go_enter Tryz.func92, Tryz.ntmps92
 have hB := Gr.refl w
 refine wp_seq_k (fun K1 k1 => ?_)
 refine rg [0, 1] ?_
 refine se ?_
 refine ea 31 #[(.bool false), (.slice none 0 0), (.bool false), (.slice none 0 0)] 4 hB fun b2 w2 g2 L2 o2 q2 hB => ?_
 simp only [p3, p4]
 refine sv 5 (.int .i64 0) ?_
 simp only [p3, p4]
 refine sq_nil ?_
 refine k1 _ _ ?_
 try clear k1 K1
 refine wp_seq_k (fun K3 k3 => ?_)
 refine rg [0, 1] ?_
 refine sv 13 (.string ⟨(X : List UInt8).toArray⟩) ?_
 simp only [p3, p4]
 refine sv 6 (.string ⟨(X : List UInt8).toArray⟩) ?_
 simp only [p3, p4]
 refine sq_nil ?_
 refine k3 _ _ ?_
 try clear k3 K3
 refine wp_seq_k (fun K4 k4 => ?_)
 refine rg [0, 1, 2, 3, 4, 5, 6, 7, 8] ?_
 refine sv 15 (.string ⟨(X : List UInt8).toArray⟩) ?_
 simp only [p3, p4]
 refine se ?_
 refine ec 16 (cut_no (X) (by omega) hc (hm.gr hB)) ?_
 rintro e5 w5 ⟨rfl, g5⟩
 refine ⟨_, rfl, ?_⟩
 replace hB := hB.trans g5
 simp only [p3, p4]
 refine sv 14 (.tuple #[(.string ⟨(X : List UInt8).toArray⟩), (.string ⟨([] : List UInt8).toArray⟩), (.bool false)]) ?_
 simp only [p3, p4]
 refine sv 17 (.string ⟨(X : List UInt8).toArray⟩) ?_
 simp only [p3, p4]
 refine sv 18 (.string ⟨([] : List UInt8).toArray⟩) ?_
 simp only [p3, p4]
 refine sv 19 (.bool false) ?_
 simp only [p3, p4]
 refine sv 7 (.string ⟨(X : List UInt8).toArray⟩) ?_
 simp only [p3, p4]
 refine sv 8 (.string ⟨([] : List UInt8).toArray⟩) ?_
 simp only [p3, p4]
 refine sv 9 (.bool false) ?_
 simp only [p3, p4]
 refine sq_nil ?_
 refine k4 _ _ ?_
 try clear k4 K4
 refine wp_seq_k (fun K6 k6 => ?_)
 refine wp_block ?_
 refine wp_seq_k (fun K7 k7 => ?_)
 refine rg [0, 1, 2, 3, 4] ?_
 refine sv 21 (.string ⟨(X : List UInt8).toArray⟩) ?_
 simp only [p3, p4]
 refine sv 22 (.int .i64 (((X).length : Int))) ?_
 simp only [p3, p4]
 refine sv 23 (.int .i64 (most)) ?_
 simp only [p3, p4]
 refine sw 24 (.bool false) rfl (RunV.bool (x := decide (most < ((X).length : Int))) (rvk (by kernel_rfl)) hl) ?_
 simp only [p3, p4]
 refine sv 20 (.bool false) ?_
 simp only [p3, p4]
 refine sq_nil ?_
 refine k7 _ _ ?_
 try clear k7 K7
 refine wp_cond_false rfl ?_
 refine wp_seq_k (fun K8 k8 => ?_)
 refine rg [0, 1, 2, 3, 4, 5, 6, 7, 8, 9, 10, 11, 12] ?_
 refine sv 27 (.string ⟨(X : List UInt8).toArray⟩) ?_
 simp only [p3, p4]
 refine se ?_
 refine ec 28 (trimprefix_any (X) _) ?_
 rintro e9 w9 ⟨rfl, g9⟩
 refine ⟨_, rfl, ?_⟩
 replace hB := hB.trans g9
 simp only [p3, p4]
 refine se ?_
 refine ec 29 (rdigits_a (strip (X)) (by omega) _) ?_
 rintro e10 w10 ⟨rfl, g10⟩
 refine ⟨_, rfl, ?_⟩
 replace hB := hB.trans g10
 simp only [p3, p4]
 refine sw 30 (.bool false) rfl (RunV.bool (x := !(allD (strip (X)))) (rvk (by kernel_rfl)) (show (!(allD (strip (X)))) = false by rw [h1]; rfl)) ?_
 simp only [p3, p4]
 refine sv 31 (.bool false) ?_
 simp only [p3, p4]
 refine sv 32 (.bool false) ?_
 simp only [p3, p4]
 refine sv 33 (.bool false) ?_
 simp only [p3, p4]
 refine ss 34 ?_
 simp only [p3, p4]
 refine ss 35 ?_
 simp only [p3, p4]
 refine ss 36 ?_
 simp only [p3, p4]
 refine sv 37 (.bool false) ?_
 simp only [p3, p4]
 refine sv 38 (.bool false) ?_
 simp only [p3, p4]
 refine sv 26 (.bool false) ?_
 simp only [p3, p4]
 refine sq_nil ?_
 refine k8 _ _ ?_
 try clear k8 K8
 refine wp_cond_false rfl ?_
 refine wp_seq_k (fun K11 k11 => ?_)
 refine rg [0, 1, 2, 3, 4, 5, 6] ?_
 refine sv 41 (.bool false) ?_
 simp only [p3, p4]
 refine sv 42 (.bool false) ?_
 simp only [p3, p4]
 refine ss 43 ?_
 simp only [p3, p4]
 refine ss 44 ?_
 simp only [p3, p4]
 refine ss 45 ?_
 simp only [p3, p4]
 refine sv 46 (.bool false) ?_
 simp only [p3, p4]
 refine sv 40 (.bool false) ?_
 simp only [p3, p4]
 refine sq_nil ?_
 refine k11 _ _ ?_
 try clear k11 K11
 refine wp_cond_false rfl ?_
 refine wp_skip ?_
 refine k6 _ _ ?_
 try clear k6 K6
 refine wp_seq_k (fun K12 k12 => ?_)
 refine rg [0, 1, 2, 3, 4, 5, 6, 7] ?_
 refine sv 49 (.string ⟨(X : List UInt8).toArray⟩) ?_
 simp only [p3, p4]
 refine se ?_
 refine ec 50 (parse_bad (X) (by omega) h1 h2 _) ?_
 rintro e13 w13 ⟨rfl, g13⟩
 refine ⟨_, rfl, ?_⟩
 replace hB := hB.trans g13
 simp only [p3, p4]
 refine sv 48 (.tuple #[(.agg #[(.bool false), (.slice none 0 0)]), (.int .i64 3)]) ?_
 simp only [p3, p4]
 refine sv 51 (.agg #[(.bool false), (.slice none 0 0)]) ?_
 simp only [p3, p4]
 refine sv 52 (.int .i64 3) ?_
 simp only [p3, p4]
 refine se ?_
 refine ea 27 #[(.bool false), (.slice none 0 0)] 10 hB fun b14 w14 g14 L14 o14 q14 hB => ?_
 replace L2 := L2.gr (g5.trans (g9.trans (g10.trans g13)))
 have ne2_14 := L2.ne o14
 simp only [p3, p4]
 refine se ?_
 refine es 27 0 (.agg #[(.bool false), (.slice none 0 0)]) [(.bool false), (.slice none 0 0)] #[(.bool false), (.slice none 0 0)] L14 hB q14 ⟨rfl, rfl, trivial⟩ fun w15 st15 kp15 L14 hB => ?_
 refine sv 11 (.int .i64 3) ?_
 simp only [p3, p4]
 refine sq_nil ?_
 refine k12 _ _ ?_
 try clear k12 K12
 refine wp_seq_k (fun K16 k16 => ?_)
 refine wp_seq_k (fun K17 k17 => ?_)
 refine rg [0, 1] ?_
 refine sv 53 (.int .i64 3) ?_
 simp only [p3, p4]
 refine sv 54 (.bool true) ?_
 simp only [p3, p4]
 refine sq_nil ?_
 refine k17 _ _ ?_
 try clear k17 K17
 refine wp_cond_true rfl ?_
 refine wp_seq_k (fun K18 k18 => ?_)
 refine rg [0, 1, 2] ?_
 refine sv 55 (.agg #[(.bool false), (.slice none 0 0), (.bool false), (.slice none 0 0)]) ?_
 simp only [p3, p4]
 refine se ?_
 replace L2 := st15.lc (L2.gr g14) ne2_14
 refine es 31 0 (.agg #[(.bool false), (.slice none 0 0), (.bool false), (.slice none 0 0)]) [(.bool false), (.slice none 0 0), (.bool false), (.slice none 0 0)] #[(.bool false), (.slice none 0 0), (.bool false), (.slice none 0 0)] L2 hB q2 ⟨rfl, rfl, rfl, rfl, trivial⟩ fun w19 st19 kp19 L2 hB => ?_
 refine sv 5 (.int .i64 3) ?_
 simp only [p3, p4]
 refine sq_nil ?_
 refine k18 _ _ ?_
 try clear k18 K18
 refine wp_ret ?_
 simp only [Exit.then]
 refine bodyPost_ret (v := (.tuple #[(.agg #[(.bool false), (.slice none 0 0), (.bool false), (.slice none 0 0)]), (.int .i64 3)])) (ret_cell_tmp' _ _ _ rfl rfl L2 (by kernel_rfl) rfl) rfl ⟨?_, hB⟩
 exact rfl

set_option maxRecDepth 100000 in
set_option maxHeartbeats 1000000 in
theorem read_fs1 (X A D : List UInt8) (most : Int) (_hx : X.length ≤ 14000) (_hlong : (X.length : Int) ≤ most) (hc : cutL X = (A, some D)) (_hA : (A).length ≤ X.length) (_hD : D.length ≤ X.length) (h1 : allD (strip A) = false) (w : World) (hm : Mx w) :
    Calls Tryz.prog 92 #[(.string ⟨(X : List UInt8).toArray⟩), (.int .i64 (most))] w fun e w' => e = .returned (.tuple #[.agg #[.bool false, .slice none 0 0, .bool false, .slice none 0 0], .int .i64 14]) ∧ Gr w w' := by
 have hl : decide (most < ((X).length : Int)) = false := by simp; omega
 have hsA : (strip (A)).length ≤ (A).length := strip_len _
 go_enter Tryz.func92, Tryz.ntmps92
 have hB := Gr.refl w
 refine wp_seq_k (fun K1 k1 => ?_)
 refine rg [0, 1] ?_
 refine se ?_
 refine ea 31 #[(.bool false), (.slice none 0 0), (.bool false), (.slice none 0 0)] 4 hB fun b2 w2 g2 L2 o2 q2 hB => ?_
 simp only [p3, p4]
 refine sv 5 (.int .i64 0) ?_
 simp only [p3, p4]
 refine sq_nil ?_
 refine k1 _ _ ?_
 try clear k1 K1
 refine wp_seq_k (fun K3 k3 => ?_)
 refine rg [0, 1] ?_
 refine sv 13 (.string ⟨(X : List UInt8).toArray⟩) ?_
 simp only [p3, p4]
 refine sv 6 (.string ⟨(X : List UInt8).toArray⟩) ?_
 simp only [p3, p4]
 refine sq_nil ?_
 refine k3 _ _ ?_
 try clear k3 K3
 refine wp_seq_k (fun K4 k4 => ?_)
 refine rg [0, 1, 2, 3, 4, 5, 6, 7, 8] ?_
 refine sv 15 (.string ⟨(X : List UInt8).toArray⟩) ?_
 simp only [p3, p4]
 refine se ?_
 refine ec 16 (cut_yes (X) (A) (D) (by omega) hc (hm.gr hB)) ?_
 rintro e5 w5 ⟨rfl, g5⟩
 refine ⟨_, rfl, ?_⟩
 replace hB := hB.trans g5
 simp only [p3, p4]
 refine sv 14 (.tuple #[(.string ⟨(A : List UInt8).toArray⟩), (.string ⟨(D : List UInt8).toArray⟩), (.bool true)]) ?_
 simp only [p3, p4]
 refine sv 17 (.string ⟨(A : List UInt8).toArray⟩) ?_
 simp only [p3, p4]
 refine sv 18 (.string ⟨(D : List UInt8).toArray⟩) ?_
 simp only [p3, p4]
 refine sv 19 (.bool true) ?_
 simp only [p3, p4]
 refine sv 7 (.string ⟨(A : List UInt8).toArray⟩) ?_
 simp only [p3, p4]
 refine sv 8 (.string ⟨(D : List UInt8).toArray⟩) ?_
 simp only [p3, p4]
 refine sv 9 (.bool true) ?_
 simp only [p3, p4]
 refine sq_nil ?_
 refine k4 _ _ ?_
 try clear k4 K4
 refine wp_seq_k (fun K6 k6 => ?_)
 refine wp_block ?_
 refine wp_seq_k (fun K7 k7 => ?_)
 refine rg [0, 1, 2, 3, 4] ?_
 refine sv 21 (.string ⟨(X : List UInt8).toArray⟩) ?_
 simp only [p3, p4]
 refine sv 22 (.int .i64 (((X).length : Int))) ?_
 simp only [p3, p4]
 refine sv 23 (.int .i64 (most)) ?_
 simp only [p3, p4]
 refine sw 24 (.bool false) rfl (RunV.bool (x := decide (most < ((X).length : Int))) (rvk (by kernel_rfl)) hl) ?_
 simp only [p3, p4]
 refine sv 20 (.bool false) ?_
 simp only [p3, p4]
 refine sq_nil ?_
 refine k7 _ _ ?_
 try clear k7 K7
 refine wp_cond_false rfl ?_
 refine wp_seq_k (fun K8 k8 => ?_)
 refine rg [0, 1, 2, 3, 4, 5, 6, 7, 8, 9, 10, 11, 12] ?_
 refine sv 27 (.string ⟨(A : List UInt8).toArray⟩) ?_
 simp only [p3, p4]
 refine se ?_
 refine ec 28 (trimprefix_any (A) _) ?_
 rintro e9 w9 ⟨rfl, g9⟩
 refine ⟨_, rfl, ?_⟩
 replace hB := hB.trans g9
 simp only [p3, p4]
 refine se ?_
 refine ec 29 (rdigits_a (strip (A)) (by omega) _) ?_
 rintro e10 w10 ⟨rfl, g10⟩
 refine ⟨_, rfl, ?_⟩
 replace hB := hB.trans g10
 simp only [p3, p4]
 refine sw 30 (.bool true) rfl (RunV.bool (x := !(allD (strip (A)))) (rvk (by kernel_rfl)) (show (!(allD (strip (A)))) = true by rw [h1]; rfl)) ?_
 simp only [p3, p4]
 refine sv 31 (.bool true) ?_
 simp only [p3, p4]
 refine ss 32 ?_
 simp only [p3, p4]
 refine ss 33 ?_
 simp only [p3, p4]
 refine ss 34 ?_
 simp only [p3, p4]
 refine ss 35 ?_
 simp only [p3, p4]
 refine ss 36 ?_
 simp only [p3, p4]
 refine ss 37 ?_
 simp only [p3, p4]
 refine sv 38 (.bool true) ?_
 simp only [p3, p4]
 refine sv 26 (.bool true) ?_
 simp only [p3, p4]
 refine sq_nil ?_
 refine k8 _ _ ?_
 try clear k8 K8
 refine wp_cond_true rfl ?_
 refine wp_seq_k (fun K11 k11 => ?_)
 refine rg [0, 1, 2] ?_
 refine sv 39 (.agg #[(.bool false), (.slice none 0 0), (.bool false), (.slice none 0 0)]) ?_
 simp only [p3, p4]
 refine se ?_
 replace L2 := L2.gr (g5.trans (g9.trans g10))
 refine es 31 0 (.agg #[(.bool false), (.slice none 0 0), (.bool false), (.slice none 0 0)]) [(.bool false), (.slice none 0 0), (.bool false), (.slice none 0 0)] #[(.bool false), (.slice none 0 0), (.bool false), (.slice none 0 0)] L2 hB q2 ⟨rfl, rfl, rfl, rfl, trivial⟩ fun w12 st12 kp12 L2 hB => ?_
 refine sv 5 (.int .i64 14) ?_
 simp only [p3, p4]
 refine sq_nil ?_
 refine k11 _ _ ?_
 try clear k11 K11
 refine wp_ret ?_
 simp only [Exit.then, Exit.inBlock]
 refine bodyPost_ret (v := (.tuple #[(.agg #[(.bool false), (.slice none 0 0), (.bool false), (.slice none 0 0)]), (.int .i64 14)])) (ret_cell_tmp' _ _ _ rfl rfl L2 (by kernel_rfl) rfl) rfl ⟨?_, hB⟩
 exact rfl

set_option maxRecDepth 100000 in
set_option maxHeartbeats 1000000 in
theorem read_fs2 (X A D : List UInt8) (most : Int) (_hx : X.length ≤ 14000) (_hlong : (X.length : Int) ≤ most) (hc : cutL X = (A, some D)) (_hA : (A).length ≤ X.length) (_hD : D.length ≤ X.length) (h1 : allD (strip A) = true) (h2 : allD D = false) (w : World) (hm : Mx w) :
    Calls Tryz.prog 92 #[(.string ⟨(X : List UInt8).toArray⟩), (.int .i64 (most))] w fun e w' => e = .returned (.tuple #[.agg #[.bool false, .slice none 0 0, .bool false, .slice none 0 0], .int .i64 14]) ∧ Gr w w' := by
 have hl : decide (most < ((X).length : Int)) = false := by simp; omega
 have hsA : (strip (A)).length ≤ (A).length := strip_len _
 go_enter Tryz.func92, Tryz.ntmps92
 have hB := Gr.refl w
 refine wp_seq_k (fun K1 k1 => ?_)
 refine rg [0, 1] ?_
 refine se ?_
 refine ea 31 #[(.bool false), (.slice none 0 0), (.bool false), (.slice none 0 0)] 4 hB fun b2 w2 g2 L2 o2 q2 hB => ?_
 simp only [p3, p4]
 refine sv 5 (.int .i64 0) ?_
 simp only [p3, p4]
 refine sq_nil ?_
 refine k1 _ _ ?_
 try clear k1 K1
 refine wp_seq_k (fun K3 k3 => ?_)
 refine rg [0, 1] ?_
 refine sv 13 (.string ⟨(X : List UInt8).toArray⟩) ?_
 simp only [p3, p4]
 refine sv 6 (.string ⟨(X : List UInt8).toArray⟩) ?_
 simp only [p3, p4]
 refine sq_nil ?_
 refine k3 _ _ ?_
 try clear k3 K3
 refine wp_seq_k (fun K4 k4 => ?_)
 refine rg [0, 1, 2, 3, 4, 5, 6, 7, 8] ?_
 refine sv 15 (.string ⟨(X : List UInt8).toArray⟩) ?_
 simp only [p3, p4]
 refine se ?_
 refine ec 16 (cut_yes (X) (A) (D) (by omega) hc (hm.gr hB)) ?_
 rintro e5 w5 ⟨rfl, g5⟩
 refine ⟨_, rfl, ?_⟩
 replace hB := hB.trans g5
 simp only [p3, p4]
 refine sv 14 (.tuple #[(.string ⟨(A : List UInt8).toArray⟩), (.string ⟨(D : List UInt8).toArray⟩), (.bool true)]) ?_
 simp only [p3, p4]
 refine sv 17 (.string ⟨(A : List UInt8).toArray⟩) ?_
 simp only [p3, p4]
 refine sv 18 (.string ⟨(D : List UInt8).toArray⟩) ?_
 simp only [p3, p4]
 refine sv 19 (.bool true) ?_
 simp only [p3, p4]
 refine sv 7 (.string ⟨(A : List UInt8).toArray⟩) ?_
 simp only [p3, p4]
 refine sv 8 (.string ⟨(D : List UInt8).toArray⟩) ?_
 simp only [p3, p4]
 refine sv 9 (.bool true) ?_
 simp only [p3, p4]
 refine sq_nil ?_
 refine k4 _ _ ?_
 try clear k4 K4
 refine wp_seq_k (fun K6 k6 => ?_)
 refine wp_block ?_
 refine wp_seq_k (fun K7 k7 => ?_)
 refine rg [0, 1, 2, 3, 4] ?_
 refine sv 21 (.string ⟨(X : List UInt8).toArray⟩) ?_
 simp only [p3, p4]
 refine sv 22 (.int .i64 (((X).length : Int))) ?_
 simp only [p3, p4]
 refine sv 23 (.int .i64 (most)) ?_
 simp only [p3, p4]
 refine sw 24 (.bool false) rfl (RunV.bool (x := decide (most < ((X).length : Int))) (rvk (by kernel_rfl)) hl) ?_
 simp only [p3, p4]
 refine sv 20 (.bool false) ?_
 simp only [p3, p4]
 refine sq_nil ?_
 refine k7 _ _ ?_
 try clear k7 K7
 refine wp_cond_false rfl ?_
 refine wp_seq_k (fun K8 k8 => ?_)
 refine rg [0, 1, 2, 3, 4, 5, 6, 7, 8, 9, 10, 11, 12] ?_
 refine sv 27 (.string ⟨(A : List UInt8).toArray⟩) ?_
 simp only [p3, p4]
 refine se ?_
 refine ec 28 (trimprefix_any (A) _) ?_
 rintro e9 w9 ⟨rfl, g9⟩
 refine ⟨_, rfl, ?_⟩
 replace hB := hB.trans g9
 simp only [p3, p4]
 refine se ?_
 refine ec 29 (rdigits_a (strip (A)) (by omega) _) ?_
 rintro e10 w10 ⟨rfl, g10⟩
 refine ⟨_, rfl, ?_⟩
 replace hB := hB.trans g10
 simp only [p3, p4]
 refine sw 30 (.bool false) rfl (RunV.bool (x := !(allD (strip (A)))) (rvk (by kernel_rfl)) (show (!(allD (strip (A)))) = false by rw [h1]; rfl)) ?_
 simp only [p3, p4]
 refine sv 31 (.bool false) ?_
 simp only [p3, p4]
 refine sv 32 (.bool true) ?_
 simp only [p3, p4]
 refine sv 33 (.bool true) ?_
 simp only [p3, p4]
 refine sv 34 (.string ⟨(D : List UInt8).toArray⟩) ?_
 simp only [p3, p4]
 refine se ?_
 refine ec 35 (rdigits_a (D) (by omega) _) ?_
 rintro e11 w11 ⟨rfl, g11⟩
 refine ⟨_, rfl, ?_⟩
 replace hB := hB.trans g11
 simp only [p3, p4]
 refine sw 36 (.bool true) rfl (RunV.bool (x := !(allD (D))) (rvk (by kernel_rfl)) (show (!(allD (D))) = true by rw [h2]; rfl)) ?_
 simp only [p3, p4]
 refine sv 37 (.bool true) ?_
 simp only [p3, p4]
 refine sv 38 (.bool true) ?_
 simp only [p3, p4]
 refine sv 26 (.bool true) ?_
 simp only [p3, p4]
 refine sq_nil ?_
 refine k8 _ _ ?_
 try clear k8 K8
 refine wp_cond_true rfl ?_
 refine wp_seq_k (fun K12 k12 => ?_)
 refine rg [0, 1, 2] ?_
 refine sv 39 (.agg #[(.bool false), (.slice none 0 0), (.bool false), (.slice none 0 0)]) ?_
 simp only [p3, p4]
 refine se ?_
 replace L2 := L2.gr (g5.trans (g9.trans (g10.trans g11)))
 refine es 31 0 (.agg #[(.bool false), (.slice none 0 0), (.bool false), (.slice none 0 0)]) [(.bool false), (.slice none 0 0), (.bool false), (.slice none 0 0)] #[(.bool false), (.slice none 0 0), (.bool false), (.slice none 0 0)] L2 hB q2 ⟨rfl, rfl, rfl, rfl, trivial⟩ fun w13 st13 kp13 L2 hB => ?_
 refine sv 5 (.int .i64 14) ?_
 simp only [p3, p4]
 refine sq_nil ?_
 refine k12 _ _ ?_
 try clear k12 K12
 refine wp_ret ?_
 simp only [Exit.then, Exit.inBlock]
 refine bodyPost_ret (v := (.tuple #[(.agg #[(.bool false), (.slice none 0 0), (.bool false), (.slice none 0 0)]), (.int .i64 14)])) (ret_cell_tmp' _ _ _ rfl rfl L2 (by kernel_rfl) rfl) rfl ⟨?_, hB⟩
 exact rfl

set_option maxRecDepth 100000 in
set_option maxHeartbeats 1000000 in
theorem read_fz (X A D : List UInt8) (most : Int) (_hx : X.length ≤ 14000) (_hlong : (X.length : Int) ≤ most) (hc : cutL X = (A, some D)) (_hA : (A).length ≤ X.length) (_hD : D.length ≤ X.length) (h1 : allD (strip A) = true) (h2 : allD D = true) (h3 : zerosL D = true) (w : World) (hm : Mx w) :
    Calls Tryz.prog 92 #[(.string ⟨(X : List UInt8).toArray⟩), (.int .i64 (most))] w fun e w' => e = .returned (.tuple #[.agg #[.bool false, .slice none 0 0, .bool false, .slice none 0 0], .int .i64 19]) ∧ Gr w w' := by
 have hl : decide (most < ((X).length : Int)) = false := by simp; omega
 have hsA : (strip (A)).length ≤ (A).length := strip_len _
 have h4 : ((Lib.trimS (D) [48]) == ([] : List UInt8)) = true := by rw [← zeros_trim]; exact h3
 go_enter Tryz.func92, Tryz.ntmps92
 have hB := Gr.refl w
 refine wp_seq_k (fun K1 k1 => ?_)
 refine rg [0, 1] ?_
 refine se ?_
 refine ea 31 #[(.bool false), (.slice none 0 0), (.bool false), (.slice none 0 0)] 4 hB fun b2 w2 g2 L2 o2 q2 hB => ?_
 simp only [p3, p4]
 refine sv 5 (.int .i64 0) ?_
 simp only [p3, p4]
 refine sq_nil ?_
 refine k1 _ _ ?_
 try clear k1 K1
 refine wp_seq_k (fun K3 k3 => ?_)
 refine rg [0, 1] ?_
 refine sv 13 (.string ⟨(X : List UInt8).toArray⟩) ?_
 simp only [p3, p4]
 refine sv 6 (.string ⟨(X : List UInt8).toArray⟩) ?_
 simp only [p3, p4]
 refine sq_nil ?_
 refine k3 _ _ ?_
 try clear k3 K3
 refine wp_seq_k (fun K4 k4 => ?_)
 refine rg [0, 1, 2, 3, 4, 5, 6, 7, 8] ?_
 refine sv 15 (.string ⟨(X : List UInt8).toArray⟩) ?_
 simp only [p3, p4]
 refine se ?_
 refine ec 16 (cut_yes (X) (A) (D) (by omega) hc (hm.gr hB)) ?_
 rintro e5 w5 ⟨rfl, g5⟩
 refine ⟨_, rfl, ?_⟩
 replace hB := hB.trans g5
 simp only [p3, p4]
 refine sv 14 (.tuple #[(.string ⟨(A : List UInt8).toArray⟩), (.string ⟨(D : List UInt8).toArray⟩), (.bool true)]) ?_
 simp only [p3, p4]
 refine sv 17 (.string ⟨(A : List UInt8).toArray⟩) ?_
 simp only [p3, p4]
 refine sv 18 (.string ⟨(D : List UInt8).toArray⟩) ?_
 simp only [p3, p4]
 refine sv 19 (.bool true) ?_
 simp only [p3, p4]
 refine sv 7 (.string ⟨(A : List UInt8).toArray⟩) ?_
 simp only [p3, p4]
 refine sv 8 (.string ⟨(D : List UInt8).toArray⟩) ?_
 simp only [p3, p4]
 refine sv 9 (.bool true) ?_
 simp only [p3, p4]
 refine sq_nil ?_
 refine k4 _ _ ?_
 try clear k4 K4
 refine wp_seq_k (fun K6 k6 => ?_)
 refine wp_block ?_
 refine wp_seq_k (fun K7 k7 => ?_)
 refine rg [0, 1, 2, 3, 4] ?_
 refine sv 21 (.string ⟨(X : List UInt8).toArray⟩) ?_
 simp only [p3, p4]
 refine sv 22 (.int .i64 (((X).length : Int))) ?_
 simp only [p3, p4]
 refine sv 23 (.int .i64 (most)) ?_
 simp only [p3, p4]
 refine sw 24 (.bool false) rfl (RunV.bool (x := decide (most < ((X).length : Int))) (rvk (by kernel_rfl)) hl) ?_
 simp only [p3, p4]
 refine sv 20 (.bool false) ?_
 simp only [p3, p4]
 refine sq_nil ?_
 refine k7 _ _ ?_
 try clear k7 K7
 refine wp_cond_false rfl ?_
 refine wp_seq_k (fun K8 k8 => ?_)
 refine rg [0, 1, 2, 3, 4, 5, 6, 7, 8, 9, 10, 11, 12] ?_
 refine sv 27 (.string ⟨(A : List UInt8).toArray⟩) ?_
 simp only [p3, p4]
 refine se ?_
 refine ec 28 (trimprefix_any (A) _) ?_
 rintro e9 w9 ⟨rfl, g9⟩
 refine ⟨_, rfl, ?_⟩
 replace hB := hB.trans g9
 simp only [p3, p4]
 refine se ?_
 refine ec 29 (rdigits_a (strip (A)) (by omega) _) ?_
 rintro e10 w10 ⟨rfl, g10⟩
 refine ⟨_, rfl, ?_⟩
 replace hB := hB.trans g10
 simp only [p3, p4]
 refine sw 30 (.bool false) rfl (RunV.bool (x := !(allD (strip (A)))) (rvk (by kernel_rfl)) (show (!(allD (strip (A)))) = false by rw [h1]; rfl)) ?_
 simp only [p3, p4]
 refine sv 31 (.bool false) ?_
 simp only [p3, p4]
 refine sv 32 (.bool true) ?_
 simp only [p3, p4]
 refine sv 33 (.bool true) ?_
 simp only [p3, p4]
 refine sv 34 (.string ⟨(D : List UInt8).toArray⟩) ?_
 simp only [p3, p4]
 refine se ?_
 refine ec 35 (rdigits_a (D) (by omega) _) ?_
 rintro e11 w11 ⟨rfl, g11⟩
 refine ⟨_, rfl, ?_⟩
 replace hB := hB.trans g11
 simp only [p3, p4]
 refine sw 36 (.bool false) rfl (RunV.bool (x := !(allD (D))) (rvk (by kernel_rfl)) (show (!(allD (D))) = false by rw [h2]; rfl)) ?_
 simp only [p3, p4]
 refine sv 37 (.bool false) ?_
 simp only [p3, p4]
 refine sv 38 (.bool false) ?_
 simp only [p3, p4]
 refine sv 26 (.bool false) ?_
 simp only [p3, p4]
 refine sq_nil ?_
 refine k8 _ _ ?_
 try clear k8 K8
 refine wp_cond_false rfl ?_
 refine wp_seq_k (fun K12 k12 => ?_)
 refine rg [0, 1, 2, 3, 4, 5, 6] ?_
 refine sv 41 (.bool true) ?_
 simp only [p3, p4]
 refine sv 42 (.bool true) ?_
 simp only [p3, p4]
 refine sv 43 (.string ⟨(D : List UInt8).toArray⟩) ?_
 simp only [p3, p4]
 refine se ?_
 refine ec 44 (trim_any0 (D) (by omega) _) ?_
 rintro e13 w13 ⟨rfl, g13⟩
 refine ⟨_, rfl, ?_⟩
 replace hB := hB.trans g13
 simp only [p3, p4]
 refine sw 45 (.bool true) rfl (RunV.bool (x := ((Lib.trimS (D) [48]) == ([] : List UInt8))) (rv_seq 9 9 _ _ (Lib.trimS (D) [48]) ([]) rfl rfl rfl) h4) ?_
 simp only [p3, p4]
 refine sv 46 (.bool true) ?_
 simp only [p3, p4]
 refine sv 40 (.bool true) ?_
 simp only [p3, p4]
 refine sq_nil ?_
 refine k12 _ _ ?_
 try clear k12 K12
 refine wp_cond_true rfl ?_
 refine wp_seq_k (fun K14 k14 => ?_)
 refine rg [0, 1, 2] ?_
 refine sv 47 (.agg #[(.bool false), (.slice none 0 0), (.bool false), (.slice none 0 0)]) ?_
 simp only [p3, p4]
 refine se ?_
 replace L2 := L2.gr (g5.trans (g9.trans (g10.trans (g11.trans g13))))
 refine es 31 0 (.agg #[(.bool false), (.slice none 0 0), (.bool false), (.slice none 0 0)]) [(.bool false), (.slice none 0 0), (.bool false), (.slice none 0 0)] #[(.bool false), (.slice none 0 0), (.bool false), (.slice none 0 0)] L2 hB q2 ⟨rfl, rfl, rfl, rfl, trivial⟩ fun w15 st15 kp15 L2 hB => ?_
 refine sv 5 (.int .i64 19) ?_
 simp only [p3, p4]
 refine sq_nil ?_
 refine k14 _ _ ?_
 try clear k14 K14
 refine wp_ret ?_
 simp only [Exit.then, Exit.inBlock]
 refine bodyPost_ret (v := (.tuple #[(.agg #[(.bool false), (.slice none 0 0), (.bool false), (.slice none 0 0)]), (.int .i64 19)])) (ret_cell_tmp' _ _ _ rfl rfl L2 (by kernel_rfl) rfl) rfl ⟨?_, hB⟩
 exact rfl

set_option maxRecDepth 100000 in
set_option maxHeartbeats 1000000 in
theorem read_fb1 (X A D : List UInt8) (most : Int) (_hx : X.length ≤ 14000) (_hlong : (X.length : Int) ≤ most) (hc : cutL X = (A, some D)) (_hA : (A).length ≤ X.length) (_hD : D.length ≤ X.length) (h1 : allD (strip A) = true) (h2 : allD D = true) (h3 : zerosL D = false) (h5 : badZ A = true) (w : World) (hm : Mx w) :
    Calls Tryz.prog 92 #[(.string ⟨(X : List UInt8).toArray⟩), (.int .i64 (most))] w fun e w' => e = .returned (.tuple #[.agg #[.bool false, .slice none 0 0, .bool false, .slice none 0 0], .int .i64 3]) ∧ Gr w w' := by
 have hl : decide (most < ((X).length : Int)) = false := by simp; omega
 have hsA : (strip (A)).length ≤ (A).length := strip_len _
 have h4 : ((Lib.trimS (D) [48]) == ([] : List UInt8)) = false := by rw [← zeros_trim]; exact h3
 go_enter Tryz.func92, Tryz.ntmps92
 have hB := Gr.refl w
 refine wp_seq_k (fun K1 k1 => ?_)
 refine rg [0, 1] ?_
 refine se ?_
 refine ea 31 #[(.bool false), (.slice none 0 0), (.bool false), (.slice none 0 0)] 4 hB fun b2 w2 g2 L2 o2 q2 hB => ?_
 simp only [p3, p4]
 refine sv 5 (.int .i64 0) ?_
 simp only [p3, p4]
 refine sq_nil ?_
 refine k1 _ _ ?_
 try clear k1 K1
 refine wp_seq_k (fun K3 k3 => ?_)
 refine rg [0, 1] ?_
 refine sv 13 (.string ⟨(X : List UInt8).toArray⟩) ?_
 simp only [p3, p4]
 refine sv 6 (.string ⟨(X : List UInt8).toArray⟩) ?_
 simp only [p3, p4]
 refine sq_nil ?_
 refine k3 _ _ ?_
 try clear k3 K3
 refine wp_seq_k (fun K4 k4 => ?_)
 refine rg [0, 1, 2, 3, 4, 5, 6, 7, 8] ?_
 refine sv 15 (.string ⟨(X : List UInt8).toArray⟩) ?_
 simp only [p3, p4]
 refine se ?_
 refine ec 16 (cut_yes (X) (A) (D) (by omega) hc (hm.gr hB)) ?_
 rintro e5 w5 ⟨rfl, g5⟩
 refine ⟨_, rfl, ?_⟩
 replace hB := hB.trans g5
 simp only [p3, p4]
 refine sv 14 (.tuple #[(.string ⟨(A : List UInt8).toArray⟩), (.string ⟨(D : List UInt8).toArray⟩), (.bool true)]) ?_
 simp only [p3, p4]
 refine sv 17 (.string ⟨(A : List UInt8).toArray⟩) ?_
 simp only [p3, p4]
 refine sv 18 (.string ⟨(D : List UInt8).toArray⟩) ?_
 simp only [p3, p4]
 refine sv 19 (.bool true) ?_
 simp only [p3, p4]
 refine sv 7 (.string ⟨(A : List UInt8).toArray⟩) ?_
 simp only [p3, p4]
 refine sv 8 (.string ⟨(D : List UInt8).toArray⟩) ?_
 simp only [p3, p4]
 refine sv 9 (.bool true) ?_
 simp only [p3, p4]
 refine sq_nil ?_
 refine k4 _ _ ?_
 try clear k4 K4
 refine wp_seq_k (fun K6 k6 => ?_)
 refine wp_block ?_
 refine wp_seq_k (fun K7 k7 => ?_)
 refine rg [0, 1, 2, 3, 4] ?_
 refine sv 21 (.string ⟨(X : List UInt8).toArray⟩) ?_
 simp only [p3, p4]
 refine sv 22 (.int .i64 (((X).length : Int))) ?_
 simp only [p3, p4]
 refine sv 23 (.int .i64 (most)) ?_
 simp only [p3, p4]
 refine sw 24 (.bool false) rfl (RunV.bool (x := decide (most < ((X).length : Int))) (rvk (by kernel_rfl)) hl) ?_
 simp only [p3, p4]
 refine sv 20 (.bool false) ?_
 simp only [p3, p4]
 refine sq_nil ?_
 refine k7 _ _ ?_
 try clear k7 K7
 refine wp_cond_false rfl ?_
 refine wp_seq_k (fun K8 k8 => ?_)
 refine rg [0, 1, 2, 3, 4, 5, 6, 7, 8, 9, 10, 11, 12] ?_
 refine sv 27 (.string ⟨(A : List UInt8).toArray⟩) ?_
 simp only [p3, p4]
 refine se ?_
 refine ec 28 (trimprefix_any (A) _) ?_
 rintro e9 w9 ⟨rfl, g9⟩
 refine ⟨_, rfl, ?_⟩
 replace hB := hB.trans g9
 simp only [p3, p4]
 refine se ?_
 refine ec 29 (rdigits_a (strip (A)) (by omega) _) ?_
 rintro e10 w10 ⟨rfl, g10⟩
 refine ⟨_, rfl, ?_⟩
 replace hB := hB.trans g10
 simp only [p3, p4]
 refine sw 30 (.bool false) rfl (RunV.bool (x := !(allD (strip (A)))) (rvk (by kernel_rfl)) (show (!(allD (strip (A)))) = false by rw [h1]; rfl)) ?_
 simp only [p3, p4]
 refine sv 31 (.bool false) ?_
 simp only [p3, p4]
 refine sv 32 (.bool true) ?_
 simp only [p3, p4]
 refine sv 33 (.bool true) ?_
 simp only [p3, p4]
 refine sv 34 (.string ⟨(D : List UInt8).toArray⟩) ?_
 simp only [p3, p4]
 refine se ?_
 refine ec 35 (rdigits_a (D) (by omega) _) ?_
 rintro e11 w11 ⟨rfl, g11⟩
 refine ⟨_, rfl, ?_⟩
 replace hB := hB.trans g11
 simp only [p3, p4]
 refine sw 36 (.bool false) rfl (RunV.bool (x := !(allD (D))) (rvk (by kernel_rfl)) (show (!(allD (D))) = false by rw [h2]; rfl)) ?_
 simp only [p3, p4]
 refine sv 37 (.bool false) ?_
 simp only [p3, p4]
 refine sv 38 (.bool false) ?_
 simp only [p3, p4]
 refine sv 26 (.bool false) ?_
 simp only [p3, p4]
 refine sq_nil ?_
 refine k8 _ _ ?_
 try clear k8 K8
 refine wp_cond_false rfl ?_
 refine wp_seq_k (fun K12 k12 => ?_)
 refine rg [0, 1, 2, 3, 4, 5, 6] ?_
 refine sv 41 (.bool true) ?_
 simp only [p3, p4]
 refine sv 42 (.bool true) ?_
 simp only [p3, p4]
 refine sv 43 (.string ⟨(D : List UInt8).toArray⟩) ?_
 simp only [p3, p4]
 refine se ?_
 refine ec 44 (trim_any0 (D) (by omega) _) ?_
 rintro e13 w13 ⟨rfl, g13⟩
 refine ⟨_, rfl, ?_⟩
 replace hB := hB.trans g13
 simp only [p3, p4]
 refine sw 45 (.bool false) rfl (RunV.bool (x := ((Lib.trimS (D) [48]) == ([] : List UInt8))) (rv_seq 9 9 _ _ (Lib.trimS (D) [48]) ([]) rfl rfl rfl) h4) ?_
 simp only [p3, p4]
 refine sv 46 (.bool false) ?_
 simp only [p3, p4]
 refine sv 40 (.bool false) ?_
 simp only [p3, p4]
 refine sq_nil ?_
 refine k12 _ _ ?_
 try clear k12 K12
 refine wp_cond_false rfl ?_
 refine wp_skip ?_
 refine k6 _ _ ?_
 try clear k6 K6
 refine wp_seq_k (fun K14 k14 => ?_)
 refine rg [0, 1, 2, 3, 4, 5, 6, 7] ?_
 refine sv 49 (.string ⟨(A : List UInt8).toArray⟩) ?_
 simp only [p3, p4]
 refine se ?_
 refine ec 50 (parse_bad (A) (by omega) h1 h5 _) ?_
 rintro e15 w15 ⟨rfl, g15⟩
 refine ⟨_, rfl, ?_⟩
 replace hB := hB.trans g15
 simp only [p3, p4]
 refine sv 48 (.tuple #[(.agg #[(.bool false), (.slice none 0 0)]), (.int .i64 3)]) ?_
 simp only [p3, p4]
 refine sv 51 (.agg #[(.bool false), (.slice none 0 0)]) ?_
 simp only [p3, p4]
 refine sv 52 (.int .i64 3) ?_
 simp only [p3, p4]
 refine se ?_
 refine ea 27 #[(.bool false), (.slice none 0 0)] 10 hB fun b16 w16 g16 L16 o16 q16 hB => ?_
 replace L2 := L2.gr (g5.trans (g9.trans (g10.trans (g11.trans (g13.trans g15)))))
 have ne2_16 := L2.ne o16
 simp only [p3, p4]
 refine se ?_
 refine es 27 0 (.agg #[(.bool false), (.slice none 0 0)]) [(.bool false), (.slice none 0 0)] #[(.bool false), (.slice none 0 0)] L16 hB q16 ⟨rfl, rfl, trivial⟩ fun w17 st17 kp17 L16 hB => ?_
 refine sv 11 (.int .i64 3) ?_
 simp only [p3, p4]
 refine sq_nil ?_
 refine k14 _ _ ?_
 try clear k14 K14
 refine wp_seq_k (fun K18 k18 => ?_)
 refine wp_seq_k (fun K19 k19 => ?_)
 refine rg [0, 1] ?_
 refine sv 53 (.int .i64 3) ?_
 simp only [p3, p4]
 refine sv 54 (.bool true) ?_
 simp only [p3, p4]
 refine sq_nil ?_
 refine k19 _ _ ?_
 try clear k19 K19
 refine wp_cond_true rfl ?_
 refine wp_seq_k (fun K20 k20 => ?_)
 refine rg [0, 1, 2] ?_
 refine sv 55 (.agg #[(.bool false), (.slice none 0 0), (.bool false), (.slice none 0 0)]) ?_
 simp only [p3, p4]
 refine se ?_
 replace L2 := st17.lc (L2.gr g16) ne2_16
 refine es 31 0 (.agg #[(.bool false), (.slice none 0 0), (.bool false), (.slice none 0 0)]) [(.bool false), (.slice none 0 0), (.bool false), (.slice none 0 0)] #[(.bool false), (.slice none 0 0), (.bool false), (.slice none 0 0)] L2 hB q2 ⟨rfl, rfl, rfl, rfl, trivial⟩ fun w21 st21 kp21 L2 hB => ?_
 refine sv 5 (.int .i64 3) ?_
 simp only [p3, p4]
 refine sq_nil ?_
 refine k20 _ _ ?_
 try clear k20 K20
 refine wp_ret ?_
 simp only [Exit.then]
 refine bodyPost_ret (v := (.tuple #[(.agg #[(.bool false), (.slice none 0 0), (.bool false), (.slice none 0 0)]), (.int .i64 3)])) (ret_cell_tmp' _ _ _ rfl rfl L2 (by kernel_rfl) rfl) rfl ⟨?_, hB⟩
 exact rfl

set_option maxRecDepth 100000 in
set_option maxHeartbeats 1000000 in
theorem read_fb2 (X D : List UInt8) (z : Int) (most : Int) (_hx : X.length ≤ 14000) (_hlong : (X.length : Int) ≤ most) (hc : cutL X = (Lib.itoa (z), some D)) (_hA : (Lib.itoa (z)).length ≤ X.length) (_hD : D.length ≤ X.length) (h2 : allD D = true) (h2b : allD (strip D) = true) (h3 : zerosL D = false) (h5 : badZ D = true) (w : World) (hm : Mx w) :
    Calls Tryz.prog 92 #[(.string ⟨(X : List UInt8).toArray⟩), (.int .i64 (most))] w fun e w' => e = .returned (.tuple #[.agg #[.bool false, .slice none 0 0, .bool false, .slice none 0 0], .int .i64 3]) ∧ Gr w w' := by
 have hl : decide (most < ((X).length : Int)) = false := by simp; omega
 have hsA : (strip (Lib.itoa (z))).length ≤ (Lib.itoa (z)).length := strip_len _
 have h1 : allD (strip (Lib.itoa (z))) = true := by rw [strip_itoa]; exact allD_dec _
 have h4 : ((Lib.trimS (D) [48]) == ([] : List UInt8)) = false := by rw [← zeros_trim]; exact h3
 go_enter Tryz.func92, Tryz.ntmps92
 have hB := Gr.refl w
 refine wp_seq_k (fun K1 k1 => ?_)
 refine rg [0, 1] ?_
 refine se ?_
 refine ea 31 #[(.bool false), (.slice none 0 0), (.bool false), (.slice none 0 0)] 4 hB fun b2 w2 g2 L2 o2 q2 hB => ?_
 simp only [p3, p4]
 refine sv 5 (.int .i64 0) ?_
 simp only [p3, p4]
 refine sq_nil ?_
 refine k1 _ _ ?_
 try clear k1 K1
 refine wp_seq_k (fun K3 k3 => ?_)
 refine rg [0, 1] ?_
 refine sv 13 (.string ⟨(X : List UInt8).toArray⟩) ?_
 simp only [p3, p4]
 refine sv 6 (.string ⟨(X : List UInt8).toArray⟩) ?_
 simp only [p3, p4]
 refine sq_nil ?_
 refine k3 _ _ ?_
 try clear k3 K3
 refine wp_seq_k (fun K4 k4 => ?_)
 refine rg [0, 1, 2, 3, 4, 5, 6, 7, 8] ?_
 refine sv 15 (.string ⟨(X : List UInt8).toArray⟩) ?_
 simp only [p3, p4]
 refine se ?_
 refine ec 16 (cut_yes (X) (Lib.itoa (z)) (D) (by omega) hc (hm.gr hB)) ?_
 rintro e5 w5 ⟨rfl, g5⟩
 refine ⟨_, rfl, ?_⟩
 replace hB := hB.trans g5
 simp only [p3, p4]
 refine sv 14 (.tuple #[(.string ⟨(Lib.itoa (z) : List UInt8).toArray⟩), (.string ⟨(D : List UInt8).toArray⟩), (.bool true)]) ?_
 simp only [p3, p4]
 refine sv 17 (.string ⟨(Lib.itoa (z) : List UInt8).toArray⟩) ?_
 simp only [p3, p4]
 refine sv 18 (.string ⟨(D : List UInt8).toArray⟩) ?_
 simp only [p3, p4]
 refine sv 19 (.bool true) ?_
 simp only [p3, p4]
 refine sv 7 (.string ⟨(Lib.itoa (z) : List UInt8).toArray⟩) ?_
 simp only [p3, p4]
 refine sv 8 (.string ⟨(D : List UInt8).toArray⟩) ?_
 simp only [p3, p4]
 refine sv 9 (.bool true) ?_
 simp only [p3, p4]
 refine sq_nil ?_
 refine k4 _ _ ?_
 try clear k4 K4
 refine wp_seq_k (fun K6 k6 => ?_)
 refine wp_block ?_
 refine wp_seq_k (fun K7 k7 => ?_)
 refine rg [0, 1, 2, 3, 4] ?_
 refine sv 21 (.string ⟨(X : List UInt8).toArray⟩) ?_
 simp only [p3, p4]
 refine sv 22 (.int .i64 (((X).length : Int))) ?_
 simp only [p3, p4]
 refine sv 23 (.int .i64 (most)) ?_
 simp only [p3, p4]
 refine sw 24 (.bool false) rfl (RunV.bool (x := decide (most < ((X).length : Int))) (rvk (by kernel_rfl)) hl) ?_
 simp only [p3, p4]
 refine sv 20 (.bool false) ?_
 simp only [p3, p4]
 refine sq_nil ?_
 refine k7 _ _ ?_
 try clear k7 K7
 refine wp_cond_false rfl ?_
 refine wp_seq_k (fun K8 k8 => ?_)
 refine rg [0, 1, 2, 3, 4, 5, 6, 7, 8, 9, 10, 11, 12] ?_
 refine sv 27 (.string ⟨(Lib.itoa (z) : List UInt8).toArray⟩) ?_
 simp only [p3, p4]
 refine se ?_
 refine ec 28 (trimprefix_any (Lib.itoa (z)) _) ?_
 rintro e9 w9 ⟨rfl, g9⟩
 refine ⟨_, rfl, ?_⟩
 replace hB := hB.trans g9
 simp only [p3, p4]
 refine se ?_
 refine ec 29 (rdigits_a (strip (Lib.itoa (z))) (by omega) _) ?_
 rintro e10 w10 ⟨rfl, g10⟩
 refine ⟨_, rfl, ?_⟩
 replace hB := hB.trans g10
 simp only [p3, p4]
 refine sw 30 (.bool false) rfl (RunV.bool (x := !(allD (strip (Lib.itoa (z))))) (rvk (by kernel_rfl)) (show (!(allD (strip (Lib.itoa (z))))) = false by rw [h1]; rfl)) ?_
 simp only [p3, p4]
 refine sv 31 (.bool false) ?_
 simp only [p3, p4]
 refine sv 32 (.bool true) ?_
 simp only [p3, p4]
 refine sv 33 (.bool true) ?_
 simp only [p3, p4]
 refine sv 34 (.string ⟨(D : List UInt8).toArray⟩) ?_
 simp only [p3, p4]
 refine se ?_
 refine ec 35 (rdigits_a (D) (by omega) _) ?_
 rintro e11 w11 ⟨rfl, g11⟩
 refine ⟨_, rfl, ?_⟩
 replace hB := hB.trans g11
 simp only [p3, p4]
 refine sw 36 (.bool false) rfl (RunV.bool (x := !(allD (D))) (rvk (by kernel_rfl)) (show (!(allD (D))) = false by rw [h2]; rfl)) ?_
 simp only [p3, p4]
 refine sv 37 (.bool false) ?_
 simp only [p3, p4]
 refine sv 38 (.bool false) ?_
 simp only [p3, p4]
 refine sv 26 (.bool false) ?_
 simp only [p3, p4]
 refine sq_nil ?_
 refine k8 _ _ ?_
 try clear k8 K8
 refine wp_cond_false rfl ?_
 refine wp_seq_k (fun K12 k12 => ?_)
 refine rg [0, 1, 2, 3, 4, 5, 6] ?_
 refine sv 41 (.bool true) ?_
 simp only [p3, p4]
 refine sv 42 (.bool true) ?_
 simp only [p3, p4]
 refine sv 43 (.string ⟨(D : List UInt8).toArray⟩) ?_
 simp only [p3, p4]
 refine se ?_
 refine ec 44 (trim_any0 (D) (by omega) _) ?_
 rintro e13 w13 ⟨rfl, g13⟩
 refine ⟨_, rfl, ?_⟩
 replace hB := hB.trans g13
 simp only [p3, p4]
 refine sw 45 (.bool false) rfl (RunV.bool (x := ((Lib.trimS (D) [48]) == ([] : List UInt8))) (rv_seq 9 9 _ _ (Lib.trimS (D) [48]) ([]) rfl rfl rfl) h4) ?_
 simp only [p3, p4]
 refine sv 46 (.bool false) ?_
 simp only [p3, p4]
 refine sv 40 (.bool false) ?_
 simp only [p3, p4]
 refine sq_nil ?_
 refine k12 _ _ ?_
 try clear k12 K12
 refine wp_cond_false rfl ?_
 refine wp_skip ?_
 refine k6 _ _ ?_
 try clear k6 K6
 refine wp_seq_k (fun K14 k14 => ?_)
 refine rg [0, 1, 2, 3, 4, 5, 6, 7] ?_
 refine sv 49 (.string ⟨(Lib.itoa (z) : List UInt8).toArray⟩) ?_
 simp only [p3, p4]
 refine se ?_
 refine ec 50 (parse_i (z) (itoa_sz (z) (m := 14000) (by omega)) (by omega) _) ?_
 rintro e15 w15 ⟨⟨x15, y15, rfl, h15⟩, g15⟩
 refine ⟨_, rfl, ?_⟩
 replace hB := hB.trans g15
 simp only [p3, p4]
 refine sv 48 (.tuple #[(.agg #[x15, y15]), (.int .i64 0)]) ?_
 simp only [p3, p4]
 refine sv 51 (.agg #[x15, y15]) ?_
 simp only [p3, p4]
 refine sv 52 (.int .i64 0) ?_
 simp only [p3, p4]
 refine se ?_
 refine ea 27 #[(.bool false), (.slice none 0 0)] 10 hB fun b16 w16 g16 L16 o16 q16 hB => ?_
 replace L2 := L2.gr (g5.trans (g9.trans (g10.trans (g11.trans (g13.trans g15)))))
 have ne2_16 := L2.ne o16
 simp only [p3, p4]
 refine se ?_
 refine es 27 0 (.agg #[x15, y15]) [x15, y15] #[x15, y15] L16 hB q16 ⟨h15.one0, h15.one1, trivial⟩ fun w17 st17 kp17 L16 hB => ?_
 refine sv 11 (.int .i64 0) ?_
 simp only [p3, p4]
 refine sq_nil ?_
 refine k14 _ _ ?_
 try clear k14 K14
 refine wp_seq_k (fun K18 k18 => ?_)
 refine wp_seq_k (fun K19 k19 => ?_)
 refine rg [0, 1] ?_
 refine sv 53 (.int .i64 0) ?_
 simp only [p3, p4]
 refine sv 54 (.bool false) ?_
 simp only [p3, p4]
 refine sq_nil ?_
 refine k19 _ _ ?_
 try clear k19 K19
 refine wp_cond_false rfl ?_
 refine wp_skip ?_
 refine k18 _ _ ?_
 try clear k18 K18
 refine wp_seq_k (fun K20 k20 => ?_)
 refine wp_seq_k (fun K21 k21 => ?_)
 refine rg [0, 1] ?_
 refine sv 56 (.bool true) ?_
 simp only [p3, p4]
 refine sv 57 (.bool false) ?_
 simp only [p3, p4]
 refine sq_nil ?_
 refine k21 _ _ ?_
 try clear k21 K21
 refine wp_cond_false rfl ?_
 refine wp_skip ?_
 refine k20 _ _ ?_
 try clear k20 K20
 refine wp_seq_k (fun K22 k22 => ?_)
 refine rg [0, 1, 2, 3, 4, 5, 6, 7] ?_
 refine sv 61 (.string ⟨(D : List UInt8).toArray⟩) ?_
 simp only [p3, p4]
 refine se ?_
 refine ec 62 (parse_bad (D) (by omega) h2b h5 _) ?_
 rintro e23 w23 ⟨rfl, g23⟩
 refine ⟨_, rfl, ?_⟩
 replace hB := hB.trans g23
 simp only [p3, p4]
 refine sv 60 (.tuple #[(.agg #[(.bool false), (.slice none 0 0)]), (.int .i64 3)]) ?_
 simp only [p3, p4]
 refine sv 63 (.agg #[(.bool false), (.slice none 0 0)]) ?_
 simp only [p3, p4]
 refine sv 64 (.int .i64 3) ?_
 simp only [p3, p4]
 refine se ?_
 refine ea 27 #[(.bool false), (.slice none 0 0)] 12 hB fun b24 w24 g24 L24 o24 q24 hB => ?_
 replace L2 := (st17.lc (L2.gr g16) ne2_16).gr g23
 have ne2_24 := L2.ne o24
 replace L16 := L16.gr g23
 have ne16_24 := L16.ne o24
 simp only [p3, p4]
 refine se ?_
 refine es 27 0 (.agg #[(.bool false), (.slice none 0 0)]) [(.bool false), (.slice none 0 0)] #[(.bool false), (.slice none 0 0)] L24 hB q24 ⟨rfl, rfl, trivial⟩ fun w25 st25 kp25 L24 hB => ?_
 refine sv 11 (.int .i64 3) ?_
 simp only [p3, p4]
 refine sq_nil ?_
 refine k22 _ _ ?_
 try clear k22 K22
 refine wp_seq_k (fun K26 k26 => ?_)
 refine wp_seq_k (fun K27 k27 => ?_)
 have gd29 := Gr.drew w25
 replace hB := hB.trans gd29
 replace L16 := (st25.lc (L16.gr g24) ne16_24).gr gd29
 replace L24 := L24.gr gd29
 refine wp_region_ord (fun w' => Lc w' b16 #[x15, y15] 27 ∧ Lc w' b24 #[(.bool false), (.slice none 0 0)] 27) [(true, 0), (true, 1), (true, 2), (true, 3), (false, 4), (false, 5), (true, 6), (true, 7), (true, 8), (true, 9), (true, 10), (false, 11), (false, 12), (false, 13), (true, 14), (true, 15)] (by kernel_rfl) (by kernel_rfl) (by kernel_rfl) (by decide) (fun _ _ _ _ _ h => h) ⟨L16, L24⟩ ?_
 refine ov 65 (.int .i64 3) ?_
 simp only [p3, p4]
 refine ov 66 (.bool true) ?_
 simp only [p3, p4]
 refine ov 67 (.bool true) ?_
 simp only [p3, p4]
 refine os 68 ?_
 simp only [p3, p4]
 refine oz 69 ⟨L16, L24⟩ ?_
 simp only [p3, p4]
 refine oz 70 ⟨L16, L24⟩ ?_
 simp only [p3, p4]
 refine os 71 ?_
 simp only [p3, p4]
 refine ov 72 (.bool true) ?_
 simp only [p3, p4]
 refine ov 73 (.bool true) ?_
 simp only [p3, p4]
 refine os 74 ?_
 simp only [p3, p4]
 refine os 75 ?_
 simp only [p3, p4]
 refine oz 76 ⟨L16, L24⟩ ?_
 simp only [p3, p4]
 refine oz 77 ⟨L16, L24⟩ ?_
 simp only [p3, p4]
 refine oz 78 ⟨L16, L24⟩ ?_
 simp only [p3, p4]
 refine os 79 ?_
 simp only [p3, p4]
 refine ov 80 (.bool true) ?_
 simp only [p3, p4]
 refine ord_nil ?_
 refine k27 _ _ ?_
 try clear k27 K27
 refine wp_cond_true rfl ?_
 refine wp_seq_k (fun K30 k30 => ?_)
 refine rg [0, 1, 2] ?_
 refine sv 81 (.agg #[(.bool false), (.slice none 0 0), (.bool false), (.slice none 0 0)]) ?_
 simp only [p3, p4]
 refine se ?_
 replace L2 := (st25.lc (L2.gr g24) ne2_24).gr gd29
 refine es 31 0 (.agg #[(.bool false), (.slice none 0 0), (.bool false), (.slice none 0 0)]) [(.bool false), (.slice none 0 0), (.bool false), (.slice none 0 0)] #[(.bool false), (.slice none 0 0), (.bool false), (.slice none 0 0)] L2 hB q2 ⟨rfl, rfl, rfl, rfl, trivial⟩ fun w31 st31 kp31 L2 hB => ?_
 refine sv 5 (.int .i64 3) ?_
 simp only [p3, p4]
 refine sq_nil ?_
 refine k30 _ _ ?_
 try clear k30 K30
 refine wp_ret ?_
 simp only [Exit.then]
 refine bodyPost_ret (v := (.tuple #[(.agg #[(.bool false), (.slice none 0 0), (.bool false), (.slice none 0 0)]), (.int .i64 3)])) (ret_cell_tmp' _ _ _ rfl rfl L2 (by kernel_rfl) rfl) rfl ⟨?_, hB⟩
 exact rfl

set_option maxRecDepth 100000 in
set_option maxHeartbeats 1000000 in
theorem read_g1 (X : List UInt8) (z d : Int) (most : Int) (_hx : X.length ≤ 14000) (_hlong : (X.length : Int) ≤ most) (hc : cutL X = (Lib.itoa (z), some (Lib.itoa (d)))) (_hA : (Lib.itoa (z)).length ≤ X.length) (_hD : (Lib.itoa (d)).length ≤ X.length) (h2 : allD (Lib.itoa d) = true) (h3 : zerosL (Lib.itoa d) = false) (h5 : d = 1) (w : World) (hm : Mx w) :
    Calls Tryz.prog 92 #[(.string ⟨(X : List UInt8).toArray⟩), (.int .i64 (most))] w fun e w' => e = .returned (.tuple #[.agg #[.bool false, .slice none 0 0, .bool false, .slice none 0 0], .int .i64 3]) ∧ Gr w w' := by
 have hl : decide (most < ((X).length : Int)) = false := by simp; omega
 have hsA : (strip (Lib.itoa (z))).length ≤ (Lib.itoa (z)).length := strip_len _
 have h1 : allD (strip (Lib.itoa (z))) = true := by rw [strip_itoa]; exact allD_dec _
 have h4 : ((Lib.trimS (Lib.itoa (d)) [48]) == ([] : List UInt8)) = false := by rw [← zeros_trim]; exact h3
 have h6 : (sgn (d - 1) == (0 : Int)) = true := by rw [h5]; rfl
 go_enter Tryz.func92, Tryz.ntmps92
 have hB := Gr.refl w
 refine wp_seq_k (fun K1 k1 => ?_)
 refine rg [0, 1] ?_
 refine se ?_
 refine ea 31 #[(.bool false), (.slice none 0 0), (.bool false), (.slice none 0 0)] 4 hB fun b2 w2 g2 L2 o2 q2 hB => ?_
 simp only [p3, p4]
 refine sv 5 (.int .i64 0) ?_
 simp only [p3, p4]
 refine sq_nil ?_
 refine k1 _ _ ?_
 try clear k1 K1
 refine wp_seq_k (fun K3 k3 => ?_)
 refine rg [0, 1] ?_
 refine sv 13 (.string ⟨(X : List UInt8).toArray⟩) ?_
 simp only [p3, p4]
 refine sv 6 (.string ⟨(X : List UInt8).toArray⟩) ?_
 simp only [p3, p4]
 refine sq_nil ?_
 refine k3 _ _ ?_
 try clear k3 K3
 refine wp_seq_k (fun K4 k4 => ?_)
 refine rg [0, 1, 2, 3, 4, 5, 6, 7, 8] ?_
 refine sv 15 (.string ⟨(X : List UInt8).toArray⟩) ?_
 simp only [p3, p4]
 refine se ?_
 refine ec 16 (cut_yes (X) (Lib.itoa (z)) (Lib.itoa (d)) (by omega) hc (hm.gr hB)) ?_
 rintro e5 w5 ⟨rfl, g5⟩
 refine ⟨_, rfl, ?_⟩
 replace hB := hB.trans g5
 simp only [p3, p4]
 refine sv 14 (.tuple #[(.string ⟨(Lib.itoa (z) : List UInt8).toArray⟩), (.string ⟨(Lib.itoa (d) : List UInt8).toArray⟩), (.bool true)]) ?_
 simp only [p3, p4]
 refine sv 17 (.string ⟨(Lib.itoa (z) : List UInt8).toArray⟩) ?_
 simp only [p3, p4]
 refine sv 18 (.string ⟨(Lib.itoa (d) : List UInt8).toArray⟩) ?_
 simp only [p3, p4]
 refine sv 19 (.bool true) ?_
 simp only [p3, p4]
 refine sv 7 (.string ⟨(Lib.itoa (z) : List UInt8).toArray⟩) ?_
 simp only [p3, p4]
 refine sv 8 (.string ⟨(Lib.itoa (d) : List UInt8).toArray⟩) ?_
 simp only [p3, p4]
 refine sv 9 (.bool true) ?_
 simp only [p3, p4]
 refine sq_nil ?_
 refine k4 _ _ ?_
 try clear k4 K4
 refine wp_seq_k (fun K6 k6 => ?_)
 refine wp_block ?_
 refine wp_seq_k (fun K7 k7 => ?_)
 refine rg [0, 1, 2, 3, 4] ?_
 refine sv 21 (.string ⟨(X : List UInt8).toArray⟩) ?_
 simp only [p3, p4]
 refine sv 22 (.int .i64 (((X).length : Int))) ?_
 simp only [p3, p4]
 refine sv 23 (.int .i64 (most)) ?_
 simp only [p3, p4]
 refine sw 24 (.bool false) rfl (RunV.bool (x := decide (most < ((X).length : Int))) (rvk (by kernel_rfl)) hl) ?_
 simp only [p3, p4]
 refine sv 20 (.bool false) ?_
 simp only [p3, p4]
 refine sq_nil ?_
 refine k7 _ _ ?_
 try clear k7 K7
 refine wp_cond_false rfl ?_
 refine wp_seq_k (fun K8 k8 => ?_)
 refine rg [0, 1, 2, 3, 4, 5, 6, 7, 8, 9, 10, 11, 12] ?_
 refine sv 27 (.string ⟨(Lib.itoa (z) : List UInt8).toArray⟩) ?_
 simp only [p3, p4]
 refine se ?_
 refine ec 28 (trimprefix_any (Lib.itoa (z)) _) ?_
 rintro e9 w9 ⟨rfl, g9⟩
 refine ⟨_, rfl, ?_⟩
 replace hB := hB.trans g9
 simp only [p3, p4]
 refine se ?_
 refine ec 29 (rdigits_a (strip (Lib.itoa (z))) (by omega) _) ?_
 rintro e10 w10 ⟨rfl, g10⟩
 refine ⟨_, rfl, ?_⟩
 replace hB := hB.trans g10
 simp only [p3, p4]
 refine sw 30 (.bool false) rfl (RunV.bool (x := !(allD (strip (Lib.itoa (z))))) (rvk (by kernel_rfl)) (show (!(allD (strip (Lib.itoa (z))))) = false by rw [h1]; rfl)) ?_
 simp only [p3, p4]
 refine sv 31 (.bool false) ?_
 simp only [p3, p4]
 refine sv 32 (.bool true) ?_
 simp only [p3, p4]
 refine sv 33 (.bool true) ?_
 simp only [p3, p4]
 refine sv 34 (.string ⟨(Lib.itoa (d) : List UInt8).toArray⟩) ?_
 simp only [p3, p4]
 refine se ?_
 refine ec 35 (rdigits_a (Lib.itoa (d)) (by omega) _) ?_
 rintro e11 w11 ⟨rfl, g11⟩
 refine ⟨_, rfl, ?_⟩
 replace hB := hB.trans g11
 simp only [p3, p4]
 refine sw 36 (.bool false) rfl (RunV.bool (x := !(allD (Lib.itoa (d)))) (rvk (by kernel_rfl)) (show (!(allD (Lib.itoa (d)))) = false by rw [h2]; rfl)) ?_
 simp only [p3, p4]
 refine sv 37 (.bool false) ?_
 simp only [p3, p4]
 refine sv 38 (.bool false) ?_
 simp only [p3, p4]
 refine sv 26 (.bool false) ?_
 simp only [p3, p4]
 refine sq_nil ?_
 refine k8 _ _ ?_
 try clear k8 K8
 refine wp_cond_false rfl ?_
 refine wp_seq_k (fun K12 k12 => ?_)
 refine rg [0, 1, 2, 3, 4, 5, 6] ?_
 refine sv 41 (.bool true) ?_
 simp only [p3, p4]
 refine sv 42 (.bool true) ?_
 simp only [p3, p4]
 refine sv 43 (.string ⟨(Lib.itoa (d) : List UInt8).toArray⟩) ?_
 simp only [p3, p4]
 refine se ?_
 refine ec 44 (trim_any0 (Lib.itoa (d)) (by omega) _) ?_
 rintro e13 w13 ⟨rfl, g13⟩
 refine ⟨_, rfl, ?_⟩
 replace hB := hB.trans g13
 simp only [p3, p4]
 refine sw 45 (.bool false) rfl (RunV.bool (x := ((Lib.trimS (Lib.itoa (d)) [48]) == ([] : List UInt8))) (rv_seq 9 9 _ _ (Lib.trimS (Lib.itoa (d)) [48]) ([]) rfl rfl rfl) h4) ?_
 simp only [p3, p4]
 refine sv 46 (.bool false) ?_
 simp only [p3, p4]
 refine sv 40 (.bool false) ?_
 simp only [p3, p4]
 refine sq_nil ?_
 refine k12 _ _ ?_
 try clear k12 K12
 refine wp_cond_false rfl ?_
 refine wp_skip ?_
 refine k6 _ _ ?_
 try clear k6 K6
 refine wp_seq_k (fun K14 k14 => ?_)
 refine rg [0, 1, 2, 3, 4, 5, 6, 7] ?_
 refine sv 49 (.string ⟨(Lib.itoa (z) : List UInt8).toArray⟩) ?_
 simp only [p3, p4]
 refine se ?_
 refine ec 50 (parse_i (z) (itoa_sz (z) (m := 14000) (by omega)) (by omega) _) ?_
 rintro e15 w15 ⟨⟨x15, y15, rfl, h15⟩, g15⟩
 refine ⟨_, rfl, ?_⟩
 replace hB := hB.trans g15
 simp only [p3, p4]
 refine sv 48 (.tuple #[(.agg #[x15, y15]), (.int .i64 0)]) ?_
 simp only [p3, p4]
 refine sv 51 (.agg #[x15, y15]) ?_
 simp only [p3, p4]
 refine sv 52 (.int .i64 0) ?_
 simp only [p3, p4]
 refine se ?_
 refine ea 27 #[(.bool false), (.slice none 0 0)] 10 hB fun b16 w16 g16 L16 o16 q16 hB => ?_
 replace L2 := L2.gr (g5.trans (g9.trans (g10.trans (g11.trans (g13.trans g15)))))
 have ne2_16 := L2.ne o16
 simp only [p3, p4]
 refine se ?_
 refine es 27 0 (.agg #[x15, y15]) [x15, y15] #[x15, y15] L16 hB q16 ⟨h15.one0, h15.one1, trivial⟩ fun w17 st17 kp17 L16 hB => ?_
 refine sv 11 (.int .i64 0) ?_
 simp only [p3, p4]
 refine sq_nil ?_
 refine k14 _ _ ?_
 try clear k14 K14
 refine wp_seq_k (fun K18 k18 => ?_)
 refine wp_seq_k (fun K19 k19 => ?_)
 refine rg [0, 1] ?_
 refine sv 53 (.int .i64 0) ?_
 simp only [p3, p4]
 refine sv 54 (.bool false) ?_
 simp only [p3, p4]
 refine sq_nil ?_
 refine k19 _ _ ?_
 try clear k19 K19
 refine wp_cond_false rfl ?_
 refine wp_skip ?_
 refine k18 _ _ ?_
 try clear k18 K18
 refine wp_seq_k (fun K20 k20 => ?_)
 refine wp_seq_k (fun K21 k21 => ?_)
 refine rg [0, 1] ?_
 refine sv 56 (.bool true) ?_
 simp only [p3, p4]
 refine sv 57 (.bool false) ?_
 simp only [p3, p4]
 refine sq_nil ?_
 refine k21 _ _ ?_
 try clear k21 K21
 refine wp_cond_false rfl ?_
 refine wp_skip ?_
 refine k20 _ _ ?_
 try clear k20 K20
 refine wp_seq_k (fun K22 k22 => ?_)
 refine rg [0, 1, 2, 3, 4, 5, 6, 7] ?_
 refine sv 61 (.string ⟨(Lib.itoa (d) : List UInt8).toArray⟩) ?_
 simp only [p3, p4]
 refine se ?_
 refine ec 62 (parse_i (d) (itoa_sz (d) (m := 14000) (by omega)) (by omega) _) ?_
 rintro e23 w23 ⟨⟨x23, y23, rfl, h23⟩, g23⟩
 refine ⟨_, rfl, ?_⟩
 replace hB := hB.trans g23
 simp only [p3, p4]
 refine sv 60 (.tuple #[(.agg #[x23, y23]), (.int .i64 0)]) ?_
 simp only [p3, p4]
 refine sv 63 (.agg #[x23, y23]) ?_
 simp only [p3, p4]
 refine sv 64 (.int .i64 0) ?_
 simp only [p3, p4]
 refine se ?_
 refine ea 27 #[(.bool false), (.slice none 0 0)] 12 hB fun b24 w24 g24 L24 o24 q24 hB => ?_
 replace L2 := (st17.lc (L2.gr g16) ne2_16).gr g23
 have ne2_24 := L2.ne o24
 replace L16 := L16.gr g23
 have ne16_24 := L16.ne o24
 simp only [p3, p4]
 refine se ?_
 refine es 27 0 (.agg #[x23, y23]) [x23, y23] #[x23, y23] L24 hB q24 ⟨h23.one0, h23.one1, trivial⟩ fun w25 st25 kp25 L24 hB => ?_
 refine sv 11 (.int .i64 0) ?_
 simp only [p3, p4]
 refine sq_nil ?_
 refine k22 _ _ ?_
 try clear k22 K22
 refine wp_seq_k (fun K26 k26 => ?_)
 refine wp_seq_k (fun K27 k27 => ?_)
 have gd34 := Gr.drew w25
 replace hB := hB.trans gd34
 replace L16 := (st25.lc (L16.gr g24) ne16_24).gr gd34
 replace L24 := L24.gr gd34
 refine wp_region_ord (fun w' => Lc w' b16 #[x15, y15] 27 ∧ Lc w' b24 #[x23, y23] 27) [(true, 0), (true, 1), (true, 2), (true, 3), (false, 4), (false, 5), (true, 6), (true, 7), (true, 8), (true, 9), (true, 10), (false, 11), (false, 12), (false, 13), (true, 14), (true, 15)] (by kernel_rfl) (by kernel_rfl) (by kernel_rfl) (by decide) (fun _ _ _ _ _ h => h) ⟨L16, L24⟩ ?_
 refine ov 65 (.int .i64 0) ?_
 simp only [p3, p4]
 refine ov 66 (.bool false) ?_
 simp only [p3, p4]
 refine ov 67 (.bool false) ?_
 simp only [p3, p4]
 refine ow 68 (.agg #[x23, y23]) rfl (fun w' hS => (rl 27 0 [x23, y23] hS.2)) ?_
 simp only [p3, p4]
 refine oe ?_
 refine ec 69 (one_i _) ?_
 rintro e36 w36 ⟨⟨x36, y36, rfl, h36⟩, g36⟩
 refine ⟨_, rfl, ?_⟩
 replace hB := hB.trans g36
 replace L16 := L16.gr g36
 replace L24 := L24.gr g36
 refine ⟨⟨L16, L24⟩, ?_⟩
 simp only [p3, p4]
 refine oe ?_
 have kq39 := g24.kp.trans (kp25.trans (gd34.kp.trans g36.kp))
 replace h23 := h23.kp kq39
 refine ec 70 (compare_i h23 h36 (by omega) (by omega)) ?_
 rintro e38 w38 ⟨rfl, g38⟩
 refine ⟨_, rfl, ?_⟩
 replace hB := hB.trans g38
 replace L16 := L16.gr g38
 replace L24 := L24.gr g38
 refine ⟨⟨L16, L24⟩, ?_⟩
 simp only [p3, p4]
 refine ow 71 (.bool true) rfl (fun w' hS => (RunV.bool (x := (sgn (d - 1) == (0 : Int))) (rvk (by kernel_rfl)) h6)) ?_
 simp only [p3, p4]
 refine ov 72 (.bool true) ?_
 simp only [p3, p4]
 refine ov 73 (.bool true) ?_
 simp only [p3, p4]
 refine os 74 ?_
 simp only [p3, p4]
 refine os 75 ?_
 simp only [p3, p4]
 refine oz 76 ⟨L16, L24⟩ ?_
 simp only [p3, p4]
 refine oz 77 ⟨L16, L24⟩ ?_
 simp only [p3, p4]
 refine oz 78 ⟨L16, L24⟩ ?_
 simp only [p3, p4]
 refine os 79 ?_
 simp only [p3, p4]
 refine ov 80 (.bool true) ?_
 simp only [p3, p4]
 refine ord_nil ?_
 refine k27 _ _ ?_
 try clear k27 K27
 refine wp_cond_true rfl ?_
 refine wp_seq_k (fun K40 k40 => ?_)
 refine rg [0, 1, 2] ?_
 refine sv 81 (.agg #[(.bool false), (.slice none 0 0), (.bool false), (.slice none 0 0)]) ?_
 simp only [p3, p4]
 refine se ?_
 replace L2 := (st25.lc (L2.gr g24) ne2_24).gr (gd34.trans (g36.trans g38))
 refine es 31 0 (.agg #[(.bool false), (.slice none 0 0), (.bool false), (.slice none 0 0)]) [(.bool false), (.slice none 0 0), (.bool false), (.slice none 0 0)] #[(.bool false), (.slice none 0 0), (.bool false), (.slice none 0 0)] L2 hB q2 ⟨rfl, rfl, rfl, rfl, trivial⟩ fun w41 st41 kp41 L2 hB => ?_
 refine sv 5 (.int .i64 3) ?_
 simp only [p3, p4]
 refine sq_nil ?_
 refine k40 _ _ ?_
 try clear k40 K40
 refine wp_ret ?_
 simp only [Exit.then]
 refine bodyPost_ret (v := (.tuple #[(.agg #[(.bool false), (.slice none 0 0), (.bool false), (.slice none 0 0)]), (.int .i64 3)])) (ret_cell_tmp' _ _ _ rfl rfl L2 (by kernel_rfl) rfl) rfl ⟨?_, hB⟩
 exact rfl

set_option maxRecDepth 100000 in
set_option maxHeartbeats 1000000 in
theorem read_g2 (X : List UInt8) (z d : Int) (most : Int) (_hx : X.length ≤ 14000) (_hlong : (X.length : Int) ≤ most) (hc : cutL X = (Lib.itoa (z), some (Lib.itoa (d)))) (_hA : (Lib.itoa (z)).length ≤ X.length) (_hD : (Lib.itoa (d)).length ≤ X.length) (h2 : allD (Lib.itoa d) = true) (h3 : zerosL (Lib.itoa d) = false) (h5 : d ≠ 1) (h7 : Int.gcd z d ≠ 1) (w : World) (hm : Mx w) :
    Calls Tryz.prog 92 #[(.string ⟨(X : List UInt8).toArray⟩), (.int .i64 (most))] w fun e w' => e = .returned (.tuple #[.agg #[.bool false, .slice none 0 0, .bool false, .slice none 0 0], .int .i64 3]) ∧ Gr w w' := by
 have hl : decide (most < ((X).length : Int)) = false := by simp; omega
 have hsA : (strip (Lib.itoa (z))).length ≤ (Lib.itoa (z)).length := strip_len _
 have h1 : allD (strip (Lib.itoa (z))) = true := by rw [strip_itoa]; exact allD_dec _
 have h4 : ((Lib.trimS (Lib.itoa (d)) [48]) == ([] : List UInt8)) = false := by rw [← zeros_trim]; exact h3
 have h6 : (sgn (d - 1) == (0 : Int)) = false := by rw [beq_eq_false_iff_ne]; exact fun e => h5 (by have := sgn_eq_zero.1 e; omega)
 have h8 : (sgn ((Int.gcd (z) (d) : Int) - 1) != (0 : Int)) = true := by rw [bne_iff_ne]; exact fun e => h7 (by have := sgn_eq_zero.1 e; omega)
 go_enter Tryz.func92, Tryz.ntmps92
 have hB := Gr.refl w
 refine wp_seq_k (fun K1 k1 => ?_)
 refine rg [0, 1] ?_
 refine se ?_
 refine ea 31 #[(.bool false), (.slice none 0 0), (.bool false), (.slice none 0 0)] 4 hB fun b2 w2 g2 L2 o2 q2 hB => ?_
 simp only [p3, p4]
 refine sv 5 (.int .i64 0) ?_
 simp only [p3, p4]
 refine sq_nil ?_
 refine k1 _ _ ?_
 try clear k1 K1
 refine wp_seq_k (fun K3 k3 => ?_)
 refine rg [0, 1] ?_
 refine sv 13 (.string ⟨(X : List UInt8).toArray⟩) ?_
 simp only [p3, p4]
 refine sv 6 (.string ⟨(X : List UInt8).toArray⟩) ?_
 simp only [p3, p4]
 refine sq_nil ?_
 refine k3 _ _ ?_
 try clear k3 K3
 refine wp_seq_k (fun K4 k4 => ?_)
 refine rg [0, 1, 2, 3, 4, 5, 6, 7, 8] ?_
 refine sv 15 (.string ⟨(X : List UInt8).toArray⟩) ?_
 simp only [p3, p4]
 refine se ?_
 refine ec 16 (cut_yes (X) (Lib.itoa (z)) (Lib.itoa (d)) (by omega) hc (hm.gr hB)) ?_
 rintro e5 w5 ⟨rfl, g5⟩
 refine ⟨_, rfl, ?_⟩
 replace hB := hB.trans g5
 simp only [p3, p4]
 refine sv 14 (.tuple #[(.string ⟨(Lib.itoa (z) : List UInt8).toArray⟩), (.string ⟨(Lib.itoa (d) : List UInt8).toArray⟩), (.bool true)]) ?_
 simp only [p3, p4]
 refine sv 17 (.string ⟨(Lib.itoa (z) : List UInt8).toArray⟩) ?_
 simp only [p3, p4]
 refine sv 18 (.string ⟨(Lib.itoa (d) : List UInt8).toArray⟩) ?_
 simp only [p3, p4]
 refine sv 19 (.bool true) ?_
 simp only [p3, p4]
 refine sv 7 (.string ⟨(Lib.itoa (z) : List UInt8).toArray⟩) ?_
 simp only [p3, p4]
 refine sv 8 (.string ⟨(Lib.itoa (d) : List UInt8).toArray⟩) ?_
 simp only [p3, p4]
 refine sv 9 (.bool true) ?_
 simp only [p3, p4]
 refine sq_nil ?_
 refine k4 _ _ ?_
 try clear k4 K4
 refine wp_seq_k (fun K6 k6 => ?_)
 refine wp_block ?_
 refine wp_seq_k (fun K7 k7 => ?_)
 refine rg [0, 1, 2, 3, 4] ?_
 refine sv 21 (.string ⟨(X : List UInt8).toArray⟩) ?_
 simp only [p3, p4]
 refine sv 22 (.int .i64 (((X).length : Int))) ?_
 simp only [p3, p4]
 refine sv 23 (.int .i64 (most)) ?_
 simp only [p3, p4]
 refine sw 24 (.bool false) rfl (RunV.bool (x := decide (most < ((X).length : Int))) (rvk (by kernel_rfl)) hl) ?_
 simp only [p3, p4]
 refine sv 20 (.bool false) ?_
 simp only [p3, p4]
 refine sq_nil ?_
 refine k7 _ _ ?_
 try clear k7 K7
 refine wp_cond_false rfl ?_
 refine wp_seq_k (fun K8 k8 => ?_)
 refine rg [0, 1, 2, 3, 4, 5, 6, 7, 8, 9, 10, 11, 12] ?_
 refine sv 27 (.string ⟨(Lib.itoa (z) : List UInt8).toArray⟩) ?_
 simp only [p3, p4]
 refine se ?_
 refine ec 28 (trimprefix_any (Lib.itoa (z)) _) ?_
 rintro e9 w9 ⟨rfl, g9⟩
 refine ⟨_, rfl, ?_⟩
 replace hB := hB.trans g9
 simp only [p3, p4]
 refine se ?_
 refine ec 29 (rdigits_a (strip (Lib.itoa (z))) (by omega) _) ?_
 rintro e10 w10 ⟨rfl, g10⟩
 refine ⟨_, rfl, ?_⟩
 replace hB := hB.trans g10
 simp only [p3, p4]
 refine sw 30 (.bool false) rfl (RunV.bool (x := !(allD (strip (Lib.itoa (z))))) (rvk (by kernel_rfl)) (show (!(allD (strip (Lib.itoa (z))))) = false by rw [h1]; rfl)) ?_
 simp only [p3, p4]
 refine sv 31 (.bool false) ?_
 simp only [p3, p4]
 refine sv 32 (.bool true) ?_
 simp only [p3, p4]
 refine sv 33 (.bool true) ?_
 simp only [p3, p4]
 refine sv 34 (.string ⟨(Lib.itoa (d) : List UInt8).toArray⟩) ?_
 simp only [p3, p4]
 refine se ?_
 refine ec 35 (rdigits_a (Lib.itoa (d)) (by omega) _) ?_
 rintro e11 w11 ⟨rfl, g11⟩
 refine ⟨_, rfl, ?_⟩
 replace hB := hB.trans g11
 simp only [p3, p4]
 refine sw 36 (.bool false) rfl (RunV.bool (x := !(allD (Lib.itoa (d)))) (rvk (by kernel_rfl)) (show (!(allD (Lib.itoa (d)))) = false by rw [h2]; rfl)) ?_
 simp only [p3, p4]
 refine sv 37 (.bool false) ?_
 simp only [p3, p4]
 refine sv 38 (.bool false) ?_
 simp only [p3, p4]
 refine sv 26 (.bool false) ?_
 simp only [p3, p4]
 refine sq_nil ?_
 refine k8 _ _ ?_
 try clear k8 K8
 refine wp_cond_false rfl ?_
 refine wp_seq_k (fun K12 k12 => ?_)
 refine rg [0, 1, 2, 3, 4, 5, 6] ?_
 refine sv 41 (.bool true) ?_
 simp only [p3, p4]
 refine sv 42 (.bool true) ?_
 simp only [p3, p4]
 refine sv 43 (.string ⟨(Lib.itoa (d) : List UInt8).toArray⟩) ?_
 simp only [p3, p4]
 refine se ?_
 refine ec 44 (trim_any0 (Lib.itoa (d)) (by omega) _) ?_
 rintro e13 w13 ⟨rfl, g13⟩
 refine ⟨_, rfl, ?_⟩
 replace hB := hB.trans g13
 simp only [p3, p4]
 refine sw 45 (.bool false) rfl (RunV.bool (x := ((Lib.trimS (Lib.itoa (d)) [48]) == ([] : List UInt8))) (rv_seq 9 9 _ _ (Lib.trimS (Lib.itoa (d)) [48]) ([]) rfl rfl rfl) h4) ?_
 simp only [p3, p4]
 refine sv 46 (.bool false) ?_
 simp only [p3, p4]
 refine sv 40 (.bool false) ?_
 simp only [p3, p4]
 refine sq_nil ?_
 refine k12 _ _ ?_
 try clear k12 K12
 refine wp_cond_false rfl ?_
 refine wp_skip ?_
 refine k6 _ _ ?_
 try clear k6 K6
 refine wp_seq_k (fun K14 k14 => ?_)
 refine rg [0, 1, 2, 3, 4, 5, 6, 7] ?_
 refine sv 49 (.string ⟨(Lib.itoa (z) : List UInt8).toArray⟩) ?_
 simp only [p3, p4]
 refine se ?_
 refine ec 50 (parse_i (z) (itoa_sz (z) (m := 14000) (by omega)) (by omega) _) ?_
 rintro e15 w15 ⟨⟨x15, y15, rfl, h15⟩, g15⟩
 refine ⟨_, rfl, ?_⟩
 replace hB := hB.trans g15
 simp only [p3, p4]
 refine sv 48 (.tuple #[(.agg #[x15, y15]), (.int .i64 0)]) ?_
 simp only [p3, p4]
 refine sv 51 (.agg #[x15, y15]) ?_
 simp only [p3, p4]
 refine sv 52 (.int .i64 0) ?_
 simp only [p3, p4]
 refine se ?_
 refine ea 27 #[(.bool false), (.slice none 0 0)] 10 hB fun b16 w16 g16 L16 o16 q16 hB => ?_
 replace L2 := L2.gr (g5.trans (g9.trans (g10.trans (g11.trans (g13.trans g15)))))
 have ne2_16 := L2.ne o16
 simp only [p3, p4]
 refine se ?_
 refine es 27 0 (.agg #[x15, y15]) [x15, y15] #[x15, y15] L16 hB q16 ⟨h15.one0, h15.one1, trivial⟩ fun w17 st17 kp17 L16 hB => ?_
 refine sv 11 (.int .i64 0) ?_
 simp only [p3, p4]
 refine sq_nil ?_
 refine k14 _ _ ?_
 try clear k14 K14
 refine wp_seq_k (fun K18 k18 => ?_)
 refine wp_seq_k (fun K19 k19 => ?_)
 refine rg [0, 1] ?_
 refine sv 53 (.int .i64 0) ?_
 simp only [p3, p4]
 refine sv 54 (.bool false) ?_
 simp only [p3, p4]
 refine sq_nil ?_
 refine k19 _ _ ?_
 try clear k19 K19
 refine wp_cond_false rfl ?_
 refine wp_skip ?_
 refine k18 _ _ ?_
 try clear k18 K18
 refine wp_seq_k (fun K20 k20 => ?_)
 refine wp_seq_k (fun K21 k21 => ?_)
 refine rg [0, 1] ?_
 refine sv 56 (.bool true) ?_
 simp only [p3, p4]
 refine sv 57 (.bool false) ?_
 simp only [p3, p4]
 refine sq_nil ?_
 refine k21 _ _ ?_
 try clear k21 K21
 refine wp_cond_false rfl ?_
 refine wp_skip ?_
 refine k20 _ _ ?_
 try clear k20 K20
 refine wp_seq_k (fun K22 k22 => ?_)
 refine rg [0, 1, 2, 3, 4, 5, 6, 7] ?_
 refine sv 61 (.string ⟨(Lib.itoa (d) : List UInt8).toArray⟩) ?_
 simp only [p3, p4]
 refine se ?_
 refine ec 62 (parse_i (d) (itoa_sz (d) (m := 14000) (by omega)) (by omega) _) ?_
 rintro e23 w23 ⟨⟨x23, y23, rfl, h23⟩, g23⟩
 refine ⟨_, rfl, ?_⟩
 replace hB := hB.trans g23
 simp only [p3, p4]
 refine sv 60 (.tuple #[(.agg #[x23, y23]), (.int .i64 0)]) ?_
 simp only [p3, p4]
 refine sv 63 (.agg #[x23, y23]) ?_
 simp only [p3, p4]
 refine sv 64 (.int .i64 0) ?_
 simp only [p3, p4]
 refine se ?_
 refine ea 27 #[(.bool false), (.slice none 0 0)] 12 hB fun b24 w24 g24 L24 o24 q24 hB => ?_
 replace L2 := (st17.lc (L2.gr g16) ne2_16).gr g23
 have ne2_24 := L2.ne o24
 replace L16 := L16.gr g23
 have ne16_24 := L16.ne o24
 simp only [p3, p4]
 refine se ?_
 refine es 27 0 (.agg #[x23, y23]) [x23, y23] #[x23, y23] L24 hB q24 ⟨h23.one0, h23.one1, trivial⟩ fun w25 st25 kp25 L24 hB => ?_
 refine sv 11 (.int .i64 0) ?_
 simp only [p3, p4]
 refine sq_nil ?_
 refine k22 _ _ ?_
 try clear k22 K22
 refine wp_seq_k (fun K26 k26 => ?_)
 refine wp_seq_k (fun K27 k27 => ?_)
 have gd41 := Gr.drew w25
 replace hB := hB.trans gd41
 replace L16 := (st25.lc (L16.gr g24) ne16_24).gr gd41
 replace L24 := L24.gr gd41
 refine wp_region_ord (fun w' => Lc w' b16 #[x15, y15] 27 ∧ Lc w' b24 #[x23, y23] 27) [(true, 0), (true, 1), (true, 2), (true, 3), (false, 4), (false, 5), (true, 6), (true, 7), (true, 8), (true, 9), (true, 10), (false, 11), (false, 12), (false, 13), (true, 14), (true, 15)] (by kernel_rfl) (by kernel_rfl) (by kernel_rfl) (by decide) (fun _ _ _ _ _ h => h) ⟨L16, L24⟩ ?_
 refine ov 65 (.int .i64 0) ?_
 simp only [p3, p4]
 refine ov 66 (.bool false) ?_
 simp only [p3, p4]
 refine ov 67 (.bool false) ?_
 simp only [p3, p4]
 refine ow 68 (.agg #[x23, y23]) rfl (fun w' hS => (rl 27 0 [x23, y23] hS.2)) ?_
 simp only [p3, p4]
 refine oe ?_
 refine ec 69 (one_i _) ?_
 rintro e43 w43 ⟨⟨x43, y43, rfl, h43⟩, g43⟩
 refine ⟨_, rfl, ?_⟩
 replace hB := hB.trans g43
 replace L16 := L16.gr g43
 replace L24 := L24.gr g43
 refine ⟨⟨L16, L24⟩, ?_⟩
 simp only [p3, p4]
 refine oe ?_
 have kq46 := g24.kp.trans (kp25.trans (gd41.kp.trans g43.kp))
 replace h23 := h23.kp kq46
 refine ec 70 (compare_i h23 h43 (by omega) (by omega)) ?_
 rintro e45 w45 ⟨rfl, g45⟩
 refine ⟨_, rfl, ?_⟩
 replace hB := hB.trans g45
 replace L16 := L16.gr g45
 replace L24 := L24.gr g45
 refine ⟨⟨L16, L24⟩, ?_⟩
 simp only [p3, p4]
 refine ow 71 (.bool false) rfl (fun w' hS => (RunV.bool (x := (sgn (d - 1) == (0 : Int))) (rvk (by kernel_rfl)) h6)) ?_
 simp only [p3, p4]
 refine ov 72 (.bool false) ?_
 simp only [p3, p4]
 refine ov 73 (.bool false) ?_
 simp only [p3, p4]
 refine ow 74 (.agg #[x15, y15]) rfl (fun w' hS => (rl 27 0 [x15, y15] hS.1)) ?_
 simp only [p3, p4]
 refine ow 75 (.agg #[x23, y23]) rfl (fun w' hS => (rl 27 0 [x23, y23] hS.2)) ?_
 simp only [p3, p4]
 refine oe ?_
 have kq49 := g16.kp.trans (kp17.trans (g23.kp.trans (g24.kp.trans (kp25.trans (gd41.kp.trans (g43.kp.trans g45.kp))))))
 replace h15 := h15.kp kq49
 replace h23 := h23.kp g45.kp
 refine ec 76 (gcd_i h15 h23 (by omega)) ?_
 rintro e48 w48 ⟨⟨x48, y48, rfl, h48⟩, g48⟩
 refine ⟨_, rfl, ?_⟩
 replace hB := hB.trans g48
 replace L16 := L16.gr g48
 replace L24 := L24.gr g48
 refine ⟨⟨L16, L24⟩, ?_⟩
 simp only [p3, p4]
 refine oe ?_
 refine ec 77 (one_i _) ?_
 rintro e51 w51 ⟨⟨x51, y51, rfl, h51⟩, g51⟩
 refine ⟨_, rfl, ?_⟩
 replace hB := hB.trans g51
 replace L16 := L16.gr g51
 replace L24 := L24.gr g51
 refine ⟨⟨L16, L24⟩, ?_⟩
 simp only [p3, p4]
 refine oe ?_
 replace h48 := h48.kp g51.kp
 refine ec 78 (compare_i h48 h51 (by omega) (by omega)) ?_
 rintro e53 w53 ⟨rfl, g53⟩
 refine ⟨_, rfl, ?_⟩
 replace hB := hB.trans g53
 replace L16 := L16.gr g53
 replace L24 := L24.gr g53
 refine ⟨⟨L16, L24⟩, ?_⟩
 simp only [p3, p4]
 refine ow 79 (.bool true) rfl (fun w' hS => (RunV.bool (x := (sgn ((Int.gcd (z) (d) : Int) - 1) != (0 : Int))) (rvk (by kernel_rfl)) h8)) ?_
 simp only [p3, p4]
 refine ov 80 (.bool true) ?_
 simp only [p3, p4]
 refine ord_nil ?_
 refine k27 _ _ ?_
 try clear k27 K27
 refine wp_cond_true rfl ?_
 refine wp_seq_k (fun K54 k54 => ?_)
 refine rg [0, 1, 2] ?_
 refine sv 81 (.agg #[(.bool false), (.slice none 0 0), (.bool false), (.slice none 0 0)]) ?_
 simp only [p3, p4]
 refine se ?_
 replace L2 := (st25.lc (L2.gr g24) ne2_24).gr (gd41.trans (g43.trans (g45.trans (g48.trans (g51.trans g53)))))
 refine es 31 0 (.agg #[(.bool false), (.slice none 0 0), (.bool false), (.slice none 0 0)]) [(.bool false), (.slice none 0 0), (.bool false), (.slice none 0 0)] #[(.bool false), (.slice none 0 0), (.bool false), (.slice none 0 0)] L2 hB q2 ⟨rfl, rfl, rfl, rfl, trivial⟩ fun w55 st55 kp55 L2 hB => ?_
 refine sv 5 (.int .i64 3) ?_
 simp only [p3, p4]
 refine sq_nil ?_
 refine k54 _ _ ?_
 try clear k54 K54
 refine wp_ret ?_
 simp only [Exit.then]
 refine bodyPost_ret (v := (.tuple #[(.agg #[(.bool false), (.slice none 0 0), (.bool false), (.slice none 0 0)]), (.int .i64 3)])) (ret_cell_tmp' _ _ _ rfl rfl L2 (by kernel_rfl) rfl) rfl ⟨?_, hB⟩
 exact rfl

theorem read_bad (X : List UInt8) (most : Nat) (hx : X.length ≤ 14000) (h : ck2 X most ≠ 0) (w : World) (hm : Mx w) :
    Calls Tryz.prog 92 #[(.string ⟨(X : List UInt8).toArray⟩), (.int .i64 (most))] w fun e w' => e = .returned (.tuple #[.agg #[.bool false, .slice none 0 0, .bool false, .slice none 0 0], .int .i64 (ck2 X most)]) ∧ Gr w w' := by
  by_cases hl : most < X.length
  · have e : ck2 X most = 5 := by unfold ck2; rw [if_pos hl]
    rw [e]; exact read_long X most (by omega) (by omega) w hm
  have hl2 : (X.length : Int) ≤ (most : Int) := by omega
  have hcl := cutL_eq X
  have hnl := numL_len X
  rcases hcut : cutL X with ⟨A, _ | D⟩
  · rw [hcut] at hcl hnl
    obtain rfl : X = A := hcl
    have hn : numL X = X := by unfold numL; rw [hcut]
    have hd : denL X = [49] := by unfold denL; rw [hcut]; rfl
    unfold ck2 at h ⊢
    rw [if_neg hl, hn, hd] at h ⊢
    rw [show allD [49] = true from by decide, Bool.and_true] at h ⊢
    by_cases h1 : allD (strip X) = true
    · rw [if_neg (by rw [h1]; decide), if_neg (by decide)] at h ⊢
      by_cases h2 : badZ X = true
      · rw [if_pos (by rw [h2]; rfl)]
        exact read_nf X most hx hl2 hcut h1 h2 w hm
      · rw [Bool.not_eq_true] at h2
        rw [if_neg (by rw [h2]; decide), if_neg (by simp)] at h
        exact absurd rfl h
    · rw [Bool.not_eq_true] at h1
      rw [if_pos h1]
      exact read_ns X most hx hl2 hcut h1 w hm
  · rw [hcut] at hcl hnl
    dsimp only at hcl
    have hn : numL X = A := by unfold numL; rw [hcut]
    have hd : denL X = D := by unfold denL; rw [hcut]; rfl
    have hlen : X.length = A.length + (D.length + 1) := by rw [hcl]; simp
    have hA : A.length ≤ X.length := by omega
    have hD : D.length ≤ X.length := by omega
    unfold ck2 at h ⊢
    rw [if_neg hl, hn, hd] at h ⊢
    by_cases h1 : allD (strip A) = true
    · by_cases h2 : allD D = true
      · rw [h1, h2, if_neg (by decide)] at h ⊢
        by_cases h3 : zerosL D = true
        · rw [if_pos h3]
          exact read_fz X A D most hx hl2 hcut hA hD h1 h2 h3 w hm
        rw [if_neg h3] at h ⊢
        rw [Bool.not_eq_true] at h3
        by_cases h4 : badZ A = true
        · rw [if_pos (by rw [h4]; rfl)]
          exact read_fb1 X A D most hx hl2 hcut hA hD h1 h2 h3 h4 w hm
        rw [Bool.not_eq_true] at h4
        obtain ⟨z, rfl⟩ := form_itoa h1 h4
        have hz : valZ (Lib.itoa z) = z := valZ_itoa z
        by_cases h5 : (D[0]? == some 48) = true
        · rw [if_pos (by rw [h5, Bool.or_true])]
          exact read_fb2 X D z most hx hl2 hcut hA hD h2 (strip_dig h2) h3 (badZ_head h2 h3 h5) w hm
        rw [Bool.not_eq_true] at h5
        obtain ⟨e1, e2⟩ := den_text h2 h5
        obtain ⟨d, hd1⟩ : ∃ d : Int, d = (valL D : Int) := ⟨_, rfl⟩
        have e3 : Lib.itoa d = D := by rw [hd1, itoa_nonneg (by omega), Int.natAbs_natCast]; exact e1
        subst e3
        have hv : valZ (Lib.itoa d) = d := valZ_itoa d
        rw [if_neg (by rw [h4, h5]; decide), hz, hv] at h ⊢
        have hlt : decide ((Lib.itoa z).length < X.length) = true := by simp; omega
        rw [hlt, Bool.true_and] at h ⊢
        by_cases h6 : d = 1
        · rw [if_pos (by rw [h6, itoa_one]; rfl)]
          exact read_g1 X z d most hx hl2 hcut hA hD h2 h3 h6 w hm
        · by_cases h7 : Int.gcd z d = 1
          · rw [if_neg (by rw [h7]; simp; intro e; exact h6 (itoa_inj (by rw [e, itoa_one])))] at h
            exact absurd rfl h
          · rw [if_pos (by simp [h7])]
            exact read_g2 X z d most hx hl2 hcut hA hD h2 h3 h6 h7 w hm
      · rw [Bool.not_eq_true] at h2
        rw [if_pos (by rw [h2, Bool.and_false])]
        exact read_fs2 X A D most hx hl2 hcut hA hD h1 h2 w hm
    · rw [Bool.not_eq_true] at h1
      rw [if_pos (by rw [h1]; rfl)]
      exact read_fs1 X A D most hx hl2 hcut hA hD h1 w hm

set_option maxRecDepth 100000 in
set_option maxHeartbeats 1000000 in
theorem rparse_bad (X : List UInt8) (hx : X.length ≤ 14000) (h : ck2 X 400 ≠ 0) (w : World) (hm : Mx w) :
    Calls Tryz.prog 25 #[(.string ⟨(X : List UInt8).toArray⟩)] w fun e w' => e = .returned (.tuple #[.agg #[.bool false, .slice none 0 0, .bool false, .slice none 0 0], .int .i64 (ck2 X 400)]) ∧ Gr w w' := by
 go_enter Tryz.func25, Tryz.ntmps25
 have hB := Gr.refl w
 refine wp_seq_k (fun K1 k1 => ?_)
 refine rg [0, 1] ?_
 refine se ?_
 refine ea 31 #[(.bool false), (.slice none 0 0), (.bool false), (.slice none 0 0)] 2 hB fun b2 w2 g2 L2 o2 q2 hB => ?_
 simp only [p3, p4]
 refine sv 3 (.int .i64 0) ?_
 simp only [p3, p4]
 refine sq_nil ?_
 refine k1 _ _ ?_
 try clear k1 K1
 refine wp_seq_k (fun K3 k3 => ?_)
 refine rg [0, 1, 2, 3, 4, 5] ?_
 refine sv 4 (.string ⟨(X : List UInt8).toArray⟩) ?_
 simp only [p3, p4]
 refine se ?_
 refine ec 5 (read_bad X 400 hx h _ (hm.gr hB)) ?_
 rintro e4 w4 ⟨rfl, g4⟩
 refine ⟨_, rfl, ?_⟩
 replace hB := hB.trans g4
 simp only [p3, p4]
 refine sv 6 (.agg #[(.bool false), (.slice none 0 0), (.bool false), (.slice none 0 0)]) ?_
 simp only [p3, p4]
 refine sv 7 (.int .i64 (ck2 X 400)) ?_
 simp only [p3, p4]
 refine se ?_
 replace L2 := L2.gr g4
 refine es 31 0 (.agg #[(.bool false), (.slice none 0 0), (.bool false), (.slice none 0 0)]) [(.bool false), (.slice none 0 0), (.bool false), (.slice none 0 0)] #[(.bool false), (.slice none 0 0), (.bool false), (.slice none 0 0)] L2 hB q2 ⟨rfl, rfl, rfl, rfl, trivial⟩ fun w5 st5 kp5 L2 hB => ?_
 refine sv 3 (.int .i64 (ck2 X 400)) ?_
 simp only [p3, p4]
 refine sq_nil ?_
 refine k3 _ _ ?_
 try clear k3 K3
 refine wp_ret ?_
 refine bodyPost_ret (v := (.tuple #[(.agg #[(.bool false), (.slice none 0 0), (.bool false), (.slice none 0 0)]), (.int .i64 (ck2 X 400))])) (ret_cell_tmp' _ _ _ rfl rfl L2 (by kernel_rfl) rfl) rfl ⟨?_, hB⟩
 exact rfl

set_option maxRecDepth 100000 in
set_option maxHeartbeats 1000000 in
theorem rparse_long (X : List UInt8) (hx : X.length ≤ 1000000) (h : (400 : Int) < (X.length : Int)) (w : World) (hm : Mx w) :
    Calls Tryz.prog 25 #[(.string ⟨(X : List UInt8).toArray⟩)] w fun e w' => e = .returned (.tuple #[.agg #[.bool false, .slice none 0 0, .bool false, .slice none 0 0], .int .i64 5]) ∧ Gr w w' := by
 go_enter Tryz.func25, Tryz.ntmps25
 have hB := Gr.refl w
 refine wp_seq_k (fun K1 k1 => ?_)
 refine rg [0, 1] ?_
 refine se ?_
 refine ea 31 #[(.bool false), (.slice none 0 0), (.bool false), (.slice none 0 0)] 2 hB fun b2 w2 g2 L2 o2 q2 hB => ?_
 simp only [p3, p4]
 refine sv 3 (.int .i64 0) ?_
 simp only [p3, p4]
 refine sq_nil ?_
 refine k1 _ _ ?_
 try clear k1 K1
 refine wp_seq_k (fun K3 k3 => ?_)
 refine rg [0, 1, 2, 3, 4, 5] ?_
 refine sv 4 (.string ⟨(X : List UInt8).toArray⟩) ?_
 simp only [p3, p4]
 refine se ?_
 refine ec 5 (read_long X 400 hx h _ (hm.gr hB)) ?_
 rintro e4 w4 ⟨rfl, g4⟩
 refine ⟨_, rfl, ?_⟩
 replace hB := hB.trans g4
 simp only [p3, p4]
 refine sv 6 (.agg #[(.bool false), (.slice none 0 0), (.bool false), (.slice none 0 0)]) ?_
 simp only [p3, p4]
 refine sv 7 (.int .i64 5) ?_
 simp only [p3, p4]
 refine se ?_
 replace L2 := L2.gr g4
 refine es 31 0 (.agg #[(.bool false), (.slice none 0 0), (.bool false), (.slice none 0 0)]) [(.bool false), (.slice none 0 0), (.bool false), (.slice none 0 0)] #[(.bool false), (.slice none 0 0), (.bool false), (.slice none 0 0)] L2 hB q2 ⟨rfl, rfl, rfl, rfl, trivial⟩ fun w5 st5 kp5 L2 hB => ?_
 refine sv 3 (.int .i64 5) ?_
 simp only [p3, p4]
 refine sq_nil ?_
 refine k3 _ _ ?_
 try clear k3 K3
 refine wp_ret ?_
 refine bodyPost_ret (v := (.tuple #[(.agg #[(.bool false), (.slice none 0 0), (.bool false), (.slice none 0 0)]), (.int .i64 5)])) (ret_cell_tmp' _ _ _ rfl rfl L2 (by kernel_rfl) rfl) rfl ⟨?_, hB⟩
 exact rfl

set_option maxRecDepth 100000 in
set_option maxHeartbeats 1000000 in
theorem rread_bad (X : List UInt8) (hx : X.length ≤ 14000) (h : ck2 X 65536 ≠ 0) (w : World) (hm : Mx w) :
    Calls Tryz.prog 26 #[(.string ⟨(X : List UInt8).toArray⟩)] w fun e w' => e = .returned (.tuple #[.agg #[.bool false, .slice none 0 0, .bool false, .slice none 0 0], .int .i64 (ck2 X 65536)]) ∧ Gr w w' := by
 go_enter Tryz.func26, Tryz.ntmps26
 have hB := Gr.refl w
 refine wp_seq_k (fun K1 k1 => ?_)
 refine rg [0, 1] ?_
 refine se ?_
 refine ea 31 #[(.bool false), (.slice none 0 0), (.bool false), (.slice none 0 0)] 2 hB fun b2 w2 g2 L2 o2 q2 hB => ?_
 simp only [p3, p4]
 refine sv 3 (.int .i64 0) ?_
 simp only [p3, p4]
 refine sq_nil ?_
 refine k1 _ _ ?_
 try clear k1 K1
 refine wp_seq_k (fun K3 k3 => ?_)
 refine rg [0, 1, 2, 3, 4, 5] ?_
 refine sv 4 (.string ⟨(X : List UInt8).toArray⟩) ?_
 simp only [p3, p4]
 refine se ?_
 refine ec 5 (read_bad X 65536 hx h _ (hm.gr hB)) ?_
 rintro e4 w4 ⟨rfl, g4⟩
 refine ⟨_, rfl, ?_⟩
 replace hB := hB.trans g4
 simp only [p3, p4]
 refine sv 6 (.agg #[(.bool false), (.slice none 0 0), (.bool false), (.slice none 0 0)]) ?_
 simp only [p3, p4]
 refine sv 7 (.int .i64 (ck2 X 65536)) ?_
 simp only [p3, p4]
 refine se ?_
 replace L2 := L2.gr g4
 refine es 31 0 (.agg #[(.bool false), (.slice none 0 0), (.bool false), (.slice none 0 0)]) [(.bool false), (.slice none 0 0), (.bool false), (.slice none 0 0)] #[(.bool false), (.slice none 0 0), (.bool false), (.slice none 0 0)] L2 hB q2 ⟨rfl, rfl, rfl, rfl, trivial⟩ fun w5 st5 kp5 L2 hB => ?_
 refine sv 3 (.int .i64 (ck2 X 65536)) ?_
 simp only [p3, p4]
 refine sq_nil ?_
 refine k3 _ _ ?_
 try clear k3 K3
 refine wp_ret ?_
 refine bodyPost_ret (v := (.tuple #[(.agg #[(.bool false), (.slice none 0 0), (.bool false), (.slice none 0 0)]), (.int .i64 (ck2 X 65536))])) (ret_cell_tmp' _ _ _ rfl rfl L2 (by kernel_rfl) rfl) rfl ⟨?_, hB⟩
 exact rfl

set_option maxRecDepth 100000 in
set_option maxHeartbeats 1000000 in
theorem rread_long (X : List UInt8) (hx : X.length ≤ 1000000) (h : (65536 : Int) < (X.length : Int)) (w : World) (hm : Mx w) :
    Calls Tryz.prog 26 #[(.string ⟨(X : List UInt8).toArray⟩)] w fun e w' => e = .returned (.tuple #[.agg #[.bool false, .slice none 0 0, .bool false, .slice none 0 0], .int .i64 5]) ∧ Gr w w' := by
 go_enter Tryz.func26, Tryz.ntmps26
 have hB := Gr.refl w
 refine wp_seq_k (fun K1 k1 => ?_)
 refine rg [0, 1] ?_
 refine se ?_
 refine ea 31 #[(.bool false), (.slice none 0 0), (.bool false), (.slice none 0 0)] 2 hB fun b2 w2 g2 L2 o2 q2 hB => ?_
 simp only [p3, p4]
 refine sv 3 (.int .i64 0) ?_
 simp only [p3, p4]
 refine sq_nil ?_
 refine k1 _ _ ?_
 try clear k1 K1
 refine wp_seq_k (fun K3 k3 => ?_)
 refine rg [0, 1, 2, 3, 4, 5] ?_
 refine sv 4 (.string ⟨(X : List UInt8).toArray⟩) ?_
 simp only [p3, p4]
 refine se ?_
 refine ec 5 (read_long X 65536 hx h _ (hm.gr hB)) ?_
 rintro e4 w4 ⟨rfl, g4⟩
 refine ⟨_, rfl, ?_⟩
 replace hB := hB.trans g4
 simp only [p3, p4]
 refine sv 6 (.agg #[(.bool false), (.slice none 0 0), (.bool false), (.slice none 0 0)]) ?_
 simp only [p3, p4]
 refine sv 7 (.int .i64 5) ?_
 simp only [p3, p4]
 refine se ?_
 replace L2 := L2.gr g4
 refine es 31 0 (.agg #[(.bool false), (.slice none 0 0), (.bool false), (.slice none 0 0)]) [(.bool false), (.slice none 0 0), (.bool false), (.slice none 0 0)] #[(.bool false), (.slice none 0 0), (.bool false), (.slice none 0 0)] L2 hB q2 ⟨rfl, rfl, rfl, rfl, trivial⟩ fun w5 st5 kp5 L2 hB => ?_
 refine sv 3 (.int .i64 5) ?_
 simp only [p3, p4]
 refine sq_nil ?_
 refine k3 _ _ ?_
 try clear k3 K3
 refine wp_ret ?_
 refine bodyPost_ret (v := (.tuple #[(.agg #[(.bool false), (.slice none 0 0), (.bool false), (.slice none 0 0)]), (.int .i64 5)])) (ret_cell_tmp' _ _ _ rfl rfl L2 (by kernel_rfl) rfl) rfl ⟨?_, hB⟩
 exact rfl

end Go.Proofs.YtloocadjbpgldaaGreatDoor
/- Strings of zero bytes, made of slices of bytes. -/
namespace Go.Proofs.YtloocadjbpgldaaGreatDoor
open Go.RowKit

def zs (n : Nat) : List UInt8 := List.replicate n 0
theorem zs_len (n : Nat) : (zs n).length = n := List.length_replicate
theorem zs_size (n : Nat) : (⟨(zs n).toArray⟩ : ByteArray).size = n := by
  show (zs n).toArray.size = n
  rw [List.size_toArray, zs_len]
theorem zs_bytes {w : World} {b n : Nat} {t : TypeId} (h : Lc w b (madeCells #[.int .u8 0] n) t) : Lib.Bytes w b 0 ⟨(zs n).toArray⟩ := by
  intro i hi
  have hn : i < n := by rw [zs_size] at hi; exact hi
  have e1 : (zs n)[i]? = some 0 := by unfold zs; rw [List.getElem?_replicate, if_pos hn]
  rw [Nat.zero_add, cells_of h, ← Array.getElem?_toList, toList_madeCells_one, List.getElem?_replicate, if_pos hn, getElem_toList (l := zs n) (by simp) hi e1]
  rfl
theorem rcz {P : Program} {a : Act} {o : Oper} {w : World} {x : Operand} {b : Nat} (src dst e n : Nat) (hL : Lc w b (madeCells #[.int .u8 0] n) e) (hop : o.op = .convert src dst x) (hx : a.eval x = .slice (some ⟨b, 0, none⟩) n n)
    (hs : P.underlying src = some (.slice e)) (he : P.underlying e = some (.int .u8)) (hd : P.underlying dst = some .string) : RunV P a o w (.string ⟨(zs n).toArray⟩) := by
  have h := Lib.run_convert_whole w src e dst hs he hd b 0 ⟨(zs n).toArray⟩ (zs_bytes hL) n
  rw [zs_size] at h
  unfold RunV execOp
  simp only [hop, hx, Sem.run_bind, h, Result.andThen_ok, Sem.run_pure]
theorem rparse_z (w : World) (hm : Mx w) : Calls Tryz.prog 25 #[.string ⟨(zs 401).toArray⟩] w fun e w' => e = .returned (.tuple #[.agg #[.bool false, .slice none 0 0, .bool false, .slice none 0 0], .int .i64 5]) ∧ Gr w w' :=
  rparse_long (zs 401) (by rw [zs_len]; omega) (by rw [zs_len]; omega) w hm
theorem rread_z (w : World) (hm : Mx w) : Calls Tryz.prog 26 #[.string ⟨(zs 65537).toArray⟩] w fun e w' => e = .returned (.tuple #[.agg #[.bool false, .slice none 0 0, .bool false, .slice none 0 0], .int .i64 5]) ∧ Gr w w' :=
  rread_long (zs 65537) (by rw [zs_len]; omega) (by rw [zs_len]; omega) w hm
theorem ck2_most {X : List UInt8} {m n : Nat} (h1 : X.length ≤ m) (h2 : X.length ≤ n) : ck2 X m = ck2 X n := by
  unfold ck2
  rw [if_neg (show ¬ m < X.length by omega), if_neg (show ¬ n < X.length by omega)]
end Go.Proofs.YtloocadjbpgldaaGreatDoor
/- What RationalReads makes: digits of a text, repeated behind a 7. -/
namespace Go.Proofs.YtloocadjbpgldaaGreatDoor
open Go.RowKit

def dgs (X : List UInt8) : List UInt8 := X.map fun c => 48 + c % 10
def rep (X : List UInt8) (j : Nat) : List UInt8 := 55 :: (List.replicate j (dgs X)).flatten
theorem dgs_len (X : List UInt8) : (dgs X).length = X.length := by simp [dgs]
theorem rep_len (X : List UInt8) (j : Nat) : (rep X j).length = 1 + j * X.length := by
  unfold rep
  rw [List.length_cons, List.length_flatten, List.map_replicate, List.sum_replicate_nat, dgs_len]
  omega
theorem rep_succ (X : List UInt8) (j : Nat) : rep X j ++ dgs X = rep X (j + 1) := by
  unfold rep
  rw [List.replicate_succ', List.flatten_append, List.cons_append]
  simp
theorem dgs_dig (c : UInt8) : 48 ≤ (48 + c % 10).toNat ∧ (48 + c % 10).toNat ≤ 57 := by
  have : (48 + c % 10).toNat = 48 + c.toNat % 10 := by
    rw [UInt8.toNat_add, UInt8.toNat_mod]
    simp
    omega
  omega
theorem dgs_val (c : UInt8) : (((48 + c % 10 : UInt8)).toNat : Int) = 48 + (c.toNat : Int) % 10 := by
  have : (48 + c % 10).toNat = 48 + c.toNat % 10 := by
    rw [UInt8.toNat_add, UInt8.toNat_mod]
    simp
    omega
  rw [this]; omega
theorem rep_all (X : List UInt8) (j : Nat) : ∀ c ∈ rep X j, 48 ≤ c.toNat ∧ c.toNat ≤ 57 := by
  intro c hc
  unfold rep at hc
  rcases List.mem_cons.1 hc with e | e
  · subst e; decide
  · obtain ⟨l, hl, hcl⟩ := List.mem_flatten.1 e
    have : l = dgs X := (List.mem_replicate.1 hl).2
    subst this
    obtain ⟨d, _, rfl⟩ := List.mem_map.1 hcl
    exact dgs_dig d
theorem rep_rat (X : List UInt8) (j : Nat) (hx : X.length ≤ 60) (hj : j ≤ 20) : ∃ q : Rat, rep X j = ratL q ∧ (Sz 4804 q.num ∧ Sz 4804 (q.den : Int)) ∧ (ratL q).length ≤ 1201 := by
  have hl : (rep X j).length ≤ 1201 := by
    rw [rep_len]
    have : j * X.length ≤ 20 * 60 := Nat.mul_le_mul hj hx
    omega
  have h7 : strip (rep X j) = rep X j := by unfold rep; rw [strip_cons, if_neg (by decide)]
  have h1 : allD (strip (rep X j)) = true := by
    rw [h7]
    unfold allD
    rw [Bool.and_eq_true, decide_eq_true_eq, List.all_eq_true]
    exact ⟨by rw [rep_len]; omega, fun c hc => isD_iff.2 (rep_all X j c hc)⟩
  have h2 : badZ (rep X j) = false := by
    unfold badZ
    rw [h7]
    have : ((rep X j)[0]? == some 48) = false := by unfold rep; rfl
    rw [this, Bool.false_and]
  obtain ⟨z, hz⟩ := form_itoa h1 h2
  refine ⟨(z : Rat), by rw [ratL_iz]; exact hz, ?_, by rw [ratL_iz, ← hz]; exact hl⟩
  have hs := itoa_sz z (m := 1201) (by rw [← hz]; exact hl)
  have h1 : ∀ k, 1 ≤ k → Sz k (((z : Rat).den : Nat) : Int) := fun k hk => Sz.mono (k := 1) (show Sz 1 ((1 : Nat) : Int) by unfold Sz; decide) hk
  rw [show 4 * 1201 = 4804 from rfl] at hs
  exact ⟨hs, h1 _ (by omega)⟩
/-- a slice of one byte that has just been made -/
theorem own_lc {w : World} {b B : Nat} {u : Value} {T : TypeId} (h : Lc w b #[u] T) (hb : B ≤ b) : OwnS w T B (.slice (some ⟨b, 0, none⟩) 1 1) [u] :=
  ⟨rfl, .inr ⟨b, 1, #[u], rfl, hb, h, Nat.le_refl _, by unfold maxLen; omega, rfl, rfl⟩⟩
theorem own_dig {w : World} {T B : Nat} {v : Value} {L : List UInt8} {c : UInt8} (h : OwnS w T B v (bvals L ++ [.int .u8 (48 + (c.toNat : Int) % 10)])) : OwnS w T B v (bvals (L ++ [48 + c % 10])) := by
  rw [bvals_snoc, dgs_val]; exact h
theorem own_take {w : World} {T B : Nat} {v : Value} {L X : List UInt8} {i : Nat} (hi : i < X.length) (h : OwnS w T B v (bvals ((L ++ (dgs X).take i) ++ [48 + X.getD i 0 % 10]))) : OwnS w T B v (bvals (L ++ (dgs X).take (i + 1))) := by
  have e : (dgs X).take (i + 1) = (dgs X).take i ++ [48 + X.getD i 0 % 10] := by
    rw [List.take_add_one]
    congr 1
    simp [dgs, hi]
  rw [e, ← List.append_assoc]; exact h
theorem own_rep {w : World} {T B : Nat} {v : Value} {X : List UInt8} {i j : Nat} (hi : X.length ≤ i) (h : OwnS w T B v (bvals (rep X j ++ (dgs X).take i))) : OwnS w T B v (bvals (rep X (j + 1))) := by
  rw [List.take_of_length_le (by rw [dgs_len]; exact hi), rep_succ] at h
  exact h
theorem rv_sidx {P : Program} {a : Act} {o : Oper} {w : World} (t : TypeId) (x y : Operand) (X : List UInt8) (i : Nat) (hi : i < X.length) (hop : o.op = .index t x y) (hx : a.eval x = .string ⟨X.toArray⟩) (hy : a.eval y = .int .i64 (i : Int))
    (ht : P.underlying t = some .string) : RunV P a o w (.int .u8 ((X.getD i 0).toNat : Int)) := by
  have h := run_index_string (P := P) w t ⟨X.toArray⟩ .i64 (i : Int) ht
  have hs : (⟨X.toArray⟩ : ByteArray).size = X.length := by show X.toArray.size = _; simp
  rw [dif_pos ⟨by omega, by rw [hs]; omega⟩, getElem_toList (l := X) (c := X.getD i 0) (by simp) _ (by simp [hi])] at h
  unfold RunV execOp
  simp only [hop, hx, hy, Sem.run_bind, h, Result.andThen_ok, Sem.run_pure]
theorem rv_bconv {a : Act} {o : Oper} {w : World} {x : Operand} {B : Nat} {v : Value} {l : List UInt8} (h : OwnS w 5 B v (bvals l)) (hp : l ≠ []) (hop : o.op = .convert 43 9 x) (hx : a.eval x = v) :
    RunV Tryz.prog a o w (.string ⟨l.toArray⟩) := by
  obtain ⟨g, cap, rfl, hc⟩ := h.conv hp
  unfold RunV execOp
  simp only [hop, hx, Sem.run_bind, hc, Result.andThen_ok, Sem.run_pure]
end Go.Proofs.YtloocadjbpgldaaGreatDoor
/- Printed by a program of the prover's: RationalReads. -/
namespace Go.Proofs.YtloocadjbpgldaaGreatDoor
open Go.RowKit

set_option maxRecDepth 100000 in
set_option maxHeartbeats 1000000 in
theorem reads_l (X : List UInt8) (tt : Int) (_h1 : 60 < X.length) (w : World) (ht : Tab w) (_hm : Mx w) :
    Calls Tryz.prog 5 #[(.string ⟨(X : List UInt8).toArray⟩), (.int .u8 (tt))] w fun e w' => e = .returned (.bool true) ∧ Gr w w' := by
 have hl : decide ((60 : Int) < ((X).length : Int)) = true := by simp; omega
 go_enter Tryz.func5, Tryz.ntmps5
 have hB := Gr.refl w
 refine wp_seq_k (fun K1 k1 => ?_)
 refine rg [0] ?_
 refine sv 4 (.bool false) ?_
 simp only [p3, p4]
 refine sq_nil ?_
 refine k1 _ _ ?_
 try clear k1 K1
 refine wp_seq_k (fun K2 k2 => ?_)
 refine wp_seq_k (fun K3 k3 => ?_)
 refine rg [0, 1, 2, 3, 4, 5, 6] ?_
 refine se ?_
 refine ec 12 (known2 _ (ht.gr hB)) ?_
 rintro e4 w4 ⟨rfl, g4⟩
 refine ⟨_, rfl, ?_⟩
 replace hB := hB.trans g4
 simp only [p3, p4]
 refine sv 13 (.bool false) ?_
 simp only [p3, p4]
 refine sv 14 (.bool false) ?_
 simp only [p3, p4]
 refine sv 15 (.string ⟨(X : List UInt8).toArray⟩) ?_
 simp only [p3, p4]
 refine sv 16 (.int .i64 (((X).length : Int))) ?_
 simp only [p3, p4]
 refine sw 17 (.bool true) rfl (RunV.bool (x := decide ((60 : Int) < ((X).length : Int))) (rvk (by kernel_rfl)) hl) ?_
 simp only [p3, p4]
 refine sv 18 (.bool true) ?_
 simp only [p3, p4]
 refine sq_nil ?_
 refine k3 _ _ ?_
 try clear k3 K3
 refine wp_cond_true rfl ?_
 refine wp_seq_k (fun K5 k5 => ?_)
 refine rg [0, 1] ?_
 refine se ?_
 refine ec 19 (known2 _ (ht.gr hB)) ?_
 rintro e6 w6 ⟨rfl, g6⟩
 refine ⟨_, rfl, ?_⟩
 replace hB := hB.trans g6
 simp only [p3, p4]
 refine sv 4 (.bool true) ?_
 simp only [p3, p4]
 refine sq_nil ?_
 refine k5 _ _ ?_
 try clear k5 K5
 refine wp_ret ?_
 simp only [Exit.then]
 refine bodyPost_ret (v := (.bool true)) (ret_tmp rfl rfl) rfl ⟨?_, hB⟩
 exact rfl

theorem lawRs0  : (ratL (0) == ([48] : List UInt8)) = true := ratL_litw (by kernel_rfl) (itoa_litp 0 (by kernel_rfl) (by decide))
set_option maxRecDepth 100000 in
set_option maxHeartbeats 1000000 in
theorem reads_q (X : List UInt8) (tt : Int) (_h0 : 0 ≤ tt ∧ tt ≤ 255) (hx : X.length ≤ 60) (w : World) (ht : Tab w) (hm : Mx w) :
    Calls Tryz.prog 5 #[(.string ⟨(X : List UInt8).toArray⟩), (.int .u8 (tt))] w fun e w' => e = .returned (.bool true) ∧ Gr w w' := by
 have hl : decide ((60 : Int) < ((X).length : Int)) = false := by simp; omega
 go_enter Tryz.func5, Tryz.ntmps5
 have hB := Gr.refl w
 refine wp_seq_k (fun K1 k1 => ?_)
 refine rg [0] ?_
 refine sv 4 (.bool false) ?_
 simp only [p3, p4]
 refine sq_nil ?_
 refine k1 _ _ ?_
 try clear k1 K1
 refine wp_seq_k (fun K2 k2 => ?_)
 refine wp_seq_k (fun K3 k3 => ?_)
 refine rg [0, 1, 2, 3, 4, 5, 6] ?_
 refine se ?_
 refine ec 12 (known2 _ (ht.gr hB)) ?_
 rintro e4 w4 ⟨rfl, g4⟩
 refine ⟨_, rfl, ?_⟩
 replace hB := hB.trans g4
 simp only [p3, p4]
 refine sv 13 (.bool false) ?_
 simp only [p3, p4]
 refine sv 14 (.bool false) ?_
 simp only [p3, p4]
 refine sv 15 (.string ⟨(X : List UInt8).toArray⟩) ?_
 simp only [p3, p4]
 refine sv 16 (.int .i64 (((X).length : Int))) ?_
 simp only [p3, p4]
 refine sw 17 (.bool false) rfl (RunV.bool (x := decide ((60 : Int) < ((X).length : Int))) (rvk (by kernel_rfl)) hl) ?_
 simp only [p3, p4]
 refine sv 18 (.bool false) ?_
 simp only [p3, p4]
 refine sq_nil ?_
 refine k3 _ _ ?_
 try clear k3 K3
 refine wp_cond_false rfl ?_
 refine wp_skip ?_
 refine k2 _ _ ?_
 try clear k2 K2
 refine wp_seq_k (fun K5 k5 => ?_)
 refine rg [0, 1] ?_
 refine se ?_
 refine eff_bs 5 1 #[(.int .u8 55)] (some 20) rfl (fun _ => by kernel_rfl) (fun b6 w6 g6 L6 q6 => ?_)
 replace q6 := Nat.le_trans (Below.size hB) q6
 replace hB := hB.trans g6
 simp only [putl, p3, p4]
 refine sv 5 (.slice (some ⟨b6, 0, none⟩) 1 1) ?_
 simp only [p3, p4]
 refine sq_nil ?_
 refine k5 _ _ ?_
 try clear k5 K5
 refine wp_seq_k (fun K7 k7 => ?_)
 refine wp_seq_k (fun K8 k8 => ?_)
 refine rg [0, 1, 2] ?_
 refine sv 21 (.int .u8 (tt)) ?_
 simp only [p3, p4]
 refine sw 22 (.int .u8 ((tt % 21))) rfl (RunV.int (x := Int.tmod (tt) 21) (y := tt % 21) (rvk (by kernel_rfl)) (by rw [Int.tmod_eq_emod_of_nonneg (by first | omega | exact Int.natCast_nonneg _)])) ?_
 simp only [p3, p4]
 refine sv 23 (.int .u8 0) ?_
 simp only [p3, p4]
 refine sq_nil ?_
 refine k8 _ _ ?_
 try clear k8 K8
 refine wp_block ?_
 refine wp_loop_inv (a := ⟨List.toArray ?l9, []⟩) (fun n a w' => ∃ (j : Nat) (v : Value) (u9 : Nat → Value), (tt % 21).toNat - j = n ∧ a = ⟨[(.string ⟨(X : List UInt8).toArray⟩), (u9 1), undef, undef, (.bool false), v, (u9 6), undef, undef, undef, undef, undef, (u9 12), (u9 13), (u9 14), (u9 15), (u9 16), (u9 17), (.bool false), undef, (u9 20), (u9 21), (.int .u8 ((tt % 21))), (.int .u8 ((j : Int))), (u9 24), (u9 25), (u9 26), (u9 27), (u9 28), (u9 29), (u9 30), (u9 31), (u9 32), (u9 33), (u9 34), (u9 35), (u9 36), (u9 37), (u9 38), (u9 39), undef, undef, undef, undef, undef, undef, undef, undef, undef, undef, undef, undef, undef, undef, undef, undef, undef, undef, undef, undef, undef, undef, undef, undef, undef, undef, undef, undef, undef, undef, undef, undef, undef, undef, undef, undef].toArray, []⟩ ∧ (j : Int) ≤ tt % 21 ∧ OwnS w' 5 w.heap.size v (bvals (rep X j)) ∧ Gr w w') ((tt % 21).toNat - 0) ?_ ?_
 ·exact ⟨0, (.slice (some ⟨b6, 0, none⟩) 1 1), (fun i => List.getD ?l9 i undef), rfl, rfl, (by omega), (own_lc L6 q6), hB⟩
 rintro n9 a9 w9 ⟨j, v, u9, rfl, rfl, hj, hown, hB⟩ K9 k9
 refine wp_seq_k (fun K10 k10 => ?_)
 refine rg [0] ?_
 refine sv 24 (.bool (decide ((j : Int) < (tt % 21)))) ?_
 simp only [p3, p4]
 refine sq_nil ?_
 refine k10 _ _ ?_
 try clear k10 K10
 refine wp_seq_k (fun K11 k11 => ?_)
 refine wp_cond_split (t := decide ((j : Int) < (tt % 21))) rfl (fun hb12 => ?_) (fun hb12 => ?_)
 ·refine wp_skip ?_
  refine k11 _ _ ?_
  try clear k11 K11
  refine wp_seq_k (fun K13 k13 => ?_)
  refine wp_block ?_
  refine wp_seq_k (fun K14 k14 => ?_)
  refine rg [0] ?_
  refine sv 6 (.int .i64 0) ?_
  simp only [p3, p4]
  refine sq_nil ?_
  refine k14 _ _ ?_
  try clear k14 K14
  refine wp_block ?_
  refine wp_loop_inv (a := ⟨List.toArray ?l15, []⟩) (fun n a w' => ∃ (i : Nat) (vi : Value) (u15 : Nat → Value), X.length - i = n ∧ a = ⟨[(.string ⟨(X : List UInt8).toArray⟩), (u15 1), undef, undef, (.bool false), vi, (.int .i64 ((i : Int))), undef, undef, undef, undef, undef, (u15 12), (u15 13), (u15 14), (u15 15), (u15 16), (u15 17), (.bool false), undef, (u15 20), (u15 21), (.int .u8 ((tt % 21))), (.int .u8 ((j : Int))), (.bool (decide ((j : Int) < (tt % 21)))), (u15 25), (u15 26), (u15 27), (u15 28), (u15 29), (u15 30), (u15 31), (u15 32), (u15 33), (u15 34), (u15 35), (u15 36), (u15 37), (u15 38), (u15 39), undef, undef, undef, undef, undef, undef, undef, undef, undef, undef, undef, undef, undef, undef, undef, undef, undef, undef, undef, undef, undef, undef, undef, undef, undef, undef, undef, undef, undef, undef, undef, undef, undef, undef, undef, undef].toArray, []⟩ ∧ i ≤ X.length ∧ OwnS w' 5 w.heap.size vi (bvals (rep X j ++ (dgs X).take i)) ∧ Gr w w') (X.length - 0) ?_ ?_
  ·exact ⟨0, v, (fun i => List.getD ?l15 i undef), rfl, rfl, (Nat.zero_le _), (by rw [List.take_zero, List.append_nil]; exact hown), hB⟩
  rintro n15 a15 w15 ⟨i, vi, u15, rfl, rfl, hi, howi, hB⟩ K15 k15
  have hll : (bvals (rep X j ++ (dgs X).take i)).length ≤ 1000000 := by rw [bvals_length, List.length_append, rep_len]; have := List.length_take_le i (dgs X); have : j * X.length ≤ 20 * 60 := Nat.mul_le_mul (by omega) hx; rw [List.length_take] at *; omega
  refine wp_seq_k (fun K16 k16 => ?_)
  refine wp_seq_k (fun K17 k17 => ?_)
  refine rg [0, 1, 2, 3] ?_
  refine sv 25 (.int .i64 ((i : Int))) ?_
  simp only [p3, p4]
  refine sv 26 (.string ⟨(X : List UInt8).toArray⟩) ?_
  simp only [p3, p4]
  refine sv 27 (.int .i64 (((X).length : Int))) ?_
  simp only [p3, p4]
  refine sv 28 (.bool (decide ((i : Int) < ((X).length : Int)))) ?_
  simp only [p3, p4]
  refine sq_nil ?_
  refine k17 _ _ ?_
  try clear k17 K17
  refine wp_cond_split (t := decide ((i : Int) < ((X).length : Int))) rfl (fun hb18 => ?_) (fun hb18 => ?_)
  ·have hlt := of_decide_eq_true hb18
   refine wp_skip ?_
   refine k16 _ _ ?_
   try clear k16 K16
   refine wp_seq_k (fun K19 k19 => ?_)
   refine wp_block ?_
   refine rg [0, 1, 2, 3, 4, 5, 6, 7, 8] ?_
   refine sv 31 vi ?_
   simp only [p3, p4]
   refine sv 32 (.string ⟨(X : List UInt8).toArray⟩) ?_
   simp only [p3, p4]
   refine sv 33 (.int .i64 ((i : Int))) ?_
   simp only [p3, p4]
   refine sw 34 (.int .u8 (((X).getD i 0).toNat)) rfl (rv_sidx 9 _ _ X i (by omega) rfl rfl rfl (by kernel_rfl)) ?_
   simp only [p3, p4]
   refine sw 35 (.int .u8 ((((X).getD i 0).toNat % 10))) rfl (RunV.int (x := Int.tmod (((X).getD i 0).toNat) 10) (y := ((X).getD i 0).toNat % 10) (rvk (by kernel_rfl)) (by rw [Int.tmod_eq_emod_of_nonneg (by first | omega | exact Int.natCast_nonneg _)])) ?_
   simp only [p3, p4]
   refine sw 36 (.int .u8 ((48 + (((X).getD i 0).toNat % 10)))) rfl (RunV.int (x := IntKind.u8.wrap ((48 + (((X).getD i 0).toNat % 10)))) (y := (48 + (((X).getD i 0).toNat % 10))) (rvk (by kernel_rfl)) (by first | rfl | (rw [IntKind.wrap_u8]; omega))) ?_
   simp only [p3, p4]
   refine se ?_
   refine eff_bs 5 1 #[(.int .u8 ((48 + (((X).getD i 0).toNat % 10))))] (some 37) rfl (fun _ => by kernel_rfl) (fun b20 w20 g20 L20 q20 => ?_)
   replace hB := hB.trans g20
   simp only [putl, p3, p4]
   refine se ?_
   replace howi := howi.gr g20
   refine eff_append1 _ _ 43 5 w.heap.size (.int .u8 0) vi _ b20 (.int .u8 ((48 + (((X).getD i 0).toNat % 10)))) 1 (some 38) 1 rfl rfl rfl rfl howi L20 rfl w hB (Nat.le_refl _) (Below.size hB) hll (by decide) (by kernel_rfl) (by kernel_rfl) rfl (fun v21 w21 own21 wt21 hb21 => ?_)
   replace hB := hb21
   replace own21 := own_dig own21
   simp only [putl, p3, p4]
   refine sv 5 v21 ?_
   simp only [p3, p4]
   refine sq_nil ?_
   refine k19 _ _ ?_
   try clear k19 K19
   refine rg [0, 1, 2] ?_
   refine sv 29 (.int .i64 ((i : Int))) ?_
   simp only [p3, p4]
   refine sw 30 (.int .i64 (((i : Int) + 1))) rfl (RunV.int (x := IntKind.i64.wrap (((i : Int) + 1))) (y := ((i : Int) + 1)) (rvk (by kernel_rfl)) (by first | rfl | (rw [IntKind.wrap_i64]; omega))) ?_
   simp only [p3, p4]
   refine sv 6 (.int .i64 (((i : Int) + 1))) ?_
   simp only [p3, p4]
   refine sq_nil ?_
   refine k15 (X.length - (i + 1)) ⟨List.toArray ?l22, []⟩ _ (by have := of_decide_eq_true hb18; omega) ?_
   exact ⟨i + 1, v21, (fun i => List.getD ?l22 i undef), rfl, rfl, (by have := of_decide_eq_true hb18; omega), (own_take (by have := of_decide_eq_true hb18; omega) own21), hB⟩
  ·refine wp_exit ?_
   simp only [Exit.then, Exit.inBlock, ↓reduceIte]
   refine k13 _ _ ?_
   try clear k13 K13
   refine rg [0, 1] ?_
   refine sw 39 (.int .u8 (((j : Int) + 1))) rfl (RunV.int (x := IntKind.u8.wrap (((j : Int) + 1))) (y := ((j : Int) + 1)) (rvk (by kernel_rfl)) (by first | rfl | (rw [IntKind.wrap_u8]; omega))) ?_
   simp only [p3, p4]
   refine sv 23 (.int .u8 (((j : Int) + 1))) ?_
   simp only [p3, p4]
   refine sq_nil ?_
   refine k9 ((tt % 21).toNat - (j + 1)) ⟨List.toArray ?l23, []⟩ _ (by have := of_decide_eq_true hb12; omega) ?_
   exact ⟨j + 1, vi, (fun i => List.getD ?l23 i undef), rfl, rfl, (by have := of_decide_eq_true hb12; omega), (own_rep (by have := of_decide_eq_false hb18; omega) howi), hB⟩
 ·obtain ⟨qz, hqz, hsz, hql⟩ := rep_rat X j hx (by omega)
  rw [hqz] at hown
  have qz_ne : ratL qz ≠ [] := by rw [← hqz]; unfold rep; exact List.cons_ne_nil _ _
  refine wp_exit ?_
  simp only [Exit.then, Exit.inBlock, ↓reduceIte]
  refine k7 _ _ ?_
  try clear k7 K7
  refine wp_seq_k (fun K24 k24 => ?_)
  refine rg [0, 1, 2] ?_
  refine sv 40 v ?_
  simp only [p3, p4]
  refine sw 41 (.string ⟨(ratL (qz) : List UInt8).toArray⟩) rfl (rv_bconv hown (by have := qz_ne; exact this) rfl rfl) ?_
  simp only [p3, p4]
  refine sv 7 (.string ⟨(ratL (qz) : List UInt8).toArray⟩) ?_
  simp only [p3, p4]
  refine sq_nil ?_
  refine k24 _ _ ?_
  try clear k24 K24
  refine wp_seq_k (fun K25 k25 => ?_)
  refine rg [0, 1, 2, 3, 4, 5, 6, 7] ?_
  refine sv 43 (.string ⟨(ratL (qz) : List UInt8).toArray⟩) ?_
  simp only [p3, p4]
  refine se ?_
  refine ec 44 (readr_q qz hsz (by omega) (by omega) (by omega) _ (hm.gr hB)) ?_
  rintro e26 w26 ⟨⟨cc26_0, cc26_1, cc26_2, cc26_3, rfl, h26⟩, g26⟩
  refine ⟨_, rfl, ?_⟩
  replace hB := hB.trans g26
  simp only [p3, p4]
  refine sv 42 (.tuple #[(.agg #[cc26_0, cc26_1, cc26_2, cc26_3]), (.int .i64 0)]) ?_
  simp only [p3, p4]
  refine sv 45 (.agg #[cc26_0, cc26_1, cc26_2, cc26_3]) ?_
  simp only [p3, p4]
  refine sv 46 (.int .i64 0) ?_
  simp only [p3, p4]
  refine se ?_
  refine ea 31 #[(.bool false), (.slice none 0 0), (.bool false), (.slice none 0 0)] 8 hB fun b27 w27 g27 L27 o27 q27 hB => ?_
  simp only [p3, p4]
  refine se ?_
  refine es 31 0 (.agg #[cc26_0, cc26_1, cc26_2, cc26_3]) [cc26_0, cc26_1, cc26_2, cc26_3] #[cc26_0, cc26_1, cc26_2, cc26_3] L27 hB q27 ⟨h26.one0, h26.one1, h26.one2, h26.one3, trivial⟩ fun w28 st28 kp28 L27 hB => ?_
  refine sv 9 (.int .i64 0) ?_
  simp only [p3, p4]
  refine sq_nil ?_
  refine k25 _ _ ?_
  try clear k25 K25
  refine wp_seq_k (fun K29 k29 => ?_)
  refine rg [0, 1, 2, 3, 4, 5, 6, 7] ?_
  refine sv 48 (.string ⟨(ratL (qz) : List UInt8).toArray⟩) ?_
  simp only [p3, p4]
  refine se ?_
  rcases Bool.eq_false_or_eq_true (decide ((400 : Int) < ((ratL (qz)).length : Int))) with hb30 | hb30
  ·refine ec 49 (rparse_long (ratL qz) (by omega) (of_decide_eq_true hb30) _ (hm.gr hB)) ?_
   rintro e31 w31 ⟨rfl, g31⟩
   refine ⟨_, rfl, ?_⟩
   replace hB := hB.trans g31
   simp only [p3, p4]
   refine sv 47 (.tuple #[(.agg #[(.bool false), (.slice none 0 0), (.bool false), (.slice none 0 0)]), (.int .i64 5)]) ?_
   simp only [p3, p4]
   refine sv 50 (.agg #[(.bool false), (.slice none 0 0), (.bool false), (.slice none 0 0)]) ?_
   simp only [p3, p4]
   refine sv 51 (.int .i64 5) ?_
   simp only [p3, p4]
   refine se ?_
   refine ea 31 #[(.bool false), (.slice none 0 0), (.bool false), (.slice none 0 0)] 10 hB fun b32 w32 g32 L32 o32 q32 hB => ?_
   replace L27 := L27.gr g31
   have ne27_32 := L27.ne o32
   simp only [p3, p4]
   refine se ?_
   refine es 31 0 (.agg #[(.bool false), (.slice none 0 0), (.bool false), (.slice none 0 0)]) [(.bool false), (.slice none 0 0), (.bool false), (.slice none 0 0)] #[(.bool false), (.slice none 0 0), (.bool false), (.slice none 0 0)] L32 hB q32 ⟨rfl, rfl, rfl, rfl, trivial⟩ fun w33 st33 kp33 L32 hB => ?_
   refine sv 11 (.int .i64 5) ?_
   simp only [p3, p4]
   refine sq_nil ?_
   refine k29 _ _ ?_
   try clear k29 K29
   refine wp_seq_k (fun K34 k34 => ?_)
   refine wp_seq_k (fun K35 k35 => ?_)
   refine rg [0, 1, 2, 3, 4, 5, 6, 7] ?_
   refine sv 52 (.int .i64 0) ?_
   simp only [p3, p4]
   refine sv 53 (.bool false) ?_
   simp only [p3, p4]
   refine sv 54 (.bool false) ?_
   simp only [p3, p4]
   replace L27 := st33.lc (L27.gr g32) ne27_32
   refine sw 55 (.agg #[cc26_0, cc26_1, cc26_2, cc26_3]) rfl (rl 31 0 [cc26_0, cc26_1, cc26_2, cc26_3] L27) ?_
   simp only [p3, p4]
   refine sv 56 (.string ⟨(ratL (qz) : List UInt8).toArray⟩) ?_
   simp only [p3, p4]
   refine se ?_
   have kq37 := g27.kp.trans (kp28.trans (g31.kp.trans (g32.kp.trans kp33)))
   replace h26 := h26.kp kq37
   refine ec 57 (is_q (ratL (qz)) h26 (by omega) (ht.gr hB)) ?_
   rintro e36 w36 ⟨rfl, g36⟩
   refine ⟨_, rfl, ?_⟩
   replace hB := hB.trans g36
   simp only [p3, p4]
   have hb38 : ((ratL (qz)) == (ratL (qz))) = true := (text_lit rfl)
   refine sw 58 (.bool false) rfl (RunV.bool (x := !((ratL (qz)) == (ratL (qz)))) (rvk (by kernel_rfl)) (show (!((ratL (qz)) == (ratL (qz)))) = false by rw [hb38]; rfl)) ?_
   simp only [p3, p4]
   refine sv 59 (.bool false) ?_
   simp only [p3, p4]
   refine sq_nil ?_
   refine k35 _ _ ?_
   try clear k35 K35
   refine wp_cond_false rfl ?_
   refine wp_skip ?_
   refine k34 _ _ ?_
   try clear k34 K34
   refine wp_seq_k (fun K39 k39 => ?_)
   refine wp_seq_k (fun K40 k40 => ?_)
   refine rg [0, 1, 2] ?_
   refine sv 60 (.string ⟨(ratL (qz) : List UInt8).toArray⟩) ?_
   simp only [p3, p4]
   refine sv 61 (.int .i64 (((ratL (qz)).length : Int))) ?_
   simp only [p3, p4]
   refine sw 62 (.bool true) rfl (RunV.bool (x := decide ((400 : Int) < ((ratL (qz)).length : Int))) (rvk (by kernel_rfl)) hb30) ?_
   simp only [p3, p4]
   refine sq_nil ?_
   refine k40 _ _ ?_
   try clear k40 K40
   refine wp_cond_true rfl ?_
   refine wp_seq_k (fun K41 k41 => ?_)
   refine rg [0, 1, 2, 3, 4, 5, 6] ?_
   refine sv 63 (.int .i64 5) ?_
   simp only [p3, p4]
   refine sv 64 (.bool true) ?_
   simp only [p3, p4]
   refine sv 65 (.bool true) ?_
   simp only [p3, p4]
   replace L32 := L32.gr g36
   refine sw 66 (.agg #[(.bool false), (.slice none 0 0), (.bool false), (.slice none 0 0)]) rfl (rl 31 0 [(.bool false), (.slice none 0 0), (.bool false), (.slice none 0 0)] L32) ?_
   simp only [p3, p4]
   refine se ?_
   refine ec 67 (is_q ([48]) (IsRat.zero _ (k := 64) (Nat.le_refl _)) (by omega) (ht.gr hB)) ?_
   rintro e42 w42 ⟨rfl, g42⟩
   refine ⟨_, rfl, ?_⟩
   replace hB := hB.trans g42
   simp only [p3, p4]
   have hb43 : ((ratL (0)) == (([48] : List UInt8))) = true := (lawRs0  )
   refine sw 68 (.bool true) rfl (RunV.bool (x := (ratL (0)) == (([48] : List UInt8))) (rvk (by kernel_rfl)) hb43) ?_
   simp only [p3, p4]
   refine sv 4 (.bool true) ?_
   simp only [p3, p4]
   refine sq_nil ?_
   refine k41 _ _ ?_
   try clear k41 K41
   refine wp_ret ?_
   simp only [Exit.then]
   refine bodyPost_ret (v := (.bool true)) (ret_tmp rfl rfl) rfl ⟨?_, hB⟩
   exact rfl
  ·refine ec 49 (parse_q qz hsz (by omega) (by omega) (by have := of_decide_eq_false hb30; omega) _ (hm.gr hB)) ?_
   rintro e44 w44 ⟨⟨cc44_0, cc44_1, cc44_2, cc44_3, rfl, h44⟩, g44⟩
   refine ⟨_, rfl, ?_⟩
   replace hB := hB.trans g44
   simp only [p3, p4]
   refine sv 47 (.tuple #[(.agg #[cc44_0, cc44_1, cc44_2, cc44_3]), (.int .i64 0)]) ?_
   simp only [p3, p4]
   refine sv 50 (.agg #[cc44_0, cc44_1, cc44_2, cc44_3]) ?_
   simp only [p3, p4]
   refine sv 51 (.int .i64 0) ?_
   simp only [p3, p4]
   refine se ?_
   refine ea 31 #[(.bool false), (.slice none 0 0), (.bool false), (.slice none 0 0)] 10 hB fun b45 w45 g45 L45 o45 q45 hB => ?_
   replace L27 := L27.gr g44
   have ne27_45 := L27.ne o45
   simp only [p3, p4]
   refine se ?_
   refine es 31 0 (.agg #[cc44_0, cc44_1, cc44_2, cc44_3]) [cc44_0, cc44_1, cc44_2, cc44_3] #[cc44_0, cc44_1, cc44_2, cc44_3] L45 hB q45 ⟨h44.one0, h44.one1, h44.one2, h44.one3, trivial⟩ fun w46 st46 kp46 L45 hB => ?_
   refine sv 11 (.int .i64 0) ?_
   simp only [p3, p4]
   refine sq_nil ?_
   refine k29 _ _ ?_
   try clear k29 K29
   refine wp_seq_k (fun K47 k47 => ?_)
   refine wp_seq_k (fun K48 k48 => ?_)
   refine rg [0, 1, 2, 3, 4, 5, 6, 7] ?_
   refine sv 52 (.int .i64 0) ?_
   simp only [p3, p4]
   refine sv 53 (.bool false) ?_
   simp only [p3, p4]
   refine sv 54 (.bool false) ?_
   simp only [p3, p4]
   replace L27 := st46.lc (L27.gr g45) ne27_45
   refine sw 55 (.agg #[cc26_0, cc26_1, cc26_2, cc26_3]) rfl (rl 31 0 [cc26_0, cc26_1, cc26_2, cc26_3] L27) ?_
   simp only [p3, p4]
   refine sv 56 (.string ⟨(ratL (qz) : List UInt8).toArray⟩) ?_
   simp only [p3, p4]
   refine se ?_
   have kq50 := g27.kp.trans (kp28.trans (g44.kp.trans (g45.kp.trans kp46)))
   replace h26 := h26.kp kq50
   refine ec 57 (is_q (ratL (qz)) h26 (by omega) (ht.gr hB)) ?_
   rintro e49 w49 ⟨rfl, g49⟩
   refine ⟨_, rfl, ?_⟩
   replace hB := hB.trans g49
   simp only [p3, p4]
   have hb51 : ((ratL (qz)) == (ratL (qz))) = true := (text_lit rfl)
   refine sw 58 (.bool false) rfl (RunV.bool (x := !((ratL (qz)) == (ratL (qz)))) (rvk (by kernel_rfl)) (show (!((ratL (qz)) == (ratL (qz)))) = false by rw [hb51]; rfl)) ?_
   simp only [p3, p4]
   refine sv 59 (.bool false) ?_
   simp only [p3, p4]
   refine sq_nil ?_
   refine k48 _ _ ?_
   try clear k48 K48
   refine wp_cond_false rfl ?_
   refine wp_skip ?_
   refine k47 _ _ ?_
   try clear k47 K47
   refine wp_seq_k (fun K52 k52 => ?_)
   refine wp_seq_k (fun K53 k53 => ?_)
   refine rg [0, 1, 2] ?_
   refine sv 60 (.string ⟨(ratL (qz) : List UInt8).toArray⟩) ?_
   simp only [p3, p4]
   refine sv 61 (.int .i64 (((ratL (qz)).length : Int))) ?_
   simp only [p3, p4]
   refine sw 62 (.bool false) rfl (RunV.bool (x := decide ((400 : Int) < ((ratL (qz)).length : Int))) (rvk (by kernel_rfl)) hb30) ?_
   simp only [p3, p4]
   refine sq_nil ?_
   refine k53 _ _ ?_
   try clear k53 K53
   refine wp_cond_false rfl ?_
   refine wp_skip ?_
   refine k52 _ _ ?_
   try clear k52 K52
   refine wp_seq_k (fun K54 k54 => ?_)
   refine rg [0, 1, 2, 3, 4, 5, 6, 7] ?_
   refine sv 69 (.int .i64 0) ?_
   simp only [p3, p4]
   refine sv 70 (.bool true) ?_
   simp only [p3, p4]
   refine sv 71 (.bool true) ?_
   simp only [p3, p4]
   replace L45 := L45.gr g49
   refine sw 72 (.agg #[cc44_0, cc44_1, cc44_2, cc44_3]) rfl (rl 31 0 [cc44_0, cc44_1, cc44_2, cc44_3] L45) ?_
   simp only [p3, p4]
   refine sv 73 (.string ⟨(ratL (qz) : List UInt8).toArray⟩) ?_
   simp only [p3, p4]
   refine se ?_
   have kq56 := g45.kp.trans (kp46.trans g49.kp)
   replace h44 := h44.kp kq56
   refine ec 74 (is_q (ratL (qz)) h44 (by omega) (ht.gr hB)) ?_
   rintro e55 w55 ⟨rfl, g55⟩
   refine ⟨_, rfl, ?_⟩
   replace hB := hB.trans g55
   simp only [p3, p4]
   refine sw 75 (.bool true) rfl (RunV.bool (x := (ratL (qz)) == (ratL (qz))) (rvk (by kernel_rfl)) hb51) ?_
   simp only [p3, p4]
   refine sv 4 (.bool true) ?_
   simp only [p3, p4]
   refine sq_nil ?_
   refine k54 _ _ ?_
   try clear k54 K54
   refine wp_ret ?_
   refine bodyPost_ret (v := (.bool true)) (ret_tmp rfl rfl) rfl ⟨?_, hB⟩
   exact rfl

theorem rational_reads (X : List UInt8) (tt : Int) (h0 : 0 ≤ tt ∧ tt ≤ 255) (w : World) (ht : Tab w) (hm : Mx w) :
    Calls Tryz.prog 5 #[(.string ⟨(X : List UInt8).toArray⟩), .int .u8 tt] w fun e w' => e = .returned (.bool true) ∧ Gr w w' := by
  by_cases h1 : X.length ≤ 60
  · exact reads_q X tt h0 h1 w ht hm
  · exact reads_l X tt (by omega) w ht hm

end Go.Proofs.YtloocadjbpgldaaGreatDoor
/- The law RationalReads holds of every input: its row, and its card tied to the program's text. Printed by a program of the prover's. -/
namespace Go.Proofs.YtloocadjbpgldaaGreatDoor
open Go.ChangeShapes Go.WideShapes Go.ChangeAt Go.RowKit

theorem rationalReads_table {W : World} (h : laidMetH Tryz.prog Rows.rationalReadsRow.laid W) : Tab W :=
  Lib.tabIs_of_head (rest := _) (g := 2) (t := 171) (e := 84) (n := 20) (by kernel_rfl) (by kernel_rfl) (by kernel_rfl) (by kernel_rfl) (by kernel_rfl) (by kernel_rfl) ((show laidMet Tryz.prog Rows.rationalReadsRow.laid W from (MakeChecks.laidMetH_plain _ _ _ (by kernel_rfl)) ▸ h).tail.tail)
theorem rationalReads_maxlen {W : World} (h : W.ShapedOpen Tryz.prog) : Mx W :=
  Go.Proofs.cell_of_shapedOpen_int (zero := #[.int .i64 0]) (g := 3) (t := 3) h (of_decide_eq_true (by kernel_rfl)) (by kernel_rfl) rfl (by kernel_rfl) (by kernel_rfl) Tryz.underlying3
set_option maxRecDepth 100000 in
theorem rationalReads_contract (H : Type) (enc : TypeId × Value → H) (W : World) (base : Nat) (args : Array Value) (ds gs : List (DataW H)) (before : List MemPlace)
    (hval : ∀ (j : Nat) t v, Tryz.f5.params[j]? = some t → args[j]? = some v → Value.okWide Tryz.prog W .any base t v)
    (hW : DataW.Whole enc Tryz.prog Tryz.f5.params.toList Rows.rationalReadsSpec.vars false W args.toList ds gs before) (hL : laidMetH Tryz.prog Rows.rationalReadsRow.laid W) (hsh : W.ShapedOpen Tryz.prog) :
    Calls Tryz.prog 5 args W fun e W' => ∃ v, e = .returned v ∧ Rows.rationalReadsSpec.post enc Tryz.prog Tryz.f5 false true false false W args v W' := by
  have hW' := hW
  obtain ⟨p, q, hA0, hV, rfl, hfz, hnd⟩ := hW
  have hA : DataW.TrodAll enc Tryz.prog W 0 (fun _ => true) true Tryz.f5.params.toList args.toList ds p := hA0
  rw [Tryz.params5] at hA hval
  obtain ⟨v0, vs0, d0, ds0, p0, q0, hargs, rfl, rfl, h0, r0⟩ := trodAll_cons hA
  obtain ⟨v1, vs1, d1, ds1, p1, q1, rfl, rfl, rfl, h1, r1⟩ := trodAll_cons r0
  obtain ⟨rfl, rfl, rfl⟩ := trodAll_nil r1
  obtain rfl : args = #[v0, v1] := by cases args; simp_all
  obtain ⟨rfl, rfl⟩ := trodVars_none hV
  obtain ⟨n0_0, rfl⟩ := open_text (by kernel_rfl) (hval 0 9 v0 rfl rfl)
  obtain ⟨n1_0, rfl, b1_0⟩ := open_cell (k := .u8) (by kernel_rfl) (hval 1 5 v1 rfl rfl)
  refine (rational_reads n0_0 n1_0 (has_u8 b1_0) W (rationalReads_table hL) (rationalReads_maxlen hsh)).mono fun e W' ⟨he, hg⟩ => ?_
  subst he
  exact ⟨_, rfl, law_post (tb := 4) laidOut (by kernel_rfl) (by kernel_rfl) (by kernel_rfl) rfl hW' rfl hg⟩
noncomputable def rationalReads_world (os : Os) : World := World.laidAll Tryz.prog os Rows.rationalReadsRow.laid
theorem rationalReads_met (os : Os) : laidMet Tryz.prog Rows.rationalReadsRow.laid ((rationalReads_world os).forCall (fun _ _ => 0) ⟨#[], #[.string ⟨#[]⟩, .int .u8 0], []⟩).memory :=
  laidMet_laidAll _ (by kernel_rfl) (by kernel_rfl)
theorem rationalReads_reads (os : Os) {H : Type} (enc : TypeId × Value → H) : ∃ places, DataW.whole enc Tryz.prog ((rationalReads_world os).forCall (fun _ _ => 0) ⟨#[], #[.string ⟨#[]⟩, .int .u8 0], []⟩).memory Tryz.f5.params.toList Rows.rationalReadsSpec.vars false (#[.string ⟨#[]⟩, .int .u8 0] : Array Value).toList 8 = some ([.lit (.string []), .lit (.int .u8 0)], [], places) :=
  ⟨[], by kernel_rfl⟩
set_option maxRecDepth 100000 in
theorem rationalReads_lifted (os : Os) (started : os.Started) (H : Type) (enc : TypeId × Value → H) (F : Stop.Interp) :
    ReturnsInHanded {} Tryz.checked os 5 .any ((OpenSpec.ofChange Rows.rationalReadsSpec).preRow enc Tryz.prog Tryz.f5 Rows.rationalReadsRow.domain false Rows.rationalReadsRow.laid) (((OpenSpec.ofChange Rows.rationalReadsSpec).at F).post enc Tryz.prog Tryz.f5 false true false false) := by
  obtain ⟨places, hx⟩ := rationalReads_reads os enc
  refine returnsInHanded_of_row (C := Tryz.checked) (s := OpenSpec.ofChange Rows.rationalReadsSpec) own started (by kernel_rfl) Tryz.func5
    (witness_row_sh (enc := enc) (C := Tryz.checked) false (rationalReads_world os) #[.string ⟨#[]⟩, .int .u8 0] (World.laidAll_os _ _ _) (World.shaped_of_ZipB (by kernel_rfl) (by kernel_rfl)) (by kernel_rfl)
      (OpenSpec.preRow_of_cond 8 hx (by kernel_rfl) (fun k hk => by cases hk) (by kernel_rfl) (by rw [MakeChecks.laidMetH_plain _ _ _ (by kernel_rfl)]; exact rationalReads_met os))) ?_
  intro W base args ds gs before hval hW _ _ _ hL hsh _
  exact rationalReads_contract H enc W base args ds gs before hval hW hL hsh
theorem rationalReads_said : Rows.RationalReadsSaid :=
  OpenClaim.holds_of_cond 5 Tryz.f5 rfl rfl rfl rfl rfl rfl rfl ⟨rfl, rfl, rfl, rfl, rfl⟩ rfl rfl rfl rfl rfl (by kernel_rfl) Tryz.func5 (by kernel_rfl)
    (of_decide_eq_true (by kernel_rfl)) (by unfold Func.isWrapper; first | (rw [if_pos (by decide +kernel)]; kernel_rfl) | (rw [if_neg (by decide +kernel)]; exact ⟨rfl, rfl⟩))
    (fun os started H enc _ F => by rw [OpenClaim.pre_eq_preRow]; exact rationalReads_lifted os started H enc F)
theorem rationalReads_plain (f : FuncId) (fn : Func) (hf : Tryz.pinned.checked.prog.funcNamed "dowel/dowellaw02.RationalReads" = some f) (hfn : Tryz.pinned.checked.prog.funcs[f]? = some fn) :
    true = Tryz.pinned.checked.prog.looks [] ∧ ∀ (j : Nat) t, fn.params[j]? = some t → Tryz.pinned.checked.prog.wantsStandIn t = false := by
  obtain rfl : f = 5 := Option.some.inj ((show Tryz.prog.funcNamed "dowel/dowellaw02.RationalReads" = some 5 by kernel_rfl).symm.trans hf) |>.symm
  obtain rfl : fn = Tryz.f5 := (Option.some.inj (Tryz.func5.symm.trans hfn)).symm
  refine ⟨by kernel_rfl, fun j t ht => ?_⟩
  rw [Tryz.params5] at ht
  have hm := Array.mem_of_getElem? ht
  have hall : (#[9, 5] : Array TypeId).toList.all (fun t => !Tryz.prog.wantsStandIn t) = true := by kernel_rfl
  have := List.all_eq_true.1 hall t (Array.mem_toList_iff.2 hm)
  have h3 : Tryz.prog.wantsStandIn t = false := by simpa using this
  exact h3
/-- the card -/
theorem rationalReads_card : Rows.RationalReadsCardSaid :=
  Claim7.holds_tied_plain_at .later [] _ _ _ _ rationalReads_said (fun _ h => by cases h) (by kernel_rfl) (fun _ h => by cases h) rationalReads_row_tie rfl ⟨rfl, rfl⟩ (by kernel_rfl) rfl rationalReads_plain (by kernel_rfl)
end Go.Proofs.YtloocadjbpgldaaGreatDoor
